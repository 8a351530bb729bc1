/-
  The machinery: abstract values, an abstract heap of own objects, the relation to the machine, and the rules by which a function is walked. It holds of every program.
-/
import Derived.Test.YtbjhhaklecljdaaGreatA1
import Derived.Deep.Slices
import Derived.Shelf.SlSortCmp.InsertionK
import Derived.ProofKit
import Derived.SizedLaws
import Derived.Carry
section
set_option linter.unusedVariables false
set_option linter.unusedSimpArgs false
namespace Go.Aw

abbrev EL := List (Nat × AV)
abbrev HL := List (Nat × AObj)

def remK {α : Type} (d : Nat) : List (Nat × α) → List (Nat × α)
  | [] => []
  | (t, x) :: l => if t = d then remK d l else (t, x) :: remK d l
def putE (dst : Option Nat) (v : AV) (e : EL) : EL :=
  match dst with
  | some d => (d, v) :: remK d e
  | none => e

theorem mkE_remK (d : Nat) : ∀ (l : EL) (s : Nat), mkE (remK d l) s = if s = d then .undef else mkE l s
  | [], s => by simp [remK, mkE]
  | (t, x) :: l, s => by
    simp only [remK]
    split
    · rename_i h
      subst h
      rw [mkE_remK t l s]
      split
      · rfl
      · rename_i h; simp [mkE, h]
    · rename_i h
      simp only [mkE]
      split
      · rename_i h2
        subst h2
        rw [if_neg h]
      · rw [mkE_remK d l s]
theorem mkH_remK (d : Nat) : ∀ (l : HL) (s : Nat), mkH (remK d l) s = if s = d then none else mkH l s
  | [], s => by simp [remK, mkH]
  | (t, x) :: l, s => by
    simp only [remK]
    split
    · rename_i h
      subst h
      rw [mkH_remK t l s]
      split
      · rfl
      · rename_i h; simp [mkH, h]
    · rename_i h
      simp only [mkH]
      split
      · rename_i h2
        subst h2
        rw [if_neg h]
      · rw [mkH_remK d l s]
theorem mkE_put (d : Nat) (v : AV) (l : EL) : mkE ((d, v) :: remK d l) = updE (mkE l) d v := by
  funext s
  simp only [mkE, updE, mkE_remK]
  split <;> simp_all
theorem mkH_put (o : Nat) (x : AObj) (l : HL) : mkH ((o, x) :: remK o l) = updH (mkH l) o (some x) := by
  funext s
  simp only [mkH, updH, mkH_remK]
  split <;> simp_all
theorem mkH_del (o : Nat) (l : HL) : mkH (remK o l) = updH (mkH l) o none := by
  funext s
  simp only [updH, mkH_remK]
theorem putE_put (dst : Option Nat) (v : AV) (e : EL) (h : Hp) : St.put ⟨mkE e, h⟩ dst v = ⟨mkE (putE dst v e), h⟩ := by
  cases dst with
  | none => rfl
  | some d => simp only [St.put, putE, mkE_put]

/-- Nothing leads to the object n. -/
def noRefE (n : Nat) : EL → Prop
  | [] => True
  | (_, v) :: l => v.has n = false ∧ noRefE n l
def noRefH (n : Nat) : HL → Prop
  | [] => True
  | (o, x) :: l => o ≠ n ∧ x.has n = false ∧ noRefH n l
def FreshL (S : List Nat) (e : EL) (h : HL) (n : Nat) : Prop := n ∉ S ∧ noRefE n e ∧ noRefH n h

theorem noRefE_get {n : Nat} : ∀ {e : EL}, noRefE n e → ∀ t, (mkE e t).has n = false
  | [], _, t => rfl
  | (s, v) :: l, h, t => by
    simp only [mkE]
    split
    · exact h.1
    · exact noRefE_get h.2 t
theorem noRefH_get {n : Nat} : ∀ {h : HL}, noRefH n h → mkH h n = none ∧ ∀ o x, mkH h o = some x → x.has n = false
  | [], _ => ⟨rfl, fun o x hx => by cases hx⟩
  | (s, v) :: l, h => by
    obtain ⟨h1, h2, h3⟩ := h
    obtain ⟨k1, k2⟩ := noRefH_get h3
    refine ⟨by simp only [mkH]; rw [if_neg (fun e => h1 e.symm)]; exact k1, fun o x hx => ?_⟩
    simp only [mkH] at hx
    split at hx
    · injection hx with hx; subst hx; exact h2
    · exact k2 o x hx
theorem FreshL.fresh {C : Cx} {e : EL} {h : HL} {n : Nat} (hf : FreshL C.S e h n) : Fresh C ⟨mkE e, mkH h⟩ n :=
  ⟨hf.1, (noRefH_get hf.2.2).1, noRefE_get hf.2.1, (noRefH_get hf.2.2).2⟩

def AM.lwp {α : Type} (n : Nat) (fr : Prop) : AM α → HL → (α → HL → Prop) → Prop
  | .pure a, h, Q => Q a h
  | .fail, _, _ => False
  | .guard c k, h, Q => c ∧ k.lwp n fr h Q
  | .get o k, h, Q => match mkH h o with
    | some x => (k x).lwp n fr h Q
    | none => False
  | .put o x k, h, Q => (mkH h o).isSome ∧ k.lwp n fr ((o, x) :: remK o h) Q
  | .new x k, h, Q => fr ∧ x.has n = false ∧ (k n).lwp n fr ((n, x) :: remK n h) Q
  | .del o k, h, Q => k.lwp n fr (remK o h) Q

theorem AM.lwp_wp {α : Type} {n : Nat} {fr fr' : Prop} (hfr : fr → fr') : ∀ {m : AM α} {h : HL} {Q : α → HL → Prop} {Q' : α → Hp → Prop}, m.lwp n fr h Q → (∀ x h', Q x h' → Q' x (mkH h')) → m.wp n fr' (mkH h) Q'
  | .pure a, h, Q, Q', hm, hq => hq _ _ hm
  | .fail, h, Q, Q', hm, hq => hm
  | .guard c k, h, Q, Q', hm, hq => ⟨hm.1, AM.lwp_wp hfr hm.2 hq⟩
  | .get o k, h, Q, Q', hm, hq => by
    simp only [AM.lwp, AM.wp] at *
    cases hx : mkH h o with
    | none => rw [hx] at hm; exact hm
    | some x => rw [hx] at hm; exact AM.lwp_wp hfr hm hq
  | .put o x k, h, Q, Q', hm, hq => by
    refine ⟨hm.1, ?_⟩
    rw [← mkH_put]
    exact AM.lwp_wp hfr hm.2 hq
  | .new x k, h, Q, Q', hm, hq => by
    refine ⟨hfr hm.1, hm.2.1, ?_⟩
    rw [← mkH_put]
    exact AM.lwp_wp hfr hm.2.2 hq
  | .del o k, h, Q, Q', hm, hq => by
    simp only [AM.wp]
    rw [← mkH_del]
    exact AM.lwp_wp (m := k) hfr hm hq

theorem AM.lwp_mono {α : Type} {n : Nat} {fr : Prop} : ∀ {m : AM α} {h : HL} {Q Q' : α → HL → Prop}, m.lwp n fr h Q → (∀ x h', Q x h' → Q' x h') → m.lwp n fr h Q'
  | .pure a, h, Q, Q', hm, hq => hq _ _ hm
  | .fail, h, Q, Q', hm, hq => hm
  | .guard c k, h, Q, Q', hm, hq => ⟨hm.1, AM.lwp_mono hm.2 hq⟩
  | .get o k, h, Q, Q', hm, hq => by
    simp only [AM.lwp] at *
    cases hx : mkH h o with
    | none => rw [hx] at hm; exact hm
    | some x => rw [hx] at hm; exact AM.lwp_mono hm hq
  | .put o x k, h, Q, Q', hm, hq => ⟨hm.1, AM.lwp_mono hm.2 hq⟩
  | .new x k, h, Q, Q', hm, hq => ⟨hm.1, hm.2.1, AM.lwp_mono hm.2.2 hq⟩
  | .del o k, h, Q, Q', hm, hq => AM.lwp_mono (m := k) hm hq

/-- A call in a state that is a list. -/
def LCall (C : Cx) (e : EL) (h : HL) (g : FuncId) (args : List AV) (K : AV → HL → Prop) : Prop :=
  Enters C.P g ∧ CallOk C ⟨mkE e, mkH h⟩ g args fun x h' => ∃ hl, h' = mkH hl ∧ K x hl

def lnext (x : AV) (h : HL) (K : AV → HL → Prop) : Prop :=
  match x with
  | .miter i => match mkH h i with
    | some (.miter none _ _ _) => K (.tup [.bool false]) h
    | some (.miter (some m) since seen stepped) => match mkH h m with
      | some (.map clock es) => (∀ e ∈ es, e.1 < since) ∧ since ≤ stepped ∧ ((∀ e ∈ es, e.1 ∈ seen) → K (.tup [.bool false]) h) ∧
          ∀ e ∈ es, e.1 ∉ seen → K (.tup [.bool true, e.2.1, e.2.2]) ((i, .miter (some m) since (seen ++ [e.1]) clock) :: remK i h)
      | _ => False
    | _ => False
  | _ => False

def lstep (C : Cx) (n : Nat) (o : AOp) (e : EL) (h : HL) (K : EL → HL → Prop) : Prop :=
  match o.op with
  | .call { callee := .value f, args, argTypes } => match callee (mkE e) f with
    | some (g, first, captured) => LCall C e h g (first ++ args.toList.map (rho (mkE e)) ++ captured) fun x h' => K (putE o.dst x e) h'
    | none => False
  | .next x s => s = false ∧ lnext (rho (mkE e) x) h fun x h' => K (putE o.dst x e) h'
  | .entry x => (aentry (rho (mkE e) x)).lwp n (FreshL C.S e h n) h fun x h' => K (putE o.dst x e) h'
  | op => (aop C.P (mkE e) op).lwp n (FreshL C.S e h n) h fun x h' => K (putE o.dst x e) h'

def lruns (C : Cx) : List AOp → Nat → EL → HL → (EL → HL → Prop) → Prop
  | [], _, e, h, K => K e h
  | o :: l, n, e, h, K =>
    match o.guard with
    | none => lstep C n o e h fun e' h' => lruns C l (n + 1) e' h' K
    | some (s, b) => match mkE e s with
      | .bool t => (t = b → lstep C n o e h fun e' h' => lruns C l (n + 1) e' h' K) ∧ (t = !b → lruns C l (n + 1) (putE o.dst (.tup []) e) h K)
      | .tup [] => lruns C l (n + 1) (putE o.dst (.tup []) e) h K
      | _ => False

theorem CallOk.mono {C : Cx} {st : St} {g : FuncId} {args : List AV} {K K' : AV → Hp → Prop} (h : CallOk C st g args K) (hk : ∀ x h', K x h' → K' x h') : CallOk C st g args K' :=
  fun F β a w vs hs hp => (h F β a w vs hs hp).mono fun e w' ⟨v, x, h', β', e1, e2, e3, e4⟩ => ⟨v, x, h', β', e1, e2, e3, hk _ _ e4⟩

theorem lnext_next {x : AV} {h : HL} {K : AV → HL → Prop} {K' : AV → Hp → Prop} (hn : lnext x h K) (hk : ∀ x h', K x h' → K' x (mkH h')) : stepNext x (mkH h) K' := by
  unfold lnext at hn
  unfold stepNext
  split at hn
  · rename_i i
    simp only
    split at hn
    · rename_i hi
      rw [hi]
      exact hk _ _ hn
    · rename_i hi
      rw [hi]
      simp only
      split at hn
      · rename_i hm
        rw [hm]
        obtain ⟨h1, h2, h3, h4⟩ := hn
        refine ⟨h1, h2, fun q => hk _ _ (h3 q), fun e he hs => ?_⟩
        rw [← mkH_put]
        exact hk _ _ (h4 e he hs)
      · exact hn.elim
    · exact hn.elim
  · exact hn.elim

theorem lstep_step {C : Cx} {n : Nat} {o : AOp} {e : EL} {h : HL} {K : EL → HL → Prop} {K' : St → Prop} (hs : lstep C n o e h K) (hk : ∀ e' h', K e' h' → K' ⟨mkE e', mkH h'⟩) : stepOp C n o ⟨mkE e, mkH h⟩ K' := by
  unfold lstep at hs
  unfold stepOp
  split at hs
  · rename_i f args ts hop
    rw [hop]
    simp only
    split at hs
    · rename_i g first captured hc
      rw [hc]
      refine ⟨hs.1, hs.2.mono ?_⟩
      rintro x h' ⟨hl, rfl, hK⟩
      rw [putE_put]
      exact hk _ _ hK
    · exact hs.elim
  · rename_i x s hop
    rw [hop]
    exact ⟨hs.1, lnext_next hs.2 fun x h' hK => by rw [putE_put]; exact hk _ _ hK⟩
  · rename_i x hop
    rw [hop]
    exact AM.lwp_wp FreshL.fresh hs fun x h' hK => by rw [putE_put]; exact hk _ _ hK
  · rename_i q1 q2 q3
    have := AM.lwp_wp (fr' := Fresh C ⟨mkE e, mkH h⟩ n) FreshL.fresh hs (Q' := fun x h' => K' (St.put ⟨mkE e, h'⟩ o.dst x)) fun x h' hK => by rw [putE_put]; exact hk _ _ hK
    split
    · rename_i f args ts hop; exact absurd hop (q1 f args ts)
    · rename_i x s hop; exact absurd hop (q2 x s)
    · rename_i x hop; exact absurd hop (q3 x)
    · exact this

theorem lruns_runs {C : Cx} : ∀ (l : List AOp) (n : Nat) (e : EL) (h : HL) (K : EL → HL → Prop) (K' : St → Prop), (∀ e' h', K e' h' → K' ⟨mkE e', mkH h'⟩) → lruns C l n e h K → runOps C l n ⟨mkE e, mkH h⟩ K'
  | [], n, e, h, K, K', hk, hr => hk _ _ hr
  | o :: l, n, e, h, K, K', hk, hr => by
    simp only [lruns] at hr
    simp only [runOps]
    have step : ∀ {e' h'}, lruns C l (n + 1) e' h' K → runOps C l (n + 1) ⟨mkE e', mkH h'⟩ K' := fun q => lruns_runs l (n + 1) _ _ K K' hk q
    split at hr
    · rename_i hg
      rw [hg]
      exact lstep_step hr fun e' h' q => step q
    · rename_i s b hg
      rw [hg]
      simp only
      split at hr
      · rename_i t ht
        rw [ht]
        refine ⟨fun q => lstep_step (hr.1 q) fun e' h' q => step q, fun q => ?_⟩
        rw [putE_put]
        exact step (hr.2 q)
      · rename_i ht
        rw [ht]
        simp only
        rw [putE_put]
        exact step hr
      · exact hr.elim

/-! ### Drawn regions -/
def lrunD (C : Cx) (tbl : Nat → Option CallRes) : List DI → EL → HL → List Foot → (EL → HL → List Foot → Prop) → Prop
  | [], e, h, fs, K => K e h fs
  | it :: l, e, h, fs, K => (progD C.P tbl it (mkE e)).lwp it.id True h fun x h' => lrunD C tbl l (putE it.o.dst x e) h' (fs ++ [footD it (mkE e)]) K
theorem lrunD_runD {C : Cx} {tbl : Nat → Option CallRes} : ∀ (l : List DI) (e : EL) (h : HL) (fs : List Foot) (K : EL → HL → List Foot → Prop) (K' : St → List Foot → Prop), (∀ e' h' fs', K e' h' fs' → K' ⟨mkE e', mkH h'⟩ fs') → lrunD C tbl l e h fs K → runD C tbl l ⟨mkE e, mkH h⟩ fs K'
  | [], e, h, fs, K, K', hk, hr => hk _ _ _ hr
  | it :: l, e, h, fs, K, K', hk, hr => AM.lwp_wp id hr fun x h' q => by
    rw [putE_put]
    exact lrunD_runD l _ _ _ K K' hk q
theorem AM.lwp_out {α : Type} {n : Nat} {fr : Prop} : ∀ {m : AM α} {h : HL} {Q : α → HL → Prop}, m.lwp n fr h Q → ∃ x h', Q x h' ∧ ∀ Q' : α → HL → Prop, Q' x h' → m.lwp n fr h Q'
  | .pure a, h, Q, hm => ⟨a, h, hm, fun _ q => q⟩
  | .fail, h, Q, hm => hm.elim
  | .guard c k, h, Q, hm => let ⟨x, h', q, f⟩ := AM.lwp_out hm.2; ⟨x, h', q, fun Q' q' => ⟨hm.1, f Q' q'⟩⟩
  | .get o k, h, Q, hm => by
    simp only [AM.lwp] at *
    cases hx : mkH h o with
    | none => rw [hx] at hm; exact hm.elim
    | some y => rw [hx] at hm; exact AM.lwp_out hm
  | .put o x k, h, Q, hm => let ⟨y, h', q, f⟩ := AM.lwp_out hm.2; ⟨y, h', q, fun Q' q' => ⟨hm.1, f Q' q'⟩⟩
  | .new x k, h, Q, hm => let ⟨y, h', q, f⟩ := AM.lwp_out hm.2.2; ⟨y, h', q, fun Q' q' => ⟨hm.1, hm.2.1, f Q' q'⟩⟩
  | .del o k, h, Q, hm => AM.lwp_out (m := k) hm
/-! What each call comes to is found on the way. -/
def ldoCall (C : Cx) (id : Nat) (h : HL) (g : FuncId) (args : List AV) (K : AV → HL → Prop) : Prop := ∃ r : CallRes, (callAny C.P g args id r).lwp id True h K
def ldoOp (C : Cx) (it : DI) (e : EL) (h : HL) (K : AV → HL → Prop) : Prop :=
  match it.o.op with
  | .call { callee := .value f, args, argTypes } => match callee (mkE e) f with
    | some (g, first, captured) => ldoCall C it.id h g (first ++ args.toList.map (rho (mkE e)) ++ captured) K
    | none => False
  | op => (aop C.P (mkE e) op).lwp it.id True h K
def ldoG (C : Cx) (it : DI) (e : EL) (h : HL) (K : AV → HL → Prop) : Prop :=
  match it.o.guard with
  | none => ldoOp C it e h K
  | some (s, b) => match mkE e s with
    | .bool t => (t = b → ldoOp C it e h K) ∧ (t = !b → K (.tup []) h)
    | .tup [] => K (.tup []) h
    | _ => False
def ldo (C : Cx) : List DI → EL → HL → List Foot → (EL → HL → List Foot → Prop) → Prop
  | [], e, h, fs, K => K e h fs
  | it :: l, e, h, fs, K => ldoG C it e h fun x h' => ldo C l (putE it.o.dst x e) h' (fs ++ [footD it (mkE e)]) K
theorem ldoOp_prog {C : Cx} {it : DI} {e : EL} {h : HL} {K : AV → HL → Prop} (ho : ldoOp C it e h K) : ∃ r : Option CallRes, ∀ tbl : Nat → Option CallRes, tbl it.i = r → (bodyD C.P tbl it (mkE e)).lwp it.id True h K := by
  unfold ldoOp at ho
  split at ho
  · rename_i f args ts hop
    split at ho
    · rename_i g first captured hc
      obtain ⟨r, hr⟩ := ho
      refine ⟨some r, fun tbl ht => ?_⟩
      unfold bodyD
      rw [hop]
      simp only [hc, ht]
      exact hr
    · exact ho.elim
  · rename_i q
    refine ⟨none, fun tbl _ => ?_⟩
    unfold bodyD
    split
    · rename_i f args ts hop; exact absurd hop (q f args ts)
    · exact ho
theorem ldoG_prog {C : Cx} {it : DI} {e : EL} {h : HL} {K : AV → HL → Prop} (ho : ldoG C it e h K) : ∃ r : Option CallRes, ∀ tbl : Nat → Option CallRes, tbl it.i = r → (progD C.P tbl it (mkE e)).lwp it.id True h K := by
  unfold ldoG at ho
  split at ho
  · rename_i hg
    obtain ⟨r, hr⟩ := ldoOp_prog ho
    refine ⟨r, fun tbl ht => ?_⟩
    unfold progD
    rw [hg]
    exact hr tbl ht
  · rename_i s b hg
    split at ho
    · rename_i t ht
      by_cases htb : t = b
      · obtain ⟨r, hr⟩ := ldoOp_prog (ho.1 htb)
        refine ⟨r, fun tbl hx => ?_⟩
        unfold progD
        rw [hg]
        simp only [ht, if_pos htb]
        exact hr tbl hx
      · refine ⟨none, fun tbl _ => ?_⟩
        unfold progD
        rw [hg]
        simp only [ht, if_neg htb]
        exact ho.2 (by cases t <;> cases b <;> simp_all)
    · rename_i ht
      refine ⟨none, fun tbl _ => ?_⟩
      unfold progD
      rw [hg]
      simp only [ht]
      exact ho
    · exact ho.elim
theorem progD_tbl {P : Program} {tbl tbl' : Nat → Option CallRes} {it : DI} {e : Nat → AV} (h : tbl it.i = tbl' it.i) : progD P tbl it e = progD P tbl' it e := by
  unfold progD bodyD
  rw [h]
theorem lrunD_tbl {C : Cx} {tbl tbl' : Nat → Option CallRes} : ∀ (l : List DI) (e : EL) (h : HL) (fs : List Foot) (K : EL → HL → List Foot → Prop), (∀ it ∈ l, tbl it.i = tbl' it.i) → lrunD C tbl l e h fs K → lrunD C tbl' l e h fs K
  | [], e, h, fs, K, _, hr => hr
  | it :: l, e, h, fs, K, ht, hr => by
    simp only [lrunD] at *
    rw [← progD_tbl (ht it (List.mem_cons_self ..))]
    exact AM.lwp_mono hr fun x h' q => lrunD_tbl l _ _ _ K (fun it' hi => ht it' (List.mem_cons_of_mem _ hi)) q
theorem ldo_lrunD {C : Cx} : ∀ (l : List DI) (e : EL) (h : HL) (fs : List Foot) (K : EL → HL → List Foot → Prop), l.Pairwise (fun a b => a.i ≠ b.i) → ldo C l e h fs K → ∃ tbl, lrunD C tbl l e h fs K
  | [], e, h, fs, K, _, hr => ⟨fun _ => none, hr⟩
  | it :: l, e, h, fs, K, hp, hr => by
    obtain ⟨r, hr⟩ := ldoG_prog hr
    rw [List.pairwise_cons] at hp
    obtain ⟨x, h', q, f⟩ := AM.lwp_out (hr (fun _ => r) rfl)
    obtain ⟨tbl, q⟩ := ldo_lrunD l _ _ _ K hp.2 q
    refine ⟨fun j => if j = it.i then r else tbl j, ?_⟩
    simp only [lrunD]
    rw [progD_tbl (tbl' := fun _ => r) (by simp)]
    refine f _ (lrunD_tbl l _ _ _ K (fun it' hi => ?_) q)
    simp only [if_neg (hp.1 it' hi).symm]
theorem items_pairwise (n0 : Nat) (l : List AOp) : (items n0 0 l).Pairwise (fun a b => a.i ≠ b.i) := by
  rw [List.pairwise_iff_getElem]
  intro i j hi hj hij
  have h1 := (items_get n0 l 0 i _ (List.getElem?_eq_getElem hi)).1
  have h2 := (items_get n0 l 0 j _ (List.getElem?_eq_getElem hj)).1
  omega
def freshN (S : List Nat) (e : EL) (h : HL) (n0 : Nat) : Nat → Prop
  | 0 => True
  | k + 1 => FreshL S e h (n0 + k) ∧ freshN S e h n0 k
theorem freshN_get {S : List Nat} {e : EL} {h : HL} {n0 : Nat} : ∀ {k : Nat}, freshN S e h n0 k → ∀ i, i < k → FreshL S e h (n0 + i)
  | 0, _, i, hi => by omega
  | k + 1, hf, i, hi => by
    by_cases e : i = k
    · subst e; exact hf.1
    · exact freshN_get hf.2 i (by omega)

/-! ### Code -/
def LLoop (C : Cx) (a : ACode) (e : EL) (h : HL) (Q : AX → EL → HL → Prop) : Prop :=
  AWp C (.loop a) ⟨mkE e, mkH h⟩ fun x st => ∃ e' h', st = ⟨mkE e', mkH h'⟩ ∧ Q x e' h'

def aexec (C : Cx) : ACode → EL → HL → (AX → EL → HL → Prop) → Prop
  | .skip, e, h, Q => Q .normal e h
  | .ops n l, e, h, Q => lruns C l n e h (Q .normal)
  | .dops n l anc, e, h, Q => freshN C.S e h n l.length ∧ ldo C (items n 0 l) e h [] fun e' h' fs => compat anc fs = true ∧ Q .normal e' h'
  | .seq a b, e, h, Q => aexec C a e h fun x e' h' => match x with
    | .normal => aexec C b e' h' Q
    | .exit id => Q (.exit id) e' h'
    | .ret => Q .ret e' h'
  | .cond c a b, e, h, Q => match rho (mkE e) c with
    | .bool t => (t = true → aexec C a e h Q) ∧ (t = false → aexec C b e h Q)
    | _ => False
  | .block id a, e, h, Q => aexec C a e h fun x e' h' => match x with
    | .normal => Q .normal e' h'
    | .exit id' => if id' = id then Q .normal e' h' else Q (.exit id') e' h'
    | .ret => Q .ret e' h'
  | .loop a, e, h, Q => LLoop C a e h Q
  | .exit id, e, h, Q => Q (.exit id) e h
  | .ret, e, h, Q => Q .ret e h

theorem aexec_sound {C : Cx} (hm : C.P.follows .mixedOrders = true) : ∀ (c : ACode) (e : EL) (h : HL) (Q : AX → EL → HL → Prop) (Q' : AX → St → Prop), (∀ x e' h', Q x e' h' → Q' x ⟨mkE e', mkH h'⟩) → aexec C c e h Q → AWp C c ⟨mkE e, mkH h⟩ Q'
  | .skip, e, h, Q, Q', hq, hr => AWp.skip (hq _ _ _ hr)
  | .ops n l, e, h, Q, Q', hq, hr => AWp.ops n (lruns_runs l n e h _ _ (fun e' h' q => hq _ _ _ q) hr)
  | .dops n l anc, e, h, Q, Q', hq, hr => (ldo_lrunD _ _ _ _ _ (items_pairwise n l) hr.2).elim fun tbl hr2 => AWp.dops hm n tbl (fun i hi => (freshN_get hr.1 i hi).fresh) (lrunD_runD _ _ _ _ _ _ (fun e' h' fs q => ⟨q.1, hq _ _ _ q.2⟩) hr2)
  | .seq a b, e, h, Q, Q', hq, hr => AWp.seq (aexec_sound hm a e h _ _ (fun x e' h' q => by
      cases x with
      | normal => exact aexec_sound hm b e' h' Q Q' hq q
      | exit id => exact hq _ _ _ q
      | ret => exact hq _ _ _ q) hr)
  | .cond c a b, e, h, Q, Q', hq, hr => by
    simp only [aexec] at hr
    split at hr
    · rename_i t ht
      exact AWp.cond (t := t) ht (fun q => aexec_sound hm a e h Q Q' hq (hr.1 q)) (fun q => aexec_sound hm b e h Q Q' hq (hr.2 q))
    · exact hr.elim
  | .block id a, e, h, Q, Q', hq, hr => AWp.block (aexec_sound hm a e h _ _ (fun x e' h' q => by
      cases x with
      | normal => exact hq _ _ _ q
      | exit id' =>
        simp only at q ⊢
        split
        · rename_i e'; rw [if_pos e'] at q; exact hq _ _ _ q
        · rename_i e'; rw [if_neg e'] at q; exact hq _ _ _ q
      | ret => exact hq _ _ _ q) hr)
  | .loop a, e, h, Q, Q', hq, hr => AWp.mono hr fun x st ⟨e', h', e1, q⟩ => by subst e1; exact hq _ _ _ q
  | .exit id, e, h, Q, Q', hq, hr => AWp.exit (hq _ _ _ hr)
  | .ret, e, h, Q, Q', hq, hr => AWp.ret (hq _ _ _ hr)

/-! ### Loops -/
def ap (f : List (Nat × Nat)) (o : Nat) : Nat :=
  match f with
  | [] => o
  | (a, b) :: l => if o = a then b else ap l o
def leE (f : Nat → Nat) (e : EL) : EL → Prop
  | [] => True
  | (t, v) :: l => v.ren f = mkE e t ∧ leE f e l
def leH (f : Nat → Nat) (h : HL) : HL → Prop
  | [] => True
  | (o, x) :: l => mkH h (f o) = some (x.ren f) ∧ leH f h l
def apartH (f : Nat → Nat) (n : Nat) : HL → Prop
  | [] => True
  | (o, _) :: l => f o ≠ n ∧ apartH f n l
def injH (f : Nat → Nat) : HL → Prop
  | [] => True
  | (o, _) :: l => apartH f (f o) l ∧ injH f l
def keptS (f : Nat → Nat) : List Nat → Prop
  | [] => True
  | o :: l => f o = o ∧ keptS f l
/-- A state is one of the wanted shape, its objects under other names. -/
def LeL (S : List Nat) (f : Nat → Nat) (e' : EL) (h' : HL) (e : EL) (h : HL) : Prop := leE f e e' ∧ leH f h h' ∧ injH f h' ∧ keptS f S

theorem leE_get {f : Nat → Nat} {e : EL} : ∀ {e' : EL}, leE f e e' → ∀ t, mkE e' t = .undef ∨ (mkE e' t).ren f = mkE e t
  | [], _, t => .inl rfl
  | (s, v) :: l, h, t => by
    simp only [mkE]
    split
    · rename_i q; subst q; exact .inr h.1
    · exact leE_get h.2 t
theorem leH_get {f : Nat → Nat} {h : HL} : ∀ {h' : HL}, leH f h h' → ∀ o x, mkH h' o = some x → mkH h (f o) = some (x.ren f)
  | [], _, o, x, hx => by cases hx
  | (s, v) :: l, hl, o, x, hx => by
    simp only [mkH] at hx
    split at hx
    · rename_i q; subst q; injection hx with hx; subst hx; exact hl.1
    · exact leH_get hl.2 o x hx
theorem apartH_get {f : Nat → Nat} {n : Nat} : ∀ {h : HL}, apartH f n h → ∀ o, mkH h o ≠ none → f o ≠ n
  | [], _, o, ho => absurd rfl ho
  | (s, v) :: l, h, o, ho => by
    simp only [mkH] at ho
    split at ho
    · rename_i q; subst q; exact h.1
    · exact apartH_get h.2 o ho
theorem injH_get {f : Nat → Nat} : ∀ {h : HL}, injH f h → ∀ o o', mkH h o ≠ none → mkH h o' ≠ none → f o = f o' → o = o'
  | [], _, o, o', ho, _, _ => absurd rfl ho
  | (s, v) :: l, h, o, o', ho, ho', e => by
    simp only [mkH] at ho ho'
    split at ho <;> split at ho'
    · rename_i q1 q2; rw [q1, q2]
    · rename_i q1 q2; subst q1; exact absurd e.symm (apartH_get h.1 o' ho')
    · rename_i q1 q2; subst q2; exact absurd e (apartH_get h.1 o ho)
    · exact injH_get h.2 o o' ho ho' e
theorem keptS_get {f : Nat → Nat} : ∀ {S : List Nat}, keptS f S → ∀ o ∈ S, f o = o
  | [], _, o, ho => by simp at ho
  | p :: l, h, o, ho => by
    rcases List.mem_cons.1 ho with rfl | ho
    · exact h.1
    · exact keptS_get h.2 o ho
theorem LeL.leR {S : List Nat} {f : Nat → Nat} {e e' : EL} {h h' : HL} (hl : LeL S f e' h' e h) : LeR S f ⟨mkE e', mkH h'⟩ ⟨mkE e, mkH h⟩ :=
  ⟨leE_get hl.1, leH_get hl.2.1, injH_get hl.2.2.1, keptS_get hl.2.2.2⟩

theorem LLoop.intro {C : Cx} (hm : C.P.follows .mixedOrders = true) {a : ACode} {e : EL} {h : HL} {Q : AX → EL → HL → Prop} {ι : Type} (E : ι → EL) (H : ι → HL) (m : ι → Nat) (i0 : ι)
    (h0 : ∃ f, LeL C.S f (E i0) (H i0) e h) (hround : ∀ i, aexec C a (E i) (H i) fun x e' h' => match x with
      | .normal => ∃ i', m i' < m i ∧ ∃ f, LeL C.S f (E i') (H i') e' h'
      | .exit id => Q (.exit id) e' h'
      | .ret => Q .ret e' h') : LLoop C a e h Q := by
  obtain ⟨f, h0⟩ := h0
  refine AWp.loopR (fun i => ⟨mkE (E i), mkH (H i)⟩) m i0 ⟨f, h0.leR⟩ fun i => aexec_sound hm a _ _ _ _ (fun x e' h' q => ?_) (hround i)
  cases x with
  | normal => obtain ⟨i', h1, f, h2⟩ := q; exact ⟨i', h1, f, h2.leR⟩
  | exit id => exact ⟨e', h', rfl, q⟩
  | ret => exact ⟨e', h', rfl, q⟩
end Go.Aw
end
section
set_option linter.unusedVariables false
set_option linter.unusedSimpArgs false
namespace Go.Aw

def keys : HL → List Nat
  | [] => []
  | (o, _) :: l => o :: keys l
theorem keys_mem : ∀ {h : HL} {o : Nat}, mkH h o ≠ none → o ∈ keys h
  | [], o, ho => absurd rfl ho
  | (s, v) :: l, o, ho => by
    simp only [mkH] at ho
    split at ho
    · rename_i q; subst q; exact List.mem_cons_self ..
    · exact List.mem_cons_of_mem _ (keys_mem ho)

/-- What a value is once its objects are nobody's any more. -/
def seal0 (h : HL) (x r : AV) : Prop :=
  match x with
  | .isl f xs => r = .isl f xs ∨ r = .isl .unk xs
  | .sl o off len full => match mkH h o with
    | some (.row _ _ xs) => off + len ≤ xs.length ∧ AV.leafLL xs = true ∧ (r = .isl (if full then .full else .unk) ((xs.drop off).take len) ∨ r = .isl .unk ((xs.drop off).take len))
    | _ => False
  | .ptr o i j => match mkH h o with
    | some (.row _ _ xs) => i < xs.length ∧ j ≤ (xs.getD i []).length ∧ AV.leafLL xs = true ∧ r = .iptr ((xs.getD i []).drop j)
    | _ => False
  | x => r = x
def sealL0 (h : HL) : List AV → List AV → Prop
  | [], [] => True
  | a :: bs, b :: cs => seal0 h a b ∧ sealL0 h bs cs
  | _, _ => False
def sealA (h : HL) (x r : AV) : Prop :=
  match x, r with
  | .agg cs, .agg cs' => sealL0 h cs cs'
  | x, r => seal0 h x r
def sealL1 (h : HL) : List AV → List AV → Prop
  | [], [] => True
  | a :: bs, b :: cs => sealA h a b ∧ sealL1 h bs cs
  | _, _ => False
def seal1 (h : HL) (x r : AV) : Prop :=
  match x, r with
  | .tup cs, .tup cs' => sealL1 h cs cs'
  | x, r => sealA h x r

theorem weak0_VR {w : World} {β : Nat → Option Loc} {O : Nat → Prop} {f : Flag} {xs : List (List AV)} {v : Value} (hv : VR w O β (.isl f xs) v) : VR w O β (.isl .unk xs) v := by
  have := hv.isl_inv
  cases this with
  | isl _ _ B cap k hcap hmax hk hf hn hA vs h1c hc hh => exact .imm (.isl .unk xs B cap k hcap hmax hk (fun e => by cases e) (fun e => by cases e) hA vs h1c hc hh)
section
variable {w : World} {A : Nat → Prop} {β : Nat → Option Loc} {h : HL}
theorem seal0_VR (hH : HR w A β (mkH h)) {x r : AV} {v : Value} (hs : seal0 h x r) (hv : VR w (Av A β (mkH h)) β x v) : VR w (others (keys h) A β (mkH h)) β r v := by
  unfold seal0 at hs
  split at hs
  · rcases hs with rfl | rfl
    · exact hv.others
    · exact (weak0_VR hv).others
  · rename_i o off len full
    split at hs
    · rename_i e k xs hob
      obtain ⟨h1, h2, h3⟩ := hs
      have hv0 : view0 (keys h) (mkH h) (.sl o off len full) (.isl (if full then .full else .unk) ((xs.drop off).take len)) := by
        simp only [view0, hob]
        exact ⟨keys_mem (by simp [hob]), h1, h2, trivial⟩
      rcases h3 with rfl | rfl
      · exact view0_VR hH hv0 hv
      · exact weak0_VR (view0_VR hH hv0 hv)
    · exact hs.elim
  · rename_i o i j
    split at hs
    · rename_i e k xs hob
      obtain ⟨h1, h2, h3, rfl⟩ := hs
      have hv0 : view0 (keys h) (mkH h) (.ptr o i j) (.iptr ((xs.getD i []).drop j)) := by
        simp only [view0, hob]
        exact ⟨keys_mem (by simp [hob]), h1, h2, h3, trivial⟩
      exact view0_VR hH hv0 hv
    · exact hs.elim
  · subst hs
    exact hv.others
theorem sealL0_VR (hH : HR w A β (mkH h)) : ∀ {bs bs' : List AV} {vs : List Value}, sealL0 h bs bs' → vs.length = bs.length → (∀ m (h1 : m < bs.length) (h2 : m < vs.length), VR w (Av A β (mkH h)) β bs[m] vs[m]) →
    bs'.length = bs.length ∧ ∀ m (h1 : m < bs'.length) (h2 : m < vs.length), VR w (others (keys h) A β (mkH h)) β bs'[m] vs[m]
  | [], [], vs, hv, hl, hh => ⟨rfl, fun m h1 => by simp at h1⟩
  | [], _ :: _, vs, hv, hl, hh => hv.elim
  | _ :: _, [], vs, hv, hl, hh => hv.elim
  | a :: bs, a' :: bs', vs, hv, hl, hh => by
    obtain ⟨h1, h2⟩ := hv
    cases vs with
    | nil => simp at hl
    | cons v vs =>
      have h0 := hh 0 (by simp) (by simp)
      obtain ⟨k1, k2⟩ := sealL0_VR hH h2 (by simpa using hl) (fun m g1 g2 => hh (m + 1) (by simpa using g1) (by simpa using g2))
      refine ⟨by simp [k1], fun m g1 g2 => ?_⟩
      cases m with
      | zero => exact seal0_VR hH h1 h0
      | succ m => exact k2 m (by simpa using g1) (by simpa using g2)
theorem sealA_VR (hH : HR w A β (mkH h)) {x r : AV} {v : Value} (hs : sealA h x r) (hv : VR w (Av A β (mkH h)) β x v) : VR w (others (keys h) A β (mkH h)) β r v := by
  unfold sealA at hs
  split at hs
  · rename_i cs cs'
    have hc := hs
    obtain ⟨vs, rfl, l2, g1, g2⟩ := hv.agg_inv
    obtain ⟨k1, k2⟩ := sealL0_VR hH (vs := vs.toList) hc (by simpa using l2) (fun m h1 h2 => by simpa using g2 m h1 (by simpa using h2))
    exact .agg _ _ (by omega) g1 (fun m h1 h2 => k2 m h1 (by simpa using h2))
  · exact seal0_VR hH hs hv
theorem sealL1_VR (hH : HR w A β (mkH h)) : ∀ {bs bs' : List AV} {vs : List Value}, sealL1 h bs bs' → vs.length = bs.length → (∀ m (h1 : m < bs.length) (h2 : m < vs.length), VR w (Av A β (mkH h)) β bs[m] vs[m]) →
    bs'.length = bs.length ∧ ∀ m (h1 : m < bs'.length) (h2 : m < vs.length), VR w (others (keys h) A β (mkH h)) β bs'[m] vs[m]
  | [], [], vs, hv, hl, hh => ⟨rfl, fun m h1 => by simp at h1⟩
  | [], _ :: _, vs, hv, hl, hh => hv.elim
  | _ :: _, [], vs, hv, hl, hh => hv.elim
  | a :: bs, a' :: bs', vs, hv, hl, hh => by
    obtain ⟨h1, h2⟩ := hv
    cases vs with
    | nil => simp at hl
    | cons v vs =>
      have h0 := hh 0 (by simp) (by simp)
      obtain ⟨k1, k2⟩ := sealL1_VR hH h2 (by simpa using hl) (fun m g1 g2 => hh (m + 1) (by simpa using g1) (by simpa using g2))
      refine ⟨by simp [k1], fun m g1 g2 => ?_⟩
      cases m with
      | zero => exact sealA_VR hH h1 h0
      | succ m => exact k2 m (by simpa using g1) (by simpa using g2)
theorem seal1_VR (hH : HR w A β (mkH h)) {x r : AV} {v : Value} (hs : seal1 h x r) (hv : VR w (Av A β (mkH h)) β x v) : VR w (others (keys h) A β (mkH h)) β r v := by
  unfold seal1 at hs
  split at hs
  · rename_i cs cs'
    have hc := hs
    obtain ⟨vs, rfl, l2, g2⟩ := hv.tup_inv
    obtain ⟨k1, k2⟩ := sealL1_VR hH (vs := vs.toList) hc (by simpa using l2) (fun m h1 h2 => by simpa using g2 m h1 (by simpa using h2))
    exact .tup _ _ (by omega) (fun m h1 h2 => k2 m h1 (by simpa using h2))
  · exact sealA_VR hH hs hv
end

def lresL (P : Program) (e : EL) (h : HL) : List ResultVar → (List AV → Prop) → Prop
  | [], Q => Q []
  | .tmp t :: r, Q => lresL P e h r fun vs => Q (mkE e t :: vs)
  | .cell a t :: r, Q => (aload P t (mkE e a)).lwp 0 False h fun x _ => lresL P e h r fun vs => Q (x :: vs)
theorem lresL_aresL {P : Program} {e : EL} {h : HL} : ∀ (rs : List ResultVar) (Q Q' : List AV → Prop), (∀ vs, Q vs → Q' vs) → lresL P e h rs Q → aresL P (mkE e) (mkH h) rs Q'
  | [], Q, Q', hq, hr => hq _ hr
  | .tmp t :: r, Q, Q', hq, hr => lresL_aresL r _ _ (fun vs q => hq _ q) hr
  | .cell a t :: r, Q, Q', hq, hr => AM.lwp_wp id hr fun x h' q => lresL_aresL r _ _ (fun vs q => hq _ q) q

/-- A function that is handed values that nobody writes and gives such a value. -/
def PureP (P : Program) (g : FuncId) (args : List AV) (R : AV → Prop) : Prop :=
  Enters P g ∧ ACalls P g args (fun _ => none) [] fun x h' => (x.refs = [] ∧ R x) ∧ h' = fun _ => none

def finP (P : Program) (rs : List ResultVar) (R : AV → Prop) (ax : AX) (e : EL) (h : HL) : Prop :=
  match ax with
  | .exit _ => False
  | _ => lresL P e h rs fun vs => ∃ r, seal1 h (retVal vs) r ∧ r.refs = [] ∧ R r

theorem mkH_nil : mkH [] = fun _ => none := rfl

theorem PureP.mono {P : Program} {g : FuncId} {args : List AV} {R R' : AV → Prop} (h : PureP P g args R) (hr : ∀ x, R x → R' x) : PureP P g args R' :=
  ⟨h.1, h.2.mono fun x h' q => ⟨⟨q.1.1, hr x q.1.2⟩, q.2⟩⟩

theorem PureP.execW {P : Program} {g : FuncId} {fn : Func} {c : ACode} {args : List AV} {rs : List ResultVar} {R : AV → Prop} (hm : P.follows .mixedOrders = true) (hE : Enters P g)
    (hf : P.funcs[g]? = some fn) (hc : fn.body.bind (absCode fn.ntmps) = some c) (hr : fn.results.toList = rs) (hn : decide (args.length ≤ fn.ntmps) = true)
    {Q : AX → EL → HL → Prop} (hw : aexec ⟨P, fn.ntmps, []⟩ c (argE 0 args) [] Q) (hQ : ∀ ax e h, Q ax e h → finP P rs R ax e h) : PureP P g args R := by
  refine ⟨hE, ?_⟩
  obtain ⟨body, hb, hc⟩ := Option.bind_eq_some_iff.1 hc
  have h1 : ACalls P g args (fun _ => none) [] fun x h' => ∃ hl, h' = mkH hl ∧ ∃ r, seal1 hl x r ∧ r.refs = [] ∧ R r := by
    refine ACalls.of hf hb hc (of_decide_eq_true hn) (AWp.mono (aexec_sound hm c _ [] _ (fun ax st => ∃ e h, st = ⟨mkE e, mkH h⟩ ∧ finP P rs R ax e h) (fun x e' h' q => ⟨e', h', rfl, hQ _ _ _ q⟩) hw) ?_)
    rintro ax st ⟨e, h, rfl, q⟩
    cases ax with
    | exit id => exact q
    | normal => rw [hr]; exact lresL_aresL rs _ _ (fun vs ⟨r, q1, q2⟩ => ⟨h, rfl, r, q1, q2⟩) q
    | ret => rw [hr]; exact lresL_aresL rs _ _ (fun vs ⟨r, q1, q2⟩ => ⟨h, rfl, r, q1, q2⟩) q
  intro A β w vs hA hp hh
  refine (h1 A β w vs hA hp hh).mono ?_
  rintro e w' ⟨v, x, h', β', rfl, ⟨hl, rfl, r, q1, q2⟩, hS, hv, hH, hsince, hold⟩
  have hno : ∀ b, ¬ Own β' (fun _ => none) b := fun b ⟨o, l, h1, _⟩ => h1 rfl
  refine ⟨v, r, fun _ => none, β', rfl, ⟨q2, rfl⟩, hS, (seal1_VR hH q1 hv).mono (Same.refl _ w') (fun b _ hb => ?_) (fun _ _ => rfl),
    ⟨fun o x hx => (by cases hx), fun o o' l l' g1 => absurd rfl g1, fun b hb => (hno b hb).elim, fun b hb => (hno b hb).elim⟩, hsince, fun b hb hb' => (hno b hb').elim⟩
  rcases hb with hb | hb
  · exact .inl hb
  · exact (hno b hb).elim

theorem PureP.exec {P : Program} {g : FuncId} {fn : Func} {c : ACode} {args : List AV} {rs : List ResultVar} {R : AV → Prop} (hm : P.follows .mixedOrders = true) (hE : Enters P g)
    (hf : P.funcs[g]? = some fn) (hc : fn.body.bind (absCode fn.ntmps) = some c) (hr : fn.results.toList = rs) (hn : decide (args.length ≤ fn.ntmps) = true)
    (hw : aexec ⟨P, fn.ntmps, []⟩ c (argE 0 args) [] (finP P rs R)) : PureP P g args R := PureP.execW hm hE hf hc hr hn hw fun _ _ _ q => q

/-- .. gives just this one. -/
def finE (P : Program) (rs : List ResultVar) (r : AV) (ax : AX) (e : EL) (h : HL) : Prop :=
  match ax with
  | .exit _ => False
  | _ => lresL P e h rs fun vs => seal1 h (retVal vs) r
theorem lresL_mono {P : Program} {e : EL} {h : HL} : ∀ (rs : List ResultVar) (Q Q' : List AV → Prop), (∀ vs, Q vs → Q' vs) → lresL P e h rs Q → lresL P e h rs Q'
  | [], Q, Q', hq, hr => hq _ hr
  | .tmp t :: r, Q, Q', hq, hr => lresL_mono r _ _ (fun vs q => hq _ q) hr
  | .cell a t :: r, Q, Q', hq, hr => AM.lwp_mono hr fun x h' q => lresL_mono r _ _ (fun vs q => hq _ q) q
theorem PureE.exec {P : Program} {g : FuncId} {fn : Func} {c : ACode} {args : List AV} {rs : List ResultVar} {r : AV} (hm : P.follows .mixedOrders = true) (hE : Enters P g)
    (hf : P.funcs[g]? = some fn) (hc : fn.body.bind (absCode fn.ntmps) = some c) (hr : fn.results.toList = rs) (hn : decide (args.length ≤ fn.ntmps) = true) (hrefs : r.refs = [])
    (hw : aexec ⟨P, fn.ntmps, []⟩ c (argE 0 args) [] (finE P rs r)) : PureP P g args (· = r) := by
  refine PureP.execW hm hE hf hc hr hn (Q := finE P rs r) hw fun ax e h q => ?_
  cases ax with
  | exit id => exact q
  | normal => exact lresL_mono rs _ _ (fun vs q => ⟨r, q, hrefs, rfl⟩) q
  | ret => exact lresL_mono rs _ _ (fun vs q => ⟨r, q, hrefs, rfl⟩) q

/-! ### Calls -/
theorem others_keys {A : Nat → Prop} {β : Nat → Option Loc} {h : HL} {b : Nat} (hb : others (keys h) A β (mkH h) b) : A b := by
  rcases hb with hb | ⟨o, l, h1, h2, h3⟩
  · exact hb
  · exact absurd (keys_mem h2) h1

theorem PureP.in_empty {P : Program} {g : FuncId} {args : List AV} {R : AV → Prop} {h : Hp} (hp : PureP P g args R) : ACalls P g args (restr [] h) [] fun x h' => (x.refs = [] ∧ R x) ∧ h' = fun _ => none := by
  have e1 : restr [] h = fun _ => none := by funext o; simp [restr]
  rw [e1]
  exact hp.2
theorem LCall.pure {C : Cx} {e : EL} {h : HL} {g : FuncId} {args : List AV} {K : AV → HL → Prop} {R : AV → Prop} (hp : PureP C.P g args R) (hK : ∀ r, r.refs = [] → R r → K r h) : LCall C e h g args K := by
  refine ⟨hp.1, CallOk.own [] (st := ⟨mkE e, mkH h⟩) hp.in_empty ?_⟩
  rintro x h' ⟨⟨hx, hR⟩, rfl⟩
  refine ⟨fun o ho => absurd rfl ho, fun o ho => ?_, fun o y p hy => (by cases hy), h, ?_, hK x hx hR⟩
  · rw [has_refs, hx] at ho
    simp at ho
  · funext o; simp [merge]

def remKs (D : List Nat) (h : HL) : HL :=
  match D with
  | [] => h
  | d :: l => remKs l (remK d h)
theorem mkH_remKs : ∀ (D : List Nat) (h : HL), mkH (remKs D h) = minus D (mkH h)
  | [], h => by funext o; simp [remKs, minus]
  | d :: l, h => by
    rw [remKs, mkH_remKs l]
    funext o
    simp only [minus, mkH_remK, List.mem_cons]
    by_cases h1 : o ∈ l <;> by_cases h2 : o = d <;> simp [h1, h2]

/-- Objects are let go ahead of the call. -/
theorem LCall.freeze {C : Cx} {e : EL} {h : HL} {g : FuncId} {args args' : List AV} {K : AV → HL → Prop} (D : List Nat) (hv : viewL D (mkH h) args args') (hc : LCall C e (remKs D h) g args' K) : LCall C e h g args K := by
  refine ⟨hc.1, CallOk.freeze D (st := ⟨mkE e, mkH h⟩) hv ?_⟩
  have := hc.2
  rw [mkH_remKs] at this
  exact this

/-- A call that looks at objects. -/
theorem LCall.peek {C : Cx} {e : EL} {h : HL} {g : FuncId} {args args' : List AV} {K : AV → HL → Prop} {R : AV → Prop} (D : List Nat) (hv : viewL D (mkH h) args args') (hp : PureP C.P g args' R) (hK : ∀ r, r.refs = [] → R r → r.scal = true ∧ K r h) : LCall C e h g args K := by
  refine ⟨hp.1, CallOk.peek D (st := ⟨mkE e, mkH h⟩) hv hp.2 ?_⟩
  rintro x h' ⟨⟨hx, hR⟩, rfl⟩
  exact ⟨(hK x hx hR).1, h, rfl, (hK x hx hR).2⟩
end Go.Aw
end
section
set_option linter.unusedVariables false
set_option linter.unusedSimpArgs false
namespace Go.Aw

/-- What follows. -/
class KB (α : Type) where
  k : α

section
variable {C : Cx} {n : Nat} {fr : Prop} {e : EL} {h : HL}

def AM.W {α : Type} (n : Nat) (fr : Prop) (m : AM α) (h : HL) [Q : KB (α → HL → Prop)] : Prop := m.lwp n fr h Q.k
theorem W_pure {α : Type} {a : α} {Q : KB (α → HL → Prop)} : (AM.pure a).W n fr h = Q.k a h := (rfl)
theorem W_fail {α : Type} {Q : KB (α → HL → Prop)} : (AM.fail : AM α).W n fr h = False := (rfl)
theorem W_guard {α : Type} {c : Prop} {k : AM α} {Q : KB (α → HL → Prop)} : (AM.guard c k).W n fr h = (c ∧ k.W n fr h) := (rfl)
theorem W_get {α : Type} {o : Nat} {k : AObj → AM α} {Q : KB (α → HL → Prop)} : (AM.get o k).W n fr h = match mkH h o with
    | some x => (k x).W n fr h
    | none => False := by
  unfold AM.W
  simp only [AM.lwp]
  all_goals (cases mkH h o <;> rfl)
theorem W_put {α : Type} {o : Nat} {x : AObj} {k : AM α} {Q : KB (α → HL → Prop)} : (AM.put o x k).W n fr h = ((mkH h o).isSome ∧ k.W n fr ((o, x) :: remK o h)) := (rfl)
theorem W_new {α : Type} {x : AObj} {k : Nat → AM α} {Q : KB (α → HL → Prop)} : (AM.new x k).W n fr h = (fr ∧ x.has n = false ∧ (k n).W n fr ((n, x) :: remK n h)) := (rfl)
theorem W_del {α : Type} {o : Nat} {k : AM α} {Q : KB (α → HL → Prop)} : (AM.del o k).W n fr h = k.W n fr (remK o h) := (rfl)

/-- A call. -/
def LC (C : Cx) (e : EL) (h : HL) (g : FuncId) (args : List AV) [K : KB (AV → HL → Prop)] : Prop := LCall C e h g args K.k
def NX (x : AV) (h : HL) [K : KB (AV → HL → Prop)] : Prop := lnext x h K.k
def LS (C : Cx) (n : Nat) (o : AOp) (e : EL) (h : HL) [K : KB (EL → HL → Prop)] : Prop := lstep C n o e h K.k
theorem LS_def {o : AOp} {K : KB (EL → HL → Prop)} : LS C n o e h = match o.op with
    | .call { callee := .value f, args, argTypes } => match callee (mkE e) f with
      | some (g, first, captured) => @LC C e h g (first ++ args.toList.map (rho (mkE e)) ++ captured) ⟨fun x h' => K.k (putE o.dst x e) h'⟩
      | none => False
    | .next x s => s = false ∧ @NX (rho (mkE e) x) h ⟨fun x h' => K.k (putE o.dst x e) h'⟩
    | .entry x => @AM.W AV n (FreshL C.S e h n) (aentry (rho (mkE e) x)) h ⟨fun x h' => K.k (putE o.dst x e) h'⟩
    | op => @AM.W AV n (FreshL C.S e h n) (aop C.P (mkE e) op) h ⟨fun x h' => K.k (putE o.dst x e) h'⟩ := rfl
def LR (C : Cx) (l : List AOp) (n : Nat) (e : EL) (h : HL) [K : KB (EL → HL → Prop)] : Prop := lruns C l n e h K.k
theorem LR_nil {K : KB (EL → HL → Prop)} : LR C [] n e h = K.k e h := (rfl)
theorem LR_cons {d : Option Nat} {op : Op} {l : List AOp} {K : KB (EL → HL → Prop)} : LR C (⟨d, op, none⟩ :: l) n e h = @LS C n ⟨d, op, none⟩ e h ⟨fun e' h' => LR C l (n + 1) e' h'⟩ := (rfl)
theorem and_ite {t b : Bool} {p q : Prop} : ((t = b → p) ∧ (t = !b → q)) = (if t = b then p else q) := by
  cases t <;> cases b <;> simp
theorem and_ite' {t : Bool} {p q : Prop} : ((t = true → p) ∧ (t = false → q)) = (if t = true then p else q) := by
  cases t <;> simp
theorem ite_imp {c p q : Prop} [Decidable c] : (if c then p else q) = ((c → p) ∧ (¬ c → q)) := by
  by_cases h : c <;> simp [h]
theorem LR_guard {d : Option Nat} {op : Op} {s : Nat} {b : Bool} {l : List AOp} {K : KB (EL → HL → Prop)} : LR C (⟨d, op, some (s, b)⟩ :: l) n e h = match mkE e s with
      | .bool t => if t = b then @LS C n ⟨d, op, none⟩ e h ⟨fun e' h' => LR C l (n + 1) e' h'⟩ else LR C l (n + 1) (putE d (.tup []) e) h
      | .tup [] => LR C l (n + 1) (putE d (.tup []) e) h
      | _ => False := by
  have : LR C (⟨d, op, some (s, b)⟩ :: l) n e h = match mkE e s with
      | .bool t => (t = b → @LS C n ⟨d, op, none⟩ e h ⟨fun e' h' => LR C l (n + 1) e' h'⟩) ∧ (t = !b → LR C l (n + 1) (putE d (.tup []) e) h)
      | .tup [] => LR C l (n + 1) (putE d (.tup []) e) h
      | _ => False := rfl
  rw [this]
  split
  · exact and_ite
  · rfl
  · rfl
/-- A call in a drawn region. -/
def DC (C : Cx) (id : Nat) (h : HL) (g : FuncId) (args : List AV) [K : KB (AV → HL → Prop)] : Prop := ldoCall C id h g args K.k
def DO (C : Cx) (i id : Nat) (o : AOp) (e : EL) (h : HL) [K : KB (AV → HL → Prop)] : Prop := ldoOp C ⟨i, id, o⟩ e h K.k
theorem DO_def {i id : Nat} {o : AOp} {K : KB (AV → HL → Prop)} : DO C i id o e h = match o.op with
    | .call { callee := .value f, args, argTypes } => match callee (mkE e) f with
      | some (g, first, captured) => @DC C id h g (first ++ args.toList.map (rho (mkE e)) ++ captured) K
      | none => False
    | op => @AM.W AV id True (aop C.P (mkE e) op) h K := rfl
def LD (C : Cx) (l : List DI) (e : EL) (h : HL) (fs : List Foot) [K : KB (EL → HL → List Foot → Prop)] : Prop := ldo C l e h fs K.k
theorem LD_nil {fs : List Foot} {K : KB (EL → HL → List Foot → Prop)} : LD C [] e h fs = K.k e h fs := (rfl)
theorem LD_cons {i id : Nat} {d : Option Nat} {op : Op} {l : List DI} {fs : List Foot} {K : KB (EL → HL → List Foot → Prop)} : LD C (⟨i, id, ⟨d, op, none⟩⟩ :: l) e h fs =
    @DO C i id ⟨d, op, none⟩ e h ⟨fun x h' => LD C l (putE d x e) h' (fs ++ [footD ⟨i, id, ⟨d, op, none⟩⟩ (mkE e)])⟩ := (rfl)
theorem LD_guard {i id : Nat} {d : Option Nat} {op : Op} {s : Nat} {b : Bool} {l : List DI} {fs : List Foot} {K : KB (EL → HL → List Foot → Prop)} : LD C (⟨i, id, ⟨d, op, some (s, b)⟩⟩ :: l) e h fs = match mkE e s with
      | .bool t => if t = b then @DO C i id ⟨d, op, none⟩ e h ⟨fun x h' => LD C l (putE d x e) h' (fs ++ [footD ⟨i, id, ⟨d, op, some (s, b)⟩⟩ (mkE e)])⟩ else LD C l (putE d (.tup []) e) h (fs ++ [footD ⟨i, id, ⟨d, op, some (s, b)⟩⟩ (mkE e)])
      | .tup [] => LD C l (putE d (.tup []) e) h (fs ++ [footD ⟨i, id, ⟨d, op, some (s, b)⟩⟩ (mkE e)])
      | _ => False := by
  have : LD C (⟨i, id, ⟨d, op, some (s, b)⟩⟩ :: l) e h fs = match mkE e s with
      | .bool t => (t = b → @DO C i id ⟨d, op, none⟩ e h ⟨fun x h' => LD C l (putE d x e) h' (fs ++ [footD ⟨i, id, ⟨d, op, some (s, b)⟩⟩ (mkE e)])⟩) ∧ (t = !b → LD C l (putE d (.tup []) e) h (fs ++ [footD ⟨i, id, ⟨d, op, some (s, b)⟩⟩ (mkE e)]))
      | .tup [] => LD C l (putE d (.tup []) e) h (fs ++ [footD ⟨i, id, ⟨d, op, some (s, b)⟩⟩ (mkE e)])
      | _ => False := rfl
  rw [this]
  split
  · exact and_ite
  · rfl
  · rfl
def LL (C : Cx) (a : ACode) (e : EL) (h : HL) [Q : KB (AX → EL → HL → Prop)] : Prop := LLoop C a e h Q.k
def X (C : Cx) (c : ACode) (e : EL) (h : HL) [Q : KB (AX → EL → HL → Prop)] : Prop := aexec C c e h Q.k
theorem X_skip {Q : KB (AX → EL → HL → Prop)} : X C .skip e h = Q.k .normal e h := (rfl)
theorem X_ops {l : List AOp} {Q : KB (AX → EL → HL → Prop)} : X C (.ops n l) e h = @LR C l n e h ⟨fun e' h' => Q.k .normal e' h'⟩ := (rfl)
theorem X_dops {l : List AOp} {anc : List (List Nat)} {Q : KB (AX → EL → HL → Prop)} : X C (.dops n l anc) e h = (freshN C.S e h n l.length ∧ @LD C (items n 0 l) e h [] ⟨fun e' h' fs => compat anc fs = true ∧ Q.k .normal e' h'⟩) := (rfl)
theorem X_seq {a b : ACode} {Q : KB (AX → EL → HL → Prop)} : X C (.seq a b) e h = @X C a e h ⟨fun x e' h' => match x with
    | .normal => X C b e' h'
    | .exit id => Q.k (.exit id) e' h'
    | .ret => Q.k .ret e' h'⟩ := rfl
theorem X_cond {c : Operand} {a b : ACode} {Q : KB (AX → EL → HL → Prop)} : X C (.cond c a b) e h = match rho (mkE e) c with
    | .bool t => if t = true then X C a e h else X C b e h
    | _ => False := by
  have : X C (.cond c a b) e h = match rho (mkE e) c with
    | .bool t => (t = true → X C a e h) ∧ (t = false → X C b e h)
    | _ => False := rfl
  rw [this]
  split
  · exact and_ite'
  · rfl
theorem X_block {id : Nat} {a : ACode} {Q : KB (AX → EL → HL → Prop)} : X C (.block id a) e h = @X C a e h ⟨fun x e' h' => match x with
    | .normal => Q.k .normal e' h'
    | .exit id' => if id' = id then Q.k .normal e' h' else Q.k (.exit id') e' h'
    | .ret => Q.k .ret e' h'⟩ := rfl
theorem X_loop {a : ACode} {Q : KB (AX → EL → HL → Prop)} : X C (.loop a) e h = LL C a e h := (rfl)
theorem X_exit {id : Nat} {Q : KB (AX → EL → HL → Prop)} : X C (.exit id) e h = Q.k (.exit id) e h := (rfl)
theorem X_ret {Q : KB (AX → EL → HL → Prop)} : X C .ret e h = Q.k .ret e h := (rfl)

theorem LC.pure {g : FuncId} {args : List AV} {K : KB (AV → HL → Prop)} {R : AV → Prop} (hp : PureP C.P g args R) (hK : ∀ r, r.refs = [] → R r → K.k r h) : LC C e h g args := LCall.pure hp hK
theorem LC.val {g : FuncId} {args : List AV} {K : KB (AV → HL → Prop)} {r : AV} (hp : PureP C.P g args (· = r)) (hK : K.k r h) : LC C e h g args := LCall.pure hp fun _ _ e => e ▸ hK
theorem LC.freeze {g : FuncId} {args args' : List AV} {K : KB (AV → HL → Prop)} (D : List Nat) (hv : viewL D (mkH h) args args') (hc : LC C e (remKs D h) g args') : LC C e h g args := LCall.freeze D hv hc
theorem LC.peek {g : FuncId} {args args' : List AV} {K : KB (AV → HL → Prop)} {r : AV} (D : List Nat) (hv : viewL D (mkH h) args args') (hp : PureP C.P g args' (· = r)) (hs : r.scal = true) (hK : K.k r h) : LC C e h g args :=
  LCall.peek D hv hp fun _ _ e => e ▸ ⟨hs, hK⟩
theorem LL.intro {a : ACode} {Q : KB (AX → EL → HL → Prop)} (hm : C.P.follows .mixedOrders = true) {ι : Type} (E : ι → EL) (H : ι → HL) (m : ι → Nat) (i0 : ι)
    (h0 : ∃ f, LeL C.S f (E i0) (H i0) e h) (hround : ∀ i, @X C a (E i) (H i) ⟨fun x e' h' => match x with
      | .normal => ∃ i', m i' < m i ∧ ∃ f, LeL C.S f (E i') (H i') e' h'
      | .exit id => Q.k (.exit id) e' h'
      | .ret => Q.k .ret e' h'⟩) : LL C a e h := LLoop.intro hm E H m i0 h0 hround
theorem PureP.run {P : Program} {g : FuncId} {fn : Func} {c : ACode} {args : List AV} {rs : List ResultVar} {R : AV → Prop} (hm : P.follows .mixedOrders = true) (hE : Enters P g)
    (hf : P.funcs[g]? = some fn) (hc : fn.body.bind (absCode fn.ntmps) = some c) (hr : fn.results.toList = rs) (hn : decide (args.length ≤ fn.ntmps) = true)
    (hw : @X ⟨P, fn.ntmps, []⟩ c (argE 0 args) [] ⟨finP P rs R⟩) : PureP P g args R := PureP.exec hm hE hf hc hr hn hw
theorem PureE.run {P : Program} {g : FuncId} {fn : Func} {c : ACode} {args : List AV} {rs : List ResultVar} {r : AV} (hm : P.follows .mixedOrders = true) (hE : Enters P g)
    (hf : P.funcs[g]? = some fn) (hc : fn.body.bind (absCode fn.ntmps) = some c) (hr : fn.results.toList = rs) (hn : decide (args.length ≤ fn.ntmps) = true) (hrefs : r.refs = [])
    (hw : @X ⟨P, fn.ntmps, []⟩ c (argE 0 args) [] ⟨finE P rs r⟩) : PureP P g args (· = r) := PureE.exec hm hE hf hc hr hn hrefs hw
/-- Some rounds of a loop, one by one. -/
def LU (C : Cx) (a : ACode) : Nat → (e : EL) → (h : HL) → [Q : KB (AX → EL → HL → Prop)] → Prop
  | 0, _, _, _ => False
  | n + 1, e, h, Q => @X C a e h ⟨fun x e' h' => match x with
    | .normal => LU C a n e' h'
    | .exit id => Q.k (.exit id) e' h'
    | .ret => Q.k .ret e' h'⟩
theorem LU.unroll {a : ACode} {Q : KB (AX → EL → HL → Prop)} : LU C a (n + 1) e h = @X C a e h ⟨fun x e' h' => match x with
    | .normal => LU C a n e' h'
    | .exit id => Q.k (.exit id) e' h'
    | .ret => Q.k .ret e' h'⟩ := (rfl)
theorem LU.rounds (hm : C.P.follows .mixedOrders = true) {a : ACode} {Q : KB (AX → EL → HL → Prop)} : ∀ (n : Nat) (e : EL) (h : HL), LU C a n e h → Aw.rounds C a (fun x st => ∃ e' h', st = ⟨mkE e', mkH h'⟩ ∧ Q.k x e' h') n ⟨mkE e, mkH h⟩
  | 0, _, _, hu => hu
  | n + 1, e, h, hu => aexec_sound hm a e h _ _ (fun x e' h' q => by
      cases x with
      | normal => exact LU.rounds hm n e' h' q
      | exit id => exact ⟨e', h', rfl, q⟩
      | ret => exact ⟨e', h', rfl, q⟩) hu
theorem LL.unroll (n : Nat) (hm : C.P.follows .mixedOrders = true) {a : ACode} {Q : KB (AX → EL → HL → Prop)} (hu : LU C a n e h) : LL C a e h := AWp.unrollN n (LU.rounds hm n e h hu)

theorem wrap_i64 {x : Int} (h1 : -9223372036854775808 ≤ x) (h2 : x ≤ 9223372036854775807) : IntKind.i64.wrap x = x := IntWalk.i64_in x (by omega)
theorem eq_wrap {x y : Int} (h : x = y) (h1 : -9223372036854775808 ≤ y) (h2 : y ≤ 9223372036854775807) : x = IntKind.i64.wrap y := h.trans (wrap_i64 h1 h2).symm
/-- A call in a drawn region, what it comes to said beforehand. -/
theorem W_call {P : Program} {g : FuncId} {args : List AV} {x : AV} {n' : Nat} {Q : KB (AV → HL → Prop)} (hp : PureP P g args (· = x)) (ha : AV.refsL args = []) (hx : x.refs = []) :
    (callProg P g args n' ⟨args, x, none, none⟩).W n fr h = Q.k x h := by
  unfold callProg AM.W
  rw [ha]
  simp only [readAll, AM.lwp]
  refine propext ⟨fun q => q.2.2, fun q => ⟨⟨hp.1, viewL_self ha, ?_⟩, ⟨by simp [hx], .inl trivial, by simp⟩, q⟩⟩
  exact hp.2.mono fun y h' q => ⟨q.1.2, q.2⟩
theorem rep0 {α : Type} {x : α} : List.replicate 0 x = [] := (rfl)
theorem rep1 {α : Type} {x : α} : List.replicate 1 x = [x] := (rfl)
theorem rep2 {α : Type} {x : α} : List.replicate 2 x = [x, x] := (rfl)
theorem rep3 {α : Type} {x : α} : List.replicate 3 x = [x, x, x] := (rfl)
theorem rep4 {α : Type} {x : α} : List.replicate 4 x = [x, x, x, x] := (rfl)
theorem rep5 {α : Type} {x : α} : List.replicate 5 x = [x, x, x, x, x] := (rfl)
theorem rep6 {α : Type} {x : α} : List.replicate 6 x = [x, x, x, x, x, x] := (rfl)
theorem rep7 {α : Type} {x : α} : List.replicate 7 x = [x, x, x, x, x, x, x] := (rfl)
theorem rep8 {α : Type} {x : α} : List.replicate 8 x = [x, x, x, x, x, x, x, x] := (rfl)
theorem hasLL_app {n : Nat} : ∀ {xs ys : List (List AV)}, AV.hasLL n (xs ++ ys) = (AV.hasLL n xs || AV.hasLL n ys)
  | [], ys => by simp [AV.hasLL]
  | x :: xs, ys => by simp [AV.hasLL, hasLL_app (xs := xs), Bool.or_assoc]
theorem renLL_app {f : Nat → Nat} {xs ys : List (List AV)} : AV.renLL f (xs ++ ys) = AV.renLL f xs ++ AV.renLL f ys := by simp [renLL_map]
theorem leafLL_app : ∀ {xs ys : List (List AV)}, AV.leafLL (xs ++ ys) = (AV.leafLL xs && AV.leafLL ys)
  | [], ys => by simp [AV.leafLL]
  | x :: xs, ys => by simp [AV.leafLL, leafLL_app (xs := xs), Bool.and_assoc]
theorem hasLL_leaf {n : Nat} {α : Type} {enc : α → List AV} (h : ∀ x, AV.leafL (enc x) = true) (l : List α) : AV.hasLL n (l.map enc) = false := hasLL_of_leafLL (leafLL_map enc h l)
theorem refs_leaf : ∀ {x : AV}, x.leaf = true → x.refs = []
  | .int _ _, _ => rfl
  | .bool _, _ => rfl
  | .str _, _ => rfl
  | .nilp, _ => rfl
  | .nilfunc, _ => rfl
  | .nilmap, _ => rfl
  | .iptr _, _ => rfl
  | .isl _ _, _ => rfl
theorem refsL_leaf : ∀ {xs : List AV}, AV.leafL xs = true → AV.refsL xs = []
  | [], _ => rfl
  | x :: xs, h => by
    simp only [AV.leafL, Bool.and_eq_true] at h
    simp only [AV.refsL, refs_leaf h.1, refsL_leaf h.2, List.append_nil]
theorem renLL_leaf {f : Nat → Nat} {α : Type} {enc : α → List AV} (h : ∀ x, AV.leafL (enc x) = true) : ∀ (l : List α), AV.renLL f (l.map enc) = l.map enc
  | [] => rfl
  | x :: xs => by simp only [List.map_cons, AV.renLL, renL_id _ (refsL_leaf (h x)), renLL_leaf h xs]
theorem take_all {α β : Type} {f : α → β} {l : List α} : List.take l.length (l.map f) = l.map f := by
  rw [List.take_of_length_le]; simp
theorem arr1_0 {a : Nat} : (#[a] : Array Nat).getD 0 0 = a := (rfl)
theorem arr2_0 {a b : Nat} : (#[a, b] : Array Nat).getD 0 0 = a := (rfl)
theorem arr2_1 {a b : Nat} : (#[a, b] : Array Nat).getD 1 0 = b := (rfl)
theorem arr1_size {a : Nat} : (#[a] : Array Nat).size = 1 := (rfl)
theorem arr2_size {a b : Nat} : (#[a, b] : Array Nat).size = 2 := (rfl)
theorem pick_bool {c x y : Bool} : (bif c then AV.bool x else AV.bool y) = AV.bool (bif c then x else y) := by cases c <;> rfl
theorem pick_int {c : Bool} {k : IntKind} {x y : Int} : (bif c then AV.int k x else AV.int k y) = AV.int k (bif c then x else y) := by cases c <;> rfl
end
end Go.Aw
end
section
set_option linter.unusedVariables false
set_option linter.unusedSimpArgs false
namespace Go.Aw

/-! ### Consequence -/
theorem LCall.mono {C : Cx} {e : EL} {h : HL} {g : FuncId} {args : List AV} {K K' : AV → HL → Prop} (hc : LCall C e h g args K) (hk : ∀ x h', K x h' → K' x h') : LCall C e h g args K' :=
  ⟨hc.1, hc.2.mono fun x h' ⟨hl, e1, q⟩ => ⟨hl, e1, hk _ _ q⟩⟩
theorem lnext_mono {x : AV} {h : HL} {K K' : AV → HL → Prop} (hn : lnext x h K) (hk : ∀ x h', K x h' → K' x h') : lnext x h K' := by
  unfold lnext at *
  split
  · rename_i i
    simp only at hn
    split
    · rename_i hi; rw [hi] at hn; exact hk _ _ hn
    · rename_i hi
      rw [hi] at hn
      simp only at hn
      split
      · rename_i hm
        rw [hm] at hn
        exact ⟨hn.1, hn.2.1, fun q => hk _ _ (hn.2.2.1 q), fun e he hs => hk _ _ (hn.2.2.2 e he hs)⟩
      · rename_i q2
        split at hn
        · rename_i hm; exact absurd hm (q2 _ _)
        · exact hn
    · rename_i q1 q2
      split at hn
      · rename_i hi; exact absurd hi (q1 _ _ _)
      · rename_i hi; exact absurd hi (q2 _ _ _ _)
      · exact hn
  · rename_i q
    split at hn
    · exact absurd rfl (q _)
    · exact hn
theorem lstep_mono {C : Cx} {n : Nat} {o : AOp} {e : EL} {h : HL} {K K' : EL → HL → Prop} (hs : lstep C n o e h K) (hk : ∀ e' h', K e' h' → K' e' h') : lstep C n o e h K' := by
  unfold lstep at *
  split
  · rename_i f args ts hop
    rw [hop] at hs
    simp only at hs
    split at hs
    · rename_i g first captured hc
      exact hs.mono fun x h' q => hk _ _ q
    · exact hs.elim
  · rename_i x s hop
    rw [hop] at hs
    exact ⟨hs.1, lnext_mono hs.2 fun x h' q => hk _ _ q⟩
  · rename_i x hop
    rw [hop] at hs
    exact AM.lwp_mono hs fun x h' q => hk _ _ q
  · rename_i q1 q2 q3
    split at hs
    · rename_i hop; exact absurd hop (q1 _ _ _)
    · rename_i hop; exact absurd hop (q2 _ _)
    · rename_i hop; exact absurd hop (q3 _)
    · exact AM.lwp_mono hs fun x h' q => hk _ _ q
theorem lruns_mono {C : Cx} : ∀ (l : List AOp) (n : Nat) (e : EL) (h : HL) (K K' : EL → HL → Prop), (∀ e' h', K e' h' → K' e' h') → lruns C l n e h K → lruns C l n e h K'
  | [], n, e, h, K, K', hk, hr => hk _ _ hr
  | o :: l, n, e, h, K, K', hk, hr => by
    simp only [lruns] at *
    split
    · rename_i hg
      rw [hg] at hr
      exact lstep_mono hr fun e' h' q => lruns_mono l _ _ _ K K' hk q
    · rename_i s b hg
      rw [hg] at hr
      simp only at hr
      split
      · rename_i t ht
        rw [ht] at hr
        exact ⟨fun q => lstep_mono (hr.1 q) fun e' h' q => lruns_mono l _ _ _ K K' hk q, fun q => lruns_mono l _ _ _ K K' hk (hr.2 q)⟩
      · rename_i ht
        rw [ht] at hr
        exact lruns_mono l _ _ _ K K' hk hr
      · rename_i q1 q2
        split at hr
        · rename_i ht; exact absurd ht (q1 _)
        · rename_i ht; exact absurd ht q2
        · exact hr
theorem ldoOp_mono {C : Cx} {it : DI} {e : EL} {h : HL} {K K' : AV → HL → Prop} (ho : ldoOp C it e h K) (hk : ∀ x h', K x h' → K' x h') : ldoOp C it e h K' := by
  unfold ldoOp at *
  split
  · rename_i f args ts hop
    rw [hop] at ho
    simp only at ho
    split at ho
    · rename_i g first captured hc
      obtain ⟨r, hr⟩ := ho
      exact ⟨r, AM.lwp_mono hr hk⟩
    · exact ho.elim
  · rename_i q
    split at ho
    · rename_i hop; exact absurd hop (q _ _ _)
    · exact AM.lwp_mono ho hk
theorem ldo_mono {C : Cx} : ∀ (l : List DI) (e : EL) (h : HL) (fs : List Foot) (K K' : EL → HL → List Foot → Prop), (∀ e' h' fs', K e' h' fs' → K' e' h' fs') → ldo C l e h fs K → ldo C l e h fs K'
  | [], e, h, fs, K, K', hk, hr => hk _ _ _ hr
  | it :: l, e, h, fs, K, K', hk, hr => by
    simp only [ldo, ldoG] at *
    have ih := fun e h fs => ldo_mono (C := C) l e h fs K K' hk
    split
    · rename_i hg
      rw [hg] at hr
      exact ldoOp_mono hr fun x h' q => ih _ _ _ q
    · rename_i s b hg
      rw [hg] at hr
      simp only at hr
      split
      · rename_i t ht
        rw [ht] at hr
        exact ⟨fun q => ldoOp_mono (hr.1 q) fun x h' q => ih _ _ _ q, fun q => ih _ _ _ (hr.2 q)⟩
      · rename_i ht
        rw [ht] at hr
        exact ih _ _ _ hr
      · rename_i q1 q2
        split at hr
        · rename_i ht; exact absurd ht (q1 _)
        · rename_i ht; exact absurd ht q2
        · exact hr
theorem aexec_mono {C : Cx} : ∀ (c : ACode) (e : EL) (h : HL) (Q Q' : AX → EL → HL → Prop), (∀ x e' h', Q x e' h' → Q' x e' h') → aexec C c e h Q → aexec C c e h Q'
  | .skip, e, h, Q, Q', hq, hr => hq _ _ _ hr
  | .ops n l, e, h, Q, Q', hq, hr => lruns_mono l n e h _ _ (fun e' h' q => hq _ _ _ q) hr
  | .dops n l anc, e, h, Q, Q', hq, hr => ⟨hr.1, ldo_mono _ _ _ _ _ _ (fun e' h' fs q => ⟨q.1, hq _ _ _ q.2⟩) hr.2⟩
  | .seq a b, e, h, Q, Q', hq, hr => aexec_mono a e h _ _ (fun x e' h' q => by
      cases x with
      | normal => exact aexec_mono b e' h' Q Q' hq q
      | exit id => exact hq _ _ _ q
      | ret => exact hq _ _ _ q) hr
  | .cond c a b, e, h, Q, Q', hq, hr => by
    simp only [aexec] at *
    split
    · rename_i t ht
      rw [ht] at hr
      exact ⟨fun q => aexec_mono a e h Q Q' hq (hr.1 q), fun q => aexec_mono b e h Q Q' hq (hr.2 q)⟩
    · rename_i q
      split at hr
      · rename_i ht; exact absurd ht (q _)
      · exact hr
  | .block id a, e, h, Q, Q', hq, hr => aexec_mono a e h _ _ (fun x e' h' q => by
      cases x with
      | normal => exact hq _ _ _ q
      | exit id' =>
        simp only at q ⊢
        split
        · rename_i e'; rw [if_pos e'] at q; exact hq _ _ _ q
        · rename_i e'; rw [if_neg e'] at q; exact hq _ _ _ q
      | ret => exact hq _ _ _ q) hr
  | .loop a, e, h, Q, Q', hq, hr => AWp.mono hr fun x st ⟨e', h', e1, q⟩ => ⟨e', h', e1, hq _ _ _ q⟩
  | .exit id, e, h, Q, Q', hq, hr => hq _ _ _ hr
  | .ret, e, h, Q, Q', hq, hr => hq _ _ _ hr

section
variable {C : Cx} {n : Nat} {fr : Prop} {e : EL} {h : HL}

/-- A loop that counts up to N: k: what else changes. -/
theorem LL.upk {a : ACode} {Q : KB (AX → EL → HL → Prop)} (hm : C.P.follows .mixedOrders = true) (N : Nat) {κ : Type} (k0 : κ) (I : Nat → κ → Prop) (E : Nat → κ → EL) (H : Nat → κ → HL) (hI : I 0 k0)
    (h0 : ∃ f, LeL C.S f (E 0 k0) (H 0 k0) e h)
    (hround : ∀ i k, i < N → I i k → @X C a (E i k) (H i k) ⟨fun x e' h' => match x with
      | .normal => ∃ k', I (i + 1) k' ∧ ∃ f, LeL C.S f (E (i + 1) k') (H (i + 1) k') e' h'
      | .exit id => Q.k (.exit id) e' h'
      | .ret => Q.k .ret e' h'⟩)
    (hend : ∀ k, I N k → @X C a (E N k) (H N k) ⟨fun x e' h' => match x with
      | .normal => False
      | .exit id => Q.k (.exit id) e' h'
      | .ret => Q.k .ret e' h'⟩) : LL C a e h := by
  refine LL.intro hm (ι := { p : Nat × κ // p.1 ≤ N ∧ I p.1 p.2 }) (fun p => E p.1.1 p.1.2) (fun p => H p.1.1 p.1.2) (fun p => N - p.1.1) ⟨(0, k0), Nat.zero_le _, hI⟩ h0 ?_
  rintro ⟨⟨i, k⟩, hi, hk⟩
  simp only at hi hk
  rcases Nat.lt_or_ge i N with hlt | hge
  · refine aexec_mono _ _ _ _ _ (fun x e' h' q => ?_) (hround i k hlt hk)
    cases x with
    | normal =>
      obtain ⟨k', h1, h2⟩ := q
      exact ⟨⟨(i + 1, k'), by simp only; omega, h1⟩, by simp only; omega, h2⟩
    | exit id => exact q
    | ret => exact q
  · have : i = N := by omega
    subst this
    refine aexec_mono _ _ _ _ _ (fun x e' h' q => ?_) (hend k hk)
    cases x with
    | normal => exact q.elim
    | exit id => exact q
    | ret => exact q
theorem LL.up {a : ACode} {Q : KB (AX → EL → HL → Prop)} (hm : C.P.follows .mixedOrders = true) (N : Nat) (I : Nat → Prop) (E : Nat → EL) (H : Nat → HL) (hI : I 0)
    (h0 : ∃ f, LeL C.S f (E 0) (H 0) e h)
    (hround : ∀ i, i < N → I i → @X C a (E i) (H i) ⟨fun x e' h' => match x with
      | .normal => I (i + 1) ∧ ∃ f, LeL C.S f (E (i + 1)) (H (i + 1)) e' h'
      | .exit id => Q.k (.exit id) e' h'
      | .ret => Q.k .ret e' h'⟩)
    (hend : I N → @X C a (E N) (H N) ⟨fun x e' h' => match x with
      | .normal => False
      | .exit id => Q.k (.exit id) e' h'
      | .ret => Q.k .ret e' h'⟩) : LL C a e h := by
  refine LL.upk hm N () (fun i _ => I i) (fun i _ => E i) (fun i _ => H i) hI h0 (fun i _ hi hk => ?_) (fun _ hk => hend hk)
  refine aexec_mono _ _ _ _ _ (fun x e' h' q => ?_) (hround i hi hk)
  cases x with
  | normal => exact ⟨(), q⟩
  | exit id => exact q
  | ret => exact q

/-! ### A slice that is nil, as a row of the call's own -/
theorem AWp.nilrow {c : ACode} {st : St} {Q : AX → St → Prop} {t o : Nat} (E k : Nat) (ht : st.env t = .isl .nil []) (hf : Fresh C st o)
    (hw : AWp C c ⟨updE st.env t (.sl o 0 0 false), updH st.heap o (some (.row E k []))⟩ Q) : AWp C c st Q := by
  rintro code hc F a w ⟨β, hs⟩
  refine hw code hc F a w ⟨updB β o none, ?_⟩
  have h1 := hs.newNil hf E k
  refine { h1 with env := fun s => ?_ }
  show VR w _ _ (updE st.env t (.sl o 0 0 false) s) (a.tmps.getD s undef)
  unfold updE
  by_cases hst : s = t
  · subst hst
    rw [if_pos rfl]
    have hv := hs.env s
    rw [ht] at hv
    have hi := hv.isl_inv
    generalize a.tmps.getD s undef = v at hi ⊢
    cases hi with
    | isl _ _ A cap k hcap hmax hk hff hn hA vs h1c hcc hh =>
      obtain ⟨rfl, rfl⟩ := hn rfl
      exact .nilrow o false none (by simp [updB])
  · rw [if_neg hst]
    exact h1.env s
theorem LL.nilrow {a : ACode} {Q : KB (AX → EL → HL → Prop)} (t o E k : Nat) (ht : mkE e t = .isl .nil []) (hf : FreshL C.S e h o)
    (hw : LL C a ((t, .sl o 0 0 false) :: remK t e) ((o, .row E k []) :: remK o h)) : LL C a e h := by
  refine AWp.nilrow (t := t) (o := o) E k ht hf.fresh ?_
  have := hw
  unfold LL LLoop at this
  rwa [mkE_put, mkH_put] at this

/-! ### Calls in drawn regions -/
theorem DC.val {id : Nat} {g : FuncId} {args : List AV} {r : AV} {K : KB (AV → HL → Prop)} (hp : PureP C.P g args (· = r)) (ha : AV.refsL args = []) (hx : r.refs = []) (hK : K.k r h) : DC C id h g args :=
  ⟨⟨args, r, none, none⟩, by
    have := W_call (fr := True) (n := id) (n' := id) (h := h) (Q := K) hp ha hx
    unfold AM.W at this
    show (callProg _ _ _ _ _).lwp _ _ _ _
    rw [this]
    exact hK⟩
theorem readAll_lwp {α : Type} {k : Hp → AM α} {Q : α → HL → Prop} : ∀ (os : List Nat) (acc : Hp), (∀ o ∈ os, mkH h o ≠ none) → (∀ p, acc p = none ∨ acc p = mkH h p) →
    (∀ hv : Hp, (∀ p, acc p ≠ none ∨ p ∈ os → hv p = mkH h p) → (k hv).lwp n fr h Q) → (readAll os acc k).lwp n fr h Q
  | [], acc, _, ha, hk => hk acc fun p hp => by
    rcases hp with hp | hp
    · exact (ha p).resolve_left hp
    · simp at hp
  | o :: os, acc, ho, ha, hk => by
    simp only [readAll, AM.lwp]
    cases hx : mkH h o with
    | none => exact absurd hx (ho o (List.mem_cons_self ..))
    | some x =>
      refine readAll_lwp os _ (fun p hp => ho p (List.mem_cons_of_mem _ hp)) (fun p => ?_) (fun hv hh => hk hv fun p hp => ?_)
      · unfold updH
        split
        · rename_i q; subst q; exact .inr hx.symm
        · exact ha p
      · by_cases hpo : p = o
        · exact hh p (.inl (by unfold updH; rw [if_pos hpo]; simp))
        · refine hh p ?_
          rcases hp with hp | hp
          · exact .inl (by unfold updH; rw [if_neg hpo]; exact hp)
          · exact .inr ((List.mem_cons.1 hp).resolve_left hpo)
theorem view0_on {D : List Nat} {g g' : Hp} {x y : AV} (hg : ∀ o ∈ x.refs, g' o = g o) (hv : view0 D g x y) : view0 D g' x y := by
  unfold view0 at *
  split
  · rename_i o off len full
    rw [hg o (by simp [AV.refs])]
    exact hv
  · rename_i o i j
    rw [hg o (by simp [AV.refs])]
    exact hv
  · rename_i q1 q2
    split at hv
    · exact absurd rfl (q1 _ _ _ _)
    · exact absurd rfl (q2 _ _ _)
    · exact hv
theorem viewL0_on {D : List Nat} {g g' : Hp} : ∀ {xs ys : List AV}, (∀ o ∈ AV.refsL xs, g' o = g o) → viewL0 D g xs ys → viewL0 D g' xs ys
  | [], _, _, hv => hv
  | x :: xs, ys, hg, ⟨a', bs', e1, h1, h2⟩ => ⟨a', bs', e1, view0_on (fun o ho => hg o (by simp [AV.refsL, ho])) h1, viewL0_on (fun o ho => hg o (by simp [AV.refsL, ho])) h2⟩
theorem view1_on {D : List Nat} {g g' : Hp} {x y : AV} (hg : ∀ o ∈ x.refs, g' o = g o) (hv : view1 D g x y) : view1 D g' x y := by
  unfold view1 at *
  split
  · obtain ⟨c, e1, h1⟩ := hv
    exact ⟨c, e1, viewL0_on (fun o ho => hg o (by simp [AV.refs, ho])) h1⟩
  · obtain ⟨c, e1, h1⟩ := hv
    exact ⟨c, e1, viewL0_on (fun o ho => hg o (by simp [AV.refs, ho])) h1⟩
  · obtain ⟨c, e1, h1⟩ := hv
    exact ⟨c, e1, viewL0_on (fun o ho => hg o (by simp [AV.refs, ho])) h1⟩
  · rename_i q1 q2 q3
    split at hv
    · exact absurd rfl (q1 _ _ _)
    · exact absurd rfl (q2 _)
    · exact absurd rfl (q3 _)
    · exact view0_on hg hv
theorem viewL_on {D : List Nat} {g g' : Hp} : ∀ {xs ys : List AV}, (∀ o ∈ AV.refsL xs, g' o = g o) → viewL D g xs ys → viewL D g' xs ys
  | [], _, _, hv => hv
  | x :: xs, ys, hg, ⟨a', bs', e1, h1, h2⟩ => ⟨a', bs', e1, view1_on (fun o ho => hg o (by simp [AV.refsL, ho])) h1, viewL_on (fun o ho => hg o (by simp [AV.refsL, ho])) h2⟩
/-- .. that looks at objects: args': as it sees them. -/
theorem DC.peek {id : Nat} {g : FuncId} {args : List AV} {r : AV} {K : KB (AV → HL → Prop)} (args' : List AV) (hv : viewL (AV.refsL args) (mkH h) args args') (hp : PureP C.P g args' (· = r)) (hs : r.scalSl = true) (hx : r.refs = [])
    (ho : ∀ o ∈ AV.refsL args, mkH h o ≠ none) (hK : K.k r h) : DC C id h g args := by
  refine ⟨⟨args', r, none, none⟩, ?_⟩
  unfold callAny
  simp only
  unfold callProg
  refine readAll_lwp _ _ ho (fun _ => .inl rfl) (fun hv' hh => ?_)
  simp only [AM.lwp]
  refine ⟨⟨hp.1, viewL_on (fun o ho => hh o (.inr ho)) hv, ?_⟩, ⟨by simp [hx], .inr ⟨hs, by simp⟩, by simp⟩, hK⟩
  exact hp.2.mono fun y h' q => ⟨q.1.2, q.2⟩
theorem delAll_lwp {y : AV} {Q : AV → HL → Prop} : ∀ (os : List Nat) {h : HL}, Q y (remKs os h) → (delAll os (.pure y)).lwp n fr h Q
  | [], h, q => q
  | o :: os, h, q => delAll_lwp os (h := remK o h) q
/-- .. that is handed objects for good. -/
theorem DC.frz {id : Nat} {g : FuncId} {args : List AV} {r : AV} {K : KB (AV → HL → Prop)} (args' : List AV) (hv : viewL (AV.refsL args) (mkH h) args args') (hp : PureP C.P g args' (· = r)) (ha : AV.refsL args' = []) (hx : r.refs = [])
    (ho : ∀ o ∈ AV.refsL args, mkH h o ≠ none) (hK : K.k r (remKs (AV.refsL args) h)) : DC C id h g args := by
  refine ⟨⟨args', r, some (.map 0 []), some (0, .map 0 [])⟩, ?_⟩
  unfold callAny
  simp only
  unfold callFrz
  refine readAll_lwp _ _ ho (fun _ => .inl rfl) (fun hv' hh => ?_)
  exact ⟨⟨⟨hp.1, viewL_on (fun o ho => hh o (.inr ho)) hv⟩, hp.2.mono fun y h' q => ⟨q.1.2, q.2⟩, ha, hx⟩, delAll_lwp _ hK⟩
/-- .. that writes an object and is handed no other. -/
theorem DC.put {id : Nat} {g : FuncId} {args : List AV} {x : AV} {o : Nat} {ob ob' : AObj} {K : KB (AV → HL → Prop)} (hE : Enters C.P g) (ho : mkH h o = some ob) (hin : o ∈ AV.refsL args) (ha : ∀ p ∈ AV.refsL args, p = o)
    (hc : ACalls C.P g args (updH (fun _ => none) o (some ob)) [o] (fun z h' => z = x ∧ h' = updH (fun _ => none) o (some ob'))) (hx : ∀ p ∈ x.refs, p = o) (hl : ob'.leafRow = true) (hK : K.k x ((o, ob') :: remK o h)) : DC C id h g args := by
  refine ⟨⟨args, x, none, some (o, ob')⟩, ?_⟩
  unfold callAny
  simp only
  unfold callPut
  rw [if_pos hin]
  simp only [AM.lwp, ho]
  exact ⟨⟨hE, ha, hc⟩, ⟨hx, hl⟩, rfl, hK⟩
end
end Go.Aw
end
section
set_option linter.unusedVariables false
set_option linter.unusedSimpArgs false
namespace Go.Aw

/-- The function comes back with x, whose only object is ob; it is the caller's from then on. -/
def ObjP (P : Program) (g : FuncId) (args : List AV) (x : Nat → AV) (ob : AObj) : Prop :=
  Enters P g ∧ (∀ n m, (x n).ren (fun _ => m) = x m) ∧ (∀ n o, (x n).has o = true → o = n) ∧ (∀ o, ob.has o = false) ∧ ∀ n, ACalls P g args (fun _ => none) [] fun y h' => y = x n ∧ h' = updH (fun _ => none) n (some ob)

/-- What a value is once all objects but n are nobody's any more. -/
def sealN0 (n : Nat) (h : HL) (x r : AV) : Prop :=
  match x with
  | .sl o off len full => (o = n ∧ r = .sl n off len full) ∨ (o ≠ n ∧ seal0 h (.sl o off len full) r)
  | .ptr o i j => (o = n ∧ r = .ptr n i j) ∨ (o ≠ n ∧ seal0 h (.ptr o i j) r)
  | .map o => o = n ∧ r = .map n
  | x => seal0 h x r
def sealNL0 (n : Nat) (h : HL) : List AV → List AV → Prop
  | [], [] => True
  | a :: bs, b :: cs => sealN0 n h a b ∧ sealNL0 n h bs cs
  | _, _ => False
def sealNA (n : Nat) (h : HL) (x r : AV) : Prop :=
  match x, r with
  | .agg cs, .agg cs' => sealNL0 n h cs cs'
  | x, r => sealN0 n h x r
def sealNL1 (n : Nat) (h : HL) : List AV → List AV → Prop
  | [], [] => True
  | a :: bs, b :: cs => sealNA n h a b ∧ sealNL1 n h bs cs
  | _, _ => False
def sealN1 (n : Nat) (h : HL) (x r : AV) : Prop :=
  match x, r with
  | .tup cs, .tup cs' => sealNL1 n h cs cs'
  | x, r => sealNA n h x r

def butN (n : Nat) (h : HL) : List Nat := (keys h).filter (· ≠ n)
section
variable {w : World} {A : Nat → Prop} {β : Nat → Option Loc} {h : HL} {n : Nat}
theorem butN_mem {o : Nat} (ho : mkH h o ≠ none) (hn : o ≠ n) : o ∈ butN n h := by
  simp only [butN, List.mem_filter, decide_eq_true_eq, ne_eq]
  exact ⟨keys_mem ho, by simpa using hn⟩
theorem seal0_VRN (hH : HR w A β (mkH h)) {x r : AV} {v : Value} (hs : seal0 h x r) (hn : x.has n = false) (hv : VR w (Av A β (mkH h)) β x v) : VR w (others (butN n h) A β (mkH h)) β r v := by
  unfold seal0 at hs
  split at hs
  · rcases hs with rfl | rfl
    · exact hv.others
    · exact (weak0_VR hv).others
  · rename_i o off len full
    split at hs
    · rename_i e k xs hob
      obtain ⟨h1, h2, h3⟩ := hs
      have hne : o ≠ n := by intro e; subst e; simp [AV.has] at hn
      have hv0 : view0 (butN n h) (mkH h) (.sl o off len full) (.isl (if full then .full else .unk) ((xs.drop off).take len)) := by
        simp only [view0, hob]
        exact ⟨butN_mem (by simp [hob]) hne, h1, h2, trivial⟩
      rcases h3 with rfl | rfl
      · exact view0_VR hH hv0 hv
      · exact weak0_VR (view0_VR hH hv0 hv)
    · exact hs.elim
  · rename_i o i j
    split at hs
    · rename_i e k xs hob
      obtain ⟨h1, h2, h3, rfl⟩ := hs
      have hne : o ≠ n := by intro e; subst e; simp [AV.has] at hn
      have hv0 : view0 (butN n h) (mkH h) (.ptr o i j) (.iptr ((xs.getD i []).drop j)) := by
        simp only [view0, hob]
        exact ⟨butN_mem (by simp [hob]) hne, h1, h2, h3, trivial⟩
      exact view0_VR hH hv0 hv
    · exact hs.elim
  · subst hs
    exact hv.others
theorem sealN0_VR (hH : HR w A β (mkH h)) {x r : AV} {v : Value} (hs : sealN0 n h x r) (hv : VR w (Av A β (mkH h)) β x v) : VR w (others (butN n h) A β (mkH h)) β r v := by
  unfold sealN0 at hs
  split at hs
  · rcases hs with ⟨rfl, rfl⟩ | ⟨h1, h2⟩
    · exact hv.others
    · exact seal0_VRN hH h2 (by simp [AV.has, h1]) hv
  · rcases hs with ⟨rfl, rfl⟩ | ⟨h1, h2⟩
    · exact hv.others
    · exact seal0_VRN hH h2 (by simp [AV.has, h1]) hv
  · obtain ⟨rfl, rfl⟩ := hs
    exact hv.others
  · rename_i q1 q2 q3
    have : r = x ∨ ∃ f xs, x = .isl f xs ∧ (r = .isl f xs ∨ r = .isl .unk xs) := by
      unfold seal0 at hs
      split at hs
      · exact .inr ⟨_, _, rfl, hs⟩
      · exact absurd rfl (q1 _ _ _ _)
      · exact absurd rfl (q2 _ _ _)
      · exact .inl hs
    rcases this with rfl | ⟨f, xs, rfl, rfl | rfl⟩
    · exact hv.others
    · exact hv.others
    · exact (weak0_VR hv).others
theorem sealNL0_VR (hH : HR w A β (mkH h)) : ∀ {bs bs' : List AV} {vs : List Value}, sealNL0 n h bs bs' → vs.length = bs.length → (∀ m (h1 : m < bs.length) (h2 : m < vs.length), VR w (Av A β (mkH h)) β bs[m] vs[m]) →
    bs'.length = bs.length ∧ ∀ m (h1 : m < bs'.length) (h2 : m < vs.length), VR w (others (butN n h) A β (mkH h)) β bs'[m] vs[m]
  | [], [], vs, hv, hl, hh => ⟨rfl, fun m h1 => by simp at h1⟩
  | [], _ :: _, vs, hv, hl, hh => hv.elim
  | _ :: _, [], vs, hv, hl, hh => hv.elim
  | a :: bs, a' :: bs', vs, hv, hl, hh => by
    obtain ⟨h1, h2⟩ := hv
    cases vs with
    | nil => simp at hl
    | cons v vs =>
      have h0 := hh 0 (by simp) (by simp)
      obtain ⟨k1, k2⟩ := sealNL0_VR hH h2 (by simpa using hl) (fun m g1 g2 => hh (m + 1) (by simpa using g1) (by simpa using g2))
      refine ⟨by simp [k1], fun m g1 g2 => ?_⟩
      cases m with
      | zero => exact sealN0_VR hH h1 h0
      | succ m => exact k2 m (by simpa using g1) (by simpa using g2)
theorem sealNA_VR (hH : HR w A β (mkH h)) {x r : AV} {v : Value} (hs : sealNA n h x r) (hv : VR w (Av A β (mkH h)) β x v) : VR w (others (butN n h) A β (mkH h)) β r v := by
  unfold sealNA at hs
  split at hs
  · rename_i cs cs'
    have hc := hs
    obtain ⟨vs, rfl, l2, g1, g2⟩ := hv.agg_inv
    obtain ⟨k1, k2⟩ := sealNL0_VR hH (vs := vs.toList) hc (by simpa using l2) (fun m h1 h2 => by simpa using g2 m h1 (by simpa using h2))
    exact .agg _ _ (by omega) g1 (fun m h1 h2 => k2 m h1 (by simpa using h2))
  · exact sealN0_VR hH hs hv
theorem sealNL1_VR (hH : HR w A β (mkH h)) : ∀ {bs bs' : List AV} {vs : List Value}, sealNL1 n h bs bs' → vs.length = bs.length → (∀ m (h1 : m < bs.length) (h2 : m < vs.length), VR w (Av A β (mkH h)) β bs[m] vs[m]) →
    bs'.length = bs.length ∧ ∀ m (h1 : m < bs'.length) (h2 : m < vs.length), VR w (others (butN n h) A β (mkH h)) β bs'[m] vs[m]
  | [], [], vs, hv, hl, hh => ⟨rfl, fun m h1 => by simp at h1⟩
  | [], _ :: _, vs, hv, hl, hh => hv.elim
  | _ :: _, [], vs, hv, hl, hh => hv.elim
  | a :: bs, a' :: bs', vs, hv, hl, hh => by
    obtain ⟨h1, h2⟩ := hv
    cases vs with
    | nil => simp at hl
    | cons v vs =>
      have h0 := hh 0 (by simp) (by simp)
      obtain ⟨k1, k2⟩ := sealNL1_VR hH h2 (by simpa using hl) (fun m g1 g2 => hh (m + 1) (by simpa using g1) (by simpa using g2))
      refine ⟨by simp [k1], fun m g1 g2 => ?_⟩
      cases m with
      | zero => exact sealNA_VR hH h1 h0
      | succ m => exact k2 m (by simpa using g1) (by simpa using g2)
theorem sealN1_VR (hH : HR w A β (mkH h)) {x r : AV} {v : Value} (hs : sealN1 n h x r) (hv : VR w (Av A β (mkH h)) β x v) : VR w (others (butN n h) A β (mkH h)) β r v := by
  unfold sealN1 at hs
  split at hs
  · rename_i cs cs'
    have hc := hs
    obtain ⟨vs, rfl, l2, g2⟩ := hv.tup_inv
    obtain ⟨k1, k2⟩ := sealNL1_VR hH (vs := vs.toList) hc (by simpa using l2) (fun m h1 h2 => by simpa using g2 m h1 (by simpa using h2))
    exact .tup _ _ (by omega) (fun m h1 h2 => k2 m h1 (by simpa using h2))
  · exact sealNA_VR hH hs hv
end

theorem obj_refs {ob : AObj} (h : ∀ o, ob.has o = false) (f : Nat → Nat) : True := trivial

def finR (P : Program) (rs : List ResultVar) (x : Nat → AV) (R : AObj → Prop) (ax : AX) (e : EL) (h : HL) : Prop :=
  match ax with
  | .exit _ => False
  | _ => lresL P e h rs fun vs => ∃ n, sealN1 n h (retVal vs) (x n) ∧ ∃ ob, mkH h n = some ob ∧ R ob
theorem ObjP.execR {P : Program} {g : FuncId} {fn : Func} {c : ACode} {args : List AV} {rs : List ResultVar} {x : Nat → AV} {ob : AObj} {R : AObj → Prop} (hR : ∀ ob', R ob' → ∀ w O β l, ObjR w O β l ob' → ObjR w O β l ob) (hm : P.follows .mixedOrders = true) (hE : Enters P g)
    (hf : P.funcs[g]? = some fn) (hc : fn.body.bind (absCode fn.ntmps) = some c) (hr : fn.results.toList = rs) (hn : decide (args.length ≤ fn.ntmps) = true)
    (hx1 : ∀ n m, (x n).ren (fun _ => m) = x m) (hx2 : ∀ n o, (x n).has o = true → o = n) (hob : ∀ o, ob.has o = false) (hob2 : ∀ f, ob.ren f = ob)
    (hw : aexec ⟨P, fn.ntmps, []⟩ c (argE 0 args) [] (finR P rs x R)) : ObjP P g args x ob := by
  refine ⟨hE, hx1, hx2, hob, fun n => ?_⟩
  obtain ⟨body, hb, hc⟩ := Option.bind_eq_some_iff.1 hc
  have h1 : ACalls P g args (fun _ => none) [] fun y h' => ∃ hl, h' = mkH hl ∧ ∃ n, sealN1 n hl y (x n) ∧ ∃ ob, mkH hl n = some ob ∧ R ob := by
    refine ACalls.of hf hb hc (of_decide_eq_true hn) (AWp.mono (aexec_sound hm c _ [] _ (fun ax st => ∃ e h, st = ⟨mkE e, mkH h⟩ ∧ finR P rs x R ax e h) (fun x e' h' q => ⟨e', h', rfl, q⟩) hw) ?_)
    rintro ax st ⟨e, h, rfl, q⟩
    cases ax with
    | exit id => exact q
    | normal => rw [hr]; exact lresL_aresL rs _ _ (fun vs q => ⟨h, rfl, q⟩) q
    | ret => rw [hr]; exact lresL_aresL rs _ _ (fun vs q => ⟨h, rfl, q⟩) q
  intro A β w vs hA hp hh
  refine (h1 A β w vs hA hp hh).mono ?_
  rintro e w' ⟨v, y, h', β', rfl, ⟨hl, rfl, n', q1, ob', q2, q3⟩, hS, hv, hH, hsince, hold⟩
  have hown : ∀ b, Own (fun _ => β' n') (updH (fun _ => none) n (some ob)) b → ∃ l, β' n' = some l ∧ l.blk = b := by
    rintro b ⟨o, l, k1, k2, k3⟩
    exact ⟨l, k2, k3⟩
  have hown' : ∀ b, Own (fun _ => β' n') (updH (fun _ => none) n (some ob)) b → Own β' (mkH hl) b := by
    intro b hb
    obtain ⟨l, k2, k3⟩ := hown b hb
    exact ⟨n', l, by rw [q2]; simp, k2, k3⟩
  have hAv : ∀ b, Av A (fun _ => β' n') (updH (fun _ => none) n (some ob)) b → others (butN n' hl) A β' (mkH hl) b := by
    rintro b (hb | hb)
    · exact .inl hb
    · obtain ⟨l, k2, k3⟩ := hown b hb
      exact .inr ⟨n', l, by simp [butN], by rw [q2]; simp, k2, k3⟩
  have hAv2 : ∀ b, Av A (fun _ => β' n') (updH (fun _ => none) n (some ob)) b → Av A β' (mkH hl) b := fun b hb => hb.imp id (hown' b)
  refine ⟨v, x n, updH (fun _ => none) n (some ob), fun _ => β' n', rfl, ⟨rfl, rfl⟩, fun o ho => by simp at ho, ?_, ⟨fun o z hz => ?_, fun o o' l l' g1 g2 g3 g4 g5 => ?_, fun b hb => hH.lt b (hown' b hb), fun b hb => hH.apart b (hown' b hb)⟩, hsince, fun b hb hb' => hold b hb (hown' b hb')⟩
  · refine VR.unren (f := fun _ => n') hAv (x n) v ?_
    rw [hx1]
    exact sealN1_VR hH q1 hv
  · unfold updH at hz
    split at hz
    · injection hz with hz
      subst hz
      refine ObjR.unren (f := fun _ => n') hAv2 ob _ ?_
      rw [hob2]
      exact hR ob' q3 _ _ _ _ (hH.obj n' ob' q2)
    · cases hz
  · unfold updH at g1 g2
    split at g1
    · split at g2
      · rename_i a b; rw [a, b]
      · exact absurd rfl g2
    · exact absurd rfl g1

def finO (P : Program) (rs : List ResultVar) (x : Nat → AV) (ob : AObj) (ax : AX) (e : EL) (h : HL) : Prop :=
  match ax with
  | .exit _ => False
  | _ => lresL P e h rs fun vs => ∃ n, sealN1 n h (retVal vs) (x n) ∧ mkH h n = some ob
theorem ObjP.exec {P : Program} {g : FuncId} {fn : Func} {c : ACode} {args : List AV} {rs : List ResultVar} {x : Nat → AV} {ob : AObj} (hm : P.follows .mixedOrders = true) (hE : Enters P g)
    (hf : P.funcs[g]? = some fn) (hc : fn.body.bind (absCode fn.ntmps) = some c) (hr : fn.results.toList = rs) (hn : decide (args.length ≤ fn.ntmps) = true)
    (hx1 : ∀ n m, (x n).ren (fun _ => m) = x m) (hx2 : ∀ n o, (x n).has o = true → o = n) (hob : ∀ o, ob.has o = false) (hob2 : ∀ f, ob.ren f = ob)
    (hw : aexec ⟨P, fn.ntmps, []⟩ c (argE 0 args) [] (finO P rs x ob)) : ObjP P g args x ob :=
  ObjP.execR (R := (· = ob)) (fun ob' h w O β l q => h ▸ q) hm hE hf hc hr hn hx1 hx2 hob hob2 (aexec_mono _ _ _ _ _ (fun ax e h q => by
    cases ax with
    | exit id => exact q
    | normal => exact lresL_mono rs _ _ (fun vs ⟨n, q1, q2⟩ => ⟨n, q1, _, q2, rfl⟩) q
    | ret => exact lresL_mono rs _ _ (fun vs ⟨n, q1, q2⟩ => ⟨n, q1, _, q2, rfl⟩) q) hw)

theorem obj_at {C : Cx} {e : EL} {h : HL} {g : FuncId} {args : List AV} {K : AV → HL → Prop} {x : Nat → AV} {ob : AObj} (n : Nat) (hp : ObjP C.P g args x ob) (hf : FreshL C.S e h n) (hK : K (x n) ((n, ob) :: remK n h)) : LCall C e h g args K := by
  obtain ⟨hE, hx1, hx2, hob, hp⟩ := hp
  have e1 : restr [] (mkH h) = fun _ => none := by funext o; simp [restr]
  refine ⟨hE, CallOk.own [] (st := ⟨mkE e, mkH h⟩) (Q := fun y h' => y = x n ∧ h' = updH (fun _ => none) n (some ob)) (by rw [e1]; exact hp n) ?_⟩
  rintro y h' ⟨rfl, rfl⟩
  refine ⟨fun o ho _ => ?_, fun o ho => ?_, fun o y p hy hp => ?_, (n, ob) :: remK n h, ?_, hK⟩
  · unfold updH at ho
    split at ho
    · rename_i q; subst q; exact hf.fresh
    · exact absurd rfl ho
  · have := hx2 n o ho
    subst this
    exact .inl (by simp [updH])
  · unfold updH at hy
    split at hy
    · injection hy with hy; subst hy; rw [hob p] at hp; cases hp
    · cases hy
  · rw [mkH_put]
    funext o
    by_cases ho : o = n
    · subst ho; simp [merge, updH]
    · simp [merge, updH, ho]
theorem LC.obj {C : Cx} {e : EL} {h : HL} {g : FuncId} {args : List AV} {K : KB (AV → HL → Prop)} {x : Nat → AV} {ob : AObj} (n : Nat) (hp : ObjP C.P g args x ob) (hf : FreshL C.S e h n) (hK : K.k (x n) ((n, ob) :: remK n h)) : LC C e h g args := obj_at n hp hf hK
/-- In a drawn region: a row. -/
theorem DC.row {C : Cx} {h : HL} {id : Nat} {g : FuncId} {args : List AV} {K : KB (AV → HL → Prop)} {x : Nat → AV} {ob : AObj} (hp : ObjP C.P g args x ob) (ha : AV.refsL args = []) (hx : ∀ p ∈ (x id).refs, p = id) (hl : ob.leafRow = true) (hK : K.k (x id) ((id, ob) :: remK id h)) : DC C id h g args := by
  obtain ⟨hE, hx1, hx2, hob, hp⟩ := hp
  refine ⟨⟨args, x id, some ob, none⟩, ?_⟩
  unfold callAny
  simp only
  unfold callProg
  rw [ha]
  simp only [readAll, AM.lwp]
  refine ⟨⟨hE, viewL_self ha, ?_⟩, ⟨fun p hpp => ⟨hx p hpp, rfl⟩, .inl trivial, fun o ho => by injection ho with ho; subst ho; exact hl⟩, trivial, ?_, hK⟩
  · exact hp id
  · exact hob id
/-- .. that looks at objects of the caller's. -/
theorem DC.orow {C : Cx} {h : HL} {id : Nat} {g : FuncId} {args : List AV} {K : KB (AV → HL → Prop)} {x : Nat → AV} {ob : AObj} (args' : List AV) (hv : viewL (AV.refsL args) (mkH h) args args') (hp : ObjP C.P g args' x ob) (hs : (x id).scalSl = true) (hsc : ob.scalRow = true)
    (hl : ob.leafRow = true) (ho : ∀ o ∈ AV.refsL args, mkH h o ≠ none) (hK : K.k (x id) ((id, ob) :: remK id h)) : DC C id h g args := by
  obtain ⟨hE, hx1, hx2, hob, hp⟩ := hp
  refine ⟨⟨args', x id, some ob, none⟩, ?_⟩
  unfold callAny
  simp only
  unfold callProg
  refine readAll_lwp _ _ ho (fun _ => .inl rfl) (fun hv' hh => ?_)
  simp only [AM.lwp]
  refine ⟨⟨hE, viewL_on (fun o ho => hh o (.inr ho)) hv, ?_⟩, ⟨fun p hpp => ⟨hx2 _ _ ((has_refs _).2 hpp), rfl⟩, .inr ⟨hs, fun o ho => by injection ho with ho; subst ho; exact hsc⟩, fun o ho => by injection ho with ho; subst ho; exact hl⟩, trivial, ?_, hK⟩
  · exact hp id
  · exact hob id
theorem ObjP.run {P : Program} {g : FuncId} {fn : Func} {c : ACode} {args : List AV} {rs : List ResultVar} {x : Nat → AV} {ob : AObj} (hm : P.follows .mixedOrders = true) (hE : Enters P g)
    (hf : P.funcs[g]? = some fn) (hc : fn.body.bind (absCode fn.ntmps) = some c) (hr : fn.results.toList = rs) (hn : decide (args.length ≤ fn.ntmps) = true)
    (hx1 : ∀ n m, (x n).ren (fun _ => m) = x m) (hx2 : ∀ n o, (x n).has o = true → o = n) (hob : ∀ o, ob.has o = false) (hob2 : ∀ f, ob.ren f = ob)
    (hw : @X ⟨P, fn.ntmps, []⟩ c (argE 0 args) [] ⟨finO P rs x ob⟩) : ObjP P g args x ob := ObjP.exec hm hE hf hc hr hn hx1 hx2 hob hob2 hw
theorem row_has {α : Type} {enc : α → List AV} (hl : ∀ x, AV.leafL (enc x) = true) (e k : Nat) (xs : List α) (o : Nat) : (AObj.row e k (xs.map enc)).has o = false := hasLL_leaf hl xs
theorem row_ren {α : Type} {enc : α → List AV} (hl : ∀ x, AV.leafL (enc x) = true) (e k : Nat) (xs : List α) (f : Nat → Nat) : (AObj.row e k (xs.map enc)).ren f = .row e k (xs.map enc) := by
  simp only [AObj.ren, renLL_leaf hl]
theorem slx_ren (len : Nat) (full : Bool) (n m : Nat) : (AV.sl n 0 len full).ren (fun _ => m) = .sl m 0 len full := (rfl)
theorem slx_has (len : Nat) (full : Bool) (n o : Nat) (h : (AV.sl n 0 len full).has o = true) : o = n := by
  simp only [AV.has, beq_iff_eq] at h
  exact h.symm
/-- A slice of its own, of plain rows. -/
theorem RowP.run {α : Type} {P : Program} {g : FuncId} {fn : Func} {c : ACode} {args : List AV} {rs : List ResultVar} {E k : Nat} {xs : List α} {enc : α → List AV} (hl : ∀ x, AV.leafL (enc x) = true) (hm : P.follows .mixedOrders = true) (hE : Enters P g)
    (hf : P.funcs[g]? = some fn) (hc : fn.body.bind (absCode fn.ntmps) = some c) (hr : fn.results.toList = rs) (hn : decide (args.length ≤ fn.ntmps) = true)
    (hw : @X ⟨P, fn.ntmps, []⟩ c (argE 0 args) [] ⟨finO P rs (fun n => .sl n 0 xs.length false) (.row E k (xs.map enc))⟩) : ObjP P g args (fun n => .sl n 0 xs.length false) (.row E k (xs.map enc)) :=
  ObjP.run hm hE hf hc hr hn (slx_ren _ _) (slx_has _ _) (row_has hl E k xs) (row_ren hl E k xs) hw
/-- .. seen as one that nobody writes. -/
theorem ObjP.pure {P : Program} {g : FuncId} {args : List AV} {E k len : Nat} {full : Bool} {xs : List (List AV)} (hp : ObjP P g args (fun n => .sl n 0 len full) (.row E k xs)) (hlen : len = xs.length) (hl : AV.leafLL xs = true) : PureP P g args (· = .isl .unk xs) := by
  subst hlen
  obtain ⟨hE, hx1, hx2, hob, hp⟩ := hp
  refine ⟨hE, ?_⟩
  intro A β w vs hA hpw hh
  refine (hp 7 A β w vs hA hpw hh).mono ?_
  rintro e w' ⟨v, y, h', β', rfl, ⟨rfl, rfl⟩, hS, hv, hH, hsince, hold⟩
  have hno : ∀ b, ¬ Own β' (fun _ => none) b := fun b ⟨o, l, h1, _⟩ => h1 rfl
  have eh : updH (fun _ => none) 7 (some (AObj.row E k xs)) = mkH [(7, .row E k xs)] := by
    funext o; simp [updH, mkH]
  rw [eh] at hH hv
  have hs : seal0 [(7, .row E k xs)] (.sl 7 0 xs.length full) (.isl .unk xs) := by
    simp [seal0, mkH, hl]
  refine ⟨v, _, fun _ => none, β', rfl, ⟨⟨rfl, rfl⟩, rfl⟩, hS, (seal0_VR hH hs hv).mono (Same.refl _ w') (fun b _ hb => ?_) (fun _ _ => rfl),
    ⟨fun o x hx => (by cases hx), fun o o' l l' g1 => absurd rfl g1, fun b hb => (hno b hb).elim, fun b hb => (hno b hb).elim⟩, hsince, fun b hb hb' => (hno b hb').elim⟩
  rcases hb with hb | hb
  · exact .inl hb
  · exact (hno b hb).elim
/-- A row seen as a shorter one. -/
theorem ObjR.cut {w : World} {O : Nat → Prop} {β : Nat → Option Loc} {l : Option Loc} {E k : Nat} {xs ys : List (List AV)} (h : ObjR w O β l (.row E k (xs ++ ys))) : ObjR w O β l (.row E k xs) := by
  cases l with
  | none => exact (List.append_eq_nil_iff.1 h).1
  | some l =>
    obtain ⟨h1, h2, h3, h4, cur, h5, h6, h7, h8⟩ := h
    refine ⟨h1, by simp only [List.length_append] at h2; omega, h3, fun x hx => h4 x (by simp [hx]), cur, h5, h6, h7, fun i j g1 g2 => ?_⟩
    have e : (xs ++ ys)[i]'(by simp; omega) = xs[i] := List.getElem_append_left g1
    obtain ⟨v, q1, q2⟩ := h8 i j (by simp; omega) (by rw [e]; exact g2)
    refine ⟨v, q1, ?_⟩
    simp only [e] at q2
    exact q2
def finC (P : Program) (rs : List ResultVar) (E k : Nat) (xs : List (List AV)) (ax : AX) (e : EL) (h : HL) : Prop :=
  match ax with
  | .exit _ => False
  | _ => lresL P e h rs fun vs => ∃ n ys, sealN1 n h (retVal vs) (.sl n 0 xs.length true) ∧ mkH h n = some (.row E k (xs ++ ys))
/-- A slice of its own, cut to its length, of plain rows. -/
theorem CutP.run {α : Type} {P : Program} {g : FuncId} {fn : Func} {c : ACode} {args : List AV} {rs : List ResultVar} {E k : Nat} {xs : List α} {enc : α → List AV} (hl : ∀ x, AV.leafL (enc x) = true) (hm : P.follows .mixedOrders = true) (hE : Enters P g)
    (hf : P.funcs[g]? = some fn) (hc : fn.body.bind (absCode fn.ntmps) = some c) (hr : fn.results.toList = rs) (hn : decide (args.length ≤ fn.ntmps) = true)
    (hw : @X ⟨P, fn.ntmps, []⟩ c (argE 0 args) [] ⟨finC P rs E k (xs.map enc)⟩) : ObjP P g args (fun n => .sl n 0 xs.length true) (.row E k (xs.map enc)) :=
  ObjP.execR (R := fun ob => ∃ ys, ob = .row E k (xs.map enc ++ ys)) (fun ob' h w O β l q => by obtain ⟨ys, rfl⟩ := h; exact q.cut) hm hE hf hc hr hn (slx_ren _ _) (slx_has _ _) (row_has hl E k xs) (row_ren hl E k xs) (aexec_mono _ _ _ _ _ (fun ax e h q => by
    have hlen : (xs.map enc).length = xs.length := List.length_map ..
    cases ax with
    | exit id => exact q
    | normal => exact lresL_mono rs _ _ (fun vs ⟨n, ys, q1, q2⟩ => ⟨n, hlen ▸ q1, _, q2, ys, rfl⟩) q
    | ret => exact lresL_mono rs _ _ (fun vs ⟨n, ys, q1, q2⟩ => ⟨n, hlen ▸ q1, _, q2, ys, rfl⟩) q) hw)
end Go.Aw
end
section
set_option linter.unusedVariables false
set_option linter.unusedSimpArgs false
namespace Go.Aw
theorem getD_map_lt {α β : Type} {f : α → β} {l : List α} {i : Nat} {d : β} (h : i < l.length) : (l.map f).getD i d = f (l[i]'h) := by
  simp [List.getD_eq_getElem?_getD, h]
theorem wrap_nat {i : Nat} (h : i < 4611686018427387904) : IntKind.i64.wrap ((i : Int) + 1) = ((i + 1 : Nat) : Int) := by
  rw [wrap_i64 (by omega) (by omega)]; simp
theorem wrap_pred {i : Nat} (h0 : 0 < i) (h : i < 4611686018427387904) : IntKind.i64.wrap ((i : Int) - 1) = ((i - 1 : Nat) : Int) := by
  rw [wrap_i64 (by omega) (by omega)]; omega
theorem nat_nonneg (n : Nat) : ((0 : Int) ≤ (n : Int)) = True := eq_true (Int.natCast_nonneg n)
theorem nat_neg (n : Nat) : ((n : Int) < 0) = False := eq_false (by omega)
theorem cast_lt (m n : Nat) : (((m : Int) < (n : Int))) = (m < n) := propext Int.ofNat_lt
theorem cast_le (m n : Nat) : (((m : Int) ≤ (n : Int))) = (m ≤ n) := propext Int.ofNat_le
theorem cast_eq (m n : Nat) : (((m : Int) = (n : Int))) = (m = n) := propext Int.ofNat_inj
theorem cast_add1 (n : Nat) : ((n : Int) + 1) = ((n + 1 : Nat) : Int) := by simp
theorem take_succ {α : Type} {l : List α} {i : Nat} (h : i < l.length) : l.take (i + 1) = l.take i ++ [l[i]] := by simp
theorem dec_iff {p q : Prop} [Decidable p] [Decidable q] (h : p ↔ q) : decide p = decide q := decide_eq_decide.2 h
theorem zero_lt_cast (n : Nat) : ((0 : Int) < (n : Int)) = (0 < n) := propext (by omega)
theorem cast_le_zero (n : Nat) : ((n : Int) ≤ 0) = (n = 0) := propext (by omega)
theorem cast_eq_zero (n : Nat) : ((n : Int) = 0) = (n = 0) := propext (by omega)
theorem zero_eq_cast (n : Nat) : ((0 : Int) = n) = (n = 0) := propext (by omega)
theorem aw_wrap1 : IntKind.i64.wrap 1 = 1 := by decide
theorem one_add (n : Nat) : 1 + n = n + 1 := Nat.add_comm 1 n
theorem take_ge {α : Type} {l : List α} {n : Nat} (h : l.length ≤ n) : l.take n = l := List.take_of_length_le h
theorem len_take {α : Type} {l : List α} {n : Nat} (h : n ≤ l.length) : (l.take n).length = n := List.length_take_of_le h
theorem set_snoc {α β : Type} {f : α → β} {l : List α} {x y : β} : (l.map f ++ [x]).set l.length y = l.map f ++ [y] := by simp [List.set_append]
theorem getD_snoc {α β : Type} {f : α → β} {l : List α} {x d : β} : (l.map f ++ [x]).getD l.length d = x := by simp [List.getD_eq_getElem?_getD]
theorem wrap_pred1 {n : Nat} (h : n < 4611686018427387904) : IntKind.i64.wrap (((n + 1 : Nat) : Int) - 1) = n := by rw [wrap_i64 (by omega) (by omega)]; omega
theorem sub_toNat (a b : Nat) : ((a : Int) - (b : Int)).toNat = a - b := by omega
theorem take_map {α β : Type} {f : α → β} {l : List α} {k : Nat} : (l.map f).take k = (l.take k).map f := List.map_take.symm
theorem drop_map {α β : Type} {f : α → β} {l : List α} {k : Nat} : (l.map f).drop k = (l.drop k).map f := List.map_drop.symm
theorem take_drop_len {α : Type} {l : List α} {k : Nat} : (l.drop k).take (l.length - k) = l.drop k := List.take_of_length_le (by simp)
theorem take_1_add {α : Type} {l : List α} {x : α} : (x :: l).take (1 + l.length) = x :: l := List.take_of_length_le (by simp; omega)
theorem take_len_app {α : Type} {l m : List α} : (l ++ m).take (l.length + m.length) = l ++ m := List.take_of_length_le (by simp)
theorem lenAll_nil {k : Nat} : lenAll k [] = True := eq_true (by simp [lenAll])
theorem lenAll_cons {k : Nat} {x : List AV} {l : List (List AV)} : lenAll k (x :: l) = (x.length = k ∧ lenAll k l) := propext (by simp [lenAll])
theorem lenAll_app {k : Nat} {l m : List (List AV)} : lenAll k (l ++ m) = (lenAll k l ∧ lenAll k m) := propext (by simp [lenAll, or_imp, forall_and])
theorem lenAll_map {α : Type} {enc : α → List AV} {k : Nat} (h : ∀ x, (enc x).length = k) (l : List α) : lenAll k (l.map enc) = True := eq_true (by simp [lenAll, h])
theorem someArr {α : Type} {x : α} : (some x).toArray.toList = [x] := rfl
theorem noneArr {α : Type} : (none : Option α).toArray.toList = [] := rfl
theorem viewL_nil {D : List Nat} {h : Hp} : viewL D h [] [] = True := eq_true rfl
theorem viewL_cons {D : List Nat} {h : Hp} {a a' : AV} {bs bs' : List AV} : viewL D h (a :: bs) (a' :: bs') = (view1 D h a a' ∧ viewL D h bs bs') := propext (by
  simp only [viewL, List.cons.injEq]
  exact ⟨fun ⟨_, _, ⟨e1, e2⟩, h⟩ => by subst e1 e2; exact h, fun h => ⟨_, _, ⟨rfl, rfl⟩, h⟩⟩)
theorem viewL0_nil {D : List Nat} {h : Hp} : viewL0 D h [] [] = True := eq_true rfl
theorem viewL0_cons {D : List Nat} {h : Hp} {a a' : AV} {bs bs' : List AV} : viewL0 D h (a :: bs) (a' :: bs') = (view0 D h a a' ∧ viewL0 D h bs bs') := propext (by
  simp only [viewL0, List.cons.injEq]
  exact ⟨fun ⟨_, _, ⟨e1, e2⟩, h⟩ => by subst e1 e2; exact h, fun h => ⟨_, _, ⟨rfl, rfl⟩, h⟩⟩)
theorem view1_func {D : List Nat} {h : Hp} {fn : Fn} {f cap cap' : List AV} : view1 D h (.func fn f cap) (.func fn f cap') = viewL0 D h cap cap' := propext (by
  simp only [view1, AV.func.injEq, true_and]
  exact ⟨fun ⟨_, e, h⟩ => by subst e; exact h, fun h => ⟨_, rfl, h⟩⟩)
theorem view1_agg {D : List Nat} {h : Hp} {cs cs' : List AV} : view1 D h (.agg cs) (.agg cs') = viewL0 D h cs cs' := propext (by
  simp only [view1, AV.agg.injEq]
  exact ⟨fun ⟨_, e, h⟩ => by subst e; exact h, fun h => ⟨_, rfl, h⟩⟩)
theorem view1_sl {D : List Nat} {h : Hp} {o off len : Nat} {full : Bool} {a : AV} : view1 D h (.sl o off len full) a = view0 D h (.sl o off len full) a := rfl
theorem view1_ptr {D : List Nat} {h : Hp} {o i j : Nat} {a : AV} : view1 D h (.ptr o i j) a = view0 D h (.ptr o i j) a := rfl
theorem view1_leaf {D : List Nat} {h : Hp} {a : AV} (ha : a.leaf = true) : view1 D h a a = True := eq_true (view1_self (refs_leaf ha))
theorem view0_leaf {D : List Nat} {h : Hp} {a : AV} (ha : a.leaf = true) : view0 D h a a = True := eq_true (view0_self (refs_leaf ha))
theorem view0_sl {D : List Nat} {h : Hp} {o off len : Nat} {full : Bool} {a : AV} : view0 D h (.sl o off len full) a = (match h o with
    | some (.row _ _ xs) => o ∈ D ∧ off + len ≤ xs.length ∧ AV.leafLL xs = true ∧ a = .isl (if full then .full else .unk) ((xs.drop off).take len)
    | _ => False) := rfl
theorem view0_ptr {D : List Nat} {h : Hp} {o i j : Nat} {a : AV} : view0 D h (.ptr o i j) a = (match h o with
    | some (.row _ _ xs) => o ∈ D ∧ i < xs.length ∧ j ≤ (xs.getD i []).length ∧ AV.leafLL xs = true ∧ a = .iptr ((xs.getD i []).drop j)
    | _ => False) := rfl
/-- All the objects that the arguments lead to are let go. -/
theorem LC.frz {C : Cx} {e : EL} {h : HL} {g : FuncId} {args : List AV} {K : KB (AV → HL → Prop)} (args' : List AV) (hv : viewL (AV.refsL args) (mkH h) args args') (hc : LC C e (remKs (AV.refsL args) h) g args') : LC C e h g args := LC.freeze _ hv hc
/-- .. that are looked at. -/
theorem LC.look {C : Cx} {e : EL} {h : HL} {g : FuncId} {args : List AV} {K : KB (AV → HL → Prop)} {r : AV} (args' : List AV) (hv : viewL (AV.refsL args) (mkH h) args args') (hp : PureP C.P g args' (· = r)) (hs : r.scal = true) (hK : K.k r h) : LC C e h g args := LC.peek _ hv hp hs hK
theorem renP_app {f : Nat → Nat} : ∀ {xs ys : List (Nat × AV × AV)}, AV.renP f (xs ++ ys) = AV.renP f xs ++ AV.renP f ys
  | [], ys => rfl
  | x :: xs, ys => by simp [AV.renP, renP_app (xs := xs)]
theorem hasP_app {n : Nat} : ∀ {xs ys : List (Nat × AV × AV)}, AV.hasP n (xs ++ ys) = (AV.hasP n xs || AV.hasP n ys)
  | [], ys => by simp [AV.hasP]
  | x :: xs, ys => by simp [AV.hasP, hasP_app (xs := xs), Bool.or_assoc]
theorem nodup_len {α : Type} [DecidableEq α] : ∀ {V M : List α}, V.Nodup → (∀ e ∈ V, e ∈ M) → V.length ≤ M.length
  | [], M, _, _ => Nat.zero_le _
  | x :: V, M, h, hs => by
    rw [List.nodup_cons] at h
    have h1 := nodup_len (M := M.erase x) h.2 fun e he => (List.mem_erase_of_ne (fun q => by subst q; exact h.1 he)).2 (hs e (List.mem_cons_of_mem _ he))
    have hx := hs x (List.mem_cons_self ..)
    rw [List.length_erase_of_mem hx] at h1
    have := List.length_pos_of_mem hx
    simp only [List.length_cons]
    omega
/-- The next entry of a map, whichever. -/
theorem NX.map {h : HL} {i m since stepped clock : Nat} {seen : List Nat} {es : List (Nat × AV × AV)} {K : KB (AV → HL → Prop)} (h1 : mkH h i = some (.miter (some m) since seen stepped)) (h2 : mkH h m = some (.map clock es)) (h3 : ∀ e ∈ es, e.1 < since) (h4 : since ≤ stepped)
    (h5 : (∀ e ∈ es, e.1 ∈ seen) → K.k (.tup [.bool false]) h) (h6 : ∀ e ∈ es, e.1 ∉ seen → K.k (.tup [.bool true, e.2.1, e.2.2]) ((i, .miter (some m) since (seen ++ [e.1]) clock) :: remK i h)) : NX (.miter i) h := by
  unfold NX lnext
  simp only [h1, h2]
  exact ⟨h3, h4, h5, h6⟩
/-! ### Loops that keep what they do not change -/
def keepL (e : EL) : List Nat → EL
  | [] => []
  | t :: ks => (t, mkE e t) :: keepL e ks
def keepH (h : HL) : List Nat → HL
  | [] => []
  | o :: ks => match mkH h o with
    | some x => (o, x) :: keepH h ks
    | none => keepH h ks
section
variable {C : Cx} {e : EL} {h : HL}
/-- ks: the slots that are kept, os: the objects that are kept. -/
theorem LL.upS {a : ACode} {Q : KB (AX → EL → HL → Prop)} (hm : C.P.follows .mixedOrders = true) (ks os : List Nat) (N : Nat) (I : Nat → Prop) (U : Nat → EL) (V : Nat → HL) (hI : I 0)
    (h0 : ∃ f, LeL C.S f (U 0 ++ keepL e ks) (V 0 ++ keepH h os) e h)
    (hround : ∀ i, i < N → I i → @X C a (U i ++ keepL e ks) (V i ++ keepH h os) ⟨fun x e' h' => match x with
      | .normal => I (i + 1) ∧ ∃ f, LeL C.S f (U (i + 1) ++ keepL e ks) (V (i + 1) ++ keepH h os) e' h'
      | .exit id => Q.k (.exit id) e' h'
      | .ret => Q.k .ret e' h'⟩)
    (hend : I N → @X C a (U N ++ keepL e ks) (V N ++ keepH h os) ⟨fun x e' h' => match x with
      | .normal => False
      | .exit id => Q.k (.exit id) e' h'
      | .ret => Q.k .ret e' h'⟩) : LL C a e h := LL.up hm N I (fun i => U i ++ keepL e ks) (fun i => V i ++ keepH h os) hI h0 hround hend
theorem LL.upkS {a : ACode} {Q : KB (AX → EL → HL → Prop)} (hm : C.P.follows .mixedOrders = true) (ks os : List Nat) (N : Nat) {κ : Type} (k0 : κ) (I : Nat → κ → Prop) (U : Nat → κ → EL) (V : Nat → κ → HL) (hI : I 0 k0)
    (h0 : ∃ f, LeL C.S f (U 0 k0 ++ keepL e ks) (V 0 k0 ++ keepH h os) e h)
    (hround : ∀ i k, i < N → I i k → @X C a (U i k ++ keepL e ks) (V i k ++ keepH h os) ⟨fun x e' h' => match x with
      | .normal => ∃ k', I (i + 1) k' ∧ ∃ f, LeL C.S f (U (i + 1) k' ++ keepL e ks) (V (i + 1) k' ++ keepH h os) e' h'
      | .exit id => Q.k (.exit id) e' h'
      | .ret => Q.k .ret e' h'⟩)
    (hend : ∀ k, I N k → @X C a (U N k ++ keepL e ks) (V N k ++ keepH h os) ⟨fun x e' h' => match x with
      | .normal => False
      | .exit id => Q.k (.exit id) e' h'
      | .ret => Q.k .ret e' h'⟩) : LL C a e h := LL.upk hm N k0 I (fun i k => U i k ++ keepL e ks) (fun i k => V i k ++ keepH h os) hI h0 hround hend
/-- A loop in general. -/
theorem LL.introS {a : ACode} {Q : KB (AX → EL → HL → Prop)} (hm : C.P.follows .mixedOrders = true) (ks os : List Nat) {κ : Type} (m : κ → Nat) (k0 : κ) (I : κ → Prop) (U : κ → EL) (V : κ → HL) (hI : I k0)
    (h0 : ∃ f, LeL C.S f (U k0 ++ keepL e ks) (V k0 ++ keepH h os) e h)
    (hround : ∀ k, I k → @X C a (U k ++ keepL e ks) (V k ++ keepH h os) ⟨fun x e' h' => match x with
      | .normal => ∃ k', m k' < m k ∧ I k' ∧ ∃ f, LeL C.S f (U k' ++ keepL e ks) (V k' ++ keepH h os) e' h'
      | .exit id => Q.k (.exit id) e' h'
      | .ret => Q.k .ret e' h'⟩) : LL C a e h := by
  refine LL.intro hm (ι := { k : κ // I k }) (fun k => U k.1 ++ keepL e ks) (fun k => V k.1 ++ keepH h os) (fun k => m k.1) ⟨k0, hI⟩ h0 ?_
  rintro ⟨k, hk⟩
  refine aexec_mono _ _ _ _ _ (fun x e' h' q => ?_) (hround k hk)
  cases x with
  | normal =>
    obtain ⟨k', h1, h2, h3⟩ := q
    exact ⟨⟨k', h2⟩, h1, h3⟩
  | exit id => exact q
  | ret => exact q
end
end Go.Aw
end
section
set_option linter.unusedVariables false
set_option linter.unusedSimpArgs false
set_option linter.unusedSectionVars false
namespace Go.Aw
section
variable {κ α : Type} [DecidableEq κ]
/-- The entry at a key. -/
def gfind (q : κ) : List (Nat × κ × α) → Nat → Option (Nat × α)
  | [], _ => none
  | e :: es, i => if q = e.2.1 then some (i, e.2.2) else gfind q es (i + 1)
def gget (q : κ) (M : List (Nat × κ × α)) : Option α := (gfind q M 0).map (·.2)
def gput (q : κ) (v : α) (cM : Nat × List (Nat × κ × α)) : Nat × List (Nat × κ × α) :=
  match gfind q cM.2 0 with
  | some (j, _) => (cM.1, cM.2.modify j fun e => (e.1, q, v))
  | none => (cM.1 + 1, cM.2 ++ [(cM.1, q, v)])
theorem gfind_shift (q : κ) : ∀ (M : List (Nat × κ × α)) (i : Nat), gfind q M i = (gfind q M 0).map fun x => (i + x.1, x.2)
  | [], i => rfl
  | e :: M, i => by
    simp only [gfind]
    by_cases h : q = e.2.1
    · simp [h]
    · rw [if_neg h, if_neg h, gfind_shift q M (i + 1), gfind_shift q M (0 + 1), Option.map_map]
      congr 1
      funext x
      simp only [Function.comp]
      rw [Prod.mk.injEq]
      exact ⟨by omega, rfl⟩
theorem gget_nil (q : κ) : gget q ([] : List (Nat × κ × α)) = none := rfl
theorem gget_cons (q : κ) (e : Nat × κ × α) (M : List (Nat × κ × α)) : gget q (e :: M) = if q = e.2.1 then some e.2.2 else gget q M := by
  unfold gget
  simp only [gfind]
  by_cases h : q = e.2.1
  · simp [h]
  · rw [if_neg h, if_neg h, gfind_shift, Option.map_map]; rfl
theorem gget_append (q : κ) (M N : List (Nat × κ × α)) : gget q (M ++ N) = (gget q M).or (gget q N) := by
  induction M with
  | nil => simp [gget, gfind]
  | cons e M ih =>
    rw [List.cons_append, gget_cons, gget_cons, ih]
    split <;> simp
theorem gput_get : ∀ (q : κ) (d : α) (c : Nat) (M : List (Nat × κ × α)) (q' : κ), gget q' (gput q d (c, M)).2 = if q' = q then some d else gget q' M := by
  intro q d c M q'
  unfold gput
  cases hf : gfind q M 0 with
  | none =>
    simp only
    rw [gget_append]
    have hg : gget q M = none := by simp [gget, hf]
    by_cases h : q' = q
    · subst h
      rw [hg, if_pos rfl]
      simp [gget, gfind]
    · rw [if_neg h]
      simp [gget, gfind, h]
  | some jv =>
    obtain ⟨j, v⟩ := jv
    simp only
    induction M generalizing j with
    | nil => simp [gfind] at hf
    | cons e M ih =>
      simp only [gfind] at hf
      by_cases h : q = e.2.1
      · rw [if_pos h] at hf
        simp only [Option.some.injEq, Prod.mk.injEq] at hf
        obtain ⟨rfl, rfl⟩ := hf
        simp only [List.modify_zero_cons, gget_cons]
        by_cases h2 : q' = q
        · simp [h2]
        · rw [if_neg h2, if_neg h2, if_neg (by rw [← h]; exact h2)]
      · rw [if_neg h, gfind_shift] at hf
        cases hm : gfind q M 0 with
        | none => rw [hm] at hf; simp at hf
        | some x =>
          rw [hm] at hf
          simp only [Option.map_some, Option.some.injEq, Prod.mk.injEq] at hf
          obtain ⟨rfl, rfl⟩ := hf
          have hx : 0 + 1 + x.1 = x.1 + 1 := by omega
          rw [hx, List.modify_succ_cons, gget_cons, gget_cons, ih x.1 hm]
          by_cases h2 : q' = q
          · rw [if_pos h2, if_pos h2, if_neg (by rw [h2]; exact h)]
          · rw [if_neg h2, if_neg h2]
structure GOk (cM : Nat × List (Nat × κ × α)) : Prop where
  lt : ∀ e ∈ cM.2, e.1 < cM.1
  stamps : (cM.2.map (·.1)).Nodup
  keys : (cM.2.map (·.2.1)).Nodup
theorem GOk.nil (c : Nat) : GOk (c, ([] : List (Nat × κ × α))) := ⟨by simp, by simp, by simp⟩
theorem gfind_some {q : κ} : ∀ {M : List (Nat × κ × α)} {j : Nat} {v : α}, gfind q M 0 = some (j, v) → ∃ s, M[j]? = some (s, q, v)
  | [], _, _, h => by simp [gfind] at h
  | e :: M, j, v, h => by
    simp only [gfind] at h
    by_cases hq : q = e.2.1
    · rw [if_pos hq] at h
      simp only [Option.some.injEq, Prod.mk.injEq] at h
      obtain ⟨rfl, rfl⟩ := h
      exact ⟨e.1, by simp [hq]⟩
    · rw [if_neg hq, gfind_shift] at h
      cases hm : gfind q M 0 with
      | none => rw [hm] at h; simp at h
      | some x =>
        rw [hm] at h
        simp only [Option.map_some, Option.some.injEq, Prod.mk.injEq] at h
        obtain ⟨rfl, rfl⟩ := h
        obtain ⟨s, hs⟩ := gfind_some (j := x.1) (v := x.2) (by rw [hm])
        exact ⟨s, by rw [show 0 + 1 + x.1 = x.1 + 1 by omega]; simpa using hs⟩
theorem gfind_none {q : κ} : ∀ {M : List (Nat × κ × α)} {i : Nat}, gfind q M i = none → ∀ e ∈ M, e.2.1 ≠ q
  | [], _, _ => by simp
  | e :: M, i, h => by
    simp only [gfind] at h
    by_cases hq : q = e.2.1
    · rw [if_pos hq] at h; cases h
    · rw [if_neg hq] at h
      intro e' he'
      rcases List.mem_cons.1 he' with rfl | he'
      · exact fun e => hq e.symm
      · exact gfind_none h e' he'
theorem gmodify_map {α β : Type} (f : α → α) (g : α → β) : ∀ (l : List α) (j : Nat), (∀ x, l[j]? = some x → g (f x) = g x) → (l.modify j f).map g = l.map g
  | [], j, _ => by simp
  | x :: l, 0, h => by simp [List.modify_zero_cons, h x (by simp)]
  | x :: l, j + 1, h => by
    rw [List.modify_succ_cons, List.map_cons, List.map_cons, gmodify_map f g l j fun y hy => h y (by simpa using hy)]
theorem GOk.put {cM : Nat × List (Nat × κ × α)} (h : GOk cM) (q : κ) (d : α) : GOk (gput q d cM) := by
  unfold gput
  cases hf : gfind q cM.2 0 with
  | none =>
    have hno := gfind_none hf
    refine ⟨fun e he => ?_, ?_, ?_⟩
    · rcases List.mem_append.1 he with he | he
      · have := h.lt e he; simp only; omega
      · simp only [List.mem_singleton] at he; subst he; simp
    · simp only [List.map_append, List.map_cons, List.map_nil]
      rw [List.nodup_append]
      refine ⟨h.stamps, by simp, fun a ha b hb e => ?_⟩
      simp only [List.mem_singleton] at hb
      obtain ⟨x, hx, rfl⟩ := List.mem_map.1 ha
      have := h.lt x hx
      omega
    · simp only [List.map_append, List.map_cons, List.map_nil]
      rw [List.nodup_append]
      refine ⟨h.keys, by simp, fun a ha b hb e => ?_⟩
      simp only [List.mem_singleton] at hb
      obtain ⟨x, hx, rfl⟩ := List.mem_map.1 ha
      exact hno x hx (e.trans hb)
  | some jv =>
    obtain ⟨j, v⟩ := jv
    obtain ⟨s, hs⟩ := gfind_some hf
    simp only
    refine ⟨fun e he => ?_, ?_, ?_⟩
    · have h1 : e.1 ∈ (cM.2.modify j fun e => (e.1, q, d)).map (·.1) := List.mem_map_of_mem he
      rw [gmodify_map (fun e : Nat × κ × α => (e.1, q, d)) (·.1) cM.2 j (fun x _ => rfl)] at h1
      obtain ⟨x, hx, e1⟩ := List.mem_map.1 h1
      rw [← e1]
      exact h.lt x hx
    · exact (gmodify_map (fun e : Nat × κ × α => (e.1, q, d)) (·.1) cM.2 j (fun x _ => rfl)).symm ▸ h.stamps
    · exact (gmodify_map (fun e : Nat × κ × α => (e.1, q, d)) (·.2.1) cM.2 j (fun x hx => by rw [hs] at hx; injection hx with hx; subst hx; rfl)).symm ▸ h.keys
theorem gget_some {q : κ} {M : List (Nat × κ × α)} : (gget q M).isSome = true ↔ q ∈ M.map (·.2.1) := by
  induction M with
  | nil => simp [gget, gfind]
  | cons e M ih =>
    rw [gget_cons]
    by_cases h : q = e.2.1
    · simp [h]
    · simp [h, ih]
theorem gget_mem {M : List (Nat × κ × α)} (hk : (M.map (·.2.1)).Nodup) {e : Nat × κ × α} (he : e ∈ M) : gget e.2.1 M = some e.2.2 := by
  induction M with
  | nil => simp at he
  | cons x M ih =>
    rw [List.map_cons, List.nodup_cons] at hk
    rw [gget_cons]
    rcases List.mem_cons.1 he with rfl | he
    · simp
    · rw [if_neg (fun q : e.2.1 = x.2.1 => hk.1 (q ▸ List.mem_map_of_mem (f := fun y : Nat × κ × α => y.2.1) he)), ih hk.2 he]
theorem gput_len (q : κ) (d : α) (cM : Nat × List (Nat × κ × α)) : (gput q d cM).2.length ≤ cM.2.length + 1 := by
  unfold gput
  split <;> simp
/-- What a lookup says, in two cases. -/
theorem gget_cases (q : κ) (M : List (Nat × κ × α)) : (∃ j v, gfind q M 0 = some (j, v) ∧ gget q M = some v) ∨ (gfind q M 0 = none ∧ gget q M = none) := by
  unfold gget
  cases h : gfind q M 0 with
  | none => exact .inr ⟨rfl, rfl⟩
  | some x => exact .inl ⟨x.1, x.2, rfl, rfl⟩
/-! ### As values -/
variable {ek : κ → AV} {ev : α → AV}
def genc (ek : κ → AV) (ev : α → AV) (e : Nat × κ × α) : Nat × AV × AV := (e.1, ek e.2.1, ev e.2.2)
theorem findK_genc (hk : ∀ a b, sameK (ek a) (ek b) = some (decide (a = b))) (q : κ) : ∀ (M : List (Nat × κ × α)) (i : Nat), findK (ek q) (M.map (genc ek ev)) i = some ((gfind q M i).map fun x => (x.1, ev x.2))
  | [], i => rfl
  | e :: M, i => by
    simp only [List.map_cons, findK, genc, hk, gfind]
    by_cases h : q = e.2.1
    · simp [h]
    · simp only [h, decide_false, if_false]
      exact findK_genc hk q M (i + 1)
theorem modify_genc (M : List (Nat × κ × α)) (j : Nat) (q : κ) (v : α) : ((M.map (genc ek ev)).modify j fun e => (e.1, ek q, ev v)) = (M.modify j fun e => (e.1, q, v)).map (genc ek ev) := by
  induction M generalizing j with
  | nil => simp
  | cons e M ih =>
    cases j with
    | zero => simp [List.modify_zero_cons, genc]
    | succ j => simp only [List.map_cons, List.modify_succ_cons, ih]
theorem hasP_genc (h1 : ∀ n a, AV.has n (ek a) = false) (h2 : ∀ n a, AV.has n (ev a) = false) (n : Nat) (M : List (Nat × κ × α)) : AV.hasP n (M.map (genc ek ev)) = false := by
  induction M with
  | nil => rfl
  | cons e M ih => simp [AV.hasP, genc, h1, h2, ih]
theorem renP_genc (h1 : ∀ f a, AV.ren f (ek a) = ek a) (h2 : ∀ f a, AV.ren f (ev a) = ev a) (f : Nat → Nat) (M : List (Nat × κ × α)) : AV.renP f (M.map (genc ek ev)) = M.map (genc ek ev) := by
  induction M with
  | nil => rfl
  | cons e M ih => simp [AV.renP, genc, h1, h2, ih]
theorem find_genc {M : List (Nat × κ × α)} (hs : (M.map (·.1)).Nodup) {e : Nat × κ × α} (he : e ∈ M) : (M.map (genc ek ev)).find? (fun x => x.1 == e.1) = some (genc ek ev e) := by
  induction M with
  | nil => simp at he
  | cons x M ih =>
    rw [List.map_cons, List.nodup_cons] at hs
    rw [List.map_cons, List.find?_cons]
    rcases List.mem_cons.1 he with rfl | he
    · simp [genc]
    · have : ((genc ek ev x).1 == e.1) = false := by
        simp only [genc, beq_eq_false_iff_ne]
        exact fun q => hs.1 (q ▸ List.mem_map_of_mem (f := fun y : Nat × κ × α => y.1) he)
      rw [this]
      exact ih hs.2 he
omit [DecidableEq κ] in
theorem gstamp_inj {M : List (Nat × κ × α)} (hs : (M.map (·.1)).Nodup) {e e' : Nat × κ × α} (he : e ∈ M) (he' : e' ∈ M) (h : e.1 = e'.1) : e = e' := by
  induction M with
  | nil => simp at he
  | cons x M ih =>
    rw [List.map_cons, List.nodup_cons] at hs
    rcases List.mem_cons.1 he with rfl | he1 <;> rcases List.mem_cons.1 he' with rfl | he2
    · rfl
    · exact absurd (h ▸ List.mem_map_of_mem (f := fun y : Nat × κ × α => y.1) he2) hs.1
    · exact absurd (h ▸ List.mem_map_of_mem (f := fun y : Nat × κ × α => y.1) he1) hs.1
    · exact ih hs.2 he1 he2
end
end Go.Aw
end
section
set_option linter.unusedVariables false
set_option linter.unusedSimpArgs false
set_option linter.unusedSectionVars false
namespace Go.Aw
mutual
def AV.ice (o : Nat) (xs : List (List AV)) : AV → AV
  | .sl p off len full => if p = o then (if off + len ≤ xs.length then .isl (if full then .full else .unk) ((xs.drop off).take len) else .undef) else .sl p off len full
  | .ptr p i j => if p = o then (if i < xs.length ∧ j ≤ (xs.getD i []).length then .iptr ((xs.getD i []).drop j) else .undef) else .ptr p i j
  | .agg cs => .agg (AV.iceL o xs cs)
  | .tup cs => .tup (AV.iceL o xs cs)
  | .func g as1 bs => .func g (AV.iceL o xs as1) (AV.iceL o xs bs)
  | x => x
def AV.iceL (o : Nat) (xs : List (List AV)) : List AV → List AV
  | [] => []
  | a :: l => a.ice o xs :: AV.iceL o xs l
end
def AV.iceLL (o : Nat) (xs : List (List AV)) : List (List AV) → List (List AV)
  | [] => []
  | a :: l => AV.iceL o xs a :: AV.iceLL o xs l
def AV.iceP (o : Nat) (xs : List (List AV)) : List (Nat × AV × AV) → List (Nat × AV × AV)
  | [] => []
  | a :: l => (a.1, a.2.1.ice o xs, a.2.2.ice o xs) :: AV.iceP o xs l
def AObj.ice (o : Nat) (xs : List (List AV)) : AObj → AObj
  | .row e k ys => .row e k (AV.iceLL o xs ys)
  | .map c es => .map c (AV.iceP o xs es)
  | .miter m s n p => .miter m s n p
def iceH (o : Nat) (xs : List (List AV)) : HL → HL
  | [] => []
  | (p, x) :: h => if p = o then iceH o xs h else (p, x.ice o xs) :: iceH o xs h
theorem iceL_map {o : Nat} {xs : List (List AV)} : ∀ l : List AV, AV.iceL o xs l = l.map (AV.ice o xs)
  | [] => rfl
  | x :: l => by simp [AV.iceL, iceL_map l]
theorem iceLL_map {o : Nat} {xs : List (List AV)} : ∀ l : List (List AV), AV.iceLL o xs l = l.map (AV.iceL o xs)
  | [] => rfl
  | x :: l => by simp [AV.iceLL, iceLL_map l]
theorem iceP_map {o : Nat} {xs : List (List AV)} : ∀ l : List (Nat × AV × AV), AV.iceP o xs l = l.map fun x => (x.1, x.2.1.ice o xs, x.2.2.ice o xs)
  | [] => rfl
  | x :: l => by simp [AV.iceP, iceP_map l]
theorem iceL_length {o : Nat} {xs : List (List AV)} (l : List AV) : (AV.iceL o xs l).length = l.length := by rw [iceL_map]; simp
theorem iceL_get {o : Nat} {xs : List (List AV)} (l : List AV) (m : Nat) (h : m < (AV.iceL o xs l).length) : (AV.iceL o xs l)[m] = (l[m]'(by rw [iceL_length] at h; exact h)).ice o xs := by
  simp [iceL_map]
mutual
theorem ice_leaf {o : Nat} {xs : List (List AV)} : ∀ x : AV, x.refs = [] → x.ice o xs = x
  | .undef, _ => rfl
  | .int _ _, _ => rfl
  | .bool _, _ => rfl
  | .str _, _ => rfl
  | .nilp, _ => rfl
  | .nilfunc, _ => rfl
  | .nilmap, _ => rfl
  | .iptr _, _ => rfl
  | .isl _ _, _ => rfl
  | .ptr _ _ _, h => by simp [AV.refs] at h
  | .sl _ _ _ _, h => by simp [AV.refs] at h
  | .map _, h => rfl
  | .miter _, h => rfl
  | .agg cs, h => by simp only [AV.refs] at h; simp only [AV.ice, iceL_leaf cs h]
  | .tup cs, h => by simp only [AV.refs] at h; simp only [AV.ice, iceL_leaf cs h]
  | .func g as1 bs, h => by simp only [AV.refs, List.append_eq_nil_iff] at h; simp only [AV.ice, iceL_leaf as1 h.1, iceL_leaf bs h.2]
theorem iceL_leaf {o : Nat} {xs : List (List AV)} : ∀ l : List AV, AV.refsL l = [] → AV.iceL o xs l = l
  | [], _ => rfl
  | x :: l, h => by simp only [AV.refsL, List.append_eq_nil_iff] at h; simp only [AV.iceL, ice_leaf x h.1, iceL_leaf l h.2]
end
theorem iceLL_leaf {o : Nat} {xs : List (List AV)} {α : Type} {enc : α → List AV} (hl : ∀ x, AV.leafL (enc x) = true) (l : List α) : AV.iceLL o xs (l.map enc) = l.map enc := by
  rw [iceLL_map, List.map_map]
  exact List.map_congr_left fun x _ => iceL_leaf _ (refsL_leaf (hl x))
theorem iceP_genc {o : Nat} {xs : List (List AV)} {κ α : Type} {f : κ × α → Nat × AV × AV} (hl : ∀ x, (f x).2.1.refs = [] ∧ (f x).2.2.refs = []) (l : List (κ × α)) : AV.iceP o xs (l.map f) = l.map f := by
  rw [iceP_map, List.map_map]
  refine List.map_congr_left fun x _ => ?_
  simp only [Function.comp, ice_leaf _ (hl x).1, ice_leaf _ (hl x).2]
section
variable {w : World} {A : Nat → Prop} {β : Nat → Option Loc} {h : Hp} {o E k : Nat} {xs : List (List AV)}
mutual
theorem VR.ice (hH : HR w A β h) (ho : h o = some (.row E k xs)) (hl : AV.leafLL xs = true) : ∀ (x : AV) (v : Value), VR w (Av A β h) β x v → VR w (Go.Aw.others [o] A β h) β (x.ice o xs) v
  | .undef, v, _ => .undef v
  | .int k n, v, h => h.int_inv ▸ .imm (.int k n)
  | .bool b, v, h => h.bool_inv ▸ .imm (.bool b)
  | .str s, v, h => h.str_inv ▸ .imm (.str s)
  | .nilp, v, hv => hv.mono (Same.refl _ w) (fun b _ => others_av) (fun _ _ => rfl)
  | .nilfunc, v, hv => hv.mono (Same.refl _ w) (fun b _ => others_av) (fun _ _ => rfl)
  | .nilmap, v, hv => hv.mono (Same.refl _ w) (fun b _ => others_av) (fun _ _ => rfl)
  | .iptr cs, v, hv => hv.mono (Same.refl _ w) (fun b _ => others_av) (fun _ _ => rfl)
  | .isl fl xs, v, hv => hv.mono (Same.refl _ w) (fun b _ => others_av) (fun _ _ => rfl)
  | .map o, v, hv => hv.mono (Same.refl _ w) (fun b _ => others_av) (fun _ _ => rfl)
  | .miter o, v, hv => hv.mono (Same.refl _ w) (fun b _ => others_av) (fun _ _ => rfl)
  | .ptr p i j, v, hv => by
    simp only [AV.ice]
    split
    · rename_i e
      subst e
      split
      · rename_i q
        exact view0_VR hH (by simp only [view0, ho]; exact ⟨by simp, q.1, q.2, hl, trivial⟩) hv
      · exact .undef v
    · exact hv.mono (Same.refl _ w) (fun b _ => others_av) (fun _ _ => rfl)
  | .sl p off len full, v, hv => by
    simp only [AV.ice]
    split
    · rename_i e
      subst e
      split
      · rename_i q
        exact view0_VR hH (by simp only [view0, ho]; exact ⟨by simp, q, hl, trivial⟩) hv
      · exact .undef v
    · exact hv.mono (Same.refl _ w) (fun b _ => others_av) (fun _ _ => rfl)
  | .agg cs, v, hv => by
    obtain ⟨vs, rfl, hn, h1, h2⟩ := VR.agg_inv hv
    simp only [AV.ice]
    exact .agg _ vs (by rw [iceL_length]; exact hn) h1 fun m g1 g2 => by
      rw [iceL_get]
      exact VR.iceL hH ho hl cs vs.toList (fun m g1 g2 => by simpa using h2 m g1 (by simpa using g2)) m (by rw [iceL_length] at g1; exact g1) (by simpa using g2)
  | .tup cs, v, hv => by
    obtain ⟨vs, rfl, hn, h2⟩ := VR.tup_inv hv
    simp only [AV.ice]
    exact .tup _ vs (by rw [iceL_length]; exact hn) fun m g1 g2 => by
      rw [iceL_get]
      exact VR.iceL hH ho hl cs vs.toList (fun m g1 g2 => by simpa using h2 m g1 (by simpa using g2)) m (by rw [iceL_length] at g1; exact g1) (by simpa using g2)
  | .func g as1 bs, v, hv => by
    obtain ⟨us, vs, rfl, hl1, hl2, h1, h2⟩ := VR.func_inv hv
    simp only [AV.ice]
    exact .func g _ _ us vs (by rw [iceL_length]; exact hl1) (by rw [iceL_length]; exact hl2)
      (fun m g1 g2 => by
        rw [iceL_get]
        exact VR.iceL hH ho hl as1 us.toList (fun m g1 g2 => by simpa using h1 m g1 (by simpa using g2)) m (by rw [iceL_length] at g1; exact g1) (by simpa using g2))
      (fun m g1 g2 => by
        rw [iceL_get]
        exact VR.iceL hH ho hl bs vs.toList (fun m g1 g2 => by simpa using h2 m g1 (by simpa using g2)) m (by rw [iceL_length] at g1; exact g1) (by simpa using g2))
theorem VR.iceL (hH : HR w A β h) (ho : h o = some (.row E k xs)) (hl : AV.leafLL xs = true) : ∀ (as1 : List AV) (vs : List Value), (∀ m (h1 : m < as1.length) (h2 : m < vs.length), VR w (Av A β h) β as1[m] vs[m]) → ∀ m (h1 : m < as1.length) (h2 : m < vs.length), VR w (Go.Aw.others [o] A β h) β (as1[m].ice o xs) vs[m]
  | [], vs, h, m, h1, h2 => by simp at h1
  | x :: as1, [], h, m, h1, h2 => by simp at h2
  | x :: as1, v :: vs, h, 0, h1, h2 => VR.ice hH ho hl x v (h 0 (by simp) (by simp))
  | x :: as1, v :: vs, h, m + 1, h1, h2 => VR.iceL hH ho hl as1 vs (fun m g1 g2 => h (m + 1) (by simp; omega) (by simp; omega)) m (by simpa using h1) (by simpa using h2)
end
theorem ObjR.ice (hH : HR w A β h) (ho : h o = some (.row E k xs)) (hl : AV.leafLL xs = true) : ∀ (x : AObj) (l : Option Loc), ObjR w (Av A β h) β l x → ObjR w (Go.Aw.others [o] A β h) β l (x.ice o xs)
  | .row e k ys, none, q => by
    have : ys = [] := q
    subst this; rfl
  | .row e k ys, some l, q => by
    obtain ⟨h1, h2, h3, h4, cur, h5, h6, h7, h8⟩ := q
    simp only [AObj.ice, iceLL_map]
    refine ⟨h1, by simpa using h2, h3, fun x hx => ?_, cur, h5, h6, h7, fun i j g1 g2 => ?_⟩
    · obtain ⟨y, hy, rfl⟩ := List.mem_map.1 hx
      rw [iceL_length]; exact h4 y hy
    · simp only [List.length_map] at g1
      obtain ⟨v, k1, k2⟩ := h8 i j g1 (by simpa [iceL_length] using g2)
      exact ⟨v, k1, by have := VR.ice hH ho hl _ v k2; simpa [iceL_map] using this⟩
  | .map c es, none, q => q
  | .map c es, some l, q => by
    obtain ⟨arr, h1, h2, h3⟩ := q
    simp only [AObj.ice, iceP_map]
    refine ⟨arr, h1, by simpa using h2, fun i g1 g2 => ?_⟩
    have := h3 i (by simpa using g1) g2
    simp only [List.getElem_map]
    exact ⟨this.1, VR.ice hH ho hl _ _ this.2.1, VR.ice hH ho hl _ _ this.2.2⟩
  | .miter m s n p, none, q => q
  | .miter m s n p, some l, q => q
end
def iceHp (o : Nat) (xs : List (List AV)) (h : Hp) : Hp := fun p => if p = o then none else (h p).map (AObj.ice o xs)
theorem mkH_iceH {o : Nat} {xs : List (List AV)} : ∀ h : HL, mkH (iceH o xs h) = iceHp o xs (mkH h)
  | [] => by funext p; simp [iceH, iceHp, mkH]
  | (q, x) :: h => by
    funext p
    have ih := congrFun (mkH_iceH (o := o) (xs := xs) h) p
    unfold iceHp at ih ⊢
    simp only [iceH]
    by_cases h1 : q = o
    · rw [if_pos h1, ih]
      by_cases h2 : p = o
      · simp [h2]
      · rw [if_neg h2, if_neg h2]
        simp only [mkH]
        rw [if_neg (by rw [h1]; exact h2)]
    · rw [if_neg h1]
      simp only [mkH]
      by_cases h2 : p = q
      · subst h2; simp [h1]
      · rw [if_neg h2, if_neg h2, ih]
/-- .. ahead of a call. -/
theorem CallOk.ice {C : Cx} {st : St} {g : FuncId} {args : List AV} {K : AV → Hp → Prop} {o E k : Nat} {xs : List (List AV)} (ho : st.heap o = some (.row E k xs)) (hl : AV.leafLL xs = true) (h : CallOk C ⟨st.env, iceHp o xs st.heap⟩ g (AV.iceL o xs args) K) : CallOk C st g args K := by
  intro F β a w vs hs hp
  have hne : ∀ p, iceHp o xs st.heap p ≠ none → p ≠ o ∧ st.heap p ≠ none := by
    intro p hq
    unfold iceHp at hq
    split at hq
    · exact absurd rfl hq
    · rename_i q
      exact ⟨q, fun e => hq (by rw [e]; rfl)⟩
  have hO : ∀ b, Own β (iceHp o xs st.heap) b → Own β st.heap b := by
    rintro b ⟨p, l, h1, h2, h3⟩
    exact ⟨p, l, (hne p h1).2, h2, h3⟩
  have hav : ∀ b, Av F.A β (iceHp o xs st.heap) b → others [o] F.A β st.heap b := by
    rintro b (hb | ⟨p, l, h1, h2, h3⟩)
    · exact .inl hb
    · exact .inr ⟨p, l, by simpa using (hne p h1).1, (hne p h1).2, h2, h3⟩
  have hs' : SRb C F β ⟨st.env, iceHp o xs st.heap⟩ a w := hs.update (Same.refl _ w) rfl rfl rfl (fun b _ => hO b) (fun _ _ _ => rfl) (fun _ _ => rfl)
    ⟨fun p y hy => by
        have hy2 : p ≠ o ∧ ∃ x, st.heap p = some x ∧ y = x.ice o xs := by
          unfold iceHp at hy
          split at hy
          · cases hy
          · rename_i q
            obtain ⟨x, e1, e2⟩ := Option.map_eq_some_iff.1 hy
            exact ⟨q, x, e1, e2.symm⟩
        obtain ⟨_, x, e1, rfl⟩ := hy2
        exact (ObjR.ice hs.heap ho hl x _ (hs.heap.obj p x e1)).mono (Same.refl _ w) (fun b _ h1 => hav b h1) (fun _ _ => rfl) (fun _ _ => rfl),
      fun p p' l l' g1 g2 => hs.heap.inj p p' l l' (hne p g1).2 (hne p' g2).2,
      fun b hb => hs.heap.lt b (hO b hb), fun b hb => hs.heap.apart b (hO b hb)⟩
  refine h F β a w vs hs' ⟨by rw [iceL_length]; exact hp.1, fun m h1 h2 => ?_⟩
  rw [iceL_get]
  exact (VR.ice hs.heap ho hl _ _ (hp.2 m (by rw [iceL_length] at h1; exact h1) h2)).mono (Same.refl _ w) (fun b _ h1 => hav b h1) (fun _ _ => rfl)
theorem LC.ice {C : Cx} {e : EL} {h : HL} {g : FuncId} {args : List AV} {K : KB (AV → HL → Prop)} (o : Nat) {E k : Nat} {xs : List (List AV)} (ho : mkH h o = some (.row E k xs)) (hl : AV.leafLL xs = true) (hc : LC C e (iceH o xs h) g (AV.iceL o xs args)) : LC C e h g args := by
  refine ⟨hc.1, CallOk.ice (st := ⟨mkE e, mkH h⟩) ho hl ?_⟩
  have := hc.2
  rw [mkH_iceH] at this
  exact this
theorem own_one {β : Nat → Option Loc} {o b : Nat} {ob : AObj} : Own β (updH (fun _ => none) o (some ob)) b ↔ ∃ l, β o = some l ∧ l.blk = b := by
  constructor
  · rintro ⟨p, l, h1, h2, h3⟩
    unfold updH at h1
    split at h1
    · rename_i e; subst e; exact ⟨l, h2, h3⟩
    · exact absurd rfl h1
  · rintro ⟨l, h1, h2⟩
    exact ⟨o, l, by simp [updH], h1, h2⟩
/-- A function that writes one object, the object under another name. -/
theorem ACalls.ren1 {P : Program} {g : FuncId} {args args1 : List AV} {a o : Nat} {ob ob1 obR obR1 : AObj} {x x1 : AV} (hargs : AV.renL (fun _ => o) args1 = args) (hob : ob1.ren (fun _ => o) = ob)
    (hx : x.ren (fun _ => a) = x1) (hobR : obR.ren (fun _ => a) = obR1)
    (h : ACalls P g args1 (updH (fun _ => none) a (some ob1)) [a] (fun z h' => z = x1 ∧ h' = updH (fun _ => none) a (some obR1))) :
    ACalls P g args (updH (fun _ => none) o (some ob)) [o] (fun z h' => z = x ∧ h' = updH (fun _ => none) o (some obR)) := by
  intro A β w vs hA hp hh
  have hown : Own (fun _ => β o) (updH (fun _ => none) a (some ob1)) = Own β (updH (fun _ => none) o (some ob)) := by
    funext b
    exact propext (own_one.trans own_one.symm)
  have hav : Av A (fun _ => β o) (updH (fun _ => none) a (some ob1)) = Av A β (updH (fun _ => none) o (some ob)) := by
    funext b
    unfold Av
    rw [hown]
  have hHR : ∀ {w : World} {β β1 : Nat → Option Loc} {o a : Nat} {ob ob1 : AObj}, ob1.ren (fun _ => o) = ob → β1 = (fun _ => β o) → HR w A β (updH (fun _ => none) o (some ob)) → HR w A β1 (updH (fun _ => none) a (some ob1)) := by
    intro w β β1 o a ob ob1 hob e1 hh
    subst e1
    have hO : ∀ b, Own (fun _ => β o) (updH (fun _ => none) a (some ob1)) b → Own β (updH (fun _ => none) o (some ob)) b := fun b hb => own_one.2 ((own_one (β := fun _ => β o)).1 hb)
    refine ⟨fun p y hy => ?_, fun p p' l l' g1 g2 _ _ _ => ?_, fun b hb => hh.lt b (hO b hb), fun b hb => hh.apart b (hO b hb)⟩
    · unfold updH at hy
      split at hy
      · injection hy with hy
        subst hy
        exact ObjR.unren (f := fun _ => o) (fun b hb => hb.imp id (hO b)) ob1 _ (hob ▸ hh.obj o ob (by simp [updH]))
      · cases hy
    · unfold updH at g1 g2
      split at g1
      · split at g2
        · rename_i q1 q2; rw [q1, q2]
        · exact absurd rfl g2
      · exact absurd rfl g1
  refine (h A (fun _ => β o) w vs hA ⟨by rw [hp.1, ← hargs, renL_length], fun m h1 h2 => ?_⟩ (hHR hob rfl hh)).mono ?_
  · have := hp.2 m (by rw [← hargs, renL_length]; exact h1) h2
    refine VR.unren (f := fun _ => o) (fun b hb => hav ▸ hb) _ _ ?_
    subst hargs
    rw [renL_get _ _ h1] at this
    exact this
  · rintro e w' ⟨v, y, h', β', rfl, ⟨rfl, rfl⟩, hS, hv, hH, hsince, hold⟩
    have hS' := hS a (by simp)
    have hO2 : ∀ b, Own (fun _ => β' a) (updH (fun _ => none) o (some obR)) b → Own β' (updH (fun _ => none) a (some obR1)) b := fun b hb => own_one.2 ((own_one (β := fun _ => β' a)).1 hb)
    refine ⟨v, x, _, fun _ => β' a, rfl, ⟨rfl, rfl⟩, fun p hp => ?_, VR.unren (f := fun _ => a) (fun b hb => hb.imp id (hO2 b)) x v (hx ▸ hv), hHR hobR rfl hH, ⟨?_, hsince.os, hsince.tape, hsince.output, hsince.drawn⟩, fun b hb hb' => ?_⟩
    · simp only [List.mem_singleton] at hp
      subst hp
      exact hS'
    · have := hsince.same
      rw [hown] at this
      exact this
    · have := hold b hb (hO2 b hb')
      rw [hown] at this
      exact this
end Go.Aw
end
section
set_option linter.unusedVariables false
namespace Go.Aw
open Go.Deep
section
variable {H : Type} {enc : TypeId × Value → H} {P : Program} {w : World} {base : Nat} {spare : Nat → Bool} {held : Bool}
/-- Cells that are as the abstract cells say. -/
def RdL (w : World) (avs : List AV) (cs : List Value) : Prop := cs.length = avs.length ∧ ∀ i (h : i < avs.length) (h' : i < cs.length), IR w (fun _ => False) avs[i] cs[i] ∧ cs[i].oneCell' = true
theorem RdL.nil : RdL w [] [] := ⟨rfl, fun i h => by simp at h⟩
theorem RdL.one {a : AV} {v : Value} (h : IR w (fun _ => False) a v) (h1 : v.oneCell' = true) : RdL w [a] [v] := ⟨rfl, fun i h3 h4 => by
  have : i = 0 := by simp at h3; exact h3
  subst this
  exact ⟨h, h1⟩⟩
theorem RdL.append {xs ys : List AV} {us vs : List Value} (h1 : RdL w xs us) (h2 : RdL w ys vs) : RdL w (xs ++ ys) (us ++ vs) := by
  refine ⟨by simp [h1.1, h2.1], fun i h3 h4 => ?_⟩
  by_cases hi : i < xs.length
  · rw [List.getElem_append_left hi, List.getElem_append_left (by rw [h1.1]; exact hi)]
    exact h1.2 i hi _
  · rw [List.getElem_append_right (by omega), List.getElem_append_right (by rw [h1.1]; omega)]
    have := h2.2 (i - xs.length) (by simp at h3; omega) (by have := h1.1; simp at h4; omega)
    simp only [h1.1]
    exact this
theorem read_int {t : TypeId} {fuel : Nat} {k : IntKind} {cs : List Value} {x : DataW H × List MemPlace} (ht : P.underlying t = some (.int k)) (h : DataW.trod enc P w base spare held fuel t cs = some x) : ∃ n, RdL w [.int k n] cs ∧ (Lit.int k n).wf = true := by
  obtain ⟨n, rfl, _, hw⟩ := DataW.trod_int ht h
  exact ⟨n, .one (.int k n) rfl, hw⟩
theorem read_bool {t : TypeId} {fuel : Nat} {cs : List Value} {x : DataW H × List MemPlace} (ht : P.underlying t = some .bool) (h : DataW.trod enc P w base spare held fuel t cs = some x) : ∃ b, RdL w [.bool b] cs := by
  obtain ⟨b, rfl, _⟩ := DataW.trod_bool ht h
  exact ⟨b, .one (.bool b) rfl⟩
theorem read_str {t : TypeId} {fuel : Nat} {cs : List Value} {x : DataW H × List MemPlace} (ht : P.underlying t = some .string) (h : DataW.trod enc P w base spare held fuel t cs = some x) : ∃ s, RdL w [.str s] cs ∧ s.size ≤ maxLen := by
  obtain ⟨s, rfl, _, hs⟩ := DataW.trod_string ht h
  exact ⟨s, .one (.str s) rfl, hs⟩
/-- A slice, its rows read by a function. -/
theorem read_slice {α : Type} {t e : TypeId} {fuel k : Nat} {cs : List Value} {x : DataW H × List MemPlace} {ea : α → List AV} (hk : ∀ a, (ea a).length = k) (ht : P.underlying t = some (.slice e)) (hc : P.cellsOf e = k) (hk0 : 0 < k)
    (hrow : ∀ n cs' y, DataW.trod enc P w base spare held n e cs' = some y → ∃ a, RdL w (ea a) cs') (hsp : ∀ b, spare b = true) (h : DataW.trod enc P w base spare held fuel t cs = some x) : ∃ l : List α, RdL w [.isl .unk (l.map ea)] cs ∧ l.length ≤ maxLen ∧ ((x.1 = .nil ∧ l = []) ∨ ∃ elems sp, x.1 = .slice elems sp ∧ elems.length = l.length) := by
  rcases open_slice ht h with ⟨rfl, hx0⟩ | ⟨a, len, cap, m, n, D, Pl, rfl, hb, hl, hm, hmm, hx0, hx⟩
  · refine ⟨[], .one (.isl .unk [] none 0 k (by simp) (by simp [maxLen]) (by simp) (fun e => by cases e) (fun e => by cases e) (by simp) (fun _ _ => undef) (by simp) (by simp) (by simp)) rfl, by simp, .inl ⟨by rw [hx0], rfl⟩⟩
  · rw [hsp, if_pos rfl] at hmm
    subst hc
    have hx' : ∀ i : Fin len, ∃ a', ∃ cs', w.cells? base (a.add (i.1 * P.cellsOf e)) (P.cellsOf e) = some cs' ∧ RdL w (ea a') cs' := fun i => by
      obtain ⟨cs', h1, h2⟩ := hx i.1 (by omega)
      obtain ⟨a', h3⟩ := hrow _ _ _ h2
      exact ⟨a', cs', h1, h3⟩
    obtain ⟨f, hf⟩ := Classical.axiomOfChoice hx'
    obtain ⟨g, hg⟩ := Classical.axiomOfChoice hf
    have hcell : ∀ (i : Fin len) (j : Nat), j < P.cellsOf e → w.cell? (a.add (i.1 * P.cellsOf e + j)) = (g i)[j]? := fun i j hj => by
      obtain ⟨_, _, h3⟩ := World.cells?_some (hg i).1
      rw [← h3 j hj, add_add]
    have hgl : ∀ i : Fin len, (g i).length = P.cellsOf e := fun i => (World.cells?_some (hg i).1).2.1
    have hplain : 0 < len → a = ⟨a.block, a.off, none⟩ ∧ a.block < w.heap.size := fun h0 => by
      have h1 := hcell ⟨0, h0⟩ 0 hk0
      rw [Nat.zero_mul, Nat.zero_add, List.getElem?_eq_getElem (by rw [hgl]; exact hk0)] at h1
      have h2 : a.add 0 = a := by simp [Addr.add]
      rw [h2] at h1
      refine ⟨?_, cell_lt h1⟩
      obtain ⟨b, c, sp⟩ := a
      cases sp with
      | none => rfl
      | some q =>
        unfold World.cell? at h1
        simp at h1
        split at h1 <;> simp at h1
    have hlen : ((List.ofFn f).map ea).length = len := by simp
    refine ⟨List.ofFn f, .one ?_ rfl, by simp; omega, .inr ⟨_, _, by rw [hx0], by simp⟩⟩
    have := IR.isl (w := w) (O := fun _ => False) .unk ((List.ofFn f).map ea) (some a) cap (P.cellsOf e) (by simp; omega) hm (fun x hx => by
      obtain ⟨y, _, rfl⟩ := List.mem_map.1 hx
      exact hk y) (fun e => by cases e) (fun e => by cases e) (fun h0 => by
      rw [hlen] at h0
      obtain ⟨h1, h2⟩ := hplain h0
      exact ⟨a.block, a.off, congrArg some h1, id, h2⟩)
      (fun i j => if hi : i < len then (g ⟨i, hi⟩).getD j undef else undef) (fun i j h1 h2 => by
        rw [hlen] at h1
        simp only [dif_pos h1]
        have := (hg ⟨i, h1⟩).2.2 j (by rw [hk]; exact h2) (by rw [hgl]; exact h2)
        rw [List.getD_eq_getElem?_getD, List.getElem?_eq_getElem (by rw [hgl]; exact h2)]
        exact this.2) (fun b c hbc i j h1 h2 => by
        rw [hlen] at h1
        injection hbc with hbc
        subst hbc
        simp only [dif_pos h1]
        have := hcell ⟨i, h1⟩ j h2
        rw [List.getD_eq_getElem?_getD, List.getElem?_eq_getElem (by rw [hgl]; exact h2), Option.getD_some]
        rw [List.getElem?_eq_getElem (by rw [hgl]; exact h2)] at this
        rw [← this]
        congr 1
        unfold Addr.add
        split
        · rename_i h0; simp [h0, Nat.add_assoc]
        · simp [Nat.add_assoc]) (fun i j h1 h2 => by
        rw [hlen] at h1
        simp only [dif_pos h1]
        have e0 : ((List.ofFn f).map ea)[i]'(by rw [hlen]; exact h1) = ea (f ⟨i, h1⟩) := by simp
        simp only [e0] at h2 ⊢
        have := (hg ⟨i, h1⟩).2.2 j h2 (by rw [hgl, ← hk (f ⟨i, h1⟩)]; exact h2)
        rw [List.getD_eq_getElem?_getD, List.getElem?_eq_getElem (by rw [hgl, ← hk (f ⟨i, h1⟩)]; exact h2)]
        exact this.1)
    rw [hlen] at this
    exact this
end
end Go.Aw
end
section
set_option linter.unusedVariables false
set_option linter.unusedSimpArgs false
namespace Go.Aw
mutual
def AV.norm : AV → AV
  | .isl _ xs => .isl .unk (AV.normLL xs)
  | .iptr cs => .iptr (AV.normL cs)
  | .agg cs => .agg (AV.normL cs)
  | .tup cs => .tup (AV.normL cs)
  | .func fn a b => .func fn (AV.normL a) (AV.normL b)
  | x => x
def AV.normL : List AV → List AV
  | [] => []
  | x :: xs => AV.norm x :: AV.normL xs
def AV.normLL : List (List AV) → List (List AV)
  | [] => []
  | x :: xs => AV.normL x :: AV.normLL xs
end
theorem normL_map : ∀ l : List AV, AV.normL l = l.map AV.norm
  | [] => rfl
  | x :: xs => by simp [AV.normL, normL_map xs]
theorem normLL_map : ∀ l : List (List AV), AV.normLL l = l.map AV.normL
  | [] => rfl
  | x :: xs => by simp [AV.normLL, normLL_map xs]
theorem IR.norm {w : World} {O : Nat → Prop} {a : AV} {v : Value} (h : IR w O a v) : IR w O a.norm v := by
  induction h with
  | int k n => exact .int k n
  | bool b => exact .bool b
  | str s => exact .str s
  | nilp => exact .nilp
  | nilfunc => exact .nilfunc
  | nilmap => exact .nilmap
  | iptr cs b c vs hl hO hlt hc h1c h ih =>
    refine .iptr (AV.normL cs) b c vs (by simp [normL_map, hl]) hO hlt hc h1c (fun m h1 h2 => ?_)
    simp only [normL_map, List.getElem_map]
    exact ih m (by simpa [normL_map] using h1) h2
  | isl f xs A cap k hcap hmax hk hf hn hA vs h1c hc h ih =>
    have hlen : (AV.normLL xs).length = xs.length := by simp [normLL_map]
    have hfin := IR.isl (w := w) (O := O) .unk (AV.normLL xs) A cap k (by omega) hmax (fun x hx => by
        rw [normLL_map] at hx
        obtain ⟨y, hy, rfl⟩ := List.mem_map.1 hx
        rw [normL_map, List.length_map]
        exact hk y hy) (fun e => by cases e) (fun e => by cases e) (fun h0 => hA (by omega)) vs (fun i j hi hj => h1c i j (by omega) hj) (fun b c hbc i j hi hj => hc b c hbc i j (by omega) hj) (fun i j h1 h2 => by
        simp only [normLL_map, List.getElem_map, normL_map]
        exact ih i j (by omega) (by simpa [normLL_map, normL_map] using h2))
    rw [hlen] at hfin
    exact hfin
  | agg cs vs hl h1c h ih =>
    refine .agg (AV.normL cs) vs (by simp [normL_map, hl]) h1c (fun m h1 h2 => ?_)
    simp only [normL_map, List.getElem_map]
    exact ih m (by simpa [normL_map] using h1) h2
  | tup cs vs hl h ih =>
    refine .tup (AV.normL cs) vs (by simp [normL_map, hl]) (fun m h1 h2 => ?_)
    simp only [normL_map, List.getElem_map]
    exact ih m (by simpa [normL_map] using h1) h2
  | func fn xs ys us vs hl1 hl2 h1 h2 ih1 ih2 =>
    refine .func fn (AV.normL xs) (AV.normL ys) us vs (by simp [normL_map, hl1]) (by simp [normL_map, hl2]) (fun m g1 g2 => ?_) (fun m g1 g2 => ?_)
    · simp only [normL_map, List.getElem_map]; exact ih1 m (by simpa [normL_map] using g1) g2
    · simp only [normL_map, List.getElem_map]; exact ih2 m (by simpa [normL_map] using g1) g2
theorem VR.norm {w : World} {O : Nat → Prop} {β : Nat → Option Loc} {a : AV} {v : Value} (h : VR w O β a v) : VR w O β a.norm v := by
  induction h with
  | imm h => exact .imm h.norm
  | undef v => exact .undef v
  | ptr o i j l h => exact .ptr o i j l h
  | sl o off len full l cap A h h1 h2 h3 h4 h5 => exact .sl o off len full l cap A h h1 h2 h3 h4 h5
  | nilrow o full A h => exact .nilrow o full A h
  | map o l h => exact .map o l h
  | miter o l h => exact .miter o l h
  | agg cs vs hl h1c h ih =>
    refine .agg (AV.normL cs) vs (by simp [normL_map, hl]) h1c (fun m h1 h2 => ?_)
    simp only [normL_map, List.getElem_map]
    exact ih m (by simpa [normL_map] using h1) h2
  | tup cs vs hl h ih =>
    refine .tup (AV.normL cs) vs (by simp [normL_map, hl]) (fun m h1 h2 => ?_)
    simp only [normL_map, List.getElem_map]
    exact ih m (by simpa [normL_map] using h1) h2
  | func fn xs ys us vs hl1 hl2 h1 h2 ih1 ih2 =>
    refine .func fn (AV.normL xs) (AV.normL ys) us vs (by simp [normL_map, hl1]) (by simp [normL_map, hl2]) (fun m g1 g2 => ?_) (fun m g1 g2 => ?_)
    · simp only [normL_map, List.getElem_map]; exact ih1 m (by simpa [normL_map] using g1) g2
    · simp only [normL_map, List.getElem_map]; exact ih2 m (by simpa [normL_map] using g1) g2
theorem Pw.norm {w : World} {O : Nat → Prop} {β : Nat → Option Loc} {xs : List AV} {vs : Array Value} (h : Pw w O β xs vs) : Pw w O β (AV.normL xs) vs :=
  ⟨by simp [normL_map, h.1], fun m h1 h2 => by
    simp only [normL_map, List.getElem_map]
    exact (h.2 m (by simpa [normL_map] using h1) h2).norm⟩
section
variable {C : Cx} {e : EL} {h : HL} {g : FuncId} {args args' : List AV} {K : KB (AV → HL → Prop)}
theorem LC.norm (hn : AV.normL args = args') (hc : LC C e h g args') : LC C e h g args :=
  ⟨hc.1, fun F β a w vs hs hp => hc.2 F β a w vs hs (hn ▸ hp.norm)⟩
theorem PureP.norm {P : Program} {R : AV → Prop} (hn : AV.normL args = args') (hp : PureP P g args' R) : PureP P g args R :=
  ⟨hp.1, fun A β w vs hA hpw hh => hp.2 A β w vs hA (hn ▸ hpw.norm) hh⟩
theorem ObjP.norm {P : Program} {x : Nat → AV} {ob : AObj} (hn : AV.normL args = args') (hp : ObjP P g args' x ob) : ObjP P g args x ob :=
  ⟨hp.1, hp.2.1, hp.2.2.1, hp.2.2.2.1, fun n A β w vs hA hpw hh => hp.2.2.2.2 n A β w vs hA (hn ▸ hpw.norm) hh⟩
end
theorem normLL_leaf {α : Type} {enc : α → List AV} (h : ∀ x, AV.normL (enc x) = enc x) (l : List α) : AV.normLL (l.map enc) = l.map enc := by
  rw [normLL_map, List.map_map]
  exact List.map_congr_left fun x _ => h x
end Go.Aw
end
section
set_option linter.unusedVariables false
set_option linter.unusedSimpArgs false
namespace Go.Aw
open Go.Sort Go.Proofs

/-- What the library's contract says of slices.pdqsortCmpFunc (function G) at elements of k cells. -/
def SortsK (P : Program) (G : FuncId) (k : Nat) : Prop :=
  (∀ (p : Option Addr) (cap : Nat) (lim : Int) (fv : Value) (w : World), Calls P G #[.slice p 0 cap, .int .i64 0, .int .i64 0, .int .i64 lim, fv] w fun e w' => e = .returned (.tuple #[]) ∧ w' = w) ∧
  ∀ (lim : Nat), lim < 4611686018427387904 → ∀ (α : Type) [Inhabited α] (enc : α → List Value) (cf : α → α → Int) (g : Nat) (cb : Array Value) (blk off cap : Nat) (d : Array α) (w : World), (∀ x, (enc x).length = k) → (∀ x, ∀ v ∈ enc x, v.oneCell' = true) → SWO (ltOf cf) → Enters P g →
    CmpLays P g cb enc k cf blk off d.size w → HoldsK enc k w blk off d → blk < w.heap.size → d.size < 4611686018427387904 →
    Calls P G #[.slice (some ⟨blk, off, none⟩) d.size cap, .int .i64 0, .int .i64 d.size, .int .i64 lim, .func (.func g) #[] cb] w fun e w' => e = .returned (.tuple #[]) ∧ ∃ d' n os, PermIn 0 d.size d d' ∧ SortedIn (ltOf cf) 0 d.size d' ∧ w' = sortWorldK enc k w blk off n d' os

/-- A world in which nothing of the old one has changed. -/
theorem grow_of_same {W W' : World} (hs : Same (fun _ => False) W W') (h1 : W'.os = W.os) (h2 : W'.tape = W.tape) (h3 : W'.output = W.output) (h4 : W.drawn ≤ W'.drawn) : ∃ q os, W' = Sort.grow (W.drewN q) os := by
  refine ⟨W'.drawn - W.drawn, W'.heap.extract W.heap.size W'.heap.size, ?_⟩
  have hh : W'.heap = W.heap ++ W'.heap.extract W.heap.size W'.heap.size := by
    apply Array.ext_getElem?
    intro b
    rw [Array.getElem?_append]
    by_cases hb : b < W.heap.size
    · rw [if_pos hb]; exact hs.block b hb (fun h => h)
    · rw [if_neg hb, Array.getElem?_extract]
      have := hs.size
      by_cases hb2 : b < W'.heap.size
      · rw [if_pos (by omega), show W.heap.size + (b - W.heap.size) = b by omega]
      · rw [if_neg (by omega), Array.getElem?_eq_none (by omega)]
  cases W'
  simp only [World.mk.injEq, Sort.grow, World.drewN] at *
  refine ⟨hh, h2, ?_, h1, h3⟩
  omega
theorem sortWorldK_block {α : Type} [Inhabited α] (enc : α → List Value) (k : Nat) (w : World) (blk off m : Nat) (dk : Array α) (os : Array Obj) {b : Nat} (hb : b < w.heap.size) : (sortWorldK enc k w blk off m dk os).heap[b]? = if blk = b then (w.heap[b]?).map (onCells (putCells id off (flatK enc k dk))) else w.heap[b]? := by
  unfold sortWorldK putRowK putRow mapBlock Sort.grow Sort.ahead
  simp only [Array.getElem?_append, Array.size_modify, hb, if_true, Array.getElem?_modify]

theorem pw1 {w : World} {O : Nat → Prop} {β : Nat → Option Loc} {xs : List AV} {vs : Array Value} (h : Pw w O β xs vs) : vs.size = xs.length := h.1
/-- The row, sorted: whichever order equals have. -/
theorem SortsK.row {P : Program} {G : FuncId} {k : Nat} (hS : SortsK P G k) (lim : Nat) (hlim : lim < 4611686018427387904) {α : Type} {enc : α → List AV} (hk : ∀ x, (enc x).length = k) (hl : ∀ x, AV.leafL (enc x) = true) (cf : α → α → Int) (hO : SWO (ltOf cf)) (gC : FuncId)
    (o E : Nat) (full : Bool) (xs : List α) (hlen : xs.length < 4611686018427387904) (hcmp : ∀ x ∈ xs, ∀ y ∈ xs, PureP P gC [.agg (enc x), .agg (enc y)] (· = .int .i64 (cf x y))) :
    ACalls P G [.sl o 0 xs.length full, .int .i64 0, .int .i64 xs.length, .int .i64 lim, .func (.func gC) [] []] (updH (fun _ => none) o (some (.row E k (xs.map enc)))) [o]
      (fun z h' => z = .tup [] ∧ ∃ ys : List α, ys.Perm xs ∧ ys.Pairwise (fun a b => ltOf cf b a = false) ∧ h' = updH (fun _ => none) o (some (.row E k (ys.map enc)))) := by
  intro A β w vs hA hp hh
  have hsz : vs.size = 5 := hp.1
  have hv0 := hp.2 0 (by simp) (by omega)
  have hv1 := hp.2 4 (by simp) (by omega)
  have i1 := (hp.2 1 (by simp) (by omega)).int_inv
  have i2 := (hp.2 2 (by simp) (by omega)).int_inv
  have i3 := (hp.2 3 (by simp) (by omega)).int_inv
  simp only [List.getElem_cons_zero, List.getElem_cons_succ] at hv0 hv1
  obtain ⟨us1, us2, e1, l1, l2, _, _⟩ := hv1.func_inv
  obtain rfl : us1 = #[] := Array.eq_empty_of_size_eq_zero l1
  obtain rfl : us2 = #[] := Array.eq_empty_of_size_eq_zero l2
  have hob : updH (fun _ => none) o (some (.row E k (xs.map enc))) o = some (AObj.row E k (xs.map enc)) := by simp [updH]
  have hR := hh.obj o _ hob
  have hnone : xs = [] → Calls P G vs w fun e w' => ∃ v x h' β', e = .returned v ∧ (x = .tup [] ∧ ∃ ys : List α, ys.Perm xs ∧ ys.Pairwise (fun a b => ltOf cf b a = false) ∧ h' = updH (fun _ => none) o (some (.row E k (ys.map enc)))) ∧
      (∀ p, p ∈ [o] → β' p = β p) ∧ VR w' (Av A β' h') β' x v ∧ HR w' A β' h' ∧ Since ⟨w, Own β (updH (fun _ => none) o (some (.row E k (xs.map enc)))), β, A⟩ w' ∧ ∀ b, b < w.heap.size → Own β' h' b → Own β (updH (fun _ => none) o (some (.row E k (xs.map enc)))) b := by
    intro hx
    subst hx
    have hvs : ∃ p cap fv, vs = #[.slice p 0 cap, .int .i64 0, .int .i64 0, .int .i64 lim, fv] := by
      rcases hv0.sl_inv with ⟨l, cap, A1, _, _, _, _, _, _, e⟩ | ⟨_, _, _, A0, e⟩
      · exact ⟨A1, cap, vs[4], by apply Array.ext (by simp [hsz]); intro i h1 h2; match i, h1 with | 0, _ => exact e | 1, _ => exact i1 | 2, _ => exact i2 | 3, _ => exact i3 | 4, _ => rfl⟩
      · exact ⟨A0, 0, vs[4], by apply Array.ext (by simp [hsz]); intro i h1 h2; match i, h1 with | 0, _ => exact e | 1, _ => exact i1 | 2, _ => exact i2 | 3, _ => exact i3 | 4, _ => rfl⟩
    obtain ⟨p, cap, fv, rfl⟩ := hvs
    refine (hS.1 p cap lim fv w).mono ?_
    rintro e w' ⟨rfl, rfl⟩
    exact ⟨.tuple #[], .tup [], _, β, rfl, ⟨rfl, [], .nil, .nil, rfl⟩, fun _ _ => rfl, .tup _ _ rfl (by simp), hh, ⟨Same.refl _ _, rfl, rfl, rfl, Nat.le_refl _⟩, fun b _ hb => hb⟩
  by_cases hx : xs = []
  · exact hnone hx
  have hn : 0 < xs.length := List.length_pos_iff.2 hx
  obtain ⟨l, cap, A1, hβ, hcap, hcap2, hA1, e0⟩ : ∃ l cap A1, β o = some l ∧ xs.length ≤ cap ∧ 0 + cap ≤ l.cap ∧ (0 < cap → A1 = some ⟨l.blk, l.c0 + 0 * l.k, none⟩) ∧ vs[0] = .slice A1 xs.length cap := by
    rcases hv0.sl_inv with ⟨l, cap, A1, a1, a2, a3, _, _, a4, a5⟩ | ⟨_, _, hz, _⟩
    · exact ⟨l, cap, A1, a1, a2, a3, a4, a5⟩
    · omega
  rw [hβ] at hR
  obtain ⟨k1, k2, k3, k4, cur, k5, k6, k7, k8⟩ := hR
  simp only [List.length_map] at k2
  have hA1' := hA1 (by omega)
  subst hA1'
  simp only [Nat.zero_mul, Nat.add_zero] at e0
  have hlt : l.blk < w.heap.size := hh.lt _ ⟨o, l, by simp [hob], hβ, rfl⟩
  have hvs : vs = #[.slice (some ⟨l.blk, l.c0, none⟩) xs.length cap, .int .i64 0, .int .i64 xs.length, .int .i64 lim, .func (.func gC) #[] #[]] := by
    apply Array.ext (by simp [hsz])
    intro i h1 h2
    match i, h1 with
    | 0, _ => exact e0
    | 1, _ => exact i1
    | 2, _ => exact i2
    | 3, _ => exact i3
    | 4, _ => exact e1
  subst hvs
  -- the machine's cells of each element
  have cellOk : ∀ i j, i < xs.length → j < k → ∃ v, cur[l.c0 + i * k + j]? = some v ∧ v.oneCell' = true ∧ ∃ c, (enc (xs.getD i (xs[0]'hn)))[j]? = some c ∧ IR w (Av A β (updH (fun _ => none) o (some (.row E k (xs.map enc))))) c v := by
    intro i j hi hj
    have h2 : j < ((xs.map enc)[i]'(by simpa using hi)).length := by simp [hk, hj]
    obtain ⟨v, q1, q2⟩ := k8 i j (by simpa using hi) h2
    obtain ⟨p1, p2⟩ := Array.getElem?_eq_some_iff.1 q1
    have hg : xs.getD i (xs[0]'hn) = xs[i] := by simp [List.getD_eq_getElem?_getD, hi]
    have h3 : j < (enc xs[i]).length := by rw [hk]; exact hj
    refine ⟨v, q1, p2 ▸ k7 _ p1, (enc xs[i])[j], by rw [hg]; exact List.getElem?_eq_getElem h3, ?_⟩
    have hleaf := AV.leafL_get (hl xs[i]) j h3
    simp only [List.getElem_map] at q2
    exact q2.leaf_IR hleaf
  let Av0 : Nat → Prop := Av A β (updH (fun _ => none) o (some (.row E k (xs.map enc))))
  let El := { p : α × List Value // p.1 ∈ xs ∧ p.2.length = k ∧ (∀ v ∈ p.2, v.oneCell' = true) ∧ ∀ (j : Nat) (c : AV) (v : Value), (enc p.1)[j]? = some c → p.2[j]? = some v → IR w Av0 c v }
  let cellsOf : Nat → List Value := fun i => (List.range k).map fun j => cur.getD (l.c0 + i * k + j) undef
  have hcells : ∀ i, i < xs.length → (xs.getD i (xs[0]'hn)) ∈ xs ∧ (cellsOf i).length = k ∧ (∀ v ∈ cellsOf i, v.oneCell' = true) ∧ ∀ (j : Nat) (c : AV) (v : Value), (enc (xs.getD i (xs[0]'hn)))[j]? = some c → (cellsOf i)[j]? = some v → IR w Av0 c v := by
    intro i hi
    refine ⟨by simp [List.getD_eq_getElem?_getD, hi], by simp [cellsOf], fun v hv => ?_, fun j c v hc hv => ?_⟩
    · obtain ⟨j, hj, rfl⟩ := List.mem_map.1 hv
      obtain ⟨u, q1, q2, _⟩ := cellOk i j hi (by simpa using hj)
      simpa [Array.getD_eq_getD_getElem?, q1] using q2
    · have hj : j < k := by
        have := (List.getElem?_eq_some_iff.1 hc).1
        rwa [hk] at this
      obtain ⟨u, q1, q2, c', q3, q4⟩ := cellOk i j hi hj
      rw [hc] at q3
      injection q3 with q3
      subst q3
      have : v = u := by
        have : (cellsOf i)[j]? = some u := by simp [cellsOf, hj, Array.getD_eq_getD_getElem?, q1]
        rw [this] at hv
        injection hv with hv
        exact hv.symm
      subst this
      exact q4
  let el : Fin xs.length → El := fun i => ⟨(xs.getD i.1 (xs[0]'hn), cellsOf i.1), hcells i.1 i.2⟩
  haveI : Inhabited El := ⟨el ⟨0, hn⟩⟩
  let d : Array El := ((List.finRange xs.length).map el).toArray
  have hds : d.size = xs.length := by simp [d]
  have hdi : ∀ i (hi : i < xs.length), d[i]! = el ⟨i, hi⟩ := by
    intro i hi
    rw [getElem!_pos d i (by omega)]
    simp [d]
  let enc' : El → List Value := fun p => p.1.2
  let cf' : El → El → Int := fun p q => cf p.1.1 q.1.1
  have hO' : SWO (ltOf cf') := ⟨fun x => hO.irrefl x.1.1, fun x y z => hO.trans x.1.1 y.1.1 z.1.1, fun x y z => hO.ntrans x.1.1 y.1.1 z.1.1⟩
  have hflat : ∀ t, t < xs.length * k → (flatK enc' k d)[t]! = cur.getD (l.c0 + t) undef := by
    intro t ht
    have k0 : 0 < k := by
      rcases Nat.eq_zero_or_pos k with h | h
      · subst h; simp at ht
      · exact h
    have hq : t / k < xs.length := Nat.div_lt_of_lt_mul (by rwa [Nat.mul_comm] at ht)
    have hm : t % k < k := Nat.mod_lt _ k0
    rw [get_flatK enc' k d t (by rw [hds]; exact ht), hdi _ hq]
    show (cellsOf (t / k))[t % k]! = _
    rw [getElem!_pos _ _ (by simp [cellsOf, hm])]
    simp only [cellsOf, List.getElem_map, List.getElem_range]
    have : l.c0 + t / k * k + t % k = l.c0 + t := by rw [Nat.add_assoc, Nat.mul_comm, Nat.div_add_mod]
    rw [this]
  have hH : HoldsK enc' k w l.blk l.c0 d := by
    intro t ht
    rw [size_flatK, hds] at ht
    have hsize : l.c0 + t < cur.size := by
      have : xs.length * k ≤ l.cap * k := Nat.mul_le_mul_right k k2
      omega
    refine ⟨?_, ?_⟩
    · rw [cell_of_row k5, hflat t ht]
      simp [Array.getD_eq_getD_getElem?, hsize]
    · simp [World.frozen?, k5]
  have hC : CmpLays P gC #[] enc' k cf' l.blk l.c0 d.size w := by
    intro m os dk hdk x y
    have hws : w.heap.size ≤ (sortWorldK enc' k w l.blk l.c0 m dk os).heap.size := size_sortWorldK_c enc' k w l.blk l.c0 m dk os
    have hsame : Same Av0 w (sortWorldK enc' k w l.blk l.c0 m dk os) := by
      refine ⟨hws, fun b hb hnb => ?_⟩
      rw [sortWorldK_block enc' k w l.blk l.c0 m dk os hb, if_neg]
      intro e
      subst e
      exact hnb (.inr ⟨o, l, by simp [hob], hβ, rfl⟩)
    have hAv0 : ∀ b, Av0 b → b < w.heap.size := fun b hb => hb.elim (hA b) (hh.lt b)
    have hno : ∀ b, ¬ Own (fun _ => none) (fun _ : Nat => (none : Option AObj)) b := fun b ⟨_, _, h1, _⟩ => h1 rfl
    have hVR : ∀ z : El, VR (sortWorldK enc' k w l.blk l.c0 m dk os) (Av Av0 (fun _ => none) fun _ => none) (fun _ => none) (.agg (enc z.1.1)) (.agg (enc' z).toArray) := by
      intro z
      have hzl : (enc' z).length = (enc z.1.1).length := by rw [hk]; exact z.2.2.1
      refine .agg _ _ (by simpa using hzl) (fun j hj => ?_) (fun j h1 h2 => .imm ?_)
      · simp only [List.getElem_toArray]
        exact z.2.2.2.1 _ (List.getElem_mem _)
      · simp only [List.getElem_toArray]
        have := z.2.2.2.2 j _ _ (List.getElem?_eq_getElem h1) (List.getElem?_eq_getElem (by simpa using h2))
        exact this.mono hsame fun b _ hb => hb.elim id fun hb => (hno b hb).elim
    have hcall := (hcmp x.1.1 x.2.1 y.1.1 y.2.1).2 Av0 (fun _ => none) (sortWorldK enc' k w l.blk l.c0 m dk os) #[.agg (enc' x).toArray, .agg (enc' y).toArray] (fun b hb => Nat.lt_of_lt_of_le (hAv0 b hb) hws)
      ⟨rfl, fun j h1 h2 => by
        match j, h2 with
        | 0, _ => exact hVR x
        | 1, _ => exact hVR y⟩
      ⟨fun _ _ hx => (by cases hx), fun _ _ _ _ h => absurd rfl h, fun b hb => (hno b hb).elim, fun b hb => (hno b hb).elim⟩
    refine hcall.mono ?_
    rintro e w' ⟨v, z, h', β', rfl, ⟨⟨_, rfl⟩, rfl⟩, _, hv, _, hsince, _⟩
    refine ⟨by rw [hv.int_inv], ?_⟩
    exact grow_of_same (hsince.same.wider fun b hb => (hno b hb).elim) hsince.os hsince.tape hsince.output hsince.drawn
  have hfin := hS.2 lim hlim El enc' cf' gC #[] l.blk l.c0 cap d w (fun x => x.2.2.1) (fun x => x.2.2.2.1) hO' (hcmp _ (List.getElem_mem hn) _ (List.getElem_mem hn)).1 hC hH hlt (by omega)
  rw [hds] at hfin
  refine hfin.mono ?_
  rintro e w' ⟨rfl, d', n, os, hperm, hsorted, rfl⟩
  have hd's : d'.size = xs.length := hperm.1.trans hds
  have hys : (d'.toList.map fun p => p.1.1).length = xs.length := by simp [hd's]
  have hdl : d.toList.map (fun p => p.1.1) = xs := by
    apply List.ext_getElem (by simp [hds])
    intro i h1 h2
    simp only [List.getElem_map, Array.getElem_toList, d, List.getElem_toArray, List.getElem_finRange]
    simp [el, List.getD_eq_getElem?_getD, h2]
  have hpl : d'.toList.Perm d.toList := by
    have := hperm.2.2
    have e1 : (d'.extract 0 xs.length).toList = d'.toList := by rw [← hd's]; simp
    have e2 : (d.extract 0 xs.length).toList = d.toList := by rw [← hds]; simp
    rwa [e1, e2] at this
  let cur' : Array Value := putCells id l.c0 (flatK enc' k d') cur
  have hblk : (sortWorldK enc' k w l.blk l.c0 n d' os).heap[l.blk]? = some (.cells cur' E (0, 0)) := by
    rw [sortWorldK_block enc' k w l.blk l.c0 n d' os hlt, if_pos rfl, k5]
    rfl
  have hcur's : cur'.size = cur.size := by simp [cur', putCells]
  have hget : ∀ t, t < xs.length * k → cur'[l.c0 + t]? = some (flatK enc' k d')[t]! := by
    intro t ht
    have hsize : l.c0 + t < cur.size := by
      have : xs.length * k ≤ l.cap * k := Nat.mul_le_mul_right k k2
      omega
    simp only [cur', putCells, Array.getElem?_mapIdx, Array.getElem?_eq_getElem hsize, Option.map_some]
    rw [if_pos ⟨by omega, by rw [size_flatK, hd's]; omega⟩, show l.c0 + t - l.c0 = t by omega]
    rfl
  have hd'cell : ∀ i j (hi : i < xs.length), j < k → (flatK enc' k d')[i * k + j]! = (enc' d'[i]!)[j]! := by
    intro i j hi hj
    have hb : i * k + j < d'.size * k := by
      rw [hd's]
      have := Nat.mul_le_mul_right k (show i + 1 ≤ xs.length from hi)
      rw [Nat.add_mul, Nat.one_mul] at this
      omega
    rw [get_flatK enc' k d' _ hb]
    have h1 : (i * k + j) / k = i := by rw [Nat.mul_comm, Nat.mul_add_div (by omega), Nat.div_eq_of_lt hj, Nat.add_zero]
    have h2 : (i * k + j) % k = j := by rw [Nat.mul_comm, Nat.mul_add_mod, Nat.mod_eq_of_lt hj]
    rw [h1, h2]
  have hws : w.heap.size ≤ (sortWorldK enc' k w l.blk l.c0 n d' os).heap.size := size_sortWorldK_c enc' k w l.blk l.c0 n d' os
  have hsameO : Same (Own β (updH (fun _ => none) o (some (.row E k (xs.map enc))))) w (sortWorldK enc' k w l.blk l.c0 n d' os) := by
    refine ⟨hws, fun b hb hnb => ?_⟩
    rw [sortWorldK_block enc' k w l.blk l.c0 n d' os hb, if_neg]
    intro e
    subst e
    exact hnb ⟨o, l, by simp [hob], hβ, rfl⟩
  have hOwn : ∀ b, Own β (updH (fun _ => none) o (some (.row E k ((d'.toList.map fun p => p.1.1).map enc)))) b → Own β (updH (fun _ => none) o (some (.row E k (xs.map enc)))) b := by
    rintro b ⟨p, l', g1, g2, g3⟩
    refine ⟨p, l', ?_, g2, g3⟩
    unfold updH at g1 ⊢
    split
    · simp
    · rename_i hpo; rw [if_neg hpo] at g1; exact g1
  refine ⟨.tuple #[], .tup [], updH (fun _ => none) o (some (.row E k ((d'.toList.map fun p => p.1.1).map enc))), β, rfl, ⟨rfl, d'.toList.map fun p => p.1.1, ?_, ?_, rfl⟩, fun _ _ => rfl, .tup _ _ rfl (by simp), ⟨fun p z hz => ?_, fun p p' m m' g1 g2 g3 g4 g5 => ?_, fun b hb => Nat.lt_of_lt_of_le (hh.lt b (hOwn b hb)) hws, fun b hb => hh.apart b (hOwn b hb)⟩,
    ⟨hsameO, rfl, rfl, rfl, ?_⟩, fun b _ hb => hOwn b hb⟩
  · have := hpl.map (fun p => p.1.1)
    rwa [hdl] at this
  · rw [List.pairwise_map, List.pairwise_iff_getElem]
    intro i j hi hj hij
    simp only [Array.length_toList] at hi hj
    have := hsorted i j (Nat.zero_le _) hij (by omega)
    rw [getElem!_pos d' j hj, getElem!_pos d' i hi] at this
    simp only [Array.getElem_toList]
    exact this
  · unfold updH at hz
    split at hz
    · rename_i hpo
      subst hpo
      injection hz with hz
      subst hz
      rw [hβ]
      refine ⟨k1, by simp only [List.length_map] ; rw [Array.length_toList, hd's]; exact k2, k3, fun x hx => ?_, cur', hblk, by rw [hcur's]; exact k6, fun m hm => ?_, fun i j h1 h2 => ?_⟩
      · obtain ⟨y, _, rfl⟩ := List.mem_map.1 hx
        exact hk y
      · simp only [cur', putCells, Array.getElem_mapIdx]
        split
        · rename_i hr
          have hmt : m - l.c0 < xs.length * k := by have := hr.2; rw [size_flatK, hd's] at this; omega
          have k0 : 0 < k := by
            rcases Nat.eq_zero_or_pos k with h | h
            · subst h; simp at hmt
            · exact h
          have hq : (m - l.c0) / k < xs.length := Nat.div_lt_of_lt_mul (by rwa [Nat.mul_comm] at hmt)
          rw [get_flatK enc' k d' _ (by rw [hd's]; exact hmt)]
          have hz := (d'[(m - l.c0) / k]!).2
          rw [getElem!_pos _ _ (by show _ < (d'[(m - l.c0) / k]!).1.2.length; rw [hz.2.1]; exact Nat.mod_lt _ k0)]
          exact hz.2.2.1 _ (List.getElem_mem _)
        · exact k7 m _
      · simp only [List.length_map] at h1
        have hi : i < xs.length := by rw [Array.length_toList, hd's] at h1; exact h1
        have hi' : i < d'.size := by omega
        have hj : j < k := by simpa [hk] using h2
        refine ⟨(enc' d'[i]!)[j]!, by rw [Nat.add_assoc, hget _ (by
            have := Nat.mul_le_mul_right k (show i + 1 ≤ xs.length from hi)
            rw [Nat.add_mul, Nat.one_mul] at this
            omega), hd'cell i j hi hj], ?_⟩
        have hz := (d'[i]!).2
        have hjl : j < (enc' d'[i]!).length := by show j < (d'[i]!).1.2.length; rw [hz.2.1]; exact hj
        have hir := hz.2.2.2 j _ _ (List.getElem?_eq_getElem (by rw [hk]; exact hj)) (List.getElem?_eq_getElem hjl)
        simp only [List.getElem_map, Array.getElem_toList]
        rw [getElem!_pos _ j hjl]
        have e2 : d'[i]! = d'[i] := getElem!_pos d' i hi'
        have hfinal := hir.mono (O' := Av A β (updH (fun _ => none) p (some (.row E k ((d'.toList.map fun p => p.1.1).map enc))))) (w' := sortWorldK enc' k w l.blk l.c0 n d' os) (O := Av0)
          ⟨hws, fun b hb hnb => hsameO.block b hb fun h => hnb (.inr h)⟩ fun b _ hb => hb.elim .inl fun hb => .inr (hOwn b hb)
        refine .imm ?_
        simp only [e2] at hfinal ⊢
        exact hfinal
    · cases hz
  · unfold updH at g1 g2
    split at g1
    · split at g2
      · rename_i a b; rw [a, b]
      · exact absurd rfl g2
    · exact absurd rfl g1
  · show w.drawn ≤ w.drawn + n
    omega
end Go.Aw
namespace Go.Aw
open Go.Sort Go.Proofs
/-- A call that is handed one object of the caller's and writes it. -/
theorem LC.own1 {C : Cx} {e : EL} {h : HL} {g : FuncId} {args : List AV} {K : KB (AV → HL → Prop)} {o : Nat} {ob : AObj} {Q : AV → Hp → Prop} (ho : mkH h o = some ob) (hE : Enters C.P g) (hc : ACalls C.P g args (updH (fun _ => none) o (some ob)) [o] Q)
    (hK : ∀ z h', Q z h' → ∃ ob', h' = updH (fun _ => none) o (some ob') ∧ (∀ p, z.has p = true → p = o) ∧ (∀ p, ob'.has p = false) ∧ K.k z ((o, ob') :: remK o h)) : LC C e h g args := by
  have e1 : restr [o] (mkH h) = updH (fun _ => none) o (some ob) := by
    funext p
    unfold restr updH
    by_cases hp : p = o
    · subst hp; simp [ho]
    · simp [hp]
  refine ⟨hE, CallOk.own [o] (st := ⟨mkE e, mkH h⟩) (Q := Q) (by rw [e1]; exact hc) ?_⟩
  intro z h' hq
  obtain ⟨ob', rfl, hz, hob, hk⟩ := hK z h' hq
  refine ⟨fun p hp hn => ?_, fun p hp => .inr (by simpa using hz p hp), fun p y q hy hq => ?_, _, ?_, hk⟩
  · unfold updH at hp
    split at hp
    · rename_i e'; exact absurd (by simpa using e') hn
    · exact absurd rfl hp
  · unfold updH at hy
    split at hy
    · injection hy with hy; subst hy; rw [hob q] at hq; cases hq
    · cases hy
  · rw [mkH_put]
    funext p
    by_cases hp : p = o
    · subst hp; simp [merge, updH]
    · simp [merge, updH, hp]
/-- The library's SortFunc (function G), by what pdqsortCmpFunc (function Gp) does. -/
def SortsF (P : Program) (G k : Nat) : Prop := Enters P G ∧ ∀ {α : Type} {enc : α → List AV} (_ : ∀ x, (enc x).length = k) (_ : ∀ x, AV.leafL (enc x) = true) (cf : α → α → Int) (_ : SWO (ltOf cf)) (gC o E : Nat) (full : Bool) (xs : List α) (_ : xs.length < 4611686018427387904)
  (_ : ∀ x ∈ xs, ∀ y ∈ xs, PureP P gC [.agg (enc x), .agg (enc y)] (· = .int .i64 (cf x y))),
    ACalls P G [.sl o 0 xs.length full, .func (.func gC) [] []] (updH (fun _ => none) o (some (.row E k (xs.map enc)))) [o]
      (fun z h' => z = .tup [] ∧ ∃ ys : List α, ys.Perm xs ∧ ys.Pairwise (fun a b => ltOf cf b a = false) ∧ h' = updH (fun _ => none) o (some (.row E k (ys.map enc))))
theorem LC.sort {C : Cx} {e : EL} {h : HL} {G gC : FuncId} {K : KB (AV → HL → Prop)} {o E k n : Nat} {full : Bool} (hS : SortsF C.P G k) {α : Type} {enc : α → List AV} (hk : ∀ x, (enc x).length = k) (hl : ∀ x, AV.leafL (enc x) = true) (cf : α → α → Int) (hO : SWO (ltOf cf))
    (xs : List α) (hn : n = xs.length) (ho : mkH h o = some (.row E k (xs.map enc))) (hlen : xs.length < 4611686018427387904) (hcmp : ∀ x ∈ xs, ∀ y ∈ xs, PureP C.P gC [.agg (enc x), .agg (enc y)] (· = .int .i64 (cf x y)))
    (hK : ∀ ys : List α, ys.Perm xs → ys.Pairwise (fun a b => ltOf cf b a = false) → K.k (.tup []) ((o, .row E k (ys.map enc)) :: remK o h)) : LC C e h G [.sl o 0 n full, .func (.func gC) [] []] := by
  subst hn
  refine LC.own1 ho hS.1 (hS.2 hk hl cf hO gC o E full xs hlen hcmp) ?_
  rintro z h' ⟨rfl, ys, h1, h2, rfl⟩
  exact ⟨_, rfl, fun p hp => by simp [AV.has, AV.hasL] at hp, row_has hl E k ys, hK ys h1 h2⟩
/-! ### Functions that are handed objects -/
def finA (P : Program) (rs : List ResultVar) (Q : AV → Hp → Prop) (ax : AX) (e : EL) (h : HL) : Prop :=
  match ax with
  | .exit _ => False
  | _ => lresL P e h rs fun vs => Q (retVal vs) (mkH h)
theorem ACalls.run {P : Program} {g : FuncId} {fn : Func} {c : ACode} {args : List AV} {rs : List ResultVar} {h0 : HL} {S : List Nat} {Q : AV → Hp → Prop} (hm : P.follows .mixedOrders = true)
    (hf : P.funcs[g]? = some fn) (hc : fn.body.bind (absCode fn.ntmps) = some c) (hr : fn.results.toList = rs) (hn : decide (args.length ≤ fn.ntmps) = true)
    (hw : @X ⟨P, fn.ntmps, S⟩ c (argE 0 args) h0 ⟨finA P rs Q⟩) : ACalls P g args (mkH h0) S Q := by
  obtain ⟨body, hb, hc⟩ := Option.bind_eq_some_iff.1 hc
  refine ACalls.of hf hb hc (of_decide_eq_true hn) (AWp.mono (aexec_sound hm c _ h0 _ (fun ax st => ∃ e h, st = ⟨mkE e, mkH h⟩ ∧ finA P rs Q ax e h) (fun x e' h' q => ⟨e', h', rfl, q⟩) hw) ?_)
  rintro ax st ⟨e, h, rfl, q⟩
  cases ax with
  | exit id => exact q
  | normal => rw [hr]; exact lresL_aresL rs _ _ (fun vs q => q) q
  | ret => rw [hr]; exact lresL_aresL rs _ _ (fun vs q => q) q
theorem mkH_one (o : Nat) (x : AObj) : mkH [(o, x)] = updH (fun _ => none) o (some x) := by
  funext p; simp only [mkH, updH]
/-- From what the machine does. -/
theorem PureP.of_calls {P : Program} {g : FuncId} {args : List AV} {r : AV} (hE : Enters P g) (hr : r.refs = []) (h : ∀ w O β vs, Pw w O β args vs → Calls P g vs w fun e w' => ∃ v, e = .returned v ∧ VR w O β r v ∧ w' = w) : PureP P g args (· = r) := by
  refine ⟨hE, fun A β w vs hA hp hh => (h w _ β vs hp).mono ?_⟩
  rintro e w' ⟨v, rfl, hv, rfl⟩
  exact ⟨v, r, _, β, rfl, ⟨⟨hr, rfl⟩, rfl⟩, fun _ _ => rfl, hv, hh, ⟨Same.refl _ _, rfl, rfl, rfl, Nat.le_refl _⟩, fun b _ hb => hb⟩
end Go.Aw
end
section
set_option linter.unusedVariables false
set_option linter.unusedSimpArgs false
namespace Go.Aw
open Go.Sort Go.Proofs
def encInt (n : Int) : List AV := [.int .i64 n]
theorem leaf_int (n : Int) : AV.leafL (encInt n) = true := rfl
theorem sortI_row {P : Program} {G : FuncId} (zs : List Int) (hne : zs ≠ []) (o E : Nat) (full : Bool)
    (hS : ∀ (blk off cap : Nat) (w : World), Holds (Value.int .i64) w blk off zs.toArray → blk < w.heap.size → Calls P G #[.slice (some ⟨blk, off, none⟩) zs.length cap] w fun e w' =>
      e = .returned (.tuple #[]) ∧ ∃ n os, w' = Sort.grow (putRow (Value.int .i64) (Sort.ahead w n) blk off (zs.mergeSort fun x y => decide (x ≤ y)).toArray) os) :
    ACalls P G [.sl o 0 zs.length full] (updH (fun _ => none) o (some (.row E 1 (zs.map encInt)))) [o]
      (fun z h' => z = .tup [] ∧ h' = updH (fun _ => none) o (some (.row E 1 ((zs.mergeSort fun x y => decide (x ≤ y)).map encInt)))) := by
  intro A β w vs hA hp hh
  have hsz : vs.size = 1 := hp.1
  have hv0 := hp.2 0 (by simp) (by omega)
  simp only [List.getElem_cons_zero] at hv0
  have hn : 0 < zs.length := List.length_pos_iff.2 hne
  have hob : updH (fun _ => none) o (some (.row E 1 (zs.map encInt))) o = some (AObj.row E 1 (zs.map encInt)) := by simp [updH]
  have hR := hh.obj o _ hob
  obtain ⟨l, cap, A1, hβ, hcap, hcap2, hA1, e0⟩ : ∃ l cap A1, β o = some l ∧ zs.length ≤ cap ∧ 0 + cap ≤ l.cap ∧ (0 < cap → A1 = some ⟨l.blk, l.c0 + 0 * l.k, none⟩) ∧ vs[0] = .slice A1 zs.length cap := by
    rcases hv0.sl_inv with ⟨l, cap, A1, a1, a2, a3, _, _, a4, a5⟩ | ⟨_, _, hz, _⟩
    · exact ⟨l, cap, A1, a1, a2, a3, a4, a5⟩
    · omega
  rw [hβ] at hR
  obtain ⟨k1, k2, k3, k4, cur, k5, k6, k7, k8⟩ := hR
  simp only [List.length_map] at k2
  have hA1' := hA1 (by omega)
  subst hA1'
  simp only [Nat.zero_mul, Nat.add_zero] at e0
  have hlt : l.blk < w.heap.size := hh.lt _ ⟨o, l, by simp [hob], hβ, rfl⟩
  obtain rfl : vs = #[.slice (some ⟨l.blk, l.c0, none⟩) zs.length cap] := by
    apply Array.ext (by simp [hsz])
    intro i h1 h2
    match i, h2 with
    | 0, _ => exact e0
  have hcell : ∀ i (hi : i < zs.length), cur[l.c0 + i]? = some (.int .i64 zs[i]) := by
    intro i hi
    obtain ⟨v, q1, q2⟩ := k8 i 0 (by simpa using hi) (by simp [encInt])
    simp only [List.getElem_map, encInt, List.getElem_cons_zero, Nat.mul_one, Nat.add_zero] at q1 q2
    rw [q1, q2.int_inv]
  have hH : Holds (Value.int .i64) w l.blk l.c0 zs.toArray := by
    intro j hj
    simp only [List.size_toArray] at hj
    refine ⟨?_, by simp [World.frozen?, k5]⟩
    rw [cell_of_row k5, hcell j hj, getElem!_pos _ _ (by simpa using hj)]
    simp
  refine (hS l.blk l.c0 cap w hH hlt).mono ?_
  rintro e w' ⟨rfl, n, os, rfl⟩
  let ds := zs.mergeSort fun x y => decide (x ≤ y)
  have hds : ds.length = zs.length := by simp [ds]
  have hheap : ∀ b, b < w.heap.size → (Sort.grow (putRow (Value.int .i64) (Sort.ahead w n) l.blk l.c0 ds.toArray) os).heap[b]? = if l.blk = b then (w.heap[b]?).map (onCells (putCells (Value.int .i64) l.c0 ds.toArray)) else w.heap[b]? := by
    intro b hb
    unfold putRow mapBlock Sort.grow Sort.ahead
    simp only [Array.getElem?_append, Array.size_modify, hb, if_true, Array.getElem?_modify]
  have hws : w.heap.size ≤ (Sort.grow (putRow (Value.int .i64) (Sort.ahead w n) l.blk l.c0 ds.toArray) os).heap.size := by
    rw [size_grow, size_putRow]; exact Nat.le_add_right _ _
  let cur' : Array Value := putCells (Value.int .i64) l.c0 ds.toArray cur
  have hblk : (Sort.grow (putRow (Value.int .i64) (Sort.ahead w n) l.blk l.c0 ds.toArray) os).heap[l.blk]? = some (.cells cur' E (0, 0)) := by
    rw [hheap _ hlt, if_pos rfl, k5]
    rfl
  have hcur's : cur'.size = cur.size := by simp [cur', putCells]
  have hsameO : Same (Own β (updH (fun _ => none) o (some (.row E 1 (zs.map encInt))))) w (Sort.grow (putRow (Value.int .i64) (Sort.ahead w n) l.blk l.c0 ds.toArray) os) := by
    refine ⟨hws, fun b hb hnb => ?_⟩
    rw [hheap b hb, if_neg]
    intro e
    subst e
    exact hnb ⟨o, l, by simp [hob], hβ, rfl⟩
  have hOwn : ∀ b, Own β (updH (fun _ => none) o (some (.row E 1 (ds.map encInt)))) b → Own β (updH (fun _ => none) o (some (.row E 1 (zs.map encInt)))) b := by
    rintro b ⟨p, l', g1, g2, g3⟩
    refine ⟨p, l', ?_, g2, g3⟩
    unfold updH at g1 ⊢
    split
    · simp
    · rename_i hpo; rw [if_neg hpo] at g1; exact g1
  refine ⟨.tuple #[], .tup [], updH (fun _ => none) o (some (.row E 1 (ds.map encInt))), β, rfl, ⟨rfl, rfl⟩, fun _ _ => rfl, .tup _ _ rfl (by simp), ⟨fun p z hz => ?_, fun p p' m m' g1 g2 g3 g4 g5 => ?_, fun b hb => Nat.lt_of_lt_of_le (hh.lt b (hOwn b hb)) hws, fun b hb => hh.apart b (hOwn b hb)⟩,
    ⟨hsameO, rfl, rfl, rfl, ?_⟩, fun b _ hb => hOwn b hb⟩
  · unfold updH at hz
    split at hz
    · rename_i hpo
      subst hpo
      injection hz with hz
      subst hz
      rw [hβ]
      refine ⟨k1, by simp only [List.length_map]; omega, k3, fun x hx => ?_, cur', hblk, by rw [hcur's]; exact k6, fun m hm => ?_, fun i j h1 h2 => ?_⟩
      · obtain ⟨y, _, rfl⟩ := List.mem_map.1 hx
        rfl
      · simp only [cur', putCells, Array.getElem_mapIdx]
        split
        · rfl
        · exact k7 m _
      · simp only [List.length_map] at h1
        simp only [List.getElem_map, encInt, List.length_singleton] at h2
        obtain rfl : j = 0 := by omega
        have hsize : l.c0 + i < cur.size := by
          have := (Array.getElem?_eq_some_iff.1 (hcell i (by omega))).1
          exact this
        refine ⟨.int .i64 ds[i], ?_, ?_⟩
        · simp only [Nat.mul_one, Nat.add_zero, cur', putCells, Array.getElem?_mapIdx, Array.getElem?_eq_getElem hsize, Option.map_some]
          rw [if_pos ⟨by omega, by simp; omega⟩, show l.c0 + i - l.c0 = i by omega, getElem!_pos _ _ (by simpa using h1)]
          simp
        · simp only [List.getElem_map, encInt, List.getElem_cons_zero]
          exact .imm (.int _ _)
    · cases hz
  · unfold updH at g1 g2
    split at g1
    · split at g2
      · rename_i a b; rw [a, b]
      · exact absurd rfl g2
    · exact absurd rfl g1
  · show w.drawn ≤ w.drawn + n
    omega
theorem LC.sortI {C : Cx} {e : EL} {h : HL} {G : FuncId} {K : KB (AV → HL → Prop)} {o E n : Nat} {full : Bool} (hE : Enters C.P G) (zs : List Int) (hne : zs ≠ []) (hn : n = zs.length) (ho : mkH h o = some (.row E 1 (zs.map encInt)))
    (hS : ∀ (blk off cap : Nat) (w : World), Holds (Value.int .i64) w blk off zs.toArray → blk < w.heap.size → Calls C.P G #[.slice (some ⟨blk, off, none⟩) zs.length cap] w fun e w' =>
      e = .returned (.tuple #[]) ∧ ∃ n os, w' = Sort.grow (putRow (Value.int .i64) (Sort.ahead w n) blk off (zs.mergeSort fun x y => decide (x ≤ y)).toArray) os)
    (hK : K.k (.tup []) ((o, .row E 1 ((zs.mergeSort fun x y => decide (x ≤ y)).map encInt)) :: remK o h)) : LC C e h G [.sl o 0 n full] := by
  subst hn
  refine LC.own1 ho hE (sortI_row zs hne o E full hS) ?_
  rintro z h' ⟨rfl, rfl⟩
  exact ⟨_, rfl, fun p hp => by simp [AV.has, AV.hasL] at hp, row_has leaf_int E 1 _, hK⟩
end Go.Aw
end
section
set_option linter.unusedVariables false
namespace Go.Aw
open Go.RowKit Go.Deep Go.ChangeShapes Go.WideShapes Go.ChangeAt
theorem below_of {w w' : World} {F : Fr} (h : Since F w') (hw : F.w = w) (hO : ∀ b, ¬ F.O b) : Go.RowKit.Below w.heap.size w w' := by
  subst hw
  exact ⟨h.os, h.tape, h.output, h.same.size, fun k hk => h.same.block k hk (hO k)⟩
theorem own_none (β : Nat → Option Aw.Loc) (b : Nat) : ¬ Own β (fun _ => none) b := fun ⟨o, l, h, _⟩ => h rfl
/-- The call, of values that nobody writes. -/
theorem PureP.calls {P : Program} {g : FuncId} {args : List AV} {vs : Array Value} {w : World} (h : PureP P g args (· = .bool true)) (hl : vs.size = args.length) (hr : ∀ m (h1 : m < args.length) (h2 : m < vs.size), IR w (fun _ => False) args[m] vs[m]) :
    Calls P g vs w fun e w' => e = .returned (.bool true) ∧ Go.RowKit.Below w.heap.size w w' := by
  refine (h.2 (fun _ => False) (fun _ => none) w vs (fun b hb => hb.elim) ⟨hl, fun m h1 h2 => .imm ((hr m h1 h2).mono (Same.refl _ w) fun b _ hb => ?_)⟩ ⟨fun o x hx => (by cases hx), fun o o' l l' g1 => absurd rfl g1, fun b hb => (own_none _ b hb).elim, fun b hb => (own_none _ b hb).elim⟩).mono ?_
  · rcases hb with hb | hb
    · exact hb
    · exact own_none _ b hb
  · rintro e w' ⟨v, x, h', β', rfl, ⟨⟨_, rfl⟩, rfl⟩, _, hv, _, hs, _⟩
    exact ⟨by rw [hv.bool_inv], below_of hs rfl (own_none _)⟩
theorem RdL.single {w : World} {a : AV} {v : Value} (h : RdL w [a] #[v].toList) : IR w (fun _ => False) a v := (h.2 0 (by simp) (by simp)).1
theorem RdL.agg {w : World} {as1 : List AV} {v : Value} (h : RdL w as1 v.cells.toList) (hl : as1.length ≠ 1) : IR w (fun _ => False) (.agg as1) v := by
  cases v with
  | agg cs =>
    exact .agg as1 cs (by simpa [Value.cells] using h.1) (fun m hm => by
      have := (h.2 m (by have := h.1; simp [Value.cells] at this; omega) (by simpa [Value.cells] using hm)).2
      simpa [Value.cells] using this) (fun m h1 h2 => by
      have := (h.2 m h1 (by simpa [Value.cells] using h2)).1
      simpa [Value.cells] using this)
  | _ => exact absurd (by simpa [Value.cells] using h.1.symm) hl
section
variable {H : Type} {enc : TypeId × Value → H}
theorem trodAll_stays {P : Program} (hl : laidOutB P = true) {W W' : World} (hb : Go.RowKit.Below W.heap.size W W') : ∀ {ts : List TypeId} {vs : List Value} {ds : List (DataW H)} {ps : List MemPlace},
    ts.all (fun t => P.readableRec t && decide (t < P.types.size)) = true → DataW.TrodAll enc P W 0 (fun _ => true) true ts vs ds ps → (∀ x ∈ ps, x.block < W.heap.size) → DataW.TrodAll enc P W' 0 (fun b => decide (b < W.heap.size)) true ts vs ds ps
  | [], [], [], _, _, h, _ => h
  | t :: ts, v :: vs, d :: ds, ps, ht, ⟨p, q, h1, h2, e⟩, hlt => by
    simp only [List.all_cons, Bool.and_eq_true, decide_eq_true_eq] at ht
    subst e
    exact ⟨p, q, Below.trod hl ht.1.1 ht.1.2 h1 hb fun x hx => hlt x (by simp [hx]), trodAll_stays hl hb ht.2 h2 fun x hx => hlt x (by simp [hx]), rfl⟩
  | [], [], _ :: _, _, _, h, _ => h.elim
  | [], _ :: _, _, _, _, h, _ => by cases ‹List (DataW H)› <;> exact h.elim
  | _ :: _, [], _, _, _, h, _ => by cases ‹List (DataW H)› <;> exact h.elim
  | _ :: _, _ :: _, [], _, _, h, _ => h.elim
theorem trodAll_len {P : Program} {W : World} {base : Nat} {spare : Nat → Bool} {held : Bool} : ∀ {ts : List TypeId} {vs : List Value} {ds : List (DataW H)} {ps : List MemPlace}, DataW.TrodAll enc P W base spare held ts vs ds ps → ds.length = ts.length
  | [], [], [], _, _ => rfl
  | t :: ts, v :: vs, d :: ds, ps, ⟨p, q, h1, h2, e⟩ => by simp [trodAll_len h2]
  | [], [], _ :: _, _, h => h.elim
  | [], _ :: _, _, _, h => by cases ‹List (DataW H)› <;> exact h.elim
  | _ :: _, [], _, _, h => by cases ‹List (DataW H)› <;> exact h.elim
  | _ :: _, _ :: _, [], _, h => h.elim
/-! ### Arguments -/
variable {P : Program} {W : World} {base : Nat} {v : Value} {d : DataW H} {p : List MemPlace}
theorem arg_str {t : TypeId} (ht : P.underlying t = some .string) (hval : Value.okWide P W .any base t v) (h : DataW.Trod enc P W 0 (fun _ => true) true t v d p) : ∃ s, IR W (fun _ => False) (.str s) v ∧ s.size ≤ maxLen := by
  obtain ⟨s0, rfl⟩ := okWide_string ht hval
  obtain ⟨f, g⟩ := h
  obtain ⟨s, hs, hm⟩ := read_str ht g
  exact ⟨s, RdL.single hs, hm⟩
theorem arg_int {t : TypeId} {k : IntKind} (ht : P.underlying t = some (.int k)) (hval : Value.okWide P W .any base t v) (h : DataW.Trod enc P W 0 (fun _ => true) true t v d p) : ∃ n, IR W (fun _ => False) (.int k n) v ∧ (Lit.int k n).wf = true := by
  obtain ⟨s0, rfl⟩ := okWide_int ht hval
  obtain ⟨f, g⟩ := h
  obtain ⟨s, hs, hm⟩ := read_int ht g
  exact ⟨s, RdL.single hs, hm⟩
theorem arg_slice {α : Type} {ea : α → List AV} {t e : TypeId} {k j : Nat} {ts : List TypeId} {ds : List (DataW H)} (hk : ∀ a, (ea a).length = k) (ht : P.underlying t = some (.slice e)) (hc : P.cellsOf e = k) (hk0 : 0 < k) (hby : 1 ≤ P.bytesOf e)
    (hrow : ∀ n cs' y, DataW.trod enc P W 0 (fun _ => true) true n e cs' = some y → ∃ a, RdL W (ea a) cs') (hval : Value.okWide P W .any base t v) (h : DataW.Trod enc P W 0 (fun _ => true) true t v d p)
    (hsz : (DataW.weightsEach P ts ds).all (· ≤ reachBytes) = true) (hj : ts[j]? = some t) (hd : ds[j]? = some d) : ∃ l : List α, IR W (fun _ => False) (.isl .unk (l.map ea)) v ∧ l.length < 4611686018427387904 := by
  obtain ⟨a0, l0, c0, rfl⟩ := okWide_slice ht hval
  obtain ⟨f, g⟩ := h
  obtain ⟨l, hs, _, hn⟩ := read_slice hk ht hc hk0 hrow (fun _ => rfl) g
  refine ⟨l, RdL.single (v := .slice a0 l0 c0) hs, ?_⟩
  have hrb := reachBytes_lt
  rcases hn with ⟨_, q⟩ | ⟨el, sp, q1, q2⟩
  · subst q; simp
  · simp only at q1
    subst q1
    have h := sized_slice hsz hj hd ht
    have := Nat.mul_le_mul_left (el.length + sp.length) hby
    omega
theorem trodAll_five {t t' t'' t3 t4 : TypeId} {args : Array Value} {ds : List (DataW H)} {ps : List MemPlace} {base : Nat} {spare : Nat → Bool} {held : Bool} {w : World} (h : DataW.TrodAll enc P w base spare held [t, t', t'', t3, t4] args.toList ds ps) :
    ∃ v v' v'' v3 v4 d d' d'' d3 d4 p p' p'' p3 p4, args = #[v, v', v'', v3, v4] ∧ ds = [d, d', d'', d3, d4] ∧ ps = p ++ p' ++ p'' ++ p3 ++ p4 ∧ DataW.Trod enc P w base spare held t v d p ∧ DataW.Trod enc P w base spare held t' v' d' p' ∧ DataW.Trod enc P w base spare held t'' v'' d'' p'' ∧
      DataW.Trod enc P w base spare held t3 v3 d3 p3 ∧ DataW.Trod enc P w base spare held t4 v4 d4 p4 := by
  obtain ⟨v, vs, d, ds', p, q, hargs, rfl, rfl, hd, hrest⟩ := trodAll_cons h
  obtain ⟨v', vs', d', ds'', p', q', rfl, rfl, rfl, hd', hrest'⟩ := trodAll_cons hrest
  obtain ⟨v'', vs'', d'', ds''', p'', q'', rfl, rfl, rfl, hd'', hrest''⟩ := trodAll_cons hrest'
  obtain ⟨v3, vs3, d3, ds3, p3, q3, rfl, rfl, rfl, hd3, hrest3⟩ := trodAll_cons hrest''
  obtain ⟨v4, vs4, d4, ds4, p4, q4, rfl, rfl, rfl, hd4, hrest4⟩ := trodAll_cons hrest3
  obtain ⟨rfl, rfl, rfl⟩ := trodAll_nil hrest4
  exact ⟨v, v', v'', v3, v4, d, d', d'', d3, d4, p, p', p'', p3, p4, by cases args; simp_all, rfl, by simp, hd, hd', hd'', hd3, hd4⟩
/-- A law function that returns true at all values. -/
theorem lifted_true {C : Checked} {os : Os} {k : FuncId} {fn : Func} {s : ChangeSpec} {conds : List PathCond} (own : ownKnob C.prog.godebug = none) (started : os.Started) (noInit : C.prog.inits.idxOf? k = none) (hfn : C.prog.funcs[k]? = some fn)
    (hvars : s.vars = []) (hs : ∀ ds : List (DataW H), ds.length = fn.params.size → (s.fn H ds).results = [.lit (.bool true)] ∧ (s.fn H ds).args = ds ∧ (s.fn H ds).vars = []) (hl : laidOutB C.prog = true)
    (hts : fn.params.toList.all (fun t => C.prog.readableRec t && decide (t < C.prog.types.size)) = true) {tb : TypeId} (hrt : fn.resultTypes = #[tb]) (htb : C.prog.underlying tb = some .bool)
    (witness : ∃ (w : World) (tape : Tape) (i : Input), w.os = os ∧ (w.forCall tape i).Shaped C.prog ∧ i.vars = [] ∧ Input.okWide C.prog (w.forCall tape i) .any w.heap.size k i ∧
      s.pre6 enc C.prog fn conds false (w.forCall tape i).memory i.args ∧ ({} : Assume).holds C.prog (lone (Frame.enter C.prog k i.args .normal) [] (w.forCall tape i)))
    (hcall : ∀ (W : World) (base : Nat) (args : Array Value) (ds : List (DataW H)) (p : List MemPlace), (∀ (j : Nat) t v, fn.params[j]? = some t → args[j]? = some v → Value.okWide C.prog W .any base t v) →
      DataW.TrodAll enc C.prog W 0 (fun _ => true) true fn.params.toList args.toList ds p → (DataW.weightsEach C.prog fn.params.toList ds).all (· ≤ reachBytes) = true →
      ∃ avs : List AV, args.size = avs.length ∧ (∀ m (h1 : m < avs.length) (h2 : m < args.size), IR W (fun _ => False) avs[m] args[m]) ∧ PureP C.prog k avs (· = .bool true)) :
    ReturnsInHanded {} C os k .any (s.pre6 enc C.prog fn conds false) (s.post enc C.prog fn false true false false) := by
  refine returnsInHanded_of_change_sized (C := C) own started noInit hfn witness ?_
  intro W base args ds gs before hval hW _ hsz _
  have hW' := hW
  obtain ⟨p, q, hA, hV, rfl, _, _⟩ := hW
  have hvt : s.plain.varTypes C.prog = [] := by unfold ChangeSpec.plain DataSpec.varTypes; rw [hvars]; rfl
  have hV0 := hV
  rw [hvars] at hV0
  obtain ⟨rfl, rfl⟩ := trodVars_none hV0
  simp only [List.append_nil, hvt] at hW' hsz
  obtain ⟨avs, h1, h2, h3⟩ := hcall W base args ds p hval hA hsz
  have hlt : ∀ x ∈ p, x.block < W.heap.size := fun x hx => by simpa using hW'.lt x (by simpa using hx)
  refine (PureP.calls h3 h1 h2).mono ?_
  rintro e W' ⟨rfl, hnx⟩
  obtain ⟨e1, e2, e3⟩ := hs ds (by rw [trodAll_len hA]; simp)
  refine ⟨_, rfl, ds, [], p, [], p, [], by simpa using hW', ?_, ?_, ?_, by simpa using hnx.frame _, fun h => by cases h⟩
  · rw [List.append_nil, e1, hrt]
    exact trodAll_mk1 (shut_bool htb true)
  · rw [List.append_nil, e2]
    exact trodAll_stays hl hnx hts hA hlt
  · rw [List.append_nil, e3, hvars]
    rfl
end
end Go.Aw
end
