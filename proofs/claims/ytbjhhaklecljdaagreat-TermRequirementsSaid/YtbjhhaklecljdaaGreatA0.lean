/-
  The machinery: abstract values, an abstract heap of own objects, the relation to the machine, and the rules by which a function is walked. It holds of every program.
-/
import Derived.Calls
import Derived.Below
import Derived.OwnWalk
import Derived.Maps.AppendAt
import Derived.MapKept
import Derived.Laws.StructEq
section
set_option linter.unusedVariables false
set_option linter.unusedSimpArgs false
namespace Go.Aw

/-- What is known of a slice's capacity: nothing; it is the length; the slice is nil. -/
inductive Flag where
  | unk | full | nil
  deriving DecidableEq

/-- Abstract values. 'isl': a slice whose cells nobody writes, by its elements' cells; 'iptr': the address of such cells; 'ptr', 'sl', 'map': into an object of the call's own. -/
inductive AV where
  | undef
  | int (k : IntKind) (n : Int)
  | bool (b : Bool)
  | str (s : ByteArray)
  | nilp
  | ptr (o i j : Nat)
  | iptr (cs : List AV)
  | isl (f : Flag) (xs : List (List AV))
  | sl (o off len : Nat) (full : Bool)
  | agg (cs : List AV)
  | tup (vs : List AV)
  | func (fn : Fn) (first captured : List AV)
  | nilfunc
  | map (o : Nat)
  | nilmap
  | miter (o : Nat)

instance : Inhabited AV := ⟨.undef⟩

/-- Where a row of the call's own lies: its block, the cell at which it begins, the cells of an element, how many elements have room. -/
structure Loc where
  blk : Nat
  c0 : Nat
  k : Nat
  cap : Nat

/-- Values that lead to nothing of the call's own. O: the blocks of the call's own. -/
inductive IR (w : World) (O : Nat → Prop) : AV → Value → Prop where
  | int (k n) : IR w O (.int k n) (.int k n)
  | bool (b) : IR w O (.bool b) (.bool b)
  | str (s) : IR w O (.str s) (.string s)
  | nilp : IR w O .nilp (.pointer none)
  | nilfunc : IR w O .nilfunc .nilFunc
  | nilmap : IR w O .nilmap (.map none)
  | iptr (cs : List AV) (b c : Nat) (vs : List Value) (hl : vs.length = cs.length) (hO : ¬ O b) (hlt : b < w.heap.size)
      (hc : ∀ m (h : m < vs.length), w.cell? ⟨b, c + m, none⟩ = some vs[m]) (h1c : ∀ v ∈ vs, v.oneCell' = true) (h : ∀ m (h1 : m < cs.length) (h2 : m < vs.length), IR w O cs[m] vs[m]) :
      IR w O (.iptr cs) (.pointer (some ⟨b, c, none⟩))
  | isl (f : Flag) (xs : List (List AV)) (A : Option Addr) (cap k : Nat) (hcap : xs.length ≤ cap) (hmax : cap ≤ maxLen) (hk : ∀ x ∈ xs, x.length = k)
      (hf : f = .full → cap = xs.length) (hn : f = .nil → A = none ∧ cap = 0)
      (hA : 0 < xs.length → ∃ b c, A = some ⟨b, c, none⟩ ∧ ¬ O b ∧ b < w.heap.size)
      (vs : Nat → Nat → Value) (h1c : ∀ i j, i < xs.length → j < k → (vs i j).oneCell' = true)
      (hc : ∀ b c, A = some ⟨b, c, none⟩ → ∀ i j, i < xs.length → j < k → w.cell? ⟨b, c + i * k + j, none⟩ = some (vs i j))
      (h : ∀ i j (h1 : i < xs.length) (h2 : j < xs[i].length), IR w O xs[i][j] (vs i j)) :
      IR w O (.isl f xs) (.slice A xs.length cap)
  | agg (cs : List AV) (vs : Array Value) (hl : vs.size = cs.length) (h1c : ∀ m (h : m < vs.size), vs[m].oneCell' = true) (h : ∀ m (h1 : m < cs.length) (h2 : m < vs.size), IR w O cs[m] vs[m]) : IR w O (.agg cs) (.agg vs)
  | tup (cs : List AV) (vs : Array Value) (hl : vs.size = cs.length) (h : ∀ m (h1 : m < cs.length) (h2 : m < vs.size), IR w O cs[m] vs[m]) : IR w O (.tup cs) (.tuple vs)
  | func (fn : Fn) (xs ys : List AV) (us vs : Array Value) (hl1 : us.size = xs.length) (hl2 : vs.size = ys.length)
      (h1 : ∀ m (h1 : m < xs.length) (h2 : m < us.size), IR w O xs[m] us[m]) (h2 : ∀ m (h1 : m < ys.length) (h2 : m < vs.size), IR w O ys[m] vs[m]) :
      IR w O (.func fn xs ys) (.func fn us vs)

/-- What is outside of the call's own blocks lies as it lay. -/
structure Same (O : Nat → Prop) (w w' : World) : Prop where
  size : w.heap.size ≤ w'.heap.size
  block : ∀ b, b < w.heap.size → ¬ O b → w'.heap[b]? = w.heap[b]?

theorem cell_lt {w : World} {a : Addr} {v : Value} (h : w.cell? a = some v) : a.block < w.heap.size := by
  unfold World.cell? at h
  rcases Nat.lt_or_ge a.block w.heap.size with h1 | h1
  · exact h1
  · rw [Array.getElem?_eq_none h1] at h
    exact absurd h (by simp)

theorem cell_of_block {w w' : World} {a : Addr} (h : w'.heap[a.block]? = w.heap[a.block]?) : w'.cell? a = w.cell? a := by
  unfold World.cell?
  rw [h]

theorem IR.mono {w w' : World} {O O' : Nat → Prop} {a : AV} {v : Value} (h : IR w O a v) (hs : Same O w w') (hO : ∀ b, b < w.heap.size → O' b → O b) : IR w' O' a v := by
  induction h with
  | int k n => exact .int k n
  | bool b => exact .bool b
  | str s => exact .str s
  | nilp => exact .nilp
  | nilfunc => exact .nilfunc
  | nilmap => exact .nilmap
  | iptr cs b c vs hl hO1 hb hc h1c h ih =>
    refine .iptr cs b c vs hl (fun hb' => hO1 (hO b hb hb')) (Nat.lt_of_lt_of_le hb hs.size) (fun m hm => ?_) h1c ih
    rw [cell_of_block (a := ⟨b, c + m, none⟩) (hs.block b hb hO1)]
    exact hc m hm
  | isl f xs A cap k hcap hmax hk hf hn hA vs h1c hc h ih =>
    refine .isl f xs A cap k hcap hmax hk hf hn (fun h0 => ?_) vs h1c (fun b c hbc i j hi hj => ?_) ih
    · obtain ⟨b, c, e, hb, hlt⟩ := hA h0
      exact ⟨b, c, e, fun h' => hb (hO b hlt h'), Nat.lt_of_lt_of_le hlt hs.size⟩
    · obtain ⟨b', c', e, hb, hlt⟩ := hA (by omega)
      rw [hbc] at e
      injection e with e
      injection e with e1 e2
      subst e1
      rw [cell_of_block (a := ⟨b, c + i * k + j, none⟩) (hs.block b hlt hb)]
      exact hc b c hbc i j hi hj
  | agg cs vs hl h1c h ih => exact .agg cs vs hl h1c ih
  | tup cs vs hl h ih => exact .tup cs vs hl ih
  | func fn xs ys us vs hl1 hl2 h1 h2 ih1 ih2 => exact .func fn xs ys us vs hl1 hl2 ih1 ih2

/-- Abstract values in a state: what may lead to the call's own objects. β: where an object lies (none: a row that is nil). -/
inductive VR (w : World) (O : Nat → Prop) (β : Nat → Option Loc) : AV → Value → Prop where
  | imm {a v} (h : IR w O a v) : VR w O β a v
  | undef (v) : VR w O β .undef v
  | ptr (o i j l) (h : β o = some l) : VR w O β (.ptr o i j) (.pointer (some ⟨l.blk, l.c0 + i * l.k + j, none⟩))
  | sl (o off len full l cap A) (h : β o = some l) (hle : len ≤ cap) (hcap : off + cap ≤ l.cap) (hfull : full = true → cap = len) (hun : full = false → off + cap = l.cap)
      (hA : 0 < cap → A = some ⟨l.blk, l.c0 + off * l.k, none⟩) : VR w O β (.sl o off len full) (.slice A len cap)
  | nilrow (o full A) (h : β o = none) : VR w O β (.sl o 0 0 full) (.slice A 0 0)
  | map (o l) (h : β o = some l) : VR w O β (.map o) (.map (some l.blk))
  | miter (o l) (h : β o = some l) : VR w O β (.miter o) (.pointer (some ⟨l.blk, 0, none⟩))
  | agg (cs : List AV) (vs : Array Value) (hl : vs.size = cs.length) (h1c : ∀ m (h : m < vs.size), vs[m].oneCell' = true) (h : ∀ m (h1 : m < cs.length) (h2 : m < vs.size), VR w O β cs[m] vs[m]) : VR w O β (.agg cs) (.agg vs)
  | tup (cs : List AV) (vs : Array Value) (hl : vs.size = cs.length) (h : ∀ m (h1 : m < cs.length) (h2 : m < vs.size), VR w O β cs[m] vs[m]) : VR w O β (.tup cs) (.tuple vs)
  | func (fn : Fn) (xs ys : List AV) (us vs : Array Value) (hl1 : us.size = xs.length) (hl2 : vs.size = ys.length)
      (h1 : ∀ m (h1 : m < xs.length) (h2 : m < us.size), VR w O β xs[m] us[m]) (h2 : ∀ m (h1 : m < ys.length) (h2 : m < vs.size), VR w O β ys[m] vs[m]) :
      VR w O β (.func fn xs ys) (.func fn us vs)

mutual
/-- The value leads to object o. -/
def AV.has (o : Nat) : AV → Bool
  | .ptr p _ _ => p == o
  | .sl p _ _ _ => p == o
  | .map p => p == o
  | .miter p => p == o
  | .agg cs => AV.hasL o cs
  | .tup cs => AV.hasL o cs
  | .func _ xs ys => AV.hasL o xs || AV.hasL o ys
  | _ => false
def AV.hasL (o : Nat) : List AV → Bool
  | [] => false
  | x :: xs => AV.has o x || AV.hasL o xs
end

theorem AV.hasL_get {o : Nat} : ∀ {cs : List AV} (m : Nat) (h : m < cs.length), AV.has o cs[m] = true → AV.hasL o cs = true
  | x :: xs, 0, _, h => by simp only [List.getElem_cons_zero] at h; simp [AV.hasL, h]
  | x :: xs, m + 1, hm, h => by
    have := AV.hasL_get (cs := xs) m (by simpa using hm) (by simpa using h)
    simp [AV.hasL, this]

theorem VR.mono {w w' : World} {O O' : Nat → Prop} {β β' : Nat → Option Loc} {a : AV} {v : Value} (h : VR w O β a v) (hs : Same O w w')
    (hO : ∀ b, b < w.heap.size → O' b → O b) (hβ : ∀ o, a.has o = true → β' o = β o) : VR w' O' β' a v := by
  induction h with
  | imm h => exact .imm (h.mono hs hO)
  | undef v => exact .undef v
  | ptr o i j l h => exact .ptr o i j l (by rw [hβ o (by simp [AV.has])]; exact h)
  | sl o off len full l cap A h h1 h2 h3 h4 h5 => exact .sl o off len full l cap A (by rw [hβ o (by simp [AV.has])]; exact h) h1 h2 h3 h4 h5
  | nilrow o full A h => exact .nilrow o full A (by rw [hβ o (by simp [AV.has])]; exact h)
  | map o l h => exact .map o l (by rw [hβ o (by simp [AV.has])]; exact h)
  | miter o l h => exact .miter o l (by rw [hβ o (by simp [AV.has])]; exact h)
  | agg cs vs hl h1c h ih => exact .agg cs vs hl h1c fun m h1 h2 => ih m h1 h2 fun o ho => hβ o (by simp only [AV.has]; exact AV.hasL_get m h1 ho)
  | tup cs vs hl h ih => exact .tup cs vs hl fun m h1 h2 => ih m h1 h2 fun o ho => hβ o (by simp only [AV.has]; exact AV.hasL_get m h1 ho)
  | func fn xs ys us vs hl1 hl2 h1 h2 ih1 ih2 =>
    exact .func fn xs ys us vs hl1 hl2 (fun m g1 g2 => ih1 m g1 g2 fun o ho => hβ o (by simp only [AV.has, AV.hasL_get m g1 ho, Bool.true_or]))
      (fun m g1 g2 => ih2 m g1 g2 fun o ho => hβ o (by simp only [AV.has, AV.hasL_get m g1 ho, Bool.or_true]))

/-- Objects of the call's own. -/
inductive AObj where
  | row (e k : Nat) (xs : List (List AV))
  | map (clock : Nat) (es : List (Nat × AV × AV))
  | miter (m : Option Nat) (since : Nat) (seen : List Nat) (stepped : Nat)

def AV.hasLL (o : Nat) : List (List AV) → Bool
  | [] => false
  | x :: xs => AV.hasL o x || AV.hasLL o xs
def AV.hasP (o : Nat) : List (Nat × AV × AV) → Bool
  | [] => false
  | x :: xs => x.2.1.has o || x.2.2.has o || AV.hasP o xs
def AObj.has (o : Nat) : AObj → Bool
  | .row _ _ xs => AV.hasLL o xs
  | .map _ es => AV.hasP o es
  | .miter m _ _ _ => m == some o

/-- What an object says of the memory at its place. -/
def RowR (w : World) (O : Nat → Prop) (β : Nat → Option Loc) (e k : Nat) (xs : List (List AV)) : Option Loc → Prop
  | none => xs = []
  | some l => l.k = k ∧ xs.length ≤ l.cap ∧ l.cap ≤ maxLen ∧ (∀ x ∈ xs, x.length = k) ∧ ∃ cur, w.heap[l.blk]? = some (.cells cur e (0, 0)) ∧ l.c0 + l.cap * k ≤ cur.size ∧
      (∀ (m : Nat) (h : m < cur.size), (cur[m]).oneCell' = true) ∧
      ∀ i j (h1 : i < xs.length) (h2 : j < xs[i].length), ∃ v, cur[l.c0 + i * k + j]? = some v ∧ VR w O β xs[i][j] v

/-- A map's entries. -/
def MapR (w : World) (O : Nat → Prop) (β : Nat → Option Loc) (clock : Nat) (es : List (Nat × AV × AV)) : Option Loc → Prop
  | none => False
  | some l => ∃ arr : Array MapEntry, w.heap[l.blk]? = some (.map arr clock) ∧ arr.size = es.length ∧
      ∀ i (h1 : i < es.length) (h2 : i < arr.size), arr[i].born = es[i].1 ∧ VR w O β es[i].2.1 arr[i].key ∧ VR w O β es[i].2.2 arr[i].val

/-- The map that an iterator ranges over. -/
def IterM (β : Nat → Option Loc) (m mb : Option Nat) : Prop :=
  match m with
  | none => mb = none
  | some o => ∃ l', β o = some l' ∧ mb = some l'.blk

/-- An iterator over a map. -/
def IterR (w : World) (β : Nat → Option Loc) (m : Option Nat) (since : Nat) (seen : List Nat) (stepped : Nat) : Option Loc → Prop
  | none => False
  | some l => ∃ mb, w.heap[l.blk]? = some (.mapIter mb since seen.toArray stepped) ∧ IterM β m mb

end Go.Aw
end
section
set_option linter.unusedVariables false
set_option linter.unusedSimpArgs false
namespace Go.Aw

abbrev Hp := Nat → Option AObj

structure St where
  env : Nat → AV
  heap : Hp

def updE (e : Nat → AV) (t : Nat) (v : AV) : Nat → AV := fun s => if s = t then v else e s
def updH (h : Hp) (o : Nat) (x : Option AObj) : Hp := fun p => if p = o then x else h p
def mkE : List (Nat × AV) → Nat → AV
  | [], _ => .undef
  | (t, v) :: l, s => if s = t then v else mkE l s
def mkH : List (Nat × AObj) → Hp
  | [], _ => none
  | (o, x) :: l, p => if p = o then some x else mkH l p
theorem updE_mk (l : List (Nat × AV)) (t : Nat) (v : AV) : updE (mkE l) t v = mkE ((t, v) :: l) := rfl
theorem updH_mk (l : List (Nat × AObj)) (o : Nat) (x : AObj) : updH (mkH l) o (some x) = mkH ((o, x) :: l) := rfl
def St.put (st : St) (dst : Option Nat) (v : AV) : St :=
  match dst with
  | some d => ⟨updE st.env d v, st.heap⟩
  | none => st

/-- Programs on abstract objects. -/
inductive AM (α : Type) where
  | pure (a : α)
  | fail
  | guard (c : Prop) (k : AM α)
  | get (o : Nat) (k : AObj → AM α)
  | put (o : Nat) (x : AObj) (k : AM α)
  | new (x : AObj) (k : Nat → AM α)
  | del (o : Nat) (k : AM α)

/-- n: the name of what is made; fr: that it is free. -/
def AM.wp {α : Type} (n : Nat) (fr : Prop) : AM α → Hp → (α → Hp → Prop) → Prop
  | .pure a, h, Q => Q a h
  | .fail, _, _ => False
  | .guard c k, h, Q => c ∧ k.wp n fr h Q
  | .get o k, h, Q => match h o with
    | some x => (k x).wp n fr h Q
    | none => False
  | .put o x k, h, Q => (h o).isSome ∧ k.wp n fr (updH h o (some x)) Q
  | .new x k, h, Q => fr ∧ x.has n = false ∧ (k n).wp n fr (updH h n (some x)) Q
  | .del o k, h, Q => k.wp n fr (updH h o none) Q

/-- A constant. -/
def ofScalar : Value → AV
  | .int k n => .int k n
  | .bool b => .bool b
  | .string s => .str s
  | .pointer none => .nilp
  | .slice none 0 0 => .isl .nil []
  | .nilFunc => .nilfunc
  | .map none => .nilmap
  | _ => .undef
def ofValue : Value → AV
  | .agg cs => if cs.all (fun c => c.oneCell') then .agg (cs.toList.map ofScalar) else .undef
  | .func f us vs => if us.size = 0 ∧ vs.size = 0 then .func f [] [] else .undef
  | v => ofScalar v

def rho (e : Nat → AV) : Operand → AV
  | .tmp t => e t
  | .const v => ofValue v
  | .global _ => .undef
  | .func f => .func (.func f) [] []

/-- A value's cells. -/
def AV.cells : AV → Option (List AV)
  | .agg cs => some cs
  | .tup _ => none
  | .undef => none
  | v => some [v]

/-- Types. -/
def tSize (P : Program) (t : TypeId) : Option Nat := (P.info? t).map (·.size)
def tZero (P : Program) (t : TypeId) : Option (List AV) :=
  match (P.info? t).bind (·.zero) with
  | some z => (ofValue z).cells
  | none => none
def tAgg (P : Program) (t : TypeId) : Option Bool :=
  match P.underlying t with
  | some (.struct _) | some (.array _ _) => some true
  | some _ => some false
  | none => none
def tElem (P : Program) (t : TypeId) : Option TypeId :=
  match P.underlying t with
  | some (.slice e) => some e
  | _ => none
/-- What a type is. -/
inductive TK where
  | struct | arr (n el : Nat) | slice (el : Nat) | str | int (k : IntKind) | bool | map (k v : Nat) | other
def tKind (P : Program) (t : TypeId) : Option TK :=
  match P.underlying t with
  | some (.struct _) => some .struct
  | some (.array n e) => some (.arr n e)
  | some (.slice e) => some (.slice e)
  | some .string => some .str
  | some (.int k) => some (.int k)
  | some .bool => some .bool
  | some (.map k v) => some (.map k v)
  | some _ => some .other
  | none => none
/-- All its fields' sizes are known. -/
def tFieldsOk (P : Program) (t : TypeId) : Bool :=
  match P.underlying t with
  | some (.struct fs) => fs.all fun f => (tSize P f.type).isSome
  | _ => false
/-- A field's type. -/
def tFieldT (P : Program) (t : TypeId) (f : Nat) : Option TypeId :=
  match P.underlying t with
  | some (.struct fs) => (fs[f]?).map (·.type)
  | _ => none
/-- A field: where it begins, its cells. -/
def tField (P : Program) (t : TypeId) (f : Nat) : Option (Nat × Nat) :=
  match P.underlying t with
  | some (.struct fs) => (fs[f]?).bind fun fd => (tSize P fd.type).map fun s => (fd.offset, s)
  | _ => none

/-- A part of some cells as a value of a type. -/
def partOf (agg : Bool) (s off : Nat) (cs : List AV) : AV := if agg then .agg ((cs.drop off).take s) else cs.getD off .undef
/-- Some cells with others in place of those from off on. -/
def splice (cs : List AV) (off : Nat) (vs : List AV) : List AV := cs.take off ++ vs ++ cs.drop (off + vs.length)

def abin (op : BinOp) (x y : AV) : AM AV :=
  match x, y with
  | .int k a, .int k' b => .guard (k = k') <|
    match op with
    | .add => .pure (.int k (k.wrap (a + b)))
    | .sub => .pure (.int k (k.wrap (a - b)))
    | .mul => .pure (.int k (k.wrap (a * b)))
    | .quo => .guard (b ≠ 0) (.pure (.int k (k.wrap (a.tdiv b))))
    | .rem => .guard (b ≠ 0) (.pure (.int k (a.tmod b)))
    | .eql => .pure (.bool (decide (a = b)))
    | .neq => .pure (.bool (!decide (a = b)))
    | .lss => .pure (.bool (decide (a < b)))
    | .leq => .pure (.bool (decide (a ≤ b)))
    | .gtr => .pure (.bool (decide (b < a)))
    | .geq => .pure (.bool (decide (b ≤ a)))
    | _ => .fail
  | .str a, .str b =>
    match op with
    | .add => .guard (a.size + b.size ≤ 9223372036854775807) (.pure (.str (a ++ b)))
    | .eql => .pure (.bool (a.toList == b.toList))
    | .neq => .pure (.bool (!(a.toList == b.toList)))
    | .lss => .pure (.bool (Op.bytesLess a.toList b.toList))
    | .leq => .pure (.bool (Op.bytesLess a.toList b.toList || a.toList == b.toList))
    | .gtr => .pure (.bool (!(Op.bytesLess a.toList b.toList || a.toList == b.toList)))
    | .geq => .pure (.bool (!Op.bytesLess a.toList b.toList))
    | _ => .fail
  | _, _ => .fail

def AV.leaf : AV → Bool
  | .int _ _ | .bool _ | .str _ | .nilp | .nilfunc | .nilmap | .iptr _ | .isl _ _ => true
  | _ => false
def AV.leafL : List AV → Bool
  | [] => true
  | x :: xs => x.leaf && AV.leafL xs
def AV.leafLL : List (List AV) → Bool
  | [] => true
  | x :: xs => AV.leafL x && AV.leafLL xs

/-- The address of some cells. -/
def aload (P : Program) (t : TypeId) (p : AV) : AM AV :=
  match tSize P t, tAgg P t with
  | some s, some g =>
    .guard (0 < s) <| .guard (g = false → s = 1) <|
    match p with
    | .ptr o i j => .get o fun
      | .row _ k xs => .guard (i < xs.length ∧ j + s ≤ k) (.pure (partOf g s j (xs.getD i [])))
      | _ => .fail
    | .iptr cs => .guard (s ≤ cs.length ∧ AV.leafL cs = true) (.pure (partOf g s 0 cs))
    | _ => .fail
  | _, _ => .fail

def astore (P : Program) (t : TypeId) (p x : AV) : AM AV :=
  match tSize P t, x.cells with
  | some s, some vs =>
    .guard (vs.length = s) <|
    match p with
    | .ptr o i j => .get o fun
      | .row e k xs => .guard (i < xs.length ∧ j + s ≤ k) (.put o (.row e k (xs.set i (splice (xs.getD i []) j vs))) (.pure .undef))
      | _ => .fail
    | _ => .fail
  | _, _ => .fail

def tBytes (P : Program) (t : TypeId) : Option Nat := (P.info? t).map (·.bytes)
def lenAll (k : Nat) (ys : List (List AV)) : Prop := ∀ y ∈ ys, y.length = k

/-- The elements of a slice. -/
def asrc {α : Type} (x : AV) (k : List (List AV) → AM α) : AM α :=
  match x with
  | .isl _ ys => .guard (AV.leafLL ys = true) (k ys)
  | .sl o off len _ => .get o fun
    | .row _ _ xs => .guard (off + len ≤ xs.length) (k ((xs.drop off).take len))
    | _ => .fail
  | _ => .fail

def aappendTo (e k by_ : Nat) (s : AV) (ys : List (List AV)) : AM AV :=
  match s with
  | .isl f xs => .guard (f ≠ .unk ∧ AV.leafLL xs = true) <| .guard (xs = [] ∨ 0 < ys.length) <| .guard (lenAll k xs) <| .guard ((xs.length + ys.length) * by_ ≤ 140737488355328) <|
    .new (.row e k (xs ++ ys)) fun n => .pure (.sl n 0 (xs.length + ys.length) false)
  | .sl o off len full => .get o fun
    | .row e' k' xs => .guard (e' = e ∧ k' = k) <| .guard ((len + ys.length) * by_ ≤ 140737488355328) <|
      if full then .guard (0 < ys.length ∧ off + len ≤ xs.length) <| .new (.row e k ((xs.drop off).take len ++ ys)) fun n => .pure (.sl n 0 (len + ys.length) false)
      else if off + len = xs.length then .del o <| .new (.row e k (xs.drop off ++ ys)) fun n => .pure (.sl n 0 (len + ys.length) false)
      else .guard (off + len + ys.length ≤ xs.length) <| .put o (.row e k (xs.take (off + len) ++ ys ++ xs.drop (off + len + ys.length))) (.pure (.sl o off (len + ys.length) false))
    | _ => .fail
  | _ => .fail

def aappend (P : Program) (t xt : TypeId) (s x : AV) : AM AV :=
  match tElem P t, tElem P xt with
  | some e, some _ =>
    match tSize P e, tBytes P e, tZero P e with
    | some k, some by_, some z => .guard (0 < by_ ∧ z.length = k) <| asrc x fun ys => .guard (lenAll k ys) <| aappendTo e k by_ s ys
    | _, _, _ => .fail
  | _, _ => .fail

def aindex (P : Program) (el : TypeId) (x ix : AV) : AM AV :=
  match x, ix with
  | .sl o off len _, .int _ i => (match tSize P el with
    | some s => .get o fun
      | .row _ k _ => .guard (k = s) <| .guard (0 ≤ i ∧ i < len) (.pure (.ptr o (off + i.toNat) 0))
      | _ => .fail
    | none => .fail)
  | .isl _ xs, .int _ i => (match tSize P el with
    | some s => .guard (0 ≤ i ∧ i < xs.length) <| .guard ((xs.getD i.toNat []).length = s) (.pure (.iptr (xs.getD i.toNat [])))
    | none => .fail)
  | _, _ => .fail

/-- A number among an operation's own. -/
def intOf (x : Option AV) (d : Int) : Option Int :=
  match x with
  | none => some d
  | some (.int _ n) => some n
  | _ => none

def aslice (P : Program) (t : TypeId) (x : AV) (lo hi mx : Option AV) : AM AV :=
  .guard (mx.isSome = true → hi.isSome = true) <|
  match tKind P t, x with
  | some .str, .str s => match intOf lo 0, intOf hi s.size, mx with
    | some l, some h, none => .guard (0 ≤ l ∧ l ≤ h ∧ h ≤ s.size) (.pure (.str (s.extract l.toNat h.toNat)))
    | _, _, _ => .fail
  | some (.slice e), .isl f xs => match intOf lo 0, intOf hi xs.length, intOf mx 0 with
    | some l, some h, some m => .guard (∃ s, tSize P e = some s ∧ lenAll s xs) <| .guard (0 ≤ l ∧ l ≤ h ∧ h ≤ xs.length) <|
      if mx.isSome then .guard (h ≤ m ∧ m ≤ xs.length) (.pure (.isl (if m = h then .full else .unk) ((xs.drop l.toNat).take (h - l).toNat)))
      else .pure (.isl (if f = .nil then .nil else if f = .full ∧ h = xs.length then .full else .unk) ((xs.drop l.toNat).take (h - l).toNat))
    | _, _, _ => .fail
  | some (.slice e), .sl o off len full => match intOf lo 0, intOf hi len, intOf mx 0, tSize P e with
    | some l, some h, some m, some s => .get o fun
      | .row _ k xs => .guard (k = s) <| .guard (0 ≤ l ∧ l ≤ h ∧ (h ≤ len ∨ (full = false ∧ off + h ≤ xs.length))) <|
        if mx.isSome then (if h = m then .pure (.sl o (off + l.toNat) (h - l).toNat true) else .guard (h ≤ m ∧ m ≤ len) (.pure .undef))
        else .guard (full = true → h = len) (.pure (.sl o (off + l.toNat) (h - l).toNat full))
      | _ => .fail
    | _, _, _, _ => .fail
  | _, _ => .fail

/-- Parts laid into some cells. -/
def abuild (place : Nat → Option (Nat × Nat)) : List AV → List (Nat × AV) → Option (List AV)
  | cs, [] => some cs
  | cs, (i, v) :: r =>
    match place i, v.cells with
    | some (off, s), some vs => if vs.length = s ∧ off + s ≤ cs.length then abuild place (splice cs off vs) r else none
    | _, _ => none

/-- Parts laid as elements. -/
def abuildSlice (k : Nat) : List (List AV) → List (Nat × AV) → Option (List (List AV))
  | xs, [] => some xs
  | xs, (i, v) :: r =>
    match v.cells with
    | some vs => if vs.length = k ∧ i < xs.length then abuildSlice k (xs.set i vs) r else none
    | _ => none

def aparts (e : Nat → AV) (ps : Array (Nat × Operand)) : List (Nat × AV) := ps.toList.map fun p => (p.1, rho e p.2)

/-! ### Equality -/
def flatFields (f : TypeId → Option (List TK)) (P : Program) : Nat → List Field → Option (List TK)
  | _, [] => some []
  | off, fd :: fs =>
    if fd.name ≠ "_" ∧ fd.offset = off then
      match f fd.type with
      | some l => if tSize P fd.type = some l.length ∧ l ≠ [] then
          match flatFields f P (off + l.length) fs with
          | some r => some (l ++ r)
          | none => none
        else none
      | none => none
    else none
/-- A type whose values are compared cell by cell. -/
def tFlat (P : Program) : Nat → TypeId → Option (List TK)
  | 0, _ => none
  | d + 1, t => match P.underlying t with
    | some (.int k) => some [.int k]
    | some .string => some [.str]
    | some .bool => some [.bool]
    | some (.struct fs) => if P.stoodInHeld t then none else flatFields (tFlat P d) P 0 fs.toList
    | _ => none
def tEq (P : Program) (t : TypeId) : Option (List TK) :=
  if P.eqGuardType P.depth t then none else match P.underlying t with
    | some (.struct _) => tFlat P 20 t
    | _ => none
def tNil (P : Program) (t : TypeId) : Nat :=
  match P.underlying t with
  | some (.slice _) => 1
  | some (.pointer _) => 2
  | some (.map _ _) => 3
  | some (.func _ _ _) => 4
  | some .bool => 5
  | _ => 0

/-- Two keys are the same. -/
def sameK : AV → AV → Option Bool
  | .int k a, .int k' b => if k = k' then some (decide (a = b)) else none
  | .str a, .str b => some (decide (a = b))
  | .bool a, .bool b => some (decide (a = b))
  | _, _ => none
def sameL : List AV → List AV → Option Bool
  | [], [] => some true
  | a :: as, b :: bs => match sameK a b, sameL as bs with
    | some x, some y => some (x && y)
    | _, _ => none
  | _, _ => none
def keyOk : TK → AV → Bool
  | .int k, .int k' _ => decide (k = k')
  | .str, .str _ => true
  | .bool, .bool _ => true
  | _, _ => false
def keysOk : List TK → List AV → Bool
  | [], [] => true
  | k :: ks, a :: as => keyOk k a && keysOk ks as
  | _, _ => false
/-- Is it nil? -/
def anil : AV → Option (Nat × Bool)
  | .isl .nil [] => some (1, true)
  | .isl _ (_ :: _) => some (1, false)
  | .sl _ _ (_ + 1) _ => some (1, false)
  | .nilp => some (2, true)
  | .ptr _ _ _ | .iptr _ => some (2, false)
  | .nilmap => some (3, true)
  | .map _ => some (3, false)
  | .nilfunc => some (4, true)
  | .func _ _ _ => some (4, false)
  | _ => none
def abits (op : BinOp) (x y : AV) : AM AV :=
  match x, y with
  | .int k a, .int k' b => match op with
    | .shl => .guard (0 ≤ b) (.pure (.int k (k.wrap (a * 2 ^ min b.toNat k.bits))))
    | .shr => .guard (0 ≤ b) (.pure (.int k (a.fdiv (2 ^ min b.toNat k.bits))))
    | .and => .guard (k = k') (.pure (.int k (k.wrap (BitVec.ofInt k.bits a &&& BitVec.ofInt k.bits b).toNat)))
    | .or => .guard (k = k') (.pure (.int k (k.wrap (BitVec.ofInt k.bits a ||| BitVec.ofInt k.bits b).toNat)))
    | .xor => .guard (k = k') (.pure (.int k (k.wrap (BitVec.ofInt k.bits a ^^^ BitVec.ofInt k.bits b).toNat)))
    | _ => .fail
  | _, _ => .fail
def aeqs (P : Program) (t : TypeId) (x y : AV) : Option Bool :=
  match x, y with
  | .bool a, .bool b => if tNil P t = 5 then some (a == b) else none
  | .agg cs, .agg ds => match tEq P t with
    | some ks => if keysOk ks cs = true ∧ keysOk ks ds = true then sameL cs ds else none
    | none => none
  | x, y => match anil x, anil y with
    | some (i, b), some (j, true) => if i = j ∧ tNil P t = i then some b else none
    | _, _ => none
def abinT (P : Program) (t : TypeId) (op : BinOp) (x y : AV) : AM AV :=
  match op with
  | .shl | .shr | .and | .or | .xor | .andNot => abits op x y
  | .eql => match x, y with
    | .int _ _, .int _ _ | .str _, .str _ => abin .eql x y
    | _, _ => match aeqs P t x y with
      | some b => .pure (.bool b)
      | none => .fail
  | .neq => match x, y with
    | .int _ _, .int _ _ | .str _, .str _ => abin .neq x y
    | _, _ => match aeqs P t x y with
      | some b => .pure (.bool (!b))
      | none => .fail
  | op => abin op x y

/-! ### Maps -/
/-- A key's entry: where it stands, its value. -/
def findK (k : AV) : List (Nat × AV × AV) → Nat → Option (Option (Nat × AV))
  | [], _ => some none
  | e :: es, i => match sameK k e.2.1 with
    | some true => some (some (i, e.2.2))
    | some false => findK k es (i + 1)
    | none => none
/-- The zero value. -/
def tZeroV (P : Program) (t : TypeId) : Option AV := ((P.info? t).bind (·.zero)).map ofValue
def withMap (x : AV) (k : List (Nat × AV × AV) → AM AV) : AM AV :=
  match x with
  | .nilmap => k []
  | .map o => .get o fun
    | .map _ es => k es
    | _ => .fail
  | _ => .fail
def tMapKV (P : Program) (t : TypeId) : Option (TypeId × TypeId) :=
  match P.underlying t with
  | some (.map k v) => some (k, v)
  | _ => none
def alookup (P : Program) (t : TypeId) (m k : AV) (ok : Bool) : AM AV :=
  match tMapKV P t with
  | some (kt, vt) => match tKind P kt, tZeroV P vt with
    | some kk, some z => .guard (keyOk kk k = true) <| withMap m fun es => match findK k es 0 with
      | some (some (_, v)) => .pure (if ok then .tup [v, .bool true] else v)
      | some none => .pure (if ok then .tup [z, .bool false] else z)
      | none => .fail
    | _, _ => .fail
  | none => .fail
def setEntry (es : List (Nat × AV × AV)) (i : Nat) (k v : AV) : List (Nat × AV × AV) :=
  es.modify i fun e => (e.1, k, v)
def aupdate (P : Program) (t : TypeId) (m k v : AV) : AM AV :=
  match tMapKV P t with
  | some (kt, _) => match tKind P kt, m with
    | some kk, .map o => .guard (keyOk kk k = true) <| .get o fun
      | .map clock es => match findK k es 0 with
        | some (some (i, _)) => .put o (.map clock (setEntry es i k v)) (.pure .undef)
        | some none => .put o (.map (clock + 1) (es ++ [(clock, k, v)])) (.pure .undef)
        | none => .fail
      | _ => .fail
    | _, _ => .fail
  | none => .fail
def arange (P : Program) (t : TypeId) (x : AV) : AM AV :=
  match tMapKV P t with
  | some _ => match x with
    | .map o => .get o fun
      | .map clock _ => .new (.miter (some o) clock [] clock) fun n => .pure (.miter n)
      | _ => .fail
    | .nilmap => .new (.miter none 0 [] 0) fun n => .pure (.miter n)
    | _ => .fail
  | none => .fail
def aentry (x : AV) : AM AV :=
  match x with
  | .miter i => .get i fun
    | .miter (some m) _ seen stepped => match seen.getLast? with
      | some stamp => .get m fun
        | .map clock es => .guard (clock = stepped) <| match es.find? (fun e => e.1 == stamp) with
          | some e => .pure (.tup [e.2.1, e.2.2])
          | none => .fail
        | _ => .fail
      | none => .fail
    | _ => .fail
  | _ => .fail
def adelete (P : Program) (t : TypeId) (m k : AV) : AM AV :=
  match tMapKV P t with
  | some (kt, _) => match tKind P kt, m with
    | some kk, .map o => .guard (keyOk kk k = true) <| .get o fun
      | .map clock es => match findK k es 0 with
        | some (some (i, _)) => .put o (.map clock (es.eraseIdx i)) (.pure .undef)
        | some none => .put o (.map clock es) (.pure .undef)
        | none => .fail
      | _ => .fail
    | _, _ => .fail
  | none => .fail

/-- The tail of a row is cleared: nothing is said of it any more. -/
def aclear (P : Program) (t : TypeId) (x : AV) : AM AV :=
  match x with
  | .sl o off len _ => match tElem P t with
    | some el => match tSize P el, tZero P el with
      | some k, some z => .get o fun
        | .row e k' xs => .guard (k' = k ∧ z.length = k ∧ 0 < k ∧ off + len = xs.length) (.put o (.row e k' (xs.take off)) (.pure .undef))
        | _ => .fail
      | _, _ => .fail
    | none => .fail
  | _ => .fail
def isClear : Builtin → Bool
  | .clear => true
  | _ => false
theorem isClear_eq {b : Builtin} (h : isClear b = true) : b = .clear := by cases b <;> first | rfl | cases h
def aclearB (P : Program) (b : Builtin) (argTypes : Array TypeId) (args : List AV) : AM AV :=
  match args with
  | [x] => if isClear b = true then .guard (0 < argTypes.size) (aclear P (argTypes.getD 0 0) x) else .fail
  | _ => .fail
theorem aclearB_inv {P : Program} {b : Builtin} {ts : Array TypeId} {args : List AV} {n : Nat} {fr : Prop} {h : Hp} {Q : AV → Hp → Prop} (hwp : (aclearB P b ts args).wp n fr h Q) : ∃ x, args = [x] ∧ b = .clear ∧ 0 < ts.size ∧ (aclear P (ts.getD 0 0) x).wp n fr h Q := by
  unfold aclearB at hwp
  split at hwp
  · split at hwp
    · rename_i hc
      exact ⟨_, rfl, isClear_eq hc, hwp.1, hwp.2⟩
    · exact hwp.elim
  · exact hwp.elim
def abuiltin (P : Program) (b : Builtin) (argTypes : Array TypeId) (args : List AV) : AM AV :=
  match b, args with
  | .len, [.sl _ _ len _] => .guard (0 < argTypes.size ∧ (tElem P (argTypes.getD 0 0)).isSome) (.pure (.int .i64 len))
  | .len, [.isl _ xs] => .guard (0 < argTypes.size ∧ (tElem P (argTypes.getD 0 0)).isSome) (.pure (.int .i64 xs.length))
  | .len, [.str s] => .guard (0 < argTypes.size ∧ tKind P (argTypes.getD 0 0) = some .str) (.pure (.int .i64 s.size))
  | .len, [.map o] => .guard (0 < argTypes.size ∧ (tMapKV P (argTypes.getD 0 0)).isSome) <| .get o fun
    | .map _ es => .pure (.int .i64 es.length)
    | _ => .fail
  | .len, [.nilmap] => .guard (0 < argTypes.size ∧ (tMapKV P (argTypes.getD 0 0)).isSome) (.pure (.int .i64 0))
  | .delete, [m, k] => .guard (argTypes.size = 2) (adelete P (argTypes.getD 0 0) m k)
  | .max, [.int k a, .int k' b] => .guard (k = k') (.pure (.int k (if a < b then b else a)))
  | .min, [.int k a, .int k' b] => .guard (k = k') (.pure (.int k (if b < a then b else a)))
  | .append, [s, x] => .guard (argTypes.size = 2) (aappend P (argTypes.getD 0 0) (argTypes.getD 1 0) s x)
  | b, l => aclearB P b argTypes l

def aop (P : Program) (e : Nat → AV) : Op → AM AV
  | .move x | .assign x => .pure (rho e x)
  | .pick c a b => match rho e c with
    | .bool t => .pure (bif t then rho e a else rho e b)
    | _ => .fail
  | .alloc t => match tZero P t, tSize P t with
    | some z, some s => .guard (z.length = s) (.new (.row t s [z]) fun n => .pure (.ptr n 0 0))
    | _, _ => .fail
  | .box t x => match (rho e x).cells with
    | some z => .new (.row t z.length [z]) fun n => .pure (.ptr n 0 0)
    | none => .fail
  | .load t a => aload P t (rho e a)
  | .store t a x => astore P t (rho e a) (rho e x)
  | .nilCheck x => match rho e x with
    | .ptr o i j => .pure (.ptr o i j)
    | .iptr cs => .pure (.iptr cs)
    | _ => .fail
  | .binOp op t x y _ => abinT P t op (rho e x) (rho e y)
  | .unOp op _ x => match op, rho e x with
    | .not, .bool b => .pure (.bool (!b))
    | .neg, .int k n => .pure (.int k (k.wrap (0 - n)))
    | _, _ => .fail
  | .convert src dst x => match tKind P src, tKind P dst, rho e x with
    | some (.int _), some (.int k), .int _ n => .pure (.int k (k.wrap n))
    | some .str, some .str, .str s => .pure (.str s)
    | _, _, _ => .fail
  | .makeFunc fn first captured => .pure (.func fn (first.toList.map (rho e)) (captured.toList.map (rho e)))
  | .fieldAddr s x f => match tField P s f with
    | some (off, sz) => .guard (0 < sz) <|
      match rho e x with
      | .ptr o i j => .pure (.ptr o i (j + off))
      | .iptr cs => .guard (off ≤ cs.length) (.pure (.iptr (cs.drop off)))
      | _ => .fail
    | none => .fail
  | .field s x f => match tFieldT P s f, tField P s f, rho e x with
    | some ft, some (off, sz), .agg cs => match tAgg P ft with
      | some g => .guard (0 < sz ∧ off + sz ≤ cs.length ∧ (g = false → sz = 1)) (.pure (partOf g sz off cs))
      | none => .fail
    | _, _, _ => .fail
  | .indexAddr t x ix => match tElem P t with
    | some el => aindex P el (rho e x) (rho e ix)
    | none => match tKind P t, rho e ix with
      | some (.arr n el), .int _ i => match tSize P el with
        | some s => .guard (0 < s ∧ 0 ≤ i ∧ i < n) <| match rho e x with
          | .ptr o a j => .pure (.ptr o a (j + i.toNat * s))
          | .iptr cs => .guard (i.toNat * s ≤ cs.length) (.pure (.iptr (cs.drop (i.toNat * s))))
          | _ => .fail
        | none => .fail
      | _, _ => .fail
  | .extract x i => match rho e x with
    | .tup vs => .guard (i < vs.length) (.pure (vs.getD i .undef))
    | _ => .fail
  | .slice t x lo hi mx => aslice P t (rho e x) (lo.map (rho e)) (hi.map (rho e)) (mx.map (rho e))
  | .build t ps => match tZero P t with
    | some z => match tKind P t with
      | some .struct => .guard (tFieldsOk P t = true) <| match abuild (fun i => tField P t i) z (aparts e ps) with
        | some cs => .pure (.agg cs)
        | none => .fail
      | some (.arr _ el) => match tSize P el with
        | some s => match abuild (fun i => some (i * s, s)) z (aparts e ps) with
          | some cs => .pure (.agg cs)
          | none => .fail
        | none => .fail
      | _ => .fail
    | none => .fail
  | .buildSlice t len ps => match tElem P t with
    | some el => match tSize P el, tZero P el with
      | some k, some z => .guard (len * k ≤ 16777216 ∧ 0 < k ∧ z.length = k) <| match abuildSlice k (List.replicate len z) (aparts e ps) with
        | some xs => .new (.row el k xs) fun n => .pure (.sl n 0 len false)
        | none => .fail
      | _, _ => .fail
    | none => .fail
  | .makeSlice t l c => match tElem P t, rho e l, rho e c with
    | some el, .int _ l, .int _ c => match tSize P el, tBytes P el, tZero P el with
      | some k, some by_, some z => .guard (0 ≤ l ∧ l ≤ c ∧ c * by_ ≤ 140737488355328 ∧ c ≤ 140737488355328 ∧ z.length = k) <| .new (.row el k (List.replicate l.toNat z)) fun n => .pure (.sl n 0 l.toNat false)
      | _, _, _ => .fail
    | _, _, _ => .fail
  | .index t x ix => match tKind P t, rho e x, rho e ix with
    | some .str, .str s, .int _ i => .guard (0 ≤ i ∧ i < s.size) (.pure (.int .u8 (s.data.getD i.toNat 0).toNat))
    | some (.arr n el), .agg cs, .int _ i => match tSize P el, tAgg P el with
      | some s, some g => .guard (0 < s ∧ 0 ≤ i ∧ i < n ∧ i.toNat * s + s ≤ cs.length ∧ (g = false → s = 1)) (.pure (partOf g s (i.toNat * s) cs))
      | _, _ => .fail
    | _, _, _ => .fail
  | .makeMap t r => match r with
    | none => .new (.map 0 []) fun n => .pure (.map n)
    | some x => match tMapKV P t, rho e x with
      | some _, .int _ _ => .new (.map 0 []) fun n => .pure (.map n)
      | _, _ => .fail
  | .lookup t m k ok => alookup P t (rho e m) (rho e k) ok
  | .mapUpdate t m k x => aupdate P t (rho e m) (rho e k) (rho e x)
  | .insert t m k x => aupdate P t (rho e m) (rho e k) (rho e x)
  | .range t x => arange P t (rho e x)
  | .call { callee := .builtin b, args, argTypes } => abuiltin P b argTypes (args.toList.map (rho e))
  | _ => .fail

end Go.Aw
end
section
set_option linter.unusedVariables false
set_option linter.unusedSimpArgs false
namespace Go.Aw

/-- The program, how many slots, the names of the objects that came in. -/
structure Cx where
  P : Program
  N : Nat
  S : List Nat

/-- The world in which the call began, the blocks that were its own then, where its objects lay, the blocks that no value may lead into. -/
structure Fr where
  w : World
  O : Nat → Prop
  β : Nat → Option Loc
  A : Nat → Prop

/-- The call's own blocks. -/
def Own (β : Nat → Option Loc) (h : Hp) (b : Nat) : Prop := ∃ o l, h o ≠ none ∧ β o = some l ∧ l.blk = b

/-- The blocks that no value that is not of the call's own objects leads into. -/
def Av (A : Nat → Prop) (β : Nat → Option Loc) (h : Hp) (b : Nat) : Prop := A b ∨ Own β h b

def ObjR (w : World) (O : Nat → Prop) (β : Nat → Option Loc) (l : Option Loc) : AObj → Prop
  | .row e k xs => RowR w O β e k xs l
  | .map clock es => MapR w O β clock es l
  | .miter m since seen stepped => IterR w β m since seen stepped l

/-- The abstract heap and the memory. -/
structure HR (w : World) (A : Nat → Prop) (β : Nat → Option Loc) (h : Hp) : Prop where
  obj : ∀ o x, h o = some x → ObjR w (Av A β h) β (β o) x
  inj : ∀ o o' l l', h o ≠ none → h o' ≠ none → β o = some l → β o' = some l' → l.blk = l'.blk → o = o'
  lt : ∀ b, Own β h b → b < w.heap.size
  apart : ∀ b, Own β h b → ¬ A b

/-- What has happened to the world since the call began. -/
structure Since (F : Fr) (w : World) : Prop where
  same : Same F.O F.w w
  os : w.os = F.w.os
  tape : w.tape = F.w.tape
  output : w.output = F.w.output
  drawn : F.w.drawn ≤ w.drawn

structure SRb (C : Cx) (F : Fr) (β : Nat → Option Loc) (st : St) (a : Act) (w : World) : Prop where
  defers : a.defers = []
  size : a.tmps.size = C.N
  env : ∀ t, VR w (Av F.A β st.heap) β (st.env t) (a.tmps.getD t undef)
  heap : HR w F.A β st.heap
  since : Since F w
  own : ∀ b, b < F.w.heap.size → Own β st.heap b → F.O b
  kept : ∀ o, o ∈ C.S → β o = F.β o
  far : ∀ b, F.A b → b < F.w.heap.size

def SR (C : Cx) (F : Fr) (st : St) (a : Act) (w : World) : Prop := ∃ β, SRb C F β st a w

theorem Same.refl (O : Nat → Prop) (w : World) : Same O w w := ⟨Nat.le_refl _, fun _ _ _ => rfl⟩
theorem Same.wider {O O' : Nat → Prop} {w w' : World} (h : Same O w w') (hO : ∀ b, O b → O' b) : Same O' w w' := ⟨h.size, fun b hb hn => h.block b hb fun h1 => hn (hO b h1)⟩
theorem Same.trans {O O' : Nat → Prop} {w w1 w2 : World} (h : Same O w w1) (h' : Same O' w1 w2) (hO : ∀ b, b < w.heap.size → O' b → O b) : Same O w w2 :=
  ⟨Nat.le_trans h.size h'.size, fun b hb hn => (h'.block b (Nat.lt_of_lt_of_le hb h.size) fun h1 => hn (hO b hb h1)).trans (h.block b hb hn)⟩

theorem Since.step {F : Fr} {w w' : World} {O' : Nat → Prop} (h : Since F w) (hs : Same O' w w') (hO : ∀ b, b < F.w.heap.size → O' b → F.O b)
    (h1 : w'.os = w.os) (h2 : w'.tape = w.tape) (h3 : w'.output = w.output) (h4 : w.drawn ≤ w'.drawn) : Since F w' :=
  ⟨h.same.trans hs hO, h1.trans h.os, h2.trans h.tape, h3.trans h.output, Nat.le_trans h.drawn h4⟩

theorem ofScalar_IR (w : World) (O : Nat → Prop) (v : Value) (h : ofScalar v ≠ .undef) : IR w O (ofScalar v) v := by
  revert h
  unfold ofScalar
  split <;> intro h <;> first
    | exact .int _ _ | exact .bool _ | exact .str _ | exact .nilp | exact .nilfunc | exact .nilmap
    | (exact .isl .nil [] none 0 0 (Nat.le_refl _) (by simp [maxLen]) (by simp) (by simp) (by simp) (by simp) (fun _ _ => .bool true) (by simp) (by simp) (by simp))
    | (exact (h rfl).elim)
theorem ofScalar_VR (w : World) (O : Nat → Prop) (β : Nat → Option Loc) (v : Value) : VR w O β (ofScalar v) v := by
  by_cases h : ofScalar v = .undef
  · rw [h]; exact .undef v
  · exact .imm (ofScalar_IR w O v h)
theorem ofScalar_one (v : Value) (h : ofScalar v ≠ .undef) : v.oneCell' = true := by
  unfold ofScalar at h
  split at h <;> first | rfl | exact (h rfl).elim

theorem ofValue_VR (w : World) (O : Nat → Prop) (β : Nat → Option Loc) (v : Value) : VR w O β (ofValue v) v := by
  unfold ofValue
  split
  · rename_i cs
    split
    case isFalse => exact .undef _
    rename_i h
    simp only [Array.all_eq_true] at h
    exact .agg _ _ (by simp) (fun m hm => h m hm) (fun m h1 h2 => by simp only [List.getElem_map, Array.getElem_toList]; exact ofScalar_VR w O β _)
  · rename_i f us vs
    split
    · rename_i h0
      exact .func _ _ _ _ _ (by simp [h0.1]) (by simp [h0.2]) (by simp) (by simp)
    · exact .undef _
  · exact ofScalar_VR w O β v

theorem SRb.rho {C : Cx} {F : Fr} {β : Nat → Option Loc} {st : St} {a : Act} {w : World} (h : SRb C F β st a w) (x : Operand) :
    VR w (Av F.A β st.heap) β (rho st.env x) (a.eval x) := by
  cases x with
  | tmp t => exact h.env t
  | const v => exact ofValue_VR _ _ _ v
  | global g => exact .undef _
  | func f => exact .func _ _ _ _ _ rfl rfl (by simp) (by simp)

/-! ### What a value can be -/
section
variable {w : World} {O : Nat → Prop} {β : Nat → Option Loc}
theorem VR.int_inv {k n v} (h : VR w O β (.int k n) v) : v = .int k n := by cases h with | imm h => cases h; rfl
theorem VR.bool_inv {b v} (h : VR w O β (.bool b) v) : v = .bool b := by cases h with | imm h => cases h; rfl
theorem VR.str_inv {s v} (h : VR w O β (.str s) v) : v = .string s := by cases h with | imm h => cases h; rfl
theorem VR.ptr_inv {o i j v} (h : VR w O β (.ptr o i j) v) : ∃ l, β o = some l ∧ v = .pointer (some ⟨l.blk, l.c0 + i * l.k + j, none⟩) := by
  cases h with
  | imm h => cases h
  | ptr _ _ _ l h => exact ⟨l, h, rfl⟩
theorem VR.iptr_inv {cs v} (h : VR w O β (.iptr cs) v) : IR w O (.iptr cs) v := by cases h with | imm h => exact h
theorem VR.isl_inv {f xs v} (h : VR w O β (.isl f xs) v) : IR w O (.isl f xs) v := by cases h with | imm h => exact h
theorem VR.tup_inv {cs v} (h : VR w O β (.tup cs) v) : ∃ vs : Array Value, v = .tuple vs ∧ vs.size = cs.length ∧ ∀ m (h1 : m < cs.length) (h2 : m < vs.size), VR w O β cs[m] vs[m] := by
  cases h with
  | imm h => cases h with | tup _ vs hl h => exact ⟨vs, rfl, hl, fun m h1 h2 => .imm (h m h1 h2)⟩
  | tup _ vs hl h => exact ⟨vs, rfl, hl, h⟩
theorem VR.agg_inv {cs v} (h : VR w O β (.agg cs) v) : ∃ vs : Array Value, v = .agg vs ∧ vs.size = cs.length ∧ (∀ m (h : m < vs.size), vs[m].oneCell' = true) ∧ ∀ m (h1 : m < cs.length) (h2 : m < vs.size), VR w O β cs[m] vs[m] := by
  cases h with
  | imm h => cases h with | agg _ vs hl h1c h => exact ⟨vs, rfl, hl, h1c, fun m h1 h2 => .imm (h m h1 h2)⟩
  | agg _ vs hl h1c h => exact ⟨vs, rfl, hl, h1c, h⟩
theorem VR.func_inv {fn xs ys v} (h : VR w O β (.func fn xs ys) v) : ∃ us vs : Array Value, v = .func fn us vs ∧ us.size = xs.length ∧ vs.size = ys.length ∧
    (∀ m (h1 : m < xs.length) (h2 : m < us.size), VR w O β xs[m] us[m]) ∧ (∀ m (h1 : m < ys.length) (h2 : m < vs.size), VR w O β ys[m] vs[m]) := by
  cases h with
  | imm h => cases h with | func _ _ _ us vs l1 l2 h1 h2 => exact ⟨us, vs, rfl, l1, l2, fun m g1 g2 => .imm (h1 m g1 g2), fun m g1 g2 => .imm (h2 m g1 g2)⟩
  | func _ _ _ us vs l1 l2 h1 h2 => exact ⟨us, vs, rfl, l1, l2, h1, h2⟩
theorem VR.sl_inv {o off len full v} (h : VR w O β (.sl o off len full) v) :
    (∃ l cap A, β o = some l ∧ len ≤ cap ∧ off + cap ≤ l.cap ∧ (full = true → cap = len) ∧ (full = false → off + cap = l.cap) ∧ (0 < cap → A = some ⟨l.blk, l.c0 + off * l.k, none⟩) ∧ v = .slice A len cap) ∨
    (β o = none ∧ off = 0 ∧ len = 0 ∧ ∃ A, v = .slice A 0 0) := by
  cases h with
  | imm h => cases h
  | sl _ _ _ _ l cap A h h1 h2 h3 h4 h5 => exact .inl ⟨l, cap, A, h, h1, h2, h3, h4, h5, rfl⟩
  | nilrow _ _ A h => exact .inr ⟨h, rfl, rfl, A, rfl⟩

/-- A value's cells, as the machine has them. -/
theorem VR.cells_inv {x : AV} {v : Value} {cs : List AV} (h : VR w O β x v) (hc : x.cells = some cs) :
    v.cells.size = cs.length ∧ (∀ m (h : m < v.cells.size), (v.cells[m]).oneCell' = true) ∧ ∀ m (h1 : m < cs.length) (h2 : m < v.cells.size), VR w O β cs[m] v.cells[m] := by
  have one : ∀ (x : AV) (v : Value), VR w O β x v → v.oneCell' = true → (#[v] : Array Value).size = ([x] : List AV).length ∧ (∀ m (h : m < (#[v] : Array Value).size), ((#[v] : Array Value)[m]).oneCell' = true) ∧
      ∀ m (h1 : m < ([x] : List AV).length) (h2 : m < (#[v] : Array Value).size), VR w O β ([x] : List AV)[m] (#[v] : Array Value)[m] := by
    intro x v h h1
    refine ⟨rfl, fun m hm => ?_, fun m h1 h2 => ?_⟩
    · simp at hm; subst hm; exact h1
    · simp at h1; subst h1; exact h
  cases x with
  | undef => simp [AV.cells] at hc
  | tup vs => simp [AV.cells] at hc
  | agg cs' =>
    simp only [AV.cells, Option.some.injEq] at hc
    subst hc
    obtain ⟨vs, rfl, hl, h1, h2⟩ := h.agg_inv
    exact ⟨hl, h1, h2⟩
  | _ =>
    simp only [AV.cells, Option.some.injEq] at hc
    subst hc
    have hv : v.oneCell' = true := by
      cases h <;> first
        | rfl
        | (rename_i h; cases h <;> rfl)
    have hcell : v.cells = #[v] := by cases v <;> first | rfl | simp [Value.oneCell'] at hv
    rw [hcell]
    exact one _ _ h hv
end

end Go.Aw
end
section
set_option linter.unusedVariables false
set_option linter.unusedSimpArgs false
namespace Go.Aw

theorem hasLL_mem {o : Nat} : ∀ {xs : List (List AV)} (i : Nat) (h : i < xs.length), AV.hasL o xs[i] = true → AV.hasLL o xs = true
  | x :: xs, 0, _, h => by simp only [List.getElem_cons_zero] at h; simp [AV.hasLL, h]
  | x :: xs, i + 1, hi, h => by
    have := hasLL_mem (xs := xs) i (by simpa using hi) (by simpa using h)
    simp [AV.hasLL, this]

theorem RowR.mono {w w' : World} {O O' : Nat → Prop} {β β' : Nat → Option Loc} {e k : Nat} {xs : List (List AV)} {ol : Option Loc} (h : RowR w O β e k xs ol) (hs : Same O w w')
    (hO : ∀ b, b < w.heap.size → O' b → O b) (hβ : ∀ o, AV.hasLL o xs = true → β' o = β o) (hb : ∀ l, ol = some l → w'.heap[l.blk]? = w.heap[l.blk]?) : RowR w' O' β' e k xs ol := by
  cases ol with
  | none => exact h
  | some l =>
    obtain ⟨h1, h2, h3, h4, cur, h5, h6, h7, h8⟩ := h
    refine ⟨h1, h2, h3, h4, cur, (hb l rfl).trans h5, h6, h7, fun i j g1 g2 => ?_⟩
    obtain ⟨v, g3, g4⟩ := h8 i j g1 g2
    exact ⟨v, g3, g4.mono hs hO fun o ho => hβ o (hasLL_mem i g1 (AV.hasL_get j g2 ho))⟩

theorem hasP_mem {o : Nat} : ∀ {es : List (Nat × AV × AV)} (i : Nat) (h : i < es.length), (es[i].2.1.has o = true ∨ es[i].2.2.has o = true) → AV.hasP o es = true
  | x :: xs, 0, _, h => by simp only [List.getElem_cons_zero] at h; rcases h with h | h <;> simp [AV.hasP, h]
  | x :: xs, i + 1, hi, h => by
    have := hasP_mem (es := xs) i (by simpa using hi) (by simpa using h)
    simp [AV.hasP, this]

theorem MapR.mono {w w' : World} {O O' : Nat → Prop} {β β' : Nat → Option Loc} {clock : Nat} {es : List (Nat × AV × AV)} {ol : Option Loc} (h : MapR w O β clock es ol) (hs : Same O w w')
    (hO : ∀ b, b < w.heap.size → O' b → O b) (hβ : ∀ o, AV.hasP o es = true → β' o = β o) (hb : ∀ l, ol = some l → w'.heap[l.blk]? = w.heap[l.blk]?) : MapR w' O' β' clock es ol := by
  cases ol with
  | none => exact h
  | some l =>
    obtain ⟨arr, h1, h2, h3⟩ := h
    refine ⟨arr, (hb l rfl).trans h1, h2, fun i g1 g2 => ?_⟩
    obtain ⟨k1, k2, k3⟩ := h3 i g1 g2
    exact ⟨k1, k2.mono hs hO fun o ho => hβ o (hasP_mem i g1 (.inl ho)), k3.mono hs hO fun o ho => hβ o (hasP_mem i g1 (.inr ho))⟩

theorem ObjR.mono {w w' : World} {O O' : Nat → Prop} {β β' : Nat → Option Loc} {x : AObj} {ol : Option Loc} (h : ObjR w O β ol x) (hs : Same O w w')
    (hO : ∀ b, b < w.heap.size → O' b → O b) (hβ : ∀ o, x.has o = true → β' o = β o) (hb : ∀ l, ol = some l → w'.heap[l.blk]? = w.heap[l.blk]?) : ObjR w' O' β' ol x := by
  cases x with
  | row e k xs => exact RowR.mono h hs hO hβ hb
  | map clock es => exact MapR.mono h hs hO hβ hb
  | miter m since seen stepped =>
    cases ol with
    | none => exact h
    | some l =>
      obtain ⟨mb, h1, h2⟩ := h
      refine ⟨mb, (hb l rfl).trans h1, ?_⟩
      cases m with
      | none => exact h2
      | some o =>
        obtain ⟨l', h3, h4⟩ := h2
        exact ⟨l', (hβ o (by simp [AObj.has])).trans h3, h4⟩

/-- The general step: what is to be shown where the heap, the names' places or the world turn. -/
theorem SRb.update {C : Cx} {F : Fr} {β β' : Nat → Option Loc} {st : St} {a : Act} {w w' : World} {h' : Hp} (h : SRb C F β st a w) (hs : Same (Own β st.heap) w w')
    (h1 : w'.os = w.os) (h2 : w'.tape = w.tape) (h3 : w'.output = w.output)
    (hO : ∀ b, b < w.heap.size → Own β' h' b → Own β st.heap b)
    (hβ : ∀ t o, (st.env t).has o = true → β' o = β o) (hS : ∀ o, o ∈ C.S → β' o = β o) (hH : HR w' F.A β' h') (h4 : w.drawn ≤ w'.drawn := by first | exact Nat.le_refl _ | exact Nat.le_succ _) : SRb C F β' ⟨st.env, h'⟩ a w' :=
  { defers := h.defers
    size := h.size
    env := fun t => (h.env t).mono (hs.wider fun b => .inr) (fun b hb h1 => h1.imp id (hO b hb)) (hβ t)
    heap := hH
    since := h.since.step hs h.own h1 h2 h3 h4
    own := fun b hb hb' => h.own b hb (hO b (Nat.lt_of_lt_of_le hb h.since.same.size) hb')
    kept := fun o ho => (hS o ho).trans (h.kept o ho)
    far := h.far }

def Fresh (C : Cx) (st : St) (n : Nat) : Prop :=
  n ∉ C.S ∧ st.heap n = none ∧ (∀ t, (st.env t).has n = false) ∧ (∀ o x, st.heap o = some x → x.has n = false)

def updB (β : Nat → Option Loc) (n : Nat) (l : Option Loc) : Nat → Option Loc := fun o => if o = n then l else β o
theorem updB_self (β : Nat → Option Loc) (n : Nat) (l : Option Loc) : updB β n l n = l := by simp [updB]
theorem updB_ne (β : Nat → Option Loc) (n : Nat) (l : Option Loc) {o : Nat} (h : o ≠ n) : updB β n l o = β o := by simp [updB, h]
theorem updH_self (h : Hp) (n : Nat) (x : Option AObj) : updH h n x n = x := by simp [updH]
theorem updH_ne (h : Hp) (n : Nat) (x : Option AObj) {o : Nat} (hn : o ≠ n) : updH h n x o = h o := by simp [updH, hn]

theorem Own.upd {β : Nat → Option Loc} {h : Hp} {n : Nat} {l : Option Loc} {x : Option AObj} {b : Nat} (hb : Own (updB β n l) (updH h n x) b) : Own β h b ∨ ∃ l', l = some l' ∧ l'.blk = b := by
  obtain ⟨o, l', h1, h2, h3⟩ := hb
  by_cases hn : o = n
  · subst hn
    rw [updB_self] at h2
    exact .inr ⟨l', h2, h3⟩
  · rw [updB_ne _ _ _ hn] at h2
    rw [updH_ne _ _ _ hn] at h1
    exact .inl ⟨o, l', h1, h2, h3⟩

theorem same_alloc (O : Nat → Prop) (w : World) (o : Obj) : Same O w (w.alloc o) :=
  ⟨by simp, fun b hb _ => heap_alloc_old w o b hb⟩

theorem VR.row_of {w : World} {O : Nat → Prop} {β : Nat → Option Loc} {cs : List AV} {vs : Array Value} (h : ∀ m (h1 : m < cs.length) (h2 : m < vs.size), VR w O β cs[m] vs[m]) (hl : vs.size = cs.length)
    (m : Nat) (h1 : m < cs.length) : ∃ v, vs[m]? = some v ∧ VR w O β cs[m] v :=
  ⟨vs[m]'(by omega), by simp [hl, h1], h m h1 (by omega)⟩

/-- A new row. -/
theorem SRb.newRow {C : Cx} {F : Fr} {β : Nat → Option Loc} {st : St} {a : Act} {w : World} {n : Nat} (h : SRb C F β st a w) (hf : Fresh C st n) (e k : Nat) (xs : List (List AV)) (cur : Array Value)
    (hx : AV.hasLL n xs = false) (hk : ∀ x ∈ xs, x.length = k) (hsz : xs.length * k ≤ cur.size) (cap : Nat) (hcap : xs.length ≤ cap) (hcur : cap * k ≤ cur.size) (hmax : cap ≤ maxLen)
    (h1 : ∀ (m : Nat) (h : m < cur.size), (cur[m]).oneCell' = true)
    (hv : ∀ i j (h1 : i < xs.length) (h2 : j < xs[i].length), ∃ v, cur[i * k + j]? = some v ∧ VR w (Av F.A β st.heap) β xs[i][j] v) :
    SRb C F (updB β n (some ⟨w.heap.size, 0, k, cap⟩)) ⟨st.env, updH st.heap n (some (.row e k xs))⟩ a (w.alloc (.cells cur e)) ∧
    Own (updB β n (some ⟨w.heap.size, 0, k, cap⟩)) (updH st.heap n (some (.row e k xs))) w.heap.size := by
  obtain ⟨f1, f2, f3, f4⟩ := hf
  have hs := same_alloc (Own β st.heap) w (.cells cur e)
  have hO : ∀ b, b < w.heap.size → Own (updB β n (some ⟨w.heap.size, 0, k, cap⟩)) (updH st.heap n (some (.row e k xs))) b → Own β st.heap b := by
    intro b hb h'
    rcases h'.upd with h' | ⟨l', e1, e2⟩
    · exact h'
    · injection e1 with e1
      subst e1
      simp only at e2
      omega
  refine ⟨h.update hs rfl rfl rfl hO (fun t o ho => updB_ne _ _ _ fun e => ?_) (fun o ho => updB_ne _ _ _ fun e => f1 (e ▸ ho)) ⟨fun o x hx' => ?_, fun o o' l l' g1 g2 g3 g4 g5 => ?_, fun b hb => ?_, fun b hb hA => ?_⟩, ⟨n, _, by simp [updH], updB_self .., rfl⟩⟩
  · subst e
    rw [f3 t] at ho
    cases ho
  · by_cases hn : o = n
    · subst hn
      rw [updH_self] at hx'
      injection hx' with hx'
      subst hx'
      rw [updB_self]
      refine ⟨rfl, hcap, hmax, hk, cur, heap_alloc_new w _, by simpa using hcur, h1, fun i j g1 g2 => ?_⟩
      obtain ⟨v, hv1, hv2⟩ := hv i j g1 g2
      refine ⟨v, by simpa using hv1, hv2.mono (hs.wider fun b => .inr) (fun b hb h1 => h1.imp id (hO b hb)) fun p hp => updB_ne _ _ _ fun e => ?_⟩
      subst e
      rw [hasLL_mem i g1 (AV.hasL_get j g2 hp)] at hx
      cases hx
    · rw [updH_ne _ _ _ hn] at hx'
      rw [updB_ne _ _ _ hn]
      refine (h.heap.obj o x hx').mono (hs.wider fun b => .inr) (fun b hb h1 => h1.imp id (hO b hb)) (fun p hp => updB_ne _ _ _ fun e => ?_) (fun l hl => heap_alloc_old w _ _ (h.heap.lt _ ⟨o, l, by simp [hx'], hl, rfl⟩))
      subst e
      rw [f4 o x hx'] at hp
      cases hp
  · by_cases hn : o = n <;> by_cases hn' : o' = n
    · rw [hn, hn']
    · subst hn
      rw [updB_self] at g3
      rw [updB_ne _ _ _ hn'] at g4
      rw [updH_ne _ _ _ hn'] at g2
      injection g3 with g3
      subst g3
      simp only at g5
      have := h.heap.lt _ ⟨o', l', g2, g4, rfl⟩
      omega
    · subst hn'
      rw [updB_self] at g4
      rw [updB_ne _ _ _ hn] at g3
      rw [updH_ne _ _ _ hn] at g1
      injection g4 with g4
      subst g4
      simp only at g5
      have := h.heap.lt _ ⟨o, l, g1, g3, rfl⟩
      omega
    · rw [updB_ne _ _ _ hn] at g3
      rw [updB_ne _ _ _ hn'] at g4
      rw [updH_ne _ _ _ hn] at g1
      rw [updH_ne _ _ _ hn'] at g2
      exact h.heap.inj o o' l l' g1 g2 g3 g4 g5
  · rcases hb.upd with hb | ⟨l', e1, e2⟩
    · have := h.heap.lt b hb
      simp
      omega
    · injection e1 with e1
      subst e1
      simp only at e2
      simp
      omega
  · rcases hb.upd with hb | ⟨l', e1, e2⟩
    · exact h.heap.apart b hb hA
    · injection e1 with e1
      subst e1
      simp only at e2
      have := h.far b hA
      have := h.since.same.size
      omega

/-- An object is let go: its blocks are from now on nobody's. -/
theorem SRb.del {C : Cx} {F : Fr} {β : Nat → Option Loc} {st : St} {a : Act} {w : World} (n : Nat) (h : SRb C F β st a w) : SRb C F β ⟨st.env, updH st.heap n none⟩ a w := by
  have hO : ∀ b, Own β (updH st.heap n none) b → Own β st.heap b := by
    rintro b ⟨o, l, h1, h2, h3⟩
    by_cases hn : o = n
    · subst hn; rw [updH_self] at h1; exact absurd rfl h1
    · rw [updH_ne _ _ _ hn] at h1; exact ⟨o, l, h1, h2, h3⟩
  refine h.update (Same.refl _ w) rfl rfl rfl (fun b _ => hO b) (fun _ _ _ => rfl) (fun _ _ => rfl) ⟨fun o x hx => ?_, fun o o' l l' g1 g2 g3 g4 g5 => ?_, fun b hb => h.heap.lt b (hO b hb), fun b hb => h.heap.apart b (hO b hb)⟩
  · by_cases hn : o = n
    · subst hn; rw [updH_self] at hx; cases hx
    · rw [updH_ne _ _ _ hn] at hx
      exact (h.heap.obj o x hx).mono (Same.refl _ w) (fun b _ h1 => h1.imp id (hO b)) (fun _ _ => rfl) (fun _ _ => rfl)
  · have k1 : st.heap o ≠ none := by
      by_cases hn : o = n
      · subst hn; rw [updH_self] at g1; exact absurd rfl g1
      · rwa [updH_ne _ _ _ hn] at g1
    have k2 : st.heap o' ≠ none := by
      by_cases hn : o' = n
      · subst hn; rw [updH_self] at g2; exact absurd rfl g2
      · rwa [updH_ne _ _ _ hn] at g2
    exact h.heap.inj o o' l l' k1 k2 g3 g4 g5

/-- An own row is written: the machine's block has turned to 'cur''. -/
theorem SRb.putRow {C : Cx} {F : Fr} {β : Nat → Option Loc} {st : St} {a : Act} {w w' : World} {o : Nat} {l : Loc} {e k : Nat} {xs ys : List (List AV)} {cur cur' : Array Value} (h : SRb C F β st a w)
    (ho : st.heap o = some (.row e k xs)) (hl : β o = some l) (hcur : w.heap[l.blk]? = some (.cells cur e (0, 0)))
    (hsz : w'.heap.size = w.heap.size) (hblk : w'.heap[l.blk]? = some (.cells cur' e (0, 0))) (hoth : ∀ b, b ≠ l.blk → w'.heap[b]? = w.heap[b]?) (h1 : w'.os = w.os) (h2 : w'.tape = w.tape) (h3 : w'.output = w.output)
    (hsize : cur'.size = cur.size) (hlen : ys.length ≤ l.cap) (hk : ∀ x ∈ ys, x.length = k) (h1c : ∀ (m : Nat) (h : m < cur'.size), (cur'[m]).oneCell' = true)
    (hv : ∀ i j (g1 : i < ys.length) (g2 : j < ys[i].length), ∃ v, cur'[l.c0 + i * k + j]? = some v ∧ VR w (Av F.A β st.heap) β ys[i][j] v) (h4 : w.drawn ≤ w'.drawn := by exact Nat.le_refl _) :
    SRb C F β ⟨st.env, updH st.heap o (some (.row e k ys))⟩ a w' := by
  have hown : Own β st.heap l.blk := ⟨o, l, by simp [ho], hl, rfl⟩
  have hs : Same (Own β st.heap) w w' := ⟨by omega, fun b hb hn => hoth b fun e => hn (e ▸ hown)⟩
  have hO : ∀ b, Own β (updH st.heap o (some (.row e k ys))) b → Own β st.heap b := by
    rintro b ⟨p, l', g1, g2, g3⟩
    by_cases hn : p = o
    · subst hn; exact ⟨p, l', by simp [ho], g2, g3⟩
    · rw [updH_ne _ _ _ hn] at g1; exact ⟨p, l', g1, g2, g3⟩
  have hne : ∀ p, updH st.heap o (some (.row e k ys)) p ≠ none → st.heap p ≠ none := by
    intro p hp
    by_cases hn : p = o
    · subst hn; simp [ho]
    · rwa [updH_ne _ _ _ hn] at hp
  refine h.update (h4 := h4) hs h1 h2 h3 (fun b _ => hO b) (fun _ _ _ => rfl) (fun _ _ => rfl) ⟨fun p x hx => ?_, fun p p' m m' g1 g2 g3 g4 g5 => h.heap.inj p p' m m' (hne p g1) (hne p' g2) g3 g4 g5, fun b hb => by rw [hsz]; exact h.heap.lt b (hO b hb), fun b hb => h.heap.apart b (hO b hb)⟩
  by_cases hn : p = o
  · subst hn
    rw [updH_self] at hx
    injection hx with hx
    subst hx
    have hold := h.heap.obj p _ ho
    rw [hl] at hold
    obtain ⟨k1, k2, k3, k4, cur0, k5, k6, k7, k8⟩ := hold
    rw [hcur] at k5
    injection k5 with k5
    injection k5 with k5 _
    subst k5
    rw [hl]
    refine ⟨k1, hlen, k3, hk, cur', hblk, by omega, h1c, fun i j g1 g2 => ?_⟩
    obtain ⟨v, q1, q2⟩ := hv i j g1 g2
    exact ⟨v, q1, q2.mono (hs.wider fun b => .inr) (fun b _ h1 => h1.imp id (hO b)) fun _ _ => rfl⟩
  · rw [updH_ne _ _ _ hn] at hx
    refine (h.heap.obj p x hx).mono (hs.wider fun b => .inr) (fun b _ h1 => h1.imp id (hO b)) (fun _ _ => rfl) fun m hm => hoth _ fun e' => hn (h.heap.inj p o m l (by simp [hx]) (by simp [ho]) hm hl e')

end Go.Aw
end
section
set_option linter.unusedVariables false
set_option linter.unusedSimpArgs false
namespace Go.Aw

theorem SRb.newObj {C : Cx} {F : Fr} {β : Nat → Option Loc} {st : St} {a : Act} {w : World} {n : Nat} (h : SRb C F β st a w) (hf : Fresh C st n) (x : AObj) (ob : Obj) (k cap : Nat) (hx : x.has n = false)
    (hobj : ∀ (O : Nat → Prop) (β' : Nat → Option Loc), (∀ b, b < w.heap.size → O b → Av F.A β st.heap b) → (∀ p, x.has p = true → β' p = β p) → ObjR (w.alloc ob) O β' (some ⟨w.heap.size, 0, k, cap⟩) x) :
    SRb C F (updB β n (some ⟨w.heap.size, 0, k, cap⟩)) ⟨st.env, updH st.heap n (some x)⟩ a (w.alloc ob) := by
  obtain ⟨f1, f2, f3, f4⟩ := hf
  have hs := same_alloc (Own β st.heap) w ob
  have hO : ∀ b, b < w.heap.size → Own (updB β n (some ⟨w.heap.size, 0, k, cap⟩)) (updH st.heap n (some x)) b → Own β st.heap b := by
    intro b hb h1
    rcases h1.upd with h1 | ⟨l', e1, e2⟩
    · exact h1
    · injection e1 with e1; subst e1; simp only at e2; omega
  refine h.update hs rfl rfl rfl hO (fun t o ho => updB_ne _ _ _ fun e => ?_) (fun o ho => updB_ne _ _ _ fun e => f1 (e ▸ ho)) ⟨fun o y hy => ?_, fun o o' l l' g1 g2 g3 g4 g5 => ?_, fun b hb => ?_, fun b hb hA => ?_⟩
  · subst e
    rw [f3 t] at ho
    cases ho
  · by_cases hn : o = n
    · subst hn
      rw [updH_self] at hy
      injection hy with hy
      subst hy
      rw [updB_self]
      refine hobj _ _ (fun b hb h1 => h1.imp id (hO b hb)) fun p hp => updB_ne _ _ _ fun e => ?_
      subst e
      rw [hx] at hp
      cases hp
    · rw [updH_ne _ _ _ hn] at hy
      rw [updB_ne _ _ _ hn]
      refine (h.heap.obj o y hy).mono (hs.wider fun b => .inr) (fun b hb h1 => h1.imp id (hO b hb)) (fun p hp => updB_ne _ _ _ fun e => ?_) (fun l hl => heap_alloc_old w _ _ (h.heap.lt _ ⟨o, l, by simp [hy], hl, rfl⟩))
      subst e
      rw [f4 o y hy] at hp
      cases hp
  · by_cases hn : o = n <;> by_cases hn' : o' = n
    · rw [hn, hn']
    · subst hn
      rw [updB_self] at g3
      rw [updB_ne _ _ _ hn'] at g4
      rw [updH_ne _ _ _ hn'] at g2
      injection g3 with g3
      subst g3
      simp only at g5
      have := h.heap.lt _ ⟨o', l', g2, g4, rfl⟩
      omega
    · subst hn'
      rw [updB_self] at g4
      rw [updB_ne _ _ _ hn] at g3
      rw [updH_ne _ _ _ hn] at g1
      injection g4 with g4
      subst g4
      simp only at g5
      have := h.heap.lt _ ⟨o, l, g1, g3, rfl⟩
      omega
    · rw [updB_ne _ _ _ hn] at g3
      rw [updB_ne _ _ _ hn'] at g4
      rw [updH_ne _ _ _ hn] at g1
      rw [updH_ne _ _ _ hn'] at g2
      exact h.heap.inj o o' l l' g1 g2 g3 g4 g5
  · rcases hb.upd with hb | ⟨l', e1, e2⟩
    · have := h.heap.lt b hb
      simp
      omega
    · injection e1 with e1
      subst e1
      simp only at e2
      simp
      omega
  · rcases hb.upd with hb | ⟨l', e1, e2⟩
    · exact h.heap.apart b hb hA
    · injection e1 with e1
      subst e1
      simp only at e2
      have := h.far b hA
      have := h.since.same.size
      omega

/-- An own object is written. -/
theorem SRb.putObj {C : Cx} {F : Fr} {β : Nat → Option Loc} {st : St} {a : Act} {w : World} {o : Nat} {l : Loc} {x y : AObj} (ob : Obj) (h : SRb C F β st a w)
    (ho : st.heap o = some x) (hl : β o = some l)
    (hobj : ∀ (w' : World), w' = { w with heap := w.heap.setIfInBounds l.blk ob } → w'.heap[l.blk]? = some ob → Same (Av F.A β st.heap) w w' → ∀ (O : Nat → Prop), (∀ b, b < w.heap.size → O b → Av F.A β st.heap b) → ObjR w' O β (some l) y) :
    SRb C F β ⟨st.env, updH st.heap o (some y)⟩ a { w with heap := w.heap.setIfInBounds l.blk ob } := by
  have hown : Own β st.heap l.blk := ⟨o, l, by simp [ho], hl, rfl⟩
  have hlt := h.heap.lt _ hown
  have hoth : ∀ b, b ≠ l.blk → (w.heap.setIfInBounds l.blk ob)[b]? = w.heap[b]? := fun b hb => by rw [Array.getElem?_setIfInBounds, if_neg (fun e => hb e.symm)]
  have hs : Same (Own β st.heap) w { w with heap := w.heap.setIfInBounds l.blk ob } := ⟨by simp, fun b hb hn => hoth b fun e => hn (e ▸ hown)⟩
  have hO : ∀ b, Own β (updH st.heap o (some y)) b → Own β st.heap b := by
    rintro b ⟨p, l', g1, g2, g3⟩
    by_cases hn : p = o
    · subst hn; exact ⟨p, l', by simp [ho], g2, g3⟩
    · rw [updH_ne _ _ _ hn] at g1; exact ⟨p, l', g1, g2, g3⟩
  have hne : ∀ p, updH st.heap o (some y) p ≠ none → st.heap p ≠ none := by
    intro p hp
    by_cases hn : p = o
    · subst hn; simp [ho]
    · rwa [updH_ne _ _ _ hn] at hp
  refine h.update hs rfl rfl rfl (fun b _ => hO b) (fun _ _ _ => rfl) (fun _ _ => rfl) ⟨fun p z hz => ?_, fun p p' m m' g1 g2 g3 g4 g5 => h.heap.inj p p' m m' (hne p g1) (hne p' g2) g3 g4 g5, fun b hb => by simpa using h.heap.lt b (hO b hb), fun b hb => h.heap.apart b (hO b hb)⟩
  by_cases hn : p = o
  · subst hn
    rw [updH_self] at hz
    injection hz with hz
    subst hz
    rw [hl]
    exact hobj _ rfl (by simp [hlt]) (hs.wider fun b => .inr) _ (fun b _ h1 => h1.imp id (hO b))
  · rw [updH_ne _ _ _ hn] at hz
    refine (h.heap.obj p z hz).mono (hs.wider fun b => .inr) (fun b _ h1 => h1.imp id (hO b)) (fun _ _ => rfl) fun m hm => hoth _ fun e' => hn (h.heap.inj p o m l (by simp [hz]) (by simp [ho]) hm hl e')

end Go.Aw
end
section
set_option linter.unusedVariables false
set_option linter.unusedSimpArgs false
namespace Go.Aw

section runs
variable {P : Program} (w : World)
theorem run_tSize {t : TypeId} {s : Nat} (h : tSize P t = some s) : (sizeOf t).run P w = .ok s w := by
  unfold tSize at h
  cases hi : P.info? t with
  | none => simp [hi] at h
  | some i =>
    simp only [hi, Option.map_some, Option.some.injEq] at h
    simp [sizeOf, typeInfo, hi, Result.andThen, h]
theorem run_tAgg {t : TypeId} {g : Bool} (h : tAgg P t = some g) : (isAgg t).run P w = .ok g w := by
  unfold tAgg at h
  unfold isAgg
  cases hu : P.underlying t with
  | none => simp [hu] at h
  | some d =>
    simp only [hu] at h
    rw [Sem.run_bind, run_underlying hu]
    simp only [Result.andThen]
    split at h <;> simp_all
theorem run_tElem {t e : TypeId} (h : tElem P t = some e) : P.underlying t = some (.slice e) := by
  unfold tElem at h
  split at h
  · injection h with h; subst h; assumption
  · cases h
theorem run_tZero {t : TypeId} {z : List AV} (h : tZero P t = some z) : ∃ v, (zeroValue t).run P w = .ok v w ∧ (ofValue v).cells = some z := by
  unfold tZero at h
  split at h
  · rename_i v hv
    refine ⟨v, ?_, h⟩
    cases hi : P.info? t with
    | none => simp [hi] at hv
    | some i =>
      simp only [hi, Option.bind_some] at hv
      simp [zeroValue, typeInfo, hi, Result.andThen, hv]
  · cases h
theorem run_tKind {t : TypeId} {k : TK} (h : tKind P t = some k) : match k with
    | .struct => ∃ fs, P.underlying t = some (.struct fs)
    | .arr n e => P.underlying t = some (.array n e)
    | .slice e => P.underlying t = some (.slice e)
    | .str => P.underlying t = some .string
    | .int k => P.underlying t = some (.int k)
    | .bool => P.underlying t = some .bool
    | .map k v => P.underlying t = some (.map k v)
    | .other => True := by
  unfold tKind at h
  split at h <;> first
    | (injection h with h; subst h; first | exact ⟨_, by assumption⟩ | assumption | trivial)
    | cases h
end runs

def Target (C : Cx) (F : Fr) (st : St) (a : Act) (run : Result Next) (Q : AV → Hp → Prop) : Prop :=
  ∃ v x h' w' β', (run = .ok (.value v) w' ∨ (run = .ok .skip w' ∧ v = undef)) ∧ SRb C F β' ⟨st.env, h'⟩ a w' ∧ VR w' (Av F.A β' h') β' x v ∧ Q x h'

theorem Target.value {C : Cx} {F : Fr} {st : St} {a : Act} {Q : AV → Hp → Prop} {β : Nat → Option Loc} {w : World} {x : AV} {v : Value} (h : SRb C F β st a w) (hv : VR w (Av F.A β st.heap) β x v) (hQ : Q x st.heap)
    {run : Result Next} (hr : run = .ok (.value v) w) : Target C F st a run Q := ⟨v, x, st.heap, w, β, .inl hr, h, hv, hQ⟩

section
variable {C : Cx} {F : Fr} {β : Nat → Option Loc} {st : St} {a : Act} {w : World} {n : Nat} {Q : AV → Hp → Prop}

/-- The address of cells that are read: what stands there. -/
theorem load_cells {P : Program} {t : TypeId} {s : Nat} {g : Bool} (hs : tSize P t = some s) (hg : tAgg P t = some g) (h0 : 0 < s) (h1 : g = false → s = 1) (b c : Nat) (vs : List Value) (hl : vs.length = s)
    (hc : ∀ m (h : m < vs.length), w.cell? ⟨b, c + m, none⟩ = some vs[m]) :
    (Instr.loadAt t (.pointer (some ⟨b, c, none⟩))).run P w = .ok (if g then .agg vs.toArray else vs.getD 0 undef) w := by
  have hadd : ∀ m, (⟨b, c, none⟩ : Addr).add m = ⟨b, c + m, none⟩ := by intro m; unfold Addr.add; split <;> simp_all
  simp only [Instr.loadAt, Instr.sureAddr, loadVar, Sem.run_bind, Sem.run_pure, Result.andThen_ok, run_tAgg w hg]
  cases g with
  | true =>
    have := run_loadCells_list (P := P) w ⟨b, c, none⟩ vs (fun j v hj => by
      obtain ⟨hj', e⟩ := List.getElem?_eq_some_iff.1 hj
      rw [hadd, hc j hj', e])
    rw [hl] at this
    simp only [if_true, Sem.run_bind, run_tSize w hs, Result.andThen_ok, this, Sem.run_pure]
  | false =>
    have h1 := h1 rfl
    have h2 := hc 0 (by omega)
    simp only [Nat.add_zero] at h2
    simp only [Bool.false_eq_true, if_false, run_load, h2]
    congr 1
    rw [List.getD_eq_getElem?_getD, List.getElem?_eq_getElem (by omega)]
    rfl

theorem cell_of_row {w : World} {b e : Nat} {cur : Array Value} {fr : Nat × Nat} (h : w.heap[b]? = some (.cells cur e fr)) (c : Nat) : w.cell? ⟨b, c, none⟩ = cur[c]? := by
  simp [World.cell?, h]

/-- The cells of a row from a place on. -/
theorem row_cells {w : World} {O : Nat → Prop} {β : Nat → Option Loc} {e k : Nat} {xs : List (List AV)} {l : Loc} (h : RowR w O β e k xs (some l)) (i j s : Nat) (hi : i < xs.length) (hj : j + s ≤ k) :
    ∃ vs : List Value, vs.length = s ∧ (∀ m (h : m < vs.length), w.cell? ⟨l.blk, l.c0 + i * l.k + j + m, none⟩ = some vs[m]) ∧ (∀ v ∈ vs, v.oneCell' = true) ∧
      ∀ m (h1 : m < s) (h2 : m < vs.length), VR w O β ((xs.getD i []).getD (j + m) .undef) vs[m] := by
  obtain ⟨h1, h2, h3, h4, cur, h5, h6, h7, h8⟩ := h
  have hx : xs.getD i [] = xs[i] := by rw [List.getD_eq_getElem?_getD, List.getElem?_eq_getElem hi]; rfl
  have hk : xs[i].length = k := h4 _ (List.getElem_mem hi)
  have key : ∀ m, m < s → ∃ v, cur[l.c0 + i * k + (j + m)]? = some v ∧ VR w O β ((xs.getD i []).getD (j + m) .undef) v := by
    intro m hm
    obtain ⟨v, g1, g2⟩ := h8 i (j + m) hi (by omega)
    refine ⟨v, g1, ?_⟩
    rw [hx, List.getD_eq_getElem?_getD, List.getElem?_eq_getElem (by omega)]
    exact g2
  refine ⟨(List.range s).map fun m => cur.getD (l.c0 + i * k + (j + m)) undef, by simp, fun m hm => ?_, fun v hv => ?_, fun m hm _ => ?_⟩
  · simp at hm
    obtain ⟨v, g1, g2⟩ := key m hm
    rw [cell_of_row h5, h1]
    simp only [List.getElem_map, List.getElem_range]
    rw [show l.c0 + i * k + j + m = l.c0 + i * k + (j + m) by omega, g1]
    simp [Array.getD_eq_getD_getElem?, g1]
  · simp only [List.mem_map, List.mem_range] at hv
    obtain ⟨m, hm, rfl⟩ := hv
    obtain ⟨v, g1, g2⟩ := key m hm
    obtain ⟨q1, q2⟩ := Array.getElem?_eq_some_iff.1 g1
    simp only [Array.getD_eq_getD_getElem?, g1, Option.getD_some]
    rw [← q2]
    exact h7 _ q1
  · obtain ⟨v, g1, g2⟩ := key m hm
    simpa [Array.getD_eq_getD_getElem?, g1] using g2

theorem partOf_VR {O : Nat → Prop} {g : Bool} {s off : Nat} {cs : List AV} {vs : List Value} (hl : vs.length = s) (hs : off + s ≤ cs.length) (h0 : 0 < s) (h1 : g = false → s = 1) (h1c : ∀ v ∈ vs, v.oneCell' = true)
    (h : ∀ m (h1 : m < s) (h2 : m < vs.length), VR w O β (cs.getD (off + m) .undef) vs[m]) : VR w O β (partOf g s off cs) (if g then .agg vs.toArray else vs.getD 0 undef) := by
  cases g with
  | true =>
    simp only [partOf, if_true]
    refine .agg _ _ (by simp; omega) (fun m hm => h1c _ (by simp)) (fun m g1 g2 => ?_)
    simp at g1 g2
    have := h m (by omega) g2
    rw [List.getD_eq_getElem?_getD, List.getElem?_eq_getElem (by omega)] at this
    simpa using this
  | false =>
    have := h1 rfl
    simp only [partOf, Bool.false_eq_true, if_false]
    have := h 0 (by omega) (by omega)
    rw [List.getD_eq_getElem?_getD (l := vs), List.getElem?_eq_getElem (by omega)]
    simpa using this

theorem load_sound (h : SRb C F β st a w) (t : TypeId) (x : AV) (v : Value) (hv : VR w (Av F.A β st.heap) β x v) {fr : Prop} (hwp : (aload C.P t x).wp n fr st.heap Q) :
    ∃ r y, (Instr.loadAt t v).run C.P w = .ok r w ∧ VR w (Av F.A β st.heap) β y r ∧ Q y st.heap := by
  unfold aload at hwp
  split at hwp
  · rename_i s g hs hg
    obtain ⟨h0, h1, hwp⟩ := hwp
    split at hwp
    · rename_i o i j
      obtain ⟨l, hl, rfl⟩ := hv.ptr_inv
      simp only [AM.wp] at hwp
      split at hwp
      · rename_i ob hob
        cases ob with
        | row e k xs =>
          obtain ⟨⟨hi, hj⟩, hQ⟩ := hwp
          have hR := h.heap.obj o _ hob
          rw [hl] at hR
          obtain ⟨vs, q1, q2, q3, q4⟩ := row_cells hR i j s hi hj
          refine ⟨_, _, load_cells hs hg h0 h1 l.blk (l.c0 + i * l.k + j) vs q1 q2, partOf_VR q1 ?_ h0 h1 q3 q4, hQ⟩
          rw [List.getD_eq_getElem?_getD, List.getElem?_eq_getElem hi]
          have := hR.2.2.2.1 _ (List.getElem_mem hi)
          simpa [this] using hj
        | _ => exact hwp.elim
      · exact hwp.elim
    · rename_i cs
      obtain ⟨⟨hle, _⟩, hQ⟩ := hwp
      cases hv.iptr_inv with
      | iptr _ b c vs hl hO hlt hc h1c hh =>
        refine ⟨_, _, load_cells hs hg h0 h1 b c (vs.take s) (by simp; omega) (fun m hm => by simp at hm; simpa using hc m (by omega)), partOf_VR (by simp; omega) (by omega) h0 h1 (fun u hu => h1c u (List.mem_of_mem_take hu)) (fun m g1 g2 => ?_), hQ⟩
        simp at g2
        rw [Nat.zero_add, List.getD_eq_getElem?_getD, List.getElem?_eq_getElem (by omega)]
        simpa using VR.imm (hh m (by omega) (by omega))
    · exact hwp.elim
  · exact hwp.elim

theorem splice_length {cs vs : List AV} {off : Nat} (h : off + vs.length ≤ cs.length) : (splice cs off vs).length = cs.length := by
  simp [splice]; omega
theorem splice_get {cs vs : List AV} {off m : Nat} (h : off + vs.length ≤ cs.length) :
    (splice cs off vs)[m]? = if m < off then cs[m]? else if m < off + vs.length then vs[m - off]? else cs[m]? := by
  have e : (List.take off cs).length = off := by simp; omega
  unfold splice
  by_cases h1 : m < off
  · rw [if_pos h1, List.append_assoc, List.getElem?_append_left (by omega), List.getElem?_take, if_pos h1]
  · rw [if_neg h1]
    by_cases h2 : m < off + vs.length
    · rw [if_pos h2, List.append_assoc, List.getElem?_append_right (by omega), e, List.getElem?_append_left (by omega)]
    · rw [if_neg h2, List.getElem?_append_right (by simp; omega), List.length_append, e, List.getElem?_drop]
      congr 1
      omega

/-- The same of the machine's cells. -/
theorem seg_get {cur : Array Value} {p : Nat} {us : List Value} (h : p + us.length ≤ cur.size) (m : Nat) :
    ((cur.toList.take p ++ us ++ cur.toList.drop (p + us.length)).toArray)[m]? = if m < p then cur[m]? else if m < p + us.length then us[m - p]? else cur[m]? := by
  have e : (List.take p cur.toList).length = p := by simp; omega
  simp only [List.getElem?_toArray]
  by_cases h1 : m < p
  · rw [if_pos h1, List.append_assoc, List.getElem?_append_left (by omega), List.getElem?_take, if_pos h1]; simp
  · rw [if_neg h1]
    by_cases h2 : m < p + us.length
    · rw [if_pos h2, List.append_assoc, List.getElem?_append_right (by omega), e, List.getElem?_append_left (by omega)]
    · rw [if_neg h2, List.getElem?_append_right (by simp; omega), List.length_append, e, List.getElem?_drop]
      rw [show p + us.length + (m - (p + us.length)) = m by omega]
      simp

theorem mulIdx {i i' j j' k : Nat} (hj : j < k) (hj' : j' < k) (h : i * k + j = i' * k + j') : i = i' ∧ j = j' := by
  have h1 : i = (i * k + j) / k := by rw [Nat.mul_comm, Nat.mul_add_div (by omega), Nat.div_eq_of_lt hj]; omega
  have h2 : i' = (i' * k + j') / k := by rw [Nat.mul_comm, Nat.mul_add_div (by omega), Nat.div_eq_of_lt hj']; omega
  have h3 : i = i' := by rw [h1, h2, h]
  subst h3
  exact ⟨rfl, by omega⟩

theorem store_sound (h : SRb C F β st a w) (t : TypeId) (x y : AV) (v u : Value) (hv : VR w (Av F.A β st.heap) β x v) (hu : VR w (Av F.A β st.heap) β y u) {fr : Prop} (hwp : (astore C.P t x y).wp n fr st.heap Q) :
    ∃ w' h', (Instr.storeAt t v u).run C.P w = .ok () w' ∧ SRb C F β ⟨st.env, h'⟩ a w' ∧ Q .undef h' := by
  unfold astore at hwp
  split at hwp
  · rename_i s vs hs hc
    obtain ⟨hlen, hwp⟩ := hwp
    split at hwp
    · rename_i o i j
      obtain ⟨l, hl, rfl⟩ := hv.ptr_inv
      simp only [AM.wp] at hwp
      split at hwp
      · rename_i ob hob
        cases ob with
        | row e k xs =>
          obtain ⟨⟨hi, hj⟩, _, hQ⟩ := hwp
          have hR := h.heap.obj o _ hob
          rw [hl] at hR
          obtain ⟨k1, k2, k3, k4, cur, k5, k6, k7, k8⟩ := hR
          obtain ⟨c1, c2, c3⟩ := hu.cells_inv hc
          have hxi : xs.getD i [] = xs[i] := by rw [List.getD_eq_getElem?_getD, List.getElem?_eq_getElem hi]; rfl
          have hki : xs[i].length = k := k4 _ (List.getElem_mem hi)
          have hik : i * k + k ≤ l.cap * k := by
            have : (i + 1) * k ≤ l.cap * k := Nat.mul_le_mul_right _ (by omega)
            rw [Nat.add_mul] at this; omega
          have hrun := run_storeCells_at (P := C.P) l.blk (l.c0 + i * l.k + j) e u.cells.toList 0 cur w k5 (by rw [k1]; simp; omega) (fun v' hv' => by
            obtain ⟨m, hm, rfl⟩ := List.getElem_of_mem hv'
            simpa using c2 m (by simpa using hm))
          have hp : l.c0 + i * l.k + j + 0 + u.cells.toList.length ≤ cur.size := by rw [k1]; simp; omega
          have hget := seg_get (p := l.c0 + i * l.k + j + 0) (us := u.cells.toList) hp
          generalize hcur' : (cur.toList.take (l.c0 + i * l.k + j + 0) ++ u.cells.toList ++ cur.toList.drop (l.c0 + i * l.k + j + 0 + u.cells.toList.length)).toArray = cur' at hrun hget
          have hsz' : cur'.size = cur.size := by rw [← hcur']; simp at hp ⊢; omega
          have hsp : (splice xs[i] j vs).length = k := by rw [splice_length (by omega), hki]
          refine ⟨w.setRow l.blk cur', _, ?_, h.putRow (ys := xs.set i (splice (xs.getD i []) j vs)) hob hl k5 (by simp [World.setRow]) (setRow_heap w _ _ _ _ _ k5) ?_ rfl rfl rfl hsz' (by simpa using k2) ?_ ?_ ?_, hQ⟩
          · simp only [Instr.storeAt, Instr.sureAddr, storeVar, Sem.run_bind, Sem.run_pure, Result.andThen_ok, run_tSize w hs]
            rw [if_neg (by omega)]
            exact hrun
          · intro b hb
            simp only [World.setRow, Array.getElem?_modify]
            rw [if_neg (fun e' => hb e'.symm)]
          · intro y hy
            rcases List.mem_or_eq_of_mem_set hy with hy | hy
            · exact k4 y hy
            · rw [hy, hxi]; exact hsp
          · intro m hm
            have hg := hget m
            rw [Array.getElem?_eq_getElem hm] at hg
            split at hg
            · obtain ⟨q1, q2⟩ := Array.getElem?_eq_some_iff.1 hg.symm
              rw [← q2]; exact k7 m q1
            · split at hg
              · obtain ⟨q1, q2⟩ := List.getElem?_eq_some_iff.1 hg.symm
                rw [← q2]; simpa using c2 _ (by simpa using q1)
              · obtain ⟨q1, q2⟩ := Array.getElem?_eq_some_iff.1 hg.symm
                rw [← q2]; exact k7 m q1
          · intro i' j' g1 g2
            simp only [List.length_set] at g1
            have hki' : xs[i'].length = k := k4 _ (List.getElem_mem g1)
            have hj'k : j' < k := by
              simp only [List.getElem_set] at g2
              split at g2
              · rw [hxi, hsp] at g2; exact g2
              · omega
            have old := k8 i' j' g1 (by omega)
            rw [hget]
            by_cases hi' : i' = i
            · subst hi'
              have hspl : ((xs.set i' (splice (xs.getD i' []) j vs))[i']'(by simpa using g1))[j']? = (splice xs[i'] j vs)[j']? := by rw [List.getElem_set_self, hxi]
              have hgetsp := splice_get (cs := xs[i']) (vs := vs) (off := j) (m := j') (by omega)
              by_cases hin : j ≤ j' ∧ j' < j + vs.length
              · obtain ⟨v', e1, e2⟩ := VR.row_of c3 c1 (j' - j) (by omega)
                refine ⟨v', ?_, ?_⟩
                · rw [if_neg (by rw [k1]; omega), if_pos (by rw [k1]; simp; omega)]
                  rw [show l.c0 + i' * k + j' - (l.c0 + i' * l.k + j + 0) = j' - j by rw [k1]; omega]
                  simpa using e1
                · rw [hgetsp, if_neg (by omega), if_pos hin.2, List.getElem?_eq_getElem g2, List.getElem?_eq_getElem (by omega)] at hspl
                  injection hspl with hspl
                  rw [hspl]; exact e2
              · obtain ⟨v', e1, e2⟩ := old
                refine ⟨v', ?_, ?_⟩
                · by_cases hlt : j' < j
                  · rw [if_pos (by rw [k1]; omega)]; exact e1
                  · rw [if_neg (by rw [k1]; omega), if_neg (by rw [k1]; simp; omega)]; exact e1
                · have : (splice xs[i'] j vs)[j']? = xs[i'][j']? := by
                    rw [hgetsp]
                    by_cases hlt : j' < j
                    · rw [if_pos hlt]
                    · rw [if_neg hlt, if_neg (by omega)]
                  rw [this, List.getElem?_eq_getElem g2, List.getElem?_eq_getElem (by omega)] at hspl
                  injection hspl with hspl
                  rw [hspl]; exact e2
            · obtain ⟨v', e1, e2⟩ := old
              have hne : ∀ q, q < k → i' * k + j' ≠ i * k + q := fun q hq e' => hi' (mulIdx hj'k hq e').1
              have hout : i' * k + j' < i * k + j ∨ i * k + j + vs.length ≤ i' * k + j' := by
                rcases Nat.lt_or_ge (i' * k + j') (i * k + j) with h9 | h9
                · exact .inl h9
                · refine .inr ?_
                  rcases Nat.lt_or_ge (i' * k + j') (i * k + j + vs.length) with h10 | h10
                  · exact absurd (by omega) (hne (i' * k + j' - i * k) (by omega))
                  · exact h10
              refine ⟨v', ?_, ?_⟩
              · rcases hout with h9 | h9
                · rw [if_pos (by rw [k1]; omega)]; exact e1
                · rw [if_neg (by rw [k1]; omega), if_neg (by rw [k1]; simp; omega)]; exact e1
              · have : ((xs.set i (splice (xs.getD i []) j vs))[i']'(by simpa using g1)) = xs[i'] := by
                  rw [List.getElem_set_ne (by omega)]
                simp only [this]
                exact e2
        | _ => exact hwp.elim
      · exact hwp.elim
    · exact hwp.elim
  · exact hwp.elim

theorem run_newVar {P : Program} (t : TypeId) (v : Value) : (newVar t v).run P w = .ok ⟨w.heap.size, 0, none⟩ (w.alloc (.cells v.cells t)) := by
  simp [newVar, newRow, newObj, Sem.run, Result.andThen]

/-- A new variable with some cells. -/
theorem new_sound (h : SRb C F β st a w) (t : TypeId) (x : AV) (v : Value) (z : List AV) (hv : VR w (Av F.A β st.heap) β x v) (hz : x.cells = some z)
    (hwp : (AM.new (.row t z.length [z]) fun n => .pure (.ptr n 0 0)).wp n (Fresh C st n) st.heap Q) {run : Result Next}
    (hr : run = .ok (.value (.pointer (some ⟨w.heap.size, 0, none⟩))) (w.alloc (.cells v.cells t))) : Target C F st a run Q := by
  obtain ⟨hf, hn, hQ⟩ := hwp
  obtain ⟨c1, c2, c3⟩ := hv.cells_inv hz
  obtain ⟨h', _⟩ := h.newRow hf t z.length [z] v.cells hn (by simp) (by simp [c1]) 1 (by simp) (by simp [c1]) (by simp [maxLen]) c2 (fun i j g1 g2 => by
    simp at g1
    subst g1
    simp at g2
    obtain ⟨u, e1, e2⟩ := VR.row_of c3 c1 j g2
    exact ⟨u, by simpa using e1, e2⟩)
  have hp := VR.ptr (w := w.alloc (.cells v.cells t)) (O := Av F.A (updB β n (some ⟨w.heap.size, 0, z.length, 1⟩)) (updH st.heap n (some (.row t z.length [z])))) (β := updB β n (some ⟨w.heap.size, 0, z.length, 1⟩)) n 0 0 ⟨w.heap.size, 0, z.length, 1⟩ (updB_self ..)
  exact ⟨_, _, _, _, _, .inl hr, h', by simpa using hp, hQ⟩

theorem bin_sound (op : BinOp) (t : TypeId) (x y : AV) (ox oy : Operand) (v u : Value) (hv : VR w (Av F.A β st.heap) β x v) (hu : VR w (Av F.A β st.heap) β y u) {fr : Prop} (hwp : (abin op x y).wp n fr st.heap Q) :
    ∃ r z, (do eqGuard op t ox oy v u; binOp op t v u : Sem Value).run C.P w = .ok r w ∧ VR w (Av F.A β st.heap) β z r ∧ Q z st.heap := by
  unfold abin at hwp
  split at hwp
  · rename_i k a k' b
    obtain rfl := hv.int_inv
    obtain rfl := hu.int_inv
    obtain ⟨rfl, hwp⟩ := hwp
    have hg : (eqGuard op t ox oy (.int k a) (.int k b)).run C.P w = .ok () w := by
      unfold eqGuard
      split <;> simp [Sem.run]
    simp only [Sem.run_bind, hg, Result.andThen_ok]
    cases op <;> simp only [AM.wp] at hwp <;> first
      | exact hwp.elim
      | (refine ⟨_, _, ?_, .imm (.int _ _), hwp⟩; simp [binOp, Op.intArith, Sem.run]; done)
      | (refine ⟨_, _, ?_, .imm (.bool _), hwp⟩; simp [binOp, Op.intCmp, Sem.run]; done)
      | (refine ⟨_, _, ?_, .imm (.bool _), hwp⟩; simp [binOp, Op.intCmp, Sem.run]; rfl)
      | (obtain ⟨h0, hwp⟩ := hwp; refine ⟨_, _, ?_, .imm (.int _ _), hwp⟩; simp [binOp, Op.intDiv, h0, Sem.run])
  · rename_i s1 s2
    obtain rfl := hv.str_inv
    obtain rfl := hu.str_inv
    have hg : (eqGuard op t ox oy (.string s1) (.string s2)).run C.P w = .ok () w := by
      unfold eqGuard
      split <;> simp [Sem.run]
    simp only [Sem.run_bind, hg, Result.andThen_ok]
    cases op <;> simp only [AM.wp] at hwp <;> first
      | exact hwp.elim
      | (refine ⟨_, _, ?_, .imm (.bool _), hwp⟩; simp [binOp, Op.stringOp, Sem.run]; done)
      | (obtain ⟨h0, hwp⟩ := hwp; refine ⟨_, _, ?_, .imm (.str _), hwp⟩; simp only [binOp, Op.stringOp]; rw [if_neg (by simp [IntKind.max, IntKind.bits, IntKind.signed] at *; omega)]; rfl)
  · exact hwp.elim

theorem addr_add (b c m : Nat) : (⟨b, c, none⟩ : Addr).add m = ⟨b, c + m, none⟩ := by unfold Addr.add; split <;> simp_all

theorem run_tField {P : Program} {t : TypeId} {f off sz : Nat} (h : tField P t f = some (off, sz)) (h0 : 0 < sz) (b c : Nat) :
    (Instr.fieldAt t (.pointer (some ⟨b, c, none⟩)) f).run P w = .ok (.pointer (some ⟨b, c + off, none⟩)) w := by
  unfold tField at h
  split at h
  · rename_i fs hu
    cases hf : fs[f]? with
    | none => simp [hf] at h
    | some fd =>
      simp only [hf, Option.bind_some] at h
      cases hs : tSize P fd.type with
      | none => simp [hs] at h
      | some s =>
        simp only [hs, Option.map_some, Option.some.injEq, Prod.mk.injEq] at h
        obtain ⟨rfl, rfl⟩ := h
        simp only [Instr.fieldAt, Sem.run_bind, run_underlying hu, Result.andThen_ok, hf, Instr.sureAddr, Sem.run_pure, fieldPlace, run_tSize w hs]
        rw [if_neg (by omega)]
        simp [Sem.run, addr_add]
  · cases h

theorem field_sound (h : SRb C F β st a w) (s : TypeId) (x : AV) (v : Value) (f off sz : Nat) (hf : tField C.P s f = some (off, sz)) (h0 : 0 < sz) (hv : VR w (Av F.A β st.heap) β x v) {fr : Prop}
    (hwp : (match x with
      | .ptr o i j => AM.pure (AV.ptr o i (j + off))
      | .iptr cs => .guard (off ≤ cs.length) (.pure (.iptr (cs.drop off)))
      | _ => .fail).wp n fr st.heap Q) :
    ∃ r y, (Instr.fieldAt s v f).run C.P w = .ok r w ∧ VR w (Av F.A β st.heap) β y r ∧ Q y st.heap := by
  split at hwp
  · rename_i o i j
    obtain ⟨l, hl, rfl⟩ := hv.ptr_inv
    refine ⟨_, _, run_tField hf h0 _ _, ?_, hwp⟩
    rw [show l.c0 + i * l.k + j + off = l.c0 + i * l.k + (j + off) by omega]
    exact .ptr o i (j + off) l hl
  · rename_i cs
    obtain ⟨hle, hQ⟩ := hwp
    cases hv.iptr_inv with
    | iptr _ b c vs hl hO hlt hc h1c hh =>
      refine ⟨_, _, run_tField hf h0 _ _, .imm (.iptr _ b (c + off) (vs.drop off) (by simp [hl]) hO hlt (fun m hm => ?_) (fun u hu => h1c u (List.mem_of_mem_drop hu)) (fun m g1 g2 => ?_)), hQ⟩
      · simp at hm
        have := hc (off + m) (by omega)
        rw [show c + off + m = c + (off + m) by omega]
        simpa using this
      · simp at g1 g2
        simpa using hh (off + m) (by omega) (by omega)
  · exact hwp.elim

theorem index_run {P : Program} {t e : TypeId} {s : Nat} (ht : P.underlying t = some (.slice e)) (hs : tSize P e = some s) (b c len cap : Nat) (k : IntKind) (i : Int) (h : 0 ≤ i ∧ i < len) :
    (Instr.indexAt t (.slice (some ⟨b, c, none⟩) len cap) (.int k i)).run P w = .ok (.pointer (some ⟨b, c + i.toNat * s, none⟩)) w := by
  simp only [Instr.indexAt, asIntOf, Sem.run_bind, Sem.run_pure, Result.andThen_ok, run_underlying ht]
  simp only [Bool.and_false, Bool.false_eq_true]
  rw [if_pos h]
  simp only [Sem.run_bind, run_tSize w hs, Result.andThen_ok, Sem.run_pure, addr_add]

theorem index_sound (h : SRb C F β st a w) (t e : TypeId) (ht : C.P.underlying t = some (.slice e)) (x y : AV) (v u : Value) (hv : VR w (Av F.A β st.heap) β x v) (hu : VR w (Av F.A β st.heap) β y u) {fr : Prop}
    (hwp : (aindex C.P e x y).wp n fr st.heap Q) :
    ∃ r z, (Instr.indexAt t v u).run C.P w = .ok r w ∧ VR w (Av F.A β st.heap) β z r ∧ Q z st.heap := by
  unfold aindex at hwp
  split at hwp
  · rename_i o off len full kk i
    obtain rfl := hu.int_inv
    split at hwp
    · rename_i s hs
      simp only [AM.wp] at hwp
      split at hwp
      · rename_i ob hob
        cases ob with
        | row e' k xs =>
          obtain ⟨rfl, hi, hQ⟩ := hwp
          rcases hv.sl_inv with ⟨l, cap, A, hl, g1, g2, g3, g4, g5, rfl⟩ | ⟨_, _, g3, _⟩
          · obtain rfl := g5 (by omega)
            refine ⟨_, _, index_run ht hs _ _ _ _ _ _ hi, ?_, hQ⟩
            have hR := h.heap.obj o _ hob
            rw [hl] at hR
            have hk : l.k = k := hR.1
            have := VR.ptr (w := w) (O := Av F.A β st.heap) o (off + i.toNat) 0 l hl
            rw [hk] at this
            rw [hk, show l.c0 + off * k + i.toNat * k = l.c0 + (off + i.toNat) * k + 0 by rw [Nat.add_mul]; omega]
            exact this
          · subst g3; exact absurd hi.2 (by have := hi.1; omega)
        | _ => exact hwp.elim
      · exact hwp.elim
    · exact hwp.elim
  · rename_i f xs kk i
    obtain rfl := hu.int_inv
    split at hwp
    · rename_i s hs
      obtain ⟨hi, hlen, hQ⟩ := hwp
      cases hv.isl_inv with
      | isl _ _ A cap k hcap hmax hk hf hn hA vs h1c hc hh =>
        obtain ⟨b, c, rfl, hO, hlt⟩ := hA (by omega)
        have hin : i.toNat < xs.length := by omega
        have hx : xs.getD i.toNat [] = xs[i.toNat] := by rw [List.getD_eq_getElem?_getD, List.getElem?_eq_getElem hin]; rfl
        have hks : k = s := by rw [← hlen, hx]; exact (hk _ (List.getElem_mem hin)).symm
        subst hks
        refine ⟨_, _, index_run ht hs _ _ _ _ _ _ hi, .imm (.iptr _ b (c + i.toNat * k) ((List.range k).map fun j => vs i.toNat j) (by rw [hlen]; simp) hO hlt (fun m hm => ?_) (fun u hu => ?_) (fun m g1 g2 => ?_)), hQ⟩
        · simp at hm
          simpa using hc b c rfl i.toNat m hin hm
        · simp only [List.mem_map, List.mem_range] at hu
          obtain ⟨m, hm, rfl⟩ := hu
          exact h1c _ _ hin hm
        · simp at g2
          have := hh i.toNat m hin (by rw [hx] at g1; exact g1)
          have e1 : (xs.getD i.toNat [])[m] = xs[i.toNat][m]'(by rw [hx] at g1; exact g1) := by simp only [hx]
          rw [e1]
          simpa using this
    · exact hwp.elim
  · exact hwp.elim
end

end Go.Aw
end
section
set_option linter.unusedVariables false
set_option linter.unusedSimpArgs false
namespace Go.Aw

section runs
variable {P : Program} (w : World)
theorem run_append_growG (t xt ty e : TypeId) (i : TypeInfo) (z : Value) (e2 : TypeId) (ht : P.underlying t = some (.slice e)) (hi : P.info? e = some i) (hz : i.zero = some z) (hx : P.underlying xt = some (.slice e2))
    (A : Option Addr) (sLen sCap : Nat) (olds news : Array Value) (holds : ∀ W : World, W.heap = w.heap → (Builtin.firstCells i.size sLen (.slice A sLen sCap)).run P W = .ok olds W)
    (x : Value) (m : Nat) (hm : Builtin.lenOf x = (pure m : Sem Nat)) (hnews : ∀ W : World, W.heap = w.heap → (Builtin.firstCells i.size m x).run P W = .ok news W)
    (hg : sCap < sLen + m) (h63 : sLen + m ≤ 9223372036854775807) (hfit : (sLen + m) * i.bytes ≤ 140737488355328) :
    (Builtin.append_ #[t, xt] ty #[.slice A sLen sCap, x]).run P w =
      .ok (.slice (some ⟨w.heap.size, 0, none⟩) (sLen + m) (grownCap w (sLen + m) sCap e)) (w.drew.alloc (.cells (olds ++ news ++ Builtin.zeroCells z.cells (grownCap w (sLen + m) sCap e - (sLen + m))) e)) := by
  have hn : ¬ (sLen + m ≤ sCap) := by omega
  have h63' : ¬ (9223372036854775807 < ((sLen : Int) + (m : Int))) := by omega
  have h48' : ¬ (281474976710656 < Builtin.nextslicecap (sLen + m) sCap * i.bytes) := by have := growslice_fits hg hfit; omega
  have hf := hnews w.drew rfl
  have hfo := holds w.drew rfl
  simp only [Builtin.append_, Sem.run_bind, run_underlying ht, run_underlying hx, Result.andThen_ok, hm, Sem.run_pure, List.getElem?_toArray, List.getElem?_cons_zero, List.getElem?_cons_succ]
  simp [run_underlying ht, run_underlying hx, sizeOf, typeInfo, zeroValue, hi, hz, hn, h63', h48', Question.forced, hf, hfo, newRow, grownCap, hm, Result.andThen]
  rfl

theorem run_append_roomG (t xt ty e : TypeId) (i : TypeInfo) (e2 : TypeId) (ht : P.underlying t = some (.slice e)) (hi : P.info? e = some i) (hx : P.underlying xt = some (.slice e2))
    (A : Option Addr) (sLen sCap : Nat) (news : Array Value) (x : Value) (m : Nat) (hm : Builtin.lenOf x = (pure m : Sem Nat)) (hnews : (Builtin.firstCells i.size m x).run P w = .ok news w)
    (hg : sLen + m ≤ sCap) (w1 : World) (hst : (if let some a := A then storeCells (a.add (sLen * i.size)) news.toList else pure () : Sem Unit).run P w = .ok () w1) :
    (Builtin.append_ #[t, xt] ty #[.slice A sLen sCap, x]).run P w = .ok (.slice A (sLen + m) sCap) w1 := by
  cases A with
  | none =>
    simp only [Sem.run_pure, Result.ok.injEq, true_and] at hst
    subst hst
    simp [Builtin.append_, run_underlying ht, run_underlying hx, sizeOf, typeInfo, hi, hm, hg, hnews, Result.andThen]
  | some a =>
    simp only at hst
    simp [Builtin.append_, run_underlying ht, run_underlying hx, sizeOf, typeInfo, hi, hm, hg, hnews, hst, Result.andThen]
end runs

section
variable {C : Cx} {F : Fr} {β : Nat → Option Loc} {st : St} {a : Act} {w : World} {n : Nat}

/-- A draw turns nothing. -/
theorem SRb.drew (h : SRb C F β st a w) : SRb C F β st a w.drew := by
  have := h.update (w' := w.drew) (β' := β) (h' := st.heap) ⟨Nat.le_refl _, fun _ _ _ => rfl⟩ rfl rfl rfl (fun _ _ h => h) (fun _ _ _ => rfl) (fun _ _ => rfl)
    ⟨fun o x hx => (h.heap.obj o x hx).mono ⟨Nat.le_refl _, fun _ _ _ => rfl⟩ (fun _ _ h => h) (fun _ _ => rfl) (fun _ _ => rfl), h.heap.inj, h.heap.lt, h.heap.apart⟩
  exact this

/-- An empty row without memory. -/
theorem SRb.newNil (h : SRb C F β st a w) (hf : Fresh C st n) (e k : Nat) : SRb C F (updB β n none) ⟨st.env, updH st.heap n (some (.row e k []))⟩ a w := by
  obtain ⟨f1, f2, f3, f4⟩ := hf
  have hO : ∀ b, Own (updB β n none) (updH st.heap n (some (.row e k []))) b → Own β st.heap b := by
    intro b h'
    rcases h'.upd with h' | ⟨l', e1, e2⟩
    · exact h'
    · cases e1
  refine h.update (Same.refl _ w) rfl rfl rfl (fun b _ => hO b) (fun t o ho => updB_ne _ _ _ fun e => ?_) (fun o ho => updB_ne _ _ _ fun e => f1 (e ▸ ho)) ⟨fun o x hx' => ?_, fun o o' l l' g1 g2 g3 g4 g5 => ?_, fun b hb => h.heap.lt b (hO b hb), fun b hb => h.heap.apart b (hO b hb)⟩
  · subst e; rw [f3 t] at ho; cases ho
  · by_cases hn : o = n
    · subst hn
      rw [updH_self] at hx'
      injection hx' with hx'
      subst hx'
      rw [updB_self]
      exact rfl
    · rw [updH_ne _ _ _ hn] at hx'
      rw [updB_ne _ _ _ hn]
      refine (h.heap.obj o x hx').mono (Same.refl _ w) (fun b _ h1 => h1.imp id (hO b)) (fun p hp => updB_ne _ _ _ fun e => ?_) (fun _ _ => rfl)
      subst e
      rw [f4 o x hx'] at hp
      cases hp
  · have q1 : o ≠ n := fun e => by subst e; rw [updB_self] at g3; cases g3
    have q2 : o' ≠ n := fun e => by subst e; rw [updB_self] at g4; cases g4
    rw [updB_ne _ _ _ q1] at g3
    rw [updB_ne _ _ _ q2] at g4
    rw [updH_ne _ _ _ q1] at g1
    rw [updH_ne _ _ _ q2] at g2
    exact h.heap.inj o o' l l' g1 g2 g3 g4 g5

/-- A row under another name, from a later element on. -/
theorem SRb.rebase (h : SRb C F β st a w) (hf : Fresh C st n) {o e k off : Nat} {xs : List (List AV)} {l : Loc} (ho : st.heap o = some (.row e k xs)) (hl : β o = some l) (hoff : off ≤ xs.length) :
    SRb C F (updB β n (some ⟨l.blk, l.c0 + off * k, k, l.cap - off⟩)) ⟨st.env, updH (updH st.heap o none) n (some (.row e k (xs.drop off)))⟩ a w := by
  have hd := h.del o
  obtain ⟨f1, f2, f3, f4⟩ := hf
  have hon : o ≠ n := fun e => by subst e; rw [f2] at ho; cases ho
  have hO : ∀ b, Own (updB β n (some ⟨l.blk, l.c0 + off * k, k, l.cap - off⟩)) (updH (updH st.heap o none) n (some (.row e k (xs.drop off)))) b → Own β st.heap b := by
    intro b h'
    rcases h'.upd with ⟨p, l', h1, h2, h3⟩ | ⟨l', e1, e2⟩
    · by_cases hp : p = o
      · subst hp; rw [updH_self] at h1; exact absurd rfl h1
      · rw [updH_ne _ _ _ hp] at h1; exact ⟨p, l', h1, h2, h3⟩
    · injection e1 with e1
      subst e1
      exact ⟨o, l, by simp [ho], hl, e2⟩
  refine h.update (Same.refl _ w) rfl rfl rfl (fun b _ => hO b) (fun t p hp => updB_ne _ _ _ fun e => ?_) (fun p hp => updB_ne _ _ _ fun e => f1 (e ▸ hp)) ⟨fun p x hx' => ?_, fun p p' m m' g1 g2 g3 g4 g5 => ?_, fun b hb => h.heap.lt b (hO b hb), fun b hb => h.heap.apart b (hO b hb)⟩
  · subst e; rw [f3 t] at hp; cases hp
  · by_cases hn : p = n
    · subst hn
      rw [updH_self] at hx'
      injection hx' with hx'
      subst hx'
      rw [updB_self]
      have hold := h.heap.obj o _ ho
      rw [hl] at hold
      obtain ⟨k1, k2, k3, k4, cur, k5, k6, k7, k8⟩ := hold
      have hmul : off * k + (l.cap - off) * k ≤ l.cap * k := by
        rw [← Nat.add_mul]; exact Nat.mul_le_mul_right _ (by omega)
      refine ⟨rfl, by simp; omega, by simp; omega, fun x hx => k4 x (List.mem_of_mem_drop hx), cur, k5, by simp; omega, k7, fun i j g1 g2 => ?_⟩
      simp at g1
      have e0 : (xs.drop off)[i]'(by simpa using g1) = xs[off + i]'(by omega) := by simp
      rw [e0] at g2
      obtain ⟨v, q1, q2⟩ := k8 (off + i) j (by omega) g2
      refine ⟨v, by rw [← q1]; congr 1; simp only [Nat.add_mul]; omega, ?_⟩
      simp only [e0]
      refine q2.mono (Same.refl _ w) (fun b _ h1 => h1.imp id (hO b)) fun p hp => updB_ne _ _ _ fun e => ?_
      subst e
      have := f4 o _ ho
      simp only [AObj.has] at this
      rw [hasLL_mem (off + i) (by omega) (AV.hasL_get j g2 hp)] at this
      cases this
    · rw [updH_ne _ _ _ hn] at hx'
      rw [updB_ne _ _ _ hn]
      by_cases hp : p = o
      · subst hp; rw [updH_self] at hx'; cases hx'
      · rw [updH_ne _ _ _ hp] at hx'
        refine (h.heap.obj p x hx').mono (Same.refl _ w) (fun b _ h1 => h1.imp id (hO b)) (fun q hq => updB_ne _ _ _ fun e => ?_) (fun _ _ => rfl)
        subst e
        rw [f4 p x hx'] at hq
        cases hq
  · have case1 : ∀ p m, updH (updH st.heap o none) n (some (.row e k (xs.drop off))) p ≠ none → updB β n (some ⟨l.blk, l.c0 + off * k, k, l.cap - off⟩) p = some m → (p = n ∧ m.blk = l.blk) ∨ (p ≠ n ∧ p ≠ o ∧ st.heap p ≠ none ∧ β p = some m) := by
      intro p m q1 q2
      by_cases hn : p = n
      · subst hn
        rw [updB_self] at q2
        injection q2 with q2
        subst q2
        exact .inl ⟨rfl, rfl⟩
      · rw [updB_ne _ _ _ hn] at q2
        rw [updH_ne _ _ _ hn] at q1
        by_cases hp : p = o
        · subst hp; rw [updH_self] at q1; exact absurd rfl q1
        · rw [updH_ne _ _ _ hp] at q1
          exact .inr ⟨hn, hp, q1, q2⟩
    rcases case1 p m g1 g3 with ⟨q1, q2⟩ | ⟨q1, q2, q3, q4⟩ <;> rcases case1 p' m' g2 g4 with ⟨r1, r2⟩ | ⟨r1, r2, r3, r4⟩
    · rw [q1, r1]
    · exact absurd (h.heap.inj p' o m' l r3 (by simp [ho]) r4 hl (by omega)) r2
    · exact absurd (h.heap.inj p o m l q3 (by simp [ho]) q4 hl (by omega)) q2
    · exact h.heap.inj p p' m m' q3 r3 q4 r4 g5

/-- Some elements' cells in the memory: what a slice that is read gives. -/
def Cells (w : World) (O : Nat → Prop) (β : Nat → Option Loc) (k : Nat) (ys : List (List AV)) (news : Array Value) : Prop :=
  news.size = ys.length * k ∧ (∀ (m : Nat) (h : m < news.size), (news[m]).oneCell' = true) ∧ ∀ i j (h1 : i < ys.length) (h2 : j < ys[i].length), ∃ v, news[i * k + j]? = some v ∧ VR w O β ys[i][j] v

theorem addr_add' (b c m : Nat) : (⟨b, c, none⟩ : Addr).add m = ⟨b, c + m, none⟩ := by unfold Addr.add; split <;> simp_all

/-- Reading the first m elements of a slice that nobody writes. -/
theorem isl_source {P : Program} {O : Nat → Prop} {f : Flag} {ys : List (List AV)} {v : Value} {k : Nat} (hv : IR w O (.isl f ys) v) (hk : lenAll k ys) :
    ∃ A cap, v = .slice A ys.length cap ∧ ys.length ≤ cap ∧ cap ≤ maxLen ∧ (f = .full → cap = ys.length) ∧ (f = .nil → A = none ∧ cap = 0) ∧
      ∃ news : Array Value, (∀ W : World, W.heap = w.heap → (Builtin.firstCells k ys.length v).run P W = .ok news W) ∧ Cells w O β k ys news := by
  cases hv with
  | isl _ _ A cap k' hcap hmax hk' hf hn hA vs h1c hc hh =>
    by_cases h0 : ys.length = 0
    · have : ys = [] := List.eq_nil_of_length_eq_zero h0
      subst this
      refine ⟨A, cap, rfl, hcap, hmax, hf, hn, #[], fun W _ => ?_, by simp [Cells]⟩
      cases A with
      | none => simp [Builtin.firstCells, Sem.run]
      | some ad => simp [Builtin.firstCells, loadCells, loadCellsFrom, Sem.run]
    · obtain ⟨b, c, rfl, hO, hlt⟩ := hA (by omega)
      have hkk : k' = k := by
        have h1 := hk' _ (List.getElem_mem (show 0 < ys.length by omega))
        have h2 := hk _ (List.getElem_mem (show 0 < ys.length by omega))
        omega
      subst hkk
      have hdiv : ∀ m, m < ys.length * k' → m / k' < ys.length ∧ m % k' < k' := by
        intro m hm
        have hk0 : 0 < k' := by rcases Nat.eq_zero_or_pos k' with e | e; · subst e; simp at hm
                                · exact e
        exact ⟨Nat.div_lt_of_lt_mul (by rwa [Nat.mul_comm]), Nat.mod_lt _ hk0⟩
      refine ⟨_, cap, rfl, hcap, hmax, hf, hn, ((List.range (ys.length * k')).map fun m => vs (m / k') (m % k')).toArray, fun W hW => ?_, ?_⟩
      · refine run_firstCells_some W k' ys.length ⟨b, c, none⟩ ys.length cap _ (by simp) fun m v hm => ?_
        obtain ⟨hm', e⟩ := List.getElem?_eq_some_iff.1 hm
        simp at hm'
        obtain ⟨d1, d2⟩ := hdiv m hm'
        rw [addr_add']
        have := hc b c rfl (m / k') (m % k') d1 d2
        rw [show c + m = c + m / k' * k' + m % k' by have := Nat.div_add_mod m k'; rw [Nat.mul_comm] at this; omega]
        have e' : W.cell? ⟨b, c + m / k' * k' + m % k', none⟩ = w.cell? ⟨b, c + m / k' * k' + m % k', none⟩ := cell_of_block (by rw [hW])
        rw [e', this]
        simpa using e
      · refine ⟨by simp, fun m hm => ?_, fun i j g1 g2 => ?_⟩
        · simp at hm
          obtain ⟨d1, d2⟩ := hdiv m hm
          simpa using h1c _ _ d1 d2
        · have hj : j < k' := by rw [← hk _ (List.getElem_mem g1)]; exact g2
          have hlt' : i * k' + j < ys.length * k' := by
            have : (i + 1) * k' ≤ ys.length * k' := Nat.mul_le_mul_right _ (by omega)
            rw [Nat.add_mul] at this; omega
          have e1 : (i * k' + j) / k' = i := by rw [Nat.mul_comm, Nat.mul_add_div (by omega), Nat.div_eq_of_lt hj]; omega
          have e2 : (i * k' + j) % k' = j := by rw [Nat.mul_comm, Nat.mul_add_mod]; exact Nat.mod_eq_of_lt hj
          refine ⟨vs i j, by simp [hlt', e1, e2], .imm (hh i j g1 g2)⟩

/-- Reading a stretch of a row of the call's own. -/
theorem row_source {P : Program} {O : Nat → Prop} {e k : Nat} {xs : List (List AV)} {l : Loc} (h : RowR w O β e k xs (some l)) (off len cap : Nat) (hle : off + len ≤ xs.length) :
    ∃ news : Array Value, (∀ W : World, W.heap = w.heap → (Builtin.firstCells k len (.slice (some ⟨l.blk, l.c0 + off * k, none⟩) len cap)).run P W = .ok news W) ∧ Cells w O β k ((xs.drop off).take len) news := by
  obtain ⟨k1, k2, k3, k4, cur, k5, k6, k7, k8⟩ := h
  have hmul : ∀ m, m < len * k → off * k + m < l.cap * k := by
    intro m hm
    have : (off + len) * k ≤ l.cap * k := Nat.mul_le_mul_right _ (by omega)
    rw [Nat.add_mul] at this; omega
  refine ⟨((List.range (len * k)).map fun m => cur.getD (l.c0 + off * k + m) undef).toArray, fun W hW => ?_, ?_⟩
  · refine run_firstCells_some W k len ⟨l.blk, l.c0 + off * k, none⟩ len cap _ (by simp) fun m v hm => ?_
    obtain ⟨hm', e⟩ := List.getElem?_eq_some_iff.1 hm
    simp at hm'
    rw [addr_add']
    have e' : W.cell? ⟨l.blk, l.c0 + off * k + m, none⟩ = w.cell? ⟨l.blk, l.c0 + off * k + m, none⟩ := cell_of_block (by rw [hW])
    rw [e', cell_of_row k5]
    have := hmul m hm'
    have hlt : l.c0 + off * k + m < cur.size := by omega
    simp [Array.getD_eq_getD_getElem?, hlt] at e
    simp [hlt, e]
  · have hlen : ((xs.drop off).take len).length = len := by simp; omega
    refine ⟨by rw [hlen]; simp, fun m hm => ?_, fun i j g1 g2 => ?_⟩
    · simp at hm
      have := hmul m hm
      have hlt : l.c0 + off * k + m < cur.size := by omega
      simpa [Array.getD_eq_getD_getElem?, hlt] using k7 _ hlt
    · rw [hlen] at g1
      have e0 : ((xs.drop off).take len)[i]'(by omega) = xs[off + i]'(by omega) := by simp
      have hj : j < k := by rw [e0, k4 _ (List.getElem_mem (by omega))] at g2; exact g2
      obtain ⟨v, q1, q2⟩ := k8 (off + i) j (by omega) (by rw [e0] at g2; exact g2)
      have hlt' : i * k + j < len * k := by
        have : (i + 1) * k ≤ len * k := Nat.mul_le_mul_right _ (by omega)
        rw [Nat.add_mul] at this; omega
      refine ⟨v, ?_, by simp only [e0]; exact q2⟩
      simp only [List.getElem?_toArray, List.getElem?_map, List.getElem?_range hlt', Option.map_some]
      rw [show l.c0 + off * k + (i * k + j) = l.c0 + (off + i) * k + j by rw [Nat.add_mul]; omega]
      simp [Array.getD_eq_getD_getElem?, q1]

theorem ys_nil_or {ys : List (List AV)} : ys = [] ∨ 0 < ys.length := by cases ys <;> simp

/-- What a slice that is appended gives. -/
theorem src_sound {P : Program} {Q : AV → Hp → Prop} {fr : Prop} (h : SRb C F β st a w) (x : AV) (v : Value) (hv : VR w (Av F.A β st.heap) β x v) (k : Nat) (K : List (List AV) → AM AV) (hK : ∀ ys, (K ys).wp n fr st.heap Q → lenAll k ys)
    (hwp : (asrc x K).wp n fr st.heap Q) : ∃ ys, (K ys).wp n fr st.heap Q ∧ Builtin.lenOf v = (pure ys.length : Sem Nat) ∧
      ∃ news : Array Value, (∀ W : World, W.heap = w.heap → (Builtin.firstCells k ys.length v).run P W = .ok news W) ∧ Cells w (Av F.A β st.heap) β k ys news := by
  unfold asrc at hwp
  split at hwp
  · rename_i f ys
    obtain ⟨_, hwp⟩ := hwp
    obtain ⟨A, cap, rfl, _, _, _, _, news, h1, h2⟩ := isl_source (P := P) (β := β) hv.isl_inv (hK ys hwp)
    exact ⟨ys, hwp, rfl, news, h1, h2⟩
  · rename_i o off len full
    simp only [AM.wp] at hwp
    split at hwp
    · rename_i ob hob
      cases ob with
      | row e k' xs =>
        obtain ⟨hle, hwp⟩ := hwp
        have hR := h.heap.obj o _ hob
        have hl : ((xs.drop off).take len).length = len := by simp; omega
        have hkk := hK _ hwp
        rcases hv.sl_inv with ⟨l, cap, A1, hl', g1, g2, g3, g4, g5, rfl⟩ | ⟨hl', rfl, rfl, A, rfl⟩
        · rw [hl'] at hR
          have hk1 := hR.1
          by_cases h0 : len = 0
          · subst h0
            refine ⟨_, hwp, by simp [Builtin.lenOf], #[], fun W _ => by cases A1 <;> simp [Builtin.firstCells, loadCells, loadCellsFrom, Sem.run], by simp [Cells]⟩
          · have hkeq : k' = k := by
              have e1 := hkk (xs[off]'(by omega)) (by rw [List.mem_take_iff_getElem]; exact ⟨0, by simp; omega, by simp⟩)
              have e2 := hR.2.2.2.1 _ (List.getElem_mem (show off < xs.length by omega))
              omega
            subst hkeq
            obtain rfl := g5 (by omega)
            obtain ⟨news, q1, q2⟩ := row_source (P := P) hR off len cap hle
            refine ⟨_, hwp, by rw [hl]; rfl, news, fun W hW => by rw [hl, hk1]; exact q1 W hW, q2⟩
        · refine ⟨_, hwp, by simp [Builtin.lenOf], #[], fun W _ => ?_, by simp [Cells]⟩
          cases A with
          | none => simp [Builtin.firstCells, Sem.run]
          | some ad => simp [Builtin.firstCells, loadCells, loadCellsFrom, Sem.run]
      | _ => exact hwp.elim
    · exact hwp.elim
  · exact hwp.elim

/-- A row that is made of two stretches. -/
theorem SRb.grown {Q : AV → Hp → Prop} (h : SRb C F β st a w) (hf : Fresh C st n) (e k : Nat) (xs ys : List (List AV)) (olds news zs : Array Value) (cap : Nat) (hx : AV.hasLL n (xs ++ ys) = false) (hkx : lenAll k xs) (hky : lenAll k ys)
    (ho : Cells w (Av F.A β st.heap) β k xs olds) (hn : Cells w (Av F.A β st.heap) β k ys news) (hz1 : ∀ (m : Nat) (h : m < zs.size), (zs[m]).oneCell' = true) (hcap : xs.length + ys.length ≤ cap) (hsz : cap * k ≤ olds.size + news.size + zs.size) (hmax : cap ≤ maxLen) :
    SRb C F (updB β n (some ⟨w.heap.size, 0, k, cap⟩)) ⟨st.env, updH st.heap n (some (.row e k (xs ++ ys)))⟩ a (w.alloc (.cells (olds ++ news ++ zs) e)) := by
  refine (h.newRow hf e k (xs ++ ys) (olds ++ news ++ zs) hx (fun x hx' => ?_) ?_ cap (by simpa using hcap) (by simp; omega) hmax (fun m hm => ?_) (fun i j g1 g2 => ?_)).1
  · rcases List.mem_append.1 hx' with q | q
    · exact hkx x q
    · exact hky x q
  · simp [Nat.add_mul, ho.1, hn.1]
  · simp only [Array.getElem_append]
    split
    · split
      · exact ho.2.1 _ _
      · exact hn.2.1 _ _
    · exact hz1 _ _
  · simp at g1
    by_cases hi : i < xs.length
    · have e0 : (xs ++ ys)[i]'(by simpa using g1) = xs[i] := by rw [List.getElem_append_left hi]
      have g2' := g2
      rw [e0] at g2'
      obtain ⟨v, q1, q2⟩ := ho.2.2 i j hi g2'
      obtain ⟨p1, _⟩ := Array.getElem?_eq_some_iff.1 q1
      refine ⟨v, ?_, by simp only [e0]; exact q2⟩
      rw [Array.getElem?_append_left (by simp; omega), Array.getElem?_append_left p1]
      exact q1
    · have e0 : (xs ++ ys)[i]'(by simpa using g1) = ys[i - xs.length]'(by omega) := by rw [List.getElem_append_right (by omega)]
      have g2' := g2
      rw [e0] at g2'
      obtain ⟨v, q1, q2⟩ := hn.2.2 (i - xs.length) j (by omega) g2'
      obtain ⟨p1, _⟩ := Array.getElem?_eq_some_iff.1 q1
      have hik : i * k = xs.length * k + (i - xs.length) * k := by rw [← Nat.add_mul]; congr 1; omega
      refine ⟨v, ?_, by simp only [e0]; exact q2⟩
      have hos := ho.1
      rw [Array.getElem?_append_left (by simp; omega), Array.getElem?_append_right (by omega)]
      rw [← q1]
      congr 1
      omega

theorem zeroCells_one {z : Array Value} (h : ∀ (m : Nat) (h : m < z.size), (z[m]).oneCell' = true) (h0 : 0 < z.size) (c : Nat) : ∀ (m : Nat) (h : m < (Builtin.zeroCells z c).size), ((Builtin.zeroCells z c)[m]).oneCell' = true := by
  intro m hm
  simp only [Builtin.zeroCells, Array.getElem_map, Array.getElem_range]
  have : m % z.size < z.size := Nat.mod_lt _ h0
  rw [getElem!_pos z _ this]
  exact h _ this
theorem zeroCells_one' {z : Array Value} (h : ∀ (m : Nat) (h : m < z.size), (z[m]).oneCell' = true) (c : Nat) : ∀ (m : Nat) (h : m < (Builtin.zeroCells z c).size), ((Builtin.zeroCells z c)[m]).oneCell' = true := by
  rcases Nat.eq_zero_or_pos z.size with h0 | h0
  · intro m hm
    simp [Builtin.zeroCells, h0] at hm
  · exact zeroCells_one h h0 c

theorem append_sound {Q : AV → Hp → Prop} (h : SRb C F β st a w) (t xt ty : TypeId) (s x : AV) (v u : Value) (hv : VR w (Av F.A β st.heap) β s v) (hu : VR w (Av F.A β st.heap) β x u)
    (hwp : (aappend C.P t xt s x).wp n (Fresh C st n) st.heap Q) :
    ∃ r y w' h' β', (Builtin.append_ #[t, xt] ty #[v, u]).run C.P w = .ok r w' ∧ SRb C F β' ⟨st.env, h'⟩ a w' ∧ VR w' (Av F.A β' h') β' y r ∧ Q y h' := by
  unfold aappend at hwp
  split at hwp
  case h_2 => exact hwp.elim
  rename_i e e2 ht hxt
  split at hwp
  case h_2 => exact hwp.elim
  rename_i k by_ z hsz hby hz
  obtain ⟨⟨hby0, hzl⟩, hwp⟩ := hwp
  have ht' := run_tElem ht
  have hxt' := run_tElem hxt
  obtain ⟨zv, hzr, hzc⟩ := run_tZero w hz
  obtain ⟨i, hi⟩ : ∃ i, C.P.info? e = some i := by
    unfold tSize at hsz
    cases hi : C.P.info? e with
    | none => simp [hi] at hsz
    | some i => exact ⟨i, rfl⟩
  have hik : i.size = k := by simpa [tSize, hi] using hsz
  have hib : i.bytes = by_ := by simpa [tBytes, hi] using hby
  have hiz : i.zero = some zv := by
    simp only [zeroValue, typeInfo, Sem.run_bind, run_program, hi, Result.andThen_ok, Sem.run_pure] at hzr
    cases hz0 : i.zero with
    | none => simp [hz0, unsupported, Sem.run] at hzr
    | some q => simp only [hz0, Sem.run_pure, Result.ok.injEq, and_true] at hzr; rw [hzr]
  obtain ⟨c1, c2, c3⟩ := (ofValue_VR w (Av F.A β st.heap) β zv).cells_inv hzc
  have hzsz : zv.cells.size = k := by omega
  subst hib
  obtain ⟨ys, hwp', hlen, news, hnews, hcells⟩ := src_sound (P := C.P) h x u hu k (fun ys => .guard (lenAll k ys) (aappendTo e k i.bytes s ys)) (fun ys hy => hy.1) hwp
  clear hwp
  obtain ⟨hky, hwp⟩ := hwp'
  subst hik
  -- a new array: the old cells, the new ones, zeros
  have grow : ∀ (st1 : St) (xs : List (List AV)) (A : Option Addr) (cap : Nat) (olds : Array Value), SRb C F β st1 a w → st1.env = st.env → Fresh C st1 n → v = .slice A xs.length cap → lenAll i.size xs → cap < xs.length + ys.length → (xs.length + ys.length) * i.bytes ≤ 140737488355328 →
      (∀ W : World, W.heap = w.heap → (Builtin.firstCells i.size xs.length v).run C.P W = .ok olds W) → Cells w (Av F.A β st1.heap) β i.size xs olds → Cells w (Av F.A β st1.heap) β i.size ys news → AV.hasLL n (xs ++ ys) = false →
      Q (.sl n 0 (xs.length + ys.length) false) (updH st1.heap n (some (.row e i.size (xs ++ ys)))) →
      ∃ r y w' h' β', (Builtin.append_ #[t, xt] ty #[v, u]).run C.P w = .ok r w' ∧ SRb C F β' ⟨st.env, h'⟩ a w' ∧ VR w' (Av F.A β' h') β' y r ∧ Q y h' := by
    intro st1 xs A cap olds h1 henv hf hveq hkx hgt hb holds hco hcn hno hQ
    subst hveq
    have hle63 : xs.length + ys.length ≤ 140737488355328 := Nat.le_trans (Nat.le_mul_of_pos_right _ hby0) hb
    have hr := run_append_growG (P := C.P) w t xt ty e i zv e2 ht' hi hiz hxt' A xs.length cap olds news holds u ys.length hlen hnews hgt (by omega) hb
    have hge := grownCap_ge w (xs.length + ys.length) cap e
    have hgm := grownCap_le_maxLen w (xs.length + ys.length) cap e (by simp only [maxLen]; omega)
    have hs := SRb.grown (Q := Q) h1.drew hf e i.size xs ys olds news (Builtin.zeroCells zv.cells (grownCap w (xs.length + ys.length) cap e - (xs.length + ys.length))) (grownCap w (xs.length + ys.length) cap e) hno hkx hky
      ⟨hco.1, hco.2.1, fun i j g1 g2 => by obtain ⟨q, q1, q2⟩ := hco.2.2 i j g1 g2; exact ⟨q, q1, q2.mono ⟨Nat.le_refl _, fun _ _ _ => rfl⟩ (fun _ _ h => h) fun _ _ => rfl⟩⟩
      ⟨hcn.1, hcn.2.1, fun i j g1 g2 => by obtain ⟨q, q1, q2⟩ := hcn.2.2 i j g1 g2; exact ⟨q, q1, q2.mono ⟨Nat.le_refl _, fun _ _ _ => rfl⟩ (fun _ _ h => h) fun _ _ => rfl⟩⟩
      (zeroCells_one' c2 _) hge (by
        rw [hco.1, hcn.1]
        simp only [Builtin.zeroCells, Array.size_map, Array.size_range, hzsz]
        rw [← Nat.add_mul, ← Nat.add_mul]
        exact Nat.mul_le_mul_right _ (by omega)) hgm
    rw [henv] at hs
    refine ⟨_, _, _, _, _, hr, hs, ?_, hQ⟩
    have := VR.sl (w := w.drew.alloc (.cells (olds ++ news ++ Builtin.zeroCells zv.cells (grownCap w (xs.length + ys.length) cap e - (xs.length + ys.length))) e))
      (O := Av F.A (updB β n (some ⟨w.drew.heap.size, 0, i.size, grownCap w (xs.length + ys.length) cap e⟩)) (updH st1.heap n (some (.row e i.size (xs ++ ys)))))
      (β := updB β n (some ⟨w.drew.heap.size, 0, i.size, grownCap w (xs.length + ys.length) cap e⟩)) n 0 (xs.length + ys.length) false _ (grownCap w (xs.length + ys.length) cap e) (some ⟨w.heap.size, 0, none⟩) (updB_self ..) hge (by simp) (by simp) (by simp) (by simp)
    simpa using this
  -- nothing onto nothing
  have none0 : ∀ (st1 : St) (A : Option Addr), SRb C F β st1 a w → st1.env = st.env → Fresh C st1 n → v = .slice A 0 0 → ys = [] → Q (.sl n 0 0 false) (updH st1.heap n (some (.row e i.size []))) →
      ∃ r y w' h' β', (Builtin.append_ #[t, xt] ty #[v, u]).run C.P w = .ok r w' ∧ SRb C F β' ⟨st.env, h'⟩ a w' ∧ VR w' (Av F.A β' h') β' y r ∧ Q y h' := by
    intro st1 A h1 henv hf hveq hys hQ
    subst hveq hys
    have hn0 : news = #[] := by
      have := hcells.1
      simp at this
      exact this
    have hr := run_append_roomG (P := C.P) w t xt ty e i e2 ht' hi hxt' A 0 0 news u 0 hlen (hnews w rfl) (Nat.le_refl _) w (by subst hn0; cases A <;> simp [storeCells, Sem.run])
    have hs := h1.newNil hf e i.size
    rw [henv] at hs
    exact ⟨_, _, _, _, _, hr, hs, .nilrow n false A (updB_self ..), hQ⟩
  have hmono1 : ∀ (st1 : St), (∀ b, Av F.A β st1.heap b → Av F.A β st.heap b) → ∀ zs (cs : Array Value), Cells w (Av F.A β st.heap) β i.size zs cs → Cells w (Av F.A β st1.heap) β i.size zs cs :=
    fun st1 hb zs cs hc => ⟨hc.1, hc.2.1, fun i j g1 g2 => by obtain ⟨q, q1, q2⟩ := hc.2.2 i j g1 g2; exact ⟨q, q1, q2.mono (Same.refl _ w) (fun b _ => hb b) fun _ _ => rfl⟩⟩
  unfold aappendTo at hwp
  split at hwp
  · rename_i f xs
    obtain ⟨⟨hfl, _⟩, hor, hkx, hb, hf, hno, hQ⟩ := hwp
    obtain ⟨A, cap, rfl, hle, hmx, hfull, hnil, olds, holds, hco⟩ := isl_source (P := C.P) (β := β) hv.isl_inv hkx
    have hcl : cap = xs.length := by
      cases f with
      | unk => exact absurd rfl hfl
      | full => exact hfull rfl
      | nil => have := (hnil rfl).2; omega
    rcases ys_nil_or (ys := ys) with hy | hy
    · have hx0 : xs = [] := by
        rcases hor with q | q
        · exact q
        · subst hy; simp at q
      subst hx0 hy
      simp at hcl
      subst hcl
      exact none0 st A h rfl hf rfl rfl (by simpa [AM.wp] using hQ)
    · exact grow st xs A cap olds h rfl hf rfl hkx (by omega) hb holds hco hcells hno hQ
  · rename_i o off len full
    simp only [AM.wp] at hwp
    split at hwp
    · rename_i ob hob
      cases ob with
      | row e' k' xs =>
        obtain ⟨⟨rfl, rfl⟩, hb, hwp⟩ := hwp
        have hR := h.heap.obj o _ hob
        cases full with
        | true =>
          simp only [if_true] at hwp
          obtain ⟨⟨hy, hle⟩, hf, hno, hQ⟩ := hwp
          have hl : ((xs.drop off).take len).length = len := by simp; omega
          have hkx : lenAll i.size ((xs.drop off).take len) := fun q hq => by
            cases hlo : β o with
            | none => rw [hlo] at hR; have : xs = [] := hR; subst this; simp at hq
            | some l => rw [hlo] at hR; exact hR.2.2.2.1 q (List.mem_of_mem_drop (List.mem_of_mem_take hq))
          rcases hv.sl_inv with ⟨l, cap, A1, hlo, g1, g2, g3, g4, g5, rfl⟩ | ⟨hlo, rfl, rfl, A, rfl⟩
          · rw [hlo] at hR
            have hcap := g3 rfl
            have hA1 : ∃ olds : Array Value, (∀ W : World, W.heap = w.heap → (Builtin.firstCells l.k len (.slice A1 len cap)).run C.P W = .ok olds W) ∧ Cells w (Av F.A β st.heap) β l.k ((xs.drop off).take len) olds := by
              by_cases h0 : 0 < cap
              · obtain rfl := g5 h0
                rw [hR.1]
                exact row_source (P := C.P) hR off len cap hle
              · have : len = 0 := by omega
                subst this
                exact ⟨#[], fun W _ => by cases A1 <;> simp [Builtin.firstCells, loadCells, loadCellsFrom, Sem.run], by simp [Cells]⟩
            obtain ⟨olds, q1, q2⟩ := hA1
            refine grow st ((xs.drop off).take len) _ cap olds h rfl hf (by rw [hl]) hkx (by rw [hl]; omega) (by rw [hl]; exact hb) (fun W hW => by rw [hl, ← hR.1]; exact q1 W hW) (by rw [← hR.1]; exact q2) hcells hno (by rw [hl]; exact hQ)
          · rw [hlo] at hR
            have : xs = [] := hR
            subst this
            exact grow st [] A 0 #[] h rfl hf rfl (by intro q hq; simp at hq) (by simpa using hy) (by simpa using hb) (fun W _ => by cases A <;> simp [Builtin.firstCells, loadCells, loadCellsFrom, Sem.run]) (by simp [Cells]) hcells (by simpa [AObj.has] using hno) (by simpa [AM.wp] using hQ)
        | false =>
          simp only [Bool.false_eq_true, if_false] at hwp
          by_cases heq : off + len = xs.length
          case neg =>
            rw [if_neg heq] at hwp
            obtain ⟨hroom, _, hQ⟩ := hwp
            rcases hv.sl_inv with ⟨l, cap, A1, hlo, g1, g2, g3, g4, g5, rfl⟩ | ⟨hlo, rfl, rfl, A, rfl⟩
            · rw [hlo] at hR
              have hcap := g4 rfl
              obtain ⟨k1, k2, k3, k4, cur, k5, k6, k7, k8⟩ := hR
              obtain rfl := g5 (by omega)
              have hroom2 : len + ys.length ≤ cap := by omega
              have hmul : (off + (len + ys.length)) * i.size ≤ l.cap * i.size := Nat.mul_le_mul_right _ (by omega)
              have hnl : news.toList.length = ys.length * i.size := by simpa using hcells.1
              have hst := run_storeCells_at (P := C.P) l.blk (l.c0 + off * l.k + len * i.size) e' news.toList 0 cur w k5 (by rw [k1]; simp only [Nat.add_mul] at hmul ⊢; omega) (fun q hq => by
                obtain ⟨m, hm, rfl⟩ := List.getElem_of_mem hq
                simpa using hcells.2.1 m (by simpa using hm))
              have hp : l.c0 + off * l.k + len * i.size + 0 + news.toList.length ≤ cur.size := by rw [k1]; simp only [Nat.add_mul] at hmul ⊢; omega
              have hget := seg_get (p := l.c0 + off * l.k + len * i.size + 0) (us := news.toList) hp
              generalize hcur' : (cur.toList.take (l.c0 + off * l.k + len * i.size + 0) ++ news.toList ++ cur.toList.drop (l.c0 + off * l.k + len * i.size + 0 + news.toList.length)).toArray = cur' at hst hget
              have hsz' : cur'.size = cur.size := by rw [← hcur']; simp at hp ⊢; omega
              have hr := run_append_roomG (P := C.P) w t xt ty e' i e2 ht' hi hxt' (some ⟨l.blk, l.c0 + off * l.k, none⟩) len cap news u ys.length hlen (hnews w rfl) hroom2 (w.setRow l.blk cur') (by
                simp only [addr_add']
                exact hst)
              have hput := h.putRow (o := o) (l := l) (ys := xs.take (off + len) ++ ys ++ xs.drop (off + len + ys.length)) (cur := cur) (cur' := cur') (w' := w.setRow l.blk cur') hob hlo k5 (by simp [World.setRow]) (setRow_heap w _ _ _ _ _ k5)
                (by
                  intro b hb
                  simp only [World.setRow, Array.getElem?_modify]
                  rw [if_neg (fun e' => hb e'.symm)]) rfl rfl rfl hsz' (by simp only [List.length_append, List.length_take, List.length_drop]; omega)
                (fun q hq => by
                  rcases List.mem_append.1 hq with hq | hq
                  · rcases List.mem_append.1 hq with hq | hq
                    · exact k4 q (List.mem_of_mem_take hq)
                    · exact hky q hq
                  · exact k4 q (List.mem_of_mem_drop hq))
                (by
                  intro m hm
                  have hg := hget m
                  rw [Array.getElem?_eq_getElem hm] at hg
                  split at hg
                  · obtain ⟨q1, q2⟩ := Array.getElem?_eq_some_iff.1 hg.symm
                    rw [← q2]; exact k7 m q1
                  · split at hg
                    · obtain ⟨q1, q2⟩ := List.getElem?_eq_some_iff.1 hg.symm
                      rw [← q2]; simpa using hcells.2.1 _ (by simpa using q1)
                    · obtain ⟨q1, q2⟩ := Array.getElem?_eq_some_iff.1 hg.symm
                      rw [← q2]; exact k7 m q1)
                (by
                  intro p j q1 q2
                  have htl : (xs.take (off + len)).length = off + len := by simp; omega
                  simp only [List.length_append, List.length_take, List.length_drop] at q1
                  by_cases hp1 : p < off + len
                  · have e0 : (xs.take (off + len) ++ ys ++ xs.drop (off + len + ys.length))[p]'(by simp; omega) = xs[p]'(by omega) := by
                      rw [List.getElem_append_left (by simp; omega), List.getElem_append_left (by omega), List.getElem_take]
                    simp only [e0] at q2 ⊢
                    obtain ⟨q, r1, r2⟩ := k8 p j (by omega) q2
                    have hj : j < i.size := by rw [k4 _ (List.getElem_mem (by omega))] at q2; exact q2
                    have hpl : p * i.size + i.size ≤ (off + len) * i.size := by
                      have : (p + 1) * i.size ≤ (off + len) * i.size := Nat.mul_le_mul_right _ (by omega)
                      rw [Nat.add_mul] at this; omega
                    refine ⟨q, ?_, r2⟩
                    rw [hget, if_pos (by rw [k1]; rw [Nat.add_mul] at hpl; omega), ← r1]
                  · by_cases hp2 : p < off + len + ys.length
                    · have e0 : (xs.take (off + len) ++ ys ++ xs.drop (off + len + ys.length))[p]'(by simp; omega) = ys[p - (off + len)]'(by omega) := by
                        rw [List.getElem_append_left (by simp; omega), List.getElem_append_right (by omega)]
                        simp only [htl]
                      simp only [e0] at q2 ⊢
                      obtain ⟨q, r1, r2⟩ := hcells.2.2 (p - (off + len)) j (by omega) q2
                      have hj : j < i.size := by rw [hky _ (List.getElem_mem (by omega))] at q2; exact q2
                      have hpm : p * i.size = (off + len) * i.size + (p - (off + len)) * i.size := by rw [← Nat.add_mul]; congr 1; omega
                      have hpy : (p - (off + len)) * i.size + i.size ≤ ys.length * i.size := by
                        have : (p - (off + len) + 1) * i.size ≤ ys.length * i.size := Nat.mul_le_mul_right _ (by omega)
                        rw [Nat.add_mul] at this; omega
                      rw [Nat.add_mul off len] at hpm
                      refine ⟨q, ?_, r2⟩
                      rw [hget, if_neg (by rw [k1]; omega), if_pos (by rw [k1, hnl]; omega)]
                      rw [show l.c0 + p * i.size + j - (l.c0 + off * l.k + len * i.size + 0) = (p - (off + len)) * i.size + j by rw [k1]; omega]
                      simpa using r1
                    · have e0 : (xs.take (off + len) ++ ys ++ xs.drop (off + len + ys.length))[p]'(by simp; omega) = xs[p]'(by omega) := by
                        rw [List.getElem_append_right (by simp; omega)]
                        simp only [List.length_append, htl, List.getElem_drop]
                        congr 1
                        omega
                      simp only [e0] at q2 ⊢
                      obtain ⟨q, r1, r2⟩ := k8 p j (by omega) q2
                      have hpl : (off + len + ys.length) * i.size ≤ p * i.size := Nat.mul_le_mul_right _ (by omega)
                      rw [Nat.add_mul, Nat.add_mul] at hpl
                      refine ⟨q, ?_, r2⟩
                      rw [hget, if_neg (by rw [k1]; omega), if_neg (by rw [k1, hnl]; omega), ← r1])
              refine ⟨_, _, _, _, _, hr, hput, ?_, hQ⟩
              exact .sl o off (len + ys.length) false l cap _ hlo hroom2 g2 (fun e => by cases e) (fun _ => hcap) (fun _ => rfl)
            · rw [hlo] at hR
              have : xs = [] := hR
              subst this
              exact absurd rfl heq
          rw [if_pos heq] at hwp
          obtain ⟨hf, hno, hQ⟩ := hwp
          have hdel := h.del o
          have hfd : Fresh C ⟨st.env, updH st.heap o none⟩ n := by
            obtain ⟨f1, f2, f3, f4⟩ := hf
            refine ⟨f1, ?_, f3, fun p y hy => ?_⟩
            · show updH st.heap o none n = none
              by_cases hp : n = o
              · subst hp; exact updH_self ..
              · rw [updH_ne _ _ _ hp]; exact f2
            · have hy : updH st.heap o none p = some y := hy
              by_cases hp : p = o
              · subst hp; rw [updH_self] at hy; cases hy
              · rw [updH_ne _ _ _ hp] at hy; exact f4 p y hy
          have hOd : ∀ b, Av F.A β (updH st.heap o none) b → Av F.A β st.heap b := by
            rintro b (hb | ⟨p, l, h1, h2, h3⟩)
            · exact .inl hb
            · by_cases hp : p = o
              · subst hp; rw [updH_self] at h1; exact absurd rfl h1
              · rw [updH_ne _ _ _ hp] at h1; exact .inr ⟨p, l, h1, h2, h3⟩
          have hl : (xs.drop off).length = len := by simp; omega
          have htk : (xs.drop off).take len = xs.drop off := by rw [← hl]; exact List.take_length
          have hkx : lenAll i.size (xs.drop off) := fun q hq => by
            cases hlo : β o with
            | none => rw [hlo] at hR; have : xs = [] := hR; subst this; simp at hq
            | some l => rw [hlo] at hR; exact hR.2.2.2.1 q (List.mem_of_mem_drop hq)
          rcases hv.sl_inv with ⟨l, cap, A1, hlo, g1, g2, g3, g4, g5, rfl⟩ | ⟨hlo, rfl, rfl, A, rfl⟩
          · rw [hlo] at hR
            by_cases hroom : len + ys.length ≤ cap
            · by_cases hc0 : cap = 0
              · -- nothing onto nothing
                have hl0 : len = 0 := by omega
                have hy0 : ys = [] := List.eq_nil_of_length_eq_zero (by omega)
                have hx0 : xs.drop off = [] := List.eq_nil_of_length_eq_zero (by omega)
                refine none0 ⟨st.env, updH st.heap o none⟩ A1 hdel rfl hfd (by rw [hc0, hl0]) hy0 ?_
                rw [hx0, hy0, hl0] at hQ
                simpa [AM.wp] using hQ
              -- in place
              obtain rfl := g5 (by omega)
              have hcap := g4 rfl
              obtain ⟨k1, k2, k3, k4, cur, k5, k6, k7, k8⟩ := hR
              have hreb := h.rebase (n := n) hf hob hlo (off := off) (by omega)
              have hmul : (off + (len + ys.length)) * i.size ≤ l.cap * i.size := Nat.mul_le_mul_right _ (by omega)
              have hnl : news.toList.length = ys.length * i.size := by simpa using hcells.1
              have hst := run_storeCells_at (P := C.P) l.blk (l.c0 + off * l.k + len * i.size) e' news.toList 0 cur w k5 (by rw [k1]; simp only [Nat.add_mul] at hmul ⊢; omega) (fun q hq => by
                obtain ⟨m, hm, rfl⟩ := List.getElem_of_mem hq
                simpa using hcells.2.1 m (by simpa using hm))
              have hp : l.c0 + off * l.k + len * i.size + 0 + news.toList.length ≤ cur.size := by rw [k1]; simp only [Nat.add_mul] at hmul ⊢; omega
              have hget := seg_get (p := l.c0 + off * l.k + len * i.size + 0) (us := news.toList) hp
              generalize hcur' : (cur.toList.take (l.c0 + off * l.k + len * i.size + 0) ++ news.toList ++ cur.toList.drop (l.c0 + off * l.k + len * i.size + 0 + news.toList.length)).toArray = cur' at hst hget
              have hsz' : cur'.size = cur.size := by rw [← hcur']; simp at hp ⊢; omega
              have hr := run_append_roomG (P := C.P) w t xt ty e' i e2 ht' hi hxt' (some ⟨l.blk, l.c0 + off * l.k, none⟩) len cap news u ys.length hlen (hnews w rfl) hroom (w.setRow l.blk cur') (by
                simp only [addr_add']
                exact hst)
              have hput := hreb.putRow (o := n) (l := ⟨l.blk, l.c0 + off * i.size, i.size, l.cap - off⟩) (ys := xs.drop off ++ ys) (cur := cur) (cur' := cur') (w' := w.setRow l.blk cur') (updH_self ..) (updB_self ..) k5 (by simp [World.setRow]) (setRow_heap w _ _ _ _ _ k5)
                (by
                  intro b hb
                  simp only [World.setRow, Array.getElem?_modify]
                  rw [if_neg (fun e' => hb e'.symm)]) rfl rfl rfl hsz' (by simp only [List.length_append, hl]; omega)
                (fun q hq => (List.mem_append.1 hq).elim (hkx q) (hky q))
                (by
                  intro m hm
                  have hg := hget m
                  rw [Array.getElem?_eq_getElem hm] at hg
                  split at hg
                  · obtain ⟨q1, q2⟩ := Array.getElem?_eq_some_iff.1 hg.symm
                    rw [← q2]; exact k7 m q1
                  · split at hg
                    · obtain ⟨q1, q2⟩ := List.getElem?_eq_some_iff.1 hg.symm
                      rw [← q2]; simpa using hcells.2.1 _ (by simpa using q1)
                    · obtain ⟨q1, q2⟩ := Array.getElem?_eq_some_iff.1 hg.symm
                      rw [← q2]; exact k7 m q1)
                (by
                  intro p j q1 q2
                  simp only [List.length_append, hl] at q1
                  have hOr : ∀ b, Av F.A (updB β n (some ⟨l.blk, l.c0 + off * i.size, i.size, l.cap - off⟩)) (updH (updH st.heap o none) n (some (.row e' i.size (xs.drop off)))) b → Av F.A β st.heap b := by
                    rintro b (hb | hb)
                    · exact .inl hb
                    · rcases hb.upd with ⟨p, l', h1, h2, h3⟩ | ⟨l', e1, e2⟩
                      · by_cases hp : p = o
                        · subst hp; rw [updH_self] at h1; exact absurd rfl h1
                        · rw [updH_ne _ _ _ hp] at h1; exact .inr ⟨p, l', h1, h2, h3⟩
                      · injection e1 with e1
                        subst e1
                        exact .inr ⟨o, l, by simp [hob], hlo, e2⟩
                  have hnon : ∀ q (h1 : q < (xs.drop off ++ ys).length) m (h2 : m < ((xs.drop off ++ ys)[q]).length) o', AV.has o' ((xs.drop off ++ ys)[q])[m] = true → updB β n (some ⟨l.blk, l.c0 + off * i.size, i.size, l.cap - off⟩) o' = β o' := by
                    intro q h1 m h2 o' ho'
                    refine updB_ne _ _ _ fun e => ?_
                    subst e
                    simp only [AObj.has] at hno
                    rw [hasLL_mem q h1 (AV.hasL_get m h2 ho')] at hno
                    cases hno
                  by_cases hp1 : p < len
                  · have e0 : (xs.drop off ++ ys)[p]'(by simp [hl]; omega) = xs[off + p]'(by omega) := by rw [List.getElem_append_left (by omega)]; simp
                    have hj : j < i.size := by rw [e0, k4 _ (List.getElem_mem (by omega))] at q2; exact q2
                    obtain ⟨q, r1, r2⟩ := k8 (off + p) j (by omega) (by rw [k4 _ (List.getElem_mem (by omega))]; exact hj)
                    have hpl : p * i.size + i.size ≤ len * i.size := by
                      have : (p + 1) * i.size ≤ len * i.size := Nat.mul_le_mul_right _ (by omega)
                      rw [Nat.add_mul] at this; omega
                    refine ⟨q, ?_, ?_⟩
                    · show cur'[l.c0 + off * i.size + p * i.size + j]? = some q
                      rw [hget, if_pos (by rw [k1]; omega), ← r1, Nat.add_mul]
                      congr 1
                      omega
                    · have := hnon p (by simp [hl]; omega) j q2
                      simp only [e0] at this ⊢
                      exact r2.mono (Same.refl _ w) (fun b _ => hOr b) this
                  · have e0 : (xs.drop off ++ ys)[p]'(by simp [hl]; omega) = ys[p - len]'(by omega) := by rw [List.getElem_append_right (by omega)]; simp [hl]
                    have hj : j < i.size := by rw [e0, hky _ (List.getElem_mem (by omega))] at q2; exact q2
                    obtain ⟨q, r1, r2⟩ := hcells.2.2 (p - len) j (by omega) (by rw [hky _ (List.getElem_mem (by omega))]; exact hj)
                    have hpm : p * i.size = len * i.size + (p - len) * i.size := by rw [← Nat.add_mul]; congr 1; omega
                    have hpy : (p - len) * i.size + i.size ≤ ys.length * i.size := by
                      have : (p - len + 1) * i.size ≤ ys.length * i.size := Nat.mul_le_mul_right _ (by omega)
                      rw [Nat.add_mul] at this; omega
                    refine ⟨q, ?_, ?_⟩
                    · show cur'[l.c0 + off * i.size + p * i.size + j]? = some q
                      rw [hget, if_neg (by rw [k1]; omega), if_pos (by rw [k1, hnl]; omega)]
                      rw [show l.c0 + off * i.size + p * i.size + j - (l.c0 + off * l.k + len * i.size + 0) = (p - len) * i.size + j by rw [k1]; omega]
                      simpa using r1
                    · have := hnon p (by simp [hl]; omega) j q2
                      simp only [e0] at this ⊢
                      exact r2.mono (Same.refl _ w) (fun b _ => hOr b) this)
              have hfin : updH (updH (updH st.heap o none) n (some (.row e' i.size (xs.drop off)))) n (some (.row e' i.size (xs.drop off ++ ys))) = updH (updH st.heap o none) n (some (.row e' i.size (xs.drop off ++ ys))) := by
                funext p; unfold updH; split <;> rfl
              rw [hfin] at hput
              refine ⟨_, _, _, _, _, hr, hput, ?_, hQ⟩
              have := VR.sl (w := w.setRow l.blk cur') (O := Av F.A (updB β n (some ⟨l.blk, l.c0 + off * i.size, i.size, l.cap - off⟩)) (updH (updH st.heap o none) n (some (.row e' i.size (xs.drop off ++ ys)))))
                (β := updB β n (some ⟨l.blk, l.c0 + off * i.size, i.size, l.cap - off⟩)) n 0 (len + ys.length) false _ cap (some ⟨l.blk, l.c0 + off * i.size, none⟩) (updB_self ..) hroom (by simp; omega) (by simp) (by simp; omega) (by simp)
              rw [k1]
              simpa using this
            · have hA1 : ∃ olds : Array Value, (∀ W : World, W.heap = w.heap → (Builtin.firstCells l.k len (.slice A1 len cap)).run C.P W = .ok olds W) ∧ Cells w (Av F.A β st.heap) β l.k ((xs.drop off).take len) olds := by
                by_cases h0 : 0 < cap
                · obtain rfl := g5 h0
                  rw [hR.1]
                  exact row_source (P := C.P) hR off len cap (by omega)
                · have : len = 0 := by omega
                  subst this
                  exact ⟨#[], fun W _ => by cases A1 <;> simp [Builtin.firstCells, loadCells, loadCellsFrom, Sem.run], by simp [Cells]⟩
              obtain ⟨olds, q1, q2⟩ := hA1
              rw [htk] at q2
              refine grow ⟨st.env, updH st.heap o none⟩ (xs.drop off) _ cap olds hdel rfl hfd (by rw [hl]) hkx (by rw [hl]; omega) (by rw [hl]; exact hb) (fun W hW => by rw [hl, ← hR.1]; exact q1 W hW) (hmono1 ⟨st.env, _⟩ hOd _ _ (by rw [← hR.1]; exact q2)) (hmono1 ⟨st.env, _⟩ hOd _ _ hcells) hno (by rw [hl]; exact hQ)
          · rw [hlo] at hR
            have : xs = [] := hR
            subst this
            rcases ys_nil_or (ys := ys) with hy | hy
            · have hQ' := hQ
              subst hy
              exact none0 ⟨st.env, updH st.heap o none⟩ A hdel rfl hfd rfl rfl (by simpa [AM.wp] using hQ')
            · exact grow ⟨st.env, updH st.heap o none⟩ [] A 0 #[] hdel rfl hfd rfl (by intro q hq; simp at hq) (by simpa using hy) (by simpa using hb) (fun W _ => by cases A <;> simp [Builtin.firstCells, loadCells, loadCellsFrom, Sem.run]) (by simp [Cells]) (hmono1 ⟨st.env, _⟩ hOd _ _ hcells) (by simpa [AObj.has] using hno) (by simpa [AM.wp] using hQ)
      | _ => exact hwp.elim
    · exact hwp.elim
  · exact hwp.elim
end
end Go.Aw
end
section
set_option linter.unusedVariables false
set_option linter.unusedSimpArgs false
namespace Go.Aw
section
variable {C : Cx} {F : Fr} {β : Nat → Option Loc} {st : St} {a : Act} {w : World} {n : Nat} {Q : AV → Hp → Prop}

/-- A bound, and what the machine has in its place. -/
def BoundR (x : Option AV) (v : Option Value) : Prop := (x = none ∧ v = none) ∨ ∃ k n, x = some (.int k n) ∧ v = some (.int k n)
theorem boundR_of {O : Nat → Prop} {e : Nat → AV} {a : Act} (hr : ∀ x, VR w O β (rho e x) (a.eval x)) (o : Option Operand) (d i : Int) (h : intOf (o.map (rho e)) d = some i) : BoundR (o.map (rho e)) (o.map a.eval) := by
  cases o with
  | none => exact .inl ⟨rfl, rfl⟩
  | some x =>
    simp only [Option.map_some, intOf] at h
    split at h
    · simp at *
    · rename_i k m hx
      injection hx with hx
      have := hr x
      rw [hx] at this
      exact .inr ⟨k, m, by rw [Option.map_some, hx], by rw [Option.map_some, this.int_inv]⟩
    · cases h

theorem sliceBound_ok {P : Program} (k : IntKind) (i : Int) (y : Nat) (code : BoundsCode) (h : 0 ≤ i ∧ i ≤ y) : (Instr.sliceBound (.int k i) y code).run P w = .ok i.toNat w := by
  simp only [Instr.sliceBound, asIntOf, Sem.run_bind, Sem.run_pure, Result.andThen_ok, if_pos h]

theorem sliceBounds_ok {P : Program} (isSlice : Bool) (len cap : Nat) (lo hi mx : Option AV) (vl vh vm : Option Value) (h1 : BoundR lo vl) (h2 : BoundR hi vh) (h3 : BoundR mx vm) (l h m : Int) (e1 : intOf lo 0 = some l) (e2 : intOf hi len = some h) (e3 : intOf mx cap = some m)
    (g1 : 0 ≤ l ∧ l ≤ h ∧ h ≤ m ∧ m ≤ cap) (hmh : mx.isSome → hi.isSome) : (Instr.sliceBounds isSlice len cap vl vh vm).run P w = .ok (l.toNat, h.toNat, m.toNat) w := by
  obtain ⟨g1, g2, g3, g4⟩ := g1
  have hB : ∀ (k : IntKind) (i : Int) (y : Nat) (code : BoundsCode), 0 ≤ i → i ≤ y → (Instr.sliceBound (.int k i) y code).run P w = .ok i.toNat w := fun k i y code q1 q2 => sliceBound_ok k i y code ⟨q1, q2⟩
  rcases h1 with ⟨rfl, rfl⟩ | ⟨k1, n1, rfl, rfl⟩ <;> rcases h2 with ⟨rfl, rfl⟩ | ⟨k2, n2, rfl, rfl⟩ <;> rcases h3 with ⟨rfl, rfl⟩ | ⟨k3, n3, rfl, rfl⟩ <;>
    simp only [intOf, Option.some.injEq] at e1 e2 e3 <;> subst e1 e2 e3
  · simp [Instr.sliceBounds, Sem.run]
  · simp at hmh
  · simp only [Instr.sliceBounds, Sem.run_bind, Sem.run_pure, Result.andThen_ok, hB k2 n2 cap _ (by omega) (by omega)]; simp
  · simp only [Instr.sliceBounds, Sem.run_bind, Sem.run_pure, Result.andThen_ok, hB k3 n3 cap _ (by omega) (by omega), hB k2 n2 n3.toNat _ (by omega) (by omega)]; simp
  · simp only [Instr.sliceBounds, Sem.run_bind, Sem.run_pure, Result.andThen_ok, hB k1 n1 len _ (by omega) (by omega)]; simp
  · simp at hmh
  · simp only [Instr.sliceBounds, Sem.run_bind, Sem.run_pure, Result.andThen_ok, hB k2 n2 cap _ (by omega) (by omega), hB k1 n1 n2.toNat _ (by omega) (by omega)]; simp
  · simp only [Instr.sliceBounds, Sem.run_bind, Sem.run_pure, Result.andThen_ok, hB k3 n3 cap _ (by omega) (by omega), hB k2 n2 n3.toNat _ (by omega) (by omega), hB k1 n1 n2.toNat _ (by omega) (by omega)]

theorem slice_sound (h : SRb C F β st a w) (t : TypeId) (x : AV) (v : Value) (lo hi mx : Option AV) (vl vh vm : Option Value) (hv : VR w (Av F.A β st.heap) β x v)
    (hb1 : ∀ d i, intOf lo d = some i → BoundR lo vl) (hb2 : ∀ d i, intOf hi d = some i → BoundR hi vh) (hb3 : ∀ d i, intOf mx d = some i → BoundR mx vm) {fr : Prop} (hwp : (aslice C.P t x lo hi mx).wp n fr st.heap Q) :
    ∃ r y, (Instr.sliceAt t v vl vh vm).run C.P w = .ok r w ∧ VR w (Av F.A β st.heap) β y r ∧ Q y st.heap := by
  have intOf_of : ∀ (z : Option AV) d d' i, intOf z d = some i → z.isSome → intOf z d' = some i := by
    intro z d d' i hz hs
    cases z with
    | none => simp at hs
    | some q => cases q <;> simp_all [intOf]
  unfold aslice at hwp
  obtain ⟨hmh, hwp⟩ := hwp
  split at hwp
  · rename_i s hu0
    have hu := run_tKind hu0
    simp only at hu
    obtain rfl := hv.str_inv
    split at hwp
    · rename_i l h' hl hh
      obtain ⟨hg, hQ⟩ := hwp
      have hb := sliceBounds_ok (w := w) (P := C.P) false s.size s.size lo hi none vl vh none (hb1 _ _ hl) (hb2 _ _ hh) (.inl ⟨rfl, rfl⟩) l h' s.size hl hh rfl ⟨hg.1, hg.2.1, hg.2.2, Int.le_refl _⟩ (by simp)
      have hvm : vm = none := by
        rcases hb3 0 0 rfl with ⟨_, h⟩ | ⟨_, _, h, _⟩
        · exact h
        · cases h
      subst hvm
      refine ⟨_, _, ?_, .imm (.str _), hQ⟩
      simp only [Instr.sliceAt, Instr.slice, Sem.run_bind, run_underlying hu, Result.andThen_ok, hb, Option.isSome_none, Bool.false_eq_true, if_false, Sem.run_pure]
    · exact hwp.elim
  · rename_i e f xs hu0
    have hu := run_tKind hu0
    simp only at hu
    split at hwp
    · rename_i l h' m hl hh hm
      obtain ⟨⟨s, hs, hks⟩, hg, hwp⟩ := hwp
      cases hv.isl_inv with
      | isl _ _ A cap k hcap hmax hk hf hn hA vs h1c hc hH =>
        have hlen : ((xs.drop l.toNat).take (h' - l).toNat).length = (h' - l).toNat := by simp; omega
        have hdt : ∀ i (hi : i < ((xs.drop l.toNat).take (h' - l).toNat).length), ((xs.drop l.toNat).take (h' - l).toNat)[i] = xs[l.toNat + i]'(by omega) := by intro i hi; simp
        -- what the new slice reads
        have key : ∀ (f' : Flag) (m' : Nat), (h' : Int) ≤ m' → m' ≤ cap → (f' = .full → m' - l.toNat = (h' - l).toNat) → (f' = .nil → f = .nil) →
            VR w (Av F.A β st.heap) β (.isl f' ((xs.drop l.toNat).take (h' - l).toNat)) (.slice (if m' = l.toNat then A else A.map (·.add (l.toNat * s))) (h'.toNat - l.toNat) (m' - l.toNat)) := by
          intro f' m' q1 q2 q3 q4
          have e0 : h'.toNat - l.toNat = (h' - l).toNat := by omega
          have hfin := IR.isl (w := w) (O := Av F.A β st.heap) f' ((xs.drop l.toNat).take (h' - l).toNat) (if m' = l.toNat then A else A.map (·.add (l.toNat * s))) (m' - l.toNat) k (by omega) (by omega)
            (fun x hx => hk x (List.mem_of_mem_drop (List.mem_of_mem_take hx))) (fun e => by rw [hlen]; exact q3 e) (fun e => by
              have := hn (q4 e)
              refine ⟨by rw [this.1]; simp, by omega⟩) (fun h0 => by
              rw [hlen] at h0
              obtain ⟨b, c, rfl, r1, r2⟩ := hA (by omega)
              clear hA
              rw [if_neg (by omega)]
              exact ⟨b, c + l.toNat * s, by simp [addr_add], r1, r2⟩) (fun i j => vs (l.toNat + i) j) (fun i j g1 g2 => h1c _ _ (by omega) g2) (fun b c hbc i j g1 g2 => by
              obtain ⟨b', c', rfl, r1, r2⟩ := hA (by omega)
              clear hA
              rw [if_neg (by omega)] at hbc
              simp only [Option.map_some, addr_add, Option.some.injEq, Addr.mk.injEq, and_true] at hbc
              obtain ⟨rfl, rfl⟩ := hbc
              have hks' : k = s := by
                have q5 := hk _ (List.getElem_mem (show l.toNat + i < xs.length by omega))
                have q6 := hks _ (List.getElem_mem (show l.toNat + i < xs.length by omega))
                omega
              subst hks'
              rw [show c' + l.toNat * k + i * k + j = c' + (l.toNat + i) * k + j by rw [Nat.add_mul]; omega]
              exact hc b' c' rfl (l.toNat + i) j (by omega) g2) (fun i j g1 g2 => by
              clear hA
              have e1 := hdt i g1
              have := hH (l.toNat + i) j (by omega) (by rw [e1] at g2; exact g2)
              simp only [e1]
              exact this)
          rw [hlen] at hfin
          rw [e0]
          exact .imm hfin
        have hu' := hu
        split at hwp
        · rename_i hms
          obtain ⟨hg2, hQ⟩ := hwp
          have hb := sliceBounds_ok (w := w) (P := C.P) true xs.length cap lo hi mx vl vh vm (hb1 _ _ hl) (hb2 _ _ hh) (hb3 _ _ hm) l h' m hl hh (intOf_of mx 0 cap m hm hms) ⟨hg.1, hg.2.1, hg2.1, by omega⟩ hmh
          refine ⟨_, _, ?_, key (if m = h' then .full else .unk) m.toNat (by omega) (by omega) (fun e => by split at e <;> first | omega | cases e) (fun e => by split at e <;> cases e), hQ⟩
          simp only [Instr.sliceAt, Instr.slice, Sem.run_bind, run_underlying hu, Result.andThen_ok, hb, run_tSize w hs, Sem.run_pure]
        · rename_i hms
          have hmx : mx = none := by cases mx <;> simp_all
          subst hmx
          have hb := sliceBounds_ok (w := w) (P := C.P) true xs.length cap lo hi none vl vh vm (hb1 _ _ hl) (hb2 _ _ hh) (hb3 0 0 rfl) l h' cap hl hh rfl ⟨hg.1, hg.2.1, by omega, Int.le_refl _⟩ hmh
          refine ⟨_, _, ?_, key (if f = .nil then .nil else if f = .full ∧ h' = xs.length then .full else .unk) cap (by omega) (Nat.le_refl _) (fun e => by
            split at e
            · cases e
            · split at e
              · rename_i q; have := hf q.1; omega
              · cases e) (fun e => by
            split at e
            · assumption
            · split at e <;> cases e), hwp⟩
          simp only [Instr.sliceAt, Instr.slice, Sem.run_bind, run_underlying hu, Result.andThen_ok, hb, run_tSize w hs, Sem.run_pure]
          simp
    · exact hwp.elim
  · rename_i e o off len full hu0
    have hu := run_tKind hu0
    simp only at hu
    split at hwp
    · rename_i l h' m s hl hh hm hs
      simp only [AM.wp] at hwp
      split at hwp
      · rename_i ob hob
        cases ob with
        | row e' k xs =>
          obtain ⟨rfl, hg, hwp⟩ := hwp
          have hR := h.heap.obj o _ hob
          rcases hv.sl_inv with ⟨lc, cap, A1, hlo, g1, g2, g3, g4, g5, rfl⟩ | ⟨hlo, rfl, rfl, A1, rfl⟩
          · rw [hlo] at hR
            have hk1 := hR.1
            have addr : ∀ m' : Nat, 0 < m' - l.toNat → m' ≤ cap → (if m' = l.toNat then A1 else A1.map (·.add (l.toNat * k))) = some ⟨lc.blk, lc.c0 + (off + l.toNat) * lc.k, none⟩ := by
              intro m' h0 h1
              rw [if_neg (by omega), g5 (by omega)]
              simp only [Option.map_some, addr_add, hk1, Nat.add_mul]
              congr 2
              omega
            have hxl := hR.2.1
            have hcp : h' ≤ cap := by
              rcases hg.2.2 with q | ⟨q1, q2⟩
              · omega
              · have := g4 q1; omega
            by_cases hmsn : mx.isSome = true ∧ ¬ h' = m
            · rw [if_pos hmsn.1, if_neg hmsn.2] at hwp
              obtain ⟨hg2, hQ⟩ := hwp
              have hb := sliceBounds_ok (w := w) (P := C.P) true len cap lo hi mx vl vh vm (hb1 _ _ hl) (hb2 _ _ hh) (hb3 _ _ hm) l h' m hl hh (intOf_of mx 0 cap m hm hmsn.1) ⟨hg.1, hg.2.1, hg2.1, by omega⟩ hmh
              refine ⟨.slice (if m.toNat = l.toNat then A1 else A1.map (·.add (l.toNat * k))) (h'.toNat - l.toNat) (m.toNat - l.toNat), .undef, ?_, .undef _, hQ⟩
              simp only [Instr.sliceAt, Instr.slice, Sem.run_bind, run_underlying hu, Result.andThen_ok, hb, run_tSize w hs, Sem.run_pure]
            split at hwp
            · rename_i hms
              have hg2 : h' = m := Classical.byContradiction fun q => hmsn ⟨hms, q⟩
              subst hg2
              rw [if_pos rfl] at hwp
              have hQ := hwp
              have hb := sliceBounds_ok (w := w) (P := C.P) true len cap lo hi mx vl vh vm (hb1 _ _ hl) (hb2 _ _ hh) (hb3 _ _ hm) l h' h' hl hh (intOf_of mx 0 cap h' hm hms) ⟨hg.1, hg.2.1, Int.le_refl _, by omega⟩ hmh
              have e0 : h'.toNat - l.toNat = (h' - l).toNat := by omega
              refine ⟨_, _, ?_, .sl o (off + l.toNat) (h' - l).toNat true lc (h' - l).toNat (if h'.toNat = l.toNat then A1 else A1.map (·.add (l.toNat * k))) hlo (Nat.le_refl _) (by omega) (fun _ => rfl) (by simp) (fun h0 => addr _ (by omega) (by omega)), hQ⟩
              simp only [Instr.sliceAt, Instr.slice, Sem.run_bind, run_underlying hu, Result.andThen_ok, hb, run_tSize w hs, Sem.run_pure, e0]
            · rename_i hms
              obtain ⟨hg2, hQ⟩ := hwp
              have hmx : mx = none := by cases mx <;> simp_all
              subst hmx
              have hb := sliceBounds_ok (w := w) (P := C.P) true len cap lo hi none vl vh vm (hb1 _ _ hl) (hb2 _ _ hh) (hb3 0 0 rfl) l h' cap hl hh rfl ⟨hg.1, hg.2.1, by omega, Int.le_refl _⟩ hmh
              have e0 : h'.toNat - l.toNat = (h' - l).toNat := by omega
              refine ⟨_, _, ?_, .sl o (off + l.toNat) (h' - l).toNat full lc (cap - l.toNat) (if cap = l.toNat then A1 else A1.map (·.add (l.toNat * k))) hlo (by omega) (by omega) (fun e => by have := g3 e; have := hg2 e; omega) (fun e => by have := g4 e; omega) (fun h0 => addr _ (by omega) (Nat.le_refl _)), hQ⟩
              simp only [Instr.sliceAt, Instr.slice, Sem.run_bind, run_underlying hu, Result.andThen_ok, hb, run_tSize w hs, Sem.run_pure, e0]
              simp
          · rw [hlo] at hR
            have hx0 : xs = [] := hR
            subst hx0
            have hh0 : h' = 0 := by
              rcases hg.2.2 with q | ⟨_, q⟩
              · omega
              · simp at q; omega
            have hl0 : l = 0 := by omega
            subst hl0 hh0
            by_cases hmsn : mx.isSome = true ∧ ¬ (0 : Int) = m
            · rw [if_pos hmsn.1, if_neg hmsn.2] at hwp
              have := hwp.1
              omega
            split at hwp
            · rename_i hms
              have hg2 : (0 : Int) = m := Classical.byContradiction fun q => hmsn ⟨hms, q⟩
              subst hg2
              rw [if_pos rfl] at hwp
              have hQ := hwp
              have hb := sliceBounds_ok (w := w) (P := C.P) true 0 0 lo hi mx vl vh vm (hb1 _ _ hl) (hb2 _ _ hh) (hb3 _ _ hm) 0 0 0 hl hh (intOf_of mx 0 0 0 hm hms) (by simp) hmh
              refine ⟨_, _, ?_, .nilrow o true A1 hlo, by simpa [AM.wp] using hQ⟩
              simp [Instr.sliceAt, Instr.slice, Sem.run_bind, run_underlying hu, Result.andThen_ok, hb, run_tSize w hs, Sem.run_pure]
            · rename_i hms
              obtain ⟨hg2, hQ⟩ := hwp
              have hmx : mx = none := by cases mx <;> simp_all
              subst hmx
              have hb := sliceBounds_ok (w := w) (P := C.P) true 0 0 lo hi none vl vh vm (hb1 _ _ hl) (hb2 _ _ hh) (hb3 0 0 rfl) 0 0 0 hl hh rfl (by simp) hmh
              refine ⟨_, _, ?_, .nilrow o full A1 hlo, by simpa [AM.wp] using hQ⟩
              simp [Instr.sliceAt, Instr.slice, Sem.run_bind, run_underlying hu, Result.andThen_ok, hb, run_tSize w hs, Sem.run_pure]
        | _ => exact hwp.elim
      · exact hwp.elim
    · exact hwp.elim
  · exact hwp.elim
end
end Go.Aw
end
section
set_option linter.unusedVariables false
set_option linter.unusedSimpArgs false
namespace Go.Aw
section
variable {C : Cx} {F : Fr} {β : Nat → Option Loc} {st : St} {a : Act} {w : World} {n : Nat} {Q : AV → Hp → Prop}

/-- What 'fill' lays of one part. -/
def laid (cells : Array Value) (off : Nat) (v : Array Value) : Array Value := v.zipIdx.foldl (fun cs (c, j) => cs.setIfInBounds (off + j) c) cells
theorem laid_size (cells : Array Value) (off : Nat) (v : Array Value) : (laid cells off v).size = cells.size := by
  unfold laid
  rw [← Array.foldl_toList]
  generalize v.zipIdx.toList = l
  induction l generalizing cells with
  | nil => rfl
  | cons x r ih => simp only [List.foldl_cons]; rw [ih]; simp
theorem laid_get (cells : Array Value) (off : Nat) (v : Array Value) (h : off + v.size ≤ cells.size) (m : Nat) : (laid cells off v)[m]? = if off ≤ m ∧ m < off + v.size then v[m - off]? else cells[m]? := by
  have key : ∀ (l : List Value) (i : Nat) (cells : Array Value), off + i + l.length ≤ cells.size → ((l.zipIdx i).foldl (fun cs (c, j) => cs.setIfInBounds (off + j) c) cells)[m]? = if off + i ≤ m ∧ m < off + i + l.length then l[m - (off + i)]? else cells[m]? := by
    intro l
    induction l with
    | nil => intro i cells _; simp; intro _ _; omega
    | cons x r ih =>
      intro i cells hc
      simp only [List.length_cons] at hc
      simp only [List.zipIdx_cons, List.foldl_cons]
      rw [ih (i + 1) (cells.setIfInBounds (off + i) x) (by simp; omega)]
      by_cases h1 : off + (i + 1) ≤ m ∧ m < off + (i + 1) + r.length
      · rw [if_pos h1, if_pos (by simp only [List.length_cons]; omega), show m - (off + i) = (m - (off + (i + 1))) + 1 by omega]; simp
      · rw [if_neg h1]
        by_cases h2 : m = off + i
        · subst h2
          rw [if_pos (by simp only [List.length_cons]; omega), Array.getElem?_setIfInBounds, if_pos rfl, if_pos (by omega)]
          simp
        · rw [Array.getElem?_setIfInBounds, if_neg (show ¬ off + i = m by omega), if_neg (by simp only [List.length_cons]; omega)]
  have := key v.toList 0 cells (by simpa using h)
  unfold laid
  rw [← Array.foldl_toList, Array.toList_zipIdx]
  simpa using this

theorem fill_cons (place : Nat → Option (Nat × Nat)) (cells : Array Value) (i : Nat) (v : Value) (r : List (Nat × Value)) (off s : Nat) (hp : place i = some (off, s)) (h1 : v.cells.size = s) (h2 : off + s ≤ cells.size) :
    Instr.fill place cells ((i, v) :: r) = Instr.fill place (laid cells off v.cells) r := by
  simp only [Instr.fill, hp]
  rw [if_neg (by simp; omega)]
  rfl

/-- Parts and their values. -/
def PartsR (w : World) (O : Nat → Prop) (β : Nat → Option Loc) : List (Nat × AV) → List (Nat × Value) → Prop
  | [], [] => True
  | (i, x) :: xs, (j, v) :: vs => i = j ∧ VR w O β x v ∧ PartsR w O β xs vs
  | _, _ => False
theorem partsR_of {O : Nat → Prop} {e : Nat → AV} {a : Act} (hr : ∀ x, VR w O β (rho e x) (a.eval x)) : ∀ ps : List (Nat × Operand), PartsR w O β (ps.map fun p => (p.1, rho e p.2)) (ps.map fun p => (p.1, a.eval p.2))
  | [] => trivial
  | p :: ps => ⟨rfl, hr _, partsR_of hr ps⟩

/-- Some cells and what they are. -/
def CellsR (w : World) (O : Nat → Prop) (β : Nat → Option Loc) (cs : List AV) (vs : Array Value) : Prop :=
  vs.size = cs.length ∧ (∀ (m : Nat) (h : m < vs.size), (vs[m]).oneCell' = true) ∧ ∀ m (h : m < cs.length), ∃ v, vs[m]? = some v ∧ VR w O β cs[m] v

theorem CellsR.of_inv {O : Nat → Prop} {cs : List AV} {vs : Array Value} (h : vs.size = cs.length ∧ (∀ m (h : m < vs.size), (vs[m]).oneCell' = true) ∧ ∀ m (h1 : m < cs.length) (h2 : m < vs.size), VR w O β cs[m] vs[m]) : CellsR w O β cs vs :=
  ⟨h.1, h.2.1, fun m hm => ⟨vs[m]'(by rw [h.1]; exact hm), by simp [h.1, hm], h.2.2 m hm (by rw [h.1]; exact hm)⟩⟩

theorem CellsR.splice {O : Nat → Prop} {cs vs : List AV} {cells : Array Value} {us : Array Value} {off : Nat} (h : CellsR w O β cs cells) (hv : CellsR w O β vs us) (hle : off + vs.length ≤ cs.length) :
    CellsR w O β (splice cs off vs) (laid cells off us) := by
  have hus := hv.1
  have hcs := h.1
  refine ⟨by rw [laid_size, splice_length hle, hcs], fun m hm => ?_, fun m hm => ?_⟩
  · have hg := laid_get cells off us (by omega) m
    rw [Array.getElem?_eq_getElem hm] at hg
    split at hg
    · obtain ⟨q1, q2⟩ := Array.getElem?_eq_some_iff.1 hg.symm
      rw [← q2]; exact hv.2.1 _ q1
    · obtain ⟨q1, q2⟩ := Array.getElem?_eq_some_iff.1 hg.symm
      rw [← q2]; exact h.2.1 _ q1
  · have hm' : m < cs.length := by rwa [splice_length hle] at hm
    rw [laid_get cells off us (by omega)]
    have hs := splice_get (cs := cs) (vs := vs) (off := off) (m := m) hle
    rw [List.getElem?_eq_getElem hm] at hs
    by_cases h1 : off ≤ m ∧ m < off + us.size
    · rw [if_pos h1]
      rw [if_neg (by omega), if_pos (by omega), List.getElem?_eq_getElem (by omega)] at hs
      injection hs with hs
      rw [hs]
      exact hv.2.2 _ _
    · rw [if_neg h1]
      have : (Aw.splice cs off vs)[m] = cs[m] := by
        by_cases h2 : m < off
        · rw [if_pos h2, List.getElem?_eq_getElem hm'] at hs; injection hs
        · rw [if_neg h2, if_neg (by omega), List.getElem?_eq_getElem hm'] at hs; injection hs
      rw [this]
      exact h.2.2 m hm'

theorem abuild_sound {O : Nat → Prop} (place place' : Nat → Option (Nat × Nat)) (hp : ∀ i p, place i = some p → place' i = some p) : ∀ (ps : List (Nat × AV)) (vs : List (Nat × Value)) (cs : List AV) (cells : Array Value) (out : List AV), PartsR w O β ps vs → CellsR w O β cs cells → abuild place cs ps = some out →
    ∃ cells', Instr.fill place' cells vs = some cells' ∧ CellsR w O β out cells'
  | [], [], cs, cells, out, _, hc, h => by
    simp only [abuild, Option.some.injEq] at h
    subst h
    exact ⟨cells, rfl, hc⟩
  | (i, x) :: ps, (j, v) :: vs, cs, cells, out, hpr, hc, h => by
    obtain ⟨rfl, hx, hpr⟩ := hpr
    simp only [abuild] at h
    split at h
    · rename_i off s us h1 h2
      split at h
      · rename_i h3
        obtain ⟨h3, h4⟩ := h3
        have hci := CellsR.of_inv (hx.cells_inv h2)
        obtain ⟨cells', e1, e2⟩ := abuild_sound place place' hp ps vs _ _ out hpr (hc.splice hci (off := off) (by omega)) h
        refine ⟨cells', ?_, e2⟩
        rw [fill_cons place' cells i v vs off s (hp _ _ h1) (by rw [hci.1]; exact h3) (by rw [hc.1]; exact h4)]
        exact e1
      · cases h
    · cases h
  | [], _ :: _, _, _, _, h, _, _ => h.elim
  | _ :: _, [], _, _, _, h, _, _ => h.elim

theorem run_places {P : Program} (fs : Array Field) (t : TypeId) (hu : P.underlying t = some (.struct fs)) (hall : ∀ f ∈ fs, (tSize P f.type).isSome) :
    ∃ pl : Array (Nat × Nat), (fs.mapM fun f => do pure (f.offset, ← sizeOf f.type) : Sem (Array (Nat × Nat))).run P w = .ok pl w ∧ ∀ i p, tField P t i = some p → pl[i]? = some p := by
  have key : ∀ l : List Field, (∀ f ∈ l, (tSize P f.type).isSome) → ∃ pl : List (Nat × Nat), (l.mapM fun f => do pure (f.offset, ← sizeOf f.type) : Sem (List (Nat × Nat))).run P w = .ok pl w ∧ pl = l.map fun f => (f.offset, (tSize P f.type).getD 0) := by
    intro l
    induction l with
    | nil => intro _; exact ⟨[], by simp [Sem.run], rfl⟩
    | cons f l ih =>
      intro hl
      obtain ⟨pl, e1, e2⟩ := ih (fun g hg => hl g (by simp [hg]))
      obtain ⟨s, hs⟩ := Option.isSome_iff_exists.1 (hl f (by simp))
      refine ⟨(f.offset, s) :: pl, ?_, by simp [hs, e2]⟩
      simp only [List.mapM_cons, Sem.run_bind, run_tSize w hs, Sem.run_pure, Result.andThen_ok, e1]
  obtain ⟨pl, e1, e2⟩ := key fs.toList (fun f hf => hall f (by simpa using hf))
  refine ⟨pl.toArray, ?_, fun i p hp => ?_⟩
  · rw [Array.mapM_eq_mapM_toList, Sem.run_map, e1]; rfl
  · unfold tField at hp
    rw [hu] at hp
    simp only at hp
    cases hf : fs[i]? with
    | none => simp [hf] at hp
    | some f =>
      simp only [hf, Option.bind_some] at hp
      cases hs : tSize P f.type with
      | none => simp [hs] at hp
      | some s =>
        simp only [hs, Option.map_some, Option.some.injEq] at hp
        subst hp
        have : fs.toList[i]? = some f := by simpa using hf
        simp [e2, this, hs]

theorem tFieldsOk_all {P : Program} {t : TypeId} (h : tFieldsOk P t = true) : ∃ fs, P.underlying t = some (.struct fs) ∧ ∀ f ∈ fs, (tSize P f.type).isSome := by
  unfold tFieldsOk at h
  split at h
  · rename_i fs hu
    refine ⟨fs, hu, fun f hf => ?_⟩
    obtain ⟨i, hi, rfl⟩ := Array.getElem_of_mem hf
    simp only [Array.all_eq_true] at h
    exact h i hi
  · cases h

theorem zero_cells {O : Nat → Prop} {zv : Value} {z : List AV} (h : (ofValue zv).cells = some z) : CellsR w O β z zv.cells := CellsR.of_inv ((ofValue_VR w O β zv).cells_inv h)

theorem CellsR.agg {O : Nat → Prop} {cs : List AV} {vs : Array Value} (h : CellsR w O β cs vs) : VR w O β (.agg cs) (.agg vs) :=
  .agg _ _ h.1 h.2.1 fun m h1 h2 => by
    obtain ⟨v, e1, e2⟩ := h.2.2 m h1
    rw [Array.getElem?_eq_getElem h2] at e1
    injection e1 with e1
    rw [e1]
    exact e2

theorem build_struct_run {P : Program} {t : TypeId} (ps : List (Nat × AV)) (vs : Array (Nat × Value)) {O : Nat → Prop} (hp : PartsR w O β ps vs.toList) (z cs : List AV) (hz : tZero P t = some z) (hok : tFieldsOk P t = true) (hb : abuild (fun i => tField P t i) z ps = some cs) :
    ∃ r, (Instr.build t vs).run P w = .ok r w ∧ VR w O β (.agg cs) r := by
  obtain ⟨zv, e1, e2⟩ := run_tZero w hz
  obtain ⟨fs, hu, hall⟩ := tFieldsOk_all hok
  obtain ⟨pl, e3, e4⟩ := run_places (w := w) fs t hu hall
  obtain ⟨cells', e5, e6⟩ := abuild_sound (fun i => tField P t i) (pl[·]?) e4 ps vs.toList z zv.cells cs hp (zero_cells e2) hb
  refine ⟨.agg cells', ?_, e6.agg⟩
  simp only [Instr.build, Sem.run_bind, e1, Result.andThen_ok, run_underlying hu]
  rw [e3]
  simp only [Result.andThen_ok, e5, Sem.run_pure]

theorem build_arr_run {P : Program} {t el len s : Nat} (ps : List (Nat × AV)) (vs : Array (Nat × Value)) {O : Nat → Prop} (hp : PartsR w O β ps vs.toList) (z cs : List AV) (hz : tZero P t = some z) (hu : P.underlying t = some (.array len el)) (hs : tSize P el = some s)
    (hb : abuild (fun i => some (i * s, s)) z ps = some cs) : ∃ r, (Instr.build t vs).run P w = .ok r w ∧ VR w O β (.agg cs) r := by
  obtain ⟨zv, e1, e2⟩ := run_tZero w hz
  obtain ⟨cells', e5, e6⟩ := abuild_sound (fun i => some (i * s, s)) (fun i => some (i * s, s)) (fun _ _ h => h) ps vs.toList z zv.cells cs hp (zero_cells e2) hb
  refine ⟨.agg cells', ?_, e6.agg⟩
  simp only [Instr.build, Sem.run_bind, e1, Result.andThen_ok, run_underlying hu, run_tSize w hs, e5, Sem.run_pure]

/-- Elements and their cells one behind the other. -/
def RowsR (w : World) (O : Nat → Prop) (β : Nat → Option Loc) (k : Nat) (xs : List (List AV)) (vs : Array Value) : Prop :=
  vs.size = xs.length * k ∧ lenAll k xs ∧ (∀ (m : Nat) (h : m < vs.size), (vs[m]).oneCell' = true) ∧ ∀ i j (h1 : i < xs.length) (h2 : j < xs[i].length), ∃ v, vs[i * k + j]? = some v ∧ VR w O β xs[i][j] v

theorem abuildSlice_sound {O : Nat → Prop} (k : Nat) : ∀ (ps : List (Nat × AV)) (vs : List (Nat × Value)) (xs : List (List AV)) (cells : Array Value) (out : List (List AV)), PartsR w O β ps vs → RowsR w O β k xs cells → abuildSlice k xs ps = some out →
    ∃ cells', Instr.fill (fun i => some (i * k, k)) cells vs = some cells' ∧ RowsR w O β k out cells' ∧ out.length = xs.length
  | [], [], xs, cells, out, _, hc, h => by
    simp only [abuildSlice, Option.some.injEq] at h
    subst h
    exact ⟨cells, rfl, hc, rfl⟩
  | (i, x) :: ps, (j, v) :: vs, xs, cells, out, hpr, hc, h => by
    obtain ⟨rfl, hx, hpr⟩ := hpr
    simp only [abuildSlice] at h
    split at h
    · rename_i us h2
      split at h
      · rename_i h3
        obtain ⟨h3, h4⟩ := h3
        have hci := CellsR.of_inv (hx.cells_inv h2)
        have hik : i * k + k ≤ xs.length * k := by
          have : (i + 1) * k ≤ xs.length * k := Nat.mul_le_mul_right _ (by omega)
          rw [Nat.add_mul] at this; omega
        have hsz := hci.1
        have hlen := hc.1
        have hrow : RowsR w O β k (xs.set i us) (laid cells (i * k) v.cells) := by
          refine ⟨by rw [laid_size]; simpa using hlen, fun y hy => ?_, fun m hm => ?_, fun p q g1 g2 => ?_⟩
          · rcases List.mem_or_eq_of_mem_set hy with hy | hy
            · exact hc.2.1 y hy
            · rw [hy]; exact h3
          · have hg := laid_get cells (i * k) v.cells (by omega) m
            rw [Array.getElem?_eq_getElem hm] at hg
            split at hg
            · obtain ⟨q1, q2⟩ := Array.getElem?_eq_some_iff.1 hg.symm
              rw [← q2]; exact hci.2.1 _ q1
            · obtain ⟨q1, q2⟩ := Array.getElem?_eq_some_iff.1 hg.symm
              rw [← q2]; exact hc.2.2.1 _ q1
          · simp only [List.length_set] at g1
            rw [laid_get cells (i * k) v.cells (by omega)]
            by_cases hp : p = i
            · subst hp
              have e0 : (xs.set p us)[p]'(by simpa using g1) = us := by rw [List.getElem_set_self]
              have hq : q < us.length := by rw [e0] at g2; exact g2
              obtain ⟨u, r1, r2⟩ := hci.2.2 q hq
              rw [if_pos (by omega), show p * k + q - p * k = q by omega]
              exact ⟨u, r1, by simp only [e0]; exact r2⟩
            · have e0 : (xs.set i us)[p]'(by simpa using g1) = xs[p] := by rw [List.getElem_set_ne (by omega)]
              have hq : q < xs[p].length := by rw [e0] at g2; exact g2
              have hqk : q < k := by rw [hc.2.1 _ (List.getElem_mem g1)] at hq; exact hq
              obtain ⟨u, r1, r2⟩ := hc.2.2.2 p q g1 hq
              rw [if_neg (by
                rintro ⟨s1, s2⟩
                exact hp (mulIdx hqk (show p * k + q - i * k < k by omega) (by omega)).1)]
              exact ⟨u, r1, by simp only [e0]; exact r2⟩
        obtain ⟨cells', e1, e2, e3⟩ := abuildSlice_sound k ps vs _ _ out hpr hrow h
        refine ⟨cells', ?_, e2, by simpa using e3⟩
        rw [fill_cons _ cells i v vs (i * k) k rfl (by omega) (by omega)]
        exact e1
      · cases h
    · cases h
  | [], _ :: _, _, _, _, h, _, _ => h.elim
  | _ :: _, [], _, _, _, h, _, _ => h.elim

theorem zeros_rows {O : Nat → Prop} {z : List AV} {zv : Array Value} (h : CellsR w O β z zv) (len : Nat) : RowsR w O β z.length (List.replicate len z) ((Array.range (len * z.length)).map (zv[· % zv.size]!)) := by
  have hs := h.1
  refine ⟨by simp, fun y hy => by rw [List.eq_of_mem_replicate hy], fun m hm => ?_, fun i j g1 g2 => ?_⟩
  · simp at hm
    have h0 : 0 < z.length := by
      rcases Nat.eq_zero_or_pos z.length with e | e
      · rw [e] at hm; simp at hm
      · exact e
    have hlt : m % zv.size < zv.size := Nat.mod_lt _ (by omega)
    simp only [Array.getElem_map, Array.getElem_range]
    rw [getElem!_pos zv _ hlt]
    exact h.2.1 _ hlt
  · simp at g1
    have e0 : (List.replicate len z)[i]'(by simpa using g1) = z := by simp
    have hj : j < z.length := by rw [e0] at g2; exact g2
    obtain ⟨v, r1, r2⟩ := h.2.2 j hj
    have hlt' : i * z.length + j < len * z.length := by
      have : (i + 1) * z.length ≤ len * z.length := Nat.mul_le_mul_right _ (by omega)
      rw [Nat.add_mul] at this; omega
    have hmod : (i * z.length + j) % zv.size = j := by rw [hs, Nat.mul_comm, Nat.mul_add_mod]; exact Nat.mod_eq_of_lt hj
    refine ⟨v, ?_, by simp only [e0]; exact r2⟩
    rw [Array.getElem?_map, Array.getElem?_range, if_pos hlt', Option.map_some, hmod]
    obtain ⟨q1, q2⟩ := Array.getElem?_eq_some_iff.1 r1
    rw [getElem!_pos zv _ q1, q2]

/-- A new row out of elements. -/
theorem new_rows (h : SRb C F β st a w) (e k : Nat) (xs : List (List AV)) (cells : Array Value) (hrow : RowsR w (Av F.A β st.heap) β k xs cells) (full : Bool) (len cap : Nat) (hlen : xs.length = len) (hcap : len ≤ cap) (extra : Array Value) (hx1 : ∀ (m : Nat) (h : m < extra.size), (extra[m]).oneCell' = true)
    (hsz : cap * k ≤ cells.size + extra.size) (hmax : cap ≤ maxLen) (hfull : full = true → cap = len) (hwp : (AM.new (.row e k xs) fun n => .pure (.sl n 0 len full)).wp n (Fresh C st n) st.heap Q) {run : Result Next}
    (hr : run = .ok (.value (.slice (some ⟨w.heap.size, 0, none⟩) len cap)) (w.alloc (.cells (cells ++ extra) e))) : Target C F st a run Q := by
  obtain ⟨hf, hno, hQ⟩ := hwp
  obtain ⟨r1, r2, r3, r4⟩ := hrow
  have hnew := (h.newRow hf e k xs (cells ++ extra) hno r2 (by simp; omega) cap (by omega) (by simp; omega) hmax (fun m hm => by
    simp only [Array.getElem_append]
    split
    · exact r3 _ _
    · exact hx1 _ _) (fun i j g1 g2 => by
    obtain ⟨v, q1, q2⟩ := r4 i j g1 g2
    obtain ⟨p1, _⟩ := Array.getElem?_eq_some_iff.1 q1
    exact ⟨v, by rw [Array.getElem?_append_left p1]; exact q1, q2⟩)).1
  have hv := VR.sl (w := w.alloc (.cells (cells ++ extra) e)) (O := Av F.A (updB β n (some ⟨w.heap.size, 0, k, cap⟩)) (updH st.heap n (some (.row e k xs)))) (β := updB β n (some ⟨w.heap.size, 0, k, cap⟩)) n 0 len full ⟨w.heap.size, 0, k, cap⟩ cap
    (some ⟨w.heap.size, 0, none⟩) (updB_self ..) hcap (by simp) hfull (by simp) (by simp)
  exact ⟨_, _, _, _, _, .inl hr, hnew, hv, hQ⟩
end
end Go.Aw
end
section
set_option linter.unusedVariables false
set_option linter.unusedSimpArgs false
namespace Go.Aw
open Go.MapKept (IsKey run_checkKey run_findKey run_keyThatStays bytes_beq)
section
variable {C : Cx} {F : Fr} {β : Nat → Option Loc} {st : St} {a : Act} {w : World} {n : Nat} {Q : AV → Hp → Prop}

theorem getObj_map {P : Program} {w : World} {r : Nat} {es : Array MapEntry} {clock : Nat} (hb : w.heap[r]? = some (.map es clock)) : (getObj r).run P w = .ok (.map es clock) w := by
  simp [getObj, Sem.run, hb]
theorem setObj_map {P : Program} {w : World} {r : Nat} {es : Array MapEntry} {clock : Nat} (o : Obj) (hb : w.heap[r]? = some (.map es clock)) : (setObj r o).run P w = .ok () { w with heap := w.heap.setIfInBounds r o } := by
  simp [setObj, Sem.run, hb]
theorem run_tMapKV {P : Program} {t kt vt : TypeId} (h : tMapKV P t = some (kt, vt)) : P.underlying t = some (.map kt vt) := by
  unfold tMapKV at h
  split at h
  · injection h with h
    injection h with h1 h2
    subst h1 h2
    assumption
  · cases h
theorem run_tZeroV {P : Program} {t : TypeId} {z : AV} (w : World) (h : tZeroV P t = some z) : ∃ v, (zeroValue t).run P w = .ok v w ∧ z = ofValue v := by
  unfold tZeroV at h
  cases hi : P.info? t with
  | none => simp [hi] at h
  | some i =>
    cases hz : i.zero with
    | none => simp [hi, hz] at h
    | some v =>
      simp only [hi, Option.bind_some, hz, Option.map_some, Option.some.injEq] at h
      exact ⟨v, by simp [zeroValue, typeInfo, hi, Result.andThen, hz], h.symm⟩

/-- A key, as the machine has it. -/
theorem key_of {P : Program} {w : World} {O : Nat → Prop} {kt : TypeId} {kk : TK} {k : AV} {v : Value} (hk : tKind P kt = some kk) (hok : keyOk kk k = true) (h : VR w O β k v) :
    ∃ (d : TypeDesc), P.underlying kt = some d ∧ IsKey d v := by
  have hu := run_tKind hk
  cases kk <;> cases k <;> simp only [keyOk, Bool.false_eq_true, decide_eq_true_eq] at hok
  case int.int k k' m => subst hok; rw [h.int_inv]; exact ⟨_, hu, by simp [IsKey]⟩
  case str.str s => rw [h.str_inv]; exact ⟨_, hu, by simp [IsKey]⟩
  case bool.bool b => rw [h.bool_inv]; exact ⟨_, hu, by simp [IsKey]⟩

theorem sameK_sound {w : World} {O : Nat → Prop} {d : TypeDesc} {x y : AV} {u v : Value} {b : Bool} (hx : VR w O β x u) (hd : IsKey d u) (hy : VR w O β y v) (h : sameK x y = some b) :
    Instr.sameNow d u v = some b ∧ (b = true → v = u) := by
  cases x <;> cases y <;> simp only [sameK, reduceCtorEq] at h
  case int.int k p k' q =>
    split at h
    · rename_i e
      subst e
      injection h with h
      subst h
      rw [hx.int_inv] at hd ⊢
      rw [hy.int_inv]
      cases d <;> simp [IsKey] at hd
      refine ⟨by simp [Instr.sameNow]; rfl, fun h => by have := of_decide_eq_true h; subst this; rfl⟩
    · cases h
  case str.str s s' =>
    injection h with h
    subst h
    rw [hx.str_inv] at hd ⊢
    rw [hy.str_inv]
    cases d <;> simp [IsKey] at hd
    refine ⟨?_, fun h => by have := of_decide_eq_true h; subst this; rfl⟩
    simp only [Instr.sameNow]
    congr 1
    rw [Bool.eq_iff_iff, bytes_beq]
    simp
  case bool.bool p q =>
    injection h with h
    subst h
    rw [hx.bool_inv] at hd ⊢
    rw [hy.bool_inv]
    cases d <;> simp [IsKey] at hd
    refine ⟨?_, fun h => by have := of_decide_eq_true h; subst this; rfl⟩
    simp only [Instr.sameNow, Option.some.injEq]
    cases p <;> cases q <;> rfl

theorem findK_sound {w : World} {O : Nat → Prop} {d : TypeDesc} {x : AV} {u : Value} (hx : VR w O β x u) (hd : IsKey d u) : ∀ (es : List (Nat × AV × AV)) (l : List MapEntry) (i : Nat) (r : Option (Nat × AV)), l.length = es.length →
    (∀ j (h1 : j < es.length) (h2 : j < l.length), VR w O β es[j].2.1 l[j].key ∧ VR w O β es[j].2.2 l[j].val) → findK x es i = some r →
    match r with
    | none => Instr.findNow d u l i = some none
    | some (p, y) => ∃ (j : Nat) (h1 : j < es.length) (h2 : j < l.length), p = i + j ∧ y = es[j].2.2 ∧ Instr.findNow d u l i = some (some (i + j, l[j].val)) ∧ l[j].key = u
  | [], l, i, r, hl, hr, h => by
    have : l = [] := List.eq_nil_of_length_eq_zero hl
    subst this
    simp only [findK, Option.some.injEq] at h
    subst h
    rfl
  | e :: es, [], i, r, hl, hr, h => by simp at hl
  | e :: es, m :: l, i, r, hl, hr, h => by
    simp only [findK] at h
    have h0 := hr 0 (by simp) (by simp)
    simp only [List.getElem_cons_zero] at h0
    split at h
    · rename_i hs
      obtain ⟨g1, g2⟩ := sameK_sound hx hd h0.1 hs
      simp only [Option.some.injEq] at h
      subst h
      exact ⟨0, by simp, by simp, by simp, by simp, by simp [Instr.findNow, g1], g2 rfl⟩
    · rename_i hs
      obtain ⟨g1, g2⟩ := sameK_sound hx hd h0.1 hs
      have ih := findK_sound hx hd es l (i + 1) r (by simpa using hl) (fun j h1 h2 => hr (j + 1) (by simp; omega) (by simp; omega)) h
      cases r with
      | none => simp only at ih ⊢; simp [Instr.findNow, g1, ih]
      | some r =>
        obtain ⟨j, h1, h2, q1, q2, q3, q4⟩ := ih
        refine ⟨j + 1, by simpa using h1, by simpa using h2, by omega, by simpa using q2, ?_, by simpa using q4⟩
        simp only [Instr.findNow, g1, q3, List.getElem_cons_succ]
        rw [show i + 1 + j = i + (j + 1) by omega]
    · cases h

theorem VR.map_inv {w : World} {O : Nat → Prop} {o : Nat} {v : Value} (h : VR w O β (.map o) v) : ∃ l, β o = some l ∧ v = .map (some l.blk) := by
  cases h with
  | imm h => cases h
  | map _ l h => exact ⟨l, h, rfl⟩
theorem VR.miter_inv {w : World} {O : Nat → Prop} {o : Nat} {v : Value} (h : VR w O β (.miter o) v) : ∃ l, β o = some l ∧ v = .pointer (some ⟨l.blk, 0, none⟩) := by
  cases h with
  | imm h => cases h
  | miter _ l h => exact ⟨l, h, rfl⟩
theorem VR.nilmap_inv {w : World} {O : Nat → Prop} {v : Value} (h : VR w O β .nilmap v) : v = .map none := by
  cases h with | imm h => cases h; rfl

/-- A map object in the memory. -/
theorem SRb.map_at (h : SRb C F β st a w) {o clock : Nat} {es : List (Nat × AV × AV)} {l : Loc} (ho : st.heap o = some (.map clock es)) (hl : β o = some l) :
    ∃ arr : Array MapEntry, w.heap[l.blk]? = some (.map arr clock) ∧ arr.size = es.length ∧ ∀ i (h1 : i < es.length) (h2 : i < arr.size), arr[i].born = es[i].1 ∧ VR w (Av F.A β st.heap) β es[i].2.1 arr[i].key ∧ VR w (Av F.A β st.heap) β es[i].2.2 arr[i].val := by
  have := h.heap.obj o _ ho
  rw [hl] at this
  exact this

theorem SRb.newMap (h : SRb C F β st a w) (hf : Fresh C st n) :
    SRb C F (updB β n (some ⟨w.heap.size, 0, 0, 0⟩)) ⟨st.env, updH st.heap n (some (.map 0 []))⟩ a (w.alloc (.map #[] 0)) :=
  h.newObj hf (.map 0 []) (.map #[] 0) 0 0 rfl fun O β' _ _ => ⟨#[], heap_alloc_new w _, rfl, fun i h1 => by simp at h1⟩

theorem lookup_sound (h : SRb C F β st a w) (t : TypeId) (ok : Bool) {m k : AV} {vm vk : Value} (hm : VR w (Av F.A β st.heap) β m vm) (hk : VR w (Av F.A β st.heap) β k vk)
    (hwp : (alookup C.P t m k ok).wp n (Fresh C st n) st.heap Q) : ∃ r z, (Instr.lookup t vm vk ok).run C.P w = .ok r w ∧ VR w (Av F.A β st.heap) β z r ∧ Q z st.heap := by
  unfold alookup at hwp
  split at hwp
  · rename_i kt vt hkv
    have hu := run_tMapKV hkv
    split at hwp
    · rename_i kk z hkk hz
      obtain ⟨hok, hwp⟩ := hwp
      obtain ⟨d, hd, hkey⟩ := key_of hkk hok hk
      obtain ⟨zv, hz1, hz2⟩ := run_tZeroV w hz
      have main : ∀ (es : List (Nat × AV × AV)) (arr : Array MapEntry), arr.size = es.length → (∀ i (h1 : i < es.length) (h2 : i < arr.size), VR w (Av F.A β st.heap) β es[i].2.1 arr[i].key ∧ VR w (Av F.A β st.heap) β es[i].2.2 arr[i].val) →
          ((match findK k es 0 with
          | some (some (_, v)) => AM.pure (if ok then AV.tup [v, .bool true] else v)
          | some none => .pure (if ok then .tup [z, .bool false] else z)
          | none => .fail).wp n (Fresh C st n) st.heap Q) →
          ∃ res r y, (Instr.findKey kt vk arr.toList).run C.P w = .ok res w ∧ (r = match res with | some (_, v) => (if ok then .tuple #[v, .bool true] else v) | none => (if ok then .tuple #[zv, .bool false] else zv)) ∧ VR w (Av F.A β st.heap) β y r ∧ Q y st.heap := by
        intro es arr hsz harr hq
        cases hf : findK k es 0 with
        | none => simp only [hf] at hq; exact hq.elim
        | some r =>
          have := findK_sound hk hkey es arr.toList 0 r (by simpa using hsz) (fun j h1 h2 => by simpa using harr j h1 (by simpa using h2)) hf
          simp only [hf] at hq
          cases r with
          | none =>
            simp only at this hq
            refine ⟨none, _, if ok then .tup [z, .bool false] else z, run_findKey hd this, rfl, ?_, hq⟩
            have hzv : VR w (Av F.A β st.heap) β z zv := hz2 ▸ ofValue_VR _ _ _ zv
            cases ok
            · exact hzv
            · exact .tup _ _ rfl (fun i h1 h2 => by
                match i, h1 with
                | 0, _ => exact hzv
                | 1, _ => exact .imm (.bool _))
          | some r =>
            obtain ⟨j, h1, h2, q1, q2, q3, q4⟩ := this
            obtain ⟨p, y⟩ := r
            simp only at hq q1 q2
            have hj : j < arr.size := by simpa using h2
            refine ⟨some (0 + j, arr.toList[j].val), _, if ok then .tup [y, .bool true] else y, run_findKey hd q3, rfl, ?_, hq⟩
            have hv : VR w (Av F.A β st.heap) β y arr.toList[j].val := by rw [q2]; simpa using (harr j h1 hj).2
            cases ok
            · exact hv
            · exact .tup _ _ rfl (fun i h1 h2 => by
                match i, h1 with
                | 0, _ => exact hv
                | 1, _ => exact .imm (.bool _))
      unfold withMap at hwp
      split at hwp
      · obtain ⟨res, r, y, e0, e1, e2, e3⟩ := main [] #[] rfl (by simp) hwp
        refine ⟨r, y, ?_, e2, e3⟩
        rw [hm.nilmap_inv]
        simp only [Instr.lookup, Sem.run_bind, run_underlying hu, Result.andThen_ok, Sem.run_pure, run_checkKey hd hkey, e0]
        cases res <;> simp only [Sem.run_bind, Sem.run_pure, Result.andThen_ok, hz1, e1]
      · rename_i o
        simp only [AM.wp] at hwp
        split at hwp
        · rename_i ob hob
          cases ob with
          | map clock es =>
            obtain ⟨l, hl, hv⟩ := hm.map_inv
            obtain ⟨arr, g1, g2, g3⟩ := h.map_at hob hl
            obtain ⟨res, r, y, e0, e1, e2, e3⟩ := main es arr g2 (fun i h1 h2 => (g3 i h1 h2).2) hwp
            refine ⟨r, y, ?_, e2, e3⟩
            rw [hv]
            simp only [Instr.lookup, Sem.run_bind, run_underlying hu, Result.andThen_ok, getObj_map g1, Sem.run_pure, run_checkKey hd hkey, e0]
            cases res <;> simp only [Sem.run_bind, Sem.run_pure, Result.andThen_ok, hz1, e1]
          | _ => exact hwp.elim
        · exact hwp.elim
      · exact hwp.elim
    · exact hwp.elim
  · exact hwp.elim

theorem update_sound (h : SRb C F β st a w) (t : TypeId) {m k x : AV} {vm vk vx : Value} (hm : VR w (Av F.A β st.heap) β m vm) (hk : VR w (Av F.A β st.heap) β k vk) (hx : VR w (Av F.A β st.heap) β x vx)
    (hwp : (aupdate C.P t m k x).wp n (Fresh C st n) st.heap Q) : ∃ w' h' z, (Instr.mapUpdate t vm vk vx).run C.P w = .ok () w' ∧ SRb C F β ⟨st.env, h'⟩ a w' ∧ z = .undef ∧ Q z h' := by
  unfold aupdate at hwp
  split at hwp
  · rename_i kt vt hkv
    have hu := run_tMapKV hkv
    split at hwp
    · rename_i kk o hkk
      obtain ⟨hok, hwp⟩ := hwp
      obtain ⟨d, hd, hkey⟩ := key_of hkk hok hk
      simp only [AM.wp] at hwp
      split at hwp
      · rename_i ob hob
        cases ob with
        | map clock es =>
          obtain ⟨l, hl, hv⟩ := hm.map_inv
          obtain ⟨arr, g1, g2, g3⟩ := h.map_at hob hl
          rw [hv]
          cases hf : findK k es 0 with
          | none => simp only [hf] at hwp; exact hwp.elim
          | some r =>
            have := findK_sound hk hkey es arr.toList 0 r (by simpa using g2) (fun j h1 h2 => by simpa using (g3 j h1 (by simpa using h2)).2) hf
            simp only [hf] at hwp
            cases r with
            | none =>
              simp only [AM.wp] at this hwp
              refine ⟨_, _, _, ?_, h.putObj (.map (arr.push { key := vk, val := vx, born := clock }) (clock + 1)) hob hl (y := .map (clock + 1) (es ++ [(clock, k, x)])) fun w' _ hb hs O hO => ?_, rfl, hwp.2⟩
              · simp only [Instr.mapUpdate, Sem.run_bind, run_underlying hu, Result.andThen_ok, getObj_map g1, run_checkKey hd hkey, run_findKey hd this, setObj_map _ g1]
              · refine ⟨_, hb, by simp [g2], fun i h1 h2 => ?_⟩
                by_cases hi : i < es.length
                · have := g3 i hi (by omega)
                  simp only [List.getElem_append_left hi, Array.getElem_push_lt (show i < arr.size by omega)]
                  exact ⟨this.1, this.2.1.mono hs hO fun _ _ => rfl, this.2.2.mono hs hO fun _ _ => rfl⟩
                · have hi' : i = es.length := by simp at h1; omega
                  subst hi'
                  have e1 : (arr.push { key := vk, val := vx, born := clock })[es.length] = { key := vk, val := vx, born := clock } := by simp [← g2]
                  rw [e1]
                  simp only [List.getElem_concat_length]
                  exact ⟨by simp, hk.mono hs hO fun _ _ => rfl, hx.mono hs hO fun _ _ => rfl⟩
            | some r =>
              obtain ⟨j, h1, h2, q1, q2, q3, q4⟩ := this
              obtain ⟨p, y⟩ := r
              simp only [AM.wp] at hwp q1 q2
              have hj : j < arr.size := by simpa using h2
              have hkj : arr[j].key = vk := by simpa using q4
              refine ⟨_, _, _, ?_, h.putObj (.map (arr.modify j fun e => { e with key := vk, val := vx }) clock) hob hl (y := .map clock (setEntry es p k x)) fun w' _ hb hs O hO => ?_, rfl, hwp.2⟩
              · simp only [Instr.mapUpdate, Sem.run_bind, run_underlying hu, Result.andThen_ok, getObj_map g1, run_checkKey hd hkey, run_findKey hd q3, Nat.zero_add, Array.getElem?_eq_getElem hj, Option.map_some, Option.getD_some, hkj, run_keyThatStays hkey, setObj_map _ g1]
              · refine ⟨_, hb, by simp [setEntry, g2], fun i g4 g5 => ?_⟩
                have hi : i < es.length := by simpa [setEntry] using g4
                have hold := g3 i hi (by omega)
                have hpj : p = j := by omega
                subst hpj
                simp only [setEntry, List.getElem_modify, Array.getElem_modify]
                by_cases e : p = i
                · subst e
                  simp only [if_true]
                  exact ⟨hold.1, hk.mono hs hO fun _ _ => rfl, hx.mono hs hO fun _ _ => rfl⟩
                · simp only [if_neg e]
                  exact ⟨hold.1, hold.2.1.mono hs hO fun _ _ => rfl, hold.2.2.mono hs hO fun _ _ => rfl⟩
        | _ => exact hwp.elim
      · exact hwp.elim
    · exact hwp.elim
  · exact hwp.elim

theorem delete_sound {Q : AV → Hp → Prop} (h : SRb C F β st a w) (t : TypeId) {m k : AV} {vm vk : Value} (hm : VR w (Av F.A β st.heap) β m vm) (hk : VR w (Av F.A β st.heap) β k vk)
    (hwp : (adelete C.P t m k).wp n (Fresh C st n) st.heap Q) : ∃ w' h', (∀ t1 ty, (Builtin.delete_ #[t, t1] ty #[vm, vk]).run C.P w = .ok (.tuple #[]) w') ∧ SRb C F β ⟨st.env, h'⟩ a w' ∧ Q .undef h' := by
  unfold adelete at hwp
  split at hwp
  · rename_i kt vt hkv
    have hu := run_tMapKV hkv
    split at hwp
    · rename_i kk o hkk
      obtain ⟨hok, hwp⟩ := hwp
      obtain ⟨d, hd, hkey⟩ := key_of hkk hok hk
      simp only [AM.wp] at hwp
      split at hwp
      · rename_i ob hob
        cases ob with
        | map clock es =>
          obtain ⟨l, hl, hv⟩ := hm.map_inv
          obtain ⟨arr, g1, g2, g3⟩ := h.map_at hob hl
          rw [hv]
          cases hf : findK k es 0 with
          | none => simp only [hf] at hwp; exact hwp.elim
          | some r =>
            have := findK_sound hk hkey es arr.toList 0 r (by simpa using g2) (fun j h1 h2 => by simpa using (g3 j h1 (by simpa using h2)).2) hf
            simp only [hf] at hwp
            cases r with
            | none =>
              simp only [AM.wp] at this hwp
              refine ⟨_, _, fun t1 ty => ?_, h.putObj (.map arr clock) hob hl (y := .map clock es) fun w' _ hb hs O hO => ?_, hwp.2⟩
              · simp [Builtin.delete_, Sem.run_bind, run_underlying hu, Result.andThen_ok, getObj_map g1, run_checkKey hd hkey, run_findKey hd this, setObj_map _ g1, Sem.run_pure]
              · refine ⟨_, hb, g2, fun i h1 h2 => ?_⟩
                have := g3 i h1 h2
                exact ⟨this.1, this.2.1.mono hs hO fun _ _ => rfl, this.2.2.mono hs hO fun _ _ => rfl⟩
            | some r =>
              obtain ⟨j, h1, h2, q1, q2, q3, q4⟩ := this
              obtain ⟨p, y⟩ := r
              simp only [AM.wp] at hwp q1 q2
              have hj : j < arr.size := by simpa using h2
              have hpj : p = j := by omega
              subst hpj
              have he : arr.eraseIdxIfInBounds p = arr.eraseIdx p hj := by simp [Array.eraseIdxIfInBounds, hj]
              refine ⟨_, _, fun t1 ty => ?_, h.putObj (.map (arr.eraseIdxIfInBounds p) clock) hob hl (y := .map clock (es.eraseIdx p)) fun w' _ hb hs O hO => ?_, hwp.2⟩
              · simp [Builtin.delete_, Sem.run_bind, run_underlying hu, Result.andThen_ok, getObj_map g1, run_checkKey hd hkey, run_findKey hd q3, setObj_map _ g1, Sem.run_pure]
              · refine ⟨_, hb, by rw [he]; simp [List.length_eraseIdx, h1, g2], fun i g4 g5 => ?_⟩
                simp only [he]
                rw [he] at g5
                simp only [List.getElem_eraseIdx, Array.getElem_eraseIdx]
                split
                · have := g3 i (by omega) (by omega)
                  exact ⟨this.1, this.2.1.mono hs hO fun _ _ => rfl, this.2.2.mono hs hO fun _ _ => rfl⟩
                · have := g3 (i + 1) (by simp [List.length_eraseIdx, h1] at g4; omega) (by simp at g5; omega)
                  exact ⟨this.1, this.2.1.mono hs hO fun _ _ => rfl, this.2.2.mono hs hO fun _ _ => rfl⟩
        | _ => exact hwp.elim
      · exact hwp.elim
    · exact hwp.elim
  · exact hwp.elim

theorem range_sound (h : SRb C F β st a w) (t : TypeId) {m : AV} {vm : Value} (hm : VR w (Av F.A β st.heap) β m vm)
    (hwp : (arange C.P t m).wp n (Fresh C st n) st.heap Q) : ∃ r w' h' β' z, (Instr.range t vm).run C.P w = .ok r w' ∧ SRb C F β' ⟨st.env, h'⟩ a w' ∧ VR w' (Av F.A β' h') β' z r ∧ Q z h' := by
  unfold arange at hwp
  split at hwp
  · rename_i kv hkv
    have hu := run_tMapKV hkv
    split at hwp
    · rename_i o
      simp only [AM.wp] at hwp
      split at hwp
      · rename_i ob hob
        cases ob with
        | map clock es =>
          obtain ⟨l, hl, hv⟩ := hm.map_inv
          obtain ⟨arr, g1, g2, g3⟩ := h.map_at hob hl
          obtain ⟨hf, hx, hQ⟩ := hwp
          have hs := h.newObj hf (.miter (some o) clock [] clock) (.mapIter (some l.blk) clock #[] clock) 0 0 hx fun O β' _ hβ => ⟨some l.blk, heap_alloc_new w _, l, (hβ o (by simp [AObj.has])).trans hl, rfl⟩
          refine ⟨_, _, _, _, _, ?_, hs, .miter n _ (updB_self _ _ _), hQ⟩
          rw [hv]
          simp only [Instr.range, Sem.run_bind, run_underlying hu, Result.andThen_ok, getObj_map g1, Sem.run_pure]
          simp [newObj, Sem.run, Result.andThen]
        | _ => exact hwp.elim
      · exact hwp.elim
    · obtain ⟨hf, hx, hQ⟩ := hwp
      have hs := h.newObj hf (.miter none 0 [] 0) (.mapIter none 0 #[] 0) 0 0 hx fun O β' _ hβ => ⟨none, heap_alloc_new w _, rfl⟩
      refine ⟨_, _, _, _, _, ?_, hs, .miter n _ (updB_self _ _ _), hQ⟩
      rw [hm.nilmap_inv]
      simp only [Instr.range, Sem.run_bind, run_underlying hu, Result.andThen_ok, Sem.run_pure]
      simp [newObj, Sem.run, Result.andThen]
    · exact hwp.elim
  · exact hwp.elim

/-- An iterator in the memory. -/
theorem SRb.iter_at (h : SRb C F β st a w) {o since stepped : Nat} {m : Option Nat} {seen : List Nat} {l : Loc} (ho : st.heap o = some (.miter m since seen stepped)) (hl : β o = some l) :
    ∃ mb, w.heap[l.blk]? = some (.mapIter mb since seen.toArray stepped) ∧ IterM β m mb := by
  have := h.heap.obj o _ ho
  rw [hl] at this
  exact this
theorem run_getObj_iter {P : Program} {w : World} {r : Nat} {m : Option Nat} {s c : Nat} {seen : Array Nat} (hb : w.heap[r]? = some (.mapIter m s seen c)) : (getObj r).run P w = .ok (.mapIter m s seen c) w := by
  simp [getObj, Sem.run, hb]
theorem run_setObj_iter {P : Program} {w : World} {r : Nat} {m : Option Nat} {s c : Nat} {seen : Array Nat} (o : Obj) (hb : w.heap[r]? = some (.mapIter m s seen c)) : (setObj r o).run P w = .ok () { w with heap := w.heap.setIfInBounds r o } := by
  simp [setObj, Sem.run, hb]

theorem entry_sound (h : SRb C F β st a w) {x : AV} {vx : Value} (hx : VR w (Av F.A β st.heap) β x vx)
    (hwp : (aentry x).wp n (Fresh C st n) st.heap Q) : ∃ r z, (Instr.entry vx).run C.P w = .ok r w ∧ VR w (Av F.A β st.heap) β z r ∧ Q z st.heap := by
  unfold aentry at hwp
  split at hwp
  · rename_i o
    simp only [AM.wp] at hwp
    split at hwp
    · rename_i ob hob
      obtain ⟨l, hl, hv⟩ := hx.miter_inv
      split at hwp
      · rename_i m since seen stepped
        obtain ⟨mb, g1, lm, g2, rfl⟩ := h.iter_at hob hl
        split at hwp
        · rename_i stamp hst
          simp only [AM.wp] at hwp
          split at hwp
          · rename_i om hom
            cases om with
            | map clock es =>
              obtain ⟨hc, hwp⟩ := hwp
              obtain ⟨arr, k1, k2, k3⟩ := h.map_at hom g2
              split at hwp
              · rename_i e he
                obtain ⟨i, hi, he', hlt⟩ := List.find?_eq_some_iff_getElem.1 he |>.2
                have hi' : i < arr.size := by omega
                obtain ⟨q1, q2, q3⟩ := k3 i hi hi'
                have hfind : arr.find? (fun e => e.born == stamp) = some arr[i] := by
                  rw [← Array.find?_toList, List.find?_eq_some_iff_getElem]
                  refine ⟨?_, i, by simpa using hi', by simp, fun j hj => ?_⟩
                  · rw [q1, he']; exact (List.find?_eq_some_iff_getElem.1 he).1
                  · have := hlt j hj
                    rw [Array.getElem_toList, (k3 j (by omega) (by omega)).1]
                    exact this
                refine ⟨.tuple #[arr[i].key, arr[i].val], _, ?_, ?_, hwp⟩
                · rw [hv]
                  have hback : seen.toArray.back? = some stamp := by rw [← hst]; simp
                  simp only [Instr.entry, Sem.run_bind, run_getObj_iter g1, Result.andThen_ok, hback, getObj_map k1, hc, bne_self_eq_false, Bool.false_eq_true, if_false, Sem.run_pure]
                  have : arr.find? (fun x => x.born == stamp) = some arr[i] := hfind
                  simp [this]
                · subst he'
                  exact .tup _ _ rfl (fun j h1 h2 => by
                    match j, h1 with
                    | 0, _ => exact q2
                    | 1, _ => exact q3)
              · exact hwp.elim
            | _ => exact hwp.elim
          · exact hwp.elim
        · exact hwp.elim
      · exact hwp.elim
    · exact hwp.elim
  · exact hwp.elim
end
end Go.Aw
end
section
set_option linter.unusedVariables false
set_option linter.unusedSimpArgs false
namespace Go.Aw
open Go.MapKept (IsKey run_checkKey run_findKey run_keyThatStays bytes_beq)

def AV.val : AV → Value
  | .int k n => .int k n
  | .str s => .string s
  | .bool b => .bool b
  | _ => Go.undef

theorem keyOk_val {w : World} {O : Nat → Prop} {β : Nat → Option Loc} {kk : TK} {k : AV} {v : Value} (hok : keyOk kk k = true) (h : VR w O β k v) : v = k.val := by
  cases kk <;> cases k <;> simp only [keyOk, Bool.false_eq_true] at hok
  · exact h.str_inv
  · exact h.int_inv
  · exact h.bool_inv

theorem keysOk_vals {w : World} {O : Nat → Prop} {β : Nat → Option Loc} : ∀ {ks : List TK} {as : List AV} {vs : List Value}, keysOk ks as = true → vs.length = as.length → (∀ m (h1 : m < as.length) (h2 : m < vs.length), VR w O β as[m] vs[m]) → vs = as.map AV.val
  | [], [], vs, _, hl, _ => by simpa using hl
  | k :: ks, a :: as, [], hok, hl, _ => by simp at hl
  | k :: ks, a :: as, v :: vs, hok, hl, hh => by
    simp only [keysOk, Bool.and_eq_true] at hok
    have h0 := hh 0 (by simp) (by simp)
    simp only [List.getElem_cons_zero] at h0
    rw [List.map_cons, ← keyOk_val hok.1 h0, ← keysOk_vals hok.2 (by simpa using hl) fun m h1 h2 => hh (m + 1) (by simp; omega) (by simp; omega)]
  | [], _ :: _, _, hok, _, _ => by simp [keysOk] at hok
  | _ :: _, [], _, hok, _, _ => by simp [keysOk] at hok

theorem keysOk_len : ∀ {ks : List TK} {as : List AV}, keysOk ks as = true → as.length = ks.length
  | [], [], _ => rfl
  | k :: ks, a :: as, h => by simp only [keysOk, Bool.and_eq_true] at h; simp [keysOk_len h.2]
  | [], _ :: _, h => by simp [keysOk] at h
  | _ :: _, [], h => by simp [keysOk] at h

theorem keysOk_append : ∀ {ks ls : List TK} {as : List AV}, keysOk (ks ++ ls) as = true → keysOk ks (as.take ks.length) = true ∧ keysOk ls (as.drop ks.length) = true
  | [], ls, as, h => by simpa [keysOk] using h
  | k :: ks, ls, [], h => by simp [keysOk] at h
  | k :: ks, ls, a :: as, h => by
    simp only [List.cons_append, keysOk, Bool.and_eq_true] at h
    have := keysOk_append h.2
    simp only [List.length_cons, List.take_succ_cons, keysOk, Bool.and_eq_true, List.drop_succ_cons]
    exact ⟨⟨h.1, this.1⟩, this.2⟩

theorem sameL_split : ∀ (n : Nat) {as bs : List AV} {b : Bool}, sameL as bs = some b → ∃ x y, sameL (as.take n) (bs.take n) = some x ∧ sameL (as.drop n) (bs.drop n) = some y ∧ b = (x && y)
  | 0, as, bs, b, h => ⟨true, b, by simp [sameL], by simpa using h, by simp⟩
  | n + 1, [], [], b, h => ⟨true, b, by simp [sameL], by simpa using h, by simp⟩
  | n + 1, a :: as, [], b, h => by simp [sameL] at h
  | n + 1, [], a :: as, b, h => by simp [sameL] at h
  | n + 1, a :: as, c :: bs, b, h => by
    simp only [sameL] at h
    split at h
    · rename_i x y hx hy
      injection h with h
      obtain ⟨p, q, e1, e2, e3⟩ := sameL_split n hy
      refine ⟨x && p, q, by simp [sameL, hx, e1], by simpa using e2, ?_⟩
      rw [← h, e3, Bool.and_assoc]
    · cases h

section
variable {P : Program} {w : World}

theorem part_run {P : Program} {t s : Nat} {g : Bool} (hs : tSize P t = some s) (hg : tAgg P t = some g) (h0 : 0 < s) (h1 : g = false → s = 1) (vs : Array Value) (off : Nat) (hle : off + s ≤ vs.size) :
    (part t vs off).run P w = .ok (if g then .agg ((vs.toList.drop off).take s).toArray else ((vs.toList.drop off).take s).getD 0 undef) w := by
  simp only [part, Sem.run_bind, run_tAgg w hg, Result.andThen_ok]
  cases g with
  | true =>
    simp only [if_true, Sem.run_bind, run_tSize w hs, Result.andThen_ok, Sem.run_pure]
    congr 2
    apply Array.ext'
    simp [Array.toList_extract, List.extract_eq_take_drop]
  | false =>
    have := h1 rfl
    subst this
    simp only [Bool.false_eq_true, if_false]
    rw [Array.getElem?_eq_getElem (by omega)]
    simp [List.getD_eq_getElem?_getD, show off < vs.size by omega]

theorem flat_one {t : TypeId} {l : List AV} : ((l.map AV.val).getD 0 undef) = (l.getD 0 .undef).val := by cases l <;> rfl

/-- A part of a type whose values are compared cell by cell. -/
def packed (agg : Bool) (l : List AV) : Value := if agg then .agg (l.map AV.val).toArray else (l.getD 0 .undef).val

theorem flat_agg {d : Nat} {t : TypeId} {ks : List TK} (h : tFlat P d t = some ks) (hs : tSize P t = some ks.length) (h0 : ks ≠ []) : ∃ g, tAgg P t = some g ∧ (g = false → ks.length = 1) := by
  cases d with
  | zero => simp [tFlat] at h
  | succ d =>
    simp only [tFlat] at h
    unfold tAgg
    split at h
    · rename_i k hu; injection h with h; subst h; exact ⟨false, by simp [hu], fun _ => rfl⟩
    · rename_i hu; injection h with h; subst h; exact ⟨false, by simp [hu], fun _ => rfl⟩
    · rename_i hu; injection h with h; subst h; exact ⟨false, by simp [hu], fun _ => rfl⟩
    · rename_i fs hu; exact ⟨true, by simp [hu], fun e => by cases e⟩
    · cases h

theorem fields_eq (d D : Nat) (ih : ∀ t ks g, tFlat P d t = some ks → tAgg P t = some g → ∀ as bs b, keysOk ks as = true → keysOk ks bs = true → sameL as bs = some b → (Op.equalIn D t (packed g as) (packed g bs)).run P w = .ok b w) :
    ∀ (fs : List Field) (off : Nat) (ks : List TK), flatFields (tFlat P d) P off fs = some ks → ∀ (as bs : List AV) (b : Bool), off ≤ as.length → off ≤ bs.length → keysOk ks (as.drop off) = true → keysOk ks (bs.drop off) = true → sameL (as.drop off) (bs.drop off) = some b →
      (Op.eqFields D (as.map AV.val).toArray (bs.map AV.val).toArray fs).run P w = .ok b w
  | [], off, ks, h, as, bs, b, ha, hb, h1, h2, h3 => by
    simp only [flatFields, Option.some.injEq] at h
    subst h
    have e1 := keysOk_len h1
    have e2 := keysOk_len h2
    rw [List.eq_nil_of_length_eq_zero e1, List.eq_nil_of_length_eq_zero e2] at h3
    simp only [sameL, Option.some.injEq] at h3
    subst h3
    simp [Op.eqFields, Sem.run]
  | fd :: fs, off, ks, h, as, bs, b, ha, hb, h1, h2, h3 => by
    simp only [flatFields] at h
    split at h
    · rename_i hn
      split at h
      · rename_i l hl
        split at h
        · rename_i hs
          split at h
          · rename_i r hr
            injection h with h
            subst h
            obtain ⟨g, hg, hg1⟩ := flat_agg hl hs.1 hs.2
            obtain ⟨a1, a2⟩ := keysOk_append h1
            obtain ⟨b1, b2⟩ := keysOk_append h2
            obtain ⟨x, y, s1, s2, rfl⟩ := sameL_split l.length h3
            have l0 : 0 < l.length := by cases l with | nil => exact absurd rfl hs.2 | cons _ _ => simp
            have al := keysOk_len h1
            have bl := keysOk_len h2
            simp only [List.length_drop, List.length_append] at al bl
            have pa := part_run (w := w) hs.1 hg l0 hg1 (as.map AV.val).toArray off (by simp; omega)
            have pb := part_run (w := w) hs.1 hg l0 hg1 (bs.map AV.val).toArray off (by simp; omega)
            have ea : ∀ cs : List AV, (if g = true then Value.agg (List.take l.length (List.drop off (cs.map AV.val).toArray.toList)).toArray else (List.take l.length (List.drop off (cs.map AV.val).toArray.toList)).getD 0 undef) = packed g ((cs.drop off).take l.length) := by
              intro cs
              unfold packed
              cases g with
              | true => simp [List.map_take, List.map_drop]
              | false =>
                simp only [Bool.false_eq_true, if_false]
                rw [← flat_one (t := 0)]
                simp [List.map_take, List.map_drop]
            rw [ea] at pa pb
            have hih := ih fd.type l g hl hg _ _ x a1 b1 s1
            have hrest := fields_eq d D ih fs (off + l.length) r hr as bs y (by omega) (by omega) (by simpa [List.drop_drop] using a2) (by simpa [List.drop_drop] using b2) (by simpa [List.drop_drop] using s2)
            simp only [Op.eqFields, if_pos hn.1]
            have hoff : fd.offset = off := hn.2
            simp only [hoff, Sem.run_bind, pa, pb, Result.andThen_ok, hih]
            cases x
            · simp [Sem.run]
            · simpa using hrest
          · cases h
        · cases h
      · cases h
    · cases h

theorem flat_eq : ∀ (d D : Nat) (t : TypeId) (ks : List TK) (g : Bool), d ≤ D → tFlat P d t = some ks → tAgg P t = some g → ∀ as bs b, keysOk ks as = true → keysOk ks bs = true → sameL as bs = some b → (Op.equalIn D t (packed g as) (packed g bs)).run P w = .ok b w
  | 0, D, t, ks, g, _, h, _, _, _, _, _, _, _ => by simp [tFlat] at h
  | d + 1, 0, t, ks, g, hd, _, _, _, _, _, _, _, _ => by omega
  | d + 1, D + 1, t, ks, g, hd, h, hg, as, bs, b, h1, h2, h3 => by
    simp only [tFlat] at h
    have one : ∀ kk, ks = [kk] → ∃ x y, as = [x] ∧ bs = [y] ∧ keyOk kk x = true ∧ keyOk kk y = true ∧ sameK x y = some b := by
      intro kk e
      subst e
      cases as with
      | nil => simp [keysOk] at h1
      | cons x as => cases as with
        | cons _ _ => simp [keysOk] at h1
        | nil => cases bs with
          | nil => simp [keysOk] at h2
          | cons y bs => cases bs with
            | cons _ _ => simp [keysOk] at h2
            | nil =>
              simp [keysOk] at h1 h2
              refine ⟨x, y, rfl, rfl, h1, h2, ?_⟩
              simp only [sameL] at h3
              split at h3
              · rename_i p q e1 e2
                injection e2 with e2
                subst e2
                rw [e1, ← h3, Bool.and_true]
              · cases h3
    split at h
    · rename_i k hu
      injection h with h
      obtain ⟨x, y, rfl, rfl, k1, k2, k3⟩ := one _ h.symm
      have hgf : g = false := by simpa [tAgg, hu] using hg.symm
      subst hgf
      cases x <;> simp only [keyOk, Bool.false_eq_true, decide_eq_true_eq] at k1
      cases y <;> simp only [keyOk, Bool.false_eq_true, decide_eq_true_eq] at k2
      subst k1 k2
      simp only [sameK, if_true, Option.some.injEq] at k3
      subst k3
      simp only [packed, Bool.false_eq_true, if_false, List.getD_cons_zero, AV.val]
      rw [run_equalIn_int w D t _ _ _ _ hu]
      rfl
    · rename_i hu
      injection h with h
      obtain ⟨x, y, rfl, rfl, k1, k2, k3⟩ := one _ h.symm
      have hgf : g = false := by simpa [tAgg, hu] using hg.symm
      subst hgf
      cases x <;> simp only [keyOk, Bool.false_eq_true, decide_eq_true_eq] at k1
      cases y <;> simp only [keyOk, Bool.false_eq_true, decide_eq_true_eq] at k2
      simp only [sameK, Option.some.injEq] at k3
      subst k3
      simp only [packed, Bool.false_eq_true, if_false, List.getD_cons_zero, AV.val]
      rw [run_equalIn_string w D t _ _ hu, ← beq_toListBytes]
      congr 1
      rw [Bool.eq_iff_iff, bytes_beq]
      simp
    · rename_i hu
      injection h with h
      obtain ⟨x, y, rfl, rfl, k1, k2, k3⟩ := one _ h.symm
      have hgf : g = false := by simpa [tAgg, hu] using hg.symm
      subst hgf
      cases x <;> simp only [keyOk, Bool.false_eq_true, decide_eq_true_eq] at k1
      cases y <;> simp only [keyOk, Bool.false_eq_true, decide_eq_true_eq] at k2
      simp only [sameK, Option.some.injEq] at k3
      subst k3
      simp only [packed, Bool.false_eq_true, if_false, List.getD_cons_zero, AV.val]
      rw [run_equalIn_bool' w D t _ _ hu]
      rename_i p q
      cases p <;> cases q <;> rfl
    · rename_i fs hu
      have hgt : g = true := by simpa [tAgg, hu] using hg.symm
      subst hgt
      split at h
      · cases h
      · rename_i hst
        have hfo : P.fieldsOf t = fs := by simp [Program.fieldsOf, hu]
        simp only [packed, if_true]
        rw [run_equalIn_struct w D t _ _ (by rw [hfo]; exact hu) (by simpa using hst), hfo]
        exact fields_eq d D (fun t' ks' g' e1 e2 => flat_eq d D t' ks' g' (by omega) e1 e2) fs.toList 0 ks h as bs b (by simp) (by simp) (by simpa using h1) (by simpa using h2) (by simpa using h3)
    · cases h
end

section
variable {C : Cx} {F : Fr} {β : Nat → Option Loc} {st : St} {a : Act} {w : World} {n : Nat} {Q : AV → Hp → Prop}

def NilR (i : Nat) (b : Bool) (v : Value) : Prop :=
  match i with
  | 1 => ∃ A l c, v = .slice A l c ∧ A.isNone = b ∧ (b = true → v = .slice none 0 0)
  | 2 => ∃ A, v = .pointer A ∧ A.isNone = b
  | 3 => ∃ A, v = .map A ∧ A.isNone = b
  | 4 => (b = true → v = .nilFunc) ∧ (b = false → ∃ f us vs, v = .func f us vs)
  | _ => False

theorem anil_sound {w : World} {O : Nat → Prop} {x : AV} {v : Value} {i : Nat} {b : Bool} (h : VR w O β x v) (ha : anil x = some (i, b)) : NilR i b v := by
  unfold anil at ha
  split at ha <;> simp only [Option.some.injEq, Prod.mk.injEq, reduceCtorEq] at ha
  · obtain ⟨rfl, rfl⟩ := ha
    have := h.isl_inv
    cases this with
    | isl _ _ A cap k hcap hmax hk hf hn hA vs h1c hc hh =>
      obtain ⟨rfl, rfl⟩ := hn rfl
      exact ⟨none, _, _, rfl, rfl, fun _ => rfl⟩
  · obtain ⟨rfl, rfl⟩ := ha
    have := h.isl_inv
    cases this with
    | isl _ _ A cap k hcap hmax hk hf hn hA vs h1c hc hh =>
      obtain ⟨b, c, rfl, _⟩ := hA (by simp)
      exact ⟨_, _, _, rfl, rfl, fun e => by cases e⟩
  · obtain ⟨rfl, rfl⟩ := ha
    rcases h.sl_inv with ⟨l, cap, A, _, h1, _, _, _, h5, rfl⟩ | ⟨_, _, h2, _⟩
    · have := h5 (by omega)
      subst this
      exact ⟨_, _, _, rfl, rfl, fun e => by cases e⟩
    · omega
  · obtain ⟨rfl, rfl⟩ := ha
    cases h with | imm h => cases h; exact ⟨none, rfl, rfl⟩
  · obtain ⟨rfl, rfl⟩ := ha
    obtain ⟨l, _, rfl⟩ := h.ptr_inv
    exact ⟨_, rfl, rfl⟩
  · obtain ⟨rfl, rfl⟩ := ha
    have := h.iptr_inv
    cases this with
    | iptr _ b c vs hl hO hlt hc h1c hh => exact ⟨_, rfl, rfl⟩
  · obtain ⟨rfl, rfl⟩ := ha
    exact ⟨none, h.nilmap_inv, rfl⟩
  · obtain ⟨rfl, rfl⟩ := ha
    obtain ⟨l, _, rfl⟩ := h.map_inv
    exact ⟨_, rfl, rfl⟩
  · obtain ⟨rfl, rfl⟩ := ha
    cases h with | imm h => cases h; exact ⟨fun _ => rfl, fun e => by cases e⟩
  · obtain ⟨rfl, rfl⟩ := ha
    obtain ⟨us, vs, rfl, _⟩ := h.func_inv
    exact ⟨(fun e => by cases e), fun _ => ⟨_, _, _, rfl⟩⟩

theorem eq_slice {P : Program} {w : World} (d : Nat) {t e : TypeId} (hu : P.underlying t = some (.slice e)) (A : Option Addr) (l c : Nat) : (Op.equalIn (d + 1) t (.slice A l c) (.slice none 0 0)).run P w = .ok A.isNone w := by
  simp only [Op.equalIn, Sem.run_bind, run_underlying hu, Result.andThen_ok]
  cases A <;> simp [Sem.run]
theorem eq_ptr {P : Program} {w : World} (d : Nat) {t e : TypeId} (hu : P.underlying t = some (.pointer e)) (A : Option Addr) : (Op.equalIn (d + 1) t (.pointer A) (.pointer none)).run P w = .ok A.isNone w := by
  simp only [Op.equalIn, Sem.run_bind, run_underlying hu, Result.andThen_ok]
  cases A <;> simp [Sem.run]
theorem eq_map {P : Program} {w : World} (d : Nat) {t k e : TypeId} (hu : P.underlying t = some (.map k e)) (A : Option Nat) : (Op.equalIn (d + 1) t (.map A) (.map none)).run P w = .ok A.isNone w := by
  simp only [Op.equalIn, Sem.run_bind, run_underlying hu, Result.andThen_ok]
  cases A <;> simp [Sem.run]
theorem eq_func1 {P : Program} {w : World} (d : Nat) {t : TypeId} {a b c} (hu : P.underlying t = some (.func a b c)) : (Op.equalIn (d + 1) t .nilFunc .nilFunc).run P w = .ok true w := by
  simp only [Op.equalIn, Sem.run_bind, run_underlying hu, Result.andThen_ok]
  simp [Sem.run]
theorem eq_func2 {P : Program} {w : World} (d : Nat) {t : TypeId} {a b c} (hu : P.underlying t = some (.func a b c)) (f : Fn) (us vs : Array Value) : (Op.equalIn (d + 1) t (.func f us vs) .nilFunc).run P w = .ok false w := by
  simp only [Op.equalIn, Sem.run_bind, run_underlying hu, Result.andThen_ok]
  simp [Sem.run]
def NilT (P : Program) (t : TypeId) (i : Nat) : Prop :=
  match i with
  | 1 => ∃ e, P.underlying t = some (.slice e)
  | 2 => ∃ e, P.underlying t = some (.pointer e)
  | 3 => ∃ k e, P.underlying t = some (.map k e)
  | 4 => ∃ a b c, P.underlying t = some (.func a b c)
  | 5 => P.underlying t = some .bool
  | _ => True
theorem tNil_inv {P : Program} {t : TypeId} {i : Nat} (h : tNil P t = i) : NilT P t i := by
  subst h
  unfold tNil
  split
  · exact ⟨_, by assumption⟩
  · exact ⟨_, by assumption⟩
  · exact ⟨_, _, by assumption⟩
  · exact ⟨_, _, _, by assumption⟩
  · assumption
  · trivial

theorem aeqs_sound {P : Program} {w : World} {O : Nat → Prop} (t : TypeId) {x y : AV} {v u : Value} {b : Bool} (hv : VR w O β x v) (hu : VR w O β y u) (h : aeqs P t x y = some b) :
    (Op.equalIn 10000 t v u).run P w = .ok b w ∧ (∀ (op : BinOp) (ox oy : Operand), (eqGuard op t ox oy v u).run P w = .ok () w) ∧ (∀ k n, v ≠ .int k n) ∧ (∀ s, v ≠ .string s) ∧ (∀ k n, v ≠ .float k n) ∧ (∀ k n m, v ≠ .complex k n m) := by
  unfold aeqs at h
  split at h
  · rename_i p q
    split at h
    · rename_i ht
      injection h with h
      rw [hv.bool_inv, hu.bool_inv]
      have hub : P.underlying t = some .bool := tNil_inv ht
      refine ⟨by rw [run_equalIn_bool' w _ t _ _ hub, h], fun op ox oy => by unfold eqGuard; split <;> simp [Sem.run], by simp, by simp, by simp, by simp⟩
    · cases h
  · rename_i cs ds
    split at h
    · rename_i ks hks
      split at h
      · rename_i hok
        obtain ⟨vs, rfl, hl1, _, hh1⟩ := hv.agg_inv
        obtain ⟨us, rfl, hl2, _, hh2⟩ := hu.agg_inv
        have e1 := keysOk_vals hok.1 (vs := vs.toList) (by simpa using hl1) fun m g1 g2 => by simpa using hh1 m g1 (by simpa using g2)
        have e2 := keysOk_vals hok.2 (vs := us.toList) (by simpa using hl2) fun m g1 g2 => by simpa using hh2 m g1 (by simpa using g2)
        unfold tEq at hks
        split at hks
        · cases hks
        · rename_i hg
          split at hks
          · rename_i fs hus
            have hag : tAgg P t = some true := by simp [tAgg, hus]
            have := flat_eq (w := w) 20 10000 t ks true (by omega) hks hag cs ds b hok.1 hok.2 h
            simp only [packed, if_true, ← e1, ← e2] at this
            exact ⟨this, fun op ox oy => run_eqGuard_agg w op t ox oy vs us (by simpa using hg), by simp, by simp, by simp, by simp⟩
          · cases hks
      · cases h
    · cases h
  · split at h
    · rename_i i b' j hx hy
      split at h
      · rename_i hij
        obtain ⟨rfl, ht⟩ := hij
        injection h with h
        subst h
        have h1 := anil_sound hv hx
        have h2 := anil_sound hu hy
        have hg : ∀ (v u : Value), (v matches .agg _) = false → (v matches .nilIface) = false → ∀ (op : BinOp) (ox oy : Operand), (eqGuard op t ox oy v u).run P w = .ok () w := by
          intro v u g1 g2 op ox oy
          cases v <;> simp at g1 g2 <;> (unfold eqGuard; split <;> simp [Sem.run])
        have ht' := tNil_inv ht
        match i, h1, h2, ht' with
        | 0, h1, _, _ => exact h1.elim
        | 1, h1, h2, ⟨e, hus⟩ =>
          obtain ⟨A, l, c, rfl, hA, _⟩ := h1
          obtain ⟨_, _, _, _, _, h3⟩ := h2
          rw [h3 rfl, ← hA]
          exact ⟨eq_slice 9999 hus A l c, hg _ _ rfl rfl, by simp, by simp, by simp, by simp⟩
        | 2, h1, h2, ⟨e, hus⟩ =>
          obtain ⟨A, rfl, hA⟩ := h1
          obtain ⟨B, rfl, hB⟩ := h2
          have : B = none := by simpa using hB
          rw [this, ← hA]
          exact ⟨eq_ptr 9999 hus A, hg _ _ rfl rfl, by simp, by simp, by simp, by simp⟩
        | 3, h1, h2, ⟨_, e, hus⟩ =>
          obtain ⟨A, rfl, hA⟩ := h1
          obtain ⟨B, rfl, hB⟩ := h2
          have : B = none := by simpa using hB
          rw [this, ← hA]
          exact ⟨eq_map 9999 hus A, hg _ _ rfl rfl, by simp, by simp, by simp, by simp⟩
        | 4, h1, h2, ⟨_, _, _, hus⟩ =>
          rw [h2.1 rfl]
          cases b' with
          | true =>
            rw [h1.1 rfl]
            exact ⟨eq_func1 9999 hus, hg _ _ rfl rfl, by simp, by simp, by simp, by simp⟩
          | false =>
            obtain ⟨f, us, vs, rfl⟩ := h1.2 rfl
            exact ⟨eq_func2 9999 hus f us vs, hg _ _ rfl rfl, by simp, by simp, by simp, by simp⟩
        | _ + 5, h1, _, _ => exact h1.elim
      · cases h
    · cases h

theorem binT_sound (op : BinOp) (t : TypeId) (x y : AV) (ox oy : Operand) (v u : Value) (hv : VR w (Av F.A β st.heap) β x v) (hu : VR w (Av F.A β st.heap) β y u) {fr : Prop} (hwp : (abinT C.P t op x y).wp n fr st.heap Q) :
    ∃ r z, (do eqGuard op t ox oy v u; binOp op t v u : Sem Value).run C.P w = .ok r w ∧ VR w (Av F.A β st.heap) β z r ∧ Q z st.heap := by
  have bits : ∀ op, (op = .shl ∨ op = .shr ∨ op = .and ∨ op = .or ∨ op = .xor ∨ op = .andNot) → (abits op x y).wp n fr st.heap Q →
      ∃ r z, (do eqGuard op t ox oy v u; binOp op t v u : Sem Value).run C.P w = .ok r w ∧ VR w (Av F.A β st.heap) β z r ∧ Q z st.heap := by
    intro op hop hwp
    unfold abits at hwp
    split at hwp
    · rename_i k p k' q _
      have e1 := hv.int_inv
      have e2 := hu.int_inv
      subst e1 e2
      have hg : (eqGuard op t ox oy (.int k p) (.int k' q)).run C.P w = .ok () w := by
        unfold eqGuard
        split <;> simp [Sem.run]
      simp only [Sem.run_bind, hg, Result.andThen_ok]
      split at hwp
      · obtain ⟨h0, hQ⟩ := hwp
        refine ⟨_, _, ?_, .imm (.int _ _), hQ⟩
        simp only [binOp, Op.shift]
        rw [if_neg (by omega)]
        rfl
      · obtain ⟨h0, hQ⟩ := hwp
        refine ⟨_, _, ?_, .imm (.int _ _), hQ⟩
        simp only [binOp, Op.shift]
        rw [if_neg (by omega)]
        rfl
      · obtain ⟨rfl, hQ⟩ := hwp
        refine ⟨_, _, ?_, .imm (.int _ _), hQ⟩
        simp only [binOp, Op.intBits, ne_eq, not_true, if_false]
        rfl
      · obtain ⟨rfl, hQ⟩ := hwp
        refine ⟨_, _, ?_, .imm (.int _ _), hQ⟩
        simp only [binOp, Op.intBits, ne_eq, not_true, if_false]
        rfl
      · obtain ⟨rfl, hQ⟩ := hwp
        refine ⟨_, _, ?_, .imm (.int _ _), hQ⟩
        simp only [binOp, Op.intBits, ne_eq, not_true, if_false]
        rfl
      · exact hwp.elim
    · exact hwp.elim
  have eqs : ∀ (op : BinOp) (neg : Bool), (op = if neg then .neq else .eql) → (match aeqs C.P t x y with | some b => AM.pure (AV.bool (if neg then !b else b)) | none => .fail).wp n fr st.heap Q →
      ∃ r z, (do eqGuard op t ox oy v u; binOp op t v u : Sem Value).run C.P w = .ok r w ∧ VR w (Av F.A β st.heap) β z r ∧ Q z st.heap := by
    intro op neg hop hwp
    cases hb : aeqs C.P t x y with
    | none => simp only [hb] at hwp; exact hwp.elim
    | some b =>
      simp only [hb] at hwp
      obtain ⟨e1, e2, n1, n2, n3, n4⟩ := aeqs_sound (P := C.P) t hv hu hb
      refine ⟨_, _, ?_, .imm (.bool _), hwp⟩
      simp only [Sem.run_bind, e2, Result.andThen_ok]
      subst hop
      cases neg
      · cases v <;> first | exact absurd rfl (n1 _ _) | exact absurd rfl (n2 _) | exact absurd rfl (n3 _ _) | exact absurd rfl (n4 _ _ _) | (simp only [Bool.false_eq_true, if_false, binOp, Op.equal, Op.maxDepth, Sem.run_bind, e1, Result.andThen_ok, Sem.run_pure])
      · cases v <;> first | exact absurd rfl (n1 _ _) | exact absurd rfl (n2 _) | exact absurd rfl (n3 _ _) | exact absurd rfl (n4 _ _ _) | (simp only [if_true, binOp, Op.equal, Op.maxDepth, Sem.run_bind, e1, Result.andThen_ok, Sem.run_pure])
  unfold abinT at hwp
  split at hwp
  · exact bits _ (by simp) hwp
  · exact bits _ (by simp) hwp
  · exact bits _ (by simp) hwp
  · exact bits _ (by simp) hwp
  · exact bits _ (by simp) hwp
  · exact bits _ (by simp) hwp
  · split at hwp
    · exact bin_sound _ t _ _ ox oy v u hv hu hwp
    · exact bin_sound _ t _ _ ox oy v u hv hu hwp
    · refine eqs _ false rfl ?_
      cases hb : aeqs C.P t x y <;> simp only [hb] at hwp ⊢ <;> simpa using hwp
  · split at hwp
    · exact bin_sound _ t _ _ ox oy v u hv hu hwp
    · exact bin_sound _ t _ _ ox oy v u hv hu hwp
    · refine eqs _ true rfl ?_
      cases hb : aeqs C.P t x y <;> simp only [hb] at hwp ⊢ <;> simpa using hwp
  · exact bin_sound op t _ _ ox oy v u hv hu hwp
end
end Go.Aw
end
