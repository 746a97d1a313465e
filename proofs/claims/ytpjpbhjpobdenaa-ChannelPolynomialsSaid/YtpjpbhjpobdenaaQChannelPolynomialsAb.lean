/- Values without memory: data, what a value in a world reads as, and what later worlds keep of it. -/
import Derived.Below
import Derived.Deep.Slices
import Derived.Laws.OwnMore
import Derived.OrdersHeld
import Derived.Laws.Cover3
import Derived.Laws.StructEq
import Derived.Laws.Pointers
import Derived.Laws.Slices
import Derived.Great.BuildSlice
namespace Ab
open Go Go.RowKit
set_option linter.unusedVariables false
/-- data: what a value reads as. Slices and pointers: the cells that they show. -/
inductive D where
 | int (k : IntKind) (n : Int)
 | bool (b : Bool)
 | nilp
 | nils
 | fn (f : FuncId) (caps : List D)
 | sl (n : Nat) (cs : List D)
 | ptr (off : Nat) (cs : List D)
 | agg (cs : List D)
 | tup (xs : List D)
instance : Inhabited D := ⟨.nilp⟩
/-- a value of one cell -/
def D.one : D → Bool
 | .agg _ | .tup _ => false
 | _ => true
def D.cells : D → List D
 | .agg cs => cs
 | x => [x]
/-- the value v reads as x in w; only blocks of ok are looked at -/
inductive RD (w : World) (ok : Nat → Prop) : D → Value → Prop
 | int (k : IntKind) (n : Int) : RD w ok (.int k n) (.int k n)
 | bool (b : Bool) : RD w ok (.bool b) (.bool b)
 | nilp : RD w ok .nilp (.pointer none)
 | nils : RD w ok .nils (.slice none 0 0)
 | fn (f : FuncId) (caps : List D) (vs : Array Value) (u : Nat → Value) (hs : vs.size = caps.length) (hv : ∀ i, i < caps.length → vs[i]? = some (u i)) (hr : ∀ i x, caps[i]? = some x → RD w ok x (u i)) : RD w ok (.fn f caps) (.func (.func f) #[] vs)
 | sl (n : Nat) (cs : List D) (A : Option Addr) (c : Nat) (u : Nat → Value) (hn : n ≤ c) (ha : cs ≠ [] → ∃ a, A = some a ∧ ok a.block ∧ ∀ p, p < cs.length → w.cell? (a.add p) = some (u p)) (hr : ∀ p x, cs[p]? = some x → RD w ok x (u p)) : RD w ok (.sl n cs) (.slice A n c)
 | ptr (off : Nat) (cs : List D) (a : Addr) (u : Nat → Value) (ho : ok a.block) (hc : ∀ p, p < cs.length → w.cell? (a.add p) = some (u p)) (hr : ∀ p x, cs[p]? = some x → RD w ok x (u p)) : RD w ok (.ptr off cs) (.pointer (some (a.add off)))
 | agg (cs : List D) (vs : Array Value) (u : Nat → Value) (hs : vs.size = cs.length) (hv : ∀ i, i < cs.length → vs[i]? = some (u i)) (hr : ∀ i x, cs[i]? = some x → RD w ok x (u i)) (h1 : ∀ x ∈ cs, x.one = true) : RD w ok (.agg cs) (.agg vs)
 | tup (xs : List D) (vs : Array Value) (u : Nat → Value) (hs : vs.size = xs.length) (hv : ∀ i, i < xs.length → vs[i]? = some (u i)) (hr : ∀ i x, xs[i]? = some x → RD w ok x (u i)) : RD w ok (.tup xs) (.tuple vs)
theorem cell_same {w w' : World} {a : Addr} (h : w'.heap[a.block]? = w.heap[a.block]?) : w'.cell? a = w.cell? a := World.cell?_of_block h
theorem add_block (a : Addr) (n : Nat) : (a.add n).block = a.block := by unfold Addr.add; split <;> rfl
theorem cell_lt {w : World} {a : Addr} {v : Value} (h : w.cell? a = some v) : a.block < w.heap.size := World.block_lt_of_cell? w a h
/-- blocks that are as they were read as they did -/
theorem RD.step {w w' : World} {ok ok' : Nat → Prop} {x : D} {v : Value} (h : RD w ok x v) (hk : ∀ k, ok k → k < w.heap.size → ok' k ∧ w'.heap[k]? = w.heap[k]?) (hp : ∀ k, ok k → k < w.heap.size ∨ ok' k) : RD w' ok' x v := by
 induction h with
 | int k n => exact .int k n
 | bool b => exact .bool b
 | nilp => exact .nilp
 | nils => exact .nils
 | fn f caps vs u hs hv hr ih => exact .fn f caps vs u hs hv ih
 | sl n cs A c u hn ha hr ih =>
  refine .sl n cs A c u hn (fun hne => ?_) ih
  obtain ⟨a, h1, h2, h3⟩ := ha hne
  have h0 := h3 0 (List.length_pos_iff.2 hne)
  have hlt : a.block < w.heap.size := by have := cell_lt h0; rwa [add_block] at this
  refine ⟨a, h1, (hk _ h2 hlt).1, fun p hp => ?_⟩
  exact (cell_same (w := w) (w' := w') (a := a.add p) (by rw [add_block]; exact (hk _ h2 hlt).2)).trans (h3 p hp)
 | ptr off cs a u ho hc hr ih =>
  by_cases hlt : a.block < w.heap.size
  ·
   refine .ptr off cs a u (hk _ ho hlt).1 (fun p hp => ?_) ih
   exact (cell_same (w := w) (w' := w') (a := a.add p) (by rw [add_block]; exact (hk _ ho hlt).2)).trans (hc p hp)
  ·
   refine .ptr off cs a u ((hp _ ho).resolve_left hlt) (fun p hp' => ?_) ih
   have := cell_lt (hc p hp')
   rw [add_block] at this
   exact absurd this hlt
 | agg cs vs u hs hv hr h1 ih => exact .agg cs vs u hs hv ih h1
 | tup xs vs u hs hv hr ih => exact .tup xs vs u hs hv ih
theorem RD.mono {w : World} {ok ok' : Nat → Prop} {x : D} {v : Value} (h : RD w ok x v) (hk : ∀ k, ok k → ok' k) : RD w ok' x v :=
 h.step (fun k h1 _ => ⟨hk k h1, rfl⟩) (fun k h1 => .inr (hk k h1))
theorem RD.one {w : World} {ok : Nat → Prop} {x : D} {v : Value} (h : RD w ok x v) (h1 : x.one = true) : v.oneCell' = true := by
 cases h <;> first | rfl | (simp [D.one] at h1)
/-- values within a function: data, or a part of an object of the function's own, by its name -/
inductive AV where
 | d (x : D)
 | osl (r off n sz : Nat) (whole : Bool)
 | optr (r off : Nat)
 | und
 | junk
/-- the cells of an own object -/
inductive Cl where
 | d (l : List D)
 | a (l : List AV)
def Cl.at : Cl → Nat → Option AV
 | .d l, p => (l[p]?).map .d
 | .a l, p => l[p]?
structure Ob where
 e : TypeId
 cs : Cl
 lk : Bool
/-- σ: the block of a name, and its size -/
def RV (w : World) (ok : Nat → Prop) (σ : Nat → Option (Nat × Nat)) : AV → Value → Prop
 | .d x, v => RD w ok x v
 | .osl r off n sz wh, v => match σ r with
  | some (g, m) => ∃ c, v = .slice (some ⟨g, off, none⟩) n c ∧ n ≤ c ∧ c ≤ maxLen ∧ off + c * sz ≤ m ∧ (wh = true → off = 0 ∧ c * sz = m)
  | none => v = .slice none 0 0 ∧ n = 0 ∧ off = 0
 | .optr r off, v => match σ r with
  | some (g, _) => v = .pointer (some ⟨g, off, none⟩)
  | none => False
 | .und, v => v = undef
 | .junk, _ => True
theorem RV.step {w w' : World} {ok ok' : Nat → Prop} {σ : Nat → Option (Nat × Nat)} {x : AV} {v : Value} (h : RV w ok σ x v) (hk : ∀ k, ok k → k < w.heap.size → ok' k ∧ w'.heap[k]? = w.heap[k]?) (hp : ∀ k, ok k → k < w.heap.size ∨ ok' k) : RV w' ok' σ x v := by
 cases x with
 | d x => exact RD.step h hk hp
 | _ => exact h
def AV.names : AV → Option Nat
 | .osl r _ _ _ _ => some r
 | .optr r _ => some r
 | _ => none
theorem RV.name {w : World} {ok : Nat → Prop} {σ σ' : Nat → Option (Nat × Nat)} {x : AV} {v : Value} (h : RV w ok σ x v) (hs : ∀ r, x.names = some r → σ' r = σ r) : RV w ok σ' x v := by
 cases x with
 | osl r off n sz wh => simp only [RV, hs r rfl] at h ⊢; exact h
 | optr r off => simp only [RV, hs r rfl] at h ⊢; exact h
 | _ => exact h
/-- the state of a function: what its temporaries hold, and the objects of its own -/
structure AS where
 N : Nat
 tm : Nat → AV
 H : Nat → Option Ob
def upd {α : Type} (f : Nat → α) (i : Nat) (x : α) : Nat → α := fun j => bif Nat.beq j i then x else f j
theorem upd_eq {α : Type} (f : Nat → α) (i : Nat) (x : α) (j : Nat) : upd f i x j = if j = i then x else f j := by
 unfold upd
 by_cases h : j = i
 ·
  rw [if_pos h, (Nat.beq_eq ▸ h : Nat.beq j i = true)]; rfl
 ·
  rw [if_neg h]
  cases hb : Nat.beq j i with
  | true => exact absurd (Nat.eq_of_beq_eq_true hb) h
  | false => rfl
theorem upd_self {α : Type} (f : Nat → α) (i : Nat) (x : α) : upd f i x i = x := by rw [upd_eq, if_pos rfl]
theorem upd_ne {α : Type} (f : Nat → α) {i j : Nat} (x : α) (h : j ≠ i) : upd f i x j = f j := by rw [upd_eq, if_neg h]
theorem upd_comm {α : Type} (f : Nat → α) {i j : Nat} (x y : α) (h : i ≠ j) : upd (upd f i x) j y = upd (upd f j y) i x := by
 funext k; simp only [upd_eq]; by_cases h1 : k = i <;> by_cases h2 : k = j <;> simp [h1, h2] <;> omega
def AS.put (st : AS) (dst : Option Nat) (v : AV) : AS := { st with tm := match dst with
 | some d => if d < st.N then upd st.tm d v else st.tm
 | none => st.tm }
def live (st : AS) (x : AV) : Prop := ∀ r, x.names = some r → st.H r ≠ none
/-- every name that is spoken of stands for an object -/
structure WF (st : AS) : Prop where
 tm : ∀ t, live st (st.tm t)
 H : ∀ r ob l, st.H r = some ob → ob.cs = .a l → ∀ x ∈ l, live st x
/-- blocks that shared data may look at: those of the arguments, and new ones that are not the function's own any more -/
def okS (w0 : World) (ok0 : Nat → Prop) (st : AS) (σ : Nat → Option (Nat × Nat)) (w : World) (k : Nat) : Prop :=
 (k < w0.heap.size → ok0 k) ∧ k < w.heap.size ∧ ∀ r ob g m, st.H r = some ob → ob.lk = false → σ r = some (g, m) → k ≠ g
structure Rel' (w0 : World) (ok0 : Nat → Prop) (st : AS) (a : Act) (w : World) (σ : Nat → Option (Nat × Nat)) : Prop where
 inj : ∀ r r' g m m', st.H r ≠ none → st.H r' ≠ none → σ r = some (g, m) → σ r' = some (g, m') → r = r'
 ob : ∀ r ob, st.H r = some ob → match σ r with
  | some (g, m) => w0.heap.size ≤ g ∧ ∃ us : Array Value, w.heap[g]? = some (.cells us ob.e (0, 0)) ∧ us.size = m ∧ ∀ p x, ob.cs.at p = some x → ∃ u, us[p]? = some u ∧ RV w (okS w0 ok0 st σ w) σ x u ∧ u.oneCell' = true
  | none => ob.cs = .d []
 tm : ∀ t, RV w (okS w0 ok0 st σ w) σ (st.tm t) (a.tmps.getD t undef)
structure Rel (w0 : World) (ok0 : Nat → Prop) (st : AS) (a : Act) (w : World) : Prop where
 wf : WF st
 defers : a.defers = []
 size : a.tmps.size = st.N
 below : Below w0.heap.size w0 w
 rel : ∃ σ, Rel' w0 ok0 st a w σ
end Ab
/- How the state of a function follows its world: values put, objects made, cells written, calls. -/
namespace Ab
open Go Go.RowKit
set_option linter.unusedVariables false
variable {w0 w w' : World} {ok0 : Nat → Prop} {st : AS} {a : Act}
theorem put_H (dst : Option Nat) (v : AV) : (st.put dst v).H = st.H := rfl
theorem put_N (dst : Option Nat) (v : AV) : (st.put dst v).N = st.N := rfl
theorem put_tm {d t : Nat} {v : AV} : (st.put (some d) v).tm t = if t = d ∧ d < st.N then v else st.tm t := by
 show (if d < st.N then upd st.tm d v else st.tm) t = _
 by_cases hd : d < st.N
 ·
  rw [if_pos hd]; rw [upd_eq]
  by_cases ht : t = d
  ·
   rw [if_pos ht, if_pos ⟨ht, hd⟩]
  ·
   rw [if_neg ht, if_neg (fun e => ht e.1)]
 ·
  rw [if_neg hd, if_neg (fun e => hd e.2)]
theorem put_live {dst : Option Nat} {v : AV} (h : ∀ t, live st (st.tm t)) (hv : live st v) (t : Nat) : live st ((st.put dst v).tm t) := by
 cases dst with
 | none => exact h t
 | some d =>
  rw [put_tm]
  split
  ·
   exact hv
  ·
   exact h t
theorem WF.put {dst : Option Nat} {v : AV} (h : WF st) (hv : live st v) : WF (st.put dst v) :=
 ⟨put_live h.tm hv, h.H⟩
theorem act_put_size (dst : Option Nat) (v : Value) : (a.put dst v).tmps.size = a.tmps.size := by
 cases dst <;> simp [Act.put]
theorem act_put_defers (dst : Option Nat) (v : Value) : (a.put dst v).defers = a.defers := by
 cases dst <;> rfl
theorem act_put_get {d t : Nat} {v : Value} : (a.put (some d) v).tmps.getD t undef = if t = d ∧ d < a.tmps.size then v else a.tmps.getD t undef := by
 simp only [Act.put, Array.getD_eq_getD_getElem?, Array.getElem?_setIfInBounds]
 by_cases h : d = t
 ·
  subst h
  by_cases h2 : d < a.tmps.size
  ·
   simp [h2]
  ·
   simp [h2]
 ·
  rw [if_neg h, if_neg (fun e => h e.1.symm)]
theorem Rel'.put {σ : Nat → Option (Nat × Nat)} {dst : Option Nat} {x : AV} {v : Value} (h : Rel' w0 ok0 st a w σ) (hN : a.tmps.size = st.N) (hv : RV w (okS w0 ok0 st σ w) σ x v) : Rel' w0 ok0 (st.put dst x) (a.put dst v) w σ := by
 have e : okS w0 ok0 (st.put dst x) σ w = okS w0 ok0 st σ w := by unfold okS; rw [put_H]
 refine ⟨fun r r' g m m' => by rw [put_H]; exact h.inj r r' g m m', fun r ob hr => ?_, fun t => ?_⟩
 ·
  rw [e]; exact h.ob r ob (by rw [put_H] at hr; exact hr)
 ·
  rw [e]
  cases dst with
  | none => exact h.tm t
  | some d =>
   rw [act_put_get, hN, put_tm]
   by_cases ht : t = d ∧ d < st.N
   ·
    rw [if_pos ht, if_pos ht]; exact hv
   ·
    rw [if_neg ht, if_neg ht]; exact h.tm t
/-- a value is put into a temporary -/
theorem Rel.put {dst : Option Nat} {x : AV} {v : Value} (h : Rel w0 ok0 st a w) (hl : live st x) (hv : ∀ σ, Rel' w0 ok0 st a w σ → RV w (okS w0 ok0 st σ w) σ x v) : Rel w0 ok0 (st.put dst x) (a.put dst v) w := by
 obtain ⟨σ, hr⟩ := h.rel
 exact ⟨h.wf.put hl, by rw [act_put_defers]; exact h.defers, by rw [act_put_size, put_N]; exact h.size, h.below, σ, hr.put h.size (hv σ hr)⟩
/-- some objects are not the function's own any more -/
def AS.leak (st : AS) (L : List Nat) : AS := { st with H := fun r => (st.H r).map fun ob => if L.contains r then { ob with lk := true } else ob }
theorem leak_some {L : List Nat} {r : Nat} {ob : Ob} (h : (st.leak L).H r = some ob) : ∃ ob', st.H r = some ob' ∧ ob.e = ob'.e ∧ ob.cs = ob'.cs ∧ (ob.lk = false → ob'.lk = false) := by
 unfold AS.leak at h
 cases hr : st.H r with
 | none => simp [hr] at h
 | some ob' =>
  simp only [hr, Option.map_some, Option.some.injEq] at h
  subst h
  refine ⟨ob', rfl, ?_, ?_, ?_⟩ <;> split <;> simp
theorem leak_ne {L : List Nat} {r : Nat} : (st.leak L).H r ≠ none ↔ st.H r ≠ none := by
 unfold AS.leak
 cases h : st.H r <;> simp [h]
theorem live_leak {L : List Nat} {x : AV} : live (st.leak L) x ↔ live st x := by
 unfold live
 exact ⟨fun h r hr => leak_ne.1 (h r hr), fun h r hr => leak_ne.2 (h r hr)⟩
theorem okS_leak {L : List Nat} {σ : Nat → Option (Nat × Nat)} {k : Nat} (h : okS w0 ok0 st σ w k) : okS w0 ok0 (st.leak L) σ w k := by
 refine ⟨h.1, h.2.1, fun r ob g m hr hl hs => ?_⟩
 obtain ⟨ob', h1, _, _, h4⟩ := leak_some hr
 exact h.2.2 r ob' g m h1 (h4 hl) hs
theorem Rel.leak (L : List Nat) (h : Rel w0 ok0 st a w) : Rel w0 ok0 (st.leak L) a w := by
 obtain ⟨σ, hr⟩ := h.rel
 refine ⟨⟨fun t => live_leak.2 (h.wf.tm t), fun r ob l h1 h2 x hx => ?_⟩, h.defers, h.size, h.below, σ, ⟨fun r r' g m m' h1 h2 => hr.inj r r' g m m' (leak_ne.1 h1) (leak_ne.1 h2), fun r ob h1 => ?_, fun t => (hr.tm t).step (fun k hk _ => ⟨okS_leak hk, rfl⟩) (fun k hk => .inr (okS_leak hk))⟩⟩
 ·
  obtain ⟨ob', h3, _, h5, _⟩ := leak_some h1
  exact live_leak.2 (h.wf.H r ob' l h3 (by rw [← h5]; exact h2) x hx)
 ·
  obtain ⟨ob', h3, h4, h5, _⟩ := leak_some h1
  have := hr.ob r ob' h3
  rw [h4, h5]
  cases hs : σ r with
  | none => rw [hs] at this; exact this
  | some gm =>
   obtain ⟨g, m⟩ := gm
   rw [hs] at this
   obtain ⟨h6, us, h7, h8, h9⟩ := this
   refine ⟨h6, us, h7, h8, fun p x hp => ?_⟩
   obtain ⟨u, h10, h11, h12⟩ := h9 p x hp
   exact ⟨u, h10, h11.step (fun k hk _ => ⟨okS_leak hk, rfl⟩) (fun k hk => .inr (okS_leak hk)), h12⟩
/-- a later world, in which the blocks below are as they were: draws, and what callees do -/
theorem Rel.later (h : Rel w0 ok0 st a w) (hb : Below w.heap.size w w') : Rel w0 ok0 st a w' := by
 obtain ⟨σ, hr⟩ := h.rel
 have hk : ∀ k, okS w0 ok0 st σ w k → k < w.heap.size → okS w0 ok0 st σ w' k ∧ w'.heap[k]? = w.heap[k]? := fun k h1 h2 =>
  ⟨⟨h1.1, Nat.lt_of_lt_of_le h2 hb.size, h1.2.2⟩, hb.block k h2⟩
 have hp : ∀ k, okS w0 ok0 st σ w k → k < w.heap.size ∨ okS w0 ok0 st σ w' k := fun k h1 => .inl h1.2.1
 refine ⟨h.wf, h.defers, h.size, Below.trans h.below ⟨hb.os, hb.tape, hb.output, hb.size, fun k hk => hb.block k (Nat.lt_of_lt_of_le hk h.below.size)⟩, σ, ⟨hr.inj, fun r ob h1 => ?_, fun t => (hr.tm t).step hk hp⟩⟩
 have := hr.ob r ob h1
 cases hs : σ r with
 | none => rw [hs] at this; exact this
 | some gm =>
  obtain ⟨g, m⟩ := gm
  rw [hs] at this
  obtain ⟨h6, us, h7, h8, h9⟩ := this
  have hlt : g < w.heap.size := (Array.getElem?_eq_some_iff.1 h7).1
  refine ⟨h6, us, by rw [hb.block g hlt]; exact h7, h8, fun p x hp' => ?_⟩
  obtain ⟨u, h10, h11, h12⟩ := h9 p x hp'
  exact ⟨u, h10, h11.step hk hp, h12⟩
/-- what holds of data in a world holds in a later one; what is new avoids the function's own -/
theorem okS_of_new {σ : Nat → Option (Nat × Nat)} (h : Rel' w0 ok0 st a w σ) (hb : Below w.heap.size w w') {k : Nat} (hk : k < w.heap.size → okS w0 ok0 st σ w k) (hlt : k < w'.heap.size) (h0 : w0.heap.size ≤ w.heap.size) : okS w0 ok0 st σ w' k := by
 refine ⟨fun h1 => (hk (by omega)).1 h1, hlt, fun r ob g m h1 h2 h3 => ?_⟩
 by_cases hw : k < w.heap.size
 ·
  exact (hk hw).2.2 r ob g m h1 h2 h3
 ·
  have := h.ob r ob h1
  rw [h3] at this
  obtain ⟨_, us, h7, _⟩ := this
  have := (Array.getElem?_eq_some_iff.1 h7).1
  omega
/-- an object of the function's own is made -/
def AS.new (st : AS) (r : Nat) (ob : Ob) : AS := { st with H := upd st.H r (some ob) }
theorem live_new {r : Nat} {ob : Ob} {x : AV} (h : live st x) : live (st.new r ob) x := fun r' hr => by
 show upd st.H r (some ob) r' ≠ none
 rw [upd_eq]
 split
 ·
  simp
 ·
  exact h r' hr
theorem WF.new {r : Nat} {ob : Ob} (h : WF st) (hob : ∀ l, ob.cs = .a l → ∀ x ∈ l, live st x) : WF (st.new r ob) := by
 refine ⟨fun t => live_new (h.tm t), fun r' ob' l h1 h2 x hx => ?_⟩
 unfold AS.new at h1
 simp only [upd_eq] at h1
 split at h1
 ·
  cases h1; exact live_new (hob l h2 x hx)
 ·
  exact live_new (h.H r' ob' l h1 h2 x hx)
theorem not_name {r : Nat} {x : AV} (hl : live st x) (hn : st.H r = none) : ∀ r', x.names = some r' → r' ≠ r := fun r' h e => hl r' h (e ▸ hn)
theorem Rel.new {r : Nat} {e : TypeId} {cs : Cl} {us : Array Value} (h : Rel w0 ok0 st a w) (hn : st.H r = none) (hob : ∀ l, cs = .a l → ∀ x ∈ l, live st x)
  (hc : ∀ σ, Rel' w0 ok0 st a w σ → ∀ p x, cs.at p = some x → ∃ u, us[p]? = some u ∧ RV w (okS w0 ok0 st σ w) σ x u ∧ u.oneCell' = true) :
  ∃ σ', Rel w0 ok0 (st.new r ⟨e, cs, false⟩) a (w.alloc (.cells us e)) ∧ Rel' w0 ok0 (st.new r ⟨e, cs, false⟩) a (w.alloc (.cells us e)) σ' ∧ σ' r = some (w.heap.size, us.size) := by
 obtain ⟨σ, hr⟩ := h.rel
 have hb : Below w.heap.size w (w.alloc (.cells us e)) := Below.alloc (Below.refl _ _) (Nat.le_refl _) _
 have hsz : (w.alloc (.cells us e)).heap.size = w.heap.size + 1 := by simp
 have h0 := h.below.size
 obtain ⟨σ', hσ⟩ : ∃ σ', σ' = upd σ r (some (w.heap.size, us.size)) := ⟨_, rfl⟩
 have hne : ∀ r', r' ≠ r → σ' r' = σ r' := fun r' h' => by rw [hσ, upd_ne _ _ h']
 have hself : σ' r = some (w.heap.size, us.size) := by rw [hσ, upd_self]
 have hok : ∀ k, okS w0 ok0 st σ w k → k < w.heap.size → okS w0 ok0 (st.new r ⟨e, cs, false⟩) σ' (w.alloc (.cells us e)) k ∧ (w.alloc (.cells us e)).heap[k]? = w.heap[k]? := fun k h1 h2 => by
  refine ⟨⟨h1.1, by omega, fun r' ob g m h3 h4 h5 => ?_⟩, hb.block k h2⟩
  by_cases hrr : r' = r
  ·
   rw [hrr, hself] at h5
   cases h5; omega
  ·
   rw [hne r' hrr] at h5
   have h3' : st.H r' = some ob := by
    have : upd st.H r (some ⟨e, cs, false⟩) r' = some ob := h3
    rwa [upd_ne _ _ hrr] at this
   exact h1.2.2 r' ob g m h3' h4 h5
 have hstep : ∀ {x : AV} {v : Value}, live st x → RV w (okS w0 ok0 st σ w) σ x v → RV (w.alloc (.cells us e)) (okS w0 ok0 (st.new r ⟨e, cs, false⟩) σ' (w.alloc (.cells us e))) σ' x v := fun {x v} hl hv =>
  (hv.step hok (fun k hk => .inl hk.2.1)).name (fun r' hr' => hne r' (not_name hl hn r' hr'))
 have hrel' : Rel' w0 ok0 (st.new r ⟨e, cs, false⟩) a (w.alloc (.cells us e)) σ' := by
  refine ⟨fun r1 r2 g m m' h1 h2 h3 h4 => ?_, fun r' ob h1 => ?_, fun t => hstep (h.wf.tm t) (hr.tm t)⟩
  ·
   have hold : ∀ r' g m, r' ≠ r → (st.new r ⟨e, cs, false⟩).H r' ≠ none → σ r' = some (g, m) → g < w.heap.size := fun r' g m hrr h1 h3 => by
    have h1' : st.H r' ≠ none := by
     have : upd st.H r (some ⟨e, cs, false⟩) r' ≠ none := h1
     rwa [upd_ne _ _ hrr] at this
    obtain ⟨ob, hob'⟩ := Option.ne_none_iff_exists'.1 h1'
    have := hr.ob r' ob hob'
    rw [h3] at this
    obtain ⟨_, us', h7, _⟩ := this
    exact (Array.getElem?_eq_some_iff.1 h7).1
   by_cases e1 : r1 = r <;> by_cases e2 : r2 = r
   ·
    rw [e1, e2]
   ·
    rw [e1, hself] at h3; cases h3
    rw [hne r2 e2] at h4
    have := hold r2 _ _ e2 h2 h4; omega
   ·
    rw [e2, hself] at h4; cases h4
    rw [hne r1 e1] at h3
    have := hold r1 _ _ e1 h1 h3; omega
   ·
    rw [hne r1 e1] at h3; rw [hne r2 e2] at h4
    refine hr.inj r1 r2 g m m' ?_ ?_ h3 h4
    ·
     have : upd st.H r (some ⟨e, cs, false⟩) r1 ≠ none := h1
     rwa [upd_ne _ _ e1] at this
    ·
     have : upd st.H r (some ⟨e, cs, false⟩) r2 ≠ none := h2
     rwa [upd_ne _ _ e2] at this
  ·
   by_cases hrr : r' = r
   ·
    subst hrr
    have : some (⟨e, cs, false⟩ : Ob) = some ob := by
     have h2 : upd st.H r' (some ⟨e, cs, false⟩) r' = some ob := h1
     rwa [upd_self] at h2
    cases this
    rw [hself]
    refine ⟨h0, us, heap_alloc_new w _, rfl, fun p x hp => ?_⟩
    obtain ⟨u, h4, h5, h6⟩ := hc σ hr p x hp
    refine ⟨u, h4, hstep ?_ h5, h6⟩
    cases cs with
    | d l =>
     simp only [Cl.at, Option.map_eq_some_iff] at hp
     obtain ⟨y, _, rfl⟩ := hp
     intro r' h'; cases h'
    | a l => exact hob l rfl x (List.mem_of_getElem? hp)
   ·
    have h1' : st.H r' = some ob := by
     have : upd st.H r (some ⟨e, cs, false⟩) r' = some ob := h1
     rwa [upd_ne _ _ hrr] at this
    rw [hne r' hrr]
    have := hr.ob r' ob h1'
    cases hs : σ r' with
    | none => rw [hs] at this; exact this
    | some gm =>
     obtain ⟨g, m⟩ := gm
     rw [hs] at this
     obtain ⟨h6, us', h7, h8, h9⟩ := this
     have hlt : g < w.heap.size := (Array.getElem?_eq_some_iff.1 h7).1
     refine ⟨h6, us', by rw [hb.block g hlt]; exact h7, h8, fun p x hp' => ?_⟩
     obtain ⟨u, h10, h11, h12⟩ := h9 p x hp'
     refine ⟨u, h10, hstep ?_ h11, h12⟩
     cases hcs : ob.cs with
     | d l =>
      rw [hcs] at hp'
      simp only [Cl.at, Option.map_eq_some_iff] at hp'
      obtain ⟨y, _, rfl⟩ := hp'
      intro r' h'; cases h'
     | a l => rw [hcs] at hp'; exact h.wf.H r' ob l h1' hcs x (List.mem_of_getElem? hp')
 refine ⟨σ', ⟨h.wf.new hob, h.defers, h.size, Below.trans h.below ⟨hb.os, hb.tape, hb.output, hb.size, fun k hk => hb.block k (Nat.lt_of_lt_of_le hk h0)⟩, σ', hrel'⟩, hrel', hself⟩
end Ab
/- Cells of own objects written; states made weaker; rows that grow. -/
namespace Ab
open Go Go.RowKit
set_option linter.unusedVariables false
variable {w0 w w' : World} {ok0 : Nat → Prop} {st : AS} {a : Act}
def Cl.set : Cl → Nat → AV → Cl
 | .a l, p, x => .a (l.set p x)
 | .d l, p, .d y => .d (l.set p y)
 | .d l, _, _ => .d l
def Cl.takes : Cl → AV → Prop
 | .a _, _ => True
 | .d _, .d _ => True
 | .d _, _ => False
theorem Cl.at_live {st : AS} (hw : WF st) {r : Nat} {ob : Ob} (hr : st.H r = some ob) {p : Nat} {x : AV} (h : ob.cs.at p = some x) : live st x := by
 cases hcs : ob.cs with
 | d l =>
  rw [hcs] at h
  simp only [Cl.at, Option.map_eq_some_iff] at h
  obtain ⟨y, _, rfl⟩ := h
  intro r' h'; cases h'
 | a l => rw [hcs] at h; exact hw.H r ob l hr hcs x (List.mem_of_getElem? h)
theorem Cl.at_set {c : Cl} {p q : Nat} {x y : AV} (ht : c.takes x) (h : (c.set p x).at q = some y) : (q = p ∧ y = x) ∨ (q ≠ p ∧ c.at q = some y) := by
 cases c with
 | a l =>
  simp only [Cl.set, Cl.at, List.getElem?_set] at h
  by_cases e : p = q
  ·
   rw [if_pos e] at h
   split at h
   ·
    cases h; exact .inl ⟨e.symm, rfl⟩
   ·
    cases h
  ·
   rw [if_neg e] at h; exact .inr ⟨fun h' => e h'.symm, h⟩
 | d l =>
  cases x with
  | d z =>
   simp only [Cl.set, Cl.at, List.getElem?_set] at h
   by_cases e : p = q
   ·
    rw [if_pos e] at h
    split at h
    ·
     cases h; exact .inl ⟨e.symm, rfl⟩
    ·
     cases h
   ·
    rw [if_neg e] at h; exact .inr ⟨fun h' => e h'.symm, h⟩
  | _ => exact ht.elim
def AS.setc (st : AS) (r p : Nat) (x : AV) : AS := { st with H := fun r' => if r' = r then (st.H r).map fun ob => { ob with cs := ob.cs.set p x } else st.H r' }
theorem setc_self {r p : Nat} {x : AV} {ob : Ob} (h : st.H r = some ob) : (st.setc r p x).H r = some { ob with cs := ob.cs.set p x } := by simp [AS.setc, h]
theorem setc_ne {r r' p : Nat} {x : AV} (h : r' ≠ r) : (st.setc r p x).H r' = st.H r' := by simp [AS.setc, h]
theorem setc_none {r r' p : Nat} {x : AV} : (st.setc r p x).H r' = none ↔ st.H r' = none := by
 by_cases h : r' = r
 ·
  subst h; cases hr : st.H r' <;> simp [AS.setc, hr]
 ·
  rw [setc_ne h]
theorem live_setc {r p : Nat} {x y : AV} : live (st.setc r p x) y ↔ live st y :=
 ⟨fun h r' hr hn => h r' hr (setc_none.2 hn), fun h r' hr hn => h r' hr (setc_none.1 hn)⟩
theorem WF.setc {r p : Nat} {x : AV} (h : WF st) (hx : live st x) : WF (st.setc r p x) := by
 refine ⟨fun t => live_setc.2 (h.tm t), fun r' ob l h1 h2 y hy => live_setc.2 ?_⟩
 by_cases e : r' = r
 ·
  subst e
  cases hr : st.H r' with
  | none => rw [setc_none.2 hr] at h1; cases h1
  | some ob' =>
   rw [setc_self hr] at h1
   cases h1
   cases hcs : ob'.cs with
   | d l' =>
    simp only [hcs] at h2
    cases x <;> simp [Cl.set] at h2
   | a l' =>
    simp only [hcs, Cl.set, Cl.a.injEq] at h2
    subst h2
    rcases List.mem_or_eq_of_mem_set hy with h3 | h3
    ·
     exact h.H r' ob' l' hr hcs y h3
    ·
     rw [h3]; exact hx
 ·
  rw [setc_ne e] at h1; exact h.H r' ob l h1 h2 y hy
/-- a cell of an own object is written -/
theorem Rel'.setc {σ : Nat → Option (Nat × Nat)} {r p g m : Nat} {x : AV} {u : Value} {ob : Ob} (hwf : WF st) (h : Rel' w0 ok0 st a w σ) (hr : st.H r = some ob) (hl : ob.lk = false) (hs : σ r = some (g, m)) (hp : p < m) (ht : ob.cs.takes x)
  (hu : RV w (okS w0 ok0 st σ w) σ x u) (h1 : u.oneCell' = true) : Rel' w0 ok0 (st.setc r p x) a (w.setCell ⟨g, p, none⟩ u) σ := by
 have hok : ∀ k, okS w0 ok0 st σ w k → k < w.heap.size → okS w0 ok0 (st.setc r p x) σ (w.setCell ⟨g, p, none⟩ u) k ∧ (w.setCell ⟨g, p, none⟩ u).heap[k]? = w.heap[k]? := fun k h2 h3 => by
  refine ⟨⟨h2.1, by simpa using h3, fun r' ob' g' m' h4 h5 h6 => ?_⟩, heap_setCell_other w _ k u (h2.2.2 r ob g m hr hl hs)⟩
  by_cases e : r' = r
  ·
   subst e
   rw [setc_self hr] at h4; cases h4
   exact h2.2.2 r' ob g' m' hr h5 h6
  ·
   rw [setc_ne e] at h4; exact h2.2.2 r' ob' g' m' h4 h5 h6
 have hst : ∀ {y : AV} {v : Value}, RV w (okS w0 ok0 st σ w) σ y v → RV (w.setCell ⟨g, p, none⟩ u) (okS w0 ok0 (st.setc r p x) σ (w.setCell ⟨g, p, none⟩ u)) σ y v := fun hv => hv.step hok (fun k hk => .inl hk.2.1)
 refine ⟨fun r1 r2 g' m' m'' e1 e2 => h.inj r1 r2 g' m' m'' (fun h => e1 (setc_none.2 h)) (fun h => e2 (setc_none.2 h)), fun r' ob' h2 => ?_, fun t => hst (h.tm t)⟩
 by_cases e : r' = r
 ·
  subst e
  rw [setc_self hr] at h2; cases h2
  have := h.ob r' ob hr
  rw [hs] at this ⊢
  obtain ⟨h6, us, h7, h8, h9⟩ := this
  refine ⟨h6, us.setIfInBounds p u, heap_setCell_same w g p us ob.e u h7, by simpa using h8, fun q y hq => ?_⟩
  rcases Cl.at_set ht hq with ⟨e1, e2⟩ | ⟨e1, e2⟩
  ·
   subst e1 e2
   exact ⟨u, by rw [Array.getElem?_setIfInBounds]; simp; omega, hst hu, h1⟩
  ·
   obtain ⟨v, h10, h11, h12⟩ := h9 q y e2
   exact ⟨v, by rw [Array.getElem?_setIfInBounds, if_neg (fun h => e1 h.symm)]; exact h10, hst h11, h12⟩
 ·
  rw [setc_ne e] at h2
  have := h.ob r' ob' h2
  cases hs' : σ r' with
  | none => rw [hs'] at this; exact this
  | some gm =>
   obtain ⟨g', m'⟩ := gm
   rw [hs'] at this
   obtain ⟨h6, us, h7, h8, h9⟩ := this
   have hgg : g' ≠ g := fun e' => e (by subst e'; exact h.inj r' r g' m' m (by rw [h2]; simp) (by rw [hr]; simp) hs' hs)
   refine ⟨h6, us, by rw [heap_setCell_other w _ g' u hgg]; exact h7, h8, fun q y hq => ?_⟩
   obtain ⟨v, h10, h11, h12⟩ := h9 q y hq
   exact ⟨v, h10, hst h11, h12⟩
/-- a state that says less: temporaries forgotten, objects left, nil rows told as own -/
structure Wk (st st' : AS) : Prop where
 N : st'.N = st.N
 tm : ∀ t, st'.tm t = .junk ∨ st'.tm t = st.tm t ∨ (st.tm t = .d .nils ∧ ∃ r sz, st'.tm t = .osl r 0 0 sz true ∧ st.H r = none)
 H : ∀ r ob, st'.H r = some ob → st.H r = some ob ∨ (st.H r = none ∧ ob.cs = .d [])
 live : WF st'
theorem Rel.weak' {st' : AS} (hw : Wk st st') (h : Rel w0 ok0 st a w) : Rel w0 ok0 st' a w ∧ ∃ σ', Rel' w0 ok0 st' a w σ' ∧ ∀ r, st.H r = none → σ' r = none := by
 obtain ⟨σ, hr⟩ := h.rel
 obtain ⟨σ', hσ⟩ : ∃ σ', σ' = fun r => (match st.H r with | some _ => σ r | none => (none : Option (Nat × Nat))) := ⟨_, rfl⟩
 have hs : ∀ r, st.H r ≠ none → σ' r = σ r := fun r h1 => by
  rw [hσ]; cases h2 : st.H r with
  | none => exact absurd h2 h1
  | some ob => simp [h2]
 have hn : ∀ r, st.H r = none → σ' r = none := fun r h1 => by rw [hσ]; simp [h1]
 have hok : ∀ k, okS w0 ok0 st σ w k → okS w0 ok0 st' σ' w k := fun k h1 => ⟨h1.1, h1.2.1, fun r ob g m h2 h3 h4 => by
  rcases hw.H r ob h2 with h5 | ⟨h5, _⟩
  ·
   rw [hs r (by rw [h5]; simp)] at h4; exact h1.2.2 r ob g m h5 h3 h4
  ·
   rw [hn r h5] at h4; cases h4⟩
 have hst : ∀ {y : AV} {v : Value}, live st y → RV w (okS w0 ok0 st σ w) σ y v → RV w (okS w0 ok0 st' σ' w) σ' y v := fun hl hv => (hv.step (fun k hk _ => ⟨hok k hk, rfl⟩) (fun k hk => .inr (hok k hk))).name (fun r hr => hs r (hl r hr))
 suffices hrel : Rel' w0 ok0 st' a w σ' from ⟨⟨hw.live, h.defers, by rw [hw.N]; exact h.size, h.below, σ', hrel⟩, σ', hrel, hn⟩
 refine ⟨fun r r' g m m' h1 h2 h3 h4 => ?_, fun r ob h1 => ?_, fun t => ?_⟩
 ·
  have e1 : st.H r ≠ none := fun e => by rw [hn r e] at h3; cases h3
  have e2 : st.H r' ≠ none := fun e => by rw [hn r' e] at h4; cases h4
  rw [hs r e1] at h3; rw [hs r' e2] at h4
  exact hr.inj r r' g m m' e1 e2 h3 h4
 ·
  rcases hw.H r ob h1 with h2 | ⟨h2, h3⟩
  ·
   have := hr.ob r ob h2
   rw [hs r (by rw [h2]; simp)]
   cases hs' : σ r with
   | none => rw [hs'] at this; exact this
   | some gm =>
    obtain ⟨g, m⟩ := gm
    rw [hs'] at this
    obtain ⟨h6, us, h7, h8, h9⟩ := this
    refine ⟨h6, us, h7, h8, fun p x hp => ?_⟩
    obtain ⟨u, h10, h11, h12⟩ := h9 p x hp
    exact ⟨u, h10, hst (Cl.at_live h.wf h2 hp) h11, h12⟩
  ·
   rw [hn r h2]; exact h3
 ·
  rcases hw.tm t with h1 | h1 | ⟨h1, r, sz, h2, h3⟩
  ·
   rw [h1]; trivial
  ·
   rw [h1]; exact hst (h.wf.tm t) (hr.tm t)
  ·
   have := hr.tm t
   rw [h1] at this
   rw [h2]
   simp only [RV, hn r h3]
   simp only [RV] at this
   generalize a.tmps.getD t undef = v at this ⊢
   cases this
   exact ⟨rfl, trivial, trivial⟩
theorem Rel.weak {st' : AS} (hw : Wk st st') (h : Rel w0 ok0 st a w) : Rel w0 ok0 st' a w := (h.weak' hw).1
/-- all that speaks of an object is forgotten -/
def AV.without (r : Nat) : AV → AV
 | .osl r' off n sz wh => if r' = r then .junk else .osl r' off n sz wh
 | .optr r' off => if r' = r then .junk else .optr r' off
 | x => x
theorem without_cases (r : Nat) (x : AV) : x.without r = .junk ∨ (x.without r = x ∧ x.names ≠ some r) := by
 cases x with
 | osl r' off n sz wh =>
  by_cases h : r' = r
  ·
   left; simp [AV.without, h]
  ·
   right; simp [AV.without, AV.names, h]
 | optr r' off =>
  by_cases h : r' = r
  ·
   left; simp [AV.without, h]
  ·
   right; simp [AV.without, AV.names, h]
 | _ => right; simp [AV.without, AV.names]
def Cl.without (r : Nat) : Cl → Cl
 | .d l => .d l
 | .a l => .a (l.map (AV.without r))
theorem Cl.at_without {r p : Nat} {c : Cl} {y : AV} (h : (c.without r).at p = some y) : ∃ x, c.at p = some x ∧ y = x.without r := by
 cases c with
 | d l =>
  refine ⟨y, h, ?_⟩
  simp only [Cl.without, Cl.at, Option.map_eq_some_iff] at h
  obtain ⟨z, _, rfl⟩ := h; rfl
 | a l =>
  simp only [Cl.without, Cl.at, List.getElem?_map, Option.map_eq_some_iff] at h
  obtain ⟨x, h1, rfl⟩ := h
  exact ⟨x, h1, rfl⟩
/-- the row r is told anew: what spoke of it is forgotten -/
def AS.regrow (st : AS) (r : Nat) (ob : Ob) : AS := { st with
 tm := fun t => (st.tm t).without r
 H := fun r' => if r' = r then some ob else (st.H r').map fun o => { o with cs := o.cs.without r } }
theorem regrow_ne {r r' : Nat} {ob : Ob} (h : r' ≠ r) : (st.regrow r ob).H r' = (st.H r').map fun o => { o with cs := o.cs.without r } := by simp [AS.regrow, h]
theorem regrow_self {r : Nat} {ob : Ob} : (st.regrow r ob).H r = some ob := by simp [AS.regrow]
theorem live_regrow {r : Nat} {ob : Ob} {x : AV} (h : live st x) : live (st.regrow r ob) x := fun r' hr hn => by
 by_cases e : r' = r
 ·
  subst e; rw [regrow_self] at hn; cases hn
 ·
  rw [regrow_ne e] at hn
  exact h r' hr (by simpa using hn)
theorem live_without {r : Nat} {x : AV} (h : live st x) : live st (x.without r) := by
 rcases without_cases r x with h1 | ⟨h1, _⟩
 ·
  rw [h1]; intro r' h'; cases h'
 ·
  rw [h1]; exact h
/-- a row of data of the function's own is told anew, at another block perhaps -/
theorem Rel.regrow {r : Nat} {e : TypeId} {l : List D} {g m : Nat} {us : Array Value} {row : Option Nat} {σ : Nat → Option (Nat × Nat)} (h : Rel w0 ok0 st a w) (hrel : Rel' w0 ok0 st a w σ) {ob0 : Ob} (hr0 : st.H r = some ob0) (hl0 : ob0.lk = false) (hg : w.grownBy w' row)
  (hrow : ∀ k, row = some k → ∃ m0, σ r = some (k, m0)) (hg0 : (∃ m0, σ r = some (g, m0)) ∨ w.heap.size ≤ g) (hg1 : w0.heap.size ≤ g)
  (hb : w'.heap[g]? = some (.cells us e (0, 0))) (hm : us.size = m) (hc : ∀ (p : Nat) (x : D), l[p]? = some x → ∃ u, us[p]? = some u ∧ (RD w (okS w0 ok0 st σ w) x u) ∧ u.oneCell' = true) :
  Rel w0 ok0 (st.regrow r ⟨e, .d l, false⟩) a w' ∧ Rel' w0 ok0 (st.regrow r ⟨e, .d l, false⟩) a w' (upd σ r (some (g, m))) := by
 have hold : ∀ r' ob g' m', st.H r' = some ob → σ r' = some (g', m') → g' < w.heap.size := fun r' ob g' m' h1 h2 => by
  have := hrel.ob r' ob h1
  rw [h2] at this
  obtain ⟨_, us', h7, _⟩ := this
  exact (Array.getElem?_eq_some_iff.1 h7).1
 have hnr : ∀ r' ob g' m', r' ≠ r → st.H r' = some ob → σ r' = some (g', m') → some g' ≠ row ∧ g' ≠ g := fun r' ob g' m' h1 h2 h3 => by
  refine ⟨fun e' => ?_, fun e' => ?_⟩
  ·
   obtain ⟨m0, h4⟩ := hrow g' e'.symm
   exact h1 (hrel.inj r' r g' m' m0 (by rw [h2]; simp) (by rw [hr0]; simp) h3 h4)
  ·
   rcases hg0 with ⟨m0, h4⟩ | h4
   ·
    exact h1 (hrel.inj r' r g' m' m0 (by rw [h2]; simp) (by rw [hr0]; simp) h3 (by rw [e']; exact h4))
   ·
    have := hold r' ob g' m' h2 h3; omega
 have hok : ∀ k, okS w0 ok0 st σ w k → k < w.heap.size → okS w0 ok0 (st.regrow r ⟨e, .d l, false⟩) (upd σ r (some (g, m))) w' k ∧ w'.heap[k]? = w.heap[k]? := fun k h1 h2 => by
  have hkr : some k ≠ row := fun e' => by
   obtain ⟨m0, h4⟩ := hrow k e'.symm
   exact h1.2.2 r ob0 k m0 hr0 hl0 h4 rfl
  refine ⟨⟨h1.1, Nat.lt_of_lt_of_le h2 hg.size, fun r' ob g' m' h3 h4 h5 => ?_⟩, hg.block k h2 hkr⟩
  by_cases e' : r' = r
  ·
   subst e'
   rw [upd_self] at h5; cases h5
   rcases hg0 with ⟨m0, h6⟩ | h6
   ·
    exact h1.2.2 r' ob0 _ m0 hr0 hl0 h6
   ·
    omega
  ·
   rw [upd_ne _ _ e'] at h5
   rw [regrow_ne e', Option.map_eq_some_iff] at h3
   obtain ⟨o, h6, h7⟩ := h3
   exact h1.2.2 r' o g' m' h6 (by rw [← h7] at h4; exact h4) h5
 have hst : ∀ {y : AV} {v : Value}, RV w (okS w0 ok0 st σ w) σ y v → RV w' (okS w0 ok0 (st.regrow r ⟨e, .d l, false⟩) (upd σ r (some (g, m))) w') (upd σ r (some (g, m))) (y.without r) v := fun {y v} hv => by
  rcases without_cases r y with h1 | ⟨h1, h2⟩
  ·
   rw [h1]; trivial
  ·
   rw [h1]
   exact (hv.step hok (fun k hk => .inl hk.2.1)).name (fun r' hr' => upd_ne _ _ (fun e' => h2 (e' ▸ hr')))
 have hwf : WF (st.regrow r ⟨e, .d l, false⟩) := by
  refine ⟨fun t => live_regrow (live_without (h.wf.tm t)), fun r' ob l' h1 h2 y hy => ?_⟩
  by_cases e' : r' = r
  ·
   subst e'; rw [regrow_self] at h1; cases h1; cases h2
  ·
   rw [regrow_ne e', Option.map_eq_some_iff] at h1
   obtain ⟨o, h6, h7⟩ := h1
   subst h7
   cases hcs : o.cs with
   | d l2 => simp [hcs, Cl.without] at h2
   | a l2 =>
    simp only [hcs, Cl.without, Cl.a.injEq] at h2
    subst h2
    obtain ⟨z, h8, rfl⟩ := List.mem_map.1 hy
    exact live_regrow (live_without (h.wf.H r' o l2 h6 hcs z h8))
 have hrel2 : Rel' w0 ok0 (st.regrow r ⟨e, .d l, false⟩) a w' (upd σ r (some (g, m))) := by
  refine ⟨fun r1 r2 g' m1 m2 h1 h2 h3 h4 => ?_, fun r' ob h1 => ?_, fun t => hst (hrel.tm t)⟩
  ·
   have hex : ∀ r', r' ≠ r → (st.regrow r ⟨e, .d l, false⟩).H r' ≠ none → ∃ o, st.H r' = some o := fun r' e' h5 => by
    rw [regrow_ne e'] at h5
    cases h6 : st.H r' with
    | none => rw [h6] at h5; exact absurd rfl h5
    | some o => exact ⟨o, rfl⟩
   by_cases e1 : r1 = r <;> by_cases e2 : r2 = r
   ·
    rw [e1, e2]
   ·
    rw [e1, upd_self] at h3; cases h3
    rw [upd_ne _ _ e2] at h4
    obtain ⟨o, h5⟩ := hex r2 e2 h2
    exact absurd rfl (hnr r2 o _ m2 e2 h5 h4).2
   ·
    rw [e2, upd_self] at h4; cases h4
    rw [upd_ne _ _ e1] at h3
    obtain ⟨o, h5⟩ := hex r1 e1 h1
    exact absurd rfl (hnr r1 o _ m1 e1 h5 h3).2
   ·
    rw [upd_ne _ _ e1] at h3; rw [upd_ne _ _ e2] at h4
    obtain ⟨o, h5⟩ := hex r1 e1 h1
    obtain ⟨o', h6⟩ := hex r2 e2 h2
    exact hrel.inj r1 r2 g' m1 m2 (by rw [h5]; simp) (by rw [h6]; simp) h3 h4
  ·
   by_cases e' : r' = r
   ·
    subst e'
    rw [regrow_self] at h1; cases h1
    rw [upd_self]
    refine ⟨hg1, us, hb, hm, fun p x hp => ?_⟩
    simp only [Cl.at, Option.map_eq_some_iff] at hp
    obtain ⟨y, h2, rfl⟩ := hp
    obtain ⟨u, h3, h4, h5⟩ := hc p y h2
    have := hst (y := .d y) h4
    exact ⟨u, h3, this, h5⟩
   ·
    rw [regrow_ne e', Option.map_eq_some_iff] at h1
    obtain ⟨o, h6, h7⟩ := h1
    subst h7
    rw [upd_ne _ _ e']
    have := hrel.ob r' o h6
    cases hs' : σ r' with
    | none => rw [hs'] at this; simp only [this, Cl.without]
    | some gm =>
     obtain ⟨g', m'⟩ := gm
     rw [hs'] at this
     obtain ⟨h8, us', h9, h10, h11⟩ := this
     refine ⟨h8, us', by rw [hg.block g' (hold r' o g' m' h6 hs') (hnr r' o g' m' e' h6 hs').1]; exact h9, h10, fun p x hp => ?_⟩
     obtain ⟨z, h12, rfl⟩ := Cl.at_without hp
     obtain ⟨u, h13, h14, h15⟩ := h11 p z h12
     exact ⟨u, h13, hst h14, h15⟩
 refine ⟨⟨hwf, h.defers, h.size, ?_, _, hrel2⟩, hrel2⟩
 refine h.below.grown hg h.below.size (fun k hk => ?_)
 obtain ⟨m0, h4⟩ := hrow k hk
 have := hrel.ob r ob0 hr0
 rw [h4] at this
 exact this.1
end Ab
/- Operations over values: what each one comes to, and what has to hold for it. -/
namespace Ab
open Go Go.RowKit
set_option linter.unusedVariables false
inductive TK where
 | int (k : IntKind) | bool | slice (e : TypeId) | ptr | struct (fs : List (Nat × Nat)) | fn
structure TI where
 k : TK
 size : Nat
 bytes : Nat
 zero : D
def zok1 : D → Value → Bool
 | .int k n, .int k' n' => k == k' && n == n'
 | .bool b, .bool b' => b == b'
 | .nilp, .pointer none => true
 | .nils, .slice none 0 0 => true
 | _, _ => false
def zok : D → Value → Bool
 | .agg cs, .agg vs => cs.length == vs.size && (List.range cs.length).all fun i => match cs[i]?, vs[i]? with
  | some x, some v => zok1 x v
  | _, _ => false
 | x, v => zok1 x v
def kOk (P : Program) : TypeDesc → TK → Bool
 | .int a, .int b => a == b
 | .bool, .bool => true
 | .slice e, .slice e' => e == e'
 | .pointer _, .ptr => true
 | .struct fs, .struct l => (fs.toList.map fun f => (f.offset, ((P.info? f.type).map (·.size)).getD 0)) == l && l.all fun p => decide (0 < p.2)
 | .func .., .fn => true
 | _, _ => false
def tiOk (P : Program) (t : TypeId) (i : TI) : Bool := match P.underlying t, P.info? t with
 | some u, some f => kOk P u i.k && f.size == i.size && f.bytes == i.bytes && match f.zero with
  | some z => zok i.zero z && decide (0 < i.size ∧ i.zero.cells.length = i.size)
  | none => false
 | _, _ => false
abbrev TT := TypeId → Option TI
def kind (T : TT) (t : TypeId) : Option TK := (T t).map (·.k)
def TOk (P : Program) (T : TT) : Prop := ∀ t i, T t = some i → tiOk P t i = true
/-- the functions that are entered: those with a body -/
def enterOk (P : Program) (f : FuncId) : Bool := match P.funcs[f]? with
 | some fn => fn.body.isSome && !(fn.name == "runtime.NumGoroutine")
 | none => false
/-- the function f, called with data that reads as args, returns what reads as r; all that was there stays as it was -/
def Spec (P : Program) (f : FuncId) (args : List D) (r : D) : Prop :=
 enterOk P f = true ∧ ∀ (w : World) (vs : Array Value) (ok : Nat → Prop), vs.size = args.length → (∀ (i : Nat) (x : D), args[i]? = some x → ∃ v, vs[i]? = some v ∧ RD w ok x v) → (∀ k, ok k → k < w.heap.size) →
  Calls P f vs w fun e w' => Below w.heap.size w w' ∧ ∃ v, e = .returned v ∧ RD w' (fun k => k < w'.heap.size ∧ (k < w.heap.size → ok k)) r v
/-- what an operation comes to -/
inductive Comp where
 | val (v : AV) (lk : List Nat)
 | new (ob : Ob) (v : Nat → AV)
 | set (r p : Nat) (xs : List AV) (lk : List Nat)
 | grow (r : Nat) (ob : Ob) (v : AV) (lk : List Nat)
 | need (p : Prop) (c : Comp)
 | br (b : Bool) (c d : Comp)
 | call (f : FuncId) (args : List D) (lk : List Nat)
 | fail
def AS.lk (st : AS) : List Nat → AS
 | [] => st
 | L => st.leak L
def AS.setl (st : AS) (r : Nat) : Nat → List AV → AS
 | _, [] => st
 | p, x :: xs => (st.setc r p x).setl r (p + 1) xs
def Comp.wp (P : Program) (dst : Option Nat) (st : AS) (K : AS → Prop) : Comp → Prop
 | .val v L => K ((st.lk L).put dst v)
 | .new ob v => match dst with
  | some d => st.H d = none ∧ K ((st.new d ob).put (some d) (v d))
  | none => False
 | .set r p xs L => dst = none ∧ K ((st.lk L).setl r p xs)
 | .grow r ob v L => K (((st.lk L).regrow r ob).put dst v)
 | .need p c => p ∧ c.wp P dst st K
 | .br b c d => (b = true → c.wp P dst st K) ∧ (b = false → d.wp P dst st K)
 | .call f args L => ∃ r, Spec P f args r ∧ K ((st.lk L).put dst (.d r))
 | .fail => False
def cD : Value → AV
 | .int k n => .d (.int k n)
 | .bool b => .d (.bool b)
 | .slice none 0 0 => .d .nils
 | .pointer none => .d .nilp
 | _ => .junk
def AS.ev (st : AS) : Operand → AV
 | .tmp t => st.tm t
 | .const v => cD v
 | .func f => .d (.fn f [])
 | .global _ => .junk
def snap1 (st : AS) : AV → Option D
 | .d x => some x
 | .osl r off n sz _ => match st.H r with
  | some ob => match ob.cs with
   | .d l => some (.sl n ((l.drop off).take (n * sz)))
   | .a _ => none
  | none => none
 | _ => none
def snapL (st : AS) : List AV → Option (List D)
 | [] => some []
 | x :: xs => match snap1 st x, snapL st xs with
  | some y, some ys => some (y :: ys)
  | _, _ => none
def snap (st : AS) : AV → Option D
 | .optr r off => match st.H r with
  | some ob => match ob.cs with
   | .d l => some (.ptr off l)
   | .a l => (snapL st l).map (.ptr off)
  | none => none
 | x => snap1 st x
def nms (l : List AV) : List Nat := l.filterMap AV.names
def lks (st : AS) : AV → List Nat
 | .optr r _ => r :: match st.H r with
  | some ob => match ob.cs with
   | .a l => nms l
   | .d _ => []
  | none => []
 | .osl r _ _ _ _ => [r]
 | _ => []
def snaps (st : AS) : List AV → Option (List D)
 | [] => some []
 | x :: xs => match snap st x, snaps st xs with
  | some y, some ys => some (y :: ys)
  | _, _ => none
def lkss (st : AS) (l : List AV) : List Nat := l.flatMap (lks st)
def inI64 (n : Int) : Prop := -9223372036854775808 ≤ n ∧ n < 9223372036854775808
/-- arithmetic: ints must stay in their range; other kinds wrap -/
def arith (k : IntKind) (n : Int) : Comp := match k with
 | .i64 => .need (inI64 n) (.val (.d (.int .i64 n)) [])
 | k => .val (.d (.int k (k.wrap n))) []
def bl (b : Bool) : Comp := .val (.d (.bool b)) []
/-- a bool that is told at once: the two ways part here -/
def cb (b : Bool) : Comp := .br b (bl true) (bl false)
/-- whether a row is nil, a pointer; and under what condition this is known -/
def isNilS : AV → Option (Bool × Prop)
 | .d .nils => some (true, True)
 | .d (.sl _ cs) => some (false, cs ≠ [])
 | .osl _ _ n _ _ => some (false, n ≠ 0)
 | _ => none
def isNilP : AV → Option (Bool × Prop)
 | .d .nilp => some (true, True)
 | .d (.ptr ..) | .optr .. => some (false, True)
 | _ => none
def absNil (op : BinOp) : Option (Bool × Prop) → Comp
 | some (b, p) => match op with
  | .eql => .need p (bl b)
  | .neq => .need p (bl (!b))
  | _ => .fail
 | none => .fail
def absBin (op : BinOp) (k : TK) (x y : AV) : Comp := match x, y with
 | .d (.int k a), .d (.int k' b) => if k = k' then match op with
   | .add => arith k (a + b)
   | .sub => arith k (a - b)
   | .mul => arith k (a * b)
   | .quo => .need (b ≠ 0) (.val (.d (.int k (k.wrap (a.tdiv b)))) [])
   | .rem => .need (b ≠ 0) (.val (.d (.int k (a.tmod b))) [])
   | .eql => cb (decide (a = b))
   | .neq => cb (!decide (a = b))
   | .lss => cb (decide (a < b))
   | .leq => cb (decide (a ≤ b))
   | .gtr => cb (decide (a > b))
   | .geq => cb (decide (a ≥ b))
   | .xor => .val (.d (.int k (Go.bits .xor k a b))) []
   | .and => .val (.d (.int k (Go.bits .and k a b))) []
   | .or => .val (.d (.int k (Go.bits .or k a b))) []
   | _ => .fail
  else .fail
 | .d (.bool a), .d (.bool b) => match op, k with
   | .eql, .bool => cb (a == b)
   | .neq, .bool => cb (!(a == b))
   | _, _ => .fail
 | x, .d .nils => match k with
   | .slice _ => absNil op (isNilS x)
   | _ => .fail
 | x, .d .nilp => match k with
   | .ptr => absNil op (isNilP x)
   | _ => .fail
 | _, _ => .fail
/-- all parts are constants: the row stays the function's own -/
def constParts (l : List (Nat × Operand)) : Bool := l.all fun p => match p.2 with
 | .const _ => true
 | _ => false
/-- the parts of a struct or of a row, laid over its zero cells -/
def D.cl (n : Nat) (x : D) : List D := bif Nat.beq n 1 then [x] else x.cells
/-- the parts that have one cell -/
def ones (place : Nat → Option (Nat × Nat)) : List (Nat × D) → List D
 | [] => []
 | (i, x) :: rest => match place i with
  | some (_, n) => bif Nat.beq n 1 then x :: ones place rest else ones place rest
  | none => ones place rest
def fillD (place : Nat → Option (Nat × Nat)) (cells : List D) : List (Nat × D) → Option (List D)
 | [] => some cells
 | (i, x) :: rest => match place i with
  | some (off, size) => if (x.cl size).length = size ∧ off + size ≤ cells.length then fillD place (cells.take off ++ x.cl size ++ cells.drop (off + size)) rest else none
  | none => none
def partsD (st : AS) : List (Nat × Operand) → Option (List (Nat × D))
 | [] => some []
 | (i, x) :: rest => match snap st (st.ev x), partsD st rest with
  | some y, some ys => some ((i, y) :: ys)
  | _, _ => none
def loadD (i : TI) (off : Nat) (cs : List D) (L : List Nat) : Comp := match i.k with
 | .struct _ => .need (off + i.size ≤ cs.length ∧ ((cs.drop off).take i.size).all D.one = true) (.val (.d (.agg ((cs.drop off).take i.size))) L)
 | _ => .need (off < cs.length) (.val (.d (cs.getD off default)) L)
def absLoad (st : AS) (i : TI) : AV → Comp
 | .d (.ptr off cs) => loadD i off cs []
 | .optr r off => match st.H r with
  | some ob => match ob.cs with
   | .d l => loadD i off l []
   | .a l => match i.k with
    | .struct _ => match snapL st l with
     | some ds => loadD i off ds (nms l)
     | none => .fail
    | _ => match l[off]? with
     | some x => .val x []
     | none => .fail
  | none => .fail
 | _ => .fail
def Cl.len : Cl → Nat
 | .d l => l.length
 | .a l => l.length
def absStore (st : AS) (i : TI) : AV → AV → Comp
 | .optr r off, x => match st.H r with
  | some ob => match x with
   | .d y => .need (ob.lk = false ∧ (y.cl i.size).length = i.size ∧ off + i.size ≤ ob.cs.len ∧ (y.cl i.size).all D.one = true) (.set r off ((y.cl i.size).map .d) [])
   | x => match ob.cs with
    | .a l => .need (ob.lk = false ∧ i.size = 1 ∧ off < l.length ∧ x.names ≠ none) (.set r off [x] [])
    | .d l => match snap1 st x with
     | some y => .need (ob.lk = false ∧ i.size = 1 ∧ off < l.length ∧ y.one = true ∧ ¬ r ∈ lks st x) (.set r off [.d y] (lks st x))
     | none => .fail
  | none => .fail
 | _, _ => .fail
def absIndex (sz : Nat) : AV → AV → Comp
 | .d (.sl n cs), .d (.int _ j) => .need (0 ≤ j ∧ j < n ∧ cs ≠ []) (.val (.d (.ptr (j.toNat * sz) cs)) [])
 | .osl r off n _ _, .d (.int _ j) => .need (0 ≤ j ∧ j < n) (.val (.optr r (off + j.toNat * sz)) [])
 | _, _ => .fail
def absField (o : Nat) : AV → Comp
 | .d (.ptr off cs) => .val (.d (.ptr (off + o) cs)) []
 | .optr r off => .val (.optr r (off + o)) []
 | _ => .fail
def absLen : AV → Comp
 | .d (.sl n _) => .val (.d (.int .i64 n)) []
 | .d .nils => .val (.d (.int .i64 0)) []
 | .osl _ _ n _ _ => .val (.d (.int .i64 n)) []
 | _ => .fail
/-- xs[l:h] -/
def absSlice (sz : Nat) (x : AV) (l h : Option AV) : Comp :=
 let cut (n : Nat) (k : Nat → Nat → Comp) : Comp :=
  match (match l with | none => some (0 : Int) | some (.d (.int _ j)) => some j | _ => none), (match h with | none => some (n : Int) | some (.d (.int _ j)) => some j | _ => none) with
  | some l, some h => .need (0 ≤ l ∧ l ≤ h ∧ h ≤ n) (k l.toNat h.toNat)
  | _, _ => .fail
 match x with
 | .d (.sl n cs) => cut n fun l h => .val (.d (.sl (h - l) ((cs.drop (l * sz)).take ((h - l) * sz)))) []
 | .osl r off n sz' _ => cut n fun l h => .need (sz' = sz ∧ (l < h ∨ l = 0)) (.val (.osl r (off + l * sz) (h - l) sz false) [])
 | _ => .fail
def absAppend (st : AS) (dst : Option Nat) (e : TypeId) (i : TI) (s x : AV) : Comp :=
 let grown (r n : Nat) (l : List D) (lk : Bool) : Comp := match x with
  | .d .nils => .val s []
  | x => match snap1 st x with
   | some (.sl m cs) => .need (lk = false ∧ l.length = n * i.size ∧ cs.length = m * i.size ∧ 0 < m ∧ (n + m) * i.bytes ≤ 140737488355328 ∧ n + m ≤ maxLen ∧ cs.all D.one = true ∧ ¬ r ∈ lks st x)
     (.grow r ⟨e, .d (l ++ cs), false⟩ (.osl r 0 (n + m) i.size true) (lks st x))
   | _ => .fail
 match s with
 | .d .nils => match dst with
  | some d => .need (st.H d = none) (grown d 0 [] false)
  | none => .fail
 | .osl r 0 n sz true => match st.H r with
  | some ob => match ob.cs with
   | .d l => .need (sz = i.size ∧ ob.e = e) (grown r n l ob.lk)
   | .a _ => .fail
  | none => .fail
 | _ => .fail
def mx2 : AV → AV → Option Int
 | .d (.int .i64 a), .d (.int .i64 b) => some (if b > a then b else a)
 | _, _ => none
def mn2 : AV → AV → Option Int
 | .d (.int .i64 a), .d (.int .i64 b) => some (if b < a then b else a)
 | _, _ => none
def absCall (T : TT) (st : AS) (dst : Option Nat) (c : Call) : Comp := match c.callee with
 | .value f => match st.ev f with
  | .d (.fn f caps) => match snaps st (c.args.toList.map st.ev) with
   | some ds => .call f (ds ++ caps) (lkss st (c.args.toList.map st.ev))
   | none => .fail
  | _ => .fail
 | .builtin .len => match c.args.toList, c.argTypes.toList with
  | [x], [t] => match kind T t with
   | some (.slice _) => absLen (st.ev x)
   | _ => .fail
  | _, _ => .fail
 | .builtin .max => match c.args.toList with
  | [x, y] => match mx2 (st.ev x) (st.ev y) with
   | some n => .val (.d (.int .i64 n)) []
   | none => .fail
  | _ => .fail
 | .builtin .min => match c.args.toList with
  | [x, y] => match mn2 (st.ev x) (st.ev y) with
   | some n => .val (.d (.int .i64 n)) []
   | none => .fail
  | _ => .fail
 | .builtin .append => match c.args.toList, c.argTypes.toList with
  | [s, x], [t, t'] => if t = t' then match kind T t with
   | some (.slice e) => match T e with
    | some i => absAppend st dst e i (st.ev s) (st.ev x)
    | none => .fail
   | _ => .fail
   else .fail
  | _, _ => .fail
 | _ => .fail
def absOp (T : TT) (st : AS) (o : Oper) : Comp := match o.op with
 | .move x | .assign x => .val (st.ev x) []
 | .pick c x y => match st.ev c with
  | .d (.bool b) => .val (bif b then st.ev x else st.ev y) []
  | _ => .fail
 | .alloc t => match T t with
  | some i => .new ⟨t, .a (i.zero.cells.map .d), false⟩ (.optr · 0)
  | none => .fail
 | .box t x => match T t with
  | some i => match st.ev x with
   | .d y => .need ((y.cl i.size).all D.one = true) (.new ⟨t, .a ((y.cl i.size).map .d), false⟩ (.optr · 0))
   | .osl r off n sz wh => .new ⟨t, .a [.osl r off n sz wh], false⟩ (.optr · 0)
   | _ => .fail
  | none => .fail
 | .build t parts => match T t with
  | some i => match i.k, partsD st parts.toList with
   | .struct fs, some ps => match fillD (fs[·]?) i.zero.cells ps with
    | some cs => .need ((ones (fs[·]?) ps).all D.one = true ∧ cs.all D.one = true) (.val (.d (.agg cs)) (lkss st (parts.toList.map fun p => st.ev p.2)))
    | none => .fail
   | _, _ => .fail
  | none => .fail
 | .buildSlice t len parts => match kind T t with
  | some (.slice e) => match T e, partsD st parts.toList with
   | some i, some ps => match fillD (fun j => some (j * i.size, i.size)) (List.replicate len i.zero.cells).flatten ps with
    | some cs => bif constParts parts.toList then .need ((ones (fun j => some (j * i.size, i.size)) ps).all D.one = true ∧ cs.all D.one = true ∧ len * i.size ≤ 16777216 ∧ len ≤ maxLen) (.new ⟨e, .d cs, false⟩ (.osl · 0 len i.size true))
     else .need ((ones (fun j => some (j * i.size, i.size)) ps).all D.one = true ∧ cs.all D.one = true ∧ len * i.size ≤ 16777216) (.val (.d (.sl len cs)) (lkss st (parts.toList.map fun p => st.ev p.2)))
    | none => .fail
   | _, _ => .fail
  | _ => .fail
 | .load t x => match T t with
  | some i => absLoad st i (st.ev x)
  | none => .fail
 | .store t p x => match T t with
  | some i => absStore st i (st.ev p) (st.ev x)
  | none => .fail
 | .binOp op t x y _ => match kind T t with
  | some k => absBin op k (st.ev x) (st.ev y)
  | none => .fail
 | .unOp .not _ x => match st.ev x with
  | .d (.bool b) => bl (!b)
  | _ => .fail
 | .unOp .neg _ x => match st.ev x with
  | .d (.int k n) => arith k (0 - n)
  | _ => .fail
 | .convert s t x => match kind T s, kind T t, st.ev x with
  | some (.int _), some (.int k), .d (.int _ n) => .val (.d (.int k (k.wrap n))) []
  | _, _, _ => .fail
 | .makeSlice t x y => match kind T t with
  | some (.slice e) => match T e, st.ev x, st.ev y with
   | some i, .d (.int _ n), .d (.int _ c) => .need (0 ≤ n ∧ n ≤ c ∧ i.bytes * c ≤ 281474976710656 ∧ c ≤ 9223372036854775807)
     (.new ⟨e, .d (List.replicate n.toNat i.zero.cells).flatten, false⟩ (.osl · 0 n.toNat i.size true))
   | _, _, _ => .fail
  | _ => .fail
 | .slice t x l h none => match kind T t with
  | some (.slice e) => match T e with
   | some i => absSlice i.size (st.ev x) (l.map st.ev) (h.map st.ev)
   | none => .fail
  | _ => .fail
 | .fieldAddr t x f => match kind T t with
  | some (.struct fs) => match fs[f]? with
   | some p => absField p.1 (st.ev x)
   | none => .fail
  | _ => .fail
 | .indexAddr t x j => match kind T t with
  | some (.slice e) => match T e with
   | some i => absIndex i.size (st.ev x) (st.ev j)
   | none => .fail
  | _ => .fail
 | .extract x i => match st.ev x with
  | .d (.tup xs) => match xs[i]? with
   | some y => .val (.d y) []
   | none => .fail
  | _ => .fail
 | .makeFunc (.func f) first caps => if first.isEmpty then match snaps st (caps.toList.map st.ev) with
   | some ds => .val (.d (.fn f ds)) (lkss st (caps.toList.map st.ev))
   | none => .fail
  else .fail
 | .call c => absCall T st o.dst c
 | _ => .fail
end Ab
/- The operations over values are what the machine does: data read, values, loads. -/
namespace Ab
open Go Go.RowKit
set_option linter.unusedVariables false
variable {P : Program} {T : TT} {w0 w w' : World} {ok0 : Nat → Prop} {st : AS} {a : Act} {o : Oper} {K : AS → Prop} {Q : Exit → Act → World → Prop} {σ : Nat → Option (Nat × Nat)}
theorem lk_H_ne {L : List Nat} {r : Nat} : (st.lk L).H r ≠ none ↔ st.H r ≠ none := by
 cases L with
 | nil => exact Iff.rfl
 | cons x xs => exact leak_ne
theorem live_lk {L : List Nat} {x : AV} (h : live st x) : live (st.lk L) x := fun r hr => lk_H_ne.2 (h r hr)
theorem okS_lk {L : List Nat} {k : Nat} (h : okS w0 ok0 st σ w k) : okS w0 ok0 (st.lk L) σ w k := by
 cases L with
 | nil => exact h
 | cons x xs => exact okS_leak h
theorem Rel.lk (L : List Nat) (h : Rel w0 ok0 st a w) : Rel w0 ok0 (st.lk L) a w := by
 cases L with
 | nil => exact h
 | cons x xs => exact h.leak _
/-- an object that is given away may be looked at -/
theorem okS_own {L : List Nat} {r g m : Nat} (h : Rel' w0 ok0 st a w σ) (hL : r ∈ L) (hr : st.H r ≠ none) (hs : σ r = some (g, m)) : okS w0 ok0 (st.lk L) σ w g := by
 obtain ⟨ob, hob⟩ := Option.ne_none_iff_exists'.1 hr
 have := h.ob r ob hob
 rw [hs] at this
 obtain ⟨h1, us, h2, _⟩ := this
 refine ⟨fun h3 => by omega, (Array.getElem?_eq_some_iff.1 h2).1, fun r' ob' g' m' h3 h4 h5 e => ?_⟩
 subst e
 cases L with
 | nil => cases hL
 | cons x xs =>
  have h6 : (st.leak (x :: xs)).H r' = some ob' := h3
  obtain ⟨ob2, h7, _⟩ := leak_some h6
  have he := h.inj r' r g m' m (by rw [h7]; simp) hr h5 hs
  subst he
  have h8 : (st.H r').map (fun ob => if (x :: xs).contains r' then { ob with lk := true } else ob) = some ob' := h6
  rw [h7, Option.map_some, if_pos (by simpa using hL)] at h8
  cases h8; cases h4
theorem cell_row {g off p : Nat} {us : Array Value} {e : TypeId} (h : w.heap[g]? = some (.cells us e (0, 0))) : w.cell? ((⟨g, off, none⟩ : Addr).add p) = us[off + p]? := by
 have : (⟨g, off, none⟩ : Addr).add p = ⟨g, off + p, none⟩ := by unfold Addr.add; split <;> simp_all
 rw [this, cell_of_row w g (off + p) us e (0, 0) h]
theorem snap1_RD {L : List Nat} {x : AV} {v : Value} {y : D} (h : Rel' w0 ok0 st a w σ) (hx : RV w (okS w0 ok0 st σ w) σ x v) (hs : snap1 st x = some y) (hL : ∀ r, x.names = some r → r ∈ L) : RD w (okS w0 ok0 (st.lk L) σ w) y v := by
 cases x with
 | d z =>
  simp only [snap1, Option.some.injEq] at hs
  subst hs
  exact RD.mono hx (fun k hk => okS_lk hk)
 | osl r off n sz wh =>
  simp only [snap1] at hs
  split at hs
  ·
   rename_i ob hob
   split at hs
   ·
    rename_i l hl
    simp only [Option.some.injEq] at hs
    subst hs
    have hob2 := h.ob r ob hob
    simp only [RV] at hx
    cases hσ : σ r with
    | none =>
     rw [hσ] at hx hob2
     obtain ⟨rfl, rfl, rfl⟩ := hx
     rw [hl] at hob2
     cases hob2
     exact .sl 0 _ none 0 (fun _ => undef) (Nat.le_refl _) (fun h => absurd (by simp) h) (fun p x hp => by simp at hp)
    | some gm =>
     obtain ⟨g, m⟩ := gm
     rw [hσ] at hx hob2
     obtain ⟨c, rfl, h1, h2, h3, h4⟩ := hx
     obtain ⟨h5, us, h6, h7, h8⟩ := hob2
     have hcell : ∀ (p : Nat) (x : D), ((l.drop off).take (n * sz))[p]? = some x → ∃ u, us[off + p]? = some u ∧ RV w (okS w0 ok0 st σ w) σ (.d x) u := fun p x hp => by
      have hp' : l[off + p]? = some x := by
       rw [List.getElem?_take] at hp
       split at hp
       ·
        rwa [List.getElem?_drop] at hp
       ·
        cases hp
      obtain ⟨u, h9, h10, _⟩ := h8 (off + p) (.d x) (by rw [hl]; simp [Cl.at, hp'])
      exact ⟨u, h9, h10⟩
     refine .sl n _ _ c (fun p => us.getD (off + p) undef) h1 (fun hne => ⟨⟨g, off, none⟩, rfl, okS_own h (hL r rfl) (by rw [hob]; simp) hσ, fun p hp => ?_⟩) (fun p x hp => ?_)
     ·
      obtain ⟨u, h9, _⟩ := hcell p _ (List.getElem?_eq_getElem hp)
      rw [cell_row h6, h9]; simp [h9]
     ·
      obtain ⟨u, h9, h10⟩ := hcell p x hp
      have : us.getD (off + p) undef = u := by simp [h9]
      rw [this]
      exact RD.mono h10 (fun k hk => okS_lk hk)
   ·
    cases hs
  ·
   cases hs
 | _ => simp [snap1] at hs
theorem snapL_get {l : List AV} : ∀ {ds : List D}, snapL st l = some ds → ds.length = l.length ∧ ∀ (p : Nat) y, ds[p]? = some y → ∃ x, l[p]? = some x ∧ snap1 st x = some y := by
 induction l with
 | nil => intro ds h; simp only [snapL, Option.some.injEq] at h; subst h; exact ⟨rfl, fun p y hp => by simp at hp⟩
 | cons x xs ih =>
  intro ds h
  simp only [snapL] at h
  split at h
  ·
   rename_i y ys h1 h2
   simp only [Option.some.injEq] at h
   subst h
   obtain ⟨h3, h4⟩ := ih h2
   refine ⟨by simp [h3], fun p z hp => ?_⟩
   cases p with
   | zero => simp at hp; subst hp; exact ⟨x, rfl, h1⟩
   | succ p => simpa using h4 p z (by simpa using hp)
  ·
   cases h
theorem mem_nms {l : List AV} {x : AV} (h : x ∈ l) {r : Nat} (hr : x.names = some r) : r ∈ nms l := List.mem_filterMap.2 ⟨x, h, hr⟩
/-- the cells of an own object, as data -/
theorem cells_RD {L : List Nat} {r g m off : Nat} {ob : Ob} {ds : List D} (h : Rel' w0 ok0 st a w σ) (hr : st.H r = some ob) (hs : σ r = some (g, m)) (hrL : r ∈ L) (hds : ob.cs = .d ds ∨ ∃ l, ob.cs = .a l ∧ snapL st l = some ds ∧ ∀ q ∈ nms l, q ∈ L) : RD w (okS w0 ok0 (st.lk L) σ w) (.ptr off ds) (.pointer (some ⟨g, off, none⟩)) := by
 have hob := h.ob r ob hr
 rw [hs] at hob
 obtain ⟨h5, us, h6, h7, h8⟩ := hob
 have hcell : ∀ (p : Nat) (x : D), ds[p]? = some x → ∃ u, us[p]? = some u ∧ RD w (okS w0 ok0 (st.lk L) σ w) x u := fun p x hp => by
  rcases hds with h9 | ⟨l, h9, h10, h11⟩
  ·
   obtain ⟨u, h12, h13, _⟩ := h8 p (.d x) (by rw [h9]; simp [Cl.at, hp])
   exact ⟨u, h12, RD.mono h13 (fun k hk => okS_lk hk)⟩
  ·
   obtain ⟨_, h12⟩ := snapL_get h10
   obtain ⟨y, h13, h14⟩ := h12 p x hp
   obtain ⟨u, h15, h16, _⟩ := h8 p y (by rw [h9]; exact h13)
   exact ⟨u, h15, snap1_RD h h16 h14 (fun q hq => h11 q (mem_nms (List.mem_of_getElem? h13) hq))⟩
 have e : (⟨g, off, none⟩ : Addr) = (⟨g, 0, none⟩ : Addr).add off := by unfold Addr.add; split <;> simp_all
 rw [e]
 refine .ptr off ds ⟨g, 0, none⟩ (fun p => us.getD p undef) (okS_own h hrL (by rw [hr]; simp) hs) (fun p hp => ?_) (fun p x hp => ?_)
 ·
  obtain ⟨u, h9, _⟩ := hcell p _ (List.getElem?_eq_getElem hp)
  rw [cell_row h6, Nat.zero_add, h9]; simp [h9]
 ·
  obtain ⟨u, h9, h10⟩ := hcell p x hp
  have : us.getD p undef = u := by simp [h9]
  rw [this]; exact h10
theorem snap_RD {L : List Nat} {x : AV} {v : Value} {y : D} (h : Rel' w0 ok0 st a w σ) (hx : RV w (okS w0 ok0 st σ w) σ x v) (hs : snap st x = some y) (hL : ∀ r ∈ lks st x, r ∈ L) : RD w (okS w0 ok0 (st.lk L) σ w) y v := by
 cases x with
 | optr r off =>
  simp only [snap] at hs
  simp only [lks] at hL
  simp only [RV] at hx
  split at hs
  ·
   rename_i ob hob
   rw [hob] at hL
   split at hx
   ·
    rename_i g m hσ
    subst hx
    split at hs
    ·
     rename_i l hl
     simp only [Option.some.injEq] at hs
     subst hs
     exact cells_RD h hob hσ (hL r (by simp)) (.inl hl)
    ·
     rename_i l hl
     simp only [Option.map_eq_some_iff] at hs
     obtain ⟨ds, h1, rfl⟩ := hs
     simp only [hl] at hL
     exact cells_RD h hob hσ (hL r (by simp)) (.inr ⟨l, hl, h1, fun q hq => hL q (by simp [hq])⟩)
   ·
    exact hx.elim
  ·
   cases hs
 | d z => exact snap1_RD h hx hs (fun r hr => by cases hr)
 | osl r off n sz wh => exact snap1_RD h hx hs (fun r' hr => by cases hr; exact hL r (by simp [lks]))
 | und => simp [snap, snap1] at hs
 | junk => simp [snap, snap1] at hs
theorem cD_RV {ok : Nat → Prop} (v : Value) : RV w ok σ (cD v) v := by
 unfold cD
 split
 ·
  exact .int _ _
 ·
  exact .bool _
 ·
  exact .nils
 ·
  exact .nilp
 ·
  trivial
theorem cD_live (v : Value) : live st (cD v) := by
 intro r hr
 unfold cD at hr
 split at hr <;> cases hr
theorem ev_RV (h : Rel' w0 ok0 st a w σ) (x : Operand) : RV w (okS w0 ok0 st σ w) σ (st.ev x) (a.eval x) := by
 cases x with
 | tmp t => exact h.tm t
 | const v => exact cD_RV v
 | func f => exact .fn f [] #[] (fun _ => undef) rfl (fun i hi => absurd hi (by simp)) (fun i x hx => by simp at hx)
 | global g => trivial
theorem ev_live (h : WF st) (x : Operand) : live st (st.ev x) := by
 cases x with
 | tmp t => exact h.tm t
 | const v => exact cD_live v
 | func f => intro r hr; cases hr
 | global g => intro r hr; cases hr
/-- an operation that yields a value and leaves the world -/
theorem val_wp {v : Value} {x : AV} {L : List Nat} (hrun : (execOp a.eval o).run P w = .ok (.value v) w) (h : Rel w0 ok0 st a w) (hr : Rel' w0 ok0 st a w σ) (hl : live st x) (hv : RV w (okS w0 ok0 (st.lk L) σ w) σ x v)
  (hK : K ((st.lk L).put o.dst x)) : o.wp P a w (fun a' w' => ∃ st', K st' ∧ Rel w0 ok0 st' a' w') Q := by
 unfold Oper.wp
 rw [hrun]
 have hw : WF (st.lk L) := (h.lk L).wf
 refine ⟨_, hK, ?_⟩
 obtain ⟨h1, h2, h3, h4, _⟩ := h.lk L
 have hr2 : Rel' w0 ok0 (st.lk L) a w σ := by
  cases L with
  | nil => exact hr
  | cons y ys =>
   refine ⟨fun r r' g m m' e1 e2 => hr.inj r r' g m m' (leak_ne.1 e1) (leak_ne.1 e2), fun r ob e1 => ?_, fun t => (hr.tm t).step (fun k hk _ => ⟨okS_leak hk, rfl⟩) (fun k hk => .inr (okS_leak hk))⟩
   obtain ⟨ob', e2, e3, e4, _⟩ := leak_some e1
   have := hr.ob r ob' e2
   rw [e3, e4]
   cases hs : σ r with
   | none => rw [hs] at this; exact this
   | some gm =>
    obtain ⟨g, m⟩ := gm
    rw [hs] at this
    obtain ⟨e5, us, e6, e7, e8⟩ := this
    refine ⟨e5, us, e6, e7, fun p z hp => ?_⟩
    obtain ⟨u, e9, e10, e11⟩ := e8 p z hp
    exact ⟨u, e9, e10.step (fun k hk _ => ⟨okS_leak hk, rfl⟩) (fun k hk => .inr (okS_leak hk)), e11⟩
 exact ⟨hw.put (live_lk hl), by rw [act_put_defers]; exact h2, by rw [act_put_size]; exact h3, h4, σ, hr2.put h3 hv⟩
/-! ### types -/
theorem ti_info (hT : TOk P T) {t : TypeId} {i : TI} (h : T t = some i) : ∃ f, P.info? t = some f ∧ f.size = i.size ∧ f.bytes = i.bytes ∧ (0 < i.size ∧ i.zero.cells.length = i.size) ∧ (∃ u, P.underlying t = some u ∧ kOk P u i.k = true) ∧ ∃ z, f.zero = some z ∧ zok i.zero z = true := by
 have := hT t i h
 unfold tiOk at this
 split at this
 ·
  rename_i u f h1 h2
  simp only [Bool.and_eq_true, beq_iff_eq] at this
  obtain ⟨⟨⟨h3, h4⟩, h5⟩, h6⟩ := this
  split at h6
  ·
   rename_i z hz
   simp only [Bool.and_eq_true, decide_eq_true_eq] at h6
   exact ⟨f, h2, h4, h5, h6.2, ⟨u, h1, h3⟩, z, hz, h6.1⟩
  ·
   cases h6
 ·
  cases this
theorem kind_some {t : TypeId} {k : TK} (h : kind T t = some k) : ∃ i, T t = some i ∧ i.k = k := by
 simp only [kind, Option.map_eq_some_iff] at h
 exact h
theorem kind_slice (hT : TOk P T) {t e : TypeId} (h : kind T t = some (.slice e)) : P.underlying t = some (.slice e) := by
 obtain ⟨i, h1, h2⟩ := kind_some h
 obtain ⟨f, _, _, _, _, ⟨u, h3, h4⟩, _⟩ := ti_info hT h1
 rw [h2] at h4
 cases u <;> simp [kOk] at h4
 rw [h3, h4]
theorem kind_int (hT : TOk P T) {t : TypeId} {k : IntKind} (h : kind T t = some (.int k)) : P.underlying t = some (.int k) := by
 obtain ⟨i, h1, h2⟩ := kind_some h
 obtain ⟨f, _, _, _, _, ⟨u, h3, h4⟩, _⟩ := ti_info hT h1
 rw [h2] at h4
 cases u <;> simp [kOk] at h4
 rw [h3, h4]
theorem kind_struct (hT : TOk P T) {t : TypeId} {l : List (Nat × Nat)} (h : kind T t = some (.struct l)) : ∃ fs, P.underlying t = some (.struct fs) ∧ (fs.toList.map fun f => (f.offset, ((P.info? f.type).map (·.size)).getD 0)) = l ∧ ∀ p ∈ l, 0 < p.2 := by
 obtain ⟨i, h1, h2⟩ := kind_some h
 obtain ⟨f, _, _, _, _, ⟨u, h3, h4⟩, _⟩ := ti_info hT h1
 rw [h2] at h4
 cases u <;> simp [kOk] at h4
 rename_i fs
 exact ⟨fs, h3, h4.1, fun p hp => h4.2 p.1 p.2 hp⟩
def TK.isS : TK → Bool
 | .struct _ => true
 | _ => false
theorem run_isAgg (hT : TOk P T) {t : TypeId} {i : TI} (h : T t = some i) : (isAgg t).run P w = .ok i.k.isS w := by
 obtain ⟨f, _, _, _, _, ⟨u, h3, h4⟩, _⟩ := ti_info hT h
 unfold isAgg
 rw [Sem.run_bind, run_underlying h3 w]
 cases u <;> cases hk : i.k <;> rw [hk] at h4 <;> simp_all [kOk, TK.isS]
theorem run_sizeOf (hT : TOk P T) {t : TypeId} {i : TI} (h : T t = some i) : (Go.sizeOf t).run P w = .ok i.size w := by
 obtain ⟨f, h1, h2, _⟩ := ti_info hT h
 simp [Go.sizeOf, typeInfo, h1, h2]
/-! ### zero values -/
theorem zok1_RD {ok : Nat → Prop} {x : D} {v : Value} (h : zok1 x v = true) : RD w ok x v ∧ x.one = true := by
 unfold zok1 at h
 split at h
 ·
  simp only [Bool.and_eq_true, beq_iff_eq] at h; obtain ⟨rfl, rfl⟩ := h; exact ⟨.int _ _, rfl⟩
 ·
  simp only [beq_iff_eq] at h; subst h; exact ⟨.bool _, rfl⟩
 ·
  exact ⟨.nilp, rfl⟩
 ·
  exact ⟨.nils, rfl⟩
 ·
  cases h
theorem zok_cells {ok : Nat → Prop} {x : D} {v : Value} (h : zok x v = true) : x.cells.length = v.cells.size ∧ ∀ (i : Nat) y, x.cells[i]? = some y → ∃ u, v.cells[i]? = some u ∧ RD w ok y u ∧ y.one = true := by
 unfold zok at h
 split at h
 ·
  rename_i cs vs
  simp only [Bool.and_eq_true, beq_iff_eq, List.all_eq_true, List.mem_range] at h
  obtain ⟨h1, h2⟩ := h
  refine ⟨h1, fun i y hy => ?_⟩
  simp only [D.cells] at hy
  have hi : i < cs.length := (List.getElem?_eq_some_iff.1 hy).1
  have := h2 i hi
  rw [hy] at this
  split at this
  ·
   rename_i x u e1 e2
   cases e1
   exact ⟨u, e2, zok1_RD this⟩
  ·
   cases this
 ·
  have h1 := zok1_RD (w := w) (ok := ok) h
  have hx : x.cells = [x] := by
   have := h1.2
   cases x <;> simp_all [D.cells, D.one]
  have hv : v.cells = #[v] := by
   have := RD.one h1.1 h1.2
   cases v <;> simp_all [Value.cells, Value.oneCell']
  rw [hx, hv]
  refine ⟨rfl, fun i y hy => ?_⟩
  cases i with
  | zero => simp at hy; subst hy; exact ⟨v, rfl, h1⟩
  | succ i => simp at hy
end Ab
/- Operations that yield values: what the machine runs. -/
namespace Ab
open Go Go.RowKit
set_option linter.unusedVariables false
variable {P : Program} {T : TT} {w0 w w' : World} {ok0 : Nat → Prop} {st : AS} {a : Act} {o : Oper} {K : AS → Prop} {Q : Exit → Act → World → Prop} {σ : Nat → Option (Nat × Nat)}
theorem exec_val {s : Sem Value} {v : Value} (h : execOp a.eval o = (do pure (.value (← s)))) (hs : s.run P w = .ok v w') : (execOp a.eval o).run P w = .ok (.value v) w' := by
 rw [h, Sem.run_bind, hs]; rfl
/-- loads from readable cells -/
theorem loadVar_one {ok : Nat → Prop} (hT : TOk P T) {t : TypeId} {i : TI} (h : T t = some i) (hk : i.k.isS = false) {off : Nat} {cs : List D} {a : Addr} {u : Nat → Value} (hcell : ∀ p, p < cs.length → w.cell? (a.add p) = some (u p)) (hr : ∀ (p : Nat) (x : D), cs[p]? = some x → RD w ok x (u p)) {y : D} (hy : cs[off]? = some y) :
  ∃ v, (loadVar t (a.add off)).run P w = .ok v w ∧ RD w ok y v := by
 have hagg := run_isAgg (w := w) hT h
 have h1 := (List.getElem?_eq_some_iff.1 hy).1
 refine ⟨u off, ?_, hr off _ hy⟩
 rw [hk] at hagg
 unfold loadVar
 rw [Sem.run_bind, hagg]
 simp [hcell off h1]
theorem loadVar_struct {ok : Nat → Prop} (hT : TOk P T) {t : TypeId} {i : TI} (h : T t = some i) (hk : i.k.isS = true) {off : Nat} {cs : List D} {a : Addr} {u : Nat → Value} (hcell : ∀ p, p < cs.length → w.cell? (a.add p) = some (u p)) (hr : ∀ (p : Nat) (x : D), cs[p]? = some x → RD w ok x (u p)) (h1 : off + i.size ≤ cs.length) (h3 : ((cs.drop off).take i.size).all D.one = true) :
  ∃ v, (loadVar t (a.add off)).run P w = .ok v w ∧ RD w ok (.agg ((cs.drop off).take i.size)) v := by
 have hagg := run_isAgg (w := w) hT h
 have hsz := run_sizeOf (w := w) hT h
 rw [hk] at hagg
 have hl := run_loadCells (P := P) w (a.add off) i.size (fun j => u (off + j)) (fun j hj => by rw [Deep.add_add]; exact hcell (off + j) (by omega))
 refine ⟨.agg ((List.range i.size).map fun j => u (off + j)).toArray, ?_, ?_⟩
 ·
  unfold loadVar
  rw [Sem.run_bind, hagg]
  simp [Sem.run_bind, hsz, hl]
 ·
  have hlen : ((cs.drop off).take i.size).length = i.size := by rw [List.length_take, List.length_drop]; omega
  refine .agg _ _ (fun j => u (off + j)) (by simp [hlen]) (fun j hj => ?_) (fun j x hx => ?_) (fun x hx => (List.all_eq_true.1 h3) x hx)
  ·
   rw [hlen] at hj; simp [hj]
  ·
   have hj : j < i.size := by
    have := (List.getElem?_eq_some_iff.1 hx).1
    rw [hlen] at this; exact this
   rw [List.getElem?_take, if_pos hj, List.getElem?_drop] at hx
   exact hr (off + j) x hx
theorem loadVar_RD {ok : Nat → Prop} (hT : TOk P T) {t : TypeId} {i : TI} (h : T t = some i) {off : Nat} {cs : List D} {a : Addr} {u : Nat → Value} (hcell : ∀ p, p < cs.length → w.cell? (a.add p) = some (u p)) (hr : ∀ (p : Nat) (x : D), cs[p]? = some x → RD w ok x (u p)) (L : List Nat) (c : Comp) (hc : loadD i off cs L = c) {dst : Option Nat} (hwp : c.wp P dst st K) :
  ∃ v y, (loadVar t (a.add off)).run P w = .ok v w ∧ RD w ok y v ∧ K ((st.lk L).put dst (.d y)) := by
 unfold loadD at hc
 split at hc
 ·
  rename_i l hk
  rw [← hc] at hwp
  obtain ⟨⟨h1, h3⟩, h2⟩ := hwp
  obtain ⟨v, h4, h5⟩ := loadVar_struct hT h (by rw [hk]; rfl) hcell hr h1 h3
  exact ⟨v, _, h4, h5, h2⟩
 ·
  rename_i hk
  rw [← hc] at hwp
  obtain ⟨h1, h2⟩ := hwp
  have hg : cs[off]? = some (cs.getD off default) := by rw [List.getD_eq_getElem?_getD, List.getElem?_eq_getElem h1]; rfl
  obtain ⟨v, h4, h5⟩ := loadVar_one hT h (by cases hik : i.k <;> first | rfl | exact absurd hik (hk _)) hcell hr hg
  exact ⟨v, _, h4, h5, h2⟩
/-- the cells of an own object -/
theorem own_cells {r g m : Nat} {ob : Ob} {L : List Nat} {ds : List D} (h : Rel' w0 ok0 st a w σ) (hr : st.H r = some ob) (hs : σ r = some (g, m)) (hds : ob.cs = .d ds ∨ ∃ l, ob.cs = .a l ∧ snapL st l = some ds ∧ ∀ q ∈ nms l, q ∈ L) :
  ∃ u : Nat → Value, (∀ p, p < ds.length → w.cell? ((⟨g, 0, none⟩ : Addr).add p) = some (u p)) ∧ ∀ (p : Nat) (x : D), ds[p]? = some x → RD w (okS w0 ok0 (st.lk L) σ w) x (u p) := by
 have hob := h.ob r ob hr
 rw [hs] at hob
 obtain ⟨h5, us, h6, h7, h8⟩ := hob
 have hcell : ∀ (p : Nat) (x : D), ds[p]? = some x → ∃ u, us[p]? = some u ∧ RD w (okS w0 ok0 (st.lk L) σ w) x u := fun p x hp => by
  rcases hds with h9 | ⟨l, h9, h10, h11⟩
  ·
   obtain ⟨u, h12, h13, _⟩ := h8 p (.d x) (by rw [h9]; simp [Cl.at, hp])
   exact ⟨u, h12, RD.mono h13 (fun k hk => okS_lk hk)⟩
  ·
   obtain ⟨_, h12⟩ := snapL_get h10
   obtain ⟨y, h13, h14⟩ := h12 p x hp
   obtain ⟨u, h15, h16, _⟩ := h8 p y (by rw [h9]; exact h13)
   exact ⟨u, h15, snap1_RD h h16 h14 (fun q hq => h11 q (mem_nms (List.mem_of_getElem? h13) hq))⟩
 refine ⟨fun p => us.getD p undef, fun p hp => ?_, fun p x hp => ?_⟩
 ·
  obtain ⟨u, h9, _⟩ := hcell p _ (List.getElem?_eq_getElem hp)
  rw [cell_row h6, Nat.zero_add, h9]; simp [h9]
 ·
  obtain ⟨u, h9, h10⟩ := hcell p x hp
  have : us.getD p undef = u := by simp [h9]
  show RD w _ x (us.getD p undef)
  rw [this]; exact h10
theorem addr0 (g off : Nat) : (⟨g, off, none⟩ : Addr) = (⟨g, 0, none⟩ : Addr).add off := by unfold Addr.add; split <;> simp_all
theorem snd_load (hT : TOk P T) (h : Rel w0 ok0 st a w) {t : TypeId} {x : Operand} (ho : o.op = .load t x) {i : TI} (hi : T t = some i) (hwp : (absLoad st i (st.ev x)).wp P o.dst st K) : o.wp P a w (fun a' w' => ∃ st', K st' ∧ Rel w0 ok0 st' a' w') Q := by
 obtain ⟨σ, hr⟩ := h.rel
 have hx := ev_RV hr x
 have hexec : execOp a.eval o = (do pure (.value (← Instr.loadAt t (a.eval x)))) := by simp [execOp, ho]
 have key : ∀ {off : Nat} {cs : List D} {ad : Addr} {u : Nat → Value} {L : List Nat}, (∀ p, p < cs.length → w.cell? (ad.add p) = some (u p)) → (∀ (p : Nat) (x : D), cs[p]? = some x → RD w (okS w0 ok0 (st.lk L) σ w) x (u p)) → a.eval x = .pointer (some (ad.add off)) →
   (loadD i off cs L).wp P o.dst st K → o.wp P a w (fun a' w' => ∃ st', K st' ∧ Rel w0 ok0 st' a' w') Q := fun {off cs ad u L} h1 h2 h0 h3 => by
  obtain ⟨v, y, h3, h4, h5⟩ := loadVar_RD hT hi h1 h2 L _ rfl h3
  exact val_wp (L := L) (x := .d y) (exec_val hexec (by rw [h0]; exact h3)) h hr (fun r hr => by cases hr) h4 h5
 cases hev : st.ev x with
 | d y =>
  rw [hev] at hwp hx
  cases y with
  | ptr off cs =>
   simp only [RV] at hx
   generalize hv : a.eval x = v at hx
   cases hx with
   | ptr _ _ ad u ho hc hd => exact key (L := []) hc hd hv hwp
  | _ => exact hwp.elim
 | optr r off =>
  rw [hev] at hwp hx
  simp only [absLoad] at hwp
  simp only [RV] at hx
  split at hwp
  ·
   rename_i ob hob
   split at hx
   ·
    rename_i g m hσ
    split at hwp
    ·
     rename_i l hl
     obtain ⟨u, h1, h2⟩ := own_cells (L := []) hr hob hσ (.inl hl)
     exact key (L := []) h1 h2 (by rw [hx, addr0]) hwp
    ·
     rename_i l hl
     split at hwp
     ·
      split at hwp
      ·
       rename_i ds hds
       obtain ⟨u, h1, h2⟩ := own_cells (L := nms l) hr hob hσ (.inr ⟨l, hl, hds, fun q hq => hq⟩)
       exact key h1 h2 (by rw [hx, addr0]) hwp
      ·
       exact hwp.elim
     ·
      rename_i hns
      split at hwp
      ·
       rename_i z hz
       have hob2 := hr.ob r ob hob
       rw [hσ] at hob2
       obtain ⟨h5, us, h6, h7, h8⟩ := hob2
       obtain ⟨u, h9, h10, h11⟩ := h8 off z (by rw [hl]; exact hz)
       have hagg := run_isAgg (w := w) hT hi
       have hf : i.k.isS = false := by
        cases hik : i.k with
        | struct l => exact absurd hik (hns l)
        | _ => rfl
       rw [hf] at hagg
       refine val_wp (L := []) (x := z) (v := u) (exec_val hexec ?_) h hr (Cl.at_live h.wf hob (by rw [hl]; exact hz)) h10 hwp
       rw [hx]
       simp only [Instr.loadAt, Instr.sureAddr]
       unfold loadVar
       have hc : w.cell? ⟨g, off, none⟩ = some u := by rw [cell_of_row w g off us ob.e (0, 0) h6]; exact h9
       simp [Sem.run_bind, hagg, hc]
      ·
       exact hwp.elim
   ·
    exact hx.elim
  ·
   exact hwp.elim
 | _ => rw [hev] at hwp; exact hwp.elim
end Ab
/- Arithmetic, addresses, cuts, lengths. -/
namespace Ab
open Go Go.RowKit
set_option linter.unusedVariables false
variable {P : Program} {T : TT} {w0 w w' : World} {ok0 : Nat → Prop} {st : AS} {a : Act} {o : Oper} {K : AS → Prop} {Q : Exit → Act → World → Prop} {σ : Nat → Option (Nat × Nat)}
/-- data that an operation yields -/
theorem d_wp {v : Value} {x : D} (hrun : (execOp a.eval o).run P w = .ok (.value v) w) (h : Rel w0 ok0 st a w) (hr : Rel' w0 ok0 st a w σ) (hv : RD w (okS w0 ok0 st σ w) x v)
  (hK : K (st.put o.dst (.d x))) : o.wp P a w (fun a' w' => ∃ st', K st' ∧ Rel w0 ok0 st' a' w') Q :=
 val_wp (L := []) (x := .d x) hrun h hr (fun r hr => by cases hr) hv hK
theorem snd_move (h : Rel w0 ok0 st a w) {x : Operand} (ho : o.op = .move x ∨ o.op = .assign x) (hwp : K (st.put o.dst (st.ev x))) : o.wp P a w (fun a' w' => ∃ st', K st' ∧ Rel w0 ok0 st' a' w') Q := by
 obtain ⟨σ, hr⟩ := h.rel
 exact val_wp (L := []) (x := st.ev x) (by rcases ho with ho | ho <;> simp [execOp, ho]) h hr (ev_live h.wf x) (ev_RV hr x) hwp
theorem snd_pick (h : Rel w0 ok0 st a w) {c x y : Operand} (ho : o.op = .pick c x y) {b : Bool} (hc : st.ev c = .d (.bool b)) (hwp : K (st.put o.dst (bif b then st.ev x else st.ev y))) : o.wp P a w (fun a' w' => ∃ st', K st' ∧ Rel w0 ok0 st' a' w') Q := by
 obtain ⟨σ, hr⟩ := h.rel
 have h1 := ev_RV hr c
 rw [hc] at h1
 have h2 : a.eval c = .bool b := by
  simp only [RV] at h1
  generalize a.eval c = v at h1
  cases h1; rfl
 cases b
 ·
  exact val_wp (L := []) (x := st.ev y) (by simp [execOp, ho, h2, asBool]) h hr (ev_live h.wf y) (ev_RV hr y) hwp
 ·
  exact val_wp (L := []) (x := st.ev x) (by simp [execOp, ho, h2, asBool]) h hr (ev_live h.wf x) (ev_RV hr x) hwp
theorem RD_int {ok : Nat → Prop} {k : IntKind} {n : Int} {v : Value} (h : RD w ok (.int k n) v) : v = .int k n := by cases h; rfl
theorem RD_bool {ok : Nat → Prop} {b : Bool} {v : Value} (h : RD w ok (.bool b) v) : v = .bool b := by cases h; rfl
theorem ev_int (hr : Rel' w0 ok0 st a w σ) {x : Operand} {k : IntKind} {n : Int} (h : st.ev x = .d (.int k n)) : a.eval x = .int k n := by
 have := ev_RV hr x
 rw [h] at this
 exact RD_int this
theorem ev_bool (hr : Rel' w0 ok0 st a w σ) {x : Operand} {b : Bool} (h : st.ev x = .d (.bool b)) : a.eval x = .bool b := by
 have := ev_RV hr x
 rw [h] at this
 exact RD_bool this
theorem wrap_i64_in {n : Int} (h : inI64 n) : IntKind.i64.wrap n = n := by
 unfold inI64 at h
 rw [IntKind.wrap_i64]; omega
theorem arith_wp {k : IntKind} {n : Int} (h : (arith k n).wp P o.dst st K) : K (st.put o.dst (.d (.int k (k.wrap n)))) := by
 unfold arith at h
 split at h
 ·
  obtain ⟨h1, h2⟩ := h
  rw [wrap_i64_in h1]; exact h2
 ·
  exact h
theorem kind_bool (hT : TOk P T) {t : TypeId} (h : kind T t = some .bool) : P.underlying t = some .bool := by
 obtain ⟨i, h1, h2⟩ := kind_some h
 obtain ⟨f, _, _, _, _, ⟨u, h3, h4⟩, _⟩ := ti_info hT h1
 rw [h2] at h4
 cases u <;> simp [kOk] at h4
 rw [h3]
theorem kind_ptr (hT : TOk P T) {t : TypeId} (h : kind T t = some .ptr) : ∃ e, P.underlying t = some (.pointer e) := by
 obtain ⟨i, h1, h2⟩ := kind_some h
 obtain ⟨f, _, _, _, _, ⟨u, h3, h4⟩, _⟩ := ti_info hT h1
 rw [h2] at h4
 cases u <;> simp [kOk] at h4
 exact ⟨_, h3⟩
theorem absNil_wp {op : BinOp} {z : Option (Bool × Prop)} (hwp : (absNil op z).wp P o.dst st K) : ∃ b p, z = some (b, p) ∧ p ∧ ((op = .eql ∧ K (st.put o.dst (.d (.bool b)))) ∨ (op = .neq ∧ K (st.put o.dst (.d (.bool (!b)))))) := by
 unfold absNil at hwp
 split at hwp
 ·
  split at hwp
  ·
   exact ⟨_, _, rfl, hwp.1, .inl ⟨rfl, hwp.2⟩⟩
  ·
   exact ⟨_, _, rfl, hwp.1, .inr ⟨rfl, hwp.2⟩⟩
  ·
   exact hwp.elim
 ·
  exact hwp.elim
theorem snd_nils (h : Rel w0 ok0 st a w) (hr : Rel' w0 ok0 st a w σ) {op : BinOp} {t e : TypeId} {x y : Operand} (hu : P.underlying t = some (.slice e)) (hexec : execOp a.eval o = (do pure (.value (← (do eqGuard op t x y (a.eval x) (a.eval y); binOp op t (a.eval x) (a.eval y))))))
  (v2 : RV w (okS w0 ok0 st σ w) σ (.d .nils) (a.eval y)) (hwp : (absNil op (isNilS (st.ev x))).wp P o.dst st K) : o.wp P a w (fun a' w' => ∃ st', K st' ∧ Rel w0 ok0 st' a' w') Q := by
 have v3 : a.eval y = .slice none 0 0 := by
  simp only [RV] at v2
  generalize a.eval y = v at v2
  cases v2; rfl
 have hx := ev_RV hr x
 rw [v3] at hexec
 obtain ⟨b, p, hz, hp, hor⟩ := absNil_wp hwp
 have key : ∀ (A : Option Addr) (l c : Nat), a.eval x = .slice A l c → A.isNone = b → o.wp P a w (fun a' w' => ∃ st', K st' ∧ Rel w0 ok0 st' a' w') Q := by
  intro A l c hA hb
  rw [hA] at hexec
  have hg : (eqGuard op t x y (.slice A l c) (.slice none 0 0)).run P w = .ok () w := by
   unfold eqGuard; cases op <;> simp
  rcases hor with ⟨rfl, h1⟩ | ⟨rfl, h1⟩
  ·
   exact d_wp (v := .bool b) (exec_val hexec (by rw [Sem.run_bind, hg]; simp [binOp, run_equal_slice_nil w t e A l c hu, hb])) h hr (.bool _) h1
  ·
   exact d_wp (v := .bool (!b)) (exec_val hexec (by rw [Sem.run_bind, hg]; simp [binOp, run_equal_slice_nil w t e A l c hu, hb])) h hr (.bool _) h1
 generalize st.ev x = ax at hx hz
 cases ax with
 | d z =>
  simp only [RV] at hx
  cases z with
  | nils =>
   simp only [isNilS, Option.some.injEq, Prod.mk.injEq] at hz
   obtain ⟨rfl, _⟩ := hz
   generalize hv : a.eval x = v at hx
   cases hx
   exact key _ _ _ hv rfl
  | sl n cs =>
   simp only [isNilS, Option.some.injEq, Prod.mk.injEq] at hz
   obtain ⟨rfl, rfl⟩ := hz
   generalize hv : a.eval x = v at hx
   cases hx with
   | sl _ _ A c u hn ha hr =>
    obtain ⟨ad, h1, _⟩ := ha hp
    exact key _ _ _ hv (by rw [h1]; rfl)
  | _ => simp [isNilS] at hz
 | osl r off n sz wh =>
  simp only [isNilS, Option.some.injEq, Prod.mk.injEq] at hz
  obtain ⟨rfl, rfl⟩ := hz
  simp only [RV] at hx
  split at hx
  ·
   obtain ⟨c, h1, _⟩ := hx
   exact key _ _ _ h1 rfl
  ·
   exact absurd hx.2.1 hp
 | _ => simp [isNilS] at hz
theorem snd_nilp (h : Rel w0 ok0 st a w) (hr : Rel' w0 ok0 st a w σ) {op : BinOp} {t e : TypeId} {x y : Operand} (hu : P.underlying t = some (.pointer e)) (hexec : execOp a.eval o = (do pure (.value (← (do eqGuard op t x y (a.eval x) (a.eval y); binOp op t (a.eval x) (a.eval y))))))
  (v2 : RV w (okS w0 ok0 st σ w) σ (.d .nilp) (a.eval y)) (hwp : (absNil op (isNilP (st.ev x))).wp P o.dst st K) : o.wp P a w (fun a' w' => ∃ st', K st' ∧ Rel w0 ok0 st' a' w') Q := by
 have v3 : a.eval y = .pointer none := by
  simp only [RV] at v2
  generalize a.eval y = v at v2
  cases v2; rfl
 have hx := ev_RV hr x
 rw [v3] at hexec
 obtain ⟨b, p, hz, hp, hor⟩ := absNil_wp hwp
 have hu' : P.underlying t = some (.pointer (P.pointee t)) := by simp [Program.pointee, hu]
 have key : ∀ (A : Option Addr), a.eval x = .pointer A → A.isNone = b → o.wp P a w (fun a' w' => ∃ st', K st' ∧ Rel w0 ok0 st' a' w') Q := by
  intro A hA hb
  rw [hA] at hexec
  have hg : (eqGuard op t x y (.pointer A) (.pointer none)).run P w = .ok () w := by
   unfold eqGuard; cases op <;> simp
  rcases hor with ⟨rfl, h1⟩ | ⟨rfl, h1⟩
  ·
   exact d_wp (v := .bool b) (exec_val hexec (by rw [Sem.run_bind, hg]; simp [run_eql_pointer_nil w t A hu', hb])) h hr (.bool _) h1
  ·
   exact d_wp (v := .bool (!b)) (exec_val hexec (by rw [Sem.run_bind, hg]; simp [run_neq_pointer_nil w t A hu', hb])) h hr (.bool _) h1
 generalize st.ev x = ax at hx hz
 cases ax with
 | d z =>
  simp only [RV] at hx
  cases z with
  | nilp =>
   simp only [isNilP, Option.some.injEq, Prod.mk.injEq] at hz
   obtain ⟨rfl, _⟩ := hz
   generalize hv : a.eval x = v at hx
   cases hx
   exact key _ hv rfl
  | ptr off cs =>
   simp only [isNilP, Option.some.injEq, Prod.mk.injEq] at hz
   obtain ⟨rfl, _⟩ := hz
   generalize hv : a.eval x = v at hx
   cases hx
   exact key _ hv rfl
  | _ => simp [isNilP] at hz
 | optr r off =>
  simp only [isNilP, Option.some.injEq, Prod.mk.injEq] at hz
  obtain ⟨rfl, _⟩ := hz
  simp only [RV] at hx
  split at hx
  ·
   exact key _ hx rfl
  ·
   exact hx.elim
 | _ => simp [isNilP] at hz
theorem beq_dec (n m : Int) : (n == m) = decide (n = m) := by by_cases h : n = m <;> simp [h]
theorem cb_wp {b : Bool} (h : (cb b).wp P o.dst st K) : K (st.put o.dst (.d (.bool b))) := by
 cases b
 ·
  exact h.2 rfl
 ·
  exact h.1 rfl
theorem snd_bin (hT : TOk P T) (h : Rel w0 ok0 st a w) {op : BinOp} {t t' : TypeId} {x y : Operand} (ho : o.op = .binOp op t x y t') {kk : TK} (hi : kind T t = some kk) (hwp : (absBin op kk (st.ev x) (st.ev y)).wp P o.dst st K) : o.wp P a w (fun a' w' => ∃ st', K st' ∧ Rel w0 ok0 st' a' w') Q := by
 obtain ⟨σ, hr⟩ := h.rel
 have hexec : execOp a.eval o = (do pure (.value (← (do eqGuard op t x y (a.eval x) (a.eval y); binOp op t (a.eval x) (a.eval y))))) := by simp [execOp, ho]
 unfold absBin at hwp
 split at hwp
 ·
  rename_i k n k' m e1 e2
  have v1 := ev_int hr e1
  have v2 := ev_int hr e2
  split at hwp
  ·
   rename_i hkk
   subst hkk
   rw [v1, v2] at hexec
   have hg : (eqGuard op t x y (.int k n) (.int k m)).run P w = .ok () w := by
    unfold eqGuard; cases op <;> simp
   split at hwp
   ·
    exact d_wp (v := .int k (k.wrap (n + m))) (exec_val hexec (by rw [Sem.run_bind, hg]; simp [binOp, Op.intArith])) h hr (.int _ _) (arith_wp hwp)
   ·
    exact d_wp (v := .int k (k.wrap (n - m))) (exec_val hexec (by rw [Sem.run_bind, hg]; simp [binOp, Op.intArith])) h hr (.int _ _) (arith_wp hwp)
   ·
    exact d_wp (v := .int k (k.wrap (n * m))) (exec_val hexec (by rw [Sem.run_bind, hg]; simp [binOp, Op.intArith])) h hr (.int _ _) (arith_wp hwp)
   ·
    obtain ⟨h0, hwp⟩ := hwp
    exact d_wp (exec_val hexec (by rw [Sem.run_bind, hg]; simp [binOp, Op.intDiv, h0])) h hr (.int _ _) hwp
   ·
    obtain ⟨h0, hwp⟩ := hwp
    exact d_wp (exec_val hexec (by rw [Sem.run_bind, hg]; simp [binOp, Op.intDiv, h0])) h hr (.int _ _) hwp
   ·
    exact d_wp (v := .bool (n == m)) (exec_val hexec (by rw [Sem.run_bind, hg]; simp [binOp, Op.intCmp])) h hr (by rw [beq_dec]; exact .bool _) (cb_wp hwp)
   ·
    exact d_wp (v := .bool (n != m)) (exec_val hexec (by rw [Sem.run_bind, hg]; simp [binOp, Op.intCmp])) h hr (by rw [bne, beq_dec]; exact .bool _) (cb_wp hwp)
   ·
    exact d_wp (exec_val hexec (by rw [Sem.run_bind, hg]; simp [binOp, Op.intCmp])) h hr (.bool _) (cb_wp hwp)
   ·
    exact d_wp (exec_val hexec (by rw [Sem.run_bind, hg]; simp [binOp, Op.intCmp])) h hr (.bool _) (cb_wp hwp)
   ·
    exact d_wp (exec_val hexec (by rw [Sem.run_bind, hg]; simp [binOp, Op.intCmp])) h hr (.bool _) (cb_wp hwp)
   ·
    exact d_wp (exec_val hexec (by rw [Sem.run_bind, hg]; simp [binOp, Op.intCmp])) h hr (.bool _) (cb_wp hwp)
   ·
    exact d_wp (exec_val hexec (by rw [Sem.run_bind, hg]; simp [binOp, intBits_xor])) h hr (.int _ _) hwp
   ·
    exact d_wp (exec_val hexec (by rw [Sem.run_bind, hg]; simp [binOp, intBits_and])) h hr (.int _ _) hwp
   ·
    exact d_wp (exec_val hexec (by rw [Sem.run_bind, hg]; simp [binOp, intBits_or])) h hr (.int _ _) hwp
   ·
    exact hwp.elim
  ·
   exact hwp.elim
 ·
  rename_i b c e1 e2
  have v1 := ev_bool hr e1
  have v2 := ev_bool hr e2
  rw [v1, v2] at hexec
  have hg : (eqGuard op t x y (.bool b) (.bool c)).run P w = .ok () w := by
   unfold eqGuard; cases op <;> simp
  split at hwp
  ·
   have hu := kind_bool hT hi
   exact d_wp (v := .bool (b == c)) (exec_val hexec (by rw [Sem.run_bind, hg]; simp [binOp, show (Op.equal t (.bool b) (.bool c)).run P w = .ok (b == c) w from run_equalIn_bool' w 9999 t b c hu])) h hr (.bool _) (cb_wp hwp)
  ·
   have hu := kind_bool hT hi
   exact d_wp (v := .bool (!(b == c))) (exec_val hexec (by rw [Sem.run_bind, hg]; simp [binOp, show (Op.equal t (.bool b) (.bool c)).run P w = .ok (b == c) w from run_equalIn_bool' w 9999 t b c hu])) h hr (.bool _) (cb_wp hwp)
  ·
   exact hwp.elim
 ·
  rename_i e1
  have v2 := ev_RV hr y
  rw [e1] at v2
  split at hwp
  ·
   have hu := kind_slice hT hi
   exact snd_nils h hr hu hexec v2 hwp
  ·
   exact hwp.elim
 ·
  rename_i e1
  have v2 := ev_RV hr y
  rw [e1] at v2
  split at hwp
  ·
   obtain ⟨e, hu⟩ := kind_ptr hT hi
   exact snd_nilp h hr hu hexec v2 hwp
  ·
   exact hwp.elim
 ·
  exact hwp.elim
end Ab
/- Addresses, cuts, lengths, structs and rows that are built. -/
namespace Ab
open Go Go.RowKit
set_option linter.unusedVariables false
variable {P : Program} {T : TT} {w0 w w' : World} {ok0 : Nat → Prop} {st : AS} {a : Act} {o : Oper} {K : AS → Prop} {Q : Exit → Act → World → Prop} {σ : Nat → Option (Nat × Nat)}
theorem snd_not (h : Rel w0 ok0 st a w) {t : TypeId} {x : Operand} (ho : o.op = .unOp .not t x) {b : Bool} (hx : st.ev x = .d (.bool b)) (hwp : K (st.put o.dst (.d (.bool (!b))))) : o.wp P a w (fun a' w' => ∃ st', K st' ∧ Rel w0 ok0 st' a' w') Q := by
 obtain ⟨σ, hr⟩ := h.rel
 exact d_wp (v := .bool (!b)) (by simp [execOp, ho, ev_bool hr hx, Op.unary]) h hr (.bool _) hwp
theorem snd_neg (h : Rel w0 ok0 st a w) {t : TypeId} {x : Operand} (ho : o.op = .unOp .neg t x) {k : IntKind} {n : Int} (hx : st.ev x = .d (.int k n)) (hwp : (arith k (0 - n)).wp P o.dst st K) : o.wp P a w (fun a' w' => ∃ st', K st' ∧ Rel w0 ok0 st' a' w') Q := by
 obtain ⟨σ, hr⟩ := h.rel
 exact d_wp (v := .int k (k.wrap (0 - n))) (by simp [execOp, ho, ev_int hr hx, Op.unary, Op.intArith]) h hr (.int _ _) (arith_wp hwp)
theorem snd_convert (hT : TOk P T) (h : Rel w0 ok0 st a w) {s t : TypeId} {x : Operand} (ho : o.op = .convert s t x) {k0 k k1 : IntKind} {n : Int} (hs : kind T s = some (.int k0)) (ht : kind T t = some (.int k)) (hx : st.ev x = .d (.int k1 n)) (hwp : K (st.put o.dst (.d (.int k (k.wrap n))))) : o.wp P a w (fun a' w' => ∃ st', K st' ∧ Rel w0 ok0 st' a' w') Q := by
 obtain ⟨σ, hr⟩ := h.rel
 exact d_wp (v := .int k (k.wrap n)) (by simp [execOp, ho, ev_int hr hx, convert, run_underlying (kind_int hT hs), run_underlying (kind_int hT ht), Conv.intToInt]) h hr (.int _ _) hwp
theorem run_fieldAt (hT : TOk P T) {t : TypeId} {l : List (Nat × Nat)} (h : kind T t = some (.struct l)) {f : Nat} {p : Nat × Nat} (hf : l[f]? = some p) (ad : Addr) : (Instr.fieldAt t (.pointer (some ad)) f).run P w = .ok (.pointer (some (ad.add p.1))) w := by
 obtain ⟨fs, h1, h2, h3⟩ := kind_struct hT h
 have hlt := (List.getElem?_eq_some_iff.1 hf).1
 subst h2
 rw [List.getElem?_map] at hf
 cases hfs : fs.toList[f]? with
 | none => rw [hfs] at hf; cases hf
 | some fd =>
  rw [hfs] at hf
  simp only [Option.map_some, Option.some.injEq] at hf
  subst hf
  have hfs' : fs[f]? = some fd := by simpa using hfs
  have hpos := h3 _ (List.mem_map.2 ⟨fd, List.mem_of_getElem? hfs, rfl⟩)
  simp only at hpos
  cases hi : P.info? fd.type with
  | none => rw [hi] at hpos; simp at hpos
  | some i =>
   rw [hi] at hpos
   simp only [Option.map_some, Option.getD_some] at hpos
   have hne : i.size ≠ 0 := by omega
   simp [Instr.fieldAt, Sem.run_bind, run_underlying h1, hfs', Instr.sureAddr, fieldPlace, Go.sizeOf, typeInfo, hi, hne]
theorem snd_fieldAddr (hT : TOk P T) (h : Rel w0 ok0 st a w) {t : TypeId} {x : Operand} {f : Nat} (ho : o.op = .fieldAddr t x f) {l : List (Nat × Nat)} (ht : kind T t = some (.struct l)) {p : Nat × Nat} (hf : l[f]? = some p) (hwp : (absField p.1 (st.ev x)).wp P o.dst st K) : o.wp P a w (fun a' w' => ∃ st', K st' ∧ Rel w0 ok0 st' a' w') Q := by
 obtain ⟨σ, hr⟩ := h.rel
 have hx := ev_RV hr x
 have hlv := ev_live h.wf x
 have hexec : execOp a.eval o = (do pure (.value (← Instr.fieldAt t (a.eval x) f))) := by simp [execOp, ho]
 generalize st.ev x = ax at hx hwp hlv
 cases ax with
 | d z =>
  cases z with
  | ptr off cs =>
   simp only [RV] at hx
   generalize hv : a.eval x = v at hx
   cases hx with
   | ptr _ _ ad u h1 h2 h3 =>
    rw [hv] at hexec
    refine d_wp (exec_val hexec (run_fieldAt hT ht hf _)) h hr ?_ hwp
    rw [Deep.add_add]
    exact .ptr _ _ ad u h1 h2 h3
  | _ => exact hwp.elim
 | optr r off =>
  simp only [RV] at hx
  split at hx
  ·
   rename_i g m hσ
   rw [hx] at hexec
   refine val_wp (L := []) (x := .optr r (off + p.1)) (exec_val hexec (run_fieldAt hT ht hf _)) h hr (fun r' h' => hlv r' h') ?_ hwp
   simp only [RV, hσ]
   rw [addr0, Deep.add_add, ← addr0]
  ·
   exact hx.elim
 | _ => exact hwp.elim
theorem run_indexAt (hT : TOk P T) {t e : TypeId} {i : TI} (h : kind T t = some (.slice e)) (hi : T e = some i) (ad : Addr) (n c : Nat) (k : IntKind) (j : Int) (h0 : 0 ≤ j) (h1 : j < n) : (Instr.indexAt t (.slice (some ad) n c) (.int k j)).run P w = .ok (.pointer (some (ad.add (j.toNat * i.size)))) w := by
 have hu := kind_slice hT h
 have hs := run_sizeOf (w := w) hT hi
 simp only [Instr.indexAt, Sem.run_bind, asIntOf, Sem.run_pure, Result.andThen_ok, run_underlying hu]
 simp [h0, h1, hs]
theorem snd_indexAddr (hT : TOk P T) (h : Rel w0 ok0 st a w) {t e : TypeId} {x y : Operand} (ho : o.op = .indexAddr t x y) (ht : kind T t = some (.slice e)) {i : TI} (hi : T e = some i) (hwp : (absIndex i.size (st.ev x) (st.ev y)).wp P o.dst st K) : o.wp P a w (fun a' w' => ∃ st', K st' ∧ Rel w0 ok0 st' a' w') Q := by
 obtain ⟨σ, hr⟩ := h.rel
 have hx := ev_RV hr x
 have hlv := ev_live h.wf x
 have hexec : execOp a.eval o = (do pure (.value (← Instr.indexAt t (a.eval x) (a.eval y)))) := by simp [execOp, ho]
 unfold absIndex at hwp
 split at hwp
 ·
  rename_i n cs k j e1 e2
  obtain ⟨⟨h0, h1, h2⟩, hwp⟩ := hwp
  rw [e1] at hx
  rw [ev_int hr e2] at hexec
  simp only [RV] at hx
  generalize hv : a.eval x = v at hx
  cases hx with
  | sl _ _ A c u hn ha hd =>
   obtain ⟨ad, rfl, h3, h4⟩ := ha h2
   rw [hv] at hexec
   exact d_wp (exec_val hexec (run_indexAt hT ht hi ad n c k j h0 h1)) h hr (.ptr _ _ ad u h3 h4 hd) hwp
 ·
  rename_i r off n sz wh k j e1 e2
  obtain ⟨⟨h0, h1⟩, hwp⟩ := hwp
  rw [e1] at hx hlv
  rw [ev_int hr e2] at hexec
  simp only [RV] at hx
  split at hx
  ·
   rename_i g m hσ
   obtain ⟨c, h2, h3, _⟩ := hx
   rw [h2] at hexec
   refine val_wp (L := []) (x := .optr r (off + j.toNat * i.size)) (exec_val hexec (run_indexAt hT ht hi _ n c k j h0 h1)) h hr (fun r' h' => hlv r' h') ?_ hwp
   simp only [RV, hσ]
   rw [addr0, Deep.add_add, ← addr0]
  ·
   omega
 ·
  exact hwp.elim
theorem snd_len (hT : TOk P T) (h : Rel w0 ok0 st a w) {c : Call} {t e : TypeId} {x : Operand} (ho : o.op = .call c) (hc : c.callee = .builtin .len) (hargs : c.args.toList = [x]) (hts : c.argTypes.toList = [t]) (ht : kind T t = some (.slice e)) (hwp : (absLen (st.ev x)).wp P o.dst st K) : o.wp P a w (fun a' w' => ∃ st', K st' ∧ Rel w0 ok0 st' a' w') Q := by
 obtain ⟨σ, hr⟩ := h.rel
 have hx := ev_RV hr x
 have hu := kind_slice hT ht
 have e1 : c.args = #[x] := by rw [← hargs]
 have e2 : c.argTypes = #[t] := by rw [← hts]
 have key : ∀ (A : Option Addr) (n cp : Nat), a.eval x = .slice A n cp → (execOp a.eval o).run P w = .ok (.value (.int .i64 n)) w := fun A n cp hv => by
  simp [execOp, ho, resolve, hc, e1, e2, invoke, builtin, Builtin.len_, hv, run_underlying hu, goInt]
 generalize st.ev x = ax at hx hwp
 cases ax with
 | d z =>
  simp only [RV] at hx
  cases z with
  | sl n cs =>
   generalize hv : a.eval x = v at hx
   cases hx
   exact d_wp (key _ _ _ hv) h hr (.int _ _) hwp
  | nils =>
   generalize hv : a.eval x = v at hx
   cases hx
   exact d_wp (key _ _ _ hv) h hr (.int _ _) hwp
  | _ => exact hwp.elim
 | osl r off n sz wh =>
  simp only [RV] at hx
  split at hx
  ·
   obtain ⟨cp, h2, _⟩ := hx
   exact d_wp (key _ _ _ h2) h hr (.int _ _) hwp
  ·
   obtain ⟨h2, h3, _⟩ := hx
   subst h3
   exact d_wp (key _ _ _ h2) h hr (.int _ _) hwp
 | _ => exact hwp.elim
theorem mx2_some {x y : Operand} {n : Int} (h : mx2 (st.ev x) (st.ev y) = some n) : ∃ p q, st.ev x = .d (.int .i64 p) ∧ st.ev y = .d (.int .i64 q) ∧ n = if q > p then q else p := by
 unfold mx2 at h
 split at h
 ·
  rename_i p q e1 e2
  cases h; exact ⟨p, q, e1, e2, rfl⟩
 ·
  cases h
theorem mn2_some {x y : Operand} {n : Int} (h : mn2 (st.ev x) (st.ev y) = some n) : ∃ p q, st.ev x = .d (.int .i64 p) ∧ st.ev y = .d (.int .i64 q) ∧ n = if q < p then q else p := by
 unfold mn2 at h
 split at h
 ·
  rename_i p q e1 e2
  cases h; exact ⟨p, q, e1, e2, rfl⟩
 ·
  cases h
theorem snd_max (h : Rel w0 ok0 st a w) {c : Call} {x y : Operand} (ho : o.op = .call c) (hc : c.callee = .builtin .max) (hargs : c.args.toList = [x, y]) {n : Int} (hn : mx2 (st.ev x) (st.ev y) = some n) (hwp : K (st.put o.dst (.d (.int .i64 n)))) : o.wp P a w (fun a' w' => ∃ st', K st' ∧ Rel w0 ok0 st' a' w') Q := by
 obtain ⟨σ, hr⟩ := h.rel
 obtain ⟨p, q, e1, e2, rfl⟩ := mx2_some hn
 have e3 : c.args = #[x, y] := by rw [← hargs]
 refine d_wp (v := .int .i64 (if q > p then q else p)) ?_ h hr (.int _ _) hwp
 simp [execOp, ho, resolve, hc, e3, invoke, builtin, Builtin.max_, ev_int hr e1, ev_int hr e2, Builtin.max2]
theorem snd_min (h : Rel w0 ok0 st a w) {c : Call} {x y : Operand} (ho : o.op = .call c) (hc : c.callee = .builtin .min) (hargs : c.args.toList = [x, y]) {n : Int} (hn : mn2 (st.ev x) (st.ev y) = some n) (hwp : K (st.put o.dst (.d (.int .i64 n)))) : o.wp P a w (fun a' w' => ∃ st', K st' ∧ Rel w0 ok0 st' a' w') Q := by
 obtain ⟨σ, hr⟩ := h.rel
 obtain ⟨p, q, e1, e2, rfl⟩ := mn2_some hn
 have e3 : c.args = #[x, y] := by rw [← hargs]
 refine d_wp (v := .int .i64 (if q < p then q else p)) ?_ h hr (.int _ _) hwp
 simp [execOp, ho, resolve, hc, e3, invoke, builtin, Builtin.min_, ev_int hr e1, ev_int hr e2, Builtin.min2]
theorem snd_extract (h : Rel w0 ok0 st a w) {x : Operand} {i : Nat} (ho : o.op = .extract x i) {xs : List D} (hx : st.ev x = .d (.tup xs)) {y : D} (hy : xs[i]? = some y) (hwp : K (st.put o.dst (.d y))) : o.wp P a w (fun a' w' => ∃ st', K st' ∧ Rel w0 ok0 st' a' w') Q := by
 obtain ⟨σ, hr⟩ := h.rel
 have h1 := ev_RV hr x
 rw [hx] at h1
 simp only [RV] at h1
 generalize hv : a.eval x = v at h1
 cases h1 with
 | tup _ vs u hs hvv hd =>
  have hi := (List.getElem?_eq_some_iff.1 hy).1
  exact d_wp (v := u i) (by simp [execOp, ho, hv, Instr.extract, hvv i hi]) h hr (hd i y hy) hwp
end Ab
/- Cuts, structs and rows that are built, functions as values. -/
namespace Ab
open Go Go.RowKit
set_option linter.unusedVariables false
variable {P : Program} {T : TT} {w0 w w' : World} {ok0 : Nat → Prop} {st : AS} {a : Act} {o : Oper} {K : AS → Prop} {Q : Exit → Act → World → Prop} {σ : Nat → Option (Nat × Nat)}
theorem run_cut (hT : TOk P T) {t e : TypeId} {i : TI} (h : kind T t = some (.slice e)) (hi : T e = some i) (A : Option Addr) (n c : Nat) (lo hh : Option Value) (l u : Int) (hl : (lo = none ∧ l = 0) ∨ ∃ k, lo = some (.int k l)) (hu : (hh = none ∧ u = n) ∨ ∃ k, hh = some (.int k u)) (h0 : 0 ≤ l) (h1 : l ≤ u) (h2 : u ≤ n) (hn : n ≤ c) :
  (Instr.sliceAt t (.slice A n c) lo hh none).run P w = .ok (.slice (if c = l.toNat then A else A.map (·.add (l.toNat * i.size))) (u.toNat - l.toNat) (c - l.toNat)) w := by
 have hs := kind_slice hT h
 have hz := run_sizeOf (w := w) hT hi
 have hel : P.elem t = e := by simp [Program.elem, hs]
 have hs' : P.underlying t = some (.slice (P.elem t)) := by rw [hel]; exact hs
 have e1 : (Instr.sliceAt t (.slice A n c) lo hh none).run P w = (Instr.slice t (.slice A n c) lo hh none).run P w := by
  unfold Instr.sliceAt
  rw [Sem.run_bind, run_underlying hs w]; rfl
 rw [e1]
 rcases hl with ⟨rfl, rfl⟩ | ⟨k, rfl⟩ <;> rcases hu with ⟨rfl, rfl⟩ | ⟨k', rfl⟩
 ·
  rw [run_slice_all w t A n c hs', hel, hz]; simp [Result.andThen, sliced]
 ·
  rw [run_slice_h w t A n c hs' k' u (by omega) (by omega), hel, hz]; simp [Result.andThen, sliced]
 ·
  rw [run_slice_l w t A n c hs' k l (by omega) (by omega), hel, hz]; simp [Result.andThen, sliced]
 ·
  rw [run_slice_lh w t A n c hs' k k' l u (by omega) (by omega) (by omega), hel, hz]; simp [Result.andThen, sliced]
def cutI (n : Nat) (d : Int) : Option AV → Option Int
 | none => some d
 | some (.d (.int _ j)) => some j
 | _ => none
theorem cutI_some {x : Option Operand} {n : Nat} {d j : Int} (hr : Rel' w0 ok0 st a w σ) (h : cutI n d (x.map st.ev) = some j) : (x.map a.eval = none ∧ j = d) ∨ ∃ k, x.map a.eval = some (.int k j) := by
 cases x with
 | none => cases h; exact .inl ⟨rfl, rfl⟩
 | some y =>
  simp only [Option.map_some] at h ⊢
  generalize he : st.ev y = z at h
  unfold cutI at h
  split at h
  ·
   cases ‹some z = none›
  ·
   rename_i k j' e1
   cases h
   cases e1
   exact .inr ⟨k, by rw [ev_int hr he]⟩
  ·
   cases h
theorem absSlice_eq (sz : Nat) (x : AV) (l h : Option AV) : absSlice sz x l h = match x with
  | .d (.sl n cs) => match cutI n 0 l, cutI n n h with
   | some l, some h => .need (0 ≤ l ∧ l ≤ h ∧ h ≤ n) (.val (.d (.sl (h.toNat - l.toNat) ((cs.drop (l.toNat * sz)).take ((h.toNat - l.toNat) * sz)))) [])
   | _, _ => .fail
  | .osl r off n sz' _ => match cutI n 0 l, cutI n n h with
   | some l, some h => .need (0 ≤ l ∧ l ≤ h ∧ h ≤ n) (.need (sz' = sz ∧ (l.toNat < h.toNat ∨ l.toNat = 0)) (.val (.osl r (off + l.toNat * sz) (h.toNat - l.toNat) sz false) []))
   | _, _ => .fail
  | _ => .fail := by
 unfold absSlice cutI
 cases x with
 | d z => cases z <;> rfl
 | _ => rfl
theorem snd_slice (hT : TOk P T) (h : Rel w0 ok0 st a w) {t e : TypeId} {x : Operand} {lo hi : Option Operand} (ho : o.op = .slice t x lo hi none) (ht : kind T t = some (.slice e)) {i : TI} (hti : T e = some i) (hwp : (absSlice i.size (st.ev x) (lo.map st.ev) (hi.map st.ev)).wp P o.dst st K) : o.wp P a w (fun a' w' => ∃ st', K st' ∧ Rel w0 ok0 st' a' w') Q := by
 obtain ⟨σ, hr⟩ := h.rel
 have hx := ev_RV hr x
 have hlv := ev_live h.wf x
 have hexec : execOp a.eval o = (do pure (.value (← Instr.sliceAt t (a.eval x) (lo.map a.eval) (hi.map a.eval) none))) := by simp [execOp, ho]
 rw [absSlice_eq] at hwp
 generalize st.ev x = ax at hx hwp hlv
 split at hwp
 ·
  rename_i n cs
  split at hwp
  ·
   rename_i l u e1 e2
   obtain ⟨⟨h0, h1, h2⟩, hwp⟩ := hwp
   simp only [RV] at hx
   generalize hv : a.eval x = v at hx
   cases hx with
   | sl _ _ A c uu hn ha hd =>
    rw [hv] at hexec
    refine d_wp (exec_val hexec (run_cut hT ht hti A n c _ _ l u (cutI_some hr e1) (cutI_some hr e2) h0 h1 h2 hn)) h hr ?_ hwp
    refine .sl _ _ _ _ (fun p => uu (l.toNat * i.size + p)) (by omega) (fun hne => ?_) (fun p y hp => ?_)
    ·
     have hcs : cs ≠ [] := fun e => hne (by rw [e]; simp)
     obtain ⟨ad, rfl, h3, h4⟩ := ha hcs
     have hc : c ≠ l.toNat := fun e => hne (by
      have : u.toNat - l.toNat = 0 := by omega
      rw [this]; simp)
     rw [if_neg hc]
     refine ⟨ad.add (l.toNat * i.size), rfl, by rw [add_block]; exact h3, fun p hp => ?_⟩
     rw [Deep.add_add]
     refine h4 _ ?_
     rw [List.length_take, List.length_drop] at hp; omega
    ·
     rw [List.getElem?_take] at hp
     split at hp
     ·
      rw [List.getElem?_drop] at hp; exact hd _ y hp
     ·
      cases hp
  ·
   exact hwp.elim
 ·
  rename_i r off n sz wh
  split at hwp
  ·
   rename_i l u e1 e2
   obtain ⟨⟨h0, h1, h2⟩, ⟨h3, h4⟩, hwp⟩ := hwp
   subst h3
   simp only [RV] at hx
   split at hx
   ·
    rename_i g m hσ
    obtain ⟨c, h5, h6, h7, h8, _⟩ := hx
    rw [h5] at hexec
    refine val_wp (L := []) (x := .osl r (off + l.toNat * i.size) (u.toNat - l.toNat) i.size false) (exec_val hexec (run_cut hT ht hti _ n c _ _ l u (cutI_some hr e1) (cutI_some hr e2) h0 h1 h2 h6)) h hr (fun r' h' => hlv r' h') ?_ hwp
    simp only [RV, hσ]
    refine ⟨c - l.toNat, ?_, by omega, by omega, ?_, fun h => by cases h⟩
    ·
     have : (if c = l.toNat then some (⟨g, off, none⟩ : Addr) else (some (⟨g, off, none⟩ : Addr)).map (·.add (l.toNat * i.size))) = some ⟨g, off + l.toNat * i.size, none⟩ := by
      split
      ·
       rcases h4 with h4 | h4
       ·
        omega
       ·
        rw [h4]; simp
      ·
       simp only [Option.map_some]
       rw [addr0, Deep.add_add, ← addr0]
     rw [this]
    ·
     have h9 : l.toNat ≤ c := by omega
     have : l.toNat * i.size + (c - l.toNat) * i.size = c * i.size := by rw [← Nat.add_mul]; congr 1; omega
     omega
   ·
    rename_i hσ
    obtain ⟨h5, h6, h7⟩ := hx
    subst h6 h7
    have hl0 : l = 0 := by omega
    have hu0 : u = 0 := by omega
    subst hl0 hu0
    rw [h5] at hexec
    refine val_wp (L := []) (x := .osl r (0 + (0 : Int).toNat * i.size) ((0 : Int).toNat - (0 : Int).toNat) i.size false) (exec_val hexec (run_cut hT ht hti none 0 0 _ _ 0 0 (cutI_some hr e1) (cutI_some hr e2) h0 h1 h2 (Nat.le_refl _))) h hr (fun r' h' => hlv r' h') ?_ hwp
    simp only [RV, hσ]
    simp
  ·
   exact hwp.elim
 ·
  exact hwp.elim
theorem snaps_get {l : List AV} : ∀ {ds : List D}, snaps st l = some ds → ds.length = l.length ∧ ∀ (p : Nat) y, ds[p]? = some y → ∃ x, l[p]? = some x ∧ snap st x = some y := by
 induction l with
 | nil => intro ds h; simp only [snaps, Option.some.injEq] at h; subst h; exact ⟨rfl, fun p y hp => by simp at hp⟩
 | cons x xs ih =>
  intro ds h
  simp only [snaps] at h
  split at h
  ·
   rename_i y ys h1 h2
   simp only [Option.some.injEq] at h
   subst h
   obtain ⟨h3, h4⟩ := ih h2
   refine ⟨by simp [h3], fun p z hp => ?_⟩
   cases p with
   | zero => simp at hp; subst hp; exact ⟨x, rfl, h1⟩
   | succ p => simpa using h4 p z (by simpa using hp)
  ·
   cases h
/-- arguments, as data -/
theorem snaps_RD (hr : Rel' w0 ok0 st a w σ) {xs : List Operand} {ds : List D} (h : snaps st (xs.map st.ev) = some ds) : ds.length = xs.length ∧ ∀ (p : Nat) y, ds[p]? = some y → ∃ x, xs[p]? = some x ∧ RD w (okS w0 ok0 (st.lk (lkss st (xs.map st.ev))) σ w) y (a.eval x) := by
 obtain ⟨h1, h2⟩ := snaps_get h
 refine ⟨by rw [h1]; simp, fun p y hp => ?_⟩
 obtain ⟨z, h3, h4⟩ := h2 p y hp
 rw [List.getElem?_map] at h3
 cases hx : xs[p]? with
 | none => rw [hx] at h3; cases h3
 | some x =>
  rw [hx] at h3
  simp only [Option.map_some, Option.some.injEq] at h3
  subst h3
  exact ⟨x, rfl, snap_RD hr (ev_RV hr x) h4 (fun r hr' => List.mem_flatMap.2 ⟨st.ev x, List.mem_map.2 ⟨x, List.mem_of_getElem? hx, rfl⟩, hr'⟩)⟩
theorem snd_makeFunc (h : Rel w0 ok0 st a w) {f : FuncId} {first caps : Array Operand} (ho : o.op = .makeFunc (.func f) first caps) (hf : first.isEmpty = true) {ds : List D} (hds : snaps st (caps.toList.map st.ev) = some ds) (hwp : K ((st.lk (lkss st (caps.toList.map st.ev))).put o.dst (.d (.fn f ds)))) : o.wp P a w (fun a' w' => ∃ st', K st' ∧ Rel w0 ok0 st' a' w') Q := by
 obtain ⟨σ, hr⟩ := h.rel
 obtain ⟨h1, h2⟩ := snaps_RD hr hds
 have hfe : first = #[] := by simpa using hf
 refine val_wp (L := lkss st (caps.toList.map st.ev)) (x := .d (.fn f ds)) (v := .func (.func f) #[] (caps.map a.eval)) (by simp [execOp, ho, Instr.makeFunc, hfe]) h hr (fun r hr => by cases hr) ?_ hwp
 refine .fn f ds _ (fun p => a.eval (caps.getD p default)) (by simp [h1]) (fun p hp => ?_) (fun p y hp => ?_)
 ·
  rw [h1] at hp
  have hp' : p < caps.size := by simpa using hp
  simp [hp']
 ·
  obtain ⟨x, h3, h4⟩ := h2 p y hp
  have h3' : caps[p]? = some x := by simpa using h3
  have : caps.getD p default = x := by simp [h3']
  rw [this]; exact h4
end Ab
/- Structs and rows that are built; objects that are made. -/
namespace Ab
open Go Go.RowKit
set_option linter.unusedVariables false
variable {P : Program} {T : TT} {w0 w w' : World} {ok0 : Nat → Prop} {st : AS} {a : Act} {o : Oper} {K : AS → Prop} {Q : Exit → Act → World → Prop} {σ : Nat → Option (Nat × Nat)}
theorem RD_cells {ok : Nat → Prop} {y : D} {v : Value} (h : RD w ok y v) : v.cells.size = y.cells.length ∧ ∀ (i : Nat) z, y.cells[i]? = some z → ∃ u, v.cells[i]? = some u ∧ RD w ok z u := by
 have one : v.cells = #[v] → y.cells = [y] → v.cells.size = y.cells.length ∧ ∀ (i : Nat) z, y.cells[i]? = some z → ∃ u, v.cells[i]? = some u ∧ RD w ok z u := fun e1 e2 => by
  rw [e1, e2]
  refine ⟨rfl, fun i z hz => ?_⟩
  cases i with
  | zero => simp at hz; subst hz; exact ⟨v, rfl, h⟩
  | succ i => simp at hz
 cases h with
 | agg cs vs u hs hv hr h1 => exact ⟨hs, fun i z hz => ⟨u i, hv i (List.getElem?_eq_some_iff.1 hz).1, hr i z hz⟩⟩
 | _ => exact one rfl rfl
/-- the cells of a row, and what they read as -/
def CellsRD (w : World) (ok : Nat → Prop) (ds : List D) (arr : Array Value) : Prop := arr.size = ds.length ∧ ∀ (i : Nat) z, ds[i]? = some z → ∃ u, arr[i]? = some u ∧ RD w ok z u
theorem foldl_put (off : Nat) : ∀ (l : List Value) (s : Nat) (cs : Array Value), off + s + l.length ≤ cs.size → ((l.zipIdx s).foldl (fun cs (c : Value × Nat) => cs.setIfInBounds (off + c.2) c.1) cs).size = cs.size ∧
  ∀ k, ((l.zipIdx s).foldl (fun cs (c : Value × Nat) => cs.setIfInBounds (off + c.2) c.1) cs)[k]? = if off + s ≤ k ∧ k < off + s + l.length then l[k - (off + s)]? else cs[k]?
 | [], s, cs, _ => ⟨rfl, fun k => by rw [if_neg (by simp only [List.length_nil]; omega)]; rfl⟩
 | x :: l, s, cs, h => by
  simp only [List.length_cons] at h
  have ih := foldl_put off l (s + 1) (cs.setIfInBounds (off + s) x) (by simp; omega)
  simp only [List.zipIdx_cons, List.foldl_cons]
  refine ⟨by rw [ih.1]; simp, fun k => ?_⟩
  rw [ih.2 k]
  by_cases h1 : off + (s + 1) ≤ k ∧ k < off + (s + 1) + l.length
  ·
   rw [if_pos h1, if_pos (by simp; omega), show k - (off + s) = (k - (off + (s + 1))) + 1 by omega]; simp
  ·
   rw [if_neg h1, Array.getElem?_setIfInBounds]
   by_cases h2 : off + s = k
   ·
    subst h2
    rw [if_pos rfl, if_pos (by omega), if_pos (by simp)]; simp
   ·
    rw [if_neg h2, if_neg (by simp; omega)]
theorem cl_eq {n : Nat} {x : D} (h : Nat.beq n 1 = true → x.one = true) : x.cl n = x.cells := by
 unfold D.cl
 cases hb : Nat.beq n 1 with
 | true =>
  have := h hb
  cases x <;> simp_all [D.cells, D.one]
 | false => rfl
theorem cl_all {n : Nat} {x : D} (h : (x.cl n).all D.one = true) : x.cl n = x.cells := cl_eq fun hb => by
 unfold D.cl at h
 rw [hb] at h
 simpa using h
theorem fill_RD {ok : Nat → Prop} (place : Nat → Option (Nat × Nat)) : ∀ (xs : List (Nat × Operand)) (ps : List (Nat × D)) (cells ds : List D) (arr : Array Value),
  (ps.length = xs.length ∧ ∀ (i : Nat) j y, ps[i]? = some (j, y) → ∃ x, xs[i]? = some (j, x) ∧ RD w ok y (a.eval x)) → (ones place ps).all D.one = true → fillD place cells ps = some ds → CellsRD w ok cells arr →
  ∃ out, Instr.fill place arr (xs.map fun p => (p.1, a.eval p.2)) = some out ∧ CellsRD w ok ds out
 | [], [], cells, ds, arr, _, _, h, hc => by simp only [fillD, Option.some.injEq] at h; subst h; exact ⟨arr, rfl, hc⟩
 | [], p :: ps, _, _, _, hp, _, _, _ => by simp at hp
 | x :: xs, [], _, _, _, hp, _, _, _ => by simp at hp
 | (j0, x) :: xs, (j, y) :: ps, cells, ds, arr, hp, h1s, h, hc => by
  obtain ⟨x', h0, hy⟩ := hp.2 0 j y rfl
  simp only [List.getElem?_cons_zero, Option.some.injEq, Prod.mk.injEq] at h0
  obtain ⟨rfl, rfl⟩ := h0
  simp only [fillD] at h
  split at h
  ·
   rename_i off size hpl
   have hcl : y.cl size = y.cells ∧ (ones place ps).all D.one = true := by
    simp only [ones, hpl] at h1s
    cases hb : Nat.beq size 1 with
    | true =>
     rw [hb] at h1s
     simp only [cond_true, List.all_cons, Bool.and_eq_true] at h1s
     exact ⟨cl_eq fun _ => h1s.1, h1s.2⟩
    | false =>
     rw [hb] at h1s
     exact ⟨cl_eq fun h => (by rw [hb] at h; exact absurd h Bool.false_ne_true), h1s⟩
   rw [hcl.1] at h
   split at h
   ·
    rename_i hsz
    obtain ⟨h1, h2⟩ := RD_cells hy
    have h3 : (a.eval x).cells.size = size := by rw [h1]; exact hsz.1
    have hfold := foldl_put off (a.eval x).cells.toList 0 arr (by rw [Array.length_toList, h3, hc.1]; omega)
    have hz : (a.eval x).cells.zipIdx.foldl (fun cs (c : Value × Nat) => cs.setIfInBounds (off + c.2) c.1) arr = ((a.eval x).cells.toList.zipIdx 0).foldl (fun cs (c : Value × Nat) => cs.setIfInBounds (off + c.2) c.1) arr := by
     rw [← Array.foldl_toList, Array.toList_zipIdx]
    have hc' : CellsRD w ok (cells.take off ++ y.cells ++ cells.drop (off + size)) (((a.eval x).cells.toList.zipIdx 0).foldl (fun cs (c : Value × Nat) => cs.setIfInBounds (off + c.2) c.1) arr) := by
     refine ⟨by rw [hfold.1, hc.1]; simp only [List.length_append, List.length_take, List.length_drop]; omega, fun k z hk => ?_⟩
     rw [hfold.2 k, Nat.add_zero, Array.length_toList, h3]
     by_cases hin : off ≤ k ∧ k < off + size
     ·
      rw [if_pos hin]
      have : y.cells[k - off]? = some z := by
       rw [List.append_assoc, List.getElem?_append_right (by rw [List.length_take]; omega), List.length_take, Nat.min_eq_left (by omega), List.getElem?_append_left (by omega)] at hk
       exact hk
      obtain ⟨u, h6, h7⟩ := h2 _ _ this
      exact ⟨u, by simpa using h6, h7⟩
     ·
      rw [if_neg hin]
      refine hc.2 k z ?_
      by_cases hlt : k < off
      ·
       rw [List.append_assoc, List.getElem?_append_left (by rw [List.length_take]; omega), List.getElem?_take, if_pos hlt] at hk
       exact hk
      ·
       rw [List.getElem?_append_right (by rw [List.length_append, List.length_take]; omega), List.getElem?_drop, List.length_append, List.length_take, Nat.min_eq_left (by omega)] at hk
       rw [← hk]; congr 1; omega
    obtain ⟨out, h4, h5⟩ := fill_RD place xs ps _ ds _ ⟨by simpa using hp.1, fun i j' y' hi => by simpa using hp.2 (i + 1) j' y' (by simpa using hi)⟩ hcl.2 h hc'
    refine ⟨out, ?_, h5⟩
    simp only [List.map_cons, Instr.fill, hpl]
    rw [if_neg (by simp only [ne_eq, h3, not_true_eq_false, decide_false, Bool.false_or, decide_eq_true_eq]; rw [hc.1]; omega)]
    rw [← h4, ← hz]
   ·
    cases h
  ·
   cases h
theorem partsD_RD (hr : Rel' w0 ok0 st a w σ) {L : List Nat} : ∀ {xs : List (Nat × Operand)} {ps : List (Nat × D)}, partsD st xs = some ps → (∀ p ∈ xs, ∀ r ∈ lks st (st.ev p.2), r ∈ L) → ps.length = xs.length ∧ ∀ (i : Nat) j y, ps[i]? = some (j, y) → ∃ x, xs[i]? = some (j, x) ∧ RD w (okS w0 ok0 (st.lk L) σ w) y (a.eval x)
 | [], ps, h, _ => by simp only [partsD, Option.some.injEq] at h; subst h; exact ⟨rfl, fun i j y hi => by simp at hi⟩
 | (j0, x) :: xs, ps, h, hL => by
  simp only [partsD] at h
  split at h
  ·
   rename_i y ys h1 h2
   simp only [Option.some.injEq] at h
   subst h
   obtain ⟨h3, h4⟩ := partsD_RD hr h2 (fun p hp => hL p (by simp [hp]))
   refine ⟨by simp [h3], fun i j z hi => ?_⟩
   cases i with
   | zero =>
    simp only [List.getElem?_cons_zero, Option.some.injEq, Prod.mk.injEq] at hi
    obtain ⟨rfl, rfl⟩ := hi
    exact ⟨x, rfl, snap_RD hr (ev_RV hr x) h1 (fun r hr' => hL (j0, x) (by simp) r hr')⟩
   | succ i => simpa using h4 i j z (by simpa using hi)
  ·
   cases h
theorem places_of {P : Program} : ∀ (fs : List Field) (l : List (Nat × Nat)), (fs.map fun f => (f.offset, ((P.info? f.type).map (·.size)).getD 0)) = l → (∀ p ∈ l, 0 < p.2) → fs.mapM (fun f => (P.info? f.type).map fun i => (f.offset, i.size)) = some l
 | [], l, h, _ => by simp at h; subst h; rfl
 | f :: fs, l, h, hp => by
  simp only [List.map_cons] at h
  subst h
  have ih := places_of (P := P) fs _ rfl (fun p hp' => hp p (by simp [hp']))
  have h0 := hp (f.offset, ((P.info? f.type).map (·.size)).getD 0) (by simp)
  simp only at h0
  cases hi : P.info? f.type with
  | none => rw [hi] at h0; simp at h0
  | some i => simp [List.mapM_cons, hi, ih]
theorem mem_lkss {xs : List (Nat × Operand)} {p : Nat × Operand} (hp : p ∈ xs) {r : Nat} (hr : r ∈ lks st (st.ev p.2)) : r ∈ lkss st (xs.map fun p => st.ev p.2) := List.mem_flatMap.2 ⟨_, List.mem_map.2 ⟨p, hp, rfl⟩, hr⟩
theorem snd_build (hT : TOk P T) (h : Rel w0 ok0 st a w) {t : TypeId} {parts : Array (Nat × Operand)} (ho : o.op = .build t parts) {i : TI} (hi : T t = some i) {fs : List (Nat × Nat)} (hk : i.k = .struct fs) {ps : List (Nat × D)} (hps : partsD st parts.toList = some ps) {cs : List D} (hcs : fillD (fs[·]?) i.zero.cells ps = some cs)
  (h0 : (ones (fs[·]?) ps).all D.one = true) (h1 : cs.all D.one = true) (hwp : K ((st.lk (lkss st (parts.toList.map fun p => st.ev p.2))).put o.dst (.d (.agg cs)))) : o.wp P a w (fun a' w' => ∃ st', K st' ∧ Rel w0 ok0 st' a' w') Q := by
 obtain ⟨σ, hr⟩ := h.rel
 obtain ⟨f, e1, e2, e3, e4, _, z, e5, e6⟩ := ti_info hT hi
 obtain ⟨fields, e7, e8, e9⟩ := kind_struct hT (show kind T t = some (.struct fs) by simp [kind, hi, hk])
 have hz := zok_cells (w := w) (ok := okS w0 ok0 (st.lk (lkss st (parts.toList.map fun p => st.ev p.2))) σ w) e6
 obtain ⟨out, e10, e11⟩ := fill_RD (fs[·]?) parts.toList ps _ cs z.cells (partsD_RD hr hps (fun p hp r hr' => mem_lkss hp hr')) h0 hcs ⟨hz.1.symm, fun i y hy => by obtain ⟨u, h2, h3, _⟩ := hz.2 i y hy; exact ⟨u, h2, h3⟩⟩
 refine val_wp (L := lkss st (parts.toList.map fun p => st.ev p.2)) (x := .d (.agg cs)) (v := .agg out) ?_ h hr (fun r hr => by cases hr) ?_ hwp
 ·
  have hb : P.built t (parts.map fun p => (p.1, a.eval p.2)).toList = some out := by
   unfold Program.built
   simp only [e1, e7, e5, places_of _ _ e8 e9]
   rw [Array.toList_map]
   simpa using e10
  have := run_build w t _ out hb
  simp [execOp, ho, this]
 ·
  exact .agg cs out (fun i => out.getD i undef) e11.1 (fun i hi => by
   obtain ⟨u, h2, _⟩ := e11.2 i _ (List.getElem?_eq_getElem hi)
   rw [h2]; simp [h2]) (fun i y hy => by
   obtain ⟨u, h2, h3⟩ := e11.2 i y hy
   have : out.getD i undef = u := by simp [h2]
   rw [this]; exact h3) (fun x hx => (List.all_eq_true.1 h1) x hx)
end Ab
/- Objects that are made, cells that are written, rows that grow, calls. -/
namespace Ab
open Go Go.RowKit
set_option linter.unusedVariables false
variable {P : Program} {T : TT} {w0 w w' : World} {ok0 : Nat → Prop} {st : AS} {a : Act} {o : Oper} {K : AS → Prop} {Q : Exit → Act → World → Prop} {σ : Nat → Option (Nat × Nat)}
theorem Rel'.lk (L : List Nat) (hr : Rel' w0 ok0 st a w σ) : Rel' w0 ok0 (st.lk L) a w σ := by
 cases L with
 | nil => exact hr
 | cons y ys =>
  refine ⟨fun r r' g m m' e1 e2 => hr.inj r r' g m m' (leak_ne.1 e1) (leak_ne.1 e2), fun r ob e1 => ?_, fun t => (hr.tm t).step (fun k hk _ => ⟨okS_leak hk, rfl⟩) (fun k hk => .inr (okS_leak hk))⟩
  obtain ⟨ob', e2, e3, e4, _⟩ := leak_some e1
  have := hr.ob r ob' e2
  rw [e3, e4]
  cases hs : σ r with
  | none => rw [hs] at this; exact this
  | some gm =>
   obtain ⟨g, m⟩ := gm
   rw [hs] at this
   obtain ⟨e5, us, e6, e7, e8⟩ := this
   refine ⟨e5, us, e6, e7, fun p z hp => ?_⟩
   obtain ⟨u, e9, e10, e11⟩ := e8 p z hp
   exact ⟨u, e9, e10.step (fun k hk _ => ⟨okS_leak hk, rfl⟩) (fun k hk => .inr (okS_leak hk)), e11⟩
theorem okS_later {k : Nat} (hb : Below w.heap.size w w') (h1 : okS w0 ok0 st σ w k) : okS w0 ok0 st σ w' k := ⟨h1.1, Nat.lt_of_lt_of_le h1.2.1 hb.size, h1.2.2⟩
theorem Rel'.later (hr : Rel' w0 ok0 st a w σ) (hb : Below w.heap.size w w') : Rel' w0 ok0 st a w' σ := by
 have hk : ∀ k, okS w0 ok0 st σ w k → k < w.heap.size → okS w0 ok0 st σ w' k ∧ w'.heap[k]? = w.heap[k]? := fun k h1 h2 => ⟨okS_later hb h1, hb.block k h2⟩
 have hp : ∀ k, okS w0 ok0 st σ w k → k < w.heap.size ∨ okS w0 ok0 st σ w' k := fun k h1 => .inl h1.2.1
 refine ⟨hr.inj, fun r ob h1 => ?_, fun t => (hr.tm t).step hk hp⟩
 have := hr.ob r ob h1
 cases hs : σ r with
 | none => rw [hs] at this; exact this
 | some gm =>
  obtain ⟨g, m⟩ := gm
  rw [hs] at this
  obtain ⟨h6, us, h7, h8, h9⟩ := this
  have hlt : g < w.heap.size := (Array.getElem?_eq_some_iff.1 h7).1
  refine ⟨h6, us, by rw [hb.block g hlt]; exact h7, h8, fun p x hp' => ?_⟩
  obtain ⟨u, h10, h11, h12⟩ := h9 p x hp'
  exact ⟨u, h10, h11.step hk hp, h12⟩
/-- a value, in a later world -/
theorem later_wp {v : Value} {x : D} {L : List Nat} (h : Rel w0 ok0 st a w) (hr : Rel' w0 ok0 st a w σ) (hb : Below w.heap.size w w') (hv : RD w' (okS w0 ok0 (st.lk L) σ w') x v) : Rel w0 ok0 ((st.lk L).put o.dst (.d x)) (a.put o.dst v) w' := by
 obtain ⟨h1, h2, h3, h4, _⟩ := (h.lk L).later hb
 exact ⟨h1.put (fun r hr => by cases hr), by rw [act_put_defers]; exact h2, by rw [act_put_size]; exact h3, h4, σ, ((hr.lk L).later hb).put h3 hv⟩
theorem flat_get (l : List D) : ∀ (n p : Nat), (List.replicate n l).flatten[p]? = if p < n * l.length then l[p % l.length]? else none
 | 0, p => by simp
 | n + 1, p => by
  rw [List.replicate_succ, List.flatten_cons]
  by_cases h : p < l.length
  ·
   rw [List.getElem?_append_left h, if_pos (by rw [Nat.add_mul, Nat.one_mul]; omega), Nat.mod_eq_of_lt h]
  ·
   rw [List.getElem?_append_right (by omega), flat_get l n (p - l.length)]
   have h0 : 0 < l.length ∨ l.length = 0 := by omega
   rcases h0 with h0 | h0
   ·
    rw [← Nat.mod_eq_sub_mod (by omega)]
    by_cases h1 : p - l.length < n * l.length
    ·
     rw [if_pos h1, if_pos (by rw [Nat.add_mul, Nat.one_mul]; omega)]
    ·
     rw [if_neg h1, if_neg (by rw [Nat.add_mul, Nat.one_mul]; omega)]
   ·
    simp [h0]
theorem flat_length (l : List D) (n : Nat) : (List.replicate n l).flatten.length = n * l.length := by
 induction n with
 | zero => simp
 | succ n ih => rw [List.replicate_succ, List.flatten_cons, List.length_append, ih, Nat.add_mul, Nat.one_mul, Nat.add_comm]
theorem made_get (z : Array Value) (m p : Nat) : (madeCells z m)[p]? = if p < m then some (z[p % z.size]!) else none := by
 by_cases h : p < m
 ·
  rw [if_pos h]; simp [madeCells, h]
 ·
  rw [if_neg h]; simp [madeCells, h]
/-- so many zero values -/
theorem zero_cells {ok : Nat → Prop} (hT : TOk P T) {e : TypeId} {i : TI} (hi : T e = some i) {f : TypeInfo} {z : Value} (e1 : P.info? e = some f) (e5 : f.zero = some z) (n : Nat) :
  (madeCells z.cells (n * f.size)).size = (List.replicate n i.zero.cells).flatten.length ∧ ∀ (p : Nat) y, (List.replicate n i.zero.cells).flatten[p]? = some y → ∃ u, (madeCells z.cells (n * f.size))[p]? = some u ∧ RD w ok y u ∧ y.one = true := by
 obtain ⟨f', e1', e2, e3, ⟨e4, e7⟩, _, z', e5', e6⟩ := ti_info hT hi
 rw [e1] at e1'; cases e1'
 rw [e5] at e5'; cases e5'
 obtain ⟨h1, h2⟩ := zok_cells (w := w) (ok := ok) e6
 refine ⟨by rw [size_madeCells, flat_length, e7, e2], fun p y hp => ?_⟩
 rw [flat_get] at hp
 split at hp
 ·
  rename_i hlt
  rw [e7] at hlt hp
  obtain ⟨u, h3, h4, h5⟩ := h2 _ y hp
  refine ⟨u, ?_, h4, h5⟩
  rw [made_get, e2, if_pos hlt, ← h1, e7]
  have : z.cells[p % i.size]! = u := by rw [getElem!_def, h3]
  rw [this]
 ·
  cases hp
theorem okS_new {g : Nat} (h : Rel w0 ok0 st a w) (hr : Rel' w0 ok0 st a w σ) (hb : Below w.heap.size w w') (hg : w.heap.size ≤ g) (hg' : g < w'.heap.size) : okS w0 ok0 st σ w' g :=
 okS_of_new hr hb (fun h' => by omega) hg' h.below.size
theorem snd_buildSlice (hT : TOk P T) (h : Rel w0 ok0 st a w) {t e : TypeId} {len : Nat} {parts : Array (Nat × Operand)} (ho : o.op = .buildSlice t len parts) (ht : kind T t = some (.slice e)) {i : TI} (hi : T e = some i) {ps : List (Nat × D)} (hps : partsD st parts.toList = some ps) {cs : List D} (hcs : fillD (fun j => some (j * i.size, i.size)) (List.replicate len i.zero.cells).flatten ps = some cs)
  (h0s : (ones (fun j => some (j * i.size, i.size)) ps).all D.one = true) (h2 : len * i.size ≤ 16777216) (hwp : K ((st.lk (lkss st (parts.toList.map fun p => st.ev p.2))).put o.dst (.d (.sl len cs)))) : o.wp P a w (fun a' w' => ∃ st', K st' ∧ Rel w0 ok0 st' a' w') Q := by
 obtain ⟨σ, hr⟩ := h.rel
 obtain ⟨f, e1, e2, e3, ⟨e4, e7⟩, _, z, e5, e6⟩ := ti_info hT hi
 have hu := kind_slice hT ht
 obtain ⟨L, hL⟩ : ∃ L, L = lkss st (parts.toList.map fun p => st.ev p.2) := ⟨_, rfl⟩
 rw [← hL] at hwp
 obtain ⟨z1, z2⟩ := zero_cells (w := w) (ok := okS w0 ok0 (st.lk L) σ w) hT hi e1 e5 len
 obtain ⟨out, e10, e11⟩ := fill_RD (fun j => some (j * i.size, i.size)) parts.toList ps _ cs (madeCells z.cells (len * f.size)) (partsD_RD hr hps (fun p hp r hr' => hL ▸ mem_lkss hp hr')) h0s hcs ⟨z1, fun p y hp => by obtain ⟨u, h2, h3, _⟩ := z2 p y hp; exact ⟨u, h2, h3⟩⟩
 have hrun : (Instr.buildSlice t len (parts.map fun p => (p.1, a.eval p.2))).run P w = .ok (.slice (some ⟨w.heap.size, 0, none⟩) len len) (w.alloc (.cells out e)) := by
  by_cases h0 : len * f.size = 0
  ·
   have hl0 : len = 0 := by rw [e2] at h0; rcases Nat.mul_eq_zero.1 h0 with h | h <;> omega
   subst hl0
   have hm : (madeCells z.cells (0 * f.size)) = #[] := by simp [madeCells]
   rw [hm] at e10
   have e10' : Instr.fill (fun j => some (j * i.size, i.size)) #[] (parts.map fun p => (p.1, a.eval p.2)).toList = some out := by rw [Array.toList_map]; exact e10
   rw [← e2] at e10'
   have e10'' : Instr.fill (fun j => some (j * f.size, f.size)) #[] (List.map (fun p => (p.1, a.eval p.2)) parts.toList) = some out := by rw [← Array.toList_map]; exact e10'
   simp [Instr.buildSlice, run_underlying hu, Go.sizeOf, typeInfo, e1, e10'', newRow, Array.range_zero']
  ·
   refine run_buildSlice w t e len _ out f z hu e1 e5 (by rw [e2]; omega) h0 ?_
   rw [e2, Array.toList_map]
   have : madeCells z.cells (len * f.size) = (Array.range (len * i.size)).map (z.cells[· % z.cells.size]!) := by rw [e2]; rfl
   rw [← this]; exact e10
 have hb : Below w.heap.size w (w.alloc (.cells out e)) := Below.alloc (Below.refl _ _) (Nat.le_refl _) _
 have hexec : (execOp a.eval o).run P w = .ok (.value (.slice (some ⟨w.heap.size, 0, none⟩) len len)) (w.alloc (.cells out e)) := by
  simp [execOp, ho, hrun]
 unfold Oper.wp
 rw [hexec]
 refine ⟨_, hwp, later_wp h hr hb ?_⟩
 refine .sl len cs _ len (fun p => out.getD p undef) (Nat.le_refl _) (fun hne => ⟨_, rfl, okS_new (h.lk L) (hr.lk L) hb (Nat.le_refl _) (by simp), fun p hp => ?_⟩) (fun p y hp => ?_)
 ·
  obtain ⟨u, h3, _⟩ := e11.2 p _ (List.getElem?_eq_getElem hp)
  rw [cell_row (heap_alloc_new w _), Nat.zero_add, h3]; simp [h3]
 ·
  obtain ⟨u, h3, h4⟩ := e11.2 p y hp
  have : out.getD p undef = u := by simp [h3]
  rw [this]
  exact RD.step h4 (fun k hk hlt => ⟨okS_later hb hk, hb.block k hlt⟩) (fun k hk => .inl hk.2.1)
/-- an object of the function's own is made -/
theorem new_wp {e : TypeId} {cs : Cl} {us : Array Value} {d : Nat} {v : Value} {x : AV} (hd : o.dst = some d) (h : Rel w0 ok0 st a w) (hrun : (execOp a.eval o).run P w = .ok (.value v) (w.alloc (.cells us e))) (hn : st.H d = none) (hob : ∀ l, cs = .a l → ∀ x ∈ l, live st x)
  (hc : ∀ σ, Rel' w0 ok0 st a w σ → ∀ p x, cs.at p = some x → ∃ u, us[p]? = some u ∧ RV w (okS w0 ok0 st σ w) σ x u ∧ u.oneCell' = true)
  (hx : ∀ (σ' : Nat → Option (Nat × Nat)) (ok : Nat → Prop), σ' d = some (w.heap.size, us.size) → RV (w.alloc (.cells us e)) ok σ' x v) (hnm : ∀ r, x.names = some r → r = d)
  (hK : K ((st.new d ⟨e, cs, false⟩).put (some d) x)) : o.wp P a w (fun a' w' => ∃ st', K st' ∧ Rel w0 ok0 st' a' w') Q := by
 unfold Oper.wp
 rw [hrun]
 obtain ⟨σ', h1, h2, h3⟩ := h.new hn hob hc
 obtain ⟨g1, g2, g3, g4, _⟩ := h1
 refine ⟨_, hK, ?_⟩
 rw [hd]
 have hl : live (st.new d ⟨e, cs, false⟩) x := fun r hr => by
  rw [hnm r hr]
  show upd st.H d (some ⟨e, cs, false⟩) d ≠ none
  rw [upd_self]; simp
 exact ⟨g1.put hl, by rw [act_put_defers]; exact g2, by rw [act_put_size]; exact g3, g4, σ', h2.put g3 (hx σ' _ h3)⟩
theorem snd_alloc (hT : TOk P T) (h : Rel w0 ok0 st a w) {t : TypeId} (ho : o.op = .alloc t) {i : TI} (hi : T t = some i) (hwp : Comp.wp P o.dst st K (.new ⟨t, .a (i.zero.cells.map .d), false⟩ (.optr · 0))) : o.wp P a w (fun a' w' => ∃ st', K st' ∧ Rel w0 ok0 st' a' w') Q := by
 obtain ⟨f, e1, e2, e3, ⟨e4, e7⟩, _, z, e5, e6⟩ := ti_info hT hi
 cases hd : o.dst with
 | none => rw [hd] at hwp; exact hwp.elim
 | some d =>
  rw [hd] at hwp
  obtain ⟨h1, h2⟩ := hwp
  refine new_wp (us := z.cells) (v := .pointer (some ⟨w.heap.size, 0, none⟩)) hd h ?_ h1 (fun l hl x hx => ?_) (fun σ hr p x hp => ?_) (fun σ' ok hs => by simp only [RV, hs]) (fun r hr => by cases hr; rfl) h2
  ·
   simp [execOp, ho, Instr.alloc, zeroValue, typeInfo, e1, e5, newVar, newRow]
  ·
   cases hl
   obtain ⟨y, _, rfl⟩ := List.mem_map.1 hx
   intro r hr; cases hr
  ·
   simp only [Cl.at, List.getElem?_map, Option.map_eq_some_iff] at hp
   obtain ⟨y, hy, rfl⟩ := hp
   obtain ⟨u, h3, h4, h5⟩ := (zok_cells e6).2 p y hy
   exact ⟨u, h3, h4, RD.one h4 h5⟩
theorem snd_box (h : Rel w0 ok0 st a w) {t : TypeId} {x : Operand} (ho : o.op = .box t x) {y : D} (hx : st.ev x = .d y) (hone : y.cells.all D.one = true) (hwp : Comp.wp P o.dst st K (.new ⟨t, .a (y.cells.map .d), false⟩ (.optr · 0))) : o.wp P a w (fun a' w' => ∃ st', K st' ∧ Rel w0 ok0 st' a' w') Q := by
 cases hd : o.dst with
 | none => rw [hd] at hwp; exact hwp.elim
 | some d =>
  rw [hd] at hwp
  obtain ⟨h1, h2⟩ := hwp
  refine new_wp (us := (a.eval x).cells) (v := .pointer (some ⟨w.heap.size, 0, none⟩)) hd h ?_ h1 (fun l hl x hx => ?_) (fun σ hr p z hp => ?_) (fun σ' ok hs => by simp only [RV, hs]) (fun r hr => by cases hr; rfl) h2
  ·
   simp [execOp, ho, Instr.box, newVar, newRow]
  ·
   cases hl
   obtain ⟨y, _, rfl⟩ := List.mem_map.1 hx
   intro r hr; cases hr
  ·
   simp only [Cl.at, List.getElem?_map, Option.map_eq_some_iff] at hp
   obtain ⟨q, hq, rfl⟩ := hp
   have hv := ev_RV hr x
   rw [hx] at hv
   obtain ⟨u, h3, h4⟩ := (RD_cells hv).2 p q hq
   exact ⟨u, h3, h4, RD.one h4 (List.all_eq_true.1 hone q (List.mem_of_getElem? hq))⟩
theorem snd_boxo (h : Rel w0 ok0 st a w) {t : TypeId} {x : Operand} (ho : o.op = .box t x) {r off n sz : Nat} {wh : Bool} (hx : st.ev x = .osl r off n sz wh) (hwp : Comp.wp P o.dst st K (.new ⟨t, .a [.osl r off n sz wh], false⟩ (.optr · 0))) : o.wp P a w (fun a' w' => ∃ st', K st' ∧ Rel w0 ok0 st' a' w') Q := by
 cases hd : o.dst with
 | none => rw [hd] at hwp; exact hwp.elim
 | some d =>
  rw [hd] at hwp
  obtain ⟨h1, h2⟩ := hwp
  have hlv := ev_live h.wf x
  rw [hx] at hlv
  have hsl : ∀ σ, Rel' w0 ok0 st a w σ → ∃ A n c, a.eval x = .slice A n c := fun σ hr => by
   have hv := ev_RV hr x
   rw [hx] at hv
   simp only [RV] at hv
   split at hv
   ·
    obtain ⟨c, h3, _⟩ := hv; exact ⟨_, _, _, h3⟩
   ·
    exact ⟨_, _, _, hv.1⟩
  refine new_wp (us := (a.eval x).cells) (v := .pointer (some ⟨w.heap.size, 0, none⟩)) hd h ?_ h1 (fun l hl y hy => ?_) (fun σ hr p z hp => ?_) (fun σ' ok hs => by simp only [RV, hs]) (fun r hr => by cases hr; rfl) h2
  ·
   simp [execOp, ho, Instr.box, newVar, newRow]
  ·
   cases hl
   simp only [List.mem_singleton] at hy
   rw [hy]; exact hlv
  ·
   have hv := ev_RV hr x
   rw [hx] at hv
   obtain ⟨A, n', c, h3⟩ := hsl σ hr
   cases p with
   | zero =>
    simp only [Cl.at, List.getElem?_cons_zero, Option.some.injEq] at hp
    subst hp
    exact ⟨a.eval x, by rw [h3]; rfl, hv, by rw [h3]; rfl⟩
   | succ p => simp [Cl.at] at hp
theorem snd_makeSlice (hT : TOk P T) (h : Rel w0 ok0 st a w) {t e : TypeId} {x y : Operand} (ho : o.op = .makeSlice t x y) (ht : kind T t = some (.slice e)) {i : TI} (hi : T e = some i) {k k' : IntKind} {n c : Int} (hx : st.ev x = .d (.int k n)) (hy : st.ev y = .d (.int k' c)) (h0 : 0 ≤ n ∧ n ≤ c ∧ i.bytes * c ≤ 281474976710656 ∧ c ≤ 9223372036854775807)
  (hwp : Comp.wp P o.dst st K (.new ⟨e, .d (List.replicate n.toNat i.zero.cells).flatten, false⟩ (.osl · 0 n.toNat i.size true))) : o.wp P a w (fun a' w' => ∃ st', K st' ∧ Rel w0 ok0 st' a' w') Q := by
 obtain ⟨f, e1, e2, e3, ⟨e4, e7⟩, _, z, e5, e6⟩ := ti_info hT hi
 have hu := kind_slice hT ht
 obtain ⟨σ, hr⟩ := h.rel
 cases hd : o.dst with
 | none => rw [hd] at hwp; exact hwp.elim
 | some d =>
  rw [hd] at hwp
  obtain ⟨h1, h2⟩ := hwp
  have hrun := run_make (P := P) w t e f z hu e1 e5 k k' n c h0.1 h0.2.1 (by rw [e3]; exact h0.2.2.1) h0.2.2.2
  refine new_wp (us := madeCells z.cells (c.toNat * f.size)) (v := .slice (some ⟨w.heap.size, 0, none⟩) n.toNat c.toNat) hd h ?_ h1 (fun l hl x hx => by cases hl) (fun σ hr p x hp => ?_) (fun σ' ok hs => ?_) (fun r hr => by cases hr; rfl) h2
  ·
   simp [execOp, ho, ev_int hr hx, ev_int hr hy, hrun]
  ·
   simp only [Cl.at, Option.map_eq_some_iff] at hp
   obtain ⟨q, hq, rfl⟩ := hp
   have hp' : p < n.toNat * i.size := by
    have := (List.getElem?_eq_some_iff.1 hq).1
    rw [flat_length, e7] at this; exact this
   obtain ⟨u, h3, h4, h5⟩ := (zero_cells (w := w) (ok := okS w0 ok0 st σ w) hT hi e1 e5 n.toNat).2 p q hq
   refine ⟨u, ?_, h4, RD.one h4 h5⟩
   rw [made_get] at h3 ⊢
   rw [e2] at h3 ⊢
   rw [if_pos hp'] at h3
   rw [if_pos (Nat.lt_of_lt_of_le hp' (Nat.mul_le_mul_right _ (by omega)))]; exact h3
  ·
   simp only [RV, hs]
   refine ⟨c.toNat, rfl, by omega, by unfold maxLen; omega, by rw [size_madeCells, e2]; omega, fun _ => ⟨trivial, by rw [size_madeCells, e2]⟩⟩
theorem fillD_len {place : Nat → Option (Nat × Nat)} : ∀ {ps : List (Nat × D)} {cells ds : List D}, fillD place cells ps = some ds → ds.length = cells.length
 | [], cells, ds, h => by simp only [fillD, Option.some.injEq] at h; rw [h]
 | (i, x) :: rest, cells, ds, h => by
  simp only [fillD] at h
  split at h
  ·
   rename_i off size hpl
   split at h
   ·
    rename_i hsz
    rw [fillD_len h]
    simp only [List.length_append, List.length_take, List.length_drop]
    omega
   ·
    cases h
  ·
   cases h
theorem cD_lks (v : Value) : lks st (cD v) = [] := by
 unfold cD
 split <;> rfl
theorem const_lks {xs : List (Nat × Operand)} (h : constParts xs = true) : ∀ p ∈ xs, ∀ r ∈ lks st (st.ev p.2), r ∈ ([] : List Nat) := fun p hp r hr => by
 have := List.all_eq_true.1 h p hp
 split at this
 ·
  rename_i v hv
  rw [hv] at hr
  have e : st.ev (.const v) = cD v := rfl
  rw [e, cD_lks] at hr
  exact hr
 ·
  cases this
theorem snd_buildSliceO (hT : TOk P T) (h : Rel w0 ok0 st a w) {t e : TypeId} {len : Nat} {parts : Array (Nat × Operand)} (ho : o.op = .buildSlice t len parts) (ht : kind T t = some (.slice e)) {i : TI} (hi : T e = some i) {ps : List (Nat × D)} (hps : partsD st parts.toList = some ps) {cs : List D} (hcs : fillD (fun j => some (j * i.size, i.size)) (List.replicate len i.zero.cells).flatten ps = some cs)
  (hconst : constParts parts.toList = true) (h0s : (ones (fun j => some (j * i.size, i.size)) ps).all D.one = true) (h1 : cs.all D.one = true) (h2 : len * i.size ≤ 16777216) (hmax : len ≤ maxLen) (hwp : Comp.wp P o.dst st K (.new ⟨e, .d cs, false⟩ (.osl · 0 len i.size true))) : o.wp P a w (fun a' w' => ∃ st', K st' ∧ Rel w0 ok0 st' a' w') Q := by
 obtain ⟨σ, hr⟩ := h.rel
 obtain ⟨f, e1, e2, e3, ⟨e4, e7⟩, _, z, e5, e6⟩ := ti_info hT hi
 have hu := kind_slice hT ht
 have fillAny : ∀ σ, Rel' w0 ok0 st a w σ → ∃ out, Instr.fill (fun j => some (j * i.size, i.size)) (madeCells z.cells (len * f.size)) (parts.toList.map fun p => (p.1, a.eval p.2)) = some out ∧ CellsRD w (okS w0 ok0 (st.lk []) σ w) cs out := fun σ hr => by
  obtain ⟨z1, z2⟩ := zero_cells (w := w) (ok := okS w0 ok0 (st.lk []) σ w) hT hi e1 e5 len
  exact fill_RD (fun j => some (j * i.size, i.size)) parts.toList ps _ cs (madeCells z.cells (len * f.size)) (partsD_RD hr hps (const_lks hconst)) h0s hcs ⟨z1, fun p y hp => by obtain ⟨u, h2, h3, _⟩ := z2 p y hp; exact ⟨u, h2, h3⟩⟩
 obtain ⟨out, e10, e11⟩ := fillAny σ hr
 have hrun : (Instr.buildSlice t len (parts.map fun p => (p.1, a.eval p.2))).run P w = .ok (.slice (some ⟨w.heap.size, 0, none⟩) len len) (w.alloc (.cells out e)) := by
  by_cases h0 : len * f.size = 0
  ·
   have hl0 : len = 0 := by rw [e2] at h0; rcases Nat.mul_eq_zero.1 h0 with h | h <;> omega
   subst hl0
   have hm : (madeCells z.cells (0 * f.size)) = #[] := by simp [madeCells]
   rw [hm] at e10
   have e10' : Instr.fill (fun j => some (j * i.size, i.size)) #[] (parts.map fun p => (p.1, a.eval p.2)).toList = some out := by rw [Array.toList_map]; exact e10
   rw [← e2] at e10'
   have e10'' : Instr.fill (fun j => some (j * f.size, f.size)) #[] (List.map (fun p => (p.1, a.eval p.2)) parts.toList) = some out := by rw [← Array.toList_map]; exact e10'
   simp [Instr.buildSlice, run_underlying hu, Go.sizeOf, typeInfo, e1, e10'', newRow, Array.range_zero']
  ·
   refine run_buildSlice w t e len _ out f z hu e1 e5 (by rw [e2]; omega) h0 ?_
   rw [e2, Array.toList_map]
   have : madeCells z.cells (len * f.size) = (Array.range (len * i.size)).map (z.cells[· % z.cells.size]!) := by rw [e2]; rfl
   rw [← this]; exact e10
 have hsize : out.size = len * i.size := by
  rw [e11.1]
  have := fillD_len hcs
  rw [this, flat_length, e7]
 cases hd : o.dst with
 | none => rw [hd] at hwp; exact hwp.elim
 | some d =>
  rw [hd] at hwp
  obtain ⟨h3, h4⟩ := hwp
  refine new_wp (us := out) (v := .slice (some ⟨w.heap.size, 0, none⟩) len len) hd h ?_ h3 (fun l hl x hx => by cases hl) (fun σ' hr' p x hp => ?_) (fun σ' ok hs => ?_) (fun r hr => by cases hr; rfl) h4
  ·
   simp [execOp, ho, hrun]
  ·
   obtain ⟨out', e12, e13⟩ := fillAny σ' hr'
   obtain rfl : out = out' := Option.some.inj (e10.symm.trans e12)
   simp only [Cl.at, Option.map_eq_some_iff] at hp
   obtain ⟨q, hq, rfl⟩ := hp
   obtain ⟨u, h5, h6⟩ := e13.2 p q hq
   exact ⟨u, h5, h6, RD.one h6 (List.all_eq_true.1 h1 q (List.mem_of_getElem? hq))⟩
  ·
   simp only [RV, hs]
   exact ⟨len, rfl, Nat.le_refl _, hmax, by rw [hsize]; omega, fun _ => ⟨trivial, hsize.symm⟩⟩
end Ab
/- Stores, rows that grow, calls; all operations together. -/
namespace Ab
open Go Go.RowKit
set_option linter.unusedVariables false
variable {P : Program} {T : TT} {w0 w w' : World} {ok0 : Nat → Prop} {st : AS} {a : Act} {o : Oper} {K : AS → Prop} {Q : Exit → Act → World → Prop} {σ : Nat → Option (Nat × Nat)}
theorem setl_cons {r p : Nat} {x : AV} {xs : List AV} : st.setl r p (x :: xs) = (st.setc r p x).setl r (p + 1) xs := rfl
theorem Rel.mk' (h : Rel w0 ok0 st a w) {st' : AS} {w' : World} (h1 : WF st') (h2 : st'.N = st.N) (h3 : Below w0.heap.size w0 w') (h4 : Rel' w0 ok0 st' a w' σ) : Rel w0 ok0 st' a w' := ⟨h1, h.defers, by rw [h2]; exact h.size, h3, σ, h4⟩
theorem at_lt {c : Cl} {p : Nat} (h : p < c.len) : ∃ x, c.at p = some x := by
 cases c with
 | d l => exact ⟨.d (l[p]'h), by rw [Cl.at, List.getElem?_eq_getElem (show p < l.length from h)]; rfl⟩
 | a l => exact ⟨l[p]'h, List.getElem?_eq_getElem h⟩
theorem len_setc {c : Cl} {p : Nat} {x : AV} : (c.set p x).len = c.len := by
 cases c with
 | a l => simp [Cl.set, Cl.len]
 | d l => cases x <;> simp [Cl.set, Cl.len]
theorem takes_set {c : Cl} {p : Nat} {x y : AV} : (c.set p x).takes y ↔ c.takes y := by
 cases c with
 | a l => exact Iff.rfl
 | d l => cases x <;> cases y <;> exact Iff.rfl
/-- cells written one after the other -/
theorem store_cells {r g m off : Nat} (hs : σ r = some (g, m)) : ∀ (xs : List AV) (vs : List Value) (st : AS) (w : World) (i : Nat) (ob : Ob), Rel w0 ok0 st a w → Rel' w0 ok0 st a w σ → st.H r = some ob → ob.lk = false → off + i + xs.length ≤ ob.cs.len → xs.length = vs.length → (∀ x ∈ xs, ob.cs.takes x ∧ live st x) →
  (∀ (j : Nat) x v, xs[j]? = some x → vs[j]? = some v → RV w (okS w0 ok0 st σ w) σ x v ∧ v.oneCell' = true) → ∃ w', (storeCells ⟨g, off, none⟩ vs i).run P w = .ok () w' ∧ Rel w0 ok0 (st.setl r (off + i) xs) a w'
 | [], [], st, w, i, ob, h, hr, _, _, _, _, _, _ => ⟨w, rfl, h⟩
 | [], v :: vs, _, _, _, _, _, _, _, _, _, hl, _, _ => by simp at hl
 | x :: xs, [], _, _, _, _, _, _, _, _, _, hl, _, _ => by simp at hl
 | x :: xs, v :: vs, st, w, i, ob, h, hr, hob, hlk, hlen, hl, ht, hv => by
  simp only [List.length_cons] at hlen hl
  obtain ⟨hx, h1⟩ := hv 0 x v rfl rfl
  obtain ⟨ht1, hl1⟩ := ht x (by simp)
  have hob2 := hr.ob r ob hob
  rw [hs] at hob2
  obtain ⟨h5, us, h6, h7, h8⟩ := hob2
  obtain ⟨y, hy⟩ := at_lt (c := ob.cs) (p := off + i) (by omega)
  obtain ⟨u, h9, _⟩ := h8 _ y hy
  have hpm : off + i < m := by rw [← h7]; exact (Array.getElem?_eq_some_iff.1 h9).1
  have hset := Rel'.setc h.wf hr hob hlk hs hpm ht1 hx h1
  have hb : Below w0.heap.size w0 (w.setCell ⟨g, off + i, none⟩ v) := h.below.setCell h5 v
  have hrel : Rel w0 ok0 (st.setc r (off + i) x) a (w.setCell ⟨g, off + i, none⟩ v) := h.mk' (h.wf.setc hl1) rfl hb hset
  have hok : ∀ k, okS w0 ok0 st σ w k → k < w.heap.size → okS w0 ok0 (st.setc r (off + i) x) σ (w.setCell ⟨g, off + i, none⟩ v) k ∧ (w.setCell ⟨g, off + i, none⟩ v).heap[k]? = w.heap[k]? := fun k h2 h3 => by
   refine ⟨⟨h2.1, by simpa using h3, fun r' ob' g' m' h4 h5 h6 => ?_⟩, heap_setCell_other w _ k v (h2.2.2 r ob g m hob hlk hs)⟩
   by_cases e : r' = r
   ·
    subst e
    rw [setc_self hob] at h4; cases h4
    exact h2.2.2 r' ob g' m' hob h5 h6
   ·
    rw [setc_ne e] at h4; exact h2.2.2 r' ob' g' m' h4 h5 h6
  obtain ⟨w', h10, h11⟩ := store_cells (off := off) hs xs vs (st.setc r (off + i) x) (w.setCell ⟨g, off + i, none⟩ v) (i + 1) { ob with cs := ob.cs.set (off + i) x } hrel hset (setc_self hob) hlk (by show _ ≤ (ob.cs.set (off + i) x).len; rw [len_setc]; omega) (by omega)
   (fun z hz => ⟨takes_set.2 (ht z (by simp [hz])).1, live_setc.2 (ht z (by simp [hz])).2⟩)
   (fun j z u hz hu => by
    obtain ⟨h2, h3⟩ := hv (j + 1) z u (by simpa using hz) (by simpa using hu)
    exact ⟨h2.step hok (fun k hk => .inl hk.2.1), h3⟩)
  refine ⟨w', ?_, by rw [setl_cons]; exact h11⟩
  have hadd : (⟨g, off, none⟩ : Addr).add i = ⟨g, off + i, none⟩ := by unfold Addr.add; split <;> simp_all
  have hcell : w.cell? ⟨g, off + i, none⟩ = some u := by rw [cell_of_row w g (off + i) us ob.e (0, 0) h6]; exact h9
  have hfz := frozen_of_row w g (off + i) us ob.e h6
  simp only [storeCells, Sem.run_bind, hadd, run_store P w _ v _ h1, hcell, hfz]
  simpa using h10
theorem snd_store (hT : TOk P T) (h : Rel w0 ok0 st a w) {t : TypeId} {p x : Operand} (ho : o.op = .store t p x) (hd : o.dst = none) {i : TI} (hi : T t = some i) {r off : Nat} (hp : st.ev p = .optr r off) {ob : Ob} (hob : st.H r = some ob) (L : List Nat) (xs : List AV)
  (hlk : ob.lk = false) (hrL : ¬ r ∈ L) (hlen : xs.length = i.size) (hfit : off + i.size ≤ ob.cs.len) (hxs : ∀ y ∈ xs, ob.cs.takes y ∧ live st y)
  (hv : ∀ σ, Rel' w0 ok0 st a w σ → (a.eval x).cells.size = i.size ∧ ∀ (j : Nat) y, xs[j]? = some y → ∃ u, (a.eval x).cells[j]? = some u ∧ RV w (okS w0 ok0 (st.lk L) σ w) σ y u ∧ u.oneCell' = true)
  (hwp : K ((st.lk L).setl r off xs)) : o.wp P a w (fun a' w' => ∃ st', K st' ∧ Rel w0 ok0 st' a' w') Q := by
 obtain ⟨σ, hr⟩ := h.rel
 obtain ⟨hsz, hv⟩ := hv σ hr
 have hpv := ev_RV hr p
 rw [hp] at hpv
 simp only [RV] at hpv
 split at hpv
 ·
  rename_i g m hσ
  have hobL : ∃ ob', (st.lk L).H r = some ob' ∧ ob'.lk = false ∧ ob'.cs = ob.cs := by
   cases L with
   | nil => exact ⟨ob, hob, hlk, rfl⟩
   | cons y ys =>
    refine ⟨ob, ?_, hlk, rfl⟩
    show (st.H r).map _ = some ob
    rw [hob, Option.map_some, if_neg (by simpa using hrL)]
  obtain ⟨ob', h1, h2, h3⟩ := hobL
  have hcell : ∀ (j : Nat) (y : AV) (v : Value), xs[j]? = some y → (a.eval x).cells.toList[j]? = some v → RV w (okS w0 ok0 (st.lk L) σ w) σ y v ∧ v.oneCell' = true := fun j y v hy hv' => by
   obtain ⟨u, h4, h5, h6⟩ := hv j y hy
   rw [Array.getElem?_toList, h4] at hv'
   cases hv'
   exact ⟨h5, h6⟩
  obtain ⟨w', h4, h5⟩ := store_cells (P := P) (off := off) hσ xs (a.eval x).cells.toList (st.lk L) w 0 ob' (h.lk L) (hr.lk L) h1 h2 (by rw [h3]; omega) ((hlen.trans hsz.symm).trans Array.length_toList.symm) (fun y hy => ⟨h3 ▸ (hxs y hy).1, live_lk (hxs y hy).2⟩) hcell
  have hrun : (execOp a.eval o).run P w = .ok .skip w' := by
   simp [execOp, ho, Instr.storeAt, hpv, Instr.sureAddr, storeVar, run_sizeOf hT hi, hsz, h4]
  unfold Oper.wp
  rw [hrun]
  refine ⟨_, hwp, ?_⟩
  rw [hd]
  exact h5
 ·
  exact hpv.elim
/-- a row that grows -/
theorem grow_wp (hT : TOk P T) (h : Rel w0 ok0 st a w) (hr : Rel' w0 ok0 st a w σ) {c : Call} {s x : Operand} {t e : TypeId} (ho : o.op = .call c) (hc : c.callee = .builtin .append) (hargs : c.args = #[s, x]) (hts : c.argTypes = #[t, t]) (ht : kind T t = some (.slice e)) {i : TI} (hi : T e = some i)
  {r n m : Nat} {l cs : List D} {L : List Nat} (hob : st.H r = some ⟨e, .d l, false⟩) (hrL : ¬ r ∈ L)
  (hs : RV w (okS w0 ok0 st σ w) σ (.osl r 0 n i.size true) (a.eval s)) (hx : RD w (okS w0 ok0 (st.lk L) σ w) (.sl m cs) (a.eval x))
  (hll : l.length = n * i.size) (hcl : cs.length = m * i.size) (hm : 0 < m) (hbytes : (n + m) * i.bytes ≤ 140737488355328) (hmax : n + m ≤ maxLen) (hone : cs.all D.one = true)
  (hwp : K (((st.lk L).regrow r ⟨e, .d (l ++ cs), false⟩).put o.dst (.osl r 0 (n + m) i.size true))) : o.wp P a w (fun a' w' => ∃ st', K st' ∧ Rel w0 ok0 st' a' w') Q := by
 obtain ⟨f, e1, e2, e3, ⟨e4, e7⟩, _, z, e5, e6⟩ := ti_info hT hi
 have hu := kind_slice hT ht
 have hzs : z.cells.size = i.size := by rw [← (zok_cells (w := w) (ok := ok0) e6).1, e7]
 have hne : cs ≠ [] := fun e => by
  rw [e] at hcl
  rcases Nat.mul_eq_zero.1 hcl.symm with h | h <;> omega
 -- the row as it is owned
 have hobr := hr.ob r _ hob
 have hown : ∃ xs : List Value, w.ownsRow w0.heap.size e i.size (a.eval s) n xs ∧ xs.length = l.length ∧ ∀ (p : Nat) y, l[p]? = some y → ∃ u, xs[p]? = some u ∧ RD w (okS w0 ok0 st σ w) y u ∧ u.oneCell' = true := by
  simp only [RV] at hs
  cases hσ : σ r with
  | none =>
   rw [hσ] at hs hobr
   obtain ⟨h1, h2, _⟩ := hs
   subst h2
   simp only [Cl.d.injEq] at hobr
   subst hobr
   refine ⟨[], ?_, rfl, fun p y hp => by simp at hp⟩
   rw [h1]
   exact World.ownsRow_nil w _ e _
  | some gm =>
   obtain ⟨g, mm⟩ := gm
   rw [hσ] at hs hobr
   obtain ⟨cp, h1, h2, h3, h4, h5⟩ := hs
   obtain ⟨h6, us, h7, h8, h9⟩ := hobr
   have h10 : cp * i.size = mm := (h5 trivial).2
   have hle : n * i.size ≤ us.size := by rw [h8, ← h10]; exact Nat.mul_le_mul_right _ h2
   refine ⟨us.toList.take (n * i.size), ⟨by rw [List.length_take, Array.length_toList]; omega, .inr ⟨g, cp, us, h1, h6, h7, h2, h3, by rw [h8, h10], rfl⟩⟩, by rw [List.length_take, Array.length_toList, hll]; omega, fun p y hp => ?_⟩
   have hp' : p < n * i.size := by rw [← hll]; exact (List.getElem?_eq_some_iff.1 hp).1
   obtain ⟨u, h11, h12, h13⟩ := h9 p (.d y) (by simp [Cl.at, hp])
   exact ⟨u, by rw [List.getElem?_take, if_pos hp', Array.getElem?_toList]; exact h11, h12, h13⟩
 obtain ⟨xs, hown, hxl, hxs⟩ := hown
 -- what is appended
 generalize hxv : a.eval x = vx at hx
 cases hx with
 | sl _ _ A cx u hn ha hd =>
  obtain ⟨ad, rfl, hoka, hcells⟩ := ha hne
  have hnl : ((List.range cs.length).map u).length = m * i.size := by simp [hcl]
  have hng : ∀ (j : Nat) v, ((List.range cs.length).map u)[j]? = some v → w.cell? (ad.add j) = some v := fun j v hj => by
   rw [List.getElem?_map] at hj
   by_cases hjl : j < cs.length
   ·
    rw [List.getElem?_range hjl] at hj
    simp only [Option.map_some, Option.some.injEq] at hj
    rw [← hj]; exact hcells j hjl
   ·
    rw [List.getElem?_eq_none (by simp; omega)] at hj
    simp at hj
  have hn1 : ∀ v ∈ (List.range cs.length).map u, v.oneCell' = true := fun v hv => by
   obtain ⟨j, hj, rfl⟩ := List.mem_map.1 hv
   rw [List.mem_range] at hj
   exact RD.one (hd j _ (List.getElem?_eq_getElem hj)) (List.all_eq_true.1 hone _ (List.getElem_mem hj))
  obtain ⟨v', w', hrun, hown', hgr, hnil⟩ := run_append_own (P := P) w w0.heap.size t o.type e f z i.size i.bytes hu e1 e5 e2 e3 hzs e4 (a.eval s) n xs hown ad m cx _ hnl hng hn1 hmax hbytes h.below.size
  have hexec : (execOp a.eval o).run P w = .ok (.value v') w' := by
   simp [execOp, ho, resolve, hc, hargs, hts, invoke, builtin, hxv, hrun]
  -- the row behind it
  rcases hown'.2 with ⟨hv0, hn0⟩ | ⟨g, cap, cur, hv', hg1, hg2, hg3, hg4, hg5, hg6⟩
  ·
   omega
  ·
   have hrow : ∀ k, (a.eval s).ownBlock = some k → ∃ m0, σ r = some (k, m0) := fun k hk => by
    simp only [RV] at hs
    cases hσ : σ r with
    | none => rw [hσ] at hs; rw [hs.1] at hk; cases hk
    | some gm =>
     obtain ⟨g', mm⟩ := gm
     rw [hσ] at hs
     obtain ⟨cp, h1, _⟩ := hs
     rw [h1] at hk
     cases hk
     exact ⟨mm, rfl⟩
   have hg0 : (∃ m0, σ r = some (g, m0)) ∨ w.heap.size ≤ g := by
    simp only [RV] at hs
    cases hσ : σ r with
    | none =>
     rw [hσ] at hs hobr
     obtain ⟨h1, h2, _⟩ := hs
     subst h2
     have hx0 : xs = [] := List.eq_nil_of_length_eq_zero (by rw [hxl, hll]; simp)
     subst hx0
     obtain ⟨v2, w2, hrun2, hown2, _, _⟩ := run_append_own (P := P) w w.heap.size t o.type e f z i.size i.bytes hu e1 e5 e2 e3 hzs e4 (a.eval s) 0 [] (by rw [h1]; exact World.ownsRow_nil w _ e _) ad m cx _ hnl hng hn1 hmax hbytes (Nat.le_refl _)
     rw [hrun] at hrun2
     cases hrun2
     rcases hown2.2 with ⟨h3, h4⟩ | ⟨g', cap', cur', h3, h4, _⟩
     ·
      omega
     ·
      rw [hv'] at h3; cases h3; exact .inr h4
    | some gm =>
     obtain ⟨g', mm⟩ := gm
     rw [hσ] at hs
     obtain ⟨cp, h1, h2, _⟩ := hs
     rw [h1] at hown hrun
     by_cases hroom : n + m ≤ cp
     ·
      obtain ⟨w2, hrun2, _⟩ := run_append_fits (P := P) w w0.heap.size t o.type e f i.size hu e1 e2 g' n cp xs hown ad m cx _ hnl hng hn1 hroom
      rw [hrun] at hrun2
      cases hrun2
      cases hv'
      exact .inl ⟨mm, rfl⟩
     ·
      have hrun2 := run_append_grow (P := P) w t o.type e f z hu e1 e5 ⟨g', 0, none⟩ n cp xs (by rw [e2]; exact hown.1) (hown.cells rfl) ad m cx _ (by rw [e2]; exact hnl) hng (by omega) (by unfold maxLen at hmax; omega) (growslice_fits (by omega) (by rw [e3]; exact hbytes))
      rw [hrun] at hrun2
      cases hrun2
      cases hv'
      exact .inr (Nat.le_refl _)
   have hcells : ∀ (p : Nat) (y : D), (l ++ cs)[p]? = some y → ∃ v, cur[p]? = some v ∧ RD w (okS w0 ok0 (st.lk L) σ w) y v ∧ v.oneCell' = true := fun p y hp => by
    have hcur : ∀ v, (xs ++ (List.range cs.length).map u)[p]? = some v → cur[p]? = some v := fun v hv => by
     rw [← hg6, List.getElem?_take] at hv
     split at hv
     ·
      rwa [Array.getElem?_toList] at hv
     ·
      cases hv
    by_cases hpl : p < l.length
    ·
     rw [List.getElem?_append_left hpl] at hp
     obtain ⟨v, h1, h2, h3⟩ := hxs p y hp
     exact ⟨v, hcur v (by rw [List.getElem?_append_left (by omega)]; exact h1), RD.mono h2 (fun k hk => okS_lk hk), h3⟩
    ·
     rw [List.getElem?_append_right (by omega)] at hp
     have hlt := (List.getElem?_eq_some_iff.1 hp).1
     refine ⟨u (p - l.length), hcur _ ?_, hd _ y hp, RD.one (hd _ y hp) (List.all_eq_true.1 hone y (List.mem_of_getElem? hp))⟩
     rw [List.getElem?_append_right (by omega), hxl, List.getElem?_map, List.getElem?_range hlt]; rfl
   have hobL : (st.lk L).H r = some ⟨e, .d l, false⟩ := by
    cases L with
    | nil => exact hob
    | cons y ys =>
     show (st.H r).map _ = _
     rw [hob, Option.map_some, if_neg (by simpa using hrL)]
   obtain ⟨hrel, hrel'⟩ := Rel.regrow (m := cur.size) (h.lk L) (hr.lk L) hobL rfl hgr hrow hg0 hg1 hg2 rfl hcells
   obtain ⟨q1, q2, q3, q4, _⟩ := hrel
   unfold Oper.wp
   rw [hexec]
   have hlv : live ((st.lk L).regrow r ⟨e, .d (l ++ cs), false⟩) (.osl r 0 (n + m) i.size true) := fun r' h' => by cases h'; rw [regrow_self]; simp
   refine ⟨_, hwp, q1.put hlv, by rw [act_put_defers]; exact q2, by rw [act_put_size]; exact q3, q4, _, hrel'.put q3 ?_⟩
   simp only [RV, upd_self]
   exact ⟨cap, hv', hg3, hg4, by rw [hg5]; omega, fun _ => ⟨trivial, hg5.symm⟩⟩
end Ab
/- All operations: what is asked of the values is enough for the machine. -/
namespace Ab
open Go Go.RowKit
set_option linter.unusedVariables false
variable {P : Program} {T : TT} {w0 w w' : World} {ok0 : Nat → Prop} {st : AS} {a : Act} {o : Oper} {K : AS → Prop} {Q : Exit → Act → World → Prop} {σ : Nat → Option (Nat × Nat)}
theorem run_callFunc {f : FuncId} (h : enterOk P f = true) (args : Array Value) : (callFunc f args).run P w = .ok (.enter f args) w := by
 unfold enterOk at h
 split at h
 ·
  rename_i fn hf
  simp only [Bool.and_eq_true, Bool.not_eq_true'] at h
  have hb : fn.body.isNone = false := by
   cases hb : fn.body with
   | none => rw [hb] at h; simp at h
   | some c => rfl
  have h2 : ¬ fn.name = "runtime.NumGoroutine" := by simpa using h.2
  have h3 : ¬ fn.body = none := fun e => by rw [e] at hb; cases hb
  simp [callFunc, hf, h2, h3]
 ·
  cases h
theorem snd_call (h : Rel w0 ok0 st a w) {c : Call} {f : Operand} (ho : o.op = .call c) (hc : c.callee = .value f) {g : FuncId} {caps : List D} (hf : st.ev f = .d (.fn g caps)) {ds : List D} (hds : snaps st (c.args.toList.map st.ev) = some ds) {L : List Nat} (hL : L = lkss st (c.args.toList.map st.ev)) {r : D} (hs : Spec P g (ds ++ caps) r)
  (hwp : K ((st.lk L).put o.dst (.d r))) : o.wp P a w (fun a' w' => ∃ st', K st' ∧ Rel w0 ok0 st' a' w') Q := by
 obtain ⟨σ, hr⟩ := h.rel
 obtain ⟨h1, h2⟩ := snaps_RD hr hds
 rw [← hL] at h2
 have hfv := ev_RV hr f
 rw [hf] at hfv
 simp only [RV] at hfv
 generalize hv : a.eval f = v at hfv
 cases hfv with
 | fn _ _ vs u e1 e2 e3 =>
  have hrun : (execOp a.eval o).run P w = .ok (.enter g (c.args.map a.eval ++ vs)) w := by
   simp [execOp, ho, resolve, hc, hv, Deferred.ofValue, invoke, run_callFunc hs.1]
  unfold Oper.wp
  rw [hrun]
  have hcall := hs.2 w (c.args.map a.eval ++ vs) (okS w0 ok0 (st.lk L) σ w) (by simp [h1, e1]) (fun i x hx => ?_) (fun k hk => hk.2.1)
  ·
   refine Calls.mono hcall fun e w'' ⟨hb, v, he, hv⟩ => ?_
   subst he
   refine ⟨_, hwp, later_wp h hr hb (hv.mono fun k hk => ?_)⟩
   exact okS_of_new (hr.lk L) hb hk.2 hk.1 h.below.size
  ·
   by_cases hi : i < ds.length
   ·
    rw [List.getElem?_append_left hi] at hx
    obtain ⟨y, h3, h4⟩ := h2 i x hx
    refine ⟨a.eval y, ?_, h4⟩
    have hlt : i < c.args.size := by rw [h1] at hi; simpa using hi
    have h3' : c.args[i]? = some y := by simpa using h3
    rw [Array.getElem?_append_left (by simpa using hlt), Array.getElem?_map, h3']; rfl
   ·
    rw [List.getElem?_append_right (by omega)] at hx
    have hlt := (List.getElem?_eq_some_iff.1 hx).1
    refine ⟨u (i - ds.length), ?_, RD.mono (e3 _ x hx) (fun k hk => okS_lk hk)⟩
    have hsz : (c.args.map a.eval).size = ds.length := by simp [h1]
    rw [Array.getElem?_append_right (by omega), hsz]
    exact e2 _ hlt
theorem cells_map_d {y : D} {ob : Ob} {st : AS} : ∀ z ∈ y.cells.map AV.d, ob.cs.takes z ∧ live st z := fun z hz => by
 obtain ⟨q, _, rfl⟩ := List.mem_map.1 hz
 refine ⟨?_, fun r hr => by cases hr⟩
 cases ob.cs <;> trivial
theorem own_one {x : AV} {v : Value} {ok : Nat → Prop} (h : RV w ok σ x v) (hn : x.names ≠ none) : v.oneCell' = true ∧ v.cells = #[v] := by
 cases x with
 | osl r off n sz wh =>
  simp only [RV] at h
  split at h
  ·
   obtain ⟨c, rfl, _⟩ := h; exact ⟨rfl, rfl⟩
  ·
   obtain ⟨rfl, _⟩ := h; exact ⟨rfl, rfl⟩
 | optr r off =>
  simp only [RV] at h
  split at h
  ·
   subst h; exact ⟨rfl, rfl⟩
  ·
   exact h.elim
 | _ => exact absurd rfl hn
theorem one_get {v u : Value} {x y : AV} {j : Nat} (h : [x][j]? = some y) : y = x ∧ (#[v] : Array Value)[j]? = some v := by
 cases j with
 | zero => simp at h; exact ⟨h.symm, rfl⟩
 | succ j => simp at h
theorem absStore_sound (hT : TOk P T) (h : Rel w0 ok0 st a w) {t : TypeId} {p x : Operand} (ho : o.op = .store t p x) {i : TI} (hi : T t = some i) (hwp : (absStore st i (st.ev p) (st.ev x)).wp P o.dst st K) : o.wp P a w (fun a' w' => ∃ st', K st' ∧ Rel w0 ok0 st' a' w') Q := by
 generalize hp : st.ev p = ap at hwp
 cases ap with
 | optr r off =>
  simp only [absStore] at hwp
  split at hwp
  ·
   rename_i ob hob
   split at hwp
   ·
    rename_i y hy
    obtain ⟨⟨h1, h2, h3, h4⟩, h5, h6⟩ := hwp
    have hcl := cl_all h4
    rw [hcl] at h2 h4 h6
    refine snd_store hT h ho h5 hi hp hob [] _ h1 (by simp) (by simp [h2]) h3 cells_map_d (fun σ hr => ?_) h6
    have hv := ev_RV hr x
    rw [hy] at hv
    obtain ⟨h7, h8⟩ := RD_cells hv
    refine ⟨by rw [h7, h2], fun j z hz => ?_⟩
    rw [List.getElem?_map, Option.map_eq_some_iff] at hz
    obtain ⟨q, hq, rfl⟩ := hz
    obtain ⟨u, h9, h10⟩ := h8 j q hq
    exact ⟨u, h9, h10, RD.one h10 (List.all_eq_true.1 h4 q (List.mem_of_getElem? hq))⟩
   ·
    split at hwp
    ·
     rename_i l hl
     obtain ⟨⟨h1, h2, h3, h4⟩, h5, h6⟩ := hwp
     refine snd_store hT h ho h5 hi hp hob [] _ h1 (by simp) (by simp [h2]) (by rw [hl, h2]; exact h3) (fun z hz => ?_) (fun σ hr => ?_) h6
     ·
      simp only [List.mem_singleton] at hz
      rw [hz, hl]
      exact ⟨trivial, ev_live h.wf x⟩
     ·
      have hv := ev_RV hr x
      obtain ⟨h7, h8⟩ := own_one hv h4
      rw [h8]
      refine ⟨by rw [h2]; rfl, fun j z hz => ?_⟩
      obtain ⟨rfl, h9⟩ := one_get (u := a.eval x) (v := a.eval x) hz
      exact ⟨_, h9, hv, h7⟩
    ·
     rename_i l hl
     split at hwp
     ·
      rename_i y hy
      obtain ⟨⟨h1, h2, h3, h4, h7⟩, h5, h6⟩ := hwp
      refine snd_store hT h ho h5 hi hp hob _ _ h1 h7 (by simp [h2]) (by rw [hl, h2]; exact h3) (fun z hz => ?_) (fun σ hr => ?_) h6
      ·
       simp only [List.mem_singleton] at hz
       rw [hz, hl]
       exact ⟨trivial, fun r hr => by cases hr⟩
      ·
       have hv := ev_RV hr x
       have hrd := snap1_RD (L := lks st (st.ev x)) hr hv hy (fun r hr => by
        generalize st.ev x = ax at hr hy
        cases ax with
        | osl r' off n sz wh => cases hr; simp [lks]
        | optr r' off => simp [snap1] at hy
        | _ => cases hr)
       have hc := RD_cells hrd
       have hyc : y.cells = [y] := by cases y <;> simp_all [D.cells, D.one]
       rw [hyc] at hc
       refine ⟨by rw [h2]; exact hc.1, fun j z hz => ?_⟩
       cases j with
       | zero =>
        simp at hz
        subst hz
        obtain ⟨u, h8, h9⟩ := hc.2 0 y rfl
        exact ⟨u, h8, h9, RD.one h9 h4⟩
       | succ j => simp at hz
     ·
      exact hwp.elim
  ·
   exact hwp.elim
 | _ => exact hwp.elim
theorem snap1_new {d : Nat} {ob : Ob} {x : AV} (hn : st.H d = none) (hl : live st x) : snap1 (st.new d ob) x = snap1 st x := by
 cases x with
 | osl r off n sz wh =>
  have hne : r ≠ d := fun e => hl r rfl (e ▸ hn)
  have e1 : (st.new d ob).H r = st.H r := upd_ne _ _ hne
  simp only [snap1, e1]
 | _ => rfl
theorem lks_new {d : Nat} {ob : Ob} {x : AV} {y : D} (hs : snap1 st x = some y) : lks (st.new d ob) x = lks st x := by
 cases x with
 | optr r off => simp [snap1] at hs
 | _ => rfl
theorem regrow_new {d : Nat} {ob ob' : Ob} {L : List Nat} : ((st.new d ob).lk L).regrow d ob' = (st.lk L).regrow d ob' := by
 have hH : ∀ r, r ≠ d → ((st.new d ob).lk L).H r = (st.lk L).H r := fun r hr => by
  cases L with
  | nil => exact upd_ne _ _ hr
  | cons y ys =>
   show ((st.new d ob).H r).map _ = (st.H r).map _
   rw [show (st.new d ob).H r = st.H r from upd_ne _ _ hr]
 have htm : ((st.new d ob).lk L).tm = (st.lk L).tm := by cases L <;> rfl
 have hN : ((st.new d ob).lk L).N = (st.lk L).N := by cases L <;> rfl
 unfold AS.regrow
 rw [htm, hN]
 congr 1
 funext r
 by_cases hr : r = d
 ·
  rw [if_pos hr, if_pos hr]
 ·
  rw [if_neg hr, if_neg hr, hH r hr]
theorem snap1_lks {x : AV} {y : D} {L : List Nat} (hs : snap1 st x = some y) (hL : L = lks st x) : ∀ r, x.names = some r → r ∈ L := fun r hr => by
 subst hL
 cases x with
 | osl r' off n sz wh => cases hr; simp [lks]
 | optr r' off => simp [snap1] at hs
 | _ => cases hr
theorem grown_sound (hT : TOk P T) (h : Rel w0 ok0 st a w) (hr : Rel' w0 ok0 st a w σ) {c : Call} {s x : Operand} {t e : TypeId} (ho : o.op = .call c) (hc : c.callee = .builtin .append) (hargs : c.args = #[s, x]) (hts : c.argTypes = #[t, t]) (ht : kind T t = some (.slice e)) {i : TI} (hi : T e = some i)
  {r n m : Nat} {l cs : List D} {L : List Nat} (hob : st.H r = some ⟨e, .d l, false⟩) (hs : RV w (okS w0 ok0 st σ w) σ (.osl r 0 n i.size true) (a.eval s)) (hx : snap1 st (st.ev x) = some (.sl m cs)) (hL : L = lks st (st.ev x))
  (hneed : l.length = n * i.size ∧ cs.length = m * i.size ∧ 0 < m ∧ (n + m) * i.bytes ≤ 140737488355328 ∧ n + m ≤ maxLen ∧ cs.all D.one = true ∧ ¬ r ∈ L)
  (hwp : K (((st.lk L).regrow r ⟨e, .d (l ++ cs), false⟩).put o.dst (.osl r 0 (n + m) i.size true))) : o.wp P a w (fun a' w' => ∃ st', K st' ∧ Rel w0 ok0 st' a' w') Q :=
 grow_wp hT h hr ho hc hargs hts ht hi hob hneed.2.2.2.2.2.2 hs (snap1_RD hr (ev_RV hr x) hx (snap1_lks hx hL)) hneed.1 hneed.2.1 hneed.2.2.1 hneed.2.2.2.1 hneed.2.2.2.2.1 hneed.2.2.2.2.2.1 hwp
theorem append_nils (h : Rel w0 ok0 st a w) (hr : Rel' w0 ok0 st a w σ) {c : Call} {s x : Operand} {t e : TypeId} (hT : TOk P T) (ho : o.op = .call c) (hc : c.callee = .builtin .append) (hargs : c.args = #[s, x]) (hts : c.argTypes = #[t, t]) (ht : kind T t = some (.slice e)) {i : TI} (hi : T e = some i)
  (hx : st.ev x = .d .nils) (hs : ∃ A n cp, a.eval s = .slice A n cp ∧ n ≤ cp) (hwp : K (st.put o.dst (st.ev s))) : o.wp P a w (fun a' w' => ∃ st', K st' ∧ Rel w0 ok0 st' a' w') Q := by
 obtain ⟨f, e1, e2, e3, ⟨e4, e7⟩, _, z, e5, e6⟩ := ti_info hT hi
 have hu := kind_slice hT ht
 have hxv : a.eval x = .slice none 0 0 := by
  have := ev_RV hr x
  rw [hx] at this
  simp only [RV] at this
  generalize a.eval x = v at this
  cases this; rfl
 obtain ⟨A, n, cp, h1, h2⟩ := hs
 refine val_wp (L := []) (x := st.ev s) (v := a.eval s) ?_ h hr (ev_live h.wf s) (ev_RV hr s) hwp
 cases A with
 | none => simp [execOp, ho, resolve, hc, hargs, hts, invoke, builtin, hxv, h1, Builtin.append_, run_underlying hu, Go.sizeOf, typeInfo, e1, Builtin.lenOf, Builtin.firstCells, h2]
 | some ad => simp [execOp, ho, resolve, hc, hargs, hts, invoke, builtin, hxv, h1, Builtin.append_, run_underlying hu, Go.sizeOf, typeInfo, e1, Builtin.lenOf, Builtin.firstCells, h2, storeCells]
theorem absAppend_sound (hT : TOk P T) (h : Rel w0 ok0 st a w) {c : Call} {s x : Operand} {t e : TypeId} (ho : o.op = .call c) (hc : c.callee = .builtin .append) (hargs : c.args = #[s, x]) (hts : c.argTypes = #[t, t]) (ht : kind T t = some (.slice e)) {i : TI} (hi : T e = some i)
  (hwp : (absAppend st o.dst e i (st.ev s) (st.ev x)).wp P o.dst st K) : o.wp P a w (fun a' w' => ∃ st', K st' ∧ Rel w0 ok0 st' a' w') Q := by
 obtain ⟨σ, hr⟩ := h.rel
 have hsv := ev_RV hr s
 generalize hes : st.ev s = as at hwp hsv
 unfold absAppend at hwp
 simp only at hwp
 split at hwp
 ·
  -- a nil row
  simp only [RV] at hsv
  have hs0 : a.eval s = .slice none 0 0 := by generalize a.eval s = v at hsv; cases hsv; rfl
  split at hwp
  ·
   rename_i d hd
   obtain ⟨hn, hwp⟩ := hwp
   split at hwp
   ·
    rename_i hx
    exact append_nils h hr hT ho hc hargs hts ht hi hx ⟨_, _, _, hs0, Nat.le_refl _⟩ (by rw [hes]; exact hwp)
   ·
    split at hwp
    ·
     rename_i m cs hx
     obtain ⟨⟨_, hneed⟩, hwp⟩ := hwp
     have hwk : Wk st (st.new d ⟨e, .d [], false⟩) := ⟨rfl, fun t => .inr (.inl rfl), fun r ob hr' => by
      by_cases e' : r = d
      ·
       subst e'
       have : upd st.H r (some ⟨e, .d [], false⟩) r = some ob := hr'
       rw [upd_self] at this; cases this
       exact .inr ⟨hn, rfl⟩
      ·
       have : upd st.H d (some ⟨e, .d [], false⟩) r = some ob := hr'
       rw [upd_ne _ _ e'] at this
       exact .inl this, h.wf.new (fun l hl => by cases hl)⟩
     obtain ⟨h', σ', hr', hσ'⟩ := h.weak' hwk
     have hev : (st.new d ⟨e, .d [], false⟩).ev x = st.ev x := by cases x <;> rfl
     have hx' : snap1 (st.new d ⟨e, .d [], false⟩) ((st.new d ⟨e, .d [], false⟩).ev x) = some (.sl m cs) := by rw [hev, snap1_new hn (ev_live h.wf x)]; exact hx
     refine grown_sound (n := 0) (l := []) (L := lks st (st.ev x)) hT h' hr' ho hc hargs hts ht hi (r := d) (upd_self _ _ _) ?_ hx' (by rw [hev, lks_new hx]) hneed ?_
     ·
      rw [hs0]
      simp only [RV, hσ' d hn]
      exact ⟨trivial, trivial, trivial⟩
     ·
      rw [regrow_new]; exact hwp
    ·
     exact hwp.elim
  ·
   exact hwp.elim
 ·
  -- a row of its own
  rename_i r n sz
  split at hwp
  ·
   rename_i ob hob
   split at hwp
   ·
    rename_i l hl
    obtain ⟨⟨h1, h2⟩, hwp⟩ := hwp
    subst h1
    have hsl : ∃ A n' cp, a.eval s = .slice A n' cp ∧ n' ≤ cp := by
     have hsv := hsv
     simp only [RV] at hsv
     split at hsv
     ·
      obtain ⟨cp, h3, h4, _⟩ := hsv; exact ⟨_, _, _, h3, h4⟩
     ·
      exact ⟨_, _, _, hsv.1, Nat.le_refl _⟩
    split at hwp
    ·
     rename_i hx
     exact append_nils h hr hT ho hc hargs hts ht hi hx hsl (by rw [hes]; exact hwp)
    ·
     split at hwp
     ·
      rename_i m cs hx
      obtain ⟨⟨hlk, hneed⟩, hwp⟩ := hwp
      exact grown_sound (L := lks st (st.ev x)) hT h hr ho hc hargs hts ht hi (r := r) (by rw [hob, ← h2, ← hl, ← hlk]) hsv hx rfl hneed hwp
     ·
      exact hwp.elim
   ·
    exact hwp.elim
  ·
   exact hwp.elim
 ·
  exact hwp.elim
theorem absCall_sound (hT : TOk P T) (h : Rel w0 ok0 st a w) {c : Call} (ho : o.op = .call c) (hwp : (absCall T st o.dst c).wp P o.dst st K) : o.wp P a w (fun a' w' => ∃ st', K st' ∧ Rel w0 ok0 st' a' w') Q := by
 unfold absCall at hwp
 split at hwp
 ·
  rename_i f hc
  split at hwp
  ·
   rename_i g caps hf
   split at hwp
   ·
    rename_i ds hds
    obtain ⟨r, h1, h2⟩ := hwp
    exact snd_call h ho hc hf hds rfl h1 h2
   ·
    exact hwp.elim
  ·
   exact hwp.elim
 ·
  rename_i hc
  split at hwp
  ·
   rename_i x t e1 e2
   split at hwp
   ·
    rename_i e3 e4
    exact snd_len hT h ho hc e1 e2 e4 hwp
   ·
    exact hwp.elim
  ·
   exact hwp.elim
 ·
  rename_i hc
  split at hwp
  ·
   rename_i x y e1
   split at hwp
   ·
    rename_i n hn
    exact snd_max h ho hc e1 hn hwp
   ·
    exact hwp.elim
  ·
   exact hwp.elim
 ·
  rename_i hc
  split at hwp
  ·
   rename_i x y e1
   split at hwp
   ·
    rename_i n hn
    exact snd_min h ho hc e1 hn hwp
   ·
    exact hwp.elim
  ·
   exact hwp.elim
 ·
  rename_i hc
  split at hwp
  ·
   rename_i s x t t' e1 e2
   split at hwp
   ·
    rename_i htt
    subst htt
    split at hwp
    ·
     rename_i e ht
     split at hwp
     ·
      rename_i i hi
      have hargs : c.args = #[s, x] := by rw [← e1]
      have hts : c.argTypes = #[t, t] := by rw [← e2]
      exact absAppend_sound hT h ho hc hargs hts ht hi hwp
     ·
      exact hwp.elim
    ·
     exact hwp.elim
   ·
    exact hwp.elim
  ·
   exact hwp.elim
 ·
  exact hwp.elim
theorem sound_op (hT : TOk P T) (h : Rel w0 ok0 st a w) (hwp : (absOp T st o).wp P o.dst st K) : o.wp P a w (fun a' w' => ∃ st', K st' ∧ Rel w0 ok0 st' a' w') Q := by
 unfold absOp at hwp
 split at hwp
 ·
  rename_i x ho; exact snd_move h (.inl ho) hwp
 ·
  rename_i x ho; exact snd_move h (.inr ho) hwp
 ·
  rename_i c x y ho
  split at hwp
  ·
   rename_i b hb; exact snd_pick h ho hb hwp
  ·
   exact hwp.elim
 ·
  rename_i t ho
  split at hwp
  ·
   rename_i i hi; exact snd_alloc hT h ho hi hwp
  ·
   exact hwp.elim
 ·
  rename_i t x ho
  split at hwp
  ·
   split at hwp
   ·
    rename_i y hy
    have hcl := cl_all hwp.1
    rw [hcl] at hwp
    exact snd_box h ho hy hwp.1 hwp.2
   ·
    rename_i hy; exact snd_boxo h ho hy hwp
   ·
    exact hwp.elim
  ·
   exact hwp.elim
 ·
  rename_i t parts ho
  split at hwp
  ·
   rename_i i hi
   split at hwp
   ·
    rename_i fs ps hk hps
    split at hwp
    ·
     rename_i cs hcs; exact snd_build hT h ho hi hk hps hcs hwp.1.1 hwp.1.2 hwp.2
    ·
     exact hwp.elim
   ·
    exact hwp.elim
  ·
   exact hwp.elim
 ·
  rename_i t len parts ho
  split at hwp
  ·
   rename_i e ht
   split at hwp
   ·
    rename_i i ps hi hps
    split at hwp
    ·
     rename_i cs hcs
     cases hcp : constParts parts.toList with
     | true =>
      rw [hcp] at hwp
      exact snd_buildSliceO hT h ho ht hi hps hcs hcp hwp.1.1 hwp.1.2.1 hwp.1.2.2.1 hwp.1.2.2.2 hwp.2
     | false =>
      rw [hcp] at hwp
      exact snd_buildSlice hT h ho ht hi hps hcs hwp.1.1 hwp.1.2.2 hwp.2
    ·
     exact hwp.elim
   ·
    exact hwp.elim
  ·
   exact hwp.elim
 ·
  rename_i t x ho
  split at hwp
  ·
   rename_i i hi; exact snd_load hT h ho hi hwp
  ·
   exact hwp.elim
 ·
  rename_i t p x ho
  split at hwp
  ·
   rename_i i hi; exact absStore_sound hT h ho hi hwp
  ·
   exact hwp.elim
 ·
  rename_i op t x y t' ho
  split at hwp
  ·
   rename_i k hk; exact snd_bin hT h ho hk hwp
  ·
   exact hwp.elim
 ·
  rename_i t x ho
  split at hwp
  ·
   rename_i b hb; exact snd_not h ho hb hwp
  ·
   exact hwp.elim
 ·
  rename_i t x ho
  split at hwp
  ·
   rename_i k n hx; exact snd_neg h ho hx hwp
  ·
   exact hwp.elim
 ·
  rename_i s t x ho
  split at hwp
  ·
   rename_i hs ht hx; exact snd_convert hT h ho hs ht hx hwp
  ·
   exact hwp.elim
 ·
  rename_i t x y ho
  split at hwp
  ·
   rename_i e ht
   split at hwp
   ·
    rename_i hi hx hy; exact snd_makeSlice hT h ho ht hi hx hy hwp.1 hwp.2
   ·
    exact hwp.elim
  ·
   exact hwp.elim
 ·
  rename_i t x l hh ho
  split at hwp
  ·
   rename_i e ht
   split at hwp
   ·
    rename_i i hi; exact snd_slice hT h ho ht hi hwp
   ·
    exact hwp.elim
  ·
   exact hwp.elim
 ·
  rename_i t x f ho
  split at hwp
  ·
   rename_i fs ht
   split at hwp
   ·
    rename_i p hp; exact snd_fieldAddr hT h ho ht hp hwp
   ·
    exact hwp.elim
  ·
   exact hwp.elim
 ·
  rename_i t x j ho
  split at hwp
  ·
   rename_i e ht
   split at hwp
   ·
    rename_i i hi; exact snd_indexAddr hT h ho ht hi hwp
   ·
    exact hwp.elim
  ·
   exact hwp.elim
 ·
  rename_i x i ho
  split at hwp
  ·
   rename_i xs hx
   split at hwp
   ·
    rename_i y hy; exact snd_extract h ho hx hy hwp
   ·
    exact hwp.elim
  ·
   exact hwp.elim
 ·
  rename_i f first caps ho
  split at hwp
  ·
   rename_i hf
   split at hwp
   ·
    rename_i ds hds; exact snd_makeFunc h ho hf hds hwp
   ·
    exact hwp.elim
  ·
   exact hwp.elim
 ·
  rename_i c ho; exact absCall_sound hT h ho hwp
 ·
  exact hwp.elim
end Ab
/- Regions in their order, code, functions: what is asked of the values is enough for the machine. -/
namespace Ab
open Go Go.RowKit
set_option linter.unusedVariables false
variable {P : Program} {T : TT} {w0 w w' : World} {ok0 : Nat → Prop} {st : AS} {a : Act} {o : Oper} {K : AS → Prop} {Q : Exit → Act → World → Prop} {σ : Nat → Option (Nat × Nat)} {ops : Array Oper}
def guardD (ops : Array Oper) (j : Nat) : Option Nat := (ops[j]?).bind (·.dst)
/-- an operation of a region, under its guard -/
def stepC (T : TT) (ops : Array Oper) (st : AS) (o : Oper) : Comp := match o.guard with
 | none => absOp T st o
 | some (j, want) => match guardD ops j with
  | none => .val .und []
  | some d => match st.tm d with
   | .d (.bool b) => bif b == want then absOp T st o else .val .und []
   | .und => .val .und []
   | _ => .fail
def absStep (P : Program) (T : TT) (ops : Array Oper) (o : Oper) (st : AS) (K : AS → Prop) : Prop := (stepC T ops st o).wp P o.dst st K
def absOps (P : Program) (T : TT) (ops : Array Oper) : List Oper → AS → (AS → Prop) → Prop
 | [], st, K => K st
 | o :: rest, st, K => absStep P T ops o st fun st' => absOps P T ops rest st' K
theorem put_und (h : Rel w0 ok0 st a w) (dst : Option Nat) : Rel w0 ok0 (st.put dst .und) (a.put dst undef) w :=
 h.put (fun r hr => by cases hr) (fun σ hr => rfl)
/-- an operation, as the machine takes it -/
theorem sound_step (hT : TOk P T) (h : Rel w0 ok0 st a w) (hwp : absStep P T ops o st K) : if Region.wanted o (yielded ops a.tmps) then o.wp P a w (fun a' w' => ∃ st', K st' ∧ Rel w0 ok0 st' a' w') Q else ∃ st', K st' ∧ Rel w0 ok0 st' (a.put o.dst undef) w := by
 unfold absStep stepC at hwp
 split at hwp
 ·
  rename_i hg
  rw [if_pos (by simp [Region.wanted, hg])]
  exact sound_op hT h hwp
 ·
  rename_i j want hg
  split at hwp
  ·
   rename_i hd
   have : Region.wanted o (yielded ops a.tmps) = false := by
    simp only [Region.wanted, hg, yielded]
    rw [show (ops[j]?).bind (·.dst) = none from hd]; rfl
   rw [if_neg (by rw [this]; simp)]
   exact ⟨_, hwp, put_und h _⟩
  ·
   rename_i d hd
   obtain ⟨σ, hr⟩ := h.rel
   have htm := hr.tm d
   have hy : ∀ b, a.tmps.getD d undef = .bool b → Region.wanted o (yielded ops a.tmps) = (b == want) := fun b hb => by
    have h1 : a.tmps[d]? = some (.bool b) := by
     rw [Array.getD_eq_getD_getElem?] at hb
     cases h2 : a.tmps[d]? with
     | none => rw [h2] at hb; simp [undef] at hb
     | some v => rw [h2] at hb; simpa using hb
    simp only [Region.wanted, hg, yielded]
    rw [show (ops[j]?).bind (·.dst) = some d from hd]
    simp only [Option.bind_some, h1]
    cases b <;> cases want <;> rfl
   split at hwp
   ·
    rename_i b hb
    rw [hb] at htm
    have hv := hy b (RD_bool htm)
    cases hbw : (b == want) with
    | true =>
     rw [hbw] at hwp hv
     rw [if_pos hv]; exact sound_op hT h hwp
    | false =>
     rw [hbw] at hwp hv
     rw [if_neg (by rw [hv]; simp)]; exact ⟨_, hwp, put_und h _⟩
   ·
    rename_i hb
    rw [hb] at htm
    have hw : Region.wanted o (yielded ops a.tmps) = false := by
     have h1 : a.tmps.getD d undef = undef := htm
     simp only [Region.wanted, hg, yielded]
     rw [show (ops[j]?).bind (·.dst) = some d from hd]
     simp only [Option.bind_some]
     rw [Array.getD_eq_getD_getElem?] at h1
     cases h2 : a.tmps[d]? with
     | none => rfl
     | some v => rw [h2] at h1; simp only [Option.getD_some] at h1; subst h1; rfl
    rw [if_neg (by rw [hw]; simp)]
    exact ⟨_, hwp, put_und h _⟩
   ·
    exact hwp.elim
theorem sound_ops (hT : TOk P T) (hK : ∀ st a w, K st → Rel w0 ok0 st a w → Q .normal a w) : ∀ (l : List Oper) (st : AS) (a : Act) (w : World), Rel w0 ok0 st a w → absOps P T ops l st K → wpList P ops Q l a w
 | [], st, a, w, h, hwp => hK st a w hwp h
 | o :: rest, st, a, w, h, hwp => by
  have := sound_step (Q := Q) hT h hwp
  unfold wpList
  split
  ·
   rename_i hw
   rw [if_pos hw] at this
   exact .inl (Go.Oper.wp_mono (fun a' w' ⟨st', h1, h2⟩ => sound_ops hT hK rest st' a' w' h2 h1) this)
  ·
   rename_i hw
   rw [if_neg hw] at this
   obtain ⟨st', h1, h2⟩ := this
   exact sound_ops hT hK rest st' _ _ h2 h1
/-- what a region may do in any order that its edges leave -/
def Lex (ops : Array Oper) : Prop := ∀ (P : Program) (T : TT) (w0 : World) (ok0 : Nat → Prop) (st : AS) (a : Act) (w : World) (K : AS → Prop) (Q : Exit → Act → World → Prop), TOk P T → Rel w0 ok0 st a w → absOps P T ops ops.toList st K → (∀ st a w, K st → Rel w0 ok0 st a w → Q .normal a w) →
 wpAny P .any ops Q ops.size (Array.replicate ops.size false) a w
def thenA (next : AS → Prop) (Q : Exit → AS → Prop) : Exit → AS → Prop
 | .normal, st => next st
 | e, st => Q e st
def blockA (id : Nat) (Q : Exit → AS → Prop) : Exit → AS → Prop
 | .exit id', st => if id' = id then Q .normal st else Q (.exit id') st
 | e, st => Q e st
def absCode (P : Program) (T : TT) : Code → AS → (Exit → AS → Prop) → Prop
 | .skip, st, Q => Q .normal st
 | .region _ ops draw, st, Q => (draw = true → Lex ops) ∧ absOps P T ops ops.toList st (Q .normal)
 | .seq x y, st, Q => absCode P T x st (thenA (fun s => absCode P T y s Q) Q)
 | .cond c x y, st, Q => match st.ev c with
  | .d (.bool t) => (t = true → absCode P T x st Q) ∧ (t = false → absCode P T y st Q)
  | _ => False
 | .block id c, st, Q => absCode P T c st (blockA id Q)
 | .loop c, st, Q => ∃ I : Nat → AS → Prop, (∃ n s, Wk st s ∧ I n s) ∧ ∀ n s, I n s → absCode P T c s (thenA (fun s' => ∃ m s'', m < n ∧ Wk s' s'' ∧ I m s'') Q)
 | .exit id, st, Q => Q (.exit id) st
 | .ret, st, Q => Q .ret st
 | _, _, _ => False
theorem sound_code (hT : TOk P T) (hm : P.follows .mixedOrders = true) : ∀ (c : Code) (st : AS) (a : Act) (w : World) (Qa : Exit → AS → Prop) (Q : Exit → Act → World → Prop), Rel w0 ok0 st a w → absCode P T c st Qa → (∀ e st a w, Qa e st → Rel w0 ok0 st a w → Q e a w) → c.wp P Q a w := by
 intro c
 induction c with
 | skip => intro st a w Qa Q h hwp hQ; exact wp_skip (hQ _ _ _ _ hwp h)
 | region id ops draw =>
  intro st a w Qa Q h hwp hQ
  obtain ⟨h1, h2⟩ := hwp
  cases draw with
  | false => exact wp_region_list (sound_ops hT (fun st a w => hQ .normal st a w) _ st a w h h2)
  | true =>
   refine wp_region_any hm ?_
   exact h1 rfl P T w0 ok0 st a _ (Qa .normal) Q hT (h.later ⟨rfl, rfl, rfl, Nat.le_refl _, fun _ _ => rfl⟩) h2 (fun st a w => hQ .normal st a w)
 | seq x y ihx ihy =>
  intro st a w Qa Q h hwp hQ
  refine wp_seq (ihx st a w _ _ h hwp fun e st' a' w' h1 h2 => ?_)
  cases e with
  | normal => exact ihy st' a' w' Qa Q h2 h1 hQ
  | _ => exact hQ _ _ _ _ h1 h2
 | cond c x y ihx ihy =>
  intro st a w Qa Q h hwp hQ
  unfold absCode at hwp
  split at hwp
  ·
   rename_i t ht
   obtain ⟨σ, hr⟩ := h.rel
   exact wp_cond_split (ev_bool hr ht) (fun e => ihx st a w Qa Q h (hwp.1 e) hQ) (fun e => ihy st a w Qa Q h (hwp.2 e) hQ)
  ·
   exact hwp.elim
 | block id c ih =>
  intro st a w Qa Q h hwp hQ
  refine wp_block (ih st a w _ _ h hwp fun e st' a' w' h1 h2 => ?_)
  cases e with
  | exit id' =>
   simp only [blockA] at h1
   simp only [Exit.inBlock]
   split
   ·
    rename_i e; rw [if_pos e] at h1; exact hQ _ _ _ _ h1 h2
   ·
    rename_i e; rw [if_neg e] at h1; exact hQ _ _ _ _ h1 h2
  | _ => exact hQ _ _ _ _ h1 h2
 | loop c ih =>
  intro st a w Qa Q h hwp hQ
  obtain ⟨I, ⟨n0, s0, hw0, hI0⟩, hround⟩ := hwp
  have hex : ∀ a w, (∃ n s, I n s ∧ Rel w0 ok0 s a w) → ∃ n, (∃ s, I n s ∧ Rel w0 ok0 s a w) ∧ ∀ m, (∃ s, I m s ∧ Rel w0 ok0 s a w) → n ≤ m := fun a w ⟨n, hn⟩ => by
   induction n using Nat.strongRecOn with
   | ind n ih =>
    by_cases hlt : ∃ m, m < n ∧ ∃ s, I m s ∧ Rel w0 ok0 s a w
    ·
     obtain ⟨m, h1, h2⟩ := hlt; exact ih m h1 h2
    ·
     exact ⟨n, hn, fun m hm => Nat.le_of_not_lt fun h1 => hlt ⟨m, h1, hm⟩⟩
  let μ : Act → World → Nat := fun a w => @dite _ (∃ n s, I n s ∧ Rel w0 ok0 s a w) (Classical.propDecidable _) (fun h => Classical.choose (hex a w h)) (fun _ => 0)
  have hμ : ∀ a w (h : ∃ n s, I n s ∧ Rel w0 ok0 s a w), (∃ s, I (μ a w) s ∧ Rel w0 ok0 s a w) ∧ ∀ m, (∃ s, I m s ∧ Rel w0 ok0 s a w) → μ a w ≤ m := fun a w h => by
   have : μ a w = Classical.choose (hex a w h) := @dif_pos _ (Classical.propDecidable _) h _ _ _
   rw [this]; exact Classical.choose_spec (hex a w h)
  refine wp_loop (fun a w => ∃ n s, I n s ∧ Rel w0 ok0 s a w) μ ⟨n0, s0, hI0, h.weak hw0⟩ fun a w hI => ?_
  obtain ⟨⟨s, h1, h2⟩, h3⟩ := hμ a w hI
  refine ih s a w _ _ h2 (hround _ s h1) fun e st' a' w' h4 h5 => ?_
  cases e with
  | normal =>
   obtain ⟨m, s'', h6, h7, h8⟩ := h4
   have hI' : ∃ n s, I n s ∧ Rel w0 ok0 s a' w' := ⟨m, s'', h8, h5.weak h7⟩
   exact ⟨hI', Nat.lt_of_le_of_lt ((hμ a' w' hI').2 m ⟨s'', h8, h5.weak h7⟩) h6⟩
  | _ => exact hQ _ _ _ _ h4 h5
 | exit id => intro st a w Qa Q h hwp hQ; exact wp_exit (hQ _ _ _ _ hwp h)
 | ret => intro st a w Qa Q h hwp hQ; exact wp_ret (hQ _ _ _ _ hwp h)
 | _ => intro st a w Qa Q h hwp hQ; exact hwp.elim
/-! ### functions -/
def ent : List D → Nat → AV
 | [], _ => .und
 | x :: _, 0 => .d x
 | _ :: xs, t + 1 => ent xs t
theorem ent_lt {l : List D} {t : Nat} (h : t < l.length) : ent l t = .d (l[t]'h) := by
 induction l generalizing t with
 | nil => simp at h
 | cons x xs ih => cases t with
  | zero => rfl
  | succ t => exact ih (by simpa using h)
theorem ent_ge {l : List D} {t : Nat} (h : l.length ≤ t) : ent l t = .und := by
 induction l generalizing t with
 | nil => rfl
 | cons x xs ih => cases t with
  | zero => simp at h
  | succ t => exact ih (by simpa using h)
def entry (args : List D) (n : Nat) : AS := ⟨n, ent args, fun _ => none⟩
/-- what a result variable holds -/
def resP (T : TT) (st : AS) (d : D) : ResultVar → Prop
 | .tmp t => snap st (st.tm t) = some d
 | .cell p t => match T t, st.tm p with
  | some i, .optr r off => match st.H r with
   | some ob => match i.k with
    | .struct _ => ∃ ds, (match ob.cs with | .d l => some l | .a l => snapL st l) = some ds ∧ off + i.size ≤ ds.length ∧ ((ds.drop off).take i.size).all D.one = true ∧ d = .agg ((ds.drop off).take i.size)
    | _ => match ob.cs with
     | .d l => l[off]? = some d
     | .a l => match l[off]? with
      | some x => snap1 st x = some d
      | none => False
   | none => False
  | _, _ => False
def resL (T : TT) (st : AS) : List ResultVar → List D → Prop
 | [], [] => True
 | x :: xs, d :: ds => resP T st d x ∧ resL T st xs ds
 | _, _ => False
def resT : List D → D
 | [x] => x
 | ds => .tup ds
/-- everything is given away at the end -/
def okE (w0 : World) (ok0 : Nat → Prop) (w : World) (k : Nat) : Prop := k < w.heap.size ∧ (k < w0.heap.size → ok0 k)
theorem okE_of {L : List Nat} {k : Nat} (h : okS w0 ok0 (st.lk L) σ w k) : okE w0 ok0 w k := ⟨h.2.1, h.1⟩
theorem res_one (hT : TOk P T) (h : Rel w0 ok0 st a w) {σ : Nat → Option (Nat × Nat)} (hr : Rel' w0 ok0 st a w σ) {x : ResultVar} {d : D} (hx : resP T st d x) :
  ∃ v, (match x with | .tmp t => (pure (a.tmps.getD t undef) : Sem Value) | .cell p t => do loadVar t (← asAddr (a.tmps.getD p undef))).run P w = .ok v w ∧ RD w (okE w0 ok0 w) d v := by
 cases x with
 | tmp t =>
  exact ⟨_, rfl, (snap_RD (L := lks st (st.tm t)) hr (hr.tm t) hx (fun r hr => hr)).mono (fun k hk => okE_of hk)⟩
 | cell p t =>
  simp only [resP] at hx
  split at hx
  ·
   rename_i i r off hi hp
   have hpv := hr.tm p
   rw [hp] at hpv
   simp only [RV] at hpv
   split at hpv
   ·
    rename_i g m hσ
    split at hx
    ·
     rename_i ob hob
     have hagg := run_isAgg (w := w) hT hi
     split at hx
     ·
      rename_i l0 hk
      obtain ⟨ds, h1, h2, h3, rfl⟩ := hx
      have hc : ∃ u : Nat → Value, (∀ p, p < ds.length → w.cell? ((⟨g, 0, none⟩ : Addr).add p) = some (u p)) ∧ ∀ (p : Nat) (x : D), ds[p]? = some x → RD w (okE w0 ok0 w) x (u p) := by
       cases hcs : ob.cs with
       | d l =>
        rw [hcs] at h1
        simp only [Option.some.injEq] at h1
        subst h1
        obtain ⟨u, h4, h5⟩ := own_cells (L := []) hr hob hσ (.inl hcs)
        exact ⟨u, h4, fun p x hx => (h5 p x hx).mono (fun k hk => okE_of (L := []) hk)⟩
       | a l =>
        rw [hcs] at h1
        obtain ⟨u, h4, h5⟩ := own_cells (L := nms l) hr hob hσ (.inr ⟨l, hcs, h1, fun q hq => hq⟩)
        exact ⟨u, h4, fun p x hx => (h5 p x hx).mono (fun k hk => okE_of hk)⟩
      obtain ⟨u, h4, h5⟩ := hc
      obtain ⟨v, h6, h7⟩ := loadVar_struct (P := P) (off := off) hT hi (by rw [hk]; rfl) h4 h5 h2 h3
      refine ⟨v, ?_, h7⟩
      show Sem.run P (do loadVar t (← asAddr (a.tmps.getD p undef))) w = _
      rw [hpv, addr0 g off]
      simpa [asAddr] using h6
     ·
      rename_i hk
      have hf : i.k.isS = false := by cases hik : i.k <;> first | rfl | exact absurd hik (hk _)
      split at hx
      ·
       rename_i l hl
       obtain ⟨u, h4, h5⟩ := own_cells (L := []) hr hob hσ (.inl hl)
       obtain ⟨v, h6, h7⟩ := loadVar_one (P := P) (off := off) hT hi hf h4 h5 hx
       refine ⟨v, ?_, h7.mono (fun k hk => okE_of (L := []) hk)⟩
       show Sem.run P (do loadVar t (← asAddr (a.tmps.getD p undef))) w = _
       rw [hpv, addr0 g off]
       simpa [asAddr] using h6
      ·
       rename_i l hl
       split at hx
       ·
        rename_i z hz
        have hob2 := hr.ob r ob hob
        rw [hσ] at hob2
        obtain ⟨h5, us, h6, h7, h8⟩ := hob2
        obtain ⟨u, h9, h10, h11⟩ := h8 off z (by rw [hl]; exact hz)
        rw [hf] at hagg
        refine ⟨u, ?_, (snap1_RD (L := lks st z) hr h10 hx (snap1_lks hx rfl)).mono (fun k hk => okE_of hk)⟩
        show Sem.run P (do loadVar t (← asAddr (a.tmps.getD p undef))) w = _
        have hc : w.cell? ⟨g, off, none⟩ = some u := by rw [cell_of_row w g off us ob.e (0, 0) h6]; exact h9
        rw [hpv]
        simp [asAddr, loadVar, Sem.run_bind, hagg, hc]
       ·
        exact hx.elim
    ·
     exact hx.elim
   ·
    exact hpv.elim
  ·
   exact hx.elim
def resS (tmps : Array Value) : ResultVar → Sem Value
 | .tmp t => pure (tmps.getD t undef)
 | .cell p t => do loadVar t (← asAddr (tmps.getD p undef))
theorem res_all (hT : TOk P T) (h : Rel w0 ok0 st a w) {σ : Nat → Option (Nat × Nat)} (hr : Rel' w0 ok0 st a w σ) : ∀ {xs : List ResultVar} {ds : List D}, resL T st xs ds →
  ∃ vs : List Value, (xs.mapM (resS a.tmps)).run P w = .ok vs w ∧ vs.length = ds.length ∧ ∀ (i : Nat) d, ds[i]? = some d → ∃ v, vs[i]? = some v ∧ RD w (okE w0 ok0 w) d v
 | [], [], _ => ⟨[], rfl, rfl, fun i d hi => by simp at hi⟩
 | [], d :: ds, hx => hx.elim
 | x :: xs, [], hx => hx.elim
 | x :: xs, d :: ds, hx => by
  obtain ⟨v, h1, h2⟩ := res_one hT h hr hx.1
  have h1 : (resS a.tmps x).run P w = .ok v w := by rw [← h1]; cases x <;> rfl
  obtain ⟨vs, h3, h4, h5⟩ := res_all hT h hr hx.2
  refine ⟨v :: vs, ?_, by simp [h4], fun i e hi => ?_⟩
  ·
   rw [List.mapM_cons, Sem.run_bind, h1]
   simp only [Result.andThen_ok, Sem.run_bind, h3, Sem.run_pure]
  ·
   cases i with
   | zero => simp at hi; subst hi; exact ⟨v, rfl, h2⟩
   | succ i => simpa using h5 i e (by simpa using hi)
/-- a function's contract, out of its body's values -/
theorem spec_intro (hT : TOk P T) (hm : P.follows .mixedOrders = true) {f : FuncId} {fn : Func} {c : Code} {n : Nat} (hf : P.funcs[f]? = some fn) (hb : fn.body = some c) (hn : fn.ntmps = n) (hname : (fn.name == "runtime.NumGoroutine") = false) {args ds : List D} (hargs : args.length ≤ n)
  (h : absCode P T c (entry args n) fun e st => (e = .ret ∨ e = .normal) ∧ resL T st fn.results.toList ds) : Spec P f args (resT ds) := by
 refine ⟨by simp [enterOk, hf, hb, hname], fun w vs ok hs hvs hok => ?_⟩
 refine calls_of_wp hf hb ?_
 rw [hn]
 have hsize : (vs ++ Array.replicate (n - vs.size) undef).size = n := by simp; omega
 have hrel : Rel w ok (entry args n) { tmps := vs ++ Array.replicate (n - vs.size) undef, defers := [] } w := by
  refine ⟨⟨fun t r hr => ?_, fun r ob l h1 => by cases h1⟩, rfl, hsize, Below.refl _ _, fun _ => none, ⟨fun r r' g m m' h1 _ _ _ => absurd rfl h1, fun r ob h1 => (by cases h1), fun t => ?_⟩⟩
  ·
   exfalso
   have hr' : (ent args t).names = some r := hr
   by_cases ht : t < args.length
   ·
    rw [ent_lt ht] at hr'; cases hr'
   ·
    rw [ent_ge (by omega)] at hr'; cases hr'
  ·
   show RV w _ _ (ent args t) _
   by_cases ht : t < args.length
   ·
    rw [ent_lt ht]
    obtain ⟨v, h1, h2⟩ := hvs t _ (List.getElem?_eq_getElem ht)
    have : (vs ++ Array.replicate (n - vs.size) undef).getD t undef = v := by
     rw [Array.getD_eq_getD_getElem?, Array.getElem?_append_left (by omega), h1]; rfl
    rw [this]
    exact h2.mono (fun k hk => ⟨fun _ => hk, hok k hk, fun r ob g m h3 => by cases h3⟩)
   ·
    rw [ent_ge (by omega)]
    show _ = undef
    rw [Array.getD_eq_getD_getElem?, Array.getElem?_append_right (by omega)]
    by_cases h2 : t - vs.size < n - vs.size
    ·
     simp [h2]
    ·
     simp [h2]
 refine sound_code hT hm c _ _ w _ _ hrel h fun e st a' w' ⟨he, hres⟩ hrel' => ?_
 obtain ⟨σ, hr⟩ := hrel'.rel
 obtain ⟨rs, h1, h2, h3⟩ := res_all hT hrel' hr hres
 have hmap : (results fn a'.tmps).run P w' = .ok (if h : rs.toArray.size = 1 then rs.toArray[0] else .tuple rs.toArray) w' := by
  have e1 : results fn a'.tmps = (do let vs ← fn.results.mapM (resS a'.tmps); pure (if h : vs.size = 1 then vs[0] else .tuple vs)) := by
   unfold results
   congr 1
  rw [e1, Sem.run_bind, Array.mapM_eq_mapM_toList]
  have e2 : (List.toArray <$> fn.results.toList.mapM (resS a'.tmps)).run P w' = .ok rs.toArray w' := by
   rw [Sem.run_map, h1]; rfl
  rw [e2]; rfl
 have hrd : RD w' (okE w ok w') (resT ds) (if h : rs.toArray.size = 1 then rs.toArray[0] else .tuple rs.toArray) := by
  by_cases hl : rs.length = 1
  ·
   obtain ⟨d, rfl⟩ : ∃ d, ds = [d] := by
    cases ds with
    | nil => simp only [List.length_nil] at h2; omega
    | cons d ds => cases ds with
     | nil => exact ⟨d, rfl⟩
     | cons d' ds => simp only [List.length_cons] at h2; omega
   obtain ⟨v, h4, h5⟩ := h3 0 d rfl
   rw [dif_pos (by simpa using hl)]
   have : rs.toArray[0]'(by simp; omega) = v := by
    have := h4
    rw [List.getElem?_eq_getElem (by omega)] at this
    simpa using this
   rw [this]; exact h5
  ·
   rw [dif_neg (by simpa using hl)]
   have hne : resT ds = .tup ds := by
    cases ds with
    | nil => rfl
    | cons d ds => cases ds with
     | nil => simp only [List.length_cons, List.length_nil] at h2; omega
     | cons d' ds => rfl
   rw [hne]
   refine .tup ds _ (fun i => rs.getD i undef) (by simp [h2]) (fun i hi => ?_) (fun i d hd => ?_)
   ·
    have : i < rs.length := by omega
    simp [this]
   ·
    obtain ⟨v, h4, h5⟩ := h3 i d hd
    have : rs.getD i undef = v := by rw [List.getD_eq_getElem?_getD, h4]; rfl
    rw [this]; exact h5
 rcases he with he | he <;> subst he <;> exact ⟨hrel'.defers, _, hmap, hrel'.below, _, rfl, hrd⟩
end Ab
/- Regions that draw their order: one order serves for all. -/
namespace Ab
open Go Go.RowKit
set_option linter.unusedVariables false
variable {P : Program} {T : TT} {w0 w w' : World} {ok0 : Nat → Prop} {st st' : AS} {a : Act} {o : Oper} {K : AS → Prop} {Q : Exit → Act → World → Prop} {ops : Array Oper} {md : Region.Mode}
/-- what an operation comes to speaks only of objects that there are -/
def LiveC (st : AS) : Comp → Prop
 | .val v L => live st v ∧ ∀ q ∈ L, st.H q ≠ none
 | .new ob v => (∀ l, ob.cs = .a l → ∀ x ∈ l, live st x) ∧ ∀ d r, (v d).names = some r → r = d
 | .set .. | .grow .. => False
 | .need _ c => LiveC st c
 | .br _ c d => LiveC st c ∧ LiveC st d
 | .call _ _ L => ∀ q ∈ L, st.H q ≠ none
 | .fail => True
theorem live_d (x : D) : live st (.d x) := fun r hr => by cases hr
theorem lks_live (hw : WF st) {x : AV} (hl : live st x) : ∀ q ∈ lks st x, st.H q ≠ none := by
 intro q hq
 cases x with
 | osl r off n sz wh => simp [lks] at hq; subst hq; exact hl q rfl
 | optr r off =>
  simp only [lks, List.mem_cons] at hq
  rcases hq with hq | hq
  ·
   subst hq; exact hl q rfl
  ·
   split at hq
   ·
    rename_i ob hob
    split at hq
    ·
     rename_i l hcs
     obtain ⟨y, hy, hn⟩ := List.mem_filterMap.1 hq
     exact hw.H r ob l hob hcs y hy q hn
    ·
     simp at hq
   ·
    simp at hq
 | _ => simp [lks] at hq
theorem lkss_live (hw : WF st) {l : List AV} (hl : ∀ x ∈ l, live st x) : ∀ q ∈ lkss st l, st.H q ≠ none := by
 intro q hq
 obtain ⟨x, hx, hq⟩ := List.mem_flatMap.1 hq
 exact lks_live hw (hl x hx) q hq
theorem ev_live_all (hw : WF st) (l : List Operand) : ∀ x ∈ l.map st.ev, live st x := fun x hx => by
 obtain ⟨y, _, rfl⟩ := List.mem_map.1 hx
 exact ev_live hw y
/-- not a store, nor a row that grows -/
def plainOp : Op → Bool
 | .store .. => false
 | .call c => match c.callee with | .builtin .append => false | _ => true
 | _ => true
theorem nil_live : ∀ q ∈ ([] : List Nat), st.H q ≠ none := fun q hq => by cases hq
theorem bl_live {b : Bool} : LiveC st (bl b) := ⟨live_d _, nil_live⟩
theorem cb_live {b : Bool} : LiveC st (cb b) := ⟨bl_live, bl_live⟩
theorem arith_live {k : IntKind} {n : Int} : LiveC st (arith k n) := by unfold arith; split <;> exact ⟨live_d _, nil_live⟩
theorem absNil_live {op : BinOp} {z : Option (Bool × Prop)} : LiveC st (absNil op z) := by
 unfold absNil
 split
 ·
  split
  ·
   exact bl_live
  ·
   exact bl_live
  ·
   trivial
 ·
  trivial
theorem absBin_live {op : BinOp} {k : TK} {x y : AV} : LiveC st (absBin op k x y) := by
 unfold absBin
 split
 ·
  split
  ·
   split <;> first | exact arith_live | exact cb_live | exact ⟨live_d _, nil_live⟩ | trivial
  ·
   trivial
 ·
  split <;> first | exact cb_live | trivial
 ·
  split <;> first | exact absNil_live | trivial
 ·
  split <;> first | exact absNil_live | trivial
 ·
  trivial
theorem loadD_live {i : TI} {off : Nat} {cs : List D} {L : List Nat} (hL : ∀ q ∈ L, st.H q ≠ none) : LiveC st (loadD i off cs L) := by
 unfold loadD; split <;> exact ⟨live_d _, hL⟩
theorem absLoad_live (hw : WF st) {i : TI} {x : AV} : LiveC st (absLoad st i x) := by
 unfold absLoad
 split
 ·
  exact loadD_live nil_live
 ·
  split
  ·
   rename_i ob hob
   split
   ·
    exact loadD_live nil_live
   ·
    rename_i l hl
    split
    ·
     split
     ·
      refine loadD_live fun q hq => ?_
      obtain ⟨y, hy, hn⟩ := List.mem_filterMap.1 hq
      exact hw.H _ ob l hob hl y hy q hn
     ·
      trivial
    ·
     split
     ·
      rename_i z hz
      exact ⟨hw.H _ ob l hob hl z (List.mem_of_getElem? hz), nil_live⟩
     ·
      trivial
  ·
   trivial
 ·
  trivial
theorem absIndex_live {sz : Nat} {x y : AV} (hx : live st x) : LiveC st (absIndex sz x y) := by
 unfold absIndex
 split
 ·
  exact ⟨live_d _, nil_live⟩
 ·
  exact ⟨fun r hr => hx r hr, nil_live⟩
 ·
  trivial
theorem absField_live {n : Nat} {x : AV} (hx : live st x) : LiveC st (absField n x) := by
 unfold absField
 split
 ·
  exact ⟨live_d _, nil_live⟩
 ·
  exact ⟨fun r hr => hx r hr, nil_live⟩
 ·
  trivial
theorem absLen_live {x : AV} : LiveC st (absLen x) := by
 unfold absLen
 split <;> first | exact ⟨live_d _, nil_live⟩ | trivial
theorem absSlice_live {sz : Nat} {x : AV} {l h : Option AV} (hx : live st x) : LiveC st (absSlice sz x l h) := by
 rw [absSlice_eq]
 split
 ·
  split
  ·
   exact ⟨live_d _, nil_live⟩
  ·
   trivial
 ·
  split
  ·
   exact ⟨fun r hr => hx r hr, nil_live⟩
  ·
   trivial
 ·
  trivial
theorem absCall_live (hw : WF st) {dst : Option Nat} {c : Call} (hp : plainOp (.call c) = true) : LiveC st (absCall T st dst c) := by
 unfold absCall
 split
 ·
  split
  ·
   split
   ·
    exact lkss_live hw (ev_live_all hw _)
   ·
    trivial
  ·
   trivial
 ·
  split
  ·
   split
   ·
    exact absLen_live
   ·
    trivial
  ·
   trivial
 ·
  split
  ·
   split
   ·
    exact ⟨live_d _, nil_live⟩
   ·
    trivial
  ·
   trivial
 ·
  split
  ·
   split
   ·
    exact ⟨live_d _, nil_live⟩
   ·
    trivial
  ·
   trivial
 ·
  rename_i hc; simp [plainOp, hc] at hp
 ·
  trivial
theorem parts_live (hw : WF st) (l : List (Nat × Operand)) : ∀ q ∈ lkss st (l.map fun p => st.ev p.2), st.H q ≠ none :=
 lkss_live hw fun x hx => by
  obtain ⟨y, _, rfl⟩ := List.mem_map.1 hx
  exact ev_live hw y.2
theorem mapd_live {l : List D} : ∀ x ∈ l.map AV.d, live st x := fun x hx => by
 obtain ⟨y, _, rfl⟩ := List.mem_map.1 hx
 exact live_d y
theorem absOp_live (hw : WF st) (hp : plainOp o.op = true) : LiveC st (absOp T st o) := by
 unfold absOp
 split
 ·
  exact ⟨ev_live hw _, nil_live⟩
 ·
  exact ⟨ev_live hw _, nil_live⟩
 ·
  split
  ·
   rename_i b _; cases b <;> exact ⟨ev_live hw _, nil_live⟩
  ·
   trivial
 ·
  split
  ·
   exact ⟨fun l hl x hx => (by cases hl; exact mapd_live x hx), fun d r hr => (by cases hr; rfl)⟩
  ·
   trivial
 ·
  split
  ·
   split
   ·
    exact ⟨fun l hl x hx => (by cases hl; exact mapd_live x hx), fun d r hr => (by cases hr; rfl)⟩
   ·
    rename_i hx
    refine ⟨fun l hl y hy => ?_, fun d r hr => by cases hr; rfl⟩
    cases hl
    simp only [List.mem_singleton] at hy
    rw [hy, ← hx]; exact ev_live hw _
   ·
    trivial
  ·
   trivial
 ·
  split
  ·
   split
   ·
    split
    ·
     exact ⟨live_d _, parts_live hw _⟩
    ·
     trivial
   ·
    trivial
  ·
   trivial
 ·
  split
  ·
   split
   ·
    split
    ·
     cases hcp : constParts _ with
     | true => exact ⟨fun l hl => (by cases hl), fun d r hr => (by cases hr; rfl)⟩
     | false => exact ⟨live_d _, parts_live hw _⟩
    ·
     trivial
   ·
    trivial
  ·
   trivial
 ·
  split
  ·
   exact absLoad_live hw
  ·
   trivial
 ·
  rename_i ho; rw [ho] at hp; simp [plainOp] at hp
 ·
  split
  ·
   exact absBin_live
  ·
   trivial
 ·
  split
  ·
   exact bl_live
  ·
   trivial
 ·
  split
  ·
   exact arith_live
  ·
   trivial
 ·
  split
  ·
   exact ⟨live_d _, nil_live⟩
  ·
   trivial
 ·
  split
  ·
   split
   ·
    exact ⟨fun l hl => (by cases hl), fun d r hr => (by cases hr; rfl)⟩
   ·
    trivial
  ·
   trivial
 ·
  split
  ·
   split
   ·
    exact absSlice_live (ev_live hw _)
   ·
    trivial
  ·
   trivial
 ·
  split
  ·
   split
   ·
    exact absField_live (ev_live hw _)
   ·
    trivial
  ·
   trivial
 ·
  split
  ·
   split
   ·
    exact absIndex_live (ev_live hw _)
   ·
    trivial
  ·
   trivial
 ·
  split
  ·
   split
   ·
    exact ⟨live_d _, nil_live⟩
   ·
    trivial
  ·
   trivial
 ·
  split
  ·
   split
   ·
    exact ⟨live_d _, lkss_live hw (ev_live_all hw _)⟩
   ·
    trivial
  ·
   trivial
 ·
  rename_i ho; rw [ho] at hp; exact absCall_live hw hp
 ·
  trivial
theorem stepC_live (hw : WF st) (hp : plainOp o.op = true) : LiveC st (stepC T ops st o) := by
 unfold stepC
 have hu : LiveC st (.val .und []) := ⟨fun r hr => (by cases hr), nil_live⟩
 split
 ·
  exact absOp_live hw hp
 ·
  split
  ·
   exact hu
  ·
   split
   ·
    rename_i want hg x2 d hd x1 b hb
    cases hb' : (b == want) with
    | true => exact absOp_live hw hp
    | false => exact hu
   ·
    exact hu
   ·
    trivial
theorem wp_mono {c : Comp} {dst : Option Nat} {K K' : AS → Prop} (h : ∀ s, K s → K' s) (hc : c.wp P dst st K) : c.wp P dst st K' := by
 induction c with
 | val v L => exact h _ hc
 | new ob v => cases dst with
  | none => exact hc.elim
  | some d => exact ⟨hc.1, h _ hc.2⟩
 | set r p xs L => exact ⟨hc.1, h _ hc.2⟩
 | grow r ob v L => exact h _ hc
 | need p c ih => exact ⟨hc.1, ih hc.2⟩
 | br b c d ihc ihd => exact ⟨fun e => ihc (hc.1 e), fun e => ihd (hc.2 e)⟩
 | call f args L => obtain ⟨r, h1, h2⟩ := hc; exact ⟨r, h1, h _ h2⟩
 | fail => exact hc
/-! ### an operation sees what it saw, whichever came first -/
/-- the objects look alike, but for who owns them -/
def Like (st st' : AS) : Prop := ∀ r, st.H r ≠ none → (st'.H r).map (fun ob => (ob.e, ob.cs)) = (st.H r).map (fun ob => (ob.e, ob.cs))
theorem Like.get (h : Like st st') {r : Nat} {ob : Ob} (hr : st.H r = some ob) : ∃ ob', st'.H r = some ob' ∧ ob'.e = ob.e ∧ ob'.cs = ob.cs := by
 have := h r (by rw [hr]; simp)
 rw [hr] at this
 cases h2 : st'.H r with
 | none => rw [h2] at this; simp at this
 | some ob' => rw [h2] at this; simp at this; exact ⟨ob', rfl, this.1, this.2⟩
theorem Like.lk (L : List Nat) : Like st (st.lk L) := fun r hr => by
 cases L with
 | nil => rfl
 | cons y ys =>
  obtain ⟨ob, hob⟩ := Option.ne_none_iff_exists'.1 hr
  show ((st.H r).map _).map _ = _
  rw [hob]; simp only [Option.map_some]; split <;> rfl
theorem Like.new {d : Nat} {ob : Ob} (hn : st.H d = none) : Like st (st.new d ob) := fun r hr => by
 have hne : r ≠ d := fun e => hr (e ▸ hn)
 show (upd st.H d (some ob) r).map _ = _
 rw [upd_ne _ _ hne]
theorem snap1_like (h : Like st st') {x : AV} (hl : live st x) : snap1 st' x = snap1 st x := by
 cases x with
 | osl r off n sz wh =>
  obtain ⟨ob, hob⟩ := Option.ne_none_iff_exists'.1 (hl r rfl)
  obtain ⟨ob', h1, _, h3⟩ := h.get hob
  simp only [snap1, hob, h1, h3]
 | _ => rfl
theorem snapL_like (h : Like st st') : ∀ {l : List AV}, (∀ x ∈ l, live st x) → snapL st' l = snapL st l
 | [], _ => rfl
 | x :: xs, hl => by
  simp only [snapL]
  rw [snap1_like h (hl x (by simp)), snapL_like h (fun y hy => hl y (by simp [hy]))]
theorem snap_like (hw : WF st) (h : Like st st') {x : AV} (hl : live st x) : snap st' x = snap st x := by
 cases x with
 | optr r off =>
  obtain ⟨ob, hob⟩ := Option.ne_none_iff_exists'.1 (hl r rfl)
  obtain ⟨ob', h1, _, h3⟩ := h.get hob
  simp only [snap, hob, h1, h3]
  cases hcs : ob.cs with
  | d l => rfl
  | a l => simp only [snapL_like h (fun y hy => hw.H r ob l hob hcs y hy)]
 | osl r off n sz wh => exact snap1_like h hl
 | d y => rfl
 | und => rfl
 | junk => rfl
theorem lks_like (h : Like st st') {x : AV} (hl : live st x) : lks st' x = lks st x := by
 cases x with
 | optr r off =>
  obtain ⟨ob, hob⟩ := Option.ne_none_iff_exists'.1 (hl r rfl)
  obtain ⟨ob', h1, _, h3⟩ := h.get hob
  simp only [lks, hob, h1, h3]
 | _ => rfl
theorem absLoad_like (hw : WF st) (h : Like st st') {x : AV} (hl : live st x) (i : TI) : absLoad st' i x = absLoad st i x := by
 cases x with
 | optr r off =>
  obtain ⟨ob, hob⟩ := Option.ne_none_iff_exists'.1 (hl r rfl)
  obtain ⟨ob', h1, _, h3⟩ := h.get hob
  simp only [absLoad, hob, h1, h3]
  cases hcs : ob.cs with
  | d l => rfl
  | a l =>
   have e : snapL st' l = snapL st l := snapL_like h (fun y hy => hw.H r ob l hob hcs y hy)
   simp only [e]
 | d y => cases y <;> rfl
 | osl r off n sz wh => rfl
 | und => rfl
 | junk => rfl
theorem snaps_like (hw : WF st) (h : Like st st') : ∀ {l : List AV}, (∀ x ∈ l, live st x) → snaps st' l = snaps st l
 | [], _ => rfl
 | x :: xs, hl => by
  simp only [snaps]
  rw [snap_like hw h (hl x (by simp)), snaps_like hw h (fun y hy => hl y (by simp [hy]))]
theorem lkss_like (h : Like st st') {l : List AV} (hl : ∀ x ∈ l, live st x) : lkss st' l = lkss st l := by
 unfold lkss
 induction l with
 | nil => rfl
 | cons x xs ih => rw [List.flatMap_cons, List.flatMap_cons, lks_like h (hl x (by simp)), ih (fun y hy => hl y (by simp [hy]))]
theorem partsD_like (hw : WF st) (h : Like st st') : ∀ {l : List (Nat × Operand)}, (∀ p ∈ l, st'.ev p.2 = st.ev p.2) → partsD st' l = partsD st l
 | [], _ => rfl
 | (i, x) :: rest, he => by
  simp only [partsD]
  rw [he (i, x) (by simp), snap_like hw h (ev_live hw x), partsD_like hw h (fun p hp => he p (by simp [hp]))]
theorem map_ev {l : List Operand} (he : ∀ x ∈ l, st'.ev x = st.ev x) : l.map st'.ev = l.map st.ev := List.map_congr_left he
theorem map_ev2 {l : List (Nat × Operand)} (he : ∀ p ∈ l, st'.ev p.2 = st.ev p.2) : (l.map fun p => st'.ev p.2) = l.map fun p => st.ev p.2 := List.map_congr_left he
theorem absCall_like (hw : WF st) (h : Like st st') {dst : Option Nat} {c : Call} (hp : plainOp (.call c) = true) (he : ∀ x ∈ c.operands, st'.ev x = st.ev x) : absCall T st' dst c = absCall T st dst c := by
 have hargs : ∀ x ∈ c.args.toList, st'.ev x = st.ev x := fun x hx => he x (by unfold Call.operands; split <;> simp [Array.mem_toList_iff.1 hx])
 have e1 := map_ev hargs
 unfold absCall
 cases hc : c.callee with
 | value f =>
  have hf : st'.ev f = st.ev f := he f (by simp [Call.operands, hc])
  simp only [hf, e1, snaps_like hw h (ev_live_all hw c.args.toList), lkss_like h (ev_live_all hw c.args.toList)]
 | invoke r m => rfl
 | builtin b =>
  cases b <;> first | rfl | (simp [plainOp, hc] at hp; done) | skip
  all_goals (rcases hl : c.args.toList with _ | ⟨x, _ | ⟨y, _ | ⟨z, zs⟩⟩⟩ <;> rcases c.argTypes.toList with _ | ⟨t, _ | ⟨t', ts⟩⟩ <;> first | rfl | (dsimp only; rw [hargs x (by simp [hl])]; done) | (dsimp only; rw [hargs x (by simp [hl]), hargs y (by simp [hl])]; done))
end Ab
/- Regions that draw their order: the exchange of two operations, and all orders. -/
namespace Ab
open Go Go.RowKit
set_option linter.unusedVariables false
variable {P : Program} {T : TT} {w0 w w' : World} {ok0 : Nat → Prop} {st st' : AS} {a : Act} {o : Oper} {K : AS → Prop} {Q : Exit → Act → World → Prop} {ops : Array Oper} {md : Region.Mode}
theorem absOp_like (hw : WF st) (h : Like st st') (hp : plainOp o.op = true) (he : ∀ x ∈ o.op.operands, st'.ev x = st.ev x) : absOp T st' o = absOp T st o := by
 have hparts : ∀ (parts : Array (Nat × Operand)), (∀ x ∈ (parts.toList.map (·.2)).toArray, st'.ev x = st.ev x) → ∀ p ∈ parts.toList, st'.ev p.2 = st.ev p.2 := fun parts h p hp => h p.2 (by simp; exact ⟨p.1, by simpa using hp⟩)
 unfold absOp
 cases ho : o.op <;> (rw [ho] at he hp) <;> first | rfl | (simp only [Op.operands] at he) <;> try rfl
 case move x => simp only [he x (by simp)]
 case assign x => simp only [he x (by simp)]
 case pick c x y => simp only [he c (by simp), he x (by simp), he y (by simp)]
 case box t x => simp only [he x (by simp)]
 case build t parts =>
  have hp' := hparts parts he
  have e2 := lkss_like h (l := parts.toList.map fun p => st.ev p.2) (fun x hx => by obtain ⟨y, _, rfl⟩ := List.mem_map.1 hx; exact ev_live hw y.2)
  simp only [partsD_like hw h hp', map_ev2 hp', e2]
 case buildSlice t len parts =>
  have hp' := hparts parts he
  have e2 := lkss_like h (l := parts.toList.map fun p => st.ev p.2) (fun x hx => by obtain ⟨y, _, rfl⟩ := List.mem_map.1 hx; exact ev_live hw y.2)
  simp only [partsD_like hw h hp', map_ev2 hp', e2]
 case load t x =>
  simp only [he x (by simp)]
  cases T t with
  | none => rfl
  | some i => exact absLoad_like hw h (ev_live hw x) i
 case store => simp [plainOp] at hp
 case binOp op t x y t' => simp only [he x (by simp), he y (by simp)]
 case unOp op t x => cases op <;> first | rfl | simp only [he x (by simp)]
 case convert s t x => simp only [he x (by simp)]
 case makeSlice t x y => simp only [he x (by simp), he y (by simp)]
 case slice t x l hh m =>
  cases m with
  | some m => rfl
  | none =>
   have h1 : l.map st'.ev = l.map st.ev := by
    cases l with
    | none => rfl
    | some l => simp only [Option.map_some]; rw [he l (by simp)]
   have h2 : hh.map st'.ev = hh.map st.ev := by
    cases hh with
    | none => rfl
    | some hh => simp only [Option.map_some]; rw [he hh (by simp)]
   simp only [he x (by simp), h1, h2]
 case fieldAddr t x f => simp only [he x (by simp)]
 case indexAddr t x j => simp only [he x (by simp), he j (by simp)]
 case extract x i => simp only [he x (by simp)]
 case makeFunc fn first caps =>
  have h1 : ∀ x ∈ caps.toList, st'.ev x = st.ev x := fun x hx => he x (by simp; exact .inr (by simpa using hx))
  cases fn with
  | func f => simp only [map_ev h1, snaps_like hw h (ev_live_all hw caps.toList), lkss_like h (ev_live_all hw caps.toList)]
  | _ => rfl
 case call c => exact absCall_like hw h hp he
theorem stepC_like (hw : WF st) (h : Like st st') (hp : plainOp o.op = true) (he : ∀ t ∈ o.looksAt ops, st'.tm t = st.tm t) : stepC T ops st' o = stepC T ops st o := by
 have he' : ∀ x ∈ o.op.operands, st'.ev x = st.ev x := fun x hx => by
  cases x with
  | tmp t => exact he t (by unfold Oper.looksAt; simp only [List.mem_append, List.mem_filterMap]; exact .inl ⟨.tmp t, by simpa using hx, rfl⟩)
  | const v => rfl
  | global g => rfl
  | func f => rfl
 have e1 := absOp_like (T := T) hw h hp he'
 unfold stepC
 rw [e1]
 split
 ·
  rfl
 ·
  rename_i j want hg
  split
  ·
   rfl
  ·
   rename_i d hd
   have : st'.tm d = st.tm d := he d (by
    unfold Oper.looksAt
    simp only [hg, List.mem_append]
    right
    have : (ops[j]?).bind (·.dst) = some d := hd
    simp [this])
   rw [this]
/-- two operations that do not touch one another -/
def Apart (di dj : Option Nat) : Prop := ∀ d, di = some d → dj ≠ some d
theorem put_put {di dj : Option Nat} (h : Apart di dj) (v v' : AV) : (st.put di v).put dj v' = (st.put dj v').put di v := by
 cases di with
 | none => rfl
 | some d => cases dj with
  | none => rfl
  | some d' =>
   have hne : d ≠ d' := fun e => h d rfl (by rw [e])
   show ({ st with tm := if d' < st.N then upd (if d < st.N then upd st.tm d v else st.tm) d' v' else (if d < st.N then upd st.tm d v else st.tm) } : AS) = { st with tm := if d < st.N then upd (if d' < st.N then upd st.tm d' v' else st.tm) d v else (if d' < st.N then upd st.tm d' v' else st.tm) }
   by_cases h1 : d < st.N <;> by_cases h2 : d' < st.N <;> simp only [h1, h2, if_true, if_false]
   rw [upd_comm _ _ _ hne]
theorem lk_put (L : List Nat) (d : Option Nat) (v : AV) : (st.put d v).lk L = (st.lk L).put d v := by cases L <;> rfl
theorem new_put (r : Nat) (ob : Ob) (d : Option Nat) (v : AV) : (st.put d v).new r ob = (st.new r ob).put d v := rfl
theorem lk_H {L : List Nat} {r : Nat} : (st.lk L).H r = (st.H r).map fun ob => if L.contains r then { ob with lk := true } else ob := by
 cases L with
 | nil =>
  show st.H r = _
  cases st.H r <;> simp
 | cons x xs => rfl
theorem AS.ext' {s t : AS} (h1 : s.N = t.N) (h2 : s.tm = t.tm) (h3 : ∀ r, s.H r = t.H r) : s = t := by
 cases s; cases t; simp only at h1 h2 h3; subst h1 h2; congr; funext r; exact h3 r
theorem lk_tm (L : List Nat) : (st.lk L).tm = st.tm := by cases L <;> rfl
theorem lk_N (L : List Nat) : (st.lk L).N = st.N := by cases L <;> rfl
theorem lk_lk (L L' : List Nat) : (st.lk L).lk L' = (st.lk L').lk L := by
 refine AS.ext' (by simp only [lk_N]) (by simp only [lk_tm]) fun r => ?_
 rw [lk_H, lk_H, lk_H, lk_H]
 cases st.H r with
 | none => rfl
 | some ob => simp only [Option.map_some]; split <;> split <;> rfl
theorem lk_new {L : List Nat} {r : Nat} {ob : Ob} (h : ¬ r ∈ L) : (st.new r ob).lk L = (st.lk L).new r ob := by
 refine AS.ext' (by rw [lk_N]; show st.N = (st.lk L).N; rw [lk_N]) (by rw [lk_tm]; show st.tm = (st.lk L).tm; rw [lk_tm]) fun q => ?_
 rw [lk_H]
 show (upd st.H r (some ob) q).map _ = upd (st.lk L).H r (some ob) q
 by_cases hq : q = r
 ·
  subst hq; rw [upd_self, upd_self, Option.map_some, if_neg (by simpa using h)]
 ·
  rw [upd_ne _ _ hq, upd_ne _ _ hq, lk_H]
theorem new_new {r r' : Nat} {ob ob' : Ob} (h : r ≠ r') : (st.new r ob).new r' ob' = (st.new r' ob').new r ob := by
 show ({ st with H := upd (upd st.H r (some ob)) r' (some ob') } : AS) = { st with H := upd (upd st.H r' (some ob')) r (some ob) }
 rw [upd_comm _ _ _ h]
/-- a value, then an operation: the other way round -/
theorem swap_val {v : AV} {L : List Nat} {di dj : Option Nat} (hap : Apart di dj) (hL : ∀ q ∈ L, st.H q ≠ none) {cj : Comp} (hj : LiveC st cj) (h : cj.wp P dj ((st.lk L).put di v) K) : cj.wp P dj st (fun s => K ((s.lk L).put di v)) := by
 induction cj with
 | val v' L' =>
  show K ((((st.lk L').put dj v').lk L).put di v)
  have : ((((st.lk L).put di v).lk L').put dj v') = ((((st.lk L').put dj v').lk L).put di v) := by
   rw [lk_put, lk_put, lk_lk, put_put hap]
  rw [← this]; exact h
 | new ob v' =>
  cases dj with
  | none => exact h.elim
  | some d =>
   obtain ⟨h1, h2⟩ := h
   have hn : st.H d = none := by
    have h1' : (st.lk L).H d = none := h1
    rw [lk_H] at h1'
    simpa using h1'
   refine ⟨hn, ?_⟩
   have : ((((st.lk L).put di v).new d ob).put (some d) (v' d)) = ((((st.new d ob).put (some d) (v' d)).lk L).put di v) := by
    rw [new_put, lk_put, lk_new (fun hd => hL d hd hn), put_put hap]
   show K _
   rw [← this]; exact h2
 | set => exact hj.elim
 | grow => exact hj.elim
 | need p c ih => exact ⟨h.1, ih hj h.2⟩
 | br b c d ihc ihd => exact ⟨fun e => ihc hj.1 (h.1 e), fun e => ihd hj.2 (h.2 e)⟩
 | call f args L' =>
  obtain ⟨r, h1, h2⟩ := h
  refine ⟨r, h1, ?_⟩
  have : ((((st.lk L).put di v).lk L').put dj (.d r)) = ((((st.lk L').put dj (.d r)).lk L).put di v) := by
   rw [lk_put, lk_put, lk_lk, put_put hap]
  show K _
  rw [← this]; exact h2
 | fail => exact h
theorem swap_new {d : Nat} {ob : Ob} {v : AV} {dj : Option Nat} (hap : Apart (some d) dj) (hn : st.H d = none) {cj : Comp} (hj : LiveC st cj) (h : cj.wp P dj ((st.new d ob).put (some d) v) K) : cj.wp P dj st (fun s => s.H d = none ∧ K ((s.new d ob).put (some d) v)) := by
 induction cj with
 | val v' L' =>
  refine ⟨?_, ?_⟩
  ·
   show (st.lk L').H d = none
   rw [lk_H, hn]; rfl
  ·
   have : ((((st.new d ob).put (some d) v).lk L').put dj v') = ((((st.lk L').put dj v').new d ob).put (some d) v) := by
    rw [lk_put, new_put, lk_new (fun hd => hj.2 d hd hn), put_put hap]
   rw [← this]; exact h
 | new ob' v' =>
  cases dj with
  | none => exact h.elim
  | some d' =>
   have hne : d ≠ d' := fun e => hap d rfl (by rw [e])
   obtain ⟨h1, h2⟩ := h
   have hn' : st.H d' = none := by
    have h1' : upd st.H d (some ob) d' = none := h1
    rwa [upd_ne _ _ (fun e => hne e.symm)] at h1'
   refine ⟨hn', ?_, ?_⟩
   ·
    show upd st.H d' (some ob') d = none
    rw [upd_ne _ _ hne]; exact hn
   ·
    have : ((((st.new d ob).put (some d) v).new d' ob').put (some d') (v' d')) = ((((st.new d' ob').put (some d') (v' d')).new d ob).put (some d) v) := by
     rw [new_put, new_put, new_new hne, put_put hap]
    rw [← this]; exact h2
 | set => exact hj.elim
 | grow => exact hj.elim
 | need p c ih => exact ⟨h.1, ih hj h.2⟩
 | br b c d ihc ihd => exact ⟨fun e => ihc hj.1 (h.1 e), fun e => ihd hj.2 (h.2 e)⟩
 | call f args L' =>
  obtain ⟨r, h1, h2⟩ := h
  refine ⟨r, h1, ?_, ?_⟩
  ·
   show (st.lk L').H d = none
   rw [lk_H, hn]; rfl
  ·
   have : ((((st.new d ob).put (some d) v).lk L').put dj (.d r)) = ((((st.lk L').put dj (.d r)).new d ob).put (some d) v) := by
    rw [lk_put, new_put, lk_new (fun hd => hj d hd hn), put_put hap]
   rw [← this]; exact h2
 | fail => exact h
/-- two operations in the other order -/
theorem swap {ci cj : Comp} {di dj : Option Nat} (hap : Apart di dj) (hi : LiveC st ci) (hj : LiveC st cj) (h : ci.wp P di st (fun s => cj.wp P dj s K)) : cj.wp P dj st (fun s => ci.wp P di s K) := by
 induction ci with
 | val v L => exact swap_val hap hi.2 hj h
 | new ob v =>
  cases di with
  | none => exact h.elim
  | some d => exact swap_new hap h.1 hj h.2
 | set => exact hi.elim
 | grow => exact hi.elim
 | need p c ih => exact wp_mono (fun s hs => ⟨h.1, hs⟩) (ih hi h.2)
 | br b c d ihc ihd =>
  cases b
  ·
   exact wp_mono (fun s hs => ⟨fun e => (by cases e), fun _ => hs⟩) (ihd hi.2 (h.2 rfl))
  ·
   exact wp_mono (fun s hs => ⟨fun _ => hs, fun e => (by cases e)⟩) (ihc hi.1 (h.1 rfl))
 | call f args L =>
  obtain ⟨r, h1, h2⟩ := h
  exact wp_mono (fun s hs => ⟨r, h1, hs⟩) (swap_val hap hi hj h2)
 | fail => exact h.elim
/-- what is reached by an operation -/
theorem reach {c : Comp} {dst : Option Nat} (hl : LiveC st c) (h : c.wp P dst st K) : c.wp P dst st (fun s => K s ∧ (WF st → WF s) ∧ Like st s ∧ ∀ t, (∀ d, dst = some d → t ≠ d) → s.tm t = st.tm t) := by
 have hval : ∀ {v : AV} {L : List Nat}, live st v → (WF st → WF ((st.lk L).put dst v)) ∧ Like st ((st.lk L).put dst v) ∧ ∀ t, (∀ d, dst = some d → t ≠ d) → ((st.lk L).put dst v).tm t = st.tm t := fun {v L} hv => by
  refine ⟨fun hw => ?_, fun r hr => Like.lk L r hr, fun t ht => ?_⟩
  ·
   have : WF (st.lk L) := by
    refine ⟨fun t => live_lk (by rw [lk_tm]; exact hw.tm t), fun r ob l h1 h2 x hx => live_lk ?_⟩
    rw [lk_H, Option.map_eq_some_iff] at h1
    obtain ⟨ob', h3, h4⟩ := h1
    exact hw.H r ob' l h3 (by rw [← h2, ← h4]; split <;> rfl) x hx
   exact this.put (live_lk hv)
  ·
   cases dst with
   | none => show (st.lk L).tm t = _; rw [lk_tm]
   | some d => rw [put_tm, if_neg (fun e => ht d rfl e.1), lk_tm]
 induction c with
 | val v L => exact ⟨h, hval hl.1⟩
 | new ob v =>
  cases dst with
  | none => exact h.elim
  | some d =>
   refine ⟨h.1, h.2, fun hw => (hw.new hl.1).put (fun r hr => ?_), fun r hr => Like.new h.1 r hr, fun t ht => ?_⟩
   ·
    rw [hl.2 d r hr]
    show upd st.H d (some ob) d ≠ none
    rw [upd_self]; simp
   ·
    rw [put_tm, if_neg (fun e => ht d rfl e.1)]; rfl
 | set => exact hl.elim
 | grow => exact hl.elim
 | need p c ih => exact ⟨h.1, ih hl h.2⟩
 | br b c d ihc ihd => exact ⟨fun e => ihc hl.1 (h.1 e), fun e => ihd hl.2 (h.2 e)⟩
 | call f args L =>
  obtain ⟨r, h1, h2⟩ := h
  exact ⟨r, h1, h2, hval (live_d r)⟩
 | fail => exact h
end Ab
/- Regions that draw their order: the order of the text serves for all. -/
namespace Ab
open Go Go.RowKit
set_option linter.unusedVariables false
variable {P : Program} {T : TT} {w0 w w' : World} {ok0 : Nat → Prop} {st st' : AS} {a : Act} {o : Oper} {K : AS → Prop} {Q : Exit → Act → World → Prop} {ops : Array Oper} {md : Region.Mode}
theorem wp_false {c : Comp} {dst : Option Nat} (h : c.wp P dst st (fun _ => False)) : False := by
  induction c with
  | val v L => exact h
  | new ob v => cases dst with
    | none => exact h
    | some d => exact h.2
  | set r p xs L => exact h.2
  | grow r ob v L => exact h
  | need p c ih => exact ih h.2
  | br b c d ihc ihd => cases b
                        · exact ihd (h.2 rfl)
                        · exact ihc (h.1 rfl)
  | call f args L => obtain ⟨r, _, h⟩ := h; exact h
  | fail => exact h
def absAt (P : Program) (T : TT) (ops : Array Oper) (i : Nat) (st : AS) (K : AS → Prop) : Prop := match ops[i]? with
 | none => K st
 | some o => absStep P T ops o st K
/-- whatever order is picked from here on -/
def absAny (P : Program) (T : TT) (md : Region.Mode) (ops : Array Oper) (K : AS → Prop) : Nat → Array Bool → AS → Prop
 | 0, listed, st => Region.ready md ops listed = [] ∧ K st
 | fuel + 1, listed, st => (Region.ready md ops listed = [] → K st) ∧ ∀ i ∈ Region.ready md ops listed, absAt P T ops i st (absAny P T md ops K fuel (listed.setIfInBounds i true))
theorem absAny_sound (hT : TOk P T) (hK : ∀ st a w, K st → Rel w0 ok0 st a w → Q .normal a w) : ∀ (fuel : Nat) (listed : Array Bool) (st : AS) (a : Act) (w : World), Rel w0 ok0 st a w → absAny P T md ops K fuel listed st → wpAny P md ops Q fuel listed a w
 | 0, listed, st, a, w, h, hh => ⟨hh.1, hK st a w hh.2 h⟩
 | fuel + 1, listed, st, a, w, h, hh => by
  refine ⟨fun e => hK st a w (hh.1 e) h, fun i hi => ?_⟩
  have h1 := hh.2 i hi
  unfold absAt at h1
  unfold wpOp
  split
  ·
   rename_i ho
   rw [ho] at h1
   exact absAny_sound hT hK fuel _ st a w h h1
  ·
   rename_i o ho
   rw [ho] at h1
   have := sound_step (Q := Q) hT h h1
   split
   ·
    rename_i hw
    rw [if_pos hw] at this
    exact .inl (Go.Oper.wp_mono (fun a' w' ⟨st', h2, h3⟩ => absAny_sound hT hK fuel _ st' a' w' h3 h2) this)
   ·
    rename_i hw
    rw [if_neg hw] at this
    obtain ⟨st', h2, h3⟩ := this
    exact absAny_sound hT hK fuel _ st' _ _ h3 h2
theorem apart_dst {x y : Oper} (h : x.apart ops y = true) : Apart x.dst y.dst := fun d hd => (Oper.apart_spec h).2.1 d hd
/-- an operation that touches none of the others may be taken first -/
theorem any_first {i : Nat} {oi : Oper} (hi : ops[i]? = some oi) (hpi : plainOp oi.op = true) : ∀ (fuel : Nat) (listed : Array Bool) (st : AS),
  (∀ j oj, ops[j]? = some oj → j ≠ i → listed.getD j true = false → (∀ e ∈ oj.after, Region.binds md e = true → e.on ≠ i) → oi.apart ops oj = true ∧ plainOp oj.op = true) →
  i ∈ Region.ready md ops listed → WF st → (stepC T ops st oi).wp P oi.dst st (absAny P T md ops K fuel (listed.setIfInBounds i true)) → absAny P T md ops K (fuel + 1) listed st := by
 intro fuel
 induction fuel with
 | zero =>
  intro listed st _ hr hw H
  refine ⟨fun h => (by rw [h] at hr; cases hr), fun j hj => ?_⟩
  by_cases hji : j = i
  ·
   subst hji; unfold absAt; rw [hi]; exact H
  ·
   have := ready_mono hj hji
   exact (wp_false (wp_mono (fun s hs => by rw [hs.1] at this; cases this) H)).elim
 | succ fuel ih =>
  intro listed st hfree hr hw H
  refine ⟨fun h => (by rw [h] at hr; cases hr), fun j hj => ?_⟩
  by_cases hji : j = i
  ·
   subst hji; unfold absAt; rw [hi]; exact H
  ·
   obtain ⟨hjun, oj, hoj, hall⟩ := mem_ready.1 hj
   have hnot : ∀ e ∈ oj.after, Region.binds md e = true → e.on ≠ i := fun e he hb heq => by
    have h1 := hall e he hb
    have h0 := (mem_ready.1 hr).1
    rw [heq] at h1
    rcases Nat.lt_or_ge i listed.size with h' | h'
    ·
     simp [h'] at h0 h1; rw [h0] at h1; cases h1
    ·
     simp [Array.getElem?_eq_none h'] at h1
   obtain ⟨hap, hpj⟩ := hfree j oj hoj hji hjun hnot
   obtain ⟨ha1, ha2, ha3⟩ := Oper.apart_spec hap
   have hli := stepC_live (T := T) (ops := ops) hw hpi
   have hlj := stepC_live (T := T) (ops := ops) hw hpj
   -- the other one, seen from behind the first
   have h1 : (stepC T ops st oi).wp P oi.dst st (fun s => (stepC T ops st oj).wp P oj.dst s (absAny P T md ops K fuel ((listed.setIfInBounds i true).setIfInBounds j true))) := by
    refine wp_mono (fun s hs => ?_) (reach hli H)
    obtain ⟨hs1, hs2, hs3, hs4⟩ := hs
    have h2 := hs1.2 j (ready_mono hj hji)
    unfold absAt at h2
    rw [hoj] at h2
    have e1 : stepC T ops s oj = stepC T ops st oj := stepC_like hw hs3 hpj (fun t ht => hs4 t (fun d hd e => ha1 d hd (e ▸ ht)))
    have h2' : (stepC T ops s oj).wp P oj.dst s (absAny P T md ops K fuel ((listed.setIfInBounds i true).setIfInBounds j true)) := h2
    rw [e1] at h2'
    exact h2'
   have h2 := swap (apart_dst hap) hli hlj h1
   unfold absAt
   rw [hoj]
   refine wp_mono (fun s hs => ?_) (reach hlj h2)
   obtain ⟨hs1, hs2, hs3, hs4⟩ := hs
   have e1 : stepC T ops s oi = stepC T ops st oi := stepC_like hw hs3 hpi (fun t ht => hs4 t (fun d hd e => ha3 d hd (e ▸ ht)))
   refine ih (listed.setIfInBounds j true) s (fun k ok hk hki hun hno => ?_) (ready_mono hr (Ne.symm hji)) (hs2 hw) ?_
   ·
    refine hfree k ok hk hki ?_ hno
    by_cases hjk : j = k
    ·
     subst hjk; exact hjun
    ·
     rw [getD_set_ne true hjk] at hun; exact hun
   ·
    rw [e1, Array.setIfInBounds_comm _ _ hji]
    exact hs1
/-- all others wait for it -/
def onlyA (md : Region.Mode) (ops : Array Oper) (listed : Array Bool) (i : Nat) : Bool := (List.range ops.size).all fun j => j == i || listed.getD j true || match ops[j]? with
 | some oj => oj.after.any (fun e => Region.binds md e && e.on == i)
 | none => true
def freeA (md : Region.Mode) (ops : Array Oper) (listed : Array Bool) (i : Nat) : Bool := match ops[i]? with
 | none => false
 | some oi => plainOp oi.op && (List.range ops.size).all fun j => j == i || listed.getD j true || match ops[j]? with
  | some oj => oj.after.any (fun e => Region.binds md e && e.on == i) || (oi.apart ops oj && plainOp oj.op)
  | none => true
def lex2 (md : Region.Mode) (ops : Array Oper) : Nat → Nat → Array Bool → Bool
 | 0, _, listed => Region.ready md ops listed == []
 | n + 1, k, listed => (Region.ready md ops listed).contains k && onlyA md ops listed k && lex2 md ops n (k + 1) (listed.setIfInBounds k true)
def lex1 (md : Region.Mode) (ops : Array Oper) : Nat → Nat → Array Bool → Bool
 | 0, _, listed => Region.ready md ops listed == []
 | n + 1, k, listed => (Region.ready md ops listed).contains k && ((freeA md ops listed k && lex1 md ops n (k + 1) (listed.setIfInBounds k true)) || (onlyA md ops listed k && lex2 md ops n (k + 1) (listed.setIfInBounds k true)))
def lexOk (ops : Array Oper) : Bool := lex1 .any ops ops.size 0 (Array.replicate ops.size false)
theorem unlisted {i : Nat} {listed : Array Bool} (hr : i ∈ Region.ready md ops listed) {oj : Oper} (hall : ∀ e ∈ oj.after, Region.binds md e = true → listed.getD e.on false = true) : ∀ e ∈ oj.after, Region.binds md e = true → e.on ≠ i := fun e he hb heq => by
 have h1 := hall e he hb
 have h0 := (mem_ready.1 hr).1
 rw [heq] at h1
 rcases Nat.lt_or_ge i listed.size with h' | h'
 ·
  simp [h'] at h0 h1; rw [h0] at h1; cases h1
 ·
  simp [Array.getElem?_eq_none h'] at h1
theorem any_only {i : Nat} {oi : Oper} (hi : ops[i]? = some oi) {fuel : Nat} {listed : Array Bool} (ho : onlyA md ops listed i = true) (hr : i ∈ Region.ready md ops listed) (H : (stepC T ops st oi).wp P oi.dst st (absAny P T md ops K fuel (listed.setIfInBounds i true))) : absAny P T md ops K (fuel + 1) listed st := by
 refine ⟨fun h => (by rw [h] at hr; cases hr), fun j hj => ?_⟩
 by_cases hji : j = i
 ·
  subst hji; unfold absAt; rw [hi]; exact H
 ·
  exfalso
  obtain ⟨hjun, oj, hoj, hall⟩ := mem_ready.1 hj
  have hnot := unlisted hr hall
  simp only [onlyA, List.all_eq_true, List.mem_range] at ho
  have h1 := ho j (Array.getElem?_eq_some_iff.1 hoj).1
  simp only [hoj, Bool.or_eq_true, beq_iff_eq, hji, false_or, hjun, Bool.false_eq_true] at h1
  obtain ⟨e, he, hb⟩ := Array.any_eq_true'.1 h1
  simp only [Bool.and_eq_true, beq_iff_eq] at hb
  exact hnot e he hb.1 hb.2
theorem any_lex2 : ∀ (l : List Oper) (k : Nat) (listed : Array Bool) (st : AS), (∀ j, l[j]? = ops[k + j]?) → lex2 md ops l.length k listed = true → absOps P T ops l st K → absAny P T md ops K l.length listed st
 | [], _, _, _, _, hB, h => ⟨by simpa [lex2] using hB, h⟩
 | o :: l, k, listed, st, hl, hB, h => by
  have h0 : ops[k]? = some o := by simpa using (hl 0).symm
  simp only [List.length_cons, lex2, Bool.and_eq_true] at hB
  obtain ⟨⟨hr, ho⟩, hB'⟩ := hB
  exact any_only h0 ho (by simpa using hr) (wp_mono (fun s hs => any_lex2 l (k + 1) _ s (fun j => by have := hl (j + 1); simpa [Nat.add_assoc, Nat.add_comm 1 j] using this) hB' hs) h)
theorem any_lex1 : ∀ (l : List Oper) (k : Nat) (listed : Array Bool) (st : AS), (∀ j, l[j]? = ops[k + j]?) → lex1 md ops l.length k listed = true → WF st → absOps P T ops l st K → absAny P T md ops K l.length listed st
 | [], _, _, _, _, hB, _, h => ⟨by simpa [lex1] using hB, h⟩
 | o :: l, k, listed, st, hl, hB, hw, h => by
  have h0 : ops[k]? = some o := by simpa using (hl 0).symm
  have hl' : ∀ j, l[j]? = ops[k + 1 + j]? := fun j => by have := hl (j + 1); simpa [Nat.add_assoc, Nat.add_comm 1 j] using this
  simp only [List.length_cons, lex1, Bool.and_eq_true, Bool.or_eq_true] at hB
  obtain ⟨hr, hB⟩ := hB
  have hr' : k ∈ Region.ready md ops listed := by simpa using hr
  rcases hB with ⟨hf, hB'⟩ | ⟨ho, hB'⟩
  ·
   simp only [freeA, h0, Bool.and_eq_true, List.all_eq_true, List.mem_range] at hf
   obtain ⟨hp, hf⟩ := hf
   refine any_first h0 hp l.length listed st (fun j oj hoj hji hjun hno => ?_) hr' hw ?_
   ·
    have h1 := hf j (Array.getElem?_eq_some_iff.1 hoj).1
    simp only [hoj, Bool.or_eq_true, beq_iff_eq, hji, false_or, hjun, Bool.false_eq_true, Bool.and_eq_true] at h1
    rcases h1 with h1 | h1
    ·
     obtain ⟨e, he, hb⟩ := Array.any_eq_true'.1 h1
     simp only [Bool.and_eq_true, beq_iff_eq] at hb
     exact absurd hb.2 (hno e he hb.1)
    ·
     exact h1
   ·
    exact wp_mono (fun s hs => any_lex1 l (k + 1) _ s hl' hB' (hs.2.1 hw) hs.1) (reach (stepC_live hw hp) h)
  ·
   exact any_only h0 ho hr' (wp_mono (fun s hs => any_lex2 l (k + 1) _ s hl' hB' hs) h)
theorem lex_ok (h : lexOk ops = true) : Lex ops := by
 intro P T w0 ok0 st a w K Q hT hrel hops hK
 refine absAny_sound hT hK _ _ st a w hrel ?_
 have := any_lex1 (md := .any) (K := K) (P := P) (T := T) ops.toList 0 (Array.replicate ops.size false) st (by simp) (by simpa [lexOk] using h) hrel.wf hops
 simpa using this
end Ab
/- The same conditions in a form that reduces well: states are written out, values come first. -/
namespace Ab
open Go Go.RowKit
set_option linter.unusedVariables false
variable {P : Program} {T : TT} {st : AS}
def fo (v : AV) (k : AV → Prop) : Prop := match v with
 | .d x => k (.d x)
 | .osl r o n s w => k (.osl r o n s w)
 | .optr r o => k (.optr r o)
 | .und => k .und
 | .junk => k .junk
theorem fo_eq (v : AV) (k : AV → Prop) : fo v k = k v := by cases v <;> rfl
def putF (st : AS) (dst : Option Nat) (v : AV) (k : AS → Prop) : Prop := match dst with
 | some d => match st with
  | ⟨N, tm, H⟩ => bif Nat.blt d N then fo v fun v => k ⟨N, upd tm d v, H⟩ else k ⟨N, tm, H⟩
 | none => k st
theorem putF_eq (st : AS) (dst : Option Nat) (v : AV) (k : AS → Prop) : putF st dst v k = k (st.put dst v) := by
 cases dst with
 | none => rfl
 | some d =>
  obtain ⟨N, tm, H⟩ := st
  simp only [putF, fo_eq, AS.put]
  by_cases h : d < N
  ·
   have : Nat.blt d N = true := by simpa [Nat.blt_eq] using h
   rw [this, if_pos h]; rfl
  ·
   have : Nat.blt d N = false := by
    cases hb : Nat.blt d N with
    | true => exact absurd (Nat.blt_eq ▸ hb) h
    | false => rfl
   rw [this, if_neg h]; rfl
def lkF (st : AS) (L : List Nat) (k : AS → Prop) : Prop := match L with
 | [] => k st
 | x :: xs => k (st.leak (x :: xs))
theorem lkF_eq (st : AS) (L : List Nat) (k : AS → Prop) : lkF st L k = k (st.lk L) := by cases L <;> rfl
def Cl.setl : Cl → Nat → List AV → Cl
 | c, _, [] => c
 | c, p, x :: xs => (c.set p x).setl (p + 1) xs
theorem setl_one {r : Nat} : ∀ (xs : List AV) (st : AS) (p : Nat) (ob : Ob), st.H r = some ob → st.setl r p xs = { st with H := upd st.H r (some { ob with cs := ob.cs.setl p xs }) }
 | [], st, p, ob, h => by
  refine AS.ext' rfl rfl fun q => ?_
  show st.H q = upd st.H r (some ob) q
  by_cases e : q = r
  ·
   rw [e, upd_self, h]
  ·
   rw [upd_ne _ _ e]
 | x :: xs, st, p, ob, h => by
  rw [setl_cons, setl_one xs (st.setc r p x) (p + 1) { ob with cs := ob.cs.set p x } (setc_self h)]
  refine AS.ext' rfl rfl fun q => ?_
  show upd (st.setc r p x).H r _ q = upd st.H r _ q
  by_cases e : q = r
  ·
   rw [e, upd_self, upd_self]; rfl
  ·
   rw [upd_ne _ _ e, upd_ne _ _ e, setc_ne e]
def Cl.fo (c : Cl) (k : Cl → Prop) : Prop := match c with
 | .d l => k (.d l)
 | .a l => k (.a l)
theorem Cl.fo_eq (c : Cl) (k : Cl → Prop) : c.fo k = k c := by cases c <;> rfl
def setF (st : AS) (r p : Nat) (xs : List AV) (k : AS → Prop) : Prop := match st with
 | ⟨N, tm, H⟩ => match H r with
  | some ⟨e, cs, lk⟩ => (cs.setl p xs).fo fun cs => k ⟨N, tm, upd H r (some ⟨e, cs, lk⟩)⟩
  | none => False
theorem setF_imp {st : AS} {r p : Nat} {xs : List AV} {k : AS → Prop} (h : setF st r p xs k) : k (st.setl r p xs) := by
 obtain ⟨N, tm, H⟩ := st
 simp only [setF] at h
 split at h
 ·
  rename_i e cs lk hr
  rw [Cl.fo_eq] at h
  rw [setl_one xs _ p _ hr]; exact h
 ·
  exact h.elim
/-- what is asked of an operation -/
def Comp.run (P : Program) (dst : Option Nat) (st : AS) (K : AS → Prop) : Comp → Prop
 | .val v L => lkF st L fun st => putF st dst v K
 | .new ob v => match dst with
  | some d => match st with
   | ⟨N, tm, H⟩ => H d = none ∧ putF ⟨N, tm, upd H d (some ob)⟩ (some d) (v d) K
  | none => False
 | .set r p xs L => match dst with
  | none => lkF st L fun st => setF st r p xs K
  | some _ => False
 | .grow r ob v L => lkF st L fun st => putF (st.regrow r ob) dst v K
 | .need p c => p ∧ c.run P dst st K
 | .br b c d => (b = true → c.run P dst st K) ∧ (b = false → d.run P dst st K)
 | .call f args L => ∃ r, Spec P f args r ∧ lkF st L fun st => putF st dst (.d r) K
 | .fail => False
theorem run_wp {c : Comp} {dst : Option Nat} {K : AS → Prop} (h : c.run P dst st K) : c.wp P dst st K := by
 induction c with
 | val v L =>
  simp only [Comp.run, lkF_eq, putF_eq] at h; exact h
 | new ob v =>
  cases dst with
  | none => exact h.elim
  | some d =>
   obtain ⟨N, tm, H⟩ := st
   simp only [Comp.run, putF_eq] at h
   exact h
 | set r p xs L =>
  cases dst with
  | none =>
   simp only [Comp.run, lkF_eq] at h
   exact ⟨rfl, setF_imp h⟩
  | some d => exact h.elim
 | grow r ob v L => simp only [Comp.run, lkF_eq, putF_eq] at h; exact h
 | need p c ih => exact ⟨h.1, ih h.2⟩
 | br b c d ihc ihd => exact ⟨fun e => ihc (h.1 e), fun e => ihd (h.2 e)⟩
 | call f args L =>
  obtain ⟨r, h1, h2⟩ := h
  simp only [lkF_eq, putF_eq] at h2
  exact ⟨r, h1, h2⟩
 | fail => exact h
/-- the same, where a value that is read may be told in other words -/
def Comp.runE (P : Program) (dst : Option Nat) (st : AS) (K : AS → Prop) : Comp → Prop
 | .val (.d x) L => ∃ y, x = y ∧ lkF st L fun st => putF st dst (.d y) K
 | .need p c => p ∧ c.runE P dst st K
 | c => c.run P dst st K
theorem runE_run {c : Comp} {dst : Option Nat} {K : AS → Prop} (h : c.runE P dst st K) : c.run P dst st K := by
 induction c with
 | val v L => cases v with
  | d x => obtain ⟨y, rfl, h⟩ := h; exact h
  | _ => exact h
 | need p c ih => exact ⟨h.1, ih h.2⟩
 | _ => exact h
/-- a read out of shared data, or out of a row of the function's own -/
def isLd (st : AS) (op : Op) : Bool := match op with
 | .load _ p => match st.ev p with
  | .d (.ptr ..) => true
  | .optr r _ => match st.H r with
   | some ⟨_, .d _, _⟩ => true
   | _ => false
  | _ => false
 | .call c => match c.callee with
  | .builtin .max => true
  | .builtin .min => true
  | _ => false
 | _ => false
def Comp.runB (P : Program) (dst : Option Nat) (st : AS) (K : AS → Prop) (b : Bool) (c : Comp) : Prop := bif b then c.runE P dst st K else c.run P dst st K
theorem runB_run {c : Comp} {dst : Option Nat} {K : AS → Prop} {b : Bool} (h : c.runB P dst st K b) : c.run P dst st K := by
 cases b
 ·
  exact h
 ·
  exact runE_run h
def fOps (P : Program) (T : TT) (ops : Array Oper) : List Oper → AS → (AS → Prop) → Prop
 | [], st, K => K st
 | o :: rest, st, K => match o with
  | ⟨dst, op, ty, pos, af, gd⟩ => (stepC T ops st ⟨dst, op, ty, pos, af, gd⟩).runB P dst st (fun st' => fOps P T ops rest st' K) (isLd st op)
theorem fOps_imp {ops : Array Oper} {K : AS → Prop} : ∀ (l : List Oper) (st : AS), fOps P T ops l st K → absOps P T ops l st K
 | [], st, h => h
 | o :: rest, st, h => wp_mono (fun s hs => fOps_imp rest s hs) (run_wp (runB_run h))
theorem fOps_mono {ops : Array Oper} {K K' : AS → Prop} (hK : ∀ s, K s → K' s) : ∀ (l : List Oper) (st : AS), absOps P T ops l st K → absOps P T ops l st K'
 | [], st, h => hK _ h
 | o :: rest, st, h => wp_mono (fun s hs => fOps_mono hK rest s hs) h
def fCode (P : Program) (T : TT) : Code → AS → (Exit → AS → Prop) → Prop
 | .skip, st, Q => Q .normal st
 | .region _ ops draw, st, Q => match draw with
  | false => fOps P T ops ops.toList st (Q .normal)
  | true => lexOk ops = true ∧ fOps P T ops ops.toList st (Q .normal)
 | .seq x y, st, Q => fCode P T x st (thenA (fun s => fCode P T y s Q) Q)
 | .cond c x y, st, Q => match st.ev c with
  | .d (.bool t) => bif t then fCode P T x st Q else fCode P T y st Q
  | _ => False
 | .block id c, st, Q => fCode P T c st (blockA id Q)
 | .loop c, st, Q => ∃ I : Nat → AS → Prop, (∃ n s, Wk st s ∧ I n s) ∧ ∀ n s, I n s → fCode P T c s (thenA (fun s' => ∃ m s'', m < n ∧ Wk s' s'' ∧ I m s'') Q)
 | .exit id, st, Q => Q (.exit id) st
 | .ret, st, Q => Q .ret st
 | _, _, _ => False
theorem absCode_mono : ∀ (c : Code) (st : AS) (Q Q' : Exit → AS → Prop), (∀ e s, Q e s → Q' e s) → absCode P T c st Q → absCode P T c st Q' := by
 intro c
 induction c with
 | skip => intro st Q Q' hQ h; exact hQ _ _ h
 | region id ops draw => intro st Q Q' hQ h; exact ⟨h.1, fOps_mono (fun s hs => hQ _ _ hs) _ _ h.2⟩
 | seq x y ihx ihy =>
  intro st Q Q' hQ h
  refine ihx st _ _ (fun e s hs => ?_) h
  cases e with
  | normal => exact ihy s _ _ hQ hs
  | _ => exact hQ _ _ hs
 | cond c x y ihx ihy =>
  intro st Q Q' hQ h
  unfold absCode at h ⊢
  split at h
  ·
   exact ⟨fun e => ihx _ _ _ hQ (h.1 e), fun e => ihy _ _ _ hQ (h.2 e)⟩
  ·
   exact h.elim
 | block id c ih =>
  intro st Q Q' hQ h
  refine ih st _ _ (fun e s hs => ?_) h
  cases e with
  | exit id' =>
   simp only [blockA] at hs ⊢
   split
   ·
    rename_i e; rw [if_pos e] at hs; exact hQ _ _ hs
   ·
    rename_i e; rw [if_neg e] at hs; exact hQ _ _ hs
  | _ => exact hQ _ _ hs
 | loop c ih =>
  intro st Q Q' hQ h
  obtain ⟨I, h1, h2⟩ := h
  refine ⟨I, h1, fun n s hs => ih s _ _ (fun e s' hs' => ?_) (h2 n s hs)⟩
  cases e with
  | normal => exact hs'
  | _ => exact hQ _ _ hs'
 | exit id => intro st Q Q' hQ h; exact hQ _ _ h
 | ret => intro st Q Q' hQ h; exact hQ _ _ h
 | _ => intro st Q Q' hQ h; exact h.elim
theorem fCode_imp : ∀ (c : Code) (st : AS) (Q : Exit → AS → Prop), fCode P T c st Q → absCode P T c st Q := by
 intro c
 induction c with
 | skip => intro st Q h; exact h
 | region id ops draw =>
  intro st Q h
  cases draw with
  | false => exact ⟨fun e => (by cases e), fOps_imp _ _ h⟩
  | true => exact ⟨fun _ => lex_ok h.1, fOps_imp _ _ h.2⟩
 | seq x y ihx ihy =>
  intro st Q h
  refine absCode_mono x st _ _ (fun e s hs => ?_) (ihx st _ h)
  cases e with
  | normal => exact ihy s Q hs
  | _ => exact hs
 | cond c x y ihx ihy =>
  intro st Q h
  unfold fCode at h
  unfold absCode
  split at h
  ·
   rename_i t ht
   try simp only [ht]
   exact ⟨fun e => (by subst e; exact ihx _ _ h), fun e => (by subst e; exact ihy _ _ h)⟩
  ·
   exact h.elim
 | block id c ih => intro st Q h; exact ih st _ h
 | loop c ih =>
  intro st Q h
  obtain ⟨I, h1, h2⟩ := h
  exact ⟨I, h1, fun n s hs => ih s _ (h2 n s hs)⟩
 | exit id => intro st Q h; exact h
 | ret => intro st Q h; exact h
 | _ => intro st Q h; exact h.elim
def entryF (args : List D) (n : Nat) : AS := ⟨n, ent args, fun _ => none⟩
def resF (T : TT) (rs : List ResultVar) (ds : List D) (e : Exit) (st : AS) : Prop := match e with
 | .ret => resL T st rs ds
 | .normal => resL T st rs ds
 | _ => False
/-- a function's contract, out of its body's values -/
theorem spec_of (hT : TOk P T) (hm : P.follows .mixedOrders = true) {f : FuncId} {fn : Func} {c : Code} {n : Nat} {rs : List ResultVar} (hf : P.funcs[f]? = some fn) (hb : fn.body = some c) (hn : fn.ntmps = n) (hname : (fn.name == "runtime.NumGoroutine") = false) (hrs : fn.results.toList = rs) {args ds : List D} {r : D} (hr : resT ds = r) (hargs : args.length ≤ n)
  (h : fCode P T c (entryF args n) (resF T rs ds)) : Spec P f args r := by
 subst hr
 refine spec_intro hT hm hf hb hn hname hargs (absCode_mono c _ _ _ (fun e s hs => ?_) (fCode_imp c _ _ h))
 subst hrs
 cases e with
 | ret => exact ⟨.inl rfl, hs⟩
 | normal => exact ⟨.inr rfl, hs⟩
 | _ => exact hs.elim
theorem crun_mono {c : Comp} {dst : Option Nat} {K K' : AS → Prop} (hK : ∀ s, K s → K' s) (h : c.run P dst st K) : c.run P dst st K' := by
 have hput : ∀ (st : AS) (v : AV), putF st dst v K → putF st dst v K' := fun st v h => by rw [putF_eq] at h ⊢; exact hK _ h
 induction c with
 | val v L => simp only [Comp.run, lkF_eq] at h ⊢; exact hput _ _ h
 | new ob v =>
  cases dst with
  | none => exact h.elim
  | some d => obtain ⟨N, tm, H⟩ := st; exact ⟨h.1, hput _ _ h.2⟩
 | set r p xs L =>
  cases dst with
  | none =>
   simp only [Comp.run, lkF_eq] at h ⊢
   generalize st.lk L = st1 at h ⊢
   obtain ⟨N, tm, H⟩ := st1
   simp only [setF] at h ⊢
   split
   ·
    rename_i hr; rw [hr] at h; simp only [Cl.fo_eq] at h ⊢; exact hK _ h
   ·
    rename_i hr; rw [hr] at h; exact h
  | some d => exact h.elim
 | grow r ob v L => simp only [Comp.run, lkF_eq] at h ⊢; exact hput _ _ h
 | need p c ih => exact ⟨h.1, ih h.2⟩
 | br b c d ihc ihd => exact ⟨fun e => ihc (h.1 e), fun e => ihd (h.2 e)⟩
 | call f args L => obtain ⟨r, h1, h2⟩ := h; rw [lkF_eq] at h2; exact ⟨r, h1, by rw [lkF_eq]; exact hput _ _ h2⟩
 | fail => exact h
theorem crunE_mono {c : Comp} {dst : Option Nat} {K K' : AS → Prop} (hK : ∀ s, K s → K' s) (h : c.runE P dst st K) : c.runE P dst st K' := by
 induction c with
 | val v L => cases v with
  | d x => obtain ⟨y, h1, h2⟩ := h; exact ⟨y, h1, (crun_mono (c := .val (.d y) L) hK h2 : Comp.run P dst st K' (.val (.d y) L))⟩
  | _ => exact crun_mono hK h
 | need p c ih => exact ⟨h.1, ih h.2⟩
 | _ => exact crun_mono hK h
theorem crunB_mono {c : Comp} {dst : Option Nat} {K K' : AS → Prop} {b : Bool} (hK : ∀ s, K s → K' s) (h : c.runB P dst st K b) : c.runB P dst st K' b := by
 cases b
 ·
  exact crun_mono hK h
 ·
  exact crunE_mono hK h
theorem fOps_mono' {ops : Array Oper} {K K' : AS → Prop} (hK : ∀ s, K s → K' s) : ∀ (l : List Oper) (st : AS), fOps P T ops l st K → fOps P T ops l st K'
 | [], st, h => hK _ h
 | o :: rest, st, h => crunB_mono (fun s hs => fOps_mono' hK rest s hs) h
theorem fCode_mono' : ∀ {c : Code} {st : AS} {Q Q' : Exit → AS → Prop}, (∀ e s, Q e s → Q' e s) → fCode P T c st Q → fCode P T c st Q' := by
 intro c
 induction c with
 | skip => intro st Q Q' hQ h; exact hQ _ _ h
 | region id ops draw =>
  intro st Q Q' hQ h
  cases draw with
  | false => exact fOps_mono' (fun s hs => hQ _ _ hs) _ _ h
  | true => exact ⟨h.1, fOps_mono' (fun s hs => hQ _ _ hs) _ _ h.2⟩
 | seq x y ihx ihy =>
  intro st Q Q' hQ h
  refine ihx (fun e s hs => ?_) h
  cases e with
  | normal => exact ihy hQ hs
  | _ => exact hQ _ _ hs
 | cond c x y ihx ihy =>
  intro st Q Q' hQ h
  unfold fCode at h ⊢
  split at h
  ·
   rename_i t ht
   cases t
   ·
    exact ihy hQ h
   ·
    exact ihx hQ h
  ·
   exact h.elim
 | block id c ih =>
  intro st Q Q' hQ h
  refine ih (fun e s hs => ?_) h
  cases e with
  | exit id' =>
   simp only [blockA] at hs ⊢
   split
   ·
    rename_i e; rw [if_pos e] at hs; exact hQ _ _ hs
   ·
    rename_i e; rw [if_neg e] at hs; exact hQ _ _ hs
  | _ => exact hQ _ _ hs
 | loop c ih =>
  intro st Q Q' hQ h
  obtain ⟨I, h1, h2⟩ := h
  refine ⟨I, h1, fun n s hs => ih (fun e s' hs' => ?_) (h2 n s hs)⟩
  cases e with
  | normal => exact hs'
  | _ => exact hQ _ _ hs'
 | exit id => intro st Q Q' hQ h; exact hQ _ _ h
 | ret => intro st Q Q' hQ h; exact hQ _ _ h
 | _ => intro st Q Q' hQ h; exact h.elim
/-- a table of types -/
def lookT : List (Nat × TI) → TT
 | [], _ => none
 | (a, i) :: r, t => bif Nat.beq a t then some i else lookT r t
theorem lookT_all {P : Program} {L : List (Nat × TI)} (h : (L.all fun p => tiOk P p.1 p.2) = true) : TOk P (lookT L) := by
 intro t i ht
 induction L with
 | nil => cases ht
 | cons p r ih =>
  obtain ⟨a, j⟩ := p
  simp only [List.all_cons, Bool.and_eq_true] at h
  simp only [lookT] at ht
  cases hb : Nat.beq a t with
  | true => rw [hb] at ht; simp only [cond_true, Option.some.injEq] at ht; subst ht; rw [← Nat.eq_of_beq_eq_true hb]; exact h.1
  | false => rw [hb] at ht; exact ih h.2 ht
/-! ### loops -/
/-- a state that is written out: temporaries and objects -/
def tml : List (Nat × AV) → Nat → AV
 | [], _ => .junk
 | (i, x) :: r, t => bif Nat.beq t i then x else tml r t
def hl : List (Nat × Ob) → Nat → Option Ob
 | [], _ => none
 | (i, x) :: r, t => bif Nat.beq t i then some x else hl r t
def cst (N : Nat) (l : List (Nat × AV)) (h : List (Nat × Ob)) : AS := ⟨N, tml l, hl h⟩
def hasName (h : List (Nat × Ob)) (x : AV) : Bool := match x.names with
 | none => true
 | some r => h.any fun p => Nat.beq r p.1
def namesOk (l : List (Nat × AV)) (h : List (Nat × Ob)) : Bool := (l.all fun p => hasName h p.2) && h.all fun p => match p.2.cs with
 | .d _ => true
 | .a xs => xs.all (hasName h)
theorem hl_any {h : List (Nat × Ob)} {r : Nat} (ha : (h.any fun p => Nat.beq r p.1) = true) : hl h r ≠ none := by
 induction h with
 | nil => simp at ha
 | cons p h ih =>
  obtain ⟨i, x⟩ := p
  simp only [List.any_cons, Bool.or_eq_true] at ha
  simp only [hl]
  cases hb : Nat.beq r i with
  | true => simp
  | false => rw [hb] at ha; simpa using ih (by simpa using ha)
theorem hasName_live {N : Nat} {l : List (Nat × AV)} {h : List (Nat × Ob)} {x : AV} (hx : hasName h x = true) : live (cst N l h) x := fun r hr => by
 unfold hasName at hx
 rw [hr] at hx
 exact hl_any hx
theorem tml_mem {l : List (Nat × AV)} {t : Nat} : tml l t = .junk ∨ ∃ p ∈ l, p.1 = t ∧ p.2 = tml l t := by
 induction l with
 | nil => exact .inl rfl
 | cons p l ih =>
  obtain ⟨i, x⟩ := p
  simp only [tml]
  cases hb : Nat.beq t i with
  | true => exact .inr ⟨(i, x), by simp, (Nat.eq_of_beq_eq_true hb).symm, rfl⟩
  | false =>
   rcases ih with h | ⟨p, hp, h1, h2⟩
   ·
    exact .inl h
   ·
    exact .inr ⟨p, by simp [hp], h1, h2⟩
theorem hl_mem {h : List (Nat × Ob)} {r : Nat} {ob : Ob} (hr : hl h r = some ob) : ∃ p ∈ h, p.1 = r ∧ p.2 = ob := by
 induction h with
 | nil => cases hr
 | cons p h ih =>
  obtain ⟨i, x⟩ := p
  simp only [hl] at hr
  cases hb : Nat.beq r i with
  | true => rw [hb] at hr; exact ⟨(i, x), by simp, (Nat.eq_of_beq_eq_true hb).symm, by simpa using hr⟩
  | false => rw [hb] at hr; obtain ⟨p, hp, h1⟩ := ih hr; exact ⟨p, by simp [hp], h1⟩
theorem cst_wf {N : Nat} {l : List (Nat × AV)} {h : List (Nat × Ob)} (hn : namesOk l h = true) : WF (cst N l h) := by
 simp only [namesOk, Bool.and_eq_true, List.all_eq_true] at hn
 refine ⟨fun t => ?_, fun r ob xs h1 h2 x hx => ?_⟩
 ·
  show live _ (tml l t)
  rcases tml_mem (l := l) (t := t) with h1 | ⟨p, hp, h1, h2⟩
  ·
   rw [h1]; intro r hr; cases hr
  ·
   rw [← h2]; exact hasName_live (hn.1 p hp)
 ·
  obtain ⟨p, hp, h3, h4⟩ := hl_mem h1
  have := hn.2 p hp
  rw [h4, h2] at this
  simp only [List.all_eq_true] at this
  exact hasName_live (this x hx)
/-- a temporary as it is, or a nil row that is told as one of the function's own -/
def tmOk (st : AS) (t : Nat) (x : AV) : Prop := st.tm t = x ∨ (st.tm t = .d .nils ∧ ∃ r sz, x = .osl r 0 0 sz true ∧ st.H r = none)
def obOk (st : AS) (r : Nat) (ob : Ob) : Prop := st.H r = some ob ∨ (st.H r = none ∧ ob.cs = .d [])
def allT (st : AS) : List (Nat × AV) → Prop
 | [] => True
 | (t, x) :: l => tmOk st t x ∧ allT st l
def allH (st : AS) : List (Nat × Ob) → Prop
 | [] => True
 | (r, ob) :: h => obOk st r ob ∧ allH st h
theorem allT_mem {l : List (Nat × AV)} (h : allT st l) : ∀ p ∈ l, tmOk st p.1 p.2 := by
  induction l with
  | nil => simp
  | cons q l ih => obtain ⟨t, x⟩ := q; intro p hp; rcases List.mem_cons.1 hp with rfl | hp
                   · exact h.1
                   · exact ih h.2 p hp
theorem allH_mem {l : List (Nat × Ob)} (h : allH st l) : ∀ p ∈ l, obOk st p.1 p.2 := by
  induction l with
  | nil => simp
  | cons q l ih => obtain ⟨t, x⟩ := q; intro p hp; rcases List.mem_cons.1 hp with rfl | hp
                   · exact h.1
                   · exact ih h.2 p hp
theorem wk_cst {N : Nat} {l : List (Nat × AV)} {h : List (Nat × Ob)} (hN : N = st.N) (hn : namesOk l h = true) (h1 : allT st l) (h2 : allH st h) : Wk st (cst N l h) := by
 refine ⟨hN, fun t => ?_, fun r ob hr => ?_, cst_wf hn⟩
 ·
  show tml l t = .junk ∨ tml l t = _ ∨ _
  rcases tml_mem (l := l) (t := t) with h3 | ⟨p, hp, h3, h4⟩
  ·
   exact .inl h3
  ·
   have := allT_mem h1 p hp
   rw [h3, h4] at this
   rcases this with h5 | ⟨h5, r, sz, h6, h7⟩
   ·
    exact .inr (.inl h5.symm)
   ·
    exact .inr (.inr ⟨h5, r, sz, h6, h7⟩)
 ·
  obtain ⟨p, hp, h3, h4⟩ := hl_mem hr
  have := allH_mem h2 p hp
  rw [h3, h4] at this
  exact this
/-- a loop: a state for each number of rounds that are left -/
theorem loop_of {c : Code} {Q : Exit → AS → Prop} {S : Type} (N : Nat) (l : S → List (Nat × AV)) (h : S → List (Nat × Ob)) (μ : S → Nat) (Inv : S → Prop) (s0 : S) (h0 : Inv s0) (hN : N = st.N) (hn : ∀ s, namesOk (l s) (h s) = true) (hT : allT st (l s0)) (hH : allH st (h s0))
  (round : ∀ s, Inv s → fCode P T c (cst N (l s) (h s)) (thenA (fun s' => ∃ s1, Inv s1 ∧ μ s1 < μ s ∧ N = s'.N ∧ allT s' (l s1) ∧ allH s' (h s1)) Q)) : fCode P T (.loop c) st Q := by
 refine ⟨fun n s => ∃ q, Inv q ∧ μ q = n ∧ s = cst N (l q) (h q), ⟨μ s0, _, wk_cst hN (hn s0) hT hH, s0, h0, rfl, rfl⟩, fun n s hI => ?_⟩
 obtain ⟨q, h1, h2, h3⟩ := hI
 subst h2 h3
 have := round q h1
 -- what is behind a round
 refine fCode_mono' ?_ this
 intro e s' hs
 cases e with
 | normal =>
  obtain ⟨s1, h4, h5, h6, h7, h8⟩ := hs
  exact ⟨μ s1, _, h5, wk_cst h6 (hn s1) h7 h8, s1, h4, rfl, rfl⟩
 | _ => exact hs
end Ab
