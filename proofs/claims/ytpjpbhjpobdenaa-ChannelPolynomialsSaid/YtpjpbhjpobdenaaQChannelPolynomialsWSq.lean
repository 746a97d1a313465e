/- Facts about a world, told of a later one: by instances, so that the printed texts need not spell the way. -/
import Derived.Test.YtpjpbhjpobdenaaQChannelPolynomialsXtra
namespace Go.Proofs.YtpjpbhjpobdenaaW.PrintMore
open Go Go.RowKit Go.Proofs.YtpjpbhjpobdenaaW.PrintWords
set_option linter.unusedVariables false
theorem zA {p : Prop} (h : p) : Aside0 p := ⟨h⟩
/-- a later world: blocks are new, events are drawn -/
inductive Rch : World → World → Prop where
 | refl (w : World) : Rch w w
 | alloc {w w1 : World} (h : Rch w w1) (o : Obj) : Rch w (w1.alloc o)
 | drew {w w1 : World} (h : Rch w w1) : Rch w w1.drew
 | drewN {w w1 : World} (h : Rch w w1) (n : Nat) : Rch w (w1.drewN n)
class Ext (w w1 : World) : Prop where
 out : Rch w w1
instance (w : World) : Ext w w := ⟨.refl w⟩
instance (w w1 : World) (o : Obj) [i : Ext w w1] : Ext w (w1.alloc o) := ⟨.alloc i.out o⟩
instance (w w1 : World) [i : Ext w w1] : Ext w w1.drew := ⟨.drew i.out⟩
instance (w w1 : World) (n : Nat) [i : Ext w w1] : Ext w (w1.drewN n) := ⟨.drewN i.out n⟩
theorem zB {w0 w w1 : World} (h : Aside0 (Below w0.heap.size w0 w)) [i : Ext w w1] : Below w0.heap.size w0 w1 := by
 obtain ⟨r⟩ := i
 induction r with
 | refl => exact h.out
 | alloc _ o ih => exact below_alloc ih o
 | drew _ ih => exact below_drew1 ih
 | drewN _ n ih => exact pw_below_drewN ih n
theorem zK {w w1 : World} {g : Nat} {o : Obj} (h : Aside0 (w.heap[g]? = some o)) [i : Ext w w1] : w1.heap[g]? = some o := by
 obtain ⟨r⟩ := i
 induction r with
 | refl => exact h.out
 | alloc _ o ih => exact blk_alloc ih o
 | drew _ ih => exact blk_drew ih
 | drewN _ n ih => exact blk_drewN ih n
theorem zP {w0 w w1 : World} {S : Nat → Prop} (h : Aside0 (Kept w0 w S)) [i : Ext w w1] : Kept w0 w1 S := by
 obtain ⟨r⟩ := i
 induction r with
 | refl => exact h.out
 | alloc _ o ih => exact Kept.alloc ih o
 | drew _ ih => exact Kept.drew ih
 | drewN _ n ih => exact Kept.drewN ih n
section
variable {α : Type} {d : Kd α} {e : Nat} {w w1 : World} {base : Nat} {ok : Nat → Prop} {v : Value} {xs : List α}
theorem zR (h : Aside0 (Kd.R d e w base ok v xs)) [i : Ext w w1] : Kd.R d e w1 base ok v xs := by
 obtain ⟨r⟩ := i
 induction r with
 | refl => exact h.out
 | alloc _ o ih => exact Kd.R_alloc ih o
 | drew _ ih => exact Kd.R_drew ih
 | drewN _ n ih => exact Kd.R_drewN ih n
theorem zV (h : Aside0 (Kd.V d e w base ok v xs)) [i : Ext w w1] : Kd.V d e w1 base ok v xs := by
 obtain ⟨r⟩ := i
 induction r with
 | refl => exact h.out
 | alloc _ o ih => exact Kd.V_alloc ih o
 | drew _ ih => exact Kd.V_drew ih
 | drewN _ n ih => exact Kd.V_drewN ih n
theorem zC {A : Option Addr} {n : Nat} (h : Kd.C d w A n xs) [i : Ext w w1] : Kd.C d w1 A n xs := by
 obtain ⟨r⟩ := i
 induction r with
 | refl => exact h
 | alloc _ o ih => exact Kd.C_alloc ih o
 | drew _ ih => exact Kd.C_drew ih
 | drewN _ n ih => exact Kd.C_drewN ih n
end
end Go.Proofs.YtpjpbhjpobdenaaW.PrintMore
