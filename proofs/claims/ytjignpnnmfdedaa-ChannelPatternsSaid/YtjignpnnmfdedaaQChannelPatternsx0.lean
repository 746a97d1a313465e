/- A part of the print of this row, cut down to what the row uses. -/
import Derived.Test.YtjignpnnmfdedaaProg
import Derived.Below
import Derived.Deep.Draws
import Derived.Deep.AppendLies
import Derived.Maps.AppendAt
import Derived.OwnWalk
import Derived.Laws.BytesArg
import Derived.Laws.MakeOwn
import Derived.Laws.OwnMore
import Derived.Deep.OwnRows
import Derived.Tactics
import Derived.Lib.ConvBytes
import Derived.Laws.Slices
import Derived.WalkKit
import Derived.KernelRfl
import Derived.RowKit3
import Derived.Deep.LoopGhost
import Derived.Deep.QuietTactic
import Derived.BigQuiet
import Derived.WideLaws
import Derived.Deep.DeepCutAuto
import Derived.Deep.CutBlock
import Derived.Deep.RegionHeld3
import Derived.Laws.Rows
import Derived.Lib.AppendStr
import Derived.ArgAppend
import Derived.Laws.IdiomCopy
import Derived.OrdersHeld
import Derived.Laws.BitsLemmas
import Derived.RowKit
import Derived.Test.YtjignpnnmfdedaaQChannelPatternsWWords
import Derived.Test.YtjignpnnmfdedaaQChannelPatternsWLast
import Derived.Test.YtjignpnnmfdedaaQChannelPatternsWTab
import Derived.Test.YtjignpnnmfdedaaQChannelPatternsWFour
import Derived.Test.YtjignpnnmfdedaaQChannelPatternsWQPut
import Derived.Test.YtjignpnnmfdedaaQChannelPatternsWApart
import Derived.Test.YtjignpnnmfdedaaQChannelPatternsWArr
import Derived.Test.YtjignpnnmfdedaaQChannelPatternsWZeros
import Derived.Test.YtjignpnnmfdedaaQChannelPatternsWFoot
import Derived.Test.YtjignpnnmfdedaaQChannelPatternsWKept
import Derived.Test.YtjignpnnmfdedaaQChannelPatternsWShare
import Derived.Test.YtjignpnnmfdedaaQChannelPatternsWN
import Derived.Test.YtjignpnnmfdedaaQChannelPatternsWFootNe
import Derived.Test.YtjignpnnmfdedaaQChannelPatternsWAt
import Derived.Test.YtjignpnnmfdedaaQChannelPatternsWEqStruct
import Derived.Test.YtjignpnnmfdedaaQChannelPatternsWRepsOne
import Derived.Test.YtjignpnnmfdedaaQChannelPatternsWInv
import Derived.Test.YtjignpnnmfdedaaQChannelPatternsWInvWords
import Derived.Test.YtjignpnnmfdedaaQChannelPatternsWGuard
import Derived.Test.YtjignpnnmfdedaaQChannelPatternsWNEv
import Derived.Test.YtjignpnnmfdedaaQChannelPatternsWMore
import Derived.Test.YtjignpnnmfdedaaQChannelPatternsXtra
import Derived.Test.YtjignpnnmfdedaaQChannelPatternsWSq
-- printed by a scratch copy of the print, turned (wip/tools/turn_print.py)
namespace Go.Proofs.Ytjignpnnmfdedaa.PChannelPatterns
open Go.RowKit Go.Proofs.YtjignpnnmfdedaaW.PrintWords Go.Proofs.YtjignpnnmfdedaaW.PrintLast Go.Proofs.YtjignpnnmfdedaaW.PrintMore
attribute [local go_sem] max2_int min2_int max_two min_two max_three min_three max_four min_four   -- for this text's walks alone
set_option linter.unusedVariables false
set_option linter.unusedSimpArgs false
def errW : Option Int → Value
 | none => .nilIface
 | some c => .iface 0 (.int .i64 c)
theorem errW_none : errW none = .nilIface := rfl
theorem errW_some (c : Int) : errW (some c) = .iface 0 (.int .i64 c) := rfl
theorem info52 : (Try.prog.info? 52).map (fun i => (i.zero, i.size, i.bytes)) = some (some (.agg #[(.bool false), (.slice none 0 0), (.slice none 0 0)]), 3, 56) := by kernel_rfl
theorem info79 : (Try.prog.info? 79).map (fun i => (i.zero, i.size, i.bytes)) = some (some (.int .u32 0), 1, 4) := by kernel_rfl
-- the values' own types
/-! #### struct type 52 -/
structure S52 where
 f0 : Bool
 f1 : (List Int)
 f2 : (List Int)
def z52 : S52 := ⟨false, ([] : List Int), ([] : List Int)⟩
def k52 : Kd S52 := Kd.iso (Kd.pair Kd.bool (Kd.pair (Kd.slice 79 (Kd.int .u32)) (Kd.slice 79 (Kd.int .u32)))) (fun x : S52 => (x.f0, x.f1, x.f2))
theorem k52_open {w : World} {x : S52} {cs : List Value} (h : k52.K w x cs) : ∃ A1 c1 A2 c2, cs = [.bool x.f0, .slice A1 x.f1.length c1, .slice A2 x.f2.length c2] ∧ x.f1.length ≤ c1 ∧ (Kd.int .u32).C w A1 x.f1.length x.f1 ∧ x.f2.length ≤ c2 ∧ (Kd.int .u32).C w A2 x.f2.length x.f2 := by
 obtain ⟨_, _, rfl, rfl, ⟨_, _, rfl, ⟨A1, c1, rfl, l1, g1⟩, ⟨A2, c2, rfl, l2, g2⟩⟩⟩ := h
 exact ⟨A1, c1, A2, c2, rfl, l1, g1, l2, g2⟩
theorem k52_openM {w : World} {base : Nat} {ok : Nat → Prop} {x : S52} {cs : List Value} (h : k52.M w base ok x cs) : ∃ v1 v2, cs = [.bool x.f0, v1, v2] ∧ (Kd.int .u32).R 79 w base ok v1 x.f1 ∧ (Kd.int .u32).R 79 w base ok v2 x.f2 := by
 obtain ⟨_, _, rfl, rfl, ⟨_, _, rfl, ⟨v1, rfl, g1⟩, ⟨v2, rfl, g2⟩⟩⟩ := h
 exact ⟨v1, v2, rfl, g1, g2⟩
theorem k52_mk (w : World) (x : S52) {A1 : Option Addr} {c1 : Nat} (l1 : x.f1.length ≤ c1) (g1 : (Kd.int .u32).C w A1 x.f1.length x.f1) {A2 : Option Addr} {c2 : Nat} (l2 : x.f2.length ≤ c2) (g2 : (Kd.int .u32).C w A2 x.f2.length x.f2) : k52.K w x [.bool x.f0, .slice A1 x.f1.length c1, .slice A2 x.f2.length c2] := ⟨[.bool x.f0], [.slice A1 x.f1.length c1, .slice A2 x.f2.length c2], rfl, rfl, ⟨[.slice A1 x.f1.length c1], [.slice A2 x.f2.length c2], rfl, ⟨A1, c1, rfl, l1, g1⟩, ⟨A2, c2, rfl, l2, g2⟩⟩⟩
theorem k52_mkM (w : World) (base : Nat) (ok : Nat → Prop) (x : S52) {v1 : Value} (g1 : (Kd.int .u32).R 79 w base ok v1 x.f1) {v2 : Value} (g2 : (Kd.int .u32).R 79 w base ok v2 x.f2) : k52.M w base ok x [.bool x.f0, v1, v2] := ⟨[.bool x.f0], [v1, v2], rfl, rfl, ⟨[v1], [v2], rfl, ⟨v1, rfl, g1⟩, ⟨v2, rfl, g2⟩⟩⟩
theorem k52_openF {W : World} {ok : Nat → Prop} {x : S52} {cs : List Value} (h : Kd.FK k52 W ok x cs) : ∃ A1 c1 A2 c2, cs = [.bool x.f0, .slice A1 x.f1.length c1, .slice A2 x.f2.length c2] ∧ x.f1.length ≤ c1 ∧ Kd.F (Kd.int .u32) W ok A1 x.f1.length x.f1 ∧ x.f2.length ≤ c2 ∧ Kd.F (Kd.int .u32) W ok A2 x.f2.length x.f2 := by
 obtain ⟨A1, c1, A2, c2, rfl, l1, _, l2, _⟩ := k52_open (Kd.FK_now h)
 exact ⟨A1, c1, A2, c2, rfl, l1, (fun W' hW => by obtain ⟨A1_, c1_, A2_, c2_, he, l1_, g1_, l2_, g2_⟩ := k52_open (h W' hW); injection (Option.some.inj (show some (Value.slice A1 x.f1.length c1) = some (Value.slice A1_ x.f1.length c1_) from congrArg (fun l => l[1]?) he)) with ha_ _ _; rw [ha_]; exact g1_), l2, (fun W' hW => by obtain ⟨A1_, c1_, A2_, c2_, he, l1_, g1_, l2_, g2_⟩ := k52_open (h W' hW); injection (Option.some.inj (show some (Value.slice A2 x.f2.length c2) = some (Value.slice A2_ x.f2.length c2_) from congrArg (fun l => l[2]?) he)) with ha_ _ _; rw [ha_]; exact g2_)⟩
theorem k52_mkF (W : World) (ok : Nat → Prop) (x : S52) {A1 : Option Addr} {c1 : Nat} (l1 : x.f1.length ≤ c1) (g1 : Kd.F (Kd.int .u32) W ok A1 x.f1.length x.f1) {A2 : Option Addr} {c2 : Nat} (l2 : x.f2.length ≤ c2) (g2 : Kd.F (Kd.int .u32) W ok A2 x.f2.length x.f2) : Kd.FK k52 W ok x [.bool x.f0, .slice A1 x.f1.length c1, .slice A2 x.f2.length c2] := fun W2 hW => k52_mk W2 x l1 (g1 W2 hW) l2 (g2 W2 hW)
def rd_T52 (xs : List S52) (i : Int) : S52 := xs.getD i.toNat z52
theorem at_T52 {w : World} {A : Option Addr} {n : Nat} {xs : List S52} (h : Kd.C k52 w A n xs) (i : Int) (h0 : 0 ≤ i) (h1 : i < n) : ∃ ad A1 c1 A2 c2, A = some ad ∧ w.cell? (ad.add (i.toNat * 3)) = some (.bool (rd_T52 xs i).f0) ∧ w.cell? ⟨(ad.add (i.toNat * 3)).block, (ad.add (i.toNat * 3)).off + 1, none⟩ = some (.slice A1 (rd_T52 xs i).f1.length c1) ∧ w.cell? ⟨(ad.add (i.toNat * 3)).block, (ad.add (i.toNat * 3)).off + 2, none⟩ = some (.slice A2 (rd_T52 xs i).f2.length c2) ∧ (rd_T52 xs i).f1.length ≤ c1 ∧ (Kd.int .u32).C w A1 (rd_T52 xs i).f1.length (rd_T52 xs i).f1 ∧ (rd_T52 xs i).f2.length ≤ c2 ∧ (Kd.int .u32).C w A2 (rd_T52 xs i).f2.length (rd_T52 xs i).f2 := by
 obtain ⟨ad, c, e, _, hK, hc0⟩ := Kd.C_get h z52 i h0 h1
 have hc : ∀ j u, c[j]? = some u → w.cell? (ad.add (i.toNat * 3 + j)) = some u := hc0
 obtain ⟨A1, c1, A2, c2, rfl, l1, g1, l2, g2⟩ := k52_open hK
 exact ⟨ad, A1, c1, A2, c2, e, hc 0 _ rfl, by rw [← add_field _ _ 1 (by omega)]; exact hc 1 _ rfl, by rw [← add_field _ _ 2 (by omega)]; exact hc 2 _ rfl, l1, g1, l2, g2⟩
end Go.Proofs.Ytjignpnnmfdedaa.PChannelPatterns
