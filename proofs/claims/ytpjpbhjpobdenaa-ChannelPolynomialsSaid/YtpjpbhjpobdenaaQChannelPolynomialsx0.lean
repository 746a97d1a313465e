/- A part of the print of this row, cut down to what the row uses. -/
import Derived.Test.YtpjpbhjpobdenaaProg
import Derived.Below
import Derived.Deep.Draws
import Derived.Deep.AppendLies
import Derived.Maps.AppendAt
import Derived.OwnWalk
import Derived.Laws.BytesArg
import Derived.Laws.MakeOwn
import Derived.Laws.OwnMore
import Derived.Deep.OwnRows
import Derived.Tactics
import Derived.Lib.ConvBytes
import Derived.Laws.Slices
import Derived.WalkKit
import Derived.KernelRfl
import Derived.RowKit3
import Derived.Deep.LoopGhost
import Derived.Deep.QuietTactic
import Derived.BigQuiet
import Derived.WideLaws
import Derived.Deep.DeepCutAuto
import Derived.Deep.CutBlock
import Derived.Deep.RegionHeld3
import Derived.Laws.Rows
import Derived.Lib.AppendStr
import Derived.ArgAppend
import Derived.Laws.IdiomCopy
import Derived.OrdersHeld
import Derived.Laws.BitsLemmas
import Derived.RowKit
import Derived.Test.YtpjpbhjpobdenaaQChannelPolynomialsWWords
import Derived.Test.YtpjpbhjpobdenaaQChannelPolynomialsWLast
import Derived.Test.YtpjpbhjpobdenaaQChannelPolynomialsWTab
import Derived.Test.YtpjpbhjpobdenaaQChannelPolynomialsWFour
import Derived.Test.YtpjpbhjpobdenaaQChannelPolynomialsWQPut
import Derived.Test.YtpjpbhjpobdenaaQChannelPolynomialsWApart
import Derived.Test.YtpjpbhjpobdenaaQChannelPolynomialsWArr
import Derived.Test.YtpjpbhjpobdenaaQChannelPolynomialsWZeros
import Derived.Test.YtpjpbhjpobdenaaQChannelPolynomialsWFoot
import Derived.Test.YtpjpbhjpobdenaaQChannelPolynomialsWKept
import Derived.Test.YtpjpbhjpobdenaaQChannelPolynomialsWShare
import Derived.Test.YtpjpbhjpobdenaaQChannelPolynomialsWN
import Derived.Test.YtpjpbhjpobdenaaQChannelPolynomialsWFootNe
import Derived.Test.YtpjpbhjpobdenaaQChannelPolynomialsWAt
import Derived.Test.YtpjpbhjpobdenaaQChannelPolynomialsWEqStruct
import Derived.Test.YtpjpbhjpobdenaaQChannelPolynomialsWRepsOne
import Derived.Test.YtpjpbhjpobdenaaQChannelPolynomialsWInv
import Derived.Test.YtpjpbhjpobdenaaQChannelPolynomialsWInvWords
import Derived.Test.YtpjpbhjpobdenaaQChannelPolynomialsWGuard
import Derived.Test.YtpjpbhjpobdenaaQChannelPolynomialsWNEv
import Derived.Test.YtpjpbhjpobdenaaQChannelPolynomialsWMore
import Derived.Test.YtpjpbhjpobdenaaQChannelPolynomialsXtra
import Derived.Test.YtpjpbhjpobdenaaQChannelPolynomialsWSq
-- printed by a scratch copy of the print, turned (wip/tools/turn_print.py)
namespace Go.Proofs.Ytpjpbhjpobdenaa.PNat
open Go.RowKit Go.Proofs.YtpjpbhjpobdenaaW.PrintWords Go.Proofs.YtpjpbhjpobdenaaW.PrintLast Go.Proofs.YtpjpbhjpobdenaaW.PrintMore
attribute [local go_sem] max2_int min2_int max_two min_two max_three min_three max_four min_four   -- for this text's walks alone
set_option linter.unusedVariables false
set_option linter.unusedSimpArgs false
def errW : Option Int → Value
 | none => .nilIface
 | some c => .iface 0 (.int .i64 c)
theorem errW_none : errW none = .nilIface := rfl
theorem errW_some (c : Int) : errW (some c) = .iface 0 (.int .i64 c) := rfl
theorem info85 : (Try.prog.info? 85).map (fun i => (i.zero, i.size, i.bytes)) = some (some (.int .u32 0), 1, 4) := by kernel_rfl
-- the values' own types
def rd_L1 (xs : List (List Int)) (i : Int) : (List Int) := xs.getD i.toNat ([] : List Int)
theorem at_L1 {w : World} {A : Option Addr} {n : Nat} {xs : List (List Int)} (h : Kd.C (Kd.slice 85 (Kd.int .u32)) w A n xs) (i : Int) (h0 : 0 ≤ i) (h1 : i < n) : ∃ ad A0 c0, A = some ad ∧ w.cell? (ad.add i.toNat) = some (.slice A0 (rd_L1 xs i).length c0) ∧ (rd_L1 xs i).length ≤ c0 ∧ (Kd.int .u32).C w A0 (rd_L1 xs i).length (rd_L1 xs i) := by
 obtain ⟨ad, c, e, _, hK, hc0⟩ := Kd.C_get h ([] : List Int) i h0 h1
 have hc : ∀ j u, c[j]? = some u → w.cell? (ad.add (i.toNat * 1 + j)) = some u := hc0
 obtain ⟨A0, c0, rfl, l0, g0⟩ := hK
 exact ⟨ad, A0, c0, e, by have hq := hc 0 _ rfl; rwa [Nat.mul_one, Nat.add_zero] at hq, l0, g0⟩
end Go.Proofs.Ytpjpbhjpobdenaa.PNat
