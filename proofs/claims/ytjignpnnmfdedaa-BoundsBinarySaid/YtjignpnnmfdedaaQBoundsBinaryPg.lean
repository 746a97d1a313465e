/- Wraps of integers that fit, and reads of lists, as the printed functions write them. -/
import Derived.RowKit
import Derived.Laws.BitsLemmas
import Derived.Test.YtjignpnnmfdedaaQBoundsBinaryWMore
import Derived.Test.YtjignpnnmfdedaaQBoundsBinaryLib
import Derived.Test.YtjignpnnmfdedaaQBoundsBinaryx
namespace Go.Proofs.Ytjignpnnmfdedaa.BoundsBinaryC
open Go.RowKit Go Go.Proofs.YtjignpnnmfdedaaW.PrintWords Go.Proofs.YtjignpnnmfdedaaW.PrintLast Go.Proofs.YtjignpnnmfdedaaW.PrintMore Cw
theorem w64 {x : Int} (h0 : -9223372036854775808 ≤ x) (h1 : x ≤ 9223372036854775807) : wrap64 x = x := by unfold wrap64; omega
theorem wu64 {x : Int} (h0 : 0 ≤ x) (h1 : x < 18446744073709551616) : IntKind.u64.wrap x = x := by
  simp only [IntKind.wrap, IntKind.bits, IntKind.signed]; simp; omega
theorem wadd {i j : Nat} (h : i + j ≤ 9223372036854775807) : wrap64 ((i : Int) + (j : Int)) = ((i + j : Nat) : Int) := by rw [w64 (by omega) (by omega)]; omega
theorem wsucc {i : Nat} (h : i < 9223372036854775807) : wrap64 ((i : Int) + 1) = ((i + 1 : Nat) : Int) := by rw [w64 (by omega) (by omega)]; omega
theorem wpred {i : Nat} (h : i < 9223372036854775807) : wrap64 (((i + 1 : Nat) : Int) - 1) = (i : Int) := by rw [w64 (by omega) (by omega)]; omega
theorem wpred2 {i : Nat} (h : i < 9223372036854775807) : wrap64 ((i : Int) - 1) = (i : Int) - 1 := by rw [w64 (by omega) (by omega)]
theorem wsub {i j : Nat} (h : i < 9223372036854775807) (hj : j ≤ i) : wrap64 ((i : Int) - (j : Int)) = ((i - j : Nat) : Int) := by rw [w64 (by omega) (by omega)]; omega
theorem wpredn {i : Nat} (h : 1 ≤ i) (h2 : i ≤ 9223372036854775807) : wrap64 ((i : Int) - 1) = ((i - 1 : Nat) : Int) := by rw [w64 (by omega) (by omega)]; omega
theorem wnat {i : Nat} (h : i ≤ 9223372036854775807) : wrap64 (i : Int) = (i : Int) := w64 (by omega) (by omega)
theorem wu64n {i : Nat} (h : i < 18446744073709551616) : IntKind.u64.wrap (i : Int) = (i : Int) := wu64 (by omega) (by omega)
theorem wu64_mod (x : Int) : IntKind.u64.wrap x = x % 18446744073709551616 := by
  simp [IntKind.wrap, IntKind.bits, IntKind.signed]
/- No equation on a wrap may stand in a context in which omega is called: two such atoms are compared by unfolding. -/
theorem wraps_u64 (n : Int) (h0 : 0 ≤ n) (h1 : n < 2 ^ 64) : IntKind.u64.wrap n = n := wu64 h0 (by simpa using h1)
theorem wraps_i64 (n : Int) (h0 : 0 ≤ n) (h1 : n < 2 ^ 63) : IntKind.i64.wrap n = n := by
  rw [IntKind.wrap_i64]; omega
/-- a limb above a limb -/
theorem or_limb {x y : Int} (hx : 0 ≤ x ∧ x < 4294967296) (hy : 0 ≤ y ∧ y < 4294967296) : Go.bits .or .u64 (x * 4294967296) y = x * 4294967296 + y :=
  bits_join .u64 64 (by decide) wraps_u64 32 _ _ (by omega) (by omega) (by omega) hy.1 (by omega) (by omega)
theorem and_one {x : Int} (h0 : 0 ≤ x) (h1 : x < 9223372036854775808) : Go.bits .and .i64 x 1 = x % 2 :=
  bits_mask .i64 63 (by decide) wraps_i64 1 (by decide) x h0 (by simpa using h1)
theorem mn_eq (a b : Int) : mn a b = if b < a then b else a := rfl
theorem mx_eq (a b : Int) : mx a b = if a < b then b else a := rfl
theorem rd_nat (xs : List Int) (i : Nat) : rd xs (i : Int) = xs.getD i 0 := rfl
theorem tdivp {a b : Int} (h : 0 ≤ a) : Int.tdiv a b = a / b := Int.tdiv_eq_ediv_of_nonneg h
theorem tmodp {a b : Int} (h : 0 ≤ a) : Int.tmod a b = a % b := Int.tmod_eq_emod_of_nonneg h
/-- a limb is its own remainder -/
theorem mod_limb {x : Int} (h0 : 0 ≤ x) (h1 : x < 4294967296) : x % 4294967296 = x := Int.emod_eq_of_lt h0 h1
end Go.Proofs.Ytjignpnnmfdedaa.BoundsBinaryC
/- What the printed reference functions on numbers compute: Trim, Same, limb, Add, Mul, Of, small, Choose, Bits, Pow. -/
namespace Go.Proofs.Ytjignpnnmfdedaa.BoundsBinaryC
open Go.RowKit Go.Proofs.Ytjignpnnmfdedaa.PBoundsBinary Go.Proofs.YtjignpnnmfdedaaW.PrintWords Go.Proofs.YtjignpnnmfdedaaW.PrintLast Go.Proofs.YtjignpnnmfdedaaW.PrintMore Cw
theorem rtrim_l0 (xs : List Int) (n : Nat) (hx : Is xs n) (hl : xs.length ≤ 35184372088831) : ∀ m : Nat, m ≤ xs.length → (∀ i, m ≤ i → i < xs.length → xs.getD i 0 = 0) →
    Evt (fun k => codewrightref01_Trim.l0 k xs m) (enc n) := by
  intro m
  induction m with
  | zero =>
    intro hm h
    refine Evt.step (fun k => codewrightref01_Trim.l0.eq_2 ..) (Evt.neg (by omega) (Evt.bind (Evt.now _) (Evt.pos (by omega) (Evt.pos (by omega) (Evt.pos (by simp) (Evt.now' ?_))))))
    exact take_eq_enc hx 0 hm h (.inl rfl)
  | succ m ih =>
    intro hm h
    refine Evt.step (fun k => codewrightref01_Trim.l0.eq_2 ..) ?_
    rw [wpred (by omega)]
    refine Evt.pos (by omega) (Evt.pos (by omega) (Evt.pos (by omega) ?_))
    by_cases hz : rd xs (m : Int) = 0
    · refine Evt.pos hz (ih (by omega) fun i h1 h2 => ?_)
      by_cases hi : i = m
      · rw [hi]; exact hz
      · exact h i (by omega) h2
    · refine Evt.neg hz (Evt.bind (Evt.now _) (Evt.pos (by omega) (Evt.pos (by omega) (Evt.pos (by simp; omega) (Evt.now' ?_)))))
      rw [List.nil_append]
      exact take_eq_enc hx (m + 1) hm h (.inr hz)
theorem rtrim_ev {xs : List Int} {n : Nat} (hx : Is xs n) (hl : xs.length ≤ 35184372088831) : Evt (fun k => codewrightref01_Trim.f k xs) (enc n) :=
  rtrim_l0 xs n hx hl xs.length (Nat.le_refl _) (fun i h1 h2 => by omega)
theorem rlimb_eq (xs : List Int) (hx : Lim xs) (i : Nat) : codewrightref01_limb.f xs i = some (xs.getD i 0) := by
  unfold codewrightref01_limb.f
  have := hx.getD i
  by_cases h : i < xs.length
  · rw [if_pos (by omega), if_pos (by omega), rd_nat, wu64 this.1 (by omega)]
  · rw [if_neg (by omega), getD_none' xs i (by omega)]
theorem rof_ev (n : Nat) (h : n < 18446744073709551616) : Evt (fun k => codewrightref01_Of.f k n) (enc n) := by
  unfold codewrightref01_Of.f
  rw [tmodp (by omega), tdivp (by omega), wu64 (by omega) (by omega)]
  refine Evt.bind (rtrim_ev (n := n) ⟨?_, ?_⟩ (by simp)) (Evt.now _)
  · exact Lim.cons (by omega) (by omega) (Lim.cons (by omega) (by omega) Lim.nil)
  · simp only [ev_cons, ev_nil]; omega
end Go.Proofs.Ytjignpnnmfdedaa.BoundsBinaryC
/- What the printed reference function Cmp computes. -/
namespace Go.Proofs.Ytjignpnnmfdedaa.BoundsBinaryC
open Go.RowKit Go.Proofs.Ytjignpnnmfdedaa.PBoundsBinary Go.Proofs.YtjignpnnmfdedaaW.PrintWords Go.Proofs.YtjignpnnmfdedaaW.PrintLast Go.Proofs.YtjignpnnmfdedaaW.PrintMore Cw
theorem rcmp_l0 (a b : List Int) (m n : Nat) (ha : Is a m) (hb : Is b n) : ∀ i : Nat, i ≤ 2000000000 → TopEq a b i →
    Evt (fun k => codewrightref01_Cmp.l0 k a b ((i : Int) - 1)) (cmpN m n) := by
  intro i
  induction i with
  | zero =>
    intro _ h
    have e := h.zero
    rw [ha.2, hb.2] at e
    have : m = n := by omega
    subst this
    rw [cmpN_eq]
    exact Evt.step (fun k => codewrightref01_Cmp.l0.eq_2 ..) (Evt.neg (by omega) (Evt.now _))
  | succ i ih =>
    intro hi h
    refine Evt.step (fun k => codewrightref01_Cmp.l0.eq_2 ..) ?_
    rw [show (((i + 1 : Nat) : Int) - 1) = (i : Int) by omega, wpred2 (by omega)]
    refine Evt.pos (by omega) (Evt.bind0 (rlimb_eq a ha.1 i) (Evt.bind0 (rlimb_eq b hb.1 i) ?_))
    by_cases h1 : a.getD i 0 < b.getD i 0
    · have e := h.lt ha.1 hb.1 h1
      rw [ha.2, hb.2] at e
      exact Evt.pos h1 (Evt.now' (cmpN_lt (by omega)).symm)
    refine Evt.neg h1 (Evt.bind0 (rlimb_eq a ha.1 i) (Evt.bind0 (rlimb_eq b hb.1 i) ?_))
    by_cases h2 : a.getD i 0 > b.getD i 0
    · have e := h.symm.lt hb.1 ha.1 h2
      rw [ha.2, hb.2] at e
      exact Evt.pos h2 (Evt.now' (cmpN_gt (by omega)).symm)
    · exact Evt.neg h2 (ih (by omega) (h.step (by omega)))
theorem rcmp_ev {a b : List Int} {m n : Nat} (ha : Is a m) (hb : Is b n) (hla : a.length ≤ 1000000000) (hlb : b.length ≤ 1000000000) : Evt (fun k => codewrightref01_Cmp.f k a b) (cmpN m n) := by
  unfold codewrightref01_Cmp.f
  rw [mx_eq]
  by_cases h : (a.length : Int) < (b.length : Int)
  · rw [if_pos h, wpred2 (by omega)]
    exact rcmp_l0 a b m n ha hb b.length (by omega) (TopEq.start (by omega) (by omega))
  · rw [if_neg h, wpred2 (by omega)]
    exact rcmp_l0 a b m n ha hb a.length (by omega) (TopEq.start (by omega) (by omega))
end Go.Proofs.Ytjignpnnmfdedaa.BoundsBinaryC
/- What the printed reference functions on lists of words compute: Distance, Words, Apart, holds. -/
namespace Go.Proofs.Ytjignpnnmfdedaa.BoundsBinaryC
open Go.RowKit Go.Proofs.Ytjignpnnmfdedaa.PBoundsBinary Go.Proofs.YtjignpnnmfdedaaW.PrintWords Go.Proofs.YtjignpnnmfdedaaW.PrintLast Go.Proofs.YtjignpnnmfdedaaW.PrintMore Cw
theorem rdL1_nat (W : List (List Int)) (i : Nat) : rd_L1 W (i : Int) = W.getD i [] := rfl
theorem rdL1_zero (W : List (List Int)) : rd_L1 W 0 = W.getD 0 [] := rfl
theorem dist_drop (a b : List Int) (i : Nat) (ha : i < a.length) (hb : i < b.length) : dist (a.drop i) (b.drop i) = (if a.getD i 0 = b.getD i 0 then 0 else 1) + dist (a.drop (i + 1)) (b.drop (i + 1)) := by
  rw [List.drop_eq_getElem_cons ha, List.drop_eq_getElem_cons hb, dist_cons, List.getD_eq_getElem?_getD, List.getD_eq_getElem?_getD, List.getElem?_eq_getElem ha, List.getElem?_eq_getElem hb]
  rfl
theorem distance_l0 (a b : List Int) (hab : a.length ≤ b.length) (hl : a.length ≤ 1000000000) : ∀ (d i c : Nat), i + d = a.length → c ≤ i → Evt (fun k => codewrightref24_Distance.l0 k a b (c : Int) (i : Int)) ((c + dist (a.drop i) (b.drop i) : Nat) : Int) := by
  intro d
  induction d with
  | zero =>
    intro i c hi hc
    rw [List.drop_of_length_le (by omega), dist_nil]
    exact Evt.step (fun k => codewrightref24_Distance.l0.eq_2 ..) (Evt.neg (by omega) (Evt.now _))
  | succ d ih =>
    intro i c hi hc
    refine Evt.step (fun k => codewrightref24_Distance.l0.eq_2 ..) (Evt.pos (by omega) (Evt.pos (by omega) (Evt.pos (by omega) ?_)))
    rw [dist_drop a b i (by omega) (by omega), wsucc (by omega), wsucc (by omega), rd_nat, rd_nat]
    by_cases h : a.getD i 0 = b.getD i 0
    · refine Evt.pos h ?_
      rw [if_pos h, Nat.zero_add]
      exact ih (i + 1) c (by omega) (by omega)
    · refine Evt.neg h ?_
      rw [if_neg h, ← Nat.add_assoc]
      exact ih (i + 1) (c + 1) (by omega) (by omega)
theorem distance_ev (a b : List Int) (hab : a.length ≤ b.length) (hl : a.length ≤ 1000000000) : Evt (fun k => codewrightref24_Distance.f k a b) ((dist a b : Nat) : Int) := by
  have := distance_l0 a b hab hl a.length 0 0 (by omega) (by omega)
  rw [Nat.zero_add] at this
  exact this
/-- what Words has found when it answers 0 -/
def WOK (q : Int) (W : List (List Int)) : Prop := 2 ≤ q ∧ q ≤ 256 ∧ 0 < W.length ∧ 1 ≤ (W.getD 0 []).length ∧ (W.getD 0 []).length ≤ 64 ∧ AllW q.toNat (W.getD 0 []).length W
theorem getD_mem {α : Type} {W : List α} {x : α} (h : x ∈ W) (z : α) : ∃ i, i < W.length ∧ W.getD i z = x := by
  obtain ⟨i, hi, rfl⟩ := List.mem_iff_getElem.1 h
  exact ⟨i, hi, by rw [List.getD_eq_getElem?_getD, List.getElem?_eq_getElem hi]; rfl⟩
theorem words_l1 (q : Int) (W : List (List Int)) (i : Nat) (hi : i < W.length) (hl : W.length ≤ 1000000) (hrow : (W.getD i []).length ≤ 64) (Q : Int → Prop)
    (next : (∀ j, j < (W.getD i []).length → 0 ≤ (W.getD i []).getD j 0 ∧ (W.getD i []).getD j 0 < q) → ∃ e, Evt (fun k => codewrightref34_Words.l0 k q W ((i + 1 : Nat) : Int)) e ∧ Q e) (bad : Q 2) : ∀ (d p : Nat), p + d = (W.getD i []).length →
    (∀ j, j < p → 0 ≤ (W.getD i []).getD j 0 ∧ (W.getD i []).getD j 0 < q) → ∃ e, Evt (fun k => codewrightref34_Words.l1 k q W (i : Int) (p : Int)) e ∧ Q e := by
  intro d
  induction d with
  | zero =>
    intro p hp h
    obtain ⟨e, he, hq⟩ := next (fun j hj => h j (by omega))
    refine ⟨e, Evt.step (fun k => codewrightref34_Words.l1.eq_2 ..) (Evt.pos (by omega) (Evt.pos (by omega) (Evt.neg ?_ ?_))), hq⟩
    · rw [rdL1_nat]; omega
    · rw [wsucc (by omega)]; exact he
  | succ d ih =>
    intro p hp h
    have hb : (p : Int) < ((rd_L1 W (i : Int)).length : Int) := by rw [rdL1_nat]; omega
    by_cases h0 : (W.getD i []).getD p 0 < 0
    · refine ⟨2, Evt.step (fun k => codewrightref34_Words.l1.eq_2 ..) (Evt.pos (by omega) (Evt.pos (by omega) (Evt.pos hb (Evt.pos (by omega) (Evt.pos ?_ (Evt.now _)))))), bad⟩
      rw [rdL1_nat, rd_nat]; exact h0
    · by_cases h1 : (W.getD i []).getD p 0 ≥ q
      · refine ⟨2, Evt.step (fun k => codewrightref34_Words.l1.eq_2 ..) (Evt.pos (by omega) (Evt.pos (by omega) (Evt.pos hb (Evt.pos (by omega) (Evt.neg ?_ (Evt.pos ?_ (Evt.now _))))))), bad⟩
        · rw [rdL1_nat, rd_nat]; exact h0
        · rw [rdL1_nat, rd_nat]; exact h1
      · obtain ⟨e, he, hq⟩ := ih (p + 1) (by omega) (fun j hj => by
          by_cases hjp : j = p
          · rw [hjp]; omega
          · exact h j (by omega))
        refine ⟨e, Evt.step (fun k => codewrightref34_Words.l1.eq_2 ..) (Evt.pos (by omega) (Evt.pos (by omega) (Evt.pos hb (Evt.pos (by omega) (Evt.neg ?_ (Evt.neg ?_ ?_)))))), hq⟩
        · rw [rdL1_nat, rd_nat]; exact h0
        · rw [rdL1_nat, rd_nat]; exact h1
        · rw [wsucc (by omega)]; exact he
theorem words_l0 (q : Int) (W : List (List Int)) (hq : 2 ≤ q ∧ q ≤ 256) (hl : W.length ≤ 1000000) (h0 : 0 < W.length) (h1 : 1 ≤ (W.getD 0 []).length) (h64 : (W.getD 0 []).length ≤ 64) : ∀ (d i : Nat), i + d = W.length →
    (∀ j, j < i → IsW q.toNat (W.getD 0 []).length (W.getD j [])) → ∃ e, Evt (fun k => codewrightref34_Words.l0 k q W (i : Int)) e ∧ (e = 0 → WOK q W) := by
  intro d
  induction d with
  | zero =>
    intro i hi h
    refine ⟨0, Evt.step (fun k => codewrightref34_Words.l0.eq_2 ..) (Evt.neg (by omega) (Evt.now _)), fun _ => ⟨hq.1, hq.2, h0, h1, h64, fun c hc => ?_⟩⟩
    obtain ⟨j, hj, rfl⟩ := getD_mem hc []
    exact h j (by omega)
  | succ d ih =>
    intro i hi h
    by_cases hlen : (W.getD i []).length = (W.getD 0 []).length
    · obtain ⟨e, he, hz⟩ := words_l1 q W i (by omega) hl (by omega) (fun e => e = 0 → WOK q W) (fun hrow => ih (i + 1) (by omega) (fun j hj => by
        by_cases hji : j = i
        · rw [hji]
          refine ⟨hlen, fun x hx => ?_⟩
          obtain ⟨p, hp, rfl⟩ := getD_mem hx 0
          have := hrow p hp
          omega
        · exact h j (by omega))) (fun h => by omega) (W.getD i []).length 0 (by omega) (fun j hj => by omega)
      refine ⟨e, Evt.step (fun k => codewrightref34_Words.l0.eq_2 ..) (Evt.pos (by omega) (Evt.pos (by omega) (Evt.pos (by omega) (Evt.pos ?_ he)))), hz⟩
      rw [rdL1_nat, rdL1_zero, hlen]
    · refine ⟨3, Evt.step (fun k => codewrightref34_Words.l0.eq_2 ..) (Evt.pos (by omega) (Evt.pos (by omega) (Evt.pos (by omega) (Evt.neg ?_ (Evt.now _))))), fun h => by omega⟩
      rw [rdL1_nat, rdL1_zero]; omega
theorem words_ev (q : Int) (W : List (List Int)) (hl : W.length ≤ 1000000) : ∃ e, Evt (fun k => codewrightref34_Words.f k q W) e ∧ (e = 0 → WOK q W) := by
  unfold codewrightref34_Words.f
  have out : ∃ e, Evt (fun k => codewrightref34_Words.j0 k q W true) e ∧ (e = 0 → WOK q W) :=
    ⟨6, Evt.step (fun k => codewrightref34_Words.j0.eq_2 ..) (Evt.pos rfl (Evt.now _)), fun h => by omega⟩
  by_cases h2 : q < 2
  · obtain ⟨e, he, hz⟩ := out
    exact ⟨e, Evt.pos h2 he, hz⟩
  · by_cases h256 : q > 256
    · obtain ⟨e, he, hz⟩ := out
      refine ⟨e, Evt.neg h2 ?_, hz⟩
      rw [decide_eq_true h256]; exact he
    · suffices H : ∃ e, Evt (fun k => codewrightref34_Words.j0 k q W false) e ∧ (e = 0 → WOK q W) by
        obtain ⟨e, he, hz⟩ := H
        refine ⟨e, Evt.neg h2 ?_, hz⟩
        rw [decide_eq_false h256]; exact he
      by_cases h0 : W.length = 0
      · exact ⟨11, Evt.step (fun k => codewrightref34_Words.j0.eq_2 ..) (Evt.neg (by simp) (Evt.pos (by omega) (Evt.now _))), fun h => by omega⟩
      · have bad : ∃ e, Evt (fun k => codewrightref34_Words.j1 k q W true) e ∧ (e = 0 → WOK q W) :=
          ⟨4, Evt.step (fun k => codewrightref34_Words.j1.eq_2 ..) (Evt.pos rfl (Evt.now _)), fun h => by omega⟩
        by_cases h1 : (W.getD 0 []).length < 1
        · obtain ⟨e, he, hz⟩ := bad
          refine ⟨e, Evt.step (fun k => codewrightref34_Words.j0.eq_2 ..) (Evt.neg (by simp) (Evt.neg (by omega) (Evt.pos (by omega) (Evt.pos ?_ he)))), hz⟩
          rw [rdL1_zero]; omega
        · by_cases h64 : (W.getD 0 []).length > 64
          · obtain ⟨e, he, hz⟩ := bad
            refine ⟨e, Evt.step (fun k => codewrightref34_Words.j0.eq_2 ..) (Evt.neg (by simp) (Evt.neg (by omega) (Evt.pos (by omega) (Evt.neg ?_ ?_)))), hz⟩
            · rw [rdL1_zero]; omega
            · rw [rdL1_zero, decide_eq_true (by omega : ((W.getD 0 []).length : Int) > 64)]; exact he
          · obtain ⟨e, he, hz⟩ := words_l0 q W (by omega) hl (by omega) (by omega) (by omega) W.length 0 (by omega) (fun j hj => by omega)
            refine ⟨e, Evt.step (fun k => codewrightref34_Words.j0.eq_2 ..) (Evt.neg (by simp) (Evt.neg (by omega) (Evt.pos (by omega) (Evt.neg ?_ ?_)))), hz⟩
            · rw [rdL1_zero]; omega
            · rw [rdL1_zero, decide_eq_false (by omega : ¬ ((W.getD 0 []).length : Int) > 64)]
              exact Evt.step (fun k => codewrightref34_Words.j1.eq_2 ..) (Evt.neg (by simp) he)
theorem apart_l1 (W : List (List Int)) (d n : Nat) (hW : ∀ i, i < W.length → (W.getD i []).length = n) (hn : n ≤ 64) (hl : W.length ≤ 1000000) (i : Nat) (hi : i < W.length) (Q : Bool → Prop)
    (next : (∀ j, j < i → d ≤ dist (W.getD i []) (W.getD j [])) → ∃ e, Evt (fun k => codewrightref34_Apart.l0 k W d ((i + 1 : Nat) : Int)) e ∧ Q e) (bad : Q false) : ∀ (e j : Nat), j + e = i →
    (∀ p, p < j → d ≤ dist (W.getD i []) (W.getD p [])) → ∃ b, Evt (fun k => codewrightref34_Apart.l1 k W d (i : Int) (j : Int)) b ∧ Q b := by
  intro e
  induction e with
  | zero =>
    intro j hj h
    obtain ⟨b, hb, hq⟩ := next (fun p hp => h p (by omega))
    refine ⟨b, Evt.step (fun k => codewrightref34_Apart.l1.eq_2 ..) (Evt.neg (by omega) ?_), hq⟩
    rw [wsucc (by omega)]; exact hb
  | succ e ih =>
    intro j hj h
    have hd := distance_ev (W.getD i []) (W.getD j []) (by rw [hW i hi, hW j (by omega)]; omega) (by rw [hW i hi]; omega)
    by_cases hlt : dist (W.getD i []) (W.getD j []) < d
    · refine ⟨false, Evt.step (fun k => codewrightref34_Apart.l1.eq_2 ..) (Evt.pos (by omega) (Evt.pos (by omega) (Evt.pos (by omega) (Evt.pos (by omega) (Evt.pos (by omega) ?_))))), bad⟩
      rw [rdL1_nat, rdL1_nat]
      exact Evt.bind hd (Evt.pos (by omega) (Evt.now _))
    · obtain ⟨b, hb, hq⟩ := ih (j + 1) (by omega) (fun p hp => by
        by_cases hpj : p = j
        · rw [hpj]; omega
        · exact h p (by omega))
      refine ⟨b, Evt.step (fun k => codewrightref34_Apart.l1.eq_2 ..) (Evt.pos (by omega) (Evt.pos (by omega) (Evt.pos (by omega) (Evt.pos (by omega) (Evt.pos (by omega) ?_))))), hq⟩
      rw [rdL1_nat, rdL1_nat, wsucc (by omega)]
      exact Evt.bind hd (Evt.neg (by omega) hb)
theorem apart_l0 (W : List (List Int)) (d n : Nat) (hW : ∀ i, i < W.length → (W.getD i []).length = n) (hn : n ≤ 64) (hl : W.length ≤ 1000000) : ∀ (e i : Nat), i + e = W.length →
    (∀ p j, p < i → j < p → d ≤ dist (W.getD p []) (W.getD j [])) → ∃ b, Evt (fun k => codewrightref34_Apart.l0 k W d (i : Int)) b ∧ (b = true → ∀ p j, p < W.length → j < p → d ≤ dist (W.getD p []) (W.getD j [])) := by
  intro e
  induction e with
  | zero =>
    intro i hi h
    exact ⟨true, Evt.step (fun k => codewrightref34_Apart.l0.eq_2 ..) (Evt.neg (by omega) (Evt.now _)), fun _ p j hp hj => h p j (by omega) hj⟩
  | succ e ih =>
    intro i hi h
    obtain ⟨b, hb, hq⟩ := apart_l1 W d n hW hn hl i (by omega) (fun b => b = true → ∀ p j, p < W.length → j < p → d ≤ dist (W.getD p []) (W.getD j [])) (fun hrow => ih (i + 1) (by omega) (fun p j hp hj => by
      by_cases hpi : p = i
      · subst hpi; exact hrow j hj
      · exact h p j (by omega) hj)) (fun h => by simp at h) i 0 (by omega) (fun p hp => by omega)
    exact ⟨b, Evt.step (fun k => codewrightref34_Apart.l0.eq_2 ..) (Evt.pos (by omega) hb), hq⟩
theorem apart_ev (W : List (List Int)) (d n : Nat) {q : Nat} (hW : AllW q n W) (hn : n ≤ 64) (hl : W.length ≤ 1000000) : ∃ b, Evt (fun k => codewrightref34_Apart.f k W d) b ∧ (b = true → Apart d W) := by
  have hW' : ∀ i, i < W.length → (W.getD i []).length = n := fun i hi => by
    rw [List.getD_eq_getElem?_getD, List.getElem?_eq_getElem hi]
    exact (hW _ (List.getElem_mem hi)).1
  obtain ⟨b, hb, hq⟩ := apart_l0 W d n hW' hn hl W.length 0 (by omega) (fun p j hp hj => by omega)
  refine ⟨b, hb, fun h => ?_⟩
  unfold Apart
  rw [List.pairwise_iff_getElem]
  intro i j hi hj hij
  have := hq h j i hj hij
  rw [List.getD_eq_getElem?_getD, List.getD_eq_getElem?_getD, List.getElem?_eq_getElem hi, List.getElem?_eq_getElem hj, dist_comm] at this
  exact this
theorem holds_ev (M m : Nat) (h : M ≤ m) (hM : M < 9223372036854775808) (hl : (enc m).length ≤ 1000000) : Evt (fun k => codewrightlaw34_holds.f k (M : Int) (enc m) 0) true := by
  unfold codewrightlaw34_holds.f
  rw [wu64n (by omega)]
  have l1 : (enc M).length ≤ 2 := enc_length_le _ (by omega)
  refine Evt.pos rfl (Evt.bind (rof_ev M (by omega)) (Evt.bind (rcmp_ev (enc_is M) (enc_is m) (by omega) (by omega)) (Evt.now' ?_)))
  exact decide_eq_true (cmpN_nonpos.2 h)
end Go.Proofs.Ytjignpnnmfdedaa.BoundsBinaryC
/- What the printed functions of package nat compute: short, Trim, Of, plus, Add, times, Mul. -/
namespace Go.Proofs.Ytjignpnnmfdedaa.BoundsBinaryC
open Go.RowKit Go.Proofs.Ytjignpnnmfdedaa.PBoundsBinary Go.Proofs.YtjignpnnmfdedaaW.PrintWords Go.Proofs.YtjignpnnmfdedaaW.PrintLast Go.Proofs.YtjignpnnmfdedaaW.PrintMore Cw
theorem short_l0 (xs : List Int) (n : Nat) (hx : Is xs n) (hl : xs.length ≤ 140737488355328) : ∀ m : Nat, m ≤ xs.length → (∀ i, m ≤ i → i < xs.length → xs.getD i 0 = 0) →
    Evt (fun k => nat_short.l0 k xs m) (enc n) := by
  intro m
  induction m with
  | zero =>
    intro hm h
    refine Evt.step (fun k => nat_short.l0.eq_2 ..) (Evt.neg (by omega) (Evt.pos (by omega) (Evt.pos (by omega) (Evt.now' ?_))))
    exact take_eq_enc hx 0 hm h (.inl rfl)
  | succ m ih =>
    intro hm h
    refine Evt.step (fun k => nat_short.l0.eq_2 ..) ?_
    rw [wpred (by omega)]
    refine Evt.pos (by omega) (Evt.pos (by omega) (Evt.pos (by omega) ?_))
    by_cases hz : rd xs (m : Int) = 0
    · refine Evt.pos hz (ih (by omega) fun i h1 h2 => ?_)
      by_cases hi : i = m
      · rw [hi]; exact hz
      · exact h i (by omega) h2
    · refine Evt.neg hz (Evt.pos (by omega) (Evt.pos (by omega) (Evt.now' ?_)))
      exact take_eq_enc hx (m + 1) hm h (.inr hz)
theorem short_ev {xs : List Int} {n : Nat} (hx : Is xs n) (hl : xs.length ≤ 140737488355328) : Evt (fun k => nat_short.f k xs) (enc n) :=
  short_l0 xs n hx hl xs.length (Nat.le_refl _) (fun i h1 h2 => by omega)
theorem trim_ev {xs : List Int} {n : Nat} (hx : Is xs n) (hl : xs.length ≤ 35184372088831) : Evt (fun k => nat_Trim.f k xs) (enc n) := by
  unfold nat_Trim.f
  have := hx.enc_length
  exact Evt.bind (short_ev hx (by omega)) (Evt.pos (by simp; omega) (Evt.now' (by simp)))
theorem of_ev (n : Nat) (h : n < 18446744073709551616) : Evt (fun k => nat_Of.f k n) (enc n) := by
  unfold nat_Of.f
  refine Evt.bind (trim_ev (n := n) ⟨?_, ?_⟩ (by simp)) (Evt.now _)
  · exact Lim.cons (by omega) (by omega) (Lim.cons (by omega) (by omega) Lim.nil)
  · simp only [ev_cons, ev_nil]; omega
/-- the loop of plus: i limbs are added -/
theorem plus_l0 (a b : List Int) (m n : Nat) (ha : Is a m) (hb : Is b n) (hab : b.length ≤ a.length) (hl : a.length ≤ 35184372088000) : ∀ (d i : Nat) (out : List Int) (c : Int),
    i + d = a.length → Lim out → out.length = a.length + 1 → (∀ j, i ≤ j → out.getD j 0 = 0) → 0 ≤ c → c ≤ 1 → PlusInv a b out c i →
    Evt (fun k => nat_plus.l0 k a b out c (a.length : Int) (i : Int)) (enc (m + n)) := by
  intro d
  induction d with
  | zero =>
    intro i out c hi hlim hlen hz hc0 hc1 he
    refine Evt.step (fun k => nat_plus.l0.eq_2 ..) (Evt.neg (by omega) (Evt.pos (by omega) (Evt.pos (by omega) ?_)))
    refine Evt.bind (short_ev (n := m + n) ⟨hlim.set _ (by omega) (by omega), ?_⟩ (by rw [List.length_set]; omega)) (Evt.now _)
    have h1 : i = a.length := by omega
    subst h1
    rw [Int.toNat_natCast, mod_limb hc0 (by omega), he.last (Nat.le_refl _) hab (by omega) (hz _ (Nat.le_refl _)), ha.2, hb.2]; omega
  | succ d ih =>
    intro i out c hi hlim hlen hz hc0 hc1 he
    refine Evt.step (fun k => nat_plus.l0.eq_2 ..) (Evt.pos (by omega) (Evt.pos (by omega) (Evt.pos (by omega) ?_)))
    have hai := ha.1.getD i
    have hbi := hb.1.getD i
    have hn := he.step (by omega) (hz i (Nat.le_refl _))
    rw [wsucc (by omega)]
    simp only [rd_nat, Int.toNat_natCast]
    by_cases hlt : i < b.length
    · refine Evt.pos (by omega) (Evt.pos (by omega) ?_)
      simp (disch := omega) only [wu64]
      exact ih (i + 1) _ _ (by omega) (hlim.set _ (by omega) (by omega)) (by rw [List.length_set]; omega) (fun j hj => by rw [lset_ne _ _ _ _ (by omega)]; exact hz j (by omega)) (by omega) (by omega) hn
    · have hb0 : b.getD i 0 = 0 := getD_none' b i (by omega)
      refine Evt.neg (by omega) (Evt.pos (by omega) ?_)
      rw [hb0, Int.add_zero] at hn
      simp (disch := omega) only [wu64]
      exact ih (i + 1) _ _ (by omega) (hlim.set _ (by omega) (by omega)) (by rw [List.length_set]; omega) (fun j hj => by rw [lset_ne _ _ _ _ (by omega)]; exact hz j (by omega)) (by omega) (by omega) hn
theorem plus_j0 {a b : List Int} {m n : Nat} (ha : Is a m) (hb : Is b n) (hab : b.length ≤ a.length) (hl : a.length ≤ 35184372088000) : Evt (fun k => nat_plus.j0 k a b) (enc (m + n)) := by
  refine Evt.step (fun k => nat_plus.j0.eq_2 ..) ?_
  rw [wsucc (by omega)]
  refine Evt.pos (by omega) (Evt.pos (by omega) ?_)
  rw [Int.toNat_natCast]
  exact plus_l0 a b m n ha hb hab hl a.length 0 _ 0 (by omega) (Lim.zeros _) (by simp) (fun j _ => lzeros_getD _ _) (by omega) (by omega) (PlusInv.start ..)
theorem plus_ev {a b : List Int} {m n : Nat} (ha : Is a m) (hb : Is b n) (hl : a.length ≤ 35184372088000) (hl2 : b.length ≤ 35184372088000) : Evt (fun k => nat_plus.f k a b) (enc (m + n)) := by
  unfold nat_plus.f
  by_cases h : (a.length : Int) < b.length
  · refine Evt.pos h ?_
    rw [Nat.add_comm]
    exact plus_j0 hb ha (by omega) hl2
  · exact Evt.neg h (plus_j0 ha hb (by omega) hl)
end Go.Proofs.Ytjignpnnmfdedaa.BoundsBinaryC
/- What the printed functions of package nat compute: times, Mul, Add, digit, Binomial, Bits, Pow. -/
namespace Go.Proofs.Ytjignpnnmfdedaa.BoundsBinaryC
open Go.RowKit Go.Proofs.Ytjignpnnmfdedaa.PBoundsBinary Go.Proofs.YtjignpnnmfdedaaW.PrintWords Go.Proofs.YtjignpnnmfdedaaW.PrintLast Go.Proofs.YtjignpnnmfdedaaW.PrintMore Cw
theorem times_l (a b : List Int) (m n : Nat) (ha : Is a m) (hb : Is b n) (hla : a.length ≤ 17592186044000) (hlb : b.length ≤ 17592186044000) : ∀ (d i : Nat) (out : List Int),
    i + d = a.length → Lim out → out.length = a.length + b.length → (∀ p, i + b.length ≤ p → out.getD p 0 = 0) → TimesInv a b out 0 i 0 →
    Evt (fun k => nat_times.l0 k b out a (a.length : Int) (i : Int)) (enc (m * n)) := by
  intro d
  induction d with
  | zero =>
    intro i out hi hlim hlen hz he
    refine Evt.step (fun k => nat_times.l0.eq_2 ..) (Evt.neg (by omega) ?_)
    refine Evt.bind (short_ev (n := m * n) ⟨hlim, ?_⟩ (by omega)) (Evt.now _)
    rw [he.last (by omega), ha.2, hb.2, Int.natCast_mul]
  | succ d ih =>
    intro i out hi hlim hlen hz he
    refine Evt.step (fun k => nat_times.l0.eq_2 ..) (Evt.pos (by omega) (Evt.pos (by omega) (Evt.pos (by omega) ?_)))
    rw [rd_nat]
    have hx := ha.1.getD i
    suffices H : ∀ (e j : Nat) (out : List Int) (c : Int), j + e = b.length → Lim out → out.length = a.length + b.length → (∀ p, i + b.length ≤ p → out.getD p 0 = 0) → 0 ≤ c → c < 4294967296 → TimesInv a b out c i j →
        Evt (fun k => nat_times.l1 k b out (i : Int) (a.getD i 0) c a (a.length : Int) (i : Int) b (b.length : Int) (j : Int)) (enc (m * n)) from
      H b.length 0 out 0 (by omega) hlim hlen hz (by omega) (by omega) he
    intro e
    induction e with
    | zero =>
      intro j out c hj hlim hlen hz hc0 hc1 he
      refine Evt.step (fun k => nat_times.l1.eq_2 ..) (Evt.neg (by omega) ?_)
      have hj' : j = b.length := by omega
      subst hj'
      rw [wadd (by omega), wsucc (by omega), mod_limb hc0 hc1, Int.toNat_natCast]
      refine Evt.pos (by omega) (Evt.pos (by omega) ?_)
      exact ih (i + 1) _ (by omega) (hlim.set _ hc0 hc1) (by rw [List.length_set]; omega) (fun p hp => by rw [lset_ne _ _ _ _ (by omega)]; exact hz p (by omega)) (he.next (by omega) (hz _ (Nat.le_refl _)))
    | succ e ihe =>
      intro j out c hj hlim hlen hz hc0 hc1 he
      refine Evt.step (fun k => nat_times.l1.eq_2 ..) (Evt.pos (by omega) (Evt.pos (by omega) (Evt.pos (by omega) ?_)))
      rw [wadd (by omega), wsucc (by omega)]
      refine Evt.pos (by omega) (Evt.pos (by omega) ?_)
      rw [rd_nat, rd_nat, Int.toNat_natCast]
      have hy := hb.1.getD j
      have ho := hlim.getD (i + j)
      have hm := mul_lim hx hy
      have hn := he.step (by omega)
      rw [wu64 hx.1 (by omega), wu64 hy.1 (by omega), wu64 hm.1 (by omega), wu64 ho.1 (by omega), wu64 (x := a.getD i 0 * b.getD j 0 + out.getD (i + j) 0) (by omega) (by omega), wu64 (x := a.getD i 0 * b.getD j 0 + out.getD (i + j) 0 + c) (by omega) (by omega)]
      exact ihe (j + 1) _ _ (by omega) (hlim.set _ (by omega) (by omega)) (by rw [List.length_set]; omega) (fun p hp => by rw [lset_ne _ _ _ _ (by omega)]; exact hz p hp) (by omega) (by omega) hn
theorem times_ev {a b : List Int} {m n : Nat} (ha : Is a m) (hb : Is b n) (hla : a.length ≤ 17592186044000) (hlb : b.length ≤ 17592186044000) : Evt (fun k => nat_times.f k a b) (enc (m * n)) := by
  unfold nat_times.f
  rw [wadd (by omega), Int.toNat_natCast]
  refine Evt.pos (by omega) (Evt.pos (by omega) ?_)
  exact times_l a b m n ha hb hla hlb a.length 0 _ (by omega) (Lim.zeros _) (by simp) (fun p _ => lzeros_getD _ _) (TimesInv.start ..)
/-- Mul of two factors -/
theorem mul2_ev {a b : List Int} {m n : Nat} (ha : Is a m) (hb : Is b n) (hla : a.length ≤ 1000000000) (hlb : b.length ≤ 1000000000) : Evt (fun k => nat_Mul.f k [a, b]) (enc (m * n)) := by
  have h1 := ha.enc_length
  have h2 := hb.enc_length
  have hab : (enc (m * n)).length ≤ a.length + b.length := enc_length_le _ (by
    rw [Nat.pow_add]; exact Nat.mul_lt_mul'' ha.lt hb.lt)
  refine Evt.step (f := fun k => nat_Mul.l0 (k + 1) [1] [a, b] 2 0) (fun k => rfl) ?_
  refine Evt.congr (fun k => nat_Mul.l0.eq_2 ..) (Evt.pos (by omega) (Evt.pos (by omega) (Evt.pos (by simp) ?_)))
  rw [show rd_L3 [a, b] 0 = a from rfl, show wrap64 (0 + 1) = 1 by unfold wrap64; omega]
  refine Evt.bind (short_ev ha (by omega)) (Evt.bind (times_ev (m := 1) (n := m) ⟨Lim.cons (by omega) (by omega) Lim.nil, rfl⟩ (enc_is m) (by simp) (by omega)) ?_)
  rw [Nat.one_mul]
  refine Evt.step (fun k => nat_Mul.l0.eq_2 ..) (Evt.pos (by omega) (Evt.pos (by omega) (Evt.pos (by simp) ?_)))
  rw [show rd_L3 [a, b] 1 = b from rfl, show wrap64 (1 + 1) = 2 by unfold wrap64; omega]
  refine Evt.bind (short_ev hb (by omega)) (Evt.bind (times_ev (enc_is m) (enc_is n) (by omega) (by omega)) ?_)
  refine Evt.step (fun k => nat_Mul.l0.eq_2 ..) (Evt.neg (by omega) (Evt.bind (trim_ev (enc_is _) (by omega)) (Evt.now _)))
/-- Add of two terms -/
theorem add2_ev {a b : List Int} {m n : Nat} (ha : Is a m) (hb : Is b n) (hla : a.length ≤ 1000000000) (hlb : b.length ≤ 1000000000) : Evt (fun k => nat_Add.f k [a, b]) (enc (m + n)) := by
  have h1 := ha.enc_length
  have h2 := hb.enc_length
  have hab : (enc (m + n)).length ≤ a.length + b.length + 1 := enc_length_le _ (by
    have e1 := ha.lt
    have e2 := hb.lt
    have e3 : 4294967296 ^ a.length ≤ 4294967296 ^ (a.length + b.length) := Nat.pow_le_pow_right (by omega) (by omega)
    have e4 : 4294967296 ^ b.length ≤ 4294967296 ^ (a.length + b.length) := Nat.pow_le_pow_right (by omega) (by omega)
    rw [Nat.pow_succ]; omega)
  refine Evt.step (f := fun k => nat_Add.l0 (k + 1) [] [a, b] 2 0) (fun k => rfl) ?_
  refine Evt.congr (fun k => nat_Add.l0.eq_2 ..) (Evt.pos (by omega) (Evt.pos (by omega) (Evt.pos (by simp) ?_)))
  rw [show rd_L3 [a, b] 0 = a from rfl, show wrap64 (0 + 1) = 1 by unfold wrap64; omega]
  refine Evt.bind (short_ev ha (by omega)) (Evt.bind (plus_ev (m := 0) (n := m) Is.nil (enc_is m) (by simp) (by omega)) ?_)
  rw [Nat.zero_add]
  refine Evt.step (fun k => nat_Add.l0.eq_2 ..) (Evt.pos (by omega) (Evt.pos (by omega) (Evt.pos (by simp) ?_)))
  rw [show rd_L3 [a, b] 1 = b from rfl, show wrap64 (1 + 1) = 2 by unfold wrap64; omega]
  refine Evt.bind (short_ev hb (by omega)) (Evt.bind (plus_ev (enc_is m) (enc_is n) (by omega) (by omega)) ?_)
  refine Evt.step (fun k => nat_Add.l0.eq_2 ..) (Evt.neg (by omega) (Evt.bind (trim_ev (enc_is _) (by omega)) (Evt.now _)))
theorem digit_l0 (a : List Int) (n : Nat) (d : Nat) (ha : Is a n) (hd0 : 0 < d) (hd1 : d < 4294967296) (hl : a.length ≤ 17592186044000) : ∀ (i : Nat) (out : List Int) (r : Int),
    i ≤ a.length → Lim out → out.length = a.length → (∀ p, p < i → out.getD p 0 = 0) → 0 ≤ r → r < d → DigInv a d out r i →
    Evt (fun k => nat_digit.l0 k a d out r ((i : Int) - 1)) (enc (n / d), ((n % d : Nat) : Int)) := by
  intro i
  induction i with
  | zero =>
    intro out r hi hlim hlen hz hr0 hr1 he
    refine Evt.step (fun k => nat_digit.l0.eq_2 ..) (Evt.neg (by omega) ?_)
    have h1 := he.last
    have h2 := hlim.is
    rw [ha.2, h2.2] at h1
    generalize (ev out 4294967296).toNat = q at *
    have hn : n = q * d + r.toNat := by
      have : (q : Int) * d = ((q * d : Nat) : Int) := by rw [Int.natCast_mul]
      omega
    have hq : n / d = q := by rw [hn, Nat.mul_comm, Nat.mul_add_div hd0, Nat.div_eq_of_lt (by omega)]; rfl
    have hm : n % d = r.toNat := by rw [hn, Nat.mul_comm, Nat.mul_add_mod, Nat.mod_eq_of_lt (by omega)]
    refine Evt.bind (short_ev h2 (by omega)) (Evt.now' ?_)
    rw [hq, hm, mod_limb hr0 (by omega)]
    have : ((r.toNat : Nat) : Int) = r := by omega
    rw [this]
  | succ i ih =>
    intro out r hi hlim hlen hz hr0 hr1 he
    refine Evt.step (fun k => nat_digit.l0.eq_2 ..) ?_
    rw [show (((i + 1 : Nat) : Int) - 1) = (i : Int) by omega, wpred2 (by omega)]
    have hx := ha.1.getD i
    have hs := dig_small (d := (d : Int)) ⟨hr0, hr1⟩ hx (by omega)
    have hn := he.step (by omega) (hz i (by omega))
    rw [wu64n (i := d) (by omega)]
    refine Evt.pos (by omega) (Evt.pos (by omega) (Evt.pos (by omega) (Evt.neg (by omega) (Evt.pos (by omega) ?_))))
    rw [rd_nat, wu64 (x := r * 4294967296) (by omega) (by omega), wu64 hx.1 (by omega), or_limb (by omega) hx, Int.toNat_natCast, tdivp (by omega), tmodp (by omega), wu64 hs.1 (by omega), mod_limb hs.1 hs.2]
    exact ih _ _ (by omega) (hlim.set _ hs.1 hs.2) (by rw [List.length_set]; omega) (fun p hp => by rw [lset_ne _ _ _ _ (by omega)]; exact hz p (by omega)) (Int.emod_nonneg _ (by omega)) (Int.emod_lt_of_pos _ (by omega)) hn
theorem digit_ev {a : List Int} {n d : Nat} (ha : Is a n) (hd0 : 0 < d) (hd1 : d < 4294967296) (hl : a.length ≤ 17592186044000) : Evt (fun k => nat_digit.f k a d) (enc (n / d), ((n % d : Nat) : Int)) := by
  unfold nat_digit.f
  refine Evt.pos (by omega) (Evt.pos (by omega) ?_)
  rw [w64 (by omega) (by omega), Int.toNat_natCast]
  exact digit_l0 a n d ha hd0 hd1 hl a.length _ 0 (Nat.le_refl _) (Lim.zeros _) (by simp) (fun p _ => lzeros_getD _ _) (by omega) (by omega) (DigInv.start ..)
theorem binomial_l0 (n K : Nat) (hn : n ≤ 4096) (hK : K ≤ n) : ∀ (d i : Nat), i + d = K → Evt (fun k => nat_Binomial.l0 k n (enc (binom n i)) K i) (enc (binom n K), 0) := by
  have hlen : ∀ j, (enc (binom n j)).length ≤ 129 := fun j => enc_length_le _ (by
    exact Nat.lt_of_le_of_lt (binom_le n j) (two_pow_lt (by omega)))
  intro d
  induction d with
  | zero =>
    intro i hi
    have : i = K := by omega
    subst this
    have := hlen i
    exact Evt.step (fun k => nat_Binomial.l0.eq_2 ..) (Evt.neg (by omega) (Evt.bind (trim_ev (enc_is _) (by omega)) (Evt.now _)))
  | succ d ih =>
    intro i hi
    have h1 := hlen i
    refine Evt.step (fun k => nat_Binomial.l0.eq_2 ..) (Evt.pos (by omega) ?_)
    rw [wsub (by omega) (by omega), wsucc (by omega), mod_limb (x := ((n - i : Nat) : Int)) (by omega) (by omega), mod_limb (x := ((i + 1 : Nat) : Int)) (by omega) (by omega)]
    refine Evt.bind (times_ev (enc_is _) (n := n - i) ⟨Lim.cons (by omega) (by omega) Lim.nil, by simp⟩ (by omega) (by simp)) ?_
    have h2 : (enc (binom n i * (n - i))).length ≤ 130 := enc_length_le _ (by
      have := lt_of_enc_length h1
      rw [show (130 : Nat) = 129 + 1 by rfl, Nat.pow_succ]
      exact Nat.mul_lt_mul'' this (by omega))
    refine Evt.bind (digit_ev (enc_is _) (by omega) (by omega) (by omega)) ?_
    rw [binom_div]
    exact ih (i + 1) (by omega)
theorem binomial_ev (n k : Nat) (hn : n ≤ 4096) : Evt (fun r => nat_Binomial.f r n k) (enc (binom n k), 0) := by
  unfold nat_Binomial.f
  refine Evt.neg (by omega) ?_
  rw [decide_eq_false (by omega : ¬ (n : Int) > 4096)]
  refine Evt.step (fun k => nat_Binomial.j0.eq_2 ..) (Evt.neg (by simp) (Evt.neg (by omega) ?_))
  by_cases h : k > n
  · rw [decide_eq_true (by omega : (k : Int) > n), binom_gt _ _ h, enc_zero]
    exact Evt.step (fun k => nat_Binomial.j1.eq_2 ..) (Evt.pos rfl (Evt.now _))
  · rw [decide_eq_false (by omega : ¬ (k : Int) > n)]
    refine Evt.step (fun k => nat_Binomial.j1.eq_2 ..) (Evt.neg (by simp) ?_)
    rw [w64 (by omega) (by omega), mn_eq]
    have h1 : ([1] : List Int) = enc (binom n 0) := by rw [binom_zero, enc_pos (by omega), Nat.div_eq_of_lt (by omega), enc_zero]; rfl
    by_cases h2 : ((n : Int) - k) < k
    · rw [if_pos h2, h1, show ((n : Int) - k) = ((n - k : Nat) : Int) by omega, ← binom_symm (show k ≤ n by omega)]
      exact binomial_l0 n (n - k) hn (by omega) (n - k) 0 (by omega)
    · rw [if_neg h2, h1]
      exact binomial_l0 n k hn (by omega) k 0 (by omega)
end Go.Proofs.Ytjignpnnmfdedaa.BoundsBinaryC
/- What the printed functions of package nat compute: Bits, Pow. -/
namespace Go.Proofs.Ytjignpnnmfdedaa.BoundsBinaryC
open Go.RowKit Go.Proofs.Ytjignpnnmfdedaa.PBoundsBinary Go.Proofs.YtjignpnnmfdedaaW.PrintWords Go.Proofs.YtjignpnnmfdedaaW.PrintLast Go.Proofs.YtjignpnnmfdedaaW.PrintMore Cw
theorem len_small : ∀ i : Fin 256, bits_Len32.f ((i.val : Nat) : Int) = some ((blen i.val : Nat) : Int) := by decide +kernel
theorem len_ev (n : Nat) (h : n < 4294967296) : bits_Len32.f (n : Int) = some ((blen n : Nat) : Int) := by
  have small : ∀ x : Nat, x < 256 → bits_Len32.f (x : Int) = some ((blen x : Nat) : Int) := fun x hx => len_small ⟨x, hx⟩
  have hb : ∀ (T : ByteArray) (i : Int) (c : Int), 0 ≤ c → c ≤ 100 → wrap64 (c + wrap64 (bt T i)) = c + bt T i := by
    intro T i c h0 h1
    have := bt_range T i
    rw [w64 (x := bt T i) (by omega) (by omega), w64 (by omega) (by omega)]
  by_cases h1 : n < 256
  · exact small n h1
  by_cases h2 : n < 65536
  · have key := small (n / 256) (by omega)
    have e : blen n = 8 + blen (n / 256) := by
      have := blen_shift (lo := n % 256) (hi := n / 256) (s := 8) (by omega) (by omega)
      rwa [show n % 256 + n / 256 * 2 ^ 8 = n by omega] at this
    unfold bits_Len32.f at key ⊢
    rw [if_neg (by omega), if_neg (by omega), if_pos (by omega), if_pos (by omega), hb _ _ _ (by omega) (by omega)] at key
    rw [if_neg (by omega), if_pos (by omega), if_pos (by omega), if_pos (by omega), hb _ _ _ (by omega) (by omega), e]
    rw [Int.natCast_ediv] at key
    have k2 := Option.some.inj key
    rw [Int.zero_add] at k2
    rw [show ((256 : Nat) : Int) = 256 by rfl] at k2
    rw [k2]; congr 1
  by_cases h3 : n < 16777216
  · have key := small (n / 65536) (by omega)
    have e : blen n = 16 + blen (n / 65536) := by
      have := blen_shift (lo := n % 65536) (hi := n / 65536) (s := 16) (by omega) (by omega)
      rwa [show n % 65536 + n / 65536 * 2 ^ 16 = n by omega] at this
    unfold bits_Len32.f at key ⊢
    rw [if_neg (by omega), if_neg (by omega), if_pos (by omega), if_pos (by omega), hb _ _ _ (by omega) (by omega)] at key
    rw [if_pos (by omega), if_neg (by omega), if_pos (by omega), if_pos (by omega), hb _ _ _ (by omega) (by omega), e]
    rw [Int.natCast_ediv] at key
    have k2 := Option.some.inj key
    rw [Int.zero_add] at k2
    rw [show ((65536 : Nat) : Int) = 65536 by rfl] at k2
    rw [k2]; congr 1
  · have key := small (n / 65536 / 256) (by omega)
    have e : blen n = 24 + blen (n / 65536 / 256) := by
      have := blen_shift (lo := n % 16777216) (hi := n / 65536 / 256) (s := 24) (by omega) (by omega)
      rwa [show n % 16777216 + n / 65536 / 256 * 2 ^ 24 = n by omega] at this
    unfold bits_Len32.f at key ⊢
    rw [if_neg (by omega), if_neg (by omega), if_pos (by omega), if_pos (by omega), hb _ _ _ (by omega) (by omega)] at key
    rw [if_pos (by omega), if_pos (by omega), if_pos (by omega), if_pos (by omega), hb _ _ _ (by omega) (by omega), e]
    rw [Int.natCast_ediv, Int.natCast_ediv] at key
    have k2 := Option.some.inj key
    rw [Int.zero_add] at k2
    rw [show ((65536 : Nat) : Int) = 65536 by rfl, show ((256 : Nat) : Int) = 256 by rfl] at k2
    rw [k2]; congr 1
theorem bits_ev {xs : List Int} {m : Nat} (hx : Is xs m) (hl : xs.length ≤ 1000000000) : Evt (fun k => nat_Bits.f k xs) ((blen m : Nat) : Int) := by
  unfold nat_Bits.f
  have hle := hx.enc_length
  refine Evt.bind (short_ev hx (by omega)) ?_
  by_cases h0 : m = 0
  · refine Evt.pos (by rw [h0, enc_zero]; rfl) (Evt.now' ?_)
    rw [h0]; rfl
  · obtain ⟨top, low, h1, h2, h3, h4, h5⟩ := enc_top h0
    have hp : 0 < (enc m).length := List.length_pos_iff.2 (enc_ne h0)
    have hb := blen_shift h4 (hi := top) (by omega)
    rw [← h5] at hb
    obtain ⟨L, hL⟩ : ∃ L, (enc m).length = L + 1 := ⟨(enc m).length - 1, by omega⟩
    rw [hL, Nat.add_sub_cancel] at h1 hb
    have hbl : blen top ≤ 32 := by
      have := blen_le (n := top) (by omega)
      have h6 : 2 ^ (blen top - 1) < 2 ^ 32 := by omega
      have := (Nat.pow_lt_pow_iff_right (by omega : 1 < 2)).1 h6
      omega
    rw [hL, wpred (by omega), rd_nat, h1]
    refine Evt.neg (by omega) (Evt.pos (by omega) (Evt.pos (by omega) (Evt.bind0 (len_ev top h3) (Evt.now' ?_))))
    rw [w64 (x := 32 * (L : Int)) (by omega) (by omega), w64 (by omega) (by omega), hb]
    omega
theorem BL (L : Nat) : (4294967296 : Nat) ^ L = 2 ^ (32 * L) := by rw [Nat.pow_mul]
theorem pow_l0 : ∀ (n : Nat) (o s : Nat) (L : Nat), L = 4096 → n < 9223372036854775808 → 0 < n → 0 < s → 0 < o → o * s ^ n < 4294967296 ^ L → Evt (fun k => nat_Pow.l0 k n (enc o) (enc s)) (enc (o * s ^ n), 0) := by
  intro n
  induction n using Nat.strongRecOn with
  | ind n ih =>
    intro o s L hL hn64 hn hs ho hb
    have hsn : s ≤ s ^ n := Nat.le_self_pow (by omega) s
    have hole : o ≤ o * s ^ n := Nat.le_mul_of_pos_right _ (Nat.pow_pos hs)
    have hsle : s ≤ o * s ^ n := Nat.le_trans hsn (Nat.le_mul_of_pos_left _ (by omega))
    have lo : (enc o).length ≤ L := enc_length_le _ (by omega)
    have ls : (enc s).length ≤ L := enc_length_le _ (by omega)
    have ltot : (enc (o * s ^ n)).length ≤ L := enc_length_le _ hb
    refine Evt.step (fun k => nat_Pow.l0.eq_2 ..) ?_
    rw [and_one (by omega) (by omega)]
    have hdiv : (n : Int) / 2 = ((n / 2 : Nat) : Int) := by omega
    rw [hdiv]
    by_cases hodd : n % 2 = 1
    · refine Evt.pos (by omega) (Evt.bind (times_ev (enc_is o) (enc_is s) (by omega) (by omega)) ?_)
      by_cases h2 : n / 2 = 0
      · have h1 : n = 1 := by omega
        subst h1
        rw [Nat.pow_one] at *
        exact Evt.pos (by omega) (Evt.neg (by omega) (Evt.bind (trim_ev (enc_is _) (by omega)) (Evt.now _)))
      · refine Evt.neg (by omega) (Evt.bind (times_ev (enc_is s) (enc_is s) (by omega) (by omega)) ?_)
        have e : o * s * (s * s) ^ (n / 2) = o * s ^ n := by
          rw [← Nat.pow_two, ← Nat.pow_mul, Nat.mul_assoc, Nat.mul_comm s, ← Nat.pow_succ]
          congr 2; omega
        have := ih (n / 2) (by omega) (o * s) (s * s) L hL (by omega) (by omega) (Nat.mul_pos hs hs) (Nat.mul_pos ho hs) (by rw [e]; exact hb)
        rwa [e] at this
    · refine Evt.neg (by omega) ?_
      by_cases h2 : n / 2 = 0
      · omega
      · refine Evt.neg (by omega) (Evt.bind (times_ev (enc_is s) (enc_is s) (by omega) (by omega)) ?_)
        have e : o * (s * s) ^ (n / 2) = o * s ^ n := by
          rw [← Nat.pow_two, ← Nat.pow_mul]
          congr 2; omega
        have := ih (n / 2) (by omega) o (s * s) L hL (by omega) (by omega) (Nat.mul_pos hs hs) ho (by rw [e]; exact hb)
        rwa [e] at this
theorem one_enc : ([1] : List Int) = enc 1 := by rw [enc_pos (by omega), Nat.div_eq_of_lt (by omega), enc_zero]; rfl
theorem pow_ev {a : List Int} {m : Nat} (ha : Is a m) (hl : a.length ≤ 1000000000) (e : Nat) (L : Nat) (hL : L = 4096) (he : e < 9223372036854775808) (h : m ≤ 1 ∨ m ^ e < 4294967296 ^ L) :
    Evt (fun k => nat_Pow.f k a e) (enc (m ^ e), 0) := by
  unfold nat_Pow.f
  refine Evt.neg (by omega) (Evt.bind (bits_ev ha hl) ?_)
  by_cases h0 : e = 0
  · subst h0
    exact Evt.pos (by omega) (Evt.step (fun k => nat_Pow.j0.eq_2 ..) (Evt.pos rfl (Evt.now' (by rw [one_enc, Nat.pow_zero]))))
  refine Evt.neg (by omega) ?_
  by_cases h1 : m = 1
  · subst h1
    exact Evt.step (fun k => nat_Pow.j0.eq_2 ..) (Evt.pos rfl (Evt.now' (by rw [one_enc, Nat.one_pow])))
  have hb1 : ¬ blen m = 1 := fun h => h1 ((blen_one_iff m).1 h)
  have hf : (((blen m : Nat) : Int) == 1) = false := by
    rw [beq_eq_false_iff_ne]; omega
  rw [hf]
  refine Evt.step (fun k => nat_Pow.j0.eq_2 ..) (Evt.neg (by simp) ?_)
  by_cases h2 : m = 0
  · subst h2
    exact Evt.pos rfl (Evt.now' (by rw [Nat.zero_pow (by omega), enc_zero]))
  have hb : m ^ e < 4294967296 ^ L := by rcases h with h | h; omega; exact h
  have hb2 := hb
  rw [BL] at hb2
  have hm2 := blen_le h2
  have hmp := blen_pos h2
  have h3 : (blen m - 1) * e < 32 * L := by
    apply (Nat.pow_lt_pow_iff_right (by omega : 1 < 2)).1
    rw [Nat.pow_mul]
    exact Nat.lt_of_le_of_lt (Nat.pow_le_pow_left hm2 e) hb2
  have h4 : e < 131072 := by
    have : 1 * e ≤ (blen m - 1) * e := Nat.mul_le_mul_right _ (by omega)
    omega
  have h5 : 0 < blen m := hmp
  have hbl : blen m - 1 ≤ (blen m - 1) * e := Nat.le_mul_of_pos_right _ (by omega)
  refine Evt.neg (by omega) (Evt.neg (by omega) ?_)
  have e1 : wrap64 (wrap64 (((blen m : Nat) : Int) - 1) * (e : Int)) = (((blen m - 1) * e : Nat) : Int) := by
    rw [w64 (x := ((blen m : Nat) : Int) - 1) (by omega) (by omega), show ((blen m : Nat) : Int) - 1 = ((blen m - 1 : Nat) : Int) by omega, ← Int.natCast_mul, w64 (by omega) (by omega)]
  rw [e1]
  clear e1
  refine Evt.neg (by omega) (Evt.bind (short_ev ha (by omega)) ?_)
  rw [one_enc]
  have := pow_l0 e 1 m L hL he (by omega) (by omega) (by omega) (by rw [Nat.one_mul]; exact hb)
  rwa [Nat.one_mul] at this
end Go.Proofs.Ytjignpnnmfdedaa.BoundsBinaryC
/- What the printed functions whole, power, choose and volume of bounds compute. -/
namespace Go.Proofs.Ytjignpnnmfdedaa.BoundsBinaryC
open Go.RowKit Go.Proofs.Ytjignpnnmfdedaa.PBoundsBinary Go.Proofs.YtjignpnnmfdedaaW.PrintWords Go.Proofs.YtjignpnnmfdedaaW.PrintLast Go.Proofs.YtjignpnnmfdedaaW.PrintMore Cw
theorem whole_ev (n : Nat) (h : n < 9223372036854775808) : Evt (fun k => bounds_whole.f k n) (enc n) := by
  unfold bounds_whole.f
  rw [wu64n (by omega)]
  exact Evt.bind (of_ev n (by omega)) (Evt.now _)
theorem power_ev (m e a : Nat) (ha : a < 131072) (hm : m < 9223372036854775808) (he : e < 9223372036854775808) (h : m ^ e ≤ P2 a) : Evt (fun k => bounds_power.f k m e) (enc (m ^ e)) := by
  unfold bounds_power.f
  have : (enc m).length ≤ 2 := enc_length_le _ (by omega)
  obtain ⟨L, hL⟩ : ∃ L, L = 4096 := ⟨_, rfl⟩
  exact Evt.bind (whole_ev m hm) (Evt.bind (pow_ev (enc_is m) (by omega) e L hL he (.inr (P2_lt h (by omega)))) (Evt.now _))
theorem choose_ev (n k : Nat) (hn : n ≤ 4096) : Evt (fun r => bounds_choose.f r n k) (enc (binom n k)) := by
  unfold bounds_choose.f
  exact Evt.bind (binomial_ev n k hn) (Evt.now _)
theorem volume_l0 (q n r : Nat) (hq : 1 ≤ q) (hq2 : q ≤ 256) (hn : n ≤ 64) (hr : r ≤ 65) : ∀ (d i : Nat), i + d = r → Evt (fun k => bounds_volume.l0 k q n ((r : Int) - 1) (enc (psum (q - 1) n i)) i) (enc (psum (q - 1) n r)) := by
  intro d
  induction d with
  | zero =>
    intro i hi
    have : i = r := by omega
    subst this
    exact Evt.step (fun k => bounds_volume.l0.eq_2 ..) (Evt.neg (by omega) (Evt.now _))
  | succ d ih =>
    intro i hi
    refine Evt.step (fun k => bounds_volume.l0.eq_2 ..) (Evt.pos (by omega) ?_)
    rw [wsucc (by omega), show wrap64 ((q : Int) - 1) = ((q - 1 : Nat) : Int) by rw [w64 (by omega) (by omega)]; omega]
    refine Evt.bind (choose_ev n i (by omega)) (Evt.bind (power_ev (q - 1) i 520 (by omega) (by omega) (by omega) (pow_small (by omega) (by omega))) ?_)
    have l1 := P2_len (L := 1001) (binom_small hn i) (by omega)
    have l2 := P2_len (L := 1001) (pow_small (m := q - 1) (i := i) (by omega) (by omega)) (by omega)
    have l3 := P2_len (L := 1001) (term_small (m := q - 1) (n := n) (i := i) (by omega) hn (by omega)) (by omega)
    have l4 := psum_len (m := q - 1) (n := n) (i := i) (by omega) hn (by omega)
    refine Evt.bind (mul2_ev (enc_is _) (enc_is _) (by omega) (by omega)) (Evt.bind (add2_ev (enc_is _) (enc_is _) (by omega) (by omega)) ?_)
    exact ih (i + 1) (by omega)
/-- the number of words in a ball of radius r - 1 -/
theorem volume_ev (q n r : Nat) (hq : 1 ≤ q) (hq2 : q ≤ 256) (hn : n ≤ 64) (hr : r ≤ 65) : Evt (fun k => bounds_volume.f k q n ((r : Int) - 1)) (enc (psum (q - 1) n r)) := by
  have := volume_l0 q n r hq hq2 hn hr r 0 (by omega)
  rw [psum, enc_zero] at this
  exact this
end Go.Proofs.Ytjignpnnmfdedaa.BoundsBinaryC
/- What the printed functions of package nat compute: step (Knuth's algorithm D). -/
namespace Go.Proofs.Ytjignpnnmfdedaa.BoundsBinaryC
open Go.RowKit Go.Proofs.Ytjignpnnmfdedaa.PBoundsBinary Go.Proofs.YtjignpnnmfdedaaW.PrintWords Go.Proofs.YtjignpnnmfdedaaW.PrintLast Go.Proofs.YtjignpnnmfdedaaW.PrintMore Cw
theorem wu64p {e : Int} (h0 : 1 ≤ e) (h1 : e < 18446744073709551616) : IntKind.u64.wrap (e - 1) = e - 1 := wu64 (by omega) (by omega)
/-- the estimate of the digit: whatever is told of each e' from q to q + 1 is told of the loop -/
theorem est_l0 (u v : List Int) (K : Nat) (P vl ul q : Int) (X : Int × List Int) (hu : Lim u) (hv : Lim v) (hK : 2 ≤ K) (hvl : v.length = K) (hul : u.length = K + 1) (hKb : K ≤ 1000000000)
    (kn : KN 4294967296 P (v.getD (K - 1) 0) (v.getD (K - 2) 0) vl (u.getD K 0 * 4294967296 + u.getD (K - 1) 0) (u.getD (K - 2) 0) ul q)
    (H : ∀ e : Int, q ≤ e → e ≤ q + 1 → e < 4294967296 → Evt (fun k => nat_step.j1 k u v K e) X) : ∀ (d : Nat) (e r : Int), 4294967296 - r ≤ d → 0 ≤ r → r < 8589934592 → q ≤ e → e ≤ 8589934592 →
    e * v.getD (K - 1) 0 + r = u.getD K 0 * 4294967296 + u.getD (K - 1) 0 → Evt (fun k => nat_step.l0 k u v K e r) X := by
  have hv1 := hv.getD (K - 1)
  have hv2 := hv.getD (K - 2)
  have hu0 := hu.getD K
  have hu1 := hu.getD (K - 1)
  have hu2 := hu.getD (K - 2)
  have hq0 := kn.q0
  have hq1 := kn.q1
  have hv1p := kn.hv1
  have done : ∀ e r : Int, 0 ≤ r → q ≤ e → e < 4294967296 → e * v.getD (K - 1) 0 + r = u.getD K 0 * 4294967296 + u.getD (K - 1) 0 → e * v.getD (K - 2) 0 ≤ r * 4294967296 + u.getD (K - 2) 0 → Evt (fun k => nat_step.j1 k u v K e) X :=
    fun e r hr hq he heq hle => H e hq (kn.stop (by omega) he heq hle) he
  -- once r has grown past the base, e is a digit
  have big : ∀ e r : Int, 4294967296 ≤ r → q ≤ e → e * v.getD (K - 1) 0 + r = u.getD K 0 * 4294967296 + u.getD (K - 1) 0 → Evt (fun k => nat_step.j1 k u v K e) X := by
    intro e r hr hq heq
    have htop : u.getD K 0 * 4294967296 + u.getD (K - 1) 0 < (v.getD (K - 1) 0 + 1) * 4294967296 := kn.top_lt
    have he : e < 4294967296 := by
      have : e * v.getD (K - 1) 0 < 4294967296 * v.getD (K - 1) 0 := by
        rw [Int.add_mul, Int.one_mul] at htop
        rw [Int.mul_comm 4294967296]
        omega
      exact Int.lt_of_mul_lt_mul_right this (by omega)
    refine done e r (by omega) hq he heq ?_
    have h1 : e * v.getD (K - 2) 0 ≤ 4294967295 * v.getD (K - 2) 0 := Int.mul_le_mul_of_nonneg_right (by omega) hv2.1
    omega
  intro d
  induction d with
  | zero =>
    intro e r hd hr hr2 hq he heq
    exact Evt.step (fun k => nat_step.l0.eq_2 ..) (Evt.neg (by omega) (big e r (by omega) hq heq))
  | succ d ih =>
    intro e r hd hr hr2 hq he heq
    refine Evt.step (fun k => nat_step.l0.eq_2 ..) ?_
    by_cases hb : r < 4294967296
    · refine Evt.pos hb ?_
      have hnext : (e - 1) * v.getD (K - 1) 0 + (r + v.getD (K - 1) 0) = u.getD K 0 * 4294967296 + u.getD (K - 1) 0 := by
        rw [Int.sub_mul, Int.one_mul]; omega
      have e1 : wrap64 ((K : Int) - 1) = ((K - 1 : Nat) : Int) := by rw [w64 (by omega) (by omega)]; omega
      have e2 : wrap64 ((K : Int) - 2) = ((K - 2 : Nat) : Int) := by rw [w64 (by omega) (by omega)]; omega
      rw [e1, e2, rd_nat, rd_nat, rd_nat, wu64 hv1.1 (by omega), wu64 hv2.1 (by omega), wu64 hu2.1 (by omega)]
      clear e1 e2
      by_cases hbig : e ≥ 4294967296
      · refine Evt.pos hbig (Evt.pos (by omega) (Evt.pos (by omega) ?_))
        rw [wu64p (by omega) (by omega), wu64 (by omega) (by omega)]
        exact ih (e - 1) _ (by omega) (by omega) (by omega) (by omega) (by omega) hnext
      · refine Evt.neg hbig (Evt.pos (by omega) (Evt.pos (by omega) (Evt.pos (by omega) ?_)))
        have hm := mul_lim (a := e) (b := v.getD (K - 2) 0) (by omega) hv2
        rw [wu64 hm.1 (by omega), wu64 (x := r * 4294967296) (by omega) (by omega), or_limb (by omega) hu2]
        by_cases hdn : e * v.getD (K - 2) 0 > r * 4294967296 + u.getD (K - 2) 0
        · have hqe := kn.down heq hdn
          refine Evt.pos hdn (Evt.pos (by omega) (Evt.pos (by omega) ?_))
          rw [wu64p (by omega) (by omega), wu64 (by omega) (by omega)]
          exact ih (e - 1) _ (by omega) (by omega) (by omega) hqe (by omega) hnext
        · exact Evt.neg hdn (done e r hr hq (by omega) heq (by omega))
    · exact Evt.neg hb (big e r (by omega) hq heq)
/-- a digit with a borrow, in 64 bits -/
theorem sub_digit {x p b z : Int} (hx : 0 ≤ x ∧ x < 4294967296) (hp : 0 ≤ p ∧ p < 4294967296) (hb : 0 ≤ b ∧ b ≤ 1) (hz : z = ((x - p) % 18446744073709551616 - b) % 18446744073709551616) :
    z % 4294967296 = x - p - b + z / 9223372036854775808 * 4294967296 ∧ 0 ≤ z / 9223372036854775808 ∧ z / 9223372036854775808 ≤ 1 ∧ (z / 9223372036854775808 = 0 ↔ 0 ≤ x - p - b) := by omega
theorem l2_ev (w0 v : List Int) (K : Nat) (e : Int) (n : Nat) (hv : Lim v) (hvl : v.length = K) (hKb : K ≤ 1000000000) (hw0 : w0.length = K + 1) (he : 1 ≤ e ∧ e < 4294967296)
    (hn : ∀ w : List Int, Lim w → w.length = K + 1 → (∃ t : Int, ev w 4294967296 = ev w0 4294967296 + ev v 4294967296 - t * 4294967296 ^ (K + 1)) → w = lims (K + 1) n) : ∀ (d i : Nat) (w : List Int) (c : Int),
    i + d = K → Lim w → w.length = K + 1 → 0 ≤ c → c ≤ 1 → AddInv w0 v w c i → Evt (fun k => nat_step.l2 k w v K e c (v.length : Int) i) (e - 1, lims (K + 1) n) := by
  intro d
  induction d with
  | zero =>
    intro i w c hi hw hl hc0 hc1 h
    have hiK : i = K := by omega
    subst hiK
    refine Evt.step (fun k => nat_step.l2.eq_2 ..) (Evt.neg (by omega) (Evt.pos (by omega) (Evt.pos (by omega) (Evt.now' ?_))))
    have hx := hw.getD i
    have e1 := h.2 i (Nat.le_refl _)
    rw [rd_nat, mod_limb (x := c) (by omega) (by omega), Int.toNat_natCast, wu64p he.1 (by omega), mod_limb (x := e - 1) (by omega) (by omega)]
    congr 1
    refine hn _ (hw.set _ (by omega) (by omega)) (by rw [List.length_set]; exact hl) ⟨(w.getD i 0 + c) / 4294967296, ?_⟩
    refine h.last hvl (by omega) ?_
    rw [← e1]
    have := Int.emod_add_mul_ediv (w.getD i 0 + c) 4294967296
    omega
  | succ d ih =>
    intro i w c hi hw hl hc0 hc1 h
    refine Evt.step (fun k => nat_step.l2.eq_2 ..) (Evt.pos (by omega) (Evt.pos (by omega) (Evt.pos (by omega) (Evt.pos (by omega) ?_))))
    have hx := hw.getD i
    have hy := hv.getD i
    have hs := h.step (by omega)
    rw [← h.2 i (Nat.le_refl _)] at hs
    rw [rd_nat, rd_nat, wsucc (by omega), Int.toNat_natCast, wu64 hx.1 (by omega), wu64 hy.1 (by omega), wu64 (x := w.getD i 0 + v.getD i 0) (by omega) (by omega), wu64 (x := w.getD i 0 + v.getD i 0 + c) (by omega) (by omega)]
    exact ih (i + 1) _ _ (by omega) (hw.set _ (by omega) (by omega)) (by rw [List.length_set]; exact hl) (by omega) (by omega) hs
theorem l1_ev (u v : List Int) (K : Nat) (e : Int) (U V : Nat) (hu : Is u U) (hv : Is v V) (hvl : v.length = K) (hul : u.length = K + 1) (hKb : K ≤ 1000000000) (he0 : 0 ≤ e) (heB : e < 4294967296)
    (hV : 0 < V) (heq : e = ((U / V : Nat) : Int) ∨ e = ((U / V : Nat) : Int) + 1) : ∀ (d i : Nat) (w : List Int) (c b : Int),
    i + d = K → Lim w → w.length = K + 1 → 0 ≤ c → c < 4294967296 → 0 ≤ b → b ≤ 1 → SubInv u v w e c b i →
    Evt (fun k => nat_step.l1 k w v K e b c (v.length : Int) i) (((U / V : Nat) : Int), lims (K + 1) (U % V)) := by
  have hVlt : V < 4294967296 ^ (K + 1) := by
    have := hv.lt
    rw [hvl] at this
    exact Nat.lt_of_lt_of_le this (Nat.pow_le_pow_right (by omega) (by omega))
  have hmod : U % V < 4294967296 ^ (K + 1) := Nat.lt_of_lt_of_le (Nat.mod_lt _ hV) (Nat.le_of_lt hVlt)
  have hdm : (U : Int) = ((U / V : Nat) : Int) * (V : Int) + ((U % V : Nat) : Int) := by
    rw [← Int.natCast_mul, ← Int.natCast_add, Int.ofNat_inj, Nat.mul_comm]; exact (Nat.div_add_mod U V).symm
  have hml := Nat.mod_lt U hV
  have hBK : (0 : Int) < 4294967296 ^ (K + 1) := Int.pow_pos (by omega)
  intro d
  induction d with
  | zero =>
    intro i w c b hi hw hl hc0 hc1 hb0 hb1 h
    have hiK : i = K := by omega
    subst hiK
    refine Evt.step (fun k => nat_step.l1.eq_2 ..) (Evt.neg (by omega) (Evt.pos (by omega) (Evt.pos (by omega) ?_)))
    have hx := hw.getD i
    rw [rd_nat, wu64 hx.1 (by omega), wu64_mod (w.getD i 0 - c), wu64_mod, Int.toNat_natCast]
    obtain ⟨z, hz⟩ : ∃ z, z = ((w.getD i 0 - c) % 18446744073709551616 - b) % 18446744073709551616 := ⟨_, rfl⟩
    rw [← hz]
    have hsd := sub_digit hx ⟨hc0, hc1⟩ ⟨hb0, hb1⟩ hz
    have hlim : Lim (w.set i (z % 4294967296)) := hw.set _ (by omega) (by omega)
    have hll : (w.set i (z % 4294967296)).length = i + 1 := by rw [List.length_set]; exact hl
    have hval := h.last (d := z % 4294967296) (t := z / 9223372036854775808) hvl (by omega) (by rw [← h.2 i (Nat.le_refl _)]; exact hsd.1)
    rw [hu.2, hv.2] at hval
    have hnn := hlim.nonneg
    have hlt := hlim.lt
    rw [hll] at hlt
    have hR0 : (0 : Int) ≤ ((U % V : Nat) : Int) := Int.natCast_nonneg _
    have hRV : ((U % V : Nat) : Int) < (V : Int) := Int.ofNat_lt.2 hml
    have hRP : ((U % V : Nat) : Int) < 4294967296 ^ (i + 1) := by
      have := Int.ofNat_lt.2 hmod
      rwa [Int.natCast_pow] at this
    have hq0 : (0 : Int) ≤ ((U / V : Nat) : Int) := Int.natCast_nonneg _
    refine Evt.bind (Evt.now _) ?_
    by_cases ht : z / 9223372036854775808 = 0
    · rw [ht, Int.zero_mul, Int.add_zero] at hval
      obtain ⟨he, hD⟩ := fin0 hdm hRV hval hnn heq
      refine Evt.pos ht (Evt.now' ?_)
      rw [mod_limb he0 heB, he]
      congr 1
      have := eq_lims (n := U % V) ⟨hlim, hD⟩
      rw [hll] at this
      exact this
    · have ht1 : z / 9223372036854775808 = 1 := by
        have a1 := hsd.2.1
        have a2 := hsd.2.2.1
        clear hsd hz hval hnn hlt hdm heq
        omega
      rw [ht1, Int.one_mul] at hval
      obtain ⟨he, hD⟩ := fin1 hdm hR0 hval hlt heq
      have hl2 := l2_ev (w.set i (z % 4294967296)) v i e (U % V) hv.1 hvl hKb hll ⟨by omega, heB⟩ (fun w' hw' hl' ⟨t, ht'⟩ => by
        rw [hv.2] at ht'
        have n1 := hw'.nonneg
        have n2 := hw'.lt
        rw [hl'] at n2
        have := eq_lims (n := U % V) ⟨hw', fin2 ht' hD n1 n2 hR0 hRP⟩
        rw [hl'] at this
        exact this) i 0 (w.set i (z % 4294967296)) 0 (by omega) hlim hll (by omega) (by omega) (AddInv.start ..)
      rw [show e - 1 = ((U / V : Nat) : Int) by omega] at hl2
      exact Evt.neg ht hl2
  | succ d ih =>
    intro i w c b hi hw hl hc0 hc1 hb0 hb1 h
    refine Evt.step (fun k => nat_step.l1.eq_2 ..) (Evt.pos (by omega) (Evt.pos (by omega) (Evt.pos (by omega) (Evt.pos (by omega) ?_))))
    have hx := hw.getD i
    have hy := hv.1.getD i
    have hm := mul_lim (a := e) (b := v.getD i 0) ⟨he0, heB⟩ hy
    rw [rd_nat, rd_nat, wsucc (by omega), Int.toNat_natCast, wu64 hy.1 (by omega), wu64 hm.1 (by omega), wu64 (x := e * v.getD i 0 + c) (by omega) (by omega), wu64 hx.1 (by omega), wu64_mod (w.getD i 0 - (e * v.getD i 0 + c) % 4294967296), wu64_mod]
    obtain ⟨p, hp⟩ : ∃ p, p = e * v.getD i 0 + c := ⟨_, rfl⟩
    have hs := fun d' b' hd => h.step (d := d') (b' := b') (by omega) hd
    rw [← h.2 i (Nat.le_refl _), ← hp] at hs
    rw [← hp]
    obtain ⟨z, hz⟩ : ∃ z, z = ((w.getD i 0 - p % 4294967296) % 18446744073709551616 - b) % 18446744073709551616 := ⟨_, rfl⟩
    rw [← hz]
    have hsd := sub_digit hx (p := p % 4294967296) (by omega) ⟨hb0, hb1⟩ hz
    have hs' := hs _ _ hsd.1
    have hp2 : p ≤ 18446744069414584320 := by omega
    clear hz hs
    exact ih (i + 1) _ _ _ (by omega) (hw.set _ (by omega) (by omega)) (by rw [List.length_set]; exact hl) (by omega) (by omega) (by omega) (by omega) hs'
/-- step: one digit of the quotient, and the rest in place -/
theorem step_ev (u v : List Int) (L U V : Nat) (hu : Is u U) (hv : Is v V) (hul : u.length = L + 3) (hvl : v.length = L + 2) (ht : 1 ≤ v.getD (L + 1) 0) (hV : 0 < V) (hlt : U < V * 4294967296) (hL : L ≤ 900000000) :
    Evt (fun k => nat_step.f k u v) (((U / V : Nat) : Int), lims (L + 3) (U % V)) := by
  have kn := kn_of hu hv hul hvl ht hV hlt
  have hv1 := hv.1.getD (L + 1)
  have hu0 := hu.1.getD (L + 2)
  have hu1 := hu.1.getD (L + 1)
  have htl := kn.top_lt
  have hks := kn.start
  unfold nat_step.f
  refine Evt.pos (by omega) (Evt.pos (by omega) ?_)
  rw [show (v.length : Int) = ((L + 2 : Nat) : Int) by rw [hvl], wpred (i := L + 1) (by omega), rd_nat, rd_nat, rd_nat]
  refine Evt.pos (by omega) (Evt.pos (by omega) (Evt.pos (by omega) ?_))
  rw [wu64 hv1.1 (by omega), wu64 hu0.1 (by omega), wu64 hu1.1 (by omega), wu64 (x := u.getD (L + 2) 0 * 4294967296) (by omega) (by omega), or_limb (by omega) hu1, tdivp (by omega), tmodp (by omega)]
  refine Evt.neg (by omega) ?_
  have hdm := Int.emod_add_mul_ediv (u.getD (L + 2) 0 * 4294967296 + u.getD (L + 1) 0) (v.getD (L + 1) 0)
  rw [Int.mul_comm (v.getD (L + 1) 0)] at hdm
  have hr0 := Int.emod_nonneg (u.getD (L + 2) 0 * 4294967296 + u.getD (L + 1) 0) (show v.getD (L + 1) 0 ≠ 0 by omega)
  have hr1 := Int.emod_lt_of_pos (u.getD (L + 2) 0 * 4294967296 + u.getD (L + 1) 0) (show 0 < v.getD (L + 1) 0 by omega)
  have he : (u.getD (L + 2) 0 * 4294967296 + u.getD (L + 1) 0) / v.getD (L + 1) 0 ≤ 8589934592 := by
    apply Int.le_of_lt
    apply Int.ediv_lt_of_lt_mul (by omega)
    rw [Int.add_mul, Int.one_mul] at htl
    omega
  have he0 : 0 ≤ (u.getD (L + 2) 0 * 4294967296 + u.getD (L + 1) 0) / v.getD (L + 1) 0 := Int.ediv_nonneg (by omega) (by omega)
  rw [wu64 (x := (u.getD (L + 2) 0 * 4294967296 + u.getD (L + 1) 0) / v.getD (L + 1) 0) he0 (by omega)]
  refine est_l0 u v (L + 2) _ _ _ _ _ hu.1 hv.1 (by omega) hvl hul (by omega) kn ?_ 4294967296 _ _ (by omega) hr0 (by omega) hks he (by
    show _ * v.getD (L + 1) 0 + _ = u.getD (L + 2) 0 * 4294967296 + u.getD (L + 1) 0
    omega)
  intro e hq1 hq2 heB
  refine Evt.step (fun k => nat_step.j1.eq_2 ..) ?_
  have hq0 := kn.q0
  exact l1_ev u v (L + 2) e U V hu hv hvl hul (by omega) (by omega) heB hV (by omega) (L + 2) 0 u 0 0 (by omega) hu.1 hul (by omega) (by omega) (by omega) (by omega) (SubInv.start u v e)
end Go.Proofs.Ytjignpnnmfdedaa.BoundsBinaryC
/- What the printed functions of package nat compute: shift, long, DivMod. -/
namespace Go.Proofs.Ytjignpnnmfdedaa.BoundsBinaryC
open Go.RowKit Go.Proofs.Ytjignpnnmfdedaa.PBoundsBinary Go.Proofs.YtjignpnnmfdedaaW.PrintWords Go.Proofs.YtjignpnnmfdedaaW.PrintLast Go.Proofs.YtjignpnnmfdedaaW.PrintMore Cw
theorem two_pow_31 {s : Nat} (hs : s ≤ 31) : (1 : Int) ≤ 2 ^ s ∧ (2 : Int) ^ s ≤ 2147483648 := by
  have h : 2 ^ s ≤ 2 ^ 31 := Nat.pow_le_pow_right (by omega) hs
  have h0 := Int.ofNat_le.2 h
  have e : ((2 ^ s : Nat) : Int) = (2 : Int) ^ s := by rw [Int.natCast_pow]; rfl
  rw [e] at h0
  exact ⟨Int.pow_pos (by omega), h0⟩
theorem shl_or {x c : Int} {s : Nat} (hs : s ≤ 31) (hx : 0 ≤ x ∧ x < 4294967296) (hc : 0 ≤ c ∧ c < 2 ^ s) : Go.bits .or .u64 (shl .u64 x s) c = x * 2 ^ s + c := by
  have hM : (1 : Int) ≤ 2 ^ s ∧ (2 : Int) ^ s ≤ 2147483648 := two_pow_31 hs
  have h := sh_carry hx hM hc
  have e : shl .u64 x s = x * 2 ^ s := by
    unfold shl
    rw [Int.toNat_natCast, Nat.min_eq_left (by show s ≤ 64; omega)]
    exact wu64 h.1 (by omega)
  rw [e]
  exact bits_join .u64 64 (by decide) wraps_u64 s (x * 2 ^ s) c h.1 (Int.mul_emod_left ..) (by omega) hc.1 hc.2 (by omega)
theorem shift_l0 (a : List Int) (n s : Nat) (ha : Is a n) (hs : s ≤ 31) (hl : a.length ≤ 1000000000) : ∀ (d i : Nat) (out : List Int) (c : Int),
    i + d = a.length → Lim out → out.length = a.length + 1 → (∀ j, i ≤ j → out.getD j 0 = 0) → 0 ≤ c → c < 2 ^ s → ShInv a out (2 ^ s) c i →
    Evt (fun k => nat_shift.l0 k a s out c a (a.length : Int) (i : Int)) (lims (a.length + 1) (n * 2 ^ s)) := by
  have hM : (1 : Int) ≤ 2 ^ s ∧ (2 : Int) ^ s ≤ 2147483648 := two_pow_31 hs
  intro d
  induction d with
  | zero =>
    intro i out c hi hlim hlen hz hc0 hc1 he
    have h1 : i = a.length := by omega
    subst h1
    refine Evt.step (fun k => nat_shift.l0.eq_2 ..) (Evt.neg (by omega) (Evt.pos (by omega) (Evt.pos (by omega) (Evt.now' ?_))))
    rw [Int.toNat_natCast, mod_limb hc0 (by omega)]
    have hv := he.last (Nat.le_refl _) (by omega) (hz _ (Nat.le_refl _))
    rw [ha.2] at hv
    have := eq_lims (n := n * 2 ^ s) (xs := out.set a.length c) ⟨hlim.set _ hc0 (by omega), by rw [hv, Int.natCast_mul, Int.natCast_pow, Int.mul_comm]; rfl⟩
    rw [List.length_set, hlen] at this
    exact this
  | succ d ih =>
    intro i out c hi hlim hlen hz hc0 hc1 he
    refine Evt.step (fun k => nat_shift.l0.eq_2 ..) (Evt.pos (by omega) (Evt.pos (by omega) (Evt.pos (by omega) (Evt.pos (by omega) (Evt.pos (by omega) ?_)))))
    have hai := ha.1.getD i
    have hn := he.step (by omega) (hz i (Nat.le_refl _))
    have hcc := sh_carry hai hM ⟨hc0, hc1⟩
    rw [wsucc (by omega), rd_nat, Int.toNat_natCast, wu64 hai.1 (by omega), shl_or hs hai ⟨hc0, hc1⟩]
    exact ih (i + 1) _ _ (by omega) (hlim.set _ (by omega) (by omega)) (by rw [List.length_set]; omega) (fun j hj => by rw [lset_ne _ _ _ _ (by omega)]; exact hz j (by omega)) hcc.2.2.1 hcc.2.2.2 hn
theorem shift_ev (a : List Int) (n s : Nat) (ha : Is a n) (hs : s ≤ 31) (hl : a.length ≤ 1000000000) : Evt (fun k => nat_shift.f k a s) (lims (a.length + 1) (n * 2 ^ s)) := by
  unfold nat_shift.f
  rw [wsucc (by omega)]
  refine Evt.pos (by omega) (Evt.pos (by omega) ?_)
  rw [Int.toNat_natCast]
  exact shift_l0 a n s ha hs hl a.length 0 _ 0 (by omega) (Lim.zeros _) (by simp) (fun j _ => lzeros_getD _ _) (by omega) (Int.pow_pos (by omega)) (ShInv.start ..)
theorem lz_ev (n : Nat) (h : n < 4294967296) : bits_LeadingZeros32.f (n : Int) = some ((32 - blen n : Nat) : Int) := by
  have hb := blen_le_32 h
  unfold bits_LeadingZeros32.f
  rw [len_ev n h, Option.bind_some, show (32 : Int) = ((32 : Nat) : Int) from rfl, wsub (by omega) hb]
theorem or_comm_u64 (x y : Int) : Go.bits .or .u64 x y = Go.bits .or .u64 y x := by
  unfold Go.bits
  dsimp only
  rw [BitVec.or_comm]
end Go.Proofs.Ytjignpnnmfdedaa.BoundsBinaryC
/- What the printed function Cmp of nat computes. -/
namespace Go.Proofs.Ytjignpnnmfdedaa.BoundsBinaryC
open Go.RowKit Go.Proofs.Ytjignpnnmfdedaa.PBoundsBinary Go.Proofs.YtjignpnnmfdedaaW.PrintWords Go.Proofs.YtjignpnnmfdedaaW.PrintLast Go.Proofs.YtjignpnnmfdedaaW.PrintMore Cw
theorem cmp_l0 (a b : List Int) (m n : Nat) (ha : Is a m) (hb : Is b n) (hab : a.length = b.length) (hl : a.length ≤ 1000000000) : ∀ i : Nat, i ≤ a.length → TopEq a b i →
    Evt (fun k => nat_Cmp.l0 k a b ((i : Int) - 1)) (cmpN m n) := by
  intro i
  induction i with
  | zero =>
    intro _ h
    have e := h.zero
    rw [ha.2, hb.2] at e
    have : m = n := by omega
    subst this
    rw [cmpN_eq]
    exact Evt.step (fun k => nat_Cmp.l0.eq_2 ..) (Evt.neg (by omega) (Evt.now _))
  | succ i ih =>
    intro hi h
    refine Evt.step (fun k => nat_Cmp.l0.eq_2 ..) ?_
    rw [show (((i + 1 : Nat) : Int) - 1) = (i : Int) by omega, wpred2 (by omega)]
    refine Evt.pos (by omega) (Evt.pos (by omega) (Evt.pos (by omega) (Evt.pos (by omega) ?_)))
    rw [rd_nat, rd_nat]
    by_cases h1 : a.getD i 0 < b.getD i 0
    · have e := h.lt ha.1 hb.1 h1
      rw [ha.2, hb.2] at e
      exact Evt.pos h1 (Evt.now' (cmpN_lt (by omega)).symm)
    by_cases h2 : a.getD i 0 > b.getD i 0
    · have e := h.symm.lt hb.1 ha.1 h2
      rw [ha.2, hb.2] at e
      exact Evt.neg h1 (Evt.pos h2 (Evt.now' (cmpN_gt (by omega)).symm))
    · exact Evt.neg h1 (Evt.neg h2 (ih (by omega) (h.step (by omega))))
theorem cmp_ev {a b : List Int} {m n : Nat} (ha : Is a m) (hb : Is b n) (hla : a.length ≤ 1000000000) (hlb : b.length ≤ 1000000000) : Evt (fun k => nat_Cmp.f k a b) (cmpN m n) := by
  unfold nat_Cmp.f
  have h1 := ha.enc_length
  have h2 := hb.enc_length
  refine Evt.bind (short_ev ha (by omega)) (Evt.bind (short_ev hb (by omega)) ?_)
  by_cases h : (enc m).length = (enc n).length
  · rw [wpred2 (by omega)]
    exact Evt.pos (by omega) (cmp_l0 _ _ m n (enc_is m) (enc_is n) h (by omega) _ (Nat.le_refl _) (TopEq.start (by omega) (by omega)))
  · refine Evt.neg (by omega) ?_
    by_cases h3 : (enc m).length < (enc n).length
    · exact Evt.pos (by omega) (Evt.now' (cmpN_lt (enc_length_mono h3)).symm)
    · exact Evt.neg (by omega) (Evt.now' (cmpN_gt (enc_length_mono (by omega))).symm)
end Go.Proofs.Ytjignpnnmfdedaa.BoundsBinaryC
/- What the printed functions of package nat compute: long, DivMod. -/
namespace Go.Proofs.Ytjignpnnmfdedaa.BoundsBinaryC
open Go.RowKit Go.Proofs.Ytjignpnnmfdedaa.PBoundsBinary Go.Proofs.YtjignpnnmfdedaaW.PrintWords Go.Proofs.YtjignpnnmfdedaaW.PrintLast Go.Proofs.YtjignpnnmfdedaaW.PrintMore Cw
/-- one limb of the rest, shifted back -/
theorem back_one (x : List Int) (m s i : Nat) (hx : Is x m) (hs : s ≤ 31) (hi : i + 1 < x.length) :
    shr .u64 (Go.bits .or .u64 (x.getD i 0) (x.getD (i + 1) 0 * 4294967296)) (s : Int) % 4294967296 = ((m / 2 ^ s / 4294967296 ^ i % 4294967296 : Nat) : Int) := by
  have e1 : x.getD i 0 = ((m / 4294967296 ^ i % 4294967296 : Nat) : Int) := by
    rw [eq_lims hx, lims_getD _ _ _ (by omega)]
  have e2 : x.getD (i + 1) 0 = ((m / 4294967296 ^ (i + 1) % 4294967296 : Nat) : Int) := by
    rw [eq_lims hx, lims_getD _ _ _ (by omega)]
  rw [or_comm_u64, or_limb (hx.1.getD _) (hx.1.getD _), e1, e2]
  have e3 : m / 4294967296 ^ (i + 1) = m / 4294967296 ^ i / 4294967296 := by rw [Nat.pow_succ, Nat.div_div_eq_div_mul]
  have e4 : m / 2 ^ s / 4294967296 ^ i = m / 4294967296 ^ i / 2 ^ s := by rw [Nat.div_div_eq_div_mul, Nat.div_div_eq_div_mul, Nat.mul_comm]
  rw [e3, e4, ← back_limb _ _ hs]
  generalize m / 4294967296 ^ i = M
  have e5 : shr .u64 (((M / 4294967296 % 4294967296 : Nat) : Int) * 4294967296 + ((M % 4294967296 : Nat) : Int)) (s : Int) = (((M % 4294967296 + M / 4294967296 % 4294967296 * 4294967296) / 2 ^ s : Nat) : Int) := by
    unfold shr
    rw [Int.toNat_natCast, Nat.min_eq_left (by show s ≤ 64; omega), Int.natCast_ediv, Int.natCast_pow, Int.natCast_add, Int.natCast_mul, Int.add_comm]
    rfl
  rw [e5, Int.natCast_emod]
  rfl
theorem long_l1 (x4 x8 : List Int) (m s K : Nat) (hx : Is x8 m) (hs : s ≤ 31) (hK : K + 1 ≤ x8.length) (hl : x8.length ≤ 1000000000) : ∀ (d i : Nat) (out : List Int),
    i + d = K → out.length = K → (∀ j, j < i → out.getD j 0 = (lims K (m / 2 ^ s)).getD j 0) →
    Evt (fun k => nat_long.l1 k x4 out s x8 K i) (x4, lims K (m / 2 ^ s)) := by
  intro d
  induction d with
  | zero =>
    intro i out hi hlen h
    have : out = lims K (m / 2 ^ s) := ext_getD (by rw [lims_length]; exact hlen) (fun j hj => h j (by omega))
    exact Evt.step (fun k => nat_long.l1.eq_2 ..) (Evt.neg (by omega) (Evt.now' (by rw [this])))
  | succ d ih =>
    intro i out hi hlen h
    have hx1 := hx.1.getD i
    have hx2 := hx.1.getD (i + 1)
    refine Evt.step (fun k => nat_long.l1.eq_2 ..) ?_
    rw [wsucc (by omega)]
    refine Evt.pos (by omega) (Evt.pos (by omega) (Evt.pos (by omega) (Evt.pos (by omega) (Evt.pos (by omega) (Evt.pos (by omega) (Evt.pos (by omega) ?_))))))
    rw [rd_nat, rd_nat, wu64 hx1.1 (by omega), wu64 hx2.1 (by omega), wu64 (x := x8.getD (i + 1) 0 * 4294967296) (by omega) (by omega), Int.toNat_natCast, back_one x8 m s i hx hs (by omega)]
    refine ih (i + 1) _ (by omega) (by rw [List.length_set]; exact hlen) (fun j hj => ?_)
    by_cases hji : j = i
    · rw [hji, lset_self _ _ _ (by omega), lims_getD _ _ _ (by omega)]
    · rw [lset_ne _ _ _ _ (by omega)]; exact h j (by omega)
theorem long_l0 (v : List Int) (L s U V J : Nat) (hv : Is v V) (hvl : v.length = L + 2) (ht : 1 ≤ v.getD (L + 1) 0) (hV0 : 0 < V) (hs : s ≤ 31) (hL : L ≤ 400000000) (hJ : J ≤ 400000000) (hJ1 : 1 ≤ J) : ∀ (t : Nat) (x4 x8 : List Int),
    x4.length = J → x8.length = J + (L + 2) → t ≤ J → LongInv x4 x8 U V t → (∀ i, i < t → x4.getD i 0 = 0) →
    Evt (fun k => nat_long.l0 k x4 s v x8 ((L + 2 : Nat) : Int) ((t : Int) - 1)) (lims J (U / V), lims (L + 2) (U % V / 2 ^ s)) := by
  intro t
  induction t with
  | zero =>
    intro x4 x8 h4 h8 _ h _
    obtain ⟨i4, i8⟩ := h.last
    refine Evt.step (fun k => nat_long.l0.eq_2 ..) (Evt.neg (by omega) (Evt.pos (by omega) (Evt.pos (by omega) ?_)))
    have e := eq_lims i4
    rw [h4] at e
    have := long_l1 x4 x8 (U % V) s (L + 2) i8 hs (by omega) (by omega) (L + 2) 0 (List.replicate (L + 2) 0) (by omega) (by simp) (fun j hj => by omega)
    rw [← e, Int.toNat_natCast]
    refine Evt.bind0 (f := fun k y187 => nat_long.l1 k x4 y187 s x8 (y187.length : Int) 0) rfl ?_
    rw [List.length_replicate]
    exact this
  | succ t ih =>
    intro x4 x8 h4 h8 htJ h hz
    have hVK := hv.lt
    rw [hvl] at hVK
    obtain ⟨W, hW, hlt, he, hhi, h0, h1⟩ := h.win hVK (by omega)
    have hn := h.step hV0 hVK (by omega) (by omega) (hz t (by omega)) hlt he hhi h0 h1
    have hwl := win_length x8 t (L + 2) (by omega)
    have hpl := put_length x8 (lims (L + 2 + 1) (W % V)) t (L + 2) (by omega) (lims_length _ _)
    refine Evt.step (fun k => nat_long.l0.eq_2 ..) ?_
    rw [show (((t + 1 : Nat) : Int) - 1) = (t : Int) by omega, wadd (by omega), wsucc (by omega), wpred2 (by omega)]
    refine Evt.pos (by omega) (Evt.pos (by omega) (Evt.pos (by omega) (Evt.pos (by omega) ?_)))
    rw [Int.toNat_natCast, Int.toNat_natCast]
    refine Evt.bind (step_ev _ v L W V hW hv hwl hvl ht hV0 hlt (by omega)) (Evt.pos (by omega) ?_)
    exact ih _ _ (by rw [List.length_set]; exact h4) (hpl.trans h8) (by omega) hn (fun i hi => by rw [lset_ne _ _ _ _ (by omega)]; exact hz i (by omega))
theorem long_ev (m n : Nat) (hmn : n ≤ m) (hn2 : 2 ≤ (enc n).length) (hl : (enc m).length ≤ 100000000) :
    Evt (fun k => nat_long.f k (enc m) (enc n)) (lims ((enc m).length + 1 - (enc n).length) (m / n), lims (enc n).length (m % n)) := by
  obtain ⟨L, hL⟩ : ∃ L, (enc n).length = L + 2 := ⟨(enc n).length - 2, by omega⟩
  have hn0 : n ≠ 0 := fun h => by rw [h, enc_zero] at hn2; simp at hn2
  obtain ⟨top, low, t1, t2, t3, t4, t5⟩ := enc_top hn0
  have hle : (enc n).length ≤ (enc m).length := enc_length_le _ (Nat.lt_of_le_of_lt hmn (lt_of_enc_length (Nat.le_refl _)))
  have hb32 := blen_le_32 t3
  have hbp := blen_pos (n := top) (by omega)
  obtain ⟨s, hs⟩ : ∃ s, s + blen top = 32 := ⟨32 - blen top, by omega⟩
  rw [hL] at t1 t4 t5
  have hnt := norm_top (b := blen top) rfl hs t2 t4 t5
  rw [show L + 2 - 1 = L + 1 by omega] at *
  have ht1 : (enc n).getD (L + 1) 0 = (top : Int) := t1
  have eL : 2 ^ (32 * (L + 1)) * 4294967296 = 4294967296 ^ (L + 2) := by
    rw [Nat.pow_mul, show (2 : Nat) ^ 32 = 4294967296 by rfl, ← Nat.pow_succ]
  have hVlen1 : (enc (n * 2 ^ s)).length ≤ L + 2 := enc_length_le _ (by rw [← eL]; exact hnt.2)
  have hVlen2 : L + 1 < (enc (n * 2 ^ s)).length := by
    rcases Nat.lt_or_ge (L + 1) (enc (n * 2 ^ s)).length with h | h
    · exact h
    · exfalso
      have := lt_of_enc_length h
      rw [show (4294967296 : Nat) = 2 ^ 32 by rfl, ← Nat.pow_mul] at this
      have h2 : 2 ^ (32 * (L + 1)) * 1 ≤ 2 ^ (32 * (L + 1)) * 2 ^ 31 := Nat.mul_le_mul_left _ (by omega)
      omega
  have hVl : (enc (n * 2 ^ s)).length = L + 2 := by omega
  have hV0 : n * 2 ^ s ≠ 0 := Nat.mul_ne_zero hn0 (by have := Nat.two_pow_pos s; omega)
  obtain ⟨top', low', u1, u2, _, _, _⟩ := enc_top hV0
  rw [hVl] at u1
  have htop : 1 ≤ (enc (n * 2 ^ s)).getD (L + 1) 0 := by
    have : (enc (n * 2 ^ s)).getD (L + 1) 0 = (top' : Int) := u1
    omega
  unfold nat_long.f
  have hw1 : wrap64 (((enc n).length : Int) - 1) = ((L + 1 : Nat) : Int) := by rw [hL, w64 (by omega) (by omega)]; omega
  rw [hw1]
  refine Evt.pos (by omega) (Evt.pos (by omega) ?_)
  rw [rd_nat, ht1]
  have hlz := lz_ev top t3
  rw [show 32 - blen top = s by omega] at hlz
  refine Evt.bind0 hlz (Evt.bind (shift_ev (enc n) n s (enc_is n) (by omega) (by omega)) ?_)
  have hvis : Is (lims ((enc n).length + 1) (n * 2 ^ s)) (n * 2 ^ s) := lims_is (by
    rw [hL, Nat.pow_succ]
    rw [eL] at hnt
    omega)
  refine Evt.bind (short_ev hvis (by rw [lims_length]; omega)) (Evt.bind (shift_ev (enc m) m s (enc_is m) (by omega) (by omega)) ?_)
  have hw2 : wrap64 (((lims ((enc m).length + 1) (m * 2 ^ s)).length : Int) - ((enc (n * 2 ^ s)).length : Int)) = (((enc m).length + 1 - (enc n).length : Nat) : Int) := by
    rw [lims_length, hVl, hL, wsub (by omega) (by omega)]
  rw [hw2]
  obtain ⟨J, hJ⟩ : ∃ J, J = (enc m).length + 1 - (enc n).length := ⟨_, rfl⟩
  rw [← hJ]
  refine Evt.pos (by omega) (Evt.pos (by omega) ?_)
  rw [Int.toNat_natCast, hVl, wpred2 (by omega)]
  have hmlt : m < 4294967296 ^ (enc m).length := lt_of_enc_length (Nat.le_refl _)
  have hp31 : 2 ^ s ≤ 2 ^ 31 := Nat.pow_le_pow_right (by omega) (by omega)
  have hps : 0 < 2 ^ s := Nat.two_pow_pos s
  have huis : Is (lims ((enc m).length + 1) (m * 2 ^ s)) (m * 2 ^ s) := lims_is (by
    rw [Nat.pow_succ]
    exact Nat.mul_lt_mul'' hmlt (by omega))
  have hstart : m * 2 ^ s < n * 2 ^ s * 4294967296 ^ J := by
    have a1 : m * 2 ^ s < 4294967296 ^ (enc m).length * 2 ^ 31 := Nat.mul_lt_mul_of_lt_of_le hmlt hp31 (by omega)
    have a2 : 2 ^ (32 * (L + 1)) * 2 ^ 31 * 4294967296 ^ J ≤ n * 2 ^ s * 4294967296 ^ J := Nat.mul_le_mul_right _ hnt.1
    have a3 : 2 ^ (32 * (L + 1)) * 2 ^ 31 * 4294967296 ^ J = 4294967296 ^ (enc m).length * 2 ^ 31 := by
      rw [Nat.pow_mul, show (2 : Nat) ^ 32 = 4294967296 by rfl, Nat.mul_right_comm, ← Nat.pow_add, show L + 1 + J = (enc m).length by omega]
    omega
  have := long_l0 (enc (n * 2 ^ s)) L s (m * 2 ^ s) (n * 2 ^ s) J (enc_is _) hVl htop (by omega) (by omega) (by omega) (by omega) (by omega) J (List.replicate J 0) (lims ((enc m).length + 1) (m * 2 ^ s)) (by simp) (by rw [lims_length]; omega) (Nat.le_refl _)
    ⟨Lim.zeros _, lims_lim _ _, by rw [ev_replicate_zero, huis.2]; omega, by
      rw [huis.2]
      have := Int.ofNat_lt.2 hstart
      rw [Int.natCast_mul, Int.natCast_pow] at this
      exact this⟩ (fun i _ => lzeros_getD _ _)
  rw [Nat.mul_div_mul_right _ _ hps, Nat.mul_mod_mul_right, Nat.mul_div_cancel _ hps] at this
  rw [hL]
  exact this
theorem divmod_ev {a b : List Int} {m n : Nat} (ha : Is a m) (hb : Is b n) (hn : n ≠ 0) (hla : a.length ≤ 100000000) (hlb : b.length ≤ 100000000) :
    Evt (fun k => nat_DivMod.f k a b) (enc (m / n), enc (m % n), 0) := by
  unfold nat_DivMod.f
  have h1 := ha.enc_length
  have h2 := hb.enc_length
  refine Evt.bind (short_ev ha (by omega)) (Evt.bind (short_ev hb (by omega)) (Evt.neg ?_ ?_))
  · intro h; exact enc_ne hn (List.length_eq_zero_iff.1 (by omega))
  refine Evt.bind (cmp_ev (enc_is m) (enc_is n) (by omega) (by omega)) ?_
  by_cases hlt : m < n
  · refine Evt.pos (cmpN_neg.2 hlt) (Evt.bind (trim_ev (enc_is m) (by omega)) (Evt.now' ?_))
    rw [Nat.div_eq_of_lt hlt, Nat.mod_eq_of_lt hlt, enc_zero]
  · refine Evt.neg (fun h => hlt (cmpN_neg.1 h)) ?_
    by_cases hone : (enc n).length = 1
    · have hn1 : n < 4294967296 := by
        have := lt_of_enc_length (n := n) (L := 1) (by omega)
        simpa using this
      have hr0 : rd (enc n) 0 = (n : Int) := by
        rw [enc_pos hn]
        show ((n % 4294967296 : Nat) : Int) = n
        rw [Nat.mod_eq_of_lt hn1]
      refine Evt.pos (by omega) (Evt.pos (by omega) ?_)
      rw [hr0]
      refine Evt.bind (digit_ev (enc_is m) (by omega) hn1 (by omega)) ?_
      have hmod : m % n < n := Nat.mod_lt _ (by omega)
      rw [wu64n (by omega)]
      exact Evt.bind (of_ev _ (by omega)) (Evt.now _)
    · have hpos : 0 < (enc n).length := List.length_pos_iff.2 (enc_ne hn)
      refine Evt.neg (by omega) (Evt.bind (long_ev m n (by omega) (by omega) (by omega)) ?_)
      have hq : m / n < 4294967296 ^ ((enc m).length + 1 - (enc n).length) := by
        obtain ⟨top, low, t1, t2, t3, t4, t5⟩ := enc_top hn
        have hge : 4294967296 ^ ((enc n).length - 1) ≤ n := by
          rw [show (4294967296 : Nat) = 2 ^ 32 by rfl, ← Nat.pow_mul]
          have : 1 * 2 ^ (32 * ((enc n).length - 1)) ≤ top * 2 ^ (32 * ((enc n).length - 1)) := Nat.mul_le_mul_right _ t2
          omega
        have hm : m < 4294967296 ^ (enc m).length := lt_of_enc_length (Nat.le_refl _)
        have hle : (enc n).length ≤ (enc m).length := enc_length_le _ (Nat.lt_of_le_of_lt (by omega) hm)
        refine Nat.div_lt_of_lt_mul ?_
        refine Nat.lt_of_lt_of_le hm ?_
        rw [show 4294967296 ^ (enc m).length = 4294967296 ^ ((enc n).length - 1) * 4294967296 ^ ((enc m).length + 1 - (enc n).length) by rw [← Nat.pow_add]; congr 1; omega]
        exact Nat.mul_le_mul_right _ hge
      have hr : m % n < 4294967296 ^ (enc n).length := Nat.lt_trans (Nat.mod_lt _ (by omega)) (lt_of_enc_length (Nat.le_refl _))
      exact Evt.bind (trim_ev (lims_is hq) (by rw [lims_length]; omega)) (Evt.bind (trim_ev (lims_is hr) (by rw [lims_length]; omega)) (Evt.now _))
theorem over_ev {a b : List Int} {m n : Nat} (ha : Is a m) (hb : Is b n) (hn : n ≠ 0) (hla : a.length ≤ 100000000) (hlb : b.length ≤ 100000000) :
    Evt (fun k => bounds_over.f k a b) (enc (m / n)) := by
  unfold bounds_over.f
  exact Evt.bind (divmod_ev ha hb hn hla hlb) (Evt.now _)
end Go.Proofs.Ytjignpnnmfdedaa.BoundsBinaryC
/- The ranges of q, n and d. -/
namespace Go.Proofs.Ytjignpnnmfdedaa.BoundsBinaryC
open Go.RowKit Go.Proofs.Ytjignpnnmfdedaa.PBoundsBinary Go.Proofs.YtjignpnnmfdedaaW.PrintWords Go.Proofs.YtjignpnnmfdedaaW.PrintLast Go.Proofs.YtjignpnnmfdedaaW.PrintMore Cw
/-- q, n and d are in their ranges -/
def InR (q n d : Int) : Prop := 2 ≤ q ∧ q ≤ 256 ∧ 1 ≤ n ∧ n ≤ 64 ∧ 1 ≤ d ∧ d ≤ n
theorem out_no {q n d : Int} (h : InR q n d) : bounds_out.f q n d = some false := by
  unfold InR at h; unfold bounds_out.f
  rw [if_neg (by omega), if_neg (by omega), if_neg (by omega), if_neg (by omega), if_neg (by omega), decide_eq_false (by omega)]
end Go.Proofs.Ytjignpnnmfdedaa.BoundsBinaryC
/- What the printed reference functions pow and Volume compute. -/
namespace Go.Proofs.Ytjignpnnmfdedaa.BoundsBinaryC
open Go.RowKit Go.Proofs.Ytjignpnnmfdedaa.PBoundsBinary Go.Proofs.YtjignpnnmfdedaaW.PrintWords Go.Proofs.YtjignpnnmfdedaaW.PrintLast Go.Proofs.YtjignpnnmfdedaaW.PrintMore Cw
end Go.Proofs.Ytjignpnnmfdedaa.BoundsBinaryC
/- What the printed reference functions Sub, shift and DivMod compute. -/
namespace Go.Proofs.Ytjignpnnmfdedaa.BoundsBinaryC
open Go.RowKit Go.Proofs.Ytjignpnnmfdedaa.PBoundsBinary Go.Proofs.YtjignpnnmfdedaaW.PrintWords Go.Proofs.YtjignpnnmfdedaaW.PrintLast Go.Proofs.YtjignpnnmfdedaaW.PrintMore Cw
theorem enc_one : ([1] : List Int) = enc 1 := by rw [enc_pos (by omega), Nat.div_eq_of_lt (by omega), enc_zero]; rfl
end Go.Proofs.Ytjignpnnmfdedaa.BoundsBinaryC
/- What the printed functions Hamming and Singleton and Plotkin compute, and their references. -/
namespace Go.Proofs.Ytjignpnnmfdedaa.BoundsBinaryC
open Go.RowKit Go.Proofs.Ytjignpnnmfdedaa.PBoundsBinary Go.Proofs.YtjignpnnmfdedaaW.PrintWords Go.Proofs.YtjignpnnmfdedaaW.PrintLast Go.Proofs.YtjignpnnmfdedaaW.PrintMore Cw
end Go.Proofs.Ytjignpnnmfdedaa.BoundsBinaryC
/- What the printed function Sub of package nat computes. -/
namespace Go.Proofs.Ytjignpnnmfdedaa.BoundsBinaryC
open Go.RowKit Go.Proofs.Ytjignpnnmfdedaa.PBoundsBinary Go.Proofs.YtjignpnnmfdedaaW.PrintWords Go.Proofs.YtjignpnnmfdedaaW.PrintLast Go.Proofs.YtjignpnnmfdedaaW.PrintMore Cw
theorem nsub_digit {x y c z : Int} (hx : 0 ≤ x ∧ x < 4294967296) (hy : 0 ≤ y ∧ y < 4294967296) (hc : 0 ≤ c ∧ c ≤ 1) (hz : z = ((x - c) % 18446744073709551616 - y) % 18446744073709551616) :
    z % 4294967296 = x - c - y + z / 9223372036854775808 * 4294967296 ∧ 0 ≤ z / 9223372036854775808 ∧ z / 9223372036854775808 ≤ 1 := by omega
theorem sub_l0 (a b : List Int) (m n : Nat) (ha : Is a m) (hb : Is b n) (hl : a.length ≤ 1000000000) (hlb : b.length ≤ a.length) (hmn : n ≤ m) : ∀ (d i : Nat) (out : List Int) (c : Int),
    i + d = a.length → Lim out → out.length = a.length → 0 ≤ c → c ≤ 1 → PSubInv a b out c i → Evt (fun k => nat_Sub.l0 k b out c (a.length : Int) (i : Int)) (enc (m - n), 0) := by
  intro d
  induction d with
  | zero =>
    intro i out c hi hlim hlen hc0 hc1 he
    have h1 : i = a.length := by omega
    subst h1
    exact Evt.step (fun k => nat_Sub.l0.eq_2 ..) (Evt.neg (by omega) (Evt.bind (short_ev (he.last ha hb hlb hlim hlen (by omega) hmn) (by omega)) (Evt.now _)))
  | succ d ih =>
    intro i out c hi hlim hlen hc0 hc1 he
    have hx := ha.1.getD i
    have hy := hb.1.getD i
    have ho := he.2 i (Nat.le_refl _)
    refine Evt.step (fun k => nat_Sub.l0.eq_2 ..) ?_
    rw [wsucc (by omega), rd_nat, ho, rd_nat, wu64 hx.1 (by omega), wu64 hy.1 (by omega), wu64_mod (a.getD i 0 - c), wu64_mod, Int.toNat_natCast]
    refine Evt.pos (by omega) (Evt.pos (by omega) (Evt.pos (by omega) ?_))
    by_cases hlt : i < b.length
    · refine Evt.pos (by omega) ?_
      obtain ⟨z, hz⟩ : ∃ z, z = ((a.getD i 0 - c) % 18446744073709551616 - b.getD i 0) % 18446744073709551616 := ⟨_, rfl⟩
      obtain ⟨h1, h2, h3⟩ := nsub_digit hx hy ⟨hc0, hc1⟩ hz
      rw [← hz]
      exact ih (i + 1) _ _ (by omega) (hlim.set _ (by omega) (by omega)) (by rw [List.length_set]; exact hlen) h2 h3 (he.step (by omega) h1)
    · refine Evt.neg (by omega) ?_
      have hb0 : b.getD i 0 = 0 := getD_none' b i (by omega)
      obtain ⟨z, hz⟩ : ∃ z, z = (a.getD i 0 - c) % 18446744073709551616 := ⟨_, rfl⟩
      obtain ⟨h1, h2, h3⟩ := nsub_digit (y := 0) (z := z) hx (by omega) ⟨hc0, hc1⟩ (by omega)
      rw [← hz]
      refine ih (i + 1) _ _ (by omega) (hlim.set _ (by omega) (by omega)) (by rw [List.length_set]; exact hlen) h2 h3 (he.step (by omega) ?_)
      rw [hb0]; exact h1
theorem sub_ev (m n : Nat) (hmn : n ≤ m) (hl : (enc m).length ≤ 1000000) : Evt (fun k => nat_Sub.f k (enc m) (enc n)) (enc (m - n), 0) := by
  unfold nat_Sub.f
  have hlb : (enc n).length ≤ (enc m).length := enc_length_le _ (Nat.lt_of_le_of_lt hmn (lt_of_enc_length (Nat.le_refl _)))
  refine Evt.bind (cmp_ev (enc_is m) (enc_is n) (by omega) (by omega)) (Evt.neg (fun h => by have := cmpN_neg.1 h; omega) (Evt.bind (trim_ev (enc_is m) (by omega)) ?_))
  exact sub_l0 (enc m) (enc n) m n (enc_is m) (enc_is n) (by omega) hlb hmn (enc m).length 0 (enc m) 0 (by omega) (enc_lim m) rfl (by omega) (by omega) (PSubInv.start ..)
theorem sub_no (m n : Nat) (hmn : m < n) (hl : (enc m).length ≤ 1000000) (hln : (enc n).length ≤ 1000000) : Evt (fun k => nat_Sub.f k (enc m) (enc n)) ([], 6) := by
  unfold nat_Sub.f
  exact Evt.bind (cmp_ev (enc_is m) (enc_is n) (by omega) (by omega)) (Evt.pos (cmpN_neg.2 hmn) (Evt.now _))
end Go.Proofs.Ytjignpnnmfdedaa.BoundsBinaryC
/- What the printed functions Constant and Johnson compute, and their references. -/
namespace Go.Proofs.Ytjignpnnmfdedaa.BoundsBinaryC
open Go.RowKit Go.Proofs.Ytjignpnnmfdedaa.PBoundsBinary Go.Proofs.YtjignpnnmfdedaaW.PrintWords Go.Proofs.YtjignpnnmfdedaaW.PrintLast Go.Proofs.YtjignpnnmfdedaaW.PrintMore Cw
theorem constant_ev (e : Nat) (he : 1 ≤ e) (he2 : e ≤ 64) : ∀ (w n : Nat), w ≤ n → n ≤ 64 → Evt (fun k => bounds_constant.f k n w e) (enc (jc e n w)) := by
  have yes : ∀ (n w : Int), Evt (fun k => bounds_constant.j0 k n w e true) (enc 1) := fun n w =>
    Evt.step (fun k => bounds_constant.j0.eq_2 ..) (Evt.pos rfl (Evt.now' enc_one))
  intro w
  induction w with
  | zero =>
    intro n hw hn
    exact Evt.step (fun k => bounds_constant.f.eq_2 ..) (Evt.pos (by omega) (yes _ _))
  | succ w ih =>
    intro n hw hn
    refine Evt.step (fun k => bounds_constant.f.eq_2 ..) ?_
    rw [jc, wsub (by omega) hw]
    by_cases h1 : w + 1 < e
    · rw [if_pos (.inl h1)]
      exact Evt.pos (by omega) (yes _ _)
    · refine Evt.neg (by omega) ?_
      by_cases h2 : n - (w + 1) < e
      · rw [if_pos (.inr h2), decide_eq_true (by omega : ((n - (w + 1) : Nat) : Int) < (e : Int))]
        exact yes _ _
      · rw [if_neg (by omega), decide_eq_false (by omega : ¬ ((n - (w + 1) : Nat) : Int) < (e : Int))]
        refine Evt.step (fun k => bounds_constant.j0.eq_2 ..) (Evt.neg (by simp) ?_)
        have l1 : (enc n).length ≤ 1 := enc_length_le _ (by omega)
        have l2 : (enc (w + 1)).length ≤ 1 := enc_length_le _ (by omega)
        have hj := jc_le (e := e) w (n - 1) (by omega)
        have l3 := P2_len (L := 1001) (Nat.le_trans hj (P2_le (b := 384) (by omega))) (by omega)
        have l4 := P2_len (L := 1001) (mul_P2 (a := 6) (show n ≤ P2 6 from hn) hj) (by omega)
        rw [wpredn (by omega) (by omega), wpred (by omega)]
        exact Evt.bind (whole_ev n (by omega)) (Evt.bind (ih (n - 1) (by omega) (by omega)) (Evt.bind (mul2_ev (enc_is _) (enc_is _) (by omega) (by omega)) (Evt.bind (whole_ev (w + 1) (by omega)) (Evt.bind (over_ev (enc_is _) (enc_is _) (by omega) (by omega) (by omega)) (Evt.now _)))))
theorem halfup {d : Nat} (hd : d ≤ 1000000) : wrap64 (Int.tdiv (wrap64 ((d : Int) + 1)) 2) = (((d + 1) / 2 : Nat) : Int) := by
  rw [wsucc (by omega), tdivp (by omega), w64 (by omega) (by omega)]; omega
theorem Constant_ev (n d w : Nat) (hn0 : 1 ≤ n) (hn : n ≤ 64) (hd : 1 ≤ d) (hdn : d ≤ n) (hw : w ≤ n) : Evt (fun k => bounds_Constant.f k n d w) (enc (jc ((d + 1) / 2) n w), 0) := by
  unfold bounds_Constant.f
  rw [halfup (by omega)]
  exact Evt.bind0 (out_no (by unfold InR; omega)) (Evt.neg (by simp) (Evt.neg (by omega) (Evt.neg (by omega) (Evt.bind (constant_ev _ (by omega) (by omega) w n hw hn) (Evt.now _)))))
theorem john_j0 (n d : Nat) (hn : n ≤ 64) (hd : 1 ≤ d) (hdn : d ≤ n) (hodd : d % 2 = 1) : Evt (fun k => bounds_Johnson.j0 k n d) (enc (johnO n d), 0) := by
  obtain ⟨t, ht⟩ : ∃ t, t = (d - 1) / 2 := ⟨_, rfl⟩
  refine Evt.step (fun k => bounds_Johnson.j0.eq_2 ..) ?_
  rw [show wrap64 (Int.tdiv (d : Int) 2) = (t : Int) by rw [tdivp (by omega), w64 (by omega) (by omega)]; omega, wsucc (by omega), tdivp (a := (n : Int)) (by omega), ← Int.natCast_ediv, wnat (i := n / (t + 1)) (Nat.le_trans (Nat.div_le_self _ _) (by omega))]
  have l1 := P2_len (L := 1001) (binom_small hn (t + 1)) (by omega)
  have l2 := P2_len (L := 1001) (binom_small (n := d) (by omega) t) (by omega)
  have l3 := P2_len (L := 1001) (Nat.le_trans (jc_le (e := t + 1) d n hn) (P2_le (b := 384) (by omega))) (by omega)
  have l4 := P2_len (L := 1001) (jnear_le (d := d) hn (by omega)) (by omega)
  have l5 : (enc (n / (t + 1))).length ≤ 1 := enc_length_le _ (by rw [ht]; have := jm_le (d := d) hn; omega)
  have hp := pow_small (m := 2) (i := n) (by omega) (by omega)
  have l6 := P2_len (L := 1001) hp (by omega)
  have l7 := P2_len (L := 1001) (jnum_le (d := d) hn) (by omega)
  have l8 := psum_len (m := 1) (n := n) (i := t + 1) (by omega) hn (by omega)
  have l9 := P2_len (L := 1001) (jmv_le (d := d) hn (by omega)) (by omega)
  have l10 := P2_len (L := 1001) (jx_le (d := d) hn) (by omega)
  have l11 := P2_len (L := 1001) (jden_le (d := d) hn (by omega)) (by omega)
  rw [← ht] at l4 l7 l9
  have hpos := jden_pos hd hdn
  have hx : jx n d = binom n (t + 1) - binom d t * jc (t + 1) n d := by unfold jx; rw [← ht]
  have hden : n / (t + 1) * psum 1 n (t + 1) + jx n d = jden n d := by unfold jden; rw [← ht]
  have hfin : n / (t + 1) * 2 ^ n / jden n d = johnO n d := by unfold johnO; rw [← ht]
  have hv := volume_ev 2 n (t + 1) (by omega) (by omega) hn (by omega)
  rw [show (2 - 1 : Nat) = 1 from rfl, show ((t + 1 : Nat) : Int) - 1 = (t : Int) by omega] at hv
  refine Evt.neg (by omega) (Evt.bind (whole_ev _ (Nat.lt_of_le_of_lt (Nat.div_le_self _ _) (by omega))) (Evt.bind hv (Evt.bind (mul2_ev (enc_is _) (enc_is _) (by omega) (by omega)) (Evt.bind (choose_ev n (t + 1) (by omega)) (Evt.bind (choose_ev d t (by omega)) (Evt.bind (constant_ev (t + 1) (by omega) (by omega) d n hdn hn) (Evt.bind (mul2_ev (enc_is _) (enc_is _) (by omega) (by omega)) ?_)))))))
  have hpw := power_ev 2 n 520 (by omega) (by omega) (by omega) hp
  by_cases hlt : binom d t * jc (t + 1) n d ≤ binom n (t + 1)
  · refine Evt.bind (sub_ev _ _ hlt (by omega)) (Evt.pos rfl ?_)
    rw [← hx]
    refine Evt.bind (add2_ev (enc_is _) (enc_is (jx n d)) (by omega) (by show (enc _).length ≤ _; omega)) ?_
    rw [hden]
    refine Evt.bind hpw (Evt.bind (mul2_ev (enc_is _) (enc_is _) (by omega) (by omega)) (Evt.bind (over_ev (enc_is _) (enc_is _) (by omega) (by omega) (by omega)) (Evt.now' (by rw [hfin]))))
  · have h0 : jx n d = 0 := by rw [hx]; omega
    rw [h0, Nat.add_zero] at hden
    refine Evt.bind (sub_no _ _ (by omega) (by omega) (by omega)) (Evt.neg (by simp) ?_)
    rw [hden]
    refine Evt.bind hpw (Evt.bind (mul2_ev (enc_is _) (enc_is _) (by omega) (by omega)) (Evt.bind (over_ev (enc_is _) (enc_is _) (by omega) (by omega) (by omega)) (Evt.now' (by rw [hfin]))))
theorem Johnson_ev (n d : Nat) (hn : n ≤ 64) (hd : 1 ≤ d) (hdn : d ≤ n) : Evt (fun k => bounds_Johnson.f k n d) (enc (john n d), 0) := by
  unfold bounds_Johnson.f john
  refine Evt.bind0 (out_no (by unfold InR; omega)) (Evt.neg (by simp) ?_)
  by_cases h : d % 2 = 0
  · rw [if_pos h]
    refine Evt.pos (by rw [tmodp (by omega)]; omega) ?_
    rw [wpredn (by omega) (by omega), wpredn hd (by omega)]
    exact john_j0 (n - 1) (d - 1) (by omega) (by omega) (by omega) (by omega)
  · rw [if_neg h]
    exact Evt.neg (by rw [tmodp (by omega)]; omega) (john_j0 n d hn hd hdn (by omega))
end Go.Proofs.Ytjignpnnmfdedaa.BoundsBinaryC
/- No list of binary words with distance d has more words than the function bounds.Johnson says, nor more words of weight w than Constant says. Conditions: none, for every two ints and every list of lists of ints. -/
namespace Go.Proofs.Ytjignpnnmfdedaa.Pure
open Go.RowKit Go.Proofs.Ytjignpnnmfdedaa.PBoundsBinary Go.Proofs.YtjignpnnmfdedaaW.PrintWords Go.Proofs.YtjignpnnmfdedaaW.PrintLast Go.Proofs.YtjignpnnmfdedaaW.PrintMore Cw Go.Proofs.Ytjignpnnmfdedaa.BoundsBinaryC
theorem john_small {n d : Nat} (hn : n ≤ 64) : (enc (john n d)).length ≤ 1001 := by
  unfold john
  split
  · exact P2_len (johnO_le (by omega)) (by omega)
  · exact P2_len (johnO_le hn) (by omega)
theorem zeros_isW (n : Nat) : IsW 2 n (List.replicate n 0) :=
  ⟨by simp, fun x hx => by rw [List.eq_of_mem_replicate hx]; omega⟩
/-- the words of weight w among the first i -/
theorem binary_l0 (W : List (List Int)) (n d w : Nat) (hl : W.length ≤ 300) (hn1 : 1 ≤ n) (hn2 : n ≤ 64) (hd : 1 ≤ d) (hdn : d ≤ n) (hw : w ≤ n) (hW : AllW 2 n W) (hA : Apart d W) : ∀ (e i : Nat), i + e = W.length →
    Evt (fun k => codewrightlaw34_BoundsBinary.l0 k d w W n (((W.take i).filter (fun c => decide (dist (List.replicate n 0) c = w))).length : Nat) i) true := by
  intro e
  induction e with
  | zero =>
    intro i hi
    have h1 := johnson hd hdn hW hA
    have h2 := Constant_le hd (zeros_isW n) hW hA (fun c => decide (dist (List.replicate n 0) c = w)) (w := w) (fun c _ h => by simpa using h)
    have l0 := john_small (n := n) (d := d) hn2
    have l1 : (enc (jc ((d + 1) / 2) n w)).length ≤ 1001 := P2_len (Nat.le_trans (jc_le w n hn2) (P2_le (b := 384) (by omega))) (by omega)
    rw [List.take_of_length_le (by omega)]
    have hc : (W.filter (fun c => decide (dist (List.replicate n 0) c = w))).length ≤ W.length := List.length_filter_le ..
    refine Evt.step (fun k => codewrightlaw34_BoundsBinary.l0.eq_2 ..) (Evt.neg (by omega) (Evt.bind (Johnson_ev n d hn2 hd hdn) (Evt.bind (Constant_ev n d w hn1 hn2 hd hdn hw) (Evt.bind (holds_ev W.length _ h1 (by omega) (by omega)) (Evt.pos rfl (Evt.bind (holds_ev _ _ h2 (by omega) (by omega)) (Evt.now _)))))))
  | succ e ih =>
    intro i hi
    have hi' : i < W.length := by omega
    have hm : W.getD i [] ∈ W := by
      rw [List.getD_eq_getElem?_getD, List.getElem?_eq_getElem hi']
      exact List.getElem_mem hi'
    have ht : W.take (i + 1) = W.take i ++ [W.getD i []] := by
      rw [List.take_add_one, List.getD_eq_getElem?_getD, List.getElem?_eq_getElem hi']; rfl
    have ih' := ih (i + 1) (by omega)
    rw [ht, List.filter_append, List.length_append] at ih'
    have hdist := distance_ev (W.getD i []) (List.replicate n 0) (by rw [(hW _ hm).1]; simp) (by rw [(hW _ hm).1]; omega)
    have hc : ((W.take i).filter (fun c => decide (dist (List.replicate n 0) c = w))).length ≤ i := Nat.le_trans (List.length_filter_le ..) (by rw [List.length_take]; omega)
    refine Evt.step (fun k => codewrightlaw34_BoundsBinary.l0.eq_2 ..) (Evt.pos (by omega) (Evt.pos (by omega) (Evt.pos (by omega) (Evt.pos (by omega) ?_))))
    rw [rdL1_nat, Int.toNat_natCast]
    refine Evt.bind hdist ?_
    rw [dist_comm]
    generalize ((W.take i).filter (fun c => decide (dist (List.replicate n 0) c = w))).length = C at *
    by_cases h : dist (List.replicate n 0) (W.getD i []) = w
    · refine Evt.pos (by omega) ?_
      rw [wsucc (by omega), wsucc (by omega)]
      rw [List.filter_cons_of_pos (by simpa using h)] at ih'
      exact ih'
    · refine Evt.neg (by omega) ?_
      rw [wsucc (i := i) (by omega)]
      rw [List.filter_cons_of_neg (by simpa using h)] at ih'
      exact ih'
theorem BoundsBinary (d w : Int) (W : List (List Int)) : ∃ k, codewrightlaw34_BoundsBinary.f k d w W = some true := by
  refine Evt.rounds ?_
  unfold codewrightlaw34_BoundsBinary.f
  have yes : Evt (fun k => codewrightlaw34_BoundsBinary.j0 k d w W true) true :=
    Evt.step (fun k => codewrightlaw34_BoundsBinary.j0.eq_2 ..) (Evt.pos rfl (Evt.now _))
  by_cases hl : (W.length : Int) > 300
  · exact Evt.pos hl yes
  · obtain ⟨e, he, hz⟩ := words_ev 2 W (by omega)
    refine Evt.neg hl (Evt.bind he ?_)
    by_cases h0 : e = 0
    · refine Evt.pos h0 ?_
      obtain ⟨_, _, w0, w1, w2, hW⟩ := hz h0
      by_cases hd1 : d < 1
      · exact Evt.pos hd1 yes
      · refine Evt.neg hd1 (Evt.pos (by omega) ?_)
        rw [rdL1_zero]
        by_cases hd2 : d > ((W.getD 0 []).length : Int)
        · exact Evt.pos hd2 yes
        · refine Evt.neg hd2 ?_
          by_cases hw1 : w < 0
          · exact Evt.pos hw1 yes
          · refine Evt.neg hw1 ?_
            by_cases hw2 : w > ((W.getD 0 []).length : Int)
            · exact Evt.pos hw2 yes
            · refine Evt.neg hw2 ?_
              obtain ⟨w, rfl⟩ := Int.eq_ofNat_of_zero_le (by omega : 0 ≤ w)
              obtain ⟨d, rfl⟩ := Int.eq_ofNat_of_zero_le (by omega : 0 ≤ d)
              have hW : AllW 2 (W.getD 0 []).length W := hW
              obtain ⟨b, hb, hA⟩ := apart_ev W d _ hW w2 (by omega)
              refine Evt.bind hb ?_
              cases b with
              | false => exact yes
              | true =>
                refine Evt.step (fun k => codewrightlaw34_BoundsBinary.j0.eq_2 ..) (Evt.neg (by simp) (Evt.pos (by omega) ?_))
                rw [rdL1_zero]
                have := binary_l0 W (W.getD 0 []).length d w (by omega) w1 w2 (by omega) (by omega) (by omega) hW (hA rfl) W.length 0 (by omega)
                exact this
    · exact Evt.neg h0 yes
end Go.Proofs.Ytjignpnnmfdedaa.Pure
