/- From printed contracts to contracts over values: what data reads as, in the print's words, and back. -/
import Derived.Test.YtpjpbhjpobdenaaQChannelPolynomialsWMore
import Derived.Test.YtpjpbhjpobdenaaQChannelPolynomialsTy
import Derived.Test.YtpjpbhjpobdenaaQChannelPolynomialsLib
import Derived.RowKit
import Derived.Laws.BitsLemmas
import Derived.Test.YtpjpbhjpobdenaaQChannelPolynomialsx
namespace Go.Proofs.Ytpjpbhjpobdenaa.AbBr
open Go Go.RowKit Go.Proofs.YtpjpbhjpobdenaaW.PrintWords Ab
set_option linter.unusedVariables false
section
variable {w : World} {ok : Nat → Prop} {v : Value}
theorem rd_C1 {α : Type} {d : Kd α} (h1 : d.sz = 1) {f : α → D} {l : List α} (hl : l.length ≤ 9223372036854775807) (hK : ∀ x ∈ l, ∀ v, RD w ok (f x) v → d.K w x [v]) (h : RD w ok (.sl l.length (l.map f)) v) : ∃ A c, v = .slice A l.length c ∧ l.length ≤ c ∧ d.C w A l.length l := by
 cases h with
 | sl n cs A c u hn ha hr =>
  refine ⟨A, c, rfl, hn, rfl, hl, fun h0 => ?_⟩
  obtain ⟨a, hA, _, hc⟩ := ha (by intro e; rw [List.map_eq_nil_iff] at e; rw [e] at h0; simp at h0)
  refine ⟨a, hA, fun j p hj => ?_⟩
  have hjl := (List.getElem?_eq_some_iff.1 hj).1
  refine ⟨[u j], h1.symm, hK p (List.mem_of_getElem? hj) _ (hr j (f p) (by rw [List.getElem?_map, hj]; rfl)), fun i x hi => ?_⟩
  have : i = 0 := by
   cases i with
   | zero => rfl
   | succ i => simp at hi
  subst this
  have hx : u j = x := by simpa using hi
  rw [h1, Nat.mul_one, Nat.add_zero, ← hx]
  exact hc j (by simpa using hjl)
theorem rd_int {k : IntKind} {n : Int} (h : RD w ok (.int k n) v) : v = .int k n := by cases h; rfl
theorem rd_bool {b : Bool} (h : RD w ok (.bool b) v) : v = .bool b := by cases h; rfl
theorem rd_C {l : List Int} (hl : l.length ≤ 9223372036854775807) (h : RD w ok (nat32 l) v) : ∃ A c, v = .slice A l.length c ∧ l.length ≤ c ∧ Kd.C (Kd.int .u32) w A l.length l :=
 rd_C1 rfl hl (fun x _ v hv => by rw [rd_int hv]; rfl) h
theorem rd_CC {q : Nat} {L : List (List Int)} (hL : L.length ≤ 9223372036854775807) (hl : ∀ l ∈ L, l.length ≤ 9223372036854775807) (h : RD w ok (.sl L.length (L.map nat32)) v) : ∃ A c, v = .slice A L.length c ∧ L.length ≤ c ∧ Kd.C (Kd.slice q (Kd.int .u32)) w A L.length L :=
 rd_C1 rfl hL (fun x hx v hv => by
  obtain ⟨A, c, e, h1, h2⟩ := rd_C (hl x hx) hv
  exact ⟨A, c, by rw [e], h1, h2⟩) h
theorem rd_V {q b : Nat} {l : List Int} (hok : ∀ k, ok k → k < w.heap.size) (hl : l.length ≤ 9223372036854775807) (h : RD w ok (nat32 l) v) : ∃ A c, v = .slice A l.length c ∧ l.length ≤ c ∧ Kd.C (Kd.int .u32) w A l.length l ∧ Kd.V (Kd.int .u32) q w b ok (.slice A l.length c) l := by
 obtain ⟨A, c, e, h1, h2⟩ := rd_C hl h
 subst e
 refine ⟨A, c, rfl, h1, h2, A, c, rfl, h1, fun W' hW => ?_⟩
 obtain ⟨A', c', e', _, h3⟩ := rd_C hl (h.step (w' := W') (ok' := ok) (fun k h4 h5 => ⟨h4, hW k h4 h5⟩) (fun k h4 => .inl (hok k h4)))
 obtain ⟨rfl, _⟩ : A = A' ∧ True := by
  injection e' with e1; exact ⟨e1, trivial⟩
 exact h3
theorem C_rd {l : List Int} {A : Option Addr} {c : Nat} (hc : l.length ≤ c) (h : Kd.C (Kd.int .u32) w A l.length l) (ho : l ≠ [] → ∀ a, A = some a → ok a.block) : RD w ok (nat32 l) (.slice A l.length c) := by
 refine .sl _ _ A c (fun p => .int .u32 (l.getD p 0)) hc (fun hne => ?_) (fun p x hp => ?_)
 ·
  have hn : l ≠ [] := fun e => hne (by rw [e]; rfl)
  obtain ⟨a, hA, hcc⟩ := h.2.2 (List.length_pos_iff.2 hn)
  refine ⟨a, hA, ho hn a hA, fun p hp => ?_⟩
  rw [List.length_map] at hp
  obtain ⟨cs, h1, h2, h3⟩ := hcc p l[p] (List.getElem?_eq_getElem hp)
  have h2' : cs = [.int .u32 l[p]] := h2
  have := h3 0 (.int .u32 l[p]) (by rw [h2']; rfl)
  have e1 : (Kd.int .u32).sz = 1 := rfl
  rw [e1, Nat.mul_one, Nat.add_zero] at this
  rw [this, List.getD_eq_getElem?_getD, List.getElem?_eq_getElem hp]; rfl
 ·
  rw [List.getElem?_map] at hp
  cases hq : l[p]? with
  | none => rw [hq] at hp; cases hp
  | some y =>
   rw [hq] at hp
   have : D.int .u32 y = x := by simpa using hp
   subst this
   rw [List.getD_eq_getElem?_getD, hq]
   exact .int _ _
theorem R_rd {q b : Nat} {l : List Int} {ok' : Nat → Prop} (h : Kd.R (Kd.int .u32) q w b ok' v l) (hok : ∀ k, b ≤ k → k < w.heap.size → ok k) : RD w ok (nat32 l) v := by
 obtain ⟨A, c, rfl, h1, h2⟩ := Kd.R_reads h
 refine C_rd h1 h2 (fun _ a ha => ?_)
 subst ha
 obtain ⟨_, inner, ho, _⟩ := h
 exact hok _ (own_base ho _ rfl) (own_lt ho _ rfl)
theorem V_rd {q b : Nat} {l : List Int} {ok' : Nat → Prop} (h : Kd.V (Kd.int .u32) q w b ok' v l) (hok : ∀ k, ok' k → k < w.heap.size → ok k) : RD w ok (nat32 l) v := by
 obtain ⟨A, c, rfl, h1, hf⟩ := h
 have h2 := hf w (fun _ _ _ => rfl)
 refine C_rd h1 h2 (fun hne a ha => ?_)
 -- the block is looked at
 have hp : 0 < l.length := List.length_pos_iff.2 hne
 have cell : ∀ W', Kd.C (Kd.int .u32) W' A l.length l → ∃ u, W'.cell? (a.add 0) = some u := fun W' hC => by
  obtain ⟨a', e, hcc⟩ := hC.2.2 hp
  obtain ⟨cs, h3, h4, h5⟩ := hcc 0 l[0] (List.getElem?_eq_getElem hp)
  have h4' : cs = [.int .u32 l[0]] := h4
  rw [ha] at e
  injection e with e
  subst e
  exact ⟨.int .u32 l[0], (by simpa using h5 0 (.int .u32 l[0]) (by rw [h4']; rfl))⟩
 obtain ⟨u, hu⟩ := cell w h2
 have hlt := World.block_lt_of_cell? w _ hu
 rw [Ab.add_block] at hlt
 refine Classical.byContradiction fun hno => ?_
 have hk : ¬ ok' a.block := fun h => hno (hok _ h hlt)
 obtain ⟨u', hu'⟩ := cell { w with heap := w.heap.set! a.block (.cells #[] 0 (0, 0)) } (hf _ (fun k h3 h4 => by
  have : k ≠ a.block := fun e => hk (e ▸ h3)
  simp only [Array.set!_eq_setIfInBounds, Array.getElem?_setIfInBounds]
  rw [if_neg (Ne.symm this)]))
 have hb := Ab.add_block a 0
 unfold World.cell? at hu'
 rw [hb] at hu'
 simp [hlt] at hu'
theorem rd_tup2 {x y : D} {v' : Value} (h : RD w ok x v) (h' : RD w ok y v') : RD w ok (.tup [x, y]) (.tuple #[v, v']) :=
 .tup [x, y] #[v, v'] (fun i => if i = 0 then v else v') rfl (fun i hi => by
  match i with
  | 0 => rfl
  | 1 => rfl
  | i + 2 => exact absurd (show i + 2 < 2 from hi) (by omega)) (fun i z hz => by
  match i with
  | 0 => simp at hz; subst hz; exact h
  | 1 => simp at hz; subst hz; exact h'
  | i + 2 => simp at hz)
end
theorem rd_frac {w : World} {ok : Nat → Prop} {s : Bool} {n d : List Int} {v v' : Value} (h : RD w ok (nat32 n) v) (h' : RD w ok (nat32 d) v') : RD w ok (frac s (nat32 n) (nat32 d)) (.agg #[.bool s, v, v']) :=
 .agg _ #[.bool s, v, v'] (fun i => if i = 0 then .bool s else if i = 1 then v else v') rfl (fun i hi => by
  match i with
  | 0 => rfl
  | 1 => rfl
  | 2 => rfl
  | i + 3 => exact absurd (show i + 3 < 3 from hi) (by omega)) (fun i q hq => by
  match i with
  | 0 => simp at hq; subst hq; exact .bool s
  | 1 => simp at hq; subst hq; exact h
  | 2 => simp at hq; subst hq; exact h'
  | i + 3 => simp at hq) (fun x hx => by simp [nat32] at hx; rcases hx with rfl | rfl | rfl <;> rfl)
/-- what a contract over values says of an end -/
def Res (w : World) (ok : Nat → Prop) (r : D) (e : Ending) (w' : World) : Prop := Below w.heap.size w w' ∧ ∃ v, e = .returned v ∧ RD w' (fun k => k < w'.heap.size ∧ (k < w.heap.size → ok k)) r v
section
variable {P : Program} {f : FuncId} {x y z r : D}
theorem spec1 (he : enterOk P f = true) (h : ∀ (w : World) (ok : Nat → Prop) (v : Value), (∀ k, ok k → k < w.heap.size) → RD w ok x v → Calls P f #[v] w (Res w ok r)) : Ab.Spec P f [x] r := ⟨he, fun w vs ok hs ha hok => by
 obtain ⟨v, h1, h2⟩ := ha 0 x rfl
 obtain rfl : vs = #[v] := by
  obtain ⟨l⟩ := vs
  match l, hs, h1 with
  | [u], _, h1 => simp at h1; rw [h1]
 exact h w ok v hok h2⟩
theorem spec2 (he : enterOk P f = true) (h : ∀ (w : World) (ok : Nat → Prop) (v v' : Value), (∀ k, ok k → k < w.heap.size) → RD w ok x v → RD w ok y v' → Calls P f #[v, v'] w (Res w ok r)) : Ab.Spec P f [x, y] r := ⟨he, fun w vs ok hs ha hok => by
 obtain ⟨v, h1, h2⟩ := ha 0 x rfl
 obtain ⟨v', h3, h4⟩ := ha 1 y rfl
 obtain rfl : vs = #[v, v'] := by
  obtain ⟨l⟩ := vs
  match l, hs, h1, h3 with
  | [u, u'], _, h1, h3 => simp at h1 h3; rw [h1, h3]
 exact h w ok v v' hok h2 h4⟩
theorem spec3 (he : enterOk P f = true) (h : ∀ (w : World) (ok : Nat → Prop) (v v' v'' : Value), (∀ k, ok k → k < w.heap.size) → RD w ok x v → RD w ok y v' → RD w ok z v'' → Calls P f #[v, v', v''] w (Res w ok r)) : Ab.Spec P f [x, y, z] r := ⟨he, fun w vs ok hs ha hok => by
 obtain ⟨v, h1, h2⟩ := ha 0 x rfl
 obtain ⟨v', h3, h4⟩ := ha 1 y rfl
 obtain ⟨v'', h5, h6⟩ := ha 2 z rfl
 obtain rfl : vs = #[v, v', v''] := by
  obtain ⟨l⟩ := vs
  match l, hs, h1, h3, h5 with
  | [u, u', u''], _, h1, h3, h5 => simp at h1 h3 h5; rw [h1, h3, h5]
 exact h w ok v v' v'' hok h2 h4 h6⟩
variable {w : World} {ok ok' : Nat → Prop} {e : Ending} {w' : World} {q b : Nat} {l : List Int}
theorem res_int {k : IntKind} {n : Int} (h : e = .returned (.int k n) ∧ Below w.heap.size w w') : Res w ok (.int k n) e w' := ⟨h.2, _, h.1, .int _ _⟩
theorem res_bool {n : Bool} (h : e = .returned (.bool n) ∧ Below w.heap.size w w') : Res w ok (.bool n) e w' := ⟨h.2, _, h.1, .bool _⟩
theorem res_boolD {n : Bool} (h : e = .returned (.bool n) ∧ Drawn0 w w') : Res w ok (.bool n) e w' := res_bool ⟨h.1, h.2.below⟩
theorem new_ok (k : Nat) (h : w.heap.size ≤ k) (hk : k < w'.heap.size) : k < w'.heap.size ∧ (k < w.heap.size → ok k) := ⟨hk, fun h' => by omega⟩
theorem res_R (h : ∃ v, e = .returned v ∧ Kd.R (Kd.int .u32) q w' w.heap.size ok' v l ∧ Below w.heap.size w w') : Res w ok (nat32 l) e w' := by
 obtain ⟨v, h1, h2, h3⟩ := h
 exact ⟨h3, v, h1, R_rd h2 new_ok⟩
end
end Go.Proofs.Ytpjpbhjpobdenaa.AbBr
/- Wraps of integers that fit, and reads of lists, as the printed functions write them. -/
namespace Go.Proofs.Ytpjpbhjpobdenaa.NatC
open Go.RowKit Go Go.Proofs.YtpjpbhjpobdenaaW.PrintWords Go.Proofs.YtpjpbhjpobdenaaW.PrintLast Go.Proofs.YtpjpbhjpobdenaaW.PrintMore Cw
theorem w64 {x : Int} (h0 : -9223372036854775808 ≤ x) (h1 : x ≤ 9223372036854775807) : wrap64 x = x := by unfold wrap64; omega
theorem wu64 {x : Int} (h0 : 0 ≤ x) (h1 : x < 18446744073709551616) : IntKind.u64.wrap x = x := by
 simp only [IntKind.wrap, IntKind.bits, IntKind.signed]; simp; omega
theorem wadd {i j : Nat} (h : i + j ≤ 9223372036854775807) : wrap64 ((i : Int) + (j : Int)) = ((i + j : Nat) : Int) := by rw [w64 (by omega) (by omega)]; omega
theorem wsucc {i : Nat} (h : i < 9223372036854775807) : wrap64 ((i : Int) + 1) = ((i + 1 : Nat) : Int) := by rw [w64 (by omega) (by omega)]; omega
theorem wpred {i : Nat} (h : i < 9223372036854775807) : wrap64 (((i + 1 : Nat) : Int) - 1) = (i : Int) := by rw [w64 (by omega) (by omega)]; omega
theorem wpred2 {i : Nat} (h : i < 9223372036854775807) : wrap64 ((i : Int) - 1) = (i : Int) - 1 := by rw [w64 (by omega) (by omega)]
theorem wsub {i j : Nat} (h : i < 9223372036854775807) (hj : j ≤ i) : wrap64 ((i : Int) - (j : Int)) = ((i - j : Nat) : Int) := by rw [w64 (by omega) (by omega)]; omega
theorem wu64n {i : Nat} (h : i < 18446744073709551616) : IntKind.u64.wrap (i : Int) = (i : Int) := wu64 (by omega) (by omega)
theorem wu64_mod (x : Int) : IntKind.u64.wrap x = x % 18446744073709551616 := by
 simp [IntKind.wrap, IntKind.bits, IntKind.signed]
/- No equation on a wrap may stand in a context in which omega is called: two such atoms are compared by unfolding. -/
theorem wraps_u64 (n : Int) (h0 : 0 ≤ n) (h1 : n < 2 ^ 64) : IntKind.u64.wrap n = n := wu64 h0 (by simpa using h1)
/-- a limb above a limb -/
theorem or_limb {x y : Int} (hx : 0 ≤ x ∧ x < 4294967296) (hy : 0 ≤ y ∧ y < 4294967296) : Go.bits .or .u64 (x * 4294967296) y = x * 4294967296 + y :=
 bits_join .u64 64 (by decide) wraps_u64 32 _ _ (by omega) (by omega) (by omega) hy.1 (by omega) (by omega)
theorem mx_eq (a b : Int) : mx a b = if a < b then b else a := rfl
theorem rd_nat (xs : List Int) (i : Nat) : rd xs (i : Int) = xs.getD i 0 := rfl
theorem tdivp {a b : Int} (h : 0 ≤ a) : Int.tdiv a b = a / b := Int.tdiv_eq_ediv_of_nonneg h
theorem tmodp {a b : Int} (h : 0 ≤ a) : Int.tmod a b = a % b := Int.tmod_eq_emod_of_nonneg h
/-- a limb is its own remainder -/
theorem mod_limb {x : Int} (h0 : 0 ≤ x) (h1 : x < 4294967296) : x % 4294967296 = x := Int.emod_eq_of_lt h0 h1
end Go.Proofs.Ytpjpbhjpobdenaa.NatC
/- What the printed functions of package nat compute: short, Trim, Of, plus, Add, times, Mul. -/
namespace Go.Proofs.Ytpjpbhjpobdenaa.NatC
open Go.RowKit Go.Proofs.Ytpjpbhjpobdenaa.PNat Go.Proofs.YtpjpbhjpobdenaaW.PrintWords Go.Proofs.YtpjpbhjpobdenaaW.PrintLast Go.Proofs.YtpjpbhjpobdenaaW.PrintMore Cw
theorem short_l0 (xs : List Int) (n : Nat) (hx : Is xs n) (hl : xs.length ≤ 140737488355328) : ∀ m : Nat, m ≤ xs.length → (∀ i, m ≤ i → i < xs.length → xs.getD i 0 = 0) →
  Evt (fun k => nat_short.l0 k xs m) (enc n) := by
 intro m
 induction m with
 | zero =>
  intro hm h
  refine Evt.step (fun k => nat_short.l0.eq_2 ..) (Evt.neg (by omega) (Evt.pos (by omega) (Evt.pos (by omega) (Evt.now' ?_))))
  exact take_eq_enc hx 0 hm h (.inl rfl)
 | succ m ih =>
  intro hm h
  refine Evt.step (fun k => nat_short.l0.eq_2 ..) ?_
  rw [wpred (by omega)]
  refine Evt.pos (by omega) (Evt.pos (by omega) (Evt.pos (by omega) ?_))
  by_cases hz : rd xs (m : Int) = 0
  ·
   refine Evt.pos hz (ih (by omega) fun i h1 h2 => ?_)
   by_cases hi : i = m
   ·
    rw [hi]; exact hz
   ·
    exact h i (by omega) h2
  ·
   refine Evt.neg hz (Evt.pos (by omega) (Evt.pos (by omega) (Evt.now' ?_)))
   exact take_eq_enc hx (m + 1) hm h (.inr hz)
theorem short_ev {xs : List Int} {n : Nat} (hx : Is xs n) (hl : xs.length ≤ 140737488355328) : Evt (fun k => nat_short.f k xs) (enc n) :=
 short_l0 xs n hx hl xs.length (Nat.le_refl _) (fun i h1 h2 => by omega)
theorem trim_ev {xs : List Int} {n : Nat} (hx : Is xs n) (hl : xs.length ≤ 35184372088831) : Evt (fun k => nat_Trim.f k xs) (enc n) := by
 unfold nat_Trim.f
 have := hx.enc_length
 exact Evt.bind (short_ev hx (by omega)) (Evt.pos (by simp; omega) (Evt.now' (by simp)))
theorem of_ev (n : Nat) (h : n < 18446744073709551616) : Evt (fun k => nat_Of.f k n) (enc n) := by
 unfold nat_Of.f
 refine Evt.bind (trim_ev (n := n) ⟨?_, ?_⟩ (by simp)) (Evt.now _)
 ·
  exact Lim.cons (by omega) (by omega) (Lim.cons (by omega) (by omega) Lim.nil)
 ·
  simp only [ev_cons, ev_nil]; omega
/-- the loop of plus: i limbs are added -/
theorem plus_l0 (a b : List Int) (m n : Nat) (ha : Is a m) (hb : Is b n) (hab : b.length ≤ a.length) (hl : a.length ≤ 35184372088000) : ∀ (d i : Nat) (out : List Int) (c : Int),
  i + d = a.length → Lim out → out.length = a.length + 1 → (∀ j, i ≤ j → out.getD j 0 = 0) → 0 ≤ c → c ≤ 1 → PlusInv a b out c i →
  Evt (fun k => nat_plus.l0 k a b out c (a.length : Int) (i : Int)) (enc (m + n)) := by
 intro d
 induction d with
 | zero =>
  intro i out c hi hlim hlen hz hc0 hc1 he
  refine Evt.step (fun k => nat_plus.l0.eq_2 ..) (Evt.neg (by omega) (Evt.pos (by omega) (Evt.pos (by omega) ?_)))
  refine Evt.bind (short_ev (n := m + n) ⟨hlim.set _ (by omega) (by omega), ?_⟩ (by rw [List.length_set]; omega)) (Evt.now _)
  have h1 : i = a.length := by omega
  subst h1
  rw [Int.toNat_natCast, mod_limb hc0 (by omega), he.last (Nat.le_refl _) hab (by omega) (hz _ (Nat.le_refl _)), ha.2, hb.2]; omega
 | succ d ih =>
  intro i out c hi hlim hlen hz hc0 hc1 he
  refine Evt.step (fun k => nat_plus.l0.eq_2 ..) (Evt.pos (by omega) (Evt.pos (by omega) (Evt.pos (by omega) ?_)))
  have hai := ha.1.getD i
  have hbi := hb.1.getD i
  have hn := he.step (by omega) (hz i (Nat.le_refl _))
  rw [wsucc (by omega)]
  simp only [rd_nat, Int.toNat_natCast]
  by_cases hlt : i < b.length
  ·
   refine Evt.pos (by omega) (Evt.pos (by omega) ?_)
   simp (disch := omega) only [wu64]
   exact ih (i + 1) _ _ (by omega) (hlim.set _ (by omega) (by omega)) (by rw [List.length_set]; omega) (fun j hj => by rw [lset_ne _ _ _ _ (by omega)]; exact hz j (by omega)) (by omega) (by omega) hn
  ·
   have hb0 : b.getD i 0 = 0 := getD_none' b i (by omega)
   refine Evt.neg (by omega) (Evt.pos (by omega) ?_)
   rw [hb0, Int.add_zero] at hn
   simp (disch := omega) only [wu64]
   exact ih (i + 1) _ _ (by omega) (hlim.set _ (by omega) (by omega)) (by rw [List.length_set]; omega) (fun j hj => by rw [lset_ne _ _ _ _ (by omega)]; exact hz j (by omega)) (by omega) (by omega) hn
theorem plus_j0 {a b : List Int} {m n : Nat} (ha : Is a m) (hb : Is b n) (hab : b.length ≤ a.length) (hl : a.length ≤ 35184372088000) : Evt (fun k => nat_plus.j0 k a b) (enc (m + n)) := by
 refine Evt.step (fun k => nat_plus.j0.eq_2 ..) ?_
 rw [wsucc (by omega)]
 refine Evt.pos (by omega) (Evt.pos (by omega) ?_)
 rw [Int.toNat_natCast]
 exact plus_l0 a b m n ha hb hab hl a.length 0 _ 0 (by omega) (Lim.zeros _) (by simp) (fun j _ => lzeros_getD _ _) (by omega) (by omega) (PlusInv.start ..)
theorem plus_ev {a b : List Int} {m n : Nat} (ha : Is a m) (hb : Is b n) (hl : a.length ≤ 35184372088000) (hl2 : b.length ≤ 35184372088000) : Evt (fun k => nat_plus.f k a b) (enc (m + n)) := by
 unfold nat_plus.f
 by_cases h : (a.length : Int) < b.length
 ·
  refine Evt.pos h ?_
  rw [Nat.add_comm]
  exact plus_j0 hb ha (by omega) hl2
 ·
  exact Evt.neg h (plus_j0 ha hb (by omega) hl)
end Go.Proofs.Ytpjpbhjpobdenaa.NatC
/- What the printed functions of package nat compute: times, Mul, Add, digit, Binomial, Bits, Pow. -/
namespace Go.Proofs.Ytpjpbhjpobdenaa.NatC
open Go.RowKit Go.Proofs.Ytpjpbhjpobdenaa.PNat Go.Proofs.YtpjpbhjpobdenaaW.PrintWords Go.Proofs.YtpjpbhjpobdenaaW.PrintLast Go.Proofs.YtpjpbhjpobdenaaW.PrintMore Cw
theorem times_l (a b : List Int) (m n : Nat) (ha : Is a m) (hb : Is b n) (hla : a.length ≤ 17592186044000) (hlb : b.length ≤ 17592186044000) : ∀ (d i : Nat) (out : List Int),
  i + d = a.length → Lim out → out.length = a.length + b.length → (∀ p, i + b.length ≤ p → out.getD p 0 = 0) → TimesInv a b out 0 i 0 →
  Evt (fun k => nat_times.l0 k b out a (a.length : Int) (i : Int)) (enc (m * n)) := by
 intro d
 induction d with
 | zero =>
  intro i out hi hlim hlen hz he
  refine Evt.step (fun k => nat_times.l0.eq_2 ..) (Evt.neg (by omega) ?_)
  refine Evt.bind (short_ev (n := m * n) ⟨hlim, ?_⟩ (by omega)) (Evt.now _)
  rw [he.last (by omega), ha.2, hb.2, Int.natCast_mul]
 | succ d ih =>
  intro i out hi hlim hlen hz he
  refine Evt.step (fun k => nat_times.l0.eq_2 ..) (Evt.pos (by omega) (Evt.pos (by omega) (Evt.pos (by omega) ?_)))
  rw [rd_nat]
  have hx := ha.1.getD i
  suffices H : ∀ (e j : Nat) (out : List Int) (c : Int), j + e = b.length → Lim out → out.length = a.length + b.length → (∀ p, i + b.length ≤ p → out.getD p 0 = 0) → 0 ≤ c → c < 4294967296 → TimesInv a b out c i j →
    Evt (fun k => nat_times.l1 k b out (i : Int) (a.getD i 0) c a (a.length : Int) (i : Int) b (b.length : Int) (j : Int)) (enc (m * n)) from
   H b.length 0 out 0 (by omega) hlim hlen hz (by omega) (by omega) he
  intro e
  induction e with
  | zero =>
   intro j out c hj hlim hlen hz hc0 hc1 he
   refine Evt.step (fun k => nat_times.l1.eq_2 ..) (Evt.neg (by omega) ?_)
   have hj' : j = b.length := by omega
   subst hj'
   rw [wadd (by omega), wsucc (by omega), mod_limb hc0 hc1, Int.toNat_natCast]
   refine Evt.pos (by omega) (Evt.pos (by omega) ?_)
   exact ih (i + 1) _ (by omega) (hlim.set _ hc0 hc1) (by rw [List.length_set]; omega) (fun p hp => by rw [lset_ne _ _ _ _ (by omega)]; exact hz p (by omega)) (he.next (by omega) (hz _ (Nat.le_refl _)))
  | succ e ihe =>
   intro j out c hj hlim hlen hz hc0 hc1 he
   refine Evt.step (fun k => nat_times.l1.eq_2 ..) (Evt.pos (by omega) (Evt.pos (by omega) (Evt.pos (by omega) ?_)))
   rw [wadd (by omega), wsucc (by omega)]
   refine Evt.pos (by omega) (Evt.pos (by omega) ?_)
   rw [rd_nat, rd_nat, Int.toNat_natCast]
   have hy := hb.1.getD j
   have ho := hlim.getD (i + j)
   have hm := mul_lim hx hy
   have hn := he.step (by omega)
   rw [wu64 hx.1 (by omega), wu64 hy.1 (by omega), wu64 hm.1 (by omega), wu64 ho.1 (by omega), wu64 (x := a.getD i 0 * b.getD j 0 + out.getD (i + j) 0) (by omega) (by omega), wu64 (x := a.getD i 0 * b.getD j 0 + out.getD (i + j) 0 + c) (by omega) (by omega)]
   exact ihe (j + 1) _ _ (by omega) (hlim.set _ (by omega) (by omega)) (by rw [List.length_set]; omega) (fun p hp => by rw [lset_ne _ _ _ _ (by omega)]; exact hz p hp) (by omega) (by omega) hn
theorem times_ev {a b : List Int} {m n : Nat} (ha : Is a m) (hb : Is b n) (hla : a.length ≤ 17592186044000) (hlb : b.length ≤ 17592186044000) : Evt (fun k => nat_times.f k a b) (enc (m * n)) := by
 unfold nat_times.f
 rw [wadd (by omega), Int.toNat_natCast]
 refine Evt.pos (by omega) (Evt.pos (by omega) ?_)
 exact times_l a b m n ha hb hla hlb a.length 0 _ (by omega) (Lim.zeros _) (by simp) (fun p _ => lzeros_getD _ _) (TimesInv.start ..)
/-- Mul of two factors -/
theorem mul2_ev {a b : List Int} {m n : Nat} (ha : Is a m) (hb : Is b n) (hla : a.length ≤ 1000000000) (hlb : b.length ≤ 1000000000) : Evt (fun k => nat_Mul.f k [a, b]) (enc (m * n)) := by
 have h1 := ha.enc_length
 have h2 := hb.enc_length
 have hab : (enc (m * n)).length ≤ a.length + b.length := enc_length_le _ (by
  rw [Nat.pow_add]; exact Nat.mul_lt_mul'' ha.lt hb.lt)
 refine Evt.step (f := fun k => nat_Mul.l0 (k + 1) [1] [a, b] 2 0) (fun k => rfl) ?_
 refine Evt.congr (fun k => nat_Mul.l0.eq_2 ..) (Evt.pos (by omega) (Evt.pos (by omega) (Evt.pos (by simp) ?_)))
 rw [show rd_L1 [a, b] 0 = a from rfl, show wrap64 (0 + 1) = 1 by unfold wrap64; omega]
 refine Evt.bind (short_ev ha (by omega)) (Evt.bind (times_ev (m := 1) (n := m) ⟨Lim.cons (by omega) (by omega) Lim.nil, rfl⟩ (enc_is m) (by simp) (by omega)) ?_)
 rw [Nat.one_mul]
 refine Evt.step (fun k => nat_Mul.l0.eq_2 ..) (Evt.pos (by omega) (Evt.pos (by omega) (Evt.pos (by simp) ?_)))
 rw [show rd_L1 [a, b] 1 = b from rfl, show wrap64 (1 + 1) = 2 by unfold wrap64; omega]
 refine Evt.bind (short_ev hb (by omega)) (Evt.bind (times_ev (enc_is m) (enc_is n) (by omega) (by omega)) ?_)
 refine Evt.step (fun k => nat_Mul.l0.eq_2 ..) (Evt.neg (by omega) (Evt.bind (trim_ev (enc_is _) (by omega)) (Evt.now _)))
/-- Add of two terms -/
theorem add2_ev {a b : List Int} {m n : Nat} (ha : Is a m) (hb : Is b n) (hla : a.length ≤ 1000000000) (hlb : b.length ≤ 1000000000) : Evt (fun k => nat_Add.f k [a, b]) (enc (m + n)) := by
 have h1 := ha.enc_length
 have h2 := hb.enc_length
 have hab : (enc (m + n)).length ≤ a.length + b.length + 1 := enc_length_le _ (by
  have e1 := ha.lt
  have e2 := hb.lt
  have e3 : 4294967296 ^ a.length ≤ 4294967296 ^ (a.length + b.length) := Nat.pow_le_pow_right (by omega) (by omega)
  have e4 : 4294967296 ^ b.length ≤ 4294967296 ^ (a.length + b.length) := Nat.pow_le_pow_right (by omega) (by omega)
  rw [Nat.pow_succ]; omega)
 refine Evt.step (f := fun k => nat_Add.l0 (k + 1) [] [a, b] 2 0) (fun k => rfl) ?_
 refine Evt.congr (fun k => nat_Add.l0.eq_2 ..) (Evt.pos (by omega) (Evt.pos (by omega) (Evt.pos (by simp) ?_)))
 rw [show rd_L1 [a, b] 0 = a from rfl, show wrap64 (0 + 1) = 1 by unfold wrap64; omega]
 refine Evt.bind (short_ev ha (by omega)) (Evt.bind (plus_ev (m := 0) (n := m) Is.nil (enc_is m) (by simp) (by omega)) ?_)
 rw [Nat.zero_add]
 refine Evt.step (fun k => nat_Add.l0.eq_2 ..) (Evt.pos (by omega) (Evt.pos (by omega) (Evt.pos (by simp) ?_)))
 rw [show rd_L1 [a, b] 1 = b from rfl, show wrap64 (1 + 1) = 2 by unfold wrap64; omega]
 refine Evt.bind (short_ev hb (by omega)) (Evt.bind (plus_ev (enc_is m) (enc_is n) (by omega) (by omega)) ?_)
 refine Evt.step (fun k => nat_Add.l0.eq_2 ..) (Evt.neg (by omega) (Evt.bind (trim_ev (enc_is _) (by omega)) (Evt.now _)))
theorem digit_l0 (a : List Int) (n : Nat) (d : Nat) (ha : Is a n) (hd0 : 0 < d) (hd1 : d < 4294967296) (hl : a.length ≤ 17592186044000) : ∀ (i : Nat) (out : List Int) (r : Int),
  i ≤ a.length → Lim out → out.length = a.length → (∀ p, p < i → out.getD p 0 = 0) → 0 ≤ r → r < d → DigInv a d out r i →
  Evt (fun k => nat_digit.l0 k a d out r ((i : Int) - 1)) (enc (n / d), ((n % d : Nat) : Int)) := by
 intro i
 induction i with
 | zero =>
  intro out r hi hlim hlen hz hr0 hr1 he
  refine Evt.step (fun k => nat_digit.l0.eq_2 ..) (Evt.neg (by omega) ?_)
  have h1 := he.last
  have h2 := hlim.is
  rw [ha.2, h2.2] at h1
  generalize (ev out 4294967296).toNat = q at *
  have hn : n = q * d + r.toNat := by
   have : (q : Int) * d = ((q * d : Nat) : Int) := by rw [Int.natCast_mul]
   omega
  have hq : n / d = q := by rw [hn, Nat.mul_comm, Nat.mul_add_div hd0, Nat.div_eq_of_lt (by omega)]; rfl
  have hm : n % d = r.toNat := by rw [hn, Nat.mul_comm, Nat.mul_add_mod, Nat.mod_eq_of_lt (by omega)]
  refine Evt.bind (short_ev h2 (by omega)) (Evt.now' ?_)
  rw [hq, hm, mod_limb hr0 (by omega)]
  have : ((r.toNat : Nat) : Int) = r := by omega
  rw [this]
 | succ i ih =>
  intro out r hi hlim hlen hz hr0 hr1 he
  refine Evt.step (fun k => nat_digit.l0.eq_2 ..) ?_
  rw [show (((i + 1 : Nat) : Int) - 1) = (i : Int) by omega, wpred2 (by omega)]
  have hx := ha.1.getD i
  have hs := dig_small (d := (d : Int)) ⟨hr0, hr1⟩ hx (by omega)
  have hn := he.step (by omega) (hz i (by omega))
  rw [wu64n (i := d) (by omega)]
  refine Evt.pos (by omega) (Evt.pos (by omega) (Evt.pos (by omega) (Evt.neg (by omega) (Evt.pos (by omega) ?_))))
  rw [rd_nat, wu64 (x := r * 4294967296) (by omega) (by omega), wu64 hx.1 (by omega), or_limb (by omega) hx, Int.toNat_natCast, tdivp (by omega), tmodp (by omega), wu64 hs.1 (by omega), mod_limb hs.1 hs.2]
  exact ih _ _ (by omega) (hlim.set _ hs.1 hs.2) (by rw [List.length_set]; omega) (fun p hp => by rw [lset_ne _ _ _ _ (by omega)]; exact hz p (by omega)) (Int.emod_nonneg _ (by omega)) (Int.emod_lt_of_pos _ (by omega)) hn
theorem digit_ev {a : List Int} {n d : Nat} (ha : Is a n) (hd0 : 0 < d) (hd1 : d < 4294967296) (hl : a.length ≤ 17592186044000) : Evt (fun k => nat_digit.f k a d) (enc (n / d), ((n % d : Nat) : Int)) := by
 unfold nat_digit.f
 refine Evt.pos (by omega) (Evt.pos (by omega) ?_)
 rw [w64 (by omega) (by omega), Int.toNat_natCast]
 exact digit_l0 a n d ha hd0 hd1 hl a.length _ 0 (Nat.le_refl _) (Lim.zeros _) (by simp) (fun p _ => lzeros_getD _ _) (by omega) (by omega) (DigInv.start ..)
end Go.Proofs.Ytpjpbhjpobdenaa.NatC
/- What the printed functions of package nat compute: Bits, Pow. -/
namespace Go.Proofs.Ytpjpbhjpobdenaa.NatC
open Go.RowKit Go.Proofs.Ytpjpbhjpobdenaa.PNat Go.Proofs.YtpjpbhjpobdenaaW.PrintWords Go.Proofs.YtpjpbhjpobdenaaW.PrintLast Go.Proofs.YtpjpbhjpobdenaaW.PrintMore Cw
theorem len_small : ∀ i : Fin 256, bits_Len32.f ((i.val : Nat) : Int) = some ((blen i.val : Nat) : Int) := by decide +kernel
theorem len_ev (n : Nat) (h : n < 4294967296) : bits_Len32.f (n : Int) = some ((blen n : Nat) : Int) := by
 have small : ∀ x : Nat, x < 256 → bits_Len32.f (x : Int) = some ((blen x : Nat) : Int) := fun x hx => len_small ⟨x, hx⟩
 have hb : ∀ (T : ByteArray) (i : Int) (c : Int), 0 ≤ c → c ≤ 100 → wrap64 (c + wrap64 (bt T i)) = c + bt T i := by
  intro T i c h0 h1
  have := bt_range T i
  rw [w64 (x := bt T i) (by omega) (by omega), w64 (by omega) (by omega)]
 by_cases h1 : n < 256
 ·
  exact small n h1
 by_cases h2 : n < 65536
 ·
  have key := small (n / 256) (by omega)
  have e : blen n = 8 + blen (n / 256) := by
   have := blen_shift (lo := n % 256) (hi := n / 256) (s := 8) (by omega) (by omega)
   rwa [show n % 256 + n / 256 * 2 ^ 8 = n by omega] at this
  unfold bits_Len32.f at key ⊢
  rw [if_neg (by omega), if_neg (by omega), if_pos (by omega), if_pos (by omega), hb _ _ _ (by omega) (by omega)] at key
  rw [if_neg (by omega), if_pos (by omega), if_pos (by omega), if_pos (by omega), hb _ _ _ (by omega) (by omega), e]
  rw [Int.natCast_ediv] at key
  have k2 := Option.some.inj key
  rw [Int.zero_add] at k2
  rw [show ((256 : Nat) : Int) = 256 by rfl] at k2
  rw [k2]; congr 1
 by_cases h3 : n < 16777216
 ·
  have key := small (n / 65536) (by omega)
  have e : blen n = 16 + blen (n / 65536) := by
   have := blen_shift (lo := n % 65536) (hi := n / 65536) (s := 16) (by omega) (by omega)
   rwa [show n % 65536 + n / 65536 * 2 ^ 16 = n by omega] at this
  unfold bits_Len32.f at key ⊢
  rw [if_neg (by omega), if_neg (by omega), if_pos (by omega), if_pos (by omega), hb _ _ _ (by omega) (by omega)] at key
  rw [if_pos (by omega), if_neg (by omega), if_pos (by omega), if_pos (by omega), hb _ _ _ (by omega) (by omega), e]
  rw [Int.natCast_ediv] at key
  have k2 := Option.some.inj key
  rw [Int.zero_add] at k2
  rw [show ((65536 : Nat) : Int) = 65536 by rfl] at k2
  rw [k2]; congr 1
 ·
  have key := small (n / 65536 / 256) (by omega)
  have e : blen n = 24 + blen (n / 65536 / 256) := by
   have := blen_shift (lo := n % 16777216) (hi := n / 65536 / 256) (s := 24) (by omega) (by omega)
   rwa [show n % 16777216 + n / 65536 / 256 * 2 ^ 24 = n by omega] at this
  unfold bits_Len32.f at key ⊢
  rw [if_neg (by omega), if_neg (by omega), if_pos (by omega), if_pos (by omega), hb _ _ _ (by omega) (by omega)] at key
  rw [if_pos (by omega), if_pos (by omega), if_pos (by omega), if_pos (by omega), hb _ _ _ (by omega) (by omega), e]
  rw [Int.natCast_ediv, Int.natCast_ediv] at key
  have k2 := Option.some.inj key
  rw [Int.zero_add] at k2
  rw [show ((65536 : Nat) : Int) = 65536 by rfl, show ((256 : Nat) : Int) = 256 by rfl] at k2
  rw [k2]; congr 1
theorem bits_ev {xs : List Int} {m : Nat} (hx : Is xs m) (hl : xs.length ≤ 1000000000) : Evt (fun k => nat_Bits.f k xs) ((blen m : Nat) : Int) := by
 unfold nat_Bits.f
 have hle := hx.enc_length
 refine Evt.bind (short_ev hx (by omega)) ?_
 by_cases h0 : m = 0
 ·
  refine Evt.pos (by rw [h0, enc_zero]; rfl) (Evt.now' ?_)
  rw [h0]; rfl
 ·
  obtain ⟨top, low, h1, h2, h3, h4, h5⟩ := enc_top h0
  have hp : 0 < (enc m).length := List.length_pos_iff.2 (enc_ne h0)
  have hb := blen_shift h4 (hi := top) (by omega)
  rw [← h5] at hb
  obtain ⟨L, hL⟩ : ∃ L, (enc m).length = L + 1 := ⟨(enc m).length - 1, by omega⟩
  rw [hL, Nat.add_sub_cancel] at h1 hb
  have hbl : blen top ≤ 32 := by
   have := blen_le (n := top) (by omega)
   have h6 : 2 ^ (blen top - 1) < 2 ^ 32 := by omega
   have := (Nat.pow_lt_pow_iff_right (by omega : 1 < 2)).1 h6
   omega
  rw [hL, wpred (by omega), rd_nat, h1]
  refine Evt.neg (by omega) (Evt.pos (by omega) (Evt.pos (by omega) (Evt.bind0 (len_ev top h3) (Evt.now' ?_))))
  rw [w64 (x := 32 * (L : Int)) (by omega) (by omega), w64 (by omega) (by omega), hb]
  omega
end Go.Proofs.Ytpjpbhjpobdenaa.NatC
/- What the printed function Cmp of nat computes. -/
namespace Go.Proofs.Ytpjpbhjpobdenaa.NatC
open Go.RowKit Go.Proofs.Ytpjpbhjpobdenaa.PNat Go.Proofs.YtpjpbhjpobdenaaW.PrintWords Go.Proofs.YtpjpbhjpobdenaaW.PrintLast Go.Proofs.YtpjpbhjpobdenaaW.PrintMore Cw
theorem cmp_l0 (a b : List Int) (m n : Nat) (ha : Is a m) (hb : Is b n) (hab : a.length = b.length) (hl : a.length ≤ 1000000000) : ∀ i : Nat, i ≤ a.length → TopEq a b i →
  Evt (fun k => nat_Cmp.l0 k a b ((i : Int) - 1)) (cmpN m n) := by
 intro i
 induction i with
 | zero =>
  intro _ h
  have e := h.zero
  rw [ha.2, hb.2] at e
  have : m = n := by omega
  subst this
  rw [cmpN_eq]
  exact Evt.step (fun k => nat_Cmp.l0.eq_2 ..) (Evt.neg (by omega) (Evt.now _))
 | succ i ih =>
  intro hi h
  refine Evt.step (fun k => nat_Cmp.l0.eq_2 ..) ?_
  rw [show (((i + 1 : Nat) : Int) - 1) = (i : Int) by omega, wpred2 (by omega)]
  refine Evt.pos (by omega) (Evt.pos (by omega) (Evt.pos (by omega) (Evt.pos (by omega) ?_)))
  rw [rd_nat, rd_nat]
  by_cases h1 : a.getD i 0 < b.getD i 0
  ·
   have e := h.lt ha.1 hb.1 h1
   rw [ha.2, hb.2] at e
   exact Evt.pos h1 (Evt.now' (cmpN_lt (by omega)).symm)
  by_cases h2 : a.getD i 0 > b.getD i 0
  ·
   have e := h.symm.lt hb.1 ha.1 h2
   rw [ha.2, hb.2] at e
   exact Evt.neg h1 (Evt.pos h2 (Evt.now' (cmpN_gt (by omega)).symm))
  ·
   exact Evt.neg h1 (Evt.neg h2 (ih (by omega) (h.step (by omega))))
theorem cmp_ev {a b : List Int} {m n : Nat} (ha : Is a m) (hb : Is b n) (hla : a.length ≤ 1000000000) (hlb : b.length ≤ 1000000000) : Evt (fun k => nat_Cmp.f k a b) (cmpN m n) := by
 unfold nat_Cmp.f
 have h1 := ha.enc_length
 have h2 := hb.enc_length
 refine Evt.bind (short_ev ha (by omega)) (Evt.bind (short_ev hb (by omega)) ?_)
 by_cases h : (enc m).length = (enc n).length
 ·
  rw [wpred2 (by omega)]
  exact Evt.pos (by omega) (cmp_l0 _ _ m n (enc_is m) (enc_is n) h (by omega) _ (Nat.le_refl _) (TopEq.start (by omega) (by omega)))
 ·
  refine Evt.neg (by omega) ?_
  by_cases h3 : (enc m).length < (enc n).length
  ·
   exact Evt.pos (by omega) (Evt.now' (cmpN_lt (enc_length_mono h3)).symm)
  ·
   exact Evt.neg (by omega) (Evt.now' (cmpN_gt (enc_length_mono (by omega))).symm)
end Go.Proofs.Ytpjpbhjpobdenaa.NatC
/- What the printed function Sub of package nat computes. -/
namespace Go.Proofs.Ytpjpbhjpobdenaa.NatC
open Go.RowKit Go.Proofs.Ytpjpbhjpobdenaa.PNat Go.Proofs.YtpjpbhjpobdenaaW.PrintWords Go.Proofs.YtpjpbhjpobdenaaW.PrintLast Go.Proofs.YtpjpbhjpobdenaaW.PrintMore Cw
theorem nsub_digit {x y c z : Int} (hx : 0 ≤ x ∧ x < 4294967296) (hy : 0 ≤ y ∧ y < 4294967296) (hc : 0 ≤ c ∧ c ≤ 1) (hz : z = ((x - c) % 18446744073709551616 - y) % 18446744073709551616) :
  z % 4294967296 = x - c - y + z / 9223372036854775808 * 4294967296 ∧ 0 ≤ z / 9223372036854775808 ∧ z / 9223372036854775808 ≤ 1 := by omega
theorem sub_l0 (a b : List Int) (m n : Nat) (ha : Is a m) (hb : Is b n) (hl : a.length ≤ 1000000000) (hlb : b.length ≤ a.length) (hmn : n ≤ m) : ∀ (d i : Nat) (out : List Int) (c : Int),
  i + d = a.length → Lim out → out.length = a.length → 0 ≤ c → c ≤ 1 → PSubInv a b out c i → Evt (fun k => nat_Sub.l0 k b out c (a.length : Int) (i : Int)) (enc (m - n), 0) := by
 intro d
 induction d with
 | zero =>
  intro i out c hi hlim hlen hc0 hc1 he
  have h1 : i = a.length := by omega
  subst h1
  exact Evt.step (fun k => nat_Sub.l0.eq_2 ..) (Evt.neg (by omega) (Evt.bind (short_ev (he.last ha hb hlb hlim hlen (by omega) hmn) (by omega)) (Evt.now _)))
 | succ d ih =>
  intro i out c hi hlim hlen hc0 hc1 he
  have hx := ha.1.getD i
  have hy := hb.1.getD i
  have ho := he.2 i (Nat.le_refl _)
  refine Evt.step (fun k => nat_Sub.l0.eq_2 ..) ?_
  rw [wsucc (by omega), rd_nat, ho, rd_nat, wu64 hx.1 (by omega), wu64 hy.1 (by omega), wu64_mod (a.getD i 0 - c), wu64_mod, Int.toNat_natCast]
  refine Evt.pos (by omega) (Evt.pos (by omega) (Evt.pos (by omega) ?_))
  by_cases hlt : i < b.length
  ·
   refine Evt.pos (by omega) ?_
   obtain ⟨z, hz⟩ : ∃ z, z = ((a.getD i 0 - c) % 18446744073709551616 - b.getD i 0) % 18446744073709551616 := ⟨_, rfl⟩
   obtain ⟨h1, h2, h3⟩ := nsub_digit hx hy ⟨hc0, hc1⟩ hz
   rw [← hz]
   exact ih (i + 1) _ _ (by omega) (hlim.set _ (by omega) (by omega)) (by rw [List.length_set]; exact hlen) h2 h3 (he.step (by omega) h1)
  ·
   refine Evt.neg (by omega) ?_
   have hb0 : b.getD i 0 = 0 := getD_none' b i (by omega)
   obtain ⟨z, hz⟩ : ∃ z, z = (a.getD i 0 - c) % 18446744073709551616 := ⟨_, rfl⟩
   obtain ⟨h1, h2, h3⟩ := nsub_digit (y := 0) (z := z) hx (by omega) ⟨hc0, hc1⟩ (by omega)
   rw [← hz]
   refine ih (i + 1) _ _ (by omega) (hlim.set _ (by omega) (by omega)) (by rw [List.length_set]; exact hlen) h2 h3 (he.step (by omega) ?_)
   rw [hb0]; exact h1
theorem sub_ev (m n : Nat) (hmn : n ≤ m) (hl : (enc m).length ≤ 1000000) : Evt (fun k => nat_Sub.f k (enc m) (enc n)) (enc (m - n), 0) := by
 unfold nat_Sub.f
 have hlb : (enc n).length ≤ (enc m).length := enc_length_le _ (Nat.lt_of_le_of_lt hmn (lt_of_enc_length (Nat.le_refl _)))
 refine Evt.bind (cmp_ev (enc_is m) (enc_is n) (by omega) (by omega)) (Evt.neg (fun h => by have := cmpN_neg.1 h; omega) (Evt.bind (trim_ev (enc_is m) (by omega)) ?_))
 exact sub_l0 (enc m) (enc n) m n (enc_is m) (enc_is n) (by omega) hlb hmn (enc m).length 0 (enc m) 0 (by omega) (enc_lim m) rfl (by omega) (by omega) (PSubInv.start ..)
end Go.Proofs.Ytpjpbhjpobdenaa.NatC
/- What the printed functions of package nat compute: step (Knuth's algorithm D). -/
namespace Go.Proofs.Ytpjpbhjpobdenaa.NatC
open Go.RowKit Go.Proofs.Ytpjpbhjpobdenaa.PNat Go.Proofs.YtpjpbhjpobdenaaW.PrintWords Go.Proofs.YtpjpbhjpobdenaaW.PrintLast Go.Proofs.YtpjpbhjpobdenaaW.PrintMore Cw
theorem wu64p {e : Int} (h0 : 1 ≤ e) (h1 : e < 18446744073709551616) : IntKind.u64.wrap (e - 1) = e - 1 := wu64 (by omega) (by omega)
/-- the estimate of the digit: whatever is told of each e' from q to q + 1 is told of the loop -/
theorem est_l0 (u v : List Int) (K : Nat) (P vl ul q : Int) (X : Int × List Int) (hu : Lim u) (hv : Lim v) (hK : 2 ≤ K) (hvl : v.length = K) (hul : u.length = K + 1) (hKb : K ≤ 1000000000)
  (kn : KN 4294967296 P (v.getD (K - 1) 0) (v.getD (K - 2) 0) vl (u.getD K 0 * 4294967296 + u.getD (K - 1) 0) (u.getD (K - 2) 0) ul q)
  (H : ∀ e : Int, q ≤ e → e ≤ q + 1 → e < 4294967296 → Evt (fun k => nat_step.j1 k u v K e) X) : ∀ (d : Nat) (e r : Int), 4294967296 - r ≤ d → 0 ≤ r → r < 8589934592 → q ≤ e → e ≤ 8589934592 →
  e * v.getD (K - 1) 0 + r = u.getD K 0 * 4294967296 + u.getD (K - 1) 0 → Evt (fun k => nat_step.l0 k u v K e r) X := by
 have hv1 := hv.getD (K - 1)
 have hv2 := hv.getD (K - 2)
 have hu0 := hu.getD K
 have hu1 := hu.getD (K - 1)
 have hu2 := hu.getD (K - 2)
 have hq0 := kn.q0
 have hq1 := kn.q1
 have hv1p := kn.hv1
 have done : ∀ e r : Int, 0 ≤ r → q ≤ e → e < 4294967296 → e * v.getD (K - 1) 0 + r = u.getD K 0 * 4294967296 + u.getD (K - 1) 0 → e * v.getD (K - 2) 0 ≤ r * 4294967296 + u.getD (K - 2) 0 → Evt (fun k => nat_step.j1 k u v K e) X :=
  fun e r hr hq he heq hle => H e hq (kn.stop (by omega) he heq hle) he
 -- once r has grown past the base, e is a digit
 have big : ∀ e r : Int, 4294967296 ≤ r → q ≤ e → e * v.getD (K - 1) 0 + r = u.getD K 0 * 4294967296 + u.getD (K - 1) 0 → Evt (fun k => nat_step.j1 k u v K e) X := by
  intro e r hr hq heq
  have htop : u.getD K 0 * 4294967296 + u.getD (K - 1) 0 < (v.getD (K - 1) 0 + 1) * 4294967296 := kn.top_lt
  have he : e < 4294967296 := by
   have : e * v.getD (K - 1) 0 < 4294967296 * v.getD (K - 1) 0 := by
    rw [Int.add_mul, Int.one_mul] at htop
    rw [Int.mul_comm 4294967296]
    omega
   exact Int.lt_of_mul_lt_mul_right this (by omega)
  refine done e r (by omega) hq he heq ?_
  have h1 : e * v.getD (K - 2) 0 ≤ 4294967295 * v.getD (K - 2) 0 := Int.mul_le_mul_of_nonneg_right (by omega) hv2.1
  omega
 intro d
 induction d with
 | zero =>
  intro e r hd hr hr2 hq he heq
  exact Evt.step (fun k => nat_step.l0.eq_2 ..) (Evt.neg (by omega) (big e r (by omega) hq heq))
 | succ d ih =>
  intro e r hd hr hr2 hq he heq
  refine Evt.step (fun k => nat_step.l0.eq_2 ..) ?_
  by_cases hb : r < 4294967296
  ·
   refine Evt.pos hb ?_
   have hnext : (e - 1) * v.getD (K - 1) 0 + (r + v.getD (K - 1) 0) = u.getD K 0 * 4294967296 + u.getD (K - 1) 0 := by
    rw [Int.sub_mul, Int.one_mul]; omega
   have e1 : wrap64 ((K : Int) - 1) = ((K - 1 : Nat) : Int) := by rw [w64 (by omega) (by omega)]; omega
   have e2 : wrap64 ((K : Int) - 2) = ((K - 2 : Nat) : Int) := by rw [w64 (by omega) (by omega)]; omega
   rw [e1, e2, rd_nat, rd_nat, rd_nat, wu64 hv1.1 (by omega), wu64 hv2.1 (by omega), wu64 hu2.1 (by omega)]
   clear e1 e2
   by_cases hbig : e ≥ 4294967296
   ·
    refine Evt.pos hbig (Evt.pos (by omega) (Evt.pos (by omega) ?_))
    rw [wu64p (by omega) (by omega), wu64 (by omega) (by omega)]
    exact ih (e - 1) _ (by omega) (by omega) (by omega) (by omega) (by omega) hnext
   ·
    refine Evt.neg hbig (Evt.pos (by omega) (Evt.pos (by omega) (Evt.pos (by omega) ?_)))
    have hm := mul_lim (a := e) (b := v.getD (K - 2) 0) (by omega) hv2
    rw [wu64 hm.1 (by omega), wu64 (x := r * 4294967296) (by omega) (by omega), or_limb (by omega) hu2]
    by_cases hdn : e * v.getD (K - 2) 0 > r * 4294967296 + u.getD (K - 2) 0
    ·
     have hqe := kn.down heq hdn
     refine Evt.pos hdn (Evt.pos (by omega) (Evt.pos (by omega) ?_))
     rw [wu64p (by omega) (by omega), wu64 (by omega) (by omega)]
     exact ih (e - 1) _ (by omega) (by omega) (by omega) hqe (by omega) hnext
    ·
     exact Evt.neg hdn (done e r hr hq (by omega) heq (by omega))
  ·
   exact Evt.neg hb (big e r (by omega) hq heq)
/-- a digit with a borrow, in 64 bits -/
theorem sub_digit {x p b z : Int} (hx : 0 ≤ x ∧ x < 4294967296) (hp : 0 ≤ p ∧ p < 4294967296) (hb : 0 ≤ b ∧ b ≤ 1) (hz : z = ((x - p) % 18446744073709551616 - b) % 18446744073709551616) :
  z % 4294967296 = x - p - b + z / 9223372036854775808 * 4294967296 ∧ 0 ≤ z / 9223372036854775808 ∧ z / 9223372036854775808 ≤ 1 ∧ (z / 9223372036854775808 = 0 ↔ 0 ≤ x - p - b) := by omega
theorem l2_ev (w0 v : List Int) (K : Nat) (e : Int) (n : Nat) (hv : Lim v) (hvl : v.length = K) (hKb : K ≤ 1000000000) (hw0 : w0.length = K + 1) (he : 1 ≤ e ∧ e < 4294967296)
  (hn : ∀ w : List Int, Lim w → w.length = K + 1 → (∃ t : Int, ev w 4294967296 = ev w0 4294967296 + ev v 4294967296 - t * 4294967296 ^ (K + 1)) → w = lims (K + 1) n) : ∀ (d i : Nat) (w : List Int) (c : Int),
  i + d = K → Lim w → w.length = K + 1 → 0 ≤ c → c ≤ 1 → AddInv w0 v w c i → Evt (fun k => nat_step.l2 k w v K e c (v.length : Int) i) (e - 1, lims (K + 1) n) := by
 intro d
 induction d with
 | zero =>
  intro i w c hi hw hl hc0 hc1 h
  have hiK : i = K := by omega
  subst hiK
  refine Evt.step (fun k => nat_step.l2.eq_2 ..) (Evt.neg (by omega) (Evt.pos (by omega) (Evt.pos (by omega) (Evt.now' ?_))))
  have hx := hw.getD i
  have e1 := h.2 i (Nat.le_refl _)
  rw [rd_nat, mod_limb (x := c) (by omega) (by omega), Int.toNat_natCast, wu64p he.1 (by omega), mod_limb (x := e - 1) (by omega) (by omega)]
  congr 1
  refine hn _ (hw.set _ (by omega) (by omega)) (by rw [List.length_set]; exact hl) ⟨(w.getD i 0 + c) / 4294967296, ?_⟩
  refine h.last hvl (by omega) ?_
  rw [← e1]
  have := Int.emod_add_mul_ediv (w.getD i 0 + c) 4294967296
  omega
 | succ d ih =>
  intro i w c hi hw hl hc0 hc1 h
  refine Evt.step (fun k => nat_step.l2.eq_2 ..) (Evt.pos (by omega) (Evt.pos (by omega) (Evt.pos (by omega) (Evt.pos (by omega) ?_))))
  have hx := hw.getD i
  have hy := hv.getD i
  have hs := h.step (by omega)
  rw [← h.2 i (Nat.le_refl _)] at hs
  rw [rd_nat, rd_nat, wsucc (by omega), Int.toNat_natCast, wu64 hx.1 (by omega), wu64 hy.1 (by omega), wu64 (x := w.getD i 0 + v.getD i 0) (by omega) (by omega), wu64 (x := w.getD i 0 + v.getD i 0 + c) (by omega) (by omega)]
  exact ih (i + 1) _ _ (by omega) (hw.set _ (by omega) (by omega)) (by rw [List.length_set]; exact hl) (by omega) (by omega) hs
theorem l1_ev (u v : List Int) (K : Nat) (e : Int) (U V : Nat) (hu : Is u U) (hv : Is v V) (hvl : v.length = K) (hul : u.length = K + 1) (hKb : K ≤ 1000000000) (he0 : 0 ≤ e) (heB : e < 4294967296)
  (hV : 0 < V) (heq : e = ((U / V : Nat) : Int) ∨ e = ((U / V : Nat) : Int) + 1) : ∀ (d i : Nat) (w : List Int) (c b : Int),
  i + d = K → Lim w → w.length = K + 1 → 0 ≤ c → c < 4294967296 → 0 ≤ b → b ≤ 1 → SubInv u v w e c b i →
  Evt (fun k => nat_step.l1 k w v K e b c (v.length : Int) i) (((U / V : Nat) : Int), lims (K + 1) (U % V)) := by
 have hVlt : V < 4294967296 ^ (K + 1) := by
  have := hv.lt
  rw [hvl] at this
  exact Nat.lt_of_lt_of_le this (Nat.pow_le_pow_right (by omega) (by omega))
 have hmod : U % V < 4294967296 ^ (K + 1) := Nat.lt_of_lt_of_le (Nat.mod_lt _ hV) (Nat.le_of_lt hVlt)
 have hdm : (U : Int) = ((U / V : Nat) : Int) * (V : Int) + ((U % V : Nat) : Int) := by
  rw [← Int.natCast_mul, ← Int.natCast_add, Int.ofNat_inj, Nat.mul_comm]; exact (Nat.div_add_mod U V).symm
 have hml := Nat.mod_lt U hV
 have hBK : (0 : Int) < 4294967296 ^ (K + 1) := Int.pow_pos (by omega)
 intro d
 induction d with
 | zero =>
  intro i w c b hi hw hl hc0 hc1 hb0 hb1 h
  have hiK : i = K := by omega
  subst hiK
  refine Evt.step (fun k => nat_step.l1.eq_2 ..) (Evt.neg (by omega) (Evt.pos (by omega) (Evt.pos (by omega) ?_)))
  have hx := hw.getD i
  rw [rd_nat, wu64 hx.1 (by omega), wu64_mod (w.getD i 0 - c), wu64_mod, Int.toNat_natCast]
  obtain ⟨z, hz⟩ : ∃ z, z = ((w.getD i 0 - c) % 18446744073709551616 - b) % 18446744073709551616 := ⟨_, rfl⟩
  rw [← hz]
  have hsd := sub_digit hx ⟨hc0, hc1⟩ ⟨hb0, hb1⟩ hz
  have hlim : Lim (w.set i (z % 4294967296)) := hw.set _ (by omega) (by omega)
  have hll : (w.set i (z % 4294967296)).length = i + 1 := by rw [List.length_set]; exact hl
  have hval := h.last (d := z % 4294967296) (t := z / 9223372036854775808) hvl (by omega) (by rw [← h.2 i (Nat.le_refl _)]; exact hsd.1)
  rw [hu.2, hv.2] at hval
  have hnn := hlim.nonneg
  have hlt := hlim.lt
  rw [hll] at hlt
  have hR0 : (0 : Int) ≤ ((U % V : Nat) : Int) := Int.natCast_nonneg _
  have hRV : ((U % V : Nat) : Int) < (V : Int) := Int.ofNat_lt.2 hml
  have hRP : ((U % V : Nat) : Int) < 4294967296 ^ (i + 1) := by
   have := Int.ofNat_lt.2 hmod
   rwa [Int.natCast_pow] at this
  have hq0 : (0 : Int) ≤ ((U / V : Nat) : Int) := Int.natCast_nonneg _
  refine Evt.bind (Evt.now _) ?_
  by_cases ht : z / 9223372036854775808 = 0
  ·
   rw [ht, Int.zero_mul, Int.add_zero] at hval
   obtain ⟨he, hD⟩ := fin0 hdm hRV hval hnn heq
   refine Evt.pos ht (Evt.now' ?_)
   rw [mod_limb he0 heB, he]
   congr 1
   have := eq_lims (n := U % V) ⟨hlim, hD⟩
   rw [hll] at this
   exact this
  ·
   have ht1 : z / 9223372036854775808 = 1 := by
    have a1 := hsd.2.1
    have a2 := hsd.2.2.1
    clear hsd hz hval hnn hlt hdm heq
    omega
   rw [ht1, Int.one_mul] at hval
   obtain ⟨he, hD⟩ := fin1 hdm hR0 hval hlt heq
   have hl2 := l2_ev (w.set i (z % 4294967296)) v i e (U % V) hv.1 hvl hKb hll ⟨by omega, heB⟩ (fun w' hw' hl' ⟨t, ht'⟩ => by
    rw [hv.2] at ht'
    have n1 := hw'.nonneg
    have n2 := hw'.lt
    rw [hl'] at n2
    have := eq_lims (n := U % V) ⟨hw', fin2 ht' hD n1 n2 hR0 hRP⟩
    rw [hl'] at this
    exact this) i 0 (w.set i (z % 4294967296)) 0 (by omega) hlim hll (by omega) (by omega) (AddInv.start ..)
   rw [show e - 1 = ((U / V : Nat) : Int) by omega] at hl2
   exact Evt.neg ht hl2
 | succ d ih =>
  intro i w c b hi hw hl hc0 hc1 hb0 hb1 h
  refine Evt.step (fun k => nat_step.l1.eq_2 ..) (Evt.pos (by omega) (Evt.pos (by omega) (Evt.pos (by omega) (Evt.pos (by omega) ?_))))
  have hx := hw.getD i
  have hy := hv.1.getD i
  have hm := mul_lim (a := e) (b := v.getD i 0) ⟨he0, heB⟩ hy
  rw [rd_nat, rd_nat, wsucc (by omega), Int.toNat_natCast, wu64 hy.1 (by omega), wu64 hm.1 (by omega), wu64 (x := e * v.getD i 0 + c) (by omega) (by omega), wu64 hx.1 (by omega), wu64_mod (w.getD i 0 - (e * v.getD i 0 + c) % 4294967296), wu64_mod]
  obtain ⟨p, hp⟩ : ∃ p, p = e * v.getD i 0 + c := ⟨_, rfl⟩
  have hs := fun d' b' hd => h.step (d := d') (b' := b') (by omega) hd
  rw [← h.2 i (Nat.le_refl _), ← hp] at hs
  rw [← hp]
  obtain ⟨z, hz⟩ : ∃ z, z = ((w.getD i 0 - p % 4294967296) % 18446744073709551616 - b) % 18446744073709551616 := ⟨_, rfl⟩
  rw [← hz]
  have hsd := sub_digit hx (p := p % 4294967296) (by omega) ⟨hb0, hb1⟩ hz
  have hs' := hs _ _ hsd.1
  have hp2 : p ≤ 18446744069414584320 := by omega
  clear hz hs
  exact ih (i + 1) _ _ _ (by omega) (hw.set _ (by omega) (by omega)) (by rw [List.length_set]; exact hl) (by omega) (by omega) (by omega) (by omega) hs'
/-- step: one digit of the quotient, and the rest in place -/
theorem step_ev (u v : List Int) (L U V : Nat) (hu : Is u U) (hv : Is v V) (hul : u.length = L + 3) (hvl : v.length = L + 2) (ht : 1 ≤ v.getD (L + 1) 0) (hV : 0 < V) (hlt : U < V * 4294967296) (hL : L ≤ 900000000) :
  Evt (fun k => nat_step.f k u v) (((U / V : Nat) : Int), lims (L + 3) (U % V)) := by
 have kn := kn_of hu hv hul hvl ht hV hlt
 have hv1 := hv.1.getD (L + 1)
 have hu0 := hu.1.getD (L + 2)
 have hu1 := hu.1.getD (L + 1)
 have htl := kn.top_lt
 have hks := kn.start
 unfold nat_step.f
 refine Evt.pos (by omega) (Evt.pos (by omega) ?_)
 rw [show (v.length : Int) = ((L + 2 : Nat) : Int) by rw [hvl], wpred (i := L + 1) (by omega), rd_nat, rd_nat, rd_nat]
 refine Evt.pos (by omega) (Evt.pos (by omega) (Evt.pos (by omega) ?_))
 rw [wu64 hv1.1 (by omega), wu64 hu0.1 (by omega), wu64 hu1.1 (by omega), wu64 (x := u.getD (L + 2) 0 * 4294967296) (by omega) (by omega), or_limb (by omega) hu1, tdivp (by omega), tmodp (by omega)]
 refine Evt.neg (by omega) ?_
 have hdm := Int.emod_add_mul_ediv (u.getD (L + 2) 0 * 4294967296 + u.getD (L + 1) 0) (v.getD (L + 1) 0)
 rw [Int.mul_comm (v.getD (L + 1) 0)] at hdm
 have hr0 := Int.emod_nonneg (u.getD (L + 2) 0 * 4294967296 + u.getD (L + 1) 0) (show v.getD (L + 1) 0 ≠ 0 by omega)
 have hr1 := Int.emod_lt_of_pos (u.getD (L + 2) 0 * 4294967296 + u.getD (L + 1) 0) (show 0 < v.getD (L + 1) 0 by omega)
 have he : (u.getD (L + 2) 0 * 4294967296 + u.getD (L + 1) 0) / v.getD (L + 1) 0 ≤ 8589934592 := by
  apply Int.le_of_lt
  apply Int.ediv_lt_of_lt_mul (by omega)
  rw [Int.add_mul, Int.one_mul] at htl
  omega
 have he0 : 0 ≤ (u.getD (L + 2) 0 * 4294967296 + u.getD (L + 1) 0) / v.getD (L + 1) 0 := Int.ediv_nonneg (by omega) (by omega)
 rw [wu64 (x := (u.getD (L + 2) 0 * 4294967296 + u.getD (L + 1) 0) / v.getD (L + 1) 0) he0 (by omega)]
 refine est_l0 u v (L + 2) _ _ _ _ _ hu.1 hv.1 (by omega) hvl hul (by omega) kn ?_ 4294967296 _ _ (by omega) hr0 (by omega) hks he (by
  show _ * v.getD (L + 1) 0 + _ = u.getD (L + 2) 0 * 4294967296 + u.getD (L + 1) 0
  omega)
 intro e hq1 hq2 heB
 refine Evt.step (fun k => nat_step.j1.eq_2 ..) ?_
 have hq0 := kn.q0
 exact l1_ev u v (L + 2) e U V hu hv hvl hul (by omega) (by omega) heB hV (by omega) (L + 2) 0 u 0 0 (by omega) hu.1 hul (by omega) (by omega) (by omega) (by omega) (SubInv.start u v e)
end Go.Proofs.Ytpjpbhjpobdenaa.NatC
/- What the printed functions of package nat compute: shift, long, DivMod. -/
namespace Go.Proofs.Ytpjpbhjpobdenaa.NatC
open Go.RowKit Go.Proofs.Ytpjpbhjpobdenaa.PNat Go.Proofs.YtpjpbhjpobdenaaW.PrintWords Go.Proofs.YtpjpbhjpobdenaaW.PrintLast Go.Proofs.YtpjpbhjpobdenaaW.PrintMore Cw
theorem two_pow_31 {s : Nat} (hs : s ≤ 31) : (1 : Int) ≤ 2 ^ s ∧ (2 : Int) ^ s ≤ 2147483648 := by
 have h : 2 ^ s ≤ 2 ^ 31 := Nat.pow_le_pow_right (by omega) hs
 have h0 := Int.ofNat_le.2 h
 have e : ((2 ^ s : Nat) : Int) = (2 : Int) ^ s := by rw [Int.natCast_pow]; rfl
 rw [e] at h0
 exact ⟨Int.pow_pos (by omega), h0⟩
theorem shl_or {x c : Int} {s : Nat} (hs : s ≤ 31) (hx : 0 ≤ x ∧ x < 4294967296) (hc : 0 ≤ c ∧ c < 2 ^ s) : Go.bits .or .u64 (shl .u64 x s) c = x * 2 ^ s + c := by
 have hM : (1 : Int) ≤ 2 ^ s ∧ (2 : Int) ^ s ≤ 2147483648 := two_pow_31 hs
 have h := sh_carry hx hM hc
 have e : shl .u64 x s = x * 2 ^ s := by
  unfold shl
  rw [Int.toNat_natCast, Nat.min_eq_left (by show s ≤ 64; omega)]
  exact wu64 h.1 (by omega)
 rw [e]
 exact bits_join .u64 64 (by decide) wraps_u64 s (x * 2 ^ s) c h.1 (Int.mul_emod_left ..) (by omega) hc.1 hc.2 (by omega)
theorem shift_l0 (a : List Int) (n s : Nat) (ha : Is a n) (hs : s ≤ 31) (hl : a.length ≤ 1000000000) : ∀ (d i : Nat) (out : List Int) (c : Int),
  i + d = a.length → Lim out → out.length = a.length + 1 → (∀ j, i ≤ j → out.getD j 0 = 0) → 0 ≤ c → c < 2 ^ s → ShInv a out (2 ^ s) c i →
  Evt (fun k => nat_shift.l0 k a s out c a (a.length : Int) (i : Int)) (lims (a.length + 1) (n * 2 ^ s)) := by
 have hM : (1 : Int) ≤ 2 ^ s ∧ (2 : Int) ^ s ≤ 2147483648 := two_pow_31 hs
 intro d
 induction d with
 | zero =>
  intro i out c hi hlim hlen hz hc0 hc1 he
  have h1 : i = a.length := by omega
  subst h1
  refine Evt.step (fun k => nat_shift.l0.eq_2 ..) (Evt.neg (by omega) (Evt.pos (by omega) (Evt.pos (by omega) (Evt.now' ?_))))
  rw [Int.toNat_natCast, mod_limb hc0 (by omega)]
  have hv := he.last (Nat.le_refl _) (by omega) (hz _ (Nat.le_refl _))
  rw [ha.2] at hv
  have := eq_lims (n := n * 2 ^ s) (xs := out.set a.length c) ⟨hlim.set _ hc0 (by omega), by rw [hv, Int.natCast_mul, Int.natCast_pow, Int.mul_comm]; rfl⟩
  rw [List.length_set, hlen] at this
  exact this
 | succ d ih =>
  intro i out c hi hlim hlen hz hc0 hc1 he
  refine Evt.step (fun k => nat_shift.l0.eq_2 ..) (Evt.pos (by omega) (Evt.pos (by omega) (Evt.pos (by omega) (Evt.pos (by omega) (Evt.pos (by omega) ?_)))))
  have hai := ha.1.getD i
  have hn := he.step (by omega) (hz i (Nat.le_refl _))
  have hcc := sh_carry hai hM ⟨hc0, hc1⟩
  rw [wsucc (by omega), rd_nat, Int.toNat_natCast, wu64 hai.1 (by omega), shl_or hs hai ⟨hc0, hc1⟩]
  exact ih (i + 1) _ _ (by omega) (hlim.set _ (by omega) (by omega)) (by rw [List.length_set]; omega) (fun j hj => by rw [lset_ne _ _ _ _ (by omega)]; exact hz j (by omega)) hcc.2.2.1 hcc.2.2.2 hn
theorem shift_ev (a : List Int) (n s : Nat) (ha : Is a n) (hs : s ≤ 31) (hl : a.length ≤ 1000000000) : Evt (fun k => nat_shift.f k a s) (lims (a.length + 1) (n * 2 ^ s)) := by
 unfold nat_shift.f
 rw [wsucc (by omega)]
 refine Evt.pos (by omega) (Evt.pos (by omega) ?_)
 rw [Int.toNat_natCast]
 exact shift_l0 a n s ha hs hl a.length 0 _ 0 (by omega) (Lim.zeros _) (by simp) (fun j _ => lzeros_getD _ _) (by omega) (Int.pow_pos (by omega)) (ShInv.start ..)
theorem lz_ev (n : Nat) (h : n < 4294967296) : bits_LeadingZeros32.f (n : Int) = some ((32 - blen n : Nat) : Int) := by
 have hb := blen_le_32 h
 unfold bits_LeadingZeros32.f
 rw [len_ev n h, Option.bind_some, show (32 : Int) = ((32 : Nat) : Int) from rfl, wsub (by omega) hb]
theorem or_comm_u64 (x y : Int) : Go.bits .or .u64 x y = Go.bits .or .u64 y x := by
 unfold Go.bits
 dsimp only
 rw [BitVec.or_comm]
end Go.Proofs.Ytpjpbhjpobdenaa.NatC
/- What the printed functions of package nat compute: long, DivMod. -/
namespace Go.Proofs.Ytpjpbhjpobdenaa.NatC
open Go.RowKit Go.Proofs.Ytpjpbhjpobdenaa.PNat Go.Proofs.YtpjpbhjpobdenaaW.PrintWords Go.Proofs.YtpjpbhjpobdenaaW.PrintLast Go.Proofs.YtpjpbhjpobdenaaW.PrintMore Cw
/-- one limb of the rest, shifted back -/
theorem back_one (x : List Int) (m s i : Nat) (hx : Is x m) (hs : s ≤ 31) (hi : i + 1 < x.length) :
  shr .u64 (Go.bits .or .u64 (x.getD i 0) (x.getD (i + 1) 0 * 4294967296)) (s : Int) % 4294967296 = ((m / 2 ^ s / 4294967296 ^ i % 4294967296 : Nat) : Int) := by
 have e1 : x.getD i 0 = ((m / 4294967296 ^ i % 4294967296 : Nat) : Int) := by
  rw [eq_lims hx, lims_getD _ _ _ (by omega)]
 have e2 : x.getD (i + 1) 0 = ((m / 4294967296 ^ (i + 1) % 4294967296 : Nat) : Int) := by
  rw [eq_lims hx, lims_getD _ _ _ (by omega)]
 rw [or_comm_u64, or_limb (hx.1.getD _) (hx.1.getD _), e1, e2]
 have e3 : m / 4294967296 ^ (i + 1) = m / 4294967296 ^ i / 4294967296 := by rw [Nat.pow_succ, Nat.div_div_eq_div_mul]
 have e4 : m / 2 ^ s / 4294967296 ^ i = m / 4294967296 ^ i / 2 ^ s := by rw [Nat.div_div_eq_div_mul, Nat.div_div_eq_div_mul, Nat.mul_comm]
 rw [e3, e4, ← back_limb _ _ hs]
 generalize m / 4294967296 ^ i = M
 have e5 : shr .u64 (((M / 4294967296 % 4294967296 : Nat) : Int) * 4294967296 + ((M % 4294967296 : Nat) : Int)) (s : Int) = (((M % 4294967296 + M / 4294967296 % 4294967296 * 4294967296) / 2 ^ s : Nat) : Int) := by
  unfold shr
  rw [Int.toNat_natCast, Nat.min_eq_left (by show s ≤ 64; omega), Int.natCast_ediv, Int.natCast_pow, Int.natCast_add, Int.natCast_mul, Int.add_comm]
  rfl
 rw [e5, Int.natCast_emod]
 rfl
theorem long_l1 (x4 x8 : List Int) (m s K : Nat) (hx : Is x8 m) (hs : s ≤ 31) (hK : K + 1 ≤ x8.length) (hl : x8.length ≤ 1000000000) : ∀ (d i : Nat) (out : List Int),
  i + d = K → out.length = K → (∀ j, j < i → out.getD j 0 = (lims K (m / 2 ^ s)).getD j 0) →
  Evt (fun k => nat_long.l1 k x4 out s x8 K i) (x4, lims K (m / 2 ^ s)) := by
 intro d
 induction d with
 | zero =>
  intro i out hi hlen h
  have : out = lims K (m / 2 ^ s) := ext_getD (by rw [lims_length]; exact hlen) (fun j hj => h j (by omega))
  exact Evt.step (fun k => nat_long.l1.eq_2 ..) (Evt.neg (by omega) (Evt.now' (by rw [this])))
 | succ d ih =>
  intro i out hi hlen h
  have hx1 := hx.1.getD i
  have hx2 := hx.1.getD (i + 1)
  refine Evt.step (fun k => nat_long.l1.eq_2 ..) ?_
  rw [wsucc (by omega)]
  refine Evt.pos (by omega) (Evt.pos (by omega) (Evt.pos (by omega) (Evt.pos (by omega) (Evt.pos (by omega) (Evt.pos (by omega) (Evt.pos (by omega) ?_))))))
  rw [rd_nat, rd_nat, wu64 hx1.1 (by omega), wu64 hx2.1 (by omega), wu64 (x := x8.getD (i + 1) 0 * 4294967296) (by omega) (by omega), Int.toNat_natCast, back_one x8 m s i hx hs (by omega)]
  refine ih (i + 1) _ (by omega) (by rw [List.length_set]; exact hlen) (fun j hj => ?_)
  by_cases hji : j = i
  ·
   rw [hji, lset_self _ _ _ (by omega), lims_getD _ _ _ (by omega)]
  ·
   rw [lset_ne _ _ _ _ (by omega)]; exact h j (by omega)
theorem long_l0 (v : List Int) (L s U V J : Nat) (hv : Is v V) (hvl : v.length = L + 2) (ht : 1 ≤ v.getD (L + 1) 0) (hV0 : 0 < V) (hs : s ≤ 31) (hL : L ≤ 400000000) (hJ : J ≤ 400000000) (hJ1 : 1 ≤ J) : ∀ (t : Nat) (x4 x8 : List Int),
  x4.length = J → x8.length = J + (L + 2) → t ≤ J → LongInv x4 x8 U V t → (∀ i, i < t → x4.getD i 0 = 0) →
  Evt (fun k => nat_long.l0 k x4 s v x8 ((L + 2 : Nat) : Int) ((t : Int) - 1)) (lims J (U / V), lims (L + 2) (U % V / 2 ^ s)) := by
 intro t
 induction t with
 | zero =>
  intro x4 x8 h4 h8 _ h _
  obtain ⟨i4, i8⟩ := h.last
  refine Evt.step (fun k => nat_long.l0.eq_2 ..) (Evt.neg (by omega) (Evt.pos (by omega) (Evt.pos (by omega) ?_)))
  have e := eq_lims i4
  rw [h4] at e
  have := long_l1 x4 x8 (U % V) s (L + 2) i8 hs (by omega) (by omega) (L + 2) 0 (List.replicate (L + 2) 0) (by omega) (by simp) (fun j hj => by omega)
  rw [← e, Int.toNat_natCast]
  refine Evt.bind0 (f := fun k y187 => nat_long.l1 k x4 y187 s x8 (y187.length : Int) 0) rfl ?_
  rw [List.length_replicate]
  exact this
 | succ t ih =>
  intro x4 x8 h4 h8 htJ h hz
  have hVK := hv.lt
  rw [hvl] at hVK
  obtain ⟨W, hW, hlt, he, hhi, h0, h1⟩ := h.win hVK (by omega)
  have hn := h.step hV0 hVK (by omega) (by omega) (hz t (by omega)) hlt he hhi h0 h1
  have hwl := win_length x8 t (L + 2) (by omega)
  have hpl := put_length x8 (lims (L + 2 + 1) (W % V)) t (L + 2) (by omega) (lims_length _ _)
  refine Evt.step (fun k => nat_long.l0.eq_2 ..) ?_
  rw [show (((t + 1 : Nat) : Int) - 1) = (t : Int) by omega, wadd (by omega), wsucc (by omega), wpred2 (by omega)]
  refine Evt.pos (by omega) (Evt.pos (by omega) (Evt.pos (by omega) (Evt.pos (by omega) ?_)))
  rw [Int.toNat_natCast, Int.toNat_natCast]
  refine Evt.bind (step_ev _ v L W V hW hv hwl hvl ht hV0 hlt (by omega)) (Evt.pos (by omega) ?_)
  exact ih _ _ (by rw [List.length_set]; exact h4) (hpl.trans h8) (by omega) hn (fun i hi => by rw [lset_ne _ _ _ _ (by omega)]; exact hz i (by omega))
theorem long_ev (m n : Nat) (hmn : n ≤ m) (hn2 : 2 ≤ (enc n).length) (hl : (enc m).length ≤ 100000000) :
  Evt (fun k => nat_long.f k (enc m) (enc n)) (lims ((enc m).length + 1 - (enc n).length) (m / n), lims (enc n).length (m % n)) := by
 obtain ⟨L, hL⟩ : ∃ L, (enc n).length = L + 2 := ⟨(enc n).length - 2, by omega⟩
 have hn0 : n ≠ 0 := fun h => by rw [h, enc_zero] at hn2; simp at hn2
 obtain ⟨top, low, t1, t2, t3, t4, t5⟩ := enc_top hn0
 have hle : (enc n).length ≤ (enc m).length := enc_length_le _ (Nat.lt_of_le_of_lt hmn (lt_of_enc_length (Nat.le_refl _)))
 have hb32 := blen_le_32 t3
 have hbp := blen_pos (n := top) (by omega)
 obtain ⟨s, hs⟩ : ∃ s, s + blen top = 32 := ⟨32 - blen top, by omega⟩
 rw [hL] at t1 t4 t5
 have hnt := norm_top (b := blen top) rfl hs t2 t4 t5
 rw [show L + 2 - 1 = L + 1 by omega] at *
 have ht1 : (enc n).getD (L + 1) 0 = (top : Int) := t1
 have eL : 2 ^ (32 * (L + 1)) * 4294967296 = 4294967296 ^ (L + 2) := by
  rw [Nat.pow_mul, show (2 : Nat) ^ 32 = 4294967296 by rfl, ← Nat.pow_succ]
 have hVlen1 : (enc (n * 2 ^ s)).length ≤ L + 2 := enc_length_le _ (by rw [← eL]; exact hnt.2)
 have hVlen2 : L + 1 < (enc (n * 2 ^ s)).length := by
  rcases Nat.lt_or_ge (L + 1) (enc (n * 2 ^ s)).length with h | h
  ·
   exact h
  ·
   exfalso
   have := lt_of_enc_length h
   rw [show (4294967296 : Nat) = 2 ^ 32 by rfl, ← Nat.pow_mul] at this
   have h2 : 2 ^ (32 * (L + 1)) * 1 ≤ 2 ^ (32 * (L + 1)) * 2 ^ 31 := Nat.mul_le_mul_left _ (by omega)
   omega
 have hVl : (enc (n * 2 ^ s)).length = L + 2 := by omega
 have hV0 : n * 2 ^ s ≠ 0 := Nat.mul_ne_zero hn0 (by have := Nat.two_pow_pos s; omega)
 obtain ⟨top', low', u1, u2, _, _, _⟩ := enc_top hV0
 rw [hVl] at u1
 have htop : 1 ≤ (enc (n * 2 ^ s)).getD (L + 1) 0 := by
  have : (enc (n * 2 ^ s)).getD (L + 1) 0 = (top' : Int) := u1
  omega
 unfold nat_long.f
 have hw1 : wrap64 (((enc n).length : Int) - 1) = ((L + 1 : Nat) : Int) := by rw [hL, w64 (by omega) (by omega)]; omega
 rw [hw1]
 refine Evt.pos (by omega) (Evt.pos (by omega) ?_)
 rw [rd_nat, ht1]
 have hlz := lz_ev top t3
 rw [show 32 - blen top = s by omega] at hlz
 refine Evt.bind0 hlz (Evt.bind (shift_ev (enc n) n s (enc_is n) (by omega) (by omega)) ?_)
 have hvis : Is (lims ((enc n).length + 1) (n * 2 ^ s)) (n * 2 ^ s) := lims_is (by
  rw [hL, Nat.pow_succ]
  rw [eL] at hnt
  omega)
 refine Evt.bind (short_ev hvis (by rw [lims_length]; omega)) (Evt.bind (shift_ev (enc m) m s (enc_is m) (by omega) (by omega)) ?_)
 have hw2 : wrap64 (((lims ((enc m).length + 1) (m * 2 ^ s)).length : Int) - ((enc (n * 2 ^ s)).length : Int)) = (((enc m).length + 1 - (enc n).length : Nat) : Int) := by
  rw [lims_length, hVl, hL, wsub (by omega) (by omega)]
 rw [hw2]
 obtain ⟨J, hJ⟩ : ∃ J, J = (enc m).length + 1 - (enc n).length := ⟨_, rfl⟩
 rw [← hJ]
 refine Evt.pos (by omega) (Evt.pos (by omega) ?_)
 rw [Int.toNat_natCast, hVl, wpred2 (by omega)]
 have hmlt : m < 4294967296 ^ (enc m).length := lt_of_enc_length (Nat.le_refl _)
 have hp31 : 2 ^ s ≤ 2 ^ 31 := Nat.pow_le_pow_right (by omega) (by omega)
 have hps : 0 < 2 ^ s := Nat.two_pow_pos s
 have huis : Is (lims ((enc m).length + 1) (m * 2 ^ s)) (m * 2 ^ s) := lims_is (by
  rw [Nat.pow_succ]
  exact Nat.mul_lt_mul'' hmlt (by omega))
 have hstart : m * 2 ^ s < n * 2 ^ s * 4294967296 ^ J := by
  have a1 : m * 2 ^ s < 4294967296 ^ (enc m).length * 2 ^ 31 := Nat.mul_lt_mul_of_lt_of_le hmlt hp31 (by omega)
  have a2 : 2 ^ (32 * (L + 1)) * 2 ^ 31 * 4294967296 ^ J ≤ n * 2 ^ s * 4294967296 ^ J := Nat.mul_le_mul_right _ hnt.1
  have a3 : 2 ^ (32 * (L + 1)) * 2 ^ 31 * 4294967296 ^ J = 4294967296 ^ (enc m).length * 2 ^ 31 := by
   rw [Nat.pow_mul, show (2 : Nat) ^ 32 = 4294967296 by rfl, Nat.mul_right_comm, ← Nat.pow_add, show L + 1 + J = (enc m).length by omega]
  omega
 have := long_l0 (enc (n * 2 ^ s)) L s (m * 2 ^ s) (n * 2 ^ s) J (enc_is _) hVl htop (by omega) (by omega) (by omega) (by omega) (by omega) J (List.replicate J 0) (lims ((enc m).length + 1) (m * 2 ^ s)) (by simp) (by rw [lims_length]; omega) (Nat.le_refl _)
  ⟨Lim.zeros _, lims_lim _ _, by rw [ev_replicate_zero, huis.2]; omega, by
   rw [huis.2]
   have := Int.ofNat_lt.2 hstart
   rw [Int.natCast_mul, Int.natCast_pow] at this
   exact this⟩ (fun i _ => lzeros_getD _ _)
 rw [Nat.mul_div_mul_right _ _ hps, Nat.mul_mod_mul_right, Nat.mul_div_cancel _ hps] at this
 rw [hL]
 exact this
theorem divmod_ev {a b : List Int} {m n : Nat} (ha : Is a m) (hb : Is b n) (hn : n ≠ 0) (hla : a.length ≤ 100000000) (hlb : b.length ≤ 100000000) :
  Evt (fun k => nat_DivMod.f k a b) (enc (m / n), enc (m % n), 0) := by
 unfold nat_DivMod.f
 have h1 := ha.enc_length
 have h2 := hb.enc_length
 refine Evt.bind (short_ev ha (by omega)) (Evt.bind (short_ev hb (by omega)) (Evt.neg ?_ ?_))
 ·
  intro h; exact enc_ne hn (List.length_eq_zero_iff.1 (by omega))
 refine Evt.bind (cmp_ev (enc_is m) (enc_is n) (by omega) (by omega)) ?_
 by_cases hlt : m < n
 ·
  refine Evt.pos (cmpN_neg.2 hlt) (Evt.bind (trim_ev (enc_is m) (by omega)) (Evt.now' ?_))
  rw [Nat.div_eq_of_lt hlt, Nat.mod_eq_of_lt hlt, enc_zero]
 ·
  refine Evt.neg (fun h => hlt (cmpN_neg.1 h)) ?_
  by_cases hone : (enc n).length = 1
  ·
   have hn1 : n < 4294967296 := by
    have := lt_of_enc_length (n := n) (L := 1) (by omega)
    simpa using this
   have hr0 : rd (enc n) 0 = (n : Int) := by
    rw [enc_pos hn]
    show ((n % 4294967296 : Nat) : Int) = n
    rw [Nat.mod_eq_of_lt hn1]
   refine Evt.pos (by omega) (Evt.pos (by omega) ?_)
   rw [hr0]
   refine Evt.bind (digit_ev (enc_is m) (by omega) hn1 (by omega)) ?_
   have hmod : m % n < n := Nat.mod_lt _ (by omega)
   rw [wu64n (by omega)]
   exact Evt.bind (of_ev _ (by omega)) (Evt.now _)
  ·
   have hpos : 0 < (enc n).length := List.length_pos_iff.2 (enc_ne hn)
   refine Evt.neg (by omega) (Evt.bind (long_ev m n (by omega) (by omega) (by omega)) ?_)
   have hq : m / n < 4294967296 ^ ((enc m).length + 1 - (enc n).length) := by
    obtain ⟨top, low, t1, t2, t3, t4, t5⟩ := enc_top hn
    have hge : 4294967296 ^ ((enc n).length - 1) ≤ n := by
     rw [show (4294967296 : Nat) = 2 ^ 32 by rfl, ← Nat.pow_mul]
     have : 1 * 2 ^ (32 * ((enc n).length - 1)) ≤ top * 2 ^ (32 * ((enc n).length - 1)) := Nat.mul_le_mul_right _ t2
     omega
    have hm : m < 4294967296 ^ (enc m).length := lt_of_enc_length (Nat.le_refl _)
    have hle : (enc n).length ≤ (enc m).length := enc_length_le _ (Nat.lt_of_le_of_lt (by omega) hm)
    refine Nat.div_lt_of_lt_mul ?_
    refine Nat.lt_of_lt_of_le hm ?_
    rw [show 4294967296 ^ (enc m).length = 4294967296 ^ ((enc n).length - 1) * 4294967296 ^ ((enc m).length + 1 - (enc n).length) by rw [← Nat.pow_add]; congr 1; omega]
    exact Nat.mul_le_mul_right _ hge
   have hr : m % n < 4294967296 ^ (enc n).length := Nat.lt_trans (Nat.mod_lt _ (by omega)) (lt_of_enc_length (Nat.le_refl _))
   exact Evt.bind (trim_ev (lims_is hq) (by rw [lims_length]; omega)) (Evt.bind (trim_ev (lims_is hr) (by rw [lims_length]; omega)) (Evt.now _))
end Go.Proofs.Ytpjpbhjpobdenaa.NatC
/- What the printed reference functions on numbers compute: Trim, Same, limb, Add, Mul, Of, small, Choose, Bits, Pow. -/
namespace Go.Proofs.Ytpjpbhjpobdenaa.NatC
open Go.RowKit Go.Proofs.Ytpjpbhjpobdenaa.PNat Go.Proofs.YtpjpbhjpobdenaaW.PrintWords Go.Proofs.YtpjpbhjpobdenaaW.PrintLast Go.Proofs.YtpjpbhjpobdenaaW.PrintMore Cw
theorem rtrim_l0 (xs : List Int) (n : Nat) (hx : Is xs n) (hl : xs.length ≤ 35184372088831) : ∀ m : Nat, m ≤ xs.length → (∀ i, m ≤ i → i < xs.length → xs.getD i 0 = 0) →
  Evt (fun k => codewrightref01_Trim.l0 k xs m) (enc n) := by
 intro m
 induction m with
 | zero =>
  intro hm h
  refine Evt.step (fun k => codewrightref01_Trim.l0.eq_2 ..) (Evt.neg (by omega) (Evt.bind (Evt.now _) (Evt.pos (by omega) (Evt.pos (by omega) (Evt.pos (by simp) (Evt.now' ?_))))))
  exact take_eq_enc hx 0 hm h (.inl rfl)
 | succ m ih =>
  intro hm h
  refine Evt.step (fun k => codewrightref01_Trim.l0.eq_2 ..) ?_
  rw [wpred (by omega)]
  refine Evt.pos (by omega) (Evt.pos (by omega) (Evt.pos (by omega) ?_))
  by_cases hz : rd xs (m : Int) = 0
  ·
   refine Evt.pos hz (ih (by omega) fun i h1 h2 => ?_)
   by_cases hi : i = m
   ·
    rw [hi]; exact hz
   ·
    exact h i (by omega) h2
  ·
   refine Evt.neg hz (Evt.bind (Evt.now _) (Evt.pos (by omega) (Evt.pos (by omega) (Evt.pos (by simp; omega) (Evt.now' ?_)))))
   rw [List.nil_append]
   exact take_eq_enc hx (m + 1) hm h (.inr hz)
theorem rtrim_ev {xs : List Int} {n : Nat} (hx : Is xs n) (hl : xs.length ≤ 35184372088831) : Evt (fun k => codewrightref01_Trim.f k xs) (enc n) :=
 rtrim_l0 xs n hx hl xs.length (Nat.le_refl _) (fun i h1 h2 => by omega)
theorem rsame_l0 (xs : List Int) (hl : xs.length ≤ 35184372088831) : ∀ (d i : Nat), i + d = xs.length → Evt (fun k => codewrightref01_Same.l0 k xs xs i) true := by
 intro d
 induction d with
 | zero => intro i hi; exact Evt.step (fun k => codewrightref01_Same.l0.eq_2 ..) (Evt.neg (by omega) (Evt.now _))
 | succ d ih =>
  intro i hi
  refine Evt.step (fun k => codewrightref01_Same.l0.eq_2 ..) (Evt.pos (by omega) (Evt.pos (by omega) (Evt.pos (by omega) (Evt.pos rfl ?_))))
  rw [wsucc (by omega)]
  exact ih (i + 1) (by omega)
theorem rsame_ev (xs : List Int) (hl : xs.length ≤ 35184372088831) : Evt (fun k => codewrightref01_Same.f k xs xs) true := by
 unfold codewrightref01_Same.f
 exact Evt.pos rfl (rsame_l0 xs hl xs.length 0 (by omega))
theorem rlimb_eq (xs : List Int) (hx : Lim xs) (i : Nat) : codewrightref01_limb.f xs i = some (xs.getD i 0) := by
 unfold codewrightref01_limb.f
 have := hx.getD i
 by_cases h : i < xs.length
 ·
  rw [if_pos (by omega), if_pos (by omega), rd_nat, wu64 this.1 (by omega)]
 ·
  rw [if_neg (by omega), getD_none' xs i (by omega)]
theorem radd_l0 (a b : List Int) (m n : Nat) (ha : Is a m) (hb : Is b n) (hla : a.length ≤ 1000000000) (hlb : b.length ≤ 1000000000) : ∀ (d i : Nat) (out : List Int) (c : Int),
  (max a.length b.length) + 1 - i ≤ d → i ≤ max a.length b.length + 1 → Lim out → out.length = i → 0 ≤ c → c ≤ 1 → (i = max a.length b.length + 1 → c = 0) →
  ev out 4294967296 + c * 4294967296 ^ i = ev (a.take i) 4294967296 + ev (b.take i) 4294967296 →
  Evt (fun k => codewrightref01_Add.l0 k a b out c (i : Int)) (enc (m + n)) := by
 intro d
 have fin : ∀ (i : Nat) (out : List Int) (c : Int), a.length ≤ i → b.length ≤ i → i ≤ max a.length b.length + 1 → Lim out → out.length = i → c = 0 →
   ev out 4294967296 + c * 4294967296 ^ i = ev (a.take i) 4294967296 + ev (b.take i) 4294967296 →
   Evt (fun k => codewrightref01_Add.l0 k a b out c (i : Int)) (enc (m + n)) := by
  intro i out c h1 h2 h3 hlim hlen hc he
  rw [List.take_of_length_le h1, List.take_of_length_le h2, ha.2, hb.2, hc] at he
  subst hc
  refine Evt.step (fun k => codewrightref01_Add.l0.eq_2 ..) (Evt.neg (by omega) (Evt.neg (by omega) ?_))
  rw [decide_eq_false (by omega : ¬ (0 : Int) > 0)]
  refine Evt.step (fun k => codewrightref01_Add.j1.eq_2 ..) (Evt.neg (by simp) (Evt.bind (rtrim_ev ⟨hlim, ?_⟩ (by omega)) (Evt.now _)))
  simp only [Int.zero_mul, Int.add_zero] at he
  rw [he]; omega
 induction d with
 | zero =>
  intro i out c hd hi hlim hlen hc0 hc1 hcz he
  exact fin i out c (by omega) (by omega) hi hlim hlen (hcz (by omega)) he
 | succ d ih =>
  intro i out c hd hi hlim hlen hc0 hc1 hcz he
  by_cases hlast : a.length ≤ i ∧ b.length ≤ i ∧ c = 0
  ·
   exact fin i out c hlast.1 hlast.2.1 hi hlim hlen hlast.2.2 he
  ·
   have hi2 : i < max a.length b.length + 1 := by omega
   have hx := ha.1.getD i
   have hy := hb.1.getD i
   suffices H : Evt (fun k => codewrightref01_Add.j1 k a b out c (i : Int) true) (enc (m + n)) by
    refine Evt.step (fun k => codewrightref01_Add.l0.eq_2 ..) ?_
    by_cases h1 : i < a.length
    ·
     exact Evt.pos (by omega) H
    ·
     refine Evt.neg (by omega) ?_
     by_cases h2 : i < b.length
     ·
      exact Evt.pos (by omega) H
     ·
      refine Evt.neg (by omega) ?_
      rw [decide_eq_true (by omega : c > 0)]
      exact H
   refine Evt.step (fun k => codewrightref01_Add.j1.eq_2 ..) (Evt.pos rfl (Evt.bind0 (rlimb_eq a ha.1 i) (Evt.bind0 (rlimb_eq b hb.1 i) (Evt.pos (by omega) ?_))))
   rw [wsucc (by omega), wu64 (x := a.getD i 0 + b.getD i 0) (by omega) (by omega), wu64 (x := a.getD i 0 + b.getD i 0 + c) (by omega) (by omega), tmodp (by omega), tdivp (by omega), wu64 (by omega) (by omega), mod_limb (x := (a.getD i 0 + b.getD i 0 + c) % 4294967296) (by omega) (by omega)]
   refine ih (i + 1) _ _ (by omega) (by omega) (hlim.append (Lim.cons (by omega) (by omega) Lim.nil)) (by simp; omega) (by omega) (by omega) (fun h => ?_) ?_
   ·
    have h1 : a.getD i 0 = 0 := getD_none' a i (by omega)
    have h2 : b.getD i 0 = 0 := getD_none' b i (by omega)
    rw [h1, h2]; omega
   ·
    rw [ev_append, ev_take_succ', ev_take_succ', Int.pow_succ, hlen]
    clear ih fin
    simp only [ev_cons, ev_nil, Int.mul_zero, Int.add_zero]
    have e1 := Int.emod_add_mul_ediv (a.getD i 0 + b.getD i 0 + c) 4294967296
    generalize (a.getD i 0 + b.getD i 0 + c) % 4294967296 = r at *
    generalize (a.getD i 0 + b.getD i 0 + c) / 4294967296 = q at *
    generalize (4294967296 : Int) ^ i = P at *
    have e2 : r = a.getD i 0 + b.getD i 0 + c - 4294967296 * q := by omega
    rw [e2]
    generalize ev out 4294967296 = E at *
    generalize ev (a.take i) 4294967296 = F at *
    generalize ev (b.take i) 4294967296 = G at *
    clear e1 e2
    grind
theorem radd_ev {a b : List Int} {m n : Nat} (ha : Is a m) (hb : Is b n) (hla : a.length ≤ 1000000000) (hlb : b.length ≤ 1000000000) : Evt (fun k => codewrightref01_Add.f k a b) (enc (m + n)) :=
 radd_l0 a b m n ha hb hla hlb (max a.length b.length + 1) 0 [] 0 (by omega) (by omega) Lim.nil rfl (by omega) (by omega) (fun _ => rfl) (by simp)
theorem rmul_l (a b : List Int) (m n : Nat) (ha : Is a m) (hb : Is b n) (hla : a.length ≤ 17592186044000) (hlb : b.length ≤ 17592186044000) : ∀ (d i : Nat) (out : List Int),
  i + d = a.length → Lim out → out.length = a.length + b.length → (∀ p, i + b.length ≤ p → out.getD p 0 = 0) → TimesInv a b out 0 i 0 →
  Evt (fun k => codewrightref01_Mul.l0 k a b out (i : Int)) (enc (m * n)) := by
 intro d
 induction d with
 | zero =>
  intro i out hi hlim hlen hz he
  refine Evt.step (fun k => codewrightref01_Mul.l0.eq_2 ..) (Evt.neg (by omega) ?_)
  refine Evt.bind (rtrim_ev (n := m * n) ⟨hlim, ?_⟩ (by omega)) (Evt.now _)
  rw [he.last (by omega), ha.2, hb.2, Int.natCast_mul]
 | succ d ih =>
  intro i out hi hlim hlen hz he
  refine Evt.step (fun k => codewrightref01_Mul.l0.eq_2 ..) (Evt.pos (by omega) ?_)
  have hx := ha.1.getD i
  suffices H : ∀ (e j : Nat) (out : List Int) (c : Int), j + e = b.length → Lim out → out.length = a.length + b.length → (∀ p, i + b.length ≤ p → out.getD p 0 = 0) → 0 ≤ c → c < 4294967296 → TimesInv a b out c i j →
    Evt (fun k => codewrightref01_Mul.l1 k a b out (i : Int) c (j : Int)) (enc (m * n)) from
   H b.length 0 out 0 (by omega) hlim hlen hz (by omega) (by omega) he
  intro e
  induction e with
  | zero =>
   intro j out c hj hlim hlen hz hc0 hc1 he
   refine Evt.step (fun k => codewrightref01_Mul.l1.eq_2 ..) (Evt.neg (by omega) ?_)
   have hj' : j = b.length := by omega
   subst hj'
   rw [wadd (by omega), wsucc (by omega), mod_limb hc0 hc1, Int.toNat_natCast]
   refine Evt.pos (by omega) (Evt.pos (by omega) ?_)
   exact ih (i + 1) _ (by omega) (hlim.set _ hc0 hc1) (by rw [List.length_set]; omega) (fun p hp => by rw [lset_ne _ _ _ _ (by omega)]; exact hz p (by omega)) (he.next (by omega) (hz _ (Nat.le_refl _)))
  | succ e ihe =>
   intro j out c hj hlim hlen hz hc0 hc1 he
   refine Evt.step (fun k => codewrightref01_Mul.l1.eq_2 ..) (Evt.pos (by omega) (Evt.pos (by omega) (Evt.pos (by omega) (Evt.pos (by omega) ?_))))
   rw [wadd (by omega), wsucc (by omega)]
   refine Evt.pos (by omega) (Evt.pos (by omega) ?_)
   rw [rd_nat, rd_nat, rd_nat, Int.toNat_natCast]
   have hy := hb.1.getD j
   have ho := hlim.getD (i + j)
   have hm := mul_lim hx hy
   have hn := he.step (by omega)
   rw [wu64 hx.1 (by omega), wu64 hy.1 (by omega), wu64 hm.1 (by omega), wu64 ho.1 (by omega), wu64 (x := a.getD i 0 * b.getD j 0 + out.getD (i + j) 0) (by omega) (by omega), wu64 (x := a.getD i 0 * b.getD j 0 + out.getD (i + j) 0 + c) (by omega) (by omega), tmodp (by omega), tdivp (by omega), wu64 (by omega) (by omega), mod_limb (x := (a.getD i 0 * b.getD j 0 + out.getD (i + j) 0 + c) % 4294967296) (by omega) (by omega)]
   exact ihe (j + 1) _ _ (by omega) (hlim.set _ (by omega) (by omega)) (by rw [List.length_set]; omega) (fun p hp => by rw [lset_ne _ _ _ _ (by omega)]; exact hz p hp) (by omega) (by omega) hn
theorem rmul_ev {a b : List Int} {m n : Nat} (ha : Is a m) (hb : Is b n) (hla : a.length ≤ 17592186044000) (hlb : b.length ≤ 17592186044000) : Evt (fun k => codewrightref01_Mul.f k a b) (enc (m * n)) := by
 unfold codewrightref01_Mul.f
 rw [wadd (by omega), Int.toNat_natCast]
 refine Evt.pos (by omega) (Evt.pos (by omega) ?_)
 exact rmul_l a b m n ha hb hla hlb a.length 0 _ (by omega) (Lim.zeros _) (by simp) (fun p _ => lzeros_getD _ _) (TimesInv.start ..)
theorem rof_ev (n : Nat) (h : n < 18446744073709551616) : Evt (fun k => codewrightref01_Of.f k n) (enc n) := by
 unfold codewrightref01_Of.f
 rw [tmodp (by omega), tdivp (by omega), wu64 (by omega) (by omega)]
 refine Evt.bind (rtrim_ev (n := n) ⟨?_, ?_⟩ (by simp)) (Evt.now _)
 ·
  exact Lim.cons (by omega) (by omega) (Lim.cons (by omega) (by omega) Lim.nil)
 ·
  simp only [ev_cons, ev_nil]; omega
theorem rbits_l0 (n : Nat) : ∀ t : Nat, n < 4294967296 → t + blen n ≤ 100000000000 → Evt (fun k => codewrightref01_Bits.l0 k t n) ((t + blen n : Nat) : Int) := by
 induction n using Nat.strongRecOn with
 | ind n ih =>
  intro t hn ht
  refine Evt.step (fun k => codewrightref01_Bits.l0.eq_2 ..) ?_
  by_cases h0 : n = 0
  ·
   refine Evt.neg (by omega) (Evt.now' ?_)
   rw [h0, blen_zero]; omega
  ·
   refine Evt.pos (by omega) ?_
   have hb := blen_half h0
   have h32 := blen_le_32 hn
   have := ih (n / 2) (by omega) (t + 1) (by omega) (by omega)
   rw [wsucc (by omega), tdivp (a := (n : Int)) (by omega), mod_limb (x := (n : Int) / 2) (Int.ediv_nonneg (by omega) (by omega)) (by omega), show (n : Int) / 2 = ((n / 2 : Nat) : Int) by omega, show t + blen n = t + 1 + blen (n / 2) by omega]
   exact this
theorem rbits_ev {xs : List Int} {m : Nat} (hx : Is xs m) (hl : xs.length ≤ 1000000000) : Evt (fun k => codewrightref01_Bits.f k xs) ((blen m : Nat) : Int) := by
 unfold codewrightref01_Bits.f
 have hle := hx.enc_length
 refine Evt.bind (rtrim_ev hx (by omega)) ?_
 by_cases h0 : m = 0
 ·
  refine Evt.pos (by rw [h0, enc_zero]; rfl) (Evt.now' ?_)
  rw [h0]; rfl
 ·
  obtain ⟨top, low, h1, h2, h3, h4, h5⟩ := enc_top h0
  have hp : 0 < (enc m).length := List.length_pos_iff.2 (enc_ne h0)
  have hb := blen_shift h4 (hi := top) (by omega)
  rw [← h5] at hb
  obtain ⟨L, hL⟩ : ∃ L, (enc m).length = L + 1 := ⟨(enc m).length - 1, by omega⟩
  rw [hL, Nat.add_sub_cancel] at h1 hb
  rw [hL, wpred (by omega), rd_nat, h1]
  refine Evt.neg (by omega) (Evt.pos (by omega) (Evt.pos (by omega) ?_))
  have h32 := blen_le_32 h3
  have := rbits_l0 top (32 * L) h3 (by omega)
  rw [w64 (by omega) (by omega), hb, show (32 * (L : Int)) = ((32 * L : Nat) : Int) by omega]
  exact this
end Go.Proofs.Ytpjpbhjpobdenaa.NatC
/- What the printed reference function Cmp computes. -/
namespace Go.Proofs.Ytpjpbhjpobdenaa.NatC
open Go.RowKit Go.Proofs.Ytpjpbhjpobdenaa.PNat Go.Proofs.YtpjpbhjpobdenaaW.PrintWords Go.Proofs.YtpjpbhjpobdenaaW.PrintLast Go.Proofs.YtpjpbhjpobdenaaW.PrintMore Cw
theorem rcmp_l0 (a b : List Int) (m n : Nat) (ha : Is a m) (hb : Is b n) : ∀ i : Nat, i ≤ 2000000000 → TopEq a b i →
  Evt (fun k => codewrightref01_Cmp.l0 k a b ((i : Int) - 1)) (cmpN m n) := by
 intro i
 induction i with
 | zero =>
  intro _ h
  have e := h.zero
  rw [ha.2, hb.2] at e
  have : m = n := by omega
  subst this
  rw [cmpN_eq]
  exact Evt.step (fun k => codewrightref01_Cmp.l0.eq_2 ..) (Evt.neg (by omega) (Evt.now _))
 | succ i ih =>
  intro hi h
  refine Evt.step (fun k => codewrightref01_Cmp.l0.eq_2 ..) ?_
  rw [show (((i + 1 : Nat) : Int) - 1) = (i : Int) by omega, wpred2 (by omega)]
  refine Evt.pos (by omega) (Evt.bind0 (rlimb_eq a ha.1 i) (Evt.bind0 (rlimb_eq b hb.1 i) ?_))
  by_cases h1 : a.getD i 0 < b.getD i 0
  ·
   have e := h.lt ha.1 hb.1 h1
   rw [ha.2, hb.2] at e
   exact Evt.pos h1 (Evt.now' (cmpN_lt (by omega)).symm)
  refine Evt.neg h1 (Evt.bind0 (rlimb_eq a ha.1 i) (Evt.bind0 (rlimb_eq b hb.1 i) ?_))
  by_cases h2 : a.getD i 0 > b.getD i 0
  ·
   have e := h.symm.lt hb.1 ha.1 h2
   rw [ha.2, hb.2] at e
   exact Evt.pos h2 (Evt.now' (cmpN_gt (by omega)).symm)
  ·
   exact Evt.neg h2 (ih (by omega) (h.step (by omega)))
theorem rcmp_ev {a b : List Int} {m n : Nat} (ha : Is a m) (hb : Is b n) (hla : a.length ≤ 1000000000) (hlb : b.length ≤ 1000000000) : Evt (fun k => codewrightref01_Cmp.f k a b) (cmpN m n) := by
 unfold codewrightref01_Cmp.f
 rw [mx_eq]
 by_cases h : (a.length : Int) < (b.length : Int)
 ·
  rw [if_pos h, wpred2 (by omega)]
  exact rcmp_l0 a b m n ha hb b.length (by omega) (TopEq.start (by omega) (by omega))
 ·
  rw [if_neg h, wpred2 (by omega)]
  exact rcmp_l0 a b m n ha hb a.length (by omega) (TopEq.start (by omega) (by omega))
end Go.Proofs.Ytpjpbhjpobdenaa.NatC
/- What the printed reference functions Sub, shift and DivMod compute. -/
namespace Go.Proofs.Ytpjpbhjpobdenaa.NatC
open Go.RowKit Go.Proofs.Ytpjpbhjpobdenaa.PNat Go.Proofs.YtpjpbhjpobdenaaW.PrintWords Go.Proofs.YtpjpbhjpobdenaaW.PrintLast Go.Proofs.YtpjpbhjpobdenaaW.PrintMore Cw
theorem rsub_l0 (a b : List Int) (m n : Nat) (ha : Is a m) (hb : Is b n) (hl : a.length ≤ 1000000000) (hlb : b.length ≤ a.length) (hmn : n ≤ m) : ∀ (d i : Nat) (out : List Int) (c : Int),
  i + d = a.length → Lim out → out.length = i → (c = 0 ∨ c = 1) → RSubInv a b out c i → Evt (fun k => codewrightref01_Sub.l0 k a b out c (i : Int)) (enc (m - n)) := by
 intro d
 induction d with
 | zero =>
  intro i out c hi hlim hlen hc he
  have h1 : i = a.length := by omega
  subst h1
  refine Evt.step (fun k => codewrightref01_Sub.l0.eq_2 ..) (Evt.neg (by omega) (Evt.bind (rtrim_ev (he.last ha hb hlb hlim hlen hc hmn) (by omega)) (Evt.now _)))
 | succ d ih =>
  intro i out c hi hlim hlen hc he
  have hx := ha.1.getD i
  have hy := hb.1.getD i
  refine Evt.step (fun k => codewrightref01_Sub.l0.eq_2 ..) (Evt.pos (by omega) (Evt.bind0 (rlimb_eq a ha.1 i) (Evt.bind0 (rlimb_eq b hb.1 i) (Evt.pos (by omega) ?_))))
  have hn := he.step hlen
  rw [wsucc (by omega), wu64 (x := a.getD i 0 + 4294967296) (by omega) (by omega), wu64 (x := a.getD i 0 + 4294967296 - b.getD i 0) (by omega) (by omega), wu64 (x := a.getD i 0 + 4294967296 - b.getD i 0 - c) (by omega) (by omega), tmodp (by omega), tdivp (by omega)]
  have hs : 0 ≤ a.getD i 0 + 4294967296 - b.getD i 0 - c ∧ a.getD i 0 + 4294967296 - b.getD i 0 - c < 8589934592 := by omega
  generalize a.getD i 0 + 4294967296 - b.getD i 0 - c = S at *
  rw [wu64 (x := S / 4294967296) (by omega) (by omega), wu64 (x := 1 - S / 4294967296) (by omega) (by omega), mod_limb (x := S % 4294967296) (by omega) (by omega)]
  exact ih (i + 1) _ _ (by omega) (hlim.append (Lim.cons (by omega) (by omega) Lim.nil)) (by simp; omega) (by omega) hn
theorem rsub_ev {a b : List Int} {m n : Nat} (ha : Is a m) (hb : Is b n) (hl : a.length ≤ 1000000000) (hlb : b.length ≤ a.length) (hmn : n ≤ m) : Evt (fun k => codewrightref01_Sub.f k a b) (enc (m - n)) :=
 rsub_l0 a b m n ha hb hl hlb hmn a.length 0 [] 0 (by omega) Lim.nil rfl (.inl rfl) (RSubInv.start a b)
theorem shl_eq {x : Int} {s : Nat} (hs : s ≤ 31) (hx : 0 ≤ x ∧ x < 4294967296) : shl .u64 x s = x * 2 ^ s := by
 have h0 : 2 ^ s ≤ 2 ^ 31 := Nat.pow_le_pow_right (by omega) hs
 have h1 := Int.ofNat_le.2 h0
 have e : ((2 ^ s : Nat) : Int) = (2 : Int) ^ s := by rw [Int.natCast_pow]; rfl
 rw [e] at h1
 have hp : (0 : Int) < 2 ^ s := Int.pow_pos (by omega)
 have h2 : 0 ≤ x * 2 ^ s := Int.mul_nonneg hx.1 (by omega)
 have h3 : x * 2 ^ s ≤ 4294967296 * 2 ^ s := Int.mul_le_mul_of_nonneg_right (by omega) (by omega)
 have h4 : ((2 ^ 31 : Nat) : Int) = 2147483648 := rfl
 unfold shl
 rw [Int.toNat_natCast, Nat.min_eq_left (by show s ≤ 64; omega)]
 exact wu64 h2 (by omega)
theorem rshift_l0 (a : List Int) (m n s W : Nat) (hm : Is a m) (hs : s = n % 32) (hW : W = n / 32) (hn : n ≤ 1000000000) (hl : a.length ≤ 1000000000) : ∀ (d i : Nat) (out : List Int) (c : Int),
  i + d = a.length → Lim out → out.length = W + i → 0 ≤ c → c < 2 ^ s → RShInv a out (2 ^ s) W c i → Evt (fun k => codewrightref01_shift.l0 k a n out c (i : Int)) (enc (m * 2 ^ n)) := by
 have h0 : 2 ^ s ≤ 2 ^ 31 := Nat.pow_le_pow_right (by omega) (by omega)
 have h1 := Int.ofNat_le.2 h0
 have e : ((2 ^ s : Nat) : Int) = (2 : Int) ^ s := by rw [Int.natCast_pow]; rfl
 rw [e] at h1
 have hp : (0 : Int) < 2 ^ s := Int.pow_pos (by omega)
 have h4 : ((2 ^ 31 : Nat) : Int) = 2147483648 := rfl
 have hM : (1 : Int) ≤ 2 ^ s ∧ (2 : Int) ^ s ≤ 2147483648 := by omega
 intro d
 induction d with
 | zero =>
  intro i out c hi hlim hlen hc0 hc1 he
  have h1 : i = a.length := by omega
  subst h1
  refine Evt.step (fun k => codewrightref01_shift.l0.eq_2 ..) (Evt.neg (by omega) (Evt.pos (by omega) (Evt.bind (rtrim_ev (n := m * 2 ^ n) ⟨?_, ?_⟩ ?_) (Evt.now _))))
  ·
   exact hlim.append (Lim.cons (by omega) (by omega) Lim.nil)
  ·
   rw [mod_limb hc0 (by omega), he.last hlen, hm.2, Int.natCast_mul, Int.natCast_pow]
   have := two_pow_split n
   rw [← hs, ← hW] at this
   rw [← this, Int.mul_comm]
   rfl
  ·
   simp only [List.length_append, List.length_cons, List.length_nil]; omega
 | succ d ih =>
  intro i out c hi hlim hlen hc0 hc1 he
  have hx := hm.1.getD i
  have hcc := sh_carry hx hM ⟨hc0, hc1⟩
  have hnn := he.step hlen
  refine Evt.step (fun k => codewrightref01_shift.l0.eq_2 ..) (Evt.pos (by omega) (Evt.pos (by omega) ?_))
  rw [show Int.tmod (n : Int) 32 = (s : Int) by rw [tmodp (by omega)]; omega, wsucc (by omega), rd_nat, wu64 hx.1 (by omega), shl_eq (by omega) hx]
  refine Evt.pos (by omega) (Evt.pos (by omega) ?_)
  have hs2 : 0 ≤ a.getD i 0 * 2 ^ s + c ∧ a.getD i 0 * 2 ^ s + c < 9223372036854775808 := by omega
  generalize a.getD i 0 * 2 ^ s + c = S at *
  rw [wu64 (x := S) (by omega) (by omega), tmodp (by omega), tdivp (by omega), wu64 (x := S / 4294967296) (by omega) (by omega), mod_limb (x := S % 4294967296) (by omega) (by omega)]
  exact ih (i + 1) _ _ (by omega) (hlim.append (Lim.cons (by omega) (by omega) Lim.nil)) (by simp; omega) hcc.2.2.1 hcc.2.2.2 hnn
theorem rshift_ev {a : List Int} {m : Nat} (hm : Is a m) (n : Nat) (hn : n ≤ 1000000000) (hl : a.length ≤ 1000000000) : Evt (fun k => codewrightref01_shift.f k a n) (enc (m * 2 ^ n)) := by
 unfold codewrightref01_shift.f
 rw [show wrap64 (Int.tdiv (n : Int) 32) = ((n / 32 : Nat) : Int) by rw [tdivp (by omega), w64 (by omega) (by omega)]; omega, Int.toNat_natCast]
 refine Evt.pos (by omega) (Evt.pos (by omega) ?_)
 exact rshift_l0 a m n (n % 32) (n / 32) hm rfl rfl hn hl a.length 0 _ 0 (by omega) (Lim.zeros _) (by simp) (by omega) (Int.pow_pos (by omega)) (RShInv.start ..)
theorem enc_len_le {m n L : Nat} (h : m ≤ n) (hn : (enc n).length ≤ L) : (enc m).length ≤ L :=
 enc_length_le _ (Nat.lt_of_le_of_lt h (lt_of_enc_length hn))
theorem enc_one : ([1] : List Int) = enc 1 := by rw [enc_pos (by omega), Nat.div_eq_of_lt (by omega), enc_zero]; rfl
theorem rdiv_l0 (m n : Nat) (b : List Int) (hb : Is b n) (hn : n ≠ 0) (hl : (enc m).length ≤ 100000000) (hlb : b.length ≤ 100000000) : ∀ (t q r : Nat), t ≤ 100000000 → q ≤ m → r ≤ m → DivInv m n q r t →
  Evt (fun k => codewrightref01_DivMod.l0 k b (enc q) (enc r) ((t : Int) - 1)) (enc (m / n), enc (m % n)) := by
 intro t
 induction t with
 | zero =>
  intro q r _ hq hr h
  obtain ⟨h1, h2⟩ := h.last
  have := enc_len_le hq hl
  refine Evt.step (fun k => codewrightref01_DivMod.l0.eq_2 ..) (Evt.neg (by omega) (Evt.bind (rtrim_ev (enc_is q) (by omega)) (Evt.now' ?_)))
  rw [h1, h2]
 | succ t ih =>
  intro q r ht hq hr h
  have hq' := enc_len_le hq hl
  have hr' := enc_len_le hr hl
  have hpos : 0 < 2 ^ t := Nat.two_pow_pos t
  refine Evt.step (fun k => codewrightref01_DivMod.l0.eq_2 ..) ?_
  rw [show (((t + 1 : Nat) : Int) - 1) = (t : Int) by omega, wpred2 (by omega)]
  have hlen1 : (enc (n * 2 ^ t)).length ≤ 200000000 := by
   have h1 := hb.lt
   have h2 : 2 ^ t < 4294967296 ^ (t / 32 + 1) := two_pow_lt (by omega)
   refine Nat.le_trans (enc_length_le (b.length + (t / 32 + 1)) ?_) (by omega)
   rw [Nat.pow_add]
   exact Nat.mul_lt_mul'' h1 h2
  have hlen2 : (enc (2 ^ t)).length ≤ 200000000 := by
   refine enc_len_le (n := n * 2 ^ t) ?_ hlen1
   have : 1 * 2 ^ t ≤ n * 2 ^ t := Nat.mul_le_mul_right _ (by omega)
   omega
  refine Evt.pos (by omega) (Evt.bind (rshift_ev hb t (by omega) (by omega)) (Evt.bind (rcmp_ev (enc_is r) (enc_is _) (by omega) (by omega)) ?_))
  by_cases hge : n * 2 ^ t ≤ r
  ·
   refine Evt.pos ?_ ?_
   ·
    have : ¬ cmpN r (n * 2 ^ t) < 0 := fun h => by have := cmpN_neg.1 h; omega
    omega
   have hle : (enc (n * 2 ^ t)).length ≤ (enc r).length := enc_len_le hge (Nat.le_refl _)
   refine Evt.bind (rsub_ev (enc_is r) (enc_is _) (by omega) hle hge) (Evt.bind ?_ (Evt.bind (radd_ev (m := q) (n := 2 ^ t) (enc_is _) (enc_is _) (by omega) (by omega)) ?_))
   ·
    have := rshift_ev (a := [1]) (m := 1) (by rw [enc_one]; exact enc_is 1) t (by omega) (by simp)
    rw [Nat.one_mul] at this
    exact this
   ·
    have hd := h.yes hge
    refine ih _ _ (by omega) ?_ (by omega) hd
    have h1 := hd.1
    have : (q + 2 ^ t) * 1 ≤ (q + 2 ^ t) * n := Nat.mul_le_mul_left _ (by omega)
    omega
  ·
   refine Evt.neg ?_ (ih _ _ (by omega) hq hr (h.no (by omega)))
   have := cmpN_neg.2 (show r < n * 2 ^ t by omega)
   omega
theorem blen_len {m L : Nat} (h : (enc m).length ≤ L) : blen m ≤ 32 * L := by
 by_cases hm : m = 0
 ·
  rw [hm, blen_zero]; omega
 ·
  have h1 := lt_of_enc_length h
  have h2 := blen_le hm
  have h3 := blen_pos hm
  rw [show (4294967296 : Nat) = 2 ^ 32 by rfl, ← Nat.pow_mul] at h1
  have : blen m - 1 < 32 * L := (Nat.pow_lt_pow_iff_right (by omega)).1 (Nat.lt_of_le_of_lt h2 h1)
  omega
theorem rdivmod_ev {a b : List Int} {m n : Nat} (ha : Is a m) (hb : Is b n) (hn : n ≠ 0) (hl : a.length ≤ 1000000) (hlb : b.length ≤ 1000000) :
  Evt (fun k => codewrightref01_DivMod.f k a b) (enc (m / n), enc (m % n)) := by
 unfold codewrightref01_DivMod.f
 have hla := ha.enc_length
 have hlc := hb.enc_length
 have h1 := blen_len (Nat.le_trans hla hl)
 have h2 := blen_len (Nat.le_trans hlc hlb)
 have h3 := blen_pos hn
 refine Evt.bind (rtrim_ev ha (by omega)) (Evt.bind (rbits_ev ha (by omega)) (Evt.bind (rbits_ev hb (by omega)) ?_))
 rw [show ([] : List Int) = enc 0 by rw [enc_zero]]
 by_cases h : blen n ≤ blen m
 ·
  rw [show wrap64 ((blen m : Int) - (blen n : Int)) = (((blen m - blen n + 1 : Nat) : Int) - 1) by rw [w64 (by omega) (by omega)]; omega]
  exact rdiv_l0 m n b hb hn (by omega) (by omega) _ 0 m (by omega) (by omega) (Nat.le_refl _) (DivInv.start hn _ (by omega))
 ·
  refine Evt.step (fun k => codewrightref01_DivMod.l0.eq_2 ..) (Evt.neg (by rw [w64 (by omega) (by omega)]; omega) (Evt.bind (rtrim_ev (enc_is 0) (by rw [enc_zero]; simp)) (Evt.now' ?_)))
  have hd : DivInv m n 0 m 0 := DivInv.start hn 0 (by omega)
  obtain ⟨e1, e2⟩ := hd.last
  rw [← e1, ← e2]
end Go.Proofs.Ytpjpbhjpobdenaa.NatC
/- What the printed functions on fractions compute: Gcd, canonical, Trim; and of the reference: Zero, Gcd, Make, Trim, Sign, Add, Mul, Of, Int. -/
namespace Go.Proofs.Ytpjpbhjpobdenaa.NatC
open Go.RowKit Go.Proofs.Ytpjpbhjpobdenaa.PNat Go.Proofs.YtpjpbhjpobdenaaW.PrintWords Go.Proofs.YtpjpbhjpobdenaaW.PrintLast Go.Proofs.YtpjpbhjpobdenaaW.PrintMore Cw
theorem gcd_turn (m n : Nat) : Nat.gcd n (m % n) = Nat.gcd m n := by rw [Nat.gcd_comm n, ← Nat.gcd_rec, Nat.gcd_comm]
theorem gcd_l0 (L : Nat) (hL : L ≤ 1000000) : ∀ (n m : Nat), (enc m).length ≤ L → (enc n).length ≤ L → Evt (fun k => nat_Gcd.l0 k (enc m) (enc n)) (enc (Nat.gcd m n)) := by
 intro n
 induction n using Nat.strongRecOn with
 | ind n ih =>
  intro m hm hn
  refine Evt.step (fun k => nat_Gcd.l0.eq_2 ..) ?_
  by_cases h0 : n = 0
  ·
   subst h0
   rw [Nat.gcd_zero_right]
   exact Evt.neg (by rw [enc_zero]; simp) (Evt.bind (trim_ev (enc_is m) (by omega)) (Evt.now _))
  ·
   have hp : 0 < (enc n).length := List.length_pos_iff.2 (enc_ne h0)
   have hlt := Nat.mod_lt m (Nat.pos_of_ne_zero h0)
   refine Evt.pos (by omega) (Evt.bind (divmod_ev (enc_is m) (enc_is n) h0 (by omega) (by omega)) ?_)
   rw [← gcd_turn]
   exact ih (m % n) hlt n hn (Nat.le_trans (enc_length_le _ (Nat.lt_trans hlt (lt_of_enc_length (Nat.le_refl _)))) hn)
theorem gcd_ev {a b : List Int} {m n : Nat} (ha : Is a m) (hb : Is b n) (hla : a.length ≤ 1000000) (hlb : b.length ≤ 1000000) : Evt (fun k => nat_Gcd.f k a b) (enc (Nat.gcd m n)) := by
 unfold nat_Gcd.f
 exact Evt.bind (short_ev ha (by omega)) (Evt.bind (short_ev hb (by omega)) (gcd_l0 1000000 (Nat.le_refl _) n m (Nat.le_trans ha.enc_length hla) (Nat.le_trans hb.enc_length hlb)))
theorem one_limb : ([1] : List Int) = enc 1 := by rw [enc_pos (by omega), Nat.div_eq_of_lt (by omega), enc_zero]; rfl
theorem gcd_len {m n : Nat} {L : Nat} (hm : m ≠ 0) (h : (enc m).length ≤ L) : (enc (Nat.gcd m n)).length ≤ L :=
 Nat.le_trans (enc_length_le _ (Nat.lt_of_le_of_lt (Nat.le_of_dvd (Nat.pos_of_ne_zero hm) (Nat.gcd_dvd_left m n)) (lt_of_enc_length (Nat.le_refl _)))) h
theorem canonical_ev (neg : Bool) {a b : List Int} {m n : Nat} (ha : Is a m) (hb : Is b n) (hla : a.length ≤ 1000000) (hlb : b.length ≤ 1000000) :
  Evt (fun k => rational_canonical.f k neg a b) (rneg (rv neg m n), enc (rnum (rv neg m n)), enc (rv neg m n).den) := by
 unfold rational_canonical.f
 have hz : rv neg m n = 0 → Evt (fun k => rational_canonical.j0 k neg a b true) (rneg (rv neg m n), enc (rnum (rv neg m n)), enc (rv neg m n).den) := by
  intro h
  rw [h, rneg_zero, rnum_zero, rden_zero, enc_zero, ← one_limb]
  exact Evt.step (fun k => rational_canonical.j0.eq_2 ..) (Evt.pos rfl (Evt.bind0 (a := [1]) rfl (Evt.now _)))
 refine Evt.bind (bits_ev ha (by omega)) ?_
 by_cases h0 : m = 0
 ·
  subst h0
  exact Evt.pos rfl (hz (rv_zero_num neg n))
 ·
  refine Evt.neg (by have := blen_pos h0; omega) (Evt.bind (bits_ev hb (by omega)) ?_)
  by_cases h1 : n = 0
  ·
   subst h1
   exact hz (rv_zero_den neg m)
  ·
   have hb0 : (((blen n : Nat) : Int) == 0) = false := beq_eq_false_iff_ne.2 (by have := blen_pos h1; omega)
   rw [hb0, rv_rneg h0 h1, rv_rnum h1, rv_den h1]
   have hg : Nat.gcd m n ≠ 0 := fun h => h0 (Nat.eq_zero_of_gcd_eq_zero_left h)
   have hgl := gcd_len (n := n) h0 (Nat.le_trans ha.enc_length hla)
   exact Evt.step (fun k => rational_canonical.j0.eq_2 ..) (Evt.neg (by simp) (Evt.bind (gcd_ev ha hb hla hlb) (Evt.bind (divmod_ev ha (enc_is _) hg (by omega) (by omega)) (Evt.bind (divmod_ev hb (enc_is _) hg (by omega) (by omega)) (Evt.now _)))))
theorem rzero_ev {a : List Int} {m : Nat} (ha : Is a m) (hl : a.length ≤ 1000000) : Evt (fun k => codewrightref01_Zero.f k a) (decide (m = 0)) := by
 unfold codewrightref01_Zero.f
 refine Evt.bind (rtrim_ev ha (by omega)) (Evt.now' ?_)
 by_cases h0 : m = 0
 ·
  rw [decide_eq_true h0, h0, enc_zero]; rfl
 ·
  have hp : 0 < (enc m).length := List.length_pos_iff.2 (enc_ne h0)
  rw [decide_eq_false h0]
  exact beq_eq_false_iff_ne.2 (by omega)
theorem rgcd_l0 (L : Nat) (hL : L ≤ 1000000) : ∀ (n m : Nat) (a b : List Int), Is a m → Is b n → a.length ≤ L → b.length ≤ L → Evt (fun k => codewrightref01_Gcd.l0 k a b) (enc (Nat.gcd m n)) := by
 intro n
 induction n using Nat.strongRecOn with
 | ind n ih =>
  intro m a b ha hb hla hlb
  refine Evt.step (fun k => codewrightref01_Gcd.l0.eq_2 ..) (Evt.bind (rzero_ev hb (by omega)) ?_)
  by_cases h0 : n = 0
  ·
   subst h0
   rw [Nat.gcd_zero_right]
   exact Evt.pos rfl (Evt.bind (rtrim_ev ha (by omega)) (Evt.now _))
  ·
   have hlt := Nat.mod_lt m (Nat.pos_of_ne_zero h0)
   rw [decide_eq_false h0, ← gcd_turn]
   exact Evt.neg (by simp) (Evt.bind (rdivmod_ev ha hb h0 (by omega) (by omega)) (ih (m % n) hlt n b _ hb (enc_is _) hlb (Nat.le_trans (enc_length_le _ (Nat.lt_trans hlt hb.lt)) hlb)))
theorem rgcd_ev {a b : List Int} {m n : Nat} (ha : Is a m) (hb : Is b n) (hla : a.length ≤ 1000000) (hlb : b.length ≤ 1000000) : Evt (fun k => codewrightref01_Gcd.f k a b) (enc (Nat.gcd m n)) := by
 unfold codewrightref01_Gcd.f
 exact rgcd_l0 1000000 (Nat.le_refl _) n m a b ha hb hla hlb
theorem make_ev (neg : Bool) {a b : List Int} {m n : Nat} (ha : Is a m) (hb : Is b n) (hla : a.length ≤ 1000000) (hlb : b.length ≤ 1000000) :
  Evt (fun k => codewrightref02_Make.f k neg a b) (rneg (rv neg m n), enc (rnum (rv neg m n)), enc (rv neg m n).den) := by
 unfold codewrightref02_Make.f
 have hz : rv neg m n = 0 → Evt (fun k => codewrightref02_Make.j0 k neg a b true) (rneg (rv neg m n), enc (rnum (rv neg m n)), enc (rv neg m n).den) := by
  intro h
  rw [h, rneg_zero, rnum_zero, rden_zero, enc_zero, ← one_limb]
  exact Evt.step (fun k => codewrightref02_Make.j0.eq_2 ..) (Evt.pos rfl (Evt.now _))
 refine Evt.bind (rzero_ev ha (by omega)) ?_
 by_cases h0 : m = 0
 ·
  subst h0
  exact Evt.pos rfl (hz (rv_zero_num neg n))
 ·
  rw [decide_eq_false h0]
  refine Evt.neg (by simp) (Evt.bind (rzero_ev hb (by omega)) ?_)
  by_cases h1 : n = 0
  ·
   subst h1
   exact hz (rv_zero_den neg m)
  ·
   rw [decide_eq_false h1, rv_rneg h0 h1, rv_rnum h1, rv_den h1]
   have hg : Nat.gcd m n ≠ 0 := fun h => h0 (Nat.eq_zero_of_gcd_eq_zero_left h)
   have hgl := gcd_len (n := n) h0 (Nat.le_trans ha.enc_length hla)
   exact Evt.step (fun k => codewrightref02_Make.j0.eq_2 ..) (Evt.neg (by simp) (Evt.bind (rgcd_ev ha hb hla hlb) (Evt.bind (rdivmod_ev ha (enc_is _) hg (by omega) (by omega)) (Evt.bind (rdivmod_ev hb (enc_is _) hg (by omega) (by omega)) (Evt.now _)))))
theorem bne_of (s t : Bool) (h : (s == t) = false) : t = !s := by cases s <;> cases t <;> simp_all
theorem rnum_zero_iff (r : Rat) : (enc (rnum r)).length = 0 ↔ r = 0 := by
 rw [List.length_eq_zero_iff, enc_eq_nil, rnum_eq_zero]
theorem rv_nat (n : Nat) : rv false n 1 = (n : Rat) := by
 unfold rv
 rw [Rat.mkRat_eq_div]
 have e : ((n : Int) : Rat) = (n : Rat) := rfl
 simp only [Bool.false_eq_true, if_false, e]
 grind
end Go.Proofs.Ytpjpbhjpobdenaa.NatC
/- The numbers' functions, over values: what the printed contracts say. -/
namespace Go.Proofs.Ytpjpbhjpobdenaa.NatC
open Go.RowKit Go.Proofs.Ytpjpbhjpobdenaa.PNat Go.Proofs.YtpjpbhjpobdenaaW.PrintWords Go.Proofs.YtpjpbhjpobdenaaW.PrintLast Go.Proofs.YtpjpbhjpobdenaaW.PrintMore Cw Ab AbBr
theorem bits_spec {a : List Int} {m : Nat} (ha : Is a m) (hl : a.length ≤ 1000000) : Ab.Spec Try.prog 91 [nat32 a] (.int .i64 (blen m : Nat)) := by
 obtain ⟨k, h⟩ := (bits_ev ha (by omega)).rounds
 refine spec1 (by kernel_rfl) (fun w ok v hok hv => ?_)
 obtain ⟨A, c, rfl, h1, h2⟩ := rd_C (by omega) hv
 exact (nat_Bits.calls k A c a _ w h2 h1 h).mono (fun e w' he => res_int he)
theorem ncmp_spec {a b : List Int} {m n : Nat} (ha : Is a m) (hb : Is b n) (hla : a.length ≤ 1000000) (hlb : b.length ≤ 1000000) : Ab.Spec Try.prog 95 [nat32 a, nat32 b] (.int .i64 (cmpN m n)) := by
 obtain ⟨k, h⟩ := (cmp_ev ha hb (by omega) (by omega)).rounds
 refine spec2 (by kernel_rfl) (fun w ok v v' hok hv hv' => ?_)
 obtain ⟨A, c, rfl, h1, h2⟩ := rd_C (by omega) hv
 obtain ⟨A', c', rfl, h1', h2'⟩ := rd_C (by omega) hv'
 exact (nat_Cmp.calls k A c a A' c' b _ w h2 h1 h2' h1' h).mono (fun e w' he => res_int he)
theorem nmul_spec {a b : List Int} {m n : Nat} (ha : Is a m) (hb : Is b n) (hla : a.length ≤ 1000000) (hlb : b.length ≤ 1000000) : Ab.Spec Try.prog 81 [.sl 2 [nat32 a, nat32 b]] (nat32 (enc (m * n))) := by
 obtain ⟨k, h⟩ := (mul2_ev ha hb (by omega) (by omega)).rounds
 refine spec1 (by kernel_rfl) (fun w ok v hok hv => ?_)
 obtain ⟨A, c, rfl, h1, h2⟩ := rd_CC (q := 85) (L := [a, b]) (by simp) (by simp; omega) hv
 exact (nat_Mul.calls k A c [a, b] _ w h2 h1 h).mono (fun e w' he => res_R he)
theorem nadd_spec {a b : List Int} {m n : Nat} (ha : Is a m) (hb : Is b n) (hla : a.length ≤ 1000000) (hlb : b.length ≤ 1000000) : Ab.Spec Try.prog 94 [.sl 2 [nat32 a, nat32 b]] (nat32 (enc (m + n))) := by
 obtain ⟨k, h⟩ := (add2_ev ha hb (by omega) (by omega)).rounds
 refine spec1 (by kernel_rfl) (fun w ok v hok hv => ?_)
 obtain ⟨A, c, rfl, h1, h2⟩ := rd_CC (q := 85) (L := [a, b]) (by simp) (by simp; omega) hv
 exact (nat_Add.calls k A c [a, b] _ w h2 h1 h).mono (fun e w' he => res_R he)
theorem nsub_spec {m n : Nat} (hmn : n ≤ m) (hl : (enc m).length ≤ 1000000) : Ab.Spec Try.prog 96 [nat32 (enc m), nat32 (enc n)] (.tup [nat32 (enc (m - n)), .int .i64 0]) := by
 obtain ⟨k, h⟩ := (sub_ev m n hmn hl).rounds
 have hl2 : (enc n).length ≤ 1000000 := Nat.le_trans (enc_len_le hmn (Nat.le_refl _)) hl
 refine spec2 (by kernel_rfl) (fun w ok v v' hok hv hv' => ?_)
 obtain ⟨A, c, rfl, h1, h2⟩ := rd_C (by omega) hv
 obtain ⟨A', c', rfl, h1', h2'⟩ := rd_C (by omega) hv'
 refine (nat_Sub.calls k A c _ A' c' _ _ _ w h2 h1 h2' h1' h).mono (fun e w' he => ?_)
 obtain ⟨v0, e1, h3, h4⟩ := he
 exact ⟨h4, _, e1, rd_tup2 (V_rd h3 new_ok) (.int _ _)⟩
theorem canonical_spec (s : Bool) {a b : List Int} {m n : Nat} (ha : Is a m) (hb : Is b n) (hla : a.length ≤ 1000000) (hlb : b.length ≤ 1000000) :
  Ab.Spec Try.prog 80 [.bool s, nat32 a, nat32 b] (rq (rv s m n)) := by
 obtain ⟨k, h⟩ := (canonical_ev s ha hb hla hlb).rounds
 refine spec3 (by kernel_rfl) (fun w ok v v' v'' hok hv hv' hv'' => ?_)
 obtain rfl := rd_bool hv
 obtain ⟨A, c, rfl, h1, h2, h3⟩ := rd_V (q := 85) (b := w.heap.size) hok (by omega) hv'
 obtain ⟨A', c', rfl, h1', h2', h3'⟩ := rd_V (q := 85) (b := w.heap.size) hok (by omega) hv''
 refine (rational_canonical.calls k s ok A c a ok A' c' b _ _ _ w h3 h3' h).mono (fun e w' he => ?_)
 obtain ⟨v0, v1, e1, h4, h5, h6⟩ := he
 exact ⟨h6, _, e1, rd_frac (V_rd h4 (fun k hk hlt => ⟨hlt, fun h' => by rcases hk with (hk | hk) | hk <;> first | exact hk | omega⟩)) (V_rd h5 (fun k hk hlt => ⟨hlt, fun h' => by rcases hk with (hk | hk) | hk <;> first | exact hk | omega⟩))⟩
/-! ### the reference's -/
theorem rof_spec (n : Nat) (h : n < 18446744073709551616) : Ab.Spec Try.prog 31 [.int .u64 n] (nat32 (enc n)) := by
 obtain ⟨k, h⟩ := (rof_ev n h).rounds
 refine spec1 (by kernel_rfl) (fun w ok v hok hv => ?_)
 obtain rfl := rd_int hv
 exact (codewrightref01_Of.calls k _ _ w h).mono (fun e w' he => res_R he)
theorem rcmp_spec {a b : List Int} {m n : Nat} (ha : Is a m) (hb : Is b n) (hla : a.length ≤ 1000000) (hlb : b.length ≤ 1000000) : Ab.Spec Try.prog 62 [nat32 a, nat32 b] (.int .i64 (cmpN m n)) := by
 obtain ⟨k, h⟩ := (rcmp_ev ha hb (by omega) (by omega)).rounds
 refine spec2 (by kernel_rfl) (fun w ok v v' hok hv hv' => ?_)
 obtain ⟨A, c, rfl, h1, h2⟩ := rd_C (by omega) hv
 obtain ⟨A', c', rfl, h1', h2'⟩ := rd_C (by omega) hv'
 exact (codewrightref01_Cmp.calls k A c a A' c' b _ w h2 h1 h2' h1' h).mono (fun e w' he => res_int he)
theorem rsame_spec (a : List Int) (hla : a.length ≤ 1000000) : Ab.Spec Try.prog 54 [nat32 a, nat32 a] (.bool true) := by
 obtain ⟨k, h⟩ := (rsame_ev a (by omega)).rounds
 refine spec2 (by kernel_rfl) (fun w ok v v' hok hv hv' => ?_)
 obtain ⟨A, c, rfl, h1, h2⟩ := rd_C (by omega) hv
 obtain ⟨A', c', rfl, h1', h2'⟩ := rd_C (by omega) hv'
 exact (codewrightref01_Same.calls k A c a A' c' a _ w h2 h1 h2' h1' h).mono (fun e w' he => by first | exact res_boolD he | exact res_bool he)
theorem radd_spec {a b : List Int} {m n : Nat} (ha : Is a m) (hb : Is b n) (hla : a.length ≤ 1000000) (hlb : b.length ≤ 1000000) : Ab.Spec Try.prog 61 [nat32 a, nat32 b] (nat32 (enc (m + n))) := by
 obtain ⟨k, h⟩ := (radd_ev ha hb (by omega) (by omega)).rounds
 refine spec2 (by kernel_rfl) (fun w ok v v' hok hv hv' => ?_)
 obtain ⟨A, c, rfl, h1, h2⟩ := rd_C (by omega) hv
 obtain ⟨A', c', rfl, h1', h2'⟩ := rd_C (by omega) hv'
 exact (codewrightref01_Add.calls k A c a A' c' b _ w h2 h1 h2' h1' h).mono (fun e w' he => res_R he)
theorem rmul_spec {a b : List Int} {m n : Nat} (ha : Is a m) (hb : Is b n) (hla : a.length ≤ 1000000) (hlb : b.length ≤ 1000000) : Ab.Spec Try.prog 33 [nat32 a, nat32 b] (nat32 (enc (m * n))) := by
 obtain ⟨k, h⟩ := (rmul_ev ha hb (by omega) (by omega)).rounds
 refine spec2 (by kernel_rfl) (fun w ok v v' hok hv hv' => ?_)
 obtain ⟨A, c, rfl, h1, h2⟩ := rd_C (by omega) hv
 obtain ⟨A', c', rfl, h1', h2'⟩ := rd_C (by omega) hv'
 exact (codewrightref01_Mul.calls k A c a A' c' b _ w h2 h1 h2' h1' h).mono (fun e w' he => res_R he)
theorem rsub_spec {m n : Nat} (hmn : n ≤ m) (hl : (enc m).length ≤ 1000000) : Ab.Spec Try.prog 63 [nat32 (enc m), nat32 (enc n)] (nat32 (enc (m - n))) := by
 have hl2 : (enc n).length ≤ (enc m).length := enc_len_le hmn (Nat.le_refl _)
 obtain ⟨k, h⟩ := (rsub_ev (enc_is m) (enc_is n) (by omega) hl2 hmn).rounds
 refine spec2 (by kernel_rfl) (fun w ok v v' hok hv hv' => ?_)
 obtain ⟨A, c, rfl, h1, h2⟩ := rd_C (by omega) hv
 obtain ⟨A', c', rfl, h1', h2'⟩ := rd_C (by omega) hv'
 exact (codewrightref01_Sub.calls k A c _ A' c' _ _ w h2 h1 h2' h1' h).mono (fun e w' he => res_R he)
theorem make_spec (s : Bool) {a b : List Int} {m n : Nat} (ha : Is a m) (hb : Is b n) (hla : a.length ≤ 1000000) (hlb : b.length ≤ 1000000) :
  Ab.Spec Try.prog 60 [.bool s, nat32 a, nat32 b] (rq (rv s m n)) := by
 obtain ⟨k, h⟩ := (make_ev s ha hb hla hlb).rounds
 refine spec3 (by kernel_rfl) (fun w ok v v' v'' hok hv hv' hv'' => ?_)
 obtain rfl := rd_bool hv
 obtain ⟨A, c, rfl, h1, h2⟩ := rd_C (by omega) hv'
 obtain ⟨A', c', rfl, h1', h2'⟩ := rd_C (by omega) hv''
 refine (codewrightref02_Make.calls k s A c a A' c' b _ _ _ w h2 h1 h2' h1' h).mono (fun e w' he => ?_)
 obtain ⟨v0, v1, e1, h4, h5, h6⟩ := he
 exact ⟨h6, _, e1, rd_frac (R_rd h4 new_ok) (R_rd h5 new_ok)⟩
/-! ### the same, told of what reads as numbers -/
section
variable {x y : D} {m n L M : Nat}
theorem bits_nt (h : Nt x m L) (hL : L ≤ 1000000) : Ab.Spec Try.prog 91 [x] (.int .i64 (blen m : Nat)) := by
 obtain ⟨a, h1, h2, h3⟩ := h.le
 exact (bits_spec h2 (by omega)).wk (Les.cons h1 Les.nil)
theorem cmp_nt (h : Nt x m L) (k : Nt y n M) (hL : L ≤ 1000000) (hM : M ≤ 1000000) : Ab.Spec Try.prog 95 [x, y] (.int .i64 (cmpN m n)) := by
 obtain ⟨a, h1, h2, h3⟩ := h.le
 obtain ⟨b, k1, k2, k3⟩ := k.le
 exact (ncmp_spec h2 k2 (by omega) (by omega)).wk (Les.cons h1 (Les.cons k1 Les.nil))
theorem mul_nt (h : Nt x m L) (k : Nt y n M) (hL : L ≤ 1000000) (hM : M ≤ 1000000) : Ab.Spec Try.prog 81 [.sl 2 [x, y]] (nat32 (enc (m * n))) := by
 obtain ⟨a, h1, h2, h3⟩ := h.le
 obtain ⟨b, k1, k2, k3⟩ := k.le
 exact (nmul_spec h2 k2 (by omega) (by omega)).wk (Les.cons (Le.sl 2 (Les.cons h1 (Les.cons k1 Les.nil))) Les.nil)
theorem add_nt (h : Nt x m L) (k : Nt y n M) (hL : L ≤ 1000000) (hM : M ≤ 1000000) : Ab.Spec Try.prog 94 [.sl 2 [x, y]] (nat32 (enc (m + n))) := by
 obtain ⟨a, h1, h2, h3⟩ := h.le
 obtain ⟨b, k1, k2, k3⟩ := k.le
 exact (nadd_spec h2 k2 (by omega) (by omega)).wk (Les.cons (Le.sl 2 (Les.cons h1 (Les.cons k1 Les.nil))) Les.nil)
theorem canonical_nt (s : Bool) (h : Nt x m L) (k : Nt y n M) (hL : L ≤ 1000000) (hM : M ≤ 1000000) : Ab.Spec Try.prog 80 [.bool s, x, y] (rq (rv s m n)) := by
 obtain ⟨a, h1, h2, h3⟩ := h.le
 obtain ⟨b, k1, k2, k3⟩ := k.le
 exact (canonical_spec s h2 k2 (by omega) (by omega)).wk (Les.cons (Le.refl _) (Les.cons h1 (Les.cons k1 Les.nil)))
theorem rcmp_nt (h : Nt x m L) (k : Nt y n M) (hL : L ≤ 1000000) (hM : M ≤ 1000000) : Ab.Spec Try.prog 62 [x, y] (.int .i64 (cmpN m n)) := by
 obtain ⟨a, h1, h2, h3⟩ := h.le
 obtain ⟨b, k1, k2, k3⟩ := k.le
 exact (rcmp_spec h2 k2 (by omega) (by omega)).wk (Les.cons h1 (Les.cons k1 Les.nil))
theorem radd_nt (h : Nt x m L) (k : Nt y n M) (hL : L ≤ 1000000) (hM : M ≤ 1000000) : Ab.Spec Try.prog 61 [x, y] (nat32 (enc (m + n))) := by
 obtain ⟨a, h1, h2, h3⟩ := h.le
 obtain ⟨b, k1, k2, k3⟩ := k.le
 exact (radd_spec h2 k2 (by omega) (by omega)).wk (Les.cons h1 (Les.cons k1 Les.nil))
theorem rmul_nt (h : Nt x m L) (k : Nt y n M) (hL : L ≤ 1000000) (hM : M ≤ 1000000) : Ab.Spec Try.prog 33 [x, y] (nat32 (enc (m * n))) := by
 obtain ⟨a, h1, h2, h3⟩ := h.le
 obtain ⟨b, k1, k2, k3⟩ := k.le
 exact (rmul_spec h2 k2 (by omega) (by omega)).wk (Les.cons h1 (Les.cons k1 Les.nil))
theorem make_nt (s : Bool) (h : Nt x m L) (k : Nt y n M) (hL : L ≤ 1000000) (hM : M ≤ 1000000) : Ab.Spec Try.prog 60 [.bool s, x, y] (rq (rv s m n)) := by
 obtain ⟨a, h1, h2, h3⟩ := h.le
 obtain ⟨b, k1, k2, k3⟩ := k.le
 exact (make_spec s h2 k2 (by omega) (by omega)).wk (Les.cons (Le.refl _) (Les.cons h1 (Les.cons k1 Les.nil)))
end
end Go.Proofs.Ytpjpbhjpobdenaa.NatC
/- Fractions over values: package rational. -/
namespace Go.Proofs.Ytpjpbhjpobdenaa.NatC
open Go Ab Cw
set_option maxRecDepth 100000
set_option linter.unusedVariables false
theorem nt_one : Nt (nat32 [1]) 1 1 := by rw [one_limb]; exact Nt.enc (by rw [← one_limb]; exact Nat.le_refl 1)
theorem one_spec : Ab.Spec Try.prog 76 [] (nat32 [1]) := by
 refine spec_of (n := 2) (ds := [nat32 [1]]) tOk mixed Try.func76 rfl rfl rfl rfl rfl (by simp) ?_
 exact ⟨⟨rfl, rfl, by decide, by decide⟩, rfl, rfl, trivial⟩
theorem frac_all {s : Bool} {y z : D} {m n L M : Nat} (hy : Nt y m L) (hz : Nt z n M) : (frac s y z).cells.all D.one = true := by
 have h1 := hy.one; have h2 := hz.one
 simp only [frac, D.cells, List.all_cons, List.all_nil, h1, h2, show (D.bool s).one = true from rfl, Bool.and_self]
theorem fr_all {x : D} {r : Rat} {L : Nat} (h : Fr x r L) : x.cells.all D.one = true := by
 obtain ⟨s, y, z, m, n, rfl, hy, hz, rfl⟩ := h
 exact frac_all hy hz
theorem trim_fr {x : D} {r : Rat} {L : Nat} (h : Fr x r L) (hL : L ≤ 1000000) : Ab.Spec Try.prog 78 [x] (rq r) := by
 obtain ⟨s, y, z, m, n, rfl, hy, hz, rfl⟩ := h
 refine spec_of (n := 10) (ds := [_]) tOk mixed Try.func78 rfl rfl rfl rfl rfl (by simp) ?_
 refine ⟨frac_all hy hz, rfl, rfl, _, canonical_nt s hy hz hL hL, ⟨rfl, rfl, Nat.le_refl 3, rfl⟩, ?_⟩
 exact ⟨⟨_, rfl, Nat.le_refl 3, rfl, rfl⟩, trivial⟩
theorem neg_fr {x : D} {r : Rat} {L : Nat} (h : Fr x r L) (hL : L ≤ 1000000) : Ab.Spec Try.prog 102 [x] (rq (-r)) := by
 obtain ⟨s, y, z, m, n, rfl, hy, hz, rfl⟩ := h
 rw [← rv_neg]
 refine spec_of (n := 11) (ds := [_]) tOk mixed Try.func102 rfl rfl rfl rfl rfl (by simp) ?_
 refine ⟨frac_all hy hz, rfl, rfl, _, canonical_nt (!s) hy hz hL hL, ⟨rfl, rfl, Nat.le_refl 3, rfl⟩, ?_⟩
 exact ⟨⟨_, rfl, Nat.le_refl 3, rfl, rfl⟩, trivial⟩
theorem rsign_rv {s : Bool} {m n : Nat} (hm : m ≠ 0) (hn : n ≠ 0) : rsign (rv s m n) = if s then -1 else 1 := by
 have h1 := rv_rneg (neg := s) hm hn
 have h2 : rv s m n ≠ 0 := fun e => by
  have h3 := rv_rnum (neg := s) (num := m) hn
  rw [e, rnum_zero] at h3
  have : 0 < m / Nat.gcd m n := Nat.div_pos (Nat.le_of_dvd (by omega) (Nat.gcd_dvd_left ..)) (Nat.gcd_pos_of_pos_left _ (by omega))
  omega
 unfold rsign
 rw [if_neg (fun e => h2 (Rat.num_eq_zero.1 e))]
 unfold rneg at h1
 cases s
 ·
  rw [if_neg (of_decide_eq_false h1)]; rfl
 ·
  rw [if_pos (of_decide_eq_true h1)]; rfl
theorem sign_fr {x : D} {r : Rat} {L : Nat} (h : Fr x r L) (hL : L ≤ 1000000) : Ab.Spec Try.prog 79 [x] (.int .i64 (rsign r)) := by
 obtain ⟨s, y, z, m, n, rfl, hy, hz, rfl⟩ := h
 refine spec_of (n := 17) (ds := [_]) tOk mixed Try.func79 rfl rfl rfl rfl rfl (by simp) ?_
 refine ⟨frac_all hy hz, rfl, _, bits_nt hy hL, fun hb => ?_, fun hb => ⟨_, bits_nt hz hL, fun hb2 => ?_, fun hb2 => ?_⟩⟩
 ·
  have h0 : m = 0 := by have := of_decide_eq_true hb; have := fun h => blen_pos (n := m) h; omega
  subst h0
  rw [rv_zero_num]
  exact ⟨rfl, trivial⟩
 ·
  have h0 : n = 0 := by have := of_decide_eq_true hb2; have := fun h => blen_pos (n := n) h; omega
  subst h0
  rw [rv_zero_den]
  exact ⟨rfl, trivial⟩
 ·
  have h0 : m ≠ 0 := by rintro rfl; exact of_decide_eq_false hb (by decide +kernel)
  have h1 : n ≠ 0 := by rintro rfl; exact of_decide_eq_false hb2 (by decide +kernel)
  rw [rsign_rv h0 h1]
  cases s
  ·
   exact ⟨rfl, trivial⟩
  ·
   exact ⟨rfl, trivial⟩
/-! ### sums and products -/
/-- a fraction whose denominator is not 0 -/
def Fc (x : D) (r : Rat) (L : Nat) : Prop := ∃ s y z m n, x = frac s y z ∧ Nt y m L ∧ Nt z n L ∧ n ≠ 0 ∧ r = rv s m n
theorem Fc.fr {x : D} {r : Rat} {L : Nat} (h : Fc x r L) : Fr x r L := by
 obtain ⟨s, y, z, m, n, h1, h2, h3, _, h4⟩ := h
 exact ⟨s, y, z, m, n, h1, h2, h3, h4⟩
theorem Fc.rq {r : Rat} {s L : Nat} (h : Sz r s) (hs : s ≤ 32 * L) : Fc (rq r) r L := by
 obtain ⟨h1, h2⟩ := h.len hs
 exact ⟨rneg r, _, _, rnum r, r.den, rfl, Nt.enc h1, Nt.enc h2, r.den_nz, (rv_self r).symm⟩
theorem Fc.mono {x : D} {r : Rat} {L L' : Nat} (h : Fc x r L) (hL : L ≤ L') : Fc x r L' := by
 obtain ⟨s, y, z, m, n, h1, h2, h3, h4, h5⟩ := h
 exact ⟨s, y, z, m, n, h1, h2.mono hL, h3.mono hL, h4, h5⟩
theorem Fc.zero : Fc (frac false .nils (nat32 [1])) 0 1 := ⟨false, _, _, 0, 1, rfl, Nt.nil 1, nt_one, by omega, (rv_zero_num _ _).symm⟩
theorem Nt.mul {y z : D} {m n L M : Nat} (h : Nt y m L) (k : Nt z n M) : Nt (nat32 (enc (m * n))) (m * n) (L + M) := by
 refine Nt.enc (enc_length_le _ ?_)
 have h1 := h.lt; have h2 := k.lt
 rw [show (4294967296 : Nat) = 2 ^ 32 by rfl, ← Nat.pow_mul, Nat.mul_add, Nat.pow_add]
 exact Nat.mul_lt_mul'' h1 h2
theorem Nt.add {y z : D} {m n L : Nat} (h : Nt y m L) (k : Nt z n L) : Nt (nat32 (enc (m + n))) (m + n) (L + 1) := by
 refine Nt.enc (enc_length_le _ ?_)
 have h1 := h.lt; have h2 := k.lt
 rw [show (4294967296 : Nat) = 2 ^ 32 by rfl, ← Nat.pow_mul, Nat.mul_add, Nat.pow_add]
 omega
theorem Nt.sub {y : D} {m n L : Nat} (h : Nt y m L) : Nt (nat32 (enc (m - n))) (m - n) L := by
 refine Nt.enc (enc_length_le _ ?_)
 have h1 := h.lt
 rw [show (4294967296 : Nat) = 2 ^ 32 by rfl, ← Nat.pow_mul]
 omega
theorem Nt.len {m L : Nat} (h : Nt (nat32 (enc m)) m L) : (enc m).length ≤ L := by
 refine enc_length_le _ ?_
 have h1 := h.lt
 rw [show (4294967296 : Nat) = 2 ^ 32 by rfl, ← Nat.pow_mul]
 exact h1
theorem two_all {y z : D} {m n L M : Nat} (hy : Nt y m L) (hz : Nt z n M) : [y, z].all D.one = true := by
 simp only [List.all_cons, List.all_nil, hy.one, hz.one, Bool.and_self]
theorem plus_fr {x y : D} {r q : Rat} {L : Nat} (h : Fc x r L) (k : Fc y q L) (hL : L ≤ 400000) : Ab.Spec Try.prog 77 [x, y] (rq (r + q)) := by
 obtain ⟨s, a, b, m, n, rfl, ha, hb, hn, rfl⟩ := h
 obtain ⟨t, c, d, m', n', rfl, hc, hd, hn', rfl⟩ := k
 have x1 := Nt.mul ha hd; have x2 := Nt.mul hc hb; have x3 := Nt.mul hb hd
 refine spec_of (n := 59) (ds := [_]) tOk mixed Try.func77 rfl rfl rfl rfl rfl (by simp) ?_
 refine ⟨frac_all ha hb, rfl, frac_all hc hd, rfl, rfl, ⟨by kernel_rfl, ⟨two_all ha hd, two_all ha hd, by decide⟩, _, mul_nt ha hd (by omega) (by omega), ⟨two_all hc hb, two_all hc hb, by decide⟩, _, mul_nt hc hb (by omega) (by omega), ⟨two_all hb hd, two_all hb hd, by decide⟩, _, mul_nt hb hd (by omega) (by omega), fun hs => ?_, fun hs => ?_⟩⟩
 ·
  have e : s = t := by simpa using hs
  subst e
  rw [rv_add s hn hn']
  exact ⟨by kernel_rfl, ⟨two_all x1 x2, two_all x1 x2, by decide⟩, _, add_nt x1 x2 (by omega) (by omega), _, canonical_nt s (Nt.add x1 x2) x3 (by omega) (by omega), ⟨rfl, rfl, Nat.le_refl 3, rfl⟩, ⟨_, rfl, Nat.le_refl 3, rfl, rfl⟩, trivial⟩
 ·
  have e : t = !s := by cases s <;> cases t <;> simp_all
  subst e
  refine ⟨_, cmp_nt x1 x2 (by omega) (by omega), fun hcm => ?_, fun hcm => ?_⟩
  ·
   have hlt := cmpN_neg.1 (of_decide_eq_true hcm)
   have e : rv s m n + rv (!s) m' n' = rv (!s) (m' * n - m * n') (n * n') := by
    have := rv_sub (!s) hn' hn (a := m') (c := m) (by omega)
    rw [Bool.not_not] at this
    rw [Nat.mul_comm n n', ← this, Rat.add_comm]
   rw [e]
   exact ⟨by kernel_rfl, ⟨Nat.le_refl 3, frac_all hc hd⟩, ⟨rfl, rfl, Nat.le_refl 3, frac_all hc hd⟩, _, nsub_spec (by omega) (Nat.le_trans (Nt.len x2) (by omega)), _, canonical_nt (!s) (Nt.sub x2) x3 (by omega) (by omega), ⟨rfl, rfl, Nat.le_refl 3, rfl⟩, ⟨_, rfl, Nat.le_refl 3, rfl, rfl⟩, trivial⟩
  ·
   have hle : m' * n ≤ m * n' := Nat.le_of_not_lt fun h => of_decide_eq_false hcm (cmpN_neg.2 h)
   rw [rv_sub s hn hn' hle]
   exact ⟨_, nsub_spec hle (Nat.le_trans (Nt.len x1) (by omega)), _, canonical_nt s (Nt.sub x1) x3 (by omega) (by omega), ⟨rfl, rfl, Nat.le_refl 3, rfl⟩, ⟨_, rfl, Nat.le_refl 3, rfl, rfl⟩, trivial⟩
/-! ### the sum of two terms -/
theorem tf {p : Prop} (h : true = false) : p := absurd h.symm Bool.false_ne_true
theorem frac_inj {c : List D} {s : Bool} {y z : D} (h : D.agg c = frac s y z) : c = [.bool s, y, z] := by
 unfold frac at h; injection h
def AddInv (r q : Rat) (i : Nat) (a b c : D) : Prop := (i = 0 ∧ a = .bool false ∧ b = .nils ∧ c = nat32 [1]) ∨ (i = 1 ∧ D.agg [a, b, c] = rq (0 + r)) ∨ (i = 2 ∧ D.agg [a, b, c] = rq (0 + r + q))
theorem add2_fr {cx cy : List D} {r q : Rat} {L : Nat} (h : Fr (.agg cx) r L) (k : Fr (.agg cy) q L) (hL : L ≤ 100000) : Ab.Spec Try.prog 50 [.sl 2 (cx ++ cy)] (rq (r + q)) := by
 have sr := h.sz; have sq := k.sz
 have tr := trim_fr h (by omega); have tq := trim_fr k (by omega)
 have cr : Fc (rq r) r 400000 := Fc.rq sr (by omega)
 have cq : Fc (rq q) q 400000 := Fc.rq sq (by omega)
 have p1 := plus_fr (Fc.zero.mono (by omega)) cr (Nat.le_refl _)
 have c1 : Fc (rq (0 + r)) (0 + r) 400000 := Fc.rq (Sz.add Sz.zero sr) (by omega)
 have p2 := plus_fr c1 cq (Nat.le_refl _)
 have h1 := fr_all h; have k1 := fr_all k
 obtain ⟨s, a, b, m, n, e, _⟩ := h
 obtain ⟨t, c, d, m', n', e', _⟩ := k
 obtain rfl := frac_inj e
 obtain rfl := frac_inj e'
 refine spec_of (n := 20) (ds := [_]) tOk mixed Try.func50 rfl rfl rfl rfl rfl (by simp) ?_
 refine ⟨rfl, _, one_spec, ⟨rfl, rfl⟩, rfl, ⟨rfl, rfl, Nat.le_refl 3, rfl⟩, ?_⟩
 refine loop_of 20 (S := Nat × D × D × D) (fun x => [(2, .optr 2 0), (3, .optr 3 0), (8, .d (.sl 2 [.bool s, a, b, .bool t, c, d])), (9, .d (.int .i64 2)), (10, .d (.int .i64 x.1))])
  (fun x => [(2, ⟨40, .a [.d (.bool false), .d .nils, .d .nils], false⟩), (3, ⟨40, .a [.d x.2.1, .d x.2.2.1, .d x.2.2.2], false⟩)]) (fun x => 3 - x.1)
  (fun x => AddInv r q x.1 x.2.1 x.2.2.1 x.2.2.2) (0, .bool false, .nils, nat32 [1]) (.inl ⟨rfl, rfl, rfl, rfl⟩) rfl (fun _ => rfl) ⟨.inl rfl, .inl rfl, .inl rfl, .inl rfl, .inl rfl, trivial⟩ ⟨.inl rfl, .inl rfl, trivial⟩ ?_
 rintro ⟨i, a', b', c'⟩ hI
 rcases hI with ⟨hi, e1, e2, e3⟩ | ⟨hi, e1⟩ | ⟨hi, e1⟩
 ·
  dsimp only at hi e1 e2 e3
  subst hi e1 e2 e3
  refine ⟨fun _ => ?_, fun h => absurd h (by decide)⟩
  exact ⟨⟨by decide, by decide, nofun⟩, ⟨(by decide : 3 ≤ 6), h1⟩, _, rfl, rfl, ⟨rfl, rfl, Nat.le_refl 3, h1⟩, by kernel_rfl, ⟨Nat.le_refl 3, rfl⟩, ⟨Nat.le_refl 3, h1⟩, _, tr, _, p1, ⟨rfl, rfl, Nat.le_refl 3, rfl⟩, ⟨by decide, by decide⟩,
   (1, _, _, _), .inr (.inl ⟨rfl, rfl⟩), (by decide : 2 < 3), rfl, ⟨.inl rfl, .inl rfl, .inl rfl, .inl rfl, .inl rfl, trivial⟩, ⟨.inl rfl, .inl rfl, trivial⟩⟩
 ·
  dsimp only at hi e1
  subst hi
  injection e1 with e1
  simp only [rqC, List.cons.injEq, and_true] at e1
  obtain ⟨rfl, rfl, rfl⟩ := e1
  refine ⟨fun _ => ?_, fun h => tf h⟩
  exact ⟨⟨(by decide : (0 : Int) ≤ 1), (by decide : (1 : Int) < 2), nofun⟩, ⟨(by decide : 6 ≤ 6), k1⟩, _, rfl, rfl, ⟨rfl, rfl, Nat.le_refl 3, k1⟩, by kernel_rfl, ⟨Nat.le_refl 3, rfl⟩, ⟨Nat.le_refl 3, k1⟩, _, tq, _, p2, ⟨rfl, rfl, Nat.le_refl 3, rfl⟩, ⟨(by decide : (-9223372036854775808 : Int) ≤ 2), (by decide : (2 : Int) < 9223372036854775808)⟩,
   (2, _, _, _), .inr (.inr ⟨rfl, rfl⟩), (by decide : 1 < 2), rfl, ⟨.inl rfl, .inl rfl, .inl rfl, .inl rfl, .inl rfl, trivial⟩, ⟨.inl rfl, .inl rfl, trivial⟩⟩
 ·
  dsimp only at hi e1
  subst hi
  injection e1 with e1
  simp only [rqC, List.cons.injEq, and_true] at e1
  obtain ⟨rfl, rfl, rfl⟩ := e1
  refine ⟨fun h => nd h, fun _ => ?_⟩
  rw [Rat.zero_add]
  exact ⟨⟨Nat.le_refl 3, rfl⟩, ⟨rfl, rfl, Nat.le_refl 3, rfl⟩, ⟨_, rfl, Nat.le_refl 3, rfl, rfl⟩, trivial⟩
/-! ### the product of two factors -/
def MulInv (r q : Rat) (i : Nat) (s : Bool) (b c : D) : Prop := (i = 0 ∧ s = false ∧ b = nat32 [1] ∧ c = nat32 [1]) ∨ (i = 1 ∧ D.agg [.bool s, b, c] = rq (1 * r)) ∨ (i = 2 ∧ D.agg [.bool s, b, c] = rq (1 * r * q))
theorem mulQ {s t b : Bool} {m n m' n' : Nat} (h : (!(s == t)) = b) : rv b (m * m') (n * n') = rv s m n * rv t m' n' := by
 rw [rv_mul, ← h]; rfl
theorem rv_one : rv false 1 1 = 1 := by rw [rv_nat]; rfl
theorem mul2_fr {cx cy : List D} {r q : Rat} {L : Nat} (h : Fr (.agg cx) r L) (k : Fr (.agg cy) q L) (hL : L ≤ 100000) : Ab.Spec Try.prog 53 [.sl 2 (cx ++ cy)] (rq (r * q)) := by
 have sr := h.sz; have sq := k.sz
 have tr := trim_fr h (by omega); have tq := trim_fr k (by omega)
 obtain ⟨l1, l2⟩ := sr.len (L := 200000) (by omega)
 obtain ⟨l3, l4⟩ := sq.len (L := 200000) (by omega)
 obtain ⟨l5, l6⟩ := (Sz.mul Sz.one sr).len (L := 300000) (by omega)
 have n1 : Nt (nat32 (enc (rnum r))) (rnum r) 200000 := Nt.enc l1
 have d1 : Nt (nat32 (enc r.den)) r.den 200000 := Nt.enc l2
 have n2 : Nt (nat32 (enc (rnum q))) (rnum q) 200000 := Nt.enc l3
 have d2 : Nt (nat32 (enc q.den)) q.den 200000 := Nt.enc l4
 have n3 : Nt (nat32 (enc (rnum (1 * r)))) (rnum (1 * r)) 300000 := Nt.enc l5
 have d3 : Nt (nat32 (enc (1 * r).den)) (1 * r).den 300000 := Nt.enc l6
 have h1 := fr_all h; have k1 := fr_all k
 have c1 : ∀ b, (!(false == rneg r)) = b → Ab.Spec Try.prog 80 [.bool b, nat32 (enc (1 * rnum r)), nat32 (enc (1 * r.den))] (rq (1 * r)) := fun b hb => by
  have := canonical_nt b (Nt.mul nt_one n1) (Nt.mul nt_one d1) (by omega) (by omega)
  rwa [mulQ hb, rv_one, rv_self] at this
 have c2 : ∀ b, (!(rneg (1 * r) == rneg q)) = b → Ab.Spec Try.prog 80 [.bool b, nat32 (enc (rnum (1 * r) * rnum q)), nat32 (enc ((1 * r).den * q.den))] (rq (1 * r * q)) := fun b hb => by
  have := canonical_nt b (Nt.mul n3 n2) (Nt.mul d3 d2) (by omega) (by omega)
  rwa [mulQ hb, rv_self, rv_self] at this
 obtain ⟨s, a, b, m, n, e, _⟩ := h
 obtain ⟨t, c, d, m', n', e', _⟩ := k
 obtain rfl := frac_inj e
 obtain rfl := frac_inj e'
 refine spec_of (n := 45) (ds := [_]) tOk mixed Try.func53 rfl rfl rfl rfl rfl (by simp) ?_
 refine ⟨rfl, _, one_spec, _, one_spec, ?_⟩
 refine loop_of 45 (S := Nat × Bool × D × D) (fun x => [(2, .optr 2 0), (3, .d (.bool x.2.1)), (4, .d x.2.2.1), (5, .d x.2.2.2), (11, .d (.sl 2 [.bool s, a, b, .bool t, c, d])), (12, .d (.int .i64 2)), (13, .d (.int .i64 x.1))])
  (fun x => [(2, ⟨40, .a [.d (.bool false), .d .nils, .d .nils], false⟩)]) (fun x => 3 - x.1)
  (fun x => MulInv r q x.1 x.2.1 x.2.2.1 x.2.2.2) (0, false, nat32 [1], nat32 [1]) (.inl ⟨rfl, rfl, rfl, rfl⟩) rfl (fun _ => rfl) ⟨.inl rfl, .inl rfl, .inl rfl, .inl rfl, .inl rfl, .inl rfl, .inl rfl, trivial⟩ ⟨.inl rfl, trivial⟩ ?_
 rintro ⟨i, s', b', c'⟩ hI
 rcases hI with ⟨hi, e1, e2, e3⟩ | ⟨hi, e1⟩ | ⟨hi, e1⟩
 ·
  dsimp only at hi e1 e2 e3
  subst hi e1 e2 e3
  refine ⟨fun _ => ?_, fun h => tf h⟩
  refine ⟨⟨(by decide : (0 : Int) ≤ 0), (by decide : (0 : Int) < 2), nofun⟩, ⟨(by decide : 3 ≤ 6), h1⟩, _, rfl, rfl, ⟨rfl, rfl, Nat.le_refl 3, h1⟩, ⟨Nat.le_refl 3, h1⟩, _, tr, ⟨rfl, rfl, Nat.le_refl 3, rfl⟩, by kernel_rfl, fun hb => ?_, fun hb => ?_⟩
  ·
   exact ⟨⟨rfl, rfl, by decide⟩, _, mul_nt nt_one n1 (by omega) (by omega), ⟨rfl, rfl, by decide⟩, _, mul_nt nt_one d1 (by omega) (by omega), _, c1 _ hb, rfl, ⟨rfl, rfl, Nat.le_refl 3, rfl⟩, by kernel_rfl, ⟨(by decide : (-9223372036854775808 : Int) ≤ 1), (by decide : (1 : Int) < 9223372036854775808)⟩,
    (1, _, _, _), .inr (.inl ⟨rfl, rfl⟩), (by decide : 2 < 3), rfl, ⟨.inl rfl, .inl rfl, .inl rfl, .inl rfl, .inl rfl, .inl rfl, .inl rfl, trivial⟩, ⟨.inl rfl, trivial⟩⟩
  ·
   exact ⟨⟨rfl, rfl, by decide⟩, _, mul_nt nt_one n1 (by omega) (by omega), ⟨rfl, rfl, by decide⟩, _, mul_nt nt_one d1 (by omega) (by omega), _, c1 _ hb, rfl, ⟨rfl, rfl, Nat.le_refl 3, rfl⟩, by kernel_rfl, ⟨(by decide : (-9223372036854775808 : Int) ≤ 1), (by decide : (1 : Int) < 9223372036854775808)⟩,
    (1, _, _, _), .inr (.inl ⟨rfl, rfl⟩), (by decide : 2 < 3), rfl, ⟨.inl rfl, .inl rfl, .inl rfl, .inl rfl, .inl rfl, .inl rfl, .inl rfl, trivial⟩, ⟨.inl rfl, trivial⟩⟩
 ·
  dsimp only at hi e1
  subst hi
  injection e1 with e1
  simp only [rqC, List.cons.injEq, and_true, D.bool.injEq] at e1
  obtain ⟨rfl, rfl, rfl⟩ := e1
  refine ⟨fun _ => ?_, fun h => tf h⟩
  refine ⟨⟨(by decide : (0 : Int) ≤ 1), (by decide : (1 : Int) < 2), nofun⟩, ⟨(by decide : 6 ≤ 6), k1⟩, _, rfl, rfl, ⟨rfl, rfl, Nat.le_refl 3, k1⟩, ⟨Nat.le_refl 3, k1⟩, _, tq, ⟨rfl, rfl, Nat.le_refl 3, rfl⟩, by kernel_rfl, fun hb => ?_, fun hb => ?_⟩
  ·
   exact ⟨⟨rfl, rfl, by decide⟩, _, mul_nt n3 n2 (by omega) (by omega), ⟨rfl, rfl, by decide⟩, _, mul_nt d3 d2 (by omega) (by omega), _, c2 _ hb, rfl, ⟨rfl, rfl, Nat.le_refl 3, rfl⟩, by kernel_rfl, ⟨(by decide : (-9223372036854775808 : Int) ≤ 2), (by decide : (2 : Int) < 9223372036854775808)⟩,
    (2, _, _, _), .inr (.inr ⟨rfl, rfl⟩), (by decide : 1 < 2), rfl, ⟨.inl rfl, .inl rfl, .inl rfl, .inl rfl, .inl rfl, .inl rfl, .inl rfl, trivial⟩, ⟨.inl rfl, trivial⟩⟩
  ·
   exact ⟨⟨rfl, rfl, by decide⟩, _, mul_nt n3 n2 (by omega) (by omega), ⟨rfl, rfl, by decide⟩, _, mul_nt d3 d2 (by omega) (by omega), _, c2 _ hb, rfl, ⟨rfl, rfl, Nat.le_refl 3, rfl⟩, by kernel_rfl, ⟨(by decide : (-9223372036854775808 : Int) ≤ 2), (by decide : (2 : Int) < 9223372036854775808)⟩,
    (2, _, _, _), .inr (.inr ⟨rfl, rfl⟩), (by decide : 1 < 2), rfl, ⟨.inl rfl, .inl rfl, .inl rfl, .inl rfl, .inl rfl, .inl rfl, .inl rfl, trivial⟩, ⟨.inl rfl, trivial⟩⟩
 ·
  dsimp only at hi e1
  subst hi
  injection e1 with e1
  simp only [rqC, List.cons.injEq, and_true, D.bool.injEq] at e1
  obtain ⟨rfl, rfl, rfl⟩ := e1
  refine ⟨fun h => nd h, fun _ => ?_⟩
  rw [Rat.one_mul]
  exact ⟨⟨rfl, rfl⟩, ⟨rfl, rfl, Nat.le_refl 3, rfl⟩, ⟨_, rfl, Nat.le_refl 3, rfl, rfl⟩, trivial⟩
theorem sub_fr {x y : D} {r q : Rat} {L : Nat} (h : Fr x r L) (k : Fr y q L) (hL : L ≤ 100000) : Ab.Spec Try.prog 82 [x, y] (rq (r - q)) := by
 have sr := h.sz; have sq := k.sz
 have p := plus_fr (Fc.rq (L := 400000) sr (by omega)) (Fc.rq (L := 400000) sq.neg (by omega)) (Nat.le_refl _)
 have h1 := fr_all h; have k1 := fr_all k
 have tr := trim_fr h (by omega); have tq := neg_fr k (by omega)
 obtain ⟨s, a, b, m, n, rfl, _⟩ := h
 obtain ⟨t, c, d, m', n', rfl, _⟩ := k
 rw [Rat.sub_eq_add_neg]
 refine spec_of (n := 10) (ds := [_]) tOk mixed Try.func82 rfl rfl rfl rfl rfl (by simp) ?_
 exact ⟨h1, rfl, k1, rfl, rfl, by kernel_rfl, ⟨Nat.le_refl 3, h1⟩, _, tr, ⟨Nat.le_refl 3, k1⟩, _, tq, _, p, ⟨rfl, rfl, Nat.le_refl 3, rfl⟩, ⟨_, rfl, Nat.le_refl 3, rfl, rfl⟩, trivial⟩
theorem cmp_fr {x y : D} {r q : Rat} {L : Nat} (h : Fr x r L) (k : Fr y q L) (hL : L ≤ 100000) : Ab.Spec Try.prog 55 [x, y] (.int .i64 (rsign (r - q))) := by
 have sr := h.sz; have sq := k.sz
 have h1 := fr_all h; have k1 := fr_all k
 have p := sub_fr h k hL
 have sg := sign_fr (L := 400000) (Fr.rq (r := r - q) (by rw [Rat.sub_eq_add_neg]; exact Sz.add sr sq.neg) (by omega)) (by omega)
 obtain ⟨s, a, b, m, n, rfl, _⟩ := h
 obtain ⟨t, c, d, m', n', rfl, _⟩ := k
 refine spec_of (n := 9) (ds := [_]) tOk mixed Try.func55 rfl rfl rfl rfl rfl (by simp) ?_
 exact ⟨h1, rfl, k1, rfl, ⟨Nat.le_refl 3, h1⟩, ⟨Nat.le_refl 3, k1⟩, _, p, _, sg, rfl, trivial⟩
end Go.Proofs.Ytpjpbhjpobdenaa.NatC
/- Fractions over values: the reference's. -/
namespace Go.Proofs.Ytpjpbhjpobdenaa.NatC
open Go Ab Cw
set_option maxRecDepth 100000
set_option linter.unusedVariables false
theorem rtrim_fr {x : D} {r : Rat} {L : Nat} (h : Fr x r L) (hL : L ≤ 1000000) : Ab.Spec Try.prog 59 [x] (rq r) := by
 obtain ⟨s, y, z, m, n, rfl, hy, hz, rfl⟩ := h
 refine spec_of (n := 10) (ds := [_]) tOk mixed Try.func59 rfl rfl rfl rfl rfl (by simp) ?_
 exact ⟨frac_all hy hz, rfl, rfl, _, make_nt s hy hz hL hL, ⟨rfl, rfl, Nat.le_refl 3, rfl⟩, ⟨_, rfl, Nat.le_refl 3, rfl, rfl⟩, trivial⟩
theorem rneg_fr {x : D} {r : Rat} {L : Nat} (h : Fr x r L) (hL : L ≤ 100000) : Ab.Spec Try.prog 83 [x] (rq (-r)) := by
 have sr := h.sz
 have tr := rtrim_fr h (by omega)
 have h1 := fr_all h
 obtain ⟨l1, l2⟩ := sr.len (L := 200000) (by omega)
 have p := make_nt (!(rneg r)) (Nt.enc l1) (Nt.enc l2) (by omega) (by omega)
 rw [rv_neg, rv_self] at p
 obtain ⟨s, y, z, m, n, rfl, hy, hz, _⟩ := h
 refine spec_of (n := 13) (ds := [_]) tOk mixed Try.func83 rfl rfl rfl rfl rfl (by simp) ?_
 exact ⟨h1, rfl, rfl, ⟨Nat.le_refl 3, h1⟩, _, tr, ⟨rfl, rfl, Nat.le_refl 3, rfl⟩, _, p, ⟨rfl, rfl, Nat.le_refl 3, rfl⟩, ⟨_, rfl, Nat.le_refl 3, rfl, rfl⟩, trivial⟩
theorem cnd {t : Bool} {A B : Prop} (h : t = true → A) (k : t = false → B) : bif t then A else B := match t, h, k with
 | true, h, _ => h rfl
 | false, _, k => k rfl
theorem rsign_eq (r : Rat) : rsign r = if (enc (rnum r)).length = 0 then 0 else if rneg r then -1 else 1 := by
 have := rnum_zero_iff r
 unfold rsign rneg
 by_cases h : r = 0
 ·
  rw [if_pos (by rw [h]; rfl), if_pos (this.2 h)]
 ·
  rw [if_neg (fun e => h (Rat.num_eq_zero.1 e)), if_neg (fun e => h (this.1 e))]
  simp
theorem r2sign_fr {x : D} {r : Rat} {L : Nat} (h : Fr x r L) (hL : L ≤ 100000) : Ab.Spec Try.prog 56 [x] (.int .i64 (rsign r)) := by
 have tr := rtrim_fr h (by omega)
 have h1 := fr_all h
 have hs := rsign_eq r
 obtain ⟨s, y, z, m, n, rfl, hy, hz, _⟩ := h
 refine spec_of (n := 11) (ds := [_]) tOk mixed Try.func56 rfl rfl rfl rfl rfl (by simp) ?_
 refine ⟨h1, rfl, ⟨Nat.le_refl 3, h1⟩, _, tr, ⟨rfl, rfl, Nat.le_refl 3, rfl⟩, fun hb => ?_, fun hb => ?_⟩
 ·
  rw [if_pos (by have := of_decide_eq_true hb; omega)] at hs
  rw [hs]; exact ⟨rfl, trivial⟩
 ·
  rw [if_neg (by have := of_decide_eq_false hb; omega)] at hs
  rw [hs]
  refine cnd (fun hn => ?_) (fun hn => ?_)
  ·
   rw [hn]; exact ⟨rfl, trivial⟩
  ·
   rw [hn]; exact ⟨rfl, trivial⟩
theorem r2mul_fr {x y : D} {r q : Rat} {L : Nat} (h : Fr x r L) (k : Fr y q L) (hL : L ≤ 100000) : Ab.Spec Try.prog 28 [x, y] (rq (r * q)) := by
 have sr := h.sz; have sq := k.sz
 have tr := rtrim_fr h (by omega); have tq := rtrim_fr k (by omega)
 have h1 := fr_all h; have k1 := fr_all k
 obtain ⟨l1, l2⟩ := sr.len (L := 200000) (by omega)
 obtain ⟨l3, l4⟩ := sq.len (L := 200000) (by omega)
 have n1 : Nt (nat32 (enc (rnum r))) (rnum r) 200000 := Nt.enc l1
 have d1 : Nt (nat32 (enc r.den)) r.den 200000 := Nt.enc l2
 have n2 : Nt (nat32 (enc (rnum q))) (rnum q) 200000 := Nt.enc l3
 have d2 : Nt (nat32 (enc q.den)) q.den 200000 := Nt.enc l4
 have c2 : ∀ b, (!(rneg r == rneg q)) = b → Ab.Spec Try.prog 60 [.bool b, nat32 (enc (rnum r * rnum q)), nat32 (enc (r.den * q.den))] (rq (r * q)) := fun b hb => by
  have := make_nt b (Nt.mul n1 n2) (Nt.mul d1 d2) (by omega) (by omega)
  rwa [mulQ hb, rv_self, rv_self] at this
 obtain ⟨s, a, b, m, n, rfl, _⟩ := h
 obtain ⟨t, c, d, m', n', rfl, _⟩ := k
 refine spec_of (n := 25) (ds := [_]) tOk mixed Try.func28 rfl rfl rfl rfl rfl (by simp) ?_
 refine ⟨h1, rfl, k1, rfl, rfl, ⟨Nat.le_refl 3, h1⟩, _, tr, ⟨rfl, rfl, Nat.le_refl 3, rfl⟩, ⟨Nat.le_refl 3, k1⟩, _, tq, ⟨rfl, rfl, Nat.le_refl 3, rfl⟩, by kernel_rfl, fun hb => ?_, fun hb => ?_⟩
 ·
  exact ⟨_, rmul_nt n1 n2 (by omega) (by omega), _, rmul_nt d1 d2 (by omega) (by omega), _, c2 _ hb, ⟨rfl, rfl, Nat.le_refl 3, rfl⟩, ⟨_, rfl, Nat.le_refl 3, rfl, rfl⟩, trivial⟩
 ·
  exact ⟨_, rmul_nt n1 n2 (by omega) (by omega), _, rmul_nt d1 d2 (by omega) (by omega), _, c2 _ hb, ⟨rfl, rfl, Nat.le_refl 3, rfl⟩, ⟨_, rfl, Nat.le_refl 3, rfl, rfl⟩, trivial⟩
theorem r2add_fr {x y : D} {r q : Rat} {L : Nat} (h : Fr x r L) (k : Fr y q L) (hL : L ≤ 100000) : Ab.Spec Try.prog 27 [x, y] (rq (r + q)) := by
 have sr := h.sz; have sq := k.sz
 have tr := rtrim_fr h (by omega); have tq := rtrim_fr k (by omega)
 have h1 := fr_all h; have k1 := fr_all k
 obtain ⟨l1, l2⟩ := sr.len (L := 200000) (by omega)
 obtain ⟨l3, l4⟩ := sq.len (L := 200000) (by omega)
 have n1 : Nt (nat32 (enc (rnum r))) (rnum r) 200000 := Nt.enc l1
 have d1 : Nt (nat32 (enc r.den)) r.den 200000 := Nt.enc l2
 have n2 : Nt (nat32 (enc (rnum q))) (rnum q) 200000 := Nt.enc l3
 have d2 : Nt (nat32 (enc q.den)) q.den 200000 := Nt.enc l4
 have x1 := Nt.mul n1 d2; have x2 := Nt.mul n2 d1; have x3 := Nt.mul d1 d2
 obtain ⟨s, a, b, m, n, rfl, _⟩ := h
 obtain ⟨t, c, d, m', n', rfl, _⟩ := k
 refine spec_of (n := 57) (ds := [_]) tOk mixed Try.func27 rfl rfl rfl rfl rfl (by simp) ?_
 refine ⟨h1, rfl, k1, rfl, rfl, ⟨Nat.le_refl 3, h1⟩, _, tr, ⟨rfl, rfl, Nat.le_refl 3, rfl⟩, ⟨Nat.le_refl 3, k1⟩, _, tq, ⟨rfl, rfl, Nat.le_refl 3, rfl⟩, _, rmul_nt n1 d2 (by omega) (by omega), _, rmul_nt n2 d1 (by omega) (by omega), _, rmul_nt d1 d2 (by omega) (by omega), fun hs => ?_, fun hs => ?_⟩
 ·
  have e : rneg q = rneg r := (by simpa using hs : rneg r = rneg q).symm
  have p := make_nt (rneg r) (Nt.add x1 x2) x3 (by omega) (by omega)
  rw [← rv_add (rneg r) r.den_nz q.den_nz, rv_self, ← e, rv_self] at p
  rw [e] at p
  exact ⟨by kernel_rfl, _, radd_nt x1 x2 (by omega) (by omega), _, p, ⟨rfl, rfl, Nat.le_refl 3, rfl⟩, ⟨_, rfl, Nat.le_refl 3, rfl, rfl⟩, trivial⟩
 ·
  have e := bne_of _ _ hs
  refine ⟨_, rcmp_nt x1 x2 (by omega) (by omega), fun hc => ?_, fun hc => ?_⟩
  ·
   have hle : rnum q * r.den ≤ rnum r * q.den := Nat.le_of_not_lt fun h => by have := cmpN_neg.2 h; have := of_decide_eq_true hc; omega
   have p := make_nt (rneg r) (Nt.sub (n := rnum q * r.den) x1) x3 (by omega) (by omega)
   rw [← rv_sub (rneg r) r.den_nz q.den_nz hle, rv_self, ← e, rv_self] at p
   exact ⟨by kernel_rfl, _, rsub_spec hle (Nat.le_trans (Nt.len x1) (by omega)), _, p, ⟨rfl, rfl, Nat.le_refl 3, rfl⟩, ⟨_, rfl, Nat.le_refl 3, rfl, rfl⟩, trivial⟩
  ·
   have hlt : rnum r * q.den < rnum q * r.den := Nat.lt_of_not_le fun h => by have := mt cmpN_neg.1 (by omega : ¬ rnum r * q.den < rnum q * r.den); have := of_decide_eq_false hc; omega
   have p := make_nt (rneg q) (Nt.sub (n := rnum r * q.den) x2) x3 (by omega) (by omega)
   have e2 : rneg r = !rneg q := by rw [e]; simp
   rw [Nat.mul_comm r.den, ← rv_sub (rneg q) q.den_nz r.den_nz (by omega), rv_self, ← e2, rv_self, Rat.add_comm, Nat.mul_comm q.den] at p
   exact ⟨by kernel_rfl, _, rsub_spec (by omega) (Nat.le_trans (Nt.len x2) (by omega)), _, p, ⟨rfl, rfl, Nat.le_refl 3, rfl⟩, ⟨_, rfl, Nat.le_refl 3, rfl, rfl⟩, trivial⟩
theorem r2sub_fr {x y : D} {r q : Rat} {L : Nat} (h : Fr x r L) (k : Fr y q L) (hL : L ≤ 30000) : Ab.Spec Try.prog 57 [x, y] (rq (r - q)) := by
 have h1 := fr_all h; have k1 := fr_all k
 have tq := rneg_fr k (by omega)
 have p := r2add_fr (h.mono (L' := 100000) (by omega)) (Fr.rq (L := 100000) k.sz.neg (by omega)) (Nat.le_refl _)
 obtain ⟨s, a, b, m, n, rfl, _⟩ := h
 obtain ⟨t, c, d, m', n', rfl, _⟩ := k
 rw [Rat.sub_eq_add_neg]
 refine spec_of (n := 9) (ds := [_]) tOk mixed Try.func57 rfl rfl rfl rfl rfl (by simp) ?_
 exact ⟨h1, rfl, k1, rfl, rfl, by kernel_rfl, ⟨Nat.le_refl 3, h1⟩, ⟨Nat.le_refl 3, k1⟩, _, tq, _, p, ⟨rfl, rfl, Nat.le_refl 3, rfl⟩, ⟨_, rfl, Nat.le_refl 3, rfl, rfl⟩, trivial⟩
theorem r2cmp_fr {x y : D} {r q : Rat} {L : Nat} (h : Fr x r L) (k : Fr y q L) (hL : L ≤ 30000) : Ab.Spec Try.prog 25 [x, y] (.int .i64 (rsign (r - q))) := by
 have sr := h.sz; have sq := k.sz
 have h1 := fr_all h; have k1 := fr_all k
 have p := r2sub_fr h k hL
 have sg := r2sign_fr (L := 100000) (Fr.rq (r := r - q) (by rw [Rat.sub_eq_add_neg]; exact Sz.add sr sq.neg) (by omega)) (by omega)
 obtain ⟨s, a, b, m, n, rfl, _⟩ := h
 obtain ⟨t, c, d, m', n', rfl, _⟩ := k
 refine spec_of (n := 9) (ds := [_]) tOk mixed Try.func25 rfl rfl rfl rfl rfl (by simp) ?_
 exact ⟨h1, rfl, k1, rfl, ⟨Nat.le_refl 3, h1⟩, ⟨Nat.le_refl 3, k1⟩, _, p, _, sg, rfl, trivial⟩
theorem same_rq (r : Rat) {s : Nat} (h : Sz r s) (hs : s ≤ 3200000) : Ab.Spec Try.prog 21 [rq r, rq r] (.bool true) := by
 obtain ⟨l1, l2⟩ := h.len (L := 100000) (by omega)
 refine spec_of (n := 24) (ds := [_]) tOk mixed Try.func21 rfl rfl rfl rfl rfl (by simp) ?_
 exact ⟨rfl, rfl, rfl, rfl, fun _ => ⟨_, rsame_spec _ (by omega), _, rsame_spec _ (by omega), rfl, trivial⟩, fun h => by simp at h⟩
theorem abs_spec (a : Int) (h0 : -1000000 < a) (h1 : a < 1000000) : Ab.Spec Try.prog 84 [.int .i64 a] (nat32 (enc a.natAbs)) := by
 refine spec_of (n := 15) (ds := [_]) tOk mixed Try.func84 rfl rfl rfl rfl rfl (by simp) ?_
 refine ⟨fun hb => ?_, fun hb => ?_⟩
 ·
  have hn := of_decide_eq_true hb
  have e : IntKind.u64.wrap (0 - (a + 1)) = ((a.natAbs - 1 : Nat) : Int) := by rw [wu64 (by omega) (by omega)]; omega
  have p := rof_spec (a.natAbs - 1) (by omega)
  rw [← e] at p
  have q := radd_nt (Nt.enc (L := 1) (enc_length_le 1 (by omega : a.natAbs - 1 < 4294967296 ^ 1))) nt_one (by omega) (by omega)
  rw [show a.natAbs - 1 + 1 = a.natAbs by omega] at q
  exact ⟨⟨by omega, by omega⟩, ⟨by omega, by omega⟩, _, p, ⟨rfl, rfl, by decide, by decide⟩, rfl, _, q, rfl, trivial⟩
 ·
  have hn := of_decide_eq_false hb
  have e : IntKind.u64.wrap a = ((a.natAbs : Nat) : Int) := by rw [wu64 (by omega) (by omega)]; omega
  have p := rof_spec a.natAbs (by omega)
  rw [← e] at p
  exact ⟨_, p, rfl, trivial⟩
theorem rv_of {a b : Int} (hb : b ≠ 0) : rv (!(decide (a < 0) == decide (b < 0))) a.natAbs b.natAbs = (a : Rat) / (b : Rat) := by
 unfold rv
 rw [Rat.mkRat_eq_div]
 have hy : (b : Rat) ≠ 0 := fun h => hb (Rat.intCast_inj.1 h)
 have eb : ((b.natAbs : Nat) : Rat) = ((b.natAbs : Int) : Rat) := rfl
 rw [eb]
 by_cases h1 : a < 0
 ·
  by_cases h2 : b < 0
  ·
   rw [decide_eq_true h1, decide_eq_true h2, show ((b.natAbs : Nat) : Int) = -b by omega, show ((a.natAbs : Nat) : Int) = -a by omega]
   simp only [beq_self_eq_true, Bool.not_true, Bool.false_eq_true, if_false, Rat.intCast_neg]
   grind
  ·
   rw [decide_eq_true h1, decide_eq_false h2, show ((b.natAbs : Nat) : Int) = b by omega, show ((a.natAbs : Nat) : Int) = -a by omega, show (!(true == false)) = true from rfl]
   simp only [if_true, Int.neg_neg]
 ·
  by_cases h2 : b < 0
  ·
   rw [decide_eq_false h1, decide_eq_true h2, show ((b.natAbs : Nat) : Int) = -b by omega, show ((a.natAbs : Nat) : Int) = a by omega, show (!(false == true)) = true from rfl]
   simp only [if_true, Rat.intCast_neg]
   grind
  ·
   rw [decide_eq_false h1, decide_eq_false h2, show ((b.natAbs : Nat) : Int) = b by omega, show ((a.natAbs : Nat) : Int) = a by omega]
   simp only [beq_self_eq_true, Bool.not_true, Bool.false_eq_true, if_false]
theorem r2of_spec (a b : Int) (h0 : -1000000 < a) (h1 : a < 1000000) (k0 : -1000000 < b) (k1 : b < 1000000) (hb : b ≠ 0) : Ab.Spec Try.prog 58 [.int .i64 a, .int .i64 b] (rq ((a : Rat) / (b : Rat))) := by
 have la : (enc a.natAbs).length ≤ 1 := enc_length_le 1 (by omega : a.natAbs < 4294967296 ^ 1)
 have lb : (enc b.natAbs).length ≤ 1 := enc_length_le 1 (by omega : b.natAbs < 4294967296 ^ 1)
 have p := make_nt (!(decide (a < 0) == decide (b < 0))) (Nt.enc la) (Nt.enc lb) (by omega) (by omega)
 rw [rv_of hb] at p
 have pa := abs_spec a h0 h1; have pb := abs_spec b k0 k1
 refine spec_of (n := 15) (ds := [_]) tOk mixed Try.func58 rfl rfl rfl rfl rfl (by simp) ?_
 refine ⟨rfl, fun h2 => ?_, fun h2 => ?_⟩
 ·
  rw [h2] at p
  refine ⟨fun h3 => ?_, fun h3 => ?_⟩
  ·
   rw [h3] at p
   exact ⟨fun h => nd h, fun _ => ⟨_, pa, _, pb, _, p, ⟨rfl, rfl, Nat.le_refl 3, rfl⟩, ⟨_, rfl, Nat.le_refl 3, rfl, rfl⟩, trivial⟩⟩
  ·
   rw [h3] at p
   exact ⟨fun _ => ⟨_, pa, _, pb, _, p, ⟨rfl, rfl, Nat.le_refl 3, rfl⟩, ⟨_, rfl, Nat.le_refl 3, rfl, rfl⟩, trivial⟩, fun h => tf h⟩
 ·
  rw [h2] at p
  refine ⟨fun h3 => ?_, fun h3 => ?_⟩
  ·
   rw [h3] at p
   exact ⟨fun _ => ⟨_, pa, _, pb, _, p, ⟨rfl, rfl, Nat.le_refl 3, rfl⟩, ⟨_, rfl, Nat.le_refl 3, rfl, rfl⟩, trivial⟩, fun h => tf h⟩
  ·
   rw [h3] at p
   exact ⟨fun h => nd h, fun _ => ⟨_, pa, _, pb, _, p, ⟨rfl, rfl, Nat.le_refl 3, rfl⟩, ⟨_, rfl, Nat.le_refl 3, rfl, rfl⟩, trivial⟩⟩
theorem r2int_spec (a : Int) (h0 : -1000000 < a) (h1 : a < 1000000) : Ab.Spec Try.prog 26 [.int .i64 a] (rq (a : Rat)) := by
 have p := r2of_spec a 1 h0 h1 (by omega) (by omega) (by omega)
 rw [show ((1 : Int) : Rat) = 1 from rfl, show (a : Rat) / 1 = (a : Rat) by grind] at p
 refine spec_of (n := 5) (ds := [_]) tOk mixed Try.func26 rfl rfl rfl rfl rfl (by simp) ?_
 exact ⟨rfl, _, p, ⟨rfl, rfl, Nat.le_refl 3, rfl⟩, ⟨_, rfl, Nat.le_refl 3, rfl, rfl⟩, trivial⟩
end Go.Proofs.Ytpjpbhjpobdenaa.NatC
/- Polynomials over values: package channel. -/
namespace Go.Proofs.Ytpjpbhjpobdenaa.NatC
open Go Ab Cw
set_option maxRecDepth 100000
set_option linter.unusedVariables false
theorem rqC_zero : rqC 0 = [.bool false, nat32 [], nat32 [1]] := by unfold rqC; rw [rneg_zero, rnum_zero, rden_zero, enc_zero, ← one_limb]
theorem zero_le : Le (frac false .nils (nat32 [1])) (rq 0) := by
 unfold rq frac; rw [rqC_zero]
 exact Le.agg (Les.cons (Le.refl _) (Les.cons (Le.nil _ rfl) (Les.cons (Le.refl _) Les.nil))) rfl
theorem zero_spec : Ab.Spec Try.prog 49 [] (rq 0) := by
 refine Spec.res (r := frac false .nils (nat32 [1])) ?_ zero_le
 refine spec_of (n := 3) (ds := [_]) tOk mixed Try.func49 rfl rfl rfl rfl rfl (by simp) ?_
 exact ⟨rfl, ⟨rfl, rfl, by decide, by decide⟩, rfl, ⟨rfl, rfl⟩, ⟨rfl, rfl, Nat.le_refl 3, rfl⟩, ⟨_, rfl, Nat.le_refl 3, rfl, rfl⟩, trivial⟩
theorem canon_fr {rows : List (List D)} {qs : List Rat} {L : Nat} (h : Ab.Rows rows qs L) (hL : L ≤ 100000) (hn : qs.length ≤ 1000000) : Ab.Spec Try.prog 51 [.sl rows.length rows.flatten] (pD (rtrim qs)) := by
 have h3 := h.r3
 refine spec_of (n := 28) (ds := [_]) tOk mixed Try.func51 rfl rfl rfl rfl rfl (by simp) ?_
 refine loop_of 28 (S := Nat × List D × Int) (fun x => [(3, .osl 18 0 x.1 3 true), (4, .d (.int .i64 x.2.2)), (7, .d (.sl rows.length rows.flatten)), (8, .d (.int .i64 rows.length)), (9, .d (.int .i64 x.1))])
  (fun x => [(18, ⟨40, .d x.2.1, false⟩)]) (fun x => rows.length - x.1)
  (fun x => x.1 ≤ rows.length ∧ x.2.1 = ((qs.take x.1).map rqC).flatten ∧ x.2.2 = ((rtrim (qs.take x.1)).length : Int)) (0, [], 0) ⟨Nat.zero_le _, rfl, rfl⟩ rfl (fun _ => rfl) ⟨.inr ⟨rfl, _, _, rfl, rfl⟩, .inl rfl, .inl rfl, .inl rfl, .inl rfl, trivial⟩ ⟨.inr ⟨rfl, rfl⟩, trivial⟩ ?_
 rintro ⟨i, cells, nz⟩ ⟨hi, e1, e2⟩
 dsimp only at hi e1 e2
 refine ⟨fun hb => ?_, fun hb => ?_⟩
 ·
  have hlt : i < rows.length := by have := of_decide_eq_true hb; omega
  obtain ⟨c, hc⟩ := h3.get (i := i) (by rw [← h.1]; exact hlt)
  have fr := h.2 i c hc
  have tr := trim_fr fr (by omega); have sg := sign_fr fr (by omega)
  have fa := fr_all fr
  obtain ⟨s, a, b, m, k, e, _⟩ := fr
  obtain rfl := frac_inj e
  have hlen : cells.length = i * 3 := by rw [e1, (R3.rq _).len, List.length_take, Nat.min_eq_left (by rw [← h.1]; exact hi)]
  have next : (qs.take (i + 1)) = qs.take i ++ [qs.getD i 0] := by
   rw [List.take_add_one, List.getD_eq_getElem?_getD, List.getElem?_eq_getElem (by rw [← h.1]; exact hlt)]; rfl
  have hcells : cells ++ rqC (qs.getD i 0) = ((qs.take (i + 1)).map rqC).flatten := by
   rw [next, List.map_append, List.flatten_append, e1]; simp
  have hi31 : (i : Int) + 1 < 9223372036854775808 := by have := h.1; omega
  refine ⟨⟨Int.natCast_nonneg i, by exact Int.ofNat_lt.2 hlt, h3.ne (by rw [← h.1]; omega)⟩, h3.fits rfl (i := i) (by rw [← h.1]; exact hlt) rfl, _, h3.at rfl hc rfl, rfl, ⟨rfl, rfl, Nat.le_refl 3, fa⟩, ⟨Nat.le_refl 3, fa⟩, _, tr, ⟨rfl, rfl, by decide⟩,
   ⟨rfl, rfl⟩, ⟨rfl, hlen, rfl, Nat.one_pos, by have := h.1; show (i + 1) * 56 ≤ _; omega, by have := h.1; show i + 1 ≤ 2 ^ 63 - 1; omega, rfl, nofun⟩, ⟨Nat.le_refl 3, fa⟩, _, sg, fun hz => ?_, fun hz => ?_⟩
  ·
   have hne : qs.getD i 0 ≠ 0 := fun e => by rw [e] at hz; exact nd hz
   refine ⟨⟨by show _ ≤ (i : Int) + 1; omega, hi31⟩, ⟨by show _ ≤ (i : Int) + 1; omega, hi31⟩, (i + 1, cells ++ rqC (qs.getD i 0), (i : Int) + 1), ⟨hlt, hcells, ?_⟩, ?_, rfl, ⟨.inl rfl, .inl rfl, .inl rfl, .inl rfl, .inl rfl, trivial⟩, ⟨.inl rfl, trivial⟩⟩
   ·
    show (i : Int) + 1 = _
    rw [next, rtrim_snoc, if_neg hne, List.length_append, List.length_take, Nat.min_eq_left (by rw [← h.1]; exact hi)]; rfl
   ·
    show rows.length - (i + 1) < rows.length - i
    omega
  ·
   have hne : qs.getD i 0 = 0 := Classical.byContradiction fun e => by
    have := of_decide_eq_true (by simpa using hz : decide (rsign (qs.getD i 0) = 0) = true)
    unfold rsign at this
    rw [if_neg (fun h => e (Rat.num_eq_zero.1 h))] at this
    split at this <;> omega
   refine ⟨⟨by show _ ≤ (i : Int) + 1; omega, hi31⟩, (i + 1, cells ++ rqC (qs.getD i 0), nz), ⟨hlt, hcells, ?_⟩, ?_, rfl, ⟨.inl rfl, .inl rfl, .inl rfl, .inl rfl, .inl rfl, trivial⟩, ⟨.inl rfl, trivial⟩⟩
   ·
    show nz = _
    rw [next, rtrim_snoc, if_pos hne, e2]
   ·
    show rows.length - (i + 1) < rows.length - i
    omega
 ·
  have hlt : i = rows.length := by have := of_decide_eq_false hb; omega
  have hall : qs.take i = qs := by rw [hlt, h.1, List.take_length]
  rw [hall] at e1 e2
  have hle := rtrim_len qs
  refine ⟨⟨Int.le_refl 0, by show 0 ≤ nz; omega, by show nz ≤ (i : Int); rw [e2, hlt, h.1]; omega⟩, ⟨rfl, .inr rfl⟩, ?_, trivial⟩
  show some (D.sl (nz.toNat - 0) ((cells.drop 0).take ((nz.toNat - 0) * 3))) = some (D.sl _ _)
  rw [e2, Int.toNat_natCast, Nat.sub_zero, List.drop_zero, e1, flat_take _ _ (fun c hc => ((R3.rq qs).2 c hc).1), ← List.map_take, ← rtrim_take]
theorem two_rq {c d : List D} (hc : c.length = 3 ∧ c.all D.one = true) (hd : d.length = 3 ∧ d.all D.one = true) : (c ++ d).all D.one = true := by
 rw [List.all_append, hc.2, hd.2]; rfl
theorem add_fr {rows rows' : List (List D)} {qs ps : List Rat} {L : Nat} (h : Ab.Rows rows qs L) (k : Ab.Rows rows' ps L) (hL : L ≤ 10000) (hn : qs.length ≤ 100000) (hm : ps.length ≤ 100000) :
  Ab.Spec Try.prog 17 [.sl rows.length rows.flatten, .sl rows'.length rows'.flatten] (pD (rtrim (addL qs ps))) := by
 have h3 := h.r3; have k3 := k.r3
 have hl := h.1; have kl := k.1
 obtain ⟨n, hN⟩ : ∃ n, n = max qs.length ps.length := ⟨_, rfl⟩
 refine spec_of (n := 59) (ds := [_]) tOk mixed Try.func17 rfl rfl rfl rfl rfl (by simp) ?_
 refine ⟨.int .i64 (n : Int), ?_, ⟨Int.natCast_nonneg n, Int.le_refl _, by show (56 : Int) * n ≤ 281474976710656; omega, by omega⟩, rfl, ?_⟩
 ·
  show D.int .i64 (if (rows'.length : Int) > rows.length then (rows'.length : Int) else rows.length) = _
  congr 1
  split <;> omega
 refine loop_of 59 (S := Nat × List D) (fun x => [(0, .d (.sl rows.length rows.flatten)), (1, .d (.sl rows'.length rows'.flatten)), (5, .osl 12 0 n 3 true), (14, .d (.int .i64 n)), (15, .d (.int .i64 x.1))])
  (fun x => [(12, ⟨40, .d x.2, false⟩)]) (fun x => n - x.1)
  (fun x => x.1 ≤ n ∧ ∃ rs, x.2 = rs.flatten ∧ R3 rs n ∧ ∀ j, j < x.1 → rs[j]? = some (rqC (qs.getD j 0 + ps.getD j 0))) (0, (List.replicate n [.bool false, .nils, .nils]).flatten) ⟨Nat.zero_le _, _, rfl, ⟨by simp, fun c hc => by rw [(List.mem_replicate.1 hc).2]; exact ⟨rfl, rfl⟩⟩, fun j hj => by omega⟩ rfl (fun _ => rfl) ⟨.inl rfl, .inl rfl, .inl rfl, .inl rfl, .inl rfl, trivial⟩ ⟨.inl rfl, trivial⟩ ?_
 rintro ⟨i, cells⟩ ⟨hi, rs, e1, hr, e2⟩
 dsimp only at hi e1 e2
 have ho : (0 + (i : Int).toNat * 3) = i * 3 := by simp
 refine ⟨fun hb => ?_, fun hb => ?_⟩
 ·
  have hlt : i < n := by have := of_decide_eq_true hb; omega
  have hI : (-9223372036854775808 : Int) ≤ (i : Int) + 1 ∧ (i : Int) + 1 < 9223372036854775808 := by omega
  have hix : (0 : Int) ≤ i ∧ (i : Int) < n := by omega
  have hmu : n - (i + 1) < n - i := by omega
  have P0 := hr.putq e1 (i := i) (off := 0 + (i : Int).toNat * 3) 0 ho
  have hr0 : R3 (rs.set i (rqC 0)) n := hr.set i rfl rfl
  have fin : ∀ v, v = qs.getD i 0 + ps.getD i 0 → ∀ j, j < i + 1 → (rs.set i (rqC v))[j]? = some (rqC (qs.getD j 0 + ps.getD j 0)) := fun v hv j hj => by
   rw [List.getElem?_set]
   by_cases hji : i = j
   ·
    subst hji; rw [if_pos rfl, if_pos (by rw [hr.1]; exact hlt), hv]
   ·
    rw [if_neg hji]; exact e2 j (by omega)
  have fin1 : ∀ v w, v = qs.getD i 0 + ps.getD i 0 → ∀ j, j < i + 1 → ((rs.set i w).set i (rqC v))[j]? = some (rqC (qs.getD j 0 + ps.getD j 0)) := fun v w hv => by rw [List.set_set]; exact fin v hv
  have fin2 : ∀ v w w', v = qs.getD i 0 + ps.getD i 0 → ∀ j, j < i + 1 → (((rs.set i w).set i w').set i (rqC v))[j]? = some (rqC (qs.getD j 0 + ps.getD j 0)) := fun v w w' hv => by rw [List.set_set, List.set_set]; exact fin v hv
  have at0 : (rs.set i (rqC 0))[i]? = some (rqC 0) := by rw [List.getElem?_set_self (by rw [hr.1]; exact hlt)]
  have z1 : Fr (.agg (rqC 0)) 0 100000 := Fr.rq Sz.zero (by omega)
  refine ⟨_, zero_spec, hix, ⟨rfl, rfl, (hr.fits e1 hlt ho).1, rfl⟩, fun hb1 => ?_, fun hb1 => ?_⟩
  ·
   have hla : i < rows.length := by have := of_decide_eq_true hb1; omega
   obtain ⟨c, hc⟩ := h3.get (i := i) (by omega)
   have fr := (h.2 i c hc).mono (L' := 100000) (by omega)
   have fa := fr_all fr
   have ad := add2_fr z1 fr (Nat.le_refl _)
   rw [Rat.zero_add] at ad
   have P1 := hr0.putq P0 (i := i) (off := 0 + (i : Int).toNat * 3) (qs.getD i 0) ho
   have hr1 : R3 ((rs.set i (rqC 0)).set i (rqC (qs.getD i 0))) n := hr0.set i rfl rfl
   have at1 : ((rs.set i (rqC 0)).set i (rqC (qs.getD i 0)))[i]? = some (rqC (qs.getD i 0)) := by rw [List.getElem?_set_self (by rw [hr0.1]; exact hlt)]
   have szq := (h.2 i c hc).sz
   obtain ⟨s, a, b, m, k', e, _⟩ := fr
   obtain rfl := frac_inj e
   refine ⟨by kernel_rfl, hix, hr0.fits P0 hlt ho, _, hr0.at P0 at0 ho, ⟨Int.natCast_nonneg i, by exact Int.ofNat_lt.2 hla, h3.ne (by omega)⟩, h3.fits rfl (i := i) (by omega) rfl, _, h3.at rfl hc rfl, ⟨rfl, two_rq (c := rqC 0) ⟨rfl, rfl⟩ ⟨rfl, fa⟩, by decide⟩, _, ad, hix, ⟨rfl, rfl, (hr0.fits P0 hlt ho).1, rfl⟩, fun hb2 => ?_, fun hb2 => ?_⟩
   ·
    have hlb : i < rows'.length := by have := of_decide_eq_true hb2; omega
    obtain ⟨c', hc'⟩ := k3.get (i := i) (by omega)
    have fr' := (k.2 i c' hc').mono (L' := 100000) (by omega)
    have fa' := fr_all fr'
    have ad' := add2_fr (Fr.rq szq (L := 100000) (by omega)) fr' (Nat.le_refl _)
    obtain ⟨t, a', b', m', k'', e', _⟩ := fr'
    obtain rfl := frac_inj e'
    have P2 := hr1.putq P1 (i := i) (off := 0 + (i : Int).toNat * 3) (qs.getD i 0 + ps.getD i 0) ho
    exact ⟨by kernel_rfl, hix, hr1.fits P1 hlt ho, _, hr1.at P1 at1 ho, ⟨Int.natCast_nonneg i, by exact Int.ofNat_lt.2 hlb, k3.ne (by omega)⟩, k3.fits rfl (i := i) (by omega) rfl, _, k3.at rfl hc' rfl, ⟨rfl, two_rq (c := rqC (qs.getD i 0)) ⟨rfl, rfl⟩ ⟨rfl, fa'⟩, by decide⟩, _, ad', hix, ⟨rfl, rfl, (hr1.fits P1 hlt ho).1, rfl⟩, ⟨hI.1, hI.2⟩, (i + 1, _), ⟨hlt, _, P2, hr1.set i rfl rfl, fin2 _ _ _ rfl⟩, hmu, rfl, ⟨.inl rfl, .inl rfl, .inl rfl, .inl rfl, .inl rfl, trivial⟩, ⟨.inl rfl, trivial⟩⟩
   ·
    have hlb : rows'.length ≤ i := by have := of_decide_eq_false hb2; omega
    have hz : ps.getD i 0 = 0 := by rw [List.getD_eq_getElem?_getD, List.getElem?_eq_none (by omega)]; rfl
    exact ⟨⟨hI.1, hI.2⟩, (i + 1, _), ⟨hlt, _, P1, hr1, fin1 _ _ (by rw [hz, Rat.add_zero])⟩, hmu, rfl, ⟨.inl rfl, .inl rfl, .inl rfl, .inl rfl, .inl rfl, trivial⟩, ⟨.inl rfl, trivial⟩⟩
  ·
   have hla : rows.length ≤ i := by have := of_decide_eq_false hb1; omega
   have hzq : qs.getD i 0 = 0 := by rw [List.getD_eq_getElem?_getD, List.getElem?_eq_none (by omega)]; rfl
   refine ⟨fun hb2 => ?_, fun hb2 => ?_⟩
   ·
    have hlb : i < rows'.length := by have := of_decide_eq_true hb2; omega
    obtain ⟨c', hc'⟩ := k3.get (i := i) (by omega)
    have fr' := (k.2 i c' hc').mono (L' := 100000) (by omega)
    have fa' := fr_all fr'
    have ad' := add2_fr z1 fr' (Nat.le_refl _)
    obtain ⟨t, a', b', m', k'', e', _⟩ := fr'
    obtain rfl := frac_inj e'
    have P2 := hr0.putq P0 (i := i) (off := 0 + (i : Int).toNat * 3) (0 + ps.getD i 0) ho
    exact ⟨by kernel_rfl, hix, hr0.fits P0 hlt ho, _, hr0.at P0 at0 ho, ⟨Int.natCast_nonneg i, by exact Int.ofNat_lt.2 hlb, k3.ne (by omega)⟩, k3.fits rfl (i := i) (by omega) rfl, _, k3.at rfl hc' rfl, ⟨rfl, two_rq (c := rqC (0)) ⟨rfl, rfl⟩ ⟨rfl, fa'⟩, by decide⟩, _, ad', hix, ⟨rfl, rfl, (hr0.fits P0 hlt ho).1, rfl⟩, ⟨hI.1, hI.2⟩, (i + 1, _), ⟨hlt, _, P2, hr0.set i rfl rfl, fin1 _ _ (by rw [hzq])⟩, hmu, rfl, ⟨.inl rfl, .inl rfl, .inl rfl, .inl rfl, .inl rfl, trivial⟩, ⟨.inl rfl, trivial⟩⟩
   ·
    have hlb : rows'.length ≤ i := by have := of_decide_eq_false hb2; omega
    omega
 ·
  have hn2 : i = n := by have := of_decide_eq_false hb; omega
  have hrs : rs = (addL qs ps).map rqC := by
   refine List.ext_getElem? fun j => ?_
   by_cases hj : j < n
   ·
    rw [e2 j (by omega), List.getElem?_map]
    unfold addL
    rw [List.getElem?_map, List.getElem?_range (by omega)]; rfl
   ·
    rw [List.getElem?_eq_none (by rw [hr.1]; omega), List.getElem?_eq_none (by simp [addL]; omega)]
  have hlen : (addL qs ps).length = n := by simp [addL, hN]
  have R : Ab.Rows ((addL qs ps).map rqC) (addL qs ps) 100000 := Rows.of (addL_sz h.sz k.sz (by omega) (by omega)) (by omega)
  have cn := canon_fr R (Nat.le_refl _) (by rw [hlen]; omega)
  rw [List.length_map, hlen, ← hrs, ← e1] at cn
  refine ⟨_, ?_, rfl, trivial⟩
  show Ab.Spec Try.prog _ [D.sl n ((cells.drop 0).take (n * 3))] _
  rw [List.drop_zero, List.take_of_length_le (by rw [e1, hr.len]; exact Nat.le_refl _)]
  exact cn
theorem int0_spec : Ab.Spec Try.prog 26 [.int .i64 0] (rq 0) := by
 have := r2int_spec 0 (by omega) (by omega)
 rwa [show (((0 : Int) : Rat)) = 0 from rfl] at this
theorem rsign_ne {r : Rat} (h : rsign r = 0) : r = 0 := Classical.byContradiction fun e => by
 unfold rsign at h
 rw [if_neg (fun h => e (Rat.num_eq_zero.1 h))] at h
 split at h <;> omega
theorem rcanon_fr {rows : List (List D)} {qs : List Rat} {L : Nat} (h : Ab.Rows rows qs L) (hL : L ≤ 100000) (hn : qs.length ≤ 1000000) : Ab.Spec Try.prog 52 [.sl rows.length rows.flatten] (pD (rtrim qs)) := by
 have h3 := h.r3
 have hle := rtrim_len qs
 have hl := h.1
 refine spec_of (n := 37) (ds := [_]) tOk mixed Try.func52 rfl rfl rfl rfl rfl (by simp) ?_
 refine loop_of 37 (S := Nat × Int) (fun x => [(0, .d (.sl rows.length rows.flatten)), (3, .d (.int .i64 x.2)), (4, .d (.int .i64 x.1))]) (fun x => []) (fun x => rows.length - x.1)
  (fun x => x.1 ≤ rows.length ∧ x.2 = ((rtrim (qs.take x.1)).length : Int)) (0, 0) ⟨Nat.zero_le _, rfl⟩ rfl (fun _ => rfl) ⟨.inl rfl, .inl rfl, .inl rfl, trivial⟩ trivial ?_
 rintro ⟨i, nz⟩ ⟨hi, e2⟩
 dsimp only at hi e2
 refine ⟨fun hb => ?_, fun hb => ?_⟩
 ·
  have hlt : i < rows.length := by have := of_decide_eq_true hb; omega
  obtain ⟨c, hc⟩ := h3.get (i := i) (by omega)
  have sg := r2sign_fr (h.2 i c hc) (by omega)
  have next : (qs.take (i + 1)) = qs.take i ++ [qs.getD i 0] := by
   rw [List.take_add_one, List.getD_eq_getElem?_getD, List.getElem?_eq_getElem (by omega)]; rfl
  have hI : (-9223372036854775808 : Int) ≤ (i : Int) + 1 ∧ (i : Int) + 1 < 9223372036854775808 := by omega
  have hmu : rows.length - (i + 1) < rows.length - i := by omega
  refine ⟨⟨Int.natCast_nonneg i, by exact Int.ofNat_lt.2 hlt, h3.ne (by omega)⟩, h3.fits rfl (i := i) (by omega) rfl, _, h3.at rfl hc rfl, _, sg, fun hz => ?_, fun hz => ?_⟩
  ·
   have hne : qs.getD i 0 ≠ 0 := fun e => by rw [e] at hz; exact nd hz
   refine ⟨⟨hI.1, hI.2⟩, ⟨hI.1, hI.2⟩, (i + 1, (i : Int) + 1), ⟨hlt, ?_⟩, hmu, rfl, ⟨.inl rfl, .inl rfl, .inl rfl, trivial⟩, trivial⟩
   show (i : Int) + 1 = _
   rw [next, rtrim_snoc, if_neg hne, List.length_append, List.length_take, Nat.min_eq_left (by omega)]; rfl
  ·
   have hne : qs.getD i 0 = 0 := rsign_ne (of_decide_eq_true (by simpa using hz : decide (rsign (qs.getD i 0) = 0) = true))
   refine ⟨⟨hI.1, hI.2⟩, (i + 1, nz), ⟨hlt, ?_⟩, hmu, rfl, ⟨.inl rfl, .inl rfl, .inl rfl, trivial⟩, trivial⟩
   show nz = _
   rw [next, rtrim_snoc, if_pos hne, e2]
 ·
  have hlt : i = rows.length := by have := of_decide_eq_false hb; omega
  have hall : qs.take i = qs := by rw [hlt, hl, List.take_length]
  rw [hall] at e2
  subst e2
  obtain ⟨n, hN⟩ : ∃ n, n = (rtrim qs).length := ⟨_, rfl⟩
  rw [← hN]
  refine ⟨⟨Int.natCast_nonneg n, Int.le_refl _, by show (56 : Int) * n ≤ 281474976710656; omega, by show (n : Int) ≤ 9223372036854775807; omega⟩, rfl, ?_⟩
  refine loop_of 37 (S := Nat × List D) (fun x => [(0, .d (.sl rows.length rows.flatten)), (3, .d (.int .i64 n)), (5, .osl 22 0 n 3 true), (6, .d (.int .i64 x.1))]) (fun x => [(22, ⟨40, .d x.2, false⟩)]) (fun x => n - x.1)
   (fun x => x.1 ≤ n ∧ ∃ rs, x.2 = rs.flatten ∧ R3 rs n ∧ ∀ j, j < x.1 → rs[j]? = some (rqC (qs.getD j 0))) (0, (List.replicate n [.bool false, .nils, .nils]).flatten) ⟨Nat.zero_le _, _, rfl, ⟨by simp, fun c hc => by rw [(List.mem_replicate.1 hc).2]; exact ⟨rfl, rfl⟩⟩, fun j hj => by omega⟩ rfl (fun _ => rfl) ⟨.inl rfl, .inl rfl, .inl rfl, .inl rfl, trivial⟩ ⟨.inl rfl, trivial⟩ ?_
  rintro ⟨i, cells⟩ ⟨hi, rs, e1, hr, e2⟩
  dsimp only at hi e1 e2
  have ho : (0 + (i : Int).toNat * 3) = i * 3 := by simp
  refine ⟨fun hb => ?_, fun hb => ?_⟩
  ·
   have hlt : i < n := by have := of_decide_eq_true hb; omega
   obtain ⟨c, hc⟩ := h3.get (i := i) (by omega)
   have tr := rtrim_fr (h.2 i c hc) (by omega)
   have hix : (0 : Int) ≤ i ∧ (i : Int) < n := by omega
   have P0 := hr.putq e1 (i := i) (off := 0 + (i : Int).toNat * 3) (qs.getD i 0) ho
   refine ⟨⟨Int.natCast_nonneg i, by show (i : Int) < rows.length; omega, h3.ne (by omega)⟩, h3.fits rfl (i := i) (by omega) rfl, _, h3.at rfl hc rfl, _, tr, hix, ⟨rfl, rfl, (hr.fits e1 hlt ho).1, rfl⟩, ⟨by show _ ≤ (i : Int) + 1; omega, by show (i : Int) + 1 < _; omega⟩, (i + 1, _), ⟨hlt, _, P0, hr.set i rfl rfl, fun j hj => ?_⟩, by show n - (i + 1) < n - i; omega, rfl, ⟨.inl rfl, .inl rfl, .inl rfl, .inl rfl, trivial⟩, ⟨.inl rfl, trivial⟩⟩
   rw [List.getElem?_set]
   by_cases hji : i = j
   ·
    subst hji; rw [if_pos rfl, if_pos (by rw [hr.1]; exact hlt)]
   ·
    rw [if_neg hji]; exact e2 j (by have : j < i + 1 := hj; omega)
  ·
   have hn2 : i = n := by have := of_decide_eq_false hb; omega
   have hrs : rs = (rtrim qs).map rqC := by
    rw [rtrim_take, ← hN]
    refine List.ext_getElem? fun j => ?_
    by_cases hj : j < n
    ·
     rw [e2 j (by omega), List.getElem?_map, List.getElem?_take, if_pos hj, List.getD_eq_getElem?_getD, List.getElem?_eq_getElem (by omega)]; rfl
    ·
     rw [List.getElem?_eq_none (by rw [hr.1]; omega), List.getElem?_eq_none (by simp; omega)]
   refine ⟨?_, trivial⟩
   show some (D.sl n ((cells.drop 0).take (n * 3))) = some (D.sl _ _)
   rw [List.drop_zero, List.take_of_length_le (by rw [e1, hr.len]; exact Nat.le_refl _), e1, hrs, hN]
theorem r55add_fr {rows rows' : List (List D)} {qs ps : List Rat} {L : Nat} (h : Ab.Rows rows qs L) (k : Ab.Rows rows' ps L) (hL : L ≤ 10000) (hn : qs.length ≤ 100000) (hm : ps.length ≤ 100000) :
  Ab.Spec Try.prog 18 [.sl rows.length rows.flatten, .sl rows'.length rows'.flatten] (pD (rtrim (addL qs ps))) := by
 have h3 := h.r3; have k3 := k.r3
 have hl := h.1; have kl := k.1
 obtain ⟨n, hN⟩ : ∃ n, n = max qs.length ps.length := ⟨_, rfl⟩
 refine spec_of (n := 57) (ds := [_]) tOk mixed Try.func18 rfl rfl rfl rfl rfl (by simp) ?_
 refine ⟨.int .i64 (n : Int), ?_, ⟨Int.natCast_nonneg n, Int.le_refl _, by show (56 : Int) * n ≤ 281474976710656; omega, by omega⟩, rfl, ?_⟩
 ·
  show D.int .i64 (if (rows'.length : Int) > rows.length then (rows'.length : Int) else rows.length) = _
  congr 1
  split <;> omega
 refine loop_of 57 (S := Nat × List D) (fun x => [(0, .d (.sl rows.length rows.flatten)), (1, .d (.sl rows'.length rows'.flatten)), (5, .osl 12 0 n 3 true), (6, .d (.int .i64 x.1))])
  (fun x => [(12, ⟨40, .d x.2, false⟩)]) (fun x => n - x.1)
  (fun x => x.1 ≤ n ∧ ∃ rs, x.2 = rs.flatten ∧ R3 rs n ∧ ∀ j, j < x.1 → rs[j]? = some (rqC (qs.getD j 0 + ps.getD j 0))) (0, (List.replicate n [.bool false, .nils, .nils]).flatten) ⟨Nat.zero_le _, _, rfl, ⟨by simp, fun c hc => by rw [(List.mem_replicate.1 hc).2]; exact ⟨rfl, rfl⟩⟩, fun j hj => by omega⟩ rfl (fun _ => rfl) ⟨.inl rfl, .inl rfl, .inl rfl, .inl rfl, trivial⟩ ⟨.inl rfl, trivial⟩ ?_
 rintro ⟨i, cells⟩ ⟨hi, rs, e1, hr, e2⟩
 dsimp only at hi e1 e2
 have ho : (0 + (i : Int).toNat * 3) = i * 3 := by simp
 refine ⟨fun hb => ?_, fun hb => ?_⟩
 ·
  have hlt : i < n := by have := of_decide_eq_true hb; omega
  have hI : (-9223372036854775808 : Int) ≤ (i : Int) + 1 ∧ (i : Int) + 1 < 9223372036854775808 := by omega
  have hix : (0 : Int) ≤ i ∧ (i : Int) < n := by omega
  have hmu : n - (i + 1) < n - i := by omega
  have P0 := hr.putq e1 (i := i) (off := 0 + (i : Int).toNat * 3) 0 ho
  have hr0 : R3 (rs.set i (rqC 0)) n := hr.set i rfl rfl
  have fin : ∀ v, v = qs.getD i 0 + ps.getD i 0 → ∀ j, j < i + 1 → (rs.set i (rqC v))[j]? = some (rqC (qs.getD j 0 + ps.getD j 0)) := fun v hv j hj => by
   rw [List.getElem?_set]
   by_cases hji : i = j
   ·
    subst hji; rw [if_pos rfl, if_pos (by rw [hr.1]; exact hlt), hv]
   ·
    rw [if_neg hji]; exact e2 j (by omega)
  have fin1 : ∀ v w, v = qs.getD i 0 + ps.getD i 0 → ∀ j, j < i + 1 → ((rs.set i w).set i (rqC v))[j]? = some (rqC (qs.getD j 0 + ps.getD j 0)) := fun v w hv => by rw [List.set_set]; exact fin v hv
  have fin2 : ∀ v w w', v = qs.getD i 0 + ps.getD i 0 → ∀ j, j < i + 1 → (((rs.set i w).set i w').set i (rqC v))[j]? = some (rqC (qs.getD j 0 + ps.getD j 0)) := fun v w w' hv => by rw [List.set_set, List.set_set]; exact fin v hv
  have at0 : (rs.set i (rqC 0))[i]? = some (rqC 0) := by rw [List.getElem?_set_self (by rw [hr.1]; exact hlt)]
  have z1 : Fr (.agg (rqC 0)) 0 100000 := Fr.rq Sz.zero (by omega)
  refine ⟨_, int0_spec, hix, ⟨rfl, rfl, (hr.fits e1 hlt ho).1, rfl⟩, fun hb1 => ?_, fun hb1 => ?_⟩
  ·
   have hla : i < rows.length := by have := of_decide_eq_true hb1; omega
   obtain ⟨c, hc⟩ := h3.get (i := i) (by omega)
   have fr := (h.2 i c hc).mono (L' := 100000) (by omega)
   have fa := fr_all fr
   have ad := r2add_fr z1 fr (Nat.le_refl _)
   rw [Rat.zero_add] at ad
   have P1 := hr0.putq P0 (i := i) (off := 0 + (i : Int).toNat * 3) (qs.getD i 0) ho
   have hr1 : R3 ((rs.set i (rqC 0)).set i (rqC (qs.getD i 0))) n := hr0.set i rfl rfl
   have at1 : ((rs.set i (rqC 0)).set i (rqC (qs.getD i 0)))[i]? = some (rqC (qs.getD i 0)) := by rw [List.getElem?_set_self (by rw [hr0.1]; exact hlt)]
   have szq := (h.2 i c hc).sz
   obtain ⟨s, a, b, m, k', e, _⟩ := fr
   obtain rfl := frac_inj e
   refine ⟨by kernel_rfl, hix, hr0.fits P0 hlt ho, _, hr0.at P0 at0 ho, ⟨Int.natCast_nonneg i, by exact Int.ofNat_lt.2 hla, h3.ne (by omega)⟩, h3.fits rfl (i := i) (by omega) rfl, _, h3.at rfl hc rfl, _, ad, hix, ⟨rfl, rfl, (hr0.fits P0 hlt ho).1, rfl⟩, fun hb2 => ?_, fun hb2 => ?_⟩
   ·
    have hlb : i < rows'.length := by have := of_decide_eq_true hb2; omega
    obtain ⟨c', hc'⟩ := k3.get (i := i) (by omega)
    have fr' := (k.2 i c' hc').mono (L' := 100000) (by omega)
    have fa' := fr_all fr'
    have ad' := r2add_fr (Fr.rq szq (L := 100000) (by omega)) fr' (Nat.le_refl _)
    obtain ⟨t, a', b', m', k'', e', _⟩ := fr'
    obtain rfl := frac_inj e'
    have P2 := hr1.putq P1 (i := i) (off := 0 + (i : Int).toNat * 3) (qs.getD i 0 + ps.getD i 0) ho
    exact ⟨by kernel_rfl, hix, hr1.fits P1 hlt ho, _, hr1.at P1 at1 ho, ⟨Int.natCast_nonneg i, by exact Int.ofNat_lt.2 hlb, k3.ne (by omega)⟩, k3.fits rfl (i := i) (by omega) rfl, _, k3.at rfl hc' rfl, _, ad', hix, ⟨rfl, rfl, (hr1.fits P1 hlt ho).1, rfl⟩, ⟨hI.1, hI.2⟩, (i + 1, _), ⟨hlt, _, P2, hr1.set i rfl rfl, fin2 _ _ _ rfl⟩, hmu, rfl, ⟨.inl rfl, .inl rfl, .inl rfl, .inl rfl, trivial⟩, ⟨.inl rfl, trivial⟩⟩
   ·
    have hlb : rows'.length ≤ i := by have := of_decide_eq_false hb2; omega
    have hz : ps.getD i 0 = 0 := by rw [List.getD_eq_getElem?_getD, List.getElem?_eq_none (by omega)]; rfl
    exact ⟨⟨hI.1, hI.2⟩, (i + 1, _), ⟨hlt, _, P1, hr1, fin1 _ _ (by rw [hz, Rat.add_zero])⟩, hmu, rfl, ⟨.inl rfl, .inl rfl, .inl rfl, .inl rfl, trivial⟩, ⟨.inl rfl, trivial⟩⟩
  ·
   have hla : rows.length ≤ i := by have := of_decide_eq_false hb1; omega
   have hzq : qs.getD i 0 = 0 := by rw [List.getD_eq_getElem?_getD, List.getElem?_eq_none (by omega)]; rfl
   refine ⟨fun hb2 => ?_, fun hb2 => ?_⟩
   ·
    have hlb : i < rows'.length := by have := of_decide_eq_true hb2; omega
    obtain ⟨c', hc'⟩ := k3.get (i := i) (by omega)
    have fr' := (k.2 i c' hc').mono (L' := 100000) (by omega)
    have fa' := fr_all fr'
    have ad' := r2add_fr z1 fr' (Nat.le_refl _)
    obtain ⟨t, a', b', m', k'', e', _⟩ := fr'
    obtain rfl := frac_inj e'
    have P2 := hr0.putq P0 (i := i) (off := 0 + (i : Int).toNat * 3) (0 + ps.getD i 0) ho
    exact ⟨by kernel_rfl, hix, hr0.fits P0 hlt ho, _, hr0.at P0 at0 ho, ⟨Int.natCast_nonneg i, by exact Int.ofNat_lt.2 hlb, k3.ne (by omega)⟩, k3.fits rfl (i := i) (by omega) rfl, _, k3.at rfl hc' rfl, _, ad', hix, ⟨rfl, rfl, (hr0.fits P0 hlt ho).1, rfl⟩, ⟨hI.1, hI.2⟩, (i + 1, _), ⟨hlt, _, P2, hr0.set i rfl rfl, fin1 _ _ (by rw [hzq])⟩, hmu, rfl, ⟨.inl rfl, .inl rfl, .inl rfl, .inl rfl, trivial⟩, ⟨.inl rfl, trivial⟩⟩
   ·
    have hlb : rows'.length ≤ i := by have := of_decide_eq_false hb2; omega
    omega
 ·
  have hn2 : i = n := by have := of_decide_eq_false hb; omega
  have hrs : rs = (addL qs ps).map rqC := by
   refine List.ext_getElem? fun j => ?_
   by_cases hj : j < n
   ·
    rw [e2 j (by omega), List.getElem?_map]
    unfold addL
    rw [List.getElem?_map, List.getElem?_range (by omega)]; rfl
   ·
    rw [List.getElem?_eq_none (by rw [hr.1]; omega), List.getElem?_eq_none (by simp [addL]; omega)]
  have hlen : (addL qs ps).length = n := by simp [addL, hN]
  have R : Ab.Rows ((addL qs ps).map rqC) (addL qs ps) 100000 := Rows.of (addL_sz h.sz k.sz (by omega) (by omega)) (by omega)
  have cn := rcanon_fr R (Nat.le_refl _) (by rw [hlen]; omega)
  rw [List.length_map, hlen, ← hrs, ← e1] at cn
  refine ⟨_, ?_, rfl, trivial⟩
  show Ab.Spec Try.prog _ [D.sl n ((cells.drop 0).take (n * 3))] _
  rw [List.drop_zero, List.take_of_length_le (by rw [e1, hr.len]; exact Nat.le_refl _)]
  exact cn
end Go.Proofs.Ytpjpbhjpobdenaa.NatC
/- Products of polynomials over values. -/
namespace Go.Proofs.Ytpjpbhjpobdenaa.NatC
open Go Ab Cw
set_option maxRecDepth 100000
set_option linter.unusedVariables false
theorem map_get {o : List Rat} {i : Nat} (hi : i < o.length) : (o.map rqC)[i]? = some (rqC (o.getD i 0)) := by
 rw [List.getElem?_map, List.getD_eq_getElem?_getD, List.getElem?_eq_getElem hi]; rfl
theorem map_set {o : List Rat} {i : Nat} {v : Rat} : (o.map rqC).set i (rqC v) = (o.set i v).map rqC := by rw [List.map_set]
theorem getD_mem {o : List Rat} {i : Nat} (hi : i < o.length) : o.getD i 0 ∈ o := by
 rw [List.getD_eq_getElem?_getD, List.getElem?_eq_getElem hi]; exact List.getElem_mem hi
/-- the rows after the first loop -/
theorem rows_done {rs : List (List D)} {n : Nat} (hr : R3 rs n) (e : ∀ j, j < n → rs[j]? = some (rqC 0)) : rs = (List.replicate n (0 : Rat)).map rqC := by
 refine List.ext_getElem? fun j => ?_
 by_cases hj : j < n
 ·
  rw [e j hj, map_get (by simpa using hj)]
  congr 2
  rw [List.getD_eq_getElem?_getD, List.getElem?_replicate, if_pos hj]; rfl
 ·
  rw [List.getElem?_eq_none (by rw [hr.1]; omega), List.getElem?_eq_none (by simp; omega)]
theorem mul_fr {rows rows' : List (List D)} {qs ps : List Rat} {L : Nat} (h : Ab.Rows rows qs L) (k : Ab.Rows rows' ps L) (hL : L ≤ 10000) (hn : qs.length ≤ 100000) (hm : ps.length ≤ 100000) (hbig : 1 + qs.length * ps.length * (64 * L + 3) ≤ 3000000) :
  Ab.Spec Try.prog 19 [.sl rows.length rows.flatten, .sl rows'.length rows'.flatten] (pD (rtrim (mulL qs ps))) := by
 have h3 := h.r3; have k3 := k.r3
 have hl := h.1; have kl := k.1
 refine spec_of (n := 62) (ds := [_]) tOk mixed Try.func19 rfl rfl rfl rfl rfl (by simp) ?_
 refine ⟨⟨by show _ ≤ (rows.length : Int) + rows'.length; omega, by show (rows.length : Int) + rows'.length < _; omega⟩, ⟨by show 0 ≤ (rows.length : Int) + rows'.length; omega, Int.le_refl _, by show (56 : Int) * (rows.length + rows'.length) ≤ 281474976710656; omega, by show (rows.length : Int) + rows'.length ≤ _; omega⟩, rfl, ?_⟩
 refine loop_of 62 (S := Nat × List D) (fun x => [(0, .d (.sl rows.length rows.flatten)), (1, .d (.sl rows'.length rows'.flatten)), (5, .osl 16 0 (rows.length + rows'.length) 3 true), (18, .d (.int .i64 (rows.length + rows'.length : Nat))), (19, .d (.int .i64 x.1))])
  (fun x => [(16, ⟨40, .d x.2, false⟩)]) (fun x => rows.length + rows'.length - x.1)
  (fun x => x.1 ≤ rows.length + rows'.length ∧ ∃ rs, x.2 = rs.flatten ∧ R3 rs (rows.length + rows'.length) ∧ ∀ j, j < x.1 → rs[j]? = some (rqC 0)) (0, (List.replicate (rows.length + rows'.length) [.bool false, .nils, .nils]).flatten) ⟨Nat.zero_le _, _, rfl, ⟨by simp, fun c hc => by rw [(List.mem_replicate.1 hc).2]; exact ⟨rfl, rfl⟩⟩, fun j hj => by omega⟩ rfl (fun _ => rfl) ⟨.inl rfl, .inl rfl, .inl rfl, .inl rfl, .inl rfl, trivial⟩ ⟨.inl rfl, trivial⟩ ?_
 obtain ⟨n, hN⟩ : ∃ n, n = rows.length + rows'.length := ⟨_, rfl⟩
 rw [← hN]
 rintro ⟨i, cells⟩ ⟨hi, rs, e1, hr, e2⟩
 dsimp only at hi e1 e2
 have ho : (0 + (i : Int).toNat * 3) = i * 3 := by simp
 refine ⟨fun hb => ?_, fun hb => ?_⟩
 ·
  have hlt : i < n := by have := of_decide_eq_true hb; omega
  have P0 := hr.putq e1 (i := i) (off := 0 + (i : Int).toNat * 3) 0 ho
  refine ⟨_, zero_spec, ⟨Int.natCast_nonneg i, by exact Int.ofNat_lt.2 hlt⟩, ⟨rfl, rfl, (hr.fits e1 hlt ho).1, rfl⟩, ⟨by show _ ≤ (i : Int) + 1; omega, by show (i : Int) + 1 < _; omega⟩, (i + 1, _), ⟨hlt, _, P0, hr.set i rfl rfl, fun j hj => ?_⟩, by show n - (i + 1) < n - i; omega, rfl, ⟨.inl rfl, .inl rfl, .inl rfl, .inl rfl, .inl rfl, trivial⟩, ⟨.inl rfl, trivial⟩⟩
  rw [List.getElem?_set]
  by_cases hji : i = j
  ·
   subst hji; rw [if_pos rfl, if_pos (by rw [hr.1]; exact hlt)]
  ·
   rw [if_neg hji]; exact e2 j (by have : j < i + 1 := hj; omega)
 ·
  have hin : i = n := by have := of_decide_eq_false hb; omega
  have hz := rows_done hr (fun j hj => e2 j (by omega))
  subst hz
  have hone : ∀ r ∈ List.replicate n (0 : Rat), Sz r 1 := fun r hr => by rw [(List.mem_replicate.1 hr).2]; exact Sz.zero
  refine loop_of 62 (S := Nat × List D) (fun x => [(1, .d (.sl rows'.length rows'.flatten)), (5, .osl 16 0 n 3 true), (27, .d (.sl rows.length rows.flatten)), (28, .d (.int .i64 rows.length)), (29, .d (.int .i64 x.1))])
   (fun x => [(16, ⟨40, .d x.2, false⟩)]) (fun x => rows.length - x.1)
   (fun x => x.1 ≤ rows.length ∧ ∃ o : List Rat, x.2 = (o.map rqC).flatten ∧ o.length = n ∧ RMulInv qs ps o x.1 0 ∧ ∀ r ∈ o, Sz r (1 + x.1 * ps.length * (64 * L + 3))) (0, cells) ⟨Nat.zero_le _, List.replicate n 0, e1, by simp, RMulInv.start _ _ _, fun r hr => (hone r hr).mono (by omega)⟩ rfl (fun _ => rfl) ⟨.inl rfl, .inl rfl, .inl rfl, .inl rfl, .inl rfl, trivial⟩ ⟨.inl rfl, trivial⟩ ?_
  clear hone hb e1 e2 hr hin hi ho
  rintro ⟨i, cells⟩ ⟨hi, o, e1, hol, hinv, hsz⟩
  dsimp only at hi e1 hinv hsz
  refine ⟨fun hb => ?_, fun hb => ?_⟩
  ·
   have hlt : i < rows.length := by have := of_decide_eq_true hb; omega
   obtain ⟨c, hc⟩ := h3.get (i := i) (by omega)
   have fr := h.2 i c hc
   have fa := fr_all fr
   have fr1 := fr.mono (L' := 100000) (by omega)
   obtain ⟨s, a, b, m, k', e, _⟩ := fr
   obtain rfl := frac_inj e
   refine ⟨⟨Int.natCast_nonneg i, by exact Int.ofNat_lt.2 hlt, h3.ne (by omega)⟩, h3.fits rfl (i := i) (by omega) rfl, _, h3.at rfl hc rfl, rfl, ⟨rfl, rfl, Nat.le_refl 3, fa⟩, ?_⟩
   refine loop_of 62 (S := Nat × List D) (fun x => [(1, .d (.sl rows'.length rows'.flatten)), (5, .osl 16 0 n 3 true), (7, .d (.int .i64 i)), (8, .optr 8 0), (27, .d (.sl rows.length rows.flatten)), (28, .d (.int .i64 rows.length)), (29, .d (.int .i64 i)), (34, .d (.sl rows'.length rows'.flatten)), (35, .d (.int .i64 rows'.length)), (36, .d (.int .i64 x.1))])
    (fun x => [(16, ⟨40, .d x.2, false⟩), (8, ⟨40, .a [.d (.bool s), .d a, .d b], false⟩)]) (fun x => rows'.length - x.1)
    (fun x => x.1 ≤ rows'.length ∧ ∃ o : List Rat, x.2 = (o.map rqC).flatten ∧ o.length = n ∧ RMulInv qs ps o i x.1 ∧ ∀ r ∈ o, Sz r (1 + (i * ps.length + x.1) * (64 * L + 3))) (0, cells) ⟨Nat.zero_le _, o, e1, hol, hinv, hsz⟩ rfl (fun _ => rfl) ⟨.inl rfl, .inl rfl, .inl rfl, .inl rfl, .inl rfl, .inl rfl, .inl rfl, .inl rfl, .inl rfl, .inl rfl, trivial⟩ ⟨.inl rfl, .inl rfl, trivial⟩ ?_
   clear hsz hinv e1 hol hb
   rintro ⟨j, cells⟩ ⟨hj, o, e1, hol, hinv, hsz⟩
   dsimp only at hj e1 hinv hsz
   refine ⟨fun hb => ?_, fun hb => ?_⟩
   ·
    have hjlt : j < rows'.length := by have := of_decide_eq_true hb; omega
    obtain ⟨c', hc'⟩ := k3.get (i := j) (by omega)
    have fr' := (k.2 j c' hc').mono (L' := 100000) (by omega)
    have szp : Sz (qs.getD i 0 * ps.getD j 0) (64 * L + 2) := (Sz.mul (h.2 i _ hc).sz (k.2 j _ hc').sz).mono (by omega)
    have fa' := fr_all fr'
    have mu := mul2_fr fr1 fr' (Nat.le_refl _)
    have hr : R3 (o.map rqC) n := hol ▸ R3.rq o
    have hij : i + j < n := by omega
    have hT : i * ps.length + j ≤ qs.length * ps.length := by
     have := Nat.mul_le_mul_right ps.length (show i + 1 ≤ qs.length by omega)
     rw [Nat.succ_mul] at this
     omega
    have hW := Nat.mul_le_mul_right (64 * L + 3) hT
    have szo := hsz _ (getD_mem (o := o) (i := i + j) (by omega))
    have frO : Fr (.agg (rqC (o.getD (i + j) 0))) (o.getD (i + j) 0) 100000 := Fr.rq szo (by omega)
    have ad := add2_fr frO (Fr.rq (L := 100000) szp (by omega)) (Nat.le_refl _)
    have ho : 0 + ((i : Int) + (j : Int)).toNat * 3 = (i + j) * 3 := by omega
    have P := hr.putq e1 (i := i + j) (off := 0 + ((i : Int) + (j : Int)).toNat * 3) (o.getD (i + j) 0 + qs.getD i 0 * ps.getD j 0) ho
    rw [map_set] at P
    obtain ⟨t, a', b', m', k'', e', _⟩ := fr'
    obtain rfl := frac_inj e'
    have hI2 : inI64 ((i : Int) + j) := ⟨by omega, by omega⟩
    have hx2 : (0 : Int) ≤ (i : Int) + j ∧ (i : Int) + j < n := by omega
    refine ⟨⟨Int.natCast_nonneg j, by exact Int.ofNat_lt.2 hjlt, k3.ne (by omega)⟩, k3.fits rfl (i := j) (by omega) rfl, _, k3.at rfl hc' rfl, rfl, ⟨rfl, rfl, Nat.le_refl 3, fa'⟩, by kernel_rfl, hI2, hI2, hx2, hr.fits e1 hij ho, _, hr.at e1 (map_get (by omega)) ho, ⟨Nat.le_refl 3, fa⟩, ⟨Nat.le_refl 3, fa'⟩, ⟨rfl, two_rq (c := [.bool s, a, b]) (d := [.bool t, a', b']) ⟨rfl, fa⟩ ⟨rfl, fa'⟩, by decide⟩, _, mu, ⟨rfl, two_rq (c := rqC (o.getD (i + j) 0)) (d := rqC (qs.getD i 0 * ps.getD j 0)) ⟨rfl, rfl⟩ ⟨rfl, rfl⟩, by decide⟩, _, ad, hx2, ⟨rfl, rfl, (hr.fits e1 hij ho).1, rfl⟩, ⟨by show _ ≤ (j : Int) + 1; omega, by show (j : Int) + 1 < _; omega⟩,
     (j + 1, _), ⟨hjlt, _, P, by rw [List.length_set]; exact hol, hinv.step (by omega) (by omega), fun r hr' => ?_⟩, by show rows'.length - (j + 1) < rows'.length - j; omega, rfl, ⟨.inl rfl, .inl rfl, .inl rfl, .inl rfl, .inl rfl, .inl rfl, .inl rfl, .inl rfl, .inl rfl, .inl rfl, trivial⟩, ⟨.inl rfl, .inl rfl, trivial⟩⟩
    have hS : 1 + (i * ps.length + j) * (64 * L + 3) + (64 * L + 2) + 1 = 1 + (i * ps.length + (j + 1)) * (64 * L + 3) := by
     have e := Nat.add_mul (i * ps.length + j) 1 (64 * L + 3)
     rw [Nat.one_mul] at e
     show _ = 1 + ((i * ps.length + j) + 1) * (64 * L + 3)
     rw [e]; omega
    show Sz r (1 + (i * ps.length + (j + 1)) * (64 * L + 3))
    rw [← hS]
    rcases List.mem_or_eq_of_mem_set hr' with hr' | rfl
    ·
     exact (hsz r hr').mono (by omega)
    ·
     exact Sz.add szo szp
   ·
    have hjn : j = rows'.length := by have := of_decide_eq_false hb; omega
    subst hjn
    refine ⟨⟨by show _ ≤ (i : Int) + 1; omega, by show (i : Int) + 1 < _; omega⟩, (i + 1, cells), ⟨hlt, o, e1, hol, ?_, fun r hr => ?_⟩, by show rows.length - (i + 1) < rows.length - i; omega, rfl, ⟨.inl rfl, .inl rfl, .inl rfl, .inl rfl, .inl rfl, trivial⟩, ⟨.inl rfl, trivial⟩⟩
    ·
     rw [kl] at hinv; exact hinv.next (by omega)
    ·
     have := hsz r hr
     rw [kl, ← Nat.succ_mul] at this
     exact this
  ·
   have hin : i = rows.length := by have := of_decide_eq_false hb; omega
   subst hin
   rw [hl] at hinv hsz
   have heq : rtrim o = rtrim (mulL qs ps) := rtrim_ext _ _ fun p => by rw [hinv.last p, pev_mulL]
   have R : Ab.Rows (o.map rqC) o 100000 := Rows.of hsz (by omega)
   have cn := canon_fr R (Nat.le_refl _) (by omega)
   rw [List.length_map, hol, ← e1, heq] at cn
   refine ⟨_, ?_, rfl, trivial⟩
   show Ab.Spec Try.prog _ [D.sl n ((cells.drop 0).take (n * 3))] _
   have hr : R3 (o.map rqC) n := hol ▸ R3.rq o
   rw [List.drop_zero, List.take_of_length_le (by rw [e1, hr.len]; exact Nat.le_refl _)]
   exact cn
theorem r55mul_fr {rows rows' : List (List D)} {qs ps : List Rat} {L : Nat} (h : Ab.Rows rows qs L) (k : Ab.Rows rows' ps L) (hL : L ≤ 10000) (hn : qs.length ≤ 100000) (hm : ps.length ≤ 100000) (hbig : 1 + qs.length * ps.length * (64 * L + 3) ≤ 3000000) :
  Ab.Spec Try.prog 20 [.sl rows.length rows.flatten, .sl rows'.length rows'.flatten] (pD (rtrim (mulL qs ps))) := by
 have h3 := h.r3; have k3 := k.r3
 have hl := h.1; have kl := k.1
 refine spec_of (n := 60) (ds := [_]) tOk mixed Try.func20 rfl rfl rfl rfl rfl (by simp) ?_
 refine ⟨⟨by show _ ≤ (rows.length : Int) + rows'.length; omega, by show (rows.length : Int) + rows'.length < _; omega⟩, ⟨by show 0 ≤ (rows.length : Int) + rows'.length; omega, Int.le_refl _, by show (56 : Int) * (rows.length + rows'.length) ≤ 281474976710656; omega, by show (rows.length : Int) + rows'.length ≤ _; omega⟩, rfl, ?_⟩
 refine loop_of 60 (S := Nat × List D) (fun x => [(0, .d (.sl rows.length rows.flatten)), (1, .d (.sl rows'.length rows'.flatten)), (5, .osl 14 0 (rows.length + rows'.length) 3 true), (6, .d (.int .i64 x.1))])
  (fun x => [(14, ⟨40, .d x.2, false⟩)]) (fun x => rows.length + rows'.length - x.1)
  (fun x => x.1 ≤ rows.length + rows'.length ∧ ∃ rs, x.2 = rs.flatten ∧ R3 rs (rows.length + rows'.length) ∧ ∀ j, j < x.1 → rs[j]? = some (rqC 0)) (0, (List.replicate (rows.length + rows'.length) [.bool false, .nils, .nils]).flatten) ⟨Nat.zero_le _, _, rfl, ⟨by simp, fun c hc => by rw [(List.mem_replicate.1 hc).2]; exact ⟨rfl, rfl⟩⟩, fun j hj => by omega⟩ rfl (fun _ => rfl) ⟨.inl rfl, .inl rfl, .inl rfl, .inl rfl, trivial⟩ ⟨.inl rfl, trivial⟩ ?_
 obtain ⟨n, hN⟩ : ∃ n, n = rows.length + rows'.length := ⟨_, rfl⟩
 rw [← hN]
 rintro ⟨i, cells⟩ ⟨hi, rs, e1, hr, e2⟩
 dsimp only at hi e1 e2
 have ho : (0 + (i : Int).toNat * 3) = i * 3 := by simp
 refine ⟨fun hb => ?_, fun hb => ?_⟩
 ·
  have hlt : i < n := by have := of_decide_eq_true hb; omega
  have P0 := hr.putq e1 (i := i) (off := 0 + (i : Int).toNat * 3) 0 ho
  refine ⟨_, int0_spec, ⟨Int.natCast_nonneg i, by exact Int.ofNat_lt.2 hlt⟩, ⟨rfl, rfl, (hr.fits e1 hlt ho).1, rfl⟩, ⟨by show _ ≤ (i : Int) + 1; omega, by show (i : Int) + 1 < _; omega⟩, (i + 1, _), ⟨hlt, _, P0, hr.set i rfl rfl, fun j hj => ?_⟩, by show n - (i + 1) < n - i; omega, rfl, ⟨.inl rfl, .inl rfl, .inl rfl, .inl rfl, trivial⟩, ⟨.inl rfl, trivial⟩⟩
  rw [List.getElem?_set]
  by_cases hji : i = j
  ·
   subst hji; rw [if_pos rfl, if_pos (by rw [hr.1]; exact hlt)]
  ·
   rw [if_neg hji]; exact e2 j (by have : j < i + 1 := hj; omega)
 ·
  have hin : i = n := by have := of_decide_eq_false hb; omega
  have hz := rows_done hr (fun j hj => e2 j (by omega))
  subst hz
  have hone : ∀ r ∈ List.replicate n (0 : Rat), Sz r 1 := fun r hr => by rw [(List.mem_replicate.1 hr).2]; exact Sz.zero
  refine loop_of 60 (S := Nat × List D) (fun x => [(0, .d (.sl rows.length rows.flatten)), (1, .d (.sl rows'.length rows'.flatten)), (5, .osl 14 0 n 3 true), (7, .d (.int .i64 x.1))])
   (fun x => [(14, ⟨40, .d x.2, false⟩)]) (fun x => rows.length - x.1)
   (fun x => x.1 ≤ rows.length ∧ ∃ o : List Rat, x.2 = (o.map rqC).flatten ∧ o.length = n ∧ RMulInv qs ps o x.1 0 ∧ ∀ r ∈ o, Sz r (1 + x.1 * ps.length * (64 * L + 3))) (0, cells) ⟨Nat.zero_le _, List.replicate n 0, e1, by simp, RMulInv.start _ _ _, fun r hr => (hone r hr).mono (by omega)⟩ rfl (fun _ => rfl) ⟨.inl rfl, .inl rfl, .inl rfl, .inl rfl, trivial⟩ ⟨.inl rfl, trivial⟩ ?_
  clear hone hb e1 e2 hr hin hi ho
  rintro ⟨i, cells⟩ ⟨hi, o, e1, hol, hinv, hsz⟩
  dsimp only at hi e1 hinv hsz
  refine ⟨fun hb => ?_, fun hb => ?_⟩
  ·
   have hlt : i < rows.length := by have := of_decide_eq_true hb; omega
   obtain ⟨c, hc⟩ := h3.get (i := i) (by omega)
   have fr := h.2 i c hc
   have fa := fr_all fr
   have fr1 := fr.mono (L' := 100000) (by omega)
   obtain ⟨s, a, b, m, k', e, _⟩ := fr
   obtain rfl := frac_inj e
   refine loop_of 60 (S := Nat × List D) (fun x => [(0, .d (.sl rows.length rows.flatten)), (1, .d (.sl rows'.length rows'.flatten)), (5, .osl 14 0 n 3 true), (7, .d (.int .i64 i)), (8, .d (.int .i64 x.1))])
    (fun x => [(14, ⟨40, .d x.2, false⟩)]) (fun x => rows'.length - x.1)
    (fun x => x.1 ≤ rows'.length ∧ ∃ o : List Rat, x.2 = (o.map rqC).flatten ∧ o.length = n ∧ RMulInv qs ps o i x.1 ∧ ∀ r ∈ o, Sz r (1 + (i * ps.length + x.1) * (64 * L + 3))) (0, cells) ⟨Nat.zero_le _, o, e1, hol, hinv, hsz⟩ rfl (fun _ => rfl) ⟨.inl rfl, .inl rfl, .inl rfl, .inl rfl, .inl rfl, trivial⟩ ⟨.inl rfl, trivial⟩ ?_
   clear hsz hinv e1 hol hb
   rintro ⟨j, cells⟩ ⟨hj, o, e1, hol, hinv, hsz⟩
   dsimp only at hj e1 hinv hsz
   refine ⟨fun hb => ?_, fun hb => ?_⟩
   ·
    have hjlt : j < rows'.length := by have := of_decide_eq_true hb; omega
    obtain ⟨c', hc'⟩ := k3.get (i := j) (by omega)
    have fr' := (k.2 j c' hc').mono (L' := 100000) (by omega)
    have szp : Sz (qs.getD i 0 * ps.getD j 0) (64 * L + 2) := (Sz.mul (h.2 i _ hc).sz (k.2 j _ hc').sz).mono (by omega)
    have fa' := fr_all fr'
    have mu := r2mul_fr fr1 fr' (Nat.le_refl _)
    have hr : R3 (o.map rqC) n := hol ▸ R3.rq o
    have hij : i + j < n := by omega
    have hT : i * ps.length + j ≤ qs.length * ps.length := by
     have := Nat.mul_le_mul_right ps.length (show i + 1 ≤ qs.length by omega)
     rw [Nat.succ_mul] at this
     omega
    have hW := Nat.mul_le_mul_right (64 * L + 3) hT
    have szo := hsz _ (getD_mem (o := o) (i := i + j) (by omega))
    have frO : Fr (.agg (rqC (o.getD (i + j) 0))) (o.getD (i + j) 0) 100000 := Fr.rq szo (by omega)
    have ad := r2add_fr frO (Fr.rq (L := 100000) szp (by omega)) (Nat.le_refl _)
    have ho : 0 + ((i : Int) + (j : Int)).toNat * 3 = (i + j) * 3 := by omega
    have P := hr.putq e1 (i := i + j) (off := 0 + ((i : Int) + (j : Int)).toNat * 3) (o.getD (i + j) 0 + qs.getD i 0 * ps.getD j 0) ho
    rw [map_set] at P
    obtain ⟨t, a', b', m', k'', e', _⟩ := fr'
    obtain rfl := frac_inj e'
    have hI2 : inI64 ((i : Int) + j) := ⟨by omega, by omega⟩
    have hx2 : (0 : Int) ≤ (i : Int) + j ∧ (i : Int) + j < n := by omega
    refine ⟨by kernel_rfl, hI2, hI2, hx2, hr.fits e1 hij ho, _, hr.at e1 (map_get (by omega)) ho, ⟨Int.natCast_nonneg i, by exact Int.ofNat_lt.2 hlt, h3.ne (by omega)⟩, h3.fits rfl (i := i) (by omega) rfl, _, h3.at rfl hc rfl, ⟨Int.natCast_nonneg j, by exact Int.ofNat_lt.2 hjlt, k3.ne (by omega)⟩, k3.fits rfl (i := j) (by omega) rfl, _, k3.at rfl hc' rfl, _, mu, _, ad, hx2, ⟨rfl, rfl, (hr.fits e1 hij ho).1, rfl⟩, ⟨by show _ ≤ (j : Int) + 1; omega, by show (j : Int) + 1 < _; omega⟩,
     (j + 1, _), ⟨hjlt, _, P, by rw [List.length_set]; exact hol, hinv.step (by omega) (by omega), fun r hr' => ?_⟩, by show rows'.length - (j + 1) < rows'.length - j; omega, rfl, ⟨.inl rfl, .inl rfl, .inl rfl, .inl rfl, .inl rfl, trivial⟩, ⟨.inl rfl, trivial⟩⟩
    have hS : 1 + (i * ps.length + j) * (64 * L + 3) + (64 * L + 2) + 1 = 1 + (i * ps.length + (j + 1)) * (64 * L + 3) := by
     have e := Nat.add_mul (i * ps.length + j) 1 (64 * L + 3)
     rw [Nat.one_mul] at e
     show _ = 1 + ((i * ps.length + j) + 1) * (64 * L + 3)
     rw [e]; omega
    show Sz r (1 + (i * ps.length + (j + 1)) * (64 * L + 3))
    rw [← hS]
    rcases List.mem_or_eq_of_mem_set hr' with hr' | rfl
    ·
     exact (hsz r hr').mono (by omega)
    ·
     exact Sz.add szo szp
   ·
    have hjn : j = rows'.length := by have := of_decide_eq_false hb; omega
    subst hjn
    refine ⟨⟨by show _ ≤ (i : Int) + 1; omega, by show (i : Int) + 1 < _; omega⟩, (i + 1, cells), ⟨hlt, o, e1, hol, ?_, fun r hr => ?_⟩, by show rows.length - (i + 1) < rows.length - i; omega, rfl, ⟨.inl rfl, .inl rfl, .inl rfl, .inl rfl, trivial⟩, ⟨.inl rfl, trivial⟩⟩
    ·
     rw [kl] at hinv; exact hinv.next (by omega)
    ·
     have := hsz r hr
     rw [kl, ← Nat.succ_mul] at this
     exact this
  ·
   have hin : i = rows.length := by have := of_decide_eq_false hb; omega
   subst hin
   rw [hl] at hinv hsz
   have heq : rtrim o = rtrim (mulL qs ps) := rtrim_ext _ _ fun p => by rw [hinv.last p, pev_mulL]
   have R : Ab.Rows (o.map rqC) o 100000 := Rows.of hsz (by omega)
   have cn := rcanon_fr R (Nat.le_refl _) (by omega)
   rw [List.length_map, hol, ← e1, heq] at cn
   refine ⟨_, ?_, rfl, trivial⟩
   show Ab.Spec Try.prog _ [D.sl n ((cells.drop 0).take (n * 3))] _
   have hr : R3 (o.map rqC) n := hol ▸ R3.rq o
   rw [List.drop_zero, List.take_of_length_le (by rw [e1, hr.len]; exact Nat.le_refl _)]
   exact cn
theorem pev_rev {qs : List Rat} {p : Rat} {i : Nat} (hi : i < qs.length) : pev (qs.drop (i + 1)) p * p + qs.getD i 0 = pev (qs.drop i) p := by
 rw [List.drop_eq_getElem_cons hi, pev_cons, List.getD_eq_getElem?_getD, List.getElem?_eq_getElem hi]
 show pev (qs.drop (i + 1)) p * p + qs[i] = _
 grind
theorem eval_fr {rows : List (List D)} {y : D} {qs : List Rat} {r : Rat} {L M : Nat} (h : Ab.Rows rows qs L) (k : Fr y r M) (hL : L ≤ 100000) (hM : M ≤ 100000) (hn : qs.length ≤ 100000) (hbig : 1 + qs.length * (32 * L + 32 * M + 3) ≤ 3000000) :
  Ab.Spec Try.prog 22 [.sl rows.length rows.flatten, y] (rq (pev qs r)) ∧ Sz (pev qs r) (1 + qs.length * (32 * L + 32 * M + 3)) := by
 have h3 := h.r3
 have hl := h.1
 have ky := fr_all k
 have k1 := k.mono (L' := 100000) hM
 have sy := k.sz
 have size : ∀ e, e ≤ qs.length → Sz (pev (qs.drop (qs.length - e)) r) (1 + e * (32 * L + 32 * M + 3)) := fun e => by
  induction e with
  | zero => intro _; rw [Nat.sub_zero, List.drop_length]; exact Sz.zero.mono (by omega)
  | succ e ih =>
   intro he
   have hi : qs.length - (e + 1) < qs.length := by omega
   rw [← pev_rev hi, show qs.length - (e + 1) + 1 = qs.length - e by omega, Nat.succ_mul]
   exact (Sz.add (Sz.mul (ih (by omega)) sy) (getD_sz h.sz (by omega) _)).mono (by omega)
 refine ⟨?_, by have := size qs.length (Nat.le_refl _); rwa [Nat.sub_self] at this⟩
 obtain ⟨s, a, b, m, k', rfl, _⟩ := k
 refine spec_of (n := 26) (ds := [_]) tOk mixed Try.func22 rfl rfl rfl rfl rfl (by simp) ?_
 refine ⟨ky, rfl, rfl, _, zero_spec, rfl, ⟨rfl, rfl, Nat.le_refl 3, rfl⟩, ⟨by show _ ≤ (rows.length : Int) - 1; omega, by show (rows.length : Int) - 1 < _; omega⟩, ?_⟩
 refine loop_of 26 (S := Nat × Int × Rat) (fun x => [(0, .d (.sl rows.length rows.flatten)), (3, .optr 3 0), (4, .optr 4 0), (5, .optr 5 0), (6, .d (.int .i64 x.2.1))])
  (fun x => [(3, ⟨40, .a [.d (.bool s), .d a, .d b], false⟩), (4, ⟨40, .a [.d (.bool false), .d .nils, .d .nils], false⟩), (5, ⟨40, .a ((rqC x.2.2).map .d), false⟩)]) (fun x => x.1)
  (fun x => x.1 ≤ rows.length ∧ x.2.1 = (x.1 : Int) - 1 ∧ x.2.2 = pev (qs.drop x.1) r) (rows.length, _, 0) ⟨Nat.le_refl _, rfl, by rw [hl, List.drop_length]; rfl⟩ rfl (fun _ => rfl) ⟨.inl rfl, .inl rfl, .inl rfl, .inl rfl, .inl rfl, trivial⟩ ⟨.inl rfl, .inl rfl, .inl rfl, trivial⟩ ?_
 rintro ⟨i, z, v⟩ ⟨hi, hz, e1⟩
 dsimp only at hi hz e1
 refine ⟨fun hb => ?_, fun hb => ?_⟩
 ·
  have hi0 : 0 < i := by have : z ≥ 0 := of_decide_eq_true hb; omega
  obtain ⟨j, rfl⟩ : ∃ j, i = j + 1 := ⟨i - 1, by omega⟩
  obtain rfl : z = (j : Int) := by omega
  obtain ⟨c, hc⟩ := h3.get (i := j) (by omega)
  have fr := (h.2 j c hc).mono (L' := 100000) hL
  have fa := fr_all fr
  have szv : Sz v (1 + (qs.length - (j + 1)) * (32 * L + 32 * M + 3)) := by
   have := size (qs.length - (j + 1)) (by omega)
   rwa [show qs.length - (qs.length - (j + 1)) = j + 1 by omega, ← e1] at this
  have hW := Nat.mul_le_mul_right (32 * L + 32 * M + 3) (show qs.length - (j + 1) + 1 ≤ qs.length by omega)
  rw [Nat.succ_mul] at hW
  have fv : Fr (.agg (rqC v)) v 100000 := Fr.rq szv (by omega)
  have mu := mul2_fr fv k1 (Nat.le_refl _)
  have szm := Sz.mul szv sy
  have ad := add2_fr (Fr.rq (L := 100000) szm (by omega)) fr (Nat.le_refl _)
  have next : v * r + qs.getD j 0 = pev (qs.drop j) r := by rw [e1]; exact pev_rev (by omega)
  rw [next] at ad
  obtain ⟨t, a', b', m', k'', e', _⟩ := fr
  obtain rfl := frac_inj e'
  exact ⟨by kernel_rfl, ⟨Nat.le_refl 3, rfl⟩, ⟨Nat.le_refl 3, ky⟩, ⟨rfl, two_rq (c := rqC v) (d := [.bool s, a, b]) ⟨rfl, rfl⟩ ⟨rfl, ky⟩, by decide⟩, _, mu, ⟨Int.natCast_nonneg j, by show (j : Int) < rows.length; omega, h3.ne (by omega)⟩, h3.fits rfl (i := j) (by omega) rfl, _, h3.at rfl hc rfl, ⟨rfl, two_rq (c := rqC (v * r)) (d := [.bool t, a', b']) ⟨rfl, rfl⟩ ⟨rfl, fa⟩, by decide⟩, _, ad, ⟨rfl, rfl, Nat.le_refl 3, rfl⟩, ⟨by show _ ≤ (j : Int) - 1; omega, by show (j : Int) - 1 < _; omega⟩,
   (j, _, _), ⟨by show j ≤ rows.length; omega, rfl, rfl⟩, Nat.lt_succ_self j, rfl, ⟨.inl rfl, .inl rfl, .inl rfl, .inl rfl, .inl rfl, trivial⟩, ⟨.inl rfl, .inl rfl, .inl rfl, trivial⟩⟩
 ·
  have hi0 : i = 0 := by have : ¬ z ≥ 0 := of_decide_eq_false hb; omega
  subst hi0
  rw [List.drop_zero] at e1
  subst e1
  exact ⟨⟨Nat.le_refl 3, rfl⟩, ⟨rfl, rfl, Nat.le_refl 3, rfl⟩, ⟨_, rfl, Nat.le_refl 3, rfl, rfl⟩, trivial⟩
theorem compare_fr {rows rows' : List (List D)} {y : D} {qs ps : List Rat} {r : Rat} {L M : Nat} (h : Ab.Rows rows qs L) (h' : Ab.Rows rows' ps L) (k : Fr y r M) (hL : L ≤ 100000) (hM : M ≤ 100000) (hn : qs.length ≤ 100000) (hn' : ps.length ≤ 100000) (hbig : 1 + qs.length * (32 * L + 32 * M + 3) ≤ 3000000) (hbig' : 1 + ps.length * (32 * L + 32 * M + 3) ≤ 3000000) :
  Ab.Spec Try.prog 24 [.sl rows.length rows.flatten, .sl rows'.length rows'.flatten, y] (.int .i64 (rsign (pev qs r - pev ps r))) := by
 obtain ⟨e1, s1⟩ := eval_fr h k hL hM hn hbig
 obtain ⟨e2, s2⟩ := eval_fr h' k hL hM hn' hbig'
 have c := cmp_fr (Fr.rq (L := 100000) s1 (by omega)) (Fr.rq (L := 100000) s2 (by omega)) (Nat.le_refl _)
 have ky := fr_all k
 obtain ⟨s, a, b, m, k', rfl, _⟩ := k
 refine spec_of (n := 14) (ds := [_]) tOk mixed Try.func24 rfl rfl rfl rfl rfl (by simp) ?_
 exact ⟨ky, rfl, by kernel_rfl, ⟨Nat.le_refl 3, ky⟩, _, e1, ⟨Nat.le_refl 3, ky⟩, _, e2, _, c, rfl, trivial⟩
theorem reval_fr {rows : List (List D)} {y : D} {qs : List Rat} {r : Rat} {L M : Nat} (h : Ab.Rows rows qs L) (k : Fr y r M) (hL : L ≤ 100000) (hM : M ≤ 100000) (hn : qs.length ≤ 100000) (hbig : 2 + (qs.length + 1) * (qs.length + 1) * (32 * L + 32 * M + 4) ≤ 3000000) :
  Ab.Spec Try.prog 23 [.sl rows.length rows.flatten, y] (rq (pev qs r)) := by
 have h3 := h.r3
 have hl := h.1
 have ky := fr_all k
 have k1 := k.mono (L' := 100000) hM
 have sy := k.sz
 obtain ⟨W, hW⟩ : ∃ W, W = 32 * L + 32 * M + 4 := ⟨_, rfl⟩
 rw [← hW] at hbig
 have szp : ∀ i, Sz (r ^ i) (1 + i * W) := fun i => by
  induction i with
  | zero => rw [Rat.pow_zero]; exact Sz.one.mono (by omega)
  | succ i ih => rw [Rat.pow_succ, Nat.succ_mul]; exact (Sz.mul ih sy).mono (by omega)
 have szs : ∀ i, i ≤ qs.length → Sz (pev (qs.take i) r) (1 + i * ((qs.length + 1) * W)) := fun i => by
  induction i with
  | zero => intro _; rw [List.take_zero]; exact Sz.zero.mono (by omega)
  | succ i ih =>
   intro hi
   rw [pev_take_succ r qs i (by omega), Nat.succ_mul]
   have h1 := Nat.mul_le_mul_right W (show i + 1 ≤ qs.length by omega)
   rw [Nat.succ_mul] at h1
   refine (Sz.add (ih (by omega)) (Sz.mul (getD_sz h.sz (by omega) i) (szp i))).mono ?_
   rw [Nat.succ_mul qs.length W]
   omega
 have bound : ∀ i, i ≤ qs.length → i * ((qs.length + 1) * W) + i * W + W ≤ (qs.length + 1) * (qs.length + 1) * W := fun i hi => by
  have h1 := Nat.mul_le_mul_right ((qs.length + 1) * W) hi
  have h2 := Nat.mul_le_mul_right W hi
  rw [Nat.mul_assoc, Nat.succ_mul qs.length ((qs.length + 1) * W), Nat.succ_mul qs.length W]
  rw [Nat.succ_mul qs.length W] at h1
  omega
 obtain ⟨s, a, b, m, k', rfl, _⟩ := k
 have i1 := r2int_spec 1 (by omega) (by omega)
 rw [show (((1 : Int) : Rat)) = 1 from rfl] at i1
 refine spec_of (n := 28) (ds := [_]) tOk mixed Try.func23 rfl rfl rfl rfl rfl (by simp) ?_
 refine ⟨ky, rfl, rfl, _, int0_spec, rfl, ⟨rfl, rfl, Nat.le_refl 3, rfl⟩, _, i1, rfl, ⟨rfl, rfl, Nat.le_refl 3, rfl⟩, ?_⟩
 refine loop_of 28 (S := Nat × Rat × Rat) (fun x => [(0, .d (.sl rows.length rows.flatten)), (3, .optr 3 0), (4, .optr 4 0), (5, .optr 5 0), (6, .optr 6 0), (7, .d (.int .i64 x.1))])
  (fun x => [(3, ⟨40, .a [.d (.bool s), .d a, .d b], false⟩), (4, ⟨40, .a [.d (.bool false), .d .nils, .d .nils], false⟩), (5, ⟨40, .a ((rqC x.2.1).map .d), false⟩), (6, ⟨40, .a ((rqC x.2.2).map .d), false⟩)]) (fun x => rows.length - x.1)
  (fun x => x.1 ≤ rows.length ∧ x.2.1 = pev (qs.take x.1) r ∧ x.2.2 = r ^ x.1) (0, 0, 1) ⟨Nat.zero_le _, rfl, (Rat.pow_zero ..).symm⟩ rfl (fun _ => rfl) ⟨.inl rfl, .inl rfl, .inl rfl, .inl rfl, .inl rfl, .inl rfl, trivial⟩ ⟨.inl rfl, .inl rfl, .inl rfl, .inl rfl, trivial⟩ ?_
 rintro ⟨i, v, w⟩ ⟨hi, e1, e2⟩
 dsimp only at hi e1 e2
 refine ⟨fun hb => ?_, fun hb => ?_⟩
 ·
  have hlt : i < rows.length := by have := of_decide_eq_true hb; omega
  obtain ⟨c, hc⟩ := h3.get (i := i) (by omega)
  have fr := (h.2 i c hc).mono (L' := 100000) hL
  have hb1 := bound i (by omega)
  have szw : Sz w (1 + i * W) := e2 ▸ szp i
  have szv : Sz v (1 + i * ((qs.length + 1) * W)) := e1 ▸ szs i (by omega)
  have fw : Fr (.agg (rqC w)) w 100000 := Fr.rq szw (by omega)
  have szm : Sz (qs.getD i 0 * w) (32 * L + 1 + (1 + i * W)) := Sz.mul (getD_sz h.sz (by omega) i) szw
  have mu := r2mul_fr fr fw (Nat.le_refl _)
  have ad := r2add_fr (Fr.rq (L := 100000) szv (by omega)) (Fr.rq (L := 100000) szm (by omega)) (Nat.le_refl _)
  have mu2 := r2mul_fr fw k1 (Nat.le_refl _)
  exact ⟨by kernel_rfl, ⟨Nat.le_refl 3, rfl⟩, ⟨Int.natCast_nonneg i, by exact Int.ofNat_lt.2 hlt, h3.ne (by omega)⟩, h3.fits rfl (i := i) (by omega) rfl, _, h3.at rfl hc rfl, ⟨Nat.le_refl 3, rfl⟩, _, mu, _, ad, ⟨rfl, rfl, Nat.le_refl 3, rfl⟩, ⟨Nat.le_refl 3, rfl⟩, ⟨Nat.le_refl 3, ky⟩, _, mu2, ⟨rfl, rfl, Nat.le_refl 3, rfl⟩, ⟨by show _ ≤ (i : Int) + 1; omega, by show (i : Int) + 1 < _; omega⟩,
   (i + 1, v + qs.getD i 0 * w, w * r), ⟨hlt, by show v + qs.getD i 0 * w = _; rw [pev_take_succ r qs i (by omega), e1, e2], by show w * r = _; rw [e2, Rat.pow_succ]⟩, by show rows.length - (i + 1) < rows.length - i; omega, rfl, ⟨.inl rfl, .inl rfl, .inl rfl, .inl rfl, .inl rfl, .inl rfl, trivial⟩, ⟨.inl rfl, .inl rfl, .inl rfl, .inl rfl, trivial⟩⟩
 ·
  have hin : i = qs.length := by have := of_decide_eq_false hb; omega
  rw [hin, List.take_length] at e1
  subst e1
  exact ⟨⟨Nat.le_refl 3, rfl⟩, ⟨rfl, rfl, Nat.le_refl 3, rfl⟩, ⟨_, rfl, Nat.le_refl 3, rfl, rfl⟩, trivial⟩
end Go.Proofs.Ytpjpbhjpobdenaa.NatC
/- The statements on polynomials of package channel, over values. -/
namespace Go.Proofs.Ytpjpbhjpobdenaa.NatC
open Go Ab Cw
set_option maxRecDepth 100000
set_option linter.unusedVariables false
/-- a fraction as it comes in: sign, limbs, limbs -/
abbrev Raw := Bool × List Int × List Int
def rawC (t : Raw) : List D := [.bool t.1, nat32 t.2.1, nat32 t.2.2]
def rawOk (t : Raw) : Prop := Lim t.2.1 ∧ Lim t.2.2
def rawV (t : Raw) : Rat := rv t.1 (ev t.2.1 4294967296).toNat (ev t.2.2 4294967296).toNat
def rawS (t : Raw) : Prop := t.2.1.length ≤ 4 ∧ t.2.2.length ≤ 4
instance (t : Raw) : Decidable (rawS t) := inferInstanceAs (Decidable (_ ∧ _))
def rawsD (l : List Raw) : D := .sl l.length (l.map rawC).flatten
theorem raw_fr {t : Raw} (h : rawOk t) (hs : rawS t) : Fr (.agg (rawC t)) (rawV t) 4 :=
 ⟨t.1, _, _, _, _, rfl, Nt.mk h.1.is hs.1, Nt.mk h.2.is hs.2, rfl⟩
theorem raw_rows {l : List Raw} (h : ∀ t ∈ l, rawOk t) (hs : ∀ t ∈ l, rawS t) : Ab.Rows (l.map rawC) (l.map rawV) 4 := by
 refine ⟨by simp, fun i c hc => ?_⟩
 rw [List.getElem?_map, Option.map_eq_some_iff] at hc
 obtain ⟨t, h1, rfl⟩ := hc
 rw [List.getD_eq_getElem?_getD, List.getElem?_map, h1]
 exact raw_fr (h t (List.mem_of_getElem? h1)) (hs t (List.mem_of_getElem? h1))
theorem raw_r3 (l : List Raw) : R3 (l.map rawC) l.length := ⟨by simp, fun c hc => by
 obtain ⟨r, _, rfl⟩ := List.mem_map.1 hc
 exact ⟨rfl, rfl⟩⟩
theorem short_spec (t : Raw) : Ab.Spec Try.prog 15 [.agg (rawC t)] (.bool (decide (rawS t))) := by
 refine spec_of (n := 13) (ds := [_]) tOk mixed Try.func15 rfl rfl rfl rfl rfl (by simp) ?_
 refine ⟨rfl, rfl, fun hb => ⟨fun hc => ?_, fun hc => ?_⟩, fun hb => ?_⟩
 ·
  have hs : rawS t := ⟨by have := of_decide_eq_true hb; omega, by have := of_decide_eq_true hc; omega⟩
  rw [decide_eq_true hs]
  exact ⟨rfl, trivial⟩
 ·
  rw [decide_eq_false (fun h : rawS t => by have := of_decide_eq_false hc; have := h.2; omega)]
  exact ⟨rfl, trivial⟩
 ·
  rw [decide_eq_false (fun h : rawS t => by have := of_decide_eq_false hb; have := h.1; omega)]
  exact ⟨rfl, trivial⟩
theorem shorts_spec (l : List Raw) (hl : l.length ≤ 3000000000000) : Ab.Spec Try.prog 14 [rawsD l] (.bool (decide (∀ t ∈ l, rawS t))) := by
 have h3 := raw_r3 l
 refine spec_of (n := 16) (ds := [_]) tOk mixed Try.func14 rfl rfl rfl rfl rfl (by simp) ?_
 refine loop_of 16 (S := Nat) (fun x => [(0, .d (rawsD l)), (3, .d (.int .i64 x))]) (fun x => []) (fun x => l.length - x)
  (fun x => x ≤ l.length ∧ ∀ t ∈ l.take x, rawS t) 0 ⟨Nat.zero_le _, by simp⟩ rfl (fun _ => rfl) ⟨.inl rfl, .inl rfl, trivial⟩ trivial ?_
 rintro i ⟨hi, hs⟩
 refine ⟨fun hb => ?_, fun hb => ?_⟩
 ·
  have hlt : i < l.length := by have := of_decide_eq_true hb; omega
  have hc : (l.map rawC)[i]? = some (rawC l[i]) := by rw [List.getElem?_map, List.getElem?_eq_getElem hlt]; rfl
  have sh := short_spec l[i]
  refine ⟨⟨Int.natCast_nonneg i, by exact Int.ofNat_lt.2 hlt, h3.ne (by omega)⟩, h3.fits rfl (i := i) hlt rfl, _, h3.at rfl hc rfl, _, sh, cnd (fun hn => ?_) (fun hn => ?_)⟩
  ·
   rw [decide_eq_false (fun h : ∀ t ∈ l, rawS t => by
    rw [decide_eq_true (h _ (List.getElem_mem hlt))] at hn; exact nd hn)]
   exact ⟨rfl, trivial⟩
  ·
   have hyes : rawS l[i] := of_decide_eq_true (by simpa using hn)
   refine ⟨⟨by show _ ≤ (i : Int) + 1; omega, by show (i : Int) + 1 < _; omega⟩, i + 1, ⟨hlt, fun t ht => ?_⟩, by omega, rfl, ⟨.inl rfl, .inl rfl, trivial⟩, trivial⟩
   rw [List.take_add_one, List.getElem?_eq_getElem hlt] at ht
   rcases List.mem_append.1 ht with ht | ht
   ·
    exact hs t ht
   ·
    simp at ht; rw [ht]; exact hyes
 ·
  have hin : i = l.length := by have := of_decide_eq_false hb; omega
  rw [hin, List.take_length] at hs
  rw [decide_eq_true hs]
  exact ⟨rfl, trivial⟩
theorem samelist_pd (l : List Rat) {s : Nat} (h : ∀ r ∈ l, Sz r s) (hs : s ≤ 3200000) (hl : l.length ≤ 1000000) : Ab.Spec Try.prog 48 [pD l, pD l] (.bool true) := by
 have h3 := R3.rq l
 refine spec_of (n := 27) (ds := [_]) tOk mixed Try.func48 rfl rfl rfl rfl rfl (by simp) ?_
 refine ⟨fun hb => by simp at hb, fun _ => ?_⟩
 refine loop_of 27 (S := Nat) (fun x => [(0, .d (pD l)), (1, .d (pD l)), (5, .d (.int .i64 x))]) (fun x => []) (fun x => l.length - x)
  (fun x => x ≤ l.length) 0 (Nat.zero_le _) rfl (fun _ => rfl) ⟨.inl rfl, .inl rfl, .inl rfl, trivial⟩ trivial ?_
 intro i hi
 refine ⟨fun hb => ?_, fun hb => ?_⟩
 ·
  have hlt : i < l.length := by have := of_decide_eq_true hb; omega
  have sa := same_rq (l.getD i 0) (h _ (getD_mem hlt)) hs
  have ix : (0 : Int) ≤ i ∧ (i : Int) < l.length ∧ (l.map rqC).flatten ≠ [] := ⟨Int.natCast_nonneg i, by omega, h3.ne (by omega)⟩
  exact ⟨by kernel_rfl, ix, h3.fits rfl (i := i) hlt rfl, _, h3.at rfl (map_get hlt) rfl, ix, h3.fits rfl (i := i) hlt rfl, _, h3.at rfl (map_get hlt) rfl, _, sa, ⟨by show _ ≤ (i : Int) + 1; omega, by show (i : Int) + 1 < _; omega⟩, i + 1, hlt, by omega, rfl, ⟨.inl rfl, .inl rfl, .inl rfl, trivial⟩, trivial⟩
 ·
  exact ⟨rfl, trivial⟩
theorem same_pd (l : List Rat) {s : Nat} (h : ∀ r ∈ l, Sz r s) (hs : s ≤ 3200000) (hl : l.length ≤ 1000000) : Ab.Spec Try.prog 16 [pD l, pD l] (.bool true) := by
 refine spec_of (n := 8) (ds := [_]) tOk mixed Try.func16 rfl rfl rfl rfl rfl (by simp) ?_
 exact ⟨_, samelist_pd l h hs hl, rfl, trivial⟩
theorem chanPoly_spec (A B : List Raw) (p : Raw) (hA : ∀ t ∈ A, rawOk t) (hB : ∀ t ∈ B, rawOk t) (hp : rawOk p) (lA : A.length ≤ 3000000000000) (lB : B.length ≤ 3000000000000) :
  Ab.Spec Try.prog 4 [rawsD A, rawsD B, .agg (rawC p)] (.bool true) := by
 have sA := shorts_spec A lA; have sB := shorts_spec B lB; have sp := short_spec p
 refine spec_of (n := 67) (ds := [_]) tOk mixed Try.func4 rfl rfl rfl rfl rfl (by simp) ?_
 refine ⟨rfl, rfl, ⟨by show _ ≤ (A.length : Int) + B.length; omega, by show (A.length : Int) + B.length < _; omega⟩, fun hb => ⟨rfl, trivial⟩, fun hb => ?_⟩
 have hlen : A.length + B.length ≤ 24 := by have := of_decide_eq_false hb; omega
 by_cases a1 : ∀ t ∈ A, rawS t
 case neg => rw [decide_eq_false a1] at sA; exact ⟨_, sA, rfl, trivial⟩
 by_cases b1 : ∀ t ∈ B, rawS t
 case neg => rw [decide_eq_true a1] at sA; rw [decide_eq_false b1] at sB; exact ⟨_, sA, _, sB, rfl, trivial⟩
 by_cases p1 : rawS p
 case neg => rw [decide_eq_true a1] at sA; rw [decide_eq_true b1] at sB; rw [decide_eq_false p1] at sp; exact ⟨_, sA, _, sB, ⟨Nat.le_refl 3, rfl⟩, _, sp, rfl, trivial⟩
 rw [decide_eq_true a1] at sA; rw [decide_eq_true b1] at sB; rw [decide_eq_true p1] at sp
 refine ⟨_, sA, _, sB, ⟨Nat.le_refl 3, rfl⟩, _, sp, ?_⟩
 have RA := raw_rows hA a1; have RB := raw_rows hB b1; have Rp := raw_fr hp p1
 obtain ⟨qs, hqs⟩ : ∃ qs, qs = A.map rawV := ⟨_, rfl⟩
 obtain ⟨ps, hps⟩ : ∃ ps, ps = B.map rawV := ⟨_, rfl⟩
 obtain ⟨r, hr⟩ : ∃ r, r = rawV p := ⟨_, rfl⟩
 rw [← hqs] at RA; rw [← hps] at RB; rw [← hr] at Rp
 have la : qs.length = A.length := by rw [hqs, List.length_map]
 have lb : ps.length = B.length := by rw [hps, List.length_map]
 have hab : qs.length * ps.length ≤ 24 * 24 := Nat.mul_le_mul (by omega) (by omega)
 have ha2 : (qs.length + 1) * (qs.length + 1) ≤ 25 * 25 := Nat.mul_le_mul (by omega) (by omega)
 have hb2 : (ps.length + 1) * (ps.length + 1) ≤ 25 * 25 := Nat.mul_le_mul (by omega) (by omega)
 have ad := add_fr RA RB (by omega) (by omega) (by omega)
 have ad2 := r55add_fr RA RB (by omega) (by omega) (by omega)
 have mu := mul_fr RA RB (by omega) (by omega) (by omega) (by omega)
 have mu2 := r55mul_fr RA RB (by omega) (by omega) (by omega) (by omega)
 obtain ⟨e1, z1⟩ := eval_fr RA Rp (by omega) (by omega) (by omega) (by omega)
 obtain ⟨e2, z2⟩ := eval_fr RB Rp (by omega) (by omega) (by omega) (by omega)
 have f1 := reval_fr RA Rp (by omega) (by omega) (by omega) (by omega)
 have f2 := reval_fr RB Rp (by omega) (by omega) (by omega) (by omega)
 have cm := compare_fr RA RB Rp (by omega) (by omega) (by omega) (by omega) (by omega) (by omega)
 have cm2 := r2cmp_fr (Fr.rq (L := 30000) z1 (by omega)) (Fr.rq (L := 30000) z2 (by omega)) (Nat.le_refl _)
 rw [List.length_map] at e1 f1 e2 f2
 rw [List.length_map, List.length_map] at ad ad2 mu mu2 cm
 have s1 := same_pd (rtrim (addL qs ps)) (rtrim_sz (addL_sz RA.sz RB.sz (by omega) (by omega))) (by omega) (by have := rtrim_len (addL qs ps); rw [addL_len] at this; omega)
 have s2 := same_pd (rtrim (mulL qs ps)) (rtrim_sz (mulL_sz RB.sz RA.sz)) (by omega) (by have := rtrim_len (mulL qs ps); have := mulL_len qs ps; omega)
 have s3 := same_rq _ z1 (by omega)
 refine ⟨by kernel_rfl, _, ad, _, ad2, _, s1, _, mu, _, mu2, _, s2, ⟨Nat.le_refl 3, rfl⟩, _, e1, ⟨Nat.le_refl 3, rfl⟩, _, f1, _, s3, ⟨Nat.le_refl 3, rfl⟩, _, cm, ⟨Nat.le_refl 3, rfl⟩, _, f1, ⟨Nat.le_refl 3, rfl⟩, _, f2, _, cm2, fun _ => ⟨rfl, trivial⟩, fun h => by simp at h⟩
/-! ### for the rows: arguments as they are opened -/
/-- a fraction as it is opened -/
def opC (x : Raw) : List D := [D.bool x.1] ++ ([slD (fun n => [D.int .u32 n]) x.2.1] ++ [slD (fun n => [D.int .u32 n]) x.2.2])
theorem opC_eq : opC = rawC := funext fun x => by unfold opC rawC nat32; rw [slD_int, slD_int]; rfl
def opOk (x : Raw) : Prop := True ∧ (∀ n ∈ x.2.1, (Lit.int .u32 n).wf = true) ∧ ∀ n ∈ x.2.2, (Lit.int .u32 n).wf = true
theorem wf_lim {l : List Int} (h : ∀ n ∈ l, (Lit.int .u32 n).wf = true) : Lim l := fun c hc => by
 have := h c hc
 simp [Lit.wf, IntKind.min, IntKind.max, IntKind.signed, IntKind.bits] at this
 omega
theorem opOk_ok {x : Raw} (h : opOk x) : rawOk x := ⟨wf_lim h.2.1, wf_lim h.2.2⟩
theorem chanPoly_row (A : List Raw) (hA : ∀ t ∈ A, opOk t) (zA : A.length * Try.prog.bytesOf 40 ≤ 140737488351232) (B : List Raw) (hB : ∀ t ∈ B, opOk t) (zB : B.length * Try.prog.bytesOf 40 ≤ 140737488351232) (p : Raw) (hp : opOk p) :
  Ab.Spec Try.prog 4 [slD opC A, slD opC B, .agg (opC p)] (.bool true) := by
 rw [show Try.prog.bytesOf 40 = 56 by kernel_rfl] at zA zB
 rw [opC_eq]
 exact chanPoly_spec A B p (fun t ht => opOk_ok (hA t ht)) (fun t ht => opOk_ok (hB t ht)) (opOk_ok hp) (by omega) (by omega)
end Go.Proofs.Ytpjpbhjpobdenaa.NatC
