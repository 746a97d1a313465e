/- Lemmas on a[:n:n], for the walks that a turned print writes. -/
import Derived.Test.YtpjpbhjpobdenaaQChannelPolynomialsWMore
import Derived.Laws.Slices
namespace Go.Proofs.YtpjpbhjpobdenaaW.PrintWords
open Go.RowKit
/-- xs[:j:j]: the capacity is the length. -/
theorem cut_to3 {P : Program} (t e : TypeId) (kh : IntKind) {i : TypeInfo} (ht : P.underlying t = some (.slice e)) (hi : P.info? e = some i) (A : Option Addr) (n c : Nat) (j : Int) (h0 : 0 ≤ j) (hm : j ≤ n) (hc : n ≤ c) :
  ∀ W : World, (Instr.slice t (.slice A n c) none (some (.int kh j)) (some (.int kh j))).run P W = .ok (.slice A j.toNat j.toNat) W := by
 intro W
 have hel : P.elem t = e := by simp [Program.elem, ht]
 have hu : P.underlying t = some (.slice (P.elem t)) := by rw [hel]; exact ht
 have ha : (A.map fun x => x.add 0) = A := by cases A <;> simp [Addr.add]
 rw [run_slice_hm W t A n c hu kh kh j j h0 (Int.le_refl _) (by omega), hel]
 simp [sizeOf, typeInfo, hi, sliced, Result.andThen, ha]
variable {α : Type}
/-! ### a row that lies in the middle of a row of the call's own -/
theorem addr_add (g p n : Nat) : (⟨g, p, none⟩ : Addr).add n = ⟨g, p + n, none⟩ := by unfold Addr.add; split <;> simp_all
theorem addr_block (ad : Addr) (n : Nat) : (ad.add n).block = ad.block := by unfold Addr.add; split <;> rfl
theorem below_setU {B : Nat} {w W : World} {ad : Addr} {j : Nat} {v : Value} (h : Below B w W) (hg : B ≤ ad.block) : Below B w (W.setCell (ad.add j) v) :=
 h.setCell (by rw [addr_block]; exact hg) _
theorem mid_get (pre xs post : List Int) (j : Nat) (hj : j < xs.length) (d : Int) : (pre ++ xs ++ post).getD (pre.length + j) d = xs.getD j d := by
 rw [List.getD_eq_getElem?_getD, List.getD_eq_getElem?_getD, List.append_assoc, List.getElem?_append_right (by omega), Nat.add_sub_cancel_left, List.getElem?_append_left hj]
theorem mid_set (pre xs post : List Int) (j : Nat) (hj : j < xs.length) (x : Int) : (pre ++ xs ++ post).set (pre.length + j) x = pre ++ xs.set j x ++ post := by
 rw [List.append_assoc, List.set_append_right _ _ (by omega), Nat.add_sub_cancel_left, List.set_append_left _ _ hj, List.append_assoc]
namespace Kd
def U (ad : Addr) (cap : Nat) (pre post : List Int) (d : Kd Int) (e : Nat) (W : World) (base : Nat) (ok : Nat → Prop) (v : Value) (xs : List Int) : Prop :=
 (∀ k, v.ownBlock = some k → ok k) ∧ ∃ g c, ad = ⟨g, pre.length, none⟩ ∧ v = .slice (some ad) xs.length c ∧ xs.length ≤ c ∧ d.R e W base ok (.slice (some ⟨g, 0, none⟩) (pre ++ xs ++ post).length cap) (pre ++ xs ++ post)
section
variable {ad : Addr} {cap : Nat} {pre post xs : List Int} {d : Kd Int} {e base : Nat} {W w w' : World} {ok ok' : Nat → Prop} {v : Value} {k : IntKind}
theorem U_mono (h : U ad cap pre post d e W base ok v xs) (hok : ∀ k, ok k → ok' k) : U ad cap pre post d e W base ok' v xs := by
 obtain ⟨h0, g, c, h1, h2, h3, h4⟩ := h
 exact ⟨fun k hk => hok k (h0 k hk), g, c, h1, h2, h3, R_mono h4 hok⟩
theorem U_alloc (h : U ad cap pre post d e W base ok v xs) (o : Obj) : U ad cap pre post d e (W.alloc o) base ok v xs := by
 obtain ⟨h0, g, c, h1, h2, h3, h4⟩ := h
 exact ⟨h0, g, c, h1, h2, h3, R_alloc h4 o⟩
theorem U_drew (h : U ad cap pre post d e W base ok v xs) : U ad cap pre post d e W.drew base ok v xs := by
 obtain ⟨h0, g, c, h1, h2, h3, h4⟩ := h
 exact ⟨h0, g, c, h1, h2, h3, R_drew h4⟩
theorem U_drewN (h : U ad cap pre post d e W base ok v xs) (m : Nat) : U ad cap pre post d e (W.drewN m) base ok v xs := by
 obtain ⟨h0, g, c, h1, h2, h3, h4⟩ := h
 exact ⟨h0, g, c, h1, h2, h3, R_drewN h4 m⟩
theorem U_at {m : Nat} (hq : w.drewN m = w') (h : U ad cap pre post d e w base ok v xs) : U ad cap pre post d e w' base ok v xs := by subst hq; exact U_drewN h m
theorem U_base (h : U ad cap pre post d e W base ok v xs) : base ≤ ad.block := by
 obtain ⟨h0, g, c, h1, h2, h3, h4⟩ := h
 rw [h1]
 exact R_base h4 g rfl
theorem U_reads' {A : Option Addr} {n c : Nat} (h : U ad cap pre post (Kd.int k) e w base ok (.slice A n c) xs) : n = xs.length ∧ n ≤ c ∧ (Kd.int k).C w A xs.length xs := by
 obtain ⟨h0, g, c', h1, h2, h3, h4⟩ := h
 injection h2 with e1 e2 e3
 subst e1 e2 e3
 refine ⟨rfl, h3, C_of_reads (h1 := fun _ => rfl) (d := 0) ?_⟩
 have hr := reads_of_C (d := (0 : Int)) (R_reads' h4).2.2
 refine ⟨rfl, ?_, fun hp => ⟨ad, rfl, fun j hj => ?_⟩⟩
 ·
  have := hr.2.1
  rw [List.length_append, List.length_append] at this
  omega
 ·
  obtain ⟨ad0, e0, hc⟩ := hr.2.2 (by rw [List.length_append, List.length_append]; omega)
  injection e0 with e0
  subst e0 h1
  have := hc (pre.length + j) (by rw [List.length_append, List.length_append]; omega)
  rw [addr_add, Nat.zero_add, mid_get _ _ _ _ hj] at this
  rw [addr_add]
  exact this
theorem U_celln {A : Option Addr} {n c : Nat} (d0 : Int) (h : U ad cap pre post (Kd.int k) e W base ok (.slice A n c) xs) (i : Int) (hi0 : 0 ≤ i) (hi : i < n) : W.cell? (ad.add i.toNat) = some (.int k (rdOf d0 xs i)) ∧ W.frozen? (ad.add i.toNat) = false := by
 obtain ⟨h0, g, c', h1, h2, h3, h4⟩ := h
 injection h2 with e1 e2 e3
 have := R_celln (h1 := fun _ => rfl) d0 h4 ((pre.length : Int) + i) (by omega) (by rw [List.length_append, List.length_append]; omega)
 have ht : ((pre.length : Int) + i).toNat = pre.length + i.toNat := by omega
 rw [ht, rdOf, ht, mid_get _ _ _ _ (by omega)] at this
 subst h1
 rw [addr_add]
 exact this
theorem U_putg {A : Option Addr} {n c : Nat} (h : U ad cap pre post (Kd.int k) e W base ok (.slice A n c) xs) (i : Int) (hi0 : 0 ≤ i) (hi : i < n) (x : Int) :
  U ad cap pre post (Kd.int k) e (W.setCell (ad.add i.toNat) (.int k x)) base ok (.slice A n c) (xs.set i.toNat x) ∧ W.grownBy (W.setCell (ad.add i.toNat) (.int k x)) (some ad.block) := by
 obtain ⟨h0, g, c', h1, h2, h3, h4⟩ := h
 injection h2 with e1 e2 e3
 have := R_putg (h1 := fun _ => rfl) h4 ((pre.length : Int) + i) x
 have ht : ((pre.length : Int) + i).toNat = pre.length + i.toNat := by omega
 have hl : (pre ++ xs ++ post).length = (pre ++ xs.set i.toNat x ++ post).length := by simp
 rw [ht, mid_set _ _ _ _ (by omega), hl] at this
 subst h1
 rw [addr_add]
 refine ⟨⟨h0, g, c', rfl, by rw [e1, e2, e3, List.length_set], by rw [List.length_set]; exact h3, this.1⟩, this.2⟩
theorem U_of_R {g n lo hi c : Nat} {us : List Int} (h : d.R e W base ok (.slice (some ⟨g, 0, none⟩) n cap) us) (hlo : lo ≤ hi) (hhi : hi ≤ us.length) (hc : hi - lo ≤ c) :
  U ⟨g, lo, none⟩ cap (us.take lo) (us.drop hi) d e W base ok (.slice (some ⟨g, lo, none⟩) ((us.take hi).drop lo).length c) ((us.take hi).drop lo) := by
 have e1 : us.take lo ++ (us.take hi).drop lo ++ us.drop hi = us := by
  have h1 : us.take lo = (us.take hi).take lo := by rw [List.take_take, Nat.min_eq_left hlo]
  rw [h1, List.take_append_drop, List.take_append_drop]
 have e2 : (us.take lo).length = lo := by rw [List.length_take]; omega
 have e3 : ((us.take hi).drop lo).length = hi - lo := by rw [List.length_drop, List.length_take]; omega
 obtain ⟨A, c', he⟩ := R_slice h
 injection he with x1 x2 x3
 refine ⟨fun k hk => h.1 k hk, g, c, by rw [e2], rfl, by rw [e3]; exact hc, ?_⟩
 rw [e1, ← x2]
 exact h
theorem R_of_U {g lo : Nat} (h : U ⟨g, lo, none⟩ cap pre post d e W base ok v xs) : d.R e W base ok (.slice (some ⟨g, 0, none⟩) (pre ++ xs ++ post).length cap) (pre ++ xs ++ post) := by
 obtain ⟨h0, g', c, h1, h2, h3, h4⟩ := h
 injection h1 with x1 x2
 subst x1
 exact h4
end
end Kd
end Go.Proofs.YtpjpbhjpobdenaaW.PrintWords
