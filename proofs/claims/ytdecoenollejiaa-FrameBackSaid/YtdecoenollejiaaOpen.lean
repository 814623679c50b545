/- Opening what came in: a slice of texts, each no longer than the row's weight allows. -/
import Derived.Test.YtdecoenollejiaaFrLaws5
import Derived.SizedLaws
import Derived.SliceStrings
import Derived.ProofKit
set_option linter.unusedVariables false
set_option linter.unusedSimpArgs false
namespace Go.Proofs.Ytdecoenollejiaa
open Go.ChangeShapes Go.WideShapes Go.RowKit

theorem weightsAll_mem {H : Type} {P : Program} {e : TypeId} : ∀ {ds : List (DataW H)} {d : DataW H}, d ∈ ds → ∀ n ∈ d.weights P e, n ∈ DataW.weightsAll P e ds
  | d0 :: ds, d, h, n, hn => by
    rw [DataW.weightsAll, List.mem_append]
    rcases List.mem_cons.1 h with rfl | h
    · exact .inl hn
    · exact .inr (weightsAll_mem h n hn)

theorem sized_elem {H : Type} {P : Program} {ts : List TypeId} {ds : List (DataW H)} (h : (DataW.weightsEach P ts ds).all (· ≤ reachBytes) = true) {j : Nat} {t e : TypeId} {elems spare : List (DataW H)} (ht : ts[j]? = some t) (hd : ds[j]? = some (.slice elems spare)) (hu : P.underlying t = some (.slice e)) {d : DataW H} (hm : d ∈ elems) : ∀ n ∈ d.weights P e, n ≤ reachBytes := by
  intro n hn
  have := List.all_eq_true.1 h n (DataW.weights_mem_each ht hd n (by
    simp only [DataW.weights, hu, List.mem_cons, List.mem_append]
    exact .inr (.inl (weightsAll_mem hm n hn))))
  simpa using this

theorem strs_open {H : Type} {enc : TypeId × Value → H} {P : Program} {W : World} {base : Nat} {spare : Nat → Bool} {held : Bool} {t e : TypeId} {a : Option Addr} {len cap : Nat} {d : DataW H} {ps : List MemPlace} {ts : List TypeId} {ds : List (DataW H)} {j : Nat}
    (hsz : (DataW.weightsEach P ts ds).all (· ≤ reachBytes) = true) (ht : ts[j]? = some t) (hd : ds[j]? = some d) (hu : P.underlying t = some (.slice e)) (he : P.underlying e = some .string) (hc : P.cellsOf e = 1) (hB : P.bytesOf e = 16)
    (h : DataW.Trod enc P W base spare held t (.slice a len cap) d ps) : ∃ ss, StrsAt W a len ss := by
  obtain ⟨fuel, hf⟩ := h
  rcases open_strings hu he hc hf with ⟨hcs, hx⟩ | ⟨x, l, c, ss, hcs, _, hl, hm, hz, hx, hcell, _⟩
  · simp [Value.cells] at hcs
    obtain ⟨rfl, rfl, rfl⟩ := hcs
    exact ⟨[], by decide, fun h => absurd h (by decide)⟩
  · simp [Value.cells] at hcs
    obtain ⟨rfl, rfl, rfl⟩ := hcs
    obtain ⟨hx, _⟩ := Prod.mk.inj hx
    subst hx
    have hll : len ≤ ss.length := by
      rw [hz]
      split
      · exact hl
      · exact Nat.le_refl _
    have z := sized_slice hsz ht hd hu
    rw [hB] at z
    have hlen : len ≤ 140737488351232 := by
      have e1 : (strs (H := H) (ss.take len)).length = len := by simp [strs]; omega
      rw [e1] at z
      have : reachBytes = 140737488351232 := by decide
      rw [this] at z
      have := Nat.le_trans (Nat.mul_le_mul_right 16 (Nat.le_add_right len _)) z
      omega
    refine ⟨ss, hlen, fun h0 => ?_⟩
    obtain ⟨b, off, spot⟩ := x
    have hc0 := hcell 0 (by omega)
    have hspot : spot = none := by simpa [Addr.add] using World.cell?_spot hc0
    subst hspot
    have hadd : ∀ j, (⟨b, off, none⟩ : Addr).add j = ⟨b, off + j, none⟩ := fun j => by unfold Addr.add; split <;> simp_all
    refine ⟨b, off, rfl, ?_, fun k hk => ⟨?_, ?_⟩⟩
    · have := World.block_lt_of_cell? W _ hc0
      rw [hadd] at this
      exact this
    · have := hcell k (by omega)
      rwa [hadd] at this
    · have hmem : (DataW.lit (.string (ss.getD k ByteArray.empty).data.toList) : DataW H) ∈ strs (ss.take len) := by
        unfold strs
        rw [List.mem_map]
        refine ⟨ss.getD k ByteArray.empty, ?_, rfl⟩
        rw [List.getD_eq_getElem?_getD, List.getElem?_eq_getElem (by omega), Option.getD_some]
        exact List.mem_take_iff_getElem.2 ⟨k, by omega, rfl⟩
      have := sized_elem hsz ht hd hu hmem _ (by simp only [DataW.weights]; exact List.mem_singleton.2 rfl)
      rw [show reachBytes = 140737488351232 by decide] at this
      simpa using this

end Go.Proofs.Ytdecoenollejiaa
