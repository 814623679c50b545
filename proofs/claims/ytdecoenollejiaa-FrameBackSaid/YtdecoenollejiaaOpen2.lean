/- Opening what came in: a slice of frames (structs of a byte and a text), each text no longer than the row's weight allows. -/
import Derived.Test.YtdecoenollejiaaOpen
import Derived.Deep.Slices
import Derived.Deep.Fields
import Derived.ChangeSame
set_option linter.unusedVariables false
set_option linter.unusedSimpArgs false
namespace Go.Proofs.Ytdecoenollejiaa
open Go.ChangeShapes Go.WideShapes Go.Deep Go.RowKit FrMath

section
variable {H : Type} {enc : TypeId × Value → H} {P : Program} {w : World} {base : Nat} {spare : Nat → Bool} {held : Bool}
theorem open_slice_fields {t e : TypeId} {fs : Array Field} {fuel : Nat} {cs : List Value} {x : DataW H × List MemPlace} (ht : P.underlying t = some (.slice e)) (he : P.underlying e = some (.struct fs))
    (hone : oneCellFields P fs = true) (hC : P.cellsOf e = fs.size) (h : DataW.trod enc P w base spare held fuel t cs = some x) :
    (cs = [.slice none 0 0] ∧ x = (.nil, [])) ∨
    ∃ (a : Addr) (len cap m : Nat) (D : Nat → DataW H) (Pl : Nat → List MemPlace), cs = [.slice (some a) len cap] ∧ base ≤ a.block ∧ len ≤ cap ∧ cap ≤ maxLen ∧ m = (if spare a.block then cap else len) ∧
      x = (.slice ((List.range len).map D) ((List.range (m - len)).map fun j => D (len + j)), MemPlace.row a (m * fs.size) ++ (List.range m).flatMap Pl) ∧
      ∀ i, i < m → ∃ (ys : List (DataW H × List MemPlace)) (n : Nat), D i = .agg (ys.map (·.1)) ∧ Pl i = ys.flatMap (·.2) ∧ ys.length = fs.size ∧
        ∀ (j : Nat) (f : Field), fs[j]? = some f → ∃ (v : Value) (y : DataW H × List MemPlace), w.cell? (a.add (i * fs.size + j)) = some v ∧ ys[j]? = some y ∧ DataW.trod enc P w base spare held n f.type [v] = some y := by
  rcases open_slice ht h with h0 | ⟨a, len, cap, m, n, D, Pl, hcs, hb, hl, hm, hmm, hx, hi⟩
  · exact .inl h0
  · refine .inr ⟨a, len, cap, m, D, Pl, hcs, hb, hl, hm, hmm, by rw [hC] at hx; exact hx, fun i him => ?_⟩
    obtain ⟨cs', hc, ht'⟩ := hi i him
    rw [hC] at hc
    obtain ⟨ys, n', hn', hy, hlen, hyl, hf⟩ := DataW.trod_struct he ht'
    obtain ⟨_, hcl, hat⟩ := World.cells?_some hc
    simp only [Prod.mk.injEq] at hy
    refine ⟨ys, n', hy.1, hy.2, hyl, fun j f hj => ?_⟩
    obtain ⟨ho, hk⟩ := hone_of hone j f hj
    have hjl : j < fs.size := (Array.getElem?_eq_some_iff.1 hj).1
    have hcell := hat j hjl
    have hv : cs'[j]? = some (cs'[j]'(by omega)) := List.getElem?_eq_getElem (by omega)
    have h1 := hf j f hj
    rw [ho, hk] at h1
    have hone' : (cs'.drop j).take 1 = [cs'[j]'(by omega)] := by
      rw [List.drop_eq_getElem_cons (by omega)]
      rfl
    rw [hone'] at h1
    have hys : ys[j]? = some (ys[j]'(by omega)) := List.getElem?_eq_getElem (by omega)
    refine ⟨_, _, ?_, hys, h1.trans hys⟩
    rw [← Go.Deep.add_add, hcell, hv]
end

/-- n frames that came in: how they read, and how long their texts are. -/
def FrIn (w : World) (A : Option Addr) (n c : Nat) (fs : List Fr) : Prop :=
  FrRow w (.slice A n c) fs ∧ fs.length = n ∧ ∀ j, j < n → (fs.getD j ⟨0, []⟩).pay.length ≤ 140737488351232

theorem list_of {α : Type} (d : α) (p : Nat → α → Prop) : ∀ n, (∀ i, i < n → ∃ f, p i f) → ∃ fs : List α, fs.length = n ∧ ∀ i, i < n → p i (fs.getD i d)
  | 0, _ => ⟨[], rfl, fun i h => absurd h (by omega)⟩
  | n + 1, h => by
    obtain ⟨fs, hl, hp⟩ := list_of d p n (fun i hi => h i (by omega))
    obtain ⟨f, hf⟩ := h n (by omega)
    refine ⟨fs ++ [f], by simp [hl], fun i hi => ?_⟩
    by_cases hn : i < n
    · rw [List.getD_eq_getElem?_getD, List.getElem?_append_left (by omega), ← List.getD_eq_getElem?_getD]
      exact hp i hn
    · obtain rfl : i = n := by omega
      rw [List.getD_eq_getElem?_getD, List.getElem?_append_right (by omega), hl]
      simpa using hf

theorem frs_open {H : Type} {enc : TypeId × Value → H} {P : Program} {W : World} {base : Nat} {spare : Nat → Bool} {held : Bool} {t e u s : TypeId} {fa fb : Field} {a : Option Addr} {len cap : Nat} {d : DataW H} {ps : List MemPlace} {ts : List TypeId} {ds : List (DataW H)} {j : Nat}
    (hsz : (DataW.weightsEach P ts ds).all (· ≤ reachBytes) = true) (ht : ts[j]? = some t) (hd : ds[j]? = some d) (hu : P.underlying t = some (.slice e)) (he : P.underlying e = some (.struct #[fa, fb])) (hfa : fa.type = u) (hfb : fb.type = s) (hku : P.underlying u = some (.int .u8)) (hks : P.underlying s = some .string)
    (hone : oneCellFields P #[fa, fb] = true) (hc : P.cellsOf e = 2) (hB : P.bytesOf e = 24)
    (h : DataW.Trod enc P W base spare held t (.slice a len cap) d ps) : ∃ fs, FrIn W a len cap fs := by
  obtain ⟨fuel, hf⟩ := h
  rcases open_slice_fields hu he hone hc hf with ⟨hcs, hx⟩ | ⟨x, l, c, m, D, Pl, hcs, _, hl, hm, hmm, hx, hD⟩
  · simp [Value.cells] at hcs
    obtain ⟨rfl, rfl, rfl⟩ := hcs
    exact ⟨[], ⟨none, 0, rfl, by decide, fun h => absurd h (by decide)⟩, rfl, fun j h => absurd h (by omega)⟩
  · simp [Value.cells] at hcs
    obtain ⟨rfl, rfl, rfl⟩ := hcs
    obtain ⟨hx, _⟩ := Prod.mk.inj hx
    subst hx
    have hll : len ≤ m := by
      rw [hmm]
      split
      · exact hl
      · exact Nat.le_refl _
    have z := sized_slice hsz ht hd hu
    rw [hB] at z
    have hlen : len ≤ 70368744177664 := by
      have : reachBytes = 140737488351232 := by decide
      rw [this] at z
      simp only [List.length_map, List.length_range] at z
      have := Nat.le_trans (Nat.mul_le_mul_right 24 (Nat.le_add_right len _)) z
      omega
    obtain ⟨fs, hfl, hfs⟩ := list_of (⟨0, []⟩ : Fr) (fun i f => W.cell? (x.add (i * 2 + 0)) = some (.int .u8 ((f.kind.toNat : Nat) : Int)) ∧ W.cell? (x.add (i * 2 + 1)) = some (.string ⟨f.pay.toArray⟩) ∧ f.pay.length ≤ 140737488351232) len (by
      intro i hi
      obtain ⟨ys, n, hDi, _, hyl, hf⟩ := hD i (by omega)
      obtain ⟨v0, y0, hc0, hy0, ht0⟩ := hf 0 fa rfl
      obtain ⟨v1, y1, hc1, hy1, ht1⟩ := hf 1 fb rfl
      rw [hfa] at ht0
      rw [hfb] at ht1
      obtain ⟨k, e0, g0, wf0⟩ := DataW.trod_int hku ht0
      obtain ⟨b, e1, g1, wf1⟩ := DataW.trod_string hks ht1
      obtain rfl : v0 = .int .u8 k := by simpa using e0
      obtain rfl : v1 = .string b := by simpa using e1
      obtain ⟨kd, rfl⟩ := u8_bv wf0
      refine ⟨⟨kd, b.data.toList⟩, hc0, by simpa using hc1, ?_⟩
      have hmem : D i ∈ (List.range len).map D := List.mem_map.2 ⟨i, List.mem_range.2 hi, rfl⟩
      match ys, hyl, hy0, hy1 with
      | [z0, z1], _, hy0, hy1 =>
        simp only [List.getElem?_cons_zero, List.getElem?_cons_succ, Option.some.injEq] at hy0 hy1
        subst hy0; subst hy1
        have := sized_elem hsz ht hd hu hmem b.data.toList.length (by
          rw [hDi]
          simp only [DataW.weights, he, List.map_cons, List.map_nil, hfa, hfb, g0, g1, DataW.weightsEach, Array.toList, List.mem_append, List.mem_singleton]
          exact .inr (.inl trivial))
        rw [show reachBytes = 140737488351232 by decide] at this
        exact this)
    subst hfl
    refine ⟨fs, ⟨some x, cap, rfl, hlen, fun h0 => ?_⟩, rfl, fun j hj => (hfs j hj).2.2⟩
    obtain ⟨b, off, spot⟩ := x
    have hc0 := (hfs 0 h0).1
    have hspot : spot = none := by simpa [Addr.add] using World.cell?_spot hc0
    subst hspot
    have hadd : ∀ j, (⟨b, off, none⟩ : Addr).add j = ⟨b, off + j, none⟩ := fun j => by unfold Addr.add; split <;> simp_all
    refine ⟨b, off, rfl, ?_, fun k hk => ⟨?_, ?_⟩⟩
    · have := World.block_lt_of_cell? W _ hc0
      rw [hadd] at this
      exact this
    · have := (hfs k hk).1
      rwa [hadd] at this
    · have := (hfs k hk).2.1
      rwa [hadd, ← Nat.add_assoc] at this

end Go.Proofs.Ytdecoenollejiaa
