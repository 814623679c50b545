/- The texts Tb of the walk of the law and of all that it calls, in one file. No condition. -/
import Derived.RangeFuncNested
import Derived.RangeFuncLeaves
import Derived.Shelf.Abstract
import Derived.Shelf.RegionOpen
import Derived.OwnWalkIn
import Derived.TacticsInMore
import Derived.LoopNIn
import Derived.LoopIn
import Derived.Sort.LoopGhostIn
import Derived.Test.YtmidifgnpjlgcaaGreatY14
/- The iterator of fields; Check of a config that may be. -/
set_option linter.unusedVariables false
set_option linter.unusedSimpArgs false
namespace Go.Proofs.YtmidifgnpjlgcaaGreat
open Go.RowKit

attribute [local go_sem] Oper.semAt_some

/-- What the fields are, in memory. -/
structure Flds (w : World) (b g bs : Nat) (nm : Fin 11 → ByteArray) (gs cs ks : Fin 11 → Nat) (lo hi : Fin 11 → Int) (a : Nat → Int) : Prop where
  box : w.cell? ⟨g, 0, none⟩ = some (.slice (some ⟨bs, 0, none⟩) 11 11)
  c0 : ∀ x : Fin 11, w.cell? ⟨bs, x.1 * 4, none⟩ = some (.string (nm x))
  c1 : ∀ x : Fin 11, w.cell? ⟨bs, x.1 * 4 + 1, none⟩ = some (.slice (some ⟨gs x, 0, none⟩) (cs x) (cs x))
  c2 : ∀ x : Fin 11, w.cell? ⟨bs, x.1 * 4 + 2, none⟩ = some (.int .i64 (lo x))
  c3 : ∀ x : Fin 11, w.cell? ⟨bs, x.1 * 4 + 3, none⟩ = some (.int .i64 (hi x))
  hp : ∀ (x : Fin 11) j, j < cs x → w.cell? ⟨gs x, j, none⟩ = some (.pointer (some ⟨b, ks x + j, none⟩))
  hv : ∀ (x : Fin 11) j, j < cs x → w.cell? ⟨b, ks x + j, none⟩ = some (.int .i64 (a (ks x + j)))
  hr : ∀ (x : Fin 11) j, j < cs x → lo x ≤ a (ks x + j) ∧ a (ks x + j) ≤ hi x
  hc : ∀ x, cs x ≤ 4
theorem cell_lt {w : World} {p : Addr} {v : Value} (h : w.cell? p = some v) : p.block < w.heap.size := by
  obtain ⟨o, ho, _⟩ := cells_of_cell h
  exact (Array.getElem?_eq_some_iff.1 ho).1
theorem cell_later {w w' : World} {p : Addr} {v : Value} (h : w.cell? p = some v) (hb : Below w.heap.size w w') : w'.cell? p = some v := (hb.cell (p := p) (cell_lt h)).trans h
theorem cell_of_cells {w : World} {b k : Nat} {vs : Array Value} {t : TypeId} {v : Value} (h : w.heap[b]? = some (.cells vs t)) (hk : vs[k]? = some v) : w.cell? ⟨b, k, none⟩ = some v := by simp [World.cell?, h, hk]
theorem Flds.below {w w' : World} {b g bs : Nat} {nm : Fin 11 → ByteArray} {gs cs ks : Fin 11 → Nat} {lo hi : Fin 11 → Int} {a : Nat → Int} (h : Flds w b g bs nm gs cs ks lo hi a) (hb : Below w.heap.size w w') : Flds w' b g bs nm gs cs ks lo hi a :=
  ⟨cell_later h.box hb, fun x => cell_later (h.c0 x) hb, fun x => cell_later (h.c1 x) hb, fun x => cell_later (h.c2 x) hb, fun x => cell_later (h.c3 x) hb, fun x j hj => cell_later (h.hp x j hj) hb, fun x j hj => cell_later (h.hv x j hj) hb, h.hr, h.hc⟩
theorem grown_of_below {w w' : World} (h : Below w.heap.size w w') : w.grownBy w' none := ⟨h.os, h.tape, h.output, h.size, fun k hk _ => h.block k hk⟩

def encF (nm : Fin 11 → ByteArray) (gs cs : Fin 11 → Nat) (lo hi : Fin 11 → Int) (x : Fin 11) : Array Value := #[.agg #[.string (nm x), .slice (some ⟨gs x, 0, none⟩) (cs x) (cs x), .int .i64 (lo x), .int .i64 (hi x)]]
set_option maxRecDepth 100000 in
set_option maxHeartbeats 4000000 in
theorem iter94_in (F : Fence) (n : Nat) (h94 : F.fn 94) (hro : F.round = none) (hn : 1 ≤ n) {w : World} {b g bs : Nat} {nm : Fin 11 → ByteArray} {gs cs ks : Fin 11 → Nat} {lo hi : Fin 11 → Int} {a : Nat → Int} (H : Flds w b g bs nm gs cs ks lo hi a) :
    SeqStopsK F n Tryz.prog 94 #[.pointer (some ⟨g, 0, none⟩)] (encF nm gs cs lo hi) (Below w.heap.size) (fun _ => True) (fun _ => True) 11 w := by
  intro l J Jx W hW hJ _ hY h0
  have hF := Lib.hid (H.below hW)
  replace hW := hW
  replace hY := Lib.hid hY
  have hbox := hF.out.box
  refine callsIn_of_wp Tryz.func94 rfl h94 ?_ hro
  simp only [Tryz.ntmps94, List.size_toArray, List.length_cons, List.length_nil, Nat.reduceAdd, Nat.reduceSub, Array.replicate_succ, Array.replicate_zero, List.push_toArray, List.append_toArray, List.nil_append, List.cons_append]
  gi_wp2
  gi_loopg [7] 12 (fun gk p wr => ∃ (k : Nat) (pre : List (Fin 11)), gk + k = 12 ∧ k ≤ 11 ∧ p = .int .i64 (k : Int) ∧ pre.length = k ∧ J pre wr ∧ Below w.heap.size w wr)
  case atStart => exact ⟨0, [], rfl, by omega, rfl, rfl, h0, hW⟩
  case round =>
    obtain ⟨k, pre, hg, hk, rfl, hl, hj, hb⟩ := hrel
    by_cases hk2 : k < 11
    · have hF2 := Lib.hid (H.below hb)
      have e0 := hF2.out.c0 ⟨k, hk2⟩
      have e1 := hF2.out.c1 ⟨k, hk2⟩
      have e2 := hF2.out.c2 ⟨k, hk2⟩
      have e3 := hF2.out.c3 ⟨k, hk2⟩
      simp only [] at e0 e1 e2 e3
      generalize hx : (⟨k, hk2⟩ : Fin 11) = x at *
      replace hx := Lib.hid hx
      obtain ⟨fn, tmps, assign, body, hy, hR⟩ := hY.out pre x (wr.alloc (.cells #[.string (nm x), .slice (some ⟨gs x, 0, none⟩) (cs x) (cs x), .int .i64 (lo x), .int .i64 (hi x)] 118)) (hJ _ _ _ none hj (World.grownBy_alloc _ _ none) (fun r e => by cases e)) (by omega)
      simp only [encF] at hy
      have hR := Lib.hid hR
      gi_wp2
      refine hR.out.mono ?_
      rintro e W3 (⟨rfl, hJ3, hk3⟩ | ⟨rfl, hJx3⟩)
      · gi_wp2
        gi_roundg (gk - 1)
        case rel => exact ⟨k + 1, pre ++ [x], by omega, by omega, by simp, by simp [hl], hJ3, (hb.alloc hb.size _).trans hk3⟩
        case measure => omega
      · gi_wp2
        refine bodyPost_ret (results_none rfl _ _ _) rfl ?_
        exact ⟨⟨_, rfl⟩, .inr ⟨pre ++ [x], trivial, hJx3⟩⟩
    · gi_wp2
      go_end0
      exact ⟨⟨_, rfl⟩, .inl ⟨pre, trivial, hj⟩⟩

def nmF (x : Fin 11) : ByteArray := [⟨#[82, 97, 116, 101]⟩, ⟨#[83, 116, 101, 112]⟩, ⟨#[75, 101, 121, 115]⟩, ⟨#[71, 97, 112]⟩, ⟨#[84, 117, 114, 110]⟩, ⟨#[80, 117, 108, 108]⟩, ⟨#[75, 110, 101, 101, 115]⟩, ⟨#[87, 101, 105, 103, 104, 116, 115]⟩, ⟨#[82, 111, 117, 110, 100, 115]⟩, ⟨#[82, 97, 105, 115, 101, 115]⟩, ⟨#[70, 108, 97, 116]⟩].getD x.1 ⟨#[]⟩
def csF (x : Fin 11) : Nat := [1, 1, 1, 1, 1, 1, 4, 4, 1, 1, 1].getD x.1 0
def ksF (x : Fin 11) : Nat := [0, 1, 2, 3, 4, 5, 6, 10, 14, 15, 16].getD x.1 0
def loF (x : Fin 11) : Int := [1, 1, 2, 1, 1, 1, 1, 1, 1, 0, 0].getD x.1 0
def hiF (x : Fin 11) : Int := [1000, 1000, 5, 1000, 4194304, 67108864, 32768, 100, 30, 12, 1000000000].getD x.1 0
/-- A config that may be. -/
def cfgOk (a : Nat → Int) : Prop := ∀ x : Fin 11, ∀ j, j < csF x → loF x ≤ a (ksF x + j) ∧ a (ksF x + j) ≤ hiF x

theorem Flds.of {w0 w : World} {b g bs f0 f1 f2 f3 f4 f5 f6 f7 f8 f9 f10 : Nat} {a : Nat → Int} (K : Keep w0 ([(g, .cells #[.slice (some ⟨bs, 0, none⟩) 11 11] 144), (bs, .cells #[.string ⟨#[82, 97, 116, 101]⟩, .slice (some ⟨f0, 0, none⟩) 1 1, .int .i64 1, .int .i64 1000, .string ⟨#[83, 116, 101, 112]⟩, .slice (some ⟨f1, 0, none⟩) 1 1, .int .i64 1, .int .i64 1000, .string ⟨#[75, 101, 121, 115]⟩, .slice (some ⟨f2, 0, none⟩) 1 1, .int .i64 2, .int .i64 5, .string ⟨#[71, 97, 112]⟩, .slice (some ⟨f3, 0, none⟩) 1 1, .int .i64 1, .int .i64 1000, .string ⟨#[84, 117, 114, 110]⟩, .slice (some ⟨f4, 0, none⟩) 1 1, .int .i64 1, .int .i64 4194304, .string ⟨#[80, 117, 108, 108]⟩, .slice (some ⟨f5, 0, none⟩) 1 1, .int .i64 1, .int .i64 67108864, .string ⟨#[75, 110, 101, 101, 115]⟩, .slice (some ⟨f6, 0, none⟩) 4 4, .int .i64 1, .int .i64 32768, .string ⟨#[87, 101, 105, 103, 104, 116, 115]⟩, .slice (some ⟨f7, 0, none⟩) 4 4, .int .i64 1, .int .i64 100, .string ⟨#[82, 111, 117, 110, 100, 115]⟩, .slice (some ⟨f8, 0, none⟩) 1 1, .int .i64 1, .int .i64 30, .string ⟨#[82, 97, 105, 115, 101, 115]⟩, .slice (some ⟨f9, 0, none⟩) 1 1, .int .i64 0, .int .i64 12, .string ⟨#[70, 108, 97, 116]⟩, .slice (some ⟨f10, 0, none⟩) 1 1, .int .i64 0, .int .i64 1000000000] 118), (f10, .cells #[.pointer (some ⟨b, 16, none⟩)] 119), (f9, .cells #[.pointer (some ⟨b, 15, none⟩)] 119), (f8, .cells #[.pointer (some ⟨b, 14, none⟩)] 119), (f7, .cells #[.pointer (some ⟨b, 10, none⟩), .pointer (some ⟨b, 10 + 1, none⟩), .pointer (some ⟨b, 10 + 2, none⟩), .pointer (some ⟨b, 10 + 3, none⟩)] 119), (f6, .cells #[.pointer (some ⟨b, 6, none⟩), .pointer (some ⟨b, 6 + 1, none⟩), .pointer (some ⟨b, 6 + 2, none⟩), .pointer (some ⟨b, 6 + 3, none⟩)] 119), (f5, .cells #[.pointer (some ⟨b, 5, none⟩)] 119), (f4, .cells #[.pointer (some ⟨b, 4, none⟩)] 119), (f3, .cells #[.pointer (some ⟨b, 3, none⟩)] 119), (f2, .cells #[.pointer (some ⟨b, 2, none⟩)] 119), (f1, .cells #[.pointer (some ⟨b, 1, none⟩)] 119), (f0, .cells #[.pointer (some ⟨b, 0, none⟩)] 119)]) w) (hb : ∀ k, k < 17 → w.cell? ⟨b, k, none⟩ = some (.int .i64 (a k))) (ha : cfgOk a) :
    Flds w b g bs nmF (fun x => [f0, f1, f2, f3, f4, f5, f6, f7, f8, f9, f10].getD x.1 0) csF ksF loF hiF a := by
  refine ⟨K.cell (.head _) rfl, ?_, ?_, ?_, ?_, ?_, ?_, ha, ?_⟩
  · rintro ⟨i, hi⟩
    rcases (show i = 0 ∨ i = 1 ∨ i = 2 ∨ i = 3 ∨ i = 4 ∨ i = 5 ∨ i = 6 ∨ i = 7 ∨ i = 8 ∨ i = 9 ∨ i = 10 by omega) with rfl | rfl | rfl | rfl | rfl | rfl | rfl | rfl | rfl | rfl | rfl <;> exact K.cell (.tail _ (.head _)) rfl
  · rintro ⟨i, hi⟩
    rcases (show i = 0 ∨ i = 1 ∨ i = 2 ∨ i = 3 ∨ i = 4 ∨ i = 5 ∨ i = 6 ∨ i = 7 ∨ i = 8 ∨ i = 9 ∨ i = 10 by omega) with rfl | rfl | rfl | rfl | rfl | rfl | rfl | rfl | rfl | rfl | rfl <;> exact K.cell (.tail _ (.head _)) rfl
  · rintro ⟨i, hi⟩
    rcases (show i = 0 ∨ i = 1 ∨ i = 2 ∨ i = 3 ∨ i = 4 ∨ i = 5 ∨ i = 6 ∨ i = 7 ∨ i = 8 ∨ i = 9 ∨ i = 10 by omega) with rfl | rfl | rfl | rfl | rfl | rfl | rfl | rfl | rfl | rfl | rfl <;> exact K.cell (.tail _ (.head _)) rfl
  · rintro ⟨i, hi⟩
    rcases (show i = 0 ∨ i = 1 ∨ i = 2 ∨ i = 3 ∨ i = 4 ∨ i = 5 ∨ i = 6 ∨ i = 7 ∨ i = 8 ∨ i = 9 ∨ i = 10 by omega) with rfl | rfl | rfl | rfl | rfl | rfl | rfl | rfl | rfl | rfl | rfl <;> exact K.cell (.tail _ (.head _)) rfl
  · rintro ⟨i, hi⟩ j hj
    rcases (show i = 0 ∨ i = 1 ∨ i = 2 ∨ i = 3 ∨ i = 4 ∨ i = 5 ∨ i = 8 ∨ i = 9 ∨ i = 10 ∨ i = 6 ∨ i = 7 by omega) with rfl | rfl | rfl | rfl | rfl | rfl | rfl | rfl | rfl | rfl | rfl
    all_goals first
      | (change j < 1 at hj; obtain rfl : j = 0 := by omega; skip)
      | (change j < 4 at hj; rcases (show j = 0 ∨ j = 1 ∨ j = 2 ∨ j = 3 by omega) with rfl | rfl | rfl | rfl)
    · exact K.cell (k := 0) (.tail _ (.tail _ (.tail _ (.tail _ (.tail _ (.tail _ (.tail _ (.tail _ (.tail _ (.tail _ (.tail _ (.tail _ (.head _))))))))))))) rfl
    · exact K.cell (k := 0) (.tail _ (.tail _ (.tail _ (.tail _ (.tail _ (.tail _ (.tail _ (.tail _ (.tail _ (.tail _ (.tail _ (.head _)))))))))))) rfl
    · exact K.cell (k := 0) (.tail _ (.tail _ (.tail _ (.tail _ (.tail _ (.tail _ (.tail _ (.tail _ (.tail _ (.tail _ (.head _))))))))))) rfl
    · exact K.cell (k := 0) (.tail _ (.tail _ (.tail _ (.tail _ (.tail _ (.tail _ (.tail _ (.tail _ (.tail _ (.head _)))))))))) rfl
    · exact K.cell (k := 0) (.tail _ (.tail _ (.tail _ (.tail _ (.tail _ (.tail _ (.tail _ (.tail _ (.head _))))))))) rfl
    · exact K.cell (k := 0) (.tail _ (.tail _ (.tail _ (.tail _ (.tail _ (.tail _ (.tail _ (.head _)))))))) rfl
    · exact K.cell (k := 0) (.tail _ (.tail _ (.tail _ (.tail _ (.head _))))) rfl
    · exact K.cell (k := 0) (.tail _ (.tail _ (.tail _ (.head _)))) rfl
    · exact K.cell (k := 0) (.tail _ (.tail _ (.head _))) rfl
    · exact K.cell (k := 0) (.tail _ (.tail _ (.tail _ (.tail _ (.tail _ (.tail _ (.head _))))))) rfl
    · exact K.cell (k := 1) (.tail _ (.tail _ (.tail _ (.tail _ (.tail _ (.tail _ (.head _))))))) rfl
    · exact K.cell (k := 2) (.tail _ (.tail _ (.tail _ (.tail _ (.tail _ (.tail _ (.head _))))))) rfl
    · exact K.cell (k := 3) (.tail _ (.tail _ (.tail _ (.tail _ (.tail _ (.tail _ (.head _))))))) rfl
    · exact K.cell (k := 0) (.tail _ (.tail _ (.tail _ (.tail _ (.tail _ (.head _)))))) rfl
    · exact K.cell (k := 1) (.tail _ (.tail _ (.tail _ (.tail _ (.tail _ (.head _)))))) rfl
    · exact K.cell (k := 2) (.tail _ (.tail _ (.tail _ (.tail _ (.tail _ (.head _)))))) rfl
    · exact K.cell (k := 3) (.tail _ (.tail _ (.tail _ (.tail _ (.tail _ (.head _)))))) rfl
  · rintro ⟨i, hi⟩ j hj
    refine hb _ ?_
    rcases (show i = 0 ∨ i = 1 ∨ i = 2 ∨ i = 3 ∨ i = 4 ∨ i = 5 ∨ i = 6 ∨ i = 7 ∨ i = 8 ∨ i = 9 ∨ i = 10 by omega) with rfl | rfl | rfl | rfl | rfl | rfl | rfl | rfl | rfl | rfl | rfl <;> simp [csF, ksF] at hj ⊢ <;> omega
  · decide

set_option maxRecDepth 100000 in
set_option maxHeartbeats 8000000 in
theorem check_any (a : Nat → Int) (ha : cfgOk a) (a0 a1 a2 a3 a4 a5 a6 a7 a8 a9 a10 a11 a12 a13 a14 a15 a16 : Int) (hl : ∀ k, k < 17 → some (Value.int .i64 (a k)) = ((#[.int .i64 a0, .int .i64 a1, .int .i64 a2, .int .i64 a3, .int .i64 a4, .int .i64 a5, .int .i64 a6, .int .i64 a7, .int .i64 a8, .int .i64 a9, .int .i64 a10, .int .i64 a11, .int .i64 a12, .int .i64 a13, .int .i64 a14, .int .i64 a15, .int .i64 a16]))[k]?) (w : World) : CallsIn Fence.wide 5 Tryz.prog 30 #[.agg (#[.int .i64 a0, .int .i64 a1, .int .i64 a2, .int .i64 a3, .int .i64 a4, .int .i64 a5, .int .i64 a6, .int .i64 a7, .int .i64 a8, .int .i64 a9, .int .i64 a10, .int .i64 a11, .int .i64 a12, .int .i64 a13, .int .i64 a14, .int .i64 a15, .int .i64 a16])] w fun e w' => e = .returned (.tuple #[.string ⟨#[]⟩, .int .i64 0]) ∧ Below w.heap.size w w' := by
  replace hl := Lib.hid hl
  refine callsIn_of_wp_marks Tryz.func30 rfl trivial ?_ rfl
  simp only [Tryz.ntmps30, List.size_toArray, List.length_cons, List.length_nil, Nat.reduceAdd, Nat.reduceSub, Array.replicate_succ, Array.replicate_zero, List.push_toArray, List.append_toArray, List.nil_append, List.cons_append]
  have K := Lib.hid (Keep.begin3 w (.cells (#[.int .i64 a0, .int .i64 a1, .int .i64 a2, .int .i64 a3, .int .i64 a4, .int .i64 a5, .int .i64 a6, .int .i64 a7, .int .i64 a8, .int .i64 a9, .int .i64 a10, .int .i64 a11, .int .i64 a12, .int .i64 a13, .int .i64 a14, .int .i64 a15, .int .i64 a16]) 41) (.cells #[.string ⟨#[]⟩] 9) (.cells #[.int .i64 0] 35))
  generalize hW1 : ((w.alloc (.cells (#[.int .i64 a0, .int .i64 a1, .int .i64 a2, .int .i64 a3, .int .i64 a4, .int .i64 a5, .int .i64 a6, .int .i64 a7, .int .i64 a8, .int .i64 a9, .int .i64 a10, .int .i64 a11, .int .i64 a12, .int .i64 a13, .int .i64 a14, .int .i64 a15, .int .i64 a16]) 41)).alloc (.cells #[.string ⟨#[]⟩] 9)).alloc (.cells #[.int .i64 0] 35) = W1 at K
  replace hW1 := Lib.hid hW1
  gi_wp2
  rw [hW1.out]
  refine ⟨trivial, (callsIn_wide.2 (fields_any _ _)).mono ?_⟩
  rintro e W2 ⟨g, rfl, bs, f0, f1, f2, f3, f4, f5, f6, f7, f8, f9, f10, k2⟩
  replace K := Lib.hid (Keep.stays _ _ K.out k2.B)
  have HF := Lib.hid (Flds.of (a := a) k2 (fun k hk => K.out.cell (.tail _ (.tail _ (.head _))) (hl.out k hk).symm) ha)
  clear k2 hW1 hl
  generalize (fun x : Fin 11 => [f0, f1, f2, f3, f4, f5, f6, f7, f8, f9, f10].getD x.1 0) = gs at HF
  gi_wp2
  refine wpIn_rangeFunc_ownH (w0 := W2) rfl (by omega) (gf := 94) (lb := #[.pointer (some ⟨g, 0, none⟩)]) rfl trivial (enters_of Tryz.func94 (by kernel_rfl) rfl) (iter94_in Fence.wide 4 trivial rfl (by omega) HF.out) belowK_t (belowK_b (Nat.le_refl _)) (Below.refl _ _) (fun _ => rfl)
    (fun pre W => Below W2.heap.size W2 W) (fun _ _ _ => False) (ownFrom_below (Nat.le_refl _) (Nat.le_refl _)) (fun _ _ _ _ _ hs _ _ => hs) (Below.refl _ _)
    (fun x a' W => ∃ gb, W.heap[gb]? = some (.cells #[.string (nmF x), .slice (some ⟨gs x, 0, none⟩) (csF x) (csF x), .int .i64 (loF x), .int .i64 (hiF x)] 118) ∧ a' = { tmps := #[.agg (#[.int .i64 a0, .int .i64 a1, .int .i64 a2, .int .i64 a3, .int .i64 a4, .int .i64 a5, .int .i64 a6, .int .i64 a7, .int .i64 a8, .int .i64 a9, .int .i64 a10, .int .i64 a11, .int .i64 a12, .int .i64 a13, .int .i64 a14, .int .i64 a15, .int .i64 a16]), .pointer (some ⟨w.heap.size, 0, none⟩), .pointer (some ⟨w.heap.size + 1, 0, none⟩), .pointer (some ⟨w.heap.size + 1 + 1, 0, none⟩), .pointer (some ⟨gb, 0, none⟩), undef, undef, .func (.func 94) #[] #[.pointer (some ⟨g, 0, none⟩)], .agg #[.string (nmF x), .slice (some ⟨gs x, 0, none⟩) (csF x) (csF x), .int .i64 (loF x), .int .i64 (hiF x)], undef, undef, undef, undef, undef, undef, undef, undef, undef, undef, undef, undef, undef, undef, undef, undef, undef, undef, undef, undef, undef, undef, undef, undef], defers := [] }) ?own ?assign ?body ?done ?stop
  case own =>
    rintro x a' s W W' row ⟨gb, hg, ha⟩ hgr hr
    refine ⟨gb, ?_, ha⟩
    rw [← hg]
    refine hgr.block gb (Array.getElem?_eq_some_iff.1 hg).1 (fun e => ?_)
    obtain ⟨_, o, ho, hc⟩ := hr gb e.symm
    rw [hg] at ho
    cases ho
    cases hc
  case assign =>
    intro l pre x W K2 hi hK
    simp only [encF]
    gi_wp2
    exact hK _ _ (KeepsFrom.of_grownBy (World.grownBy_alloc _ _ none) (fun j e => by cases e)) ((Below.refl _ W).alloc hi.size _) (hi.alloc hi.size _) ⟨W.heap.size, World.alloc_heap_new _ _, rfl⟩
  case body =>
    rintro l pre x a' W hl hr hi ⟨gb, hg, rfl⟩ hN
    have hmix : Tryz.prog.follows .mixedOrders = true := by kernel_rfl
    have HX := Lib.hid (HF.out.below hi)
    have e0 := cell_of_cells (k := 1) hg rfl
    have HG := Lib.hid hg
    clear hg
    gi_wp2
    gi_loopg [12] 5 (fun gk p wr => ∃ j : Nat, gk + j = 5 ∧ j ≤ csF x ∧ p = .int .i64 (j : Int) ∧ Below W.heap.size W wr)
    case atStart => exact ⟨0, rfl, by omega, rfl, Below.refl _ _⟩
    case round =>
      obtain ⟨j, hg, hj, rfl, hb⟩ := hrel
      have hc4 := HX.out.hc x
      by_cases hj2 : j < csF x
      · have HY := Lib.hid (HX.out.below hb)
        have HG2 := Lib.hid ((hb.block gb (Array.getElem?_eq_some_iff.1 HG.out).1).trans HG.out)
        have c1 := HY.out.hp x j hj2
        have c2 := HY.out.hv x j hj2
        have ⟨r1, r2⟩ := HY.out.hr x j hj2
        have d2 := cell_of_cells (k := 2) HG2.out rfl
        have d3 := cell_of_cells (k := 3) HG2.out rfl
        generalize a (ksF x + j) = v at *
        generalize loF x = lo at *
        generalize hiF x = hi2 at *
        generalize csF x = cs at *
        have n1 : ¬ v < lo := by omega
        have n2 : ¬ hi2 < v := by omega
        gi_wp2
        refine (fun (fin : Hid ?Pend) => ?body) (Lib.hid ?pf)
        case body =>
          have hmix2 := hmix
          gi_region_with_o (fail)
          all_goals exact fin.out
        case pf =>
          gi_wp2
          gi_roundg (gk - 1)
          case rel => exact ⟨j + 1, by omega, by omega, rfl, hb.trans ((below_drew _).mono hb.size)⟩
          case measure => omega
      · gi_wp2
        exact ⟨KeepsFrom.of_grownBy (grown_of_below hb) (fun j e => by cases e), hb.mono hi.size, hi.trans (hb.mono hi.size)⟩
  case done =>
    rintro D ys W hD _ hi hK
    have hsz := K.out.B.size
    replace K := Lib.hid (Keep.stays _ _ K.out hi)
    have f2 := K.out.warm (.tail _ (.head _)) 0
    have c2 := K.out.cell (k := 0) (.tail _ (.head _)) rfl
    have f3 := K.out.warm (.head _) 0
    have c3 := K.out.cell (k := 0) (.head _) rfl
    gi_wp2
    have hK2 := ((KeepsOthers.setCell W ⟨w.heap.size + 1, 0, none⟩ (.string ⟨#[]⟩)).trans (KeepsOthers.setCell _ ⟨w.heap.size + 1 + 1, 0, none⟩ (.int .i64 0))).same D _ hK rfl
    have K3 := Lib.hid ((K.out.set_1 0 (.string ⟨#[]⟩)).set_0 0 (.int .i64 0))
    have r2 := cell_kept (K3.out.cell (k := 0) (.tail _ (.head _)) rfl) (grownBy_putObj' _ D (.deferred none)) (fun r e => by cases e; exact ⟨_, hK2, rfl⟩)
    have r3 := cell_kept (K3.out.cell (k := 0) (.head _) rfl) (grownBy_putObj' _ D (.deferred none)) (fun r e => by cases e; exact ⟨_, hK2, rfl⟩)
    refine ⟨by simp, .inl ⟨_, _, rfl, run_takeDeferred hK2, ?_⟩⟩
    refine ⟨.tuple #[.string ⟨#[]⟩, .int .i64 0], ?_, rfl, K3.out.B.trans (belowK_b (w := W2) hsz _ D _ _ hD hK2 rfl rfl)⟩
    simp [results, Tryz.f30, go_sem, r2, r3]
  case stop =>
    rintro D c pre W _ _ h _
    exact h.elim
end Go.Proofs.YtmidifgnpjlgcaaGreat
