/- The texts Od, Oe, Of, Rx, Og, Oh of the walk of the law and of all that it calls, in one file. No condition. -/
import Derived.Test.YtmidifgnpjlgcaaGreatY6
import Derived.SizedLaws
import Derived.ProofKit
import Derived.Deep.Slices
import Derived.Deep.Fields
import Derived.ChangeSame
/- The walks of Apply, Quad, less. -/
set_option linter.unusedVariables false
set_option linter.unusedSimpArgs false
namespace Go.Proofs.YtmidifgnpjlgcaaGreat
open Go.RowKit

variable {w0 w : World} {l l2 : List (Nat × Obj)}
set_option maxHeartbeats 4000000 in
set_option maxRecDepth 100000 in
theorem app90_any (ga gx : Nat) (v t : Value) (i n N M : Nat) (f : Nat → Nat → Int) (g : Nat → Int) (w : World) (ha : Cap w ga v) (hx : Cap w gx t) (h1 : Mv w v n n N f) (h2 : Lv w t n M g) (li : i < n) (hN : N + M + n ≤ 300000) :
    Calls Tryz.prog 90 #[.int .i64 i, .pointer (some ⟨ga, 0, none⟩), .pointer (some ⟨gx, 0, none⟩)] w (Told1 w (N + M + 1 + n) (sumTo (fun k => f i k * g k) n)) := by
  have K := Lib.hid (Keep.begin2 w (.cells #[.int .i64 i] 3) (Obj.num false (.slice none 0 0)))
  have HA := Lib.hid ha; have HX := Lib.hid hx; have H1 := Lib.hid h1; have H2 := Lib.hid h2
  obtain ⟨A, c, rfl, -⟩ := h1
  clear ha hx h2
  go_enter Tryz.func90, Tryz.ntmps90
  go_upto_region 1 with fail
  (refine out_keep K.out ?_; clear K; intro W K; replace K := Lib.hid K)
  have ca := kept_cell K.out HA.out.1 HA.out.2
  have HI : Hid (Cap W w.heap.size (.int .i64 i)) := Lib.hid ⟨K.out.lt (.tail _ (.head _)), K.out.cell (.tail _ (.head _)) rfl⟩
  go_wp2_with fail
  refine (sum91_any _ _ _ n N M (fun k => f i k) g W (fun k hk w' hb => two91_any ga w.heap.size gx _ t i k n n N M f g w' ((HA.out.below K.out.B).below hb) (HI.out.below hb) ((HX.out.below K.out.B).below hb) ((H1.out.below K.out.B).below hb) ((H2.out.below K.out.B).below hb) li hk) hN).mono ?_
  rintro e w2 ⟨q, A2, l2, c2, rfl, hN2, hb⟩
  replace K := Lib.hid (Keep.stays _ _ K.out hb)
  have HN := Lib.hid hN2
  clear hb hN2 ca HI
  obtain ⟨f1, c10, c11⟩ := K.out.nm (.head _)
  go_wp2_with fail
  refine ret_nm Tryz.results90 rfl ((K.out.putn_0 _ _).nb (.head _)) ?_
  exact ⟨q, A2, l2, c2, rfl, HN.out.put (K.out.nm (.head _)).2.1 _ _, (K.out.putn_0 q (.slice A2 l2 c2)).B⟩

set_option maxHeartbeats 4000000 in
set_option maxRecDepth 100000 in
theorem apply_any (v t : Value) (n N M : Nat) (f : Nat → Nat → Int) (g : Nat → Int) (w : World) (h1 : Mv w v n n N f) (h2 : Lv w t n M g) (hN : N + M + n ≤ 300000) :
    Calls Tryz.prog 61 #[v, t] w fun e w' => ∃ u, e = .returned u ∧ Lo w' w.heap.size u n (N + M + 1 + n) (fun i => sumTo (fun k => f i k * g k) n) ∧ Below w.heap.size w w' := by
  have K := Lib.hid (Keep.begin2 w (.cells #[v] 26) (.cells #[t] 27))
  have H1 := Lib.hid h1; have H2 := Lib.hid h2
  obtain ⟨A, c, rfl, -⟩ := h1
  obtain ⟨B, d, rfl, -⟩ := h2
  go_enter Tryz.func61, Tryz.ntmps61
  go_upto_region 1 with fail
  (refine out_keep K.out ?_; clear K; intro W K; replace K := Lib.hid K)
  have ca := K.out.cell (k := 0) (.tail _ (.head _)) rfl
  have HA : Hid (Cap W w.heap.size (.slice A n c)) := Lib.hid ⟨K.out.lt (.tail _ (.head _)), K.out.cell (.tail _ (.head _)) rfl⟩
  have HX : Hid (Cap W (w.heap.size + 1) (.slice B n d)) := Lib.hid ⟨K.out.lt (.head _), K.out.cell (.head _) rfl⟩
  go_wp2_with fail
  refine (list90_any _ _ n (N + M + 1 + n) (fun i => sumTo (fun k => f i k * g k) n) W (fun k hk w' hb => app90_any w.heap.size (w.heap.size + 1) _ _ k n N M f g w' (HA.out.below hb) (HX.out.below hb) ((H1.out.below K.out.B).below hb) ((H2.out.below K.out.B).below hb) hk hN) (by omega)).mono ?_
  rintro e w2 ⟨u, rfl, hL, hb⟩
  have KB := K.out.B
  replace K := Lib.hid (Keep.stays _ _ K.out hb)
  have HL := Lib.hid hL
  obtain ⟨g, L, rfl, hg, -⟩ := hL
  clear hb ca HA HX
  go_wp2_with fail
  go_ret
  obtain ⟨g', L', e', hg', hh⟩ := HL.out
  exact ⟨_, rfl, ⟨g', L', e', Nat.le_trans KB.size hg', hh⟩, K.out.B⟩

set_option maxHeartbeats 4000000 in
set_option maxRecDepth 100000 in
theorem quad_any (v t : Value) (n N M : Nat) (f : Nat → Nat → Int) (g' : Nat → Int) (w : World) (h1 : Mv w v n n N f) (h2 : Lv w t n M g') (hN : N + M + n + M + n + 1 ≤ 300000) :
    Calls Tryz.prog 22 #[v, t] w fun e w' => ∃ q A l c, e = .returned (.agg #[.bool q, .slice A l c]) ∧ Nz w' q (.slice A l c) (sumTo (fun i => g' i * sumTo (fun k => f i k * g' k) n) n) (M + (N + M + 1 + n) + 1 + n) ∧ Below w.heap.size w w' := by
  have K := Lib.hid (Keep.begin2 w (.cells #[t] 27) (Obj.num false (.slice none 0 0)))
  have H1 := Lib.hid h1; have H2 := Lib.hid h2
  obtain ⟨A, c, rfl, -⟩ := h1
  obtain ⟨B, d, rfl, -⟩ := h2
  go_enter Tryz.func22, Tryz.ntmps22
  go_upto_region 1 with fail
  (refine out_keep K.out ?_; clear K; intro W K; replace K := Lib.hid K)
  have ca := K.out.cell (k := 0) (.tail _ (.head _)) rfl
  go_wp2_with fail
  refine (apply_any _ _ n N M f g' W (H1.out.below K.out.B) (H2.out.below K.out.B) (by omega)).mono ?_
  rintro e w2 ⟨u, rfl, hL, hb⟩
  replace K := Lib.hid (Keep.stays _ _ K.out hb)
  have HL := Lib.hid hL
  obtain ⟨g, L, rfl, hg, -⟩ := hL
  clear hb ca
  go_upto_region 2 with fail
  replace HL := Lib.hid (HL.out.below (below_one _ (.cells #[.slice (some ⟨g, 0, none⟩) n n] 27)))
  replace K := Lib.hid (K.out.alloc (.cells #[.slice (some ⟨g, 0, none⟩) n n] 27))
  generalize w2.heap.size = g5 at *
  refine out_with (B := fun w2 => Lo w2 W.heap.size (Value.slice (some { block := g, off := 0 }) n n) n (N + M + 1 + n) (fun i => sumTo (fun k => f i k * g' k) n)) K.out HL.out ?_
  clear K HL w2
  intro W2 K HL
  replace K := Lib.hid K
  replace HL := Lib.hid HL
  have HX : Hid (Cap W2 w.heap.size (.slice B n d)) := Lib.hid ⟨K.out.lt (.tail _ (.tail _ (.head _))), K.out.cell (.tail _ (.tail _ (.head _))) rfl⟩
  have HY : Hid (Cap W2 g5 (.slice (some ⟨g, 0, none⟩) n n)) := Lib.hid ⟨K.out.lt (.head _), K.out.cell (.head _) rfl⟩
  go_wp2_with fail
  refine (sum63_any _ _ n M (N + M + 1 + n) g' (fun i => sumTo (fun k => f i k * g' k) n) W2 (fun k hk w' hb => two63_any w.heap.size g5 _ _ k n M _ g' (fun i => sumTo (fun k => f i k * g' k) n) w' (HX.out.below hb) (HY.out.below hb) ((H2.out.below K.out.B).below hb) (HL.out.lv.below hb) hk) (by omega)).mono ?_
  rintro e w3 ⟨q, A2, l2, c2, rfl, hN2, hb⟩
  replace K := Lib.hid (Keep.stays _ _ K.out hb).rest
  have HN := Lib.hid hN2
  clear hb hN2 HX HY HL
  obtain ⟨f1, c10, c11⟩ := K.out.nm (.head _)
  go_wp2_with fail
  refine ret_nm Tryz.results22 rfl ((K.out.putn_0 _ _).nb (.head _)) ?_
  exact ⟨q, A2, l2, c2, rfl, HN.out.put (K.out.nm (.head _)).2.1 _ _, (K.out.putn_0 q (.slice A2 l2 c2)).B⟩

set_option maxHeartbeats 4000000 in
set_option maxRecDepth 100000 in
theorem qless_any (v t : Value) (n N M : Nat) (f g : Nat → Int) (w : World) (h1 : Lv w v n N f) (h2 : Lv w t n M g) (hN : N + M + n ≤ 300000) :
    Calls Tryz.prog 83 #[v, t] w fun e w' => ∃ u, e = .returned u ∧ Lo w' w.heap.size u n (N + M + 1) (fun j => f j - g j) ∧ Below w.heap.size w w' := by
  obtain ⟨A, c, rfl, ha0, ha⟩ := h1
  obtain ⟨B, d, rfl, hb0, hb⟩ := h2
  have K := Lib.hid (Keep.begin1 w (Obj.lst (List.replicate n Nm.zero)))
  have hmk := mk_lst n (by omega) n rfl
  have HA := Lib.hid ha; have HB := Lib.hid hb
  clear ha hb ha0 hb0
  go_enter Tryz.func83, Tryz.ntmps83
  go_wp2_with fail
  go_loopg [12] n (fun gk iv wr => ∃ (i : Nat) (L : List Nm), gk + i = n ∧ iv = .int .i64 (i : Int) ∧ L.length = n ∧ Els wr L (N + M + 1) (upto i (fun j => f j - g j)) ∧ Keep w [(w.heap.size, Obj.lst L)] wr)
  case atStart => exact ⟨0, _, by omega, rfl, by simp, (Els.zero _ _ _).more (Nat.le_refl _) (fun k _ => upto_zero _ k), K.out⟩
  case round =>
    clear K hmk
    obtain ⟨i, L, hgi, rfl, hl, he, k'⟩ := hrel
    have K := Lib.hid k'
    have HL := Lib.hid hl
    have HE := Lib.hid he
    clear k' hl he
    by_cases hi : i < n
    · obtain ⟨b, n1, B1, l1, d1, rfl, hlt1, x0, x1, hn1⟩ := HA.out i hi
      obtain ⟨b2, n2, B2, l2, d2, rfl, hlt2, y0, y1, hn2⟩ := HB.out i hi
      have X0 := Keep.far K hlt1 x0
      have X1 := Keep.far K hlt1 x1
      have Y0 := Keep.far K hlt2 y0
      have Y1 := Keep.far K hlt2 y1
      have H1 := Lib.hid hn1; have H2 := Lib.hid hn2
      clear x0 x1 y0 y1 hn1 hn2
      go_upto_region 5 with fail
      (refine region_ord _ 11 (by kernel_rfl) (by kernel_rfl) K.out.drew ?_; clear K; intro W K hbw; replace K := Lib.hid K)
      replace HE := Lib.hid (HE.out.below hbw)
      clear hbw
      (refine Ord.take' 0 rfl (by kernel_rfl) (fun _ _ _ _ h => h) K.out (by rfl) ?_; apply Exists.intro; refine ⟨fun p => ?_, ?_⟩; (focus (go_simp; (try (with_reducible rfl)); done)); (try simp only [Act.put, List.setIfInBounds_toArray, List.set_cons_zero, List.set_cons_succ]))
      (refine Ord.take' 1 rfl (by kernel_rfl) (fun _ _ _ _ h => h) K.out (by rfl) ?_; apply Exists.intro; refine ⟨fun p => ?_, ?_⟩; (focus (go_simp; (try (with_reducible rfl)); done)); (try simp only [Act.put, List.setIfInBounds_toArray, List.set_cons_zero, List.set_cons_succ]))
      (refine Ord.take' 2 rfl (by kernel_rfl) (fun _ _ _ _ h => h) K.out (by rfl) ?_; apply Exists.intro; refine ⟨fun p => ?_, ?_⟩; (focus (go_simp; (try (with_reducible rfl)); done)); (try simp only [Act.put, List.setIfInBounds_toArray, List.set_cons_zero, List.set_cons_succ]))
      (refine Ord.take' 3 rfl (by kernel_rfl) (fun _ _ _ _ h => h) K.out (by rfl) ?_; apply Exists.intro; refine ⟨fun p => ?_, ?_⟩; (focus (go_simp; (try (with_reducible rfl)); done)); (try simp only [Act.put, List.setIfInBounds_toArray, List.set_cons_zero, List.set_cons_succ]))
      (refine Ord.take' 4 rfl (by kernel_rfl) (fun _ _ _ _ h => h) K.out (by rfl) ?_; apply Exists.intro; refine ⟨fun p => ?_, ?_⟩; (focus (go_simp; (try (with_reducible rfl)); done)); (try simp only [Act.put, List.setIfInBounds_toArray, List.set_cons_zero, List.set_cons_succ]))
      (refine Ord.take' 5 rfl (by kernel_rfl) (fun _ _ _ _ h => h) K.out (by rfl) ?_; apply Exists.intro; refine ⟨fun p => ?_, ?_⟩; (focus (go_simp; (try (with_reducible rfl)); done)); (try simp only [Act.put, List.setIfInBounds_toArray, List.set_cons_zero, List.set_cons_succ]))
      (refine Ord.take' 6 rfl (by kernel_rfl) (fun _ _ _ _ h => h) K.out (by rfl) ?_; apply Exists.intro; refine ⟨fun p => ?_, ?_⟩; (focus (go_simp; (try (with_reducible rfl)); done)); (try simp only [Act.put, List.setIfInBounds_toArray, List.set_cons_zero, List.set_cons_succ]))
      (refine Ord.take' 7 rfl (by kernel_rfl) (fun _ _ _ _ h => h) K.out (by rfl) ?_; apply Exists.intro; refine ⟨fun p => ?_, ?_⟩; (focus (go_simp; (try (with_reducible rfl)); done)); (try simp only [Act.put, List.setIfInBounds_toArray, List.set_cons_zero, List.set_cons_succ]))
      (refine Ord.take' 8 rfl (by kernel_rfl) (fun _ _ _ _ h => h) K.out (by rfl) ?_; apply Exists.intro; refine ⟨fun p => ?_, ?_⟩; (focus (go_simp; (try (with_reducible rfl)); done)); (try simp only [Act.put, List.setIfInBounds_toArray, List.set_cons_zero, List.set_cons_succ]))
      (refine Ord.take' 9 rfl (by kernel_rfl) (fun _ _ _ _ h => h) K.out (by rfl) ?_; apply Exists.intro; refine ⟨fun p => ?_, ?_⟩; (focus (go_simp; (try (with_reducible rfl)); done)); (try simp only [Act.put, List.setIfInBounds_toArray, List.set_cons_zero, List.set_cons_succ]))
      clear X0 X1 Y0 Y1
      (refine Ord.call 10 (g := 59) (args := (#[.agg #[.bool n1, .slice B1 l1 d1], .agg #[.bool n2, .slice B2 l2 d2]])) rfl (by kernel_rfl) (by rfl) (by (go_simp; try (with_reducible rfl))) ?_)
      refine (sub_nz (H1.out.below K.out.B) (H2.out.below K.out.B) (by omega) (by omega)).mono ?_
      rintro e w3 ⟨q3, A3, l3, c3, rfl, hN3, hb⟩
      (refine ⟨_, rfl, Keep.stays _ _ K.out hb, ?_⟩; replace K := Lib.hid (Keep.stays _ _ K.out hb); simp only [Act.put, List.setIfInBounds_toArray, List.set_cons_zero, List.set_cons_succ])
      replace HE := Lib.hid (HE.out.below hb)
      have H3 := Lib.hid hN3
      clear hb hN3
      (refine Ord.done (by kernel_rfl) ?_; simp only [List.drop_succ_cons, List.drop_zero, Act.put, List.setIfInBounds_toArray, List.set_cons_zero, List.set_cons_succ])
      obtain ⟨c0, c1⟩ := K.out.lstc (.head _) i (by rw [HL.out]; exact hi)
      have f1 := K.out.lstw (.head _)
      go_wp2_with fail
      clear c0 c1 f1
      go_roundg (gk - 1)
      case measure => omega
      case rel =>
        have c00 := (K.out.lstc (.head _) 0 (by rw [HL.out]; omega)).1
        exact ⟨i + 1, L.set i ⟨q3, A3, l3, c3⟩, by omega, congrArg (Value.int .i64) (by omega), by rw [List.length_set]; exact HL.out, (HE.out.putAt c00 _ _).fill _ ((H3.out.putAt c00 _ _).more (by omega)), K.out.setl_0 i ⟨q3, A3, l3, c3⟩⟩
    · replace HE := Lib.hid (HE.out.more (Nat.le_refl _) (fun k hk => upto_all _ (show k < i by have := HL.out; omega)))
      go_wp2_with fail
      go_ret
      exact ⟨_, rfl, ⟨w.heap.size, L, rfl, Nat.le_refl _, K.out.box _ (.head _), HL.out, HE.out⟩, K.out.B⟩
end Go.Proofs.YtmidifgnpjlgcaaGreat
/- Lists of numbers that grow; the walk of each of numbers. -/
set_option linter.unusedVariables false
set_option linter.unusedSimpArgs false
namespace Go.Proofs.YtmidifgnpjlgcaaGreat
open Go.RowKit

theorem cellOf {w : World} {g k : Nat} {cur : Array Value} {t : TypeId} (hh : w.heap[g]? = some (.cells cur t)) : w.cell? ⟨g, k, none⟩ = cur[k]? := by simp [World.cell?, hh]

/-- What is elsewhere stays. -/
def Turn (o : Option Nat) (w w' : World) : Prop := w.heap.size ≤ w'.heap.size ∧ ∀ k, k < w.heap.size → o ≠ some k → w'.heap[k]? = w.heap[k]?
theorem Dg.turn {w w' : World} {o : Option Nat} {s : Value} {ds : List Int} (h : Dg w s ds) (hT : Turn o w w') (hO : ∀ k, o = some k → ∀ z, w.cell? ⟨k, 0, none⟩ ≠ some (.int .u32 z)) : Dg w' s ds := by
  rcases h with h | ⟨b, c, hs, hc, hlt, hcell⟩
  · exact .inl h
  · by_cases e : o = some b
    · by_cases h0 : ds.length = 0
      · exact .inr ⟨b, c, hs, hc, Nat.lt_of_lt_of_le hlt hT.1, fun j hj => by omega⟩
      · exact absurd (hcell 0 (by omega)) (hO b e _)
    · exact .inr ⟨b, c, hs, hc, Nat.lt_of_lt_of_le hlt hT.1, fun j hj => by rw [cell_of_heap (hT.2 b hlt e)]; exact hcell j hj⟩
theorem Nz.turn {w w' : World} {o : Option Nat} {n : Bool} {s : Value} {z : Int} {N : Nat} (h : Nz w n s z N) (hT : Turn o w w') (hO : ∀ k, o = some k → ∀ z, w.cell? ⟨k, 0, none⟩ ≠ some (.int .u32 z)) : Nz w' n s z N := by
  obtain ⟨ds, h1, h2, h3⟩ := h
  exact ⟨ds, ⟨h1.1.turn hT hO, h1.2⟩, h2, h3⟩
theorem Els.turn {w w' : World} {L : List Nm} {N : Nat} {f : Nat → Int} (h : Els w L N f) (hT : ∀ n s z N, Nz w n s z N → Nz w' n s z N) : Els w' L N f := fun j hj => hT _ _ _ _ (h j hj)

/-- A list of the call's own that grows. -/
def Lwn (w : World) (base : Nat) (v : Value) (L : List Nm) : Prop := w.ownsRow base 30 2 v L.length (flat L) ∧ ∀ k, v.ownBlock = some k → ∀ z, w.cell? ⟨k, 0, none⟩ ≠ some (.int .u32 z)
theorem Lwn.nil (w : World) (base : Nat) : Lwn w base (.slice none 0 0) [] := ⟨⟨rfl, .inl ⟨rfl, rfl⟩⟩, fun k h => by cases h⟩
theorem Lwn.base {w : World} {base : Nat} {v : Value} {L : List Nm} (h : Lwn w base v L) (k : Nat) (hk : v.ownBlock = some k) : base ≤ k := by
  rcases h.1.2 with ⟨rfl, _⟩ | ⟨g, cap, cur, rfl, hb, _⟩
  · simp [Value.ownBlock] at hk
  · have : g = k := by simpa [Value.ownBlock] using hk
    omega
theorem Lwn.lt {w : World} {base : Nat} {v : Value} {L : List Nm} (h : Lwn w base v L) (k : Nat) (hk : v.ownBlock = some k) : k < w.heap.size := by
  rcases h.1.2 with ⟨rfl, _⟩ | ⟨g, cap, cur, rfl, hb, hh, _⟩
  · simp [Value.ownBlock] at hk
  · have : g = k := by simpa [Value.ownBlock] using hk
    rw [← this]
    exact (Array.getElem?_eq_some_iff.1 hh).1
theorem Lwn.below {w w1 : World} {base : Nat} {v : Value} {L : List Nm} (h : Lwn w base v L) (hb : Below w.heap.size w w1) : Lwn w1 base v L :=
  ⟨World.ownsRow.kept h.1 (row := none) ⟨hb.os, hb.tape, hb.output, hb.size, fun i hi _ => hb.block i hi⟩ (by cases v.ownBlock <;> simp), fun k hk z => by rw [hb.cell (p := ⟨k, 0, none⟩) (h.lt k hk)]; exact h.2 k hk z⟩
theorem Lwn.sl {w : World} {base : Nat} {v : Value} {L : List Nm} (h : Lwn w base v L) : ∃ A c, v = .slice A L.length c := by
  rcases h.1.2 with ⟨rfl, h0⟩ | ⟨g, cap, cur, rfl, _⟩
  · exact ⟨none, 0, by rw [h0]⟩
  · exact ⟨_, cap, rfl⟩
theorem Lwn.lv {w : World} {base : Nat} {v : Value} {L : List Nm} {N : Nat} {f : Nat → Int} (h : Lwn w base v L) (he : Els w L N f) : Lv w v L.length N f := by
  rcases h.1.2 with ⟨rfl, h0⟩ | ⟨g, cap, cur, rfl, hb, hh, hn, _, hcur, htake⟩
  · exact ⟨none, 0, by rw [h0], fun _ => rfl, fun j hj => by omega⟩
  · refine ⟨_, cap, rfl, (fun h => by cases h), fun j hj => ?_⟩
    have h1 := he j hj
    have hc : ∀ k, k < L.length * 2 → w.cell? ⟨g, k, none⟩ = (flat L)[k]? := by
      intro k hk
      rw [cellOf hh, ← htake, List.getElem?_take, if_pos hk, Array.getElem?_toList]
    exact ⟨g, _, _, _, _, rfl, (Array.getElem?_eq_some_iff.1 hh).1, (hc _ (by omega)).trans (flat_get0 L j hj), (hc _ (by omega)).trans (flat_get1 L j hj), h1⟩

theorem mk0_lst (N : Nat) (hN : N ≤ 1000000) (x : Int) (hx : x = (N : Int)) (w : World) : (Instr.makeSlice 27 (.int .i64 0) (.int .i64 x)).run Tryz.prog w = .ok (.slice (some ⟨w.heap.size, 0, none⟩) 0 N) (w.alloc (Obj.lst (List.replicate N Nm.zero))) := by
  have a := mk_lst N hN x hx w
  obtain ⟨i0, hi, hx0⟩ := Option.map_eq_some_iff.1 info30
  simp only [Prod.mk.injEq] at hx0
  obtain ⟨hz0, hz1, hz2⟩ := hx0
  subst hx
  rw [run_make (P := Tryz.prog) w 27 30 i0 (.agg #[.bool false, .slice none 0 0]) Tryz.underlying27 hi hz0 .i64 .i64 (N : Int) (N : Int) (by omega) (Int.le_refl _) (by rw [hz2]; omega) (by omega)] at a
  rw [run_make (P := Tryz.prog) w 27 30 i0 (.agg #[.bool false, .slice none 0 0]) Tryz.underlying27 hi hz0 .i64 .i64 0 (N : Int) (by omega) (by omega) (by rw [hz2]; omega) (by omega)]
  simp only [Result.ok.injEq] at a
  rw [a.2, Int.toNat_natCast, Int.toNat_zero]
theorem Lwn.mk0 (w : World) (N : Nat) (hN : N ≤ 1000000) : Lwn (w.alloc (Obj.lst (List.replicate N Nm.zero))) w.heap.size (.slice (some ⟨w.heap.size, 0, none⟩) 0 N) [] := by
  have hh : (w.alloc (Obj.lst (List.replicate N Nm.zero))).heap[w.heap.size]? = some (Obj.lst (List.replicate N Nm.zero)) := by
    show (w.heap.push _)[w.heap.size]? = _; exact Array.getElem?_push_size
  refine ⟨⟨rfl, .inr ⟨w.heap.size, N, _, rfl, Nat.le_refl _, hh, Nat.zero_le _, by unfold maxLen; omega, by simp [flat_length], rfl⟩⟩, fun k hk z => ?_⟩
  have : w.heap.size = k := by simpa [Value.ownBlock] using hk
  subst this
  rw [cellOf hh, List.getElem?_toArray]
  cases N with
  | zero => simp [flat]
  | succ n => simp [List.replicate_succ, flat]

/-- A number more. -/
theorem app1l {ops : Array Oper} {rest : List Oper} {o : Oper} {a : Act} {Q : Exit → Act → World → Prop} {w : World} (hgd : o.guard = none) (s x : Operand)
    (ho : o.op = .call { callee := .builtin .append, args := #[s, x], argTypes := #[27, 27] }) (base : Nat) (v : Value) (L : List Nm) (q : Bool) (A : Option Addr) (ll lc : Nat) (hs : a.eval s = v) (hown : Lwn w base v L) (hx : a.eval x = .slice (some ⟨w.heap.size, 0, none⟩) 1 1)
    (hlen : L.length ≤ 1000000) (hbase : base ≤ w.heap.size)
    (h : ∀ v' w', Lwn w' base v' (L ++ [⟨q, A, ll, lc⟩]) → (∀ n s z N, Nz w n s z N → Nz w' n s z N) → (∀ w0 l, Keep w0 l w → (∀ p ∈ l, p.1 < base) → w0.heap.size ≤ base → Keep w0 l w') → wpList Tryz.prog ops Q rest (a.put o.dst v') w') :
    wpList Tryz.prog ops Q (o :: rest) a (w.alloc (.cells #[.bool q, .slice A ll lc] 30)) := by
  obtain ⟨i0, hi, hx0⟩ := Option.map_eq_some_iff.1 info30
  simp only [Prod.mk.injEq] at hx0
  obtain ⟨hz0, hz1, hz2⟩ := hx0
  have hnew : (w.alloc (.cells #[.bool q, .slice A ll lc] 30)).heap[w.heap.size]? = some (.cells #[.bool q, .slice A ll lc] 30) := by
    show (w.heap.push _)[w.heap.size]? = _; exact Array.getElem?_push_size
  have hown2 := hown.below (below_one w (.cells #[.bool q, .slice A ll lc] 30))
  refine wpList_append_own _ hgd s x 27 ho base 30 i0 (.agg #[.bool false, .slice none 0 0]) 2 32 Tryz.underlying27 hi hz0 hz1 hz2 (by rfl) (by decide) v L.length _ hs hown2.1 ⟨w.heap.size, 0, none⟩ 1 1 [.bool q, .slice A ll lc] hx rfl ?_ ?_ (by unfold maxLen; omega) (by omega) (by simp; omega) ?_
  · intro j u hu
    have e : ((⟨w.heap.size, 0, none⟩ : Addr).add j) = ⟨w.heap.size, j, none⟩ := by unfold Addr.add; split <;> simp_all
    rw [e]
    rw [cellOf hnew, List.getElem?_toArray]
    exact hu
  · intro u hu
    simp only [List.mem_cons, List.mem_singleton, List.not_mem_nil, or_false] at hu
    rcases hu with rfl | rfl <;> rfl
  · intro v' w' hown' hgrow _
    have e : flat (L ++ [⟨q, A, ll, lc⟩]) = flat L ++ [.bool q, .slice A ll lc] := flat_app _ _
    have hT : Turn v.ownBlock w w' := by
      have hb := below_one w (.cells #[.bool q, .slice A ll lc] 30)
      refine ⟨Nat.le_trans hb.size hgrow.size, fun k hk hne => ?_⟩
      rw [hgrow.block k (Nat.lt_of_lt_of_le hk hb.size) (fun e => hne e.symm), hb.block k hk]
    refine h v' w' ⟨?_, fun k hk z => ?_⟩ (fun n s z N hN => hN.turn hT hown.2) fun w0 l K hl h0 => ?_
    · rw [e, List.length_append]
      exact hown'
    · rcases hown'.2 with ⟨rfl, _⟩ | ⟨g, cap, cur, rfl, hb, hh, hn, _, hcur, htake⟩
      · simp [Value.ownBlock] at hk
      · have hgk : g = k := by simpa [Value.ownBlock] using hk
        subst hgk
        have htake2 : List.take ((L.length + 1) * 2) cur.toList = flat (L ++ [⟨q, A, ll, lc⟩]) := by rw [e]; exact htake
        have hc : w'.cell? ⟨g, 0, none⟩ = (flat L ++ [.bool q, .slice A ll lc])[0]? := by
          rw [cellOf hh, ← e, ← htake2, List.getElem?_take, if_pos (by omega), Array.getElem?_toList]
        rw [hc]
        cases L with
        | nil => simp [flat]
        | cons y L => simp [flat]
    · have Ka := (K.alloc (.cells #[.bool q, .slice A ll lc] 30)).rest
      have hg : ∀ k, k < base → w'.heap[k]? = (w.alloc (.cells #[.bool q, .slice A ll lc] 30)).heap[k]? := fun k hk => hgrow.block k (by simp; omega) (fun e => by have := hown.base k e.symm; omega)
      refine ⟨fun p hp => ?_, Ka.own, Ka.one, ⟨hgrow.os.trans Ka.B.os, hgrow.tape.trans Ka.B.tape, hgrow.output.trans Ka.B.output, Nat.le_trans Ka.B.size hgrow.size, fun k hk => (hg k (by omega)).trans (Ka.B.block k hk)⟩⟩
      rw [hg p.1 (hl p hp)]
      exact Ka.box p hp

set_option maxHeartbeats 4000000 in
set_option maxRecDepth 100000 in
theorem each45_any (s : Value) (xs : List Int) (w : World) (h : Iv w s xs) (l : xs.length ≤ 1000000) :
    Calls Tryz.prog 45 #[s, .func (.func 19) #[] #[]] w fun e w' => ∃ v, e = .returned v ∧ Lv w' v xs.length 2 (fun j => xs.getD j 0) ∧ Below w.heap.size w w' := by
  obtain ⟨A, c, rfl, -, ha⟩ := h
  have HA := Lib.hid ha
  have K := Lib.hid (Keep.start w)
  have hmk := mk0_lst xs.length l xs.length rfl
  have HW := Lib.hid (Lwn.mk0 w xs.length l)
  have HB := Lib.hid (below_one w (Obj.lst (List.replicate xs.length Nm.zero)))
  clear ha
  go_enter Tryz.func45, Tryz.ntmps45
  go_wp2_with fail
  go_loopg [5, 13] xs.length (fun gk ov iv wr => ∃ (i : Nat) (L : List Nm), gk + i = xs.length ∧ iv = .int .i64 (i : Int) ∧ L.length = i ∧ Lwn wr w.heap.size ov L ∧ Els wr L 2 (fun j => xs.getD j 0) ∧ Below w.heap.size w wr)
  case atStart => exact ⟨0, [], by omega, rfl, rfl, HW.out, Els.nil _ _ _, HB.out⟩
  case round =>
    clear K hmk HW HB
    obtain ⟨i, L, hgi, rfl, hl, hown, he, hb⟩ := hrel
    have HL := Lib.hid hl; have HO := Lib.hid hown; have HE := Lib.hid he
    have K := Lib.hid (show Keep w [] wr from ⟨fun _ h => (by cases h), fun _ h => (by cases h), List.nodup_nil, hb⟩)
    clear hl hown he hb
    by_cases hi : i < xs.length
    · obtain ⟨hx64, p, rfl, hp, hpc⟩ := HA.out i hi
      have X : wr.cell? (p.add i) = some (.int .i64 (xs.getD i 0)) := by rw [K.out.B.cell (p := p.add i) (by rw [add_block]; exact hp)]; exact hpc
      clear hp hpc
      generalize hxx : xs.getD i 0 = x at X hx64
      have HX := Lib.hid hxx
      clear hxx
      go_wp2_with fail
      refine (int_nz x _ hx64.1 hx64.2).mono ?_
      rintro e w2 ⟨q, A2, l2, c2, rfl, hN, hb⟩
      replace K := Lib.hid (Keep.stays _ _ K.out hb)
      replace HO := Lib.hid (HO.out.below hb)
      replace HE := Lib.hid (HE.out.below hb)
      have HN := Lib.hid hN
      clear hb hN X hx64
      go_wp2_with (at_builtin; refine app1l rfl (.tmp 17) (.tmp 21) rfl w.heap.size u5 L q A2 l2 c2 rfl HO.out rfl (by rw [HL.out]; omega) K.out.B.size ?_; intro v' w' hown' hnz' hkeep')
      have Y := Lib.hid (And.intro hown' (And.intro (hkeep' _ _ K.out (by simp) (Nat.le_refl _)) (And.intro (HE.out.turn hnz') (hnz' _ _ _ _ HN.out))))
      have HYL : Hid ((L ++ [(⟨q, A2, l2, c2⟩ : Nm)]).length = i + 1) := by show _ = _; rw [List.length_append, HL.out]; rfl
      clear hown' hkeep' hnz' HO K HE HN
      go_roundg (gk - 1)
      case measure => omega
      case rel =>
        exact ⟨i + 1, _, by omega, congrArg (Value.int .i64) (by omega), HYL.out, Y.out.1, Y.out.2.2.1.snoc _ (Y.out.2.2.2.val (by show x = xs.getD L.length 0; rw [HL.out]; exact HX.out.symm)), Y.out.2.1.B⟩
    · have HG := Lib.hid (HO.out.lv HE.out)
      have HI : Hid (L.length = xs.length) := by have := HL.out; show _ = _; omega
      rw [HI.out] at HG
      go_wp2_with fail
      go_ret
      exact ⟨_, rfl, HG.out, K.out.B⟩
end Go.Proofs.YtmidifgnpjlgcaaGreat
/- Rows as they lie; the walks of each of rows, and of a quadratic function's value. -/
set_option linter.unusedVariables false
set_option linter.unusedSimpArgs false
namespace Go.Proofs.YtmidifgnpjlgcaaGreat
open Go.RowKit

def Rw.zero : Rw := ⟨[], 0, 0, 0⟩
/-- Rows as they lie. -/
def Rws (w : World) (v : Value) (rs : List Rw) : Prop :=
  ∃ A c, v = .slice A rs.length c ∧ (A = none → c = 0) ∧ ∀ j, j < rs.length → ∃ b off B d, A = some ⟨b, off, none⟩ ∧ b < w.heap.size ∧ Iv w (.slice B (rs.getD j Rw.zero).coef.length d) (rs.getD j Rw.zero).coef ∧
    w.cell? ⟨b, off + j * 4, none⟩ = some (.slice B (rs.getD j Rw.zero).coef.length d) ∧ w.cell? ⟨b, off + j * 4 + 1, none⟩ = some (.int .i64 (rs.getD j Rw.zero).z) ∧ w.cell? ⟨b, off + j * 4 + 2, none⟩ = some (.int .i64 (rs.getD j Rw.zero).knee) ∧ w.cell? ⟨b, off + j * 4 + 3, none⟩ = some (.int .i64 (rs.getD j Rw.zero).weight)
theorem Rws.below {w w' : World} {v : Value} {rs : List Rw} (h : Rws w v rs) (hb : Below w.heap.size w w') : Rws w' v rs := by
  obtain ⟨A, c, hv, h0, h⟩ := h
  refine ⟨A, c, hv, h0, fun j hj => ?_⟩
  obtain ⟨b, off, B, d, hA, hlt, hI, c0, c1, c2, c3⟩ := h j hj
  exact ⟨b, off, B, d, hA, Nat.lt_of_lt_of_le hlt hb.size, hI.below hb, by rw [hb.cell (p := ⟨b, _, none⟩) hlt]; exact c0, by rw [hb.cell (p := ⟨b, _, none⟩) hlt]; exact c1, by rw [hb.cell (p := ⟨b, _, none⟩) hlt]; exact c2, by rw [hb.cell (p := ⟨b, _, none⟩) hlt]; exact c3⟩

/-- A state: so many numbers of a million at most. -/
def Sta (w : World) (t : Value) (xs : List Int) (n : Nat) : Prop := Iv w t xs ∧ xs.length = n ∧ ∀ j, j < n → -1000000 ≤ xs.getD j 0 ∧ xs.getD j 0 ≤ 1000000
theorem Sta.below {w w' : World} {t : Value} {xs : List Int} {n : Nat} (h : Sta w t xs n) (hb : Below w.heap.size w w') : Sta w' t xs n := ⟨h.1.below hb, h.2⟩

theorem mk0_qow (N : Nat) (hN : N ≤ 1000000) (x : Int) (hx : x = (N : Int)) (w : World) : (Instr.makeSlice 23 (.int .i64 0) (.int .i64 x)).run Tryz.prog w = .ok (.slice (some ⟨w.heap.size, 0, none⟩) 0 N) (w.alloc (Obj.qow (List.replicate N 0))) := by
  have a := mk_qow N hN x hx w
  obtain ⟨i0, hi, hx0⟩ := Option.map_eq_some_iff.1 info2
  simp only [Prod.mk.injEq] at hx0
  obtain ⟨hz0, hz1, hz2⟩ := hx0
  subst hx
  rw [run_make (P := Tryz.prog) w 23 2 i0 (.int .i64 0) Tryz.underlying23 hi hz0 .i64 .i64 (N : Int) (N : Int) (by omega) (Int.le_refl _) (by rw [hz2]; omega) (by omega)] at a
  rw [run_make (P := Tryz.prog) w 23 2 i0 (.int .i64 0) Tryz.underlying23 hi hz0 .i64 .i64 0 (N : Int) (by omega) (by omega) (by rw [hz2]; omega) (by omega)]
  simp only [Result.ok.injEq] at a
  rw [a.2, Int.toNat_natCast, Int.toNat_zero]
theorem Qwn.mk0 (w : World) (N : Nat) (hN : N ≤ 1000000) : Qwn (w.alloc (Obj.qow (List.replicate N 0))) w.heap.size (.slice (some ⟨w.heap.size, 0, none⟩) 0 N) [] := by
  have hh : (w.alloc (Obj.qow (List.replicate N 0))).heap[w.heap.size]? = some (Obj.qow (List.replicate N 0)) := by
    show (w.heap.push _)[w.heap.size]? = _; exact Array.getElem?_push_size
  exact ⟨rfl, .inr ⟨w.heap.size, N, _, rfl, Nat.le_refl _, hh, Nat.zero_le _, by unfold maxLen; omega, by simp, rfl⟩⟩
theorem Keep.of {w wr : World} (hb : Below w.heap.size w wr) : Keep w [] wr := ⟨fun _ h => (by cases h), fun _ h => (by cases h), List.nodup_nil, hb⟩
theorem mem_of_lt {rs : List Rw} {j : Nat} (h : j < rs.length) : rs.getD j Rw.zero ∈ rs := by
  rw [List.getD_eq_getElem?_getD, List.getElem?_eq_getElem h]
  exact List.getElem_mem h

variable {w0 w : World} {l l2 : List (Nat × Obj)}
set_option maxHeartbeats 4000000 in
set_option maxRecDepth 100000 in
theorem val41_any (v : Value) (r : Rw) (g : Nat) (t : Value) (xs : List Int) (n : Nat) (w : World) (h : Iv w v r.coef) (hr : RwOk r n) (hc : Cap w g t) (hx : Sta w t xs n) :
    Calls Tryz.prog 41 #[.agg #[v, .int .i64 r.z, .int .i64 r.knee, .int .i64 r.weight], .pointer (some ⟨g, 0, none⟩)] w fun e w' => e = .returned (.int .i64 (rcost r xs)) ∧ Below w.heap.size w w' := by
  have K := Lib.hid (Keep.begin1 w (Obj.rw v r))
  have HI := Lib.hid h; have HX := Lib.hid hx; have HR := Lib.hid hr; have HC := Lib.hid hc
  obtain ⟨A, c, rfl, -⟩ := h
  obtain ⟨⟨B, d, rfl, -⟩, -⟩ := hx
  clear hc hr
  go_enter Tryz.func41, Tryz.ntmps41
  go_upto_region 1 with fail
  (refine out_keep K.out ?_; clear K; intro W K; replace K := Lib.hid K)
  (have c0 := K.out.cell (k := 0) (.head _) rfl; have c1 := K.out.cell (k := 1) (.head _) rfl; have c2 := K.out.cell (k := 2) (.head _) rfl; have c3 := K.out.cell (k := 3) (.head _) rfl; have f1 := fun o => K.out.warm (.head _) o)
  have cx := kept_cell K.out HC.out.1 HC.out.2
  go_wp2_with fail
  refine (rcost_any _ _ r n xs _ (HI.out.below K.out.B) HR.out (HX.out.1.below K.out.B) HX.out.2.1 HX.out.2.2).mono ?_
  rintro e w2 ⟨rfl, hb⟩
  replace K := Lib.hid (Keep.stays _ _ K.out hb)
  clear hb cx
  ((try clear f1); clear c0 c1 c2 c3)
  obtain ⟨z, hz⟩ : ∃ z, z = rcost r xs := ⟨_, rfl⟩
  have HZ := Lib.hid hz
  rw [← hz]
  clear hz
  go_wp2_with fail
  go_ret
  exact ⟨ret_int HZ.out, K.out.B⟩

set_option maxHeartbeats 4000000 in
set_option maxRecDepth 100000 in
theorem each40_any (s : Value) (rs : List Rw) (g : Nat) (t : Value) (xs : List Int) (n : Nat) (w : World) (h : Rws w s rs) (l : rs.length ≤ 1000000) (hr : ∀ r ∈ rs, RwOk r n) (hc : Cap w g t) (hx : Sta w t xs n) :
    Calls Tryz.prog 40 #[s, .func (.func 41) #[] #[.pointer (some ⟨g, 0, none⟩)]] w fun e w' => ∃ v, e = .returned v ∧ Qwn w' w.heap.size v (rs.map (fun r => rcost r xs)) ∧ Below w.heap.size w w' := by
  obtain ⟨A, c, rfl, -, ha⟩ := h
  have HA := Lib.hid ha
  have K := Lib.hid (Keep.start w)
  have HR := Lib.hid hr; have HC := Lib.hid hc; have HX := Lib.hid hx
  have hmk := mk0_qow rs.length l rs.length rfl
  have HW := Lib.hid (Qwn.mk0 w rs.length l)
  have HB := Lib.hid (below_one w (Obj.qow (List.replicate rs.length 0)))
  clear ha hr hc hx
  go_enter Tryz.func40, Tryz.ntmps40
  go_wp2_with fail
  go_loopg [5, 13] rs.length (fun gk ov iv wr => ∃ (i : Nat), gk + i = rs.length ∧ iv = .int .i64 (i : Int) ∧ Qwn wr w.heap.size ov ((rs.take i).map (fun r => rcost r xs)) ∧ Below w.heap.size w wr)
  case atStart => exact ⟨0, by omega, rfl, HW.out, HB.out⟩
  case round =>
    clear K hmk HW HB
    obtain ⟨i, hgi, rfl, hown, hb⟩ := hrel
    have HO := Lib.hid hown
    have K := Lib.hid (Keep.of hb)
    clear hown hb
    by_cases hi : i < rs.length
    · have HM := Lib.hid (HR.out _ (mem_of_lt hi))
      have HT : Hid (rs.take (i + 1) = rs.take i ++ [rs.getD i Rw.zero]) := by
        show _ = _
        rw [List.take_add_one, List.getElem?_eq_getElem hi, List.getD_eq_getElem?_getD, List.getElem?_eq_getElem hi]; rfl
      obtain ⟨b, off, B, d, rfl, hlt, hI, x0, x1, x2, x3⟩ := HA.out i hi
      have X0 := kept_cell K.out hlt x0; have X1 := kept_cell K.out hlt x1; have X2 := kept_cell K.out hlt x2; have X3 := kept_cell K.out hlt x3
      have HI := Lib.hid (hI.below K.out.B)
      clear hI x0 x1 x2 x3
      generalize rs.getD i Rw.zero = r at *
      go_upto_region 5 with fail
      clear X0 X1 X2 X3
      have HO1 := Lib.hid (HO.out.below (below_one wr (Obj.rw (.slice B r.coef.length d) r)))
      replace K := Lib.hid (K.out.alloc (Obj.rw (.slice B r.coef.length d) r))
      replace HI := Lib.hid (HI.out.below (below_one wr (Obj.rw (.slice B r.coef.length d) r)))
      generalize wr.heap.size = gr at *
      refine out_with (B := fun W => Qwn W w.heap.size u5 ((rs.take i).map (fun r => rcost r xs)) ∧ Iv W (.slice B r.coef.length d) r.coef) K.out ⟨HO1.out, HI.out⟩ ?_
      clear K HO HO1 HI
      intro W K HO
      replace K := Lib.hid K
      replace HO := Lib.hid HO
      (have c0 := K.out.cell (k := 0) (.head _) rfl; have c1 := K.out.cell (k := 1) (.head _) rfl; have c2 := K.out.cell (k := 2) (.head _) rfl; have c3 := K.out.cell (k := 3) (.head _) rfl; have f1 := fun o => K.out.warm (.head _) o)
      go_wp2_with fail
      refine (val41_any _ r g t xs n _ HO.out.2 HM.out (HC.out.below K.out.B) (HX.out.below K.out.B)).mono ?_
      rintro e w2 ⟨rfl, hb⟩
      replace K := Lib.hid (Keep.stays _ _ K.out hb).rest
      replace HO := Lib.hid (HO.out.1.below hb)
      clear hb
      ((try clear f1); clear c0 c1 c2 c3)
      go_wp2_with (at_builtin; refine app1q rfl (.tmp 17) (.tmp 21) rfl w.heap.size u5 ((rs.take i).map (fun r => rcost r xs)) (rcost r xs) rfl HO.out rfl (by rw [List.length_map, List.length_take]; omega) K.out.B.size ?_; intro v' w' hown' hkeep')
      have Y := Lib.hid (And.intro hown' (hkeep' _ _ K.out (by simp) (Nat.le_refl _)).B)
      clear hown' hkeep' HO K
      go_roundg (gk - 1)
      case measure => omega
      case rel =>
        refine ⟨i + 1, by omega, congrArg (Value.int .i64) (by omega), ?_, Y.out.2⟩
        rw [HT.out, List.map_append]
        exact Y.out.1
    · have HI : Hid (rs.take i = rs) := Lib.hid (List.take_of_length_le (by omega))
      rw [HI.out] at HO
      go_wp2_with fail
      go_ret
      exact ⟨_, rfl, HO.out, K.out.B⟩
end Go.Proofs.YtmidifgnpjlgcaaGreat
/- Opening what came in: a list of numbers, rows. -/
set_option linter.unusedVariables false
set_option linter.unusedSimpArgs false
namespace Go.Proofs.YtmidifgnpjlgcaaGreat
open Go.ChangeShapes Go.WideShapes Go.Deep Go.RowKit

theorem weightsAll_mem {H : Type} {P : Program} {e : TypeId} : ∀ {ds : List (DataW H)} {d : DataW H}, d ∈ ds → ∀ n ∈ d.weights P e, n ∈ DataW.weightsAll P e ds
  | d0 :: ds, d, h, n, hn => by
    rw [DataW.weightsAll, List.mem_append]
    rcases List.mem_cons.1 h with rfl | h
    · exact .inl hn
    · exact .inr (weightsAll_mem h n hn)
theorem sized_elem {H : Type} {P : Program} {ts : List TypeId} {ds : List (DataW H)} (h : (DataW.weightsEach P ts ds).all (· ≤ reachBytes) = true) {j : Nat} {t e : TypeId} {elems spare : List (DataW H)} (ht : ts[j]? = some t) (hd : ds[j]? = some (.slice elems spare)) (hu : P.underlying t = some (.slice e)) {d : DataW H} (hm : d ∈ elems) : ∀ n ∈ d.weights P e, n ≤ reachBytes := by
  intro n hn
  have := List.all_eq_true.1 h n (DataW.weights_mem_each ht hd n (by
    simp only [DataW.weights, hu, List.mem_cons, List.mem_append]
    exact .inr (.inl (weightsAll_mem hm n hn))))
  simpa using this
theorem list_of {α : Type} (d : α) (p : Nat → α → Prop) : ∀ n, (∀ i, i < n → ∃ f, p i f) → ∃ fs : List α, fs.length = n ∧ ∀ i, i < n → p i (fs.getD i d)
  | 0, _ => ⟨[], rfl, fun i h => absurd h (by omega)⟩
  | n + 1, h => by
    obtain ⟨fs, hl, hp⟩ := list_of d p n (fun i hi => h i (by omega))
    obtain ⟨f, hf⟩ := h n (by omega)
    refine ⟨fs ++ [f], by simp [hl], fun i hi => ?_⟩
    by_cases hn : i < n
    · rw [List.getD_eq_getElem?_getD, List.getElem?_append_left (by omega), ← List.getD_eq_getElem?_getD]
      exact hp i hn
    · obtain rfl : i = n := by omega
      rw [List.getD_eq_getElem?_getD, List.getElem?_append_right (by omega), hl]
      simpa using hf

section
variable {H : Type} {enc : TypeId × Value → H} {P : Program} {w : World} {base : Nat} {spare : Nat → Bool} {held : Bool}
theorem open_slice_fields {t e : TypeId} {fs : Array Field} {fuel : Nat} {cs : List Value} {x : DataW H × List MemPlace} (ht : P.underlying t = some (.slice e)) (he : P.underlying e = some (.struct fs))
    (hone : oneCellFields P fs = true) (hC : P.cellsOf e = fs.size) (h : DataW.trod enc P w base spare held fuel t cs = some x) :
    (cs = [.slice none 0 0] ∧ x = (.nil, [])) ∨
    ∃ (a : Addr) (len cap m : Nat) (D : Nat → DataW H) (Pl : Nat → List MemPlace), cs = [.slice (some a) len cap] ∧ base ≤ a.block ∧ len ≤ cap ∧ cap ≤ maxLen ∧ m = (if spare a.block then cap else len) ∧
      x = (.slice ((List.range len).map D) ((List.range (m - len)).map fun j => D (len + j)), MemPlace.row a (m * fs.size) ++ (List.range m).flatMap Pl) ∧
      ∀ i, i < m → ∃ (ys : List (DataW H × List MemPlace)) (n : Nat), D i = .agg (ys.map (·.1)) ∧ Pl i = ys.flatMap (·.2) ∧ ys.length = fs.size ∧
        ∀ (j : Nat) (f : Field), fs[j]? = some f → ∃ (v : Value) (y : DataW H × List MemPlace), w.cell? (a.add (i * fs.size + j)) = some v ∧ ys[j]? = some y ∧ DataW.trod enc P w base spare held n f.type [v] = some y := by
  rcases open_slice ht h with h0 | ⟨a, len, cap, m, n, D, Pl, hcs, hb, hl, hm, hmm, hx, hi⟩
  · exact .inl h0
  · refine .inr ⟨a, len, cap, m, D, Pl, hcs, hb, hl, hm, hmm, by rw [hC] at hx; exact hx, fun i him => ?_⟩
    obtain ⟨cs', hc, ht'⟩ := hi i him
    rw [hC] at hc
    obtain ⟨ys, n', hn', hy, hlen, hyl, hf⟩ := DataW.trod_struct he ht'
    obtain ⟨_, hcl, hat⟩ := World.cells?_some hc
    simp only [Prod.mk.injEq] at hy
    refine ⟨ys, n', hy.1, hy.2, hyl, fun j f hj => ?_⟩
    obtain ⟨ho, hk⟩ := hone_of hone j f hj
    have hjl : j < fs.size := (Array.getElem?_eq_some_iff.1 hj).1
    have hcell := hat j hjl
    have hv : cs'[j]? = some (cs'[j]'(by omega)) := List.getElem?_eq_getElem (by omega)
    have h1 := hf j f hj
    rw [ho, hk] at h1
    have hone' : (cs'.drop j).take 1 = [cs'[j]'(by omega)] := by
      rw [List.drop_eq_getElem_cons (by omega)]
      rfl
    rw [hone'] at h1
    have hys : ys[j]? = some (ys[j]'(by omega)) := List.getElem?_eq_getElem (by omega)
    refine ⟨_, _, ?_, hys, h1.trans hys⟩
    rw [← Go.Deep.add_add, hcell, hv]

/-- A list of numbers that came in. -/
theorem iv_trod {t u : TypeId} {v : Value} {x : DataW H × List MemPlace} {fuel : Nat} (hu : P.underlying t = some (.slice u)) (hk : P.underlying u = some (.int .i64)) (hc : P.cellsOf u = 1)
    (h : DataW.trod enc P w base spare held fuel t [v] = some x) : ∃ xs, Iv w v xs ∧ (xs.length = 0 ∨ ∃ el sp, x.1 = .slice el sp ∧ el.length = xs.length) := by
  rcases open_slice1 hu hc h with ⟨hcs, rfl⟩ | ⟨a, len, cap, m, n, V, D, Pl, hcs, hb, hl, hm, hmm, rfl, hx⟩
  · obtain rfl : v = .slice none 0 0 := by simpa using hcs
    exact ⟨[], ⟨none, 0, rfl, fun _ => rfl, fun j hj => absurd hj (by simp)⟩, .inl rfl⟩
  · obtain rfl : v = .slice (some a) len cap := by simpa using hcs
    have hll : len ≤ m := by
      rw [hmm]
      split
      · exact hl
      · exact Nat.le_refl _
    obtain ⟨xs, hxl, hxs⟩ := list_of (0 : Int) (fun i k => w.cell? (a.add i) = some (.int .i64 k) ∧ i64 k) len (fun i hi => by
      obtain ⟨h1, h2⟩ := hx i (by omega)
      obtain ⟨k, e, -, hw⟩ := DataW.trod_int hk h2
      have e2 : V i = .int .i64 k := by simpa using e
      rw [e2] at h1
      exact ⟨k, h1, bounds_i64 hw⟩)
    subst hxl
    refine ⟨xs, ⟨some a, cap, rfl, fun h => (by cases h), fun j hj => ⟨(hxs j hj).2, a, rfl, ?_, (hxs j hj).1⟩⟩, .inr ⟨_, _, rfl, by simp⟩⟩
    have := World.block_lt_of_cell? w _ (hxs j hj).1
    rwa [add_block] at this
theorem iv_open {t u : TypeId} {a : Option Addr} {len cap : Nat} {d : DataW H} {ps : List MemPlace} (hu : P.underlying t = some (.slice u)) (hk : P.underlying u = some (.int .i64)) (hc : P.cellsOf u = 1)
    (h : DataW.Trod enc P w base spare held t (.slice a len cap) d ps) : ∃ xs, xs.length = len ∧ Iv w (.slice a len cap) xs := by
  obtain ⟨fuel, hf⟩ := h
  obtain ⟨xs, hI, -⟩ := iv_trod hu hk hc (v := .slice a len cap) (by simpa [Value.cells] using hf)
  obtain ⟨A, c, e, -⟩ := id hI
  injection e with _ e2 _
  exact ⟨xs, e2.symm, hI⟩
/-- Rows that came in. -/
theorem rws_open {t e tc u : TypeId} {f0 f1 f2 f3 : Field} {a : Option Addr} {len cap : Nat} {d : DataW H} {ps : List MemPlace} {ts : List TypeId} {ds : List (DataW H)} {j : Nat}
    (hsz : (DataW.weightsEach P ts ds).all (· ≤ reachBytes) = true) (ht : ts[j]? = some t) (hd : ds[j]? = some d) (hu : P.underlying t = some (.slice e)) (he : P.underlying e = some (.struct #[f0, f1, f2, f3]))
    (h0 : f0.type = tc) (h1 : f1.type = u) (h2 : f2.type = u) (h3 : f3.type = u) (hkc : P.underlying tc = some (.slice u)) (hku : P.underlying u = some (.int .i64)) (hcu : P.cellsOf u = 1)
    (hone : oneCellFields P #[f0, f1, f2, f3] = true) (hc : P.cellsOf e = 4) (hB : P.bytesOf u = 8)
    (h : DataW.Trod enc P w base spare held t (.slice a len cap) d ps) : ∃ rs, rs.length = len ∧ Rws w (.slice a len cap) rs ∧ ∀ r ∈ rs, r.coef.length ≤ 4611686018427387904 := by
  obtain ⟨fuel, hf⟩ := h
  rcases open_slice_fields hu he hone hc hf with ⟨hcs, hx⟩ | ⟨x, l, c, m, D, Pl, hcs, _, hl, hm, hmm, hx, hD⟩
  · simp [Value.cells] at hcs
    obtain ⟨rfl, rfl, rfl⟩ := hcs
    exact ⟨[], rfl, ⟨none, 0, rfl, fun _ => rfl, fun j h => absurd h (by simp)⟩, fun r h => by cases h⟩
  · simp [Value.cells] at hcs
    obtain ⟨rfl, rfl, rfl⟩ := hcs
    obtain ⟨hx, _⟩ := Prod.mk.inj hx
    subst hx
    have hll : len ≤ m := by
      rw [hmm]
      split
      · exact hl
      · exact Nat.le_refl _
    obtain ⟨rs, hrl, hrs⟩ := list_of Rw.zero (fun i r => ∃ v, Iv w v r.coef ∧ w.cell? (x.add (i * 4 + 0)) = some v ∧ w.cell? (x.add (i * 4 + 1)) = some (.int .i64 r.z) ∧ w.cell? (x.add (i * 4 + 2)) = some (.int .i64 r.knee) ∧ w.cell? (x.add (i * 4 + 3)) = some (.int .i64 r.weight) ∧ r.coef.length ≤ 4611686018427387904) len (by
      intro i hi
      obtain ⟨ys, n, hDi, _, hyl, hf⟩ := hD i (by omega)
      obtain ⟨v0, y0, hc0, hy0, ht0⟩ := hf 0 f0 rfl
      obtain ⟨v1, y1, hc1, hy1, ht1⟩ := hf 1 f1 rfl
      obtain ⟨v2, y2, hc2, hy2, ht2⟩ := hf 2 f2 rfl
      obtain ⟨v3, y3, hc3, hy3, ht3⟩ := hf 3 f3 rfl
      rw [h0] at ht0
      rw [h1] at ht1
      rw [h2] at ht2
      rw [h3] at ht3
      obtain ⟨xs, hI, hsl⟩ := iv_trod hkc hku hcu ht0
      obtain ⟨k1, e1, -, -⟩ := DataW.trod_int hku ht1
      obtain ⟨k2, e2, -, -⟩ := DataW.trod_int hku ht2
      obtain ⟨k3, e3, -, -⟩ := DataW.trod_int hku ht3
      obtain rfl : v1 = .int .i64 k1 := by simpa using e1
      obtain rfl : v2 = .int .i64 k2 := by simpa using e2
      obtain rfl : v3 = .int .i64 k3 := by simpa using e3
      refine ⟨⟨xs, k1, k2, k3⟩, v0, hI, hc0, hc1, hc2, hc3, ?_⟩
      rcases hsl with hz | ⟨el, sp, hel, hlen⟩
      · show xs.length ≤ _
        omega
      · have hmem : D i ∈ (List.range len).map D := List.mem_map.2 ⟨i, List.mem_range.2 hi, rfl⟩
        match ys, hyl, hy0 with
        | [z0, z1, z2, z3], _, hy0 =>
          simp only [List.getElem?_cons_zero, Option.some.injEq] at hy0
          subst hy0
          have := sized_elem hsz ht hd hu hmem ((el.length + sp.length) * 8) (by
            rw [hDi]
            simp only [DataW.weights, he, List.map_cons, List.map_nil, h0, hel, hkc, hB, DataW.weightsEach, Array.toList, List.mem_append, List.mem_cons]
            exact .inl (.inl trivial))
          rw [show reachBytes = 140737488351232 by decide] at this
          show xs.length ≤ _
          omega)
    subst hrl
    refine ⟨rs, rfl, ⟨some x, cap, rfl, fun h => (by cases h), fun j hj => ?_⟩, fun r hr => ?_⟩
    · obtain ⟨v, hI, c0, c1, c2, c3, -⟩ := hrs j hj
      obtain ⟨v', -, c0', -⟩ := hrs 0 (by omega)
      obtain ⟨b, off, spot⟩ := x
      have hspot : spot = none := by simpa [Addr.add] using World.cell?_spot c0'
      subst hspot
      have hadd : ∀ j, (⟨b, off, none⟩ : Addr).add j = ⟨b, off + j, none⟩ := fun j => by unfold Addr.add; split <;> simp_all
      rw [hadd] at c0 c1 c2 c3
      obtain ⟨B, d, rfl, hB0, hb⟩ := hI
      refine ⟨b, off, B, d, rfl, World.block_lt_of_cell? w _ c0, ⟨B, d, rfl, hB0, hb⟩, c0, c1, c2, c3⟩
    · obtain ⟨k, hk, rfl⟩ := List.mem_iff_getElem.1 hr
      obtain ⟨v, -, -, -, -, -, hle⟩ := hrs k hk
      rw [List.getD_eq_getElem?_getD, List.getElem?_eq_getElem hk, Option.getD_some] at hle
      exact hle
end
end Go.Proofs.YtmidifgnpjlgcaaGreat
/- The walks of a quadratic function's value, of Value and of Less. -/
set_option linter.unusedVariables false
set_option linter.unusedSimpArgs false
namespace Go.Proofs.YtmidifgnpjlgcaaGreat
open Go.RowKit

/-- A quadratic function, of numbers of N parts at most. -/
def Qg (w : World) (vp vq : Value) (cn : Bool) (cs : Value) (n N : Nat) (P : Nat → Nat → Int) (q : Nat → Int) (c : Int) : Prop := Mv w vp n n N P ∧ Lv w vq n N q ∧ Nz w cn cs c N
theorem Qg.below {w w' : World} {vp vq cs : Value} {cn : Bool} {n N : Nat} {P : Nat → Nat → Int} {q : Nat → Int} {c : Int} (h : Qg w vp vq cn cs n N P q c) (hb : Below w.heap.size w w') : Qg w' vp vq cn cs n N P q c := ⟨h.1.below hb, h.2.1.below hb, h.2.2.below hb⟩
/-- A quadratic function's value. -/
def qval (n : Nat) (P : Nat → Nat → Int) (q : Nat → Int) (c : Int) (x : Nat → Int) : Int := sumTo (fun i => x i * sumTo (fun k => P i k * x k) n) n - sumTo (fun k => q k * x k) n * 2 + c

variable {w0 w : World} {l l2 : List (Nat × Obj)}
set_option maxHeartbeats 4000000 in
set_option maxRecDepth 100000 in
theorem qvalue_any (vp vq t cs : Value) (cn : Bool) (n N M : Nat) (P : Nat → Nat → Int) (q : Nat → Int) (c : Int) (x : Nat → Int) (w : World) (h : Qg w vp vq cn cs n N P q c) (hx : Lv w t n M x) (hn : n ≤ 11) (hN : N ≤ 20000) (hM : M ≤ 20000) :
    Calls Tryz.prog 44 #[.agg #[vp, vq, .bool cn, cs], t] w fun e w' => ∃ u A l k, e = .returned (.agg #[.bool u, .slice A l k]) ∧ Nz w' u (.slice A l k) (qval n P q c x) (N + 2 * M + 2 * n + 10) ∧ Below w.heap.size w w' := by
  obtain ⟨CA, cl, cc, rfl⟩ := h.2.2.sl
  have K := Lib.hid (Keep.begin2 w (.cells #[vp, vq, .bool cn, .slice CA cl cc] 32) (Obj.num false (.slice none 0 0)))
  have HQ := Lib.hid h; have HX := Lib.hid hx
  obtain ⟨⟨PA, pc, rfl, -⟩, ⟨QA, qc, rfl, -⟩, -⟩ := h
  obtain ⟨B, d, rfl, -⟩ := hx
  go_enter Tryz.func44, Tryz.ntmps44
  go_upto_region 1 with fail
  (refine out_keep K.out ?_; clear K; intro W K; replace K := Lib.hid K)
  (refine region_ord _ 14 (by kernel_rfl) (by kernel_rfl) K.out.drew ?_; clear K; intro W K hbw; replace K := Lib.hid K)
  clear hbw
  have x0 := Keep.acell (k := 0) K (.tail _ (.head _)) rfl
  have x1 := Keep.acell (k := 1) K (.tail _ (.head _)) rfl
  have x2 := Keep.acell (k := 2) K (.tail _ (.head _)) rfl
  have x3 := Keep.acell (k := 3) K (.tail _ (.head _)) rfl
  (refine Ord.take' 0 rfl (by kernel_rfl) (fun _ _ _ _ h => h) K.out (by rfl) ?_; apply Exists.intro; refine ⟨fun p => ?_, ?_⟩; (focus (go_simp; (try (with_reducible rfl)); done)); (try simp only [Act.put, List.setIfInBounds_toArray, List.set_cons_zero, List.set_cons_succ]))
  (refine Ord.take' 1 rfl (by kernel_rfl) (fun _ _ _ _ h => h) K.out (by rfl) ?_; apply Exists.intro; refine ⟨fun p => ?_, ?_⟩; (focus (go_simp; (try (with_reducible rfl)); done)); (try simp only [Act.put, List.setIfInBounds_toArray, List.set_cons_zero, List.set_cons_succ]))
  (refine Ord.take' 2 rfl (by kernel_rfl) (fun _ _ _ _ h => h) K.out (by rfl) ?_; apply Exists.intro; refine ⟨fun p => ?_, ?_⟩; (focus (go_simp; (try (with_reducible rfl)); done)); (try simp only [Act.put, List.setIfInBounds_toArray, List.set_cons_zero, List.set_cons_succ]))
  (refine Ord.take' 4 rfl (by kernel_rfl) (fun _ _ _ _ h => h) K.out (by rfl) ?_; apply Exists.intro; refine ⟨fun p => ?_, ?_⟩; (focus (go_simp; (try (with_reducible rfl)); done)); (try simp only [Act.put, List.setIfInBounds_toArray, List.set_cons_zero, List.set_cons_succ]))
  (refine Ord.take' 5 rfl (by kernel_rfl) (fun _ _ _ _ h => h) K.out (by rfl) ?_; apply Exists.intro; refine ⟨fun p => ?_, ?_⟩; (focus (go_simp; (try (with_reducible rfl)); done)); (try simp only [Act.put, List.setIfInBounds_toArray, List.set_cons_zero, List.set_cons_succ]))
  (refine Ord.take' 6 rfl (by kernel_rfl) (fun _ _ _ _ h => h) K.out (by rfl) ?_; apply Exists.intro; refine ⟨fun p => ?_, ?_⟩; (focus (go_simp; (try (with_reducible rfl)); done)); (try simp only [Act.put, List.setIfInBounds_toArray, List.set_cons_zero, List.set_cons_succ]))
  (refine Ord.take' 11 rfl (by kernel_rfl) (fun _ _ _ _ h => h) K.out (by rfl) ?_; apply Exists.intro; refine ⟨fun p => ?_, ?_⟩; (focus (go_simp; (try (with_reducible rfl)); done)); (try simp only [Act.put, List.setIfInBounds_toArray, List.set_cons_zero, List.set_cons_succ]))
  (refine Ord.take' 12 rfl (by kernel_rfl) (fun _ _ _ _ h => h) K.out (by rfl) ?_; apply Exists.intro; refine ⟨fun p => ?_, ?_⟩; (focus (go_simp; (try (with_reducible rfl)); done)); (try simp only [Act.put, List.setIfInBounds_toArray, List.set_cons_zero, List.set_cons_succ]))
  clear x0 x1 x2 x3
  (refine Ord.call 3 (g := 22) (args := (#[.slice PA n pc, .slice B n d])) rfl (by kernel_rfl) (by rfl) (by (go_simp; try (with_reducible rfl))) ?_)
  refine (quad_any _ _ n N M P x _ (HQ.out.1.below K.out.B) (HX.out.below K.out.B) (by omega)).mono ?_
  rintro e w2 ⟨q1, A1, l1, c1, rfl, hN1, hb⟩
  (refine ⟨_, rfl, Keep.stays _ _ K.out hb, ?_⟩; replace K := Lib.hid (Keep.stays _ _ K.out hb); simp only [Act.put, List.setIfInBounds_toArray, List.set_cons_zero, List.set_cons_succ])
  clear hb
  (refine Ord.call 7 (g := 60) (args := (#[.slice QA n qc, .slice B n d])) rfl (by kernel_rfl) (by rfl) (by (go_simp; try (with_reducible rfl))) ?_)
  refine (dot_any _ _ n N M q x _ (HQ.out.2.1.below K.out.B) (HX.out.below K.out.B) (by omega)).mono ?_
  rintro e w3 ⟨q2, A2, l2, c2, rfl, hN2, hb⟩
  (refine ⟨_, rfl, Keep.stays _ _ K.out hb, ?_⟩; replace K := Lib.hid (Keep.stays _ _ K.out hb); simp only [Act.put, List.setIfInBounds_toArray, List.set_cons_zero, List.set_cons_succ])
  replace hN1 := hN1.below hb
  clear hb
  (refine Ord.call 8 (g := 19) (args := (#[.int .i64 2])) rfl (by kernel_rfl) (by rfl) (by (go_simp; try (with_reducible rfl))) ?_)
  refine (int_nz 2 _ (by omega) (by omega)).mono ?_
  rintro e w4 ⟨q3, A3, l3, c3, rfl, hN3, hb⟩
  (refine ⟨_, rfl, Keep.stays _ _ K.out hb, ?_⟩; replace K := Lib.hid (Keep.stays _ _ K.out hb); simp only [Act.put, List.setIfInBounds_toArray, List.set_cons_zero, List.set_cons_succ])
  replace hN1 := hN1.below hb
  replace hN2 := hN2.below hb
  clear hb
  (refine Ord.call 9 (g := 23) (args := (#[.agg #[.bool q2, .slice A2 l2 c2], .agg #[.bool q3, .slice A3 l3 c3]])) rfl (by kernel_rfl) (by rfl) (by (go_simp; try (with_reducible rfl))) ?_)
  refine (mul_nz hN2 hN3 (by omega) (by omega)).mono ?_
  rintro e w5 ⟨q4, A4, l4, c4, rfl, hN4, hb⟩
  (refine ⟨_, rfl, Keep.stays _ _ K.out hb, ?_⟩; replace K := Lib.hid (Keep.stays _ _ K.out hb); simp only [Act.put, List.setIfInBounds_toArray, List.set_cons_zero, List.set_cons_succ])
  replace hN1 := hN1.below hb
  clear hb hN2 hN3
  (refine Ord.call 10 (g := 59) (args := (#[.agg #[.bool q1, .slice A1 l1 c1], .agg #[.bool q4, .slice A4 l4 c4]])) rfl (by kernel_rfl) (by rfl) (by (go_simp; try (with_reducible rfl))) ?_)
  refine (sub_nz hN1 hN4 (by omega) (by omega)).mono ?_
  rintro e w6 ⟨q5, A5, l5, c5, rfl, hN5, hb⟩
  (refine ⟨_, rfl, Keep.stays _ _ K.out hb, ?_⟩; replace K := Lib.hid (Keep.stays _ _ K.out hb); simp only [Act.put, List.setIfInBounds_toArray, List.set_cons_zero, List.set_cons_succ])
  clear hb hN1 hN4
  (refine Ord.call 13 (g := 43) (args := (#[.agg #[.bool q5, .slice A5 l5 c5], .agg #[.bool cn, .slice CA cl cc]])) rfl (by kernel_rfl) (by rfl) (by (go_simp; try (with_reducible rfl))) ?_)
  refine (add_nz hN5 (HQ.out.2.2.below K.out.B) (by omega) (by omega)).mono ?_
  rintro e w7 ⟨q6, A6, l6, c6, rfl, hN6, hb⟩
  (refine ⟨_, rfl, Keep.stays _ _ K.out hb, ?_⟩; replace K := Lib.hid (Keep.stays _ _ K.out hb); simp only [Act.put, List.setIfInBounds_toArray, List.set_cons_zero, List.set_cons_succ])
  have H6 := Lib.hid hN6
  clear hb hN5 hN6
  (refine Ord.done (by kernel_rfl) ?_; simp only [List.drop_succ_cons, List.drop_zero, Act.put, List.setIfInBounds_toArray, List.set_cons_zero, List.set_cons_succ])
  obtain ⟨f1, c10, c11⟩ := K.out.nm (.head _)
  go_wp2_with fail
  refine ret_nm Tryz.results44 rfl ((K.out.putn_0 q6 (.slice A6 l6 c6)).nb (.head _)) ?_
  exact ⟨q6, _, _, _, rfl, (H6.out.put (K.out.nm (.head _)).2.1 _ _).more (by omega), (K.out.putn_0 q6 (.slice A6 l6 c6)).B⟩
end Go.Proofs.YtmidifgnpjlgcaaGreat
/- The walks of Value and of Less. -/
set_option linter.unusedVariables false
set_option linter.unusedSimpArgs false
namespace Go.Proofs.YtmidifgnpjlgcaaGreat
open Go.RowKit

/-- A graph without a prior. -/
def Gz (w : World) (rv pv qv : Value) (cn : Bool) (cs : Value) (dn : Bool) (ds : Value) (n : Nat) (rs : List Rw) : Prop := Rws w rv rs ∧ (∀ r ∈ rs, RwOk r n) ∧ Qg w pv qv cn cs n 0 (fun _ _ => 0) (fun _ => 0) 0 ∧ Nz w dn ds 1 2 ∧ rs.length ≤ 60 ∧ n ≤ 11
theorem Gz.below {w w' : World} {rv pv qv cs ds : Value} {cn dn : Bool} {n : Nat} {rs : List Rw} (h : Gz w rv pv qv cn cs dn ds n rs) (hb : Below w.heap.size w w') : Gz w' rv pv qv cn cs dn ds n rs :=
  ⟨h.1.below hb, h.2.1, h.2.2.1.below hb, h.2.2.2.1.below hb, h.2.2.2.2⟩
theorem sumTo_eq {f g : Nat → Int} : ∀ n, (∀ j, j < n → f j = g j) → sumTo f n = sumTo g n
  | 0, _ => rfl
  | n + 1, h => by
    show sumTo f n + f n = sumTo g n + g n
    rw [sumTo_eq n (fun j hj => h j (by omega)), h n (by omega)]
theorem sumTo_zero (f : Nat → Int) (n : Nat) (h : ∀ j, j < n → f j = 0) : sumTo f n = 0 := by
  rw [sumTo_eq n h]
  clear h
  induction n with
  | zero => rfl
  | succ n ih => show sumTo _ n + 0 = 0; rw [ih]; rfl
theorem qval_zero (n : Nat) (x : Nat → Int) : qval n (fun _ _ => 0) (fun _ => 0) 0 x = 0 := by
  unfold qval
  rw [sumTo_zero _ n (fun j _ => by rw [sumTo_zero _ n (fun k _ => Int.zero_mul _), Int.mul_zero]), sumTo_zero _ n (fun k _ => Int.zero_mul _)]
  rfl
/-- What a state costs. -/
def cost (rs : List Rw) (xs : List Int) : Int := sumTo (fun j => rcost (rs.getD j Rw.zero) xs) rs.length

/-- A list of int64 behind a place. -/
def Qel (w : World) (base : Nat) (A : Option Addr) (ys : List Int) : Prop := ∀ j, j < ys.length → ∃ g, A = some ⟨g, 0, none⟩ ∧ base ≤ g ∧ g < w.heap.size ∧ w.cell? ⟨g, j, none⟩ = some (.int .i64 (ys.getD j 0))
theorem Qel.below {w w' : World} {base : Nat} {A : Option Addr} {ys : List Int} (h : Qel w base A ys) (hb : Below w.heap.size w w') : Qel w' base A ys := fun j hj => by
  obtain ⟨g, h1, h2, h3, h4⟩ := h j hj
  exact ⟨g, h1, h2, Nat.lt_of_lt_of_le h3 hb.size, by rw [hb.cell (p := ⟨g, j, none⟩) h3]; exact h4⟩
theorem Qel.put {w : World} {base k i : Nat} {A : Option Addr} {ys : List Int} (h : Qel w base A ys) (hk : k < base) (u : Value) : Qel (w.setCell ⟨k, i, none⟩ u) base A ys := fun j hj => by
  obtain ⟨g, h1, h2, h3, h4⟩ := h j hj
  exact ⟨g, h1, h2, by simpa [World.setCell] using h3, by rw [cell_of_heap (Below.heap_setCell _ _ _ _ (by show g ≠ k; omega))]; exact h4⟩
theorem Qwn.el {w : World} {base : Nat} {v : Value} {ys : List Int} (h : Qwn w base v ys) : ∃ A c, v = .slice A ys.length c ∧ Qel w base A ys := by
  rcases h.row with ⟨rfl, rfl⟩ | ⟨g, c, rest, rfl, hb, hc, hh⟩
  · exact ⟨none, 0, rfl, fun j hj => absurd hj (by simp)⟩
  · refine ⟨_, c, rfl, fun j hj => ⟨g, rfl, hb, (Array.getElem?_eq_some_iff.1 hh).1, ?_⟩⟩
    rw [cellOf hh, List.getElem?_toArray, List.getElem?_append_left (by simpa using hj)]
    simp [hj]
variable {w0 w : World} {l l2 : List (Nat × Obj)}
set_option maxHeartbeats 4000000 in
set_option maxRecDepth 100000 in
theorem value_any (rv pv qv cs ds t : Value) (cn dn : Bool) (n : Nat) (rs : List Rw) (xs : List Int) (w : World) (h : Gz w rv pv qv cn cs dn ds n rs) (hx : Sta w t xs n) :
    Calls Tryz.prog 14 #[.agg #[.int .i64 n, rv, pv, qv, .bool cn, cs, .bool dn, ds], t] w fun e w' => ∃ q A l c, e = .returned (.agg #[.bool q, .slice A l c]) ∧ Nz w' q (.slice A l c) (cost rs xs) 100 ∧ Below w.heap.size w w' := by
  obtain ⟨CA, cl, cc, rfl⟩ := h.2.2.1.2.2.sl
  obtain ⟨DA, dl, dc, rfl⟩ := h.2.2.2.1.sl
  have HG := Lib.hid h; have HX := Lib.hid hx
  obtain ⟨hl60, hn11⟩ := h.2.2.2.2
  obtain ⟨RA, rc, rfl, -⟩ := h.1
  obtain ⟨PA, pc, rfl, -⟩ := h.2.2.1.1
  obtain ⟨QA, qc, rfl, -⟩ := h.2.2.1.2.1
  obtain ⟨B, d, rfl, -⟩ := hx.1
  have K := Lib.hid (Keep.begin4 w (.cells #[.int .i64 n, .slice RA rs.length rc, .slice PA n pc, .slice QA n qc, .bool cn, .slice CA cl cc, .bool dn, .slice DA dl dc] 34) (.cells #[.slice B xs.length d] 23) (Obj.num false (.slice none 0 0)) (Obj.num false (.slice none 0 0)))
  clear h hx
  go_enter Tryz.func14, Tryz.ntmps14
  go_upto_region 2 with fail
  (refine out_keep K.out ?_; clear K; intro W K; replace K := Lib.hid K)
  have x1 := K.out.cell (k := 1) (.tail _ (.tail _ (.tail _ (.head _)))) rfl
  have K0 := K
  have HC : Hid (Cap W (w.heap.size + 1) (.slice B xs.length d)) := Lib.hid ⟨K.out.lt (.tail _ (.tail _ (.head _))), K.out.cell (.tail _ (.tail _ (.head _))) rfl⟩
  go_wp2_with fail
  refine (each40_any _ rs (w.heap.size + 1) _ xs n _ (HG.out.1.below K.out.B) (by omega) HG.out.2.1 HC.out (HX.out.below K.out.B)).mono ?_
  rintro e w2 ⟨u, rfl, hQ, hb⟩
  replace K := Lib.hid (Keep.stays _ _ K.out hb)
  obtain ⟨YA, yc, rfl, hqel⟩ := hQ.el
  have HY := Lib.hid hqel
  have hsz := K.out.lt (.head _)
  have HS : Hid (w.heap.size + 1 + 1 + 1 < W.heap.size) := Lib.hid (K0.out.lt (.head _))
  have HE : Hid (∀ j, j < rs.length → (rs.map (fun r => rcost r xs)).getD j 0 = rcost (rs.getD j Rw.zero) xs) := Lib.hid (fun j hj => by simp [hj])
  have HLY : Hid ((rs.map (fun r => rcost r xs)).length = rs.length) := Lib.hid (by rw [List.length_map])
  have HDEF : Hid (cost rs xs = sumTo (fun j => rcost (rs.getD j Rw.zero) xs) rs.length) := Lib.hid rfl
  clear hQ hb x1 HC K0 hsz hqel
  generalize rs.map (fun r => rcost r xs) = ys at *
  rw [HLY.out]
  go_wp2_with fail
  go_loopg [13] rs.length (fun gk iv wr => ∃ (i : Nat) (q : Bool) (C : Option Addr) (l k : Nat), gk + i = rs.length ∧ iv = .int .i64 (i : Int) ∧ Nz wr q (.slice C l k) (sumTo (fun j => rcost (rs.getD j Rw.zero) xs) i) (2 + i) ∧ Qel wr W.heap.size YA ys ∧ Keep w [(w.heap.size + 1 + 1 + 1, Obj.num q (.slice C l k)), (w.heap.size + 1 + 1, Obj.num false (.slice none 0 0)), (w.heap.size + 1, .cells #[.slice B xs.length d] 23), (w.heap.size, .cells #[.int .i64 n, .slice RA rs.length rc, .slice PA n pc, .slice QA n qc, .bool cn, .slice CA cl cc, .bool dn, .slice DA dl dc] 34)] wr)
  case atStart => exact ⟨0, false, none, 0, 0, by omega, rfl, (Nz.nil _).more (by omega), HY.out, K.out⟩
  case round =>
    clear K HY
    obtain ⟨i, q, C, l, k, hgi, rfl, hN', hY', k'⟩ := hrel
    have K := Lib.hid k'
    have HN := Lib.hid hN'
    have HY := Lib.hid hY'
    clear k' hN'
    by_cases hi : i < rs.length
    · obtain ⟨g, rfl, -, -, hpc⟩ := HY.out i (by rw [HLY.out]; exact hi)
      have HV := Lib.hid (HE.out i hi)
      rw [HV.out] at hpc
      obtain ⟨r1, r2⟩ := rcost_in (HG.out.2.1 _ (mem_of_lt hi)) xs
      clear hY'
      obtain ⟨z, hz⟩ : ∃ z, z = rcost (rs.getD i Rw.zero) xs := ⟨_, rfl⟩
      have HZ := Lib.hid hz
      rw [← hz] at hpc r1 r2
      clear hz
      go_upto_region 5 with fail
      clear hpc
      (refine region_ord _ 4 (by kernel_rfl) (by kernel_rfl) K.out.drew ?_; clear K; intro W K hbw; replace K := Lib.hid K)
      replace HN := Lib.hid (HN.out.below hbw)
      replace HY := Lib.hid (HY.out.below hbw)
      clear hbw
      obtain ⟨e10, e11⟩ := Keep.anm K (.head _)
      (refine Ord.take' 0 rfl (by kernel_rfl) (fun _ _ _ _ h => h) K.out (by rfl) ?_; apply Exists.intro; refine ⟨fun p => ?_, ?_⟩; (focus (go_simp; (try (with_reducible rfl)); done)); (try simp only [Act.put, List.setIfInBounds_toArray, List.set_cons_zero, List.set_cons_succ]))
      (refine Ord.take' 1 rfl (by kernel_rfl) (fun _ _ _ _ h => h) K.out (by rfl) ?_; apply Exists.intro; refine ⟨fun p => ?_, ?_⟩; (focus (go_simp; (try (with_reducible rfl)); done)); (try simp only [Act.put, List.setIfInBounds_toArray, List.set_cons_zero, List.set_cons_succ]))
      clear e10 e11
      (refine Ord.call 2 (g := 19) (args := (#[.int .i64 z])) rfl (by kernel_rfl) (by rfl) (by (go_simp; try (with_reducible rfl))) ?_)
      refine (int_nz z _ (by omega) (by omega)).mono ?_
      rintro e w3 ⟨q3, A3, l3, k3, rfl, hN3, hb⟩
      (refine ⟨_, rfl, Keep.stays _ _ K.out hb, ?_⟩; replace K := Lib.hid (Keep.stays _ _ K.out hb); simp only [Act.put, List.setIfInBounds_toArray, List.set_cons_zero, List.set_cons_succ])
      replace HN := Lib.hid (HN.out.below hb)
      replace HY := Lib.hid (HY.out.below hb)
      clear hb
      (refine Ord.call 3 (g := 43) (args := (#[.agg #[.bool q, .slice C l k], .agg #[.bool q3, .slice A3 l3 k3]])) rfl (by kernel_rfl) (by rfl) (by (go_simp; try (with_reducible rfl))) ?_)
      refine (add_nz HN.out hN3 (by omega) (by omega)).mono ?_
      rintro e w4 ⟨q4, A4, l4, k4, rfl, hN4, hb⟩
      (refine ⟨_, rfl, Keep.stays _ _ K.out hb, ?_⟩; replace K := Lib.hid (Keep.stays _ _ K.out hb); simp only [Act.put, List.setIfInBounds_toArray, List.set_cons_zero, List.set_cons_succ])
      replace HY := Lib.hid (HY.out.below hb)
      have H4 := Lib.hid hN4
      clear hb hN3 hN4 HN
      (refine Ord.done (by kernel_rfl) ?_; simp only [List.drop_succ_cons, List.drop_zero, Act.put, List.setIfInBounds_toArray, List.set_cons_zero, List.set_cons_succ])
      obtain ⟨f1, c10, c11⟩ := K.out.nm (.head _)
      go_wp2_with fail
      clear f1 c10 c11
      go_roundg (gk - 1)
      case measure => omega
      case rel =>
        have hS : sumTo (fun j => rcost (rs.getD j Rw.zero) xs) (i + 1) = sumTo (fun j => rcost (rs.getD j Rw.zero) xs) i + z := by rw [HZ.out]; rfl
        refine ⟨i + 1, q4, A4, l4, k4, by omega, congrArg (Value.int .i64) (by omega), ?_, (HY.out.put HS.out _).put HS.out _, K.out.putn_0 _ _⟩
        rw [hS]
        exact (H4.out.put (K.out.nm (.head _)).2.1 _ _).more (by omega)
    · obtain rfl : i = rs.length := by omega
      rw [← HDEF.out] at HN
      go_upto_region 7 with fail
      clear hY' HY HE HLY HDEF
      (refine region_ord _ 10 (by kernel_rfl) (by kernel_rfl) K.out.drew ?_; clear K; intro W K hbw; replace K := Lib.hid K)
      replace HN := Lib.hid (HN.out.below hbw)
      clear hbw
      obtain ⟨e10, e11⟩ := Keep.anm K (.head _)
      have x2 := Keep.acell (k := 2) K (.tail _ (.tail _ (.tail _ (.head _)))) rfl
      have x3 := Keep.acell (k := 3) K (.tail _ (.tail _ (.tail _ (.head _)))) rfl
      have x4 := Keep.acell (k := 4) K (.tail _ (.tail _ (.tail _ (.head _)))) rfl
      have x5 := Keep.acell (k := 5) K (.tail _ (.tail _ (.tail _ (.head _)))) rfl
      have x6 := Keep.acell (k := 6) K (.tail _ (.tail _ (.tail _ (.head _)))) rfl
      have x7 := Keep.acell (k := 7) K (.tail _ (.tail _ (.tail _ (.head _)))) rfl
      have y0 := Keep.acell (k := 0) K (.tail _ (.tail _ (.head _))) rfl
      (refine Ord.take' 0 rfl (by kernel_rfl) (fun _ _ _ _ h => h) K.out (by rfl) ?_; apply Exists.intro; refine ⟨fun p => ?_, ?_⟩; (focus (go_simp; (try (with_reducible rfl)); done)); (try simp only [Act.put, List.setIfInBounds_toArray, List.set_cons_zero, List.set_cons_succ]))
      (refine Ord.take' 1 rfl (by kernel_rfl) (fun _ _ _ _ h => h) K.out (by rfl) ?_; apply Exists.intro; refine ⟨fun p => ?_, ?_⟩; (focus (go_simp; (try (with_reducible rfl)); done)); (try simp only [Act.put, List.setIfInBounds_toArray, List.set_cons_zero, List.set_cons_succ]))
      (refine Ord.take' 2 rfl (by kernel_rfl) (fun _ _ _ _ h => h) K.out (by rfl) ?_; apply Exists.intro; refine ⟨fun p => ?_, ?_⟩; (focus (go_simp; (try (with_reducible rfl)); done)); (try simp only [Act.put, List.setIfInBounds_toArray, List.set_cons_zero, List.set_cons_succ]))
      (refine Ord.take' 4 rfl (by kernel_rfl) (fun _ _ _ _ h => h) K.out (by rfl) ?_; apply Exists.intro; refine ⟨fun p => ?_, ?_⟩; (focus (go_simp; (try (with_reducible rfl)); done)); (try simp only [Act.put, List.setIfInBounds_toArray, List.set_cons_zero, List.set_cons_succ]))
      (refine Ord.take' 5 rfl (by kernel_rfl) (fun _ _ _ _ h => h) K.out (by rfl) ?_; apply Exists.intro; refine ⟨fun p => ?_, ?_⟩; (focus (go_simp; (try (with_reducible rfl)); done)); (try simp only [Act.put, List.setIfInBounds_toArray, List.set_cons_zero, List.set_cons_succ]))
      (refine Ord.take' 6 rfl (by kernel_rfl) (fun _ _ _ _ h => h) K.out (by rfl) ?_; apply Exists.intro; refine ⟨fun p => ?_, ?_⟩; (focus (go_simp; (try (with_reducible rfl)); done)); (try simp only [Act.put, List.setIfInBounds_toArray, List.set_cons_zero, List.set_cons_succ]))
      clear e10 e11 x2 x3 x4 x5 x6 x7 y0
      (refine Ord.call 3 (g := 23) (args := (#[.agg #[.bool q, .slice C l k], .agg #[.bool dn, .slice DA dl dc]])) rfl (by kernel_rfl) (by rfl) (by (go_simp; try (with_reducible rfl))) ?_)
      refine (mul_nz HN.out (HG.out.2.2.2.1.below K.out.B) (by omega) (by omega)).mono ?_
      rintro e w3 ⟨q3, A3, l3, k3, rfl, hN3, hb⟩
      (refine ⟨_, rfl, Keep.stays _ _ K.out hb, ?_⟩; replace K := Lib.hid (Keep.stays _ _ K.out hb); simp only [Act.put, List.setIfInBounds_toArray, List.set_cons_zero, List.set_cons_succ])
      clear hb HN
      (refine Ord.call 7 (g := 45) (args := (#[.slice B xs.length d, .func (.func 19) #[] #[]])) rfl (by kernel_rfl) (by rfl) (by (go_simp; try (with_reducible rfl))) ?_)
      refine (each45_any _ xs _ (HX.out.1.below K.out.B) (by rw [HX.out.2.1]; omega)).mono ?_
      rintro e w4 ⟨v4, rfl, hL4, hb⟩
      (refine ⟨_, rfl, Keep.stays _ _ K.out hb, ?_⟩; replace K := Lib.hid (Keep.stays _ _ K.out hb); simp only [Act.put, List.setIfInBounds_toArray, List.set_cons_zero, List.set_cons_succ])
      replace hN3 := hN3.below hb
      clear hb
      rw [HX.out.2.1] at hL4
      obtain ⟨EA, ec, rfl, -⟩ : ∃ A c, v4 = .slice A n c ∧ True := by obtain ⟨A, c, h, -⟩ := hL4; exact ⟨A, c, h, trivial⟩
      (refine Ord.call 8 (g := 44) (args := (#[.agg #[.slice PA n pc, .slice QA n qc, .bool cn, .slice CA cl cc], .slice EA n ec])) rfl (by kernel_rfl) (by rfl) (by (go_simp; try (with_reducible rfl))) ?_)
      refine (qvalue_any _ _ _ _ cn n 0 2 _ _ _ _ _ (HG.out.2.2.1.below K.out.B) hL4 hn11 (by omega) (by omega)).mono ?_
      rintro e w5 ⟨q5, A5, l5, k5, rfl, hN5, hb⟩
      rw [qval_zero] at hN5
      (refine ⟨_, rfl, Keep.stays _ _ K.out hb, ?_⟩; replace K := Lib.hid (Keep.stays _ _ K.out hb); simp only [Act.put, List.setIfInBounds_toArray, List.set_cons_zero, List.set_cons_succ])
      replace hN3 := hN3.below hb
      clear hb hL4
      (refine Ord.call 9 (g := 43) (args := (#[.agg #[.bool q3, .slice A3 l3 k3], .agg #[.bool q5, .slice A5 l5 k5]])) rfl (by kernel_rfl) (by rfl) (by (go_simp; try (with_reducible rfl))) ?_)
      refine (add_nz hN3 hN5 (by omega) (by omega)).mono ?_
      rintro e w6 ⟨q6, A6, l6, k6, rfl, hN6, hb⟩
      (refine ⟨_, rfl, Keep.stays _ _ K.out hb, ?_⟩; replace K := Lib.hid (Keep.stays _ _ K.out hb); simp only [Act.put, List.setIfInBounds_toArray, List.set_cons_zero, List.set_cons_succ])
      have H6 := Lib.hid hN6
      rw [Int.mul_one, Int.add_zero] at H6
      clear hb hN3 hN5 hN6
      (refine Ord.done (by kernel_rfl) ?_; simp only [List.drop_succ_cons, List.drop_zero, Act.put, List.setIfInBounds_toArray, List.set_cons_zero, List.set_cons_succ])
      obtain ⟨f1, c10, c11⟩ := K.out.nm (.tail _ (.head _))
      go_wp2_with fail
      refine ret_nm Tryz.results14 rfl ((K.out.putn_1 q6 (.slice A6 l6 k6)).nb (.tail _ (.head _))) ?_
      exact ⟨q6, _, _, _, rfl, (H6.out.put (K.out.nm (.tail _ (.head _))).2.1 _ _).more (by omega), (K.out.putn_1 q6 (.slice A6 l6 k6)).B⟩
end Go.Proofs.YtmidifgnpjlgcaaGreat
