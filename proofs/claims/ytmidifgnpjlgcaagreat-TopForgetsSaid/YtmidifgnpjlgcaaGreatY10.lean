/- The texts Oo, Op, Oq, Ra of the walk of the law and of all that it calls, in one file. No condition. -/
import Derived.Test.YtmidifgnpjlgcaaGreatY9
/- The walk of New. -/
set_option linter.unusedVariables false
set_option linter.unusedSimpArgs false
namespace Go.Proofs.YtmidifgnpjlgcaaGreat
open Go.RowKit

theorem ret_g1 {fn : Func} {p u g : Nat} {tmps : Array Value} {w : World} {n : Int} {s1 s2 s3 s4 s5 : Value} {cn dn : Bool} {R : Ending → World → Prop} (h : fn.results = #[.cell p 34, .tmp u]) (hp : tmps.getD p undef = .pointer (some ⟨g, 0, none⟩))
    (hb : w.heap[g]? = some (.cells #[.int .i64 n, s1, s2, s3, .bool cn, s4, .bool dn, s5] 34)) (hR : R (.returned (.tuple #[.agg #[.int .i64 n, s1, s2, s3, .bool cn, s4, .bool dn, s5], tmps.getD u undef])) w) : bodyPost Tryz.prog fn R .ret { tmps := tmps, defers := [] } w := by
  refine bodyPost_ret ?_ rfl hR
  have hp' : tmps[p]?.getD undef = .pointer (some ⟨g, 0, none⟩) := by simpa using hp
  have e1 := run_loadVar_row (P := Tryz.prog) w g 34 34 _ _ _ hb Tryz.underlying34 rfl (by kernel_rfl)
  simp [results, h, hp', asAddr, e1]

set_option maxHeartbeats 4000000 in
set_option maxRecDepth 100000 in
theorem zero29_any (i j : Int) (w : World) : Calls Tryz.prog 29 #[.int .i64 i, .int .i64 j] w (Told1 w 0 0) := by
  have K := Lib.hid (Keep.begin1 w (Obj.num false (.slice none 0 0)))
  go_enter Tryz.func29, Tryz.ntmps29
  go_upto_region 1 with fail
  (refine out_keep K.out ?_; clear K; intro W K; replace K := Lib.hid K)
  obtain ⟨f1, c10, c11⟩ := K.out.nm (.head _)
  go_wp2_with fail
  refine ret_nm Tryz.results29 rfl ((K.out.putn_0 _ _).nb (.head _)) ?_
  exact ⟨false, none, 0, 0, rfl, Nz.nil _, (K.out.putn_0 _ _).B⟩

def gzero : Array Value := #[.int .i64 0, .slice none 0 0, .slice none 0 0, .slice none 0 0, .bool false, .slice none 0 0, .bool false, .slice none 0 0]
theorem Keep.gb {w0 w : World} {l : List (Nat × Obj)} {b : Nat} {vs : Array Value} {t : TypeId} (K : Keep w0 l w) (m : (b, Obj.cells vs t) ∈ l) : w.heap[b]? = some (.cells vs t) := K.box _ m
theorem set8 (a0 a1 a2 a3 a4 a5 a6 a7 u0 u1 u2 u3 u4 u5 u6 u7 : Value) : ((((((((#[a0, a1, a2, a3, a4, a5, a6, a7] : Array Value).setIfInBounds 0 u0).setIfInBounds 1 u1).setIfInBounds 2 u2).setIfInBounds 3 u3).setIfInBounds 4 u4).setIfInBounds 5 u5).setIfInBounds 6 u6).setIfInBounds 7 u7 = #[u0, u1, u2, u3, u4, u5, u6, u7] := by simp only [List.setIfInBounds_toArray, List.set_cons_zero, List.set_cons_succ]
theorem Keep.put8 {w0 w : World} {l2 : List (Nat × Obj)} {b : Nat} {a0 a1 a2 a3 a4 a5 a6 a7 : Value} {t : TypeId} (l1 : List (Nat × Obj)) (K : Keep w0 (l1 ++ (b, .cells #[a0, a1, a2, a3, a4, a5, a6, a7] t) :: l2) w) (u0 u1 u2 u3 u4 u5 u6 u7 : Value) :
    Keep w0 (l1 ++ (b, .cells #[u0, u1, u2, u3, u4, u5, u6, u7] t) :: l2) ((((((((w.setCell ⟨b, 0, none⟩ u0).setCell ⟨b, 1, none⟩ u1).setCell ⟨b, 2, none⟩ u2).setCell ⟨b, 3, none⟩ u3).setCell ⟨b, 4, none⟩ u4).setCell ⟨b, 5, none⟩ u5).setCell ⟨b, 6, none⟩ u6).setCell ⟨b, 7, none⟩ u7) := by
  have := (((((((K.set l1 0 u0).set l1 1 u1).set l1 2 u2).set l1 3 u3).set l1 4 u4).set l1 5 u5).set l1 6 u6).set l1 7 u7
  rw [set8] at this
  exact this

theorem Turn.set (w : World) (g i : Nat) (u : Value) : Turn (some g) w (w.setCell ⟨g, i, none⟩ u) :=
  ⟨by simp [World.setCell], fun k hk hne => by rw [Below.heap_setCell _ _ _ _ (by show k ≠ g; exact fun e => hne (by rw [e]))]⟩
theorem Turn.trans {o : Option Nat} {a b c : World} (h : Turn o a b) (k : Turn o b c) : Turn o a c := ⟨Nat.le_trans h.1 k.1, fun j hj hne => (k.2 j (Nat.lt_of_lt_of_le hj h.1) hne).trans (h.2 j hj hne)⟩
theorem Turn.put8 (w : World) (g : Nat) (u0 u1 u2 u3 u4 u5 u6 u7 : Value) : Turn (some g) w ((((((((w.setCell ⟨g, 0, none⟩ u0).setCell ⟨g, 1, none⟩ u1).setCell ⟨g, 2, none⟩ u2).setCell ⟨g, 3, none⟩ u3).setCell ⟨g, 4, none⟩ u4).setCell ⟨g, 5, none⟩ u5).setCell ⟨g, 6, none⟩ u6).setCell ⟨g, 7, none⟩ u7) :=
  (((((((Turn.set _ _ _ _).trans (Turn.set _ _ _ _)).trans (Turn.set _ _ _ _)).trans (Turn.set _ _ _ _)).trans (Turn.set _ _ _ _)).trans (Turn.set _ _ _ _)).trans (Turn.set _ _ _ _)).trans (Turn.set _ _ _ _)
theorem Keep.not32 {w0 w : World} {l : List (Nat × Obj)} {b : Nat} {vs : Array Value} {t : TypeId} {v : Value} (K : Keep w0 l w) (m : (b, Obj.cells vs t) ∈ l) (h0 : vs[0]? = some v) (hv : ∀ z, v ≠ .int .u32 z) : ∀ k, some b = some k → ∀ z, w.cell? ⟨k, 0, none⟩ ≠ some (.int .u32 z) := by
  intro k hk z
  injection hk with hk
  subst hk
  rw [K.cell m h0]
  intro e
  injection e with e
  exact hv z e
theorem Keep.tagg {w0 w : World} {l : List (Nat × Obj)} {b : Nat} {vs : Array Value} {t : TypeId} (K : Keep w0 l w) (m : (b, Obj.cells vs t) ∈ l) : Tagged w (some b) t := fun k hk => by
  injection hk with hk
  subst hk
  exact ⟨_, K.box _ m⟩
theorem Keep.set3 {w0 w : World} {l2 : List (Nat × Obj)} (l1 : List (Nat × Obj)) {b : Nat} {a0 a1 a2 a3 a4 a5 a6 a7 : Value} {t : TypeId} (K : Keep w0 (l1 ++ (b, .cells #[a0, a1, a2, a3, a4, a5, a6, a7] t) :: l2) w) (u : Value) : Keep w0 (l1 ++ (b, .cells #[a0, a1, a2, u, a4, a5, a6, a7] t) :: l2) (w.setCell ⟨b, 3, none⟩ u) := by
  have := K.set l1 3 u
  simp only [List.setIfInBounds_toArray, List.set_cons_zero, List.set_cons_succ] at this
  exact this
theorem Keep.set2 {w0 w : World} {l2 : List (Nat × Obj)} (l1 : List (Nat × Obj)) {b : Nat} {a0 a1 a2 a3 a4 a5 a6 a7 : Value} {t : TypeId} (K : Keep w0 (l1 ++ (b, .cells #[a0, a1, a2, a3, a4, a5, a6, a7] t) :: l2) w) (u : Value) : Keep w0 (l1 ++ (b, .cells #[a0, a1, u, a3, a4, a5, a6, a7] t) :: l2) (w.setCell ⟨b, 2, none⟩ u) := by
  have := K.set l1 2 u
  simp only [List.setIfInBounds_toArray, List.set_cons_zero, List.set_cons_succ] at this
  exact this

theorem Lr.turnE {w w' : World} {x : Value} {m N : Nat} {f : Nat → Int} {o : Option Nat} {e : TypeId} (he : e ≠ 30) (h : Lr w x m N f) (hT : Turn o w w') (ho : Tagged w o e) (hc : ∀ k, o = some k → ∀ z, w.cell? ⟨k, 0, none⟩ ≠ some (.int .u32 z)) : Lr w' x m N f := by
  obtain ⟨L, h1, h2, h3⟩ := h
  refine ⟨L, ⟨owns_turn h1.1 hT ho he, fun k hk z => ?_⟩, h2, h3.turn (fun _ _ _ _ hN => hN.turn hT hc)⟩
  have hlt := h1.lt k hk
  have hne : o ≠ some k := by
    intro eo
    obtain ⟨cs, hcs⟩ := ho k eo
    rcases h1.1.2 with ⟨rfl, _⟩ | ⟨g, cap, cur, rfl, hb, hh, _⟩
    · simp [Value.ownBlock] at hk
    · have : g = k := by simpa [Value.ownBlock] using hk
      subst this
      rw [hh] at hcs
      injection hcs with hcs
      injection hcs with _ hcs
      exact he hcs.symm
  rw [cell_of_heap (hT.2 k hlt hne)]
  exact h1.2 k hk z
theorem Mo27.turn {w w' : World} {v : Value} {n N : Nat} {f : Nat → Nat → Int} {o : Option Nat} {e : TypeId} (h : Mo27 w v n N f) (hT : Turn o w w') (ho : Tagged w o e) (he : e ≠ 30) (he2 : e ≠ 27) (hc : ∀ k, o = some k → ∀ z, w.cell? ⟨k, 0, none⟩ ≠ some (.int .u32 z)) : Mo27 w' v n N f := by
  obtain ⟨vs, h1, h2, h3⟩ := h
  exact ⟨vs, h1.turn hT ho he2, h2, h3.mono fun j x _ hx => hx.turnE he hT ho hc⟩

set_option maxHeartbeats 8000000 in
set_option maxRecDepth 100000 in
theorem new_any (rv : Value) (rs : List Rw) (n : Nat) (w : World) (h : Rws w rv rs) (h1 : 1 ≤ n) (h2 : n ≤ 11) (h3 : rs.length ≤ 60) (lc : ∀ r ∈ rs, r.coef.length ≤ 4611686018427387904) :
    Calls Tryz.prog 7 #[.int .i64 n, rv] w fun e w' => ((e = .returned (.tuple #[.agg gzero, .int .i64 160]) ∧ ¬ ∀ r ∈ rs, RwOk r n) ∨ ∃ pv qv dn ds, e = .returned (.tuple #[.agg #[.int .i64 n, rv, pv, qv, .bool false, .slice none 0 0, .bool dn, ds], .int .i64 0]) ∧ Gz w' rv pv qv false (.slice none 0 0) dn ds n rs) ∧ Below w.heap.size w w' := by
  have K := Lib.hid (Keep.begin2 w (.cells #[.int .i64 n] 3) (.cells #[.int .i64 0, .slice none 0 0, .slice none 0 0, .slice none 0 0, .bool false, .slice none 0 0, .bool false, .slice none 0 0] 34))
  have HR := Lib.hid h; have LC := Lib.hid lc
  obtain ⟨RA, rc, rfl, -⟩ := h
  clear lc
  go_enter Tryz.func7, Tryz.ntmps7
  go_upto_region 1 with fail
  (refine out_keep K.out ?_; clear K; intro W K; replace K := Lib.hid K)
  have x0 := K.out.cell (k := 0) (.tail _ (.head _)) rfl
  have HC : Hid (Cap W w.heap.size (.int .i64 n)) := Lib.hid ⟨K.out.lt (.tail _ (.head _)), K.out.cell (.tail _ (.head _)) rfl⟩
  go_wp2_with fail
  refine (contains25_any _ rs w.heap.size n W (HR.out.below K.out.B) (by omega) HC.out (by omega) LC.out).mono ?_
  rintro e w2 ⟨b, rfl, hb0, hb⟩
  replace K := Lib.hid (Keep.stays _ _ K.out hb)
  have HB := Lib.hid hb0
  clear hb hb0 x0 HC
  by_cases hbn : 0 ≤ b
  · have HBAD : Hid (¬ ∀ r ∈ rs, RwOk r n) := fun h => absurd (HB.out.2 h) (by omega)
    clear HB
    have f1 := fun o => K.out.warm (.head _) o
    have y0 := K.out.cell (k := 0) (.head _) rfl
    have y1 := K.out.cell (k := 1) (.head _) rfl
    have y2 := K.out.cell (k := 2) (.head _) rfl
    have y3 := K.out.cell (k := 3) (.head _) rfl
    have y4 := K.out.cell (k := 4) (.head _) rfl
    have y5 := K.out.cell (k := 5) (.head _) rfl
    have y6 := K.out.cell (k := 6) (.head _) rfl
    have y7 := K.out.cell (k := 7) (.head _) rfl
    go_wp2_with fail
    have K2 := Lib.hid (Keep.put8 [] K.out (.int .i64 0) (.slice none 0 0) (.slice none 0 0) (.slice none 0 0) (.bool false) (.slice none 0 0) (.bool false) (.slice none 0 0))
    refine ret_g1 Tryz.results7 rfl (K2.out.gb (.head _)) ?_
    exact ⟨.inl ⟨rfl, HBAD.out⟩, K2.out.B⟩
  · have HOK := Lib.hid (HB.out.1 (by omega))
    clear HB
    go_upto_region 7 with fail
    refine region_float1 _ 5 ⟨4, 6, .cells #[.int .i64 0, .slice none 0 0, .slice none 0 0, .slice none 0 0, .bool false, .slice none 0 0, .bool false, .slice none 0 0] 34⟩ ([(0, 0), (0, 1), (2, 2), (0, 3)]) (by kernel_rfl) (by kernel_rfl) ⟨_, rfl, rfl, rfl, fun a w => rfl, fun md e he => by simp at he⟩ (fun _ _ d _ _ => by cases d <;> exact Iff.rfl) Keep.stays K.out.drew ?_
    clear K; intro W3 K hbw; replace K := Lib.hid K; have K0 := K
    clear hbw
    have x0 := Keep.acell (k := 0) K (.tail _ (.head _)) rfl
    (refine Ph.read rfl (by rfl) ?_; apply Exists.intro; refine ⟨fun p => ?_, ?_⟩; (focus (go_simp; (try (with_reducible rfl)); done)); (try simp only [Act.put, List.setIfInBounds_toArray, List.set_cons_zero, List.set_cons_succ]))
    (refine Ph.read rfl (by rfl) ?_; apply Exists.intro; refine ⟨fun p => ?_, ?_⟩; (focus (go_simp; (try (with_reducible rfl)); done)); (try simp only [Act.put, List.setIfInBounds_toArray, List.set_cons_zero, List.set_cons_succ]))
    clear x0
    (refine Ph.call (f := 19) (args := (#[.int .i64 1])) rfl (by rfl) (by (intro w2; go_simp; try (with_reducible rfl))) ?_; intro w2 hb; replace K := Lib.hid (Keep.stays _ _ K.out hb))
    clear hb
    refine (int_nz 1 _ (by omega) (by omega)).mono ?_
    rintro e w4 ⟨dn, DA, dl, dc, rfl, hN, hb⟩
    (refine ⟨_, rfl, hb, ?_⟩; replace K := Lib.hid (Keep.stays _ _ K.out hb); (try simp only [Act.put, List.setIfInBounds_toArray, List.set_cons_zero, List.set_cons_succ]))
    have HN := Lib.hid hN
    clear hb hN
    (refine Ph.read rfl (by rfl) ?_; apply Exists.intro; refine ⟨fun p => ?_, ?_⟩; (focus (go_simp; (try (with_reducible rfl)); done)); (try simp only [Act.put, List.setIfInBounds_toArray, List.set_cons_zero, List.set_cons_succ]))
    (intro w2 hb gt hg hge; replace K := Lib.hid (K0.out.held (Keep.stays _ _ K.out hb) hg hge); clear hg hge K0; simp only [ptr, List.drop_succ_cons, List.drop_zero, Act.put, List.setIfInBounds_toArray, List.set_cons_zero, List.set_cons_succ])
    replace HN := Lib.hid (HN.out.below hb)
    clear hb
    have y0 := K.out.cell (k := 0) (.head _) rfl
    have y1 := K.out.cell (k := 1) (.head _) rfl
    have y2 := K.out.cell (k := 2) (.head _) rfl
    have y3 := K.out.cell (k := 3) (.head _) rfl
    have y4 := K.out.cell (k := 4) (.head _) rfl
    have y5 := K.out.cell (k := 5) (.head _) rfl
    have y6 := K.out.cell (k := 6) (.head _) rfl
    have y7 := K.out.cell (k := 7) (.head _) rfl
    have f1 := fun o => K.out.warm (.head _) o
    go_upto_region 8 with fail
    clear y0 y1 y2 y3 y4 y5 y6 y7 f1
    refine out_with (B := fun W => Nz W dn (.slice DA dl dc) 1 2) (Keep.put8 [] K.out (.int .i64 n) (.slice RA rs.length rc) (.slice none 0 0) (.slice none 0 0) (.bool false) (.slice none 0 0) (.bool dn) (.slice DA dl dc)) ?_ ?_
    · exact HN.out.turn (Turn.put8 w2 gt _ _ _ _ _ _ _ _) (K.out.not32 (.head _) rfl (by intro z e; cases e))
    clear K HN
    intro W5 K HN
    replace K := Lib.hid K
    replace HN := Lib.hid HN
    have hmk := mk_lst n (by omega) n rfl
    have x0 := K.out.cell (k := 0) (.tail _ (.tail _ (.head _))) rfl
    have hlt := K.out.lt (.head _)
    have hne : (gt : Nat) ≠ W5.heap.size := Nat.ne_of_lt hlt
    have y3 := K.out.cell (k := 3) (.head _) rfl
    have f1 := fun o => K.out.warm (.head _) o
    have K2 := K.out.alloc (Obj.lst (List.replicate n Nm.zero))
    have z3 := K2.cell (k := 3) (.tail _ (.head _)) rfl
    have h1' := fun o => K2.warm (.tail _ (.head _)) o
    clear K2
    go_upto_region 9 with fail
    clear hmk x0 y3 z3 f1 h1' hlt hne
    have hne32 := K.out.not32 (.head _) rfl (by intro z e; cases e)
    replace HN := Lib.hid (HN.out.turn (Turn.set W5 gt 3 (.slice (some ⟨W5.heap.size, 0, none⟩) n n)) hne32)
    replace K := Lib.hid (Keep.set3 [] K.out (.slice (some ⟨W5.heap.size, 0, none⟩) n n))
    replace HN := Lib.hid (HN.out.below (below_one _ (Obj.lst (List.replicate n Nm.zero))))
    replace K := Lib.hid (K.out.alloc (Obj.lst (List.replicate n Nm.zero)))
    have hsz : (W5.setCell ⟨gt, 3, none⟩ (.slice (some ⟨W5.heap.size, 0, none⟩) n n)).heap.size = W5.heap.size := by simp [World.setCell]
    rw [hsz] at K
    clear hsz hne32
    generalize W5.heap.size = g8 at *
    refine out_with (B := fun W => Nz W dn (.slice DA dl dc) 1 2) K.out HN.out ?_
    clear K HN
    intro W6 K HN
    replace K := Lib.hid K
    replace HN := Lib.hid HN
    have y0 := K.out.cell (k := 0) (.tail _ (.head _)) rfl
    have y1 := K.out.cell (k := 1) (.tail _ (.head _)) rfl
    have y2 := K.out.cell (k := 2) (.tail _ (.head _)) rfl
    have y3 := K.out.cell (k := 3) (.tail _ (.head _)) rfl
    have y4 := K.out.cell (k := 4) (.tail _ (.head _)) rfl
    have y5 := K.out.cell (k := 5) (.tail _ (.head _)) rfl
    have y6 := K.out.cell (k := 6) (.tail _ (.head _)) rfl
    have y7 := K.out.cell (k := 7) (.tail _ (.head _)) rfl
    have f1 := fun o => K.out.warm (.tail _ (.head _)) o
    go_wp2_with fail
    refine (made29_any (.bool false) _ _ _ false dn _ _ n 0 (fun _ _ => 0) W6 (fun i j _ _ w' _ => zero29_any i j w') (by omega) ⟨⟨RA, _, rc, rfl⟩, ⟨none, 0, 0, rfl⟩, ⟨_, _, _, rfl⟩, ⟨none, 0, 0, rfl⟩, ⟨DA, dl, dc, rfl⟩⟩).mono ?_
    rintro e w7 ⟨v, rfl, hM, hb⟩
    obtain ⟨PA, pc, rfl, -⟩ : ∃ A c, v = .slice A n c ∧ True := by obtain ⟨A, c, h, -⟩ := hM.mv; exact ⟨A, c, h, trivial⟩
    replace K := Lib.hid (Keep.stays _ _ K.out hb)
    replace HN := Lib.hid (HN.out.below hb)
    have HM := Lib.hid hM
    clear hb hM y0 y1 y2 y3 y4 y5 y6 y7 f1
    have y0 := K.out.cell (k := 0) (.tail _ (.head _)) rfl
    have y1 := K.out.cell (k := 1) (.tail _ (.head _)) rfl
    have y2 := K.out.cell (k := 2) (.tail _ (.head _)) rfl
    have y3 := K.out.cell (k := 3) (.tail _ (.head _)) rfl
    have y4 := K.out.cell (k := 4) (.tail _ (.head _)) rfl
    have y5 := K.out.cell (k := 5) (.tail _ (.head _)) rfl
    have y6 := K.out.cell (k := 6) (.tail _ (.head _)) rfl
    have y7 := K.out.cell (k := 7) (.tail _ (.head _)) rfl
    have f1 := fun o => K.out.warm (.tail _ (.head _)) o
    go_upto_region 10 with fail
    clear y0 y1 y2 y3 y4 y5 y6 y7 f1
    have hne32 := K.out.not32 (.tail _ (.head _)) rfl (by intro z e; cases e)
    have htag := K.out.tagg (.tail _ (.head _))
    have hT := Turn.set w7 gt 2 (.slice PA n pc)
    replace HN := Lib.hid (HN.out.turn hT hne32)
    replace HM := Lib.hid (HM.out.turn hT htag (by decide) (by decide) hne32)
    replace K := Lib.hid (Keep.set2 [_] K.out (.slice PA n pc))
    clear hne32 htag hT
    refine out_with (B := fun W => Nz W dn (.slice DA dl dc) 1 2 ∧ Mo27 W (.slice PA n pc) n 0 (fun _ _ => 0)) K.out ⟨HN.out, HM.out⟩ ?_
    clear K HN HM
    intro W8 K HN
    replace K := Lib.hid K
    replace HN := Lib.hid HN
    have y0 := K.out.cell (k := 0) (.tail _ (.head _)) rfl
    have y1 := K.out.cell (k := 1) (.tail _ (.head _)) rfl
    have y2 := K.out.cell (k := 2) (.tail _ (.head _)) rfl
    have y3 := K.out.cell (k := 3) (.tail _ (.head _)) rfl
    have y4 := K.out.cell (k := 4) (.tail _ (.head _)) rfl
    have y5 := K.out.cell (k := 5) (.tail _ (.head _)) rfl
    have y6 := K.out.cell (k := 6) (.tail _ (.head _)) rfl
    have y7 := K.out.cell (k := 7) (.tail _ (.head _)) rfl
    have z0 := K.out.cell (k := 0) (.tail _ (.tail _ (.head _))) rfl
    have z1 := K.out.cell (k := 1) (.tail _ (.tail _ (.head _))) rfl
    have z2 := K.out.cell (k := 2) (.tail _ (.tail _ (.head _))) rfl
    have z3 := K.out.cell (k := 3) (.tail _ (.tail _ (.head _))) rfl
    have z4 := K.out.cell (k := 4) (.tail _ (.tail _ (.head _))) rfl
    have z5 := K.out.cell (k := 5) (.tail _ (.tail _ (.head _))) rfl
    have z6 := K.out.cell (k := 6) (.tail _ (.tail _ (.head _))) rfl
    have z7 := K.out.cell (k := 7) (.tail _ (.tail _ (.head _))) rfl
    have f1 := fun o => K.out.warm (.tail _ (.tail _ (.head _))) o
    have hgg : (gt : Nat) ≠ w.heap.size + 1 := by have := K.out.one; simp at this; omega
    have hgg2 := Ne.symm hgg
    go_wp2_with fail
    clear y0 y1 y2 y3 y4 y5 y6 y7 z0 z1 z2 z3 z4 z5 z6 z7 f1 hgg hgg2
    have hne32 := K.out.not32 (.tail _ (.tail _ (.head _))) rfl (by intro z e; cases e)
    have htag := K.out.tagg (.tail _ (.tail _ (.head _)))
    have hT := Turn.put8 W8 (w.heap.size + 1) (.int .i64 n) (.slice RA rs.length rc) (.slice PA n pc) (.slice (some ⟨g8, 0, none⟩) n n) (.bool false) (.slice none 0 0) (.bool dn) (.slice DA dl dc)
    have K2 := Lib.hid (Keep.put8 [_, _] K.out (.int .i64 n) (.slice RA rs.length rc) (.slice PA n pc) (.slice (some ⟨g8, 0, none⟩) n n) (.bool false) (.slice none 0 0) (.bool dn) (.slice DA dl dc))
    replace HN := Lib.hid (And.intro (HN.out.1.turn hT hne32) (HN.out.2.turn hT htag (by decide) (by decide) hne32))
    refine ret_g1 Tryz.results7 rfl (K2.out.gb (.tail _ (.tail _ (.head _)))) ?_
    have hQ : Lo _ 0 (.slice (some ⟨g8, 0, none⟩) n n) n 0 (fun _ => 0) := ⟨g8, _, rfl, Nat.zero_le _, K2.out.gb (.head _), by simp, Els.zero _ _ _⟩
    exact ⟨.inr ⟨_, _, dn, _, rfl, HR.out.below K2.out.B, HOK.out, ⟨HN.out.2.mv, hQ.lv, Nz.nil _⟩, HN.out.1, h3, h2⟩, K2.out.B⟩
end Go.Proofs.YtmidifgnpjlgcaaGreat
/- The walks of Curve. -/
set_option linter.unusedVariables false
set_option linter.unusedSimpArgs false
namespace Go.Proofs.YtmidifgnpjlgcaaGreat
open Go.RowKit

/-- A graph's own box. -/
def GCap (w : World) (g : Nat) (vs : Array Value) : Prop := w.heap[g]? = some (.cells vs 34)
theorem GCap.below {w w' : World} {g : Nat} {vs : Array Value} (h : GCap w g vs) (hb : Below w.heap.size w w') : GCap w' g vs := by
  unfold GCap at *
  rw [hb.block g (Array.getElem?_eq_some_iff.1 h).1]; exact h
theorem GCap.lt {w : World} {g : Nat} {vs : Array Value} (h : GCap w g vs) : g < w.heap.size := (Array.getElem?_eq_some_iff.1 h).1
theorem GCap.c {w : World} {g k : Nat} {vs : Array Value} {v : Value} (h : GCap w g vs) (hv : vs[k]? = some v) : w.cell? ⟨g, k, none⟩ = some v := (cellOf h).trans hv
theorem Keep.fara {w0 w : World} {p : Addr} {j : Nat} {v : Value} {l : List (Nat × Obj)} (K : Hid (Keep w0 l w)) (hlt : p.block < w0.heap.size) (h : w0.cell? (p.add j) = some v) (q : At (Keep w0 l)) : q.w.cell? (p.add j) = some v := by
  rw [q.h.B.cell (p := p.add j) (by rw [add_block]; exact hlt)]; exact h
theorem Iv.atv {w : World} {A : Option Addr} {m c : Nat} {xs : List Int} (h : Iv w (.slice A m c) xs) : ∀ j, j < xs.length → i64 (xs.getD j 0) ∧ ∃ p, A = some p ∧ p.block < w.heap.size ∧ w.cell? (p.add j) = some (.int .i64 (xs.getD j 0)) := by
  obtain ⟨A', c', hv, -, h⟩ := h
  cases hv
  exact h
/-- What each row's share is. -/
def Shr (w : World) (v : Value) (hs : List Int) (m : Nat) : Prop := Iv w v hs ∧ hs.length = m ∧ ∀ j, j < m → 0 ≤ hs.getD j 0 ∧ hs.getD j 0 ≤ 3355443200
theorem Shr.below {w w' : World} {t : Value} {xs : List Int} {n : Nat} (h : Shr w t xs n) (hb : Below w.heap.size w w') : Shr w' t xs n := ⟨h.1.below hb, h.2⟩
theorem mul_in {a b A B : Int} (h1 : -A ≤ a) (h2 : a ≤ A) (h3 : -B ≤ b) (h4 : b ≤ B) : -(A * B) ≤ a * b ∧ a * b ≤ A * B := by
  have k : (a * b).natAbs ≤ A.natAbs * B.natAbs := by
    rw [Int.natAbs_mul]
    exact Nat.mul_le_mul (by omega) (by omega)
  have e : ((A.natAbs * B.natAbs : Nat) : Int) = A * B := by
    rw [Int.natCast_mul, Int.natAbs_of_nonneg (by omega), Int.natAbs_of_nonneg (by omega)]
  omega

/-- How the cost bends, of shares. -/
def curveS (rs : List Rw) (hs : List Int) (i j : Nat) : Int := sumTo (fun k => hs.getD k 0 * (rs.getD k Rw.zero).coef.getD i 0 * (rs.getD k Rw.zero).coef.getD j 0) rs.length
theorem curve_last (x : Int) : x * 1 + 0 * 1024 = x := by omega

variable {w0 w : World} {l l2 : List (Nat × Obj)}
set_option maxHeartbeats 8000000 in
set_option maxRecDepth 100000 in
theorem curve99_any (gg gh : Nat) (rv pv qv cs ds sv : Value) (cn dn : Bool) (n : Nat) (rs : List Rw) (hs : List Int) (i j : Nat) (w : World) (h : Gz w rv pv qv cn cs dn ds n rs) (hg : GCap w gg #[.int .i64 n, rv, pv, qv, .bool cn, cs, .bool dn, ds]) (hc : Cap w gh sv) (hh : Shr w sv hs rs.length) (hi : i < n) (hj : j < n) :
    Calls Tryz.prog 99 #[.int .i64 i, .int .i64 j, .pointer (some ⟨gg, 0, none⟩), .pointer (some ⟨gh, 0, none⟩)] w (Told1 w 100 (curveS rs hs i j)) := by
  obtain ⟨CA, cl, cc, rfl⟩ := h.2.2.1.2.2.sl
  obtain ⟨DA, dl, dc, rfl⟩ := h.2.2.2.1.sl
  have HG := Lib.hid h; have HGC := Lib.hid hg; have HC := Lib.hid hc; have HH := Lib.hid hh
  obtain ⟨hl60, hn11⟩ := h.2.2.2.2
  obtain ⟨RA, rc, rfl, -, hra⟩ := h.1
  have HRA := Lib.hid hra
  obtain ⟨PA, pc, rfl, -, hpa⟩ := h.2.2.1.1
  have HPA := Lib.hid (hpa i hi)
  obtain ⟨QA, qc, rfl, -⟩ := h.2.2.1.2.1
  obtain ⟨SA, sc, rfl, -⟩ := hh.1
  have K := Lib.hid (Keep.begin2 w (Obj.num false (.slice none 0 0)) (Obj.num false (.slice none 0 0)))
  clear h hg hc hh hra hpa
  go_enter Tryz.func99, Tryz.ntmps99
  go_upto_region 2 with fail
  (refine out_keep K.out ?_; clear K; intro W K; replace K := Lib.hid K)
  have g1 := kept_cell K.out HGC.out.lt (HGC.out.c (k := 1) rfl)
  go_wp2_with fail
  clear g1
  go_loopg [13] rs.length (fun gk iv wr => ∃ (k : Nat) (q : Bool) (C : Option Addr) (l c : Nat), gk + k = rs.length ∧ iv = .int .i64 (k : Int) ∧ Nz wr q (.slice C l c) (sumTo (fun k => hs.getD k 0 * (rs.getD k Rw.zero).coef.getD i 0 * (rs.getD k Rw.zero).coef.getD j 0) k) (2 + k) ∧ Keep w [(w.heap.size + 1, Obj.num q (.slice C l c)), (w.heap.size, Obj.num false (.slice none 0 0))] wr)
  case atStart => exact ⟨0, false, none, 0, 0, by omega, rfl, (Nz.nil _).more (by omega), K.out⟩
  case round =>
    clear K
    obtain ⟨k, q, C, ll, lc, hgk, rfl, hN, k'⟩ := hrel
    have K := Lib.hid k'
    have HN := Lib.hid hN
    clear k' hN
    by_cases hk : k < rs.length
    · have HM := Lib.hid (HG.out.2.1 _ (mem_of_lt hk))
      have HHk := Lib.hid (HH.out.2.2 k hk)
      obtain ⟨b, off, B, d, rfl, hlt, hI, x0, x1, x2, x3⟩ := HRA.out k hk
      have X0 := kept_cell K.out hlt x0; have X1 := kept_cell K.out hlt x1; have X2 := kept_cell K.out hlt x2; have X3 := kept_cell K.out hlt x3
      have HI := Lib.hid hI
      clear hI x0 x1 x2 x3
      have HSM : Hid (sumTo (fun k => hs.getD k 0 * (rs.getD k Rw.zero).coef.getD i 0 * (rs.getD k Rw.zero).coef.getD j 0) (k + 1) = sumTo (fun k => hs.getD k 0 * (rs.getD k Rw.zero).coef.getD i 0 * (rs.getD k Rw.zero).coef.getD j 0) k + hs.getD k 0 * (rs.getD k Rw.zero).coef.getD i 0 * (rs.getD k Rw.zero).coef.getD j 0) := rfl
      generalize rs.getD k Rw.zero = r at *
      go_upto_region 5 with fail
      clear X0 X1 X2 X3
      replace HN := Lib.hid (HN.out.below (below_one wr (Obj.rw (.slice B r.coef.length d) r)))
      replace K := Lib.hid (K.out.alloc (Obj.rw (.slice B r.coef.length d) r))
      generalize wr.heap.size = gr at *
      (refine region_ord _ 19 (by kernel_rfl) (by kernel_rfl) K.out.drew ?_; clear K; intro W K hbw; replace K := Lib.hid K)
      replace HN := Lib.hid (HN.out.below hbw)
      clear hbw
      obtain ⟨e10, e11⟩ := Keep.anm K (.tail _ (.head _))
      have x0 := Keep.acell (k := 0) K (.head _) rfl
      have s0 := Keep.far K HC.out.1 HC.out.2
      obtain ⟨-, p1, rfl, hb1, hc1⟩ := HH.out.1.atv k (by rw [HH.out.2.1]; exact hk)
      obtain ⟨-, p2, rfl, hb2, hc2⟩ := HI.out.atv i (by rw [HM.out.1]; exact hi)
      obtain ⟨-, p3, e3, hb3, hc3⟩ := HI.out.atv j (by rw [HM.out.1]; exact hj)
      cases e3
      have c1 := Keep.fara K hb1 hc1
      have c2 := Keep.fara K hb2 hc2
      have c3 := Keep.fara K hb3 hc3
      obtain ⟨u1, u2⟩ := HHk.out
      obtain ⟨v1, v2⟩ := HM.out.2.2.1 i hi
      obtain ⟨t1, t2⟩ := HM.out.2.2.1 j hj
      have hlen1 : i < r.coef.length := by rw [HM.out.1]; exact hi
      have hlen2 : j < r.coef.length := by rw [HM.out.1]; exact hj
      have hlen3 : k < hs.length := by rw [HH.out.2.1]; exact hk
      generalize hs.getD k 0 = s1 at *
      generalize r.coef.getD i 0 = s2 at *
      generalize r.coef.getD j 0 = s3 at *
      obtain ⟨m1, m2⟩ := mul_in (show -3355443200 ≤ s1 by omega) u2 v1 v2
      obtain ⟨s4, hs4⟩ : ∃ z, z = s1 * s2 := ⟨_, rfl⟩
      have hw1 : IntKind.i64.wrap (s1 * s2) = s4 := by rw [hs4]; exact IntWalk.i64_in _ (by omega)
      rw [← hs4] at m1 m2 HSM
      clear hs4
      obtain ⟨m3, m4⟩ := mul_in m1 m2 t1 t2
      obtain ⟨s5, hs5⟩ : ∃ z, z = s4 * s3 := ⟨_, rfl⟩
      have hw2 : IntKind.i64.wrap (s4 * s3) = s5 := by rw [hs5]; exact IntWalk.i64_in _ (by omega)
      rw [← hs5] at m3 m4 HSM
      clear hs5
      (refine Ord.take' 0 rfl (by kernel_rfl) (fun _ _ _ _ h => h) K.out (by rfl) ?_; apply Exists.intro; refine ⟨fun p => ?_, ?_⟩; (focus (go_simp; (try (with_reducible rfl)); done)); (try simp only [Act.put, List.setIfInBounds_toArray, List.set_cons_zero, List.set_cons_succ]))
      (refine Ord.take' 1 rfl (by kernel_rfl) (fun _ _ _ _ h => h) K.out (by rfl) ?_; apply Exists.intro; refine ⟨fun p => ?_, ?_⟩; (focus (go_simp; (try (with_reducible rfl)); done)); (try simp only [Act.put, List.setIfInBounds_toArray, List.set_cons_zero, List.set_cons_succ]))
      (refine Ord.take' 2 rfl (by kernel_rfl) (fun _ _ _ _ h => h) K.out (by rfl) ?_; apply Exists.intro; refine ⟨fun p => ?_, ?_⟩; (focus (go_simp; (try (with_reducible rfl)); done)); (try simp only [Act.put, List.setIfInBounds_toArray, List.set_cons_zero, List.set_cons_succ]))
      (refine Ord.take' 3 rfl (by kernel_rfl) (fun _ _ _ _ h => h) K.out (by rfl) ?_; apply Exists.intro; refine ⟨fun p => ?_, ?_⟩; (focus (go_simp; (try (with_reducible rfl)); done)); (try simp only [Act.put, List.setIfInBounds_toArray, List.set_cons_zero, List.set_cons_succ]))
      (refine Ord.take' 4 rfl (by kernel_rfl) (fun _ _ _ _ h => h) K.out (by rfl) ?_; apply Exists.intro; refine ⟨fun p => ?_, ?_⟩; (focus (go_simp; (try (with_reducible rfl)); done)); (try simp only [Act.put, List.setIfInBounds_toArray, List.set_cons_zero, List.set_cons_succ]))
      (refine Ord.take' 5 rfl (by kernel_rfl) (fun _ _ _ _ h => h) K.out (by rfl) ?_; apply Exists.intro; refine ⟨fun p => ?_, ?_⟩; (focus (go_simp; (try (with_reducible rfl)); done)); (try simp only [Act.put, List.setIfInBounds_toArray, List.set_cons_zero, List.set_cons_succ]))
      (refine Ord.take' 6 rfl (by kernel_rfl) (fun _ _ _ _ h => h) K.out (by rfl) ?_; apply Exists.intro; refine ⟨fun p => ?_, ?_⟩; (focus (go_simp; (try (with_reducible rfl)); done)); (try simp only [Act.put, List.setIfInBounds_toArray, List.set_cons_zero, List.set_cons_succ]))
      (refine Ord.take' 7 rfl (by kernel_rfl) (fun _ _ _ _ h => h) K.out (by rfl) ?_; apply Exists.intro; refine ⟨fun p => ?_, ?_⟩; (focus (go_simp; (try (with_reducible rfl)); done)); (try simp only [Act.put, List.setIfInBounds_toArray, List.set_cons_zero, List.set_cons_succ]))
      (refine Ord.take' 8 rfl (by kernel_rfl) (fun _ _ _ _ h => h) K.out (by rfl) ?_; apply Exists.intro; refine ⟨fun p => ?_, ?_⟩; (focus (go_simp; (try (with_reducible rfl)); done)); (try simp only [Act.put, List.setIfInBounds_toArray, List.set_cons_zero, List.set_cons_succ]))
      (refine Ord.take' 9 rfl (by kernel_rfl) (fun _ _ _ _ h => h) K.out (by rfl) ?_; apply Exists.intro; refine ⟨fun p => ?_, ?_⟩; (focus (go_simp; (try (with_reducible rfl)); done)); (try simp only [Act.put, List.setIfInBounds_toArray, List.set_cons_zero, List.set_cons_succ]))
      (refine Ord.take' 10 rfl (by kernel_rfl) (fun _ _ _ _ h => h) K.out (by rfl) ?_; apply Exists.intro; refine ⟨fun p => ?_, ?_⟩; (focus (go_simp; (try (with_reducible rfl)); done)); (try simp only [Act.put, List.setIfInBounds_toArray, List.set_cons_zero, List.set_cons_succ]))
      (refine Ord.take' 11 rfl (by kernel_rfl) (fun _ _ _ _ h => h) K.out (by rfl) ?_; apply Exists.intro; refine ⟨fun p => ?_, ?_⟩; (focus (go_simp; (try (with_reducible rfl)); done)); (try simp only [Act.put, List.setIfInBounds_toArray, List.set_cons_zero, List.set_cons_succ]))
      (refine Ord.take' 12 rfl (by kernel_rfl) (fun _ _ _ _ h => h) K.out (by rfl) ?_; apply Exists.intro; refine ⟨fun p => ?_, ?_⟩; (focus (go_simp; (try (with_reducible rfl)); done)); (try simp only [Act.put, List.setIfInBounds_toArray, List.set_cons_zero, List.set_cons_succ]))
      (refine Ord.take' 13 rfl (by kernel_rfl) (fun _ _ _ _ h => h) K.out (by rfl) ?_; apply Exists.intro; refine ⟨fun p => ?_, ?_⟩; (focus (go_simp; (try (with_reducible rfl)); done)); (try simp only [Act.put, List.setIfInBounds_toArray, List.set_cons_zero, List.set_cons_succ]))
      (refine Ord.take' 14 rfl (by kernel_rfl) (fun _ _ _ _ h => h) K.out (by rfl) ?_; apply Exists.intro; refine ⟨fun p => ?_, ?_⟩; (focus (go_simp; (try (with_reducible rfl)); done)); (try simp only [Act.put, List.setIfInBounds_toArray, List.set_cons_zero, List.set_cons_succ]))
      (refine Ord.take' 15 rfl (by kernel_rfl) (fun _ _ _ _ h => h) K.out (by rfl) ?_; apply Exists.intro; refine ⟨fun p => ?_, ?_⟩; (focus (go_simp; (try (with_reducible rfl)); done)); (try simp only [Act.put, List.setIfInBounds_toArray, List.set_cons_zero, List.set_cons_succ]))
      (refine Ord.take' 16 rfl (by kernel_rfl) (fun _ _ _ _ h => h) K.out (by rfl) ?_; apply Exists.intro; refine ⟨fun p => ?_, ?_⟩; (focus (go_simp; (try (with_reducible rfl)); done)); (try simp only [Act.put, List.setIfInBounds_toArray, List.set_cons_zero, List.set_cons_succ]))
      clear e10 e11 x0 s0 c1 c2 c3 hw1 hw2
      (refine Ord.call 17 (g := 19) (args := (#[.int .i64 s5])) rfl (by kernel_rfl) (by rfl) (by (go_simp; try (with_reducible rfl))) ?_)
      refine (int_nz s5 _ (by omega) (by omega)).mono ?_
      rintro e w6 ⟨q3, A3, l3, k3, rfl, hN3, hb⟩
      (refine ⟨_, rfl, Keep.stays _ _ K.out hb, ?_⟩; replace K := Lib.hid (Keep.stays _ _ K.out hb); simp only [Act.put, List.setIfInBounds_toArray, List.set_cons_zero, List.set_cons_succ])
      replace HN := Lib.hid (HN.out.below hb)
      clear hb
      (refine Ord.call 18 (g := 43) (args := (#[.agg #[.bool q, .slice C ll lc], .agg #[.bool q3, .slice A3 l3 k3]])) rfl (by kernel_rfl) (by rfl) (by (go_simp; try (with_reducible rfl))) ?_)
      refine (add_nz HN.out hN3 (by omega) (by omega)).mono ?_
      rintro e w7 ⟨q4, A4, l4, k4, rfl, hN4, hb⟩
      (refine ⟨_, rfl, Keep.stays _ _ K.out hb, ?_⟩; replace K := Lib.hid (Keep.stays _ _ K.out hb); simp only [Act.put, List.setIfInBounds_toArray, List.set_cons_zero, List.set_cons_succ])
      have H4 := Lib.hid hN4
      clear hb hN3 hN4 HN
      (refine Ord.done (by kernel_rfl) ?_; simp only [List.drop_succ_cons, List.drop_zero, Act.put, List.setIfInBounds_toArray, List.set_cons_zero, List.set_cons_succ])
      replace K := Lib.hid K.out.rest
      obtain ⟨f1, c10, c11⟩ := K.out.nm (.head _)
      go_wp2_with fail
      clear f1 c10 c11
      go_roundg (gk - 1)
      case measure => omega
      case rel => exact ⟨k + 1, q4, A4, l4, k4, by omega, congrArg (Value.int .i64) (by omega), ((H4.out.put (K.out.nm (.head _)).2.1 _ _).more (by omega)).val HSM.out.symm, K.out.putn_0 _ _⟩
    · obtain ⟨bp, BP, dp, rfl, hpl, hpc, hPL⟩ := HPA.out
      obtain ⟨b0, n0, B0, l0, d0, rfl, hlt0, y0, y1, hn0⟩ := hPL.at j hj
      have H0 := Lib.hid hn0
      clear hn0 hPL
      go_upto_region 7 with fail
      (refine region_ord _ 16 (by kernel_rfl) (by kernel_rfl) K.out.drew ?_; clear K; intro W K hbw; replace K := Lib.hid K)
      replace HN := Lib.hid (HN.out.below hbw)
      clear hbw
      obtain ⟨e10, e11⟩ := Keep.anm K (.head _)
      have g2 := Keep.far K HGC.out.lt (HGC.out.c (k := 2) rfl)
      have g6 := Keep.far K HGC.out.lt (HGC.out.c (k := 6) rfl)
      have g7 := Keep.far K HGC.out.lt (HGC.out.c (k := 7) rfl)
      have p0 := Keep.far K hpl hpc
      have y0' := Keep.far K hlt0 y0
      have y1' := Keep.far K hlt0 y1
      (refine Ord.take' 0 rfl (by kernel_rfl) (fun _ _ _ _ h => h) K.out (by rfl) ?_; apply Exists.intro; refine ⟨fun p => ?_, ?_⟩; (focus (go_simp; (try (with_reducible rfl)); done)); (try simp only [Act.put, List.setIfInBounds_toArray, List.set_cons_zero, List.set_cons_succ]))
      (refine Ord.take' 1 rfl (by kernel_rfl) (fun _ _ _ _ h => h) K.out (by rfl) ?_; apply Exists.intro; refine ⟨fun p => ?_, ?_⟩; (focus (go_simp; (try (with_reducible rfl)); done)); (try simp only [Act.put, List.setIfInBounds_toArray, List.set_cons_zero, List.set_cons_succ]))
      (refine Ord.take' 2 rfl (by kernel_rfl) (fun _ _ _ _ h => h) K.out (by rfl) ?_; apply Exists.intro; refine ⟨fun p => ?_, ?_⟩; (focus (go_simp; (try (with_reducible rfl)); done)); (try simp only [Act.put, List.setIfInBounds_toArray, List.set_cons_zero, List.set_cons_succ]))
      (refine Ord.take' 4 rfl (by kernel_rfl) (fun _ _ _ _ h => h) K.out (by rfl) ?_; apply Exists.intro; refine ⟨fun p => ?_, ?_⟩; (focus (go_simp; (try (with_reducible rfl)); done)); (try simp only [Act.put, List.setIfInBounds_toArray, List.set_cons_zero, List.set_cons_succ]))
      (refine Ord.take' 5 rfl (by kernel_rfl) (fun _ _ _ _ h => h) K.out (by rfl) ?_; apply Exists.intro; refine ⟨fun p => ?_, ?_⟩; (focus (go_simp; (try (with_reducible rfl)); done)); (try simp only [Act.put, List.setIfInBounds_toArray, List.set_cons_zero, List.set_cons_succ]))
      (refine Ord.take' 6 rfl (by kernel_rfl) (fun _ _ _ _ h => h) K.out (by rfl) ?_; apply Exists.intro; refine ⟨fun p => ?_, ?_⟩; (focus (go_simp; (try (with_reducible rfl)); done)); (try simp only [Act.put, List.setIfInBounds_toArray, List.set_cons_zero, List.set_cons_succ]))
      (refine Ord.take' 7 rfl (by kernel_rfl) (fun _ _ _ _ h => h) K.out (by rfl) ?_; apply Exists.intro; refine ⟨fun p => ?_, ?_⟩; (focus (go_simp; (try (with_reducible rfl)); done)); (try simp only [Act.put, List.setIfInBounds_toArray, List.set_cons_zero, List.set_cons_succ]))
      (refine Ord.take' 8 rfl (by kernel_rfl) (fun _ _ _ _ h => h) K.out (by rfl) ?_; apply Exists.intro; refine ⟨fun p => ?_, ?_⟩; (focus (go_simp; (try (with_reducible rfl)); done)); (try simp only [Act.put, List.setIfInBounds_toArray, List.set_cons_zero, List.set_cons_succ]))
      (refine Ord.take' 9 rfl (by kernel_rfl) (fun _ _ _ _ h => h) K.out (by rfl) ?_; apply Exists.intro; refine ⟨fun p => ?_, ?_⟩; (focus (go_simp; (try (with_reducible rfl)); done)); (try simp only [Act.put, List.setIfInBounds_toArray, List.set_cons_zero, List.set_cons_succ]))
      (refine Ord.take' 10 rfl (by kernel_rfl) (fun _ _ _ _ h => h) K.out (by rfl) ?_; apply Exists.intro; refine ⟨fun p => ?_, ?_⟩; (focus (go_simp; (try (with_reducible rfl)); done)); (try simp only [Act.put, List.setIfInBounds_toArray, List.set_cons_zero, List.set_cons_succ]))
      (refine Ord.take' 11 rfl (by kernel_rfl) (fun _ _ _ _ h => h) K.out (by rfl) ?_; apply Exists.intro; refine ⟨fun p => ?_, ?_⟩; (focus (go_simp; (try (with_reducible rfl)); done)); (try simp only [Act.put, List.setIfInBounds_toArray, List.set_cons_zero, List.set_cons_succ]))
      (refine Ord.take' 12 rfl (by kernel_rfl) (fun _ _ _ _ h => h) K.out (by rfl) ?_; apply Exists.intro; refine ⟨fun p => ?_, ?_⟩; (focus (go_simp; (try (with_reducible rfl)); done)); (try simp only [Act.put, List.setIfInBounds_toArray, List.set_cons_zero, List.set_cons_succ]))
      clear e10 e11 g2 g6 g7 p0 y0' y1'
      (refine Ord.call 3 (g := 23) (args := (#[.agg #[.bool q, .slice C ll lc], .agg #[.bool dn, .slice DA dl dc]])) rfl (by kernel_rfl) (by rfl) (by (go_simp; try (with_reducible rfl))) ?_)
      refine (mul_nz HN.out (HG.out.2.2.2.1.below K.out.B) (by omega) (by omega)).mono ?_
      rintro e w6 ⟨q3, A3, l3, k3, rfl, hN3, hb⟩
      (refine ⟨_, rfl, Keep.stays _ _ K.out hb, ?_⟩; replace K := Lib.hid (Keep.stays _ _ K.out hb); simp only [Act.put, List.setIfInBounds_toArray, List.set_cons_zero, List.set_cons_succ])
      clear hb HN
      (refine Ord.call 13 (g := 19) (args := (#[.int .i64 1024])) rfl (by kernel_rfl) (by rfl) (by (go_simp; try (with_reducible rfl))) ?_)
      refine (int_nz 1024 _ (by omega) (by omega)).mono ?_
      rintro e w7 ⟨q4, A4, l4, k4, rfl, hN4, hb⟩
      (refine ⟨_, rfl, Keep.stays _ _ K.out hb, ?_⟩; replace K := Lib.hid (Keep.stays _ _ K.out hb); simp only [Act.put, List.setIfInBounds_toArray, List.set_cons_zero, List.set_cons_succ])
      replace hN3 := hN3.below hb
      clear hb
      (refine Ord.call 14 (g := 23) (args := (#[.agg #[.bool n0, .slice B0 l0 d0], .agg #[.bool q4, .slice A4 l4 k4]])) rfl (by kernel_rfl) (by rfl) (by (go_simp; try (with_reducible rfl))) ?_)
      refine (mul_nz (H0.out.below K.out.B) hN4 (by omega) (by omega)).mono ?_
      rintro e w8 ⟨q5, A5, l5, k5, rfl, hN5, hb⟩
      (refine ⟨_, rfl, Keep.stays _ _ K.out hb, ?_⟩; replace K := Lib.hid (Keep.stays _ _ K.out hb); simp only [Act.put, List.setIfInBounds_toArray, List.set_cons_zero, List.set_cons_succ])
      replace hN3 := hN3.below hb
      clear hb hN4
      (refine Ord.call 15 (g := 43) (args := (#[.agg #[.bool q3, .slice A3 l3 k3], .agg #[.bool q5, .slice A5 l5 k5]])) rfl (by kernel_rfl) (by rfl) (by (go_simp; try (with_reducible rfl))) ?_)
      refine (add_nz hN3 hN5 (by omega) (by omega)).mono ?_
      rintro e w9 ⟨q6, A6, l6, k6, rfl, hN6, hb⟩
      (refine ⟨_, rfl, Keep.stays _ _ K.out hb, ?_⟩; replace K := Lib.hid (Keep.stays _ _ K.out hb); simp only [Act.put, List.setIfInBounds_toArray, List.set_cons_zero, List.set_cons_succ])
      have H6 := Lib.hid hN6
      clear hb hN3 hN5 hN6
      (refine Ord.done (by kernel_rfl) ?_; simp only [List.drop_succ_cons, List.drop_zero, Act.put, List.setIfInBounds_toArray, List.set_cons_zero, List.set_cons_succ])
      obtain ⟨f1, c10, c11⟩ := K.out.nm (.tail _ (.head _))
      go_wp2_with fail
      refine ret_nm Tryz.results99 rfl ((K.out.putn_1 q6 (.slice A6 l6 k6)).nb (.tail _ (.head _))) ?_
      exact ⟨q6, _, _, _, rfl, ((H6.out.put (K.out.nm (.tail _ (.head _))).2.1 _ _).more (by omega)).val ((curve_last _).trans (by rw [show k = rs.length by omega]; rfl)), (K.out.putn_1 q6 (.slice A6 l6 k6)).B⟩
end Go.Proofs.YtmidifgnpjlgcaaGreat
/- The walk of Curve. -/
set_option linter.unusedVariables false
set_option linter.unusedSimpArgs false
namespace Go.Proofs.YtmidifgnpjlgcaaGreat
open Go.RowKit

theorem Keep.set1 {w0 w : World} {l2 : List (Nat × Obj)} {b : Nat} {a0 : Value} {t : TypeId} (K : Keep w0 ((b, .cells #[a0] t) :: l2) w) (u : Value) : Keep w0 ((b, .cells #[u] t) :: l2) (w.setCell ⟨b, 0, none⟩ u) := by
  have := K.set [] 0 u
  simp only [List.setIfInBounds_toArray, List.set_cons_zero, List.nil_append] at this
  exact this
theorem Ord.lay {P : Program} {md : Region.Mode} {ops : Array Oper} {Q : Exit → Act → World → Prop} {S : World → Prop} {n f : Nat} {b : Array Bool} {a : Act} {w w' : World} (i : Nat) {o : Oper} {v : Value} (hi : ops.toList[i]? = some o) (hc : (decide (i < n) && decide (Region.ready md ops b = [i])) = true)
    (hw : Region.wanted o (yielded ops a.tmps) = true) (hrun : (execOp a.eval o).run P w = .ok (.value v) w') (hS : S w') (h : Ord P md ops Q S n f (b.setIfInBounds i true) (a.put o.dst v) w') : Ord P md ops Q S n (f + 1) b a w := by
  refine Ord.step i hi hc hw ?_
  unfold Oper.wp
  rw [hrun]
  exact ⟨hS, h⟩

/-- The shares of rows. -/
def shs (rs : List Rw) (xs : List Int) : List Int := rs.map (fun r => r.weight * share r xs)
/-- How the cost bends. -/
def curveF (rs : List Rw) (xs : List Int) (i j : Nat) : Int := curveS rs (shs rs xs) i j
theorem shs_snoc {rs : List Rw} {xs : List Int} {k : Nat} (hk : k < rs.length) : (rs.take (k + 1)).map (fun r => r.weight * share r xs) = (rs.take k).map (fun r => r.weight * share r xs) ++ [(rs.getD k Rw.zero).weight * share (rs.getD k Rw.zero) xs] := by
  have e : rs.take (k + 1) = rs.take k ++ [rs.getD k Rw.zero] := by
    rw [List.take_add_one, List.getElem?_eq_getElem hk, List.getD_eq_getElem?_getD, List.getElem?_eq_getElem hk]; rfl
  rw [e, List.map_append]
  rfl

set_option maxHeartbeats 8000000 in
set_option maxRecDepth 100000 in
theorem made99_any (gA gP gQ gR k1 k2 : Value) (cn dn : Bool) (gC gD : Value) (n N : Nat) (f : Nat → Nat → Int) (w : World) (hF : ∀ i j : Nat, i < n → j < n → ∀ w', Below w.heap.size w w' → Calls Tryz.prog 99 #[.int .i64 i, .int .i64 j, k1, k2] w' (Told1 w' N (f i j))) (hn : n ≤ 1000000) (hs : (∃ A l c, gR = .slice A l c) ∧ (∃ A l c, gP = .slice A l c) ∧ (∃ A l c, gQ = .slice A l c) ∧ (∃ A l c, gC = .slice A l c) ∧ (∃ A l c, gD = .slice A l c)) :
    Calls Tryz.prog 28 #[.agg #[.int .i64 n, gR, gP, gQ, .bool cn, gC, .bool dn, gD], .func (.func 99) #[] #[k1, k2]] w fun e w' => ∃ v, e = .returned v ∧ Mo27 w' v n N f ∧ Below w.heap.size w w' := by
  obtain ⟨⟨A1, l1, c1, rfl⟩, ⟨A2, l2, c2, rfl⟩, ⟨A3, l3, c3, rfl⟩, ⟨A4, l4, c4, rfl⟩, ⟨A5, l5, c5, rfl⟩⟩ := hs
  have K := Lib.hid (Keep.begin1 w (.cells #[.int .i64 n, .slice A1 l1 c1, .slice A2 l2 c2, .slice A3 l3 c3, .bool cn, .slice A4 l4 c4, .bool dn, .slice A5 l5 c5] 34))
  have HF := Lib.hid hF
  have hsz := Lib.hid (Nat.succ_le_of_lt (K.out.lt (.head _)))
  clear hF
  go_enter Tryz.func28, Tryz.ntmps28
  have x0 := K.out.cell (k := 0) (.head _) rfl
  go_wp2_with fail
  clear x0
  go_loopg [5, 11] n (fun gk ov iv wr => ∃ (i : Nat) (vs : List Value), gk + i = n ∧ iv = .int .i64 (i : Int) ∧ Swn wr (w.heap.size + 1) 27 ov vs ∧ vs.length = i ∧ All vs (fun i x => Lr wr x n N (f i)) ∧ Keep w [(w.heap.size, .cells #[.int .i64 n, .slice A1 l1 c1, .slice A2 l2 c2, .slice A3 l3 c3, .bool cn, .slice A4 l4 c4, .bool dn, .slice A5 l5 c5] 34)] wr ∧ w.heap.size + 1 ≤ wr.heap.size)
  case atStart => exact ⟨0, [], by omega, rfl, Swn.nil _ _ _, rfl, All.nil _, K.out, hsz.out⟩
  case round =>
    clear K hsz
    rename World => wo
    obtain ⟨i, vs, hgi, rfl, hown, hvl, hall, k', hsz'⟩ := hrel
    have HO := Lib.hid (And.intro hown (And.intro hvl hall))
    have K := Lib.hid k'
    have hsz := Lib.hid hsz'
    clear hown hvl hall k' hsz'
    by_cases hi : i < n
    · have x0 := K.out.cell (k := 0) (.head _) rfl
      go_wp2_with fail
      clear x0
      have KI := Lib.hid (Below.refl wo.heap.size wo)
      go_loopg [7, 16] n (fun g2 rv jv wr2 => ∃ (j : Nat) (L : List Nm), g2 + j = n ∧ jv = .int .i64 (j : Int) ∧ Lwn wr2 wo.heap.size rv L ∧ L.length = j ∧ Els wr2 L N (f i) ∧ Below wo.heap.size wo wr2)
      case atStart => exact ⟨0, [], by omega, rfl, Lwn.nil _ _, rfl, Els.nil _ _ _, KI.out⟩
      case round =>
        clear KI
        obtain ⟨j, L, hgj, rfl, hown, hl, he, hb2⟩ := hrel
        have HR := Lib.hid (And.intro hown (And.intro hl he))
        have KI := Lib.hid (Keep.of hb2)
        clear hown hl he hb2
        by_cases hj : j < n
        · go_wp2_with fail
          refine (HF.out i j hi hj _ (K.out.B.trans (KI.out.B.mono K.out.B.size))).mono ?_
          rintro e w2 ⟨q, A, ll, lc, rfl, hN, hb⟩
          replace HR := Lib.hid (And.intro (HR.out.1.below hb) (And.intro HR.out.2.1 (HR.out.2.2.below hb)))
          replace KI := Lib.hid (Keep.stays _ _ KI.out hb)
          have HN := Lib.hid hN
          clear hb hN
          go_wp2_with (at_builtin; refine app1l rfl (.tmp 19) (.tmp 24) rfl wo.heap.size u7 L q A ll lc rfl HR.out.1 rfl (by rw [HR.out.2.1]; omega) KI.out.B.size ?_; intro v' w' hown' hnz' hkeep')
          have Y := Lib.hid (And.intro hown' (And.intro (hkeep' _ _ KI.out (by simp) (Nat.le_refl _)).B (And.intro (HR.out.2.2.turn hnz') (hnz' _ _ _ _ HN.out))))
          have HYL : Hid ((L ++ [(⟨q, A, ll, lc⟩ : Nm)]).length = j + 1) := by show _ = _; rw [List.length_append, HR.out.2.1]; rfl
          clear hown' hkeep' hnz' HR KI HN
          go_roundg (n - (j + 1))
          case measure => omega
          case rel =>
            have hll : L.length = j := by have := HYL.out; simp at this; omega
            exact ⟨j + 1, _, by omega, congrArg (Value.int .i64) (by omega), Y.out.1, HYL.out, Y.out.2.2.1.snoc _ (by rw [hll]; exact Y.out.2.2.2), Y.out.2.1⟩
        · have HLn : Hid (L.length = n) := by have := HR.out.2.1; show _ = _; omega
          obtain ⟨RA, rcp, rfl⟩ := HR.out.1.sl
          have HRr : Hid (Lr _ (.slice RA L.length rcp) n N (f i)) := Lib.hid ⟨L, ⟨owns_mono HR.out.1.1 (Nat.zero_le _), HR.out.1.2⟩, HLn.out, HR.out.2.2⟩
          replace K := Lib.hid (Keep.stays _ _ K.out KI.out.B)
          replace HO := Lib.hid (And.intro (HO.out.1.below KI.out.B) (And.intro HO.out.2.1 (HO.out.2.2.mono fun j x _ hx => hx.below KI.out.B)))
          replace hsz := Lib.hid (Nat.le_trans hsz.out KI.out.B.size)
          clear HR KI
          rw [HLn.out] at HRr
          rw [HLn.out]
          go_wp2_with (at_builtin; refine app1s 26 27 Tryz.underlying26 info27 rfl (.tmp 27) (.tmp 29) rfl (w.heap.size + 1) u5 vs RA n rcp rfl HO.out.1 rfl (by rw [HO.out.2.1]; omega) hsz.out ?_; intro v' w' hown' hturn' hkeep')
          have hcell := HO.out.1.2.1
          have Y := Lib.hid (And.intro hown' (And.intro (hkeep' _ _ K.out (by simp) (Nat.le_succ _)) (And.intro (HO.out.2.2.mono fun j x _ hx => hx.turn hturn' HO.out.1.tag hcell) (HRr.out.turn hturn' HO.out.1.tag hcell))))
          have HYL : Hid ((vs ++ [Value.slice RA n rcp]).length = i + 1) := by show _ = _; rw [List.length_append, HO.out.2.1]; rfl
          clear hown' hkeep' hturn' HO K hcell HRr
          go_roundg (n - (i + 1))
          case measure => omega
          case rel =>
            have hll : vs.length = i := by have := HYL.out; simp at this; omega
            exact ⟨i + 1, _, by omega, congrArg (Value.int .i64) (by omega), Y.out.1, HYL.out, Y.out.2.2.1.snoc _ (by rw [hll]; exact Y.out.2.2.2), Y.out.2.1, Y.out.2.1.lt (.head _)⟩
    · have HI : Hid (vs.length = n) := by have := HO.out.2.1; show _ = _; omega
      obtain ⟨OA, oc, rfl, -⟩ := HO.out.1.at
      go_wp2_with fail
      go_ret
      exact ⟨_, rfl, ⟨vs, ⟨owns_mono HO.out.1.1 (Nat.zero_le _), HO.out.1.2⟩, HI.out, HO.out.2.2⟩, K.out.B⟩


set_option maxHeartbeats 8000000 in
set_option maxRecDepth 100000 in
theorem curve_any (rv pv qv cs ds t : Value) (cn dn : Bool) (n : Nat) (rs : List Rw) (xs : List Int) (w : World) (h : Gz w rv pv qv cn cs dn ds n rs) (hx : Sta w t xs n) :
    Calls Tryz.prog 69 #[.agg #[.int .i64 n, rv, pv, qv, .bool cn, cs, .bool dn, ds], t] w fun e w' => ∃ v, e = .returned v ∧ Mo27 w' v n 100 (curveF rs xs) ∧ Below w.heap.size w w' := by
  obtain ⟨CA, cl, cc, rfl⟩ := h.2.2.1.2.2.sl
  obtain ⟨DA, dl, dc, rfl⟩ := h.2.2.2.1.sl
  have HG := Lib.hid h; have HX := Lib.hid hx
  obtain ⟨hl60, hn11⟩ := h.2.2.2.2
  obtain ⟨RA, rc, rfl, -, hra⟩ := h.1
  have HRA := Lib.hid hra
  obtain ⟨PA, pc, rfl, -⟩ := h.2.2.1.1
  obtain ⟨QA, qc, rfl, -⟩ := h.2.2.1.2.1
  obtain ⟨B0, d0, rfl, -⟩ := hx.1
  have K := Lib.hid (Keep.begin2 w (.cells #[.int .i64 n, .slice RA rs.length rc, .slice PA n pc, .slice QA n qc, .bool cn, .slice CA cl cc, .bool dn, .slice DA dl dc] 34) (.cells #[.slice none 0 0] 23))
  have hsz := Lib.hid (Nat.succ_le_of_lt (K.out.lt (.head _)))
  clear h hx hra
  go_enter Tryz.func69, Tryz.ntmps69
  have x1 := K.out.cell (k := 1) (.tail _ (.head _)) rfl
  go_wp2_with fail
  clear x1
  go_loopg [11] rs.length (fun gk iv wr => ∃ (k : Nat) (SA : Option Addr) (sc : Nat) (hs : List Int), gk + k = rs.length ∧ iv = .int .i64 (k : Int) ∧ hs.length = k ∧ Qwn wr (w.heap.size + 1 + 1) (.slice SA k sc) hs ∧ ((∀ j, j < k → 0 ≤ hs.getD j 0 ∧ hs.getD j 0 ≤ 3355443200) ∧ hs = (rs.take k).map (fun r => r.weight * share r xs)) ∧ Keep w [(w.heap.size + 1, .cells #[.slice SA k sc] 23), (w.heap.size, .cells #[.int .i64 n, .slice RA rs.length rc, .slice PA n pc, .slice QA n qc, .bool cn, .slice CA cl cc, .bool dn, .slice DA dl dc] 34)] wr ∧ w.heap.size + 1 + 1 ≤ wr.heap.size)
  case atStart => exact ⟨0, none, 0, [], by omega, rfl, rfl, Qwn.nil _ _, ⟨fun j hj => absurd hj (by omega), by simp⟩, K.out, hsz.out⟩
  case round =>
    clear K hsz
    obtain ⟨k, SA, sc, hs, hgk, rfl, hsl, hq, hbd, k', hsz'⟩ := hrel
    have K := Lib.hid k'
    have HQ := Lib.hid (And.intro hsl (And.intro hq hbd))
    have hsz := Lib.hid hsz'
    clear k' hsl hq hbd hsz'
    by_cases hk : k < rs.length
    · have HM := Lib.hid (HG.out.2.1 _ (mem_of_lt hk))
      obtain ⟨b, off, B, d, rfl, hlt, hI, x0, x1, x2, x3⟩ := HRA.out k hk
      have X0 := kept_cell K.out hlt x0; have X1 := kept_cell K.out hlt x1; have X2 := kept_cell K.out hlt x2; have X3 := kept_cell K.out hlt x3
      have HI := Lib.hid hI
      clear hI x0 x1 x2 x3
      have HSN := Lib.hid (shs_snoc (xs := xs) hk)
      rw [← HQ.out.2.2.2] at HSN
      generalize rs.getD k Rw.zero = r at *
      go_upto_region 5 with fail
      clear X0 X1 X2 X3
      replace HQ := Lib.hid (And.intro HQ.out.1 (And.intro (HQ.out.2.1.below (below_one wr (Obj.rw (.slice B r.coef.length d) r))) HQ.out.2.2))
      replace K := Lib.hid (K.out.alloc (Obj.rw (.slice B r.coef.length d) r))
      replace hsz := Lib.hid (Nat.le_trans hsz.out (below_one wr (Obj.rw (.slice B r.coef.length d) r)).size)
      generalize wr.heap.size = gr at *
      (refine region_ord _ 9 (by kernel_rfl) (by kernel_rfl) K.out.drew ?_; clear K; intro W K hbw; replace K := Lib.hid K)
      replace HQ := Lib.hid (And.intro HQ.out.1 (And.intro (HQ.out.2.1.below hbw) HQ.out.2.2))
      replace hsz := Lib.hid (Nat.le_trans hsz.out hbw.size)
      clear hbw
      have y0 := Keep.acell (k := 0) K (.head _) rfl
      have y1 := Keep.acell (k := 1) K (.head _) rfl
      have y2 := Keep.acell (k := 2) K (.head _) rfl
      have y3 := Keep.acell (k := 3) K (.head _) rfl
      have s0 := Keep.acell (k := 0) K (.tail _ (.head _)) rfl
      have g0 := Keep.acell (k := 0) K (.tail _ (.tail _ (.head _))) rfl
      have g1 := Keep.acell (k := 1) K (.tail _ (.tail _ (.head _))) rfl
      have g2 := Keep.acell (k := 2) K (.tail _ (.tail _ (.head _))) rfl
      have g3 := Keep.acell (k := 3) K (.tail _ (.tail _ (.head _))) rfl
      have g4 := Keep.acell (k := 4) K (.tail _ (.tail _ (.head _))) rfl
      have g5 := Keep.acell (k := 5) K (.tail _ (.tail _ (.head _))) rfl
      have g6 := Keep.acell (k := 6) K (.tail _ (.tail _ (.head _))) rfl
      have g7 := Keep.acell (k := 7) K (.tail _ (.tail _ (.head _))) rfl
      (refine Ord.take' 0 rfl (by kernel_rfl) (fun _ _ _ _ h => h) K.out (by rfl) ?_; apply Exists.intro; refine ⟨fun p => ?_, ?_⟩; (focus (go_simp; (try (with_reducible rfl)); done)); (try simp only [Act.put, List.setIfInBounds_toArray, List.set_cons_zero, List.set_cons_succ]))
      (refine Ord.take' 1 rfl (by kernel_rfl) (fun _ _ _ _ h => h) K.out (by rfl) ?_; apply Exists.intro; refine ⟨fun p => ?_, ?_⟩; (focus (go_simp; (try (with_reducible rfl)); done)); (try simp only [Act.put, List.setIfInBounds_toArray, List.set_cons_zero, List.set_cons_succ]))
      (refine Ord.take' 2 rfl (by kernel_rfl) (fun _ _ _ _ h => h) K.out (by rfl) ?_; apply Exists.intro; refine ⟨fun p => ?_, ?_⟩; (focus (go_simp; (try (with_reducible rfl)); done)); (try simp only [Act.put, List.setIfInBounds_toArray, List.set_cons_zero, List.set_cons_succ]))
      (refine Ord.take' 3 rfl (by kernel_rfl) (fun _ _ _ _ h => h) K.out (by rfl) ?_; apply Exists.intro; refine ⟨fun p => ?_, ?_⟩; (focus (go_simp; (try (with_reducible rfl)); done)); (try simp only [Act.put, List.setIfInBounds_toArray, List.set_cons_zero, List.set_cons_succ]))
      (refine Ord.take' 4 rfl (by kernel_rfl) (fun _ _ _ _ h => h) K.out (by rfl) ?_; apply Exists.intro; refine ⟨fun p => ?_, ?_⟩; (focus (go_simp; (try (with_reducible rfl)); done)); (try simp only [Act.put, List.setIfInBounds_toArray, List.set_cons_zero, List.set_cons_succ]))
      (refine Ord.take' 5 rfl (by kernel_rfl) (fun _ _ _ _ h => h) K.out (by rfl) ?_; apply Exists.intro; refine ⟨fun p => ?_, ?_⟩; (focus (go_simp; (try (with_reducible rfl)); done)); (try simp only [Act.put, List.setIfInBounds_toArray, List.set_cons_zero, List.set_cons_succ]))
      clear y0 y1 y2 y3 s0 g0 g1 g2 g3 g4 g5 g6 g7
      (refine Ord.call 6 (g := 52) (args := (#[.agg #[.int .i64 n, .slice (some ⟨b, off, none⟩) rs.length rc, .slice PA n pc, .slice QA n qc, .bool cn, .slice CA cl cc, .bool dn, .slice DA dl dc], .agg #[.slice B r.coef.length d, .int .i64 r.z, .int .i64 r.knee, .int .i64 r.weight], .slice B0 xs.length d0])) rfl (by kernel_rfl) (by rfl) (by (go_simp; try (with_reducible rfl))) ?_)
      refine (share_any _ _ _ r n xs _ _ _ _ _ _ _ _ _ rfl (HI.out.below K.out.B) HM.out (HX.out.1.below K.out.B) HX.out.2.1 HX.out.2.2).mono ?_
      rintro e w6 ⟨rfl, hb⟩
      (refine ⟨_, rfl, Keep.stays _ _ K.out hb, ?_⟩; replace K := Lib.hid (Keep.stays _ _ K.out hb); simp only [Act.put, List.setIfInBounds_toArray, List.set_cons_zero, List.set_cons_succ])
      obtain ⟨q1, q2⟩ := share_in HM.out xs
      generalize share r xs = q at *
      replace HQ := Lib.hid (And.intro HQ.out.1 (And.intro (HQ.out.2.1.below hb) HQ.out.2.2))
      replace hsz := Lib.hid (Nat.le_trans hsz.out hb.size)
      clear hb
      obtain ⟨w1, w2⟩ := HM.out.2.2.2.2.2
      obtain ⟨m1, m2⟩ := mul_in (show -100 ≤ r.weight by omega) w2 (show -33554432 ≤ q by omega) q2
      have m0 : 0 ≤ r.weight * q := Int.mul_nonneg (by omega) q1
      obtain ⟨s5, hs5⟩ : ∃ z, z = r.weight * q := ⟨_, rfl⟩
      have hw2 : IntKind.i64.wrap (r.weight * q) = s5 := by rw [hs5]; exact IntWalk.i64_in _ (by omega)
      rw [← hs5] at m0 m1 m2 HSN
      clear hs5
      (refine Ord.take' 7 rfl (by kernel_rfl) (fun _ _ _ _ h => h) K.out (by rfl) ?_; apply Exists.intro; refine ⟨fun p => ?_, ?_⟩; (focus (go_simp; (try (with_reducible rfl)); done)); (try simp only [Act.put, List.setIfInBounds_toArray, List.set_cons_zero, List.set_cons_succ]))
      clear hw2
      refine Ord.lay 8 (v := .slice (some ⟨w6.heap.size, 0, none⟩) 1 1) (w' := w6.alloc (.cells #[.int .i64 s5] 2)) rfl (by kernel_rfl) (by rfl) (by go_simp; try (with_reducible rfl)) (K.out.alloc _).rest ?_
      simp only [Act.put, List.setIfInBounds_toArray, List.set_cons_zero, List.set_cons_succ]
      (refine Ord.done (by kernel_rfl) ?_; simp only [List.drop_succ_cons, List.drop_zero, Act.put, List.setIfInBounds_toArray, List.set_cons_zero, List.set_cons_succ])
      replace K := Lib.hid K.out.rest
      refine app1q rfl (.tmp 15) (.tmp 23) rfl (w.heap.size + 1 + 1) (.slice SA k sc) hs s5 rfl HQ.out.2.1 rfl (by rw [HQ.out.1]; omega) hsz.out ?_
      intro v' w' hown' hkeep'
      replace K := Lib.hid (hkeep' _ _ K.out (by intro p hp; simp at hp; rcases hp with rfl | rfl <;> dsimp only <;> omega) (by omega))
      obtain ⟨SB, sd, rfl, hel⟩ := hown'.el
      have HO := Lib.hid hown'
      have hlen : (hs ++ [s5]).length = k + 1 := by rw [List.length_append, HQ.out.1]; rfl
      have hsz2 : Hid (w.heap.size + 1 + 1 ≤ w'.heap.size) := Lib.hid (Nat.succ_le_of_lt (K.out.lt (.head _)))
      rw [hlen] at HO ⊢
      have HLEN := Lib.hid hlen
      clear hown' hkeep' hel hlen
      have s0 := K.out.cell (k := 0) (.head _) rfl
      have f1 := fun o => K.out.warm (.head _) o
      go_wp2_with fail
      clear s0 f1
      go_roundg (gk - 1)
      case measure => omega
      case rel =>
        have hT := Turn.set w' (w.heap.size + 1) 0 (.slice SB (k + 1) sd)
        refine ⟨k + 1, SB, sd, hs ++ [s5], by omega, congrArg (Value.int .i64) (by omega), HLEN.out, HO.out.turn hT (K.out.tagg (.head _)) (by decide), ⟨fun j hj => ?_, HSN.out.symm⟩, Keep.set1 K.out _, Nat.le_trans hsz2.out hT.1⟩
        have hl := HQ.out.1
        by_cases e : j < hs.length
        · rw [List.getD_eq_getElem?_getD, List.getElem?_append_left e, ← List.getD_eq_getElem?_getD]
          exact HQ.out.2.2.1 j (by omega)
        · have : j = hs.length := by omega
          rw [this, List.getD_eq_getElem?_getD, List.getElem?_append_right (Nat.le_refl _)]
          simp
          exact ⟨m0, by omega⟩
    · obtain rfl : k = rs.length := by omega
      have g0 := K.out.cell (k := 0) (.tail _ (.head _)) rfl
      have g1 := K.out.cell (k := 1) (.tail _ (.head _)) rfl
      have g2 := K.out.cell (k := 2) (.tail _ (.head _)) rfl
      have g3 := K.out.cell (k := 3) (.tail _ (.head _)) rfl
      have g4 := K.out.cell (k := 4) (.tail _ (.head _)) rfl
      have g5 := K.out.cell (k := 5) (.tail _ (.head _)) rfl
      have g6 := K.out.cell (k := 6) (.tail _ (.head _)) rfl
      have g7 := K.out.cell (k := 7) (.tail _ (.head _)) rfl
      go_upto_region 7 with fail
      go_wp2_with fail
      have HGC : Hid (GCap wr w.heap.size #[.int .i64 n, .slice RA rs.length rc, .slice PA n pc, .slice QA n qc, .bool cn, .slice CA cl cc, .bool dn, .slice DA dl dc]) := Lib.hid (K.out.gb (.tail _ (.head _)))
      have HC : Hid (Cap wr (w.heap.size + 1) (.slice SA rs.length sc)) := Lib.hid ⟨K.out.lt (.head _), K.out.cell (.head _) rfl⟩
      have hqi := HQ.out.2.1.iv (fun j hj => by
        have a := HQ.out.2.2.1 j (by rw [← HQ.out.1]; exact hj)
        exact ⟨by omega, by omega⟩)
      have HS : Hid (Shr wr (.slice SA rs.length sc) hs rs.length) := Lib.hid ⟨hqi, HQ.out.1, HQ.out.2.2.1⟩
      refine (made99_any (.bool false) _ _ _ _ _ cn dn _ _ n 100 (curveS rs hs) wr (fun i j hi hj w' hb => curve99_any w.heap.size (w.heap.size + 1) _ _ _ _ _ _ cn dn n rs hs i j w' ((HG.out.below K.out.B).below hb) (HGC.out.below hb) (HC.out.below hb) (HS.out.below hb) hi hj) (by omega) ⟨⟨RA, _, rc, rfl⟩, ⟨PA, _, pc, rfl⟩, ⟨QA, _, qc, rfl⟩, ⟨CA, cl, cc, rfl⟩, ⟨DA, dl, dc, rfl⟩⟩).mono ?_
      rintro e w2 ⟨v, rfl, hM, hb⟩
      replace K := Lib.hid (Keep.stays _ _ K.out hb)
      have HM := Lib.hid hM
      obtain ⟨VA, vc, rfl, -⟩ : ∃ A c, v = .slice A n c ∧ True := by obtain ⟨A, c, h, -⟩ := hM.mv; exact ⟨A, c, h, trivial⟩
      clear hb hM g0 g1 g2 g3 g4 g5 g6 g7 HGC HC HS hqi
      go_wp2_with fail
      go_ret
      have he : hs = shs rs xs := by rw [HQ.out.2.2.2, List.take_length]; rfl
      rw [he] at HM
      exact ⟨_, rfl, HM.out, K.out.B⟩
end Go.Proofs.YtmidifgnpjlgcaaGreat
/- The walks of zeros, turned, and the entries of swept. -/
set_option linter.unusedVariables false
set_option linter.unusedSimpArgs false
namespace Go.Proofs.YtmidifgnpjlgcaaGreat
open Go.RowKit

set_option maxHeartbeats 4000000 in
set_option maxRecDepth 100000 in
theorem zeros_any (n : Nat) (w : World) (hn : n ≤ 1000000) : Calls Tryz.prog 104 #[.int .i64 n] w fun e w' => ∃ v, e = .returned v ∧ Lo w' w.heap.size v n 0 (fun _ => 0) ∧ Below w.heap.size w w' := by
  have K := Lib.hid (Keep.begin1 w (Obj.lst (List.replicate n Nm.zero)))
  have hmk := mk_lst n hn n rfl
  go_enter Tryz.func104, Tryz.ntmps104
  go_wp2_with fail
  go_ret
  exact ⟨_, rfl, ⟨w.heap.size, _, rfl, Nat.le_refl _, K.out.gb (.head _), by simp, Els.zero _ _ _⟩, K.out.B⟩

set_option maxHeartbeats 4000000 in
set_option maxRecDepth 100000 in
theorem turned_any (q odd : Bool) (s : Value) (z : Int) (N : Nat) (w : World) (h : Nz w q s z N) (hN : N ≤ 900000) : Calls Tryz.prog 89 #[.agg #[.bool q, s], .bool odd] w (Told1 w N (if odd then -z else z)) := by
  obtain ⟨A, l, c, rfl⟩ := h.sl
  have K := Lib.hid (Keep.begin2 w (Obj.num q (.slice A l c)) (Obj.num false (.slice none 0 0)))
  have H := Lib.hid h
  clear h
  go_enter Tryz.func89, Tryz.ntmps89
  go_upto_region 1 with fail
  (refine out_keep K.out ?_; clear K; intro W K; replace K := Lib.hid K)
  obtain ⟨f1, c10, c11⟩ := K.out.nm (.tail _ (.head _))
  cases odd
  · obtain ⟨f2, c20, c21⟩ := K.out.nm (.head _)
    go_wp2_with fail
    refine ret_nm Tryz.results89 rfl ((K.out.putn_0 _ _).nb (.head _)) ?_
    exact ⟨q, A, l, c, rfl, (H.out.below K.out.B).put (K.out.nm (.head _)).2.1 _ _, (K.out.putn_0 q (.slice A l c)).B⟩
  · go_wp2_with fail
    refine (neg_nz (H.out.below K.out.B) (by omega)).mono ?_
    rintro e w2 ⟨q2, A2, l2, c2, rfl, hN2, hb⟩
    replace K := Lib.hid (Keep.stays _ _ K.out hb)
    have HN := Lib.hid hN2
    clear hb hN2 f1 c10 c11
    obtain ⟨f2, c20, c21⟩ := K.out.nm (.head _)
    go_wp2_with fail
    refine ret_nm Tryz.results89 rfl ((K.out.putn_0 _ _).nb (.head _)) ?_
    exact ⟨q2, A2, l2, c2, rfl, HN.out.put (K.out.nm (.head _)).2.1 _ _, (K.out.putn_0 q2 (.slice A2 l2 c2)).B⟩
end Go.Proofs.YtmidifgnpjlgcaaGreat
