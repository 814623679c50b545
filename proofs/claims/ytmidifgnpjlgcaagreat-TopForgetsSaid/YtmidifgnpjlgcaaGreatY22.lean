/- The texts Vj of the walk of the law and of all that it calls, in one file. No condition. -/
import Derived.Test.YtmidifgnpjlgcaaGreatY21
/- The walk of rounded$1 (written by tools/mkVj.py). -/
set_option linter.unusedVariables false
set_option linter.unusedSimpArgs false
namespace Go.Proofs.YtmidifgnpjlgcaaGreat
open Go.RowKit

/-- A number in a block. -/
def NCap (w : World) (g : Nat) (zn : Bool) (zs : Value) : Prop := g < w.heap.size ∧ w.cell? ⟨g, 0, none⟩ = some (.bool zn) ∧ w.cell? ⟨g, 1, none⟩ = some zs
theorem NCap.below {w w' : World} {g : Nat} {zn : Bool} {zs : Value} (h : NCap w g zn zs) (hb : Below w.heap.size w w') : NCap w' g zn zs :=
  ⟨Nat.lt_of_lt_of_le h.1 hb.size, by rw [hb.cell (p := ⟨g, 0, none⟩) h.1]; exact h.2.1, by rw [hb.cell (p := ⟨g, 1, none⟩) h.1]; exact h.2.2⟩

variable {w0 w : World} {l l2 : List (Nat × Obj)}
set_option maxHeartbeats 16000000 in
set_option maxRecDepth 100000 in
theorem round79_any (g N M : Nat) (xn zn : Bool) (xs zs : Value) (x z : Int) (w : World) (hx : Nz w xn xs x N) (hz : Nz w zn zs z M) (hg : NCap w g zn zs) (hN : N ≤ 300000) (hM : M ≤ 300000) :
    Calls Tryz.prog 79 #[.agg #[.bool xn, xs], .pointer (some ⟨g, 0, none⟩)] w fun e w' => ∃ q A l c, e = .returned (.agg #[.bool q, .slice A l c]) ∧ Nz w' q (.slice A l c) (Int.fdiv (x * 1024) z) (N + 2 + 1 + 3) ∧ Below w.heap.size w w' := by
  have HX := Lib.hid hx; have HZ := Lib.hid hz
  obtain ⟨XA, xl, xc, rfl⟩ := hx.sl
  obtain ⟨ZA, zl, zc, rfl⟩ := hz.sl
  obtain ⟨hg0, hg1, hg2⟩ := hg
  have K := Lib.hid (Keep.begin2 w (Obj.num xn (.slice XA xl xc)) (Obj.num false (.slice none 0 0)))
  have z0 := Keep.far K hg0 hg1; have z1 := Keep.far K hg0 hg2
  clear hx hz hg0 hg1 hg2
  go_enter Tryz.func79, Tryz.ntmps79
  go_upto_region 1 with fail
  (refine region_ord _ 13 (by kernel_rfl) (by kernel_rfl) K.out.drew ?_; clear K; intro W K hbw; replace K := Lib.hid K)
  clear hbw
  obtain ⟨e10, e11⟩ := Keep.anm K (.tail _ (.head _))
  (refine Ord.take' 0 rfl (by kernel_rfl) (fun _ _ _ _ h => h) K.out (by rfl) ?_; apply Exists.intro; refine ⟨fun p => ?_, ?_⟩; (focus (go_simp; (try (with_reducible rfl)); done)); (try simp only [Act.put, List.setIfInBounds_toArray, List.set_cons_zero, List.set_cons_succ]))
  (refine Ord.take' 3 rfl (by kernel_rfl) (fun _ _ _ _ h => h) K.out (by rfl) ?_; apply Exists.intro; refine ⟨fun p => ?_, ?_⟩; (focus (go_simp; (try (with_reducible rfl)); done)); (try simp only [Act.put, List.setIfInBounds_toArray, List.set_cons_zero, List.set_cons_succ]))
  clear e10 e11 z0 z1
  (refine Ord.ways [1, 9, 10] (by kernel_rfl) ?_; intro i hi; simp only [List.mem_cons, List.not_mem_nil, or_false] at hi; rcases hi with (rfl | rfl | rfl))
  · skip
    refine Way.call (g := 19) (args := #[.int .i64 1024]) rfl (by rfl) (by (go_simp; try (with_reducible rfl))) ?_
    refine (int_nz 1024 _ (by decide) (by decide)).mono ?_
    rintro e W1 ⟨q1, A1, l1, c1, rfl, hN1, hb⟩
    refine ⟨_, rfl, (Keep.stays _ _ K.out hb), ?_⟩
    replace K := Lib.hid (Keep.stays _ _ K.out hb)
    simp only [Act.put, List.setIfInBounds_toArray, List.set_cons_zero, List.set_cons_succ]
    clear hb
    (refine Ord.ways [2, 9, 10] (by kernel_rfl) ?_; intro i hi; simp only [List.mem_cons, List.not_mem_nil, or_false] at hi; rcases hi with (rfl | rfl | rfl))
    · skip
      refine Way.call (g := 23) (args := #[.agg #[.bool xn, .slice XA xl xc], .agg #[.bool q1, .slice A1 l1 c1]]) rfl (by rfl) (by (go_simp; try (with_reducible rfl))) ?_
      refine (mul_nz (HX.out.below K.out.B) hN1 (by omega) (by omega)).mono ?_
      rintro e W2 ⟨q2, A2, l2, c2, rfl, hN2, hb⟩
      refine ⟨_, rfl, (Keep.stays _ _ K.out hb), ?_⟩
      replace K := Lib.hid (Keep.stays _ _ K.out hb)
      simp only [Act.put, List.setIfInBounds_toArray, List.set_cons_zero, List.set_cons_succ]
      clear hb hN1
      (refine Ord.ways [4, 9, 10] (by kernel_rfl) ?_; intro i hi; simp only [List.mem_cons, List.not_mem_nil, or_false] at hi; rcases hi with (rfl | rfl | rfl))
      · skip
        refine Way.call (g := 80) (args := #[.agg #[.bool q2, .slice A2 l2 c2], .agg #[.bool zn, .slice ZA zl zc]]) rfl (by rfl) (by (go_simp; try (with_reducible rfl))) ?_
        refine (quo_nz hN2 (HZ.out.below K.out.B) (by omega) (by omega)).mono ?_
        rintro e W3 ⟨q3, A3, l3, c3, rn, R, rl, rc, e', u, rfl, hN3, -, hb⟩
        refine ⟨_, rfl, (Keep.stays _ _ K.out hb), ?_⟩
        replace K := Lib.hid (Keep.stays _ _ K.out hb)
        simp only [Act.put, List.setIfInBounds_toArray, List.set_cons_zero, List.set_cons_succ]
        clear hb hN2
        (refine Ord.take' 5 rfl (by kernel_rfl) (fun _ _ _ _ h => h) K.out (by rfl) ?_; apply Exists.intro; refine ⟨fun p => ?_, ?_⟩; (focus (go_simp; (try (with_reducible rfl)); done)); (try simp only [Act.put, List.setIfInBounds_toArray, List.set_cons_zero, List.set_cons_succ]))
        (refine Ord.take' 6 rfl (by kernel_rfl) (fun _ _ _ _ h => h) K.out (by rfl) ?_; apply Exists.intro; refine ⟨fun p => ?_, ?_⟩; (focus (go_simp; (try (with_reducible rfl)); done)); (try simp only [Act.put, List.setIfInBounds_toArray, List.set_cons_zero, List.set_cons_succ]))
        (refine Ord.take' 7 rfl (by kernel_rfl) (fun _ _ _ _ h => h) K.out (by rfl) ?_; apply Exists.intro; refine ⟨fun p => ?_, ?_⟩; (focus (go_simp; (try (with_reducible rfl)); done)); (try simp only [Act.put, List.setIfInBounds_toArray, List.set_cons_zero, List.set_cons_succ]))
        (refine Ord.take' 8 rfl (by kernel_rfl) (fun _ _ _ _ h => h) K.out (by rfl) ?_; apply Exists.intro; refine ⟨fun p => ?_, ?_⟩; (focus (go_simp; (try (with_reducible rfl)); done)); (try simp only [Act.put, List.setIfInBounds_toArray, List.set_cons_zero, List.set_cons_succ]))
        (refine Ord.ways [9, 10] (by kernel_rfl) ?_; intro i hi; simp only [List.mem_cons, List.not_mem_nil, or_false] at hi; rcases hi with (rfl | rfl))
        · skip
          have hx := Ext.alloc W3 (Obj.num false (.slice none 0 0))
          replace K := Lib.hid (K.out.alloc (Obj.num false (.slice none 0 0)))
          refine Way.lay (v := .pointer (some ⟨W3.heap.size, 0, none⟩)) rfl (by rfl) (by (go_simp; rfl)) ⟨K.out.rest, ?_⟩
          replace hN3 := hN3.below hx
          clear hx
          generalize W3.heap.size = g9 at *
          generalize W3.alloc _ = W4 at *
          simp only [Act.put, List.setIfInBounds_toArray, List.set_cons_zero, List.set_cons_succ]
          (refine Ord.ways [10] (by kernel_rfl) ?_; intro i hi; simp only [List.mem_cons, List.not_mem_nil, or_false] at hi; rcases hi with (rfl))
          have hx := Ext.alloc W4 (Obj.num false (.slice none 0 0))
          replace K := Lib.hid (K.out.alloc (Obj.num false (.slice none 0 0)))
          refine Way.lay (v := .pointer (some ⟨W4.heap.size, 0, none⟩)) rfl (by rfl) (by (go_simp; rfl)) ⟨K.out.rest.rest, ?_⟩
          replace hN3 := hN3.below hx
          clear hx
          generalize W4.heap.size = g10 at *
          generalize W4.alloc _ = W5 at *
          simp only [Act.put, List.setIfInBounds_toArray, List.set_cons_zero, List.set_cons_succ]
          (refine Ord.ways [11] (by kernel_rfl) ?_; intro i hi; simp only [List.mem_cons, List.not_mem_nil, or_false] at hi; rcases hi with (rfl))
          obtain ⟨f1, d0, d1⟩ := K.out.nm (.tail _ (.head _))
          have KS := Lib.hid (K.out.putn [_] q3 (.slice A3 l3 c3))
          simp only [List.cons_append, List.nil_append] at KS
          refine Way.skip rfl (by rfl) (by (go_simp; try (with_reducible rfl))) ⟨KS.out.rest.rest, ?_⟩
          replace hN3 := hN3.put d0 (.bool q3) (.slice A3 l3 c3)
          clear f1 d0 d1 K
          generalize World.setCell (World.setCell W5 _ _) _ _ = Ws1 at *
          have K := KS
          clear KS
          simp only [Act.put, List.setIfInBounds_toArray, List.set_cons_zero, List.set_cons_succ]
          (refine Ord.ways [12] (by kernel_rfl) ?_; intro i hi; simp only [List.mem_cons, List.not_mem_nil, or_false] at hi; rcases hi with (rfl))
          obtain ⟨f1, d0, d1⟩ := K.out.nm (.head _)
          have KS := Lib.hid (K.out.putn [] rn (.slice R rl rc))
          simp only [List.cons_append, List.nil_append] at KS
          refine Way.skip rfl (by rfl) (by (go_simp; try (with_reducible rfl))) ⟨KS.out.rest.rest, ?_⟩
          replace hN3 := hN3.put d0 (.bool rn) (.slice R rl rc)
          clear f1 d0 d1 K
          generalize World.setCell (World.setCell Ws1 _ _) _ _ = Ws2 at *
          have K := KS
          clear KS
          simp only [Act.put, List.setIfInBounds_toArray, List.set_cons_zero, List.set_cons_succ]
          (refine Ord.done (by kernel_rfl) ?_; simp only [List.drop_succ_cons, List.drop_zero, Act.put, List.setIfInBounds_toArray, List.set_cons_zero, List.set_cons_succ])
          obtain ⟨f1, d0, d1⟩ := K.out.nm (.tail _ (.head _))
          obtain ⟨f2, b0, b1⟩ := K.out.nm (.tail _ (.tail _ (.head _)))
          go_wp2_with fail
          have K2 := Lib.hid (K.out.putn [_, _] q3 (.slice A3 l3 c3))
          refine ret_nm Tryz.results79 rfl (K2.out.nb (.tail _ (.tail _ (.head _)))) ?_
          exact ⟨q3, A3, l3, c3, rfl, hN3.put b0 _ _, K2.out.B⟩
        · skip
          have hx := Ext.alloc W3 (Obj.num false (.slice none 0 0))
          replace K := Lib.hid (K.out.alloc (Obj.num false (.slice none 0 0)))
          refine Way.lay (v := .pointer (some ⟨W3.heap.size, 0, none⟩)) rfl (by rfl) (by (go_simp; rfl)) ⟨K.out.rest, ?_⟩
          replace hN3 := hN3.below hx
          clear hx
          generalize W3.heap.size = g10 at *
          generalize W3.alloc _ = W4 at *
          simp only [Act.put, List.setIfInBounds_toArray, List.set_cons_zero, List.set_cons_succ]
          (refine Ord.ways [9] (by kernel_rfl) ?_; intro i hi; simp only [List.mem_cons, List.not_mem_nil, or_false] at hi; rcases hi with (rfl))
          have hx := Ext.alloc W4 (Obj.num false (.slice none 0 0))
          replace K := Lib.hid (K.out.alloc (Obj.num false (.slice none 0 0)))
          refine Way.lay (v := .pointer (some ⟨W4.heap.size, 0, none⟩)) rfl (by rfl) (by (go_simp; rfl)) ⟨K.out.rest.rest, ?_⟩
          replace hN3 := hN3.below hx
          clear hx
          generalize W4.heap.size = g9 at *
          generalize W4.alloc _ = W5 at *
          simp only [Act.put, List.setIfInBounds_toArray, List.set_cons_zero, List.set_cons_succ]
          (refine Ord.ways [11] (by kernel_rfl) ?_; intro i hi; simp only [List.mem_cons, List.not_mem_nil, or_false] at hi; rcases hi with (rfl))
          obtain ⟨f1, d0, d1⟩ := K.out.nm (.head _)
          have KS := Lib.hid (K.out.putn [] q3 (.slice A3 l3 c3))
          simp only [List.cons_append, List.nil_append] at KS
          refine Way.skip rfl (by rfl) (by (go_simp; try (with_reducible rfl))) ⟨KS.out.rest.rest, ?_⟩
          replace hN3 := hN3.put d0 (.bool q3) (.slice A3 l3 c3)
          clear f1 d0 d1 K
          generalize World.setCell (World.setCell W5 _ _) _ _ = Ws1 at *
          have K := KS
          clear KS
          simp only [Act.put, List.setIfInBounds_toArray, List.set_cons_zero, List.set_cons_succ]
          (refine Ord.ways [12] (by kernel_rfl) ?_; intro i hi; simp only [List.mem_cons, List.not_mem_nil, or_false] at hi; rcases hi with (rfl))
          obtain ⟨f1, d0, d1⟩ := K.out.nm (.tail _ (.head _))
          have KS := Lib.hid (K.out.putn [_] rn (.slice R rl rc))
          simp only [List.cons_append, List.nil_append] at KS
          refine Way.skip rfl (by rfl) (by (go_simp; try (with_reducible rfl))) ⟨KS.out.rest.rest, ?_⟩
          replace hN3 := hN3.put d0 (.bool rn) (.slice R rl rc)
          clear f1 d0 d1 K
          generalize World.setCell (World.setCell Ws1 _ _) _ _ = Ws2 at *
          have K := KS
          clear KS
          simp only [Act.put, List.setIfInBounds_toArray, List.set_cons_zero, List.set_cons_succ]
          (refine Ord.done (by kernel_rfl) ?_; simp only [List.drop_succ_cons, List.drop_zero, Act.put, List.setIfInBounds_toArray, List.set_cons_zero, List.set_cons_succ])
          obtain ⟨f1, d0, d1⟩ := K.out.nm (.head _)
          obtain ⟨f2, b0, b1⟩ := K.out.nm (.tail _ (.tail _ (.head _)))
          go_wp2_with fail
          have K2 := Lib.hid (K.out.putn [_, _] q3 (.slice A3 l3 c3))
          refine ret_nm Tryz.results79 rfl (K2.out.nb (.tail _ (.tail _ (.head _)))) ?_
          exact ⟨q3, A3, l3, c3, rfl, hN3.put b0 _ _, K2.out.B⟩
      · skip
        have hx := Ext.alloc W2 (Obj.num false (.slice none 0 0))
        replace K := Lib.hid (K.out.alloc (Obj.num false (.slice none 0 0)))
        refine Way.lay (v := .pointer (some ⟨W2.heap.size, 0, none⟩)) rfl (by rfl) (by (go_simp; rfl)) ⟨K.out.rest, ?_⟩
        replace hN2 := hN2.below hx
        clear hx
        generalize W2.heap.size = g9 at *
        generalize W2.alloc _ = W3 at *
        simp only [Act.put, List.setIfInBounds_toArray, List.set_cons_zero, List.set_cons_succ]
        (refine Ord.ways [4, 10] (by kernel_rfl) ?_; intro i hi; simp only [List.mem_cons, List.not_mem_nil, or_false] at hi; rcases hi with (rfl | rfl))
        · skip
          refine Way.call (g := 80) (args := #[.agg #[.bool q2, .slice A2 l2 c2], .agg #[.bool zn, .slice ZA zl zc]]) rfl (by rfl) (by (go_simp; try (with_reducible rfl))) ?_
          refine (quo_nz hN2 (HZ.out.below K.out.B) (by omega) (by omega)).mono ?_
          rintro e W4 ⟨q3, A3, l3, c3, rn, R, rl, rc, e', u, rfl, hN3, -, hb⟩
          refine ⟨_, rfl, (Keep.stays _ _ K.out hb).rest, ?_⟩
          replace K := Lib.hid (Keep.stays _ _ K.out hb)
          simp only [Act.put, List.setIfInBounds_toArray, List.set_cons_zero, List.set_cons_succ]
          clear hb hN2
          have KK := K
          replace K := Lib.hid (K.out.rest)
          (refine Ord.take' 5 rfl (by kernel_rfl) (fun _ _ _ _ h => h) K.out (by rfl) ?_; apply Exists.intro; refine ⟨fun p => ?_, ?_⟩; (focus (go_simp; (try (with_reducible rfl)); done)); (try simp only [Act.put, List.setIfInBounds_toArray, List.set_cons_zero, List.set_cons_succ]))
          (refine Ord.take' 6 rfl (by kernel_rfl) (fun _ _ _ _ h => h) K.out (by rfl) ?_; apply Exists.intro; refine ⟨fun p => ?_, ?_⟩; (focus (go_simp; (try (with_reducible rfl)); done)); (try simp only [Act.put, List.setIfInBounds_toArray, List.set_cons_zero, List.set_cons_succ]))
          (refine Ord.take' 7 rfl (by kernel_rfl) (fun _ _ _ _ h => h) K.out (by rfl) ?_; apply Exists.intro; refine ⟨fun p => ?_, ?_⟩; (focus (go_simp; (try (with_reducible rfl)); done)); (try simp only [Act.put, List.setIfInBounds_toArray, List.set_cons_zero, List.set_cons_succ]))
          (refine Ord.take' 8 rfl (by kernel_rfl) (fun _ _ _ _ h => h) K.out (by rfl) ?_; apply Exists.intro; refine ⟨fun p => ?_, ?_⟩; (focus (go_simp; (try (with_reducible rfl)); done)); (try simp only [Act.put, List.setIfInBounds_toArray, List.set_cons_zero, List.set_cons_succ]))
          replace K := KK
          clear KK
          (refine Ord.ways [10] (by kernel_rfl) ?_; intro i hi; simp only [List.mem_cons, List.not_mem_nil, or_false] at hi; rcases hi with (rfl))
          have hx := Ext.alloc W4 (Obj.num false (.slice none 0 0))
          replace K := Lib.hid (K.out.alloc (Obj.num false (.slice none 0 0)))
          refine Way.lay (v := .pointer (some ⟨W4.heap.size, 0, none⟩)) rfl (by rfl) (by (go_simp; rfl)) ⟨K.out.rest.rest, ?_⟩
          replace hN3 := hN3.below hx
          clear hx
          generalize W4.heap.size = g10 at *
          generalize W4.alloc _ = W5 at *
          simp only [Act.put, List.setIfInBounds_toArray, List.set_cons_zero, List.set_cons_succ]
          (refine Ord.ways [11] (by kernel_rfl) ?_; intro i hi; simp only [List.mem_cons, List.not_mem_nil, or_false] at hi; rcases hi with (rfl))
          obtain ⟨f1, d0, d1⟩ := K.out.nm (.tail _ (.head _))
          have KS := Lib.hid (K.out.putn [_] q3 (.slice A3 l3 c3))
          simp only [List.cons_append, List.nil_append] at KS
          refine Way.skip rfl (by rfl) (by (go_simp; try (with_reducible rfl))) ⟨KS.out.rest.rest, ?_⟩
          replace hN3 := hN3.put d0 (.bool q3) (.slice A3 l3 c3)
          clear f1 d0 d1 K
          generalize World.setCell (World.setCell W5 _ _) _ _ = Ws1 at *
          have K := KS
          clear KS
          simp only [Act.put, List.setIfInBounds_toArray, List.set_cons_zero, List.set_cons_succ]
          (refine Ord.ways [12] (by kernel_rfl) ?_; intro i hi; simp only [List.mem_cons, List.not_mem_nil, or_false] at hi; rcases hi with (rfl))
          obtain ⟨f1, d0, d1⟩ := K.out.nm (.head _)
          have KS := Lib.hid (K.out.putn [] rn (.slice R rl rc))
          simp only [List.cons_append, List.nil_append] at KS
          refine Way.skip rfl (by rfl) (by (go_simp; try (with_reducible rfl))) ⟨KS.out.rest.rest, ?_⟩
          replace hN3 := hN3.put d0 (.bool rn) (.slice R rl rc)
          clear f1 d0 d1 K
          generalize World.setCell (World.setCell Ws1 _ _) _ _ = Ws2 at *
          have K := KS
          clear KS
          simp only [Act.put, List.setIfInBounds_toArray, List.set_cons_zero, List.set_cons_succ]
          (refine Ord.done (by kernel_rfl) ?_; simp only [List.drop_succ_cons, List.drop_zero, Act.put, List.setIfInBounds_toArray, List.set_cons_zero, List.set_cons_succ])
          obtain ⟨f1, d0, d1⟩ := K.out.nm (.tail _ (.head _))
          obtain ⟨f2, b0, b1⟩ := K.out.nm (.tail _ (.tail _ (.head _)))
          go_wp2_with fail
          have K2 := Lib.hid (K.out.putn [_, _] q3 (.slice A3 l3 c3))
          refine ret_nm Tryz.results79 rfl (K2.out.nb (.tail _ (.tail _ (.head _)))) ?_
          exact ⟨q3, A3, l3, c3, rfl, hN3.put b0 _ _, K2.out.B⟩
        · skip
          have hx := Ext.alloc W3 (Obj.num false (.slice none 0 0))
          replace K := Lib.hid (K.out.alloc (Obj.num false (.slice none 0 0)))
          refine Way.lay (v := .pointer (some ⟨W3.heap.size, 0, none⟩)) rfl (by rfl) (by (go_simp; rfl)) ⟨K.out.rest.rest, ?_⟩
          replace hN2 := hN2.below hx
          clear hx
          generalize W3.heap.size = g10 at *
          generalize W3.alloc _ = W4 at *
          simp only [Act.put, List.setIfInBounds_toArray, List.set_cons_zero, List.set_cons_succ]
          (refine Ord.ways [4] (by kernel_rfl) ?_; intro i hi; simp only [List.mem_cons, List.not_mem_nil, or_false] at hi; rcases hi with (rfl))
          refine Way.call (g := 80) (args := #[.agg #[.bool q2, .slice A2 l2 c2], .agg #[.bool zn, .slice ZA zl zc]]) rfl (by rfl) (by (go_simp; try (with_reducible rfl))) ?_
          refine (quo_nz hN2 (HZ.out.below K.out.B) (by omega) (by omega)).mono ?_
          rintro e W5 ⟨q3, A3, l3, c3, rn, R, rl, rc, e', u, rfl, hN3, -, hb⟩
          refine ⟨_, rfl, (Keep.stays _ _ K.out hb).rest.rest, ?_⟩
          replace K := Lib.hid (Keep.stays _ _ K.out hb)
          simp only [Act.put, List.setIfInBounds_toArray, List.set_cons_zero, List.set_cons_succ]
          clear hb hN2
          have KK := K
          replace K := Lib.hid (K.out.rest.rest)
          (refine Ord.take' 5 rfl (by kernel_rfl) (fun _ _ _ _ h => h) K.out (by rfl) ?_; apply Exists.intro; refine ⟨fun p => ?_, ?_⟩; (focus (go_simp; (try (with_reducible rfl)); done)); (try simp only [Act.put, List.setIfInBounds_toArray, List.set_cons_zero, List.set_cons_succ]))
          (refine Ord.take' 6 rfl (by kernel_rfl) (fun _ _ _ _ h => h) K.out (by rfl) ?_; apply Exists.intro; refine ⟨fun p => ?_, ?_⟩; (focus (go_simp; (try (with_reducible rfl)); done)); (try simp only [Act.put, List.setIfInBounds_toArray, List.set_cons_zero, List.set_cons_succ]))
          (refine Ord.take' 7 rfl (by kernel_rfl) (fun _ _ _ _ h => h) K.out (by rfl) ?_; apply Exists.intro; refine ⟨fun p => ?_, ?_⟩; (focus (go_simp; (try (with_reducible rfl)); done)); (try simp only [Act.put, List.setIfInBounds_toArray, List.set_cons_zero, List.set_cons_succ]))
          (refine Ord.take' 8 rfl (by kernel_rfl) (fun _ _ _ _ h => h) K.out (by rfl) ?_; apply Exists.intro; refine ⟨fun p => ?_, ?_⟩; (focus (go_simp; (try (with_reducible rfl)); done)); (try simp only [Act.put, List.setIfInBounds_toArray, List.set_cons_zero, List.set_cons_succ]))
          replace K := KK
          clear KK
          (refine Ord.ways [11] (by kernel_rfl) ?_; intro i hi; simp only [List.mem_cons, List.not_mem_nil, or_false] at hi; rcases hi with (rfl))
          obtain ⟨f1, d0, d1⟩ := K.out.nm (.tail _ (.head _))
          have KS := Lib.hid (K.out.putn [_] q3 (.slice A3 l3 c3))
          simp only [List.cons_append, List.nil_append] at KS
          refine Way.skip rfl (by rfl) (by (go_simp; try (with_reducible rfl))) ⟨KS.out.rest.rest, ?_⟩
          replace hN3 := hN3.put d0 (.bool q3) (.slice A3 l3 c3)
          clear f1 d0 d1 K
          generalize World.setCell (World.setCell W5 _ _) _ _ = Ws1 at *
          have K := KS
          clear KS
          simp only [Act.put, List.setIfInBounds_toArray, List.set_cons_zero, List.set_cons_succ]
          (refine Ord.ways [12] (by kernel_rfl) ?_; intro i hi; simp only [List.mem_cons, List.not_mem_nil, or_false] at hi; rcases hi with (rfl))
          obtain ⟨f1, d0, d1⟩ := K.out.nm (.head _)
          have KS := Lib.hid (K.out.putn [] rn (.slice R rl rc))
          simp only [List.cons_append, List.nil_append] at KS
          refine Way.skip rfl (by rfl) (by (go_simp; try (with_reducible rfl))) ⟨KS.out.rest.rest, ?_⟩
          replace hN3 := hN3.put d0 (.bool rn) (.slice R rl rc)
          clear f1 d0 d1 K
          generalize World.setCell (World.setCell Ws1 _ _) _ _ = Ws2 at *
          have K := KS
          clear KS
          simp only [Act.put, List.setIfInBounds_toArray, List.set_cons_zero, List.set_cons_succ]
          (refine Ord.done (by kernel_rfl) ?_; simp only [List.drop_succ_cons, List.drop_zero, Act.put, List.setIfInBounds_toArray, List.set_cons_zero, List.set_cons_succ])
          obtain ⟨f1, d0, d1⟩ := K.out.nm (.tail _ (.head _))
          obtain ⟨f2, b0, b1⟩ := K.out.nm (.tail _ (.tail _ (.head _)))
          go_wp2_with fail
          have K2 := Lib.hid (K.out.putn [_, _] q3 (.slice A3 l3 c3))
          refine ret_nm Tryz.results79 rfl (K2.out.nb (.tail _ (.tail _ (.head _)))) ?_
          exact ⟨q3, A3, l3, c3, rfl, hN3.put b0 _ _, K2.out.B⟩
      · skip
        have hx := Ext.alloc W2 (Obj.num false (.slice none 0 0))
        replace K := Lib.hid (K.out.alloc (Obj.num false (.slice none 0 0)))
        refine Way.lay (v := .pointer (some ⟨W2.heap.size, 0, none⟩)) rfl (by rfl) (by (go_simp; rfl)) ⟨K.out.rest, ?_⟩
        replace hN2 := hN2.below hx
        clear hx
        generalize W2.heap.size = g10 at *
        generalize W2.alloc _ = W3 at *
        simp only [Act.put, List.setIfInBounds_toArray, List.set_cons_zero, List.set_cons_succ]
        (refine Ord.ways [4, 9] (by kernel_rfl) ?_; intro i hi; simp only [List.mem_cons, List.not_mem_nil, or_false] at hi; rcases hi with (rfl | rfl))
        · skip
          refine Way.call (g := 80) (args := #[.agg #[.bool q2, .slice A2 l2 c2], .agg #[.bool zn, .slice ZA zl zc]]) rfl (by rfl) (by (go_simp; try (with_reducible rfl))) ?_
          refine (quo_nz hN2 (HZ.out.below K.out.B) (by omega) (by omega)).mono ?_
          rintro e W4 ⟨q3, A3, l3, c3, rn, R, rl, rc, e', u, rfl, hN3, -, hb⟩
          refine ⟨_, rfl, (Keep.stays _ _ K.out hb).rest, ?_⟩
          replace K := Lib.hid (Keep.stays _ _ K.out hb)
          simp only [Act.put, List.setIfInBounds_toArray, List.set_cons_zero, List.set_cons_succ]
          clear hb hN2
          have KK := K
          replace K := Lib.hid (K.out.rest)
          (refine Ord.take' 5 rfl (by kernel_rfl) (fun _ _ _ _ h => h) K.out (by rfl) ?_; apply Exists.intro; refine ⟨fun p => ?_, ?_⟩; (focus (go_simp; (try (with_reducible rfl)); done)); (try simp only [Act.put, List.setIfInBounds_toArray, List.set_cons_zero, List.set_cons_succ]))
          (refine Ord.take' 6 rfl (by kernel_rfl) (fun _ _ _ _ h => h) K.out (by rfl) ?_; apply Exists.intro; refine ⟨fun p => ?_, ?_⟩; (focus (go_simp; (try (with_reducible rfl)); done)); (try simp only [Act.put, List.setIfInBounds_toArray, List.set_cons_zero, List.set_cons_succ]))
          (refine Ord.take' 7 rfl (by kernel_rfl) (fun _ _ _ _ h => h) K.out (by rfl) ?_; apply Exists.intro; refine ⟨fun p => ?_, ?_⟩; (focus (go_simp; (try (with_reducible rfl)); done)); (try simp only [Act.put, List.setIfInBounds_toArray, List.set_cons_zero, List.set_cons_succ]))
          (refine Ord.take' 8 rfl (by kernel_rfl) (fun _ _ _ _ h => h) K.out (by rfl) ?_; apply Exists.intro; refine ⟨fun p => ?_, ?_⟩; (focus (go_simp; (try (with_reducible rfl)); done)); (try simp only [Act.put, List.setIfInBounds_toArray, List.set_cons_zero, List.set_cons_succ]))
          replace K := KK
          clear KK
          (refine Ord.ways [9] (by kernel_rfl) ?_; intro i hi; simp only [List.mem_cons, List.not_mem_nil, or_false] at hi; rcases hi with (rfl))
          have hx := Ext.alloc W4 (Obj.num false (.slice none 0 0))
          replace K := Lib.hid (K.out.alloc (Obj.num false (.slice none 0 0)))
          refine Way.lay (v := .pointer (some ⟨W4.heap.size, 0, none⟩)) rfl (by rfl) (by (go_simp; rfl)) ⟨K.out.rest.rest, ?_⟩
          replace hN3 := hN3.below hx
          clear hx
          generalize W4.heap.size = g9 at *
          generalize W4.alloc _ = W5 at *
          simp only [Act.put, List.setIfInBounds_toArray, List.set_cons_zero, List.set_cons_succ]
          (refine Ord.ways [11] (by kernel_rfl) ?_; intro i hi; simp only [List.mem_cons, List.not_mem_nil, or_false] at hi; rcases hi with (rfl))
          obtain ⟨f1, d0, d1⟩ := K.out.nm (.head _)
          have KS := Lib.hid (K.out.putn [] q3 (.slice A3 l3 c3))
          simp only [List.cons_append, List.nil_append] at KS
          refine Way.skip rfl (by rfl) (by (go_simp; try (with_reducible rfl))) ⟨KS.out.rest.rest, ?_⟩
          replace hN3 := hN3.put d0 (.bool q3) (.slice A3 l3 c3)
          clear f1 d0 d1 K
          generalize World.setCell (World.setCell W5 _ _) _ _ = Ws1 at *
          have K := KS
          clear KS
          simp only [Act.put, List.setIfInBounds_toArray, List.set_cons_zero, List.set_cons_succ]
          (refine Ord.ways [12] (by kernel_rfl) ?_; intro i hi; simp only [List.mem_cons, List.not_mem_nil, or_false] at hi; rcases hi with (rfl))
          obtain ⟨f1, d0, d1⟩ := K.out.nm (.tail _ (.head _))
          have KS := Lib.hid (K.out.putn [_] rn (.slice R rl rc))
          simp only [List.cons_append, List.nil_append] at KS
          refine Way.skip rfl (by rfl) (by (go_simp; try (with_reducible rfl))) ⟨KS.out.rest.rest, ?_⟩
          replace hN3 := hN3.put d0 (.bool rn) (.slice R rl rc)
          clear f1 d0 d1 K
          generalize World.setCell (World.setCell Ws1 _ _) _ _ = Ws2 at *
          have K := KS
          clear KS
          simp only [Act.put, List.setIfInBounds_toArray, List.set_cons_zero, List.set_cons_succ]
          (refine Ord.done (by kernel_rfl) ?_; simp only [List.drop_succ_cons, List.drop_zero, Act.put, List.setIfInBounds_toArray, List.set_cons_zero, List.set_cons_succ])
          obtain ⟨f1, d0, d1⟩ := K.out.nm (.head _)
          obtain ⟨f2, b0, b1⟩ := K.out.nm (.tail _ (.tail _ (.head _)))
          go_wp2_with fail
          have K2 := Lib.hid (K.out.putn [_, _] q3 (.slice A3 l3 c3))
          refine ret_nm Tryz.results79 rfl (K2.out.nb (.tail _ (.tail _ (.head _)))) ?_
          exact ⟨q3, A3, l3, c3, rfl, hN3.put b0 _ _, K2.out.B⟩
        · skip
          have hx := Ext.alloc W3 (Obj.num false (.slice none 0 0))
          replace K := Lib.hid (K.out.alloc (Obj.num false (.slice none 0 0)))
          refine Way.lay (v := .pointer (some ⟨W3.heap.size, 0, none⟩)) rfl (by rfl) (by (go_simp; rfl)) ⟨K.out.rest.rest, ?_⟩
          replace hN2 := hN2.below hx
          clear hx
          generalize W3.heap.size = g9 at *
          generalize W3.alloc _ = W4 at *
          simp only [Act.put, List.setIfInBounds_toArray, List.set_cons_zero, List.set_cons_succ]
          (refine Ord.ways [4] (by kernel_rfl) ?_; intro i hi; simp only [List.mem_cons, List.not_mem_nil, or_false] at hi; rcases hi with (rfl))
          refine Way.call (g := 80) (args := #[.agg #[.bool q2, .slice A2 l2 c2], .agg #[.bool zn, .slice ZA zl zc]]) rfl (by rfl) (by (go_simp; try (with_reducible rfl))) ?_
          refine (quo_nz hN2 (HZ.out.below K.out.B) (by omega) (by omega)).mono ?_
          rintro e W5 ⟨q3, A3, l3, c3, rn, R, rl, rc, e', u, rfl, hN3, -, hb⟩
          refine ⟨_, rfl, (Keep.stays _ _ K.out hb).rest.rest, ?_⟩
          replace K := Lib.hid (Keep.stays _ _ K.out hb)
          simp only [Act.put, List.setIfInBounds_toArray, List.set_cons_zero, List.set_cons_succ]
          clear hb hN2
          have KK := K
          replace K := Lib.hid (K.out.rest.rest)
          (refine Ord.take' 5 rfl (by kernel_rfl) (fun _ _ _ _ h => h) K.out (by rfl) ?_; apply Exists.intro; refine ⟨fun p => ?_, ?_⟩; (focus (go_simp; (try (with_reducible rfl)); done)); (try simp only [Act.put, List.setIfInBounds_toArray, List.set_cons_zero, List.set_cons_succ]))
          (refine Ord.take' 6 rfl (by kernel_rfl) (fun _ _ _ _ h => h) K.out (by rfl) ?_; apply Exists.intro; refine ⟨fun p => ?_, ?_⟩; (focus (go_simp; (try (with_reducible rfl)); done)); (try simp only [Act.put, List.setIfInBounds_toArray, List.set_cons_zero, List.set_cons_succ]))
          (refine Ord.take' 7 rfl (by kernel_rfl) (fun _ _ _ _ h => h) K.out (by rfl) ?_; apply Exists.intro; refine ⟨fun p => ?_, ?_⟩; (focus (go_simp; (try (with_reducible rfl)); done)); (try simp only [Act.put, List.setIfInBounds_toArray, List.set_cons_zero, List.set_cons_succ]))
          (refine Ord.take' 8 rfl (by kernel_rfl) (fun _ _ _ _ h => h) K.out (by rfl) ?_; apply Exists.intro; refine ⟨fun p => ?_, ?_⟩; (focus (go_simp; (try (with_reducible rfl)); done)); (try simp only [Act.put, List.setIfInBounds_toArray, List.set_cons_zero, List.set_cons_succ]))
          replace K := KK
          clear KK
          (refine Ord.ways [11] (by kernel_rfl) ?_; intro i hi; simp only [List.mem_cons, List.not_mem_nil, or_false] at hi; rcases hi with (rfl))
          obtain ⟨f1, d0, d1⟩ := K.out.nm (.head _)
          have KS := Lib.hid (K.out.putn [] q3 (.slice A3 l3 c3))
          simp only [List.cons_append, List.nil_append] at KS
          refine Way.skip rfl (by rfl) (by (go_simp; try (with_reducible rfl))) ⟨KS.out.rest.rest, ?_⟩
          replace hN3 := hN3.put d0 (.bool q3) (.slice A3 l3 c3)
          clear f1 d0 d1 K
          generalize World.setCell (World.setCell W5 _ _) _ _ = Ws1 at *
          have K := KS
          clear KS
          simp only [Act.put, List.setIfInBounds_toArray, List.set_cons_zero, List.set_cons_succ]
          (refine Ord.ways [12] (by kernel_rfl) ?_; intro i hi; simp only [List.mem_cons, List.not_mem_nil, or_false] at hi; rcases hi with (rfl))
          obtain ⟨f1, d0, d1⟩ := K.out.nm (.tail _ (.head _))
          have KS := Lib.hid (K.out.putn [_] rn (.slice R rl rc))
          simp only [List.cons_append, List.nil_append] at KS
          refine Way.skip rfl (by rfl) (by (go_simp; try (with_reducible rfl))) ⟨KS.out.rest.rest, ?_⟩
          replace hN3 := hN3.put d0 (.bool rn) (.slice R rl rc)
          clear f1 d0 d1 K
          generalize World.setCell (World.setCell Ws1 _ _) _ _ = Ws2 at *
          have K := KS
          clear KS
          simp only [Act.put, List.setIfInBounds_toArray, List.set_cons_zero, List.set_cons_succ]
          (refine Ord.done (by kernel_rfl) ?_; simp only [List.drop_succ_cons, List.drop_zero, Act.put, List.setIfInBounds_toArray, List.set_cons_zero, List.set_cons_succ])
          obtain ⟨f1, d0, d1⟩ := K.out.nm (.head _)
          obtain ⟨f2, b0, b1⟩ := K.out.nm (.tail _ (.tail _ (.head _)))
          go_wp2_with fail
          have K2 := Lib.hid (K.out.putn [_, _] q3 (.slice A3 l3 c3))
          refine ret_nm Tryz.results79 rfl (K2.out.nb (.tail _ (.tail _ (.head _)))) ?_
          exact ⟨q3, A3, l3, c3, rfl, hN3.put b0 _ _, K2.out.B⟩
    · skip
      have hx := Ext.alloc W1 (Obj.num false (.slice none 0 0))
      replace K := Lib.hid (K.out.alloc (Obj.num false (.slice none 0 0)))
      refine Way.lay (v := .pointer (some ⟨W1.heap.size, 0, none⟩)) rfl (by rfl) (by (go_simp; rfl)) ⟨K.out.rest, ?_⟩
      replace hN1 := hN1.below hx
      clear hx
      generalize W1.heap.size = g9 at *
      generalize W1.alloc _ = W2 at *
      simp only [Act.put, List.setIfInBounds_toArray, List.set_cons_zero, List.set_cons_succ]
      (refine Ord.ways [2, 10] (by kernel_rfl) ?_; intro i hi; simp only [List.mem_cons, List.not_mem_nil, or_false] at hi; rcases hi with (rfl | rfl))
      · skip
        refine Way.call (g := 23) (args := #[.agg #[.bool xn, .slice XA xl xc], .agg #[.bool q1, .slice A1 l1 c1]]) rfl (by rfl) (by (go_simp; try (with_reducible rfl))) ?_
        refine (mul_nz (HX.out.below K.out.B) hN1 (by omega) (by omega)).mono ?_
        rintro e W3 ⟨q2, A2, l2, c2, rfl, hN2, hb⟩
        refine ⟨_, rfl, (Keep.stays _ _ K.out hb).rest, ?_⟩
        replace K := Lib.hid (Keep.stays _ _ K.out hb)
        simp only [Act.put, List.setIfInBounds_toArray, List.set_cons_zero, List.set_cons_succ]
        clear hb hN1
        (refine Ord.ways [4, 10] (by kernel_rfl) ?_; intro i hi; simp only [List.mem_cons, List.not_mem_nil, or_false] at hi; rcases hi with (rfl | rfl))
        · skip
          refine Way.call (g := 80) (args := #[.agg #[.bool q2, .slice A2 l2 c2], .agg #[.bool zn, .slice ZA zl zc]]) rfl (by rfl) (by (go_simp; try (with_reducible rfl))) ?_
          refine (quo_nz hN2 (HZ.out.below K.out.B) (by omega) (by omega)).mono ?_
          rintro e W4 ⟨q3, A3, l3, c3, rn, R, rl, rc, e', u, rfl, hN3, -, hb⟩
          refine ⟨_, rfl, (Keep.stays _ _ K.out hb).rest, ?_⟩
          replace K := Lib.hid (Keep.stays _ _ K.out hb)
          simp only [Act.put, List.setIfInBounds_toArray, List.set_cons_zero, List.set_cons_succ]
          clear hb hN2
          have KK := K
          replace K := Lib.hid (K.out.rest)
          (refine Ord.take' 5 rfl (by kernel_rfl) (fun _ _ _ _ h => h) K.out (by rfl) ?_; apply Exists.intro; refine ⟨fun p => ?_, ?_⟩; (focus (go_simp; (try (with_reducible rfl)); done)); (try simp only [Act.put, List.setIfInBounds_toArray, List.set_cons_zero, List.set_cons_succ]))
          (refine Ord.take' 6 rfl (by kernel_rfl) (fun _ _ _ _ h => h) K.out (by rfl) ?_; apply Exists.intro; refine ⟨fun p => ?_, ?_⟩; (focus (go_simp; (try (with_reducible rfl)); done)); (try simp only [Act.put, List.setIfInBounds_toArray, List.set_cons_zero, List.set_cons_succ]))
          (refine Ord.take' 7 rfl (by kernel_rfl) (fun _ _ _ _ h => h) K.out (by rfl) ?_; apply Exists.intro; refine ⟨fun p => ?_, ?_⟩; (focus (go_simp; (try (with_reducible rfl)); done)); (try simp only [Act.put, List.setIfInBounds_toArray, List.set_cons_zero, List.set_cons_succ]))
          (refine Ord.take' 8 rfl (by kernel_rfl) (fun _ _ _ _ h => h) K.out (by rfl) ?_; apply Exists.intro; refine ⟨fun p => ?_, ?_⟩; (focus (go_simp; (try (with_reducible rfl)); done)); (try simp only [Act.put, List.setIfInBounds_toArray, List.set_cons_zero, List.set_cons_succ]))
          replace K := KK
          clear KK
          (refine Ord.ways [10] (by kernel_rfl) ?_; intro i hi; simp only [List.mem_cons, List.not_mem_nil, or_false] at hi; rcases hi with (rfl))
          have hx := Ext.alloc W4 (Obj.num false (.slice none 0 0))
          replace K := Lib.hid (K.out.alloc (Obj.num false (.slice none 0 0)))
          refine Way.lay (v := .pointer (some ⟨W4.heap.size, 0, none⟩)) rfl (by rfl) (by (go_simp; rfl)) ⟨K.out.rest.rest, ?_⟩
          replace hN3 := hN3.below hx
          clear hx
          generalize W4.heap.size = g10 at *
          generalize W4.alloc _ = W5 at *
          simp only [Act.put, List.setIfInBounds_toArray, List.set_cons_zero, List.set_cons_succ]
          (refine Ord.ways [11] (by kernel_rfl) ?_; intro i hi; simp only [List.mem_cons, List.not_mem_nil, or_false] at hi; rcases hi with (rfl))
          obtain ⟨f1, d0, d1⟩ := K.out.nm (.tail _ (.head _))
          have KS := Lib.hid (K.out.putn [_] q3 (.slice A3 l3 c3))
          simp only [List.cons_append, List.nil_append] at KS
          refine Way.skip rfl (by rfl) (by (go_simp; try (with_reducible rfl))) ⟨KS.out.rest.rest, ?_⟩
          replace hN3 := hN3.put d0 (.bool q3) (.slice A3 l3 c3)
          clear f1 d0 d1 K
          generalize World.setCell (World.setCell W5 _ _) _ _ = Ws1 at *
          have K := KS
          clear KS
          simp only [Act.put, List.setIfInBounds_toArray, List.set_cons_zero, List.set_cons_succ]
          (refine Ord.ways [12] (by kernel_rfl) ?_; intro i hi; simp only [List.mem_cons, List.not_mem_nil, or_false] at hi; rcases hi with (rfl))
          obtain ⟨f1, d0, d1⟩ := K.out.nm (.head _)
          have KS := Lib.hid (K.out.putn [] rn (.slice R rl rc))
          simp only [List.cons_append, List.nil_append] at KS
          refine Way.skip rfl (by rfl) (by (go_simp; try (with_reducible rfl))) ⟨KS.out.rest.rest, ?_⟩
          replace hN3 := hN3.put d0 (.bool rn) (.slice R rl rc)
          clear f1 d0 d1 K
          generalize World.setCell (World.setCell Ws1 _ _) _ _ = Ws2 at *
          have K := KS
          clear KS
          simp only [Act.put, List.setIfInBounds_toArray, List.set_cons_zero, List.set_cons_succ]
          (refine Ord.done (by kernel_rfl) ?_; simp only [List.drop_succ_cons, List.drop_zero, Act.put, List.setIfInBounds_toArray, List.set_cons_zero, List.set_cons_succ])
          obtain ⟨f1, d0, d1⟩ := K.out.nm (.tail _ (.head _))
          obtain ⟨f2, b0, b1⟩ := K.out.nm (.tail _ (.tail _ (.head _)))
          go_wp2_with fail
          have K2 := Lib.hid (K.out.putn [_, _] q3 (.slice A3 l3 c3))
          refine ret_nm Tryz.results79 rfl (K2.out.nb (.tail _ (.tail _ (.head _)))) ?_
          exact ⟨q3, A3, l3, c3, rfl, hN3.put b0 _ _, K2.out.B⟩
        · skip
          have hx := Ext.alloc W3 (Obj.num false (.slice none 0 0))
          replace K := Lib.hid (K.out.alloc (Obj.num false (.slice none 0 0)))
          refine Way.lay (v := .pointer (some ⟨W3.heap.size, 0, none⟩)) rfl (by rfl) (by (go_simp; rfl)) ⟨K.out.rest.rest, ?_⟩
          replace hN2 := hN2.below hx
          clear hx
          generalize W3.heap.size = g10 at *
          generalize W3.alloc _ = W4 at *
          simp only [Act.put, List.setIfInBounds_toArray, List.set_cons_zero, List.set_cons_succ]
          (refine Ord.ways [4] (by kernel_rfl) ?_; intro i hi; simp only [List.mem_cons, List.not_mem_nil, or_false] at hi; rcases hi with (rfl))
          refine Way.call (g := 80) (args := #[.agg #[.bool q2, .slice A2 l2 c2], .agg #[.bool zn, .slice ZA zl zc]]) rfl (by rfl) (by (go_simp; try (with_reducible rfl))) ?_
          refine (quo_nz hN2 (HZ.out.below K.out.B) (by omega) (by omega)).mono ?_
          rintro e W5 ⟨q3, A3, l3, c3, rn, R, rl, rc, e', u, rfl, hN3, -, hb⟩
          refine ⟨_, rfl, (Keep.stays _ _ K.out hb).rest.rest, ?_⟩
          replace K := Lib.hid (Keep.stays _ _ K.out hb)
          simp only [Act.put, List.setIfInBounds_toArray, List.set_cons_zero, List.set_cons_succ]
          clear hb hN2
          have KK := K
          replace K := Lib.hid (K.out.rest.rest)
          (refine Ord.take' 5 rfl (by kernel_rfl) (fun _ _ _ _ h => h) K.out (by rfl) ?_; apply Exists.intro; refine ⟨fun p => ?_, ?_⟩; (focus (go_simp; (try (with_reducible rfl)); done)); (try simp only [Act.put, List.setIfInBounds_toArray, List.set_cons_zero, List.set_cons_succ]))
          (refine Ord.take' 6 rfl (by kernel_rfl) (fun _ _ _ _ h => h) K.out (by rfl) ?_; apply Exists.intro; refine ⟨fun p => ?_, ?_⟩; (focus (go_simp; (try (with_reducible rfl)); done)); (try simp only [Act.put, List.setIfInBounds_toArray, List.set_cons_zero, List.set_cons_succ]))
          (refine Ord.take' 7 rfl (by kernel_rfl) (fun _ _ _ _ h => h) K.out (by rfl) ?_; apply Exists.intro; refine ⟨fun p => ?_, ?_⟩; (focus (go_simp; (try (with_reducible rfl)); done)); (try simp only [Act.put, List.setIfInBounds_toArray, List.set_cons_zero, List.set_cons_succ]))
          (refine Ord.take' 8 rfl (by kernel_rfl) (fun _ _ _ _ h => h) K.out (by rfl) ?_; apply Exists.intro; refine ⟨fun p => ?_, ?_⟩; (focus (go_simp; (try (with_reducible rfl)); done)); (try simp only [Act.put, List.setIfInBounds_toArray, List.set_cons_zero, List.set_cons_succ]))
          replace K := KK
          clear KK
          (refine Ord.ways [11] (by kernel_rfl) ?_; intro i hi; simp only [List.mem_cons, List.not_mem_nil, or_false] at hi; rcases hi with (rfl))
          obtain ⟨f1, d0, d1⟩ := K.out.nm (.tail _ (.head _))
          have KS := Lib.hid (K.out.putn [_] q3 (.slice A3 l3 c3))
          simp only [List.cons_append, List.nil_append] at KS
          refine Way.skip rfl (by rfl) (by (go_simp; try (with_reducible rfl))) ⟨KS.out.rest.rest, ?_⟩
          replace hN3 := hN3.put d0 (.bool q3) (.slice A3 l3 c3)
          clear f1 d0 d1 K
          generalize World.setCell (World.setCell W5 _ _) _ _ = Ws1 at *
          have K := KS
          clear KS
          simp only [Act.put, List.setIfInBounds_toArray, List.set_cons_zero, List.set_cons_succ]
          (refine Ord.ways [12] (by kernel_rfl) ?_; intro i hi; simp only [List.mem_cons, List.not_mem_nil, or_false] at hi; rcases hi with (rfl))
          obtain ⟨f1, d0, d1⟩ := K.out.nm (.head _)
          have KS := Lib.hid (K.out.putn [] rn (.slice R rl rc))
          simp only [List.cons_append, List.nil_append] at KS
          refine Way.skip rfl (by rfl) (by (go_simp; try (with_reducible rfl))) ⟨KS.out.rest.rest, ?_⟩
          replace hN3 := hN3.put d0 (.bool rn) (.slice R rl rc)
          clear f1 d0 d1 K
          generalize World.setCell (World.setCell Ws1 _ _) _ _ = Ws2 at *
          have K := KS
          clear KS
          simp only [Act.put, List.setIfInBounds_toArray, List.set_cons_zero, List.set_cons_succ]
          (refine Ord.done (by kernel_rfl) ?_; simp only [List.drop_succ_cons, List.drop_zero, Act.put, List.setIfInBounds_toArray, List.set_cons_zero, List.set_cons_succ])
          obtain ⟨f1, d0, d1⟩ := K.out.nm (.tail _ (.head _))
          obtain ⟨f2, b0, b1⟩ := K.out.nm (.tail _ (.tail _ (.head _)))
          go_wp2_with fail
          have K2 := Lib.hid (K.out.putn [_, _] q3 (.slice A3 l3 c3))
          refine ret_nm Tryz.results79 rfl (K2.out.nb (.tail _ (.tail _ (.head _)))) ?_
          exact ⟨q3, A3, l3, c3, rfl, hN3.put b0 _ _, K2.out.B⟩
      · skip
        have hx := Ext.alloc W2 (Obj.num false (.slice none 0 0))
        replace K := Lib.hid (K.out.alloc (Obj.num false (.slice none 0 0)))
        refine Way.lay (v := .pointer (some ⟨W2.heap.size, 0, none⟩)) rfl (by rfl) (by (go_simp; rfl)) ⟨K.out.rest.rest, ?_⟩
        replace hN1 := hN1.below hx
        clear hx
        generalize W2.heap.size = g10 at *
        generalize W2.alloc _ = W3 at *
        simp only [Act.put, List.setIfInBounds_toArray, List.set_cons_zero, List.set_cons_succ]
        (refine Ord.ways [2] (by kernel_rfl) ?_; intro i hi; simp only [List.mem_cons, List.not_mem_nil, or_false] at hi; rcases hi with (rfl))
        refine Way.call (g := 23) (args := #[.agg #[.bool xn, .slice XA xl xc], .agg #[.bool q1, .slice A1 l1 c1]]) rfl (by rfl) (by (go_simp; try (with_reducible rfl))) ?_
        refine (mul_nz (HX.out.below K.out.B) hN1 (by omega) (by omega)).mono ?_
        rintro e W4 ⟨q2, A2, l2, c2, rfl, hN2, hb⟩
        refine ⟨_, rfl, (Keep.stays _ _ K.out hb).rest.rest, ?_⟩
        replace K := Lib.hid (Keep.stays _ _ K.out hb)
        simp only [Act.put, List.setIfInBounds_toArray, List.set_cons_zero, List.set_cons_succ]
        clear hb hN1
        (refine Ord.ways [4] (by kernel_rfl) ?_; intro i hi; simp only [List.mem_cons, List.not_mem_nil, or_false] at hi; rcases hi with (rfl))
        refine Way.call (g := 80) (args := #[.agg #[.bool q2, .slice A2 l2 c2], .agg #[.bool zn, .slice ZA zl zc]]) rfl (by rfl) (by (go_simp; try (with_reducible rfl))) ?_
        refine (quo_nz hN2 (HZ.out.below K.out.B) (by omega) (by omega)).mono ?_
        rintro e W5 ⟨q3, A3, l3, c3, rn, R, rl, rc, e', u, rfl, hN3, -, hb⟩
        refine ⟨_, rfl, (Keep.stays _ _ K.out hb).rest.rest, ?_⟩
        replace K := Lib.hid (Keep.stays _ _ K.out hb)
        simp only [Act.put, List.setIfInBounds_toArray, List.set_cons_zero, List.set_cons_succ]
        clear hb hN2
        have KK := K
        replace K := Lib.hid (K.out.rest.rest)
        (refine Ord.take' 5 rfl (by kernel_rfl) (fun _ _ _ _ h => h) K.out (by rfl) ?_; apply Exists.intro; refine ⟨fun p => ?_, ?_⟩; (focus (go_simp; (try (with_reducible rfl)); done)); (try simp only [Act.put, List.setIfInBounds_toArray, List.set_cons_zero, List.set_cons_succ]))
        (refine Ord.take' 6 rfl (by kernel_rfl) (fun _ _ _ _ h => h) K.out (by rfl) ?_; apply Exists.intro; refine ⟨fun p => ?_, ?_⟩; (focus (go_simp; (try (with_reducible rfl)); done)); (try simp only [Act.put, List.setIfInBounds_toArray, List.set_cons_zero, List.set_cons_succ]))
        (refine Ord.take' 7 rfl (by kernel_rfl) (fun _ _ _ _ h => h) K.out (by rfl) ?_; apply Exists.intro; refine ⟨fun p => ?_, ?_⟩; (focus (go_simp; (try (with_reducible rfl)); done)); (try simp only [Act.put, List.setIfInBounds_toArray, List.set_cons_zero, List.set_cons_succ]))
        (refine Ord.take' 8 rfl (by kernel_rfl) (fun _ _ _ _ h => h) K.out (by rfl) ?_; apply Exists.intro; refine ⟨fun p => ?_, ?_⟩; (focus (go_simp; (try (with_reducible rfl)); done)); (try simp only [Act.put, List.setIfInBounds_toArray, List.set_cons_zero, List.set_cons_succ]))
        replace K := KK
        clear KK
        (refine Ord.ways [11] (by kernel_rfl) ?_; intro i hi; simp only [List.mem_cons, List.not_mem_nil, or_false] at hi; rcases hi with (rfl))
        obtain ⟨f1, d0, d1⟩ := K.out.nm (.tail _ (.head _))
        have KS := Lib.hid (K.out.putn [_] q3 (.slice A3 l3 c3))
        simp only [List.cons_append, List.nil_append] at KS
        refine Way.skip rfl (by rfl) (by (go_simp; try (with_reducible rfl))) ⟨KS.out.rest.rest, ?_⟩
        replace hN3 := hN3.put d0 (.bool q3) (.slice A3 l3 c3)
        clear f1 d0 d1 K
        generalize World.setCell (World.setCell W5 _ _) _ _ = Ws1 at *
        have K := KS
        clear KS
        simp only [Act.put, List.setIfInBounds_toArray, List.set_cons_zero, List.set_cons_succ]
        (refine Ord.ways [12] (by kernel_rfl) ?_; intro i hi; simp only [List.mem_cons, List.not_mem_nil, or_false] at hi; rcases hi with (rfl))
        obtain ⟨f1, d0, d1⟩ := K.out.nm (.head _)
        have KS := Lib.hid (K.out.putn [] rn (.slice R rl rc))
        simp only [List.cons_append, List.nil_append] at KS
        refine Way.skip rfl (by rfl) (by (go_simp; try (with_reducible rfl))) ⟨KS.out.rest.rest, ?_⟩
        replace hN3 := hN3.put d0 (.bool rn) (.slice R rl rc)
        clear f1 d0 d1 K
        generalize World.setCell (World.setCell Ws1 _ _) _ _ = Ws2 at *
        have K := KS
        clear KS
        simp only [Act.put, List.setIfInBounds_toArray, List.set_cons_zero, List.set_cons_succ]
        (refine Ord.done (by kernel_rfl) ?_; simp only [List.drop_succ_cons, List.drop_zero, Act.put, List.setIfInBounds_toArray, List.set_cons_zero, List.set_cons_succ])
        obtain ⟨f1, d0, d1⟩ := K.out.nm (.tail _ (.head _))
        obtain ⟨f2, b0, b1⟩ := K.out.nm (.tail _ (.tail _ (.head _)))
        go_wp2_with fail
        have K2 := Lib.hid (K.out.putn [_, _] q3 (.slice A3 l3 c3))
        refine ret_nm Tryz.results79 rfl (K2.out.nb (.tail _ (.tail _ (.head _)))) ?_
        exact ⟨q3, A3, l3, c3, rfl, hN3.put b0 _ _, K2.out.B⟩
    · skip
      have hx := Ext.alloc W1 (Obj.num false (.slice none 0 0))
      replace K := Lib.hid (K.out.alloc (Obj.num false (.slice none 0 0)))
      refine Way.lay (v := .pointer (some ⟨W1.heap.size, 0, none⟩)) rfl (by rfl) (by (go_simp; rfl)) ⟨K.out.rest, ?_⟩
      replace hN1 := hN1.below hx
      clear hx
      generalize W1.heap.size = g10 at *
      generalize W1.alloc _ = W2 at *
      simp only [Act.put, List.setIfInBounds_toArray, List.set_cons_zero, List.set_cons_succ]
      (refine Ord.ways [2, 9] (by kernel_rfl) ?_; intro i hi; simp only [List.mem_cons, List.not_mem_nil, or_false] at hi; rcases hi with (rfl | rfl))
      · skip
        refine Way.call (g := 23) (args := #[.agg #[.bool xn, .slice XA xl xc], .agg #[.bool q1, .slice A1 l1 c1]]) rfl (by rfl) (by (go_simp; try (with_reducible rfl))) ?_
        refine (mul_nz (HX.out.below K.out.B) hN1 (by omega) (by omega)).mono ?_
        rintro e W3 ⟨q2, A2, l2, c2, rfl, hN2, hb⟩
        refine ⟨_, rfl, (Keep.stays _ _ K.out hb).rest, ?_⟩
        replace K := Lib.hid (Keep.stays _ _ K.out hb)
        simp only [Act.put, List.setIfInBounds_toArray, List.set_cons_zero, List.set_cons_succ]
        clear hb hN1
        (refine Ord.ways [4, 9] (by kernel_rfl) ?_; intro i hi; simp only [List.mem_cons, List.not_mem_nil, or_false] at hi; rcases hi with (rfl | rfl))
        · skip
          refine Way.call (g := 80) (args := #[.agg #[.bool q2, .slice A2 l2 c2], .agg #[.bool zn, .slice ZA zl zc]]) rfl (by rfl) (by (go_simp; try (with_reducible rfl))) ?_
          refine (quo_nz hN2 (HZ.out.below K.out.B) (by omega) (by omega)).mono ?_
          rintro e W4 ⟨q3, A3, l3, c3, rn, R, rl, rc, e', u, rfl, hN3, -, hb⟩
          refine ⟨_, rfl, (Keep.stays _ _ K.out hb).rest, ?_⟩
          replace K := Lib.hid (Keep.stays _ _ K.out hb)
          simp only [Act.put, List.setIfInBounds_toArray, List.set_cons_zero, List.set_cons_succ]
          clear hb hN2
          have KK := K
          replace K := Lib.hid (K.out.rest)
          (refine Ord.take' 5 rfl (by kernel_rfl) (fun _ _ _ _ h => h) K.out (by rfl) ?_; apply Exists.intro; refine ⟨fun p => ?_, ?_⟩; (focus (go_simp; (try (with_reducible rfl)); done)); (try simp only [Act.put, List.setIfInBounds_toArray, List.set_cons_zero, List.set_cons_succ]))
          (refine Ord.take' 6 rfl (by kernel_rfl) (fun _ _ _ _ h => h) K.out (by rfl) ?_; apply Exists.intro; refine ⟨fun p => ?_, ?_⟩; (focus (go_simp; (try (with_reducible rfl)); done)); (try simp only [Act.put, List.setIfInBounds_toArray, List.set_cons_zero, List.set_cons_succ]))
          (refine Ord.take' 7 rfl (by kernel_rfl) (fun _ _ _ _ h => h) K.out (by rfl) ?_; apply Exists.intro; refine ⟨fun p => ?_, ?_⟩; (focus (go_simp; (try (with_reducible rfl)); done)); (try simp only [Act.put, List.setIfInBounds_toArray, List.set_cons_zero, List.set_cons_succ]))
          (refine Ord.take' 8 rfl (by kernel_rfl) (fun _ _ _ _ h => h) K.out (by rfl) ?_; apply Exists.intro; refine ⟨fun p => ?_, ?_⟩; (focus (go_simp; (try (with_reducible rfl)); done)); (try simp only [Act.put, List.setIfInBounds_toArray, List.set_cons_zero, List.set_cons_succ]))
          replace K := KK
          clear KK
          (refine Ord.ways [9] (by kernel_rfl) ?_; intro i hi; simp only [List.mem_cons, List.not_mem_nil, or_false] at hi; rcases hi with (rfl))
          have hx := Ext.alloc W4 (Obj.num false (.slice none 0 0))
          replace K := Lib.hid (K.out.alloc (Obj.num false (.slice none 0 0)))
          refine Way.lay (v := .pointer (some ⟨W4.heap.size, 0, none⟩)) rfl (by rfl) (by (go_simp; rfl)) ⟨K.out.rest.rest, ?_⟩
          replace hN3 := hN3.below hx
          clear hx
          generalize W4.heap.size = g9 at *
          generalize W4.alloc _ = W5 at *
          simp only [Act.put, List.setIfInBounds_toArray, List.set_cons_zero, List.set_cons_succ]
          (refine Ord.ways [11] (by kernel_rfl) ?_; intro i hi; simp only [List.mem_cons, List.not_mem_nil, or_false] at hi; rcases hi with (rfl))
          obtain ⟨f1, d0, d1⟩ := K.out.nm (.head _)
          have KS := Lib.hid (K.out.putn [] q3 (.slice A3 l3 c3))
          simp only [List.cons_append, List.nil_append] at KS
          refine Way.skip rfl (by rfl) (by (go_simp; try (with_reducible rfl))) ⟨KS.out.rest.rest, ?_⟩
          replace hN3 := hN3.put d0 (.bool q3) (.slice A3 l3 c3)
          clear f1 d0 d1 K
          generalize World.setCell (World.setCell W5 _ _) _ _ = Ws1 at *
          have K := KS
          clear KS
          simp only [Act.put, List.setIfInBounds_toArray, List.set_cons_zero, List.set_cons_succ]
          (refine Ord.ways [12] (by kernel_rfl) ?_; intro i hi; simp only [List.mem_cons, List.not_mem_nil, or_false] at hi; rcases hi with (rfl))
          obtain ⟨f1, d0, d1⟩ := K.out.nm (.tail _ (.head _))
          have KS := Lib.hid (K.out.putn [_] rn (.slice R rl rc))
          simp only [List.cons_append, List.nil_append] at KS
          refine Way.skip rfl (by rfl) (by (go_simp; try (with_reducible rfl))) ⟨KS.out.rest.rest, ?_⟩
          replace hN3 := hN3.put d0 (.bool rn) (.slice R rl rc)
          clear f1 d0 d1 K
          generalize World.setCell (World.setCell Ws1 _ _) _ _ = Ws2 at *
          have K := KS
          clear KS
          simp only [Act.put, List.setIfInBounds_toArray, List.set_cons_zero, List.set_cons_succ]
          (refine Ord.done (by kernel_rfl) ?_; simp only [List.drop_succ_cons, List.drop_zero, Act.put, List.setIfInBounds_toArray, List.set_cons_zero, List.set_cons_succ])
          obtain ⟨f1, d0, d1⟩ := K.out.nm (.head _)
          obtain ⟨f2, b0, b1⟩ := K.out.nm (.tail _ (.tail _ (.head _)))
          go_wp2_with fail
          have K2 := Lib.hid (K.out.putn [_, _] q3 (.slice A3 l3 c3))
          refine ret_nm Tryz.results79 rfl (K2.out.nb (.tail _ (.tail _ (.head _)))) ?_
          exact ⟨q3, A3, l3, c3, rfl, hN3.put b0 _ _, K2.out.B⟩
        · skip
          have hx := Ext.alloc W3 (Obj.num false (.slice none 0 0))
          replace K := Lib.hid (K.out.alloc (Obj.num false (.slice none 0 0)))
          refine Way.lay (v := .pointer (some ⟨W3.heap.size, 0, none⟩)) rfl (by rfl) (by (go_simp; rfl)) ⟨K.out.rest.rest, ?_⟩
          replace hN2 := hN2.below hx
          clear hx
          generalize W3.heap.size = g9 at *
          generalize W3.alloc _ = W4 at *
          simp only [Act.put, List.setIfInBounds_toArray, List.set_cons_zero, List.set_cons_succ]
          (refine Ord.ways [4] (by kernel_rfl) ?_; intro i hi; simp only [List.mem_cons, List.not_mem_nil, or_false] at hi; rcases hi with (rfl))
          refine Way.call (g := 80) (args := #[.agg #[.bool q2, .slice A2 l2 c2], .agg #[.bool zn, .slice ZA zl zc]]) rfl (by rfl) (by (go_simp; try (with_reducible rfl))) ?_
          refine (quo_nz hN2 (HZ.out.below K.out.B) (by omega) (by omega)).mono ?_
          rintro e W5 ⟨q3, A3, l3, c3, rn, R, rl, rc, e', u, rfl, hN3, -, hb⟩
          refine ⟨_, rfl, (Keep.stays _ _ K.out hb).rest.rest, ?_⟩
          replace K := Lib.hid (Keep.stays _ _ K.out hb)
          simp only [Act.put, List.setIfInBounds_toArray, List.set_cons_zero, List.set_cons_succ]
          clear hb hN2
          have KK := K
          replace K := Lib.hid (K.out.rest.rest)
          (refine Ord.take' 5 rfl (by kernel_rfl) (fun _ _ _ _ h => h) K.out (by rfl) ?_; apply Exists.intro; refine ⟨fun p => ?_, ?_⟩; (focus (go_simp; (try (with_reducible rfl)); done)); (try simp only [Act.put, List.setIfInBounds_toArray, List.set_cons_zero, List.set_cons_succ]))
          (refine Ord.take' 6 rfl (by kernel_rfl) (fun _ _ _ _ h => h) K.out (by rfl) ?_; apply Exists.intro; refine ⟨fun p => ?_, ?_⟩; (focus (go_simp; (try (with_reducible rfl)); done)); (try simp only [Act.put, List.setIfInBounds_toArray, List.set_cons_zero, List.set_cons_succ]))
          (refine Ord.take' 7 rfl (by kernel_rfl) (fun _ _ _ _ h => h) K.out (by rfl) ?_; apply Exists.intro; refine ⟨fun p => ?_, ?_⟩; (focus (go_simp; (try (with_reducible rfl)); done)); (try simp only [Act.put, List.setIfInBounds_toArray, List.set_cons_zero, List.set_cons_succ]))
          (refine Ord.take' 8 rfl (by kernel_rfl) (fun _ _ _ _ h => h) K.out (by rfl) ?_; apply Exists.intro; refine ⟨fun p => ?_, ?_⟩; (focus (go_simp; (try (with_reducible rfl)); done)); (try simp only [Act.put, List.setIfInBounds_toArray, List.set_cons_zero, List.set_cons_succ]))
          replace K := KK
          clear KK
          (refine Ord.ways [11] (by kernel_rfl) ?_; intro i hi; simp only [List.mem_cons, List.not_mem_nil, or_false] at hi; rcases hi with (rfl))
          obtain ⟨f1, d0, d1⟩ := K.out.nm (.head _)
          have KS := Lib.hid (K.out.putn [] q3 (.slice A3 l3 c3))
          simp only [List.cons_append, List.nil_append] at KS
          refine Way.skip rfl (by rfl) (by (go_simp; try (with_reducible rfl))) ⟨KS.out.rest.rest, ?_⟩
          replace hN3 := hN3.put d0 (.bool q3) (.slice A3 l3 c3)
          clear f1 d0 d1 K
          generalize World.setCell (World.setCell W5 _ _) _ _ = Ws1 at *
          have K := KS
          clear KS
          simp only [Act.put, List.setIfInBounds_toArray, List.set_cons_zero, List.set_cons_succ]
          (refine Ord.ways [12] (by kernel_rfl) ?_; intro i hi; simp only [List.mem_cons, List.not_mem_nil, or_false] at hi; rcases hi with (rfl))
          obtain ⟨f1, d0, d1⟩ := K.out.nm (.tail _ (.head _))
          have KS := Lib.hid (K.out.putn [_] rn (.slice R rl rc))
          simp only [List.cons_append, List.nil_append] at KS
          refine Way.skip rfl (by rfl) (by (go_simp; try (with_reducible rfl))) ⟨KS.out.rest.rest, ?_⟩
          replace hN3 := hN3.put d0 (.bool rn) (.slice R rl rc)
          clear f1 d0 d1 K
          generalize World.setCell (World.setCell Ws1 _ _) _ _ = Ws2 at *
          have K := KS
          clear KS
          simp only [Act.put, List.setIfInBounds_toArray, List.set_cons_zero, List.set_cons_succ]
          (refine Ord.done (by kernel_rfl) ?_; simp only [List.drop_succ_cons, List.drop_zero, Act.put, List.setIfInBounds_toArray, List.set_cons_zero, List.set_cons_succ])
          obtain ⟨f1, d0, d1⟩ := K.out.nm (.head _)
          obtain ⟨f2, b0, b1⟩ := K.out.nm (.tail _ (.tail _ (.head _)))
          go_wp2_with fail
          have K2 := Lib.hid (K.out.putn [_, _] q3 (.slice A3 l3 c3))
          refine ret_nm Tryz.results79 rfl (K2.out.nb (.tail _ (.tail _ (.head _)))) ?_
          exact ⟨q3, A3, l3, c3, rfl, hN3.put b0 _ _, K2.out.B⟩
      · skip
        have hx := Ext.alloc W2 (Obj.num false (.slice none 0 0))
        replace K := Lib.hid (K.out.alloc (Obj.num false (.slice none 0 0)))
        refine Way.lay (v := .pointer (some ⟨W2.heap.size, 0, none⟩)) rfl (by rfl) (by (go_simp; rfl)) ⟨K.out.rest.rest, ?_⟩
        replace hN1 := hN1.below hx
        clear hx
        generalize W2.heap.size = g9 at *
        generalize W2.alloc _ = W3 at *
        simp only [Act.put, List.setIfInBounds_toArray, List.set_cons_zero, List.set_cons_succ]
        (refine Ord.ways [2] (by kernel_rfl) ?_; intro i hi; simp only [List.mem_cons, List.not_mem_nil, or_false] at hi; rcases hi with (rfl))
        refine Way.call (g := 23) (args := #[.agg #[.bool xn, .slice XA xl xc], .agg #[.bool q1, .slice A1 l1 c1]]) rfl (by rfl) (by (go_simp; try (with_reducible rfl))) ?_
        refine (mul_nz (HX.out.below K.out.B) hN1 (by omega) (by omega)).mono ?_
        rintro e W4 ⟨q2, A2, l2, c2, rfl, hN2, hb⟩
        refine ⟨_, rfl, (Keep.stays _ _ K.out hb).rest.rest, ?_⟩
        replace K := Lib.hid (Keep.stays _ _ K.out hb)
        simp only [Act.put, List.setIfInBounds_toArray, List.set_cons_zero, List.set_cons_succ]
        clear hb hN1
        (refine Ord.ways [4] (by kernel_rfl) ?_; intro i hi; simp only [List.mem_cons, List.not_mem_nil, or_false] at hi; rcases hi with (rfl))
        refine Way.call (g := 80) (args := #[.agg #[.bool q2, .slice A2 l2 c2], .agg #[.bool zn, .slice ZA zl zc]]) rfl (by rfl) (by (go_simp; try (with_reducible rfl))) ?_
        refine (quo_nz hN2 (HZ.out.below K.out.B) (by omega) (by omega)).mono ?_
        rintro e W5 ⟨q3, A3, l3, c3, rn, R, rl, rc, e', u, rfl, hN3, -, hb⟩
        refine ⟨_, rfl, (Keep.stays _ _ K.out hb).rest.rest, ?_⟩
        replace K := Lib.hid (Keep.stays _ _ K.out hb)
        simp only [Act.put, List.setIfInBounds_toArray, List.set_cons_zero, List.set_cons_succ]
        clear hb hN2
        have KK := K
        replace K := Lib.hid (K.out.rest.rest)
        (refine Ord.take' 5 rfl (by kernel_rfl) (fun _ _ _ _ h => h) K.out (by rfl) ?_; apply Exists.intro; refine ⟨fun p => ?_, ?_⟩; (focus (go_simp; (try (with_reducible rfl)); done)); (try simp only [Act.put, List.setIfInBounds_toArray, List.set_cons_zero, List.set_cons_succ]))
        (refine Ord.take' 6 rfl (by kernel_rfl) (fun _ _ _ _ h => h) K.out (by rfl) ?_; apply Exists.intro; refine ⟨fun p => ?_, ?_⟩; (focus (go_simp; (try (with_reducible rfl)); done)); (try simp only [Act.put, List.setIfInBounds_toArray, List.set_cons_zero, List.set_cons_succ]))
        (refine Ord.take' 7 rfl (by kernel_rfl) (fun _ _ _ _ h => h) K.out (by rfl) ?_; apply Exists.intro; refine ⟨fun p => ?_, ?_⟩; (focus (go_simp; (try (with_reducible rfl)); done)); (try simp only [Act.put, List.setIfInBounds_toArray, List.set_cons_zero, List.set_cons_succ]))
        (refine Ord.take' 8 rfl (by kernel_rfl) (fun _ _ _ _ h => h) K.out (by rfl) ?_; apply Exists.intro; refine ⟨fun p => ?_, ?_⟩; (focus (go_simp; (try (with_reducible rfl)); done)); (try simp only [Act.put, List.setIfInBounds_toArray, List.set_cons_zero, List.set_cons_succ]))
        replace K := KK
        clear KK
        (refine Ord.ways [11] (by kernel_rfl) ?_; intro i hi; simp only [List.mem_cons, List.not_mem_nil, or_false] at hi; rcases hi with (rfl))
        obtain ⟨f1, d0, d1⟩ := K.out.nm (.head _)
        have KS := Lib.hid (K.out.putn [] q3 (.slice A3 l3 c3))
        simp only [List.cons_append, List.nil_append] at KS
        refine Way.skip rfl (by rfl) (by (go_simp; try (with_reducible rfl))) ⟨KS.out.rest.rest, ?_⟩
        replace hN3 := hN3.put d0 (.bool q3) (.slice A3 l3 c3)
        clear f1 d0 d1 K
        generalize World.setCell (World.setCell W5 _ _) _ _ = Ws1 at *
        have K := KS
        clear KS
        simp only [Act.put, List.setIfInBounds_toArray, List.set_cons_zero, List.set_cons_succ]
        (refine Ord.ways [12] (by kernel_rfl) ?_; intro i hi; simp only [List.mem_cons, List.not_mem_nil, or_false] at hi; rcases hi with (rfl))
        obtain ⟨f1, d0, d1⟩ := K.out.nm (.tail _ (.head _))
        have KS := Lib.hid (K.out.putn [_] rn (.slice R rl rc))
        simp only [List.cons_append, List.nil_append] at KS
        refine Way.skip rfl (by rfl) (by (go_simp; try (with_reducible rfl))) ⟨KS.out.rest.rest, ?_⟩
        replace hN3 := hN3.put d0 (.bool rn) (.slice R rl rc)
        clear f1 d0 d1 K
        generalize World.setCell (World.setCell Ws1 _ _) _ _ = Ws2 at *
        have K := KS
        clear KS
        simp only [Act.put, List.setIfInBounds_toArray, List.set_cons_zero, List.set_cons_succ]
        (refine Ord.done (by kernel_rfl) ?_; simp only [List.drop_succ_cons, List.drop_zero, Act.put, List.setIfInBounds_toArray, List.set_cons_zero, List.set_cons_succ])
        obtain ⟨f1, d0, d1⟩ := K.out.nm (.head _)
        obtain ⟨f2, b0, b1⟩ := K.out.nm (.tail _ (.tail _ (.head _)))
        go_wp2_with fail
        have K2 := Lib.hid (K.out.putn [_, _] q3 (.slice A3 l3 c3))
        refine ret_nm Tryz.results79 rfl (K2.out.nb (.tail _ (.tail _ (.head _)))) ?_
        exact ⟨q3, A3, l3, c3, rfl, hN3.put b0 _ _, K2.out.B⟩
  · skip
    have hx := Ext.alloc W (Obj.num false (.slice none 0 0))
    replace K := Lib.hid (K.out.alloc (Obj.num false (.slice none 0 0)))
    refine Way.lay (v := .pointer (some ⟨W.heap.size, 0, none⟩)) rfl (by rfl) (by (go_simp; rfl)) ⟨K.out.rest, ?_⟩
    clear hx
    generalize W.heap.size = g9 at *
    generalize W.alloc _ = W1 at *
    simp only [Act.put, List.setIfInBounds_toArray, List.set_cons_zero, List.set_cons_succ]
    (refine Ord.ways [1, 10] (by kernel_rfl) ?_; intro i hi; simp only [List.mem_cons, List.not_mem_nil, or_false] at hi; rcases hi with (rfl | rfl))
    · skip
      refine Way.call (g := 19) (args := #[.int .i64 1024]) rfl (by rfl) (by (go_simp; try (with_reducible rfl))) ?_
      refine (int_nz 1024 _ (by decide) (by decide)).mono ?_
      rintro e W2 ⟨q1, A1, l1, c1, rfl, hN1, hb⟩
      refine ⟨_, rfl, (Keep.stays _ _ K.out hb).rest, ?_⟩
      replace K := Lib.hid (Keep.stays _ _ K.out hb)
      simp only [Act.put, List.setIfInBounds_toArray, List.set_cons_zero, List.set_cons_succ]
      clear hb
      (refine Ord.ways [2, 10] (by kernel_rfl) ?_; intro i hi; simp only [List.mem_cons, List.not_mem_nil, or_false] at hi; rcases hi with (rfl | rfl))
      · skip
        refine Way.call (g := 23) (args := #[.agg #[.bool xn, .slice XA xl xc], .agg #[.bool q1, .slice A1 l1 c1]]) rfl (by rfl) (by (go_simp; try (with_reducible rfl))) ?_
        refine (mul_nz (HX.out.below K.out.B) hN1 (by omega) (by omega)).mono ?_
        rintro e W3 ⟨q2, A2, l2, c2, rfl, hN2, hb⟩
        refine ⟨_, rfl, (Keep.stays _ _ K.out hb).rest, ?_⟩
        replace K := Lib.hid (Keep.stays _ _ K.out hb)
        simp only [Act.put, List.setIfInBounds_toArray, List.set_cons_zero, List.set_cons_succ]
        clear hb hN1
        (refine Ord.ways [4, 10] (by kernel_rfl) ?_; intro i hi; simp only [List.mem_cons, List.not_mem_nil, or_false] at hi; rcases hi with (rfl | rfl))
        · skip
          refine Way.call (g := 80) (args := #[.agg #[.bool q2, .slice A2 l2 c2], .agg #[.bool zn, .slice ZA zl zc]]) rfl (by rfl) (by (go_simp; try (with_reducible rfl))) ?_
          refine (quo_nz hN2 (HZ.out.below K.out.B) (by omega) (by omega)).mono ?_
          rintro e W4 ⟨q3, A3, l3, c3, rn, R, rl, rc, e', u, rfl, hN3, -, hb⟩
          refine ⟨_, rfl, (Keep.stays _ _ K.out hb).rest, ?_⟩
          replace K := Lib.hid (Keep.stays _ _ K.out hb)
          simp only [Act.put, List.setIfInBounds_toArray, List.set_cons_zero, List.set_cons_succ]
          clear hb hN2
          have KK := K
          replace K := Lib.hid (K.out.rest)
          (refine Ord.take' 5 rfl (by kernel_rfl) (fun _ _ _ _ h => h) K.out (by rfl) ?_; apply Exists.intro; refine ⟨fun p => ?_, ?_⟩; (focus (go_simp; (try (with_reducible rfl)); done)); (try simp only [Act.put, List.setIfInBounds_toArray, List.set_cons_zero, List.set_cons_succ]))
          (refine Ord.take' 6 rfl (by kernel_rfl) (fun _ _ _ _ h => h) K.out (by rfl) ?_; apply Exists.intro; refine ⟨fun p => ?_, ?_⟩; (focus (go_simp; (try (with_reducible rfl)); done)); (try simp only [Act.put, List.setIfInBounds_toArray, List.set_cons_zero, List.set_cons_succ]))
          (refine Ord.take' 7 rfl (by kernel_rfl) (fun _ _ _ _ h => h) K.out (by rfl) ?_; apply Exists.intro; refine ⟨fun p => ?_, ?_⟩; (focus (go_simp; (try (with_reducible rfl)); done)); (try simp only [Act.put, List.setIfInBounds_toArray, List.set_cons_zero, List.set_cons_succ]))
          (refine Ord.take' 8 rfl (by kernel_rfl) (fun _ _ _ _ h => h) K.out (by rfl) ?_; apply Exists.intro; refine ⟨fun p => ?_, ?_⟩; (focus (go_simp; (try (with_reducible rfl)); done)); (try simp only [Act.put, List.setIfInBounds_toArray, List.set_cons_zero, List.set_cons_succ]))
          replace K := KK
          clear KK
          (refine Ord.ways [10] (by kernel_rfl) ?_; intro i hi; simp only [List.mem_cons, List.not_mem_nil, or_false] at hi; rcases hi with (rfl))
          have hx := Ext.alloc W4 (Obj.num false (.slice none 0 0))
          replace K := Lib.hid (K.out.alloc (Obj.num false (.slice none 0 0)))
          refine Way.lay (v := .pointer (some ⟨W4.heap.size, 0, none⟩)) rfl (by rfl) (by (go_simp; rfl)) ⟨K.out.rest.rest, ?_⟩
          replace hN3 := hN3.below hx
          clear hx
          generalize W4.heap.size = g10 at *
          generalize W4.alloc _ = W5 at *
          simp only [Act.put, List.setIfInBounds_toArray, List.set_cons_zero, List.set_cons_succ]
          (refine Ord.ways [11] (by kernel_rfl) ?_; intro i hi; simp only [List.mem_cons, List.not_mem_nil, or_false] at hi; rcases hi with (rfl))
          obtain ⟨f1, d0, d1⟩ := K.out.nm (.tail _ (.head _))
          have KS := Lib.hid (K.out.putn [_] q3 (.slice A3 l3 c3))
          simp only [List.cons_append, List.nil_append] at KS
          refine Way.skip rfl (by rfl) (by (go_simp; try (with_reducible rfl))) ⟨KS.out.rest.rest, ?_⟩
          replace hN3 := hN3.put d0 (.bool q3) (.slice A3 l3 c3)
          clear f1 d0 d1 K
          generalize World.setCell (World.setCell W5 _ _) _ _ = Ws1 at *
          have K := KS
          clear KS
          simp only [Act.put, List.setIfInBounds_toArray, List.set_cons_zero, List.set_cons_succ]
          (refine Ord.ways [12] (by kernel_rfl) ?_; intro i hi; simp only [List.mem_cons, List.not_mem_nil, or_false] at hi; rcases hi with (rfl))
          obtain ⟨f1, d0, d1⟩ := K.out.nm (.head _)
          have KS := Lib.hid (K.out.putn [] rn (.slice R rl rc))
          simp only [List.cons_append, List.nil_append] at KS
          refine Way.skip rfl (by rfl) (by (go_simp; try (with_reducible rfl))) ⟨KS.out.rest.rest, ?_⟩
          replace hN3 := hN3.put d0 (.bool rn) (.slice R rl rc)
          clear f1 d0 d1 K
          generalize World.setCell (World.setCell Ws1 _ _) _ _ = Ws2 at *
          have K := KS
          clear KS
          simp only [Act.put, List.setIfInBounds_toArray, List.set_cons_zero, List.set_cons_succ]
          (refine Ord.done (by kernel_rfl) ?_; simp only [List.drop_succ_cons, List.drop_zero, Act.put, List.setIfInBounds_toArray, List.set_cons_zero, List.set_cons_succ])
          obtain ⟨f1, d0, d1⟩ := K.out.nm (.tail _ (.head _))
          obtain ⟨f2, b0, b1⟩ := K.out.nm (.tail _ (.tail _ (.head _)))
          go_wp2_with fail
          have K2 := Lib.hid (K.out.putn [_, _] q3 (.slice A3 l3 c3))
          refine ret_nm Tryz.results79 rfl (K2.out.nb (.tail _ (.tail _ (.head _)))) ?_
          exact ⟨q3, A3, l3, c3, rfl, hN3.put b0 _ _, K2.out.B⟩
        · skip
          have hx := Ext.alloc W3 (Obj.num false (.slice none 0 0))
          replace K := Lib.hid (K.out.alloc (Obj.num false (.slice none 0 0)))
          refine Way.lay (v := .pointer (some ⟨W3.heap.size, 0, none⟩)) rfl (by rfl) (by (go_simp; rfl)) ⟨K.out.rest.rest, ?_⟩
          replace hN2 := hN2.below hx
          clear hx
          generalize W3.heap.size = g10 at *
          generalize W3.alloc _ = W4 at *
          simp only [Act.put, List.setIfInBounds_toArray, List.set_cons_zero, List.set_cons_succ]
          (refine Ord.ways [4] (by kernel_rfl) ?_; intro i hi; simp only [List.mem_cons, List.not_mem_nil, or_false] at hi; rcases hi with (rfl))
          refine Way.call (g := 80) (args := #[.agg #[.bool q2, .slice A2 l2 c2], .agg #[.bool zn, .slice ZA zl zc]]) rfl (by rfl) (by (go_simp; try (with_reducible rfl))) ?_
          refine (quo_nz hN2 (HZ.out.below K.out.B) (by omega) (by omega)).mono ?_
          rintro e W5 ⟨q3, A3, l3, c3, rn, R, rl, rc, e', u, rfl, hN3, -, hb⟩
          refine ⟨_, rfl, (Keep.stays _ _ K.out hb).rest.rest, ?_⟩
          replace K := Lib.hid (Keep.stays _ _ K.out hb)
          simp only [Act.put, List.setIfInBounds_toArray, List.set_cons_zero, List.set_cons_succ]
          clear hb hN2
          have KK := K
          replace K := Lib.hid (K.out.rest.rest)
          (refine Ord.take' 5 rfl (by kernel_rfl) (fun _ _ _ _ h => h) K.out (by rfl) ?_; apply Exists.intro; refine ⟨fun p => ?_, ?_⟩; (focus (go_simp; (try (with_reducible rfl)); done)); (try simp only [Act.put, List.setIfInBounds_toArray, List.set_cons_zero, List.set_cons_succ]))
          (refine Ord.take' 6 rfl (by kernel_rfl) (fun _ _ _ _ h => h) K.out (by rfl) ?_; apply Exists.intro; refine ⟨fun p => ?_, ?_⟩; (focus (go_simp; (try (with_reducible rfl)); done)); (try simp only [Act.put, List.setIfInBounds_toArray, List.set_cons_zero, List.set_cons_succ]))
          (refine Ord.take' 7 rfl (by kernel_rfl) (fun _ _ _ _ h => h) K.out (by rfl) ?_; apply Exists.intro; refine ⟨fun p => ?_, ?_⟩; (focus (go_simp; (try (with_reducible rfl)); done)); (try simp only [Act.put, List.setIfInBounds_toArray, List.set_cons_zero, List.set_cons_succ]))
          (refine Ord.take' 8 rfl (by kernel_rfl) (fun _ _ _ _ h => h) K.out (by rfl) ?_; apply Exists.intro; refine ⟨fun p => ?_, ?_⟩; (focus (go_simp; (try (with_reducible rfl)); done)); (try simp only [Act.put, List.setIfInBounds_toArray, List.set_cons_zero, List.set_cons_succ]))
          replace K := KK
          clear KK
          (refine Ord.ways [11] (by kernel_rfl) ?_; intro i hi; simp only [List.mem_cons, List.not_mem_nil, or_false] at hi; rcases hi with (rfl))
          obtain ⟨f1, d0, d1⟩ := K.out.nm (.tail _ (.head _))
          have KS := Lib.hid (K.out.putn [_] q3 (.slice A3 l3 c3))
          simp only [List.cons_append, List.nil_append] at KS
          refine Way.skip rfl (by rfl) (by (go_simp; try (with_reducible rfl))) ⟨KS.out.rest.rest, ?_⟩
          replace hN3 := hN3.put d0 (.bool q3) (.slice A3 l3 c3)
          clear f1 d0 d1 K
          generalize World.setCell (World.setCell W5 _ _) _ _ = Ws1 at *
          have K := KS
          clear KS
          simp only [Act.put, List.setIfInBounds_toArray, List.set_cons_zero, List.set_cons_succ]
          (refine Ord.ways [12] (by kernel_rfl) ?_; intro i hi; simp only [List.mem_cons, List.not_mem_nil, or_false] at hi; rcases hi with (rfl))
          obtain ⟨f1, d0, d1⟩ := K.out.nm (.head _)
          have KS := Lib.hid (K.out.putn [] rn (.slice R rl rc))
          simp only [List.cons_append, List.nil_append] at KS
          refine Way.skip rfl (by rfl) (by (go_simp; try (with_reducible rfl))) ⟨KS.out.rest.rest, ?_⟩
          replace hN3 := hN3.put d0 (.bool rn) (.slice R rl rc)
          clear f1 d0 d1 K
          generalize World.setCell (World.setCell Ws1 _ _) _ _ = Ws2 at *
          have K := KS
          clear KS
          simp only [Act.put, List.setIfInBounds_toArray, List.set_cons_zero, List.set_cons_succ]
          (refine Ord.done (by kernel_rfl) ?_; simp only [List.drop_succ_cons, List.drop_zero, Act.put, List.setIfInBounds_toArray, List.set_cons_zero, List.set_cons_succ])
          obtain ⟨f1, d0, d1⟩ := K.out.nm (.tail _ (.head _))
          obtain ⟨f2, b0, b1⟩ := K.out.nm (.tail _ (.tail _ (.head _)))
          go_wp2_with fail
          have K2 := Lib.hid (K.out.putn [_, _] q3 (.slice A3 l3 c3))
          refine ret_nm Tryz.results79 rfl (K2.out.nb (.tail _ (.tail _ (.head _)))) ?_
          exact ⟨q3, A3, l3, c3, rfl, hN3.put b0 _ _, K2.out.B⟩
      · skip
        have hx := Ext.alloc W2 (Obj.num false (.slice none 0 0))
        replace K := Lib.hid (K.out.alloc (Obj.num false (.slice none 0 0)))
        refine Way.lay (v := .pointer (some ⟨W2.heap.size, 0, none⟩)) rfl (by rfl) (by (go_simp; rfl)) ⟨K.out.rest.rest, ?_⟩
        replace hN1 := hN1.below hx
        clear hx
        generalize W2.heap.size = g10 at *
        generalize W2.alloc _ = W3 at *
        simp only [Act.put, List.setIfInBounds_toArray, List.set_cons_zero, List.set_cons_succ]
        (refine Ord.ways [2] (by kernel_rfl) ?_; intro i hi; simp only [List.mem_cons, List.not_mem_nil, or_false] at hi; rcases hi with (rfl))
        refine Way.call (g := 23) (args := #[.agg #[.bool xn, .slice XA xl xc], .agg #[.bool q1, .slice A1 l1 c1]]) rfl (by rfl) (by (go_simp; try (with_reducible rfl))) ?_
        refine (mul_nz (HX.out.below K.out.B) hN1 (by omega) (by omega)).mono ?_
        rintro e W4 ⟨q2, A2, l2, c2, rfl, hN2, hb⟩
        refine ⟨_, rfl, (Keep.stays _ _ K.out hb).rest.rest, ?_⟩
        replace K := Lib.hid (Keep.stays _ _ K.out hb)
        simp only [Act.put, List.setIfInBounds_toArray, List.set_cons_zero, List.set_cons_succ]
        clear hb hN1
        (refine Ord.ways [4] (by kernel_rfl) ?_; intro i hi; simp only [List.mem_cons, List.not_mem_nil, or_false] at hi; rcases hi with (rfl))
        refine Way.call (g := 80) (args := #[.agg #[.bool q2, .slice A2 l2 c2], .agg #[.bool zn, .slice ZA zl zc]]) rfl (by rfl) (by (go_simp; try (with_reducible rfl))) ?_
        refine (quo_nz hN2 (HZ.out.below K.out.B) (by omega) (by omega)).mono ?_
        rintro e W5 ⟨q3, A3, l3, c3, rn, R, rl, rc, e', u, rfl, hN3, -, hb⟩
        refine ⟨_, rfl, (Keep.stays _ _ K.out hb).rest.rest, ?_⟩
        replace K := Lib.hid (Keep.stays _ _ K.out hb)
        simp only [Act.put, List.setIfInBounds_toArray, List.set_cons_zero, List.set_cons_succ]
        clear hb hN2
        have KK := K
        replace K := Lib.hid (K.out.rest.rest)
        (refine Ord.take' 5 rfl (by kernel_rfl) (fun _ _ _ _ h => h) K.out (by rfl) ?_; apply Exists.intro; refine ⟨fun p => ?_, ?_⟩; (focus (go_simp; (try (with_reducible rfl)); done)); (try simp only [Act.put, List.setIfInBounds_toArray, List.set_cons_zero, List.set_cons_succ]))
        (refine Ord.take' 6 rfl (by kernel_rfl) (fun _ _ _ _ h => h) K.out (by rfl) ?_; apply Exists.intro; refine ⟨fun p => ?_, ?_⟩; (focus (go_simp; (try (with_reducible rfl)); done)); (try simp only [Act.put, List.setIfInBounds_toArray, List.set_cons_zero, List.set_cons_succ]))
        (refine Ord.take' 7 rfl (by kernel_rfl) (fun _ _ _ _ h => h) K.out (by rfl) ?_; apply Exists.intro; refine ⟨fun p => ?_, ?_⟩; (focus (go_simp; (try (with_reducible rfl)); done)); (try simp only [Act.put, List.setIfInBounds_toArray, List.set_cons_zero, List.set_cons_succ]))
        (refine Ord.take' 8 rfl (by kernel_rfl) (fun _ _ _ _ h => h) K.out (by rfl) ?_; apply Exists.intro; refine ⟨fun p => ?_, ?_⟩; (focus (go_simp; (try (with_reducible rfl)); done)); (try simp only [Act.put, List.setIfInBounds_toArray, List.set_cons_zero, List.set_cons_succ]))
        replace K := KK
        clear KK
        (refine Ord.ways [11] (by kernel_rfl) ?_; intro i hi; simp only [List.mem_cons, List.not_mem_nil, or_false] at hi; rcases hi with (rfl))
        obtain ⟨f1, d0, d1⟩ := K.out.nm (.tail _ (.head _))
        have KS := Lib.hid (K.out.putn [_] q3 (.slice A3 l3 c3))
        simp only [List.cons_append, List.nil_append] at KS
        refine Way.skip rfl (by rfl) (by (go_simp; try (with_reducible rfl))) ⟨KS.out.rest.rest, ?_⟩
        replace hN3 := hN3.put d0 (.bool q3) (.slice A3 l3 c3)
        clear f1 d0 d1 K
        generalize World.setCell (World.setCell W5 _ _) _ _ = Ws1 at *
        have K := KS
        clear KS
        simp only [Act.put, List.setIfInBounds_toArray, List.set_cons_zero, List.set_cons_succ]
        (refine Ord.ways [12] (by kernel_rfl) ?_; intro i hi; simp only [List.mem_cons, List.not_mem_nil, or_false] at hi; rcases hi with (rfl))
        obtain ⟨f1, d0, d1⟩ := K.out.nm (.head _)
        have KS := Lib.hid (K.out.putn [] rn (.slice R rl rc))
        simp only [List.cons_append, List.nil_append] at KS
        refine Way.skip rfl (by rfl) (by (go_simp; try (with_reducible rfl))) ⟨KS.out.rest.rest, ?_⟩
        replace hN3 := hN3.put d0 (.bool rn) (.slice R rl rc)
        clear f1 d0 d1 K
        generalize World.setCell (World.setCell Ws1 _ _) _ _ = Ws2 at *
        have K := KS
        clear KS
        simp only [Act.put, List.setIfInBounds_toArray, List.set_cons_zero, List.set_cons_succ]
        (refine Ord.done (by kernel_rfl) ?_; simp only [List.drop_succ_cons, List.drop_zero, Act.put, List.setIfInBounds_toArray, List.set_cons_zero, List.set_cons_succ])
        obtain ⟨f1, d0, d1⟩ := K.out.nm (.tail _ (.head _))
        obtain ⟨f2, b0, b1⟩ := K.out.nm (.tail _ (.tail _ (.head _)))
        go_wp2_with fail
        have K2 := Lib.hid (K.out.putn [_, _] q3 (.slice A3 l3 c3))
        refine ret_nm Tryz.results79 rfl (K2.out.nb (.tail _ (.tail _ (.head _)))) ?_
        exact ⟨q3, A3, l3, c3, rfl, hN3.put b0 _ _, K2.out.B⟩
    · skip
      have hx := Ext.alloc W1 (Obj.num false (.slice none 0 0))
      replace K := Lib.hid (K.out.alloc (Obj.num false (.slice none 0 0)))
      refine Way.lay (v := .pointer (some ⟨W1.heap.size, 0, none⟩)) rfl (by rfl) (by (go_simp; rfl)) ⟨K.out.rest.rest, ?_⟩
      clear hx
      generalize W1.heap.size = g10 at *
      generalize W1.alloc _ = W2 at *
      simp only [Act.put, List.setIfInBounds_toArray, List.set_cons_zero, List.set_cons_succ]
      (refine Ord.ways [1] (by kernel_rfl) ?_; intro i hi; simp only [List.mem_cons, List.not_mem_nil, or_false] at hi; rcases hi with (rfl))
      refine Way.call (g := 19) (args := #[.int .i64 1024]) rfl (by rfl) (by (go_simp; try (with_reducible rfl))) ?_
      refine (int_nz 1024 _ (by decide) (by decide)).mono ?_
      rintro e W3 ⟨q1, A1, l1, c1, rfl, hN1, hb⟩
      refine ⟨_, rfl, (Keep.stays _ _ K.out hb).rest.rest, ?_⟩
      replace K := Lib.hid (Keep.stays _ _ K.out hb)
      simp only [Act.put, List.setIfInBounds_toArray, List.set_cons_zero, List.set_cons_succ]
      clear hb
      (refine Ord.ways [2] (by kernel_rfl) ?_; intro i hi; simp only [List.mem_cons, List.not_mem_nil, or_false] at hi; rcases hi with (rfl))
      refine Way.call (g := 23) (args := #[.agg #[.bool xn, .slice XA xl xc], .agg #[.bool q1, .slice A1 l1 c1]]) rfl (by rfl) (by (go_simp; try (with_reducible rfl))) ?_
      refine (mul_nz (HX.out.below K.out.B) hN1 (by omega) (by omega)).mono ?_
      rintro e W4 ⟨q2, A2, l2, c2, rfl, hN2, hb⟩
      refine ⟨_, rfl, (Keep.stays _ _ K.out hb).rest.rest, ?_⟩
      replace K := Lib.hid (Keep.stays _ _ K.out hb)
      simp only [Act.put, List.setIfInBounds_toArray, List.set_cons_zero, List.set_cons_succ]
      clear hb hN1
      (refine Ord.ways [4] (by kernel_rfl) ?_; intro i hi; simp only [List.mem_cons, List.not_mem_nil, or_false] at hi; rcases hi with (rfl))
      refine Way.call (g := 80) (args := #[.agg #[.bool q2, .slice A2 l2 c2], .agg #[.bool zn, .slice ZA zl zc]]) rfl (by rfl) (by (go_simp; try (with_reducible rfl))) ?_
      refine (quo_nz hN2 (HZ.out.below K.out.B) (by omega) (by omega)).mono ?_
      rintro e W5 ⟨q3, A3, l3, c3, rn, R, rl, rc, e', u, rfl, hN3, -, hb⟩
      refine ⟨_, rfl, (Keep.stays _ _ K.out hb).rest.rest, ?_⟩
      replace K := Lib.hid (Keep.stays _ _ K.out hb)
      simp only [Act.put, List.setIfInBounds_toArray, List.set_cons_zero, List.set_cons_succ]
      clear hb hN2
      have KK := K
      replace K := Lib.hid (K.out.rest.rest)
      (refine Ord.take' 5 rfl (by kernel_rfl) (fun _ _ _ _ h => h) K.out (by rfl) ?_; apply Exists.intro; refine ⟨fun p => ?_, ?_⟩; (focus (go_simp; (try (with_reducible rfl)); done)); (try simp only [Act.put, List.setIfInBounds_toArray, List.set_cons_zero, List.set_cons_succ]))
      (refine Ord.take' 6 rfl (by kernel_rfl) (fun _ _ _ _ h => h) K.out (by rfl) ?_; apply Exists.intro; refine ⟨fun p => ?_, ?_⟩; (focus (go_simp; (try (with_reducible rfl)); done)); (try simp only [Act.put, List.setIfInBounds_toArray, List.set_cons_zero, List.set_cons_succ]))
      (refine Ord.take' 7 rfl (by kernel_rfl) (fun _ _ _ _ h => h) K.out (by rfl) ?_; apply Exists.intro; refine ⟨fun p => ?_, ?_⟩; (focus (go_simp; (try (with_reducible rfl)); done)); (try simp only [Act.put, List.setIfInBounds_toArray, List.set_cons_zero, List.set_cons_succ]))
      (refine Ord.take' 8 rfl (by kernel_rfl) (fun _ _ _ _ h => h) K.out (by rfl) ?_; apply Exists.intro; refine ⟨fun p => ?_, ?_⟩; (focus (go_simp; (try (with_reducible rfl)); done)); (try simp only [Act.put, List.setIfInBounds_toArray, List.set_cons_zero, List.set_cons_succ]))
      replace K := KK
      clear KK
      (refine Ord.ways [11] (by kernel_rfl) ?_; intro i hi; simp only [List.mem_cons, List.not_mem_nil, or_false] at hi; rcases hi with (rfl))
      obtain ⟨f1, d0, d1⟩ := K.out.nm (.tail _ (.head _))
      have KS := Lib.hid (K.out.putn [_] q3 (.slice A3 l3 c3))
      simp only [List.cons_append, List.nil_append] at KS
      refine Way.skip rfl (by rfl) (by (go_simp; try (with_reducible rfl))) ⟨KS.out.rest.rest, ?_⟩
      replace hN3 := hN3.put d0 (.bool q3) (.slice A3 l3 c3)
      clear f1 d0 d1 K
      generalize World.setCell (World.setCell W5 _ _) _ _ = Ws1 at *
      have K := KS
      clear KS
      simp only [Act.put, List.setIfInBounds_toArray, List.set_cons_zero, List.set_cons_succ]
      (refine Ord.ways [12] (by kernel_rfl) ?_; intro i hi; simp only [List.mem_cons, List.not_mem_nil, or_false] at hi; rcases hi with (rfl))
      obtain ⟨f1, d0, d1⟩ := K.out.nm (.head _)
      have KS := Lib.hid (K.out.putn [] rn (.slice R rl rc))
      simp only [List.cons_append, List.nil_append] at KS
      refine Way.skip rfl (by rfl) (by (go_simp; try (with_reducible rfl))) ⟨KS.out.rest.rest, ?_⟩
      replace hN3 := hN3.put d0 (.bool rn) (.slice R rl rc)
      clear f1 d0 d1 K
      generalize World.setCell (World.setCell Ws1 _ _) _ _ = Ws2 at *
      have K := KS
      clear KS
      simp only [Act.put, List.setIfInBounds_toArray, List.set_cons_zero, List.set_cons_succ]
      (refine Ord.done (by kernel_rfl) ?_; simp only [List.drop_succ_cons, List.drop_zero, Act.put, List.setIfInBounds_toArray, List.set_cons_zero, List.set_cons_succ])
      obtain ⟨f1, d0, d1⟩ := K.out.nm (.tail _ (.head _))
      obtain ⟨f2, b0, b1⟩ := K.out.nm (.tail _ (.tail _ (.head _)))
      go_wp2_with fail
      have K2 := Lib.hid (K.out.putn [_, _] q3 (.slice A3 l3 c3))
      refine ret_nm Tryz.results79 rfl (K2.out.nb (.tail _ (.tail _ (.head _)))) ?_
      exact ⟨q3, A3, l3, c3, rfl, hN3.put b0 _ _, K2.out.B⟩
  · skip
    have hx := Ext.alloc W (Obj.num false (.slice none 0 0))
    replace K := Lib.hid (K.out.alloc (Obj.num false (.slice none 0 0)))
    refine Way.lay (v := .pointer (some ⟨W.heap.size, 0, none⟩)) rfl (by rfl) (by (go_simp; rfl)) ⟨K.out.rest, ?_⟩
    clear hx
    generalize W.heap.size = g10 at *
    generalize W.alloc _ = W1 at *
    simp only [Act.put, List.setIfInBounds_toArray, List.set_cons_zero, List.set_cons_succ]
    (refine Ord.ways [1, 9] (by kernel_rfl) ?_; intro i hi; simp only [List.mem_cons, List.not_mem_nil, or_false] at hi; rcases hi with (rfl | rfl))
    · skip
      refine Way.call (g := 19) (args := #[.int .i64 1024]) rfl (by rfl) (by (go_simp; try (with_reducible rfl))) ?_
      refine (int_nz 1024 _ (by decide) (by decide)).mono ?_
      rintro e W2 ⟨q1, A1, l1, c1, rfl, hN1, hb⟩
      refine ⟨_, rfl, (Keep.stays _ _ K.out hb).rest, ?_⟩
      replace K := Lib.hid (Keep.stays _ _ K.out hb)
      simp only [Act.put, List.setIfInBounds_toArray, List.set_cons_zero, List.set_cons_succ]
      clear hb
      (refine Ord.ways [2, 9] (by kernel_rfl) ?_; intro i hi; simp only [List.mem_cons, List.not_mem_nil, or_false] at hi; rcases hi with (rfl | rfl))
      · skip
        refine Way.call (g := 23) (args := #[.agg #[.bool xn, .slice XA xl xc], .agg #[.bool q1, .slice A1 l1 c1]]) rfl (by rfl) (by (go_simp; try (with_reducible rfl))) ?_
        refine (mul_nz (HX.out.below K.out.B) hN1 (by omega) (by omega)).mono ?_
        rintro e W3 ⟨q2, A2, l2, c2, rfl, hN2, hb⟩
        refine ⟨_, rfl, (Keep.stays _ _ K.out hb).rest, ?_⟩
        replace K := Lib.hid (Keep.stays _ _ K.out hb)
        simp only [Act.put, List.setIfInBounds_toArray, List.set_cons_zero, List.set_cons_succ]
        clear hb hN1
        (refine Ord.ways [4, 9] (by kernel_rfl) ?_; intro i hi; simp only [List.mem_cons, List.not_mem_nil, or_false] at hi; rcases hi with (rfl | rfl))
        · skip
          refine Way.call (g := 80) (args := #[.agg #[.bool q2, .slice A2 l2 c2], .agg #[.bool zn, .slice ZA zl zc]]) rfl (by rfl) (by (go_simp; try (with_reducible rfl))) ?_
          refine (quo_nz hN2 (HZ.out.below K.out.B) (by omega) (by omega)).mono ?_
          rintro e W4 ⟨q3, A3, l3, c3, rn, R, rl, rc, e', u, rfl, hN3, -, hb⟩
          refine ⟨_, rfl, (Keep.stays _ _ K.out hb).rest, ?_⟩
          replace K := Lib.hid (Keep.stays _ _ K.out hb)
          simp only [Act.put, List.setIfInBounds_toArray, List.set_cons_zero, List.set_cons_succ]
          clear hb hN2
          have KK := K
          replace K := Lib.hid (K.out.rest)
          (refine Ord.take' 5 rfl (by kernel_rfl) (fun _ _ _ _ h => h) K.out (by rfl) ?_; apply Exists.intro; refine ⟨fun p => ?_, ?_⟩; (focus (go_simp; (try (with_reducible rfl)); done)); (try simp only [Act.put, List.setIfInBounds_toArray, List.set_cons_zero, List.set_cons_succ]))
          (refine Ord.take' 6 rfl (by kernel_rfl) (fun _ _ _ _ h => h) K.out (by rfl) ?_; apply Exists.intro; refine ⟨fun p => ?_, ?_⟩; (focus (go_simp; (try (with_reducible rfl)); done)); (try simp only [Act.put, List.setIfInBounds_toArray, List.set_cons_zero, List.set_cons_succ]))
          (refine Ord.take' 7 rfl (by kernel_rfl) (fun _ _ _ _ h => h) K.out (by rfl) ?_; apply Exists.intro; refine ⟨fun p => ?_, ?_⟩; (focus (go_simp; (try (with_reducible rfl)); done)); (try simp only [Act.put, List.setIfInBounds_toArray, List.set_cons_zero, List.set_cons_succ]))
          (refine Ord.take' 8 rfl (by kernel_rfl) (fun _ _ _ _ h => h) K.out (by rfl) ?_; apply Exists.intro; refine ⟨fun p => ?_, ?_⟩; (focus (go_simp; (try (with_reducible rfl)); done)); (try simp only [Act.put, List.setIfInBounds_toArray, List.set_cons_zero, List.set_cons_succ]))
          replace K := KK
          clear KK
          (refine Ord.ways [9] (by kernel_rfl) ?_; intro i hi; simp only [List.mem_cons, List.not_mem_nil, or_false] at hi; rcases hi with (rfl))
          have hx := Ext.alloc W4 (Obj.num false (.slice none 0 0))
          replace K := Lib.hid (K.out.alloc (Obj.num false (.slice none 0 0)))
          refine Way.lay (v := .pointer (some ⟨W4.heap.size, 0, none⟩)) rfl (by rfl) (by (go_simp; rfl)) ⟨K.out.rest.rest, ?_⟩
          replace hN3 := hN3.below hx
          clear hx
          generalize W4.heap.size = g9 at *
          generalize W4.alloc _ = W5 at *
          simp only [Act.put, List.setIfInBounds_toArray, List.set_cons_zero, List.set_cons_succ]
          (refine Ord.ways [11] (by kernel_rfl) ?_; intro i hi; simp only [List.mem_cons, List.not_mem_nil, or_false] at hi; rcases hi with (rfl))
          obtain ⟨f1, d0, d1⟩ := K.out.nm (.head _)
          have KS := Lib.hid (K.out.putn [] q3 (.slice A3 l3 c3))
          simp only [List.cons_append, List.nil_append] at KS
          refine Way.skip rfl (by rfl) (by (go_simp; try (with_reducible rfl))) ⟨KS.out.rest.rest, ?_⟩
          replace hN3 := hN3.put d0 (.bool q3) (.slice A3 l3 c3)
          clear f1 d0 d1 K
          generalize World.setCell (World.setCell W5 _ _) _ _ = Ws1 at *
          have K := KS
          clear KS
          simp only [Act.put, List.setIfInBounds_toArray, List.set_cons_zero, List.set_cons_succ]
          (refine Ord.ways [12] (by kernel_rfl) ?_; intro i hi; simp only [List.mem_cons, List.not_mem_nil, or_false] at hi; rcases hi with (rfl))
          obtain ⟨f1, d0, d1⟩ := K.out.nm (.tail _ (.head _))
          have KS := Lib.hid (K.out.putn [_] rn (.slice R rl rc))
          simp only [List.cons_append, List.nil_append] at KS
          refine Way.skip rfl (by rfl) (by (go_simp; try (with_reducible rfl))) ⟨KS.out.rest.rest, ?_⟩
          replace hN3 := hN3.put d0 (.bool rn) (.slice R rl rc)
          clear f1 d0 d1 K
          generalize World.setCell (World.setCell Ws1 _ _) _ _ = Ws2 at *
          have K := KS
          clear KS
          simp only [Act.put, List.setIfInBounds_toArray, List.set_cons_zero, List.set_cons_succ]
          (refine Ord.done (by kernel_rfl) ?_; simp only [List.drop_succ_cons, List.drop_zero, Act.put, List.setIfInBounds_toArray, List.set_cons_zero, List.set_cons_succ])
          obtain ⟨f1, d0, d1⟩ := K.out.nm (.head _)
          obtain ⟨f2, b0, b1⟩ := K.out.nm (.tail _ (.tail _ (.head _)))
          go_wp2_with fail
          have K2 := Lib.hid (K.out.putn [_, _] q3 (.slice A3 l3 c3))
          refine ret_nm Tryz.results79 rfl (K2.out.nb (.tail _ (.tail _ (.head _)))) ?_
          exact ⟨q3, A3, l3, c3, rfl, hN3.put b0 _ _, K2.out.B⟩
        · skip
          have hx := Ext.alloc W3 (Obj.num false (.slice none 0 0))
          replace K := Lib.hid (K.out.alloc (Obj.num false (.slice none 0 0)))
          refine Way.lay (v := .pointer (some ⟨W3.heap.size, 0, none⟩)) rfl (by rfl) (by (go_simp; rfl)) ⟨K.out.rest.rest, ?_⟩
          replace hN2 := hN2.below hx
          clear hx
          generalize W3.heap.size = g9 at *
          generalize W3.alloc _ = W4 at *
          simp only [Act.put, List.setIfInBounds_toArray, List.set_cons_zero, List.set_cons_succ]
          (refine Ord.ways [4] (by kernel_rfl) ?_; intro i hi; simp only [List.mem_cons, List.not_mem_nil, or_false] at hi; rcases hi with (rfl))
          refine Way.call (g := 80) (args := #[.agg #[.bool q2, .slice A2 l2 c2], .agg #[.bool zn, .slice ZA zl zc]]) rfl (by rfl) (by (go_simp; try (with_reducible rfl))) ?_
          refine (quo_nz hN2 (HZ.out.below K.out.B) (by omega) (by omega)).mono ?_
          rintro e W5 ⟨q3, A3, l3, c3, rn, R, rl, rc, e', u, rfl, hN3, -, hb⟩
          refine ⟨_, rfl, (Keep.stays _ _ K.out hb).rest.rest, ?_⟩
          replace K := Lib.hid (Keep.stays _ _ K.out hb)
          simp only [Act.put, List.setIfInBounds_toArray, List.set_cons_zero, List.set_cons_succ]
          clear hb hN2
          have KK := K
          replace K := Lib.hid (K.out.rest.rest)
          (refine Ord.take' 5 rfl (by kernel_rfl) (fun _ _ _ _ h => h) K.out (by rfl) ?_; apply Exists.intro; refine ⟨fun p => ?_, ?_⟩; (focus (go_simp; (try (with_reducible rfl)); done)); (try simp only [Act.put, List.setIfInBounds_toArray, List.set_cons_zero, List.set_cons_succ]))
          (refine Ord.take' 6 rfl (by kernel_rfl) (fun _ _ _ _ h => h) K.out (by rfl) ?_; apply Exists.intro; refine ⟨fun p => ?_, ?_⟩; (focus (go_simp; (try (with_reducible rfl)); done)); (try simp only [Act.put, List.setIfInBounds_toArray, List.set_cons_zero, List.set_cons_succ]))
          (refine Ord.take' 7 rfl (by kernel_rfl) (fun _ _ _ _ h => h) K.out (by rfl) ?_; apply Exists.intro; refine ⟨fun p => ?_, ?_⟩; (focus (go_simp; (try (with_reducible rfl)); done)); (try simp only [Act.put, List.setIfInBounds_toArray, List.set_cons_zero, List.set_cons_succ]))
          (refine Ord.take' 8 rfl (by kernel_rfl) (fun _ _ _ _ h => h) K.out (by rfl) ?_; apply Exists.intro; refine ⟨fun p => ?_, ?_⟩; (focus (go_simp; (try (with_reducible rfl)); done)); (try simp only [Act.put, List.setIfInBounds_toArray, List.set_cons_zero, List.set_cons_succ]))
          replace K := KK
          clear KK
          (refine Ord.ways [11] (by kernel_rfl) ?_; intro i hi; simp only [List.mem_cons, List.not_mem_nil, or_false] at hi; rcases hi with (rfl))
          obtain ⟨f1, d0, d1⟩ := K.out.nm (.head _)
          have KS := Lib.hid (K.out.putn [] q3 (.slice A3 l3 c3))
          simp only [List.cons_append, List.nil_append] at KS
          refine Way.skip rfl (by rfl) (by (go_simp; try (with_reducible rfl))) ⟨KS.out.rest.rest, ?_⟩
          replace hN3 := hN3.put d0 (.bool q3) (.slice A3 l3 c3)
          clear f1 d0 d1 K
          generalize World.setCell (World.setCell W5 _ _) _ _ = Ws1 at *
          have K := KS
          clear KS
          simp only [Act.put, List.setIfInBounds_toArray, List.set_cons_zero, List.set_cons_succ]
          (refine Ord.ways [12] (by kernel_rfl) ?_; intro i hi; simp only [List.mem_cons, List.not_mem_nil, or_false] at hi; rcases hi with (rfl))
          obtain ⟨f1, d0, d1⟩ := K.out.nm (.tail _ (.head _))
          have KS := Lib.hid (K.out.putn [_] rn (.slice R rl rc))
          simp only [List.cons_append, List.nil_append] at KS
          refine Way.skip rfl (by rfl) (by (go_simp; try (with_reducible rfl))) ⟨KS.out.rest.rest, ?_⟩
          replace hN3 := hN3.put d0 (.bool rn) (.slice R rl rc)
          clear f1 d0 d1 K
          generalize World.setCell (World.setCell Ws1 _ _) _ _ = Ws2 at *
          have K := KS
          clear KS
          simp only [Act.put, List.setIfInBounds_toArray, List.set_cons_zero, List.set_cons_succ]
          (refine Ord.done (by kernel_rfl) ?_; simp only [List.drop_succ_cons, List.drop_zero, Act.put, List.setIfInBounds_toArray, List.set_cons_zero, List.set_cons_succ])
          obtain ⟨f1, d0, d1⟩ := K.out.nm (.head _)
          obtain ⟨f2, b0, b1⟩ := K.out.nm (.tail _ (.tail _ (.head _)))
          go_wp2_with fail
          have K2 := Lib.hid (K.out.putn [_, _] q3 (.slice A3 l3 c3))
          refine ret_nm Tryz.results79 rfl (K2.out.nb (.tail _ (.tail _ (.head _)))) ?_
          exact ⟨q3, A3, l3, c3, rfl, hN3.put b0 _ _, K2.out.B⟩
      · skip
        have hx := Ext.alloc W2 (Obj.num false (.slice none 0 0))
        replace K := Lib.hid (K.out.alloc (Obj.num false (.slice none 0 0)))
        refine Way.lay (v := .pointer (some ⟨W2.heap.size, 0, none⟩)) rfl (by rfl) (by (go_simp; rfl)) ⟨K.out.rest.rest, ?_⟩
        replace hN1 := hN1.below hx
        clear hx
        generalize W2.heap.size = g9 at *
        generalize W2.alloc _ = W3 at *
        simp only [Act.put, List.setIfInBounds_toArray, List.set_cons_zero, List.set_cons_succ]
        (refine Ord.ways [2] (by kernel_rfl) ?_; intro i hi; simp only [List.mem_cons, List.not_mem_nil, or_false] at hi; rcases hi with (rfl))
        refine Way.call (g := 23) (args := #[.agg #[.bool xn, .slice XA xl xc], .agg #[.bool q1, .slice A1 l1 c1]]) rfl (by rfl) (by (go_simp; try (with_reducible rfl))) ?_
        refine (mul_nz (HX.out.below K.out.B) hN1 (by omega) (by omega)).mono ?_
        rintro e W4 ⟨q2, A2, l2, c2, rfl, hN2, hb⟩
        refine ⟨_, rfl, (Keep.stays _ _ K.out hb).rest.rest, ?_⟩
        replace K := Lib.hid (Keep.stays _ _ K.out hb)
        simp only [Act.put, List.setIfInBounds_toArray, List.set_cons_zero, List.set_cons_succ]
        clear hb hN1
        (refine Ord.ways [4] (by kernel_rfl) ?_; intro i hi; simp only [List.mem_cons, List.not_mem_nil, or_false] at hi; rcases hi with (rfl))
        refine Way.call (g := 80) (args := #[.agg #[.bool q2, .slice A2 l2 c2], .agg #[.bool zn, .slice ZA zl zc]]) rfl (by rfl) (by (go_simp; try (with_reducible rfl))) ?_
        refine (quo_nz hN2 (HZ.out.below K.out.B) (by omega) (by omega)).mono ?_
        rintro e W5 ⟨q3, A3, l3, c3, rn, R, rl, rc, e', u, rfl, hN3, -, hb⟩
        refine ⟨_, rfl, (Keep.stays _ _ K.out hb).rest.rest, ?_⟩
        replace K := Lib.hid (Keep.stays _ _ K.out hb)
        simp only [Act.put, List.setIfInBounds_toArray, List.set_cons_zero, List.set_cons_succ]
        clear hb hN2
        have KK := K
        replace K := Lib.hid (K.out.rest.rest)
        (refine Ord.take' 5 rfl (by kernel_rfl) (fun _ _ _ _ h => h) K.out (by rfl) ?_; apply Exists.intro; refine ⟨fun p => ?_, ?_⟩; (focus (go_simp; (try (with_reducible rfl)); done)); (try simp only [Act.put, List.setIfInBounds_toArray, List.set_cons_zero, List.set_cons_succ]))
        (refine Ord.take' 6 rfl (by kernel_rfl) (fun _ _ _ _ h => h) K.out (by rfl) ?_; apply Exists.intro; refine ⟨fun p => ?_, ?_⟩; (focus (go_simp; (try (with_reducible rfl)); done)); (try simp only [Act.put, List.setIfInBounds_toArray, List.set_cons_zero, List.set_cons_succ]))
        (refine Ord.take' 7 rfl (by kernel_rfl) (fun _ _ _ _ h => h) K.out (by rfl) ?_; apply Exists.intro; refine ⟨fun p => ?_, ?_⟩; (focus (go_simp; (try (with_reducible rfl)); done)); (try simp only [Act.put, List.setIfInBounds_toArray, List.set_cons_zero, List.set_cons_succ]))
        (refine Ord.take' 8 rfl (by kernel_rfl) (fun _ _ _ _ h => h) K.out (by rfl) ?_; apply Exists.intro; refine ⟨fun p => ?_, ?_⟩; (focus (go_simp; (try (with_reducible rfl)); done)); (try simp only [Act.put, List.setIfInBounds_toArray, List.set_cons_zero, List.set_cons_succ]))
        replace K := KK
        clear KK
        (refine Ord.ways [11] (by kernel_rfl) ?_; intro i hi; simp only [List.mem_cons, List.not_mem_nil, or_false] at hi; rcases hi with (rfl))
        obtain ⟨f1, d0, d1⟩ := K.out.nm (.head _)
        have KS := Lib.hid (K.out.putn [] q3 (.slice A3 l3 c3))
        simp only [List.cons_append, List.nil_append] at KS
        refine Way.skip rfl (by rfl) (by (go_simp; try (with_reducible rfl))) ⟨KS.out.rest.rest, ?_⟩
        replace hN3 := hN3.put d0 (.bool q3) (.slice A3 l3 c3)
        clear f1 d0 d1 K
        generalize World.setCell (World.setCell W5 _ _) _ _ = Ws1 at *
        have K := KS
        clear KS
        simp only [Act.put, List.setIfInBounds_toArray, List.set_cons_zero, List.set_cons_succ]
        (refine Ord.ways [12] (by kernel_rfl) ?_; intro i hi; simp only [List.mem_cons, List.not_mem_nil, or_false] at hi; rcases hi with (rfl))
        obtain ⟨f1, d0, d1⟩ := K.out.nm (.tail _ (.head _))
        have KS := Lib.hid (K.out.putn [_] rn (.slice R rl rc))
        simp only [List.cons_append, List.nil_append] at KS
        refine Way.skip rfl (by rfl) (by (go_simp; try (with_reducible rfl))) ⟨KS.out.rest.rest, ?_⟩
        replace hN3 := hN3.put d0 (.bool rn) (.slice R rl rc)
        clear f1 d0 d1 K
        generalize World.setCell (World.setCell Ws1 _ _) _ _ = Ws2 at *
        have K := KS
        clear KS
        simp only [Act.put, List.setIfInBounds_toArray, List.set_cons_zero, List.set_cons_succ]
        (refine Ord.done (by kernel_rfl) ?_; simp only [List.drop_succ_cons, List.drop_zero, Act.put, List.setIfInBounds_toArray, List.set_cons_zero, List.set_cons_succ])
        obtain ⟨f1, d0, d1⟩ := K.out.nm (.head _)
        obtain ⟨f2, b0, b1⟩ := K.out.nm (.tail _ (.tail _ (.head _)))
        go_wp2_with fail
        have K2 := Lib.hid (K.out.putn [_, _] q3 (.slice A3 l3 c3))
        refine ret_nm Tryz.results79 rfl (K2.out.nb (.tail _ (.tail _ (.head _)))) ?_
        exact ⟨q3, A3, l3, c3, rfl, hN3.put b0 _ _, K2.out.B⟩
    · skip
      have hx := Ext.alloc W1 (Obj.num false (.slice none 0 0))
      replace K := Lib.hid (K.out.alloc (Obj.num false (.slice none 0 0)))
      refine Way.lay (v := .pointer (some ⟨W1.heap.size, 0, none⟩)) rfl (by rfl) (by (go_simp; rfl)) ⟨K.out.rest.rest, ?_⟩
      clear hx
      generalize W1.heap.size = g9 at *
      generalize W1.alloc _ = W2 at *
      simp only [Act.put, List.setIfInBounds_toArray, List.set_cons_zero, List.set_cons_succ]
      (refine Ord.ways [1] (by kernel_rfl) ?_; intro i hi; simp only [List.mem_cons, List.not_mem_nil, or_false] at hi; rcases hi with (rfl))
      refine Way.call (g := 19) (args := #[.int .i64 1024]) rfl (by rfl) (by (go_simp; try (with_reducible rfl))) ?_
      refine (int_nz 1024 _ (by decide) (by decide)).mono ?_
      rintro e W3 ⟨q1, A1, l1, c1, rfl, hN1, hb⟩
      refine ⟨_, rfl, (Keep.stays _ _ K.out hb).rest.rest, ?_⟩
      replace K := Lib.hid (Keep.stays _ _ K.out hb)
      simp only [Act.put, List.setIfInBounds_toArray, List.set_cons_zero, List.set_cons_succ]
      clear hb
      (refine Ord.ways [2] (by kernel_rfl) ?_; intro i hi; simp only [List.mem_cons, List.not_mem_nil, or_false] at hi; rcases hi with (rfl))
      refine Way.call (g := 23) (args := #[.agg #[.bool xn, .slice XA xl xc], .agg #[.bool q1, .slice A1 l1 c1]]) rfl (by rfl) (by (go_simp; try (with_reducible rfl))) ?_
      refine (mul_nz (HX.out.below K.out.B) hN1 (by omega) (by omega)).mono ?_
      rintro e W4 ⟨q2, A2, l2, c2, rfl, hN2, hb⟩
      refine ⟨_, rfl, (Keep.stays _ _ K.out hb).rest.rest, ?_⟩
      replace K := Lib.hid (Keep.stays _ _ K.out hb)
      simp only [Act.put, List.setIfInBounds_toArray, List.set_cons_zero, List.set_cons_succ]
      clear hb hN1
      (refine Ord.ways [4] (by kernel_rfl) ?_; intro i hi; simp only [List.mem_cons, List.not_mem_nil, or_false] at hi; rcases hi with (rfl))
      refine Way.call (g := 80) (args := #[.agg #[.bool q2, .slice A2 l2 c2], .agg #[.bool zn, .slice ZA zl zc]]) rfl (by rfl) (by (go_simp; try (with_reducible rfl))) ?_
      refine (quo_nz hN2 (HZ.out.below K.out.B) (by omega) (by omega)).mono ?_
      rintro e W5 ⟨q3, A3, l3, c3, rn, R, rl, rc, e', u, rfl, hN3, -, hb⟩
      refine ⟨_, rfl, (Keep.stays _ _ K.out hb).rest.rest, ?_⟩
      replace K := Lib.hid (Keep.stays _ _ K.out hb)
      simp only [Act.put, List.setIfInBounds_toArray, List.set_cons_zero, List.set_cons_succ]
      clear hb hN2
      have KK := K
      replace K := Lib.hid (K.out.rest.rest)
      (refine Ord.take' 5 rfl (by kernel_rfl) (fun _ _ _ _ h => h) K.out (by rfl) ?_; apply Exists.intro; refine ⟨fun p => ?_, ?_⟩; (focus (go_simp; (try (with_reducible rfl)); done)); (try simp only [Act.put, List.setIfInBounds_toArray, List.set_cons_zero, List.set_cons_succ]))
      (refine Ord.take' 6 rfl (by kernel_rfl) (fun _ _ _ _ h => h) K.out (by rfl) ?_; apply Exists.intro; refine ⟨fun p => ?_, ?_⟩; (focus (go_simp; (try (with_reducible rfl)); done)); (try simp only [Act.put, List.setIfInBounds_toArray, List.set_cons_zero, List.set_cons_succ]))
      (refine Ord.take' 7 rfl (by kernel_rfl) (fun _ _ _ _ h => h) K.out (by rfl) ?_; apply Exists.intro; refine ⟨fun p => ?_, ?_⟩; (focus (go_simp; (try (with_reducible rfl)); done)); (try simp only [Act.put, List.setIfInBounds_toArray, List.set_cons_zero, List.set_cons_succ]))
      (refine Ord.take' 8 rfl (by kernel_rfl) (fun _ _ _ _ h => h) K.out (by rfl) ?_; apply Exists.intro; refine ⟨fun p => ?_, ?_⟩; (focus (go_simp; (try (with_reducible rfl)); done)); (try simp only [Act.put, List.setIfInBounds_toArray, List.set_cons_zero, List.set_cons_succ]))
      replace K := KK
      clear KK
      (refine Ord.ways [11] (by kernel_rfl) ?_; intro i hi; simp only [List.mem_cons, List.not_mem_nil, or_false] at hi; rcases hi with (rfl))
      obtain ⟨f1, d0, d1⟩ := K.out.nm (.head _)
      have KS := Lib.hid (K.out.putn [] q3 (.slice A3 l3 c3))
      simp only [List.cons_append, List.nil_append] at KS
      refine Way.skip rfl (by rfl) (by (go_simp; try (with_reducible rfl))) ⟨KS.out.rest.rest, ?_⟩
      replace hN3 := hN3.put d0 (.bool q3) (.slice A3 l3 c3)
      clear f1 d0 d1 K
      generalize World.setCell (World.setCell W5 _ _) _ _ = Ws1 at *
      have K := KS
      clear KS
      simp only [Act.put, List.setIfInBounds_toArray, List.set_cons_zero, List.set_cons_succ]
      (refine Ord.ways [12] (by kernel_rfl) ?_; intro i hi; simp only [List.mem_cons, List.not_mem_nil, or_false] at hi; rcases hi with (rfl))
      obtain ⟨f1, d0, d1⟩ := K.out.nm (.tail _ (.head _))
      have KS := Lib.hid (K.out.putn [_] rn (.slice R rl rc))
      simp only [List.cons_append, List.nil_append] at KS
      refine Way.skip rfl (by rfl) (by (go_simp; try (with_reducible rfl))) ⟨KS.out.rest.rest, ?_⟩
      replace hN3 := hN3.put d0 (.bool rn) (.slice R rl rc)
      clear f1 d0 d1 K
      generalize World.setCell (World.setCell Ws1 _ _) _ _ = Ws2 at *
      have K := KS
      clear KS
      simp only [Act.put, List.setIfInBounds_toArray, List.set_cons_zero, List.set_cons_succ]
      (refine Ord.done (by kernel_rfl) ?_; simp only [List.drop_succ_cons, List.drop_zero, Act.put, List.setIfInBounds_toArray, List.set_cons_zero, List.set_cons_succ])
      obtain ⟨f1, d0, d1⟩ := K.out.nm (.head _)
      obtain ⟨f2, b0, b1⟩ := K.out.nm (.tail _ (.tail _ (.head _)))
      go_wp2_with fail
      have K2 := Lib.hid (K.out.putn [_, _] q3 (.slice A3 l3 c3))
      refine ret_nm Tryz.results79 rfl (K2.out.nb (.tail _ (.tail _ (.head _)))) ?_
      exact ⟨q3, A3, l3, c3, rfl, hN3.put b0 _ _, K2.out.B⟩
end Go.Proofs.YtmidifgnpjlgcaaGreat
