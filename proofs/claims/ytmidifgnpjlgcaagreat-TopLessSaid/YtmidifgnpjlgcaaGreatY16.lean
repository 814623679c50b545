/- The texts Tf of the walk of the law and of all that it calls, in one file. No condition. -/
import Derived.Test.YtmidifgnpjlgcaaGreatY7
import Derived.Test.YtmidifgnpjlgcaaGreatY14
import Derived.Test.YtmidifgnpjlgcaaGreatY15
/- The walk of TopLess. -/
set_option linter.unusedVariables false
set_option linter.unusedSimpArgs false
namespace Go.Proofs.YtmidifgnpjlgcaaGreat
open Go.RowKit

def lessA (k : Nat) : Int := [100, 50, 4, 5, 2097152, 33554432, 2000, 1000, 500, 100, 4, 1, 2, 8, 4, 3, 1000].getD k 0
theorem lessA_ok : cfgOk lessA := by unfold cfgOk; decide
theorem solve_less (rv pv qv cs ds t : Value) (cn dn : Bool) (n : Nat) (rs : List Rw) (xs : List Int) (w : World) (h : Gz w rv pv qv cn cs dn ds n rs) (hx : Sta w t xs n) :
    Calls Tryz.prog 10 #[.agg #[.int .i64 n, rv, pv, qv, .bool cn, cs, .bool dn, ds], .agg (#[.int .i64 100, .int .i64 50, .int .i64 4, .int .i64 5, .int .i64 2097152, .int .i64 33554432, .int .i64 2000, .int .i64 1000, .int .i64 500, .int .i64 100, .int .i64 4, .int .i64 1, .int .i64 2, .int .i64 8, .int .i64 4, .int .i64 3, .int .i64 1000]), t] w fun e w' => (∃ A c a b d zs, e = .returned (.tuple #[.agg #[.slice A n c, .int .i64 a, .int .i64 b, .int .i64 d], .int .i64 0]) ∧ Sta w' (.slice A n c) zs n ∧ decide (cost rs xs < cost rs zs) = false) ∧ Below w.heap.size w w' := by
  refine (solve_any rv pv qv cs ds t cn dn n rs xs w h hx lessA lessA_ok 100 50 4 5 2097152 33554432 2000 1000 500 100 4 1 2 8 4 3 1000 (fun k hk => by
    rcases (show k = 0 ∨ k = 1 ∨ k = 2 ∨ k = 3 ∨ k = 4 ∨ k = 5 ∨ k = 6 ∨ k = 7 ∨ k = 8 ∨ k = 9 ∨ k = 10 ∨ k = 11 ∨ k = 12 ∨ k = 13 ∨ k = 14 ∨ k = 15 ∨ k = 16 by omega) with rfl | rfl | rfl | rfl | rfl | rfl | rfl | rfl | rfl | rfl | rfl | rfl | rfl | rfl | rfl | rfl | rfl <;> rfl) (by decide) (by decide) (by unfold i64; decide)).mono ?_
  rintro e w' ⟨⟨u, rfl, -, hi⟩, hb⟩
  refine ⟨?_, hb⟩
  have hl := solveP_len n rs 4 3 1000 (4 + 1) ⟨xs, 0, 0, 0⟩
  have hs := solveP_sb n rs 4 3 1000 (4 + 1) ⟨xs, 0, 0, 0⟩ (decide_eq_true (fun j hj => hx.2.2 j (by rw [← hx.2.1]; exact hj)))
  have hc := solveP_not n rs 4 3 1000 (4 + 1) xs
  generalize solveP n rs 4 3 1000 (4 + 1) ⟨xs, 0, 0, 0⟩ = z at *
  obtain ⟨A, c, rfl, h0, hh⟩ := hi
  have hzn : z.X.length = n := hl.trans hx.2.1
  subst hzn
  exact ⟨A, c, z.st, z.acc, z.tried, z.X, rfl, ⟨⟨A, c, rfl, h0, hh⟩, rfl, of_decide_eq_true hs⟩, hc⟩

set_option maxHeartbeats 8000000 in
set_option maxRecDepth 100000 in
theorem TopLess_walk {w : World} (n : Int) (rv : Value) (rs : List Rw) (xv : Value) (xs : List Int) (yv : Value) (ys : List Int) (hn : (Lit.int .i64 n).wf = true) (hr : Rws w rv rs ∧ ∀ r ∈ rs, r.coef.length ≤ 4611686018427387904) (hx : Iv w xv xs) (hy : Iv w yv ys) :
    Calls Tryz.prog 3 #[.int .i64 n, rv, xv, yv] w fun e w' => e = .returned (.bool true) ∧ Below w.heap.size w w' := by
  have HR := Lib.hid hr.1; have HC := Lib.hid hr.2; have HX := Lib.hid hx; have HY := Lib.hid hy
  obtain ⟨RA, rc, rfl, -⟩ := hr.1
  obtain ⟨XA, xc, rfl, -⟩ := hx
  obtain ⟨YA, yc, rfl, -⟩ := hy
  clear hr hn
  have K := Lib.hid (Keep.start w)
  go_enter Tryz.func3, Tryz.ntmps3
  go_wp2_with fail
  refine (alive_any _).mono ?_
  rintro e w1 ⟨rfl, hb⟩
  replace K := Lib.hid (Keep.stays _ _ K.out hb)
  clear hb
  by_cases c1 : n < 1
  · go_wp2_with fail
    go_ret
    exact ⟨rfl, K.out.B⟩
  by_cases c2 : 6 < n
  · go_wp2_with fail
    go_ret
    exact ⟨rfl, K.out.B⟩
  by_cases c3 : 12 < rs.length
  · have c3' : (12 : Int) < (rs.length : Int) := by omega
    go_wp2_with fail
    go_ret
    exact ⟨rfl, K.out.B⟩
  have c3' : ¬ (12 : Int) < (rs.length : Int) := by omega
  by_cases c4 : (xs.length : Int) = n
  case neg =>
    go_wp2_with fail
    go_ret
    exact ⟨rfl, K.out.B⟩
  by_cases c5 : (ys.length : Int) = n
  case neg =>
    have c5b : ((ys.length : Int) != n) = true := by simp [c5]
    go_wp2_with fail
    go_ret
    exact ⟨rfl, K.out.B⟩
  obtain ⟨m, rfl⟩ : ∃ m : Nat, n = m := ⟨xs.length, c4.symm⟩
  have hxm : xs.length = m := by omega
  have hym : ys.length = m := by omega
  clear c4 c5
  rw [hxm] at HX ⊢
  rw [hym] at HY ⊢
  go_wp2_with fail
  refine (new_any _ rs m _ (HR.out.below K.out.B) (by omega) (by omega) (by omega) HC.out).mono ?_
  rintro e w2 ⟨⟨rfl, hno⟩ | ⟨pv, qv, dn, ds, rfl, hG⟩, hb⟩
  · replace K := Lib.hid (Keep.stays _ _ K.out hb)
    clear hno hb
    unfold gzero
    go_wp2_with fail
    replace K := Lib.hid (K.out.alloc (.cells #[.int .i64 0, .slice none 0 0, .slice none 0 0, .slice none 0 0, .bool false, .slice none 0 0, .bool false, .slice none 0 0] 34))
    refine (state_any _ xs _ (hxm ▸ HX.out.below K.out.B) (by omega)).mono ?_
    rintro e w3 ⟨rfl, hb⟩
    replace K := Lib.hid (Keep.stays _ _ K.out hb)
    clear hb
    go_wp2_with fail
    refine (state_any _ ys _ (hym ▸ HY.out.below K.out.B) (by omega)).mono ?_
    rintro e w4 ⟨rfl, hb⟩
    replace K := Lib.hid (Keep.stays _ _ K.out hb)
    clear hb
    go_wp2_with fail
    go_ret
    exact ⟨rfl, K.out.B⟩
  · have HG := Lib.hid hG
    replace K := Lib.hid (Keep.stays _ _ K.out hb)
    clear hG hb
    obtain ⟨DA, dl, dc, rfl⟩ := HG.out.2.2.2.1.sl
    obtain ⟨PA, pc, rfl, -⟩ := HG.out.2.2.1.1
    obtain ⟨QA, qc, rfl, -⟩ := HG.out.2.2.1.2.1
    go_wp2_with fail
    replace K := Lib.hid (K.out.alloc (.cells #[.int .i64 m, .slice RA rs.length rc, .slice PA m pc, .slice QA m qc, .bool false, .slice none 0 0, .bool dn, .slice DA dl dc] 34))
    replace HG := Lib.hid (HG.out.below (Ext.alloc w2 (.cells #[.int .i64 m, .slice RA rs.length rc, .slice PA m pc, .slice QA m qc, .bool false, .slice none 0 0, .bool dn, .slice DA dl dc] 34)))
    refine (state_any _ xs _ (HX.out.below K.out.B) (by omega)).mono ?_
    rintro e w3 ⟨rfl, hb⟩
    replace K := Lib.hid (Keep.stays _ _ K.out hb)
    replace HG := Lib.hid (HG.out.below hb)
    clear hb
    generalize w2.heap.size = b1 at *
    go_wp2_with fail
    refine (state_any _ ys _ (HY.out.below K.out.B) (by omega)).mono ?_
    rintro e w4 ⟨rfl, hb⟩
    replace K := Lib.hid (Keep.stays _ _ K.out hb)
    replace HG := Lib.hid (HG.out.below hb)
    clear hb
    cases hsx : stateB xs
    · go_wp2_with fail
      go_ret
      exact ⟨rfl, K.out.B⟩
    cases hsy : stateB ys
    · go_wp2_with fail
      go_ret
      exact ⟨rfl, K.out.B⟩
    have HSX : Hid (Sta w (.slice XA m xc) xs m) := Lib.hid ⟨HX.out, hxm, fun j hj => of_decide_eq_true hsx j (by omega)⟩
    have HSY : Hid (Sta w (.slice YA m yc) ys m) := Lib.hid ⟨HY.out, hym, fun j hj => of_decide_eq_true hsy j (by omega)⟩
    clear hsx hsy
    go_wp2_with fail
    refine (default_any _).mono ?_
    rintro e w5 ⟨rfl, hb⟩
    replace K := Lib.hid (Keep.stays _ _ K.out hb)
    replace HG := Lib.hid (HG.out.below hb)
    clear hb
    go_upto_region 12 with fail
    replace K := Lib.hid (K.out.alloc (.cells (#[.int .i64 100, .int .i64 50, .int .i64 4, .int .i64 5, .int .i64 2097152, .int .i64 33554432, .int .i64 2000, .int .i64 1000, .int .i64 500, .int .i64 100, .int .i64 4, .int .i64 1, .int .i64 2, .int .i64 8, .int .i64 4, .int .i64 3, .int .i64 1000]) 41))
    replace HG := Lib.hid (HG.out.below (Ext.alloc w5 (.cells (#[.int .i64 100, .int .i64 50, .int .i64 4, .int .i64 5, .int .i64 2097152, .int .i64 33554432, .int .i64 2000, .int .i64 1000, .int .i64 500, .int .i64 100, .int .i64 4, .int .i64 1, .int .i64 2, .int .i64 8, .int .i64 4, .int .i64 3, .int .i64 1000]) 41)))
    refine out_with (B := fun W => Gz W (.slice RA rs.length rc) (.slice PA m pc) (.slice QA m qc) false (.slice none 0 0) dn (.slice DA dl dc) m rs) K.out HG.out ?_
    generalize w5.heap.size = b2
    clear K HG
    intro W K HG
    replace K := Lib.hid K
    replace HG := Lib.hid HG
    go_step
    refine wpList_load_row rfl 34 _ rfl b1 rfl 34 _ (0, 0) _ (K.out.gb (.tail _ (.head _))) Tryz.underlying34 rfl (by kernel_rfl) ?_
    simp only [Act.put, List.setIfInBounds_toArray, List.set_cons_zero, List.set_cons_succ]
    refine wpList_load_row rfl 41 _ rfl b2 rfl 41 _ (0, 0) _ (K.out.gb (.head _)) Tryz.underlying41 rfl (by kernel_rfl) ?_
    simp only [Act.put, List.setIfInBounds_toArray, List.set_cons_zero, List.set_cons_succ]
    go_wp2_with fail
    refine (solve_less _ _ _ _ _ _ _ _ m rs xs _ HG.out (HSX.out.below K.out.B)).mono ?_
    rintro e w6 ⟨⟨XB, xd, r1, r2, r3, us, rfl, hsu, hlu⟩, hb⟩
    replace K := Lib.hid (Keep.stays _ _ K.out hb)
    replace HG := Lib.hid (HG.out.below hb)
    have HU := Lib.hid hsu
    have HLU := Lib.hid hlu
    clear hb hsu hlu
    go_upto_region 13 with fail
    replace K := Lib.hid (K.out.alloc (.cells #[.slice XB m xd, .int .i64 r1, .int .i64 r2, .int .i64 r3] 44))
    replace HG := Lib.hid (HG.out.below (Ext.alloc w6 (.cells #[.slice XB m xd, .int .i64 r1, .int .i64 r2, .int .i64 r3] 44)))
    replace HU := Lib.hid (HU.out.below (Ext.alloc w6 (.cells #[.slice XB m xd, .int .i64 r1, .int .i64 r2, .int .i64 r3] 44)))
    refine out_with (B := fun W => Gz W (.slice RA rs.length rc) (.slice PA m pc) (.slice QA m qc) false (.slice none 0 0) dn (.slice DA dl dc) m rs ∧ Sta W (.slice XB m xd) us m) K.out ⟨HG.out, HU.out⟩ ?_
    generalize w6.heap.size = b3
    clear K HG HU
    intro W2 K hgu
    replace K := Lib.hid K
    have HG := Lib.hid hgu.1
    have HU := Lib.hid hgu.2
    clear hgu
    go_step
    refine wpList_load_row rfl 34 _ rfl b1 rfl 34 _ (0, 0) _ (K.out.gb (.tail _ (.tail _ (.head _)))) Tryz.underlying34 rfl (by kernel_rfl) ?_
    simp only [Act.put, List.setIfInBounds_toArray, List.set_cons_zero, List.set_cons_succ]
    refine wpList_load_row rfl 41 _ rfl b2 rfl 41 _ (0, 0) _ (K.out.gb (.tail _ (.head _))) Tryz.underlying41 rfl (by kernel_rfl) ?_
    simp only [Act.put, List.setIfInBounds_toArray, List.set_cons_zero, List.set_cons_succ]
    go_wp2_with fail
    refine (solve_less _ _ _ _ _ _ _ _ m rs ys _ HG.out (HSY.out.below K.out.B)).mono ?_
    rintro e w7 ⟨⟨YB, yd, q1, q2, q3, vs, rfl, hsv, hlv⟩, hb⟩
    replace K := Lib.hid (Keep.stays _ _ K.out hb)
    replace HG := Lib.hid (HG.out.below hb)
    replace HU := Lib.hid (HU.out.below hb)
    have HV := Lib.hid hsv
    have HLV := Lib.hid hlv
    clear hb hsv hlv
    go_upto_region 14 with fail
    replace K := Lib.hid (K.out.alloc (.cells #[.slice YB m yd, .int .i64 q1, .int .i64 q2, .int .i64 q3] 44))
    replace HG := Lib.hid (HG.out.below (Ext.alloc w7 (.cells #[.slice YB m yd, .int .i64 q1, .int .i64 q2, .int .i64 q3] 44)))
    replace HU := Lib.hid (HU.out.below (Ext.alloc w7 (.cells #[.slice YB m yd, .int .i64 q1, .int .i64 q2, .int .i64 q3] 44)))
    replace HV := Lib.hid (HV.out.below (Ext.alloc w7 (.cells #[.slice YB m yd, .int .i64 q1, .int .i64 q2, .int .i64 q3] 44)))
    refine out_with (B := fun W => Gz W (.slice RA rs.length rc) (.slice PA m pc) (.slice QA m qc) false (.slice none 0 0) dn (.slice DA dl dc) m rs ∧ Sta W (.slice XB m xd) us m ∧ Sta W (.slice YB m yd) vs m) K.out ⟨HG.out, HU.out, HV.out⟩ ?_
    generalize w7.heap.size = b4
    clear K HG HU HV
    intro W3 K hgu
    replace K := Lib.hid K
    have HG := Lib.hid hgu.1
    have HU := Lib.hid hgu.2.1
    have HV := Lib.hid hgu.2.2
    clear hgu
    go_upto_region 16 with fail
    have y0 := K.out.cell (k := 0) (.tail _ (.head _)) rfl
    go_step
    refine wpList_load_row rfl 34 _ rfl b1 rfl 34 _ (0, 0) _ (K.out.gb (.tail _ (.tail _ (.tail _ (.head _))))) Tryz.underlying34 rfl (by kernel_rfl) ?_
    simp only [Act.put, List.setIfInBounds_toArray, List.set_cons_zero, List.set_cons_succ]
    go_wp2_with fail
    refine (less11_any _ _ _ _ _ _ _ _ _ m rs xs us _ HG.out (HSX.out.below K.out.B) HU.out).mono ?_
    rintro e w8 ⟨rfl, hb⟩
    rw [HLU.out]
    replace K := Lib.hid (Keep.stays _ _ K.out hb)
    replace HG := Lib.hid (HG.out.below hb)
    replace HV := Lib.hid (HV.out.below hb)
    clear hb y0
    go_upto_region 17 with fail
    have y0 := K.out.cell (k := 0) (.head _) rfl
    go_step
    refine wpList_load_row rfl 34 _ rfl b1 rfl 34 _ (0, 0) _ (K.out.gb (.tail _ (.tail _ (.tail _ (.head _))))) Tryz.underlying34 rfl (by kernel_rfl) ?_
    simp only [Act.put, List.setIfInBounds_toArray, List.set_cons_zero, List.set_cons_succ]
    go_wp2_with fail
    refine (less11_any _ _ _ _ _ _ _ _ _ m rs ys vs _ HG.out (HSY.out.below K.out.B) HV.out).mono ?_
    rintro e w9 ⟨rfl, hb⟩
    rw [HLV.out]
    replace K := Lib.hid (Keep.stays _ _ K.out hb)
    clear hb y0
    go_wp2_with fail
    go_ret
    exact ⟨rfl, K.out.B⟩
end Go.Proofs.YtmidifgnpjlgcaaGreat
