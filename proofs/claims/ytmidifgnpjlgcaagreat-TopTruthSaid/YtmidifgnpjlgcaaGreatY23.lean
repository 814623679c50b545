/- The texts Uf, Rx of the walk of the law and of all that it calls, in one file. No condition. -/
import Derived.Test.YtmidifgnpjlgcaaGreatY22
import Derived.Test.YtmidifgnpjlgcaaGreatY7
import Derived.SizedLaws
import Derived.ProofKit
import Derived.Deep.Slices
import Derived.Deep.Fields
import Derived.ChangeSame
/- The walk of TopTruth. -/
set_option linter.unusedVariables false
set_option linter.unusedSimpArgs false
namespace Go.Proofs.YtmidifgnpjlgcaaGreat
open Go.RowKit

set_option maxHeartbeats 16000000 in
set_option maxRecDepth 100000 in
theorem TopTruth_walk {w : World} (pv : Value) (ps : List Int) (sv : Value) (ss : List Int) (hp : Iv w pv ps) (hs : Iv w sv ss) :
    Calls Tryz.prog 4 #[pv, sv] w fun e w' => e = .returned (.bool true) ∧ Below w.heap.size w w' := by
  have HPI := Lib.hid hp; have HSI := Lib.hid hs
  obtain ⟨PA, pc, rfl, -, hpa⟩ := hp
  obtain ⟨SA, sc, rfl, -, hsa⟩ := hs
  have HP := Lib.hid hpa; have HS := Lib.hid hsa
  clear hpa hsa
  have K := Lib.hid (Keep.start w)
  go_enter Tryz.func4, Tryz.ntmps4
  go_wp2_with fail
  refine (alive_any _).mono ?_
  rintro e w1 ⟨rfl, hb⟩
  replace K := Lib.hid (Keep.stays _ _ K.out hb)
  clear hb
  by_cases c1 : (ps.length : Int) < 1
  · go_wp2_with fail
    go_ret
    exact ⟨rfl, K.out.B⟩
  by_cases c2 : 5 < (ps.length : Int)
  · go_wp2_with fail
    go_ret
    exact ⟨rfl, K.out.B⟩
  by_cases c3 : (ss.length : Int) = (ps.length : Int)
  case neg =>
    have c3b : ((ss.length : Int) != (ps.length : Int)) = true := by simp [c3]
    go_wp2_with fail
    go_ret
    exact ⟨rfl, K.out.B⟩
  have hss : ss.length = ps.length := by omega
  rw [hss] at HSI HS ⊢
  clear c3
  go_wp2_with fail
  refine (gentle_any _).mono ?_
  rintro e w2 ⟨rfl, hb⟩
  replace K := Lib.hid (Keep.stays _ _ K.out hb)
  clear hb
  go_upto_region 8 with fail
  replace K := Lib.hid (K.out.alloc (.cells (#[.int .i64 100, .int .i64 50, .int .i64 5, .int .i64 5, .int .i64 2097152, .int .i64 33554432, .int .i64 32768, .int .i64 32768, .int .i64 32768, .int .i64 32768, .int .i64 4, .int .i64 1, .int .i64 2, .int .i64 8, .int .i64 12, .int .i64 6, .int .i64 0]) 41))
  generalize w2.heap.size = cb at *
  generalize w2.alloc _ = W at *
  have hn5 : ps.length ≤ 5 := by omega
  have hn1 : 1 ≤ ps.length := by omega
  clear c1 c2 hss
  rename_i cont
  have HCT := Lib.hid cont
  clear cont
  go_loopg [7, 8, 9] ps.length (fun gk kv yv iv wr => ∃ i : Nat, gk + i = ps.length ∧ iv = .int .i64 (i : Int) ∧ (∀ j, j < i → (-20 ≤ ps.getD j 0 ∧ ps.getD j 0 ≤ 20) ∧ -20 ≤ ss.getD j 0 ∧ ss.getD j 0 ≤ 20) ∧ GG w [(cb, .cells (#[.int .i64 100, .int .i64 50, .int .i64 5, .int .i64 5, .int .i64 2097152, .int .i64 33554432, .int .i64 32768, .int .i64 32768, .int .i64 32768, .int .i64 32768, .int .i64 4, .int .i64 1, .int .i64 2, .int .i64 8, .int .i64 12, .int .i64 6, .int .i64 0]) 41)] kv i (kyVs (kysT ps ss i)) yv (2 * i) ((stT ps ss i).map (Value.int .i64)) wr)
  case atStart => exact ⟨0, by omega, rfl, fun j hj => absurd hj (by omega), GG.nil K.out⟩
  case round =>
    clear K
    obtain ⟨i, hgi, rfl, hbd, G⟩ := hrel
    obtain ⟨⟨KB, kcap, rfl⟩, YB, ycap, rfl⟩ := G.sl
    have HBD := Lib.hid hbd
    by_cases hi : i < ps.length
    · obtain ⟨S, KK, back⟩ := G.out
      have K := Lib.hid KK
      have HBK := Lib.hid back
      clear G hbd KK back
      have hiz : (i : Int) < (ps.length : Int) := by omega
      have hi0 : (0 : Int) ≤ (i : Int) := by omega
      obtain ⟨p64, q, rfl, hq, hqc⟩ := HP.out i hi
      obtain ⟨s64, r, rfl, hr, hrc⟩ := HS.out i hi
      have e1 := (K.out.B.cell (p := q.add i) (by rw [add_block]; exact hq)).trans hqc
      have e2 := (K.out.B.cell (p := r.add i) (by rw [add_block]; exact hr)).trans hrc
      obtain ⟨p, hpp⟩ : ∃ p, ps.getD i 0 = p := ⟨_, rfl⟩
      obtain ⟨s, hsp⟩ : ∃ s, ss.getD i 0 = s := ⟨_, rfl⟩
      have HPP := Lib.hid hpp
      have HSP := Lib.hid hsp
      rw [hpp] at e1 hqc p64
      rw [hsp] at e2 hrc s64
      clear hpp hsp
      by_cases d1 : p < -20
      · go_wp2_with fail
        go_ret
        exact ⟨rfl, K.out.B⟩
      by_cases d2 : 20 < p
      · go_wp2_with fail
        go_ret
        exact ⟨rfl, K.out.B⟩
      by_cases d3 : s < -20
      · go_wp2_with fail
        go_ret
        exact ⟨rfl, K.out.B⟩
      by_cases d4 : 20 < s
      · go_wp2_with fail
        go_ret
        exact ⟨rfl, K.out.B⟩
      go_upto_region 12 with fail
      clear e1 e2
      replace K : Hid (Keep w ((cb, .cells (#[.int .i64 100, .int .i64 50, .int .i64 5, .int .i64 5, .int .i64 2097152, .int .i64 33554432, .int .i64 32768, .int .i64 32768, .int .i64 32768, .int .i64 32768, .int .i64 4, .int .i64 1, .int .i64 2, .int .i64 8, .int .i64 12, .int .i64 6, .int .i64 0]) 41) :: S) wr) := K
      have e1 := Keep.fara K hq hqc
      have e2 := Keep.fara K hr hrc
      refine region_float1 _ 14 ⟨13, 10, .cells (#[.bool false, .bool false, .bool false, .int .i64 0, .int .i64 0, .int .i64 0, .int .i64 0, .int .i64 0, .int .i64 0]) 51⟩ [(1, 0), (1, 1), (1, 2), (0, 3), (1, 4), (1, 5), (1, 6), (0, 7), (1, 8), (1, 9), (1, 10), (0, 11), (1, 12)] (by kernel_rfl) (by kernel_rfl) ⟨_, rfl, rfl, rfl, fun a w => rfl, fun md e he => by simp at he⟩ (fun _ _ d _ _ => by cases d <;> exact Iff.rfl) Keep.stays K.out.drew ?_; clear K; intro W9 K hbw; replace K := Lib.hid K; have K0 := K; clear hbw
      (refine Ph.pure rfl (by rfl) ?_; apply Exists.intro; refine ⟨fun w => ?_, ?_⟩; (focus (go_simp; (try (with_reducible rfl)); done)); (try simp only [Act.put, List.setIfInBounds_toArray, List.set_cons_zero, List.set_cons_succ]))
      (refine Ph.pure rfl (by rfl) ?_; apply Exists.intro; refine ⟨fun w => ?_, ?_⟩; (focus (go_simp; (try (with_reducible rfl)); done)); (try simp only [Act.put, List.setIfInBounds_toArray, List.set_cons_zero, List.set_cons_succ]))
      (refine Ph.pure rfl (by rfl) ?_; apply Exists.intro; refine ⟨fun w => ?_, ?_⟩; (focus (go_simp; (try (with_reducible rfl)); done)); (try simp only [Act.put, List.setIfInBounds_toArray, List.set_cons_zero, List.set_cons_succ]))
      (refine Ph.read rfl (by rfl) ?_; apply Exists.intro; refine ⟨fun p => ?_, ?_⟩; (focus (go_simp; (try (with_reducible rfl)); done)); (try simp only [Act.put, List.setIfInBounds_toArray, List.set_cons_zero, List.set_cons_succ]))
      (refine Ph.pure rfl (by rfl) ?_; apply Exists.intro; refine ⟨fun w => ?_, ?_⟩; (focus (go_simp; (try (with_reducible rfl)); done)); (try simp only [Act.put, List.setIfInBounds_toArray, List.set_cons_zero, List.set_cons_succ]))
      (refine Ph.pure rfl (by rfl) ?_; apply Exists.intro; refine ⟨fun w => ?_, ?_⟩; (focus (go_simp; (try (with_reducible rfl)); done)); (try simp only [Act.put, List.setIfInBounds_toArray, List.set_cons_zero, List.set_cons_succ]))
      (refine Ph.pure rfl (by rfl) ?_; apply Exists.intro; refine ⟨fun w => ?_, ?_⟩; (focus (go_simp; (try (with_reducible rfl)); done)); (try simp only [Act.put, List.setIfInBounds_toArray, List.set_cons_zero, List.set_cons_succ]))
      (refine Ph.read rfl (by rfl) ?_; apply Exists.intro; refine ⟨fun p => ?_, ?_⟩; (focus (go_simp; (try (with_reducible rfl)); done)); (try simp only [Act.put, List.setIfInBounds_toArray, List.set_cons_zero, List.set_cons_succ]))
      (refine Ph.pure rfl (by rfl) ?_; apply Exists.intro; refine ⟨fun w => ?_, ?_⟩; (focus (go_simp; (try (with_reducible rfl)); done)); (try simp only [Act.put, List.setIfInBounds_toArray, List.set_cons_zero, List.set_cons_succ]))
      (refine Ph.pure rfl (by rfl) ?_; apply Exists.intro; refine ⟨fun w => ?_, ?_⟩; (focus (go_simp; (try (with_reducible rfl)); done)); (try simp only [Act.put, List.setIfInBounds_toArray, List.set_cons_zero, List.set_cons_succ]))
      (refine Ph.pure rfl (by rfl) ?_; apply Exists.intro; refine ⟨fun w => ?_, ?_⟩; (focus (go_simp; (try (with_reducible rfl)); done)); (try simp only [Act.put, List.setIfInBounds_toArray, List.set_cons_zero, List.set_cons_succ]))
      (refine Ph.read rfl (by rfl) ?_; apply Exists.intro; refine ⟨fun p => ?_, ?_⟩; (focus (go_simp; (try (with_reducible rfl)); done)); (try simp only [Act.put, List.setIfInBounds_toArray, List.set_cons_zero, List.set_cons_succ]))
      (refine Ph.pure rfl (by rfl) ?_; apply Exists.intro; refine ⟨fun w => ?_, ?_⟩; (focus (go_simp; (try (with_reducible rfl)); done)); (try simp only [Act.put, List.setIfInBounds_toArray, List.set_cons_zero, List.set_cons_succ]))
      (intro w2 hb kb hg hge; replace K := Lib.hid (K0.out.held (Keep.stays _ _ K.out hb) hg hge); clear hg hge K0; simp only [ptr, List.drop_succ_cons, List.drop_zero, Act.put, List.setIfInBounds_toArray, List.set_cons_zero, List.set_cons_succ])
      clear e1 e2 hb
      refine wpList_store_row rfl 51 _ _ rfl kb _ rfl rfl 51 _ (K.out.gb (.head _)) (by kernel_rfl) rfl (by kernel_rfl) ?_
      simp only [Act.put]
      have K2 := Lib.hid (K.out.setRow [] ((#[.bool true, .bool true, .bool true, .int .i64 p, .int .i64 s, .int .i64 p, .int .i64 0, .int .i64 0, .int .i64 0])) rfl)
      clear K
      refine out_keep K2.out ?_
      clear K2
      intro W11 K
      replace K := Lib.hid K
      by_cases h0 : i = 0
      · have hi00 : ¬ 0 < (i : Int) := by omega
        have HKV : Hid ((kyT ps ss i).vs = ([.bool true, .bool true, .bool true, .int .i64 p, .int .i64 s, .int .i64 p, .int .i64 0, .int .i64 0, .int .i64 0])) := Lib.hid (kyT_0 h0 HPP.out HSP.out)
        have H0 := Lib.hid h0
        clear h0
        go_upto_region 17 with fail
        (have y0 := K.out.cell (k := 0) (.head _) rfl; have y1 := K.out.cell (k := 1) (.head _) rfl; have y2 := K.out.cell (k := 2) (.head _) rfl; have y3 := K.out.cell (k := 3) (.head _) rfl; have y4 := K.out.cell (k := 4) (.head _) rfl; have y5 := K.out.cell (k := 5) (.head _) rfl; have y6 := K.out.cell (k := 6) (.head _) rfl; have y7 := K.out.cell (k := 7) (.head _) rfl; have y8 := K.out.cell (k := 8) (.head _) rfl; have KT := Lib.hid (K.out.alloc (.cells ((#[.bool true, .bool true, .bool true, .int .i64 p, .int .i64 s, .int .i64 p, .int .i64 0, .int .i64 0, .int .i64 0])) 51)); have G1 := HBK.out [(W11.heap.size, .cells ((#[.bool true, .bool true, .bool true, .int .i64 p, .int .i64 s, .int .i64 p, .int .i64 0, .int .i64 0, .int .i64 0])) 51), (kb, .cells ((#[.bool true, .bool true, .bool true, .int .i64 p, .int .i64 s, .int .i64 p, .int .i64 0, .int .i64 0, .int .i64 0])) 51), (cb, .cells (#[.int .i64 100, .int .i64 50, .int .i64 5, .int .i64 5, .int .i64 2097152, .int .i64 33554432, .int .i64 32768, .int .i64 32768, .int .i64 32768, .int .i64 32768, .int .i64 4, .int .i64 1, .int .i64 2, .int .i64 8, .int .i64 12, .int .i64 6, .int .i64 0]) 41)] _ KT.out; obtain ⟨v1, W21, hrun, G2⟩ := G1.appK (ty := 49) ⟨W11.heap.size, 0, none⟩ (news := ([.bool true, .bool true, .bool true, .int .i64 p, .int .i64 s, .int .i64 p, .int .i64 0, .int .i64 0, .int .i64 0])) rfl (fun j u hu => (by rw [add0]; exact KT.out.cell (.head _) (by rw [List.getElem?_toArray]; exact hu))) (fun u hu => (by simp only [List.mem_cons, List.not_mem_nil, or_false] at hu; rcases hu with rfl | rfl | rfl | rfl | rfl | rfl | rfl | rfl | rfl <;> rfl)) (by omega) 1; have HRUN := Lib.hid hrun; obtain ⟨⟨V1, v1c, rfl⟩, -⟩ := G2.sl; have HG2 := Lib.hid G2; clear hrun G1 G2 HBK K; rw [← HKV.out, ← kyVs_app] at HG2; go_upto_region 18 with (at_builtin; refine wpList_exec rfl (exec_append (.tmp 115) (.tmp 117) 49 rfl HRUN.out) ?_); clear y0 y1 y2 y3 y4 y5 y6 y7 y8 KT HRUN)
        (obtain ⟨S2, KK2, back2⟩ := HG2.out.out; have KF := Lib.hid KK2.rest.rest; have G3 := Lib.hid (back2 [(cb, .cells (#[.int .i64 100, .int .i64 50, .int .i64 5, .int .i64 5, .int .i64 2097152, .int .i64 33554432, .int .i64 32768, .int .i64 32768, .int .i64 32768, .int .i64 32768, .int .i64 4, .int .i64 1, .int .i64 2, .int .i64 8, .int .i64 12, .int .i64 6, .int .i64 0]) 41)] _ KF.out); have K : Hid (Keep w [(cb, .cells (#[.int .i64 100, .int .i64 50, .int .i64 5, .int .i64 5, .int .i64 2097152, .int .i64 33554432, .int .i64 32768, .int .i64 32768, .int .i64 32768, .int .i64 32768, .int .i64 4, .int .i64 1, .int .i64 2, .int .i64 8, .int .i64 12, .int .i64 6, .int .i64 0]) 41)] W21) := Lib.hid (Keep.front (l := S2) KF.out); clear KK2 back2 HG2 KF; refine region_ord (Keep w [(cb, .cells (#[.int .i64 100, .int .i64 50, .int .i64 5, .int .i64 5, .int .i64 2097152, .int .i64 33554432, .int .i64 32768, .int .i64 32768, .int .i64 32768, .int .i64 32768, .int .i64 4, .int .i64 1, .int .i64 2, .int .i64 8, .int .i64 12, .int .i64 6, .int .i64 0]) 41)]) 11 (by kernel_rfl) (by kernel_rfl) K.out.drew ?_; clear K; intro W22 K hbw; replace K := Lib.hid K; replace G3 := Lib.hid (G3.out.stay hbw); clear hbw; have e1 := Keep.fara K hq hqc; have e2 := Keep.fara K hr hrc; (refine Ord.take' 0 rfl (by kernel_rfl) (fun _ _ _ _ h => h) K.out (by rfl) ?_; apply Exists.intro; refine ⟨fun p => ?_, ?_⟩; (focus (go_simp; (try (with_reducible rfl)); done)); (try simp only [Act.put, List.setIfInBounds_toArray, List.set_cons_zero, List.set_cons_succ])); (refine Ord.take' 1 rfl (by kernel_rfl) (fun _ _ _ _ h => h) K.out (by rfl) ?_; apply Exists.intro; refine ⟨fun p => ?_, ?_⟩; (focus (go_simp; (try (with_reducible rfl)); done)); (try simp only [Act.put, List.setIfInBounds_toArray, List.set_cons_zero, List.set_cons_succ])); (refine Ord.take' 2 rfl (by kernel_rfl) (fun _ _ _ _ h => h) K.out (by rfl) ?_; apply Exists.intro; refine ⟨fun p => ?_, ?_⟩; (focus (go_simp; (try (with_reducible rfl)); done)); (try simp only [Act.put, List.setIfInBounds_toArray, List.set_cons_zero, List.set_cons_succ])); (refine Ord.take' 3 rfl (by kernel_rfl) (fun _ _ _ _ h => h) K.out (by rfl) ?_; apply Exists.intro; refine ⟨fun p => ?_, ?_⟩; (focus (go_simp; (try (with_reducible rfl)); done)); (try simp only [Act.put, List.setIfInBounds_toArray, List.set_cons_zero, List.set_cons_succ])); (refine Ord.take' 4 rfl (by kernel_rfl) (fun _ _ _ _ h => h) K.out (by rfl) ?_; apply Exists.intro; refine ⟨fun p => ?_, ?_⟩; (focus (go_simp; (try (with_reducible rfl)); done)); (try simp only [Act.put, List.setIfInBounds_toArray, List.set_cons_zero, List.set_cons_succ])); (refine Ord.take' 5 rfl (by kernel_rfl) (fun _ _ _ _ h => h) K.out (by rfl) ?_; apply Exists.intro; refine ⟨fun p => ?_, ?_⟩; (focus (go_simp; (try (with_reducible rfl)); done)); (try simp only [Act.put, List.setIfInBounds_toArray, List.set_cons_zero, List.set_cons_succ])); (refine Ord.take' 6 rfl (by kernel_rfl) (fun _ _ _ _ h => h) K.out (by rfl) ?_; apply Exists.intro; refine ⟨fun p => ?_, ?_⟩; (focus (go_simp; (try (with_reducible rfl)); done)); (try simp only [Act.put, List.setIfInBounds_toArray, List.set_cons_zero, List.set_cons_succ])); (refine Ord.take' 7 rfl (by kernel_rfl) (fun _ _ _ _ h => h) K.out (by rfl) ?_; apply Exists.intro; refine ⟨fun p => ?_, ?_⟩; (focus (go_simp; (try (with_reducible rfl)); done)); (try simp only [Act.put, List.setIfInBounds_toArray, List.set_cons_zero, List.set_cons_succ])); (refine Ord.take' 8 rfl (by kernel_rfl) (fun _ _ _ _ h => h) K.out (by rfl) ?_; apply Exists.intro; refine ⟨fun p => ?_, ?_⟩; (focus (go_simp; (try (with_reducible rfl)); done)); (try simp only [Act.put, List.setIfInBounds_toArray, List.set_cons_zero, List.set_cons_succ])); clear e1 e2; have KT := Lib.hid (K.out.alloc (.cells #[.int .i64 p, .int .i64 s] 2)); obtain ⟨S3, KK3, back3⟩ := G3.out.out; have KF3 := Lib.hid (KK3.alloc (.cells #[.int .i64 p, .int .i64 s] 2)); refine Ord.lay 9 (v := .slice (some ⟨W22.heap.size, 0, none⟩) 2 2) rfl (by kernel_rfl) (by rfl) (by (go_simp; try (with_reducible rfl))) KT.out.rest ?_; simp only [Act.put, List.setIfInBounds_toArray, List.set_cons_zero, List.set_cons_succ]; obtain ⟨v2, W23, hrun, G4⟩ := (back3 [(W22.heap.size, .cells #[.int .i64 p, .int .i64 s] 2), (cb, .cells (#[.int .i64 100, .int .i64 50, .int .i64 5, .int .i64 5, .int .i64 2097152, .int .i64 33554432, .int .i64 32768, .int .i64 32768, .int .i64 32768, .int .i64 32768, .int .i64 4, .int .i64 1, .int .i64 2, .int .i64 8, .int .i64 12, .int .i64 6, .int .i64 0]) 41)] _ KF3.out).appS (ty := 23) ⟨W22.heap.size, 0, none⟩ (m := 2) (news := [.int .i64 p, .int .i64 s]) rfl (fun j u hu => (by rw [add0]; exact KT.out.cell (.head _) (by rw [List.getElem?_toArray]; exact hu))) (fun u hu => (by simp only [List.mem_cons, List.not_mem_nil, or_false] at hu; rcases hu with rfl | rfl <;> rfl)) (by decide) (by omega) 2; obtain ⟨S5, KK5, back5⟩ := G4.out; have KF5 := Lib.hid KK5.rest; have G6 := Lib.hid (back5 [(cb, .cells (#[.int .i64 100, .int .i64 50, .int .i64 5, .int .i64 5, .int .i64 2097152, .int .i64 33554432, .int .i64 32768, .int .i64 32768, .int .i64 32768, .int .i64 32768, .int .i64 4, .int .i64 1, .int .i64 2, .int .i64 8, .int .i64 12, .int .i64 6, .int .i64 0]) 41)] _ KF5.out); clear back5 G4 back3 KK3 KF3 G3 KT K; refine Ord.lay 10 (v := v2) rfl (by kernel_rfl) (by rfl) (exec_append (.tmp 119) (.tmp 128) 23 rfl hrun) (Keep.front (l := S5) KF5.out) ?_; clear hrun KK5 KF5; obtain ⟨-, V2, v2c, rfl⟩ := G6.out.sl; simp only [Act.put, List.setIfInBounds_toArray, List.set_cons_zero, List.set_cons_succ]; (refine Ord.done (by kernel_rfl) ?_; simp only [List.drop_succ_cons, List.drop_zero, Act.put, List.setIfInBounds_toArray, List.set_cons_zero, List.set_cons_succ]); have HST : Hid ((stT ps ss (i + 1)).map (Value.int .i64) = (stT ps ss i).map (Value.int .i64) ++ [.int .i64 p, .int .i64 s]) := Lib.hid (by show (stT ps ss i ++ [ps.getD i 0, ss.getD i 0]).map (Value.int .i64) = _; rw [List.map_append, HPP.out, HSP.out]; rfl); rw [← HST.out] at G6; go_wp2_with fail; go_roundg (ps.length - i - 1); (case measure => omega); (case rel => exact ⟨i + 1, by omega, congrArg (Value.int .i64) (by omega), fun j hj => (by by_cases e : j < i; (focus exact HBD.out j e); (obtain rfl : j = i := (by omega); rw [HPP.out, HSP.out]; omega)), G6.out⟩))
      · have hi1 : 0 < (i : Int) := by omega
        obtain ⟨-, q9, he, -, hqd⟩ := HP.out (i - 1) (by omega)
        cases he
        obtain ⟨-, r9, he, -, hrd⟩ := HS.out (i - 1) (by omega)
        cases he
        obtain ⟨⟨bp1, bp2⟩, bs1, bs2⟩ := HBD.out (i - 1) (by omega)
        obtain ⟨p', hpp'⟩ : ∃ x, ps.getD (i - 1) 0 = x := ⟨_, rfl⟩
        obtain ⟨s', hsp'⟩ : ∃ x, ss.getD (i - 1) 0 = x := ⟨_, rfl⟩
        have HKV : Hid ((kyT ps ss i).vs = ([.bool true, .bool true, .bool true, .int .i64 p, .int .i64 s, .int .i64 p, .int .i64 (s - s'), .int .i64 (p - p' - s'), .int .i64 100])) := Lib.hid (kyT_1 h0 HPP.out HSP.out hpp' hsp')
        rw [hpp'] at hqd bp1 bp2
        rw [hsp'] at hrd bs1 bs2
        clear hpp' hsp' h0
        have hk1 : ((i : Int) - 1).toNat = i - 1 := by omega
        have hl1 : (i : Int) - 1 < (ps.length : Int) := by omega
        have hl0 : (0 : Int) ≤ (i : Int) - 1 := by omega
        have y0 := K.out.cell (k := 0) (v := .int .i64 100) (.tail _ (.head _)) rfl
        have y8 := K.out.cell (k := 8) (v := .int .i64 0) (.head _) rfl
        have fy := K.out.warm (.head _) 8
        go_upto_region 15 with fail
        clear y0 y8 fy
        replace K := Lib.hid (K.out.set_0 8 (.int .i64 100))
        simp only [List.setIfInBounds_toArray, List.set_cons_zero, List.set_cons_succ] at K
        have e1 := Keep.fara K hq hqc
        have e2 := Keep.fara K hq hqd
        have e3 := Keep.fara K hr hrd
        have hw1 : IntKind.i64.wrap (p - p') = p - p' := IntWalk.i64_in _ (by omega)
        have hw2 : IntKind.i64.wrap (p - p' - s') = p - p' - s' := IntWalk.i64_in _ (by omega)
        have hw3 : IntKind.i64.wrap ((i : Int) - 1) = (i : Int) - 1 := IntWalk.i64_in _ (by omega)
        (refine region_tail _ 16 (by kernel_rfl) (by kernel_rfl) K.out.drew ?_; haveI ne := Keep.ne K)
        (simp only [List.take_succ_cons, List.take_zero, List.drop_succ_cons, List.drop_zero])
        repeat (go_big_quiet_step (fail))
        (refine wpQuiet_nil ?_; clear ne K; intro W K; replace K := Lib.hid K)
        clear e1 e2 e3 hw1 hw2 hw3
        have y7 := K.out.cell (k := 7) (v := .int .i64 0) (.head _) rfl
        have fy := K.out.warm (.head _) 7
        go_upto_region 16 with fail
        clear y7 fy
        replace K := Lib.hid (K.out.set_0 7 (.int .i64 (p - p' - s')))
        simp only [List.setIfInBounds_toArray, List.set_cons_zero, List.set_cons_succ] at K
        have e2 := Keep.fara K hr hrc
        have e3 := Keep.fara K hr hrd
        have hw1 : IntKind.i64.wrap (s - s') = s - s' := IntWalk.i64_in _ (by omega)
        have hw3 : IntKind.i64.wrap ((i : Int) - 1) = (i : Int) - 1 := IntWalk.i64_in _ (by omega)
        (refine region_tail _ 10 (by kernel_rfl) (by kernel_rfl) K.out.drew ?_; haveI ne := Keep.ne K)
        (simp only [List.take_succ_cons, List.take_zero, List.drop_succ_cons, List.drop_zero])
        repeat (go_big_quiet_step (fail))
        (refine wpQuiet_nil ?_; clear ne K; intro W K; replace K := Lib.hid K)
        clear e2 e3 hw1 hw3
        have y6 := K.out.cell (k := 6) (v := .int .i64 0) (.head _) rfl
        have fy := K.out.warm (.head _) 6
        go_upto_region 17 with fail
        clear y6 fy
        replace K := Lib.hid (K.out.set_0 6 (.int .i64 (s - s')))
        simp only [List.setIfInBounds_toArray, List.set_cons_zero, List.set_cons_succ] at K
        refine out_keep K.out ?_
        clear K
        intro W15 K
        replace K := Lib.hid K
        clear hk1 hl1 hl0
        (have y0 := K.out.cell (k := 0) (.head _) rfl; have y1 := K.out.cell (k := 1) (.head _) rfl; have y2 := K.out.cell (k := 2) (.head _) rfl; have y3 := K.out.cell (k := 3) (.head _) rfl; have y4 := K.out.cell (k := 4) (.head _) rfl; have y5 := K.out.cell (k := 5) (.head _) rfl; have y6 := K.out.cell (k := 6) (.head _) rfl; have y7 := K.out.cell (k := 7) (.head _) rfl; have y8 := K.out.cell (k := 8) (.head _) rfl; have KT := Lib.hid (K.out.alloc (.cells ((#[.bool true, .bool true, .bool true, .int .i64 p, .int .i64 s, .int .i64 p, .int .i64 (s - s'), .int .i64 (p - p' - s'), .int .i64 100])) 51)); have G1 := HBK.out [(W15.heap.size, .cells ((#[.bool true, .bool true, .bool true, .int .i64 p, .int .i64 s, .int .i64 p, .int .i64 (s - s'), .int .i64 (p - p' - s'), .int .i64 100])) 51), (kb, .cells ((#[.bool true, .bool true, .bool true, .int .i64 p, .int .i64 s, .int .i64 p, .int .i64 (s - s'), .int .i64 (p - p' - s'), .int .i64 100])) 51), (cb, .cells (#[.int .i64 100, .int .i64 50, .int .i64 5, .int .i64 5, .int .i64 2097152, .int .i64 33554432, .int .i64 32768, .int .i64 32768, .int .i64 32768, .int .i64 32768, .int .i64 4, .int .i64 1, .int .i64 2, .int .i64 8, .int .i64 12, .int .i64 6, .int .i64 0]) 41)] _ KT.out; obtain ⟨v1, W21, hrun, G2⟩ := G1.appK (ty := 49) ⟨W15.heap.size, 0, none⟩ (news := ([.bool true, .bool true, .bool true, .int .i64 p, .int .i64 s, .int .i64 p, .int .i64 (s - s'), .int .i64 (p - p' - s'), .int .i64 100])) rfl (fun j u hu => (by rw [add0]; exact KT.out.cell (.head _) (by rw [List.getElem?_toArray]; exact hu))) (fun u hu => (by simp only [List.mem_cons, List.not_mem_nil, or_false] at hu; rcases hu with rfl | rfl | rfl | rfl | rfl | rfl | rfl | rfl | rfl <;> rfl)) (by omega) 1; have HRUN := Lib.hid hrun; obtain ⟨⟨V1, v1c, rfl⟩, -⟩ := G2.sl; have HG2 := Lib.hid G2; clear hrun G1 G2 HBK K; rw [← HKV.out, ← kyVs_app] at HG2; go_upto_region 18 with (at_builtin; refine wpList_exec rfl (exec_append (.tmp 115) (.tmp 117) 49 rfl HRUN.out) ?_); clear y0 y1 y2 y3 y4 y5 y6 y7 y8 KT HRUN)
        (obtain ⟨S2, KK2, back2⟩ := HG2.out.out; have KF := Lib.hid KK2.rest.rest; have G3 := Lib.hid (back2 [(cb, .cells (#[.int .i64 100, .int .i64 50, .int .i64 5, .int .i64 5, .int .i64 2097152, .int .i64 33554432, .int .i64 32768, .int .i64 32768, .int .i64 32768, .int .i64 32768, .int .i64 4, .int .i64 1, .int .i64 2, .int .i64 8, .int .i64 12, .int .i64 6, .int .i64 0]) 41)] _ KF.out); have K : Hid (Keep w [(cb, .cells (#[.int .i64 100, .int .i64 50, .int .i64 5, .int .i64 5, .int .i64 2097152, .int .i64 33554432, .int .i64 32768, .int .i64 32768, .int .i64 32768, .int .i64 32768, .int .i64 4, .int .i64 1, .int .i64 2, .int .i64 8, .int .i64 12, .int .i64 6, .int .i64 0]) 41)] W21) := Lib.hid (Keep.front (l := S2) KF.out); clear KK2 back2 HG2 KF; refine region_ord (Keep w [(cb, .cells (#[.int .i64 100, .int .i64 50, .int .i64 5, .int .i64 5, .int .i64 2097152, .int .i64 33554432, .int .i64 32768, .int .i64 32768, .int .i64 32768, .int .i64 32768, .int .i64 4, .int .i64 1, .int .i64 2, .int .i64 8, .int .i64 12, .int .i64 6, .int .i64 0]) 41)]) 11 (by kernel_rfl) (by kernel_rfl) K.out.drew ?_; clear K; intro W22 K hbw; replace K := Lib.hid K; replace G3 := Lib.hid (G3.out.stay hbw); clear hbw; have e1 := Keep.fara K hq hqc; have e2 := Keep.fara K hr hrc; (refine Ord.take' 0 rfl (by kernel_rfl) (fun _ _ _ _ h => h) K.out (by rfl) ?_; apply Exists.intro; refine ⟨fun p => ?_, ?_⟩; (focus (go_simp; (try (with_reducible rfl)); done)); (try simp only [Act.put, List.setIfInBounds_toArray, List.set_cons_zero, List.set_cons_succ])); (refine Ord.take' 1 rfl (by kernel_rfl) (fun _ _ _ _ h => h) K.out (by rfl) ?_; apply Exists.intro; refine ⟨fun p => ?_, ?_⟩; (focus (go_simp; (try (with_reducible rfl)); done)); (try simp only [Act.put, List.setIfInBounds_toArray, List.set_cons_zero, List.set_cons_succ])); (refine Ord.take' 2 rfl (by kernel_rfl) (fun _ _ _ _ h => h) K.out (by rfl) ?_; apply Exists.intro; refine ⟨fun p => ?_, ?_⟩; (focus (go_simp; (try (with_reducible rfl)); done)); (try simp only [Act.put, List.setIfInBounds_toArray, List.set_cons_zero, List.set_cons_succ])); (refine Ord.take' 3 rfl (by kernel_rfl) (fun _ _ _ _ h => h) K.out (by rfl) ?_; apply Exists.intro; refine ⟨fun p => ?_, ?_⟩; (focus (go_simp; (try (with_reducible rfl)); done)); (try simp only [Act.put, List.setIfInBounds_toArray, List.set_cons_zero, List.set_cons_succ])); (refine Ord.take' 4 rfl (by kernel_rfl) (fun _ _ _ _ h => h) K.out (by rfl) ?_; apply Exists.intro; refine ⟨fun p => ?_, ?_⟩; (focus (go_simp; (try (with_reducible rfl)); done)); (try simp only [Act.put, List.setIfInBounds_toArray, List.set_cons_zero, List.set_cons_succ])); (refine Ord.take' 5 rfl (by kernel_rfl) (fun _ _ _ _ h => h) K.out (by rfl) ?_; apply Exists.intro; refine ⟨fun p => ?_, ?_⟩; (focus (go_simp; (try (with_reducible rfl)); done)); (try simp only [Act.put, List.setIfInBounds_toArray, List.set_cons_zero, List.set_cons_succ])); (refine Ord.take' 6 rfl (by kernel_rfl) (fun _ _ _ _ h => h) K.out (by rfl) ?_; apply Exists.intro; refine ⟨fun p => ?_, ?_⟩; (focus (go_simp; (try (with_reducible rfl)); done)); (try simp only [Act.put, List.setIfInBounds_toArray, List.set_cons_zero, List.set_cons_succ])); (refine Ord.take' 7 rfl (by kernel_rfl) (fun _ _ _ _ h => h) K.out (by rfl) ?_; apply Exists.intro; refine ⟨fun p => ?_, ?_⟩; (focus (go_simp; (try (with_reducible rfl)); done)); (try simp only [Act.put, List.setIfInBounds_toArray, List.set_cons_zero, List.set_cons_succ])); (refine Ord.take' 8 rfl (by kernel_rfl) (fun _ _ _ _ h => h) K.out (by rfl) ?_; apply Exists.intro; refine ⟨fun p => ?_, ?_⟩; (focus (go_simp; (try (with_reducible rfl)); done)); (try simp only [Act.put, List.setIfInBounds_toArray, List.set_cons_zero, List.set_cons_succ])); clear e1 e2; have KT := Lib.hid (K.out.alloc (.cells #[.int .i64 p, .int .i64 s] 2)); obtain ⟨S3, KK3, back3⟩ := G3.out.out; have KF3 := Lib.hid (KK3.alloc (.cells #[.int .i64 p, .int .i64 s] 2)); refine Ord.lay 9 (v := .slice (some ⟨W22.heap.size, 0, none⟩) 2 2) rfl (by kernel_rfl) (by rfl) (by (go_simp; try (with_reducible rfl))) KT.out.rest ?_; simp only [Act.put, List.setIfInBounds_toArray, List.set_cons_zero, List.set_cons_succ]; obtain ⟨v2, W23, hrun, G4⟩ := (back3 [(W22.heap.size, .cells #[.int .i64 p, .int .i64 s] 2), (cb, .cells (#[.int .i64 100, .int .i64 50, .int .i64 5, .int .i64 5, .int .i64 2097152, .int .i64 33554432, .int .i64 32768, .int .i64 32768, .int .i64 32768, .int .i64 32768, .int .i64 4, .int .i64 1, .int .i64 2, .int .i64 8, .int .i64 12, .int .i64 6, .int .i64 0]) 41)] _ KF3.out).appS (ty := 23) ⟨W22.heap.size, 0, none⟩ (m := 2) (news := [.int .i64 p, .int .i64 s]) rfl (fun j u hu => (by rw [add0]; exact KT.out.cell (.head _) (by rw [List.getElem?_toArray]; exact hu))) (fun u hu => (by simp only [List.mem_cons, List.not_mem_nil, or_false] at hu; rcases hu with rfl | rfl <;> rfl)) (by decide) (by omega) 2; obtain ⟨S5, KK5, back5⟩ := G4.out; have KF5 := Lib.hid KK5.rest; have G6 := Lib.hid (back5 [(cb, .cells (#[.int .i64 100, .int .i64 50, .int .i64 5, .int .i64 5, .int .i64 2097152, .int .i64 33554432, .int .i64 32768, .int .i64 32768, .int .i64 32768, .int .i64 32768, .int .i64 4, .int .i64 1, .int .i64 2, .int .i64 8, .int .i64 12, .int .i64 6, .int .i64 0]) 41)] _ KF5.out); clear back5 G4 back3 KK3 KF3 G3 KT K; refine Ord.lay 10 (v := v2) rfl (by kernel_rfl) (by rfl) (exec_append (.tmp 119) (.tmp 128) 23 rfl hrun) (Keep.front (l := S5) KF5.out) ?_; clear hrun KK5 KF5; obtain ⟨-, V2, v2c, rfl⟩ := G6.out.sl; simp only [Act.put, List.setIfInBounds_toArray, List.set_cons_zero, List.set_cons_succ]; (refine Ord.done (by kernel_rfl) ?_; simp only [List.drop_succ_cons, List.drop_zero, Act.put, List.setIfInBounds_toArray, List.set_cons_zero, List.set_cons_succ]); have HST : Hid ((stT ps ss (i + 1)).map (Value.int .i64) = (stT ps ss i).map (Value.int .i64) ++ [.int .i64 p, .int .i64 s]) := Lib.hid (by show (stT ps ss i ++ [ps.getD i 0, ss.getD i 0]).map (Value.int .i64) = _; rw [List.map_append, HPP.out, HSP.out]; rfl); rw [← HST.out] at G6; go_wp2_with fail; go_roundg (ps.length - i - 1); (case measure => omega); (case rel => exact ⟨i + 1, by omega, congrArg (Value.int .i64) (by omega), fun j hj => (by by_cases e : j < i; (focus exact HBD.out j e); (obtain rfl : j = i := (by omega); rw [HPP.out, HSP.out]; omega)), G6.out⟩))
    · have hie : i = ps.length := by omega
      have hiz : ¬ (i : Int) < (ps.length : Int) := by omega
      subst hie
      clear hbd HPI HSI HP HS
      go_wp2_with fail
      refine HCT.out _ _ ?_
      exact truth_tail ps ss cb KB kcap YB ycap wr hn1 hn5 HBD.out G
end Go.Proofs.YtmidifgnpjlgcaaGreat
/- Opening what came in: a list of numbers, rows. -/
set_option linter.unusedVariables false
set_option linter.unusedSimpArgs false
namespace Go.Proofs.YtmidifgnpjlgcaaGreat
open Go.ChangeShapes Go.WideShapes Go.Deep Go.RowKit

theorem weightsAll_mem {H : Type} {P : Program} {e : TypeId} : ∀ {ds : List (DataW H)} {d : DataW H}, d ∈ ds → ∀ n ∈ d.weights P e, n ∈ DataW.weightsAll P e ds
  | d0 :: ds, d, h, n, hn => by
    rw [DataW.weightsAll, List.mem_append]
    rcases List.mem_cons.1 h with rfl | h
    · exact .inl hn
    · exact .inr (weightsAll_mem h n hn)
theorem sized_elem {H : Type} {P : Program} {ts : List TypeId} {ds : List (DataW H)} (h : (DataW.weightsEach P ts ds).all (· ≤ reachBytes) = true) {j : Nat} {t e : TypeId} {elems spare : List (DataW H)} (ht : ts[j]? = some t) (hd : ds[j]? = some (.slice elems spare)) (hu : P.underlying t = some (.slice e)) {d : DataW H} (hm : d ∈ elems) : ∀ n ∈ d.weights P e, n ≤ reachBytes := by
  intro n hn
  have := List.all_eq_true.1 h n (DataW.weights_mem_each ht hd n (by
    simp only [DataW.weights, hu, List.mem_cons, List.mem_append]
    exact .inr (.inl (weightsAll_mem hm n hn))))
  simpa using this
theorem list_of {α : Type} (d : α) (p : Nat → α → Prop) : ∀ n, (∀ i, i < n → ∃ f, p i f) → ∃ fs : List α, fs.length = n ∧ ∀ i, i < n → p i (fs.getD i d)
  | 0, _ => ⟨[], rfl, fun i h => absurd h (by omega)⟩
  | n + 1, h => by
    obtain ⟨fs, hl, hp⟩ := list_of d p n (fun i hi => h i (by omega))
    obtain ⟨f, hf⟩ := h n (by omega)
    refine ⟨fs ++ [f], by simp [hl], fun i hi => ?_⟩
    by_cases hn : i < n
    · rw [List.getD_eq_getElem?_getD, List.getElem?_append_left (by omega), ← List.getD_eq_getElem?_getD]
      exact hp i hn
    · obtain rfl : i = n := by omega
      rw [List.getD_eq_getElem?_getD, List.getElem?_append_right (by omega), hl]
      simpa using hf

section
variable {H : Type} {enc : TypeId × Value → H} {P : Program} {w : World} {base : Nat} {spare : Nat → Bool} {held : Bool}
theorem open_slice_fields {t e : TypeId} {fs : Array Field} {fuel : Nat} {cs : List Value} {x : DataW H × List MemPlace} (ht : P.underlying t = some (.slice e)) (he : P.underlying e = some (.struct fs))
    (hone : oneCellFields P fs = true) (hC : P.cellsOf e = fs.size) (h : DataW.trod enc P w base spare held fuel t cs = some x) :
    (cs = [.slice none 0 0] ∧ x = (.nil, [])) ∨
    ∃ (a : Addr) (len cap m : Nat) (D : Nat → DataW H) (Pl : Nat → List MemPlace), cs = [.slice (some a) len cap] ∧ base ≤ a.block ∧ len ≤ cap ∧ cap ≤ maxLen ∧ m = (if spare a.block then cap else len) ∧
      x = (.slice ((List.range len).map D) ((List.range (m - len)).map fun j => D (len + j)), MemPlace.row a (m * fs.size) ++ (List.range m).flatMap Pl) ∧
      ∀ i, i < m → ∃ (ys : List (DataW H × List MemPlace)) (n : Nat), D i = .agg (ys.map (·.1)) ∧ Pl i = ys.flatMap (·.2) ∧ ys.length = fs.size ∧
        ∀ (j : Nat) (f : Field), fs[j]? = some f → ∃ (v : Value) (y : DataW H × List MemPlace), w.cell? (a.add (i * fs.size + j)) = some v ∧ ys[j]? = some y ∧ DataW.trod enc P w base spare held n f.type [v] = some y := by
  rcases open_slice ht h with h0 | ⟨a, len, cap, m, n, D, Pl, hcs, hb, hl, hm, hmm, hx, hi⟩
  · exact .inl h0
  · refine .inr ⟨a, len, cap, m, D, Pl, hcs, hb, hl, hm, hmm, by rw [hC] at hx; exact hx, fun i him => ?_⟩
    obtain ⟨cs', hc, ht'⟩ := hi i him
    rw [hC] at hc
    obtain ⟨ys, n', hn', hy, hlen, hyl, hf⟩ := DataW.trod_struct he ht'
    obtain ⟨_, hcl, hat⟩ := World.cells?_some hc
    simp only [Prod.mk.injEq] at hy
    refine ⟨ys, n', hy.1, hy.2, hyl, fun j f hj => ?_⟩
    obtain ⟨ho, hk⟩ := hone_of hone j f hj
    have hjl : j < fs.size := (Array.getElem?_eq_some_iff.1 hj).1
    have hcell := hat j hjl
    have hv : cs'[j]? = some (cs'[j]'(by omega)) := List.getElem?_eq_getElem (by omega)
    have h1 := hf j f hj
    rw [ho, hk] at h1
    have hone' : (cs'.drop j).take 1 = [cs'[j]'(by omega)] := by
      rw [List.drop_eq_getElem_cons (by omega)]
      rfl
    rw [hone'] at h1
    have hys : ys[j]? = some (ys[j]'(by omega)) := List.getElem?_eq_getElem (by omega)
    refine ⟨_, _, ?_, hys, h1.trans hys⟩
    rw [← Go.Deep.add_add, hcell, hv]

/-- A list of numbers that came in. -/
theorem iv_trod {t u : TypeId} {v : Value} {x : DataW H × List MemPlace} {fuel : Nat} (hu : P.underlying t = some (.slice u)) (hk : P.underlying u = some (.int .i64)) (hc : P.cellsOf u = 1)
    (h : DataW.trod enc P w base spare held fuel t [v] = some x) : ∃ xs, Iv w v xs ∧ (xs.length = 0 ∨ ∃ el sp, x.1 = .slice el sp ∧ el.length = xs.length) := by
  rcases open_slice1 hu hc h with ⟨hcs, rfl⟩ | ⟨a, len, cap, m, n, V, D, Pl, hcs, hb, hl, hm, hmm, rfl, hx⟩
  · obtain rfl : v = .slice none 0 0 := by simpa using hcs
    exact ⟨[], ⟨none, 0, rfl, fun _ => rfl, fun j hj => absurd hj (by simp)⟩, .inl rfl⟩
  · obtain rfl : v = .slice (some a) len cap := by simpa using hcs
    have hll : len ≤ m := by
      rw [hmm]
      split
      · exact hl
      · exact Nat.le_refl _
    obtain ⟨xs, hxl, hxs⟩ := list_of (0 : Int) (fun i k => w.cell? (a.add i) = some (.int .i64 k) ∧ i64 k) len (fun i hi => by
      obtain ⟨h1, h2⟩ := hx i (by omega)
      obtain ⟨k, e, -, hw⟩ := DataW.trod_int hk h2
      have e2 : V i = .int .i64 k := by simpa using e
      rw [e2] at h1
      exact ⟨k, h1, bounds_i64 hw⟩)
    subst hxl
    refine ⟨xs, ⟨some a, cap, rfl, fun h => (by cases h), fun j hj => ⟨(hxs j hj).2, a, rfl, ?_, (hxs j hj).1⟩⟩, .inr ⟨_, _, rfl, by simp⟩⟩
    have := World.block_lt_of_cell? w _ (hxs j hj).1
    rwa [add_block] at this
theorem iv_open {t u : TypeId} {a : Option Addr} {len cap : Nat} {d : DataW H} {ps : List MemPlace} (hu : P.underlying t = some (.slice u)) (hk : P.underlying u = some (.int .i64)) (hc : P.cellsOf u = 1)
    (h : DataW.Trod enc P w base spare held t (.slice a len cap) d ps) : ∃ xs, xs.length = len ∧ Iv w (.slice a len cap) xs := by
  obtain ⟨fuel, hf⟩ := h
  obtain ⟨xs, hI, -⟩ := iv_trod hu hk hc (v := .slice a len cap) (by simpa [Value.cells] using hf)
  obtain ⟨A, c, e, -⟩ := id hI
  injection e with _ e2 _
  exact ⟨xs, e2.symm, hI⟩
/-- Rows that came in. -/
theorem rws_open {t e tc u : TypeId} {f0 f1 f2 f3 : Field} {a : Option Addr} {len cap : Nat} {d : DataW H} {ps : List MemPlace} {ts : List TypeId} {ds : List (DataW H)} {j : Nat}
    (hsz : (DataW.weightsEach P ts ds).all (· ≤ reachBytes) = true) (ht : ts[j]? = some t) (hd : ds[j]? = some d) (hu : P.underlying t = some (.slice e)) (he : P.underlying e = some (.struct #[f0, f1, f2, f3]))
    (h0 : f0.type = tc) (h1 : f1.type = u) (h2 : f2.type = u) (h3 : f3.type = u) (hkc : P.underlying tc = some (.slice u)) (hku : P.underlying u = some (.int .i64)) (hcu : P.cellsOf u = 1)
    (hone : oneCellFields P #[f0, f1, f2, f3] = true) (hc : P.cellsOf e = 4) (hB : P.bytesOf u = 8)
    (h : DataW.Trod enc P w base spare held t (.slice a len cap) d ps) : ∃ rs, rs.length = len ∧ Rws w (.slice a len cap) rs ∧ ∀ r ∈ rs, r.coef.length ≤ 4611686018427387904 := by
  obtain ⟨fuel, hf⟩ := h
  rcases open_slice_fields hu he hone hc hf with ⟨hcs, hx⟩ | ⟨x, l, c, m, D, Pl, hcs, _, hl, hm, hmm, hx, hD⟩
  · simp [Value.cells] at hcs
    obtain ⟨rfl, rfl, rfl⟩ := hcs
    exact ⟨[], rfl, ⟨none, 0, rfl, fun _ => rfl, fun j h => absurd h (by simp)⟩, fun r h => by cases h⟩
  · simp [Value.cells] at hcs
    obtain ⟨rfl, rfl, rfl⟩ := hcs
    obtain ⟨hx, _⟩ := Prod.mk.inj hx
    subst hx
    have hll : len ≤ m := by
      rw [hmm]
      split
      · exact hl
      · exact Nat.le_refl _
    obtain ⟨rs, hrl, hrs⟩ := list_of Rw.zero (fun i r => ∃ v, Iv w v r.coef ∧ w.cell? (x.add (i * 4 + 0)) = some v ∧ w.cell? (x.add (i * 4 + 1)) = some (.int .i64 r.z) ∧ w.cell? (x.add (i * 4 + 2)) = some (.int .i64 r.knee) ∧ w.cell? (x.add (i * 4 + 3)) = some (.int .i64 r.weight) ∧ r.coef.length ≤ 4611686018427387904) len (by
      intro i hi
      obtain ⟨ys, n, hDi, _, hyl, hf⟩ := hD i (by omega)
      obtain ⟨v0, y0, hc0, hy0, ht0⟩ := hf 0 f0 rfl
      obtain ⟨v1, y1, hc1, hy1, ht1⟩ := hf 1 f1 rfl
      obtain ⟨v2, y2, hc2, hy2, ht2⟩ := hf 2 f2 rfl
      obtain ⟨v3, y3, hc3, hy3, ht3⟩ := hf 3 f3 rfl
      rw [h0] at ht0
      rw [h1] at ht1
      rw [h2] at ht2
      rw [h3] at ht3
      obtain ⟨xs, hI, hsl⟩ := iv_trod hkc hku hcu ht0
      obtain ⟨k1, e1, -, -⟩ := DataW.trod_int hku ht1
      obtain ⟨k2, e2, -, -⟩ := DataW.trod_int hku ht2
      obtain ⟨k3, e3, -, -⟩ := DataW.trod_int hku ht3
      obtain rfl : v1 = .int .i64 k1 := by simpa using e1
      obtain rfl : v2 = .int .i64 k2 := by simpa using e2
      obtain rfl : v3 = .int .i64 k3 := by simpa using e3
      refine ⟨⟨xs, k1, k2, k3⟩, v0, hI, hc0, hc1, hc2, hc3, ?_⟩
      rcases hsl with hz | ⟨el, sp, hel, hlen⟩
      · show xs.length ≤ _
        omega
      · have hmem : D i ∈ (List.range len).map D := List.mem_map.2 ⟨i, List.mem_range.2 hi, rfl⟩
        match ys, hyl, hy0 with
        | [z0, z1, z2, z3], _, hy0 =>
          simp only [List.getElem?_cons_zero, Option.some.injEq] at hy0
          subst hy0
          have := sized_elem hsz ht hd hu hmem ((el.length + sp.length) * 8) (by
            rw [hDi]
            simp only [DataW.weights, he, List.map_cons, List.map_nil, h0, hel, hkc, hB, DataW.weightsEach, Array.toList, List.mem_append, List.mem_cons]
            exact .inl (.inl trivial))
          rw [show reachBytes = 140737488351232 by decide] at this
          show xs.length ≤ _
          omega)
    subst hrl
    refine ⟨rs, rfl, ⟨some x, cap, rfl, fun h => (by cases h), fun j hj => ?_⟩, fun r hr => ?_⟩
    · obtain ⟨v, hI, c0, c1, c2, c3, -⟩ := hrs j hj
      obtain ⟨v', -, c0', -⟩ := hrs 0 (by omega)
      obtain ⟨b, off, spot⟩ := x
      have hspot : spot = none := by simpa [Addr.add] using World.cell?_spot c0'
      subst hspot
      have hadd : ∀ j, (⟨b, off, none⟩ : Addr).add j = ⟨b, off + j, none⟩ := fun j => by unfold Addr.add; split <;> simp_all
      rw [hadd] at c0 c1 c2 c3
      obtain ⟨B, d, rfl, hB0, hb⟩ := hI
      refine ⟨b, off, B, d, rfl, World.block_lt_of_cell? w _ c0, ⟨B, d, rfl, hB0, hb⟩, c0, c1, c2, c3⟩
    · obtain ⟨k, hk, rfl⟩ := List.mem_iff_getElem.1 hr
      obtain ⟨v, -, -, -, -, -, hle⟩ := hrs k hk
      rw [List.getD_eq_getElem?_getD, List.getElem?_eq_getElem hk, Option.getD_some] at hle
      exact hle
end
end Go.Proofs.YtmidifgnpjlgcaaGreat
