/- The walk of the document's Mul. -/
import Derived.Test.YtehjfjdopeadfaaDr
set_option linter.unusedVariables false
set_option linter.unusedSimpArgs false
namespace Go.Proofs.Ytehjfjdopeadfaa
open Go.RowKit

set_option maxHeartbeats 8000000 in
set_option maxRecDepth 100000 in
theorem times_any (n m : Bool) (s t : Value) (a b : List Int) (w : World) (h1 : Num w n s a) (h2 : Num w m t b) (l1 : a.length ≤ 1000) (l2 : b.length ≤ 1000) :
    Calls Try.prog 88 #[.agg #[.bool n, s], .agg #[.bool m, t]] w fun e w' => ∃ q v out, e = .returned (.agg #[.bool q, v]) ∧ Num w' q v out ∧ zof q out = zof n a * zof m b ∧ out.length ≤ a.length + b.length + 1 ∧ Below w.heap.size w w' := by
  obtain ⟨A, c, rfl, ha⟩ := h1.1.len
  obtain ⟨B, d, rfl, hb⟩ := h2.1.len
  have K := Lib.hid (Keep.begin3 w (Obj.num n (.slice A a.length c)) (Obj.num m (.slice B b.length d)) (Obj.num false (.slice none 0 0)))
  have HA := Lib.hid ha; have HB := Lib.hid hb
  have DA := Lib.hid h1.2.1; have DB := Lib.hid h2.2.1
  have G1 := Lib.hid (fun k => getD_mem h1.2.1 k); have G2 := Lib.hid (fun k => getD_mem h2.2.1 k)
  clear ha hb h1 h2
  have hmk := mk_row (a.length + b.length + 1) (by omega) ((a.length : Int) + (b.length : Int) + 1) (by omega)
  go_enter Try.func88, Try.ntmps88
  go_upto_region 1 with fail
  (refine out_keep K.out ?_; clear K; intro W K; replace K := Lib.hid K)
  obtain ⟨f1, c10, c11⟩ := K.out.nm (.tail _ (.tail _ (.head _)))
  obtain ⟨f2, c20, c21⟩ := K.out.nm (.tail _ (.head _))
  go_upto_region 2 with fail
  replace K := Lib.hid (K.out.alloc (Obj.row (List.replicate (a.length + b.length + 1) 0)))
  clear f1 c10 c11 f2 c20 c21 hmk
  generalize W.heap.size = gg at *
  (refine out_keep K.out ?_; clear K; intro W K; replace K := Lib.hid K)
  go_wp2_with fail
  go_loopg [6] a.length (fun g iv wr => ∃ (i : Nat) (out : List Int), g + i = a.length ∧ iv = .int .i64 (i : Int) ∧ out.length = a.length + b.length + 1 ∧ digits out ∧ val out = val (a.take i) * val b ∧ Keep w [(gg, Obj.row out), (w.heap.size + 1 + 1, Obj.num false (.slice none 0 0)), (w.heap.size + 1, Obj.num m (.slice B b.length d)), (w.heap.size, Obj.num n (.slice A a.length c))] wr)
  case atStart => exact ⟨0, List.replicate (a.length + b.length + 1) 0, by omega, rfl, by simp, digits_zero _, by rw [val_zero]; simp [val], K.out⟩
  case round =>
    clear K
    obtain ⟨i, out, hg, rfl, ho, hd, hv, k⟩ := hrel
    have K := Lib.hid k
    have HD := Lib.hid hd
    have HV := Lib.hid hv
    clear k hd hv
    obtain ⟨f1, c10, c11⟩ := K.out.nm (.tail _ (.tail _ (.tail _ (.head _))))
    obtain ⟨f2, c20, c21⟩ := K.out.nm (.tail _ (.tail _ (.head _)))
    by_cases hi : i < a.length
    · obtain ⟨x, rfl, hx, hxc⟩ := HA.out (by omega)
      have HXC := Lib.hid (And.intro hx (hxc i hi))
      clear hx hxc
      have MS := Lib.hid (Muled.start (i := i) ho HD.out HV.out)
      have HI := Lib.hid hi
      go_wp2_with fail
      clear HD HV f1 c10 c11 f2 c20 c21
      have K0 := Lib.hid K.out
      clear K
      have HO0 := ho
      clear ho
      go_loopg [7, 8] (a.length + b.length + 1 - i) (fun g2 ov kv wr2 => ∃ (k : Nat) (o : Int) (out2 : List Int), g2 + (i + k) = a.length + b.length + 1 ∧ kv = .int .i64 (k : Int) ∧ ov = .int .i64 o ∧ Muled a b (a.length + b.length + 1) i k o out2 ∧ Keep w [(gg, Obj.row out2), (w.heap.size + 1 + 1, Obj.num false (.slice none 0 0)), (w.heap.size + 1, Obj.num m (.slice B b.length d)), (w.heap.size, Obj.num n (.slice (some ⟨x, 0, none⟩) a.length c))] wr2)
      case atStart => exact ⟨0, 0, out, by omega, rfl, rfl, MS.out, K0.out⟩
      case round =>
        clear K0 MS
        obtain ⟨k, o, out2, hg2, rfl, rfl, hmu, kk⟩ := hrel
        have K := Lib.hid kk
        have HM := Lib.hid hmu
        obtain ⟨o1, o2⟩ := hmu.2.2.1
        have hlen2 := hmu.1
        clear kk hmu
        obtain ⟨f1, c10, c11⟩ := K.out.nm (.tail _ (.tail _ (.tail _ (.head _))))
        obtain ⟨f2, c20, c21⟩ := K.out.nm (.tail _ (.tail _ (.head _)))
        obtain ⟨p1, p2⟩ := G1.out i
        have X := kept_cell K.out HXC.out.1 HXC.out.2
        have f3 := K.out.roww (.head _)
        by_cases hk : k < b.length
        · have hroom := HM.out.room DA.out DB.out HI.out (.inl hk) rfl
          have Z := K.out.rowc (.head _) (i + k) (by omega)
          obtain ⟨r1, r2⟩ := getD_mem HM.out.2.1 (i + k)
          obtain ⟨y, rfl, hy, hyc⟩ := HB.out (by omega)
          have Y := kept_cell K.out hy (hyc k hk)
          obtain ⟨q1, q2⟩ := G2.out k
          have HST := Lib.hid (fun s e => HM.out.step DA.out DB.out hroom s e)
          have HYC := Lib.hid (And.intro hy (hyc k hk))
          clear hy hyc
          generalize out2.getD (i + k) 0 = z at *
          generalize a.getD i 0 = p at *
          generalize b.getD k 0 = q at *
          have pq0 : 0 ≤ p * q := Int.mul_nonneg p1 q1
          have pq1 : p * q ≤ 9 * 9 := Int.mul_le_mul p2 q2 q1 (by omega)
          go_wp2_with fail
          (refine region_quiet _ (by kernel_rfl) (by kernel_rfl) K.out.drew ?_; haveI ne := Keep.ne K)
          obtain ⟨e10, e11⟩ := Keep.anm K (.tail _ (.tail _ (.tail _ (.head _))))
          obtain ⟨e20, e21⟩ := Keep.anm K (.tail _ (.tail _ (.head _)))
          have ex : ∀ pp : At (Keep w [(gg, Obj.row out2), (w.heap.size + 1 + 1, Obj.num false (.slice none 0 0)), (w.heap.size + 1, Obj.num m (.slice (some ⟨y, 0, none⟩) b.length d)), (w.heap.size, Obj.num n (.slice (some ⟨x, 0, none⟩) a.length c))]), pp.w.cell? ⟨x, i, none⟩ = some (.int .i64 p) := fun pp => kept_cell (l := [(gg, Obj.row out2), (w.heap.size + 1 + 1, Obj.num false (.slice none 0 0)), (w.heap.size + 1, Obj.num m (.slice (some ⟨y, 0, none⟩) b.length d)), (w.heap.size, Obj.num n (.slice (some ⟨x, 0, none⟩) a.length c))]) pp.h HXC.out.1 HXC.out.2
          have ey : ∀ pp : At (Keep w [(gg, Obj.row out2), (w.heap.size + 1 + 1, Obj.num false (.slice none 0 0)), (w.heap.size + 1, Obj.num m (.slice (some ⟨y, 0, none⟩) b.length d)), (w.heap.size, Obj.num n (.slice (some ⟨x, 0, none⟩) a.length c))]), pp.w.cell? ⟨y, k, none⟩ = some (.int .i64 q) := fun pp => kept_cell (l := [(gg, Obj.row out2), (w.heap.size + 1 + 1, Obj.num false (.slice none 0 0)), (w.heap.size + 1, Obj.num m (.slice (some ⟨y, 0, none⟩) b.length d)), (w.heap.size, Obj.num n (.slice (some ⟨x, 0, none⟩) a.length c))]) pp.h HYC.out.1 HYC.out.2
          repeat (go_big_quiet_step (fail))
          (refine wpQuiet_nil ?_; clear ne K; intro W K; replace K := Lib.hid K)
          clear e10 e11 e20 e21 ex ey f1 c10 c11 f2 c20 c21 X Y Z f3
          have f3 := K.out.roww (.head _)
          have Z := K.out.rowc (.head _) (i + k) (by omega)
          go_wp2_with fail
          replace K := Lib.hid (K.out.setr_0 (i + k) ((z + o + p * q) % 10))
          have L2 := Lib.hid (HST.out (z + o + p * q) rfl)
          clear HST HM f3 Z
          go_roundg (gk - 1)
          case measure => omega
          case rel => exact ⟨k + 1, (z + o + p * q) / 10, _, by omega, congrArg (Value.int .i64) (by omega), rfl, L2.out, K.out⟩
        · by_cases ho2 : 0 < o
          · have hroom := HM.out.room DA.out DB.out HI.out (.inr ho2) rfl
            have Z := K.out.rowc (.head _) (i + k) (by omega)
            obtain ⟨r1, r2⟩ := getD_mem HM.out.2.1 (i + k)
            have HST := Lib.hid (fun s e => HM.out.step DA.out DB.out hroom s e)
            have HQ := Lib.hid (getD_out hk)
            rw [HQ.out] at HST
            generalize out2.getD (i + k) 0 = z at *
            go_wp2_with fail
            replace K := Lib.hid (K.out.setr_0 (i + k) ((z + o) % 10))
            have L2 := Lib.hid (HST.out (z + o) (by rw [Int.mul_zero, Int.add_zero]))
            clear HST HM f3 f1 c10 c11 f2 c20 c21 Z
            go_roundg (gk - 1)
            case measure => omega
            case rel => exact ⟨k + 1, (z + o) / 10, _, by omega, congrArg (Value.int .i64) (by omega), rfl, L2.out, K.out⟩
          · have ho3 : o = 0 := by omega
            rw [ho3] at HM
            have L2 := Lib.hid (HM.out.stop hk)
            clear HM
            go_wp2_with fail
            go_roundg (a.length - (i + 1))
            case measure => omega
            case rel => exact ⟨i + 1, out2, by omega, congrArg (Value.int .i64) (by omega), L2.out.1, L2.out.2.1, L2.out.2.2, K.out⟩
    · have hia : i = a.length := by omega
      have HV2 : Hid (val out = val a * val b) := by show _ = _; rw [HV.out, hia, List.take_length]
      have hdg : Dg wr (.slice (some ⟨gg, 0, none⟩) (a.length + b.length + 1) (a.length + b.length + 1)) out := by
        have := K.out.rowd (.head _) (c := a.length + b.length + 1) (by omega)
        rwa [ho] at this
      have HDG := Lib.hid hdg
      clear hdg
      go_wp2_with fail
      refine (mad_any (!n == m) _ out _ HDG.out HD.out (by omega)).mono ?_
      rintro e w2 ⟨q, t', b', rfl, hN, hv', hlen, hq, hb⟩
      obtain ⟨A', c', rfl, -⟩ := hN.1.len
      have HN := Lib.hid hN
      have HVV := Lib.hid hv'
      have HQ := Lib.hid hq
      replace K := Lib.hid (Keep.stays _ _ K.out hb)
      clear hb hN hv' hq f1 c10 c11 f2 c20 c21
      obtain ⟨f1, c10, c11⟩ := K.out.nm (.tail _ (.head _))
      go_wp2_with fail
      refine ret_nm Try.results88 rfl ((K.out.putn_1 q _).nb (.tail _ (.head _))) ?_
      refine ⟨q, _, b', rfl, HN.out.put (K.out.nm (.tail _ (.head _))).2.1 _ _, ?_, by omega, (K.out.putn_1 q _).B⟩
      have e1 := HQ.out
      have e2 := HVV.out
      rw [HV2.out] at e2
      by_cases hb0 : b' = []
      · have e3 : val a * val b = 0 := by rw [← e2, hb0]; rfl
        have e4 : q = false := by rw [e1, hb0]; simp
        rw [e4]
        show val b' = _
        rw [e2, e3]
        unfold zof
        cases n <;> cases m <;> simp [e3, Int.neg_mul, Int.mul_neg]
      · have e4 : q = (!n == m) := by rw [e1]; simp [hb0]
        rw [e4]
        unfold zof
        cases n <;> cases m <;> simp [e2, Int.neg_mul, Int.mul_neg]
end Go.Proofs.Ytehjfjdopeadfaa
