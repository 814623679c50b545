/- The texts Md, Me, Mf, Mg of the walk of the law and of all that it calls, in one file. No condition. -/
import Derived.Test.YtmidifgnpjlgcaaGreatY3
/- The walk of takes. -/
set_option linter.unusedVariables false
set_option linter.unusedSimpArgs false
namespace Go.Proofs.YtmidifgnpjlgcaaGreat
open Go.RowKit

/-- One part more. -/
theorem app1 {ops : Array Oper} {rest : List Oper} {o : Oper} {a : Act} {Q : Exit → Act → World → Prop} {w : World} (hgd : o.guard = none) (s x : Operand)
    (ho : o.op = .call { callee := .builtin .append, args := #[s, x], argTypes := #[28, 28] }) (base : Nat) (v : Value) (ds : List Int) (c : Int) (hs : a.eval s = v) (hown : Own w base v ds) (hx : a.eval x = .slice (some ⟨w.heap.size, 0, none⟩) 1 1)
    (hlen : ds.length ≤ 1000000) (hbase : base ≤ w.heap.size)
    (h : ∀ v' w', Own w' base v' (ds ++ [c]) → (∀ w0 l, Keep w0 l w → (∀ p ∈ l, p.1 < base) → w0.heap.size ≤ base → Keep w0 l w') → wpList Tryz.prog ops Q rest (a.put o.dst v') w') :
    wpList Tryz.prog ops Q (o :: rest) a (w.alloc (.cells #[.int .u32 c] 102)) := by
  obtain ⟨i0, hi, hx0⟩ := Option.map_eq_some_iff.1 info102
  simp only [Prod.mk.injEq] at hx0
  obtain ⟨hz0, hz1, hz2⟩ := hx0
  refine wpList_append_own _ hgd s x 28 ho base 102 i0 (.int .u32 0) 1 4 Tryz.underlying28 hi hz0 hz1 hz2 rfl (by decide) v ds.length _ hs (World.ownsRow.alloc hown _) ⟨w.heap.size, 0, none⟩ 1 1 [.int .u32 c] hx rfl (cell_one_new _ _ _) ?_ (by unfold maxLen; omega) (by omega) (by simp; omega) ?_
  · intro u hu
    simp only [List.mem_singleton] at hu
    rw [hu]; rfl
  · intro v' w' hown' hgrow _
    refine h v' w' ?_ fun w0 l K hl h0 => ?_
    · have e : (ds ++ [c]).map (Value.int .u32) = ds.map (Value.int .u32) ++ [.int .u32 c] := by simp
      unfold Own
      rw [e, List.length_append]
      exact hown'
    · have Ka := (K.alloc (.cells #[.int .u32 c] 102)).rest
      have hg : ∀ k, k < base → w'.heap[k]? = (w.alloc (.cells #[.int .u32 c] 102)).heap[k]? := fun k hk => hgrow.block k (by simp; omega) (fun e => by have := hown.base k e.symm; omega)
      refine ⟨fun p hp => ?_, Ka.own, Ka.one, ⟨hgrow.os.trans Ka.B.os, hgrow.tape.trans Ka.B.tape, hgrow.output.trans Ka.B.output, Nat.le_trans Ka.B.size hgrow.size, fun k hk => (hg k (by omega)).trans (Ka.B.block k hk)⟩⟩
      rw [hg p.1 (hl p hp)]
      exact Ka.box p hp

/-- Parts copied into a row from a place on. -/
theorem copy_at {w w0 : World} {p : Nat × Obj} {l : List (Nat × Obj)} {g o m cap : Nat} {R : List Int} {r : Value} {ds : List Int} (K : Keep w0 (p :: (g, Obj.row R) :: l) w) (hr : Dg w r ds) (hm : ds.length = m) (hfit : o + m ≤ R.length) :
    ∃ w', Sem.run Tryz.prog (Builtin.copy_ #[28, 28] 3 #[.slice (some ⟨g, o, none⟩) m cap, r]) w = .ok (.int .i64 ds.length) w' ∧ Keep w0 (p :: (g, Obj.row (R.take o ++ (ds ++ R.drop (o + m)))) :: l) w' := by
  have hg := K.box (g, Obj.row R) (by simp)
  by_cases h0 : ds.length = 0
  · obtain ⟨A, c, rfl, -⟩ := hr.len
    have e := List.length_eq_zero_iff.1 h0
    refine ⟨w, ?_, ?_⟩
    · have := run_copy_none (P := Tryz.prog) w 28 28 3 102 (some ⟨g, o, none⟩) A m cap ds.length c Tryz.underlying28 size102 (by rw [h0]; exact Nat.zero_min _)
      rw [this, h0]
      rfl
    · rw [e] at hm ⊢
      rw [← hm]
      simpa using K
  · rcases hr with ⟨rfl, h3⟩ | ⟨b, sc, rfl, hc, hlt, hcell⟩
    · rw [h3] at h0; simp at h0
    · have hrun := run_copy_row (P := Tryz.prog) w 28 28 3 102 g o m cap ⟨b, 0, none⟩ ds.length sc (R.map (Value.int .u32)).toArray 102 (ds.map (Value.int .u32)) Tryz.underlying28 size102 hg (by rw [List.length_map]; exact (Nat.min_eq_left (by omega)).symm) (fun j v hv => by
        have hj : j < ds.length := by
          apply Classical.byContradiction
          intro hn
          rw [List.getElem?_eq_none (by simp; omega)] at hv
          cases hv
        have e : ((⟨b, 0, none⟩ : Addr).add j) = ⟨b, j, none⟩ := by unfold Addr.add; split <;> simp_all
        rw [e, hcell j hj]
        rw [List.getElem?_map, List.getElem?_eq_getElem hj] at hv
        simpa [hj] using hv) (by simp; omega) (fun v hv => by obtain ⟨z, _, rfl⟩ := List.mem_map.1 hv; rfl)
      refine ⟨_, hrun.trans (by rw [List.length_map]; rfl), ?_⟩
      refine Keep.turn (l1 := [p]) K (below_setRow (Below.refl g w) (Nat.le_refl g) _) ?_ (fun k hk => setRow_other w g k _ hk)
      rw [setRow_heap w g _ _ 102 _ hg]
      unfold Obj.row
      simp [hm, List.map_take, List.map_drop]
theorem digits_drop {ds : List Int} (h : digits ds) (k : Nat) : digits (ds.drop k) := fun d hd => h d (List.mem_of_mem_drop hd)
theorem digits_app {a b : List Int} (ha : digits a) (hb : digits b) : digits (a ++ b) := by
  intro x hx
  rcases List.mem_append.1 hx with hx | hx
  · exact ha x hx
  · exact hb x hx
theorem getD_part (R : List Int) (o m j : Nat) (hj : j < m) (hm : o + m ≤ R.length) : ((R.drop o).take m).getD j 0 = R.getD (o + j) 0 := by
  rw [List.getD_eq_getElem?_getD, List.getElem?_take_of_lt hj, List.getElem?_drop, ← List.getD_eq_getElem?_getD]

set_option maxHeartbeats 8000000 in
set_option maxRecDepth 100000 in
theorem takes_any (w0 : World) (l : List (Nat × Obj)) (g o m cap : Nat) (R : List Int) (t : Value) (b : List Int) (many : Int) (w : World) (hK : Keep w0 ((g, Obj.row R) :: l) w) (dR : digits R) (hoR : o + m ≤ R.length) (hm : m = b.length + 1) (hcap : m ≤ cap)
    (h2 : Dg w t b) (db : digits b) (l2 : b.length ≤ 900000) (m0 : 0 ≤ many) (m1 : many < 4294967296) :
    Calls Tryz.prog 121 #[.slice (some ⟨g, o, none⟩) m cap, t, .int .u32 many] w fun e w' => ∃ r R', e = .returned (.bool r) ∧ R'.length = R.length ∧ digits R' ∧ Keep w0 ((g, Obj.row R') :: l) w' ∧ (r = true → R' = R ∧ val ((R.drop o).take (b.length + 1)) < val b * many) ∧ (r = false → ∃ o5, R' = R.take o ++ (o5 ++ R.drop (o + (b.length + 1))) ∧ o5.length = b.length + 1 ∧ digits o5 ∧ val o5 = val ((R.drop o).take (b.length + 1)) - val b * many ∧ val b * many ≤ val ((R.drop o).take (b.length + 1))) := by
  subst hm
  have K0 := Lib.hid hK
  have K := Lib.hid hK
  have H2 := Lib.hid h2
  have DR := Lib.hid dR
  have DB := Lib.hid db
  have HCP := Lib.hid hcap
  clear hcap
  have HS := Lib.hid (Ti.start (many := many) db)
  clear hK h2 dR db
  go_enter Tryz.func121, Tryz.ntmps121
  go_wp2_with fail
  refine (clone_any t b _ H2.out.da (by omega)).mono ?_
  rintro e w2 ⟨v, rfl, hown, hb⟩
  replace K := Lib.hid (Keep.stays _ _ K.out hb)
  have HO := Lib.hid hown
  have HBZ := Lib.hid hb.size
  clear hown hb
  go_wp2_with (at_builtin; refine app1 rfl (.tmp 12) (.tmp 13) rfl w.heap.size v b 0 rfl HO.out rfl (by omega) HBZ.out ?_; intro v' w' hown' hkeep')
  have K2 := hkeep' _ _ K.out (fun p hp => K0.out.lt hp) K0.out.B.size
  rcases hown'.row with ⟨rfl, hnil⟩ | ⟨gl, cl, rest, rfl, hgl, hcl, hrow⟩
  · simp at hnil
  · replace K := Lib.hid (Keep.held K0.out K2 hrow hgl)
    clear hown' hkeep' K2 hrow HO
    have hbl : (b ++ [0]).length = b.length + 1 := by simp
    rw [hbl] at hcl
    rw [hbl]
    have HBL := Lib.hid hbl
    have HCL := Lib.hid hcl
    clear hbl hcl hgl
    go_wp2_with fail
    go_simp
    go_wp2_with fail
    go_loopg [8, 17] (b.length + 1) (fun gk ov iv wr => ∃ (i : Nat) (ov' : Int) (out : List Int), gk + i = b.length + 1 ∧ iv = .int .i64 (i : Int) ∧ ov = .int .u64 ov' ∧ out.length = b.length + 1 ∧ Ti b many i ov' out ∧ Keep w0 ((gl, Obj.rowt out rest) :: (g, Obj.row R) :: l) wr)
    case atStart => exact ⟨0, 0, _, by omega, rfl, rfl, HBL.out, HS.out, K.out⟩
    case round =>
      clear K HS
      obtain ⟨i, ov', out, hgi, rfl, rfl, ho, ht, k⟩ := hrel
      have K := Lib.hid k
      have HO := Lib.hid ho
      have HT := Lib.hid ht
      obtain ⟨o1, o2⟩ := ht.2.1
      clear k ho ht
      by_cases hi : i < b.length + 1
      · have hio : Hid (i < out.length) := by show _ < _; rw [HO.out]; omega
        have Z := K.out.rtc (.head _) i hio.out
        have f5 := K.out.rtw (.head _)
        obtain ⟨z0, z1⟩ := getD_mem HT.out.1 i
        have HST := Lib.hid (fun s hs e => HT.out.step hio.out s hs e)
        clear HT
        generalize out.getD i 0 = z at *
        obtain ⟨r1, r2⟩ := part_bound ⟨z0, z1⟩ ⟨m0, m1⟩
        have L2 := Lib.hid (HST.out (ov' + z * many) (by omega) rfl)
        clear HST
        go_wp2_with fail
        replace K := Lib.hid (K.out.setrt [] i hio.out ((ov' + z * many) % 4294967296))
        clear Z f5
        go_roundg (gk - 1)
        case measure => omega
        case rel => exact ⟨i + 1, _, _, by omega, congrArg (Value.int .i64) (by omega), rfl, by rw [List.length_set]; exact HO.out, L2.out, K.out⟩
      · have HV := Lib.hid (((show i = b.length + 1 by omega) ▸ HT.out : Ti b many (b.length + 1) ov' out).done DB.out m0 m1)
        have HD := Lib.hid HT.out.1
        have HEND : Hid (out.length = ((R.drop o).take (b.length + 1)).length ∧ digits ((R.drop o).take (b.length + 1))) := ⟨by rw [HO.out, List.length_take, List.length_drop]; omega, digits_take (digits_drop DR.out o) _⟩
        clear HT o1 o2
        go_wp2_with fail
        go_loopg [10] (b.length + 1) (fun g2 iv wr2 => iv = .int .i64 ((g2 : Int) - 1) ∧ g2 ≤ b.length + 1 ∧ (∀ j, g2 ≤ j → j < out.length → out.getD j 0 = ((R.drop o).take (b.length + 1)).getD j 0) ∧ Keep w0 ((gl, Obj.rowt out rest) :: (g, Obj.row R) :: l) wr2)
        case atStart => exact ⟨congrArg (Value.int .i64) (by omega), Nat.le_refl _, fun j h1 h2 => absurd h2 (by rw [HO.out]; omega), K.out⟩
        case round =>
          clear K hi hgi
          obtain ⟨rfl, hg2, heq, k⟩ := hrel
          have K := Lib.hid k
          have HEQ := Lib.hid heq
          clear k heq
          cases gk with
          | zero =>
            have HLE := Lib.hid (Int.le_of_eq (all_eq HEND.out.1 HEQ.out))
            go_wp2_with fail
            (refine region_quiet _ (by kernel_rfl) (by kernel_rfl) K.out.drew ?_; haveI ne := Keep.ne K)
            repeat (go_big_quiet_step (fail))
            (refine wpQuiet_nil ?_; clear ne K; intro W K; replace K := Lib.hid K)
            (have HA := Lib.hid (show Da _ (.slice (some ⟨g, o, none⟩) (b.length + 1) cap) ((R.drop o).take (b.length + 1)) from .inr ⟨g, o, cap, by rw [List.length_take, List.length_drop, Nat.min_eq_left (by omega)], by rw [List.length_take, List.length_drop, Nat.min_eq_left (by omega)]; exact HCP.out, K.out.lt (.tail _ (.head _)), fun j hj => by rw [List.length_take, List.length_drop, Nat.min_eq_left (by omega)] at hj; rw [getD_part R o (b.length + 1) j hj (by omega)]; exact K.out.rowc (.tail _ (.head _)) (o + j) (by omega)⟩); have HG := Lib.hid (K.out.rtd (.head _) (c := cl) (by rw [HO.out]; exact HCL.out)); rw [HO.out] at HG; go_wp2_with fail; refine (less_any _ _ ((R.drop o).take (b.length + 1)) out _ HA.out HG.out (digits_take (digits_drop DR.out o) _) HD.out (by rw [List.length_take]; omega) (by rw [HO.out]; omega)).mono ?_; rintro e w5 ⟨v5, o5, rfl, hd5, hg5, hl5, hv5, hb⟩; replace K := Lib.hid (Keep.stays _ _ K.out hb); have HV5 := Lib.hid (And.intro hg5 (hv5 (by rw [HO.out, List.length_take, List.length_drop]; omega) HLE.out)); clear hv5; have hl6 : o5.length = b.length + 1 := (by rw [hl5, List.length_take, List.length_drop]; omega); obtain ⟨A5, c5, rfl, -⟩ := hd5.len; obtain ⟨w6, hcp, k6⟩ := copy_at (cap := cap) K.out hd5 hl6 (by omega); have HR := Lib.hid (digits_app (digits_take DR.out o) (digits_app hg5 (digits_drop DR.out (o + (b.length + 1))))); have HLR : Hid ((R.take o ++ (o5 ++ R.drop (o + (b.length + 1)))).length = R.length) := (by show _ = _; simp [hl6]; omega); rw [hl6] at hcp ⊢; replace K := Lib.hid k6.rest; have HL6 := Lib.hid hl6; clear hb hd5 hg5 hl5 hl6 k6 HA HG; go_wp2_with fail; go_ret; exact ⟨false, _, rfl, HLR.out, HR.out, K.out, (fun h => by cases h), fun _ => ⟨o5, rfl, HL6.out, HV5.out.1, by rw [← HV.out.2]; exact HV5.out.2, by rw [← HV.out.2]; exact HLE.out⟩⟩)
          | succ i2 =>
            have hi2 : Hid (i2 < out.length) := by show _ < _; rw [HO.out]; omega
            have cp : ∀ p : At (Keep w0 ((gl, Obj.rowt out rest) :: (g, Obj.row R) :: l)), _ := fun p => p.h.rowc (.tail _ (.head _)) (o + i2) (by omega)
            have cq : ∀ p : At (Keep w0 ((gl, Obj.rowt out rest) :: (g, Obj.row R) :: l)), _ := fun p => p.h.rtc (.head _) i2 hi2.out
            obtain ⟨y0, y1⟩ := getD_mem DR.out (o + i2)
            obtain ⟨z0, z1⟩ := getD_mem HD.out i2
            have HY := Lib.hid (getD_part R o (b.length + 1) i2 (by omega) hoR)
            have HZ : Hid (out.getD i2 0 = out.getD i2 0) := rfl
            generalize hyy : R.getD (o + i2) 0 = y at *
            generalize hzz : out.getD i2 0 = z at HZ cq z0 z1
            have HYY := Lib.hid hyy
            have HZZ := Lib.hid hzz
            clear hyy hzz
            by_cases c1 : y ≤ z
            · by_cases c2 : y < z
              · go_wp2_with fail
                (refine region_quiet _ (by kernel_rfl) (by kernel_rfl) K.out.drew ?_; haveI ne := Keep.ne K)
                repeat (go_big_quiet_step (fail))
                (refine wpQuiet_nil ?_; clear ne K; intro W K; replace K := Lib.hid K)
                go_wp2_with fail
                (refine region_quiet _ (by kernel_rfl) (by kernel_rfl) K.out.drew ?_; haveI ne := Keep.ne K)
                repeat (go_big_quiet_step (fail))
                (refine wpQuiet_nil ?_; clear ne K; intro W K; replace K := Lib.hid K)
                clear cp cq
                go_wp2_with fail
                go_ret
                exact ⟨true, R, rfl, rfl, DR.out, K.out.rest, fun _ => ⟨rfl, by rw [← HV.out.2]; exact top_lt HEND.out.1.symm HEND.out.2 HV.out.1 (by rw [← HEND.out.1]; exact hi2.out) (by rw [HY.out, HZZ.out]; exact c2) (fun j h1 h2 => (HEQ.out j h1 (by rw [HEND.out.1]; exact h2)).symm)⟩, fun h => by cases h⟩
              · go_wp2_with fail
                (refine region_quiet _ (by kernel_rfl) (by kernel_rfl) K.out.drew ?_; haveI ne := Keep.ne K)
                repeat (go_big_quiet_step (fail))
                (refine wpQuiet_nil ?_; clear ne K; intro W K; replace K := Lib.hid K)
                go_wp2_with fail
                (refine region_quiet _ (by kernel_rfl) (by kernel_rfl) K.out.drew ?_; haveI ne := Keep.ne K)
                repeat (go_big_quiet_step (fail))
                (refine wpQuiet_nil ?_; clear ne K; intro W K; replace K := Lib.hid K)
                clear cp cq
                go_wp2_with fail
                go_roundg i2
                case measure => omega
                case rel =>
                  refine ⟨congrArg (Value.int .i64) (by omega), by omega, fun j h1 h2 => ?_, K.out⟩
                  by_cases e : j = i2
                  · rw [e, HZZ.out, HY.out]; omega
                  · exact HEQ.out j (by omega) h2
            · have HLE := Lib.hid (Int.le_of_lt (top_lt HEND.out.1 HV.out.1 HEND.out.2 hi2.out (by rw [HY.out, HZZ.out]; omega) HEQ.out))
              go_wp2_with fail
              (refine region_quiet _ (by kernel_rfl) (by kernel_rfl) K.out.drew ?_; haveI ne := Keep.ne K)
              repeat (go_big_quiet_step (fail))
              (refine wpQuiet_nil ?_; clear ne K; intro W K; replace K := Lib.hid K)
              clear cp cq
              (have HA := Lib.hid (show Da _ (.slice (some ⟨g, o, none⟩) (b.length + 1) cap) ((R.drop o).take (b.length + 1)) from .inr ⟨g, o, cap, by rw [List.length_take, List.length_drop, Nat.min_eq_left (by omega)], by rw [List.length_take, List.length_drop, Nat.min_eq_left (by omega)]; exact HCP.out, K.out.lt (.tail _ (.head _)), fun j hj => by rw [List.length_take, List.length_drop, Nat.min_eq_left (by omega)] at hj; rw [getD_part R o (b.length + 1) j hj (by omega)]; exact K.out.rowc (.tail _ (.head _)) (o + j) (by omega)⟩); have HG := Lib.hid (K.out.rtd (.head _) (c := cl) (by rw [HO.out]; exact HCL.out)); rw [HO.out] at HG; go_wp2_with fail; refine (less_any _ _ ((R.drop o).take (b.length + 1)) out _ HA.out HG.out (digits_take (digits_drop DR.out o) _) HD.out (by rw [List.length_take]; omega) (by rw [HO.out]; omega)).mono ?_; rintro e w5 ⟨v5, o5, rfl, hd5, hg5, hl5, hv5, hb⟩; replace K := Lib.hid (Keep.stays _ _ K.out hb); have HV5 := Lib.hid (And.intro hg5 (hv5 (by rw [HO.out, List.length_take, List.length_drop]; omega) HLE.out)); clear hv5; have hl6 : o5.length = b.length + 1 := (by rw [hl5, List.length_take, List.length_drop]; omega); obtain ⟨A5, c5, rfl, -⟩ := hd5.len; obtain ⟨w6, hcp, k6⟩ := copy_at (cap := cap) K.out hd5 hl6 (by omega); have HR := Lib.hid (digits_app (digits_take DR.out o) (digits_app hg5 (digits_drop DR.out (o + (b.length + 1))))); have HLR : Hid ((R.take o ++ (o5 ++ R.drop (o + (b.length + 1)))).length = R.length) := (by show _ = _; simp [hl6]; omega); rw [hl6] at hcp ⊢; replace K := Lib.hid k6.rest; have HL6 := Lib.hid hl6; clear hb hd5 hg5 hl5 hl6 k6 HA HG; go_wp2_with fail; go_ret; exact ⟨false, _, rfl, HLR.out, HR.out, K.out, (fun h => by cases h), fun _ => ⟨o5, rfl, HL6.out, HV5.out.1, by rw [← HV.out.2]; exact HV5.out.2, by rw [← HV.out.2]; exact HLE.out⟩⟩)
end Go.Proofs.YtmidifgnpjlgcaaGreat
/- The walk of long: division of parts. -/
set_option linter.unusedVariables false
set_option linter.unusedSimpArgs false
namespace Go.Proofs.YtmidifgnpjlgcaaGreat
open Go.RowKit

theorem Keep.swap {w0 w : World} {p q : Nat × Obj} {l : List (Nat × Obj)} (K : Keep w0 (p :: q :: l) w) : Keep w0 (q :: p :: l) w := by
  refine ⟨fun x hx => K.box x ?_, fun x hx => K.own x ?_, ?_, K.B⟩
  · simp only [List.mem_cons] at hx ⊢
    rcases hx with h | h | h <;> simp [h]
  · simp only [List.mem_cons] at hx ⊢
    rcases hx with h | h | h <;> simp [h]
  · have := K.one
    simp only [List.map_cons, List.nodup_cons, List.mem_cons, not_or] at this ⊢
    exact ⟨⟨Ne.symm this.1.1, this.2.1⟩, this.1.2, this.2.2⟩
theorem takes_of (w0 : World) (l : List (Nat × Obj)) (g o m cap : Nat) (R : List Int) (t : Value) (b : List Int) (n : Nat) (many : Int) (w : World) (hn : b.length = n) (hK : Keep w0 ((g, Obj.row R) :: l) w) (dR : digits R) (hoR : o + m ≤ R.length) (hm : m = n + 1) (hcap : m ≤ cap)
    (h2 : Dg w t b) (db : digits b) (l2 : n ≤ 900000) (m0 : 0 ≤ many) (m1 : many < 4294967296) :
    Calls Tryz.prog 121 #[.slice (some ⟨g, o, none⟩) m cap, t, .int .u32 many] w fun e w' => ∃ r R', e = .returned (.bool r) ∧ R'.length = R.length ∧ digits R' ∧ Keep w0 ((g, Obj.row R') :: l) w' ∧ (r = true → R' = R ∧ val ((R.drop o).take (n + 1)) < val b * many) ∧ (r = false → ∃ o5, R' = R.take o ++ (o5 ++ R.drop (o + (n + 1))) ∧ o5.length = n + 1 ∧ digits o5 ∧ val o5 = val ((R.drop o).take (n + 1)) - val b * many ∧ val b * many ≤ val ((R.drop o).take (n + 1))) := by
  subst hn
  exact takes_any w0 l g o m cap R t b many w hK dR hoR hm hcap h2 db l2 m0 m1
theorem win_val {R : List Int} {i n : Nat} (hl : i + n < R.length) (hz : val (R.drop (i + n + 1)) = 0) : val ((R.drop i).take (n + 1)) = val (R.drop i) := by
  have := val_split (R.drop i) (n + 1) (by rw [List.length_drop]; omega)
  rw [List.drop_drop, show i + (n + 1) = i + n + 1 by omega, hz, Int.mul_zero, Int.add_zero] at this
  exact this.symm
theorem take_big {Bs : List Int} {n : Nat} (dB : digits Bs) (n0 : 0 < n) (hn : n ≤ Bs.length) : Bs.getD (n - 1) 0 * pb (n - 1) ≤ val (Bs.take n) ∧ val (Bs.take n) < pb n := by
  have e := val_take_succ' Bs (n - 1)
  rw [show n - 1 + 1 = n by omega, Int.mul_comm (pb (n - 1))] at e
  have b1 := val_bounds _ (digits_take dB (n - 1))
  have b2 := val_bounds _ (digits_take dB n)
  rw [List.length_take, Nat.min_eq_left hn] at b2
  omega
theorem min_range (x : Int) : 0 ≤ min (IntKind.u64.wrap x) 4294967295 ∧ min (IntKind.u64.wrap x) 4294967295 < 4294967296 := by
  rw [IntKind.wrap_u64]; omega

set_option maxHeartbeats 8000000 in
set_option maxRecDepth 100000 in
theorem long_any (w0 : World) (l : List (Nat × Obj)) (g cap : Nat) (R : List Int) (gb n cb : Nat) (Bs : List Int) (w : World) (hK : Keep w0 ((g, Obj.row R) :: l) w) (dR : digits R) (hB : (gb, Obj.row Bs) ∈ l) (dB : digits Bs) (n0 : 0 < n) (hnB : n ≤ Bs.length) (hnc : n ≤ cb)
    (hlast : Bs.getD (n - 1) 0 ≠ 0) (lR : R.length ≤ 900000) (lB : Bs.length ≤ 900000) (hnR : n ≤ R.length) (hcap : R.length ≤ cap) (hst : val (R.drop (R.length - n)) < val (Bs.take n)) :
    Calls Tryz.prog 119 #[.slice (some ⟨g, 0, none⟩) R.length cap, .slice (some ⟨gb, 0, none⟩) n cb] w fun e w' => ∃ v q R', e = .returned v ∧ Dg w' v q ∧ Lg (val R) (val (Bs.take n)) R.length n 0 q R' ∧ Keep w0 ((g, Obj.row R') :: l) w' := by
  have K := Lib.hid hK
  have DR := Lib.hid dR
  have DB := Lib.hid dB
  have HB := Lib.hid hB
  have HL := Lib.hid hlast
  have HLB := Lib.hid (getD_mem dB (n - 1))
  have HRL := Lib.hid (show R.length = R.length from rfl)
  have HST := Lib.hid hst
  have HTB := Lib.hid (take_big dB n0 hnB)
  clear hK dR hB dB hlast hst
  have hmk := mk_row (R.length - n) (by omega) (max 0 ((R.length : Int) - (n : Int))) (by omega)
  have hsz := Lib.hid K.out.B.size
  go_enter Tryz.func119, Tryz.ntmps119
  go_upto_region 3 with fail
  clear hmk
  replace K := Lib.hid (K.out.alloc (Obj.row (List.replicate (R.length - n) 0)))
  generalize w.heap.size = gq at *
  (refine out_keep K.out ?_; clear K; intro W K; replace K := Lib.hid K)
  go_wp2_with fail
  go_loopg [7] (R.length - n) (fun gk iv wr => ∃ (z : Int) (q R' : List Int), iv = .int .i64 z ∧ z = (gk : Int) - 1 ∧ gk ≤ R.length - n ∧ Lg (val R) (val (Bs.take n)) R.length n gk q R' ∧ Keep w0 ((gq, Obj.row q) :: (g, Obj.row R') :: l) wr)
  case atStart => exact ⟨_, _, R, rfl, by omega, Nat.le_refl _, ⟨by simp, digits_zero _, rfl, DR.out, by simp [val], HST.out⟩, K.out⟩
  case round =>
    clear K
    obtain ⟨z, q, R', rfl, hz, hg, hlg, k⟩ := hrel
    have K := Lib.hid k
    have HQ := Lib.hid hlg
    clear k hlg
    cases gk with
    | zero =>
      obtain rfl : z = -1 := by omega
      clear hz
      have HG := Lib.hid (K.out.rowd (.head _) (c := R.length - n) (by rw [HQ.out.1]; omega))
      rw [HQ.out.1] at HG
      go_wp2_with fail
      go_ret
      exact ⟨_, q, R', rfl, HG.out, HQ.out, K.out.rest⟩
    | succ i =>
      obtain rfl : z = (i : Int) := by omega
      clear hz
      have c1 : ∀ p : At (Keep w0 ((gq, Obj.row q) :: (g, Obj.row R') :: l)), _ := fun p => p.h.rowc (.tail _ (.head _)) (i + n) (by rw [HQ.out.2.2.1]; omega)
      have c2 : ∀ p : At (Keep w0 ((gq, Obj.row q) :: (g, Obj.row R') :: l)), _ := fun p => p.h.rowc (.tail _ (.head _)) (i + n - 1) (by rw [HQ.out.2.2.1]; omega)
      obtain ⟨x0, x1⟩ := getD_mem HQ.out.2.2.2.1 (i + n)
      obtain ⟨y0, y1⟩ := getD_mem HQ.out.2.2.2.1 (i + n - 1)
      have HZ := Lib.hid (high_zero HQ.out.2.2.2.1 HQ.out.2.2.2.2.2 HTB.out.2 (by rw [HQ.out.2.2.1]; omega))
      have HWV := Lib.hid (win_val (by rw [HQ.out.2.2.1]; omega) HZ.out)
      have HGU := Lib.hid (fun bp => guess_ok HQ.out.2.2.2.1 (by rw [HQ.out.2.2.1]; omega) n0 HTB.out.1 HTB.out.2 bp HQ.out.2.2.2.2.2)
      generalize R'.getD (i + n) 0 = x at *
      generalize R'.getD (i + n - 1) 0 = y at *
      go_wp2_with fail
      (refine region_quiet _ (by kernel_rfl) (by kernel_rfl) K.out.drew ?_; haveI ne := Keep.ne K)
      repeat (go_big_quiet_step (fail))
      (refine wpQuiet_nil ?_; clear ne K; intro W K; replace K := Lib.hid K)
      clear c1 c2
      have d1 := K.out.rowc (.tail _ (.tail _ HB.out)) (n - 1) (by omega)
      have hl := HL.out
      obtain ⟨b0, b1⟩ := HLB.out
      generalize Bs.getD (n - 1) 0 = bl at *
      have bp : 0 < bl := by omega
      clear hl b0
      replace HGU := Lib.hid (HGU.out bp)
      go_wp2_with fail
      clear d1
      go_loopg [9] (min (IntKind.u64.wrap ((bits BinOp.or IntKind.u64 (x * 4294967296) y).tdiv bl)) 4294967295).toNat (fun g2 gv wr2 => ∃ (G : Int), gv = .int .u64 G ∧ G = (g2 : Int) ∧ G < 4294967296 ∧ val (R'.drop i) < (G + 1) * val (Bs.take n) ∧ Keep w0 ((gq, Obj.row q) :: (g, Obj.row R') :: l) wr2)
      case atStart =>
        have := min_range ((bits BinOp.or IntKind.u64 (x * 4294967296) y).tdiv bl)
        exact ⟨_, rfl, by omega, this.2, HGU.out, K.out⟩
      case round =>
        clear K
        obtain ⟨G, rfl, hG, hG2, hlt, k⟩ := hrel
        have K := Lib.hid k
        have H2 := Lib.hid hlt
        clear k hlt
        have hG0 : 0 ≤ G := by omega
        go_wp2_with fail
        have HBT := Lib.hid (show Dg wr (.slice (some ⟨gb, 0, none⟩) n cb) (Bs.take n) from .inr ⟨gb, cb, by rw [List.length_take, Nat.min_eq_left hnB], by rw [List.length_take, Nat.min_eq_left hnB]; exact hnc, K.out.lt (.tail _ (.tail _ HB.out)), fun j hj => by rw [List.length_take, Nat.min_eq_left hnB] at hj; rw [getD_take hj]; exact K.out.rowc (.tail _ (.tail _ HB.out)) j (by omega)⟩)
        refine (takes_of w0 ((gq, Obj.row q) :: l) g i (i + n + 1 - i) (cap - i) R' _ (Bs.take n) n (gk : Int) wr (by rw [List.length_take, Nat.min_eq_left hnB]) K.out.swap HQ.out.2.2.2.1 (by rw [HQ.out.2.2.1]; omega) (by omega) (by omega) HBT.out (digits_take DB.out n) (by omega) (by omega) (by omega)).mono ?_
        rintro e w5 ⟨r, R3, rfl, -, -, k3, ht, hf⟩
        replace K := Lib.hid k3.swap
        have HT := Lib.hid ht
        have HF := Lib.hid hf
        clear k3 ht hf HBT
        cases r with
        | true =>
          obtain ⟨rfl, hvl⟩ := HT.out rfl
          have HVL := Lib.hid (Int.lt_of_le_of_lt (Int.le_of_eq HWV.out.symm) hvl)
          have hgk : 0 < gk := by
            apply Classical.byContradiction
            intro h
            rw [show (gk : Int) = 0 by omega, Int.mul_zero] at hvl
            have := (val_bounds _ (digits_take (digits_drop' HQ.out.2.2.2.1 i) (n + 1))).1
            omega
          clear hvl HT HF
          go_wp2_with fail
          go_roundg (gk - 1)
          case measure => omega
          case rel => exact ⟨_, rfl, by omega, by omega, by rw [show (gk : Int) - 1 + 1 = gk by omega, Int.mul_comm]; exact HVL.out, K.out⟩
        | false =>
          obtain ⟨o5, rfl, l5, d5, v5, hle⟩ := HF.out rfl
          have HV5 := Lib.hid (And.intro l5 (And.intro d5 (And.intro v5 hle)))
          clear HT HF l5 d5 v5 hle
          have hiq : Hid (i < q.length) := by show _ < _; rw [HQ.out.1]; omega
          have Z := K.out.rowc (.head _) i hiq.out
          have f5 := K.out.roww (.head _)
          generalize q.getD i 0 = zq at *
          go_wp2_with fail
          replace K := Lib.hid (K.out.setr_0 i (gk : Int))
          clear Z f5
          go_roundg i
          case measure => omega
          case rel => exact ⟨_, _, _, rfl, by omega, by omega, HQ.out.step (by omega) (by omega) (by omega) HQ.out.2.2.2.1 HV5.out.1 HV5.out.2.1 (by rw [HV5.out.2.2.1, Int.mul_comm]) (by rw [← hG]; exact H2.out) HZ.out, K.out⟩
end Go.Proofs.YtmidifgnpjlgcaaGreat
/- The walk of parted: quotient and rest of parts. -/
set_option linter.unusedVariables false
set_option linter.unusedSimpArgs false
namespace Go.Proofs.YtmidifgnpjlgcaaGreat
open Go.RowKit

theorem field_num (n : Bool) (v : Value) : ∀ w : World, Sem.run Tryz.prog (Instr.field 30 (.agg #[.bool n, v]) 1) w = .ok v w := fun _ => by kernel_rfl

theorem long_of (w0 : World) (l : List (Nat × Obj)) (g cap m : Nat) (R : List Int) (gb n cb : Nat) (Bs : List Int) (w : World) (hm : R.length = m) (hK : Keep w0 ((g, Obj.row R) :: l) w) (dR : digits R) (hB : (gb, Obj.row Bs) ∈ l) (dB : digits Bs) (n0 : 0 < n) (hnB : n ≤ Bs.length) (hnc : n ≤ cb)
    (hlast : Bs.getD (n - 1) 0 ≠ 0) (lR : m ≤ 900000) (lB : Bs.length ≤ 900000) (hnR : n ≤ m) (hcap : m ≤ cap) (hst : val (R.drop (m - n)) < val (Bs.take n)) :
    Calls Tryz.prog 119 #[.slice (some ⟨g, 0, none⟩) m cap, .slice (some ⟨gb, 0, none⟩) n cb] w fun e w' => ∃ v q R', e = .returned v ∧ Dg w' v q ∧ Lg (val R) (val (Bs.take n)) m n 0 q R' ∧ Keep w0 ((g, Obj.row R') :: l) w' := by
  subst hm
  exact long_any w0 l g cap R gb n cb Bs w hK dR hB dB n0 hnB hnc hlast lR lB hnR hcap hst

theorem shift_fit {b : List Int} (db : digits b) (hne : 0 < b.length) {n : Nat} (hn : n ≤ 31) (h : b.getD (b.length - 1) 0 * 2 ^ n < 4294967296) : val b * 2 ^ n < pb b.length := by
  have e := val_take_succ' b (b.length - 1)
  rw [show b.length - 1 + 1 = b.length by omega, List.take_length] at e
  have b1 := val_bounds _ (digits_take db (b.length - 1))
  rw [List.length_take, Nat.min_eq_left (by omega)] at b1
  have e32 : (4294967296 : Int) = 2 ^ (32 - n) * 2 ^ n := by rw [← Int.pow_add, show 32 - n + n = 32 by omega]; decide
  have n0 := pow_pos2 n
  rw [e32] at h
  have hM := Int.lt_of_mul_lt_mul_right h (by omega)
  have p0 := pb_pos (b.length - 1)
  have k1 : val b < pb (b.length - 1) * 2 ^ (32 - n) := by
    have := Int.mul_le_mul_of_nonneg_left (show b.getD (b.length - 1) 0 + 1 ≤ 2 ^ (32 - n) by omega) (show 0 ≤ pb (b.length - 1) by omega)
    rw [Int.mul_add, Int.mul_one] at this
    omega
  have k2 := Int.mul_lt_mul_of_pos_right k1 n0
  rw [Int.mul_assoc, ← e32] at k2
  have e5 : pb b.length = 4294967296 * pb (b.length - 1) := by
    obtain ⟨k, hk⟩ : ∃ k, b.length = k + 1 := ⟨b.length - 1, by omega⟩
    rw [hk]; rfl
  omega
theorem shift_low {b sb : List Int} {n : Nat} (ds : digits sb) (ls : sb.length = b.length + 1) (hv : val sb = val b * 2 ^ n) (hf : val b * 2 ^ n < pb b.length) : val (sb.take b.length) = val b * 2 ^ n := by
  have e := val_take_succ' sb b.length
  rw [← ls, List.take_length] at e
  have b1 := val_bounds _ (digits_take ds b.length)
  obtain ⟨t0, t1⟩ := getD_mem ds b.length
  by_cases h0 : sb.getD b.length 0 = 0
  · rw [h0, Int.mul_zero, Int.add_zero] at e
    omega
  · have := Int.mul_le_mul_of_nonneg_left (show 1 ≤ sb.getD b.length 0 by omega) (show 0 ≤ pb b.length by have := pb_pos b.length; omega)
    omega
theorem shift_last {b sb : List Int} {n : Nat} (db : digits b) (cb : canon b) (hne : b ≠ []) (ds : digits sb) (ls : sb.length = b.length + 1) (hv : val (sb.take b.length) = val b * 2 ^ n) : sb.getD (b.length - 1) 0 ≠ 0 := by
  intro h
  have hl : 0 < b.length := List.length_pos_iff.2 hne
  have e := val_take_succ' sb (b.length - 1)
  rw [show b.length - 1 + 1 = b.length by omega, h, Int.mul_zero, Int.add_zero] at e
  have b1 := val_bounds _ (digits_take ds (b.length - 1))
  rw [List.length_take, Nat.min_eq_left (by omega)] at b1
  have k := val_canon db cb hne
  have n0 := pow_pos2 n
  have := Int.mul_le_mul_of_nonneg_left (show (1 : Int) ≤ 2 ^ n by omega) (show 0 ≤ val b by have := val_bounds _ db; omega)
  omega
theorem shift_top {a b up : List Int} {n : Nat} (db : digits b) (cb : canon b) (hne : b ≠ []) (hab : b.length ≤ a.length) (du : digits up) (lu : up.length = a.length + 1) (ht : up.getD a.length 0 < 2 ^ n) : val (up.drop (a.length + 1 - b.length)) < val b * 2 ^ n := by
  have hl : 0 < b.length := List.length_pos_iff.2 hne
  have e := val_split (up.drop (a.length + 1 - b.length)) (b.length - 1) (by rw [List.length_drop]; omega)
  rw [List.drop_drop, show a.length + 1 - b.length + (b.length - 1) = a.length by omega, val_drop_succ (l := up) (i := a.length) (by omega), List.drop_of_length_le (show up.length ≤ a.length + 1 by omega)] at e
  have b1 := val_bounds _ (digits_take (digits_drop' du (a.length + 1 - b.length)) (b.length - 1))
  rw [List.length_take, List.length_drop, Nat.min_eq_left (by omega)] at b1
  have k := val_canon db cb hne
  have n0 := pow_pos2 n
  have p0 := pb_pos (b.length - 1)
  have k1 := Int.mul_le_mul_of_nonneg_right k (show (0 : Int) ≤ 2 ^ n by omega)
  have k2 := Int.mul_le_mul_of_nonneg_left (show up.getD a.length 0 + 1 ≤ 2 ^ n by omega) (show 0 ≤ pb (b.length - 1) by omega)
  rw [Int.mul_add, Int.mul_one] at k2
  simp only [val, Int.mul_zero, Int.add_zero] at e
  omega
theorem one_val {b : List Int} (h : b.length ≤ 1) (h0 : 0 < b.length) : val b = b.getD 0 0 := by
  match b, h, h0 with
  | [x], _, _ => show x + 4294967296 * 0 = x; omega
theorem rest_lt {r b S : Int} (hS : 0 < S) (h : S * r < b * S) : r < b := by
  rw [Int.mul_comm S r] at h
  exact Int.lt_of_mul_lt_mul_right h (by omega)

set_option maxHeartbeats 8000000 in
set_option maxRecDepth 100000 in
theorem parted_any (s t : Value) (a b : List Int) (w : World) (h1 : Dg w s a) (h2 : Dg w t b) (da : digits a) (db : digits b) (ca : canon a) (cb : canon b) (hb0 : b ≠ []) (l1 : a.length ≤ 800000) (l2 : b.length ≤ 800000) :
    Calls Tryz.prog 105 #[s, t] w fun e w' => ∃ u v q r, e = .returned (.tuple #[u, v]) ∧ Dg w' u q ∧ Dg w' v r ∧ digits q ∧ digits r ∧ q.length ≤ a.length + 1 ∧ r.length ≤ a.length + 1 ∧ (val q * val b + val r = val a ∧ val r < val b) ∧ Below w.heap.size w w' := by
  have H1 := Lib.hid h1; have H2 := Lib.hid h2
  obtain ⟨A, c, rfl, ha⟩ := h1.len
  obtain ⟨B, d, rfl, hb⟩ := h2.len
  have HB := Lib.hid hb
  have DD := Lib.hid (And.intro da db)
  have HC := Lib.hid (cmpD_ge da db ca cb)
  have hbl : 0 < b.length := List.length_pos_iff.2 hb0
  have HLN := Lib.hid (cb.resolve_left hb0)
  have HCB := Lib.hid (And.intro cb hb0)
  have HLE := Lib.hid (fun h => len_of_val da db cb h)
  clear ha hb h1 h2 da db ca cb hb0
  have K := Lib.hid (Keep.start w)
  go_enter Tryz.func105, Tryz.ntmps105
  go_wp2_with fail
  refine (cmp_any _ _ a b _ (H1.out.below K.out.B) (H2.out.below K.out.B) (by omega) (by omega)).mono ?_
  rintro e w2 ⟨rfl, hb⟩
  replace K := Lib.hid (Keep.stays _ _ K.out hb)
  clear hb
  obtain ⟨hcm, cm1, cm2⟩ := HC.out
  have HC2 := Lib.hid hcm
  clear hcm HC
  generalize cmpD a b = cm at *
  by_cases hlt : cm < 0
  · go_wp2_with fail
    go_ret2
    exact ⟨_, _, [], a, rfl, .inl ⟨rfl, rfl⟩, H1.out.below K.out.B, digits_nil, DD.out.1, by simp, by omega, ⟨by simp [val], by have := HC2.out; omega⟩, K.out.B⟩
  · have hlab := HLE.out (HC2.out.1 (by omega))
    obtain ⟨y, rfl, hy, hyc⟩ := HB.out hbl
    have HYC := Lib.hid hyc
    have HY := Lib.hid hy
    clear hyc hy
    by_cases h1 : b.length ≤ 1
    · have Y := kept_cell K.out HY.out (HYC.out 0 hbl)
      obtain ⟨y0, y1⟩ := getD_mem DD.out.2 0
      have HOV := Lib.hid (one_val h1 hbl)
      have hn0 : b.getD 0 0 ≠ 0 := by have := HLN.out; rwa [show b.length - 1 = 0 by omega] at this
      generalize b.getD 0 0 = bl at *
      have bp : 0 < bl := by omega
      clear hn0
      go_wp2_with fail
      refine (by_any _ a bl _ (H1.out.below K.out.B) DD.out.1 (by omega) bp y1).mono ?_
      rintro e w3 ⟨v, o, r, rfl, hd, hdg, hl, ⟨r0, r1, hv⟩, hb⟩
      replace K := Lib.hid (Keep.stays _ _ K.out hb)
      obtain ⟨A3, c3, rfl, -⟩ := hd.len
      have H3 := Lib.hid (And.intro hd (And.intro hdg hl))
      have HV := Lib.hid hv
      clear hb hd hdg hl Y hv
      go_wp2_with fail
      go_ret2
      have K4 := K.out.alloc (Obj.row [r])
      exact ⟨_, _, o, [r], rfl, H3.out.1.below (below_one _ _), K4.rowd (.head _) (c := 1) (Nat.le_refl _), H3.out.2.1, by intro x hx; simp at hx; omega, by rw [H3.out.2.2]; omega, by simp, ⟨by rw [HOV.out]; simp only [val, Int.mul_zero, Int.add_zero]; exact HV.out, by rw [HOV.out]; simp only [val, Int.mul_zero, Int.add_zero]; exact r1⟩, (K4.rest).B⟩
    · have Y := kept_cell K.out HY.out (HYC.out (b.length - 1) (by omega))
      obtain ⟨y0, y1⟩ := getD_mem DD.out.2 (b.length - 1)
      have hn0 := HLN.out
      have HBL := Lib.hid (show b.getD (b.length - 1) 0 = b.getD (b.length - 1) 0 from rfl)
      generalize hgl : b.getD (b.length - 1) 0 = bl at Y y0 y1 hn0
      have HGL := Lib.hid hgl
      have bp : 0 < bl := by omega
      clear hn0 hgl HBL y0
      go_wp2_with fail
      refine (lz32_any bl _ bp y1).mono ?_
      rintro e w3 ⟨n, rfl, hn, hsh, hb⟩
      replace K := Lib.hid (Keep.stays _ _ K.out hb)
      have HSH := Lib.hid hsh
      clear hb hsh Y
      go_wp2_with fail
      refine (shifted_any _ a n _ (H1.out.below K.out.B) DD.out.1 (by omega) hn).mono ?_
      rintro e w4 ⟨gu, up, rfl, hbx, hgu, dup, lup, hvu, htu, hb⟩
      replace K := Lib.hid (Keep.held K.out (Keep.stays _ _ K.out hb) hbx hgu)
      have HU := Lib.hid (And.intro dup lup)
      have HVU := Lib.hid (And.intro hvu htu)
      clear hb hbx hgu dup lup hvu htu
      go_wp2_with fail
      refine (shifted_any _ b n _ (H2.out.below K.out.B) DD.out.2 (by omega) hn).mono ?_
      rintro e w5 ⟨gs, sb, rfl, hbx, hgs, dsb, lsb, hvs, -, hb⟩
      replace K := Lib.hid (Keep.held K.out (Keep.stays _ _ K.out hb) hbx hgs)
      have HVS := Lib.hid (shift_low dsb lsb hvs (shift_fit DD.out.2 hbl hn (by rw [HGL.out]; exact HSH.out)))
      have HS := Lib.hid (And.intro dsb (And.intro lsb (shift_last DD.out.2 HCB.out.1 HCB.out.2 dsb lsb HVS.out)))
      clear hb hbx hgs dsb lsb hvs
      go_wp2_with fail
      refine (long_of w [(gs, Obj.row sb)] gu (a.length + 1) (a.length + 1) up gs b.length (b.length + 1) sb _ HU.out.2 K.out.swap HU.out.1 (.head _) HS.out.1 hbl (by rw [HS.out.2.1]; omega) (by omega) HS.out.2.2 (by omega) (by rw [HS.out.2.1]; omega) (by omega) (Nat.le_refl _) (by rw [HVS.out]; exact shift_top DD.out.2 HCB.out.1 HCB.out.2 hlab HU.out.1 HU.out.2 HVU.out.2)).mono ?_
      rintro e w6 ⟨vq, q, R2, rfl, hdq, hlg, k⟩
      have HLG := Lib.hid hlg
      obtain ⟨lq, dq, lR, dR, -, -⟩ := hlg
      obtain ⟨Aq, kq, rfl, -⟩ := hdq.len
      replace K := Lib.hid k
      have HQ := Lib.hid (And.intro hdq (And.intro dq lq))
      have HG := Lib.hid (K.out.rowd (.head _) (c := a.length + 1) (by rw [lR]; omega))
      rw [lR] at HG
      have HR := Lib.hid (And.intro lR dR)
      clear k hdq dq lq lR dR
      go_wp2_with fail
      refine (mad_any false _ R2 _ HG.out HR.out.2 (by rw [HR.out.1]; omega)).mono ?_
      rintro e w7 ⟨n3, s3, d3, rfl, hN, hv3, hl3, hn3, hb⟩
      obtain ⟨A3, c3, rfl, hrow⟩ := hN.1.len
      have HBW := Lib.hid (Keep.stays _ _ K.out hb).B
      replace HQ := Lib.hid (And.intro (HQ.out.1.below hb) HQ.out.2)
      have HROW := Lib.hid hrow
      have HD3 := Lib.hid (fun k => getD_mem hN.2.1 k)
      have hl4 : d3.length ≤ a.length + 1 := by rw [HR.out.1] at hl3; exact hl3
      have hf := field_num n3 (.slice A3 d3.length c3)
      have hmk := mk_row d3.length (by omega) (d3.length : Int) rfl
      have HDD := Lib.hid hN.2.1
      have HV3 := Lib.hid hv3
      clear hb hN hv3 hn3 hl3 hrow K HG
      go_upto_region 11 with fail
      clear hf hmk
      have K := Lib.hid ((Keep.start w7).alloc (Obj.row (List.replicate d3.length 0)))
      (refine out_keep K.out ?_; clear K; intro W K; replace K := Lib.hid K)
      go_wp2_with fail
      go_loopg [61] d3.length (fun gk iv wr => ∃ (i : Nat) (out : List Int), gk + i = d3.length ∧ iv = .int .i64 (i : Int) ∧ Dn d3 n i out ∧ Keep w7 [(w7.heap.size, Obj.row out)] wr)
      case atStart => exact ⟨0, _, by omega, rfl, Dn.start d3 n, K.out⟩
      case round =>
        clear K
        obtain ⟨i, out, hgi, rfl, hdn, k⟩ := hrel
        have K := Lib.hid k
        have HO := Lib.hid (And.intro hdn.1 hdn.2.1)
        have HDN := Lib.hid hdn
        clear k hdn
        by_cases hi : i < d3.length
        · obtain ⟨x, rfl, hx, hxc⟩ := HROW.out (by omega)
          have X := kept_cell K.out hx (hxc i hi)
          obtain ⟨p0, p1⟩ := HD3.out i
          clear hx hxc
          have HFI := Lib.hid (HDN.out.first hi HDD.out)
          have HP : Hid (d3.getD i 0 = d3.getD i 0) := rfl
          generalize hpp : d3.getD i 0 = p at X p0 p1 HFI
          replace HP := Lib.hid hpp
          clear hpp
          have hio : Hid (i < out.length) := by show _ < _; rw [HO.out.1]; exact hi
          have c1 : ∀ p : At (Keep w7 [(w7.heap.size, Obj.row out)]), _ := fun p => p.h.rowc (.head _) i hio.out
          obtain ⟨z0, z1⟩ := getD_mem HO.out.2 i
          generalize out.getD i 0 = z at *
          have HE2 := Lib.hid (congrArg (out.set i) HFI.out)
          clear HFI
          go_wp2_with fail
          (refine region_tail _ 8 (by kernel_rfl) (by kernel_rfl) K.out.drew ?_; haveI ne := Keep.ne K)
          (simp only [List.take_succ_cons, List.take_zero, List.drop_succ_cons, List.drop_zero])
          repeat (go_big_quiet_step (fail))
          (refine wpQuiet_nil ?_; clear ne K; intro W K; replace K := Lib.hid K)
          clear c1
          have Z := K.out.rowc (.head _) i hio.out
          have f5 := K.out.roww (.head _)
          go_upto_region 15 with fail
          clear Z f5
          replace K := Lib.hid (K.out.setr_0 i (bits BinOp.or IntKind.u32 z (p / 2 ^ n)))
          replace HO := Lib.hid (And.intro (show (out.set i (bits BinOp.or IntKind.u32 z (p / 2 ^ n))).length = d3.length by rw [List.length_set]; exact HO.out.1) (digits_set HO.out.2 i (or32_range z (p / 2 ^ n))))
          generalize out.set i (bits BinOp.or IntKind.u32 z (p / 2 ^ n)) = out2 at *
          clear hio z0 z1
          have HZ2 : Hid (0 < i → out2.getD (i - 1) 0 = out.getD (i - 1) 0) := fun h => by rw [HE2.out, getD_set_ne' (by omega)]
          (refine out_keep K.out ?_; clear K; intro W K; replace K := Lib.hid K)
          by_cases hi0 : 0 < i
          · have hio : Hid (i - 1 < out2.length) := by show _ < _; rw [HO.out.1]; omega
            have c1 : ∀ p : At (Keep w7 [(w7.heap.size, Obj.row out2)]), _ := fun p => p.h.rowc (.head _) (i - 1) hio.out
            obtain ⟨z0, z1⟩ := getD_mem HO.out.2 (i - 1)
            replace HZ2 := Lib.hid (HZ2.out hi0)
            generalize out2.getD (i - 1) 0 = z2 at *
            go_wp2_with fail
            (refine region_tail _ 12 (by kernel_rfl) (by kernel_rfl) K.out.drew ?_; haveI ne := Keep.ne K)
            (simp only [List.take_succ_cons, List.take_zero, List.drop_succ_cons, List.drop_zero])
            repeat (go_big_quiet_step (fail))
            (refine wpQuiet_nil ?_; clear ne K; intro W K; replace K := Lib.hid K)
            clear c1
            have Z := K.out.rowc (.head _) (i - 1) hio.out
            have f5 := K.out.roww (.head _)
            go_wp2_with fail
            clear Z f5
            go_roundg (gk - 1)
            case measure => omega
            case rel =>
              obtain ⟨i2, rfl⟩ : ∃ i2, i = i2 + 1 := ⟨i - 1, by omega⟩
              have hst := HDN.out.step hi hn HDD.out
              have hz2 := HZ2.out
              rw [Nat.add_sub_cancel] at hz2
              rw [HP.out, ← HE2.out, ← hz2] at hst
              refine ⟨i2 + 2, out2.set (i2 + 1 - 1) _, by omega, congrArg (Value.int .i64) (by omega), ?_, K.out.setr_0 (i2 + 1 - 1) _⟩
              rw [Nat.add_sub_cancel, IntKind.wrap_u64, show p * 2 ^ (32 - n) % 18446744073709551616 % 4294967296 = p * 2 ^ (32 - n) % 4294967296 by omega]
              exact hst
          · go_wp2_with fail
            go_roundg (gk - 1)
            case measure => omega
            case rel =>
              obtain rfl : i = 0 := by omega
              have hst := HDN.out.step0 hi HDD.out
              rw [HP.out, ← HE2.out] at hst
              exact ⟨1, out2, by omega, congrArg (Value.int .i64) (by omega), hst, K.out⟩
        · have HRES : Hid (val q * val b + val out = val a ∧ val out < val b) := by
            obtain ⟨-, -, -, -, hvv, hlt⟩ := HLG.out
            rw [HVS.out, HVU.out.1, ← HV3.out] at hvv
            rw [List.drop_zero, HVS.out, ← HV3.out] at hlt
            rw [List.drop_zero] at hvv
            have hz : val d3 = 2 ^ n * (val a - val q * val b) := by
              rw [show pb 0 = 1 from rfl, Int.one_mul] at hvv
              grind
            have h2 := ((show i = d3.length by omega) ▸ HDN.out : Dn d3 n d3.length out).done hz
            exact ⟨by omega, rest_lt (pow_pos2 n) (by rw [h2, ← hz]; exact hlt)⟩
          have HG := Lib.hid (K.out.rowd (.head _) (c := d3.length) (by rw [HO.out.1]; omega))
          rw [HO.out.1] at HG
          go_wp2_with fail
          go_ret2
          exact ⟨_, _, q, out, rfl, HQ.out.1.below K.out.B, HG.out, HQ.out.2.1, HO.out.2, by rw [HQ.out.2.2]; omega, by rw [HO.out.1]; omega, HRES.out, Below.onto HBW.out K.out.B⟩
end Go.Proofs.YtmidifgnpjlgcaaGreat
/- The walk of Quo. -/
set_option linter.unusedVariables false
set_option linter.unusedSimpArgs false
namespace Go.Proofs.YtmidifgnpjlgcaaGreat
open Go.RowKit

theorem Keep.putn_1 {w0 w : World} {l2 : List (Nat × Obj)} {p : Nat × Obj} {b : Nat} {n : Bool} {s : Value} (K : Keep w0 (p :: (b, Obj.num n s) :: l2) w) (n' : Bool) (s' : Value) : Keep w0 (p :: (b, Obj.num n' s') :: l2) ((w.setCell ⟨b, 0, none⟩ (.bool n')).setCell ⟨b, 1, none⟩ s') := K.putn [p] n' s'
theorem ret_nm3 {fn : Func} {p q u g k : Nat} {tmps : Array Value} {w : World} {n m : Bool} {s t : Value} {R : Ending → World → Prop} (h : fn.results = #[.cell p 30, .cell q 30, .tmp u]) (hp : tmps.getD p undef = .pointer (some ⟨g, 0, none⟩)) (hq : tmps.getD q undef = .pointer (some ⟨k, 0, none⟩))
    (hb : w.heap[g]? = some (Obj.num n s)) (hk : w.heap[k]? = some (Obj.num m t)) (hR : R (.returned (.tuple #[.agg #[.bool n, s], .agg #[.bool m, t], tmps.getD u undef])) w) : bodyPost Tryz.prog fn R .ret { tmps := tmps, defers := [] } w := by
  refine bodyPost_ret ?_ rfl hR
  have hp' : tmps[p]?.getD undef = .pointer (some ⟨g, 0, none⟩) := by simpa using hp
  have hq' : tmps[q]?.getD undef = .pointer (some ⟨k, 0, none⟩) := by simpa using hq
  have e1 := run_loadVar_row (P := Tryz.prog) w g 30 30 _ _ _ hb Tryz.underlying30 rfl (by kernel_rfl)
  have e2 := run_loadVar_row (P := Tryz.prog) w k 30 30 _ _ _ hk Tryz.underlying30 rfl (by kernel_rfl)
  simp [results, h, hp', hq', asAddr, e1, e2]

theorem fdiv_of {x y q r : Int} (h : x = q * y + r) (hr : (0 < y ∧ 0 ≤ r ∧ r < y) ∨ (y < 0 ∧ y < r ∧ r ≤ 0)) : Int.fdiv x y = q := by
  rcases hr with ⟨h0, h1, h2⟩ | ⟨h0, h1, h2⟩
  · rw [Int.fdiv_eq_ediv_of_nonneg _ (by omega)]
    exact ((Int.ediv_emod_unique h0).2 ⟨by rw [h, Int.mul_comm]; omega, h1, h2⟩).1
  · rw [← Int.neg_fdiv_neg, Int.fdiv_eq_ediv_of_nonneg _ (by omega)]
    exact ((Int.ediv_emod_unique (show 0 < -y by omega)).2 ⟨show -r + -y * q = -x by rw [h, Int.neg_mul, Int.mul_comm y]; omega, by omega, by omega⟩).1
theorem quo_first {n m : Bool} {a b q r : List Int} (h : val q * val b + val r = val a) : zof n a = (if !n == m then -val q else val q) * zof m b + (if n then -val r else val r) := by
  cases n <;> cases m <;> simp [zof] <;> grind
/-- Where the quotient and the rest stand before the last step. -/
def Qf (n m : Bool) (a b : List Int) (qz rz : Int) : Prop := zof n a = qz * zof m b + rz ∧ (-val b < rz ∧ rz < val b) ∧ 0 < val b
theorem zof_sign {w : World} {n : Bool} {s : Value} {a : List Int} (h : Num w n s a) : (n = true → zof n a < 0) ∧ (n = false → 0 ≤ zof n a) := by
  refine ⟨fun e => ?_, fun e => ?_⟩
  · have := val_pos h.2.1 h.2.2.1 (h.2.2.2 e)
    rw [e]; show -val a < 0; omega
  · rw [e]; exact (val_bounds _ h.2.1).1
theorem Qf.same {n m : Bool} {a b : List Int} {qz rz : Int} (h : Qf n m a b qz rz) (hr : rz = 0 ∨ (m = true ∧ rz < 0) ∨ (m = false ∧ 0 < rz)) : qz = Int.fdiv (zof n a) (zof m b) := by
  obtain ⟨h1, h2, h3⟩ := h
  refine (fdiv_of h1 ?_).symm
  cases m <;> simp [zof] at * <;> omega
theorem Qf.less {n m : Bool} {a b : List Int} {qz rz : Int} (h : Qf n m a b qz rz) (hr : (m = true ∧ 0 < rz) ∨ (m = false ∧ rz < 0)) : qz - 1 = Int.fdiv (zof n a) (zof m b) := by
  obtain ⟨h1, h2, h3⟩ := h
  refine (fdiv_of (r := rz + zof m b) (by rw [h1, Int.sub_mul, Int.one_mul]; omega) ?_).symm
  cases m <;> simp [zof] at * <;> omega

set_option maxHeartbeats 8000000 in
set_option maxRecDepth 100000 in
theorem quo_any (n m : Bool) (s t : Value) (a b : List Int) (w : World) (h1 : Num w n s a) (h2 : Num w m t b) (l1 : a.length ≤ 700000) (l2 : b.length ≤ 700000) :
    Calls Tryz.prog 80 #[.agg #[.bool n, s], .agg #[.bool m, t]] w fun e w' => ∃ qn qv q rn rv r e', e = .returned (.tuple #[.agg #[.bool qn, qv], .agg #[.bool rn, rv], .int .i64 e']) ∧ Num w' qn qv q ∧ Num w' rn rv r ∧ zof qn q = Int.fdiv (zof n a) (zof m b) ∧ q.length ≤ a.length + 3 ∧ r.length ≤ a.length + b.length + 2 ∧ Below w.heap.size w w' := by
  obtain ⟨A, c, rfl, -⟩ := h1.1.len
  obtain ⟨B, d, rfl, -⟩ := h2.1.len
  have K := Lib.hid (Keep.begin4 w (Obj.num n (.slice A a.length c)) (Obj.num m (.slice B b.length d)) (Obj.num false (.slice none 0 0)) (Obj.num false (.slice none 0 0)))
  have H1 := Lib.hid h1; have H2 := Lib.hid h2
  clear h1 h2
  by_cases hb0 : b.length ≤ 0
  · go_enter Tryz.func80, Tryz.ntmps80
    go_upto_region 1 with fail
    (refine out_keep K.out ?_; clear K; intro W K; replace K := Lib.hid K)
    obtain ⟨f1, c10, c11⟩ := K.out.nm (.tail _ (.tail _ (.head _)))
    obtain ⟨f2, c20, c21⟩ := K.out.nm (.tail _ (.head _))
    obtain ⟨f3, c30, c31⟩ := K.out.nm (.head _)
    go_wp2_with fail
    refine ret_nm3 Tryz.results80 rfl rfl (((K.out.putn_1 false (.slice none 0 0)).putn_0 false (.slice none 0 0)).nb (.tail _ (.head _))) (((K.out.putn_1 false (.slice none 0 0)).putn_0 false (.slice none 0 0)).nb (.head _)) ?_
    exact ⟨_, _, [], _, _, [], _, rfl, Num.nil _, Num.nil _, by have e : b = [] := List.length_eq_zero_iff.1 (by omega); subst e; cases m <;> simp [zof, val], by simp, by simp, ((K.out.putn_1 false (.slice none 0 0)).putn_0 false (.slice none 0 0)).B⟩
  · have hbne : Hid (b ≠ []) := fun e => hb0 (by rw [e]; exact Nat.le_refl _)
    go_enter Tryz.func80, Tryz.ntmps80
    go_upto_region 1 with fail
    (refine out_keep K.out ?_; clear K; intro W K; replace K := Lib.hid K)
    obtain ⟨f1, c10, c11⟩ := K.out.nm (.tail _ (.tail _ (.tail _ (.head _))))
    obtain ⟨f2, c20, c21⟩ := K.out.nm (.tail _ (.tail _ (.head _)))
    go_wp2_with fail
    refine (parted_any _ _ a b _ (H1.out.1.below K.out.B) (H2.out.1.below K.out.B) H1.out.2.1 H2.out.2.1 H1.out.2.2.1 H2.out.2.2.1 hbne.out (by omega) (by omega)).mono ?_
    rintro e w2 ⟨u, v, q, r, rfl, hq, hr, dq, dr, lq, lr, ⟨hv1, hv2⟩, hb⟩
    have HQV := Lib.hid (And.intro (quo_first (n := n) (m := m) hv1) (And.intro hv2 (val_bounds r dr).1))
    clear hv1 hv2
    replace K := Lib.hid (Keep.stays _ _ K.out hb)
    have HQ := Lib.hid (And.intro hq (And.intro hr (And.intro dq dr)))
    clear hb hq hr dq dr f1 c10 c11 f2 c20 c21
    go_wp2_with fail
    (refine region_ord _ 11 (by kernel_rfl) (by kernel_rfl) K.out.drew ?_; clear K; intro W K hbw; replace K := Lib.hid K)
    replace HQ := Lib.hid (And.intro (HQ.out.1.below hbw) (And.intro (HQ.out.2.1.below hbw) HQ.out.2.2))
    clear hbw
    obtain ⟨e10, e11⟩ := Keep.anm K (.tail _ (.tail _ (.tail _ (.head _))))
    obtain ⟨e20, e21⟩ := Keep.anm K (.tail _ (.tail _ (.head _)))
    (refine Ord.take' 0 rfl (by kernel_rfl) (fun _ _ _ _ h => h) K.out (by rfl) ?_; apply Exists.intro; refine ⟨fun p => ?_, ?_⟩; (focus (go_simp; (try (with_reducible rfl)); done)); (try simp only [Act.put, List.setIfInBounds_toArray, List.set_cons_zero, List.set_cons_succ]))
    (refine Ord.take' 1 rfl (by kernel_rfl) (fun _ _ _ _ h => h) K.out (by rfl) ?_; apply Exists.intro; refine ⟨fun p => ?_, ?_⟩; (focus (go_simp; (try (with_reducible rfl)); done)); (try simp only [Act.put, List.setIfInBounds_toArray, List.set_cons_zero, List.set_cons_succ]))
    (refine Ord.take' 2 rfl (by kernel_rfl) (fun _ _ _ _ h => h) K.out (by rfl) ?_; apply Exists.intro; refine ⟨fun p => ?_, ?_⟩; (focus (go_simp; (try (with_reducible rfl)); done)); (try simp only [Act.put, List.setIfInBounds_toArray, List.set_cons_zero, List.set_cons_succ]))
    (refine Ord.take' 3 rfl (by kernel_rfl) (fun _ _ _ _ h => h) K.out (by rfl) ?_; apply Exists.intro; refine ⟨fun p => ?_, ?_⟩; (focus (go_simp; (try (with_reducible rfl)); done)); (try simp only [Act.put, List.setIfInBounds_toArray, List.set_cons_zero, List.set_cons_succ]))
    (refine Ord.take' 4 rfl (by kernel_rfl) (fun _ _ _ _ h => h) K.out (by rfl) ?_; apply Exists.intro; refine ⟨fun p => ?_, ?_⟩; (focus (go_simp; (try (with_reducible rfl)); done)); (try simp only [Act.put, List.setIfInBounds_toArray, List.set_cons_zero, List.set_cons_succ]))
    (refine Ord.take' 5 rfl (by kernel_rfl) (fun _ _ _ _ h => h) K.out (by rfl) ?_; apply Exists.intro; refine ⟨fun p => ?_, ?_⟩; (focus (go_simp; (try (with_reducible rfl)); done)); (try simp only [Act.put, List.setIfInBounds_toArray, List.set_cons_zero, List.set_cons_succ]))
    (refine Ord.take' 7 rfl (by kernel_rfl) (fun _ _ _ _ h => h) K.out (by rfl) ?_; apply Exists.intro; refine ⟨fun p => ?_, ?_⟩; (focus (go_simp; (try (with_reducible rfl)); done)); (try simp only [Act.put, List.setIfInBounds_toArray, List.set_cons_zero, List.set_cons_succ]))
    (refine Ord.take' 8 rfl (by kernel_rfl) (fun _ _ _ _ h => h) K.out (by rfl) ?_; apply Exists.intro; refine ⟨fun p => ?_, ?_⟩; (focus (go_simp; (try (with_reducible rfl)); done)); (try simp only [Act.put, List.setIfInBounds_toArray, List.set_cons_zero, List.set_cons_succ]))
    (refine Ord.take' 9 rfl (by kernel_rfl) (fun _ _ _ _ h => h) K.out (by rfl) ?_; apply Exists.intro; refine ⟨fun p => ?_, ?_⟩; (focus (go_simp; (try (with_reducible rfl)); done)); (try simp only [Act.put, List.setIfInBounds_toArray, List.set_cons_zero, List.set_cons_succ]))
    clear e10 e11 e20 e21
    (refine Ord.call 6 (g := 53) (args := (#[.bool (!n == m), u])) rfl (by kernel_rfl) (by rfl) (by (go_simp; try (with_reducible rfl))) ?_)
    refine (mad_any (!n == m) u q _ HQ.out.1 HQ.out.2.2.1 (by omega)).mono ?_
    rintro e w3 ⟨nq, sq, dq, rfl, hNq, hvq, hlq, hnq, hb⟩
    have HZQ := Lib.hid (made_zof hnq)
    rw [hvq] at HZQ
    clear hvq hnq
    obtain ⟨Aq, kq, rfl, -⟩ := hNq.1.len
    (refine ⟨_, rfl, Keep.stays _ _ K.out hb, ?_⟩; replace K := Lib.hid (Keep.stays _ _ K.out hb); simp only [Act.put, List.setIfInBounds_toArray, List.set_cons_zero, List.set_cons_succ])
    replace HQ := Lib.hid (And.intro hNq (And.intro (HQ.out.2.1.below hb) HQ.out.2.2))
    clear hb hNq
    (refine Ord.call 10 (g := 53) (args := (#[.bool n, v])) rfl (by kernel_rfl) (by rfl) (by (go_simp; try (with_reducible rfl))) ?_)
    refine (mad_any n v r _ HQ.out.2.1 HQ.out.2.2.2 (by omega)).mono ?_
    rintro e w4 ⟨nr, sr, dr, rfl, hNr, hvr, hlr, hnr, hb⟩
    have HZR := Lib.hid (made_zof hnr)
    rw [hvr] at HZR
    clear hvr hnr
    have HQF : Hid (Qf n m a b (zof nq dq) (zof nr dr)) := ⟨by rw [HZQ.out, HZR.out]; exact HQV.out.1, by rw [HZR.out]; have := HQV.out.2; split <;> omega, by have := HQV.out.2; omega⟩
    clear HZQ HZR HQV
    have HSN := Lib.hid (zof_sign hNr)
    obtain ⟨Ar, kr, rfl, -⟩ := hNr.1.len
    (refine ⟨_, rfl, Keep.stays _ _ K.out hb, ?_⟩; replace K := Lib.hid (Keep.stays _ _ K.out hb); simp only [Act.put, List.setIfInBounds_toArray, List.set_cons_zero, List.set_cons_succ])
    replace HQ := Lib.hid (And.intro (HQ.out.1.below hb) hNr)
    have hlq2 : dq.length ≤ a.length + 1 := by omega
    have hlr2 : dr.length ≤ a.length + 1 := by omega
    clear hb hNr hlq hlr lq lr
    (refine Ord.done (by kernel_rfl) ?_; simp only [List.drop_succ_cons, List.drop_zero, Act.put, List.setIfInBounds_toArray, List.set_cons_zero, List.set_cons_succ])
    obtain ⟨f1, c10, c11⟩ := K.out.nm (.tail _ (.head _))
    obtain ⟨f2, c20, c21⟩ := K.out.nm (.head _)
    go_upto_region 5 with fail
    refine out_with (B := fun W => Num W nq (.slice Aq dq.length kq) dq ∧ Num W nr (.slice Ar dr.length kr) dr) ((K.out.putn_1 nq (.slice Aq dq.length kq)).putn_0 nr (.slice Ar dr.length kr)) ⟨(HQ.out.1.put (K.out.nm (.tail _ (.head _))).2.1 _ _).put ((K.out.putn_1 nq (.slice Aq dq.length kq)).nm (.head _)).2.1 _ _, (HQ.out.2.put (K.out.nm (.tail _ (.head _))).2.1 _ _).put ((K.out.putn_1 nq (.slice Aq dq.length kq)).nm (.head _)).2.1 _ _⟩ ?_
    clear K HQ f1 c10 c11 f2 c20 c21
    intro W5 K HQ
    replace K := Lib.hid K
    replace HQ := Lib.hid HQ
    obtain ⟨f1, c10, c11⟩ := K.out.nm (.head _)
    go_wp2_with fail
    refine (sign_any nr _ dr _ HQ.out.2).mono ?_
    rintro e w6 ⟨rfl, hb⟩
    replace K := Lib.hid (Keep.stays _ _ K.out hb)
    replace HQ := Lib.hid (And.intro (HQ.out.1.below hb) (HQ.out.2.below hb))
    clear hb f1 c10 c11
    have hsg : -1 ≤ sgn (zof nr dr) ∧ sgn (zof nr dr) ≤ 1 := by unfold sgn; split <;> (try split) <;> omega
    obtain ⟨sg1, sg2⟩ := hsg
    generalize hsg2 : sgn (zof nr dr) = sg at *
    have HSG := Lib.hid hsg2
    clear hsg2
    obtain ⟨f1, c10, c11⟩ := K.out.nm (.head _)
    obtain ⟨f2, c20, c21⟩ := K.out.nm (.tail _ (.tail _ (.head _)))
    by_cases hs : sg = 0
    · subst hs
      have HFD := Lib.hid (HQF.out.same (.inl (by have := HSG.out; unfold sgn at this; split at this <;> (try split at this) <;> omega)))
      clear sg1 sg2
      go_wp2_with fail
      clear f1 c10 c11 f2 c20 c21
      (obtain ⟨f1, c10, c11⟩ := K.out.nm (.tail _ (.head _)); obtain ⟨f2, c20, c21⟩ := K.out.nm (.head _); go_region; clear f1 c10 c11 f2 c20 c21; go_wp2_with fail; refine ret_nm3 Tryz.results80 rfl rfl ((((K.out.putn_1 _ _).putn_0 _ _).drew).nb (.tail _ (.head _))) ((((K.out.putn_1 _ _).putn_0 _ _).drew).nb (.head _)) ?_; exact ⟨_, _, dq, _, _, dr, _, rfl, ((HQ.out.1.put (K.out.nm (.tail _ (.head _))).2.1 _ _).put ((K.out.putn_1 _ _).nm (.head _)).2.1 _ _).below (below_drew _), ((HQ.out.2.put (K.out.nm (.tail _ (.head _))).2.1 _ _).put ((K.out.putn_1 _ _).nm (.head _)).2.1 _ _).below (below_drew _), HFD.out, by omega, by omega, (((K.out.putn_1 _ _).putn_0 _ _).drew).B⟩)
    · by_cases hnm : nr = m
      · have HFD := Lib.hid (HQF.out.same (.inr (by
          have k := HSN.out
          have k2 : zof nr dr ≠ 0 := fun e => hs (by rw [← HSG.out, e]; rfl)
          rw [← hnm]
          rcases Bool.eq_false_or_eq_true nr with e | e
          · exact .inl ⟨e, k.1 e⟩
          · exact .inr ⟨e, by have := k.2 e; omega⟩)))
        have h6 : (!nr == m) = false := by rw [hnm]; simp
        clear hnm
        go_wp2_with fail
        clear f1 c10 c11 f2 c20 c21
        (obtain ⟨f1, c10, c11⟩ := K.out.nm (.tail _ (.head _)); obtain ⟨f2, c20, c21⟩ := K.out.nm (.head _); go_region; clear f1 c10 c11 f2 c20 c21; go_wp2_with fail; refine ret_nm3 Tryz.results80 rfl rfl ((((K.out.putn_1 _ _).putn_0 _ _).drew).nb (.tail _ (.head _))) ((((K.out.putn_1 _ _).putn_0 _ _).drew).nb (.head _)) ?_; exact ⟨_, _, dq, _, _, dr, _, rfl, ((HQ.out.1.put (K.out.nm (.tail _ (.head _))).2.1 _ _).put ((K.out.putn_1 _ _).nm (.head _)).2.1 _ _).below (below_drew _), ((HQ.out.2.put (K.out.nm (.tail _ (.head _))).2.1 _ _).put ((K.out.putn_1 _ _).nm (.head _)).2.1 _ _).below (below_drew _), HFD.out, by omega, by omega, (((K.out.putn_1 _ _).putn_0 _ _).drew).B⟩)
      · have HFD := Lib.hid (HQF.out.less (by
          have k := HSN.out
          have k2 : zof nr dr ≠ 0 := fun e => hs (by rw [← HSG.out, e]; rfl)
          rcases Bool.eq_false_or_eq_true nr with e | e
          · exact .inr ⟨by cases m <;> simp_all, k.1 e⟩
          · exact .inl ⟨by cases m <;> simp_all, by have := k.2 e; omega⟩))
        have h6 : (!nr == m) = true := by cases nr <;> cases m <;> simp_all
        clear hnm
        go_wp2_with fail
        clear f1 c10 c11 f2 c20 c21 h6
        (refine region_ord _ 6 (by kernel_rfl) (by kernel_rfl) K.out.drew ?_; clear K; intro W K hbw; replace K := Lib.hid K)
        replace HQ := Lib.hid (And.intro (HQ.out.1.below hbw) (HQ.out.2.below hbw))
        clear hbw
        obtain ⟨e10, e11⟩ := Keep.anm K (.head _)
        obtain ⟨e20, e21⟩ := Keep.anm K (.tail _ (.head _))
        obtain ⟨e30, e31⟩ := Keep.anm K (.tail _ (.tail _ (.head _)))
        (refine Ord.take' 0 rfl (by kernel_rfl) (fun _ _ _ _ h => h) K.out (by rfl) ?_; apply Exists.intro; refine ⟨fun p => ?_, ?_⟩; (focus (go_simp; (try (with_reducible rfl)); done)); (try simp only [Act.put, List.setIfInBounds_toArray, List.set_cons_zero, List.set_cons_succ]))
        (refine Ord.take' 3 rfl (by kernel_rfl) (fun _ _ _ _ h => h) K.out (by rfl) ?_; apply Exists.intro; refine ⟨fun p => ?_, ?_⟩; (focus (go_simp; (try (with_reducible rfl)); done)); (try simp only [Act.put, List.setIfInBounds_toArray, List.set_cons_zero, List.set_cons_succ]))
        (refine Ord.take' 4 rfl (by kernel_rfl) (fun _ _ _ _ h => h) K.out (by rfl) ?_; apply Exists.intro; refine ⟨fun p => ?_, ?_⟩; (focus (go_simp; (try (with_reducible rfl)); done)); (try simp only [Act.put, List.setIfInBounds_toArray, List.set_cons_zero, List.set_cons_succ]))
        clear e10 e11 e20 e21 e30 e31
        (refine Ord.call 1 (g := 19) (args := (#[.int .i64 1])) rfl (by kernel_rfl) (by rfl) (by (go_simp; try (with_reducible rfl))) ?_)
        refine (int_any 1 _ (by omega) (by omega)).mono ?_
        rintro e w7 ⟨n7, s7, d7, rfl, hN7, hz7, hl7, hb⟩
        obtain ⟨A7, k7, rfl, -⟩ := hN7.1.len
        (refine ⟨_, rfl, Keep.stays _ _ K.out hb, ?_⟩; replace K := Lib.hid (Keep.stays _ _ K.out hb); simp only [Act.put, List.setIfInBounds_toArray, List.set_cons_zero, List.set_cons_succ])
        replace HQ := Lib.hid (And.intro (HQ.out.1.below hb) (HQ.out.2.below hb))
        clear hb
        (refine Ord.call 2 (g := 59) (args := (#[.agg #[.bool nq, .slice Aq dq.length kq], .agg #[.bool n7, .slice A7 d7.length k7]])) rfl (by kernel_rfl) (by rfl) (by (go_simp; try (with_reducible rfl))) ?_)
        refine (sub_any nq n7 _ _ dq d7 _ HQ.out.1 hN7 (by omega) (by omega)).mono ?_
        rintro e w8 ⟨n8, s8, d8, rfl, hN8, hz8, hl8, hb⟩
        rw [hz7] at hz8
        replace HFD := Lib.hid (hz8.trans HFD.out)
        clear hz7 hz8
        obtain ⟨A8, k8, rfl, -⟩ := hN8.1.len
        (refine ⟨_, rfl, Keep.stays _ _ K.out hb, ?_⟩; replace K := Lib.hid (Keep.stays _ _ K.out hb); simp only [Act.put, List.setIfInBounds_toArray, List.set_cons_zero, List.set_cons_succ])
        replace HQ := Lib.hid (And.intro hN8 (HQ.out.2.below hb))
        clear hb hN7 hN8
        (refine Ord.call 5 (g := 43) (args := (#[.agg #[.bool nr, .slice Ar dr.length kr], .agg #[.bool m, .slice B b.length d]])) rfl (by kernel_rfl) (by rfl) (by (go_simp; try (with_reducible rfl))) ?_)
        refine (add_any nr m _ _ dr b _ HQ.out.2 (H2.out.below K.out.B) (by omega) (by omega)).mono ?_
        rintro e w9 ⟨n9, s9, d9, rfl, hN9, -, hl9, hb⟩
        obtain ⟨A9, k9, rfl, -⟩ := hN9.1.len
        (refine ⟨_, rfl, Keep.stays _ _ K.out hb, ?_⟩; replace K := Lib.hid (Keep.stays _ _ K.out hb); simp only [Act.put, List.setIfInBounds_toArray, List.set_cons_zero, List.set_cons_succ])
        replace HQ := Lib.hid (And.intro (HQ.out.1.below hb) hN9)
        clear hb hN9
        (refine Ord.done (by kernel_rfl) ?_; simp only [List.drop_succ_cons, List.drop_zero, Act.put, List.setIfInBounds_toArray, List.set_cons_zero, List.set_cons_succ])
        obtain ⟨f1, c10, c11⟩ := K.out.nm (.tail _ (.head _))
        obtain ⟨f2, c20, c21⟩ := K.out.nm (.head _)
        go_upto_region 7 with fail
        refine out_with (B := fun W => Num W n8 (.slice A8 d8.length k8) d8 ∧ Num W n9 (.slice A9 d9.length k9) d9) ((K.out.putn_1 n8 (.slice A8 d8.length k8)).putn_0 n9 (.slice A9 d9.length k9)) ⟨(HQ.out.1.put (K.out.nm (.tail _ (.head _))).2.1 _ _).put ((K.out.putn_1 n8 (.slice A8 d8.length k8)).nm (.head _)).2.1 _ _, (HQ.out.2.put (K.out.nm (.tail _ (.head _))).2.1 _ _).put ((K.out.putn_1 n8 (.slice A8 d8.length k8)).nm (.head _)).2.1 _ _⟩ ?_
        clear K HQ f1 c10 c11 f2 c20 c21
        intro W9 K HQ
        replace K := Lib.hid K
        replace HQ := Lib.hid HQ
        (obtain ⟨f1, c10, c11⟩ := K.out.nm (.tail _ (.head _)); obtain ⟨f2, c20, c21⟩ := K.out.nm (.head _); go_region; clear f1 c10 c11 f2 c20 c21; go_wp2_with fail; refine ret_nm3 Tryz.results80 rfl rfl ((((K.out.putn_1 _ _).putn_0 _ _).drew).nb (.tail _ (.head _))) ((((K.out.putn_1 _ _).putn_0 _ _).drew).nb (.head _)) ?_; exact ⟨_, _, d8, _, _, d9, _, rfl, ((HQ.out.1.put (K.out.nm (.tail _ (.head _))).2.1 _ _).put ((K.out.putn_1 _ _).nm (.head _)).2.1 _ _).below (below_drew _), ((HQ.out.2.put (K.out.nm (.tail _ (.head _))).2.1 _ _).put ((K.out.putn_1 _ _).nm (.head _)).2.1 _ _).below (below_drew _), HFD.out, by omega, by omega, (((K.out.putn_1 _ _).putn_0 _ _).drew).B⟩)
end Go.Proofs.YtmidifgnpjlgcaaGreat
