/- The walk of SumTotals. -/
import Derived.Test.YtlabnphdfdaadaaTotR
import Derived.Test.YtlabnphdfdaadaaRef04t
import Derived.Test.YtlabnphdfdaadaaOrder
import Derived.Test.YtlabnphdfdaadaaParts
import Derived.Test.YtlabnphdfdaadaaAwk04
import Derived.Deep.RegionLaw
namespace Go.Proofs.Ytlabnphdfdaadaa
open Go.RowKit Flt

theorem sum_info : (Try.prog.info? 23).map (fun i => (i.zero, i.size, i.bytes)) = some (some (.complex .f64 0 0), 1, 16) := by kernel_rfl

set_option maxRecDepth 100000 in
set_option maxHeartbeats 4000000 in
theorem totals_le (b1 o1 n1 c1 b2 o2 n2 c2 : Nat) (xs : List (Int × Int)) (w : World) (hn1 : n1 ≤ 1000) (hn2 : n2 ≤ 1000) (hmin : xs.length = n1) (hx1 : xs.length ≤ n1) (hx2 : xs.length ≤ n2) (hm : ¬ (n2 : Int) < n1)
    (hc1 : ∀ i (h : i < xs.length), w.cell? ⟨b1, o1 + i, none⟩ = some (.int .i64 (xs[i]).1))
    (hc2 : ∀ i (h : i < xs.length), w.cell? ⟨b2, o2 + i, none⟩ = some (.int .i64 (xs[i]).2)) :
    Calls Try.prog 8 #[.slice (some ⟨b1, o1, none⟩) n1 c1, .slice (some ⟨b2, o2, none⟩) n2 c2] w fun e w' => e = .returned (.bool true) ∧ Below w.heap.size w w' := by
  have d1 : decide (1000 < (n1 : Int)) = false := decide_eq_false (by omega)
  have d2 : decide (1000 < (n2 : Int)) = false := decide_eq_false (by omega)
  obtain ⟨i0, hi, hz0, hz1, hz2⟩ := info_parts sum_info
  replace hc1 := Lib.hid hc1
  replace hc2 := Lib.hid hc2
  replace hmin := Lib.hid hmin
  have Hi := Lib.hid (And.intro hi (And.intro hz0 (And.intro hz1 hz2)))
  clear hi hz0 hz1 hz2
  have hlast := eql_same (okS_r (sumA (good xs)) (sumC (good xs)))
  go_enter Try.func8, Try.ntmps8
  go_wp2_with fail
  go_loopw [5, 6, 8, 31] (fun l m f i wr => ∃ k : Nat, k ≤ xs.length ∧ i = .int .i64 k ∧ TotR w (good (xs.take k)) (good (xs.take k)) l m f wr) (fun _ _ _ i _ => n1 - (intOf i).toNat)
  case atStart => exact ⟨0, Nat.zero_le _, rfl, TotR.start w⟩
  case round =>
    obtain ⟨k, hk, rfl, hR⟩ := hrel
    obtain rfl := hR.hf
    have hR := Lib.hid hR
    by_cases hlt : k < xs.length
    · have hb1 : b1 < w.heap.size := block_lt (hc1.out k hlt)
      have hb2 : b2 < w.heap.size := block_lt (hc2.out k hlt)
      have hcx1 := keep_below hR.out.hb hb1 (hc1.out k hlt)
      have hcx2 := keep_below hR.out.hb hb2 (hc2.out k hlt)
      have hxa := hc1.out k hlt
      have hxb := hc2.out k hlt
      have hy := Lib.hid (@good_yes xs k hlt)
      have hn := Lib.hid (@good_no xs k hlt)
      have hyok := Lib.hid (@good_ok (xs.take k))
      have hylen : (good (xs.take k)).length ≤ 1000 := by
        have := good_len (xs.take k)
        have := List.length_take_le k xs
        omega
      have hkn1 : k < n1 := by omega
      have hkn2 : k < n2 := by omega
      generalize xs[k] = x at *
      generalize good (xs.take k) = ys at *
      obtain ⟨xa, xb⟩ := x
      replace hxa := Lib.hid hxa
      replace hxb := Lib.hid hxb
      cases hok : okS xa xb with
      | false =>
        have hg := Lib.hid (hn.out hok)
        replace hok := Lib.hid hok
        clear hy hn
        go_wp2_with fail
        go_quiet ((go_at_call 10; exact Calls.quiet_of_same (of_no' xa xb _ hok.out)))
        go_wp2_with fail
        go_roundw
        case rel => exact ⟨k + 1, by omega, by go_num, by rw [hg.out]; exact hR.out.drewN nq⟩
        case measure => simp [intOf]; omega
      | true =>
        have hg := Lib.hid (hy.out hok)
        replace hok := Lib.hid hok
        clear hy hn
        go_wp2_with fail
        go_quiet ((go_at_call 10; exact Calls.quiet_of_same (of_yes' xa xb _ hok.out)))
        have hRn := Lib.hid (hR.out.drewN nq)
        have hbase := hRn.out.size
        have hmx : ys.length + 1 ≤ maxLen := by unfold maxLen; omega
        have hby : (ys.length + 1) * 16 ≤ 140737488355328 := by omega
        have hmx' : 1 + ys.length ≤ maxLen := by unfold maxLen; omega
        have hby' : (1 + ys.length) * 16 ≤ 140737488355328 := by omega
        cases h5 : okS (sumA ys) (sumC ys) with
        | false =>
          have hE : (rE (sumA ys) (sumC ys) == 0) = false := by rw [(r_no h5).2.2]; rfl
          replace h5 := Lib.hid h5
          go_wp2_with (first | (at_builtin; refine wpList_append_own_at _ rfl (.tmp 48) (.tmp 50) 48 rfl (w.heap.size + 1) 23 i0 (.complex .f64 0 0) 1 16 Try.underlying48 Hi.out.1 Hi.out.2.1 Hi.out.2.2.1 Hi.out.2.2.2 rfl (by decide) _ ys.length (ys.map cv) rfl (hRn.out.hl.alloc _) ⟨wr.heap.size, 0, none⟩ 1 1 [cv (xa, xb)] rfl rfl (cell_one_new _ _ _) (cv_one _) hmx hby (le_alloc hbase) ?_; intro l1 w1 hl1 hg1 _ hat1) | (at_builtin; have hs1 := Nat.le_trans (le_alloc (o := .cells #[cv (xa, xb)] 23) hbase) hg1.size; refine wpList_append_two _ rfl (.tmp 53) (.tmp 54) 48 rfl (w.heap.size + 1) 23 i0 (.complex .f64 0 0) 1 16 Try.underlying48 Hi.out.1 Hi.out.2.1 Hi.out.2.2.1 Hi.out.2.2.2 rfl (by decide) _ 1 [cv (xa, xb)] rfl (lit_own _ hs1) _ ys.length (ys.reverse.map cv) rfl ((own_m hRn.out hg1).alloc _) (cv_all _) hmx' hby' (le_alloc hs1) ?_; intro m2 w2 hm2 hg2 hat2))
          have hT := Lib.hid (TotR.add hRn.out hl1 hg1 hm2 hg2 hat2)
          clear hl1 hg1 hm2 hg2 hat1 hat2
          go_roundw
          case rel =>
            have h6 := stay_no (x := (xa, xb)) hyok.out hok.out h5.out
            obtain ⟨p1, p2, p3⟩ := r_no h5.out
            obtain ⟨q1, q2, q3⟩ := r_no h6
            exact ⟨k + 1, by omega, by go_num, by rw [hg.out]; have := hT.out.box (zs' := ys ++ [(xa, xb)]) (by rw [p1, q1]) (by rw [p2, q2]) (by rw [p3, q3]); simpa [p3, q3] using this⟩
          case measure => simp [intOf]; omega
        | true =>
          have hE : (rE (sumA ys) (sumC ys) == 0) = true := by rw [(r_yes h5).2.2]; rfl
          replace h5 := Lib.hid h5
          go_wp2_with (first | (at_builtin; refine wpList_append_own_at _ rfl (.tmp 48) (.tmp 50) 48 rfl (w.heap.size + 1) 23 i0 (.complex .f64 0 0) 1 16 Try.underlying48 Hi.out.1 Hi.out.2.1 Hi.out.2.2.1 Hi.out.2.2.2 rfl (by decide) _ ys.length (ys.map cv) rfl (hRn.out.hl.alloc _) ⟨wr.heap.size, 0, none⟩ 1 1 [cv (xa, xb)] rfl rfl (cell_one_new _ _ _) (cv_one _) hmx hby (le_alloc hbase) ?_; intro l1 w1 hl1 hg1 _ hat1) | (at_builtin; have hs1 := Nat.le_trans (le_alloc (o := .cells #[cv (xa, xb)] 23) hbase) hg1.size; refine wpList_append_two _ rfl (.tmp 53) (.tmp 54) 48 rfl (w.heap.size + 1) 23 i0 (.complex .f64 0 0) 1 16 Try.underlying48 Hi.out.1 Hi.out.2.1 Hi.out.2.2.1 Hi.out.2.2.2 rfl (by decide) _ 1 [cv (xa, xb)] rfl (lit_own _ hs1) _ ys.length (ys.reverse.map cv) rfl ((own_m hRn.out hg1).alloc _) (cv_all _) hmx' hby' (le_alloc hs1) ?_; intro m2 w2 hm2 hg2 hat2))
          have hT := TotR.add hRn.out hl1 hg1 hm2 hg2 hat2
          clear hl1 hg1 hm2 hg2 hat1 hat2
          have hd0 := hT.hc0
          have hd1 := hT.hc1
          rw [(r_yes h5.out).1] at hd0
          rw [(r_yes h5.out).2.1] at hd1
          have hf0 := hT.hf0
          have hf1 := hT.hf1
          have hcy1 := keep_below hT.hb hb1 hxa.out
          have hcy2 := keep_below hT.hb hb2 hxb.out
          have hr0 : w.heap.size < w2.heap.size := hT.size
          have hr1 : w.heap.size < w2.heap.size + 1 := by omega
          have hr2 : w.heap.size < w2.heap.size + 1 + 1 := by omega
          have hr3 : w.heap.size < w2.heap.size + 1 + 1 + 1 := by omega
          replace hT := Lib.hid hT
          clear hcx1 hcx2
          go_region_law (first | (go_simp; go_at_call 19; refine (refPlus_any _ _ _ _ _ h5.out hok.out).mono ?_; rintro e w' ⟨rfl, rfl⟩))
          all_goals
            go_wp2_with fail
            go_roundw
            case rel =>
              refine ⟨k + 1, by omega, by go_num, ?_⟩
              rw [hg.out]
              refine TotR.upd hT.out ?_ (by rw [(sum_snoc _ _).1, (sum_snoc _ _).2]) ?_ ?_ ?_ ?_
              · repeat (first | with_reducible exact og_refl _ _ | with_reducible refine og_drew ?_ | with_reducible refine og_drewN ?_ | with_reducible refine og_alloc ?_ | (with_reducible refine og_set ?_ ?_; · exact .inl rfl))
              · rw [(sum_snoc _ _).1, (sum_snoc _ _).2]
                repeat (first | with_reducible exact is_of hd0 | with_reducible exact is_of hd1 | with_reducible refine keep_drew ?_ | with_reducible refine keep_drewN ?_ | with_reducible refine keep_alloc ?_ | with_reducible refine set_same ?_ | with_reducible refine is_drew ?_ | with_reducible refine is_drewN ?_ | with_reducible refine is_alloc ?_ | with_reducible refine is_set ?_ | (with_reducible refine keep_set ?_ ?_; · (simp; done)))
              · rw [(sum_snoc _ _).1, (sum_snoc _ _).2]
                repeat (first | with_reducible exact is_of hd0 | with_reducible exact is_of hd1 | with_reducible refine keep_drew ?_ | with_reducible refine keep_drewN ?_ | with_reducible refine keep_alloc ?_ | with_reducible refine set_same ?_ | with_reducible refine is_drew ?_ | with_reducible refine is_drewN ?_ | with_reducible refine is_alloc ?_ | with_reducible refine is_set ?_ | (with_reducible refine keep_set ?_ ?_; · (simp; done)))
              · repeat (first | with_reducible exact hT.out.hf0 | with_reducible exact hT.out.hf1 | with_reducible refine keepf_drew ?_ | with_reducible refine keepf_drewN ?_ | with_reducible refine keepf_set ?_ | (with_reducible refine keepf_alloc ?_ ?_; · (dsimp only; (first | omega | (simp; done) | (simp; omega)))))
              · repeat (first | with_reducible exact hT.out.hf0 | with_reducible exact hT.out.hf1 | with_reducible refine keepf_drew ?_ | with_reducible refine keepf_drewN ?_ | with_reducible refine keepf_set ?_ | (with_reducible refine keepf_alloc ?_ ?_; · (dsimp only; (first | omega | (simp; done) | (simp; omega)))))
            case measure => simp [intOf]; omega
    · obtain rfl : k = xs.length := by omega
      rw [List.take_length] at hR ⊢
      have hend : decide (xs.length < n1) = false := decide_eq_false (by have := hmin.out; omega)
      have hyok := Lib.hid (@good_ok xs)
      have hlen : (good xs).length ≤ 1000000 := by have := good_len xs; omega
      have hbx := Lib.hid hR.out.hb
      have hd0 := hR.out.hc0
      have hd1 := hR.out.hc1
      have hf0 := hR.out.hf0
      have hf1 := hR.out.hf1
      have hr0 : w.heap.size < wr.heap.size := hR.out.size
      clear hc1 hc2
      cases h5 : okS (sumA (good xs)) (sumC (good xs)) with
      | true =>
        have hE : (rE (sumA (good xs)) (sumC (good xs)) != 0) = false := by rw [(r_yes h5).2.2]; rfl
        replace h5 := Lib.hid h5
        go_wp2_with fail
        refine (total_at _ _ _ _ (rB (sumA (good xs)) (sumC (good xs))) (rP (sumA (good xs)) (sumC (good xs))) (rE (sumA (good xs)) (sumC (good xs))) hlen hyok.out hR.out.hl rfl rfl rfl).mono ?_; rintro e w' ⟨rfl, hw⟩; obtain rfl := hw.symm
        clear hw
        go_wp2_with fail
        refine (total_rev _ _ _ _ (rB (sumA (good xs)) (sumC (good xs))) (rP (sumA (good xs)) (sumC (good xs))) (rE (sumA (good xs)) (sumC (good xs))) hlen hyok.out hR.out.hm rfl rfl rfl).mono ?_; rintro e w' ⟨rfl, hw⟩; obtain rfl := hw.symm
        clear hw
        go_wp2_with fail
        refine (awake_any _).mono ?_; rintro e w' ⟨rfl, hw⟩; obtain rfl := hw.symm
        clear hw
        go_wp2_with fail
        refine (same_any (rB (sumA (good xs)) (sumC (good xs))) (rP (sumA (good xs)) (sumC (good xs))) (rE (sumA (good xs)) (sumC (good xs))) _ (okS_r _ _) (by first | exact rE_01 _ _ | omega)).mono ?_; rintro e w' ⟨rfl, kk, rfl⟩
        go_wp2_with fail
        go_ret
        refine ⟨rfl, ?_⟩
        repeat (first | with_reducible exact hbx.out | with_reducible refine Below.drew ?_ | with_reducible refine below_N ?_ | (with_reducible refine below_set ?_ ?_; · (dsimp only; (first | omega | (simp; done) | (simp; omega)))) | (with_reducible refine below_alloc ?_ ?_; · (first | omega | (simp; done) | (simp; omega))))
      | false =>
        have hl0 := eql_same (a := 0) (b := 0) (ok_lit (by omega))
        have p := r_no h5
        rw [p.2.2]
        rw [p.1] at hd0
        rw [p.2.1] at hd1
        replace p := Lib.hid p
        replace h5 := Lib.hid h5
        go_wp2_with fail
        refine (total_at _ _ _ _ (0) (0) (12) hlen hyok.out hR.out.hl p.out.1 p.out.2.1 p.out.2.2).mono ?_; rintro e w' ⟨rfl, hw⟩; obtain rfl := hw.symm
        clear hw
        go_wp2_with fail
        refine (total_rev _ _ _ _ (0) (0) (12) hlen hyok.out hR.out.hm p.out.1 p.out.2.1 p.out.2.2).mono ?_; rintro e w' ⟨rfl, hw⟩; obtain rfl := hw.symm
        clear hw
        go_wp2_with fail
        refine (awake_any _).mono ?_; rintro e w' ⟨rfl, hw⟩; obtain rfl := hw.symm
        clear hw
        go_wp2_with fail
        refine (same_any (0) (0) (12) _ (ok_lit (by omega)) (by first | exact rE_01 _ _ | omega)).mono ?_; rintro e w' ⟨rfl, kk, rfl⟩
        go_wp2_with fail
        go_ret
        refine ⟨rfl, ?_⟩
        repeat (first | with_reducible exact hbx.out | with_reducible refine Below.drew ?_ | with_reducible refine below_N ?_ | (with_reducible refine below_set ?_ ?_; · (dsimp only; (first | omega | (simp; done) | (simp; omega)))) | (with_reducible refine below_alloc ?_ ?_; · (first | omega | (simp; done) | (simp; omega))))

end Go.Proofs.Ytlabnphdfdaadaa
