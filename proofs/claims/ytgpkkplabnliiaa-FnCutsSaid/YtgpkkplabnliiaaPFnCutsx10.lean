/- Each Go function here comes to what the plain function of its name says, where that says something. Made by a program of this session, over the print. -/
import Derived.Test.YtgpkkplabnliiaaPFnCutsx9
namespace Go.Proofs.Ytgpkkplabnliiaa.PFnCuts
open Go.RowKit Go.Proofs.YtgpkkplabnliiaaW.PrintWords Go.Proofs.YtgpkkplabnliiaaW.PrintLast Go.Proofs.YtgpkkplabnliiaaW.PrintMore
attribute [local go_sem] max2_int min2_int max_two min_two max_three min_three max_four min_four   -- for this text's walks alone
set_option linter.unusedVariables false
set_option linter.unusedSimpArgs false

set_option maxHeartbeats 8000000 in
set_option maxRecDepth 100000 in
theorem laws_FnCuts.part2 : laws_FnCuts.part1.1 := by
  intro k A0 c0 l0 r w hu44 HR0 HC0 iq1_1 A2 iq1_2 t423 t426 t429 t430 t431 t434 t435 iq1_3 A4 t437 t440 t443 t444 t445 H A5 c6b0 c6b1 t447 t450 t453 t454 t455 A7 c8b0 c8b1 iq1_4 nd w10 gb436 w11 GW436 GE436 Ao12 co12 hcz13_0 hcz13_1 hcz13_2 hcz13_3 hfz13_0 hfz13_1 hfz13_2 hfz13_3 Ao14 co14 Ao15 co15 w16 gb446 w17 GW446 GE446 NB436_446 NB446_436 Ao18 co18 hnb19 hnc19 hcz20_0 hcz20_1 hcz20_2 hcz20_3 hfz20_0 hfz20_1 hfz20_2 hfz20_3 Ao21 co21 hcz22_0 hcz22_1 hcz22_2 hcz22_3 hfz22_0 hfz22_1 hfz22_2 hfz22_3 w23 gb456 w24 HO433 iq1_5 iq1_6 iq1_7 iq1_8 GW456 GE456 NB436_456 NB456_436 NB446_456 NB456_446 Ao25 co25 HO425 HO439 HO449 hnb26 hnc26 hnb27 hnc27 hcz28_0 hcz28_1 hcz28_2 hcz28_3 hfz28_0 hfz28_1 hfz28_2 hfz28_3 Ao29 co29 HO428 HO442 HO452 iq1_9 iq1_10 iq1_11 iq1_12 wc u9 u14 u15 u16 u17 u18 u19 u20 u21 u22 u23 u24 u25 u26 u27 u28 u29 u30 u31 u32 u33 u34 u35 u36 u37 u38 u39 u40 u41 u42 u43 u44 u45 u46 u47 u48 u49 u50 u51 u52 u53 u54 u55 u56 u57 u58 u59 u60 u61 u62 u63 u65 u66 u67 u68 u69 u70 u71 u72 u73 u74 u75 u76 u77 u78 u79 u80 u81 u82 u83 u84 u85 u86 u87 u88 u89 u90 u91 u92 u93 u94 u95 u96 u97 u98 u99 u100 u101 u102 u103 u104 u105 u106 u107 u108 u109 u110 u111 u112 u113 u114 u115 u116 u117 u118 u119 u120 u121 u122 u123 u124 u125 u126 u127 u128 u129 u130 u131 u132 u133 u134 u135 u136 u137 u138 u139 kq x64_8 HA HJ8 HO_4 HO_437000 HO_437001 HO_447000 HO_447001 HO_457000 HO_457001 BK436 BK446 BK456 HB
  cases kq with
  | zero => exact absurd HA.out (by simp [laws_FnCuts.j0])
  | succ kj8 =>
    have H := HA.out; clear HA
    simp only [laws_FnCuts.j0] at H
    by_cases c47 : x64_8 = true
    · subst c47
      have H1 : (some false) = some r := by rw [if_pos rfl] at H; exact H
      clear H; have H := H1; clear H1; obtain rfl := Option.some.inj H
      go_wp2
      repeat (go_quiet (fail); try go_wp2)
      go_ret
      exact ⟨by first | rfl | (simp <;> rfl) | (simp [*] <;> rfl), kR1 HB⟩
    · replace c47 := Bool.eq_false_iff.mpr c47
      subst c47
      have H1 : (laws_FnCuts.l0 kj8 t431 t434 0 t423 t426 t429 t430 t437 t440 t443 t444) = some r := by rw [if_neg (show ¬ (false = true) by decide)] at H; exact H
      clear H; have H := H1; clear H1
      have H' := yD H
      clear H
      go_wp2
      repeat (go_quiet (fail); try go_wp2)
      go_loopg [11] kj8 (fun kq v11 w' => ∃ (x11_2 : Int), v11 = .int .i64 x11_2 ∧ Aside0 (laws_FnCuts.l0 kq t431 t434 x11_2 t423 t426 t429 t430 t437 t440 t443 t444 = some r) ∧ Aside0 (kq ≤ kj8) ∧ Aside0 (Kd.R Kd.bool 4 w' w.heap.size (fun _ => True) (.slice Ao15 t431.length co15) t431) ∧ Aside0 (Kd.R Kd.string 9 w' w.heap.size (fun k_ => some k_ ≠ ((.slice Ao18 t437.length co18) : Value).ownBlock ∧ some k_ ≠ ((.slice Ao25 t447.length co25) : Value).ownBlock) (.slice Ao12 t423.length co12) t423) ∧ Aside0 (Kd.R k57 57 w' w.heap.size (fun k_ => some k_ ≠ ((.slice Ao21 t440.length co21) : Value).ownBlock ∧ some k_ ≠ ((.slice Ao29 t450.length co29) : Value).ownBlock) (.slice Ao14 t426.length co14) t426) ∧ Aside0 (Kd.R Kd.string 9 w' w.heap.size (fun k_ => some k_ ≠ ((.slice Ao12 t423.length co12) : Value).ownBlock ∧ some k_ ≠ ((.slice Ao25 t447.length co25) : Value).ownBlock) (.slice Ao18 t437.length co18) t437) ∧ Aside0 (Kd.R k57 57 w' w.heap.size (fun k_ => some k_ ≠ ((.slice Ao14 t426.length co14) : Value).ownBlock ∧ some k_ ≠ ((.slice Ao29 t450.length co29) : Value).ownBlock) (.slice Ao21 t440.length co21) t440) ∧ Aside0 (Kd.R Kd.string 9 w' w.heap.size (fun k_ => some k_ ≠ ((.slice Ao12 t423.length co12) : Value).ownBlock ∧ some k_ ≠ ((.slice Ao18 t437.length co18) : Value).ownBlock) (.slice Ao25 t447.length co25) t447) ∧ Aside0 (Kd.R k57 57 w' w.heap.size (fun k_ => some k_ ≠ ((.slice Ao14 t426.length co14) : Value).ownBlock ∧ some k_ ≠ ((.slice Ao21 t440.length co21) : Value).ownBlock) (.slice Ao29 t450.length co29) t450) ∧ Aside0 (w'.heap[gb436]? = some (.cells #[(.slice Ao12 t423.length co12), (.slice Ao14 t426.length co14), .int .i64 t429, .bool t430] 44 (0, 0))) ∧ Aside0 (w'.heap[gb446]? = some (.cells #[(.slice Ao18 t437.length co18), (.slice Ao21 t440.length co21), .int .i64 t443, .bool t444] 44 (0, 0))) ∧ Aside0 (w'.heap[gb456]? = some (.cells #[(.slice Ao25 t447.length co25), (.slice Ao29 t450.length co29), .int .i64 t453, .bool t454] 44 (0, 0))) ∧ Aside0 (Below w.heap.size w w'))
      case atStart => exact ⟨(0), (by first | rfl | (simp; done) | (simp [*]; done)), H', ⟨Nat.le_refl _⟩, ⟨by (with_reducible repeat (first | apply yA | apply yB | apply yC)); exact HO_4.out⟩, ⟨by (with_reducible repeat (first | apply yA | apply yB | apply yC)); exact HO_437000.out⟩, ⟨by (with_reducible repeat (first | apply yA | apply yB | apply yC)); exact HO_437001.out⟩, ⟨by (with_reducible repeat (first | apply yA | apply yB | apply yC)); exact HO_447000.out⟩, ⟨by (with_reducible repeat (first | apply yA | apply yB | apply yC)); exact HO_447001.out⟩, ⟨by (with_reducible repeat (first | apply yA | apply yB | apply yC)); exact HO_457000.out⟩, ⟨by (with_reducible repeat (first | apply yA | apply yB | apply yC)); exact HO_457001.out⟩, ⟨by (with_reducible repeat (first | refine yM ?_ _ | refine yO ?_ | refine yN ?_ _)); exact BK436.out⟩, ⟨by (with_reducible repeat (first | refine yM ?_ _ | refine yO ?_ | refine yN ?_ _)); exact BK446.out⟩, ⟨by (with_reducible repeat (first | refine yM ?_ _ | refine yO ?_ | refine yN ?_ _)); exact BK456.out⟩, ⟨kR1 HB⟩⟩
      case round =>
        clear H'
        try clear c1; try clear c2; try clear p2; try clear c3; try clear c4; try clear c5; try clear c6; try clear c6b0; try clear c6b1; try clear c8; try clear c8b0; try clear c8b1; try clear c19; try clear c26; try clear c27; try clear c30; try clear c30b0; try clear c30b1; try clear c30b2; try clear c31; try clear c32; try clear c33; try clear c35; try clear c35b0; try clear c35b1; try clear c36; try clear c37; try clear c39; try clear c41; try clear c42; try clear c44; try clear c45; try clear c47; try clear hcz13_0; try clear hcz13_1; try clear hcz13_2; try clear hcz13_3; try clear hcz20_0; try clear hcz20_1; try clear hcz20_2; try clear hcz20_3; try clear hcz22_0; try clear hcz22_1; try clear hcz22_2; try clear hcz22_3; try clear hcz28_0; try clear hcz28_1; try clear hcz28_2; try clear hcz28_3; try clear hcz34_0; try clear hcz34_1; try clear hcz34_2; try clear hcz34_3; try clear hcz38_0; try clear hcz38_1; try clear hcz38_2; try clear hcz38_3; try clear hcz40_0; try clear hcz40_1; try clear hcz40_2; try clear hcz40_3; try clear hcz43_0; try clear hcz43_1; try clear hcz43_2; try clear hcz43_3; try clear hcz46_0; try clear hcz46_1; try clear hcz46_2; try clear hcz46_3; try clear hfz13_0; try clear hfz13_1; try clear hfz13_2; try clear hfz13_3; try clear hfz20_0; try clear hfz20_1; try clear hfz20_2; try clear hfz20_3; try clear hfz22_0; try clear hfz22_1; try clear hfz22_2; try clear hfz22_3; try clear hfz28_0; try clear hfz28_1; try clear hfz28_2; try clear hfz28_3; try clear hfz34_0; try clear hfz34_1; try clear hfz34_2; try clear hfz34_3; try clear hfz38_0; try clear hfz38_1; try clear hfz38_2; try clear hfz38_3; try clear hfz40_0; try clear hfz40_1; try clear hfz40_2; try clear hfz40_3; try clear hfz43_0; try clear hfz43_1; try clear hfz43_2; try clear hfz43_3; try clear hfz46_0; try clear hfz46_1; try clear hfz46_2; try clear hfz46_3; try clear p2
        obtain ⟨x11_2, rfl, HA, HK2, HO_4, HO_437000, HO_437001, HO_447000, HO_447001, HO_457000, HO_457001, BK436, BK446, BK456, HB⟩ := hrel
        cases gk with
        | zero => exact absurd HA.out (by simp [laws_FnCuts.l0])
        | succ k2 =>
          have H := HA.out; clear HA
          simp only [laws_FnCuts.l0] at H
          by_cases c48 : x11_2 < (t423.length : Int)
          · rw [if_pos c48] at H
            have c48b0 : decide (x11_2 < (t423.length : Int)) = true := zR c48; clear c48
            by_cases c49 : 0 ≤ x11_2
            · rw [if_pos c49] at H
              have c49b0 : decide (0 ≤ x11_2) = true := zR c49; clear c49
              by_cases c50 : x11_2 < (t437.length : Int)
              · rw [if_pos c50] at H
                have c50b0 : decide (x11_2 < (t437.length : Int)) = true := zR c50; clear c50
                have H' := yD H
                clear H; have hnb51 := NB436_446.out; have hnc51 := NB446_436.out; have hnb52 := NB436_456.out; have hnc52 := NB456_436.out
                obtain ⟨hcz53_0, hcz53_1, hcz53_2, hcz53_3⟩ := cz4 BK436.out
                obtain ⟨hfz53_0, hfz53_1, hfz53_2, hfz53_3⟩ := fz4 BK436.out
                have hnb54 := NB446_456.out; have hnc54 := NB456_446.out
                obtain ⟨hcz55_0, hcz55_1, hcz55_2, hcz55_3⟩ := cz4 BK446.out
                obtain ⟨hfz55_0, hfz55_1, hfz55_2, hfz55_3⟩ := fz4 BK446.out
                have p457 : 0 ≤ (x11_2 : Int) := zP (by assumption)
                have q457 : x11_2 < (t437.length : Int) := zP (by assumption)
                obtain ⟨ad457, e457, hx457_0⟩ := Kd.at_string (zA HO_447000.out).2.2 x11_2 p457 q457
                cases e457; replace p457 := eq_true p457; replace q457 := eq_true q457
                have p458 : 0 ≤ (x11_2 : Int) := zP (by assumption)
                have q458 : x11_2 < (t423.length : Int) := zP (by assumption)
                obtain ⟨ad458, e458, hx458_0⟩ := Kd.at_string (zA HO_437000.out).2.2 x11_2 p458 q458
                cases e458; replace p458 := eq_true p458; replace q458 := eq_true q458
                go_wp2
                repeat (go_quiet (fail); try go_wp2)
                go_loopg [12, 13] k2 (fun kq v12 v13 w' => ∃ (x12_3 : Bool) (x13_3 : Int), v12 = .bool x12_3 ∧ v13 = .int .i64 x13_3 ∧ Aside0 (laws_FnCuts.l1 kq t431 t434 x11_2 x12_3 x13_3 t423 t426 t429 t430 t437 t440 t443 t444 = some r) ∧ Aside0 (kq ≤ k2) ∧ Aside0 (Kd.R Kd.bool 4 w' w.heap.size (fun _ => True) (.slice Ao15 t431.length co15) t431) ∧ Aside0 (Kd.R Kd.string 9 w' w.heap.size (fun k_ => some k_ ≠ ((.slice (some ad457) t437.length co18) : Value).ownBlock ∧ some k_ ≠ ((.slice Ao25 t447.length co25) : Value).ownBlock) (.slice (some ad458) t423.length co12) t423) ∧ Aside0 (Kd.R k57 57 w' w.heap.size (fun k_ => some k_ ≠ ((.slice Ao21 t440.length co21) : Value).ownBlock ∧ some k_ ≠ ((.slice Ao29 t450.length co29) : Value).ownBlock) (.slice Ao14 t426.length co14) t426) ∧ Aside0 (Kd.R Kd.string 9 w' w.heap.size (fun k_ => some k_ ≠ ((.slice (some ad458) t423.length co12) : Value).ownBlock ∧ some k_ ≠ ((.slice Ao25 t447.length co25) : Value).ownBlock) (.slice (some ad457) t437.length co18) t437) ∧ Aside0 (Kd.R k57 57 w' w.heap.size (fun k_ => some k_ ≠ ((.slice Ao14 t426.length co14) : Value).ownBlock ∧ some k_ ≠ ((.slice Ao29 t450.length co29) : Value).ownBlock) (.slice Ao21 t440.length co21) t440) ∧ Aside0 (Kd.R Kd.string 9 w' w.heap.size (fun k_ => some k_ ≠ ((.slice (some ad458) t423.length co12) : Value).ownBlock ∧ some k_ ≠ ((.slice (some ad457) t437.length co18) : Value).ownBlock) (.slice Ao25 t447.length co25) t447) ∧ Aside0 (Kd.R k57 57 w' w.heap.size (fun k_ => some k_ ≠ ((.slice Ao14 t426.length co14) : Value).ownBlock ∧ some k_ ≠ ((.slice Ao21 t440.length co21) : Value).ownBlock) (.slice Ao29 t450.length co29) t450) ∧ Aside0 (w'.heap[gb436]? = some (.cells #[(.slice (some ad458) t423.length co12), (.slice Ao14 t426.length co14), .int .i64 t429, .bool t430] 44 (0, 0))) ∧ Aside0 (w'.heap[gb446]? = some (.cells #[(.slice (some ad457) t437.length co18), (.slice Ao21 t440.length co21), .int .i64 t443, .bool t444] 44 (0, 0))) ∧ Aside0 (w'.heap[gb456]? = some (.cells #[(.slice Ao25 t447.length co25), (.slice Ao29 t450.length co29), .int .i64 t453, .bool t454] 44 (0, 0))) ∧ Aside0 (Below w.heap.size w w'))
                case atStart => exact ⟨(((rdOf ByteArray.empty t437 x11_2).toList == (rdOf ByteArray.empty t423 x11_2).toList)), (0), (by first | rfl | (simp; done) | (simp [*]; done)), (by first | rfl | (simp; done) | (simp [*]; done)), H', ⟨Nat.le_refl _⟩, ⟨by (with_reducible repeat (first | apply yA | apply yB | apply yC)); exact HO_4.out⟩, ⟨by (with_reducible repeat (first | apply yA | apply yB | apply yC)); exact HO_437000.out⟩, ⟨by (with_reducible repeat (first | apply yA | apply yB | apply yC)); exact HO_437001.out⟩, ⟨by (with_reducible repeat (first | apply yA | apply yB | apply yC)); exact HO_447000.out⟩, ⟨by (with_reducible repeat (first | apply yA | apply yB | apply yC)); exact HO_447001.out⟩, ⟨by (with_reducible repeat (first | apply yA | apply yB | apply yC)); exact HO_457000.out⟩, ⟨by (with_reducible repeat (first | apply yA | apply yB | apply yC)); exact HO_457001.out⟩, ⟨by (with_reducible repeat (first | refine yM ?_ _ | refine yO ?_ | refine yN ?_ _)); exact BK436.out⟩, ⟨by (with_reducible repeat (first | refine yM ?_ _ | refine yO ?_ | refine yN ?_ _)); exact BK446.out⟩, ⟨by (with_reducible repeat (first | refine yM ?_ _ | refine yO ?_ | refine yN ?_ _)); exact BK456.out⟩, ⟨kR1 HB⟩⟩
                case round =>
                  clear H'
                  try clear c1; try clear c2; try clear p2; try clear c3; try clear c4; try clear p4; try clear q4; try clear hx4; try clear c5; try clear c6; try clear c6b0; try clear c6b1; try clear c8; try clear c8b0; try clear c8b1; try clear c19; try clear c26; try clear c27; try clear c30; try clear c30b0; try clear c30b1; try clear c30b2; try clear c31; try clear c32; try clear c33; try clear c35; try clear c35b0; try clear c35b1; try clear c36; try clear c37; try clear c39; try clear c41; try clear c42; try clear c44; try clear c45; try clear p45; try clear q45; try clear hx45; try clear c47; try clear c48; try clear c48b0; try clear c49; try clear c49b0; try clear c50; try clear c50b0; try clear c51; try clear c52; try clear c54; try clear hcz13_0; try clear hcz13_1; try clear hcz13_2; try clear hcz13_3; try clear hcz20_0; try clear hcz20_1; try clear hcz20_2; try clear hcz20_3; try clear hcz22_0; try clear hcz22_1; try clear hcz22_2; try clear hcz22_3; try clear hcz28_0; try clear hcz28_1; try clear hcz28_2; try clear hcz28_3; try clear hcz34_0; try clear hcz34_1; try clear hcz34_2; try clear hcz34_3; try clear hcz38_0; try clear hcz38_1; try clear hcz38_2; try clear hcz38_3; try clear hcz40_0; try clear hcz40_1; try clear hcz40_2; try clear hcz40_3; try clear hcz43_0; try clear hcz43_1; try clear hcz43_2; try clear hcz43_3; try clear hcz46_0; try clear hcz46_1; try clear hcz46_2; try clear hcz46_3; try clear hcz53_0; try clear hcz53_1; try clear hcz53_2; try clear hcz53_3; try clear hcz55_0; try clear hcz55_1; try clear hcz55_2; try clear hcz55_3; try clear hfz13_0; try clear hfz13_1; try clear hfz13_2; try clear hfz13_3; try clear hfz20_0; try clear hfz20_1; try clear hfz20_2; try clear hfz20_3; try clear hfz22_0; try clear hfz22_1; try clear hfz22_2; try clear hfz22_3; try clear hfz28_0; try clear hfz28_1; try clear hfz28_2; try clear hfz28_3; try clear hfz34_0; try clear hfz34_1; try clear hfz34_2; try clear hfz34_3; try clear hfz38_0; try clear hfz38_1; try clear hfz38_2; try clear hfz38_3; try clear hfz40_0; try clear hfz40_1; try clear hfz40_2; try clear hfz40_3; try clear hfz43_0; try clear hfz43_1; try clear hfz43_2; try clear hfz43_3; try clear hfz46_0; try clear hfz46_1; try clear hfz46_2; try clear hfz46_3; try clear hfz53_0; try clear hfz53_1; try clear hfz53_2; try clear hfz53_3; try clear hfz55_0; try clear hfz55_1; try clear hfz55_2; try clear hfz55_3; try clear hx457_0; try clear hx458_0; try clear p2; try clear p457; try clear p458; try clear q457; try clear q458
                  obtain ⟨x12_3, x13_3, rfl, rfl, HA, HK3, HO_4, HO_437000, HO_437001, HO_447000, HO_447001, HO_457000, HO_457001, BK436, BK446, BK456, HB⟩ := hrel
                  cases gk with
                  | zero => exact absurd HA.out (by simp [laws_FnCuts.l1])
                  | succ k3 =>
                    have H := HA.out; clear HA
                    simp only [laws_FnCuts.l1] at H
                    by_cases c56 : x13_3 < (t426.length : Int)
                    · rw [if_pos c56] at H
                      have c56b0 : decide (x13_3 < (t426.length : Int)) = true := zR c56; clear c56
                      by_cases c57 : 0 ≤ x13_3
                      · rw [if_pos c57] at H
                        have c57b0 : decide (0 ≤ x13_3) = true := zR c57; clear c57
                        by_cases c58 : ((rd_T57 t426 x13_3).f0) = x11_2
                        · rw [if_pos c58] at H
                          have c58b0 : (((rd_T57 t426 x13_3).f0) == x11_2) = true := beq_iff_eq.mpr c58
                          have c58b1 : (((rd_T57 t426 x13_3).f0) != x11_2) = false := bne_eq_false_iff_eq.mpr c58
                          clear c58
                          by_cases c59 : x12_3 = true
                          · subst c59
                            have H1 : (laws_FnCuts.l1 k3 t431 t434 x11_2 true (wrap64 (x13_3 + 1)) t423 t426 t429 t430 t437 t440 t443 t444) = some r := by rw [if_pos rfl] at H; exact H
                            clear H; have H := H1; clear H1
                            have H' := yD H
                            clear H; have hnb60 := NB436_446.out; have hnc60 := NB446_436.out; have hnb61 := NB436_456.out; have hnc61 := NB456_436.out
                            obtain ⟨hcz62_0, hcz62_1, hcz62_2, hcz62_3⟩ := cz4 BK436.out
                            obtain ⟨hfz62_0, hfz62_1, hfz62_2, hfz62_3⟩ := fz4 BK436.out
                            have p459 : 0 ≤ (x13_3 : Int) := zP (by assumption)
                            have q459 : x13_3 < (t426.length : Int) := zP (by assumption)
                            obtain ⟨ad459, e459, hx459_0, hx459_1⟩ := at_T57 (zA HO_437001.out).2.2 x13_3 p459 q459
                            cases e459; replace p459 := eq_true p459; replace q459 := eq_true q459
                            go_wp2
                            repeat (go_quiet (fail); try go_wp2)
                            go_roundg k3
                            case measure => have := HJ8.out; have := HK2.out; have := HK3.out; omega
                            case rel => exact ⟨(true), (wrap64 (x13_3 + 1)), (by first | rfl | (simp; done) | (simp [*]; done)), (by first | rfl | (simp; done) | (simp [*]; done)), H', ⟨by have := HJ8.out; have := HK2.out; have := HK3.out; omega⟩, ⟨by (with_reducible repeat (first | apply yA | apply yB | apply yC)); exact HO_4.out⟩, ⟨by (with_reducible repeat (first | apply yA | apply yB | apply yC)); exact HO_437000.out⟩, ⟨by (with_reducible repeat (first | apply yA | apply yB | apply yC)); exact HO_437001.out⟩, ⟨by (with_reducible repeat (first | apply yA | apply yB | apply yC)); exact HO_447000.out⟩, ⟨by (with_reducible repeat (first | apply yA | apply yB | apply yC)); exact HO_447001.out⟩, ⟨by (with_reducible repeat (first | apply yA | apply yB | apply yC)); exact HO_457000.out⟩, ⟨by (with_reducible repeat (first | apply yA | apply yB | apply yC)); exact HO_457001.out⟩, ⟨by (with_reducible repeat (first | refine yM ?_ _ | refine yO ?_ | refine yN ?_ _)); exact BK436.out⟩, ⟨by (with_reducible repeat (first | refine yM ?_ _ | refine yO ?_ | refine yN ?_ _)); exact BK446.out⟩, ⟨by (with_reducible repeat (first | refine yM ?_ _ | refine yO ?_ | refine yN ?_ _)); exact BK456.out⟩, ⟨kR1 HB⟩⟩
                          · replace c59 := Bool.eq_false_iff.mpr c59
                            subst c59
                            have H1 : (if x13_3 < (t431.length : Int) then (if rdOf false t431 x13_3 = true then (if 0 ≤ x11_2 then (if x11_2 < (t437.length : Int) then (if (rdOf ByteArray.empty t437 x11_2).toList = ((rd_T57 t426 x13_3).f1).toList then (laws_FnCuts.l1 k3 t431 t434 x11_2 true (wrap64 (x13_3 + 1)) t423 t426 t429 t430 t437 t440 t443 t444) else (if x13_3 = t434 then (laws_FnCuts.l1 k3 t431 t434 x11_2 true (wrap64 (x13_3 + 1)) t423 t426 t429 t430 t437 t440 t443 t444) else (if t434 ≥ 0 then (if 0 ≤ t434 then (if t434 < (t426.length : Int) then (laws_FnCuts.l1 k3 t431 t434 x11_2 (((rd_T57 t426 t434).f0) == x11_2) (wrap64 (x13_3 + 1)) t423 t426 t429 t430 t437 t440 t443 t444) else (none)) else (none)) else (laws_FnCuts.l1 k3 t431 t434 x11_2 false (wrap64 (x13_3 + 1)) t423 t426 t429 t430 t437 t440 t443 t444)))) else (none)) else (none)) else (if x13_3 = t434 then (laws_FnCuts.l1 k3 t431 t434 x11_2 true (wrap64 (x13_3 + 1)) t423 t426 t429 t430 t437 t440 t443 t444) else (if t434 ≥ 0 then (if 0 ≤ t434 then (if t434 < (t426.length : Int) then (laws_FnCuts.l1 k3 t431 t434 x11_2 (((rd_T57 t426 t434).f0) == x11_2) (wrap64 (x13_3 + 1)) t423 t426 t429 t430 t437 t440 t443 t444) else (none)) else (none)) else (laws_FnCuts.l1 k3 t431 t434 x11_2 false (wrap64 (x13_3 + 1)) t423 t426 t429 t430 t437 t440 t443 t444)))) else (none)) = some r := by rw [if_neg (show ¬ (false = true) by decide)] at H; exact H
                            clear H; have H := H1; clear H1
                            by_cases c63 : x13_3 < (t431.length : Int)
                            · rw [if_pos c63] at H
                              have c63b0 : decide (x13_3 < (t431.length : Int)) = true := zR c63; clear c63
                              obtain ⟨bq64, hbq64⟩ : ∃ b_ : Bool, b_ = (rdOf false t431 x13_3) := ⟨_, rfl⟩
                              replace H : (if bq64 = true then (if 0 ≤ x11_2 then (if x11_2 < (t437.length : Int) then (if (rdOf ByteArray.empty t437 x11_2).toList = ((rd_T57 t426 x13_3).f1).toList then (laws_FnCuts.l1 k3 t431 t434 x11_2 true (wrap64 (x13_3 + 1)) t423 t426 t429 t430 t437 t440 t443 t444) else (if x13_3 = t434 then (laws_FnCuts.l1 k3 t431 t434 x11_2 true (wrap64 (x13_3 + 1)) t423 t426 t429 t430 t437 t440 t443 t444) else (if t434 ≥ 0 then (if 0 ≤ t434 then (if t434 < (t426.length : Int) then (laws_FnCuts.l1 k3 t431 t434 x11_2 (((rd_T57 t426 t434).f0) == x11_2) (wrap64 (x13_3 + 1)) t423 t426 t429 t430 t437 t440 t443 t444) else (none)) else (none)) else (laws_FnCuts.l1 k3 t431 t434 x11_2 false (wrap64 (x13_3 + 1)) t423 t426 t429 t430 t437 t440 t443 t444)))) else (none)) else (none)) else (if x13_3 = t434 then (laws_FnCuts.l1 k3 t431 t434 x11_2 true (wrap64 (x13_3 + 1)) t423 t426 t429 t430 t437 t440 t443 t444) else (if t434 ≥ 0 then (if 0 ≤ t434 then (if t434 < (t426.length : Int) then (laws_FnCuts.l1 k3 t431 t434 x11_2 (((rd_T57 t426 t434).f0) == x11_2) (wrap64 (x13_3 + 1)) t423 t426 t429 t430 t437 t440 t443 t444) else (none)) else (none)) else (laws_FnCuts.l1 k3 t431 t434 x11_2 false (wrap64 (x13_3 + 1)) t423 t426 t429 t430 t437 t440 t443 t444)))) = some r := by rw [← hbq64] at H; exact H
                              have Nbq64 := yD hbq64
                              clear hbq64
                              by_cases c65 : bq64 = true
                              · subst c65
                                have H1 : (if 0 ≤ x11_2 then (if x11_2 < (t437.length : Int) then (if (rdOf ByteArray.empty t437 x11_2).toList = ((rd_T57 t426 x13_3).f1).toList then (laws_FnCuts.l1 k3 t431 t434 x11_2 true (wrap64 (x13_3 + 1)) t423 t426 t429 t430 t437 t440 t443 t444) else (if x13_3 = t434 then (laws_FnCuts.l1 k3 t431 t434 x11_2 true (wrap64 (x13_3 + 1)) t423 t426 t429 t430 t437 t440 t443 t444) else (if t434 ≥ 0 then (if 0 ≤ t434 then (if t434 < (t426.length : Int) then (laws_FnCuts.l1 k3 t431 t434 x11_2 (((rd_T57 t426 t434).f0) == x11_2) (wrap64 (x13_3 + 1)) t423 t426 t429 t430 t437 t440 t443 t444) else (none)) else (none)) else (laws_FnCuts.l1 k3 t431 t434 x11_2 false (wrap64 (x13_3 + 1)) t423 t426 t429 t430 t437 t440 t443 t444)))) else (none)) else (none)) = some r := by rw [if_pos rfl] at H; exact H
                                clear H; have H := H1; clear H1
                                by_cases c66 : 0 ≤ x11_2
                                · rw [if_pos c66] at H
                                  have c66b0 : decide (0 ≤ x11_2) = true := zR c66; clear c66
                                  by_cases c67 : x11_2 < (t437.length : Int)
                                  · rw [if_pos c67] at H
                                    have c67b0 : decide (x11_2 < (t437.length : Int)) = true := zR c67; clear c67
                                    by_cases c68 : (rdOf ByteArray.empty t437 x11_2).toList = ((rd_T57 t426 x13_3).f1).toList
                                    · rw [if_pos c68] at H
                                      have c68b0 : ((rdOf ByteArray.empty t437 x11_2).toList == ((rd_T57 t426 x13_3).f1).toList) = true := beq_iff_eq.mpr c68
                                      have c68b1 : ((rdOf ByteArray.empty t437 x11_2).toList != ((rd_T57 t426 x13_3).f1).toList) = false := bne_eq_false_iff_eq.mpr c68
                                      clear c68
                                      have H' := yD H
                                      clear H; have hnb69 := NB436_446.out; have hnc69 := NB446_436.out; have hnb70 := NB436_456.out; have hnc70 := NB456_436.out
                                      obtain ⟨hcz71_0, hcz71_1, hcz71_2, hcz71_3⟩ := cz4 BK436.out
                                      obtain ⟨hfz71_0, hfz71_1, hfz71_2, hfz71_3⟩ := fz4 BK436.out
                                      have p459 : 0 ≤ (x13_3 : Int) := zP (by assumption)
                                      have q459 : x13_3 < (t426.length : Int) := zP (by assumption)
                                      obtain ⟨ad459, e459, hx459_0, hx459_1⟩ := at_T57 (zA HO_437001.out).2.2 x13_3 p459 q459
                                      cases e459; replace p459 := eq_true p459; replace q459 := eq_true q459
                                      have p460 : 0 ≤ (x13_3 : Int) := zP (by assumption)
                                      have q460 : x13_3 < (t431.length : Int) := zP (by assumption)
                                      obtain ⟨ad460, e460, hx460_0⟩ := Kd.at_bool (zA HO_4.out).2.2 x13_3 p460 q460
                                      (try rw [← Nbq64.out] at hx460_0)
                                      cases e460; replace p460 := eq_true p460; replace q460 := eq_true q460; have hnb72 := NB446_456.out; have hnc72 := NB456_446.out
                                      obtain ⟨hcz73_0, hcz73_1, hcz73_2, hcz73_3⟩ := cz4 BK446.out
                                      obtain ⟨hfz73_0, hfz73_1, hfz73_2, hfz73_3⟩ := fz4 BK446.out
                                      have p461 : 0 ≤ (x11_2 : Int) := zP (by assumption)
                                      have q461 : x11_2 < (t437.length : Int) := zP (by assumption)
                                      obtain ⟨ad461, e461, hx461_0⟩ := Kd.at_string (zA HO_447000.out).2.2 x11_2 p461 q461
                                      obtain rfl : ad457 = ad461 := (by injection e461)
                                      replace p461 := eq_true p461; replace q461 := eq_true q461
                                      have p462 : 0 ≤ (x13_3 : Int) := zP (by assumption)
                                      have q462 : x13_3 < (t426.length : Int) := zP (by assumption)
                                      obtain ⟨ad462, e462, hx462_0, hx462_1⟩ := at_T57 (zA HO_437001.out).2.2 x13_3 p462 q462
                                      obtain rfl : ad459 = ad462 := (by injection e462)
                                      replace p462 := eq_true p462; replace q462 := eq_true q462
                                      go_wp2
                                      repeat (go_quiet (fail); try go_wp2)
                                      go_roundg k3
                                      case measure => have := HJ8.out; have := HK2.out; have := HK3.out; omega
                                      case rel => exact ⟨(true), (wrap64 (x13_3 + 1)), (by first | rfl | (simp; done) | (simp [*]; done)), (by first | rfl | (simp; done) | (simp [*]; done)), H', ⟨by have := HJ8.out; have := HK2.out; have := HK3.out; omega⟩, ⟨by (with_reducible repeat (first | apply yA | apply yB | apply yC)); exact HO_4.out⟩, ⟨by (with_reducible repeat (first | apply yA | apply yB | apply yC)); exact HO_437000.out⟩, ⟨by (with_reducible repeat (first | apply yA | apply yB | apply yC)); exact HO_437001.out⟩, ⟨by (with_reducible repeat (first | apply yA | apply yB | apply yC)); exact HO_447000.out⟩, ⟨by (with_reducible repeat (first | apply yA | apply yB | apply yC)); exact HO_447001.out⟩, ⟨by (with_reducible repeat (first | apply yA | apply yB | apply yC)); exact HO_457000.out⟩, ⟨by (with_reducible repeat (first | apply yA | apply yB | apply yC)); exact HO_457001.out⟩, ⟨by (with_reducible repeat (first | refine yM ?_ _ | refine yO ?_ | refine yN ?_ _)); exact BK436.out⟩, ⟨by (with_reducible repeat (first | refine yM ?_ _ | refine yO ?_ | refine yN ?_ _)); exact BK446.out⟩, ⟨by (with_reducible repeat (first | refine yM ?_ _ | refine yO ?_ | refine yN ?_ _)); exact BK456.out⟩, ⟨kR1 HB⟩⟩
                                    · rw [if_neg c68] at H
                                      have c68b0 : ((rdOf ByteArray.empty t437 x11_2).toList == ((rd_T57 t426 x13_3).f1).toList) = false := beq_eq_false_iff_ne.mpr c68
                                      have c68b1 : ((rdOf ByteArray.empty t437 x11_2).toList != ((rd_T57 t426 x13_3).f1).toList) = true := bne_iff_ne.mpr c68
                                      by_cases c74 : x13_3 = t434
                                      · rw [if_pos c74] at H
                                        have c74b0 : (x13_3 == t434) = true := beq_iff_eq.mpr c74
                                        have c74b1 : (x13_3 != t434) = false := bne_eq_false_iff_eq.mpr c74
                                        clear c74
                                        have H' := yD H
                                        clear H; have hnb75 := NB436_446.out; have hnc75 := NB446_436.out; have hnb76 := NB436_456.out; have hnc76 := NB456_436.out
                                        obtain ⟨hcz77_0, hcz77_1, hcz77_2, hcz77_3⟩ := cz4 BK436.out
                                        obtain ⟨hfz77_0, hfz77_1, hfz77_2, hfz77_3⟩ := fz4 BK436.out
                                        have p459 : 0 ≤ (x13_3 : Int) := zP (by assumption)
                                        have q459 : x13_3 < (t426.length : Int) := zP (by assumption)
                                        obtain ⟨ad459, e459, hx459_0, hx459_1⟩ := at_T57 (zA HO_437001.out).2.2 x13_3 p459 q459
                                        cases e459; replace p459 := eq_true p459; replace q459 := eq_true q459
                                        have p460 : 0 ≤ (x13_3 : Int) := zP (by assumption)
                                        have q460 : x13_3 < (t431.length : Int) := zP (by assumption)
                                        obtain ⟨ad460, e460, hx460_0⟩ := Kd.at_bool (zA HO_4.out).2.2 x13_3 p460 q460
                                        (try rw [← Nbq64.out] at hx460_0)
                                        cases e460; replace p460 := eq_true p460; replace q460 := eq_true q460; have hnb78 := NB446_456.out; have hnc78 := NB456_446.out
                                        obtain ⟨hcz79_0, hcz79_1, hcz79_2, hcz79_3⟩ := cz4 BK446.out
                                        obtain ⟨hfz79_0, hfz79_1, hfz79_2, hfz79_3⟩ := fz4 BK446.out
                                        have p461 : 0 ≤ (x11_2 : Int) := zP (by assumption)
                                        have q461 : x11_2 < (t437.length : Int) := zP (by assumption)
                                        obtain ⟨ad461, e461, hx461_0⟩ := Kd.at_string (zA HO_447000.out).2.2 x11_2 p461 q461
                                        obtain rfl : ad457 = ad461 := (by injection e461)
                                        replace p461 := eq_true p461; replace q461 := eq_true q461
                                        have p462 : 0 ≤ (x13_3 : Int) := zP (by assumption)
                                        have q462 : x13_3 < (t426.length : Int) := zP (by assumption)
                                        obtain ⟨ad462, e462, hx462_0, hx462_1⟩ := at_T57 (zA HO_437001.out).2.2 x13_3 p462 q462
                                        obtain rfl : ad459 = ad462 := (by injection e462)
                                        replace p462 := eq_true p462; replace q462 := eq_true q462
                                        go_wp2
                                        repeat (go_quiet (fail); try go_wp2)
                                        go_roundg k3
                                        case measure => have := HJ8.out; have := HK2.out; have := HK3.out; omega
                                        case rel => exact ⟨(true), (wrap64 (x13_3 + 1)), (by first | rfl | (simp; done) | (simp [*]; done)), (by first | rfl | (simp; done) | (simp [*]; done)), H', ⟨by have := HJ8.out; have := HK2.out; have := HK3.out; omega⟩, ⟨by (with_reducible repeat (first | apply yA | apply yB | apply yC)); exact HO_4.out⟩, ⟨by (with_reducible repeat (first | apply yA | apply yB | apply yC)); exact HO_437000.out⟩, ⟨by (with_reducible repeat (first | apply yA | apply yB | apply yC)); exact HO_437001.out⟩, ⟨by (with_reducible repeat (first | apply yA | apply yB | apply yC)); exact HO_447000.out⟩, ⟨by (with_reducible repeat (first | apply yA | apply yB | apply yC)); exact HO_447001.out⟩, ⟨by (with_reducible repeat (first | apply yA | apply yB | apply yC)); exact HO_457000.out⟩, ⟨by (with_reducible repeat (first | apply yA | apply yB | apply yC)); exact HO_457001.out⟩, ⟨by (with_reducible repeat (first | refine yM ?_ _ | refine yO ?_ | refine yN ?_ _)); exact BK436.out⟩, ⟨by (with_reducible repeat (first | refine yM ?_ _ | refine yO ?_ | refine yN ?_ _)); exact BK446.out⟩, ⟨by (with_reducible repeat (first | refine yM ?_ _ | refine yO ?_ | refine yN ?_ _)); exact BK456.out⟩, ⟨kR1 HB⟩⟩
                                      · rw [if_neg c74] at H
                                        have c74b0 : (x13_3 == t434) = false := beq_eq_false_iff_ne.mpr c74
                                        have c74b1 : (x13_3 != t434) = true := bne_iff_ne.mpr c74
                                        by_cases c80 : t434 ≥ 0
                                        · rw [if_pos c80] at H
                                          have c80b0 : decide (0 ≤ t434) = true := zR c80; clear c80
                                          by_cases c81 : 0 ≤ t434
                                          · rw [if_pos c81] at H
                                            have c81b0 : decide (0 ≤ t434) = true := zR c81; clear c81
                                            by_cases c82 : t434 < (t426.length : Int)
                                            · rw [if_pos c82] at H
                                              have c82b0 : decide (t434 < (t426.length : Int)) = true := zR c82; clear c82
                                              have H' := yD H
                                              clear H; have hnb83 := NB436_446.out; have hnc83 := NB446_436.out; have hnb84 := NB436_456.out; have hnc84 := NB456_436.out
                                              obtain ⟨hcz85_0, hcz85_1, hcz85_2, hcz85_3⟩ := cz4 BK436.out
                                              obtain ⟨hfz85_0, hfz85_1, hfz85_2, hfz85_3⟩ := fz4 BK436.out
                                              have p459 : 0 ≤ (x13_3 : Int) := zP (by assumption)
                                              have q459 : x13_3 < (t426.length : Int) := zP (by assumption)
                                              obtain ⟨ad459, e459, hx459_0, hx459_1⟩ := at_T57 (zA HO_437001.out).2.2 x13_3 p459 q459
                                              cases e459; replace p459 := eq_true p459; replace q459 := eq_true q459
                                              have p460 : 0 ≤ (x13_3 : Int) := zP (by assumption)
                                              have q460 : x13_3 < (t431.length : Int) := zP (by assumption)
                                              obtain ⟨ad460, e460, hx460_0⟩ := Kd.at_bool (zA HO_4.out).2.2 x13_3 p460 q460
                                              (try rw [← Nbq64.out] at hx460_0)
                                              cases e460; replace p460 := eq_true p460; replace q460 := eq_true q460; have hnb86 := NB446_456.out; have hnc86 := NB456_446.out
                                              obtain ⟨hcz87_0, hcz87_1, hcz87_2, hcz87_3⟩ := cz4 BK446.out
                                              obtain ⟨hfz87_0, hfz87_1, hfz87_2, hfz87_3⟩ := fz4 BK446.out
                                              have p461 : 0 ≤ (x11_2 : Int) := zP (by assumption)
                                              have q461 : x11_2 < (t437.length : Int) := zP (by assumption)
                                              obtain ⟨ad461, e461, hx461_0⟩ := Kd.at_string (zA HO_447000.out).2.2 x11_2 p461 q461
                                              obtain rfl : ad457 = ad461 := (by injection e461)
                                              replace p461 := eq_true p461; replace q461 := eq_true q461
                                              have p462 : 0 ≤ (x13_3 : Int) := zP (by assumption)
                                              have q462 : x13_3 < (t426.length : Int) := zP (by assumption)
                                              obtain ⟨ad462, e462, hx462_0, hx462_1⟩ := at_T57 (zA HO_437001.out).2.2 x13_3 p462 q462
                                              obtain rfl : ad459 = ad462 := (by injection e462)
                                              replace p462 := eq_true p462; replace q462 := eq_true q462
                                              have p463 : 0 ≤ (t434 : Int) := zP (by assumption)
                                              have q463 : t434 < (t426.length : Int) := zP (by assumption)
                                              obtain ⟨ad463, e463, hx463_0, hx463_1⟩ := at_T57 (zA HO_437001.out).2.2 t434 p463 q463
                                              obtain rfl : ad459 = ad463 := (by injection e463)
                                              replace p463 := eq_true p463; replace q463 := eq_true q463
                                              go_wp2
                                              repeat (go_quiet (fail); try go_wp2)
                                              go_roundg k3
                                              case measure => have := HJ8.out; have := HK2.out; have := HK3.out; omega
                                              case rel => exact ⟨((((rd_T57 t426 t434).f0) == x11_2)), (wrap64 (x13_3 + 1)), (by first | rfl | (simp; done) | (simp [*]; done)), (by first | rfl | (simp; done) | (simp [*]; done)), H', ⟨by have := HJ8.out; have := HK2.out; have := HK3.out; omega⟩, ⟨by (with_reducible repeat (first | apply yA | apply yB | apply yC)); exact HO_4.out⟩, ⟨by (with_reducible repeat (first | apply yA | apply yB | apply yC)); exact HO_437000.out⟩, ⟨by (with_reducible repeat (first | apply yA | apply yB | apply yC)); exact HO_437001.out⟩, ⟨by (with_reducible repeat (first | apply yA | apply yB | apply yC)); exact HO_447000.out⟩, ⟨by (with_reducible repeat (first | apply yA | apply yB | apply yC)); exact HO_447001.out⟩, ⟨by (with_reducible repeat (first | apply yA | apply yB | apply yC)); exact HO_457000.out⟩, ⟨by (with_reducible repeat (first | apply yA | apply yB | apply yC)); exact HO_457001.out⟩, ⟨by (with_reducible repeat (first | refine yM ?_ _ | refine yO ?_ | refine yN ?_ _)); exact BK436.out⟩, ⟨by (with_reducible repeat (first | refine yM ?_ _ | refine yO ?_ | refine yN ?_ _)); exact BK446.out⟩, ⟨by (with_reducible repeat (first | refine yM ?_ _ | refine yO ?_ | refine yN ?_ _)); exact BK456.out⟩, ⟨kR1 HB⟩⟩
                                            · rw [if_neg c82] at H
                                              exact absurd H (by simp)
                                          · rw [if_neg c81] at H
                                            exact absurd H (by simp)
                                        · rw [if_neg c80] at H
                                          have c80b0 : decide (0 ≤ t434) = false := zS c80; clear c80
                                          have H' := yD H
                                          clear H; have hnb88 := NB436_446.out; have hnc88 := NB446_436.out; have hnb89 := NB436_456.out; have hnc89 := NB456_436.out
                                          obtain ⟨hcz90_0, hcz90_1, hcz90_2, hcz90_3⟩ := cz4 BK436.out
                                          obtain ⟨hfz90_0, hfz90_1, hfz90_2, hfz90_3⟩ := fz4 BK436.out
                                          have p459 : 0 ≤ (x13_3 : Int) := zP (by assumption)
                                          have q459 : x13_3 < (t426.length : Int) := zP (by assumption)
                                          obtain ⟨ad459, e459, hx459_0, hx459_1⟩ := at_T57 (zA HO_437001.out).2.2 x13_3 p459 q459
                                          cases e459; replace p459 := eq_true p459; replace q459 := eq_true q459
                                          have p460 : 0 ≤ (x13_3 : Int) := zP (by assumption)
                                          have q460 : x13_3 < (t431.length : Int) := zP (by assumption)
                                          obtain ⟨ad460, e460, hx460_0⟩ := Kd.at_bool (zA HO_4.out).2.2 x13_3 p460 q460
                                          (try rw [← Nbq64.out] at hx460_0)
                                          cases e460; replace p460 := eq_true p460; replace q460 := eq_true q460; have hnb91 := NB446_456.out; have hnc91 := NB456_446.out
                                          obtain ⟨hcz92_0, hcz92_1, hcz92_2, hcz92_3⟩ := cz4 BK446.out
                                          obtain ⟨hfz92_0, hfz92_1, hfz92_2, hfz92_3⟩ := fz4 BK446.out
                                          have p461 : 0 ≤ (x11_2 : Int) := zP (by assumption)
                                          have q461 : x11_2 < (t437.length : Int) := zP (by assumption)
                                          obtain ⟨ad461, e461, hx461_0⟩ := Kd.at_string (zA HO_447000.out).2.2 x11_2 p461 q461
                                          obtain rfl : ad457 = ad461 := (by injection e461)
                                          replace p461 := eq_true p461; replace q461 := eq_true q461
                                          have p462 : 0 ≤ (x13_3 : Int) := zP (by assumption)
                                          have q462 : x13_3 < (t426.length : Int) := zP (by assumption)
                                          obtain ⟨ad462, e462, hx462_0, hx462_1⟩ := at_T57 (zA HO_437001.out).2.2 x13_3 p462 q462
                                          obtain rfl : ad459 = ad462 := (by injection e462)
                                          replace p462 := eq_true p462; replace q462 := eq_true q462
                                          go_wp2
                                          repeat (go_quiet (fail); try go_wp2)
                                          go_roundg k3
                                          case measure => have := HJ8.out; have := HK2.out; have := HK3.out; omega
                                          case rel => exact ⟨(false), (wrap64 (x13_3 + 1)), (by first | rfl | (simp; done) | (simp [*]; done)), (by first | rfl | (simp; done) | (simp [*]; done)), H', ⟨by have := HJ8.out; have := HK2.out; have := HK3.out; omega⟩, ⟨by (with_reducible repeat (first | apply yA | apply yB | apply yC)); exact HO_4.out⟩, ⟨by (with_reducible repeat (first | apply yA | apply yB | apply yC)); exact HO_437000.out⟩, ⟨by (with_reducible repeat (first | apply yA | apply yB | apply yC)); exact HO_437001.out⟩, ⟨by (with_reducible repeat (first | apply yA | apply yB | apply yC)); exact HO_447000.out⟩, ⟨by (with_reducible repeat (first | apply yA | apply yB | apply yC)); exact HO_447001.out⟩, ⟨by (with_reducible repeat (first | apply yA | apply yB | apply yC)); exact HO_457000.out⟩, ⟨by (with_reducible repeat (first | apply yA | apply yB | apply yC)); exact HO_457001.out⟩, ⟨by (with_reducible repeat (first | refine yM ?_ _ | refine yO ?_ | refine yN ?_ _)); exact BK436.out⟩, ⟨by (with_reducible repeat (first | refine yM ?_ _ | refine yO ?_ | refine yN ?_ _)); exact BK446.out⟩, ⟨by (with_reducible repeat (first | refine yM ?_ _ | refine yO ?_ | refine yN ?_ _)); exact BK456.out⟩, ⟨kR1 HB⟩⟩
                                  · rw [if_neg c67] at H
                                    exact absurd H (by simp)
                                · rw [if_neg c66] at H
                                  exact absurd H (by simp)
                              · replace c65 := Bool.eq_false_iff.mpr c65
                                subst c65
                                have H1 : (if x13_3 = t434 then (laws_FnCuts.l1 k3 t431 t434 x11_2 true (wrap64 (x13_3 + 1)) t423 t426 t429 t430 t437 t440 t443 t444) else (if t434 ≥ 0 then (if 0 ≤ t434 then (if t434 < (t426.length : Int) then (laws_FnCuts.l1 k3 t431 t434 x11_2 (((rd_T57 t426 t434).f0) == x11_2) (wrap64 (x13_3 + 1)) t423 t426 t429 t430 t437 t440 t443 t444) else (none)) else (none)) else (laws_FnCuts.l1 k3 t431 t434 x11_2 false (wrap64 (x13_3 + 1)) t423 t426 t429 t430 t437 t440 t443 t444))) = some r := by rw [if_neg (show ¬ (false = true) by decide)] at H; exact H
                                clear H; have H := H1; clear H1
                                by_cases c93 : x13_3 = t434
                                · rw [if_pos c93] at H
                                  have c93b0 : (x13_3 == t434) = true := beq_iff_eq.mpr c93
                                  have c93b1 : (x13_3 != t434) = false := bne_eq_false_iff_eq.mpr c93
                                  clear c93
                                  have H' := yD H
                                  clear H; have hnb94 := NB436_446.out; have hnc94 := NB446_436.out; have hnb95 := NB436_456.out; have hnc95 := NB456_436.out
                                  obtain ⟨hcz96_0, hcz96_1, hcz96_2, hcz96_3⟩ := cz4 BK436.out
                                  obtain ⟨hfz96_0, hfz96_1, hfz96_2, hfz96_3⟩ := fz4 BK436.out
                                  have p459 : 0 ≤ (x13_3 : Int) := zP (by assumption)
                                  have q459 : x13_3 < (t426.length : Int) := zP (by assumption)
                                  obtain ⟨ad459, e459, hx459_0, hx459_1⟩ := at_T57 (zA HO_437001.out).2.2 x13_3 p459 q459
                                  cases e459; replace p459 := eq_true p459; replace q459 := eq_true q459
                                  have p460 : 0 ≤ (x13_3 : Int) := zP (by assumption)
                                  have q460 : x13_3 < (t431.length : Int) := zP (by assumption)
                                  obtain ⟨ad460, e460, hx460_0⟩ := Kd.at_bool (zA HO_4.out).2.2 x13_3 p460 q460
                                  (try rw [← Nbq64.out] at hx460_0)
                                  cases e460; replace p460 := eq_true p460; replace q460 := eq_true q460
                                  go_wp2
                                  repeat (go_quiet (fail); try go_wp2)
                                  go_roundg k3
                                  case measure => have := HJ8.out; have := HK2.out; have := HK3.out; omega
                                  case rel => exact ⟨(true), (wrap64 (x13_3 + 1)), (by first | rfl | (simp; done) | (simp [*]; done)), (by first | rfl | (simp; done) | (simp [*]; done)), H', ⟨by have := HJ8.out; have := HK2.out; have := HK3.out; omega⟩, ⟨by (with_reducible repeat (first | apply yA | apply yB | apply yC)); exact HO_4.out⟩, ⟨by (with_reducible repeat (first | apply yA | apply yB | apply yC)); exact HO_437000.out⟩, ⟨by (with_reducible repeat (first | apply yA | apply yB | apply yC)); exact HO_437001.out⟩, ⟨by (with_reducible repeat (first | apply yA | apply yB | apply yC)); exact HO_447000.out⟩, ⟨by (with_reducible repeat (first | apply yA | apply yB | apply yC)); exact HO_447001.out⟩, ⟨by (with_reducible repeat (first | apply yA | apply yB | apply yC)); exact HO_457000.out⟩, ⟨by (with_reducible repeat (first | apply yA | apply yB | apply yC)); exact HO_457001.out⟩, ⟨by (with_reducible repeat (first | refine yM ?_ _ | refine yO ?_ | refine yN ?_ _)); exact BK436.out⟩, ⟨by (with_reducible repeat (first | refine yM ?_ _ | refine yO ?_ | refine yN ?_ _)); exact BK446.out⟩, ⟨by (with_reducible repeat (first | refine yM ?_ _ | refine yO ?_ | refine yN ?_ _)); exact BK456.out⟩, ⟨kR1 HB⟩⟩
                                · rw [if_neg c93] at H
                                  have c93b0 : (x13_3 == t434) = false := beq_eq_false_iff_ne.mpr c93
                                  have c93b1 : (x13_3 != t434) = true := bne_iff_ne.mpr c93
                                  by_cases c97 : t434 ≥ 0
                                  · rw [if_pos c97] at H
                                    have c97b0 : decide (0 ≤ t434) = true := zR c97; clear c97
                                    by_cases c98 : 0 ≤ t434
                                    · rw [if_pos c98] at H
                                      have c98b0 : decide (0 ≤ t434) = true := zR c98; clear c98
                                      by_cases c99 : t434 < (t426.length : Int)
                                      · rw [if_pos c99] at H
                                        have c99b0 : decide (t434 < (t426.length : Int)) = true := zR c99; clear c99
                                        have H' := yD H
                                        clear H; have hnb100 := NB436_446.out; have hnc100 := NB446_436.out; have hnb101 := NB436_456.out; have hnc101 := NB456_436.out
                                        obtain ⟨hcz102_0, hcz102_1, hcz102_2, hcz102_3⟩ := cz4 BK436.out
                                        obtain ⟨hfz102_0, hfz102_1, hfz102_2, hfz102_3⟩ := fz4 BK436.out
                                        have p459 : 0 ≤ (x13_3 : Int) := zP (by assumption)
                                        have q459 : x13_3 < (t426.length : Int) := zP (by assumption)
                                        obtain ⟨ad459, e459, hx459_0, hx459_1⟩ := at_T57 (zA HO_437001.out).2.2 x13_3 p459 q459
                                        cases e459; replace p459 := eq_true p459; replace q459 := eq_true q459
                                        have p460 : 0 ≤ (x13_3 : Int) := zP (by assumption)
                                        have q460 : x13_3 < (t431.length : Int) := zP (by assumption)
                                        obtain ⟨ad460, e460, hx460_0⟩ := Kd.at_bool (zA HO_4.out).2.2 x13_3 p460 q460
                                        (try rw [← Nbq64.out] at hx460_0)
                                        cases e460; replace p460 := eq_true p460; replace q460 := eq_true q460
                                        have p464 : 0 ≤ (t434 : Int) := zP (by assumption)
                                        have q464 : t434 < (t426.length : Int) := zP (by assumption)
                                        obtain ⟨ad464, e464, hx464_0, hx464_1⟩ := at_T57 (zA HO_437001.out).2.2 t434 p464 q464
                                        obtain rfl : ad459 = ad464 := (by injection e464)
                                        replace p464 := eq_true p464; replace q464 := eq_true q464
                                        go_wp2
                                        repeat (go_quiet (fail); try go_wp2)
                                        go_roundg k3
                                        case measure => have := HJ8.out; have := HK2.out; have := HK3.out; omega
                                        case rel => exact ⟨((((rd_T57 t426 t434).f0) == x11_2)), (wrap64 (x13_3 + 1)), (by first | rfl | (simp; done) | (simp [*]; done)), (by first | rfl | (simp; done) | (simp [*]; done)), H', ⟨by have := HJ8.out; have := HK2.out; have := HK3.out; omega⟩, ⟨by (with_reducible repeat (first | apply yA | apply yB | apply yC)); exact HO_4.out⟩, ⟨by (with_reducible repeat (first | apply yA | apply yB | apply yC)); exact HO_437000.out⟩, ⟨by (with_reducible repeat (first | apply yA | apply yB | apply yC)); exact HO_437001.out⟩, ⟨by (with_reducible repeat (first | apply yA | apply yB | apply yC)); exact HO_447000.out⟩, ⟨by (with_reducible repeat (first | apply yA | apply yB | apply yC)); exact HO_447001.out⟩, ⟨by (with_reducible repeat (first | apply yA | apply yB | apply yC)); exact HO_457000.out⟩, ⟨by (with_reducible repeat (first | apply yA | apply yB | apply yC)); exact HO_457001.out⟩, ⟨by (with_reducible repeat (first | refine yM ?_ _ | refine yO ?_ | refine yN ?_ _)); exact BK436.out⟩, ⟨by (with_reducible repeat (first | refine yM ?_ _ | refine yO ?_ | refine yN ?_ _)); exact BK446.out⟩, ⟨by (with_reducible repeat (first | refine yM ?_ _ | refine yO ?_ | refine yN ?_ _)); exact BK456.out⟩, ⟨kR1 HB⟩⟩
                                      · rw [if_neg c99] at H
                                        exact absurd H (by simp)
                                    · rw [if_neg c98] at H
                                      exact absurd H (by simp)
                                  · rw [if_neg c97] at H
                                    have c97b0 : decide (0 ≤ t434) = false := zS c97; clear c97
                                    have H' := yD H
                                    clear H; have hnb103 := NB436_446.out; have hnc103 := NB446_436.out; have hnb104 := NB436_456.out; have hnc104 := NB456_436.out
                                    obtain ⟨hcz105_0, hcz105_1, hcz105_2, hcz105_3⟩ := cz4 BK436.out
                                    obtain ⟨hfz105_0, hfz105_1, hfz105_2, hfz105_3⟩ := fz4 BK436.out
                                    have p459 : 0 ≤ (x13_3 : Int) := zP (by assumption)
                                    have q459 : x13_3 < (t426.length : Int) := zP (by assumption)
                                    obtain ⟨ad459, e459, hx459_0, hx459_1⟩ := at_T57 (zA HO_437001.out).2.2 x13_3 p459 q459
                                    cases e459; replace p459 := eq_true p459; replace q459 := eq_true q459
                                    have p460 : 0 ≤ (x13_3 : Int) := zP (by assumption)
                                    have q460 : x13_3 < (t431.length : Int) := zP (by assumption)
                                    obtain ⟨ad460, e460, hx460_0⟩ := Kd.at_bool (zA HO_4.out).2.2 x13_3 p460 q460
                                    (try rw [← Nbq64.out] at hx460_0)
                                    cases e460; replace p460 := eq_true p460; replace q460 := eq_true q460
                                    go_wp2
                                    repeat (go_quiet (fail); try go_wp2)
                                    go_roundg k3
                                    case measure => have := HJ8.out; have := HK2.out; have := HK3.out; omega
                                    case rel => exact ⟨(false), (wrap64 (x13_3 + 1)), (by first | rfl | (simp; done) | (simp [*]; done)), (by first | rfl | (simp; done) | (simp [*]; done)), H', ⟨by have := HJ8.out; have := HK2.out; have := HK3.out; omega⟩, ⟨by (with_reducible repeat (first | apply yA | apply yB | apply yC)); exact HO_4.out⟩, ⟨by (with_reducible repeat (first | apply yA | apply yB | apply yC)); exact HO_437000.out⟩, ⟨by (with_reducible repeat (first | apply yA | apply yB | apply yC)); exact HO_437001.out⟩, ⟨by (with_reducible repeat (first | apply yA | apply yB | apply yC)); exact HO_447000.out⟩, ⟨by (with_reducible repeat (first | apply yA | apply yB | apply yC)); exact HO_447001.out⟩, ⟨by (with_reducible repeat (first | apply yA | apply yB | apply yC)); exact HO_457000.out⟩, ⟨by (with_reducible repeat (first | apply yA | apply yB | apply yC)); exact HO_457001.out⟩, ⟨by (with_reducible repeat (first | refine yM ?_ _ | refine yO ?_ | refine yN ?_ _)); exact BK436.out⟩, ⟨by (with_reducible repeat (first | refine yM ?_ _ | refine yO ?_ | refine yN ?_ _)); exact BK446.out⟩, ⟨by (with_reducible repeat (first | refine yM ?_ _ | refine yO ?_ | refine yN ?_ _)); exact BK456.out⟩, ⟨kR1 HB⟩⟩
                            · rw [if_neg c63] at H
                              exact absurd H (by simp)
                        · rw [if_neg c58] at H
                          have c58b0 : (((rd_T57 t426 x13_3).f0) == x11_2) = false := beq_eq_false_iff_ne.mpr c58
                          have c58b1 : (((rd_T57 t426 x13_3).f0) != x11_2) = true := bne_iff_ne.mpr c58
                          have H' := yD H
                          clear H; have hnb106 := NB436_446.out; have hnc106 := NB446_436.out; have hnb107 := NB436_456.out; have hnc107 := NB456_436.out
                          obtain ⟨hcz108_0, hcz108_1, hcz108_2, hcz108_3⟩ := cz4 BK436.out
                          obtain ⟨hfz108_0, hfz108_1, hfz108_2, hfz108_3⟩ := fz4 BK436.out
                          have p459 : 0 ≤ (x13_3 : Int) := zP (by assumption)
                          have q459 : x13_3 < (t426.length : Int) := zP (by assumption)
                          obtain ⟨ad459, e459, hx459_0, hx459_1⟩ := at_T57 (zA HO_437001.out).2.2 x13_3 p459 q459
                          cases e459; replace p459 := eq_true p459; replace q459 := eq_true q459
                          go_wp2
                          repeat (go_quiet (fail); try go_wp2)
                          go_roundg k3
                          case measure => have := HJ8.out; have := HK2.out; have := HK3.out; omega
                          case rel => exact ⟨(x12_3), (wrap64 (x13_3 + 1)), (by first | rfl | (simp; done) | (simp [*]; done)), (by first | rfl | (simp; done) | (simp [*]; done)), H', ⟨by have := HJ8.out; have := HK2.out; have := HK3.out; omega⟩, ⟨by (with_reducible repeat (first | apply yA | apply yB | apply yC)); exact HO_4.out⟩, ⟨by (with_reducible repeat (first | apply yA | apply yB | apply yC)); exact HO_437000.out⟩, ⟨by (with_reducible repeat (first | apply yA | apply yB | apply yC)); exact HO_437001.out⟩, ⟨by (with_reducible repeat (first | apply yA | apply yB | apply yC)); exact HO_447000.out⟩, ⟨by (with_reducible repeat (first | apply yA | apply yB | apply yC)); exact HO_447001.out⟩, ⟨by (with_reducible repeat (first | apply yA | apply yB | apply yC)); exact HO_457000.out⟩, ⟨by (with_reducible repeat (first | apply yA | apply yB | apply yC)); exact HO_457001.out⟩, ⟨by (with_reducible repeat (first | refine yM ?_ _ | refine yO ?_ | refine yN ?_ _)); exact BK436.out⟩, ⟨by (with_reducible repeat (first | refine yM ?_ _ | refine yO ?_ | refine yN ?_ _)); exact BK446.out⟩, ⟨by (with_reducible repeat (first | refine yM ?_ _ | refine yO ?_ | refine yN ?_ _)); exact BK456.out⟩, ⟨kR1 HB⟩⟩
                      · rw [if_neg c57] at H
                        exact absurd H (by simp)
                    · rw [if_neg c56] at H
                      have c56b0 : decide (x13_3 < (t426.length : Int)) = false := zS c56; clear c56
                      by_cases c109 : x12_3 = true
                      · subst c109
                        have H1 : (laws_FnCuts.l0 k3 t431 t434 (wrap64 (x11_2 + 1)) t423 t426 t429 t430 t437 t440 t443 t444) = some r := by rw [if_pos rfl] at H; exact H
                        clear H; have H := H1; clear H1
                        have H' := yD H
                        clear H; have hnb110 := NB436_446.out; have hnc110 := NB446_436.out; have hnb111 := NB436_456.out; have hnc111 := NB456_436.out
                        obtain ⟨hcz112_0, hcz112_1, hcz112_2, hcz112_3⟩ := cz4 BK436.out
                        obtain ⟨hfz112_0, hfz112_1, hfz112_2, hfz112_3⟩ := fz4 BK436.out
                        go_wp2
                        repeat (go_quiet (fail); try go_wp2)
                        go_roundg k3
                        case measure => have := HJ8.out; have := HK2.out; have := HK3.out; omega
                        case rel => exact ⟨(wrap64 (x11_2 + 1)), (by first | rfl | (simp; done) | (simp [*]; done)), H', ⟨by have := HJ8.out; have := HK2.out; have := HK3.out; omega⟩, ⟨by (with_reducible repeat (first | apply yA | apply yB | apply yC)); exact HO_4.out⟩, ⟨by (with_reducible repeat (first | apply yA | apply yB | apply yC)); exact HO_437000.out⟩, ⟨by (with_reducible repeat (first | apply yA | apply yB | apply yC)); exact HO_437001.out⟩, ⟨by (with_reducible repeat (first | apply yA | apply yB | apply yC)); exact HO_447000.out⟩, ⟨by (with_reducible repeat (first | apply yA | apply yB | apply yC)); exact HO_447001.out⟩, ⟨by (with_reducible repeat (first | apply yA | apply yB | apply yC)); exact HO_457000.out⟩, ⟨by (with_reducible repeat (first | apply yA | apply yB | apply yC)); exact HO_457001.out⟩, ⟨by (with_reducible repeat (first | refine yM ?_ _ | refine yO ?_ | refine yN ?_ _)); exact BK436.out⟩, ⟨by (with_reducible repeat (first | refine yM ?_ _ | refine yO ?_ | refine yN ?_ _)); exact BK446.out⟩, ⟨by (with_reducible repeat (first | refine yM ?_ _ | refine yO ?_ | refine yN ?_ _)); exact BK456.out⟩, ⟨kR1 HB⟩⟩
                      · replace c109 := Bool.eq_false_iff.mpr c109
                        subst c109
                        have H1 : (some false) = some r := by rw [if_neg (show ¬ (false = true) by decide)] at H; exact H
                        clear H; have H := H1; clear H1; obtain rfl := Option.some.inj H; have hnb113 := NB436_446.out; have hnc113 := NB446_436.out; have hnb114 := NB436_456.out; have hnc114 := NB456_436.out
                        obtain ⟨hcz115_0, hcz115_1, hcz115_2, hcz115_3⟩ := cz4 BK436.out
                        obtain ⟨hfz115_0, hfz115_1, hfz115_2, hfz115_3⟩ := fz4 BK436.out
                        go_wp2
                        repeat (go_quiet (fail); try go_wp2)
                        go_ret
                        exact ⟨by first | rfl | (simp <;> rfl) | (simp [*] <;> rfl), kR1 HB⟩
              · rw [if_neg c50] at H
                exact absurd H (by simp)
            · rw [if_neg c49] at H
              exact absurd H (by simp)
          · rw [if_neg c48] at H
            have c48b0 : decide (x11_2 < (t423.length : Int)) = false := zS c48; clear c48; obtain rfl := Option.some.inj H; have hnb116 := NB436_446.out; have hnc116 := NB446_436.out; have hnb117 := NB436_456.out; have hnc117 := NB456_436.out
            obtain ⟨hcz118_0, hcz118_1, hcz118_2, hcz118_3⟩ := cz4 BK436.out
            obtain ⟨hfz118_0, hfz118_1, hfz118_2, hfz118_3⟩ := fz4 BK436.out
            go_wp2
            repeat (go_quiet (fail); try go_wp2)
            go_ret
            exact ⟨by first | rfl | (simp <;> rfl) | (simp [*] <;> rfl), kR1 HB⟩
theorem laws_FnCuts.calls (k : Nat) (A0 : Option Addr) (c0 : Nat) (l0 : List Int) (r : Bool) (w : World) (hr0 : Kd.C (Kd.int .u8) w A0 l0.length l0) (hc0 : l0.length ≤ c0) (h : laws_FnCuts.f k l0 = some r) :
    Calls Try.prog 5 #[.slice A0 l0.length c0] w fun e w' => e = .returned (.bool r) ∧ Below w.heap.size w w' := (laws_FnCuts.part1.2 ⟨laws_FnCuts.part2⟩) k A0 c0 l0 r w hr0 hc0 h
/-- THE ONE PURE STATEMENT of laws_FnCuts: ours. -/
def laws_FnCuts.Pure : Prop := ∀ (l0 : List Int), (l0.length ≤ maxLen ∧ ∀ x_ ∈ l0, (Lit.int .u8 x_).wf = true) → ∃ k, laws_FnCuts.f k l0 = some true
theorem laws_FnCuts.walk (P : laws_FnCuts.Pure) (A0 : Option Addr) (c0 : Nat) (l0 : List Int) (w : World) (hr0 : Kd.C (Kd.int .u8) w A0 l0.length l0) (hc0 : l0.length ≤ c0) (o0 : (l0.length ≤ maxLen ∧ ∀ x_ ∈ l0, (Lit.int .u8 x_).wf = true)) :
    Calls Try.prog 5 #[.slice A0 l0.length c0] w fun e w' => e = .returned (.bool true) ∧ Below w.heap.size w w' := by
  obtain ⟨k, h⟩ := P l0 o0
  refine (laws_FnCuts.calls k _ _ l0 true w hr0 hc0 h).mono ?_
  rintro e w' ⟨rfl, hd⟩
  exact ⟨rfl, hd⟩

end Go.Proofs.Ytgpkkplabnliiaa.PFnCuts
