/- Each Go function here comes to what the plain function of its name says, where that says something. Made by a program of this session, over the print. -/
import Derived.Test.YtgpkkplabnliiaaPFnExactCutPowerx11
namespace Go.Proofs.Ytgpkkplabnliiaa.PFnExactCutPower
open Go.RowKit Go.Proofs.YtgpkkplabnliiaaW.PrintWords Go.Proofs.YtgpkkplabnliiaaW.PrintLast Go.Proofs.YtgpkkplabnliiaaW.PrintMore
attribute [local go_sem] max2_int min2_int max_two min_two max_three min_three max_four min_four   -- for this text's walks alone
set_option linter.unusedVariables false
set_option linter.unusedSimpArgs false

set_option maxHeartbeats 8000000 in
set_option maxRecDepth 100000 in
theorem laws_FnExactCutPower.part4 : laws_FnExactCutPower.part3.1 := by
  intro k A0_0 c0_0 l0_0 A0_1 c0_1 l0_1 a0_2 a0_3 A1 c1 l1 a2 a3 r w hu39 hu44 HR0_0 HC0_0 HR0_1 HC0_1 HR1 HC1 iq1_1 c5b0 c5b1 t276 iq1_2 A7 c8b0 t277 t280 t283 t284 iq1_3 A12 t285 iq1_4 A13 t288 t291 t294 t295 t296 iq1_5 A14 t298 t301 t304 t305 iq1_6 A15 t307 iq2_1 A16 t310 t313 t316 t317 t318 A17 iq1_7 gb275 w19 GW275 GE275 hcz20_0 hcz20_1 hcz20_2 hcz20_3 hfz20_0 hfz20_1 hfz20_2 hfz20_3 w21 hcz22_0 hcz22_1 hcz22_2 hcz22_3 hfz22_0 hfz22_1 hfz22_2 hfz22_3 w23 w24 Ao25 co25 Ao26 co26 Ao27 co27 w28 gb297 w29 GW297 GE297 NB275_297 NB297_275 Ao30 co30 hnb31 hnc31 hcz32_0 hcz32_1 hcz32_2 hcz32_3 hfz32_0 hfz32_1 hfz32_2 hfz32_3 Ao33 co33 hcz34_0 hcz34_1 hcz34_2 hcz34_3 hfz34_0 hfz34_1 hfz34_2 hfz34_3 w35 gb306 w36 GW306 GE306 NB275_306 NB306_275 NB297_306 NB306_297 Ao37 co37 hnb38 hnc38 hnb39 hnc39 hcz40_0 hcz40_1 hcz40_2 hcz40_3 hfz40_0 hfz40_1 hfz40_2 hfz40_3 Ao41 co41 w42 hcz43_0 hcz43_1 hcz43_2 hcz43_3 hfz43_0 hfz43_1 hfz43_2 hfz43_3 Ao44 co44 w45 gb319 w46 HO287 HO309 iq1_8 iq1_9 iq1_10 iq1_11 iq1_12 GW319 GE319 NB275_319 NB319_275 NB297_319 NB319_297 NB306_319 NB319_306 Ao47 co47 HO279 HO290 HO300 HO312 hnb48 hnc48 hnb49 hnc49 hnb50 hnc50 hcz51_0 hcz51_1 hcz51_2 hcz51_3 hfz51_0 hfz51_1 hfz51_2 hfz51_3 Ao52 co52 HO282 HO293 HO303 HO315 iq2_2 iq2_3 iq2_4 iq2_5 iq2_6 iq2_7 iq2_8 iq2_9 iq2_10 iq2_11 iq2_12 iq2_13 iq2_14 iq2_15 iq2_16 iq2_17 iq2_18 iq2_19 iq2_20 iq2_21 iq2_22 iq2_23 iq2_24 iq2_25 iq2_26 iq2_27 iq2_28 iq2_29 iq2_30 iq2_31 iq2_32 iq2_33 iq2_34 iq2_35 iq2_36 iq2_37 iq2_38 iq2_39 iq2_40 iq2_41 iq2_42 iq2_43 iq2_44 iq2_45 iq2_46 iq2_47 iq2_48 iq2_49 iq2_50 iq2_51 iq2_52 iq2_53 iq2_54 iq2_55 iq2_56 iq2_57 iq2_58 iq2_59 iq2_60 iq2_61 iq2_62 iq2_63 iq2_64 iq2_65 iq2_66 iq2_67 iq2_68 iq3_1 iq2_69 iq2_70 iq2_71 iq2_72 iq2_73 iq2_74 iq2_75 iq2_76 iq2_77 iq2_78 iq2_79 iq2_80 iq2_81 iq2_82 iq2_83 iq2_84 iq2_85 iq2_86 iq2_87 iq2_88 iq2_89 iq2_90 iq2_91 iq2_92 iq2_93 iq2_94 iq2_95 iq2_96 iq2_97 iq2_98 iq2_99 iq2_100 iq2_101 iq2_102 iq2_103 iq2_104 iq2_105 iq2_106 kj17 HJ17 iq2_107 t321 t324 t327 t328 iq2_108 A72 A73 iq2_109 t330 iq2_110 A75 A76 iq2_111 t334 t335 t336 iq3_2 A78 t337 t338 A79 w81 iq2_112 w82 Ao83 co83 Ao84 co84 iq2_113 w85 hHeld w86 Ao87 co87 nd hnb88 hnc88 hnb89 hnc89 hnb90 hnc90 hcz91_0 hcz91_1 hcz91_2 hcz91_3 hfz91_0 hfz91_1 hfz91_2 hfz91_3 w92 w93 HO_13 iq2_114 iq2_115 iq2_116 iq2_117 iq2_118 iq2_119 iq2_120 iq2_121 iq2_122 iq2_123 HO323 HO326 HO332 iq2_124 iq3_3 iq3_4 iq3_5 iq3_6 iq3_7 iq3_8 iq3_9 iq3_10 iq3_11 iq3_12 iq3_13 iq3_14 iq3_15 iq3_16 iq3_17 iq3_18 iq3_19 iq3_20 iq3_21 iq3_22 iq3_23 iq3_24 iq3_25 iq3_26 iq3_27 iq3_28 iq3_29 iq3_30 iq3_31 iq3_32 iq3_33 iq3_34 iq3_35 iq3_36 iq3_37 iq3_38 iq3_39 iq3_40 iq3_41 iq3_42 iq3_43 iq3_44 iq3_45 iq3_46 iq3_47 iq3_48 iq3_49 iq3_50 iq3_51 iq3_52 iq3_53 iq3_54 iq3_55 iq3_56 iq3_57 iq3_58 iq3_59 iq3_60 iq3_61 iq3_62 iq3_63 iq3_64 iq3_65 iq3_66 iq3_67 iq3_68 iq3_69 iq3_70 iq3_71 iq3_72 iq3_73 iq3_74 iq3_75 iq3_76 iq3_77 iq3_78 iq3_79 iq3_80 iq3_81 iq3_82 iq3_83 iq3_84 iq3_85 iq3_86 iq3_87 iq3_88 iq3_89 iq3_90 iq3_91 iq3_92 iq3_93 iq3_94 iq3_95 iq3_96 iq3_97 iq3_98 iq3_99 u118 iq3_100 iq3_101 iq3_102 iq3_103 iq3_104 iq3_105 iq3_106 iq3_107 hl307000_79 hl307001_79 kj79 HJ79 iq3_108 t340 t341 t342 iq3_109 A114 t343 iq3_110 A115 c116b0 c124b0 c124b1 t344 t347 t350 t351 iq3_111 A125 t352 H A126 t355 t358 t361 t362 t363 A127 hnb129 hnc129 hnb130 hnc130 hnb131 hnc131 hcz132_0 hcz132_1 hcz132_2 hcz132_3 hfz132_0 hfz132_1 hfz132_2 hfz132_3 w133 hcz134_0 hcz134_1 hcz134_2 hcz134_3 hfz134_0 hfz134_1 hfz134_2 hfz134_3 w135 hnb136 hnc136 hnb137 hnc137 hcz138_0 hcz138_1 hcz138_2 hcz138_3 hfz138_0 hfz138_1 hfz138_2 hfz138_3 w139 w140 Ao141 co141 Ao142 co142 Ao143 co143 w144 gb364 w145 HO354 iq3_112 iq3_113 iq3_114 iq3_115 iq3_116 iq3_117 GW364 GE364 NB275_364 NB364_275 NB297_364 NB364_297 NB306_364 NB364_306 NB319_364 NB364_319 Ao146 co146 iq3_118 iq3_119 iq3_120 HO346 HO357 hnb147 hnc147 hnb148 hnc148 hnb149 hnc149 hnb150 hnc150 hcz151_0 hcz151_1 hcz151_2 hcz151_3 hfz151_0 hfz151_1 hfz151_2 hfz151_3 Ao152 co152 iq3_121 iq3_122 iq3_123 HO349 HO360 iq3_124 iq3_125 iq3_126 iq3_127 wc u21 u22 u23 u24 u25 u26 u27 u28 u29 u30 u31 u32 u33 u34 u35 u36 u37 u38 u39 u40 u41 u42 u43 u44 u45 u46 u47 u48 u49 u50 u51 u52 u53 u54 u55 u56 u57 u58 u59 u60 u61 u62 u63 u64 u65 u66 u67 u68 u69 u70 u71 u72 u73 u74 u75 u76 u77 u78 u79 u80 u81 u82 u83 u84 u85 u86 u87 u88 u89 u90 u91 u92 u93 u94 u95 u96 u97 u98 u99 u100 u101 u102 u103 u104 u105 u106 u107 u108 u109 u110 u111 u112 u113 u114 u115 u116 u117 u119 u120 u121 u122 u123 u124 u125 u126 kq x118_127 HA HJ127 HO_298000 HO_298001 HO_307000 HO_307001 HO_320000 HO_320001 HO_365000 HO_365001 BK275 BK297 BK306 BK319 BK364 HB
  have hl320000_127 := (zA HO_320000.out).1
  rw [hl320000_127] at HO_320000
  (try simp only [hl320000_127])
  (try simp only [hl320000_127] at BK275)
  (try simp only [hl320000_127] at BK297)
  (try simp only [hl320000_127] at BK306)
  (try simp only [hl320000_127] at BK319)
  (try simp only [hl320000_127] at BK364)
  (try simp only [hl320000_127] at HO_298000)
  (try simp only [hl320000_127] at HO_298001)
  (try simp only [hl320000_127] at HO_307000)
  (try simp only [hl320000_127] at HO_307001)
  (try simp only [hl320000_127] at HO_320001)
  (try simp only [hl320000_127] at HO_365000)
  (try simp only [hl320000_127] at HO_365001)
  have hl320001_127 := (zA HO_320001.out).1
  rw [hl320001_127] at HO_320001
  (try simp only [hl320001_127])
  (try simp only [hl320001_127] at BK275)
  (try simp only [hl320001_127] at BK297)
  (try simp only [hl320001_127] at BK306)
  (try simp only [hl320001_127] at BK319)
  (try simp only [hl320001_127] at BK364)
  (try simp only [hl320001_127] at HO_298000)
  (try simp only [hl320001_127] at HO_298001)
  (try simp only [hl320001_127] at HO_307000)
  (try simp only [hl320001_127] at HO_307001)
  (try simp only [hl320001_127] at HO_320000)
  (try simp only [hl320001_127] at HO_365000)
  (try simp only [hl320001_127] at HO_365001)
  cases kq with
  | zero => exact absurd HA.out (by simp [laws_FnExactCutPower.j2])
  | succ kj127 =>
    have H := HA.out; clear HA
    simp only [laws_FnExactCutPower.j2] at H
    by_cases c175 : x118_127 = true
    · subst c175
      have H1 : (some false) = some r := by rw [if_pos rfl] at H; exact H
      clear H; have H := H1; clear H1; obtain rfl := Option.some.inj H
      go_wp2
      go_ret
      exact ⟨by first | rfl | (simp <;> rfl) | (simp [*] <;> rfl), by repeat (first | (with_reducible first | exact HB.out | apply yQ | apply yL | apply yP | refine yE ?_ GE275.out | refine yE ?_ GE297.out | refine yE ?_ GE306.out | refine yE ?_ GE319.out | refine yE ?_ GE364.out) | exact HB.out)⟩
    · replace c175 := Bool.eq_false_iff.mpr c175
      subst c175
      have H1 : ((laws_heldDisk.f kj127 t341 t342 t316 t317 1).bind fun t366 => (if t366 < 0 then (some false) else (if t366 = t340 then (some true) else (some false)))) = some r := by rw [if_neg (show ¬ (false = true) by decide)] at H; exact H
      clear H; have H := H1; clear H1
      obtain ⟨t366, A1760, H⟩ := zW_ H
      replace H : (if t366 < 0 then (some false) else (if t366 = t340 then (some true) else (some false))) = some r := H
      have A176 := yD A1760
      clear A1760
      by_cases c177 : t366 < 0
      · rw [if_pos c177] at H
        have c177b0 : decide (t366 < 0) = true := zR c177
        (try (have c177b0h := c177b0; simp only [hl307000_79, hl307001_79, hl320000_127, hl320001_127] at c177b0h))
        clear c177; obtain rfl := Option.some.inj H; have hnb178 := NB319_275.out; have hnc178 := NB275_319.out; have hnb179 := NB319_297.out; have hnc179 := NB297_319.out; have hnb180 := NB319_306.out; have hnc180 := NB306_319.out; have hnb181 := NB319_364.out; have hnc181 := NB364_319.out
        obtain ⟨hcz182_0, hcz182_1, hcz182_2, hcz182_3⟩ := cz4 BK319.out
        obtain ⟨hfz182_0, hfz182_1, hfz182_2, hfz182_3⟩ := fz4 BK319.out
        go_wp2_with (first | ((with_reducible refine gate_callee (f := 22) rfl ?_); refine goesL_ (some 121) rfl rfl Try.func22 (by kernel_rfl) rfl #[.agg #[.slice Ao47 t341.length co47, .slice Ao52 t342.length co52, .int .i64 t316, .bool t317], .int .i64 1] rfl (by (try simp only [zK, zL, zM]); first | done | rfl | (simp only [zN, zO]; rfl)) ?_; (with_reducible refine (laws_heldDisk.calls kj127 _ _ t341 _ _ t342 t316 t317 1 t366 _ ?side1 ?side2 ?side3 ?side4 A176.out).mono ?_); (case side1 => exact kV (zA HO_320000.out).2.2); (case side2 => exact (zA HO_320000.out).2.1); (case side3 => exact kV (zA HO_320001.out).2.2); (case side4 => exact (zA HO_320001.out).2.1); rintro e w183 ⟨rfl, hb⟩; refine ⟨_, rfl, ?_⟩; have n0_ := yD (zE (kA HO_298000) hb); have n1_ := yD (zE (kA HO_298001) hb); have n2_ := yD (zE (kA HO_307000) hb); have n3_ := yD (zE (kA HO_307001) hb); have n4_ := yD (zE (kA HO_320000) hb); have n5_ := yD (zE (kA HO_320001) hb); have n6_ := yD (zE (kA HO_365000) hb); have n7_ := yD (zE (kA HO_365001) hb); have n8_ := yD (zB (g := gb275) (o := .cells #[.slice A0_0 l0_0.length c0_0, .slice A0_1 l0_1.length c0_1, .int .i64 a0_2, .bool a0_3] 39 (0, 0)) (kM BK275) hb); have n9_ := yD (zB (g := gb297) (o := .cells #[.slice Ao30 t288.length co30, .slice Ao33 t291.length co33, .int .i64 t294, .bool t295] 44 (0, 0)) (kM BK297) hb); have n10_ := yD (zB (g := gb306) (o := .cells #[.slice Ao37 t335.length co37, .slice Ao41 t336.length co41, .int .i64 t304, .bool t305] 44 (0, 0)) (kM BK306) hb); have n11_ := yD (zB (g := gb319) (o := .cells #[.slice Ao47 t341.length co47, .slice Ao52 t342.length co52, .int .i64 t316, .bool t317] 44 (0, 0)) (kM BK319) hb); have n12_ := yD (zB (g := gb364) (o := .cells #[.slice Ao146 t355.length co146, .slice Ao152 t358.length co152, .int .i64 t361, .bool t362] 44 (0, 0)) (kM BK364) hb); have n13_ := yD (zC (kB HB) hb); clear HO_298000; clear HO_298001; clear HO_307000; clear HO_307001; clear HO_320000; clear HO_320001; clear HO_365000; clear HO_365001; clear BK275; clear BK297; clear BK306; clear BK319; clear BK364; clear HB; have HO_298000 := n0_; have HO_298001 := n1_; have HO_307000 := n2_; have HO_307001 := n3_; have HO_320000 := n4_; have HO_320001 := n5_; have HO_365000 := n6_; have HO_365001 := n7_; have BK275 := n8_; have BK297 := n9_; have BK306 := n10_; have BK319 := n11_; have BK364 := n12_; have HB := n13_; clear n0_ n1_ n2_ n3_ n4_ n5_ n6_ n7_ n8_ n9_ n10_ n11_ n12_ n13_; (try clear hb); (try clear hb2); (try clear hk); (try clear hi)))
        go_ret
        exact ⟨by first | rfl | (simp <;> rfl) | (simp [*] <;> rfl), by repeat (first | (with_reducible first | exact HB.out | apply yQ | apply yL | apply yP | refine yE ?_ GE275.out | refine yE ?_ GE297.out | refine yE ?_ GE306.out | refine yE ?_ GE319.out | refine yE ?_ GE364.out) | exact HB.out)⟩
      · rw [if_neg c177] at H
        have c177b0 : decide (t366 < 0) = false := zS c177
        (try (have c177b0h := c177b0; simp only [hl307000_79, hl307001_79, hl320000_127, hl320001_127] at c177b0h))
        clear c177
        by_cases c184 : t366 = t340
        · rw [if_pos c184] at H
          have c184b0 : (t366 == t340) = true := beq_iff_eq.mpr c184
          (try (have c184b0h := c184b0; simp only [hl307000_79, hl307001_79, hl320000_127, hl320001_127] at c184b0h))
          have c184b1 : (t366 != t340) = false := bne_eq_false_iff_eq.mpr c184
          (try (have c184b1h := c184b1; simp only [hl307000_79, hl307001_79, hl320000_127, hl320001_127] at c184b1h))
          clear c184; obtain rfl := Option.some.inj H; have hnb185 := NB319_275.out; have hnc185 := NB275_319.out; have hnb186 := NB319_297.out; have hnc186 := NB297_319.out; have hnb187 := NB319_306.out; have hnc187 := NB306_319.out; have hnb188 := NB319_364.out; have hnc188 := NB364_319.out
          obtain ⟨hcz189_0, hcz189_1, hcz189_2, hcz189_3⟩ := cz4 BK319.out
          obtain ⟨hfz189_0, hfz189_1, hfz189_2, hfz189_3⟩ := fz4 BK319.out
          go_wp2_with (first | ((with_reducible refine gate_callee (f := 22) rfl ?_); refine goesL_ (some 121) rfl rfl Try.func22 (by kernel_rfl) rfl #[.agg #[.slice Ao47 t341.length co47, .slice Ao52 t342.length co52, .int .i64 t316, .bool t317], .int .i64 1] rfl (by (try simp only [zK, zL, zM]); first | done | rfl | (simp only [zN, zO]; rfl)) ?_; (with_reducible refine (laws_heldDisk.calls kj127 _ _ t341 _ _ t342 t316 t317 1 t366 _ ?side1 ?side2 ?side3 ?side4 A176.out).mono ?_); (case side1 => exact kV (zA HO_320000.out).2.2); (case side2 => exact (zA HO_320000.out).2.1); (case side3 => exact kV (zA HO_320001.out).2.2); (case side4 => exact (zA HO_320001.out).2.1); rintro e w190 ⟨rfl, hb⟩; refine ⟨_, rfl, ?_⟩; have n0_ := yD (zE (kA HO_298000) hb); have n1_ := yD (zE (kA HO_298001) hb); have n2_ := yD (zE (kA HO_307000) hb); have n3_ := yD (zE (kA HO_307001) hb); have n4_ := yD (zE (kA HO_320000) hb); have n5_ := yD (zE (kA HO_320001) hb); have n6_ := yD (zE (kA HO_365000) hb); have n7_ := yD (zE (kA HO_365001) hb); have n8_ := yD (zB (g := gb275) (o := .cells #[.slice A0_0 l0_0.length c0_0, .slice A0_1 l0_1.length c0_1, .int .i64 a0_2, .bool a0_3] 39 (0, 0)) (kM BK275) hb); have n9_ := yD (zB (g := gb297) (o := .cells #[.slice Ao30 t288.length co30, .slice Ao33 t291.length co33, .int .i64 t294, .bool t295] 44 (0, 0)) (kM BK297) hb); have n10_ := yD (zB (g := gb306) (o := .cells #[.slice Ao37 t335.length co37, .slice Ao41 t336.length co41, .int .i64 t304, .bool t305] 44 (0, 0)) (kM BK306) hb); have n11_ := yD (zB (g := gb319) (o := .cells #[.slice Ao47 t341.length co47, .slice Ao52 t342.length co52, .int .i64 t316, .bool t317] 44 (0, 0)) (kM BK319) hb); have n12_ := yD (zB (g := gb364) (o := .cells #[.slice Ao146 t355.length co146, .slice Ao152 t358.length co152, .int .i64 t361, .bool t362] 44 (0, 0)) (kM BK364) hb); have n13_ := yD (zC (kB HB) hb); clear HO_298000; clear HO_298001; clear HO_307000; clear HO_307001; clear HO_320000; clear HO_320001; clear HO_365000; clear HO_365001; clear BK275; clear BK297; clear BK306; clear BK319; clear BK364; clear HB; have HO_298000 := n0_; have HO_298001 := n1_; have HO_307000 := n2_; have HO_307001 := n3_; have HO_320000 := n4_; have HO_320001 := n5_; have HO_365000 := n6_; have HO_365001 := n7_; have BK275 := n8_; have BK297 := n9_; have BK306 := n10_; have BK319 := n11_; have BK364 := n12_; have HB := n13_; clear n0_ n1_ n2_ n3_ n4_ n5_ n6_ n7_ n8_ n9_ n10_ n11_ n12_ n13_; (try clear hb); (try clear hb2); (try clear hk); (try clear hi)))
          go_ret
          exact ⟨by first | rfl | (simp <;> rfl) | (simp [*] <;> rfl), by repeat (first | (with_reducible first | exact HB.out | apply yQ | apply yL | apply yP | refine yE ?_ GE275.out | refine yE ?_ GE297.out | refine yE ?_ GE306.out | refine yE ?_ GE319.out | refine yE ?_ GE364.out) | exact HB.out)⟩
        · rw [if_neg c184] at H
          have c184b0 : (t366 == t340) = false := beq_eq_false_iff_ne.mpr c184
          (try (have c184b0h := c184b0; simp only [hl307000_79, hl307001_79, hl320000_127, hl320001_127] at c184b0h))
          have c184b1 : (t366 != t340) = true := bne_iff_ne.mpr c184
          (try (have c184b1h := c184b1; simp only [hl307000_79, hl307001_79, hl320000_127, hl320001_127] at c184b1h))
          obtain rfl := Option.some.inj H; have hnb191 := NB319_275.out; have hnc191 := NB275_319.out; have hnb192 := NB319_297.out; have hnc192 := NB297_319.out; have hnb193 := NB319_306.out; have hnc193 := NB306_319.out; have hnb194 := NB319_364.out; have hnc194 := NB364_319.out
          obtain ⟨hcz195_0, hcz195_1, hcz195_2, hcz195_3⟩ := cz4 BK319.out
          obtain ⟨hfz195_0, hfz195_1, hfz195_2, hfz195_3⟩ := fz4 BK319.out
          go_wp2_with (first | ((with_reducible refine gate_callee (f := 22) rfl ?_); refine goesL_ (some 121) rfl rfl Try.func22 (by kernel_rfl) rfl #[.agg #[.slice Ao47 t341.length co47, .slice Ao52 t342.length co52, .int .i64 t316, .bool t317], .int .i64 1] rfl (by (try simp only [zK, zL, zM]); first | done | rfl | (simp only [zN, zO]; rfl)) ?_; (with_reducible refine (laws_heldDisk.calls kj127 _ _ t341 _ _ t342 t316 t317 1 t366 _ ?side1 ?side2 ?side3 ?side4 A176.out).mono ?_); (case side1 => exact kV (zA HO_320000.out).2.2); (case side2 => exact (zA HO_320000.out).2.1); (case side3 => exact kV (zA HO_320001.out).2.2); (case side4 => exact (zA HO_320001.out).2.1); rintro e w196 ⟨rfl, hb⟩; refine ⟨_, rfl, ?_⟩; have n0_ := yD (zE (kA HO_298000) hb); have n1_ := yD (zE (kA HO_298001) hb); have n2_ := yD (zE (kA HO_307000) hb); have n3_ := yD (zE (kA HO_307001) hb); have n4_ := yD (zE (kA HO_320000) hb); have n5_ := yD (zE (kA HO_320001) hb); have n6_ := yD (zE (kA HO_365000) hb); have n7_ := yD (zE (kA HO_365001) hb); have n8_ := yD (zB (g := gb275) (o := .cells #[.slice A0_0 l0_0.length c0_0, .slice A0_1 l0_1.length c0_1, .int .i64 a0_2, .bool a0_3] 39 (0, 0)) (kM BK275) hb); have n9_ := yD (zB (g := gb297) (o := .cells #[.slice Ao30 t288.length co30, .slice Ao33 t291.length co33, .int .i64 t294, .bool t295] 44 (0, 0)) (kM BK297) hb); have n10_ := yD (zB (g := gb306) (o := .cells #[.slice Ao37 t335.length co37, .slice Ao41 t336.length co41, .int .i64 t304, .bool t305] 44 (0, 0)) (kM BK306) hb); have n11_ := yD (zB (g := gb319) (o := .cells #[.slice Ao47 t341.length co47, .slice Ao52 t342.length co52, .int .i64 t316, .bool t317] 44 (0, 0)) (kM BK319) hb); have n12_ := yD (zB (g := gb364) (o := .cells #[.slice Ao146 t355.length co146, .slice Ao152 t358.length co152, .int .i64 t361, .bool t362] 44 (0, 0)) (kM BK364) hb); have n13_ := yD (zC (kB HB) hb); clear HO_298000; clear HO_298001; clear HO_307000; clear HO_307001; clear HO_320000; clear HO_320001; clear HO_365000; clear HO_365001; clear BK275; clear BK297; clear BK306; clear BK319; clear BK364; clear HB; have HO_298000 := n0_; have HO_298001 := n1_; have HO_307000 := n2_; have HO_307001 := n3_; have HO_320000 := n4_; have HO_320001 := n5_; have HO_365000 := n6_; have HO_365001 := n7_; have BK275 := n8_; have BK297 := n9_; have BK306 := n10_; have BK319 := n11_; have BK364 := n12_; have HB := n13_; clear n0_ n1_ n2_ n3_ n4_ n5_ n6_ n7_ n8_ n9_ n10_ n11_ n12_ n13_; (try clear hb); (try clear hb2); (try clear hk); (try clear hi)))
          go_ret
          exact ⟨by first | rfl | (simp <;> rfl) | (simp [*] <;> rfl), by repeat (first | (with_reducible first | exact HB.out | apply yQ | apply yL | apply yP | refine yE ?_ GE275.out | refine yE ?_ GE297.out | refine yE ?_ GE306.out | refine yE ?_ GE319.out | refine yE ?_ GE364.out) | exact HB.out)⟩
theorem laws_FnExactCutPower.calls (k : Nat) (A0_0 : Option Addr) (c0_0 : Nat) (l0_0 : List ByteArray) (A0_1 : Option Addr) (c0_1 : Nat) (l0_1 : List (S99)) (a0_2 : Int) (a0_3 : Bool) (A1 : Option Addr) (c1 : Nat) (l1 : List Bool) (a2 : Int) (a3 : Int) (r : Bool) (w : World) (hr0_0 : Kd.C Kd.string w A0_0 l0_0.length l0_0) (hc0_0 : l0_0.length ≤ c0_0) (hr0_1 : Kd.C k99 w A0_1 l0_1.length l0_1) (hc0_1 : l0_1.length ≤ c0_1) (hr1 : Kd.C Kd.bool w A1 l1.length l1) (hc1 : l1.length ≤ c1) (h : laws_FnExactCutPower.f k l0_0 l0_1 a0_2 a0_3 l1 a2 a3 = some r) :
    Calls Try.prog 4 #[.agg #[.slice A0_0 l0_0.length c0_0, .slice A0_1 l0_1.length c0_1, .int .i64 a0_2, .bool a0_3], .slice A1 l1.length c1, .int .i64 a2, .int .i64 a3] w fun e w' => e = .returned (.bool r) ∧ Below w.heap.size w w' := (laws_FnExactCutPower.part1.2 ⟨(laws_FnExactCutPower.part2.2 ⟨(laws_FnExactCutPower.part3.2 ⟨laws_FnExactCutPower.part4⟩)⟩)⟩) k A0_0 c0_0 l0_0 A0_1 c0_1 l0_1 a0_2 a0_3 A1 c1 l1 a2 a3 r w hr0_0 hc0_0 hr0_1 hc0_1 hr1 hc1 h
def okS99 (x : S99) : Prop := (Lit.int .i64 x.f0).wf = true ∧ x.f1.size ≤ maxLen
def okS39 (x : S39) : Prop := (x.f0.length ≤ maxLen ∧ ∀ x_ ∈ x.f0, x_.size ≤ maxLen) ∧ (x.f1.length ≤ maxLen ∧ ∀ x_ ∈ x.f1, okS99 x_) ∧ (Lit.int .i64 x.f2).wf = true ∧ True
/-- THE ONE PURE STATEMENT of laws_FnExactCutPower: ours. -/
def laws_FnExactCutPower.Pure : Prop := ∀ (l0_0 : List ByteArray) (l0_1 : List (S99)) (a0_2 : Int) (a0_3 : Bool) (l1 : List Bool) (a2 : Int) (a3 : Int), (l0_0.length ≤ maxLen ∧ ∀ x_ ∈ l0_0, x_.size ≤ maxLen) → (l0_1.length ≤ maxLen ∧ ∀ x_ ∈ l0_1, okS99 x_) → (Lit.int .i64 a0_2).wf = true → (l1.length ≤ maxLen ∧ ∀ x_ ∈ l1, True) → (Lit.int .i64 a2).wf = true → (Lit.int .i64 a3).wf = true → ∃ k, laws_FnExactCutPower.f k l0_0 l0_1 a0_2 a0_3 l1 a2 a3 = some true
theorem laws_FnExactCutPower.walk (P : laws_FnExactCutPower.Pure) (A0_0 : Option Addr) (c0_0 : Nat) (l0_0 : List ByteArray) (A0_1 : Option Addr) (c0_1 : Nat) (l0_1 : List (S99)) (a0_2 : Int) (a0_3 : Bool) (A1 : Option Addr) (c1 : Nat) (l1 : List Bool) (a2 : Int) (a3 : Int) (w : World) (hr0_0 : Kd.C Kd.string w A0_0 l0_0.length l0_0) (hc0_0 : l0_0.length ≤ c0_0) (hr0_1 : Kd.C k99 w A0_1 l0_1.length l0_1) (hc0_1 : l0_1.length ≤ c0_1) (hr1 : Kd.C Kd.bool w A1 l1.length l1) (hc1 : l1.length ≤ c1) (o0_0 : (l0_0.length ≤ maxLen ∧ ∀ x_ ∈ l0_0, x_.size ≤ maxLen)) (o0_1 : (l0_1.length ≤ maxLen ∧ ∀ x_ ∈ l0_1, okS99 x_)) (o0_2 : (Lit.int .i64 a0_2).wf = true) (o1 : (l1.length ≤ maxLen ∧ ∀ x_ ∈ l1, True)) (o2 : (Lit.int .i64 a2).wf = true) (o3 : (Lit.int .i64 a3).wf = true) :
    Calls Try.prog 4 #[.agg #[.slice A0_0 l0_0.length c0_0, .slice A0_1 l0_1.length c0_1, .int .i64 a0_2, .bool a0_3], .slice A1 l1.length c1, .int .i64 a2, .int .i64 a3] w fun e w' => e = .returned (.bool true) ∧ Below w.heap.size w w' := by
  obtain ⟨k, h⟩ := P l0_0 l0_1 a0_2 a0_3 l1 a2 a3 o0_0 o0_1 o0_2 o1 o2 o3
  refine (laws_FnExactCutPower.calls k _ _ l0_0 _ _ l0_1 a0_2 a0_3 _ _ l1 a2 a3 true w hr0_0 hc0_0 hr0_1 hc0_1 hr1 hc1 h).mono ?_
  rintro e w' ⟨rfl, hd⟩
  exact ⟨rfl, hd⟩

end Go.Proofs.Ytgpkkplabnliiaa.PFnExactCutPower
