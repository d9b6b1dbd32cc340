/- Each Go function here comes to what the plain function of its name says, where that says something. Made by a program of this session, over the print. -/
import Derived.Test.YtehldidejgpifaaPFnExactRangeOfx10
namespace Go.Proofs.Ytehldidejgpifaa.PFnExactRangeOf
open Go.RowKit Go.Proofs.YtehldidejgpifaaW.PrintWords Go.Proofs.YtehldidejgpifaaW.PrintLast Go.Proofs.YtehldidejgpifaaW.PrintMore
attribute [local go_sem] max2_int min2_int max_two min_two max_three min_three max_four min_four   -- for this text's walks alone
set_option linter.unusedVariables false
set_option linter.unusedSimpArgs false

set_option maxHeartbeats 8000000 in
set_option maxRecDepth 100000 in
theorem laws_FnExactRangeOf.part4 : laws_FnExactRangeOf.part3.1 := by
  intro k A0 c0 l0 A1 c1 l1 r w hu57 HR0 HC0 HR1 HC1 iq1_1 c3b0 c3b1 c4b0 c4b1 t264 iq1_2 A5 t267 iq1_3 A6 t270 t271 t274 t277 t280 t283 t286 iq1_4 A7 t288 iq1_5 A8 t291 iq2_1 A9 t294 t295 t298 t301 t304 t307 t310 A10 iq1_6 w12 w13 Ao14 co14 Ao15 co15 w16 gb287 w17 GW287 GE287 hcz18_0 hcz18_1 hcz18_2 hcz18_3 hcz18_4 hcz18_5 hfz18_0 hfz18_1 hfz18_2 hfz18_3 hfz18_4 hfz18_5 Ao19 co19 Ao20 co20 Ao21 co21 Ao22 co22 Ao23 co23 w24 w25 Ao26 co26 Ao27 co27 w28 gb311 w29 iq1_7 iq1_8 iq1_9 GW311 GE311 NB287_311 NB311_287 hnb30 hnc30 hcz31_0 hcz31_1 hcz31_2 hcz31_3 hcz31_4 hcz31_5 hfz31_0 hfz31_1 hfz31_2 hfz31_3 hfz31_4 hfz31_5 Ao32 co32 Ao33 co33 Ao34 co34 Ao35 co35 HO266 HO269 HO273 HO276 HO279 HO282 HO290 HO293 HO297 HO300 HO303 HO306 Ao36 co36 HO285 HO309 iq2_2 iq2_3 iq2_4 iq2_5 iq2_6 iq2_7 iq2_8 iq2_9 iq2_10 iq2_11 iq2_12 iq2_13 iq2_14 iq2_15 iq2_16 iq2_17 iq2_18 iq2_19 iq2_20 iq2_21 iq2_22 iq2_23 iq2_24 iq2_25 iq2_26 iq2_27 iq2_28 iq2_29 iq2_30 iq2_31 iq2_32 iq2_33 iq2_34 iq2_35 iq2_36 iq2_37 iq2_38 iq2_39 iq2_40 iq2_41 iq2_42 iq2_43 iq2_44 iq2_45 iq2_46 iq2_47 iq2_48 iq2_49 iq2_50 iq2_51 iq2_52 iq2_53 iq2_54 iq2_55 iq2_56 iq2_57 iq2_58 iq2_59 iq2_60 iq2_61 iq2_62 iq3_1 iq2_63 iq2_64 iq2_65 iq2_66 iq2_67 iq2_68 iq2_69 iq2_70 iq2_71 iq2_72 iq2_73 iq2_74 iq2_75 iq2_76 iq2_77 iq2_78 iq2_79 iq2_80 iq2_81 iq2_82 iq2_83 iq2_84 iq2_85 iq2_86 iq2_87 iq2_88 iq2_89 iq2_90 iq2_91 iq2_92 iq2_93 iq2_94 iq2_95 iq2_96 iq2_97 iq2_98 kj10 HJ10 iq2_99 t313 iq2_100 A48 A49 iq2_101 t317 iq2_102 A51 A52 iq2_103 t321 t322 iq3_2 A54 t323 t324 A55 w57 Ao58 co58 iq2_104 w59 Ao60 co60 nd w61 w62 HO_7 HO_8 iq2_105 iq2_106 iq2_107 iq2_108 iq2_109 iq2_110 iq2_111 iq2_112 iq2_113 iq2_114 iq2_115 iq2_116 HO315 HO319 iq2_117 iq3_3 iq3_4 iq3_5 iq3_6 iq3_7 iq3_8 iq3_9 iq3_10 iq3_11 iq3_12 iq3_13 iq3_14 iq3_15 iq3_16 iq3_17 iq3_18 iq3_19 iq3_20 iq3_21 iq3_22 iq3_23 iq3_24 iq3_25 iq3_26 iq3_27 iq3_28 iq3_29 iq3_30 iq3_31 iq3_32 iq3_33 iq3_34 iq3_35 iq3_36 iq3_37 iq3_38 iq3_39 iq3_40 iq3_41 iq3_42 iq3_43 iq3_44 iq3_45 iq3_46 iq3_47 iq3_48 iq3_49 iq3_50 iq3_51 iq3_52 iq3_53 iq3_54 iq3_55 iq3_56 iq3_57 iq3_58 iq3_59 iq3_60 iq3_61 iq3_62 iq3_63 iq3_64 iq3_65 iq3_66 iq3_67 iq3_68 iq3_69 iq3_70 iq3_71 iq3_72 iq3_73 iq3_74 iq3_75 iq3_76 iq3_77 iq3_78 iq3_79 iq3_80 iq3_81 iq3_82 iq3_83 iq3_84 iq3_85 iq3_86 iq3_87 iq3_88 iq3_89 iq3_90 iq3_91 u105 iq3_92 iq3_93 iq3_94 iq3_95 iq3_96 iq3_97 iq3_98 iq3_99 kj55 HJ55 iq3_100 t326 t327 t328 t329 t330 iq3_101 A75 t331 iq3_102 A76 c77b0 c83b0 c83b1 t332 iq3_103 A84 t335 H A85 t338 t339 t342 t345 t348 t351 t354 A86 hnb88 hnc88 hcz89_0 hcz89_1 hcz89_2 hcz89_3 hcz89_4 hcz89_5 hfz89_0 hfz89_1 hfz89_2 hfz89_3 hfz89_4 hfz89_5 w90 hcz91_0 hcz91_1 hcz91_2 hcz91_3 hcz91_4 hcz91_5 hfz91_0 hfz91_1 hfz91_2 hfz91_3 hfz91_4 hfz91_5 w92 w93 w94 Ao95 co95 Ao96 co96 w97 gb355 w98 iq3_104 iq3_105 iq3_106 iq3_107 GW355 GE355 NB287_355 NB355_287 NB311_355 NB355_311 hnb99 hnc99 hnb100 hnc100 hcz101_0 hcz101_1 hcz101_2 hcz101_3 hcz101_4 hcz101_5 hfz101_0 hfz101_1 hfz101_2 hfz101_3 hfz101_4 hfz101_5 Ao102 co102 Ao103 co103 Ao104 co104 Ao105 co105 iq3_108 iq3_109 iq3_110 iq3_111 iq3_112 iq3_113 iq3_114 iq3_115 HO334 HO337 HO341 HO344 HO347 HO350 Ao106 co106 iq3_116 iq3_117 HO353 iq3_118 iq3_119 iq3_120 iq3_121 wc u16 u17 u18 u19 u20 u21 u22 u23 u24 u25 u26 u27 u28 u29 u30 u31 u32 u33 u34 u35 u36 u37 u38 u39 u40 u41 u42 u43 u44 u45 u46 u47 u48 u49 u50 u51 u52 u53 u54 u55 u56 u57 u58 u59 u60 u61 u62 u63 u64 u65 u66 u67 u68 u69 u70 u71 u72 u73 u74 u75 u76 u77 u78 u79 u80 u81 u82 u83 u84 u85 u86 u87 u88 u89 u90 u91 u92 u93 u94 u95 u96 u97 u98 u99 u100 u101 u102 u103 u104 u106 u107 u108 u109 u110 u111 u112 u113 kq x105_86 HA HJ86 HO_288001 HO_288002 HO_288003 HO_288004 HO_288005 HO_312001 HO_312002 HO_312003 HO_312004 HO_312005 HO_356001 HO_356002 HO_356003 HO_356004 HO_356005 BK287 BK311 BK355 HB
  have hl312001_86 := (zA HO_312001.out).1
  rw [hl312001_86] at HO_312001
  (try simp only [hl312001_86])
  (try simp only [hl312001_86] at BK287)
  (try simp only [hl312001_86] at BK311)
  (try simp only [hl312001_86] at BK355)
  (try simp only [hl312001_86] at HO_288001)
  (try simp only [hl312001_86] at HO_288002)
  (try simp only [hl312001_86] at HO_288003)
  (try simp only [hl312001_86] at HO_288004)
  (try simp only [hl312001_86] at HO_288005)
  (try simp only [hl312001_86] at HO_312002)
  (try simp only [hl312001_86] at HO_312003)
  (try simp only [hl312001_86] at HO_312004)
  (try simp only [hl312001_86] at HO_312005)
  (try simp only [hl312001_86] at HO_356001)
  (try simp only [hl312001_86] at HO_356002)
  (try simp only [hl312001_86] at HO_356003)
  (try simp only [hl312001_86] at HO_356004)
  (try simp only [hl312001_86] at HO_356005)
  have hl312002_86 := (zA HO_312002.out).1
  rw [hl312002_86] at HO_312002
  (try simp only [hl312002_86])
  (try simp only [hl312002_86] at BK287)
  (try simp only [hl312002_86] at BK311)
  (try simp only [hl312002_86] at BK355)
  (try simp only [hl312002_86] at HO_288001)
  (try simp only [hl312002_86] at HO_288002)
  (try simp only [hl312002_86] at HO_288003)
  (try simp only [hl312002_86] at HO_288004)
  (try simp only [hl312002_86] at HO_288005)
  (try simp only [hl312002_86] at HO_312001)
  (try simp only [hl312002_86] at HO_312003)
  (try simp only [hl312002_86] at HO_312004)
  (try simp only [hl312002_86] at HO_312005)
  (try simp only [hl312002_86] at HO_356001)
  (try simp only [hl312002_86] at HO_356002)
  (try simp only [hl312002_86] at HO_356003)
  (try simp only [hl312002_86] at HO_356004)
  (try simp only [hl312002_86] at HO_356005)
  have hl312003_86 := (zA HO_312003.out).1
  rw [hl312003_86] at HO_312003
  (try simp only [hl312003_86])
  (try simp only [hl312003_86] at BK287)
  (try simp only [hl312003_86] at BK311)
  (try simp only [hl312003_86] at BK355)
  (try simp only [hl312003_86] at HO_288001)
  (try simp only [hl312003_86] at HO_288002)
  (try simp only [hl312003_86] at HO_288003)
  (try simp only [hl312003_86] at HO_288004)
  (try simp only [hl312003_86] at HO_288005)
  (try simp only [hl312003_86] at HO_312001)
  (try simp only [hl312003_86] at HO_312002)
  (try simp only [hl312003_86] at HO_312004)
  (try simp only [hl312003_86] at HO_312005)
  (try simp only [hl312003_86] at HO_356001)
  (try simp only [hl312003_86] at HO_356002)
  (try simp only [hl312003_86] at HO_356003)
  (try simp only [hl312003_86] at HO_356004)
  (try simp only [hl312003_86] at HO_356005)
  have hl312004_86 := (zA HO_312004.out).1
  rw [hl312004_86] at HO_312004
  (try simp only [hl312004_86])
  (try simp only [hl312004_86] at BK287)
  (try simp only [hl312004_86] at BK311)
  (try simp only [hl312004_86] at BK355)
  (try simp only [hl312004_86] at HO_288001)
  (try simp only [hl312004_86] at HO_288002)
  (try simp only [hl312004_86] at HO_288003)
  (try simp only [hl312004_86] at HO_288004)
  (try simp only [hl312004_86] at HO_288005)
  (try simp only [hl312004_86] at HO_312001)
  (try simp only [hl312004_86] at HO_312002)
  (try simp only [hl312004_86] at HO_312003)
  (try simp only [hl312004_86] at HO_312005)
  (try simp only [hl312004_86] at HO_356001)
  (try simp only [hl312004_86] at HO_356002)
  (try simp only [hl312004_86] at HO_356003)
  (try simp only [hl312004_86] at HO_356004)
  (try simp only [hl312004_86] at HO_356005)
  cases kq with
  | zero => exact absurd HA.out (by simp [laws_FnExactRangeOf.j2])
  | succ kj86 =>
    have H := HA.out; clear HA
    simp only [laws_FnExactRangeOf.j2] at H
    by_cases c121 : x105_86 = true
    · subst c121
      have H1 : (some false) = some r := by rw [if_pos rfl] at H; exact H
      clear H; have H := H1; clear H1; obtain rfl := Option.some.inj H
      go_wp2
      go_ret
      exact ⟨by first | rfl | (simp <;> rfl) | (simp [*] <;> rfl), by repeat (first | (with_reducible first | exact HB.out | apply yQ | apply yL | apply yP | refine yE ?_ GE287.out | refine yE ?_ GE311.out | refine yE ?_ GE355.out) | exact HB.out)⟩
    · replace c121 := Bool.eq_false_iff.mpr c121
      subst c121
      have H1 : ((laws_heldSelection.f kj86 t294 t327 t328 t329 t330 t307 1).bind fun t357 => (if t357 < 0 then (some false) else (if t357 = t326 then (some true) else (some false)))) = some r := by rw [if_neg (show ¬ (false = true) by decide)] at H; exact H
      clear H; have H := H1; clear H1
      obtain ⟨t357, A1220, H⟩ := zW_ H
      replace H : (if t357 < 0 then (some false) else (if t357 = t326 then (some true) else (some false))) = some r := H
      have A122 := yD A1220
      clear A1220
      by_cases c123 : t357 < 0
      · rw [if_pos c123] at H
        have c123b0 : decide (t357 < 0) = true := zR c123
        (try (have c123b0h := c123b0; simp only [hl312001_86, hl312002_86, hl312003_86, hl312004_86] at c123b0h))
        clear c123; obtain rfl := Option.some.inj H; have hnb124 := NB311_287.out; have hnc124 := NB287_311.out; have hnb125 := NB311_355.out; have hnc125 := NB355_311.out
        obtain ⟨hcz126_0, hcz126_1, hcz126_2, hcz126_3, hcz126_4, hcz126_5⟩ := cz6 BK311.out
        obtain ⟨hfz126_0, hfz126_1, hfz126_2, hfz126_3, hfz126_4, hfz126_5⟩ := fz6 BK311.out
        go_wp2_with (first | ((with_reducible refine gate_callee (f := 39) rfl ?_); refine goesL_ (some 108) rfl rfl Try.func39 (by kernel_rfl) rfl #[.agg #[.int .i64 t294, .slice Ao32 t327.length co32, .slice Ao33 t328.length co33, .slice Ao34 t329.length co34, .slice Ao35 t330.length co35, .slice Ao36 t307.length co36], .int .i64 1] rfl (by (try simp only [zK, zL, zM]); first | done | rfl | (simp only [zN, zO]; rfl)) ?_; (with_reducible refine (laws_heldSelection.calls kj86 t294 _ _ t327 _ _ t328 _ _ t329 _ _ t330 _ _ t307 1 t357 _ ?side1 ?side2 ?side3 ?side4 ?side5 ?side6 ?side7 ?side8 ?side9 ?side10 A122.out).mono ?_); (case side1 => exact kV (zA HO_312001.out).2.2); (case side2 => exact (zA HO_312001.out).2.1); (case side3 => exact kV (zA HO_312002.out).2.2); (case side4 => exact (zA HO_312002.out).2.1); (case side5 => exact kV (zA HO_312003.out).2.2); (case side6 => exact (zA HO_312003.out).2.1); (case side7 => exact kV (zA HO_312004.out).2.2); (case side8 => exact (zA HO_312004.out).2.1); (case side9 => exact kV (Kd.S_reads' HO_312005.out).2.2); (case side10 => exact (Kd.S_reads' HO_312005.out).2.1); rintro e w127 ⟨rfl, hb⟩; refine ⟨_, rfl, ?_⟩; have n0_ := yD (zE (kA HO_288001) hb); have n1_ := yD (zE (kA HO_288002) hb); have n2_ := yD (zE (kA HO_288003) hb); have n3_ := yD (zE (kA HO_288004) hb); have n4_ := yD (Kd.S_below (by (with_reducible repeat (first | apply yS | apply yT | apply yU)); exact HO_288005.out) hb); have n5_ := yD (zE (kA HO_312001) hb); have n6_ := yD (zE (kA HO_312002) hb); have n7_ := yD (zE (kA HO_312003) hb); have n8_ := yD (zE (kA HO_312004) hb); have n9_ := yD (Kd.S_below (by (with_reducible repeat (first | apply yS | apply yT | apply yU)); exact HO_312005.out) hb); have n10_ := yD (zE (kA HO_356001) hb); have n11_ := yD (zE (kA HO_356002) hb); have n12_ := yD (zE (kA HO_356003) hb); have n13_ := yD (zE (kA HO_356004) hb); have n14_ := yD (Kd.S_below (by (with_reducible repeat (first | apply yS | apply yT | apply yU)); exact HO_356005.out) hb); have n15_ := yD (zB (g := gb287) (o := .cells #[.int .i64 t270, .slice Ao19 t271.length co19, .slice Ao20 t274.length co20, .slice Ao21 t277.length co21, .slice Ao22 t280.length co22, .slice Ao23 t283.length co23] 57 (0, 0)) (kM BK287) hb); have n16_ := yD (zB (g := gb311) (o := .cells #[.int .i64 t294, .slice Ao32 t327.length co32, .slice Ao33 t328.length co33, .slice Ao34 t329.length co34, .slice Ao35 t330.length co35, .slice Ao36 t307.length co36] 57 (0, 0)) (kM BK311) hb); have n17_ := yD (zB (g := gb355) (o := .cells #[.int .i64 t338, .slice Ao102 t339.length co102, .slice Ao103 t342.length co103, .slice Ao104 t345.length co104, .slice Ao105 t348.length co105, .slice Ao106 t351.length co106] 57 (0, 0)) (kM BK355) hb); have n18_ := yD (zC (kB HB) hb); clear HO_288001; clear HO_288002; clear HO_288003; clear HO_288004; clear HO_288005; clear HO_312001; clear HO_312002; clear HO_312003; clear HO_312004; clear HO_312005; clear HO_356001; clear HO_356002; clear HO_356003; clear HO_356004; clear HO_356005; clear BK287; clear BK311; clear BK355; clear HB; have HO_288001 := n0_; have HO_288002 := n1_; have HO_288003 := n2_; have HO_288004 := n3_; have HO_288005 := n4_; have HO_312001 := n5_; have HO_312002 := n6_; have HO_312003 := n7_; have HO_312004 := n8_; have HO_312005 := n9_; have HO_356001 := n10_; have HO_356002 := n11_; have HO_356003 := n12_; have HO_356004 := n13_; have HO_356005 := n14_; have BK287 := n15_; have BK311 := n16_; have BK355 := n17_; have HB := n18_; clear n0_ n1_ n2_ n3_ n4_ n5_ n6_ n7_ n8_ n9_ n10_ n11_ n12_ n13_ n14_ n15_ n16_ n17_ n18_; (try clear hb); (try clear hb2); (try clear hk); (try clear hi)))
        go_ret
        exact ⟨by first | rfl | (simp <;> rfl) | (simp [*] <;> rfl), by repeat (first | (with_reducible first | exact HB.out | apply yQ | apply yL | apply yP | refine yE ?_ GE287.out | refine yE ?_ GE311.out | refine yE ?_ GE355.out) | exact HB.out)⟩
      · rw [if_neg c123] at H
        have c123b0 : decide (t357 < 0) = false := zS c123
        (try (have c123b0h := c123b0; simp only [hl312001_86, hl312002_86, hl312003_86, hl312004_86] at c123b0h))
        clear c123
        by_cases c128 : t357 = t326
        · rw [if_pos c128] at H
          have c128b0 : (t357 == t326) = true := beq_iff_eq.mpr c128
          (try (have c128b0h := c128b0; simp only [hl312001_86, hl312002_86, hl312003_86, hl312004_86] at c128b0h))
          have c128b1 : (t357 != t326) = false := bne_eq_false_iff_eq.mpr c128
          (try (have c128b1h := c128b1; simp only [hl312001_86, hl312002_86, hl312003_86, hl312004_86] at c128b1h))
          clear c128; obtain rfl := Option.some.inj H; have hnb129 := NB311_287.out; have hnc129 := NB287_311.out; have hnb130 := NB311_355.out; have hnc130 := NB355_311.out
          obtain ⟨hcz131_0, hcz131_1, hcz131_2, hcz131_3, hcz131_4, hcz131_5⟩ := cz6 BK311.out
          obtain ⟨hfz131_0, hfz131_1, hfz131_2, hfz131_3, hfz131_4, hfz131_5⟩ := fz6 BK311.out
          go_wp2_with (first | ((with_reducible refine gate_callee (f := 39) rfl ?_); refine goesL_ (some 108) rfl rfl Try.func39 (by kernel_rfl) rfl #[.agg #[.int .i64 t294, .slice Ao32 t327.length co32, .slice Ao33 t328.length co33, .slice Ao34 t329.length co34, .slice Ao35 t330.length co35, .slice Ao36 t307.length co36], .int .i64 1] rfl (by (try simp only [zK, zL, zM]); first | done | rfl | (simp only [zN, zO]; rfl)) ?_; (with_reducible refine (laws_heldSelection.calls kj86 t294 _ _ t327 _ _ t328 _ _ t329 _ _ t330 _ _ t307 1 t357 _ ?side1 ?side2 ?side3 ?side4 ?side5 ?side6 ?side7 ?side8 ?side9 ?side10 A122.out).mono ?_); (case side1 => exact kV (zA HO_312001.out).2.2); (case side2 => exact (zA HO_312001.out).2.1); (case side3 => exact kV (zA HO_312002.out).2.2); (case side4 => exact (zA HO_312002.out).2.1); (case side5 => exact kV (zA HO_312003.out).2.2); (case side6 => exact (zA HO_312003.out).2.1); (case side7 => exact kV (zA HO_312004.out).2.2); (case side8 => exact (zA HO_312004.out).2.1); (case side9 => exact kV (Kd.S_reads' HO_312005.out).2.2); (case side10 => exact (Kd.S_reads' HO_312005.out).2.1); rintro e w132 ⟨rfl, hb⟩; refine ⟨_, rfl, ?_⟩; have n0_ := yD (zE (kA HO_288001) hb); have n1_ := yD (zE (kA HO_288002) hb); have n2_ := yD (zE (kA HO_288003) hb); have n3_ := yD (zE (kA HO_288004) hb); have n4_ := yD (Kd.S_below (by (with_reducible repeat (first | apply yS | apply yT | apply yU)); exact HO_288005.out) hb); have n5_ := yD (zE (kA HO_312001) hb); have n6_ := yD (zE (kA HO_312002) hb); have n7_ := yD (zE (kA HO_312003) hb); have n8_ := yD (zE (kA HO_312004) hb); have n9_ := yD (Kd.S_below (by (with_reducible repeat (first | apply yS | apply yT | apply yU)); exact HO_312005.out) hb); have n10_ := yD (zE (kA HO_356001) hb); have n11_ := yD (zE (kA HO_356002) hb); have n12_ := yD (zE (kA HO_356003) hb); have n13_ := yD (zE (kA HO_356004) hb); have n14_ := yD (Kd.S_below (by (with_reducible repeat (first | apply yS | apply yT | apply yU)); exact HO_356005.out) hb); have n15_ := yD (zB (g := gb287) (o := .cells #[.int .i64 t270, .slice Ao19 t271.length co19, .slice Ao20 t274.length co20, .slice Ao21 t277.length co21, .slice Ao22 t280.length co22, .slice Ao23 t283.length co23] 57 (0, 0)) (kM BK287) hb); have n16_ := yD (zB (g := gb311) (o := .cells #[.int .i64 t294, .slice Ao32 t327.length co32, .slice Ao33 t328.length co33, .slice Ao34 t329.length co34, .slice Ao35 t330.length co35, .slice Ao36 t307.length co36] 57 (0, 0)) (kM BK311) hb); have n17_ := yD (zB (g := gb355) (o := .cells #[.int .i64 t338, .slice Ao102 t339.length co102, .slice Ao103 t342.length co103, .slice Ao104 t345.length co104, .slice Ao105 t348.length co105, .slice Ao106 t351.length co106] 57 (0, 0)) (kM BK355) hb); have n18_ := yD (zC (kB HB) hb); clear HO_288001; clear HO_288002; clear HO_288003; clear HO_288004; clear HO_288005; clear HO_312001; clear HO_312002; clear HO_312003; clear HO_312004; clear HO_312005; clear HO_356001; clear HO_356002; clear HO_356003; clear HO_356004; clear HO_356005; clear BK287; clear BK311; clear BK355; clear HB; have HO_288001 := n0_; have HO_288002 := n1_; have HO_288003 := n2_; have HO_288004 := n3_; have HO_288005 := n4_; have HO_312001 := n5_; have HO_312002 := n6_; have HO_312003 := n7_; have HO_312004 := n8_; have HO_312005 := n9_; have HO_356001 := n10_; have HO_356002 := n11_; have HO_356003 := n12_; have HO_356004 := n13_; have HO_356005 := n14_; have BK287 := n15_; have BK311 := n16_; have BK355 := n17_; have HB := n18_; clear n0_ n1_ n2_ n3_ n4_ n5_ n6_ n7_ n8_ n9_ n10_ n11_ n12_ n13_ n14_ n15_ n16_ n17_ n18_; (try clear hb); (try clear hb2); (try clear hk); (try clear hi)))
          go_ret
          exact ⟨by first | rfl | (simp <;> rfl) | (simp [*] <;> rfl), by repeat (first | (with_reducible first | exact HB.out | apply yQ | apply yL | apply yP | refine yE ?_ GE287.out | refine yE ?_ GE311.out | refine yE ?_ GE355.out) | exact HB.out)⟩
        · rw [if_neg c128] at H
          have c128b0 : (t357 == t326) = false := beq_eq_false_iff_ne.mpr c128
          (try (have c128b0h := c128b0; simp only [hl312001_86, hl312002_86, hl312003_86, hl312004_86] at c128b0h))
          have c128b1 : (t357 != t326) = true := bne_iff_ne.mpr c128
          (try (have c128b1h := c128b1; simp only [hl312001_86, hl312002_86, hl312003_86, hl312004_86] at c128b1h))
          obtain rfl := Option.some.inj H; have hnb133 := NB311_287.out; have hnc133 := NB287_311.out; have hnb134 := NB311_355.out; have hnc134 := NB355_311.out
          obtain ⟨hcz135_0, hcz135_1, hcz135_2, hcz135_3, hcz135_4, hcz135_5⟩ := cz6 BK311.out
          obtain ⟨hfz135_0, hfz135_1, hfz135_2, hfz135_3, hfz135_4, hfz135_5⟩ := fz6 BK311.out
          go_wp2_with (first | ((with_reducible refine gate_callee (f := 39) rfl ?_); refine goesL_ (some 108) rfl rfl Try.func39 (by kernel_rfl) rfl #[.agg #[.int .i64 t294, .slice Ao32 t327.length co32, .slice Ao33 t328.length co33, .slice Ao34 t329.length co34, .slice Ao35 t330.length co35, .slice Ao36 t307.length co36], .int .i64 1] rfl (by (try simp only [zK, zL, zM]); first | done | rfl | (simp only [zN, zO]; rfl)) ?_; (with_reducible refine (laws_heldSelection.calls kj86 t294 _ _ t327 _ _ t328 _ _ t329 _ _ t330 _ _ t307 1 t357 _ ?side1 ?side2 ?side3 ?side4 ?side5 ?side6 ?side7 ?side8 ?side9 ?side10 A122.out).mono ?_); (case side1 => exact kV (zA HO_312001.out).2.2); (case side2 => exact (zA HO_312001.out).2.1); (case side3 => exact kV (zA HO_312002.out).2.2); (case side4 => exact (zA HO_312002.out).2.1); (case side5 => exact kV (zA HO_312003.out).2.2); (case side6 => exact (zA HO_312003.out).2.1); (case side7 => exact kV (zA HO_312004.out).2.2); (case side8 => exact (zA HO_312004.out).2.1); (case side9 => exact kV (Kd.S_reads' HO_312005.out).2.2); (case side10 => exact (Kd.S_reads' HO_312005.out).2.1); rintro e w136 ⟨rfl, hb⟩; refine ⟨_, rfl, ?_⟩; have n0_ := yD (zE (kA HO_288001) hb); have n1_ := yD (zE (kA HO_288002) hb); have n2_ := yD (zE (kA HO_288003) hb); have n3_ := yD (zE (kA HO_288004) hb); have n4_ := yD (Kd.S_below (by (with_reducible repeat (first | apply yS | apply yT | apply yU)); exact HO_288005.out) hb); have n5_ := yD (zE (kA HO_312001) hb); have n6_ := yD (zE (kA HO_312002) hb); have n7_ := yD (zE (kA HO_312003) hb); have n8_ := yD (zE (kA HO_312004) hb); have n9_ := yD (Kd.S_below (by (with_reducible repeat (first | apply yS | apply yT | apply yU)); exact HO_312005.out) hb); have n10_ := yD (zE (kA HO_356001) hb); have n11_ := yD (zE (kA HO_356002) hb); have n12_ := yD (zE (kA HO_356003) hb); have n13_ := yD (zE (kA HO_356004) hb); have n14_ := yD (Kd.S_below (by (with_reducible repeat (first | apply yS | apply yT | apply yU)); exact HO_356005.out) hb); have n15_ := yD (zB (g := gb287) (o := .cells #[.int .i64 t270, .slice Ao19 t271.length co19, .slice Ao20 t274.length co20, .slice Ao21 t277.length co21, .slice Ao22 t280.length co22, .slice Ao23 t283.length co23] 57 (0, 0)) (kM BK287) hb); have n16_ := yD (zB (g := gb311) (o := .cells #[.int .i64 t294, .slice Ao32 t327.length co32, .slice Ao33 t328.length co33, .slice Ao34 t329.length co34, .slice Ao35 t330.length co35, .slice Ao36 t307.length co36] 57 (0, 0)) (kM BK311) hb); have n17_ := yD (zB (g := gb355) (o := .cells #[.int .i64 t338, .slice Ao102 t339.length co102, .slice Ao103 t342.length co103, .slice Ao104 t345.length co104, .slice Ao105 t348.length co105, .slice Ao106 t351.length co106] 57 (0, 0)) (kM BK355) hb); have n18_ := yD (zC (kB HB) hb); clear HO_288001; clear HO_288002; clear HO_288003; clear HO_288004; clear HO_288005; clear HO_312001; clear HO_312002; clear HO_312003; clear HO_312004; clear HO_312005; clear HO_356001; clear HO_356002; clear HO_356003; clear HO_356004; clear HO_356005; clear BK287; clear BK311; clear BK355; clear HB; have HO_288001 := n0_; have HO_288002 := n1_; have HO_288003 := n2_; have HO_288004 := n3_; have HO_288005 := n4_; have HO_312001 := n5_; have HO_312002 := n6_; have HO_312003 := n7_; have HO_312004 := n8_; have HO_312005 := n9_; have HO_356001 := n10_; have HO_356002 := n11_; have HO_356003 := n12_; have HO_356004 := n13_; have HO_356005 := n14_; have BK287 := n15_; have BK311 := n16_; have BK355 := n17_; have HB := n18_; clear n0_ n1_ n2_ n3_ n4_ n5_ n6_ n7_ n8_ n9_ n10_ n11_ n12_ n13_ n14_ n15_ n16_ n17_ n18_; (try clear hb); (try clear hb2); (try clear hk); (try clear hi)))
          go_ret
          exact ⟨by first | rfl | (simp <;> rfl) | (simp [*] <;> rfl), by repeat (first | (with_reducible first | exact HB.out | apply yQ | apply yL | apply yP | refine yE ?_ GE287.out | refine yE ?_ GE311.out | refine yE ?_ GE355.out) | exact HB.out)⟩
theorem laws_FnExactRangeOf.calls (k : Nat) (A0 : Option Addr) (c0 : Nat) (l0 : List Int) (A1 : Option Addr) (c1 : Nat) (l1 : List Int) (r : Bool) (w : World) (hr0 : Kd.C (Kd.int .i64) w A0 l0.length l0) (hc0 : l0.length ≤ c0) (hr1 : Kd.C (Kd.int .i64) w A1 l1.length l1) (hc1 : l1.length ≤ c1) (h : laws_FnExactRangeOf.f k l0 l1 = some r) :
    Calls Try.prog 8 #[.slice A0 l0.length c0, .slice A1 l1.length c1] w fun e w' => e = .returned (.bool r) ∧ Below w.heap.size w w' := (laws_FnExactRangeOf.part1.2 ⟨(laws_FnExactRangeOf.part2.2 ⟨(laws_FnExactRangeOf.part3.2 ⟨laws_FnExactRangeOf.part4⟩)⟩)⟩) k A0 c0 l0 A1 c1 l1 r w hr0 hc0 hr1 hc1 h
/-- THE ONE PURE STATEMENT of laws_FnExactRangeOf: ours. -/
def laws_FnExactRangeOf.Pure : Prop := ∀ (l0 : List Int) (l1 : List Int), (l0.length ≤ maxLen ∧ ∀ x_ ∈ l0, (Lit.int .i64 x_).wf = true) → (l1.length ≤ maxLen ∧ ∀ x_ ∈ l1, (Lit.int .i64 x_).wf = true) → ∃ k, laws_FnExactRangeOf.f k l0 l1 = some true
theorem laws_FnExactRangeOf.walk (P : laws_FnExactRangeOf.Pure) (A0 : Option Addr) (c0 : Nat) (l0 : List Int) (A1 : Option Addr) (c1 : Nat) (l1 : List Int) (w : World) (hr0 : Kd.C (Kd.int .i64) w A0 l0.length l0) (hc0 : l0.length ≤ c0) (hr1 : Kd.C (Kd.int .i64) w A1 l1.length l1) (hc1 : l1.length ≤ c1) (o0 : (l0.length ≤ maxLen ∧ ∀ x_ ∈ l0, (Lit.int .i64 x_).wf = true)) (o1 : (l1.length ≤ maxLen ∧ ∀ x_ ∈ l1, (Lit.int .i64 x_).wf = true)) :
    Calls Try.prog 8 #[.slice A0 l0.length c0, .slice A1 l1.length c1] w fun e w' => e = .returned (.bool true) ∧ Below w.heap.size w w' := by
  obtain ⟨k, h⟩ := P l0 l1 o0 o1
  refine (laws_FnExactRangeOf.calls k _ _ l0 _ _ l1 true w hr0 hc0 hr1 hc1 h).mono ?_
  rintro e w' ⟨rfl, hd⟩
  exact ⟨rfl, hd⟩

end Go.Proofs.Ytehldidejgpifaa.PFnExactRangeOf
