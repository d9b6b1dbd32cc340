/- Each Go function here comes to what the plain function of its name says, where that says something. Made by a program of this session, over the print. -/
import Derived.Test.YtehldidejgpifaaPFnExactResizeSpacex7
namespace Go.Proofs.Ytehldidejgpifaa.PFnExactResizeSpace
open Go.RowKit Go.Proofs.YtehldidejgpifaaW.PrintWords Go.Proofs.YtehldidejgpifaaW.PrintLast Go.Proofs.YtehldidejgpifaaW.PrintMore
attribute [local go_sem] max2_int min2_int max_two min_two max_three min_three max_four min_four   -- for this text's walks alone
set_option linter.unusedVariables false
set_option linter.unusedSimpArgs false

set_option maxHeartbeats 8000000 in
set_option maxRecDepth 100000 in
theorem laws_FnExactResizeSpace.part4 : laws_FnExactResizeSpace.part3.1 := by
 intro k A0_0 c0_0 l0_0 A0_1 c0_1 l0_1 A1 c1 l1 r w hu63 hu65 HR0_0 HC0_0 HR0_1 HC0_1 HR1 HC1 iq1_1 c3b0 c3b1 t198 iq1_2 A5 c6b0 t199 t202 iq1_3 A10 t205 iq1_4 A11 t208 t211 t214 iq1_5 A12 t216 t219 iq1_6 A13 t223 iq2_1 A14 t226 t229 t232 A15 iq1_7 gb197 w17 GW197 GE197 hcz18_0 hcz18_1 hfz18_0 hfz18_1 w19 hcz20_0 hcz20_1 hfz20_0 hfz20_1 w21 w22 Ao23 co23 Ao24 co24 Ao25 co25 w26 gb215 w27 GW215 GE215 NB197_215 NB215_197 Ao28 co28 hnb29 hnc29 hcz30_0 hcz30_1 hfz30_0 hfz30_1 Ao31 co31 hcz32_0 hcz32_1 hfz32_0 hfz32_1 w33 gb222 w34 GW222 GE222 NB197_222 NB222_197 NB215_222 NB222_215 Ao35 co35 hnb36 hnc36 hnb37 hnc37 hcz38_0 hcz38_1 hfz38_0 hfz38_1 Ao39 co39 w40 hcz41_0 hcz41_1 hfz41_0 hfz41_1 Ao42 co42 w43 gb233 w44 iq1_8 iq1_9 iq1_10 iq1_11 iq1_12 GW233 GE233 NB197_233 NB233_197 NB215_233 NB233_215 NB222_233 NB233_222 Ao45 co45 hnb46 hnc46 hnb47 hnc47 hnb48 hnc48 hcz49_0 hcz49_1 hfz49_0 hfz49_1 Ao50 co50 HO201 HO204 HO207 HO210 HO213 HO218 HO221 HO225 HO228 HO231 iq2_2 iq2_3 iq2_4 iq2_5 iq2_6 iq2_7 iq2_8 iq2_9 iq2_10 iq2_11 iq2_12 iq2_13 iq2_14 iq2_15 iq2_16 iq2_17 iq2_18 iq2_19 iq2_20 iq2_21 iq2_22 iq2_23 iq2_24 iq2_25 iq2_26 iq2_27 iq2_28 iq2_29 iq2_30 iq2_31 iq2_32 iq2_33 iq2_34 iq2_35 iq2_36 iq2_37 iq2_38 iq2_39 iq2_40 iq2_41 iq2_42 iq2_43 iq2_44 iq2_45 iq2_46 iq2_47 iq2_48 iq2_49 iq2_50 iq2_51 iq2_52 iq2_53 iq2_54 iq2_55 iq2_56 iq2_57 iq2_58 iq2_59 iq2_60 iq2_61 iq2_62 iq2_63 iq2_64 iq3_1 iq2_65 iq2_66 iq2_67 iq2_68 iq2_69 iq2_70 iq2_71 iq2_72 iq2_73 iq2_74 iq2_75 iq2_76 iq2_77 iq2_78 iq2_79 iq2_80 iq2_81 iq2_82 iq2_83 iq2_84 iq2_85 iq2_86 iq2_87 iq2_88 iq2_89 iq2_90 iq2_91 iq2_92 iq2_93 iq2_94 iq2_95 iq2_96 iq2_97 iq2_98 iq2_99 iq2_100 kj15 HJ15 iq2_101 t235 t238 iq2_102 A70 A71 iq2_103 t242 iq2_104 A73 A74 iq2_105 t246 t247 t248 iq3_2 A76 t249 t250 A77 w79 iq2_106 w80 Ao81 co81 Ao82 co82 iq2_107 w83 hHeld w84 Ao85 co85 nd hnb86 hnc86 hnb87 hnc87 hnb88 hnc88 hcz89_0 hcz89_1 hfz89_0 hfz89_1 w90 w91 HO_9 iq2_108 iq2_109 iq2_110 iq2_111 iq2_112 iq2_113 iq2_114 iq2_115 iq2_116 iq2_117 HO237 HO240 HO244 iq2_118 iq3_3 iq3_4 iq3_5 iq3_6 iq3_7 iq3_8 iq3_9 iq3_10 iq3_11 iq3_12 iq3_13 iq3_14 iq3_15 iq3_16 iq3_17 iq3_18 iq3_19 iq3_20 iq3_21 iq3_22 iq3_23 iq3_24 iq3_25 iq3_26 iq3_27 iq3_28 iq3_29 iq3_30 iq3_31 iq3_32 iq3_33 iq3_34 iq3_35 iq3_36 iq3_37 iq3_38 iq3_39 iq3_40 iq3_41 iq3_42 iq3_43 iq3_44 iq3_45 iq3_46 iq3_47 iq3_48 iq3_49 iq3_50 iq3_51 iq3_52 iq3_53 iq3_54 iq3_55 iq3_56 iq3_57 iq3_58 iq3_59 iq3_60 iq3_61 iq3_62 iq3_63 iq3_64 iq3_65 iq3_66 iq3_67 iq3_68 iq3_69 iq3_70 iq3_71 iq3_72 iq3_73 iq3_74 iq3_75 iq3_76 iq3_77 iq3_78 iq3_79 iq3_80 iq3_81 iq3_82 iq3_83 iq3_84 iq3_85 iq3_86 iq3_87 iq3_88 iq3_89 iq3_90 iq3_91 iq3_92 iq3_93 u108 iq3_94 iq3_95 iq3_96 iq3_97 iq3_98 iq3_99 iq3_100 iq3_101 hl223000_77 hl223001_77 kj77 HJ77 iq3_102 t252 t253 t254 iq3_103 A112 t255 iq3_104 A113 c114b0 c122b0 c122b1 t256 t259 iq3_105 A123 t262 H A124 t265 t268 t271 A125 hnb127 hnc127 hnb128 hnc128 hnb129 hnc129 hcz130_0 hcz130_1 hfz130_0 hfz130_1 w131 hcz132_0 hcz132_1 hfz132_0 hfz132_1 w133 hnb134 hnc134 hnb135 hnc135 hcz136_0 hcz136_1 hfz136_0 hfz136_1 w137 w138 Ao139 co139 Ao140 co140 Ao141 co141 w142 gb272 w143 iq3_106 iq3_107 iq3_108 iq3_109 iq3_110 iq3_111 GW272 GE272 NB197_272 NB272_197 NB215_272 NB272_215 NB222_272 NB272_222 NB233_272 NB272_233 Ao144 co144 hnb145 hnc145 hnb146 hnc146 hnb147 hnc147 hnb148 hnc148 hcz149_0 hcz149_1 hfz149_0 hfz149_1 Ao150 co150 iq3_112 iq3_113 iq3_114 iq3_115 iq3_116 iq3_117 HO258 HO261 HO264 HO267 HO270 iq3_118 iq3_119 iq3_120 iq3_121 wc u17 u18 u19 u20 u21 u22 u23 u24 u25 u26 u27 u28 u29 u30 u31 u32 u33 u34 u35 u36 u37 u38 u39 u40 u41 u42 u43 u44 u45 u46 u47 u48 u49 u50 u51 u52 u53 u54 u55 u56 u57 u58 u59 u60 u61 u62 u63 u64 u65 u66 u67 u68 u69 u70 u71 u72 u73 u74 u75 u76 u77 u78 u79 u80 u81 u82 u83 u84 u85 u86 u87 u88 u89 u90 u91 u92 u93 u94 u95 u96 u97 u98 u99 u100 u101 u102 u103 u104 u105 u106 u107 u109 u110 u111 u112 u113 u114 u115 u116 kq x108_125 HA HJ125 HO_216000 HO_216001 HO_223000 HO_223001 HO_234000 HO_234001 HO_273000 HO_273001 BK197 BK215 BK222 BK233 BK272 HB
 have hl234000_125 := (zA HO_234000.out).1
 rw [hl234000_125] at HO_234000
 (try simp only [hl234000_125])
 (try simp only [hl234000_125] at BK197)
 (try simp only [hl234000_125] at BK215)
 (try simp only [hl234000_125] at BK222)
 (try simp only [hl234000_125] at BK233)
 (try simp only [hl234000_125] at BK272)
 (try simp only [hl234000_125] at HO_216000)
 (try simp only [hl234000_125] at HO_216001)
 (try simp only [hl234000_125] at HO_223000)
 (try simp only [hl234000_125] at HO_223001)
 (try simp only [hl234000_125] at HO_234001)
 (try simp only [hl234000_125] at HO_273000)
 (try simp only [hl234000_125] at HO_273001)
 have hl234001_125 := (zA HO_234001.out).1
 rw [hl234001_125] at HO_234001
 (try simp only [hl234001_125])
 (try simp only [hl234001_125] at BK197)
 (try simp only [hl234001_125] at BK215)
 (try simp only [hl234001_125] at BK222)
 (try simp only [hl234001_125] at BK233)
 (try simp only [hl234001_125] at BK272)
 (try simp only [hl234001_125] at HO_216000)
 (try simp only [hl234001_125] at HO_216001)
 (try simp only [hl234001_125] at HO_223000)
 (try simp only [hl234001_125] at HO_223001)
 (try simp only [hl234001_125] at HO_234000)
 (try simp only [hl234001_125] at HO_273000)
 (try simp only [hl234001_125] at HO_273001)
 cases kq with
 | zero => exact absurd HA.out (by simp [laws_FnExactResizeSpace.j2])
 | succ kj125 =>
  have H := HA.out; clear HA
  simp only [laws_FnExactResizeSpace.j2] at H
  by_cases c173 : x108_125 = true
  ·
   subst c173
   have H1 : (some false) = some r := by rw [if_pos rfl] at H; exact H
   clear H; have H := H1; clear H1; obtain rfl := Option.some.inj H
   go_wp2
   go_ret
   exact ⟨by first | rfl | (simp <;> rfl) | (simp [*] <;> rfl), by repeat (first | (with_reducible first | exact HB.out | apply yQ | apply yL | apply yP | refine yE ?_ GE197.out | refine yE ?_ GE215.out | refine yE ?_ GE222.out | refine yE ?_ GE233.out | refine yE ?_ GE272.out) | exact HB.out)⟩
  ·
   replace c173 := Bool.eq_false_iff.mpr c173
   subst c173
   have H1 : ((laws_heldSpace.f kj125 t253 t254 1).bind fun t274 => (if t274 < 0 then (some false) else (if t274 = t252 then (some true) else (some false)))) = some r := by rw [if_neg (show ¬ (false = true) by decide)] at H; exact H
   clear H; have H := H1; clear H1
   obtain ⟨t274, A1740, H⟩ := zW_ H
   replace H : (if t274 < 0 then (some false) else (if t274 = t252 then (some true) else (some false))) = some r := H
   have A174 := yD A1740
   clear A1740
   by_cases c175 : t274 < 0
   ·
    rw [if_pos c175] at H
    have c175b0 : decide (t274 < 0) = true := zR c175
    (try (have c175b0h := c175b0; simp only [hl223000_77, hl223001_77, hl234000_125, hl234001_125] at c175b0h))
    clear c175; obtain rfl := Option.some.inj H; have hnb176 := NB233_197.out; have hnc176 := NB197_233.out; have hnb177 := NB233_215.out; have hnc177 := NB215_233.out; have hnb178 := NB233_222.out; have hnc178 := NB222_233.out; have hnb179 := NB233_272.out; have hnc179 := NB272_233.out
    obtain ⟨hcz180_0, hcz180_1⟩ := cz2 BK233.out
    obtain ⟨hfz180_0, hfz180_1⟩ := fz2 BK233.out
    go_wp2_with (first | ((with_reducible refine gate_callee (f := 46) rfl ?_); refine goesL_ (some 111) rfl rfl Try.func46 (by kernel_rfl) rfl #[.agg #[.slice Ao45 t253.length co45, .slice Ao50 t254.length co50], .int .i64 1] rfl (by (try simp only [zK, zL, zM]); first | done | rfl | (simp only [zN, zO]; rfl)) ?_; (with_reducible refine (laws_heldSpace.calls kj125 _ _ t253 _ _ t254 1 t274 _ ?side1 ?side2 ?side3 ?side4 A174.out).mono ?_); (case side1 => repeat (first | exact (zA HO_234000.out).2.2 | (with_reducible first | refine yV ?_ _ | refine yW ?_ _ | refine yX ?_))); (case side2 => exact (zA HO_234000.out).2.1); (case side3 => repeat (first | exact (zA HO_234001.out).2.2 | (with_reducible first | refine yV ?_ _ | refine yW ?_ _ | refine yX ?_))); (case side4 => exact (zA HO_234001.out).2.1); rintro e w181 ⟨rfl, hb⟩; refine ⟨_, rfl, ?_⟩; have n0_ := yD (zE (kA HO_216000) hb); have n1_ := yD (zE (kA HO_216001) hb); have n2_ := yD (zE (kA HO_223000) hb); have n3_ := yD (zE (kA HO_223001) hb); have n4_ := yD (zE (kA HO_234000) hb); have n5_ := yD (zE (kA HO_234001) hb); have n6_ := yD (zE (kA HO_273000) hb); have n7_ := yD (zE (kA HO_273001) hb); have n8_ := yD (zB (g := gb197) (o := .cells #[.slice A0_0 l0_0.length c0_0, .slice A0_1 l0_1.length c0_1] 63 (0, 0)) (kM BK197) hb); have n9_ := yD (zB (g := gb215) (o := .cells #[.slice Ao28 t208.length co28, .slice Ao31 t211.length co31] 65 (0, 0)) (kM BK215) hb); have n10_ := yD (zB (g := gb222) (o := .cells #[.slice Ao35 t247.length co35, .slice Ao39 t248.length co39] 65 (0, 0)) (kM BK222) hb); have n11_ := yD (zB (g := gb233) (o := .cells #[.slice Ao45 t253.length co45, .slice Ao50 t254.length co50] 65 (0, 0)) (kM BK233) hb); have n12_ := yD (zB (g := gb272) (o := .cells #[.slice Ao144 t265.length co144, .slice Ao150 t268.length co150] 65 (0, 0)) (kM BK272) hb); have n13_ := yD (zC (kB HB) hb); clear HO_216000; clear HO_216001; clear HO_223000; clear HO_223001; clear HO_234000; clear HO_234001; clear HO_273000; clear HO_273001; clear BK197; clear BK215; clear BK222; clear BK233; clear BK272; clear HB; have HO_216000 := n0_; have HO_216001 := n1_; have HO_223000 := n2_; have HO_223001 := n3_; have HO_234000 := n4_; have HO_234001 := n5_; have HO_273000 := n6_; have HO_273001 := n7_; have BK197 := n8_; have BK215 := n9_; have BK222 := n10_; have BK233 := n11_; have BK272 := n12_; have HB := n13_; clear n0_ n1_ n2_ n3_ n4_ n5_ n6_ n7_ n8_ n9_ n10_ n11_ n12_ n13_; (try clear hb); (try clear hb2); (try clear hk); (try clear hi)))
    go_ret
    exact ⟨by first | rfl | (simp <;> rfl) | (simp [*] <;> rfl), by repeat (first | (with_reducible first | exact HB.out | apply yQ | apply yL | apply yP | refine yE ?_ GE197.out | refine yE ?_ GE215.out | refine yE ?_ GE222.out | refine yE ?_ GE233.out | refine yE ?_ GE272.out) | exact HB.out)⟩
   ·
    rw [if_neg c175] at H
    have c175b0 : decide (t274 < 0) = false := zS c175
    (try (have c175b0h := c175b0; simp only [hl223000_77, hl223001_77, hl234000_125, hl234001_125] at c175b0h))
    clear c175
    by_cases c182 : t274 = t252
    ·
     rw [if_pos c182] at H
     have c182b0 : (t274 == t252) = true := beq_iff_eq.mpr c182
     (try (have c182b0h := c182b0; simp only [hl223000_77, hl223001_77, hl234000_125, hl234001_125] at c182b0h))
     have c182b1 : (t274 != t252) = false := bne_eq_false_iff_eq.mpr c182
     (try (have c182b1h := c182b1; simp only [hl223000_77, hl223001_77, hl234000_125, hl234001_125] at c182b1h))
     clear c182; obtain rfl := Option.some.inj H; have hnb183 := NB233_197.out; have hnc183 := NB197_233.out; have hnb184 := NB233_215.out; have hnc184 := NB215_233.out; have hnb185 := NB233_222.out; have hnc185 := NB222_233.out; have hnb186 := NB233_272.out; have hnc186 := NB272_233.out
     obtain ⟨hcz187_0, hcz187_1⟩ := cz2 BK233.out
     obtain ⟨hfz187_0, hfz187_1⟩ := fz2 BK233.out
     go_wp2_with (first | ((with_reducible refine gate_callee (f := 46) rfl ?_); refine goesL_ (some 111) rfl rfl Try.func46 (by kernel_rfl) rfl #[.agg #[.slice Ao45 t253.length co45, .slice Ao50 t254.length co50], .int .i64 1] rfl (by (try simp only [zK, zL, zM]); first | done | rfl | (simp only [zN, zO]; rfl)) ?_; (with_reducible refine (laws_heldSpace.calls kj125 _ _ t253 _ _ t254 1 t274 _ ?side1 ?side2 ?side3 ?side4 A174.out).mono ?_); (case side1 => repeat (first | exact (zA HO_234000.out).2.2 | (with_reducible first | refine yV ?_ _ | refine yW ?_ _ | refine yX ?_))); (case side2 => exact (zA HO_234000.out).2.1); (case side3 => repeat (first | exact (zA HO_234001.out).2.2 | (with_reducible first | refine yV ?_ _ | refine yW ?_ _ | refine yX ?_))); (case side4 => exact (zA HO_234001.out).2.1); rintro e w188 ⟨rfl, hb⟩; refine ⟨_, rfl, ?_⟩; have n0_ := yD (zE (kA HO_216000) hb); have n1_ := yD (zE (kA HO_216001) hb); have n2_ := yD (zE (kA HO_223000) hb); have n3_ := yD (zE (kA HO_223001) hb); have n4_ := yD (zE (kA HO_234000) hb); have n5_ := yD (zE (kA HO_234001) hb); have n6_ := yD (zE (kA HO_273000) hb); have n7_ := yD (zE (kA HO_273001) hb); have n8_ := yD (zB (g := gb197) (o := .cells #[.slice A0_0 l0_0.length c0_0, .slice A0_1 l0_1.length c0_1] 63 (0, 0)) (kM BK197) hb); have n9_ := yD (zB (g := gb215) (o := .cells #[.slice Ao28 t208.length co28, .slice Ao31 t211.length co31] 65 (0, 0)) (kM BK215) hb); have n10_ := yD (zB (g := gb222) (o := .cells #[.slice Ao35 t247.length co35, .slice Ao39 t248.length co39] 65 (0, 0)) (kM BK222) hb); have n11_ := yD (zB (g := gb233) (o := .cells #[.slice Ao45 t253.length co45, .slice Ao50 t254.length co50] 65 (0, 0)) (kM BK233) hb); have n12_ := yD (zB (g := gb272) (o := .cells #[.slice Ao144 t265.length co144, .slice Ao150 t268.length co150] 65 (0, 0)) (kM BK272) hb); have n13_ := yD (zC (kB HB) hb); clear HO_216000; clear HO_216001; clear HO_223000; clear HO_223001; clear HO_234000; clear HO_234001; clear HO_273000; clear HO_273001; clear BK197; clear BK215; clear BK222; clear BK233; clear BK272; clear HB; have HO_216000 := n0_; have HO_216001 := n1_; have HO_223000 := n2_; have HO_223001 := n3_; have HO_234000 := n4_; have HO_234001 := n5_; have HO_273000 := n6_; have HO_273001 := n7_; have BK197 := n8_; have BK215 := n9_; have BK222 := n10_; have BK233 := n11_; have BK272 := n12_; have HB := n13_; clear n0_ n1_ n2_ n3_ n4_ n5_ n6_ n7_ n8_ n9_ n10_ n11_ n12_ n13_; (try clear hb); (try clear hb2); (try clear hk); (try clear hi)))
     go_ret
     exact ⟨by first | rfl | (simp <;> rfl) | (simp [*] <;> rfl), by repeat (first | (with_reducible first | exact HB.out | apply yQ | apply yL | apply yP | refine yE ?_ GE197.out | refine yE ?_ GE215.out | refine yE ?_ GE222.out | refine yE ?_ GE233.out | refine yE ?_ GE272.out) | exact HB.out)⟩
    ·
     rw [if_neg c182] at H
     have c182b0 : (t274 == t252) = false := beq_eq_false_iff_ne.mpr c182
     (try (have c182b0h := c182b0; simp only [hl223000_77, hl223001_77, hl234000_125, hl234001_125] at c182b0h))
     have c182b1 : (t274 != t252) = true := bne_iff_ne.mpr c182
     (try (have c182b1h := c182b1; simp only [hl223000_77, hl223001_77, hl234000_125, hl234001_125] at c182b1h))
     obtain rfl := Option.some.inj H; have hnb189 := NB233_197.out; have hnc189 := NB197_233.out; have hnb190 := NB233_215.out; have hnc190 := NB215_233.out; have hnb191 := NB233_222.out; have hnc191 := NB222_233.out; have hnb192 := NB233_272.out; have hnc192 := NB272_233.out
     obtain ⟨hcz193_0, hcz193_1⟩ := cz2 BK233.out
     obtain ⟨hfz193_0, hfz193_1⟩ := fz2 BK233.out
     go_wp2_with (first | ((with_reducible refine gate_callee (f := 46) rfl ?_); refine goesL_ (some 111) rfl rfl Try.func46 (by kernel_rfl) rfl #[.agg #[.slice Ao45 t253.length co45, .slice Ao50 t254.length co50], .int .i64 1] rfl (by (try simp only [zK, zL, zM]); first | done | rfl | (simp only [zN, zO]; rfl)) ?_; (with_reducible refine (laws_heldSpace.calls kj125 _ _ t253 _ _ t254 1 t274 _ ?side1 ?side2 ?side3 ?side4 A174.out).mono ?_); (case side1 => repeat (first | exact (zA HO_234000.out).2.2 | (with_reducible first | refine yV ?_ _ | refine yW ?_ _ | refine yX ?_))); (case side2 => exact (zA HO_234000.out).2.1); (case side3 => repeat (first | exact (zA HO_234001.out).2.2 | (with_reducible first | refine yV ?_ _ | refine yW ?_ _ | refine yX ?_))); (case side4 => exact (zA HO_234001.out).2.1); rintro e w194 ⟨rfl, hb⟩; refine ⟨_, rfl, ?_⟩; have n0_ := yD (zE (kA HO_216000) hb); have n1_ := yD (zE (kA HO_216001) hb); have n2_ := yD (zE (kA HO_223000) hb); have n3_ := yD (zE (kA HO_223001) hb); have n4_ := yD (zE (kA HO_234000) hb); have n5_ := yD (zE (kA HO_234001) hb); have n6_ := yD (zE (kA HO_273000) hb); have n7_ := yD (zE (kA HO_273001) hb); have n8_ := yD (zB (g := gb197) (o := .cells #[.slice A0_0 l0_0.length c0_0, .slice A0_1 l0_1.length c0_1] 63 (0, 0)) (kM BK197) hb); have n9_ := yD (zB (g := gb215) (o := .cells #[.slice Ao28 t208.length co28, .slice Ao31 t211.length co31] 65 (0, 0)) (kM BK215) hb); have n10_ := yD (zB (g := gb222) (o := .cells #[.slice Ao35 t247.length co35, .slice Ao39 t248.length co39] 65 (0, 0)) (kM BK222) hb); have n11_ := yD (zB (g := gb233) (o := .cells #[.slice Ao45 t253.length co45, .slice Ao50 t254.length co50] 65 (0, 0)) (kM BK233) hb); have n12_ := yD (zB (g := gb272) (o := .cells #[.slice Ao144 t265.length co144, .slice Ao150 t268.length co150] 65 (0, 0)) (kM BK272) hb); have n13_ := yD (zC (kB HB) hb); clear HO_216000; clear HO_216001; clear HO_223000; clear HO_223001; clear HO_234000; clear HO_234001; clear HO_273000; clear HO_273001; clear BK197; clear BK215; clear BK222; clear BK233; clear BK272; clear HB; have HO_216000 := n0_; have HO_216001 := n1_; have HO_223000 := n2_; have HO_223001 := n3_; have HO_234000 := n4_; have HO_234001 := n5_; have HO_273000 := n6_; have HO_273001 := n7_; have BK197 := n8_; have BK215 := n9_; have BK222 := n10_; have BK233 := n11_; have BK272 := n12_; have HB := n13_; clear n0_ n1_ n2_ n3_ n4_ n5_ n6_ n7_ n8_ n9_ n10_ n11_ n12_ n13_; (try clear hb); (try clear hb2); (try clear hk); (try clear hi)))
     go_ret
     exact ⟨by first | rfl | (simp <;> rfl) | (simp [*] <;> rfl), by repeat (first | (with_reducible first | exact HB.out | apply yQ | apply yL | apply yP | refine yE ?_ GE197.out | refine yE ?_ GE215.out | refine yE ?_ GE222.out | refine yE ?_ GE233.out | refine yE ?_ GE272.out) | exact HB.out)⟩
theorem laws_FnExactResizeSpace.calls (k : Nat) (A0_0 : Option Addr) (c0_0 : Nat) (l0_0 : List Int) (A0_1 : Option Addr) (c0_1 : Nat) (l0_1 : List Int) (A1 : Option Addr) (c1 : Nat) (l1 : List Int) (r : Bool) (w : World) (hr0_0 : Kd.C (Kd.int .i64) w A0_0 l0_0.length l0_0) (hc0_0 : l0_0.length ≤ c0_0) (hr0_1 : Kd.C (Kd.int .i64) w A0_1 l0_1.length l0_1) (hc0_1 : l0_1.length ≤ c0_1) (hr1 : Kd.C (Kd.int .i64) w A1 l1.length l1) (hc1 : l1.length ≤ c1) (h : laws_FnExactResizeSpace.f k l0_0 l0_1 l1 = some r) :
    Calls Try.prog 9 #[.agg #[.slice A0_0 l0_0.length c0_0, .slice A0_1 l0_1.length c0_1], .slice A1 l1.length c1] w fun e w' => e = .returned (.bool r) ∧ Below w.heap.size w w' := (laws_FnExactResizeSpace.part1.2 ⟨(laws_FnExactResizeSpace.part2.2 ⟨(laws_FnExactResizeSpace.part3.2 ⟨laws_FnExactResizeSpace.part4⟩)⟩)⟩) k A0_0 c0_0 l0_0 A0_1 c0_1 l0_1 A1 c1 l1 r w hr0_0 hc0_0 hr0_1 hc0_1 hr1 hc1 h
def okS63 (x : S63) : Prop := (x.f0.length ≤ maxLen ∧ ∀ x_ ∈ x.f0, (Lit.int .i64 x_).wf = true) ∧ (x.f1.length ≤ maxLen ∧ ∀ x_ ∈ x.f1, (Lit.int .i64 x_).wf = true)
/-- THE ONE PURE STATEMENT of laws_FnExactResizeSpace: ours. -/
def laws_FnExactResizeSpace.Pure : Prop := ∀ (l0_0 : List Int) (l0_1 : List Int) (l1 : List Int), (l0_0.length ≤ maxLen ∧ ∀ x_ ∈ l0_0, (Lit.int .i64 x_).wf = true) → (l0_1.length ≤ maxLen ∧ ∀ x_ ∈ l0_1, (Lit.int .i64 x_).wf = true) → (l1.length ≤ maxLen ∧ ∀ x_ ∈ l1, (Lit.int .i64 x_).wf = true) → ∃ k, laws_FnExactResizeSpace.f k l0_0 l0_1 l1 = some true
theorem laws_FnExactResizeSpace.walk (P : laws_FnExactResizeSpace.Pure) (A0_0 : Option Addr) (c0_0 : Nat) (l0_0 : List Int) (A0_1 : Option Addr) (c0_1 : Nat) (l0_1 : List Int) (A1 : Option Addr) (c1 : Nat) (l1 : List Int) (w : World) (hr0_0 : Kd.C (Kd.int .i64) w A0_0 l0_0.length l0_0) (hc0_0 : l0_0.length ≤ c0_0) (hr0_1 : Kd.C (Kd.int .i64) w A0_1 l0_1.length l0_1) (hc0_1 : l0_1.length ≤ c0_1) (hr1 : Kd.C (Kd.int .i64) w A1 l1.length l1) (hc1 : l1.length ≤ c1) (o0_0 : (l0_0.length ≤ maxLen ∧ ∀ x_ ∈ l0_0, (Lit.int .i64 x_).wf = true)) (o0_1 : (l0_1.length ≤ maxLen ∧ ∀ x_ ∈ l0_1, (Lit.int .i64 x_).wf = true)) (o1 : (l1.length ≤ maxLen ∧ ∀ x_ ∈ l1, (Lit.int .i64 x_).wf = true)) :
  Calls Try.prog 9 #[.agg #[.slice A0_0 l0_0.length c0_0, .slice A0_1 l0_1.length c0_1], .slice A1 l1.length c1] w fun e w' => e = .returned (.bool true) ∧ Below w.heap.size w w' := by
 obtain ⟨k, h⟩ := P l0_0 l0_1 l1 o0_0 o0_1 o1
 refine (laws_FnExactResizeSpace.calls k _ _ l0_0 _ _ l0_1 _ _ l1 true w hr0_0 hc0_0 hr0_1 hc0_1 hr1 hc1 h).mono ?_
 rintro e w' ⟨rfl, hd⟩
 exact ⟨rfl, hd⟩

end Go.Proofs.Ytehldidejgpifaa.PFnExactResizeSpace
