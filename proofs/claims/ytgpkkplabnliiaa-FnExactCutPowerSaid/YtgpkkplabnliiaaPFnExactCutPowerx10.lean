/- Each Go function here comes to what the plain function of its name says, where that says something. Made by a program of this session, over the print. -/
import Derived.Test.YtgpkkplabnliiaaPFnExactCutPowerx9
namespace Go.Proofs.Ytgpkkplabnliiaa.PFnExactCutPower
open Go.RowKit Go.Proofs.YtgpkkplabnliiaaW.PrintWords Go.Proofs.YtgpkkplabnliiaaW.PrintLast Go.Proofs.YtgpkkplabnliiaaW.PrintMore
attribute [local go_sem] max2_int min2_int max_two min_two max_three min_three max_four min_four   -- for this text's walks alone
set_option linter.unusedVariables false
set_option linter.unusedSimpArgs false

set_option maxHeartbeats 8000000 in
set_option maxRecDepth 100000 in
def laws_FnExactCutPower.part2 : (R_ : Prop) ×' (Hold_ R_ → laws_FnExactCutPower.part1.1) := PSigma.mk _ fun hR_ => by
  intro k A0_0 c0_0 l0_0 A0_1 c0_1 l0_1 a0_2 a0_3 A1 c1 l1 a2 a3 r w hu39 hu44 HR0_0 HC0_0 HR0_1 HC0_1 HR1 HC1 iq1_1 c5b0 c5b1 t276 iq1_2 A7 c8b0 t277 t280 t283 t284 iq1_3 A12 t285 iq1_4 A13 t288 t291 t294 t295 t296 iq1_5 A14 t298 t301 t304 t305 iq1_6 A15 t307 H A16 t310 t313 t316 t317 t318 A17 iq1_7 gb275 w19 GW275 GE275 hcz20_0 hcz20_1 hcz20_2 hcz20_3 hfz20_0 hfz20_1 hfz20_2 hfz20_3 w21 hcz22_0 hcz22_1 hcz22_2 hcz22_3 hfz22_0 hfz22_1 hfz22_2 hfz22_3 w23 w24 Ao25 co25 Ao26 co26 Ao27 co27 w28 gb297 w29 GW297 GE297 NB275_297 NB297_275 Ao30 co30 hnb31 hnc31 hcz32_0 hcz32_1 hcz32_2 hcz32_3 hfz32_0 hfz32_1 hfz32_2 hfz32_3 Ao33 co33 hcz34_0 hcz34_1 hcz34_2 hcz34_3 hfz34_0 hfz34_1 hfz34_2 hfz34_3 w35 gb306 w36 GW306 GE306 NB275_306 NB306_275 NB297_306 NB306_297 Ao37 co37 hnb38 hnc38 hnb39 hnc39 hcz40_0 hcz40_1 hcz40_2 hcz40_3 hfz40_0 hfz40_1 hfz40_2 hfz40_3 Ao41 co41 w42 hcz43_0 hcz43_1 hcz43_2 hcz43_3 hfz43_0 hfz43_1 hfz43_2 hfz43_3 Ao44 co44 w45 gb319 w46 HO287 HO309 iq1_8 iq1_9 iq1_10 iq1_11 iq1_12 GW319 GE319 NB275_319 NB319_275 NB297_319 NB319_297 NB306_319 NB319_306 Ao47 co47 HO279 HO290 HO300 HO312 hnb48 hnc48 hnb49 hnc49 hnb50 hnc50 hcz51_0 hcz51_1 hcz51_2 hcz51_3 hfz51_0 hfz51_1 hfz51_2 hfz51_3 Ao52 co52 HO282 HO293 HO303 HO315 iq1_13 iq1_14 iq1_15 iq1_16 wc u21 u22 u23 u24 u25 u26 u27 u28 u29 u30 u31 u32 u33 u34 u35 u36 u37 u38 u39 u40 u41 u42 u43 u44 u45 u46 u47 u48 u49 u50 u51 u52 u53 u54 u55 u56 u57 u58 u60 u61 u62 u63 u64 u65 u66 u67 u68 u69 u70 u71 u72 u73 u74 u75 u76 u77 u78 u79 u80 u81 u82 u83 u84 u85 u86 u87 u88 u89 u90 u91 u92 u93 u94 u95 u96 u97 u98 u99 u100 u101 u102 u103 u104 u105 u106 u107 u108 u109 u110 u111 u112 u113 u114 u115 u116 u117 u118 u119 u120 u121 u122 u123 u124 u125 u126 kq x59_17 HA HJ17 HO_13 HO_298000 HO_298001 HO_307000 HO_307001 HO_320000 HO_320001 BK275 BK297 BK306 BK319 HB
  cases kq with
  | zero => exact absurd HA.out (by simp [laws_FnExactCutPower.j0])
  | succ kj17 =>
    have H := HA.out; clear HA
    simp only [laws_FnExactCutPower.j0] at H
    by_cases c71 : x59_17 = true
    · subst c71
      have H1 : (some false) = some r := by rw [if_pos rfl] at H; exact H
      clear H; have H := H1; clear H1; obtain rfl := Option.some.inj H
      go_wp2
      go_ret
      exact ⟨by first | rfl | (simp <;> rfl) | (simp [*] <;> rfl), by repeat (first | (with_reducible first | exact HB.out | apply yQ | apply yL | apply yP | refine yE ?_ GE275.out | refine yE ?_ GE297.out | refine yE ?_ GE306.out | refine yE ?_ GE319.out) | exact HB.out)⟩
    · replace c71 := Bool.eq_false_iff.mpr c71
      subst c71
      have H1 : ((laws_toDisk.f kj17 l0_0 l0_1 a0_2 a0_3).bind fun bt321 => ((laws_eqDisk.f kj17 t298 t301 t304 t305 bt321.1 bt321.2.1 bt321.2.2.1 bt321.2.2.2).bind fun t329 => (if t329 = true then ((laws_toBoolS.f kj17 l1).bind fun t330 => ((laws_eqBoolS.f kj17 t307 t330).bind fun t333 => (if t333 = true then ((laws_markDisk.f kj17 t298 t301 t304 t305 1).bind fun bt334 => ((laws_markBoolS.f kj17 t307 bt334.1).bind fun bt337 => (if bt337.1 < 0 then (laws_FnExactCutPower.j1 kj17 l1 a2 a3 t296 true l0_0 l0_1 a0_2 a0_3 t288 t291 t294 t295 t310 t313 t316 t317) else ((laws_eqDisk.f kj17 t310 t313 t316 t317 t288 t291 t294 t295).bind fun t339 => (if t339 = true then (laws_FnExactCutPower.j1 kj17 l1 a2 a3 t296 (t318 != t296) l0_0 l0_1 a0_2 a0_3 t288 t291 t294 t295 t310 t313 t316 t317) else (laws_FnExactCutPower.j1 kj17 l1 a2 a3 t296 true l0_0 l0_1 a0_2 a0_3 t288 t291 t294 t295 t310 t313 t316 t317)))))) else (some false)))) else (some false)))) = some r := by rw [if_neg (show ¬ (false = true) by decide)] at H; exact H
      clear H; have H := H1; clear H1
      obtain ⟨⟨t321, t324, t327, t328⟩, A720, H⟩ := zW_ H
      replace H : ((laws_eqDisk.f kj17 t298 t301 t304 t305 t321 t324 t327 t328).bind fun t329 => (if t329 = true then ((laws_toBoolS.f kj17 l1).bind fun t330 => ((laws_eqBoolS.f kj17 t307 t330).bind fun t333 => (if t333 = true then ((laws_markDisk.f kj17 t298 t301 t304 t305 1).bind fun bt334 => ((laws_markBoolS.f kj17 t307 bt334.1).bind fun bt337 => (if bt337.1 < 0 then (laws_FnExactCutPower.j1 kj17 l1 a2 a3 t296 true l0_0 l0_1 a0_2 a0_3 t288 t291 t294 t295 t310 t313 t316 t317) else ((laws_eqDisk.f kj17 t310 t313 t316 t317 t288 t291 t294 t295).bind fun t339 => (if t339 = true then (laws_FnExactCutPower.j1 kj17 l1 a2 a3 t296 (t318 != t296) l0_0 l0_1 a0_2 a0_3 t288 t291 t294 t295 t310 t313 t316 t317) else (laws_FnExactCutPower.j1 kj17 l1 a2 a3 t296 true l0_0 l0_1 a0_2 a0_3 t288 t291 t294 t295 t310 t313 t316 t317)))))) else (some false)))) else (some false))) = some r := H
      have A72 := yD A720
      clear A720
      obtain ⟨t329, A730, H⟩ := zW_ H
      replace H : (if t329 = true then ((laws_toBoolS.f kj17 l1).bind fun t330 => ((laws_eqBoolS.f kj17 t307 t330).bind fun t333 => (if t333 = true then ((laws_markDisk.f kj17 t298 t301 t304 t305 1).bind fun bt334 => ((laws_markBoolS.f kj17 t307 bt334.1).bind fun bt337 => (if bt337.1 < 0 then (laws_FnExactCutPower.j1 kj17 l1 a2 a3 t296 true l0_0 l0_1 a0_2 a0_3 t288 t291 t294 t295 t310 t313 t316 t317) else ((laws_eqDisk.f kj17 t310 t313 t316 t317 t288 t291 t294 t295).bind fun t339 => (if t339 = true then (laws_FnExactCutPower.j1 kj17 l1 a2 a3 t296 (t318 != t296) l0_0 l0_1 a0_2 a0_3 t288 t291 t294 t295 t310 t313 t316 t317) else (laws_FnExactCutPower.j1 kj17 l1 a2 a3 t296 true l0_0 l0_1 a0_2 a0_3 t288 t291 t294 t295 t310 t313 t316 t317)))))) else (some false)))) else (some false)) = some r := H
      have A73 := yD A730
      clear A730
      by_cases c74 : t329 = true
      · subst c74
        have H1 : ((laws_toBoolS.f kj17 l1).bind fun t330 => ((laws_eqBoolS.f kj17 t307 t330).bind fun t333 => (if t333 = true then ((laws_markDisk.f kj17 t298 t301 t304 t305 1).bind fun bt334 => ((laws_markBoolS.f kj17 t307 bt334.1).bind fun bt337 => (if bt337.1 < 0 then (laws_FnExactCutPower.j1 kj17 l1 a2 a3 t296 true l0_0 l0_1 a0_2 a0_3 t288 t291 t294 t295 t310 t313 t316 t317) else ((laws_eqDisk.f kj17 t310 t313 t316 t317 t288 t291 t294 t295).bind fun t339 => (if t339 = true then (laws_FnExactCutPower.j1 kj17 l1 a2 a3 t296 (t318 != t296) l0_0 l0_1 a0_2 a0_3 t288 t291 t294 t295 t310 t313 t316 t317) else (laws_FnExactCutPower.j1 kj17 l1 a2 a3 t296 true l0_0 l0_1 a0_2 a0_3 t288 t291 t294 t295 t310 t313 t316 t317)))))) else (some false)))) = some r := by rw [if_pos rfl] at H; exact H
        clear H; have H := H1; clear H1
        obtain ⟨t330, A750, H⟩ := zW_ H
        replace H : ((laws_eqBoolS.f kj17 t307 t330).bind fun t333 => (if t333 = true then ((laws_markDisk.f kj17 t298 t301 t304 t305 1).bind fun bt334 => ((laws_markBoolS.f kj17 t307 bt334.1).bind fun bt337 => (if bt337.1 < 0 then (laws_FnExactCutPower.j1 kj17 l1 a2 a3 t296 true l0_0 l0_1 a0_2 a0_3 t288 t291 t294 t295 t310 t313 t316 t317) else ((laws_eqDisk.f kj17 t310 t313 t316 t317 t288 t291 t294 t295).bind fun t339 => (if t339 = true then (laws_FnExactCutPower.j1 kj17 l1 a2 a3 t296 (t318 != t296) l0_0 l0_1 a0_2 a0_3 t288 t291 t294 t295 t310 t313 t316 t317) else (laws_FnExactCutPower.j1 kj17 l1 a2 a3 t296 true l0_0 l0_1 a0_2 a0_3 t288 t291 t294 t295 t310 t313 t316 t317)))))) else (some false))) = some r := H
        have A75 := yD A750
        clear A750
        obtain ⟨t333, A760, H⟩ := zW_ H
        replace H : (if t333 = true then ((laws_markDisk.f kj17 t298 t301 t304 t305 1).bind fun bt334 => ((laws_markBoolS.f kj17 t307 bt334.1).bind fun bt337 => (if bt337.1 < 0 then (laws_FnExactCutPower.j1 kj17 l1 a2 a3 t296 true l0_0 l0_1 a0_2 a0_3 t288 t291 t294 t295 t310 t313 t316 t317) else ((laws_eqDisk.f kj17 t310 t313 t316 t317 t288 t291 t294 t295).bind fun t339 => (if t339 = true then (laws_FnExactCutPower.j1 kj17 l1 a2 a3 t296 (t318 != t296) l0_0 l0_1 a0_2 a0_3 t288 t291 t294 t295 t310 t313 t316 t317) else (laws_FnExactCutPower.j1 kj17 l1 a2 a3 t296 true l0_0 l0_1 a0_2 a0_3 t288 t291 t294 t295 t310 t313 t316 t317)))))) else (some false)) = some r := H
        have A76 := yD A760
        clear A760
        by_cases c77 : t333 = true
        · subst c77
          have H1 : ((laws_markDisk.f kj17 t298 t301 t304 t305 1).bind fun bt334 => ((laws_markBoolS.f kj17 t307 bt334.1).bind fun bt337 => (if bt337.1 < 0 then (laws_FnExactCutPower.j1 kj17 l1 a2 a3 t296 true l0_0 l0_1 a0_2 a0_3 t288 t291 t294 t295 t310 t313 t316 t317) else ((laws_eqDisk.f kj17 t310 t313 t316 t317 t288 t291 t294 t295).bind fun t339 => (if t339 = true then (laws_FnExactCutPower.j1 kj17 l1 a2 a3 t296 (t318 != t296) l0_0 l0_1 a0_2 a0_3 t288 t291 t294 t295 t310 t313 t316 t317) else (laws_FnExactCutPower.j1 kj17 l1 a2 a3 t296 true l0_0 l0_1 a0_2 a0_3 t288 t291 t294 t295 t310 t313 t316 t317)))))) = some r := by rw [if_pos rfl] at H; exact H
          clear H; have H := H1; clear H1
          obtain ⟨⟨t334, t335, t336⟩, A780, H⟩ := zW_ H
          replace H : ((laws_markBoolS.f kj17 t307 t334).bind fun bt337 => (if bt337.1 < 0 then (laws_FnExactCutPower.j1 kj17 l1 a2 a3 t296 true l0_0 l0_1 a0_2 a0_3 t288 t291 t294 t295 t310 t313 t316 t317) else ((laws_eqDisk.f kj17 t310 t313 t316 t317 t288 t291 t294 t295).bind fun t339 => (if t339 = true then (laws_FnExactCutPower.j1 kj17 l1 a2 a3 t296 (t318 != t296) l0_0 l0_1 a0_2 a0_3 t288 t291 t294 t295 t310 t313 t316 t317) else (laws_FnExactCutPower.j1 kj17 l1 a2 a3 t296 true l0_0 l0_1 a0_2 a0_3 t288 t291 t294 t295 t310 t313 t316 t317))))) = some r := H
          have A78 := yD A780
          clear A780
          obtain ⟨⟨t337, t338⟩, A790, H⟩ := zW_ H
          replace H : (if t337 < 0 then (laws_FnExactCutPower.j1 kj17 l1 a2 a3 t296 true l0_0 l0_1 a0_2 a0_3 t288 t291 t294 t295 t310 t313 t316 t317) else ((laws_eqDisk.f kj17 t310 t313 t316 t317 t288 t291 t294 t295).bind fun t339 => (if t339 = true then (laws_FnExactCutPower.j1 kj17 l1 a2 a3 t296 (t318 != t296) l0_0 l0_1 a0_2 a0_3 t288 t291 t294 t295 t310 t313 t316 t317) else (laws_FnExactCutPower.j1 kj17 l1 a2 a3 t296 true l0_0 l0_1 a0_2 a0_3 t288 t291 t294 t295 t310 t313 t316 t317)))) = some r := H
          have A79 := yD A790
          clear A790
          have HC80 := yD H
          clear H
          try go_wp2
          have n0_ := yD (yC HO_13.out)
          have n1_ := yD (yC HO_298000.out)
          have n2_ := yD (yC HO_298001.out)
          have n3_ := yD (yC HO_307000.out)
          have n4_ := yD (yC HO_307001.out)
          have n5_ := yD (yC HO_320000.out)
          have n6_ := yD (yC HO_320001.out)
          have n7_ := yD (yO BK275.out)
          have n8_ := yD (yO BK297.out)
          have n9_ := yD (yO BK306.out)
          have n10_ := yD (yO BK319.out)
          have n11_ := yD (yP HB.out)
          clear HO_13 HO_298000 HO_298001 HO_307000 HO_307001 HO_320000 HO_320001 BK275 BK297 BK306 BK319 HB; have HO_13 := n0_; have HO_298000 := n1_; have HO_298001 := n2_; have HO_307000 := n3_; have HO_307001 := n4_; have HO_320000 := n5_; have HO_320001 := n6_; have BK275 := n7_; have BK297 := n8_; have BK306 := n9_; have BK319 := n10_; have HB := n11_; clear n0_ n1_ n2_ n3_ n4_ n5_ n6_ n7_ n8_ n9_ n10_ n11_
          refine start_ (n := 5) (S := fun w' => w'.cell? ⟨gb306, 0, none⟩ = some (.slice Ao37 t298.length co37) ∧ w'.cell? ⟨gb306, 1, none⟩ = some (.slice Ao41 t301.length co41) ∧ w'.cell? ⟨gb306, 2, none⟩ = some (.int .i64 t304) ∧ w'.cell? ⟨gb306, 3, none⟩ = some (.bool t305) ∧ w'.cell? ⟨gb275, 0, none⟩ = some (.slice A0_0 l0_0.length c0_0) ∧ w'.cell? ⟨gb275, 1, none⟩ = some (.slice A0_1 l0_1.length c0_1) ∧ w'.cell? ⟨gb275, 2, none⟩ = some (.int .i64 a0_2) ∧ w'.cell? ⟨gb275, 3, none⟩ = some (.bool a0_3)) (ds := []) (bz 5 0) (by kernel_rfl) rfl rfl ⟨(yG BK306.out 0).trans rfl, (yG BK306.out 1).trans rfl, (yG BK306.out 2).trans rfl, (yG BK306.out 3).trans rfl, (yG BK275.out 0).trans rfl, (yG BK275.out 1).trans rfl, (yG BK275.out 2).trans rfl, (yG BK275.out 3).trans rfl⟩ (fun hHeld => ?_)
          generalize wc.drew = w81 at HO_13 HO_298000 HO_298001 HO_307000 HO_307001 HO_320000 HO_320001 BK275 BK297 BK306 BK319 HB hHeld ⊢
          refine pC 0 60 (bz 5 1) rfl rfl (by kernel_rfl) (fun _ _ _ h => h) (by rfl) hHeld (by rintro w' ⟨s0, s1, s2, s3, s4, s5, s6, s7⟩; go_simp; with_reducible rfl) (by simp only [Act.put, zH, zI, zJ, i64_w, i32_w]; rfl) ?_
          refine pC 1 61 (bz 5 3) rfl rfl (by kernel_rfl) (fun _ _ _ h => h) (by rfl) hHeld (by rintro w' ⟨s0, s1, s2, s3, s4, s5, s6, s7⟩; go_simp; with_reducible rfl) (by simp only [Act.put, zH, zI, zJ, i64_w, i32_w]; rfl) ?_
          refine one_ (i := 2) (N := some 62) (bz 5 7) rfl rfl (by kernel_rfl) (by decide) (fun K hK => ?_)
          refine goes_ Try.func15 (by kernel_rfl) rfl #[.agg #[.slice A0_0 l0_0.length c0_0, .slice A0_1 l0_1.length c0_1, .int .i64 a0_2, .bool a0_3]] (by rfl) rfl rfl (by (try simp only [zK, zL, zM]); first | done | rfl | (simp only [zN, zO]; rfl)) ?_
          with_reducible refine (laws_toDisk.calls kj17 _ _ l0_0 _ _ l0_1 a0_2 a0_3 t321 t324 t327 t328 _ ?side1 ?side2 ?side3 ?side4 A72.out).mono ?_
          (case side1 => exact kV (yY HR0_0.out HB.out))
          (case side2 => exact HC0_0.out)
          (case side3 => exact kV (yY HR0_1.out HB.out))
          (case side4 => exact HC0_1.out)
          rintro e w82 ⟨v322, v325, rfl, ho0, ho1, hb⟩
          refine ⟨_, rfl, ?_⟩
          have n0_ := yD (zE (kA HO_13) hb)
          have n1_ := yD (Kd.R_elder' (kA HO_298000) (yH ho0) hb)
          have n2_ := yD (Kd.R_elder' (kA HO_298001) (yH ho1) hb)
          have n3_ := yD (Kd.R_elder' (kA HO_307000) (yH ho0) hb)
          have n4_ := yD (Kd.R_elder' (kA HO_307001) (yH ho1) hb)
          have n5_ := yD (Kd.R_elder' (kA HO_320000) (yH ho0) hb)
          have n6_ := yD (Kd.R_elder' (kA HO_320001) (yH ho1) hb)
          have n7_ := yD (yZ (yJ (yJ (yJ ho0 (yK (kA HO_298000))) (yK (kA HO_307000))) (yK (kA HO_320000))) (below_size (kB HB)))
          have n8_ := yD (yZ (yJ (yJ (yJ ho1 (yK (kA HO_298001))) (yK (kA HO_307001))) (yK (kA HO_320001))) (below_size (kB HB)))
          have n9_ := yD (zB (g := gb275) (o := .cells #[.slice A0_0 l0_0.length c0_0, .slice A0_1 l0_1.length c0_1, .int .i64 a0_2, .bool a0_3] 39 (0, 0)) (kM BK275) hb)
          have n10_ := yD (zB (g := gb297) (o := .cells #[.slice Ao30 t288.length co30, .slice Ao33 t291.length co33, .int .i64 t294, .bool t295] 44 (0, 0)) (kM BK297) hb)
          have n11_ := yD (zB (g := gb306) (o := .cells #[.slice Ao37 t298.length co37, .slice Ao41 t301.length co41, .int .i64 t304, .bool t305] 44 (0, 0)) (kM BK306) hb)
          have n12_ := yD (zB (g := gb319) (o := .cells #[.slice Ao47 t310.length co47, .slice Ao52 t313.length co52, .int .i64 t316, .bool t317] 44 (0, 0)) (kM BK319) hb)
          have n13_ := yD (zC (kB HB) hb)
          clear HO_13 HO_298000 HO_298001 HO_307000 HO_307001 HO_320000 HO_320001 BK275 BK297 BK306 BK319 HB; have HO_13 := n0_; have HO_298000 := n1_; have HO_298001 := n2_; have HO_307000 := n3_; have HO_307001 := n4_; have HO_320000 := n5_; have HO_320001 := n6_; have HO323 := n7_; have HO326 := n8_; have BK275 := n9_; have BK297 := n10_; have BK306 := n11_; have BK319 := n12_; have HB := n13_; clear n0_ n1_ n2_ n3_ n4_ n5_ n6_ n7_ n8_ n9_ n10_ n11_ n12_ n13_; (try clear hb); (try clear hb2); (try clear hk); (try clear hi); (try clear ho0); (try clear ho1)
          obtain ⟨Ao83, co83, eo83⟩ := Kd.R_slice HO323.out
          (first | subst eo83 | (injection eo83 with f1_ f2_ f3_; have f4_ := f1_.symm; have f5_ := f3_.symm; clear f1_ f2_ f3_; subst f4_; subst f5_))
          obtain ⟨Ao84, co84, eo84⟩ := Kd.R_slice HO326.out
          (first | subst eo84 | (injection eo84 with f1_ f2_ f3_; have f4_ := f1_.symm; have f5_ := f3_.symm; clear f1_ f2_ f3_; subst f4_; subst f5_))
          refine hK.out _ _ ⟨(yG BK306.out 0).trans rfl, (yG BK306.out 1).trans rfl, (yG BK306.out 2).trans rfl, (yG BK306.out 3).trans rfl, (yG BK275.out 0).trans rfl, (yG BK275.out 1).trans rfl, (yG BK275.out 2).trans rfl, (yG BK275.out 3).trans rfl⟩ (fun hHeld => ?_)
          clear hK K
          refine norm_ (a' := ?_) ?_ ?_
          rotate_left
          · show Act.put _ (some 62) _ = _
            simp only [Act.put, zH, zI, zJ, i64_w, i32_w]
            rfl
          refine one_ (i := 3) (N := some 63) (bz 5 15) rfl rfl (by kernel_rfl) (by decide) (fun K hK => ?_)
          refine goes_ Try.func18 (by kernel_rfl) rfl #[.agg #[.slice Ao37 t298.length co37, .slice Ao41 t301.length co41, .int .i64 t304, .bool t305], .agg #[.slice Ao83 t321.length co83, .slice Ao84 t324.length co84, .int .i64 t327, .bool t328]] (by rfl) rfl rfl (by (try simp only [zK, zL, zM]); first | done | rfl | (simp only [zN, zO]; rfl)) ?_
          with_reducible refine (laws_eqDisk.calls kj17 _ _ t298 _ _ t301 t304 t305 _ _ t321 _ _ t324 t327 t328 true _ ?side1 ?side2 ?side3 ?side4 ?side5 ?side6 ?side7 ?side8 A73.out).mono ?_
          (case side1 => exact kV (zA HO_307000.out).2.2)
          (case side2 => exact (zA HO_307000.out).2.1)
          (case side3 => exact kV (zA HO_307001.out).2.2)
          (case side4 => exact (zA HO_307001.out).2.1)
          (case side5 => exact kV (zA HO323.out).2.2)
          (case side6 => exact (zA HO323.out).2.1)
          (case side7 => exact kV (zA HO326.out).2.2)
          (case side8 => exact (zA HO326.out).2.1)
          rintro e w85 ⟨rfl, hb⟩
          refine ⟨_, rfl, ?_⟩
          have n0_ := yD (zE (kA HO_13) hb)
          have n1_ := yD (zE (kA HO_298000) hb)
          have n2_ := yD (zE (kA HO_298001) hb)
          have n3_ := yD (zE (kA HO_307000) hb)
          have n4_ := yD (zE (kA HO_307001) hb)
          have n5_ := yD (zE (kA HO_320000) hb)
          have n6_ := yD (zE (kA HO_320001) hb)
          have n7_ := yD (zE (kA HO323) hb)
          have n8_ := yD (zE (kA HO326) hb)
          have n9_ := yD (zB (g := gb275) (o := .cells #[.slice A0_0 l0_0.length c0_0, .slice A0_1 l0_1.length c0_1, .int .i64 a0_2, .bool a0_3] 39 (0, 0)) (kM BK275) hb)
          have n10_ := yD (zB (g := gb297) (o := .cells #[.slice Ao30 t288.length co30, .slice Ao33 t291.length co33, .int .i64 t294, .bool t295] 44 (0, 0)) (kM BK297) hb)
          have n11_ := yD (zB (g := gb306) (o := .cells #[.slice Ao37 t298.length co37, .slice Ao41 t301.length co41, .int .i64 t304, .bool t305] 44 (0, 0)) (kM BK306) hb)
          have n12_ := yD (zB (g := gb319) (o := .cells #[.slice Ao47 t310.length co47, .slice Ao52 t313.length co52, .int .i64 t316, .bool t317] 44 (0, 0)) (kM BK319) hb)
          have n13_ := yD (zC (kB HB) hb)
          clear HO_13 HO_298000 HO_298001 HO_307000 HO_307001 HO_320000 HO_320001 HO323 HO326 BK275 BK297 BK306 BK319 HB; have HO_13 := n0_; have HO_298000 := n1_; have HO_298001 := n2_; have HO_307000 := n3_; have HO_307001 := n4_; have HO_320000 := n5_; have HO_320001 := n6_; have HO323 := n7_; have HO326 := n8_; have BK275 := n9_; have BK297 := n10_; have BK306 := n11_; have BK319 := n12_; have HB := n13_; clear n0_ n1_ n2_ n3_ n4_ n5_ n6_ n7_ n8_ n9_ n10_ n11_ n12_ n13_; (try clear hb); (try clear hb2); (try clear hk); (try clear hi)
          refine hK.out _ _ ⟨(yG BK306.out 0).trans rfl, (yG BK306.out 1).trans rfl, (yG BK306.out 2).trans rfl, (yG BK306.out 3).trans rfl, (yG BK275.out 0).trans rfl, (yG BK275.out 1).trans rfl, (yG BK275.out 2).trans rfl, (yG BK275.out 3).trans rfl⟩ (fun hHeld => ?_)
          clear hK K
          refine norm_ (a' := ?_) ?_ ?_
          rotate_left
          · show Act.put _ (some 63) _ = _
            simp only [Act.put, zH, zI, zJ, i64_w, i32_w]
            rfl
          refine pA 4 64 (bz 5 31) rfl rfl (by kernel_rfl) (fun _ _ _ h => h) (by rfl) (fun _ => by go_simp; with_reducible rfl) (by simp only [Act.put, zH, zI, zJ, i64_w, i32_w]; rfl) ?_
          refine done_ (by kernel_rfl) ?_
          go_upto_region 20 with (first | ((with_reducible refine gate_callee (f := 16) rfl ?_); refine goesL_ (some 67) rfl rfl Try.func16 (by kernel_rfl) rfl #[.slice A1 l1.length c1] rfl (by (try simp only [zK, zL, zM]); first | done | rfl | (simp only [zN, zO]; rfl)) ?_; (with_reducible refine (laws_toBoolS.calls kj17 _ _ l1 t330 _ ?side1 ?side2 A75.out).mono ?_); (case side1 => exact kV (yY HR1.out HB.out)); (case side2 => exact HC1.out); rintro e w86 ⟨v331, rfl, ho0, hb⟩; refine ⟨_, rfl, ?_⟩; have n0_ := yD (Kd.R_elder' (kA HO_13) (yH ho0) hb); have n1_ := yD (zE (kA HO_298000) hb); have n2_ := yD (zE (kA HO_298001) hb); have n3_ := yD (zE (kA HO_307000) hb); have n4_ := yD (zE (kA HO_307001) hb); have n5_ := yD (zE (kA HO_320000) hb); have n6_ := yD (zE (kA HO_320001) hb); have n7_ := yD (zE (kA HO323) hb); have n8_ := yD (zE (kA HO326) hb); have n9_ := yD (yZ (yJ ho0 (yK (kA HO_13))) (below_size (kB HB))); have n10_ := yD (zB (g := gb275) (o := .cells #[.slice A0_0 l0_0.length c0_0, .slice A0_1 l0_1.length c0_1, .int .i64 a0_2, .bool a0_3] 39 (0, 0)) (kM BK275) hb); have n11_ := yD (zB (g := gb297) (o := .cells #[.slice Ao30 t288.length co30, .slice Ao33 t291.length co33, .int .i64 t294, .bool t295] 44 (0, 0)) (kM BK297) hb); have n12_ := yD (zB (g := gb306) (o := .cells #[.slice Ao37 t298.length co37, .slice Ao41 t301.length co41, .int .i64 t304, .bool t305] 44 (0, 0)) (kM BK306) hb); have n13_ := yD (zB (g := gb319) (o := .cells #[.slice Ao47 t310.length co47, .slice Ao52 t313.length co52, .int .i64 t316, .bool t317] 44 (0, 0)) (kM BK319) hb); have n14_ := yD (zC (kB HB) hb); clear HO_13; clear HO_298000; clear HO_298001; clear HO_307000; clear HO_307001; clear HO_320000; clear HO_320001; clear HO323; clear HO326; clear BK275; clear BK297; clear BK306; clear BK319; clear HB; have HO_13 := n0_; have HO_298000 := n1_; have HO_298001 := n2_; have HO_307000 := n3_; have HO_307001 := n4_; have HO_320000 := n5_; have HO_320001 := n6_; have HO323 := n7_; have HO326 := n8_; have HO332 := n9_; have BK275 := n10_; have BK297 := n11_; have BK306 := n12_; have BK319 := n13_; have HB := n14_; clear n0_ n1_ n2_ n3_ n4_ n5_ n6_ n7_ n8_ n9_ n10_ n11_ n12_ n13_ n14_; (try clear hb); (try clear hb2); (try clear hk); (try clear hi); (try clear ho0); obtain ⟨Ao87, co87, eo87⟩ := Kd.R_slice HO332.out; subst eo87) | ((with_reducible refine gate_callee (f := 19) rfl ?_); refine goesL_ (some 68) rfl rfl Try.func19 (by kernel_rfl) rfl #[.slice Ao44 t307.length co44, .slice Ao87 t330.length co87] rfl (by (try simp only [zK, zL, zM]); first | done | rfl | (simp only [zN, zO]; rfl)) ?_; (with_reducible refine (laws_eqBoolS.calls kj17 _ _ t307 _ _ t330 true _ ?side1 ?side2 ?side3 ?side4 A76.out).mono ?_); (case side1 => exact kV (zA HO_13.out).2.2); (case side2 => exact (zA HO_13.out).2.1); (case side3 => exact kV (zA HO332.out).2.2); (case side4 => exact (zA HO332.out).2.1); rintro e w' ⟨rfl, ⟨nd, rfl⟩⟩; refine ⟨_, rfl, ?_⟩; have hnb88 := NB306_275.out; have hnc88 := NB275_306.out; have hnb89 := NB306_297.out; have hnc89 := NB297_306.out; have hnb90 := NB306_319.out; have hnc90 := NB319_306.out; obtain ⟨hcz91_0, hcz91_1, hcz91_2, hcz91_3⟩ := cz4 BK306.out; obtain ⟨hfz91_0, hfz91_1, hfz91_2, hfz91_3⟩ := fz4 BK306.out) | ((with_reducible refine gate_callee (f := 20) rfl ?_); refine goesL_ (some 72) rfl rfl Try.func20 (by kernel_rfl) rfl #[.agg #[.slice Ao37 t298.length co37, .slice Ao41 t301.length co41, .int .i64 t304, .bool t305], .int .i64 1] rfl (by (try simp only [zK, zL, zM]); first | done | rfl | (simp only [zN, zO]; rfl)) ?_; (with_reducible refine (laws_markDisk.calls kj17 (fun k_ => some k_ = (.slice Ao37 t298.length co37 : Value).ownBlock) (.slice Ao37 t298.length co37) t298 (fun k_ => some k_ = (.slice Ao41 t301.length co41 : Value).ownBlock) (.slice Ao41 t301.length co41) t301 t304 t305 1 t334 t335 t336 w _ ?side1 ?side2 ?side3 A78.out).mono ?_); (case side1 => repeat (first | (with_reducible first | exact HB.out | apply yQ | apply yL | apply yP | refine yE ?_ GE275.out | refine yE ?_ GE297.out | refine yE ?_ GE306.out | refine yE ?_ GE319.out) | exact HB.out)); (case side2 => exact Kd.R_tight rfl HO_307000.out); (case side3 => exact Kd.R_tight rfl HO_307001.out); rintro e w92 ⟨rfl, hy0, hy1, hb, hkp⟩; refine ⟨_, rfl, ?_⟩; have n0_ := yD (zF (ok' := fun k_ => some k_ ≠ (.slice Ao87 t330.length co87 : Value).ownBlock) (Kd.R_keptB ((Kd.R_apart' (Kd.R_apart' HO_13.out (Kd.R_typed HO_307000.out) (by decide)) (Kd.R_typed HO_307001.out) (by decide))) hkp (fun k_ hk_ hs_ => Or.elim hs_ (fun e_ => (hk_.1.2) e_) (fun e_ => (hk_.2) e_))) (fun k_ hk_ => hk_.1.1.1.2)); have n1_ := yD (zF (ok' := fun k_ => some k_ ≠ (.slice Ao37 t298.length co37 : Value).ownBlock ∧ some k_ ≠ (.slice Ao47 t310.length co47 : Value).ownBlock ∧ some k_ ≠ (.slice Ao83 t321.length co83 : Value).ownBlock) (Kd.R_keptB ((Kd.R_apart' HO_298000.out (Kd.R_typed HO_307001.out) (by decide))) hkp (fun k_ hk_ hs_ => Or.elim hs_ (fun e_ => (hk_.1.1.1) e_) (fun e_ => (hk_.2) e_))) (fun k_ hk_ => ⟨hk_.1.1.1.1, hk_.1.1.1.2, hk_.1.1.2⟩)); have n2_ := yD (zF (ok' := fun k_ => some k_ ≠ (.slice Ao41 t301.length co41 : Value).ownBlock ∧ some k_ ≠ (.slice Ao52 t313.length co52 : Value).ownBlock ∧ some k_ ≠ (.slice Ao84 t324.length co84 : Value).ownBlock) (Kd.R_keptB ((Kd.R_apart' HO_298001.out (Kd.R_typed HO_307000.out) (by decide))) hkp (fun k_ hk_ hs_ => Or.elim hs_ (fun e_ => (hk_.2) e_) (fun e_ => (hk_.1.1.1) e_))) (fun k_ hk_ => ⟨hk_.1.1.1.1, hk_.1.1.1.2, hk_.1.1.2⟩)); have n3_ := yD (Kd.R_reok rfl hy0 (fun k_ e_ => HO_307000.out.1 k_ e_)); have n4_ := yD (Kd.R_reok rfl hy1 (fun k_ e_ => HO_307001.out.1 k_ e_)); have n5_ := yD (zF (ok' := fun k_ => some k_ ≠ (.slice Ao30 t288.length co30 : Value).ownBlock ∧ some k_ ≠ (.slice Ao37 t298.length co37 : Value).ownBlock ∧ some k_ ≠ (.slice Ao83 t321.length co83 : Value).ownBlock) (Kd.R_keptB ((Kd.R_apart' HO_320000.out (Kd.R_typed HO_307001.out) (by decide))) hkp (fun k_ hk_ hs_ => Or.elim hs_ (fun e_ => (hk_.1.1.2) e_) (fun e_ => (hk_.2) e_))) (fun k_ hk_ => ⟨hk_.1.1.1.1, hk_.1.1.1.2, hk_.1.1.2⟩)); have n6_ := yD (zF (ok' := fun k_ => some k_ ≠ (.slice Ao33 t291.length co33 : Value).ownBlock ∧ some k_ ≠ (.slice Ao41 t301.length co41 : Value).ownBlock ∧ some k_ ≠ (.slice Ao84 t324.length co84 : Value).ownBlock) (Kd.R_keptB ((Kd.R_apart' HO_320001.out (Kd.R_typed HO_307000.out) (by decide))) hkp (fun k_ hk_ hs_ => Or.elim hs_ (fun e_ => (hk_.2) e_) (fun e_ => (hk_.1.1.2) e_))) (fun k_ hk_ => ⟨hk_.1.1.1.1, hk_.1.1.1.2, hk_.1.1.2⟩)); have n7_ := yD (blk_kept (kM BK275) hkp (fun hs_ => Or.elim hs_ (fun e_ => (fun e_ => (Kd.R_ne HO_307000.out BK275.out (by decide)) e_) e_) (fun e_ => (fun e_ => (Kd.R_ne HO_307001.out BK275.out (by decide)) e_) e_))); have n8_ := yD (blk_kept (kM BK297) hkp (fun hs_ => Or.elim hs_ (fun e_ => (fun e_ => (Kd.R_ne HO_307000.out BK297.out (by decide)) e_) e_) (fun e_ => (fun e_ => (Kd.R_ne HO_307001.out BK297.out (by decide)) e_) e_))); have n9_ := yD (blk_kept (kM BK306) hkp (fun hs_ => Or.elim hs_ (fun e_ => (fun e_ => (Kd.R_ne HO_307000.out BK306.out (by decide)) e_) e_) (fun e_ => (fun e_ => (Kd.R_ne HO_307001.out BK306.out (by decide)) e_) e_))); have n10_ := yD (blk_kept (kM BK319) hkp (fun hs_ => Or.elim hs_ (fun e_ => (fun e_ => (Kd.R_ne HO_307000.out BK319.out (by decide)) e_) e_) (fun e_ => (fun e_ => (Kd.R_ne HO_307001.out BK319.out (by decide)) e_) e_))); have n11_ := yD (zF (ok' := fun k_ => some k_ ≠ (.slice Ao30 t288.length co30 : Value).ownBlock ∧ some k_ ≠ (.slice Ao37 t298.length co37 : Value).ownBlock ∧ some k_ ≠ (.slice Ao47 t310.length co47 : Value).ownBlock) (Kd.R_keptB ((Kd.R_apart' HO323.out (Kd.R_typed HO_307001.out) (by decide))) hkp (fun k_ hk_ hs_ => Or.elim hs_ (fun e_ => (hk_.1.1.2) e_) (fun e_ => (hk_.2) e_))) (fun k_ hk_ => ⟨hk_.1.1.1.1.2, hk_.1.1.1.2, hk_.1.1.2⟩)); have n12_ := yD (zF (ok' := fun k_ => some k_ ≠ (.slice Ao33 t291.length co33 : Value).ownBlock ∧ some k_ ≠ (.slice Ao41 t301.length co41 : Value).ownBlock ∧ some k_ ≠ (.slice Ao52 t313.length co52 : Value).ownBlock) (Kd.R_keptB ((Kd.R_apart' HO326.out (Kd.R_typed HO_307000.out) (by decide))) hkp (fun k_ hk_ hs_ => Or.elim hs_ (fun e_ => (hk_.2) e_) (fun e_ => (hk_.1.1.2) e_))) (fun k_ hk_ => ⟨hk_.1.1.1.1.2, hk_.1.1.1.2, hk_.1.1.2⟩)); have n13_ := yD (zF (ok' := fun k_ => some k_ ≠ (.slice Ao44 t307.length co44 : Value).ownBlock) (Kd.R_keptB ((Kd.R_apart' (Kd.R_apart' HO332.out (Kd.R_typed HO_307000.out) (by decide)) (Kd.R_typed HO_307001.out) (by decide))) hkp (fun k_ hk_ hs_ => Or.elim hs_ (fun e_ => (hk_.1.2) e_) (fun e_ => (hk_.2) e_))) (fun k_ hk_ => hk_.1.1.1.2)); have n14_ := yD (hb); clear HO_13; clear HO_298000; clear HO_298001; clear HO_307000; clear HO_307001; clear HO_320000; clear HO_320001; clear BK275; clear BK297; clear BK306; clear BK319; clear HO323; clear HO326; clear HO332; clear HB; have HO_13 := n0_; have HO_298000 := n1_; have HO_298001 := n2_; have HO_307000 := n3_; have HO_307001 := n4_; have HO_320000 := n5_; have HO_320001 := n6_; have BK275 := n7_; have BK297 := n8_; have BK306 := n9_; have BK319 := n10_; have HO323 := n11_; have HO326 := n12_; have HO332 := n13_; have HB := n14_; clear n0_ n1_ n2_ n3_ n4_ n5_ n6_ n7_ n8_ n9_ n10_ n11_ n12_ n13_ n14_; (try clear hb); (try clear hkp); (try clear hy0); (try clear hy1)) | ((with_reducible refine gate_callee (f := 21) rfl ?_); refine goesL_ (some 75) rfl rfl Try.func21 (by kernel_rfl) rfl #[.slice Ao44 t307.length co44, .int .i64 t334] rfl (by (try simp only [zK, zL, zM]); first | done | rfl | (simp only [zN, zO]; rfl)) ?_; (with_reducible refine (laws_markBoolS.calls kj17 (fun k_ => some k_ = (.slice Ao44 t307.length co44 : Value).ownBlock) (.slice Ao44 t307.length co44) t307 t334 t337 t338 w _ ?side1 ?side2 A79.out).mono ?_); (case side1 => repeat (first | (with_reducible first | exact HB.out | apply yQ | apply yL | apply yP | refine yE ?_ GE275.out | refine yE ?_ GE297.out | refine yE ?_ GE306.out | refine yE ?_ GE319.out) | exact HB.out)); (case side2 => exact Kd.R_tight rfl HO_13.out); rintro e w93 ⟨rfl, hy0, hb, hkp⟩; refine ⟨_, rfl, ?_⟩; have n0_ := yD (Kd.R_reok rfl hy0 (fun k_ e_ => HO_13.out.1 k_ e_)); have n1_ := yD (zF (ok' := fun k_ => some k_ ≠ (.slice Ao37 t298.length co37 : Value).ownBlock ∧ some k_ ≠ (.slice Ao47 t310.length co47 : Value).ownBlock ∧ some k_ ≠ (.slice Ao83 t321.length co83 : Value).ownBlock) (Kd.R_keptB ((Kd.R_apart' HO_298000.out (Kd.R_typed HO_13.out) (by decide))) hkp (fun k_ hk_ hs_ => (hk_.2) hs_)) (fun k_ hk_ => ⟨hk_.1.1.1, hk_.1.1.2.1, hk_.1.1.2.2⟩)); have n2_ := yD (zF (ok' := fun k_ => some k_ ≠ (.slice Ao41 t301.length co41 : Value).ownBlock ∧ some k_ ≠ (.slice Ao52 t313.length co52 : Value).ownBlock ∧ some k_ ≠ (.slice Ao84 t324.length co84 : Value).ownBlock) (Kd.R_keptB ((Kd.R_apart' HO_298001.out (Kd.R_typed HO_13.out) (by decide))) hkp (fun k_ hk_ hs_ => (hk_.2) hs_)) (fun k_ hk_ => ⟨hk_.1.1.1, hk_.1.1.2.1, hk_.1.1.2.2⟩)); have n3_ := yD (zF (ok' := fun k_ => some k_ ≠ (.slice Ao30 t288.length co30 : Value).ownBlock ∧ some k_ ≠ (.slice Ao47 t310.length co47 : Value).ownBlock ∧ some k_ ≠ (.slice Ao83 t321.length co83 : Value).ownBlock) (Kd.R_keptB ((Kd.R_apart' HO_307000.out (Kd.R_typed HO_13.out) (by decide))) hkp (fun k_ hk_ hs_ => (hk_.2) hs_)) (fun k_ hk_ => ⟨hk_.1.1.1.1, hk_.1.1.1.2, hk_.1.1.2⟩)); have n4_ := yD (zF (ok' := fun k_ => some k_ ≠ (.slice Ao33 t291.length co33 : Value).ownBlock ∧ some k_ ≠ (.slice Ao52 t313.length co52 : Value).ownBlock ∧ some k_ ≠ (.slice Ao84 t324.length co84 : Value).ownBlock) (Kd.R_keptB ((Kd.R_apart' HO_307001.out (Kd.R_typed HO_13.out) (by decide))) hkp (fun k_ hk_ hs_ => (hk_.2) hs_)) (fun k_ hk_ => ⟨hk_.1.1.1.1, hk_.1.1.1.2, hk_.1.1.2⟩)); have n5_ := yD (zF (ok' := fun k_ => some k_ ≠ (.slice Ao30 t288.length co30 : Value).ownBlock ∧ some k_ ≠ (.slice Ao37 t298.length co37 : Value).ownBlock ∧ some k_ ≠ (.slice Ao83 t321.length co83 : Value).ownBlock) (Kd.R_keptB ((Kd.R_apart' HO_320000.out (Kd.R_typed HO_13.out) (by decide))) hkp (fun k_ hk_ hs_ => (hk_.2) hs_)) (fun k_ hk_ => ⟨hk_.1.1.1, hk_.1.1.2.1, hk_.1.1.2.2⟩)); have n6_ := yD (zF (ok' := fun k_ => some k_ ≠ (.slice Ao33 t291.length co33 : Value).ownBlock ∧ some k_ ≠ (.slice Ao41 t301.length co41 : Value).ownBlock ∧ some k_ ≠ (.slice Ao84 t324.length co84 : Value).ownBlock) (Kd.R_keptB ((Kd.R_apart' HO_320001.out (Kd.R_typed HO_13.out) (by decide))) hkp (fun k_ hk_ hs_ => (hk_.2) hs_)) (fun k_ hk_ => ⟨hk_.1.1.1, hk_.1.1.2.1, hk_.1.1.2.2⟩)); have n7_ := yD (blk_kept (kM BK275) hkp (fun hs_ => (fun e_ => (Kd.R_ne HO_13.out BK275.out (by decide)) e_) hs_)); have n8_ := yD (blk_kept (kM BK297) hkp (fun hs_ => (fun e_ => (Kd.R_ne HO_13.out BK297.out (by decide)) e_) hs_)); have n9_ := yD (blk_kept (kM BK306) hkp (fun hs_ => (fun e_ => (Kd.R_ne HO_13.out BK306.out (by decide)) e_) hs_)); have n10_ := yD (blk_kept (kM BK319) hkp (fun hs_ => (fun e_ => (Kd.R_ne HO_13.out BK319.out (by decide)) e_) hs_)); have n11_ := yD (zF (ok' := fun k_ => some k_ ≠ (.slice Ao30 t288.length co30 : Value).ownBlock ∧ some k_ ≠ (.slice Ao37 t298.length co37 : Value).ownBlock ∧ some k_ ≠ (.slice Ao47 t310.length co47 : Value).ownBlock) (Kd.R_keptB ((Kd.R_apart' HO323.out (Kd.R_typed HO_13.out) (by decide))) hkp (fun k_ hk_ hs_ => (hk_.2) hs_)) (fun k_ hk_ => ⟨hk_.1.1.1, hk_.1.1.2.1, hk_.1.1.2.2⟩)); have n12_ := yD (zF (ok' := fun k_ => some k_ ≠ (.slice Ao33 t291.length co33 : Value).ownBlock ∧ some k_ ≠ (.slice Ao41 t301.length co41 : Value).ownBlock ∧ some k_ ≠ (.slice Ao52 t313.length co52 : Value).ownBlock) (Kd.R_keptB ((Kd.R_apart' HO326.out (Kd.R_typed HO_13.out) (by decide))) hkp (fun k_ hk_ hs_ => (hk_.2) hs_)) (fun k_ hk_ => ⟨hk_.1.1.1, hk_.1.1.2.1, hk_.1.1.2.2⟩)); have n13_ := yD (zF (ok' := fun k_ => some k_ ≠ (.slice Ao44 t307.length co44 : Value).ownBlock) (Kd.R_keptB (HO332.out) hkp (fun k_ hk_ hs_ => (hk_) hs_)) (fun k_ hk_ => hk_.1)); have n14_ := yD (hb); clear HO_13; clear HO_298000; clear HO_298001; clear HO_307000; clear HO_307001; clear HO_320000; clear HO_320001; clear BK275; clear BK297; clear BK306; clear BK319; clear HO323; clear HO326; clear HO332; clear HB; have HO_13 := n0_; have HO_298000 := n1_; have HO_298001 := n2_; have HO_307000 := n3_; have HO_307001 := n4_; have HO_320000 := n5_; have HO_320001 := n6_; have BK275 := n7_; have BK297 := n8_; have BK306 := n9_; have BK319 := n10_; have HO323 := n11_; have HO326 := n12_; have HO332 := n13_; have HB := n14_; clear n0_ n1_ n2_ n3_ n4_ n5_ n6_ n7_ n8_ n9_ n10_ n11_ n12_ n13_ n14_; (try clear hb); (try clear hkp); (try clear hy0)))
          (try simp only [Act.put, zH, zI, zJ])
          go_cut [88] (fun v88 wc => ∃ (kq : Nat) (x88_79 : Bool), v88 = .bool x88_79 ∧ Aside0 (laws_FnExactCutPower.j1 kq l1 a2 a3 t296 x88_79 l0_0 l0_1 a0_2 a0_3 t288 t291 t294 t295 t310 t313 t316 t317 = some r) ∧ Aside0 (kq ≤ kj17) ∧ Aside0 (Kd.R Kd.string 9 wc w.heap.size (fun k_ => some k_ ≠ ((.slice Ao37 t298.length co37) : Value).ownBlock ∧ some k_ ≠ ((.slice Ao47 t310.length co47) : Value).ownBlock) (.slice Ao30 t288.length co30) t288) ∧ Aside0 (Kd.R k57 57 wc w.heap.size (fun k_ => some k_ ≠ ((.slice Ao41 t301.length co41) : Value).ownBlock ∧ some k_ ≠ ((.slice Ao52 t313.length co52) : Value).ownBlock) (.slice Ao33 t291.length co33) t291) ∧ Aside0 (Kd.R Kd.string 9 wc w.heap.size (fun k_ => some k_ ≠ ((.slice Ao30 t288.length co30) : Value).ownBlock ∧ some k_ ≠ ((.slice Ao47 t310.length co47) : Value).ownBlock) (.slice Ao37 t298.length co37) t335) ∧ Aside0 (Kd.R k57 57 wc w.heap.size (fun k_ => some k_ ≠ ((.slice Ao33 t291.length co33) : Value).ownBlock ∧ some k_ ≠ ((.slice Ao52 t313.length co52) : Value).ownBlock) (.slice Ao41 t301.length co41) t336) ∧ Aside0 (Kd.R Kd.string 9 wc w.heap.size (fun k_ => some k_ ≠ ((.slice Ao30 t288.length co30) : Value).ownBlock ∧ some k_ ≠ ((.slice Ao37 t298.length co37) : Value).ownBlock) (.slice Ao47 t310.length co47) t310) ∧ Aside0 (Kd.R k57 57 wc w.heap.size (fun k_ => some k_ ≠ ((.slice Ao33 t291.length co33) : Value).ownBlock ∧ some k_ ≠ ((.slice Ao41 t301.length co41) : Value).ownBlock) (.slice Ao52 t313.length co52) t313) ∧ Aside0 (wc.heap[gb275]? = some (.cells #[(.slice A0_0 l0_0.length c0_0), (.slice A0_1 l0_1.length c0_1), .int .i64 a0_2, .bool a0_3] 39 (0, 0))) ∧ Aside0 (wc.heap[gb297]? = some (.cells #[(.slice Ao30 t288.length co30), (.slice Ao33 t291.length co33), .int .i64 t294, .bool t295] 44 (0, 0))) ∧ Aside0 (wc.heap[gb306]? = some (.cells #[(.slice Ao37 t298.length co37), (.slice Ao41 t301.length co41), .int .i64 t304, .bool t305] 44 (0, 0))) ∧ Aside0 (wc.heap[gb319]? = some (.cells #[(.slice Ao47 t310.length co47), (.slice Ao52 t313.length co52), .int .i64 t316, .bool t317] 44 (0, 0))) ∧ Aside0 (Below w.heap.size w wc))
          case first =>
            have H := HC80.out; clear HC80
            by_cases c94 : t337 < 0
            · rw [if_pos c94] at H
              have c94b0 : decide (t337 < 0) = true := zR c94; clear c94
              (first | rw [c94b0] | (simp only [i64_w, i32_w]; rw [c94b0]) | (simp only [bne] at c94b0; rw [c94b0]) | skip)
              have H' := yD H
              clear H
              go_wp2
              go_meet
              case rel => exact ⟨_, (true), (by first | rfl | (simp; done) | (simp [*]; done)), H', ⟨by have := HJ17.out; first | omega | exact Nat.le_refl _⟩, ⟨by (with_reducible repeat (first | apply yA | apply yB | apply yC)); exact zF HO_298000.out (fun _ hk => ⟨hk.1, hk.2.1⟩)⟩, ⟨by (with_reducible repeat (first | apply yA | apply yB | apply yC)); exact zF HO_298001.out (fun _ hk => ⟨hk.1, hk.2.1⟩)⟩, ⟨by (with_reducible repeat (first | apply yA | apply yB | apply yC)); exact zF HO_307000.out (fun _ hk => ⟨hk.1, hk.2.1⟩)⟩, ⟨by (with_reducible repeat (first | apply yA | apply yB | apply yC)); exact zF HO_307001.out (fun _ hk => ⟨hk.1, hk.2.1⟩)⟩, ⟨by (with_reducible repeat (first | apply yA | apply yB | apply yC)); exact zF HO_320000.out (fun _ hk => ⟨hk.1, hk.2.1⟩)⟩, ⟨by (with_reducible repeat (first | apply yA | apply yB | apply yC)); exact zF HO_320001.out (fun _ hk => ⟨hk.1, hk.2.1⟩)⟩, ⟨by (with_reducible repeat (first | refine yM ?_ _ | refine yO ?_ | refine yN ?_ _)); exact BK275.out⟩, ⟨by (with_reducible repeat (first | refine yM ?_ _ | refine yO ?_ | refine yN ?_ _)); exact BK297.out⟩, ⟨by (with_reducible repeat (first | refine yM ?_ _ | refine yO ?_ | refine yN ?_ _)); exact BK306.out⟩, ⟨by (with_reducible repeat (first | refine yM ?_ _ | refine yO ?_ | refine yN ?_ _)); exact BK319.out⟩, ⟨by repeat (first | (with_reducible first | exact HB.out | apply yQ | apply yL | apply yP | refine yE ?_ GE275.out | refine yE ?_ GE297.out | refine yE ?_ GE306.out | refine yE ?_ GE319.out) | exact HB.out)⟩⟩
            · rw [if_neg c94] at H
              have c94b0 : decide (t337 < 0) = false := zS c94; clear c94
              (first | rw [c94b0] | (simp only [i64_w, i32_w]; rw [c94b0]) | (simp only [bne] at c94b0; rw [c94b0]) | skip)
              obtain ⟨t339, A950, H⟩ := zW_ H
              replace H : (if t339 = true then (laws_FnExactCutPower.j1 kj17 l1 a2 a3 t296 (t318 != t296) l0_0 l0_1 a0_2 a0_3 t288 t291 t294 t295 t310 t313 t316 t317) else (laws_FnExactCutPower.j1 kj17 l1 a2 a3 t296 true l0_0 l0_1 a0_2 a0_3 t288 t291 t294 t295 t310 t313 t316 t317)) = some r := H
              have A95 := yD A950
              clear A950
              by_cases c96 : t339 = true
              · subst c96
                have H1 : (laws_FnExactCutPower.j1 kj17 l1 a2 a3 t296 (t318 != t296) l0_0 l0_1 a0_2 a0_3 t288 t291 t294 t295 t310 t313 t316 t317) = some r := by rw [if_pos rfl] at H; exact H
                clear H; have H := H1; clear H1
                have H' := yD H
                clear H; have hnb97 := NB319_275.out; have hnc97 := NB275_319.out; have hnb98 := NB319_297.out; have hnc98 := NB297_319.out; have hnb99 := NB319_306.out; have hnc99 := NB306_319.out
                obtain ⟨hcz100_0, hcz100_1, hcz100_2, hcz100_3⟩ := cz4 BK319.out
                obtain ⟨hfz100_0, hfz100_1, hfz100_2, hfz100_3⟩ := fz4 BK319.out
                have hnb101 := NB297_275.out; have hnc101 := NB275_297.out; have hnb102 := NB297_306.out; have hnc102 := NB306_297.out
                obtain ⟨hcz103_0, hcz103_1, hcz103_2, hcz103_3⟩ := cz4 BK297.out
                obtain ⟨hfz103_0, hfz103_1, hfz103_2, hfz103_3⟩ := fz4 BK297.out
                go_wp2_with (first | (go_at_call 18; (with_reducible refine (laws_eqDisk.calls kj17 _ _ t310 _ _ t313 t316 t317 _ _ t288 _ _ t291 t294 t295 true _ ?side1 ?side2 ?side3 ?side4 ?side5 ?side6 ?side7 ?side8 A95.out).mono ?_); (case side1 => exact kV (zA HO_320000.out).2.2); (case side2 => exact (zA HO_320000.out).2.1); (case side3 => exact kV (zA HO_320001.out).2.2); (case side4 => exact (zA HO_320001.out).2.1); (case side5 => exact kV (zA HO_298000.out).2.2); (case side6 => exact (zA HO_298000.out).2.1); (case side7 => exact kV (zA HO_298001.out).2.2); (case side8 => exact (zA HO_298001.out).2.1); rintro e w104 ⟨rfl, hb⟩; have n0_ := yD (zE (kA HO_13) hb); have n1_ := yD (zE (kA HO_298000) hb); have n2_ := yD (zE (kA HO_298001) hb); have n3_ := yD (zE (kA HO_307000) hb); have n4_ := yD (zE (kA HO_307001) hb); have n5_ := yD (zE (kA HO_320000) hb); have n6_ := yD (zE (kA HO_320001) hb); have n7_ := yD (zE (kA HO323) hb); have n8_ := yD (zE (kA HO326) hb); have n9_ := yD (zE (kA HO332) hb); have n10_ := yD (zB (g := gb275) (o := .cells #[.slice A0_0 l0_0.length c0_0, .slice A0_1 l0_1.length c0_1, .int .i64 a0_2, .bool a0_3] 39 (0, 0)) (kM BK275) hb); have n11_ := yD (zB (g := gb297) (o := .cells #[.slice Ao30 t288.length co30, .slice Ao33 t291.length co33, .int .i64 t294, .bool t295] 44 (0, 0)) (kM BK297) hb); have n12_ := yD (zB (g := gb306) (o := .cells #[.slice Ao37 t298.length co37, .slice Ao41 t301.length co41, .int .i64 t304, .bool t305] 44 (0, 0)) (kM BK306) hb); have n13_ := yD (zB (g := gb319) (o := .cells #[.slice Ao47 t310.length co47, .slice Ao52 t313.length co52, .int .i64 t316, .bool t317] 44 (0, 0)) (kM BK319) hb); have n14_ := yD (zC (kB HB) hb); clear HO_13; clear HO_298000; clear HO_298001; clear HO_307000; clear HO_307001; clear HO_320000; clear HO_320001; clear HO323; clear HO326; clear HO332; clear BK275; clear BK297; clear BK306; clear BK319; clear HB; have HO_13 := n0_; have HO_298000 := n1_; have HO_298001 := n2_; have HO_307000 := n3_; have HO_307001 := n4_; have HO_320000 := n5_; have HO_320001 := n6_; have HO323 := n7_; have HO326 := n8_; have HO332 := n9_; have BK275 := n10_; have BK297 := n11_; have BK306 := n12_; have BK319 := n13_; have HB := n14_; clear n0_ n1_ n2_ n3_ n4_ n5_ n6_ n7_ n8_ n9_ n10_ n11_ n12_ n13_ n14_; (try clear hb); (try clear hb2); (try clear hk); (try clear hi)))
                go_meet
                case rel => exact ⟨_, ((t318 != t296)), (by first | rfl | (simp; done) | (simp [*]; done)), H', ⟨by have := HJ17.out; first | omega | exact Nat.le_refl _⟩, ⟨by (with_reducible repeat (first | apply yA | apply yB | apply yC)); exact zF HO_298000.out (fun _ hk => ⟨hk.1, hk.2.1⟩)⟩, ⟨by (with_reducible repeat (first | apply yA | apply yB | apply yC)); exact zF HO_298001.out (fun _ hk => ⟨hk.1, hk.2.1⟩)⟩, ⟨by (with_reducible repeat (first | apply yA | apply yB | apply yC)); exact zF HO_307000.out (fun _ hk => ⟨hk.1, hk.2.1⟩)⟩, ⟨by (with_reducible repeat (first | apply yA | apply yB | apply yC)); exact zF HO_307001.out (fun _ hk => ⟨hk.1, hk.2.1⟩)⟩, ⟨by (with_reducible repeat (first | apply yA | apply yB | apply yC)); exact zF HO_320000.out (fun _ hk => ⟨hk.1, hk.2.1⟩)⟩, ⟨by (with_reducible repeat (first | apply yA | apply yB | apply yC)); exact zF HO_320001.out (fun _ hk => ⟨hk.1, hk.2.1⟩)⟩, ⟨by (with_reducible repeat (first | refine yM ?_ _ | refine yO ?_ | refine yN ?_ _)); exact BK275.out⟩, ⟨by (with_reducible repeat (first | refine yM ?_ _ | refine yO ?_ | refine yN ?_ _)); exact BK297.out⟩, ⟨by (with_reducible repeat (first | refine yM ?_ _ | refine yO ?_ | refine yN ?_ _)); exact BK306.out⟩, ⟨by (with_reducible repeat (first | refine yM ?_ _ | refine yO ?_ | refine yN ?_ _)); exact BK319.out⟩, ⟨by repeat (first | (with_reducible first | exact HB.out | apply yQ | apply yL | apply yP | refine yE ?_ GE275.out | refine yE ?_ GE297.out | refine yE ?_ GE306.out | refine yE ?_ GE319.out) | exact HB.out)⟩⟩
              · replace c96 := Bool.eq_false_iff.mpr c96
                subst c96
                have H1 : (laws_FnExactCutPower.j1 kj17 l1 a2 a3 t296 true l0_0 l0_1 a0_2 a0_3 t288 t291 t294 t295 t310 t313 t316 t317) = some r := by rw [if_neg (show ¬ (false = true) by decide)] at H; exact H
                clear H; have H := H1; clear H1
                have H' := yD H
                clear H; have hnb105 := NB319_275.out; have hnc105 := NB275_319.out; have hnb106 := NB319_297.out; have hnc106 := NB297_319.out; have hnb107 := NB319_306.out; have hnc107 := NB306_319.out
                obtain ⟨hcz108_0, hcz108_1, hcz108_2, hcz108_3⟩ := cz4 BK319.out
                obtain ⟨hfz108_0, hfz108_1, hfz108_2, hfz108_3⟩ := fz4 BK319.out
                have hnb109 := NB297_275.out; have hnc109 := NB275_297.out; have hnb110 := NB297_306.out; have hnc110 := NB306_297.out
                obtain ⟨hcz111_0, hcz111_1, hcz111_2, hcz111_3⟩ := cz4 BK297.out
                obtain ⟨hfz111_0, hfz111_1, hfz111_2, hfz111_3⟩ := fz4 BK297.out
                go_wp2_with (first | (go_at_call 18; (with_reducible refine (laws_eqDisk.calls kj17 _ _ t310 _ _ t313 t316 t317 _ _ t288 _ _ t291 t294 t295 false _ ?side1 ?side2 ?side3 ?side4 ?side5 ?side6 ?side7 ?side8 A95.out).mono ?_); (case side1 => exact kV (zA HO_320000.out).2.2); (case side2 => exact (zA HO_320000.out).2.1); (case side3 => exact kV (zA HO_320001.out).2.2); (case side4 => exact (zA HO_320001.out).2.1); (case side5 => exact kV (zA HO_298000.out).2.2); (case side6 => exact (zA HO_298000.out).2.1); (case side7 => exact kV (zA HO_298001.out).2.2); (case side8 => exact (zA HO_298001.out).2.1); rintro e w112 ⟨rfl, hb⟩; have n0_ := yD (zE (kA HO_13) hb); have n1_ := yD (zE (kA HO_298000) hb); have n2_ := yD (zE (kA HO_298001) hb); have n3_ := yD (zE (kA HO_307000) hb); have n4_ := yD (zE (kA HO_307001) hb); have n5_ := yD (zE (kA HO_320000) hb); have n6_ := yD (zE (kA HO_320001) hb); have n7_ := yD (zE (kA HO323) hb); have n8_ := yD (zE (kA HO326) hb); have n9_ := yD (zE (kA HO332) hb); have n10_ := yD (zB (g := gb275) (o := .cells #[.slice A0_0 l0_0.length c0_0, .slice A0_1 l0_1.length c0_1, .int .i64 a0_2, .bool a0_3] 39 (0, 0)) (kM BK275) hb); have n11_ := yD (zB (g := gb297) (o := .cells #[.slice Ao30 t288.length co30, .slice Ao33 t291.length co33, .int .i64 t294, .bool t295] 44 (0, 0)) (kM BK297) hb); have n12_ := yD (zB (g := gb306) (o := .cells #[.slice Ao37 t298.length co37, .slice Ao41 t301.length co41, .int .i64 t304, .bool t305] 44 (0, 0)) (kM BK306) hb); have n13_ := yD (zB (g := gb319) (o := .cells #[.slice Ao47 t310.length co47, .slice Ao52 t313.length co52, .int .i64 t316, .bool t317] 44 (0, 0)) (kM BK319) hb); have n14_ := yD (zC (kB HB) hb); clear HO_13; clear HO_298000; clear HO_298001; clear HO_307000; clear HO_307001; clear HO_320000; clear HO_320001; clear HO323; clear HO326; clear HO332; clear BK275; clear BK297; clear BK306; clear BK319; clear HB; have HO_13 := n0_; have HO_298000 := n1_; have HO_298001 := n2_; have HO_307000 := n3_; have HO_307001 := n4_; have HO_320000 := n5_; have HO_320001 := n6_; have HO323 := n7_; have HO326 := n8_; have HO332 := n9_; have BK275 := n10_; have BK297 := n11_; have BK306 := n12_; have BK319 := n13_; have HB := n14_; clear n0_ n1_ n2_ n3_ n4_ n5_ n6_ n7_ n8_ n9_ n10_ n11_ n12_ n13_ n14_; (try clear hb); (try clear hb2); (try clear hk); (try clear hi)))
                go_meet
                case rel => exact ⟨_, (true), (by first | rfl | (simp; done) | (simp [*]; done)), H', ⟨by have := HJ17.out; first | omega | exact Nat.le_refl _⟩, ⟨by (with_reducible repeat (first | apply yA | apply yB | apply yC)); exact zF HO_298000.out (fun _ hk => ⟨hk.1, hk.2.1⟩)⟩, ⟨by (with_reducible repeat (first | apply yA | apply yB | apply yC)); exact zF HO_298001.out (fun _ hk => ⟨hk.1, hk.2.1⟩)⟩, ⟨by (with_reducible repeat (first | apply yA | apply yB | apply yC)); exact zF HO_307000.out (fun _ hk => ⟨hk.1, hk.2.1⟩)⟩, ⟨by (with_reducible repeat (first | apply yA | apply yB | apply yC)); exact zF HO_307001.out (fun _ hk => ⟨hk.1, hk.2.1⟩)⟩, ⟨by (with_reducible repeat (first | apply yA | apply yB | apply yC)); exact zF HO_320000.out (fun _ hk => ⟨hk.1, hk.2.1⟩)⟩, ⟨by (with_reducible repeat (first | apply yA | apply yB | apply yC)); exact zF HO_320001.out (fun _ hk => ⟨hk.1, hk.2.1⟩)⟩, ⟨by (with_reducible repeat (first | refine yM ?_ _ | refine yO ?_ | refine yN ?_ _)); exact BK275.out⟩, ⟨by (with_reducible repeat (first | refine yM ?_ _ | refine yO ?_ | refine yN ?_ _)); exact BK297.out⟩, ⟨by (with_reducible repeat (first | refine yM ?_ _ | refine yO ?_ | refine yN ?_ _)); exact BK306.out⟩, ⟨by (with_reducible repeat (first | refine yM ?_ _ | refine yO ?_ | refine yN ?_ _)); exact BK319.out⟩, ⟨by repeat (first | (with_reducible first | exact HB.out | apply yQ | apply yL | apply yP | refine yE ?_ GE275.out | refine yE ?_ GE297.out | refine yE ?_ GE306.out | refine yE ?_ GE319.out) | exact HB.out)⟩⟩
          case rest =>
            clear HC80; try clear c1; try clear c2; try clear p2; try clear c3; try clear c4; try clear c5; try clear c5b0; try clear c5b1; try clear c6; try clear c7; try clear c8; try clear c8b0; try clear c9; try clear c10; try clear c11; try clear c13; try clear c14; try clear c15; try clear c16; try clear c17; try clear c18; try clear c19; try clear c20; try clear c21; try clear c31; try clear c38; try clear c39; try clear c48; try clear c49; try clear c50; try clear c54; try clear c55; try clear c56; try clear c57; try clear c59; try clear c60; try clear c63; try clear c64; try clear c65; try clear c67; try clear c68; try clear c71; try clear c74; try clear c77; try clear c88; try clear c89; try clear c90; try clear c94; try clear c94b0; try clear c96; try clear c97; try clear c98; try clear c99; try clear c101; try clear c102; try clear c105; try clear c106; try clear c107; try clear c109; try clear c110; try clear hcz100_0; try clear hcz100_1; try clear hcz100_2; try clear hcz100_3; try clear hcz103_0; try clear hcz103_1; try clear hcz103_2; try clear hcz103_3; try clear hcz108_0; try clear hcz108_1; try clear hcz108_2; try clear hcz108_3; try clear hcz10_0; try clear hcz10_1; try clear hcz10_2; try clear hcz10_3; try clear hcz111_0; try clear hcz111_1; try clear hcz111_2; try clear hcz111_3; try clear hcz20_0; try clear hcz20_1; try clear hcz20_2; try clear hcz20_3; try clear hcz22_0; try clear hcz22_1; try clear hcz22_2; try clear hcz22_3; try clear hcz32_0; try clear hcz32_1; try clear hcz32_2; try clear hcz32_3; try clear hcz34_0; try clear hcz34_1; try clear hcz34_2; try clear hcz34_3; try clear hcz40_0; try clear hcz40_1; try clear hcz40_2; try clear hcz40_3; try clear hcz43_0; try clear hcz43_1; try clear hcz43_2; try clear hcz43_3; try clear hcz51_0; try clear hcz51_1; try clear hcz51_2; try clear hcz51_3; try clear hcz58_0; try clear hcz58_1; try clear hcz58_2; try clear hcz58_3; try clear hcz61_0; try clear hcz61_1; try clear hcz61_2; try clear hcz61_3; try clear hcz66_0; try clear hcz66_1; try clear hcz66_2; try clear hcz66_3; try clear hcz69_0; try clear hcz69_1; try clear hcz69_2; try clear hcz69_3; try clear hcz91_0; try clear hcz91_1; try clear hcz91_2; try clear hcz91_3; try clear hfz100_0; try clear hfz100_1; try clear hfz100_2; try clear hfz100_3; try clear hfz103_0; try clear hfz103_1; try clear hfz103_2; try clear hfz103_3; try clear hfz108_0; try clear hfz108_1; try clear hfz108_2; try clear hfz108_3; try clear hfz10_0; try clear hfz10_1; try clear hfz10_2; try clear hfz10_3; try clear hfz111_0; try clear hfz111_1; try clear hfz111_2; try clear hfz111_3; try clear hfz20_0; try clear hfz20_1; try clear hfz20_2; try clear hfz20_3; try clear hfz22_0; try clear hfz22_1; try clear hfz22_2; try clear hfz22_3; try clear hfz32_0; try clear hfz32_1; try clear hfz32_2; try clear hfz32_3; try clear hfz34_0; try clear hfz34_1; try clear hfz34_2; try clear hfz34_3; try clear hfz40_0; try clear hfz40_1; try clear hfz40_2; try clear hfz40_3; try clear hfz43_0; try clear hfz43_1; try clear hfz43_2; try clear hfz43_3; try clear hfz51_0; try clear hfz51_1; try clear hfz51_2; try clear hfz51_3; try clear hfz58_0; try clear hfz58_1; try clear hfz58_2; try clear hfz58_3; try clear hfz61_0; try clear hfz61_1; try clear hfz61_2; try clear hfz61_3; try clear hfz66_0; try clear hfz66_1; try clear hfz66_2; try clear hfz66_3; try clear hfz69_0; try clear hfz69_1; try clear hfz69_2; try clear hfz69_3; try clear hfz91_0; try clear hfz91_1; try clear hfz91_2; try clear hfz91_3; try clear p2
            obtain ⟨kq, x88_79, rfl, HA, HJ79, HO_298000, HO_298001, HO_307000, HO_307001, HO_320000, HO_320001, BK275, BK297, BK306, BK319, HB⟩ := hcut
            rename_i iq2_1 iq2_2 iq2_3 iq2_4 iq2_5 iq2_6 iq2_7 iq2_8 iq2_9 iq2_10 iq2_11 iq2_12 iq2_13 iq2_14 iq2_15 iq2_16 iq2_17 iq2_18 iq2_19 iq2_20 iq2_21 iq2_22 iq2_23 iq2_24 iq2_25 iq2_26 iq2_27 iq2_28 iq2_29 iq2_30 iq2_31 iq2_32 iq2_33 iq2_34 iq2_35 iq2_36 iq2_37 iq2_38 iq2_39 iq2_40 iq2_41 iq2_42 iq2_43 iq2_44 iq2_45 iq2_46 iq2_47 iq2_48 iq2_49 iq2_50 iq2_51 iq2_52 iq2_53 iq2_54 iq2_55 iq2_56 iq2_57 iq2_58 iq2_59 iq2_60 iq2_61 iq2_62 iq2_63 iq2_64 iq2_65 iq2_66 iq2_67 iq2_68 iq2_69 iq2_70 iq2_71 iq2_72 iq2_73 iq2_74 iq2_75 iq2_76 iq2_77 iq2_78 iq2_79 iq2_80 iq2_81 iq2_82 iq2_83 iq2_84 iq2_85 iq2_86 iq2_87 iq2_88 iq2_89 iq2_90 iq2_91 iq2_92 iq2_93 iq2_94 iq2_95 iq2_96 iq2_97 iq2_98 iq2_99 iq2_100 iq2_101 iq2_102 iq2_103 iq2_104 iq2_105 iq2_106 iq2_107 iq2_108 iq2_109 iq2_110 iq2_111 iq2_112 iq2_113 iq2_114 iq2_115 iq2_116 iq2_117 iq2_118 iq2_119 iq2_120 iq2_121 iq2_122 iq2_123 iq2_124 iq2_125 iq2_126 iq2_127 iq2_128
            revert k A0_0 c0_0 l0_0 A0_1 c0_1 l0_1 a0_2 a0_3 A1 c1 l1 a2 a3 r w hu39 hu44 HR0_0 HC0_0 HR0_1 HC0_1 HR1 HC1 iq1_1 c5b0 c5b1 t276 iq1_2 A7 c8b0 t277 t280 t283 t284 iq1_3 A12 t285 iq1_4 A13 t288 t291 t294 t295 t296 iq1_5 A14 t298 t301 t304 t305 iq1_6 A15 t307 iq2_1 A16 t310 t313 t316 t317 t318 A17 iq1_7 gb275 w19 GW275 GE275 hcz20_0 hcz20_1 hcz20_2 hcz20_3 hfz20_0 hfz20_1 hfz20_2 hfz20_3 w21 hcz22_0 hcz22_1 hcz22_2 hcz22_3 hfz22_0 hfz22_1 hfz22_2 hfz22_3 w23 w24 Ao25 co25 Ao26 co26 Ao27 co27 w28 gb297 w29 GW297 GE297 NB275_297 NB297_275 Ao30 co30 hnb31 hnc31 hcz32_0 hcz32_1 hcz32_2 hcz32_3 hfz32_0 hfz32_1 hfz32_2 hfz32_3 Ao33 co33 hcz34_0 hcz34_1 hcz34_2 hcz34_3 hfz34_0 hfz34_1 hfz34_2 hfz34_3 w35 gb306 w36 GW306 GE306 NB275_306 NB306_275 NB297_306 NB306_297 Ao37 co37 hnb38 hnc38 hnb39 hnc39 hcz40_0 hcz40_1 hcz40_2 hcz40_3 hfz40_0 hfz40_1 hfz40_2 hfz40_3 Ao41 co41 w42 hcz43_0 hcz43_1 hcz43_2 hcz43_3 hfz43_0 hfz43_1 hfz43_2 hfz43_3 Ao44 co44 w45 gb319 w46 HO287 HO309 iq1_8 iq1_9 iq1_10 iq1_11 iq1_12 GW319 GE319 NB275_319 NB319_275 NB297_319 NB319_297 NB306_319 NB319_306 Ao47 co47 HO279 HO290 HO300 HO312 hnb48 hnc48 hnb49 hnc49 hnb50 hnc50 hcz51_0 hcz51_1 hcz51_2 hcz51_3 hfz51_0 hfz51_1 hfz51_2 hfz51_3 Ao52 co52 HO282 HO293 HO303 HO315 iq2_2 iq2_3 iq2_4 iq2_5 iq2_6 iq2_7 iq2_8 iq2_9 iq2_10 iq2_11 iq2_12 iq2_13 iq2_14 iq2_15 iq2_16 iq2_17 iq2_18 iq2_19 iq2_20 iq2_21 iq2_22 iq2_23 iq2_24 iq2_25 iq2_26 iq2_27 iq2_28 iq2_29 iq2_30 iq2_31 iq2_32 iq2_33 iq2_34 iq2_35 iq2_36 iq2_37 iq2_38 iq2_39 iq2_40 iq2_41 iq2_42 iq2_43 iq2_44 iq2_45 iq2_46 iq2_47 iq2_48 iq2_49 iq2_50 iq2_51 iq2_52 iq2_53 iq2_54 iq2_55 iq2_56 iq2_57 iq2_58 iq2_59 iq2_60 iq2_61 iq2_62 iq2_63 iq2_64 iq2_65 iq2_66 iq2_67 iq2_68 u88 iq2_69 iq2_70 iq2_71 iq2_72 iq2_73 iq2_74 iq2_75 iq2_76 iq2_77 iq2_78 iq2_79 iq2_80 iq2_81 iq2_82 iq2_83 iq2_84 iq2_85 iq2_86 iq2_87 iq2_88 iq2_89 iq2_90 iq2_91 iq2_92 iq2_93 iq2_94 iq2_95 iq2_96 iq2_97 iq2_98 iq2_99 iq2_100 iq2_101 iq2_102 iq2_103 iq2_104 iq2_105 iq2_106 kj17 HJ17 iq2_107 t321 t324 t327 t328 iq2_108 A72 A73 iq2_109 t330 iq2_110 A75 A76 iq2_111 t334 t335 t336 H A78 t337 t338 A79 w81 iq2_112 w82 Ao83 co83 Ao84 co84 iq2_113 w85 hHeld w86 Ao87 co87 nd hnb88 hnc88 hnb89 hnc89 hnb90 hnc90 hcz91_0 hcz91_1 hcz91_2 hcz91_3 hfz91_0 hfz91_1 hfz91_2 hfz91_3 w92 w93 HO_13 iq2_114 iq2_115 iq2_116 iq2_117 iq2_118 iq2_119 iq2_120 iq2_121 iq2_122 iq2_123 HO323 HO326 HO332 iq2_124 iq2_125 iq2_126 iq2_127 iq2_128 wc u21 u22 u23 u24 u25 u26 u27 u28 u29 u30 u31 u32 u33 u34 u35 u36 u37 u38 u39 u40 u41 u42 u43 u44 u45 u46 u47 u48 u49 u50 u51 u52 u53 u54 u55 u56 u57 u58 u59 u60 u61 u62 u63 u64 u65 u66 u67 u68 u69 u70 u71 u72 u73 u74 u75 u76 u77 u78 u79 u80 u81 u82 u83 u84 u85 u86 u87 u89 u90 u91 u92 u93 u94 u95 u96 u97 u98 u99 u100 u101 u102 u103 u104 u105 u106 u107 u108 u109 u110 u111 u112 u113 u114 u115 u116 u117 u118 u119 u120 u121 u122 u123 u124 u125 u126 kq x88_79 HA HJ79 HO_298000 HO_298001 HO_307000 HO_307001 HO_320000 HO_320001 BK275 BK297 BK306 BK319 HB
            exact hR_.out
        · replace c77 := Bool.eq_false_iff.mpr c77
          subst c77
          have H1 : (some false) = some r := by rw [if_neg (show ¬ (false = true) by decide)] at H; exact H
          clear H; have H := H1; clear H1; obtain rfl := Option.some.inj H
          try go_wp2
          have n0_ := yD (yC HO_13.out)
          have n1_ := yD (yC HO_298000.out)
          have n2_ := yD (yC HO_298001.out)
          have n3_ := yD (yC HO_307000.out)
          have n4_ := yD (yC HO_307001.out)
          have n5_ := yD (yC HO_320000.out)
          have n6_ := yD (yC HO_320001.out)
          have n7_ := yD (yO BK275.out)
          have n8_ := yD (yO BK297.out)
          have n9_ := yD (yO BK306.out)
          have n10_ := yD (yO BK319.out)
          have n11_ := yD (yP HB.out)
          clear HO_13 HO_298000 HO_298001 HO_307000 HO_307001 HO_320000 HO_320001 BK275 BK297 BK306 BK319 HB; have HO_13 := n0_; have HO_298000 := n1_; have HO_298001 := n2_; have HO_307000 := n3_; have HO_307001 := n4_; have HO_320000 := n5_; have HO_320001 := n6_; have BK275 := n7_; have BK297 := n8_; have BK306 := n9_; have BK319 := n10_; have HB := n11_; clear n0_ n1_ n2_ n3_ n4_ n5_ n6_ n7_ n8_ n9_ n10_ n11_
          refine start_ (n := 5) (S := fun w' => w'.cell? ⟨gb306, 0, none⟩ = some (.slice Ao37 t298.length co37) ∧ w'.cell? ⟨gb306, 1, none⟩ = some (.slice Ao41 t301.length co41) ∧ w'.cell? ⟨gb306, 2, none⟩ = some (.int .i64 t304) ∧ w'.cell? ⟨gb306, 3, none⟩ = some (.bool t305) ∧ w'.cell? ⟨gb275, 0, none⟩ = some (.slice A0_0 l0_0.length c0_0) ∧ w'.cell? ⟨gb275, 1, none⟩ = some (.slice A0_1 l0_1.length c0_1) ∧ w'.cell? ⟨gb275, 2, none⟩ = some (.int .i64 a0_2) ∧ w'.cell? ⟨gb275, 3, none⟩ = some (.bool a0_3)) (ds := []) (bz 5 0) (by kernel_rfl) rfl rfl ⟨(yG BK306.out 0).trans rfl, (yG BK306.out 1).trans rfl, (yG BK306.out 2).trans rfl, (yG BK306.out 3).trans rfl, (yG BK275.out 0).trans rfl, (yG BK275.out 1).trans rfl, (yG BK275.out 2).trans rfl, (yG BK275.out 3).trans rfl⟩ (fun hHeld => ?_)
          generalize wc.drew = w204 at HO_13 HO_298000 HO_298001 HO_307000 HO_307001 HO_320000 HO_320001 BK275 BK297 BK306 BK319 HB hHeld ⊢
          refine pC 0 60 (bz 5 1) rfl rfl (by kernel_rfl) (fun _ _ _ h => h) (by rfl) hHeld (by rintro w' ⟨s0, s1, s2, s3, s4, s5, s6, s7⟩; go_simp; with_reducible rfl) (by simp only [Act.put, zH, zI, zJ, i64_w, i32_w]; rfl) ?_
          refine pC 1 61 (bz 5 3) rfl rfl (by kernel_rfl) (fun _ _ _ h => h) (by rfl) hHeld (by rintro w' ⟨s0, s1, s2, s3, s4, s5, s6, s7⟩; go_simp; with_reducible rfl) (by simp only [Act.put, zH, zI, zJ, i64_w, i32_w]; rfl) ?_
          refine one_ (i := 2) (N := some 62) (bz 5 7) rfl rfl (by kernel_rfl) (by decide) (fun K hK => ?_)
          refine goes_ Try.func15 (by kernel_rfl) rfl #[.agg #[.slice A0_0 l0_0.length c0_0, .slice A0_1 l0_1.length c0_1, .int .i64 a0_2, .bool a0_3]] (by rfl) rfl rfl (by (try simp only [zK, zL, zM]); first | done | rfl | (simp only [zN, zO]; rfl)) ?_
          with_reducible refine (laws_toDisk.calls kj17 _ _ l0_0 _ _ l0_1 a0_2 a0_3 t321 t324 t327 t328 _ ?side1 ?side2 ?side3 ?side4 A72.out).mono ?_
          (case side1 => exact kV (yY HR0_0.out HB.out))
          (case side2 => exact HC0_0.out)
          (case side3 => exact kV (yY HR0_1.out HB.out))
          (case side4 => exact HC0_1.out)
          rintro e w205 ⟨v322, v325, rfl, ho0, ho1, hb⟩
          refine ⟨_, rfl, ?_⟩
          have n0_ := yD (zE (kA HO_13) hb)
          have n1_ := yD (Kd.R_elder' (kA HO_298000) (yH ho0) hb)
          have n2_ := yD (Kd.R_elder' (kA HO_298001) (yH ho1) hb)
          have n3_ := yD (Kd.R_elder' (kA HO_307000) (yH ho0) hb)
          have n4_ := yD (Kd.R_elder' (kA HO_307001) (yH ho1) hb)
          have n5_ := yD (Kd.R_elder' (kA HO_320000) (yH ho0) hb)
          have n6_ := yD (Kd.R_elder' (kA HO_320001) (yH ho1) hb)
          have n7_ := yD (yZ (yJ (yJ (yJ ho0 (yK (kA HO_298000))) (yK (kA HO_307000))) (yK (kA HO_320000))) (below_size (kB HB)))
          have n8_ := yD (yZ (yJ (yJ (yJ ho1 (yK (kA HO_298001))) (yK (kA HO_307001))) (yK (kA HO_320001))) (below_size (kB HB)))
          have n9_ := yD (zB (g := gb275) (o := .cells #[.slice A0_0 l0_0.length c0_0, .slice A0_1 l0_1.length c0_1, .int .i64 a0_2, .bool a0_3] 39 (0, 0)) (kM BK275) hb)
          have n10_ := yD (zB (g := gb297) (o := .cells #[.slice Ao30 t288.length co30, .slice Ao33 t291.length co33, .int .i64 t294, .bool t295] 44 (0, 0)) (kM BK297) hb)
          have n11_ := yD (zB (g := gb306) (o := .cells #[.slice Ao37 t298.length co37, .slice Ao41 t301.length co41, .int .i64 t304, .bool t305] 44 (0, 0)) (kM BK306) hb)
          have n12_ := yD (zB (g := gb319) (o := .cells #[.slice Ao47 t310.length co47, .slice Ao52 t313.length co52, .int .i64 t316, .bool t317] 44 (0, 0)) (kM BK319) hb)
          have n13_ := yD (zC (kB HB) hb)
          clear HO_13 HO_298000 HO_298001 HO_307000 HO_307001 HO_320000 HO_320001 BK275 BK297 BK306 BK319 HB; have HO_13 := n0_; have HO_298000 := n1_; have HO_298001 := n2_; have HO_307000 := n3_; have HO_307001 := n4_; have HO_320000 := n5_; have HO_320001 := n6_; have HO323 := n7_; have HO326 := n8_; have BK275 := n9_; have BK297 := n10_; have BK306 := n11_; have BK319 := n12_; have HB := n13_; clear n0_ n1_ n2_ n3_ n4_ n5_ n6_ n7_ n8_ n9_ n10_ n11_ n12_ n13_; (try clear hb); (try clear hb2); (try clear hk); (try clear hi); (try clear ho0); (try clear ho1)
          obtain ⟨Ao206, co206, eo206⟩ := Kd.R_slice HO323.out
          (first | subst eo206 | (injection eo206 with f1_ f2_ f3_; have f4_ := f1_.symm; have f5_ := f3_.symm; clear f1_ f2_ f3_; subst f4_; subst f5_))
          obtain ⟨Ao207, co207, eo207⟩ := Kd.R_slice HO326.out
          (first | subst eo207 | (injection eo207 with f1_ f2_ f3_; have f4_ := f1_.symm; have f5_ := f3_.symm; clear f1_ f2_ f3_; subst f4_; subst f5_))
          refine hK.out _ _ ⟨(yG BK306.out 0).trans rfl, (yG BK306.out 1).trans rfl, (yG BK306.out 2).trans rfl, (yG BK306.out 3).trans rfl, (yG BK275.out 0).trans rfl, (yG BK275.out 1).trans rfl, (yG BK275.out 2).trans rfl, (yG BK275.out 3).trans rfl⟩ (fun hHeld => ?_)
          clear hK K
          refine norm_ (a' := ?_) ?_ ?_
          rotate_left
          · show Act.put _ (some 62) _ = _
            simp only [Act.put, zH, zI, zJ, i64_w, i32_w]
            rfl
          refine one_ (i := 3) (N := some 63) (bz 5 15) rfl rfl (by kernel_rfl) (by decide) (fun K hK => ?_)
          refine goes_ Try.func18 (by kernel_rfl) rfl #[.agg #[.slice Ao37 t298.length co37, .slice Ao41 t301.length co41, .int .i64 t304, .bool t305], .agg #[.slice Ao206 t321.length co206, .slice Ao207 t324.length co207, .int .i64 t327, .bool t328]] (by rfl) rfl rfl (by (try simp only [zK, zL, zM]); first | done | rfl | (simp only [zN, zO]; rfl)) ?_
          with_reducible refine (laws_eqDisk.calls kj17 _ _ t298 _ _ t301 t304 t305 _ _ t321 _ _ t324 t327 t328 true _ ?side1 ?side2 ?side3 ?side4 ?side5 ?side6 ?side7 ?side8 A73.out).mono ?_
          (case side1 => exact kV (zA HO_307000.out).2.2)
          (case side2 => exact (zA HO_307000.out).2.1)
          (case side3 => exact kV (zA HO_307001.out).2.2)
          (case side4 => exact (zA HO_307001.out).2.1)
          (case side5 => exact kV (zA HO323.out).2.2)
          (case side6 => exact (zA HO323.out).2.1)
          (case side7 => exact kV (zA HO326.out).2.2)
          (case side8 => exact (zA HO326.out).2.1)
          rintro e w208 ⟨rfl, hb⟩
          refine ⟨_, rfl, ?_⟩
          have n0_ := yD (zE (kA HO_13) hb)
          have n1_ := yD (zE (kA HO_298000) hb)
          have n2_ := yD (zE (kA HO_298001) hb)
          have n3_ := yD (zE (kA HO_307000) hb)
          have n4_ := yD (zE (kA HO_307001) hb)
          have n5_ := yD (zE (kA HO_320000) hb)
          have n6_ := yD (zE (kA HO_320001) hb)
          have n7_ := yD (zE (kA HO323) hb)
          have n8_ := yD (zE (kA HO326) hb)
          have n9_ := yD (zB (g := gb275) (o := .cells #[.slice A0_0 l0_0.length c0_0, .slice A0_1 l0_1.length c0_1, .int .i64 a0_2, .bool a0_3] 39 (0, 0)) (kM BK275) hb)
          have n10_ := yD (zB (g := gb297) (o := .cells #[.slice Ao30 t288.length co30, .slice Ao33 t291.length co33, .int .i64 t294, .bool t295] 44 (0, 0)) (kM BK297) hb)
          have n11_ := yD (zB (g := gb306) (o := .cells #[.slice Ao37 t298.length co37, .slice Ao41 t301.length co41, .int .i64 t304, .bool t305] 44 (0, 0)) (kM BK306) hb)
          have n12_ := yD (zB (g := gb319) (o := .cells #[.slice Ao47 t310.length co47, .slice Ao52 t313.length co52, .int .i64 t316, .bool t317] 44 (0, 0)) (kM BK319) hb)
          have n13_ := yD (zC (kB HB) hb)
          clear HO_13 HO_298000 HO_298001 HO_307000 HO_307001 HO_320000 HO_320001 HO323 HO326 BK275 BK297 BK306 BK319 HB; have HO_13 := n0_; have HO_298000 := n1_; have HO_298001 := n2_; have HO_307000 := n3_; have HO_307001 := n4_; have HO_320000 := n5_; have HO_320001 := n6_; have HO323 := n7_; have HO326 := n8_; have BK275 := n9_; have BK297 := n10_; have BK306 := n11_; have BK319 := n12_; have HB := n13_; clear n0_ n1_ n2_ n3_ n4_ n5_ n6_ n7_ n8_ n9_ n10_ n11_ n12_ n13_; (try clear hb); (try clear hb2); (try clear hk); (try clear hi)
          refine hK.out _ _ ⟨(yG BK306.out 0).trans rfl, (yG BK306.out 1).trans rfl, (yG BK306.out 2).trans rfl, (yG BK306.out 3).trans rfl, (yG BK275.out 0).trans rfl, (yG BK275.out 1).trans rfl, (yG BK275.out 2).trans rfl, (yG BK275.out 3).trans rfl⟩ (fun hHeld => ?_)
          clear hK K
          refine norm_ (a' := ?_) ?_ ?_
          rotate_left
          · show Act.put _ (some 63) _ = _
            simp only [Act.put, zH, zI, zJ, i64_w, i32_w]
            rfl
          refine pA 4 64 (bz 5 31) rfl rfl (by kernel_rfl) (fun _ _ _ h => h) (by rfl) (fun _ => by go_simp; with_reducible rfl) (by simp only [Act.put, zH, zI, zJ, i64_w, i32_w]; rfl) ?_
          refine done_ (by kernel_rfl) ?_
          try go_wp2_with (first | ((with_reducible refine gate_callee (f := 16) rfl ?_); refine goesL_ (some 67) rfl rfl Try.func16 (by kernel_rfl) rfl #[.slice A1 l1.length c1] rfl (by (try simp only [zK, zL, zM]); first | done | rfl | (simp only [zN, zO]; rfl)) ?_; (with_reducible refine (laws_toBoolS.calls kj17 _ _ l1 t330 _ ?side1 ?side2 A75.out).mono ?_); (case side1 => exact kV (yY HR1.out HB.out)); (case side2 => exact HC1.out); rintro e w209 ⟨v331, rfl, ho0, hb⟩; refine ⟨_, rfl, ?_⟩; have n0_ := yD (Kd.R_elder' (kA HO_13) (yH ho0) hb); have n1_ := yD (zE (kA HO_298000) hb); have n2_ := yD (zE (kA HO_298001) hb); have n3_ := yD (zE (kA HO_307000) hb); have n4_ := yD (zE (kA HO_307001) hb); have n5_ := yD (zE (kA HO_320000) hb); have n6_ := yD (zE (kA HO_320001) hb); have n7_ := yD (zE (kA HO323) hb); have n8_ := yD (zE (kA HO326) hb); have n9_ := yD (yZ (yJ ho0 (yK (kA HO_13))) (below_size (kB HB))); have n10_ := yD (zB (g := gb275) (o := .cells #[.slice A0_0 l0_0.length c0_0, .slice A0_1 l0_1.length c0_1, .int .i64 a0_2, .bool a0_3] 39 (0, 0)) (kM BK275) hb); have n11_ := yD (zB (g := gb297) (o := .cells #[.slice Ao30 t288.length co30, .slice Ao33 t291.length co33, .int .i64 t294, .bool t295] 44 (0, 0)) (kM BK297) hb); have n12_ := yD (zB (g := gb306) (o := .cells #[.slice Ao37 t298.length co37, .slice Ao41 t301.length co41, .int .i64 t304, .bool t305] 44 (0, 0)) (kM BK306) hb); have n13_ := yD (zB (g := gb319) (o := .cells #[.slice Ao47 t310.length co47, .slice Ao52 t313.length co52, .int .i64 t316, .bool t317] 44 (0, 0)) (kM BK319) hb); have n14_ := yD (zC (kB HB) hb); clear HO_13; clear HO_298000; clear HO_298001; clear HO_307000; clear HO_307001; clear HO_320000; clear HO_320001; clear HO323; clear HO326; clear BK275; clear BK297; clear BK306; clear BK319; clear HB; have HO_13 := n0_; have HO_298000 := n1_; have HO_298001 := n2_; have HO_307000 := n3_; have HO_307001 := n4_; have HO_320000 := n5_; have HO_320001 := n6_; have HO323 := n7_; have HO326 := n8_; have HO332 := n9_; have BK275 := n10_; have BK297 := n11_; have BK306 := n12_; have BK319 := n13_; have HB := n14_; clear n0_ n1_ n2_ n3_ n4_ n5_ n6_ n7_ n8_ n9_ n10_ n11_ n12_ n13_ n14_; (try clear hb); (try clear hb2); (try clear hk); (try clear hi); (try clear ho0); obtain ⟨Ao210, co210, eo210⟩ := Kd.R_slice HO332.out; subst eo210) | ((with_reducible refine gate_callee (f := 19) rfl ?_); refine goesL_ (some 68) rfl rfl Try.func19 (by kernel_rfl) rfl #[.slice Ao44 t307.length co44, .slice Ao210 t330.length co210] rfl (by (try simp only [zK, zL, zM]); first | done | rfl | (simp only [zN, zO]; rfl)) ?_; (with_reducible refine (laws_eqBoolS.calls kj17 _ _ t307 _ _ t330 false _ ?side1 ?side2 ?side3 ?side4 A76.out).mono ?_); (case side1 => exact kV (zA HO_13.out).2.2); (case side2 => exact (zA HO_13.out).2.1); (case side3 => exact kV (zA HO332.out).2.2); (case side4 => exact (zA HO332.out).2.1); rintro e w' ⟨rfl, ⟨nd, rfl⟩⟩; refine ⟨_, rfl, ?_⟩))
          go_ret
          exact ⟨by first | rfl | (simp <;> rfl) | (simp [*] <;> rfl), by repeat (first | (with_reducible first | exact HB.out | apply yQ | apply yL | apply yP | refine yE ?_ GE275.out | refine yE ?_ GE297.out | refine yE ?_ GE306.out | refine yE ?_ GE319.out) | exact HB.out)⟩
      · replace c74 := Bool.eq_false_iff.mpr c74
        subst c74
        have H1 : (some false) = some r := by rw [if_neg (show ¬ (false = true) by decide)] at H; exact H
        clear H; have H := H1; clear H1; obtain rfl := Option.some.inj H
        try go_wp2
        have n0_ := yD (yC HO_13.out)
        have n1_ := yD (yC HO_298000.out)
        have n2_ := yD (yC HO_298001.out)
        have n3_ := yD (yC HO_307000.out)
        have n4_ := yD (yC HO_307001.out)
        have n5_ := yD (yC HO_320000.out)
        have n6_ := yD (yC HO_320001.out)
        have n7_ := yD (yO BK275.out)
        have n8_ := yD (yO BK297.out)
        have n9_ := yD (yO BK306.out)
        have n10_ := yD (yO BK319.out)
        have n11_ := yD (yP HB.out)
        clear HO_13 HO_298000 HO_298001 HO_307000 HO_307001 HO_320000 HO_320001 BK275 BK297 BK306 BK319 HB; have HO_13 := n0_; have HO_298000 := n1_; have HO_298001 := n2_; have HO_307000 := n3_; have HO_307001 := n4_; have HO_320000 := n5_; have HO_320001 := n6_; have BK275 := n7_; have BK297 := n8_; have BK306 := n9_; have BK319 := n10_; have HB := n11_; clear n0_ n1_ n2_ n3_ n4_ n5_ n6_ n7_ n8_ n9_ n10_ n11_
        refine start_ (n := 5) (S := fun w' => w'.cell? ⟨gb306, 0, none⟩ = some (.slice Ao37 t298.length co37) ∧ w'.cell? ⟨gb306, 1, none⟩ = some (.slice Ao41 t301.length co41) ∧ w'.cell? ⟨gb306, 2, none⟩ = some (.int .i64 t304) ∧ w'.cell? ⟨gb306, 3, none⟩ = some (.bool t305) ∧ w'.cell? ⟨gb275, 0, none⟩ = some (.slice A0_0 l0_0.length c0_0) ∧ w'.cell? ⟨gb275, 1, none⟩ = some (.slice A0_1 l0_1.length c0_1) ∧ w'.cell? ⟨gb275, 2, none⟩ = some (.int .i64 a0_2) ∧ w'.cell? ⟨gb275, 3, none⟩ = some (.bool a0_3)) (ds := []) (bz 5 0) (by kernel_rfl) rfl rfl ⟨(yG BK306.out 0).trans rfl, (yG BK306.out 1).trans rfl, (yG BK306.out 2).trans rfl, (yG BK306.out 3).trans rfl, (yG BK275.out 0).trans rfl, (yG BK275.out 1).trans rfl, (yG BK275.out 2).trans rfl, (yG BK275.out 3).trans rfl⟩ (fun hHeld => ?_)
        generalize wc.drew = w211 at HO_13 HO_298000 HO_298001 HO_307000 HO_307001 HO_320000 HO_320001 BK275 BK297 BK306 BK319 HB hHeld ⊢
        refine pC 0 60 (bz 5 1) rfl rfl (by kernel_rfl) (fun _ _ _ h => h) (by rfl) hHeld (by rintro w' ⟨s0, s1, s2, s3, s4, s5, s6, s7⟩; go_simp; with_reducible rfl) (by simp only [Act.put, zH, zI, zJ, i64_w, i32_w]; rfl) ?_
        refine pC 1 61 (bz 5 3) rfl rfl (by kernel_rfl) (fun _ _ _ h => h) (by rfl) hHeld (by rintro w' ⟨s0, s1, s2, s3, s4, s5, s6, s7⟩; go_simp; with_reducible rfl) (by simp only [Act.put, zH, zI, zJ, i64_w, i32_w]; rfl) ?_
        refine one_ (i := 2) (N := some 62) (bz 5 7) rfl rfl (by kernel_rfl) (by decide) (fun K hK => ?_)
        refine goes_ Try.func15 (by kernel_rfl) rfl #[.agg #[.slice A0_0 l0_0.length c0_0, .slice A0_1 l0_1.length c0_1, .int .i64 a0_2, .bool a0_3]] (by rfl) rfl rfl (by (try simp only [zK, zL, zM]); first | done | rfl | (simp only [zN, zO]; rfl)) ?_
        with_reducible refine (laws_toDisk.calls kj17 _ _ l0_0 _ _ l0_1 a0_2 a0_3 t321 t324 t327 t328 _ ?side1 ?side2 ?side3 ?side4 A72.out).mono ?_
        (case side1 => exact kV (yY HR0_0.out HB.out))
        (case side2 => exact HC0_0.out)
        (case side3 => exact kV (yY HR0_1.out HB.out))
        (case side4 => exact HC0_1.out)
        rintro e w212 ⟨v322, v325, rfl, ho0, ho1, hb⟩
        refine ⟨_, rfl, ?_⟩
        have n0_ := yD (zE (kA HO_13) hb)
        have n1_ := yD (Kd.R_elder' (kA HO_298000) (yH ho0) hb)
        have n2_ := yD (Kd.R_elder' (kA HO_298001) (yH ho1) hb)
        have n3_ := yD (Kd.R_elder' (kA HO_307000) (yH ho0) hb)
        have n4_ := yD (Kd.R_elder' (kA HO_307001) (yH ho1) hb)
        have n5_ := yD (Kd.R_elder' (kA HO_320000) (yH ho0) hb)
        have n6_ := yD (Kd.R_elder' (kA HO_320001) (yH ho1) hb)
        have n7_ := yD (yZ (yJ (yJ (yJ ho0 (yK (kA HO_298000))) (yK (kA HO_307000))) (yK (kA HO_320000))) (below_size (kB HB)))
        have n8_ := yD (yZ (yJ (yJ (yJ ho1 (yK (kA HO_298001))) (yK (kA HO_307001))) (yK (kA HO_320001))) (below_size (kB HB)))
        have n9_ := yD (zB (g := gb275) (o := .cells #[.slice A0_0 l0_0.length c0_0, .slice A0_1 l0_1.length c0_1, .int .i64 a0_2, .bool a0_3] 39 (0, 0)) (kM BK275) hb)
        have n10_ := yD (zB (g := gb297) (o := .cells #[.slice Ao30 t288.length co30, .slice Ao33 t291.length co33, .int .i64 t294, .bool t295] 44 (0, 0)) (kM BK297) hb)
        have n11_ := yD (zB (g := gb306) (o := .cells #[.slice Ao37 t298.length co37, .slice Ao41 t301.length co41, .int .i64 t304, .bool t305] 44 (0, 0)) (kM BK306) hb)
        have n12_ := yD (zB (g := gb319) (o := .cells #[.slice Ao47 t310.length co47, .slice Ao52 t313.length co52, .int .i64 t316, .bool t317] 44 (0, 0)) (kM BK319) hb)
        have n13_ := yD (zC (kB HB) hb)
        clear HO_13 HO_298000 HO_298001 HO_307000 HO_307001 HO_320000 HO_320001 BK275 BK297 BK306 BK319 HB; have HO_13 := n0_; have HO_298000 := n1_; have HO_298001 := n2_; have HO_307000 := n3_; have HO_307001 := n4_; have HO_320000 := n5_; have HO_320001 := n6_; have HO323 := n7_; have HO326 := n8_; have BK275 := n9_; have BK297 := n10_; have BK306 := n11_; have BK319 := n12_; have HB := n13_; clear n0_ n1_ n2_ n3_ n4_ n5_ n6_ n7_ n8_ n9_ n10_ n11_ n12_ n13_; (try clear hb); (try clear hb2); (try clear hk); (try clear hi); (try clear ho0); (try clear ho1)
        obtain ⟨Ao213, co213, eo213⟩ := Kd.R_slice HO323.out
        (first | subst eo213 | (injection eo213 with f1_ f2_ f3_; have f4_ := f1_.symm; have f5_ := f3_.symm; clear f1_ f2_ f3_; subst f4_; subst f5_))
        obtain ⟨Ao214, co214, eo214⟩ := Kd.R_slice HO326.out
        (first | subst eo214 | (injection eo214 with f1_ f2_ f3_; have f4_ := f1_.symm; have f5_ := f3_.symm; clear f1_ f2_ f3_; subst f4_; subst f5_))
        refine hK.out _ _ ⟨(yG BK306.out 0).trans rfl, (yG BK306.out 1).trans rfl, (yG BK306.out 2).trans rfl, (yG BK306.out 3).trans rfl, (yG BK275.out 0).trans rfl, (yG BK275.out 1).trans rfl, (yG BK275.out 2).trans rfl, (yG BK275.out 3).trans rfl⟩ (fun hHeld => ?_)
        clear hK K
        refine norm_ (a' := ?_) ?_ ?_
        rotate_left
        · show Act.put _ (some 62) _ = _
          simp only [Act.put, zH, zI, zJ, i64_w, i32_w]
          rfl
        refine one_ (i := 3) (N := some 63) (bz 5 15) rfl rfl (by kernel_rfl) (by decide) (fun K hK => ?_)
        refine goes_ Try.func18 (by kernel_rfl) rfl #[.agg #[.slice Ao37 t298.length co37, .slice Ao41 t301.length co41, .int .i64 t304, .bool t305], .agg #[.slice Ao213 t321.length co213, .slice Ao214 t324.length co214, .int .i64 t327, .bool t328]] (by rfl) rfl rfl (by (try simp only [zK, zL, zM]); first | done | rfl | (simp only [zN, zO]; rfl)) ?_
        with_reducible refine (laws_eqDisk.calls kj17 _ _ t298 _ _ t301 t304 t305 _ _ t321 _ _ t324 t327 t328 false _ ?side1 ?side2 ?side3 ?side4 ?side5 ?side6 ?side7 ?side8 A73.out).mono ?_
        (case side1 => exact kV (zA HO_307000.out).2.2)
        (case side2 => exact (zA HO_307000.out).2.1)
        (case side3 => exact kV (zA HO_307001.out).2.2)
        (case side4 => exact (zA HO_307001.out).2.1)
        (case side5 => exact kV (zA HO323.out).2.2)
        (case side6 => exact (zA HO323.out).2.1)
        (case side7 => exact kV (zA HO326.out).2.2)
        (case side8 => exact (zA HO326.out).2.1)
        rintro e w215 ⟨rfl, hb⟩
        refine ⟨_, rfl, ?_⟩
        have n0_ := yD (zE (kA HO_13) hb)
        have n1_ := yD (zE (kA HO_298000) hb)
        have n2_ := yD (zE (kA HO_298001) hb)
        have n3_ := yD (zE (kA HO_307000) hb)
        have n4_ := yD (zE (kA HO_307001) hb)
        have n5_ := yD (zE (kA HO_320000) hb)
        have n6_ := yD (zE (kA HO_320001) hb)
        have n7_ := yD (zE (kA HO323) hb)
        have n8_ := yD (zE (kA HO326) hb)
        have n9_ := yD (zB (g := gb275) (o := .cells #[.slice A0_0 l0_0.length c0_0, .slice A0_1 l0_1.length c0_1, .int .i64 a0_2, .bool a0_3] 39 (0, 0)) (kM BK275) hb)
        have n10_ := yD (zB (g := gb297) (o := .cells #[.slice Ao30 t288.length co30, .slice Ao33 t291.length co33, .int .i64 t294, .bool t295] 44 (0, 0)) (kM BK297) hb)
        have n11_ := yD (zB (g := gb306) (o := .cells #[.slice Ao37 t298.length co37, .slice Ao41 t301.length co41, .int .i64 t304, .bool t305] 44 (0, 0)) (kM BK306) hb)
        have n12_ := yD (zB (g := gb319) (o := .cells #[.slice Ao47 t310.length co47, .slice Ao52 t313.length co52, .int .i64 t316, .bool t317] 44 (0, 0)) (kM BK319) hb)
        have n13_ := yD (zC (kB HB) hb)
        clear HO_13 HO_298000 HO_298001 HO_307000 HO_307001 HO_320000 HO_320001 HO323 HO326 BK275 BK297 BK306 BK319 HB; have HO_13 := n0_; have HO_298000 := n1_; have HO_298001 := n2_; have HO_307000 := n3_; have HO_307001 := n4_; have HO_320000 := n5_; have HO_320001 := n6_; have HO323 := n7_; have HO326 := n8_; have BK275 := n9_; have BK297 := n10_; have BK306 := n11_; have BK319 := n12_; have HB := n13_; clear n0_ n1_ n2_ n3_ n4_ n5_ n6_ n7_ n8_ n9_ n10_ n11_ n12_ n13_; (try clear hb); (try clear hb2); (try clear hk); (try clear hi)
        refine hK.out _ _ ⟨(yG BK306.out 0).trans rfl, (yG BK306.out 1).trans rfl, (yG BK306.out 2).trans rfl, (yG BK306.out 3).trans rfl, (yG BK275.out 0).trans rfl, (yG BK275.out 1).trans rfl, (yG BK275.out 2).trans rfl, (yG BK275.out 3).trans rfl⟩ (fun hHeld => ?_)
        clear hK K
        refine norm_ (a' := ?_) ?_ ?_
        rotate_left
        · show Act.put _ (some 63) _ = _
          simp only [Act.put, zH, zI, zJ, i64_w, i32_w]
          rfl
        refine pA 4 64 (bz 5 31) rfl rfl (by kernel_rfl) (fun _ _ _ h => h) (by rfl) (fun _ => by go_simp; with_reducible rfl) (by simp only [Act.put, zH, zI, zJ, i64_w, i32_w]; rfl) ?_
        refine done_ (by kernel_rfl) ?_
        try go_wp2
        go_ret
        exact ⟨by first | rfl | (simp <;> rfl) | (simp [*] <;> rfl), by repeat (first | (with_reducible first | exact HB.out | apply yQ | apply yL | apply yP | refine yE ?_ GE275.out | refine yE ?_ GE297.out | refine yE ?_ GE306.out | refine yE ?_ GE319.out) | exact HB.out)⟩

end Go.Proofs.Ytgpkkplabnliiaa.PFnExactCutPower
