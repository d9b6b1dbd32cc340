/- Each Go function here comes to what the plain function of its name says, where that says something. Made by a program of this session, over the print. -/
import Derived.Test.YtlfjepcmlgfogaaPFnExactCutBoxx6
namespace Go.Proofs.Ytlfjepcmlgfogaa.PFnExactCutBox
open Go.RowKit Go.Proofs.YtlfjepcmlgfogaaW.PrintWords Go.Proofs.YtlfjepcmlgfogaaW.PrintLast Go.Proofs.YtlfjepcmlgfogaaW.PrintMore
attribute [local go_sem] max2_int min2_int max_two min_two max_three min_three max_four min_four   -- for this text's walks alone
set_option linter.unusedVariables false
set_option linter.unusedSimpArgs false

set_option maxHeartbeats 8000000 in
set_option maxRecDepth 100000 in
def laws_FnExactCutBox.part2 : (R_ : Prop) ×' (Hold_ R_ → laws_FnExactCutBox.part1.1) := PSigma.mk _ fun hR_ => by
  intro k A0_0 c0_0 l0_0 A0_1 c0_1 l0_1 A1_0 c1_0 l1_0 A1_1 c1_1 l1_1 r w hu24 hu26 HR0_0 HC0_0 HR0_1 HC0_1 HR1_0 HC1_0 HR1_1 HC1_1 iq1_1 t181 iq1_2 A3 c4b0 t182 iq1_3 A10 c11b0 t183 t186 iq1_4 A19 t189 t192 iq1_5 A20 t195 t198 t201 iq1_6 A21 t203 t206 iq1_7 A22 t210 t213 H A23 t217 t220 t223 A24 iq1_8 gb179 w26 GW179 GE179 gb180 w27 GW180 GE180 NB179_180 NB180_179 hnb28 hnc28 hcz29_0 hcz29_1 hfz29_0 hfz29_1 w30 hcz31_0 hcz31_1 hfz31_0 hfz31_1 w32 HT_ HW_ w33 iq1_9 v184 v187 v190 v193 gb202 w42 hS_ GW202 GE202 NB179_202 NB202_179 NB180_202 NB202_180 iq1_10 Ao43 co43 Ao45 co45 hs44 hfs44 hns44_0 hns44_1 hms44_0 hms44_1 hs46 hfs46 hns46_0 hns46_1 hms46_0 hms46_1 hHeld hnb47 hnc47 hcz48_0 hcz48_1 hfz48_0 hfz48_1 w49 gb209 w50 GW209 GE209 NB179_209 NB209_179 NB180_209 NB209_180 NB202_209 NB209_202 Ao51 co51 hnb52 hnc52 hnb53 hnc53 hnb54 hnc54 hcz55_0 hcz55_1 hfz55_0 hfz55_1 Ao56 co56 hnb57 hnc57 hcz58_0 hcz58_1 hfz58_0 hfz58_1 w59 gb216 w60 GW216 GE216 NB179_216 NB216_179 NB180_216 NB216_180 NB202_216 NB216_202 NB209_216 NB216_209 Ao61 co61 hnb62 hnc62 hnb63 hnc63 hnb64 hnc64 hnb65 hnc65 hcz66_0 hcz66_1 hfz66_0 hfz66_1 Ao67 co67 hcz68_0 hcz68_1 hfz68_0 hfz68_1 w69 gb224 w70 iq1_11 iq1_12 iq1_13 iq1_14 iq1_15 iq1_16 iq1_17 GW224 GE224 NB179_224 NB224_179 NB180_224 NB224_180 NB202_224 NB224_202 NB209_224 NB224_209 NB216_224 NB224_216 Ao71 co71 hnb72 hnc72 hnb73 hnc73 hnb74 hnc74 hnb75 hnc75 hnb76 hnc76 hcz77_0 hcz77_1 hfz77_0 hfz77_1 Ao78 co78 HO185 HO188 HO191 HO194 HO197 HO200 HO205 HO208 HO212 HO215 HO219 HO222 iq1_18 iq1_19 iq1_20 iq1_21 wc u17 u18 u19 u20 u21 u22 u23 u24 u25 u26 u27 u28 u29 u30 u31 u32 u33 u34 u35 u36 u37 u38 u39 u40 u41 u42 u43 u44 u45 u46 u47 u48 u49 u50 u51 u52 u54 u55 u56 u57 u58 u59 u60 u61 u62 u63 u64 u65 u66 u67 u68 u69 u70 u71 u72 u73 u74 u75 u76 u77 u78 u79 u80 u81 u82 u83 u84 u85 u86 u87 u88 u89 u90 u91 u92 u93 u94 u95 u96 u97 u98 u99 u100 u101 u102 u103 u104 u105 u106 u107 u108 u109 u110 u111 u112 u113 u114 u115 u116 u117 u118 kq x53_24 HA HJ24 HO_203000 HO_203001 HO_210000 HO_210001 HO_217000 HO_217001 HO_225000 HO_225001 BK179 BK180 BK202 BK209 BK216 BK224 HB
  cases kq with
  | zero => exact absurd HA.out (by simp [laws_FnExactCutBox.j0])
  | succ kj24 =>
    have H := HA.out; clear HA
    simp only [laws_FnExactCutBox.j0] at H
    by_cases c105 : x53_24 = true
    · subst c105
      have H1 : (some false) = some r := by rw [if_pos rfl] at H; exact H
      clear H; have H := H1; clear H1; obtain rfl := Option.some.inj H
      go_wp2
      go_ret
      exact ⟨by first | rfl | (simp <;> rfl) | (simp [*] <;> rfl), by repeat (first | (with_reducible first | exact HB.out | apply yQ | apply yL | apply yP | refine yE ?_ GE179.out | refine yE ?_ GE180.out | refine yE ?_ GE202.out | refine yE ?_ GE209.out | refine yE ?_ GE216.out | refine yE ?_ GE224.out) | exact HB.out)⟩
    · replace c105 := Bool.eq_false_iff.mpr c105
      subst c105
      have H1 : ((laws_toBox.f kj24 l0_0 l0_1).bind fun bt226 => ((laws_eqBox.f kj24 t203 t206 bt226.1 bt226.2).bind fun t232 => (if t232 = true then ((laws_toBox.f kj24 l1_0 l1_1).bind fun bt233 => ((laws_eqBox.f kj24 t210 t213 bt233.1 bt233.2).bind fun t239 => (if t239 = true then ((laws_markBox.f kj24 t203 t206 1).bind fun bt240 => ((laws_markBox.f kj24 t210 t213 bt240.1).bind fun bt243 => (if bt243.1 < 0 then (laws_FnExactCutBox.j1 kj24 t201 true l0_0 l0_1 l1_0 l1_1 t195 t198 t217 t220) else ((laws_eqBox.f kj24 t217 t220 t195 t198).bind fun t246 => (if t246 = true then (laws_FnExactCutBox.j1 kj24 t201 (t223 != t201) l0_0 l0_1 l1_0 l1_1 t195 t198 t217 t220) else (laws_FnExactCutBox.j1 kj24 t201 true l0_0 l0_1 l1_0 l1_1 t195 t198 t217 t220)))))) else (some false)))) else (some false)))) = some r := by rw [if_neg (show ¬ (false = true) by decide)] at H; exact H
      clear H; have H := H1; clear H1
      obtain ⟨⟨t226, t229⟩, A1060, H⟩ := zW_ H
      replace H : ((laws_eqBox.f kj24 t203 t206 t226 t229).bind fun t232 => (if t232 = true then ((laws_toBox.f kj24 l1_0 l1_1).bind fun bt233 => ((laws_eqBox.f kj24 t210 t213 bt233.1 bt233.2).bind fun t239 => (if t239 = true then ((laws_markBox.f kj24 t203 t206 1).bind fun bt240 => ((laws_markBox.f kj24 t210 t213 bt240.1).bind fun bt243 => (if bt243.1 < 0 then (laws_FnExactCutBox.j1 kj24 t201 true l0_0 l0_1 l1_0 l1_1 t195 t198 t217 t220) else ((laws_eqBox.f kj24 t217 t220 t195 t198).bind fun t246 => (if t246 = true then (laws_FnExactCutBox.j1 kj24 t201 (t223 != t201) l0_0 l0_1 l1_0 l1_1 t195 t198 t217 t220) else (laws_FnExactCutBox.j1 kj24 t201 true l0_0 l0_1 l1_0 l1_1 t195 t198 t217 t220)))))) else (some false)))) else (some false))) = some r := H
      have A106 := yD A1060
      clear A1060
      obtain ⟨t232, A1070, H⟩ := zW_ H
      replace H : (if t232 = true then ((laws_toBox.f kj24 l1_0 l1_1).bind fun bt233 => ((laws_eqBox.f kj24 t210 t213 bt233.1 bt233.2).bind fun t239 => (if t239 = true then ((laws_markBox.f kj24 t203 t206 1).bind fun bt240 => ((laws_markBox.f kj24 t210 t213 bt240.1).bind fun bt243 => (if bt243.1 < 0 then (laws_FnExactCutBox.j1 kj24 t201 true l0_0 l0_1 l1_0 l1_1 t195 t198 t217 t220) else ((laws_eqBox.f kj24 t217 t220 t195 t198).bind fun t246 => (if t246 = true then (laws_FnExactCutBox.j1 kj24 t201 (t223 != t201) l0_0 l0_1 l1_0 l1_1 t195 t198 t217 t220) else (laws_FnExactCutBox.j1 kj24 t201 true l0_0 l0_1 l1_0 l1_1 t195 t198 t217 t220)))))) else (some false)))) else (some false)) = some r := H
      have A107 := yD A1070
      clear A1070
      by_cases c108 : t232 = true
      · subst c108
        have H1 : ((laws_toBox.f kj24 l1_0 l1_1).bind fun bt233 => ((laws_eqBox.f kj24 t210 t213 bt233.1 bt233.2).bind fun t239 => (if t239 = true then ((laws_markBox.f kj24 t203 t206 1).bind fun bt240 => ((laws_markBox.f kj24 t210 t213 bt240.1).bind fun bt243 => (if bt243.1 < 0 then (laws_FnExactCutBox.j1 kj24 t201 true l0_0 l0_1 l1_0 l1_1 t195 t198 t217 t220) else ((laws_eqBox.f kj24 t217 t220 t195 t198).bind fun t246 => (if t246 = true then (laws_FnExactCutBox.j1 kj24 t201 (t223 != t201) l0_0 l0_1 l1_0 l1_1 t195 t198 t217 t220) else (laws_FnExactCutBox.j1 kj24 t201 true l0_0 l0_1 l1_0 l1_1 t195 t198 t217 t220)))))) else (some false)))) = some r := by rw [if_pos rfl] at H; exact H
        clear H; have H := H1; clear H1
        obtain ⟨⟨t233, t236⟩, A1090, H⟩ := zW_ H
        replace H : ((laws_eqBox.f kj24 t210 t213 t233 t236).bind fun t239 => (if t239 = true then ((laws_markBox.f kj24 t203 t206 1).bind fun bt240 => ((laws_markBox.f kj24 t210 t213 bt240.1).bind fun bt243 => (if bt243.1 < 0 then (laws_FnExactCutBox.j1 kj24 t201 true l0_0 l0_1 l1_0 l1_1 t195 t198 t217 t220) else ((laws_eqBox.f kj24 t217 t220 t195 t198).bind fun t246 => (if t246 = true then (laws_FnExactCutBox.j1 kj24 t201 (t223 != t201) l0_0 l0_1 l1_0 l1_1 t195 t198 t217 t220) else (laws_FnExactCutBox.j1 kj24 t201 true l0_0 l0_1 l1_0 l1_1 t195 t198 t217 t220)))))) else (some false))) = some r := H
        have A109 := yD A1090
        clear A1090
        obtain ⟨t239, A1100, H⟩ := zW_ H
        replace H : (if t239 = true then ((laws_markBox.f kj24 t203 t206 1).bind fun bt240 => ((laws_markBox.f kj24 t210 t213 bt240.1).bind fun bt243 => (if bt243.1 < 0 then (laws_FnExactCutBox.j1 kj24 t201 true l0_0 l0_1 l1_0 l1_1 t195 t198 t217 t220) else ((laws_eqBox.f kj24 t217 t220 t195 t198).bind fun t246 => (if t246 = true then (laws_FnExactCutBox.j1 kj24 t201 (t223 != t201) l0_0 l0_1 l1_0 l1_1 t195 t198 t217 t220) else (laws_FnExactCutBox.j1 kj24 t201 true l0_0 l0_1 l1_0 l1_1 t195 t198 t217 t220)))))) else (some false)) = some r := H
        have A110 := yD A1100
        clear A1100
        by_cases c111 : t239 = true
        · subst c111
          have H1 : ((laws_markBox.f kj24 t203 t206 1).bind fun bt240 => ((laws_markBox.f kj24 t210 t213 bt240.1).bind fun bt243 => (if bt243.1 < 0 then (laws_FnExactCutBox.j1 kj24 t201 true l0_0 l0_1 l1_0 l1_1 t195 t198 t217 t220) else ((laws_eqBox.f kj24 t217 t220 t195 t198).bind fun t246 => (if t246 = true then (laws_FnExactCutBox.j1 kj24 t201 (t223 != t201) l0_0 l0_1 l1_0 l1_1 t195 t198 t217 t220) else (laws_FnExactCutBox.j1 kj24 t201 true l0_0 l0_1 l1_0 l1_1 t195 t198 t217 t220)))))) = some r := by rw [if_pos rfl] at H; exact H
          clear H; have H := H1; clear H1
          obtain ⟨⟨t240, t241, t242⟩, A1120, H⟩ := zW_ H
          replace H : ((laws_markBox.f kj24 t210 t213 t240).bind fun bt243 => (if bt243.1 < 0 then (laws_FnExactCutBox.j1 kj24 t201 true l0_0 l0_1 l1_0 l1_1 t195 t198 t217 t220) else ((laws_eqBox.f kj24 t217 t220 t195 t198).bind fun t246 => (if t246 = true then (laws_FnExactCutBox.j1 kj24 t201 (t223 != t201) l0_0 l0_1 l1_0 l1_1 t195 t198 t217 t220) else (laws_FnExactCutBox.j1 kj24 t201 true l0_0 l0_1 l1_0 l1_1 t195 t198 t217 t220))))) = some r := H
          have A112 := yD A1120
          clear A1120
          obtain ⟨⟨t243, t244, t245⟩, A1130, H⟩ := zW_ H
          replace H : (if t243 < 0 then (laws_FnExactCutBox.j1 kj24 t201 true l0_0 l0_1 l1_0 l1_1 t195 t198 t217 t220) else ((laws_eqBox.f kj24 t217 t220 t195 t198).bind fun t246 => (if t246 = true then (laws_FnExactCutBox.j1 kj24 t201 (t223 != t201) l0_0 l0_1 l1_0 l1_1 t195 t198 t217 t220) else (laws_FnExactCutBox.j1 kj24 t201 true l0_0 l0_1 l1_0 l1_1 t195 t198 t217 t220)))) = some r := H
          have A113 := yD A1130
          clear A1130
          have HC114 := yD H
          clear H
          try go_wp2
          have n0_ := yD (yC HO_203000.out)
          have n1_ := yD (yC HO_203001.out)
          have n2_ := yD (yC HO_210000.out)
          have n3_ := yD (yC HO_210001.out)
          have n4_ := yD (yC HO_217000.out)
          have n5_ := yD (yC HO_217001.out)
          have n6_ := yD (yC HO_225000.out)
          have n7_ := yD (yC HO_225001.out)
          have n8_ := yD (yO BK179.out)
          have n9_ := yD (yO BK180.out)
          have n10_ := yD (yO BK202.out)
          have n11_ := yD (yO BK209.out)
          have n12_ := yD (yO BK216.out)
          have n13_ := yD (yO BK224.out)
          have n14_ := yD (yP HB.out)
          clear HO_203000 HO_203001 HO_210000 HO_210001 HO_217000 HO_217001 HO_225000 HO_225001 BK179 BK180 BK202 BK209 BK216 BK224 HB; have HO_203000 := n0_; have HO_203001 := n1_; have HO_210000 := n2_; have HO_210001 := n3_; have HO_217000 := n4_; have HO_217001 := n5_; have HO_225000 := n6_; have HO_225001 := n7_; have BK179 := n8_; have BK180 := n9_; have BK202 := n10_; have BK209 := n11_; have BK216 := n12_; have BK224 := n13_; have HB := n14_; clear n0_ n1_ n2_ n3_ n4_ n5_ n6_ n7_ n8_ n9_ n10_ n11_ n12_ n13_ n14_
          refine start_ (n := 5) (S := fun w' => w'.cell? ⟨gb209, 0, none⟩ = some (.slice Ao51 t203.length co51) ∧ w'.cell? ⟨gb209, 1, none⟩ = some (.slice Ao56 t206.length co56) ∧ w'.cell? ⟨gb179, 0, none⟩ = some (.slice A0_0 l0_0.length c0_0) ∧ w'.cell? ⟨gb179, 1, none⟩ = some (.slice A0_1 l0_1.length c0_1)) (ds := []) (bz 5 0) (by kernel_rfl) rfl rfl ⟨(yG BK209.out 0).trans rfl, (yG BK209.out 1).trans rfl, (yG BK179.out 0).trans rfl, (yG BK179.out 1).trans rfl⟩ (fun hHeld => ?_)
          generalize wc.drew = w115 at HO_203000 HO_203001 HO_210000 HO_210001 HO_217000 HO_217001 HO_225000 HO_225001 BK179 BK180 BK202 BK209 BK216 BK224 HB hHeld ⊢
          refine pC 0 54 (bz 5 1) rfl rfl (by kernel_rfl) (fun _ _ _ h => h) (by rfl) hHeld (by rintro w' ⟨s0, s1, s2, s3⟩; go_simp; with_reducible rfl) (by simp only [Act.put, zH, zI, zJ, i64_w, i32_w]; rfl) ?_
          refine pC 1 55 (bz 5 3) rfl rfl (by kernel_rfl) (fun _ _ _ h => h) (by rfl) hHeld (by rintro w' ⟨s0, s1, s2, s3⟩; go_simp; with_reducible rfl) (by simp only [Act.put, zH, zI, zJ, i64_w, i32_w]; rfl) ?_
          refine one_ (i := 2) (N := some 56) (bz 5 7) rfl rfl (by kernel_rfl) (by decide) (fun K hK => ?_)
          refine goes_ Try.func8 (by kernel_rfl) rfl #[.agg #[.slice A0_0 l0_0.length c0_0, .slice A0_1 l0_1.length c0_1]] (by rfl) rfl rfl (by (try simp only [zK, zL, zM]); first | done | rfl | (simp only [zN, zO]; rfl)) ?_
          with_reducible refine (laws_toBox.calls kj24 _ _ l0_0 _ _ l0_1 t226 t229 _ ?side1 ?side2 ?side3 ?side4 A106.out).mono ?_
          (case side1 => exact kV (yY HR0_0.out HB.out))
          (case side2 => exact HC0_0.out)
          (case side3 => exact kV (yY HR0_1.out HB.out))
          (case side4 => exact HC0_1.out)
          rintro e w116 ⟨v227, v230, rfl, ho0, ho1, hb⟩
          refine ⟨_, rfl, ?_⟩
          have n0_ := yD (zF (yI (yI (Kd.R_old (kA HO_203000) hb) (yH ho0)) (yH ho1)) (fun _ h_ => h_.1))
          have n1_ := yD (zF (yI (yI (Kd.R_old (kA HO_203001) hb) (yH ho0)) (yH ho1)) (fun _ h_ => h_.1))
          have n2_ := yD (zF (yI (yI (Kd.R_old (kA HO_210000) hb) (yH ho0)) (yH ho1)) (fun _ h_ => h_.1))
          have n3_ := yD (zF (yI (yI (Kd.R_old (kA HO_210001) hb) (yH ho0)) (yH ho1)) (fun _ h_ => h_.1))
          have n4_ := yD (zF (yI (yI (Kd.R_old (kA HO_217000) hb) (yH ho0)) (yH ho1)) (fun _ h_ => h_.1))
          have n5_ := yD (zF (yI (yI (Kd.R_old (kA HO_217001) hb) (yH ho0)) (yH ho1)) (fun _ h_ => h_.1))
          have n6_ := yD (zF (yI (yI (Kd.R_old (kA HO_225000) hb) (yH ho0)) (yH ho1)) (fun _ h_ => h_.1))
          have n7_ := yD (zF (yI (yI (Kd.R_old (kA HO_225001) hb) (yH ho0)) (yH ho1)) (fun _ h_ => h_.1))
          have n8_ := yD (yZ (yJ (yJ (yJ (yJ (yJ (yJ (yJ (yJ ho0 (yK (kA HO_203000))) (yK (kA HO_203001))) (yK (kA HO_210000))) (yK (kA HO_210001))) (yK (kA HO_217000))) (yK (kA HO_217001))) (yK (kA HO_225000))) (yK (kA HO_225001))) (below_size (kB HB)))
          have n9_ := yD (yZ (yJ (yJ (yJ (yJ (yJ (yJ (yJ (yJ ho1 (yK (kA HO_203000))) (yK (kA HO_203001))) (yK (kA HO_210000))) (yK (kA HO_210001))) (yK (kA HO_217000))) (yK (kA HO_217001))) (yK (kA HO_225000))) (yK (kA HO_225001))) (below_size (kB HB)))
          have n10_ := yD (zB (g := gb179) (o := .cells #[.slice A0_0 l0_0.length c0_0, .slice A0_1 l0_1.length c0_1] 24 (0, 0)) (kM BK179) hb)
          have n11_ := yD (zB (g := gb180) (o := .cells #[.slice A1_0 l1_0.length c1_0, .slice A1_1 l1_1.length c1_1] 24 (0, 0)) (kM BK180) hb)
          have n12_ := yD (zB (g := gb202) (o := .cells #[.slice Ao43 t195.length co43, .slice Ao45 t198.length co45] 26 (0, 0)) (kM BK202) hb)
          have n13_ := yD (zB (g := gb209) (o := .cells #[.slice Ao51 t203.length co51, .slice Ao56 t206.length co56] 26 (0, 0)) (kM BK209) hb)
          have n14_ := yD (zB (g := gb216) (o := .cells #[.slice Ao61 t210.length co61, .slice Ao67 t213.length co67] 26 (0, 0)) (kM BK216) hb)
          have n15_ := yD (zB (g := gb224) (o := .cells #[.slice Ao71 t217.length co71, .slice Ao78 t220.length co78] 26 (0, 0)) (kM BK224) hb)
          have n16_ := yD (zC (kB HB) hb)
          clear HO_203000 HO_203001 HO_210000 HO_210001 HO_217000 HO_217001 HO_225000 HO_225001 BK179 BK180 BK202 BK209 BK216 BK224 HB; have HO_203000 := n0_; have HO_203001 := n1_; have HO_210000 := n2_; have HO_210001 := n3_; have HO_217000 := n4_; have HO_217001 := n5_; have HO_225000 := n6_; have HO_225001 := n7_; have HO228 := n8_; have HO231 := n9_; have BK179 := n10_; have BK180 := n11_; have BK202 := n12_; have BK209 := n13_; have BK216 := n14_; have BK224 := n15_; have HB := n16_; clear n0_ n1_ n2_ n3_ n4_ n5_ n6_ n7_ n8_ n9_ n10_ n11_ n12_ n13_ n14_ n15_ n16_; (try clear hb); (try clear hb2); (try clear hk); (try clear hi); (try clear ho0); (try clear ho1)
          obtain ⟨Ao117, co117, eo117⟩ := Kd.R_slice HO228.out
          (first | subst eo117 | (injection eo117 with f1_ f2_ f3_; have f4_ := f1_.symm; have f5_ := f3_.symm; clear f1_ f2_ f3_; subst f4_; subst f5_))
          obtain ⟨Ao118, co118, eo118⟩ := Kd.R_slice HO231.out
          (first | subst eo118 | (injection eo118 with f1_ f2_ f3_; have f4_ := f1_.symm; have f5_ := f3_.symm; clear f1_ f2_ f3_; subst f4_; subst f5_))
          refine hK.out _ _ ⟨(yG BK209.out 0).trans rfl, (yG BK209.out 1).trans rfl, (yG BK179.out 0).trans rfl, (yG BK179.out 1).trans rfl⟩ (fun hHeld => ?_)
          clear hK K
          refine norm_ (a' := ?_) ?_ ?_
          rotate_left
          · show Act.put _ (some 56) _ = _
            simp only [Act.put, zH, zI, zJ, i64_w, i32_w]
            rfl
          refine one_ (i := 3) (N := some 57) (bz 5 15) rfl rfl (by kernel_rfl) (by decide) (fun K hK => ?_)
          refine goes_ Try.func10 (by kernel_rfl) rfl #[.agg #[.slice Ao51 t203.length co51, .slice Ao56 t206.length co56], .agg #[.slice Ao117 t226.length co117, .slice Ao118 t229.length co118]] (by rfl) rfl rfl (by (try simp only [zK, zL, zM]); first | done | rfl | (simp only [zN, zO]; rfl)) ?_
          with_reducible refine (laws_eqBox.calls kj24 _ _ t203 _ _ t206 _ _ t226 _ _ t229 true _ ?side1 ?side2 ?side3 ?side4 ?side5 ?side6 ?side7 ?side8 A107.out).mono ?_
          (case side1 => exact kV (zA HO_210000.out).2.2)
          (case side2 => exact (zA HO_210000.out).2.1)
          (case side3 => exact kV (zA HO_210001.out).2.2)
          (case side4 => exact (zA HO_210001.out).2.1)
          (case side5 => exact kV (zA HO228.out).2.2)
          (case side6 => exact (zA HO228.out).2.1)
          (case side7 => exact kV (zA HO231.out).2.2)
          (case side8 => exact (zA HO231.out).2.1)
          rintro e w119 ⟨rfl, hb⟩
          refine ⟨_, rfl, ?_⟩
          have n0_ := yD (zE (kA HO_203000) hb)
          have n1_ := yD (zE (kA HO_203001) hb)
          have n2_ := yD (zE (kA HO_210000) hb)
          have n3_ := yD (zE (kA HO_210001) hb)
          have n4_ := yD (zE (kA HO_217000) hb)
          have n5_ := yD (zE (kA HO_217001) hb)
          have n6_ := yD (zE (kA HO_225000) hb)
          have n7_ := yD (zE (kA HO_225001) hb)
          have n8_ := yD (zE (kA HO228) hb)
          have n9_ := yD (zE (kA HO231) hb)
          have n10_ := yD (zB (g := gb179) (o := .cells #[.slice A0_0 l0_0.length c0_0, .slice A0_1 l0_1.length c0_1] 24 (0, 0)) (kM BK179) hb)
          have n11_ := yD (zB (g := gb180) (o := .cells #[.slice A1_0 l1_0.length c1_0, .slice A1_1 l1_1.length c1_1] 24 (0, 0)) (kM BK180) hb)
          have n12_ := yD (zB (g := gb202) (o := .cells #[.slice Ao43 t195.length co43, .slice Ao45 t198.length co45] 26 (0, 0)) (kM BK202) hb)
          have n13_ := yD (zB (g := gb209) (o := .cells #[.slice Ao51 t203.length co51, .slice Ao56 t206.length co56] 26 (0, 0)) (kM BK209) hb)
          have n14_ := yD (zB (g := gb216) (o := .cells #[.slice Ao61 t210.length co61, .slice Ao67 t213.length co67] 26 (0, 0)) (kM BK216) hb)
          have n15_ := yD (zB (g := gb224) (o := .cells #[.slice Ao71 t217.length co71, .slice Ao78 t220.length co78] 26 (0, 0)) (kM BK224) hb)
          have n16_ := yD (zC (kB HB) hb)
          clear HO_203000 HO_203001 HO_210000 HO_210001 HO_217000 HO_217001 HO_225000 HO_225001 HO228 HO231 BK179 BK180 BK202 BK209 BK216 BK224 HB; have HO_203000 := n0_; have HO_203001 := n1_; have HO_210000 := n2_; have HO_210001 := n3_; have HO_217000 := n4_; have HO_217001 := n5_; have HO_225000 := n6_; have HO_225001 := n7_; have HO228 := n8_; have HO231 := n9_; have BK179 := n10_; have BK180 := n11_; have BK202 := n12_; have BK209 := n13_; have BK216 := n14_; have BK224 := n15_; have HB := n16_; clear n0_ n1_ n2_ n3_ n4_ n5_ n6_ n7_ n8_ n9_ n10_ n11_ n12_ n13_ n14_ n15_ n16_; (try clear hb); (try clear hb2); (try clear hk); (try clear hi)
          refine hK.out _ _ ⟨(yG BK209.out 0).trans rfl, (yG BK209.out 1).trans rfl, (yG BK179.out 0).trans rfl, (yG BK179.out 1).trans rfl⟩ (fun hHeld => ?_)
          clear hK K
          refine norm_ (a' := ?_) ?_ ?_
          rotate_left
          · show Act.put _ (some 57) _ = _
            simp only [Act.put, zH, zI, zJ, i64_w, i32_w]
            rfl
          refine pA 4 58 (bz 5 31) rfl rfl (by kernel_rfl) (fun _ _ _ h => h) (by rfl) (fun _ => by go_simp; with_reducible rfl) (by simp only [Act.put, zH, zI, zJ, i64_w, i32_w]; rfl) ?_
          refine done_ (by kernel_rfl) ?_
          try go_wp2
          have n0_ := yD (yC HO_203000.out)
          have n1_ := yD (yC HO_203001.out)
          have n2_ := yD (yC HO_210000.out)
          have n3_ := yD (yC HO_210001.out)
          have n4_ := yD (yC HO_217000.out)
          have n5_ := yD (yC HO_217001.out)
          have n6_ := yD (yC HO_225000.out)
          have n7_ := yD (yC HO_225001.out)
          have n8_ := yD (yC HO228.out)
          have n9_ := yD (yC HO231.out)
          have n10_ := yD (yO BK179.out)
          have n11_ := yD (yO BK180.out)
          have n12_ := yD (yO BK202.out)
          have n13_ := yD (yO BK209.out)
          have n14_ := yD (yO BK216.out)
          have n15_ := yD (yO BK224.out)
          have n16_ := yD (yP HB.out)
          clear HO_203000 HO_203001 HO_210000 HO_210001 HO_217000 HO_217001 HO_225000 HO_225001 HO228 HO231 BK179 BK180 BK202 BK209 BK216 BK224 HB; have HO_203000 := n0_; have HO_203001 := n1_; have HO_210000 := n2_; have HO_210001 := n3_; have HO_217000 := n4_; have HO_217001 := n5_; have HO_225000 := n6_; have HO_225001 := n7_; have HO228 := n8_; have HO231 := n9_; have BK179 := n10_; have BK180 := n11_; have BK202 := n12_; have BK209 := n13_; have BK216 := n14_; have BK224 := n15_; have HB := n16_; clear n0_ n1_ n2_ n3_ n4_ n5_ n6_ n7_ n8_ n9_ n10_ n11_ n12_ n13_ n14_ n15_ n16_
          refine start_ (n := 5) (S := fun w' => w'.cell? ⟨gb216, 0, none⟩ = some (.slice Ao61 t210.length co61) ∧ w'.cell? ⟨gb216, 1, none⟩ = some (.slice Ao67 t213.length co67) ∧ w'.cell? ⟨gb180, 0, none⟩ = some (.slice A1_0 l1_0.length c1_0) ∧ w'.cell? ⟨gb180, 1, none⟩ = some (.slice A1_1 l1_1.length c1_1)) (ds := []) (bz 5 0) (by kernel_rfl) rfl rfl ⟨(yG BK216.out 0).trans rfl, (yG BK216.out 1).trans rfl, (yG BK180.out 0).trans rfl, (yG BK180.out 1).trans rfl⟩ (fun hHeld => ?_)
          generalize w119.drew = w120 at HO_203000 HO_203001 HO_210000 HO_210001 HO_217000 HO_217001 HO_225000 HO_225001 HO228 HO231 BK179 BK180 BK202 BK209 BK216 BK224 HB hHeld ⊢
          refine pC 0 59 (bz 5 1) rfl rfl (by kernel_rfl) (fun _ _ _ h => h) (by rfl) hHeld (by rintro w' ⟨s0, s1, s2, s3⟩; go_simp; with_reducible rfl) (by simp only [Act.put, zH, zI, zJ, i64_w, i32_w]; rfl) ?_
          refine pC 1 60 (bz 5 3) rfl rfl (by kernel_rfl) (fun _ _ _ h => h) (by rfl) hHeld (by rintro w' ⟨s0, s1, s2, s3⟩; go_simp; with_reducible rfl) (by simp only [Act.put, zH, zI, zJ, i64_w, i32_w]; rfl) ?_
          refine one_ (i := 2) (N := some 61) (bz 5 7) rfl rfl (by kernel_rfl) (by decide) (fun K hK => ?_)
          refine goes_ Try.func8 (by kernel_rfl) rfl #[.agg #[.slice A1_0 l1_0.length c1_0, .slice A1_1 l1_1.length c1_1]] (by rfl) rfl rfl (by (try simp only [zK, zL, zM]); first | done | rfl | (simp only [zN, zO]; rfl)) ?_
          with_reducible refine (laws_toBox.calls kj24 _ _ l1_0 _ _ l1_1 t233 t236 _ ?side1 ?side2 ?side3 ?side4 A109.out).mono ?_
          (case side1 => exact kV (yY HR1_0.out HB.out))
          (case side2 => exact HC1_0.out)
          (case side3 => exact kV (yY HR1_1.out HB.out))
          (case side4 => exact HC1_1.out)
          rintro e w121 ⟨v234, v237, rfl, ho0, ho1, hb⟩
          refine ⟨_, rfl, ?_⟩
          have n0_ := yD (zF (yI (yI (Kd.R_old (kA HO_203000) hb) (yH ho0)) (yH ho1)) (fun _ h_ => h_.1))
          have n1_ := yD (zF (yI (yI (Kd.R_old (kA HO_203001) hb) (yH ho0)) (yH ho1)) (fun _ h_ => h_.1))
          have n2_ := yD (zF (yI (yI (Kd.R_old (kA HO_210000) hb) (yH ho0)) (yH ho1)) (fun _ h_ => h_.1))
          have n3_ := yD (zF (yI (yI (Kd.R_old (kA HO_210001) hb) (yH ho0)) (yH ho1)) (fun _ h_ => h_.1))
          have n4_ := yD (zF (yI (yI (Kd.R_old (kA HO_217000) hb) (yH ho0)) (yH ho1)) (fun _ h_ => h_.1))
          have n5_ := yD (zF (yI (yI (Kd.R_old (kA HO_217001) hb) (yH ho0)) (yH ho1)) (fun _ h_ => h_.1))
          have n6_ := yD (zF (yI (yI (Kd.R_old (kA HO_225000) hb) (yH ho0)) (yH ho1)) (fun _ h_ => h_.1))
          have n7_ := yD (zF (yI (yI (Kd.R_old (kA HO_225001) hb) (yH ho0)) (yH ho1)) (fun _ h_ => h_.1))
          have n8_ := yD (zF (yI (yI (Kd.R_old (kA HO228) hb) (yH ho0)) (yH ho1)) (fun _ h_ => h_.1))
          have n9_ := yD (zF (yI (yI (Kd.R_old (kA HO231) hb) (yH ho0)) (yH ho1)) (fun _ h_ => h_.1))
          have n10_ := yD (yZ (yJ (yJ (yJ (yJ (yJ (yJ (yJ (yJ (yJ (yJ ho0 (yK (kA HO_203000))) (yK (kA HO_203001))) (yK (kA HO_210000))) (yK (kA HO_210001))) (yK (kA HO_217000))) (yK (kA HO_217001))) (yK (kA HO_225000))) (yK (kA HO_225001))) (yK (kA HO228))) (yK (kA HO231))) (below_size (kB HB)))
          have n11_ := yD (yZ (yJ (yJ (yJ (yJ (yJ (yJ (yJ (yJ (yJ (yJ ho1 (yK (kA HO_203000))) (yK (kA HO_203001))) (yK (kA HO_210000))) (yK (kA HO_210001))) (yK (kA HO_217000))) (yK (kA HO_217001))) (yK (kA HO_225000))) (yK (kA HO_225001))) (yK (kA HO228))) (yK (kA HO231))) (below_size (kB HB)))
          have n12_ := yD (zB (g := gb179) (o := .cells #[.slice A0_0 l0_0.length c0_0, .slice A0_1 l0_1.length c0_1] 24 (0, 0)) (kM BK179) hb)
          have n13_ := yD (zB (g := gb180) (o := .cells #[.slice A1_0 l1_0.length c1_0, .slice A1_1 l1_1.length c1_1] 24 (0, 0)) (kM BK180) hb)
          have n14_ := yD (zB (g := gb202) (o := .cells #[.slice Ao43 t195.length co43, .slice Ao45 t198.length co45] 26 (0, 0)) (kM BK202) hb)
          have n15_ := yD (zB (g := gb209) (o := .cells #[.slice Ao51 t203.length co51, .slice Ao56 t206.length co56] 26 (0, 0)) (kM BK209) hb)
          have n16_ := yD (zB (g := gb216) (o := .cells #[.slice Ao61 t210.length co61, .slice Ao67 t213.length co67] 26 (0, 0)) (kM BK216) hb)
          have n17_ := yD (zB (g := gb224) (o := .cells #[.slice Ao71 t217.length co71, .slice Ao78 t220.length co78] 26 (0, 0)) (kM BK224) hb)
          have n18_ := yD (zC (kB HB) hb)
          clear HO_203000 HO_203001 HO_210000 HO_210001 HO_217000 HO_217001 HO_225000 HO_225001 HO228 HO231 BK179 BK180 BK202 BK209 BK216 BK224 HB; have HO_203000 := n0_; have HO_203001 := n1_; have HO_210000 := n2_; have HO_210001 := n3_; have HO_217000 := n4_; have HO_217001 := n5_; have HO_225000 := n6_; have HO_225001 := n7_; have HO228 := n8_; have HO231 := n9_; have HO235 := n10_; have HO238 := n11_; have BK179 := n12_; have BK180 := n13_; have BK202 := n14_; have BK209 := n15_; have BK216 := n16_; have BK224 := n17_; have HB := n18_; clear n0_ n1_ n2_ n3_ n4_ n5_ n6_ n7_ n8_ n9_ n10_ n11_ n12_ n13_ n14_ n15_ n16_ n17_ n18_; (try clear hb); (try clear hb2); (try clear hk); (try clear hi); (try clear ho0); (try clear ho1)
          obtain ⟨Ao122, co122, eo122⟩ := Kd.R_slice HO235.out
          (first | subst eo122 | (injection eo122 with f1_ f2_ f3_; have f4_ := f1_.symm; have f5_ := f3_.symm; clear f1_ f2_ f3_; subst f4_; subst f5_))
          obtain ⟨Ao123, co123, eo123⟩ := Kd.R_slice HO238.out
          (first | subst eo123 | (injection eo123 with f1_ f2_ f3_; have f4_ := f1_.symm; have f5_ := f3_.symm; clear f1_ f2_ f3_; subst f4_; subst f5_))
          refine hK.out _ _ ⟨(yG BK216.out 0).trans rfl, (yG BK216.out 1).trans rfl, (yG BK180.out 0).trans rfl, (yG BK180.out 1).trans rfl⟩ (fun hHeld => ?_)
          clear hK K
          refine norm_ (a' := ?_) ?_ ?_
          rotate_left
          · show Act.put _ (some 61) _ = _
            simp only [Act.put, zH, zI, zJ, i64_w, i32_w]
            rfl
          refine one_ (i := 3) (N := some 62) (bz 5 15) rfl rfl (by kernel_rfl) (by decide) (fun K hK => ?_)
          refine goes_ Try.func10 (by kernel_rfl) rfl #[.agg #[.slice Ao61 t210.length co61, .slice Ao67 t213.length co67], .agg #[.slice Ao122 t233.length co122, .slice Ao123 t236.length co123]] (by rfl) rfl rfl (by (try simp only [zK, zL, zM]); first | done | rfl | (simp only [zN, zO]; rfl)) ?_
          with_reducible refine (laws_eqBox.calls kj24 _ _ t210 _ _ t213 _ _ t233 _ _ t236 true _ ?side1 ?side2 ?side3 ?side4 ?side5 ?side6 ?side7 ?side8 A110.out).mono ?_
          (case side1 => exact kV (zA HO_217000.out).2.2)
          (case side2 => exact (zA HO_217000.out).2.1)
          (case side3 => exact kV (zA HO_217001.out).2.2)
          (case side4 => exact (zA HO_217001.out).2.1)
          (case side5 => exact kV (zA HO235.out).2.2)
          (case side6 => exact (zA HO235.out).2.1)
          (case side7 => exact kV (zA HO238.out).2.2)
          (case side8 => exact (zA HO238.out).2.1)
          rintro e w124 ⟨rfl, hb⟩
          refine ⟨_, rfl, ?_⟩
          have n0_ := yD (zE (kA HO_203000) hb)
          have n1_ := yD (zE (kA HO_203001) hb)
          have n2_ := yD (zE (kA HO_210000) hb)
          have n3_ := yD (zE (kA HO_210001) hb)
          have n4_ := yD (zE (kA HO_217000) hb)
          have n5_ := yD (zE (kA HO_217001) hb)
          have n6_ := yD (zE (kA HO_225000) hb)
          have n7_ := yD (zE (kA HO_225001) hb)
          have n8_ := yD (zE (kA HO228) hb)
          have n9_ := yD (zE (kA HO231) hb)
          have n10_ := yD (zE (kA HO235) hb)
          have n11_ := yD (zE (kA HO238) hb)
          have n12_ := yD (zB (g := gb179) (o := .cells #[.slice A0_0 l0_0.length c0_0, .slice A0_1 l0_1.length c0_1] 24 (0, 0)) (kM BK179) hb)
          have n13_ := yD (zB (g := gb180) (o := .cells #[.slice A1_0 l1_0.length c1_0, .slice A1_1 l1_1.length c1_1] 24 (0, 0)) (kM BK180) hb)
          have n14_ := yD (zB (g := gb202) (o := .cells #[.slice Ao43 t195.length co43, .slice Ao45 t198.length co45] 26 (0, 0)) (kM BK202) hb)
          have n15_ := yD (zB (g := gb209) (o := .cells #[.slice Ao51 t203.length co51, .slice Ao56 t206.length co56] 26 (0, 0)) (kM BK209) hb)
          have n16_ := yD (zB (g := gb216) (o := .cells #[.slice Ao61 t210.length co61, .slice Ao67 t213.length co67] 26 (0, 0)) (kM BK216) hb)
          have n17_ := yD (zB (g := gb224) (o := .cells #[.slice Ao71 t217.length co71, .slice Ao78 t220.length co78] 26 (0, 0)) (kM BK224) hb)
          have n18_ := yD (zC (kB HB) hb)
          clear HO_203000 HO_203001 HO_210000 HO_210001 HO_217000 HO_217001 HO_225000 HO_225001 HO228 HO231 HO235 HO238 BK179 BK180 BK202 BK209 BK216 BK224 HB; have HO_203000 := n0_; have HO_203001 := n1_; have HO_210000 := n2_; have HO_210001 := n3_; have HO_217000 := n4_; have HO_217001 := n5_; have HO_225000 := n6_; have HO_225001 := n7_; have HO228 := n8_; have HO231 := n9_; have HO235 := n10_; have HO238 := n11_; have BK179 := n12_; have BK180 := n13_; have BK202 := n14_; have BK209 := n15_; have BK216 := n16_; have BK224 := n17_; have HB := n18_; clear n0_ n1_ n2_ n3_ n4_ n5_ n6_ n7_ n8_ n9_ n10_ n11_ n12_ n13_ n14_ n15_ n16_ n17_ n18_; (try clear hb); (try clear hb2); (try clear hk); (try clear hi)
          refine hK.out _ _ ⟨(yG BK216.out 0).trans rfl, (yG BK216.out 1).trans rfl, (yG BK180.out 0).trans rfl, (yG BK180.out 1).trans rfl⟩ (fun hHeld => ?_)
          clear hK K
          refine norm_ (a' := ?_) ?_ ?_
          rotate_left
          · show Act.put _ (some 62) _ = _
            simp only [Act.put, zH, zI, zJ, i64_w, i32_w]
            rfl
          refine pA 4 63 (bz 5 31) rfl rfl (by kernel_rfl) (fun _ _ _ h => h) (by rfl) (fun _ => by go_simp; with_reducible rfl) (by simp only [Act.put, zH, zI, zJ, i64_w, i32_w]; rfl) ?_
          refine done_ (by kernel_rfl) ?_
          have hnb125 := NB209_179.out; have hnc125 := NB179_209.out; have hnb126 := NB209_180.out; have hnc126 := NB180_209.out; have hnb127 := NB209_202.out; have hnc127 := NB202_209.out; have hnb128 := NB209_216.out; have hnc128 := NB216_209.out; have hnb129 := NB209_224.out; have hnc129 := NB224_209.out
          obtain ⟨hcz130_0, hcz130_1⟩ := cz2 BK209.out
          obtain ⟨hfz130_0, hfz130_1⟩ := fz2 BK209.out
          go_upto_region 21 with (first | ((with_reducible refine gate_callee (f := 11) rfl ?_); refine goesL_ (some 66) rfl rfl Try.func11 (by kernel_rfl) rfl #[.agg #[.slice Ao51 t203.length co51, .slice Ao56 t206.length co56], .int .i64 1] rfl (by (try simp only [zK, zL, zM]); first | done | rfl | (simp only [zN, zO]; rfl)) ?_; (with_reducible refine (laws_markBox.calls kj24 (fun k_ => some k_ = (.slice Ao51 t203.length co51 : Value).ownBlock) (.slice Ao51 t203.length co51) t203 (fun k_ => some k_ = (.slice Ao56 t206.length co56 : Value).ownBlock) (.slice Ao56 t206.length co56) t206 1 t240 t241 t242 w _ ?side1 ?side2 ?side3 ?side4 ?side5 A112.out).mono ?_); (case side1 => repeat (first | (with_reducible first | exact HB.out | apply yQ | apply yL | apply yP | refine yE ?_ GE179.out | refine yE ?_ GE180.out | refine yE ?_ GE202.out | refine yE ?_ GE209.out | refine yE ?_ GE216.out | refine yE ?_ GE224.out) | exact HB.out)); (case side2 => exact Kd.R_tight rfl HO_210000.out); (case side3 => exact fun k_ e_ => (HO_210000.out.1 k_ e_.symm).1.1.1.1.2.2.1); (case side4 => exact Kd.R_tight rfl HO_210001.out); (case side5 => exact fun k_ e_ => (HO_210001.out.1 k_ e_.symm).1.1.1.1.2.2.1); rintro e w131 ⟨rfl, hy0, hy1, hb, hkp⟩; refine ⟨_, rfl, ?_⟩; have n0_ := yD (zF (ok' := fun k_ => some k_ ≠ (.slice Ao45 t198.length co45 : Value).ownBlock ∧ some k_ ≠ (.slice Ao51 t203.length co51 : Value).ownBlock ∧ some k_ ≠ (.slice Ao56 t206.length co56 : Value).ownBlock ∧ some k_ ≠ (.slice Ao61 t210.length co61 : Value).ownBlock ∧ some k_ ≠ (.slice Ao67 t213.length co67 : Value).ownBlock ∧ some k_ ≠ (.slice Ao71 t217.length co71 : Value).ownBlock ∧ some k_ ≠ (.slice Ao78 t220.length co78 : Value).ownBlock ∧ some k_ ≠ (.slice Ao117 t226.length co117 : Value).ownBlock ∧ some k_ ≠ (.slice Ao118 t229.length co118 : Value).ownBlock ∧ some k_ ≠ (.slice Ao122 t233.length co122 : Value).ownBlock ∧ some k_ ≠ (.slice Ao123 t236.length co123 : Value).ownBlock) (Kd.R_keptB (HO_203000.out) hkp (fun k_ hk_ hs_ => Or.elim hs_ (fun e_ => (hk_.1.1.1.1.2.1) e_) (fun e_ => (hk_.1.1.1.1.2.2.1) e_))) (fun k_ hk_ => ⟨hk_.1.1.1.1.1.1, hk_.1.1.1.1.1.2.1, hk_.1.1.1.1.1.2.2.1, hk_.1.1.1.1.1.2.2.2.1, hk_.1.1.1.1.1.2.2.2.2.1, hk_.1.1.1.1.1.2.2.2.2.2.1, hk_.1.1.1.1.1.2.2.2.2.2.2, hk_.1.1.1.1.2, hk_.1.1.1.2, hk_.1.1.2, hk_.1.2⟩)); have n1_ := yD (zF (ok' := fun k_ => some k_ ≠ (.slice Ao43 t195.length co43 : Value).ownBlock ∧ some k_ ≠ (.slice Ao51 t203.length co51 : Value).ownBlock ∧ some k_ ≠ (.slice Ao56 t206.length co56 : Value).ownBlock ∧ some k_ ≠ (.slice Ao61 t210.length co61 : Value).ownBlock ∧ some k_ ≠ (.slice Ao67 t213.length co67 : Value).ownBlock ∧ some k_ ≠ (.slice Ao71 t217.length co71 : Value).ownBlock ∧ some k_ ≠ (.slice Ao78 t220.length co78 : Value).ownBlock ∧ some k_ ≠ (.slice Ao117 t226.length co117 : Value).ownBlock ∧ some k_ ≠ (.slice Ao118 t229.length co118 : Value).ownBlock ∧ some k_ ≠ (.slice Ao122 t233.length co122 : Value).ownBlock ∧ some k_ ≠ (.slice Ao123 t236.length co123 : Value).ownBlock) (Kd.R_keptB (HO_203001.out) hkp (fun k_ hk_ hs_ => Or.elim hs_ (fun e_ => (hk_.1.1.1.1.2.1) e_) (fun e_ => (hk_.1.1.1.1.2.2.1) e_))) (fun k_ hk_ => ⟨hk_.1.1.1.1.1.1, hk_.1.1.1.1.1.2.1, hk_.1.1.1.1.1.2.2.1, hk_.1.1.1.1.1.2.2.2.1, hk_.1.1.1.1.1.2.2.2.2.1, hk_.1.1.1.1.1.2.2.2.2.2.1, hk_.1.1.1.1.1.2.2.2.2.2.2, hk_.1.1.1.1.2, hk_.1.1.1.2, hk_.1.1.2, hk_.1.2⟩)); have n2_ := yD (Kd.R_reok rfl hy0 (fun k_ e_ => HO_210000.out.1 k_ e_)); have n3_ := yD (Kd.R_reok rfl hy1 (fun k_ e_ => HO_210001.out.1 k_ e_)); have n4_ := yD (zF (ok' := fun k_ => some k_ ≠ (.slice Ao43 t195.length co43 : Value).ownBlock ∧ some k_ ≠ (.slice Ao45 t198.length co45 : Value).ownBlock ∧ some k_ ≠ (.slice Ao51 t203.length co51 : Value).ownBlock ∧ some k_ ≠ (.slice Ao56 t206.length co56 : Value).ownBlock ∧ some k_ ≠ (.slice Ao67 t213.length co67 : Value).ownBlock ∧ some k_ ≠ (.slice Ao71 t217.length co71 : Value).ownBlock ∧ some k_ ≠ (.slice Ao78 t220.length co78 : Value).ownBlock ∧ some k_ ≠ (.slice Ao117 t226.length co117 : Value).ownBlock ∧ some k_ ≠ (.slice Ao118 t229.length co118 : Value).ownBlock ∧ some k_ ≠ (.slice Ao122 t233.length co122 : Value).ownBlock ∧ some k_ ≠ (.slice Ao123 t236.length co123 : Value).ownBlock) (Kd.R_keptB (HO_217000.out) hkp (fun k_ hk_ hs_ => Or.elim hs_ (fun e_ => (hk_.1.1.1.1.2.2.1) e_) (fun e_ => (hk_.1.1.1.1.2.2.2.1) e_))) (fun k_ hk_ => ⟨hk_.1.1.1.1.1.1, hk_.1.1.1.1.1.2.1, hk_.1.1.1.1.1.2.2.1, hk_.1.1.1.1.1.2.2.2.1, hk_.1.1.1.1.1.2.2.2.2.1, hk_.1.1.1.1.1.2.2.2.2.2.1, hk_.1.1.1.1.1.2.2.2.2.2.2, hk_.1.1.1.1.2, hk_.1.1.1.2, hk_.1.1.2, hk_.1.2⟩)); have n5_ := yD (zF (ok' := fun k_ => some k_ ≠ (.slice Ao43 t195.length co43 : Value).ownBlock ∧ some k_ ≠ (.slice Ao45 t198.length co45 : Value).ownBlock ∧ some k_ ≠ (.slice Ao51 t203.length co51 : Value).ownBlock ∧ some k_ ≠ (.slice Ao56 t206.length co56 : Value).ownBlock ∧ some k_ ≠ (.slice Ao61 t210.length co61 : Value).ownBlock ∧ some k_ ≠ (.slice Ao71 t217.length co71 : Value).ownBlock ∧ some k_ ≠ (.slice Ao78 t220.length co78 : Value).ownBlock ∧ some k_ ≠ (.slice Ao117 t226.length co117 : Value).ownBlock ∧ some k_ ≠ (.slice Ao118 t229.length co118 : Value).ownBlock ∧ some k_ ≠ (.slice Ao122 t233.length co122 : Value).ownBlock ∧ some k_ ≠ (.slice Ao123 t236.length co123 : Value).ownBlock) (Kd.R_keptB (HO_217001.out) hkp (fun k_ hk_ hs_ => Or.elim hs_ (fun e_ => (hk_.1.1.1.1.2.2.1) e_) (fun e_ => (hk_.1.1.1.1.2.2.2.1) e_))) (fun k_ hk_ => ⟨hk_.1.1.1.1.1.1, hk_.1.1.1.1.1.2.1, hk_.1.1.1.1.1.2.2.1, hk_.1.1.1.1.1.2.2.2.1, hk_.1.1.1.1.1.2.2.2.2.1, hk_.1.1.1.1.1.2.2.2.2.2.1, hk_.1.1.1.1.1.2.2.2.2.2.2, hk_.1.1.1.1.2, hk_.1.1.1.2, hk_.1.1.2, hk_.1.2⟩)); have n6_ := yD (zF (ok' := fun k_ => some k_ ≠ (.slice Ao43 t195.length co43 : Value).ownBlock ∧ some k_ ≠ (.slice Ao45 t198.length co45 : Value).ownBlock ∧ some k_ ≠ (.slice Ao51 t203.length co51 : Value).ownBlock ∧ some k_ ≠ (.slice Ao56 t206.length co56 : Value).ownBlock ∧ some k_ ≠ (.slice Ao61 t210.length co61 : Value).ownBlock ∧ some k_ ≠ (.slice Ao67 t213.length co67 : Value).ownBlock ∧ some k_ ≠ (.slice Ao78 t220.length co78 : Value).ownBlock ∧ some k_ ≠ (.slice Ao117 t226.length co117 : Value).ownBlock ∧ some k_ ≠ (.slice Ao118 t229.length co118 : Value).ownBlock ∧ some k_ ≠ (.slice Ao122 t233.length co122 : Value).ownBlock ∧ some k_ ≠ (.slice Ao123 t236.length co123 : Value).ownBlock) (Kd.R_keptB (HO_225000.out) hkp (fun k_ hk_ hs_ => Or.elim hs_ (fun e_ => (hk_.1.1.1.1.2.2.1) e_) (fun e_ => (hk_.1.1.1.1.2.2.2.1) e_))) (fun k_ hk_ => ⟨hk_.1.1.1.1.1.1, hk_.1.1.1.1.1.2.1, hk_.1.1.1.1.1.2.2.1, hk_.1.1.1.1.1.2.2.2.1, hk_.1.1.1.1.1.2.2.2.2.1, hk_.1.1.1.1.1.2.2.2.2.2.1, hk_.1.1.1.1.1.2.2.2.2.2.2, hk_.1.1.1.1.2, hk_.1.1.1.2, hk_.1.1.2, hk_.1.2⟩)); have n7_ := yD (zF (ok' := fun k_ => some k_ ≠ (.slice Ao43 t195.length co43 : Value).ownBlock ∧ some k_ ≠ (.slice Ao45 t198.length co45 : Value).ownBlock ∧ some k_ ≠ (.slice Ao51 t203.length co51 : Value).ownBlock ∧ some k_ ≠ (.slice Ao56 t206.length co56 : Value).ownBlock ∧ some k_ ≠ (.slice Ao61 t210.length co61 : Value).ownBlock ∧ some k_ ≠ (.slice Ao67 t213.length co67 : Value).ownBlock ∧ some k_ ≠ (.slice Ao71 t217.length co71 : Value).ownBlock ∧ some k_ ≠ (.slice Ao117 t226.length co117 : Value).ownBlock ∧ some k_ ≠ (.slice Ao118 t229.length co118 : Value).ownBlock ∧ some k_ ≠ (.slice Ao122 t233.length co122 : Value).ownBlock ∧ some k_ ≠ (.slice Ao123 t236.length co123 : Value).ownBlock) (Kd.R_keptB (HO_225001.out) hkp (fun k_ hk_ hs_ => Or.elim hs_ (fun e_ => (hk_.1.1.1.1.2.2.1) e_) (fun e_ => (hk_.1.1.1.1.2.2.2.1) e_))) (fun k_ hk_ => ⟨hk_.1.1.1.1.1.1, hk_.1.1.1.1.1.2.1, hk_.1.1.1.1.1.2.2.1, hk_.1.1.1.1.1.2.2.2.1, hk_.1.1.1.1.1.2.2.2.2.1, hk_.1.1.1.1.1.2.2.2.2.2.1, hk_.1.1.1.1.1.2.2.2.2.2.2, hk_.1.1.1.1.2, hk_.1.1.1.2, hk_.1.1.2, hk_.1.2⟩)); have n8_ := yD (blk_kept (kM BK179) hkp (fun hs_ => Or.elim hs_ (fun e_ => (fun e_ => (Kd.R_ne HO_210000.out BK179.out (by decide)) e_) e_) (fun e_ => (fun e_ => (Kd.R_ne HO_210001.out BK179.out (by decide)) e_) e_))); have n9_ := yD (blk_kept (kM BK180) hkp (fun hs_ => Or.elim hs_ (fun e_ => (fun e_ => (Kd.R_ne HO_210000.out BK180.out (by decide)) e_) e_) (fun e_ => (fun e_ => (Kd.R_ne HO_210001.out BK180.out (by decide)) e_) e_))); have n10_ := yD (blk_kept (kM BK202) hkp (fun hs_ => Or.elim hs_ (fun e_ => (fun e_ => (Kd.R_ne HO_210000.out BK202.out (by decide)) e_) e_) (fun e_ => (fun e_ => (Kd.R_ne HO_210001.out BK202.out (by decide)) e_) e_))); have n11_ := yD (blk_kept (kM BK209) hkp (fun hs_ => Or.elim hs_ (fun e_ => (fun e_ => (Kd.R_ne HO_210000.out BK209.out (by decide)) e_) e_) (fun e_ => (fun e_ => (Kd.R_ne HO_210001.out BK209.out (by decide)) e_) e_))); have n12_ := yD (blk_kept (kM BK216) hkp (fun hs_ => Or.elim hs_ (fun e_ => (fun e_ => (Kd.R_ne HO_210000.out BK216.out (by decide)) e_) e_) (fun e_ => (fun e_ => (Kd.R_ne HO_210001.out BK216.out (by decide)) e_) e_))); have n13_ := yD (blk_kept (kM BK224) hkp (fun hs_ => Or.elim hs_ (fun e_ => (fun e_ => (Kd.R_ne HO_210000.out BK224.out (by decide)) e_) e_) (fun e_ => (fun e_ => (Kd.R_ne HO_210001.out BK224.out (by decide)) e_) e_))); have n14_ := yD (zF (ok' := fun k_ => some k_ ≠ (.slice Ao43 t195.length co43 : Value).ownBlock ∧ some k_ ≠ (.slice Ao45 t198.length co45 : Value).ownBlock ∧ some k_ ≠ (.slice Ao51 t203.length co51 : Value).ownBlock ∧ some k_ ≠ (.slice Ao56 t206.length co56 : Value).ownBlock ∧ some k_ ≠ (.slice Ao61 t210.length co61 : Value).ownBlock ∧ some k_ ≠ (.slice Ao67 t213.length co67 : Value).ownBlock ∧ some k_ ≠ (.slice Ao71 t217.length co71 : Value).ownBlock ∧ some k_ ≠ (.slice Ao78 t220.length co78 : Value).ownBlock ∧ some k_ ≠ (.slice Ao118 t229.length co118 : Value).ownBlock ∧ some k_ ≠ (.slice Ao122 t233.length co122 : Value).ownBlock ∧ some k_ ≠ (.slice Ao123 t236.length co123 : Value).ownBlock) (Kd.R_keptB (HO228.out) hkp (fun k_ hk_ hs_ => Or.elim hs_ (fun e_ => (hk_.1.1.1.1.1.1.1.2) e_) (fun e_ => (hk_.1.1.1.1.1.1.2) e_))) (fun k_ hk_ => ⟨hk_.1.1.1.1.1.1.1.1.1.1.2, hk_.1.1.1.1.1.1.1.1.1.2, hk_.1.1.1.1.1.1.1.1.2, hk_.1.1.1.1.1.1.1.2, hk_.1.1.1.1.1.1.2, hk_.1.1.1.1.1.2, hk_.1.1.1.1.2, hk_.1.1.1.2, hk_.1.1.1.1.1.1.1.1.1.1.1, hk_.1.1.2, hk_.1.2⟩)); have n15_ := yD (zF (ok' := fun k_ => some k_ ≠ (.slice Ao43 t195.length co43 : Value).ownBlock ∧ some k_ ≠ (.slice Ao45 t198.length co45 : Value).ownBlock ∧ some k_ ≠ (.slice Ao51 t203.length co51 : Value).ownBlock ∧ some k_ ≠ (.slice Ao56 t206.length co56 : Value).ownBlock ∧ some k_ ≠ (.slice Ao61 t210.length co61 : Value).ownBlock ∧ some k_ ≠ (.slice Ao67 t213.length co67 : Value).ownBlock ∧ some k_ ≠ (.slice Ao71 t217.length co71 : Value).ownBlock ∧ some k_ ≠ (.slice Ao78 t220.length co78 : Value).ownBlock ∧ some k_ ≠ (.slice Ao117 t226.length co117 : Value).ownBlock ∧ some k_ ≠ (.slice Ao122 t233.length co122 : Value).ownBlock ∧ some k_ ≠ (.slice Ao123 t236.length co123 : Value).ownBlock) (Kd.R_keptB (HO231.out) hkp (fun k_ hk_ hs_ => Or.elim hs_ (fun e_ => (hk_.1.1.1.1.1.1.1.2) e_) (fun e_ => (hk_.1.1.1.1.1.1.2) e_))) (fun k_ hk_ => ⟨hk_.1.1.1.1.1.1.1.1.1.1.2, hk_.1.1.1.1.1.1.1.1.1.2, hk_.1.1.1.1.1.1.1.1.2, hk_.1.1.1.1.1.1.1.2, hk_.1.1.1.1.1.1.2, hk_.1.1.1.1.1.2, hk_.1.1.1.1.2, hk_.1.1.1.2, hk_.1.1.1.1.1.1.1.1.1.1.1, hk_.1.1.2, hk_.1.2⟩)); have n16_ := yD (zF (ok' := fun k_ => some k_ ≠ (.slice Ao43 t195.length co43 : Value).ownBlock ∧ some k_ ≠ (.slice Ao45 t198.length co45 : Value).ownBlock ∧ some k_ ≠ (.slice Ao51 t203.length co51 : Value).ownBlock ∧ some k_ ≠ (.slice Ao56 t206.length co56 : Value).ownBlock ∧ some k_ ≠ (.slice Ao61 t210.length co61 : Value).ownBlock ∧ some k_ ≠ (.slice Ao67 t213.length co67 : Value).ownBlock ∧ some k_ ≠ (.slice Ao71 t217.length co71 : Value).ownBlock ∧ some k_ ≠ (.slice Ao78 t220.length co78 : Value).ownBlock ∧ some k_ ≠ (.slice Ao117 t226.length co117 : Value).ownBlock ∧ some k_ ≠ (.slice Ao118 t229.length co118 : Value).ownBlock ∧ some k_ ≠ (.slice Ao123 t236.length co123 : Value).ownBlock) (Kd.R_keptB (HO235.out) hkp (fun k_ hk_ hs_ => Or.elim hs_ (fun e_ => (hk_.1.1.1.1.1.1.1.2) e_) (fun e_ => (hk_.1.1.1.1.1.1.2) e_))) (fun k_ hk_ => ⟨hk_.1.1.1.1.1.1.1.1.1.1.2, hk_.1.1.1.1.1.1.1.1.1.2, hk_.1.1.1.1.1.1.1.1.2, hk_.1.1.1.1.1.1.1.2, hk_.1.1.1.1.1.1.2, hk_.1.1.1.1.1.2, hk_.1.1.1.1.2, hk_.1.1.1.2, hk_.1.1.2, hk_.1.2, hk_.1.1.1.1.1.1.1.1.1.1.1⟩)); have n17_ := yD (zF (ok' := fun k_ => some k_ ≠ (.slice Ao43 t195.length co43 : Value).ownBlock ∧ some k_ ≠ (.slice Ao45 t198.length co45 : Value).ownBlock ∧ some k_ ≠ (.slice Ao51 t203.length co51 : Value).ownBlock ∧ some k_ ≠ (.slice Ao56 t206.length co56 : Value).ownBlock ∧ some k_ ≠ (.slice Ao61 t210.length co61 : Value).ownBlock ∧ some k_ ≠ (.slice Ao67 t213.length co67 : Value).ownBlock ∧ some k_ ≠ (.slice Ao71 t217.length co71 : Value).ownBlock ∧ some k_ ≠ (.slice Ao78 t220.length co78 : Value).ownBlock ∧ some k_ ≠ (.slice Ao117 t226.length co117 : Value).ownBlock ∧ some k_ ≠ (.slice Ao118 t229.length co118 : Value).ownBlock ∧ some k_ ≠ (.slice Ao122 t233.length co122 : Value).ownBlock) (Kd.R_keptB (HO238.out) hkp (fun k_ hk_ hs_ => Or.elim hs_ (fun e_ => (hk_.1.1.1.1.1.1.1.2) e_) (fun e_ => (hk_.1.1.1.1.1.1.2) e_))) (fun k_ hk_ => ⟨hk_.1.1.1.1.1.1.1.1.1.1.2, hk_.1.1.1.1.1.1.1.1.1.2, hk_.1.1.1.1.1.1.1.1.2, hk_.1.1.1.1.1.1.1.2, hk_.1.1.1.1.1.1.2, hk_.1.1.1.1.1.2, hk_.1.1.1.1.2, hk_.1.1.1.2, hk_.1.1.2, hk_.1.2, hk_.1.1.1.1.1.1.1.1.1.1.1⟩)); have n18_ := yD (hb); clear HO_203000; clear HO_203001; clear HO_210000; clear HO_210001; clear HO_217000; clear HO_217001; clear HO_225000; clear HO_225001; clear BK179; clear BK180; clear BK202; clear BK209; clear BK216; clear BK224; clear HO228; clear HO231; clear HO235; clear HO238; clear HB; have HO_203000 := n0_; have HO_203001 := n1_; have HO_210000 := n2_; have HO_210001 := n3_; have HO_217000 := n4_; have HO_217001 := n5_; have HO_225000 := n6_; have HO_225001 := n7_; have BK179 := n8_; have BK180 := n9_; have BK202 := n10_; have BK209 := n11_; have BK216 := n12_; have BK224 := n13_; have HO228 := n14_; have HO231 := n15_; have HO235 := n16_; have HO238 := n17_; have HB := n18_; clear n0_ n1_ n2_ n3_ n4_ n5_ n6_ n7_ n8_ n9_ n10_ n11_ n12_ n13_ n14_ n15_ n16_ n17_ n18_; (try clear hb); (try clear hkp); (try clear hy0); (try clear hy1); have hnb132 := NB216_179.out; have hnc132 := NB179_216.out; have hnb133 := NB216_180.out; have hnc133 := NB180_216.out; have hnb134 := NB216_202.out; have hnc134 := NB202_216.out; have hnb135 := NB216_224.out; have hnc135 := NB224_216.out; obtain ⟨hcz136_0, hcz136_1⟩ := cz2 BK216.out; obtain ⟨hfz136_0, hfz136_1⟩ := fz2 BK216.out) | ((with_reducible refine gate_callee (f := 11) rfl ?_); refine goesL_ (some 69) rfl rfl Try.func11 (by kernel_rfl) rfl #[.agg #[.slice Ao61 t210.length co61, .slice Ao67 t213.length co67], .int .i64 t240] rfl (by (try simp only [zK, zL, zM]); first | done | rfl | (simp only [zN, zO]; rfl)) ?_; (with_reducible refine (laws_markBox.calls kj24 (fun k_ => some k_ = (.slice Ao61 t210.length co61 : Value).ownBlock) (.slice Ao61 t210.length co61) t210 (fun k_ => some k_ = (.slice Ao67 t213.length co67 : Value).ownBlock) (.slice Ao67 t213.length co67) t213 t240 t243 t244 t245 w _ ?side1 ?side2 ?side3 ?side4 ?side5 A113.out).mono ?_); (case side1 => repeat (first | (with_reducible first | exact HB.out | apply yQ | apply yL | apply yP | refine yE ?_ GE179.out | refine yE ?_ GE180.out | refine yE ?_ GE202.out | refine yE ?_ GE209.out | refine yE ?_ GE216.out | refine yE ?_ GE224.out) | exact HB.out)); (case side2 => exact Kd.R_tight rfl HO_217000.out); (case side3 => exact fun k_ e_ => (HO_217000.out.1 k_ e_.symm).2.2.2.2.1); (case side4 => exact Kd.R_tight rfl HO_217001.out); (case side5 => exact fun k_ e_ => (HO_217001.out.1 k_ e_.symm).2.2.2.2.1); rintro e w137 ⟨rfl, hy0, hy1, hb, hkp⟩; refine ⟨_, rfl, ?_⟩; have n0_ := yD (zF (ok' := fun k_ => some k_ ≠ (.slice Ao45 t198.length co45 : Value).ownBlock ∧ some k_ ≠ (.slice Ao51 t203.length co51 : Value).ownBlock ∧ some k_ ≠ (.slice Ao56 t206.length co56 : Value).ownBlock ∧ some k_ ≠ (.slice Ao61 t210.length co61 : Value).ownBlock ∧ some k_ ≠ (.slice Ao67 t213.length co67 : Value).ownBlock ∧ some k_ ≠ (.slice Ao71 t217.length co71 : Value).ownBlock ∧ some k_ ≠ (.slice Ao78 t220.length co78 : Value).ownBlock ∧ some k_ ≠ (.slice Ao117 t226.length co117 : Value).ownBlock ∧ some k_ ≠ (.slice Ao118 t229.length co118 : Value).ownBlock ∧ some k_ ≠ (.slice Ao122 t233.length co122 : Value).ownBlock ∧ some k_ ≠ (.slice Ao123 t236.length co123 : Value).ownBlock) (Kd.R_keptB (HO_203000.out) hkp (fun k_ hk_ hs_ => Or.elim hs_ (fun e_ => (hk_.2.2.2.1) e_) (fun e_ => (hk_.2.2.2.2.1) e_))) (fun k_ hk_ => ⟨hk_.1.1, hk_.1.2.1, hk_.1.2.2.1, hk_.1.2.2.2.1, hk_.1.2.2.2.2.1, hk_.1.2.2.2.2.2.1, hk_.1.2.2.2.2.2.2.1, hk_.1.2.2.2.2.2.2.2.1, hk_.1.2.2.2.2.2.2.2.2.1, hk_.1.2.2.2.2.2.2.2.2.2.1, hk_.1.2.2.2.2.2.2.2.2.2.2⟩)); have n1_ := yD (zF (ok' := fun k_ => some k_ ≠ (.slice Ao43 t195.length co43 : Value).ownBlock ∧ some k_ ≠ (.slice Ao51 t203.length co51 : Value).ownBlock ∧ some k_ ≠ (.slice Ao56 t206.length co56 : Value).ownBlock ∧ some k_ ≠ (.slice Ao61 t210.length co61 : Value).ownBlock ∧ some k_ ≠ (.slice Ao67 t213.length co67 : Value).ownBlock ∧ some k_ ≠ (.slice Ao71 t217.length co71 : Value).ownBlock ∧ some k_ ≠ (.slice Ao78 t220.length co78 : Value).ownBlock ∧ some k_ ≠ (.slice Ao117 t226.length co117 : Value).ownBlock ∧ some k_ ≠ (.slice Ao118 t229.length co118 : Value).ownBlock ∧ some k_ ≠ (.slice Ao122 t233.length co122 : Value).ownBlock ∧ some k_ ≠ (.slice Ao123 t236.length co123 : Value).ownBlock) (Kd.R_keptB (HO_203001.out) hkp (fun k_ hk_ hs_ => Or.elim hs_ (fun e_ => (hk_.2.2.2.1) e_) (fun e_ => (hk_.2.2.2.2.1) e_))) (fun k_ hk_ => ⟨hk_.1.1, hk_.1.2.1, hk_.1.2.2.1, hk_.1.2.2.2.1, hk_.1.2.2.2.2.1, hk_.1.2.2.2.2.2.1, hk_.1.2.2.2.2.2.2.1, hk_.1.2.2.2.2.2.2.2.1, hk_.1.2.2.2.2.2.2.2.2.1, hk_.1.2.2.2.2.2.2.2.2.2.1, hk_.1.2.2.2.2.2.2.2.2.2.2⟩)); have n2_ := yD (zF (ok' := fun k_ => some k_ ≠ (.slice Ao43 t195.length co43 : Value).ownBlock ∧ some k_ ≠ (.slice Ao45 t198.length co45 : Value).ownBlock ∧ some k_ ≠ (.slice Ao56 t206.length co56 : Value).ownBlock ∧ some k_ ≠ (.slice Ao61 t210.length co61 : Value).ownBlock ∧ some k_ ≠ (.slice Ao67 t213.length co67 : Value).ownBlock ∧ some k_ ≠ (.slice Ao71 t217.length co71 : Value).ownBlock ∧ some k_ ≠ (.slice Ao78 t220.length co78 : Value).ownBlock ∧ some k_ ≠ (.slice Ao117 t226.length co117 : Value).ownBlock ∧ some k_ ≠ (.slice Ao118 t229.length co118 : Value).ownBlock ∧ some k_ ≠ (.slice Ao122 t233.length co122 : Value).ownBlock ∧ some k_ ≠ (.slice Ao123 t236.length co123 : Value).ownBlock) (Kd.R_keptB (HO_210000.out) hkp (fun k_ hk_ hs_ => Or.elim hs_ (fun e_ => (hk_.1.1.1.1.2.2.2.1) e_) (fun e_ => (hk_.1.1.1.1.2.2.2.2.1) e_))) (fun k_ hk_ => ⟨hk_.1.1.1.1.1.1, hk_.1.1.1.1.1.2.1, hk_.1.1.1.1.1.2.2.1, hk_.1.1.1.1.1.2.2.2.1, hk_.1.1.1.1.1.2.2.2.2.1, hk_.1.1.1.1.1.2.2.2.2.2.1, hk_.1.1.1.1.1.2.2.2.2.2.2, hk_.1.1.1.1.2, hk_.1.1.1.2, hk_.1.1.2, hk_.1.2⟩)); have n3_ := yD (zF (ok' := fun k_ => some k_ ≠ (.slice Ao43 t195.length co43 : Value).ownBlock ∧ some k_ ≠ (.slice Ao45 t198.length co45 : Value).ownBlock ∧ some k_ ≠ (.slice Ao51 t203.length co51 : Value).ownBlock ∧ some k_ ≠ (.slice Ao61 t210.length co61 : Value).ownBlock ∧ some k_ ≠ (.slice Ao67 t213.length co67 : Value).ownBlock ∧ some k_ ≠ (.slice Ao71 t217.length co71 : Value).ownBlock ∧ some k_ ≠ (.slice Ao78 t220.length co78 : Value).ownBlock ∧ some k_ ≠ (.slice Ao117 t226.length co117 : Value).ownBlock ∧ some k_ ≠ (.slice Ao118 t229.length co118 : Value).ownBlock ∧ some k_ ≠ (.slice Ao122 t233.length co122 : Value).ownBlock ∧ some k_ ≠ (.slice Ao123 t236.length co123 : Value).ownBlock) (Kd.R_keptB (HO_210001.out) hkp (fun k_ hk_ hs_ => Or.elim hs_ (fun e_ => (hk_.1.1.1.1.2.2.2.1) e_) (fun e_ => (hk_.1.1.1.1.2.2.2.2.1) e_))) (fun k_ hk_ => ⟨hk_.1.1.1.1.1.1, hk_.1.1.1.1.1.2.1, hk_.1.1.1.1.1.2.2.1, hk_.1.1.1.1.1.2.2.2.1, hk_.1.1.1.1.1.2.2.2.2.1, hk_.1.1.1.1.1.2.2.2.2.2.1, hk_.1.1.1.1.1.2.2.2.2.2.2, hk_.1.1.1.1.2, hk_.1.1.1.2, hk_.1.1.2, hk_.1.2⟩)); have n4_ := yD (Kd.R_reok rfl hy0 (fun k_ e_ => HO_217000.out.1 k_ e_)); have n5_ := yD (Kd.R_reok rfl hy1 (fun k_ e_ => HO_217001.out.1 k_ e_)); have n6_ := yD (zF (ok' := fun k_ => some k_ ≠ (.slice Ao43 t195.length co43 : Value).ownBlock ∧ some k_ ≠ (.slice Ao45 t198.length co45 : Value).ownBlock ∧ some k_ ≠ (.slice Ao51 t203.length co51 : Value).ownBlock ∧ some k_ ≠ (.slice Ao56 t206.length co56 : Value).ownBlock ∧ some k_ ≠ (.slice Ao61 t210.length co61 : Value).ownBlock ∧ some k_ ≠ (.slice Ao67 t213.length co67 : Value).ownBlock ∧ some k_ ≠ (.slice Ao78 t220.length co78 : Value).ownBlock ∧ some k_ ≠ (.slice Ao117 t226.length co117 : Value).ownBlock ∧ some k_ ≠ (.slice Ao118 t229.length co118 : Value).ownBlock ∧ some k_ ≠ (.slice Ao122 t233.length co122 : Value).ownBlock ∧ some k_ ≠ (.slice Ao123 t236.length co123 : Value).ownBlock) (Kd.R_keptB (HO_225000.out) hkp (fun k_ hk_ hs_ => Or.elim hs_ (fun e_ => (hk_.2.2.2.2.1) e_) (fun e_ => (hk_.2.2.2.2.2.1) e_))) (fun k_ hk_ => ⟨hk_.1.1, hk_.1.2.1, hk_.1.2.2.1, hk_.1.2.2.2.1, hk_.1.2.2.2.2.1, hk_.1.2.2.2.2.2.1, hk_.1.2.2.2.2.2.2.1, hk_.1.2.2.2.2.2.2.2.1, hk_.1.2.2.2.2.2.2.2.2.1, hk_.1.2.2.2.2.2.2.2.2.2.1, hk_.1.2.2.2.2.2.2.2.2.2.2⟩)); have n7_ := yD (zF (ok' := fun k_ => some k_ ≠ (.slice Ao43 t195.length co43 : Value).ownBlock ∧ some k_ ≠ (.slice Ao45 t198.length co45 : Value).ownBlock ∧ some k_ ≠ (.slice Ao51 t203.length co51 : Value).ownBlock ∧ some k_ ≠ (.slice Ao56 t206.length co56 : Value).ownBlock ∧ some k_ ≠ (.slice Ao61 t210.length co61 : Value).ownBlock ∧ some k_ ≠ (.slice Ao67 t213.length co67 : Value).ownBlock ∧ some k_ ≠ (.slice Ao71 t217.length co71 : Value).ownBlock ∧ some k_ ≠ (.slice Ao117 t226.length co117 : Value).ownBlock ∧ some k_ ≠ (.slice Ao118 t229.length co118 : Value).ownBlock ∧ some k_ ≠ (.slice Ao122 t233.length co122 : Value).ownBlock ∧ some k_ ≠ (.slice Ao123 t236.length co123 : Value).ownBlock) (Kd.R_keptB (HO_225001.out) hkp (fun k_ hk_ hs_ => Or.elim hs_ (fun e_ => (hk_.2.2.2.2.1) e_) (fun e_ => (hk_.2.2.2.2.2.1) e_))) (fun k_ hk_ => ⟨hk_.1.1, hk_.1.2.1, hk_.1.2.2.1, hk_.1.2.2.2.1, hk_.1.2.2.2.2.1, hk_.1.2.2.2.2.2.1, hk_.1.2.2.2.2.2.2.1, hk_.1.2.2.2.2.2.2.2.1, hk_.1.2.2.2.2.2.2.2.2.1, hk_.1.2.2.2.2.2.2.2.2.2.1, hk_.1.2.2.2.2.2.2.2.2.2.2⟩)); have n8_ := yD (blk_kept (kM BK179) hkp (fun hs_ => Or.elim hs_ (fun e_ => (fun e_ => (Kd.R_ne HO_217000.out BK179.out (by decide)) e_) e_) (fun e_ => (fun e_ => (Kd.R_ne HO_217001.out BK179.out (by decide)) e_) e_))); have n9_ := yD (blk_kept (kM BK180) hkp (fun hs_ => Or.elim hs_ (fun e_ => (fun e_ => (Kd.R_ne HO_217000.out BK180.out (by decide)) e_) e_) (fun e_ => (fun e_ => (Kd.R_ne HO_217001.out BK180.out (by decide)) e_) e_))); have n10_ := yD (blk_kept (kM BK202) hkp (fun hs_ => Or.elim hs_ (fun e_ => (fun e_ => (Kd.R_ne HO_217000.out BK202.out (by decide)) e_) e_) (fun e_ => (fun e_ => (Kd.R_ne HO_217001.out BK202.out (by decide)) e_) e_))); have n11_ := yD (blk_kept (kM BK209) hkp (fun hs_ => Or.elim hs_ (fun e_ => (fun e_ => (Kd.R_ne HO_217000.out BK209.out (by decide)) e_) e_) (fun e_ => (fun e_ => (Kd.R_ne HO_217001.out BK209.out (by decide)) e_) e_))); have n12_ := yD (blk_kept (kM BK216) hkp (fun hs_ => Or.elim hs_ (fun e_ => (fun e_ => (Kd.R_ne HO_217000.out BK216.out (by decide)) e_) e_) (fun e_ => (fun e_ => (Kd.R_ne HO_217001.out BK216.out (by decide)) e_) e_))); have n13_ := yD (blk_kept (kM BK224) hkp (fun hs_ => Or.elim hs_ (fun e_ => (fun e_ => (Kd.R_ne HO_217000.out BK224.out (by decide)) e_) e_) (fun e_ => (fun e_ => (Kd.R_ne HO_217001.out BK224.out (by decide)) e_) e_))); have n14_ := yD (zF (ok' := fun k_ => some k_ ≠ (.slice Ao43 t195.length co43 : Value).ownBlock ∧ some k_ ≠ (.slice Ao45 t198.length co45 : Value).ownBlock ∧ some k_ ≠ (.slice Ao51 t203.length co51 : Value).ownBlock ∧ some k_ ≠ (.slice Ao56 t206.length co56 : Value).ownBlock ∧ some k_ ≠ (.slice Ao61 t210.length co61 : Value).ownBlock ∧ some k_ ≠ (.slice Ao67 t213.length co67 : Value).ownBlock ∧ some k_ ≠ (.slice Ao71 t217.length co71 : Value).ownBlock ∧ some k_ ≠ (.slice Ao78 t220.length co78 : Value).ownBlock ∧ some k_ ≠ (.slice Ao118 t229.length co118 : Value).ownBlock ∧ some k_ ≠ (.slice Ao122 t233.length co122 : Value).ownBlock ∧ some k_ ≠ (.slice Ao123 t236.length co123 : Value).ownBlock) (Kd.R_keptB (HO228.out) hkp (fun k_ hk_ hs_ => Or.elim hs_ (fun e_ => (hk_.2.2.2.2.1) e_) (fun e_ => (hk_.2.2.2.2.2.1) e_))) (fun k_ hk_ => ⟨hk_.1.1, hk_.1.2.1, hk_.1.2.2.1, hk_.1.2.2.2.1, hk_.1.2.2.2.2.1, hk_.1.2.2.2.2.2.1, hk_.1.2.2.2.2.2.2.1, hk_.1.2.2.2.2.2.2.2.1, hk_.1.2.2.2.2.2.2.2.2.1, hk_.1.2.2.2.2.2.2.2.2.2.1, hk_.1.2.2.2.2.2.2.2.2.2.2⟩)); have n15_ := yD (zF (ok' := fun k_ => some k_ ≠ (.slice Ao43 t195.length co43 : Value).ownBlock ∧ some k_ ≠ (.slice Ao45 t198.length co45 : Value).ownBlock ∧ some k_ ≠ (.slice Ao51 t203.length co51 : Value).ownBlock ∧ some k_ ≠ (.slice Ao56 t206.length co56 : Value).ownBlock ∧ some k_ ≠ (.slice Ao61 t210.length co61 : Value).ownBlock ∧ some k_ ≠ (.slice Ao67 t213.length co67 : Value).ownBlock ∧ some k_ ≠ (.slice Ao71 t217.length co71 : Value).ownBlock ∧ some k_ ≠ (.slice Ao78 t220.length co78 : Value).ownBlock ∧ some k_ ≠ (.slice Ao117 t226.length co117 : Value).ownBlock ∧ some k_ ≠ (.slice Ao122 t233.length co122 : Value).ownBlock ∧ some k_ ≠ (.slice Ao123 t236.length co123 : Value).ownBlock) (Kd.R_keptB (HO231.out) hkp (fun k_ hk_ hs_ => Or.elim hs_ (fun e_ => (hk_.2.2.2.2.1) e_) (fun e_ => (hk_.2.2.2.2.2.1) e_))) (fun k_ hk_ => ⟨hk_.1.1, hk_.1.2.1, hk_.1.2.2.1, hk_.1.2.2.2.1, hk_.1.2.2.2.2.1, hk_.1.2.2.2.2.2.1, hk_.1.2.2.2.2.2.2.1, hk_.1.2.2.2.2.2.2.2.1, hk_.1.2.2.2.2.2.2.2.2.1, hk_.1.2.2.2.2.2.2.2.2.2.1, hk_.1.2.2.2.2.2.2.2.2.2.2⟩)); have n16_ := yD (zF (ok' := fun k_ => some k_ ≠ (.slice Ao43 t195.length co43 : Value).ownBlock ∧ some k_ ≠ (.slice Ao45 t198.length co45 : Value).ownBlock ∧ some k_ ≠ (.slice Ao51 t203.length co51 : Value).ownBlock ∧ some k_ ≠ (.slice Ao56 t206.length co56 : Value).ownBlock ∧ some k_ ≠ (.slice Ao61 t210.length co61 : Value).ownBlock ∧ some k_ ≠ (.slice Ao67 t213.length co67 : Value).ownBlock ∧ some k_ ≠ (.slice Ao71 t217.length co71 : Value).ownBlock ∧ some k_ ≠ (.slice Ao78 t220.length co78 : Value).ownBlock ∧ some k_ ≠ (.slice Ao117 t226.length co117 : Value).ownBlock ∧ some k_ ≠ (.slice Ao118 t229.length co118 : Value).ownBlock ∧ some k_ ≠ (.slice Ao123 t236.length co123 : Value).ownBlock) (Kd.R_keptB (HO235.out) hkp (fun k_ hk_ hs_ => Or.elim hs_ (fun e_ => (hk_.2.2.2.2.1) e_) (fun e_ => (hk_.2.2.2.2.2.1) e_))) (fun k_ hk_ => ⟨hk_.1.1, hk_.1.2.1, hk_.1.2.2.1, hk_.1.2.2.2.1, hk_.1.2.2.2.2.1, hk_.1.2.2.2.2.2.1, hk_.1.2.2.2.2.2.2.1, hk_.1.2.2.2.2.2.2.2.1, hk_.1.2.2.2.2.2.2.2.2.1, hk_.1.2.2.2.2.2.2.2.2.2.1, hk_.1.2.2.2.2.2.2.2.2.2.2⟩)); have n17_ := yD (zF (ok' := fun k_ => some k_ ≠ (.slice Ao43 t195.length co43 : Value).ownBlock ∧ some k_ ≠ (.slice Ao45 t198.length co45 : Value).ownBlock ∧ some k_ ≠ (.slice Ao51 t203.length co51 : Value).ownBlock ∧ some k_ ≠ (.slice Ao56 t206.length co56 : Value).ownBlock ∧ some k_ ≠ (.slice Ao61 t210.length co61 : Value).ownBlock ∧ some k_ ≠ (.slice Ao67 t213.length co67 : Value).ownBlock ∧ some k_ ≠ (.slice Ao71 t217.length co71 : Value).ownBlock ∧ some k_ ≠ (.slice Ao78 t220.length co78 : Value).ownBlock ∧ some k_ ≠ (.slice Ao117 t226.length co117 : Value).ownBlock ∧ some k_ ≠ (.slice Ao118 t229.length co118 : Value).ownBlock ∧ some k_ ≠ (.slice Ao122 t233.length co122 : Value).ownBlock) (Kd.R_keptB (HO238.out) hkp (fun k_ hk_ hs_ => Or.elim hs_ (fun e_ => (hk_.2.2.2.2.1) e_) (fun e_ => (hk_.2.2.2.2.2.1) e_))) (fun k_ hk_ => ⟨hk_.1.1, hk_.1.2.1, hk_.1.2.2.1, hk_.1.2.2.2.1, hk_.1.2.2.2.2.1, hk_.1.2.2.2.2.2.1, hk_.1.2.2.2.2.2.2.1, hk_.1.2.2.2.2.2.2.2.1, hk_.1.2.2.2.2.2.2.2.2.1, hk_.1.2.2.2.2.2.2.2.2.2.1, hk_.1.2.2.2.2.2.2.2.2.2.2⟩)); have n18_ := yD (hb); clear HO_203000; clear HO_203001; clear HO_210000; clear HO_210001; clear HO_217000; clear HO_217001; clear HO_225000; clear HO_225001; clear BK179; clear BK180; clear BK202; clear BK209; clear BK216; clear BK224; clear HO228; clear HO231; clear HO235; clear HO238; clear HB; have HO_203000 := n0_; have HO_203001 := n1_; have HO_210000 := n2_; have HO_210001 := n3_; have HO_217000 := n4_; have HO_217001 := n5_; have HO_225000 := n6_; have HO_225001 := n7_; have BK179 := n8_; have BK180 := n9_; have BK202 := n10_; have BK209 := n11_; have BK216 := n12_; have BK224 := n13_; have HO228 := n14_; have HO231 := n15_; have HO235 := n16_; have HO238 := n17_; have HB := n18_; clear n0_ n1_ n2_ n3_ n4_ n5_ n6_ n7_ n8_ n9_ n10_ n11_ n12_ n13_ n14_ n15_ n16_ n17_ n18_; (try clear hb); (try clear hkp); (try clear hy0); (try clear hy1)))
          (try simp only [Act.put, zH, zI, zJ])
          go_cut [82] (fun v82 wc => ∃ (kq : Nat) (x82_113 : Bool), v82 = .bool x82_113 ∧ Aside0 (laws_FnExactCutBox.j1 kq t201 x82_113 l0_0 l0_1 l1_0 l1_1 t195 t198 t217 t220 = some r) ∧ Aside0 (kq ≤ kj24) ∧ Aside0 (Kd.R (Kd.int .i64) 2 wc w.heap.size (fun k_ => some k_ ≠ ((.slice Ao45 t198.length co45) : Value).ownBlock ∧ some k_ ≠ ((.slice Ao51 t203.length co51) : Value).ownBlock ∧ some k_ ≠ ((.slice Ao56 t206.length co56) : Value).ownBlock ∧ some k_ ≠ ((.slice Ao61 t210.length co61) : Value).ownBlock ∧ some k_ ≠ ((.slice Ao67 t213.length co67) : Value).ownBlock ∧ some k_ ≠ ((.slice Ao71 t217.length co71) : Value).ownBlock ∧ some k_ ≠ ((.slice Ao78 t220.length co78) : Value).ownBlock) (.slice Ao43 t195.length co43) t195) ∧ Aside0 (Kd.R (Kd.int .i64) 2 wc w.heap.size (fun k_ => some k_ ≠ ((.slice Ao43 t195.length co43) : Value).ownBlock ∧ some k_ ≠ ((.slice Ao51 t203.length co51) : Value).ownBlock ∧ some k_ ≠ ((.slice Ao56 t206.length co56) : Value).ownBlock ∧ some k_ ≠ ((.slice Ao61 t210.length co61) : Value).ownBlock ∧ some k_ ≠ ((.slice Ao67 t213.length co67) : Value).ownBlock ∧ some k_ ≠ ((.slice Ao71 t217.length co71) : Value).ownBlock ∧ some k_ ≠ ((.slice Ao78 t220.length co78) : Value).ownBlock) (.slice Ao45 t198.length co45) t198) ∧ Aside0 (Kd.R (Kd.int .i64) 2 wc w.heap.size (fun k_ => some k_ ≠ ((.slice Ao43 t195.length co43) : Value).ownBlock ∧ some k_ ≠ ((.slice Ao45 t198.length co45) : Value).ownBlock ∧ some k_ ≠ ((.slice Ao56 t206.length co56) : Value).ownBlock ∧ some k_ ≠ ((.slice Ao61 t210.length co61) : Value).ownBlock ∧ some k_ ≠ ((.slice Ao67 t213.length co67) : Value).ownBlock ∧ some k_ ≠ ((.slice Ao71 t217.length co71) : Value).ownBlock ∧ some k_ ≠ ((.slice Ao78 t220.length co78) : Value).ownBlock) (.slice Ao51 t203.length co51) t241) ∧ Aside0 (Kd.R (Kd.int .i64) 2 wc w.heap.size (fun k_ => some k_ ≠ ((.slice Ao43 t195.length co43) : Value).ownBlock ∧ some k_ ≠ ((.slice Ao45 t198.length co45) : Value).ownBlock ∧ some k_ ≠ ((.slice Ao51 t203.length co51) : Value).ownBlock ∧ some k_ ≠ ((.slice Ao61 t210.length co61) : Value).ownBlock ∧ some k_ ≠ ((.slice Ao67 t213.length co67) : Value).ownBlock ∧ some k_ ≠ ((.slice Ao71 t217.length co71) : Value).ownBlock ∧ some k_ ≠ ((.slice Ao78 t220.length co78) : Value).ownBlock) (.slice Ao56 t206.length co56) t242) ∧ Aside0 (Kd.R (Kd.int .i64) 2 wc w.heap.size (fun k_ => some k_ ≠ ((.slice Ao43 t195.length co43) : Value).ownBlock ∧ some k_ ≠ ((.slice Ao45 t198.length co45) : Value).ownBlock ∧ some k_ ≠ ((.slice Ao51 t203.length co51) : Value).ownBlock ∧ some k_ ≠ ((.slice Ao56 t206.length co56) : Value).ownBlock ∧ some k_ ≠ ((.slice Ao67 t213.length co67) : Value).ownBlock ∧ some k_ ≠ ((.slice Ao71 t217.length co71) : Value).ownBlock ∧ some k_ ≠ ((.slice Ao78 t220.length co78) : Value).ownBlock) (.slice Ao61 t210.length co61) t244) ∧ Aside0 (Kd.R (Kd.int .i64) 2 wc w.heap.size (fun k_ => some k_ ≠ ((.slice Ao43 t195.length co43) : Value).ownBlock ∧ some k_ ≠ ((.slice Ao45 t198.length co45) : Value).ownBlock ∧ some k_ ≠ ((.slice Ao51 t203.length co51) : Value).ownBlock ∧ some k_ ≠ ((.slice Ao56 t206.length co56) : Value).ownBlock ∧ some k_ ≠ ((.slice Ao61 t210.length co61) : Value).ownBlock ∧ some k_ ≠ ((.slice Ao71 t217.length co71) : Value).ownBlock ∧ some k_ ≠ ((.slice Ao78 t220.length co78) : Value).ownBlock) (.slice Ao67 t213.length co67) t245) ∧ Aside0 (Kd.R (Kd.int .i64) 2 wc w.heap.size (fun k_ => some k_ ≠ ((.slice Ao43 t195.length co43) : Value).ownBlock ∧ some k_ ≠ ((.slice Ao45 t198.length co45) : Value).ownBlock ∧ some k_ ≠ ((.slice Ao51 t203.length co51) : Value).ownBlock ∧ some k_ ≠ ((.slice Ao56 t206.length co56) : Value).ownBlock ∧ some k_ ≠ ((.slice Ao61 t210.length co61) : Value).ownBlock ∧ some k_ ≠ ((.slice Ao67 t213.length co67) : Value).ownBlock ∧ some k_ ≠ ((.slice Ao78 t220.length co78) : Value).ownBlock) (.slice Ao71 t217.length co71) t217) ∧ Aside0 (Kd.R (Kd.int .i64) 2 wc w.heap.size (fun k_ => some k_ ≠ ((.slice Ao43 t195.length co43) : Value).ownBlock ∧ some k_ ≠ ((.slice Ao45 t198.length co45) : Value).ownBlock ∧ some k_ ≠ ((.slice Ao51 t203.length co51) : Value).ownBlock ∧ some k_ ≠ ((.slice Ao56 t206.length co56) : Value).ownBlock ∧ some k_ ≠ ((.slice Ao61 t210.length co61) : Value).ownBlock ∧ some k_ ≠ ((.slice Ao67 t213.length co67) : Value).ownBlock ∧ some k_ ≠ ((.slice Ao71 t217.length co71) : Value).ownBlock) (.slice Ao78 t220.length co78) t220) ∧ Aside0 (wc.heap[gb179]? = some (.cells #[(.slice A0_0 l0_0.length c0_0), (.slice A0_1 l0_1.length c0_1)] 24 (0, 0))) ∧ Aside0 (wc.heap[gb180]? = some (.cells #[(.slice A1_0 l1_0.length c1_0), (.slice A1_1 l1_1.length c1_1)] 24 (0, 0))) ∧ Aside0 (wc.heap[gb202]? = some (.cells #[(.slice Ao43 t195.length co43), (.slice Ao45 t198.length co45)] 26 (0, 0))) ∧ Aside0 (wc.heap[gb209]? = some (.cells #[(.slice Ao51 t203.length co51), (.slice Ao56 t206.length co56)] 26 (0, 0))) ∧ Aside0 (wc.heap[gb216]? = some (.cells #[(.slice Ao61 t210.length co61), (.slice Ao67 t213.length co67)] 26 (0, 0))) ∧ Aside0 (wc.heap[gb224]? = some (.cells #[(.slice Ao71 t217.length co71), (.slice Ao78 t220.length co78)] 26 (0, 0))) ∧ Aside0 (Below w.heap.size w wc))
          case first =>
            have H := HC114.out; clear HC114
            by_cases c138 : t243 < 0
            · rw [if_pos c138] at H
              have c138b0 : decide (t243 < 0) = true := zR c138; clear c138
              (first | rw [c138b0] | (simp only [i64_w, i32_w]; rw [c138b0]) | (simp only [bne] at c138b0; rw [c138b0]) | skip)
              have H' := yD H
              clear H
              go_wp2
              go_meet
              case rel => exact ⟨_, (true), (by first | rfl | (simp; done) | (simp [*]; done)), H', ⟨by have := HJ24.out; first | omega | exact Nat.le_refl _⟩, ⟨by (with_reducible repeat (first | apply yA | apply yB | apply yC)); exact zF HO_203000.out (fun _ hk => ⟨hk.1, ⟨hk.2.1, ⟨hk.2.2.1, ⟨hk.2.2.2.1, ⟨hk.2.2.2.2.1, ⟨hk.2.2.2.2.2.1, hk.2.2.2.2.2.2.1⟩⟩⟩⟩⟩⟩)⟩, ⟨by (with_reducible repeat (first | apply yA | apply yB | apply yC)); exact zF HO_203001.out (fun _ hk => ⟨hk.1, ⟨hk.2.1, ⟨hk.2.2.1, ⟨hk.2.2.2.1, ⟨hk.2.2.2.2.1, ⟨hk.2.2.2.2.2.1, hk.2.2.2.2.2.2.1⟩⟩⟩⟩⟩⟩)⟩, ⟨by (with_reducible repeat (first | apply yA | apply yB | apply yC)); exact zF HO_210000.out (fun _ hk => ⟨hk.1, ⟨hk.2.1, ⟨hk.2.2.1, ⟨hk.2.2.2.1, ⟨hk.2.2.2.2.1, ⟨hk.2.2.2.2.2.1, hk.2.2.2.2.2.2.1⟩⟩⟩⟩⟩⟩)⟩, ⟨by (with_reducible repeat (first | apply yA | apply yB | apply yC)); exact zF HO_210001.out (fun _ hk => ⟨hk.1, ⟨hk.2.1, ⟨hk.2.2.1, ⟨hk.2.2.2.1, ⟨hk.2.2.2.2.1, ⟨hk.2.2.2.2.2.1, hk.2.2.2.2.2.2.1⟩⟩⟩⟩⟩⟩)⟩, ⟨by (with_reducible repeat (first | apply yA | apply yB | apply yC)); exact zF HO_217000.out (fun _ hk => ⟨hk.1, ⟨hk.2.1, ⟨hk.2.2.1, ⟨hk.2.2.2.1, ⟨hk.2.2.2.2.1, ⟨hk.2.2.2.2.2.1, hk.2.2.2.2.2.2.1⟩⟩⟩⟩⟩⟩)⟩, ⟨by (with_reducible repeat (first | apply yA | apply yB | apply yC)); exact zF HO_217001.out (fun _ hk => ⟨hk.1, ⟨hk.2.1, ⟨hk.2.2.1, ⟨hk.2.2.2.1, ⟨hk.2.2.2.2.1, ⟨hk.2.2.2.2.2.1, hk.2.2.2.2.2.2.1⟩⟩⟩⟩⟩⟩)⟩, ⟨by (with_reducible repeat (first | apply yA | apply yB | apply yC)); exact zF HO_225000.out (fun _ hk => ⟨hk.1, ⟨hk.2.1, ⟨hk.2.2.1, ⟨hk.2.2.2.1, ⟨hk.2.2.2.2.1, ⟨hk.2.2.2.2.2.1, hk.2.2.2.2.2.2.1⟩⟩⟩⟩⟩⟩)⟩, ⟨by (with_reducible repeat (first | apply yA | apply yB | apply yC)); exact zF HO_225001.out (fun _ hk => ⟨hk.1, ⟨hk.2.1, ⟨hk.2.2.1, ⟨hk.2.2.2.1, ⟨hk.2.2.2.2.1, ⟨hk.2.2.2.2.2.1, hk.2.2.2.2.2.2.1⟩⟩⟩⟩⟩⟩)⟩, ⟨by (with_reducible repeat (first | refine yM ?_ _ | refine yO ?_ | refine yN ?_ _)); exact BK179.out⟩, ⟨by (with_reducible repeat (first | refine yM ?_ _ | refine yO ?_ | refine yN ?_ _)); exact BK180.out⟩, ⟨by (with_reducible repeat (first | refine yM ?_ _ | refine yO ?_ | refine yN ?_ _)); exact BK202.out⟩, ⟨by (with_reducible repeat (first | refine yM ?_ _ | refine yO ?_ | refine yN ?_ _)); exact BK209.out⟩, ⟨by (with_reducible repeat (first | refine yM ?_ _ | refine yO ?_ | refine yN ?_ _)); exact BK216.out⟩, ⟨by (with_reducible repeat (first | refine yM ?_ _ | refine yO ?_ | refine yN ?_ _)); exact BK224.out⟩, ⟨by repeat (first | (with_reducible first | exact HB.out | apply yQ | apply yL | apply yP | refine yE ?_ GE179.out | refine yE ?_ GE180.out | refine yE ?_ GE202.out | refine yE ?_ GE209.out | refine yE ?_ GE216.out | refine yE ?_ GE224.out) | exact HB.out)⟩⟩
            · rw [if_neg c138] at H
              have c138b0 : decide (t243 < 0) = false := zS c138; clear c138
              (first | rw [c138b0] | (simp only [i64_w, i32_w]; rw [c138b0]) | (simp only [bne] at c138b0; rw [c138b0]) | skip)
              obtain ⟨t246, A1390, H⟩ := zW_ H
              replace H : (if t246 = true then (laws_FnExactCutBox.j1 kj24 t201 (t223 != t201) l0_0 l0_1 l1_0 l1_1 t195 t198 t217 t220) else (laws_FnExactCutBox.j1 kj24 t201 true l0_0 l0_1 l1_0 l1_1 t195 t198 t217 t220)) = some r := H
              have A139 := yD A1390
              clear A1390
              by_cases c140 : t246 = true
              · subst c140
                have H1 : (laws_FnExactCutBox.j1 kj24 t201 (t223 != t201) l0_0 l0_1 l1_0 l1_1 t195 t198 t217 t220) = some r := by rw [if_pos rfl] at H; exact H
                clear H; have H := H1; clear H1
                have H' := yD H
                clear H; have hnb141 := NB224_179.out; have hnc141 := NB179_224.out; have hnb142 := NB224_180.out; have hnc142 := NB180_224.out; have hnb143 := NB224_202.out; have hnc143 := NB202_224.out; have hnb144 := NB224_209.out; have hnc144 := NB209_224.out; have hnb145 := NB224_216.out; have hnc145 := NB216_224.out
                obtain ⟨hcz146_0, hcz146_1⟩ := cz2 BK224.out
                obtain ⟨hfz146_0, hfz146_1⟩ := fz2 BK224.out
                have hnb147 := NB202_179.out; have hnc147 := NB179_202.out; have hnb148 := NB202_180.out; have hnc148 := NB180_202.out; have hnb149 := NB202_209.out; have hnc149 := NB209_202.out; have hnb150 := NB202_216.out; have hnc150 := NB216_202.out
                obtain ⟨hcz151_0, hcz151_1⟩ := cz2 BK202.out
                obtain ⟨hfz151_0, hfz151_1⟩ := fz2 BK202.out
                go_wp2_with (first | (go_at_call 10; (with_reducible refine (laws_eqBox.calls kj24 _ _ t217 _ _ t220 _ _ t195 _ _ t198 true _ ?side1 ?side2 ?side3 ?side4 ?side5 ?side6 ?side7 ?side8 A139.out).mono ?_); (case side1 => exact kV (zA HO_225000.out).2.2); (case side2 => exact (zA HO_225000.out).2.1); (case side3 => exact kV (zA HO_225001.out).2.2); (case side4 => exact (zA HO_225001.out).2.1); (case side5 => exact kV (zA HO_203000.out).2.2); (case side6 => exact (zA HO_203000.out).2.1); (case side7 => exact kV (zA HO_203001.out).2.2); (case side8 => exact (zA HO_203001.out).2.1); rintro e w152 ⟨rfl, hb⟩; have n0_ := yD (zE (kA HO_203000) hb); have n1_ := yD (zE (kA HO_203001) hb); have n2_ := yD (zE (kA HO_210000) hb); have n3_ := yD (zE (kA HO_210001) hb); have n4_ := yD (zE (kA HO_217000) hb); have n5_ := yD (zE (kA HO_217001) hb); have n6_ := yD (zE (kA HO_225000) hb); have n7_ := yD (zE (kA HO_225001) hb); have n8_ := yD (zE (kA HO228) hb); have n9_ := yD (zE (kA HO231) hb); have n10_ := yD (zE (kA HO235) hb); have n11_ := yD (zE (kA HO238) hb); have n12_ := yD (zB (g := gb179) (o := .cells #[.slice A0_0 l0_0.length c0_0, .slice A0_1 l0_1.length c0_1] 24 (0, 0)) (kM BK179) hb); have n13_ := yD (zB (g := gb180) (o := .cells #[.slice A1_0 l1_0.length c1_0, .slice A1_1 l1_1.length c1_1] 24 (0, 0)) (kM BK180) hb); have n14_ := yD (zB (g := gb202) (o := .cells #[.slice Ao43 t195.length co43, .slice Ao45 t198.length co45] 26 (0, 0)) (kM BK202) hb); have n15_ := yD (zB (g := gb209) (o := .cells #[.slice Ao51 t203.length co51, .slice Ao56 t206.length co56] 26 (0, 0)) (kM BK209) hb); have n16_ := yD (zB (g := gb216) (o := .cells #[.slice Ao61 t210.length co61, .slice Ao67 t213.length co67] 26 (0, 0)) (kM BK216) hb); have n17_ := yD (zB (g := gb224) (o := .cells #[.slice Ao71 t217.length co71, .slice Ao78 t220.length co78] 26 (0, 0)) (kM BK224) hb); have n18_ := yD (zC (kB HB) hb); clear HO_203000; clear HO_203001; clear HO_210000; clear HO_210001; clear HO_217000; clear HO_217001; clear HO_225000; clear HO_225001; clear HO228; clear HO231; clear HO235; clear HO238; clear BK179; clear BK180; clear BK202; clear BK209; clear BK216; clear BK224; clear HB; have HO_203000 := n0_; have HO_203001 := n1_; have HO_210000 := n2_; have HO_210001 := n3_; have HO_217000 := n4_; have HO_217001 := n5_; have HO_225000 := n6_; have HO_225001 := n7_; have HO228 := n8_; have HO231 := n9_; have HO235 := n10_; have HO238 := n11_; have BK179 := n12_; have BK180 := n13_; have BK202 := n14_; have BK209 := n15_; have BK216 := n16_; have BK224 := n17_; have HB := n18_; clear n0_ n1_ n2_ n3_ n4_ n5_ n6_ n7_ n8_ n9_ n10_ n11_ n12_ n13_ n14_ n15_ n16_ n17_ n18_; (try clear hb); (try clear hb2); (try clear hk); (try clear hi)))
                go_meet
                case rel => exact ⟨_, ((t223 != t201)), (by first | rfl | (simp; done) | (simp [*]; done)), H', ⟨by have := HJ24.out; first | omega | exact Nat.le_refl _⟩, ⟨by (with_reducible repeat (first | apply yA | apply yB | apply yC)); exact zF HO_203000.out (fun _ hk => ⟨hk.1, ⟨hk.2.1, ⟨hk.2.2.1, ⟨hk.2.2.2.1, ⟨hk.2.2.2.2.1, ⟨hk.2.2.2.2.2.1, hk.2.2.2.2.2.2.1⟩⟩⟩⟩⟩⟩)⟩, ⟨by (with_reducible repeat (first | apply yA | apply yB | apply yC)); exact zF HO_203001.out (fun _ hk => ⟨hk.1, ⟨hk.2.1, ⟨hk.2.2.1, ⟨hk.2.2.2.1, ⟨hk.2.2.2.2.1, ⟨hk.2.2.2.2.2.1, hk.2.2.2.2.2.2.1⟩⟩⟩⟩⟩⟩)⟩, ⟨by (with_reducible repeat (first | apply yA | apply yB | apply yC)); exact zF HO_210000.out (fun _ hk => ⟨hk.1, ⟨hk.2.1, ⟨hk.2.2.1, ⟨hk.2.2.2.1, ⟨hk.2.2.2.2.1, ⟨hk.2.2.2.2.2.1, hk.2.2.2.2.2.2.1⟩⟩⟩⟩⟩⟩)⟩, ⟨by (with_reducible repeat (first | apply yA | apply yB | apply yC)); exact zF HO_210001.out (fun _ hk => ⟨hk.1, ⟨hk.2.1, ⟨hk.2.2.1, ⟨hk.2.2.2.1, ⟨hk.2.2.2.2.1, ⟨hk.2.2.2.2.2.1, hk.2.2.2.2.2.2.1⟩⟩⟩⟩⟩⟩)⟩, ⟨by (with_reducible repeat (first | apply yA | apply yB | apply yC)); exact zF HO_217000.out (fun _ hk => ⟨hk.1, ⟨hk.2.1, ⟨hk.2.2.1, ⟨hk.2.2.2.1, ⟨hk.2.2.2.2.1, ⟨hk.2.2.2.2.2.1, hk.2.2.2.2.2.2.1⟩⟩⟩⟩⟩⟩)⟩, ⟨by (with_reducible repeat (first | apply yA | apply yB | apply yC)); exact zF HO_217001.out (fun _ hk => ⟨hk.1, ⟨hk.2.1, ⟨hk.2.2.1, ⟨hk.2.2.2.1, ⟨hk.2.2.2.2.1, ⟨hk.2.2.2.2.2.1, hk.2.2.2.2.2.2.1⟩⟩⟩⟩⟩⟩)⟩, ⟨by (with_reducible repeat (first | apply yA | apply yB | apply yC)); exact zF HO_225000.out (fun _ hk => ⟨hk.1, ⟨hk.2.1, ⟨hk.2.2.1, ⟨hk.2.2.2.1, ⟨hk.2.2.2.2.1, ⟨hk.2.2.2.2.2.1, hk.2.2.2.2.2.2.1⟩⟩⟩⟩⟩⟩)⟩, ⟨by (with_reducible repeat (first | apply yA | apply yB | apply yC)); exact zF HO_225001.out (fun _ hk => ⟨hk.1, ⟨hk.2.1, ⟨hk.2.2.1, ⟨hk.2.2.2.1, ⟨hk.2.2.2.2.1, ⟨hk.2.2.2.2.2.1, hk.2.2.2.2.2.2.1⟩⟩⟩⟩⟩⟩)⟩, ⟨by (with_reducible repeat (first | refine yM ?_ _ | refine yO ?_ | refine yN ?_ _)); exact BK179.out⟩, ⟨by (with_reducible repeat (first | refine yM ?_ _ | refine yO ?_ | refine yN ?_ _)); exact BK180.out⟩, ⟨by (with_reducible repeat (first | refine yM ?_ _ | refine yO ?_ | refine yN ?_ _)); exact BK202.out⟩, ⟨by (with_reducible repeat (first | refine yM ?_ _ | refine yO ?_ | refine yN ?_ _)); exact BK209.out⟩, ⟨by (with_reducible repeat (first | refine yM ?_ _ | refine yO ?_ | refine yN ?_ _)); exact BK216.out⟩, ⟨by (with_reducible repeat (first | refine yM ?_ _ | refine yO ?_ | refine yN ?_ _)); exact BK224.out⟩, ⟨by repeat (first | (with_reducible first | exact HB.out | apply yQ | apply yL | apply yP | refine yE ?_ GE179.out | refine yE ?_ GE180.out | refine yE ?_ GE202.out | refine yE ?_ GE209.out | refine yE ?_ GE216.out | refine yE ?_ GE224.out) | exact HB.out)⟩⟩
              · replace c140 := Bool.eq_false_iff.mpr c140
                subst c140
                have H1 : (laws_FnExactCutBox.j1 kj24 t201 true l0_0 l0_1 l1_0 l1_1 t195 t198 t217 t220) = some r := by rw [if_neg (show ¬ (false = true) by decide)] at H; exact H
                clear H; have H := H1; clear H1
                have H' := yD H
                clear H; have hnb153 := NB224_179.out; have hnc153 := NB179_224.out; have hnb154 := NB224_180.out; have hnc154 := NB180_224.out; have hnb155 := NB224_202.out; have hnc155 := NB202_224.out; have hnb156 := NB224_209.out; have hnc156 := NB209_224.out; have hnb157 := NB224_216.out; have hnc157 := NB216_224.out
                obtain ⟨hcz158_0, hcz158_1⟩ := cz2 BK224.out
                obtain ⟨hfz158_0, hfz158_1⟩ := fz2 BK224.out
                have hnb159 := NB202_179.out; have hnc159 := NB179_202.out; have hnb160 := NB202_180.out; have hnc160 := NB180_202.out; have hnb161 := NB202_209.out; have hnc161 := NB209_202.out; have hnb162 := NB202_216.out; have hnc162 := NB216_202.out
                obtain ⟨hcz163_0, hcz163_1⟩ := cz2 BK202.out
                obtain ⟨hfz163_0, hfz163_1⟩ := fz2 BK202.out
                go_wp2_with (first | (go_at_call 10; (with_reducible refine (laws_eqBox.calls kj24 _ _ t217 _ _ t220 _ _ t195 _ _ t198 false _ ?side1 ?side2 ?side3 ?side4 ?side5 ?side6 ?side7 ?side8 A139.out).mono ?_); (case side1 => exact kV (zA HO_225000.out).2.2); (case side2 => exact (zA HO_225000.out).2.1); (case side3 => exact kV (zA HO_225001.out).2.2); (case side4 => exact (zA HO_225001.out).2.1); (case side5 => exact kV (zA HO_203000.out).2.2); (case side6 => exact (zA HO_203000.out).2.1); (case side7 => exact kV (zA HO_203001.out).2.2); (case side8 => exact (zA HO_203001.out).2.1); rintro e w164 ⟨rfl, hb⟩; have n0_ := yD (zE (kA HO_203000) hb); have n1_ := yD (zE (kA HO_203001) hb); have n2_ := yD (zE (kA HO_210000) hb); have n3_ := yD (zE (kA HO_210001) hb); have n4_ := yD (zE (kA HO_217000) hb); have n5_ := yD (zE (kA HO_217001) hb); have n6_ := yD (zE (kA HO_225000) hb); have n7_ := yD (zE (kA HO_225001) hb); have n8_ := yD (zE (kA HO228) hb); have n9_ := yD (zE (kA HO231) hb); have n10_ := yD (zE (kA HO235) hb); have n11_ := yD (zE (kA HO238) hb); have n12_ := yD (zB (g := gb179) (o := .cells #[.slice A0_0 l0_0.length c0_0, .slice A0_1 l0_1.length c0_1] 24 (0, 0)) (kM BK179) hb); have n13_ := yD (zB (g := gb180) (o := .cells #[.slice A1_0 l1_0.length c1_0, .slice A1_1 l1_1.length c1_1] 24 (0, 0)) (kM BK180) hb); have n14_ := yD (zB (g := gb202) (o := .cells #[.slice Ao43 t195.length co43, .slice Ao45 t198.length co45] 26 (0, 0)) (kM BK202) hb); have n15_ := yD (zB (g := gb209) (o := .cells #[.slice Ao51 t203.length co51, .slice Ao56 t206.length co56] 26 (0, 0)) (kM BK209) hb); have n16_ := yD (zB (g := gb216) (o := .cells #[.slice Ao61 t210.length co61, .slice Ao67 t213.length co67] 26 (0, 0)) (kM BK216) hb); have n17_ := yD (zB (g := gb224) (o := .cells #[.slice Ao71 t217.length co71, .slice Ao78 t220.length co78] 26 (0, 0)) (kM BK224) hb); have n18_ := yD (zC (kB HB) hb); clear HO_203000; clear HO_203001; clear HO_210000; clear HO_210001; clear HO_217000; clear HO_217001; clear HO_225000; clear HO_225001; clear HO228; clear HO231; clear HO235; clear HO238; clear BK179; clear BK180; clear BK202; clear BK209; clear BK216; clear BK224; clear HB; have HO_203000 := n0_; have HO_203001 := n1_; have HO_210000 := n2_; have HO_210001 := n3_; have HO_217000 := n4_; have HO_217001 := n5_; have HO_225000 := n6_; have HO_225001 := n7_; have HO228 := n8_; have HO231 := n9_; have HO235 := n10_; have HO238 := n11_; have BK179 := n12_; have BK180 := n13_; have BK202 := n14_; have BK209 := n15_; have BK216 := n16_; have BK224 := n17_; have HB := n18_; clear n0_ n1_ n2_ n3_ n4_ n5_ n6_ n7_ n8_ n9_ n10_ n11_ n12_ n13_ n14_ n15_ n16_ n17_ n18_; (try clear hb); (try clear hb2); (try clear hk); (try clear hi)))
                go_meet
                case rel => exact ⟨_, (true), (by first | rfl | (simp; done) | (simp [*]; done)), H', ⟨by have := HJ24.out; first | omega | exact Nat.le_refl _⟩, ⟨by (with_reducible repeat (first | apply yA | apply yB | apply yC)); exact zF HO_203000.out (fun _ hk => ⟨hk.1, ⟨hk.2.1, ⟨hk.2.2.1, ⟨hk.2.2.2.1, ⟨hk.2.2.2.2.1, ⟨hk.2.2.2.2.2.1, hk.2.2.2.2.2.2.1⟩⟩⟩⟩⟩⟩)⟩, ⟨by (with_reducible repeat (first | apply yA | apply yB | apply yC)); exact zF HO_203001.out (fun _ hk => ⟨hk.1, ⟨hk.2.1, ⟨hk.2.2.1, ⟨hk.2.2.2.1, ⟨hk.2.2.2.2.1, ⟨hk.2.2.2.2.2.1, hk.2.2.2.2.2.2.1⟩⟩⟩⟩⟩⟩)⟩, ⟨by (with_reducible repeat (first | apply yA | apply yB | apply yC)); exact zF HO_210000.out (fun _ hk => ⟨hk.1, ⟨hk.2.1, ⟨hk.2.2.1, ⟨hk.2.2.2.1, ⟨hk.2.2.2.2.1, ⟨hk.2.2.2.2.2.1, hk.2.2.2.2.2.2.1⟩⟩⟩⟩⟩⟩)⟩, ⟨by (with_reducible repeat (first | apply yA | apply yB | apply yC)); exact zF HO_210001.out (fun _ hk => ⟨hk.1, ⟨hk.2.1, ⟨hk.2.2.1, ⟨hk.2.2.2.1, ⟨hk.2.2.2.2.1, ⟨hk.2.2.2.2.2.1, hk.2.2.2.2.2.2.1⟩⟩⟩⟩⟩⟩)⟩, ⟨by (with_reducible repeat (first | apply yA | apply yB | apply yC)); exact zF HO_217000.out (fun _ hk => ⟨hk.1, ⟨hk.2.1, ⟨hk.2.2.1, ⟨hk.2.2.2.1, ⟨hk.2.2.2.2.1, ⟨hk.2.2.2.2.2.1, hk.2.2.2.2.2.2.1⟩⟩⟩⟩⟩⟩)⟩, ⟨by (with_reducible repeat (first | apply yA | apply yB | apply yC)); exact zF HO_217001.out (fun _ hk => ⟨hk.1, ⟨hk.2.1, ⟨hk.2.2.1, ⟨hk.2.2.2.1, ⟨hk.2.2.2.2.1, ⟨hk.2.2.2.2.2.1, hk.2.2.2.2.2.2.1⟩⟩⟩⟩⟩⟩)⟩, ⟨by (with_reducible repeat (first | apply yA | apply yB | apply yC)); exact zF HO_225000.out (fun _ hk => ⟨hk.1, ⟨hk.2.1, ⟨hk.2.2.1, ⟨hk.2.2.2.1, ⟨hk.2.2.2.2.1, ⟨hk.2.2.2.2.2.1, hk.2.2.2.2.2.2.1⟩⟩⟩⟩⟩⟩)⟩, ⟨by (with_reducible repeat (first | apply yA | apply yB | apply yC)); exact zF HO_225001.out (fun _ hk => ⟨hk.1, ⟨hk.2.1, ⟨hk.2.2.1, ⟨hk.2.2.2.1, ⟨hk.2.2.2.2.1, ⟨hk.2.2.2.2.2.1, hk.2.2.2.2.2.2.1⟩⟩⟩⟩⟩⟩)⟩, ⟨by (with_reducible repeat (first | refine yM ?_ _ | refine yO ?_ | refine yN ?_ _)); exact BK179.out⟩, ⟨by (with_reducible repeat (first | refine yM ?_ _ | refine yO ?_ | refine yN ?_ _)); exact BK180.out⟩, ⟨by (with_reducible repeat (first | refine yM ?_ _ | refine yO ?_ | refine yN ?_ _)); exact BK202.out⟩, ⟨by (with_reducible repeat (first | refine yM ?_ _ | refine yO ?_ | refine yN ?_ _)); exact BK209.out⟩, ⟨by (with_reducible repeat (first | refine yM ?_ _ | refine yO ?_ | refine yN ?_ _)); exact BK216.out⟩, ⟨by (with_reducible repeat (first | refine yM ?_ _ | refine yO ?_ | refine yN ?_ _)); exact BK224.out⟩, ⟨by repeat (first | (with_reducible first | exact HB.out | apply yQ | apply yL | apply yP | refine yE ?_ GE179.out | refine yE ?_ GE180.out | refine yE ?_ GE202.out | refine yE ?_ GE209.out | refine yE ?_ GE216.out | refine yE ?_ GE224.out) | exact HB.out)⟩⟩
          case rest =>
            clear HC114; try clear c1; try clear p2; try clear c8; try clear c10; try clear c11; try clear c12; try clear c13; try clear c14; try clear c15; try clear c16; try clear c125; try clear c126; try clear c127; try clear c128; try clear c129; try clear c132; try clear c133; try clear c134; try clear c135; try clear c138; try clear c138b0; try clear c140; try clear c141; try clear c142; try clear c143; try clear c144; try clear c145; try clear c147; try clear c148; try clear c149; try clear c150; try clear c153; try clear c154; try clear c155; try clear c156; try clear c157; try clear c159; try clear c160; try clear c161; try clear c162; try clear hcz130_0; try clear hcz130_1; try clear hcz136_0; try clear hcz136_1; try clear hcz146_0; try clear hcz146_1; try clear hcz151_0; try clear hcz151_1; try clear hcz158_0; try clear hcz158_1; try clear hcz163_0; try clear hcz163_1; try clear hfz130_0; try clear hfz130_1; try clear hfz136_0; try clear hfz136_1; try clear hfz146_0; try clear hfz146_1; try clear hfz151_0; try clear hfz151_1; try clear hfz158_0; try clear hfz158_1; try clear hfz163_0; try clear hfz163_1
            obtain ⟨kq, x82_113, rfl, HA, HJ113, HO_203000, HO_203001, HO_210000, HO_210001, HO_217000, HO_217001, HO_225000, HO_225001, BK179, BK180, BK202, BK209, BK216, BK224, HB⟩ := hcut
            rename_i iq2_1 iq2_2 iq2_3 iq2_4 iq2_5 iq2_6 iq2_7 iq2_8 iq2_9 iq2_10 iq2_11 iq2_12 iq2_13 iq2_14 iq2_15 iq2_16 iq2_17 iq2_18 iq2_19 iq2_20 iq2_21 iq2_22 iq2_23 iq2_24 iq2_25 iq2_26 iq2_27 iq2_28 iq2_29 iq2_30 iq2_31 iq2_32 iq2_33 iq2_34 iq2_35 iq2_36 iq2_37 iq2_38 iq2_39 iq2_40 iq2_41 iq2_42 iq2_43 iq2_44 iq2_45 iq2_46 iq2_47 iq2_48 iq2_49 iq2_50 iq2_51 iq2_52 iq2_53 iq2_54 iq2_55 iq2_56 iq2_57 iq2_58 iq2_59 iq2_60 iq2_61 iq2_62 iq2_63 iq2_64 iq2_65 iq2_66 iq2_67 iq2_68 iq2_69 iq2_70 iq2_71 iq2_72 iq2_73 iq2_74 iq2_75 iq2_76 iq2_77 iq2_78 iq2_79 iq2_80 iq2_81 iq2_82 iq2_83 iq2_84 iq2_85 iq2_86 iq2_87 iq2_88 iq2_89 iq2_90 iq2_91 iq2_92 iq2_93 iq2_94 iq2_95 iq2_96 iq2_97 iq2_98 iq2_99 iq2_100 iq2_101 iq2_102 iq2_103 iq2_104 iq2_105 iq2_106 iq2_107 iq2_108 iq2_109 iq2_110 iq2_111 iq2_112 iq2_113 iq2_114 iq2_115 iq2_116 iq2_117 iq2_118 iq2_119 iq2_120 iq2_121 iq2_122 iq2_123 iq2_124 iq2_125 iq2_126 iq2_127 iq2_128 iq2_129 iq2_130 iq2_131 iq2_132
            revert k A0_0 c0_0 l0_0 A0_1 c0_1 l0_1 A1_0 c1_0 l1_0 A1_1 c1_1 l1_1 r w hu24 hu26 HR0_0 HC0_0 HR0_1 HC0_1 HR1_0 HC1_0 HR1_1 HC1_1 iq1_1 t181 iq1_2 A3 c4b0 t182 iq1_3 A10 c11b0 t183 t186 iq1_4 A19 t189 t192 iq1_5 A20 t195 t198 t201 iq1_6 A21 t203 t206 iq1_7 A22 t210 t213 iq2_1 A23 t217 t220 t223 A24 iq1_8 gb179 w26 GW179 GE179 gb180 w27 GW180 GE180 NB179_180 NB180_179 hnb28 hnc28 hcz29_0 hcz29_1 hfz29_0 hfz29_1 w30 hcz31_0 hcz31_1 hfz31_0 hfz31_1 w32 HT_ HW_ w33 iq1_9 v184 v187 v190 v193 gb202 w42 hS_ GW202 GE202 NB179_202 NB202_179 NB180_202 NB202_180 iq1_10 Ao43 co43 Ao45 co45 hs44 hfs44 hns44_0 hns44_1 hms44_0 hms44_1 hs46 hfs46 hns46_0 hns46_1 hms46_0 hms46_1 iq2_2 hnb47 hnc47 hcz48_0 hcz48_1 hfz48_0 hfz48_1 w49 gb209 w50 GW209 GE209 NB179_209 NB209_179 NB180_209 NB209_180 NB202_209 NB209_202 Ao51 co51 hnb52 hnc52 hnb53 hnc53 hnb54 hnc54 hcz55_0 hcz55_1 hfz55_0 hfz55_1 Ao56 co56 hnb57 hnc57 hcz58_0 hcz58_1 hfz58_0 hfz58_1 w59 gb216 w60 GW216 GE216 NB179_216 NB216_179 NB180_216 NB216_180 NB202_216 NB216_202 NB209_216 NB216_209 Ao61 co61 hnb62 hnc62 hnb63 hnc63 hnb64 hnc64 hnb65 hnc65 hcz66_0 hcz66_1 hfz66_0 hfz66_1 Ao67 co67 hcz68_0 hcz68_1 hfz68_0 hfz68_1 w69 gb224 w70 iq1_11 iq1_12 iq1_13 iq1_14 iq1_15 iq1_16 iq1_17 GW224 GE224 NB179_224 NB224_179 NB180_224 NB224_180 NB202_224 NB224_202 NB209_224 NB224_209 NB216_224 NB224_216 Ao71 co71 hnb72 hnc72 hnb73 hnc73 hnb74 hnc74 hnb75 hnc75 hnb76 hnc76 hcz77_0 hcz77_1 hfz77_0 hfz77_1 Ao78 co78 HO185 HO188 HO191 HO194 HO197 HO200 HO205 HO208 HO212 HO215 HO219 HO222 iq2_3 iq2_4 iq2_5 iq2_6 iq2_7 iq2_8 iq2_9 iq2_10 iq2_11 iq2_12 iq2_13 iq2_14 iq2_15 iq2_16 iq2_17 iq2_18 iq2_19 iq2_20 iq2_21 iq2_22 iq2_23 iq2_24 iq2_25 iq2_26 iq2_27 iq2_28 iq2_29 iq2_30 iq2_31 iq2_32 iq2_33 iq2_34 iq2_35 iq2_36 iq2_37 iq2_38 iq2_39 iq2_40 iq2_41 iq2_42 iq2_43 iq2_44 iq2_45 iq2_46 iq2_47 iq2_48 iq2_49 iq2_50 iq2_51 iq2_52 iq2_53 iq2_54 iq2_55 iq2_56 iq2_57 iq2_58 iq2_59 iq2_60 iq2_61 iq2_62 iq2_63 iq2_64 iq2_65 iq2_66 iq2_67 u82 iq2_68 iq2_69 iq2_70 iq2_71 iq2_72 iq2_73 iq2_74 iq2_75 iq2_76 iq2_77 iq2_78 iq2_79 iq2_80 iq2_81 iq2_82 iq2_83 iq2_84 iq2_85 iq2_86 iq2_87 iq2_88 iq2_89 iq2_90 iq2_91 iq2_92 iq2_93 iq2_94 iq2_95 iq2_96 iq2_97 iq2_98 iq2_99 iq2_100 iq2_101 iq2_102 iq2_103 kj24 HJ24 iq2_104 t226 t229 iq2_105 A106 A107 iq2_106 t233 t236 iq2_107 A109 A110 iq2_108 t240 t241 t242 H A112 t243 t244 t245 A113 w115 iq2_109 w116 Ao117 co117 Ao118 co118 iq2_110 w119 iq2_111 w120 iq2_112 w121 Ao122 co122 Ao123 co123 iq2_113 w124 hHeld hnb125 hnc125 hnb126 hnc126 hnb127 hnc127 hnb128 hnc128 hnb129 hnc129 hcz130_0 hcz130_1 hfz130_0 hfz130_1 w131 hnb132 hnc132 hnb133 hnc133 hnb134 hnc134 hnb135 hnc135 hcz136_0 hcz136_1 hfz136_0 hfz136_1 w137 iq2_114 iq2_115 iq2_116 iq2_117 iq2_118 iq2_119 iq2_120 iq2_121 iq2_122 iq2_123 iq2_124 iq2_125 iq2_126 iq2_127 HO228 HO231 HO235 HO238 iq2_128 iq2_129 iq2_130 iq2_131 iq2_132 wc u17 u18 u19 u20 u21 u22 u23 u24 u25 u26 u27 u28 u29 u30 u31 u32 u33 u34 u35 u36 u37 u38 u39 u40 u41 u42 u43 u44 u45 u46 u47 u48 u49 u50 u51 u52 u53 u54 u55 u56 u57 u58 u59 u60 u61 u62 u63 u64 u65 u66 u67 u68 u69 u70 u71 u72 u73 u74 u75 u76 u77 u78 u79 u80 u81 u83 u84 u85 u86 u87 u88 u89 u90 u91 u92 u93 u94 u95 u96 u97 u98 u99 u100 u101 u102 u103 u104 u105 u106 u107 u108 u109 u110 u111 u112 u113 u114 u115 u116 u117 u118 kq x82_113 HA HJ113 HO_203000 HO_203001 HO_210000 HO_210001 HO_217000 HO_217001 HO_225000 HO_225001 BK179 BK180 BK202 BK209 BK216 BK224 HB
            exact hR_.out
        · replace c111 := Bool.eq_false_iff.mpr c111
          subst c111
          have H1 : (some false) = some r := by rw [if_neg (show ¬ (false = true) by decide)] at H; exact H
          clear H; have H := H1; clear H1; obtain rfl := Option.some.inj H
          try go_wp2
          have n0_ := yD (yC HO_203000.out)
          have n1_ := yD (yC HO_203001.out)
          have n2_ := yD (yC HO_210000.out)
          have n3_ := yD (yC HO_210001.out)
          have n4_ := yD (yC HO_217000.out)
          have n5_ := yD (yC HO_217001.out)
          have n6_ := yD (yC HO_225000.out)
          have n7_ := yD (yC HO_225001.out)
          have n8_ := yD (yO BK179.out)
          have n9_ := yD (yO BK180.out)
          have n10_ := yD (yO BK202.out)
          have n11_ := yD (yO BK209.out)
          have n12_ := yD (yO BK216.out)
          have n13_ := yD (yO BK224.out)
          have n14_ := yD (yP HB.out)
          clear HO_203000 HO_203001 HO_210000 HO_210001 HO_217000 HO_217001 HO_225000 HO_225001 BK179 BK180 BK202 BK209 BK216 BK224 HB; have HO_203000 := n0_; have HO_203001 := n1_; have HO_210000 := n2_; have HO_210001 := n3_; have HO_217000 := n4_; have HO_217001 := n5_; have HO_225000 := n6_; have HO_225001 := n7_; have BK179 := n8_; have BK180 := n9_; have BK202 := n10_; have BK209 := n11_; have BK216 := n12_; have BK224 := n13_; have HB := n14_; clear n0_ n1_ n2_ n3_ n4_ n5_ n6_ n7_ n8_ n9_ n10_ n11_ n12_ n13_ n14_
          refine start_ (n := 5) (S := fun w' => w'.cell? ⟨gb209, 0, none⟩ = some (.slice Ao51 t203.length co51) ∧ w'.cell? ⟨gb209, 1, none⟩ = some (.slice Ao56 t206.length co56) ∧ w'.cell? ⟨gb179, 0, none⟩ = some (.slice A0_0 l0_0.length c0_0) ∧ w'.cell? ⟨gb179, 1, none⟩ = some (.slice A0_1 l0_1.length c0_1)) (ds := []) (bz 5 0) (by kernel_rfl) rfl rfl ⟨(yG BK209.out 0).trans rfl, (yG BK209.out 1).trans rfl, (yG BK179.out 0).trans rfl, (yG BK179.out 1).trans rfl⟩ (fun hHeld => ?_)
          generalize wc.drew = w273 at HO_203000 HO_203001 HO_210000 HO_210001 HO_217000 HO_217001 HO_225000 HO_225001 BK179 BK180 BK202 BK209 BK216 BK224 HB hHeld ⊢
          refine pC 0 54 (bz 5 1) rfl rfl (by kernel_rfl) (fun _ _ _ h => h) (by rfl) hHeld (by rintro w' ⟨s0, s1, s2, s3⟩; go_simp; with_reducible rfl) (by simp only [Act.put, zH, zI, zJ, i64_w, i32_w]; rfl) ?_
          refine pC 1 55 (bz 5 3) rfl rfl (by kernel_rfl) (fun _ _ _ h => h) (by rfl) hHeld (by rintro w' ⟨s0, s1, s2, s3⟩; go_simp; with_reducible rfl) (by simp only [Act.put, zH, zI, zJ, i64_w, i32_w]; rfl) ?_
          refine one_ (i := 2) (N := some 56) (bz 5 7) rfl rfl (by kernel_rfl) (by decide) (fun K hK => ?_)
          refine goes_ Try.func8 (by kernel_rfl) rfl #[.agg #[.slice A0_0 l0_0.length c0_0, .slice A0_1 l0_1.length c0_1]] (by rfl) rfl rfl (by (try simp only [zK, zL, zM]); first | done | rfl | (simp only [zN, zO]; rfl)) ?_
          with_reducible refine (laws_toBox.calls kj24 _ _ l0_0 _ _ l0_1 t226 t229 _ ?side1 ?side2 ?side3 ?side4 A106.out).mono ?_
          (case side1 => exact kV (yY HR0_0.out HB.out))
          (case side2 => exact HC0_0.out)
          (case side3 => exact kV (yY HR0_1.out HB.out))
          (case side4 => exact HC0_1.out)
          rintro e w274 ⟨v227, v230, rfl, ho0, ho1, hb⟩
          refine ⟨_, rfl, ?_⟩
          have n0_ := yD (zF (yI (yI (Kd.R_old (kA HO_203000) hb) (yH ho0)) (yH ho1)) (fun _ h_ => h_.1))
          have n1_ := yD (zF (yI (yI (Kd.R_old (kA HO_203001) hb) (yH ho0)) (yH ho1)) (fun _ h_ => h_.1))
          have n2_ := yD (zF (yI (yI (Kd.R_old (kA HO_210000) hb) (yH ho0)) (yH ho1)) (fun _ h_ => h_.1))
          have n3_ := yD (zF (yI (yI (Kd.R_old (kA HO_210001) hb) (yH ho0)) (yH ho1)) (fun _ h_ => h_.1))
          have n4_ := yD (zF (yI (yI (Kd.R_old (kA HO_217000) hb) (yH ho0)) (yH ho1)) (fun _ h_ => h_.1))
          have n5_ := yD (zF (yI (yI (Kd.R_old (kA HO_217001) hb) (yH ho0)) (yH ho1)) (fun _ h_ => h_.1))
          have n6_ := yD (zF (yI (yI (Kd.R_old (kA HO_225000) hb) (yH ho0)) (yH ho1)) (fun _ h_ => h_.1))
          have n7_ := yD (zF (yI (yI (Kd.R_old (kA HO_225001) hb) (yH ho0)) (yH ho1)) (fun _ h_ => h_.1))
          have n8_ := yD (yZ (yJ (yJ (yJ (yJ (yJ (yJ (yJ (yJ ho0 (yK (kA HO_203000))) (yK (kA HO_203001))) (yK (kA HO_210000))) (yK (kA HO_210001))) (yK (kA HO_217000))) (yK (kA HO_217001))) (yK (kA HO_225000))) (yK (kA HO_225001))) (below_size (kB HB)))
          have n9_ := yD (yZ (yJ (yJ (yJ (yJ (yJ (yJ (yJ (yJ ho1 (yK (kA HO_203000))) (yK (kA HO_203001))) (yK (kA HO_210000))) (yK (kA HO_210001))) (yK (kA HO_217000))) (yK (kA HO_217001))) (yK (kA HO_225000))) (yK (kA HO_225001))) (below_size (kB HB)))
          have n10_ := yD (zB (g := gb179) (o := .cells #[.slice A0_0 l0_0.length c0_0, .slice A0_1 l0_1.length c0_1] 24 (0, 0)) (kM BK179) hb)
          have n11_ := yD (zB (g := gb180) (o := .cells #[.slice A1_0 l1_0.length c1_0, .slice A1_1 l1_1.length c1_1] 24 (0, 0)) (kM BK180) hb)
          have n12_ := yD (zB (g := gb202) (o := .cells #[.slice Ao43 t195.length co43, .slice Ao45 t198.length co45] 26 (0, 0)) (kM BK202) hb)
          have n13_ := yD (zB (g := gb209) (o := .cells #[.slice Ao51 t203.length co51, .slice Ao56 t206.length co56] 26 (0, 0)) (kM BK209) hb)
          have n14_ := yD (zB (g := gb216) (o := .cells #[.slice Ao61 t210.length co61, .slice Ao67 t213.length co67] 26 (0, 0)) (kM BK216) hb)
          have n15_ := yD (zB (g := gb224) (o := .cells #[.slice Ao71 t217.length co71, .slice Ao78 t220.length co78] 26 (0, 0)) (kM BK224) hb)
          have n16_ := yD (zC (kB HB) hb)
          clear HO_203000 HO_203001 HO_210000 HO_210001 HO_217000 HO_217001 HO_225000 HO_225001 BK179 BK180 BK202 BK209 BK216 BK224 HB; have HO_203000 := n0_; have HO_203001 := n1_; have HO_210000 := n2_; have HO_210001 := n3_; have HO_217000 := n4_; have HO_217001 := n5_; have HO_225000 := n6_; have HO_225001 := n7_; have HO228 := n8_; have HO231 := n9_; have BK179 := n10_; have BK180 := n11_; have BK202 := n12_; have BK209 := n13_; have BK216 := n14_; have BK224 := n15_; have HB := n16_; clear n0_ n1_ n2_ n3_ n4_ n5_ n6_ n7_ n8_ n9_ n10_ n11_ n12_ n13_ n14_ n15_ n16_; (try clear hb); (try clear hb2); (try clear hk); (try clear hi); (try clear ho0); (try clear ho1)
          obtain ⟨Ao275, co275, eo275⟩ := Kd.R_slice HO228.out
          (first | subst eo275 | (injection eo275 with f1_ f2_ f3_; have f4_ := f1_.symm; have f5_ := f3_.symm; clear f1_ f2_ f3_; subst f4_; subst f5_))
          obtain ⟨Ao276, co276, eo276⟩ := Kd.R_slice HO231.out
          (first | subst eo276 | (injection eo276 with f1_ f2_ f3_; have f4_ := f1_.symm; have f5_ := f3_.symm; clear f1_ f2_ f3_; subst f4_; subst f5_))
          refine hK.out _ _ ⟨(yG BK209.out 0).trans rfl, (yG BK209.out 1).trans rfl, (yG BK179.out 0).trans rfl, (yG BK179.out 1).trans rfl⟩ (fun hHeld => ?_)
          clear hK K
          refine norm_ (a' := ?_) ?_ ?_
          rotate_left
          · show Act.put _ (some 56) _ = _
            simp only [Act.put, zH, zI, zJ, i64_w, i32_w]
            rfl
          refine one_ (i := 3) (N := some 57) (bz 5 15) rfl rfl (by kernel_rfl) (by decide) (fun K hK => ?_)
          refine goes_ Try.func10 (by kernel_rfl) rfl #[.agg #[.slice Ao51 t203.length co51, .slice Ao56 t206.length co56], .agg #[.slice Ao275 t226.length co275, .slice Ao276 t229.length co276]] (by rfl) rfl rfl (by (try simp only [zK, zL, zM]); first | done | rfl | (simp only [zN, zO]; rfl)) ?_
          with_reducible refine (laws_eqBox.calls kj24 _ _ t203 _ _ t206 _ _ t226 _ _ t229 true _ ?side1 ?side2 ?side3 ?side4 ?side5 ?side6 ?side7 ?side8 A107.out).mono ?_
          (case side1 => exact kV (zA HO_210000.out).2.2)
          (case side2 => exact (zA HO_210000.out).2.1)
          (case side3 => exact kV (zA HO_210001.out).2.2)
          (case side4 => exact (zA HO_210001.out).2.1)
          (case side5 => exact kV (zA HO228.out).2.2)
          (case side6 => exact (zA HO228.out).2.1)
          (case side7 => exact kV (zA HO231.out).2.2)
          (case side8 => exact (zA HO231.out).2.1)
          rintro e w277 ⟨rfl, hb⟩
          refine ⟨_, rfl, ?_⟩
          have n0_ := yD (zE (kA HO_203000) hb)
          have n1_ := yD (zE (kA HO_203001) hb)
          have n2_ := yD (zE (kA HO_210000) hb)
          have n3_ := yD (zE (kA HO_210001) hb)
          have n4_ := yD (zE (kA HO_217000) hb)
          have n5_ := yD (zE (kA HO_217001) hb)
          have n6_ := yD (zE (kA HO_225000) hb)
          have n7_ := yD (zE (kA HO_225001) hb)
          have n8_ := yD (zE (kA HO228) hb)
          have n9_ := yD (zE (kA HO231) hb)
          have n10_ := yD (zB (g := gb179) (o := .cells #[.slice A0_0 l0_0.length c0_0, .slice A0_1 l0_1.length c0_1] 24 (0, 0)) (kM BK179) hb)
          have n11_ := yD (zB (g := gb180) (o := .cells #[.slice A1_0 l1_0.length c1_0, .slice A1_1 l1_1.length c1_1] 24 (0, 0)) (kM BK180) hb)
          have n12_ := yD (zB (g := gb202) (o := .cells #[.slice Ao43 t195.length co43, .slice Ao45 t198.length co45] 26 (0, 0)) (kM BK202) hb)
          have n13_ := yD (zB (g := gb209) (o := .cells #[.slice Ao51 t203.length co51, .slice Ao56 t206.length co56] 26 (0, 0)) (kM BK209) hb)
          have n14_ := yD (zB (g := gb216) (o := .cells #[.slice Ao61 t210.length co61, .slice Ao67 t213.length co67] 26 (0, 0)) (kM BK216) hb)
          have n15_ := yD (zB (g := gb224) (o := .cells #[.slice Ao71 t217.length co71, .slice Ao78 t220.length co78] 26 (0, 0)) (kM BK224) hb)
          have n16_ := yD (zC (kB HB) hb)
          clear HO_203000 HO_203001 HO_210000 HO_210001 HO_217000 HO_217001 HO_225000 HO_225001 HO228 HO231 BK179 BK180 BK202 BK209 BK216 BK224 HB; have HO_203000 := n0_; have HO_203001 := n1_; have HO_210000 := n2_; have HO_210001 := n3_; have HO_217000 := n4_; have HO_217001 := n5_; have HO_225000 := n6_; have HO_225001 := n7_; have HO228 := n8_; have HO231 := n9_; have BK179 := n10_; have BK180 := n11_; have BK202 := n12_; have BK209 := n13_; have BK216 := n14_; have BK224 := n15_; have HB := n16_; clear n0_ n1_ n2_ n3_ n4_ n5_ n6_ n7_ n8_ n9_ n10_ n11_ n12_ n13_ n14_ n15_ n16_; (try clear hb); (try clear hb2); (try clear hk); (try clear hi)
          refine hK.out _ _ ⟨(yG BK209.out 0).trans rfl, (yG BK209.out 1).trans rfl, (yG BK179.out 0).trans rfl, (yG BK179.out 1).trans rfl⟩ (fun hHeld => ?_)
          clear hK K
          refine norm_ (a' := ?_) ?_ ?_
          rotate_left
          · show Act.put _ (some 57) _ = _
            simp only [Act.put, zH, zI, zJ, i64_w, i32_w]
            rfl
          refine pA 4 58 (bz 5 31) rfl rfl (by kernel_rfl) (fun _ _ _ h => h) (by rfl) (fun _ => by go_simp; with_reducible rfl) (by simp only [Act.put, zH, zI, zJ, i64_w, i32_w]; rfl) ?_
          refine done_ (by kernel_rfl) ?_
          try go_wp2
          have n0_ := yD (yC HO_203000.out)
          have n1_ := yD (yC HO_203001.out)
          have n2_ := yD (yC HO_210000.out)
          have n3_ := yD (yC HO_210001.out)
          have n4_ := yD (yC HO_217000.out)
          have n5_ := yD (yC HO_217001.out)
          have n6_ := yD (yC HO_225000.out)
          have n7_ := yD (yC HO_225001.out)
          have n8_ := yD (yC HO228.out)
          have n9_ := yD (yC HO231.out)
          have n10_ := yD (yO BK179.out)
          have n11_ := yD (yO BK180.out)
          have n12_ := yD (yO BK202.out)
          have n13_ := yD (yO BK209.out)
          have n14_ := yD (yO BK216.out)
          have n15_ := yD (yO BK224.out)
          have n16_ := yD (yP HB.out)
          clear HO_203000 HO_203001 HO_210000 HO_210001 HO_217000 HO_217001 HO_225000 HO_225001 HO228 HO231 BK179 BK180 BK202 BK209 BK216 BK224 HB; have HO_203000 := n0_; have HO_203001 := n1_; have HO_210000 := n2_; have HO_210001 := n3_; have HO_217000 := n4_; have HO_217001 := n5_; have HO_225000 := n6_; have HO_225001 := n7_; have HO228 := n8_; have HO231 := n9_; have BK179 := n10_; have BK180 := n11_; have BK202 := n12_; have BK209 := n13_; have BK216 := n14_; have BK224 := n15_; have HB := n16_; clear n0_ n1_ n2_ n3_ n4_ n5_ n6_ n7_ n8_ n9_ n10_ n11_ n12_ n13_ n14_ n15_ n16_
          refine start_ (n := 5) (S := fun w' => w'.cell? ⟨gb216, 0, none⟩ = some (.slice Ao61 t210.length co61) ∧ w'.cell? ⟨gb216, 1, none⟩ = some (.slice Ao67 t213.length co67) ∧ w'.cell? ⟨gb180, 0, none⟩ = some (.slice A1_0 l1_0.length c1_0) ∧ w'.cell? ⟨gb180, 1, none⟩ = some (.slice A1_1 l1_1.length c1_1)) (ds := []) (bz 5 0) (by kernel_rfl) rfl rfl ⟨(yG BK216.out 0).trans rfl, (yG BK216.out 1).trans rfl, (yG BK180.out 0).trans rfl, (yG BK180.out 1).trans rfl⟩ (fun hHeld => ?_)
          generalize w277.drew = w278 at HO_203000 HO_203001 HO_210000 HO_210001 HO_217000 HO_217001 HO_225000 HO_225001 HO228 HO231 BK179 BK180 BK202 BK209 BK216 BK224 HB hHeld ⊢
          refine pC 0 59 (bz 5 1) rfl rfl (by kernel_rfl) (fun _ _ _ h => h) (by rfl) hHeld (by rintro w' ⟨s0, s1, s2, s3⟩; go_simp; with_reducible rfl) (by simp only [Act.put, zH, zI, zJ, i64_w, i32_w]; rfl) ?_
          refine pC 1 60 (bz 5 3) rfl rfl (by kernel_rfl) (fun _ _ _ h => h) (by rfl) hHeld (by rintro w' ⟨s0, s1, s2, s3⟩; go_simp; with_reducible rfl) (by simp only [Act.put, zH, zI, zJ, i64_w, i32_w]; rfl) ?_
          refine one_ (i := 2) (N := some 61) (bz 5 7) rfl rfl (by kernel_rfl) (by decide) (fun K hK => ?_)
          refine goes_ Try.func8 (by kernel_rfl) rfl #[.agg #[.slice A1_0 l1_0.length c1_0, .slice A1_1 l1_1.length c1_1]] (by rfl) rfl rfl (by (try simp only [zK, zL, zM]); first | done | rfl | (simp only [zN, zO]; rfl)) ?_
          with_reducible refine (laws_toBox.calls kj24 _ _ l1_0 _ _ l1_1 t233 t236 _ ?side1 ?side2 ?side3 ?side4 A109.out).mono ?_
          (case side1 => exact kV (yY HR1_0.out HB.out))
          (case side2 => exact HC1_0.out)
          (case side3 => exact kV (yY HR1_1.out HB.out))
          (case side4 => exact HC1_1.out)
          rintro e w279 ⟨v234, v237, rfl, ho0, ho1, hb⟩
          refine ⟨_, rfl, ?_⟩
          have n0_ := yD (zF (yI (yI (Kd.R_old (kA HO_203000) hb) (yH ho0)) (yH ho1)) (fun _ h_ => h_.1))
          have n1_ := yD (zF (yI (yI (Kd.R_old (kA HO_203001) hb) (yH ho0)) (yH ho1)) (fun _ h_ => h_.1))
          have n2_ := yD (zF (yI (yI (Kd.R_old (kA HO_210000) hb) (yH ho0)) (yH ho1)) (fun _ h_ => h_.1))
          have n3_ := yD (zF (yI (yI (Kd.R_old (kA HO_210001) hb) (yH ho0)) (yH ho1)) (fun _ h_ => h_.1))
          have n4_ := yD (zF (yI (yI (Kd.R_old (kA HO_217000) hb) (yH ho0)) (yH ho1)) (fun _ h_ => h_.1))
          have n5_ := yD (zF (yI (yI (Kd.R_old (kA HO_217001) hb) (yH ho0)) (yH ho1)) (fun _ h_ => h_.1))
          have n6_ := yD (zF (yI (yI (Kd.R_old (kA HO_225000) hb) (yH ho0)) (yH ho1)) (fun _ h_ => h_.1))
          have n7_ := yD (zF (yI (yI (Kd.R_old (kA HO_225001) hb) (yH ho0)) (yH ho1)) (fun _ h_ => h_.1))
          have n8_ := yD (zF (yI (yI (Kd.R_old (kA HO228) hb) (yH ho0)) (yH ho1)) (fun _ h_ => h_.1))
          have n9_ := yD (zF (yI (yI (Kd.R_old (kA HO231) hb) (yH ho0)) (yH ho1)) (fun _ h_ => h_.1))
          have n10_ := yD (yZ (yJ (yJ (yJ (yJ (yJ (yJ (yJ (yJ (yJ (yJ ho0 (yK (kA HO_203000))) (yK (kA HO_203001))) (yK (kA HO_210000))) (yK (kA HO_210001))) (yK (kA HO_217000))) (yK (kA HO_217001))) (yK (kA HO_225000))) (yK (kA HO_225001))) (yK (kA HO228))) (yK (kA HO231))) (below_size (kB HB)))
          have n11_ := yD (yZ (yJ (yJ (yJ (yJ (yJ (yJ (yJ (yJ (yJ (yJ ho1 (yK (kA HO_203000))) (yK (kA HO_203001))) (yK (kA HO_210000))) (yK (kA HO_210001))) (yK (kA HO_217000))) (yK (kA HO_217001))) (yK (kA HO_225000))) (yK (kA HO_225001))) (yK (kA HO228))) (yK (kA HO231))) (below_size (kB HB)))
          have n12_ := yD (zB (g := gb179) (o := .cells #[.slice A0_0 l0_0.length c0_0, .slice A0_1 l0_1.length c0_1] 24 (0, 0)) (kM BK179) hb)
          have n13_ := yD (zB (g := gb180) (o := .cells #[.slice A1_0 l1_0.length c1_0, .slice A1_1 l1_1.length c1_1] 24 (0, 0)) (kM BK180) hb)
          have n14_ := yD (zB (g := gb202) (o := .cells #[.slice Ao43 t195.length co43, .slice Ao45 t198.length co45] 26 (0, 0)) (kM BK202) hb)
          have n15_ := yD (zB (g := gb209) (o := .cells #[.slice Ao51 t203.length co51, .slice Ao56 t206.length co56] 26 (0, 0)) (kM BK209) hb)
          have n16_ := yD (zB (g := gb216) (o := .cells #[.slice Ao61 t210.length co61, .slice Ao67 t213.length co67] 26 (0, 0)) (kM BK216) hb)
          have n17_ := yD (zB (g := gb224) (o := .cells #[.slice Ao71 t217.length co71, .slice Ao78 t220.length co78] 26 (0, 0)) (kM BK224) hb)
          have n18_ := yD (zC (kB HB) hb)
          clear HO_203000 HO_203001 HO_210000 HO_210001 HO_217000 HO_217001 HO_225000 HO_225001 HO228 HO231 BK179 BK180 BK202 BK209 BK216 BK224 HB; have HO_203000 := n0_; have HO_203001 := n1_; have HO_210000 := n2_; have HO_210001 := n3_; have HO_217000 := n4_; have HO_217001 := n5_; have HO_225000 := n6_; have HO_225001 := n7_; have HO228 := n8_; have HO231 := n9_; have HO235 := n10_; have HO238 := n11_; have BK179 := n12_; have BK180 := n13_; have BK202 := n14_; have BK209 := n15_; have BK216 := n16_; have BK224 := n17_; have HB := n18_; clear n0_ n1_ n2_ n3_ n4_ n5_ n6_ n7_ n8_ n9_ n10_ n11_ n12_ n13_ n14_ n15_ n16_ n17_ n18_; (try clear hb); (try clear hb2); (try clear hk); (try clear hi); (try clear ho0); (try clear ho1)
          obtain ⟨Ao280, co280, eo280⟩ := Kd.R_slice HO235.out
          (first | subst eo280 | (injection eo280 with f1_ f2_ f3_; have f4_ := f1_.symm; have f5_ := f3_.symm; clear f1_ f2_ f3_; subst f4_; subst f5_))
          obtain ⟨Ao281, co281, eo281⟩ := Kd.R_slice HO238.out
          (first | subst eo281 | (injection eo281 with f1_ f2_ f3_; have f4_ := f1_.symm; have f5_ := f3_.symm; clear f1_ f2_ f3_; subst f4_; subst f5_))
          refine hK.out _ _ ⟨(yG BK216.out 0).trans rfl, (yG BK216.out 1).trans rfl, (yG BK180.out 0).trans rfl, (yG BK180.out 1).trans rfl⟩ (fun hHeld => ?_)
          clear hK K
          refine norm_ (a' := ?_) ?_ ?_
          rotate_left
          · show Act.put _ (some 61) _ = _
            simp only [Act.put, zH, zI, zJ, i64_w, i32_w]
            rfl
          refine one_ (i := 3) (N := some 62) (bz 5 15) rfl rfl (by kernel_rfl) (by decide) (fun K hK => ?_)
          refine goes_ Try.func10 (by kernel_rfl) rfl #[.agg #[.slice Ao61 t210.length co61, .slice Ao67 t213.length co67], .agg #[.slice Ao280 t233.length co280, .slice Ao281 t236.length co281]] (by rfl) rfl rfl (by (try simp only [zK, zL, zM]); first | done | rfl | (simp only [zN, zO]; rfl)) ?_
          with_reducible refine (laws_eqBox.calls kj24 _ _ t210 _ _ t213 _ _ t233 _ _ t236 false _ ?side1 ?side2 ?side3 ?side4 ?side5 ?side6 ?side7 ?side8 A110.out).mono ?_
          (case side1 => exact kV (zA HO_217000.out).2.2)
          (case side2 => exact (zA HO_217000.out).2.1)
          (case side3 => exact kV (zA HO_217001.out).2.2)
          (case side4 => exact (zA HO_217001.out).2.1)
          (case side5 => exact kV (zA HO235.out).2.2)
          (case side6 => exact (zA HO235.out).2.1)
          (case side7 => exact kV (zA HO238.out).2.2)
          (case side8 => exact (zA HO238.out).2.1)
          rintro e w282 ⟨rfl, hb⟩
          refine ⟨_, rfl, ?_⟩
          have n0_ := yD (zE (kA HO_203000) hb)
          have n1_ := yD (zE (kA HO_203001) hb)
          have n2_ := yD (zE (kA HO_210000) hb)
          have n3_ := yD (zE (kA HO_210001) hb)
          have n4_ := yD (zE (kA HO_217000) hb)
          have n5_ := yD (zE (kA HO_217001) hb)
          have n6_ := yD (zE (kA HO_225000) hb)
          have n7_ := yD (zE (kA HO_225001) hb)
          have n8_ := yD (zE (kA HO228) hb)
          have n9_ := yD (zE (kA HO231) hb)
          have n10_ := yD (zE (kA HO235) hb)
          have n11_ := yD (zE (kA HO238) hb)
          have n12_ := yD (zB (g := gb179) (o := .cells #[.slice A0_0 l0_0.length c0_0, .slice A0_1 l0_1.length c0_1] 24 (0, 0)) (kM BK179) hb)
          have n13_ := yD (zB (g := gb180) (o := .cells #[.slice A1_0 l1_0.length c1_0, .slice A1_1 l1_1.length c1_1] 24 (0, 0)) (kM BK180) hb)
          have n14_ := yD (zB (g := gb202) (o := .cells #[.slice Ao43 t195.length co43, .slice Ao45 t198.length co45] 26 (0, 0)) (kM BK202) hb)
          have n15_ := yD (zB (g := gb209) (o := .cells #[.slice Ao51 t203.length co51, .slice Ao56 t206.length co56] 26 (0, 0)) (kM BK209) hb)
          have n16_ := yD (zB (g := gb216) (o := .cells #[.slice Ao61 t210.length co61, .slice Ao67 t213.length co67] 26 (0, 0)) (kM BK216) hb)
          have n17_ := yD (zB (g := gb224) (o := .cells #[.slice Ao71 t217.length co71, .slice Ao78 t220.length co78] 26 (0, 0)) (kM BK224) hb)
          have n18_ := yD (zC (kB HB) hb)
          clear HO_203000 HO_203001 HO_210000 HO_210001 HO_217000 HO_217001 HO_225000 HO_225001 HO228 HO231 HO235 HO238 BK179 BK180 BK202 BK209 BK216 BK224 HB; have HO_203000 := n0_; have HO_203001 := n1_; have HO_210000 := n2_; have HO_210001 := n3_; have HO_217000 := n4_; have HO_217001 := n5_; have HO_225000 := n6_; have HO_225001 := n7_; have HO228 := n8_; have HO231 := n9_; have HO235 := n10_; have HO238 := n11_; have BK179 := n12_; have BK180 := n13_; have BK202 := n14_; have BK209 := n15_; have BK216 := n16_; have BK224 := n17_; have HB := n18_; clear n0_ n1_ n2_ n3_ n4_ n5_ n6_ n7_ n8_ n9_ n10_ n11_ n12_ n13_ n14_ n15_ n16_ n17_ n18_; (try clear hb); (try clear hb2); (try clear hk); (try clear hi)
          refine hK.out _ _ ⟨(yG BK216.out 0).trans rfl, (yG BK216.out 1).trans rfl, (yG BK180.out 0).trans rfl, (yG BK180.out 1).trans rfl⟩ (fun hHeld => ?_)
          clear hK K
          refine norm_ (a' := ?_) ?_ ?_
          rotate_left
          · show Act.put _ (some 62) _ = _
            simp only [Act.put, zH, zI, zJ, i64_w, i32_w]
            rfl
          refine pA 4 63 (bz 5 31) rfl rfl (by kernel_rfl) (fun _ _ _ h => h) (by rfl) (fun _ => by go_simp; with_reducible rfl) (by simp only [Act.put, zH, zI, zJ, i64_w, i32_w]; rfl) ?_
          refine done_ (by kernel_rfl) ?_
          try go_wp2
          go_ret
          exact ⟨by first | rfl | (simp <;> rfl) | (simp [*] <;> rfl), by repeat (first | (with_reducible first | exact HB.out | apply yQ | apply yL | apply yP | refine yE ?_ GE179.out | refine yE ?_ GE180.out | refine yE ?_ GE202.out | refine yE ?_ GE209.out | refine yE ?_ GE216.out | refine yE ?_ GE224.out) | exact HB.out)⟩
      · replace c108 := Bool.eq_false_iff.mpr c108
        subst c108
        have H1 : (some false) = some r := by rw [if_neg (show ¬ (false = true) by decide)] at H; exact H
        clear H; have H := H1; clear H1; obtain rfl := Option.some.inj H
        try go_wp2
        have n0_ := yD (yC HO_203000.out)
        have n1_ := yD (yC HO_203001.out)
        have n2_ := yD (yC HO_210000.out)
        have n3_ := yD (yC HO_210001.out)
        have n4_ := yD (yC HO_217000.out)
        have n5_ := yD (yC HO_217001.out)
        have n6_ := yD (yC HO_225000.out)
        have n7_ := yD (yC HO_225001.out)
        have n8_ := yD (yO BK179.out)
        have n9_ := yD (yO BK180.out)
        have n10_ := yD (yO BK202.out)
        have n11_ := yD (yO BK209.out)
        have n12_ := yD (yO BK216.out)
        have n13_ := yD (yO BK224.out)
        have n14_ := yD (yP HB.out)
        clear HO_203000 HO_203001 HO_210000 HO_210001 HO_217000 HO_217001 HO_225000 HO_225001 BK179 BK180 BK202 BK209 BK216 BK224 HB; have HO_203000 := n0_; have HO_203001 := n1_; have HO_210000 := n2_; have HO_210001 := n3_; have HO_217000 := n4_; have HO_217001 := n5_; have HO_225000 := n6_; have HO_225001 := n7_; have BK179 := n8_; have BK180 := n9_; have BK202 := n10_; have BK209 := n11_; have BK216 := n12_; have BK224 := n13_; have HB := n14_; clear n0_ n1_ n2_ n3_ n4_ n5_ n6_ n7_ n8_ n9_ n10_ n11_ n12_ n13_ n14_
        refine start_ (n := 5) (S := fun w' => w'.cell? ⟨gb209, 0, none⟩ = some (.slice Ao51 t203.length co51) ∧ w'.cell? ⟨gb209, 1, none⟩ = some (.slice Ao56 t206.length co56) ∧ w'.cell? ⟨gb179, 0, none⟩ = some (.slice A0_0 l0_0.length c0_0) ∧ w'.cell? ⟨gb179, 1, none⟩ = some (.slice A0_1 l0_1.length c0_1)) (ds := []) (bz 5 0) (by kernel_rfl) rfl rfl ⟨(yG BK209.out 0).trans rfl, (yG BK209.out 1).trans rfl, (yG BK179.out 0).trans rfl, (yG BK179.out 1).trans rfl⟩ (fun hHeld => ?_)
        generalize wc.drew = w283 at HO_203000 HO_203001 HO_210000 HO_210001 HO_217000 HO_217001 HO_225000 HO_225001 BK179 BK180 BK202 BK209 BK216 BK224 HB hHeld ⊢
        refine pC 0 54 (bz 5 1) rfl rfl (by kernel_rfl) (fun _ _ _ h => h) (by rfl) hHeld (by rintro w' ⟨s0, s1, s2, s3⟩; go_simp; with_reducible rfl) (by simp only [Act.put, zH, zI, zJ, i64_w, i32_w]; rfl) ?_
        refine pC 1 55 (bz 5 3) rfl rfl (by kernel_rfl) (fun _ _ _ h => h) (by rfl) hHeld (by rintro w' ⟨s0, s1, s2, s3⟩; go_simp; with_reducible rfl) (by simp only [Act.put, zH, zI, zJ, i64_w, i32_w]; rfl) ?_
        refine one_ (i := 2) (N := some 56) (bz 5 7) rfl rfl (by kernel_rfl) (by decide) (fun K hK => ?_)
        refine goes_ Try.func8 (by kernel_rfl) rfl #[.agg #[.slice A0_0 l0_0.length c0_0, .slice A0_1 l0_1.length c0_1]] (by rfl) rfl rfl (by (try simp only [zK, zL, zM]); first | done | rfl | (simp only [zN, zO]; rfl)) ?_
        with_reducible refine (laws_toBox.calls kj24 _ _ l0_0 _ _ l0_1 t226 t229 _ ?side1 ?side2 ?side3 ?side4 A106.out).mono ?_
        (case side1 => exact kV (yY HR0_0.out HB.out))
        (case side2 => exact HC0_0.out)
        (case side3 => exact kV (yY HR0_1.out HB.out))
        (case side4 => exact HC0_1.out)
        rintro e w284 ⟨v227, v230, rfl, ho0, ho1, hb⟩
        refine ⟨_, rfl, ?_⟩
        have n0_ := yD (zF (yI (yI (Kd.R_old (kA HO_203000) hb) (yH ho0)) (yH ho1)) (fun _ h_ => h_.1))
        have n1_ := yD (zF (yI (yI (Kd.R_old (kA HO_203001) hb) (yH ho0)) (yH ho1)) (fun _ h_ => h_.1))
        have n2_ := yD (zF (yI (yI (Kd.R_old (kA HO_210000) hb) (yH ho0)) (yH ho1)) (fun _ h_ => h_.1))
        have n3_ := yD (zF (yI (yI (Kd.R_old (kA HO_210001) hb) (yH ho0)) (yH ho1)) (fun _ h_ => h_.1))
        have n4_ := yD (zF (yI (yI (Kd.R_old (kA HO_217000) hb) (yH ho0)) (yH ho1)) (fun _ h_ => h_.1))
        have n5_ := yD (zF (yI (yI (Kd.R_old (kA HO_217001) hb) (yH ho0)) (yH ho1)) (fun _ h_ => h_.1))
        have n6_ := yD (zF (yI (yI (Kd.R_old (kA HO_225000) hb) (yH ho0)) (yH ho1)) (fun _ h_ => h_.1))
        have n7_ := yD (zF (yI (yI (Kd.R_old (kA HO_225001) hb) (yH ho0)) (yH ho1)) (fun _ h_ => h_.1))
        have n8_ := yD (yZ (yJ (yJ (yJ (yJ (yJ (yJ (yJ (yJ ho0 (yK (kA HO_203000))) (yK (kA HO_203001))) (yK (kA HO_210000))) (yK (kA HO_210001))) (yK (kA HO_217000))) (yK (kA HO_217001))) (yK (kA HO_225000))) (yK (kA HO_225001))) (below_size (kB HB)))
        have n9_ := yD (yZ (yJ (yJ (yJ (yJ (yJ (yJ (yJ (yJ ho1 (yK (kA HO_203000))) (yK (kA HO_203001))) (yK (kA HO_210000))) (yK (kA HO_210001))) (yK (kA HO_217000))) (yK (kA HO_217001))) (yK (kA HO_225000))) (yK (kA HO_225001))) (below_size (kB HB)))
        have n10_ := yD (zB (g := gb179) (o := .cells #[.slice A0_0 l0_0.length c0_0, .slice A0_1 l0_1.length c0_1] 24 (0, 0)) (kM BK179) hb)
        have n11_ := yD (zB (g := gb180) (o := .cells #[.slice A1_0 l1_0.length c1_0, .slice A1_1 l1_1.length c1_1] 24 (0, 0)) (kM BK180) hb)
        have n12_ := yD (zB (g := gb202) (o := .cells #[.slice Ao43 t195.length co43, .slice Ao45 t198.length co45] 26 (0, 0)) (kM BK202) hb)
        have n13_ := yD (zB (g := gb209) (o := .cells #[.slice Ao51 t203.length co51, .slice Ao56 t206.length co56] 26 (0, 0)) (kM BK209) hb)
        have n14_ := yD (zB (g := gb216) (o := .cells #[.slice Ao61 t210.length co61, .slice Ao67 t213.length co67] 26 (0, 0)) (kM BK216) hb)
        have n15_ := yD (zB (g := gb224) (o := .cells #[.slice Ao71 t217.length co71, .slice Ao78 t220.length co78] 26 (0, 0)) (kM BK224) hb)
        have n16_ := yD (zC (kB HB) hb)
        clear HO_203000 HO_203001 HO_210000 HO_210001 HO_217000 HO_217001 HO_225000 HO_225001 BK179 BK180 BK202 BK209 BK216 BK224 HB; have HO_203000 := n0_; have HO_203001 := n1_; have HO_210000 := n2_; have HO_210001 := n3_; have HO_217000 := n4_; have HO_217001 := n5_; have HO_225000 := n6_; have HO_225001 := n7_; have HO228 := n8_; have HO231 := n9_; have BK179 := n10_; have BK180 := n11_; have BK202 := n12_; have BK209 := n13_; have BK216 := n14_; have BK224 := n15_; have HB := n16_; clear n0_ n1_ n2_ n3_ n4_ n5_ n6_ n7_ n8_ n9_ n10_ n11_ n12_ n13_ n14_ n15_ n16_; (try clear hb); (try clear hb2); (try clear hk); (try clear hi); (try clear ho0); (try clear ho1)
        obtain ⟨Ao285, co285, eo285⟩ := Kd.R_slice HO228.out
        (first | subst eo285 | (injection eo285 with f1_ f2_ f3_; have f4_ := f1_.symm; have f5_ := f3_.symm; clear f1_ f2_ f3_; subst f4_; subst f5_))
        obtain ⟨Ao286, co286, eo286⟩ := Kd.R_slice HO231.out
        (first | subst eo286 | (injection eo286 with f1_ f2_ f3_; have f4_ := f1_.symm; have f5_ := f3_.symm; clear f1_ f2_ f3_; subst f4_; subst f5_))
        refine hK.out _ _ ⟨(yG BK209.out 0).trans rfl, (yG BK209.out 1).trans rfl, (yG BK179.out 0).trans rfl, (yG BK179.out 1).trans rfl⟩ (fun hHeld => ?_)
        clear hK K
        refine norm_ (a' := ?_) ?_ ?_
        rotate_left
        · show Act.put _ (some 56) _ = _
          simp only [Act.put, zH, zI, zJ, i64_w, i32_w]
          rfl
        refine one_ (i := 3) (N := some 57) (bz 5 15) rfl rfl (by kernel_rfl) (by decide) (fun K hK => ?_)
        refine goes_ Try.func10 (by kernel_rfl) rfl #[.agg #[.slice Ao51 t203.length co51, .slice Ao56 t206.length co56], .agg #[.slice Ao285 t226.length co285, .slice Ao286 t229.length co286]] (by rfl) rfl rfl (by (try simp only [zK, zL, zM]); first | done | rfl | (simp only [zN, zO]; rfl)) ?_
        with_reducible refine (laws_eqBox.calls kj24 _ _ t203 _ _ t206 _ _ t226 _ _ t229 false _ ?side1 ?side2 ?side3 ?side4 ?side5 ?side6 ?side7 ?side8 A107.out).mono ?_
        (case side1 => exact kV (zA HO_210000.out).2.2)
        (case side2 => exact (zA HO_210000.out).2.1)
        (case side3 => exact kV (zA HO_210001.out).2.2)
        (case side4 => exact (zA HO_210001.out).2.1)
        (case side5 => exact kV (zA HO228.out).2.2)
        (case side6 => exact (zA HO228.out).2.1)
        (case side7 => exact kV (zA HO231.out).2.2)
        (case side8 => exact (zA HO231.out).2.1)
        rintro e w287 ⟨rfl, hb⟩
        refine ⟨_, rfl, ?_⟩
        have n0_ := yD (zE (kA HO_203000) hb)
        have n1_ := yD (zE (kA HO_203001) hb)
        have n2_ := yD (zE (kA HO_210000) hb)
        have n3_ := yD (zE (kA HO_210001) hb)
        have n4_ := yD (zE (kA HO_217000) hb)
        have n5_ := yD (zE (kA HO_217001) hb)
        have n6_ := yD (zE (kA HO_225000) hb)
        have n7_ := yD (zE (kA HO_225001) hb)
        have n8_ := yD (zE (kA HO228) hb)
        have n9_ := yD (zE (kA HO231) hb)
        have n10_ := yD (zB (g := gb179) (o := .cells #[.slice A0_0 l0_0.length c0_0, .slice A0_1 l0_1.length c0_1] 24 (0, 0)) (kM BK179) hb)
        have n11_ := yD (zB (g := gb180) (o := .cells #[.slice A1_0 l1_0.length c1_0, .slice A1_1 l1_1.length c1_1] 24 (0, 0)) (kM BK180) hb)
        have n12_ := yD (zB (g := gb202) (o := .cells #[.slice Ao43 t195.length co43, .slice Ao45 t198.length co45] 26 (0, 0)) (kM BK202) hb)
        have n13_ := yD (zB (g := gb209) (o := .cells #[.slice Ao51 t203.length co51, .slice Ao56 t206.length co56] 26 (0, 0)) (kM BK209) hb)
        have n14_ := yD (zB (g := gb216) (o := .cells #[.slice Ao61 t210.length co61, .slice Ao67 t213.length co67] 26 (0, 0)) (kM BK216) hb)
        have n15_ := yD (zB (g := gb224) (o := .cells #[.slice Ao71 t217.length co71, .slice Ao78 t220.length co78] 26 (0, 0)) (kM BK224) hb)
        have n16_ := yD (zC (kB HB) hb)
        clear HO_203000 HO_203001 HO_210000 HO_210001 HO_217000 HO_217001 HO_225000 HO_225001 HO228 HO231 BK179 BK180 BK202 BK209 BK216 BK224 HB; have HO_203000 := n0_; have HO_203001 := n1_; have HO_210000 := n2_; have HO_210001 := n3_; have HO_217000 := n4_; have HO_217001 := n5_; have HO_225000 := n6_; have HO_225001 := n7_; have HO228 := n8_; have HO231 := n9_; have BK179 := n10_; have BK180 := n11_; have BK202 := n12_; have BK209 := n13_; have BK216 := n14_; have BK224 := n15_; have HB := n16_; clear n0_ n1_ n2_ n3_ n4_ n5_ n6_ n7_ n8_ n9_ n10_ n11_ n12_ n13_ n14_ n15_ n16_; (try clear hb); (try clear hb2); (try clear hk); (try clear hi)
        refine hK.out _ _ ⟨(yG BK209.out 0).trans rfl, (yG BK209.out 1).trans rfl, (yG BK179.out 0).trans rfl, (yG BK179.out 1).trans rfl⟩ (fun hHeld => ?_)
        clear hK K
        refine norm_ (a' := ?_) ?_ ?_
        rotate_left
        · show Act.put _ (some 57) _ = _
          simp only [Act.put, zH, zI, zJ, i64_w, i32_w]
          rfl
        refine pA 4 58 (bz 5 31) rfl rfl (by kernel_rfl) (fun _ _ _ h => h) (by rfl) (fun _ => by go_simp; with_reducible rfl) (by simp only [Act.put, zH, zI, zJ, i64_w, i32_w]; rfl) ?_
        refine done_ (by kernel_rfl) ?_
        try go_wp2
        go_ret
        exact ⟨by first | rfl | (simp <;> rfl) | (simp [*] <;> rfl), by repeat (first | (with_reducible first | exact HB.out | apply yQ | apply yL | apply yP | refine yE ?_ GE179.out | refine yE ?_ GE180.out | refine yE ?_ GE202.out | refine yE ?_ GE209.out | refine yE ?_ GE216.out | refine yE ?_ GE224.out) | exact HB.out)⟩

end Go.Proofs.Ytlfjepcmlgfogaa.PFnExactCutBox
