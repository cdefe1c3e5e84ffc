/- Printed by a program of this session: functions of the law and their walks. -/
import Derived.Test.YtlokmliannklaaaQP0
import Derived.Test.YtlokmliannklaaaQPrint3
import Derived.Test.YtlokmliannklaaaQPrint4
import Derived.Test.YtlokmliannklaaaQSkd
import Derived.Test.YtlokmliannklaaaQFitted
import Derived.Test.YtlokmliannklaaaQPrint12d
import Derived.Test.YtlokmliannklaaaQW12
section
namespace Go.Proofs.Ytlokmliannklaaa.Print
open Go.RowKit Go.Proofs.YtlokmliannklaaaW.PrintWords Go.Proofs.YtlokmliannklaaaW.PrintLast Go.Proofs.YtlokmliannklaaaW.PrintMore
attribute [local go_sem] max2_int min2_int max_two min_two max_three min_three max_four min_four   -- for this text's walks alone
set_option linter.unusedVariables false
set_option linter.unusedSimpArgs false

set_option maxHeartbeats 8000000 in
set_option maxRecDepth 100000 in
theorem pacemakerlaw10_SlopeMoves_calls_p7  : (pacemakerlaw10_SlopeMoves_calls_skel ).2.2.2.2.2.2.2.1 := by
  intro k A0 c0 l0 a1 w hu29 hu36 HR0 HC0 t233 t234 t235 t236 t237 t238 t239 t240 t241 t242 t243 t244 t245 t246 t247 t248 A3 z0_ w5 gb249 w6 z1_ z2_ GW249 GE249 z3_ z4_ z5_ z6_ z7_ z8_ z9_ z10_ z11_ z12_ z13_ z14_ z15_ z16_ z17_ z18_ z19_ z20_ z21_ z22_ z23_ z24_ z25_ z26_ z27_ z28_ z29_ z30_ z31_ z32_ z33_ z34_ z35_ z36_ z37_ z38_ z39_ z40_ z41_ z42_ z43_ z44_ z45_ z46_ z47_ z48_ z49_ z50_ z51_ z52_ z53_ z54_ z55_ z56_ u65 z57_ z58_ z59_ z60_ z61_ z62_ z63_ z64_ z65_ z66_ z67_ z68_ z69_ z70_ z71_ z72_ z73_ z74_ z75_ z76_ z77_ z78_ z79_ z80_ z81_ z82_ z83_ z84_ kj3 HJ3 z85_ wr z86_ z87_ z88_ z89_ z90_ z91_ z92_ z93_ z94_ z95_ z96_ z97_ z98_ z99_ z100_ z101_ z102_ z103_ z104_ z105_ z106_ z107_ z108_ z109_ z110_ x7_2 x8_2 k2 z111_ HK2 t256 t257 t258 t259 t260 t261 t262 t263 t264 t265 t266 t267 t268 t269 t270 t271 A19 Ao21 co21 z112_ z113_ w22 gb272 w23 HO_7 z114_ z115_ z116_ GW272 GE272 NB249_272 NB272_249 hnb24 hnc24 z117_ z118_ z119_ z120_ wc u11 u12 u13 u14 u15 u16 u17 u18 u19 u20 u21 u22 u23 u24 u25 u26 u27 u28 u29 u30 u31 u32 u33 u34 u35 u36 u37 u38 u39 u40 u41 u42 u43 u44 u45 u46 u47 u48 u49 u50 u51 u52 u53 u54 u55 u56 u57 u58 u59 u60 u61 u62 u63 u64 u66 u67 u68 u69 u70 u71 u72 u73 u74 u75 u76 u77 u78 u79 u80 u81 u82 u83 u84 u85 u86 u87 u88 u89 u90 u91 x65_19 BK249 BK272 HB kj19 HJ19 H c27
  replace c27 := Bool.eq_false_iff.mpr c27
  subst c27
  have H1 : ((pacemakerlaw10_fitted.f).bind fun t274 => (if t274 = true then ((slope_Dev.f kj19 t256 t257 t258 t259 t260 t261 t262 t263 t264 t265 t266 t267 t268 t269 t270).bind fun t275 => ((slope_Dev.f kj19 t233 t234 t235 t236 t237 t238 t239 t240 t241 t242 t243 t244 t245 t246 t247).bind fun t276 => (if t275 = t276 then ((slope_Grade.f kj19 t256 t257 t258 t259 t260 t261 t262 t263 t264 t265 t266 t267 t268 t269 t270).bind fun t277 => ((slope_Grade.f kj19 t233 t234 t235 t236 t237 t238 t239 t240 t241 t242 t243 t244 t245 t246 t247).bind fun t278 => (if t277 = t278 then ((slope_Mean.f kj19 t256 t257 t258 t259 t260 t261 t262 t263 t264 t265 t266 t267 t268 t269 t270).bind fun t279 => ((slope_Mean.f kj19 t233 t234 t235 t236 t237 t238 t239 t240 t241 t242 t243 t244 t245 t246 t247).bind fun t280 => ((fix_Of.f a1).bind fun t281 => (some (t279 == (wrap64 (t280 + t281))))))) else (some false)))) else (some false)))) else (some false))) = some true := by rw [if_neg (show ¬ (false = true) by decide)] at H; exact H
  clear H
  have H := H1
  clear H1
  replace H := Option.bind_eq_some_iff.mp H
  obtain ⟨t274, A300, H⟩ := H
  replace H : (if t274 = true then ((slope_Dev.f kj19 t256 t257 t258 t259 t260 t261 t262 t263 t264 t265 t266 t267 t268 t269 t270).bind fun t275 => ((slope_Dev.f kj19 t233 t234 t235 t236 t237 t238 t239 t240 t241 t242 t243 t244 t245 t246 t247).bind fun t276 => (if t275 = t276 then ((slope_Grade.f kj19 t256 t257 t258 t259 t260 t261 t262 t263 t264 t265 t266 t267 t268 t269 t270).bind fun t277 => ((slope_Grade.f kj19 t233 t234 t235 t236 t237 t238 t239 t240 t241 t242 t243 t244 t245 t246 t247).bind fun t278 => (if t277 = t278 then ((slope_Mean.f kj19 t256 t257 t258 t259 t260 t261 t262 t263 t264 t265 t266 t267 t268 t269 t270).bind fun t279 => ((slope_Mean.f kj19 t233 t234 t235 t236 t237 t238 t239 t240 t241 t242 t243 t244 t245 t246 t247).bind fun t280 => ((fix_Of.f a1).bind fun t281 => (some (t279 == (wrap64 (t280 + t281))))))) else (some false)))) else (some false)))) else (some false)) = some true := H
  have A30 := Aside0.mk A300
  clear A300
  by_cases c31 : t274 = true
  · subst c31
    have H1 : ((slope_Dev.f kj19 t256 t257 t258 t259 t260 t261 t262 t263 t264 t265 t266 t267 t268 t269 t270).bind fun t275 => ((slope_Dev.f kj19 t233 t234 t235 t236 t237 t238 t239 t240 t241 t242 t243 t244 t245 t246 t247).bind fun t276 => (if t275 = t276 then ((slope_Grade.f kj19 t256 t257 t258 t259 t260 t261 t262 t263 t264 t265 t266 t267 t268 t269 t270).bind fun t277 => ((slope_Grade.f kj19 t233 t234 t235 t236 t237 t238 t239 t240 t241 t242 t243 t244 t245 t246 t247).bind fun t278 => (if t277 = t278 then ((slope_Mean.f kj19 t256 t257 t258 t259 t260 t261 t262 t263 t264 t265 t266 t267 t268 t269 t270).bind fun t279 => ((slope_Mean.f kj19 t233 t234 t235 t236 t237 t238 t239 t240 t241 t242 t243 t244 t245 t246 t247).bind fun t280 => ((fix_Of.f a1).bind fun t281 => (some (t279 == (wrap64 (t280 + t281))))))) else (some false)))) else (some false)))) = some true := by rw [if_pos rfl] at H; exact H
    clear H
    have H := H1
    clear H1
    replace H := Option.bind_eq_some_iff.mp H
    obtain ⟨t275, A320, H⟩ := H
    replace H : ((slope_Dev.f kj19 t233 t234 t235 t236 t237 t238 t239 t240 t241 t242 t243 t244 t245 t246 t247).bind fun t276 => (if t275 = t276 then ((slope_Grade.f kj19 t256 t257 t258 t259 t260 t261 t262 t263 t264 t265 t266 t267 t268 t269 t270).bind fun t277 => ((slope_Grade.f kj19 t233 t234 t235 t236 t237 t238 t239 t240 t241 t242 t243 t244 t245 t246 t247).bind fun t278 => (if t277 = t278 then ((slope_Mean.f kj19 t256 t257 t258 t259 t260 t261 t262 t263 t264 t265 t266 t267 t268 t269 t270).bind fun t279 => ((slope_Mean.f kj19 t233 t234 t235 t236 t237 t238 t239 t240 t241 t242 t243 t244 t245 t246 t247).bind fun t280 => ((fix_Of.f a1).bind fun t281 => (some (t279 == (wrap64 (t280 + t281))))))) else (some false)))) else (some false))) = some true := H
    have A32 := Aside0.mk A320
    clear A320
    replace H := Option.bind_eq_some_iff.mp H
    obtain ⟨t276, A330, H⟩ := H
    replace H : (if t275 = t276 then ((slope_Grade.f kj19 t256 t257 t258 t259 t260 t261 t262 t263 t264 t265 t266 t267 t268 t269 t270).bind fun t277 => ((slope_Grade.f kj19 t233 t234 t235 t236 t237 t238 t239 t240 t241 t242 t243 t244 t245 t246 t247).bind fun t278 => (if t277 = t278 then ((slope_Mean.f kj19 t256 t257 t258 t259 t260 t261 t262 t263 t264 t265 t266 t267 t268 t269 t270).bind fun t279 => ((slope_Mean.f kj19 t233 t234 t235 t236 t237 t238 t239 t240 t241 t242 t243 t244 t245 t246 t247).bind fun t280 => ((fix_Of.f a1).bind fun t281 => (some (t279 == (wrap64 (t280 + t281))))))) else (some false)))) else (some false)) = some true := H
    have A33 := Aside0.mk A330
    clear A330
    by_cases c34 : t275 = t276
    · rw [if_pos c34] at H
      have c34b0 : (t275 == t276) = true := beq_iff_eq.mpr c34
      have c34b1 : (t275 != t276) = false := bne_eq_false_iff_eq.mpr c34
      clear c34
      replace H := Option.bind_eq_some_iff.mp H
      obtain ⟨t277, A350, H⟩ := H
      replace H : ((slope_Grade.f kj19 t233 t234 t235 t236 t237 t238 t239 t240 t241 t242 t243 t244 t245 t246 t247).bind fun t278 => (if t277 = t278 then ((slope_Mean.f kj19 t256 t257 t258 t259 t260 t261 t262 t263 t264 t265 t266 t267 t268 t269 t270).bind fun t279 => ((slope_Mean.f kj19 t233 t234 t235 t236 t237 t238 t239 t240 t241 t242 t243 t244 t245 t246 t247).bind fun t280 => ((fix_Of.f a1).bind fun t281 => (some (t279 == (wrap64 (t280 + t281))))))) else (some false))) = some true := H
      have A35 := Aside0.mk A350
      clear A350
      replace H := Option.bind_eq_some_iff.mp H
      obtain ⟨t278, A360, H⟩ := H
      replace H : (if t277 = t278 then ((slope_Mean.f kj19 t256 t257 t258 t259 t260 t261 t262 t263 t264 t265 t266 t267 t268 t269 t270).bind fun t279 => ((slope_Mean.f kj19 t233 t234 t235 t236 t237 t238 t239 t240 t241 t242 t243 t244 t245 t246 t247).bind fun t280 => ((fix_Of.f a1).bind fun t281 => (some (t279 == (wrap64 (t280 + t281))))))) else (some false)) = some true := H
      have A36 := Aside0.mk A360
      clear A360
      by_cases c37 : t277 = t278
      · rw [if_pos c37] at H
        have c37b0 : (t277 == t278) = true := beq_iff_eq.mpr c37
        have c37b1 : (t277 != t278) = false := bne_eq_false_iff_eq.mpr c37
        clear c37
        replace H := Option.bind_eq_some_iff.mp H
        obtain ⟨t279, A380, H⟩ := H
        replace H : ((slope_Mean.f kj19 t233 t234 t235 t236 t237 t238 t239 t240 t241 t242 t243 t244 t245 t246 t247).bind fun t280 => ((fix_Of.f a1).bind fun t281 => (some (t279 == (wrap64 (t280 + t281)))))) = some true := H
        have A38 := Aside0.mk A380
        clear A380
        replace H := Option.bind_eq_some_iff.mp H
        obtain ⟨t280, A390, H⟩ := H
        replace H : ((fix_Of.f a1).bind fun t281 => (some (t279 == (wrap64 (t280 + t281))))) = some true := H
        have A39 := Aside0.mk A390
        clear A390
        replace H := Option.bind_eq_some_iff.mp H
        obtain ⟨t281, A400, H⟩ := H
        replace H : (some (t279 == (wrap64 (t280 + t281)))) = some true := H
        have A40 := Aside0.mk A400
        clear A400
        first
          | exact absurd (Option.some.inj H) (by decide)
          | have HL_ := Aside0.mk (Option.some.inj H)
            clear H
            try go_wp2
            have n0_ := Aside0.mk (blk_drew BK249.out)
            have n1_ := Aside0.mk (blk_drew BK272.out)
            have n2_ := Aside0.mk (below_drew1 HB.out)
            clear BK249
            clear BK272
            clear HB
            have BK249 := n0_
            have BK272 := n1_
            have HB := n2_
            clear n0_ n1_ n2_
            refine start_ (n := 26) (S := fun w' => w'.cell? ⟨gb272, 0, none⟩ = some (.int .i64 t256) ∧ w'.cell? ⟨gb272, 1, none⟩ = some (.int .i64 t257) ∧ w'.cell? ⟨gb272, 2, none⟩ = some (.int .i64 t258) ∧ w'.cell? ⟨gb272, 3, none⟩ = some (.int .i64 t259) ∧ w'.cell? ⟨gb272, 4, none⟩ = some (.int .i64 t260) ∧ w'.cell? ⟨gb272, 5, none⟩ = some (.int .i64 t261) ∧ w'.cell? ⟨gb272, 6, none⟩ = some (.int .i64 t262) ∧ w'.cell? ⟨gb272, 7, none⟩ = some (.int .i64 t263) ∧ w'.cell? ⟨gb272, 8, none⟩ = some (.int .i64 t264) ∧ w'.cell? ⟨gb272, 9, none⟩ = some (.int .i64 t265) ∧ w'.cell? ⟨gb272, 10, none⟩ = some (.int .i64 t266) ∧ w'.cell? ⟨gb272, 11, none⟩ = some (.int .i64 t267) ∧ w'.cell? ⟨gb272, 12, none⟩ = some (.int .i64 t268) ∧ w'.cell? ⟨gb272, 13, none⟩ = some (.int .i64 t269) ∧ w'.cell? ⟨gb272, 14, none⟩ = some (.int .i64 t270) ∧ w'.cell? ⟨gb249, 0, none⟩ = some (.int .i64 t233) ∧ w'.cell? ⟨gb249, 1, none⟩ = some (.int .i64 t234) ∧ w'.cell? ⟨gb249, 2, none⟩ = some (.int .i64 t235) ∧ w'.cell? ⟨gb249, 3, none⟩ = some (.int .i64 t236) ∧ w'.cell? ⟨gb249, 4, none⟩ = some (.int .i64 t237) ∧ w'.cell? ⟨gb249, 5, none⟩ = some (.int .i64 t238) ∧ w'.cell? ⟨gb249, 6, none⟩ = some (.int .i64 t239) ∧ w'.cell? ⟨gb249, 7, none⟩ = some (.int .i64 t240) ∧ w'.cell? ⟨gb249, 8, none⟩ = some (.int .i64 t241) ∧ w'.cell? ⟨gb249, 9, none⟩ = some (.int .i64 t242) ∧ w'.cell? ⟨gb249, 10, none⟩ = some (.int .i64 t243) ∧ w'.cell? ⟨gb249, 11, none⟩ = some (.int .i64 t244) ∧ w'.cell? ⟨gb249, 12, none⟩ = some (.int .i64 t245) ∧ w'.cell? ⟨gb249, 13, none⟩ = some (.int .i64 t246) ∧ w'.cell? ⟨gb249, 14, none⟩ = some (.int .i64 t247)) (ds := []) #[false, false, false, false, false, false, false, false, false, false, false, false, false, false, false, false, false, false, false, false, false, false, false, false, false, false] (by kernel_rfl) rfl rfl ⟨(blk_cell BK272.out 0).trans rfl, (blk_cell BK272.out 1).trans rfl, (blk_cell BK272.out 2).trans rfl, (blk_cell BK272.out 3).trans rfl, (blk_cell BK272.out 4).trans rfl, (blk_cell BK272.out 5).trans rfl, (blk_cell BK272.out 6).trans rfl, (blk_cell BK272.out 7).trans rfl, (blk_cell BK272.out 8).trans rfl, (blk_cell BK272.out 9).trans rfl, (blk_cell BK272.out 10).trans rfl, (blk_cell BK272.out 11).trans rfl, (blk_cell BK272.out 12).trans rfl, (blk_cell BK272.out 13).trans rfl, (blk_cell BK272.out 14).trans rfl, (blk_cell BK249.out 0).trans rfl, (blk_cell BK249.out 1).trans rfl, (blk_cell BK249.out 2).trans rfl, (blk_cell BK249.out 3).trans rfl, (blk_cell BK249.out 4).trans rfl, (blk_cell BK249.out 5).trans rfl, (blk_cell BK249.out 6).trans rfl, (blk_cell BK249.out 7).trans rfl, (blk_cell BK249.out 8).trans rfl, (blk_cell BK249.out 9).trans rfl, (blk_cell BK249.out 10).trans rfl, (blk_cell BK249.out 11).trans rfl, (blk_cell BK249.out 12).trans rfl, (blk_cell BK249.out 13).trans rfl, (blk_cell BK249.out 14).trans rfl⟩ (fun hHeld => ?_); refine with_tabW pacemakerlaw10_SlopeMoves.tab12 pacemakerlaw10_SlopeMoves.bits12 (fun HT_ HW_ => ?_)
            generalize wc.drew = w41 at BK249 BK272 HB hHeld ⊢
            refine one_ (i := 0) (N := some 67) #[true, false, false, false, false, false, false, false, false, false, false, false, false, false, false, false, false, false, false, false, false, false, false, false, false, false] rfl rfl (one_of HT_.out (by kernel_rfl)) (by decide) (fun K hK => ?_)
            refine goes_ Try.func9 (by kernel_rfl) rfl #[] (by rfl) rfl rfl (by (try simp only [List.map_toArray, List.map_cons, List.map_nil]); first | done | rfl | (simp only [List.length_drop, List.length_take]; rfl)) ?_
            with_reducible refine (pacemakerlaw10_fitted.calls  true _ A30.out).mono ?_
            rintro e w42 ⟨rfl, hb⟩
            refine ⟨_, rfl, ?_⟩
            have n0_ := Aside0.mk (blk_below (g := gb249) (o := .cells #[.int .i64 t233, .int .i64 t234, .int .i64 t235, .int .i64 t236, .int .i64 t237, .int .i64 t238, .int .i64 t239, .int .i64 t240, .int .i64 t241, .int .i64 t242, .int .i64 t243, .int .i64 t244, .int .i64 t245, .int .i64 t246, .int .i64 t247] 29 (0, 0)) (by (with_reducible repeat (first | refine blk_drewN ?_ _ | refine blk_drew ?_ | refine blk_alloc ?_ _)); exact BK249.out) hb)
            have n1_ := Aside0.mk (blk_below (g := gb272) (o := .cells #[.int .i64 t256, .int .i64 t257, .int .i64 t258, .int .i64 t259, .int .i64 t260, .int .i64 t261, .int .i64 t262, .int .i64 t263, .int .i64 t264, .int .i64 t265, .int .i64 t266, .int .i64 t267, .int .i64 t268, .int .i64 t269, .int .i64 t270] 29 (0, 0)) (by (with_reducible repeat (first | refine blk_drewN ?_ _ | refine blk_drew ?_ | refine blk_alloc ?_ _)); exact BK272.out) hb)
            have n2_ := Aside0.mk (below_step (by repeat (first | (with_reducible first | exact HB.out | apply below_alloc | apply pw_below_drewN | apply below_drew1 | refine below_set ?_ GE249.out | refine below_set ?_ GE272.out) | exact HB.out)) hb)
            clear BK249
            clear BK272
            clear HB
            have BK249 := n0_
            have BK272 := n1_
            have HB := n2_
            clear n0_ n1_ n2_
            (try clear hb)
            (try clear hb2)
            (try clear hk)
            (try clear hi)
            refine hK.out _ _ ⟨(blk_cell BK272.out 0).trans rfl, (blk_cell BK272.out 1).trans rfl, (blk_cell BK272.out 2).trans rfl, (blk_cell BK272.out 3).trans rfl, (blk_cell BK272.out 4).trans rfl, (blk_cell BK272.out 5).trans rfl, (blk_cell BK272.out 6).trans rfl, (blk_cell BK272.out 7).trans rfl, (blk_cell BK272.out 8).trans rfl, (blk_cell BK272.out 9).trans rfl, (blk_cell BK272.out 10).trans rfl, (blk_cell BK272.out 11).trans rfl, (blk_cell BK272.out 12).trans rfl, (blk_cell BK272.out 13).trans rfl, (blk_cell BK272.out 14).trans rfl, (blk_cell BK249.out 0).trans rfl, (blk_cell BK249.out 1).trans rfl, (blk_cell BK249.out 2).trans rfl, (blk_cell BK249.out 3).trans rfl, (blk_cell BK249.out 4).trans rfl, (blk_cell BK249.out 5).trans rfl, (blk_cell BK249.out 6).trans rfl, (blk_cell BK249.out 7).trans rfl, (blk_cell BK249.out 8).trans rfl, (blk_cell BK249.out 9).trans rfl, (blk_cell BK249.out 10).trans rfl, (blk_cell BK249.out 11).trans rfl, (blk_cell BK249.out 12).trans rfl, (blk_cell BK249.out 13).trans rfl, (blk_cell BK249.out 14).trans rfl⟩ (fun hHeld => ?_)
            clear hK K
            refine norm_ (a' := ?_) ?_ ?_
            rotate_left
            · show Act.put _ (some 67) _ = _
              simp only [Act.put, List.setIfInBounds_toArray, List.set_cons_zero, List.set_cons_succ, i64_w, i32_w]
              rfl
            refine pure_ (i := 1) (N := some 68) (v := ?_) (a' := ?_) #[true, true, false, false, false, false, false, false, false, false, false, false, false, false, false, false, false, false, false, false, false, false, false, false, false, false] rfl rfl (any_of HT_.out (by kernel_rfl)) (fun _ _ _ h => h) (Or.inl ⟨by rfl, ?_⟩) ?_ ?_
            rotate_left
            · intro w'
              go_simp
              with_reducible rfl
            rotate_left
            · simp only [Act.put, List.setIfInBounds_toArray, List.set_cons_zero, List.set_cons_succ, i64_w, i32_w]
              rfl
            refine take_ (i := 2) (N := some 69) (v := ?_) (a' := ?_) #[true, true, true, false, false, false, false, false, false, false, false, false, false, false, false, false, false, false, false, false, false, false, false, false, false, false] rfl rfl (take_ofW HT_.out HW_.out (by kernel_rfl)) (fun _ _ _ h => h) (Or.inl ⟨by rfl, ?_⟩) hHeld ?_ ?_
            rotate_left
            · rintro w' ⟨s0, s1, s2, s3, s4, s5, s6, s7, s8, s9, s10, s11, s12, s13, s14, s15, s16, s17, s18, s19, s20, s21, s22, s23, s24, s25, s26, s27, s28, s29⟩
              go_simp
              with_reducible rfl
            rotate_left
            · simp only [Act.put, List.setIfInBounds_toArray, List.set_cons_zero, List.set_cons_succ, i64_w, i32_w]
              rfl
            refine take_ (i := 4) (N := some 71) (v := ?_) (a' := ?_) #[true, true, true, false, true, false, false, false, false, false, false, false, false, false, false, false, false, false, false, false, false, false, false, false, false, false] rfl rfl (take_ofW HT_.out HW_.out (by kernel_rfl)) (fun _ _ _ h => h) (Or.inl ⟨by rfl, ?_⟩) hHeld ?_ ?_
            rotate_left
            · rintro w' ⟨s0, s1, s2, s3, s4, s5, s6, s7, s8, s9, s10, s11, s12, s13, s14, s15, s16, s17, s18, s19, s20, s21, s22, s23, s24, s25, s26, s27, s28, s29⟩
              go_simp
              with_reducible rfl
            rotate_left
            · simp only [Act.put, List.setIfInBounds_toArray, List.set_cons_zero, List.set_cons_succ, i64_w, i32_w]
              rfl
            refine one_ (i := 3) (N := some 70) #[true, true, true, true, true, false, false, false, false, false, false, false, false, false, false, false, false, false, false, false, false, false, false, false, false, false] rfl rfl (one_of HT_.out (by kernel_rfl)) (by decide) (fun K hK => ?_)
            refine goes_ Try.func14 (by kernel_rfl) rfl #[.agg #[.int .i64 t256, .int .i64 t257, .int .i64 t258, .int .i64 t259, .int .i64 t260, .int .i64 t261, .int .i64 t262, .int .i64 t263, .int .i64 t264, .int .i64 t265, .int .i64 t266, .int .i64 t267, .int .i64 t268, .int .i64 t269, .int .i64 t270]] (by rfl) rfl rfl (by (try simp only [List.map_toArray, List.map_cons, List.map_nil]); first | done | rfl | (simp only [List.length_drop, List.length_take]; rfl)) ?_
            with_reducible refine (slope_Dev.calls kj19 t256 t257 t258 t259 t260 t261 t262 t263 t264 t265 t266 t267 t268 t269 t270 t275 _ A32.out).mono ?_
            rintro e w43 ⟨rfl, hb⟩
            refine ⟨_, rfl, ?_⟩
            have n0_ := Aside0.mk (blk_below (g := gb249) (o := .cells #[.int .i64 t233, .int .i64 t234, .int .i64 t235, .int .i64 t236, .int .i64 t237, .int .i64 t238, .int .i64 t239, .int .i64 t240, .int .i64 t241, .int .i64 t242, .int .i64 t243, .int .i64 t244, .int .i64 t245, .int .i64 t246, .int .i64 t247] 29 (0, 0)) (by (with_reducible repeat (first | refine blk_drewN ?_ _ | refine blk_drew ?_ | refine blk_alloc ?_ _)); exact BK249.out) hb)
            have n1_ := Aside0.mk (blk_below (g := gb272) (o := .cells #[.int .i64 t256, .int .i64 t257, .int .i64 t258, .int .i64 t259, .int .i64 t260, .int .i64 t261, .int .i64 t262, .int .i64 t263, .int .i64 t264, .int .i64 t265, .int .i64 t266, .int .i64 t267, .int .i64 t268, .int .i64 t269, .int .i64 t270] 29 (0, 0)) (by (with_reducible repeat (first | refine blk_drewN ?_ _ | refine blk_drew ?_ | refine blk_alloc ?_ _)); exact BK272.out) hb)
            have n2_ := Aside0.mk (below_step (by repeat (first | (with_reducible first | exact HB.out | apply below_alloc | apply pw_below_drewN | apply below_drew1 | refine below_set ?_ GE249.out | refine below_set ?_ GE272.out) | exact HB.out)) hb)
            clear BK249
            clear BK272
            clear HB
            have BK249 := n0_
            have BK272 := n1_
            have HB := n2_
            clear n0_ n1_ n2_
            (try clear hb)
            (try clear hb2)
            (try clear hk)
            (try clear hi)
            refine hK.out _ _ ⟨(blk_cell BK272.out 0).trans rfl, (blk_cell BK272.out 1).trans rfl, (blk_cell BK272.out 2).trans rfl, (blk_cell BK272.out 3).trans rfl, (blk_cell BK272.out 4).trans rfl, (blk_cell BK272.out 5).trans rfl, (blk_cell BK272.out 6).trans rfl, (blk_cell BK272.out 7).trans rfl, (blk_cell BK272.out 8).trans rfl, (blk_cell BK272.out 9).trans rfl, (blk_cell BK272.out 10).trans rfl, (blk_cell BK272.out 11).trans rfl, (blk_cell BK272.out 12).trans rfl, (blk_cell BK272.out 13).trans rfl, (blk_cell BK272.out 14).trans rfl, (blk_cell BK249.out 0).trans rfl, (blk_cell BK249.out 1).trans rfl, (blk_cell BK249.out 2).trans rfl, (blk_cell BK249.out 3).trans rfl, (blk_cell BK249.out 4).trans rfl, (blk_cell BK249.out 5).trans rfl, (blk_cell BK249.out 6).trans rfl, (blk_cell BK249.out 7).trans rfl, (blk_cell BK249.out 8).trans rfl, (blk_cell BK249.out 9).trans rfl, (blk_cell BK249.out 10).trans rfl, (blk_cell BK249.out 11).trans rfl, (blk_cell BK249.out 12).trans rfl, (blk_cell BK249.out 13).trans rfl, (blk_cell BK249.out 14).trans rfl⟩ (fun hHeld => ?_)
            clear hK K
            refine norm_ (a' := ?_) ?_ ?_
            rotate_left
            · show Act.put _ (some 70) _ = _
              simp only [Act.put, List.setIfInBounds_toArray, List.set_cons_zero, List.set_cons_succ, i64_w, i32_w]
              rfl
            refine one_ (i := 5) (N := some 72) #[true, true, true, true, true, true, false, false, false, false, false, false, false, false, false, false, false, false, false, false, false, false, false, false, false, false] rfl rfl (one_of HT_.out (by kernel_rfl)) (by decide) (fun K hK => ?_)
            refine goes_ Try.func14 (by kernel_rfl) rfl #[.agg #[.int .i64 t233, .int .i64 t234, .int .i64 t235, .int .i64 t236, .int .i64 t237, .int .i64 t238, .int .i64 t239, .int .i64 t240, .int .i64 t241, .int .i64 t242, .int .i64 t243, .int .i64 t244, .int .i64 t245, .int .i64 t246, .int .i64 t247]] (by rfl) rfl rfl (by (try simp only [List.map_toArray, List.map_cons, List.map_nil]); first | done | rfl | (simp only [List.length_drop, List.length_take]; rfl)) ?_
            with_reducible refine (slope_Dev.calls kj19 t233 t234 t235 t236 t237 t238 t239 t240 t241 t242 t243 t244 t245 t246 t247 t276 _ A33.out).mono ?_
            rintro e w44 ⟨rfl, hb⟩
            refine ⟨_, rfl, ?_⟩
            have n0_ := Aside0.mk (blk_below (g := gb249) (o := .cells #[.int .i64 t233, .int .i64 t234, .int .i64 t235, .int .i64 t236, .int .i64 t237, .int .i64 t238, .int .i64 t239, .int .i64 t240, .int .i64 t241, .int .i64 t242, .int .i64 t243, .int .i64 t244, .int .i64 t245, .int .i64 t246, .int .i64 t247] 29 (0, 0)) (by (with_reducible repeat (first | refine blk_drewN ?_ _ | refine blk_drew ?_ | refine blk_alloc ?_ _)); exact BK249.out) hb)
            have n1_ := Aside0.mk (blk_below (g := gb272) (o := .cells #[.int .i64 t256, .int .i64 t257, .int .i64 t258, .int .i64 t259, .int .i64 t260, .int .i64 t261, .int .i64 t262, .int .i64 t263, .int .i64 t264, .int .i64 t265, .int .i64 t266, .int .i64 t267, .int .i64 t268, .int .i64 t269, .int .i64 t270] 29 (0, 0)) (by (with_reducible repeat (first | refine blk_drewN ?_ _ | refine blk_drew ?_ | refine blk_alloc ?_ _)); exact BK272.out) hb)
            have n2_ := Aside0.mk (below_step (by repeat (first | (with_reducible first | exact HB.out | apply below_alloc | apply pw_below_drewN | apply below_drew1 | refine below_set ?_ GE249.out | refine below_set ?_ GE272.out) | exact HB.out)) hb)
            clear BK249
            clear BK272
            clear HB
            have BK249 := n0_
            have BK272 := n1_
            have HB := n2_
            clear n0_ n1_ n2_
            (try clear hb)
            (try clear hb2)
            (try clear hk)
            (try clear hi)
            refine hK.out _ _ ⟨(blk_cell BK272.out 0).trans rfl, (blk_cell BK272.out 1).trans rfl, (blk_cell BK272.out 2).trans rfl, (blk_cell BK272.out 3).trans rfl, (blk_cell BK272.out 4).trans rfl, (blk_cell BK272.out 5).trans rfl, (blk_cell BK272.out 6).trans rfl, (blk_cell BK272.out 7).trans rfl, (blk_cell BK272.out 8).trans rfl, (blk_cell BK272.out 9).trans rfl, (blk_cell BK272.out 10).trans rfl, (blk_cell BK272.out 11).trans rfl, (blk_cell BK272.out 12).trans rfl, (blk_cell BK272.out 13).trans rfl, (blk_cell BK272.out 14).trans rfl, (blk_cell BK249.out 0).trans rfl, (blk_cell BK249.out 1).trans rfl, (blk_cell BK249.out 2).trans rfl, (blk_cell BK249.out 3).trans rfl, (blk_cell BK249.out 4).trans rfl, (blk_cell BK249.out 5).trans rfl, (blk_cell BK249.out 6).trans rfl, (blk_cell BK249.out 7).trans rfl, (blk_cell BK249.out 8).trans rfl, (blk_cell BK249.out 9).trans rfl, (blk_cell BK249.out 10).trans rfl, (blk_cell BK249.out 11).trans rfl, (blk_cell BK249.out 12).trans rfl, (blk_cell BK249.out 13).trans rfl, (blk_cell BK249.out 14).trans rfl⟩ (fun hHeld => ?_)
            clear hK K
            refine norm_ (a' := ?_) ?_ ?_
            rotate_left
            · show Act.put _ (some 72) _ = _
              simp only [Act.put, List.setIfInBounds_toArray, List.set_cons_zero, List.set_cons_succ, i64_w, i32_w]
              rfl
            refine pure_ (i := 6) (N := some 73) (v := ?_) (a' := ?_) #[true, true, true, true, true, true, true, false, false, false, false, false, false, false, false, false, false, false, false, false, false, false, false, false, false, false] rfl rfl (any_of HT_.out (by kernel_rfl)) (fun _ _ _ h => h) (Or.inl ⟨by rfl, ?_⟩) ?_ ?_
            rotate_left
            · intro w'
              go_simp
              with_reducible rfl
            rotate_left
            · simp only [Act.put, List.setIfInBounds_toArray, List.set_cons_zero, List.set_cons_succ, i64_w, i32_w]
              rfl
            refine pure_ (i := 7) (N := some 74) (v := ?_) (a' := ?_) #[true, true, true, true, true, true, true, true, false, false, false, false, false, false, false, false, false, false, false, false, false, false, false, false, false, false] rfl rfl (any_of HT_.out (by kernel_rfl)) (fun _ _ _ h => h) (Or.inl ⟨by rfl, ?_⟩) ?_ ?_
            rotate_left
            · intro w'
              go_simp
              with_reducible rfl
            rotate_left
            · simp only [Act.put, List.setIfInBounds_toArray, List.set_cons_zero, List.set_cons_succ, i64_w, i32_w]
              rfl
            refine pure_ (i := 8) (N := some 75) (v := ?_) (a' := ?_) #[true, true, true, true, true, true, true, true, true, false, false, false, false, false, false, false, false, false, false, false, false, false, false, false, false, false] rfl rfl (any_of HT_.out (by kernel_rfl)) (fun _ _ _ h => h) (Or.inl ⟨by rfl, ?_⟩) ?_ ?_
            rotate_left
            · intro w'
              go_simp
              with_reducible rfl
            rotate_left
            · simp only [Act.put, List.setIfInBounds_toArray, List.set_cons_zero, List.set_cons_succ, i64_w, i32_w]
              rfl
            refine take_ (i := 9) (N := some 76) (v := ?_) (a' := ?_) #[true, true, true, true, true, true, true, true, true, true, false, false, false, false, false, false, false, false, false, false, false, false, false, false, false, false] rfl rfl (take_ofW HT_.out HW_.out (by kernel_rfl)) (fun _ _ _ h => h) (Or.inl ⟨by rfl, ?_⟩) hHeld ?_ ?_
            rotate_left
            · rintro w' ⟨s0, s1, s2, s3, s4, s5, s6, s7, s8, s9, s10, s11, s12, s13, s14, s15, s16, s17, s18, s19, s20, s21, s22, s23, s24, s25, s26, s27, s28, s29⟩
              go_simp
              with_reducible rfl
            rotate_left
            · simp only [Act.put, List.setIfInBounds_toArray, List.set_cons_zero, List.set_cons_succ, i64_w, i32_w]
              rfl
            refine take_ (i := 11) (N := some 78) (v := ?_) (a' := ?_) #[true, true, true, true, true, true, true, true, true, true, false, true, false, false, false, false, false, false, false, false, false, false, false, false, false, false] rfl rfl (take_ofW HT_.out HW_.out (by kernel_rfl)) (fun _ _ _ h => h) (Or.inl ⟨by rfl, ?_⟩) hHeld ?_ ?_
            rotate_left
            · rintro w' ⟨s0, s1, s2, s3, s4, s5, s6, s7, s8, s9, s10, s11, s12, s13, s14, s15, s16, s17, s18, s19, s20, s21, s22, s23, s24, s25, s26, s27, s28, s29⟩
              go_simp
              with_reducible rfl
            rotate_left
            · simp only [Act.put, List.setIfInBounds_toArray, List.set_cons_zero, List.set_cons_succ, i64_w, i32_w]
              rfl
            refine one_ (i := 10) (N := some 77) #[true, true, true, true, true, true, true, true, true, true, true, true, false, false, false, false, false, false, false, false, false, false, false, false, false, false] rfl rfl (one_of HT_.out (by kernel_rfl)) (by decide) (fun K hK => ?_)
            refine goes_ Try.func16 (by kernel_rfl) rfl #[.agg #[.int .i64 t256, .int .i64 t257, .int .i64 t258, .int .i64 t259, .int .i64 t260, .int .i64 t261, .int .i64 t262, .int .i64 t263, .int .i64 t264, .int .i64 t265, .int .i64 t266, .int .i64 t267, .int .i64 t268, .int .i64 t269, .int .i64 t270]] (by rfl) rfl rfl (by (try simp only [List.map_toArray, List.map_cons, List.map_nil]); first | done | rfl | (simp only [List.length_drop, List.length_take]; rfl)) ?_
            with_reducible refine (slope_Grade.calls kj19 t256 t257 t258 t259 t260 t261 t262 t263 t264 t265 t266 t267 t268 t269 t270 t277 _ A35.out).mono ?_
            rintro e w45 ⟨rfl, hb⟩
            refine ⟨_, rfl, ?_⟩
            have n0_ := Aside0.mk (blk_below (g := gb249) (o := .cells #[.int .i64 t233, .int .i64 t234, .int .i64 t235, .int .i64 t236, .int .i64 t237, .int .i64 t238, .int .i64 t239, .int .i64 t240, .int .i64 t241, .int .i64 t242, .int .i64 t243, .int .i64 t244, .int .i64 t245, .int .i64 t246, .int .i64 t247] 29 (0, 0)) (by (with_reducible repeat (first | refine blk_drewN ?_ _ | refine blk_drew ?_ | refine blk_alloc ?_ _)); exact BK249.out) hb)
            have n1_ := Aside0.mk (blk_below (g := gb272) (o := .cells #[.int .i64 t256, .int .i64 t257, .int .i64 t258, .int .i64 t259, .int .i64 t260, .int .i64 t261, .int .i64 t262, .int .i64 t263, .int .i64 t264, .int .i64 t265, .int .i64 t266, .int .i64 t267, .int .i64 t268, .int .i64 t269, .int .i64 t270] 29 (0, 0)) (by (with_reducible repeat (first | refine blk_drewN ?_ _ | refine blk_drew ?_ | refine blk_alloc ?_ _)); exact BK272.out) hb)
            have n2_ := Aside0.mk (below_step (by repeat (first | (with_reducible first | exact HB.out | apply below_alloc | apply pw_below_drewN | apply below_drew1 | refine below_set ?_ GE249.out | refine below_set ?_ GE272.out) | exact HB.out)) hb)
            clear BK249
            clear BK272
            clear HB
            have BK249 := n0_
            have BK272 := n1_
            have HB := n2_
            clear n0_ n1_ n2_
            (try clear hb)
            (try clear hb2)
            (try clear hk)
            (try clear hi)
            refine hK.out _ _ ⟨(blk_cell BK272.out 0).trans rfl, (blk_cell BK272.out 1).trans rfl, (blk_cell BK272.out 2).trans rfl, (blk_cell BK272.out 3).trans rfl, (blk_cell BK272.out 4).trans rfl, (blk_cell BK272.out 5).trans rfl, (blk_cell BK272.out 6).trans rfl, (blk_cell BK272.out 7).trans rfl, (blk_cell BK272.out 8).trans rfl, (blk_cell BK272.out 9).trans rfl, (blk_cell BK272.out 10).trans rfl, (blk_cell BK272.out 11).trans rfl, (blk_cell BK272.out 12).trans rfl, (blk_cell BK272.out 13).trans rfl, (blk_cell BK272.out 14).trans rfl, (blk_cell BK249.out 0).trans rfl, (blk_cell BK249.out 1).trans rfl, (blk_cell BK249.out 2).trans rfl, (blk_cell BK249.out 3).trans rfl, (blk_cell BK249.out 4).trans rfl, (blk_cell BK249.out 5).trans rfl, (blk_cell BK249.out 6).trans rfl, (blk_cell BK249.out 7).trans rfl, (blk_cell BK249.out 8).trans rfl, (blk_cell BK249.out 9).trans rfl, (blk_cell BK249.out 10).trans rfl, (blk_cell BK249.out 11).trans rfl, (blk_cell BK249.out 12).trans rfl, (blk_cell BK249.out 13).trans rfl, (blk_cell BK249.out 14).trans rfl⟩ (fun hHeld => ?_)
            clear hK K
            refine norm_ (a' := ?_) ?_ ?_
            rotate_left
            · show Act.put _ (some 77) _ = _
              simp only [Act.put, List.setIfInBounds_toArray, List.set_cons_zero, List.set_cons_succ, i64_w, i32_w]
              rfl
            refine one_ (i := 12) (N := some 79) #[true, true, true, true, true, true, true, true, true, true, true, true, true, false, false, false, false, false, false, false, false, false, false, false, false, false] rfl rfl (one_of HT_.out (by kernel_rfl)) (by decide) (fun K hK => ?_)
            refine goes_ Try.func16 (by kernel_rfl) rfl #[.agg #[.int .i64 t233, .int .i64 t234, .int .i64 t235, .int .i64 t236, .int .i64 t237, .int .i64 t238, .int .i64 t239, .int .i64 t240, .int .i64 t241, .int .i64 t242, .int .i64 t243, .int .i64 t244, .int .i64 t245, .int .i64 t246, .int .i64 t247]] (by rfl) rfl rfl (by (try simp only [List.map_toArray, List.map_cons, List.map_nil]); first | done | rfl | (simp only [List.length_drop, List.length_take]; rfl)) ?_
            with_reducible refine (slope_Grade.calls kj19 t233 t234 t235 t236 t237 t238 t239 t240 t241 t242 t243 t244 t245 t246 t247 t278 _ A36.out).mono ?_
            rintro e w46 ⟨rfl, hb⟩
            refine ⟨_, rfl, ?_⟩
            have n0_ := Aside0.mk (blk_below (g := gb249) (o := .cells #[.int .i64 t233, .int .i64 t234, .int .i64 t235, .int .i64 t236, .int .i64 t237, .int .i64 t238, .int .i64 t239, .int .i64 t240, .int .i64 t241, .int .i64 t242, .int .i64 t243, .int .i64 t244, .int .i64 t245, .int .i64 t246, .int .i64 t247] 29 (0, 0)) (by (with_reducible repeat (first | refine blk_drewN ?_ _ | refine blk_drew ?_ | refine blk_alloc ?_ _)); exact BK249.out) hb)
            have n1_ := Aside0.mk (blk_below (g := gb272) (o := .cells #[.int .i64 t256, .int .i64 t257, .int .i64 t258, .int .i64 t259, .int .i64 t260, .int .i64 t261, .int .i64 t262, .int .i64 t263, .int .i64 t264, .int .i64 t265, .int .i64 t266, .int .i64 t267, .int .i64 t268, .int .i64 t269, .int .i64 t270] 29 (0, 0)) (by (with_reducible repeat (first | refine blk_drewN ?_ _ | refine blk_drew ?_ | refine blk_alloc ?_ _)); exact BK272.out) hb)
            have n2_ := Aside0.mk (below_step (by repeat (first | (with_reducible first | exact HB.out | apply below_alloc | apply pw_below_drewN | apply below_drew1 | refine below_set ?_ GE249.out | refine below_set ?_ GE272.out) | exact HB.out)) hb)
            clear BK249
            clear BK272
            clear HB
            have BK249 := n0_
            have BK272 := n1_
            have HB := n2_
            clear n0_ n1_ n2_
            (try clear hb)
            (try clear hb2)
            (try clear hk)
            (try clear hi)
            refine hK.out _ _ ⟨(blk_cell BK272.out 0).trans rfl, (blk_cell BK272.out 1).trans rfl, (blk_cell BK272.out 2).trans rfl, (blk_cell BK272.out 3).trans rfl, (blk_cell BK272.out 4).trans rfl, (blk_cell BK272.out 5).trans rfl, (blk_cell BK272.out 6).trans rfl, (blk_cell BK272.out 7).trans rfl, (blk_cell BK272.out 8).trans rfl, (blk_cell BK272.out 9).trans rfl, (blk_cell BK272.out 10).trans rfl, (blk_cell BK272.out 11).trans rfl, (blk_cell BK272.out 12).trans rfl, (blk_cell BK272.out 13).trans rfl, (blk_cell BK272.out 14).trans rfl, (blk_cell BK249.out 0).trans rfl, (blk_cell BK249.out 1).trans rfl, (blk_cell BK249.out 2).trans rfl, (blk_cell BK249.out 3).trans rfl, (blk_cell BK249.out 4).trans rfl, (blk_cell BK249.out 5).trans rfl, (blk_cell BK249.out 6).trans rfl, (blk_cell BK249.out 7).trans rfl, (blk_cell BK249.out 8).trans rfl, (blk_cell BK249.out 9).trans rfl, (blk_cell BK249.out 10).trans rfl, (blk_cell BK249.out 11).trans rfl, (blk_cell BK249.out 12).trans rfl, (blk_cell BK249.out 13).trans rfl, (blk_cell BK249.out 14).trans rfl⟩ (fun hHeld => ?_)
            clear hK K
            refine norm_ (a' := ?_) ?_ ?_
            rotate_left
            · show Act.put _ (some 79) _ = _
              simp only [Act.put, List.setIfInBounds_toArray, List.set_cons_zero, List.set_cons_succ, i64_w, i32_w]
              rfl
            refine pure_ (i := 13) (N := some 80) (v := ?_) (a' := ?_) #[true, true, true, true, true, true, true, true, true, true, true, true, true, true, false, false, false, false, false, false, false, false, false, false, false, false] rfl rfl (any_of HT_.out (by kernel_rfl)) (fun _ _ _ h => h) (Or.inl ⟨by rfl, ?_⟩) ?_ ?_
            rotate_left
            · intro w'
              go_simp
              with_reducible rfl
            rotate_left
            · simp only [Act.put, List.setIfInBounds_toArray, List.set_cons_zero, List.set_cons_succ, i64_w, i32_w]
              rfl
            refine pure_ (i := 14) (N := some 81) (v := ?_) (a' := ?_) #[true, true, true, true, true, true, true, true, true, true, true, true, true, true, true, false, false, false, false, false, false, false, false, false, false, false] rfl rfl (any_of HT_.out (by kernel_rfl)) (fun _ _ _ h => h) (Or.inl ⟨by rfl, ?_⟩) ?_ ?_
            rotate_left
            · intro w'
              go_simp
              with_reducible rfl
            rotate_left
            · simp only [Act.put, List.setIfInBounds_toArray, List.set_cons_zero, List.set_cons_succ, i64_w, i32_w]
              rfl
            refine pure_ (i := 15) (N := some 82) (v := ?_) (a' := ?_) #[true, true, true, true, true, true, true, true, true, true, true, true, true, true, true, true, false, false, false, false, false, false, false, false, false, false] rfl rfl (any_of HT_.out (by kernel_rfl)) (fun _ _ _ h => h) (Or.inl ⟨by rfl, ?_⟩) ?_ ?_
            rotate_left
            · intro w'
              go_simp
              with_reducible rfl
            rotate_left
            · simp only [Act.put, List.setIfInBounds_toArray, List.set_cons_zero, List.set_cons_succ, i64_w, i32_w]
              rfl
            refine pure_ (i := 20) (N := some 87) (v := ?_) (a' := ?_) #[true, true, true, true, true, true, true, true, true, true, true, true, true, true, true, true, false, false, false, false, true, false, false, false, false, false] rfl rfl (any_of HT_.out (by kernel_rfl)) (fun _ _ _ h => h) (Or.inl ⟨by rfl, ?_⟩) ?_ ?_
            rotate_left
            · intro w'
              go_simp
              with_reducible rfl
            rotate_left
            · simp only [Act.put, List.setIfInBounds_toArray, List.set_cons_zero, List.set_cons_succ, i64_w, i32_w]
              rfl
            refine take_ (i := 16) (N := some 83) (v := ?_) (a' := ?_) #[true, true, true, true, true, true, true, true, true, true, true, true, true, true, true, true, true, false, false, false, true, false, false, false, false, false] rfl rfl (take_ofW HT_.out HW_.out (by kernel_rfl)) (fun _ _ _ h => h) (Or.inl ⟨by rfl, ?_⟩) hHeld ?_ ?_
            rotate_left
            · rintro w' ⟨s0, s1, s2, s3, s4, s5, s6, s7, s8, s9, s10, s11, s12, s13, s14, s15, s16, s17, s18, s19, s20, s21, s22, s23, s24, s25, s26, s27, s28, s29⟩
              go_simp
              with_reducible rfl
            rotate_left
            · simp only [Act.put, List.setIfInBounds_toArray, List.set_cons_zero, List.set_cons_succ, i64_w, i32_w]
              rfl
            refine take_ (i := 18) (N := some 85) (v := ?_) (a' := ?_) #[true, true, true, true, true, true, true, true, true, true, true, true, true, true, true, true, true, false, true, false, true, false, false, false, false, false] rfl rfl (take_ofW HT_.out HW_.out (by kernel_rfl)) (fun _ _ _ h => h) (Or.inl ⟨by rfl, ?_⟩) hHeld ?_ ?_
            rotate_left
            · rintro w' ⟨s0, s1, s2, s3, s4, s5, s6, s7, s8, s9, s10, s11, s12, s13, s14, s15, s16, s17, s18, s19, s20, s21, s22, s23, s24, s25, s26, s27, s28, s29⟩
              go_simp
              with_reducible rfl
            rotate_left
            · simp only [Act.put, List.setIfInBounds_toArray, List.set_cons_zero, List.set_cons_succ, i64_w, i32_w]
              rfl
            refine one_ (i := 17) (N := some 84) #[true, true, true, true, true, true, true, true, true, true, true, true, true, true, true, true, true, true, true, false, true, false, false, false, false, false] rfl rfl (one_of HT_.out (by kernel_rfl)) (by decide) (fun K hK => ?_)
            refine goes_ Try.func12 (by kernel_rfl) rfl #[.agg #[.int .i64 t256, .int .i64 t257, .int .i64 t258, .int .i64 t259, .int .i64 t260, .int .i64 t261, .int .i64 t262, .int .i64 t263, .int .i64 t264, .int .i64 t265, .int .i64 t266, .int .i64 t267, .int .i64 t268, .int .i64 t269, .int .i64 t270]] (by rfl) rfl rfl (by (try simp only [List.map_toArray, List.map_cons, List.map_nil]); first | done | rfl | (simp only [List.length_drop, List.length_take]; rfl)) ?_
            with_reducible refine (slope_Mean.calls kj19 t256 t257 t258 t259 t260 t261 t262 t263 t264 t265 t266 t267 t268 t269 t270 t279 _ A38.out).mono ?_
            rintro e w47 ⟨rfl, hb⟩
            refine ⟨_, rfl, ?_⟩
            have n0_ := Aside0.mk (blk_below (g := gb249) (o := .cells #[.int .i64 t233, .int .i64 t234, .int .i64 t235, .int .i64 t236, .int .i64 t237, .int .i64 t238, .int .i64 t239, .int .i64 t240, .int .i64 t241, .int .i64 t242, .int .i64 t243, .int .i64 t244, .int .i64 t245, .int .i64 t246, .int .i64 t247] 29 (0, 0)) (by (with_reducible repeat (first | refine blk_drewN ?_ _ | refine blk_drew ?_ | refine blk_alloc ?_ _)); exact BK249.out) hb)
            have n1_ := Aside0.mk (blk_below (g := gb272) (o := .cells #[.int .i64 t256, .int .i64 t257, .int .i64 t258, .int .i64 t259, .int .i64 t260, .int .i64 t261, .int .i64 t262, .int .i64 t263, .int .i64 t264, .int .i64 t265, .int .i64 t266, .int .i64 t267, .int .i64 t268, .int .i64 t269, .int .i64 t270] 29 (0, 0)) (by (with_reducible repeat (first | refine blk_drewN ?_ _ | refine blk_drew ?_ | refine blk_alloc ?_ _)); exact BK272.out) hb)
            have n2_ := Aside0.mk (below_step (by repeat (first | (with_reducible first | exact HB.out | apply below_alloc | apply pw_below_drewN | apply below_drew1 | refine below_set ?_ GE249.out | refine below_set ?_ GE272.out) | exact HB.out)) hb)
            clear BK249
            clear BK272
            clear HB
            have BK249 := n0_
            have BK272 := n1_
            have HB := n2_
            clear n0_ n1_ n2_
            (try clear hb)
            (try clear hb2)
            (try clear hk)
            (try clear hi)
            refine hK.out _ _ ⟨(blk_cell BK272.out 0).trans rfl, (blk_cell BK272.out 1).trans rfl, (blk_cell BK272.out 2).trans rfl, (blk_cell BK272.out 3).trans rfl, (blk_cell BK272.out 4).trans rfl, (blk_cell BK272.out 5).trans rfl, (blk_cell BK272.out 6).trans rfl, (blk_cell BK272.out 7).trans rfl, (blk_cell BK272.out 8).trans rfl, (blk_cell BK272.out 9).trans rfl, (blk_cell BK272.out 10).trans rfl, (blk_cell BK272.out 11).trans rfl, (blk_cell BK272.out 12).trans rfl, (blk_cell BK272.out 13).trans rfl, (blk_cell BK272.out 14).trans rfl, (blk_cell BK249.out 0).trans rfl, (blk_cell BK249.out 1).trans rfl, (blk_cell BK249.out 2).trans rfl, (blk_cell BK249.out 3).trans rfl, (blk_cell BK249.out 4).trans rfl, (blk_cell BK249.out 5).trans rfl, (blk_cell BK249.out 6).trans rfl, (blk_cell BK249.out 7).trans rfl, (blk_cell BK249.out 8).trans rfl, (blk_cell BK249.out 9).trans rfl, (blk_cell BK249.out 10).trans rfl, (blk_cell BK249.out 11).trans rfl, (blk_cell BK249.out 12).trans rfl, (blk_cell BK249.out 13).trans rfl, (blk_cell BK249.out 14).trans rfl⟩ (fun hHeld => ?_)
            clear hK K
            refine norm_ (a' := ?_) ?_ ?_
            rotate_left
            · show Act.put _ (some 84) _ = _
              simp only [Act.put, List.setIfInBounds_toArray, List.set_cons_zero, List.set_cons_succ, i64_w, i32_w]
              rfl
            refine one_ (i := 19) (N := some 86) #[true, true, true, true, true, true, true, true, true, true, true, true, true, true, true, true, true, true, true, true, true, false, false, false, false, false] rfl rfl (one_of HT_.out (by kernel_rfl)) (by decide) (fun K hK => ?_)
            refine goes_ Try.func12 (by kernel_rfl) rfl #[.agg #[.int .i64 t233, .int .i64 t234, .int .i64 t235, .int .i64 t236, .int .i64 t237, .int .i64 t238, .int .i64 t239, .int .i64 t240, .int .i64 t241, .int .i64 t242, .int .i64 t243, .int .i64 t244, .int .i64 t245, .int .i64 t246, .int .i64 t247]] (by rfl) rfl rfl (by (try simp only [List.map_toArray, List.map_cons, List.map_nil]); first | done | rfl | (simp only [List.length_drop, List.length_take]; rfl)) ?_
            with_reducible refine (slope_Mean.calls kj19 t233 t234 t235 t236 t237 t238 t239 t240 t241 t242 t243 t244 t245 t246 t247 t280 _ A39.out).mono ?_
            rintro e w48 ⟨rfl, hb⟩
            refine ⟨_, rfl, ?_⟩
            have n0_ := Aside0.mk (blk_below (g := gb249) (o := .cells #[.int .i64 t233, .int .i64 t234, .int .i64 t235, .int .i64 t236, .int .i64 t237, .int .i64 t238, .int .i64 t239, .int .i64 t240, .int .i64 t241, .int .i64 t242, .int .i64 t243, .int .i64 t244, .int .i64 t245, .int .i64 t246, .int .i64 t247] 29 (0, 0)) (by (with_reducible repeat (first | refine blk_drewN ?_ _ | refine blk_drew ?_ | refine blk_alloc ?_ _)); exact BK249.out) hb)
            have n1_ := Aside0.mk (blk_below (g := gb272) (o := .cells #[.int .i64 t256, .int .i64 t257, .int .i64 t258, .int .i64 t259, .int .i64 t260, .int .i64 t261, .int .i64 t262, .int .i64 t263, .int .i64 t264, .int .i64 t265, .int .i64 t266, .int .i64 t267, .int .i64 t268, .int .i64 t269, .int .i64 t270] 29 (0, 0)) (by (with_reducible repeat (first | refine blk_drewN ?_ _ | refine blk_drew ?_ | refine blk_alloc ?_ _)); exact BK272.out) hb)
            have n2_ := Aside0.mk (below_step (by repeat (first | (with_reducible first | exact HB.out | apply below_alloc | apply pw_below_drewN | apply below_drew1 | refine below_set ?_ GE249.out | refine below_set ?_ GE272.out) | exact HB.out)) hb)
            clear BK249
            clear BK272
            clear HB
            have BK249 := n0_
            have BK272 := n1_
            have HB := n2_
            clear n0_ n1_ n2_
            (try clear hb)
            (try clear hb2)
            (try clear hk)
            (try clear hi)
            refine hK.out _ _ ⟨(blk_cell BK272.out 0).trans rfl, (blk_cell BK272.out 1).trans rfl, (blk_cell BK272.out 2).trans rfl, (blk_cell BK272.out 3).trans rfl, (blk_cell BK272.out 4).trans rfl, (blk_cell BK272.out 5).trans rfl, (blk_cell BK272.out 6).trans rfl, (blk_cell BK272.out 7).trans rfl, (blk_cell BK272.out 8).trans rfl, (blk_cell BK272.out 9).trans rfl, (blk_cell BK272.out 10).trans rfl, (blk_cell BK272.out 11).trans rfl, (blk_cell BK272.out 12).trans rfl, (blk_cell BK272.out 13).trans rfl, (blk_cell BK272.out 14).trans rfl, (blk_cell BK249.out 0).trans rfl, (blk_cell BK249.out 1).trans rfl, (blk_cell BK249.out 2).trans rfl, (blk_cell BK249.out 3).trans rfl, (blk_cell BK249.out 4).trans rfl, (blk_cell BK249.out 5).trans rfl, (blk_cell BK249.out 6).trans rfl, (blk_cell BK249.out 7).trans rfl, (blk_cell BK249.out 8).trans rfl, (blk_cell BK249.out 9).trans rfl, (blk_cell BK249.out 10).trans rfl, (blk_cell BK249.out 11).trans rfl, (blk_cell BK249.out 12).trans rfl, (blk_cell BK249.out 13).trans rfl, (blk_cell BK249.out 14).trans rfl⟩ (fun hHeld => ?_)
            clear hK K
            refine norm_ (a' := ?_) ?_ ?_
            rotate_left
            · show Act.put _ (some 86) _ = _
              simp only [Act.put, List.setIfInBounds_toArray, List.set_cons_zero, List.set_cons_succ, i64_w, i32_w]
              rfl
            refine one_ (i := 21) (N := some 88) #[true, true, true, true, true, true, true, true, true, true, true, true, true, true, true, true, true, true, true, true, true, true, false, false, false, false] rfl rfl (one_of HT_.out (by kernel_rfl)) (by decide) (fun K hK => ?_)
            refine goes_ Try.func19 (by kernel_rfl) rfl #[.int .i64 a1] (by rfl) rfl rfl (by (try simp only [List.map_toArray, List.map_cons, List.map_nil]); first | done | rfl | (simp only [List.length_drop, List.length_take]; rfl)) ?_
            with_reducible refine (fix_Of.calls a1 t281 _ A40.out).mono ?_
            rintro e w49 ⟨rfl, hb⟩
            refine ⟨_, rfl, ?_⟩
            have n0_ := Aside0.mk (blk_below (g := gb249) (o := .cells #[.int .i64 t233, .int .i64 t234, .int .i64 t235, .int .i64 t236, .int .i64 t237, .int .i64 t238, .int .i64 t239, .int .i64 t240, .int .i64 t241, .int .i64 t242, .int .i64 t243, .int .i64 t244, .int .i64 t245, .int .i64 t246, .int .i64 t247] 29 (0, 0)) (by (with_reducible repeat (first | refine blk_drewN ?_ _ | refine blk_drew ?_ | refine blk_alloc ?_ _)); exact BK249.out) hb)
            have n1_ := Aside0.mk (blk_below (g := gb272) (o := .cells #[.int .i64 t256, .int .i64 t257, .int .i64 t258, .int .i64 t259, .int .i64 t260, .int .i64 t261, .int .i64 t262, .int .i64 t263, .int .i64 t264, .int .i64 t265, .int .i64 t266, .int .i64 t267, .int .i64 t268, .int .i64 t269, .int .i64 t270] 29 (0, 0)) (by (with_reducible repeat (first | refine blk_drewN ?_ _ | refine blk_drew ?_ | refine blk_alloc ?_ _)); exact BK272.out) hb)
            have n2_ := Aside0.mk (below_step (by repeat (first | (with_reducible first | exact HB.out | apply below_alloc | apply pw_below_drewN | apply below_drew1 | refine below_set ?_ GE249.out | refine below_set ?_ GE272.out) | exact HB.out)) hb)
            clear BK249
            clear BK272
            clear HB
            have BK249 := n0_
            have BK272 := n1_
            have HB := n2_
            clear n0_ n1_ n2_
            (try clear hb)
            (try clear hb2)
            (try clear hk)
            (try clear hi)
            refine hK.out _ _ ⟨(blk_cell BK272.out 0).trans rfl, (blk_cell BK272.out 1).trans rfl, (blk_cell BK272.out 2).trans rfl, (blk_cell BK272.out 3).trans rfl, (blk_cell BK272.out 4).trans rfl, (blk_cell BK272.out 5).trans rfl, (blk_cell BK272.out 6).trans rfl, (blk_cell BK272.out 7).trans rfl, (blk_cell BK272.out 8).trans rfl, (blk_cell BK272.out 9).trans rfl, (blk_cell BK272.out 10).trans rfl, (blk_cell BK272.out 11).trans rfl, (blk_cell BK272.out 12).trans rfl, (blk_cell BK272.out 13).trans rfl, (blk_cell BK272.out 14).trans rfl, (blk_cell BK249.out 0).trans rfl, (blk_cell BK249.out 1).trans rfl, (blk_cell BK249.out 2).trans rfl, (blk_cell BK249.out 3).trans rfl, (blk_cell BK249.out 4).trans rfl, (blk_cell BK249.out 5).trans rfl, (blk_cell BK249.out 6).trans rfl, (blk_cell BK249.out 7).trans rfl, (blk_cell BK249.out 8).trans rfl, (blk_cell BK249.out 9).trans rfl, (blk_cell BK249.out 10).trans rfl, (blk_cell BK249.out 11).trans rfl, (blk_cell BK249.out 12).trans rfl, (blk_cell BK249.out 13).trans rfl, (blk_cell BK249.out 14).trans rfl⟩ (fun hHeld => ?_)
            clear hK K
            refine norm_ (a' := ?_) ?_ ?_
            rotate_left
            · show Act.put _ (some 88) _ = _
              simp only [Act.put, List.setIfInBounds_toArray, List.set_cons_zero, List.set_cons_succ, i64_w, i32_w]
              rfl
            refine pure_ (i := 22) (N := some 89) (v := ?_) (a' := ?_) #[true, true, true, true, true, true, true, true, true, true, true, true, true, true, true, true, true, true, true, true, true, true, true, false, false, false] rfl rfl (any_of HT_.out (by kernel_rfl)) (fun _ _ _ h => h) (Or.inl ⟨by rfl, ?_⟩) ?_ ?_
            rotate_left
            · intro w'
              go_simp
              with_reducible rfl
            rotate_left
            · simp only [Act.put, List.setIfInBounds_toArray, List.set_cons_zero, List.set_cons_succ, i64_w, i32_w]
              rfl
            refine pure_ (i := 23) (N := some 90) (v := ?_) (a' := ?_) #[true, true, true, true, true, true, true, true, true, true, true, true, true, true, true, true, true, true, true, true, true, true, true, true, false, false] rfl rfl (any_of HT_.out (by kernel_rfl)) (fun _ _ _ h => h) (Or.inl ⟨by rfl, ?_⟩) ?_ ?_
            rotate_left
            · intro w'
              go_simp
              with_reducible rfl
            rotate_left
            · simp only [Act.put, List.setIfInBounds_toArray, List.set_cons_zero, List.set_cons_succ, i64_w, i32_w]
              rfl
            refine pure_ (i := 24) (N := some 91) (v := ?_) (a' := ?_) #[true, true, true, true, true, true, true, true, true, true, true, true, true, true, true, true, true, true, true, true, true, true, true, true, true, false] rfl rfl (any_of HT_.out (by kernel_rfl)) (fun _ _ _ h => h) (Or.inl ⟨by rfl, ?_⟩) ?_ ?_
            rotate_left
            · intro w'
              go_simp
              with_reducible rfl
            rotate_left
            · simp only [Act.put, List.setIfInBounds_toArray, List.set_cons_zero, List.set_cons_succ, i64_w, i32_w]
              rfl
            refine pure_ (i := 25) (N := some 4) (v := ?_) (a' := ?_) #[true, true, true, true, true, true, true, true, true, true, true, true, true, true, true, true, true, true, true, true, true, true, true, true, true, true] rfl rfl (any_of HT_.out (by kernel_rfl)) (fun _ _ _ h => h) (Or.inl ⟨by rfl, ?_⟩) ?_ ?_
            rotate_left
            · intro w'
              go_simp
              with_reducible rfl
            rotate_left
            · simp only [Act.put, List.setIfInBounds_toArray, List.set_cons_zero, List.set_cons_succ, i64_w, i32_w]
              rfl
            refine done_ (done_of HT_.out (by kernel_rfl)) ?_
            try go_wp2
            go_ret
            have hlast := HL_.out
            exact ⟨by first | rfl | (simp [errW_none, errW_some] <;> rfl) | (simp [*, errW_none, errW_some] <;> rfl), by repeat (first | (with_reducible first | exact HB.out | apply below_alloc | apply pw_below_drewN | apply below_drew1 | refine below_set ?_ GE249.out | refine below_set ?_ GE272.out) | exact HB.out)⟩
      · rw [if_neg c37] at H
        have c37b0 : (t277 == t278) = false := beq_eq_false_iff_ne.mpr c37
        have c37b1 : (t277 != t278) = true := bne_iff_ne.mpr c37
        exact absurd (Option.some.inj H) (by decide)
    · rw [if_neg c34] at H
      have c34b0 : (t275 == t276) = false := beq_eq_false_iff_ne.mpr c34
      have c34b1 : (t275 != t276) = true := bne_iff_ne.mpr c34
      exact absurd (Option.some.inj H) (by decide)
  · replace c31 := Bool.eq_false_iff.mpr c31
    subst c31
    have H1 : (some false) = some true := by rw [if_neg (show ¬ (false = true) by decide)] at H; exact H
    clear H
    have H := H1
    clear H1
    exact absurd (Option.some.inj H) (by decide)
end Go.Proofs.Ytlokmliannklaaa.Print
end

section
namespace Go.Proofs.Ytlokmliannklaaa.Print
open Go.RowKit Go.Proofs.YtlokmliannklaaaW.PrintWords Go.Proofs.YtlokmliannklaaaW.PrintLast Go.Proofs.YtlokmliannklaaaW.PrintMore
attribute [local go_sem] max2_int min2_int max_two min_two max_three min_three max_four min_four   -- for this text's walks alone
set_option linter.unusedVariables false
set_option linter.unusedSimpArgs false

theorem pacemakerlaw10_SlopeMoves_calls  (k : Nat) (A0 : Option Addr) (c0 : Nat) (l0 : List (S36)) (a1 : Int) (w : World) (hr0 : Kd.C k36 w A0 l0.length l0) (hc0 : l0.length ≤ c0) (h : pacemakerlaw10_SlopeMoves.f k l0 a1 = some true) : Calls Try.prog 5 #[.slice A0 l0.length c0, .int .i64 a1] w fun e w' => e = .returned (.bool true) ∧ Below w.heap.size w w' :=
  (pacemakerlaw10_SlopeMoves_calls_skel ).2.2.2.2.2.2.2.2 ⟨pacemakerlaw10_SlopeMoves_calls_p0 ⟩ ⟨pacemakerlaw10_SlopeMoves_calls_p1 ⟩ ⟨pacemakerlaw10_SlopeMoves_calls_p2 ⟩ ⟨pacemakerlaw10_SlopeMoves_calls_p3 ⟩ ⟨pacemakerlaw10_SlopeMoves_calls_p4 ⟩ ⟨pacemakerlaw10_SlopeMoves_calls_p5 ⟩ ⟨pacemakerlaw10_SlopeMoves_calls_p6 ⟩ ⟨pacemakerlaw10_SlopeMoves_calls_p7 ⟩ k A0 c0 l0 a1 w hr0 hc0 h
end Go.Proofs.Ytlokmliannklaaa.Print
end
