import Derived.Test.YtgeggcifhojpmaaDiskSw
import Derived.Laws.CopyRow
import Derived.Laws.MakeOwn
import Derived.Laws.CopyOwn
import Derived.Deep.Cut
import Derived.Deep.CutRange
import Derived.Deep.CutBlock
namespace Go.Proofs.Ytgeggcifhojpmaa.PA
open Go.RowKit Go.Proofs.YtgeggcifhojpmaaW.PrintWords Go.Proofs.YtgeggcifhojpmaaW.PrintLast Go.Proofs.YtgeggcifhojpmaaW.PrintMore
attribute [local go_sem] max2_mx min2_mn max_two min_two max_three min_three max_four min_four   -- for this text's walks alone
set_option linter.unusedVariables false
set_option linter.unusedSimpArgs false

set_option maxHeartbeats 16000000 in
set_option maxRecDepth 100000 in
theorem dpSw_copy (w wi : World) (bm qm cap s N g q : Nat) (hs : List Nat) (ms : List (Nat × Nat)) (bs : List (List Int)) (cut pre mc mp : Int) (dead armed : Bool) (at_ : Int) (ES : Aside0 (64 ≤ s ∧ s ≤ 65536)) (EN2 : Aside0 (1 ≤ N ∧ N ≤ 64)) (HAT : Aside0 (-1 ≤ at_ ∧ at_ ≤ (N : Int))) (HP : Aside0 (PL wi w.heap.size bm qm cap s N g q hs ms bs cut pre mc mp dead armed)) (HB : Aside0 (Below w.heap.size w wi)) (xb : Nat) (what ai an ap ax : Int) (HX : Aside0 (wi.heap[xb]? = some (.cells #[.int .i64 what, .int .i64 ai, .int .i64 an, .int .i64 ap, .int .u8 ax] 43 (0, 0)))) (hw : what = 7) (v0 v1 v2 v3 v4 v5 v6 v9 v10 v13 v14 v15 v16 v17 v18 v19 v20 v21 v22 v23 v24 v25 v26 v27 v28 v29 v30 v31 v32 v33 v34 v35 v36 v37 v38 v39 v40 v41 v42 v43 v44 v45 v46 v47 v48 v49 v50 v51 v52 v53 v54 v55 v56 v57 v58 v59 v60 v61 v62 v63 v64 v65 v66 v67 v68 v69 v70 v71 v72 v73 v74 v75 v76 v77 v78 v79 v80 v81 v82 v83 v84 v85 v86 v87 v88 v89 v90 v91 v92 v93 v95 v96 v97 v98 v99 v100 v101 v102 v103 v104 v105 v106 v107 v108 v109 v110 v111 v112 v113 v114 v115 v116 v117 v118 v119 v120 v121 v122 v123 v124 v125 v126 v127 v128 v129 v130 v131 v132 v133 v134 v135 v136 v137 v138 v139 v140 v141 v142 v143 v144 v145 v146 v147 v148 v149 v150 v151 v152 v153 v154 v155 v156 v157 v158 v159 v160 v161 v162 v163 v164 v165 v166 v167 v168 v169 v170 v171 v172 v173 v174 v175 v176 v177 v178 v179 v180 v181 v182 v183 v184 v185 v186 v187 v188 v189 v190 v191 v192 v193 v194 v195 v196 v197 v198 v199 v200 v201 v202 v203 v204 v205 v206 v207 v208 v209 v210 v211 v212 v213 v214 v215 v216 v217 v218 v219 v220 v221 v222 v223 v224 v225 v226 v227 v228 v229 v230 v231 v232 v233 v234 v235 v236 v237 v238 v239 v240 v241 v242 v243 v244 v245 v246 v247 v248 v249 v250 v251 v252 v253 v254 v255 v256 v257 v258 v259 v260 v261 v262 v263 v264 v265 v266 v267 v268 v269 v270 v271 v272 v273 v274 v275 v276 v277 v278 v279 v280 v281 v282 v283 v284 v285 v286 v287 v288 v289 v290 v291 v292 v293 v294 v295 v296 v297 v298 v299 v300 : Value) (Q : Exit → Act → World → Prop) (HPN : Aside0 (∀ (c : _) (a : Act) (t : Option Tmp) (v : Value) (w : World), Q (.panic c) (a.put t v) w → Q (.panic c) a w)) (hQ : ∀ (a' : Act) (w' : World), (∃ u6 u7 u12 u13 u14 u15 u16 u73 u74 u75 u76 u77 u78 u79 u80 u81 u82 u83 u84 u85 u86 u87 u88 u89 u90 u91 u92 u93 u94 u95 u96 u97 u98 u99 u100 u101 u102 u103 u104 u105 u106 u107 u108 u109 u110 u111 u112 u113 u114 u115 u116 u117 u118 u119 u120 u121 u122 u123 u124 u125 u126 u127 u128 u129 u130 u131 u132 u133 u134 u135 u136 u137 u138 u139 u140 u141 u142 u143 u144 u145 u146 u147 u148 u149 u150 u151 u152 u153 u154 u155 u156 u157 u158 u159 u160 u161 u162 u163 u164 u165 u166 u167 u168 u169 u170 u171 u172 u173 u174 u175 u176 u177 u178 u179 u180 u181 u182 u183 u184 u185 u186 u187 u188 u189 u190 u191 u192 u193 u194 u195 u196 u197 u198 u199 u200 u201 u202 u203 u204 u205 u206 u207 u208 u209 u210 u211 u212 u213 u214 u215 u216 u217 u218 u219 u220 u221 u222 u223 u224 u225 u226 u227 u228 u229 u230 u231 u232 u233 u234 u235 u236 u237 u238 u239 u240 u241 u242 u243 u244 u245 u246 u247 u248 u249 u250 u251 u252 u253 u254 u255 u256 u257 u258 u259 u260 u261 u262 u263 u264 u265 u266 u267 u268 u269 u270 u271 u272 u273 u274 u275 u276 u277 u278 u279 u280 u281 u282 u283 u284 u285 u286 u287 u288 u289 u290 u291 u292 u293 u294 u295 u296 u297 u298 u299 u300 : Value, (∃ (g q : Nat) (hs : List Nat) (ms : List (Nat × Nat)) (bs : List (List Int)) (cut pre mc mp : Int) (dead armed : Bool), u7 = .pointer (some ⟨g, 0, none⟩) ∧ u12 = .int .i64 at_ ∧ Aside0 (PL w' w.heap.size bm qm cap s N g q hs ms bs cut pre mc mp dead armed) ∧ Aside0 (Below w.heap.size w w')) ∧ a' = { tmps := #[v0, v1, v2, v3, v4, v5, u6, u7, .pointer (some ⟨bm, 0, none⟩), v9, v10, .pointer (some ⟨xb, 0, none⟩), u12, u13, u14, u15, u16, v17, v18, v19, v20, v21, v22, v23, v24, v25, v26, v27, v28, v29, v30, v31, v32, v33, v34, v35, v36, v37, v38, v39, v40, v41, v42, v43, v44, v45, v46, v47, v48, v49, v50, v51, v52, v53, v54, v55, v56, v57, v58, v59, v60, v61, v62, v63, v64, v65, v66, v67, v68, v69, v70, v71, v72, u73, u74, u75, u76, u77, u78, u79, u80, u81, u82, u83, u84, u85, u86, u87, u88, u89, u90, u91, u92, u93, u94, u95, u96, u97, u98, u99, u100, u101, u102, u103, u104, u105, u106, u107, u108, u109, u110, u111, u112, u113, u114, u115, u116, u117, u118, u119, u120, u121, u122, u123, u124, u125, u126, u127, u128, u129, u130, u131, u132, u133, u134, u135, u136, u137, u138, u139, u140, u141, u142, u143, u144, u145, u146, u147, u148, u149, u150, u151, u152, u153, u154, u155, u156, u157, u158, u159, u160, u161, u162, u163, u164, u165, u166, u167, u168, u169, u170, u171, u172, u173, u174, u175, u176, u177, u178, u179, u180, u181, u182, u183, u184, u185, u186, u187, u188, u189, u190, u191, u192, u193, u194, u195, u196, u197, u198, u199, u200, u201, u202, u203, u204, u205, u206, u207, u208, u209, u210, u211, u212, u213, u214, u215, u216, u217, u218, u219, u220, u221, u222, u223, u224, u225, u226, u227, u228, u229, u230, u231, u232, u233, u234, u235, u236, u237, u238, u239, u240, u241, u242, u243, u244, u245, u246, u247, u248, u249, u250, u251, u252, u253, u254, u255, u256, u257, u258, u259, u260, u261, u262, u263, u264, u265, u266, u267, u268, u269, u270, u271, u272, u273, u274, u275, u276, u277, u278, u279, u280, u281, u282, u283, u284, u285, u286, u287, u288, u289, u290, u291, u292, u293, u294, u295, u296, u297, u298, u299, u300], defers := [] }) → Q .normal a' w') :
    Code.wp Try.prog (codeR (codeL (codeR (codeR (codeL (codeL (codeR (codeL (codeL (codeR (codeL (codeR (codeR (codeR (codeR (codeR (codeR (codeR (codeR (codeR (Try.f5.body.getD .skip))))))))))))))))))))) Q { tmps := #[v0, v1, v2, v3, v4, v5, v6, .pointer (some ⟨g, 0, none⟩), .pointer (some ⟨bm, 0, none⟩), v9, v10, .pointer (some ⟨xb, 0, none⟩), .int .i64 at_, v13, v14, v15, v16, v17, v18, v19, v20, v21, v22, v23, v24, v25, v26, v27, v28, v29, v30, v31, v32, v33, v34, v35, v36, v37, v38, v39, v40, v41, v42, v43, v44, v45, v46, v47, v48, v49, v50, v51, v52, v53, v54, v55, v56, v57, v58, v59, v60, v61, v62, v63, v64, v65, v66, v67, v68, v69, v70, v71, v72, v73, v74, v75, v76, v77, v78, v79, v80, v81, v82, v83, v84, v85, v86, v87, v88, v89, v90, v91, v92, v93, .int .i64 what, v95, v96, v97, v98, v99, v100, v101, v102, v103, v104, v105, v106, v107, v108, v109, v110, v111, v112, v113, v114, v115, v116, v117, v118, v119, v120, v121, v122, v123, v124, v125, v126, v127, v128, v129, v130, v131, v132, v133, v134, v135, v136, v137, v138, v139, v140, v141, v142, v143, v144, v145, v146, v147, v148, v149, v150, v151, v152, v153, v154, v155, v156, v157, v158, v159, v160, v161, v162, v163, v164, v165, v166, v167, v168, v169, v170, v171, v172, v173, v174, v175, v176, v177, v178, v179, v180, v181, v182, v183, v184, v185, v186, v187, v188, v189, v190, v191, v192, v193, v194, v195, v196, v197, v198, v199, v200, v201, v202, v203, v204, v205, v206, v207, v208, v209, v210, v211, v212, v213, v214, v215, v216, v217, v218, v219, v220, v221, v222, v223, v224, v225, v226, v227, v228, v229, v230, v231, v232, v233, v234, v235, v236, v237, v238, v239, v240, v241, v242, v243, v244, v245, v246, v247, v248, v249, v250, v251, v252, v253, v254, v255, v256, v257, v258, v259, v260, v261, v262, v263, v264, v265, v266, v267, v268, v269, v270, v271, v272, v273, v274, v275, v276, v277, v278, v279, v280, v281, v282, v283, v284, v285, v286, v287, v288, v289, v290, v291, v292, v293, v294, v295, v296, v297, v298, v299, v300], defers := [] } wi := by
  have hu49 := Try.underlying49
  have hu41 := Try.underlying41
  have hu43 := Try.underlying43
  have hu27 := Try.underlying27
  conv =>
    arg 2
    whnf
  obtain rfl := hw
  have hmk := dk_make (s : Int) (by omega) (by have := ES.out.2; omega)
  rw [Int.toNat_natCast] at hmk
  go_wp2_with fail
  refine (HP.out.copy_ ES.out.2 (by have := EN2.out.2; omega)).mono ?_
  rintro e wb ⟨g2, q2, hs2, rfl, hp, hd, hap, hb⟩
  (try dsimp only)
  have HN0 := Aside0.mk (show 1 ≤ hs.length by rw [HP.out.nh]; exact EN2.out.1)
  have n0_ := Aside0.mk hp
  have n1_ := Aside0.mk (below_step HB.out hb)
  have HD := Aside0.mk hd
  have HAP := Aside0.mk hap
  clear HP HB HX hp hd hap hb
  have HP := n0_
  have HB := n1_
  clear n0_ n1_
  have m1 : wb.cell? ⟨bm, 1, none⟩ = some (.int .i64 (s : Int)) := (blk_cell HP.out.mo.top 1).trans rfl
  go_wp2_with fail
  obtain ⟨cb, hcb⟩ : ∃ cb, cb = wb.heap.size := ⟨_, rfl⟩
  rw [← hcb]
  have n0_ := Aside0.mk (HP.out.below (below_alloc (Below.refl _ wb) (.cells (dkB (List.replicate s 0)) 5)))
  have n1_ := Aside0.mk (below_alloc HB.out (.cells (dkB (List.replicate s 0)) 5))
  have n2_ := Aside0.mk (HD.out.below (below_alloc (Below.refl _ wb) (.cells (dkB (List.replicate s 0)) 5)))
  have HV : Aside0 ((wb.alloc (.cells (dkB (List.replicate s 0)) 5)).heap[cb]? = some (.cells (dkB (List.replicate s 0)) 5 (0, 0))) := ⟨by rw [hcb]; exact blk_new wb _⟩
  have HN2 : Aside0 (cb ∉ hs) := ⟨fun e => by have := HD.out.lt.2.2 _ e; omega⟩
  clear HP HB HD hcb hmk m1
  have HP := n0_
  have HB := n1_
  have HD := n2_
  clear n0_ n1_ n2_
  generalize wb.alloc (.cells (dkB (List.replicate s 0)) 5) = wz at HP HB HD HV ⊢
  refine (HP.out.scrap HD.out HAP.out HN0.out HV.out List.length_replicate HN2.out).mono ?_
  rintro e wc2 ⟨r, rfl, hp, ⟨bs', cut', pre', dead', hd⟩, hb⟩
  (try dsimp only)
  have n0_ := Aside0.mk hp
  have n1_ := Aside0.mk (HB.out.trans hb)
  have n2_ := Aside0.mk hd
  clear HP HB HD HV HN2 hp hb hd
  have HP := n0_
  have HB := n1_
  have HD := n2_
  clear n0_ n1_ n2_
  go_wp2_with fail
  refine (HP.out.scrap_power HD.out HAP.out).mono ?_
  rintro e wd ⟨rfl, hp, hb⟩
  (try dsimp only)
  have n0_ := Aside0.mk hp
  have n1_ := Aside0.mk (HB.out.trans hb)
  clear HP HB HD hp hb
  have HP := n0_
  have HB := n1_
  clear n0_ n1_
  go_wp2
  (repeat apply Exists.intro)
  exact ⟨⟨g2, q2, hs2, ms, bs, cut, pre, mc, mp, dead, armed, rfl, rfl, ⟨HP.out⟩, ⟨HB.out⟩⟩, rfl⟩
end Go.Proofs.Ytgeggcifhojpmaa.PA
