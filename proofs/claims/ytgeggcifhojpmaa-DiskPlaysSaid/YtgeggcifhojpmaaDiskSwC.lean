import Derived.Test.YtgeggcifhojpmaaDiskSw
import Derived.Laws.CopyRow
import Derived.Laws.MakeOwn
import Derived.Laws.CopyOwn
import Derived.Deep.Cut
import Derived.Deep.CutRange
import Derived.Deep.CutBlock
namespace Go.Proofs.Ytgeggcifhojpmaa.PA
open Go.RowKit Go.Proofs.YtgeggcifhojpmaaW.PrintWords Go.Proofs.YtgeggcifhojpmaaW.PrintLast Go.Proofs.YtgeggcifhojpmaaW.PrintMore
attribute [local go_sem] max2_mx min2_mn max_two min_two max_three min_three max_four min_four   -- for this text's walks alone
set_option linter.unusedVariables false
set_option linter.unusedSimpArgs false

def lychlaw9_DiskPlays.T36 : Bool × List (List Nat × List Nat) := (true, [([], []), ([], []), ([], []), ([], []), ([3], [3]), ([], []), ([5], [5]), ([6], [6]), ([], []), ([8], [8]), ([9], [9]), ([10], [10]), ([7, 11], [7, 11]), ([0, 0, 11], [0]), ([13, 0, 11], [13]), ([14, 0, 11], [14]), ([1, 0, 1, 3, 4, 11, 13, 14, 15], [1]), ([16, 0, 1, 3, 4, 11, 13, 14, 15], [16]), ([17, 4, 15, 0, 1, 3, 4, 11, 13, 14, 15], [4, 17]), ([2, 0, 1, 2, 3, 4, 5, 6, 7, 8, 9, 10, 11, 12, 13, 14, 15, 16, 17, 18], [2]), ([19, 0, 1, 2, 3, 4, 5, 6, 7, 8, 9, 10, 11, 12, 13, 14, 15, 16, 17, 18], [19]), ([20, 12, 18, 0, 1, 2, 3, 4, 5, 6, 7, 8, 9, 10, 11, 12, 13, 14, 15, 16, 17, 18], [12, 20])])
def lychlaw9_DiskPlays.B36 : List Nat := [0, 0, 0, 0, 8, 0, 32, 96, 0, 256, 768, 1792, 4064, 3841, 12033, 28417, 61211, 126747, 257819, 524287, 1048575, 2097151]
theorem lychlaw9_DiskPlays.tab36 : rtab .any (opsOf Try.f5 36) = lychlaw9_DiskPlays.T36 := by kernel_rfl
theorem lychlaw9_DiskPlays.bits36 : waitsOk lychlaw9_DiskPlays.T36.2 lychlaw9_DiskPlays.B36 = true := by kernel_rfl
set_option maxHeartbeats 16000000 in
set_option maxRecDepth 100000 in
theorem dpSw_cut (w wi : World) (bm qm cap s N g q : Nat) (hs : List Nat) (ms : List (Nat × Nat)) (bs : List (List Int)) (cut pre mc mp : Int) (dead armed : Bool) (at_ : Int) (ES : Aside0 (64 ≤ s ∧ s ≤ 65536)) (EN2 : Aside0 (1 ≤ N ∧ N ≤ 64)) (HAT : Aside0 (-1 ≤ at_ ∧ at_ ≤ (N : Int))) (HP : Aside0 (PL wi w.heap.size bm qm cap s N g q hs ms bs cut pre mc mp dead armed)) (HB : Aside0 (Below w.heap.size w wi)) (xb : Nat) (what ai an ap ax : Int) (HX : Aside0 (wi.heap[xb]? = some (.cells #[.int .i64 what, .int .i64 ai, .int .i64 an, .int .i64 ap, .int .u8 ax] 43 (0, 0)))) (hw : what = 4) (v0 v1 v2 v3 v4 v5 v6 v9 v10 v13 v14 v15 v16 v17 v18 v19 v20 v21 v22 v23 v24 v25 v26 v27 v28 v29 v30 v31 v32 v33 v34 v35 v36 v37 v38 v39 v40 v41 v42 v43 v44 v45 v46 v47 v48 v49 v50 v51 v52 v53 v54 v55 v56 v57 v58 v59 v60 v61 v62 v63 v64 v65 v66 v67 v68 v69 v70 v71 v72 v73 v74 v75 v76 v77 v78 v79 v80 v81 v82 v83 v84 v85 v86 v87 v88 v89 v90 v91 v92 v93 v95 v96 v97 v98 v99 v100 v101 v102 v103 v104 v105 v106 v107 v108 v109 v110 v111 v112 v113 v114 v115 v116 v117 v118 v119 v120 v121 v122 v123 v124 v125 v126 v127 v128 v129 v130 v131 v132 v133 v134 v135 v136 v137 v138 v139 v140 v141 v142 v143 v144 v145 v146 v147 v148 v149 v150 v151 v152 v153 v154 v155 v156 v157 v158 v159 v160 v161 v162 v163 v164 v165 v166 v167 v168 v169 v170 v171 v172 v173 v174 v175 v176 v177 v178 v179 v180 v181 v182 v183 v184 v185 v186 v187 v188 v189 v190 v191 v192 v193 v194 v195 v196 v197 v198 v199 v200 v201 v202 v203 v204 v205 v206 v207 v208 v209 v210 v211 v212 v213 v214 v215 v216 v217 v218 v219 v220 v221 v222 v223 v224 v225 v226 v227 v228 v229 v230 v231 v232 v233 v234 v235 v236 v237 v238 v239 v240 v241 v242 v243 v244 v245 v246 v247 v248 v249 v250 v251 v252 v253 v254 v255 v256 v257 v258 v259 v260 v261 v262 v263 v264 v265 v266 v267 v268 v269 v270 v271 v272 v273 v274 v275 v276 v277 v278 v279 v280 v281 v282 v283 v284 v285 v286 v287 v288 v289 v290 v291 v292 v293 v294 v295 v296 v297 v298 v299 v300 : Value) (Q : Exit → Act → World → Prop) (HPN : Aside0 (∀ (c : _) (a : Act) (t : Option Tmp) (v : Value) (w : World), Q (.panic c) (a.put t v) w → Q (.panic c) a w)) (hQ : ∀ (a' : Act) (w' : World), (∃ u6 u7 u12 u13 u14 u15 u16 u73 u74 u75 u76 u77 u78 u79 u80 u81 u82 u83 u84 u85 u86 u87 u88 u89 u90 u91 u92 u93 u94 u95 u96 u97 u98 u99 u100 u101 u102 u103 u104 u105 u106 u107 u108 u109 u110 u111 u112 u113 u114 u115 u116 u117 u118 u119 u120 u121 u122 u123 u124 u125 u126 u127 u128 u129 u130 u131 u132 u133 u134 u135 u136 u137 u138 u139 u140 u141 u142 u143 u144 u145 u146 u147 u148 u149 u150 u151 u152 u153 u154 u155 u156 u157 u158 u159 u160 u161 u162 u163 u164 u165 u166 u167 u168 u169 u170 u171 u172 u173 u174 u175 u176 u177 u178 u179 u180 u181 u182 u183 u184 u185 u186 u187 u188 u189 u190 u191 u192 u193 u194 u195 u196 u197 u198 u199 u200 u201 u202 u203 u204 u205 u206 u207 u208 u209 u210 u211 u212 u213 u214 u215 u216 u217 u218 u219 u220 u221 u222 u223 u224 u225 u226 u227 u228 u229 u230 u231 u232 u233 u234 u235 u236 u237 u238 u239 u240 u241 u242 u243 u244 u245 u246 u247 u248 u249 u250 u251 u252 u253 u254 u255 u256 u257 u258 u259 u260 u261 u262 u263 u264 u265 u266 u267 u268 u269 u270 u271 u272 u273 u274 u275 u276 u277 u278 u279 u280 u281 u282 u283 u284 u285 u286 u287 u288 u289 u290 u291 u292 u293 u294 u295 u296 u297 u298 u299 u300 : Value, (∃ (g q : Nat) (hs : List Nat) (ms : List (Nat × Nat)) (bs : List (List Int)) (cut pre mc mp : Int) (dead armed : Bool), u7 = .pointer (some ⟨g, 0, none⟩) ∧ u12 = .int .i64 at_ ∧ Aside0 (PL w' w.heap.size bm qm cap s N g q hs ms bs cut pre mc mp dead armed) ∧ Aside0 (Below w.heap.size w w')) ∧ a' = { tmps := #[v0, v1, v2, v3, v4, v5, u6, u7, .pointer (some ⟨bm, 0, none⟩), v9, v10, .pointer (some ⟨xb, 0, none⟩), u12, u13, u14, u15, u16, v17, v18, v19, v20, v21, v22, v23, v24, v25, v26, v27, v28, v29, v30, v31, v32, v33, v34, v35, v36, v37, v38, v39, v40, v41, v42, v43, v44, v45, v46, v47, v48, v49, v50, v51, v52, v53, v54, v55, v56, v57, v58, v59, v60, v61, v62, v63, v64, v65, v66, v67, v68, v69, v70, v71, v72, u73, u74, u75, u76, u77, u78, u79, u80, u81, u82, u83, u84, u85, u86, u87, u88, u89, u90, u91, u92, u93, u94, u95, u96, u97, u98, u99, u100, u101, u102, u103, u104, u105, u106, u107, u108, u109, u110, u111, u112, u113, u114, u115, u116, u117, u118, u119, u120, u121, u122, u123, u124, u125, u126, u127, u128, u129, u130, u131, u132, u133, u134, u135, u136, u137, u138, u139, u140, u141, u142, u143, u144, u145, u146, u147, u148, u149, u150, u151, u152, u153, u154, u155, u156, u157, u158, u159, u160, u161, u162, u163, u164, u165, u166, u167, u168, u169, u170, u171, u172, u173, u174, u175, u176, u177, u178, u179, u180, u181, u182, u183, u184, u185, u186, u187, u188, u189, u190, u191, u192, u193, u194, u195, u196, u197, u198, u199, u200, u201, u202, u203, u204, u205, u206, u207, u208, u209, u210, u211, u212, u213, u214, u215, u216, u217, u218, u219, u220, u221, u222, u223, u224, u225, u226, u227, u228, u229, u230, u231, u232, u233, u234, u235, u236, u237, u238, u239, u240, u241, u242, u243, u244, u245, u246, u247, u248, u249, u250, u251, u252, u253, u254, u255, u256, u257, u258, u259, u260, u261, u262, u263, u264, u265, u266, u267, u268, u269, u270, u271, u272, u273, u274, u275, u276, u277, u278, u279, u280, u281, u282, u283, u284, u285, u286, u287, u288, u289, u290, u291, u292, u293, u294, u295, u296, u297, u298, u299, u300], defers := [] }) → Q .normal a' w') :
    Code.wp Try.prog (codeR (codeL (codeR (codeR (codeL (codeL (codeR (codeL (codeL (codeR (codeL (codeR (codeR (codeR (codeR (codeR (codeR (codeR (codeR (codeR (Try.f5.body.getD .skip))))))))))))))))))))) Q { tmps := #[v0, v1, v2, v3, v4, v5, v6, .pointer (some ⟨g, 0, none⟩), .pointer (some ⟨bm, 0, none⟩), v9, v10, .pointer (some ⟨xb, 0, none⟩), .int .i64 at_, v13, v14, v15, v16, v17, v18, v19, v20, v21, v22, v23, v24, v25, v26, v27, v28, v29, v30, v31, v32, v33, v34, v35, v36, v37, v38, v39, v40, v41, v42, v43, v44, v45, v46, v47, v48, v49, v50, v51, v52, v53, v54, v55, v56, v57, v58, v59, v60, v61, v62, v63, v64, v65, v66, v67, v68, v69, v70, v71, v72, v73, v74, v75, v76, v77, v78, v79, v80, v81, v82, v83, v84, v85, v86, v87, v88, v89, v90, v91, v92, v93, .int .i64 what, v95, v96, v97, v98, v99, v100, v101, v102, v103, v104, v105, v106, v107, v108, v109, v110, v111, v112, v113, v114, v115, v116, v117, v118, v119, v120, v121, v122, v123, v124, v125, v126, v127, v128, v129, v130, v131, v132, v133, v134, v135, v136, v137, v138, v139, v140, v141, v142, v143, v144, v145, v146, v147, v148, v149, v150, v151, v152, v153, v154, v155, v156, v157, v158, v159, v160, v161, v162, v163, v164, v165, v166, v167, v168, v169, v170, v171, v172, v173, v174, v175, v176, v177, v178, v179, v180, v181, v182, v183, v184, v185, v186, v187, v188, v189, v190, v191, v192, v193, v194, v195, v196, v197, v198, v199, v200, v201, v202, v203, v204, v205, v206, v207, v208, v209, v210, v211, v212, v213, v214, v215, v216, v217, v218, v219, v220, v221, v222, v223, v224, v225, v226, v227, v228, v229, v230, v231, v232, v233, v234, v235, v236, v237, v238, v239, v240, v241, v242, v243, v244, v245, v246, v247, v248, v249, v250, v251, v252, v253, v254, v255, v256, v257, v258, v259, v260, v261, v262, v263, v264, v265, v266, v267, v268, v269, v270, v271, v272, v273, v274, v275, v276, v277, v278, v279, v280, v281, v282, v283, v284, v285, v286, v287, v288, v289, v290, v291, v292, v293, v294, v295, v296, v297, v298, v299, v300], defers := [] } wi := by
  have hu49 := Try.underlying49
  have hu41 := Try.underlying41
  have hu43 := Try.underlying43
  have hu27 := Try.underlying27
  conv =>
    arg 2
    whnf
  obtain rfl := hw
  have x2 : wi.cell? ⟨xb, 2, none⟩ = some (.int .i64 an) := (blk_cell HX.out 2).trans rfl
  obtain ⟨r3, hr0, hr1, hr2⟩ := placeN an 6 (by decide) (by decide)
  have HR3 := Aside0.mk hr0
  have HRI := Aside0.mk (And.intro hr1 hr2)
  have wr3 : wrap64 (r3 - 1) = r3 - 1 := by unfold wrap64; omega
  clear hr0 hr1 hr2
  go_wp2_with fail
  refine (lychhelp_Place.calls an 6 r3 _ HR3.out).mono ?_
  rintro e wa ⟨rfl, ⟨nd, rfl⟩⟩
  (try dsimp only)
  have n0_ := Aside0.mk (HP.out.drewN nd)
  have n1_ := Aside0.mk (pw_below_drewN HB.out nd)
  have n2_ := Aside0.mk (blk_drewN HX.out nd)
  clear HP HB HX x2
  have HP := n0_
  have HB := n1_
  have HX := n2_
  clear n0_ n1_ n2_
  generalize wi.drewN nd = wj at HP HB HX ⊢
  have x3 : wj.cell? ⟨xb, 3, none⟩ = some (.int .i64 ap) := (blk_cell HX.out 3).trans rfl
  go_wp2_with fail
  refine (HP.out.cut_ EN2.out.1 (r3 - 1) ap).mono ?_
  rintro e wb ⟨rfl, hd, hm, hf⟩
  (try dsimp only)
  have HD := Aside0.mk hd
  have HM := Aside0.mk hm
  have HXM := Aside0.mk (show xb ≠ bm from blk_ne HX.out HP.out.mo.top (by decide))
  have n1_ := Aside0.mk (HB.out.trans (HP.out.dbelow (hf.mono (fun _ e => Or.inl e))))
  have n2_ := Aside0.mk ((hf.block xb (blk_lt HX.out) (blk_ne HX.out HP.out.dk.top (by decide))).trans HX.out)
  clear HB HX x3 hd hm hf
  have HB := n1_
  have HX := n2_
  clear n1_ n2_
  go_upto_region 36 with (fail)
  refine start_ (n := 22) (S := (fun w' => w'.cell? ⟨bm, 1, none⟩ = some (.int .i64 (s : Int)) ∧ w'.cell? ⟨xb, 3, none⟩ = some (.int .i64 ap))) (ds := []) #[false, false, false, false, false, false, false, false, false, false, false, false, false, false, false, false, false, false, false, false, false, false] (by kernel_rfl) rfl rfl ⟨(blk_cell HM.out.top 1).trans rfl, (blk_cell HX.out 3).trans rfl⟩ (fun hHeld => ?_)
  refine with_tabW lychlaw9_DiskPlays.tab36 lychlaw9_DiskPlays.bits36 (fun HT_ HW_ => ?_)
  have n0_ : Aside0 (DK wb.drew w.heap.size g q s hs bs (mx (r3 - 1) 0) (mn (mx ap 0) (s : Int)) dead) := ⟨HD.out.drewN 1⟩
  have n1_ : Aside0 (MK wb.drew w.heap.size bm qm cap s ms bs mc mp dead armed) := ⟨HM.out.drewN 1⟩
  have n2_ : Aside0 (Below w.heap.size w wb.drew) := ⟨pw_below_drewN HB.out 1⟩
  have n3_ := Aside0.mk (blk_drew HX.out)
  clear HD HM HB HX
  have HD := n0_
  have HM := n1_
  have HB := n2_
  have HX := n3_
  clear n0_ n1_ n2_ n3_
  generalize wb.drew = wq at HD HM HB HX hHeld ⊢
  refine pure_ (i := 0) (N := some 149) (v := ?_) (a' := ?_) #[true, false, false, false, false, false, false, false, false, false, false, false, false, false, false, false, false, false, false, false, false, false] rfl rfl (any_of HT_.out (by kernel_rfl)) (fun _ _ _ h => HPN.out _ _ _ _ _ h) (Or.inl ⟨by rfl, ?_⟩) ?_ ?_
  rotate_left
  · intro w'
    go_simp
    with_reducible rfl
  rotate_left
  · simp only [Act.put, List.setIfInBounds_toArray, List.set_cons_zero, List.set_cons_succ, i64_w, i32_w]
    rfl
  refine pure_ (i := 1) (N := some 150) (v := ?_) (a' := ?_) #[true, true, false, false, false, false, false, false, false, false, false, false, false, false, false, false, false, false, false, false, false, false] rfl rfl (any_of HT_.out (by kernel_rfl)) (fun _ _ _ h => HPN.out _ _ _ _ _ h) (Or.inl ⟨by rfl, ?_⟩) ?_ ?_
  rotate_left
  · intro w'
    go_simp
    with_reducible rfl
  rotate_left
  · simp only [Act.put, List.setIfInBounds_toArray, List.set_cons_zero, List.set_cons_succ, i64_w, i32_w]
    rfl
  refine pure_ (i := 2) (N := some 151) (v := ?_) (a' := ?_) #[true, true, true, false, false, false, false, false, false, false, false, false, false, false, false, false, false, false, false, false, false, false] rfl rfl (any_of HT_.out (by kernel_rfl)) (fun _ _ _ h => HPN.out _ _ _ _ _ h) (Or.inl ⟨by rfl, ?_⟩) ?_ ?_
  rotate_left
  · intro w'
    go_simp
    with_reducible rfl
  rotate_left
  · simp only [Act.put, List.setIfInBounds_toArray, List.set_cons_zero, List.set_cons_succ, i64_w, i32_w]
    rfl
  refine pure_ (i := 3) (N := some 152) (v := ?_) (a' := ?_) #[true, true, true, true, false, false, false, false, false, false, false, false, false, false, false, false, false, false, false, false, false, false] rfl rfl (any_of HT_.out (by kernel_rfl)) (fun _ _ _ h => HPN.out _ _ _ _ _ h) (Or.inl ⟨by rfl, ?_⟩) ?_ ?_
  rotate_left
  · intro w'
    go_simp
    with_reducible rfl
  rotate_left
  · simp only [Act.put, List.setIfInBounds_toArray, List.set_cons_zero, List.set_cons_succ, i64_w, i32_w]
    rfl
  refine pure_ (i := 4) (N := some 153) (v := ?_) (a' := ?_) #[true, true, true, true, true, false, false, false, false, false, false, false, false, false, false, false, false, false, false, false, false, false] rfl rfl (any_of HT_.out (by kernel_rfl)) (fun _ _ _ h => HPN.out _ _ _ _ _ h) (Or.inl ⟨by rfl, ?_⟩) ?_ ?_
  rotate_left
  · intro w'
    go_simp
    with_reducible rfl
  rotate_left
  · simp only [Act.put, List.setIfInBounds_toArray, List.set_cons_zero, List.set_cons_succ, i64_w, i32_w]
    rfl
  refine pure_ (i := 5) (N := some 154) (v := ?_) (a' := ?_) #[true, true, true, true, true, true, false, false, false, false, false, false, false, false, false, false, false, false, false, false, false, false] rfl rfl (any_of HT_.out (by kernel_rfl)) (fun _ _ _ h => HPN.out _ _ _ _ _ h) (Or.inl ⟨by rfl, ?_⟩) ?_ ?_
  rotate_left
  · intro w'
    go_simp
    with_reducible rfl
  rotate_left
  · simp only [Act.put, List.setIfInBounds_toArray, List.set_cons_zero, List.set_cons_succ, i64_w, i32_w]
    rfl
  refine take_ (i := 6) (N := some 155) (v := ?_) (a' := ?_) #[true, true, true, true, true, true, true, false, false, false, false, false, false, false, false, false, false, false, false, false, false, false] rfl rfl (take_ofW HT_.out HW_.out (by kernel_rfl)) (fun _ _ _ h => HPN.out _ _ _ _ _ h) (Or.inl ⟨by rfl, ?_⟩) hHeld ?_ ?_
  rotate_left
  · intro w' s0
    obtain ⟨s0, s1⟩ := s0
    go_simp
    with_reducible rfl
  rotate_left
  · simp only [Act.put, List.setIfInBounds_toArray, List.set_cons_zero, List.set_cons_succ, i64_w, i32_w]
    rfl
  refine pure_ (i := 7) (N := some 156) (v := ?_) (a' := ?_) #[true, true, true, true, true, true, true, true, false, false, false, false, false, false, false, false, false, false, false, false, false, false] rfl rfl (any_of HT_.out (by kernel_rfl)) (fun _ _ _ h => HPN.out _ _ _ _ _ h) (Or.inl ⟨by rfl, ?_⟩) ?_ ?_
  rotate_left
  · intro w'
    go_simp
    with_reducible rfl
  rotate_left
  · simp only [Act.put, List.setIfInBounds_toArray, List.set_cons_zero, List.set_cons_succ, i64_w, i32_w]
    rfl
  refine pure_ (i := 8) (N := some 157) (v := ?_) (a' := ?_) #[true, true, true, true, true, true, true, true, true, false, false, false, false, false, false, false, false, false, false, false, false, false] rfl rfl (any_of HT_.out (by kernel_rfl)) (fun _ _ _ h => HPN.out _ _ _ _ _ h) (Or.inl ⟨by rfl, ?_⟩) ?_ ?_
  rotate_left
  · intro w'
    go_simp
    with_reducible rfl
  rotate_left
  · simp only [Act.put, List.setIfInBounds_toArray, List.set_cons_zero, List.set_cons_succ, i64_w, i32_w]
    rfl
  refine pure_ (i := 9) (N := some 158) (v := ?_) (a' := ?_) #[true, true, true, true, true, true, true, true, true, true, false, false, false, false, false, false, false, false, false, false, false, false] rfl rfl (any_of HT_.out (by kernel_rfl)) (fun _ _ _ h => HPN.out _ _ _ _ _ h) (Or.inl ⟨by rfl, ?_⟩) ?_ ?_
  rotate_left
  · intro w'
    go_simp
    with_reducible rfl
  rotate_left
  · simp only [Act.put, List.setIfInBounds_toArray, List.set_cons_zero, List.set_cons_succ, i64_w, i32_w]
    rfl
  refine pure_ (i := 10) (N := some 159) (v := ?_) (a' := ?_) #[true, true, true, true, true, true, true, true, true, true, true, false, false, false, false, false, false, false, false, false, false, false] rfl rfl (any_of HT_.out (by kernel_rfl)) (fun _ _ _ h => HPN.out _ _ _ _ _ h) (Or.inl ⟨by rfl, ?_⟩) ?_ ?_
  rotate_left
  · intro w'
    go_simp
    with_reducible rfl
  rotate_left
  · simp only [Act.put, List.setIfInBounds_toArray, List.set_cons_zero, List.set_cons_succ, i64_w, i32_w]
    rfl
  refine take_ (i := 11) (N := some 160) (v := ?_) (a' := ?_) #[true, true, true, true, true, true, true, true, true, true, true, true, false, false, false, false, false, false, false, false, false, false] rfl rfl (take_ofW HT_.out HW_.out (by kernel_rfl)) (fun _ _ _ h => HPN.out _ _ _ _ _ h) (Or.inl ⟨by rfl, ?_⟩) hHeld ?_ ?_
  rotate_left
  · intro w' s0
    obtain ⟨s0, s1⟩ := s0
    go_simp
    with_reducible rfl
  rotate_left
  · simp only [Act.put, List.setIfInBounds_toArray, List.set_cons_zero, List.set_cons_succ, i64_w, i32_w]
    rfl
  refine pure_ (i := 12) (N := some 161) (v := ?_) (a' := ?_) #[true, true, true, true, true, true, true, true, true, true, true, true, true, false, false, false, false, false, false, false, false, false] rfl rfl (any_of HT_.out (by kernel_rfl)) (fun _ _ _ h => HPN.out _ _ _ _ _ h) (Or.inl ⟨by rfl, ?_⟩) ?_ ?_
  rotate_left
  · intro w'
    go_simp
    with_reducible rfl
  rotate_left
  · simp only [Act.put, List.setIfInBounds_toArray, List.set_cons_zero, List.set_cons_succ, i64_w, i32_w]
    rfl
  refine pure_ (i := 13) (N := some 162) (v := ?_) (a' := ?_) #[true, true, true, true, true, true, true, true, true, true, true, true, true, true, false, false, false, false, false, false, false, false] rfl rfl (any_of HT_.out (by kernel_rfl)) (fun _ _ _ h => HPN.out _ _ _ _ _ h) (Or.inl ⟨by rfl, ?_⟩) ?_ ?_
  rotate_left
  · intro w'
    go_simp
    with_reducible rfl
  rotate_left
  · simp only [Act.put, List.setIfInBounds_toArray, List.set_cons_zero, List.set_cons_succ, i64_w, i32_w]
    rfl
  refine pure_ (i := 14) (N := some 163) (v := ?_) (a' := ?_) #[true, true, true, true, true, true, true, true, true, true, true, true, true, true, true, false, false, false, false, false, false, false] rfl rfl (any_of HT_.out (by kernel_rfl)) (fun _ _ _ h => HPN.out _ _ _ _ _ h) (Or.inl ⟨by rfl, ?_⟩) ?_ ?_
  rotate_left
  · intro w'
    go_simp
    with_reducible rfl
  rotate_left
  · simp only [Act.put, List.setIfInBounds_toArray, List.set_cons_zero, List.set_cons_succ, i64_w, i32_w]
    rfl
  refine one_ (i := 15) (N := none) #[true, true, true, true, true, true, true, true, true, true, true, true, true, true, true, true, false, false, false, false, false, false] rfl rfl (one_of HT_.out (by kernel_rfl)) (by decide) (fun K hK => ?_)
  have hs0 : wq.cell? ⟨bm, 3, none⟩ = some (.bool armed) := (blk_cell HM.out.top 3).trans rfl
  have hfs0 := blk_frozen HM.out.top 3
  refine skip_ (w1 := (wq.setCell ⟨bm, 3, none⟩ (.bool true))) (by rfl) rfl ?_ ?_
  · go_simp
  refine hK.out _ _ ⟨(blk_cell (HM.out.set3 true).top 1).trans rfl, (blk_cell (blk_far HX.out (p := ⟨bm, 3, none⟩) HXM.out _) 3).trans rfl⟩ (fun hHeld => ?_)
  clear hK K hs0 hfs0
  refine pure_ (i := 16) (N := some 164) (v := ?_) (a' := ?_) #[true, true, true, true, true, true, true, true, true, true, true, true, true, true, true, true, true, false, false, false, false, false] rfl rfl (any_of HT_.out (by kernel_rfl)) (fun _ _ _ h => HPN.out _ _ _ _ _ h) (Or.inl ⟨by rfl, ?_⟩) ?_ ?_
  rotate_left
  · intro w'
    go_simp
    with_reducible rfl
  rotate_left
  · simp only [Act.put, List.setIfInBounds_toArray, List.set_cons_zero, List.set_cons_succ, i64_w, i32_w]
    rfl
  refine pure_ (i := 17) (N := some 165) (v := ?_) (a' := ?_) #[true, true, true, true, true, true, true, true, true, true, true, true, true, true, true, true, true, true, false, false, false, false] rfl rfl (any_of HT_.out (by kernel_rfl)) (fun _ _ _ h => HPN.out _ _ _ _ _ h) (Or.inl ⟨by rfl, ?_⟩) ?_ ?_
  rotate_left
  · intro w'
    go_simp
    with_reducible rfl
  rotate_left
  · simp only [Act.put, List.setIfInBounds_toArray, List.set_cons_zero, List.set_cons_succ, i64_w, i32_w]
    rfl
  refine one_ (i := 18) (N := none) #[true, true, true, true, true, true, true, true, true, true, true, true, true, true, true, true, true, true, true, false, false, false] rfl rfl (one_of HT_.out (by kernel_rfl)) (by decide) (fun K hK => ?_)
  have hs0 : (wq.setCell ⟨bm, 3, none⟩ (.bool true)).cell? ⟨bm, 4, none⟩ = some (.int .i64 mc) := (blk_cell (HM.out.set3 true).top 4).trans rfl
  have hfs0 := blk_frozen (HM.out.set3 true).top 4
  refine skip_ (w1 := ((wq.setCell ⟨bm, 3, none⟩ (.bool true)).setCell ⟨bm, 4, none⟩ (.int .i64 (mx (r3 - 1) 0)))) (by rfl) rfl ?_ ?_
  · go_simp
  refine hK.out _ _ ⟨(blk_cell ((HM.out.set3 true).set4 (mx (r3 - 1) 0)).top 1).trans rfl, (blk_cell (blk_far (blk_far HX.out (p := ⟨bm, 3, none⟩) HXM.out _) (p := ⟨bm, 4, none⟩) HXM.out _) 3).trans rfl⟩ (fun hHeld => ?_)
  clear hK K hs0 hfs0
  refine pure_ (i := 19) (N := some 166) (v := ?_) (a' := ?_) #[true, true, true, true, true, true, true, true, true, true, true, true, true, true, true, true, true, true, true, true, false, false] rfl rfl (any_of HT_.out (by kernel_rfl)) (fun _ _ _ h => HPN.out _ _ _ _ _ h) (Or.inl ⟨by rfl, ?_⟩) ?_ ?_
  rotate_left
  · intro w'
    go_simp
    with_reducible rfl
  rotate_left
  · simp only [Act.put, List.setIfInBounds_toArray, List.set_cons_zero, List.set_cons_succ, i64_w, i32_w]
    rfl
  refine pure_ (i := 20) (N := some 167) (v := ?_) (a' := ?_) #[true, true, true, true, true, true, true, true, true, true, true, true, true, true, true, true, true, true, true, true, true, false] rfl rfl (any_of HT_.out (by kernel_rfl)) (fun _ _ _ h => HPN.out _ _ _ _ _ h) (Or.inl ⟨by rfl, ?_⟩) ?_ ?_
  rotate_left
  · intro w'
    go_simp
    with_reducible rfl
  rotate_left
  · simp only [Act.put, List.setIfInBounds_toArray, List.set_cons_zero, List.set_cons_succ, i64_w, i32_w]
    rfl
  refine one_ (i := 21) (N := none) #[true, true, true, true, true, true, true, true, true, true, true, true, true, true, true, true, true, true, true, true, true, true] rfl rfl (one_of HT_.out (by kernel_rfl)) (by decide) (fun K hK => ?_)
  have hs0 : ((wq.setCell ⟨bm, 3, none⟩ (.bool true)).setCell ⟨bm, 4, none⟩ (.int .i64 (mx (r3 - 1) 0))).cell? ⟨bm, 5, none⟩ = some (.int .i64 mp) := (blk_cell ((HM.out.set3 true).set4 (mx (r3 - 1) 0)).top 5).trans rfl
  have hfs0 := blk_frozen ((HM.out.set3 true).set4 (mx (r3 - 1) 0)).top 5
  refine skip_ (w1 := (((wq.setCell ⟨bm, 3, none⟩ (.bool true)).setCell ⟨bm, 4, none⟩ (.int .i64 (mx (r3 - 1) 0))).setCell ⟨bm, 5, none⟩ (.int .i64 (mn (mx ap 0) (s : Int))))) (by rfl) rfl ?_ ?_
  · go_simp
  refine hK.out _ _ ⟨(blk_cell (((HM.out.set3 true).set4 (mx (r3 - 1) 0)).set5 (mn (mx ap 0) (s : Int))).top 1).trans rfl, (blk_cell (blk_far (blk_far (blk_far HX.out (p := ⟨bm, 3, none⟩) HXM.out _) (p := ⟨bm, 4, none⟩) HXM.out _) (p := ⟨bm, 5, none⟩) HXM.out _) 3).trans rfl⟩ (fun hHeld => ?_)
  clear hK K hs0 hfs0
  refine done_ (done_of HT_.out (by kernel_rfl)) ?_
  clear HT_ HW_ hHeld
  have HPZ := Aside0.mk (HP.out.cut_on HD.out HM.out (by have := HRI.out; unfold mx; split <;> omega) (by unfold mn mx; split <;> split <;> omega))
  have HLE := Aside0.mk (show w.heap.size ≤ bm from HP.out.mo.own.1)
  have HBZ := Aside0.mk (Below.setCell (p := ⟨bm, 5, none⟩) (Below.setCell (p := ⟨bm, 4, none⟩) (Below.setCell (p := ⟨bm, 3, none⟩) HB.out HLE.out (.bool true)) HLE.out (.int .i64 (mx (r3 - 1) 0))) HLE.out (.int .i64 (mn (mx ap 0) (s : Int))))
  clear HP HB HD HM HX
  generalize (((wq.setCell ⟨bm, 3, none⟩ (.bool true)).setCell ⟨bm, 4, none⟩ (.int .i64 (mx (r3 - 1) 0))).setCell ⟨bm, 5, none⟩ (.int .i64 (mn (mx ap 0) (s : Int)))) = wz at HPZ HBZ ⊢
  go_wp2
  (repeat apply Exists.intro)
  exact ⟨⟨g, q, hs, ms, bs, _, _, _, _, dead, true, rfl, rfl, ⟨HPZ.out⟩, ⟨HBZ.out⟩⟩, rfl⟩
end Go.Proofs.Ytgeggcifhojpmaa.PA
