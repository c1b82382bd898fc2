import Derived.Test.YtgeggcifhojpmaaDiskSw
import Derived.Laws.CopyRow
import Derived.Laws.MakeOwn
import Derived.Laws.CopyOwn
import Derived.Deep.Cut
import Derived.Deep.CutRange
import Derived.Deep.CutBlock
namespace Go.Proofs.Ytgeggcifhojpmaa.PA
open Go.RowKit Go.Proofs.YtgeggcifhojpmaaW.PrintWords Go.Proofs.YtgeggcifhojpmaaW.PrintLast Go.Proofs.YtgeggcifhojpmaaW.PrintMore
attribute [local go_sem] max2_mx min2_mn max_two min_two max_three min_three max_four min_four   -- for this text's walks alone
set_option linter.unusedVariables false
set_option linter.unusedSimpArgs false

def lychlaw9_DiskPlays.T51 : Bool × List (List Nat × List Nat) := (true, [([], []), ([0], [0]), ([], []), ([2], [2]), ([3], [3]), ([4], [4]), ([1, 5], [1, 5])])
def lychlaw9_DiskPlays.B51 : List Nat := [0, 1, 0, 4, 12, 28, 63]
theorem lychlaw9_DiskPlays.tab51 : rtab .any (opsOf Try.f5 51) = lychlaw9_DiskPlays.T51 := by kernel_rfl
theorem lychlaw9_DiskPlays.bits51 : waitsOk lychlaw9_DiskPlays.T51.2 lychlaw9_DiskPlays.B51 = true := by kernel_rfl
set_option maxHeartbeats 16000000 in
set_option maxRecDepth 100000 in
theorem dpTail (w wi : World) (bm qm cap s N g q : Nat) (hs : List Nat) (ms : List (Nat × Nat)) (bs : List (List Int)) (cut pre mc mp : Int) (dead armed : Bool) (at_ : Int) (ES : Aside0 (64 ≤ s ∧ s ≤ 65536)) (EN2 : Aside0 (1 ≤ N ∧ N ≤ 64)) (HAT : Aside0 (-1 ≤ at_ ∧ at_ ≤ (N : Int))) (HP : Aside0 (PL wi w.heap.size bm qm cap s N g q hs ms bs cut pre mc mp dead armed)) (HB : Aside0 (Below w.heap.size w wi)) (v0 v1 v2 v3 v4 v5 v6 v9 v10 v11 v13 v14 v15 v16 v17 v18 v19 v20 v21 v22 v23 v24 v25 v26 v27 v28 v29 v30 v31 v32 v33 v34 v35 v36 v37 v38 v39 v40 v41 v42 v43 v44 v45 v46 v47 v48 v49 v50 v51 v52 v53 v54 v55 v56 v57 v58 v59 v60 v61 v62 v63 v64 v65 v66 v67 v68 v69 v70 v71 v72 v73 v74 v75 v76 v77 v78 v79 v80 v81 v82 v83 v84 v85 v86 v87 v88 v89 v90 v91 v92 v93 v94 v95 v96 v97 v98 v99 v100 v101 v102 v103 v104 v105 v106 v107 v108 v109 v110 v111 v112 v113 v114 v115 v116 v117 v118 v119 v120 v121 v122 v123 v124 v125 v126 v127 v128 v129 v130 v131 v132 v133 v134 v135 v136 v137 v138 v139 v140 v141 v142 v143 v144 v145 v146 v147 v148 v149 v150 v151 v152 v153 v154 v155 v156 v157 v158 v159 v160 v161 v162 v163 v164 v165 v166 v167 v168 v169 v170 v171 v172 v173 v174 v175 v176 v177 v178 v179 v180 v181 v182 v183 v184 v185 v186 v187 v188 v189 v190 v191 v192 v193 v194 v195 v196 v197 v198 v199 v200 v201 v202 v203 v204 v205 v206 v207 v208 v209 v210 v211 v212 v213 v214 v215 v216 v217 v218 v219 v220 v221 v222 v223 v224 v225 v226 v227 v228 v229 v230 v231 v232 v233 v234 v235 v236 v237 v238 v239 v240 v241 v242 v243 v244 v245 v246 v247 v248 v249 v250 v251 v252 v253 v254 v255 v256 v257 v258 v259 v260 v261 v262 v263 v264 v265 v266 v267 v268 v269 v270 v271 v272 v273 v274 v275 v276 v277 v278 v279 v280 v281 v282 v283 v284 v285 v286 v287 v288 v289 v290 v291 v292 v293 v294 v295 v296 v297 v298 v299 v300 : Value) (Q : Exit → Act → World → Prop) (HPN : Aside0 (∀ (c : _) (a : Act) (t : Option Tmp) (v : Value) (w : World), Q (.panic c) (a.put t v) w → Q (.panic c) a w)) (hQ : ∀ (a' : Act) (w' : World), (∃ u17 u18 u243 u244 u245 u246 u247 u248 u249 u250 u251 u252 u253 u254 u255 u256 u257 u258 u259 u260 u261 u262 u263 u264 u265 u266 u267 u268 u269 u270 u271 u272 u273 u274 u275 u276 u277 u278 u279 u280 u281 u282 u283 u284 u285 u286 u287 u288 u289 u290 u291 u292 u293 u294 u295 u296 u297 u298 u299 u300 : Value, (Aside0 (PL w' w.heap.size bm qm cap s N g q hs ms bs cut pre mc mp dead armed) ∧ Aside0 (Below w.heap.size w w')) ∧ a' = { tmps := #[v0, v1, v2, v3, v4, v5, v6, .pointer (some ⟨g, 0, none⟩), .pointer (some ⟨bm, 0, none⟩), v9, v10, v11, .int .i64 at_, v13, v14, v15, v16, u17, u18, v19, v20, v21, v22, v23, v24, v25, v26, v27, v28, v29, v30, v31, v32, v33, v34, v35, v36, v37, v38, v39, v40, v41, v42, v43, v44, v45, v46, v47, v48, v49, v50, v51, v52, v53, v54, v55, v56, v57, v58, v59, v60, v61, v62, v63, v64, v65, v66, v67, v68, v69, v70, v71, v72, v73, v74, v75, v76, v77, v78, v79, v80, v81, v82, v83, v84, v85, v86, v87, v88, v89, v90, v91, v92, v93, v94, v95, v96, v97, v98, v99, v100, v101, v102, v103, v104, v105, v106, v107, v108, v109, v110, v111, v112, v113, v114, v115, v116, v117, v118, v119, v120, v121, v122, v123, v124, v125, v126, v127, v128, v129, v130, v131, v132, v133, v134, v135, v136, v137, v138, v139, v140, v141, v142, v143, v144, v145, v146, v147, v148, v149, v150, v151, v152, v153, v154, v155, v156, v157, v158, v159, v160, v161, v162, v163, v164, v165, v166, v167, v168, v169, v170, v171, v172, v173, v174, v175, v176, v177, v178, v179, v180, v181, v182, v183, v184, v185, v186, v187, v188, v189, v190, v191, v192, v193, v194, v195, v196, v197, v198, v199, v200, v201, v202, v203, v204, v205, v206, v207, v208, v209, v210, v211, v212, v213, v214, v215, v216, v217, v218, v219, v220, v221, v222, v223, v224, v225, v226, v227, v228, v229, v230, v231, v232, v233, v234, v235, v236, v237, v238, v239, v240, v241, v242, u243, u244, u245, u246, u247, u248, u249, u250, u251, u252, u253, u254, u255, u256, u257, u258, u259, u260, u261, u262, u263, u264, u265, u266, u267, u268, u269, u270, u271, u272, u273, u274, u275, u276, u277, u278, u279, u280, u281, u282, u283, u284, u285, u286, u287, u288, u289, u290, u291, u292, u293, u294, u295, u296, u297, u298, u299, u300], defers := [] }) → Q .normal a' w') :
    Code.wp Try.prog (codeR (codeR (codeR (codeL (codeL (codeR (codeL (codeL (codeR (codeL (codeR (codeR (codeR (codeR (codeR (codeR (codeR (codeR (codeR (Try.f5.body.getD .skip)))))))))))))))))))) Q { tmps := #[v0, v1, v2, v3, v4, v5, v6, .pointer (some ⟨g, 0, none⟩), .pointer (some ⟨bm, 0, none⟩), v9, v10, v11, .int .i64 at_, v13, v14, v15, v16, v17, v18, v19, v20, v21, v22, v23, v24, v25, v26, v27, v28, v29, v30, v31, v32, v33, v34, v35, v36, v37, v38, v39, v40, v41, v42, v43, v44, v45, v46, v47, v48, v49, v50, v51, v52, v53, v54, v55, v56, v57, v58, v59, v60, v61, v62, v63, v64, v65, v66, v67, v68, v69, v70, v71, v72, v73, v74, v75, v76, v77, v78, v79, v80, v81, v82, v83, v84, v85, v86, v87, v88, v89, v90, v91, v92, v93, v94, v95, v96, v97, v98, v99, v100, v101, v102, v103, v104, v105, v106, v107, v108, v109, v110, v111, v112, v113, v114, v115, v116, v117, v118, v119, v120, v121, v122, v123, v124, v125, v126, v127, v128, v129, v130, v131, v132, v133, v134, v135, v136, v137, v138, v139, v140, v141, v142, v143, v144, v145, v146, v147, v148, v149, v150, v151, v152, v153, v154, v155, v156, v157, v158, v159, v160, v161, v162, v163, v164, v165, v166, v167, v168, v169, v170, v171, v172, v173, v174, v175, v176, v177, v178, v179, v180, v181, v182, v183, v184, v185, v186, v187, v188, v189, v190, v191, v192, v193, v194, v195, v196, v197, v198, v199, v200, v201, v202, v203, v204, v205, v206, v207, v208, v209, v210, v211, v212, v213, v214, v215, v216, v217, v218, v219, v220, v221, v222, v223, v224, v225, v226, v227, v228, v229, v230, v231, v232, v233, v234, v235, v236, v237, v238, v239, v240, v241, v242, v243, v244, v245, v246, v247, v248, v249, v250, v251, v252, v253, v254, v255, v256, v257, v258, v259, v260, v261, v262, v263, v264, v265, v266, v267, v268, v269, v270, v271, v272, v273, v274, v275, v276, v277, v278, v279, v280, v281, v282, v283, v284, v285, v286, v287, v288, v289, v290, v291, v292, v293, v294, v295, v296, v297, v298, v299, v300], defers := [] } wi := by
  have hu49 := Try.underlying49
  have hu41 := Try.underlying41
  have hu43 := Try.underlying43
  have hu27 := Try.underlying27
  conv =>
    arg 2
    whnf
  go_upto_region 51 with (fail)
  refine start_ (n := 7) (S := (fun w' => w'.cell? ⟨bm, 2, none⟩ = some (.bool dead))) (ds := []) #[false, false, false, false, false, false, false] (by kernel_rfl) rfl rfl ((blk_cell HP.out.mo.top 2).trans rfl) (fun hHeld => ?_)
  refine with_tabW lychlaw9_DiskPlays.tab51 lychlaw9_DiskPlays.bits51 (fun HT_ HW_ => ?_)
  have n0_ := Aside0.mk (HP.out.drewN 1)
  have n1_ := Aside0.mk (pw_below_drewN HB.out 1)
  clear HP HB
  have HP := n0_
  have HB := n1_
  clear n0_ n1_
  have ed_ : wi.drewN 1 = wi.drew := rfl
  rw [ed_] at HP HB
  clear ed_
  generalize wi.drew = w11_ at HP HB hHeld ⊢
  refine pure_ (i := 0) (N := some 243) (v := ?_) (a' := ?_) #[true, false, false, false, false, false, false] rfl rfl (any_of HT_.out (by kernel_rfl)) (fun _ _ _ h => HPN.out _ _ _ _ _ h) (Or.inl ⟨by rfl, ?_⟩) ?_ ?_
  rotate_left
  · intro w'
    go_simp
    with_reducible rfl
  rotate_left
  · simp only [Act.put, List.setIfInBounds_toArray, List.set_cons_zero, List.set_cons_succ, i64_w, i32_w]
    rfl
  refine pure_ (i := 2) (N := some 245) (v := ?_) (a' := ?_) #[true, false, true, false, false, false, false] rfl rfl (any_of HT_.out (by kernel_rfl)) (fun _ _ _ h => HPN.out _ _ _ _ _ h) (Or.inl ⟨by rfl, ?_⟩) ?_ ?_
  rotate_left
  · intro w'
    go_simp
    with_reducible rfl
  rotate_left
  · simp only [Act.put, List.setIfInBounds_toArray, List.set_cons_zero, List.set_cons_succ, i64_w, i32_w]
    rfl
  refine pure_ (i := 3) (N := some 246) (v := ?_) (a' := ?_) #[true, false, true, true, false, false, false] rfl rfl (any_of HT_.out (by kernel_rfl)) (fun _ _ _ h => HPN.out _ _ _ _ _ h) (Or.inl ⟨by rfl, ?_⟩) ?_ ?_
  rotate_left
  · intro w'
    go_simp
    with_reducible rfl
  rotate_left
  · simp only [Act.put, List.setIfInBounds_toArray, List.set_cons_zero, List.set_cons_succ, i64_w, i32_w]
    rfl
  refine pure_ (i := 4) (N := some 247) (v := ?_) (a' := ?_) #[true, false, true, true, true, false, false] rfl rfl (any_of HT_.out (by kernel_rfl)) (fun _ _ _ h => HPN.out _ _ _ _ _ h) (Or.inl ⟨by rfl, ?_⟩) ?_ ?_
  rotate_left
  · intro w'
    go_simp
    with_reducible rfl
  rotate_left
  · simp only [Act.put, List.setIfInBounds_toArray, List.set_cons_zero, List.set_cons_succ, i64_w, i32_w]
    rfl
  refine take_ (i := 5) (N := some 248) (v := ?_) (a' := ?_) #[true, false, true, true, true, true, false] rfl rfl (take_ofW HT_.out HW_.out (by kernel_rfl)) (fun _ _ _ h => HPN.out _ _ _ _ _ h) (Or.inl ⟨by rfl, ?_⟩) hHeld ?_ ?_
  rotate_left
  · intro w' s0
    go_simp
    with_reducible rfl
  rotate_left
  · simp only [Act.put, List.setIfInBounds_toArray, List.set_cons_zero, List.set_cons_succ, i64_w, i32_w]
    rfl
  refine one_ (i := 1) (N := some 244) #[true, true, true, true, true, true, false] rfl rfl (one_of HT_.out (by kernel_rfl)) (by decide) (fun K hK => ?_)
  refine goes_ Try.func15 (by kernel_rfl) rfl #[.pointer (some ⟨g, 0, none⟩)] (by rfl) rfl rfl (by first | rfl | (go_simp; done)) ?_
  refine (disk_Dead.calls HP.out.dk).mono ?_
  rintro e w12_ ⟨rfl, ⟨nd4, rfl⟩⟩
  refine ⟨_, rfl, ?_⟩
  have n0_ := Aside0.mk (HP.out.drewN nd4)
  have n1_ := Aside0.mk (pw_below_drewN HB.out nd4)
  clear HP HB
  have HP := n0_
  have HB := n1_
  clear n0_ n1_
  generalize w11_.drewN nd4 = w12_ at HP HB ⊢
  refine hK.out _ _ ((blk_cell HP.out.mo.top 2).trans rfl) (fun hHeld => ?_)
  clear hK K
  refine norm_ (a' := ?_) ?_ ?_
  rotate_left
  · show Act.put _ (some 244) _ = _
    simp only [Act.put, List.setIfInBounds_toArray, List.set_cons_zero, List.set_cons_succ, i64_w, i32_w]
    rfl
  refine pure_ (i := 6) (N := some 249) (v := ?_) (a' := ?_) #[true, true, true, true, true, true, true] rfl rfl (any_of HT_.out (by kernel_rfl)) (fun _ _ _ h => HPN.out _ _ _ _ _ h) (Or.inl ⟨by rfl, ?_⟩) ?_ ?_
  rotate_left
  · intro w'
    go_simp
    with_reducible rfl
  rotate_left
  · simp only [Act.put, List.setIfInBounds_toArray, List.set_cons_zero, List.set_cons_succ, i64_w, i32_w]
    rfl
  refine done_ (done_of HT_.out (by kernel_rfl)) ?_
  clear HT_ HW_ hHeld
  cases dead with
  | true =>
    have hr_ : dkAt hs.length true at_ = 42 := rfl
    go_wp2_with fail
    refine (disk_Read.refused HP.out.dk at_ (by rw [hr_]; decide)).mono ?_
    rintro e wt ⟨rfl, ⟨nd5, rfl⟩⟩
    rw [hr_]
    (try dsimp only)
    have n0_ := Aside0.mk (HP.out.drewN nd5)
    have n1_ := Aside0.mk (pw_below_drewN HB.out nd5)
    clear HP HB
    have HP := n0_
    have HB := n1_
    clear n0_ n1_
    have m2 : (w12_.drewN nd5).cell? ⟨bm, 2, none⟩ = some (.bool true) := (blk_cell HP.out.mo.top 2).trans rfl
    go_wp2
    (repeat apply Exists.intro)
    exact ⟨⟨⟨HP.out⟩, ⟨HB.out⟩⟩, rfl⟩

  | false =>
    by_cases kp : at_ < 0 ∨ (N : Int) ≤ at_
    · have hr_ : dkAt hs.length false at_ = 40 := by
        unfold dkAt
        rw [if_neg (by decide), HP.out.nh]
        rcases kp with k | k
        · rw [if_pos k]
        · by_cases k0 : at_ < 0
          · rw [if_pos k0]
          · rw [if_neg k0, if_pos k]
      go_wp2_with fail
      refine (disk_Read.refused HP.out.dk at_ (by rw [hr_]; decide)).mono ?_
      rintro e wt ⟨rfl, ⟨nd5, rfl⟩⟩
      rw [hr_]
      (try dsimp only)
      have n0_ := Aside0.mk (HP.out.drewN nd5)
      have n1_ := Aside0.mk (pw_below_drewN HB.out nd5)
      clear HP HB
      have HP := n0_
      have HB := n1_
      clear n0_ n1_
      have m2 : (w12_.drewN nd5).cell? ⟨bm, 2, none⟩ = some (.bool false) := (blk_cell HP.out.mo.top 2).trans rfl
      have m0 : (w12_.drewN nd5).cell? ⟨bm, 0, none⟩ = some (.slice (some ⟨qm, 0, none⟩) ms.length cap) := (blk_cell HP.out.mo.top 0).trans rfl
      rcases kp with kp | kp
      · have kd : decide (at_ < 0) = true := decide_eq_true kp
        go_wp2
        (repeat apply Exists.intro)
        exact ⟨⟨⟨HP.out⟩, ⟨HB.out⟩⟩, rfl⟩

      · have kd : decide (at_ < 0) = false := decide_eq_false (by omega)
        have kd2 : decide ((ms.length : Int) ≤ at_) = true := decide_eq_true (by rw [HP.out.nm]; exact kp)
        go_wp2
        (repeat apply Exists.intro)
        exact ⟨⟨⟨HP.out⟩, ⟨HB.out⟩⟩, rfl⟩

    · have HA := HAT.out
      obtain ⟨k, rfl⟩ : ∃ k : Nat, at_ = (k : Int) := ⟨at_.toNat, by omega⟩
      have hkn : k < N := by omega
      have hkh : k < hs.length := by rw [HP.out.nh]; exact hkn
      have hkm : k < ms.length := by rw [HP.out.nm]; exact hkn
      obtain ⟨p, l_, cur, z0, z1, z2, z3, z4, z5⟩ := HP.out.mo.at (k := k) hkm
      have Z := Aside0.mk (And.intro z0 (And.intro z1 (And.intro z2 z3)))
      have KH := Aside0.mk hkh
      have kd : decide ((k : Int) < 0) = false := decide_eq_false (by omega)
      have kd2 : decide ((ms.length : Int) ≤ (k : Int)) = false := decide_eq_false (by omega)
      have kd3 : ((k : Int) < (ms.length : Int)) = True := eq_true (by omega)
      have kd4 : (k < ms.length) = True := eq_true hkm
      have kd5 : decide (ms.length ≤ k) = false := decide_eq_false (by omega)
      have kd6 : (ms.length ≤ k) = False := eq_false (by omega)
      have kd7 : ((ms.length : Int) ≤ (k : Int)) = False := eq_false (by omega)
      clear HA kp hkn hkh hkm z0 z1 z2 z3 z4 z5
      go_wp2_with fail
      refine (disk_Read.ok HP.out.dk ES.out.2 k l_ KH.out Z.out.2.1 rfl).mono ?_
      rintro e wt ⟨cb, rfl, hcb, hcn, hb⟩
      (try dsimp only)
      have n0_ := Aside0.mk (HP.out.below hb)
      have n1_ := Aside0.mk (below_step HB.out hb)
      have HC := Aside0.mk hcb
      clear HP HB hcb hcn hb
      have HP := n0_
      have HB := n1_
      clear n0_ n1_
      have m2 : wt.cell? ⟨bm, 2, none⟩ = some (.bool false) := (blk_cell HP.out.mo.top 2).trans rfl
      have m0 : wt.cell? ⟨bm, 0, none⟩ = some (.slice (some ⟨qm, 0, none⟩) ms.length cap) := (blk_cell HP.out.mo.top 0).trans rfl
      obtain ⟨m3, _⟩ := HP.out.mo.rowAt Z.out.1
      go_wp2_with fail
      have hw_ := lychhelp_Bytes.calls (some ⟨cb, 0, none⟩) s l_ (some ⟨p.1, 0, none⟩) p.2 l_ true wt (kd_of_row HC.out (by rw [Z.out.2.2.1]; have := ES.out.2; omega)) (by rw [Z.out.2.2.1]; exact Nat.le_refl _) (kd_of_cells (by rw [Z.out.2.2.1]; have := ES.out.2; omega) (fun j x hx => by rw [add_at]; exact (HP.out.mo.cellAt Z.out.1 Z.out.2.1 hx).1)) (by rw [Z.out.2.2.1]; exact Z.out.2.2.2) (by unfold lychhelp_Bytes.f; rw [beq_self_eq_true])
      rw [Z.out.2.2.1] at hw_
      refine hw_.mono ?_
      clear hw_ m0 m2 m3
      rintro e wt2 ⟨rfl, ⟨nd6, rfl⟩⟩
      (try dsimp only)
      have n0_ := Aside0.mk (HP.out.drewN nd6)
      have n1_ := Aside0.mk (pw_below_drewN HB.out nd6)
      clear HP HB
      have HP := n0_
      have HB := n1_
      clear n0_ n1_
      go_wp2
      (repeat apply Exists.intro)
      exact ⟨⟨⟨HP.out⟩, ⟨HB.out⟩⟩, rfl⟩

end Go.Proofs.Ytgeggcifhojpmaa.PA
