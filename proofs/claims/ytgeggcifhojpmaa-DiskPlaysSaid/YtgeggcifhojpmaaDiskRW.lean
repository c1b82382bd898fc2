import Derived.Test.YtgeggcifhojpmaaDiskOps
import Derived.Laws.CopyRow
import Derived.Laws.MakeOwn
import Derived.Laws.CopyOwn
namespace Go.Proofs.Ytgeggcifhojpmaa.PA
open Go.RowKit Go.Proofs.YtgeggcifhojpmaaW.PrintWords Go.Proofs.YtgeggcifhojpmaaW.PrintLast Go.Proofs.YtgeggcifhojpmaaW.PrintMore
attribute [local go_sem] max2_int min2_int max_two min_two max_three min_three max_four min_four   -- for this text's walks alone
set_option linter.unusedVariables false
set_option linter.unusedSimpArgs false

def disk_Write.T7 : Bool × List (List Nat × List Nat) := (true, [([], []), ([0], [0]), ([1], [1]), ([2], [2]), ([], []), ([3, 4], [3, 4]), ([5], [5]), ([], []), ([], []), ([8], [8]), ([9], [9]), ([10], [10]), ([7, 11], [7, 11]), ([6, 12], [6, 12])])
def disk_Write.B7 : List Nat := [0, 1, 3, 7, 0, 31, 63, 0, 0, 256, 768, 1792, 3968, 8191]
theorem disk_Write.tab7 : rtab .any (opsOf Try.f10 7) = disk_Write.T7 := by kernel_rfl
theorem disk_Write.bits7 : waitsOk disk_Write.T7.2 disk_Write.B7 = true := by kernel_rfl
/-- A copy of bytes, told by the row behind it. -/
theorem dk_copy {W : World} {g : Nat} {ad : Addr} {cur bl : List Int} {dCap sCap : Nat} (hg : W.heap[g]? = some (.cells (dkB cur) 5 (0, 0))) (hl : bl.length ≤ cur.length) (hs : ∀ (j : Nat) (x : Int), bl[j]? = some x → W.cell? (ad.add j) = some (.int .u8 x)) :
    (Builtin.copy_ #[27, 27] 3 #[.slice (some ⟨g, 0, none⟩) cur.length dCap, .slice (some ad) bl.length sCap]).run Try.prog W = .ok (.int .i64 (bl.length : Int)) (W.setRow g (dkB (bl ++ cur.drop bl.length))) := by
  obtain ⟨i, hi, hz, hsz, hb⟩ := info_parts info5
  have h1 := run_copy_row (P := Try.prog) W 27 27 3 5 g 0 cur.length dCap ad bl.length sCap (dkB cur) 5 (bl.map (Value.int .u8)) Try.underlying27 (by rw [hi]; simp [hsz]) hg (by simp [Nat.min_def]; omega) (fun j v hv => by
    rw [List.getElem?_map] at hv
    cases h2 : bl[j]? with
    | none => rw [h2] at hv; cases hv
    | some x =>
      rw [h2] at hv
      obtain rfl : Value.int .u8 x = v := Option.some.inj hv
      exact hs j x h2) (by simp [dkB]; omega) (fun v hv => by
    obtain ⟨x, _, rfl⟩ := List.mem_map.1 hv
    rfl)
  rw [h1]
  simp [dkB, goInt, List.map_drop]
theorem DK.setB {w : World} {base g h s : Nat} {hs : List Nat} {bs : List (List Int)} {cut pre : Int} {dead : Bool} (hd : DK w base g h s hs bs cut pre dead) {k b : Nat} (hk : hs[k]? = some b) {l' : List Int} (hl : l'.length = s) : DK (w.setRow b (dkB l')) base g h s hs (bs.set k l') cut pre dead := by
  have hne := hd.ne
  have hm := List.mem_of_getElem? hk
  have hkn : k < hs.length := by
    rcases Nat.lt_or_ge k hs.length with h1 | h1
    · exact h1
    · rw [List.getElem?_eq_none h1] at hk; cases hk
  refine ⟨(setRow_other w b g _ (fun e => hne.2.1 (by rw [e]; exact hm))).trans hd.top, (setRow_other w b h _ (fun e => hne.2.2 (by rw [e]; exact hm))).trans hd.row, by rw [List.length_set]; exact hd.len, hd.nodup, fun i b' l hi hq => ?_, hd.own⟩
  by_cases e : i = k
  · subst e
    obtain rfl : b = b' := Option.some.inj (hk.symm.trans hi)
    have hlen : i < bs.length := by rw [hd.len]; exact hkn
    have h2 : l' = l := by
      rw [List.getElem?_set_self hlen] at hq
      exact Option.some.inj hq
    subst h2
    have h3 := (hd.each i b (bs[i]'hlen) hi (List.getElem?_eq_getElem _)).2
    exact ⟨hl, setRow_heap w b _ _ 5 (0, 0) h3⟩
  · rw [List.getElem?_set_ne (fun h => e h.symm)] at hq
    have h3 := hd.each i b' l hi hq
    refine ⟨h3.1, (setRow_other w b b' _ (fun h => e ?_)).trans h3.2⟩
    have hin : i < hs.length := by
      rcases Nat.lt_or_ge i hs.length with h1 | h1
      · exact h1
      · rw [List.getElem?_eq_none h1] at hi; cases hi
    have h4 : hs[i]'hin = hs[k]'hkn := by
      rw [List.getElem?_eq_getElem hin] at hi
      rw [List.getElem?_eq_getElem hkn] at hk
      rw [Option.some.inj hi, Option.some.inj hk, h]
    exact (List.getElem_inj hd.nodup).1 h4
theorem DF.setRow {S : Nat → Prop} {w w1 : World} (h : DF S w w1) {b : Nat} (hp : S b) (cs : Array Value) : DF S w (w1.setRow b cs) := ⟨h.os, h.tape, h.output, by simpa [World.setRow] using h.size, fun i hi hs => (setRow_other w1 b i cs (fun e => hs (e ▸ hp))).trans (h.block i hi hs)⟩
theorem DK.at {w : World} {base g h s : Nat} {hs : List Nat} {bs : List (List Int)} {cut pre : Int} {dead : Bool} (hd : DK w base g h s hs bs cut pre dead) {k : Nat} (hk : k < hs.length) : ∃ b l, hs[k]? = some b ∧ bs[k]? = some l ∧ l.length = s ∧ w.heap[b]? = some (.cells (dkB l) 5 (0, 0)) := by
  have h1 : hs[k]? = some hs[k] := List.getElem?_eq_getElem hk
  have h2 : bs[k]? = some (bs[k]'(by rw [hd.len]; exact hk)) := List.getElem?_eq_getElem _
  exact ⟨_, _, h1, h2, hd.each k _ _ h1 h2⟩
theorem dkAt_ok {n k : Nat} (h : k < n) : dkAt n false (k : Int) = 0 := by unfold dkAt; rw [if_neg (by decide), if_neg (by omega), if_neg (by omega)]
theorem dkB_get {l : List Int} {j : Nat} {x : Int} (h : l[j]? = some x) : (dkB l)[j]? = some (.int .u8 x) := by simp [dkB, h]
theorem add_block (ad : Addr) (j : Nat) : (ad.add j).block = ad.block := by unfold Addr.add; split <;> rfl
theorem cell_off {w : World} {p : Addr} (u : Value) (a : Addr) (h : a.block ≠ p.block) : (w.setCell p u).cell? a = w.cell? a := by
  have := Below.heap_setCell w p u a.block h
  simp only [World.cell?, this]
theorem add_at (c j : Nat) : (⟨c, 0, none⟩ : Addr).add j = ⟨c, j, none⟩ := by unfold Addr.add; split <;> simp_all
theorem add_at2 (c i j : Nat) : (⟨c, i, none⟩ : Addr).add j = ⟨c, i + j, none⟩ := by unfold Addr.add; split <;> simp_all
set_option maxHeartbeats 4000000 in
set_option maxRecDepth 100000 in
theorem disk_Read.refused {w : World} {base g q s : Nat} {hs : List Nat} {bs : List (List Int)} {cut pre : Int} {dead : Bool} (hd : DK w base g q s hs bs cut pre dead) (i : Int) (hr : dkAt hs.length dead i ≠ 0) : Calls Try.prog 14 #[.pointer (some ⟨g, 0, none⟩), .int .i64 i] w fun e w' => e = .returned (.tuple #[.slice none 0 0, .int .i64 (dkAt hs.length dead i)]) ∧ Drawn0 w w' := by
  have hu49 := Try.underlying49
  have HD := Aside0.mk hd
  clear hd
  have c0 : w.cell? ⟨g, 0, none⟩ = some (.slice (some ⟨q, 0, none⟩) hs.length hs.length) := (blk_cell HD.out.top 0).trans rfl
  have c1 : w.cell? ⟨g, 1, none⟩ = some (.int .i64 cut) := (blk_cell HD.out.top 1).trans rfl
  have c2 : w.cell? ⟨g, 2, none⟩ = some (.int .i64 pre) := (blk_cell HD.out.top 2).trans rfl
  have c3 : w.cell? ⟨g, 3, none⟩ = some (.bool dead) := (blk_cell HD.out.top 3).trans rfl
  have z0 := blk_frozen HD.out.top 0
  have z1 := blk_frozen HD.out.top 1
  have z2 := blk_frozen HD.out.top 2
  have z3 := blk_frozen HD.out.top 3
  obtain ⟨x, hx⟩ : ∃ x, x = dkAt hs.length dead i := ⟨_, rfl⟩
  rw [← hx] at hr ⊢
  have k1 : (x == 0) = false := by simpa using hr
  have k2 : (x = 0) = False := eq_false hr
  have HX := Aside0.mk hx
  clear hr hx
  go_enter Try.func14, Try.ntmps14
  go_wp2_with fail
  refine (disk_at.calls HD.out i).mono ?_
  rintro e w1 ⟨rfl, ⟨nd, rfl⟩⟩
  rw [← HX.out]
  (try dsimp only)
  go_wp2
  (try simp only [Exit.inBlock, Exit.then])
  first | go_ret | go_ret2
  exact ⟨rfl, by repeat (first | exact Drawn0.refl _ | exact ⟨nd, rfl⟩ | apply Drawn0.step)⟩
set_option maxHeartbeats 4000000 in
set_option maxRecDepth 100000 in
theorem disk_Read.ok {w : World} {base g q s : Nat} {hs : List Nat} {bs : List (List Int)} {cut pre : Int} {dead : Bool} (hd : DK w base g q s hs bs cut pre dead) (hz : s ≤ 65536) (k : Nat) (l : List Int) (hk : k < hs.length) (hl : bs[k]? = some l) (he : dead = false) : Calls Try.prog 14 #[.pointer (some ⟨g, 0, none⟩), .int .i64 (k : Int)] w fun e w' => ∃ c, e = .returned (.tuple #[.slice (some ⟨c, 0, none⟩) s s, .int .i64 0]) ∧ w'.heap[c]? = some (.cells (dkB l) 5 (0, 0)) ∧ w.heap.size ≤ c ∧ Below w.heap.size w w' := by
  have hu49 := Try.underlying49
  have HD := Aside0.mk hd
  clear hd
  have c0 : w.cell? ⟨g, 0, none⟩ = some (.slice (some ⟨q, 0, none⟩) hs.length hs.length) := (blk_cell HD.out.top 0).trans rfl
  have c1 : w.cell? ⟨g, 1, none⟩ = some (.int .i64 cut) := (blk_cell HD.out.top 1).trans rfl
  have c2 : w.cell? ⟨g, 2, none⟩ = some (.int .i64 pre) := (blk_cell HD.out.top 2).trans rfl
  have c3 : w.cell? ⟨g, 3, none⟩ = some (.bool dead) := (blk_cell HD.out.top 3).trans rfl
  have z0 := blk_frozen HD.out.top 0
  have z1 := blk_frozen HD.out.top 1
  have z2 := blk_frozen HD.out.top 2
  have z3 := blk_frozen HD.out.top 3
  subst he
  obtain ⟨b, l_, r0, r1, r2, r3⟩ := HD.out.at hk
  obtain rfl : l_ = l := Option.some.inj (r1.symm.trans hl)
  have hmk := dk_make (s : Int) (by omega) (by omega)
  rw [Int.toNat_natCast] at hmk
  have HK := Aside0.mk hk
  have H0 := Aside0.mk r0
  have H2 := Aside0.mk r2
  have H3 := Aside0.mk r3
  clear hk hl r1 r0 r2 r3
  go_enter Try.func14, Try.ntmps14
  go_wp2_with fail
  refine (disk_at.calls HD.out (k : Int)).mono ?_
  rintro e w1 ⟨rfl, ⟨nd, rfl⟩⟩
  rw [dkAt_ok HK.out]
  (try dsimp only)
  go_wp2_with fail
  refine (disk_Size.calls (HD.out.drewN nd) (by have := HK.out; omega)).mono ?_
  rintro e w1 ⟨rfl, ⟨nd2, rfl⟩⟩
  (try dsimp only)
  go_upto_region 5 with (fail)
  obtain ⟨c, hc⟩ : ∃ c, c = w.heap.size := ⟨_, rfl⟩
  have hcs : (w.drewN (nd + nd2)).heap.size = c := hc.symm
  have HB : Aside0 (Below w.heap.size w ((w.drewN (nd + nd2)).alloc (.cells (dkB (List.replicate s 0)) 5))) := ⟨below_alloc (pw_below_drewN (Below.refl _ _) _) _⟩
  have n0_ : Aside0 (DK ((w.drewN (nd + nd2)).alloc (.cells (dkB (List.replicate s 0)) 5)) base g q s hs bs cut pre false) := ⟨(HD.out.drewN (nd + nd2)).kept (S := fun _ => False) (DF.of_below (below_alloc (Below.refl _ _) _)) id id (fun _ _ => id)⟩
  have n1_ : Aside0 (((w.drewN (nd + nd2)).alloc (.cells (dkB (List.replicate s 0)) 5)).heap[b]? = some (.cells (dkB l_) 5 (0, 0))) := ⟨blk_alloc H3.out _⟩
  have n2_ : Aside0 (((w.drewN (nd + nd2)).alloc (.cells (dkB (List.replicate s 0)) 5)).heap[c]? = some (.cells (dkB (List.replicate s 0)) 5 (0, 0))) := ⟨by rw [← hcs]; exact blk_new _ _⟩
  have HC := Aside0.mk hc
  rw [← hc]
  generalize (w.drewN (nd + nd2)).alloc (.cells (dkB (List.replicate s 0)) 5) = W at HB n0_ n1_ n2_ ⊢
  clear HD c0 c1 c2 c3 z0 z1 z2 z3 hc hcs H3 hmk
  have HD := n0_
  have H3 := n1_
  have H4 := n2_
  clear n0_ n1_ n2_
  have hcp := dk_copy (bl := l_) (ad := ⟨b, 0, none⟩) (dCap := s) (sCap := s) H4.out (by rw [H2.out, List.length_replicate]; exact Nat.le_refl _) (fun j x hx => by rw [add_at]; exact (blk_cell H3.out j).trans (dkB_get hx))
  rw [H2.out, List.length_replicate, show l_ ++ (List.replicate s (0:Int)).drop s = l_ by simp] at hcp
  have c0 : W.cell? ⟨g, 0, none⟩ = some (.slice (some ⟨q, 0, none⟩) hs.length hs.length) := (blk_cell HD.out.top 0).trans rfl
  have r0 : W.cell? ⟨q, k, none⟩ = some (.slice (some ⟨b, 0, none⟩) s s) := (blk_cell HD.out.row k).trans (dkR_get H0.out)
  have q0 : ((k : Int) < (hs.length : Int)) = True := eq_true (by have := HK.out; omega)
  have q1 : (k < hs.length) = True := eq_true HK.out
  go_wp2
  (try simp only [Exit.inBlock, Exit.then])
  first | go_ret | go_ret2
  exact ⟨c, rfl, setRow_heap _ _ _ _ 5 (0, 0) H4.out, by have := HC.out; omega, below_setRow HB.out (by have := HC.out; omega) _⟩
set_option maxHeartbeats 4000000 in
set_option maxRecDepth 100000 in
theorem disk_Write.refused {w : World} {base g q s : Nat} {hs : List Nat} {bs : List (List Int)} {cut pre : Int} {dead : Bool} (hd : DK w base g q s hs bs cut pre dead) (i : Int) (hr : dkAt hs.length dead i ≠ 0) (ad : Addr) (bl : List Int) (cap : Nat) (hcap : bl.length ≤ cap) : Calls Try.prog 10 #[.pointer (some ⟨g, 0, none⟩), .int .i64 i, .slice (some ad) bl.length cap] w fun e w' => e = .returned (.int .i64 (dkAt hs.length dead i)) ∧ Drawn0 w w' := by
  have hu49 := Try.underlying49
  have HD := Aside0.mk hd
  clear hd
  have c0 : w.cell? ⟨g, 0, none⟩ = some (.slice (some ⟨q, 0, none⟩) hs.length hs.length) := (blk_cell HD.out.top 0).trans rfl
  have c1 : w.cell? ⟨g, 1, none⟩ = some (.int .i64 cut) := (blk_cell HD.out.top 1).trans rfl
  have c2 : w.cell? ⟨g, 2, none⟩ = some (.int .i64 pre) := (blk_cell HD.out.top 2).trans rfl
  have c3 : w.cell? ⟨g, 3, none⟩ = some (.bool dead) := (blk_cell HD.out.top 3).trans rfl
  have z0 := blk_frozen HD.out.top 0
  have z1 := blk_frozen HD.out.top 1
  have z2 := blk_frozen HD.out.top 2
  have z3 := blk_frozen HD.out.top 3
  obtain ⟨x, hx⟩ : ∃ x, x = dkAt hs.length dead i := ⟨_, rfl⟩
  rw [← hx] at hr ⊢
  have k1 : (x == 0) = false := by simpa using hr
  have k2 : (x = 0) = False := eq_false hr
  have HX := Aside0.mk hx
  clear hr hx hcap
  go_enter Try.func10, Try.ntmps10
  go_wp2_with fail
  refine (disk_at.calls HD.out i).mono ?_
  rintro e w1 ⟨rfl, ⟨nd, rfl⟩⟩
  rw [← HX.out]
  (try dsimp only)
  go_wp2
  (try simp only [Exit.inBlock, Exit.then])
  first | go_ret | go_ret2
  exact ⟨rfl, by repeat (first | exact Drawn0.refl _ | exact ⟨nd, rfl⟩ | apply Drawn0.step)⟩
set_option maxHeartbeats 4000000 in
set_option maxRecDepth 100000 in
theorem disk_Write.size {w : World} {base g q s : Nat} {hs : List Nat} {bs : List (List Int)} {cut pre : Int} {dead : Bool} (hd : DK w base g q s hs bs cut pre dead) (k : Nat) (hk : k < hs.length) (he : dead = false) (ad : Addr) (bl : List Int) (cap : Nat) (hcap : bl.length ≤ cap) (hl : bl.length ≠ s) : Calls Try.prog 10 #[.pointer (some ⟨g, 0, none⟩), .int .i64 (k : Int), .slice (some ad) bl.length cap] w fun e w' => e = .returned (.int .i64 41) ∧ Drawn0 w w' := by
  have hu49 := Try.underlying49
  have HD := Aside0.mk hd
  clear hd
  have c0 : w.cell? ⟨g, 0, none⟩ = some (.slice (some ⟨q, 0, none⟩) hs.length hs.length) := (blk_cell HD.out.top 0).trans rfl
  have c1 : w.cell? ⟨g, 1, none⟩ = some (.int .i64 cut) := (blk_cell HD.out.top 1).trans rfl
  have c2 : w.cell? ⟨g, 2, none⟩ = some (.int .i64 pre) := (blk_cell HD.out.top 2).trans rfl
  have c3 : w.cell? ⟨g, 3, none⟩ = some (.bool dead) := (blk_cell HD.out.top 3).trans rfl
  have z0 := blk_frozen HD.out.top 0
  have z1 := blk_frozen HD.out.top 1
  have z2 := blk_frozen HD.out.top 2
  have z3 := blk_frozen HD.out.top 3
  have k1 : ((bl.length : Int) == (s : Int)) = false := beq_eq_false_iff_ne.2 (by omega)
  have k2 : ((bl.length : Int) = (s : Int)) = False := eq_false (by omega)
  have k3 : (bl.length = s) = False := eq_false hl
  have k4 : (bl.length == s) = false := by simpa using hl
  clear hl
  subst he
  have HK := Aside0.mk hk
  have HC := Aside0.mk hcap
  clear hk hcap
  go_enter Try.func10, Try.ntmps10
  go_wp2_with fail
  refine (disk_at.calls HD.out (k : Int)).mono ?_
  rintro e w1 ⟨rfl, ⟨nd, rfl⟩⟩
  rw [dkAt_ok HK.out]
  (try dsimp only)
  go_wp2_with fail
  refine (disk_Size.calls (HD.out.drewN nd) (by have := HK.out; omega)).mono ?_
  rintro e w1 ⟨rfl, ⟨nd2, rfl⟩⟩
  (try dsimp only)
  go_wp2
  (try simp only [Exit.inBlock, Exit.then])
  first | go_ret | go_ret2
  exact ⟨rfl, by repeat (first | exact Drawn0.refl _ | exact ⟨_, rfl⟩ | apply Drawn0.step)⟩
set_option maxHeartbeats 4000000 in
set_option maxRecDepth 100000 in
theorem disk_Write.ok {w : World} {base g q s : Nat} {hs : List Nat} {bs : List (List Int)} {cut pre : Int} {dead : Bool} (hd : DK w base g q s hs bs cut pre dead) (k : Nat) (hk : k < hs.length) (he : dead = false) (ad : Addr) (bl : List Int) (cap : Nat) (hcap : bl.length ≤ cap) (hs1 : ∀ (j : Nat) (x : Int), bl[j]? = some x → w.cell? (ad.add j) = some (.int .u8 x)) (hl : bl.length = s) (hc : cut ≠ 0) (hc2 : -9223372036854775808 ≤ cut ∧ cut < 9223372036854775808) (hab : ad.block ≠ g) : Calls Try.prog 10 #[.pointer (some ⟨g, 0, none⟩), .int .i64 (k : Int), .slice (some ad) bl.length cap] w fun e w' => e = .returned (.int .i64 0) ∧ DK w' base g q s hs (bs.set k bl) (if 0 < cut then cut - 1 else cut) pre false ∧ DF (fun k => k = g ∨ k ∈ hs) w w' := by
  have hu49 := Try.underlying49
  have HD := Aside0.mk hd
  clear hd
  have c0 : w.cell? ⟨g, 0, none⟩ = some (.slice (some ⟨q, 0, none⟩) hs.length hs.length) := (blk_cell HD.out.top 0).trans rfl
  have c1 : w.cell? ⟨g, 1, none⟩ = some (.int .i64 cut) := (blk_cell HD.out.top 1).trans rfl
  have c2 : w.cell? ⟨g, 2, none⟩ = some (.int .i64 pre) := (blk_cell HD.out.top 2).trans rfl
  have c3 : w.cell? ⟨g, 3, none⟩ = some (.bool dead) := (blk_cell HD.out.top 3).trans rfl
  have z0 := blk_frozen HD.out.top 0
  have z1 := blk_frozen HD.out.top 1
  have z2 := blk_frozen HD.out.top 2
  have z3 := blk_frozen HD.out.top 3
  obtain ⟨b, l_, r0, r1, r2, r3⟩ := HD.out.at hk
  subst hl
  have H0 := Aside0.mk r0
  have H2 := Aside0.mk r2
  have H3 := Aside0.mk r3
  have HS := Aside0.mk hs1
  have HAB := Aside0.mk hab
  have HBG := Aside0.mk (show b ≠ g from fun e => HD.out.ne.2.1 (by rw [← e]; exact List.mem_of_getElem? r0))
  clear hs1 hab r0 r1 r2 r3
  have k0 : (cut == 0) = false := by simpa using hc
  have k00 : (cut = 0) = False := eq_false hc
  by_cases hp : 0 < cut
  · have kp : decide (0 < cut) = true := decide_eq_true hp
    rw [if_pos hp]
    have w7 : wrap64 (cut - 1) = cut - 1 := by unfold wrap64; omega
    clear hp hc hc2
    subst he
    have HK := Aside0.mk hk
    have HC := Aside0.mk hcap
    clear hk hcap
    go_enter Try.func10, Try.ntmps10
    go_wp2_with fail
    refine (disk_at.calls HD.out (k : Int)).mono ?_
    rintro e w1 ⟨rfl, ⟨nd, rfl⟩⟩
    rw [dkAt_ok HK.out]
    (try dsimp only)
    go_wp2_with fail
    refine (disk_Size.calls (HD.out.drewN nd) (by have := HK.out; omega)).mono ?_
    rintro e w1 ⟨rfl, ⟨nd2, rfl⟩⟩
    (try dsimp only)

    go_upto_region 12 with (fail)
    have n0_ : Aside0 (DK ((w.drewN (nd + nd2)).setCell ⟨g, 1, none⟩ (.int .i64 (cut - 1))) base g q bl.length hs bs _ pre false) := ⟨(HD.out.drewN _).set1 _⟩
    have n1_ : Aside0 (((w.drewN (nd + nd2)).setCell ⟨g, 1, none⟩ (.int .i64 (cut - 1))).heap[b]? = some (.cells (dkB l_) 5 (0, 0))) := ⟨blk_far (p := ⟨g, 1, none⟩) (blk_drewN H3.out _) HBG.out _⟩
    have n2_ : Aside0 (∀ (j : Nat) (x : Int), bl[j]? = some x → ((w.drewN (nd + nd2)).setCell ⟨g, 1, none⟩ (.int .i64 (cut - 1))).cell? (ad.add j) = some (.int .u8 x)) := ⟨fun j x hx => (cell_off _ _ (by rw [add_block]; exact HAB.out)).trans (HS.out j x hx)⟩
    have n3_ : Aside0 (DF (fun k => k = g ∨ k ∈ hs) w ((w.drewN (nd + nd2)).setCell ⟨g, 1, none⟩ (.int .i64 (cut - 1)))) := ⟨DF.set (p := ⟨g, 1, none⟩) (⟨rfl, rfl, rfl, Nat.le_refl _, fun _ _ _ => rfl⟩ : DF (fun k => k = g ∨ k ∈ hs) w (w.drewN (nd + nd2))) (Or.inl rfl) _⟩
    generalize (w.drewN (nd + nd2)).setCell ⟨g, 1, none⟩ (.int .i64 (cut - 1)) = W at n0_ n1_ n2_ n3_ ⊢
    clear HD c0 c1 c2 c3 z0 z1 z2 z3 H3 HS
    have HD := n0_
    have H3 := n1_
    have HS := n2_
    have HF := n3_
    clear n0_ n1_ n2_ n3_
    have hcp := dk_copy (bl := bl) (ad := ad) (dCap := bl.length) (sCap := cap) H3.out (by rw [H2.out]; exact Nat.le_refl _) HS.out
    rw [H2.out, show bl ++ l_.drop bl.length = bl by rw [List.drop_of_length_le (by rw [H2.out]; exact Nat.le_refl _), List.append_nil]] at hcp
    have c0 : W.cell? ⟨g, 0, none⟩ = some (.slice (some ⟨q, 0, none⟩) hs.length hs.length) := (blk_cell HD.out.top 0).trans rfl
    have r0 : W.cell? ⟨q, k, none⟩ = some (.slice (some ⟨b, 0, none⟩) bl.length bl.length) := (blk_cell HD.out.row k).trans (dkR_get H0.out)
    have q0 : ((k : Int) < (hs.length : Int)) = True := eq_true (by have := HK.out; omega)
    have q1 : (k < hs.length) = True := eq_true HK.out
    go_wp2
    (try simp only [Exit.inBlock, Exit.then])
    go_ret
    exact ⟨rfl, HD.out.setB H0.out rfl, HF.out.setRow (Or.inr (List.mem_of_getElem? H0.out)) _⟩
  · have kp : decide (0 < cut) = false := decide_eq_false hp
    rw [if_neg hp]
    clear hp hc hc2
    subst he
    have HK := Aside0.mk hk
    have HC := Aside0.mk hcap
    clear hk hcap
    go_enter Try.func10, Try.ntmps10
    go_wp2_with fail
    refine (disk_at.calls HD.out (k : Int)).mono ?_
    rintro e w1 ⟨rfl, ⟨nd, rfl⟩⟩
    rw [dkAt_ok HK.out]
    (try dsimp only)
    go_wp2_with fail
    refine (disk_Size.calls (HD.out.drewN nd) (by have := HK.out; omega)).mono ?_
    rintro e w1 ⟨rfl, ⟨nd2, rfl⟩⟩
    (try dsimp only)

    go_upto_region 12 with (fail)
    have n0_ : Aside0 (DK (w.drewN (nd + nd2)) base g q bl.length hs bs _ pre false) := ⟨HD.out.drewN _⟩
    have n1_ : Aside0 ((w.drewN (nd + nd2)).heap[b]? = some (.cells (dkB l_) 5 (0, 0))) := ⟨blk_drewN H3.out _⟩
    have n2_ : Aside0 (∀ (j : Nat) (x : Int), bl[j]? = some x → (w.drewN (nd + nd2)).cell? (ad.add j) = some (.int .u8 x)) := ⟨HS.out⟩
    have n3_ : Aside0 (DF (fun k => k = g ∨ k ∈ hs) w (w.drewN (nd + nd2))) := ⟨⟨rfl, rfl, rfl, Nat.le_refl _, fun _ _ _ => rfl⟩⟩
    generalize w.drewN (nd + nd2) = W at n0_ n1_ n2_ n3_ ⊢
    clear HD c0 c1 c2 c3 z0 z1 z2 z3 H3 HS
    have HD := n0_
    have H3 := n1_
    have HS := n2_
    have HF := n3_
    clear n0_ n1_ n2_ n3_
    have hcp := dk_copy (bl := bl) (ad := ad) (dCap := bl.length) (sCap := cap) H3.out (by rw [H2.out]; exact Nat.le_refl _) HS.out
    rw [H2.out, show bl ++ l_.drop bl.length = bl by rw [List.drop_of_length_le (by rw [H2.out]; exact Nat.le_refl _), List.append_nil]] at hcp
    have c0 : W.cell? ⟨g, 0, none⟩ = some (.slice (some ⟨q, 0, none⟩) hs.length hs.length) := (blk_cell HD.out.top 0).trans rfl
    have r0 : W.cell? ⟨q, k, none⟩ = some (.slice (some ⟨b, 0, none⟩) bl.length bl.length) := (blk_cell HD.out.row k).trans (dkR_get H0.out)
    have q0 : ((k : Int) < (hs.length : Int)) = True := eq_true (by have := HK.out; omega)
    have q1 : (k < hs.length) = True := eq_true HK.out
    go_wp2
    (try simp only [Exit.inBlock, Exit.then])
    go_ret
    exact ⟨rfl, HD.out.setB H0.out rfl, HF.out.setRow (Or.inr (List.mem_of_getElem? H0.out)) _⟩
set_option maxHeartbeats 4000000 in
set_option maxRecDepth 100000 in
theorem disk_Write.fell {w : World} {base g q s : Nat} {hs : List Nat} {bs : List (List Int)} {cut pre : Int} {dead : Bool} (hd : DK w base g q s hs bs cut pre dead) (k p : Nat) (l : List Int) (hk : k < hs.length) (hbl : bs[k]? = some l) (he : dead = false) (ad : Addr) (bl : List Int) (cap : Nat) (hcap : bl.length ≤ cap) (hs1 : ∀ (j : Nat) (x : Int), bl[j]? = some x → w.cell? (ad.add j) = some (.int .u8 x)) (hl : bl.length = s) (hc : cut = 0) (hp : pre = (p : Int)) (hps : p ≤ s) (hab : ad.block ≠ g) : Calls Try.prog 10 #[.pointer (some ⟨g, 0, none⟩), .int .i64 (k : Int), .slice (some ad) bl.length cap] w fun e w' => e = .returned (.int .i64 42) ∧ DK w' base g q s hs (bs.set k (bl.take p ++ l.drop p)) 0 pre true ∧ DF (fun k => k = g ∨ k ∈ hs) w w' := by
  have hu49 := Try.underlying49
  have HD := Aside0.mk hd
  clear hd
  have c0 : w.cell? ⟨g, 0, none⟩ = some (.slice (some ⟨q, 0, none⟩) hs.length hs.length) := (blk_cell HD.out.top 0).trans rfl
  have c1 : w.cell? ⟨g, 1, none⟩ = some (.int .i64 cut) := (blk_cell HD.out.top 1).trans rfl
  have c2 : w.cell? ⟨g, 2, none⟩ = some (.int .i64 pre) := (blk_cell HD.out.top 2).trans rfl
  have c3 : w.cell? ⟨g, 3, none⟩ = some (.bool dead) := (blk_cell HD.out.top 3).trans rfl
  have z0 := blk_frozen HD.out.top 0
  have z1 := blk_frozen HD.out.top 1
  have z2 := blk_frozen HD.out.top 2
  have z3 := blk_frozen HD.out.top 3
  obtain ⟨b, l_, r0, r1, r2, r3⟩ := HD.out.at hk
  obtain rfl : l_ = l := Option.some.inj (r1.symm.trans hbl)
  subst hc
  subst hp
  have H0 := Aside0.mk r0
  have H2 := Aside0.mk r2
  have H3 := Aside0.mk r3
  have HS := Aside0.mk hs1
  have HAB := Aside0.mk hab
  have HP := Aside0.mk (And.intro hps hl)
  have HBG := Aside0.mk (show b ≠ g from fun e => HD.out.ne.2.1 (by rw [← e]; exact List.mem_of_getElem? r0))
  have k4 : ((bl.length : Int) == (s : Int)) = true := beq_iff_eq.2 (by omega)
  have k5 : ((bl.length : Int) = (s : Int)) = True := eq_true (by omega)
  have k6 : (bl.length == s) = true := beq_iff_eq.2 hl
  have k7 : (bl.length = s) = True := eq_true hl
  clear hs1 hab r0 r1 r2 r3 hbl hl hps
  subst he
  have HK := Aside0.mk hk
  have HC := Aside0.mk hcap
  clear hk hcap
  go_enter Try.func10, Try.ntmps10
  go_wp2_with fail
  refine (disk_at.calls HD.out (k : Int)).mono ?_
  rintro e w1 ⟨rfl, ⟨nd, rfl⟩⟩
  rw [dkAt_ok HK.out]
  (try dsimp only)
  go_wp2_with fail
  refine (disk_Size.calls (HD.out.drewN nd) (by have := HK.out; omega)).mono ?_
  rintro e w1 ⟨rfl, ⟨nd2, rfl⟩⟩
  (try dsimp only)
  go_upto_region 7 with (fail)
  have n0_ : Aside0 (DK (w.drewN (nd + nd2)) base g q s hs bs _ _ false) := ⟨HD.out.drewN _⟩
  have n1_ : Aside0 ((w.drewN (nd + nd2)).heap[b]? = some (.cells (dkB l_) 5 (0, 0))) := ⟨blk_drewN H3.out _⟩
  have n2_ : Aside0 (∀ (j : Nat) (x : Int), bl[j]? = some x → (w.drewN (nd + nd2)).cell? (ad.add j) = some (.int .u8 x)) := ⟨HS.out⟩
  have n3_ : Aside0 (DF (fun k => k = g ∨ k ∈ hs) w (w.drewN (nd + nd2))) := ⟨⟨rfl, rfl, rfl, Nat.le_refl _, fun _ _ _ => rfl⟩⟩
  generalize w.drewN (nd + nd2) = W at n0_ n1_ n2_ n3_ ⊢
  clear HD c0 c1 c2 c3 z0 z1 z2 z3 H3 HS
  have HD := n0_
  have H3 := n1_
  have HS := n2_
  have HF := n3_
  clear n0_ n1_ n2_ n3_
  have q0 : ((k : Int) < (hs.length : Int)) = True := eq_true (by have := HK.out; omega)
  have q1 : (k < hs.length) = True := eq_true HK.out
  have q2 : (p ≤ cap) = True := eq_true (by have := HP.out; have := HC.out; omega)
  have q3 : ((p : Int) ≤ (cap : Int)) = True := eq_true (by have := HP.out; have := HC.out; omega)
  have q4 : ((cap : Int) < (p : Int)) = False := eq_false (by have := HP.out; have := HC.out; omega)
  have q5 : (cap < p) = False := eq_false (by have := HP.out; have := HC.out; omega)
  refine start_ (n := 14) (S := fun w' => w'.cell? ⟨g, 0, none⟩ = some (.slice (some ⟨q, 0, none⟩) hs.length hs.length) ∧ w'.cell? ⟨q, k, none⟩ = some (.slice (some ⟨b, 0, none⟩) s s) ∧ w'.cell? ⟨g, 2, none⟩ = some (.int .i64 (p : Int))) (ds := []) #[false, false, false, false, false, false, false, false, false, false, false, false, false, false] (by kernel_rfl) rfl rfl ⟨(blk_cell HD.out.top 0).trans rfl, (blk_cell HD.out.row k).trans (dkR_get H0.out), (blk_cell HD.out.top 2).trans rfl⟩ (fun hHeld => ?_)
  refine with_tabW disk_Write.tab7 disk_Write.bits7 (fun HT_ HW_ => ?_)
  refine pure_ (i := 0) (N := some 24) (v := ?_) (a' := ?_) #[true, false, false, false, false, false, false, false, false, false, false, false, false, false] rfl rfl (any_of HT_.out (by kernel_rfl)) (fun _ _ _ h => h) (Or.inl ⟨by rfl, ?_⟩) ?_ ?_
  rotate_left
  · intro w'
    go_simp
    with_reducible rfl
  rotate_left
  · simp only [Act.put, List.setIfInBounds_toArray, List.set_cons_zero, List.set_cons_succ, i64_w, i32_w]
    rfl
  refine pure_ (i := 1) (N := some 25) (v := ?_) (a' := ?_) #[true, true, false, false, false, false, false, false, false, false, false, false, false, false] rfl rfl (any_of HT_.out (by kernel_rfl)) (fun _ _ _ h => h) (Or.inl ⟨by rfl, ?_⟩) ?_ ?_
  rotate_left
  · intro w'
    go_simp
    with_reducible rfl
  rotate_left
  · simp only [Act.put, List.setIfInBounds_toArray, List.set_cons_zero, List.set_cons_succ, i64_w, i32_w]
    rfl
  refine pure_ (i := 2) (N := some 26) (v := ?_) (a' := ?_) #[true, true, true, false, false, false, false, false, false, false, false, false, false, false] rfl rfl (any_of HT_.out (by kernel_rfl)) (fun _ _ _ h => h) (Or.inl ⟨by rfl, ?_⟩) ?_ ?_
  rotate_left
  · intro w'
    go_simp
    with_reducible rfl
  rotate_left
  · simp only [Act.put, List.setIfInBounds_toArray, List.set_cons_zero, List.set_cons_succ, i64_w, i32_w]
    rfl
  refine take_ (i := 3) (N := some 27) (v := ?_) (a' := ?_) #[true, true, true, true, false, false, false, false, false, false, false, false, false, false] rfl rfl (take_ofW HT_.out HW_.out (by kernel_rfl)) (fun _ _ _ h => h) (Or.inl ⟨by rfl, ?_⟩) hHeld ?_ ?_
  rotate_left
  · intro w' s0
    obtain ⟨s0, s1, s2⟩ := s0
    go_simp
    with_reducible rfl
  rotate_left
  · simp only [Act.put, List.setIfInBounds_toArray, List.set_cons_zero, List.set_cons_succ, i64_w, i32_w]
    rfl
  refine pure_ (i := 4) (N := some 28) (v := ?_) (a' := ?_) #[true, true, true, true, true, false, false, false, false, false, false, false, false, false] rfl rfl (any_of HT_.out (by kernel_rfl)) (fun _ _ _ h => h) (Or.inl ⟨by rfl, ?_⟩) ?_ ?_
  rotate_left
  · intro w'
    go_simp
    with_reducible rfl
  rotate_left
  · simp only [Act.put, List.setIfInBounds_toArray, List.set_cons_zero, List.set_cons_succ, i64_w, i32_w]
    rfl
  refine pure_ (i := 5) (N := some 29) (v := ?_) (a' := ?_) #[true, true, true, true, true, true, false, false, false, false, false, false, false, false] rfl rfl (any_of HT_.out (by kernel_rfl)) (fun _ _ _ h => h) (Or.inl ⟨by rfl, ?_⟩) ?_ ?_
  rotate_left
  · intro w'
    go_simp
    with_reducible rfl
  rotate_left
  · simp only [Act.put, List.setIfInBounds_toArray, List.set_cons_zero, List.set_cons_succ, i64_w, i32_w]
    rfl
  refine take_ (i := 6) (N := some 30) (v := ?_) (a' := ?_) #[true, true, true, true, true, true, true, false, false, false, false, false, false, false] rfl rfl (take_ofW HT_.out HW_.out (by kernel_rfl)) (fun _ _ _ h => h) (Or.inl ⟨by rfl, ?_⟩) hHeld ?_ ?_
  rotate_left
  · intro w' s0
    obtain ⟨s0, s1, s2⟩ := s0
    go_simp
    with_reducible rfl
  rotate_left
  · simp only [Act.put, List.setIfInBounds_toArray, List.set_cons_zero, List.set_cons_succ, i64_w, i32_w]
    rfl
  refine pure_ (i := 7) (N := some 31) (v := ?_) (a' := ?_) #[true, true, true, true, true, true, true, true, false, false, false, false, false, false] rfl rfl (any_of HT_.out (by kernel_rfl)) (fun _ _ _ h => h) (Or.inl ⟨by rfl, ?_⟩) ?_ ?_
  rotate_left
  · intro w'
    go_simp
    with_reducible rfl
  rotate_left
  · simp only [Act.put, List.setIfInBounds_toArray, List.set_cons_zero, List.set_cons_succ, i64_w, i32_w]
    rfl
  refine pure_ (i := 8) (N := some 32) (v := ?_) (a' := ?_) #[true, true, true, true, true, true, true, true, true, false, false, false, false, false] rfl rfl (any_of HT_.out (by kernel_rfl)) (fun _ _ _ h => h) (Or.inl ⟨by rfl, ?_⟩) ?_ ?_
  rotate_left
  · intro w'
    go_simp
    with_reducible rfl
  rotate_left
  · simp only [Act.put, List.setIfInBounds_toArray, List.set_cons_zero, List.set_cons_succ, i64_w, i32_w]
    rfl
  refine pure_ (i := 9) (N := some 33) (v := ?_) (a' := ?_) #[true, true, true, true, true, true, true, true, true, true, false, false, false, false] rfl rfl (any_of HT_.out (by kernel_rfl)) (fun _ _ _ h => h) (Or.inl ⟨by rfl, ?_⟩) ?_ ?_
  rotate_left
  · intro w'
    go_simp
    with_reducible rfl
  rotate_left
  · simp only [Act.put, List.setIfInBounds_toArray, List.set_cons_zero, List.set_cons_succ, i64_w, i32_w]
    rfl
  refine pure_ (i := 10) (N := some 34) (v := ?_) (a' := ?_) #[true, true, true, true, true, true, true, true, true, true, true, false, false, false] rfl rfl (any_of HT_.out (by kernel_rfl)) (fun _ _ _ h => h) (Or.inl ⟨by rfl, ?_⟩) ?_ ?_
  rotate_left
  · intro w'
    go_simp
    with_reducible rfl
  rotate_left
  · simp only [Act.put, List.setIfInBounds_toArray, List.set_cons_zero, List.set_cons_succ, i64_w, i32_w]
    rfl
  refine take_ (i := 11) (N := some 35) (v := ?_) (a' := ?_) #[true, true, true, true, true, true, true, true, true, true, true, true, false, false] rfl rfl (take_ofW HT_.out HW_.out (by kernel_rfl)) (fun _ _ _ h => h) (Or.inl ⟨by rfl, ?_⟩) hHeld ?_ ?_
  rotate_left
  · intro w' s0
    obtain ⟨s0, s1, s2⟩ := s0
    go_simp
    with_reducible rfl
  rotate_left
  · simp only [Act.put, List.setIfInBounds_toArray, List.set_cons_zero, List.set_cons_succ, i64_w, i32_w]
    rfl
  refine pure_ (i := 12) (N := some 36) (v := ?_) (a' := ?_) #[true, true, true, true, true, true, true, true, true, true, true, true, true, false] rfl rfl (any_of HT_.out (by kernel_rfl)) (fun _ _ _ h => h) (Or.inl ⟨by rfl, ?_⟩) ?_ ?_
  rotate_left
  · intro w'
    go_simp
    with_reducible rfl
  rotate_left
  · simp only [Act.put, List.setIfInBounds_toArray, List.set_cons_zero, List.set_cons_succ, i64_w, i32_w]
    rfl
  refine one_ (i := 13) (N := some 37) #[true, true, true, true, true, true, true, true, true, true, true, true, true, true] rfl rfl (one_of HT_.out (by kernel_rfl)) (by decide) (fun K hK => ?_)
  refine value_ (v := .int .i64 (p : Int)) (w1 := W.drew.setRow b (dkB (bl.take p ++ l_.drop p))) (by rfl) rfl ?_ ?_
  · have hcp := dk_copy (W := W.drew) (bl := bl.take p) (ad := ad) (dCap := s) (sCap := cap) (blk_drew H3.out) (by have := H2.out; have := HP.out; rw [List.length_take]; omega) (fun j x hx => HS.out j x (by
      rw [List.getElem?_take] at hx
      split at hx
      · exact hx
      · cases hx))
    rw [H2.out, show (bl.take p).length = p by have := HP.out; rw [List.length_take]; omega] at hcp
    go_simp
  have n0_ : Aside0 (DK (W.drew.setRow b (dkB (bl.take p ++ l_.drop p))) base g q s hs (bs.set k (bl.take p ++ l_.drop p)) _ _ false) := ⟨(HD.out.kept (w' := W.drew) (S := fun _ => False) ⟨rfl, rfl, rfl, Nat.le_refl _, fun _ _ _ => rfl⟩ id id (fun _ _ => id)).setB H0.out (by have := H2.out; have := HP.out; rw [List.length_append, List.length_take, List.length_drop]; omega)⟩
  have n3_ : Aside0 (DF (fun k => k = g ∨ k ∈ hs) w (W.drew.setRow b (dkB (bl.take p ++ l_.drop p)))) := ⟨DF.setRow (⟨HF.out.os, HF.out.tape, HF.out.output, HF.out.size, HF.out.block⟩ : DF (fun k => k = g ∨ k ∈ hs) w W.drew) (Or.inr (List.mem_of_getElem? H0.out)) _⟩
  generalize W.drew.setRow b (dkB (bl.take p ++ l_.drop p)) = W2 at n0_ n3_ ⊢
  clear HD HF H3 HS
  have HD := n0_
  have HF := n3_
  clear n0_ n3_
  refine hK.out _ _ ⟨(blk_cell HD.out.top 0).trans rfl, (blk_cell HD.out.row k).trans (dkR_get H0.out), (blk_cell HD.out.top 2).trans rfl⟩ (fun hHeld => ?_)
  clear hK K
  refine norm_ (a' := ?_) ?_ ?_
  rotate_left
  · show Act.put _ (some 37) _ = _
    simp only [Act.put, List.setIfInBounds_toArray, List.set_cons_zero, List.set_cons_succ, i64_w, i32_w]
    rfl
  refine done_ (done_of HT_.out (by kernel_rfl)) ?_
  clear HT_ HW_ hHeld
  have c0 : W2.cell? ⟨g, 0, none⟩ = some (.slice (some ⟨q, 0, none⟩) hs.length hs.length) := (blk_cell HD.out.top 0).trans rfl
  have c1 : W2.cell? ⟨g, 1, none⟩ = some (.int .i64 0) := (blk_cell HD.out.top 1).trans rfl
  have c2 : W2.cell? ⟨g, 2, none⟩ = some (.int .i64 (p : Int)) := (blk_cell HD.out.top 2).trans rfl
  have c3 : W2.cell? ⟨g, 3, none⟩ = some (.bool false) := (blk_cell HD.out.top 3).trans rfl
  have z0 := blk_frozen HD.out.top 0
  have z1 := blk_frozen HD.out.top 1
  have z2 := blk_frozen HD.out.top 2
  have z3 := blk_frozen HD.out.top 3
  go_wp2
  (try simp only [Exit.inBlock, Exit.then])
  go_ret
  exact ⟨rfl, HD.out.set3 true, HF.out.set (p := ⟨g, 3, none⟩) (Or.inl rfl) _⟩
end Go.Proofs.Ytgeggcifhojpmaa.PA
