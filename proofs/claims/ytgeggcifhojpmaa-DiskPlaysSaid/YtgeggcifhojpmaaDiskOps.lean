import Derived.Test.YtgeggcifhojpmaaDiskNew
import Derived.Laws.CopyRow
import Derived.Laws.MakeOwn
namespace Go.Proofs.Ytgeggcifhojpmaa.PA
open Go.RowKit Go.Proofs.YtgeggcifhojpmaaW.PrintWords Go.Proofs.YtgeggcifhojpmaaW.PrintLast Go.Proofs.YtgeggcifhojpmaaW.PrintMore
attribute [local go_sem] max2_int min2_int max_two min_two max_three min_three max_four min_four   -- for this text's walks alone
set_option linter.unusedVariables false
set_option linter.unusedSimpArgs false

/-- What is kept: all that was there and is none of S. -/
structure DF (S : Nat → Prop) (w w' : World) : Prop where
  os : w'.os = w.os
  tape : w'.tape = w.tape
  output : w'.output = w.output
  size : w.heap.size ≤ w'.heap.size
  block : ∀ k, k < w.heap.size → ¬ S k → w'.heap[k]? = w.heap[k]?
theorem DF.refl (S : Nat → Prop) (w : World) : DF S w w := ⟨rfl, rfl, rfl, Nat.le_refl _, fun _ _ _ => rfl⟩
theorem DF.trans {S : Nat → Prop} {w w1 w2 : World} (h : DF S w w1) (k : DF S w1 w2) : DF S w w2 := ⟨k.os.trans h.os, k.tape.trans h.tape, k.output.trans h.output, Nat.le_trans h.size k.size, fun i hi hs => (k.block i (Nat.lt_of_lt_of_le hi h.size) hs).trans (h.block i hi hs)⟩
theorem DF.mono {S S' : Nat → Prop} {w w1 : World} (h : DF S w w1) (k : ∀ i, S i → S' i) : DF S' w w1 := ⟨h.os, h.tape, h.output, h.size, fun i hi hs => h.block i hi (fun hq => hs (k i hq))⟩
theorem DF.of_below {S : Nat → Prop} {w w1 : World} (h : Below w.heap.size w w1) : DF S w w1 := ⟨h.os, h.tape, h.output, h.size, fun i hi _ => h.block i hi⟩
theorem DF.set {S : Nat → Prop} {w w1 : World} (h : DF S w w1) {p : Addr} (hp : S p.block) (u : Value) : DF S w (w1.setCell p u) := ⟨h.os, h.tape, h.output, by simpa [World.setCell] using h.size, fun i hi hs => (Below.heap_setCell w1 p u i (fun e => hs (e ▸ hp))).trans (h.block i hi hs)⟩
theorem DF.below {S : Nat → Prop} {base : Nat} {w0 w w1 : World} (h : DF S w w1) (hb : Below base w0 w) (hbase : base ≤ w.heap.size) (hs : ∀ i, S i → base ≤ i) : Below base w0 w1 := hb.trans ⟨h.os, h.tape, h.output, h.size, fun i hi => h.block i (Nat.lt_of_lt_of_le hi hbase) (fun hq => by have := hs i hq; omega)⟩
section
variable {w : World} {base g h s : Nat} {hs : List Nat} {bs : List (List Int)} {cut pre : Int} {dead : Bool}
theorem DK.lt (hd : DK w base g h s hs bs cut pre dead) : g < w.heap.size ∧ h < w.heap.size ∧ ∀ b ∈ hs, b < w.heap.size := by
  refine ⟨blk_lt hd.top, blk_lt hd.row, fun b hb => ?_⟩
  obtain ⟨i, hi, he⟩ := List.mem_iff_getElem.1 hb
  exact blk_lt (hd.each i b (bs[i]'(by rw [hd.len]; exact hi)) (by rw [List.getElem?_eq_getElem hi, he]) (List.getElem?_eq_getElem _)).2
theorem DK.kept {S : Nat → Prop} {w' : World} (hd : DK w base g h s hs bs cut pre dead) (hf : DF S w w') (hg : ¬ S g) (hh : ¬ S h) (hb : ∀ b ∈ hs, ¬ S b) : DK w' base g h s hs bs cut pre dead := by
  have hl := hd.lt
  refine ⟨(hf.block g hl.1 hg).trans hd.top, (hf.block h hl.2.1 hh).trans hd.row, hd.len, hd.nodup, fun i b l hi hq => ?_, hd.own⟩
  have hm := List.mem_of_getElem? hi
  have h2 := hd.each i b l hi hq
  exact ⟨h2.1, (hf.block b (hl.2.2 b hm) (hb b hm)).trans h2.2⟩
theorem DK.ne (hd : DK w base g h s hs bs cut pre dead) : g ≠ h ∧ g ∉ hs ∧ h ∉ hs := by
  have key : ∀ b ∈ hs, b ≠ g ∧ b ≠ h := fun b hb => by
    obtain ⟨i, hi, he⟩ := List.mem_iff_getElem.1 hb
    have h2 := (hd.each i b (bs[i]'(by rw [hd.len]; exact hi)) (by rw [List.getElem?_eq_getElem hi, he]) (List.getElem?_eq_getElem _)).2
    exact ⟨blk_ne h2 hd.top (by decide), blk_ne h2 hd.row (by decide)⟩
  exact ⟨blk_ne hd.top hd.row (by decide), fun hq => (key g hq).1 rfl, fun hq => (key h hq).2 rfl⟩
theorem DK.drewN (hd : DK w base g h s hs bs cut pre dead) (n : Nat) : DK (w.drewN n) base g h s hs bs cut pre dead := hd.kept (S := fun _ => False) ⟨rfl, rfl, rfl, Nat.le_refl _, fun _ _ _ => rfl⟩ id id (fun _ _ => id)
theorem DK.set1 (hd : DK w base g h s hs bs cut pre dead) (x : Int) : DK (w.setCell ⟨g, 1, none⟩ (.int .i64 x)) base g h s hs bs x pre dead :=
  ⟨blk_put hd.top 1 _ rfl, blk_far hd.row (p := ⟨g, 1, none⟩) (fun e => hd.ne.1 e.symm) _, hd.len, hd.nodup, fun i b l hi hq => ⟨(hd.each i b l hi hq).1, blk_far (hd.each i b l hi hq).2 (p := ⟨g, 1, none⟩) (fun e => hd.ne.2.1 (by have h_ := List.mem_of_getElem? hi; rw [show b = g from e] at h_; exact h_)) _⟩, hd.own⟩
theorem DK.set2 (hd : DK w base g h s hs bs cut pre dead) (x : Int) : DK (w.setCell ⟨g, 2, none⟩ (.int .i64 x)) base g h s hs bs cut x dead :=
  ⟨blk_put hd.top 2 _ rfl, blk_far hd.row (p := ⟨g, 2, none⟩) (fun e => hd.ne.1 e.symm) _, hd.len, hd.nodup, fun i b l hi hq => ⟨(hd.each i b l hi hq).1, blk_far (hd.each i b l hi hq).2 (p := ⟨g, 2, none⟩) (fun e => hd.ne.2.1 (by have h_ := List.mem_of_getElem? hi; rw [show b = g from e] at h_; exact h_)) _⟩, hd.own⟩
theorem DK.set3 (hd : DK w base g h s hs bs cut pre dead) (x : Bool) : DK (w.setCell ⟨g, 3, none⟩ (.bool x)) base g h s hs bs cut pre x :=
  ⟨blk_put hd.top 3 _ rfl, blk_far hd.row (p := ⟨g, 3, none⟩) (fun e => hd.ne.1 e.symm) _, hd.len, hd.nodup, fun i b l hi hq => ⟨(hd.each i b l hi hq).1, blk_far (hd.each i b l hi hq).2 (p := ⟨g, 3, none⟩) (fun e => hd.ne.2.1 (by have h_ := List.mem_of_getElem? hi; rw [show b = g from e] at h_; exact h_)) _⟩, hd.own⟩
end
/-- Whether a block can be asked for. -/
def dkAt (n : Nat) (dead : Bool) (i : Int) : Int := if dead = true then 42 else if i < 0 then 40 else if (n : Int) ≤ i then 40 else 0
set_option maxHeartbeats 4000000 in
set_option maxRecDepth 100000 in
theorem disk_Blocks.calls {w : World} {base g q s : Nat} {hs : List Nat} {bs : List (List Int)} {cut pre : Int} {dead : Bool} (hd : DK w base g q s hs bs cut pre dead) : Calls Try.prog 8 #[.pointer (some ⟨g, 0, none⟩)] w fun e w' => e = .returned (.int .i64 (hs.length : Int)) ∧ Drawn0 w w' := by
  have hu49 := Try.underlying49
  have HD := Aside0.mk hd
  clear hd
  have c0 : w.cell? ⟨g, 0, none⟩ = some (.slice (some ⟨q, 0, none⟩) hs.length hs.length) := (blk_cell HD.out.top 0).trans rfl
  have c1 : w.cell? ⟨g, 1, none⟩ = some (.int .i64 cut) := (blk_cell HD.out.top 1).trans rfl
  have c2 : w.cell? ⟨g, 2, none⟩ = some (.int .i64 pre) := (blk_cell HD.out.top 2).trans rfl
  have c3 : w.cell? ⟨g, 3, none⟩ = some (.bool dead) := (blk_cell HD.out.top 3).trans rfl
  have z0 := blk_frozen HD.out.top 0
  have z1 := blk_frozen HD.out.top 1
  have z2 := blk_frozen HD.out.top 2
  have z3 := blk_frozen HD.out.top 3
  go_enter Try.func8, Try.ntmps8
  go_wp2
  go_ret
  exact ⟨rfl, by repeat (first | exact Drawn0.refl _ | apply Drawn0.step)⟩
set_option maxHeartbeats 4000000 in
set_option maxRecDepth 100000 in
theorem disk_Dead.calls {w : World} {base g q s : Nat} {hs : List Nat} {bs : List (List Int)} {cut pre : Int} {dead : Bool} (hd : DK w base g q s hs bs cut pre dead) : Calls Try.prog 15 #[.pointer (some ⟨g, 0, none⟩)] w fun e w' => e = .returned (.bool dead) ∧ Drawn0 w w' := by
  have hu49 := Try.underlying49
  have HD := Aside0.mk hd
  clear hd
  have c0 : w.cell? ⟨g, 0, none⟩ = some (.slice (some ⟨q, 0, none⟩) hs.length hs.length) := (blk_cell HD.out.top 0).trans rfl
  have c1 : w.cell? ⟨g, 1, none⟩ = some (.int .i64 cut) := (blk_cell HD.out.top 1).trans rfl
  have c2 : w.cell? ⟨g, 2, none⟩ = some (.int .i64 pre) := (blk_cell HD.out.top 2).trans rfl
  have c3 : w.cell? ⟨g, 3, none⟩ = some (.bool dead) := (blk_cell HD.out.top 3).trans rfl
  have z0 := blk_frozen HD.out.top 0
  have z1 := blk_frozen HD.out.top 1
  have z2 := blk_frozen HD.out.top 2
  have z3 := blk_frozen HD.out.top 3
  go_enter Try.func15, Try.ntmps15
  go_wp2
  go_ret
  exact ⟨rfl, by repeat (first | exact Drawn0.refl _ | apply Drawn0.step)⟩
set_option maxHeartbeats 4000000 in
set_option maxRecDepth 100000 in
theorem disk_Size.calls {w : World} {base g q s : Nat} {hs : List Nat} {bs : List (List Int)} {cut pre : Int} {dead : Bool} (hd : DK w base g q s hs bs cut pre dead) (hn : 0 < hs.length) : Calls Try.prog 9 #[.pointer (some ⟨g, 0, none⟩)] w fun e w' => e = .returned (.int .i64 (s : Int)) ∧ Drawn0 w w' := by
  have hu49 := Try.underlying49
  have HD := Aside0.mk hd
  clear hd
  have c0 : w.cell? ⟨g, 0, none⟩ = some (.slice (some ⟨q, 0, none⟩) hs.length hs.length) := (blk_cell HD.out.top 0).trans rfl
  have c1 : w.cell? ⟨g, 1, none⟩ = some (.int .i64 cut) := (blk_cell HD.out.top 1).trans rfl
  have c2 : w.cell? ⟨g, 2, none⟩ = some (.int .i64 pre) := (blk_cell HD.out.top 2).trans rfl
  have c3 : w.cell? ⟨g, 3, none⟩ = some (.bool dead) := (blk_cell HD.out.top 3).trans rfl
  have z0 := blk_frozen HD.out.top 0
  have z1 := blk_frozen HD.out.top 1
  have z2 := blk_frozen HD.out.top 2
  have z3 := blk_frozen HD.out.top 3
  obtain ⟨b, hb⟩ : ∃ b, hs[0]? = some b := ⟨_, List.getElem?_eq_getElem hn⟩
  have r0 : w.cell? ⟨q, 0, none⟩ = some (.slice (some ⟨b, 0, none⟩) s s) := (blk_cell HD.out.row 0).trans (dkR_get hb)
  have q0 : ((0 : Int) < (hs.length : Int)) = True := eq_true (by omega)
  have q1 : (0 < hs.length) = True := eq_true hn
  clear hb hn
  go_enter Try.func9, Try.ntmps9
  go_wp2
  go_ret
  exact ⟨rfl, by repeat (first | exact Drawn0.refl _ | apply Drawn0.step)⟩
set_option maxHeartbeats 4000000 in
set_option maxRecDepth 100000 in
theorem disk_Power.calls {w : World} {base g q s : Nat} {hs : List Nat} {bs : List (List Int)} {cut pre : Int} {dead : Bool} (hd : DK w base g q s hs bs cut pre dead) : Calls Try.prog 18 #[.pointer (some ⟨g, 0, none⟩)] w fun e w' => e = .returned (.tuple #[]) ∧ DK w' base g q s hs bs (-1) pre false ∧ DF (fun k => k = g) w w' := by
  have hu49 := Try.underlying49
  have HD := Aside0.mk hd
  clear hd
  have c0 : w.cell? ⟨g, 0, none⟩ = some (.slice (some ⟨q, 0, none⟩) hs.length hs.length) := (blk_cell HD.out.top 0).trans rfl
  have c1 : w.cell? ⟨g, 1, none⟩ = some (.int .i64 cut) := (blk_cell HD.out.top 1).trans rfl
  have c2 : w.cell? ⟨g, 2, none⟩ = some (.int .i64 pre) := (blk_cell HD.out.top 2).trans rfl
  have c3 : w.cell? ⟨g, 3, none⟩ = some (.bool dead) := (blk_cell HD.out.top 3).trans rfl
  have z0 := blk_frozen HD.out.top 0
  have z1 := blk_frozen HD.out.top 1
  have z2 := blk_frozen HD.out.top 2
  have z3 := blk_frozen HD.out.top 3
  go_enter Try.func18, Try.ntmps18
  go_wp2
  first | go_end0 | ((try simp only [Exit.inBlock, Exit.then]); refine bodyPost_ret (results_none rfl _ _ _) rfl ?_)
  exact ⟨rfl, (HD.out.set3 false).set1 (-1), ((DF.refl (fun k => k = g) w).set (p := ⟨g, 3, none⟩) rfl _).set (p := ⟨g, 1, none⟩) rfl _⟩
set_option maxHeartbeats 4000000 in
set_option maxRecDepth 100000 in
theorem disk_at.calls {w : World} {base g q s : Nat} {hs : List Nat} {bs : List (List Int)} {cut pre : Int} {dead : Bool} (hd : DK w base g q s hs bs cut pre dead) (i : Int) : Calls Try.prog 21 #[.pointer (some ⟨g, 0, none⟩), .int .i64 i] w fun e w' => e = .returned (.int .i64 (dkAt hs.length dead i)) ∧ Drawn0 w w' := by
  have hu49 := Try.underlying49
  have HD := Aside0.mk hd
  clear hd
  have c0 : w.cell? ⟨g, 0, none⟩ = some (.slice (some ⟨q, 0, none⟩) hs.length hs.length) := (blk_cell HD.out.top 0).trans rfl
  have c1 : w.cell? ⟨g, 1, none⟩ = some (.int .i64 cut) := (blk_cell HD.out.top 1).trans rfl
  have c2 : w.cell? ⟨g, 2, none⟩ = some (.int .i64 pre) := (blk_cell HD.out.top 2).trans rfl
  have c3 : w.cell? ⟨g, 3, none⟩ = some (.bool dead) := (blk_cell HD.out.top 3).trans rfl
  have z0 := blk_frozen HD.out.top 0
  have z1 := blk_frozen HD.out.top 1
  have z2 := blk_frozen HD.out.top 2
  have z3 := blk_frozen HD.out.top 3
  cases dead with
  | true =>
    go_enter Try.func21, Try.ntmps21
    go_wp2
    (try simp only [Exit.inBlock, Exit.then])
    go_ret
    exact ⟨rfl, by repeat (first | exact Drawn0.refl _ | apply Drawn0.step)⟩
  | false =>
    by_cases k1 : i < 0
    · have k1b : decide (i < 0) = true := decide_eq_true k1
      have e : dkAt hs.length false i = 40 := by unfold dkAt; rw [if_neg (by decide), if_pos k1]
      rw [e]
      clear k1
      go_enter Try.func21, Try.ntmps21
      go_wp2
      (try simp only [Exit.inBlock, Exit.then])
      go_ret
      exact ⟨rfl, by repeat (first | exact Drawn0.refl _ | apply Drawn0.step)⟩
    · have k1b : decide (i < 0) = false := decide_eq_false k1
      by_cases k2 : (hs.length : Int) ≤ i
      · have k2b : decide ((hs.length : Int) ≤ i) = true := decide_eq_true k2
        have e : dkAt hs.length false i = 40 := by unfold dkAt; rw [if_neg (by decide), if_neg k1, if_pos k2]
        rw [e]
        clear k1 k2
        go_enter Try.func21, Try.ntmps21
        go_wp2
        (try simp only [Exit.inBlock, Exit.then])
        go_ret
        exact ⟨rfl, by repeat (first | exact Drawn0.refl _ | apply Drawn0.step)⟩
      · have k2b : decide ((hs.length : Int) ≤ i) = false := decide_eq_false k2
        have e : dkAt hs.length false i = 0 := by unfold dkAt; rw [if_neg (by decide), if_neg k1, if_neg k2]
        rw [e]
        clear k1 k2
        go_enter Try.func21, Try.ntmps21
        go_wp2
        (try simp only [Exit.inBlock, Exit.then])
        go_ret
        exact ⟨rfl, by repeat (first | exact Drawn0.refl _ | apply Drawn0.step)⟩
set_option maxHeartbeats 4000000 in
set_option maxRecDepth 100000 in
theorem disk_Cut.calls {w : World} {base g q s : Nat} {hs : List Nat} {bs : List (List Int)} {cut pre : Int} {dead : Bool} (hd : DK w base g q s hs bs cut pre dead) (hn : 0 < hs.length) (n p : Int) : Calls Try.prog 11 #[.pointer (some ⟨g, 0, none⟩), .int .i64 n, .int .i64 p] w fun e w' => e = .returned (.tuple #[]) ∧ DK w' base g q s hs bs (mx n 0) (mn (mx p 0) (s : Int)) dead ∧ DF (fun k => k = g) w w' := by
  have hu49 := Try.underlying49
  have HD := Aside0.mk hd
  clear hd
  have c0 : w.cell? ⟨g, 0, none⟩ = some (.slice (some ⟨q, 0, none⟩) hs.length hs.length) := (blk_cell HD.out.top 0).trans rfl
  have c1 : w.cell? ⟨g, 1, none⟩ = some (.int .i64 cut) := (blk_cell HD.out.top 1).trans rfl
  have c2 : w.cell? ⟨g, 2, none⟩ = some (.int .i64 pre) := (blk_cell HD.out.top 2).trans rfl
  have c3 : w.cell? ⟨g, 3, none⟩ = some (.bool dead) := (blk_cell HD.out.top 3).trans rfl
  have z0 := blk_frozen HD.out.top 0
  have z1 := blk_frozen HD.out.top 1
  have z2 := blk_frozen HD.out.top 2
  have z3 := blk_frozen HD.out.top 3
  go_enter Try.func11, Try.ntmps11
  go_wp2_with fail
  · refine (disk_Size.calls HD.out hn).mono ?_
    rintro e w1 ⟨rfl, ⟨nd, rfl⟩⟩
    (try dsimp only)
    go_wp2_with fail
    refine (disk_within.calls p 0 (s : Int) (mn (mx p 0) (s : Int)) _ (by unfold disk_within.f; rfl)).mono ?_
    rintro e w2 ⟨rfl, hb⟩
    (try dsimp only)
    have F1 : DF (fun k => k = g) w w2 := (⟨rfl, rfl, rfl, Nat.le_refl _, fun _ _ _ => rfl⟩ : DF (fun k => k = g) w (w.drewN nd)).trans (DF.of_below hb)
    have n0_ : Aside0 (DK w2 base g q s hs bs cut pre dead) := ⟨(HD.out.drewN nd).kept (S := fun _ => False) (DF.of_below hb) id id (fun _ _ => id)⟩
    have F1 := Aside0.mk F1
    clear hb c0 c1 c2 c3 z0 z1 z2 z3 HD
    have HD := n0_
    clear n0_
    have c0 : w2.cell? ⟨g, 0, none⟩ = some (.slice (some ⟨q, 0, none⟩) hs.length hs.length) := (blk_cell HD.out.top 0).trans rfl
    have c1 : w2.cell? ⟨g, 1, none⟩ = some (.int .i64 cut) := (blk_cell HD.out.top 1).trans rfl
    have c2 : w2.cell? ⟨g, 2, none⟩ = some (.int .i64 pre) := (blk_cell HD.out.top 2).trans rfl
    have c3 : w2.cell? ⟨g, 3, none⟩ = some (.bool dead) := (blk_cell HD.out.top 3).trans rfl
    have z0 := blk_frozen HD.out.top 0
    have z1 := blk_frozen HD.out.top 1
    have z2 := blk_frozen HD.out.top 2
    have z3 := blk_frozen HD.out.top 3
    go_wp2
    first | go_end0 | ((try simp only [Exit.inBlock, Exit.then]); refine bodyPost_ret (results_none rfl _ _ _) rfl ?_)
    have e : mx n 0 = 0 := by unfold mx; split <;> omega
    rw [e]
    exact ⟨rfl, (HD.out.set1 (0)).set2 _, (F1.out.set (p := ⟨g, 1, none⟩) rfl _).set (p := ⟨g, 2, none⟩) rfl _⟩
  · refine (disk_Size.calls HD.out hn).mono ?_
    rintro e w1 ⟨rfl, ⟨nd, rfl⟩⟩
    (try dsimp only)
    go_wp2_with fail
    refine (disk_within.calls p 0 (s : Int) (mn (mx p 0) (s : Int)) _ (by unfold disk_within.f; rfl)).mono ?_
    rintro e w2 ⟨rfl, hb⟩
    (try dsimp only)
    have F1 : DF (fun k => k = g) w w2 := (⟨rfl, rfl, rfl, Nat.le_refl _, fun _ _ _ => rfl⟩ : DF (fun k => k = g) w (w.drewN nd)).trans (DF.of_below hb)
    have n0_ : Aside0 (DK w2 base g q s hs bs cut pre dead) := ⟨(HD.out.drewN nd).kept (S := fun _ => False) (DF.of_below hb) id id (fun _ _ => id)⟩
    have F1 := Aside0.mk F1
    clear hb c0 c1 c2 c3 z0 z1 z2 z3 HD
    have HD := n0_
    clear n0_
    have c0 : w2.cell? ⟨g, 0, none⟩ = some (.slice (some ⟨q, 0, none⟩) hs.length hs.length) := (blk_cell HD.out.top 0).trans rfl
    have c1 : w2.cell? ⟨g, 1, none⟩ = some (.int .i64 cut) := (blk_cell HD.out.top 1).trans rfl
    have c2 : w2.cell? ⟨g, 2, none⟩ = some (.int .i64 pre) := (blk_cell HD.out.top 2).trans rfl
    have c3 : w2.cell? ⟨g, 3, none⟩ = some (.bool dead) := (blk_cell HD.out.top 3).trans rfl
    have z0 := blk_frozen HD.out.top 0
    have z1 := blk_frozen HD.out.top 1
    have z2 := blk_frozen HD.out.top 2
    have z3 := blk_frozen HD.out.top 3
    go_wp2
    first | go_end0 | ((try simp only [Exit.inBlock, Exit.then]); refine bodyPost_ret (results_none rfl _ _ _) rfl ?_)
    have e : mx n 0 = n := by unfold mx; split <;> omega
    rw [e]
    exact ⟨rfl, (HD.out.set1 (n)).set2 _, (F1.out.set (p := ⟨g, 1, none⟩) rfl _).set (p := ⟨g, 2, none⟩) rfl _⟩
end Go.Proofs.Ytgeggcifhojpmaa.PA
