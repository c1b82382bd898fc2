import Derived.Test.YtgeggcifhojpmaaDiskMw
import Derived.Test.YtgeggcifhojpmaaDiskCs
import Derived.Test.YtgeggcifhojpmaaDiskBd
import Derived.Laws.CopyRow
import Derived.Laws.MakeOwn
import Derived.Laws.CopyOwn
namespace Go.Proofs.Ytgeggcifhojpmaa.PA
open Go.RowKit Go.Proofs.YtgeggcifhojpmaaW.PrintWords Go.Proofs.YtgeggcifhojpmaaW.PrintLast Go.Proofs.YtgeggcifhojpmaaW.PrintMore
attribute [local go_sem] max2_int min2_int max_two min_two max_three min_three max_four min_four   -- for this text's walks alone
set_option linter.unusedVariables false
set_option linter.unusedSimpArgs false

/-- The disk and the law's model of it, in one world, alike. -/
structure PL (W : World) (b gm qm cap s N g q : Nat) (hs : List Nat) (ms : List (Nat × Nat)) (bs : List (List Int)) (cut pre mc mp : Int) (dead armed : Bool) : Prop where
  dk : DK W b g q s hs bs cut pre dead
  mo : MK W b gm qm cap s ms bs mc mp dead armed
  nh : hs.length = N
  nm : ms.length = N
  qq : q ≠ qm
  sep : ∀ p ∈ ms, p.1 ∉ hs
  nb : -9 ≤ mc ∧ mc ≤ 9
  off : armed = false → cut = -1
  on : armed = true → cut = mc ∧ pre = mp ∧ 0 ≤ mc ∧ mc ≤ 6 ∧ 0 ≤ mp ∧ mp ≤ (s : Int)
theorem DK.base_ {w : World} {base g h s : Nat} {hs : List Nat} {bs : List (List Int)} {cut pre : Int} {dead : Bool} (hd : DK w base g h s hs bs cut pre dead) {b : Nat} (hb : b ≤ base) : DK w b g h s hs bs cut pre dead := ⟨hd.top, hd.row, hd.len, hd.nodup, hd.each, Nat.le_trans hb hd.own.1, Nat.le_trans hb hd.own.2.1, fun x hx => Nat.le_trans hb (hd.own.2.2 x hx)⟩
theorem MK.base_ {w : World} {base gm qm cap s : Nat} {ms : List (Nat × Nat)} {bs : List (List Int)} {n pre : Int} {dead armed : Bool} (hd : MK w base gm qm cap s ms bs n pre dead armed) {b : Nat} (hb : b ≤ base) : MK w b gm qm cap s ms bs n pre dead armed := ⟨hd.top, hd.row, hd.len, hd.nodup, hd.each, Nat.le_trans hb hd.own.1, Nat.le_trans hb hd.own.2.1, fun x hx => Nat.le_trans hb (hd.own.2.2 x hx)⟩
theorem Below.refl' (b : Nat) (w : World) : Below b w w := ⟨rfl, rfl, rfl, Nat.le_refl _, fun _ _ => rfl⟩
theorem below_drewN' (b : Nat) (w : World) (n : Nat) : Below b w (w.drewN n) := ⟨rfl, rfl, rfl, Nat.le_refl _, fun _ _ => rfl⟩
theorem below_of_df {S : Nat → Prop} {b : Nat} {w w' : World} (h : DF S w w') (hb : b ≤ w.heap.size) (hS : ∀ x, S x → b ≤ x) : Below b w w' := h.below (Below.refl' b w) hb hS
theorem add_atO (c o j : Nat) : (⟨c, o, none⟩ : Addr).add j = ⟨c, o + j, none⟩ := by simp [Addr.add]
theorem DK.mem_ {w : World} {base g h s : Nat} {hs : List Nat} {bs : List (List Int)} {cut pre : Int} {dead : Bool} (hd : DK w base g h s hs bs cut pre dead) {b : Nat} (hb : b ∈ hs) : ∃ l, w.heap[b]? = some (.cells (dkB l) 5 (0, 0)) := by
  obtain ⟨i, hi, rfl⟩ := List.mem_iff_getElem.1 hb
  have h1 : i < bs.length := by rw [hd.len]; exact hi
  exact ⟨_, (hd.each i _ _ (List.getElem?_eq_getElem hi) (List.getElem?_eq_getElem h1)).2⟩
section
variable {W : World} {b gm qm cap s N g q : Nat} {hs : List Nat} {ms : List (Nat × Nat)} {bs : List (List Int)} {cut pre mc mp : Int} {dead armed : Bool}
theorem PL.size (h : PL W b gm qm cap s N g q hs ms bs cut pre mc mp dead armed) : b ≤ W.heap.size := by have h1 := h.dk.own.1; have h2 := h.dk.lt.1; omega
theorem PL.gg (h : PL W b gm qm cap s N g q hs ms bs cut pre mc mp dead armed) : g ≠ gm := blk_ne h.dk.top h.mo.top (by decide)
theorem PL.gq (h : PL W b gm qm cap s N g q hs ms bs cut pre mc mp dead armed) : g ≠ qm := by obtain ⟨A, hA, _⟩ := h.mo.row; exact blk_ne h.dk.top hA (by decide)
theorem PL.gp (h : PL W b gm qm cap s N g q hs ms bs cut pre mc mp dead armed) : ∀ p ∈ ms, g ≠ p.1 := fun p hp => by obtain ⟨c, hc⟩ := h.mo.mem hp; exact blk_ne h.dk.top hc (by decide)
theorem PL.qg (h : PL W b gm qm cap s N g q hs ms bs cut pre mc mp dead armed) : q ≠ gm := blk_ne h.dk.row h.mo.top (by decide)
theorem PL.qp (h : PL W b gm qm cap s N g q hs ms bs cut pre mc mp dead armed) : ∀ p ∈ ms, q ≠ p.1 := fun p hp => by obtain ⟨c, hc⟩ := h.mo.mem hp; exact blk_ne h.dk.row hc (by decide)
theorem PL.hg (h : PL W b gm qm cap s N g q hs ms bs cut pre mc mp dead armed) : gm ∉ hs := fun e => by obtain ⟨l, hl⟩ := h.dk.mem_ e; exact blk_ne hl h.mo.top (by decide) rfl
theorem PL.hq (h : PL W b gm qm cap s N g q hs ms bs cut pre mc mp dead armed) : qm ∉ hs := fun e => by obtain ⟨l, hl⟩ := h.dk.mem_ e; obtain ⟨A, hA, _⟩ := h.mo.row; exact blk_ne hl hA (by decide) rfl
theorem PL.g_hs (h : PL W b gm qm cap s N g q hs ms bs cut pre mc mp dead armed) : g ∉ hs := fun e => by obtain ⟨l, hl⟩ := h.dk.mem_ e; exact blk_ne hl h.dk.top (by decide) rfl
theorem PL.kept {S : Nat → Prop} {W' : World} (h : PL W b gm qm cap s N g q hs ms bs cut pre mc mp dead armed) (hf : DF S W W') (h1 : ¬ S g) (h2 : ¬ S q) (h3 : ∀ x ∈ hs, ¬ S x) (h4 : ¬ S gm) (h5 : ¬ S qm) (h6 : ∀ p ∈ ms, ¬ S p.1) : PL W' b gm qm cap s N g q hs ms bs cut pre mc mp dead armed := ⟨h.dk.kept hf h1 h2 h3, h.mo.kept hf h4 h5 h6, h.nh, h.nm, h.qq, h.sep, h.nb, h.off, h.on⟩
theorem PL.below {W' : World} (h : PL W b gm qm cap s N g q hs ms bs cut pre mc mp dead armed) (hb : Below W.heap.size W W') : PL W' b gm qm cap s N g q hs ms bs cut pre mc mp dead armed := h.kept (S := fun _ => False) (DF.of_below hb) id id (fun _ _ => id) id id (fun _ _ => id)
theorem PL.drewN (h : PL W b gm qm cap s N g q hs ms bs cut pre mc mp dead armed) (k : Nat) : PL (W.drewN k) b gm qm cap s N g q hs ms bs cut pre mc mp dead armed := h.kept (S := fun _ => False) ⟨rfl, rfl, rfl, Nat.le_refl _, fun _ _ _ => rfl⟩ id id (fun _ _ => id) id id (fun _ _ => id)
/-- A block of other things is no block of these. -/
theorem PL.other {x t : Nat} {C : Array Value} (h : PL W b gm qm cap s N g q hs ms bs cut pre mc mp dead armed) (hx : W.heap[x]? = some (.cells C t (0, 0))) (h1 : t ≠ 49) (h2 : t ≠ 27) (h3 : t ≠ 5) (h4 : t ≠ 41) : x ≠ g ∧ x ≠ q ∧ x ∉ hs ∧ x ≠ gm ∧ x ≠ qm ∧ ∀ p ∈ ms, x ≠ p.1 := by
  obtain ⟨A, hA, _⟩ := h.mo.row
  exact ⟨blk_ne hx h.dk.top h1, blk_ne hx h.dk.row h2, fun e => by obtain ⟨l, hl⟩ := h.dk.mem_ e; exact blk_ne hx hl h3 rfl, blk_ne hx h.mo.top h4, blk_ne hx hA h2, fun p hp => by obtain ⟨c, hc⟩ := h.mo.mem hp; exact blk_ne hx hc h3⟩
/-- The model behind what is done to the disk. -/
theorem PL.mkept {W' : World} (h : PL W b gm qm cap s N g q hs ms bs cut pre mc mp dead armed) (hf : DF (fun k => k = g ∨ k ∈ hs) W W') : MK W' b gm qm cap s ms bs mc mp dead armed := h.mo.kept hf (fun e => e.elim (fun e => h.gg e.symm) h.hg) (fun e => e.elim (fun e => h.gq e.symm) h.hq) (fun p hp e => e.elim (fun e => h.gp p hp e.symm) (h.sep p hp))
theorem PL.dbelow {W' : World} (h : PL W b gm qm cap s N g q hs ms bs cut pre mc mp dead armed) (hf : DF (fun k => k = g ∨ k ∈ hs) W W') : Below b W W' := below_of_df hf h.size (fun x e => e.elim (fun e => e ▸ h.dk.own.1) (fun e => h.dk.own.2.2 x e))
theorem PL.mbelow {W0 W' : World} (h : PL W b gm qm cap s N g q hs ms bs cut pre mc mp dead armed) (hW : b ≤ W0.heap.size) (hf : DF (fun x => x = gm ∨ x = qm ∨ ∃ y ∈ ms, y.1 = x) W0 W') : Below b W0 W' := below_of_df hf hW (fun x e => by
  rcases e with e | e | ⟨y, hy, e⟩
  · rw [e]; exact h.mo.own.1
  · rw [e]; exact h.mo.own.2.1
  · rw [← e]; exact h.mo.own.2.2 y hy)
theorem PL.write (h : PL W b gm qm cap s N g q hs ms bs cut pre mc mp dead armed) (hz : 64 ≤ s ∧ s ≤ 65536) (i : Int) {c o cp : Nat} {bl : List Int} {C : Array Value} (hcap : bl.length ≤ cp) (hc : W.heap[c]? = some (.cells C 5 (0, 0))) (hcell : ∀ (j : Nat) (x : Int), bl[j]? = some x → C[o + j]? = some (.int .u8 x)) (hfr : c ∉ hs) :
    Calls Try.prog 10 #[.pointer (some ⟨g, 0, none⟩), .int .i64 i, .slice (some ⟨c, o, none⟩) bl.length cp] W fun e w1 => ∃ r : Int, e = .returned (.int .i64 r) ∧ Calls Try.prog 17 #[.pointer (some ⟨gm, 0, none⟩), .int .i64 i, .slice (some ⟨c, o, none⟩) bl.length cp] w1 fun e2 w2 => e2 = .returned (.int .i64 r) ∧ (∃ (ms' : List (Nat × Nat)) (bs' : List (List Int)) (cut' pre' mc' mp' : Int) (dead' : Bool), PL w2 b gm qm cap s N g q hs ms' bs' cut' pre' mc' mp' dead' armed) ∧ Below b W w2 := by
  have hcg : c ≠ g := blk_ne hc h.dk.top (by decide)
  have hcm : c ≠ gm := blk_ne hc h.mo.top (by decide)
  have hcw : ∀ (w' : World), w'.heap[c]? = some (.cells C 5 (0, 0)) → ∀ (j : Nat) (x : Int), bl[j]? = some x → w'.cell? ((⟨c, o, none⟩ : Addr).add j) = some (.int .u8 x) := fun w' hw' j x hx => by
    rw [add_atO]
    exact (blk_cell hw' (o + j)).trans (hcell j x hx)
  cases dead with
  | true =>
    have e1 : dkAt hs.length true i = 42 := rfl
    refine (disk_Write.refused h.dk i (by rw [e1]; decide) ⟨c, o, none⟩ bl cp hcap).mono ?_
    rintro e w1 ⟨rfl, ⟨nd, rfl⟩⟩
    refine ⟨42, by rw [e1], ?_⟩
    refine (model_write.dead (h.mo.drewN nd) i rfl ⟨c, o, none⟩ bl cp hcap).mono ?_
    rintro e w2 ⟨rfl, ⟨nd2, rfl⟩⟩
    exact ⟨rfl, ⟨_, _, _, _, _, _, _, (h.drewN nd).drewN nd2⟩, (below_drewN' _ _ nd).trans (below_drewN' _ _ nd2)⟩
  | false =>
    by_cases k1 : i < 0 ∨ (N : Int) ≤ i
    · have e1 : dkAt hs.length false i = 40 := by
        unfold dkAt
        rw [if_neg (by decide), h.nh]
        rcases k1 with k | k
        · rw [if_pos k]
        · by_cases k0 : i < 0
          · rw [if_pos k0]
          · rw [if_neg k0, if_pos k]
      refine (disk_Write.refused h.dk i (by rw [e1]; decide) ⟨c, o, none⟩ bl cp hcap).mono ?_
      rintro e w1 ⟨rfl, ⟨nd, rfl⟩⟩
      refine ⟨40, by rw [e1], ?_⟩
      refine (model_write.place (h.mo.drewN nd) i rfl (by rw [h.nm]; exact k1) ⟨c, o, none⟩ bl cp hcap).mono ?_
      rintro e w2 ⟨rfl, ⟨nd2, rfl⟩⟩
      exact ⟨rfl, ⟨_, _, _, _, _, _, _, (h.drewN nd).drewN nd2⟩, (below_drewN' _ _ nd).trans (below_drewN' _ _ nd2)⟩
    · obtain ⟨k, rfl⟩ : ∃ k : Nat, i = (k : Int) := ⟨i.toNat, by omega⟩
      have hk : k < hs.length := by rw [h.nh]; omega
      have hkm : k < ms.length := by rw [h.nm]; omega
      by_cases k2 : bl.length = s
      · obtain ⟨p0, l, cur, r0, r1, r2, r3, r4, r5⟩ := h.mo.at hkm
        by_cases k3 : cut = 0
        · cases armed with
          | false => have := h.off rfl; omega
          | true =>
            obtain ⟨o1, o2, o3, o4, o5, o6⟩ := h.on rfl
            obtain ⟨p, hp⟩ : ∃ p : Nat, mp = (p : Int) := ⟨mp.toNat, by omega⟩
            refine (disk_Write.fell h.dk k p l hk r1 rfl ⟨c, o, none⟩ bl cp hcap (hcw W hc) k2 k3 (by omega) (by omega) hcg).mono ?_
            rintro e w1 ⟨rfl, hd, hf⟩
            refine ⟨42, rfl, ?_⟩
            have hc1 : w1.heap[c]? = some (.cells C 5 (0, 0)) := (hf.block c (blk_lt hc) (fun e => e.elim hcg hfr)).trans hc
            refine (model_write.fell (h.mkept hf) k p l rfl rfl (by omega) hkm r1 hp (by omega) ⟨c, o, none⟩ bl cp hcap (hcw w1 hc1) k2).mono ?_
            rintro e w2 ⟨rfl, hm, hf2⟩
            have hf3 : DF (fun x => x = gm ∨ x = qm ∨ ∃ y ∈ ms, y.1 = x) w1 w2 := hf2.mono (fun x e => e.elim Or.inl (fun e => Or.inr (Or.inr e)))
            refine ⟨rfl, ⟨ms, _, 0, pre, 0, mp, true, hd.kept hf2 (fun e => e.elim h.gg (fun ⟨y, hy, e⟩ => h.gp y hy e.symm)) (fun e => e.elim h.qg (fun ⟨y, hy, e⟩ => h.qp y hy e.symm)) (fun x hx e => e.elim (fun e => h.hg (e ▸ hx)) (fun ⟨y, hy, e⟩ => h.sep y hy (e ▸ hx))), hm, h.nh, h.nm, h.qq, h.sep, by omega, fun e => (by cases e), fun _ => ⟨rfl, o2, by omega, by omega, o5, o6⟩⟩, ?_⟩
            exact (h.dbelow hf).trans (h.mbelow (Nat.le_trans h.size hf.size) hf3)
        · refine (disk_Write.ok h.dk k hk rfl ⟨c, o, none⟩ bl cp hcap (hcw W hc) k2 k3 (by cases armed with | true => obtain ⟨o1, o2, o3, o4, o5, o6⟩ := h.on rfl; omega | false => have := h.off rfl; omega) hcg).mono ?_
          rintro e w1 ⟨rfl, hd, hf⟩
          refine ⟨0, rfl, ?_⟩
          have hc1 : w1.heap[c]? = some (.cells C 5 (0, 0)) := (hf.block c (blk_lt hc) (fun e => e.elim hcg hfr)).trans hc
          cases armed with
          | true =>
            obtain ⟨o1, o2, o3, o4, o5, o6⟩ := h.on rfl
            refine (model_write.ok (h.mkept hf) k rfl (fun _ => by omega) (by omega) hkm (by omega) ⟨c, o, none⟩ bl cp hcap hcm (hcw w1 hc1) k2).mono ?_
            rintro e w2 ⟨B, cc, rfl, hB, hcc, hm, hf2⟩
            rw [if_pos (by omega)] at hd
            rw [if_pos rfl] at hm
            have hf3 : DF (fun x => x = gm ∨ x = qm ∨ ∃ y ∈ ms, y.1 = x) w1 w2 := hf2.mono (fun x e => e.elim Or.inl (fun e => Or.inr (Or.inl e)))
            refine ⟨rfl, ⟨ms.set k (B, cc), _, cut - 1, pre, mc - 1, mp, false, hd.kept hf2 (fun e => e.elim h.gg h.gq) (fun e => e.elim h.qg h.qq) (fun x hx e => e.elim (fun e => h.hg (e ▸ hx)) (fun e => h.hq (e ▸ hx))), hm, h.nh, by rw [List.length_set]; exact h.nm, h.qq, fun p hp hq => ?_, by omega, fun e => (by cases e), fun _ => ⟨by omega, o2, by omega, by omega, o5, o6⟩⟩, ?_⟩
            · rcases List.mem_or_eq_of_mem_set hp with e | e
              · exact h.sep p e hq
              · have := hd.lt.2.2 _ hq; rw [e] at this; simp only at this; omega
            · exact (h.dbelow hf).trans (h.mbelow (Nat.le_trans h.size hf.size) hf3)
          | false =>
            have o1 := h.off rfl
            refine (model_write.ok (w := w1) (n := mc) (h.mkept hf) k rfl (fun e => by cases e) (by have := h.nb; omega) hkm (by omega) ⟨c, o, none⟩ bl cp hcap hcm (hcw w1 hc1) k2).mono ?_
            rintro e w2 ⟨B, cc, rfl, hB, hcc, hm, hf2⟩
            rw [if_neg (by omega)] at hd
            rw [if_neg (by decide)] at hm
            have hf3 : DF (fun x => x = gm ∨ x = qm ∨ ∃ y ∈ ms, y.1 = x) w1 w2 := hf2.mono (fun x e => e.elim Or.inl (fun e => Or.inr (Or.inl e)))
            refine ⟨rfl, ⟨ms.set k (B, cc), _, cut, pre, mc, mp, false, hd.kept hf2 (fun e => e.elim h.gg h.gq) (fun e => e.elim h.qg h.qq) (fun x hx e => e.elim (fun e => h.hg (e ▸ hx)) (fun e => h.hq (e ▸ hx))), hm, h.nh, by rw [List.length_set]; exact h.nm, h.qq, fun p hp hq => ?_, h.nb, fun _ => o1, fun e => (by cases e)⟩, ?_⟩
            · rcases List.mem_or_eq_of_mem_set hp with e | e
              · exact h.sep p e hq
              · have := hd.lt.2.2 _ hq; rw [e] at this; simp only at this; omega
            · exact (h.dbelow hf).trans (h.mbelow (Nat.le_trans h.size hf.size) hf3)
      · refine (disk_Write.size h.dk k hk rfl ⟨c, o, none⟩ bl cp hcap k2).mono ?_
        rintro e w1 ⟨rfl, ⟨nd, rfl⟩⟩
        refine ⟨41, rfl, ?_⟩
        refine (model_write.size (h.mo.drewN nd) k rfl hkm ⟨c, o, none⟩ bl cp hcap k2).mono ?_
        rintro e w2 ⟨rfl, ⟨nd2, rfl⟩⟩
        exact ⟨rfl, ⟨_, _, _, _, _, _, _, (h.drewN nd).drewN nd2⟩, (below_drewN' _ _ nd).trans (below_drewN' _ _ nd2)⟩
theorem PL.cut_ (h : PL W b gm qm cap s N g q hs ms bs cut pre mc mp dead armed) (hN : 1 ≤ N) (c p : Int) : Calls Try.prog 11 #[.pointer (some ⟨g, 0, none⟩), .int .i64 c, .int .i64 p] W fun e w1 => e = .returned (.tuple #[]) ∧ DK w1 b g q s hs bs (mx c 0) (mn (mx p 0) (s : Int)) dead ∧ MK w1 b gm qm cap s ms bs mc mp dead armed ∧ DF (fun k => k = g) W w1 := by
  refine (disk_Cut.calls h.dk (by rw [h.nh]; exact hN) c p).mono ?_
  rintro e w1 ⟨rfl, hd, hf⟩
  exact ⟨rfl, hd, h.mkept (hf.mono (fun _ e => Or.inl e)), hf⟩
theorem PL.cut_on {w1 : World} {c p : Int} (h : PL W b gm qm cap s N g q hs ms bs cut pre mc mp dead armed) (hd : DK w1 b g q s hs bs c p dead) (hm : MK w1 b gm qm cap s ms bs mc mp dead armed) (hc : 0 ≤ c ∧ c ≤ 6) (hp : 0 ≤ p ∧ p ≤ (s : Int)) : PL (((w1.setCell ⟨gm, 3, none⟩ (.bool true)).setCell ⟨gm, 4, none⟩ (.int .i64 c)).setCell ⟨gm, 5, none⟩ (.int .i64 p)) b gm qm cap s N g q hs ms bs c p c p dead true := ⟨hd.kept (S := fun x => x = gm) (((DF.refl (fun x => x = gm) w1).set (p := ⟨gm, 3, none⟩) rfl _).set (p := ⟨gm, 4, none⟩) rfl _ |>.set (p := ⟨gm, 5, none⟩) rfl _) h.gg h.qg (fun x hx e => h.hg (e ▸ hx)), ((hm.set3 true).set4 c).set5 p, h.nh, h.nm, h.qq, h.sep, by omega, fun e => (by cases e), fun _ => ⟨rfl, rfl, hc.1, hc.2, hp.1, hp.2⟩⟩
theorem PL.power_ (h : PL W b gm qm cap s N g q hs ms bs cut pre mc mp dead armed) : Calls Try.prog 18 #[.pointer (some ⟨g, 0, none⟩)] W fun e w1 => e = .returned (.tuple #[]) ∧ DK w1 b g q s hs bs (-1) pre false ∧ MK w1 b gm qm cap s ms bs mc mp dead armed ∧ DF (fun k => k = g) W w1 := by
  refine (disk_Power.calls h.dk).mono ?_
  rintro e w1 ⟨rfl, hd, hf⟩
  exact ⟨rfl, hd, h.mkept (hf.mono (fun _ e => Or.inl e)), hf⟩
theorem PL.power_off {w1 : World} (h : PL W b gm qm cap s N g q hs ms bs cut pre mc mp dead armed) (hd : DK w1 b g q s hs bs (-1) pre false) (hm : MK w1 b gm qm cap s ms bs mc mp dead armed) : PL ((w1.setCell ⟨gm, 2, none⟩ (.bool false)).setCell ⟨gm, 3, none⟩ (.bool false)) b gm qm cap s N g q hs ms bs (-1) pre mc mp false false := ⟨hd.kept (S := fun x => x = gm) (((DF.refl (fun x => x = gm) w1).set (p := ⟨gm, 2, none⟩) rfl _).set (p := ⟨gm, 3, none⟩) rfl _) h.gg h.qg (fun x hx e => h.hg (e ▸ hx)), (hm.set2 false).set3 false, h.nh, h.nm, h.qq, h.sep, h.nb, fun _ => rfl, fun e => (by cases e)⟩
theorem MK.cellAt {w : World} {k a : Nat} {p : Nat × Nat} {l : List Int} {y : Int} (hm : MK w b gm qm cap s ms bs mc mp dead armed) (hk : ms[k]? = some p) (hl : bs[k]? = some l) (hy : l[a]? = some y) : w.cell? ⟨p.1, a, none⟩ = some (.int .u8 y) ∧ w.frozen? ⟨p.1, a, none⟩ = false := by
  obtain ⟨h1, h2, cur, h3, h4⟩ := hm.each k p l hk hl
  refine ⟨(blk_cell h3 a).trans ?_, blk_frozen h3 a⟩
  have ha : a < s := by rw [← h1]; exact (List.getElem?_eq_some_iff.1 hy).1
  have e : (cur.toList.take s)[a]? = (l.map (Value.int .u8))[a]? := by rw [h4]
  rw [List.getElem?_take_of_lt ha, List.getElem?_map, hy] at e
  rw [← Array.getElem?_toList, e]
  rfl
theorem PL.spoiled {w1 : World} {k a : Nat} {p : Nat × Nat} {l : List Int} {z : Int} (h : PL W b gm qm cap s N g q hs ms bs cut pre mc mp dead armed) (hd : DK w1 b g q s hs (bs.set k (l.set a z)) cut pre dead) (hm : MK w1 b gm qm cap s ms bs mc mp dead armed) (hk : ms[k]? = some p) (hl : bs[k]? = some l) (ha : a < s) : PL (w1.setCell ⟨p.1, a, none⟩ (.int .u8 z)) b gm qm cap s N g q hs ms (bs.set k (l.set a z)) cut pre mc mp dead armed := by
  obtain ⟨h1, h2, cur, h3, h4⟩ := hm.each k p l hk hl
  have hp := List.mem_of_getElem? hk
  refine ⟨hd.kept (S := fun x => x = p.1) ((DF.refl (fun x => x = p.1) w1).set (p := ⟨p.1, a, none⟩) rfl _) (h.gp p hp) (h.qp p hp) (fun x hx e => h.sep p hp (e ▸ hx)), ?_, h.nh, h.nm, h.qq, h.sep, h.nb, h.off, h.on⟩
  rw [setCell_eq_setRow w1 p.1 a cur 5 (0, 0) _ h3]
  refine hm.rowL hk (by rw [List.length_set]; exact h1) ?_
  rw [Array.toList_setIfInBounds, List.take_set, h4, List.map_set]
/-- The blocks that one disk writes are none of the others. -/
def Aparts (g : Nat) (hs : List Nat) (g2 q2 : Nat) (hs2 : List Nat) (gm qm : Nat) (ms : List (Nat × Nat)) : Prop := ∀ x, (x = g ∨ x ∈ hs) → x ≠ g2 ∧ x ≠ q2 ∧ x ∉ hs2 ∧ x ≠ gm ∧ x ≠ qm ∧ ∀ p ∈ ms, p.1 ≠ x
theorem PL.copy_ (h : PL W b gm qm cap s N g q hs ms bs cut pre mc mp dead armed) (hz : s ≤ 65536) (hN : N ≤ 1000000) : Calls Try.prog 13 #[.pointer (some ⟨g, 0, none⟩)] W fun e w1 => ∃ g2 q2 hs2, e = .returned (.pointer (some ⟨g2, 0, none⟩)) ∧ PL w1 b gm qm cap s N g2 q2 hs2 ms bs cut pre mc mp dead armed ∧ DK w1 b g q s hs bs cut pre dead ∧ Aparts g hs g2 q2 hs2 gm qm ms ∧ Below W.heap.size W w1 := by
  refine (disk_Copy.calls h.dk hz (by rw [h.nh]; exact hN)).mono ?_
  rintro e w1 ⟨g2, q2, hs2, rfl, hd, hn, hb⟩
  have hl := h.dk.lt
  have hl2 := h.mo.lt
  have ho := hd.own
  refine ⟨g2, q2, hs2, rfl, ⟨hd.base_ h.size, h.mo.below hb, by rw [hn]; exact h.nh, h.nm, fun e => (by omega), fun p hp e => (by have := hl2.2.2 p hp; have := ho.2.2 _ e; omega), h.nb, h.off, h.on⟩, h.dk.below hb, fun x hx => ?_, hb⟩
  have hxl : x < W.heap.size := hx.elim (fun e => by rw [e]; exact hl.1) (fun e => hl.2.2 x e)
  refine ⟨fun e => (by omega), fun e => (by omega), fun e => (by have := ho.2.2 _ e; omega), ?_, ?_, fun p hp e => ?_⟩
  · exact hx.elim (fun e e2 => h.gg (e ▸ e2)) (fun e e2 => h.hg (e2 ▸ e))
  · exact hx.elim (fun e e2 => h.gq (e ▸ e2)) (fun e e2 => h.hq (e2 ▸ e))
  · exact hx.elim (fun e2 => h.gp p hp (e2 ▸ e.symm)) (fun e2 => h.sep p hp (e.symm ▸ e2))
theorem PL.scrapped {w1 : World} {g2 : Nat} {hs2 : List Nat} (h : PL W b gm qm cap s N g q hs ms bs cut pre mc mp dead armed) (hap : Aparts g2 hs2 g q hs gm qm ms) (hf : DF (fun k => k = g2 ∨ k ∈ hs2) W w1) : PL w1 b gm qm cap s N g q hs ms bs cut pre mc mp dead armed := h.kept hf (fun e => (hap _ e).1 rfl) (fun e => (hap _ e).2.1 rfl) (fun x hx e => (hap _ e).2.2.1 hx) (fun e => (hap _ e).2.2.2.1 rfl) (fun e => (hap _ e).2.2.2.2.1 rfl) (fun p hp e => (hap _ e).2.2.2.2.2 p hp rfl)
theorem DK.dbelow {w w1 : World} {base g h s : Nat} {hs : List Nat} {bs : List (List Int)} {cut pre : Int} {dead : Bool} (hd : DK w base g h s hs bs cut pre dead) (hf : DF (fun k => k = g ∨ k ∈ hs) w w1) : Below base w w1 := below_of_df hf (by have h1 := hd.own.1; have h2 := hd.lt.1; omega) (fun x e => e.elim (fun e => e ▸ hd.own.1) (fun e => hd.own.2.2 x e))
theorem PL.scrap {g2 q2 c : Nat} {hs2 : List Nat} {bl : List Int} (h : PL W b gm qm cap s N g q hs ms bs cut pre mc mp dead armed) (hd : DK W b g2 q2 s hs2 bs cut pre dead) (hap : Aparts g2 hs2 g q hs gm qm ms) (hN : 1 ≤ hs2.length) (hc : W.heap[c]? = some (.cells (dkB bl) 5 (0, 0))) (hl : bl.length = s) (hfr : c ∉ hs2) :
    Calls Try.prog 10 #[.pointer (some ⟨g2, 0, none⟩), .int .i64 0, .slice (some ⟨c, 0, none⟩) s s] W fun e w1 => ∃ r : Int, e = .returned (.int .i64 r) ∧ PL w1 b gm qm cap s N g q hs ms bs cut pre mc mp dead armed ∧ (∃ bs' cut' pre' dead', DK w1 b g2 q2 s hs2 bs' cut' pre' dead') ∧ Below b W w1 := by
  have hcg : c ≠ g2 := blk_ne hc hd.top (by decide)
  have hcell : ∀ (j : Nat) (x : Int), bl[j]? = some x → W.cell? ((⟨c, 0, none⟩ : Addr).add j) = some (.int .u8 x) := fun j x hx => by rw [add_at]; exact (blk_cell hc j).trans (dkB_get hx)
  rw [show (Value.slice (some ⟨c, 0, none⟩) s s) = Value.slice (some ⟨c, 0, none⟩) bl.length bl.length by rw [hl]]
  cases hdd : dead with
  | true =>
    subst hdd
    have e1 : dkAt hs2.length true 0 = 42 := rfl
    refine (disk_Write.refused hd 0 (by rw [e1]; decide) ⟨c, 0, none⟩ bl bl.length (Nat.le_refl _)).mono ?_
    rintro e w1 ⟨rfl, ⟨nd, rfl⟩⟩
    exact ⟨42, by rw [e1], h.drewN nd, ⟨_, _, _, _, hd.drewN nd⟩, below_drewN' _ _ nd⟩
  | false =>
    subst hdd
    obtain ⟨l0, hl0⟩ : ∃ l0, bs[0]? = some l0 := ⟨bs[0]'(by rw [hd.len]; exact hN), List.getElem?_eq_getElem _⟩
    by_cases k3 : cut = 0
    · cases armed with
      | false => have := h.off rfl; omega
      | true =>
        obtain ⟨o1, o2, o3, o4, o5, o6⟩ := h.on rfl
        obtain ⟨p, hp⟩ : ∃ p : Nat, pre = (p : Int) := ⟨pre.toNat, by omega⟩
        refine (disk_Write.fell hd 0 p l0 hN hl0 rfl ⟨c, 0, none⟩ bl bl.length (Nat.le_refl _) hcell hl k3 hp (by omega) hcg).mono ?_
        rintro e w1 ⟨rfl, hd2, hf⟩
        exact ⟨42, rfl, h.scrapped hap hf, ⟨_, _, _, _, hd2⟩, hd.dbelow hf⟩
    · refine (disk_Write.ok hd 0 hN rfl ⟨c, 0, none⟩ bl bl.length (Nat.le_refl _) hcell hl k3 (by cases armed with | true => obtain ⟨o1, o2, o3, o4, o5, o6⟩ := h.on rfl; omega | false => have := h.off rfl; omega) hcg).mono ?_
      rintro e w1 ⟨rfl, hd2, hf⟩
      exact ⟨0, rfl, h.scrapped hap hf, ⟨_, _, _, _, hd2⟩, hd.dbelow hf⟩
theorem PL.scrap_power {g2 q2 : Nat} {hs2 : List Nat} {bs2 : List (List Int)} {cut2 pre2 : Int} {dead2 : Bool} (h : PL W b gm qm cap s N g q hs ms bs cut pre mc mp dead armed) (hd : DK W b g2 q2 s hs2 bs2 cut2 pre2 dead2) (hap : Aparts g2 hs2 g q hs gm qm ms) :
    Calls Try.prog 18 #[.pointer (some ⟨g2, 0, none⟩)] W fun e w1 => e = .returned (.tuple #[]) ∧ PL w1 b gm qm cap s N g q hs ms bs cut pre mc mp dead armed ∧ Below b W w1 := by
  refine (disk_Power.calls hd).mono ?_
  rintro e w1 ⟨rfl, hd2, hf⟩
  have hf2 : DF (fun k => k = g2 ∨ k ∈ hs2) W w1 := hf.mono (fun _ e => Or.inl e)
  exact ⟨rfl, h.scrapped hap hf2, hd.dbelow hf2⟩
end
end Go.Proofs.Ytgeggcifhojpmaa.PA
