/- Texts of this claim, merged: RwTs, PBx29, PBx31, SpecSum, FU, FU2, SumEqO, FI, PBx41, FR, FB, RwPp, PBx40, FE, PBx33, PBx4, PBx21, FV, RwSg, RwIpOk, RwMd, RwCgU, RwLkU, RwPtU, RwKeeps, RwAgg. -/
import Derived.Test.YtkmimamminddiaaZke
import Derived.Test.YtkmimamminddiaaZkc
import Derived.Test.YtkmimamminddiaaZkb
import Derived.Test.YtkmimamminddiaaZkd
import Derived.Deep.Cut
import Derived.Deep.CutRange
import Derived.Deep.CutBlock
import Derived.Deep.WholeRow
import Derived.Test.YtkmimamminddiaaZka
import Derived.Test.YtkmimamminddiaaChecked
import Derived.OpenShut
import Derived.ChangeArms
set_option maxHeartbeats 40000000
set_option maxRecDepth 100000
/- Plain: segments' sums. -/
namespace Go.Proofs.Ytkmimamminddiaa.Pure
set_option linter.unusedVariables false
set_option linter.unusedSimpArgs false
open Go.RowKit Go.Proofs.Ytkmimamminddiaa.PB Go.Proofs.YtkmimamminddiaaW.PrintWords Go.Proofs.YtkmimamminddiaaW.PrintLast
open Go.Proofs.Ytkmimamminddiaa.Spec Go.Proofs.Ytkmimamminddiaa.BytesEq
def tT (a b : Int) (x : List Int) : Int := norm (a / 65536 + a % 65536 + b / 65536 + b % 65536 + 6 + (x.length : Int) % 65536) + isum (words x)
theorem tT_nonneg {a b : Int} {x : List Int} (ha : 0 ≤ a) (hb : 0 ≤ b) (h : IsB x) : 0 ≤ tT a b x := by
 have h1 := norm_range (a / 65536 + a % 65536 + b / 65536 + b % 65536 + 6 + (x.length : Int) % 65536) (by omega)
 have h2 := isum_nonneg _ (words_isW x h)
 unfold tT
 omega
theorem tbytes_isB {s d q k f w c u : Int} {o l : List Int} (hf : 0 ≤ f ∧ f ≤ 255) (ho : IsB o) (hl : IsB l) : IsB (tbytes s d q k f w c u o l) := (thead_isB hf).append (ho.append hl)
theorem tbytes_length (s d q k f w c u : Int) (o l : List Int) : (tbytes s d q k f w c u o l).length = 20 + o.length + l.length := by
 unfold tbytes
 rw [List.length_append, List.length_append, thead_length]
 omega
section
variable {a b s d q k f w c u : Int} {o l : List Int}
theorem tout_ok (h4 : (o.length : Int) % 4 = 0) (h40 : (o.length : Int) ≤ 40) (hl : (l.length : Int) ≤ 3000) : tout s d q k f w c u o l = (tbytes s d q k f w c u o l, 0) := by
 unfold tout
 rw [if_neg (by omega), if_neg (by omega)]
theorem tfold (ha : 0 ≤ a ∧ a ≤ 4294967295) (hb : 0 ≤ b ∧ b ≤ 4294967295) {x : List Int} (hx : IsB x) (hl : x.length ≤ 3100) (K : Nat) (hK : 4000 ≤ K) : ((sum_Pseudo.f K a b 6 (x.length : Int)).bind fun t => (sum_Add.f K t x).bind fun t2 => sum_Fold.f K t2) = some (norm (tT a b x)) ∧ ((lychref1_Pseudo.f K a b 6 (x.length : Int)).bind fun t => (lychref1_Add.f K t x).bind fun t2 => lychref1_Fold.f K t2) = some (norm (tT a b x)) := by
 have hp := norm_range (a / 65536 + a % 65536 + b / 65536 + b % 65536 + 6 + (x.length : Int) % 65536) (by omega)
 have hr := addw_range (words x) _ hp.1 (by omega) (words_isW _ hx)
 have hn := norm_addw (words x) _ hp.1 (by omega) (words_isW _ hx)
 constructor
 ·rw [SumEq.pseudo_eq a b 6 _ ha hb (by omega) K (by omega), Option.bind_some, SumEq.add_eq _ _ hx (by omega) hp.1 (by omega) K (by omega), Option.bind_some, SumEq.fold_eq _ hr.1 hr.2 K (by omega), hn]
  rfl
 ·rw [SumEq.rpseudo_eq a b 6 _ ha hb (by omega) K (by omega), Option.bind_some, SumEq.radd_eq _ _ hx (by omega) hp.1 (by omega) K (by omega), Option.bind_some, SumEq.rfold_eq _ hr.1 hr.2 K (by omega), hn]
  rfl
theorem rtsum_eq (ha : 0 ≤ a ∧ a ≤ 4294967295) (hb : 0 ≤ b ∧ b ≤ 4294967295) (hf : 0 ≤ f ∧ f ≤ 255) (ho : IsB o) (h4 : (o.length : Int) % 4 = 0) (h40 : (o.length : Int) ≤ 40) (h : IsB l) (hl : (l.length : Int) ≤ 3000) (K : Nat) (hK : 4000 ≤ K) : lychref1_TcpSum.f K a b s d q k f w c u o l = some (65535 - norm (tT a b (tbytes s d q k f w 0 u o l))) := by
 have hL := tbytes_length s d q k f w 0 u o l
 have hn := norm_range _ (tT_nonneg ha.1 hb.1 (tbytes_isB (s := s) (d := d) (q := q) (k := k) (w := w) (c := 0) (u := u) hf ho h))
 obtain ⟨x, hx⟩ : ∃ x, x = tbytes s d q k f w 0 u o l := ⟨_, rfl⟩
 have hB : IsB x := by rw [hx]; exact tbytes_isB hf ho h
 have h1 := (tfold ha hb hB (by rw [hx]; omega) K hK).2
 unfold lychref1_TcpSum.f
 rw [← hx] at hn ⊢
 rw [rtbytes_eq (by omega) (by omega) K (by omega), tout_ok h4 h40 hl, ← hx, Option.bind_some]
 obtain ⟨t1, e1, h1⟩ := Option.bind_eq_some_iff.1 h1
 obtain ⟨t2, e2, h1⟩ := Option.bind_eq_some_iff.1 h1
 dsimp only
 rw [if_pos rfl, e1, Option.bind_some, e2, Option.bind_some, h1, Option.bind_some, show (IntKind.u16.max : Int) = 65535 from rfl, not_u16 hn.1 hn.2]
end
end Go.Proofs.Ytkmimamminddiaa.Pure
namespace Go.Proofs.Ytkmimamminddiaa.PB
open Go.RowKit Go.Proofs.YtkmimamminddiaaW.PrintWords Go.Proofs.YtkmimamminddiaaW.PrintLast Go.Proofs.YtkmimamminddiaaW.PrintMore
attribute [local go_sem] max2_int min2_int max_two min_two max_three min_three max_four min_four   -- for this text's walks alone
set_option linter.unusedVariables false
set_option linter.unusedSimpArgs false
def lychref1_UdpRight.f (k : Nat) (a0 : Int) (a1 : Int) (a2_0 : Int) (a2_1 : Int) (a2_2 : Int) (l2_3 : List Int) : Option (Bool) := if a2_2 = 0 then (some true) else ((lychref1_UdpBytes.f a2_0 a2_1 a2_2 l2_3).bind fun bt397 => (if bt397.2 = 0 then ((lychref1_Pseudo.f k a0 a1 17 (bt397.1.length : Int)).bind fun t401 => ((lychref1_Add.f k t401 bt397.1).bind fun t402 => ((lychref1_Fold.f k t402).bind fun t403 => (some (t403 == 65535))))) else (some false)))
theorem lychref1_UdpRight.calls (k : Nat) (a0 : Int) (a1 : Int) (a2_0 : Int) (a2_1 : Int) (a2_2 : Int) (A2_3 : Option Addr) (c2_3 : Nat) (l2_3 : List Int) (r : Bool) (w : World) (hr2_3 : Kd.C (Kd.int .u8) w A2_3 l2_3.length l2_3) (hc2_3 : l2_3.length ≤ c2_3) (h : lychref1_UdpRight.f k a0 a1 a2_0 a2_1 a2_2 l2_3 = some r) :
  Calls Try.prog 40 #[.int .u32 a0, .int .u32 a1, .agg #[.int .u16 a2_0, .int .u16 a2_1, .int .u16 a2_2, .slice A2_3 l2_3.length c2_3]] w fun e w' => e = .returned (.bool r) ∧ Below w.heap.size w w' := by
 have hu83 := Try.underlying83
 have HR2_3 := Aside0.mk hr2_3
 have HC2_3 := Aside0.mk hc2_3
 clear hr2_3 hc2_3
 have HB := Aside0.mk (Below.refl w.heap.size w)
 have H : (if a2_2 = 0 then (some true) else ((lychref1_UdpBytes.f a2_0 a2_1 a2_2 l2_3).bind fun bt397 => (if bt397.2 = 0 then ((lychref1_Pseudo.f k a0 a1 17 (bt397.1.length : Int)).bind fun t401 => ((lychref1_Add.f k t401 bt397.1).bind fun t402 => ((lychref1_Fold.f k t402).bind fun t403 => (some (t403 == 65535))))) else (some false)))) = some r := h
 clear h
 by_cases c4 : a2_2 = 0
 ·rw [if_pos c4] at H
  have c4b0 : (a2_2 == 0) = true := beq_iff_eq.mpr c4
  have c4b1 : (a2_2 != 0) = false := bne_eq_false_iff_eq.mpr c4
  clear c4
  obtain rfl := Option.some.inj H
  go_enter Try.func40, Try.ntmps40
  go_wp2_with (first | ((with_reducible refine gate_dst (N := 5) rfl ?_); (try (refine gate_guard (by rfl) ?_; dsimp only)); refine box_event ?hg (N := 5) ?hd (cs := #[.int .u16 a2_0, .int .u16 a2_1, .int .u16 a2_2, .slice A2_3 l2_3.length c2_3]) (t := 83) ?hr ?_; (case hd => rfl); (case hg => rfl); (case hr => first | (go_simp; done) | (go_simp; rfl)); intro gb396 hg w5 hbox hb; have n0_ := Aside0.mk (below_step (bz HB) hb); have n1_ := Aside0.mk (hbox); have n2_ := Aside0.mk ((by rw [hg]; exact (below_size (bz HB)) : w.heap.size ≤ gb396)); have n3_ := Aside0.mk ((by rw [hg]; exact (below_size (bz HB)) : w.heap.size ≤ gb396)); clear HB; have HB := n0_; have BK396 := n1_; have GW396 := n2_; have GE396 := n3_; clear n0_ n1_ n2_ n3_; clear hb hbox hg; have hcz6_0 : w5.cell? ⟨gb396, 0, none⟩ = some (.int .u16 a2_0) := cz BK396.out 0 rfl; have hcz6_1 : w5.cell? ⟨gb396, 1, none⟩ = some (.int .u16 a2_1) := cz BK396.out 1 rfl; have hcz6_2 : w5.cell? ⟨gb396, 2, none⟩ = some (.int .u16 a2_2) := cz BK396.out 2 rfl; have hcz6_3 : w5.cell? ⟨gb396, 3, none⟩ = some (.slice A2_3 l2_3.length c2_3) := cz BK396.out 3 rfl; have hfz6_0 := blk_frozen BK396.out 0; have hfz6_1 := blk_frozen BK396.out 1; have hfz6_2 := blk_frozen BK396.out 2; have hfz6_3 := blk_frozen BK396.out 3))
  go_ret
  exact ⟨by first | rfl | (simp [errW_none, errW_some] <;> rfl) | (simp [*, errW_none, errW_some] <;> rfl), bz HB⟩
 ·rw [if_neg c4] at H
  have c4b0 : (a2_2 == 0) = false := beq_eq_false_iff_ne.mpr c4
  have c4b1 : (a2_2 != 0) = true := bne_iff_ne.mpr c4
  replace H := Option.bind_eq_some_iff.mp H
  obtain ⟨⟨t397, t400⟩, A70, H⟩ := H
  replace H : (if t400 = 0 then ((lychref1_Pseudo.f k a0 a1 17 (t397.length : Int)).bind fun t401 => ((lychref1_Add.f k t401 t397).bind fun t402 => ((lychref1_Fold.f k t402).bind fun t403 => (some (t403 == 65535))))) else (some false)) = some r := H
  have A7 := Aside0.mk A70
  clear A70
  by_cases c8 : t400 = 0
  ·rw [if_pos c8] at H
   have c8b0 : (t400 == 0) = true := beq_iff_eq.mpr c8
   have c8b1 : (t400 != 0) = false := bne_eq_false_iff_eq.mpr c8
   clear c8
   replace H := Option.bind_eq_some_iff.mp H
   obtain ⟨t401, A90, H⟩ := H
   replace H : ((lychref1_Add.f k t401 t397).bind fun t402 => ((lychref1_Fold.f k t402).bind fun t403 => (some (t403 == 65535)))) = some r := H
   have A9 := Aside0.mk A90
   clear A90
   replace H := Option.bind_eq_some_iff.mp H
   obtain ⟨t402, A100, H⟩ := H
   replace H : ((lychref1_Fold.f k t402).bind fun t403 => (some (t403 == 65535))) = some r := H
   have A10 := Aside0.mk A100
   clear A100
   replace H := Option.bind_eq_some_iff.mp H
   obtain ⟨t403, A110, H⟩ := H
   replace H : (some (t403 == 65535)) = some r := H
   have A11 := Aside0.mk A110
   clear A110
   obtain rfl := Option.some.inj H
   go_enter Try.func40, Try.ntmps40
   go_wp2_with (first | ((with_reducible refine gate_dst (N := 5) rfl ?_); (try (refine gate_guard (by rfl) ?_; dsimp only)); refine box_event ?hg (N := 5) ?hd (cs := #[.int .u16 a2_0, .int .u16 a2_1, .int .u16 a2_2, .slice A2_3 l2_3.length c2_3]) (t := 83) ?hr ?_; (case hd => rfl); (case hg => rfl); (case hr => first | (go_simp; done) | (go_simp; rfl)); intro gb396 hg w12 hbox hb; have n0_ := Aside0.mk (below_step (bz HB) hb); have n1_ := Aside0.mk (hbox); have n2_ := Aside0.mk ((by rw [hg]; exact (below_size (bz HB)) : w.heap.size ≤ gb396)); have n3_ := Aside0.mk ((by rw [hg]; exact (below_size (bz HB)) : w.heap.size ≤ gb396)); clear HB; have HB := n0_; have BK396 := n1_; have GW396 := n2_; have GE396 := n3_; clear n0_ n1_ n2_ n3_; clear hb hbox hg; have hcz13_0 : w12.cell? ⟨gb396, 0, none⟩ = some (.int .u16 a2_0) := cz BK396.out 0 rfl; have hcz13_1 : w12.cell? ⟨gb396, 1, none⟩ = some (.int .u16 a2_1) := cz BK396.out 1 rfl; have hcz13_2 : w12.cell? ⟨gb396, 2, none⟩ = some (.int .u16 a2_2) := cz BK396.out 2 rfl; have hcz13_3 : w12.cell? ⟨gb396, 3, none⟩ = some (.slice A2_3 l2_3.length c2_3) := cz BK396.out 3 rfl; have hfz13_0 := blk_frozen BK396.out 0; have hfz13_1 := blk_frozen BK396.out 1; have hfz13_2 := blk_frozen BK396.out 2; have hfz13_3 := blk_frozen BK396.out 3) | ((with_reducible refine gate_callee (f := 48) rfl ?_); refine gL 14 Try.func48 #[.agg #[.int .u16 a2_0, .int .u16 a2_1, .int .u16 a2_2, .slice A2_3 l2_3.length c2_3]] ?_; (with_reducible refine (lychref1_UdpBytes.calls a2_0 a2_1 a2_2 _ _ l2_3 t397 t400 _ ?side1 ?side2 A7.out).mono ?_); (case side1 => exact Kd.C_below HR2_3.out (bz HB)); (case side2 => exact HC2_3.out); rintro e w14 ⟨v398, rfl, ho0, hb⟩; refine ⟨_, rfl, ?_⟩; have n0_ := Aside0.mk (Kd.R_lower ho0 (below_size (bz HB))); have n1_ := Aside0.mk (blk_below (kz BK396) hb); have n2_ := Aside0.mk (below_step (bz HB) hb); clear BK396; clear HB; have HO399 := n0_; have BK396 := n1_; have HB := n2_; clear n0_ n1_ n2_; (try clear hb); (try clear hb2); (try clear hk); (try clear hi); (try clear ho0); obtain ⟨Ao15, co15, eo15⟩ := Kd.R_slice HO399.out; subst eo15) | (go_at_call 82; (with_reducible refine (lychref1_Pseudo.calls k a0 a1 17 (t397.length : Int) t401 _ A9.out).mono ?_); rintro e w' ⟨rfl, ⟨nd, rfl⟩⟩) | (go_at_call 80; (with_reducible refine (lychref1_Add.calls k t401 _ _ t397 t402 _ ?side1 ?side2 A10.out).mono ?_); (case side1 => repeat (first | exact (Kd.R_reads' HO399.out).2.2 | (with_reducible refine Kd.C_alloc ?_ _) | (with_reducible refine Kd.C_drewN ?_ _) | (with_reducible refine Kd.C_drew ?_))); (case side2 => exact (Kd.R_reads' HO399.out).2.1); rintro e w16 ⟨rfl, hb⟩; have n0_ := Aside0.mk (Kd.R_below (Kd.rz HO399) hb); have n1_ := Aside0.mk (blk_below (kz BK396) hb); have n2_ := Aside0.mk (below_step (bz HB) hb); clear HO399; clear BK396; clear HB; have HO399 := n0_; have BK396 := n1_; have HB := n2_; clear n0_ n1_ n2_; (try clear hb); (try clear hb2); (try clear hk); (try clear hi)) | (go_at_call 79; (with_reducible refine (lychref1_Fold.calls k t402 t403 _ A11.out).mono ?_); rintro e w' ⟨rfl, ⟨nd, rfl⟩⟩))
   go_ret
   exact ⟨by first | rfl | (simp [errW_none, errW_some] <;> rfl) | (simp [*, errW_none, errW_some] <;> rfl), bz HB⟩
  ·rw [if_neg c8] at H
   have c8b0 : (t400 == 0) = false := beq_eq_false_iff_ne.mpr c8
   have c8b1 : (t400 != 0) = true := bne_iff_ne.mpr c8
   obtain rfl := Option.some.inj H
   go_enter Try.func40, Try.ntmps40
   go_wp2_with (first | ((with_reducible refine gate_dst (N := 5) rfl ?_); (try (refine gate_guard (by rfl) ?_; dsimp only)); refine box_event ?hg (N := 5) ?hd (cs := #[.int .u16 a2_0, .int .u16 a2_1, .int .u16 a2_2, .slice A2_3 l2_3.length c2_3]) (t := 83) ?hr ?_; (case hd => rfl); (case hg => rfl); (case hr => first | (go_simp; done) | (go_simp; rfl)); intro gb396 hg w17 hbox hb; have n0_ := Aside0.mk (below_step (bz HB) hb); have n1_ := Aside0.mk (hbox); have n2_ := Aside0.mk ((by rw [hg]; exact (below_size (bz HB)) : w.heap.size ≤ gb396)); have n3_ := Aside0.mk ((by rw [hg]; exact (below_size (bz HB)) : w.heap.size ≤ gb396)); clear HB; have HB := n0_; have BK396 := n1_; have GW396 := n2_; have GE396 := n3_; clear n0_ n1_ n2_ n3_; clear hb hbox hg; have hcz18_0 : w17.cell? ⟨gb396, 0, none⟩ = some (.int .u16 a2_0) := cz BK396.out 0 rfl; have hcz18_1 : w17.cell? ⟨gb396, 1, none⟩ = some (.int .u16 a2_1) := cz BK396.out 1 rfl; have hcz18_2 : w17.cell? ⟨gb396, 2, none⟩ = some (.int .u16 a2_2) := cz BK396.out 2 rfl; have hcz18_3 : w17.cell? ⟨gb396, 3, none⟩ = some (.slice A2_3 l2_3.length c2_3) := cz BK396.out 3 rfl; have hfz18_0 := blk_frozen BK396.out 0; have hfz18_1 := blk_frozen BK396.out 1; have hfz18_2 := blk_frozen BK396.out 2; have hfz18_3 := blk_frozen BK396.out 3) | ((with_reducible refine gate_callee (f := 48) rfl ?_); refine gL 14 Try.func48 #[.agg #[.int .u16 a2_0, .int .u16 a2_1, .int .u16 a2_2, .slice A2_3 l2_3.length c2_3]] ?_; (with_reducible refine (lychref1_UdpBytes.calls a2_0 a2_1 a2_2 _ _ l2_3 t397 t400 _ ?side1 ?side2 A7.out).mono ?_); (case side1 => exact Kd.C_below HR2_3.out (bz HB)); (case side2 => exact HC2_3.out); rintro e w19 ⟨v398, rfl, ho0, hb⟩; refine ⟨_, rfl, ?_⟩; have n0_ := Aside0.mk (Kd.R_lower ho0 (below_size (bz HB))); have n1_ := Aside0.mk (blk_below (kz BK396) hb); have n2_ := Aside0.mk (below_step (bz HB) hb); clear BK396; clear HB; have HO399 := n0_; have BK396 := n1_; have HB := n2_; clear n0_ n1_ n2_; (try clear hb); (try clear hb2); (try clear hk); (try clear hi); (try clear ho0)))
   go_ret
   exact ⟨by first | rfl | (simp [errW_none, errW_some] <;> rfl) | (simp [*, errW_none, errW_some] <;> rfl), bz HB⟩
def lychref1_Udp.f (l0 : List Int) : Option (Int × Int × Int × List Int × Int) := if (l0.length : Int) < 8 then (some (0, 0, 0, ([] : List Int), 20)) else ((lychref1_Get16.f l0 4).bind fun t411 => (if (wrap64 (t411)) < 8 then (some (0, 0, 0, ([] : List Int), 21)) else (if (l0.length : Int) < (wrap64 (t411)) then (some (0, 0, 0, ([] : List Int), 20)) else ((lychref1_Get16.f l0 0).bind fun t412 => ((lychref1_Get16.f l0 2).bind fun t413 => ((lychref1_Get16.f l0 6).bind fun t414 => ((lychref1_cut.f l0 8 (wrap64 (t411))).bind fun t415 => (some (t412, t413, t414, t415, 0)))))))))
theorem lychref1_Udp.calls (A0 : Option Addr) (c0 : Nat) (l0 : List Int) (r1 : Int) (r2 : Int) (r3 : Int) (r4 : List Int) (r5 : Int) (w : World) (hr0 : Kd.C (Kd.int .u8) w A0 l0.length l0) (hc0 : l0.length ≤ c0) (h : lychref1_Udp.f l0 = some (r1, r2, r3, r4, r5)) :
  Calls Try.prog 39 #[.slice A0 l0.length c0] w fun e w' => ∃ v3_ : Value, e = .returned (.tuple #[.agg #[.int .u16 r1, .int .u16 r2, .int .u16 r3, v3_], .int .i64 r5]) ∧ Kd.R (Kd.int .u8) 5 w' w.heap.size (fun _ => True) v3_ r4 ∧ Below w.heap.size w w' := by
 have hu83 := Try.underlying83
 have HR0 := Aside0.mk hr0
 have HC0 := Aside0.mk hc0
 clear hr0 hc0
 have HB := Aside0.mk (Below.refl w.heap.size w)
 have H : (if (l0.length : Int) < 8 then (some (0, 0, 0, ([] : List Int), 20)) else ((lychref1_Get16.f l0 4).bind fun t411 => (if (wrap64 (t411)) < 8 then (some (0, 0, 0, ([] : List Int), 21)) else (if (l0.length : Int) < (wrap64 (t411)) then (some (0, 0, 0, ([] : List Int), 20)) else ((lychref1_Get16.f l0 0).bind fun t412 => ((lychref1_Get16.f l0 2).bind fun t413 => ((lychref1_Get16.f l0 6).bind fun t414 => ((lychref1_cut.f l0 8 (wrap64 (t411))).bind fun t415 => (some (t412, t413, t414, t415, 0)))))))))) = some (r1, r2, r3, r4, r5) := h
 clear h
 by_cases c2 : (l0.length : Int) < 8
 ·rw [if_pos c2] at H
  have c2b0 : decide ((l0.length : Int) < 8) = true := decide_eq_true c2
  have c2b1 : decide (l0.length < 8) = true := decide_eq_true (by omega)
  clear c2
  simp only [Option.some.injEq, Prod.mk.injEq] at H
  obtain ⟨rfl, rfl, rfl, rfl, rfl⟩ := H
  go_enter Try.func39, Try.ntmps39
  go_wp2_with (first | ((with_reducible refine gate_dst (N := 2) rfl ?_); refine box_event ?hg (N := 2) ?hd (cs := #[.int .u16 0, .int .u16 0, .int .u16 0, .slice none 0 0]) (t := 83) ?hr ?_; (case hd => rfl); (case hg => rfl); (case hr => first | (go_simp; done) | (go_simp; rfl)); intro gb410 hg w3 hbox hb; have n0_ := Aside0.mk (below_step (bz HB) hb); have n1_ := Aside0.mk (hbox); have n2_ := Aside0.mk ((by rw [hg]; exact (below_size (bz HB)) : w.heap.size ≤ gb410)); have n3_ := Aside0.mk ((by rw [hg]; exact (below_size (bz HB)) : w.heap.size ≤ gb410)); clear HB; have HB := n0_; have BK410 := n1_; have GW410 := n2_; have GE410 := n3_; clear n0_ n1_ n2_ n3_; clear hb hbox hg; have hcz4_0 : w3.cell? ⟨gb410, 0, none⟩ = some (.int .u16 0) := cz BK410.out 0 rfl; have hcz4_1 : w3.cell? ⟨gb410, 1, none⟩ = some (.int .u16 0) := cz BK410.out 1 rfl; have hcz4_2 : w3.cell? ⟨gb410, 2, none⟩ = some (.int .u16 0) := cz BK410.out 2 rfl; have hcz4_3 : w3.cell? ⟨gb410, 3, none⟩ = some (.slice none 0 0) := cz BK410.out 3 rfl; have hfz4_0 := blk_frozen BK410.out 0; have hfz4_1 := blk_frozen BK410.out 1; have hfz4_2 := blk_frozen BK410.out 2; have hfz4_3 := blk_frozen BK410.out 3))
  refine bodyPost_ret (results_ct rfl _ _ gb410 83 #[.int .u16 0, .int .u16 0, .int .u16 0, .slice none 0 0] (0, 0) _ rfl (by (repeat (first | with_reducible refine blk_drewN ?_ _ | with_reducible refine blk_drew ?_ | with_reducible refine blk_alloc ?_ _ | refine blk_put (cs := #[.int .u16 0, .int .u16 0, .int .u16 0, .slice none 0 0]) ?_ _ _ rfl)); (with_reducible repeat (first | refine blk_drewN ?_ _ | refine blk_drew ?_ | refine blk_alloc ?_ _)); exact BK410.out) Try.underlying83 rfl (by kernel_rfl)) rfl ?_
  exact ⟨_, by first | rfl | (simp [errW_none, errW_some] <;> rfl) | (simp [*, errW_none, errW_some] <;> rfl), by first | exact Kd.R_nil _ _ _ _ _ | exact Kd.N_nil _ _ _ _ _ | exact Kd.V_nil _ _ _ _ _ | exact Kd.Q_nil _ _ _ _ _ | exact Kd.S_nil _ _ _ _ _, bz HB⟩
 ·rw [if_neg c2] at H
  have c2b0 : decide ((l0.length : Int) < 8) = false := decide_eq_false c2
  have c2b1 : decide (l0.length < 8) = false := decide_eq_false (by omega)
  clear c2
  replace H := Option.bind_eq_some_iff.mp H
  obtain ⟨t411, A50, H⟩ := H
  replace H : (if (wrap64 (t411)) < 8 then (some (0, 0, 0, ([] : List Int), 21)) else (if (l0.length : Int) < (wrap64 (t411)) then (some (0, 0, 0, ([] : List Int), 20)) else ((lychref1_Get16.f l0 0).bind fun t412 => ((lychref1_Get16.f l0 2).bind fun t413 => ((lychref1_Get16.f l0 6).bind fun t414 => ((lychref1_cut.f l0 8 (wrap64 (t411))).bind fun t415 => (some (t412, t413, t414, t415, 0)))))))) = some (r1, r2, r3, r4, r5) := H
  have A5 := Aside0.mk A50
  clear A50
  by_cases c6 : (wrap64 (t411)) < 8
  ·rw [if_pos c6] at H
   have c6b0 : decide ((wrap64 (t411)) < 8) = true := decide_eq_true c6
   clear c6
   simp only [Option.some.injEq, Prod.mk.injEq] at H
   obtain ⟨rfl, rfl, rfl, rfl, rfl⟩ := H
   go_enter Try.func39, Try.ntmps39
   go_wp2_with (first | ((with_reducible refine gate_dst (N := 2) rfl ?_); refine box_event ?hg (N := 2) ?hd (cs := #[.int .u16 0, .int .u16 0, .int .u16 0, .slice none 0 0]) (t := 83) ?hr ?_; (case hd => rfl); (case hg => rfl); (case hr => first | (go_simp; done) | (go_simp; rfl)); intro gb410 hg w7 hbox hb; have n0_ := Aside0.mk (below_step (bz HB) hb); have n1_ := Aside0.mk (hbox); have n2_ := Aside0.mk ((by rw [hg]; exact (below_size (bz HB)) : w.heap.size ≤ gb410)); have n3_ := Aside0.mk ((by rw [hg]; exact (below_size (bz HB)) : w.heap.size ≤ gb410)); clear HB; have HB := n0_; have BK410 := n1_; have GW410 := n2_; have GE410 := n3_; clear n0_ n1_ n2_ n3_; clear hb hbox hg) | ((with_reducible refine gate_callee (f := 64) rfl ?_); refine gL 10 Try.func64 #[.slice A0 l0.length c0, .int .i64 4] ?_; (with_reducible refine (lychref1_Get16.calls _ _ l0 4 t411 _ ?side1 ?side2 A5.out).mono ?_); (case side1 => exact Kd.C_below HR0.out (bz HB)); (case side2 => exact HC0.out); rintro e w' ⟨rfl, ⟨nd, rfl⟩⟩; refine ⟨_, rfl, ?_⟩; (try (rw [drewN_self w7]; generalize hq_ : World.drewN w7 _ = w7; have n0_ : Aside0 (w7.heap[gb410]? = some (.cells #[.int .u16 0, .int .u16 0, .int .u16 0, .slice none 0 0] 83 (0, 0))) := ⟨by rw [← hq_]; exact (kz BK410)⟩; have n1_ : Aside0 (Below w.heap.size w w7) := ⟨by rw [← hq_]; exact bz HB⟩; clear BK410 HB hq_; have BK410 := n0_; have HB := n1_; clear n0_ n1_)); have hcz8_0 : w7.cell? ⟨gb410, 0, none⟩ = some (.int .u16 0) := cz BK410.out 0 rfl; have hcz8_1 : w7.cell? ⟨gb410, 1, none⟩ = some (.int .u16 0) := cz BK410.out 1 rfl; have hcz8_2 : w7.cell? ⟨gb410, 2, none⟩ = some (.int .u16 0) := cz BK410.out 2 rfl; have hcz8_3 : w7.cell? ⟨gb410, 3, none⟩ = some (.slice none 0 0) := cz BK410.out 3 rfl; have hfz8_0 := blk_frozen BK410.out 0; have hfz8_1 := blk_frozen BK410.out 1; have hfz8_2 := blk_frozen BK410.out 2; have hfz8_3 := blk_frozen BK410.out 3))
   refine bodyPost_ret (results_ct rfl _ _ gb410 83 #[.int .u16 0, .int .u16 0, .int .u16 0, .slice none 0 0] (0, 0) _ rfl (by (repeat (first | with_reducible refine blk_drewN ?_ _ | with_reducible refine blk_drew ?_ | with_reducible refine blk_alloc ?_ _ | refine blk_put (cs := #[.int .u16 0, .int .u16 0, .int .u16 0, .slice none 0 0]) ?_ _ _ rfl)); (with_reducible repeat (first | refine blk_drewN ?_ _ | refine blk_drew ?_ | refine blk_alloc ?_ _)); exact BK410.out) Try.underlying83 rfl (by kernel_rfl)) rfl ?_
   exact ⟨_, by first | rfl | (simp [errW_none, errW_some] <;> rfl) | (simp [*, errW_none, errW_some] <;> rfl), by first | exact Kd.R_nil _ _ _ _ _ | exact Kd.N_nil _ _ _ _ _ | exact Kd.V_nil _ _ _ _ _ | exact Kd.Q_nil _ _ _ _ _ | exact Kd.S_nil _ _ _ _ _, bz HB⟩
  ·rw [if_neg c6] at H
   have c6b0 : decide ((wrap64 (t411)) < 8) = false := decide_eq_false c6
   clear c6
   by_cases c9 : (l0.length : Int) < (wrap64 (t411))
   ·rw [if_pos c9] at H
    have c9b0 : decide ((l0.length : Int) < (wrap64 (t411))) = true := decide_eq_true c9
    clear c9
    simp only [Option.some.injEq, Prod.mk.injEq] at H
    obtain ⟨rfl, rfl, rfl, rfl, rfl⟩ := H
    go_enter Try.func39, Try.ntmps39
    go_wp2_with (first | ((with_reducible refine gate_dst (N := 2) rfl ?_); refine box_event ?hg (N := 2) ?hd (cs := #[.int .u16 0, .int .u16 0, .int .u16 0, .slice none 0 0]) (t := 83) ?hr ?_; (case hd => rfl); (case hg => rfl); (case hr => first | (go_simp; done) | (go_simp; rfl)); intro gb410 hg w10 hbox hb; have n0_ := Aside0.mk (below_step (bz HB) hb); have n1_ := Aside0.mk (hbox); have n2_ := Aside0.mk ((by rw [hg]; exact (below_size (bz HB)) : w.heap.size ≤ gb410)); have n3_ := Aside0.mk ((by rw [hg]; exact (below_size (bz HB)) : w.heap.size ≤ gb410)); clear HB; have HB := n0_; have BK410 := n1_; have GW410 := n2_; have GE410 := n3_; clear n0_ n1_ n2_ n3_; clear hb hbox hg) | ((with_reducible refine gate_callee (f := 64) rfl ?_); refine gL 10 Try.func64 #[.slice A0 l0.length c0, .int .i64 4] ?_; (with_reducible refine (lychref1_Get16.calls _ _ l0 4 t411 _ ?side1 ?side2 A5.out).mono ?_); (case side1 => exact Kd.C_below HR0.out (bz HB)); (case side2 => exact HC0.out); rintro e w' ⟨rfl, ⟨nd, rfl⟩⟩; refine ⟨_, rfl, ?_⟩; (try (rw [drewN_self w10]; generalize hq_ : World.drewN w10 _ = w10; have n0_ : Aside0 (w10.heap[gb410]? = some (.cells #[.int .u16 0, .int .u16 0, .int .u16 0, .slice none 0 0] 83 (0, 0))) := ⟨by rw [← hq_]; exact (kz BK410)⟩; have n1_ : Aside0 (Below w.heap.size w w10) := ⟨by rw [← hq_]; exact bz HB⟩; clear BK410 HB hq_; have BK410 := n0_; have HB := n1_; clear n0_ n1_)); have hcz11_0 : w10.cell? ⟨gb410, 0, none⟩ = some (.int .u16 0) := cz BK410.out 0 rfl; have hcz11_1 : w10.cell? ⟨gb410, 1, none⟩ = some (.int .u16 0) := cz BK410.out 1 rfl; have hcz11_2 : w10.cell? ⟨gb410, 2, none⟩ = some (.int .u16 0) := cz BK410.out 2 rfl; have hcz11_3 : w10.cell? ⟨gb410, 3, none⟩ = some (.slice none 0 0) := cz BK410.out 3 rfl; have hfz11_0 := blk_frozen BK410.out 0; have hfz11_1 := blk_frozen BK410.out 1; have hfz11_2 := blk_frozen BK410.out 2; have hfz11_3 := blk_frozen BK410.out 3))
    refine bodyPost_ret (results_ct rfl _ _ gb410 83 #[.int .u16 0, .int .u16 0, .int .u16 0, .slice none 0 0] (0, 0) _ rfl (by (repeat (first | with_reducible refine blk_drewN ?_ _ | with_reducible refine blk_drew ?_ | with_reducible refine blk_alloc ?_ _ | refine blk_put (cs := #[.int .u16 0, .int .u16 0, .int .u16 0, .slice none 0 0]) ?_ _ _ rfl)); (with_reducible repeat (first | refine blk_drewN ?_ _ | refine blk_drew ?_ | refine blk_alloc ?_ _)); exact BK410.out) Try.underlying83 rfl (by kernel_rfl)) rfl ?_
    exact ⟨_, by first | rfl | (simp [errW_none, errW_some] <;> rfl) | (simp [*, errW_none, errW_some] <;> rfl), by first | exact Kd.R_nil _ _ _ _ _ | exact Kd.N_nil _ _ _ _ _ | exact Kd.V_nil _ _ _ _ _ | exact Kd.Q_nil _ _ _ _ _ | exact Kd.S_nil _ _ _ _ _, bz HB⟩
   ·rw [if_neg c9] at H
    have c9b0 : decide ((l0.length : Int) < (wrap64 (t411))) = false := decide_eq_false c9
    clear c9
    replace H := Option.bind_eq_some_iff.mp H
    obtain ⟨t412, A120, H⟩ := H
    replace H : ((lychref1_Get16.f l0 2).bind fun t413 => ((lychref1_Get16.f l0 6).bind fun t414 => ((lychref1_cut.f l0 8 (wrap64 (t411))).bind fun t415 => (some (t412, t413, t414, t415, 0))))) = some (r1, r2, r3, r4, r5) := H
    have A12 := Aside0.mk A120
    clear A120
    replace H := Option.bind_eq_some_iff.mp H
    obtain ⟨t413, A130, H⟩ := H
    replace H : ((lychref1_Get16.f l0 6).bind fun t414 => ((lychref1_cut.f l0 8 (wrap64 (t411))).bind fun t415 => (some (t412, t413, t414, t415, 0)))) = some (r1, r2, r3, r4, r5) := H
    have A13 := Aside0.mk A130
    clear A130
    replace H := Option.bind_eq_some_iff.mp H
    obtain ⟨t414, A140, H⟩ := H
    replace H : ((lychref1_cut.f l0 8 (wrap64 (t411))).bind fun t415 => (some (t412, t413, t414, t415, 0))) = some (r1, r2, r3, r4, r5) := H
    have A14 := Aside0.mk A140
    clear A140
    replace H := Option.bind_eq_some_iff.mp H
    obtain ⟨t415, A150, H⟩ := H
    replace H : (some (t412, t413, t414, t415, 0)) = some (r1, r2, r3, r4, r5) := H
    have A15 := Aside0.mk A150
    clear A150
    simp only [Option.some.injEq, Prod.mk.injEq] at H
    obtain ⟨rfl, rfl, rfl, rfl, rfl⟩ := H
    go_enter Try.func39, Try.ntmps39
    go_wp2_with (first | ((with_reducible refine gate_dst (N := 2) rfl ?_); refine box_event ?hg (N := 2) ?hd (cs := #[.int .u16 0, .int .u16 0, .int .u16 0, .slice none 0 0]) (t := 83) ?hr ?_; (case hd => rfl); (case hg => rfl); (case hr => first | (go_simp; done) | (go_simp; rfl)); intro gb410 hg w16 hbox hb; have n0_ := Aside0.mk (below_step (bz HB) hb); have n1_ := Aside0.mk (hbox); have n2_ := Aside0.mk ((by rw [hg]; exact (below_size (bz HB)) : w.heap.size ≤ gb410)); have n3_ := Aside0.mk ((by rw [hg]; exact (below_size (bz HB)) : w.heap.size ≤ gb410)); clear HB; have HB := n0_; have BK410 := n1_; have GW410 := n2_; have GE410 := n3_; clear n0_ n1_ n2_ n3_; clear hb hbox hg) | ((with_reducible refine gate_callee (f := 64) rfl ?_); refine gL 10 Try.func64 #[.slice A0 l0.length c0, .int .i64 4] ?_; (with_reducible refine (lychref1_Get16.calls _ _ l0 4 t411 _ ?side1 ?side2 A5.out).mono ?_); (case side1 => exact Kd.C_below HR0.out (bz HB)); (case side2 => exact HC0.out); rintro e w' ⟨rfl, ⟨nd, rfl⟩⟩; refine ⟨_, rfl, ?_⟩; (try (rw [drewN_self w16]; generalize hq_ : World.drewN w16 _ = w16; have n0_ : Aside0 (w16.heap[gb410]? = some (.cells #[.int .u16 0, .int .u16 0, .int .u16 0, .slice none 0 0] 83 (0, 0))) := ⟨by rw [← hq_]; exact (kz BK410)⟩; have n1_ : Aside0 (Below w.heap.size w w16) := ⟨by rw [← hq_]; exact bz HB⟩; clear BK410 HB hq_; have BK410 := n0_; have HB := n1_; clear n0_ n1_))) | ((with_reducible refine gate_callee (f := 64) rfl ?_); refine gL 21 Try.func64 #[.slice A0 l0.length c0, .int .i64 0] ?_; (with_reducible refine (lychref1_Get16.calls _ _ l0 0 t412 _ ?side1 ?side2 A12.out).mono ?_); (case side1 => exact Kd.C_below HR0.out (bz HB)); (case side2 => exact HC0.out); rintro e w' ⟨rfl, ⟨nd, rfl⟩⟩; refine ⟨_, rfl, ?_⟩; (try (rw [drewN_self w16]; generalize hq_ : World.drewN w16 _ = w16; have n0_ : Aside0 (w16.heap[gb410]? = some (.cells #[.int .u16 0, .int .u16 0, .int .u16 0, .slice none 0 0] 83 (0, 0))) := ⟨by rw [← hq_]; exact (kz BK410)⟩; have n1_ : Aside0 (Below w.heap.size w w16) := ⟨by rw [← hq_]; exact bz HB⟩; clear BK410 HB hq_; have BK410 := n0_; have HB := n1_; clear n0_ n1_))) | ((with_reducible refine gate_callee (f := 64) rfl ?_); refine gL 23 Try.func64 #[.slice A0 l0.length c0, .int .i64 2] ?_; (with_reducible refine (lychref1_Get16.calls _ _ l0 2 t413 _ ?side1 ?side2 A13.out).mono ?_); (case side1 => exact Kd.C_below HR0.out (bz HB)); (case side2 => exact HC0.out); rintro e w' ⟨rfl, ⟨nd, rfl⟩⟩; refine ⟨_, rfl, ?_⟩; (try (rw [drewN_self w16]; generalize hq_ : World.drewN w16 _ = w16; have n0_ : Aside0 (w16.heap[gb410]? = some (.cells #[.int .u16 0, .int .u16 0, .int .u16 0, .slice none 0 0] 83 (0, 0))) := ⟨by rw [← hq_]; exact (kz BK410)⟩; have n1_ : Aside0 (Below w.heap.size w w16) := ⟨by rw [← hq_]; exact bz HB⟩; clear BK410 HB hq_; have BK410 := n0_; have HB := n1_; clear n0_ n1_))) | ((with_reducible refine gate_callee (f := 64) rfl ?_); refine gL 25 Try.func64 #[.slice A0 l0.length c0, .int .i64 6] ?_; (with_reducible refine (lychref1_Get16.calls _ _ l0 6 t414 _ ?side1 ?side2 A14.out).mono ?_); (case side1 => exact Kd.C_below HR0.out (bz HB)); (case side2 => exact HC0.out); rintro e w' ⟨rfl, ⟨nd, rfl⟩⟩; refine ⟨_, rfl, ?_⟩; (try (rw [drewN_self w16]; generalize hq_ : World.drewN w16 _ = w16; have n0_ : Aside0 (w16.heap[gb410]? = some (.cells #[.int .u16 0, .int .u16 0, .int .u16 0, .slice none 0 0] 83 (0, 0))) := ⟨by rw [← hq_]; exact (kz BK410)⟩; have n1_ : Aside0 (Below w.heap.size w w16) := ⟨by rw [← hq_]; exact bz HB⟩; clear BK410 HB hq_; have BK410 := n0_; have HB := n1_; clear n0_ n1_))) | ((with_reducible refine gate_callee (f := 65) rfl ?_); refine gL 28 Try.func65 #[.slice A0 l0.length c0, .int .i64 8, .int .i64 (wrap64 (t411))] ?_; (with_reducible refine (lychref1_cut.calls _ _ l0 8 (wrap64 (t411)) t415 _ ?side1 ?side2 A15.out).mono ?_); (case side1 => exact Kd.C_below HR0.out (bz HB)); (case side2 => exact HC0.out); rintro e w17 ⟨v416, rfl, ho0, hb⟩; refine ⟨_, rfl, ?_⟩; have n0_ := Aside0.mk (Kd.R_lower ho0 (below_size (bz HB))); have n1_ := Aside0.mk (blk_below (kz BK410) hb); have n2_ := Aside0.mk (below_step (bz HB) hb); clear BK410; clear HB; have HO417 := n0_; have BK410 := n1_; have HB := n2_; clear n0_ n1_ n2_; (try clear hb); (try clear hb2); (try clear hk); (try clear hi); (try clear ho0); obtain ⟨Ao18, co18, eo18⟩ := Kd.R_slice HO417.out; subst eo18; have hcz19_0 : w17.cell? ⟨gb410, 0, none⟩ = some (.int .u16 0) := cz BK410.out 0 rfl; have hcz19_1 : w17.cell? ⟨gb410, 1, none⟩ = some (.int .u16 0) := cz BK410.out 1 rfl; have hcz19_2 : w17.cell? ⟨gb410, 2, none⟩ = some (.int .u16 0) := cz BK410.out 2 rfl; have hcz19_3 : w17.cell? ⟨gb410, 3, none⟩ = some (.slice none 0 0) := cz BK410.out 3 rfl; have hfz19_0 := blk_frozen BK410.out 0; have hfz19_1 := blk_frozen BK410.out 1; have hfz19_2 := blk_frozen BK410.out 2; have hfz19_3 := blk_frozen BK410.out 3))
    refine bodyPost_ret (results_ct rfl _ _ gb410 83 #[.int .u16 t412, .int .u16 t413, .int .u16 t414, .slice Ao18 t415.length co18] (0, 0) _ rfl (by (with_reducible repeat (first | refine blk_drewN ?_ _ | refine blk_drew ?_ | refine blk_alloc ?_ _)); refine blk_put (cs := #[.int .u16 t412, .int .u16 t413, .int .u16 t414, .slice none 0 0]) ?_ 3 _ rfl; (with_reducible repeat (first | refine blk_drewN ?_ _ | refine blk_drew ?_ | refine blk_alloc ?_ _)); refine blk_put (cs := #[.int .u16 t412, .int .u16 t413, .int .u16 0, .slice none 0 0]) ?_ 2 _ rfl; (with_reducible repeat (first | refine blk_drewN ?_ _ | refine blk_drew ?_ | refine blk_alloc ?_ _)); refine blk_put (cs := #[.int .u16 t412, .int .u16 0, .int .u16 0, .slice none 0 0]) ?_ 1 _ rfl; (with_reducible repeat (first | refine blk_drewN ?_ _ | refine blk_drew ?_ | refine blk_alloc ?_ _)); refine blk_put (cs := #[.int .u16 0, .int .u16 0, .int .u16 0, .slice none 0 0]) ?_ 0 _ rfl; (with_reducible repeat (first | refine blk_drewN ?_ _ | refine blk_drew ?_ | refine blk_alloc ?_ _)); exact BK410.out) Try.underlying83 rfl (by kernel_rfl)) rfl ?_
    exact ⟨_, by first | rfl | (simp [errW_none, errW_some] <;> rfl) | (simp [*, errW_none, errW_some] <;> rfl), by (with_reducible repeat (first | apply Kd.R_alloc | apply Kd.R_drewN | apply Kd.R_drew)); exact Kd.R_mono (Kd.R_far (p := ⟨gb410, 3, none⟩) (Kd.R_far (p := ⟨gb410, 2, none⟩) (Kd.R_far (p := ⟨gb410, 1, none⟩) (Kd.R_far (p := ⟨gb410, 0, none⟩) (Kd.R_types HO417.out BK410.out (by decide)) (fun _ hk => hk.2) (.int .u16 t412)) (fun _ hk => hk.2) (.int .u16 t413)) (fun _ hk => hk.2) (.int .u16 t414)) (fun _ hk => hk.2) (.slice Ao18 t415.length co18)) (fun _ hk => trivial), bz HB⟩
end Go.Proofs.Ytkmimamminddiaa.PB
/- Plain laws of the checksum: words changed, swapped, padded. -/
namespace Go.Proofs.Ytkmimamminddiaa.Spec
set_option linter.unusedVariables false
set_option linter.unusedSimpArgs false
open Go.RowKit
theorem words_set2 : ∀ (l : List Int) (t : Nat) (a b : Int), 2 * t + 1 < l.length → words ((l.set (2 * t) a).set (2 * t + 1) b) = (words l).set t (a * 256 + b)
 | [], t, a, b, h => by simp at h
 | [x], t, a, b, h => by simp at h
 | x :: y :: l, 0, a, b, h => by simp [words]
 | x :: y :: l, t + 1, a, b, h => by
  have := words_set2 l t a b (by simp only [List.length_cons] at h; omega)
  rw [show 2 * (t + 1) = 2 * t + 1 + 1 from by omega]
  simp only [List.set_cons_succ, words, this]
theorem isum_set : ∀ (ws : List Int) (t : Nat) (v : Int), t < ws.length → isum (ws.set t v) = isum ws - ws.getD t 0 + v
 | [], t, v, h => by simp at h
 | x :: ws, 0, v, h => by simp [isum]; omega
 | x :: ws, t + 1, v, h => by
  have := isum_set ws t v (by simp only [List.length_cons] at h; omega)
  simp only [List.set_cons_succ, isum, this, List.getD_cons_succ]; omega
def wordAt (l : List Int) (t : Nat) : Int := l.getD (2 * t) 0 * 256 + l.getD (2 * t + 1) 0
theorem wordAt_eq (l : List Int) (t : Nat) (h : 2 * t < l.length) : (words l).getD t 0 = wordAt l t := by
 rw [List.getD_eq_getElem?_getD, words_get l t h]; rfl
theorem isum_change (l : List Int) (t : Nat) (a b : Int) (h : 2 * t + 1 < l.length) :
  isum (words ((l.set (2 * t) a).set (2 * t + 1) b)) = isum (words l) - wordAt l t + (a * 256 + b) := by
 have hl := words_length l
 rw [words_set2 l t a b h, isum_set _ _ _ (by omega), wordAt_eq l t (by omega)]
theorem stands {S : Int} (h : 0 ≤ S) : norm (S + (65535 - norm S)) = 65535 := by
 unfold norm
 split
 ·rw [if_neg (by omega)]; omega
 ·rw [if_neg (by omega)]; omega
end Go.Proofs.Ytkmimamminddiaa.Spec
/- UdpReads, UdpBack, UdpSums, UdpGreat, UdpLengths, UdpNone, the plain statements: for all datagrams the printed laws return true. -/
namespace Go.Proofs.Ytkmimamminddiaa.Pure
set_option linter.unusedVariables false
set_option linter.unusedSimpArgs false
open Go.RowKit Go.Proofs.Ytkmimamminddiaa.PB Go.Proofs.YtkmimamminddiaaW.PrintWords Go.Proofs.YtkmimamminddiaaW.PrintLast
open Go.Proofs.Ytkmimamminddiaa.Spec Go.Proofs.Ytkmimamminddiaa.BytesEq
theorem utwo_eq {l : List Int} (h : IsB l) (a b : Nat) (hab : b = a + 2) (hb : b ≤ l.length) : udp_two.f ((l.take b).drop a) = some (g16 l a) := by
 subst hab
 unfold udp_two.f
 have hlen : ((l.take (a + 2)).drop a).length = 2 := by rw [List.length_drop, List.length_take]; omega
 rw [hlen, if_pos (by omega), if_pos (by omega), rd_mid l a (a + 2) 0 0 rfl (by omega), rd_mid l a (a + 2) 1 1 rfl (by omega), word16 (h.getD (a + 0)) (h.getD (a + 1))]
 rfl
def udg (l : List Int) : Int × Int × Int × List Int × Int :=
 if l.length < 8 then (0, 0, 0, [], 20) else if g16 l 4 < 8 then (0, 0, 0, [], 21) else if (l.length : Int) < g16 l 4 then (0, 0, 0, [], 20) else (g16 l 0, g16 l 2, g16 l 6, (l.take (g16 l 4).toNat).drop 8, 0)
theorem uparse_eq {l : List Int} (h : IsB l) (hl : l.length ≤ 1000000000) : udp_Parse.f l = some (udg l) := by
 unfold udp_Parse.f udg
 by_cases h8 : l.length < 8
 ·rw [if_pos (by omega), if_pos h8]
 ·have hg := g16_range h 4
  rw [if_neg (by omega), if_neg h8, if_pos (by omega), utwo_eq h 4 6 rfl (by omega)]
  simp only [Option.bind_some]
  rw [wrap64_id (n := g16 l 4) (by omega) (by omega)]
  by_cases c1 : g16 l 4 < 8
  ·rw [if_pos c1, if_pos c1]
  ·rw [if_neg c1, if_neg c1]
   by_cases c2 : (l.length : Int) < g16 l 4
   ·rw [if_pos c2, if_pos c2]
   ·rw [if_neg c2, if_neg c2, if_pos (by omega), utwo_eq h 0 2 rfl (by omega)]
    simp only [Option.bind_some]
    rw [if_pos (by omega), utwo_eq h 2 4 rfl (by omega)]
    simp only [Option.bind_some]
    rw [if_pos (by omega), utwo_eq h 6 8 rfl (by omega)]
    simp only [Option.bind_some]
    rw [if_pos (by omega), if_pos (by omega), clone_eq _ (by rw [List.length_drop, List.length_take]; omega)]
    simp only [Option.bind_some]
theorem ruparse_eq {l : List Int} (h : IsB l) (hl : l.length ≤ 1000000000) : lychref1_Udp.f l = some (udg l) := by
 unfold lychref1_Udp.f udg
 by_cases h8 : l.length < 8
 ·rw [if_pos (by omega), if_pos h8]
 ·have hg := g16_range h 4
  have e0 := get16_eq h 0 (by omega) hl
  have e2 := get16_eq h 2 (by omega) hl
  have e4 := get16_eq h 4 (by omega) hl
  have e6 := get16_eq h 6 (by omega) hl
  rw [show ((0 : Nat) : Int) = 0 from rfl] at e0
  rw [show ((2 : Nat) : Int) = 2 from rfl] at e2
  rw [show ((4 : Nat) : Int) = 4 from rfl] at e4
  rw [show ((6 : Nat) : Int) = 6 from rfl] at e6
  rw [if_neg (by omega), if_neg h8, e4]
  simp only [Option.bind_some]
  rw [wrap64_id (n := g16 l 4) (by omega) (by omega)]
  by_cases c1 : g16 l 4 < 8
  ·rw [if_pos c1, if_pos c1]
  ·rw [if_neg c1, if_neg c1]
   by_cases c2 : (l.length : Int) < g16 l 4
   ·rw [if_pos c2, if_pos c2]
   ·have e8 := cut_eq l 8 (g16 l 4).toNat (by omega) (by omega) hl
    rw [show ((8 : Nat) : Int) = 8 from rfl, Int.toNat_of_nonneg hg.1] at e8
    rw [if_neg c2, if_neg c2, e0, e2, e6, e8]
    simp only [Option.bind_some]
def ubytes (s d c : Int) (l : List Int) : List Int := [s / 256 % 256, s % 256, d / 256 % 256, d % 256, (8 + (l.length : Int)) / 256 % 256, (8 + (l.length : Int)) % 256, c / 256 % 256, c % 256] ++ l
theorem ubytes_eq (s d c : Int) {l : List Int} (hl : l.length ≤ 1000000000) : udp_Bytes.f s d c l = if (l.length : Int) > 65527 then some ([], 23) else some (ubytes s d c l, 0) := by
 unfold udp_Bytes.f ubytes
 rw [wrap64_id (by omega) (by omega)]
 by_cases h : (l.length : Int) > 65527
 ·rw [if_pos (by omega), if_pos h]
 ·rw [if_neg (by omega), if_neg h]
  simp only [Option.bind_some, List.length_cons, List.length_nil]
  rw [if_pos (by omega)]
theorem rubytes_eq (s d c : Int) {l : List Int} (hl : l.length ≤ 1000000000) : lychref1_UdpBytes.f s d c l = if (l.length : Int) > 65527 then some ([], 23) else some (ubytes s d c l, 0) := by
 unfold lychref1_UdpBytes.f lychref1_Put16.f ubytes
 by_cases h : (l.length : Int) > 65527
 ·rw [if_pos h, if_pos h]
 ·rw [if_neg h, if_neg h, wrap64_id (n := 8 + (l.length : Int)) (by omega) (by omega), u16w (n := 8 + (l.length : Int)) (by omega) (by omega)]
  simp only [Option.bind_some, List.length_cons, List.length_nil, List.cons_append, List.nil_append]
  rw [if_pos (by omega)]
  simp only [Option.bind_some, List.length_cons, List.length_nil, List.cons_append, List.nil_append]
  rw [if_pos (by omega)]
  simp only [Option.bind_some, List.length_cons, List.length_nil, List.cons_append, List.nil_append]
  rw [if_pos (by omega)]
  simp only [Option.bind_some, List.length_cons, List.length_nil, List.cons_append, List.nil_append]
  rw [if_pos (by omega)]
  simp only [Option.bind_some, List.length_cons, List.length_nil, List.cons_append, List.nil_append]
  rw [if_pos (by omega)]
theorem ubytes_isB {s d c : Int} {l : List Int} (h : IsB l) : IsB (ubytes s d c l) :=
 IsB.append (.cons (by omega) (.cons (by omega) (.cons (by omega) (.cons (by omega) (.cons (by omega) (.cons (by omega) (.cons (by omega) (.cons (by omega) .nil)))))))) h
theorem ubytes_length (s d c : Int) (l : List Int) : (ubytes s d c l).length = 8 + l.length := by simp [ubytes]; omega
theorem udg_ubytes {s d c : Int} {l : List Int} (hs : 0 ≤ s ∧ s ≤ 65535) (hd : 0 ≤ d ∧ d ≤ 65535) (hc : 0 ≤ c ∧ c ≤ 65535) (hl : (l.length : Int) ≤ 65527) : udg (ubytes s d c l) = (s, d, c, l, 0) := by
 have hL := ubytes_length s d c l
 have e4 : g16 (ubytes s d c l) 4 = 8 + (l.length : Int) := by
  unfold ubytes g16
  simp only [List.cons_append, List.nil_append, List.getD_cons_zero, List.getD_cons_succ]
  omega
 unfold udg
 rw [e4, if_neg (by omega), if_neg (by omega), if_neg (by omega), List.take_of_length_le (by omega)]
 unfold ubytes g16
 simp only [List.cons_append, List.nil_append, List.getD_cons_zero, List.getD_cons_succ, List.drop_succ_cons, List.drop_zero, Prod.mk.injEq, and_true, true_and]
 refine ⟨?_, ?_, ?_⟩ <;> omega
end Go.Proofs.Ytkmimamminddiaa.Pure
/- Plain: PureUdps. -/
namespace Go.Proofs.Ytkmimamminddiaa.Pure
set_option linter.unusedVariables false
set_option linter.unusedSimpArgs false
open Go.RowKit Go.Proofs.Ytkmimamminddiaa.PB Go.Proofs.YtkmimamminddiaaW.PrintWords Go.Proofs.YtkmimamminddiaaW.PrintLast
open Go.Proofs.Ytkmimamminddiaa.Spec Go.Proofs.Ytkmimamminddiaa.BytesEq
theorem words_ubytes {s d c : Int} {l : List Int} (hs : 0 ≤ s ∧ s ≤ 65535) (hd : 0 ≤ d ∧ d ≤ 65535) (hc : 0 ≤ c ∧ c ≤ 65535) (hl : (l.length : Int) ≤ 65527) : isum (words (ubytes s d c l)) = s + d + (8 + (l.length : Int)) + c + isum (words l) := by
 unfold ubytes
 simp only [List.cons_append, List.nil_append, words, isum]
 omega
def usumS (a b s d : Int) (l : List Int) : Int := norm (a / 65536 + a % 65536 + b / 65536 + b % 65536 + 17 + (8 + (l.length : Int)) % 65536) + s + d + (8 + (l.length : Int)) + isum (words l)
theorem usumS_pos {a b s d : Int} {l : List Int} (ha : 0 ≤ a) (hb : 0 ≤ b) (hs : 0 ≤ s) (hd : 0 ≤ d) (h : IsB l) : 0 < usumS a b s d l := by
 have h1 := norm_range (a / 65536 + a % 65536 + b / 65536 + b % 65536 + 17 + (8 + (l.length : Int)) % 65536) (by omega)
 have h2 := isum_nonneg _ (words_isW l h)
 unfold usumS; omega
theorem utotal {a b s d c : Int} {l : List Int} (ha : 0 ≤ a ∧ a ≤ 4294967295) (hb : 0 ≤ b ∧ b ≤ 4294967295) (hs : 0 ≤ s ∧ s ≤ 65535) (hd : 0 ≤ d ∧ d ≤ 65535) (hc : 0 ≤ c ∧ c ≤ 65535) (h : IsB l) (hl : (l.length : Int) ≤ 3000) (K : Nat) (hK : 4000 ≤ K) :
  udp_total.f K a b s d c l = some (norm (usumS a b s d l + c), true) := by
 have hB := ubytes_isB (s := s) (d := d) (c := c) h
 have hL := ubytes_length s d c l
 have hp := norm_range (a / 65536 + a % 65536 + b / 65536 + b % 65536 + 17 + (8 + (l.length : Int)) % 65536) (by omega)
 unfold udp_total.f
 rw [ubytes_eq _ _ _ (by omega), if_neg (by omega)]
 simp only [Option.bind_some]
 rw [show ((ubytes s d c l).length : Int) = 8 + (l.length : Int) from by omega, SumEq.pseudo_eq a b 17 _ ha hb (by omega) K (by omega)]
 simp only [Option.bind_some]
 have hr := addw_range (words (ubytes s d c l)) _ hp.1 (by omega) (words_isW _ hB)
 have hn := norm_addw (words (ubytes s d c l)) _ hp.1 (by omega) (words_isW _ hB)
 rw [SumEq.add_eq _ _ hB (by omega) hp.1 (by omega) K (by omega)]
 simp only [Option.bind_some]
 rw [SumEq.fold_eq _ hr.1 hr.2 K (by omega), hn, words_ubytes hs hd hc (by omega)]
 simp only [Option.bind_some, beq_self_eq_true]
 unfold usumS
 congr 3
 omega
def usum (S : Int) : Int := if norm S = 65535 then 65535 else 65535 - norm S
theorem usum_range {S : Int} (h : 0 < S) : 1 ≤ usum S ∧ usum S ≤ 65535 := by
 have := norm_range S (by omega)
 have := norm_pos h
 unfold usum; split <;> omega
theorem usum_iff {S o : Int} (h : 0 < S) (ho : 1 ≤ o ∧ o ≤ 65535) : norm (S + o) = 65535 ↔ o = usum S := by
 have e1 : norm S = (S - 1) % 65535 + 1 := by unfold norm; rw [if_neg (by omega)]
 have e2 : norm (S + o) = (S + o - 1) % 65535 + 1 := by unfold norm; rw [if_neg (by omega)]
 unfold usum
 rw [e1, e2]
 split <;> omega
theorem usum_eq {a b s d c : Int} {l : List Int} (ha : 0 ≤ a ∧ a ≤ 4294967295) (hb : 0 ≤ b ∧ b ≤ 4294967295) (hs : 0 ≤ s ∧ s ≤ 65535) (hd : 0 ≤ d ∧ d ≤ 65535) (h : IsB l) (hl : (l.length : Int) ≤ 3000) (K : Nat) (hK : 4000 ≤ K) :
  udp_Sum.f K a b s d c l = some (usum (usumS a b s d l)) := by
 have hS := usumS_pos (s := s) (d := d) ha.1 hb.1 hs.1 hd.1 h
 have hn := norm_range (usumS a b s d l) (by omega)
 unfold udp_Sum.f
 rw [utotal ha hb hs hd (c := 0) (by omega) h hl K hK, Int.add_zero]
 simp only [Option.bind_some, if_true]
 unfold usum
 by_cases c1 : norm (usumS a b s d l) = 65535
 ·rw [if_pos c1, if_pos c1, c1]
 ·rw [if_neg c1, if_neg c1, show (IntKind.u16.max : Int) = 65535 from rfl, not_u16 hn.1 hn.2]
theorem rusum_eq {a b s d c : Int} {l : List Int} (ha : 0 ≤ a ∧ a ≤ 4294967295) (hb : 0 ≤ b ∧ b ≤ 4294967295) (hs : 0 ≤ s ∧ s ≤ 65535) (hd : 0 ≤ d ∧ d ≤ 65535) (h : IsB l) (hl : (l.length : Int) ≤ 3000) (K : Nat) (hK : 4000 ≤ K) :
  lychref1_UdpSum.f K a b s d c l = some (usum (usumS a b s d l)) := by
 have hS := usumS_pos (s := s) (d := d) ha.1 hb.1 hs.1 hd.1 h
 have hnn := norm_range (usumS a b s d l) (by omega)
 have hB := ubytes_isB (s := s) (d := d) (c := 0) h
 have hL := ubytes_length s d 0 l
 have hp := norm_range (a / 65536 + a % 65536 + b / 65536 + b % 65536 + 17 + (8 + (l.length : Int)) % 65536) (by omega)
 have hr := addw_range (words (ubytes s d 0 l)) _ hp.1 (by omega) (words_isW _ hB)
 have hn := norm_addw (words (ubytes s d 0 l)) _ hp.1 (by omega) (words_isW _ hB)
 unfold lychref1_UdpSum.f
 rw [rubytes_eq _ _ _ (by omega), if_neg (by omega)]
 simp only [Option.bind_some, if_true]
 rw [show ((ubytes s d 0 l).length : Int) = 8 + (l.length : Int) from by omega, SumEq.rpseudo_eq a b 17 _ ha hb (by omega) K (by omega)]
 simp only [Option.bind_some]
 rw [SumEq.radd_eq _ _ hB (by omega) hp.1 (by omega) K (by omega)]
 simp only [Option.bind_some]
 have e : norm (a / 65536 + a % 65536 + b / 65536 + b % 65536 + 17 + (8 + (l.length : Int)) % 65536) + (s + d + (8 + (l.length : Int)) + 0 + isum (words l)) = usumS a b s d l := by unfold usumS; omega
 rw [SumEq.rfold_eq _ hr.1 hr.2 K (by omega), hn, words_ubytes hs hd (by omega) (by omega), e]
 simp only [Option.bind_some]
 rw [show (IntKind.u16.max : Int) = 65535 from rfl, not_u16 hnn.1 hnn.2]
 unfold usum
 by_cases c1 : norm (usumS a b s d l) = 65535
 ·rw [if_pos (by omega), if_pos c1]
 ·rw [if_neg (by omega), if_neg c1]
theorem uright_eq {a b s d c : Int} {l : List Int} (ha : 0 ≤ a ∧ a ≤ 4294967295) (hb : 0 ≤ b ∧ b ≤ 4294967295) (hs : 0 ≤ s ∧ s ≤ 65535) (hd : 0 ≤ d ∧ d ≤ 65535) (hc : 0 ≤ c ∧ c ≤ 65535) (h : IsB l) (hl : (l.length : Int) ≤ 3000) (K : Nat) (hK : 4000 ≤ K) :
  udp_Right.f K a b s d c l = some (decide (c = 0 ∨ c = usum (usumS a b s d l))) := by
 have hS := usumS_pos (s := s) (d := d) ha.1 hb.1 hs.1 hd.1 h
 unfold udp_Right.f
 by_cases c0 : c = 0
 ·rw [if_pos c0]; simp [c0]
 ·rw [if_neg c0, utotal ha hb hs hd hc h hl K hK]
  simp only [Option.bind_some, if_true]
  have := usum_iff hS (o := c) (by omega)
  congr 1
  rw [Bool.eq_iff_iff, beq_iff_eq, decide_eq_true_eq, this]
  exact ⟨fun h => .inr h, fun h => h.resolve_left c0⟩
theorem ruright_eq {a b s d c : Int} {l : List Int} (ha : 0 ≤ a ∧ a ≤ 4294967295) (hb : 0 ≤ b ∧ b ≤ 4294967295) (hs : 0 ≤ s ∧ s ≤ 65535) (hd : 0 ≤ d ∧ d ≤ 65535) (hc : 0 ≤ c ∧ c ≤ 65535) (h : IsB l) (hl : (l.length : Int) ≤ 3000) (K : Nat) (hK : 4000 ≤ K) :
  lychref1_UdpRight.f K a b s d c l = some (decide (c = 0 ∨ c = usum (usumS a b s d l))) := by
 have hS := usumS_pos (s := s) (d := d) ha.1 hb.1 hs.1 hd.1 h
 unfold lychref1_UdpRight.f
 by_cases c0 : c = 0
 ·rw [if_pos c0]; simp [c0]
 ·have hB := ubytes_isB (s := s) (d := d) (c := c) h
  have hL := ubytes_length s d c l
  have hp := norm_range (a / 65536 + a % 65536 + b / 65536 + b % 65536 + 17 + (8 + (l.length : Int)) % 65536) (by omega)
  have hr := addw_range (words (ubytes s d c l)) _ hp.1 (by omega) (words_isW _ hB)
  have hn := norm_addw (words (ubytes s d c l)) _ hp.1 (by omega) (words_isW _ hB)
  rw [if_neg c0, rubytes_eq _ _ _ (by omega), if_neg (by omega)]
  simp only [Option.bind_some, if_true]
  rw [show ((ubytes s d c l).length : Int) = 8 + (l.length : Int) from by omega, SumEq.rpseudo_eq a b 17 _ ha hb (by omega) K (by omega)]
  simp only [Option.bind_some]
  rw [SumEq.radd_eq _ _ hB (by omega) hp.1 (by omega) K (by omega)]
  simp only [Option.bind_some]
  have e : norm (a / 65536 + a % 65536 + b / 65536 + b % 65536 + 17 + (8 + (l.length : Int)) % 65536) + (s + d + (8 + (l.length : Int)) + c + isum (words l)) = usumS a b s d l + c := by unfold usumS; omega
  rw [SumEq.rfold_eq _ hr.1 hr.2 K (by omega), hn, words_ubytes hs hd hc (by omega), e]
  simp only [Option.bind_some]
  have := usum_iff hS (o := c) (by omega)
  congr 1
  rw [Bool.eq_iff_iff, beq_iff_eq, decide_eq_true_eq, this]
  exact ⟨fun h => .inr h, fun h => h.resolve_left c0⟩
end Go.Proofs.Ytkmimamminddiaa.Pure
/- The checksum of bytes. -/
namespace Go.Proofs.Ytkmimamminddiaa.SumEq
set_option linter.unusedVariables false
set_option linter.unusedSimpArgs false
open Go.RowKit Go.Proofs.Ytkmimamminddiaa.PB Go.Proofs.YtkmimamminddiaaW.PrintWords Go.Proofs.YtkmimamminddiaaW.PrintLast Go.Proofs.Ytkmimamminddiaa.Spec
theorem of_eq (l : List Int) (hb : IsB l) (hl : l.length ≤ 1000000000) (k : Nat) (hk : l.length + 1 < k) (hk3 : 3 < k) : sum_Of.f k l = some (ck l) := by
 have hr := addw_range (words l) 0 (by omega) (by omega) (words_isW l hb)
 have hn := norm_addw (words l) 0 (by omega) (by omega) (words_isW l hb)
 have hp := norm_range _ (isum_nonneg _ (words_isW l hb))
 unfold sum_Of.f
 rw [add_eq 0 l hb hl (by omega) (by omega) k hk]
 simp only [Option.bind_some]
 rw [fold_eq _ hr.1 hr.2 k hk3, hn, Int.zero_add]
 simp only [Option.bind_some]
 rw [show (IntKind.u16.max : Int) = 65535 from rfl, not_u16 hp.1 hp.2]
 rfl
theorem rof_eq (l : List Int) (hb : IsB l) (hl : l.length ≤ 1000000000) (k : Nat) (hk : l.length + 1 < k) (hk3 : 3 < k) : lychref1_Of.f k l = some (ck l) := by
 have hr := addw_range (words l) 0 (by omega) (by omega) (words_isW l hb)
 have hn := norm_addw (words l) 0 (by omega) (by omega) (words_isW l hb)
 have hp := norm_range _ (isum_nonneg _ (words_isW l hb))
 unfold lychref1_Of.f
 rw [radd_eq 0 l hb hl (by omega) (by omega) k hk]
 simp only [Option.bind_some]
 rw [rfold_eq _ hr.1 hr.2 k hk3, hn, Int.zero_add]
 simp only [Option.bind_some]
 rw [show (IntKind.u16.max : Int) = 65535 from rfl, not_u16 hp.1 hp.2]
 rfl
end Go.Proofs.Ytkmimamminddiaa.SumEq
/- Plain: PureIcmps. -/
namespace Go.Proofs.Ytkmimamminddiaa.PureI
set_option linter.unusedVariables false
set_option linter.unusedSimpArgs false
open Go.RowKit Go.Proofs.Ytkmimamminddiaa.PB Go.Proofs.YtkmimamminddiaaW.PrintWords Go.Proofs.YtkmimamminddiaaW.PrintLast
open Go.Proofs.Ytkmimamminddiaa.Spec Go.Proofs.Ytkmimamminddiaa.BytesEq
theorem word32b {a b c d : Int} (ha : 0 ≤ a ∧ a ≤ 255) (hb : 0 ≤ b ∧ b ≤ 255) (hc : 0 ≤ c ∧ c ≤ 255) (hd : 0 ≤ d ∧ d ≤ 255) :
  Go.bits .or .u32 (Go.bits .or .u32 (Go.bits .or .u32 (((a % 4294967296) * 16777216) % 4294967296) (((b % 4294967296) * 65536) % 4294967296)) (((c % 4294967296) * 256) % 4294967296)) (d % 4294967296) = a * 16777216 + b * 65536 + c * 256 + d := by
 rw [show a % 4294967296 = a from by omega, show a * 16777216 % 4294967296 = a * 16777216 from by omega, show b % 4294967296 = b from by omega, show b * 65536 % 4294967296 = b * 65536 from by omega, show c % 4294967296 = c from by omega, show c * 256 % 4294967296 = c * 256 from by omega, show d % 4294967296 = d from by omega]
 rw [or_u32 24 (x := a * 16777216) (y := b * 65536) (by omega) (by omega) (by omega) (by omega) (by omega) (by omega)]
 rw [or_u32 16 (x := a * 16777216 + b * 65536) (y := c * 256) (by omega) (by omega) (by omega) (by omega) (by omega) (by omega)]
 rw [or_u32 8 (x := a * 16777216 + b * 65536 + c * 256) (y := d) (by omega) (by omega) (by omega) (by omega) (by omega) (by omega)]
def imsg (l : List Int) : Int × Int × Int × Int × List Int × Int := if l.length < 8 then (0, 0, 0, 0, [], 20) else (l.getD 0 0, l.getD 1 0, g16 l 2, g32 l 4, l.drop 8, 0)
theorem iparse_eq {l : List Int} (h : IsB l) (hl : l.length ≤ 1000000000) : icmp_Parse.f l = some (imsg l) := by
 unfold icmp_Parse.f imsg
 by_cases h8 : l.length < 8
 ·rw [if_pos (by omega), if_pos h8]
 ·rw [if_neg (by omega), if_neg h8, if_pos (by omega), if_pos (by omega), if_pos (by omega), if_pos (by omega), if_pos (by omega), if_pos (by omega), if_pos (by omega), if_pos (by omega), if_pos (by omega), clone_eq _ (by rw [List.length_drop]; omega)]
  simp only [Option.bind_some]
  rw [rd_nat l 0 0 rfl, rd_nat l 1 1 rfl, rd_nat l 2 2 rfl, rd_nat l 3 3 rfl, rd_nat l 4 4 rfl, rd_nat l 5 5 rfl, rd_nat l 6 6 rfl, rd_nat l 7 7 rfl, word16 (h.getD 2) (h.getD 3), word32b (h.getD 4) (h.getD 5) (h.getD 6) (h.getD 7)]
  have e : g32 l 4 = (l.getD 4 0 * 256 + l.getD 5 0) * 65536 + (l.getD 6 0 * 256 + l.getD 7 0) := rfl
  rw [e, show (l.getD 4 0 * 256 + l.getD 5 0) * 65536 + (l.getD 6 0 * 256 + l.getD 7 0) = l.getD 4 0 * 16777216 + l.getD 5 0 * 65536 + l.getD 6 0 * 256 + l.getD 7 0 from by omega]
  rfl
theorem riparse_eq {l : List Int} (h : IsB l) (hl : l.length ≤ 1000000000) : lychref1_Icmp.f l = some (imsg l) := by
 unfold lychref1_Icmp.f imsg
 by_cases h8 : l.length < 8
 ·rw [if_pos (by omega), if_pos h8]
 ·have e2 := get16_eq h 2 (by omega) hl
  have e4 := get32_eq h 4 (by omega) hl
  have e8 := cut_eq l 8 l.length (by omega) (by omega) hl
  rw [show ((2 : Nat) : Int) = 2 from rfl] at e2
  rw [show ((4 : Nat) : Int) = 4 from rfl] at e4
  rw [show ((8 : Nat) : Int) = 8 from rfl] at e8
  rw [if_neg (by omega), if_neg h8, if_pos (by omega), if_pos (by omega), e2, e4, e8]
  simp only [Option.bind_some, List.take_length]
  rw [rd_nat l 0 0 rfl, rd_nat l 1 1 rfl]
def ibytes (t c s r : Int) (l : List Int) : List Int := [t, c, s / 256 % 256, s % 256, r / 16777216 % 256, r / 65536 % 256, r / 256 % 256, r % 256] ++ l
theorem ibytes_eq (t c s r : Int) {l : List Int} (hl : l.length ≤ 1000000000) : icmp_Bytes.f t c s r l = if (l.length : Int) > 65507 then some ([], 23) else some (ibytes t c s r l, 0) := by
 unfold icmp_Bytes.f ibytes
 rw [wrap64_id (by omega) (by omega)]
 by_cases h : (l.length : Int) > 65507
 ·rw [if_pos (by omega), if_pos h]
 ·rw [if_neg (by omega), if_neg h]
  simp only [Option.bind_some, List.length_cons, List.length_nil]
  rw [if_pos (by omega)]
theorem ribytes_eq (t c s r : Int) {l : List Int} (hl : l.length ≤ 1000000000) : lychref1_IcmpBytes.f t c s r l = if (l.length : Int) > 65507 then some ([], 23) else some (ibytes t c s r l, 0) := by
 unfold lychref1_IcmpBytes.f lychref1_Put16.f lychref1_Put32.f ibytes
 by_cases h : (l.length : Int) > 65507
 ·rw [if_pos h, if_pos h]
 ·rw [if_neg h, if_neg h]
  simp only [Option.bind_some, List.length_cons, List.length_nil, List.cons_append, List.nil_append]
  rw [if_pos (by omega)]
  simp only [Option.bind_some, List.length_cons, List.length_nil, List.cons_append, List.nil_append]
  rw [if_pos (by omega)]
  simp only [Option.bind_some, List.length_cons, List.length_nil, List.cons_append, List.nil_append]
  rw [if_pos (by omega)]
theorem ibytes_isB {t c s r : Int} {l : List Int} (ht : 0 ≤ t ∧ t ≤ 255) (hc : 0 ≤ c ∧ c ≤ 255) (h : IsB l) : IsB (ibytes t c s r l) :=
 IsB.append (.cons ht (.cons hc (.cons (by omega) (.cons (by omega) (.cons (by omega) (.cons (by omega) (.cons (by omega) (.cons (by omega) .nil)))))))) h
theorem ibytes_length (t c s r : Int) (l : List Int) : (ibytes t c s r l).length = 8 + l.length := by simp [ibytes]; omega
theorem risumf_eq (t c s r : Int) (l : List Int) (K : Nat) (hK : 4000 ≤ K) (hl : (l.length : Int) ≤ 3000) (hB : IsB (ibytes t c 0 r l)) : lychref1_IcmpSum.f K t c s r l = some (ck (ibytes t c 0 r l)) := by
 have hL := ibytes_length t c 0 r l
 unfold lychref1_IcmpSum.f
 rw [ribytes_eq _ _ _ _ (by omega), if_neg (by omega)]
 simp only [Option.bind_some, if_true]
 rw [SumEq.rof_eq _ hB (by omega) _ (by omega) (by omega)]
 simp only [Option.bind_some]
end Go.Proofs.Ytkmimamminddiaa.PureI
namespace Go.Proofs.Ytkmimamminddiaa.PB
open Go.RowKit Go.Proofs.YtkmimamminddiaaW.PrintWords Go.Proofs.YtkmimamminddiaaW.PrintLast Go.Proofs.YtkmimamminddiaaW.PrintMore
attribute [local go_sem] max2_int min2_int max_two min_two max_three min_three max_four min_four   -- for this text's walks alone
set_option linter.unusedVariables false
set_option linter.unusedSimpArgs false
mutual
def lychref1_Ip.j0 : Nat → List Int → Int → Int → Bool → Option (Int × Int × Int × Int × Int × Int × Int × Int × List Int × List Int × Int)
 | 0, _, _, _, _ => none
 | k + 1, x0, x4, x5, x33 => if x33 = true then (some (0, 0, 0, 0, 0, 0, 0, 0, ([] : List Int), ([] : List Int), 21)) else (if (x0.length : Int) < x4 then (lychref1_Ip.j1 k x0 x4 x5 true) else (lychref1_Ip.j1 k x0 x4 x5 (decide ((x0.length : Int) < x5))))
def lychref1_Ip.j1 : Nat → List Int → Int → Int → Bool → Option (Int × Int × Int × Int × Int × Int × Int × Int × List Int × List Int × Int)
 | 0, _, _, _, _ => none
 | k + 1, x0, x4, x5, x44 => if x44 = true then (some (0, 0, 0, 0, 0, 0, 0, 0, ([] : List Int), ([] : List Int), 20)) else (if 0 ≤ x4 then (if x4 ≤ (x0.length : Int) then ((lychref1_Add.f k 0 (x0.take (x4 : Int).toNat)).bind fun t562 => ((lychref1_Fold.f k t562).bind fun t563 => (if t563 = 65535 then ((lychref1_Get16.f x0 6).bind fun t564 => (if 1 < (x0.length : Int) then ((lychref1_Get16.f x0 4).bind fun t566 => (if 8 < (x0.length : Int) then (if 9 < (x0.length : Int) then ((lychref1_Get32.f x0 12).bind fun t569 => ((lychref1_Get32.f x0 16).bind fun t570 => ((lychref1_cut.f x0 20 x4).bind fun t571 => ((lychref1_cut.f x0 x4 x5).bind fun t574 => (some (rd x0 1, rd x0 8, rd x0 9, t566, (t564 / 8192) % 256, Go.bits .and .u16 t564 8191, t569, t570, t571, t574, 0)))))) else (none)) else (none))) else (none))) else (some (0, 0, 0, 0, 0, 0, 0, 0, ([] : List Int), ([] : List Int), 22))))) else (none)) else (none))
end
def lychref1_Ip.f (k : Nat) (l0 : List Int) : Option (Int × Int × Int × Int × Int × Int × Int × Int × List Int × List Int × Int) := if (l0.length : Int) < 20 then (some (0, 0, 0, 0, 0, 0, 0, 0, ([] : List Int), ([] : List Int), 20)) else (if 0 < (l0.length : Int) then ((lychref1_Get16.f l0 2).bind fun t559 => (if ((rd l0 0) / 16) = 4 then (if (wrap64 ((wrap64 (Go.bits .and .u8 (rd l0 0) 15)) * 4)) < 20 then (lychref1_Ip.j0 k l0 (wrap64 ((wrap64 (Go.bits .and .u8 (rd l0 0) 15)) * 4)) (wrap64 (t559)) true) else (lychref1_Ip.j0 k l0 (wrap64 ((wrap64 (Go.bits .and .u8 (rd l0 0) 15)) * 4)) (wrap64 (t559)) (decide ((wrap64 (t559)) < (wrap64 ((wrap64 (Go.bits .and .u8 (rd l0 0) 15)) * 4)))))) else (lychref1_Ip.j0 k l0 (wrap64 ((wrap64 (Go.bits .and .u8 (rd l0 0) 15)) * 4)) (wrap64 (t559)) true))) else (none))
def lychref1_Ip.T3 : Bool × List (List Nat × List Nat) := (true, [([], []), ([0], [0]), ([1], [1]), ([2], [2]), ([3], [3]), ([4], [4]), ([], []), ([6], [6]), ([7], [7]), ([5, 7, 0, 1, 2, 3, 4, 5], [5]), ([8, 9, 0, 1, 2, 3, 4, 5, 6, 7, 8, 9], [8])])
def lychref1_Ip.B3 : List Nat := [0, 1, 3, 7, 15, 31, 0, 64, 192, 255, 1023]
theorem lychref1_Ip.tab3 : rtab .any (opsOf Try.f38 3) = lychref1_Ip.T3 := by kernel_rfl
theorem lychref1_Ip.bits3 : waitsOk lychref1_Ip.T3.2 lychref1_Ip.B3 = true := by kernel_rfl
def lychref1_Ip.T11 : Bool × List (List Nat × List Nat) := (true, [([], []), ([0], [0]), ([1], [1]), ([], []), ([3], [3]), ([], []), ([5], [5]), ([6], [6]), ([], []), ([8], [8]), ([], []), ([10], [10]), ([11], [11]), ([], []), ([13], [13]), ([14], [14]), ([], []), ([16, 4], [16]), ([], []), ([18, 17], [18]), ([], []), ([], []), ([20, 21, 19], [20, 21]), ([], []), ([], []), ([], []), ([23, 24, 25, 22], [23, 24, 25]), ([2, 4, 7, 9, 12, 15, 17, 19, 22, 26], [2, 4, 7, 9, 12, 15, 17, 19, 22, 26]), ([27, 26, 0, 1, 2, 3, 4, 5, 6, 7, 8, 9, 10, 11, 12, 13, 14, 15, 16, 17, 18, 19, 20, 21, 22, 23, 24, 25, 26, 27], [27]), ([28, 0, 1, 2, 3, 4, 5, 6, 7, 8, 9, 10, 11, 12, 13, 14, 15, 16, 17, 18, 19, 20, 21, 22, 23, 24, 25, 26, 27, 28], [])])
def lychref1_Ip.B11 : List Nat := [0, 1, 3, 0, 8, 0, 32, 96, 0, 256, 0, 1024, 3072, 0, 8192, 24576, 0, 65560, 0, 458776, 0, 0, 4128792, 0, 0, 0, 67043352, 134217727, 268435455, 536870911]
theorem lychref1_Ip.tab11 : rtab .any (opsOf Try.f38 11) = lychref1_Ip.T11 := by kernel_rfl
theorem lychref1_Ip.bits11 : waitsOk lychref1_Ip.T11.2 lychref1_Ip.B11 = true := by kernel_rfl
theorem lychref1_Ip.calls (k : Nat) (A0 : Option Addr) (c0 : Nat) (l0 : List Int) (r1 : Int) (r2 : Int) (r3 : Int) (r4 : Int) (r5 : Int) (r6 : Int) (r7 : Int) (r8 : Int) (r9 : List Int) (r10 : List Int) (r11 : Int) (w : World) (hr0 : Kd.C (Kd.int .u8) w A0 l0.length l0) (hc0 : l0.length ≤ c0) (h : lychref1_Ip.f k l0 = some (r1, r2, r3, r4, r5, r6, r7, r8, r9, r10, r11)) :
  Calls Try.prog 38 #[.slice A0 l0.length c0] w fun e w' => ∃ v8_ v9_ : Value, e = .returned (.tuple #[.agg #[.int .u8 r1, .int .u8 r2, .int .u8 r3, .int .u16 r4, .int .u8 r5, .int .u16 r6, .int .u32 r7, .int .u32 r8, v8_, v9_], .int .i64 r11]) ∧ Kd.R (Kd.int .u8) 5 w' w.heap.size (fun k_ => some k_ ≠ (v9_ : Value).ownBlock) v8_ r9 ∧ Kd.R (Kd.int .u8) 5 w' w.heap.size (fun k_ => some k_ ≠ (v8_ : Value).ownBlock) v9_ r10 ∧ Below w.heap.size w w' := by
 have hu73 := Try.underlying73
 have HR0 := Aside0.mk hr0
 have HC0 := Aside0.mk hc0
 clear hr0 hc0
 have HB := Aside0.mk (Below.refl w.heap.size w)
 have H : (if (l0.length : Int) < 20 then (some (0, 0, 0, 0, 0, 0, 0, 0, ([] : List Int), ([] : List Int), 20)) else (if 0 < (l0.length : Int) then ((lychref1_Get16.f l0 2).bind fun t559 => (if ((rd l0 0) / 16) = 4 then (if (wrap64 ((wrap64 (Go.bits .and .u8 (rd l0 0) 15)) * 4)) < 20 then (lychref1_Ip.j0 k l0 (wrap64 ((wrap64 (Go.bits .and .u8 (rd l0 0) 15)) * 4)) (wrap64 (t559)) true) else (lychref1_Ip.j0 k l0 (wrap64 ((wrap64 (Go.bits .and .u8 (rd l0 0) 15)) * 4)) (wrap64 (t559)) (decide ((wrap64 (t559)) < (wrap64 ((wrap64 (Go.bits .and .u8 (rd l0 0) 15)) * 4)))))) else (lychref1_Ip.j0 k l0 (wrap64 ((wrap64 (Go.bits .and .u8 (rd l0 0) 15)) * 4)) (wrap64 (t559)) true))) else (none))) = some (r1, r2, r3, r4, r5, r6, r7, r8, r9, r10, r11) := h
 clear h
 by_cases c2 : (l0.length : Int) < 20
 ·rw [if_pos c2] at H
  have c2b0 : decide ((l0.length : Int) < 20) = true := decide_eq_true c2
  have c2b1 : decide (l0.length < 20) = true := decide_eq_true (by omega)
  clear c2
  simp only [Option.some.injEq, Prod.mk.injEq] at H
  obtain ⟨rfl, rfl, rfl, rfl, rfl, rfl, rfl, rfl, rfl, rfl, rfl⟩ := H
  go_enter Try.func38, Try.ntmps38
  go_wp2_with (first | ((with_reducible refine gate_dst (N := 2) rfl ?_); (try (refine gate_guard (by rfl) ?_; dsimp only)); refine box_event ?hg (N := 2) ?hd (cs := #[.int .u8 0, .int .u8 0, .int .u8 0, .int .u16 0, .int .u8 0, .int .u16 0, .int .u32 0, .int .u32 0, .slice none 0 0, .slice none 0 0]) (t := 73) ?hr ?_; (case hd => rfl); (case hg => rfl); (case hr => first | (go_simp; done) | (go_simp; rfl)); intro gb557 hg w3 hbox hb; have n0_ := Aside0.mk (below_step (bz HB) hb); have n1_ := Aside0.mk (hbox); have n2_ := Aside0.mk ((by rw [hg]; exact (below_size (bz HB)) : w.heap.size ≤ gb557)); have n3_ := Aside0.mk ((by rw [hg]; exact (below_size (bz HB)) : w.heap.size ≤ gb557)); clear HB; have HB := n0_; have BK557 := n1_; have GW557 := n2_; have GE557 := n3_; clear n0_ n1_ n2_ n3_; clear hb hbox hg; have hcz4_0 : w3.cell? ⟨gb557, 0, none⟩ = some (.int .u8 0) := cz BK557.out 0 rfl; have hcz4_1 : w3.cell? ⟨gb557, 1, none⟩ = some (.int .u8 0) := cz BK557.out 1 rfl; have hcz4_2 : w3.cell? ⟨gb557, 2, none⟩ = some (.int .u8 0) := cz BK557.out 2 rfl; have hcz4_3 : w3.cell? ⟨gb557, 3, none⟩ = some (.int .u16 0) := cz BK557.out 3 rfl; have hcz4_4 : w3.cell? ⟨gb557, 4, none⟩ = some (.int .u8 0) := cz BK557.out 4 rfl; have hcz4_5 : w3.cell? ⟨gb557, 5, none⟩ = some (.int .u16 0) := cz BK557.out 5 rfl; have hcz4_6 : w3.cell? ⟨gb557, 6, none⟩ = some (.int .u32 0) := cz BK557.out 6 rfl; have hcz4_7 : w3.cell? ⟨gb557, 7, none⟩ = some (.int .u32 0) := cz BK557.out 7 rfl; have hcz4_8 : w3.cell? ⟨gb557, 8, none⟩ = some (.slice none 0 0) := cz BK557.out 8 rfl; have hcz4_9 : w3.cell? ⟨gb557, 9, none⟩ = some (.slice none 0 0) := cz BK557.out 9 rfl; have hfz4_0 := blk_frozen BK557.out 0; have hfz4_1 := blk_frozen BK557.out 1; have hfz4_2 := blk_frozen BK557.out 2; have hfz4_3 := blk_frozen BK557.out 3; have hfz4_4 := blk_frozen BK557.out 4; have hfz4_5 := blk_frozen BK557.out 5; have hfz4_6 := blk_frozen BK557.out 6; have hfz4_7 := blk_frozen BK557.out 7; have hfz4_8 := blk_frozen BK557.out 8; have hfz4_9 := blk_frozen BK557.out 9))
  refine bodyPost_ret (results_ct rfl _ _ gb557 73 #[.int .u8 0, .int .u8 0, .int .u8 0, .int .u16 0, .int .u8 0, .int .u16 0, .int .u32 0, .int .u32 0, .slice none 0 0, .slice none 0 0] (0, 0) _ rfl (by (repeat (first | with_reducible refine blk_drewN ?_ _ | with_reducible refine blk_drew ?_ | with_reducible refine blk_alloc ?_ _ | refine blk_put (cs := #[.int .u8 0, .int .u8 0, .int .u8 0, .int .u16 0, .int .u8 0, .int .u16 0, .int .u32 0, .int .u32 0, .slice none 0 0, .slice none 0 0]) ?_ _ _ rfl)); (with_reducible repeat (first | refine blk_drewN ?_ _ | refine blk_drew ?_ | refine blk_alloc ?_ _)); exact BK557.out) Try.underlying73 rfl (by kernel_rfl)) rfl ?_
  exact ⟨_, _, by first | rfl | (simp [errW_none, errW_some] <;> rfl) | (simp [*, errW_none, errW_some] <;> rfl), by first | exact Kd.R_nil _ _ _ _ _ | exact Kd.N_nil _ _ _ _ _ | exact Kd.V_nil _ _ _ _ _ | exact Kd.Q_nil _ _ _ _ _ | exact Kd.S_nil _ _ _ _ _, by first | exact Kd.R_nil _ _ _ _ _ | exact Kd.N_nil _ _ _ _ _ | exact Kd.V_nil _ _ _ _ _ | exact Kd.Q_nil _ _ _ _ _ | exact Kd.S_nil _ _ _ _ _, bz HB⟩
 ·rw [if_neg c2] at H
  have c2b0 : decide ((l0.length : Int) < 20) = false := decide_eq_false c2
  have c2b1 : decide (l0.length < 20) = false := decide_eq_false (by omega)
  clear c2
  by_cases c5 : 0 < (l0.length : Int)
  ·rw [if_pos c5] at H
   have c5b0 : decide (0 < (l0.length : Int)) = true := decide_eq_true c5
   have c5b1 : decide (0 < l0.length) = true := decide_eq_true (by omega)
   clear c5
   replace H := Option.bind_eq_some_iff.mp H
   obtain ⟨t559, A60, H⟩ := H
   replace H : (if ((rd l0 0) / 16) = 4 then (if (wrap64 ((wrap64 (Go.bits .and .u8 (rd l0 0) 15)) * 4)) < 20 then (lychref1_Ip.j0 k l0 (wrap64 ((wrap64 (Go.bits .and .u8 (rd l0 0) 15)) * 4)) (wrap64 (t559)) true) else (lychref1_Ip.j0 k l0 (wrap64 ((wrap64 (Go.bits .and .u8 (rd l0 0) 15)) * 4)) (wrap64 (t559)) (decide ((wrap64 (t559)) < (wrap64 ((wrap64 (Go.bits .and .u8 (rd l0 0) 15)) * 4)))))) else (lychref1_Ip.j0 k l0 (wrap64 ((wrap64 (Go.bits .and .u8 (rd l0 0) 15)) * 4)) (wrap64 (t559)) true)) = some (r1, r2, r3, r4, r5, r6, r7, r8, r9, r10, r11) := H
   have A6 := Aside0.mk A60
   clear A60
   have HC7 := Aside0.mk H
   clear H
   go_enter Try.func38, Try.ntmps38
   try go_wp2_with (first | ((with_reducible refine gate_dst (N := 2) rfl ?_); (try (refine gate_guard (by rfl) ?_; dsimp only)); refine box_event ?hg (N := 2) ?hd (cs := #[.int .u8 0, .int .u8 0, .int .u8 0, .int .u16 0, .int .u8 0, .int .u16 0, .int .u32 0, .int .u32 0, .slice none 0 0, .slice none 0 0]) (t := 73) ?hr ?_; (case hd => rfl); (case hg => rfl); (case hr => first | (go_simp; done) | (go_simp; rfl)); intro gb557 hg w8 hbox hb; have n0_ := Aside0.mk (below_step (bz HB) hb); have n1_ := Aside0.mk (hbox); have n2_ := Aside0.mk ((by rw [hg]; exact (below_size (bz HB)) : w.heap.size ≤ gb557)); have n3_ := Aside0.mk ((by rw [hg]; exact (below_size (bz HB)) : w.heap.size ≤ gb557)); clear HB; have HB := n0_; have BK557 := n1_; have GW557 := n2_; have GE557 := n3_; clear n0_ n1_ n2_ n3_; clear hb hbox hg))
   have n0_ := Aside0.mk (blk_drew BK557.out)
   have n1_ := Aside0.mk (below_drew1 HB.out)
   clear BK557
   clear HB
   have BK557 := n0_
   have HB := n1_
   clear n0_ n1_
   have p558 : 0 ≤ (0 : Int) := (by omega)
   have q558 : 0 < (l0.length : Int) := of_decide_eq_true (by first | (with_reducible assumption) | assumption)
   obtain ⟨ad558, e558, hx558_0⟩ := Kd.at_int HR0.out 0 p558 q558
   have hw558_0 := hx558_0
   (try rw [show ((0 : Int)).toNat = 0 from rfl] at hw558_0)
   (try rw [show 0 * 1 = 0 from rfl] at hw558_0)
   (try rw [Addr.add_zero'] at hw558_0)
   cases e558
   have qi558 : (0 < l0.length) = True := eq_true (by omega)
   (try rw [show ((0 : Int)).toNat = 0 from rfl] at hx558_0)
   (try rw [Addr.add_zero'] at hx558_0)
   replace hx558_0 := (HB.out.cell (World.block_lt_of_cell? w _ hx558_0)).trans hx558_0
   replace p558 := eq_true p558
   replace q558 := eq_true q558
   refine start_ (n := 11) (S := fun w' => w'.cell? ad558 = some (.int .u8 (rd l0 0))) (ds := []) #[false, false, false, false, false, false, false, false, false, false, false] (by kernel_rfl) rfl rfl (((HB.out.cell (World.block_lt_of_cell? w _ hw558_0)).trans hw558_0)) (fun hHeld => ?_); refine with_tabW lychref1_Ip.tab3 lychref1_Ip.bits3 (fun HT_ HW_ => ?_)
   generalize w8.drew = w9 at BK557 HB hx558_0 hHeld ⊢
   refine pz 0 11 HT_ ?_
   refine pz 1 12 HT_ ?_
   refine pz 6 17 HT_ ?_
   refine tz 2 13 HT_ HW_ hHeld ?_
   refine pz 3 14 HT_ ?_
   refine pz 4 15 HT_ ?_
   refine pz 5 16 HT_ ?_
   refine oz 7 (some 18) HT_ (fun K hK => ?_)
   refine gG Try.func64 #[.slice (some ad558) l0.length c0, .int .i64 2] ?_
   with_reducible refine (lychref1_Get16.calls _ _ l0 2 t559 _ ?side1 ?side2 A6.out).mono ?_
   (case side1 => exact Kd.C_below HR0.out (bz HB))
   (case side2 => exact HC0.out)
   rintro e w' ⟨rfl, ⟨nd, rfl⟩⟩
   refine ⟨_, rfl, ?_⟩
   refine hK.out _ _ (((HB.out.cell (World.block_lt_of_cell? w _ hw558_0)).trans hw558_0)) (fun hHeld => ?_)
   clear hK K
   refine nz 18 ?_
   refine pz 8 19 HT_ ?_
   refine pz 9 4 HT_ ?_
   refine pz 10 5 HT_ ?_
   refine dz HT_ ?_
   go_upto_region 4 with (fail)
   go_cut [33] (fun v33 wc => ∃ (kq : Nat) (x33_6 : Bool), v33 = .bool x33_6 ∧ Aside0 (lychref1_Ip.j0 kq l0 (wrap64 ((wrap64 (Go.bits .and .u8 (rd l0 0) 15)) * 4)) (wrap64 (t559)) x33_6 = some (r1, r2, r3, r4, r5, r6, r7, r8, r9, r10, r11)) ∧ Aside0 (kq ≤ k) ∧ Aside0 (wc.heap[gb557]? = some (.cells #[.int .u8 0, .int .u8 0, .int .u8 0, .int .u16 0, .int .u8 0, .int .u16 0, .int .u32 0, .int .u32 0, (.slice none 0 0), (.slice none 0 0)] 73 (0, 0))) ∧ Aside0 (Below w.heap.size w wc))
   case first =>
    have H := HC7.out
    clear HC7
    by_cases c10 : ((rd l0 0) / 16) = 4
    ·rw [if_pos c10] at H
     have c10b0 : (((rd l0 0) / 16) == 4) = true := beq_iff_eq.mpr c10
     have c10b1 : (((rd l0 0) / 16) != 4) = false := bne_eq_false_iff_eq.mpr c10
     clear c10
     (first | rw [c10b0] | (simp only [i64_w, i32_w]; rw [c10b0]) | skip)
     by_cases c11 : (wrap64 ((wrap64 (Go.bits .and .u8 (rd l0 0) 15)) * 4)) < 20
     ·rw [if_pos c11] at H
      have c11b0 : decide ((wrap64 ((wrap64 (Go.bits .and .u8 (rd l0 0) 15)) * 4)) < 20) = true := decide_eq_true c11
      clear c11
      have H' := Aside0.mk H
      clear H
      have p560 : 0 ≤ (0 : Int) := (by omega)
      have q560 : 0 < (l0.length : Int) := of_decide_eq_true (by first | (with_reducible assumption) | assumption)
      obtain ⟨ad560, e560, hx560_0⟩ := Kd.at_int HR0.out 0 p560 q560
      obtain rfl : ad558 = ad560 := (by injection e560)
      have qi560 : (0 < l0.length) = True := eq_true (by omega)
      (try rw [show ((0 : Int)).toNat = 0 from rfl] at hx560_0)
      (try rw [Addr.add_zero'] at hx560_0)
      replace hx560_0 := (HB.out.cell (World.block_lt_of_cell? w _ hx560_0)).trans hx560_0
      replace p560 := eq_true p560
      replace q560 := eq_true q560
      go_wp2
      go_meet
      case rel => exact ⟨_, (true), (by first | rfl | (simp; done) | (simp [*]; done)), H', ⟨by first | omega | exact Nat.le_refl _⟩, ⟨kz BK557⟩, ⟨bz HB⟩⟩
     ·rw [if_neg c11] at H
      have c11b0 : decide ((wrap64 ((wrap64 (Go.bits .and .u8 (rd l0 0) 15)) * 4)) < 20) = false := decide_eq_false c11
      clear c11
      have H' := Aside0.mk H
      clear H
      have p560 : 0 ≤ (0 : Int) := (by omega)
      have q560 : 0 < (l0.length : Int) := of_decide_eq_true (by first | (with_reducible assumption) | assumption)
      obtain ⟨ad560, e560, hx560_0⟩ := Kd.at_int HR0.out 0 p560 q560
      obtain rfl : ad558 = ad560 := (by injection e560)
      have qi560 : (0 < l0.length) = True := eq_true (by omega)
      (try rw [show ((0 : Int)).toNat = 0 from rfl] at hx560_0)
      (try rw [Addr.add_zero'] at hx560_0)
      replace hx560_0 := (HB.out.cell (World.block_lt_of_cell? w _ hx560_0)).trans hx560_0
      replace p560 := eq_true p560
      replace q560 := eq_true q560
      go_wp2
      go_meet
      case rel => exact ⟨_, (decide ((wrap64 (t559)) < (wrap64 ((wrap64 (Go.bits .and .u8 (rd l0 0) 15)) * 4)))), (by first | rfl | (simp; done) | (simp [*]; done)), H', ⟨by first | omega | exact Nat.le_refl _⟩, ⟨kz BK557⟩, ⟨bz HB⟩⟩
    ·rw [if_neg c10] at H
     have c10b0 : (((rd l0 0) / 16) == 4) = false := beq_eq_false_iff_ne.mpr c10
     have c10b1 : (((rd l0 0) / 16) != 4) = true := bne_iff_ne.mpr c10
     (first | rw [c10b0] | (simp only [i64_w, i32_w]; rw [c10b0]) | skip)
     have H' := Aside0.mk H
     clear H
     have p560 : 0 ≤ (0 : Int) := (by omega)
     have q560 : 0 < (l0.length : Int) := of_decide_eq_true (by first | (with_reducible assumption) | assumption)
     obtain ⟨ad560, e560, hx560_0⟩ := Kd.at_int HR0.out 0 p560 q560
     obtain rfl : ad558 = ad560 := (by injection e560)
     have qi560 : (0 < l0.length) = True := eq_true (by omega)
     (try rw [show ((0 : Int)).toNat = 0 from rfl] at hx560_0)
     (try rw [Addr.add_zero'] at hx560_0)
     replace hx560_0 := (HB.out.cell (World.block_lt_of_cell? w _ hx560_0)).trans hx560_0
     replace p560 := eq_true p560
     replace q560 := eq_true q560
     go_wp2
     go_meet
     case rel => exact ⟨_, (true), (by first | rfl | (simp; done) | (simp [*]; done)), H', ⟨by first | omega | exact Nat.le_refl _⟩, ⟨kz BK557⟩, ⟨bz HB⟩⟩
   case rest =>
    clear HC7
    try clear c2
    try clear c2b0
    try clear c2b1
    try clear c5
    try clear c5b0
    try clear c5b1
    try clear hx558_0
    try clear p558
    try clear q558
    obtain ⟨kq, x33_6, rfl, HA, HJ6, BK557, HB⟩ := hcut
    cases kq with
    | zero => exact absurd HA.out (by simp [lychref1_Ip.j0])
    | succ kj6 =>
     have H := HA.out
     clear HA
     simp only [lychref1_Ip.j0] at H
     by_cases c12 : x33_6 = true
     ·subst c12
      have H1 : (some (0, 0, 0, 0, 0, 0, 0, 0, ([] : List Int), ([] : List Int), 21)) = some (r1, r2, r3, r4, r5, r6, r7, r8, r9, r10, r11) := by rw [if_pos rfl] at H; exact H
      clear H
      have H := H1
      clear H1
      simp only [Option.some.injEq, Prod.mk.injEq] at H
      obtain ⟨rfl, rfl, rfl, rfl, rfl, rfl, rfl, rfl, rfl, rfl, rfl⟩ := H
      have hcz13_0_ := cs10 BK557.out
      have hfz13_0_ := blk_frozen BK557.out
      go_wp2
      refine bodyPost_ret (results_ct rfl _ _ gb557 73 #[.int .u8 0, .int .u8 0, .int .u8 0, .int .u16 0, .int .u8 0, .int .u16 0, .int .u32 0, .int .u32 0, .slice none 0 0, .slice none 0 0] (0, 0) _ rfl (by (repeat (first | with_reducible refine blk_drewN ?_ _ | with_reducible refine blk_drew ?_ | with_reducible refine blk_alloc ?_ _ | refine blk_put (cs := #[.int .u8 0, .int .u8 0, .int .u8 0, .int .u16 0, .int .u8 0, .int .u16 0, .int .u32 0, .int .u32 0, .slice none 0 0, .slice none 0 0]) ?_ _ _ rfl)); (with_reducible repeat (first | refine blk_drewN ?_ _ | refine blk_drew ?_ | refine blk_alloc ?_ _)); exact BK557.out) Try.underlying73 rfl (by kernel_rfl)) rfl ?_
      exact ⟨_, _, by first | rfl | (simp [errW_none, errW_some] <;> rfl) | (simp [*, errW_none, errW_some] <;> rfl), by first | exact Kd.R_nil _ _ _ _ _ | exact Kd.N_nil _ _ _ _ _ | exact Kd.V_nil _ _ _ _ _ | exact Kd.Q_nil _ _ _ _ _ | exact Kd.S_nil _ _ _ _ _, by first | exact Kd.R_nil _ _ _ _ _ | exact Kd.N_nil _ _ _ _ _ | exact Kd.V_nil _ _ _ _ _ | exact Kd.Q_nil _ _ _ _ _ | exact Kd.S_nil _ _ _ _ _, bz HB⟩
     ·replace c12 := Bool.eq_false_iff.mpr c12
      subst c12
      have H1 : (if (l0.length : Int) < (wrap64 ((wrap64 (Go.bits .and .u8 (rd l0 0) 15)) * 4)) then (lychref1_Ip.j1 kj6 l0 (wrap64 ((wrap64 (Go.bits .and .u8 (rd l0 0) 15)) * 4)) (wrap64 (t559)) true) else (lychref1_Ip.j1 kj6 l0 (wrap64 ((wrap64 (Go.bits .and .u8 (rd l0 0) 15)) * 4)) (wrap64 (t559)) (decide ((l0.length : Int) < (wrap64 (t559)))))) = some (r1, r2, r3, r4, r5, r6, r7, r8, r9, r10, r11) := by rw [if_neg (show ¬ (false = true) by decide)] at H; exact H
      clear H
      have H := H1
      clear H1
      have HC14 := Aside0.mk H
      clear H
      go_upto_region 6 with (fail)
      go_cut [44] (fun v44 wc => ∃ (kq : Nat) (x44_13 : Bool), v44 = .bool x44_13 ∧ Aside0 (lychref1_Ip.j1 kq l0 (wrap64 ((wrap64 (Go.bits .and .u8 (rd l0 0) 15)) * 4)) (wrap64 (t559)) x44_13 = some (r1, r2, r3, r4, r5, r6, r7, r8, r9, r10, r11)) ∧ Aside0 (kq ≤ kj6) ∧ Aside0 (wc.heap[gb557]? = some (.cells #[.int .u8 0, .int .u8 0, .int .u8 0, .int .u16 0, .int .u8 0, .int .u16 0, .int .u32 0, .int .u32 0, (.slice none 0 0), (.slice none 0 0)] 73 (0, 0))) ∧ Aside0 (Below w.heap.size w wc))
      case first =>
       have H := HC14.out
       clear HC14
       by_cases c15 : (l0.length : Int) < (wrap64 ((wrap64 (Go.bits .and .u8 (rd l0 0) 15)) * 4))
       ·rw [if_pos c15] at H
        have c15b0 : decide ((l0.length : Int) < (wrap64 ((wrap64 (Go.bits .and .u8 (rd l0 0) 15)) * 4))) = true := decide_eq_true c15
        clear c15
        (first | rw [c15b0] | (simp only [i64_w, i32_w]; rw [c15b0]) | skip)
        have H' := Aside0.mk H
        clear H
        go_wp2
        go_meet
        case rel => exact ⟨_, (true), (by first | rfl | (simp; done) | (simp [*]; done)), H', ⟨by have := HJ6.out; first | omega | exact Nat.le_refl _⟩, ⟨kz BK557⟩, ⟨bz HB⟩⟩
       ·rw [if_neg c15] at H
        have c15b0 : decide ((l0.length : Int) < (wrap64 ((wrap64 (Go.bits .and .u8 (rd l0 0) 15)) * 4))) = false := decide_eq_false c15
        clear c15
        (first | rw [c15b0] | (simp only [i64_w, i32_w]; rw [c15b0]) | skip)
        have H' := Aside0.mk H
        clear H
        go_wp2
        go_meet
        case rel => exact ⟨_, (decide ((l0.length : Int) < (wrap64 (t559)))), (by first | rfl | (simp; done) | (simp [*]; done)), H', ⟨by have := HJ6.out; first | omega | exact Nat.le_refl _⟩, ⟨kz BK557⟩, ⟨bz HB⟩⟩
      case rest =>
       clear HC14
       try clear c2
       try clear c2b0
       try clear c2b1
       try clear c5
       try clear c5b0
       try clear c5b1
       try clear c12
       try clear hx558_0
       try clear p558
       try clear q558
       obtain ⟨kq, x44_13, rfl, HA, HJ13, BK557, HB⟩ := hcut
       cases kq with
       | zero => exact absurd HA.out (by simp [lychref1_Ip.j1])
       | succ kj13 =>
        have H := HA.out
        clear HA
        simp only [lychref1_Ip.j1] at H
        by_cases c16 : x44_13 = true
        ·subst c16
         have H1 : (some (0, 0, 0, 0, 0, 0, 0, 0, ([] : List Int), ([] : List Int), 20)) = some (r1, r2, r3, r4, r5, r6, r7, r8, r9, r10, r11) := by rw [if_pos rfl] at H; exact H
         clear H
         have H := H1
         clear H1
         simp only [Option.some.injEq, Prod.mk.injEq] at H
         obtain ⟨rfl, rfl, rfl, rfl, rfl, rfl, rfl, rfl, rfl, rfl, rfl⟩ := H
         have hcz17_0_ := cs10 BK557.out
         have hfz17_0_ := blk_frozen BK557.out
         go_wp2
         refine bodyPost_ret (results_ct rfl _ _ gb557 73 #[.int .u8 0, .int .u8 0, .int .u8 0, .int .u16 0, .int .u8 0, .int .u16 0, .int .u32 0, .int .u32 0, .slice none 0 0, .slice none 0 0] (0, 0) _ rfl (by (repeat (first | with_reducible refine blk_drewN ?_ _ | with_reducible refine blk_drew ?_ | with_reducible refine blk_alloc ?_ _ | refine blk_put (cs := #[.int .u8 0, .int .u8 0, .int .u8 0, .int .u16 0, .int .u8 0, .int .u16 0, .int .u32 0, .int .u32 0, .slice none 0 0, .slice none 0 0]) ?_ _ _ rfl)); (with_reducible repeat (first | refine blk_drewN ?_ _ | refine blk_drew ?_ | refine blk_alloc ?_ _)); exact BK557.out) Try.underlying73 rfl (by kernel_rfl)) rfl ?_
         exact ⟨_, _, by first | rfl | (simp [errW_none, errW_some] <;> rfl) | (simp [*, errW_none, errW_some] <;> rfl), by first | exact Kd.R_nil _ _ _ _ _ | exact Kd.N_nil _ _ _ _ _ | exact Kd.V_nil _ _ _ _ _ | exact Kd.Q_nil _ _ _ _ _ | exact Kd.S_nil _ _ _ _ _, by first | exact Kd.R_nil _ _ _ _ _ | exact Kd.N_nil _ _ _ _ _ | exact Kd.V_nil _ _ _ _ _ | exact Kd.Q_nil _ _ _ _ _ | exact Kd.S_nil _ _ _ _ _, bz HB⟩
        ·replace c16 := Bool.eq_false_iff.mpr c16
         subst c16
         have H1 : (if 0 ≤ (wrap64 ((wrap64 (Go.bits .and .u8 (rd l0 0) 15)) * 4)) then (if (wrap64 ((wrap64 (Go.bits .and .u8 (rd l0 0) 15)) * 4)) ≤ (l0.length : Int) then ((lychref1_Add.f kj13 0 (l0.take ((wrap64 ((wrap64 (Go.bits .and .u8 (rd l0 0) 15)) * 4)) : Int).toNat)).bind fun t562 => ((lychref1_Fold.f kj13 t562).bind fun t563 => (if t563 = 65535 then ((lychref1_Get16.f l0 6).bind fun t564 => (if 1 < (l0.length : Int) then ((lychref1_Get16.f l0 4).bind fun t566 => (if 8 < (l0.length : Int) then (if 9 < (l0.length : Int) then ((lychref1_Get32.f l0 12).bind fun t569 => ((lychref1_Get32.f l0 16).bind fun t570 => ((lychref1_cut.f l0 20 (wrap64 ((wrap64 (Go.bits .and .u8 (rd l0 0) 15)) * 4))).bind fun t571 => ((lychref1_cut.f l0 (wrap64 ((wrap64 (Go.bits .and .u8 (rd l0 0) 15)) * 4)) (wrap64 (t559))).bind fun t574 => (some (rd l0 1, rd l0 8, rd l0 9, t566, (t564 / 8192) % 256, Go.bits .and .u16 t564 8191, t569, t570, t571, t574, 0)))))) else (none)) else (none))) else (none))) else (some (0, 0, 0, 0, 0, 0, 0, 0, ([] : List Int), ([] : List Int), 22))))) else (none)) else (none)) = some (r1, r2, r3, r4, r5, r6, r7, r8, r9, r10, r11) := by rw [if_neg (show ¬ (false = true) by decide)] at H; exact H
         clear H
         have H := H1
         clear H1
         obtain ⟨ji18, hji18⟩ : ∃ j_ : Int, (wrap64 ((wrap64 (Go.bits .and .u8 (rd l0 0) 15)) * 4)) = j_ := ⟨_, rfl⟩
         replace H : (if 0 ≤ (ji18) then (if (ji18) ≤ (l0.length : Int) then ((lychref1_Add.f kj13 0 (l0.take ((ji18) : Int).toNat)).bind fun t562 => ((lychref1_Fold.f kj13 t562).bind fun t563 => (if t563 = 65535 then ((lychref1_Get16.f l0 6).bind fun t564 => (if 1 < (l0.length : Int) then ((lychref1_Get16.f l0 4).bind fun t566 => (if 8 < (l0.length : Int) then (if 9 < (l0.length : Int) then ((lychref1_Get32.f l0 12).bind fun t569 => ((lychref1_Get32.f l0 16).bind fun t570 => ((lychref1_cut.f l0 20 (ji18)).bind fun t571 => ((lychref1_cut.f l0 (ji18) (wrap64 (t559))).bind fun t574 => (some (rd l0 1, rd l0 8, rd l0 9, t566, (t564 / 8192) % 256, Go.bits .and .u16 t564 8191, t569, t570, t571, t574, 0)))))) else (none)) else (none))) else (none))) else (some (0, 0, 0, 0, 0, 0, 0, 0, ([] : List Int), ([] : List Int), 22))))) else (none)) else (none)) = some (r1, r2, r3, r4, r5, r6, r7, r8, r9, r10, r11) := by first | (rw [hji18] at H; exact H) | (simp only [hji18] at H ⊢; exact H)
         have hji18w : (IntKind.i64.wrap ((wrap64 (Go.bits .and .u8 (rd l0 0) 15)) * 4)) = ji18 := (i64_w _).trans hji18
         by_cases c19 : 0 ≤ (ji18)
         ·rw [if_pos c19] at H
          have c19b0 := eq_true c19
          have c19b1 : decide (0 ≤ (ji18)) = true := decide_eq_true c19
          clear c19
          by_cases c20 : (ji18) ≤ (l0.length : Int)
          ·rw [if_pos c20] at H
           have c20b0 := eq_true c20
           have c20b1 : decide ((ji18) ≤ (l0.length : Int)) = true := decide_eq_true c20
           clear c20
           replace H := Option.bind_eq_some_iff.mp H
           obtain ⟨t562, A210, H⟩ := H
           replace H : ((lychref1_Fold.f kj13 t562).bind fun t563 => (if t563 = 65535 then ((lychref1_Get16.f l0 6).bind fun t564 => (if 1 < (l0.length : Int) then ((lychref1_Get16.f l0 4).bind fun t566 => (if 8 < (l0.length : Int) then (if 9 < (l0.length : Int) then ((lychref1_Get32.f l0 12).bind fun t569 => ((lychref1_Get32.f l0 16).bind fun t570 => ((lychref1_cut.f l0 20 (ji18)).bind fun t571 => ((lychref1_cut.f l0 (ji18) (wrap64 (t559))).bind fun t574 => (some (rd l0 1, rd l0 8, rd l0 9, t566, (t564 / 8192) % 256, Go.bits .and .u16 t564 8191, t569, t570, t571, t574, 0)))))) else (none)) else (none))) else (none))) else (some (0, 0, 0, 0, 0, 0, 0, 0, ([] : List Int), ([] : List Int), 22)))) = some (r1, r2, r3, r4, r5, r6, r7, r8, r9, r10, r11) := H
           have A21 := Aside0.mk A210
           clear A210
           replace H := Option.bind_eq_some_iff.mp H
           obtain ⟨t563, A220, H⟩ := H
           replace H : (if t563 = 65535 then ((lychref1_Get16.f l0 6).bind fun t564 => (if 1 < (l0.length : Int) then ((lychref1_Get16.f l0 4).bind fun t566 => (if 8 < (l0.length : Int) then (if 9 < (l0.length : Int) then ((lychref1_Get32.f l0 12).bind fun t569 => ((lychref1_Get32.f l0 16).bind fun t570 => ((lychref1_cut.f l0 20 (ji18)).bind fun t571 => ((lychref1_cut.f l0 (ji18) (wrap64 (t559))).bind fun t574 => (some (rd l0 1, rd l0 8, rd l0 9, t566, (t564 / 8192) % 256, Go.bits .and .u16 t564 8191, t569, t570, t571, t574, 0)))))) else (none)) else (none))) else (none))) else (some (0, 0, 0, 0, 0, 0, 0, 0, ([] : List Int), ([] : List Int), 22))) = some (r1, r2, r3, r4, r5, r6, r7, r8, r9, r10, r11) := H
           have A22 := Aside0.mk A220
           clear A220
           by_cases c23 : t563 = 65535
           ·rw [if_pos c23] at H
            have c23b0 : (t563 == 65535) = true := beq_iff_eq.mpr c23
            have c23b1 : (t563 != 65535) = false := bne_eq_false_iff_eq.mpr c23
            clear c23
            replace H := Option.bind_eq_some_iff.mp H
            obtain ⟨t564, A240, H⟩ := H
            replace H : (if 1 < (l0.length : Int) then ((lychref1_Get16.f l0 4).bind fun t566 => (if 8 < (l0.length : Int) then (if 9 < (l0.length : Int) then ((lychref1_Get32.f l0 12).bind fun t569 => ((lychref1_Get32.f l0 16).bind fun t570 => ((lychref1_cut.f l0 20 (ji18)).bind fun t571 => ((lychref1_cut.f l0 (ji18) (wrap64 (t559))).bind fun t574 => (some (rd l0 1, rd l0 8, rd l0 9, t566, (t564 / 8192) % 256, Go.bits .and .u16 t564 8191, t569, t570, t571, t574, 0)))))) else (none)) else (none))) else (none)) = some (r1, r2, r3, r4, r5, r6, r7, r8, r9, r10, r11) := H
            have A24 := Aside0.mk A240
            clear A240
            by_cases c25 : 1 < (l0.length : Int)
            ·rw [if_pos c25] at H
             have c25b0 : decide (1 < (l0.length : Int)) = true := decide_eq_true c25
             have c25b1 : decide (1 < l0.length) = true := decide_eq_true (by omega)
             clear c25
             replace H := Option.bind_eq_some_iff.mp H
             obtain ⟨t566, A260, H⟩ := H
             replace H : (if 8 < (l0.length : Int) then (if 9 < (l0.length : Int) then ((lychref1_Get32.f l0 12).bind fun t569 => ((lychref1_Get32.f l0 16).bind fun t570 => ((lychref1_cut.f l0 20 (ji18)).bind fun t571 => ((lychref1_cut.f l0 (ji18) (wrap64 (t559))).bind fun t574 => (some (rd l0 1, rd l0 8, rd l0 9, t566, (t564 / 8192) % 256, Go.bits .and .u16 t564 8191, t569, t570, t571, t574, 0)))))) else (none)) else (none)) = some (r1, r2, r3, r4, r5, r6, r7, r8, r9, r10, r11) := H
             have A26 := Aside0.mk A260
             clear A260
             by_cases c27 : 8 < (l0.length : Int)
             ·rw [if_pos c27] at H
              have c27b0 : decide (8 < (l0.length : Int)) = true := decide_eq_true c27
              have c27b1 : decide (8 < l0.length) = true := decide_eq_true (by omega)
              clear c27
              by_cases c28 : 9 < (l0.length : Int)
              ·rw [if_pos c28] at H
               have c28b0 : decide (9 < (l0.length : Int)) = true := decide_eq_true c28
               have c28b1 : decide (9 < l0.length) = true := decide_eq_true (by omega)
               clear c28
               replace H := Option.bind_eq_some_iff.mp H
               obtain ⟨t569, A290, H⟩ := H
               replace H : ((lychref1_Get32.f l0 16).bind fun t570 => ((lychref1_cut.f l0 20 (ji18)).bind fun t571 => ((lychref1_cut.f l0 (ji18) (wrap64 (t559))).bind fun t574 => (some (rd l0 1, rd l0 8, rd l0 9, t566, (t564 / 8192) % 256, Go.bits .and .u16 t564 8191, t569, t570, t571, t574, 0))))) = some (r1, r2, r3, r4, r5, r6, r7, r8, r9, r10, r11) := H
               have A29 := Aside0.mk A290
               clear A290
               replace H := Option.bind_eq_some_iff.mp H
               obtain ⟨t570, A300, H⟩ := H
               replace H : ((lychref1_cut.f l0 20 (ji18)).bind fun t571 => ((lychref1_cut.f l0 (ji18) (wrap64 (t559))).bind fun t574 => (some (rd l0 1, rd l0 8, rd l0 9, t566, (t564 / 8192) % 256, Go.bits .and .u16 t564 8191, t569, t570, t571, t574, 0)))) = some (r1, r2, r3, r4, r5, r6, r7, r8, r9, r10, r11) := H
               have A30 := Aside0.mk A300
               clear A300
               replace H := Option.bind_eq_some_iff.mp H
               obtain ⟨t571, A310, H⟩ := H
               replace H : ((lychref1_cut.f l0 (ji18) (wrap64 (t559))).bind fun t574 => (some (rd l0 1, rd l0 8, rd l0 9, t566, (t564 / 8192) % 256, Go.bits .and .u16 t564 8191, t569, t570, t571, t574, 0))) = some (r1, r2, r3, r4, r5, r6, r7, r8, r9, r10, r11) := H
               have A31 := Aside0.mk A310
               clear A310
               replace H := Option.bind_eq_some_iff.mp H
               obtain ⟨t574, A320, H⟩ := H
               replace H : (some (rd l0 1, rd l0 8, rd l0 9, t566, (t564 / 8192) % 256, Go.bits .and .u16 t564 8191, t569, t570, t571, t574, 0)) = some (r1, r2, r3, r4, r5, r6, r7, r8, r9, r10, r11) := H
               have A32 := Aside0.mk A320
               clear A320
               simp only [Option.some.injEq, Prod.mk.injEq] at H
               obtain ⟨rfl, rfl, rfl, rfl, rfl, rfl, rfl, rfl, rfl, rfl, rfl⟩ := H
               obtain ⟨i033, hi033, _, hsz33, _⟩ := info_parts info5
               obtain ⟨hcut33, hA33, hC33⟩ := print_take_of (P := Try.prog) (Value.int .u8) 0 23 5 .i64 Try.underlying23 hi033 hsz33 (some ad558) c0 l0 (ji18) (of_decide_eq_true (by first | (with_reducible assumption) | assumption)) (of_decide_eq_true (by first | (with_reducible assumption) | assumption)) HC0.out
               have HR561 := Aside0.mk (Kd.C_of_reads (h1 := fun _ => rfl) (hA33 _ (Kd.reads_of_C HR0.out)))
               have HC561 := Aside0.mk hC33
               clear hA33 hC33 hi033 hsz33
               try go_wp2_with (first | ((with_reducible refine gate_callee (f := 80) rfl ?_); refine goesL_ (some 49) rfl rfl Try.func80 (by kernel_rfl) rfl #[.int .u32 0, .slice (some ad558) (l0.take ((ji18) : Int).toNat).length c0] rfl (by (try simp only [List.map_toArray, List.map_cons, List.map_nil]); first | done | (rw [show (l0.take ((ji18) : Int).toNat).length = (ji18).toNat from (by rw [List.length_take]; have h_ : ((ji18) : Int) ≤ (l0.length : Int) := of_decide_eq_true (by first | (with_reducible assumption) | assumption); omega)] <;> rfl) | (simp only [hji18]; rfl) | rfl | (simp only [List.length_drop, List.length_take]; rfl) | (go_simp; done) | (simp [Act.eval, IntKind.signed]; done) | (simp [Act.eval, IntKind.signed]; rfl)) ?_; (with_reducible refine (lychref1_Add.calls kj13 0 _ _ (l0.take ((ji18) : Int).toNat) t562 _ ?side1 ?side2 A21.out).mono ?_); (case side1 => exact Kd.C_below HR561.out (bz HB)); (case side2 => exact HC561.out); rintro e w34 ⟨rfl, hb⟩; refine ⟨_, rfl, ?_⟩; have n0_ := Aside0.mk (blk_below (kz BK557) hb); have n1_ := Aside0.mk (below_step (bz HB) hb); clear BK557; clear HB; have BK557 := n0_; have HB := n1_; clear n0_ n1_; (try clear hb); (try clear hb2); (try clear hk); (try clear hi)) | ((with_reducible refine gate_callee (f := 79) rfl ?_); refine gL 50 Try.func79 #[.int .u32 t562] ?_; (with_reducible refine (lychref1_Fold.calls kj13 t562 t563 _ A22.out).mono ?_); rintro e w' ⟨rfl, ⟨nd, rfl⟩⟩; refine ⟨_, rfl, ?_⟩; (try (rw [drewN_self w34]; generalize hq_ : World.drewN w34 _ = w34; have n0_ : Aside0 (w34.heap[gb557]? = some (.cells #[.int .u8 0, .int .u8 0, .int .u8 0, .int .u16 0, .int .u8 0, .int .u16 0, .int .u32 0, .int .u32 0, .slice none 0 0, .slice none 0 0] 73 (0, 0))) := ⟨by rw [← hq_]; exact (kz BK557)⟩; have n1_ : Aside0 (Below w.heap.size w w34) := ⟨by rw [← hq_]; exact bz HB⟩; clear BK557 HB hq_; have BK557 := n0_; have HB := n1_; clear n0_ n1_))) | ((with_reducible refine gate_callee (f := 64) rfl ?_); refine gL 54 Try.func64 #[.slice (some ad558) l0.length c0, .int .i64 6] ?_; (with_reducible refine (lychref1_Get16.calls _ _ l0 6 t564 _ ?side1 ?side2 A24.out).mono ?_); (case side1 => exact Kd.C_below HR0.out (bz HB)); (case side2 => exact HC0.out); rintro e w' ⟨rfl, ⟨nd, rfl⟩⟩; refine ⟨_, rfl, ?_⟩; (try (rw [drewN_self w34]; generalize hq_ : World.drewN w34 _ = w34; have n0_ : Aside0 (w34.heap[gb557]? = some (.cells #[.int .u8 0, .int .u8 0, .int .u8 0, .int .u16 0, .int .u8 0, .int .u16 0, .int .u32 0, .int .u32 0, .slice none 0 0, .slice none 0 0] 73 (0, 0))) := ⟨by rw [← hq_]; exact (kz BK557)⟩; have n1_ : Aside0 (Below w.heap.size w w34) := ⟨by rw [← hq_]; exact bz HB⟩; clear BK557 HB hq_; have BK557 := n0_; have HB := n1_; clear n0_ n1_))))
               have n0_ := Aside0.mk (blk_drew BK557.out)
               have n1_ := Aside0.mk (below_drew1 HB.out)
               clear BK557
               clear HB
               have BK557 := n0_
               have HB := n1_
               clear n0_ n1_
               have p565 : 0 ≤ (1 : Int) := (by omega)
               have q565 : 1 < (l0.length : Int) := of_decide_eq_true (by first | (with_reducible assumption) | assumption)
               obtain ⟨ad565, e565, hx565_0⟩ := Kd.at_int HR0.out 1 p565 q565
               have hw565_0 := hx565_0
               (try rw [show ((1 : Int)).toNat = 1 from rfl] at hw565_0)
               (try rw [show 1 * 1 = 1 from rfl] at hw565_0)
               (try simp only [Nat.reduceMul, Nat.reduceEqDiff, Go.Addr.add, ↓reduceIte] at hw565_0)
               obtain rfl : ad558 = ad565 := (by injection e565)
               (try simp only [show (1 : Int).toNat = 1 from rfl, Nat.reduceMul, Nat.reduceEqDiff, Go.Addr.add, ↓reduceIte] at hx565_0)
               have qi565 : (1 < l0.length) = True := eq_true (by omega)
               (try rw [show ((1 : Int)).toNat = 1 from rfl] at hx565_0)
               replace hx565_0 := (HB.out.cell (World.block_lt_of_cell? w _ hx565_0)).trans hx565_0
               replace p565 := eq_true p565
               replace q565 := eq_true q565
               have p567 : 0 ≤ (8 : Int) := (by omega)
               have q567 : 8 < (l0.length : Int) := of_decide_eq_true (by first | (with_reducible assumption) | assumption)
               obtain ⟨ad567, e567, hx567_0⟩ := Kd.at_int HR0.out 8 p567 q567
               have hw567_0 := hx567_0
               (try rw [show ((8 : Int)).toNat = 8 from rfl] at hw567_0)
               (try rw [show 8 * 1 = 8 from rfl] at hw567_0)
               (try simp only [Nat.reduceMul, Nat.reduceEqDiff, Go.Addr.add, ↓reduceIte] at hw567_0)
               obtain rfl : ad558 = ad567 := (by injection e567)
               (try simp only [show (8 : Int).toNat = 8 from rfl, Nat.reduceMul, Nat.reduceEqDiff, Go.Addr.add, ↓reduceIte] at hx567_0)
               have qi567 : (8 < l0.length) = True := eq_true (by omega)
               (try rw [show ((8 : Int)).toNat = 8 from rfl] at hx567_0)
               replace hx567_0 := (HB.out.cell (World.block_lt_of_cell? w _ hx567_0)).trans hx567_0
               replace p567 := eq_true p567
               replace q567 := eq_true q567
               have p568 : 0 ≤ (9 : Int) := (by omega)
               have q568 : 9 < (l0.length : Int) := of_decide_eq_true (by first | (with_reducible assumption) | assumption)
               obtain ⟨ad568, e568, hx568_0⟩ := Kd.at_int HR0.out 9 p568 q568
               have hw568_0 := hx568_0
               (try rw [show ((9 : Int)).toNat = 9 from rfl] at hw568_0)
               (try rw [show 9 * 1 = 9 from rfl] at hw568_0)
               (try simp only [Nat.reduceMul, Nat.reduceEqDiff, Go.Addr.add, ↓reduceIte] at hw568_0)
               obtain rfl : ad558 = ad568 := (by injection e568)
               (try simp only [show (9 : Int).toNat = 9 from rfl, Nat.reduceMul, Nat.reduceEqDiff, Go.Addr.add, ↓reduceIte] at hx568_0)
               have qi568 : (9 < l0.length) = True := eq_true (by omega)
               (try rw [show ((9 : Int)).toNat = 9 from rfl] at hx568_0)
               replace hx568_0 := (HB.out.cell (World.block_lt_of_cell? w _ hx568_0)).trans hx568_0
               replace p568 := eq_true p568
               replace q568 := eq_true q568
               refine start_ (n := 30) (S := fun w' => w'.cell? ⟨ad558.block, ad558.off + 1, none⟩ = some (.int .u8 (rd l0 1)) ∧ w'.cell? ⟨ad558.block, ad558.off + 8, none⟩ = some (.int .u8 (rd l0 8)) ∧ w'.cell? ⟨ad558.block, ad558.off + 9, none⟩ = some (.int .u8 (rd l0 9))) (ds := []) #[false, false, false, false, false, false, false, false, false, false, false, false, false, false, false, false, false, false, false, false, false, false, false, false, false, false, false, false, false, false] (by kernel_rfl) rfl rfl ⟨((HB.out.cell (World.block_lt_of_cell? w _ hw565_0)).trans hw565_0), ((HB.out.cell (World.block_lt_of_cell? w _ hw567_0)).trans hw567_0), ((HB.out.cell (World.block_lt_of_cell? w _ hw568_0)).trans hw568_0)⟩ (fun hHeld => ?_); refine with_tabW lychref1_Ip.tab11 lychref1_Ip.bits11 (fun HT_ HW_ => ?_)
               generalize w34.drew = w35 at BK557 HB hx565_0 hx567_0 hx568_0 hHeld ⊢
               refine pz 0 55 HT_ ?_
               refine pz 1 56 HT_ ?_
               refine pz 3 58 HT_ ?_
               refine pz 5 60 HT_ ?_
               refine pz 6 61 HT_ ?_
               refine pz 7 62 HT_ ?_
               refine pz 8 63 HT_ ?_
               refine pz 9 64 HT_ ?_
               refine pz 10 65 HT_ ?_
               refine pz 11 66 HT_ ?_
               refine pz 13 68 HT_ ?_
               refine pz 14 69 HT_ ?_
               refine pz 16 71 HT_ ?_
               refine pz 18 73 HT_ ?_
               refine pz 20 75 HT_ ?_
               refine pz 21 76 HT_ ?_
               refine pz 23 78 HT_ ?_
               refine pz 24 79 HT_ ?_
               refine pz 25 80 HT_ ?_
               refine take_ (i := 2) (N := some 57) (v := ?_) (a' := ?_) #[true, true, true, true, false, true, true, true, true, true, true, true, false, true, true, false, true, false, true, false, true, true, false, true, true, true, false, false, false, false] rfl rfl (take_ofW HT_.out HW_.out (by kernel_rfl)) (fun _ _ _ h => h) (Or.inl ⟨by rfl, ?_⟩) hHeld ?_ ?_
               rotate_left
               ·rintro w' ⟨s0, s1, s2⟩
                go_simp
                with_reducible rfl
               rotate_left
               ·simp only [ps_]
                rfl
               refine take_ (i := 12) (N := some 67) (v := ?_) (a' := ?_) #[true, true, true, true, false, true, true, true, true, true, true, true, true, true, true, false, true, false, true, false, true, true, false, true, true, true, false, false, false, false] rfl rfl (take_ofW HT_.out HW_.out (by kernel_rfl)) (fun _ _ _ h => h) (Or.inl ⟨by rfl, ?_⟩) hHeld ?_ ?_
               rotate_left
               ·rintro w' ⟨s0, s1, s2⟩
                go_simp
                with_reducible rfl
               rotate_left
               ·simp only [ps_]
                rfl
               refine take_ (i := 15) (N := some 70) (v := ?_) (a' := ?_) #[true, true, true, true, false, true, true, true, true, true, true, true, true, true, true, true, true, false, true, false, true, true, false, true, true, true, false, false, false, false] rfl rfl (take_ofW HT_.out HW_.out (by kernel_rfl)) (fun _ _ _ h => h) (Or.inl ⟨by rfl, ?_⟩) hHeld ?_ ?_
               rotate_left
               ·rintro w' ⟨s0, s1, s2⟩
                go_simp
                with_reducible rfl
               rotate_left
               ·simp only [ps_]
                rfl
               refine oz 4 (some 59) HT_ (fun K hK => ?_)
               refine gG Try.func64 #[.slice (some ad558) l0.length c0, .int .i64 4] ?_
               with_reducible refine (lychref1_Get16.calls _ _ l0 4 t566 _ ?side1 ?side2 A26.out).mono ?_
               (case side1 => exact Kd.C_below HR0.out (bz HB))
               (case side2 => exact HC0.out)
               rintro e w' ⟨rfl, ⟨nd, rfl⟩⟩
               refine ⟨_, rfl, ?_⟩
               refine hK.out _ _ ⟨((HB.out.cell (World.block_lt_of_cell? w _ hw565_0)).trans hw565_0), ((HB.out.cell (World.block_lt_of_cell? w _ hw567_0)).trans hw567_0), ((HB.out.cell (World.block_lt_of_cell? w _ hw568_0)).trans hw568_0)⟩ (fun hHeld => ?_)
               clear hK K
               refine nz 59 ?_
               refine oz 17 (some 72) HT_ (fun K hK => ?_)
               refine gG Try.func81 #[.slice (some ad558) l0.length c0, .int .i64 12] ?_
               with_reducible refine (lychref1_Get32.calls _ _ l0 12 t569 _ ?side1 ?side2 A29.out).mono ?_
               (case side1 => exact Kd.C_below HR0.out (bz HB))
               (case side2 => exact HC0.out)
               rintro e w' ⟨rfl, ⟨nd, rfl⟩⟩
               refine ⟨_, rfl, ?_⟩
               refine hK.out _ _ ⟨((HB.out.cell (World.block_lt_of_cell? w _ hw565_0)).trans hw565_0), ((HB.out.cell (World.block_lt_of_cell? w _ hw567_0)).trans hw567_0), ((HB.out.cell (World.block_lt_of_cell? w _ hw568_0)).trans hw568_0)⟩ (fun hHeld => ?_)
               clear hK K
               refine nz 72 ?_
               refine oz 19 (some 74) HT_ (fun K hK => ?_)
               refine gG Try.func81 #[.slice (some ad558) l0.length c0, .int .i64 16] ?_
               with_reducible refine (lychref1_Get32.calls _ _ l0 16 t570 _ ?side1 ?side2 A30.out).mono ?_
               (case side1 => exact Kd.C_below HR0.out (bz HB))
               (case side2 => exact HC0.out)
               rintro e w' ⟨rfl, ⟨nd, rfl⟩⟩
               refine ⟨_, rfl, ?_⟩
               refine hK.out _ _ ⟨((HB.out.cell (World.block_lt_of_cell? w _ hw565_0)).trans hw565_0), ((HB.out.cell (World.block_lt_of_cell? w _ hw567_0)).trans hw567_0), ((HB.out.cell (World.block_lt_of_cell? w _ hw568_0)).trans hw568_0)⟩ (fun hHeld => ?_)
               clear hK K
               refine nz 74 ?_
               refine oz 22 (some 77) HT_ (fun K hK => ?_)
               refine goes_ Try.func65 (by kernel_rfl) rfl #[.slice (some ad558) l0.length c0, .int .i64 20, .int .i64 (ji18)] (by rfl) rfl rfl (by (try simp only [List.map_toArray, List.map_cons, List.map_nil]); first | done | (simp only [hji18]; rfl) | rfl | (simp only [List.length_drop, List.length_take]; rfl) | (go_simp; done) | (simp [Act.eval, IntKind.signed]; done) | (simp [Act.eval, IntKind.signed]; rfl)) ?_
               with_reducible refine (lychref1_cut.calls _ _ l0 20 (ji18) t571 _ ?side1 ?side2 A31.out).mono ?_
               (case side1 => exact Kd.C_below HR0.out (bz HB))
               (case side2 => exact HC0.out)
               rintro e w36 ⟨v572, rfl, ho0, hb⟩
               refine ⟨_, rfl, ?_⟩
               have n0_ := Aside0.mk (Kd.R_lower ho0 (below_size (bz HB)))
               have n1_ := Aside0.mk (blk_below (kz BK557) hb)
               have n2_ := Aside0.mk (below_step (bz HB) hb)
               clear BK557
               clear HB
               have HO573 := n0_
               have BK557 := n1_
               have HB := n2_
               clear n0_ n1_ n2_
               (try clear hb)
               (try clear hb2)
               (try clear hk)
               (try clear hi)
               (try clear ho0)
               refine hK.out _ _ ⟨((HB.out.cell (World.block_lt_of_cell? w _ hw565_0)).trans hw565_0), ((HB.out.cell (World.block_lt_of_cell? w _ hw567_0)).trans hw567_0), ((HB.out.cell (World.block_lt_of_cell? w _ hw568_0)).trans hw568_0)⟩ (fun hHeld => ?_)
               clear hK K
               refine nz 77 ?_
               refine oz 26 (some 81) HT_ (fun K hK => ?_)
               refine goes_ Try.func65 (by kernel_rfl) rfl #[.slice (some ad558) l0.length c0, .int .i64 (ji18), .int .i64 (wrap64 (t559))] (by rfl) rfl rfl (by (try simp only [List.map_toArray, List.map_cons, List.map_nil]); first | done | (simp only [hji18]; rfl) | rfl | (simp only [List.length_drop, List.length_take]; rfl) | (go_simp; done) | (simp [Act.eval, IntKind.signed]; done) | (simp [Act.eval, IntKind.signed]; rfl)) ?_
               with_reducible refine (lychref1_cut.calls _ _ l0 (ji18) (wrap64 (t559)) t574 _ ?side1 ?side2 A32.out).mono ?_
               (case side1 => exact Kd.C_below HR0.out (bz HB))
               (case side2 => exact HC0.out)
               rintro e w37 ⟨v575, rfl, ho0, hb⟩
               refine ⟨_, rfl, ?_⟩
               have n0_ := Aside0.mk (Kd.R_elder' (Kd.rz HO573) (Kd.R_base ho0) hb)
               have n1_ := Aside0.mk (Kd.R_lower (Kd.R_new' ho0 (Kd.R_lt (Kd.rz HO573))) (below_size (bz HB)))
               have n2_ := Aside0.mk (blk_below (kz BK557) hb)
               have n3_ := Aside0.mk (below_step (bz HB) hb)
               clear HO573
               clear BK557
               clear HB
               have HO573 := n0_
               have HO576 := n1_
               have BK557 := n2_
               have HB := n3_
               clear n0_ n1_ n2_ n3_
               (try clear hb)
               (try clear hb2)
               (try clear hk)
               (try clear hi)
               (try clear ho0)
               obtain ⟨Ao38, co38, eo38⟩ := Kd.R_slice HO576.out
               (first | subst eo38 | (injection eo38 with f1_ f2_ f3_; have f4_ := f1_.symm; have f5_ := f3_.symm; clear f1_ f2_ f3_; subst f4_; subst f5_))
               obtain ⟨Ao39, co39, eo39⟩ := Kd.R_slice HO573.out
               (first | subst eo39 | (injection eo39 with f1_ f2_ f3_; have f4_ := f1_.symm; have f5_ := f3_.symm; clear f1_ f2_ f3_; subst f4_; subst f5_))
               refine hK.out _ _ ⟨((HB.out.cell (World.block_lt_of_cell? w _ hw565_0)).trans hw565_0), ((HB.out.cell (World.block_lt_of_cell? w _ hw567_0)).trans hw567_0), ((HB.out.cell (World.block_lt_of_cell? w _ hw568_0)).trans hw568_0)⟩ (fun hHeld => ?_)
               clear hK K
               refine nz 81 ?_
               refine pz 27 82 HT_ ?_
               refine oz 28 (none) HT_ (fun K hK => ?_)
               have hs40_ := cs10 BK557.out
               have hfs40_ := blk_frozen BK557.out
               refine skip_ (w1 := ?_) (by rfl) rfl ?_ ?_
               rotate_left
               ·go_simp
                rfl
               refine hK.out _ _ ⟨((cell_far (p := ⟨gb557, _, none⟩) (by first | exact far1 hw565_0 GW557.out | exact far2 hw565_0 GW557.out) _).trans (((cell_far (p := ⟨gb557, _, none⟩) (by first | exact far1 hw565_0 GW557.out | exact far2 hw565_0 GW557.out) _).trans (((cell_far (p := ⟨gb557, _, none⟩) (by first | exact far1 hw565_0 GW557.out | exact far2 hw565_0 GW557.out) _).trans (((cell_far (p := ⟨gb557, _, none⟩) (by first | exact far1 hw565_0 GW557.out | exact far2 hw565_0 GW557.out) _).trans (((cell_far (p := ⟨gb557, _, none⟩) (by first | exact far1 hw565_0 GW557.out | exact far2 hw565_0 GW557.out) _).trans (((cell_far (p := ⟨gb557, _, none⟩) (by first | exact far1 hw565_0 GW557.out | exact far2 hw565_0 GW557.out) _).trans (((cell_far (p := ⟨gb557, _, none⟩) (by first | exact far1 hw565_0 GW557.out | exact far2 hw565_0 GW557.out) _).trans (((cell_far (p := ⟨gb557, _, none⟩) (by first | exact far1 hw565_0 GW557.out | exact far2 hw565_0 GW557.out) _).trans (((cell_far (p := ⟨gb557, _, none⟩) (by first | exact far1 hw565_0 GW557.out | exact far2 hw565_0 GW557.out) _).trans (((cell_far (p := ⟨gb557, _, none⟩) (by first | exact far1 hw565_0 GW557.out | exact far2 hw565_0 GW557.out) _).trans (hHeld.1)))))))))))))))))))), ((cell_far (p := ⟨gb557, _, none⟩) (by first | exact far1 hw567_0 GW557.out | exact far2 hw567_0 GW557.out) _).trans (((cell_far (p := ⟨gb557, _, none⟩) (by first | exact far1 hw567_0 GW557.out | exact far2 hw567_0 GW557.out) _).trans (((cell_far (p := ⟨gb557, _, none⟩) (by first | exact far1 hw567_0 GW557.out | exact far2 hw567_0 GW557.out) _).trans (((cell_far (p := ⟨gb557, _, none⟩) (by first | exact far1 hw567_0 GW557.out | exact far2 hw567_0 GW557.out) _).trans (((cell_far (p := ⟨gb557, _, none⟩) (by first | exact far1 hw567_0 GW557.out | exact far2 hw567_0 GW557.out) _).trans (((cell_far (p := ⟨gb557, _, none⟩) (by first | exact far1 hw567_0 GW557.out | exact far2 hw567_0 GW557.out) _).trans (((cell_far (p := ⟨gb557, _, none⟩) (by first | exact far1 hw567_0 GW557.out | exact far2 hw567_0 GW557.out) _).trans (((cell_far (p := ⟨gb557, _, none⟩) (by first | exact far1 hw567_0 GW557.out | exact far2 hw567_0 GW557.out) _).trans (((cell_far (p := ⟨gb557, _, none⟩) (by first | exact far1 hw567_0 GW557.out | exact far2 hw567_0 GW557.out) _).trans (((cell_far (p := ⟨gb557, _, none⟩) (by first | exact far1 hw567_0 GW557.out | exact far2 hw567_0 GW557.out) _).trans (hHeld.2.1)))))))))))))))))))), ((cell_far (p := ⟨gb557, _, none⟩) (by first | exact far1 hw568_0 GW557.out | exact far2 hw568_0 GW557.out) _).trans (((cell_far (p := ⟨gb557, _, none⟩) (by first | exact far1 hw568_0 GW557.out | exact far2 hw568_0 GW557.out) _).trans (((cell_far (p := ⟨gb557, _, none⟩) (by first | exact far1 hw568_0 GW557.out | exact far2 hw568_0 GW557.out) _).trans (((cell_far (p := ⟨gb557, _, none⟩) (by first | exact far1 hw568_0 GW557.out | exact far2 hw568_0 GW557.out) _).trans (((cell_far (p := ⟨gb557, _, none⟩) (by first | exact far1 hw568_0 GW557.out | exact far2 hw568_0 GW557.out) _).trans (((cell_far (p := ⟨gb557, _, none⟩) (by first | exact far1 hw568_0 GW557.out | exact far2 hw568_0 GW557.out) _).trans (((cell_far (p := ⟨gb557, _, none⟩) (by first | exact far1 hw568_0 GW557.out | exact far2 hw568_0 GW557.out) _).trans (((cell_far (p := ⟨gb557, _, none⟩) (by first | exact far1 hw568_0 GW557.out | exact far2 hw568_0 GW557.out) _).trans (((cell_far (p := ⟨gb557, _, none⟩) (by first | exact far1 hw568_0 GW557.out | exact far2 hw568_0 GW557.out) _).trans (((cell_far (p := ⟨gb557, _, none⟩) (by first | exact far1 hw568_0 GW557.out | exact far2 hw568_0 GW557.out) _).trans (hHeld.2.2))))))))))))))))))))⟩ (fun hHeld => ?_)
               clear hK K
               refine pz 29 3 HT_ ?_
               refine dz HT_ ?_
               try go_wp2
               refine bodyPost_ret (results_ct rfl _ _ gb557 73 #[.int .u8 (rd l0 1), .int .u8 (rd l0 8), .int .u8 (rd l0 9), .int .u16 t566, .int .u8 ((t564 / 8192) % 256), .int .u16 (Go.bits .and .u16 t564 8191), .int .u32 t569, .int .u32 t570, .slice Ao39 t571.length co39, .slice Ao38 t574.length co38] (0, 0) _ rfl (by (with_reducible repeat (first | refine blk_drewN ?_ _ | refine blk_drew ?_ | refine blk_alloc ?_ _)); refine blk_put (cs := #[.int .u8 (rd l0 1), .int .u8 (rd l0 8), .int .u8 (rd l0 9), .int .u16 t566, .int .u8 ((t564 / 8192) % 256), .int .u16 (Go.bits .and .u16 t564 8191), .int .u32 t569, .int .u32 t570, .slice Ao39 t571.length co39, .slice none 0 0]) ?_ 9 _ rfl; (with_reducible repeat (first | refine blk_drewN ?_ _ | refine blk_drew ?_ | refine blk_alloc ?_ _)); refine blk_put (cs := #[.int .u8 (rd l0 1), .int .u8 (rd l0 8), .int .u8 (rd l0 9), .int .u16 t566, .int .u8 ((t564 / 8192) % 256), .int .u16 (Go.bits .and .u16 t564 8191), .int .u32 t569, .int .u32 t570, .slice none 0 0, .slice none 0 0]) ?_ 8 _ rfl; (with_reducible repeat (first | refine blk_drewN ?_ _ | refine blk_drew ?_ | refine blk_alloc ?_ _)); refine blk_put (cs := #[.int .u8 (rd l0 1), .int .u8 (rd l0 8), .int .u8 (rd l0 9), .int .u16 t566, .int .u8 ((t564 / 8192) % 256), .int .u16 (Go.bits .and .u16 t564 8191), .int .u32 t569, .int .u32 0, .slice none 0 0, .slice none 0 0]) ?_ 7 _ rfl; (with_reducible repeat (first | refine blk_drewN ?_ _ | refine blk_drew ?_ | refine blk_alloc ?_ _)); refine blk_put (cs := #[.int .u8 (rd l0 1), .int .u8 (rd l0 8), .int .u8 (rd l0 9), .int .u16 t566, .int .u8 ((t564 / 8192) % 256), .int .u16 (Go.bits .and .u16 t564 8191), .int .u32 0, .int .u32 0, .slice none 0 0, .slice none 0 0]) ?_ 6 _ rfl; (with_reducible repeat (first | refine blk_drewN ?_ _ | refine blk_drew ?_ | refine blk_alloc ?_ _)); refine blk_put (cs := #[.int .u8 (rd l0 1), .int .u8 (rd l0 8), .int .u8 (rd l0 9), .int .u16 t566, .int .u8 ((t564 / 8192) % 256), .int .u16 0, .int .u32 0, .int .u32 0, .slice none 0 0, .slice none 0 0]) ?_ 5 _ rfl; (with_reducible repeat (first | refine blk_drewN ?_ _ | refine blk_drew ?_ | refine blk_alloc ?_ _)); refine blk_put (cs := #[.int .u8 (rd l0 1), .int .u8 (rd l0 8), .int .u8 (rd l0 9), .int .u16 t566, .int .u8 0, .int .u16 0, .int .u32 0, .int .u32 0, .slice none 0 0, .slice none 0 0]) ?_ 4 _ rfl; (with_reducible repeat (first | refine blk_drewN ?_ _ | refine blk_drew ?_ | refine blk_alloc ?_ _)); refine blk_put (cs := #[.int .u8 (rd l0 1), .int .u8 (rd l0 8), .int .u8 (rd l0 9), .int .u16 0, .int .u8 0, .int .u16 0, .int .u32 0, .int .u32 0, .slice none 0 0, .slice none 0 0]) ?_ 3 _ rfl; (with_reducible repeat (first | refine blk_drewN ?_ _ | refine blk_drew ?_ | refine blk_alloc ?_ _)); refine blk_put (cs := #[.int .u8 (rd l0 1), .int .u8 (rd l0 8), .int .u8 0, .int .u16 0, .int .u8 0, .int .u16 0, .int .u32 0, .int .u32 0, .slice none 0 0, .slice none 0 0]) ?_ 2 _ rfl; (with_reducible repeat (first | refine blk_drewN ?_ _ | refine blk_drew ?_ | refine blk_alloc ?_ _)); refine blk_put (cs := #[.int .u8 (rd l0 1), .int .u8 0, .int .u8 0, .int .u16 0, .int .u8 0, .int .u16 0, .int .u32 0, .int .u32 0, .slice none 0 0, .slice none 0 0]) ?_ 1 _ rfl; (with_reducible repeat (first | refine blk_drewN ?_ _ | refine blk_drew ?_ | refine blk_alloc ?_ _)); refine blk_put (cs := #[.int .u8 0, .int .u8 0, .int .u8 0, .int .u16 0, .int .u8 0, .int .u16 0, .int .u32 0, .int .u32 0, .slice none 0 0, .slice none 0 0]) ?_ 0 _ rfl; (with_reducible repeat (first | refine blk_drewN ?_ _ | refine blk_drew ?_ | refine blk_alloc ?_ _)); exact BK557.out) Try.underlying73 rfl (by kernel_rfl)) rfl ?_
               exact ⟨_, _, by first | rfl | (simp [errW_none, errW_some] <;> rfl) | (simp only [← hji18]; first | rfl | (simp [errW_none, errW_some] <;> rfl)) | (simp [*, errW_none, errW_some] <;> rfl), by (with_reducible repeat (first | apply Kd.R_alloc | apply Kd.R_drewN | apply Kd.R_drew)); exact Kd.R_mono (Kd.R_far (p := ⟨gb557, 9, none⟩) (Kd.R_far (p := ⟨gb557, 8, none⟩) (Kd.R_far (p := ⟨gb557, 7, none⟩) (Kd.R_far (p := ⟨gb557, 6, none⟩) (Kd.R_far (p := ⟨gb557, 5, none⟩) (Kd.R_far (p := ⟨gb557, 4, none⟩) (Kd.R_far (p := ⟨gb557, 3, none⟩) (Kd.R_far (p := ⟨gb557, 2, none⟩) (Kd.R_far (p := ⟨gb557, 1, none⟩) (Kd.R_far (p := ⟨gb557, 0, none⟩) (Kd.R_types HO573.out BK557.out (by decide)) (fun _ hk => hk.2) (.int .u8 (rd l0 1))) (fun _ hk => hk.2) (.int .u8 (rd l0 8))) (fun _ hk => hk.2) (.int .u8 (rd l0 9))) (fun _ hk => hk.2) (.int .u16 t566)) (fun _ hk => hk.2) (.int .u8 ((t564 / 8192) % 256))) (fun _ hk => hk.2) (.int .u16 (Go.bits .and .u16 t564 8191))) (fun _ hk => hk.2) (.int .u32 t569)) (fun _ hk => hk.2) (.int .u32 t570)) (fun _ hk => hk.2) (.slice Ao39 t571.length co39)) (fun _ hk => hk.2) (.slice Ao38 t574.length co38)) (fun _ hk => hk.1.2), by (with_reducible repeat (first | apply Kd.R_alloc | apply Kd.R_drewN | apply Kd.R_drew)); exact Kd.R_mono (Kd.R_far (p := ⟨gb557, 9, none⟩) (Kd.R_far (p := ⟨gb557, 8, none⟩) (Kd.R_far (p := ⟨gb557, 7, none⟩) (Kd.R_far (p := ⟨gb557, 6, none⟩) (Kd.R_far (p := ⟨gb557, 5, none⟩) (Kd.R_far (p := ⟨gb557, 4, none⟩) (Kd.R_far (p := ⟨gb557, 3, none⟩) (Kd.R_far (p := ⟨gb557, 2, none⟩) (Kd.R_far (p := ⟨gb557, 1, none⟩) (Kd.R_far (p := ⟨gb557, 0, none⟩) (Kd.R_types HO576.out BK557.out (by decide)) (fun _ hk => hk.2) (.int .u8 (rd l0 1))) (fun _ hk => hk.2) (.int .u8 (rd l0 8))) (fun _ hk => hk.2) (.int .u8 (rd l0 9))) (fun _ hk => hk.2) (.int .u16 t566)) (fun _ hk => hk.2) (.int .u8 ((t564 / 8192) % 256))) (fun _ hk => hk.2) (.int .u16 (Go.bits .and .u16 t564 8191))) (fun _ hk => hk.2) (.int .u32 t569)) (fun _ hk => hk.2) (.int .u32 t570)) (fun _ hk => hk.2) (.slice Ao39 t571.length co39)) (fun _ hk => hk.2) (.slice Ao38 t574.length co38)) (fun _ hk => hk.1.2), bz HB⟩
              ·rw [if_neg c28] at H
               exact absurd H (by simp)
             ·rw [if_neg c27] at H
              exact absurd H (by simp)
            ·rw [if_neg c25] at H
             exact absurd H (by simp)
           ·rw [if_neg c23] at H
            have c23b0 : (t563 == 65535) = false := beq_eq_false_iff_ne.mpr c23
            have c23b1 : (t563 != 65535) = true := bne_iff_ne.mpr c23
            simp only [Option.some.injEq, Prod.mk.injEq] at H
            obtain ⟨rfl, rfl, rfl, rfl, rfl, rfl, rfl, rfl, rfl, rfl, rfl⟩ := H
            obtain ⟨i050, hi050, _, hsz50, _⟩ := info_parts info5
            obtain ⟨hcut50, hA50, hC50⟩ := print_take_of (P := Try.prog) (Value.int .u8) 0 23 5 .i64 Try.underlying23 hi050 hsz50 (some ad558) c0 l0 (ji18) (of_decide_eq_true (by first | (with_reducible assumption) | assumption)) (of_decide_eq_true (by first | (with_reducible assumption) | assumption)) HC0.out
            have HR561 := Aside0.mk (Kd.C_of_reads (h1 := fun _ => rfl) (hA50 _ (Kd.reads_of_C HR0.out)))
            have HC561 := Aside0.mk hC50
            clear hA50 hC50 hi050 hsz50
            go_wp2_with (first | ((with_reducible refine gate_callee (f := 80) rfl ?_); refine goesL_ (some 49) rfl rfl Try.func80 (by kernel_rfl) rfl #[.int .u32 0, .slice (some ad558) (l0.take ((ji18) : Int).toNat).length c0] rfl (by (try simp only [List.map_toArray, List.map_cons, List.map_nil]); first | done | (rw [show (l0.take ((ji18) : Int).toNat).length = (ji18).toNat from (by rw [List.length_take]; have h_ : ((ji18) : Int) ≤ (l0.length : Int) := of_decide_eq_true (by first | (with_reducible assumption) | assumption); omega)] <;> rfl) | (simp only [hji18]; rfl) | rfl | (simp only [List.length_drop, List.length_take]; rfl) | (go_simp; done) | (simp [Act.eval, IntKind.signed]; done) | (simp [Act.eval, IntKind.signed]; rfl)) ?_; (with_reducible refine (lychref1_Add.calls kj13 0 _ _ (l0.take ((ji18) : Int).toNat) t562 _ ?side1 ?side2 A21.out).mono ?_); (case side1 => exact Kd.C_below HR561.out (bz HB)); (case side2 => exact HC561.out); rintro e w51 ⟨rfl, hb⟩; refine ⟨_, rfl, ?_⟩; have n0_ := Aside0.mk (blk_below (kz BK557) hb); have n1_ := Aside0.mk (below_step (bz HB) hb); clear BK557; clear HB; have BK557 := n0_; have HB := n1_; clear n0_ n1_; (try clear hb); (try clear hb2); (try clear hk); (try clear hi)) | ((with_reducible refine gate_callee (f := 79) rfl ?_); refine gL 50 Try.func79 #[.int .u32 t562] ?_; (with_reducible refine (lychref1_Fold.calls kj13 t562 t563 _ A22.out).mono ?_); rintro e w' ⟨rfl, ⟨nd, rfl⟩⟩; refine ⟨_, rfl, ?_⟩; (try (rw [drewN_self w51]; generalize hq_ : World.drewN w51 _ = w51; have n0_ : Aside0 (w51.heap[gb557]? = some (.cells #[.int .u8 0, .int .u8 0, .int .u8 0, .int .u16 0, .int .u8 0, .int .u16 0, .int .u32 0, .int .u32 0, .slice none 0 0, .slice none 0 0] 73 (0, 0))) := ⟨by rw [← hq_]; exact (kz BK557)⟩; have n1_ : Aside0 (Below w.heap.size w w51) := ⟨by rw [← hq_]; exact bz HB⟩; clear BK557 HB hq_; have BK557 := n0_; have HB := n1_; clear n0_ n1_)); have hcz52_0 : w51.cell? ⟨gb557, 0, none⟩ = some (.int .u8 0) := cz BK557.out 0 rfl; have hcz52_1 : w51.cell? ⟨gb557, 1, none⟩ = some (.int .u8 0) := cz BK557.out 1 rfl; have hcz52_2 : w51.cell? ⟨gb557, 2, none⟩ = some (.int .u8 0) := cz BK557.out 2 rfl; have hcz52_3 : w51.cell? ⟨gb557, 3, none⟩ = some (.int .u16 0) := cz BK557.out 3 rfl; have hcz52_4 : w51.cell? ⟨gb557, 4, none⟩ = some (.int .u8 0) := cz BK557.out 4 rfl; have hcz52_5 : w51.cell? ⟨gb557, 5, none⟩ = some (.int .u16 0) := cz BK557.out 5 rfl; have hcz52_6 : w51.cell? ⟨gb557, 6, none⟩ = some (.int .u32 0) := cz BK557.out 6 rfl; have hcz52_7 : w51.cell? ⟨gb557, 7, none⟩ = some (.int .u32 0) := cz BK557.out 7 rfl; have hcz52_8 : w51.cell? ⟨gb557, 8, none⟩ = some (.slice none 0 0) := cz BK557.out 8 rfl; have hcz52_9 : w51.cell? ⟨gb557, 9, none⟩ = some (.slice none 0 0) := cz BK557.out 9 rfl; have hfz52_0 := blk_frozen BK557.out 0; have hfz52_1 := blk_frozen BK557.out 1; have hfz52_2 := blk_frozen BK557.out 2; have hfz52_3 := blk_frozen BK557.out 3; have hfz52_4 := blk_frozen BK557.out 4; have hfz52_5 := blk_frozen BK557.out 5; have hfz52_6 := blk_frozen BK557.out 6; have hfz52_7 := blk_frozen BK557.out 7; have hfz52_8 := blk_frozen BK557.out 8; have hfz52_9 := blk_frozen BK557.out 9))
            refine bodyPost_ret (results_ct rfl _ _ gb557 73 #[.int .u8 0, .int .u8 0, .int .u8 0, .int .u16 0, .int .u8 0, .int .u16 0, .int .u32 0, .int .u32 0, .slice none 0 0, .slice none 0 0] (0, 0) _ rfl (by (repeat (first | with_reducible refine blk_drewN ?_ _ | with_reducible refine blk_drew ?_ | with_reducible refine blk_alloc ?_ _ | refine blk_put (cs := #[.int .u8 0, .int .u8 0, .int .u8 0, .int .u16 0, .int .u8 0, .int .u16 0, .int .u32 0, .int .u32 0, .slice none 0 0, .slice none 0 0]) ?_ _ _ rfl)); (with_reducible repeat (first | refine blk_drewN ?_ _ | refine blk_drew ?_ | refine blk_alloc ?_ _)); exact BK557.out) Try.underlying73 rfl (by kernel_rfl)) rfl ?_
            exact ⟨_, _, by first | rfl | (simp [errW_none, errW_some] <;> rfl) | (simp only [← hji18]; first | rfl | (simp [errW_none, errW_some] <;> rfl)) | (simp [*, errW_none, errW_some] <;> rfl), by first | exact Kd.R_nil _ _ _ _ _ | exact Kd.N_nil _ _ _ _ _ | exact Kd.V_nil _ _ _ _ _ | exact Kd.Q_nil _ _ _ _ _ | exact Kd.S_nil _ _ _ _ _, by first | exact Kd.R_nil _ _ _ _ _ | exact Kd.N_nil _ _ _ _ _ | exact Kd.V_nil _ _ _ _ _ | exact Kd.Q_nil _ _ _ _ _ | exact Kd.S_nil _ _ _ _ _, bz HB⟩
          ·rw [if_neg c20] at H
           exact absurd H (by simp)
         ·rw [if_neg c19] at H
          exact absurd H (by simp)
  ·rw [if_neg c5] at H
   exact absurd H (by simp)
end Go.Proofs.Ytkmimamminddiaa.PB
/- Packets out of bytes: what the proofs of the laws on packets share. -/
namespace Go.Proofs.Ytkmimamminddiaa.Pure
set_option linter.unusedVariables false
set_option linter.unusedSimpArgs false
open Go.RowKit Go.Proofs.Ytkmimamminddiaa.PB Go.Proofs.YtkmimamminddiaaW.PrintWords Go.Proofs.YtkmimamminddiaaW.PrintLast
open Go.Proofs.Ytkmimamminddiaa.Spec Go.Proofs.Ytkmimamminddiaa.BytesEq Go.Proofs.Ytkmimamminddiaa.SumEq
theorem itwo_eq {l : List Int} (h : IsB l) (i : Nat) (hi : i + 2 ≤ l.length) (hl : l.length ≤ 1000000000) : ip_reader_two.f l (i : Int) = some (g16 l i) := get16_eq h i hi hl
theorem ifour_eq {l : List Int} (h : IsB l) (i : Nat) (hi : i + 4 ≤ l.length) (hl : l.length ≤ 1000000000) : ip_reader_four.f l (i : Int) = some (g32 l i) := get32_eq h i hi hl
theorem iclone_eq (l : List Int) (hl : l.length ≤ 1000000000) : ip_reader_byte.f l = some l := by
 unfold ip_reader_byte.f
 rw [if_pos (by omega)]
theorem must_yes {c : Prop} [Decidable c] (h : c) (e : Int) : ip_must.f (decide c) e = some () := by
 unfold ip_must.f
 rw [decide_eq_true h, if_pos rfl]
theorem and16 (i : Nat) (hi : i ≤ 16) {x : Int} (h₀ : 0 ≤ x) (h₁ : x ≤ 65535) : Go.bits .and .u16 x (2 ^ i - 1) = x % 2 ^ i := bits_mask .u16 16 (by decide) wraps_u16 i hi x h₀ (by omega)
def ihead (l : List Int) : Int := 4 * (l.getD 0 0 % 16)
theorem ihead_range (l : List Int) : 0 ≤ ihead l ∧ ihead l ≤ 60 := by unfold ihead; omega
theorem ihead_eq {l : List Int} (h : IsB l) : wrap64 (4 * (wrap64 (Go.bits .and .u8 (rd l 0) 15))) = ihead l := by
 have hg := h.getD 0
 have ea : Go.bits .and .u8 (rd l 0) 15 = l.getD 0 0 % 16 := by rw [rd_nat l 0 0 rfl]; exact and_u8 4 (by omega) hg.1 hg.2
 rw [ea, wrap64_id (n := l.getD 0 0 % 16) (by omega) (by omega), wrap64_id (by omega) (by omega)]
 rfl
theorem ihead_eq2 {l : List Int} (h : IsB l) : wrap64 ((wrap64 (Go.bits .and .u8 (rd l 0) 15)) * 4) = ihead l := by
 have hg := h.getD 0
 have ea : Go.bits .and .u8 (rd l 0) 15 = l.getD 0 0 % 16 := by rw [rd_nat l 0 0 rfl]; exact and_u8 4 (by omega) hg.1 hg.2
 rw [ea, wrap64_id (n := l.getD 0 0 % 16) (by omega) (by omega), wrap64_id (by omega) (by omega)]
 unfold ihead; omega
def isumof (l : List Int) : Int := norm (isum (words (l.take (ihead l).toNat)))
def iodd (l : List Int) : Prop := ¬ (l.getD 0 0 / 16 = 4 ∧ ihead l ≥ 20 ∧ g16 l 2 ≥ ihead l)
instance (l : List Int) : Decidable (iodd l) := inferInstanceAs (Decidable (¬ _))
def iparts (l : List Int) : Int × Int × Int × Int × Int × Int × Int × Int × List Int × List Int :=
 (l.getD 1 0, l.getD 8 0, l.getD 9 0, g16 l 4, g16 l 6 / 8192, g16 l 6 % 8192, g32 l 12, g32 l 16, (l.take (ihead l).toNat).drop 20, (l.take (g16 l 2).toNat).drop (ihead l).toNat)
def iseg (l : List Int) : Int × Int × Int × Int × Int × Int × Int × Int × List Int × List Int × Int :=
 if l.length < 20 then (0, 0, 0, 0, 0, 0, 0, 0, [], [], 20) else if iodd l then (0, 0, 0, 0, 0, 0, 0, 0, [], [], 21) else if (l.length : Int) < g16 l 2 then (0, 0, 0, 0, 0, 0, 0, 0, [], [], 20) else if isumof l ≠ 65535 then (0, 0, 0, 0, 0, 0, 0, 0, [], [], 22) else
 (l.getD 1 0, l.getD 8 0, l.getD 9 0, g16 l 4, g16 l 6 / 8192, g16 l 6 % 8192, g32 l 12, g32 l 16, (l.take (ihead l).toNat).drop 20, (l.take (g16 l 2).toNat).drop (ihead l).toNat, 0)
theorem fold_head {l : List Int} (h : IsB l) (hl : l.length ≤ 1000000000) (k : Nat) (hk : l.length + 4 < k) : ((sum_Add.f k 0 l).bind fun a => sum_Fold.f k a) = some (norm (isum (words l))) := by
 have hr := addw_range (words l) 0 (by omega) (by omega) (words_isW l h)
 have hn := norm_addw (words l) 0 (by omega) (by omega) (words_isW l h)
 rw [add_eq 0 l h hl (by omega) (by omega) k (by omega), Option.bind_some, fold_eq _ hr.1 hr.2 k (by omega), hn, Int.zero_add]
theorem fold_both {l : List Int} (h : IsB l) (hl : l.length ≤ 1000000000) (k : Nat) (hk : l.length + 4 < k) : ∃ a, sum_Add.f k 0 l = some a ∧ sum_Fold.f k a = some (norm (isum (words l))) := Option.bind_eq_some_iff.mp (fold_head h hl k hk)
theorem rfold_both {l : List Int} (h : IsB l) (hl : l.length ≤ 1000000000) (k : Nat) (hk : l.length + 4 < k) : ∃ a, lychref1_Add.f k 0 l = some a ∧ lychref1_Fold.f k a = some (norm (isum (words l))) := by
 have hr := addw_range (words l) 0 (by omega) (by omega) (words_isW l h)
 have hn := norm_addw (words l) 0 (by omega) (by omega) (words_isW l h)
 refine ⟨_, radd_eq 0 l h hl (by omega) (by omega) k (by omega), ?_⟩
 rw [rfold_eq _ hr.1 hr.2 k (by omega), hn, Int.zero_add]
theorem ipacket_eq {l : List Int} (h : IsB l) (hl : l.length ≤ 1000000000) (h20 : 20 ≤ l.length) (ho : ¬ iodd l) (hs : ¬ (l.length : Int) < g16 l 2) (hx : isumof l = 65535) (k : Nat) (hk : l.length + 5 < k) : ip_reader_packet.f k l = some (iparts l) := by
 obtain ⟨k, rfl⟩ : ∃ j, k = j + 1 := ⟨k - 1, by omega⟩
 have hh := ihead_range l
 have hg := g16_range h 2
 have hb6 := g16_range h 6
 have ho' : l.getD 0 0 / 16 = 4 ∧ ihead l ≥ 20 ∧ g16 l 2 ≥ ihead l := Decidable.not_not.mp ho
 obtain ⟨o1, o2, o3⟩ := ho'
 have p0 : 0 ≤ ihead l := hh.1
 have p1 : ihead l ≤ (l.length : Int) := by omega
 have p2 : (0 : Int) < (l.length : Int) := by omega
 have p3 : (1 : Int) < (l.length : Int) := by omega
 have p4 : (8 : Int) < (l.length : Int) := by omega
 have p5 : (9 : Int) < (l.length : Int) := by omega
 have p6 : g16 l 2 ≤ (l.length : Int) := by omega
 have p7 : ((l.take (ihead l).toNat).drop 20).length ≤ 1000000000 := by rw [List.length_drop, List.length_take]; omega
 have p8 : ((l.take (g16 l 2).toNat).drop (ihead l).toNat).length ≤ 1000000000 := by rw [List.length_drop, List.length_take]; omega
 have p9 : (l.length : Int) ≥ 20 := by omega
 have m1 : ip_must.f (decide ((l.length : Int) ≥ 20)) 20 = some () := must_yes p9 20
 have m2 : ip_must.f (decide (g16 l 2 ≥ ihead l)) 21 = some () := must_yes o3 21
 have m3 : ip_must.f (decide ((l.length : Int) ≥ g16 l 2)) 20 = some () := must_yes p6 20
 have e2 := itwo_eq h 2 (by omega) hl
 have e4 := itwo_eq h 4 (by omega) hl
 have e6 := itwo_eq h 6 (by omega) hl
 have e12 := ifour_eq h 12 (by omega) hl
 have e16 := ifour_eq h 16 (by omega) hl
 rw [show ((2 : Nat) : Int) = 2 from rfl] at e2
 rw [show ((4 : Nat) : Int) = 4 from rfl] at e4
 rw [show ((6 : Nat) : Int) = 6 from rfl] at e6
 rw [show ((12 : Nat) : Int) = 12 from rfl] at e12
 rw [show ((16 : Nat) : Int) = 16 from rfl] at e16
 have r0 : rd l 0 = l.getD 0 0 := rd_nat l 0 0 rfl
 have r1 : rd l 1 = l.getD 1 0 := rd_nat l 1 1 rfl
 have r8 : rd l 8 = l.getD 8 0 := rd_nat l 8 8 rfl
 have r9 : rd l 9 = l.getD 9 0 := rd_nat l 9 9 rfl
 have w2 : wrap64 (g16 l 2) = g16 l 2 := wrap64_id (by omega) (by omega)
 have hd := ihead_eq h
 obtain ⟨a, fa, fb⟩ := fold_both (h.take (ihead l).toNat) (by rw [List.length_take]; omega) k (by rw [List.length_take]; omega)
 have fx : norm (isum (words (l.take (ihead l).toNat))) = 65535 := hx
 rw [fx] at fb
 have m22 : ip_must.f ((65535 : Int) == 65535) 22 = some () := by unfold ip_must.f; rw [if_pos (by decide)]
 have ef : g16 l 6 / 8192 % 256 = g16 l 6 / 8192 := by omega
 have ea : Go.bits .and .u16 (g16 l 6) 8191 = g16 l 6 % 8192 := and16 13 (by omega) hb6.1 hb6.2
 unfold ip_reader_packet.f
 rw [m1, Option.bind_some, if_pos p2, e2, Option.bind_some, hd, w2, r0, if_pos o1, if_pos o2, m2, Option.bind_some, ip_reader_packet.j0, m3, Option.bind_some, if_pos p0, if_pos p1, fa, Option.bind_some, fb, Option.bind_some, m22, Option.bind_some, e6, Option.bind_some, if_pos p3, e4, Option.bind_some, if_pos p4, if_pos p5, e12, Option.bind_some, e16, Option.bind_some, if_pos o2,
  iclone_eq _ p7, Option.bind_some, if_pos o3, if_pos p6, iclone_eq _ p8, Option.bind_some, r1, r8, r9, ef, ea]
 rfl
theorem iparse_eq {l : List Int} (h : IsB l) (hl : l.length ≤ 1000000000) (k : Nat) (hk : l.length + 5 < k) : ip_Parse.f k l = some (iseg l) := by
 have hh := ihead_range l
 have hg := g16_range h 2
 have hd := ihead_eq h
 have r0 : rd l 0 = l.getD 0 0 := rd_nat l 0 0 rfl
 unfold ip_Parse.f iseg
 by_cases c1 : l.length < 20
 ·rw [if_pos (by omega), if_pos c1]
 ·have e2 := itwo_eq h 2 (by omega) hl
  rw [show ((2 : Nat) : Int) = 2 from rfl] at e2
  have w2 : wrap64 (g16 l 2) = g16 l 2 := wrap64_id (by omega) (by omega)
  rw [if_neg (by omega), if_neg c1, e2, Option.bind_some, hd, w2, r0]
  by_cases c2 : iodd l
  ·rw [if_neg c2, if_pos c2]
  ·rw [if_pos (Decidable.not_not.mp c2), if_neg c2]
   by_cases c3 : (l.length : Int) < g16 l 2
   ·rw [if_pos c3, if_pos c3]
   ·rw [if_neg c3, if_neg c3]
    obtain ⟨a, fa, fb⟩ := fold_both (h.take (ihead l).toNat) (by rw [List.length_take]; omega) k (by rw [List.length_take]; omega)
    rw [fa, Option.bind_some, fb, Option.bind_some]
    by_cases c4 : isumof l = 65535
    ·have fx : norm (isum (words (l.take (ihead l).toNat))) = 65535 := c4
     rw [if_pos fx, if_neg (fun hne => hne c4), ipacket_eq h hl (by omega) c2 c3 c4 k hk, Option.bind_some]
     rfl
    ·have fx : ¬ norm (isum (words (l.take (ihead l).toNat))) = 65535 := c4
     rw [if_neg fx, if_pos c4]
theorem riparse_eq {l : List Int} (h : IsB l) (hl : l.length ≤ 1000000000) (k : Nat) (hk : l.length + 9 < k) : lychref1_Ip.f k l = some (iseg l) := by
 obtain ⟨k, rfl⟩ : ∃ j, k = j + 2 := ⟨k - 2, by omega⟩
 have hh := ihead_range l
 have hg := g16_range h 2
 have hb6 := g16_range h 6
 have hd := ihead_eq2 h
 have r0 : rd l 0 = l.getD 0 0 := rd_nat l 0 0 rfl
 unfold lychref1_Ip.f iseg
 by_cases c1 : l.length < 20
 ·rw [if_pos (by omega), if_pos c1]
 ·have e2 := get16_eq h 2 (by omega) hl
  rw [show ((2 : Nat) : Int) = 2 from rfl] at e2
  have w2 : wrap64 (g16 l 2) = g16 l 2 := wrap64_id (by omega) (by omega)
  rw [if_neg (by omega), if_neg c1, if_pos (by omega), e2, Option.bind_some, hd, w2, r0]
  by_cases c2 : iodd l
  ·rw [if_pos c2]
   by_cases d1 : l.getD 0 0 / 16 = 4
   ·rw [if_pos d1]
    by_cases d2 : ihead l < 20
    ·rw [if_pos d2, lychref1_Ip.j0, if_pos rfl]
    ·have d3 : g16 l 2 < ihead l := by
      refine Decidable.byContradiction fun hne => c2 ⟨d1, by omega, by omega⟩
     rw [if_neg d2, decide_eq_true d3, lychref1_Ip.j0, if_pos rfl]
   ·rw [if_neg d1, lychref1_Ip.j0, if_pos rfl]
  ·have ho' : l.getD 0 0 / 16 = 4 ∧ ihead l ≥ 20 ∧ g16 l 2 ≥ ihead l := Decidable.not_not.mp c2
   obtain ⟨o1, o2, o3⟩ := ho'
   rw [if_neg c2, if_pos o1, if_neg (by omega), decide_eq_false (by omega), lychref1_Ip.j0, if_neg (by decide)]
   by_cases c3 : (l.length : Int) < g16 l 2
   ·rw [if_pos c3]
    by_cases d4 : (l.length : Int) < ihead l
    ·rw [if_pos d4, lychref1_Ip.j1, if_pos rfl]
    ·rw [if_neg d4, decide_eq_true c3, lychref1_Ip.j1, if_pos rfl]
   ·rw [if_neg c3, if_neg (by omega), decide_eq_false c3, lychref1_Ip.j1, if_neg (by decide), if_pos (by omega), if_pos (by omega)]
    obtain ⟨a, fa, fb⟩ := rfold_both (h.take (ihead l).toNat) (by rw [List.length_take]; omega) k (by rw [List.length_take]; omega)
    rw [fa, Option.bind_some, fb, Option.bind_some]
    by_cases c4 : isumof l = 65535
    ·have fx : norm (isum (words (l.take (ihead l).toNat))) = 65535 := c4
     have e4 := get16_eq h 4 (by omega) hl
     have e6 := get16_eq h 6 (by omega) hl
     have e12 := get32_eq h 12 (by omega) hl
     have e16 := get32_eq h 16 (by omega) hl
     rw [show ((4 : Nat) : Int) = 4 from rfl] at e4
     rw [show ((6 : Nat) : Int) = 6 from rfl] at e6
     rw [show ((12 : Nat) : Int) = 12 from rfl] at e12
     rw [show ((16 : Nat) : Int) = 16 from rfl] at e16
     have r1 : rd l 1 = l.getD 1 0 := rd_nat l 1 1 rfl
     have r8 : rd l 8 = l.getD 8 0 := rd_nat l 8 8 rfl
     have r9 : rd l 9 = l.getD 9 0 := rd_nat l 9 9 rfl
     have f1 := cut_eq l 20 (ihead l).toNat (by omega) (by omega) hl
     have f2 := cut_eq l (ihead l).toNat (g16 l 2).toNat (by omega) (by omega) hl
     rw [show ((20 : Nat) : Int) = 20 from rfl, Int.toNat_of_nonneg (by omega)] at f1
     rw [Int.toNat_of_nonneg (by omega), Int.toNat_of_nonneg (by omega)] at f2
     have ef : g16 l 6 / 8192 % 256 = g16 l 6 / 8192 := by omega
     have ea : Go.bits .and .u16 (g16 l 6) 8191 = g16 l 6 % 8192 := and16 13 (by omega) hb6.1 hb6.2
     rw [if_pos fx, if_neg (fun hne => hne c4), e6, Option.bind_some, if_pos (by omega), e4, Option.bind_some, if_pos (by omega), if_pos (by omega), e12, Option.bind_some, e16, Option.bind_some, f1, Option.bind_some, f2, Option.bind_some, r1, r8, r9, ef, ea]
    ·have fx : ¬ norm (isum (words (l.take (ihead l).toNat))) = 65535 := c4
     rw [if_neg fx, if_pos c4]
end Go.Proofs.Ytkmimamminddiaa.Pure
/- Bytes of packets: what the proofs of the laws on packets share. -/
namespace Go.Proofs.Ytkmimamminddiaa.Pure
set_option linter.unusedVariables false
set_option linter.unusedSimpArgs false
open Go.RowKit Go.Proofs.Ytkmimamminddiaa.PB Go.Proofs.YtkmimamminddiaaW.PrintWords Go.Proofs.YtkmimamminddiaaW.PrintLast
open Go.Proofs.Ytkmimamminddiaa.Spec Go.Proofs.Ytkmimamminddiaa.BytesEq Go.Proofs.Ytkmimamminddiaa.SumEq
def ihd (a t pr i fl of_ s d : Int) (o l : List Int) (x : Int) : List Int := [64 + (20 + (o.length : Int)) / 4, a, (20 + (o.length : Int) + (l.length : Int)) / 256 % 256, (20 + (o.length : Int) + (l.length : Int)) % 256, i / 256 % 256, i % 256, (fl * 8192 + of_) / 256 % 256, (fl * 8192 + of_) % 256, t, pr, x / 256 % 256, x % 256, s / 16777216 % 256, s / 65536 % 256, s / 256 % 256, s % 256, d / 16777216 % 256, d / 65536 % 256, d / 256 % 256, d % 256]
theorem ihd_length (a t pr i fl of_ s d : Int) (o l : List Int) (x : Int) : (ihd a t pr i fl of_ s d o l x).length = 20 := rfl
def ick (a t pr i fl of_ s d : Int) (o l : List Int) : Int := ck (ihd a t pr i fl of_ s d o l 0 ++ o)
def ibytes (a t pr i fl of_ s d : Int) (o l : List Int) : List Int := ihd a t pr i fl of_ s d o l (ick a t pr i fl of_ s d o l) ++ o ++ l
def iwrong (fl of_ : Int) (o : List Int) : Prop := (o.length : Int) % 4 ≠ 0 ∨ (o.length : Int) > 40 ∨ fl > 7 ∨ of_ > 8191
instance (fl of_ : Int) (o : List Int) : Decidable (iwrong fl of_ o) := inferInstanceAs (Decidable (_ ∨ _))
def iout (a t pr i fl of_ s d : Int) (o l : List Int) : List Int × Int := if iwrong fl of_ o then ([], 21) else if 20 + (o.length : Int) + (l.length : Int) > 65535 then ([], 23) else (ibytes a t pr i fl of_ s d o l, 0)
section
variable {a t pr i fl of_ s d : Int} {o l : List Int}
theorem ihd_isB (ha : 0 ≤ a ∧ a ≤ 255) (ht : 0 ≤ t ∧ t ≤ 255) (hp : 0 ≤ pr ∧ pr ≤ 255) (ho : (o.length : Int) ≤ 40) (x : Int) : IsB (ihd a t pr i fl of_ s d o l x) := by
 unfold ihd
 repeat (first | exact .nil | refine .cons (by omega) ?_)
theorem ibytes_fin (ha : 0 ≤ a ∧ a ≤ 255) (ht : 0 ≤ t ∧ t ≤ 255) (hp : 0 ≤ pr ∧ pr ≤ 255) (ho : IsB o) (h40 : (o.length : Int) ≤ 40) (hl : l.length ≤ 1000000000) (k : Nat) (hk : 100 ≤ k) {H : List Int} (hH : H = ihd a t pr i fl of_ s d o l 0) :
  ip_Bytes.l0 (k + 1) H [s, d] 2 2 a t pr i fl of_ s d o l = some (ibytes a t pr i fl of_ s d o l, 0) := by
 subst hH
 have hn : (ihd a t pr i fl of_ s d o l 0 ++ o).length = 20 + o.length := by rw [List.length_append, ihd_length]
 have hset : ((ihd a t pr i fl of_ s d o l 0 ++ o).set (10 : Int).toNat (ick a t pr i fl of_ s d o l / 256 % 256)).set (11 : Int).toNat (ick a t pr i fl of_ s d o l % 256) = ihd a t pr i fl of_ s d o l (ick a t pr i fl of_ s d o l) ++ o := rfl
 have hof : sum_Of.f k (ihd a t pr i fl of_ s d o l 0 ++ o) = some (ick a t pr i fl of_ s d o l) := of_eq _ ((ihd_isB ha ht hp h40 0).append ho) (by rw [hn]; omega) k (by rw [hn]; omega) (by omega)
 have hn2 : (ihd a t pr i fl of_ s d o l (ick a t pr i fl of_ s d o l) ++ o).length = 20 + o.length := by rw [List.length_append, ihd_length]
 rw [ip_Bytes.l0, if_neg (by omega), if_pos (by rw [ihd_length]; omega), Option.bind_some, hof, Option.bind_some, if_pos (by rw [hn]; omega), if_pos (by rw [hn]; omega), Option.bind_some, hset, if_pos (by rw [hn2]; omega)]
 rfl
theorem ior (h4 : (o.length : Int) % 4 = 0) (h40 : (o.length : Int) ≤ 40) : Go.bits .or .u8 64 ((wrap64 (Int.tdiv (20 + (o.length : Int)) 4)) % 256) = 64 + (20 + (o.length : Int)) / 4 := by
 have e : (wrap64 (Int.tdiv (20 + (o.length : Int)) 4)) % 256 = (20 + (o.length : Int)) / 4 := by
  rw [Int.tdiv_eq_ediv_of_nonneg (by omega), wrap64_id (by omega) (by omega)]; omega
 rw [e]
 exact or_u8 6 (by omega) (by omega) (by omega) (by omega) (by omega) (by omega)
theorem ibits (hf : 0 ≤ fl ∧ fl ≤ 7) (ho : 0 ≤ of_ ∧ of_ ≤ 8191) : Go.bits .or .u16 (IntKind.u16.wrap ((IntKind.u16.wrap fl) * 8192)) of_ = fl * 8192 + of_ := by
 rw [u16w (n := fl) (by omega) (by omega), u16w (n := fl * 8192) (by omega) (by omega)]
 exact or_u16 13 (by omega) (by omega) (by omega) (by omega) (by omega) (by omega)
theorem ibytes_eq (ha : 0 ≤ a ∧ a ≤ 255) (ht : 0 ≤ t ∧ t ≤ 255) (hp : 0 ≤ pr ∧ pr ≤ 255) (hf : 0 ≤ fl) (hg : 0 ≤ of_) (ho : IsB o) (hol : o.length ≤ 1000000000) (hl : l.length ≤ 1000000000) (k : Nat) (hk : 200 ≤ k) : ip_Bytes.f k a t pr i fl of_ s d o l = some (iout a t pr i fl of_ s d o l) := by
 obtain ⟨k, rfl⟩ : ∃ j, k = j + 5 := ⟨k - 5, by omega⟩
 have w1 : wrap64 (20 + (o.length : Int)) = 20 + (o.length : Int) := wrap64_id (by omega) (by omega)
 unfold ip_Bytes.f
 rw [w1]
 by_cases cw : iwrong fl of_ o
 ·have hx : iout a t pr i fl of_ s d o l = ([], 21) := by unfold iout; rw [if_pos cw]
  rw [hx]
  by_cases c1 : (o.length : Int) % 4 = 0
  ·rw [if_pos c1]
   by_cases c2 : (o.length : Int) > 40
   ·rw [if_pos c2, ip_Bytes.j0, if_pos rfl]
   ·rw [if_neg c2]
    by_cases c3 : fl > 7
    ·rw [if_pos c3, ip_Bytes.j0, if_pos rfl]
    ·have c4 : of_ > 8191 := by unfold iwrong at cw; omega
     rw [if_neg c3, decide_eq_true c4, ip_Bytes.j0, if_pos rfl]
  ·rw [if_neg c1, ip_Bytes.j0, if_pos rfl]
 ·have cx : (o.length : Int) % 4 = 0 ∧ (o.length : Int) ≤ 40 ∧ fl ≤ 7 ∧ of_ ≤ 8191 := by unfold iwrong at cw; omega
  obtain ⟨x1, x2, x3, x4⟩ := cx
  have w2 : wrap64 (65535 - (20 + (o.length : Int))) = 65535 - (20 + (o.length : Int)) := wrap64_id (by omega) (by omega)
  rw [if_pos x1, if_neg (by omega), if_neg (by omega), decide_eq_false (by omega), ip_Bytes.j0, if_neg (by decide), w2]
  unfold iout
  rw [if_neg cw]
  by_cases c5 : 20 + (o.length : Int) + (l.length : Int) > 65535
  ·rw [if_pos (by omega), if_pos c5]
  ·rw [if_neg (by omega), if_neg c5, Option.bind_some]
   have w3 : wrap64 (20 + (o.length : Int) + (l.length : Int)) = 20 + (o.length : Int) + (l.length : Int) := wrap64_id (by omega) (by omega)
   have hlen : (([s, d] : List Int).length : Int) = 2 := rfl
   have r0 : rd [s, d] 0 = s := rfl
   have r1 : rd [s, d] 1 = d := rfl
   have n1 : wrap64 (0 + 1) = 1 := wrap64_id (by omega) (by omega)
   have n2 : wrap64 (1 + 1) = 2 := wrap64_id (by omega) (by omega)
   rw [ior x1 x2, ibits ⟨hf, x3⟩ ⟨hg, x4⟩, w3, hlen]
   rw [ip_Bytes.l0, if_pos (by omega), if_pos (by omega), hlen, if_pos (by omega), r0, Option.bind_some, if_pos (by simp), n1]
   rw [ip_Bytes.l0, if_pos (by omega), if_pos (by omega), hlen, if_pos (by omega), r1, Option.bind_some, if_pos (by simp), n2]
   exact ibytes_fin ha ht hp ho x2 hl _ (by omega) rfl
theorem put16_eq (l : List Int) (x : Int) (h : l.length ≤ 1000000000) : lychref1_Put16.f l x = some (l ++ [x / 256 % 256, x % 256]) := by
 unfold lychref1_Put16.f
 rw [Option.bind_some, if_pos (by simp; omega)]
theorem put32_eq (l : List Int) (x : Int) (h : l.length ≤ 1000000000) : lychref1_Put32.f l x = some (l ++ [x / 16777216 % 256, x / 65536 % 256, x / 256 % 256, x % 256]) := by
 unfold lychref1_Put32.f
 rw [Option.bind_some, if_pos (by simp; omega)]
theorem ribytes_fin (ha : 0 ≤ a ∧ a ≤ 255) (ht : 0 ≤ t ∧ t ≤ 255) (hp : 0 ≤ pr ∧ pr ≤ 255) (ho : IsB o) (h40 : (o.length : Int) ≤ 40) (hl : l.length ≤ 1000000000) (k : Nat) (hk : 100 ≤ k) {y : List Int} (hy : y = ihd a t pr i fl of_ s d o l 0 ++ o) :
  ((some (y : List Int)).bind fun y387 => ((lychref1_Of.f k y387).bind fun t390 => (if 10 < (y387.length : Int) then (if 11 < (y387.length : Int) then ((some ((y387.set (10 : Int).toNat ((t390 / 256) % 256)).set (11 : Int).toNat ((t390) % 256) : List Int)).bind fun y392 => (if y392.length + l.length < 140737488355328 then (some ((y392 ++ l), (0 : Int))) else (none))) else (none)) else (none)))) = some (ibytes a t pr i fl of_ s d o l, 0) := by
 subst hy
 have hn : (ihd a t pr i fl of_ s d o l 0 ++ o).length = 20 + o.length := by rw [List.length_append, ihd_length]
 have hset : ((ihd a t pr i fl of_ s d o l 0 ++ o).set (10 : Int).toNat (ick a t pr i fl of_ s d o l / 256 % 256)).set (11 : Int).toNat (ick a t pr i fl of_ s d o l % 256) = ihd a t pr i fl of_ s d o l (ick a t pr i fl of_ s d o l) ++ o := rfl
 have hof : lychref1_Of.f k (ihd a t pr i fl of_ s d o l 0 ++ o) = some (ick a t pr i fl of_ s d o l) := rof_eq _ ((ihd_isB ha ht hp h40 0).append ho) (by rw [hn]; omega) k (by rw [hn]; omega) (by omega)
 have hn2 : (ihd a t pr i fl of_ s d o l (ick a t pr i fl of_ s d o l) ++ o).length = 20 + o.length := by rw [List.length_append, ihd_length]
 rw [Option.bind_some, hof, Option.bind_some, if_pos (by rw [hn]; omega), if_pos (by rw [hn]; omega), Option.bind_some, hset, if_pos (by rw [hn2]; omega)]
 rfl
theorem ribytes_eq (ha : 0 ≤ a ∧ a ≤ 255) (ht : 0 ≤ t ∧ t ≤ 255) (hp : 0 ≤ pr ∧ pr ≤ 255) (hf : 0 ≤ fl) (hg : 0 ≤ of_) (ho : IsB o) (hol : o.length ≤ 1000000000) (hl : l.length ≤ 1000000000) (k : Nat) (hk : 200 ≤ k) : lychref1_IpBytes.f k a t pr i fl of_ s d o l = some (iout a t pr i fl of_ s d o l) := by
 obtain ⟨k, rfl⟩ : ∃ j, k = j + 1 := ⟨k - 1, by omega⟩
 have w1 : wrap64 (20 + (o.length : Int)) = 20 + (o.length : Int) := wrap64_id (by omega) (by omega)
 unfold lychref1_IpBytes.f
 by_cases cw : iwrong fl of_ o
 ·have hx : iout a t pr i fl of_ s d o l = ([], 21) := by unfold iout; rw [if_pos cw]
  rw [hx]
  by_cases c1 : (o.length : Int) % 4 = 0
  ·rw [if_pos c1]
   by_cases c2 : (o.length : Int) > 40
   ·rw [if_pos c2, lychref1_IpBytes.j0, if_pos rfl]
   ·rw [if_neg c2]
    by_cases c3 : fl > 7
    ·rw [if_pos c3, lychref1_IpBytes.j0, if_pos rfl]
    ·have c4 : of_ > 8191 := by unfold iwrong at cw; omega
     rw [if_neg c3, decide_eq_true c4, lychref1_IpBytes.j0, if_pos rfl]
  ·rw [if_neg c1, lychref1_IpBytes.j0, if_pos rfl]
 ·have cx : (o.length : Int) % 4 = 0 ∧ (o.length : Int) ≤ 40 ∧ fl ≤ 7 ∧ of_ ≤ 8191 := by unfold iwrong at cw; omega
  obtain ⟨x1, x2, x3, x4⟩ := cx
  have w2 : wrap64 (65535 - (20 + (o.length : Int))) = 65535 - (20 + (o.length : Int)) := wrap64_id (by omega) (by omega)
  rw [if_pos x1, if_neg (by omega), if_neg (by omega), decide_eq_false (by omega), lychref1_IpBytes.j0, if_neg (by decide), w1, w2]
  unfold iout
  rw [if_neg cw]
  by_cases c5 : 20 + (o.length : Int) + (l.length : Int) > 65535
  ·rw [if_pos (by omega), if_pos c5]
  ·rw [if_neg (by omega), if_neg c5]
   have w3 : IntKind.u16.wrap (wrap64 (20 + (o.length : Int) + (l.length : Int))) = 20 + (o.length : Int) + (l.length : Int) := by rw [wrap64_id (by omega) (by omega), u16w (by omega) (by omega)]
   rw [ior x1 x2, ibits ⟨hf, x3⟩ ⟨hg, x4⟩, w3]
   rw [put16_eq _ _ (by simp), Option.bind_some, put16_eq _ _ (by simp), Option.bind_some, put16_eq _ _ (by simp), Option.bind_some, Option.bind_some, if_pos (by simp), put32_eq _ _ (by simp), Option.bind_some, put32_eq _ _ (by simp), Option.bind_some, if_pos (by simp; omega)]
   exact ribytes_fin ha ht hp ho x2 hl k (by omega) (congrArg (· ++ o) rfl)
theorem ihd_sum (ha : 0 ≤ a ∧ a ≤ 255) (ht : 0 ≤ t ∧ t ≤ 255) (hp : 0 ≤ pr ∧ pr ≤ 255) (ho : IsB o) (h40 : (o.length : Int) ≤ 40) : norm (isum (words (ihd a t pr i fl of_ s d o l (ick a t pr i fl of_ s d o l) ++ o))) = 65535 := by
 have hB := (ihd_isB (i := i) (fl := fl) (of_ := of_) (s := s) (d := d) (l := l) ha ht hp h40 0).append ho
 have hr := ck_range _ hB
 have hS := isum_nonneg _ (words_isW _ hB)
 have hn : (ihd a t pr i fl of_ s d o l 0 ++ o).length = 20 + o.length := by rw [List.length_append, ihd_length]
 have hc := isum_change (ihd a t pr i fl of_ s d o l 0 ++ o) 5 (ick a t pr i fl of_ s d o l / 256 % 256) (ick a t pr i fl of_ s d o l % 256) (by rw [hn]; omega)
 have hset : ((ihd a t pr i fl of_ s d o l 0 ++ o).set (2 * 5) (ick a t pr i fl of_ s d o l / 256 % 256)).set (2 * 5 + 1) (ick a t pr i fl of_ s d o l % 256) = ihd a t pr i fl of_ s d o l (ick a t pr i fl of_ s d o l) ++ o := rfl
 have hw : wordAt (ihd a t pr i fl of_ s d o l 0 ++ o) 5 = 0 / 256 % 256 * 256 + 0 % 256 := rfl
 rw [hset, hw] at hc
 have hx : ick a t pr i fl of_ s d o l = 65535 - norm (isum (words (ihd a t pr i fl of_ s d o l 0 ++ o))) := rfl
 have hr' : 0 ≤ ick a t pr i fl of_ s d o l ∧ ick a t pr i fl of_ s d o l ≤ 65535 := hr
 have he : ick a t pr i fl of_ s d o l / 256 % 256 * 256 + ick a t pr i fl of_ s d o l % 256 = ick a t pr i fl of_ s d o l := by omega
 rw [hc, he, hx]
 have := stands hS
 rw [show isum (words (ihd a t pr i fl of_ s d o l 0 ++ o)) - (0 / 256 % 256 * 256 + 0 % 256) + (65535 - norm (isum (words (ihd a t pr i fl of_ s d o l 0 ++ o)))) = isum (words (ihd a t pr i fl of_ s d o l 0 ++ o)) + (65535 - norm (isum (words (ihd a t pr i fl of_ s d o l 0 ++ o)))) from by omega]
 exact this
theorem ihead_bytes (x : Int) (m : List Int) (h40 : (o.length : Int) ≤ 40) (h4 : (o.length : Int) % 4 = 0) : ihead (ihd a t pr i fl of_ s d o l x ++ m) = 20 + (o.length : Int) := by
 have e0 : (ihd a t pr i fl of_ s d o l x ++ m).getD 0 0 = 64 + (20 + (o.length : Int)) / 4 := rfl
 unfold ihead
 rw [e0]; omega
theorem g2_bytes (x : Int) (m : List Int) (hn : 20 + (o.length : Int) + (l.length : Int) ≤ 65535) : g16 (ihd a t pr i fl of_ s d o l x ++ m) 2 = 20 + (o.length : Int) + (l.length : Int) := by
 have e2 : g16 (ihd a t pr i fl of_ s d o l x ++ m) 2 = (20 + (o.length : Int) + (l.length : Int)) / 256 % 256 * 256 + (20 + (o.length : Int) + (l.length : Int)) % 256 := rfl
 rw [e2]; omega
theorem iseg_bytes (ha : 0 ≤ a ∧ a ≤ 255) (ht : 0 ≤ t ∧ t ≤ 255) (hp : 0 ≤ pr ∧ pr ≤ 255) (hi : 0 ≤ i ∧ i ≤ 65535) (hf : 0 ≤ fl ∧ fl ≤ 7) (hg : 0 ≤ of_ ∧ of_ ≤ 8191) (hs : 0 ≤ s ∧ s ≤ 4294967295) (hd : 0 ≤ d ∧ d ≤ 4294967295) (ho : IsB o) (h40 : (o.length : Int) ≤ 40) (h4 : (o.length : Int) % 4 = 0) (hn : 20 + (o.length : Int) + (l.length : Int) ≤ 65535) (m : List Int) :
  iseg (ibytes a t pr i fl of_ s d o l ++ m) = (a, t, pr, i, fl, of_, s, d, o, l, 0) := by
 obtain ⟨x, hx⟩ : ∃ x, x = ick a t pr i fl of_ s d o l := ⟨_, rfl⟩
 have hsum := ihd_sum (i := i) (fl := fl) (of_ := of_) (s := s) (d := d) (l := l) ha ht hp ho h40
 unfold ibytes
 rw [← hx] at hsum ⊢
 clear hx
 rw [List.append_assoc, List.append_assoc]
 have hH := ihd_length a t pr i fl of_ s d o l x
 have eh := ihead_bytes (a := a) (t := t) (pr := pr) (i := i) (fl := fl) (of_ := of_) (s := s) (d := d) (l := l) x (o ++ (l ++ m)) h40 h4
 have eg := g2_bytes (a := a) (t := t) (pr := pr) (i := i) (fl := fl) (of_ := of_) (s := s) (d := d) (o := o) (l := l) x (o ++ (l ++ m)) hn
 have e0 : (ihd a t pr i fl of_ s d o l x ++ (o ++ (l ++ m))).getD 0 0 = 64 + (20 + (o.length : Int)) / 4 := rfl
 have hL : (ihd a t pr i fl of_ s d o l x ++ (o ++ (l ++ m))).length = 20 + o.length + l.length + m.length := by rw [List.length_append, List.length_append, List.length_append, hH]; omega
 have t1 : (20 + (o.length : Int)).toNat = (ihd a t pr i fl of_ s d o l x).length + o.length := by rw [hH]; omega
 have t2 : (20 + (o.length : Int) + (l.length : Int)).toNat = (ihd a t pr i fl of_ s d o l x).length + (o.length + l.length) := by rw [hH]; omega
 have k1 : (ihd a t pr i fl of_ s d o l x ++ (o ++ (l ++ m))).take (20 + (o.length : Int)).toNat = ihd a t pr i fl of_ s d o l x ++ o := by
  rw [t1, List.take_append, List.take_of_length_le (by omega), Nat.add_sub_cancel_left, List.take_left]
 have k2 : (ihd a t pr i fl of_ s d o l x ++ (o ++ (l ++ m))).take (20 + (o.length : Int) + (l.length : Int)).toNat = ihd a t pr i fl of_ s d o l x ++ (o ++ l) := by
  rw [t2, List.take_append, List.take_of_length_le (by omega), Nat.add_sub_cancel_left, List.take_append, List.take_of_length_le (by omega), Nat.add_sub_cancel_left, List.take_left]
 have hso : isumof (ihd a t pr i fl of_ s d o l x ++ (o ++ (l ++ m))) = 65535 := by
  unfold isumof
  rw [eh, k1]
  exact hsum
 have hodd : ¬ iodd (ihd a t pr i fl of_ s d o l x ++ (o ++ (l ++ m))) := fun h => h ⟨by rw [e0]; omega, by rw [eh]; omega, by rw [eh, eg]; omega⟩
 unfold iseg
 rw [if_neg (by rw [hL]; omega), if_neg hodd, if_neg (by rw [hL, eg]; omega), if_neg (fun h => h hso), eh, eg, k1, k2]
 have d1 : (ihd a t pr i fl of_ s d o l x ++ o).drop 20 = o := List.drop_left' hH
 have d2 : (ihd a t pr i fl of_ s d o l x ++ (o ++ l)).drop (20 + (o.length : Int)).toNat = l := by
  rw [t1, ← List.append_assoc, List.drop_left' (by rw [List.length_append])]
 rw [d1, d2]
 have b1 : (ihd a t pr i fl of_ s d o l x ++ (o ++ (l ++ m))).getD 1 0 = a := rfl
 have b8 : (ihd a t pr i fl of_ s d o l x ++ (o ++ (l ++ m))).getD 8 0 = t := rfl
 have b9 : (ihd a t pr i fl of_ s d o l x ++ (o ++ (l ++ m))).getD 9 0 = pr := rfl
 have b4 : g16 (ihd a t pr i fl of_ s d o l x ++ (o ++ (l ++ m))) 4 = i / 256 % 256 * 256 + i % 256 := rfl
 have b6 : g16 (ihd a t pr i fl of_ s d o l x ++ (o ++ (l ++ m))) 6 = (fl * 8192 + of_) / 256 % 256 * 256 + (fl * 8192 + of_) % 256 := rfl
 have b12 : g32 (ihd a t pr i fl of_ s d o l x ++ (o ++ (l ++ m))) 12 = (s / 16777216 % 256 * 256 + s / 65536 % 256) * 65536 + (s / 256 % 256 * 256 + s % 256) := rfl
 have b16 : g32 (ihd a t pr i fl of_ s d o l x ++ (o ++ (l ++ m))) 16 = (d / 16777216 % 256 * 256 + d / 65536 % 256) * 65536 + (d / 256 % 256 * 256 + d % 256) := rfl
 rw [b1, b8, b9, b4, b6, b12, b16]
 simp only [Prod.mk.injEq, and_true, true_and]
 refine ⟨?_, ?_, ?_, ?_, ?_⟩ <;> omega
theorem ibytes_isB (ha : 0 ≤ a ∧ a ≤ 255) (ht : 0 ≤ t ∧ t ≤ 255) (hp : 0 ≤ pr ∧ pr ≤ 255) (ho : IsB o) (hl : IsB l) (h40 : (o.length : Int) ≤ 40) : IsB (ibytes a t pr i fl of_ s d o l) := ((ihd_isB ha ht hp h40 _).append ho).append hl
theorem ibytes_length : (ibytes a t pr i fl of_ s d o l).length = 20 + o.length + l.length := by
 unfold ibytes
 rw [List.length_append, List.length_append, ihd_length]
end
end Go.Proofs.Ytkmimamminddiaa.Pure
/- Plain: a packet of few numbers: its bytes. -/
namespace Go.Proofs.Ytkmimamminddiaa.Pure
set_option linter.unusedVariables false
set_option linter.unusedSimpArgs false
open Go.RowKit Go.Proofs.Ytkmimamminddiaa.PB Go.Proofs.YtkmimamminddiaaW.PrintWords Go.Proofs.YtkmimamminddiaaW.PrintLast
open Go.Proofs.Ytkmimamminddiaa.Spec Go.Proofs.Ytkmimamminddiaa.BytesEq
theorem bits_r32 (op : BinOp) (x y : Int) : 0 ≤ Go.bits op .u32 x y ∧ Go.bits op .u32 x y ≤ 4294967295 := by
 have h : ∀ n : Int, 0 ≤ IntKind.u32.wrap n ∧ IntKind.u32.wrap n ≤ 4294967295 := fun n => by
  show 0 ≤ n % 4294967296 ∧ n % 4294967296 ≤ 4294967295
  omega
 exact h _
theorem bits_r8 (op : BinOp) (x y : Int) : 0 ≤ Go.bits op .u8 x y ∧ Go.bits op .u8 x y ≤ 255 := by
 have h : ∀ n : Int, 0 ≤ IntKind.u8.wrap n ∧ IntKind.u8.wrap n ≤ 255 := fun n => by
  show 0 ≤ n % 256 ∧ n % 256 ≤ 255
  omega
 exact h _
def U32 (x : Int) : Prop := 0 ≤ x ∧ x ≤ 4294967295
def U16 (x : Int) : Prop := 0 ≤ x ∧ x ≤ 65535
def U8 (x : Int) : Prop := 0 ≤ x ∧ x ≤ 255
theorem addr_some (a b c d : Int) : ∃ r, lychseat_Addr.f a b c d = some r ∧ U32 r := ⟨_, rfl, bits_r32 _ _ _⟩
theorem addr_bind (a b c d : Int) : ∃ r, ((lychseat_Addr.f a b c d).bind fun t => some t) = some r ∧ U32 r := addr_some a b c d
theorem inside_some (a : Int) : ∃ r, lychseat_inside.f a = some r ∧ U32 r := by
 unfold lychseat_inside.f
 split
 ·exact addr_bind _ _ _ _
 ·exact addr_bind _ _ _ _
theorem outj1 (k : Nat) (x y : Int) (b : Bool) : ∃ r, lychseat_outside.j1 (k + 1) x y b = some r ∧ U32 r := by
 rw [lychseat_outside.j1]
 split
 ·exact addr_bind _ _ _ _
 ·split
  ·exact addr_bind _ _ _ _
  ·exact addr_bind _ _ _ _
theorem outj0 (k : Nat) (x y : Int) (b : Bool) : ∃ r, lychseat_outside.j0 (k + 2) x y b = some r ∧ U32 r := by
 rw [lychseat_outside.j0]
 split
 ·exact addr_bind _ _ _ _
 ·split
  ·exact addr_bind _ _ _ _
  ·split
   ·exact addr_bind _ _ _ _
   ·split
    ·exact addr_bind _ _ _ _
    ·split
     ·exact outj1 _ _ _ _
     ·exact outj1 _ _ _ _
theorem outside_some (K : Nat) (hK : 2 ≤ K) (a b : Int) : ∃ r, lychseat_outside.f K a b = some r ∧ U32 r := by
 obtain ⟨k, rfl⟩ : ∃ j, K = j + 2 := ⟨K - 2, by omega⟩
 unfold lychseat_outside.f
 split
 ·exact outj0 _ _ _ _
 ·exact outj0 _ _ _ _
theorem port_some (a : Int) : ∃ r, lychseat_port.f a = some r ∧ U16 r := by
 have h : ∀ n : Int, U16 (IntKind.u16.wrap n) := fun n => by
  show 0 ≤ n % 65536 ∧ n % 65536 ≤ 65535
  omega
 unfold lychseat_port.f
 split
 ·exact ⟨_, rfl, h _⟩
 ·split
  ·exact ⟨_, rfl, by unfold U16; omega⟩
  ·exact ⟨_, rfl, h _⟩
theorem proto_some (a : Int) (ha : 0 ≤ a) : lychseat_proto.f a = some (rd [17, 6, 1, 17] (a.tmod 4)) ∧ (rd [17, 6, 1, 17] (a.tmod 4) = 17 ∨ rd [17, 6, 1, 17] (a.tmod 4) = 6 ∨ rd [17, 6, 1, 17] (a.tmod 4) = 1) := by
 have h1 : a.tmod 4 < 4 := Int.tmod_lt_of_pos _ (by decide)
 have h0 : 0 ≤ a.tmod 4 := Int.tmod_nonneg _ ha
 constructor
 ·unfold lychseat_proto.f
  rw [Option.bind_some, if_pos h0, if_pos (show a.tmod 4 < ((([17, 6, 1, 17] : List Int)).length : Int) from h1)]
 ·generalize a.tmod 4 = i at h1 h0 ⊢
  obtain rfl | rfl | rfl | rfl : i = 0 ∨ i = 1 ∨ i = 2 ∨ i = 3 := by omega
  ·exact .inl rfl
  ·exact .inr (.inl rfl)
  ·exact .inr (.inr rfl)
  ·exact .inl rfl
def dataS (n : Int) : List Int := abc16.take (n.tmod 16).toNat
theorem abc_isB : IsB abc16 := by
 intro x hx
 simp only [abc16, List.mem_cons, List.not_mem_nil, or_false] at hx
 omega
theorem dataS_isB (n : Int) : IsB (dataS n) := abc_isB.take _
theorem dataS_len (n : Int) : (dataS n).length ≤ 16 := by
 unfold dataS
 rw [List.length_take]
 have : abc16.length = 16 := rfl
 omega
def optS (n : Int) : List Int := if Go.bits .and .u8 n 32 = 0 then [] else [1, 1, 1, 0]
theorem optS_is (n : Int) : IsB (optS n) ∧ ((optS n).length : Int) % 4 = 0 ∧ ((optS n).length : Int) ≤ 4 := by
 unfold optS
 split
 ·exact ⟨.nil, rfl, by decide⟩
 ·refine ⟨fun x hx => ?_, rfl, by decide⟩
  simp only [List.mem_cons, List.not_mem_nil, or_false] at hx
  omega
def typS (fl : Int) : Int := if Go.bits .and .u8 fl 1 = 0 then 8 else 0
def resS (fr n : Int) : Int := Go.bits .or .u32 (fr % 4294967296 * 65536 % 4294967296) (n % 4294967296)
def bodyS (pr a b fr tp fl n : Int) : List Int :=
 if pr = 17 then ubytes fr tp (if Go.bits .and .u8 fl 64 = 0 then usum (usumS a b fr tp (dataS n)) else 0) (dataS n)
 else if pr = 6 then tbytes fr tp (n % 4294967296) 0 (Go.bits .and .u8 fl 23) 9 (65535 - norm (tT a b (tbytes fr tp (n % 4294967296) 0 (Go.bits .and .u8 fl 23) 9 0 0 (optS n) (dataS n)))) 0 (optS n) (dataS n)
 else PureI.ibytes (typS fl) 0 (ck (PureI.ibytes (typS fl) 0 0 (resS fr n) (dataS n))) (resS fr n) (dataS n)
theorem typS_r (fl : Int) : U8 (typS fl) := by
 unfold typS U8
 split <;> omega
theorem body_eq (K : Nat) (hK : 4000 ≤ K) {pr a b fr tp fl n : Int} (ha : U32 a) (hb : U32 b) (hf : U16 fr) (ht : U16 tp) : seat_body.f K pr a b fr tp fl n = some (bodyS pr a b fr tp fl n) := by
 have hd := dataS_isB n
 have hl := dataS_len n
 have ho := optS_is n
 have hfl := bits_r8 .and fl 23
 unfold seat_body.f bodyS
 by_cases c17 : pr = 17
 ·rw [if_pos c17, if_pos c17]
  by_cases c64 : Go.bits .and .u8 fl 64 = 0
  ·rw [if_pos c64, if_pos c64]
   have e1 := rusum_eq (c := 0) ha hb hf ht hd (by omega) K hK
   unfold dataS at e1 hl ⊢
   rw [e1, Option.bind_some, rubytes_eq _ _ _ (by omega), if_neg (by omega)]
   rfl
  ·rw [if_neg c64, if_neg c64]
   unfold dataS at hl ⊢
   rw [rubytes_eq _ _ _ (by omega), if_neg (by omega)]
   rfl
 ·rw [if_neg c17, if_neg c17]
  by_cases c6 : pr = 6
  ·rw [if_pos c6, if_pos c6]
   have h2 : ∀ o : List Int, IsB o → ((o.length : Int) % 4 = 0) → ((o.length : Int) ≤ 4) → ((lychref1_TcpSum.f K a b fr tp (n % 4294967296) 0 (Go.bits .and .u8 fl 23) 9 0 0 o (dataS n)).bind fun s => (lychref1_TcpBytes.f K fr tp (n % 4294967296) 0 (Go.bits .and .u8 fl 23) 9 s 0 o (dataS n)).bind fun b => some b.1) = some (tbytes fr tp (n % 4294967296) 0 (Go.bits .and .u8 fl 23) 9 (65535 - norm (tT a b (tbytes fr tp (n % 4294967296) 0 (Go.bits .and .u8 fl 23) 9 0 0 o (dataS n)))) 0 o (dataS n)) := fun o h1 h4 h40 => by
    rw [rtsum_eq ha hb hfl h1 h4 (by omega) hd (by omega) K hK, Option.bind_some, rtbytes_eq (by omega) (by omega) K (by omega), tout_ok h4 (by omega) (by omega)]
    rfl
   unfold optS at ho ⊢
   by_cases c32 : Go.bits .and .u8 n 32 = 0
   ·rw [if_pos c32] at ho ⊢
    rw [if_pos c32]
    exact h2 [] ho.1 ho.2.1 ho.2.2
   ·rw [if_neg c32] at ho ⊢
    rw [if_neg c32]
    exact h2 _ ho.1 ho.2.1 ho.2.2
  ·rw [if_neg c6, if_neg c6]
   have h2 : ∀ t : Int, U8 t → ((lychref1_IcmpSum.f K t 0 0 (resS fr n) (dataS n)).bind fun s => (lychref1_IcmpBytes.f t 0 s (resS fr n) (dataS n)).bind fun b => some b.1) = some (PureI.ibytes t 0 (ck (PureI.ibytes t 0 0 (resS fr n) (dataS n))) (resS fr n) (dataS n)) := fun t h1 => by
    rw [PureI.risumf_eq t 0 0 _ _ K hK (by omega) (PureI.ibytes_isB h1 (by omega) hd), Option.bind_some, PureI.ribytes_eq _ _ _ _ (by omega), if_neg (by omega)]
    rfl
   unfold typS
   by_cases c1 : Go.bits .and .u8 fl 1 = 0
   ·rw [if_pos c1, if_pos c1]
    exact h2 8 (by unfold U8; omega)
   ·rw [if_neg c1, if_neg c1]
    exact h2 0 (by unfold U8; omega)
theorem bodyS_is (pr a b fr tp fl n : Int) : IsB (bodyS pr a b fr tp fl n) ∧ (bodyS pr a b fr tp fl n).length ≤ 50 := by
 have hd := dataS_isB n
 have hl := dataS_len n
 have ho := optS_is n
 unfold bodyS
 split
 ·exact ⟨ubytes_isB hd, by rw [ubytes_length]; omega⟩
 ·split
  ·exact ⟨tbytes_isB (bits_r8 _ _ _) ho.1 hd, by rw [tbytes_length]; omega⟩
  ·exact ⟨PureI.ibytes_isB (typS_r fl) (by omega) hd, by rw [PureI.ibytes_length]; omega⟩
def errT (p8 : Int) : Int := rd [3, 11, 12] (p8.tmod 3)
theorem errT_is (p8 : Int) : errT p8 = 3 ∨ errT p8 = 11 ∨ errT p8 = 12 ∨ errT p8 = 0 := by
 unfold errT rd
 generalize (p8.tmod 3).toNat = i
 match i with
 | 0 => exact .inl rfl
 | 1 => exact .inr (.inl rfl)
 | 2 => exact .inr (.inr (.inl rfl))
 | n + 3 => exact .inr (.inr (.inr rfl))
def errIn (pr s d fr tp p5 p8 : Int) : List Int := ibytes 0 3 pr 0 0 0 d s [] (bodyS pr d s tp fr p5 p8)
def errS (pr s d fr tp p5 p8 : Int) : List Int := PureI.ibytes (errT p8) 0 (ck (PureI.ibytes (errT p8) 0 0 0 (errIn pr s d fr tp p5 p8))) 0 (errIn pr s d fr tp p5 p8)
theorem ip_ok {a t pr i fl of_ s d : Int} {o l : List Int} (hf : fl ≤ 7) (hg : of_ ≤ 8191) (h4 : (o.length : Int) % 4 = 0) (h40 : (o.length : Int) ≤ 40) (hl : (l.length : Int) ≤ 3000) : iout a t pr i fl of_ s d o l = (ibytes a t pr i fl of_ s d o l, 0) := by
 unfold iout
 rw [if_neg (by unfold iwrong; omega), if_neg (by omega)]
theorem errIn_is {pr s d fr tp p5 p8 : Int} (hp : U8 pr) : IsB (errIn pr s d fr tp p5 p8) ∧ (errIn pr s d fr tp p5 p8).length ≤ 70 := by
 obtain ⟨h1, h2⟩ := bodyS_is pr d s tp fr p5 p8
 unfold errIn
 refine ⟨ibytes_isB (by omega) (by omega) hp .nil h1 (by decide), ?_⟩
 rw [ibytes_length]
 have : ([] : List Int).length = 0 := rfl
 omega
theorem errT_r (p8 : Int) : U8 (errT p8) := by
 have := errT_is p8
 unfold U8
 omega
theorem errS_is {pr s d fr tp p5 p8 : Int} (hp : U8 pr) : IsB (errS pr s d fr tp p5 p8) ∧ (errS pr s d fr tp p5 p8).length ≤ 80 := by
 obtain ⟨h1, h2⟩ := errIn_is (s := s) (d := d) (fr := fr) (tp := tp) (p5 := p5) (p8 := p8) hp
 unfold errS
 exact ⟨PureI.ibytes_isB (errT_r p8) (by omega) h1, by rw [PureI.ibytes_length]; omega⟩
theorem er_eq (K : Nat) (hK : 4000 ≤ K) {pr s d fr tp p5 p7 p8 : Int} {x : List Int} (hp : U8 pr) (hs : U32 s) (hd : U32 d) (hf : U16 fr) (ht : U16 tp) : seat_packet.er K pr s d fr tp p5 p7 p8 x = some (if p7.tmod 5 = 4 then (1, errS pr s d fr tp p5 p8) else (pr, x)) := by
 unfold seat_packet.er
 by_cases c : p7.tmod 5 = 4
 ·rw [if_pos c, if_pos c]
  obtain ⟨b1, b2⟩ := bodyS_is pr d s tp fr p5 p8
  obtain ⟨e1, e2⟩ := errIn_is (s := s) (d := d) (fr := fr) (tp := tp) (p5 := p5) (p8 := p8) hp
  rw [body_eq K hK hd hs ht hf, Option.bind_some, ribytes_eq (by omega) (by omega) hp (by omega) (by omega) .nil (by decide) (by omega) K (by omega), ip_ok (by omega) (by omega) rfl (by decide) (by omega), Option.bind_some]
  dsimp only
  have e3 := PureI.risumf_eq (rd [3, 11, 12] (p8.tmod 3)) 0 0 0 (errIn pr s d fr tp p5 p8) K hK (by omega) (PureI.ibytes_isB (errT_r p8) (by omega) e1)
  unfold errIn at e3 e2
  rw [e3, Option.bind_some, PureI.ribytes_eq _ _ _ _ (by omega), if_neg (by omega), Option.bind_some]
  rfl
 ·rw [if_neg c, if_neg c]
theorem sw_is (p6 pr : Int) (hp : U8 pr) : ∃ t pr2 fl of_ o, seat_packet.sw p6 pr = (t, pr2, fl, of_, o) ∧ U8 t ∧ U8 pr2 ∧ (0 ≤ fl ∧ fl ≤ 2) ∧ (0 ≤ of_ ∧ of_ ≤ 5) ∧ IsB o ∧ (o.length : Int) % 4 = 0 ∧ (o.length : Int) ≤ 4 := by
 have h64 : U8 64 := by unfold U8; omega
 unfold seat_packet.sw
 split
 ·exact ⟨_, _, _, _, _, rfl, by unfold U8; omega, hp, by omega, by omega, .nil, rfl, by decide⟩
 ·split
  ·exact ⟨_, _, _, _, _, rfl, h64, hp, by omega, by omega, .nil, rfl, by decide⟩
  ·split
   ·exact ⟨_, _, _, _, _, rfl, h64, hp, by omega, by omega, .nil, rfl, by decide⟩
   ·split
    ·exact ⟨_, _, _, _, _, rfl, h64, by unfold U8; omega, by omega, by omega, .nil, rfl, by decide⟩
    ·split
     ·refine ⟨_, _, _, _, _, rfl, h64, hp, by omega, by omega, fun x hx => ?_, rfl, by decide⟩
      simp only [List.mem_cons, List.not_mem_nil, or_false] at hx
      omega
     ·exact ⟨_, _, _, _, _, rfl, h64, hp, by omega, by omega, .nil, rfl, by decide⟩
theorem packet_told (K : Nat) (hK : 4000 ≤ K) (p0 p1 p2 p3 p4 p5 p6 p7 p8 p9 side n : Int) (h0 : 0 ≤ p0) : ∃ s d fr tp, U32 s ∧ U32 d ∧ U16 fr ∧ U16 tp ∧ lychseat_port.f p3 = some fr ∧ lychseat_port.f p4 = some tp ∧
  seat_packet.f K p0 p1 p2 p3 p4 p5 p6 p7 p8 p9 side n = some (seat_packet.sp p8 p9 (ibytes 0 (seat_packet.sw p6 (if p7.tmod 5 = 4 then 1 else rd [17, 6, 1, 17] (p0.tmod 4))).1 (seat_packet.sw p6 (if p7.tmod 5 = 4 then 1 else rd [17, 6, 1, 17] (p0.tmod 4))).2.1 (IntKind.u16.wrap p8) (seat_packet.sw p6 (if p7.tmod 5 = 4 then 1 else rd [17, 6, 1, 17] (p0.tmod 4))).2.2.1 (seat_packet.sw p6 (if p7.tmod 5 = 4 then 1 else rd [17, 6, 1, 17] (p0.tmod 4))).2.2.2.1 s d (seat_packet.sw p6 (if p7.tmod 5 = 4 then 1 else rd [17, 6, 1, 17] (p0.tmod 4))).2.2.2.2 (if p7.tmod 5 = 4 then errS (rd [17, 6, 1, 17] (p0.tmod 4)) s d fr tp p5 p8 else bodyS (rd [17, 6, 1, 17] (p0.tmod 4)) s d fr tp p5 p8))) := by
 obtain ⟨s0, e1, hs0⟩ := inside_some p1
 obtain ⟨d0, e2, hd0⟩ := outside_some K (by omega) p2 (n % 256)
 obtain ⟨s, d, e3, hs, hd⟩ : ∃ s d, seat_packet.sd K p1 p2 side n s0 d0 = some (s, d) ∧ U32 s ∧ U32 d := by
  unfold seat_packet.sd
  split
  ·exact ⟨_, _, rfl, hs0, hd0⟩
  ·obtain ⟨s1, f1, hs1⟩ := outside_some K (by omega) p1 (n % 256)
   obtain ⟨d1, f2, hd1⟩ := outside_some K (by omega) ((5 + p2.tmod 3) % 256) (n % 256)
   rw [f1, Option.bind_some, f2, Option.bind_some]
   exact ⟨_, _, rfl, hs1, hd1⟩
 obtain ⟨e4, hpr⟩ := proto_some p0 h0
 obtain ⟨fr, e5, hfr⟩ := port_some p3
 obtain ⟨tp, e6, htp⟩ := port_some p4
 refine ⟨s, d, fr, tp, hs, hd, hfr, htp, e5, e6, ?_⟩
 unfold seat_packet.f
 rw [e1, Option.bind_some, e2, Option.bind_some, e3, Option.bind_some, e4, Option.bind_some, e5, Option.bind_some, e6, Option.bind_some]
 generalize rd [17, 6, 1, 17] (p0.tmod 4) = pr at hpr ⊢
 have hp8 : U8 pr := by unfold U8; omega
 dsimp only
 rw [body_eq K hK hs hd hfr htp, Option.bind_some, er_eq K hK hp8 hs hd hfr htp, Option.bind_some]
 have b1 := bodyS_is pr s d fr tp p5 p8
 have b2 := errS_is (s := s) (d := d) (fr := fr) (tp := tp) (p5 := p5) (p8 := p8) hp8
 by_cases c : p7.tmod 5 = 4
 ·rw [if_pos c, if_pos c, if_pos c]
  obtain ⟨t, pr2, fl, of_, o, es, ht, hp2, hfl, hof, ho, h4, h40⟩ := sw_is p6 1 (by unfold U8; omega)
  dsimp only
  rw [es, ribytes_eq (by omega) ht hp2 hfl.1 hof.1 ho (by omega) (by omega) K (by omega), ip_ok (by omega) (by omega) h4 (by omega) (by omega), Option.bind_some]
 ·rw [if_neg c, if_neg c, if_neg c]
  obtain ⟨t, pr2, fl, of_, o, es, ht, hp2, hfl, hof, ho, h4, h40⟩ := sw_is p6 pr hp8
  dsimp only
  rw [es, ribytes_eq (by omega) ht hp2 hfl.1 hof.1 ho (by omega) (by omega) K (by omega), ip_ok (by omega) (by omega) h4 (by omega) (by omega), Option.bind_some]
end Go.Proofs.Ytkmimamminddiaa.Pure
namespace Go.Proofs.Ytkmimamminddiaa.PB
open Go.RowKit Go.Proofs.YtkmimamminddiaaW.PrintWords Go.Proofs.YtkmimamminddiaaW.PrintLast Go.Proofs.YtkmimamminddiaaW.PrintMore
attribute [local go_sem] max2_int min2_int max_two min_two max_three min_three max_four min_four   -- for this text's walks alone
set_option linter.unusedVariables false
set_option linter.unusedSimpArgs false
end Go.Proofs.Ytkmimamminddiaa.PB
/- EthReads, EthOnce, EthBounds, EthBack: the plain statements: for all frames the printed laws return true. -/
namespace Go.Proofs.Ytkmimamminddiaa.Pure
set_option linter.unusedVariables false
set_option linter.unusedSimpArgs false
open Go.RowKit Go.Proofs.Ytkmimamminddiaa.PB Go.Proofs.YtkmimamminddiaaW.PrintWords Go.Proofs.YtkmimamminddiaaW.PrintLast
open Go.Proofs.Ytkmimamminddiaa.Spec Go.Proofs.Ytkmimamminddiaa.BytesEq
theorem w12 : wrap64 (1 + 1) = 2 := wrap64_id (by omega) (by omega)
theorem w34 : wrap64 (3 + 1) = 4 := wrap64_id (by omega) (by omega)
section
end
end Go.Proofs.Ytkmimamminddiaa.Pure
namespace Go.Proofs.Ytkmimamminddiaa.PB
open Go.RowKit Go.Proofs.YtkmimamminddiaaW.PrintWords Go.Proofs.YtkmimamminddiaaW.PrintLast Go.Proofs.YtkmimamminddiaaW.PrintMore
attribute [local go_sem] max2_int min2_int max_two min_two max_three min_three max_four min_four   -- for this text's walks alone
set_option linter.unusedVariables false
set_option linter.unusedSimpArgs false
end Go.Proofs.Ytkmimamminddiaa.PB
/- VxlanReads, VxlanBits, VxlanBack, VxlanBounds, the plain statements: for all bytes, networks and lengths the printed laws return true. -/
namespace Go.Proofs.Ytkmimamminddiaa.Pure
set_option linter.unusedVariables false
set_option linter.unusedSimpArgs false
open Go.RowKit Go.Proofs.Ytkmimamminddiaa.PB Go.Proofs.YtkmimamminddiaaW.PrintWords Go.Proofs.YtkmimamminddiaaW.PrintLast
open Go.Proofs.Ytkmimamminddiaa.Spec Go.Proofs.Ytkmimamminddiaa.BytesEq
end Go.Proofs.Ytkmimamminddiaa.Pure
/- Plain: what is read out of bytes lies in its bounds. -/
namespace Go.Proofs.Ytkmimamminddiaa.Pure
set_option linter.unusedVariables false
set_option linter.unusedSimpArgs false
open Go.RowKit Go.Proofs.Ytkmimamminddiaa.PB Go.Proofs.YtkmimamminddiaaW.PrintWords Go.Proofs.YtkmimamminddiaaW.PrintLast
open Go.Proofs.Ytkmimamminddiaa.Spec Go.Proofs.Ytkmimamminddiaa.BytesEq
theorem u8_0 : U8 0 := by unfold U8; omega
theorem u16_0 : U16 0 := by unfold U16; omega
end Go.Proofs.Ytkmimamminddiaa.Pure
/- Plain: a packet's head in its bounds. -/
namespace Go.Proofs.Ytkmimamminddiaa.Pure
set_option linter.unusedVariables false
set_option linter.unusedSimpArgs false
open Go.RowKit Go.Proofs.Ytkmimamminddiaa.PB Go.Proofs.YtkmimamminddiaaW.PrintWords Go.Proofs.YtkmimamminddiaaW.PrintLast
open Go.Proofs.Ytkmimamminddiaa.Spec Go.Proofs.Ytkmimamminddiaa.BytesEq
structure IpOk (a t i fl of_ s d : Int) (o : List Int) : Prop where
 ha : U8 a
 ht : U8 t
 hi : U16 i
 hf : 0 ≤ fl ∧ fl ≤ 7
 hg : 0 ≤ of_ ∧ of_ ≤ 8191
 hs : U32 s
 hd : U32 d
 ho : IsB o
 h4 : (o.length : Int) % 4 = 0
 h40 : (o.length : Int) ≤ 40
theorem IpOk.to {a t i fl of_ s d s' d' : Int} {o : List Int} (h : IpOk a t i fl of_ s d o) (hs : U32 s') (hd : U32 d') : IpOk a t i fl of_ s' d' o := ⟨h.ha, h.ht, h.hi, h.hf, h.hg, hs, hd, h.ho, h.h4, h.h40⟩
section
variable {a t i fl of_ s d : Int} {o b : List Int}
theorem IpOk.isB (h : IpOk a t i fl of_ s d o) {pr : Int} (hp : U8 pr) (hb : IsB b) : IsB (ibytes a t pr i fl of_ s d o b) := ibytes_isB h.ha h.ht hp h.ho hb h.h40
theorem IpOk.len (h : IpOk a t i fl of_ s d o) {pr : Int} : (ibytes a t pr i fl of_ s d o b).length = 20 + o.length + b.length := ibytes_length
theorem IpOk.seg (h : IpOk a t i fl of_ s d o) {pr : Int} (hp : U8 pr) (hl : b.length ≤ 2500) : iseg (ibytes a t pr i fl of_ s d o b) = (a, t, pr, i, fl, of_, s, d, o, b, 0) := by
 have h1 := h.h40
 have e := iseg_bytes (a := a) (t := t) (pr := pr) (i := i) (fl := fl) (of_ := of_) (s := s) (d := d) (o := o) (l := b) h.ha h.ht hp h.hi h.hf h.hg h.hs h.hd h.ho h.h40 h.h4 (by omega) []
 rwa [List.append_nil] at e
theorem IpOk.parse (h : IpOk a t i fl of_ s d o) {pr : Int} (hp : U8 pr) (hb : IsB b) (hl : b.length ≤ 2500) (K : Nat) (hK : 4000 ≤ K) : ip_Parse.f K (ibytes a t pr i fl of_ s d o b) = some (a, t, pr, i, fl, of_, s, d, o, b, 0) := by
 have h1 := h.h40
 have h2 := h.len (b := b) (pr := pr)
 rw [iparse_eq (h.isB hp hb) (by omega) K (by omega), h.seg hp hl]
theorem IpOk.out (h : IpOk a t i fl of_ s d o) {pr : Int} (hp : U8 pr) (hl : b.length ≤ 2500) (K : Nat) (hK : 4000 ≤ K) : ip_Bytes.f K a t pr i fl of_ s d o b = some (ibytes a t pr i fl of_ s d o b, 0) := by
 have h1 := h.h40
 rw [ibytes_eq h.ha h.ht hp h.hf.1 h.hg.1 h.ho (by omega) (by omega) K (by omega), ip_ok h.hf.2 h.hg.2 h.h4 h.h40 (by omega)]
theorem u8_17 : U8 17 := by unfold U8; omega
end
end Go.Proofs.Ytkmimamminddiaa.Pure
/- Plain: made packets. -/
namespace Go.Proofs.Ytkmimamminddiaa.Pure
set_option linter.unusedVariables false
set_option linter.unusedSimpArgs false
open Go.RowKit Go.Proofs.Ytkmimamminddiaa.PB Go.Proofs.YtkmimamminddiaaW.PrintWords Go.Proofs.YtkmimamminddiaaW.PrintLast
open Go.Proofs.Ytkmimamminddiaa.Spec Go.Proofs.Ytkmimamminddiaa.BytesEq
theorem wrap_p8 {p8 : Int} (h : 0 ≤ p8 ∧ p8 ≤ 255) : U16 (IntKind.u16.wrap p8) := by
 rw [IntKind.wrap_u16]
 unfold U16
 omega
theorem sp_none (p8 : Int) (b : List Int) : seat_packet.sp p8 0 b = b := by
 unfold seat_packet.sp
 rw [if_neg (by decide)]
theorem made_udp (K : Nat) (hK : 4000 ≤ K) (p0 p1 p2 p3 p4 p5 p6 p8 side : Int) (h0 : 0 ≤ p0) (hq : p0.tmod 4 = 0 ∨ p0.tmod 4 = 3) (h6 : 4 ≤ p6.tmod 16) (h8 : 0 ≤ p8 ∧ p8 ≤ 255) : ∃ s d us ud c o, IpOk 0 64 (IntKind.u16.wrap p8) 2 0 s d o ∧ U16 us ∧ U16 ud ∧ U16 c ∧ (c = 0 ∨ c = usum (usumS s d us ud (dataS p8))) ∧
  seat_packet.f K p0 p1 p2 p3 p4 p5 p6 0 p8 0 side 0 = some (ibytes 0 64 17 (IntKind.u16.wrap p8) 2 0 s d o (ubytes us ud c (dataS p8))) := by
 obtain ⟨s, d, fr, tp, hs, hd, hfr, htp, _, _, e⟩ := packet_told K hK p0 p1 p2 p3 p4 p5 p6 0 p8 0 side 0 h0
 have hr : rd [17, 6, 1, 17] (p0.tmod 4) = 17 := by rcases hq with h | h <;> rw [h] <;> rfl
 have h7 : ¬ (0 : Int).tmod 5 = 4 := by decide
 rw [if_neg h7, if_neg h7, hr, sp_none] at e
 have hd1 := dataS_isB p8
 have hu := usum_range (usumS_pos (a := s) (b := d) (s := fr) (d := tp) hs.1 hd.1 hfr.1 htp.1 hd1)
 have hw : ∃ o : List Int, seat_packet.sw p6 17 = (64, 17, 2, 0, o) ∧ IsB o ∧ (o.length : Int) % 4 = 0 ∧ (o.length : Int) ≤ 4 := by
  unfold seat_packet.sw
  rw [if_neg (by omega), if_neg (by omega), if_neg (by omega), if_neg (by omega)]
  split
  ·refine ⟨_, rfl, fun x hx => ?_, rfl, by decide⟩
   simp only [List.mem_cons, List.not_mem_nil, or_false] at hx
   omega
  ·exact ⟨_, rfl, .nil, rfl, by decide⟩
 obtain ⟨o, ho, hB, h4, h40⟩ := hw
 rw [ho] at e
 dsimp only at e
 unfold bodyS at e
 rw [if_pos rfl] at e
 have hk : IpOk 0 64 (IntKind.u16.wrap p8) 2 0 s d o := ⟨u8_0, by unfold U8; omega, wrap_p8 h8, by omega, by omega, hs, hd, hB, h4, by omega⟩
 by_cases hz : Go.bits .and .u8 p5 64 = 0
 ·rw [if_pos hz] at e
  exact ⟨s, d, fr, tp, _, o, hk, hfr, htp, by unfold U16; omega, .inr rfl, e⟩
 ·rw [if_neg hz] at e
  exact ⟨s, d, fr, tp, _, o, hk, hfr, htp, u16_0, .inl rfl, e⟩
end Go.Proofs.Ytkmimamminddiaa.Pure
/- Plain: a datagram looked at and changed. -/
namespace Go.Proofs.Ytkmimamminddiaa.Pure
set_option linter.unusedVariables false
set_option linter.unusedSimpArgs false
open Go.RowKit Go.Proofs.Ytkmimamminddiaa.PB Go.Proofs.YtkmimamminddiaaW.PrintWords Go.Proofs.YtkmimamminddiaaW.PrintLast
open Go.Proofs.Ytkmimamminddiaa.Spec Go.Proofs.Ytkmimamminddiaa.BytesEq
section
variable {a t i fl of_ s d us ud c : Int} {o ub : List Int}
theorem lk_udp_is (h : IpOk a t i fl of_ s d o) (hus : U16 us) (hud : U16 ud) (hc : U16 c) (hub : IsB ub) (hl : ub.length ≤ 2000) (hr : c = 0 ∨ c = usum (usumS s d us ud ub)) (K : Nat) (hK : 4000 ≤ K) :
  lookUdp K a t i fl of_ s d o (ubytes us ud c ub) = some ⟨a, t, 17, i, fl, of_, s, d, o, ubytes us ud c ub, .udp us ud c ub, us, ud, 0, [], 0⟩ := by
 have h1 := ubytes_length us ud c ub
 unfold lookUdp
 rw [uparse_eq (ubytes_isB hub) (by omega), udg_ubytes hus hud hc (by omega), Option.bind_some]
 dsimp only
 rw [if_pos rfl, uright_eq h.hs h.hd hus hud hc hub (by omega) K hK, Option.bind_some, if_pos (decide_eq_true hr)]
def csum (c s d sp dp : Int) (ub : List Int) : Int := if c = 0 then 0 else usum (usumS s d sp dp ub)
theorem csum_u16 {c s d sp dp : Int} {ub : List Int} (hs : U32 s) (hd : U32 d) (hp : U16 sp) (hq : U16 dp) (hub : IsB ub) : U16 (csum c s d sp dp ub) := by
 unfold csum
 split
 ·exact u16_0
 ·have := usum_range (usumS_pos (a := s) (b := d) (s := sp) (d := dp) hs.1 hd.1 hp.1 hq.1 hub)
  unfold U16; omega
theorem csum_zero {c s d sp dp : Int} {ub : List Int} (hs : U32 s) (hd : U32 d) (hp : U16 sp) (hq : U16 dp) (hub : IsB ub) : csum c s d sp dp ub = 0 ↔ c = 0 := by
 have := usum_range (usumS_pos (a := s) (b := d) (s := sp) (d := dp) hs.1 hd.1 hp.1 hq.1 hub)
 unfold csum
 split <;> omega
theorem csum_or {c s d sp dp : Int} {ub : List Int} : csum c s d sp dp ub = 0 ∨ csum c s d sp dp ub = usum (usumS s d sp dp ub) := by
 unfold csum
 split
 ·exact .inl rfl
 ·exact .inr rfl
theorem pt_udp_is (hs : U32 s) (hd : U32 d) (hp : U16 us) (hq : U16 ud) (hub : IsB ub) (hl : ub.length ≤ 2000) (x y : Int) (K : Nat) (hK : 4000 ≤ K) : pointed.f K s us d ud (.udp x y c ub) = some (ubytes us ud (csum c s d us ud ub) ub) := by
 unfold pointed.f csum
 dsimp only
 by_cases h0 : c = 0
 ·rw [if_pos h0, if_pos h0, ubytes_eq _ _ _ (by omega), if_neg (by omega), h0]
  rfl
 ·rw [if_neg h0, if_neg h0, usum_eq hs hd hp hq hub (by omega) K hK, Option.bind_some, ubytes_eq _ _ _ (by omega), if_neg (by omega)]
  rfl
theorem cg_udp_is (h : IpOk a t i fl of_ s d o) {s' d' us' ud' : Int} (hs : U32 s') (hd : U32 d') (hl : ub.length ≤ 2000) {r : LK} (hr : r = ⟨a, t, 17, i, fl, of_, s, d, o, ubytes us ud c ub, .udp us ud c ub, us, ud, 0, [], 0⟩) (c' : Int) (K : Nat) (hK : 4000 ≤ K) :
  changeG K r s' us' d' ud' (some (ubytes us' ud' c' ub)) = some (ibytes a t 17 i fl of_ s' d' o (ubytes us' ud' c' ub), 0) := by
 subst hr
 have h1 := ubytes_length us' ud' c' ub
 unfold changeG
 dsimp only
 rw [if_pos rfl, if_neg (fun h => absurd h.1 (by decide)), Option.bind_some, (h.to hs hd).out u8_17 (by omega) K hK]
end
end Go.Proofs.Ytkmimamminddiaa.Pure
/- rewrite.look: a datagram. -/
namespace Go.Proofs.Ytkmimamminddiaa.PB
open Go.RowKit Go.Proofs.YtkmimamminddiaaW.PrintWords Go.Proofs.YtkmimamminddiaaW.PrintLast Go.Proofs.YtkmimamminddiaaW.PrintMore
set_option linter.unusedVariables false
set_option linter.unusedSimpArgs false
attribute [local go_sem] inR179
attribute [local go_sem] inP179
attribute [local go_sem] inR181
attribute [local go_sem] inP181
attribute [local go_sem] inR183
attribute [local go_sem] inP183
attribute [local go_sem] inT179
attribute [local go_sem] inT181
attribute [local go_sem] inT183
attribute [local go_sem] inF179
attribute [local go_sem] inF181
attribute [local go_sem] inF183
theorem look.lk_udp (k : Nat) (A : Option Addr) (c : Nat) (l : List Int) (a t i fl of_ s d : Int) (o b : List Int) (r : LK) (w : World) (hC : Kd.C (Kd.int .u8) w A l.length l) (hL : l.length ≤ c) (hP : ip_Parse.f k l = some (a, t, 17, i, fl, of_, s, d, o, b, 0)) (h : lookUdp k a t i fl of_ s d o b = some r) :
  Calls Try.prog 69 #[.slice A l.length c] w fun e w' => r.Post w.heap.size w e w' := by
 have hu73 := Try.underlying73
 have hu76 := Try.underlying76
 have hu83 := Try.underlying83
 have hu137 := Try.underlying137
 have hu101 := Try.underlying101
 have hu179 := Try.underlying179
 have hu181 := Try.underlying181
 have hu183 := Try.underlying183
 have HB := Aside0.mk (Below.refl w.heap.size w)
 have HC := Aside0.mk hC
 have HL := Aside0.mk hL
 have HP := Aside0.mk hP
 have HF := Aside0.mk h
 have HI73 : Aside0 ((Try.prog.info? 73).map (·.size) = some 10) := ⟨by kernel_rfl⟩
 have HI76 : Aside0 ((Try.prog.info? 76).map (·.size) = some 7) := ⟨by kernel_rfl⟩
 have HI83 : Aside0 ((Try.prog.info? 83).map (·.size) = some 4) := ⟨by kernel_rfl⟩
 have HI137 : Aside0 ((Try.prog.info? 137).map (·.size) = some 10) := ⟨by kernel_rfl⟩
 have HI101 : Aside0 ((Try.prog.info? 101).map (·.size) = some 5) := ⟨by kernel_rfl⟩
 have HI179 : Aside0 ((Try.prog.info? 179).map (·.size) = some 4) := ⟨by kernel_rfl⟩
 have HI181 : Aside0 ((Try.prog.info? 181).map (·.size) = some 10) := ⟨by kernel_rfl⟩
 have HI183 : Aside0 ((Try.prog.info? 183).map (·.size) = some 5) := ⟨by kernel_rfl⟩
 clear hC hL hP h
 go_enter Try.func69, Try.ntmps69
 go_upto_region 2 with (first | ((with_reducible refine gate_dst (N := 2) rfl ?_); refine box_event ?hg_ (N := 2) ?hd_ (cs := #[.int .u8 0, .int .u8 0, .int .u8 0, .int .u16 0, .int .u8 0, .int .u16 0, .int .u32 0, .int .u32 0, .slice none 0 0, .slice none 0 0]) (t := 73) ?hr_ ?_; (case hd_ => rfl); (case hg_ => rfl); (case hr_ => first | (go_simp; done) | (go_simp; rfl)); intro gi hgg_ w1 hbox_ hbb_; have GHXi := Aside0.mk (show w.heap.size ≤ gi by rw [hgg_]; exact below_size HB.out); have HXi := Aside0.mk hbox_; have hb_ := hbb_; replace HB := mB HB hb_; clear hb_; clear hgg_ hbox_ hbb_) | ((with_reducible refine gate_dst (N := 4) rfl ?_); refine box_event ?hg_ (N := 4) ?hd_ (cs := #[.int .u8 0, .int .u32 0, .int .u16 0, .int .u32 0, .int .u16 0, .int .u8 0, .slice none 0 0]) (t := 76) ?hr_ ?_; (case hd_ => rfl); (case hg_ => rfl); (case hr_ => first | (go_simp; done) | (go_simp; rfl)); intro gq hgg_ w2 hbox_ hbb_; have GHXq := Aside0.mk (show w.heap.size ≤ gq by rw [hgg_]; exact below_size HB.out); have HXq := Aside0.mk hbox_; have hb_ := hbb_; replace HB := mB HB hb_; replace HXi := mX HXi hb_; clear hb_; clear hgg_ hbox_ hbb_) | ((refine rw_newrow rfl rfl rfl rfl rfl HI76.out rfl (by simp [Value.oneCell']) ?_); intro x_new hx_ hbn_))
 revert x_new hx_ hbn_
 intro w3 hx_ hbn_
 have HXn : Aside0 (w3.heap[w2.heap.size]? = some (.cells #[.int .u8 0, .int .u32 0, .int .u16 0, .int .u32 0, .int .u16 0, .int .u8 0, .slice none 0 0] 76 (0, 0))) := ⟨hx_⟩
 have GHXn := bsz HB
 have NE_HXq_HXn := blk_less HXq
 have hb_ := hbn_
 replace HB := mB HB hb_
 replace HXi := mX HXi hb_
 replace HXq := mX HXq hb_
 clear hb_
 clear hx_ hbn_
 generalize w2.heap.size = gn at HXn GHXn NE_HXq_HXn ⊢
 go_wp2_with fail
 refine (ip_Parse.calls k A c l a t 17 i fl of_ s d o b 0 _ (Kd.C_below HC.out HB.out) HL.out HP.out).mono ?_
 rintro ev w4 ⟨vo, vb, rfl, ho, ho2, hb⟩
 have HRo := Aside0.mk (Kd.R_mono (Kd.R_lower ho (below_size HB.out)) (ok' := fun _ => True) (fun _ _ => trivial))
 obtain ⟨Ao, co, rfl, _, _⟩ := Kd.R_reads ho
 clear ho
 have HRb := Aside0.mk (Kd.R_mono (Kd.R_lower ho2 (below_size HB.out)) (ok' := fun _ => True) (fun _ _ => trivial))
 obtain ⟨Ab, cb, rfl, _, _⟩ := Kd.R_reads ho2
 clear ho2
 have hb_ := hb
 replace HB := mB HB hb_
 replace HXi := mX HXi hb_
 replace HXq := mX HXq hb_
 replace HXn := mX HXn hb_
 clear hb_
 clear hb HP HC HL
 (try dsimp only)
 go_upto_region 3 with (((refine rw_newrow rfl rfl rfl rfl rfl HI73.out rfl (by simp [Value.oneCell']) ?_); intro x_new hx_ hbn_))
 revert x_new hx_ hbn_
 intro w5 hx_ hbn_
 have HXp : Aside0 (w5.heap[w4.heap.size]? = some (.cells #[.int .u8 a, .int .u8 t, .int .u8 17, .int .u16 i, .int .u8 fl, .int .u16 of_, .int .u32 s, .int .u32 d, .slice Ao o.length co, .slice Ab b.length cb] 73 (0, 0))) := ⟨hx_⟩
 have GHXp := bsz HB
 have NE_HXi_HXp := blk_less HXi
 have hb_ := hbn_
 replace HB := mB HB hb_
 replace HXi := mX HXi hb_
 replace HXq := mX HXq hb_
 replace HXn := mX HXn hb_
 replace HRo := mR HRo hb_
 replace HRb := mR HRb hb_
 clear hb_
 clear hx_ hbn_
 generalize w4.heap.size = gp at HXp GHXp NE_HXi_HXp ⊢
 have H : lookUdp k a t i fl of_ s d o b = some r := HF.out
 clear HF
 unfold lookUdp at H
 obtain ⟨⟨us, ud, uc, ub, e2⟩, hp, H⟩ := rw_bind H
 dsimp only at H
 have HG := Aside0.mk H
 clear H
 have he1 : ((0 : Int) == 0) = true := rfl
 have he2 : ((0 : Int) != 0) = false := rfl
 (try dsimp only)
 go_wp2_with (refine Kd.event_run rfl (rw_load rfl rfl HXp.out Try.underlying73 rfl HI73.out) ?_)
 clear he1 he2
 refine (rewrite_of.of_udp a t i fl of_ s d Ao o.length co Ab cb b us ud uc e2 ub _ (Kd.R_reads' HRb.out).2.2 (Kd.R_reads' HRb.out).2.1 hp).mono ?_
 rintro ev w6 ⟨vub, rfl, hub, hb⟩
 clear hp
 have HRub := Aside0.mk (Kd.R_mono (Kd.R_lower hub (below_size HB.out)) (ok' := fun _ => True) (fun _ _ => trivial))
 obtain ⟨Aub, cub, rfl, _, _⟩ := Kd.R_reads hub
 clear hub
 have hb_ := hb
 replace HB := mB HB hb_
 replace HXi := mX HXi hb_
 replace HXq := mX HXq hb_
 replace HXn := mX HXn hb_
 replace HRo := mR HRo hb_
 replace HRb := mR HRb hb_
 replace HXp := mX HXp hb_
 clear hb_
 clear hb
 have H := HG.out
 clear HG
 by_cases ce : e2 = 0
 ·have ce1 : (e2 == 0) = true := beq_iff_eq.2 ce
  have ce2 : (e2 != 0) = false := by rw [bne, ce1]; rfl
  rw [if_pos ce] at H
  clear ce
  obtain ⟨rt, hr, H⟩ := rw_bind H
  have HG := Aside0.mk H
  clear H
  (try dsimp only)
  go_wp2_with (refine Kd.event_run rfl (rw_load rfl rfl HXp.out Try.underlying73 rfl HI73.out) ?_)
  refine (rewrite_datagram_right.calls k us ud uc Aub cub ub a t 17 i fl of_ s d Ao co o Ab cb b rt _ (Kd.R_reads' HRub.out).2.2 (Kd.R_reads' HRub.out).2.1 (Kd.R_reads' HRo.out).2.2 (Kd.R_reads' HRo.out).2.1 (Kd.R_reads' HRb.out).2.2 (Kd.R_reads' HRb.out).2.1 (by unfold rewrite_datagram_right.f; rw [hr]; rfl)).mono ?_
  rintro ev w7 ⟨rfl, hb⟩
  clear hr
  have hb_ := hb
  replace HB := mB HB hb_
  replace HXi := mX HXi hb_
  replace HXq := mX HXq hb_
  replace HXn := mX HXn hb_
  replace HRo := mR HRo hb_
  replace HRb := mR HRb hb_
  replace HXp := mX HXp hb_
  replace HRub := mR HRub hb_
  clear hb_
  clear hb
  have H := HG.out
  clear HG
  cases rt with
  | false =>
   rw [if_neg (by decide)] at H
   obtain rfl := Option.some.inj H
   (try dsimp only)
   go_upto_region 9 with (fail)
   refine start_ (n := 6) (S := fun w' => w'.heap[gn]? = some (.cells #[.int .u8 0, .int .u32 0, .int .u16 0, .int .u32 0, .int .u16 0, .int .u8 0, .slice none 0 0] 76 (0, 0))) (ds := []) #[false, false, false, false, false, false] (by kernel_rfl) rfl rfl HXn.out (fun hHeld => ?_)
   refine with_tabW look.R9.tab look.R9.bits (fun HT_ HW_ => ?_)
   have hb_ := below_drew1 (Below.refl w7.heap.size w7)
   replace HB := mB HB hb_
   replace HXi := mX HXi hb_
   replace HXq := mX HXq hb_
   replace HXn := mX HXn hb_
   replace HRo := mR HRo hb_
   replace HRb := mR HRb hb_
   replace HXp := mX HXp hb_
   replace HRub := mR HRub hb_
   clear hb_
   generalize w7.drew = w8 at HB HXi HXq HXn HRo HRb HXp HRub hHeld ⊢
   refine pz 0 41 HT_ ?_
   refine take_ (i := 1) (N := some 42) (v := (.agg #[.int .u8 0, .int .u32 0, .int .u16 0, .int .u32 0, .int .u16 0, .int .u8 0, .slice none 0 0])) #[true, true, false, false, false, false] rfl rfl (take_ofW HT_.out HW_.out (by kernel_rfl)) (fun _ _ _ h => h) (Or.inl ⟨by rfl, fun w' s0 => ?_⟩) hHeld rfl ?_
   ·exact rw_load (p := .tmp 6) (ty := 76) (by rfl) (by rfl) s0 hu76 (by rfl) HI76.out
   refine nz 42 ?_
   refine oz 2 (none) HT_ (fun K hK => ?_)
   refine skip_row (by rfl) (by rfl) rfl rfl rfl HXi.out HI73.out rfl (by simp [Value.oneCell']) ?_
   intro w9 hs_ off_
   replace HXq := oX off_ HXq HXi (by decide)
   replace HXn := oX off_ HXn HXi (by decide)
   replace HRo := oR off_ HRo HXi (by decide)
   replace HRb := oR off_ HRb HXi (by decide)
   replace HXp := oN off_ HXp (ne_sym NE_HXi_HXp)
   replace HRub := oR off_ HRub HXi (by decide)
   replace HB := oB off_ HB GHXi
   clear off_
   replace HXi := Aside0.mk hs_
   clear hs_
   refine hK.out _ _ HXn.out (fun hHeld => ?_)
   clear hK K
   refine pz 3 3 HT_ ?_
   refine oz 4 (none) HT_ (fun K hK => ?_)
   refine skip_row (by rfl) (by rfl) rfl rfl rfl HXq.out HI76.out rfl (by simp [Value.oneCell']) ?_
   intro w10 hs_ off_
   replace HXi := oX off_ HXi HXq (by decide)
   replace HXn := oN off_ HXn (ne_sym NE_HXq_HXn)
   replace HRo := oR off_ HRo HXq (by decide)
   replace HRb := oR off_ HRb HXq (by decide)
   replace HXp := oX off_ HXp HXq (by decide)
   replace HRub := oR off_ HRub HXq (by decide)
   replace HB := oB off_ HB GHXq
   clear off_
   replace HXq := Aside0.mk hs_
   clear hs_
   refine hK.out _ _ HXn.out (fun hHeld => ?_)
   clear hK K
   refine pz 5 5 HT_ ?_
   refine dz HT_ ?_
   clear HT_ HW_ hHeld
   (try dsimp only)
   go_wp2
   (try simp only [Exit.inBlock, Exit.then])
   refine bodyPost_ret (results_ctct rfl _ _ gi gq 73 76 #[.int .u8 0, .int .u8 0, .int .u8 0, .int .u16 0, .int .u8 0, .int .u16 0, .int .u32 0, .int .u32 0, .slice none 0 0, .slice none 0 0] #[.int .u8 0, .int .u32 0, .int .u16 0, .int .u32 0, .int .u16 0, .int .u8 0, .slice none 0 0] (0, 0) (0, 0) _ _ rfl HXi.out hu73 rfl HI73.out rfl HXq.out hu76 rfl HI76.out) rfl ?_
   exact ⟨_, _, _, _, rfl, Kd.R_nil _ _ _ _ _, Kd.R_nil _ _ _ _ _, rfl, Kd.R_nil _ _ _ _ _, HB.out⟩
  | true =>
   rw [if_pos rfl] at H
   have HG := Aside0.mk H
   clear H
   (try dsimp only)
   have gp_2 := cz HXp.out 2 rfl
   have gp_6 := cz HXp.out 6 rfl
   have gp_7 := cz HXp.out 7 rfl
   go_upto_region 11 with (((refine rw_newrow rfl rfl rfl rfl rfl HI76.out rfl (by simp [Value.oneCell']) ?_); intro x_new hx_ hbn_))
   clear gp_2 gp_6 gp_7
   revert x_new hx_ hbn_
   intro w8 hx_ hbn_
   have HXf : Aside0 (w8.heap[w7.heap.size]? = some (.cells #[.int .u8 17, .int .u32 s, .int .u16 0, .int .u32 d, .int .u16 0, .int .u8 0, .slice none 0 0] 76 (0, 0))) := ⟨hx_⟩
   have GHXf := bsz HB
   have NE_HXq_HXf := blk_less HXq
   have NE_HXn_HXf := blk_less HXn
   have hb_ := hbn_
   replace HB := mB HB hb_
   replace HXi := mX HXi hb_
   replace HXq := mX HXq hb_
   replace HXn := mX HXn hb_
   replace HRo := mR HRo hb_
   replace HRb := mR HRb hb_
   replace HXp := mX HXp hb_
   replace HRub := mR HRub hb_
   clear hb_
   clear hx_ hbn_
   generalize w7.heap.size = gf at HXf GHXf NE_HXq_HXf NE_HXn_HXf ⊢
   go_wp2_with fail
   refine (rewrite_datagram_proto.calls us ud uc Aub cub ub 17 _ (Kd.R_reads' HRub.out).2.2 (Kd.R_reads' HRub.out).2.1 rfl).mono ?_
   rintro ev w9 ⟨rfl, hb⟩
   have hb_ := hb
   replace HB := mB HB hb_
   replace HXi := mX HXi hb_
   replace HXq := mX HXq hb_
   replace HXn := mX HXn hb_
   replace HRo := mR HRo hb_
   replace HRb := mR HRb hb_
   replace HXp := mX HXp hb_
   replace HRub := mR HRub hb_
   replace HXf := mX HXf hb_
   clear hb_
   clear hb
   (try dsimp only)
   go_upto_region 21 with (((refine rw_newrow rfl rfl rfl rfl rfl HI179.out rfl (by simp [Value.oneCell']) ?_); intro x_new hx_ hbn_))
   revert x_new hx_ hbn_
   intro w10 hx_ hbn_
   have HXu : Aside0 (w10.heap[w9.heap.size]? = some (.cells #[.int .u16 us, .int .u16 ud, .int .u16 uc, .slice Aub ub.length cub] 179 (0, 0))) := ⟨hx_⟩
   have GHXu := bsz HB
   have hb_ := hbn_
   replace HB := mB HB hb_
   replace HXi := mX HXi hb_
   replace HXq := mX HXq hb_
   replace HXn := mX HXn hb_
   replace HRo := mR HRo hb_
   replace HRb := mR HRb hb_
   replace HXp := mX HXp hb_
   replace HRub := mR HRub hb_
   replace HXf := mX HXf hb_
   clear hb_
   clear hx_ hbn_
   generalize w9.heap.size = gu at HXu GHXu ⊢
   refine start_ (n := 12) (S := fun w' => w'.cell? ⟨gu, 0, none⟩ = some (.int .u16 us) ∧ w'.cell? ⟨gu, 1, none⟩ = some (.int .u16 ud)) (ds := []) #[false, false, false, false, false, false, false, false, false, false, false, false] (by kernel_rfl) rfl rfl ⟨((blk_cell HXu.out 0).trans rfl), ((blk_cell HXu.out 1).trans rfl)⟩ (fun hHeld => ?_)
   refine with_tabW look.R21.tab look.R21.bits (fun HT_ HW_ => ?_)
   have hb_ := below_drew1 (Below.refl w10.heap.size w10)
   replace HB := mB HB hb_
   replace HXi := mX HXi hb_
   replace HXq := mX HXq hb_
   replace HXn := mX HXn hb_
   replace HRo := mR HRo hb_
   replace HRb := mR HRb hb_
   replace HXp := mX HXp hb_
   replace HRub := mR HRub hb_
   replace HXf := mX HXf hb_
   replace HXu := mX HXu hb_
   clear hb_
   generalize w10.drew = w11 at HB HXi HXq HXn HRo HRb HXp HRub HXf HXu hHeld ⊢
   refine pz 0 94 HT_ ?_
   refine pz 1 95 HT_ ?_
   refine pz 3 97 HT_ ?_
   refine pz 4 98 HT_ ?_
   refine tz 2 96 HT_ HW_ hHeld ?_
   refine pz 6 100 HT_ ?_
   refine pz 7 101 HT_ ?_
   refine tz 5 99 HT_ HW_ hHeld ?_
   refine oz 8 (none) HT_ (fun K hK => ?_)
   refine skip_cell (i := 2) (v := .int .u16 us) (cs' := #[.int .u8 17, .int .u32 s, .int .u16 us, .int .u32 d, .int .u16 0, .int .u8 0, .slice none 0 0]) (by rfl) (by rfl) HXf.out rfl (by (have m_ := (blk_cell HXf.out 2).trans (rfl : _ = some (.int .u16 0 : Value))); (have mf_ := blk_frozen HXf.out 2); first | (go_simp; done) | (go_simp; rfl)) ?_
   intro w12 hs_ off_
   replace HXi := oX off_ HXi HXf (by decide)
   replace HXq := oN off_ HXq NE_HXq_HXf
   replace HXn := oN off_ HXn NE_HXn_HXf
   replace HRo := oR off_ HRo HXf (by decide)
   replace HRb := oR off_ HRb HXf (by decide)
   replace HXp := oX off_ HXp HXf (by decide)
   replace HRub := oR off_ HRub HXf (by decide)
   replace HXu := oX off_ HXu HXf (by decide)
   replace HB := oB off_ HB GHXf
   clear off_
   replace HXf := Aside0.mk hs_
   clear hs_
   refine hK.out _ _ ⟨((blk_cell HXu.out 0).trans rfl), ((blk_cell HXu.out 1).trans rfl)⟩ (fun hHeld => ?_)
   clear hK K
   refine pz 9 102 HT_ ?_
   refine pz 10 103 HT_ ?_
   refine oz 11 (none) HT_ (fun K hK => ?_)
   refine skip_cell (i := 4) (v := .int .u16 ud) (cs' := #[.int .u8 17, .int .u32 s, .int .u16 us, .int .u32 d, .int .u16 ud, .int .u8 0, .slice none 0 0]) (by rfl) (by rfl) HXf.out rfl (by (have m_ := (blk_cell HXf.out 4).trans (rfl : _ = some (.int .u16 0 : Value))); (have mf_ := blk_frozen HXf.out 4); first | (go_simp; done) | (go_simp; rfl)) ?_
   intro w13 hs_ off_
   replace HXi := oX off_ HXi HXf (by decide)
   replace HXq := oN off_ HXq NE_HXq_HXf
   replace HXn := oN off_ HXn NE_HXn_HXf
   replace HRo := oR off_ HRo HXf (by decide)
   replace HRb := oR off_ HRb HXf (by decide)
   replace HXp := oX off_ HXp HXf (by decide)
   replace HRub := oR off_ HRub HXf (by decide)
   replace HXu := oX off_ HXu HXf (by decide)
   replace HB := oB off_ HB GHXf
   clear off_
   replace HXf := Aside0.mk hs_
   clear hs_
   refine hK.out _ _ ⟨((blk_cell HXu.out 0).trans rfl), ((blk_cell HXu.out 1).trans rfl)⟩ (fun hHeld => ?_)
   clear hK K
   refine dz HT_ ?_
   clear HT_ HW_ hHeld
   have H := HG.out
   clear HG
   obtain rfl := Option.some.inj H
   (try dsimp only)
   go_upto_region 25 with (fail)
   refine start_ (n := 7) (S := fun w' => w'.heap[gp]? = some (.cells #[.int .u8 a, .int .u8 t, .int .u8 17, .int .u16 i, .int .u8 fl, .int .u16 of_, .int .u32 s, .int .u32 d, .slice Ao o.length co, .slice Ab b.length cb] 73 (0, 0)) ∧ w'.heap[gf]? = some (.cells #[.int .u8 17, .int .u32 s, .int .u16 us, .int .u32 d, .int .u16 ud, .int .u8 0, .slice none 0 0] 76 (0, 0))) (ds := []) #[false, false, false, false, false, false, false] (by kernel_rfl) rfl rfl ⟨HXp.out, HXf.out⟩ (fun hHeld => ?_)
   refine with_tabW look.R25.tab look.R25.bits (fun HT_ HW_ => ?_)
   have hb_ := below_drew1 (Below.refl w13.heap.size w13)
   replace HB := mB HB hb_
   replace HXi := mX HXi hb_
   replace HXq := mX HXq hb_
   replace HXn := mX HXn hb_
   replace HRo := mR HRo hb_
   replace HRb := mR HRb hb_
   replace HXp := mX HXp hb_
   replace HRub := mR HRub hb_
   replace HXf := mX HXf hb_
   replace HXu := mX HXu hb_
   clear hb_
   generalize w13.drew = w14 at HB HXi HXq HXn HRo HRb HXp HRub HXf HXu hHeld ⊢
   refine pz 1 123 HT_ ?_
   refine take_ (i := 0) (N := some 122) (v := (.agg #[.int .u8 a, .int .u8 t, .int .u8 17, .int .u16 i, .int .u8 fl, .int .u16 of_, .int .u32 s, .int .u32 d, .slice Ao o.length co, .slice Ab b.length cb])) #[true, true, false, false, false, false, false] rfl rfl (take_ofW HT_.out HW_.out (by kernel_rfl)) (fun _ _ _ h => h) (Or.inl ⟨by rfl, fun w' s0 => ?_⟩) hHeld rfl ?_
   ·obtain ⟨s0, s1⟩ := s0
    exact rw_load (p := .tmp 7) (ty := 73) (by rfl) (by rfl) s0 hu73 (by rfl) HI73.out
   refine nz 122 ?_
   refine take_ (i := 2) (N := some 124) (v := (.agg #[.int .u8 17, .int .u32 s, .int .u16 us, .int .u32 d, .int .u16 ud, .int .u8 0, .slice none 0 0])) #[true, true, true, false, false, false, false] rfl rfl (take_ofW HT_.out HW_.out (by kernel_rfl)) (fun _ _ _ h => h) (Or.inl ⟨by rfl, fun w' s0 => ?_⟩) hHeld rfl ?_
   ·obtain ⟨s0, s1⟩ := s0
    exact rw_load (p := .tmp 10) (ty := 76) (by rfl) (by rfl) s1 hu76 (by rfl) HI76.out
   refine nz 124 ?_
   refine oz 3 (none) HT_ (fun K hK => ?_)
   refine skip_row (by rfl) (by rfl) rfl rfl rfl HXi.out HI73.out rfl (by simp [Value.oneCell']) ?_
   intro w15 hs_ off_
   replace HXq := oX off_ HXq HXi (by decide)
   replace HXn := oX off_ HXn HXi (by decide)
   replace HRo := oR off_ HRo HXi (by decide)
   replace HRb := oR off_ HRb HXi (by decide)
   replace HXp := oN off_ HXp (ne_sym NE_HXi_HXp)
   replace HRub := oR off_ HRub HXi (by decide)
   replace HXf := oX off_ HXf HXi (by decide)
   replace HXu := oX off_ HXu HXi (by decide)
   replace HB := oB off_ HB GHXi
   clear off_
   replace HXi := Aside0.mk hs_
   clear hs_
   refine hK.out _ _ ⟨HXp.out, HXf.out⟩ (fun hHeld => ?_)
   clear hK K
   refine pz 4 3 HT_ ?_
   refine oz 5 (none) HT_ (fun K hK => ?_)
   refine skip_row (by rfl) (by rfl) rfl rfl rfl HXq.out HI76.out rfl (by simp [Value.oneCell']) ?_
   intro w16 hs_ off_
   replace HXi := oX off_ HXi HXq (by decide)
   replace HXn := oN off_ HXn (ne_sym NE_HXq_HXn)
   replace HRo := oR off_ HRo HXq (by decide)
   replace HRb := oR off_ HRb HXq (by decide)
   replace HXp := oX off_ HXp HXq (by decide)
   replace HRub := oR off_ HRub HXq (by decide)
   replace HXf := oN off_ HXf (ne_sym NE_HXq_HXf)
   replace HXu := oX off_ HXu HXq (by decide)
   replace HB := oB off_ HB GHXq
   clear off_
   replace HXq := Aside0.mk hs_
   clear hs_
   refine hK.out _ _ ⟨HXp.out, HXf.out⟩ (fun hHeld => ?_)
   clear hK K
   refine pz 6 5 HT_ ?_
   refine dz HT_ ?_
   clear HT_ HW_ hHeld
   (try dsimp only)
   go_wp2
   (try simp only [Exit.inBlock, Exit.then])
   refine bodyPost_ret (results_ctct rfl _ _ gi gq 73 76 #[.int .u8 a, .int .u8 t, .int .u8 17, .int .u16 i, .int .u8 fl, .int .u16 of_, .int .u32 s, .int .u32 d, .slice Ao o.length co, .slice Ab b.length cb] #[.int .u8 17, .int .u32 s, .int .u16 us, .int .u32 d, .int .u16 ud, .int .u8 0, .slice none 0 0] (0, 0) (0, 0) _ _ rfl HXi.out hu73 rfl HI73.out rfl HXq.out hu76 rfl HI76.out) rfl ?_
   exact ⟨_, _, _, _, rfl, HRo.out, HRb.out, ⟨_, rfl, HRub.out⟩, Kd.R_nil _ _ _ _ _, HB.out⟩
 ·have ce1 : (e2 == 0) = false := beq_eq_false_iff_ne.2 ce
  have ce2 : (e2 != 0) = true := bne_iff_ne.2 ce
  rw [if_neg ce] at H
  clear ce
  obtain rfl := Option.some.inj H
  (try dsimp only)
  go_upto_region 7 with (fail)
  refine start_ (n := 7) (S := fun w' => w'.heap[gn]? = some (.cells #[.int .u8 0, .int .u32 0, .int .u16 0, .int .u32 0, .int .u16 0, .int .u8 0, .slice none 0 0] 76 (0, 0))) (ds := []) #[false, false, false, false, false, false, false] (by kernel_rfl) rfl rfl HXn.out (fun hHeld => ?_)
  refine with_tabW look.R7.tab look.R7.bits (fun HT_ HW_ => ?_)
  have hb_ := below_drew1 (Below.refl w6.heap.size w6)
  replace HB := mB HB hb_
  replace HXi := mX HXi hb_
  replace HXq := mX HXq hb_
  replace HXn := mX HXn hb_
  replace HRo := mR HRo hb_
  replace HRb := mR HRb hb_
  replace HXp := mX HXp hb_
  replace HRub := mR HRub hb_
  clear hb_
  generalize w6.drew = w7 at HB HXi HXq HXn HRo HRb HXp HRub hHeld ⊢
  refine pz 0 34 HT_ ?_
  refine pz 2 36 HT_ ?_
  refine take_ (i := 1) (N := some 35) (v := (.agg #[.int .u8 0, .int .u32 0, .int .u16 0, .int .u32 0, .int .u16 0, .int .u8 0, .slice none 0 0])) #[true, true, true, false, false, false, false] rfl rfl (take_ofW HT_.out HW_.out (by kernel_rfl)) (fun _ _ _ h => h) (Or.inl ⟨by rfl, fun w' s0 => ?_⟩) hHeld rfl ?_
  ·exact rw_load (p := .tmp 6) (ty := 76) (by rfl) (by rfl) s0 hu76 (by rfl) HI76.out
  refine nz 35 ?_
  refine oz 3 (none) HT_ (fun K hK => ?_)
  refine skip_row (by rfl) (by rfl) rfl rfl rfl HXi.out HI73.out rfl (by simp [Value.oneCell']) ?_
  intro w8 hs_ off_
  replace HXq := oX off_ HXq HXi (by decide)
  replace HXn := oX off_ HXn HXi (by decide)
  replace HRo := oR off_ HRo HXi (by decide)
  replace HRb := oR off_ HRb HXi (by decide)
  replace HXp := oN off_ HXp (ne_sym NE_HXi_HXp)
  replace HRub := oR off_ HRub HXi (by decide)
  replace HB := oB off_ HB GHXi
  clear off_
  replace HXi := Aside0.mk hs_
  clear hs_
  refine hK.out _ _ HXn.out (fun hHeld => ?_)
  clear hK K
  refine pz 4 3 HT_ ?_
  refine oz 5 (none) HT_ (fun K hK => ?_)
  refine skip_row (by rfl) (by rfl) rfl rfl rfl HXq.out HI76.out rfl (by simp [Value.oneCell']) ?_
  intro w9 hs_ off_
  replace HXi := oX off_ HXi HXq (by decide)
  replace HXn := oN off_ HXn (ne_sym NE_HXq_HXn)
  replace HRo := oR off_ HRo HXq (by decide)
  replace HRb := oR off_ HRb HXq (by decide)
  replace HXp := oX off_ HXp HXq (by decide)
  replace HRub := oR off_ HRub HXq (by decide)
  replace HB := oB off_ HB GHXq
  clear off_
  replace HXq := Aside0.mk hs_
  clear hs_
  refine hK.out _ _ HXn.out (fun hHeld => ?_)
  clear hK K
  refine pz 6 5 HT_ ?_
  refine dz HT_ ?_
  clear HT_ HW_ hHeld
  (try dsimp only)
  go_wp2
  (try simp only [Exit.inBlock, Exit.then])
  refine bodyPost_ret (results_ctct rfl _ _ gi gq 73 76 #[.int .u8 0, .int .u8 0, .int .u8 0, .int .u16 0, .int .u8 0, .int .u16 0, .int .u32 0, .int .u32 0, .slice none 0 0, .slice none 0 0] #[.int .u8 0, .int .u32 0, .int .u16 0, .int .u32 0, .int .u16 0, .int .u8 0, .slice none 0 0] (0, 0) (0, 0) _ _ rfl HXi.out hu73 rfl HI73.out rfl HXq.out hu76 rfl HI76.out) rfl ?_
  exact ⟨_, _, _, _, rfl, Kd.R_nil _ _ _ _ _, Kd.R_nil _ _ _ _ _, rfl, Kd.R_nil _ _ _ _ _, HB.out⟩
end Go.Proofs.Ytkmimamminddiaa.PB
/- rewrite.pointed: a datagram. -/
namespace Go.Proofs.Ytkmimamminddiaa.PB
open Go.RowKit Go.Proofs.YtkmimamminddiaaW.PrintWords Go.Proofs.YtkmimamminddiaaW.PrintLast Go.Proofs.YtkmimamminddiaaW.PrintMore
set_option linter.unusedVariables false
set_option linter.unusedSimpArgs false
attribute [local go_sem] inR179
attribute [local go_sem] inP179
attribute [local go_sem] inR181
attribute [local go_sem] inP181
attribute [local go_sem] inR183
attribute [local go_sem] inP183
attribute [local go_sem] inT179
attribute [local go_sem] inT181
attribute [local go_sem] inT183
attribute [local go_sem] inF179
attribute [local go_sem] inF181
attribute [local go_sem] inF183
theorem pointed.pt_udp (k : Nat) (si sp di dp : Int) (us ud uc : Int) (ub : List Int) (vub : Value) (r : List Int) (w : World) {base : Nat} (hub : Kd.R (Kd.int .u8) 5 w base (fun _ => True) vub ub) (H : pointed.f k si sp di dp (.udp us ud uc ub) = some r) :
  Calls Try.prog 70 #[.iface 179 (.agg #[.int .u16 us, .int .u16 ud, .int .u16 uc, vub]), .agg #[.int .u32 si, .int .u16 sp], .agg #[.int .u32 di, .int .u16 dp]] w fun e w' => ∃ vz : Value, e = .returned vz ∧ Kd.R (Kd.int .u8) 5 w' w.heap.size (fun _ => True) vz r ∧ Below w.heap.size w w' := by
 have hu65 := Try.underlying65
 have hu83 := Try.underlying83
 have hu137 := Try.underlying137
 have hu101 := Try.underlying101
 have hu179 := Try.underlying179
 have hu181 := Try.underlying181
 have hu183 := Try.underlying183
 unfold pointed.f at H
 have HB := Aside0.mk (Below.refl w.heap.size w)
 have HI65 : Aside0 ((Try.prog.info? 65).map (·.size) = some 2) := ⟨by kernel_rfl⟩
 have HI83 : Aside0 ((Try.prog.info? 83).map (·.size) = some 4) := ⟨by kernel_rfl⟩
 have HI137 : Aside0 ((Try.prog.info? 137).map (·.size) = some 10) := ⟨by kernel_rfl⟩
 have HI101 : Aside0 ((Try.prog.info? 101).map (·.size) = some 5) := ⟨by kernel_rfl⟩
 have HI179 : Aside0 ((Try.prog.info? 179).map (·.size) = some 4) := ⟨by kernel_rfl⟩
 have HI181 : Aside0 ((Try.prog.info? 181).map (·.size) = some 10) := ⟨by kernel_rfl⟩
 have HI183 : Aside0 ((Try.prog.info? 183).map (·.size) = some 5) := ⟨by kernel_rfl⟩
 obtain ⟨Aub, cub, rfl, _, _⟩ := Kd.R_reads hub
 have HRub := Aside0.mk hub
 clear hub
 have HG := Aside0.mk H
 clear H
 go_enter Try.func70, Try.ntmps70
 go_upto_region 2 with (first | ((with_reducible refine gate_dst (N := 4) rfl ?_); refine box_event ?hg_ (N := 4) ?hd_ (cs := #[.int .u32 si, .int .u16 sp]) (t := 65) ?hr_ ?_; (case hd_ => rfl); (case hg_ => rfl); (case hr_ => first | (go_simp; done) | (go_simp; rfl)); intro gs hgg_ w1 hbox_ hbb_; have GHXs := Aside0.mk (show w.heap.size ≤ gs by rw [hgg_]; exact below_size HB.out); have HXs := Aside0.mk hbox_; have hb_ := hbb_; replace HB := mB HB hb_; replace HRub := mR HRub hb_; clear hb_; clear hgg_ hbox_ hbb_) | ((with_reducible refine gate_dst (N := 5) rfl ?_); refine box_event ?hg_ (N := 5) ?hd_ (cs := #[.int .u32 di, .int .u16 dp]) (t := 65) ?hr_ ?_; (case hd_ => rfl); (case hg_ => rfl); (case hr_ => first | (go_simp; done) | (go_simp; rfl)); intro gd hgg_ w2 hbox_ hbb_; have GHXd := Aside0.mk (show w.heap.size ≤ gd by rw [hgg_]; exact below_size HB.out); have HXd := Aside0.mk hbox_; have NE_HXs_HXd : Aside0 (gs ≠ gd) := ⟨by rw [hgg_]; exact (blk_less HXs).out⟩; have hb_ := hbb_; replace HB := mB HB hb_; replace HRub := mR HRub hb_; replace HXs := mX HXs hb_; clear hb_; clear hgg_ hbox_ hbb_))
 go_wp2_with fail
 refine (rewrite_datagram_proto.calls us ud uc Aub cub ub 17 _ (Kd.R_reads' HRub.out).2.2 (Kd.R_reads' HRub.out).2.1 rfl).mono ?_
 rintro ev w3 ⟨rfl, hb⟩
 have hb_ := hb
 replace HB := mB HB hb_
 replace HRub := mR HRub hb_
 replace HXs := mX HXs hb_
 replace HXd := mX HXd hb_
 clear hb_
 clear hb
 (try dsimp only)
 go_upto_region 10 with (((refine rw_newrow rfl rfl rfl rfl rfl HI83.out rfl (by simp [Value.oneCell']) ?_); intro x_new hx_ hbn_))
 revert x_new hx_ hbn_
 intro w4 hx_ hbn_
 have HXu : Aside0 (w4.heap[w3.heap.size]? = some (.cells #[.int .u16 us, .int .u16 ud, .int .u16 uc, .slice Aub ub.length cub] 83 (0, 0))) := ⟨hx_⟩
 have GHXu := bsz HB
 have hb_ := hbn_
 replace HB := mB HB hb_
 replace HRub := mR HRub hb_
 replace HXs := mX HXs hb_
 replace HXd := mX HXd hb_
 clear hb_
 clear hx_ hbn_
 generalize w3.heap.size = gu at HXu GHXu ⊢
 refine start_ (n := 8) (S := fun w' => w'.cell? ⟨gs, 1, none⟩ = some (.int .u16 sp) ∧ w'.cell? ⟨gd, 1, none⟩ = some (.int .u16 dp)) (ds := []) #[false, false, false, false, false, false, false, false] (by kernel_rfl) rfl rfl ⟨((blk_cell HXs.out 1).trans rfl), ((blk_cell HXd.out 1).trans rfl)⟩ (fun hHeld => ?_)
 refine with_tabW pointed.R10.tab pointed.R10.bits (fun HT_ HW_ => ?_)
 have hb_ := below_drew1 (Below.refl w4.heap.size w4)
 replace HB := mB HB hb_
 replace HRub := mR HRub hb_
 replace HXs := mX HXs hb_
 replace HXd := mX HXd hb_
 replace HXu := mX HXu hb_
 clear hb_
 generalize w4.drew = w5 at HB HRub HXs HXd HXu hHeld ⊢
 refine pz 0 40 HT_ ?_
 refine pz 2 42 HT_ ?_
 refine tz 1 41 HT_ HW_ hHeld ?_
 refine pz 4 44 HT_ ?_
 refine tz 3 43 HT_ HW_ hHeld ?_
 refine oz 5 (none) HT_ (fun K hK => ?_)
 refine skip_cell (i := 0) (v := .int .u16 sp) (cs' := #[.int .u16 sp, .int .u16 ud, .int .u16 uc, .slice Aub ub.length cub]) (by rfl) (by rfl) HXu.out rfl (by (have m_ := (blk_cell HXu.out 0).trans (rfl : _ = some (.int .u16 us : Value))); (have mf_ := blk_frozen HXu.out 0); first | (go_simp; done) | (go_simp; rfl)) ?_
 intro w6 hs_ off_
 replace HRub := oR off_ HRub HXu (by decide)
 replace HXs := oX off_ HXs HXu (by decide)
 replace HXd := oX off_ HXd HXu (by decide)
 replace HB := oB off_ HB GHXu
 clear off_
 replace HXu := Aside0.mk hs_
 clear hs_
 refine hK.out _ _ ⟨((blk_cell HXs.out 1).trans rfl), ((blk_cell HXd.out 1).trans rfl)⟩ (fun hHeld => ?_)
 clear hK K
 refine pz 6 45 HT_ ?_
 refine oz 7 (none) HT_ (fun K hK => ?_)
 refine skip_cell (i := 1) (v := .int .u16 dp) (cs' := #[.int .u16 sp, .int .u16 dp, .int .u16 uc, .slice Aub ub.length cub]) (by rfl) (by rfl) HXu.out rfl (by (have m_ := (blk_cell HXu.out 1).trans (rfl : _ = some (.int .u16 ud : Value))); (have mf_ := blk_frozen HXu.out 1); first | (go_simp; done) | (go_simp; rfl)) ?_
 intro w7 hs_ off_
 replace HRub := oR off_ HRub HXu (by decide)
 replace HXs := oX off_ HXs HXu (by decide)
 replace HXd := oX off_ HXd HXu (by decide)
 replace HB := oB off_ HB GHXu
 clear off_
 replace HXu := Aside0.mk hs_
 clear hs_
 refine hK.out _ _ ⟨((blk_cell HXs.out 1).trans rfl), ((blk_cell HXd.out 1).trans rfl)⟩ (fun hHeld => ?_)
 clear hK K
 refine dz HT_ ?_
 clear HT_ HW_ hHeld
 (try dsimp only)
 have gu_2 := cz HXu.out 2 rfl
 have H := HG.out
 clear HG
 by_cases cu : uc = 0
 ·have cu1 : (uc == 0) = true := beq_iff_eq.2 cu
  have cu2 : (uc != 0) = false := by rw [bne, cu1]; rfl
  rw [if_pos cu] at H
  clear cu
  obtain ⟨⟨rz, re⟩, hz, H⟩ := rw_bind H
  obtain rfl := Option.some.inj H
  (try dsimp only)
  go_wp2_with (refine Kd.event_run rfl (rw_load rfl rfl HXu.out Try.underlying83 rfl HI83.out) ?_)
  refine (udp_Bytes.calls sp dp uc Aub cub ub rz re _ (Kd.R_reads' HRub.out).2.2 (Kd.R_reads' HRub.out).2.1 hz).mono ?_
  rintro ev w8 ⟨vz, rfl, ho, hb⟩
  clear hz
  have HRz := Aside0.mk (Kd.R_mono (Kd.R_lower ho (below_size HB.out)) (ok' := fun _ => True) (fun _ _ => trivial))
  clear ho
  have hb_ := hb
  replace HB := mB HB hb_
  replace HRub := mR HRub hb_
  replace HXs := mX HXs hb_
  replace HXd := mX HXd hb_
  replace HXu := mX HXu hb_
  clear hb_
  clear hb
  (try dsimp only)
  go_wp2
  (try simp only [Exit.inBlock, Exit.then])
  go_ret
  exact ⟨_, rfl, HRz.out, HB.out⟩
 ·have cu1 : (uc == 0) = false := beq_eq_false_iff_ne.2 cu
  have cu2 : (uc != 0) = true := bne_iff_ne.2 cu
  rw [if_neg cu] at H
  clear cu
  obtain ⟨s, hs, H⟩ := rw_bind H
  have HG := Aside0.mk H
  clear H
  have gs_0 := cz HXs.out 0 rfl
  have gd_0 := cz HXd.out 0 rfl
  (try dsimp only)
  go_wp2_with (refine Kd.event_run rfl (rw_load rfl rfl HXu.out Try.underlying83 rfl HI83.out) ?_)
  clear gu_2 gs_0 gd_0
  refine (udp_Sum.calls k si di sp dp uc Aub cub ub s _ (Kd.R_reads' HRub.out).2.2 (Kd.R_reads' HRub.out).2.1 hs).mono ?_
  rintro ev w8 ⟨rfl, hb⟩
  clear hs
  have hb_ := hb
  replace HB := mB HB hb_
  replace HRub := mR HRub hb_
  replace HXs := mX HXs hb_
  replace HXd := mX HXd hb_
  replace HXu := mX HXu hb_
  clear hb_
  clear hb
  (try dsimp only)
  go_upto_region 13 with (((refine rw_set rfl rfl (i := 2) (v := .int .u16 s) (cs' := #[.int .u16 sp, .int .u16 dp, .int .u16 s, .slice Aub ub.length cub]) HXu.out rfl ?hr_ ?_); (case hr_ => (have m_ := (blk_cell HXu.out 2).trans (rfl : _ = some (.int .u16 uc : Value))); (have mf_ := blk_frozen HXu.out 2); first | (go_simp; done) | (go_simp; rfl)); intro w9 hs_ off_; replace HRub := oR off_ HRub HXu (by decide); replace HXs := oX off_ HXs HXu (by decide); replace HXd := oX off_ HXd HXu (by decide); replace HB := oB off_ HB GHXu; clear off_; replace HXu := Aside0.mk hs_; clear hs_))
  have H := HG.out
  clear HG
  obtain ⟨⟨rz, re⟩, hz, H⟩ := rw_bind H
  obtain rfl := Option.some.inj H
  (try dsimp only)
  go_wp2_with (refine Kd.event_run rfl (rw_load rfl rfl HXu.out Try.underlying83 rfl HI83.out) ?_)
  refine (udp_Bytes.calls sp dp s Aub cub ub rz re _ (Kd.R_reads' HRub.out).2.2 (Kd.R_reads' HRub.out).2.1 hz).mono ?_
  rintro ev w10 ⟨vz, rfl, ho, hb⟩
  clear hz
  have HRz := Aside0.mk (Kd.R_mono (Kd.R_lower ho (below_size HB.out)) (ok' := fun _ => True) (fun _ _ => trivial))
  clear ho
  have hb_ := hb
  replace HB := mB HB hb_
  replace HRub := mR HRub hb_
  replace HXs := mX HXs hb_
  replace HXd := mX HXd hb_
  replace HXu := mX HXu hb_
  clear hb_
  clear hb
  (try dsimp only)
  go_wp2
  (try simp only [Exit.inBlock, Exit.then])
  go_ret
  exact ⟨_, rfl, HRz.out, HB.out⟩
end Go.Proofs.Ytkmimamminddiaa.PB
/- RewriteKeeps: its walk. -/
namespace Go.Proofs.Ytkmimamminddiaa.PB
open Go.RowKit Go.Proofs.YtkmimamminddiaaW.PrintWords Go.Proofs.YtkmimamminddiaaW.PrintLast Go.Proofs.YtkmimamminddiaaW.PrintMore
set_option linter.unusedVariables false
set_option linter.unusedSimpArgs false
open Go.Proofs.Ytkmimamminddiaa.Spec Go.Proofs.Ytkmimamminddiaa.BytesEq
theorem rewriteKeeps.calls (p0 p1 p2 p3 p4 p5 p6 p7 p8 p9 side si ps di pd : Int) (w : World) (hp : 0 ≤ p0 ∧ (0 ≤ p8 ∧ p8 ≤ 255) ∧ (0 ≤ p9 ∧ p9 ≤ 255)) (h1 : 0 ≤ si ∧ si ≤ 4294967295) (h2 : 0 ≤ ps ∧ ps ≤ 65535) (h3 : 0 ≤ di ∧ di ≤ 4294967295) (h4 : 0 ≤ pd ∧ pd ≤ 65535) :
  Calls Try.prog 10 #[.agg #[.int .u8 p0, .int .u8 p1, .int .u8 p2, .int .u8 p3, .int .u8 p4, .int .u8 p5, .int .u8 p6, .int .u8 p7, .int .u8 p8, .int .u8 p9], .int .u8 side, .agg #[.int .u32 si, .int .u16 ps], .agg #[.int .u32 di, .int .u16 pd]] w fun e w' => e = .returned (.bool true) ∧ Below w.heap.size w w' := by
 have hu25 := Try.underlying25
 have hu65 := Try.underlying65
 have hu73 := Try.underlying73
 have hu83 := Try.underlying83
 have HB := Aside0.mk (Below.refl w.heap.size w)
 have HI25 : Aside0 ((Try.prog.info? 25).map (·.size) = some 10) := ⟨by kernel_rfl⟩
 have HI65 : Aside0 ((Try.prog.info? 65).map (·.size) = some 2) := ⟨by kernel_rfl⟩
 have HI73 : Aside0 ((Try.prog.info? 73).map (·.size) = some 10) := ⟨by kernel_rfl⟩
 have HI83 : Aside0 ((Try.prog.info? 83).map (·.size) = some 4) := ⟨by kernel_rfl⟩
 obtain ⟨q0, hq0⟩ : ∃ q0, (p0.tmod 2 * 3) % 256 = q0 := ⟨_, rfl⟩
 obtain ⟨q6, hq6⟩ : ∃ q6, (p6.tmod 16 < 4 ∧ q6 = 9) ∨ (¬ p6.tmod 16 < 4 ∧ q6 = p6) := by
  by_cases h : p6.tmod 16 < 4
  ·exact ⟨9, .inl ⟨h, rfl⟩⟩
  ·exact ⟨p6, .inr ⟨h, rfl⟩⟩
 have t0 := Int.tmod_nonneg 2 hp.1
 have t1 := Int.tmod_lt_of_pos p0 (show (0 : Int) < 2 by decide)
 have u0 : q0 = 0 ∨ q0 = 3 := by
  have t2 : p0.tmod 2 = 0 ∨ p0.tmod 2 = 1 := by omega
  rcases t2 with h | h
  ·rw [h] at hq0; exact .inl hq0.symm
  ·rw [h] at hq0; exact .inr hq0.symm
 have u6 : 4 ≤ q6.tmod 16 := by
  rcases hq6 with ⟨_, h⟩ | ⟨h, h'⟩
  ·subst h; decide
  ·subst h'; omega
 have HQ0 := Aside0.mk hq0
 have HQ6 := Aside0.mk hq6
 obtain ⟨s, d, us, ud, cc, o, hk, hus, hud, hcc, hor, hpk⟩ := Pure.made_udp 4000 (Nat.le_refl _) q0 p1 p2 p3 p4 p5 q6 p8 (wrap64 (side.tmod 2)) (by omega) (by rcases u0 with h | h <;> subst h <;> decide) u6 hp.2.1
 obtain ⟨ub, hub⟩ : ∃ ub, ub = Pure.dataS p8 := ⟨_, rfl⟩
 have hB : IsB ub := hub ▸ Pure.dataS_isB p8
 have hl : ub.length ≤ 16 := hub ▸ Pure.dataS_len p8
 rw [← hub] at hor hpk
 obtain ⟨i, hi⟩ : ∃ i, i = IntKind.u16.wrap p8 := ⟨_, rfl⟩
 rw [← hi] at hk hpk
 obtain ⟨dc, hdc⟩ : ∃ dc, dc = Pure.csum cc si di ps pd ub := ⟨_, rfl⟩
 obtain ⟨u, hu⟩ : ∃ u, u = Pure.ubytes us ud cc ub := ⟨_, rfl⟩
 obtain ⟨y, hy⟩ : ∃ y, y = Pure.ubytes ps pd dc ub := ⟨_, rfl⟩
 obtain ⟨b, hb⟩ : ∃ b, b = Pure.ibytes 0 64 17 i 2 0 s d o u := ⟨_, rfl⟩
 obtain ⟨x, hx⟩ : ∃ x, x = Pure.ibytes 0 64 17 i 2 0 si di o y := ⟨_, rfl⟩
 have hul : u.length = 8 + ub.length := by rw [hu, Pure.ubytes_length]
 have hyl : y.length = 8 + ub.length := by rw [hy, Pure.ubytes_length]
 have huB : IsB u := by rw [hu]; exact Pure.ubytes_isB hB
 have hyB : IsB y := by rw [hy]; exact Pure.ubytes_isB hB
 have hk2 := hk.to h1 h3
 have hdc16 : Pure.U16 dc := by rw [hdc]; exact Pure.csum_u16 h1 h3 h2 h4 hB
 obtain ⟨r, hr⟩ : ∃ r : LK, r = ⟨0, 64, 17, i, 2, 0, s, d, o, u, .udp us ud cc ub, us, ud, 0, [], 0⟩ := ⟨_, rfl⟩
 have h40 := hk.h40
 have HPK := Aside0.mk (show seat_packet.f 4000 q0 p1 p2 p3 p4 p5 q6 0 p8 0 (wrap64 (side.tmod 2)) 0 = some b by rw [hb, hu]; exact hpk)
 have HP89 : Aside0 ((0 ≤ p8 ∧ p8 ≤ 255) ∧ ((0 : Int) ≤ 0 ∧ (0 : Int) ≤ 255)) := ⟨hp.2.1, by omega⟩
 have HPA := Aside0.mk (show ip_Parse.f 4000 b = some (0, 64, 17, i, 2, 0, s, d, o, u, 0) by rw [hb]; exact hk.parse Pure.u8_17 huB (by omega) 4000 (Nat.le_refl _))
 have HLK := Aside0.mk (show lookUdp 4000 0 64 i 2 0 s d o u = some r by rw [hr, hu]; exact Pure.lk_udp_is hk hus hud hcc hB (by omega) hor 4000 (Nat.le_refl _))
 have HPT := Aside0.mk (show pointed.f 4000 si ps di pd (.udp us ud cc ub) = some y by rw [hy, hdc]; exact Pure.pt_udp_is h1 h3 h2 h4 hB (by omega) us ud 4000 (Nat.le_refl _))
 have HCG := Aside0.mk (show changeG 4000 r si ps di pd (some y) = some (x, 0) by rw [hy, hx, hy]; exact Pure.cg_udp_is hk h1 h3 (by omega) (by rw [hr, hu]) dc 4000 (Nat.le_refl _))
 have HR_ := Aside0.mk (show r.x = .udp us ud cc ub by rw [hr])
 have HI1 := Aside0.mk (show lychref1_Ip.f 4000 b = some (0, 64, 17, i, 2, 0, s, d, o, u, 0) by rw [hb, Pure.riparse_eq (hk.isB Pure.u8_17 huB) (by rw [hk.len]; omega) 4000 (by rw [hk.len]; omega), hk.seg Pure.u8_17 (by omega)])
 have HI2 := Aside0.mk (show lychref1_Ip.f 4000 x = some (0, 64, 17, i, 2, 0, si, di, o, y, 0) by rw [hx, Pure.riparse_eq (hk2.isB Pure.u8_17 hyB) (by rw [hk2.len]; omega) 4000 (by rw [hk2.len]; omega), hk2.seg Pure.u8_17 (by omega)])
 have HU1 := Aside0.mk (show lychref1_Udp.f u = some (us, ud, cc, ub, 0) by rw [Pure.ruparse_eq huB (by omega), hu, Pure.udg_ubytes hus hud hcc (by omega)])
 have HU2 := Aside0.mk (show lychref1_Udp.f y = some (ps, pd, dc, ub, 0) by rw [Pure.ruparse_eq hyB (by omega), hy, Pure.udg_ubytes h2 h4 hdc16 (by omega)])
 have HUR := Aside0.mk (show lychref1_UdpRight.f 4000 si di ps pd dc ub = some true by rw [Pure.ruright_eq h1 h3 h2 h4 hdc16 hB (by omega) 4000 (Nat.le_refl _), hdc, decide_eq_true Pure.csum_or])
 have HZ1 := Aside0.mk (show ((x.length : Int) == (b.length : Int)) = true by rw [hx, hb, hk.len, hk2.len, hul, hyl]; exact beq_self_eq_true _)
 have HZ7 := Aside0.mk (show ((cc == 0) == (dc == 0)) = true by
  by_cases h : cc = 0
  ·have h' : dc = 0 := by rw [hdc]; exact (Pure.csum_zero h1 h3 h2 h4 hB).2 h
   rw [h, h']; rfl
  ·have h' : ¬ dc = 0 := by rw [hdc]; exact fun h5 => h ((Pure.csum_zero h1 h3 h2 h4 hB).1 h5)
   rw [beq_eq_false_iff_ne.2 h, beq_eq_false_iff_ne.2 h']; rfl)
 clear hq0 hq6 t0 t1 u0 u6 hk hus hud hcc hor hpk hub hB hl hi hdc hu hy hb hx hul hyl huB hyB hk2 hdc16 hr h40 h1 h2 h3 h4 hp
 go_enter Try.func10, Try.ntmps10
 go_upto_region 1 with (first | ((with_reducible refine gate_dst (N := 4) rfl ?_); refine box_event ?hg_ (N := 4) ?hd_ (cs := #[.int .u8 p0, .int .u8 p1, .int .u8 p2, .int .u8 p3, .int .u8 p4, .int .u8 p5, .int .u8 p6, .int .u8 p7, .int .u8 p8, .int .u8 p9]) (t := 25) ?hr_ ?_; (case hd_ => rfl); (case hg_ => rfl); (case hr_ => first | (go_simp; done) | (go_simp; rfl)); intro gk hgg_ w1 hbox_ hbb_; have GHXk := Aside0.mk (show w.heap.size ≤ gk by rw [hgg_]; exact below_size HB.out); have HXk := Aside0.mk hbox_; have hb_ := hbb_; replace HB := mB HB hb_; clear hb_; clear hgg_ hbox_ hbb_) | ((with_reducible refine gate_dst (N := 6) rfl ?_); refine box_event ?hg_ (N := 6) ?hd_ (cs := #[.int .u32 si, .int .u16 ps]) (t := 65) ?hr_ ?_; (case hd_ => rfl); (case hg_ => rfl); (case hr_ => first | (go_simp; done) | (go_simp; rfl)); intro gs hgg_ w2 hbox_ hbb_; have GHXs := Aside0.mk (show w.heap.size ≤ gs by rw [hgg_]; exact below_size HB.out); have HXs := Aside0.mk hbox_; have hb_ := hbb_; replace HB := mB HB hb_; replace HXk := mX HXk hb_; clear hb_; clear hgg_ hbox_ hbb_) | ((with_reducible refine gate_dst (N := 7) rfl ?_); refine box_event ?hg_ (N := 7) ?hd_ (cs := #[.int .u32 di, .int .u16 pd]) (t := 65) ?hr_ ?_; (case hd_ => rfl); (case hg_ => rfl); (case hr_ => first | (go_simp; done) | (go_simp; rfl)); intro gd hgg_ w3 hbox_ hbb_; have GHXd := Aside0.mk (show w.heap.size ≤ gd by rw [hgg_]; exact below_size HB.out); have HXd := Aside0.mk hbox_; have NE_HXs_HXd : Aside0 (gs ≠ gd) := ⟨by rw [hgg_]; exact (blk_less HXs).out⟩; have hb_ := hbb_; replace HB := mB HB hb_; replace HXk := mX HXk hb_; replace HXs := mX HXs hb_; clear hb_; clear hgg_ hbox_ hbb_))
 go_wp2_with fail
 refine (known8.calls _).mono ?_
 rintro ev w4 ⟨rfl, hb⟩
 have hb_ := hb
 replace HB := mB HB hb_
 replace HXk := mX HXk hb_
 replace HXs := mX HXs hb_
 replace HXd := mX HXd hb_
 clear hb_
 clear hb
 (try dsimp only)
 have gk_0 : w4.cell? ⟨gk, 0, none⟩ = some (.int .u8 p0) := (blk_cell HXk.out 0).trans rfl
 have z_ := HQ0.out
 go_upto_region 4 with (first | ((refine rw_set rfl rfl (i := 9) (v := .int .u8 0) (cs' := #[.int .u8 p0, .int .u8 p1, .int .u8 p2, .int .u8 p3, .int .u8 p4, .int .u8 p5, .int .u8 p6, .int .u8 p7, .int .u8 p8, .int .u8 0]) HXk.out rfl ?hr_ ?_); (case hr_ => (have m_ := (blk_cell HXk.out 9).trans (rfl : _ = some (.int .u8 p9 : Value))); (have mf_ := blk_frozen HXk.out 9); first | (go_simp; done) | (go_simp; rfl)); intro w5 hs_ off_; replace HXs := oX off_ HXs HXk (by decide); replace HXd := oX off_ HXd HXk (by decide); replace HB := oB off_ HB GHXk; clear off_; replace HXk := Aside0.mk hs_; clear hs_) | ((refine rw_set rfl rfl (i := 0) (v := .int .u8 q0) (cs' := #[.int .u8 q0, .int .u8 p1, .int .u8 p2, .int .u8 p3, .int .u8 p4, .int .u8 p5, .int .u8 p6, .int .u8 p7, .int .u8 p8, .int .u8 0]) HXk.out rfl ?hr_ ?_); (case hr_ => (have m_ := (blk_cell HXk.out 0).trans (rfl : _ = some (.int .u8 p0 : Value))); (have mf_ := blk_frozen HXk.out 0); first | (go_simp; done) | (go_simp; rfl)); intro w6 hs_ off_; replace HXs := oX off_ HXs HXk (by decide); replace HXd := oX off_ HXd HXk (by decide); replace HB := oB off_ HB GHXk; clear off_; replace HXk := Aside0.mk hs_; clear hs_))
 clear gk_0 z_
 have gk_6 : w6.cell? ⟨gk, 6, none⟩ = some (.int .u8 p6) := (blk_cell HXk.out 6).trans rfl
 rcases HQ6.out with ⟨h1, h2⟩ | ⟨h1, h2⟩
 all_goals have n1 := h1
 all_goals first
  | (have d1 : decide (p6.tmod 16 < 4) = true := decide_eq_true n1; clear n1 h1; go_upto_region 7 with (first | ((refine rw_set rfl rfl (i := 6) (v := .int .u8 9) (cs' := #[.int .u8 q0, .int .u8 p1, .int .u8 p2, .int .u8 p3, .int .u8 p4, .int .u8 p5, .int .u8 9, .int .u8 p7, .int .u8 p8, .int .u8 0]) HXk.out rfl ?hr_ ?_); (case hr_ => (have m_ := (blk_cell HXk.out 6).trans (rfl : _ = some (.int .u8 p6 : Value))); (have mf_ := blk_frozen HXk.out 6); first | (go_simp; done) | (go_simp; rfl)); intro w7 hs_ off_; replace HXs := oX off_ HXs HXk (by decide); replace HXd := oX off_ HXd HXk (by decide); replace HB := oB off_ HB GHXk; clear off_; replace HXk := Aside0.mk hs_; clear hs_) | ((refine rw_set rfl rfl (i := 7) (v := .int .u8 0) (cs' := #[.int .u8 q0, .int .u8 p1, .int .u8 p2, .int .u8 p3, .int .u8 p4, .int .u8 p5, .int .u8 9, .int .u8 0, .int .u8 p8, .int .u8 0]) HXk.out rfl ?hr_ ?_); (case hr_ => (have m_ := (blk_cell HXk.out 7).trans (rfl : _ = some (.int .u8 p7 : Value))); (have mf_ := blk_frozen HXk.out 7); first | (go_simp; done) | (go_simp; rfl)); intro w8 hs_ off_; replace HXs := oX off_ HXs HXk (by decide); replace HXd := oX off_ HXd HXk (by decide); replace HB := oB off_ HB GHXk; clear off_; replace HXk := Aside0.mk hs_; clear hs_)))
  | (have d1 : decide (p6.tmod 16 < 4) = false := decide_eq_false (by omega); clear n1 h1; go_upto_region 7 with (((refine rw_set rfl rfl (i := 7) (v := .int .u8 0) (cs' := #[.int .u8 q0, .int .u8 p1, .int .u8 p2, .int .u8 p3, .int .u8 p4, .int .u8 p5, .int .u8 p6, .int .u8 0, .int .u8 p8, .int .u8 0]) HXk.out rfl ?hr_ ?_); (case hr_ => (have m_ := (blk_cell HXk.out 7).trans (rfl : _ = some (.int .u8 p7 : Value))); (have mf_ := blk_frozen HXk.out 7); first | (go_simp; done) | (go_simp; rfl)); intro w8 hs_ off_; replace HXs := oX off_ HXs HXk (by decide); replace HXd := oX off_ HXd HXk (by decide); replace HB := oB off_ HB GHXk; clear off_; replace HXk := Aside0.mk hs_; clear hs_)))
 all_goals replace HXk : Aside0 (w8.heap[gk]? = some (.cells #[.int .u8 q0, .int .u8 p1, .int .u8 p2, .int .u8 p3, .int .u8 p4, .int .u8 p5, .int .u8 q6, .int .u8 0, .int .u8 p8, .int .u8 0] 25 (0, 0))) := ⟨by rw [h2]; exact HXk.out⟩
 all_goals clear gk_6 d1 h2
 all_goals
  go_wp2_with (refine Kd.event_run rfl (rw_load rfl rfl HXk.out Try.underlying25 rfl HI25.out) ?_)
  refine (seat_packet.calls 4000 q0 p1 p2 p3 p4 p5 q6 0 p8 0 (wrap64 (side.tmod 2)) 0 b _ HP89.out HPK.out).mono ?_
  rintro ev w9 ⟨v_, rfl, ho, hb⟩
  have HRb := Aside0.mk (Kd.R_lower ho (below_size HB.out))
  obtain ⟨Ab, cb, rfl, _, _⟩ := Kd.R_reads ho
  clear ho
  have hb_ := hb
  replace HB := mB HB hb_
  replace HXk := mX HXk hb_
  replace HXs := mX HXs hb_
  replace HXd := mX HXd hb_
  clear hb_
  clear hb
  (try dsimp only)
  clear HXk
  go_wp2_with (first | (refine Kd.event_run rfl (rw_load rfl rfl HXs.out Try.underlying65 rfl HI65.out) ?_) | (refine Kd.event_run rfl (rw_load rfl rfl HXd.out Try.underlying65 rfl HI65.out) ?_))
  refine (rewrite_Change.via 4000 Ab cb b r si ps di pd (some y) x 0 _ (Kd.R_reads' HRb.out).2.2 (Kd.R_reads' HRb.out).2.1 (fun w2 h2 => look.lk_udp 4000 Ab cb b 0 64 i 2 0 s d o u r w2 h2 (Kd.R_reads' HRb.out).2.1 HPA.out HLK.out) (fun y' hy w2 vx base hv => by obtain rfl := Option.some.inj hy; rw [HR_.out] at hv; obtain ⟨v3, rfl, h3⟩ := hv; exact pointed.pt_udp 4000 si ps di pd us ud cc ub v3 y w2 h3 HPT.out) HCG.out).mono ?_
  rintro ev w10 ⟨v_, rfl, ho, hb⟩
  have HRx := Aside0.mk (Kd.R_lower ho (below_size HB.out))
  obtain ⟨Ax, cx, rfl, _, _⟩ := Kd.R_reads ho
  clear ho
  have hb_ := hb
  replace HB := mB HB hb_
  replace HXs := mX HXs hb_
  replace HXd := mX HXd hb_
  replace HRb := mR HRb hb_
  clear hb_
  clear hb
  (try dsimp only)
  go_wp2_with fail
  refine (lychref1_Ip.calls 4000 Ab cb b 0 64 17 i 2 0 s d o u 0 _ (Kd.R_reads' HRb.out).2.2 (Kd.R_reads' HRb.out).2.1 HI1.out).mono ?_
  rintro ev w11 ⟨vo, vb, rfl, ho, ho2, hb⟩
  have HRo := Aside0.mk (Kd.R_mono (Kd.R_lower ho (below_size HB.out)) (ok' := fun _ => True) (fun _ _ => trivial))
  obtain ⟨Ao, co, rfl, _, _⟩ := Kd.R_reads ho
  clear ho
  have HRu := Aside0.mk (Kd.R_mono (Kd.R_lower ho2 (below_size HB.out)) (ok' := fun _ => True) (fun _ _ => trivial))
  obtain ⟨Au, cu, rfl, _, _⟩ := Kd.R_reads ho2
  clear ho2
  have hb_ := hb
  replace HB := mB HB hb_
  replace HXs := mX HXs hb_
  replace HXd := mX HXd hb_
  replace HRb := mR HRb hb_
  replace HRx := mR HRx hb_
  clear hb_
  clear hb
  (try dsimp only)
  go_upto_region 10 with (((refine rw_newrow rfl rfl rfl rfl rfl HI73.out rfl (by simp [Value.oneCell']) ?_); intro x_new hx_ hbn_))
  revert x_new hx_ hbn_
  intro w12 hx_ hbn_
  have HXq : Aside0 (w12.heap[w11.heap.size]? = some (.cells #[.int .u8 0, .int .u8 64, .int .u8 17, .int .u16 i, .int .u8 2, .int .u16 0, .int .u32 s, .int .u32 d, .slice Ao o.length co, .slice Au u.length cu] 73 (0, 0))) := ⟨hx_⟩
  have GHXq := bsz HB
  have hb_ := hbn_
  replace HB := mB HB hb_
  replace HXs := mX HXs hb_
  replace HXd := mX HXd hb_
  replace HRb := mR HRb hb_
  replace HRx := mR HRx hb_
  replace HRo := mR HRo hb_
  replace HRu := mR HRu hb_
  clear hb_
  clear hx_ hbn_
  generalize w11.heap.size = gq at HXq GHXq ⊢
  go_wp2_with fail
  refine (lychref1_Ip.calls 4000 Ax cx x 0 64 17 i 2 0 si di o y 0 _ (Kd.R_reads' HRx.out).2.2 (Kd.R_reads' HRx.out).2.1 HI2.out).mono ?_
  rintro ev w13 ⟨vo, vb, rfl, ho, ho2, hb⟩
  have HRo2 := Aside0.mk (Kd.R_mono (Kd.R_lower ho (below_size HB.out)) (ok' := fun _ => True) (fun _ _ => trivial))
  obtain ⟨Ao2, co2, rfl, _, _⟩ := Kd.R_reads ho
  clear ho
  have HRy := Aside0.mk (Kd.R_mono (Kd.R_lower ho2 (below_size HB.out)) (ok' := fun _ => True) (fun _ _ => trivial))
  obtain ⟨Ay, cy, rfl, _, _⟩ := Kd.R_reads ho2
  clear ho2
  have hb_ := hb
  replace HB := mB HB hb_
  replace HXs := mX HXs hb_
  replace HXd := mX HXd hb_
  replace HRb := mR HRb hb_
  replace HRx := mR HRx hb_
  replace HRo := mR HRo hb_
  replace HRu := mR HRu hb_
  replace HXq := mX HXq hb_
  clear hb_
  clear hb
  (try dsimp only)
  go_upto_region 11 with (((refine rw_newrow rfl rfl rfl rfl rfl HI73.out rfl (by simp [Value.oneCell']) ?_); intro x_new hx_ hbn_))
  revert x_new hx_ hbn_
  intro w14 hx_ hbn_
  have HXr : Aside0 (w14.heap[w13.heap.size]? = some (.cells #[.int .u8 0, .int .u8 64, .int .u8 17, .int .u16 i, .int .u8 2, .int .u16 0, .int .u32 si, .int .u32 di, .slice Ao2 o.length co2, .slice Ay y.length cy] 73 (0, 0))) := ⟨hx_⟩
  have GHXr := bsz HB
  have NE_HXq_HXr := blk_less HXq
  have hb_ := hbn_
  replace HB := mB HB hb_
  replace HXs := mX HXs hb_
  replace HXd := mX HXd hb_
  replace HRb := mR HRb hb_
  replace HRx := mR HRx hb_
  replace HRo := mR HRo hb_
  replace HRu := mR HRu hb_
  replace HXq := mX HXq hb_
  replace HRo2 := mR HRo2 hb_
  replace HRy := mR HRy hb_
  clear hb_
  clear hx_ hbn_
  generalize w13.heap.size = gr at HXr GHXr NE_HXq_HXr ⊢
  have gq_9 : w14.cell? ⟨gq, 9, none⟩ = some (.slice Au u.length cu) := (blk_cell HXq.out 9).trans rfl
  go_wp2_with fail
  clear gq_9
  refine (lychref1_Udp.calls Au cu u us ud cc ub 0 _ (Kd.R_reads' HRu.out).2.2 (Kd.R_reads' HRu.out).2.1 HU1.out).mono ?_
  rintro ev w15 ⟨v3, rfl, ho, hb⟩
  have HRm := Aside0.mk (Kd.R_mono (Kd.R_lower ho (below_size HB.out)) (ok' := fun _ => True) (fun _ _ => trivial))
  obtain ⟨Am, cm, rfl, _, _⟩ := Kd.R_reads ho
  clear ho
  have hb_ := hb
  replace HB := mB HB hb_
  replace HXs := mX HXs hb_
  replace HXd := mX HXd hb_
  replace HRb := mR HRb hb_
  replace HRx := mR HRx hb_
  replace HRo := mR HRo hb_
  replace HRu := mR HRu hb_
  replace HXq := mX HXq hb_
  replace HRo2 := mR HRo2 hb_
  replace HRy := mR HRy hb_
  replace HXr := mX HXr hb_
  clear hb_
  clear hb
  (try dsimp only)
  go_upto_region 12 with (((refine rw_newrow rfl rfl rfl rfl rfl HI83.out rfl (by simp [Value.oneCell']) ?_); intro x_new hx_ hbn_))
  revert x_new hx_ hbn_
  intro w16 hx_ hbn_
  have HXu : Aside0 (w16.heap[w15.heap.size]? = some (.cells #[.int .u16 us, .int .u16 ud, .int .u16 cc, .slice Am ub.length cm] 83 (0, 0))) := ⟨hx_⟩
  have GHXu := bsz HB
  have hb_ := hbn_
  replace HB := mB HB hb_
  replace HXs := mX HXs hb_
  replace HXd := mX HXd hb_
  replace HRb := mR HRb hb_
  replace HRx := mR HRx hb_
  replace HRo := mR HRo hb_
  replace HRu := mR HRu hb_
  replace HXq := mX HXq hb_
  replace HRo2 := mR HRo2 hb_
  replace HRy := mR HRy hb_
  replace HXr := mX HXr hb_
  replace HRm := mR HRm hb_
  clear hb_
  clear hx_ hbn_
  generalize w15.heap.size = gu at HXu GHXu ⊢
  have gr_9 : w16.cell? ⟨gr, 9, none⟩ = some (.slice Ay y.length cy) := (blk_cell HXr.out 9).trans rfl
  go_wp2_with fail
  clear gr_9
  refine (lychref1_Udp.calls Ay cy y ps pd dc ub 0 _ (Kd.R_reads' HRy.out).2.2 (Kd.R_reads' HRy.out).2.1 HU2.out).mono ?_
  rintro ev w17 ⟨v3, rfl, ho, hb⟩
  have HRn := Aside0.mk (Kd.R_mono (Kd.R_lower ho (below_size HB.out)) (ok' := fun _ => True) (fun _ _ => trivial))
  obtain ⟨An, cn, rfl, _, _⟩ := Kd.R_reads ho
  clear ho
  have hb_ := hb
  replace HB := mB HB hb_
  replace HXs := mX HXs hb_
  replace HXd := mX HXd hb_
  replace HRb := mR HRb hb_
  replace HRx := mR HRx hb_
  replace HRo := mR HRo hb_
  replace HRu := mR HRu hb_
  replace HXq := mX HXq hb_
  replace HRo2 := mR HRo2 hb_
  replace HRy := mR HRy hb_
  replace HXr := mX HXr hb_
  replace HRm := mR HRm hb_
  replace HXu := mX HXu hb_
  clear hb_
  clear hb
  (try dsimp only)
  go_upto_region 13 with (((refine rw_newrow rfl rfl rfl rfl rfl HI83.out rfl (by simp [Value.oneCell']) ?_); intro x_new hx_ hbn_))
  revert x_new hx_ hbn_
  intro w18 hx_ hbn_
  have HXv : Aside0 (w18.heap[w17.heap.size]? = some (.cells #[.int .u16 ps, .int .u16 pd, .int .u16 dc, .slice An ub.length cn] 83 (0, 0))) := ⟨hx_⟩
  have GHXv := bsz HB
  have NE_HXu_HXv := blk_less HXu
  have hb_ := hbn_
  replace HB := mB HB hb_
  replace HXs := mX HXs hb_
  replace HXd := mX HXd hb_
  replace HRb := mR HRb hb_
  replace HRx := mR HRx hb_
  replace HRo := mR HRo hb_
  replace HRu := mR HRu hb_
  replace HXq := mX HXq hb_
  replace HRo2 := mR HRo2 hb_
  replace HRy := mR HRy hb_
  replace HXr := mX HXr hb_
  replace HRm := mR HRm hb_
  replace HXu := mX HXu hb_
  replace HRn := mR HRn hb_
  clear hb_
  clear hx_ hbn_
  generalize w17.heap.size = gv at HXv GHXv NE_HXu_HXv ⊢
  have gr_0 : w18.cell? ⟨gr, 0, none⟩ = some (.int .u8 0) := (blk_cell HXr.out 0).trans rfl
  have gr_1 : w18.cell? ⟨gr, 1, none⟩ = some (.int .u8 64) := (blk_cell HXr.out 1).trans rfl
  have gr_3 : w18.cell? ⟨gr, 3, none⟩ = some (.int .u16 i) := (blk_cell HXr.out 3).trans rfl
  have gr_4 : w18.cell? ⟨gr, 4, none⟩ = some (.int .u8 2) := (blk_cell HXr.out 4).trans rfl
  have gr_8 : w18.cell? ⟨gr, 8, none⟩ = some (.slice Ao2 o.length co2) := (blk_cell HXr.out 8).trans rfl
  have gq_0 : w18.cell? ⟨gq, 0, none⟩ = some (.int .u8 0) := (blk_cell HXq.out 0).trans rfl
  have gq_1 : w18.cell? ⟨gq, 1, none⟩ = some (.int .u8 64) := (blk_cell HXq.out 1).trans rfl
  have gq_3 : w18.cell? ⟨gq, 3, none⟩ = some (.int .u16 i) := (blk_cell HXq.out 3).trans rfl
  have gq_4 : w18.cell? ⟨gq, 4, none⟩ = some (.int .u8 2) := (blk_cell HXq.out 4).trans rfl
  have gq_8 : w18.cell? ⟨gq, 8, none⟩ = some (.slice Ao o.length co) := (blk_cell HXq.out 8).trans rfl
  have z1 := HZ1.out
  have z2 : (i == i) = true := beq_self_eq_true _
  have z3 : (si == si) = true := beq_self_eq_true _
  have z4 : (di == di) = true := beq_self_eq_true _
  have z5 : (ps == ps) = true := beq_self_eq_true _
  have z6 : (pd == pd) = true := beq_self_eq_true _
  have z7 := HZ7.out
  go_wp2_with fail
  clear gr_0 gr_1 gr_3 gr_4 gr_8 gq_0 gq_1 gq_3 gq_4 gq_8
  refine (lychhelp_Bytes.calls Ao2 co2 o Ao co o true _ (Kd.R_reads' HRo2.out).2.2 (Kd.R_reads' HRo2.out).2.1 (Kd.R_reads' HRo.out).2.2 (Kd.R_reads' HRo.out).2.1 (bytes_refl o)).mono ?_
  rintro ev w_ ⟨rfl, ⟨nd, rfl⟩⟩
  have hb_ := pw_below_drewN (Below.refl w18.heap.size w18) nd
  replace HB := mB HB hb_
  replace HXs := mX HXs hb_
  replace HXd := mX HXd hb_
  replace HRb := mR HRb hb_
  replace HRx := mR HRx hb_
  replace HRo := mR HRo hb_
  replace HRu := mR HRu hb_
  replace HXq := mX HXq hb_
  replace HRo2 := mR HRo2 hb_
  replace HRy := mR HRy hb_
  replace HXr := mX HXr hb_
  replace HRm := mR HRm hb_
  replace HXu := mX HXu hb_
  replace HRn := mR HRn hb_
  replace HXv := mX HXv hb_
  clear hb_
  generalize w18.drewN nd = w19 at HB HXs HXd HRb HRx HRo HRu HXq HRo2 HRy HXr HRm HXu HRn HXv ⊢
  (try dsimp only)
  have gu_3 : w19.cell? ⟨gu, 3, none⟩ = some (.slice Am ub.length cm) := (blk_cell HXu.out 3).trans rfl
  have gv_3 : w19.cell? ⟨gv, 3, none⟩ = some (.slice An ub.length cn) := (blk_cell HXv.out 3).trans rfl
  go_wp2_with fail
  clear gu_3 gv_3
  refine (lychhelp_Bytes.calls Am cm ub An cn ub true _ (Kd.R_reads' HRm.out).2.2 (Kd.R_reads' HRm.out).2.1 (Kd.R_reads' HRn.out).2.2 (Kd.R_reads' HRn.out).2.1 (bytes_refl ub)).mono ?_
  rintro ev w_ ⟨rfl, ⟨nd, rfl⟩⟩
  have hb_ := pw_below_drewN (Below.refl w19.heap.size w19) nd
  replace HB := mB HB hb_
  replace HXs := mX HXs hb_
  replace HXd := mX HXd hb_
  replace HRb := mR HRb hb_
  replace HRx := mR HRx hb_
  replace HRo := mR HRo hb_
  replace HRu := mR HRu hb_
  replace HXq := mX HXq hb_
  replace HRo2 := mR HRo2 hb_
  replace HRy := mR HRy hb_
  replace HXr := mX HXr hb_
  replace HRm := mR HRm hb_
  replace HXu := mX HXu hb_
  replace HRn := mR HRn hb_
  replace HXv := mX HXv hb_
  clear hb_
  generalize w19.drewN nd = w20 at HB HXs HXd HRb HRx HRo HRu HXq HRo2 HRy HXr HRm HXu HRn HXv ⊢
  (try dsimp only)
  have gr_6 : w20.cell? ⟨gr, 6, none⟩ = some (.int .u32 si) := (blk_cell HXr.out 6).trans rfl
  have gr_7 : w20.cell? ⟨gr, 7, none⟩ = some (.int .u32 di) := (blk_cell HXr.out 7).trans rfl
  have gs_0 : w20.cell? ⟨gs, 0, none⟩ = some (.int .u32 si) := (blk_cell HXs.out 0).trans rfl
  have gs_1 : w20.cell? ⟨gs, 1, none⟩ = some (.int .u16 ps) := (blk_cell HXs.out 1).trans rfl
  have gd_0 : w20.cell? ⟨gd, 0, none⟩ = some (.int .u32 di) := (blk_cell HXd.out 0).trans rfl
  have gd_1 : w20.cell? ⟨gd, 1, none⟩ = some (.int .u16 pd) := (blk_cell HXd.out 1).trans rfl
  have gv_0 : w20.cell? ⟨gv, 0, none⟩ = some (.int .u16 ps) := (blk_cell HXv.out 0).trans rfl
  have gv_1 : w20.cell? ⟨gv, 1, none⟩ = some (.int .u16 pd) := (blk_cell HXv.out 1).trans rfl
  have gv_2 : w20.cell? ⟨gv, 2, none⟩ = some (.int .u16 dc) := (blk_cell HXv.out 2).trans rfl
  have gu_2 : w20.cell? ⟨gu, 2, none⟩ = some (.int .u16 cc) := (blk_cell HXu.out 2).trans rfl
  go_wp2_with ((with_reducible refine gate_dst (N := 169) rfl ?_); (refine gate_guard (by rfl) ?_; dsimp only); (refine Kd.event_run rfl (rw_load rfl rfl HXv.out Try.underlying83 rfl HI83.out) ?_))
  clear gr_6 gr_7 gs_0 gs_1 gd_0 gd_1 gv_0 gv_1 gv_2 gu_2
  refine (lychref1_UdpRight.calls 4000 si di ps pd dc An cn ub true _ (Kd.R_reads' HRn.out).2.2 (Kd.R_reads' HRn.out).2.1 HUR.out).mono ?_
  rintro ev w21 ⟨rfl, hb⟩
  clear z1 z2 z3 z4 z5 z6 z7
  have hb_ := hb
  replace HB := mB HB hb_
  replace HXs := mX HXs hb_
  replace HXd := mX HXd hb_
  replace HRb := mR HRb hb_
  replace HRx := mR HRx hb_
  replace HRo := mR HRo hb_
  replace HRu := mR HRu hb_
  replace HXq := mX HXq hb_
  replace HRo2 := mR HRo2 hb_
  replace HRy := mR HRy hb_
  replace HXr := mX HXr hb_
  replace HRm := mR HRm hb_
  replace HXu := mX HXu hb_
  replace HRn := mR HRn hb_
  replace HXv := mX HXv hb_
  clear hb_
  clear hb
  (try dsimp only)
  go_wp2
  (try simp only [Exit.inBlock, Exit.then])
  go_ret
  exact ⟨rfl, HB.out⟩
end Go.Proofs.Ytkmimamminddiaa.PB
/- lychseat.Pack and api.Point by value, opened. -/
namespace Go.Proofs.YtkmimamminddiaaW.AggWords
open Go.Joins Go.ChangeShapes Go.WideShapes Go.RowKit Go.Deep
set_option linter.unusedVariables false
set_option linter.unusedSimpArgs false
theorem cutp_ {l p : List Value} {a k b : Nat} (h : (l.drop a).take k = p) (hb : a + k = b) : l.drop a = p ++ l.drop b := by
 have h1 := (List.take_append_drop k (l.drop a)).symm
 rw [h, List.drop_drop, hb] at h1
 exact h1
section
variable {H : Type} {enc : TypeId × Value → H} {w : World} {base : Nat} {spare : Nat → Bool} {held : Bool}
theorem open_pack {r : Reach} {b0 : Nat} {v : Value} {d : DataW H} {p : List MemPlace} (hv : Value.okWide Try.prog w r b0 25 v) (h : DataW.Trod enc Try.prog w base spare held 25 v d p) :
  ∃ x0 x1 x2 x3 x4 x5 x6 x7 x8 x9 : Int, v = .agg #[.int .u8 x0, .int .u8 x1, .int .u8 x2, .int .u8 x3, .int .u8 x4, .int .u8 x5, .int .u8 x6, .int .u8 x7, .int .u8 x8, .int .u8 x9] ∧ (Lit.int .u8 x0).wf = true ∧ (Lit.int .u8 x1).wf = true ∧ (Lit.int .u8 x2).wf = true ∧ (Lit.int .u8 x3).wf = true ∧ (Lit.int .u8 x4).wf = true ∧ (Lit.int .u8 x5).wf = true ∧ (Lit.int .u8 x6).wf = true ∧ (Lit.int .u8 x7).wf = true ∧ (Lit.int .u8 x8).wf = true ∧ (Lit.int .u8 x9).wf = true := by
 have k5 : Try.prog.cellsOf 5 = 1 := by kernel_rfl
 have kT : Try.prog.cellsOf 25 = 10 := by kernel_rfl
 obtain ⟨cs, rfl, hsz⟩ := okWide_struct Try.underlying25 hv
 obtain ⟨l⟩ := cs
 obtain ⟨fuel, hf⟩ := h
 obtain ⟨xs, n, _, hx, hlc, hlen, hg⟩ := DataW.trod_struct Try.underlying25 hf
 have hl : l.length = 10 := hlc.trans kT
 have g0 : DataW.trod enc Try.prog w base spare held n 5 ((l.drop 0).take (Try.prog.cellsOf 5)) = xs[0]? := hg 0 _ rfl
 obtain ⟨y0, hy0⟩ : ∃ y, xs[0]? = some y := ⟨_, List.getElem?_eq_getElem (by rw [hlen]; decide)⟩
 rw [hy0, k5] at g0
 obtain ⟨x0, e0, _, w0⟩ := DataW.trod_int Try.underlying5 g0
 have g1 : DataW.trod enc Try.prog w base spare held n 5 ((l.drop 1).take (Try.prog.cellsOf 5)) = xs[1]? := hg 1 _ rfl
 obtain ⟨y1, hy1⟩ : ∃ y, xs[1]? = some y := ⟨_, List.getElem?_eq_getElem (by rw [hlen]; decide)⟩
 rw [hy1, k5] at g1
 obtain ⟨x1, e1, _, w1⟩ := DataW.trod_int Try.underlying5 g1
 have g2 : DataW.trod enc Try.prog w base spare held n 5 ((l.drop 2).take (Try.prog.cellsOf 5)) = xs[2]? := hg 2 _ rfl
 obtain ⟨y2, hy2⟩ : ∃ y, xs[2]? = some y := ⟨_, List.getElem?_eq_getElem (by rw [hlen]; decide)⟩
 rw [hy2, k5] at g2
 obtain ⟨x2, e2, _, w2⟩ := DataW.trod_int Try.underlying5 g2
 have g3 : DataW.trod enc Try.prog w base spare held n 5 ((l.drop 3).take (Try.prog.cellsOf 5)) = xs[3]? := hg 3 _ rfl
 obtain ⟨y3, hy3⟩ : ∃ y, xs[3]? = some y := ⟨_, List.getElem?_eq_getElem (by rw [hlen]; decide)⟩
 rw [hy3, k5] at g3
 obtain ⟨x3, e3, _, w3⟩ := DataW.trod_int Try.underlying5 g3
 have g4 : DataW.trod enc Try.prog w base spare held n 5 ((l.drop 4).take (Try.prog.cellsOf 5)) = xs[4]? := hg 4 _ rfl
 obtain ⟨y4, hy4⟩ : ∃ y, xs[4]? = some y := ⟨_, List.getElem?_eq_getElem (by rw [hlen]; decide)⟩
 rw [hy4, k5] at g4
 obtain ⟨x4, e4, _, w4⟩ := DataW.trod_int Try.underlying5 g4
 have g5 : DataW.trod enc Try.prog w base spare held n 5 ((l.drop 5).take (Try.prog.cellsOf 5)) = xs[5]? := hg 5 _ rfl
 obtain ⟨y5, hy5⟩ : ∃ y, xs[5]? = some y := ⟨_, List.getElem?_eq_getElem (by rw [hlen]; decide)⟩
 rw [hy5, k5] at g5
 obtain ⟨x5, e5, _, w5⟩ := DataW.trod_int Try.underlying5 g5
 have g6 : DataW.trod enc Try.prog w base spare held n 5 ((l.drop 6).take (Try.prog.cellsOf 5)) = xs[6]? := hg 6 _ rfl
 obtain ⟨y6, hy6⟩ : ∃ y, xs[6]? = some y := ⟨_, List.getElem?_eq_getElem (by rw [hlen]; decide)⟩
 rw [hy6, k5] at g6
 obtain ⟨x6, e6, _, w6⟩ := DataW.trod_int Try.underlying5 g6
 have g7 : DataW.trod enc Try.prog w base spare held n 5 ((l.drop 7).take (Try.prog.cellsOf 5)) = xs[7]? := hg 7 _ rfl
 obtain ⟨y7, hy7⟩ : ∃ y, xs[7]? = some y := ⟨_, List.getElem?_eq_getElem (by rw [hlen]; decide)⟩
 rw [hy7, k5] at g7
 obtain ⟨x7, e7, _, w7⟩ := DataW.trod_int Try.underlying5 g7
 have g8 : DataW.trod enc Try.prog w base spare held n 5 ((l.drop 8).take (Try.prog.cellsOf 5)) = xs[8]? := hg 8 _ rfl
 obtain ⟨y8, hy8⟩ : ∃ y, xs[8]? = some y := ⟨_, List.getElem?_eq_getElem (by rw [hlen]; decide)⟩
 rw [hy8, k5] at g8
 obtain ⟨x8, e8, _, w8⟩ := DataW.trod_int Try.underlying5 g8
 have g9 : DataW.trod enc Try.prog w base spare held n 5 ((l.drop 9).take (Try.prog.cellsOf 5)) = xs[9]? := hg 9 _ rfl
 obtain ⟨y9, hy9⟩ : ∃ y, xs[9]? = some y := ⟨_, List.getElem?_eq_getElem (by rw [hlen]; decide)⟩
 rw [hy9, k5] at g9
 obtain ⟨x9, e9, _, w9⟩ := DataW.trod_int Try.underlying5 g9
 have hd : l = l.drop 0 := rfl
 rw [cutp_ e0 (show 0 + 1 = 1 from rfl), cutp_ e1 (show 1 + 1 = 2 from rfl), cutp_ e2 (show 2 + 1 = 3 from rfl), cutp_ e3 (show 3 + 1 = 4 from rfl), cutp_ e4 (show 4 + 1 = 5 from rfl), cutp_ e5 (show 5 + 1 = 6 from rfl), cutp_ e6 (show 6 + 1 = 7 from rfl), cutp_ e7 (show 7 + 1 = 8 from rfl), cutp_ e8 (show 8 + 1 = 9 from rfl), cutp_ e9 (show 9 + 1 = 10 from rfl), List.drop_eq_nil_of_le (show l.length ≤ 10 by omega)] at hd
 subst hd
 exact ⟨x0, x1, x2, x3, x4, x5, x6, x7, x8, x9, rfl, w0, w1, w2, w3, w4, w5, w6, w7, w8, w9⟩
theorem open_point {r : Reach} {b0 : Nat} {v : Value} {d : DataW H} {p : List MemPlace} (hv : Value.okWide Try.prog w r b0 65 v) (h : DataW.Trod enc Try.prog w base spare held 65 v d p) :
  ∃ x0 x1 : Int, v = .agg #[.int .u32 x0, .int .u16 x1] ∧ (Lit.int .u32 x0).wf = true ∧ (Lit.int .u16 x1).wf = true := by
 have k27 : Try.prog.cellsOf 27 = 1 := by kernel_rfl
 have k45 : Try.prog.cellsOf 45 = 1 := by kernel_rfl
 have kT : Try.prog.cellsOf 65 = 2 := by kernel_rfl
 obtain ⟨cs, rfl, hsz⟩ := okWide_struct Try.underlying65 hv
 obtain ⟨l⟩ := cs
 obtain ⟨fuel, hf⟩ := h
 obtain ⟨xs, n, _, hx, hlc, hlen, hg⟩ := DataW.trod_struct Try.underlying65 hf
 have hl : l.length = 2 := hlc.trans kT
 have g0 : DataW.trod enc Try.prog w base spare held n 27 ((l.drop 0).take (Try.prog.cellsOf 27)) = xs[0]? := hg 0 _ rfl
 obtain ⟨y0, hy0⟩ : ∃ y, xs[0]? = some y := ⟨_, List.getElem?_eq_getElem (by rw [hlen]; decide)⟩
 rw [hy0, k27] at g0
 obtain ⟨x0, e0, _, w0⟩ := DataW.trod_int Try.underlying27 g0
 have g1 : DataW.trod enc Try.prog w base spare held n 45 ((l.drop 1).take (Try.prog.cellsOf 45)) = xs[1]? := hg 1 _ rfl
 obtain ⟨y1, hy1⟩ : ∃ y, xs[1]? = some y := ⟨_, List.getElem?_eq_getElem (by rw [hlen]; decide)⟩
 rw [hy1, k45] at g1
 obtain ⟨x1, e1, _, w1⟩ := DataW.trod_int Try.underlying45 g1
 have hd : l = l.drop 0 := rfl
 rw [cutp_ e0 (show 0 + 1 = 1 from rfl), cutp_ e1 (show 1 + 1 = 2 from rfl), List.drop_eq_nil_of_le (show l.length ≤ 2 by omega)] at hd
 subst hd
 exact ⟨x0, x1, rfl, w0, w1⟩
end
end Go.Proofs.YtkmimamminddiaaW.AggWords
