/- Texts of this claim, merged: RwPkt, PBx55, PBx43, PBx50, Spec, BytesEq, BytesEqB, FT, SumEq, SumEqP, PBx45, PBx51, PBx52, PBx54, PBx1, PBx57, RwTs, PBx53, SpecSum, FU, FU2, SumEqO, FI, FR, FB, RwPp, FE, FV, RwSg, PBx35, PlaceEq, FrRp, FrRd, RwAgg. -/
import Derived.Test.YtkmimamminddiaaZrb
import Derived.Test.YtkmimamminddiaaZre
import Derived.Test.YtkmimamminddiaaZrc
import Derived.Deep.Cut
import Derived.Deep.CutRange
import Derived.Deep.CutBlock
import Derived.Deep.WholeRow
import Derived.BigQuiet
import Derived.Deep.QuietTactic
import Derived.Test.YtkmimamminddiaaZrd
import Derived.Laws.BitsAllLaws
import Derived.Laws.BitsLemmas
import Derived.RowKit
import Derived.Test.YtkmimamminddiaaZra
import Derived.Test.YtkmimamminddiaaChecked
import Derived.OpenShut
import Derived.ChangeArms
set_option maxHeartbeats 40000000
set_option maxRecDepth 100000
/- lychseat.Packet: a packet of few numbers. -/
namespace Go.Proofs.Ytkmimamminddiaa.PB
open Go.RowKit Go.Proofs.YtkmimamminddiaaW.PrintWords Go.Proofs.YtkmimamminddiaaW.PrintLast Go.Proofs.YtkmimamminddiaaW.PrintMore
set_option linter.unusedVariables false
set_option linter.unusedSimpArgs false
def seat_packet.sw (p6 pr : Int) : Int × Int × Int × Int × List Int :=
 if p6.tmod 16 = 0 then (p6.tdiv 16 % 256 % 3, pr, 2, 0, [])
 else if p6.tmod 16 = 1 then (64, pr, 1, 0, [])
 else if p6.tmod 16 = 2 then (64, pr, 2, 5, [])
 else if p6.tmod 16 = 3 then (64, 47, 2, 0, [])
 else if p6.tmod 16 = 4 then (64, pr, 2, 0, [1, 1, 1, 1])
 else (64, pr, 2, 0, [])
def seat_packet.sd (k : Nat) (p1 p2 side n : Int) (s0 d0 : Int) : Option (Int × Int) :=
 if side = 0 then some (s0, d0) else (lychseat_outside.f k p1 (n % 256)).bind fun s => (lychseat_outside.f k ((5 + p2.tmod 3) % 256) (n % 256)).bind fun d => some (s, d)
def seat_packet.er (k : Nat) (pr s d fr tp p5 p7 p8 : Int) (x : List Int) : Option (Int × List Int) :=
 if p7.tmod 5 = 4 then (seat_body.f k pr d s tp fr p5 p8).bind fun y => (lychref1_IpBytes.f k 0 3 pr 0 0 0 d s [] y).bind fun q => (lychref1_IcmpSum.f k (rd [3, 11, 12] (p8.tmod 3)) 0 0 0 q.1).bind fun c => (lychref1_IcmpBytes.f (rd [3, 11, 12] (p8.tmod 3)) 0 c 0 q.1).bind fun m => some (1, m.1)
 else some (pr, x)
def seat_packet.sp (p8 p9 : Int) (b : List Int) : List Int :=
 if p9.tmod 8 = 7 then (if 0 < b.length then b.set (p9.tmod (b.length : Int)).toNat (Go.bits .xor .u8 (rd b (p9.tmod (b.length : Int))) (IntKind.u8.wrap (2 ^ (p8.tmod 8).toNat))) else b) else b
def seat_packet.f (k : Nat) (p0 p1 p2 p3 p4 p5 p6 p7 p8 p9 side n : Int) : Option (List Int) :=
 (lychseat_inside.f p1).bind fun s0 => (lychseat_outside.f k p2 (n % 256)).bind fun d0 => (seat_packet.sd k p1 p2 side n s0 d0).bind fun sd =>
 (lychseat_proto.f p0).bind fun pr => (lychseat_port.f p3).bind fun fr => (lychseat_port.f p4).bind fun tp => (seat_body.f k pr sd.1 sd.2 fr tp p5 p8).bind fun x =>
 (seat_packet.er k pr sd.1 sd.2 fr tp p5 p7 p8 x).bind fun px =>
 (lychref1_IpBytes.f k 0 (seat_packet.sw p6 px.1).1 (seat_packet.sw p6 px.1).2.1 (IntKind.u16.wrap p8) (seat_packet.sw p6 px.1).2.2.1 (seat_packet.sw p6 px.1).2.2.2.1 sd.1 sd.2 (seat_packet.sw p6 px.1).2.2.2.2 px.2).bind fun b => some (seat_packet.sp p8 p9 b.1)
theorem rw_quiet {K : Act → World → Prop} {Q : Exit → Act → World → Prop} {e : Exit} {a : Act} {w : World} {n : Nat} (h : ∀ W, Below w.heap.size w W → Exit.then K Q e a W) : Exit.then K Q e a (w.drewN n) := h _ (pw_below_drewN (Below.refl _ _) n)
theorem rw_rd3 {w : World} {g : Nat} (h : w.heap[g]? = some (.cells #[.int .u8 3, .int .u8 11, .int .u8 12] 5 (0, 0))) (i : Int) (h0 : 0 ≤ i) (h1 : i < 3) : w.cell? ⟨g, i.toNat, none⟩ = some (.int .u8 (rd [3, 11, 12] i)) := by
 obtain rfl | rfl | rfl : i = 0 ∨ i = 1 ∨ i = 2 := by omega
 all_goals exact (blk_cell h _).trans rfl
def seat_packet.R28.T : Bool × List (List Nat × List Nat) := (true, [([], []), ([], []), ([1], [1]), ([2], [2]), ([], []), ([4], [4]), ([3, 5], [3, 5]), ([0, 6], [0, 6]), ([7], [7]), ([], []), ([9], [9]), ([10], [10]), ([11], [11]), ([8, 12], [8, 12]), ([0, 6, 0, 1, 2, 3, 4, 5, 6, 7, 8, 9, 10, 11, 12, 13], [0, 6]), ([14, 13, 0, 1, 2, 3, 4, 5, 6, 7, 8, 9, 10, 11, 12, 13], [13, 14])])
theorem seat_packet.R28.tab : rtab .any (opsOf Try.f17 28) = seat_packet.R28.T := by kernel_rfl
theorem seat_packet.R28.bits : waitsOk seat_packet.R28.T.2 [0, 0, 2, 6, 0, 16, 62, 127, 255, 0, 512, 1536, 3584, 8191, 16383, 32767] = true := by kernel_rfl
theorem seat_packet.calls (k : Nat) (p0 p1 p2 p3 p4 p5 p6 p7 p8 p9 side n : Int) (r : List Int) (w : World) (hn : (0 ≤ p8 ∧ p8 ≤ 255) ∧ (0 ≤ p9 ∧ p9 ≤ 255)) (h : seat_packet.f k p0 p1 p2 p3 p4 p5 p6 p7 p8 p9 side n = some r) :
  Calls Try.prog 17 #[.agg #[.int .u8 p0, .int .u8 p1, .int .u8 p2, .int .u8 p3, .int .u8 p4, .int .u8 p5, .int .u8 p6, .int .u8 p7, .int .u8 p8, .int .u8 p9], .int .i64 side, .int .i64 n] w fun e w' => ∃ v0_ : Value, e = .returned v0_ ∧ Kd.R (Kd.int .u8) 5 w' w.heap.size (fun _ => True) v0_ r ∧ Below w.heap.size w w' := by
 have hu25 := Try.underlying25
 have hu73 := Try.underlying73
 have hu101 := Try.underlying101
 have HB := Aside0.mk (Below.refl w.heap.size w)
 have HI25 : Aside0 ((Try.prog.info? 25).map (·.size) = some 10) := ⟨by kernel_rfl⟩
 have HI73 : Aside0 ((Try.prog.info? 73).map (·.size) = some 10) := ⟨by kernel_rfl⟩
 have HI101 : Aside0 ((Try.prog.info? 101).map (·.size) = some 5) := ⟨by kernel_rfl⟩
 have HN := Aside0.mk hn
 have H : seat_packet.f k p0 p1 p2 p3 p4 p5 p6 p7 p8 p9 side n = some r := h
 clear h hn
 unfold seat_packet.f at H
 obtain ⟨s0, hs0, H⟩ := rw_bind H
 obtain ⟨d0, hd0, H⟩ := rw_bind H
 obtain ⟨⟨src, dst⟩, hsd, H⟩ := rw_bind H
 obtain ⟨pr, hpr, H⟩ := rw_bind H
 obtain ⟨fr, hfr, H⟩ := rw_bind H
 obtain ⟨tp, htp, H⟩ := rw_bind H
 obtain ⟨x, hx, H⟩ := rw_bind H
 obtain ⟨⟨pr2, x2⟩, her, H⟩ := rw_bind H
 obtain ⟨⟨b, be⟩, hbb, H⟩ := rw_bind H
 obtain rfl := Option.some.inj H
 dsimp only at hx her hbb ⊢
 obtain ⟨⟨ttl, pr3, fl2, of2, op⟩, hsw⟩ : ∃ x, x = seat_packet.sw p6 pr2 := ⟨_, rfl⟩
 rw [← hsw] at hbb
 dsimp only at hbb
 have HSW := Aside0.mk hsw.symm
 clear hsw
 have Q1 : Aside0 (∀ W : World, Calls Try.prog 49 #[.int .u8 p1] W fun e w' => e = .returned (.int .u32 s0) ∧ Drawn0 W w') := ⟨fun W => lychseat_inside.calls p1 s0 W hs0⟩
 have Q2 : Aside0 (∀ W : World, Calls Try.prog 50 #[.int .u8 p2, .int .u8 (n % 256)] W fun e w' => e = .returned (.int .u32 d0) ∧ Drawn0 W w') := ⟨fun W => lychseat_outside.calls k p2 (n % 256) d0 W hd0⟩
 have Q5 : Aside0 (∀ W : World, Calls Try.prog 52 #[.int .u8 p3] W fun e w' => e = .returned (.int .u16 fr) ∧ Drawn0 W w') := ⟨fun W => lychseat_port.calls p3 fr W hfr⟩
 have Q6 : Aside0 (∀ W : World, Calls Try.prog 52 #[.int .u8 p4] W fun e w' => e = .returned (.int .u16 tp) ∧ Drawn0 W w') := ⟨fun W => lychseat_port.calls p4 tp W htp⟩
 have HSD := Aside0.mk hsd
 have HPR := Aside0.mk hpr
 have HX1 := Aside0.mk hx
 have HER := Aside0.mk her
 have HBB := Aside0.mk hbb
 clear hs0 hd0 hsd hpr hfr htp hx her hbb H
 go_enter Try.func17, Try.ntmps17
 go_upto_region 1 with (((with_reducible refine gate_dst (N := 3) rfl ?_); refine Kd.event_run rfl (v := .pointer (some ⟨w.heap.size, 0, none⟩)) (w1 := w.alloc (.cells #[.int .u8 p0, .int .u8 p1, .int .u8 p2, .int .u8 p3, .int .u8 p4, .int .u8 p5, .int .u8 p6, .int .u8 p7, .int .u8 p8, .int .u8 p9] 25)) (by first | (go_simp; done) | (go_simp; rfl)) ?_))
 obtain ⟨gp, hgp⟩ : ∃ x_, x_ = w.heap.size := ⟨_, rfl⟩
 have HXp : Aside0 ((w.alloc (.cells #[.int .u8 p0, .int .u8 p1, .int .u8 p2, .int .u8 p3, .int .u8 p4, .int .u8 p5, .int .u8 p6, .int .u8 p7, .int .u8 p8, .int .u8 p9] 25)).heap[gp]? = some (.cells #[.int .u8 p0, .int .u8 p1, .int .u8 p2, .int .u8 p3, .int .u8 p4, .int .u8 p5, .int .u8 p6, .int .u8 p7, .int .u8 p8, .int .u8 p9] 25 (0, 0))) := ⟨by rw [hgp]; exact rw_blknew _ _⟩
 have GHXp := Aside0.mk (show w.heap.size ≤ gp by rw [hgp]; exact below_size HB.out)
 rw [← hgp]
 clear hgp
 have hb_ := below_alloc (Below.refl w.heap.size w) (.cells #[.int .u8 p0, .int .u8 p1, .int .u8 p2, .int .u8 p3, .int .u8 p4, .int .u8 p5, .int .u8 p6, .int .u8 p7, .int .u8 p8, .int .u8 p9] 25)
 have n_HB := Aside0.mk (below_step HB.out hb_)
 clear HB hb_
 have HB := n_HB
 clear n_HB
 generalize (w.alloc (.cells #[.int .u8 p0, .int .u8 p1, .int .u8 p2, .int .u8 p3, .int .u8 p4, .int .u8 p5, .int .u8 p6, .int .u8 p7, .int .u8 p8, .int .u8 p9] 25)) = w1 at HXp HB ⊢
 have gp_1 := cz HXp.out 1 rfl
 have gp_2 := cz HXp.out 2 rfl
 go_wp2_with fail
 go_quiet ((first
  | (go_at_call 49; (with_reducible refine (Q1.out _).mono ?_); rintro e w' ⟨rfl, ⟨nd, rfl⟩⟩; exact ⟨rfl, _, rfl⟩)
  | (go_at_call 49; (with_reducible refine (Q1.out _).mono ?_); rintro e w' ⟨rfl, ⟨nd, rfl⟩⟩; exact ⟨rfl, _, World.drewN_drewN _ _ _⟩)
  | (go_at_call 49; (with_reducible refine (Q1.out _).mono ?_); rintro e w' ⟨rfl, ⟨nd, rfl⟩⟩; exact ⟨rfl, _, Eq.trans (World.drewN_drewN _ _ _) (congrArg (World.drewN _) (Nat.add_assoc _ _ _))⟩)
  | (go_at_call 50; (with_reducible refine (Q2.out _).mono ?_); rintro e w' ⟨rfl, ⟨nd, rfl⟩⟩; exact ⟨rfl, _, rfl⟩)
  | (go_at_call 50; (with_reducible refine (Q2.out _).mono ?_); rintro e w' ⟨rfl, ⟨nd, rfl⟩⟩; exact ⟨rfl, _, World.drewN_drewN _ _ _⟩)
  | (go_at_call 50; (with_reducible refine (Q2.out _).mono ?_); rintro e w' ⟨rfl, ⟨nd, rfl⟩⟩; exact ⟨rfl, _, Eq.trans (World.drewN_drewN _ _ _) (congrArg (World.drewN _) (Nat.add_assoc _ _ _))⟩)))
 refine rw_quiet ?_
 intro w2 hb
 have hb_ := hb
 have n_HB := Aside0.mk (below_step HB.out hb_)
 have n_HXp := Aside0.mk (blk_below HXp.out hb_)
 clear HB HXp hb_
 have HB := n_HB
 have HXp := n_HXp
 clear n_HB n_HXp
 clear hb gp_1 gp_2
 go_upto_if 29 with (fail)
 go_cut [7, 8] from 30 to 41 (fun s7 s8 w' => s7 = .int .u32 src ∧ s8 = .int .u32 dst ∧ Aside0 (w'.heap[gp]? = some (.cells #[.int .u8 p0, .int .u8 p1, .int .u8 p2, .int .u8 p3, .int .u8 p4, .int .u8 p5, .int .u8 p6, .int .u8 p7, .int .u8 p8, .int .u8 p9] 25 (0, 0))) ∧ Aside0 (Below w.heap.size w w'))
 case first =>
  by_cases gs : side = 0
  ·have gs1 : (side != 0) = false := by rw [bne, beq_iff_eq.2 gs]; rfl
   have gs2 : (side == 0) = true := beq_iff_eq.2 gs
   have hs : s0 = src ∧ d0 = dst := by
    have h := HSD.out
    unfold seat_packet.sd at h
    rw [if_pos gs] at h
    simp only [Option.some.injEq, Prod.mk.injEq] at h
    exact h
   obtain ⟨rfl, rfl⟩ := hs
   clear gs
   go_wp2
   go_meet
   case rel => exact ⟨rfl, rfl, ⟨HXp.out⟩, ⟨HB.out⟩⟩
  ·have gs1 : (side != 0) = true := bne_iff_ne.2 gs
   have gs2 : (side == 0) = false := beq_eq_false_iff_ne.2 gs
   have hs : (lychseat_outside.f k p1 (n % 256)).bind (fun s => (lychseat_outside.f k ((5 + p2.tmod 3) % 256) (n % 256)).bind fun d => some (s, d)) = some (src, dst) := by
    have h := HSD.out
    unfold seat_packet.sd at h
    rwa [if_neg gs] at h
   obtain ⟨sx, hsx, hs⟩ := rw_bind hs
   obtain ⟨dx, hdx, hs⟩ := rw_bind hs
   simp only [Option.some.injEq, Prod.mk.injEq] at hs
   obtain ⟨rfl, rfl⟩ := hs
   have Q3 : Aside0 (∀ W : World, Calls Try.prog 50 #[.int .u8 p1, .int .u8 (n % 256)] W fun e w' => e = .returned (.int .u32 sx) ∧ Drawn0 W w') := ⟨fun W => lychseat_outside.calls k p1 (n % 256) sx W hsx⟩
   have Q4 : Aside0 (∀ W : World, Calls Try.prog 50 #[.int .u8 ((5 + p2.tmod 3) % 256), .int .u8 (n % 256)] W fun e w' => e = .returned (.int .u32 dx) ∧ Drawn0 W w') := ⟨fun W => lychseat_outside.calls k ((5 + p2.tmod 3) % 256) (n % 256) dx W hdx⟩
   clear gs hsx hdx
   (try dsimp only)
   have gp_1 := cz HXp.out 1 rfl
   have gp_2 := cz HXp.out 2 rfl
   go_wp2_with fail
   go_quiet ((first
    | (go_at_call 50; (with_reducible refine (Q3.out _).mono ?_); rintro e w' ⟨rfl, ⟨nd, rfl⟩⟩; exact ⟨rfl, _, rfl⟩)
    | (go_at_call 50; (with_reducible refine (Q3.out _).mono ?_); rintro e w' ⟨rfl, ⟨nd, rfl⟩⟩; exact ⟨rfl, _, World.drewN_drewN _ _ _⟩)
    | (go_at_call 50; (with_reducible refine (Q3.out _).mono ?_); rintro e w' ⟨rfl, ⟨nd, rfl⟩⟩; exact ⟨rfl, _, Eq.trans (World.drewN_drewN _ _ _) (congrArg (World.drewN _) (Nat.add_assoc _ _ _))⟩)
    | (go_at_call 50; (with_reducible refine (Q4.out _).mono ?_); rintro e w' ⟨rfl, ⟨nd, rfl⟩⟩; exact ⟨rfl, _, rfl⟩)
    | (go_at_call 50; (with_reducible refine (Q4.out _).mono ?_); rintro e w' ⟨rfl, ⟨nd, rfl⟩⟩; exact ⟨rfl, _, World.drewN_drewN _ _ _⟩)
    | (go_at_call 50; (with_reducible refine (Q4.out _).mono ?_); rintro e w' ⟨rfl, ⟨nd, rfl⟩⟩; exact ⟨rfl, _, Eq.trans (World.drewN_drewN _ _ _) (congrArg (World.drewN _) (Nat.add_assoc _ _ _))⟩)))
   refine rw_quiet ?_
   intro w3 hb
   have hb_ := hb
   have n_HXp := Aside0.mk (blk_below HXp.out hb_)
   have n_HB := Aside0.mk (below_step HB.out hb_)
   clear HXp HB hb_
   have HXp := n_HXp
   have HB := n_HB
   clear n_HXp n_HB
   clear hb gp_1 gp_2
   go_wp2
   go_meet
   case rel => exact ⟨rfl, rfl, ⟨HXp.out⟩, ⟨HB.out⟩⟩
 case rest =>
  obtain ⟨rfl, rfl, n_HXp, n_HB⟩ := hcut
  clear HXp HB
  have HXp := n_HXp
  have HB := n_HB
  clear n_HXp n_HB
  have gp_0 := cz HXp.out 0 rfl
  go_wp2_with fail
  refine (lychseat_proto.calls p0 pr _ HPR.out).mono ?_
  rintro e w4 ⟨rfl, hb⟩
  have hb_ := hb
  have n_HB := Aside0.mk (below_step HB.out hb_)
  have n_HXp := Aside0.mk (blk_below HXp.out hb_)
  clear HB HXp hb_
  have HB := n_HB
  have HXp := n_HXp
  clear n_HB n_HXp
  clear hb gp_0
  (try dsimp only)
  have gp_3 := cz HXp.out 3 rfl
  have gp_4 := cz HXp.out 4 rfl
  go_wp2_with fail
  go_quiet ((first
   | (go_at_call 52; (with_reducible refine (Q5.out _).mono ?_); rintro e w' ⟨rfl, ⟨nd, rfl⟩⟩; exact ⟨rfl, _, rfl⟩)
   | (go_at_call 52; (with_reducible refine (Q5.out _).mono ?_); rintro e w' ⟨rfl, ⟨nd, rfl⟩⟩; exact ⟨rfl, _, World.drewN_drewN _ _ _⟩)
   | (go_at_call 52; (with_reducible refine (Q5.out _).mono ?_); rintro e w' ⟨rfl, ⟨nd, rfl⟩⟩; exact ⟨rfl, _, Eq.trans (World.drewN_drewN _ _ _) (congrArg (World.drewN _) (Nat.add_assoc _ _ _))⟩)
   | (go_at_call 52; (with_reducible refine (Q6.out _).mono ?_); rintro e w' ⟨rfl, ⟨nd, rfl⟩⟩; exact ⟨rfl, _, rfl⟩)
   | (go_at_call 52; (with_reducible refine (Q6.out _).mono ?_); rintro e w' ⟨rfl, ⟨nd, rfl⟩⟩; exact ⟨rfl, _, World.drewN_drewN _ _ _⟩)
   | (go_at_call 52; (with_reducible refine (Q6.out _).mono ?_); rintro e w' ⟨rfl, ⟨nd, rfl⟩⟩; exact ⟨rfl, _, Eq.trans (World.drewN_drewN _ _ _) (congrArg (World.drewN _) (Nat.add_assoc _ _ _))⟩)))
  refine rw_quiet ?_
  intro w5 hb
  have hb_ := hb
  have n_HB := Aside0.mk (below_step HB.out hb_)
  have n_HXp := Aside0.mk (blk_below HXp.out hb_)
  clear HB HXp hb_
  have HB := n_HB
  have HXp := n_HXp
  clear n_HB n_HXp
  clear hb gp_3 gp_4
  have gp_5 := cz HXp.out 5 rfl
  have gp_8 := cz HXp.out 8 rfl
  go_wp2_with fail
  refine (seat_body.calls k pr src dst fr tp p5 p8 x _ HN.out.1 HX1.out).mono ?_
  rintro e w6 ⟨v_, rfl, ho, hb⟩
  have HRx := Aside0.mk (Kd.R_lower ho (below_size HB.out))
  obtain ⟨Ax, cx, rfl, _, _⟩ := Kd.R_reads ho
  clear ho
  have hb_ := hb
  have n_HB := Aside0.mk (below_step HB.out hb_)
  have n_HXp := Aside0.mk (blk_below HXp.out hb_)
  clear HB HXp hb_
  have HB := n_HB
  have HXp := n_HXp
  clear n_HB n_HXp
  clear hb gp_5 gp_8
  (try dsimp only)
  have gp_8 := cz HXp.out 8 rfl
  go_upto_region 8 with ((first | (refine rw_skip rfl rfl (rw_new rfl rfl rfl HI73.out rfl (by simp [Value.oneCell'])) ?_)))
  clear gp_8
  obtain ⟨gi, hgi⟩ : ∃ x_, x_ = w6.heap.size := ⟨_, rfl⟩
  have HXi : Aside0 ((w6.alloc (.cells #[.int .u8 0, .int .u8 64, .int .u8 pr, .int .u16 (IntKind.u16.wrap p8), .int .u8 2, .int .u16 0, .int .u32 src, .int .u32 dst, .slice none 0 0, .slice Ax x.length cx] 73)).heap[gi]? = some (.cells #[.int .u8 0, .int .u8 64, .int .u8 pr, .int .u16 (IntKind.u16.wrap p8), .int .u8 2, .int .u16 0, .int .u32 src, .int .u32 dst, .slice none 0 0, .slice Ax x.length cx] 73 (0, 0))) := ⟨by rw [hgi]; exact rw_blknew _ _⟩
  have GHXi := Aside0.mk (show w.heap.size ≤ gi by rw [hgi]; exact below_size HB.out)
  rw [← hgi]
  clear hgi
  have hb_ := below_alloc (Below.refl w6.heap.size w6) (.cells #[.int .u8 0, .int .u8 64, .int .u8 pr, .int .u16 (IntKind.u16.wrap p8), .int .u8 2, .int .u16 0, .int .u32 src, .int .u32 dst, .slice none 0 0, .slice Ax x.length cx] 73)
  have n_HB := Aside0.mk (below_step HB.out hb_)
  have n_HXp := Aside0.mk (blk_below HXp.out hb_)
  have n_HRx := Aside0.mk (Kd.R_below HRx.out hb_)
  clear HB HXp HRx hb_
  have HB := n_HB
  have HXp := n_HXp
  have HRx := n_HRx
  clear n_HB n_HXp n_HRx
  generalize (w6.alloc (.cells #[.int .u8 0, .int .u8 64, .int .u8 pr, .int .u16 (IntKind.u16.wrap p8), .int .u8 2, .int .u16 0, .int .u32 src, .int .u32 dst, .slice none 0 0, .slice Ax x.length cx] 73)) = w8 at HXi HB HXp HRx ⊢
  have gp_7 := cz HXp.out 7 rfl
  go_upto_if 72 with (fail)
  clear gp_7
  go_cut [] from 14 to 109 (fun w' => ∃ (A : Option Addr) (c_ : Nat), Aside0 (Kd.R (Kd.int .u8) 5 w' w.heap.size (fun _ => True) (.slice A x2.length c_) x2) ∧ Aside0 (w'.heap[gi]? = some (.cells #[.int .u8 0, .int .u8 64, .int .u8 pr2, .int .u16 (IntKind.u16.wrap p8), .int .u8 2, .int .u16 0, .int .u32 src, .int .u32 dst, .slice none 0 0, .slice A x2.length c_] 73 (0, 0))) ∧ Aside0 (w'.heap[gp]? = some (.cells #[.int .u8 p0, .int .u8 p1, .int .u8 p2, .int .u8 p3, .int .u8 p4, .int .u8 p5, .int .u8 p6, .int .u8 p7, .int .u8 p8, .int .u8 p9] 25 (0, 0))) ∧ Aside0 (Below w.heap.size w w'))
  case first =>
   by_cases ge : p7.tmod 5 = 4
   ·have ge1 : (p7.tmod 5 == 4) = true := beq_iff_eq.2 ge
    have ge2 : (p7.tmod 5 != 4) = false := by rw [bne, ge1]; rfl
    have he : (seat_body.f k pr dst src tp fr p5 p8).bind (fun y => (lychref1_IpBytes.f k 0 3 pr 0 0 0 dst src [] y).bind fun q => (lychref1_IcmpSum.f k (rd [3, 11, 12] (p8.tmod 3)) 0 0 0 q.1).bind fun c => (lychref1_IcmpBytes.f (rd [3, 11, 12] (p8.tmod 3)) 0 c 0 q.1).bind fun m => some (1, m.1)) = some (pr2, x2) := by
     have h := HER.out
     unfold seat_packet.er at h
     rwa [if_pos ge] at h
    obtain ⟨y, hy, he⟩ := rw_bind he
    obtain ⟨⟨q, qe⟩, hq, he⟩ := rw_bind he
    obtain ⟨c, hc, he⟩ := rw_bind he
    obtain ⟨⟨m, me⟩, hm, he⟩ := rw_bind he
    simp only [Option.some.injEq, Prod.mk.injEq] at he
    obtain ⟨rfl, rfl⟩ := he
    dsimp only at hc hm
    obtain ⟨ty, hty⟩ : ∃ ty, ty = rd [3, 11, 12] (p8.tmod 3) := ⟨_, rfl⟩
    rw [← hty] at hc hm
    have HY := Aside0.mk hy
    have HQ_ := Aside0.mk hq
    have HC_ := Aside0.mk hc
    have HM_ := Aside0.mk hm
    have HTY := Aside0.mk hty
    clear ge hy hq hc hm hty
    have gp_5 := cz HXp.out 5 rfl
    have gp_8 := cz HXp.out 8 rfl
    go_wp2_with fail
    refine (seat_body.calls k pr dst src tp fr p5 p8 y _ HN.out.1 HY.out).mono ?_
    rintro e w9 ⟨v_, rfl, ho, hb⟩
    have HRy := Aside0.mk (Kd.R_lower ho (below_size HB.out))
    obtain ⟨Ay, cy, rfl, hcy, hky⟩ := Kd.R_reads ho
    have HCy := Aside0.mk hky
    have HLy := Aside0.mk hcy
    clear hky hcy
    clear ho HY
    have hb_ := hb
    have n_HB := Aside0.mk (below_step HB.out hb_)
    have n_HXp := Aside0.mk (blk_below HXp.out hb_)
    have n_HXi := Aside0.mk (blk_below HXi.out hb_)
    have n_HRx := Aside0.mk (Kd.R_below HRx.out hb_)
    clear HB HXp HXi HRx hb_
    have HB := n_HB
    have HXp := n_HXp
    have HXi := n_HXi
    have HRx := n_HRx
    clear n_HB n_HXp n_HXi n_HRx
    clear hb gp_5 gp_8
    (try dsimp only)
    go_upto_region 10 with ((first | (refine rw_skip rfl rfl (rw_new rfl rfl rfl HI73.out rfl (by simp [Value.oneCell'])) ?_)))
    obtain ⟨gn, hgn⟩ : ∃ x_, x_ = w9.heap.size := ⟨_, rfl⟩
    have HXn : Aside0 ((w9.alloc (.cells #[.int .u8 0, .int .u8 3, .int .u8 pr, .int .u16 0, .int .u8 0, .int .u16 0, .int .u32 dst, .int .u32 src, .slice none 0 0, .slice Ay y.length cy] 73)).heap[gn]? = some (.cells #[.int .u8 0, .int .u8 3, .int .u8 pr, .int .u16 0, .int .u8 0, .int .u16 0, .int .u32 dst, .int .u32 src, .slice none 0 0, .slice Ay y.length cy] 73 (0, 0))) := ⟨by rw [hgn]; exact rw_blknew _ _⟩
    have GHXn := Aside0.mk (show w.heap.size ≤ gn by rw [hgn]; exact below_size HB.out)
    rw [← hgn]
    clear hgn
    have hb_ := below_alloc (Below.refl w9.heap.size w9) (.cells #[.int .u8 0, .int .u8 3, .int .u8 pr, .int .u16 0, .int .u8 0, .int .u16 0, .int .u32 dst, .int .u32 src, .slice none 0 0, .slice Ay y.length cy] 73)
    have n_HB := Aside0.mk (below_step HB.out hb_)
    have n_HXp := Aside0.mk (blk_below HXp.out hb_)
    have n_HXi := Aside0.mk (blk_below HXi.out hb_)
    have n_HRx := Aside0.mk (Kd.R_below HRx.out hb_)
    have n_HCy := Aside0.mk (Kd.C_below HCy.out hb_)
    clear HB HXp HXi HRx HCy hb_
    have HB := n_HB
    have HXp := n_HXp
    have HXi := n_HXi
    have HRx := n_HRx
    have HCy := n_HCy
    clear n_HB n_HXp n_HXi n_HRx n_HCy
    generalize (w9.alloc (.cells #[.int .u8 0, .int .u8 3, .int .u8 pr, .int .u16 0, .int .u8 0, .int .u16 0, .int .u32 dst, .int .u32 src, .slice none 0 0, .slice Ay y.length cy] 73)) = w10 at HXn HB HXp HXi HRx HCy ⊢
    go_wp2_with (refine Kd.event_run rfl (rw_load rfl rfl HXn.out Try.underlying73 rfl HI73.out) ?_)
    refine (lychref1_IpBytes.calls k 0 3 pr 0 0 0 dst src none 0 [] Ay cy y q qe _ (Kd.C_nil _ _) (Nat.le_refl _) HCy.out HLy.out HQ_.out).mono ?_
    rintro e w11 ⟨v_, rfl, ho, hb⟩
    have HRq := Aside0.mk (Kd.R_lower ho (below_size HB.out))
    obtain ⟨Aq, cq, rfl, hcq, _⟩ := Kd.R_reads ho
    have HLq := Aside0.mk hcq
    clear ho HQ_ HCy HXn GHXn HRy HLy hcq
    have hb_ := hb
    have n_HB := Aside0.mk (below_step HB.out hb_)
    have n_HXp := Aside0.mk (blk_below HXp.out hb_)
    have n_HXi := Aside0.mk (blk_below HXi.out hb_)
    have n_HRx := Aside0.mk (Kd.R_below HRx.out hb_)
    clear HB HXp HXi HRx hb_
    have HB := n_HB
    have HXp := n_HXp
    have HXi := n_HXi
    have HRx := n_HRx
    clear n_HB n_HXp n_HXi n_HRx
    clear hb
    (try dsimp only)
    have gp_8 := cz HXp.out 8 rfl
    have hidx : p8.tmod 3 < 3 := Int.tmod_lt_of_pos _ (by decide)
    have hidx0 : 0 ≤ p8.tmod 3 := Int.tmod_nonneg _ HN.out.1.1
    go_upto_region 12 with (first | ((with_reducible refine gate_dst (N := 92) rfl ?_); refine rw_lit ?hg_ (cs := #[.int .u8 3, .int .u8 11, .int .u8 12]) (t := 5) (n := 3) ?hr_ ?_; (case hg_ => rfl); (case hr_ => first | (go_simp; done) | (go_simp; rfl)); intro gl w12 HXl0 hgl hb0_; have HXl := Aside0.mk HXl0; clear HXl0 hgl gp_8; have hb_ := hb0_; have n_HB := Aside0.mk (below_step HB.out hb_); have n_HXp := Aside0.mk (blk_below HXp.out hb_); have n_HXi := Aside0.mk (blk_below HXi.out hb_); have n_HRx := Aside0.mk (Kd.R_below HRx.out hb_); have n_HRq := Aside0.mk (Kd.R_below HRq.out hb_); clear HB HXp HXi HRx HRq hb_; have HB := n_HB; have HXp := n_HXp; have HXi := n_HXi; have HRx := n_HRx; have HRq := n_HRq; clear n_HB n_HXp n_HXi n_HRx n_HRq; clear hb0_; have gp_8 : w12.cell? ⟨gp, 8, none⟩ = some (.int .u8 p8) := cz HXp.out 8 rfl; have hl_ : w12.cell? ⟨gl, (p8.tmod 3).toNat, none⟩ = some (.int .u8 ty) := by (rw [HTY.out]; exact rw_rd3 HXl.out _ hidx0 hidx)) | (first | (refine rw_skip rfl rfl (rw_new rfl rfl rfl HI101.out rfl (by simp [Value.oneCell'])) ?_)))
    clear hidx hidx0 gp_8 hl_ HXl
    obtain ⟨gm, hgm⟩ : ∃ x_, x_ = w12.heap.size := ⟨_, rfl⟩
    have HXm : Aside0 ((w12.alloc (.cells #[.int .u8 ty, .int .u8 0, .int .u16 0, .int .u32 0, .slice Aq q.length cq] 101)).heap[gm]? = some (.cells #[.int .u8 ty, .int .u8 0, .int .u16 0, .int .u32 0, .slice Aq q.length cq] 101 (0, 0))) := ⟨by rw [hgm]; exact rw_blknew _ _⟩
    have GHXm := Aside0.mk (show w.heap.size ≤ gm by rw [hgm]; exact below_size HB.out)
    rw [← hgm]
    clear hgm
    have hb_ := below_alloc (Below.refl w12.heap.size w12) (.cells #[.int .u8 ty, .int .u8 0, .int .u16 0, .int .u32 0, .slice Aq q.length cq] 101)
    have n_HB := Aside0.mk (below_step HB.out hb_)
    have n_HXp := Aside0.mk (blk_below HXp.out hb_)
    have n_HXi := Aside0.mk (blk_below HXi.out hb_)
    have n_HRx := Aside0.mk (Kd.R_below HRx.out hb_)
    have n_HRq := Aside0.mk (Kd.R_below HRq.out hb_)
    clear HB HXp HXi HRx HRq hb_
    have HB := n_HB
    have HXp := n_HXp
    have HXi := n_HXi
    have HRx := n_HRx
    have HRq := n_HRq
    clear n_HB n_HXp n_HXi n_HRx n_HRq
    generalize (w12.alloc (.cells #[.int .u8 ty, .int .u8 0, .int .u16 0, .int .u32 0, .slice Aq q.length cq] 101)) = w17 at HXm HB HXp HXi HRx HRq ⊢
    go_wp2_with (refine Kd.event_run rfl (rw_load rfl rfl HXm.out Try.underlying101 rfl HI101.out) ?_)
    refine (lychref1_IcmpSum.calls k ty 0 0 0 Aq cq q c _ (Kd.R_reads' HRq.out).2.2 HLq.out HC_.out).mono ?_
    rintro e w18 ⟨rfl, hb⟩
    clear HC_
    have hb_ := hb
    have n_HB := Aside0.mk (below_step HB.out hb_)
    have n_HXp := Aside0.mk (blk_below HXp.out hb_)
    have n_HXi := Aside0.mk (blk_below HXi.out hb_)
    have n_HXm := Aside0.mk (blk_below HXm.out hb_)
    have n_HRx := Aside0.mk (Kd.R_below HRx.out hb_)
    have n_HRq := Aside0.mk (Kd.R_below HRq.out hb_)
    clear HB HXp HXi HXm HRx HRq hb_
    have HB := n_HB
    have HXp := n_HXp
    have HXi := n_HXi
    have HXm := n_HXm
    have HRx := n_HRx
    have HRq := n_HRq
    clear n_HB n_HXp n_HXi n_HXm n_HRx n_HRq
    clear hb
    (try dsimp only)
    go_upto_region 14 with (first | ((refine rw_set rfl rfl (i := 2) (v := .int .u16 c) (cs' := #[.int .u8 ty, .int .u8 0, .int .u16 c, .int .u32 0, .slice Aq q.length cq]) HXm.out rfl ?hr_ ?_); (case hr_ => (have m_ := (blk_cell HXm.out 2).trans (rfl : _ = some (.int .u16 0 : Value))); (have mf_ := blk_frozen HXm.out 2); first | (go_simp; done) | (go_simp; rfl)); intro w13 hs_ off_; have n_HB := Aside0.mk (Off.below off_ HB.out GHXm.out); have n_HXp := Aside0.mk (Off.blk off_ HXp.out HXm.out (by decide)); have n_HXi := Aside0.mk (Off.blk off_ HXi.out HXm.out (by decide)); have n_HRx := Aside0.mk (Off.R off_ HRx.out HXm.out (by decide)); have n_HRq := Aside0.mk (Off.R off_ HRq.out HXm.out (by decide)); clear HB HXp HXi HRx HRq HXm off_; have HXm := Aside0.mk hs_; clear hs_; have HB := n_HB; have HXp := n_HXp; have HXi := n_HXi; have HRx := n_HRx; have HRq := n_HRq; clear n_HB n_HXp n_HXi n_HRx n_HRq) | ((refine rw_set rfl rfl (i := 2) (v := .int .u8 1) (cs' := #[.int .u8 0, .int .u8 64, .int .u8 1, .int .u16 (IntKind.u16.wrap p8), .int .u8 2, .int .u16 0, .int .u32 src, .int .u32 dst, .slice none 0 0, .slice Ax x.length cx]) HXi.out rfl ?hr_ ?_); (case hr_ => (have m_ := (blk_cell HXi.out 2).trans (rfl : _ = some (.int .u8 pr : Value))); (have mf_ := blk_frozen HXi.out 2); first | (go_simp; done) | (go_simp; rfl)); intro w14 hs_ off_; have n_HB := Aside0.mk (Off.below off_ HB.out GHXi.out); have n_HXp := Aside0.mk (Off.blk off_ HXp.out HXi.out (by decide)); have n_HXm := Aside0.mk (Off.blk off_ HXm.out HXi.out (by decide)); have n_HRx := Aside0.mk (Off.R off_ HRx.out HXi.out (by decide)); have n_HRq := Aside0.mk (Off.R off_ HRq.out HXi.out (by decide)); clear HB HXp HXm HRx HRq HXi off_; have HXi := Aside0.mk hs_; clear hs_; have HB := n_HB; have HXp := n_HXp; have HXm := n_HXm; have HRx := n_HRx; have HRq := n_HRq; clear n_HB n_HXp n_HXm n_HRx n_HRq))
    go_wp2_with (refine Kd.event_run rfl (rw_load rfl rfl HXm.out Try.underlying101 rfl HI101.out) ?_)
    refine (lychref1_IcmpBytes.calls ty 0 c 0 Aq cq q m me _ (Kd.R_reads' HRq.out).2.2 HLq.out HM_.out).mono ?_
    rintro e w15 ⟨v_, rfl, ho, hb⟩
    have HRm := Aside0.mk (Kd.R_lower ho (below_size HB.out))
    obtain ⟨Am, cm, rfl, _, _⟩ := Kd.R_reads ho
    clear ho HM_ HXm GHXm HRq HLq HRx
    have hb_ := hb
    have n_HB := Aside0.mk (below_step HB.out hb_)
    have n_HXp := Aside0.mk (blk_below HXp.out hb_)
    have n_HXi := Aside0.mk (blk_below HXi.out hb_)
    clear HB HXp HXi hb_
    have HB := n_HB
    have HXp := n_HXp
    have HXi := n_HXi
    clear n_HB n_HXp n_HXi
    clear hb
    go_wp2_with ((refine rw_set rfl rfl (i := 9) (v := .slice Am m.length cm) (cs' := #[.int .u8 0, .int .u8 64, .int .u8 1, .int .u16 (IntKind.u16.wrap p8), .int .u8 2, .int .u16 0, .int .u32 src, .int .u32 dst, .slice none 0 0, .slice Am m.length cm]) HXi.out rfl ?hr_ ?_); (case hr_ => (have m_ := (blk_cell HXi.out 9).trans (rfl : _ = some (.slice Ax x.length cx : Value))); (have mf_ := blk_frozen HXi.out 9); first | (go_simp; done) | (go_simp; rfl)); intro w16 hs_ off_; have n_HB := Aside0.mk (Off.below off_ HB.out GHXi.out); have n_HXp := Aside0.mk (Off.blk off_ HXp.out HXi.out (by decide)); have n_HRm := Aside0.mk (Off.R off_ HRm.out HXi.out (by decide)); clear HB HXp HRm HXi off_; have HXi := Aside0.mk hs_; clear hs_; have HB := n_HB; have HXp := n_HXp; have HRm := n_HRm; clear n_HB n_HXp n_HRm)
    go_meet
    case rel => exact ⟨_, _, ⟨HRm.out⟩, ⟨HXi.out⟩, ⟨HXp.out⟩, ⟨HB.out⟩⟩
   ·have ge1 : (p7.tmod 5 == 4) = false := beq_eq_false_iff_ne.2 ge
    have ge2 : (p7.tmod 5 != 4) = true := bne_iff_ne.2 ge
    have he : pr = pr2 ∧ x = x2 := by
     have h := HER.out
     unfold seat_packet.er at h
     rw [if_neg ge] at h
     simp only [Option.some.injEq, Prod.mk.injEq] at h
     exact h
    obtain ⟨rfl, rfl⟩ := he
    clear ge
    go_wp2
    go_meet
    case rel => exact ⟨_, _, ⟨HRx.out⟩, ⟨HXi.out⟩, ⟨HXp.out⟩, ⟨HB.out⟩⟩
  case rest =>
   obtain ⟨A, c_, n_HRx, n_HXi, n_HXp, n_HB⟩ := hcut
   clear HRx HXi HXp HB
   have HRx := n_HRx
   have HXi := n_HXi
   have HXp := n_HXp
   have HB := n_HB
   clear n_HRx n_HXi n_HXp n_HB
   have gp_6 := cz HXp.out 6 rfl
   go_upto_block 0 with (fail)
   clear gp_6
   go_cut [] from 113 to 132 (fun w' => ∃ (Ao : Option Addr) (co : Nat), Aside0 (Kd.R (Kd.int .u8) 5 w' w.heap.size (fun _ => True) (.slice Ao op.length co) op) ∧ Aside0 (Kd.R (Kd.int .u8) 5 w' w.heap.size (fun _ => True) (.slice A x2.length c_) x2) ∧ Aside0 (w'.heap[gi]? = some (.cells #[.int .u8 0, .int .u8 ttl, .int .u8 pr3, .int .u16 (IntKind.u16.wrap p8), .int .u8 fl2, .int .u16 of2, .int .u32 src, .int .u32 dst, .slice Ao op.length co, .slice A x2.length c_] 73 (0, 0))) ∧ Aside0 (w'.heap[gp]? = some (.cells #[.int .u8 p0, .int .u8 p1, .int .u8 p2, .int .u8 p3, .int .u8 p4, .int .u8 p5, .int .u8 p6, .int .u8 p7, .int .u8 p8, .int .u8 p9] 25 (0, 0))) ∧ Aside0 (Below w.heap.size w w'))
   case first =>
    by_cases t0 : p6.tmod 16 = 0
    ·have t01 : (p6.tmod 16 == 0) = true := beq_iff_eq.2 t0
     have t02 : (p6.tmod 16 != 0) = false := by rw [bne, t01]; rfl
     have e := HSW.out
     unfold seat_packet.sw at e
     rw [if_pos t0] at e
     simp only [Prod.mk.injEq] at e
     obtain ⟨rfl, rfl, rfl, rfl, rfl⟩ := e
     clear t0
     have gp_6 := cz HXp.out 6 rfl
     go_wp2_with (((refine rw_set rfl rfl (i := 1) (v := .int .u8 (p6.tdiv 16 % 256 % 3)) (cs' := #[.int .u8 0, .int .u8 (p6.tdiv 16 % 256 % 3), .int .u8 pr2, .int .u16 (IntKind.u16.wrap p8), .int .u8 2, .int .u16 0, .int .u32 src, .int .u32 dst, .slice none 0 0, .slice A x2.length c_]) HXi.out rfl ?hr_ ?_); (case hr_ => (have m_ := (blk_cell HXi.out 1).trans (rfl : _ = some (.int .u8 64 : Value))); (have mf_ := blk_frozen HXi.out 1); first | (go_simp; done) | (go_simp; rfl)); intro w21 hs_ off_; have n_HB := Aside0.mk (Off.below off_ HB.out GHXi.out); have n_HXp := Aside0.mk (Off.blk off_ HXp.out HXi.out (by decide)); have n_HRx := Aside0.mk (Off.R off_ HRx.out HXi.out (by decide)); clear HB HXp HRx HXi off_; have HXi := Aside0.mk hs_; clear hs_; have HB := n_HB; have HXp := n_HXp; have HRx := n_HRx; clear n_HB n_HXp n_HRx))
     go_meet
     case rel => exact ⟨_, _, ⟨Kd.R_nil _ _ _ _ _⟩, ⟨HRx.out⟩, ⟨HXi.out⟩, ⟨HXp.out⟩, ⟨HB.out⟩⟩
    ·have t01 : (p6.tmod 16 == 0) = false := beq_eq_false_iff_ne.2 t0
     have t02 : (p6.tmod 16 != 0) = true := bne_iff_ne.2 t0
     by_cases t1 : p6.tmod 16 = 1
     ·have t11 : (p6.tmod 16 == 1) = true := beq_iff_eq.2 t1
      have t12 : (p6.tmod 16 != 1) = false := by rw [bne, t11]; rfl
      have e := HSW.out
      unfold seat_packet.sw at e
      rw [if_neg t0] at e
      rw [if_pos t1] at e
      simp only [Prod.mk.injEq] at e
      obtain ⟨rfl, rfl, rfl, rfl, rfl⟩ := e
      clear t0 t1
      go_wp2_with (((refine rw_set rfl rfl (i := 4) (v := .int .u8 1) (cs' := #[.int .u8 0, .int .u8 64, .int .u8 pr2, .int .u16 (IntKind.u16.wrap p8), .int .u8 1, .int .u16 0, .int .u32 src, .int .u32 dst, .slice none 0 0, .slice A x2.length c_]) HXi.out rfl ?hr_ ?_); (case hr_ => (have m_ := (blk_cell HXi.out 4).trans (rfl : _ = some (.int .u8 2 : Value))); (have mf_ := blk_frozen HXi.out 4); first | (go_simp; done) | (go_simp; rfl)); intro w21 hs_ off_; have n_HB := Aside0.mk (Off.below off_ HB.out GHXi.out); have n_HXp := Aside0.mk (Off.blk off_ HXp.out HXi.out (by decide)); have n_HRx := Aside0.mk (Off.R off_ HRx.out HXi.out (by decide)); clear HB HXp HRx HXi off_; have HXi := Aside0.mk hs_; clear hs_; have HB := n_HB; have HXp := n_HXp; have HRx := n_HRx; clear n_HB n_HXp n_HRx))
      go_meet
      case rel => exact ⟨_, _, ⟨Kd.R_nil _ _ _ _ _⟩, ⟨HRx.out⟩, ⟨HXi.out⟩, ⟨HXp.out⟩, ⟨HB.out⟩⟩
     ·have t11 : (p6.tmod 16 == 1) = false := beq_eq_false_iff_ne.2 t1
      have t12 : (p6.tmod 16 != 1) = true := bne_iff_ne.2 t1
      by_cases t2 : p6.tmod 16 = 2
      ·have t21 : (p6.tmod 16 == 2) = true := beq_iff_eq.2 t2
       have t22 : (p6.tmod 16 != 2) = false := by rw [bne, t21]; rfl
       have e := HSW.out
       unfold seat_packet.sw at e
       rw [if_neg t0] at e
       rw [if_neg t1] at e
       rw [if_pos t2] at e
       simp only [Prod.mk.injEq] at e
       obtain ⟨rfl, rfl, rfl, rfl, rfl⟩ := e
       clear t0 t1 t2
       go_wp2_with (((refine rw_set rfl rfl (i := 5) (v := .int .u16 5) (cs' := #[.int .u8 0, .int .u8 64, .int .u8 pr2, .int .u16 (IntKind.u16.wrap p8), .int .u8 2, .int .u16 5, .int .u32 src, .int .u32 dst, .slice none 0 0, .slice A x2.length c_]) HXi.out rfl ?hr_ ?_); (case hr_ => (have m_ := (blk_cell HXi.out 5).trans (rfl : _ = some (.int .u16 0 : Value))); (have mf_ := blk_frozen HXi.out 5); first | (go_simp; done) | (go_simp; rfl)); intro w21 hs_ off_; have n_HB := Aside0.mk (Off.below off_ HB.out GHXi.out); have n_HXp := Aside0.mk (Off.blk off_ HXp.out HXi.out (by decide)); have n_HRx := Aside0.mk (Off.R off_ HRx.out HXi.out (by decide)); clear HB HXp HRx HXi off_; have HXi := Aside0.mk hs_; clear hs_; have HB := n_HB; have HXp := n_HXp; have HRx := n_HRx; clear n_HB n_HXp n_HRx))
       go_meet
       case rel => exact ⟨_, _, ⟨Kd.R_nil _ _ _ _ _⟩, ⟨HRx.out⟩, ⟨HXi.out⟩, ⟨HXp.out⟩, ⟨HB.out⟩⟩
      ·have t21 : (p6.tmod 16 == 2) = false := beq_eq_false_iff_ne.2 t2
       have t22 : (p6.tmod 16 != 2) = true := bne_iff_ne.2 t2
       by_cases t3 : p6.tmod 16 = 3
       ·have t31 : (p6.tmod 16 == 3) = true := beq_iff_eq.2 t3
        have t32 : (p6.tmod 16 != 3) = false := by rw [bne, t31]; rfl
        have e := HSW.out
        unfold seat_packet.sw at e
        rw [if_neg t0] at e
        rw [if_neg t1] at e
        rw [if_neg t2] at e
        rw [if_pos t3] at e
        simp only [Prod.mk.injEq] at e
        obtain ⟨rfl, rfl, rfl, rfl, rfl⟩ := e
        clear t0 t1 t2 t3
        go_wp2_with (((refine rw_set rfl rfl (i := 2) (v := .int .u8 47) (cs' := #[.int .u8 0, .int .u8 64, .int .u8 47, .int .u16 (IntKind.u16.wrap p8), .int .u8 2, .int .u16 0, .int .u32 src, .int .u32 dst, .slice none 0 0, .slice A x2.length c_]) HXi.out rfl ?hr_ ?_); (case hr_ => (have m_ := (blk_cell HXi.out 2).trans (rfl : _ = some (.int .u8 pr2 : Value))); (have mf_ := blk_frozen HXi.out 2); first | (go_simp; done) | (go_simp; rfl)); intro w21 hs_ off_; have n_HB := Aside0.mk (Off.below off_ HB.out GHXi.out); have n_HXp := Aside0.mk (Off.blk off_ HXp.out HXi.out (by decide)); have n_HRx := Aside0.mk (Off.R off_ HRx.out HXi.out (by decide)); clear HB HXp HRx HXi off_; have HXi := Aside0.mk hs_; clear hs_; have HB := n_HB; have HXp := n_HXp; have HRx := n_HRx; clear n_HB n_HXp n_HRx))
        go_meet
        case rel => exact ⟨_, _, ⟨Kd.R_nil _ _ _ _ _⟩, ⟨HRx.out⟩, ⟨HXi.out⟩, ⟨HXp.out⟩, ⟨HB.out⟩⟩
       ·have t31 : (p6.tmod 16 == 3) = false := beq_eq_false_iff_ne.2 t3
        have t32 : (p6.tmod 16 != 3) = true := bne_iff_ne.2 t3
        by_cases t4 : p6.tmod 16 = 4
        ·have t41 : (p6.tmod 16 == 4) = true := beq_iff_eq.2 t4
         have t42 : (p6.tmod 16 != 4) = false := by rw [bne, t41]; rfl
         have e := HSW.out
         unfold seat_packet.sw at e
         rw [if_neg t0] at e
         rw [if_neg t1] at e
         rw [if_neg t2] at e
         rw [if_neg t3] at e
         rw [if_pos t4] at e
         simp only [Prod.mk.injEq] at e
         obtain ⟨rfl, rfl, rfl, rfl, rfl⟩ := e
         clear t0 t1 t2 t3 t4
         go_wp2_with (first | ((with_reducible refine gate_dst (N := 131) rfl ?_); refine rw_litR .u8 w.heap.size 5 ?hg_ (N := 131) ?hd_ [1, 1, 1, 1] ?hr_ HB.out (below_size HB.out) (by simp) ?_; (case hd_ => rfl); (case hg_ => rfl); (case hr_ => first | (go_simp; done) | (go_simp; rfl)); intro Ao co w20 ho hb0_ hg_; have HRo := Aside0.mk ho; have n_HXi := Aside0.mk (blk_grown HXi.out hg_ (fun h => nomatch h)); have n_HXp := Aside0.mk (blk_grown HXp.out hg_ (fun h => nomatch h)); have n_HRx := Aside0.mk (Kd.R_step HRx.out (fun k_ _ hk_ => hg_.block k_ hk_ (fun h => nomatch h))); have n_HB := Aside0.mk hb0_; clear ho hb0_ hg_; clear HXi HXp HRx HB; have HXi := n_HXi; have HXp := n_HXp; have HRx := n_HRx; have HB := n_HB; clear n_HXi n_HXp n_HRx n_HB) | ((refine rw_set rfl rfl (i := 8) (v := .slice Ao 4 co) (cs' := #[.int .u8 0, .int .u8 64, .int .u8 pr2, .int .u16 (IntKind.u16.wrap p8), .int .u8 2, .int .u16 0, .int .u32 src, .int .u32 dst, .slice Ao 4 co, .slice A x2.length c_]) HXi.out rfl ?hr_ ?_); (case hr_ => (have m_ := (blk_cell HXi.out 8).trans (rfl : _ = some (.slice none 0 0 : Value))); (have mf_ := blk_frozen HXi.out 8); first | (go_simp; done) | (go_simp; rfl)); intro w22 hs_ off_; have n_HB := Aside0.mk (Off.below off_ HB.out GHXi.out); have n_HXp := Aside0.mk (Off.blk off_ HXp.out HXi.out (by decide)); have n_HRx := Aside0.mk (Off.R off_ HRx.out HXi.out (by decide)); have n_HRo := Aside0.mk (Off.R off_ HRo.out HXi.out (by decide)); clear HB HXp HRx HRo HXi off_; have HXi := Aside0.mk hs_; clear hs_; have HB := n_HB; have HXp := n_HXp; have HRx := n_HRx; have HRo := n_HRo; clear n_HB n_HXp n_HRx n_HRo))
         go_meet
         case rel => exact ⟨_, _, ⟨HRo.out⟩, ⟨HRx.out⟩, ⟨HXi.out⟩, ⟨HXp.out⟩, ⟨HB.out⟩⟩
        ·have t41 : (p6.tmod 16 == 4) = false := beq_eq_false_iff_ne.2 t4
         have t42 : (p6.tmod 16 != 4) = true := bne_iff_ne.2 t4
         have e := HSW.out
         unfold seat_packet.sw at e
         rw [if_neg t0] at e
         rw [if_neg t1] at e
         rw [if_neg t2] at e
         rw [if_neg t3] at e
         rw [if_neg t4] at e
         simp only [Prod.mk.injEq] at e
         obtain ⟨rfl, rfl, rfl, rfl, rfl⟩ := e
         clear t0 t1 t2 t3 t4
         go_wp2_with (fail)
         go_meet
         case rel => exact ⟨_, _, ⟨Kd.R_nil _ _ _ _ _⟩, ⟨HRx.out⟩, ⟨HXi.out⟩, ⟨HXp.out⟩, ⟨HB.out⟩⟩
   case rest =>
    obtain ⟨Ao, co, HRo, n_HRx, n_HXi, n_HXp, n_HB⟩ := hcut
    clear HRx HXi HXp HB
    have HRx := n_HRx
    have HXi := n_HXi
    have HXp := n_HXp
    have HB := n_HB
    clear n_HRx n_HXi n_HXp n_HB
    go_wp2_with (refine Kd.event_run rfl (rw_load rfl rfl HXi.out Try.underlying73 rfl HI73.out) ?_)
    refine (lychref1_IpBytes.calls k 0 ttl pr3 (IntKind.u16.wrap p8) fl2 of2 src dst Ao co op A c_ x2 b be _ (Kd.R_reads' HRo.out).2.2 (Kd.R_reads' HRo.out).2.1 (Kd.R_reads' HRx.out).2.2 (Kd.R_reads' HRx.out).2.1 HBB.out).mono ?_
    rintro e w24 ⟨v_, rfl, ho, hb⟩
    have HRb := Aside0.mk (Kd.R_lower ho (below_size HB.out))
    obtain ⟨Ab, cb, rfl, _, _⟩ := Kd.R_reads ho
    clear ho HBB HRo HRx HXi GHXi
    have hb_ := hb
    have n_HB := Aside0.mk (below_step HB.out hb_)
    have n_HXp := Aside0.mk (blk_below HXp.out hb_)
    clear HB HXp hb_
    have HB := n_HB
    have HXp := n_HXp
    clear n_HB n_HXp
    clear hb
    (try dsimp only)
    have gp_9 := cz HXp.out 9 rfl
    by_cases g7 : p9.tmod 8 = 7
    ·have g71 : (p9.tmod 8 == 7) = true := beq_iff_eq.2 g7
     have g72 : (p9.tmod 8 != 7) = false := by rw [bne, g71]; rfl
     by_cases hl : 0 < b.length
     ·have clc : decide (0 < b.length) = true := decide_eq_true (by omega)
      have cla : decide ((0 : Int) < (b.length : Int)) = true := decide_eq_true (by omega)
      have clb : ((0 : Int) < (b.length : Int)) = True := eq_true (by omega)
      obtain ⟨gb, cap, hv, hgb, _, _⟩ := Kd.R_form HRb.out hl
      injection hv with h1 h2 h3
      subst h1 h3
      obtain ⟨j, hj⟩ : ∃ j : Nat, (j : Int) = Int.tmod p9 (b.length : Int) := ⟨(Int.tmod p9 (b.length : Int)).toNat, Int.toNat_of_nonneg (Int.tmod_nonneg _ HN.out.2.1)⟩
      have hjn : j < b.length := by
       have h5 : Int.tmod p9 (b.length : Int) < (b.length : Int) := Int.tmod_lt_of_pos _ (by omega)
       omega
      obtain ⟨hcb, hfb⟩ := Kd.R_cell (0 : Int) HRb.out (j : Int) (by omega) (by omega)
      have HCB : Aside0 (w24.cell? ⟨gb, j, none⟩ = some (.int .u8 (rd b (j : Int)))) := ⟨hcb⟩
      have HFB : Aside0 (w24.frozen? ⟨gb, j, none⟩ = false) := ⟨hfb⟩
      have HGB := Aside0.mk hgb
      have HJ7 : Aside0 (Value.int .i64 (Int.tmod p9 (b.length : Int)) = .int .i64 (j : Int)) := ⟨by rw [hj]⟩
      have HZ7 : Aside0 (¬ b = []) := ⟨fun e => by rw [e] at hl; exact Nat.lt_irrefl 0 hl⟩
      have HS8 : Aside0 (0 ≤ p8.tmod 8 ∧ p8.tmod 8 ≤ 8) := ⟨⟨Int.tmod_nonneg _ HN.out.1.1, by have := Int.tmod_lt_of_pos p8 (show (0 : Int) < 8 by decide); omega⟩⟩
      have HJ9 : Aside0 (Int.tmod p9 (b.length : Int) = (j : Int)) := ⟨hj.symm⟩
      have HWN : Aside0 (wrap64 p9 = p9) := ⟨by have := HN.out.2; unfold wrap64; omega⟩
      have HJ8 : Aside0 (((j : Int) < (b.length : Int)) = True) := ⟨eq_true (by omega)⟩
      have HSP : Aside0 (seat_packet.sp p8 p9 b = b.set j (Go.bits .xor .u8 (rd b (j : Int)) (IntKind.u8.wrap (2 ^ (p8.tmod 8).toNat)))) := ⟨by unfold seat_packet.sp; rw [if_pos g7, if_pos hl, ← hj, Int.toNat_natCast]⟩
      clear hcb hfb hgb hj hjn h2 hl g7
      go_upto_region 28 with (fail)
      clear g71 g72 cla clb clc gp_9
      refine start_ (n := 16) (S := fun w' => w'.cell? ⟨gp, 9, none⟩ = some (.int .u8 p9) ∧ w'.cell? ⟨gp, 8, none⟩ = some (.int .u8 p8) ∧ w'.cell? ⟨gb, j, none⟩ = some (.int .u8 (rd b (j : Int)))) (ds := [15]) #[false, false, false, false, false, false, false, false, false, false, false, false, false, false, false, false] (by kernel_rfl) rfl rfl ⟨cz HXp.out 9 rfl, cz HXp.out 8 rfl, HCB.out⟩ (fun hHeld => ?_)
      refine with_tabW seat_packet.R28.tab seat_packet.R28.bits (fun HT_ HW_ => ?_)
      have hb := below_drew1 (Below.refl w24.heap.size w24)
      have n_HCB := Aside0.mk (show w24.drew.cell? ⟨gb, j, none⟩ = some (.int .u8 (rd b (j : Int))) from HCB.out)
      have n_HFB := Aside0.mk (show w24.drew.frozen? ⟨gb, j, none⟩ = false from HFB.out)
      clear HCB HFB
      have HCB := n_HCB
      have HFB := n_HFB
      clear n_HCB n_HFB
      have hb_ := hb
      have n_HB := Aside0.mk (below_step HB.out hb_)
      have n_HXp := Aside0.mk (blk_below HXp.out hb_)
      have n_HRb := Aside0.mk (Kd.R_below HRb.out hb_)
      clear HB HXp HRb hb_
      have HB := n_HB
      have HXp := n_HXp
      have HRb := n_HRb
      clear n_HB n_HXp n_HRb
      clear hb
      generalize w24.drew = w24 at HB HXp HRb HCB HFB hHeld ⊢
      refine pz 0 147 HT_ ?_
      refine pz 1 148 HT_ ?_
      refine pz 4 151 HT_ ?_
      refine pz 5 152 HT_ ?_
      refine pz 9 156 HT_ ?_
      refine tz 2 149 HT_ HW_ hHeld ?_
      refine pz 3 150 HT_ ?_
      refine pure_ (i := 6) (N := some 153) (v := ?_) (a' := ?_) #[true, true, true, true, true, true, true, false, false, true, false, false, false, false, false, false] rfl rfl (any_of HT_.out (by kernel_rfl)) (fun _ _ _ h => h) (Or.inl ⟨by rfl, ?_⟩) ?_ ?_
      rotate_left
      ·intro w'
       have z7 := HZ7.out
       have z8 := HWN.out
       go_simp
       first | exact HJ7.out | exact HJ9.out
      rotate_left
      ·simp only [ps_]
       rfl
      refine pure_ (i := 7) (N := some 154) (v := ?_) (a' := ?_) #[true, true, true, true, true, true, true, true, false, true, false, false, false, false, false, false] rfl rfl (any_of HT_.out (by kernel_rfl)) (fun _ _ _ h => h) (Or.inl ⟨by rfl, ?_⟩) ?_ ?_
      rotate_left
      ·intro w'
       have z7 := HJ8.out
       go_simp
       with_reducible rfl
      rotate_left
      ·simp only [ps_]
       rfl
      refine tz 8 155 HT_ HW_ hHeld ?_
      refine tz 10 157 HT_ HW_ hHeld ?_
      refine pz 11 158 HT_ ?_
      refine pure_ (i := 12) (N := some 159) (v := ?_) (a' := ?_) #[true, true, true, true, true, true, true, true, true, true, true, true, true, false, false, false] rfl rfl (any_of HT_.out (by kernel_rfl)) (fun _ _ _ h => h) (Or.inl ⟨by rfl, ?_⟩) ?_ ?_
      rotate_left
      ·intro w'
       have z1 := HS8.out.1
       have z2 := HS8.out.2
       go_simp
       with_reducible rfl
      rotate_left
      ·simp only [ps_]
       rfl
      refine pz 13 160 HT_ ?_
      refine pure_ (i := 14) (N := some 161) (v := ?_) (a' := ?_) #[true, true, true, true, true, true, true, true, true, true, true, true, true, true, true, false] rfl rfl (any_of HT_.out (by kernel_rfl)) (fun _ _ _ h => h) (Or.inl ⟨by rfl, ?_⟩) ?_ ?_
      rotate_left
      ·intro w'
       have z7 := HJ8.out
       go_simp
       with_reducible rfl
      rotate_left
      ·simp only [ps_]
       rfl
      refine last_ (i := 15) (N := none) #[true, true, true, true, true, true, true, true, true, true, true, true, true, true, true, true] rfl rfl (one_of HT_.out (by kernel_rfl)) (by decide) (fun K hK => ?_)
      have s0 := HCB.out
      have hfs0 := HFB.out
      refine skip_ (w1 := w24.setCell ⟨gb, j, none⟩ (.int .u8 (Go.bits .xor .u8 (rd b (j : Int)) (IntKind.u8.wrap (2 ^ (p8.tmod 8).toNat))))) (by rfl) rfl ?_ ?_
      ·go_simp
      clear s0 hfs0
      refine hK.out _ _ ?_
      clear hK K
      refine dz HT_ ?_
      clear HT_ HW_ hHeld
      have HB2 := Aside0.mk (Below.setCell (p := ⟨gb, j, none⟩) HB.out HGB.out (.int .u8 (Go.bits .xor .u8 (rd b (j : Int)) (IntKind.u8.wrap (2 ^ (p8.tmod 8).toNat)))))
      have HR2 := Aside0.mk (Kd.R_putn HRb.out (j : Int) (Go.bits .xor .u8 (rd b (j : Int)) (IntKind.u8.wrap (2 ^ (p8.tmod 8).toNat))))
      clear HB HRb HXp HCB HFB
      (try dsimp only)
      go_wp2
      (try simp only [Exit.inBlock, Exit.then])
      go_ret
      rw [HSP.out]
      exact ⟨_, rfl, HR2.out, HB2.out⟩
     ·have clc : decide (0 < b.length) = false := decide_eq_false (by omega)
      have cla : decide ((0 : Int) < (b.length : Int)) = false := decide_eq_false (by omega)
      have clb : ((0 : Int) < (b.length : Int)) = False := eq_false (by omega)
      (try dsimp only)
      go_wp2
      (try simp only [Exit.inBlock, Exit.then])
      go_ret
      exact ⟨_, rfl, (by unfold seat_packet.sp; rw [if_pos g7, if_neg hl]; exact HRb.out), HB.out⟩
    ·have g71 : (p9.tmod 8 == 7) = false := beq_eq_false_iff_ne.2 g7
     have g72 : (p9.tmod 8 != 7) = true := bne_iff_ne.2 g7
     (try dsimp only)
     go_wp2
     (try simp only [Exit.inBlock, Exit.then])
     go_ret
     exact ⟨_, rfl, (by unfold seat_packet.sp; rw [if_neg g7]; exact HRb.out), HB.out⟩
end Go.Proofs.Ytkmimamminddiaa.PB
namespace Go.Proofs.Ytkmimamminddiaa.PB
open Go.RowKit Go.Proofs.YtkmimamminddiaaW.PrintWords Go.Proofs.YtkmimamminddiaaW.PrintLast Go.Proofs.YtkmimamminddiaaW.PrintMore
attribute [local go_sem] max2_int min2_int max_two min_two max_three min_three max_four min_four   -- for this text's walks alone
set_option linter.unusedVariables false
set_option linter.unusedSimpArgs false
def lychref1_Icmp.f (l0 : List Int) : Option (Int × Int × Int × Int × List Int × Int) := if (l0.length : Int) < 8 then (some (0, 0, 0, 0, ([] : List Int), 20)) else (if 0 < (l0.length : Int) then (if 1 < (l0.length : Int) then ((lychref1_Get16.f l0 2).bind fun t792 => ((lychref1_Get32.f l0 4).bind fun t793 => ((lychref1_cut.f l0 8 (l0.length : Int)).bind fun t794 => (some (rd l0 0, rd l0 1, t792, t793, t794, 0))))) else (none)) else (none))
end Go.Proofs.Ytkmimamminddiaa.PB
/- Plain laws on lists of bytes, 16-bit words and the Internet's checksum: no program in sight. -/
namespace Go.Proofs.Ytkmimamminddiaa.Spec
set_option linter.unusedVariables false
set_option linter.unusedSimpArgs false
open Go.RowKit
def IsB (l : List Int) : Prop := ∀ x ∈ l, 0 ≤ x ∧ x ≤ 255
def IsW (l : List Int) : Prop := ∀ x ∈ l, 0 ≤ x ∧ x ≤ 65535
theorem IsB.nil : IsB [] := fun _ h => by simp at h
theorem IsB.cons {a : Int} {l : List Int} (h : 0 ≤ a ∧ a ≤ 255) (hl : IsB l) : IsB (a :: l) := fun x hx => by
 rcases List.mem_cons.1 hx with rfl | hx
 ·exact h
 ·exact hl _ hx
theorem IsB.append {l m : List Int} (h : IsB l) (hm : IsB m) : IsB (l ++ m) := fun x hx => by
 rcases List.mem_append.1 hx with hx | hx
 ·exact h _ hx
 ·exact hm _ hx
theorem IsB.left {l m : List Int} (h : IsB (l ++ m)) : IsB l := fun x hx => h x (List.mem_append.2 (.inl hx))
theorem IsB.take {l : List Int} (h : IsB l) (n : Nat) : IsB (l.take n) := fun x hx => h x (List.mem_of_mem_take hx)
theorem IsB.drop {l : List Int} (h : IsB l) (n : Nat) : IsB (l.drop n) := fun x hx => h x (List.mem_of_mem_drop hx)
theorem IsB.set {l : List Int} (h : IsB l) (i : Nat) {v : Int} (hv : 0 ≤ v ∧ v ≤ 255) : IsB (l.set i v) := fun x hx => by
 rcases List.mem_or_eq_of_mem_set hx with hx | rfl
 ·exact h _ hx
 ·exact hv
theorem IsB.replicate (n : Nat) : IsB (List.replicate n 0) := fun x hx => by
 have := List.eq_of_mem_replicate hx
 omega
theorem IsB.getD {l : List Int} (h : IsB l) (i : Nat) : 0 ≤ l.getD i 0 ∧ l.getD i 0 ≤ 255 := by
 rw [List.getD_eq_getElem?_getD]
 rcases Nat.lt_or_ge i l.length with hi | hi
 ·rw [List.getElem?_eq_getElem hi]
  exact h _ (List.getElem_mem hi)
 ·rw [List.getElem?_eq_none hi]
  simp
def words : List Int → List Int
 | [] => []
 | [a] => [a * 256]
 | a :: b :: t => (a * 256 + b) :: words t
theorem words_isW : ∀ l : List Int, IsB l → IsW (words l)
 | [], _ => fun _ h => by simp [words] at h
 | [a], h => fun x hx => by
  have := h a (by simp)
  simp [words] at hx
  omega
 | a :: b :: t, h => fun x hx => by
  have ha := h a (by simp)
  have hb := h b (by simp)
  have ht : IsB t := fun y hy => h y (by simp [hy])
  rcases List.mem_cons.1 (show x ∈ (a * 256 + b) :: words t from hx) with rfl | hx
  ·omega
  ·exact words_isW t ht _ hx
theorem words_length : ∀ l : List Int, (words l).length = (l.length + 1) / 2
 | [] => rfl
 | [_] => by simp [words]
 | a :: b :: t => by
  have := words_length t
  simp only [words, List.length_cons, this]
  omega
theorem words_get : ∀ (l : List Int) (j : Nat), 2 * j < l.length → (words l)[j]? = some (l.getD (2 * j) 0 * 256 + l.getD (2 * j + 1) 0)
 | [], j, h => by simp at h
 | [a], j, h => by
  have : j = 0 := by simp at h; omega
  subst this
  simp [words]
 | a :: b :: t, 0, _ => by simp [words]
 | a :: b :: t, j + 1, h => by
  have := words_get t j (by simp only [List.length_cons] at h; omega)
  simp only [words, List.getElem?_cons_succ, this]
  rw [show 2 * (j + 1) = 2 * j + 1 + 1 from by omega]
  simp
def oadd (s x : Int) : Int := if s + x > 4294967295 then s + x - 4294967295 else s + x
def addw (s : Int) (ws : List Int) : Int := ws.foldl oadd s
def norm (n : Int) : Int := if n = 0 then 0 else (n - 1) % 65535 + 1
def isum : List Int → Int
 | [] => 0
 | x :: t => x + isum t
theorem isum_nonneg : ∀ l : List Int, IsW l → 0 ≤ isum l
 | [], _ => by simp [isum]
 | x :: t, h => by
  have := isum_nonneg t (fun y hy => h y (by simp [hy]))
  have := h x (by simp)
  simp only [isum]; omega
theorem norm_range (n : Int) (h : 0 ≤ n) : 0 ≤ norm n ∧ norm n ≤ 65535 := by unfold norm; split <;> omega
theorem norm_small {n : Int} (h0 : 0 ≤ n) (h : n ≤ 65535) : norm n = n := by unfold norm; split <;> omega
theorem oadd_range {s x : Int} (h0 : 0 ≤ s) (h1 : s ≤ 4294967295) (hx : 0 ≤ x ∧ x ≤ 65535) : 0 ≤ oadd s x ∧ oadd s x ≤ 4294967295 := by
 unfold oadd; split <;> omega
theorem oadd_norm {s x r : Int} (h0 : 0 ≤ s) (h1 : s ≤ 4294967295) (hx : 0 ≤ x ∧ x ≤ 65535) (hr : 0 ≤ r) : norm (oadd s x + r) = norm (s + x + r) := by
 unfold oadd norm
 split
 ·rw [if_neg (by omega), if_neg (by omega)]; omega
 ·rfl
theorem addw_range : ∀ (ws : List Int) (s : Int), 0 ≤ s → s ≤ 4294967295 → IsW ws → 0 ≤ addw s ws ∧ addw s ws ≤ 4294967295
 | [], s, h0, h1, _ => ⟨h0, h1⟩
 | x :: t, s, h0, h1, hw => by
  have hx := oadd_range h0 h1 (hw x (by simp))
  exact addw_range t (oadd s x) hx.1 hx.2 (fun y hy => hw y (by simp [hy]))
theorem addw_norm : ∀ (ws : List Int) (s r : Int), 0 ≤ s → s ≤ 4294967295 → IsW ws → 0 ≤ r → norm (addw s ws + r) = norm (s + isum ws + r)
 | [], s, r, h0, h1, _, hr => by simp [addw, isum]
 | x :: t, s, r, h0, h1, hw, hr => by
  have hx := oadd_range h0 h1 (hw x (by simp))
  have ht : IsW t := fun y hy => hw y (by simp [hy])
  have e := addw_norm t (oadd s x) r hx.1 hx.2 ht hr
  have hi := isum_nonneg t ht
  have e2 := oadd_norm (r := isum t + r) h0 h1 (hw x (by simp)) (by omega)
  show norm (addw (oadd s x) t + r) = norm (s + (x + isum t) + r)
  rw [e, show oadd s x + isum t + r = oadd s x + (isum t + r) from by omega, e2]
  congr 1; omega
theorem norm_addw (ws : List Int) (s : Int) (h0 : 0 ≤ s) (h1 : s ≤ 4294967295) (hw : IsW ws) : norm (addw s ws) = norm (s + isum ws) := by
 have := addw_norm ws s 0 h0 h1 hw (by omega)
 simpa using this
def ck (l : List Int) : Int := 65535 - norm (isum (words l))
theorem wraps_u16 (n : Int) (h₀ : 0 ≤ n) (h₁ : n < 2 ^ 16) : IntKind.u16.wrap n = n := by rw [IntKind.wrap_u16]; omega
theorem wraps_u32 (n : Int) (h₀ : 0 ≤ n) (h₁ : n < 2 ^ 32) : IntKind.u32.wrap n = n := by rw [IntKind.wrap_u32]; omega
theorem u16w {n : Int} (h₀ : 0 ≤ n) (h₁ : n ≤ 65535) : IntKind.u16.wrap n = n := wraps_u16 n h₀ (by omega)
theorem u64w {n : Int} (h₀ : 0 ≤ n) (h₁ : n ≤ 18446744073709551615) : IntKind.u64.wrap n = n := by rw [IntKind.wrap_u64]; omega
theorem and_u8 (i : Nat) (hi : i ≤ 8) {x : Int} (h₀ : 0 ≤ x) (h₁ : x ≤ 255) : Go.bits .and .u8 x (2 ^ i - 1) = x % 2 ^ i := bits_mask .u8 8 (by decide) wraps_u8 i hi x h₀ (by omega)
theorem and_u32 (i : Nat) (hi : i ≤ 32) {x : Int} (h₀ : 0 ≤ x) (h₁ : x ≤ 4294967295) : Go.bits .and .u32 x (2 ^ i - 1) = x % 2 ^ i := bits_mask .u32 32 (by decide) wraps_u32 i hi x h₀ (by omega)
theorem or_u8 (i : Nat) {x y : Int} (hx₀ : 0 ≤ x) (hx : x % 2 ^ i = 0) (hx₁ : x ≤ 255) (hy₀ : 0 ≤ y) (hy : y < 2 ^ i) (hy₁ : y ≤ 255) : Go.bits .or .u8 x y = x + y := bits_join .u8 8 (by decide) wraps_u8 i x y hx₀ hx (by omega) hy₀ hy (by omega)
theorem or_u16 (i : Nat) {x y : Int} (hx₀ : 0 ≤ x) (hx : x % 2 ^ i = 0) (hx₁ : x ≤ 65535) (hy₀ : 0 ≤ y) (hy : y < 2 ^ i) (hy₁ : y ≤ 65535) : Go.bits .or .u16 x y = x + y := bits_join .u16 16 (by decide) wraps_u16 i x y hx₀ hx (by omega) hy₀ hy (by omega)
theorem or_u32 (i : Nat) {x y : Int} (hx₀ : 0 ≤ x) (hx : x % 2 ^ i = 0) (hx₁ : x ≤ 4294967295) (hy₀ : 0 ≤ y) (hy : y < 2 ^ i) (hy₁ : y ≤ 4294967295) : Go.bits .or .u32 x y = x + y := bits_join .u32 32 (by decide) wraps_u32 i x y hx₀ hx (by omega) hy₀ hy (by omega)
theorem and_65535 {x : Int} (h₀ : 0 ≤ x) (h₁ : x ≤ 4294967295) : Go.bits .and .u32 x 65535 = x % 65536 := and_u32 16 (by decide) h₀ h₁
theorem join16 {a b : Int} (ha : 0 ≤ a ∧ a ≤ 255) (hb : 0 ≤ b ∧ b ≤ 255) : Go.bits .or .u16 (a * 256) b = a * 256 + b := or_u16 8 (by omega) (by omega) (by omega) (by omega) (by omega) (by omega)
theorem not_u16 {x : Int} (h₀ : 0 ≤ x) (h₁ : x ≤ 65535) : Go.bits .xor .u16 65535 x = 65535 - x := by
 obtain ⟨a, rfl⟩ := Int.eq_ofNat_of_zero_le h₀
 have ha : a < 65536 := by omega
 rw [show (65535 : Int) = ((65535 : Nat) : Int) from rfl, Go.u16_xor_nat 65535 a (by decide) ha]
 have : (65535 ^^^ a : Nat) = 65535 - a := by
  have h1 := BitVec.toNat_not (x := BitVec.ofNat 16 a)
  have h2 : (~~~ (BitVec.ofNat 16 a)) = BitVec.ofNat 16 65535 ^^^ BitVec.ofNat 16 a := by
   rw [show BitVec.ofNat 16 65535 = BitVec.allOnes 16 from rfl, BitVec.allOnes_xor]
  rw [h2, BitVec.toNat_xor, BitVec.toNat_ofNat, BitVec.toNat_ofNat, Nat.mod_eq_of_lt (show 65535 < 2 ^ 16 from by decide), Nat.mod_eq_of_lt (show a < 2 ^ 16 from ha)] at h1
  rw [h1]
 rw [this]
 omega
theorem wrap64_id {n : Int} (h₀ : -9223372036854775808 ≤ n) (h₁ : n ≤ 9223372036854775807) : wrap64 n = n := by unfold wrap64; omega
end Go.Proofs.Ytkmimamminddiaa.Spec
/- Numbers out of bytes, and bytes of numbers: what the printed helps of the references come to. -/
namespace Go.Proofs.Ytkmimamminddiaa.BytesEq
set_option linter.unusedVariables false
set_option linter.unusedSimpArgs false
open Go.RowKit Go.Proofs.Ytkmimamminddiaa.PB Go.Proofs.YtkmimamminddiaaW.PrintWords Go.Proofs.YtkmimamminddiaaW.PrintLast Go.Proofs.Ytkmimamminddiaa.Spec
theorem rd_nat (l : List Int) (i : Int) (j : Nat) (h : i = (j : Int)) : rd l i = l.getD j 0 := by subst h; simp [rd]
theorem rd_mid (l : List Int) (a b : Nat) (i : Int) (j : Nat) (h : i = (j : Int)) (hb : a + j < b) : rd ((l.take b).drop a) i = l.getD (a + j) 0 := by
 rw [rd_nat _ _ j h, List.getD_eq_getElem?_getD, List.getElem?_drop, List.getElem?_take_of_lt hb, List.getD_eq_getElem?_getD]
theorem u8_wf {x : Int} (h : (Lit.int .u8 x).wf = true) : 0 ≤ x ∧ x ≤ 255 := by
 simp [Lit.wf, IntKind.min, IntKind.max, IntKind.bits, IntKind.signed] at h; omega
theorem u16_wf {x : Int} (h : (Lit.int .u16 x).wf = true) : 0 ≤ x ∧ x ≤ 65535 := by
 simp [Lit.wf, IntKind.min, IntKind.max, IntKind.bits, IntKind.signed] at h; omega
theorem i64_wf {x : Int} (h : (Lit.int .i64 x).wf = true) : -9223372036854775808 ≤ x ∧ x ≤ 9223372036854775807 := by
 simp [Lit.wf, IntKind.min, IntKind.max, IntKind.bits, IntKind.signed] at h; omega
theorem isB_wf {l : List Int} (h : ∀ x ∈ l, (Lit.int .u8 x).wf = true) : IsB l := fun x hx => u8_wf (h x hx)
def g16 (l : List Int) (i : Nat) : Int := l.getD i 0 * 256 + l.getD (i + 1) 0
def g32 (l : List Int) (i : Nat) : Int := g16 l i * 65536 + g16 l (i + 2)
theorem g16_range {l : List Int} (h : IsB l) (i : Nat) : 0 ≤ g16 l i ∧ g16 l i ≤ 65535 := by
 have h1 := h.getD i
 have h2 := h.getD (i + 1)
 unfold g16; omega
theorem g32_range {l : List Int} (h : IsB l) (i : Nat) : 0 ≤ g32 l i ∧ g32 l i ≤ 4294967295 := by
 have h1 := g16_range h i
 have h2 := g16_range h (i + 2)
 unfold g32; omega
theorem word16 {a b : Int} (ha : 0 ≤ a ∧ a ≤ 255) (hb : 0 ≤ b ∧ b ≤ 255) : Go.bits .or .u16 (IntKind.u16.wrap ((IntKind.u16.wrap a) * 256)) (IntKind.u16.wrap b) = a * 256 + b := by
 rw [u16w (n := a) (by omega) (by omega), u16w (n := a * 256) (by omega) (by omega), u16w (n := b) (by omega) (by omega), join16 ha hb]
theorem word32 {a b : Int} (ha : 0 ≤ a ∧ a ≤ 65535) (hb : 0 ≤ b ∧ b ≤ 65535) : Go.bits .or .u32 (((a % 4294967296) * 65536) % 4294967296) (b % 4294967296) = a * 65536 + b := by
 rw [show a % 4294967296 = a from by omega, show (a * 65536) % 4294967296 = a * 65536 from by omega, show b % 4294967296 = b from by omega]
 exact or_u32 16 (by omega) (by omega) (by omega) (by omega) (by omega) (by omega)
theorem get16_eq {l : List Int} (h : IsB l) (i : Nat) (hi : i + 2 ≤ l.length) (hl : l.length ≤ 1000000000) : lychref1_Get16.f l (i : Int) = some (g16 l i) := by
 unfold lychref1_Get16.f
 have e : wrap64 ((i : Int) + 1) = ((i + 1 : Nat) : Int) := by rw [wrap64_id (by omega) (by omega)]; omega
 rw [e, if_pos (by omega), if_pos (by omega), if_pos (by omega), if_pos (by omega), rd_nat l _ i rfl, rd_nat l _ (i + 1) rfl, word16 (h.getD i) (h.getD (i + 1))]
 rfl
theorem cut_eq (l : List Int) (a b : Nat) (h1 : a ≤ b) (h2 : b ≤ l.length) (hl : l.length ≤ 1000000000) : lychref1_cut.f l (a : Int) (b : Int) = some ((l.take b).drop a) := by
 unfold lychref1_cut.f
 have hlen : ((l.take b).drop a).length ≤ l.length := by rw [List.length_drop, List.length_take]; omega
 rw [if_pos (by omega), if_pos (by omega), if_pos (by omega)]
 simp only [Int.toNat_natCast, List.length_nil, Nat.zero_add, List.nil_append]
 rw [if_pos (by omega)]
theorem clone_eq (l : List Int) (hl : l.length ≤ 1000000000) : slices_Clone_byte_byte.f l = some l := by
 unfold slices_Clone_byte_byte.f
 rw [if_pos (by omega)]
theorem bytes_refl (l : List Int) : lychhelp_Bytes.f l l = some true := by
 unfold lychhelp_Bytes.f
 simp
end Go.Proofs.Ytkmimamminddiaa.BytesEq
/- Numbers of 32 bits out of bytes. -/
namespace Go.Proofs.Ytkmimamminddiaa.BytesEq
set_option linter.unusedVariables false
set_option linter.unusedSimpArgs false
open Go.RowKit Go.Proofs.Ytkmimamminddiaa.PB Go.Proofs.YtkmimamminddiaaW.PrintWords Go.Proofs.YtkmimamminddiaaW.PrintLast Go.Proofs.Ytkmimamminddiaa.Spec
theorem get32_eq {l : List Int} (h : IsB l) (i : Nat) (hi : i + 4 ≤ l.length) (hl : l.length ≤ 1000000000) : lychref1_Get32.f l (i : Int) = some (g32 l i) := by
 unfold lychref1_Get32.f
 have e : wrap64 ((i : Int) + 2) = ((i + 2 : Nat) : Int) := by rw [wrap64_id (by omega) (by omega)]; omega
 rw [e, get16_eq h i (by omega) hl, get16_eq h (i + 2) (by omega) hl]
 simp only [Option.bind_some]
 rw [word32 (g16_range h i) (g16_range h (i + 2))]
 rfl
end Go.Proofs.Ytkmimamminddiaa.BytesEq
/- Plain: PureTcpsR, PureTcps. -/
namespace Go.Proofs.Ytkmimamminddiaa.Pure
set_option linter.unusedVariables false
set_option linter.unusedSimpArgs false
open Go.RowKit Go.Proofs.Ytkmimamminddiaa.PB Go.Proofs.YtkmimamminddiaaW.PrintWords Go.Proofs.YtkmimamminddiaaW.PrintLast
open Go.Proofs.Ytkmimamminddiaa.Spec Go.Proofs.Ytkmimamminddiaa.BytesEq
def thead (s d q a f w c u : Int) (o : List Int) : List Int := [s / 256 % 256, s % 256, d / 256 % 256, d % 256, q / 16777216 % 256, q / 65536 % 256, q / 256 % 256, q % 256, a / 16777216 % 256, a / 65536 % 256, a / 256 % 256, a % 256, (20 + (o.length : Int)) / 4 * 16 % 256, f, w / 256 % 256, w % 256, c / 256 % 256, c % 256, u / 256 % 256, u % 256]
def tbytes (s d q a f w c u : Int) (o l : List Int) : List Int := thead s d q a f w c u o ++ (o ++ l)
def tout (s d q a f w c u : Int) (o l : List Int) : List Int × Int := if (o.length : Int) % 4 ≠ 0 ∨ (o.length : Int) > 40 then ([], 21) else if 20 + (o.length : Int) + (l.length : Int) > 65515 then ([], 23) else (tbytes s d q a f w c u o l, 0)
theorem rtbytes_eq {s d q a f w c u : Int} {o l : List Int} (ho : o.length ≤ 1000000000) (hl : l.length ≤ 1000000000) (k : Nat) (hk : 30 ≤ k) : lychref1_TcpBytes.f k s d q a f w c u o l = some (tout s d q a f w c u o l) := by
 obtain ⟨k, rfl⟩ : ∃ j, k = j + 30 := ⟨k - 30, by omega⟩
 have w1 : wrap64 (20 + (o.length : Int)) = 20 + (o.length : Int) := wrap64_id (by omega) (by omega)
 unfold lychref1_TcpBytes.f tout
 by_cases c1 : (o.length : Int) % 4 = 0
 ·rw [if_pos c1]
  by_cases c2 : (o.length : Int) > 40
  ·rw [decide_eq_true c2, if_pos (.inr c2), lychref1_TcpBytes.j0, if_pos rfl]
  ·have w2 : wrap64 (65515 - (20 + (o.length : Int))) = 65515 - (20 + (o.length : Int)) := wrap64_id (by omega) (by omega)
   rw [decide_eq_false c2, if_neg (by omega), lychref1_TcpBytes.j0, if_neg (by decide), w1, w2]
   by_cases c3 : 20 + (o.length : Int) + (l.length : Int) > 65515
   ·rw [if_pos (by omega), if_pos c3]
   ·have w3 : wrap64 (Int.tdiv (20 + (o.length : Int)) 4) = (20 + (o.length : Int)) / 4 := by rw [Int.tdiv_eq_ediv_of_nonneg (by omega), wrap64_id (by omega) (by omega)]
    have e : (20 + (o.length : Int)) / 4 % 256 * 16 % 256 = (20 + (o.length : Int)) / 4 * 16 % 256 := by omega
    rw [if_neg (by omega), if_neg c3, w3, e]
    unfold lychref1_Put16.f lychref1_Put32.f
    rw [Option.bind_some, if_pos (by simp), Option.bind_some, Option.bind_some, if_pos (by simp), Option.bind_some, Option.bind_some, if_pos (by simp), Option.bind_some, Option.bind_some, if_pos (by simp), Option.bind_some, Option.bind_some, if_pos (by simp), Option.bind_some, if_pos (by simp), Option.bind_some, Option.bind_some, if_pos (by simp), Option.bind_some, Option.bind_some, if_pos (by simp), Option.bind_some, if_pos (by simp; omega), Option.bind_some, if_pos (by simp; omega), List.append_assoc]
    rfl
 ·rw [if_neg c1, if_pos (.inl c1), lychref1_TcpBytes.j0, if_pos rfl]
theorem thead_isB {s d q a f w c u : Int} {o : List Int} (hf : 0 ≤ f ∧ f ≤ 255) : IsB (thead s d q a f w c u o) := by
 unfold thead
 repeat (first | exact .nil | refine .cons (by omega) ?_)
theorem thead_length (s d q a f w c u : Int) (o : List Int) : (thead s d q a f w c u o).length = 20 := rfl
end Go.Proofs.Ytkmimamminddiaa.Pure
/- What the printed functions of the checksum come to: the plain words, sums and folds. -/
namespace Go.Proofs.Ytkmimamminddiaa.SumEq
set_option linter.unusedVariables false
set_option linter.unusedSimpArgs false
open Go.RowKit Go.Proofs.Ytkmimamminddiaa.PB Go.Proofs.YtkmimamminddiaaW.PrintWords Go.Proofs.YtkmimamminddiaaW.PrintLast Go.Proofs.Ytkmimamminddiaa.Spec
theorem rd_at (l : List Int) (i : Int) (j : Nat) (h : i = (j : Int)) : rd l i = l.getD j 0 := by subst h; simp [rd]
theorem take_words (l : List Int) (j : Nat) (h : 2 * j < l.length) : (words l).take (j + 1) = (words l).take j ++ [l.getD (2 * j) 0 * 256 + l.getD (2 * j + 1) 0] := by
 have hl := words_length l
 have hg := words_get l j h
 have hj : j < (words l).length := by omega
 rw [List.getElem?_eq_getElem hj] at hg
 injection hg with hg
 rw [List.take_succ_eq_append_getElem hj, hg]
theorem words_l0 (l : List Int) (hb : IsB l) (hl : l.length ≤ 1000000000) (d : Nat) : ∀ (k j : Nat), j + d = (l.length + 1) / 2 → d < k →
  sum_Words.l0 k l ((words l).take j) (((l.length + 1) / 2 : Nat) : Int) (j : Int) = some (words l) := by
 induction d with
 | zero =>
  intro k j hj hk
  obtain ⟨k, rfl⟩ : ∃ m, k = m + 1 := ⟨k - 1, by omega⟩
  simp only [sum_Words.l0]
  rw [if_neg (by omega), List.take_of_length_le (by rw [words_length]; omega)]
 | succ d ih =>
  intro k j hj hk
  obtain ⟨k, rfl⟩ : ∃ m, k = m + 1 := ⟨k - 1, by omega⟩
  have e2 : wrap64 (2 * (j : Int)) = ((2 * j : Nat) : Int) := by rw [wrap64_id (by omega) (by omega)]; omega
  have e3 : wrap64 (((2 * j : Nat) : Int) + 1) = ((2 * j + 1 : Nat) : Int) := by rw [wrap64_id (by omega) (by omega)]; omega
  have e1 : wrap64 ((j : Int) + 1) = ((j + 1 : Nat) : Int) := by rw [wrap64_id (by omega) (by omega)]; omega
  have h1 := hb.getD (2 * j)
  have h2 := hb.getD (2 * j + 1)
  have hlen : ((words l).take j).length < 70368744177664 := by rw [List.length_take, words_length]; omega
  have ht := take_words l j (by omega)
  have hi := ih k (j + 1) (by omega) (by omega)
  simp only [sum_Words.l0, e2, e3, e1]
  rw [if_pos (by omega), if_pos (by omega), if_pos (by omega), rd_at l _ (2 * j) rfl, rd_at l _ (2 * j + 1) rfl]
  rw [u16w (by omega) (by omega : l.getD (2 * j) 0 ≤ 65535), u16w (by omega) (by omega : l.getD (2 * j) 0 * 256 ≤ 65535), u16w (by omega) (by omega : l.getD (2 * j + 1) 0 ≤ 65535), join16 h1 h2]
  by_cases hc : 2 * j + 1 < l.length
  ·rw [if_pos (by omega), if_pos (by omega), if_pos hlen, ← ht]
   exact hi
  ·have h0 : l.getD (2 * j + 1) 0 = 0 := by rw [List.getD_eq_getElem?_getD, List.getElem?_eq_none (by omega)]; rfl
   rw [if_neg (by omega), if_pos hlen]
   rw [h0, Int.add_zero] at ht
   rw [← ht]
   exact hi
theorem words_eq (l : List Int) (hb : IsB l) (hl : l.length ≤ 1000000000) (k : Nat) (hk : l.length + 1 < k) : sum_Words.f k l = some (words l) := by
 have h := words_l0 l hb hl ((l.length + 1) / 2) k 0 (by omega) (by omega)
 unfold sum_Words.f
 have e : wrap64 (Int.tdiv (wrap64 ((l.length : Int) + 1)) 2) = (((l.length + 1) / 2 : Nat) : Int) := by
  rw [wrap64_id (n := (l.length : Int) + 1) (by omega) (by omega), Int.tdiv_eq_ediv_of_nonneg (by omega), wrap64_id (by omega) (by omega)]; omega
 rw [e]
 simpa using h
theorem Add32_eq {a b : Int} (ha : 0 ≤ a ∧ a ≤ 4294967295) (hb : 0 ≤ b ∧ b ≤ 65535) : bits_Add32.f a b 0 = some ((a + b) % 4294967296, (a + b) / 4294967296) := by
 unfold bits_Add32.f
 rw [u64w ha.1 (by omega), u64w hb.1 (by omega), u64w (n := a + b) (by omega) (by omega), u64w (n := (0 : Int)) (by omega) (by omega), u64w (n := a + b + 0) (by omega) (by omega)]
 rw [Int.add_zero, show ((a + b) / 4294967296) % 4294967296 = (a + b) / 4294967296 from by omega]
theorem add_l0 (ws : List Int) (hw : IsW ws) (hl : ws.length ≤ 1000000000) (d : Nat) : ∀ (k j : Nat) (s : Int), j + d = ws.length → d < k → 0 ≤ s → s ≤ 4294967295 →
  sum_Add.l0 k s ws (ws.length : Int) (j : Int) = some (addw s (ws.drop j)) := by
 induction d with
 | zero =>
  intro k j s hj hk h0 h1
  obtain ⟨k, rfl⟩ : ∃ m, k = m + 1 := ⟨k - 1, by omega⟩
  simp only [sum_Add.l0]
  rw [if_neg (by omega), List.drop_of_length_le (by omega)]
  rfl
 | succ d ih =>
  intro k j s hj hk h0 h1
  obtain ⟨k, rfl⟩ : ∃ m, k = m + 1 := ⟨k - 1, by omega⟩
  have hjl : j < ws.length := by omega
  have hx := hw _ (List.getElem_mem hjl)
  have e1 : wrap64 ((j : Int) + 1) = ((j + 1 : Nat) : Int) := by rw [wrap64_id (by omega) (by omega)]; omega
  have er : rd ws (j : Int) = ws[j] := by rw [rd_at ws _ j rfl, List.getD_eq_getElem?_getD, List.getElem?_eq_getElem hjl]; rfl
  have ho := oadd_range h0 h1 hx
  have hi := ih k (j + 1) (oadd s ws[j]) (by omega) (by omega) ho.1 ho.2
  simp only [sum_Add.l0, e1, er]
  rw [if_pos (by omega), if_pos (by omega), if_pos (by omega), show ws[j] % 4294967296 = ws[j] from by omega, Add32_eq ⟨h0, h1⟩ hx]
  simp only [Option.bind_some]
  have eo : ((s + ws[j]) % 4294967296 + (s + ws[j]) / 4294967296) % 4294967296 = oadd s ws[j] := by unfold oadd; split <;> omega
  rw [eo, hi, List.drop_eq_getElem_cons hjl]
  rfl
theorem add_eq (s : Int) (l : List Int) (hb : IsB l) (hl : l.length ≤ 1000000000) (h0 : 0 ≤ s) (h1 : s ≤ 4294967295) (k : Nat) (hk : l.length + 1 < k) : sum_Add.f k s l = some (addw s (words l)) := by
 unfold sum_Add.f
 rw [words_eq l hb hl k hk]
 have hwl := words_length l
 have := add_l0 (words l) (words_isW l hb) (by omega) (words l).length k 0 s (by omega) (by omega) h0 h1
 simpa using this
theorem fold_small {k : Nat} {s : Int} (h0 : 0 ≤ s) (h1 : s ≤ 65535) : sum_Fold.l0 (k + 1) s = some s := by
 simp only [sum_Fold.l0]
 rw [if_pos (by omega), u16w h0 h1]
theorem fold_step {k : Nat} {s : Int} (h0 : 65536 ≤ s) (h1 : s ≤ 4294967295) : sum_Fold.l0 (k + 1) s = sum_Fold.l0 k (s % 65536 + s / 65536) := by
 simp only [sum_Fold.l0]
 rw [if_neg (by omega), and_65535 (by omega) h1, show (s % 65536 + s / 65536) % 4294967296 = s % 65536 + s / 65536 from by omega]
theorem fold_eq (s : Int) (h0 : 0 ≤ s) (h1 : s ≤ 4294967295) (k : Nat) (hk : 3 < k) : sum_Fold.f k s = some (norm s) := by
 obtain ⟨k, rfl⟩ : ∃ m, k = m + 3 := ⟨k - 3, by omega⟩
 unfold sum_Fold.f
 by_cases c : s ≤ 65535
 ·rw [fold_small h0 c, norm_small h0 c]
 ·rw [fold_step (by omega) h1]
  by_cases c2 : s % 65536 + s / 65536 ≤ 65535
  ·rw [fold_small (by omega) c2]
   congr 1; unfold norm; rw [if_neg (by omega)]; omega
  ·rw [fold_step (by omega) (by omega), fold_small (by omega) (by omega)]
   congr 1; unfold norm; rw [if_neg (by omega)]; omega
theorem rwords_l0 (l : List Int) (hb : IsB l) (hl : l.length ≤ 1000000000) (d : Nat) : ∀ (k j : Nat), j + d = (l.length + 1) / 2 → d < k →
  lychref1_Words.l0 k l ((words l).take j) ((2 * j : Nat) : Int) = some (words l) := by
 induction d with
 | zero =>
  intro k j hj hk
  obtain ⟨k, rfl⟩ : ∃ m, k = m + 1 := ⟨k - 1, by omega⟩
  simp only [lychref1_Words.l0]
  rw [if_neg (by omega), List.take_of_length_le (by rw [words_length]; omega)]
 | succ d ih =>
  intro k j hj hk
  obtain ⟨k, rfl⟩ : ∃ m, k = m + 1 := ⟨k - 1, by omega⟩
  have e3 : wrap64 (((2 * j : Nat) : Int) + 1) = ((2 * j + 1 : Nat) : Int) := by rw [wrap64_id (by omega) (by omega)]; omega
  have e1 : wrap64 (((2 * j : Nat) : Int) + 2) = ((2 * (j + 1) : Nat) : Int) := by rw [wrap64_id (by omega) (by omega)]; omega
  have h1 := hb.getD (2 * j)
  have h2 := hb.getD (2 * j + 1)
  have hlen : ((words l).take j).length < 70368744177664 := by rw [List.length_take, words_length]; omega
  have ht := take_words l j (by omega)
  have hi := ih k (j + 1) (by omega) (by omega)
  simp only [lychref1_Words.l0, e3, e1]
  rw [if_pos (by omega), if_pos (by omega), rd_at l _ (2 * j) rfl, rd_at l _ (2 * j + 1) rfl]
  rw [u16w (by omega) (by omega : l.getD (2 * j) 0 ≤ 65535), u16w (by omega) (by omega : l.getD (2 * j) 0 * 256 ≤ 65535), u16w (by omega) (by omega : l.getD (2 * j + 1) 0 ≤ 65535), join16 h1 h2]
  by_cases hc : 2 * j + 1 < l.length
  ·rw [if_pos (by omega), if_pos (by omega), if_pos hlen, ← ht]
   exact hi
  ·have h0 : l.getD (2 * j + 1) 0 = 0 := by rw [List.getD_eq_getElem?_getD, List.getElem?_eq_none (by omega)]; rfl
   rw [if_neg (by omega), if_pos hlen]
   rw [h0, Int.add_zero] at ht
   rw [← ht]
   exact hi
theorem rwords_eq (l : List Int) (hb : IsB l) (hl : l.length ≤ 1000000000) (k : Nat) (hk : l.length + 1 < k) : lychref1_Words.f k l = some (words l) := by
 have h := rwords_l0 l hb hl ((l.length + 1) / 2) k 0 (by omega) (by omega)
 unfold lychref1_Words.f
 simpa using h
theorem radd_l0 (ws : List Int) (hw : IsW ws) (hl : ws.length ≤ 1000000000) (d : Nat) : ∀ (k j : Nat) (s : Int), j + d = ws.length → d < k → 0 ≤ s → s ≤ 4294967295 →
  lychref1_Add.l0 k s ws (j : Int) = some (addw s (ws.drop j)) := by
 induction d with
 | zero =>
  intro k j s hj hk h0 h1
  obtain ⟨k, rfl⟩ : ∃ m, k = m + 1 := ⟨k - 1, by omega⟩
  simp only [lychref1_Add.l0]
  rw [if_neg (by omega), List.drop_of_length_le (by omega), show s % 4294967296 = s from by omega]
  rfl
 | succ d ih =>
  intro k j s hj hk h0 h1
  obtain ⟨k, rfl⟩ : ∃ m, k = m + 1 := ⟨k - 1, by omega⟩
  have hjl : j < ws.length := by omega
  have hx := hw _ (List.getElem_mem hjl)
  have e1 : wrap64 ((j : Int) + 1) = ((j + 1 : Nat) : Int) := by rw [wrap64_id (by omega) (by omega)]; omega
  have er : rd ws (j : Int) = ws[j] := by rw [rd_at ws _ j rfl, List.getD_eq_getElem?_getD, List.getElem?_eq_getElem hjl]; rfl
  have ho := oadd_range h0 h1 hx
  have hi := ih k (j + 1) (oadd s ws[j]) (by omega) (by omega) ho.1 ho.2
  simp only [lychref1_Add.l0, e1, er]
  rw [if_pos (by omega), if_pos (by omega), u64w (n := ws[j]) (by omega) (by omega), u64w (n := s + ws[j]) (by omega) (by omega)]
  rw [List.drop_eq_getElem_cons hjl]
  show _ = some (addw (oadd s ws[j]) (ws.drop (j + 1)))
  rw [← hi]
  by_cases hc : s + ws[j] > 4294967295
  ·rw [if_pos hc]
   congr 1
   rw [IntKind.wrap_u64, IntKind.wrap_u64]
   unfold oadd; rw [if_pos hc]; omega
  ·rw [if_neg hc]
   congr 1; unfold oadd; rw [if_neg hc]
theorem radd_eq (s : Int) (l : List Int) (hb : IsB l) (hl : l.length ≤ 1000000000) (h0 : 0 ≤ s) (h1 : s ≤ 4294967295) (k : Nat) (hk : l.length + 1 < k) : lychref1_Add.f k s l = some (addw s (words l)) := by
 unfold lychref1_Add.f
 rw [rwords_eq l hb hl k hk]
 have hwl := words_length l
 have := radd_l0 (words l) (words_isW l hb) (by omega) (words l).length k 0 s (by omega) (by omega) h0 h1
 simp only [Option.bind_some, u64w h0 (show s ≤ 18446744073709551615 from by omega)]
 simpa using this
theorem rfold_eq (s : Int) (h0 : 0 ≤ s) (h1 : s ≤ 4294967295) (k : Nat) (hk : 3 < k) : lychref1_Fold.f k s = some (norm s) := by
 have hs : ∀ {k : Nat} {s : Int}, 0 ≤ s → s ≤ 65535 → lychref1_Fold.l0 (k + 1) s = some s := by
  intro k s h0 h1
  simp only [lychref1_Fold.l0]
  rw [if_pos (by omega), u16w h0 h1]
 have ht : ∀ {k : Nat} {s : Int}, 65536 ≤ s → s ≤ 4294967295 → lychref1_Fold.l0 (k + 1) s = lychref1_Fold.l0 k (s / 65536 + s % 65536) := by
  intro k s h0 h1
  simp only [lychref1_Fold.l0]
  rw [if_neg (by omega), and_65535 (by omega) h1, show (s / 65536 + s % 65536) % 4294967296 = s / 65536 + s % 65536 from by omega]
 obtain ⟨k, rfl⟩ : ∃ m, k = m + 3 := ⟨k - 3, by omega⟩
 unfold lychref1_Fold.f
 by_cases c : s ≤ 65535
 ·rw [hs h0 c, norm_small h0 c]
 ·rw [ht (by omega) h1]
  by_cases c2 : s / 65536 + s % 65536 ≤ 65535
  ·rw [hs (by omega) c2]
   congr 1; unfold norm; rw [if_neg (by omega)]; omega
  ·rw [ht (by omega) (by omega), hs (by omega) (by omega)]
   congr 1; unfold norm; rw [if_neg (by omega)]; omega
end Go.Proofs.Ytkmimamminddiaa.SumEq
/- The sum of what stands ahead in thought. -/
namespace Go.Proofs.Ytkmimamminddiaa.SumEq
set_option linter.unusedVariables false
set_option linter.unusedSimpArgs false
open Go.RowKit Go.Proofs.Ytkmimamminddiaa.PB Go.Proofs.YtkmimamminddiaaW.PrintWords Go.Proofs.YtkmimamminddiaaW.PrintLast Go.Proofs.Ytkmimamminddiaa.Spec
theorem pseudo_eq (a b c n : Int) (ha : 0 ≤ a ∧ a ≤ 4294967295) (hb : 0 ≤ b ∧ b ≤ 4294967295) (hc : 0 ≤ c ∧ c ≤ 255) (k : Nat) (hk : 3 < k) :
  sum_Pseudo.f k a b c n = some (norm (a / 65536 + a % 65536 + b / 65536 + b % 65536 + c + n % 65536)) := by
 unfold sum_Pseudo.f
 rw [and_65535 ha.1 ha.2, and_65535 hb.1 hb.2, IntKind.wrap_u16, fold_eq _ (by omega) (by omega) k hk]
 simp only [Option.bind_some]
 have := norm_range (a / 65536 + a % 65536 + b / 65536 + b % 65536 + c + n % 65536) (by omega)
 rw [show (a / 65536 + a % 65536 + b / 65536 + b % 65536 + c + n % 65536) % 4294967296 = a / 65536 + a % 65536 + b / 65536 + b % 65536 + c + n % 65536 from by omega]
 congr 1; omega
theorem rpseudo_eq (a b c n : Int) (ha : 0 ≤ a ∧ a ≤ 4294967295) (hb : 0 ≤ b ∧ b ≤ 4294967295) (hc : 0 ≤ c ∧ c ≤ 255) (k : Nat) (hk : 3 < k) :
  lychref1_Pseudo.f k a b c n = some (norm (a / 65536 + a % 65536 + b / 65536 + b % 65536 + c + n % 65536)) := by
 have e64 : Go.bits .and .u64 (IntKind.u64.wrap n) 65535 = n % 65536 := by
  rw [IntKind.wrap_u64, show (65535 : Int) = 2 ^ 16 - 1 from by decide, bits_mask .u64 64 (by decide) (fun m h0 h1 => by rw [IntKind.wrap_u64]; omega) 16 (by decide) _ (by omega) (by omega)]
  omega
 unfold lychref1_Pseudo.f
 rw [and_65535 ha.1 ha.2, and_65535 hb.1 hb.2, e64, rfold_eq _ (by omega) (by omega) k hk]
 simp only [Option.bind_some]
 have := norm_range (a / 65536 + a % 65536 + b / 65536 + b % 65536 + c + n % 65536) (by omega)
 rw [show (a / 65536 + a % 65536 + b / 65536 + b % 65536 + c + n % 65536) % 4294967296 = a / 65536 + a % 65536 + b / 65536 + b % 65536 + c + n % 65536 from by omega]
 congr 1; omega
end Go.Proofs.Ytkmimamminddiaa.SumEq
namespace Go.Proofs.Ytkmimamminddiaa.PB
open Go.RowKit Go.Proofs.YtkmimamminddiaaW.PrintWords Go.Proofs.YtkmimamminddiaaW.PrintLast Go.Proofs.YtkmimamminddiaaW.PrintMore
attribute [local go_sem] max2_int min2_int max_two min_two max_three min_three max_four min_four   -- for this text's walks alone
set_option linter.unusedVariables false
set_option linter.unusedSimpArgs false
def icmp_Parse.f (l0 : List Int) : Option (Int × Int × Int × Int × List Int × Int) := if (l0.length : Int) < 8 then (some (0, 0, 0, 0, ([] : List Int), 20)) else (if 0 < (l0.length : Int) then (if 1 < (l0.length : Int) then (if 2 < (l0.length : Int) then (if 3 < (l0.length : Int) then (if 4 < (l0.length : Int) then (if 5 < (l0.length : Int) then (if 6 < (l0.length : Int) then (if 7 < (l0.length : Int) then (if 8 ≤ (l0.length : Int) then ((slices_Clone_byte_byte.f (l0.drop 8)).bind fun t676 => (some (rd l0 0, rd l0 1, Go.bits .or .u16 (IntKind.u16.wrap ((IntKind.u16.wrap (rd l0 2)) * 256)) (IntKind.u16.wrap (rd l0 3)), Go.bits .or .u32 (Go.bits .or .u32 (Go.bits .or .u32 ((((rd l0 4) % 4294967296) * 16777216) % 4294967296) ((((rd l0 5) % 4294967296) * 65536) % 4294967296)) ((((rd l0 6) % 4294967296) * 256) % 4294967296)) ((rd l0 7) % 4294967296), t676, 0))) else (none)) else (none)) else (none)) else (none)) else (none)) else (none)) else (none)) else (none)) else (none))
theorem eqA65 (d : Nat) (w : World) (x0 y0 : Int) (x1 y1 : Int) :
  (Op.equalIn (d + 2) 65 (.agg #[.int .u32 x0, .int .u16 x1]) (.agg #[.int .u32 y0, .int .u16 y1])).run Try.prog w = .ok (x0 == y0 && (x1 == y1)) w := by
 refine eqA_of Try.underlying65 (by kernel_rfl) ?_
 refine eqf_cons (by rfl) (by go_simp; rfl) (by go_simp; rfl) (by go_simp) ?_
 exact eqf_last (by rfl) (by go_simp; rfl) (by go_simp; rfl) (by go_simp)
end Go.Proofs.Ytkmimamminddiaa.PB
namespace Go.Proofs.Ytkmimamminddiaa.PB
open Go.RowKit Go.Proofs.YtkmimamminddiaaW.PrintWords Go.Proofs.YtkmimamminddiaaW.PrintLast Go.Proofs.YtkmimamminddiaaW.PrintMore
attribute [local go_sem] max2_int min2_int max_two min_two max_three min_three max_four min_four   -- for this text's walks alone
set_option linter.unusedVariables false
set_option linter.unusedSimpArgs false
attribute [local go_sem high] eqA65
end Go.Proofs.Ytkmimamminddiaa.PB
/- Plain: segments' sums. -/
namespace Go.Proofs.Ytkmimamminddiaa.Pure
set_option linter.unusedVariables false
set_option linter.unusedSimpArgs false
open Go.RowKit Go.Proofs.Ytkmimamminddiaa.PB Go.Proofs.YtkmimamminddiaaW.PrintWords Go.Proofs.YtkmimamminddiaaW.PrintLast
open Go.Proofs.Ytkmimamminddiaa.Spec Go.Proofs.Ytkmimamminddiaa.BytesEq
def tT (a b : Int) (x : List Int) : Int := norm (a / 65536 + a % 65536 + b / 65536 + b % 65536 + 6 + (x.length : Int) % 65536) + isum (words x)
theorem tT_nonneg {a b : Int} {x : List Int} (ha : 0 ≤ a) (hb : 0 ≤ b) (h : IsB x) : 0 ≤ tT a b x := by
 have h1 := norm_range (a / 65536 + a % 65536 + b / 65536 + b % 65536 + 6 + (x.length : Int) % 65536) (by omega)
 have h2 := isum_nonneg _ (words_isW x h)
 unfold tT
 omega
theorem tbytes_isB {s d q k f w c u : Int} {o l : List Int} (hf : 0 ≤ f ∧ f ≤ 255) (ho : IsB o) (hl : IsB l) : IsB (tbytes s d q k f w c u o l) := (thead_isB hf).append (ho.append hl)
theorem tbytes_length (s d q k f w c u : Int) (o l : List Int) : (tbytes s d q k f w c u o l).length = 20 + o.length + l.length := by
 unfold tbytes
 rw [List.length_append, List.length_append, thead_length]
 omega
section
variable {a b s d q k f w c u : Int} {o l : List Int}
theorem tout_ok (h4 : (o.length : Int) % 4 = 0) (h40 : (o.length : Int) ≤ 40) (hl : (l.length : Int) ≤ 3000) : tout s d q k f w c u o l = (tbytes s d q k f w c u o l, 0) := by
 unfold tout
 rw [if_neg (by omega), if_neg (by omega)]
theorem tfold (ha : 0 ≤ a ∧ a ≤ 4294967295) (hb : 0 ≤ b ∧ b ≤ 4294967295) {x : List Int} (hx : IsB x) (hl : x.length ≤ 3100) (K : Nat) (hK : 4000 ≤ K) : ((sum_Pseudo.f K a b 6 (x.length : Int)).bind fun t => (sum_Add.f K t x).bind fun t2 => sum_Fold.f K t2) = some (norm (tT a b x)) ∧ ((lychref1_Pseudo.f K a b 6 (x.length : Int)).bind fun t => (lychref1_Add.f K t x).bind fun t2 => lychref1_Fold.f K t2) = some (norm (tT a b x)) := by
 have hp := norm_range (a / 65536 + a % 65536 + b / 65536 + b % 65536 + 6 + (x.length : Int) % 65536) (by omega)
 have hr := addw_range (words x) _ hp.1 (by omega) (words_isW _ hx)
 have hn := norm_addw (words x) _ hp.1 (by omega) (words_isW _ hx)
 constructor
 ·rw [SumEq.pseudo_eq a b 6 _ ha hb (by omega) K (by omega), Option.bind_some, SumEq.add_eq _ _ hx (by omega) hp.1 (by omega) K (by omega), Option.bind_some, SumEq.fold_eq _ hr.1 hr.2 K (by omega), hn]
  rfl
 ·rw [SumEq.rpseudo_eq a b 6 _ ha hb (by omega) K (by omega), Option.bind_some, SumEq.radd_eq _ _ hx (by omega) hp.1 (by omega) K (by omega), Option.bind_some, SumEq.rfold_eq _ hr.1 hr.2 K (by omega), hn]
  rfl
theorem rtsum_eq (ha : 0 ≤ a ∧ a ≤ 4294967295) (hb : 0 ≤ b ∧ b ≤ 4294967295) (hf : 0 ≤ f ∧ f ≤ 255) (ho : IsB o) (h4 : (o.length : Int) % 4 = 0) (h40 : (o.length : Int) ≤ 40) (h : IsB l) (hl : (l.length : Int) ≤ 3000) (K : Nat) (hK : 4000 ≤ K) : lychref1_TcpSum.f K a b s d q k f w c u o l = some (65535 - norm (tT a b (tbytes s d q k f w 0 u o l))) := by
 have hL := tbytes_length s d q k f w 0 u o l
 have hn := norm_range _ (tT_nonneg ha.1 hb.1 (tbytes_isB (s := s) (d := d) (q := q) (k := k) (w := w) (c := 0) (u := u) hf ho h))
 obtain ⟨x, hx⟩ : ∃ x, x = tbytes s d q k f w 0 u o l := ⟨_, rfl⟩
 have hB : IsB x := by rw [hx]; exact tbytes_isB hf ho h
 have h1 := (tfold ha hb hB (by rw [hx]; omega) K hK).2
 unfold lychref1_TcpSum.f
 rw [← hx] at hn ⊢
 rw [rtbytes_eq (by omega) (by omega) K (by omega), tout_ok h4 h40 hl, ← hx, Option.bind_some]
 obtain ⟨t1, e1, h1⟩ := Option.bind_eq_some_iff.1 h1
 obtain ⟨t2, e2, h1⟩ := Option.bind_eq_some_iff.1 h1
 dsimp only
 rw [if_pos rfl, e1, Option.bind_some, e2, Option.bind_some, h1, Option.bind_some, show (IntKind.u16.max : Int) = 65535 from rfl, not_u16 hn.1 hn.2]
end
end Go.Proofs.Ytkmimamminddiaa.Pure
namespace Go.Proofs.Ytkmimamminddiaa.PB
open Go.RowKit Go.Proofs.YtkmimamminddiaaW.PrintWords Go.Proofs.YtkmimamminddiaaW.PrintLast Go.Proofs.YtkmimamminddiaaW.PrintMore
attribute [local go_sem] max2_int min2_int max_two min_two max_three min_three max_four min_four   -- for this text's walks alone
set_option linter.unusedVariables false
set_option linter.unusedSimpArgs false
end Go.Proofs.Ytkmimamminddiaa.PB
/- Plain laws of the checksum: words changed, swapped, padded. -/
namespace Go.Proofs.Ytkmimamminddiaa.Spec
set_option linter.unusedVariables false
set_option linter.unusedSimpArgs false
open Go.RowKit
theorem stands {S : Int} (h : 0 ≤ S) : norm (S + (65535 - norm S)) = 65535 := by
 unfold norm
 split
 ·rw [if_neg (by omega)]; omega
 ·rw [if_neg (by omega)]; omega
end Go.Proofs.Ytkmimamminddiaa.Spec
/- UdpReads, UdpBack, UdpSums, UdpGreat, UdpLengths, UdpNone, the plain statements: for all datagrams the printed laws return true. -/
namespace Go.Proofs.Ytkmimamminddiaa.Pure
set_option linter.unusedVariables false
set_option linter.unusedSimpArgs false
open Go.RowKit Go.Proofs.Ytkmimamminddiaa.PB Go.Proofs.YtkmimamminddiaaW.PrintWords Go.Proofs.YtkmimamminddiaaW.PrintLast
open Go.Proofs.Ytkmimamminddiaa.Spec Go.Proofs.Ytkmimamminddiaa.BytesEq
theorem utwo_eq {l : List Int} (h : IsB l) (a b : Nat) (hab : b = a + 2) (hb : b ≤ l.length) : udp_two.f ((l.take b).drop a) = some (g16 l a) := by
 subst hab
 unfold udp_two.f
 have hlen : ((l.take (a + 2)).drop a).length = 2 := by rw [List.length_drop, List.length_take]; omega
 rw [hlen, if_pos (by omega), if_pos (by omega), rd_mid l a (a + 2) 0 0 rfl (by omega), rd_mid l a (a + 2) 1 1 rfl (by omega), word16 (h.getD (a + 0)) (h.getD (a + 1))]
 rfl
def udg (l : List Int) : Int × Int × Int × List Int × Int :=
 if l.length < 8 then (0, 0, 0, [], 20) else if g16 l 4 < 8 then (0, 0, 0, [], 21) else if (l.length : Int) < g16 l 4 then (0, 0, 0, [], 20) else (g16 l 0, g16 l 2, g16 l 6, (l.take (g16 l 4).toNat).drop 8, 0)
theorem uparse_eq {l : List Int} (h : IsB l) (hl : l.length ≤ 1000000000) : udp_Parse.f l = some (udg l) := by
 unfold udp_Parse.f udg
 by_cases h8 : l.length < 8
 ·rw [if_pos (by omega), if_pos h8]
 ·have hg := g16_range h 4
  rw [if_neg (by omega), if_neg h8, if_pos (by omega), utwo_eq h 4 6 rfl (by omega)]
  simp only [Option.bind_some]
  rw [wrap64_id (n := g16 l 4) (by omega) (by omega)]
  by_cases c1 : g16 l 4 < 8
  ·rw [if_pos c1, if_pos c1]
  ·rw [if_neg c1, if_neg c1]
   by_cases c2 : (l.length : Int) < g16 l 4
   ·rw [if_pos c2, if_pos c2]
   ·rw [if_neg c2, if_neg c2, if_pos (by omega), utwo_eq h 0 2 rfl (by omega)]
    simp only [Option.bind_some]
    rw [if_pos (by omega), utwo_eq h 2 4 rfl (by omega)]
    simp only [Option.bind_some]
    rw [if_pos (by omega), utwo_eq h 6 8 rfl (by omega)]
    simp only [Option.bind_some]
    rw [if_pos (by omega), if_pos (by omega), clone_eq _ (by rw [List.length_drop, List.length_take]; omega)]
    simp only [Option.bind_some]
theorem ruparse_eq {l : List Int} (h : IsB l) (hl : l.length ≤ 1000000000) : lychref1_Udp.f l = some (udg l) := by
 unfold lychref1_Udp.f udg
 by_cases h8 : l.length < 8
 ·rw [if_pos (by omega), if_pos h8]
 ·have hg := g16_range h 4
  have e0 := get16_eq h 0 (by omega) hl
  have e2 := get16_eq h 2 (by omega) hl
  have e4 := get16_eq h 4 (by omega) hl
  have e6 := get16_eq h 6 (by omega) hl
  rw [show ((0 : Nat) : Int) = 0 from rfl] at e0
  rw [show ((2 : Nat) : Int) = 2 from rfl] at e2
  rw [show ((4 : Nat) : Int) = 4 from rfl] at e4
  rw [show ((6 : Nat) : Int) = 6 from rfl] at e6
  rw [if_neg (by omega), if_neg h8, e4]
  simp only [Option.bind_some]
  rw [wrap64_id (n := g16 l 4) (by omega) (by omega)]
  by_cases c1 : g16 l 4 < 8
  ·rw [if_pos c1, if_pos c1]
  ·rw [if_neg c1, if_neg c1]
   by_cases c2 : (l.length : Int) < g16 l 4
   ·rw [if_pos c2, if_pos c2]
   ·have e8 := cut_eq l 8 (g16 l 4).toNat (by omega) (by omega) hl
    rw [show ((8 : Nat) : Int) = 8 from rfl, Int.toNat_of_nonneg hg.1] at e8
    rw [if_neg c2, if_neg c2, e0, e2, e6, e8]
    simp only [Option.bind_some]
def ubytes (s d c : Int) (l : List Int) : List Int := [s / 256 % 256, s % 256, d / 256 % 256, d % 256, (8 + (l.length : Int)) / 256 % 256, (8 + (l.length : Int)) % 256, c / 256 % 256, c % 256] ++ l
theorem ubytes_eq (s d c : Int) {l : List Int} (hl : l.length ≤ 1000000000) : udp_Bytes.f s d c l = if (l.length : Int) > 65527 then some ([], 23) else some (ubytes s d c l, 0) := by
 unfold udp_Bytes.f ubytes
 rw [wrap64_id (by omega) (by omega)]
 by_cases h : (l.length : Int) > 65527
 ·rw [if_pos (by omega), if_pos h]
 ·rw [if_neg (by omega), if_neg h]
  simp only [Option.bind_some, List.length_cons, List.length_nil]
  rw [if_pos (by omega)]
theorem rubytes_eq (s d c : Int) {l : List Int} (hl : l.length ≤ 1000000000) : lychref1_UdpBytes.f s d c l = if (l.length : Int) > 65527 then some ([], 23) else some (ubytes s d c l, 0) := by
 unfold lychref1_UdpBytes.f lychref1_Put16.f ubytes
 by_cases h : (l.length : Int) > 65527
 ·rw [if_pos h, if_pos h]
 ·rw [if_neg h, if_neg h, wrap64_id (n := 8 + (l.length : Int)) (by omega) (by omega), u16w (n := 8 + (l.length : Int)) (by omega) (by omega)]
  simp only [Option.bind_some, List.length_cons, List.length_nil, List.cons_append, List.nil_append]
  rw [if_pos (by omega)]
  simp only [Option.bind_some, List.length_cons, List.length_nil, List.cons_append, List.nil_append]
  rw [if_pos (by omega)]
  simp only [Option.bind_some, List.length_cons, List.length_nil, List.cons_append, List.nil_append]
  rw [if_pos (by omega)]
  simp only [Option.bind_some, List.length_cons, List.length_nil, List.cons_append, List.nil_append]
  rw [if_pos (by omega)]
  simp only [Option.bind_some, List.length_cons, List.length_nil, List.cons_append, List.nil_append]
  rw [if_pos (by omega)]
theorem ubytes_isB {s d c : Int} {l : List Int} (h : IsB l) : IsB (ubytes s d c l) :=
 IsB.append (.cons (by omega) (.cons (by omega) (.cons (by omega) (.cons (by omega) (.cons (by omega) (.cons (by omega) (.cons (by omega) (.cons (by omega) .nil)))))))) h
theorem ubytes_length (s d c : Int) (l : List Int) : (ubytes s d c l).length = 8 + l.length := by simp [ubytes]; omega
end Go.Proofs.Ytkmimamminddiaa.Pure
/- Plain: PureUdps. -/
namespace Go.Proofs.Ytkmimamminddiaa.Pure
set_option linter.unusedVariables false
set_option linter.unusedSimpArgs false
open Go.RowKit Go.Proofs.Ytkmimamminddiaa.PB Go.Proofs.YtkmimamminddiaaW.PrintWords Go.Proofs.YtkmimamminddiaaW.PrintLast
open Go.Proofs.Ytkmimamminddiaa.Spec Go.Proofs.Ytkmimamminddiaa.BytesEq
theorem words_ubytes {s d c : Int} {l : List Int} (hs : 0 ≤ s ∧ s ≤ 65535) (hd : 0 ≤ d ∧ d ≤ 65535) (hc : 0 ≤ c ∧ c ≤ 65535) (hl : (l.length : Int) ≤ 65527) : isum (words (ubytes s d c l)) = s + d + (8 + (l.length : Int)) + c + isum (words l) := by
 unfold ubytes
 simp only [List.cons_append, List.nil_append, words, isum]
 omega
def usumS (a b s d : Int) (l : List Int) : Int := norm (a / 65536 + a % 65536 + b / 65536 + b % 65536 + 17 + (8 + (l.length : Int)) % 65536) + s + d + (8 + (l.length : Int)) + isum (words l)
theorem usumS_pos {a b s d : Int} {l : List Int} (ha : 0 ≤ a) (hb : 0 ≤ b) (hs : 0 ≤ s) (hd : 0 ≤ d) (h : IsB l) : 0 < usumS a b s d l := by
 have h1 := norm_range (a / 65536 + a % 65536 + b / 65536 + b % 65536 + 17 + (8 + (l.length : Int)) % 65536) (by omega)
 have h2 := isum_nonneg _ (words_isW l h)
 unfold usumS; omega
theorem utotal {a b s d c : Int} {l : List Int} (ha : 0 ≤ a ∧ a ≤ 4294967295) (hb : 0 ≤ b ∧ b ≤ 4294967295) (hs : 0 ≤ s ∧ s ≤ 65535) (hd : 0 ≤ d ∧ d ≤ 65535) (hc : 0 ≤ c ∧ c ≤ 65535) (h : IsB l) (hl : (l.length : Int) ≤ 3000) (K : Nat) (hK : 4000 ≤ K) :
  udp_total.f K a b s d c l = some (norm (usumS a b s d l + c), true) := by
 have hB := ubytes_isB (s := s) (d := d) (c := c) h
 have hL := ubytes_length s d c l
 have hp := norm_range (a / 65536 + a % 65536 + b / 65536 + b % 65536 + 17 + (8 + (l.length : Int)) % 65536) (by omega)
 unfold udp_total.f
 rw [ubytes_eq _ _ _ (by omega), if_neg (by omega)]
 simp only [Option.bind_some]
 rw [show ((ubytes s d c l).length : Int) = 8 + (l.length : Int) from by omega, SumEq.pseudo_eq a b 17 _ ha hb (by omega) K (by omega)]
 simp only [Option.bind_some]
 have hr := addw_range (words (ubytes s d c l)) _ hp.1 (by omega) (words_isW _ hB)
 have hn := norm_addw (words (ubytes s d c l)) _ hp.1 (by omega) (words_isW _ hB)
 rw [SumEq.add_eq _ _ hB (by omega) hp.1 (by omega) K (by omega)]
 simp only [Option.bind_some]
 rw [SumEq.fold_eq _ hr.1 hr.2 K (by omega), hn, words_ubytes hs hd hc (by omega)]
 simp only [Option.bind_some, beq_self_eq_true]
 unfold usumS
 congr 3
 omega
def usum (S : Int) : Int := if norm S = 65535 then 65535 else 65535 - norm S
theorem usum_iff {S o : Int} (h : 0 < S) (ho : 1 ≤ o ∧ o ≤ 65535) : norm (S + o) = 65535 ↔ o = usum S := by
 have e1 : norm S = (S - 1) % 65535 + 1 := by unfold norm; rw [if_neg (by omega)]
 have e2 : norm (S + o) = (S + o - 1) % 65535 + 1 := by unfold norm; rw [if_neg (by omega)]
 unfold usum
 rw [e1, e2]
 split <;> omega
theorem rusum_eq {a b s d c : Int} {l : List Int} (ha : 0 ≤ a ∧ a ≤ 4294967295) (hb : 0 ≤ b ∧ b ≤ 4294967295) (hs : 0 ≤ s ∧ s ≤ 65535) (hd : 0 ≤ d ∧ d ≤ 65535) (h : IsB l) (hl : (l.length : Int) ≤ 3000) (K : Nat) (hK : 4000 ≤ K) :
  lychref1_UdpSum.f K a b s d c l = some (usum (usumS a b s d l)) := by
 have hS := usumS_pos (s := s) (d := d) ha.1 hb.1 hs.1 hd.1 h
 have hnn := norm_range (usumS a b s d l) (by omega)
 have hB := ubytes_isB (s := s) (d := d) (c := 0) h
 have hL := ubytes_length s d 0 l
 have hp := norm_range (a / 65536 + a % 65536 + b / 65536 + b % 65536 + 17 + (8 + (l.length : Int)) % 65536) (by omega)
 have hr := addw_range (words (ubytes s d 0 l)) _ hp.1 (by omega) (words_isW _ hB)
 have hn := norm_addw (words (ubytes s d 0 l)) _ hp.1 (by omega) (words_isW _ hB)
 unfold lychref1_UdpSum.f
 rw [rubytes_eq _ _ _ (by omega), if_neg (by omega)]
 simp only [Option.bind_some, if_true]
 rw [show ((ubytes s d 0 l).length : Int) = 8 + (l.length : Int) from by omega, SumEq.rpseudo_eq a b 17 _ ha hb (by omega) K (by omega)]
 simp only [Option.bind_some]
 rw [SumEq.radd_eq _ _ hB (by omega) hp.1 (by omega) K (by omega)]
 simp only [Option.bind_some]
 have e : norm (a / 65536 + a % 65536 + b / 65536 + b % 65536 + 17 + (8 + (l.length : Int)) % 65536) + (s + d + (8 + (l.length : Int)) + 0 + isum (words l)) = usumS a b s d l := by unfold usumS; omega
 rw [SumEq.rfold_eq _ hr.1 hr.2 K (by omega), hn, words_ubytes hs hd (by omega) (by omega), e]
 simp only [Option.bind_some]
 rw [show (IntKind.u16.max : Int) = 65535 from rfl, not_u16 hnn.1 hnn.2]
 unfold usum
 by_cases c1 : norm (usumS a b s d l) = 65535
 ·rw [if_pos (by omega), if_pos c1]
 ·rw [if_neg (by omega), if_neg c1]
theorem uright_eq {a b s d c : Int} {l : List Int} (ha : 0 ≤ a ∧ a ≤ 4294967295) (hb : 0 ≤ b ∧ b ≤ 4294967295) (hs : 0 ≤ s ∧ s ≤ 65535) (hd : 0 ≤ d ∧ d ≤ 65535) (hc : 0 ≤ c ∧ c ≤ 65535) (h : IsB l) (hl : (l.length : Int) ≤ 3000) (K : Nat) (hK : 4000 ≤ K) :
  udp_Right.f K a b s d c l = some (decide (c = 0 ∨ c = usum (usumS a b s d l))) := by
 have hS := usumS_pos (s := s) (d := d) ha.1 hb.1 hs.1 hd.1 h
 unfold udp_Right.f
 by_cases c0 : c = 0
 ·rw [if_pos c0]; simp [c0]
 ·rw [if_neg c0, utotal ha hb hs hd hc h hl K hK]
  simp only [Option.bind_some, if_true]
  have := usum_iff hS (o := c) (by omega)
  congr 1
  rw [Bool.eq_iff_iff, beq_iff_eq, decide_eq_true_eq, this]
  exact ⟨fun h => .inr h, fun h => h.resolve_left c0⟩
theorem ruright_eq {a b s d c : Int} {l : List Int} (ha : 0 ≤ a ∧ a ≤ 4294967295) (hb : 0 ≤ b ∧ b ≤ 4294967295) (hs : 0 ≤ s ∧ s ≤ 65535) (hd : 0 ≤ d ∧ d ≤ 65535) (hc : 0 ≤ c ∧ c ≤ 65535) (h : IsB l) (hl : (l.length : Int) ≤ 3000) (K : Nat) (hK : 4000 ≤ K) :
  lychref1_UdpRight.f K a b s d c l = some (decide (c = 0 ∨ c = usum (usumS a b s d l))) := by
 have hS := usumS_pos (s := s) (d := d) ha.1 hb.1 hs.1 hd.1 h
 unfold lychref1_UdpRight.f
 by_cases c0 : c = 0
 ·rw [if_pos c0]; simp [c0]
 ·have hB := ubytes_isB (s := s) (d := d) (c := c) h
  have hL := ubytes_length s d c l
  have hp := norm_range (a / 65536 + a % 65536 + b / 65536 + b % 65536 + 17 + (8 + (l.length : Int)) % 65536) (by omega)
  have hr := addw_range (words (ubytes s d c l)) _ hp.1 (by omega) (words_isW _ hB)
  have hn := norm_addw (words (ubytes s d c l)) _ hp.1 (by omega) (words_isW _ hB)
  rw [if_neg c0, rubytes_eq _ _ _ (by omega), if_neg (by omega)]
  simp only [Option.bind_some, if_true]
  rw [show ((ubytes s d c l).length : Int) = 8 + (l.length : Int) from by omega, SumEq.rpseudo_eq a b 17 _ ha hb (by omega) K (by omega)]
  simp only [Option.bind_some]
  rw [SumEq.radd_eq _ _ hB (by omega) hp.1 (by omega) K (by omega)]
  simp only [Option.bind_some]
  have e : norm (a / 65536 + a % 65536 + b / 65536 + b % 65536 + 17 + (8 + (l.length : Int)) % 65536) + (s + d + (8 + (l.length : Int)) + c + isum (words l)) = usumS a b s d l + c := by unfold usumS; omega
  rw [SumEq.rfold_eq _ hr.1 hr.2 K (by omega), hn, words_ubytes hs hd hc (by omega), e]
  simp only [Option.bind_some]
  have := usum_iff hS (o := c) (by omega)
  congr 1
  rw [Bool.eq_iff_iff, beq_iff_eq, decide_eq_true_eq, this]
  exact ⟨fun h => .inr h, fun h => h.resolve_left c0⟩
end Go.Proofs.Ytkmimamminddiaa.Pure
/- The checksum of bytes. -/
namespace Go.Proofs.Ytkmimamminddiaa.SumEq
set_option linter.unusedVariables false
set_option linter.unusedSimpArgs false
open Go.RowKit Go.Proofs.Ytkmimamminddiaa.PB Go.Proofs.YtkmimamminddiaaW.PrintWords Go.Proofs.YtkmimamminddiaaW.PrintLast Go.Proofs.Ytkmimamminddiaa.Spec
theorem rof_eq (l : List Int) (hb : IsB l) (hl : l.length ≤ 1000000000) (k : Nat) (hk : l.length + 1 < k) (hk3 : 3 < k) : lychref1_Of.f k l = some (ck l) := by
 have hr := addw_range (words l) 0 (by omega) (by omega) (words_isW l hb)
 have hn := norm_addw (words l) 0 (by omega) (by omega) (words_isW l hb)
 have hp := norm_range _ (isum_nonneg _ (words_isW l hb))
 unfold lychref1_Of.f
 rw [radd_eq 0 l hb hl (by omega) (by omega) k hk]
 simp only [Option.bind_some]
 rw [rfold_eq _ hr.1 hr.2 k hk3, hn, Int.zero_add]
 simp only [Option.bind_some]
 rw [show (IntKind.u16.max : Int) = 65535 from rfl, not_u16 hp.1 hp.2]
 rfl
end Go.Proofs.Ytkmimamminddiaa.SumEq
/- Plain: PureIcmps. -/
namespace Go.Proofs.Ytkmimamminddiaa.PureI
set_option linter.unusedVariables false
set_option linter.unusedSimpArgs false
open Go.RowKit Go.Proofs.Ytkmimamminddiaa.PB Go.Proofs.YtkmimamminddiaaW.PrintWords Go.Proofs.YtkmimamminddiaaW.PrintLast
open Go.Proofs.Ytkmimamminddiaa.Spec Go.Proofs.Ytkmimamminddiaa.BytesEq
theorem word32b {a b c d : Int} (ha : 0 ≤ a ∧ a ≤ 255) (hb : 0 ≤ b ∧ b ≤ 255) (hc : 0 ≤ c ∧ c ≤ 255) (hd : 0 ≤ d ∧ d ≤ 255) :
  Go.bits .or .u32 (Go.bits .or .u32 (Go.bits .or .u32 (((a % 4294967296) * 16777216) % 4294967296) (((b % 4294967296) * 65536) % 4294967296)) (((c % 4294967296) * 256) % 4294967296)) (d % 4294967296) = a * 16777216 + b * 65536 + c * 256 + d := by
 rw [show a % 4294967296 = a from by omega, show a * 16777216 % 4294967296 = a * 16777216 from by omega, show b % 4294967296 = b from by omega, show b * 65536 % 4294967296 = b * 65536 from by omega, show c % 4294967296 = c from by omega, show c * 256 % 4294967296 = c * 256 from by omega, show d % 4294967296 = d from by omega]
 rw [or_u32 24 (x := a * 16777216) (y := b * 65536) (by omega) (by omega) (by omega) (by omega) (by omega) (by omega)]
 rw [or_u32 16 (x := a * 16777216 + b * 65536) (y := c * 256) (by omega) (by omega) (by omega) (by omega) (by omega) (by omega)]
 rw [or_u32 8 (x := a * 16777216 + b * 65536 + c * 256) (y := d) (by omega) (by omega) (by omega) (by omega) (by omega) (by omega)]
def imsg (l : List Int) : Int × Int × Int × Int × List Int × Int := if l.length < 8 then (0, 0, 0, 0, [], 20) else (l.getD 0 0, l.getD 1 0, g16 l 2, g32 l 4, l.drop 8, 0)
theorem iparse_eq {l : List Int} (h : IsB l) (hl : l.length ≤ 1000000000) : icmp_Parse.f l = some (imsg l) := by
 unfold icmp_Parse.f imsg
 by_cases h8 : l.length < 8
 ·rw [if_pos (by omega), if_pos h8]
 ·rw [if_neg (by omega), if_neg h8, if_pos (by omega), if_pos (by omega), if_pos (by omega), if_pos (by omega), if_pos (by omega), if_pos (by omega), if_pos (by omega), if_pos (by omega), if_pos (by omega), clone_eq _ (by rw [List.length_drop]; omega)]
  simp only [Option.bind_some]
  rw [rd_nat l 0 0 rfl, rd_nat l 1 1 rfl, rd_nat l 2 2 rfl, rd_nat l 3 3 rfl, rd_nat l 4 4 rfl, rd_nat l 5 5 rfl, rd_nat l 6 6 rfl, rd_nat l 7 7 rfl, word16 (h.getD 2) (h.getD 3), word32b (h.getD 4) (h.getD 5) (h.getD 6) (h.getD 7)]
  have e : g32 l 4 = (l.getD 4 0 * 256 + l.getD 5 0) * 65536 + (l.getD 6 0 * 256 + l.getD 7 0) := rfl
  rw [e, show (l.getD 4 0 * 256 + l.getD 5 0) * 65536 + (l.getD 6 0 * 256 + l.getD 7 0) = l.getD 4 0 * 16777216 + l.getD 5 0 * 65536 + l.getD 6 0 * 256 + l.getD 7 0 from by omega]
  rfl
theorem riparse_eq {l : List Int} (h : IsB l) (hl : l.length ≤ 1000000000) : lychref1_Icmp.f l = some (imsg l) := by
 unfold lychref1_Icmp.f imsg
 by_cases h8 : l.length < 8
 ·rw [if_pos (by omega), if_pos h8]
 ·have e2 := get16_eq h 2 (by omega) hl
  have e4 := get32_eq h 4 (by omega) hl
  have e8 := cut_eq l 8 l.length (by omega) (by omega) hl
  rw [show ((2 : Nat) : Int) = 2 from rfl] at e2
  rw [show ((4 : Nat) : Int) = 4 from rfl] at e4
  rw [show ((8 : Nat) : Int) = 8 from rfl] at e8
  rw [if_neg (by omega), if_neg h8, if_pos (by omega), if_pos (by omega), e2, e4, e8]
  simp only [Option.bind_some, List.take_length]
  rw [rd_nat l 0 0 rfl, rd_nat l 1 1 rfl]
def ibytes (t c s r : Int) (l : List Int) : List Int := [t, c, s / 256 % 256, s % 256, r / 16777216 % 256, r / 65536 % 256, r / 256 % 256, r % 256] ++ l
theorem ribytes_eq (t c s r : Int) {l : List Int} (hl : l.length ≤ 1000000000) : lychref1_IcmpBytes.f t c s r l = if (l.length : Int) > 65507 then some ([], 23) else some (ibytes t c s r l, 0) := by
 unfold lychref1_IcmpBytes.f lychref1_Put16.f lychref1_Put32.f ibytes
 by_cases h : (l.length : Int) > 65507
 ·rw [if_pos h, if_pos h]
 ·rw [if_neg h, if_neg h]
  simp only [Option.bind_some, List.length_cons, List.length_nil, List.cons_append, List.nil_append]
  rw [if_pos (by omega)]
  simp only [Option.bind_some, List.length_cons, List.length_nil, List.cons_append, List.nil_append]
  rw [if_pos (by omega)]
  simp only [Option.bind_some, List.length_cons, List.length_nil, List.cons_append, List.nil_append]
  rw [if_pos (by omega)]
theorem ibytes_isB {t c s r : Int} {l : List Int} (ht : 0 ≤ t ∧ t ≤ 255) (hc : 0 ≤ c ∧ c ≤ 255) (h : IsB l) : IsB (ibytes t c s r l) :=
 IsB.append (.cons ht (.cons hc (.cons (by omega) (.cons (by omega) (.cons (by omega) (.cons (by omega) (.cons (by omega) (.cons (by omega) .nil)))))))) h
theorem ibytes_length (t c s r : Int) (l : List Int) : (ibytes t c s r l).length = 8 + l.length := by simp [ibytes]; omega
theorem risumf_eq (t c s r : Int) (l : List Int) (K : Nat) (hK : 4000 ≤ K) (hl : (l.length : Int) ≤ 3000) (hB : IsB (ibytes t c 0 r l)) : lychref1_IcmpSum.f K t c s r l = some (ck (ibytes t c 0 r l)) := by
 have hL := ibytes_length t c 0 r l
 unfold lychref1_IcmpSum.f
 rw [ribytes_eq _ _ _ _ (by omega), if_neg (by omega)]
 simp only [Option.bind_some, if_true]
 rw [SumEq.rof_eq _ hB (by omega) _ (by omega) (by omega)]
 simp only [Option.bind_some]
end Go.Proofs.Ytkmimamminddiaa.PureI
/- Packets out of bytes: what the proofs of the laws on packets share. -/
namespace Go.Proofs.Ytkmimamminddiaa.Pure
set_option linter.unusedVariables false
set_option linter.unusedSimpArgs false
open Go.RowKit Go.Proofs.Ytkmimamminddiaa.PB Go.Proofs.YtkmimamminddiaaW.PrintWords Go.Proofs.YtkmimamminddiaaW.PrintLast
open Go.Proofs.Ytkmimamminddiaa.Spec Go.Proofs.Ytkmimamminddiaa.BytesEq Go.Proofs.Ytkmimamminddiaa.SumEq
theorem itwo_eq {l : List Int} (h : IsB l) (i : Nat) (hi : i + 2 ≤ l.length) (hl : l.length ≤ 1000000000) : ip_reader_two.f l (i : Int) = some (g16 l i) := get16_eq h i hi hl
theorem ifour_eq {l : List Int} (h : IsB l) (i : Nat) (hi : i + 4 ≤ l.length) (hl : l.length ≤ 1000000000) : ip_reader_four.f l (i : Int) = some (g32 l i) := get32_eq h i hi hl
theorem iclone_eq (l : List Int) (hl : l.length ≤ 1000000000) : ip_reader_byte.f l = some l := by
 unfold ip_reader_byte.f
 rw [if_pos (by omega)]
theorem must_yes {c : Prop} [Decidable c] (h : c) (e : Int) : ip_must.f (decide c) e = some () := by
 unfold ip_must.f
 rw [decide_eq_true h, if_pos rfl]
theorem and16 (i : Nat) (hi : i ≤ 16) {x : Int} (h₀ : 0 ≤ x) (h₁ : x ≤ 65535) : Go.bits .and .u16 x (2 ^ i - 1) = x % 2 ^ i := bits_mask .u16 16 (by decide) wraps_u16 i hi x h₀ (by omega)
def ihead (l : List Int) : Int := 4 * (l.getD 0 0 % 16)
theorem ihead_range (l : List Int) : 0 ≤ ihead l ∧ ihead l ≤ 60 := by unfold ihead; omega
theorem ihead_eq {l : List Int} (h : IsB l) : wrap64 (4 * (wrap64 (Go.bits .and .u8 (rd l 0) 15))) = ihead l := by
 have hg := h.getD 0
 have ea : Go.bits .and .u8 (rd l 0) 15 = l.getD 0 0 % 16 := by rw [rd_nat l 0 0 rfl]; exact and_u8 4 (by omega) hg.1 hg.2
 rw [ea, wrap64_id (n := l.getD 0 0 % 16) (by omega) (by omega), wrap64_id (by omega) (by omega)]
 rfl
theorem ihead_eq2 {l : List Int} (h : IsB l) : wrap64 ((wrap64 (Go.bits .and .u8 (rd l 0) 15)) * 4) = ihead l := by
 have hg := h.getD 0
 have ea : Go.bits .and .u8 (rd l 0) 15 = l.getD 0 0 % 16 := by rw [rd_nat l 0 0 rfl]; exact and_u8 4 (by omega) hg.1 hg.2
 rw [ea, wrap64_id (n := l.getD 0 0 % 16) (by omega) (by omega), wrap64_id (by omega) (by omega)]
 unfold ihead; omega
def isumof (l : List Int) : Int := norm (isum (words (l.take (ihead l).toNat)))
def iodd (l : List Int) : Prop := ¬ (l.getD 0 0 / 16 = 4 ∧ ihead l ≥ 20 ∧ g16 l 2 ≥ ihead l)
instance (l : List Int) : Decidable (iodd l) := inferInstanceAs (Decidable (¬ _))
def iparts (l : List Int) : Int × Int × Int × Int × Int × Int × Int × Int × List Int × List Int :=
 (l.getD 1 0, l.getD 8 0, l.getD 9 0, g16 l 4, g16 l 6 / 8192, g16 l 6 % 8192, g32 l 12, g32 l 16, (l.take (ihead l).toNat).drop 20, (l.take (g16 l 2).toNat).drop (ihead l).toNat)
def iseg (l : List Int) : Int × Int × Int × Int × Int × Int × Int × Int × List Int × List Int × Int :=
 if l.length < 20 then (0, 0, 0, 0, 0, 0, 0, 0, [], [], 20) else if iodd l then (0, 0, 0, 0, 0, 0, 0, 0, [], [], 21) else if (l.length : Int) < g16 l 2 then (0, 0, 0, 0, 0, 0, 0, 0, [], [], 20) else if isumof l ≠ 65535 then (0, 0, 0, 0, 0, 0, 0, 0, [], [], 22) else
 (l.getD 1 0, l.getD 8 0, l.getD 9 0, g16 l 4, g16 l 6 / 8192, g16 l 6 % 8192, g32 l 12, g32 l 16, (l.take (ihead l).toNat).drop 20, (l.take (g16 l 2).toNat).drop (ihead l).toNat, 0)
theorem fold_head {l : List Int} (h : IsB l) (hl : l.length ≤ 1000000000) (k : Nat) (hk : l.length + 4 < k) : ((sum_Add.f k 0 l).bind fun a => sum_Fold.f k a) = some (norm (isum (words l))) := by
 have hr := addw_range (words l) 0 (by omega) (by omega) (words_isW l h)
 have hn := norm_addw (words l) 0 (by omega) (by omega) (words_isW l h)
 rw [add_eq 0 l h hl (by omega) (by omega) k (by omega), Option.bind_some, fold_eq _ hr.1 hr.2 k (by omega), hn, Int.zero_add]
theorem fold_both {l : List Int} (h : IsB l) (hl : l.length ≤ 1000000000) (k : Nat) (hk : l.length + 4 < k) : ∃ a, sum_Add.f k 0 l = some a ∧ sum_Fold.f k a = some (norm (isum (words l))) := Option.bind_eq_some_iff.mp (fold_head h hl k hk)
theorem rfold_both {l : List Int} (h : IsB l) (hl : l.length ≤ 1000000000) (k : Nat) (hk : l.length + 4 < k) : ∃ a, lychref1_Add.f k 0 l = some a ∧ lychref1_Fold.f k a = some (norm (isum (words l))) := by
 have hr := addw_range (words l) 0 (by omega) (by omega) (words_isW l h)
 have hn := norm_addw (words l) 0 (by omega) (by omega) (words_isW l h)
 refine ⟨_, radd_eq 0 l h hl (by omega) (by omega) k (by omega), ?_⟩
 rw [rfold_eq _ hr.1 hr.2 k (by omega), hn, Int.zero_add]
theorem ipacket_eq {l : List Int} (h : IsB l) (hl : l.length ≤ 1000000000) (h20 : 20 ≤ l.length) (ho : ¬ iodd l) (hs : ¬ (l.length : Int) < g16 l 2) (hx : isumof l = 65535) (k : Nat) (hk : l.length + 5 < k) : ip_reader_packet.f k l = some (iparts l) := by
 obtain ⟨k, rfl⟩ : ∃ j, k = j + 1 := ⟨k - 1, by omega⟩
 have hh := ihead_range l
 have hg := g16_range h 2
 have hb6 := g16_range h 6
 have ho' : l.getD 0 0 / 16 = 4 ∧ ihead l ≥ 20 ∧ g16 l 2 ≥ ihead l := Decidable.not_not.mp ho
 obtain ⟨o1, o2, o3⟩ := ho'
 have p0 : 0 ≤ ihead l := hh.1
 have p1 : ihead l ≤ (l.length : Int) := by omega
 have p2 : (0 : Int) < (l.length : Int) := by omega
 have p3 : (1 : Int) < (l.length : Int) := by omega
 have p4 : (8 : Int) < (l.length : Int) := by omega
 have p5 : (9 : Int) < (l.length : Int) := by omega
 have p6 : g16 l 2 ≤ (l.length : Int) := by omega
 have p7 : ((l.take (ihead l).toNat).drop 20).length ≤ 1000000000 := by rw [List.length_drop, List.length_take]; omega
 have p8 : ((l.take (g16 l 2).toNat).drop (ihead l).toNat).length ≤ 1000000000 := by rw [List.length_drop, List.length_take]; omega
 have p9 : (l.length : Int) ≥ 20 := by omega
 have m1 : ip_must.f (decide ((l.length : Int) ≥ 20)) 20 = some () := must_yes p9 20
 have m2 : ip_must.f (decide (g16 l 2 ≥ ihead l)) 21 = some () := must_yes o3 21
 have m3 : ip_must.f (decide ((l.length : Int) ≥ g16 l 2)) 20 = some () := must_yes p6 20
 have e2 := itwo_eq h 2 (by omega) hl
 have e4 := itwo_eq h 4 (by omega) hl
 have e6 := itwo_eq h 6 (by omega) hl
 have e12 := ifour_eq h 12 (by omega) hl
 have e16 := ifour_eq h 16 (by omega) hl
 rw [show ((2 : Nat) : Int) = 2 from rfl] at e2
 rw [show ((4 : Nat) : Int) = 4 from rfl] at e4
 rw [show ((6 : Nat) : Int) = 6 from rfl] at e6
 rw [show ((12 : Nat) : Int) = 12 from rfl] at e12
 rw [show ((16 : Nat) : Int) = 16 from rfl] at e16
 have r0 : rd l 0 = l.getD 0 0 := rd_nat l 0 0 rfl
 have r1 : rd l 1 = l.getD 1 0 := rd_nat l 1 1 rfl
 have r8 : rd l 8 = l.getD 8 0 := rd_nat l 8 8 rfl
 have r9 : rd l 9 = l.getD 9 0 := rd_nat l 9 9 rfl
 have w2 : wrap64 (g16 l 2) = g16 l 2 := wrap64_id (by omega) (by omega)
 have hd := ihead_eq h
 obtain ⟨a, fa, fb⟩ := fold_both (h.take (ihead l).toNat) (by rw [List.length_take]; omega) k (by rw [List.length_take]; omega)
 have fx : norm (isum (words (l.take (ihead l).toNat))) = 65535 := hx
 rw [fx] at fb
 have m22 : ip_must.f ((65535 : Int) == 65535) 22 = some () := by unfold ip_must.f; rw [if_pos (by decide)]
 have ef : g16 l 6 / 8192 % 256 = g16 l 6 / 8192 := by omega
 have ea : Go.bits .and .u16 (g16 l 6) 8191 = g16 l 6 % 8192 := and16 13 (by omega) hb6.1 hb6.2
 unfold ip_reader_packet.f
 rw [m1, Option.bind_some, if_pos p2, e2, Option.bind_some, hd, w2, r0, if_pos o1, if_pos o2, m2, Option.bind_some, ip_reader_packet.j0, m3, Option.bind_some, if_pos p0, if_pos p1, fa, Option.bind_some, fb, Option.bind_some, m22, Option.bind_some, e6, Option.bind_some, if_pos p3, e4, Option.bind_some, if_pos p4, if_pos p5, e12, Option.bind_some, e16, Option.bind_some, if_pos o2,
  iclone_eq _ p7, Option.bind_some, if_pos o3, if_pos p6, iclone_eq _ p8, Option.bind_some, r1, r8, r9, ef, ea]
 rfl
theorem iparse_eq {l : List Int} (h : IsB l) (hl : l.length ≤ 1000000000) (k : Nat) (hk : l.length + 5 < k) : ip_Parse.f k l = some (iseg l) := by
 have hh := ihead_range l
 have hg := g16_range h 2
 have hd := ihead_eq h
 have r0 : rd l 0 = l.getD 0 0 := rd_nat l 0 0 rfl
 unfold ip_Parse.f iseg
 by_cases c1 : l.length < 20
 ·rw [if_pos (by omega), if_pos c1]
 ·have e2 := itwo_eq h 2 (by omega) hl
  rw [show ((2 : Nat) : Int) = 2 from rfl] at e2
  have w2 : wrap64 (g16 l 2) = g16 l 2 := wrap64_id (by omega) (by omega)
  rw [if_neg (by omega), if_neg c1, e2, Option.bind_some, hd, w2, r0]
  by_cases c2 : iodd l
  ·rw [if_neg c2, if_pos c2]
  ·rw [if_pos (Decidable.not_not.mp c2), if_neg c2]
   by_cases c3 : (l.length : Int) < g16 l 2
   ·rw [if_pos c3, if_pos c3]
   ·rw [if_neg c3, if_neg c3]
    obtain ⟨a, fa, fb⟩ := fold_both (h.take (ihead l).toNat) (by rw [List.length_take]; omega) k (by rw [List.length_take]; omega)
    rw [fa, Option.bind_some, fb, Option.bind_some]
    by_cases c4 : isumof l = 65535
    ·have fx : norm (isum (words (l.take (ihead l).toNat))) = 65535 := c4
     rw [if_pos fx, if_neg (fun hne => hne c4), ipacket_eq h hl (by omega) c2 c3 c4 k hk, Option.bind_some]
     rfl
    ·have fx : ¬ norm (isum (words (l.take (ihead l).toNat))) = 65535 := c4
     rw [if_neg fx, if_pos c4]
theorem riparse_eq {l : List Int} (h : IsB l) (hl : l.length ≤ 1000000000) (k : Nat) (hk : l.length + 9 < k) : lychref1_Ip.f k l = some (iseg l) := by
 obtain ⟨k, rfl⟩ : ∃ j, k = j + 2 := ⟨k - 2, by omega⟩
 have hh := ihead_range l
 have hg := g16_range h 2
 have hb6 := g16_range h 6
 have hd := ihead_eq2 h
 have r0 : rd l 0 = l.getD 0 0 := rd_nat l 0 0 rfl
 unfold lychref1_Ip.f iseg
 by_cases c1 : l.length < 20
 ·rw [if_pos (by omega), if_pos c1]
 ·have e2 := get16_eq h 2 (by omega) hl
  rw [show ((2 : Nat) : Int) = 2 from rfl] at e2
  have w2 : wrap64 (g16 l 2) = g16 l 2 := wrap64_id (by omega) (by omega)
  rw [if_neg (by omega), if_neg c1, if_pos (by omega), e2, Option.bind_some, hd, w2, r0]
  by_cases c2 : iodd l
  ·rw [if_pos c2]
   by_cases d1 : l.getD 0 0 / 16 = 4
   ·rw [if_pos d1]
    by_cases d2 : ihead l < 20
    ·rw [if_pos d2, lychref1_Ip.j0, if_pos rfl]
    ·have d3 : g16 l 2 < ihead l := by
      refine Decidable.byContradiction fun hne => c2 ⟨d1, by omega, by omega⟩
     rw [if_neg d2, decide_eq_true d3, lychref1_Ip.j0, if_pos rfl]
   ·rw [if_neg d1, lychref1_Ip.j0, if_pos rfl]
  ·have ho' : l.getD 0 0 / 16 = 4 ∧ ihead l ≥ 20 ∧ g16 l 2 ≥ ihead l := Decidable.not_not.mp c2
   obtain ⟨o1, o2, o3⟩ := ho'
   rw [if_neg c2, if_pos o1, if_neg (by omega), decide_eq_false (by omega), lychref1_Ip.j0, if_neg (by decide)]
   by_cases c3 : (l.length : Int) < g16 l 2
   ·rw [if_pos c3]
    by_cases d4 : (l.length : Int) < ihead l
    ·rw [if_pos d4, lychref1_Ip.j1, if_pos rfl]
    ·rw [if_neg d4, decide_eq_true c3, lychref1_Ip.j1, if_pos rfl]
   ·rw [if_neg c3, if_neg (by omega), decide_eq_false c3, lychref1_Ip.j1, if_neg (by decide), if_pos (by omega), if_pos (by omega)]
    obtain ⟨a, fa, fb⟩ := rfold_both (h.take (ihead l).toNat) (by rw [List.length_take]; omega) k (by rw [List.length_take]; omega)
    rw [fa, Option.bind_some, fb, Option.bind_some]
    by_cases c4 : isumof l = 65535
    ·have fx : norm (isum (words (l.take (ihead l).toNat))) = 65535 := c4
     have e4 := get16_eq h 4 (by omega) hl
     have e6 := get16_eq h 6 (by omega) hl
     have e12 := get32_eq h 12 (by omega) hl
     have e16 := get32_eq h 16 (by omega) hl
     rw [show ((4 : Nat) : Int) = 4 from rfl] at e4
     rw [show ((6 : Nat) : Int) = 6 from rfl] at e6
     rw [show ((12 : Nat) : Int) = 12 from rfl] at e12
     rw [show ((16 : Nat) : Int) = 16 from rfl] at e16
     have r1 : rd l 1 = l.getD 1 0 := rd_nat l 1 1 rfl
     have r8 : rd l 8 = l.getD 8 0 := rd_nat l 8 8 rfl
     have r9 : rd l 9 = l.getD 9 0 := rd_nat l 9 9 rfl
     have f1 := cut_eq l 20 (ihead l).toNat (by omega) (by omega) hl
     have f2 := cut_eq l (ihead l).toNat (g16 l 2).toNat (by omega) (by omega) hl
     rw [show ((20 : Nat) : Int) = 20 from rfl, Int.toNat_of_nonneg (by omega)] at f1
     rw [Int.toNat_of_nonneg (by omega), Int.toNat_of_nonneg (by omega)] at f2
     have ef : g16 l 6 / 8192 % 256 = g16 l 6 / 8192 := by omega
     have ea : Go.bits .and .u16 (g16 l 6) 8191 = g16 l 6 % 8192 := and16 13 (by omega) hb6.1 hb6.2
     rw [if_pos fx, if_neg (fun hne => hne c4), e6, Option.bind_some, if_pos (by omega), e4, Option.bind_some, if_pos (by omega), if_pos (by omega), e12, Option.bind_some, e16, Option.bind_some, f1, Option.bind_some, f2, Option.bind_some, r1, r8, r9, ef, ea]
    ·have fx : ¬ norm (isum (words (l.take (ihead l).toNat))) = 65535 := c4
     rw [if_neg fx, if_pos c4]
end Go.Proofs.Ytkmimamminddiaa.Pure
/- Bytes of packets: what the proofs of the laws on packets share. -/
namespace Go.Proofs.Ytkmimamminddiaa.Pure
set_option linter.unusedVariables false
set_option linter.unusedSimpArgs false
open Go.RowKit Go.Proofs.Ytkmimamminddiaa.PB Go.Proofs.YtkmimamminddiaaW.PrintWords Go.Proofs.YtkmimamminddiaaW.PrintLast
open Go.Proofs.Ytkmimamminddiaa.Spec Go.Proofs.Ytkmimamminddiaa.BytesEq Go.Proofs.Ytkmimamminddiaa.SumEq
def ihd (a t pr i fl of_ s d : Int) (o l : List Int) (x : Int) : List Int := [64 + (20 + (o.length : Int)) / 4, a, (20 + (o.length : Int) + (l.length : Int)) / 256 % 256, (20 + (o.length : Int) + (l.length : Int)) % 256, i / 256 % 256, i % 256, (fl * 8192 + of_) / 256 % 256, (fl * 8192 + of_) % 256, t, pr, x / 256 % 256, x % 256, s / 16777216 % 256, s / 65536 % 256, s / 256 % 256, s % 256, d / 16777216 % 256, d / 65536 % 256, d / 256 % 256, d % 256]
theorem ihd_length (a t pr i fl of_ s d : Int) (o l : List Int) (x : Int) : (ihd a t pr i fl of_ s d o l x).length = 20 := rfl
def ick (a t pr i fl of_ s d : Int) (o l : List Int) : Int := ck (ihd a t pr i fl of_ s d o l 0 ++ o)
def ibytes (a t pr i fl of_ s d : Int) (o l : List Int) : List Int := ihd a t pr i fl of_ s d o l (ick a t pr i fl of_ s d o l) ++ o ++ l
def iwrong (fl of_ : Int) (o : List Int) : Prop := (o.length : Int) % 4 ≠ 0 ∨ (o.length : Int) > 40 ∨ fl > 7 ∨ of_ > 8191
instance (fl of_ : Int) (o : List Int) : Decidable (iwrong fl of_ o) := inferInstanceAs (Decidable (_ ∨ _))
def iout (a t pr i fl of_ s d : Int) (o l : List Int) : List Int × Int := if iwrong fl of_ o then ([], 21) else if 20 + (o.length : Int) + (l.length : Int) > 65535 then ([], 23) else (ibytes a t pr i fl of_ s d o l, 0)
section
variable {a t pr i fl of_ s d : Int} {o l : List Int}
theorem ihd_isB (ha : 0 ≤ a ∧ a ≤ 255) (ht : 0 ≤ t ∧ t ≤ 255) (hp : 0 ≤ pr ∧ pr ≤ 255) (ho : (o.length : Int) ≤ 40) (x : Int) : IsB (ihd a t pr i fl of_ s d o l x) := by
 unfold ihd
 repeat (first | exact .nil | refine .cons (by omega) ?_)
theorem ior (h4 : (o.length : Int) % 4 = 0) (h40 : (o.length : Int) ≤ 40) : Go.bits .or .u8 64 ((wrap64 (Int.tdiv (20 + (o.length : Int)) 4)) % 256) = 64 + (20 + (o.length : Int)) / 4 := by
 have e : (wrap64 (Int.tdiv (20 + (o.length : Int)) 4)) % 256 = (20 + (o.length : Int)) / 4 := by
  rw [Int.tdiv_eq_ediv_of_nonneg (by omega), wrap64_id (by omega) (by omega)]; omega
 rw [e]
 exact or_u8 6 (by omega) (by omega) (by omega) (by omega) (by omega) (by omega)
theorem ibits (hf : 0 ≤ fl ∧ fl ≤ 7) (ho : 0 ≤ of_ ∧ of_ ≤ 8191) : Go.bits .or .u16 (IntKind.u16.wrap ((IntKind.u16.wrap fl) * 8192)) of_ = fl * 8192 + of_ := by
 rw [u16w (n := fl) (by omega) (by omega), u16w (n := fl * 8192) (by omega) (by omega)]
 exact or_u16 13 (by omega) (by omega) (by omega) (by omega) (by omega) (by omega)
theorem put16_eq (l : List Int) (x : Int) (h : l.length ≤ 1000000000) : lychref1_Put16.f l x = some (l ++ [x / 256 % 256, x % 256]) := by
 unfold lychref1_Put16.f
 rw [Option.bind_some, if_pos (by simp; omega)]
theorem put32_eq (l : List Int) (x : Int) (h : l.length ≤ 1000000000) : lychref1_Put32.f l x = some (l ++ [x / 16777216 % 256, x / 65536 % 256, x / 256 % 256, x % 256]) := by
 unfold lychref1_Put32.f
 rw [Option.bind_some, if_pos (by simp; omega)]
theorem ribytes_fin (ha : 0 ≤ a ∧ a ≤ 255) (ht : 0 ≤ t ∧ t ≤ 255) (hp : 0 ≤ pr ∧ pr ≤ 255) (ho : IsB o) (h40 : (o.length : Int) ≤ 40) (hl : l.length ≤ 1000000000) (k : Nat) (hk : 100 ≤ k) {y : List Int} (hy : y = ihd a t pr i fl of_ s d o l 0 ++ o) :
  ((some (y : List Int)).bind fun y387 => ((lychref1_Of.f k y387).bind fun t390 => (if 10 < (y387.length : Int) then (if 11 < (y387.length : Int) then ((some ((y387.set (10 : Int).toNat ((t390 / 256) % 256)).set (11 : Int).toNat ((t390) % 256) : List Int)).bind fun y392 => (if y392.length + l.length < 140737488355328 then (some ((y392 ++ l), (0 : Int))) else (none))) else (none)) else (none)))) = some (ibytes a t pr i fl of_ s d o l, 0) := by
 subst hy
 have hn : (ihd a t pr i fl of_ s d o l 0 ++ o).length = 20 + o.length := by rw [List.length_append, ihd_length]
 have hset : ((ihd a t pr i fl of_ s d o l 0 ++ o).set (10 : Int).toNat (ick a t pr i fl of_ s d o l / 256 % 256)).set (11 : Int).toNat (ick a t pr i fl of_ s d o l % 256) = ihd a t pr i fl of_ s d o l (ick a t pr i fl of_ s d o l) ++ o := rfl
 have hof : lychref1_Of.f k (ihd a t pr i fl of_ s d o l 0 ++ o) = some (ick a t pr i fl of_ s d o l) := rof_eq _ ((ihd_isB ha ht hp h40 0).append ho) (by rw [hn]; omega) k (by rw [hn]; omega) (by omega)
 have hn2 : (ihd a t pr i fl of_ s d o l (ick a t pr i fl of_ s d o l) ++ o).length = 20 + o.length := by rw [List.length_append, ihd_length]
 rw [Option.bind_some, hof, Option.bind_some, if_pos (by rw [hn]; omega), if_pos (by rw [hn]; omega), Option.bind_some, hset, if_pos (by rw [hn2]; omega)]
 rfl
theorem ribytes_eq (ha : 0 ≤ a ∧ a ≤ 255) (ht : 0 ≤ t ∧ t ≤ 255) (hp : 0 ≤ pr ∧ pr ≤ 255) (hf : 0 ≤ fl) (hg : 0 ≤ of_) (ho : IsB o) (hol : o.length ≤ 1000000000) (hl : l.length ≤ 1000000000) (k : Nat) (hk : 200 ≤ k) : lychref1_IpBytes.f k a t pr i fl of_ s d o l = some (iout a t pr i fl of_ s d o l) := by
 obtain ⟨k, rfl⟩ : ∃ j, k = j + 1 := ⟨k - 1, by omega⟩
 have w1 : wrap64 (20 + (o.length : Int)) = 20 + (o.length : Int) := wrap64_id (by omega) (by omega)
 unfold lychref1_IpBytes.f
 by_cases cw : iwrong fl of_ o
 ·have hx : iout a t pr i fl of_ s d o l = ([], 21) := by unfold iout; rw [if_pos cw]
  rw [hx]
  by_cases c1 : (o.length : Int) % 4 = 0
  ·rw [if_pos c1]
   by_cases c2 : (o.length : Int) > 40
   ·rw [if_pos c2, lychref1_IpBytes.j0, if_pos rfl]
   ·rw [if_neg c2]
    by_cases c3 : fl > 7
    ·rw [if_pos c3, lychref1_IpBytes.j0, if_pos rfl]
    ·have c4 : of_ > 8191 := by unfold iwrong at cw; omega
     rw [if_neg c3, decide_eq_true c4, lychref1_IpBytes.j0, if_pos rfl]
  ·rw [if_neg c1, lychref1_IpBytes.j0, if_pos rfl]
 ·have cx : (o.length : Int) % 4 = 0 ∧ (o.length : Int) ≤ 40 ∧ fl ≤ 7 ∧ of_ ≤ 8191 := by unfold iwrong at cw; omega
  obtain ⟨x1, x2, x3, x4⟩ := cx
  have w2 : wrap64 (65535 - (20 + (o.length : Int))) = 65535 - (20 + (o.length : Int)) := wrap64_id (by omega) (by omega)
  rw [if_pos x1, if_neg (by omega), if_neg (by omega), decide_eq_false (by omega), lychref1_IpBytes.j0, if_neg (by decide), w1, w2]
  unfold iout
  rw [if_neg cw]
  by_cases c5 : 20 + (o.length : Int) + (l.length : Int) > 65535
  ·rw [if_pos (by omega), if_pos c5]
  ·rw [if_neg (by omega), if_neg c5]
   have w3 : IntKind.u16.wrap (wrap64 (20 + (o.length : Int) + (l.length : Int))) = 20 + (o.length : Int) + (l.length : Int) := by rw [wrap64_id (by omega) (by omega), u16w (by omega) (by omega)]
   rw [ior x1 x2, ibits ⟨hf, x3⟩ ⟨hg, x4⟩, w3]
   rw [put16_eq _ _ (by simp), Option.bind_some, put16_eq _ _ (by simp), Option.bind_some, put16_eq _ _ (by simp), Option.bind_some, Option.bind_some, if_pos (by simp), put32_eq _ _ (by simp), Option.bind_some, put32_eq _ _ (by simp), Option.bind_some, if_pos (by simp; omega)]
   exact ribytes_fin ha ht hp ho x2 hl k (by omega) (congrArg (· ++ o) rfl)
theorem ibytes_isB (ha : 0 ≤ a ∧ a ≤ 255) (ht : 0 ≤ t ∧ t ≤ 255) (hp : 0 ≤ pr ∧ pr ≤ 255) (ho : IsB o) (hl : IsB l) (h40 : (o.length : Int) ≤ 40) : IsB (ibytes a t pr i fl of_ s d o l) := ((ihd_isB ha ht hp h40 _).append ho).append hl
theorem ibytes_length : (ibytes a t pr i fl of_ s d o l).length = 20 + o.length + l.length := by
 unfold ibytes
 rw [List.length_append, List.length_append, ihd_length]
end
end Go.Proofs.Ytkmimamminddiaa.Pure
/- Plain: a packet of few numbers: its bytes. -/
namespace Go.Proofs.Ytkmimamminddiaa.Pure
set_option linter.unusedVariables false
set_option linter.unusedSimpArgs false
open Go.RowKit Go.Proofs.Ytkmimamminddiaa.PB Go.Proofs.YtkmimamminddiaaW.PrintWords Go.Proofs.YtkmimamminddiaaW.PrintLast
open Go.Proofs.Ytkmimamminddiaa.Spec Go.Proofs.Ytkmimamminddiaa.BytesEq
theorem bits_r32 (op : BinOp) (x y : Int) : 0 ≤ Go.bits op .u32 x y ∧ Go.bits op .u32 x y ≤ 4294967295 := by
 have h : ∀ n : Int, 0 ≤ IntKind.u32.wrap n ∧ IntKind.u32.wrap n ≤ 4294967295 := fun n => by
  show 0 ≤ n % 4294967296 ∧ n % 4294967296 ≤ 4294967295
  omega
 exact h _
theorem bits_r8 (op : BinOp) (x y : Int) : 0 ≤ Go.bits op .u8 x y ∧ Go.bits op .u8 x y ≤ 255 := by
 have h : ∀ n : Int, 0 ≤ IntKind.u8.wrap n ∧ IntKind.u8.wrap n ≤ 255 := fun n => by
  show 0 ≤ n % 256 ∧ n % 256 ≤ 255
  omega
 exact h _
def U32 (x : Int) : Prop := 0 ≤ x ∧ x ≤ 4294967295
def U16 (x : Int) : Prop := 0 ≤ x ∧ x ≤ 65535
def U8 (x : Int) : Prop := 0 ≤ x ∧ x ≤ 255
theorem addr_some (a b c d : Int) : ∃ r, lychseat_Addr.f a b c d = some r ∧ U32 r := ⟨_, rfl, bits_r32 _ _ _⟩
theorem addr_bind (a b c d : Int) : ∃ r, ((lychseat_Addr.f a b c d).bind fun t => some t) = some r ∧ U32 r := addr_some a b c d
theorem inside_some (a : Int) : ∃ r, lychseat_inside.f a = some r ∧ U32 r := by
 unfold lychseat_inside.f
 split
 ·exact addr_bind _ _ _ _
 ·exact addr_bind _ _ _ _
theorem outj1 (k : Nat) (x y : Int) (b : Bool) : ∃ r, lychseat_outside.j1 (k + 1) x y b = some r ∧ U32 r := by
 rw [lychseat_outside.j1]
 split
 ·exact addr_bind _ _ _ _
 ·split
  ·exact addr_bind _ _ _ _
  ·exact addr_bind _ _ _ _
theorem outj0 (k : Nat) (x y : Int) (b : Bool) : ∃ r, lychseat_outside.j0 (k + 2) x y b = some r ∧ U32 r := by
 rw [lychseat_outside.j0]
 split
 ·exact addr_bind _ _ _ _
 ·split
  ·exact addr_bind _ _ _ _
  ·split
   ·exact addr_bind _ _ _ _
   ·split
    ·exact addr_bind _ _ _ _
    ·split
     ·exact outj1 _ _ _ _
     ·exact outj1 _ _ _ _
theorem outside_some (K : Nat) (hK : 2 ≤ K) (a b : Int) : ∃ r, lychseat_outside.f K a b = some r ∧ U32 r := by
 obtain ⟨k, rfl⟩ : ∃ j, K = j + 2 := ⟨K - 2, by omega⟩
 unfold lychseat_outside.f
 split
 ·exact outj0 _ _ _ _
 ·exact outj0 _ _ _ _
theorem port_some (a : Int) : ∃ r, lychseat_port.f a = some r ∧ U16 r := by
 have h : ∀ n : Int, U16 (IntKind.u16.wrap n) := fun n => by
  show 0 ≤ n % 65536 ∧ n % 65536 ≤ 65535
  omega
 unfold lychseat_port.f
 split
 ·exact ⟨_, rfl, h _⟩
 ·split
  ·exact ⟨_, rfl, by unfold U16; omega⟩
  ·exact ⟨_, rfl, h _⟩
theorem proto_some (a : Int) (ha : 0 ≤ a) : lychseat_proto.f a = some (rd [17, 6, 1, 17] (a.tmod 4)) ∧ (rd [17, 6, 1, 17] (a.tmod 4) = 17 ∨ rd [17, 6, 1, 17] (a.tmod 4) = 6 ∨ rd [17, 6, 1, 17] (a.tmod 4) = 1) := by
 have h1 : a.tmod 4 < 4 := Int.tmod_lt_of_pos _ (by decide)
 have h0 : 0 ≤ a.tmod 4 := Int.tmod_nonneg _ ha
 constructor
 ·unfold lychseat_proto.f
  rw [Option.bind_some, if_pos h0, if_pos (show a.tmod 4 < ((([17, 6, 1, 17] : List Int)).length : Int) from h1)]
 ·generalize a.tmod 4 = i at h1 h0 ⊢
  obtain rfl | rfl | rfl | rfl : i = 0 ∨ i = 1 ∨ i = 2 ∨ i = 3 := by omega
  ·exact .inl rfl
  ·exact .inr (.inl rfl)
  ·exact .inr (.inr rfl)
  ·exact .inl rfl
def dataS (n : Int) : List Int := abc16.take (n.tmod 16).toNat
theorem abc_isB : IsB abc16 := by
 intro x hx
 simp only [abc16, List.mem_cons, List.not_mem_nil, or_false] at hx
 omega
theorem dataS_isB (n : Int) : IsB (dataS n) := abc_isB.take _
theorem dataS_len (n : Int) : (dataS n).length ≤ 16 := by
 unfold dataS
 rw [List.length_take]
 have : abc16.length = 16 := rfl
 omega
def optS (n : Int) : List Int := if Go.bits .and .u8 n 32 = 0 then [] else [1, 1, 1, 0]
theorem optS_is (n : Int) : IsB (optS n) ∧ ((optS n).length : Int) % 4 = 0 ∧ ((optS n).length : Int) ≤ 4 := by
 unfold optS
 split
 ·exact ⟨.nil, rfl, by decide⟩
 ·refine ⟨fun x hx => ?_, rfl, by decide⟩
  simp only [List.mem_cons, List.not_mem_nil, or_false] at hx
  omega
def typS (fl : Int) : Int := if Go.bits .and .u8 fl 1 = 0 then 8 else 0
def resS (fr n : Int) : Int := Go.bits .or .u32 (fr % 4294967296 * 65536 % 4294967296) (n % 4294967296)
def bodyS (pr a b fr tp fl n : Int) : List Int :=
 if pr = 17 then ubytes fr tp (if Go.bits .and .u8 fl 64 = 0 then usum (usumS a b fr tp (dataS n)) else 0) (dataS n)
 else if pr = 6 then tbytes fr tp (n % 4294967296) 0 (Go.bits .and .u8 fl 23) 9 (65535 - norm (tT a b (tbytes fr tp (n % 4294967296) 0 (Go.bits .and .u8 fl 23) 9 0 0 (optS n) (dataS n)))) 0 (optS n) (dataS n)
 else PureI.ibytes (typS fl) 0 (ck (PureI.ibytes (typS fl) 0 0 (resS fr n) (dataS n))) (resS fr n) (dataS n)
theorem typS_r (fl : Int) : U8 (typS fl) := by
 unfold typS U8
 split <;> omega
theorem body_eq (K : Nat) (hK : 4000 ≤ K) {pr a b fr tp fl n : Int} (ha : U32 a) (hb : U32 b) (hf : U16 fr) (ht : U16 tp) : seat_body.f K pr a b fr tp fl n = some (bodyS pr a b fr tp fl n) := by
 have hd := dataS_isB n
 have hl := dataS_len n
 have ho := optS_is n
 have hfl := bits_r8 .and fl 23
 unfold seat_body.f bodyS
 by_cases c17 : pr = 17
 ·rw [if_pos c17, if_pos c17]
  by_cases c64 : Go.bits .and .u8 fl 64 = 0
  ·rw [if_pos c64, if_pos c64]
   have e1 := rusum_eq (c := 0) ha hb hf ht hd (by omega) K hK
   unfold dataS at e1 hl ⊢
   rw [e1, Option.bind_some, rubytes_eq _ _ _ (by omega), if_neg (by omega)]
   rfl
  ·rw [if_neg c64, if_neg c64]
   unfold dataS at hl ⊢
   rw [rubytes_eq _ _ _ (by omega), if_neg (by omega)]
   rfl
 ·rw [if_neg c17, if_neg c17]
  by_cases c6 : pr = 6
  ·rw [if_pos c6, if_pos c6]
   have h2 : ∀ o : List Int, IsB o → ((o.length : Int) % 4 = 0) → ((o.length : Int) ≤ 4) → ((lychref1_TcpSum.f K a b fr tp (n % 4294967296) 0 (Go.bits .and .u8 fl 23) 9 0 0 o (dataS n)).bind fun s => (lychref1_TcpBytes.f K fr tp (n % 4294967296) 0 (Go.bits .and .u8 fl 23) 9 s 0 o (dataS n)).bind fun b => some b.1) = some (tbytes fr tp (n % 4294967296) 0 (Go.bits .and .u8 fl 23) 9 (65535 - norm (tT a b (tbytes fr tp (n % 4294967296) 0 (Go.bits .and .u8 fl 23) 9 0 0 o (dataS n)))) 0 o (dataS n)) := fun o h1 h4 h40 => by
    rw [rtsum_eq ha hb hfl h1 h4 (by omega) hd (by omega) K hK, Option.bind_some, rtbytes_eq (by omega) (by omega) K (by omega), tout_ok h4 (by omega) (by omega)]
    rfl
   unfold optS at ho ⊢
   by_cases c32 : Go.bits .and .u8 n 32 = 0
   ·rw [if_pos c32] at ho ⊢
    rw [if_pos c32]
    exact h2 [] ho.1 ho.2.1 ho.2.2
   ·rw [if_neg c32] at ho ⊢
    rw [if_neg c32]
    exact h2 _ ho.1 ho.2.1 ho.2.2
  ·rw [if_neg c6, if_neg c6]
   have h2 : ∀ t : Int, U8 t → ((lychref1_IcmpSum.f K t 0 0 (resS fr n) (dataS n)).bind fun s => (lychref1_IcmpBytes.f t 0 s (resS fr n) (dataS n)).bind fun b => some b.1) = some (PureI.ibytes t 0 (ck (PureI.ibytes t 0 0 (resS fr n) (dataS n))) (resS fr n) (dataS n)) := fun t h1 => by
    rw [PureI.risumf_eq t 0 0 _ _ K hK (by omega) (PureI.ibytes_isB h1 (by omega) hd), Option.bind_some, PureI.ribytes_eq _ _ _ _ (by omega), if_neg (by omega)]
    rfl
   unfold typS
   by_cases c1 : Go.bits .and .u8 fl 1 = 0
   ·rw [if_pos c1, if_pos c1]
    exact h2 8 (by unfold U8; omega)
   ·rw [if_neg c1, if_neg c1]
    exact h2 0 (by unfold U8; omega)
theorem bodyS_is (pr a b fr tp fl n : Int) : IsB (bodyS pr a b fr tp fl n) ∧ (bodyS pr a b fr tp fl n).length ≤ 50 := by
 have hd := dataS_isB n
 have hl := dataS_len n
 have ho := optS_is n
 unfold bodyS
 split
 ·exact ⟨ubytes_isB hd, by rw [ubytes_length]; omega⟩
 ·split
  ·exact ⟨tbytes_isB (bits_r8 _ _ _) ho.1 hd, by rw [tbytes_length]; omega⟩
  ·exact ⟨PureI.ibytes_isB (typS_r fl) (by omega) hd, by rw [PureI.ibytes_length]; omega⟩
def errT (p8 : Int) : Int := rd [3, 11, 12] (p8.tmod 3)
theorem errT_is (p8 : Int) : errT p8 = 3 ∨ errT p8 = 11 ∨ errT p8 = 12 ∨ errT p8 = 0 := by
 unfold errT rd
 generalize (p8.tmod 3).toNat = i
 match i with
 | 0 => exact .inl rfl
 | 1 => exact .inr (.inl rfl)
 | 2 => exact .inr (.inr (.inl rfl))
 | n + 3 => exact .inr (.inr (.inr rfl))
def errIn (pr s d fr tp p5 p8 : Int) : List Int := ibytes 0 3 pr 0 0 0 d s [] (bodyS pr d s tp fr p5 p8)
def errS (pr s d fr tp p5 p8 : Int) : List Int := PureI.ibytes (errT p8) 0 (ck (PureI.ibytes (errT p8) 0 0 0 (errIn pr s d fr tp p5 p8))) 0 (errIn pr s d fr tp p5 p8)
theorem ip_ok {a t pr i fl of_ s d : Int} {o l : List Int} (hf : fl ≤ 7) (hg : of_ ≤ 8191) (h4 : (o.length : Int) % 4 = 0) (h40 : (o.length : Int) ≤ 40) (hl : (l.length : Int) ≤ 3000) : iout a t pr i fl of_ s d o l = (ibytes a t pr i fl of_ s d o l, 0) := by
 unfold iout
 rw [if_neg (by unfold iwrong; omega), if_neg (by omega)]
theorem errIn_is {pr s d fr tp p5 p8 : Int} (hp : U8 pr) : IsB (errIn pr s d fr tp p5 p8) ∧ (errIn pr s d fr tp p5 p8).length ≤ 70 := by
 obtain ⟨h1, h2⟩ := bodyS_is pr d s tp fr p5 p8
 unfold errIn
 refine ⟨ibytes_isB (by omega) (by omega) hp .nil h1 (by decide), ?_⟩
 rw [ibytes_length]
 have : ([] : List Int).length = 0 := rfl
 omega
theorem errT_r (p8 : Int) : U8 (errT p8) := by
 have := errT_is p8
 unfold U8
 omega
theorem errS_is {pr s d fr tp p5 p8 : Int} (hp : U8 pr) : IsB (errS pr s d fr tp p5 p8) ∧ (errS pr s d fr tp p5 p8).length ≤ 80 := by
 obtain ⟨h1, h2⟩ := errIn_is (s := s) (d := d) (fr := fr) (tp := tp) (p5 := p5) (p8 := p8) hp
 unfold errS
 exact ⟨PureI.ibytes_isB (errT_r p8) (by omega) h1, by rw [PureI.ibytes_length]; omega⟩
theorem er_eq (K : Nat) (hK : 4000 ≤ K) {pr s d fr tp p5 p7 p8 : Int} {x : List Int} (hp : U8 pr) (hs : U32 s) (hd : U32 d) (hf : U16 fr) (ht : U16 tp) : seat_packet.er K pr s d fr tp p5 p7 p8 x = some (if p7.tmod 5 = 4 then (1, errS pr s d fr tp p5 p8) else (pr, x)) := by
 unfold seat_packet.er
 by_cases c : p7.tmod 5 = 4
 ·rw [if_pos c, if_pos c]
  obtain ⟨b1, b2⟩ := bodyS_is pr d s tp fr p5 p8
  obtain ⟨e1, e2⟩ := errIn_is (s := s) (d := d) (fr := fr) (tp := tp) (p5 := p5) (p8 := p8) hp
  rw [body_eq K hK hd hs ht hf, Option.bind_some, ribytes_eq (by omega) (by omega) hp (by omega) (by omega) .nil (by decide) (by omega) K (by omega), ip_ok (by omega) (by omega) rfl (by decide) (by omega), Option.bind_some]
  dsimp only
  have e3 := PureI.risumf_eq (rd [3, 11, 12] (p8.tmod 3)) 0 0 0 (errIn pr s d fr tp p5 p8) K hK (by omega) (PureI.ibytes_isB (errT_r p8) (by omega) e1)
  unfold errIn at e3 e2
  rw [e3, Option.bind_some, PureI.ribytes_eq _ _ _ _ (by omega), if_neg (by omega), Option.bind_some]
  rfl
 ·rw [if_neg c, if_neg c]
theorem sw_is (p6 pr : Int) (hp : U8 pr) : ∃ t pr2 fl of_ o, seat_packet.sw p6 pr = (t, pr2, fl, of_, o) ∧ U8 t ∧ U8 pr2 ∧ (0 ≤ fl ∧ fl ≤ 2) ∧ (0 ≤ of_ ∧ of_ ≤ 5) ∧ IsB o ∧ (o.length : Int) % 4 = 0 ∧ (o.length : Int) ≤ 4 := by
 have h64 : U8 64 := by unfold U8; omega
 unfold seat_packet.sw
 split
 ·exact ⟨_, _, _, _, _, rfl, by unfold U8; omega, hp, by omega, by omega, .nil, rfl, by decide⟩
 ·split
  ·exact ⟨_, _, _, _, _, rfl, h64, hp, by omega, by omega, .nil, rfl, by decide⟩
  ·split
   ·exact ⟨_, _, _, _, _, rfl, h64, hp, by omega, by omega, .nil, rfl, by decide⟩
   ·split
    ·exact ⟨_, _, _, _, _, rfl, h64, by unfold U8; omega, by omega, by omega, .nil, rfl, by decide⟩
    ·split
     ·refine ⟨_, _, _, _, _, rfl, h64, hp, by omega, by omega, fun x hx => ?_, rfl, by decide⟩
      simp only [List.mem_cons, List.not_mem_nil, or_false] at hx
      omega
     ·exact ⟨_, _, _, _, _, rfl, h64, hp, by omega, by omega, .nil, rfl, by decide⟩
theorem sp_is {p8 p9 : Int} {b : List Int} (h : IsB b) : IsB (seat_packet.sp p8 p9 b) ∧ (seat_packet.sp p8 p9 b).length = b.length := by
 unfold seat_packet.sp
 split
 ·split
  ·exact ⟨h.set _ (bits_r8 _ _ _), by rw [List.length_set]⟩
  ·exact ⟨h, rfl⟩
 ·exact ⟨h, rfl⟩
theorem packet_told (K : Nat) (hK : 4000 ≤ K) (p0 p1 p2 p3 p4 p5 p6 p7 p8 p9 side n : Int) (h0 : 0 ≤ p0) : ∃ s d fr tp, U32 s ∧ U32 d ∧ U16 fr ∧ U16 tp ∧ lychseat_port.f p3 = some fr ∧ lychseat_port.f p4 = some tp ∧
  seat_packet.f K p0 p1 p2 p3 p4 p5 p6 p7 p8 p9 side n = some (seat_packet.sp p8 p9 (ibytes 0 (seat_packet.sw p6 (if p7.tmod 5 = 4 then 1 else rd [17, 6, 1, 17] (p0.tmod 4))).1 (seat_packet.sw p6 (if p7.tmod 5 = 4 then 1 else rd [17, 6, 1, 17] (p0.tmod 4))).2.1 (IntKind.u16.wrap p8) (seat_packet.sw p6 (if p7.tmod 5 = 4 then 1 else rd [17, 6, 1, 17] (p0.tmod 4))).2.2.1 (seat_packet.sw p6 (if p7.tmod 5 = 4 then 1 else rd [17, 6, 1, 17] (p0.tmod 4))).2.2.2.1 s d (seat_packet.sw p6 (if p7.tmod 5 = 4 then 1 else rd [17, 6, 1, 17] (p0.tmod 4))).2.2.2.2 (if p7.tmod 5 = 4 then errS (rd [17, 6, 1, 17] (p0.tmod 4)) s d fr tp p5 p8 else bodyS (rd [17, 6, 1, 17] (p0.tmod 4)) s d fr tp p5 p8))) := by
 obtain ⟨s0, e1, hs0⟩ := inside_some p1
 obtain ⟨d0, e2, hd0⟩ := outside_some K (by omega) p2 (n % 256)
 obtain ⟨s, d, e3, hs, hd⟩ : ∃ s d, seat_packet.sd K p1 p2 side n s0 d0 = some (s, d) ∧ U32 s ∧ U32 d := by
  unfold seat_packet.sd
  split
  ·exact ⟨_, _, rfl, hs0, hd0⟩
  ·obtain ⟨s1, f1, hs1⟩ := outside_some K (by omega) p1 (n % 256)
   obtain ⟨d1, f2, hd1⟩ := outside_some K (by omega) ((5 + p2.tmod 3) % 256) (n % 256)
   rw [f1, Option.bind_some, f2, Option.bind_some]
   exact ⟨_, _, rfl, hs1, hd1⟩
 obtain ⟨e4, hpr⟩ := proto_some p0 h0
 obtain ⟨fr, e5, hfr⟩ := port_some p3
 obtain ⟨tp, e6, htp⟩ := port_some p4
 refine ⟨s, d, fr, tp, hs, hd, hfr, htp, e5, e6, ?_⟩
 unfold seat_packet.f
 rw [e1, Option.bind_some, e2, Option.bind_some, e3, Option.bind_some, e4, Option.bind_some, e5, Option.bind_some, e6, Option.bind_some]
 generalize rd [17, 6, 1, 17] (p0.tmod 4) = pr at hpr ⊢
 have hp8 : U8 pr := by unfold U8; omega
 dsimp only
 rw [body_eq K hK hs hd hfr htp, Option.bind_some, er_eq K hK hp8 hs hd hfr htp, Option.bind_some]
 have b1 := bodyS_is pr s d fr tp p5 p8
 have b2 := errS_is (s := s) (d := d) (fr := fr) (tp := tp) (p5 := p5) (p8 := p8) hp8
 by_cases c : p7.tmod 5 = 4
 ·rw [if_pos c, if_pos c, if_pos c]
  obtain ⟨t, pr2, fl, of_, o, es, ht, hp2, hfl, hof, ho, h4, h40⟩ := sw_is p6 1 (by unfold U8; omega)
  dsimp only
  rw [es, ribytes_eq (by omega) ht hp2 hfl.1 hof.1 ho (by omega) (by omega) K (by omega), ip_ok (by omega) (by omega) h4 (by omega) (by omega), Option.bind_some]
 ·rw [if_neg c, if_neg c, if_neg c]
  obtain ⟨t, pr2, fl, of_, o, es, ht, hp2, hfl, hof, ho, h4, h40⟩ := sw_is p6 pr hp8
  dsimp only
  rw [es, ribytes_eq (by omega) ht hp2 hfl.1 hof.1 ho (by omega) (by omega) K (by omega), ip_ok (by omega) (by omega) h4 (by omega) (by omega), Option.bind_some]
theorem packet_some (K : Nat) (hK : 4000 ≤ K) (p0 p1 p2 p3 p4 p5 p6 p7 p8 p9 side n : Int) (h0 : 0 ≤ p0) : ∃ r, seat_packet.f K p0 p1 p2 p3 p4 p5 p6 p7 p8 p9 side n = some r ∧ IsB r ∧ r.length ≤ 110 := by
 obtain ⟨s, d, fr, tp, hs, hd, hfr, htp, _, _, e⟩ := packet_told K hK p0 p1 p2 p3 p4 p5 p6 p7 p8 p9 side n h0
 refine ⟨_, e, ?_⟩
 have hpr := (proto_some p0 h0).2
 generalize rd [17, 6, 1, 17] (p0.tmod 4) = pr at hpr ⊢
 have hp8 : U8 pr := by unfold U8; omega
 have hq : U8 (if p7.tmod 5 = 4 then 1 else pr) := by
  split
  ·unfold U8; omega
  ·exact hp8
 generalize (if p7.tmod 5 = 4 then 1 else pr) = q at hq ⊢
 obtain ⟨t, pr2, fl, of_, o, es, ht, hp2, hfl, hof, ho, h4, h40⟩ := sw_is p6 q hq
 rw [es]
 have hx : IsB (if p7.tmod 5 = 4 then errS pr s d fr tp p5 p8 else bodyS pr s d fr tp p5 p8) ∧ (if p7.tmod 5 = 4 then errS pr s d fr tp p5 p8 else bodyS pr s d fr tp p5 p8).length ≤ 80 := by
  split
  ·exact errS_is hp8
  ·obtain ⟨b1, b2⟩ := bodyS_is pr s d fr tp p5 p8
   exact ⟨b1, by omega⟩
 generalize (if p7.tmod 5 = 4 then errS pr s d fr tp p5 p8 else bodyS pr s d fr tp p5 p8) = x at hx ⊢
 have hb : IsB (ibytes 0 t pr2 (IntKind.u16.wrap p8) fl of_ s d o x) := ibytes_isB (by omega) ht hp2 ho hx.1 (by omega)
 obtain ⟨g1, g2⟩ := sp_is (p8 := p8) (p9 := p9) hb
 refine ⟨g1, ?_⟩
 rw [g2, ibytes_length]
 omega
end Go.Proofs.Ytkmimamminddiaa.Pure
/- EthReads, EthOnce, EthBounds, EthBack: the plain statements: for all frames the printed laws return true. -/
namespace Go.Proofs.Ytkmimamminddiaa.Pure
set_option linter.unusedVariables false
set_option linter.unusedSimpArgs false
open Go.RowKit Go.Proofs.Ytkmimamminddiaa.PB Go.Proofs.YtkmimamminddiaaW.PrintWords Go.Proofs.YtkmimamminddiaaW.PrintLast
open Go.Proofs.Ytkmimamminddiaa.Spec Go.Proofs.Ytkmimamminddiaa.BytesEq
theorem w12 : wrap64 (1 + 1) = 2 := wrap64_id (by omega) (by omega)
theorem w23 : wrap64 (2 + 1) = 3 := wrap64_id (by omega) (by omega)
theorem w34 : wrap64 (3 + 1) = 4 := wrap64_id (by omega) (by omega)
def eseg (l : List Int) : Int × Int × Int × Int × Int × Int × Int × Int × Int × Int × Int × Int × Int × List Int × Int :=
 if (l.length : Int) > 1600 then (0, 0, 0, 0, 0, 0, 0, 0, 0, 0, 0, 0, 0, [], 23) else if (l.length : Int) < 14 then (0, 0, 0, 0, 0, 0, 0, 0, 0, 0, 0, 0, 0, [], 20) else (l.getD 0 0, l.getD 1 0, l.getD 2 0, l.getD 3 0, l.getD 4 0, l.getD 5 0, l.getD 6 0, l.getD 7 0, l.getD 8 0, l.getD 9 0, l.getD 10 0, l.getD 11 0, g16 l 12, l.drop 14, 0)
theorem eparse_eq {l : List Int} (h : IsB l) (hl : l.length ≤ 1000000000) : eth_Parse.f l = some (eseg l) := by
 unfold eth_Parse.f eseg
 by_cases c1 : (l.length : Int) > 1600
 ·rw [if_pos c1, if_pos c1]
 ·rw [if_neg c1, if_neg c1]
  by_cases c2 : (l.length : Int) < 14
  ·rw [if_pos c2, if_pos c2]
  ·rw [if_neg c2, if_neg c2, clone_eq _ (by rw [List.length_drop]; omega), Option.bind_some, rd_nat l 12 12 rfl, rd_nat l 13 13 rfl, word16 (h.getD 12) (h.getD 13)]
   rfl
theorem reparse_eq {l : List Int} (h : IsB l) (hl : l.length ≤ 1000000000) : lychref1_Eth.f l = some (eseg l) := by
 unfold lychref1_Eth.f eseg
 by_cases c1 : (l.length : Int) > 1600
 ·rw [if_pos c1, if_pos c1]
 ·rw [if_neg c1, if_neg c1]
  by_cases c2 : (l.length : Int) < 14
  ·rw [if_pos c2, if_pos c2]
  ·have e12 := get16_eq h 12 (by omega) hl
   rw [show ((12 : Nat) : Int) = 12 from rfl] at e12
   have f1 := cut_eq l 14 l.length (by omega) (by omega) hl
   rw [show ((14 : Nat) : Int) = 14 from rfl, List.take_length] at f1
   rw [if_neg c2, if_neg c2, e12, Option.bind_some, f1, Option.bind_some]
   rfl
def ebytes (a0 a1 a2 a3 a4 a5 a6 a7 a8 a9 a10 a11 t : Int) (l : List Int) : List Int := [a0, a1, a2, a3, a4, a5] ++ ([a6, a7, a8, a9, a10, a11] ++ ([t / 256 % 256, t % 256] ++ l))
def eout (a0 a1 a2 a3 a4 a5 a6 a7 a8 a9 a10 a11 t : Int) (l : List Int) : List Int × Int := if (l.length : Int) > 1586 then ([], 23) else (ebytes a0 a1 a2 a3 a4 a5 a6 a7 a8 a9 a10 a11 t l, 0)
theorem eput16_eq (l : List Int) (x : Int) (h : l.length ≤ 1000000000) : lychref1_Put16.f l x = some (l ++ [x / 256 % 256, x % 256]) := by
 unfold lychref1_Put16.f
 rw [Option.bind_some, if_pos (by simp; omega)]
section
variable {a0 a1 a2 a3 a4 a5 a6 a7 a8 a9 a10 a11 t : Int} {l : List Int}
theorem rebytes_eq (hl : l.length ≤ 1000000000) : lychref1_EthBytes.f a0 a1 a2 a3 a4 a5 a6 a7 a8 a9 a10 a11 t l = some (eout a0 a1 a2 a3 a4 a5 a6 a7 a8 a9 a10 a11 t l) := by
 unfold lychref1_EthBytes.f eout
 by_cases c1 : (l.length : Int) > 1586
 ·rw [if_pos c1, if_pos c1]
 ·rw [if_neg c1, if_neg c1, eput16_eq _ _ (by simp), Option.bind_some, if_pos (by simp; omega)]
  rfl
theorem ebytes_length : (ebytes a0 a1 a2 a3 a4 a5 a6 a7 a8 a9 a10 a11 t l).length = 14 + l.length := by
 unfold ebytes
 simp only [List.length_append, List.length_cons, List.length_nil]
 omega
end
end Go.Proofs.Ytkmimamminddiaa.Pure
/- VxlanReads, VxlanBits, VxlanBack, VxlanBounds, the plain statements: for all bytes, networks and lengths the printed laws return true. -/
namespace Go.Proofs.Ytkmimamminddiaa.Pure
set_option linter.unusedVariables false
set_option linter.unusedSimpArgs false
open Go.RowKit Go.Proofs.Ytkmimamminddiaa.PB Go.Proofs.YtkmimamminddiaaW.PrintWords Go.Proofs.YtkmimamminddiaaW.PrintLast
open Go.Proofs.Ytkmimamminddiaa.Spec Go.Proofs.Ytkmimamminddiaa.BytesEq
theorem vparse_eq {l : List Int} (h : IsB l) (hl : l.length ≤ 1000000000) : vxlan_Parse.f l =
  if l.length < 8 then some (0, [], 20) else if Go.bits .and .u8 (l.getD 0 0) 8 = 0 then some (0, [], 21) else some ((l.getD 4 0 * 256 + l.getD 5 0) * 256 + l.getD 6 0, l.drop 8, 0) := by
 unfold vxlan_Parse.f
 by_cases h8 : l.length < 8
 ·rw [if_pos (by omega), if_pos h8]
 ·have hlen : ((l.take 7).drop 4).length = 3 := by rw [List.length_drop, List.length_take]; omega
  rw [if_neg (by omega), if_neg h8, if_pos (by omega), rd_nat l 0 0 rfl]
  by_cases hb : Go.bits .and .u8 (l.getD 0 0) 8 = 0
  ·rw [if_pos hb, if_pos hb]
  ·have h4 := h.getD 4
   have h5 := h.getD 5
   have h6 := h.getD 6
   rw [if_neg hb, if_neg hb, hlen, if_pos (by omega), if_pos (by omega), if_pos (by omega), if_pos (by omega), if_pos (by omega), clone_eq _ (by rw [List.length_drop]; omega)]
   simp only [Option.bind_some]
   rw [rd_mid l 4 7 0 0 rfl (by omega), rd_mid l 4 7 1 1 rfl (by omega), rd_mid l 4 7 2 2 rfl (by omega)]
   rw [show 4 + 0 = 4 from rfl, show 4 + 1 = 5 from rfl, show 4 + 2 = 6 from rfl, show l.getD 4 0 % 4294967296 = l.getD 4 0 from by omega, show l.getD 5 0 % 4294967296 = l.getD 5 0 from by omega, show l.getD 6 0 % 4294967296 = l.getD 6 0 from by omega]
   rw [show l.getD 4 0 * 65536 % 4294967296 = l.getD 4 0 * 65536 from by omega, show l.getD 5 0 * 256 % 4294967296 = l.getD 5 0 * 256 from by omega]
   rw [or_u32 16 (x := l.getD 4 0 * 65536) (y := l.getD 5 0 * 256) (by omega) (by omega) (by omega) (by omega) (by omega) (by omega)]
   rw [or_u32 8 (x := l.getD 4 0 * 65536 + l.getD 5 0 * 256) (y := l.getD 6 0) (by omega) (by omega) (by omega) (by omega) (by omega) (by omega)]
   congr 2
   omega
theorem rvparse_eq {l : List Int} (h : IsB l) (hl : l.length ≤ 1000000000) : lychref1_Vxlan.f l =
  if l.length < 8 then some (0, [], 20) else if Go.bits .and .u8 (l.getD 0 0) 8 = 0 then some (0, [], 21) else some ((l.getD 4 0 * 256 + l.getD 5 0) * 256 + l.getD 6 0, l.drop 8, 0) := by
 unfold lychref1_Vxlan.f
 by_cases h8 : l.length < 8
 ·rw [if_pos (by omega), if_pos h8]
 ·rw [if_neg (by omega), if_neg h8, if_pos (by omega), rd_nat l 0 0 rfl]
  by_cases hz : Go.bits .and .u8 (l.getD 0 0) 8 = 0
  ·rw [if_pos hz, if_pos hz]
  ·rw [if_neg hz, if_neg hz]
   have e4 := get32_eq h 4 (by omega) (by omega)
   have e8 := cut_eq l 8 l.length (by omega) (by omega) (by omega)
   rw [show ((4 : Nat) : Int) = 4 from rfl] at e4
   rw [show ((8 : Nat) : Int) = 8 from rfl] at e8
   rw [e4, e8]
   simp only [Option.bind_some, List.take_length]
   have h4 := h.getD 4
   have h5 := h.getD 5
   have h6 := h.getD 6
   have h7 := h.getD 7
   have e : g32 l 4 / 256 = (l.getD 4 0 * 256 + l.getD 5 0) * 256 + l.getD 6 0 := by
    show ((l.getD 4 0 * 256 + l.getD 5 0) * 65536 + (l.getD 6 0 * 256 + l.getD 7 0)) / 256 = _
    omega
   rw [e]
theorem rvbytes_eq {v : Int} (hv : 0 ≤ v ∧ v ≤ 4294967295) {l : List Int} (hl : l.length ≤ 1000000000) : lychref1_VxlanBytes.f v l =
  if v > 16777215 then some ([], 21) else if (l.length : Int) > 1592 then some ([], 23) else some ([8, 0, 0, 0, v / 65536 % 256, v / 256 % 256, v % 256, 0] ++ l, 0) := by
 unfold lychref1_VxlanBytes.f lychref1_Put32.f
 split
 ·rfl
 ·split
  ·rfl
  ·simp only [Option.bind_some, List.length_cons, List.length_nil]
   rw [if_pos (by omega)]
   simp only [Option.bind_some, List.cons_append, List.nil_append, List.length_cons, List.length_nil]
   rw [if_pos (by omega)]
   congr 2
   rw [show v * 256 % 4294967296 / 16777216 % 256 = v / 65536 % 256 from by omega, show v * 256 % 4294967296 / 65536 % 256 = v / 256 % 256 from by omega, show v * 256 % 4294967296 / 256 % 256 = v % 256 from by omega, show v * 256 % 4294967296 % 256 = 0 from by omega]
end Go.Proofs.Ytkmimamminddiaa.Pure
/- Plain: what is read out of bytes lies in its bounds. -/
namespace Go.Proofs.Ytkmimamminddiaa.Pure
set_option linter.unusedVariables false
set_option linter.unusedSimpArgs false
open Go.RowKit Go.Proofs.Ytkmimamminddiaa.PB Go.Proofs.YtkmimamminddiaaW.PrintWords Go.Proofs.YtkmimamminddiaaW.PrintLast
open Go.Proofs.Ytkmimamminddiaa.Spec Go.Proofs.Ytkmimamminddiaa.BytesEq
theorem eseg_is {l : List Int} (h : IsB l) : ∃ x0 x1 x2 x3 x4 x5 x6 x7 x8 x9 x10 x11 ty bd e, eseg l = (x0, x1, x2, x3, x4, x5, x6, x7, x8, x9, x10, x11, ty, bd, e) ∧ IsB bd ∧ bd.length ≤ l.length := by
 unfold eseg
 split
 ·exact ⟨_, _, _, _, _, _, _, _, _, _, _, _, _, _, _, rfl, .nil, Nat.zero_le _⟩
 ·split
  ·exact ⟨_, _, _, _, _, _, _, _, _, _, _, _, _, _, _, rfl, .nil, Nat.zero_le _⟩
  ·exact ⟨_, _, _, _, _, _, _, _, _, _, _, _, _, _, _, rfl, h.drop _, by rw [List.length_drop]; omega⟩
theorem u8_0 : U8 0 := by unfold U8; omega
theorem u16_0 : U16 0 := by unfold U16; omega
theorem u32_0 : U32 0 := by unfold U32; omega
theorem iseg_is {l : List Int} (h : IsB l) : ∃ a t pr i fl of_ s d o b e, iseg l = (a, t, pr, i, fl, of_, s, d, o, b, e) ∧ U8 a ∧ U8 t ∧ U8 pr ∧ U16 i ∧ (0 ≤ fl ∧ fl ≤ 7) ∧ (0 ≤ of_ ∧ of_ ≤ 8191) ∧ U32 s ∧ U32 d ∧ IsB o ∧ (o.length : Int) % 4 = 0 ∧ (o.length : Int) ≤ 40 ∧ IsB b ∧ b.length ≤ l.length := by
 have hn : ∀ e : Int, ∃ a t pr i fl of_ s d o b e', ((0 : Int), (0 : Int), (0 : Int), (0 : Int), (0 : Int), (0 : Int), (0 : Int), (0 : Int), ([] : List Int), ([] : List Int), e) = (a, t, pr, i, fl, of_, s, d, o, b, e') ∧ U8 a ∧ U8 t ∧ U8 pr ∧ U16 i ∧ (0 ≤ fl ∧ fl ≤ 7) ∧ (0 ≤ of_ ∧ of_ ≤ 8191) ∧ U32 s ∧ U32 d ∧ IsB o ∧ (o.length : Int) % 4 = 0 ∧ (o.length : Int) ≤ 40 ∧ IsB b ∧ b.length ≤ l.length := fun e =>
  ⟨0, 0, 0, 0, 0, 0, 0, 0, [], [], e, rfl, u8_0, u8_0, u8_0, u16_0, by omega, by omega, u32_0, u32_0, .nil, rfl, by decide, .nil, Nat.zero_le _⟩
 have hh := ihead_range l
 have h4 : ihead l % 4 = 0 := by unfold ihead; omega
 have h6 := g16_range h 6
 unfold iseg
 by_cases c1 : l.length < 20
 ·rw [if_pos c1]; exact hn _
 ·rw [if_neg c1]
  by_cases c2 : iodd l
  ·rw [if_pos c2]; exact hn _
  ·rw [if_neg c2]
   by_cases c3 : (l.length : Int) < g16 l 2
   ·rw [if_pos c3]; exact hn _
   ·rw [if_neg c3]
    by_cases c4 : isumof l ≠ 65535
    ·rw [if_pos c4]; exact hn _
    ·rw [if_neg c4]
     have c5 : l.getD 0 0 / 16 = 4 ∧ ihead l ≥ 20 ∧ g16 l 2 ≥ ihead l := by
      unfold iodd at c2
      exact Decidable.not_not.1 c2
     have ho : (((l.take (ihead l).toNat).drop 20).length : Int) = ihead l - 20 := by
      rw [List.length_drop, List.length_take]
      omega
     refine ⟨_, _, _, _, _, _, _, _, _, _, _, rfl, h.getD _, h.getD _, h.getD _, g16_range h 4, ⟨by omega, by omega⟩, ⟨by omega, by omega⟩, g32_range h 12, g32_range h 16, (h.take _).drop _, by omega, by omega, (h.take _).drop _, ?_⟩
     rw [List.length_drop, List.length_take]
     omega
theorem udg_is {l : List Int} (h : IsB l) : ∃ s d c b e, udg l = (s, d, c, b, e) ∧ U16 s ∧ U16 d ∧ U16 c ∧ IsB b ∧ b.length ≤ l.length := by
 unfold udg
 split
 ·exact ⟨_, _, _, _, _, rfl, u16_0, u16_0, u16_0, .nil, Nat.zero_le _⟩
 ·split
  ·exact ⟨_, _, _, _, _, rfl, u16_0, u16_0, u16_0, .nil, Nat.zero_le _⟩
  ·split
   ·exact ⟨_, _, _, _, _, rfl, u16_0, u16_0, u16_0, .nil, Nat.zero_le _⟩
   ·refine ⟨_, _, _, _, _, rfl, g16_range h 0, g16_range h 2, g16_range h 6, (h.take _).drop _, ?_⟩
    rw [List.length_drop, List.length_take]
    omega
end Go.Proofs.Ytkmimamminddiaa.Pure
namespace Go.Proofs.Ytkmimamminddiaa.PB
open Go.RowKit Go.Proofs.YtkmimamminddiaaW.PrintWords Go.Proofs.YtkmimamminddiaaW.PrintLast Go.Proofs.YtkmimamminddiaaW.PrintMore
attribute [local go_sem] max2_int min2_int max_two min_two max_three min_three max_four min_four   -- for this text's walks alone
set_option linter.unusedVariables false
set_option linter.unusedSimpArgs false
def lychhelp_Place.f (a0 : Int) (a1 : Int) : Option (Int) := if a1 = 0 then (none) else (if (Int.tmod a0 a1) < 0 then (some (wrap64 ((Int.tmod a0 a1) + a1))) else (some (Int.tmod a0 a1)))
theorem lychhelp_Place.calls (a0 : Int) (a1 : Int) (r : Int) (w : World) (h : lychhelp_Place.f a0 a1 = some r) :
  Calls Try.prog 19 #[.int .i64 a0, .int .i64 a1] w fun e w' => e = .returned (.int .i64 r) ∧ Drawn0 w w' := by
 have H : (if a1 = 0 then (none) else (if (Int.tmod a0 a1) < 0 then (some (wrap64 ((Int.tmod a0 a1) + a1))) else (some (Int.tmod a0 a1)))) = some r := h
 clear h
 by_cases c3 : a1 = 0
 ·rw [if_pos c3] at H
  exact absurd H (by simp)
 ·rw [if_neg c3] at H
  have c3b0 : (a1 == 0) = false := beq_eq_false_iff_ne.mpr c3
  have c3b1 : (a1 != 0) = true := bne_iff_ne.mpr c3
  by_cases c4 : (Int.tmod a0 a1) < 0
  ·rw [if_pos c4] at H
   have c4b0 : decide ((Int.tmod a0 a1) < 0) = true := decide_eq_true c4
   clear c4
   obtain rfl := Option.some.inj H
   go_enter Try.func19, Try.ntmps19
   go_wp2
   go_ret
   exact ⟨by first | rfl | (simp; done) | (simp [*]; done), by repeat (first | exact Drawn0.refl _ | apply Drawn0.step)⟩
  ·rw [if_neg c4] at H
   have c4b0 : decide ((Int.tmod a0 a1) < 0) = false := decide_eq_false c4
   clear c4
   obtain rfl := Option.some.inj H
   go_enter Try.func19, Try.ntmps19
   go_wp2
   go_ret
   exact ⟨by first | rfl | (simp; done) | (simp [*]; done), by repeat (first | exact Drawn0.refl _ | apply Drawn0.step)⟩
end Go.Proofs.Ytkmimamminddiaa.PB
/- A place among n. -/
namespace Go.Proofs.Ytkmimamminddiaa.Pure
set_option linter.unusedVariables false
set_option linter.unusedSimpArgs false
open Go.RowKit Go.Proofs.Ytkmimamminddiaa.PB Go.Proofs.YtkmimamminddiaaW.PrintWords Go.Proofs.YtkmimamminddiaaW.PrintLast Go.Proofs.Ytkmimamminddiaa.Spec
theorem place_eq (a n : Int) (hn : 0 < n) (hn2 : n ≤ 1000000000) (ha : -9223372036854775808 ≤ a ∧ a ≤ 9223372036854775807) : ∃ r : Nat, lychhelp_Place.f a n = some (r : Int) ∧ (r : Int) < n := by
 unfold lychhelp_Place.f
 rw [if_neg (by omega)]
 by_cases h : 0 ≤ a
 ·have e := Int.tmod_eq_emod_of_nonneg (a := a) (b := n) h
  have h1 := Int.emod_nonneg a (show n ≠ 0 by omega)
  have h2 := Int.emod_lt_of_pos a hn
  rw [e, if_neg (by omega)]
  exact ⟨(a % n).toNat, by congr 1; omega, by omega⟩
 ·have e : Int.tmod a n = -((-a) % n) := by
   have := Int.neg_tmod (a := -a) (b := n)
   rw [Int.neg_neg] at this
   rw [this, Int.tmod_eq_emod_of_nonneg (by omega)]
  have h1 := Int.emod_nonneg (-a) (show n ≠ 0 by omega)
  have h2 := Int.emod_lt_of_pos (-a) hn
  rw [e]
  by_cases h3 : -((-a) % n) < 0
  ·rw [if_pos h3, wrap64_id (by omega) (by omega)]
   exact ⟨(-((-a) % n) + n).toNat, by congr 1; omega, by omega⟩
  ·rw [if_neg h3]
   exact ⟨(-((-a) % n)).toNat, by congr 1; omega, by omega⟩
end Go.Proofs.Ytkmimamminddiaa.Pure
/- Plain: any frame is told as the document tells it. -/
namespace Go.Proofs.Ytkmimamminddiaa.Pure
set_option linter.unusedVariables false
set_option linter.unusedSimpArgs false
open Go.RowKit Go.Proofs.Ytkmimamminddiaa.PB Go.Proofs.YtkmimamminddiaaW.PrintWords Go.Proofs.YtkmimamminddiaaW.PrintLast
open Go.Proofs.Ytkmimamminddiaa.Spec Go.Proofs.Ytkmimamminddiaa.BytesEq
theorem body_at {b : List Int} {m1 m2 m3 m4 m5 m6 : Int} (h : IsB b) (hl : b.length ≤ 2000) : (1600 : Int) < (b.length : Int) ∧ bodyF b m1 m2 m3 m4 m5 m6 = some ([], 3) ∨ ¬ (1600 : Int) < (b.length : Int) ∧ ∃ x0 x1 x2 x3 x4 x5 x6 x7 x8 x9 x10 x11 ty bd e, lychref1_Eth.f b = some (x0, x1, x2, x3, x4, x5, x6, x7, x8, x9, x10, x11, ty, bd, e) ∧ IsB bd ∧ bd.length ≤ 2000 ∧
  bodyF b m1 m2 m3 m4 m5 m6 = if e = 0 ∧ ((x0 == m1) && ((x1 == m2) && ((x2 == m3) && ((x3 == m4) && ((x4 == m5) && (x5 == m6)))))) = true ∧ ty = 2048 then some (bd, -1) else some ([], 0) := by
 by_cases c : (1600 : Int) < (b.length : Int)
 ·exact .inl ⟨c, by unfold bodyF; rw [if_pos c]⟩
 ·obtain ⟨x0, x1, x2, x3, x4, x5, x6, x7, x8, x9, x10, x11, ty, bd, e, he, hb, hn⟩ := eseg_is h
  refine .inr ⟨c, x0, x1, x2, x3, x4, x5, x6, x7, x8, x9, x10, x11, ty, bd, e, by rw [reparse_eq h (by omega), he], hb, by omega, ?_⟩
  unfold bodyF
  rw [if_neg c, eparse_eq h (by omega), he, Option.bind_some]
theorem ins_ref (ip m1 m2 m3 m4 m5 m6 : Int) (b : List Int) (h : IsB b) (hl : b.length ≤ 2000) : ∃ r1 r2 r3, insF 4000 ip m1 m2 m3 m4 m5 m6 b = some (r1, r2, r3) ∧ rinsF 4000 ip m1 m2 m3 m4 m5 m6 b = some (r1, r2, r3) := by
 unfold insF rinsF
 rcases body_at (m1 := m1) (m2 := m2) (m3 := m3) (m4 := m4) (m5 := m5) (m6 := m6) h hl with ⟨c, e⟩ | ⟨c, x0, x1, x2, x3, x4, x5, x6, x7, x8, x9, x10, x11, ty, bd, e, he, hb, hn, hf⟩
 ·rw [e, if_pos c, Option.bind_some, if_neg (by decide)]
  exact ⟨_, _, _, rfl, rfl⟩
 ·rw [hf, if_neg c, he, Option.bind_some]
  by_cases c1 : e = 0 ∧ ((x0 == m1) && ((x1 == m2) && ((x2 == m3) && ((x3 == m4) && ((x4 == m5) && (x5 == m6)))))) = true ∧ ty = 2048
  ·rw [if_pos c1, Option.bind_some, if_pos rfl, iparse_eq hb (by omega) 4000 (by omega)]
   dsimp only
   rw [if_pos c1, riparse_eq hb (by omega) 4000 (by omega)]
   obtain ⟨qa, qt, pr, qi, fl, of_, s, d, qo, pb, qe, hq, _, _, _, _, _, _, hs, hd, _, _, _, hpb, hpn⟩ := iseg_is hb
   rw [hq, Option.bind_some, Option.bind_some]
   dsimp only
   by_cases c2 : qe = 0 ∧ d = ip ∧ pr = 17 ∧ Go.bits .and .u8 fl 1 = 0 ∧ of_ = 0
   ·rw [if_pos c2, if_pos c2, uparse_eq hpb (by omega), ruparse_eq hpb (by omega)]
    obtain ⟨us, ud, um, ub, ue, hu, hus, hud, hum, hub, hun⟩ := udg_is hpb
    rw [hu, Option.bind_some, Option.bind_some]
    dsimp only
    by_cases c3 : ue = 0 ∧ ud = 4789
    ·rw [if_pos c3, if_pos c3, uright_eq hs hd hus hud hum hub (by omega) 4000 (by omega), ruright_eq hs hd hus hud hum hub (by omega) 4000 (by omega), Option.bind_some, Option.bind_some]
     by_cases c4 : decide (um = 0 ∨ um = usum (usumS s d us ud ub)) = true
     ·rw [if_pos c4, if_pos c4, vparse_eq hub (by omega), rvparse_eq hub (by omega)]
      obtain ⟨v, vb, ve, hv, hvb, hvn⟩ : ∃ v vb ve, (if ub.length < 8 then some ((0 : Int), ([] : List Int), (20 : Int)) else if Go.bits .and .u8 (ub.getD 0 0) 8 = 0 then some (0, [], 21) else some ((ub.getD 4 0 * 256 + ub.getD 5 0) * 256 + ub.getD 6 0, ub.drop 8, 0)) = some (v, vb, ve) ∧ IsB vb ∧ vb.length ≤ 2000 := by
       split
       ·exact ⟨_, _, _, rfl, .nil, Nat.zero_le _⟩
       ·split
        ·exact ⟨_, _, _, rfl, .nil, Nat.zero_le _⟩
        ·exact ⟨_, _, _, rfl, hub.drop _, by rw [List.length_drop]; omega⟩
      rw [hv, Option.bind_some, Option.bind_some]
      dsimp only
      by_cases c5 : ve = 0
      ·rw [if_pos c5, if_pos c5, eparse_eq hvb (by omega), reparse_eq hvb (by omega)]
       obtain ⟨y0, y1, y2, y3, y4, y5, y6, y7, y8, y9, y10, y11, ty2, fb, fe, hy, _, _⟩ := eseg_is hvb
       rw [hy, Option.bind_some]
       dsimp only
       by_cases c6 : fe = 0 ∧ ty2 = 2048
       ·rw [if_pos c6]
        exact ⟨_, _, _, rfl, rfl⟩
       ·rw [if_neg c6]
        exact ⟨_, _, _, rfl, rfl⟩
      ·rw [if_neg c5, if_neg c5]
       exact ⟨_, _, _, rfl, rfl⟩
     ·rw [if_neg c4, if_neg c4]
      exact ⟨_, _, _, rfl, rfl⟩
    ·rw [if_neg c3, if_neg c3]
     exact ⟨_, _, _, rfl, rfl⟩
   ·rw [if_neg c2, if_neg c2]
    exact ⟨_, _, _, rfl, rfl⟩
  ·rw [if_neg c1, Option.bind_some, if_neg (by decide)]
   dsimp only
   rw [if_neg c1]
   exact ⟨_, _, _, rfl, rfl⟩
theorem outs_ref (m1 m2 m3 m4 m5 m6 : Int) (b : List Int) (h : IsB b) (hl : b.length ≤ 2000) : ∃ r1 r2 r3, outF 4000 m1 m2 m3 m4 m5 m6 b = some (r1, r2, r3) ∧ routF 4000 m1 m2 m3 m4 m5 m6 b = some (r1, r2, r3) := by
 unfold outF routF
 rcases body_at (m1 := m1) (m2 := m2) (m3 := m3) (m4 := m4) (m5 := m5) (m6 := m6) h hl with ⟨c, e⟩ | ⟨c, x0, x1, x2, x3, x4, x5, x6, x7, x8, x9, x10, x11, ty, bd, e, he, hb, hn, hf⟩
 ·rw [e, if_pos c, Option.bind_some, if_neg (by decide)]
  exact ⟨_, _, _, rfl, rfl⟩
 ·rw [hf, if_neg c, he, Option.bind_some]
  by_cases c1 : e = 0 ∧ ((x0 == m1) && ((x1 == m2) && ((x2 == m3) && ((x3 == m4) && ((x4 == m5) && (x5 == m6)))))) = true ∧ ty = 2048
  ·rw [if_pos c1, Option.bind_some, if_pos rfl, iparse_eq hb (by omega) 4000 (by omega)]
   dsimp only
   rw [if_pos c1, riparse_eq hb (by omega) 4000 (by omega)]
   obtain ⟨qa, qt, pr, qi, fl, of_, s, d, qo, pb, qe, hq, _⟩ := iseg_is hb
   rw [hq, Option.bind_some]
   dsimp only
   by_cases c2 : qe = 0
   ·rw [if_pos c2]
    exact ⟨_, _, _, rfl, rfl⟩
   ·rw [if_neg c2]
    exact ⟨_, _, _, rfl, rfl⟩
  ·rw [if_neg c1, Option.bind_some, if_neg (by decide)]
   dsimp only
   rw [if_neg c1]
   exact ⟨_, _, _, rfl, rfl⟩
theorem ebytes_isB' {a0 a1 a2 a3 a4 a5 a6 a7 a8 a9 a10 a11 t : Int} {l : List Int} (h : IsB [a0, a1, a2, a3, a4, a5, a6, a7, a8, a9, a10, a11]) (hl : IsB l) : IsB (ebytes a0 a1 a2 a3 a4 a5 a6 a7 a8 a9 a10 a11 t l) := by
 intro x hx
 unfold ebytes at hx
 have hA : ∀ y, y ∈ [a0, a1, a2, a3, a4, a5, a6, a7, a8, a9, a10, a11] → 0 ≤ y ∧ y ≤ 255 := h
 rcases List.mem_append.1 hx with h1 | h1
 ·exact hA x (List.mem_append_left [a6, a7, a8, a9, a10, a11] h1)
 rcases List.mem_append.1 h1 with h1 | h1
 ·exact hA x (List.mem_append_right [a0, a1, a2, a3, a4, a5] h1)
 rcases List.mem_append.1 h1 with h1 | h1
 ·simp only [List.mem_cons, List.not_mem_nil, or_false] at h1
  rcases h1 with rfl | rfl <;> omega
 ·exact hl x h1
theorem seatIn_some (ip : Int) (p : List Int) (h : IsB p) (hl : p.length ≤ 200) : ∃ r, seatInF 4000 102 3 ip 2 1 0 0 0 0 p = some r ∧ IsB r ∧ 0 < r.length ∧ r.length ≤ 2000 := by
 have h12 : ∀ a b c : Int, U8 a → U8 b → U8 c → IsB [2, 1, 0, 0, 0, 0, a, b, c, 0, 0, 0] := fun a b c ha hb hc x hx => by
  unfold U8 at ha hb hc
  simp only [List.mem_cons, List.not_mem_nil, or_false] at hx
  omega
 unfold seatInF
 obtain ⟨ad, had, hadr⟩ := addr_some 10 9 0 3
 rw [had, Option.bind_some, rebytes_eq (by omega)]
 unfold eout
 rw [if_neg (by omega), Option.bind_some]
 dsimp only
 have b1 : IsB (ebytes 2 1 0 0 0 0 2 7 0 0 0 0 2048 p) := ebytes_isB' (h12 2 7 0 (by unfold U8; omega) (by unfold U8; omega) (by unfold U8; omega)) h
 have l1 : (ebytes 2 1 0 0 0 0 2 7 0 0 0 0 2048 p).length = 14 + p.length := ebytes_length
 generalize ebytes 2 1 0 0 0 0 2 7 0 0 0 0 2048 p = x at b1 l1 ⊢
 rw [rvbytes_eq (by omega) (by omega), if_neg (by omega), if_neg (by omega), Option.bind_some]
 dsimp only
 have b2 : IsB ([8, 0, 0, 0, (102 : Int) / 65536 % 256, 102 / 256 % 256, 102 % 256, 0] ++ x) := by
  refine IsB.append (fun y hy => ?_) b1
  simp only [List.mem_cons, List.not_mem_nil, or_false] at hy
  omega
 have l2 : ([8, 0, 0, 0, (102 : Int) / 65536 % 256, 102 / 256 % 256, 102 % 256, 0] ++ x).length = 8 + x.length := by rw [List.length_append]; rfl
 generalize [8, 0, 0, 0, (102 : Int) / 65536 % 256, 102 / 256 % 256, 102 % 256, 0] ++ x = v at b2 l2 ⊢
 rw [rubytes_eq _ _ _ (by omega), if_neg (by omega), Option.bind_some]
 dsimp only
 have b3 : IsB (ubytes 7777 4789 0 v) := ubytes_isB b2
 have l3 := ubytes_length 7777 4789 0 v
 generalize ubytes 7777 4789 0 v = u at b3 l3 ⊢
 rw [ribytes_eq (by omega) (by omega) (by omega) (by omega) (by omega) .nil (by decide) (by omega) 4000 (by omega), ip_ok (by omega) (by omega) rfl (by decide) (by omega), Option.bind_some]
 dsimp only
 have b4 : IsB (ibytes 0 9 17 0 0 0 ad ip [] u) := ibytes_isB (by omega) (by omega) (by omega) .nil b3 (by decide)
 have l4 : (ibytes 0 9 17 0 0 0 ad ip [] u).length = 20 + ([] : List Int).length + u.length := ibytes_length
 have l40 : ([] : List Int).length = 0 := rfl
 generalize ibytes 0 9 17 0 0 0 ad ip [] u = q at b4 l4 ⊢
 rw [rebytes_eq (by omega)]
 unfold eout
 rw [if_neg (by omega), Option.bind_some]
 have l5 : (ebytes 2 1 0 0 0 0 2 9 0 0 0 0 2048 q).length = 14 + q.length := ebytes_length
 exact ⟨_, rfl, ebytes_isB' (h12 2 9 0 (by unfold U8; omega) (by unfold U8; omega) (by unfold U8; omega)) b4, by dsimp only; omega, by dsimp only; omega⟩
theorem seatOut_some (p : List Int) (h : IsB p) (hl : p.length ≤ 200) : ∃ r, lychref1_EthBytes.f 2 2 0 0 0 0 2 3 0 0 0 0 2048 p = some (r, 0) ∧ IsB r ∧ 0 < r.length ∧ r.length ≤ 2000 := by
 have l5 : (ebytes 2 2 0 0 0 0 2 3 0 0 0 0 2048 p).length = 14 + p.length := ebytes_length
 have h12 : IsB [2, 2, 0, 0, 0, 0, 2, 3, 0, 0, 0, 0] := fun x hx => by
  simp only [List.mem_cons, List.not_mem_nil, or_false] at hx
  omega
 refine ⟨ebytes 2 2 0 0 0 0 2 3 0 0 0 0 2048 p, ?_, ebytes_isB' h12 h, by omega, by omega⟩
 rw [rebytes_eq (by omega)]
 unfold eout
 rw [if_neg (by omega)]
end Go.Proofs.Ytkmimamminddiaa.Pure
/- FramesRead: the walk. -/
namespace Go.Proofs.Ytkmimamminddiaa.PB
open Go.RowKit Go.Proofs.YtkmimamminddiaaW.PrintWords Go.Proofs.YtkmimamminddiaaW.PrintLast Go.Proofs.YtkmimamminddiaaW.PrintMore
set_option linter.unusedVariables false
set_option linter.unusedSimpArgs false
open Go.Proofs.Ytkmimamminddiaa.Spec Go.Proofs.Ytkmimamminddiaa.Pure Go.Proofs.Ytkmimamminddiaa.BytesEq
def framesRead.R6.T : Bool × List (List Nat × List Nat) := (true, [([], []), ([], []), ([1], [1]), ([0, 2, 2], [0, 2]), ([], []), ([], []), ([5, 3], [5]), ([4, 6, 6], [4, 6]), ([3, 7, 0, 1, 2, 3], [3]), ([7, 8, 0, 1, 2, 3, 4, 5, 6, 7, 8], [7])])
theorem framesRead.R6.tab : rtab .any (opsOf Try.f3 6) = framesRead.R6.T := by kernel_rfl
theorem framesRead.R6.bits : waitsOk framesRead.R6.T.2 [0, 0, 2, 7, 0, 0, 47, 127, 255, 511] = true := by kernel_rfl
def framesRead.R13.T : Bool × List (List Nat × List Nat) := (true, [([], []), ([], []), ([], []), ([1, 2], [1, 2]), ([3], [3]), ([0, 4], [0, 4]), ([5], [5]), ([6], [6]), ([6], [6]), ([6], [6]), ([7, 5, 0, 1, 2, 3, 4, 5, 6, 7], [7]), ([8, 10, 0, 1, 2, 3, 4, 5, 6, 7, 8, 10], [8]), ([9, 11, 0, 1, 2, 3, 4, 5, 6, 7, 8, 9, 10, 11], [9])])
theorem framesRead.R13.tab : rtab .any (opsOf Try.f3 13) = framesRead.R13.T := by kernel_rfl
theorem framesRead.R13.bits : waitsOk framesRead.R13.T.2 [0, 0, 0, 6, 14, 31, 63, 127, 127, 127, 255, 1535, 4095] = true := by kernel_rfl
def framesRead.R14.T : Bool × List (List Nat × List Nat) := (true, [([], []), ([], []), ([], []), ([1, 2], [1, 2]), ([3], [3]), ([0, 4], [0, 4]), ([5], [5]), ([6], [6]), ([6], [6]), ([6], [6]), ([7, 5, 0, 1, 2, 3, 4, 5, 6, 7], [7]), ([8, 10, 0, 1, 2, 3, 4, 5, 6, 7, 8, 10], [8]), ([9, 11, 0, 1, 2, 3, 4, 5, 6, 7, 8, 9, 10, 11], [9])])
theorem framesRead.R14.tab : rtab .any (opsOf Try.f3 14) = framesRead.R14.T := by kernel_rfl
theorem framesRead.R14.bits : waitsOk framesRead.R14.T.2 [0, 0, 0, 6, 14, 31, 63, 127, 127, 127, 255, 1535, 4095] = true := by kernel_rfl
def framesRead.R17.T : Bool × List (List Nat × List Nat) := (true, [([], []), ([], []), ([], []), ([1, 2], [1, 2]), ([3], [3]), ([0, 4], [0, 4]), ([5], [5]), ([6], [6]), ([6], [6]), ([6], [6]), ([7, 5, 0, 1, 2, 3, 4, 5, 6, 7], [7]), ([8, 10, 0, 1, 2, 3, 4, 5, 6, 7, 8, 10], [8]), ([9, 11, 0, 1, 2, 3, 4, 5, 6, 7, 8, 9, 10, 11], [9])])
theorem framesRead.R17.tab : rtab .any (opsOf Try.f3 17) = framesRead.R17.T := by kernel_rfl
theorem framesRead.R17.bits : waitsOk framesRead.R17.T.2 [0, 0, 0, 6, 14, 31, 63, 127, 127, 127, 255, 1535, 4095] = true := by kernel_rfl
def framesRead.R18.T : Bool × List (List Nat × List Nat) := (true, [([], []), ([], []), ([], []), ([1, 2], [1, 2]), ([3], [3]), ([0, 4], [0, 4]), ([5], [5]), ([6], [6]), ([6], [6]), ([6], [6]), ([7, 5, 0, 1, 2, 3, 4, 5, 6, 7], [7]), ([8, 10, 0, 1, 2, 3, 4, 5, 6, 7, 8, 10], [8]), ([9, 11, 0, 1, 2, 3, 4, 5, 6, 7, 8, 9, 10, 11], [9])])
theorem framesRead.R18.tab : rtab .any (opsOf Try.f3 18) = framesRead.R18.T := by kernel_rfl
theorem framesRead.R18.bits : waitsOk framesRead.R18.T.2 [0, 0, 0, 6, 14, 31, 63, 127, 127, 127, 255, 1535, 4095] = true := by kernel_rfl
theorem framesRead.calls (A0 : Option Addr) (c0 : Nat) (l0 : List Int) (A1 : Option Addr) (c1 : Nat) (l1 : List Int) (p0 p1 p2 p3 p4 p5 p6 p7 p8 p9 at_ x : Int) (w : World) (hr0 : Kd.C (Kd.int .u16) w A0 l0.length l0) (hw0 : ∀ x ∈ l0, 0 ≤ x ∧ x ≤ 65535) (hr1 : Kd.C (Kd.int .u8) w A1 l1.length l1) (hc1 : l1.length ≤ c1) (hb1 : IsB l1) (hp : 0 ≤ p0 ∧ (0 ≤ p8 ∧ p8 ≤ 255) ∧ (0 ≤ p9 ∧ p9 ≤ 255)) (hat : -9223372036854775808 ≤ at_ ∧ at_ ≤ 9223372036854775807) :
  Calls Try.prog 3 #[.slice A0 l0.length c0, .slice A1 l1.length c1, .agg #[.int .u8 p0, .int .u8 p1, .int .u8 p2, .int .u8 p3, .int .u8 p4, .int .u8 p5, .int .u8 p6, .int .u8 p7, .int .u8 p8, .int .u8 p9], .int .i64 at_, .int .u8 x] w fun e w' => e = .returned (.bool true) ∧ Below w.heap.size w w' := by
 have hu33 := Try.underlying33
 have hu25 := Try.underlying25
 have HB := Aside0.mk (Below.refl w.heap.size w)
 have HC0 := Aside0.mk hr0
 have HW := Aside0.mk hw0
 have HC1 := Aside0.mk hr1
 have HL1 := Aside0.mk hc1
 have HIB := Aside0.mk hb1
 have HAT := Aside0.mk hat
 have HN : Aside0 ((0 ≤ p8 ∧ p8 ≤ 255) ∧ (0 ≤ p9 ∧ p9 ≤ 255)) := ⟨⟨hp.2.1, hp.2.2⟩⟩
 have HI33 : Aside0 ((Try.prog.info? 33).map (·.size) = some 29) := ⟨by kernel_rfl⟩
 have HI25 : Aside0 ((Try.prog.info? 25).map (·.size) = some 10) := ⟨by kernel_rfl⟩
 obtain ⟨P0, e0, b0, n0⟩ := packet_some 4000 (Nat.le_refl _) p0 p1 p2 p3 p4 p5 p6 p7 p8 p9 0 0 hp.1
 obtain ⟨P1, e1, b1, n1⟩ := packet_some 4000 (Nat.le_refl _) p0 p1 p2 p3 p4 p5 p6 p7 p8 p9 1 0 hp.1
 obtain ⟨fi, ei, bi, ni0, ni⟩ := seatIn_some 168362184 P0 b0 (by omega)
 obtain ⟨fo, eo, bo, no0, no⟩ := seatOut_some P1 b1 (by omega)
 have HP0 := Aside0.mk e0
 have HP1 := Aside0.mk e1
 have HFI := Aside0.mk ei
 have HFO := Aside0.mk eo
 have HFIB := Aside0.mk bi
 have HFOB := Aside0.mk bo
 have Hi0 := Aside0.mk ni0
 have Hi9 := Aside0.mk ni
 have Ho0 := Aside0.mk no0
 have Ho9 := Aside0.mk no
 clear hr0 hw0 hr1 hc1 hb1 hat hp e0 b0 n0 e1 b1 n1 ei bi ni0 ni eo bo no0 no
 obtain ⟨nk, hnk⟩ : ∃ nk, nk = l0.length := ⟨_, rfl⟩
 obtain ⟨nb, hnb⟩ : ∃ nb, nb = l1.length := ⟨_, rfl⟩
 have HNK := Aside0.mk hnk
 have HNB := Aside0.mk hnb
 rw [← hnk, ← hnb]
 clear hnk hnb
 go_enter Try.func3, Try.ntmps3
 go_upto_region 1 with (((with_reducible refine gate_dst (N := 7) rfl ?_); refine Kd.event_run rfl (v := .pointer (some ⟨w.heap.size, 0, none⟩)) (w1 := w.alloc (.cells #[.int .u8 p0, .int .u8 p1, .int .u8 p2, .int .u8 p3, .int .u8 p4, .int .u8 p5, .int .u8 p6, .int .u8 p7, .int .u8 p8, .int .u8 p9] 25)) (by first | (go_simp; done) | (go_simp; rfl)) ?_))
 obtain ⟨gp, hgp⟩ : ∃ x_, x_ = w.heap.size := ⟨_, rfl⟩
 have HXp : Aside0 ((w.alloc (.cells #[.int .u8 p0, .int .u8 p1, .int .u8 p2, .int .u8 p3, .int .u8 p4, .int .u8 p5, .int .u8 p6, .int .u8 p7, .int .u8 p8, .int .u8 p9] 25)).heap[gp]? = some (.cells #[.int .u8 p0, .int .u8 p1, .int .u8 p2, .int .u8 p3, .int .u8 p4, .int .u8 p5, .int .u8 p6, .int .u8 p7, .int .u8 p8, .int .u8 p9] 25 (0, 0))) := ⟨by rw [hgp]; exact rw_blknew _ _⟩
 have GHXp := Aside0.mk (show w.heap.size ≤ gp by rw [hgp]; exact below_size HB.out)
 rw [← hgp]
 clear hgp
 have hb_ := below_alloc (Below.refl w.heap.size w) (.cells #[.int .u8 p0, .int .u8 p1, .int .u8 p2, .int .u8 p3, .int .u8 p4, .int .u8 p5, .int .u8 p6, .int .u8 p7, .int .u8 p8, .int .u8 p9] 25)
 have n_HB := Aside0.mk (below_step HB.out hb_)
 clear HB hb_
 have HB := n_HB
 clear n_HB
 generalize (w.alloc (.cells #[.int .u8 p0, .int .u8 p1, .int .u8 p2, .int .u8 p3, .int .u8 p4, .int .u8 p5, .int .u8 p6, .int .u8 p7, .int .u8 p8, .int .u8 p9] 25)) = w1 at HXp HB ⊢
 go_wp2_with fail
 refine (known22.calls _).mono ?_
 rintro e w2 ⟨rfl, hb⟩
 have hb_ := hb
 have n_HB := Aside0.mk (below_step HB.out hb_)
 have n_HXp := Aside0.mk (blk_below HXp.out hb_)
 clear HB HXp hb_
 have HB := n_HB
 have HXp := n_HXp
 clear n_HB n_HXp
 clear hb
 by_cases c1 : (2000 : Int) < (nb : Int)
 ·have k1a : decide ((2000 : Int) < (nb : Int)) = true := decide_eq_true (c1)
  have k1b : ((2000 : Int) < (nb : Int)) = True := eq_true (c1)
  (try dsimp only)
  go_wp2
  (try simp only [Exit.inBlock, Exit.then])
  go_ret
  exact ⟨rfl, HB.out⟩
 ·have k1a : decide ((2000 : Int) < (nb : Int)) = false := decide_eq_false (c1)
  have k1b : ((2000 : Int) < (nb : Int)) = False := eq_false (c1)
  by_cases c2 : (4 : Int) < (nk : Int)
  ·have k2a : decide ((4 : Int) < (nk : Int)) = true := decide_eq_true (c2)
   have k2b : ((4 : Int) < (nk : Int)) = True := eq_true (c2)
   (try dsimp only)
   go_wp2
   (try simp only [Exit.inBlock, Exit.then])
   go_ret
   exact ⟨rfl, HB.out⟩
  ·have k2a : decide ((4 : Int) < (nk : Int)) = false := decide_eq_false (c2)
   have k2b : ((4 : Int) < (nk : Int)) = False := eq_false (c2)
   have HN2 : Aside0 (l1.length ≤ 2000) := ⟨by have := HNB.out; omega⟩
   (try dsimp only)
   go_wp2_with fail
   clear k1a k1b k2a k2b c1 c2
   rw [HNK.out, HNB.out]
   refine (seat_Config.calls A0 c0 l0 168362184 kn_ip _ (Kd.C_below HC0.out HB.out) HW.out).mono ?_
   rintro e w3 ⟨At, nt, ct, fs, hn0, rfl, ho, hfs, hb⟩
   clear hn0 ho hfs
   have hb_ := hb
   have n_HB := Aside0.mk (below_step HB.out hb_)
   have n_HXp := Aside0.mk (blk_below HXp.out hb_)
   clear HB HXp hb_
   have HB := n_HB
   have HXp := n_HXp
   clear n_HB n_HXp
   clear hb
   (try dsimp only)
   go_upto_region 6 with ((first | (refine rw_skip rfl rfl (rw_new rfl rfl rfl HI33.out rfl (by simp [Value.oneCell'])) ?_)))
   obtain ⟨gc, hgc⟩ : ∃ x_, x_ = w3.heap.size := ⟨_, rfl⟩
   have HXc : Aside0 ((w3.alloc (.cells #[.int .u32 168362184, .int .u8 2, .int .u8 1, .int .u8 0, .int .u8 0, .int .u8 0, .int .u8 0, .int .u8 2, .int .u8 2, .int .u8 0, .int .u8 0, .int .u8 0, .int .u8 0, .int .u8 2, .int .u8 3, .int .u8 0, .int .u8 0, .int .u8 0, .int .u8 0, .int .u8 200, .int .u8 0, .int .u8 0, .int .u8 0, .int .u8 0, .int .u8 0, .int .u8 0, .int .u8 0, .int .u32 1, .slice At nt ct] 33)).heap[gc]? = some (.cells #[.int .u32 168362184, .int .u8 2, .int .u8 1, .int .u8 0, .int .u8 0, .int .u8 0, .int .u8 0, .int .u8 2, .int .u8 2, .int .u8 0, .int .u8 0, .int .u8 0, .int .u8 0, .int .u8 2, .int .u8 3, .int .u8 0, .int .u8 0, .int .u8 0, .int .u8 0, .int .u8 200, .int .u8 0, .int .u8 0, .int .u8 0, .int .u8 0, .int .u8 0, .int .u8 0, .int .u8 0, .int .u32 1, .slice At nt ct] 33 (0, 0))) := ⟨by rw [hgc]; exact rw_blknew _ _⟩
   have GHXc := Aside0.mk (show w.heap.size ≤ gc by rw [hgc]; exact below_size HB.out)
   rw [← hgc]
   clear hgc
   have hb_ := below_alloc (Below.refl w3.heap.size w3) (.cells #[.int .u32 168362184, .int .u8 2, .int .u8 1, .int .u8 0, .int .u8 0, .int .u8 0, .int .u8 0, .int .u8 2, .int .u8 2, .int .u8 0, .int .u8 0, .int .u8 0, .int .u8 0, .int .u8 2, .int .u8 3, .int .u8 0, .int .u8 0, .int .u8 0, .int .u8 0, .int .u8 200, .int .u8 0, .int .u8 0, .int .u8 0, .int .u8 0, .int .u8 0, .int .u8 0, .int .u8 0, .int .u32 1, .slice At nt ct] 33)
   have n_HB := Aside0.mk (below_step HB.out hb_)
   have n_HXp := Aside0.mk (blk_below HXp.out hb_)
   clear HB HXp hb_
   have HB := n_HB
   have HXp := n_HXp
   clear n_HB n_HXp
   generalize (w3.alloc (.cells #[.int .u32 168362184, .int .u8 2, .int .u8 1, .int .u8 0, .int .u8 0, .int .u8 0, .int .u8 0, .int .u8 2, .int .u8 2, .int .u8 0, .int .u8 0, .int .u8 0, .int .u8 0, .int .u8 2, .int .u8 3, .int .u8 0, .int .u8 0, .int .u8 0, .int .u8 0, .int .u8 200, .int .u8 0, .int .u8 0, .int .u8 0, .int .u8 0, .int .u8 0, .int .u8 0, .int .u8 0, .int .u32 1, .slice At nt ct] 33)) = w4 at HXc HB HXp ⊢
   refine start_ (n := 10) (S := fun w' => w'.heap[gc]? = some (.cells #[.int .u32 168362184, .int .u8 2, .int .u8 1, .int .u8 0, .int .u8 0, .int .u8 0, .int .u8 0, .int .u8 2, .int .u8 2, .int .u8 0, .int .u8 0, .int .u8 0, .int .u8 0, .int .u8 2, .int .u8 3, .int .u8 0, .int .u8 0, .int .u8 0, .int .u8 0, .int .u8 200, .int .u8 0, .int .u8 0, .int .u8 0, .int .u8 0, .int .u8 0, .int .u8 0, .int .u8 0, .int .u32 1, .slice At nt ct] 33 (0, 0)) ∧ w'.heap[gp]? = some (.cells #[.int .u8 p0, .int .u8 p1, .int .u8 p2, .int .u8 p3, .int .u8 p4, .int .u8 p5, .int .u8 p6, .int .u8 p7, .int .u8 p8, .int .u8 p9] 25 (0, 0))) (ds := []) #[false, false, false, false, false, false, false, false, false, false] (by kernel_rfl) rfl rfl ⟨HXc.out, HXp.out⟩ (fun hHeld => ?_)
   refine with_tabW framesRead.R6.tab framesRead.R6.bits (fun HT_ HW_ => ?_)
   have hb := below_drew1 (Below.refl w4.heap.size w4)
   have hb_ := hb
   have n_HB := Aside0.mk (below_step HB.out hb_)
   have n_HXc := Aside0.mk (blk_below HXc.out hb_)
   have n_HXp := Aside0.mk (blk_below HXp.out hb_)
   clear HB HXc HXp hb_
   have HB := n_HB
   have HXc := n_HXc
   have HXp := n_HXp
   clear n_HB n_HXc n_HXp
   clear hb
   generalize w4.drew = w4 at HB HXc HXp hHeld ⊢
   refine take_ (i := 0) (N := some 34) (v := (.agg #[.int .u32 168362184, .int .u8 2, .int .u8 1, .int .u8 0, .int .u8 0, .int .u8 0, .int .u8 0, .int .u8 2, .int .u8 2, .int .u8 0, .int .u8 0, .int .u8 0, .int .u8 0, .int .u8 2, .int .u8 3, .int .u8 0, .int .u8 0, .int .u8 0, .int .u8 0, .int .u8 200, .int .u8 0, .int .u8 0, .int .u8 0, .int .u8 0, .int .u8 0, .int .u8 0, .int .u8 0, .int .u32 1, .slice At nt ct])) #[true, false, false, false, false, false, false, false, false, false] rfl rfl (take_ofW HT_.out HW_.out (by kernel_rfl)) (fun _ _ _ h => h) (Or.inl ⟨by rfl, fun w' s0 => ?_⟩) hHeld rfl ?_
   ·obtain ⟨s0, s1⟩ := s0
    exact rw_load (p := .tmp 11) (ty := 33) (by rfl) (by rfl) s0 hu33 (by rfl) HI33.out
   refine nz 34 ?_
   refine take_ (i := 1) (N := some 35) (v := (.agg #[.int .u8 p0, .int .u8 p1, .int .u8 p2, .int .u8 p3, .int .u8 p4, .int .u8 p5, .int .u8 p6, .int .u8 p7, .int .u8 p8, .int .u8 p9])) #[true, true, false, false, false, false, false, false, false, false] rfl rfl (take_ofW HT_.out HW_.out (by kernel_rfl)) (fun _ _ _ h => h) (Or.inl ⟨by rfl, fun w' s0 => ?_⟩) hHeld rfl ?_
   ·obtain ⟨s0, s1⟩ := s0
    exact rw_load (p := .tmp 7) (ty := 25) (by rfl) (by rfl) s1 hu25 (by rfl) HI25.out
   refine nz 35 ?_
   refine take_ (i := 4) (N := some 38) (v := (.agg #[.int .u32 168362184, .int .u8 2, .int .u8 1, .int .u8 0, .int .u8 0, .int .u8 0, .int .u8 0, .int .u8 2, .int .u8 2, .int .u8 0, .int .u8 0, .int .u8 0, .int .u8 0, .int .u8 2, .int .u8 3, .int .u8 0, .int .u8 0, .int .u8 0, .int .u8 0, .int .u8 200, .int .u8 0, .int .u8 0, .int .u8 0, .int .u8 0, .int .u8 0, .int .u8 0, .int .u8 0, .int .u32 1, .slice At nt ct])) #[true, true, false, false, true, false, false, false, false, false] rfl rfl (take_ofW HT_.out HW_.out (by kernel_rfl)) (fun _ _ _ h => h) (Or.inl ⟨by rfl, fun w' s0 => ?_⟩) hHeld rfl ?_
   ·obtain ⟨s0, s1⟩ := s0
    exact rw_load (p := .tmp 11) (ty := 33) (by rfl) (by rfl) s0 hu33 (by rfl) HI33.out
   refine nz 38 ?_
   refine take_ (i := 5) (N := some 39) (v := (.agg #[.int .u8 p0, .int .u8 p1, .int .u8 p2, .int .u8 p3, .int .u8 p4, .int .u8 p5, .int .u8 p6, .int .u8 p7, .int .u8 p8, .int .u8 p9])) #[true, true, false, false, true, true, false, false, false, false] rfl rfl (take_ofW HT_.out HW_.out (by kernel_rfl)) (fun _ _ _ h => h) (Or.inl ⟨by rfl, fun w' s0 => ?_⟩) hHeld rfl ?_
   ·obtain ⟨s0, s1⟩ := s0
    exact rw_load (p := .tmp 7) (ty := 25) (by rfl) (by rfl) s1 hu25 (by rfl) HI25.out
   refine nz 39 ?_
   refine oz 2 (some 36) HT_ (fun K hK => ?_)
   refine goes_ Try.func17 (by kernel_rfl) rfl #[.agg #[.int .u8 p0, .int .u8 p1, .int .u8 p2, .int .u8 p3, .int .u8 p4, .int .u8 p5, .int .u8 p6, .int .u8 p7, .int .u8 p8, .int .u8 p9], .int .i64 0, .int .i64 0] (by rfl) rfl rfl (by first | rfl | (go_simp; done) | (go_simp; rfl) | (go_simp; decide)) ?_
   refine (seat_packet.calls 4000 p0 p1 p2 p3 p4 p5 p6 p7 p8 p9 0 0 P0 _ HN.out HP0.out).mono ?_
   rintro e w5 ⟨v_, rfl, ho, hb⟩
   obtain ⟨Aq, cq, rfl, hcq, hkq⟩ := Kd.R_reads ho
   have HCq := Aside0.mk hkq
   have HLq := Aside0.mk hcq
   clear hkq hcq
   refine ⟨_, rfl, ?_⟩
   clear ho
   have hb_ := hb
   have n_HB := Aside0.mk (below_step HB.out hb_)
   have n_HXc := Aside0.mk (blk_below HXc.out hb_)
   have n_HXp := Aside0.mk (blk_below HXp.out hb_)
   clear HB HXc HXp hb_
   have HB := n_HB
   have HXc := n_HXc
   have HXp := n_HXp
   clear n_HB n_HXc n_HXp
   clear hb
   refine hK.out _ _ ⟨HXc.out, HXp.out⟩ (fun hHeld => ?_)
   clear hK K
   refine nz 36 ?_
   refine oz 3 (some 37) HT_ (fun K hK => ?_)
   refine goes_ Try.func16 (by kernel_rfl) rfl #[.agg #[.int .u32 168362184, .int .u8 2, .int .u8 1, .int .u8 0, .int .u8 0, .int .u8 0, .int .u8 0, .int .u8 2, .int .u8 2, .int .u8 0, .int .u8 0, .int .u8 0, .int .u8 0, .int .u8 2, .int .u8 3, .int .u8 0, .int .u8 0, .int .u8 0, .int .u8 0, .int .u8 200, .int .u8 0, .int .u8 0, .int .u8 0, .int .u8 0, .int .u8 0, .int .u8 0, .int .u8 0, .int .u32 1, .slice At nt ct], .int .i64 2, .slice Aq P0.length cq] (by rfl) rfl rfl (by first | rfl | (go_simp; done) | (go_simp; rfl) | (go_simp; decide)) ?_
   refine (seat_Inside2.calls 4000 _ _ _ _ _ _ _ _ _ _ _ _ _ _ _ _ _ _ _ _ _ _ _ _ _ _ _ _ _ _ _ _ _ P0 fi _ HCq.out HLq.out HFI.out).mono ?_
   rintro e w6 ⟨v_, rfl, ho, hb⟩
   have HRi := Aside0.mk (Kd.R_lower ho (below_size HB.out))
   obtain ⟨Ai, ci, rfl, _, _⟩ := Kd.R_reads ho
   refine ⟨_, rfl, ?_⟩
   clear ho HCq HLq
   have hb_ := hb
   have n_HB := Aside0.mk (below_step HB.out hb_)
   have n_HXc := Aside0.mk (blk_below HXc.out hb_)
   have n_HXp := Aside0.mk (blk_below HXp.out hb_)
   clear HB HXc HXp hb_
   have HB := n_HB
   have HXc := n_HXc
   have HXp := n_HXp
   clear n_HB n_HXc n_HXp
   clear hb
   refine hK.out _ _ ⟨HXc.out, HXp.out⟩ (fun hHeld => ?_)
   clear hK K
   refine nz 37 ?_
   refine oz 6 (some 40) HT_ (fun K hK => ?_)
   refine goes_ Try.func17 (by kernel_rfl) rfl #[.agg #[.int .u8 p0, .int .u8 p1, .int .u8 p2, .int .u8 p3, .int .u8 p4, .int .u8 p5, .int .u8 p6, .int .u8 p7, .int .u8 p8, .int .u8 p9], .int .i64 1, .int .i64 0] (by rfl) rfl rfl (by first | rfl | (go_simp; done) | (go_simp; rfl) | (go_simp; decide)) ?_
   refine (seat_packet.calls 4000 p0 p1 p2 p3 p4 p5 p6 p7 p8 p9 1 0 P1 _ HN.out HP1.out).mono ?_
   rintro e w7 ⟨v_, rfl, ho, hb⟩
   obtain ⟨Az, cz, rfl, hcz, hkz⟩ := Kd.R_reads ho
   have HCz := Aside0.mk hkz
   have HLz := Aside0.mk hcz
   clear hkz hcz
   refine ⟨_, rfl, ?_⟩
   clear ho
   have hb_ := hb
   have n_HB := Aside0.mk (below_step HB.out hb_)
   have n_HXc := Aside0.mk (blk_below HXc.out hb_)
   have n_HXp := Aside0.mk (blk_below HXp.out hb_)
   have n_HRi := Aside0.mk (Kd.R_below HRi.out hb_)
   clear HB HXc HXp HRi hb_
   have HB := n_HB
   have HXc := n_HXc
   have HXp := n_HXp
   have HRi := n_HRi
   clear n_HB n_HXc n_HXp n_HRi
   clear hb
   refine hK.out _ _ ⟨HXc.out, HXp.out⟩ (fun hHeld => ?_)
   clear hK K
   refine nz 40 ?_
   refine oz 7 (some 41) HT_ (fun K hK => ?_)
   refine goes_ Try.func18 (by kernel_rfl) rfl #[.agg #[.int .u32 168362184, .int .u8 2, .int .u8 1, .int .u8 0, .int .u8 0, .int .u8 0, .int .u8 0, .int .u8 2, .int .u8 2, .int .u8 0, .int .u8 0, .int .u8 0, .int .u8 0, .int .u8 2, .int .u8 3, .int .u8 0, .int .u8 0, .int .u8 0, .int .u8 0, .int .u8 200, .int .u8 0, .int .u8 0, .int .u8 0, .int .u8 0, .int .u8 0, .int .u8 0, .int .u8 0, .int .u32 1, .slice At nt ct], .slice Az P1.length cz] (by rfl) rfl rfl (by first | rfl | (go_simp; done) | (go_simp; rfl) | (go_simp; decide)) ?_
   have hlt := Kd.R_lt HRi.out
   refine (seat_Outside.calls _ _ _ _ _ _ _ _ _ _ _ _ _ _ _ _ _ _ _ _ _ _ _ _ _ _ _ _ _ _ _ _ _ P1 fo 0 _ HCz.out HLz.out HFO.out).mono ?_
   rintro e w8 ⟨v_, rfl, ho, hb⟩
   have HRo := Aside0.mk (Kd.R_lower ho (below_size HB.out))
   have hbs := Kd.R_base ho
   obtain ⟨Ao, co, rfl, _, _⟩ := Kd.R_reads ho
   have HNE : Aside0 (∀ k k', (Value.slice Ai fi.length ci).ownBlock = some k → (Value.slice Ao fo.length co).ownBlock = some k' → k ≠ k') := ⟨fun k k' h1 h2 => by have := hlt k h1; have := hbs k' h2; omega⟩
   refine ⟨_, rfl, ?_⟩
   clear ho hlt hbs HCz HLz
   have hb_ := hb
   have n_HB := Aside0.mk (below_step HB.out hb_)
   have n_HXc := Aside0.mk (blk_below HXc.out hb_)
   have n_HXp := Aside0.mk (blk_below HXp.out hb_)
   have n_HRi := Aside0.mk (Kd.R_below HRi.out hb_)
   clear HB HXc HXp HRi hb_
   have HB := n_HB
   have HXc := n_HXc
   have HXp := n_HXp
   have HRi := n_HRi
   clear n_HB n_HXc n_HXp n_HRi
   clear hb
   refine hK.out _ _ ⟨HXc.out, HXp.out⟩ (fun hHeld => ?_)
   clear hK K
   refine nz 41 ?_
   refine pz 8 12 HT_ ?_
   refine pz 9 13 HT_ ?_
   refine dz HT_ ?_
   clear HT_ HW_ hHeld
   (try dsimp only)
   go_upto_region 7 with (fail)
   obtain ⟨gi, cap_, hv, hgb, _, cl_, hcl_⟩ := Kd.R_form HRi.out Hi0.out
   injection hv with h1 h2 h3
   subst h1 h3
   have HGi := Aside0.mk hgb
   obtain ⟨ji, hj, hjl⟩ := place_eq at_ (fi.length : Int) (by have := Hi0.out; omega) (by have := Hi9.out; omega) HAT.out
   clear hgb h2
   go_wp2_with fail
   refine (lychhelp_Place.calls at_ (fi.length : Int) (ji : Int) _ hj).mono ?_
   rintro e w9_ ⟨rfl, ⟨nd, rfl⟩⟩
   have hb := pw_below_drewN (Below.refl w8.heap.size w8) nd
   have hcl2_ : Aside0 ((w8.drewN nd).heap[gi]? = some (.cells cl_ 5 (0, 0))) := ⟨blk_drewN hcl_ nd⟩
   clear hcl_ hj
   have hb_ := hb
   have n_HB := Aside0.mk (below_step HB.out hb_)
   have n_HXc := Aside0.mk (blk_below HXc.out hb_)
   have n_HXp := Aside0.mk (blk_below HXp.out hb_)
   have n_HRi := Aside0.mk (Kd.R_below HRi.out hb_)
   have n_HRo := Aside0.mk (Kd.R_below HRo.out hb_)
   clear HB HXc HXp HRi HRo hb_
   have HB := n_HB
   have HXc := n_HXc
   have HXp := n_HXp
   have HRi := n_HRi
   have HRo := n_HRo
   clear n_HB n_HXc n_HXp n_HRi n_HRo
   clear hb
   generalize w8.drewN nd = w9 at HB HXc HXp HRi HRo hcl2_ ⊢
   obtain ⟨hcb, hfb⟩ := Kd.R_cell (0 : Int) HRi.out (ji : Int) (by omega) (by omega)
   have HJ8 : Aside0 (((ji : Int) < (fi.length : Int)) = True) := ⟨eq_true (by omega)⟩
   have z8 := HJ8.out
   have zc : w9.cell? ⟨gi, ji, none⟩ = some (.int .u8 (rd fi (ji : Int))) := hcb
   have zf : w9.frozen? ⟨gi, ji, none⟩ = false := hfb
   clear hcb hfb hjl
   (try dsimp only)
   go_upto_region 8 with (fail)
   clear z8 zc zf
   have off_ := Off.setCell w9 gi ji (.int .u8 (Go.bits .xor .u8 (rd fi (ji : Int)) x))
   have n_HRi : Aside0 (Kd.R (Kd.int .u8) 5 (w9.setCell ⟨gi, ji, none⟩ (.int .u8 (Go.bits .xor .u8 (rd fi (ji : Int)) x))) w.heap.size (fun _ => True) (.slice (some ⟨gi, 0, none⟩) fi.length ci) (fi.set ji (Go.bits .xor .u8 (rd fi (ji : Int)) x))) := ⟨Kd.R_putn HRi.out (ji : Int) (Go.bits .xor .u8 (rd fi (ji : Int)) x)⟩
   have n_HRo := Aside0.mk (Off.Rne off_ HRo.out (fun k hk e => HNE.out gi k (by rfl) hk e.symm))
   have n_HXc := Aside0.mk (Off.blk off_ HXc.out hcl2_.out (by decide))
   have n_HXp := Aside0.mk (Off.blk off_ HXp.out hcl2_.out (by decide))
   have n_HB := Aside0.mk (Off.below off_ HB.out HGi.out)
   clear HRi HRo HXc HXp HB off_ hcl2_ HJ8
   have HRi := n_HRi
   have HRo := n_HRo
   have HXc := n_HXc
   have HXp := n_HXp
   have HB := n_HB
   clear n_HRi n_HRo n_HXc n_HXp n_HB
   generalize w9.setCell ⟨gi, ji, none⟩ (.int .u8 (Go.bits .xor .u8 (rd fi (ji : Int)) x)) = w10 at HRi HRo HXc HXp HB ⊢
   have hset : (fi.set ji (Go.bits .xor .u8 (rd fi (ji : Int)) x)).length = fi.length := List.length_set
   have HSI := Aside0.mk hset
   clear hset
   obtain ⟨go, cap_, hv, hgb, _, cl_, hcl_⟩ := Kd.R_form HRo.out Ho0.out
   injection hv with h1 h2 h3
   subst h1 h3
   have HGo := Aside0.mk hgb
   obtain ⟨jo, hj, hjl⟩ := place_eq at_ (fo.length : Int) (by have := Ho0.out; omega) (by have := Ho9.out; omega) HAT.out
   clear hgb h2
   go_wp2_with fail
   refine (lychhelp_Place.calls at_ (fo.length : Int) (jo : Int) _ hj).mono ?_
   rintro e w11_ ⟨rfl, ⟨nd, rfl⟩⟩
   have hb := pw_below_drewN (Below.refl w10.heap.size w10) nd
   have hcl2_ : Aside0 ((w10.drewN nd).heap[go]? = some (.cells cl_ 5 (0, 0))) := ⟨blk_drewN hcl_ nd⟩
   clear hcl_ hj
   have hb_ := hb
   have n_HB := Aside0.mk (below_step HB.out hb_)
   have n_HXc := Aside0.mk (blk_below HXc.out hb_)
   have n_HXp := Aside0.mk (blk_below HXp.out hb_)
   have n_HRi := Aside0.mk (Kd.R_below HRi.out hb_)
   have n_HRo := Aside0.mk (Kd.R_below HRo.out hb_)
   clear HB HXc HXp HRi HRo hb_
   have HB := n_HB
   have HXc := n_HXc
   have HXp := n_HXp
   have HRi := n_HRi
   have HRo := n_HRo
   clear n_HB n_HXc n_HXp n_HRi n_HRo
   clear hb
   generalize w10.drewN nd = w11 at HB HXc HXp HRi HRo hcl2_ ⊢
   obtain ⟨hcb, hfb⟩ := Kd.R_cell (0 : Int) HRo.out (jo : Int) (by omega) (by omega)
   have HJ8 : Aside0 (((jo : Int) < (fo.length : Int)) = True) := ⟨eq_true (by omega)⟩
   have z8 := HJ8.out
   have zc : w11.cell? ⟨go, jo, none⟩ = some (.int .u8 (rd fo (jo : Int))) := hcb
   have zf : w11.frozen? ⟨go, jo, none⟩ = false := hfb
   clear hcb hfb hjl
   (try dsimp only)
   go_upto_region 9 with (fail)
   clear z8 zc zf
   have off_ := Off.setCell w11 go jo (.int .u8 (Go.bits .xor .u8 (rd fo (jo : Int)) x))
   have n_HRo : Aside0 (Kd.R (Kd.int .u8) 5 (w11.setCell ⟨go, jo, none⟩ (.int .u8 (Go.bits .xor .u8 (rd fo (jo : Int)) x))) w.heap.size (fun _ => True) (.slice (some ⟨go, 0, none⟩) fo.length co) (fo.set jo (Go.bits .xor .u8 (rd fo (jo : Int)) x))) := ⟨Kd.R_putn HRo.out (jo : Int) (Go.bits .xor .u8 (rd fo (jo : Int)) x)⟩
   have n_HRi := Aside0.mk (Off.Rne off_ HRi.out (fun k hk e => HNE.out k go hk (by rfl) e))
   have n_HXc := Aside0.mk (Off.blk off_ HXc.out hcl2_.out (by decide))
   have n_HXp := Aside0.mk (Off.blk off_ HXp.out hcl2_.out (by decide))
   have n_HB := Aside0.mk (Off.below off_ HB.out HGo.out)
   clear HRi HRo HXc HXp HB off_ hcl2_ HJ8
   have HRi := n_HRi
   have HRo := n_HRo
   have HXc := n_HXc
   have HXp := n_HXp
   have HB := n_HB
   clear n_HRi n_HRo n_HXc n_HXp n_HB
   generalize w11.setCell ⟨go, jo, none⟩ (.int .u8 (Go.bits .xor .u8 (rd fo (jo : Int)) x)) = w12 at HRi HRo HXc HXp HB ⊢
   have hset : (fo.set jo (Go.bits .xor .u8 (rd fo (jo : Int)) x)).length = fo.length := List.length_set
   have HSO := Aside0.mk hset
   clear hset HXp HNE
   go_upto_region 11 with (((with_reducible refine gate_dst (N := 65) rfl ?_); refine rw_lit ?hg_ (cs := #[.slice A1 l1.length c1, .slice (some ⟨gi, 0, none⟩) fi.length ci, .slice (some ⟨go, 0, none⟩) fo.length co]) (t := 23) (n := 3) ?hr_ ?_; (case hg_ => rfl); (case hr_ => first | (go_simp; done) | (go_simp; rfl)); intro gl w20 HXl0 hgl hb0_; have HXl := Aside0.mk HXl0; clear HXl0 hgl; have hb_ := hb0_; have n_HB := Aside0.mk (below_step HB.out hb_); have n_HXc := Aside0.mk (blk_below HXc.out hb_); have n_HRi := Aside0.mk (Kd.R_below HRi.out hb_); have n_HRo := Aside0.mk (Kd.R_below HRo.out hb_); clear HB HXc HRi HRo hb_; have HB := n_HB; have HXc := n_HXc; have HRi := n_HRi; have HRo := n_HRo; clear n_HB n_HXc n_HRi n_HRo; clear hb0_))
   obtain ⟨xi, hxi⟩ : ∃ xi, xi = (fi.set ji (Go.bits .xor .u8 (rd fi (ji : Int)) x)) := ⟨_, rfl⟩
   obtain ⟨xo, hxo⟩ : ∃ xo, xo = (fo.set jo (Go.bits .xor .u8 (rd fo (jo : Int)) x)) := ⟨_, rfl⟩
   have HXI : Aside0 (IsB xi ∧ xi.length ≤ 2000) := ⟨⟨by rw [hxi]; exact HFIB.out.set _ (bits_r8 _ _ _), by rw [hxi, HSI.out]; exact Hi9.out⟩⟩
   have HXO : Aside0 (IsB xo ∧ xo.length ≤ 2000) := ⟨⟨by rw [hxo]; exact HFOB.out.set _ (bits_r8 _ _ _), by rw [hxo, HSO.out]; exact Ho9.out⟩⟩
   have hli : fi.length = xi.length := by rw [hxi, HSI.out]
   have hlo : fo.length = xo.length := by rw [hxo, HSO.out]
   have n_HRi := HRi.out
   have n_HRo := HRo.out
   have n_HXl := HXl.out
   rw [← hxi, hli] at n_HRi
   rw [← hxo, hlo] at n_HRo
   rw [hli, hlo] at n_HXl
   clear HRi HRo HXl
   have HRi := Aside0.mk n_HRi
   have HRo := Aside0.mk n_HRo
   have HXl := Aside0.mk n_HXl
   clear n_HRi n_HRo n_HXl hxi hxo HSI HSO
   rw [hli, hlo]
   clear hli hlo
   go_loopg [15] 3 (fun kq v15 w' => ∃ (j : Nat), v15 = .int .i64 (j : Int) ∧ Aside0 (kq + j = 3) ∧ Aside0 (Kd.R (Kd.int .u8) 5 w' w.heap.size (fun _ => True) (.slice (some ⟨gi, 0, none⟩) xi.length ci) xi) ∧ Aside0 (Kd.R (Kd.int .u8) 5 w' w.heap.size (fun _ => True) (.slice (some ⟨go, 0, none⟩) xo.length co) xo) ∧ Aside0 (w'.heap[gc]? = some (.cells #[.int .u32 168362184, .int .u8 2, .int .u8 1, .int .u8 0, .int .u8 0, .int .u8 0, .int .u8 0, .int .u8 2, .int .u8 2, .int .u8 0, .int .u8 0, .int .u8 0, .int .u8 0, .int .u8 2, .int .u8 3, .int .u8 0, .int .u8 0, .int .u8 0, .int .u8 0, .int .u8 200, .int .u8 0, .int .u8 0, .int .u8 0, .int .u8 0, .int .u8 0, .int .u8 0, .int .u8 0, .int .u32 1, .slice At nt ct] 33 (0, 0))) ∧ Aside0 (w'.heap[gl]? = some (.cells #[.slice A1 l1.length c1, .slice (some ⟨gi, 0, none⟩) xi.length ci, .slice (some ⟨go, 0, none⟩) xo.length co] 23 (0, 0))) ∧ Aside0 (Below w.heap.size w w'))
   case atStart => exact ⟨0, rfl, ⟨rfl⟩, ⟨HRi.out⟩, ⟨HRo.out⟩, ⟨HXc.out⟩, ⟨HXl.out⟩, ⟨HB.out⟩⟩
   case round =>
    clear HRi HRo HXc HXl HB
    obtain ⟨j, rfl, Hk, HRi, HRo, HXc, HXl, HB⟩ := hrel
    by_cases c6 : j < 3
    ·have HJ3 : Aside0 (((j : Int) < 3) = True) := ⟨eq_true (by omega)⟩
     have HJN := Aside0.mk c6
     obtain ⟨A, c, xs, hcell, hC, hLx, hBx, hNx⟩ : ∃ (A : Option Addr) (c : Nat) (xs : List Int), (∀ W : World, W.heap[gl]? = some (.cells #[.slice A1 l1.length c1, .slice (some ⟨gi, 0, none⟩) xi.length ci, .slice (some ⟨go, 0, none⟩) xo.length co] 23 (0, 0)) → W.cell? ⟨gl, j, none⟩ = some (.slice A xs.length c)) ∧ Kd.C (Kd.int .u8) wr A xs.length xs ∧ xs.length ≤ c ∧ IsB xs ∧ xs.length ≤ 2000 := by
      have h3 : j = 0 ∨ j = 1 ∨ j = 2 := by omega
      rcases h3 with rfl | rfl | rfl
      ·exact ⟨A1, c1, l1, fun W h => (blk_cell h 0).trans rfl, Kd.C_below HC1.out HB.out, HL1.out, HIB.out, HN2.out⟩
      ·exact ⟨_, ci, xi, fun W h => (blk_cell h 1).trans rfl, (Kd.R_reads' HRi.out).2.2, (Kd.R_reads' HRi.out).2.1, HXI.out.1, HXI.out.2⟩
      ·exact ⟨_, co, xo, fun W h => (blk_cell h 2).trans rfl, (Kd.R_reads' HRo.out).2.2, (Kd.R_reads' HRo.out).2.1, HXO.out.1, HXO.out.2⟩
     obtain ⟨r1i, r2i, r3i, e1, e2⟩ := ins_ref 168362184 2 1 0 0 0 0 xs hBx hNx
     obtain ⟨r1o, r2o, r3o, e3, e4⟩ := outs_ref 2 2 0 0 0 0 xs hBx hNx
     have HCELL := Aside0.mk hcell
     have HCx := Aside0.mk hC
     have HLx := Aside0.mk hLx
     have HEia := Aside0.mk e1
     have HEib := Aside0.mk e2
     have HEoa := Aside0.mk e3
     have HEob := Aside0.mk e4
     clear hcell hC hLx hBx hNx e1 e2 e3 e4
     have cja : decide ((j : Int) < 3) = true := decide_eq_true (by omega)
     have cjb : ((j : Int) < 3) = True := eq_true (by omega)
     clear c6
     go_upto_region 13 with (fail)
     clear cja cjb
     refine start_ (n := 13) (S := fun w' => w'.heap[gc]? = some (.cells #[.int .u32 168362184, .int .u8 2, .int .u8 1, .int .u8 0, .int .u8 0, .int .u8 0, .int .u8 0, .int .u8 2, .int .u8 2, .int .u8 0, .int .u8 0, .int .u8 0, .int .u8 0, .int .u8 2, .int .u8 3, .int .u8 0, .int .u8 0, .int .u8 0, .int .u8 0, .int .u8 200, .int .u8 0, .int .u8 0, .int .u8 0, .int .u8 0, .int .u8 0, .int .u8 0, .int .u8 0, .int .u32 1, .slice At nt ct] 33 (0, 0)) ∧ w'.cell? ⟨gl, j, none⟩ = some (.slice A xs.length c)) (ds := []) #[false, false, false, false, false, false, false, false, false, false, false, false, false] (by kernel_rfl) rfl rfl ⟨HXc.out, by have := HXl.out; exact HCELL.out _ HXl.out⟩ (fun hHeld => ?_)
     refine with_tabW framesRead.R13.tab framesRead.R13.bits (fun HT_ HW_ => ?_)
     have hb := below_drew1 (Below.refl wr.heap.size wr)
     have hb_ := hb
     have n_HB := Aside0.mk (below_step HB.out hb_)
     have n_HXc := Aside0.mk (blk_below HXc.out hb_)
     have n_HXl := Aside0.mk (blk_below HXl.out hb_)
     have n_HRi := Aside0.mk (Kd.R_below HRi.out hb_)
     have n_HRo := Aside0.mk (Kd.R_below HRo.out hb_)
     have n_HCx := Aside0.mk (Kd.C_below HCx.out hb_)
     clear HB HXc HXl HRi HRo HCx hb_
     have HB := n_HB
     have HXc := n_HXc
     have HXl := n_HXl
     have HRi := n_HRi
     have HRo := n_HRo
     have HCx := n_HCx
     clear n_HB n_HXc n_HXl n_HRi n_HRo n_HCx
     clear hb
     generalize wr.drew = wr at HB HXc HXl HRi HRo HCx hHeld ⊢
     refine pz 1 72 HT_ ?_
     refine pz 2 73 HT_ ?_
     refine pure_ (i := 3) (N := some 74) (v := ?_) (a' := ?_) #[false, true, true, true, false, false, false, false, false, false, false, false, false] rfl rfl (any_of HT_.out (by kernel_rfl)) (fun _ _ _ h => h) (Or.inl ⟨by rfl, ?_⟩) ?_ ?_
     rotate_left
     ·intro w'
      have z8 := HJ3.out
      go_simp
      with_reducible rfl
     rotate_left
     ·simp only [ps_]
      rfl
     refine take_ (i := 0) (N := some 71) (v := (.agg #[.int .u32 168362184, .int .u8 2, .int .u8 1, .int .u8 0, .int .u8 0, .int .u8 0, .int .u8 0, .int .u8 2, .int .u8 2, .int .u8 0, .int .u8 0, .int .u8 0, .int .u8 0, .int .u8 2, .int .u8 3, .int .u8 0, .int .u8 0, .int .u8 0, .int .u8 0, .int .u8 200, .int .u8 0, .int .u8 0, .int .u8 0, .int .u8 0, .int .u8 0, .int .u8 0, .int .u8 0, .int .u32 1, .slice At nt ct])) #[true, true, true, true, false, false, false, false, false, false, false, false, false] rfl rfl (take_ofW HT_.out HW_.out (by kernel_rfl)) (fun _ _ _ h => h) (Or.inl ⟨by rfl, fun w' s0 => ?_⟩) hHeld rfl ?_
     ·obtain ⟨s0, s1⟩ := s0
      exact rw_load (p := .tmp 11) (ty := 33) (by rfl) (by rfl) s0 hu33 (by rfl) HI33.out
     refine nz 71 ?_
     refine tz 4 75 HT_ HW_ hHeld ?_
     refine oz 5 (some 76) HT_ (fun K hK => ?_)
     refine goes_ Try.func20 (by kernel_rfl) rfl #[.agg #[.int .u32 168362184, .int .u8 2, .int .u8 1, .int .u8 0, .int .u8 0, .int .u8 0, .int .u8 0, .int .u8 2, .int .u8 2, .int .u8 0, .int .u8 0, .int .u8 0, .int .u8 0, .int .u8 2, .int .u8 3, .int .u8 0, .int .u8 0, .int .u8 0, .int .u8 0, .int .u8 200, .int .u8 0, .int .u8 0, .int .u8 0, .int .u8 0, .int .u8 0, .int .u8 0, .int .u8 0, .int .u32 1, .slice At nt ct], .slice A xs.length c] (by rfl) rfl rfl (by first | rfl | (go_simp; done) | (go_simp; rfl) | (go_simp; decide)) ?_
     refine (frames_Inside.calls 4000 _ _ _ _ _ _ _ _ _ _ _ _ _ _ _ _ _ _ _ _ _ _ _ _ _ _ _ _ _ _ _ _ _ xs r1i r2i r3i _ HCx.out HLx.out HEia.out).mono ?_
     rintro e w21 ⟨v_, rfl, ho, hb⟩
     obtain ⟨Aa, ca, rfl, hca, hka⟩ := Kd.R_reads ho
     have HCa := Aside0.mk hka
     have HLa := Aside0.mk hca
     clear hka hca
     refine ⟨_, rfl, ?_⟩
     clear ho
     have hb_ := hb
     have n_HB := Aside0.mk (below_step HB.out hb_)
     have n_HXc := Aside0.mk (blk_below HXc.out hb_)
     have n_HXl := Aside0.mk (blk_below HXl.out hb_)
     have n_HRi := Aside0.mk (Kd.R_below HRi.out hb_)
     have n_HRo := Aside0.mk (Kd.R_below HRo.out hb_)
     have n_HCx := Aside0.mk (Kd.C_below HCx.out hb_)
     clear HB HXc HXl HRi HRo HCx hb_
     have HB := n_HB
     have HXc := n_HXc
     have HXl := n_HXl
     have HRi := n_HRi
     have HRo := n_HRo
     have HCx := n_HCx
     clear n_HB n_HXc n_HXl n_HRi n_HRo n_HCx
     clear hb
     refine hK.out _ _ ⟨HXc.out, by have := HXl.out; exact HCELL.out _ HXl.out⟩ (fun hHeld => ?_)
     clear hK K
     refine nz 76 ?_
     refine pz 6 70 HT_ ?_
     refine pz 7 77 HT_ ?_
     refine pz 8 78 HT_ ?_
     refine pz 9 79 HT_ ?_
     refine pz 10 16 HT_ ?_
     refine pz 11 17 HT_ ?_
     refine pz 12 18 HT_ ?_
     refine dz HT_ ?_
     clear HT_ HW_ hHeld
     (try dsimp only)
     go_upto_region 14 with (fail)
     refine start_ (n := 13) (S := fun w' => w'.heap[gc]? = some (.cells #[.int .u32 168362184, .int .u8 2, .int .u8 1, .int .u8 0, .int .u8 0, .int .u8 0, .int .u8 0, .int .u8 2, .int .u8 2, .int .u8 0, .int .u8 0, .int .u8 0, .int .u8 0, .int .u8 2, .int .u8 3, .int .u8 0, .int .u8 0, .int .u8 0, .int .u8 0, .int .u8 200, .int .u8 0, .int .u8 0, .int .u8 0, .int .u8 0, .int .u8 0, .int .u8 0, .int .u8 0, .int .u32 1, .slice At nt ct] 33 (0, 0)) ∧ w'.cell? ⟨gl, j, none⟩ = some (.slice A xs.length c)) (ds := []) #[false, false, false, false, false, false, false, false, false, false, false, false, false] (by kernel_rfl) rfl rfl ⟨HXc.out, by have := HXl.out; exact HCELL.out _ HXl.out⟩ (fun hHeld => ?_)
     refine with_tabW framesRead.R14.tab framesRead.R14.bits (fun HT_ HW_ => ?_)
     have hb := below_drew1 (Below.refl w21.heap.size w21)
     have hb_ := hb
     have n_HB := Aside0.mk (below_step HB.out hb_)
     have n_HXc := Aside0.mk (blk_below HXc.out hb_)
     have n_HXl := Aside0.mk (blk_below HXl.out hb_)
     have n_HRi := Aside0.mk (Kd.R_below HRi.out hb_)
     have n_HRo := Aside0.mk (Kd.R_below HRo.out hb_)
     have n_HCx := Aside0.mk (Kd.C_below HCx.out hb_)
     have n_HCa := Aside0.mk (Kd.C_below HCa.out hb_)
     clear HB HXc HXl HRi HRo HCx HCa hb_
     have HB := n_HB
     have HXc := n_HXc
     have HXl := n_HXl
     have HRi := n_HRi
     have HRo := n_HRo
     have HCx := n_HCx
     have HCa := n_HCa
     clear n_HB n_HXc n_HXl n_HRi n_HRo n_HCx n_HCa
     clear hb
     generalize w21.drew = w21 at HB HXc HXl HRi HRo HCx HCa hHeld ⊢
     refine pz 1 82 HT_ ?_
     refine pz 2 83 HT_ ?_
     refine pure_ (i := 3) (N := some 84) (v := ?_) (a' := ?_) #[false, true, true, true, false, false, false, false, false, false, false, false, false] rfl rfl (any_of HT_.out (by kernel_rfl)) (fun _ _ _ h => h) (Or.inl ⟨by rfl, ?_⟩) ?_ ?_
     rotate_left
     ·intro w'
      have z8 := HJ3.out
      go_simp
      with_reducible rfl
     rotate_left
     ·simp only [ps_]
      rfl
     refine take_ (i := 0) (N := some 81) (v := (.agg #[.int .u32 168362184, .int .u8 2, .int .u8 1, .int .u8 0, .int .u8 0, .int .u8 0, .int .u8 0, .int .u8 2, .int .u8 2, .int .u8 0, .int .u8 0, .int .u8 0, .int .u8 0, .int .u8 2, .int .u8 3, .int .u8 0, .int .u8 0, .int .u8 0, .int .u8 0, .int .u8 200, .int .u8 0, .int .u8 0, .int .u8 0, .int .u8 0, .int .u8 0, .int .u8 0, .int .u8 0, .int .u32 1, .slice At nt ct])) #[true, true, true, true, false, false, false, false, false, false, false, false, false] rfl rfl (take_ofW HT_.out HW_.out (by kernel_rfl)) (fun _ _ _ h => h) (Or.inl ⟨by rfl, fun w' s0 => ?_⟩) hHeld rfl ?_
     ·obtain ⟨s0, s1⟩ := s0
      exact rw_load (p := .tmp 11) (ty := 33) (by rfl) (by rfl) s0 hu33 (by rfl) HI33.out
     refine nz 81 ?_
     refine tz 4 85 HT_ HW_ hHeld ?_
     refine oz 5 (some 86) HT_ (fun K hK => ?_)
     refine goes_ Try.func21 (by kernel_rfl) rfl #[.agg #[.int .u32 168362184, .int .u8 2, .int .u8 1, .int .u8 0, .int .u8 0, .int .u8 0, .int .u8 0, .int .u8 2, .int .u8 2, .int .u8 0, .int .u8 0, .int .u8 0, .int .u8 0, .int .u8 2, .int .u8 3, .int .u8 0, .int .u8 0, .int .u8 0, .int .u8 0, .int .u8 200, .int .u8 0, .int .u8 0, .int .u8 0, .int .u8 0, .int .u8 0, .int .u8 0, .int .u8 0, .int .u32 1, .slice At nt ct], .slice A xs.length c] (by rfl) rfl rfl (by first | rfl | (go_simp; done) | (go_simp; rfl) | (go_simp; decide)) ?_
     refine (ref22_Inside.calls 4000 _ _ _ _ _ _ _ _ _ _ _ _ _ _ _ _ _ _ _ _ _ _ _ _ _ _ _ _ _ _ _ _ _ xs r1i r2i r3i _ HCx.out HLx.out HEib.out).mono ?_
     rintro e w22 ⟨v_, rfl, ho, hb⟩
     obtain ⟨Ab, cb, rfl, hcb, hkb⟩ := Kd.R_reads ho
     have HCb := Aside0.mk hkb
     have HLb := Aside0.mk hcb
     clear hkb hcb
     refine ⟨_, rfl, ?_⟩
     clear ho
     have hb_ := hb
     have n_HB := Aside0.mk (below_step HB.out hb_)
     have n_HXc := Aside0.mk (blk_below HXc.out hb_)
     have n_HXl := Aside0.mk (blk_below HXl.out hb_)
     have n_HRi := Aside0.mk (Kd.R_below HRi.out hb_)
     have n_HRo := Aside0.mk (Kd.R_below HRo.out hb_)
     have n_HCx := Aside0.mk (Kd.C_below HCx.out hb_)
     have n_HCa := Aside0.mk (Kd.C_below HCa.out hb_)
     clear HB HXc HXl HRi HRo HCx HCa hb_
     have HB := n_HB
     have HXc := n_HXc
     have HXl := n_HXl
     have HRi := n_HRi
     have HRo := n_HRo
     have HCx := n_HCx
     have HCa := n_HCa
     clear n_HB n_HXc n_HXl n_HRi n_HRo n_HCx n_HCa
     clear hb
     refine hK.out _ _ ⟨HXc.out, by have := HXl.out; exact HCELL.out _ HXl.out⟩ (fun hHeld => ?_)
     clear hK K
     refine nz 86 ?_
     refine pz 6 80 HT_ ?_
     refine pz 7 87 HT_ ?_
     refine pz 8 88 HT_ ?_
     refine pz 9 89 HT_ ?_
     refine pz 10 19 HT_ ?_
     refine pz 11 20 HT_ ?_
     refine pz 12 21 HT_ ?_
     refine dz HT_ ?_
     clear HT_ HW_ hHeld
     (try dsimp only)
     go_wp2_with fail
     refine (lychhelp_Bytes.calls Aa ca r2i Ab cb r2i true _ HCa.out HLa.out HCb.out HLb.out (bytes_refl r2i)).mono ?_
     rintro e w23_ ⟨rfl, ⟨nd, rfl⟩⟩
     have hb := pw_below_drewN (Below.refl w22.heap.size w22) nd
     clear HCa HLa HCb HLb
     have hb_ := hb
     have n_HB := Aside0.mk (below_step HB.out hb_)
     have n_HXc := Aside0.mk (blk_below HXc.out hb_)
     have n_HXl := Aside0.mk (blk_below HXl.out hb_)
     have n_HRi := Aside0.mk (Kd.R_below HRi.out hb_)
     have n_HRo := Aside0.mk (Kd.R_below HRo.out hb_)
     have n_HCx := Aside0.mk (Kd.C_below HCx.out hb_)
     clear HB HXc HXl HRi HRo HCx hb_
     have HB := n_HB
     have HXc := n_HXc
     have HXl := n_HXl
     have HRi := n_HRi
     have HRo := n_HRo
     have HCx := n_HCx
     clear n_HB n_HXc n_HXl n_HRi n_HRo n_HCx
     clear hb
     generalize w22.drewN nd = w23 at HB HXc HXl HRi HRo HCx ⊢
     (try dsimp only)
     go_upto_region 17 with (fail)
     refine start_ (n := 13) (S := fun w' => w'.heap[gc]? = some (.cells #[.int .u32 168362184, .int .u8 2, .int .u8 1, .int .u8 0, .int .u8 0, .int .u8 0, .int .u8 0, .int .u8 2, .int .u8 2, .int .u8 0, .int .u8 0, .int .u8 0, .int .u8 0, .int .u8 2, .int .u8 3, .int .u8 0, .int .u8 0, .int .u8 0, .int .u8 0, .int .u8 200, .int .u8 0, .int .u8 0, .int .u8 0, .int .u8 0, .int .u8 0, .int .u8 0, .int .u8 0, .int .u32 1, .slice At nt ct] 33 (0, 0)) ∧ w'.cell? ⟨gl, j, none⟩ = some (.slice A xs.length c)) (ds := []) #[false, false, false, false, false, false, false, false, false, false, false, false, false] (by kernel_rfl) rfl rfl ⟨HXc.out, by have := HXl.out; exact HCELL.out _ HXl.out⟩ (fun hHeld => ?_)
     refine with_tabW framesRead.R17.tab framesRead.R17.bits (fun HT_ HW_ => ?_)
     have hb := below_drew1 (Below.refl w23.heap.size w23)
     have hb_ := hb
     have n_HB := Aside0.mk (below_step HB.out hb_)
     have n_HXc := Aside0.mk (blk_below HXc.out hb_)
     have n_HXl := Aside0.mk (blk_below HXl.out hb_)
     have n_HRi := Aside0.mk (Kd.R_below HRi.out hb_)
     have n_HRo := Aside0.mk (Kd.R_below HRo.out hb_)
     have n_HCx := Aside0.mk (Kd.C_below HCx.out hb_)
     clear HB HXc HXl HRi HRo HCx hb_
     have HB := n_HB
     have HXc := n_HXc
     have HXl := n_HXl
     have HRi := n_HRi
     have HRo := n_HRo
     have HCx := n_HCx
     clear n_HB n_HXc n_HXl n_HRi n_HRo n_HCx
     clear hb
     generalize w23.drew = w23 at HB HXc HXl HRi HRo HCx hHeld ⊢
     refine pz 1 106 HT_ ?_
     refine pz 2 107 HT_ ?_
     refine pure_ (i := 3) (N := some 108) (v := ?_) (a' := ?_) #[false, true, true, true, false, false, false, false, false, false, false, false, false] rfl rfl (any_of HT_.out (by kernel_rfl)) (fun _ _ _ h => h) (Or.inl ⟨by rfl, ?_⟩) ?_ ?_
     rotate_left
     ·intro w'
      have z8 := HJ3.out
      go_simp
      with_reducible rfl
     rotate_left
     ·simp only [ps_]
      rfl
     refine take_ (i := 0) (N := some 105) (v := (.agg #[.int .u32 168362184, .int .u8 2, .int .u8 1, .int .u8 0, .int .u8 0, .int .u8 0, .int .u8 0, .int .u8 2, .int .u8 2, .int .u8 0, .int .u8 0, .int .u8 0, .int .u8 0, .int .u8 2, .int .u8 3, .int .u8 0, .int .u8 0, .int .u8 0, .int .u8 0, .int .u8 200, .int .u8 0, .int .u8 0, .int .u8 0, .int .u8 0, .int .u8 0, .int .u8 0, .int .u8 0, .int .u32 1, .slice At nt ct])) #[true, true, true, true, false, false, false, false, false, false, false, false, false] rfl rfl (take_ofW HT_.out HW_.out (by kernel_rfl)) (fun _ _ _ h => h) (Or.inl ⟨by rfl, fun w' s0 => ?_⟩) hHeld rfl ?_
     ·obtain ⟨s0, s1⟩ := s0
      exact rw_load (p := .tmp 11) (ty := 33) (by rfl) (by rfl) s0 hu33 (by rfl) HI33.out
     refine nz 105 ?_
     refine tz 4 109 HT_ HW_ hHeld ?_
     refine oz 5 (some 110) HT_ (fun K hK => ?_)
     refine goes_ Try.func23 (by kernel_rfl) rfl #[.agg #[.int .u32 168362184, .int .u8 2, .int .u8 1, .int .u8 0, .int .u8 0, .int .u8 0, .int .u8 0, .int .u8 2, .int .u8 2, .int .u8 0, .int .u8 0, .int .u8 0, .int .u8 0, .int .u8 2, .int .u8 3, .int .u8 0, .int .u8 0, .int .u8 0, .int .u8 0, .int .u8 200, .int .u8 0, .int .u8 0, .int .u8 0, .int .u8 0, .int .u8 0, .int .u8 0, .int .u8 0, .int .u32 1, .slice At nt ct], .slice A xs.length c] (by rfl) rfl rfl (by first | rfl | (go_simp; done) | (go_simp; rfl) | (go_simp; decide)) ?_
     refine (frames_Outside.calls' 4000 _ _ _ _ _ _ _ _ _ _ _ _ _ _ _ _ _ _ _ _ _ _ _ _ _ _ _ _ _ _ _ _ _ xs r1o r2o r3o _ HCx.out HLx.out HEoa.out).mono ?_
     rintro e w24 ⟨v_, rfl, ho, hb⟩
     obtain ⟨Aa, ca, rfl, hca, hka⟩ := Kd.R_reads ho
     have HCa := Aside0.mk hka
     have HLa := Aside0.mk hca
     clear hka hca
     refine ⟨_, rfl, ?_⟩
     clear ho
     have hb_ := hb
     have n_HB := Aside0.mk (below_step HB.out hb_)
     have n_HXc := Aside0.mk (blk_below HXc.out hb_)
     have n_HXl := Aside0.mk (blk_below HXl.out hb_)
     have n_HRi := Aside0.mk (Kd.R_below HRi.out hb_)
     have n_HRo := Aside0.mk (Kd.R_below HRo.out hb_)
     have n_HCx := Aside0.mk (Kd.C_below HCx.out hb_)
     clear HB HXc HXl HRi HRo HCx hb_
     have HB := n_HB
     have HXc := n_HXc
     have HXl := n_HXl
     have HRi := n_HRi
     have HRo := n_HRo
     have HCx := n_HCx
     clear n_HB n_HXc n_HXl n_HRi n_HRo n_HCx
     clear hb
     refine hK.out _ _ ⟨HXc.out, by have := HXl.out; exact HCELL.out _ HXl.out⟩ (fun hHeld => ?_)
     clear hK K
     refine nz 110 ?_
     refine pz 6 104 HT_ ?_
     refine pz 7 111 HT_ ?_
     refine pz 8 112 HT_ ?_
     refine pz 9 113 HT_ ?_
     refine pz 10 16 HT_ ?_
     refine pz 11 17 HT_ ?_
     refine pz 12 18 HT_ ?_
     refine dz HT_ ?_
     clear HT_ HW_ hHeld
     (try dsimp only)
     go_upto_region 18 with (fail)
     refine start_ (n := 13) (S := fun w' => w'.heap[gc]? = some (.cells #[.int .u32 168362184, .int .u8 2, .int .u8 1, .int .u8 0, .int .u8 0, .int .u8 0, .int .u8 0, .int .u8 2, .int .u8 2, .int .u8 0, .int .u8 0, .int .u8 0, .int .u8 0, .int .u8 2, .int .u8 3, .int .u8 0, .int .u8 0, .int .u8 0, .int .u8 0, .int .u8 200, .int .u8 0, .int .u8 0, .int .u8 0, .int .u8 0, .int .u8 0, .int .u8 0, .int .u8 0, .int .u32 1, .slice At nt ct] 33 (0, 0)) ∧ w'.cell? ⟨gl, j, none⟩ = some (.slice A xs.length c)) (ds := []) #[false, false, false, false, false, false, false, false, false, false, false, false, false] (by kernel_rfl) rfl rfl ⟨HXc.out, by have := HXl.out; exact HCELL.out _ HXl.out⟩ (fun hHeld => ?_)
     refine with_tabW framesRead.R18.tab framesRead.R18.bits (fun HT_ HW_ => ?_)
     have hb := below_drew1 (Below.refl w24.heap.size w24)
     have hb_ := hb
     have n_HB := Aside0.mk (below_step HB.out hb_)
     have n_HXc := Aside0.mk (blk_below HXc.out hb_)
     have n_HXl := Aside0.mk (blk_below HXl.out hb_)
     have n_HRi := Aside0.mk (Kd.R_below HRi.out hb_)
     have n_HRo := Aside0.mk (Kd.R_below HRo.out hb_)
     have n_HCx := Aside0.mk (Kd.C_below HCx.out hb_)
     have n_HCa := Aside0.mk (Kd.C_below HCa.out hb_)
     clear HB HXc HXl HRi HRo HCx HCa hb_
     have HB := n_HB
     have HXc := n_HXc
     have HXl := n_HXl
     have HRi := n_HRi
     have HRo := n_HRo
     have HCx := n_HCx
     have HCa := n_HCa
     clear n_HB n_HXc n_HXl n_HRi n_HRo n_HCx n_HCa
     clear hb
     generalize w24.drew = w24 at HB HXc HXl HRi HRo HCx HCa hHeld ⊢
     refine pz 1 116 HT_ ?_
     refine pz 2 117 HT_ ?_
     refine pure_ (i := 3) (N := some 118) (v := ?_) (a' := ?_) #[false, true, true, true, false, false, false, false, false, false, false, false, false] rfl rfl (any_of HT_.out (by kernel_rfl)) (fun _ _ _ h => h) (Or.inl ⟨by rfl, ?_⟩) ?_ ?_
     rotate_left
     ·intro w'
      have z8 := HJ3.out
      go_simp
      with_reducible rfl
     rotate_left
     ·simp only [ps_]
      rfl
     refine take_ (i := 0) (N := some 115) (v := (.agg #[.int .u32 168362184, .int .u8 2, .int .u8 1, .int .u8 0, .int .u8 0, .int .u8 0, .int .u8 0, .int .u8 2, .int .u8 2, .int .u8 0, .int .u8 0, .int .u8 0, .int .u8 0, .int .u8 2, .int .u8 3, .int .u8 0, .int .u8 0, .int .u8 0, .int .u8 0, .int .u8 200, .int .u8 0, .int .u8 0, .int .u8 0, .int .u8 0, .int .u8 0, .int .u8 0, .int .u8 0, .int .u32 1, .slice At nt ct])) #[true, true, true, true, false, false, false, false, false, false, false, false, false] rfl rfl (take_ofW HT_.out HW_.out (by kernel_rfl)) (fun _ _ _ h => h) (Or.inl ⟨by rfl, fun w' s0 => ?_⟩) hHeld rfl ?_
     ·obtain ⟨s0, s1⟩ := s0
      exact rw_load (p := .tmp 11) (ty := 33) (by rfl) (by rfl) s0 hu33 (by rfl) HI33.out
     refine nz 115 ?_
     refine tz 4 119 HT_ HW_ hHeld ?_
     refine oz 5 (some 120) HT_ (fun K hK => ?_)
     refine goes_ Try.func24 (by kernel_rfl) rfl #[.agg #[.int .u32 168362184, .int .u8 2, .int .u8 1, .int .u8 0, .int .u8 0, .int .u8 0, .int .u8 0, .int .u8 2, .int .u8 2, .int .u8 0, .int .u8 0, .int .u8 0, .int .u8 0, .int .u8 2, .int .u8 3, .int .u8 0, .int .u8 0, .int .u8 0, .int .u8 0, .int .u8 200, .int .u8 0, .int .u8 0, .int .u8 0, .int .u8 0, .int .u8 0, .int .u8 0, .int .u8 0, .int .u32 1, .slice At nt ct], .slice A xs.length c] (by rfl) rfl rfl (by first | rfl | (go_simp; done) | (go_simp; rfl) | (go_simp; decide)) ?_
     refine (ref22_Outside.calls 4000 _ _ _ _ _ _ _ _ _ _ _ _ _ _ _ _ _ _ _ _ _ _ _ _ _ _ _ _ _ _ _ _ _ xs r1o r2o r3o _ HCx.out HLx.out HEob.out).mono ?_
     rintro e w25 ⟨v_, rfl, ho, hb⟩
     obtain ⟨Ab, cb, rfl, hcb, hkb⟩ := Kd.R_reads ho
     have HCb := Aside0.mk hkb
     have HLb := Aside0.mk hcb
     clear hkb hcb
     refine ⟨_, rfl, ?_⟩
     clear ho
     have hb_ := hb
     have n_HB := Aside0.mk (below_step HB.out hb_)
     have n_HXc := Aside0.mk (blk_below HXc.out hb_)
     have n_HXl := Aside0.mk (blk_below HXl.out hb_)
     have n_HRi := Aside0.mk (Kd.R_below HRi.out hb_)
     have n_HRo := Aside0.mk (Kd.R_below HRo.out hb_)
     have n_HCx := Aside0.mk (Kd.C_below HCx.out hb_)
     have n_HCa := Aside0.mk (Kd.C_below HCa.out hb_)
     clear HB HXc HXl HRi HRo HCx HCa hb_
     have HB := n_HB
     have HXc := n_HXc
     have HXl := n_HXl
     have HRi := n_HRi
     have HRo := n_HRo
     have HCx := n_HCx
     have HCa := n_HCa
     clear n_HB n_HXc n_HXl n_HRi n_HRo n_HCx n_HCa
     clear hb
     refine hK.out _ _ ⟨HXc.out, by have := HXl.out; exact HCELL.out _ HXl.out⟩ (fun hHeld => ?_)
     clear hK K
     refine nz 120 ?_
     refine pz 6 114 HT_ ?_
     refine pz 7 121 HT_ ?_
     refine pz 8 122 HT_ ?_
     refine pz 9 123 HT_ ?_
     refine pz 10 19 HT_ ?_
     refine pz 11 20 HT_ ?_
     refine pz 12 21 HT_ ?_
     refine dz HT_ ?_
     clear HT_ HW_ hHeld
     (try dsimp only)
     go_wp2_with fail
     refine (lychhelp_Bytes.calls Aa ca r2o Ab cb r2o true _ HCa.out HLa.out HCb.out HLb.out (bytes_refl r2o)).mono ?_
     rintro e w26_ ⟨rfl, ⟨nd, rfl⟩⟩
     have hb := pw_below_drewN (Below.refl w25.heap.size w25) nd
     clear HCa HLa HCb HLb
     have hb_ := hb
     have n_HB := Aside0.mk (below_step HB.out hb_)
     have n_HXc := Aside0.mk (blk_below HXc.out hb_)
     have n_HXl := Aside0.mk (blk_below HXl.out hb_)
     have n_HRi := Aside0.mk (Kd.R_below HRi.out hb_)
     have n_HRo := Aside0.mk (Kd.R_below HRo.out hb_)
     have n_HCx := Aside0.mk (Kd.C_below HCx.out hb_)
     clear HB HXc HXl HRi HRo HCx hb_
     have HB := n_HB
     have HXc := n_HXc
     have HXl := n_HXl
     have HRi := n_HRi
     have HRo := n_HRo
     have HCx := n_HCx
     clear n_HB n_HXc n_HXl n_HRi n_HRo n_HCx
     clear hb
     generalize w25.drewN nd = w26 at HB HXc HXl HRi HRo HCx ⊢
     (try dsimp only)
     go_wp2
     have w17_ : wrap64 ((j : Int) + 1) = ((j + 1 : Nat) : Int) := by unfold wrap64; have := HJN.out; omega
     go_roundg (gk - 1)
     case measure => have := Hk.out; have := HJN.out; omega
     case rel => exact ⟨j + 1, (by first | rfl | (simp [w17_]; done) | (simp only [w17_]; rfl)), ⟨by have := Hk.out; have := HJN.out; omega⟩, ⟨HRi.out⟩, ⟨HRo.out⟩, ⟨HXc.out⟩, ⟨HXl.out⟩, ⟨HB.out⟩⟩
    ·have cja : decide ((j : Int) < 3) = false := decide_eq_false (by omega)
     have cjb : ((j : Int) < 3) = False := eq_false (by omega)
     clear c6
     (try dsimp only)
     go_wp2
     (try simp only [Exit.inBlock, Exit.then])
     go_ret
     exact ⟨rfl, HB.out⟩
end Go.Proofs.Ytkmimamminddiaa.PB
/- lychseat.Pack and api.Point by value, opened. -/
namespace Go.Proofs.YtkmimamminddiaaW.AggWords
open Go.Joins Go.ChangeShapes Go.WideShapes Go.RowKit Go.Deep
set_option linter.unusedVariables false
set_option linter.unusedSimpArgs false
theorem cutp_ {l p : List Value} {a k b : Nat} (h : (l.drop a).take k = p) (hb : a + k = b) : l.drop a = p ++ l.drop b := by
 have h1 := (List.take_append_drop k (l.drop a)).symm
 rw [h, List.drop_drop, hb] at h1
 exact h1
section
variable {H : Type} {enc : TypeId × Value → H} {w : World} {base : Nat} {spare : Nat → Bool} {held : Bool}
theorem open_pack {r : Reach} {b0 : Nat} {v : Value} {d : DataW H} {p : List MemPlace} (hv : Value.okWide Try.prog w r b0 25 v) (h : DataW.Trod enc Try.prog w base spare held 25 v d p) :
  ∃ x0 x1 x2 x3 x4 x5 x6 x7 x8 x9 : Int, v = .agg #[.int .u8 x0, .int .u8 x1, .int .u8 x2, .int .u8 x3, .int .u8 x4, .int .u8 x5, .int .u8 x6, .int .u8 x7, .int .u8 x8, .int .u8 x9] ∧ (Lit.int .u8 x0).wf = true ∧ (Lit.int .u8 x1).wf = true ∧ (Lit.int .u8 x2).wf = true ∧ (Lit.int .u8 x3).wf = true ∧ (Lit.int .u8 x4).wf = true ∧ (Lit.int .u8 x5).wf = true ∧ (Lit.int .u8 x6).wf = true ∧ (Lit.int .u8 x7).wf = true ∧ (Lit.int .u8 x8).wf = true ∧ (Lit.int .u8 x9).wf = true := by
 have k5 : Try.prog.cellsOf 5 = 1 := by kernel_rfl
 have kT : Try.prog.cellsOf 25 = 10 := by kernel_rfl
 obtain ⟨cs, rfl, hsz⟩ := okWide_struct Try.underlying25 hv
 obtain ⟨l⟩ := cs
 obtain ⟨fuel, hf⟩ := h
 obtain ⟨xs, n, _, hx, hlc, hlen, hg⟩ := DataW.trod_struct Try.underlying25 hf
 have hl : l.length = 10 := hlc.trans kT
 have g0 : DataW.trod enc Try.prog w base spare held n 5 ((l.drop 0).take (Try.prog.cellsOf 5)) = xs[0]? := hg 0 _ rfl
 obtain ⟨y0, hy0⟩ : ∃ y, xs[0]? = some y := ⟨_, List.getElem?_eq_getElem (by rw [hlen]; decide)⟩
 rw [hy0, k5] at g0
 obtain ⟨x0, e0, _, w0⟩ := DataW.trod_int Try.underlying5 g0
 have g1 : DataW.trod enc Try.prog w base spare held n 5 ((l.drop 1).take (Try.prog.cellsOf 5)) = xs[1]? := hg 1 _ rfl
 obtain ⟨y1, hy1⟩ : ∃ y, xs[1]? = some y := ⟨_, List.getElem?_eq_getElem (by rw [hlen]; decide)⟩
 rw [hy1, k5] at g1
 obtain ⟨x1, e1, _, w1⟩ := DataW.trod_int Try.underlying5 g1
 have g2 : DataW.trod enc Try.prog w base spare held n 5 ((l.drop 2).take (Try.prog.cellsOf 5)) = xs[2]? := hg 2 _ rfl
 obtain ⟨y2, hy2⟩ : ∃ y, xs[2]? = some y := ⟨_, List.getElem?_eq_getElem (by rw [hlen]; decide)⟩
 rw [hy2, k5] at g2
 obtain ⟨x2, e2, _, w2⟩ := DataW.trod_int Try.underlying5 g2
 have g3 : DataW.trod enc Try.prog w base spare held n 5 ((l.drop 3).take (Try.prog.cellsOf 5)) = xs[3]? := hg 3 _ rfl
 obtain ⟨y3, hy3⟩ : ∃ y, xs[3]? = some y := ⟨_, List.getElem?_eq_getElem (by rw [hlen]; decide)⟩
 rw [hy3, k5] at g3
 obtain ⟨x3, e3, _, w3⟩ := DataW.trod_int Try.underlying5 g3
 have g4 : DataW.trod enc Try.prog w base spare held n 5 ((l.drop 4).take (Try.prog.cellsOf 5)) = xs[4]? := hg 4 _ rfl
 obtain ⟨y4, hy4⟩ : ∃ y, xs[4]? = some y := ⟨_, List.getElem?_eq_getElem (by rw [hlen]; decide)⟩
 rw [hy4, k5] at g4
 obtain ⟨x4, e4, _, w4⟩ := DataW.trod_int Try.underlying5 g4
 have g5 : DataW.trod enc Try.prog w base spare held n 5 ((l.drop 5).take (Try.prog.cellsOf 5)) = xs[5]? := hg 5 _ rfl
 obtain ⟨y5, hy5⟩ : ∃ y, xs[5]? = some y := ⟨_, List.getElem?_eq_getElem (by rw [hlen]; decide)⟩
 rw [hy5, k5] at g5
 obtain ⟨x5, e5, _, w5⟩ := DataW.trod_int Try.underlying5 g5
 have g6 : DataW.trod enc Try.prog w base spare held n 5 ((l.drop 6).take (Try.prog.cellsOf 5)) = xs[6]? := hg 6 _ rfl
 obtain ⟨y6, hy6⟩ : ∃ y, xs[6]? = some y := ⟨_, List.getElem?_eq_getElem (by rw [hlen]; decide)⟩
 rw [hy6, k5] at g6
 obtain ⟨x6, e6, _, w6⟩ := DataW.trod_int Try.underlying5 g6
 have g7 : DataW.trod enc Try.prog w base spare held n 5 ((l.drop 7).take (Try.prog.cellsOf 5)) = xs[7]? := hg 7 _ rfl
 obtain ⟨y7, hy7⟩ : ∃ y, xs[7]? = some y := ⟨_, List.getElem?_eq_getElem (by rw [hlen]; decide)⟩
 rw [hy7, k5] at g7
 obtain ⟨x7, e7, _, w7⟩ := DataW.trod_int Try.underlying5 g7
 have g8 : DataW.trod enc Try.prog w base spare held n 5 ((l.drop 8).take (Try.prog.cellsOf 5)) = xs[8]? := hg 8 _ rfl
 obtain ⟨y8, hy8⟩ : ∃ y, xs[8]? = some y := ⟨_, List.getElem?_eq_getElem (by rw [hlen]; decide)⟩
 rw [hy8, k5] at g8
 obtain ⟨x8, e8, _, w8⟩ := DataW.trod_int Try.underlying5 g8
 have g9 : DataW.trod enc Try.prog w base spare held n 5 ((l.drop 9).take (Try.prog.cellsOf 5)) = xs[9]? := hg 9 _ rfl
 obtain ⟨y9, hy9⟩ : ∃ y, xs[9]? = some y := ⟨_, List.getElem?_eq_getElem (by rw [hlen]; decide)⟩
 rw [hy9, k5] at g9
 obtain ⟨x9, e9, _, w9⟩ := DataW.trod_int Try.underlying5 g9
 have hd : l = l.drop 0 := rfl
 rw [cutp_ e0 (show 0 + 1 = 1 from rfl), cutp_ e1 (show 1 + 1 = 2 from rfl), cutp_ e2 (show 2 + 1 = 3 from rfl), cutp_ e3 (show 3 + 1 = 4 from rfl), cutp_ e4 (show 4 + 1 = 5 from rfl), cutp_ e5 (show 5 + 1 = 6 from rfl), cutp_ e6 (show 6 + 1 = 7 from rfl), cutp_ e7 (show 7 + 1 = 8 from rfl), cutp_ e8 (show 8 + 1 = 9 from rfl), cutp_ e9 (show 9 + 1 = 10 from rfl), List.drop_eq_nil_of_le (show l.length ≤ 10 by omega)] at hd
 subst hd
 exact ⟨x0, x1, x2, x3, x4, x5, x6, x7, x8, x9, rfl, w0, w1, w2, w3, w4, w5, w6, w7, w8, w9⟩
end
end Go.Proofs.YtkmimamminddiaaW.AggWords
