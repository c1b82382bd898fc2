/- Texts of this claim, merged: RwInM, RwEq, RwInB, RwAgg. -/
import Derived.Test.YtkmimamminddiaaZie
import Derived.Test.YtkmimamminddiaaZib
import Derived.Deep.Cut
import Derived.Deep.CutRange
import Derived.Deep.CutBlock
import Derived.Deep.WholeRow
import Derived.Test.YtkmimamminddiaaZid
import Derived.Test.YtkmimamminddiaaZia
import Derived.Test.YtkmimamminddiaaChecked
import Derived.OpenShut
import Derived.ChangeArms
set_option maxHeartbeats 40000000
set_option maxRecDepth 100000
set_option linter.unusedVariables false
set_option linter.unusedSimpArgs false
namespace Go.Proofs.Ytkmimamminddiaa.Pure
open Go.RowKit Go.Proofs.Ytkmimamminddiaa.PB Go.Proofs.YtkmimamminddiaaW.PrintWords Go.Proofs.YtkmimamminddiaaW.PrintLast
open Go.Proofs.Ytkmimamminddiaa.Spec Go.Proofs.Ytkmimamminddiaa.BytesEq
theorem made_inner (p0 p1 p2 p3 p4 p5 p8 side : Int) (h0 : 0 <= p0) (h8 : 0 <= p8 /\ p8 <= 255) {si ps di : Int} (k1 : U32 si) (k2 : U16 ps) (k3 : U32 di) : ∃ (b x y : List Int) (r r2 r3 : LK) (p q : S65), seat_packet.f 4000 p0 p1 p2 p3 p4 p5 9 4 p8 0 side 0 = some b /\ Lk b r /\ r.e = 0 /\ r.inn = [p, q] /\ InnOk b /\ innF 4000 r b si ps di ps = some (x, 0) /\ Lk x r2 /\ r2.e = 0 /\ r2.inn = [⟨si, ps⟩, ⟨di, ps⟩] /\ (r2.s = r.s /\ r2.sp = r.sp /\ r2.d = r.d /\ r2.dp = r.dp) /\ InnOk x /\ innF 4000 r2 x p.f0 p.f1 q.f0 q.f1 = some (y, 0) /\ Lk y r3 /\ r3.e = 0 /\ r3.inn = [p, q] /\ x.length = b.length /\ y.length = b.length := by
 obtain ⟨s, d, fr, tp, hs, hd, hfr, htp, _, _, e⟩ := packet_told 4000 (Nat.le_refl _) p0 p1 p2 p3 p4 p5 9 4 p8 0 side 0 h0; have hpr := (proto_some p0 h0).2; generalize rd [17, 6, 1, 17] (p0.tmod 4) = pr at hpr e
 rw [sp_none] at e
 have hw : ∀ q, seat_packet.sw 9 q = (64, q, 2, 0, []) := fun q => rfl
 rw [hw] at e
 dsimp only at e
 have hk : IpOk 0 64 (IntKind.u16.wrap p8) 2 0 s d [] := ⟨u8_0, by unfold U8; omega, wrap_p8 h8, by omega, by omega, hs, hd, .nil, rfl, by decide⟩
 have hpp : pr = 17 \/ pr = 6 \/ pr = 1 := by omega
 have hp8 : U8 pr := by unfold U8; omega
 rw [if_pos (by decide), if_pos (by decide)] at e
 unfold errS at e
 have hi := errIn_is (s := s) (d := d) (fr := fr) (tp := tp) (p5 := p5) (p8 := p8) hp8; have ht := errT_nn h8.1
 have he : echoB (errT p8) 0 = false := by rcases ht with h | h | h <;> rw [h] <;> rfl
 have her : errB (errT p8) = true := by rcases ht with h | h | h <;> rw [h] <;> rfl
 have hws := errIn_within (s := s) (d := d) (fr := fr) (tp := tp) (p5 := p5) (p8 := p8) hpp; generalize errIn pr s d fr tp p5 p8 = mb at hi hws e
 have hl : mb.length <= 2000 := by omega
 obtain ⟨pq, hpq⟩ : ∃ pq, innerS mb = some pq := ⟨_, by unfold innerS; rw [hws]; rfl⟩
 obtain ⟨p, q⟩ := pq
 have hq9 : mb.getD 9 0 = 1 -> p.f1 = q.f1 := fun h9 => by
  unfold innerS portsS at hpq
  rw [hws, Option.map_some, Option.some.injEq, Prod.mk.injEq, if_pos h9] at hpq
  rw [<- hpq.1, <- hpq.2]
 have hpr32 : U32 p.f0 /\ U32 q.f0 /\ U16 p.f1 /\ U16 q.f1 := by
  unfold innerS portsS at hpq
  rw [hws, Option.map_some, Option.some.injEq, Prod.mk.injEq] at hpq
  rw [<- hpq.1, <- hpq.2]; refine ⟨g32_range hi.1 _, g32_range hi.1 _, ?_, ?_⟩ <;> dsimp only <;> split <;> exact g16_range hi.1 _
 have L1 := err_look (mr := 0) hk (errT_r p8) u8_0 u32_0 hi.1 hl he her hpq; obtain ⟨ok1, x1, e1⟩ := inner_is (mr := 0) hk (errT_r p8) u8_0 hi.1 hl hws k1 k2 k3 k2 (fun _ => rfl) (r := errK 0 64 (IntKind.u16.wrap p8) 2 0 s d [] (errT p8) 0 0 mb p q) ⟨rfl, rfl⟩; have P1 := inM_points (x := x1) hws k1 k2 k3 k2 (fun _ => rfl); have B1 := inM_isB (x := x1) (h := (20 : Int).toNat) (si := si) (sp := ps) (di := di) (dp := ps) hi.1; have N1 := inM_length (mb := mb) (x := x1) (h := (20 : Int).toNat) (si := si) (sp := ps) (di := di) (dp := ps); have F1 := inM_far (mb := mb) (x := x1) (h := (20 : Int).toNat) (si := si) (sp := ps) (di := di) (dp := ps) (by decide) (by have := (withinS_is hws).2.2.1; omega) 9 (by omega); generalize inM mb x1 (20 : Int).toNat si ps di ps = m1 at e1 P1 B1 N1 F1
 have L2 := err_look (mr := 0) hk (errT_r p8) u8_0 u32_0 B1 (by omega) he her P1.2; obtain ⟨ok2, x2, e2⟩ := inner_is (mr := 0) hk (errT_r p8) u8_0 B1 (by omega) P1.1 hpr32.1 hpr32.2.2.1 hpr32.2.1 hpr32.2.2.2 (fun h9 => hq9 (F1 ▸ h9)) (r := errK 0 64 (IntKind.u16.wrap p8) 2 0 s d [] (errT p8) 0 0 m1 ⟨si, ps⟩ ⟨di, ps⟩) ⟨rfl, rfl⟩; have P2 := inM_points (x := x2) P1.1 hpr32.1 hpr32.2.2.1 hpr32.2.1 hpr32.2.2.2 (fun h9 => hq9 (F1 ▸ h9)); have B2 := inM_isB (x := x2) (h := (20 : Int).toNat) (si := p.f0) (sp := p.f1) (di := q.f0) (dp := q.f1) B1; have N2 := inM_length (mb := m1) (x := x2) (h := (20 : Int).toNat) (si := p.f0) (sp := p.f1) (di := q.f0) (dp := q.f1); generalize inM m1 x2 (20 : Int).toNat p.f0 p.f1 q.f0 q.f1 = m2 at e2 P2 B2 N2
 have L3 := err_look (mr := 0) hk (errT_r p8) u8_0 u32_0 B2 (by omega) he her P2.2; have e' : seat_packet.f 4000 p0 p1 p2 p3 p4 p5 9 4 p8 0 side 0 = some (errP 0 64 (IntKind.u16.wrap p8) 2 0 s d [] (errT p8) 0 0 mb) := e; refine ⟨errP 0 64 (IntKind.u16.wrap p8) 2 0 s d [] (errT p8) 0 0 mb, errP 0 64 (IntKind.u16.wrap p8) 2 0 s d [] (errT p8) 0 0 m1, errP 0 64 (IntKind.u16.wrap p8) 2 0 s d [] (errT p8) 0 0 m2, errK 0 64 (IntKind.u16.wrap p8) 2 0 s d [] (errT p8) 0 0 mb p q, errK 0 64 (IntKind.u16.wrap p8) 2 0 s d [] (errT p8) 0 0 m1 ⟨si, ps⟩ ⟨di, ps⟩, errK 0 64 (IntKind.u16.wrap p8) 2 0 s d [] (errT p8) 0 0 m2 p q, p, q, e', L1, rfl, rfl, ok1, e1, L2, rfl, rfl, ⟨rfl, rfl, rfl, rfl⟩, ok2, e2, L3, rfl, rfl, ?_, ?_⟩
 ·rw [errP_length, errP_length, N1]
 ·rw [errP_length, errP_length, N2, N1]
end Go.Proofs.Ytkmimamminddiaa.Pure
namespace Go.Proofs.Ytkmimamminddiaa.PB
open Go.RowKit Go.Proofs.YtkmimamminddiaaW.PrintWords Go.Proofs.YtkmimamminddiaaW.PrintLast Go.Proofs.YtkmimamminddiaaW.PrintMore
open Go.Proofs.Ytkmimamminddiaa.BytesEq
theorem points_refl (K : Nat) (l : List S65) (hl : l.length <= 2) (hK : 4 <= K) : lychhelp_Points.f K l l = some true := by
 obtain ⟨k, rfl⟩ : ∃ j, K = j + 4 := ⟨K - 4, by omega⟩
 unfold lychhelp_Points.f; rw [if_pos rfl]; have w0 : wrap64 (1 : Int) = 1 := by unfold wrap64; omega
 have w1 : wrap64 (2 : Int) = 2 := by unfold wrap64; omega
 match l, hl with
 | [], _ => simp [lychhelp_Points.l0]
 | [x], _ => simp [lychhelp_Points.l0, rd_T65, w0]
 | [x, y], _ => simp [lychhelp_Points.l0, rd_T65, w0, w1]
end Go.Proofs.Ytkmimamminddiaa.PB
namespace Go.Proofs.Ytkmimamminddiaa.PB
open Go.RowKit Go.Proofs.YtkmimamminddiaaW.PrintWords Go.Proofs.YtkmimamminddiaaW.PrintLast Go.Proofs.YtkmimamminddiaaW.PrintMore
open Go.Proofs.Ytkmimamminddiaa.Spec Go.Proofs.Ytkmimamminddiaa.BytesEq
theorem Pure.Lk.look {l : List Int} {r : LK} (h : Pure.Lk l r) {A : Option Addr} {c : Nat} {w : World} (hC : Kd.C (Kd.int .u8) w A l.length l) (hL : l.length <= c) : Calls Try.prog 69 #[.slice A l.length c] w fun e w' => r.Post w.heap.size w e w' := by
 obtain ⟨a, t, i, fl, of_, s, d, o, b, h1, h2⟩ := h; exact look.lk_icmp 4000 A c l a t i fl of_ s d o b r w hC hL h1 h2
theorem two65 {w w1 w2 : World} {v : Value} {p q : S65} {ok : Nat -> Prop} (hi : Kd.R k65 65 w2 w1.heap.size ok v [p, q]) (hB : Aside0 (Below w.heap.size w w1)) : ∃ g c, v = .slice (some ⟨g, 0, none⟩) 2 c /\ Aside0 (Kd.R k65 65 w2 w.heap.size (fun _ => True) v [p, q]) := by
 have h := Aside0.mk (Kd.R_mono (Kd.R_lower hi (below_size hB.out)) (ok' := fun _ => True) (fun _ _ => trivial)); obtain ⟨g, c, rfl, _⟩ := Kd.R_form h.out (by simp); exact ⟨g, c, rfl, h⟩
theorem rng65 {W : World} {base g c : Nat} {ok : Nat -> Prop} {p q : S65} (h : Aside0 (Kd.R k65 65 W base ok (.slice (some ⟨g, 0, none⟩) 2 c) [p, q])) : Aside0 (W.rangeAt g 0 [.int .u32 p.f0, .int .u16 p.f1]) /\ Aside0 (W.rangeAt g 2 [.int .u32 q.f0, .int .u16 q.f1]) := by
 have hC := (Kd.R_reads' h.out).2.2; obtain ⟨_, e0, a0, a1⟩ := at_T65 hC 0 (by decide) (by simp); obtain ⟨_, e1, b0, b1⟩ := at_T65 hC 1 (by decide) (by simp); obtain rfl := Option.some.inj e0; obtain rfl := Option.some.inj e1; refine ⟨⟨fun j v hv => ?_⟩, ⟨fun j v hv => ?_⟩⟩
 ·match j with
  | 0 => obtain rfl := Option.some.inj hv; exact a0
  | 1 => obtain rfl := Option.some.inj hv; exact a1
  | j + 2 => exact nomatch hv
 ·match j with
  | 0 => obtain rfl := Option.some.inj hv; exact b0
  | 1 => obtain rfl := Option.some.inj hv; exact b1
  | j + 2 => exact nomatch hv
theorem cell_bl {w w' : World} {a : Addr} {v : Value} (h : w.cell? a = some v) (hb : Below w.heap.size w w') : w'.cell? a = some v := by
 have hg := hb.block a.block (World.block_lt_of_cell? _ _ h); simp only [World.cell?, hg] at h |-
 exact h
theorem mG {w w1 : World} {b o : Nat} {cs : List Value} (h : Aside0 (w.rangeAt b o cs)) (hb : Below w.heap.size w w1) : Aside0 (w1.rangeAt b o cs) := ⟨fun j v hv => cell_bl (h.out j v hv) hb⟩
def inb.R11.T : Bool × List (List Nat × List Nat) := (true, [([], []), ([], []), ([1], [1]), ([2], [2]), ([3], [3]), ([], []), ([5], [5]), ([6], [6]), ([7], [7]), ([0, 4, 8], [0, 4, 8]), ([9], [9]), ([10], [10]), ([10], [10]), ([11, 9, 0, 1, 2, 3, 4, 5, 6, 7, 8, 9, 10, 11], [11]), ([12, 13, 0, 1, 2, 3, 4, 5, 6, 7, 8, 9, 10, 11, 12, 13], [12])])
theorem inb.R11.tab : rtab .any (opsOf Try.f13 11) = inb.R11.T := by kernel_rfl
theorem inb.R11.bits : waitsOk inb.R11.T.2 [0, 0, 2, 6, 14, 0, 32, 96, 224, 511, 1023, 2047, 2047, 4095, 16383] = true := by kernel_rfl
def inb.R13.T : Bool × List (List Nat × List Nat) := (true, [([], []), ([], []), ([0, 1], [0, 1]), ([], []), ([2, 3], [2, 3]), ([], []), ([4, 5], [4, 5]), ([6], [6]), ([7], [7]), ([8], [8]), ([9, 8], [8, 9]), ([10, 8], [8, 10]), ([11, 8], [8, 11]), ([8, 12], [8, 12]), ([13, 8], [13]), ([14], [14]), ([15, 14], [14, 15]), ([16, 14], [14, 16]), ([17, 14], [14, 17]), ([18, 14], [14, 18]), ([14], [14]), ([20, 14], [14, 20]), ([19, 21, 14], [14, 19, 21]), ([14, 22], [14, 22]), ([23, 14], [23]), ([24], [24]), ([25, 24], [24, 25]), ([26, 24], [24, 26]), ([27, 24], [24, 27]), ([28, 24], [24, 28]), ([24], [24]), ([30, 24], [24, 30]), ([29, 31, 24], [24, 29, 31]), ([24, 32], [24, 32]), ([33, 24], [33]), ([34], [34]), ([35, 34], [34, 35]), ([34], [34]), ([37, 34], [34, 37]), ([36, 38, 34, 34], [34, 36, 38]), ([34, 39], [34, 39]), ([40, 39], [40]), ([41], [41]), ([42, 41], [41, 42]), ([41], [41]), ([44, 41], [41, 44]), ([43, 45, 41], [41, 43, 45]), ([41, 46], [41, 46]), ([47, 41], [47]), ([48], [48]), ([49, 48], [48, 49]), ([48], [48]), ([51, 48], [48, 51]), ([50, 52, 48], [48, 50, 52]), ([48, 53], [48, 53]), ([54, 48], [54]), ([55], [55]), ([56, 55], [55, 56]), ([55], [55]), ([58, 55], [55, 58]), ([57, 59, 55], [55, 57, 59]), ([55, 60], [55, 60]), ([61, 55], [61]), ([62], [62]), ([63, 62], [62, 63]), ([62], [62]), ([65, 62], [62, 65]), ([64, 66, 62], [62, 64, 66]), ([62, 67], [62, 67]), ([68, 62, 0, 1, 2, 3, 4, 5, 6, 7, 8, 9, 10, 11, 12, 13, 14, 15, 16, 17, 18, 19, 20, 21, 22, 23, 24, 25, 26, 27, 28, 29, 30, 31, 32, 33, 34, 35, 36, 37, 38, 39, 40, 41, 42, 43, 44, 45, 46, 47, 48, 49, 50, 51, 52, 53, 54, 55, 56, 57, 58, 59, 60, 61, 62, 63, 64, 65, 66, 67, 68], [68])])
theorem inb.R13.tab : rtab .any (opsOf Try.f13 13) = inb.R13.T := by kernel_rfl
theorem inb.R13.bits : waitsOk inb.R13.T.2 [0, 0, 3, 0, 15, 0, 63, 127, 255, 511, 1023, 2047, 4095, 8191, 16383, 32767, 65535, 131071, 262143, 524287, 32767, 1081343, 4194303, 8388607, 16777215, 33554431, 67108863, 134217727, 268435455, 536870911, 33554431, 1107296255, 4294967295, 8589934591, 17179869183, 34359738367, 68719476735, 34359738367, 171798691839, 549755813887, 1099511627775, 2199023255551, 4398046511103, 8796093022207, 4398046511103, 21990232555519, 70368744177663, 140737488355327, 281474976710655, 562949953421311, 1125899906842623, 562949953421311, 2814749767106559, 9007199254740991, 18014398509481983, 36028797018963967, 72057594037927935, 144115188075855871, 72057594037927935, 360287970189639679, 1152921504606846975, 2305843009213693951, 4611686018427387903, 9223372036854775807, 18446744073709551615, 9223372036854775807, 46116860184273879039, 147573952589676412927, 295147905179352825855, 590295810358705651711] = true := by kernel_rfl
theorem rewriteInnerBack.calls (p0 p1 p2 p3 p4 p5 p6 p7 p8 p9 side si ps di pd : Int) (w : World) (hp : 0 <= p0 /\ (0 <= p8 /\ p8 <= 255) /\ (0 <= p9 /\ p9 <= 255)) (h1 : 0 <= si /\ si <= 4294967295) (h2 : 0 <= ps /\ ps <= 65535) (h3 : 0 <= di /\ di <= 4294967295) :
  Calls Try.prog 13 #[.agg #[.int .u8 p0, .int .u8 p1, .int .u8 p2, .int .u8 p3, .int .u8 p4, .int .u8 p5, .int .u8 p6, .int .u8 p7, .int .u8 p8, .int .u8 p9], .int .u8 side, .agg #[.int .u32 si, .int .u16 ps], .agg #[.int .u32 di, .int .u16 pd]] w fun e w' => e = .returned (.bool true) /\ Below w.heap.size w w' := by
 have hu25 := Try.underlying25; have hu65 := Try.underlying65; have hu73 := Try.underlying73; have hu76 := Try.underlying76; have HB := Aside0.mk (Below.refl w.heap.size w); have HI25 : Aside0 ((Try.prog.info? 25).map (·.size) = some 10) := ⟨by kernel_rfl⟩
 have HI65 : Aside0 ((Try.prog.info? 65).map (·.size) = some 2) := ⟨by kernel_rfl⟩
 have HI73 : Aside0 ((Try.prog.info? 73).map (·.size) = some 10) := ⟨by kernel_rfl⟩
 have HI76 : Aside0 ((Try.prog.info? 76).map (·.size) = some 7) := ⟨by kernel_rfl⟩
 obtain ⟨b, x, y, r, r2, r3, p, q, hpk, hlk, hre, hin, ok1, h1_, hlx, hre2, hin2, hsame, ok2, h2_, hly, hre3, hin3, hnx, hny⟩ := Pure.made_inner p0 p1 p2 p3 p4 p5 p8 (wrap64 (side.tmod 2)) hp.1 hp.2.1 h1 h2 h3; obtain ⟨a, t, pr, i, fl, of_, s, d, o, bb, x0, sp, dp, ff, inn, e_⟩ := r; obtain ⟨a2, t2, pr2, i2, fl2, of_2, s2, d2, o2, bb2, x02, sp2, dp2, ff2, inn2, e_2⟩ := r2; obtain ⟨a3, t3, pr3, i3, fl3, of_3, s3, d3, o3, bb3, x03, sp3, dp3, ff3, inn3, e_3⟩ := r3; obtain ⟨p0_, p1_⟩ := p; obtain ⟨q0_, q1_⟩ := q; dsimp only at hre hre2 hre3 hin hin2 hin3 hsame h2_
 obtain ⟨m1, m2, m3, m4⟩ := hsame; have m1 := m1.symm; have m2 := m2.symm; have m3 := m3.symm; have m4 := m4.symm; subst hre hre2 hre3 hin hin2 hin3 m1 m2 m3 m4; have HPK := Aside0.mk hpk; have HP89 : Aside0 ((0 <= p8 /\ p8 <= 255) /\ ((0 : Int) <= 0 /\ (0 : Int) <= 255)) := ⟨hp.2.1, by omega⟩
 have HLK := Aside0.mk hlk; have HLX := Aside0.mk hlx; have HLY := Aside0.mk hly; have HOK1 := Aside0.mk ok1; have HOK2 := Aside0.mk ok2; have HI1 := Aside0.mk h1_; have HI2 := Aside0.mk h2_; have HNX := Aside0.mk hnx; have HNY := Aside0.mk hny; have HPR := Aside0.mk (points_refl 4 [(⟨p0_, p1_⟩ : S65), ⟨q0_, q1_⟩] (by simp) (Nat.le_refl _)); clear hpk hlk hlx hly ok1 ok2 h1_ h2_ hnx hny hp h1 h2 h3
 go_enter Try.func13, Try.ntmps13
 go_upto_region 1 with (first | ((with_reducible refine gate_dst (N := 4) rfl ?_); refine box_event ?hg_ (N := 4) ?hd_ (cs := #[.int .u8 p0, .int .u8 p1, .int .u8 p2, .int .u8 p3, .int .u8 p4, .int .u8 p5, .int .u8 p6, .int .u8 p7, .int .u8 p8, .int .u8 p9]) (t := 25) ?hr_ ?_; (case hd_ => rfl); (case hg_ => rfl); (case hr_ => first | (go_simp; done) | (go_simp; rfl)); intro gk hgg_ w1 hbox_ hbb_; have GHXk := Aside0.mk (show w.heap.size <= gk by rw [hgg_]; exact below_size HB.out); have HXk := Aside0.mk hbox_; have hb_ := hbb_; replace HB := mB HB hb_; clear hb_; clear hgg_ hbox_ hbb_) | ((with_reducible refine gate_dst (N := 6) rfl ?_); refine box_event ?hg_ (N := 6) ?hd_ (cs := #[.int .u32 si, .int .u16 ps]) (t := 65) ?hr_ ?_; (case hd_ => rfl); (case hg_ => rfl); (case hr_ => first | (go_simp; done) | (go_simp; rfl)); intro gs hgg_ w2 hbox_ hbb_; have GHXs := Aside0.mk (show w.heap.size <= gs by rw [hgg_]; exact below_size HB.out); have HXs := Aside0.mk hbox_; have hb_ := hbb_; replace HB := mB HB hb_; replace HXk := mX HXk hb_; clear hb_; clear hgg_ hbox_ hbb_) | ((with_reducible refine gate_dst (N := 7) rfl ?_); refine box_event ?hg_ (N := 7) ?hd_ (cs := #[.int .u32 di, .int .u16 pd]) (t := 65) ?hr_ ?_; (case hd_ => rfl); (case hg_ => rfl); (case hr_ => first | (go_simp; done) | (go_simp; rfl)); intro gd hgg_ w3 hbox_ hbb_; have GHXd := Aside0.mk (show w.heap.size <= gd by rw [hgg_]; exact below_size HB.out); have HXd := Aside0.mk hbox_; have NE_HXs_HXd : Aside0 (gs ≠ gd) := ⟨by rw [hgg_]; exact (blk_less HXs).out⟩; have hb_ := hbb_; replace HB := mB HB hb_; replace HXk := mX HXk hb_; replace HXs := mX HXs hb_; clear hb_; clear hgg_ hbox_ hbb_))
 go_wp2_with fail
 refine (known8.calls _).mono ?_; rintro ev w4 ⟨rfl, hb⟩; have hb_ := hb; replace HB := mB HB hb_; replace HXk := mX HXk hb_; replace HXs := mX HXs hb_; replace HXd := mX HXd hb_; clear hb_; clear hb
 (try dsimp only)
 go_upto_region 4 with (first | ((refine rw_set rfl rfl (i := 6) (v := .int .u8 9) (cs' := #[.int .u8 p0, .int .u8 p1, .int .u8 p2, .int .u8 p3, .int .u8 p4, .int .u8 p5, .int .u8 9, .int .u8 p7, .int .u8 p8, .int .u8 p9]) HXk.out rfl ?hr_ ?_); (case hr_ => (have m_ := (blk_cell HXk.out 6).trans (rfl : _ = some (.int .u8 p6 : Value))); (have mf_ := blk_frozen HXk.out 6); first | (go_simp; done) | (go_simp; rfl)); intro w5 hs_ off_; replace HXs := oX off_ HXs HXk (by decide); replace HXd := oX off_ HXd HXk (by decide); replace HB := oB off_ HB GHXk; clear off_; replace HXk := Aside0.mk hs_; clear hs_) | ((refine rw_set rfl rfl (i := 9) (v := .int .u8 0) (cs' := #[.int .u8 p0, .int .u8 p1, .int .u8 p2, .int .u8 p3, .int .u8 p4, .int .u8 p5, .int .u8 9, .int .u8 p7, .int .u8 p8, .int .u8 0]) HXk.out rfl ?hr_ ?_); (case hr_ => (have m_ := (blk_cell HXk.out 9).trans (rfl : _ = some (.int .u8 p9 : Value))); (have mf_ := blk_frozen HXk.out 9); first | (go_simp; done) | (go_simp; rfl)); intro w6 hs_ off_; replace HXs := oX off_ HXs HXk (by decide); replace HXd := oX off_ HXd HXk (by decide); replace HB := oB off_ HB GHXk; clear off_; replace HXk := Aside0.mk hs_; clear hs_) | ((refine rw_set rfl rfl (i := 7) (v := .int .u8 4) (cs' := #[.int .u8 p0, .int .u8 p1, .int .u8 p2, .int .u8 p3, .int .u8 p4, .int .u8 p5, .int .u8 9, .int .u8 4, .int .u8 p8, .int .u8 0]) HXk.out rfl ?hr_ ?_); (case hr_ => (have m_ := (blk_cell HXk.out 7).trans (rfl : _ = some (.int .u8 p7 : Value))); (have mf_ := blk_frozen HXk.out 7); first | (go_simp; done) | (go_simp; rfl)); intro w7 hs_ off_; replace HXs := oX off_ HXs HXk (by decide); replace HXd := oX off_ HXd HXk (by decide); replace HB := oB off_ HB GHXk; clear off_; replace HXk := Aside0.mk hs_; clear hs_))
 have gs_1 := (blk_cell HXs.out 1).trans (rfl : _ = some (.int .u16 ps : Value))
 go_upto_region 5 with (first | ((refine rw_set rfl rfl (i := 1) (v := .int .u16 ps) (cs' := #[.int .u32 di, .int .u16 ps]) HXd.out rfl ?hr_ ?_); (case hr_ => (have m_ := (blk_cell HXd.out 1).trans (rfl : _ = some (.int .u16 pd : Value))); (have mf_ := blk_frozen HXd.out 1); first | (go_simp; done) | (go_simp; rfl)); intro w8 hs_ off_; replace HXk := oX off_ HXk HXd (by decide); replace HXs := oN off_ HXs NE_HXs_HXd; replace HB := oB off_ HB GHXd; clear off_; replace HXd := Aside0.mk hs_; clear hs_))
 clear gs_1
 go_wp2_with (refine Kd.event_run rfl (rw_load rfl rfl HXk.out Try.underlying25 rfl HI25.out) ?_)
 refine (seat_packet.calls 4000 p0 p1 p2 p3 p4 p5 9 4 p8 0 (wrap64 (side.tmod 2)) 0 b _ HP89.out HPK.out).mono ?_; rintro ev w9 ⟨v_, rfl, ho, hb⟩; have HRb := Aside0.mk (Kd.R_lower ho (below_size HB.out)); obtain ⟨Ab, cb, rfl, _, _⟩ := Kd.R_reads ho; clear ho; have hb_ := hb; replace HB := mB HB hb_; replace HXk := mX HXk hb_; replace HXs := mX HXs hb_; replace HXd := mX HXd hb_; clear hb_; clear hb
 (try dsimp only)
 clear HXk; clear GHXk
 go_wp2_with fail
 refine (rewrite_Look.via Ab cb b _ _ (Kd.R_reads' HRb.out).2.2 (Kd.R_reads' HRb.out).2.1 (fun w2 h2 => Pure.Lk.look HLK.out h2 (Kd.R_reads' HRb.out).2.1)).mono ?_; rintro ev w10 hpost; obtain ⟨v8, v9, vi, rfl, ho8, ho9, hi, hb⟩ := hpost; dsimp only at ho8 ho9 hi
 obtain ⟨Ao, co, rfl, _, _⟩ := Kd.R_reads ho8; obtain ⟨Abb, cbb, rfl, _, _⟩ := Kd.R_reads ho9; obtain ⟨gi, ci, rfl, HRi⟩ := two65 hi HB; clear ho8 ho9 hi; have hb_ := hb; replace HB := mB HB hb_; replace HXs := mX HXs hb_; replace HXd := mX HXd hb_; replace HRb := mR HRb hb_; clear hb_; clear hb
 (try dsimp only)
 go_upto_region 7 with (first | ((with_reducible refine gate_dst (N := 10) rfl ?_); refine box_event ?hg_ (N := 10) ?hd_ (cs := #[.int .u8 0, .int .u8 0, .int .u8 0, .int .u16 0, .int .u8 0, .int .u16 0, .int .u32 0, .int .u32 0, .slice none 0 0, .slice none 0 0]) (t := 73) ?hr_ ?_; (case hd_ => rfl); (case hg_ => rfl); (case hr_ => first | (go_simp; done) | (go_simp; rfl)); intro gp hgg_ w11 hbox_ hbb_; have GHXp := Aside0.mk (show w.heap.size <= gp by rw [hgg_]; exact below_size HB.out); have HXp := Aside0.mk hbox_; have hb_ := hbb_; replace HB := mB HB hb_; replace HXs := mX HXs hb_; replace HXd := mX HXd hb_; replace HRb := mR HRb hb_; replace HRi := mI HRi hb_; clear hb_; clear hgg_ hbox_ hbb_) | ((with_reducible refine gate_dst (N := 11) rfl ?_); refine box_event ?hg_ (N := 11) ?hd_ (cs := #[.int .u8 0, .int .u32 0, .int .u16 0, .int .u32 0, .int .u16 0, .int .u8 0, .slice none 0 0]) (t := 76) ?hr_ ?_; (case hd_ => rfl); (case hg_ => rfl); (case hr_ => first | (go_simp; done) | (go_simp; rfl)); intro gf hgg_ w12 hbox_ hbb_; have GHXf := Aside0.mk (show w.heap.size <= gf by rw [hgg_]; exact below_size HB.out); have HXf := Aside0.mk hbox_; have hb_ := hbb_; replace HB := mB HB hb_; replace HXs := mX HXs hb_; replace HXd := mX HXd hb_; replace HRb := mR HRb hb_; replace HRi := mI HRi hb_; replace HXp := mX HXp hb_; clear hb_; clear hgg_ hbox_ hbb_) | ((refine rw_putrow rfl rfl rfl rfl rfl HXp.out HI73.out rfl (by simp [Value.oneCell']) ?_); intro w13 hs_ off_; replace HXs := oX off_ HXs HXp (by decide); replace HXd := oX off_ HXd HXp (by decide); replace HRb := oR off_ HRb HXp (by decide); replace HRi := oI off_ HRi HXp (by decide); replace HXf := oX off_ HXf HXp (by decide); replace HB := oB off_ HB GHXp; clear off_; replace HXp := Aside0.mk hs_; clear hs_) | ((refine rw_putrow rfl rfl rfl rfl rfl HXf.out HI76.out rfl (by simp [Value.oneCell']) ?_); intro w14 hs_ off_; replace HXs := oX off_ HXs HXf (by decide); replace HXd := oX off_ HXd HXf (by decide); replace HRb := oR off_ HRb HXf (by decide); replace HRi := oI off_ HRi HXf (by decide); replace HXp := oX off_ HXp HXf (by decide); replace HB := oB off_ HB GHXf; clear off_; replace HXf := Aside0.mk hs_; clear hs_))
 clear HXp; clear GHXp; have gf_6 : w14.cell? ⟨gf, 6, none⟩ = some (.slice (some ⟨gi, 0, none⟩) 2 ci) := (blk_cell HXf.out 6).trans rfl
 go_wp2_with (first | (refine Kd.event_run rfl (rw_load rfl rfl HXs.out Try.underlying65 rfl HI65.out) ?_) | (refine Kd.event_run rfl (rw_load rfl rfl HXd.out Try.underlying65 rfl HI65.out) ?_))
 clear gf_6; refine (rewrite_Inner.via 4000 Ab cb b _ si ps di ps x 0 _ (Kd.R_reads' HRb.out).2.2 (Kd.R_reads' HRb.out).2.1 (fun w2 h2 => Pure.Lk.look HLK.out h2 (Kd.R_reads' HRb.out).2.1) (fun _ _ => HOK1.out) HI1.out).mono ?_; rintro ev w15 ⟨v_, rfl, ho, hb⟩; have HRx := Aside0.mk (Kd.R_lower ho (below_size HB.out)); obtain ⟨Ax, cx, rfl, _, _⟩ := Kd.R_reads ho; clear ho; have hb_ := hb; replace HB := mB HB hb_; replace HXs := mX HXs hb_; replace HXd := mX HXd hb_; replace HRb := mR HRb hb_; replace HRi := mI HRi hb_; replace HXf := mX HXf hb_; clear hb_; clear hb
 (try dsimp only)
 go_wp2_with fail
 refine (rewrite_Look.via Ax cx x _ _ (Kd.R_reads' HRx.out).2.2 (Kd.R_reads' HRx.out).2.1 (fun w2 h2 => Pure.Lk.look HLX.out h2 (Kd.R_reads' HRx.out).2.1)).mono ?_; rintro ev w16 hpost; obtain ⟨v8, v9, vi, rfl, ho8, ho9, hi, hb⟩ := hpost; dsimp only at ho8 ho9 hi
 obtain ⟨Ao2, co2, rfl, _, _⟩ := Kd.R_reads ho8; obtain ⟨Ab2b, cb2b, rfl, _, _⟩ := Kd.R_reads ho9; obtain ⟨gi2, ci2, rfl, HRi2⟩ := two65 hi HB; clear ho8 ho9 hi; have hb_ := hb; replace HB := mB HB hb_; replace HXs := mX HXs hb_; replace HXd := mX HXd hb_; replace HRb := mR HRb hb_; replace HRi := mI HRi hb_; replace HXf := mX HXf hb_; replace HRx := mR HRx hb_; clear hb_; clear hb
 (try dsimp only)
 go_upto_region 11 with (first | ((with_reducible refine gate_dst (N := 15) rfl ?_); refine box_event ?hg_ (N := 15) ?hd_ (cs := #[.int .u8 0, .int .u8 0, .int .u8 0, .int .u16 0, .int .u8 0, .int .u16 0, .int .u32 0, .int .u32 0, .slice none 0 0, .slice none 0 0]) (t := 73) ?hr_ ?_; (case hd_ => rfl); (case hg_ => rfl); (case hr_ => first | (go_simp; done) | (go_simp; rfl)); intro gq hgg_ w17 hbox_ hbb_; have GHXq := Aside0.mk (show w.heap.size <= gq by rw [hgg_]; exact below_size HB.out); have HXq := Aside0.mk hbox_; have hb_ := hbb_; replace HB := mB HB hb_; replace HXs := mX HXs hb_; replace HXd := mX HXd hb_; replace HRb := mR HRb hb_; replace HRi := mI HRi hb_; replace HXf := mX HXf hb_; replace HRx := mR HRx hb_; replace HRi2 := mI HRi2 hb_; clear hb_; clear hgg_ hbox_ hbb_) | ((with_reducible refine gate_dst (N := 16) rfl ?_); refine box_event ?hg_ (N := 16) ?hd_ (cs := #[.int .u8 0, .int .u32 0, .int .u16 0, .int .u32 0, .int .u16 0, .int .u8 0, .slice none 0 0]) (t := 76) ?hr_ ?_; (case hd_ => rfl); (case hg_ => rfl); (case hr_ => first | (go_simp; done) | (go_simp; rfl)); intro gh hgg_ w18 hbox_ hbb_; have GHXh := Aside0.mk (show w.heap.size <= gh by rw [hgg_]; exact below_size HB.out); have HXh := Aside0.mk hbox_; have NE_HXf_HXh : Aside0 (gf ≠ gh) := ⟨by rw [hgg_]; exact (blk_less HXf).out⟩; have hb_ := hbb_; replace HB := mB HB hb_; replace HXs := mX HXs hb_; replace HXd := mX HXd hb_; replace HRb := mR HRb hb_; replace HRi := mI HRi hb_; replace HXf := mX HXf hb_; replace HRx := mR HRx hb_; replace HRi2 := mI HRi2 hb_; replace HXq := mX HXq hb_; clear hb_; clear hgg_ hbox_ hbb_) | ((refine rw_putrow rfl rfl rfl rfl rfl HXq.out HI73.out rfl (by simp [Value.oneCell']) ?_); intro w19 hs_ off_; replace HXs := oX off_ HXs HXq (by decide); replace HXd := oX off_ HXd HXq (by decide); replace HRb := oR off_ HRb HXq (by decide); replace HRi := oI off_ HRi HXq (by decide); replace HXf := oX off_ HXf HXq (by decide); replace HRx := oR off_ HRx HXq (by decide); replace HRi2 := oI off_ HRi2 HXq (by decide); replace HXh := oX off_ HXh HXq (by decide); replace HB := oB off_ HB GHXq; clear off_; replace HXq := Aside0.mk hs_; clear hs_) | ((refine rw_putrow rfl rfl rfl rfl rfl HXh.out HI76.out rfl (by simp [Value.oneCell']) ?_); intro w20 hs_ off_; replace HXs := oX off_ HXs HXh (by decide); replace HXd := oX off_ HXd HXh (by decide); replace HRb := oR off_ HRb HXh (by decide); replace HRi := oI off_ HRi HXh (by decide); replace HXf := oN off_ HXf NE_HXf_HXh; replace HRx := oR off_ HRx HXh (by decide); replace HRi2 := oI off_ HRi2 HXh (by decide); replace HXq := oX off_ HXq HXh (by decide); replace HB := oB off_ HB GHXh; clear off_; replace HXh := Aside0.mk hs_; clear hs_))
 clear HXq; clear GHXq; have HG0 := (rng65 HRi).1; have HG2 := (rng65 HRi).2
 go_upto_region 11 with (fail)
 refine start_ (n := 15) (S := fun w' => w'.heap[gf]? = some (.cells #[.int .u8 pr, .int .u32 s, .int .u16 sp, .int .u32 d, .int .u16 dp, .int .u8 ff, .slice (some ⟨gi, 0, none⟩) 2 ci] 76 (0, 0)) /\ w'.rangeAt gi 0 [.int .u32 p0_, .int .u16 p1_] /\ w'.rangeAt gi 2 [.int .u32 q0_, .int .u16 q1_]) (ds := []) #[false, false, false, false, false, false, false, false, false, false, false, false, false, false, false] (by kernel_rfl) rfl rfl ⟨HXf.out, HG0.out, HG2.out⟩ (fun hHeld => ?_); refine with_tabW inb.R11.tab inb.R11.bits (fun HT_ HW_ => ?_); have hb_ := below_drew1 (Below.refl w20.heap.size w20); replace HB := mB HB hb_; replace HXs := mX HXs hb_; replace HXd := mX HXd hb_; replace HRb := mR HRb hb_; replace HRi := mI HRi hb_; replace HXf := mX HXf hb_; replace HRx := mR HRx hb_; replace HRi2 := mI HRi2 hb_; replace HXh := mX HXh hb_; replace HG0 := mG HG0 hb_; replace HG2 := mG HG2 hb_
 clear hb_; generalize w20.drew = w21 at HB HXs HXd HRb HRi HXf HRx HRi2 HXh HG0 HG2 hHeld |-
 refine pure_ (i := 0) (N := some 64) (v := ?_) (a' := ?_) #[true, false, false, false, false, false, false, false, false, false, false, false, false, false, false] rfl rfl (any_of HT_.out (by kernel_rfl)) (fun _ _ _ h => h) (Or.inl ⟨by rfl, ?_⟩) ?_ ?_
 rotate_left
 ·intro w'
  go_simp
  with_reducible rfl
 rotate_left
 ·simp only [Act.put, List.setIfInBounds_toArray, List.set_cons_zero, List.set_cons_succ, i64_w, i32_w]
  rfl
 refine pure_ (i := 1) (N := some 65) (v := ?_) (a' := ?_) #[true, true, false, false, false, false, false, false, false, false, false, false, false, false, false] rfl rfl (any_of HT_.out (by kernel_rfl)) (fun _ _ _ h => h) (Or.inl ⟨by rfl, ?_⟩) ?_ ?_
 rotate_left
 ·intro w'
  go_simp
  with_reducible rfl
 rotate_left
 ·simp only [Act.put, List.setIfInBounds_toArray, List.set_cons_zero, List.set_cons_succ, i64_w, i32_w]
  rfl
 refine pure_ (i := 5) (N := some 69) (v := ?_) (a' := ?_) #[true, true, false, false, false, true, false, false, false, false, false, false, false, false, false] rfl rfl (any_of HT_.out (by kernel_rfl)) (fun _ _ _ h => h) (Or.inl ⟨by rfl, ?_⟩) ?_ ?_
 rotate_left
 ·intro w'
  go_simp
  with_reducible rfl
 rotate_left
 ·simp only [Act.put, List.setIfInBounds_toArray, List.set_cons_zero, List.set_cons_succ, i64_w, i32_w]
  rfl
 refine take_ (i := 2) (N := some 66) (v := (.slice (some ⟨gi, 0, none⟩) 2 ci)) #[true, true, true, false, false, true, false, false, false, false, false, false, false, false, false] rfl rfl (take_ofW HT_.out HW_.out (by kernel_rfl)) (fun _ _ _ h => h) (Or.inl ⟨by rfl, fun w' s0 => ?_⟩) hHeld rfl ?_
 ·obtain ⟨s0, s1, s2⟩ := s0
  have s0_6 := (blk_cell s0 6).trans (rfl : _ = some (.slice (some ⟨gi, 0, none⟩) 2 ci : Value))
  first | (go_simp; done) | (go_simp; with_reducible rfl)
 refine norm_ (a' := ?_) ?_ ?_
 rotate_left
 ·show Act.put _ (some 66) _ = _
  simp only [Act.put, List.setIfInBounds_toArray, List.set_cons_zero, List.set_cons_succ, i64_w, i32_w]
  rfl
 refine pure_ (i := 3) (N := some 67) (v := ?_) (a' := ?_) #[true, true, true, true, false, true, false, false, false, false, false, false, false, false, false] rfl rfl (any_of HT_.out (by kernel_rfl)) (fun _ _ _ h => h) (Or.inl ⟨by rfl, ?_⟩) ?_ ?_
 rotate_left
 ·intro w'
  go_simp
  with_reducible rfl
 rotate_left
 ·simp only [Act.put, List.setIfInBounds_toArray, List.set_cons_zero, List.set_cons_succ, i64_w, i32_w]
  rfl
 refine take_ (i := 4) (N := some 68) (v := (.agg #[.int .u32 p0_, .int .u16 p1_])) #[true, true, true, true, true, true, false, false, false, false, false, false, false, false, false] rfl rfl (take_ofW HT_.out HW_.out (by kernel_rfl)) (fun _ _ _ h => h) (Or.inl ⟨by rfl, fun w' s0 => ?_⟩) hHeld rfl ?_
 ·obtain ⟨s0, s1, s2⟩ := s0
  exact load_mid_ (p := .tmp 67) (ty := 65) (cs := [.int .u32 p0_, .int .u16 p1_]) (by rfl) (by rfl) s1 hu65 (by rfl) HI65.out
 refine norm_ (a' := ?_) ?_ ?_
 rotate_left
 ·show Act.put _ (some 68) _ = _
  simp only [Act.put, List.setIfInBounds_toArray, List.set_cons_zero, List.set_cons_succ, i64_w, i32_w]
  rfl
 refine take_ (i := 6) (N := some 70) (v := (.slice (some ⟨gi, 0, none⟩) 2 ci)) #[true, true, true, true, true, true, true, false, false, false, false, false, false, false, false] rfl rfl (take_ofW HT_.out HW_.out (by kernel_rfl)) (fun _ _ _ h => h) (Or.inl ⟨by rfl, fun w' s0 => ?_⟩) hHeld rfl ?_
 ·obtain ⟨s0, s1, s2⟩ := s0
  have s0_6 := (blk_cell s0 6).trans (rfl : _ = some (.slice (some ⟨gi, 0, none⟩) 2 ci : Value))
  first | (go_simp; done) | (go_simp; with_reducible rfl)
 refine norm_ (a' := ?_) ?_ ?_
 rotate_left
 ·show Act.put _ (some 70) _ = _
  simp only [Act.put, List.setIfInBounds_toArray, List.set_cons_zero, List.set_cons_succ, i64_w, i32_w]
  rfl
 refine pure_ (i := 7) (N := some 71) (v := ?_) (a' := ?_) #[true, true, true, true, true, true, true, true, false, false, false, false, false, false, false] rfl rfl (any_of HT_.out (by kernel_rfl)) (fun _ _ _ h => h) (Or.inl ⟨by rfl, ?_⟩) ?_ ?_
 rotate_left
 ·intro w'
  go_simp
  with_reducible rfl
 rotate_left
 ·simp only [Act.put, List.setIfInBounds_toArray, List.set_cons_zero, List.set_cons_succ, i64_w, i32_w]
  rfl
 refine take_ (i := 8) (N := some 72) (v := (.agg #[.int .u32 q0_, .int .u16 q1_])) #[true, true, true, true, true, true, true, true, true, false, false, false, false, false, false] rfl rfl (take_ofW HT_.out HW_.out (by kernel_rfl)) (fun _ _ _ h => h) (Or.inl ⟨by rfl, fun w' s0 => ?_⟩) hHeld rfl ?_
 ·obtain ⟨s0, s1, s2⟩ := s0
  exact load_mid_ (p := .tmp 71) (ty := 65) (cs := [.int .u32 q0_, .int .u16 q1_]) (by rfl) (by rfl) s2 hu65 (by rfl) HI65.out
 refine norm_ (a' := ?_) ?_ ?_
 rotate_left
 ·show Act.put _ (some 72) _ = _
  simp only [Act.put, List.setIfInBounds_toArray, List.set_cons_zero, List.set_cons_succ, i64_w, i32_w]
  rfl
 refine one_ (i := 9) (N := some 73) #[true, true, true, true, true, true, true, true, true, true, false, false, false, false, false] rfl rfl (one_of HT_.out (by kernel_rfl)) (by decide) (fun K hK => ?_); refine goes_ Try.func42 (by kernel_rfl) rfl #[.slice Ax x.length cx, .agg #[.int .u32 p0_, .int .u16 p1_], .agg #[.int .u32 q0_, .int .u16 q1_]] (by rfl) rfl rfl (by first | rfl | (go_simp; done) | (go_simp; rfl) | (go_simp; decide)) ?_; refine (rewrite_Inner.via 4000 Ax cx x _ p0_ p1_ q0_ q1_ y 0 _ (Kd.R_reads' HRx.out).2.2 (Kd.R_reads' HRx.out).2.1 (fun w2 h2 => Pure.Lk.look HLX.out h2 (Kd.R_reads' HRx.out).2.1) (fun _ _ => HOK2.out) HI2.out).mono ?_; rintro ev w22 ⟨v_, rfl, ho, hb⟩; have HRy := Aside0.mk (Kd.R_lower ho (below_size HB.out)); obtain ⟨Ay, cy, rfl, _, _⟩ := Kd.R_reads ho; clear ho; have hb_ := hb; replace HB := mB HB hb_; replace HXs := mX HXs hb_
 replace HXd := mX HXd hb_; replace HRb := mR HRb hb_; replace HRi := mI HRi hb_; replace HXf := mX HXf hb_; replace HRx := mR HRx hb_; replace HRi2 := mI HRi2 hb_; replace HXh := mX HXh hb_; replace HG0 := mG HG0 hb_; replace HG2 := mG HG2 hb_; clear hb_; clear hb; refine ⟨_, rfl, ?_⟩; refine hK.out _ _ ⟨HXf.out, HG0.out, HG2.out⟩ (fun hHeld => ?_); clear hK K; refine norm_ (a' := ?_) ?_ ?_
 rotate_left
 ·show Act.put _ (some 73) _ = _
  simp only [Act.put, List.setIfInBounds_toArray, List.set_cons_zero, List.set_cons_succ, i64_w, i32_w]
  rfl
 refine pure_ (i := 10) (N := some 63) (v := ?_) (a' := ?_) #[true, true, true, true, true, true, true, true, true, true, true, false, false, false, false] rfl rfl (any_of HT_.out (by kernel_rfl)) (fun _ _ _ h => h) (Or.inl ⟨by rfl, ?_⟩) ?_ ?_
 rotate_left
 ·intro w'
  go_simp
  with_reducible rfl
 rotate_left
 ·simp only [Act.put, List.setIfInBounds_toArray, List.set_cons_zero, List.set_cons_succ, i64_w, i32_w]
  rfl
 refine pure_ (i := 11) (N := some 74) (v := ?_) (a' := ?_) #[true, true, true, true, true, true, true, true, true, true, true, true, false, false, false] rfl rfl (any_of HT_.out (by kernel_rfl)) (fun _ _ _ h => h) (Or.inl ⟨by rfl, ?_⟩) ?_ ?_
 rotate_left
 ·intro w'
  go_simp
  with_reducible rfl
 rotate_left
 ·simp only [Act.put, List.setIfInBounds_toArray, List.set_cons_zero, List.set_cons_succ, i64_w, i32_w]
  rfl
 refine pure_ (i := 12) (N := some 75) (v := ?_) (a' := ?_) #[true, true, true, true, true, true, true, true, true, true, true, true, true, false, false] rfl rfl (any_of HT_.out (by kernel_rfl)) (fun _ _ _ h => h) (Or.inl ⟨by rfl, ?_⟩) ?_ ?_
 rotate_left
 ·intro w'
  go_simp
  with_reducible rfl
 rotate_left
 ·simp only [Act.put, List.setIfInBounds_toArray, List.set_cons_zero, List.set_cons_succ, i64_w, i32_w]
  rfl
 refine pure_ (i := 13) (N := some 18) (v := ?_) (a' := ?_) #[true, true, true, true, true, true, true, true, true, true, true, true, true, true, false] rfl rfl (any_of HT_.out (by kernel_rfl)) (fun _ _ _ h => h) (Or.inl ⟨by rfl, ?_⟩) ?_ ?_
 rotate_left
 ·intro w'
  go_simp
  with_reducible rfl
 rotate_left
 ·simp only [Act.put, List.setIfInBounds_toArray, List.set_cons_zero, List.set_cons_succ, i64_w, i32_w]
  rfl
 refine pure_ (i := 14) (N := some 19) (v := ?_) (a' := ?_) #[true, true, true, true, true, true, true, true, true, true, true, true, true, true, true] rfl rfl (any_of HT_.out (by kernel_rfl)) (fun _ _ _ h => h) (Or.inl ⟨by rfl, ?_⟩) ?_ ?_
 rotate_left
 ·intro w'
  go_simp
  with_reducible rfl
 rotate_left
 ·simp only [Act.put, List.setIfInBounds_toArray, List.set_cons_zero, List.set_cons_succ, i64_w, i32_w]
  rfl
 refine done_ (done_of HT_.out (by kernel_rfl)) ?_; clear HT_ HW_ hHeld; clear HG0 HG2
 (try dsimp only)
 go_wp2_with fail
 refine (rewrite_Look.via Ay cy y _ _ (Kd.R_reads' HRy.out).2.2 (Kd.R_reads' HRy.out).2.1 (fun w2 h2 => Pure.Lk.look HLY.out h2 (Kd.R_reads' HRy.out).2.1)).mono ?_; rintro ev w23 hpost; obtain ⟨v8, v9, vi, rfl, ho8, ho9, hi, hb⟩ := hpost; dsimp only at ho8 ho9 hi
 obtain ⟨Ao3, co3, rfl, _, _⟩ := Kd.R_reads ho8; obtain ⟨Ab3b, cb3b, rfl, _, _⟩ := Kd.R_reads ho9; obtain ⟨gi3, ci3, rfl, HRi3⟩ := two65 hi HB; clear ho8 ho9 hi; have hb_ := hb; replace HB := mB HB hb_; replace HXs := mX HXs hb_; replace HXd := mX HXd hb_; replace HRb := mR HRb hb_; replace HRi := mI HRi hb_; replace HXf := mX HXf hb_; replace HRx := mR HRx hb_; replace HRi2 := mI HRi2 hb_; replace HXh := mX HXh hb_; replace HRy := mR HRy hb_; clear hb_; clear hb
 (try dsimp only)
 go_upto_region 13 with (first | ((with_reducible refine gate_dst (N := 20) rfl ?_); refine box_event ?hg_ (N := 20) ?hd_ (cs := #[.int .u8 0, .int .u8 0, .int .u8 0, .int .u16 0, .int .u8 0, .int .u16 0, .int .u32 0, .int .u32 0, .slice none 0 0, .slice none 0 0]) (t := 73) ?hr_ ?_; (case hd_ => rfl); (case hg_ => rfl); (case hr_ => first | (go_simp; done) | (go_simp; rfl)); intro gr hgg_ w24 hbox_ hbb_; have GHXr := Aside0.mk (show w.heap.size <= gr by rw [hgg_]; exact below_size HB.out); have HXr := Aside0.mk hbox_; have hb_ := hbb_; replace HB := mB HB hb_; replace HXs := mX HXs hb_; replace HXd := mX HXd hb_; replace HRb := mR HRb hb_; replace HRi := mI HRi hb_; replace HXf := mX HXf hb_; replace HRx := mR HRx hb_; replace HRi2 := mI HRi2 hb_; replace HXh := mX HXh hb_; replace HRy := mR HRy hb_; replace HRi3 := mI HRi3 hb_; clear hb_; clear hgg_ hbox_ hbb_) | ((with_reducible refine gate_dst (N := 21) rfl ?_); refine box_event ?hg_ (N := 21) ?hd_ (cs := #[.int .u8 0, .int .u32 0, .int .u16 0, .int .u32 0, .int .u16 0, .int .u8 0, .slice none 0 0]) (t := 76) ?hr_ ?_; (case hd_ => rfl); (case hg_ => rfl); (case hr_ => first | (go_simp; done) | (go_simp; rfl)); intro gz hgg_ w25 hbox_ hbb_; have GHXz := Aside0.mk (show w.heap.size <= gz by rw [hgg_]; exact below_size HB.out); have HXz := Aside0.mk hbox_; have NE_HXf_HXz : Aside0 (gf ≠ gz) := ⟨by rw [hgg_]; exact (blk_less HXf).out⟩; have NE_HXh_HXz : Aside0 (gh ≠ gz) := ⟨by rw [hgg_]; exact (blk_less HXh).out⟩; have hb_ := hbb_; replace HB := mB HB hb_; replace HXs := mX HXs hb_; replace HXd := mX HXd hb_; replace HRb := mR HRb hb_; replace HRi := mI HRi hb_; replace HXf := mX HXf hb_; replace HRx := mR HRx hb_; replace HRi2 := mI HRi2 hb_; replace HXh := mX HXh hb_; replace HRy := mR HRy hb_; replace HRi3 := mI HRi3 hb_; replace HXr := mX HXr hb_; clear hb_; clear hgg_ hbox_ hbb_) | ((refine rw_putrow rfl rfl rfl rfl rfl HXr.out HI73.out rfl (by simp [Value.oneCell']) ?_); intro w26 hs_ off_; replace HXs := oX off_ HXs HXr (by decide); replace HXd := oX off_ HXd HXr (by decide); replace HRb := oR off_ HRb HXr (by decide); replace HRi := oI off_ HRi HXr (by decide); replace HXf := oX off_ HXf HXr (by decide); replace HRx := oR off_ HRx HXr (by decide); replace HRi2 := oI off_ HRi2 HXr (by decide); replace HXh := oX off_ HXh HXr (by decide); replace HRy := oR off_ HRy HXr (by decide); replace HRi3 := oI off_ HRi3 HXr (by decide); replace HXz := oX off_ HXz HXr (by decide); replace HB := oB off_ HB GHXr; clear off_; replace HXr := Aside0.mk hs_; clear hs_) | ((refine rw_putrow rfl rfl rfl rfl rfl HXz.out HI76.out rfl (by simp [Value.oneCell']) ?_); intro w27 hs_ off_; replace HXs := oX off_ HXs HXz (by decide); replace HXd := oX off_ HXd HXz (by decide); replace HRb := oR off_ HRb HXz (by decide); replace HRi := oI off_ HRi HXz (by decide); replace HXf := oN off_ HXf NE_HXf_HXz; replace HRx := oR off_ HRx HXz (by decide); replace HRi2 := oI off_ HRi2 HXz (by decide); replace HXh := oN off_ HXh NE_HXh_HXz; replace HRy := oR off_ HRy HXz (by decide); replace HRi3 := oI off_ HRi3 HXz (by decide); replace HXr := oX off_ HXr HXz (by decide); replace HB := oB off_ HB GHXz; clear off_; replace HXz := Aside0.mk hs_; clear hs_))
 clear HXr; clear GHXr; have HG0 := (rng65 HRi2).1; have HG2 := (rng65 HRi2).2; have zs := beq_self_eq_true s; have zsp := beq_self_eq_true sp; have zd := beq_self_eq_true d; have zdp := beq_self_eq_true dp
 go_upto_region 13 with (fail)
 refine start_ (n := 70) (S := fun w' => w'.heap[gs]? = some (.cells #[.int .u32 si, .int .u16 ps] 65 (0, 0)) /\ w'.heap[gd]? = some (.cells #[.int .u32 di, .int .u16 ps] 65 (0, 0)) /\ w'.heap[gf]? = some (.cells #[.int .u8 pr, .int .u32 s, .int .u16 sp, .int .u32 d, .int .u16 dp, .int .u8 ff, .slice (some ⟨gi, 0, none⟩) 2 ci] 76 (0, 0)) /\ w'.heap[gh]? = some (.cells #[.int .u8 pr2, .int .u32 s, .int .u16 sp, .int .u32 d, .int .u16 dp, .int .u8 ff2, .slice (some ⟨gi2, 0, none⟩) 2 ci2] 76 (0, 0)) /\ w'.heap[gz]? = some (.cells #[.int .u8 pr3, .int .u32 s3, .int .u16 sp3, .int .u32 d3, .int .u16 dp3, .int .u8 ff3, .slice (some ⟨gi3, 0, none⟩) 2 ci3] 76 (0, 0)) /\ w'.rangeAt gi2 0 [.int .u32 si, .int .u16 ps] /\ w'.rangeAt gi2 2 [.int .u32 di, .int .u16 ps]) (ds := []) #[false, false, false, false, false, false, false, false, false, false, false, false, false, false, false, false, false, false, false, false, false, false, false, false, false, false, false, false, false, false, false, false, false, false, false, false, false, false, false, false, false, false, false, false, false, false, false, false, false, false, false, false, false, false, false, false, false, false, false, false, false, false, false, false, false, false, false, false, false, false] (by kernel_rfl) rfl rfl ⟨HXs.out, HXd.out, HXf.out, HXh.out, HXz.out, HG0.out, HG2.out⟩ (fun hHeld => ?_)
 refine with_tabW inb.R13.tab inb.R13.bits (fun HT_ HW_ => ?_); have hb_ := below_drew1 (Below.refl w27.heap.size w27); replace HB := mB HB hb_; replace HXs := mX HXs hb_; replace HXd := mX HXd hb_; replace HRb := mR HRb hb_; replace HRi := mI HRi hb_; replace HXf := mX HXf hb_; replace HRx := mR HRx hb_; replace HRi2 := mI HRi2 hb_; replace HXh := mX HXh hb_; replace HRy := mR HRy hb_; replace HRi3 := mI HRi3 hb_; replace HXz := mX HXz hb_; replace HG0 := mG HG0 hb_; replace HG2 := mG HG2 hb_; clear hb_; generalize w27.drew = w28 at HB HXs HXd HRb HRi HXf HRx HRi2 HXh HRy HRi3 HXz HG0 HG2 hHeld |-
 refine pure_ (i := 0) (N := some 82) (v := ?_) (a' := ?_) #[true, false, false, false, false, false, false, false, false, false, false, false, false, false, false, false, false, false, false, false, false, false, false, false, false, false, false, false, false, false, false, false, false, false, false, false, false, false, false, false, false, false, false, false, false, false, false, false, false, false, false, false, false, false, false, false, false, false, false, false, false, false, false, false, false, false, false, false, false, false] rfl rfl (any_of HT_.out (by kernel_rfl)) (fun _ _ _ h => h) (Or.inl ⟨by rfl, ?_⟩) ?_ ?_
 rotate_left
 ·intro w'
  go_simp
  with_reducible rfl
 rotate_left
 ·simp only [Act.put, List.setIfInBounds_toArray, List.set_cons_zero, List.set_cons_succ, i64_w, i32_w]
  rfl
 refine pure_ (i := 1) (N := some 83) (v := ?_) (a' := ?_) #[true, true, false, false, false, false, false, false, false, false, false, false, false, false, false, false, false, false, false, false, false, false, false, false, false, false, false, false, false, false, false, false, false, false, false, false, false, false, false, false, false, false, false, false, false, false, false, false, false, false, false, false, false, false, false, false, false, false, false, false, false, false, false, false, false, false, false, false, false, false] rfl rfl (any_of HT_.out (by kernel_rfl)) (fun _ _ _ h => h) (Or.inl ⟨by rfl, ?_⟩) ?_ ?_
 rotate_left
 ·intro w'
  go_simp
  with_reducible rfl
 rotate_left
 ·simp only [Act.put, List.setIfInBounds_toArray, List.set_cons_zero, List.set_cons_succ, i64_w, i32_w]
  rfl
 refine pure_ (i := 2) (N := some 84) (v := (.int .i64 0)) #[true, true, true, false, false, false, false, false, false, false, false, false, false, false, false, false, false, false, false, false, false, false, false, false, false, false, false, false, false, false, false, false, false, false, false, false, false, false, false, false, false, false, false, false, false, false, false, false, false, false, false, false, false, false, false, false, false, false, false, false, false, false, false, false, false, false, false, false, false, false] rfl rfl (any_of HT_.out (by kernel_rfl)) (fun _ _ _ h => h) (Or.inl ⟨by rfl, fun w' => ?_⟩) rfl ?_
 ·first | (go_simp; done) | (go_simp; rfl) | (go_simp; decide)
 refine norm_ (a' := ?_) ?_ ?_
 rotate_left
 ·show Act.put _ (some 84) _ = _
  simp only [Act.put, List.setIfInBounds_toArray, List.set_cons_zero, List.set_cons_succ, i64_w, i32_w]
  rfl
 refine pure_ (i := 3) (N := some 85) (v := ?_) (a' := ?_) #[true, true, true, true, false, false, false, false, false, false, false, false, false, false, false, false, false, false, false, false, false, false, false, false, false, false, false, false, false, false, false, false, false, false, false, false, false, false, false, false, false, false, false, false, false, false, false, false, false, false, false, false, false, false, false, false, false, false, false, false, false, false, false, false, false, false, false, false, false, false] rfl rfl (any_of HT_.out (by kernel_rfl)) (fun _ _ _ h => h) (Or.inl ⟨by rfl, ?_⟩) ?_ ?_
 rotate_left
 ·intro w'
  go_simp
  with_reducible rfl
 rotate_left
 ·simp only [Act.put, List.setIfInBounds_toArray, List.set_cons_zero, List.set_cons_succ, i64_w, i32_w]
  rfl
 refine pure_ (i := 4) (N := some 86) (v := (.int .i64 0)) #[true, true, true, true, true, false, false, false, false, false, false, false, false, false, false, false, false, false, false, false, false, false, false, false, false, false, false, false, false, false, false, false, false, false, false, false, false, false, false, false, false, false, false, false, false, false, false, false, false, false, false, false, false, false, false, false, false, false, false, false, false, false, false, false, false, false, false, false, false, false] rfl rfl (any_of HT_.out (by kernel_rfl)) (fun _ _ _ h => h) (Or.inl ⟨by rfl, fun w' => ?_⟩) rfl ?_
 ·first | (go_simp; done) | (go_simp; rfl) | (go_simp; decide)
 refine norm_ (a' := ?_) ?_ ?_
 rotate_left
 ·show Act.put _ (some 86) _ = _
  simp only [Act.put, List.setIfInBounds_toArray, List.set_cons_zero, List.set_cons_succ, i64_w, i32_w]
  rfl
 refine pure_ (i := 5) (N := some 87) (v := ?_) (a' := ?_) #[true, true, true, true, true, true, false, false, false, false, false, false, false, false, false, false, false, false, false, false, false, false, false, false, false, false, false, false, false, false, false, false, false, false, false, false, false, false, false, false, false, false, false, false, false, false, false, false, false, false, false, false, false, false, false, false, false, false, false, false, false, false, false, false, false, false, false, false, false, false] rfl rfl (any_of HT_.out (by kernel_rfl)) (fun _ _ _ h => h) (Or.inl ⟨by rfl, ?_⟩) ?_ ?_
 rotate_left
 ·intro w'
  go_simp
  with_reducible rfl
 rotate_left
 ·simp only [Act.put, List.setIfInBounds_toArray, List.set_cons_zero, List.set_cons_succ, i64_w, i32_w]
  rfl
 refine pure_ (i := 6) (N := some 88) (v := (.int .i64 0)) #[true, true, true, true, true, true, true, false, false, false, false, false, false, false, false, false, false, false, false, false, false, false, false, false, false, false, false, false, false, false, false, false, false, false, false, false, false, false, false, false, false, false, false, false, false, false, false, false, false, false, false, false, false, false, false, false, false, false, false, false, false, false, false, false, false, false, false, false, false, false] rfl rfl (any_of HT_.out (by kernel_rfl)) (fun _ _ _ h => h) (Or.inl ⟨by rfl, fun w' => ?_⟩) rfl ?_
 ·first | (go_simp; done) | (go_simp; rfl) | (go_simp; decide)
 refine norm_ (a' := ?_) ?_ ?_
 rotate_left
 ·show Act.put _ (some 88) _ = _
  simp only [Act.put, List.setIfInBounds_toArray, List.set_cons_zero, List.set_cons_succ, i64_w, i32_w]
  rfl
 refine pure_ (i := 7) (N := some 89) (v := (.bool true)) #[true, true, true, true, true, true, true, true, false, false, false, false, false, false, false, false, false, false, false, false, false, false, false, false, false, false, false, false, false, false, false, false, false, false, false, false, false, false, false, false, false, false, false, false, false, false, false, false, false, false, false, false, false, false, false, false, false, false, false, false, false, false, false, false, false, false, false, false, false, false] rfl rfl (any_of HT_.out (by kernel_rfl)) (fun _ _ _ h => h) (Or.inl ⟨by rfl, fun w' => ?_⟩) rfl ?_
 ·first | (go_simp; done) | (go_simp; rfl) | (go_simp; decide)
 refine norm_ (a' := ?_) ?_ ?_
 rotate_left
 ·show Act.put _ (some 89) _ = _
  simp only [Act.put, List.setIfInBounds_toArray, List.set_cons_zero, List.set_cons_succ, i64_w, i32_w]
  rfl
 refine pure_ (i := 8) (N := some 90) (v := ?_) (a' := ?_) #[true, true, true, true, true, true, true, true, true, false, false, false, false, false, false, false, false, false, false, false, false, false, false, false, false, false, false, false, false, false, false, false, false, false, false, false, false, false, false, false, false, false, false, false, false, false, false, false, false, false, false, false, false, false, false, false, false, false, false, false, false, false, false, false, false, false, false, false, false, false] rfl rfl (any_of HT_.out (by kernel_rfl)) (fun _ _ _ h => h) (Or.inl ⟨by rfl, ?_⟩) ?_ ?_
 rotate_left
 ·intro w'
  go_simp
  with_reducible rfl
 rotate_left
 ·simp only [Act.put, List.setIfInBounds_toArray, List.set_cons_zero, List.set_cons_succ, i64_w, i32_w]
  rfl
 refine pure_ (i := 9) (N := some 91) (v := ?_) (a' := ?_) #[true, true, true, true, true, true, true, true, true, true, false, false, false, false, false, false, false, false, false, false, false, false, false, false, false, false, false, false, false, false, false, false, false, false, false, false, false, false, false, false, false, false, false, false, false, false, false, false, false, false, false, false, false, false, false, false, false, false, false, false, false, false, false, false, false, false, false, false, false, false] rfl rfl (any_of HT_.out (by kernel_rfl)) (fun _ _ _ h => h) (Or.inl ⟨by rfl, ?_⟩) ?_ ?_
 rotate_left
 ·intro w'
  go_simp
  with_reducible rfl
 rotate_left
 ·simp only [Act.put, List.setIfInBounds_toArray, List.set_cons_zero, List.set_cons_succ, i64_w, i32_w]
  rfl
 refine take_ (i := 10) (N := some 92) (v := (.slice (some ⟨gi2, 0, none⟩) 2 ci2)) #[true, true, true, true, true, true, true, true, true, true, true, false, false, false, false, false, false, false, false, false, false, false, false, false, false, false, false, false, false, false, false, false, false, false, false, false, false, false, false, false, false, false, false, false, false, false, false, false, false, false, false, false, false, false, false, false, false, false, false, false, false, false, false, false, false, false, false, false, false, false] rfl rfl (take_ofW HT_.out HW_.out (by kernel_rfl)) (fun _ _ _ h => h) (Or.inl ⟨by rfl, fun w' s0 => ?_⟩) hHeld rfl ?_
 ·obtain ⟨s0, s1, s2, s3, s4, s5, s6⟩ := s0
  have s3_6 := (blk_cell s3 6).trans (rfl : _ = some (.slice (some ⟨gi2, 0, none⟩) 2 ci2 : Value))
  first | (go_simp; done) | (go_simp; with_reducible rfl)
 refine norm_ (a' := ?_) ?_ ?_
 rotate_left
 ·show Act.put _ (some 92) _ = _
  simp only [Act.put, List.setIfInBounds_toArray, List.set_cons_zero, List.set_cons_succ, i64_w, i32_w]
  rfl
 refine pure_ (i := 11) (N := some 93) (v := ?_) (a' := ?_) #[true, true, true, true, true, true, true, true, true, true, true, true, false, false, false, false, false, false, false, false, false, false, false, false, false, false, false, false, false, false, false, false, false, false, false, false, false, false, false, false, false, false, false, false, false, false, false, false, false, false, false, false, false, false, false, false, false, false, false, false, false, false, false, false, false, false, false, false, false, false] rfl rfl (any_of HT_.out (by kernel_rfl)) (fun _ _ _ h => h) (Or.inl ⟨by rfl, ?_⟩) ?_ ?_
 rotate_left
 ·intro w'
  go_simp
  with_reducible rfl
 rotate_left
 ·simp only [Act.put, List.setIfInBounds_toArray, List.set_cons_zero, List.set_cons_succ, i64_w, i32_w]
  rfl
 refine pure_ (i := 12) (N := some 94) (v := (.bool true)) #[true, true, true, true, true, true, true, true, true, true, true, true, true, false, false, false, false, false, false, false, false, false, false, false, false, false, false, false, false, false, false, false, false, false, false, false, false, false, false, false, false, false, false, false, false, false, false, false, false, false, false, false, false, false, false, false, false, false, false, false, false, false, false, false, false, false, false, false, false, false] rfl rfl (any_of HT_.out (by kernel_rfl)) (fun _ _ _ h => h) (Or.inl ⟨by rfl, fun w' => ?_⟩) rfl ?_
 ·first | (go_simp; done) | (go_simp; rfl) | (go_simp; decide)
 refine norm_ (a' := ?_) ?_ ?_
 rotate_left
 ·show Act.put _ (some 94) _ = _
  simp only [Act.put, List.setIfInBounds_toArray, List.set_cons_zero, List.set_cons_succ, i64_w, i32_w]
  rfl
 refine pure_ (i := 13) (N := some 95) (v := (.bool true)) #[true, true, true, true, true, true, true, true, true, true, true, true, true, true, false, false, false, false, false, false, false, false, false, false, false, false, false, false, false, false, false, false, false, false, false, false, false, false, false, false, false, false, false, false, false, false, false, false, false, false, false, false, false, false, false, false, false, false, false, false, false, false, false, false, false, false, false, false, false, false] rfl rfl (any_of HT_.out (by kernel_rfl)) (fun _ _ _ h => h) (Or.inl ⟨by rfl, fun w' => ?_⟩) rfl ?_
 ·first | (go_simp; done) | (go_simp; rfl) | (go_simp; decide)
 refine norm_ (a' := ?_) ?_ ?_
 rotate_left
 ·show Act.put _ (some 95) _ = _
  simp only [Act.put, List.setIfInBounds_toArray, List.set_cons_zero, List.set_cons_succ, i64_w, i32_w]
  rfl
 refine pure_ (i := 14) (N := some 96) (v := ?_) (a' := ?_) #[true, true, true, true, true, true, true, true, true, true, true, true, true, true, true, false, false, false, false, false, false, false, false, false, false, false, false, false, false, false, false, false, false, false, false, false, false, false, false, false, false, false, false, false, false, false, false, false, false, false, false, false, false, false, false, false, false, false, false, false, false, false, false, false, false, false, false, false, false, false] rfl rfl (any_of HT_.out (by kernel_rfl)) (fun _ _ _ h => h) (Or.inl ⟨by rfl, ?_⟩) ?_ ?_
 rotate_left
 ·intro w'
  go_simp
  with_reducible rfl
 rotate_left
 ·simp only [Act.put, List.setIfInBounds_toArray, List.set_cons_zero, List.set_cons_succ, i64_w, i32_w]
  rfl
 refine pure_ (i := 15) (N := some 97) (v := ?_) (a' := ?_) #[true, true, true, true, true, true, true, true, true, true, true, true, true, true, true, true, false, false, false, false, false, false, false, false, false, false, false, false, false, false, false, false, false, false, false, false, false, false, false, false, false, false, false, false, false, false, false, false, false, false, false, false, false, false, false, false, false, false, false, false, false, false, false, false, false, false, false, false, false, false] rfl rfl (any_of HT_.out (by kernel_rfl)) (fun _ _ _ h => h) (Or.inl ⟨by rfl, ?_⟩) ?_ ?_
 rotate_left
 ·intro w'
  go_simp
  with_reducible rfl
 rotate_left
 ·simp only [Act.put, List.setIfInBounds_toArray, List.set_cons_zero, List.set_cons_succ, i64_w, i32_w]
  rfl
 refine pure_ (i := 20) (N := some 102) (v := ?_) (a' := ?_) #[true, true, true, true, true, true, true, true, true, true, true, true, true, true, true, true, false, false, false, false, true, false, false, false, false, false, false, false, false, false, false, false, false, false, false, false, false, false, false, false, false, false, false, false, false, false, false, false, false, false, false, false, false, false, false, false, false, false, false, false, false, false, false, false, false, false, false, false, false, false] rfl rfl (any_of HT_.out (by kernel_rfl)) (fun _ _ _ h => h) (Or.inl ⟨by rfl, ?_⟩) ?_ ?_
 rotate_left
 ·intro w'
  go_simp
  with_reducible rfl
 rotate_left
 ·simp only [Act.put, List.setIfInBounds_toArray, List.set_cons_zero, List.set_cons_succ, i64_w, i32_w]
  rfl
 refine take_ (i := 16) (N := some 98) (v := (.slice (some ⟨gi2, 0, none⟩) 2 ci2)) #[true, true, true, true, true, true, true, true, true, true, true, true, true, true, true, true, true, false, false, false, true, false, false, false, false, false, false, false, false, false, false, false, false, false, false, false, false, false, false, false, false, false, false, false, false, false, false, false, false, false, false, false, false, false, false, false, false, false, false, false, false, false, false, false, false, false, false, false, false, false] rfl rfl (take_ofW HT_.out HW_.out (by kernel_rfl)) (fun _ _ _ h => h) (Or.inl ⟨by rfl, fun w' s0 => ?_⟩) hHeld rfl ?_
 ·obtain ⟨s0, s1, s2, s3, s4, s5, s6⟩ := s0
  have s3_6 := (blk_cell s3 6).trans (rfl : _ = some (.slice (some ⟨gi2, 0, none⟩) 2 ci2 : Value))
  first | (go_simp; done) | (go_simp; with_reducible rfl)
 refine norm_ (a' := ?_) ?_ ?_
 rotate_left
 ·show Act.put _ (some 98) _ = _
  simp only [Act.put, List.setIfInBounds_toArray, List.set_cons_zero, List.set_cons_succ, i64_w, i32_w]
  rfl
 refine pure_ (i := 17) (N := some 99) (v := ?_) (a' := ?_) #[true, true, true, true, true, true, true, true, true, true, true, true, true, true, true, true, true, true, false, false, true, false, false, false, false, false, false, false, false, false, false, false, false, false, false, false, false, false, false, false, false, false, false, false, false, false, false, false, false, false, false, false, false, false, false, false, false, false, false, false, false, false, false, false, false, false, false, false, false, false] rfl rfl (any_of HT_.out (by kernel_rfl)) (fun _ _ _ h => h) (Or.inl ⟨by rfl, ?_⟩) ?_ ?_
 rotate_left
 ·intro w'
  go_simp
  with_reducible rfl
 rotate_left
 ·simp only [Act.put, List.setIfInBounds_toArray, List.set_cons_zero, List.set_cons_succ, i64_w, i32_w]
  rfl
 refine pure_ (i := 18) (N := some 100) (v := ?_) (a' := ?_) #[true, true, true, true, true, true, true, true, true, true, true, true, true, true, true, true, true, true, true, false, true, false, false, false, false, false, false, false, false, false, false, false, false, false, false, false, false, false, false, false, false, false, false, false, false, false, false, false, false, false, false, false, false, false, false, false, false, false, false, false, false, false, false, false, false, false, false, false, false, false] rfl rfl (any_of HT_.out (by kernel_rfl)) (fun _ _ _ h => h) (Or.inl ⟨by rfl, ?_⟩) ?_ ?_
 rotate_left
 ·intro w'
  go_simp
  with_reducible rfl
 rotate_left
 ·simp only [Act.put, List.setIfInBounds_toArray, List.set_cons_zero, List.set_cons_succ, i64_w, i32_w]
  rfl
 refine take_ (i := 19) (N := some 101) (v := (.int .u32 si)) #[true, true, true, true, true, true, true, true, true, true, true, true, true, true, true, true, true, true, true, true, true, false, false, false, false, false, false, false, false, false, false, false, false, false, false, false, false, false, false, false, false, false, false, false, false, false, false, false, false, false, false, false, false, false, false, false, false, false, false, false, false, false, false, false, false, false, false, false, false, false] rfl rfl (take_ofW HT_.out HW_.out (by kernel_rfl)) (fun _ _ _ h => h) (Or.inl ⟨by rfl, fun w' s0 => ?_⟩) hHeld rfl ?_
 ·obtain ⟨s0, s1, s2, s3, s4, s5, s6⟩ := s0
  have m_ : w'.cell? ⟨gi2, 0, none⟩ = some (.int .u32 si) := s5 0 _ rfl
  first | (go_simp; done) | (go_simp; with_reducible rfl)
 refine norm_ (a' := ?_) ?_ ?_
 rotate_left
 ·show Act.put _ (some 101) _ = _
  simp only [Act.put, List.setIfInBounds_toArray, List.set_cons_zero, List.set_cons_succ, i64_w, i32_w]
  rfl
 refine take_ (i := 21) (N := some 103) (v := (.int .u32 si)) #[true, true, true, true, true, true, true, true, true, true, true, true, true, true, true, true, true, true, true, true, true, true, false, false, false, false, false, false, false, false, false, false, false, false, false, false, false, false, false, false, false, false, false, false, false, false, false, false, false, false, false, false, false, false, false, false, false, false, false, false, false, false, false, false, false, false, false, false, false, false] rfl rfl (take_ofW HT_.out HW_.out (by kernel_rfl)) (fun _ _ _ h => h) (Or.inl ⟨by rfl, fun w' s0 => ?_⟩) hHeld rfl ?_
 ·obtain ⟨s0, s1, s2, s3, s4, s5, s6⟩ := s0
  have s0_0 := (blk_cell s0 0).trans (rfl : _ = some (.int .u32 si : Value))
  first | (go_simp; done) | (go_simp; with_reducible rfl)
 refine norm_ (a' := ?_) ?_ ?_
 rotate_left
 ·show Act.put _ (some 103) _ = _
  simp only [Act.put, List.setIfInBounds_toArray, List.set_cons_zero, List.set_cons_succ, i64_w, i32_w]
  rfl
 refine pure_ (i := 22) (N := some 104) (v := (.bool true)) #[true, true, true, true, true, true, true, true, true, true, true, true, true, true, true, true, true, true, true, true, true, true, true, false, false, false, false, false, false, false, false, false, false, false, false, false, false, false, false, false, false, false, false, false, false, false, false, false, false, false, false, false, false, false, false, false, false, false, false, false, false, false, false, false, false, false, false, false, false, false] rfl rfl (any_of HT_.out (by kernel_rfl)) (fun _ _ _ h => h) (Or.inl ⟨by rfl, fun w' => ?_⟩) rfl ?_
 ·first | (go_simp; done) | (go_simp; rfl) | (go_simp; decide)
 refine norm_ (a' := ?_) ?_ ?_
 rotate_left
 ·show Act.put _ (some 104) _ = _
  simp only [Act.put, List.setIfInBounds_toArray, List.set_cons_zero, List.set_cons_succ, i64_w, i32_w]
  rfl
 refine pure_ (i := 23) (N := some 105) (v := (.bool true)) #[true, true, true, true, true, true, true, true, true, true, true, true, true, true, true, true, true, true, true, true, true, true, true, true, false, false, false, false, false, false, false, false, false, false, false, false, false, false, false, false, false, false, false, false, false, false, false, false, false, false, false, false, false, false, false, false, false, false, false, false, false, false, false, false, false, false, false, false, false, false] rfl rfl (any_of HT_.out (by kernel_rfl)) (fun _ _ _ h => h) (Or.inl ⟨by rfl, fun w' => ?_⟩) rfl ?_
 ·first | (go_simp; done) | (go_simp; rfl) | (go_simp; decide)
 refine norm_ (a' := ?_) ?_ ?_
 rotate_left
 ·show Act.put _ (some 105) _ = _
  simp only [Act.put, List.setIfInBounds_toArray, List.set_cons_zero, List.set_cons_succ, i64_w, i32_w]
  rfl
 refine pure_ (i := 24) (N := some 106) (v := ?_) (a' := ?_) #[true, true, true, true, true, true, true, true, true, true, true, true, true, true, true, true, true, true, true, true, true, true, true, true, true, false, false, false, false, false, false, false, false, false, false, false, false, false, false, false, false, false, false, false, false, false, false, false, false, false, false, false, false, false, false, false, false, false, false, false, false, false, false, false, false, false, false, false, false, false] rfl rfl (any_of HT_.out (by kernel_rfl)) (fun _ _ _ h => h) (Or.inl ⟨by rfl, ?_⟩) ?_ ?_
 rotate_left
 ·intro w'
  go_simp
  with_reducible rfl
 rotate_left
 ·simp only [Act.put, List.setIfInBounds_toArray, List.set_cons_zero, List.set_cons_succ, i64_w, i32_w]
  rfl
 refine pure_ (i := 25) (N := some 107) (v := ?_) (a' := ?_) #[true, true, true, true, true, true, true, true, true, true, true, true, true, true, true, true, true, true, true, true, true, true, true, true, true, true, false, false, false, false, false, false, false, false, false, false, false, false, false, false, false, false, false, false, false, false, false, false, false, false, false, false, false, false, false, false, false, false, false, false, false, false, false, false, false, false, false, false, false, false] rfl rfl (any_of HT_.out (by kernel_rfl)) (fun _ _ _ h => h) (Or.inl ⟨by rfl, ?_⟩) ?_ ?_
 rotate_left
 ·intro w'
  go_simp
  with_reducible rfl
 rotate_left
 ·simp only [Act.put, List.setIfInBounds_toArray, List.set_cons_zero, List.set_cons_succ, i64_w, i32_w]
  rfl
 refine pure_ (i := 30) (N := some 112) (v := ?_) (a' := ?_) #[true, true, true, true, true, true, true, true, true, true, true, true, true, true, true, true, true, true, true, true, true, true, true, true, true, true, false, false, false, false, true, false, false, false, false, false, false, false, false, false, false, false, false, false, false, false, false, false, false, false, false, false, false, false, false, false, false, false, false, false, false, false, false, false, false, false, false, false, false, false] rfl rfl (any_of HT_.out (by kernel_rfl)) (fun _ _ _ h => h) (Or.inl ⟨by rfl, ?_⟩) ?_ ?_
 rotate_left
 ·intro w'
  go_simp
  with_reducible rfl
 rotate_left
 ·simp only [Act.put, List.setIfInBounds_toArray, List.set_cons_zero, List.set_cons_succ, i64_w, i32_w]
  rfl
 refine take_ (i := 26) (N := some 108) (v := (.slice (some ⟨gi2, 0, none⟩) 2 ci2)) #[true, true, true, true, true, true, true, true, true, true, true, true, true, true, true, true, true, true, true, true, true, true, true, true, true, true, true, false, false, false, true, false, false, false, false, false, false, false, false, false, false, false, false, false, false, false, false, false, false, false, false, false, false, false, false, false, false, false, false, false, false, false, false, false, false, false, false, false, false, false] rfl rfl (take_ofW HT_.out HW_.out (by kernel_rfl)) (fun _ _ _ h => h) (Or.inl ⟨by rfl, fun w' s0 => ?_⟩) hHeld rfl ?_
 ·obtain ⟨s0, s1, s2, s3, s4, s5, s6⟩ := s0
  have s3_6 := (blk_cell s3 6).trans (rfl : _ = some (.slice (some ⟨gi2, 0, none⟩) 2 ci2 : Value))
  first | (go_simp; done) | (go_simp; with_reducible rfl)
 refine norm_ (a' := ?_) ?_ ?_
 rotate_left
 ·show Act.put _ (some 108) _ = _
  simp only [Act.put, List.setIfInBounds_toArray, List.set_cons_zero, List.set_cons_succ, i64_w, i32_w]
  rfl
 refine pure_ (i := 27) (N := some 109) (v := ?_) (a' := ?_) #[true, true, true, true, true, true, true, true, true, true, true, true, true, true, true, true, true, true, true, true, true, true, true, true, true, true, true, true, false, false, true, false, false, false, false, false, false, false, false, false, false, false, false, false, false, false, false, false, false, false, false, false, false, false, false, false, false, false, false, false, false, false, false, false, false, false, false, false, false, false] rfl rfl (any_of HT_.out (by kernel_rfl)) (fun _ _ _ h => h) (Or.inl ⟨by rfl, ?_⟩) ?_ ?_
 rotate_left
 ·intro w'
  go_simp
  with_reducible rfl
 rotate_left
 ·simp only [Act.put, List.setIfInBounds_toArray, List.set_cons_zero, List.set_cons_succ, i64_w, i32_w]
  rfl
 refine pure_ (i := 28) (N := some 110) (v := ?_) (a' := ?_) #[true, true, true, true, true, true, true, true, true, true, true, true, true, true, true, true, true, true, true, true, true, true, true, true, true, true, true, true, true, false, true, false, false, false, false, false, false, false, false, false, false, false, false, false, false, false, false, false, false, false, false, false, false, false, false, false, false, false, false, false, false, false, false, false, false, false, false, false, false, false] rfl rfl (any_of HT_.out (by kernel_rfl)) (fun _ _ _ h => h) (Or.inl ⟨by rfl, ?_⟩) ?_ ?_
 rotate_left
 ·intro w'
  go_simp
  with_reducible rfl
 rotate_left
 ·simp only [Act.put, List.setIfInBounds_toArray, List.set_cons_zero, List.set_cons_succ, i64_w, i32_w]
  rfl
 refine take_ (i := 29) (N := some 111) (v := (.int .u32 di)) #[true, true, true, true, true, true, true, true, true, true, true, true, true, true, true, true, true, true, true, true, true, true, true, true, true, true, true, true, true, true, true, false, false, false, false, false, false, false, false, false, false, false, false, false, false, false, false, false, false, false, false, false, false, false, false, false, false, false, false, false, false, false, false, false, false, false, false, false, false, false] rfl rfl (take_ofW HT_.out HW_.out (by kernel_rfl)) (fun _ _ _ h => h) (Or.inl ⟨by rfl, fun w' s0 => ?_⟩) hHeld rfl ?_
 ·obtain ⟨s0, s1, s2, s3, s4, s5, s6⟩ := s0
  have m_ : w'.cell? ⟨gi2, 2, none⟩ = some (.int .u32 di) := s6 0 _ rfl
  first | (go_simp; done) | (go_simp; with_reducible rfl)
 refine norm_ (a' := ?_) ?_ ?_
 rotate_left
 ·show Act.put _ (some 111) _ = _
  simp only [Act.put, List.setIfInBounds_toArray, List.set_cons_zero, List.set_cons_succ, i64_w, i32_w]
  rfl
 refine take_ (i := 31) (N := some 113) (v := (.int .u32 di)) #[true, true, true, true, true, true, true, true, true, true, true, true, true, true, true, true, true, true, true, true, true, true, true, true, true, true, true, true, true, true, true, true, false, false, false, false, false, false, false, false, false, false, false, false, false, false, false, false, false, false, false, false, false, false, false, false, false, false, false, false, false, false, false, false, false, false, false, false, false, false] rfl rfl (take_ofW HT_.out HW_.out (by kernel_rfl)) (fun _ _ _ h => h) (Or.inl ⟨by rfl, fun w' s0 => ?_⟩) hHeld rfl ?_
 ·obtain ⟨s0, s1, s2, s3, s4, s5, s6⟩ := s0
  have s1_0 := (blk_cell s1 0).trans (rfl : _ = some (.int .u32 di : Value))
  first | (go_simp; done) | (go_simp; with_reducible rfl)
 refine norm_ (a' := ?_) ?_ ?_
 rotate_left
 ·show Act.put _ (some 113) _ = _
  simp only [Act.put, List.setIfInBounds_toArray, List.set_cons_zero, List.set_cons_succ, i64_w, i32_w]
  rfl
 refine pure_ (i := 32) (N := some 114) (v := (.bool true)) #[true, true, true, true, true, true, true, true, true, true, true, true, true, true, true, true, true, true, true, true, true, true, true, true, true, true, true, true, true, true, true, true, true, false, false, false, false, false, false, false, false, false, false, false, false, false, false, false, false, false, false, false, false, false, false, false, false, false, false, false, false, false, false, false, false, false, false, false, false, false] rfl rfl (any_of HT_.out (by kernel_rfl)) (fun _ _ _ h => h) (Or.inl ⟨by rfl, fun w' => ?_⟩) rfl ?_
 ·first | (go_simp; done) | (go_simp; rfl) | (go_simp; decide)
 refine norm_ (a' := ?_) ?_ ?_
 rotate_left
 ·show Act.put _ (some 114) _ = _
  simp only [Act.put, List.setIfInBounds_toArray, List.set_cons_zero, List.set_cons_succ, i64_w, i32_w]
  rfl
 refine pure_ (i := 33) (N := some 115) (v := (.bool true)) #[true, true, true, true, true, true, true, true, true, true, true, true, true, true, true, true, true, true, true, true, true, true, true, true, true, true, true, true, true, true, true, true, true, true, false, false, false, false, false, false, false, false, false, false, false, false, false, false, false, false, false, false, false, false, false, false, false, false, false, false, false, false, false, false, false, false, false, false, false, false] rfl rfl (any_of HT_.out (by kernel_rfl)) (fun _ _ _ h => h) (Or.inl ⟨by rfl, fun w' => ?_⟩) rfl ?_
 ·first | (go_simp; done) | (go_simp; rfl) | (go_simp; decide)
 refine norm_ (a' := ?_) ?_ ?_
 rotate_left
 ·show Act.put _ (some 115) _ = _
  simp only [Act.put, List.setIfInBounds_toArray, List.set_cons_zero, List.set_cons_succ, i64_w, i32_w]
  rfl
 refine pure_ (i := 34) (N := some 116) (v := ?_) (a' := ?_) #[true, true, true, true, true, true, true, true, true, true, true, true, true, true, true, true, true, true, true, true, true, true, true, true, true, true, true, true, true, true, true, true, true, true, true, false, false, false, false, false, false, false, false, false, false, false, false, false, false, false, false, false, false, false, false, false, false, false, false, false, false, false, false, false, false, false, false, false, false, false] rfl rfl (any_of HT_.out (by kernel_rfl)) (fun _ _ _ h => h) (Or.inl ⟨by rfl, ?_⟩) ?_ ?_
 rotate_left
 ·intro w'
  go_simp
  with_reducible rfl
 rotate_left
 ·simp only [Act.put, List.setIfInBounds_toArray, List.set_cons_zero, List.set_cons_succ, i64_w, i32_w]
  rfl
 refine pure_ (i := 35) (N := some 117) (v := ?_) (a' := ?_) #[true, true, true, true, true, true, true, true, true, true, true, true, true, true, true, true, true, true, true, true, true, true, true, true, true, true, true, true, true, true, true, true, true, true, true, true, false, false, false, false, false, false, false, false, false, false, false, false, false, false, false, false, false, false, false, false, false, false, false, false, false, false, false, false, false, false, false, false, false, false] rfl rfl (any_of HT_.out (by kernel_rfl)) (fun _ _ _ h => h) (Or.inl ⟨by rfl, ?_⟩) ?_ ?_
 rotate_left
 ·intro w'
  go_simp
  with_reducible rfl
 rotate_left
 ·simp only [Act.put, List.setIfInBounds_toArray, List.set_cons_zero, List.set_cons_succ, i64_w, i32_w]
  rfl
 refine pure_ (i := 37) (N := some 119) (v := ?_) (a' := ?_) #[true, true, true, true, true, true, true, true, true, true, true, true, true, true, true, true, true, true, true, true, true, true, true, true, true, true, true, true, true, true, true, true, true, true, true, true, false, true, false, false, false, false, false, false, false, false, false, false, false, false, false, false, false, false, false, false, false, false, false, false, false, false, false, false, false, false, false, false, false, false] rfl rfl (any_of HT_.out (by kernel_rfl)) (fun _ _ _ h => h) (Or.inl ⟨by rfl, ?_⟩) ?_ ?_
 rotate_left
 ·intro w'
  go_simp
  with_reducible rfl
 rotate_left
 ·simp only [Act.put, List.setIfInBounds_toArray, List.set_cons_zero, List.set_cons_succ, i64_w, i32_w]
  rfl
 refine take_ (i := 36) (N := some 118) (v := (.slice (some ⟨gi3, 0, none⟩) 2 ci3)) #[true, true, true, true, true, true, true, true, true, true, true, true, true, true, true, true, true, true, true, true, true, true, true, true, true, true, true, true, true, true, true, true, true, true, true, true, true, true, false, false, false, false, false, false, false, false, false, false, false, false, false, false, false, false, false, false, false, false, false, false, false, false, false, false, false, false, false, false, false, false] rfl rfl (take_ofW HT_.out HW_.out (by kernel_rfl)) (fun _ _ _ h => h) (Or.inl ⟨by rfl, fun w' s0 => ?_⟩) hHeld rfl ?_
 ·obtain ⟨s0, s1, s2, s3, s4, s5, s6⟩ := s0
  have s4_6 := (blk_cell s4 6).trans (rfl : _ = some (.slice (some ⟨gi3, 0, none⟩) 2 ci3 : Value))
  first | (go_simp; done) | (go_simp; with_reducible rfl)
 refine norm_ (a' := ?_) ?_ ?_
 rotate_left
 ·show Act.put _ (some 118) _ = _
  simp only [Act.put, List.setIfInBounds_toArray, List.set_cons_zero, List.set_cons_succ, i64_w, i32_w]
  rfl
 refine take_ (i := 38) (N := some 120) (v := (.slice (some ⟨gi, 0, none⟩) 2 ci)) #[true, true, true, true, true, true, true, true, true, true, true, true, true, true, true, true, true, true, true, true, true, true, true, true, true, true, true, true, true, true, true, true, true, true, true, true, true, true, true, false, false, false, false, false, false, false, false, false, false, false, false, false, false, false, false, false, false, false, false, false, false, false, false, false, false, false, false, false, false, false] rfl rfl (take_ofW HT_.out HW_.out (by kernel_rfl)) (fun _ _ _ h => h) (Or.inl ⟨by rfl, fun w' s0 => ?_⟩) hHeld rfl ?_
 ·obtain ⟨s0, s1, s2, s3, s4, s5, s6⟩ := s0
  have s2_6 := (blk_cell s2 6).trans (rfl : _ = some (.slice (some ⟨gi, 0, none⟩) 2 ci : Value))
  first | (go_simp; done) | (go_simp; with_reducible rfl)
 refine norm_ (a' := ?_) ?_ ?_
 rotate_left
 ·show Act.put _ (some 120) _ = _
  simp only [Act.put, List.setIfInBounds_toArray, List.set_cons_zero, List.set_cons_succ, i64_w, i32_w]
  rfl
 refine one_ (i := 39) (N := some 121) #[true, true, true, true, true, true, true, true, true, true, true, true, true, true, true, true, true, true, true, true, true, true, true, true, true, true, true, true, true, true, true, true, true, true, true, true, true, true, true, true, false, false, false, false, false, false, false, false, false, false, false, false, false, false, false, false, false, false, false, false, false, false, false, false, false, false, false, false, false, false] rfl rfl (one_of HT_.out (by kernel_rfl)) (by decide) (fun K hK => ?_); refine goes_ Try.func37 (by kernel_rfl) rfl #[.slice (some ⟨gi3, 0, none⟩) 2 ci3, .slice (some ⟨gi, 0, none⟩) 2 ci] (by rfl) rfl rfl (by first | rfl | (go_simp; done) | (go_simp; rfl) | (go_simp; decide)) ?_
 refine (lychhelp_Points.calls 4 (some ⟨gi3, 0, none⟩) ci3 [⟨p0_, p1_⟩, ⟨q0_, q1_⟩] (some ⟨gi, 0, none⟩) ci [⟨p0_, p1_⟩, ⟨q0_, q1_⟩] true _ (Kd.R_reads' HRi3.out).2.2 (Kd.R_reads' HRi3.out).2.1 (Kd.R_reads' HRi.out).2.2 (Kd.R_reads' HRi.out).2.1 HPR.out).mono ?_; rintro ev w_ ⟨rfl, ⟨nd, rfl⟩⟩; have hb_ := pw_below_drewN (Below.refl w28.heap.size w28) nd; replace HB := mB HB hb_; replace HXs := mX HXs hb_; replace HXd := mX HXd hb_; replace HRb := mR HRb hb_; replace HRi := mI HRi hb_; replace HXf := mX HXf hb_; replace HRx := mR HRx hb_; replace HRi2 := mI HRi2 hb_; replace HXh := mX HXh hb_; replace HRy := mR HRy hb_; replace HRi3 := mI HRi3 hb_; replace HXz := mX HXz hb_; replace HG0 := mG HG0 hb_; replace HG2 := mG HG2 hb_; clear hb_; generalize w28.drewN nd = w29 at HB HXs HXd HRb HRi HXf HRx HRi2 HXh HRy HRi3 HXz HG0 HG2 |-
 refine ⟨_, rfl, ?_⟩; refine hK.out _ _ ⟨HXs.out, HXd.out, HXf.out, HXh.out, HXz.out, HG0.out, HG2.out⟩ (fun hHeld => ?_); clear hK K; refine norm_ (a' := ?_) ?_ ?_
 rotate_left
 ·show Act.put _ (some 121) _ = _
  simp only [Act.put, List.setIfInBounds_toArray, List.set_cons_zero, List.set_cons_succ, i64_w, i32_w]
  rfl
 refine pure_ (i := 40) (N := some 122) (v := (.bool true)) #[true, true, true, true, true, true, true, true, true, true, true, true, true, true, true, true, true, true, true, true, true, true, true, true, true, true, true, true, true, true, true, true, true, true, true, true, true, true, true, true, true, false, false, false, false, false, false, false, false, false, false, false, false, false, false, false, false, false, false, false, false, false, false, false, false, false, false, false, false, false] rfl rfl (any_of HT_.out (by kernel_rfl)) (fun _ _ _ h => h) (Or.inl ⟨by rfl, fun w' => ?_⟩) rfl ?_
 ·first | (go_simp; done) | (go_simp; rfl) | (go_simp; decide)
 refine norm_ (a' := ?_) ?_ ?_
 rotate_left
 ·show Act.put _ (some 122) _ = _
  simp only [Act.put, List.setIfInBounds_toArray, List.set_cons_zero, List.set_cons_succ, i64_w, i32_w]
  rfl
 refine pure_ (i := 41) (N := some 123) (v := ?_) (a' := ?_) #[true, true, true, true, true, true, true, true, true, true, true, true, true, true, true, true, true, true, true, true, true, true, true, true, true, true, true, true, true, true, true, true, true, true, true, true, true, true, true, true, true, true, false, false, false, false, false, false, false, false, false, false, false, false, false, false, false, false, false, false, false, false, false, false, false, false, false, false, false, false] rfl rfl (any_of HT_.out (by kernel_rfl)) (fun _ _ _ h => h) (Or.inl ⟨by rfl, ?_⟩) ?_ ?_
 rotate_left
 ·intro w'
  go_simp
  with_reducible rfl
 rotate_left
 ·simp only [Act.put, List.setIfInBounds_toArray, List.set_cons_zero, List.set_cons_succ, i64_w, i32_w]
  rfl
 refine pure_ (i := 42) (N := some 124) (v := ?_) (a' := ?_) #[true, true, true, true, true, true, true, true, true, true, true, true, true, true, true, true, true, true, true, true, true, true, true, true, true, true, true, true, true, true, true, true, true, true, true, true, true, true, true, true, true, true, true, false, false, false, false, false, false, false, false, false, false, false, false, false, false, false, false, false, false, false, false, false, false, false, false, false, false, false] rfl rfl (any_of HT_.out (by kernel_rfl)) (fun _ _ _ h => h) (Or.inl ⟨by rfl, ?_⟩) ?_ ?_
 rotate_left
 ·intro w'
  go_simp
  with_reducible rfl
 rotate_left
 ·simp only [Act.put, List.setIfInBounds_toArray, List.set_cons_zero, List.set_cons_succ, i64_w, i32_w]
  rfl
 refine pure_ (i := 44) (N := some 126) (v := ?_) (a' := ?_) #[true, true, true, true, true, true, true, true, true, true, true, true, true, true, true, true, true, true, true, true, true, true, true, true, true, true, true, true, true, true, true, true, true, true, true, true, true, true, true, true, true, true, true, false, true, false, false, false, false, false, false, false, false, false, false, false, false, false, false, false, false, false, false, false, false, false, false, false, false, false] rfl rfl (any_of HT_.out (by kernel_rfl)) (fun _ _ _ h => h) (Or.inl ⟨by rfl, ?_⟩) ?_ ?_
 rotate_left
 ·intro w'
  go_simp
  with_reducible rfl
 rotate_left
 ·simp only [Act.put, List.setIfInBounds_toArray, List.set_cons_zero, List.set_cons_succ, i64_w, i32_w]
  rfl
 refine take_ (i := 43) (N := some 125) (v := (.agg #[.int .u32 s, .int .u16 sp])) #[true, true, true, true, true, true, true, true, true, true, true, true, true, true, true, true, true, true, true, true, true, true, true, true, true, true, true, true, true, true, true, true, true, true, true, true, true, true, true, true, true, true, true, true, true, false, false, false, false, false, false, false, false, false, false, false, false, false, false, false, false, false, false, false, false, false, false, false, false, false] rfl rfl (take_ofW HT_.out HW_.out (by kernel_rfl)) (fun _ _ _ h => h) (Or.inl ⟨by rfl, fun w' s0 => ?_⟩) hHeld rfl ?_
 ·obtain ⟨s0, s1, s2, s3, s4, s5, s6⟩ := s0
  exact load_mid_ (p := .tmp 124) (ty := 65) (cs := [.int .u32 s, .int .u16 sp]) (by rfl) (by rfl) (World.rangeAt_of_block s3 1 2) hu65 (by rfl) HI65.out
 refine norm_ (a' := ?_) ?_ ?_
 rotate_left
 ·show Act.put _ (some 125) _ = _
  simp only [Act.put, List.setIfInBounds_toArray, List.set_cons_zero, List.set_cons_succ, i64_w, i32_w]
  rfl
 refine take_ (i := 45) (N := some 127) (v := (.agg #[.int .u32 s, .int .u16 sp])) #[true, true, true, true, true, true, true, true, true, true, true, true, true, true, true, true, true, true, true, true, true, true, true, true, true, true, true, true, true, true, true, true, true, true, true, true, true, true, true, true, true, true, true, true, true, true, false, false, false, false, false, false, false, false, false, false, false, false, false, false, false, false, false, false, false, false, false, false, false, false] rfl rfl (take_ofW HT_.out HW_.out (by kernel_rfl)) (fun _ _ _ h => h) (Or.inl ⟨by rfl, fun w' s0 => ?_⟩) hHeld rfl ?_
 ·obtain ⟨s0, s1, s2, s3, s4, s5, s6⟩ := s0
  exact load_mid_ (p := .tmp 126) (ty := 65) (cs := [.int .u32 s, .int .u16 sp]) (by rfl) (by rfl) (World.rangeAt_of_block s2 1 2) hu65 (by rfl) HI65.out
 refine norm_ (a' := ?_) ?_ ?_
 rotate_left
 ·show Act.put _ (some 127) _ = _
  simp only [Act.put, List.setIfInBounds_toArray, List.set_cons_zero, List.set_cons_succ, i64_w, i32_w]
  rfl
 refine pure_ (i := 46) (N := some 128) (v := (.bool true)) #[true, true, true, true, true, true, true, true, true, true, true, true, true, true, true, true, true, true, true, true, true, true, true, true, true, true, true, true, true, true, true, true, true, true, true, true, true, true, true, true, true, true, true, true, true, true, true, false, false, false, false, false, false, false, false, false, false, false, false, false, false, false, false, false, false, false, false, false, false, false] rfl rfl (any_of HT_.out (by kernel_rfl)) (fun _ _ _ h => h) (Or.inl ⟨by rfl, fun w' => ?_⟩) rfl ?_
 ·first | (go_simp; done) | (go_simp; rfl) | (go_simp; decide)
 refine norm_ (a' := ?_) ?_ ?_
 rotate_left
 ·show Act.put _ (some 128) _ = _
  simp only [Act.put, List.setIfInBounds_toArray, List.set_cons_zero, List.set_cons_succ, i64_w, i32_w]
  rfl
 refine pure_ (i := 47) (N := some 129) (v := (.bool true)) #[true, true, true, true, true, true, true, true, true, true, true, true, true, true, true, true, true, true, true, true, true, true, true, true, true, true, true, true, true, true, true, true, true, true, true, true, true, true, true, true, true, true, true, true, true, true, true, true, false, false, false, false, false, false, false, false, false, false, false, false, false, false, false, false, false, false, false, false, false, false] rfl rfl (any_of HT_.out (by kernel_rfl)) (fun _ _ _ h => h) (Or.inl ⟨by rfl, fun w' => ?_⟩) rfl ?_
 ·first | (go_simp; done) | (go_simp; rfl) | (go_simp; decide)
 refine norm_ (a' := ?_) ?_ ?_
 rotate_left
 ·show Act.put _ (some 129) _ = _
  simp only [Act.put, List.setIfInBounds_toArray, List.set_cons_zero, List.set_cons_succ, i64_w, i32_w]
  rfl
 refine pure_ (i := 48) (N := some 130) (v := ?_) (a' := ?_) #[true, true, true, true, true, true, true, true, true, true, true, true, true, true, true, true, true, true, true, true, true, true, true, true, true, true, true, true, true, true, true, true, true, true, true, true, true, true, true, true, true, true, true, true, true, true, true, true, true, false, false, false, false, false, false, false, false, false, false, false, false, false, false, false, false, false, false, false, false, false] rfl rfl (any_of HT_.out (by kernel_rfl)) (fun _ _ _ h => h) (Or.inl ⟨by rfl, ?_⟩) ?_ ?_
 rotate_left
 ·intro w'
  go_simp
  with_reducible rfl
 rotate_left
 ·simp only [Act.put, List.setIfInBounds_toArray, List.set_cons_zero, List.set_cons_succ, i64_w, i32_w]
  rfl
 refine pure_ (i := 49) (N := some 131) (v := ?_) (a' := ?_) #[true, true, true, true, true, true, true, true, true, true, true, true, true, true, true, true, true, true, true, true, true, true, true, true, true, true, true, true, true, true, true, true, true, true, true, true, true, true, true, true, true, true, true, true, true, true, true, true, true, true, false, false, false, false, false, false, false, false, false, false, false, false, false, false, false, false, false, false, false, false] rfl rfl (any_of HT_.out (by kernel_rfl)) (fun _ _ _ h => h) (Or.inl ⟨by rfl, ?_⟩) ?_ ?_
 rotate_left
 ·intro w'
  go_simp
  with_reducible rfl
 rotate_left
 ·simp only [Act.put, List.setIfInBounds_toArray, List.set_cons_zero, List.set_cons_succ, i64_w, i32_w]
  rfl
 refine pure_ (i := 51) (N := some 133) (v := ?_) (a' := ?_) #[true, true, true, true, true, true, true, true, true, true, true, true, true, true, true, true, true, true, true, true, true, true, true, true, true, true, true, true, true, true, true, true, true, true, true, true, true, true, true, true, true, true, true, true, true, true, true, true, true, true, false, true, false, false, false, false, false, false, false, false, false, false, false, false, false, false, false, false, false, false] rfl rfl (any_of HT_.out (by kernel_rfl)) (fun _ _ _ h => h) (Or.inl ⟨by rfl, ?_⟩) ?_ ?_
 rotate_left
 ·intro w'
  go_simp
  with_reducible rfl
 rotate_left
 ·simp only [Act.put, List.setIfInBounds_toArray, List.set_cons_zero, List.set_cons_succ, i64_w, i32_w]
  rfl
 refine take_ (i := 50) (N := some 132) (v := (.agg #[.int .u32 d, .int .u16 dp])) #[true, true, true, true, true, true, true, true, true, true, true, true, true, true, true, true, true, true, true, true, true, true, true, true, true, true, true, true, true, true, true, true, true, true, true, true, true, true, true, true, true, true, true, true, true, true, true, true, true, true, true, true, false, false, false, false, false, false, false, false, false, false, false, false, false, false, false, false, false, false] rfl rfl (take_ofW HT_.out HW_.out (by kernel_rfl)) (fun _ _ _ h => h) (Or.inl ⟨by rfl, fun w' s0 => ?_⟩) hHeld rfl ?_
 ·obtain ⟨s0, s1, s2, s3, s4, s5, s6⟩ := s0
  exact load_mid_ (p := .tmp 131) (ty := 65) (cs := [.int .u32 d, .int .u16 dp]) (by rfl) (by rfl) (World.rangeAt_of_block s3 3 2) hu65 (by rfl) HI65.out
 refine norm_ (a' := ?_) ?_ ?_
 rotate_left
 ·show Act.put _ (some 132) _ = _
  simp only [Act.put, List.setIfInBounds_toArray, List.set_cons_zero, List.set_cons_succ, i64_w, i32_w]
  rfl
 refine take_ (i := 52) (N := some 134) (v := (.agg #[.int .u32 d, .int .u16 dp])) #[true, true, true, true, true, true, true, true, true, true, true, true, true, true, true, true, true, true, true, true, true, true, true, true, true, true, true, true, true, true, true, true, true, true, true, true, true, true, true, true, true, true, true, true, true, true, true, true, true, true, true, true, true, false, false, false, false, false, false, false, false, false, false, false, false, false, false, false, false, false] rfl rfl (take_ofW HT_.out HW_.out (by kernel_rfl)) (fun _ _ _ h => h) (Or.inl ⟨by rfl, fun w' s0 => ?_⟩) hHeld rfl ?_
 ·obtain ⟨s0, s1, s2, s3, s4, s5, s6⟩ := s0
  exact load_mid_ (p := .tmp 133) (ty := 65) (cs := [.int .u32 d, .int .u16 dp]) (by rfl) (by rfl) (World.rangeAt_of_block s2 3 2) hu65 (by rfl) HI65.out
 refine norm_ (a' := ?_) ?_ ?_
 rotate_left
 ·show Act.put _ (some 134) _ = _
  simp only [Act.put, List.setIfInBounds_toArray, List.set_cons_zero, List.set_cons_succ, i64_w, i32_w]
  rfl
 refine pure_ (i := 53) (N := some 135) (v := (.bool true)) #[true, true, true, true, true, true, true, true, true, true, true, true, true, true, true, true, true, true, true, true, true, true, true, true, true, true, true, true, true, true, true, true, true, true, true, true, true, true, true, true, true, true, true, true, true, true, true, true, true, true, true, true, true, true, false, false, false, false, false, false, false, false, false, false, false, false, false, false, false, false] rfl rfl (any_of HT_.out (by kernel_rfl)) (fun _ _ _ h => h) (Or.inl ⟨by rfl, fun w' => ?_⟩) rfl ?_
 ·first | (go_simp; done) | (go_simp; rfl) | (go_simp; decide)
 refine norm_ (a' := ?_) ?_ ?_
 rotate_left
 ·show Act.put _ (some 135) _ = _
  simp only [Act.put, List.setIfInBounds_toArray, List.set_cons_zero, List.set_cons_succ, i64_w, i32_w]
  rfl
 refine pure_ (i := 54) (N := some 136) (v := (.bool true)) #[true, true, true, true, true, true, true, true, true, true, true, true, true, true, true, true, true, true, true, true, true, true, true, true, true, true, true, true, true, true, true, true, true, true, true, true, true, true, true, true, true, true, true, true, true, true, true, true, true, true, true, true, true, true, true, false, false, false, false, false, false, false, false, false, false, false, false, false, false, false] rfl rfl (any_of HT_.out (by kernel_rfl)) (fun _ _ _ h => h) (Or.inl ⟨by rfl, fun w' => ?_⟩) rfl ?_
 ·first | (go_simp; done) | (go_simp; rfl) | (go_simp; decide)
 refine norm_ (a' := ?_) ?_ ?_
 rotate_left
 ·show Act.put _ (some 136) _ = _
  simp only [Act.put, List.setIfInBounds_toArray, List.set_cons_zero, List.set_cons_succ, i64_w, i32_w]
  rfl
 refine pure_ (i := 55) (N := some 137) (v := ?_) (a' := ?_) #[true, true, true, true, true, true, true, true, true, true, true, true, true, true, true, true, true, true, true, true, true, true, true, true, true, true, true, true, true, true, true, true, true, true, true, true, true, true, true, true, true, true, true, true, true, true, true, true, true, true, true, true, true, true, true, true, false, false, false, false, false, false, false, false, false, false, false, false, false, false] rfl rfl (any_of HT_.out (by kernel_rfl)) (fun _ _ _ h => h) (Or.inl ⟨by rfl, ?_⟩) ?_ ?_
 rotate_left
 ·intro w'
  go_simp
  with_reducible rfl
 rotate_left
 ·simp only [Act.put, List.setIfInBounds_toArray, List.set_cons_zero, List.set_cons_succ, i64_w, i32_w]
  rfl
 refine pure_ (i := 56) (N := some 138) (v := ?_) (a' := ?_) #[true, true, true, true, true, true, true, true, true, true, true, true, true, true, true, true, true, true, true, true, true, true, true, true, true, true, true, true, true, true, true, true, true, true, true, true, true, true, true, true, true, true, true, true, true, true, true, true, true, true, true, true, true, true, true, true, true, false, false, false, false, false, false, false, false, false, false, false, false, false] rfl rfl (any_of HT_.out (by kernel_rfl)) (fun _ _ _ h => h) (Or.inl ⟨by rfl, ?_⟩) ?_ ?_
 rotate_left
 ·intro w'
  go_simp
  with_reducible rfl
 rotate_left
 ·simp only [Act.put, List.setIfInBounds_toArray, List.set_cons_zero, List.set_cons_succ, i64_w, i32_w]
  rfl
 refine pure_ (i := 57) (N := some 139) (v := ?_) (a' := ?_) #[true, true, true, true, true, true, true, true, true, true, true, true, true, true, true, true, true, true, true, true, true, true, true, true, true, true, true, true, true, true, true, true, true, true, true, true, true, true, true, true, true, true, true, true, true, true, true, true, true, true, true, true, true, true, true, true, true, true, false, false, false, false, false, false, false, false, false, false, false, false] rfl rfl (any_of HT_.out (by kernel_rfl)) (fun _ _ _ h => h) (Or.inl ⟨by rfl, ?_⟩) ?_ ?_
 rotate_left
 ·intro w'
  go_simp
  with_reducible rfl
 rotate_left
 ·simp only [Act.put, List.setIfInBounds_toArray, List.set_cons_zero, List.set_cons_succ, i64_w, i32_w]
  rfl
 refine pure_ (i := 58) (N := some 140) (v := ?_) (a' := ?_) #[true, true, true, true, true, true, true, true, true, true, true, true, true, true, true, true, true, true, true, true, true, true, true, true, true, true, true, true, true, true, true, true, true, true, true, true, true, true, true, true, true, true, true, true, true, true, true, true, true, true, true, true, true, true, true, true, true, true, true, false, false, false, false, false, false, false, false, false, false, false] rfl rfl (any_of HT_.out (by kernel_rfl)) (fun _ _ _ h => h) (Or.inl ⟨by rfl, ?_⟩) ?_ ?_
 rotate_left
 ·intro w'
  go_simp
  with_reducible rfl
 rotate_left
 ·simp only [Act.put, List.setIfInBounds_toArray, List.set_cons_zero, List.set_cons_succ, i64_w, i32_w]
  rfl
 refine pure_ (i := 59) (N := some 141) (v := ?_) (a' := ?_) #[true, true, true, true, true, true, true, true, true, true, true, true, true, true, true, true, true, true, true, true, true, true, true, true, true, true, true, true, true, true, true, true, true, true, true, true, true, true, true, true, true, true, true, true, true, true, true, true, true, true, true, true, true, true, true, true, true, true, true, true, false, false, false, false, false, false, false, false, false, false] rfl rfl (any_of HT_.out (by kernel_rfl)) (fun _ _ _ h => h) (Or.inl ⟨by rfl, ?_⟩) ?_ ?_
 rotate_left
 ·intro w'
  go_simp
  with_reducible rfl
 rotate_left
 ·simp only [Act.put, List.setIfInBounds_toArray, List.set_cons_zero, List.set_cons_succ, i64_w, i32_w]
  rfl
 refine pure_ (i := 60) (N := some 142) (v := (.bool true)) #[true, true, true, true, true, true, true, true, true, true, true, true, true, true, true, true, true, true, true, true, true, true, true, true, true, true, true, true, true, true, true, true, true, true, true, true, true, true, true, true, true, true, true, true, true, true, true, true, true, true, true, true, true, true, true, true, true, true, true, true, true, false, false, false, false, false, false, false, false, false] rfl rfl (any_of HT_.out (by kernel_rfl)) (fun _ _ _ h => h) (Or.inl ⟨by rfl, fun w' => ?_⟩) rfl ?_
 ·rw [HNX.out]
  first | (go_simp; done) | (go_simp; rfl) | (go_simp; decide)
 refine norm_ (a' := ?_) ?_ ?_
 rotate_left
 ·show Act.put _ (some 142) _ = _
  simp only [Act.put, List.setIfInBounds_toArray, List.set_cons_zero, List.set_cons_succ, i64_w, i32_w]
  rfl
 refine pure_ (i := 61) (N := some 143) (v := (.bool true)) #[true, true, true, true, true, true, true, true, true, true, true, true, true, true, true, true, true, true, true, true, true, true, true, true, true, true, true, true, true, true, true, true, true, true, true, true, true, true, true, true, true, true, true, true, true, true, true, true, true, true, true, true, true, true, true, true, true, true, true, true, true, true, false, false, false, false, false, false, false, false] rfl rfl (any_of HT_.out (by kernel_rfl)) (fun _ _ _ h => h) (Or.inl ⟨by rfl, fun w' => ?_⟩) rfl ?_
 ·first | (go_simp; done) | (go_simp; rfl) | (go_simp; decide)
 refine norm_ (a' := ?_) ?_ ?_
 rotate_left
 ·show Act.put _ (some 143) _ = _
  simp only [Act.put, List.setIfInBounds_toArray, List.set_cons_zero, List.set_cons_succ, i64_w, i32_w]
  rfl
 refine pure_ (i := 62) (N := some 144) (v := ?_) (a' := ?_) #[true, true, true, true, true, true, true, true, true, true, true, true, true, true, true, true, true, true, true, true, true, true, true, true, true, true, true, true, true, true, true, true, true, true, true, true, true, true, true, true, true, true, true, true, true, true, true, true, true, true, true, true, true, true, true, true, true, true, true, true, true, true, true, false, false, false, false, false, false, false] rfl rfl (any_of HT_.out (by kernel_rfl)) (fun _ _ _ h => h) (Or.inl ⟨by rfl, ?_⟩) ?_ ?_
 rotate_left
 ·intro w'
  go_simp
  with_reducible rfl
 rotate_left
 ·simp only [Act.put, List.setIfInBounds_toArray, List.set_cons_zero, List.set_cons_succ, i64_w, i32_w]
  rfl
 refine pure_ (i := 63) (N := some 145) (v := ?_) (a' := ?_) #[true, true, true, true, true, true, true, true, true, true, true, true, true, true, true, true, true, true, true, true, true, true, true, true, true, true, true, true, true, true, true, true, true, true, true, true, true, true, true, true, true, true, true, true, true, true, true, true, true, true, true, true, true, true, true, true, true, true, true, true, true, true, true, true, false, false, false, false, false, false] rfl rfl (any_of HT_.out (by kernel_rfl)) (fun _ _ _ h => h) (Or.inl ⟨by rfl, ?_⟩) ?_ ?_
 rotate_left
 ·intro w'
  go_simp
  with_reducible rfl
 rotate_left
 ·simp only [Act.put, List.setIfInBounds_toArray, List.set_cons_zero, List.set_cons_succ, i64_w, i32_w]
  rfl
 refine pure_ (i := 64) (N := some 146) (v := ?_) (a' := ?_) #[true, true, true, true, true, true, true, true, true, true, true, true, true, true, true, true, true, true, true, true, true, true, true, true, true, true, true, true, true, true, true, true, true, true, true, true, true, true, true, true, true, true, true, true, true, true, true, true, true, true, true, true, true, true, true, true, true, true, true, true, true, true, true, true, true, false, false, false, false, false] rfl rfl (any_of HT_.out (by kernel_rfl)) (fun _ _ _ h => h) (Or.inl ⟨by rfl, ?_⟩) ?_ ?_
 rotate_left
 ·intro w'
  go_simp
  with_reducible rfl
 rotate_left
 ·simp only [Act.put, List.setIfInBounds_toArray, List.set_cons_zero, List.set_cons_succ, i64_w, i32_w]
  rfl
 refine pure_ (i := 65) (N := some 147) (v := ?_) (a' := ?_) #[true, true, true, true, true, true, true, true, true, true, true, true, true, true, true, true, true, true, true, true, true, true, true, true, true, true, true, true, true, true, true, true, true, true, true, true, true, true, true, true, true, true, true, true, true, true, true, true, true, true, true, true, true, true, true, true, true, true, true, true, true, true, true, true, true, true, false, false, false, false] rfl rfl (any_of HT_.out (by kernel_rfl)) (fun _ _ _ h => h) (Or.inl ⟨by rfl, ?_⟩) ?_ ?_
 rotate_left
 ·intro w'
  go_simp
  with_reducible rfl
 rotate_left
 ·simp only [Act.put, List.setIfInBounds_toArray, List.set_cons_zero, List.set_cons_succ, i64_w, i32_w]
  rfl
 refine pure_ (i := 66) (N := some 148) (v := ?_) (a' := ?_) #[true, true, true, true, true, true, true, true, true, true, true, true, true, true, true, true, true, true, true, true, true, true, true, true, true, true, true, true, true, true, true, true, true, true, true, true, true, true, true, true, true, true, true, true, true, true, true, true, true, true, true, true, true, true, true, true, true, true, true, true, true, true, true, true, true, true, true, false, false, false] rfl rfl (any_of HT_.out (by kernel_rfl)) (fun _ _ _ h => h) (Or.inl ⟨by rfl, ?_⟩) ?_ ?_
 rotate_left
 ·intro w'
  go_simp
  with_reducible rfl
 rotate_left
 ·simp only [Act.put, List.setIfInBounds_toArray, List.set_cons_zero, List.set_cons_succ, i64_w, i32_w]
  rfl
 refine pure_ (i := 67) (N := some 149) (v := (.bool true)) #[true, true, true, true, true, true, true, true, true, true, true, true, true, true, true, true, true, true, true, true, true, true, true, true, true, true, true, true, true, true, true, true, true, true, true, true, true, true, true, true, true, true, true, true, true, true, true, true, true, true, true, true, true, true, true, true, true, true, true, true, true, true, true, true, true, true, true, true, false, false] rfl rfl (any_of HT_.out (by kernel_rfl)) (fun _ _ _ h => h) (Or.inl ⟨by rfl, fun w' => ?_⟩) rfl ?_
 ·rw [HNY.out]
  first | (go_simp; done) | (go_simp; rfl) | (go_simp; decide)
 refine norm_ (a' := ?_) ?_ ?_
 rotate_left
 ·show Act.put _ (some 149) _ = _
  simp only [Act.put, List.setIfInBounds_toArray, List.set_cons_zero, List.set_cons_succ, i64_w, i32_w]
  rfl
 refine pure_ (i := 68) (N := some 150) (v := (.bool true)) #[true, true, true, true, true, true, true, true, true, true, true, true, true, true, true, true, true, true, true, true, true, true, true, true, true, true, true, true, true, true, true, true, true, true, true, true, true, true, true, true, true, true, true, true, true, true, true, true, true, true, true, true, true, true, true, true, true, true, true, true, true, true, true, true, true, true, true, true, true, false] rfl rfl (any_of HT_.out (by kernel_rfl)) (fun _ _ _ h => h) (Or.inl ⟨by rfl, fun w' => ?_⟩) rfl ?_
 ·first | (go_simp; done) | (go_simp; rfl) | (go_simp; decide)
 refine norm_ (a' := ?_) ?_ ?_
 rotate_left
 ·show Act.put _ (some 150) _ = _
  simp only [Act.put, List.setIfInBounds_toArray, List.set_cons_zero, List.set_cons_succ, i64_w, i32_w]
  rfl
 refine pure_ (i := 69) (N := some 8) (v := ?_) (a' := ?_) #[true, true, true, true, true, true, true, true, true, true, true, true, true, true, true, true, true, true, true, true, true, true, true, true, true, true, true, true, true, true, true, true, true, true, true, true, true, true, true, true, true, true, true, true, true, true, true, true, true, true, true, true, true, true, true, true, true, true, true, true, true, true, true, true, true, true, true, true, true, true] rfl rfl (any_of HT_.out (by kernel_rfl)) (fun _ _ _ h => h) (Or.inl ⟨by rfl, ?_⟩) ?_ ?_
 rotate_left
 ·intro w'
  go_simp
  with_reducible rfl
 rotate_left
 ·simp only [Act.put, List.setIfInBounds_toArray, List.set_cons_zero, List.set_cons_succ, i64_w, i32_w]
  rfl
 refine done_ (done_of HT_.out (by kernel_rfl)) ?_; clear HT_ HW_ hHeld
 (try dsimp only)
 go_wp2
 (try simp only [Exit.inBlock, Exit.then])
 go_ret
 exact ⟨rfl, HB.out⟩
end Go.Proofs.Ytkmimamminddiaa.PB
namespace Go.Proofs.YtkmimamminddiaaW.AggWords
open Go.Joins Go.ChangeShapes Go.WideShapes Go.RowKit Go.Deep
theorem cutp_ {l p : List Value} {a k b : Nat} (h : (l.drop a).take k = p) (hb : a + k = b) : l.drop a = p ++ l.drop b := by
 have h1 := (List.take_append_drop k (l.drop a)).symm; rw [h, List.drop_drop, hb] at h1
 exact h1
section
variable {H : Type} {enc : TypeId × Value -> H} {w : World} {base : Nat} {spare : Nat -> Bool} {held : Bool}
theorem open_pack {r : Reach} {b0 : Nat} {v : Value} {d : DataW H} {p : List MemPlace} (hv : Value.okWide Try.prog w r b0 25 v) (h : DataW.Trod enc Try.prog w base spare held 25 v d p) :
  ∃ x0 x1 x2 x3 x4 x5 x6 x7 x8 x9 : Int, v = .agg #[.int .u8 x0, .int .u8 x1, .int .u8 x2, .int .u8 x3, .int .u8 x4, .int .u8 x5, .int .u8 x6, .int .u8 x7, .int .u8 x8, .int .u8 x9] /\ (Lit.int .u8 x0).wf = true /\ (Lit.int .u8 x1).wf = true /\ (Lit.int .u8 x2).wf = true /\ (Lit.int .u8 x3).wf = true /\ (Lit.int .u8 x4).wf = true /\ (Lit.int .u8 x5).wf = true /\ (Lit.int .u8 x6).wf = true /\ (Lit.int .u8 x7).wf = true /\ (Lit.int .u8 x8).wf = true /\ (Lit.int .u8 x9).wf = true := by
 have k5 : Try.prog.cellsOf 5 = 1 := by kernel_rfl
 have kT : Try.prog.cellsOf 25 = 10 := by kernel_rfl
 obtain ⟨cs, rfl, hsz⟩ := okWide_struct Try.underlying25 hv; obtain ⟨l⟩ := cs; obtain ⟨fuel, hf⟩ := h; obtain ⟨xs, n, _, hx, hlc, hlen, hg⟩ := DataW.trod_struct Try.underlying25 hf; have hl : l.length = 10 := hlc.trans kT; have g0 : DataW.trod enc Try.prog w base spare held n 5 ((l.drop 0).take (Try.prog.cellsOf 5)) = xs[0]? := hg 0 _ rfl; obtain ⟨y0, hy0⟩ : ∃ y, xs[0]? = some y := ⟨_, List.getElem?_eq_getElem (by rw [hlen]; decide)⟩
 rw [hy0, k5] at g0
 obtain ⟨x0, e0, _, w0⟩ := DataW.trod_int Try.underlying5 g0; have g1 : DataW.trod enc Try.prog w base spare held n 5 ((l.drop 1).take (Try.prog.cellsOf 5)) = xs[1]? := hg 1 _ rfl; obtain ⟨y1, hy1⟩ : ∃ y, xs[1]? = some y := ⟨_, List.getElem?_eq_getElem (by rw [hlen]; decide)⟩
 rw [hy1, k5] at g1
 obtain ⟨x1, e1, _, w1⟩ := DataW.trod_int Try.underlying5 g1; have g2 : DataW.trod enc Try.prog w base spare held n 5 ((l.drop 2).take (Try.prog.cellsOf 5)) = xs[2]? := hg 2 _ rfl; obtain ⟨y2, hy2⟩ : ∃ y, xs[2]? = some y := ⟨_, List.getElem?_eq_getElem (by rw [hlen]; decide)⟩
 rw [hy2, k5] at g2
 obtain ⟨x2, e2, _, w2⟩ := DataW.trod_int Try.underlying5 g2; have g3 : DataW.trod enc Try.prog w base spare held n 5 ((l.drop 3).take (Try.prog.cellsOf 5)) = xs[3]? := hg 3 _ rfl; obtain ⟨y3, hy3⟩ : ∃ y, xs[3]? = some y := ⟨_, List.getElem?_eq_getElem (by rw [hlen]; decide)⟩
 rw [hy3, k5] at g3
 obtain ⟨x3, e3, _, w3⟩ := DataW.trod_int Try.underlying5 g3; have g4 : DataW.trod enc Try.prog w base spare held n 5 ((l.drop 4).take (Try.prog.cellsOf 5)) = xs[4]? := hg 4 _ rfl; obtain ⟨y4, hy4⟩ : ∃ y, xs[4]? = some y := ⟨_, List.getElem?_eq_getElem (by rw [hlen]; decide)⟩
 rw [hy4, k5] at g4
 obtain ⟨x4, e4, _, w4⟩ := DataW.trod_int Try.underlying5 g4; have g5 : DataW.trod enc Try.prog w base spare held n 5 ((l.drop 5).take (Try.prog.cellsOf 5)) = xs[5]? := hg 5 _ rfl; obtain ⟨y5, hy5⟩ : ∃ y, xs[5]? = some y := ⟨_, List.getElem?_eq_getElem (by rw [hlen]; decide)⟩
 rw [hy5, k5] at g5
 obtain ⟨x5, e5, _, w5⟩ := DataW.trod_int Try.underlying5 g5; have g6 : DataW.trod enc Try.prog w base spare held n 5 ((l.drop 6).take (Try.prog.cellsOf 5)) = xs[6]? := hg 6 _ rfl; obtain ⟨y6, hy6⟩ : ∃ y, xs[6]? = some y := ⟨_, List.getElem?_eq_getElem (by rw [hlen]; decide)⟩
 rw [hy6, k5] at g6
 obtain ⟨x6, e6, _, w6⟩ := DataW.trod_int Try.underlying5 g6; have g7 : DataW.trod enc Try.prog w base spare held n 5 ((l.drop 7).take (Try.prog.cellsOf 5)) = xs[7]? := hg 7 _ rfl; obtain ⟨y7, hy7⟩ : ∃ y, xs[7]? = some y := ⟨_, List.getElem?_eq_getElem (by rw [hlen]; decide)⟩
 rw [hy7, k5] at g7
 obtain ⟨x7, e7, _, w7⟩ := DataW.trod_int Try.underlying5 g7; have g8 : DataW.trod enc Try.prog w base spare held n 5 ((l.drop 8).take (Try.prog.cellsOf 5)) = xs[8]? := hg 8 _ rfl; obtain ⟨y8, hy8⟩ : ∃ y, xs[8]? = some y := ⟨_, List.getElem?_eq_getElem (by rw [hlen]; decide)⟩
 rw [hy8, k5] at g8
 obtain ⟨x8, e8, _, w8⟩ := DataW.trod_int Try.underlying5 g8; have g9 : DataW.trod enc Try.prog w base spare held n 5 ((l.drop 9).take (Try.prog.cellsOf 5)) = xs[9]? := hg 9 _ rfl; obtain ⟨y9, hy9⟩ : ∃ y, xs[9]? = some y := ⟨_, List.getElem?_eq_getElem (by rw [hlen]; decide)⟩
 rw [hy9, k5] at g9
 obtain ⟨x9, e9, _, w9⟩ := DataW.trod_int Try.underlying5 g9; have hd : l = l.drop 0 := rfl; rw [cutp_ e0 (show 0 + 1 = 1 from rfl), cutp_ e1 (show 1 + 1 = 2 from rfl), cutp_ e2 (show 2 + 1 = 3 from rfl), cutp_ e3 (show 3 + 1 = 4 from rfl), cutp_ e4 (show 4 + 1 = 5 from rfl), cutp_ e5 (show 5 + 1 = 6 from rfl), cutp_ e6 (show 6 + 1 = 7 from rfl), cutp_ e7 (show 7 + 1 = 8 from rfl), cutp_ e8 (show 8 + 1 = 9 from rfl), cutp_ e9 (show 9 + 1 = 10 from rfl), List.drop_eq_nil_of_le (show l.length <= 10 by omega)] at hd
 subst hd; exact ⟨x0, x1, x2, x3, x4, x5, x6, x7, x8, x9, rfl, w0, w1, w2, w3, w4, w5, w6, w7, w8, w9⟩
theorem open_point {r : Reach} {b0 : Nat} {v : Value} {d : DataW H} {p : List MemPlace} (hv : Value.okWide Try.prog w r b0 65 v) (h : DataW.Trod enc Try.prog w base spare held 65 v d p) :
  ∃ x0 x1 : Int, v = .agg #[.int .u32 x0, .int .u16 x1] /\ (Lit.int .u32 x0).wf = true /\ (Lit.int .u16 x1).wf = true := by
 have k27 : Try.prog.cellsOf 27 = 1 := by kernel_rfl
 have k45 : Try.prog.cellsOf 45 = 1 := by kernel_rfl
 have kT : Try.prog.cellsOf 65 = 2 := by kernel_rfl
 obtain ⟨cs, rfl, hsz⟩ := okWide_struct Try.underlying65 hv; obtain ⟨l⟩ := cs; obtain ⟨fuel, hf⟩ := h; obtain ⟨xs, n, _, hx, hlc, hlen, hg⟩ := DataW.trod_struct Try.underlying65 hf; have hl : l.length = 2 := hlc.trans kT; have g0 : DataW.trod enc Try.prog w base spare held n 27 ((l.drop 0).take (Try.prog.cellsOf 27)) = xs[0]? := hg 0 _ rfl; obtain ⟨y0, hy0⟩ : ∃ y, xs[0]? = some y := ⟨_, List.getElem?_eq_getElem (by rw [hlen]; decide)⟩
 rw [hy0, k27] at g0
 obtain ⟨x0, e0, _, w0⟩ := DataW.trod_int Try.underlying27 g0; have g1 : DataW.trod enc Try.prog w base spare held n 45 ((l.drop 1).take (Try.prog.cellsOf 45)) = xs[1]? := hg 1 _ rfl; obtain ⟨y1, hy1⟩ : ∃ y, xs[1]? = some y := ⟨_, List.getElem?_eq_getElem (by rw [hlen]; decide)⟩
 rw [hy1, k45] at g1
 obtain ⟨x1, e1, _, w1⟩ := DataW.trod_int Try.underlying45 g1; have hd : l = l.drop 0 := rfl; rw [cutp_ e0 (show 0 + 1 = 1 from rfl), cutp_ e1 (show 1 + 1 = 2 from rfl), List.drop_eq_nil_of_le (show l.length <= 2 by omega)] at hd
 subst hd; exact ⟨x0, x1, rfl, w0, w1⟩
end
end Go.Proofs.YtkmimamminddiaaW.AggWords
