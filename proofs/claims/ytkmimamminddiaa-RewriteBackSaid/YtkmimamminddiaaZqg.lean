/- Texts of this claim, merged: RwSg, RwIpOk, RwCgT, RwCgU, RwMd, PBx56, RwIn, RwCgI, RwBk, RwMd2, RwEq, RwBack, RwAgg. -/
import Derived.Test.YtkmimamminddiaaZqf
import Derived.Test.YtkmimamminddiaaZqd
import Derived.Test.YtkmimamminddiaaZqe
import Derived.Test.YtkmimamminddiaaZqc
import Derived.Test.YtkmimamminddiaaZqb
import Derived.Deep.Cut
import Derived.Deep.CutRange
import Derived.Deep.CutBlock
import Derived.Deep.WholeRow
import Derived.Test.YtkmimamminddiaaZqa
import Derived.Test.YtkmimamminddiaaChecked
import Derived.OpenShut
import Derived.ChangeArms
set_option maxHeartbeats 40000000
set_option maxRecDepth 100000
set_option linter.unusedVariables false
set_option linter.unusedSimpArgs false
namespace Go.Proofs.Ytkmimamminddiaa.Pure
open Go.RowKit Go.Proofs.Ytkmimamminddiaa.PB Go.Proofs.YtkmimamminddiaaW.PrintWords Go.Proofs.YtkmimamminddiaaW.PrintLast
open Go.Proofs.Ytkmimamminddiaa.Spec Go.Proofs.Ytkmimamminddiaa.BytesEq
theorem u8_0 : U8 0 := by unfold U8; omega
theorem u16_0 : U16 0 := by unfold U16; omega
theorem u32_0 : U32 0 := by unfold U32; omega
structure IpOk (a t i fl of_ s d : Int) (o : List Int) : Prop where
 ha : U8 a
 ht : U8 t
 hi : U16 i
 hf : 0 <= fl /\ fl <= 7
 hg : 0 <= of_ /\ of_ <= 8191
 hs : U32 s
 hd : U32 d
 ho : IsB o
 h4 : (o.length : Int) % 4 = 0
 h40 : (o.length : Int) <= 40
theorem IpOk.to {a t i fl of_ s d s' d' : Int} {o : List Int} (h : IpOk a t i fl of_ s d o) (hs : U32 s') (hd : U32 d') : IpOk a t i fl of_ s' d' o := ⟨h.ha, h.ht, h.hi, h.hf, h.hg, hs, hd, h.ho, h.h4, h.h40⟩
section
variable {a t i fl of_ s d : Int} {o b : List Int}
theorem IpOk.isB (h : IpOk a t i fl of_ s d o) {pr : Int} (hp : U8 pr) (hb : IsB b) : IsB (ibytes a t pr i fl of_ s d o b) := ibytes_isB h.ha h.ht hp h.ho hb h.h40
theorem IpOk.len (h : IpOk a t i fl of_ s d o) {pr : Int} : (ibytes a t pr i fl of_ s d o b).length = 20 + o.length + b.length := ibytes_length
theorem IpOk.seg (h : IpOk a t i fl of_ s d o) {pr : Int} (hp : U8 pr) (hl : b.length <= 2500) : iseg (ibytes a t pr i fl of_ s d o b) = (a, t, pr, i, fl, of_, s, d, o, b, 0) := by
 have h1 := h.h40; have e := iseg_bytes (a := a) (t := t) (pr := pr) (i := i) (fl := fl) (of_ := of_) (s := s) (d := d) (o := o) (l := b) h.ha h.ht hp h.hi h.hf h.hg h.hs h.hd h.ho h.h40 h.h4 (by omega) []
 rwa [List.append_nil] at e
theorem IpOk.parse (h : IpOk a t i fl of_ s d o) {pr : Int} (hp : U8 pr) (hb : IsB b) (hl : b.length <= 2500) (K : Nat) (hK : 4000 <= K) : ip_Parse.f K (ibytes a t pr i fl of_ s d o b) = some (a, t, pr, i, fl, of_, s, d, o, b, 0) := by
 have h1 := h.h40; have h2 := h.len (b := b) (pr := pr); rw [iparse_eq (h.isB hp hb) (by omega) K (by omega), h.seg hp hl]
theorem IpOk.out (h : IpOk a t i fl of_ s d o) {pr : Int} (hp : U8 pr) (hl : b.length <= 2500) (K : Nat) (hK : 4000 <= K) : ip_Bytes.f K a t pr i fl of_ s d o b = some (ibytes a t pr i fl of_ s d o b, 0) := by
 have h1 := h.h40; rw [ibytes_eq h.ha h.ht hp h.hf.1 h.hg.1 h.ho (by omega) (by omega) K (by omega), ip_ok h.hf.2 h.hg.2 h.h4 h.h40 (by omega)]
theorem u8_17 : U8 17 := by unfold U8; omega
theorem u8_6 : U8 6 := by unfold U8; omega
theorem u8_1 : U8 1 := by unfold U8; omega
end
section
variable {a t i fl of_ s d ts td tq ta tf tw tc tu : Int} {o to_ tb : List Int}
structure TcpOk (ts td tq ta tf tw tu : Int) (to_ tb : List Int) : Prop where
 hs : U16 ts
 hd : U16 td
 hq : U32 tq
 ha : U32 ta
 hf : U8 tf
 hw : U16 tw
 hu : U16 tu
 ho : IsB to_
 h4 : (to_.length : Int) % 4 = 0
 h40 : (to_.length : Int) <= 40
 hb : IsB tb
 hl : tb.length <= 2000
theorem TcpOk.to {ts' td' : Int} (h : TcpOk ts td tq ta tf tw tu to_ tb) (hs : U16 ts') (hd : U16 td') : TcpOk ts' td' tq ta tf tw tu to_ tb := ⟨hs, hd, h.hq, h.ha, h.hf, h.hw, h.hu, h.ho, h.h4, h.h40, h.hb, h.hl⟩
def tsum (s d ts td tq ta tf tw tu : Int) (to_ tb : List Int) : Int := 65535 - norm (tT s d (tbytes ts td tq ta tf tw 0 tu to_ tb))
theorem tsum_u16 (hs : U32 s) (hd : U32 d) (h : TcpOk ts td tq ta tf tw tu to_ tb) : U16 (tsum s d ts td tq ta tf tw tu to_ tb) := by
 have := norm_range _ (tT_nonneg (a := s) (b := d) hs.1 hd.1 (tbytes_isB (s := ts) (d := td) (q := tq) (k := ta) (w := tw) (c := 0) (u := tu) h.hf h.ho h.hb)); unfold tsum U16
 omega
theorem tright_own (hs : U32 s) (hd : U32 d) (h : TcpOk ts td tq ta tf tw tu to_ tb) : norm (tT s d (tbytes ts td tq ta tf tw (tsum s d ts td tq ta tf tw tu to_ tb) tu to_ tb)) = 65535 := by
 have h4 := h.h4; rw [tT_c (tsum_u16 hs hd h) (by omega)]; exact stands (tT_nonneg (a := s) (b := d) hs.1 hd.1 (tbytes_isB (s := ts) (d := td) (q := tq) (k := ta) (w := tw) (c := 0) (u := tu) h.hf h.ho h.hb))
theorem lk_tcp_is (h : IpOk a t i fl of_ s d o) (g : TcpOk ts td tq ta tf tw tu to_ tb) (hc : tc = tsum s d ts td tq ta tf tw tu to_ tb) (K : Nat) (hK : 4000 <= K) :
  lookTcp K a t i fl of_ s d o (tbytes ts td tq ta tf tw tc tu to_ tb) = some ⟨a, t, 6, i, fl, of_, s, d, o, tbytes ts td tq ta tf tw tc tu to_ tb, .tcp ts td tq ta tf tw tc tu to_ tb, ts, td, tf, [], 0⟩ := by
 have h1 := tbytes_length ts td tq ta tf tw tc tu to_ tb; have h2 := g.hl; have h3 := g.h40; have hc16 : U16 tc := hc ▸ tsum_u16 h.hs h.hd g; unfold lookTcp; rw [tparse_eq (tbytes_isB g.hf g.ho g.hb) (by omega), tseg_tbytes g.hs g.hd g.hq g.ha g.hw hc16 g.hu g.h4 g.h40, Option.bind_some]
 dsimp only
 rw [if_pos rfl, tright_eq h.hs h.hd g.hf g.ho g.h4 g.h40 g.hb (by omega) K hK, Option.bind_some]; have e : norm (tT s d (tbytes ts td tq ta tf tw tc tu to_ tb)) = 65535 := by rw [hc]; exact tright_own h.hs h.hd g
 rw [if_pos (beq_iff_eq.2 e)]
theorem pt_tcp_is (hs : U32 s) (hd : U32 d) (g : TcpOk ts td tq ta tf tw tu to_ tb) (x y : Int) (K : Nat) (hK : 4000 <= K) : pointed.f K s ts d td (.tcp x y tq ta tf tw tc tu to_ tb) = some (tbytes ts td tq ta tf tw (tsum s d ts td tq ta tf tw tu to_ tb) tu to_ tb) := by
 have h2 := g.hl; have h3 := g.h40; unfold pointed.f
 dsimp only
 rw [tsum_eq hs hd g.hf g.ho g.h4 g.h40 g.hb (by omega) K hK, Option.bind_some, tbytes_eq (by omega) (by omega) K (by omega), tout_ok g.h4 g.h40 (by omega)]
 rfl
end
theorem cg_is {a t pr i fl of_ s d sp dp ff : Int} {o b : List Int} {x : RB} {inn : List S65} (h : IpOk a t i fl of_ s d o) (hp : U8 pr) {s' d' us' ud' : Int} (hs : U32 s') (hd : U32 d') {r : LK} (hr : r = ⟨a, t, pr, i, fl, of_, s, d, o, b, x, sp, dp, ff, inn, 0⟩) (hc : ¬ (pr = 1 /\ (0 < inn.length /\ ¬ (us' = 0 /\ ud' = 0) \/ ¬ us' = ud'))) {y : List Int} (hl : y.length <= 2500) (K : Nat) (hK : 4000 <= K) :
  changeG K r s' us' d' ud' (some y) = some (ibytes a t pr i fl of_ s' d' o y, 0) := by
 subst hr; unfold changeG
 dsimp only
 rw [if_pos rfl, if_neg hc, Option.bind_some, (h.to hs hd).out hp hl K hK]
section
variable {a t i fl of_ s d us ud c : Int} {o ub : List Int}
theorem lk_udp_is (h : IpOk a t i fl of_ s d o) (hus : U16 us) (hud : U16 ud) (hc : U16 c) (hub : IsB ub) (hl : ub.length <= 2000) (hr : c = 0 \/ c = usum (usumS s d us ud ub)) (K : Nat) (hK : 4000 <= K) :
  lookUdp K a t i fl of_ s d o (ubytes us ud c ub) = some ⟨a, t, 17, i, fl, of_, s, d, o, ubytes us ud c ub, .udp us ud c ub, us, ud, 0, [], 0⟩ := by
 have h1 := ubytes_length us ud c ub; unfold lookUdp; rw [uparse_eq (ubytes_isB hub) (by omega), udg_ubytes hus hud hc (by omega), Option.bind_some]
 dsimp only
 rw [if_pos rfl, uright_eq h.hs h.hd hus hud hc hub (by omega) K hK, Option.bind_some, if_pos (decide_eq_true hr)]
def csum (c s d sp dp : Int) (ub : List Int) : Int := if c = 0 then 0 else usum (usumS s d sp dp ub)
theorem csum_u16 {c s d sp dp : Int} {ub : List Int} (hs : U32 s) (hd : U32 d) (hp : U16 sp) (hq : U16 dp) (hub : IsB ub) : U16 (csum c s d sp dp ub) := by
 unfold csum
 split
 ·exact u16_0
 ·have := usum_range (usumS_pos (a := s) (b := d) (s := sp) (d := dp) hs.1 hd.1 hp.1 hq.1 hub)
  unfold U16; omega
theorem csum_zero {c s d sp dp : Int} {ub : List Int} (hs : U32 s) (hd : U32 d) (hp : U16 sp) (hq : U16 dp) (hub : IsB ub) : csum c s d sp dp ub = 0 ↔ c = 0 := by
 have := usum_range (usumS_pos (a := s) (b := d) (s := sp) (d := dp) hs.1 hd.1 hp.1 hq.1 hub); unfold csum
 split <;> omega
theorem csum_or {c s d sp dp : Int} {ub : List Int} : csum c s d sp dp ub = 0 \/ csum c s d sp dp ub = usum (usumS s d sp dp ub) := by
 unfold csum
 split
 ·exact .inl rfl
 ·exact .inr rfl
theorem pt_udp_is (hs : U32 s) (hd : U32 d) (hp : U16 us) (hq : U16 ud) (hub : IsB ub) (hl : ub.length <= 2000) (x y : Int) (K : Nat) (hK : 4000 <= K) : pointed.f K s us d ud (.udp x y c ub) = some (ubytes us ud (csum c s d us ud ub) ub) := by
 unfold pointed.f csum
 dsimp only
 by_cases h0 : c = 0
 ·rw [if_pos h0, if_pos h0, ubytes_eq _ _ _ (by omega), if_neg (by omega), h0]
  rfl
 ·rw [if_neg h0, if_neg h0, usum_eq hs hd hp hq hub (by omega) K hK, Option.bind_some, ubytes_eq _ _ _ (by omega), if_neg (by omega)]
  rfl
end
theorem wrap_p8 {p8 : Int} (h : 0 <= p8 /\ p8 <= 255) : U16 (IntKind.u16.wrap p8) := by
 rw [IntKind.wrap_u16]; unfold U16
 omega
theorem sp_none (p8 : Int) (b : List Int) : seat_packet.sp p8 0 b = b := by
 unfold seat_packet.sp; rw [if_neg (by decide)]
end Go.Proofs.Ytkmimamminddiaa.Pure
namespace Go.Proofs.Ytkmimamminddiaa.PB
open Go.RowKit Go.Proofs.YtkmimamminddiaaW.PrintWords Go.Proofs.YtkmimamminddiaaW.PrintLast Go.Proofs.YtkmimamminddiaaW.PrintMore
attribute [local go_sem] max2_int min2_int max_two min_two max_three min_three max_four min_four
end Go.Proofs.Ytkmimamminddiaa.PB
namespace Go.Proofs.Ytkmimamminddiaa.Pure
open Go.RowKit Go.Proofs.Ytkmimamminddiaa.PB Go.Proofs.YtkmimamminddiaaW.PrintWords Go.Proofs.YtkmimamminddiaaW.PrintLast
open Go.Proofs.Ytkmimamminddiaa.Spec Go.Proofs.Ytkmimamminddiaa.BytesEq
def echoB (t c : Int) : Bool := (t == 8 || t == 0) && c == 0
def withinS (b : List Int) : Option Int :=
 if b.length < 20 then none else if ¬ b.getD 0 0 / 16 = 4 \/ ihead b < 20 \/ (b.length : Int) < ihead b + 8 then none
 else if b.getD 9 0 = 17 \/ b.getD 9 0 = 6 then some (ihead b)
 else if b.getD 9 0 = 1 then (if echoB (b.getD (ihead b).toNat 0) (b.getD ((ihead b).toNat + 1) 0) = true then some (ihead b) else none) else none
def portsS (b : List Int) (h : Nat) : Int × Int := if b.getD 9 0 = 1 then (g16 b (h + 4), g16 b (h + 4)) else (g16 b h, g16 b (h + 2))
def innerS (b : List Int) : Option (S65 × S65) := (withinS b).map fun h => (⟨g32 b 12, (portsS b h.toNat).1⟩, ⟨g32 b 16, (portsS b h.toNat).2⟩)
theorem withinS_is {b : List Int} {h : Int} (e : withinS b = some h) : h = ihead b /\ 20 <= h /\ h + 8 <= (b.length : Int) /\ b.getD 0 0 / 16 = 4 /\ (b.getD 9 0 = 17 \/ b.getD 9 0 = 6 \/ b.getD 9 0 = 1) := by
 unfold withinS at e
 by_cases c1 : b.length < 20
 ·rw [if_pos c1] at e; cases e
 ·rw [if_neg c1] at e
  by_cases c2 : ¬ b.getD 0 0 / 16 = 4 \/ ihead b < 20 \/ (b.length : Int) < ihead b + 8
  ·rw [if_pos c2] at e; cases e
  ·rw [if_neg c2] at e
   have c3 : b.getD 0 0 / 16 = 4 /\ 20 <= ihead b /\ ihead b + 8 <= (b.length : Int) := by
    refine ⟨Decidable.not_not.1 (fun h => c2 (.inl h)), ?_, ?_⟩
    ·have := fun h => c2 (.inr (.inl h)); omega
    ·have := fun h => c2 (.inr (.inr h)); omega
   by_cases c4 : b.getD 9 0 = 17 \/ b.getD 9 0 = 6
   ·rw [if_pos c4] at e
    obtain rfl := Option.some.inj e; exact ⟨rfl, c3.2.1, c3.2.2, c3.1, c4.elim .inl (fun h => .inr (.inl h))⟩
   ·rw [if_neg c4] at e
    by_cases c5 : b.getD 9 0 = 1
    ·rw [if_pos c5] at e
     split at e
     ·obtain rfl := Option.some.inj e
      exact ⟨rfl, c3.2.1, c3.2.2, c3.1, .inr (.inr c5)⟩
     ·cases e
    ·rw [if_neg c5] at e; cases e
theorem echo_is (t c a d : Int) (l : List Int) : icmp_Echo.f t c a d l = some (echoB t c) := by
 unfold icmp_Echo.f icmp_kind.f echoB
 by_cases h0 : t = 0
 ·subst h0
  rw [if_pos rfl, Option.bind_some, if_pos rfl]
  rfl
 ·rw [if_neg h0]
  by_cases h8 : t = 8
  ·subst h8
   rw [if_pos rfl, Option.bind_some, if_pos rfl]
   rfl
  ·rw [if_neg h8]
   have e1 : (t == 8) = false := beq_eq_false_iff_ne.2 h8; have e2 : (t == 0) = false := beq_eq_false_iff_ne.2 h0; rw [e1, e2]
   split
   ·rfl
   ·split
    ·rfl
    ·split <;> rfl
def errB (t : Int) : Bool := t == 3 || t == 11 || t == 12
theorem error_is (t c a d : Int) (l : List Int) : icmp_Error.f t c a d l = some (errB t) := by
 unfold icmp_Error.f icmp_kind.f errB
 by_cases h0 : t = 0
 ·subst h0; rfl
 ·rw [if_neg h0]
  by_cases h8 : t = 8
  ·subst h8; rfl
  ·rw [if_neg h8]
   by_cases h3 : t = 3
   ·subst h3; rfl
   ·rw [if_neg h3]
    by_cases h11 : t = 11
    ·subst h11; rfl
    ·rw [if_neg h11]
     by_cases h12 : t = 12
     ·subst h12; rfl
     ·rw [if_neg h12, Option.bind_some, beq_eq_false_iff_ne.2 h3, beq_eq_false_iff_ne.2 h11, beq_eq_false_iff_ne.2 h12]
      rfl
theorem two_at {b : List Int} (h : IsB b) (i : Nat) (hi : i + 2 <= b.length) : rewrite_two.f (b.drop i) = some (g16 b i) := by
 have hl : (b.drop i).length = b.length - i := List.length_drop; unfold rewrite_two.f; rw [if_pos (by omega), if_pos (by omega)]
 have e0 : rd (b.drop i) 0 = b.getD i 0 := by
  rw [rd_nat _ 0 0 rfl]
  simp [List.getD_eq_getElem?_getD]
 have e1 : rd (b.drop i) 1 = b.getD (i + 1) 0 := by
  rw [rd_nat _ 1 1 rfl]
  simp [List.getD_eq_getElem?_getD]
 rw [e0, e1, word16 (h.getD i) (h.getD (i + 1))]
 rfl
theorem four_at {b : List Int} (h : IsB b) (i : Nat) (hi : i + 4 <= b.length) : rewrite_four.f (b.drop i) = some (g32 b i) := by
 have hl : (b.drop i).length = b.length - i := List.length_drop; unfold rewrite_four.f; rw [two_at h i (by omega), Option.bind_some, if_pos (by omega), List.drop_drop, two_at h (i + 2) (by omega), Option.bind_some, word32 (g16_range h i) (g16_range h (i + 2))]
 rfl
theorem within_eq {b : List Int} (h : IsB b) (hl : b.length <= 1000000000) (K : Nat) (hK : 3 <= K) : ∃ x, rewrite_within.f K b = some (x, (withinS b).isSome) /\ ∀ y, withinS b = some y -> x = y := by
 obtain ⟨k, rfl⟩ : ∃ j, K = j + 3 := ⟨K - 3, by omega⟩
 have hh := ihead_range b; have hd := ihead_eq h; have r0 : rd b 0 = b.getD 0 0 := rd_nat b 0 0 rfl; have r9 : rd b 9 = b.getD 9 0 := rd_nat b 9 9 rfl; have w8 : wrap64 (ihead b + 8) = ihead b + 8 := wrap64_id (by omega) (by omega); unfold rewrite_within.f withinS
 by_cases c1 : b.length < 20
 ·rw [if_pos (show (b.length : Int) < 20 by omega), if_pos c1]
  exact ⟨_, rfl, fun y e => by cases e⟩
 ·rw [if_neg (show ¬ (b.length : Int) < 20 by omega), if_neg c1, if_pos (by omega), hd, r0, w8]
  have jt : rewrite_within.j0 (k + 3) b (ihead b) true = some (0, false) := by rw [rewrite_within.j0, if_pos rfl]
  by_cases c2 : b.getD 0 0 / 16 = 4
  ·rw [if_pos c2]
   by_cases c3 : ihead b < 20
   ·rw [if_pos c3, if_pos (.inr (.inl c3)), jt]
    exact ⟨_, rfl, fun y e => by cases e⟩
   ·rw [if_neg c3]
    by_cases c4 : (b.length : Int) < ihead b + 8
    ·rw [if_pos (.inr (.inr c4)), decide_eq_true c4, jt]
     exact ⟨_, rfl, fun y e => by cases e⟩
    ·rw [if_neg (fun hh => hh.elim (fun x => x c2) (fun x => x.elim c3 c4)), decide_eq_false c4, rewrite_within.j0, if_neg (by decide), if_pos (show 9 < (b.length : Int) by omega), r9]
     have j1t : ∀ x, rewrite_within.j1 (k + 2) b (ihead b) x true = some (ihead b, true) := fun x => by rw [rewrite_within.j1, if_pos rfl]
     by_cases c17 : b.getD 9 0 = 17
     ·rw [if_pos c17, if_pos (.inl c17), beq_iff_eq.2 c17, j1t]
      exact ⟨_, rfl, fun y e => Option.some.inj e⟩
     ·rw [if_neg c17]
      by_cases c6 : b.getD 9 0 = 6
      ·rw [if_pos (.inr c6), beq_iff_eq.2 c6, j1t]
       exact ⟨_, rfl, fun y e => Option.some.inj e⟩
      ·rw [if_neg (fun hh => hh.elim c17 c6), beq_eq_false_iff_ne.2 c6, rewrite_within.j1, if_neg (by decide)]
       by_cases c5 : b.getD 9 0 = 1
       ·rw [if_pos c5, if_pos c5, if_pos (by omega), if_pos (by omega)]
        have hdl : (b.drop (ihead b).toNat).length = b.length - (ihead b).toNat := List.length_drop
        have e0 : rd (b.drop (ihead b).toNat) 0 = b.getD (ihead b).toNat 0 := by
         rw [rd_nat _ 0 0 rfl]
         simp [List.getD_eq_getElem?_getD]
        have e1 : rd (b.drop (ihead b).toNat) 1 = b.getD ((ihead b).toNat + 1) 0 := by
         rw [rd_nat _ 1 1 rfl]
         simp [List.getD_eq_getElem?_getD]
        have e2 : rewrite_echo.f (b.drop (ihead b).toNat) = some (echoB (b.getD (ihead b).toNat 0) (b.getD ((ihead b).toNat + 1) 0)) := by
         unfold rewrite_echo.f; rw [if_pos (by omega), if_pos (by omega), e0, e1, echo_is, Option.bind_some]
        rw [e2, Option.bind_some]
        by_cases c7 : echoB (b.getD (ihead b).toNat 0) (b.getD ((ihead b).toNat + 1) 0) = true
        ·rw [if_pos c7, c7]
         exact ⟨_, rfl, fun y e => Option.some.inj e⟩
        ·rw [if_neg c7, Bool.eq_false_iff.2 c7]
         exact ⟨_, rfl, fun y e => by cases e⟩
       ·rw [if_neg c5, if_neg c5]
        exact ⟨_, rfl, fun y e => by cases e⟩
  ·rw [if_neg c2, if_pos (.inl c2), jt]
   exact ⟨_, rfl, fun y e => by cases e⟩
theorem inner_eq {b : List Int} (h : IsB b) (hl : b.length <= 1000000000) (K : Nat) (hK : 3 <= K) : rewrite_inner.f K b = some (match innerS b with | none => ([], false) | some p => ([p.1, p.2], true)) := by
 obtain ⟨x, e, hx⟩ := within_eq h hl K hK; unfold rewrite_inner.f innerS; rw [e, Option.bind_some]
 cases hw : withinS b with
 | none => rfl
 | some y =>
  obtain rfl := hx y hw; obtain ⟨he, h20, h8, h4, hp⟩ := withinS_is hw; have r9 : rd b 9 = b.getD 9 0 := rd_nat b 9 9 rfl; have hr := ihead_range b; have w2 : wrap64 (x + 2) = x + 2 := wrap64_id (by omega) (by omega); have w4 : wrap64 (x + 4) = x + 4 := wrap64_id (by omega) (by omega); have t2 : (x + 2).toNat = x.toNat + 2 := by omega
  have t4 : (x + 4).toNat = x.toNat + 4 := by omega
  dsimp only [Option.isSome_some, Option.map_some]; rw [if_pos rfl, if_pos (by omega), if_pos (by omega), two_at h _ (by omega), Option.bind_some, w2, if_pos (by omega), if_pos (by omega), t2, two_at h _ (by omega), Option.bind_some, if_pos (by omega), r9]; unfold portsS
  by_cases c : b.getD 9 0 = 1
  ·rw [if_pos c, if_pos c, w4, if_pos (by omega), if_pos (by omega), t4, two_at h _ (by omega), Option.bind_some, if_pos (by omega), four_at h 12 (by omega), Option.bind_some, if_pos (by omega), four_at h 16 (by omega), Option.bind_some]
  ·rw [if_neg c, if_neg c, if_pos (by omega), four_at h 12 (by omega), Option.bind_some, if_pos (by omega), four_at h 16 (by omega), Option.bind_some]
theorem or_u32_comm (x y : Int) : Go.bits .or .u32 x y = Go.bits .or .u32 y x := by
 unfold Go.bits; simp only [BitVec.or_comm]
section
variable {a t i fl of_ s d mt mc ms mr : Int} {o mb : List Int}
def msum (mt mc mr : Int) (mb : List Int) : Int := ck (PureI.ibytes mt mc 0 mr mb)
theorem msum_u16 (h1 : U8 mt) (h2 : U8 mc) (hb : IsB mb) : U16 (msum mt mc mr mb) := ck_range _ (PureI.ibytes_isB h1 h2 hb)
theorem lk_icmp_is (h : IpOk a t i fl of_ s d o) (h1 : U8 mt) (h2 : U8 mc) (hr : U32 mr) (hb : IsB mb) (hl : mb.length <= 2000) (hs : ms = msum mt mc mr mb) (K : Nat) (hK : 4000 <= K) (il : List S65) (ok : Bool) (hi : rewrite_inner.f K mb = some (il, ok)) {r : LK} (hc : (echoB mt mc = true /\ r = ⟨a, t, 1, i, fl, of_, s, d, o, PureI.ibytes mt mc ms mr mb, .icmp mt mc ms mr mb, mr / 65536 % 65536, mr / 65536 % 65536, 0, [], 0⟩) \/ (echoB mt mc = false /\ errB mt = true /\ ok = true /\ r = ⟨a, t, 1, i, fl, of_, s, d, o, PureI.ibytes mt mc ms mr mb, .icmp mt mc ms mr mb, 0, 0, 0, il, 0⟩)) :
  lookIcmp K a t i fl of_ s d o (PureI.ibytes mt mc ms mr mb) = some r := by
 have e1 := PureI.ibytes_length mt mc ms mr mb; have h16 : U16 ms := hs ▸ msum_u16 h1 h2 hb; have hB : IsB (PureI.ibytes mt mc ms mr mb) := PureI.ibytes_isB h1 h2 hb; have ho : norm (isum (words (PureI.ibytes mt mc ms mr mb))) = 65535 := by rw [hs]; exact PureI.iown mt mc mr mb (PureI.ibytes_isB h1 h2 hb)
 unfold lookIcmp; rw [PureI.iparse_eq hB (by omega), PureI.imsg_ibytes h16 hr, Option.bind_some]
 dsimp only
 rw [if_pos rfl, (PureI.iright_eq h1 h2 hb (by omega) K hK).1, Option.bind_some, if_pos (beq_iff_eq.2 ho), hi, Option.bind_some]
 dsimp only
 rw [echo_is, Option.bind_some]
 rcases hc with ⟨c1, c2⟩ | ⟨c1, c2, c3, c4⟩
 ·rw [if_pos c1, c2]
 ·rw [if_neg (by rw [c1]; decide), error_is, Option.bind_some, if_pos c2, if_pos c3, c4]
theorem pt_echo_is (h1 : U8 mt) (h2 : U8 mc) (hb : IsB mb) (hl : mb.length <= 2000) (he : echoB mt mc = true) (si sp di dp : Int) (hr : U32 mr) (hp : U16 sp) (K : Nat) (hK : 4000 <= K) : pointed.f K si sp di dp (.icmp mt mc ms mr mb) = some (PureI.ibytes mt mc (msum mt mc (mr % 65536 + sp * 65536) mb) (mr % 65536 + sp * 65536) mb) := by
 have e0 : Go.bits .or .u32 (Go.bits .and .u32 mr 65535) (sp % 4294967296 * 65536 % 4294967296) = mr % 65536 + sp * 65536 := by
  unfold U32 at hr
  unfold U16 at hp
  rw [and_65535 hr.1 hr.2, show sp % 4294967296 * 65536 % 4294967296 = sp * 65536 from by omega, or_u32_comm, or_u32 16 (by omega) (by omega) (by omega) (by omega) (by omega) (by omega)]
  omega
 unfold pointed.f
 dsimp only
 rw [echo_is, Option.bind_some, if_pos he, e0, PureI.isumf_eq mt mc ms _ mb K hK (by omega) (PureI.ibytes_isB h1 h2 hb), Option.bind_some, PureI.ibytes_eq _ _ _ _ (by omega), if_neg (by omega)]
 rfl
theorem pt_err_is (h1 : U8 mt) (h2 : U8 mc) (hb : IsB mb) (hl : mb.length <= 2000) (he : echoB mt mc = false) (si sp di dp : Int) (K : Nat) (hK : 4000 <= K) : pointed.f K si sp di dp (.icmp mt mc ms mr mb) = some (PureI.ibytes mt mc (msum mt mc mr mb) mr mb) := by
 unfold pointed.f
 dsimp only
 rw [echo_is, Option.bind_some, if_neg (by rw [he]; decide), PureI.isumf_eq mt mc ms _ mb K hK (by omega) (PureI.ibytes_isB h1 h2 hb), Option.bind_some, PureI.ibytes_eq _ _ _ _ (by omega), if_neg (by omega)]
 rfl
end
def backP (r : LK) (sp dp : Int) : Int × Int := if 0 < r.inn.length then (0, 0) else if r.pr = 1 then (sp, sp) else (sp, dp)
def BackOk (b : List Int) (r : LK) (si sp di dp : Int) : Prop := ∃ (x : List Int) (r2 : LK), rewrite_Change.f 4000 b si (backP r sp dp).1 di (backP r sp dp).2 = some (x, 0) /\ rewrite_look.f 4000 x = some r2 /\ r2.e = 0 /\ r2.s = si /\ r2.sp = (backP r sp dp).1 /\ r2.d = di /\ r2.dp = (backP r sp dp).2 /\ r2.ff = r.ff /\ r2.inn = r.inn /\ rewrite_Change.f 4000 x r.s r.sp r.d r.dp = some (b, 0)
section
variable {a t i fl of_ s d : Int} {o : List Int}
theorem look_of {pr : Int} {b : List Int} (h : IpOk a t i fl of_ s d o) (hp : U8 pr) (hb : IsB b) (hl : b.length <= 2500) : rewrite_look.f 4000 (ibytes a t pr i fl of_ s d o b) = if pr = 17 then lookUdp 4000 a t i fl of_ s d o b else if pr = 6 then lookTcp 4000 a t i fl of_ s d o b else if pr = 1 then lookIcmp 4000 a t i fl of_ s d o b else some (LK.err 21) := by
 unfold rewrite_look.f; rw [h.parse hp hb hl 4000 (Nat.le_refl _), Option.bind_some]
 dsimp only
 rw [if_pos rfl]
theorem change_of {pr : Int} {b y : List Int} {r : LK} {si sp di dp : Int} (h : IpOk a t i fl of_ s d o) (hp : U8 pr) {x : RB} {p q f : Int} {inn : List S65} (hlk : rewrite_look.f 4000 (ibytes a t pr i fl of_ s d o b) = some r) (hr : r = ⟨a, t, pr, i, fl, of_, s, d, o, b, x, p, q, f, inn, 0⟩) (hs : U32 si) (hd : U32 di) (hpt : pointed.f 4000 si sp di dp x = some y) (hy : y.length <= 2500) (hc : ¬ (pr = 1 /\ (0 < inn.length /\ ¬ (sp = 0 /\ dp = 0) \/ ¬ sp = dp))) : rewrite_Change.f 4000 (ibytes a t pr i fl of_ s d o b) si sp di dp = some (ibytes a t pr i fl of_ si di o y, 0) := by
 unfold rewrite_Change.f; rw [hlk, Option.bind_some]; have e : r.x = x := by rw [hr]
 rw [e, hpt]; exact cg_is h hp hs hd hr hc hy 4000 (Nat.le_refl _)
theorem back_udp (h : IpOk a t i fl of_ s d o) {us ud c : Int} {ub : List Int} (hus : U16 us) (hud : U16 ud) (hc : U16 c) (hub : IsB ub) (hl : ub.length <= 2000) (hr : c = 0 \/ c = usum (usumS s d us ud ub)) {r : LK} (hq : r = ⟨a, t, 17, i, fl, of_, s, d, o, ubytes us ud c ub, .udp us ud c ub, us, ud, 0, [], 0⟩) :
  rewrite_look.f 4000 (ibytes a t 17 i fl of_ s d o (ubytes us ud c ub)) = some r /\ ∀ si sp di dp, U32 si -> U16 sp -> U32 di -> U16 dp -> BackOk (ibytes a t 17 i fl of_ s d o (ubytes us ud c ub)) r si sp di dp := by
 have hL := ubytes_length us ud c ub
 have hlk : rewrite_look.f 4000 (ibytes a t 17 i fl of_ s d o (ubytes us ud c ub)) = some r := by
  rw [look_of h u8_17 (ubytes_isB hub) (by omega), if_pos rfl, hq]; exact lk_udp_is h hus hud hc hub hl hr 4000 (Nat.le_refl _)
 refine ⟨hlk, fun si sp di dp h1 h2 h3 h4 => ?_⟩; have hP : backP r sp dp = (sp, dp) := by rw [hq]; rfl
 have hL2 := ubytes_length sp dp (csum c si di sp dp ub) ub; have h' := h.to h1 h3
 have hlk2 : rewrite_look.f 4000 (ibytes a t 17 i fl of_ si di o (ubytes sp dp (csum c si di sp dp ub) ub)) = some ⟨a, t, 17, i, fl, of_, si, di, o, ubytes sp dp (csum c si di sp dp ub) ub, .udp sp dp (csum c si di sp dp ub) ub, sp, dp, 0, [], 0⟩ := by
  rw [look_of h' u8_17 (ubytes_isB hub) (by omega), if_pos rfl]; exact lk_udp_is h' h2 h4 (csum_u16 h1 h3 h2 h4 hub) hub hl csum_or 4000 (Nat.le_refl _)
 have hb2 : csum (csum c si di sp dp ub) s d us ud ub = c := by
  have hz := csum_zero (c := c) h1 h3 h2 h4 hub; unfold csum at hz |-
  rcases hr with hr | hr
  ·rw [if_pos (hz.2 hr), hr]
  ·by_cases h0 : c = 0
   ·rw [if_pos (hz.2 h0), h0]
   ·rw [if_neg (fun h5 => h0 (hz.1 h5)), <- hr]
 unfold BackOk; rw [hP]; refine ⟨_, _, change_of h u8_17 hlk hq h1 h3 (pt_udp_is h1 h3 h2 h4 hub hl _ _ 4000 (Nat.le_refl _)) (by omega) (fun h5 => absurd h5.1 (by decide)), hlk2, rfl, rfl, rfl, rfl, rfl, by rw [hq], by rw [hq], ?_⟩; have e1 : r.s = s /\ r.sp = us /\ r.d = d /\ r.dp = ud := by rw [hq]; exact ⟨rfl, rfl, rfl, rfl⟩
 rw [e1.1, e1.2.1, e1.2.2.1, e1.2.2.2]; have hp2 := pt_udp_is (c := csum c si di sp dp ub) h.hs h.hd hus hud hub hl sp dp 4000 (Nat.le_refl _); rw [hb2] at hp2
 exact change_of h' u8_17 hlk2 rfl h.hs h.hd hp2 (by omega) (fun h5 => absurd h5.1 (by decide))
theorem back_tcp (h : IpOk a t i fl of_ s d o) {ts td tq ta tf tw tu tc : Int} {to_ tb : List Int} (g : TcpOk ts td tq ta tf tw tu to_ tb) (hc : tc = tsum s d ts td tq ta tf tw tu to_ tb) {r : LK} (hq : r = ⟨a, t, 6, i, fl, of_, s, d, o, tbytes ts td tq ta tf tw tc tu to_ tb, .tcp ts td tq ta tf tw tc tu to_ tb, ts, td, tf, [], 0⟩) :
  rewrite_look.f 4000 (ibytes a t 6 i fl of_ s d o (tbytes ts td tq ta tf tw tc tu to_ tb)) = some r /\ ∀ si sp di dp, U32 si -> U16 sp -> U32 di -> U16 dp -> BackOk (ibytes a t 6 i fl of_ s d o (tbytes ts td tq ta tf tw tc tu to_ tb)) r si sp di dp := by
 have hl := g.hl; have h40 := g.h40; have hL := tbytes_length ts td tq ta tf tw tc tu to_ tb
 have hlk : rewrite_look.f 4000 (ibytes a t 6 i fl of_ s d o (tbytes ts td tq ta tf tw tc tu to_ tb)) = some r := by
  rw [look_of h u8_6 (tbytes_isB g.hf g.ho g.hb) (by omega), if_neg (by decide), if_pos rfl, hq]; exact lk_tcp_is h g hc 4000 (Nat.le_refl _)
 refine ⟨hlk, fun si sp di dp h1 h2 h3 h4 => ?_⟩; have hP : backP r sp dp = (sp, dp) := by rw [hq]; rfl
 have g' := g.to h2 h4; have h' := h.to h1 h3; have hL2 := tbytes_length sp dp tq ta tf tw (tsum si di sp dp tq ta tf tw tu to_ tb) tu to_ tb
 have hlk2 : rewrite_look.f 4000 (ibytes a t 6 i fl of_ si di o (tbytes sp dp tq ta tf tw (tsum si di sp dp tq ta tf tw tu to_ tb) tu to_ tb)) = some ⟨a, t, 6, i, fl, of_, si, di, o, tbytes sp dp tq ta tf tw (tsum si di sp dp tq ta tf tw tu to_ tb) tu to_ tb, .tcp sp dp tq ta tf tw (tsum si di sp dp tq ta tf tw tu to_ tb) tu to_ tb, sp, dp, tf, [], 0⟩ := by
  rw [look_of h' u8_6 (tbytes_isB g.hf g.ho g.hb) (by omega), if_neg (by decide), if_pos rfl]; exact lk_tcp_is h' g' rfl 4000 (Nat.le_refl _)
 unfold BackOk; rw [hP]; refine ⟨_, _, change_of h u8_6 hlk hq h1 h3 (pt_tcp_is h1 h3 g' _ _ 4000 (Nat.le_refl _)) (by omega) (fun h5 => absurd h5.1 (by decide)), hlk2, rfl, rfl, rfl, rfl, rfl, by rw [hq], by rw [hq], ?_⟩; have e1 : r.s = s /\ r.sp = ts /\ r.d = d /\ r.dp = td := by rw [hq]; exact ⟨rfl, rfl, rfl, rfl⟩
 rw [e1.1, e1.2.1, e1.2.2.1, e1.2.2.2]; have hp2 := pt_tcp_is (tc := tsum si di sp dp tq ta tf tw tu to_ tb) h.hs h.hd g sp dp 4000 (Nat.le_refl _); rw [<- hc] at hp2
 exact change_of h' u8_6 hlk2 rfl h.hs h.hd hp2 (by omega) (fun h5 => absurd h5.1 (by decide))
theorem back_echo (h : IpOk a t i fl of_ s d o) {mt mc ms mr : Int} {mb : List Int} (h1 : U8 mt) (h2 : U8 mc) (he : echoB mt mc = true) (hr : U32 mr) (hb : IsB mb) (hl : mb.length <= 2000) (hs : ms = msum mt mc mr mb) {r : LK} (hq : r = ⟨a, t, 1, i, fl, of_, s, d, o, PureI.ibytes mt mc ms mr mb, .icmp mt mc ms mr mb, mr / 65536 % 65536, mr / 65536 % 65536, 0, [], 0⟩) :
  rewrite_look.f 4000 (ibytes a t 1 i fl of_ s d o (PureI.ibytes mt mc ms mr mb)) = some r /\ ∀ si sp di dp, U32 si -> U16 sp -> U32 di -> U16 dp -> BackOk (ibytes a t 1 i fl of_ s d o (PureI.ibytes mt mc ms mr mb)) r si sp di dp := by
 have hL := PureI.ibytes_length mt mc ms mr mb; have hin := inner_eq hb (by omega) 4000 (by omega); obtain ⟨⟨il, ok⟩, hin⟩ : ∃ q : List S65 × Bool, rewrite_inner.f 4000 mb = some q := ⟨_, hin⟩
 have hB : ∀ ms mr : Int, IsB (PureI.ibytes mt mc ms mr mb) := fun _ _ => PureI.ibytes_isB h1 h2 hb
 have hlk : rewrite_look.f 4000 (ibytes a t 1 i fl of_ s d o (PureI.ibytes mt mc ms mr mb)) = some r := by
  rw [look_of h u8_1 (hB _ _) (by omega), if_neg (by decide), if_neg (by decide), if_pos rfl]; exact lk_icmp_is h h1 h2 hr hb hl hs 4000 (Nat.le_refl _) il ok hin (.inl ⟨he, hq⟩)
 refine ⟨hlk, fun si sp di dp k1 k2 k3 k4 => ?_⟩; have hP : backP r sp dp = (sp, sp) := by rw [hq]; rfl
 have h' := h.to k1 k3; unfold U32 at hr
 unfold U16 at k2
 have hr2 : U32 (mr % 65536 + sp * 65536) := by unfold U32; omega
 have hL2 := PureI.ibytes_length mt mc (msum mt mc (mr % 65536 + sp * 65536) mb) (mr % 65536 + sp * 65536) mb
 have hlk2 : rewrite_look.f 4000 (ibytes a t 1 i fl of_ si di o (PureI.ibytes mt mc (msum mt mc (mr % 65536 + sp * 65536) mb) (mr % 65536 + sp * 65536) mb)) = some ⟨a, t, 1, i, fl, of_, si, di, o, PureI.ibytes mt mc (msum mt mc (mr % 65536 + sp * 65536) mb) (mr % 65536 + sp * 65536) mb, .icmp mt mc (msum mt mc (mr % 65536 + sp * 65536) mb) (mr % 65536 + sp * 65536) mb, (mr % 65536 + sp * 65536) / 65536 % 65536, (mr % 65536 + sp * 65536) / 65536 % 65536, 0, [], 0⟩ := by
  rw [look_of h' u8_1 (hB _ _) (by omega), if_neg (by decide), if_neg (by decide), if_pos rfl]; exact lk_icmp_is h' h1 h2 hr2 hb hl rfl 4000 (Nat.le_refl _) il ok hin (.inl ⟨he, rfl⟩)
 have e0 : (mr % 65536 + sp * 65536) / 65536 % 65536 = sp := by omega
 have ex : (mr % 65536 + sp * 65536) % 65536 + mr / 65536 % 65536 * 65536 = mr := by omega
 unfold BackOk; rw [hP]; refine ⟨_, _, change_of h u8_1 hlk hq k1 k3 (pt_echo_is h1 h2 hb hl he si sp di sp hr k2 4000 (Nat.le_refl _)) (by omega) (fun h5 => h5.2.elim (fun h6 => Nat.lt_irrefl 0 h6.1) (fun h6 => h6 rfl)), hlk2, rfl, rfl, e0, rfl, e0, by rw [hq], by rw [hq], ?_⟩; have e1 : r.s = s /\ r.sp = mr / 65536 % 65536 /\ r.d = d /\ r.dp = mr / 65536 % 65536 := by rw [hq]; exact ⟨rfl, rfl, rfl, rfl⟩
 rw [e1.1, e1.2.1, e1.2.2.1, e1.2.2.2]; have hp2 := pt_echo_is (ms := msum mt mc (mr % 65536 + sp * 65536) mb) h1 h2 hb hl he s (mr / 65536 % 65536) d (mr / 65536 % 65536) hr2 (by unfold U16; omega) 4000 (Nat.le_refl _); rw [ex, <- hs] at hp2
 exact change_of h' u8_1 hlk2 rfl h.hs h.hd hp2 (by omega) (fun h5 => h5.2.elim (fun h6 => Nat.lt_irrefl 0 h6.1) (fun h6 => h6 rfl))
theorem back_err (h : IpOk a t i fl of_ s d o) {mt mc ms mr : Int} {mb : List Int} (h1 : U8 mt) (h2 : U8 mc) (he : echoB mt mc = false) (her : errB mt = true) (hr : U32 mr) (hb : IsB mb) (hl : mb.length <= 2000) (hs : ms = msum mt mc mr mb) {il : List S65} (hin : rewrite_inner.f 4000 mb = some (il, true)) (hil : 0 < il.length) {r : LK} (hq : r = ⟨a, t, 1, i, fl, of_, s, d, o, PureI.ibytes mt mc ms mr mb, .icmp mt mc ms mr mb, 0, 0, 0, il, 0⟩) :
  rewrite_look.f 4000 (ibytes a t 1 i fl of_ s d o (PureI.ibytes mt mc ms mr mb)) = some r /\ ∀ si sp di dp, U32 si -> U16 sp -> U32 di -> U16 dp -> BackOk (ibytes a t 1 i fl of_ s d o (PureI.ibytes mt mc ms mr mb)) r si sp di dp := by
 have hL := PureI.ibytes_length mt mc ms mr mb; have hB : IsB (PureI.ibytes mt mc ms mr mb) := PureI.ibytes_isB h1 h2 hb
 have hlk : rewrite_look.f 4000 (ibytes a t 1 i fl of_ s d o (PureI.ibytes mt mc ms mr mb)) = some r := by
  rw [look_of h u8_1 hB (by omega), if_neg (by decide), if_neg (by decide), if_pos rfl]; exact lk_icmp_is h h1 h2 hr hb hl hs 4000 (Nat.le_refl _) il true hin (.inr ⟨he, her, rfl, hq⟩)
 refine ⟨hlk, fun si sp di dp k1 k2 k3 k4 => ?_⟩; have hP : backP r sp dp = (0, 0) := by rw [hq]; exact if_pos hil
 have h' := h.to k1 k3
 have hlk2 : rewrite_look.f 4000 (ibytes a t 1 i fl of_ si di o (PureI.ibytes mt mc ms mr mb)) = some ⟨a, t, 1, i, fl, of_, si, di, o, PureI.ibytes mt mc ms mr mb, .icmp mt mc ms mr mb, 0, 0, 0, il, 0⟩ := by
  rw [look_of h' u8_1 hB (by omega), if_neg (by decide), if_neg (by decide), if_pos rfl]; exact lk_icmp_is h' h1 h2 hr hb hl hs 4000 (Nat.le_refl _) il true hin (.inr ⟨he, her, rfl, rfl⟩)
 unfold BackOk; rw [hP]; have hp1 := fun x y => pt_err_is (ms := ms) (mr := mr) h1 h2 hb hl he x 0 y 0 4000 (Nat.le_refl _)
 rw [<- hs] at hp1
 refine ⟨_, _, change_of h u8_1 hlk hq k1 k3 (hp1 si di) (by omega) (fun h5 => h5.2.elim (fun h6 => h6.2 ⟨rfl, rfl⟩) (fun h6 => h6 rfl)), hlk2, rfl, rfl, rfl, rfl, rfl, by rw [hq], by rw [hq], ?_⟩; have e1 : r.s = s /\ r.sp = 0 /\ r.d = d /\ r.dp = 0 := by rw [hq]; exact ⟨rfl, rfl, rfl, rfl⟩
 rw [e1.1, e1.2.1, e1.2.2.1, e1.2.2.2]; exact change_of h' u8_1 hlk2 rfl h.hs h.hd (hp1 s d) (by omega) (fun h5 => h5.2.elim (fun h6 => h6.2 ⟨rfl, rfl⟩) (fun h6 => h6 rfl))
end
theorem errT_nn {p8 : Int} (h : 0 <= p8) : errT p8 = 3 \/ errT p8 = 11 \/ errT p8 = 12 := by
 have h1 := Int.tmod_nonneg 3 h; have h2 := Int.tmod_lt_of_pos p8 (show (0 : Int) < 3 by decide); unfold errT; have h3 : p8.tmod 3 = 0 \/ p8.tmod 3 = 1 \/ p8.tmod 3 = 2 := by omega
 rcases h3 with h | h | h <;> rw [h]
 ·exact .inl rfl
 ·exact .inr (.inl rfl)
 ·exact .inr (.inr rfl)
theorem resS_eq {fr n : Int} (hf : U16 fr) (hn : 0 <= n /\ n <= 255) : resS fr n = fr * 65536 + n := by
 unfold U16 at hf
 unfold resS; rw [show fr % 4294967296 * 65536 % 4294967296 = fr * 65536 from by omega, show n % 4294967296 = n from by omega]; exact or_u32 16 (by omega) (by omega) (by omega) (by omega) (by omega) (by omega)
theorem echoB_typ (fl : Int) : echoB (typS fl) 0 = true := by
 unfold typS
 split <;> rfl
theorem bodyS_long (pr a b fr tp fl n : Int) : 8 <= (bodyS pr a b fr tp fl n).length := by
 unfold bodyS
 split
 ·rw [ubytes_length]; omega
 ·split
  ·rw [tbytes_length]; omega
  ·rw [PureI.ibytes_length]; omega
theorem errIn_within {pr s d fr tp p5 p8 : Int} (hp : pr = 17 \/ pr = 6 \/ pr = 1) : withinS (errIn pr s d fr tp p5 p8) = some 20 := by
 have h1 := bodyS_long pr d s tp fr p5 p8; have hl : (errIn pr s d fr tp p5 p8).length = 20 + (bodyS pr d s tp fr p5 p8).length := by unfold errIn; rw [ibytes_length]; rfl
 have e0 : (errIn pr s d fr tp p5 p8).getD 0 0 = 69 := rfl; have e9 : (errIn pr s d fr tp p5 p8).getD 9 0 = pr := rfl; have eh : ihead (errIn pr s d fr tp p5 p8) = 20 := by unfold ihead; rw [e0]; rfl
 unfold withinS; rw [if_neg (by omega), if_neg (by rw [e0, eh]; omega), e9, eh]
 rcases hp with h | h | h
 ·rw [if_pos (.inl h)]
 ·rw [if_pos (.inr h)]
 ·rw [if_neg (by omega), if_pos h]
  subst h; have e20 : (errIn 1 s d fr tp p5 p8).getD (20 : Int).toNat 0 = typS p5 := rfl; have e21 : (errIn 1 s d fr tp p5 p8).getD ((20 : Int).toNat + 1) 0 = 0 := rfl; rw [e20, e21, if_pos (echoB_typ p5)]
theorem made_back (p0 p1 p2 p3 p4 p5 p7 p8 side : Int) (h0 : 0 <= p0) (h8 : 0 <= p8 /\ p8 <= 255) : ∃ b r, seat_packet.f 4000 p0 p1 p2 p3 p4 p5 9 p7 p8 0 side 0 = some b /\ rewrite_look.f 4000 b = some r /\ r.e = 0 /\ r.inn.length <= 2 /\ ∀ si sp di dp, U32 si -> U16 sp -> U32 di -> U16 dp -> BackOk b r si sp di dp := by
 obtain ⟨s, d, fr, tp, hs, hd, hfr, htp, _, _, e⟩ := packet_told 4000 (Nat.le_refl _) p0 p1 p2 p3 p4 p5 9 p7 p8 0 side 0 h0; have hpr := (proto_some p0 h0).2; generalize rd [17, 6, 1, 17] (p0.tmod 4) = pr at hpr e
 rw [sp_none] at e
 have hw : ∀ q, seat_packet.sw 9 q = (64, q, 2, 0, []) := fun q => rfl
 rw [hw] at e
 dsimp only at e
 have hk : IpOk 0 64 (IntKind.u16.wrap p8) 2 0 s d [] := ⟨u8_0, by unfold U8; omega, wrap_p8 h8, by omega, by omega, hs, hd, .nil, rfl, by decide⟩
 have hd1 := dataS_isB p8; have hdl := dataS_len p8; have hpp : pr = 17 \/ pr = 6 \/ pr = 1 := by omega
 have hp8 : U8 pr := by unfold U8; omega
 by_cases c : p7.tmod 5 = 4
 ·rw [if_pos c, if_pos c] at e
  have hi := errIn_is (s := s) (d := d) (fr := fr) (tp := tp) (p5 := p5) (p8 := p8) hp8; have ht := errT_nn h8.1
  have he : echoB (errT p8) 0 = false := by rcases ht with h | h | h <;> rw [h] <;> rfl
  have her : errB (errT p8) = true := by rcases ht with h | h | h <;> rw [h] <;> rfl
  have hin := inner_eq hi.1 (by omega) 4000 (by omega); have hws := errIn_within (s := s) (d := d) (fr := fr) (tp := tp) (p5 := p5) (p8 := p8) hpp; unfold innerS at hin
  rw [hws] at hin
  obtain ⟨x, y, hin⟩ : ∃ x y : S65, rewrite_inner.f 4000 (errIn pr s d fr tp p5 p8) = some ([x, y], true) := ⟨_, _, hin⟩
  have hb := back_err hk (errT_r p8) u8_0 he her u32_0 hi.1 (by omega) rfl hin (Nat.zero_lt_succ _) rfl; exact ⟨_, _, e, hb.1, rfl, Nat.le_refl _, hb.2⟩
 ·rw [if_neg c, if_neg c] at e
  unfold bodyS at e
  rcases hpp with h | h | h
  ·subst h
   rw [if_pos rfl] at e
   have hu := usum_range (usumS_pos (a := s) (b := d) (s := fr) (d := tp) hs.1 hd.1 hfr.1 htp.1 hd1)
   by_cases hz : Go.bits .and .u8 p5 64 = 0
   ·rw [if_pos hz] at e
    have hb := back_udp hk hfr htp (c := usum (usumS s d fr tp (dataS p8))) (by unfold U16; omega) hd1 (by omega) (.inr rfl) rfl; exact ⟨_, _, e, hb.1, rfl, Nat.zero_le _, hb.2⟩
   ·rw [if_neg hz] at e
    have hb := back_udp hk hfr htp (c := 0) u16_0 hd1 (by omega) (.inl rfl) rfl; exact ⟨_, _, e, hb.1, rfl, Nat.zero_le _, hb.2⟩
  ·subst h
   rw [if_neg (by decide), if_pos rfl] at e
   have ho := optS_is p8; have g : TcpOk fr tp (p8 % 4294967296) 0 (Go.bits .and .u8 p5 23) 9 0 (optS p8) (dataS p8) := ⟨hfr, htp, by unfold U32; omega, u32_0, bits_r8 _ _ _, by unfold U16; omega, u16_0, ho.1, ho.2.1, by omega, hd1, by omega⟩
   have hb := back_tcp hk g rfl rfl; exact ⟨_, _, e, hb.1, rfl, Nat.zero_le _, hb.2⟩
  ·subst h
   rw [if_neg (by decide), if_neg (by decide)] at e
   have hb := back_echo hk (typS_r p5) u8_0 (echoB_typ p5) (mr := resS fr p8) (by rw [resS_eq hfr h8]; unfold U16 at hfr; unfold U32; omega) hd1 (by omega) rfl rfl; exact ⟨_, _, e, hb.1, rfl, Nat.zero_le _, hb.2⟩
end Go.Proofs.Ytkmimamminddiaa.Pure
namespace Go.Proofs.Ytkmimamminddiaa.PB
open Go.RowKit Go.Proofs.YtkmimamminddiaaW.PrintWords Go.Proofs.YtkmimamminddiaaW.PrintLast Go.Proofs.YtkmimamminddiaaW.PrintMore
open Go.Proofs.Ytkmimamminddiaa.BytesEq
theorem points_refl (K : Nat) (l : List S65) (hl : l.length <= 2) (hK : 4 <= K) : lychhelp_Points.f K l l = some true := by
 obtain ⟨k, rfl⟩ : ∃ j, K = j + 4 := ⟨K - 4, by omega⟩
 unfold lychhelp_Points.f; rw [if_pos rfl]; have w0 : wrap64 (1 : Int) = 1 := by unfold wrap64; omega
 have w1 : wrap64 (2 : Int) = 2 := by unfold wrap64; omega
 match l, hl with
 | [], _ => simp [lychhelp_Points.l0]
 | [x], _ => simp [lychhelp_Points.l0, rd_T65, w0]
 | [x, y], _ => simp [lychhelp_Points.l0, rd_T65, w0, w1]
end Go.Proofs.Ytkmimamminddiaa.PB
namespace Go.Proofs.Ytkmimamminddiaa.PB
open Go.RowKit Go.Proofs.YtkmimamminddiaaW.PrintWords Go.Proofs.YtkmimamminddiaaW.PrintLast Go.Proofs.YtkmimamminddiaaW.PrintMore
open Go.Proofs.Ytkmimamminddiaa.Spec Go.Proofs.Ytkmimamminddiaa.BytesEq
theorem oIg {W w1 : World} {g t base : Nat} {ds : Array Value} {ok : Nat -> Prop} {v : Value} {xs : List S65} (o : Off W w1 g) (h : Aside0 (Kd.R k65 65 W base ok v xs)) (hg : Aside0 (W.heap[g]? = some (.cells ds t (0, 0)))) (ht : 65 ≠ t) : Aside0 (Kd.R k65 65 w1 base ok v xs) :=
 ⟨Kd.R_mono (Kd.R_step (Kd.R_types h.out hg.out (fun q hq => by have e_ : q = 65 := (List.mem_cons.1 hq).resolve_right (fun h => nomatch h); rw [e_]; exact ht)) (fun k hk _ => o.far k hk.2)) (fun _ hk => hk.1)⟩
theorem oJ {W w1 : World} {g base : Nat} {ok : Nat -> Prop} {v : Value} {xs : List S65} (o : Off W w1 g) (h : Aside0 (Kd.R k65 65 W base ok v xs)) (hn : ∀ k, ok k -> k ≠ g) : Aside0 (Kd.R k65 65 w1 base ok v xs) := ⟨Kd.R_step h.out (fun k hk _ => o.far k (hn k hk))⟩
theorem rewriteBack.calls (p0 p1 p2 p3 p4 p5 p6 p7 p8 p9 side si ps di pd : Int) (w : World) (hp : 0 <= p0 /\ (0 <= p8 /\ p8 <= 255) /\ (0 <= p9 /\ p9 <= 255)) (h1 : 0 <= si /\ si <= 4294967295) (h2 : 0 <= ps /\ ps <= 65535) (h3 : 0 <= di /\ di <= 4294967295) (h4 : 0 <= pd /\ pd <= 65535) :
  Calls Try.prog 9 #[.agg #[.int .u8 p0, .int .u8 p1, .int .u8 p2, .int .u8 p3, .int .u8 p4, .int .u8 p5, .int .u8 p6, .int .u8 p7, .int .u8 p8, .int .u8 p9], .int .u8 side, .agg #[.int .u32 si, .int .u16 ps], .agg #[.int .u32 di, .int .u16 pd]] w fun e w' => e = .returned (.bool true) /\ Below w.heap.size w w' := by
 have hu25 := Try.underlying25; have hu65 := Try.underlying65; have hu73 := Try.underlying73; have hu76 := Try.underlying76; have HB := Aside0.mk (Below.refl w.heap.size w); have HI25 : Aside0 ((Try.prog.info? 25).map (·.size) = some 10) := ⟨by kernel_rfl⟩
 have HI65 : Aside0 ((Try.prog.info? 65).map (·.size) = some 2) := ⟨by kernel_rfl⟩
 have HI73 : Aside0 ((Try.prog.info? 73).map (·.size) = some 10) := ⟨by kernel_rfl⟩
 have HI76 : Aside0 ((Try.prog.info? 76).map (·.size) = some 7) := ⟨by kernel_rfl⟩
 obtain ⟨b, r, hpk, hlk, hre, hinl, hback⟩ := Pure.made_back p0 p1 p2 p3 p4 p5 p7 p8 (wrap64 (side.tmod 2)) hp.1 hp.2.1; obtain ⟨x, r2, k1, k2, k3, k4, k5, k6, k7, k8, k9, k10⟩ := hback si ps di pd h1 h2 h3 h4; obtain ⟨a, t, pr, i, fl, of_, s, d, o, bb, x0, sp, dp, ff, inn, e_⟩ := r; obtain ⟨a2, t2, pr2, i2, fl2, of_2, s2, d2, o2, bb2, x02, sp2, dp2, ff2, inn2, e_2⟩ := r2; dsimp only at hre hinl k3 k4 k5 k6 k7 k8 k9 k10
 obtain ⟨P, hP⟩ : ∃ P, P = (Pure.backP ⟨a, t, pr, i, fl, of_, s, d, o, bb, x0, sp, dp, ff, inn, e_⟩ ps pd).1 := ⟨_, rfl⟩
 obtain ⟨Q, hQ⟩ : ∃ Q, Q = (Pure.backP ⟨a, t, pr, i, fl, of_, s, d, o, bb, x0, sp, dp, ff, inn, e_⟩ ps pd).2 := ⟨_, rfl⟩
 rw [<- hP] at k1 k5
 rw [<- hQ] at k1 k7
 have HQ : Aside0 ((0 < inn.length /\ P = 0 /\ Q = 0) \/ (¬ 0 < inn.length /\ pr = 1 /\ P = ps /\ Q = ps) \/ (¬ 0 < inn.length /\ ¬ pr = 1 /\ P = ps /\ Q = pd)) := ⟨by
  unfold Pure.backP at hP hQ
  dsimp only at hP hQ
  by_cases c1 : 0 < inn.length
  ·rw [if_pos c1] at hP hQ; exact .inl ⟨c1, hP, hQ⟩
  ·rw [if_neg c1] at hP hQ
   by_cases c2 : pr = 1
   ·rw [if_pos c2] at hP hQ; exact .inr (.inl ⟨c1, c2, hP, hQ⟩)
   ·rw [if_neg c2] at hP hQ; exact .inr (.inr ⟨c1, c2, hP, hQ⟩)⟩
 have k4 := k4.symm; have k5 := k5.symm; have k6 := k6.symm; have k7 := k7.symm; have k8 := k8.symm; have k9 := k9.symm; subst hre k3 k4 k5 k6 k7 k8 k9; have HPK := Aside0.mk hpk; have HP89 : Aside0 ((0 <= p8 /\ p8 <= 255) /\ ((0 : Int) <= 0 /\ (0 : Int) <= 255)) := ⟨hp.2.1, by omega⟩
 have HLK := Aside0.mk hlk; have HCH := Aside0.mk k1; have HLX := Aside0.mk k2; have HCB := Aside0.mk k10; have HPR := Aside0.mk (points_refl 4 inn hinl (Nat.le_refl _)); clear hpk hlk hinl hback k1 k2 k10 hP hQ hp h1 h2 h3 h4
 go_enter Try.func9, Try.ntmps9
 go_upto_region 1 with (first | ((with_reducible refine gate_dst (N := 4) rfl ?_); refine box_event ?hg_ (N := 4) ?hd_ (cs := #[.int .u8 p0, .int .u8 p1, .int .u8 p2, .int .u8 p3, .int .u8 p4, .int .u8 p5, .int .u8 p6, .int .u8 p7, .int .u8 p8, .int .u8 p9]) (t := 25) ?hr_ ?_; (case hd_ => rfl); (case hg_ => rfl); (case hr_ => first | (go_simp; done) | (go_simp; rfl)); intro gk hgg_ w1 hbox_ hbb_; have GHXk := Aside0.mk (show w.heap.size <= gk by rw [hgg_]; exact below_size HB.out); have HXk := Aside0.mk hbox_; have hb_ := hbb_; replace HB := mB HB hb_; clear hb_; clear hgg_ hbox_ hbb_) | ((with_reducible refine gate_dst (N := 6) rfl ?_); refine box_event ?hg_ (N := 6) ?hd_ (cs := #[.int .u32 si, .int .u16 ps]) (t := 65) ?hr_ ?_; (case hd_ => rfl); (case hg_ => rfl); (case hr_ => first | (go_simp; done) | (go_simp; rfl)); intro gs hgg_ w2 hbox_ hbb_; have GHXs := Aside0.mk (show w.heap.size <= gs by rw [hgg_]; exact below_size HB.out); have HXs := Aside0.mk hbox_; have hb_ := hbb_; replace HB := mB HB hb_; replace HXk := mX HXk hb_; clear hb_; clear hgg_ hbox_ hbb_) | ((with_reducible refine gate_dst (N := 7) rfl ?_); refine box_event ?hg_ (N := 7) ?hd_ (cs := #[.int .u32 di, .int .u16 pd]) (t := 65) ?hr_ ?_; (case hd_ => rfl); (case hg_ => rfl); (case hr_ => first | (go_simp; done) | (go_simp; rfl)); intro gd hgg_ w3 hbox_ hbb_; have GHXd := Aside0.mk (show w.heap.size <= gd by rw [hgg_]; exact below_size HB.out); have HXd := Aside0.mk hbox_; have NE_HXs_HXd : Aside0 (gs ≠ gd) := ⟨by rw [hgg_]; exact (blk_less HXs).out⟩; have hb_ := hbb_; replace HB := mB HB hb_; replace HXk := mX HXk hb_; replace HXs := mX HXs hb_; clear hb_; clear hgg_ hbox_ hbb_))
 go_wp2_with fail
 refine (known8.calls _).mono ?_; rintro ev w4 ⟨rfl, hb⟩; have hb_ := hb; replace HB := mB HB hb_; replace HXk := mX HXk hb_; replace HXs := mX HXs hb_; replace HXd := mX HXd hb_; clear hb_; clear hb
 (try dsimp only)
 go_upto_region 4 with (first | ((refine rw_set rfl rfl (i := 6) (v := .int .u8 9) (cs' := #[.int .u8 p0, .int .u8 p1, .int .u8 p2, .int .u8 p3, .int .u8 p4, .int .u8 p5, .int .u8 9, .int .u8 p7, .int .u8 p8, .int .u8 p9]) HXk.out rfl ?hr_ ?_); (case hr_ => (have m_ := (blk_cell HXk.out 6).trans (rfl : _ = some (.int .u8 p6 : Value))); (have mf_ := blk_frozen HXk.out 6); first | (go_simp; done) | (go_simp; rfl)); intro w5 hs_ off_; replace HXs := oX off_ HXs HXk (by decide); replace HXd := oX off_ HXd HXk (by decide); replace HB := oB off_ HB GHXk; clear off_; replace HXk := Aside0.mk hs_; clear hs_) | ((refine rw_set rfl rfl (i := 9) (v := .int .u8 0) (cs' := #[.int .u8 p0, .int .u8 p1, .int .u8 p2, .int .u8 p3, .int .u8 p4, .int .u8 p5, .int .u8 9, .int .u8 p7, .int .u8 p8, .int .u8 0]) HXk.out rfl ?hr_ ?_); (case hr_ => (have m_ := (blk_cell HXk.out 9).trans (rfl : _ = some (.int .u8 p9 : Value))); (have mf_ := blk_frozen HXk.out 9); first | (go_simp; done) | (go_simp; rfl)); intro w6 hs_ off_; replace HXs := oX off_ HXs HXk (by decide); replace HXd := oX off_ HXd HXk (by decide); replace HB := oB off_ HB GHXk; clear off_; replace HXk := Aside0.mk hs_; clear hs_))
 go_wp2_with (refine Kd.event_run rfl (rw_load rfl rfl HXk.out Try.underlying25 rfl HI25.out) ?_)
 refine (seat_packet.calls 4000 p0 p1 p2 p3 p4 p5 9 p7 p8 0 (wrap64 (side.tmod 2)) 0 b _ HP89.out HPK.out).mono ?_; rintro ev w7 ⟨v_, rfl, ho, hb⟩; have HRb := Aside0.mk (Kd.R_lower ho (below_size HB.out)); obtain ⟨Ab, cb, rfl, _, _⟩ := Kd.R_reads ho; clear ho; have hb_ := hb; replace HB := mB HB hb_; replace HXk := mX HXk hb_; replace HXs := mX HXs hb_; replace HXd := mX HXd hb_; clear hb_; clear hb
 (try dsimp only)
 clear HXk; clear GHXk
 go_wp2_with fail
 refine (rewrite_Look.calls 4000 Ab cb b _ _ (Kd.R_reads' HRb.out).2.2 (Kd.R_reads' HRb.out).2.1 HLK.out).mono ?_; rintro ev w8 hpost; obtain ⟨v8, v9, vi, rfl, ho8, ho9, hi, hb⟩ := hpost; dsimp only at ho8 ho9 hi
 obtain ⟨Ao, co, rfl, _, _⟩ := Kd.R_reads ho8; obtain ⟨Abb, cbb, rfl, _, _⟩ := Kd.R_reads ho9; have HRi := Aside0.mk (Kd.R_lower (Kd.R_mono (Kd.R_bound hi) (ok' := fun k => k ≠ gs /\ k ≠ gd) (fun k hk => ⟨fun e => by have h1 := blk_lt HXs.out; have h2 := hk.2.1; omega, fun e => by have h1 := blk_lt HXd.out; have h2 := hk.2.1; omega⟩)) (below_size HB.out)); obtain ⟨Ai, ci, rfl, _, _⟩ := Kd.R_reads hi; clear ho8 ho9 hi; have hb_ := hb; replace HB := mB HB hb_; replace HXs := mX HXs hb_; replace HXd := mX HXd hb_; replace HRb := mR HRb hb_; clear hb_; clear hb
 (try dsimp only)
 go_upto_region 6 with (first | ((with_reducible refine gate_dst (N := 10) rfl ?_); refine box_event ?hg_ (N := 10) ?hd_ (cs := #[.int .u8 0, .int .u8 0, .int .u8 0, .int .u16 0, .int .u8 0, .int .u16 0, .int .u32 0, .int .u32 0, .slice none 0 0, .slice none 0 0]) (t := 73) ?hr_ ?_; (case hd_ => rfl); (case hg_ => rfl); (case hr_ => first | (go_simp; done) | (go_simp; rfl)); intro gp hgg_ w9 hbox_ hbb_; have GHXp := Aside0.mk (show w.heap.size <= gp by rw [hgg_]; exact below_size HB.out); have HXp := Aside0.mk hbox_; have hb_ := hbb_; replace HB := mB HB hb_; replace HXs := mX HXs hb_; replace HXd := mX HXd hb_; replace HRb := mR HRb hb_; replace HRi := mI HRi hb_; clear hb_; clear hgg_ hbox_ hbb_) | ((with_reducible refine gate_dst (N := 11) rfl ?_); refine box_event ?hg_ (N := 11) ?hd_ (cs := #[.int .u8 0, .int .u32 0, .int .u16 0, .int .u32 0, .int .u16 0, .int .u8 0, .slice none 0 0]) (t := 76) ?hr_ ?_; (case hd_ => rfl); (case hg_ => rfl); (case hr_ => first | (go_simp; done) | (go_simp; rfl)); intro gf hgg_ w10 hbox_ hbb_; have GHXf := Aside0.mk (show w.heap.size <= gf by rw [hgg_]; exact below_size HB.out); have HXf := Aside0.mk hbox_; have hb_ := hbb_; replace HB := mB HB hb_; replace HXs := mX HXs hb_; replace HXd := mX HXd hb_; replace HRb := mR HRb hb_; replace HRi := mI HRi hb_; replace HXp := mX HXp hb_; clear hb_; clear hgg_ hbox_ hbb_) | ((refine rw_putrow rfl rfl rfl rfl rfl HXp.out HI73.out rfl (by simp [Value.oneCell']) ?_); intro w11 hs_ off_; replace HXs := oX off_ HXs HXp (by decide); replace HXd := oX off_ HXd HXp (by decide); replace HRb := oR off_ HRb HXp (by decide); replace HRi := oIg off_ HRi HXp (by decide); replace HXf := oX off_ HXf HXp (by decide); replace HB := oB off_ HB GHXp; clear off_; replace HXp := Aside0.mk hs_; clear hs_) | ((refine rw_putrow rfl rfl rfl rfl rfl HXf.out HI76.out rfl (by simp [Value.oneCell']) ?_); intro w12 hs_ off_; replace HXs := oX off_ HXs HXf (by decide); replace HXd := oX off_ HXd HXf (by decide); replace HRb := oR off_ HRb HXf (by decide); replace HRi := oIg off_ HRi HXf (by decide); replace HXp := oX off_ HXp HXf (by decide); replace HB := oB off_ HB GHXf; clear off_; replace HXf := Aside0.mk hs_; clear hs_))
 clear HXp; clear GHXp; have gf_0 : w12.cell? ⟨gf, 0, none⟩ = some (.int .u8 pr) := (blk_cell HXf.out 0).trans rfl; have gf_6 : w12.cell? ⟨gf, 6, none⟩ = some (.slice Ai inn.length ci) := (blk_cell HXf.out 6).trans rfl; have gs_1 : w12.cell? ⟨gs, 1, none⟩ = some (.int .u16 ps) := (blk_cell HXs.out 1).trans rfl
 rcases HQ.out with ⟨h1, h2, h3⟩ | ⟨h1, h4, h2, h3⟩ | ⟨h1, h4, h2, h3⟩
 all_goals clear HQ
 all_goals first
  | (have d1 : decide (0 < (inn.length : Int)) = true := decide_eq_true (by omega); have d2 : decide (0 < inn.length) = true := decide_eq_true (by omega); clear h1; have h2 := h2.symm; have h3 := h3.symm; subst h2 h3; go_wp2_with (first | ((refine rw_set rfl rfl (i := 1) (v := .int .u16 0) (cs' := #[.int .u32 si, .int .u16 0]) HXs.out rfl ?hr_ ?_); (case hr_ => (have m_ := (blk_cell HXs.out 1).trans (rfl : _ = some (.int .u16 ps : Value))); (have mf_ := blk_frozen HXs.out 1); first | (go_simp; done) | (go_simp; rfl)); intro w13 hs_ off_; replace HXd := oN off_ HXd (ne_sym NE_HXs_HXd); replace HRb := oR off_ HRb HXs (by decide); replace HRi := oJ off_ HRi (fun k hk => hk.1); replace HXf := oX off_ HXf HXs (by decide); replace HB := oB off_ HB GHXs; clear off_; replace HXs := Aside0.mk hs_; clear hs_) | ((refine rw_set rfl rfl (i := 1) (v := .int .u16 0) (cs' := #[.int .u32 di, .int .u16 0]) HXd.out rfl ?hr_ ?_); (case hr_ => (have m_ := (blk_cell HXd.out 1).trans (rfl : _ = some (.int .u16 pd : Value))); (have mf_ := blk_frozen HXd.out 1); first | (go_simp; done) | (go_simp; rfl)); intro w14 hs_ off_; replace HXs := oN off_ HXs NE_HXs_HXd; replace HRb := oR off_ HRb HXd (by decide); replace HRi := oJ off_ HRi (fun k hk => hk.2); replace HXf := oX off_ HXf HXd (by decide); replace HB := oB off_ HB GHXd; clear off_; replace HXd := Aside0.mk hs_; clear hs_) | (refine Kd.event_run rfl (rw_load rfl rfl HXs.out Try.underlying65 rfl HI65.out) ?_) | (refine Kd.event_run rfl (rw_load rfl rfl HXd.out Try.underlying65 rfl HI65.out) ?_)); clear d1 d2)
  | (have d1 : decide (0 < (inn.length : Int)) = false := decide_eq_false (by omega); have d2 : decide (0 < inn.length) = false := decide_eq_false (by omega); have e1 : (pr == 1) = true := beq_iff_eq.2 h4; clear h1 h4; have h2 := h2.symm; have h3 := h3.symm; subst h2 h3; go_wp2_with (first | ((refine rw_set rfl rfl (i := 1) (v := .int .u16 ps) (cs' := #[.int .u32 di, .int .u16 ps]) HXd.out rfl ?hr_ ?_); (case hr_ => (have m_ := (blk_cell HXd.out 1).trans (rfl : _ = some (.int .u16 pd : Value))); (have mf_ := blk_frozen HXd.out 1); first | (go_simp; done) | (go_simp; rfl)); intro w13 hs_ off_; replace HXs := oN off_ HXs NE_HXs_HXd; replace HRb := oR off_ HRb HXd (by decide); replace HRi := oJ off_ HRi (fun k hk => hk.2); replace HXf := oX off_ HXf HXd (by decide); replace HB := oB off_ HB GHXd; clear off_; replace HXd := Aside0.mk hs_; clear hs_) | (refine Kd.event_run rfl (rw_load rfl rfl HXs.out Try.underlying65 rfl HI65.out) ?_) | (refine Kd.event_run rfl (rw_load rfl rfl HXd.out Try.underlying65 rfl HI65.out) ?_)); clear d1 d2 e1)
  | (have d1 : decide (0 < (inn.length : Int)) = false := decide_eq_false (by omega); have d2 : decide (0 < inn.length) = false := decide_eq_false (by omega); have e1 : (pr == 1) = false := beq_eq_false_iff_ne.2 h4; clear h1 h4; have h2 := h2.symm; have h3 := h3.symm; subst h2 h3; go_wp2_with (first | (refine Kd.event_run rfl (rw_load rfl rfl HXs.out Try.underlying65 rfl HI65.out) ?_) | (refine Kd.event_run rfl (rw_load rfl rfl HXd.out Try.underlying65 rfl HI65.out) ?_)); clear d1 d2 e1)
 all_goals clear gf_0 gf_6 gs_1
 all_goals
  refine (rewrite_Change.calls 4000 Ab cb b si _ di _ x 0 _ (Kd.R_reads' HRb.out).2.2 (Kd.R_reads' HRb.out).2.1 HCH.out).mono ?_; rintro ev w61 ⟨v_, rfl, ho, hb⟩; have HRx := Aside0.mk (Kd.R_lower ho (below_size HB.out)); obtain ⟨Ax, cx, rfl, _, _⟩ := Kd.R_reads ho; clear ho; have hb_ := hb; replace HB := mB HB hb_; replace HXs := mX HXs hb_; replace HXd := mX HXd hb_; replace HRb := mR HRb hb_; replace HRi := mI HRi hb_; replace HXf := mX HXf hb_; clear hb_; clear hb
  (try dsimp only)
  go_wp2_with fail
  refine (rewrite_Look.calls 4000 Ax cx x _ _ (Kd.R_reads' HRx.out).2.2 (Kd.R_reads' HRx.out).2.1 HLX.out).mono ?_; rintro ev w62 hpost; obtain ⟨v8, v9, vi, rfl, ho8, ho9, hi, hb⟩ := hpost; dsimp only at ho8 ho9 hi
  obtain ⟨Ao2, co2, rfl, _, _⟩ := Kd.R_reads ho8; obtain ⟨Ab2b, cb2b, rfl, _, _⟩ := Kd.R_reads ho9; have HRi2 := Aside0.mk (Kd.R_lower hi (below_size HB.out)); obtain ⟨Ai2, ci2, rfl, _, _⟩ := Kd.R_reads hi; clear ho8 ho9 hi; have hb_ := hb; replace HB := mB HB hb_; replace HXs := mX HXs hb_; replace HXd := mX HXd hb_; replace HRb := mR HRb hb_; replace HRi := mI HRi hb_; replace HXf := mX HXf hb_; replace HRx := mR HRx hb_; clear hb_; clear hb
  (try dsimp only)
  go_upto_region 14 with (first | ((with_reducible refine gate_dst (N := 15) rfl ?_); refine box_event ?hg_ (N := 15) ?hd_ (cs := #[.int .u8 0, .int .u8 0, .int .u8 0, .int .u16 0, .int .u8 0, .int .u16 0, .int .u32 0, .int .u32 0, .slice none 0 0, .slice none 0 0]) (t := 73) ?hr_ ?_; (case hd_ => rfl); (case hg_ => rfl); (case hr_ => first | (go_simp; done) | (go_simp; rfl)); intro gr hgg_ w63 hbox_ hbb_; have GHXr := Aside0.mk (show w.heap.size <= gr by rw [hgg_]; exact below_size HB.out); have HXr := Aside0.mk hbox_; have hb_ := hbb_; replace HB := mB HB hb_; replace HXs := mX HXs hb_; replace HXd := mX HXd hb_; replace HRb := mR HRb hb_; replace HRi := mI HRi hb_; replace HXf := mX HXf hb_; replace HRx := mR HRx hb_; replace HRi2 := mI HRi2 hb_; clear hb_; clear hgg_ hbox_ hbb_) | ((with_reducible refine gate_dst (N := 16) rfl ?_); refine box_event ?hg_ (N := 16) ?hd_ (cs := #[.int .u8 0, .int .u32 0, .int .u16 0, .int .u32 0, .int .u16 0, .int .u8 0, .slice none 0 0]) (t := 76) ?hr_ ?_; (case hd_ => rfl); (case hg_ => rfl); (case hr_ => first | (go_simp; done) | (go_simp; rfl)); intro gh hgg_ w64 hbox_ hbb_; have GHXh := Aside0.mk (show w.heap.size <= gh by rw [hgg_]; exact below_size HB.out); have HXh := Aside0.mk hbox_; have NE_HXf_HXh : Aside0 (gf ≠ gh) := ⟨by rw [hgg_]; exact (blk_less HXf).out⟩; have hb_ := hbb_; replace HB := mB HB hb_; replace HXs := mX HXs hb_; replace HXd := mX HXd hb_; replace HRb := mR HRb hb_; replace HRi := mI HRi hb_; replace HXf := mX HXf hb_; replace HRx := mR HRx hb_; replace HRi2 := mI HRi2 hb_; replace HXr := mX HXr hb_; clear hb_; clear hgg_ hbox_ hbb_) | ((refine rw_putrow rfl rfl rfl rfl rfl HXr.out HI73.out rfl (by simp [Value.oneCell']) ?_); intro w65 hs_ off_; replace HXs := oX off_ HXs HXr (by decide); replace HXd := oX off_ HXd HXr (by decide); replace HRb := oR off_ HRb HXr (by decide); replace HRi := oIg off_ HRi HXr (by decide); replace HXf := oX off_ HXf HXr (by decide); replace HRx := oR off_ HRx HXr (by decide); replace HRi2 := oIg off_ HRi2 HXr (by decide); replace HXh := oX off_ HXh HXr (by decide); replace HB := oB off_ HB GHXr; clear off_; replace HXr := Aside0.mk hs_; clear hs_) | ((refine rw_putrow rfl rfl rfl rfl rfl HXh.out HI76.out rfl (by simp [Value.oneCell']) ?_); intro w66 hs_ off_; replace HXs := oX off_ HXs HXh (by decide); replace HXd := oX off_ HXd HXh (by decide); replace HRb := oR off_ HRb HXh (by decide); replace HRi := oIg off_ HRi HXh (by decide); replace HXf := oN off_ HXf NE_HXf_HXh; replace HRx := oR off_ HRx HXh (by decide); replace HRi2 := oIg off_ HRi2 HXh (by decide); replace HXr := oX off_ HXr HXh (by decide); replace HB := oB off_ HB GHXh; clear off_; replace HXh := Aside0.mk hs_; clear hs_))
  clear HXr; clear GHXr
  go_wp2_with (first | ((with_reducible refine gate_dst (N := 67) rfl ?_); refine Kd.event_run rfl (load_mid_ (ty := 65) (cs := [.int .u32 s, .int .u16 sp]) rfl rfl (World.rangeAt_of_block HXf.out 1 2) Try.underlying65 rfl HI65.out) ?_) | ((with_reducible refine gate_dst (N := 69) rfl ?_); refine Kd.event_run rfl (load_mid_ (ty := 65) (cs := [.int .u32 d, .int .u16 dp]) rfl rfl (World.rangeAt_of_block HXf.out 3 2) Try.underlying65 rfl HI65.out) ?_))
  refine (rewrite_Change.calls 4000 Ax cx x s sp d dp b 0 _ (Kd.R_reads' HRx.out).2.2 (Kd.R_reads' HRx.out).2.1 HCB.out).mono ?_; rintro ev w67 ⟨v_, rfl, ho, hb⟩; have HRy := Aside0.mk (Kd.R_lower ho (below_size HB.out)); obtain ⟨Ay, cy, rfl, _, _⟩ := Kd.R_reads ho; clear ho; have hb_ := hb; replace HB := mB HB hb_; replace HXs := mX HXs hb_; replace HXd := mX HXd hb_; replace HRb := mR HRb hb_; replace HRi := mI HRi hb_; replace HXf := mX HXf hb_; replace HRx := mR HRx hb_; replace HRi2 := mI HRi2 hb_; replace HXh := mX HXh hb_; clear hb_; clear hb
  (try dsimp only)
  have gh_5 : w67.cell? ⟨gh, 5, none⟩ = some (.int .u8 ff) := (blk_cell HXh.out 5).trans rfl; have gh_6 : w67.cell? ⟨gh, 6, none⟩ = some (.slice Ai2 inn.length ci2) := (blk_cell HXh.out 6).trans rfl; have gf_5 : w67.cell? ⟨gf, 5, none⟩ = some (.int .u8 ff) := (blk_cell HXf.out 5).trans rfl; have gf_6 : w67.cell? ⟨gf, 6, none⟩ = some (.slice Ai inn.length ci) := (blk_cell HXf.out 6).trans rfl; have z_si : (si == si) = true := beq_self_eq_true _; have z_ps : (ps == ps) = true := beq_self_eq_true _; have z_di : (di == di) = true := beq_self_eq_true _; have z_pd : (pd == pd) = true := beq_self_eq_true _; have z_ff : (ff == ff) = true := beq_self_eq_true _
  go_wp2_with (first | ((with_reducible refine gate_dst (N := 81) rfl ?_); (refine gate_guard (by rfl) ?_; dsimp only); refine Kd.event_run rfl (load_mid_ (ty := 65) (cs := [.int .u32 si, .int .u16 _]) rfl rfl (World.rangeAt_of_block HXh.out 1 2) Try.underlying65 rfl HI65.out) ?_) | ((with_reducible refine gate_dst (N := 82) rfl ?_); (refine gate_guard (by rfl) ?_; dsimp only); (refine Kd.event_run rfl (rw_load rfl rfl HXs.out Try.underlying65 rfl HI65.out) ?_)) | ((with_reducible refine gate_dst (N := 87) rfl ?_); (refine gate_guard (by rfl) ?_; dsimp only); refine Kd.event_run rfl (load_mid_ (ty := 65) (cs := [.int .u32 di, .int .u16 _]) rfl rfl (World.rangeAt_of_block HXh.out 3 2) Try.underlying65 rfl HI65.out) ?_) | ((with_reducible refine gate_dst (N := 88) rfl ?_); (refine gate_guard (by rfl) ?_; dsimp only); (refine Kd.event_run rfl (rw_load rfl rfl HXd.out Try.underlying65 rfl HI65.out) ?_)))
  clear gh_5 gh_6 gf_5 gf_6 z_si z_ps z_di z_pd z_ff; refine (lychhelp_Points.calls 4 Ai2 ci2 inn Ai ci inn true _ (Kd.R_reads' HRi2.out).2.2 (Kd.R_reads' HRi2.out).2.1 (Kd.R_reads' HRi.out).2.2 (Kd.R_reads' HRi.out).2.1 HPR.out).mono ?_; rintro ev w_ ⟨rfl, ⟨nd, rfl⟩⟩; have hb_ := pw_below_drewN (Below.refl w67.heap.size w67) nd; replace HB := mB HB hb_; replace HXs := mX HXs hb_; replace HXd := mX HXd hb_; replace HRb := mR HRb hb_; replace HRi := mI HRi hb_; replace HXf := mX HXf hb_; replace HRx := mR HRx hb_; replace HRi2 := mI HRi2 hb_; replace HXh := mX HXh hb_; replace HRy := mR HRy hb_; clear hb_; generalize w67.drewN nd = w68 at HB HXs HXd HRb HRi HXf HRx HRi2 HXh HRy |-
  (try dsimp only)
  go_wp2_with fail
  refine (lychhelp_Bytes.calls Ay cy b Ab cb b true _ (Kd.R_reads' HRy.out).2.2 (Kd.R_reads' HRy.out).2.1 (Kd.R_reads' HRb.out).2.2 (Kd.R_reads' HRb.out).2.1 (bytes_refl b)).mono ?_; rintro ev w_ ⟨rfl, ⟨nd, rfl⟩⟩; have hb_ := pw_below_drewN (Below.refl w68.heap.size w68) nd; replace HB := mB HB hb_; replace HXs := mX HXs hb_; replace HXd := mX HXd hb_; replace HRb := mR HRb hb_; replace HRi := mI HRi hb_; replace HXf := mX HXf hb_; replace HRx := mR HRx hb_; replace HRi2 := mI HRi2 hb_; replace HXh := mX HXh hb_; replace HRy := mR HRy hb_; clear hb_; generalize w68.drewN nd = w69 at HB HXs HXd HRb HRi HXf HRx HRi2 HXh HRy |-
  (try dsimp only)
  go_wp2
  (try simp only [Exit.inBlock, Exit.then])
  go_ret
  exact ⟨rfl, HB.out⟩
end Go.Proofs.Ytkmimamminddiaa.PB
namespace Go.Proofs.YtkmimamminddiaaW.AggWords
open Go.Joins Go.ChangeShapes Go.WideShapes Go.RowKit Go.Deep
theorem cutp_ {l p : List Value} {a k b : Nat} (h : (l.drop a).take k = p) (hb : a + k = b) : l.drop a = p ++ l.drop b := by
 have h1 := (List.take_append_drop k (l.drop a)).symm; rw [h, List.drop_drop, hb] at h1
 exact h1
section
variable {H : Type} {enc : TypeId × Value -> H} {w : World} {base : Nat} {spare : Nat -> Bool} {held : Bool}
theorem open_pack {r : Reach} {b0 : Nat} {v : Value} {d : DataW H} {p : List MemPlace} (hv : Value.okWide Try.prog w r b0 25 v) (h : DataW.Trod enc Try.prog w base spare held 25 v d p) :
  ∃ x0 x1 x2 x3 x4 x5 x6 x7 x8 x9 : Int, v = .agg #[.int .u8 x0, .int .u8 x1, .int .u8 x2, .int .u8 x3, .int .u8 x4, .int .u8 x5, .int .u8 x6, .int .u8 x7, .int .u8 x8, .int .u8 x9] /\ (Lit.int .u8 x0).wf = true /\ (Lit.int .u8 x1).wf = true /\ (Lit.int .u8 x2).wf = true /\ (Lit.int .u8 x3).wf = true /\ (Lit.int .u8 x4).wf = true /\ (Lit.int .u8 x5).wf = true /\ (Lit.int .u8 x6).wf = true /\ (Lit.int .u8 x7).wf = true /\ (Lit.int .u8 x8).wf = true /\ (Lit.int .u8 x9).wf = true := by
 have k5 : Try.prog.cellsOf 5 = 1 := by kernel_rfl
 have kT : Try.prog.cellsOf 25 = 10 := by kernel_rfl
 obtain ⟨cs, rfl, hsz⟩ := okWide_struct Try.underlying25 hv; obtain ⟨l⟩ := cs; obtain ⟨fuel, hf⟩ := h; obtain ⟨xs, n, _, hx, hlc, hlen, hg⟩ := DataW.trod_struct Try.underlying25 hf; have hl : l.length = 10 := hlc.trans kT; have g0 : DataW.trod enc Try.prog w base spare held n 5 ((l.drop 0).take (Try.prog.cellsOf 5)) = xs[0]? := hg 0 _ rfl; obtain ⟨y0, hy0⟩ : ∃ y, xs[0]? = some y := ⟨_, List.getElem?_eq_getElem (by rw [hlen]; decide)⟩
 rw [hy0, k5] at g0
 obtain ⟨x0, e0, _, w0⟩ := DataW.trod_int Try.underlying5 g0; have g1 : DataW.trod enc Try.prog w base spare held n 5 ((l.drop 1).take (Try.prog.cellsOf 5)) = xs[1]? := hg 1 _ rfl; obtain ⟨y1, hy1⟩ : ∃ y, xs[1]? = some y := ⟨_, List.getElem?_eq_getElem (by rw [hlen]; decide)⟩
 rw [hy1, k5] at g1
 obtain ⟨x1, e1, _, w1⟩ := DataW.trod_int Try.underlying5 g1; have g2 : DataW.trod enc Try.prog w base spare held n 5 ((l.drop 2).take (Try.prog.cellsOf 5)) = xs[2]? := hg 2 _ rfl; obtain ⟨y2, hy2⟩ : ∃ y, xs[2]? = some y := ⟨_, List.getElem?_eq_getElem (by rw [hlen]; decide)⟩
 rw [hy2, k5] at g2
 obtain ⟨x2, e2, _, w2⟩ := DataW.trod_int Try.underlying5 g2; have g3 : DataW.trod enc Try.prog w base spare held n 5 ((l.drop 3).take (Try.prog.cellsOf 5)) = xs[3]? := hg 3 _ rfl; obtain ⟨y3, hy3⟩ : ∃ y, xs[3]? = some y := ⟨_, List.getElem?_eq_getElem (by rw [hlen]; decide)⟩
 rw [hy3, k5] at g3
 obtain ⟨x3, e3, _, w3⟩ := DataW.trod_int Try.underlying5 g3; have g4 : DataW.trod enc Try.prog w base spare held n 5 ((l.drop 4).take (Try.prog.cellsOf 5)) = xs[4]? := hg 4 _ rfl; obtain ⟨y4, hy4⟩ : ∃ y, xs[4]? = some y := ⟨_, List.getElem?_eq_getElem (by rw [hlen]; decide)⟩
 rw [hy4, k5] at g4
 obtain ⟨x4, e4, _, w4⟩ := DataW.trod_int Try.underlying5 g4; have g5 : DataW.trod enc Try.prog w base spare held n 5 ((l.drop 5).take (Try.prog.cellsOf 5)) = xs[5]? := hg 5 _ rfl; obtain ⟨y5, hy5⟩ : ∃ y, xs[5]? = some y := ⟨_, List.getElem?_eq_getElem (by rw [hlen]; decide)⟩
 rw [hy5, k5] at g5
 obtain ⟨x5, e5, _, w5⟩ := DataW.trod_int Try.underlying5 g5; have g6 : DataW.trod enc Try.prog w base spare held n 5 ((l.drop 6).take (Try.prog.cellsOf 5)) = xs[6]? := hg 6 _ rfl; obtain ⟨y6, hy6⟩ : ∃ y, xs[6]? = some y := ⟨_, List.getElem?_eq_getElem (by rw [hlen]; decide)⟩
 rw [hy6, k5] at g6
 obtain ⟨x6, e6, _, w6⟩ := DataW.trod_int Try.underlying5 g6; have g7 : DataW.trod enc Try.prog w base spare held n 5 ((l.drop 7).take (Try.prog.cellsOf 5)) = xs[7]? := hg 7 _ rfl; obtain ⟨y7, hy7⟩ : ∃ y, xs[7]? = some y := ⟨_, List.getElem?_eq_getElem (by rw [hlen]; decide)⟩
 rw [hy7, k5] at g7
 obtain ⟨x7, e7, _, w7⟩ := DataW.trod_int Try.underlying5 g7; have g8 : DataW.trod enc Try.prog w base spare held n 5 ((l.drop 8).take (Try.prog.cellsOf 5)) = xs[8]? := hg 8 _ rfl; obtain ⟨y8, hy8⟩ : ∃ y, xs[8]? = some y := ⟨_, List.getElem?_eq_getElem (by rw [hlen]; decide)⟩
 rw [hy8, k5] at g8
 obtain ⟨x8, e8, _, w8⟩ := DataW.trod_int Try.underlying5 g8; have g9 : DataW.trod enc Try.prog w base spare held n 5 ((l.drop 9).take (Try.prog.cellsOf 5)) = xs[9]? := hg 9 _ rfl; obtain ⟨y9, hy9⟩ : ∃ y, xs[9]? = some y := ⟨_, List.getElem?_eq_getElem (by rw [hlen]; decide)⟩
 rw [hy9, k5] at g9
 obtain ⟨x9, e9, _, w9⟩ := DataW.trod_int Try.underlying5 g9; have hd : l = l.drop 0 := rfl; rw [cutp_ e0 (show 0 + 1 = 1 from rfl), cutp_ e1 (show 1 + 1 = 2 from rfl), cutp_ e2 (show 2 + 1 = 3 from rfl), cutp_ e3 (show 3 + 1 = 4 from rfl), cutp_ e4 (show 4 + 1 = 5 from rfl), cutp_ e5 (show 5 + 1 = 6 from rfl), cutp_ e6 (show 6 + 1 = 7 from rfl), cutp_ e7 (show 7 + 1 = 8 from rfl), cutp_ e8 (show 8 + 1 = 9 from rfl), cutp_ e9 (show 9 + 1 = 10 from rfl), List.drop_eq_nil_of_le (show l.length <= 10 by omega)] at hd
 subst hd; exact ⟨x0, x1, x2, x3, x4, x5, x6, x7, x8, x9, rfl, w0, w1, w2, w3, w4, w5, w6, w7, w8, w9⟩
theorem open_point {r : Reach} {b0 : Nat} {v : Value} {d : DataW H} {p : List MemPlace} (hv : Value.okWide Try.prog w r b0 65 v) (h : DataW.Trod enc Try.prog w base spare held 65 v d p) :
  ∃ x0 x1 : Int, v = .agg #[.int .u32 x0, .int .u16 x1] /\ (Lit.int .u32 x0).wf = true /\ (Lit.int .u16 x1).wf = true := by
 have k27 : Try.prog.cellsOf 27 = 1 := by kernel_rfl
 have k45 : Try.prog.cellsOf 45 = 1 := by kernel_rfl
 have kT : Try.prog.cellsOf 65 = 2 := by kernel_rfl
 obtain ⟨cs, rfl, hsz⟩ := okWide_struct Try.underlying65 hv; obtain ⟨l⟩ := cs; obtain ⟨fuel, hf⟩ := h; obtain ⟨xs, n, _, hx, hlc, hlen, hg⟩ := DataW.trod_struct Try.underlying65 hf; have hl : l.length = 2 := hlc.trans kT; have g0 : DataW.trod enc Try.prog w base spare held n 27 ((l.drop 0).take (Try.prog.cellsOf 27)) = xs[0]? := hg 0 _ rfl; obtain ⟨y0, hy0⟩ : ∃ y, xs[0]? = some y := ⟨_, List.getElem?_eq_getElem (by rw [hlen]; decide)⟩
 rw [hy0, k27] at g0
 obtain ⟨x0, e0, _, w0⟩ := DataW.trod_int Try.underlying27 g0; have g1 : DataW.trod enc Try.prog w base spare held n 45 ((l.drop 1).take (Try.prog.cellsOf 45)) = xs[1]? := hg 1 _ rfl; obtain ⟨y1, hy1⟩ : ∃ y, xs[1]? = some y := ⟨_, List.getElem?_eq_getElem (by rw [hlen]; decide)⟩
 rw [hy1, k45] at g1
 obtain ⟨x1, e1, _, w1⟩ := DataW.trod_int Try.underlying45 g1; have hd : l = l.drop 0 := rfl; rw [cutp_ e0 (show 0 + 1 = 1 from rfl), cutp_ e1 (show 1 + 1 = 2 from rfl), List.drop_eq_nil_of_le (show l.length <= 2 by omega)] at hd
 subst hd; exact ⟨x0, x1, rfl, w0, w1⟩
end
end Go.Proofs.YtkmimamminddiaaW.AggWords
