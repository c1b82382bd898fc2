/- Texts of this claim, merged: RwBody, PBx23, RwPkt, RwKn, PBx30, PBx32, PBx55, PBx34, Spec, SpecSum, BytesEq, BytesEqB, FT, SumEq, SumEqP, SumEqO, PBx1. -/
import Derived.Test.YtkmimamminddiaaZpb
import Derived.Test.YtkmimamminddiaaZpe
import Derived.Deep.Cut
import Derived.Deep.CutRange
import Derived.Deep.CutBlock
import Derived.Deep.WholeRow
import Derived.Lib.SlBytesConst
import Derived.BigQuiet
import Derived.Deep.QuietTactic
import Derived.Test.YtkmimamminddiaaZpd
import Derived.Laws.BitsAllLaws
import Derived.Laws.BitsLemmas
import Derived.RowKit
import Derived.Test.YtkmimamminddiaaZpc
set_option maxHeartbeats 40000000
set_option maxRecDepth 100000
set_option linter.unusedVariables false
set_option linter.unusedSimpArgs false
namespace Go.Proofs.Ytkmimamminddiaa.PB
open Go.RowKit Go.Proofs.ai.bX Go.Proofs.ai.dh Go.Proofs.ai.iL
def qv:List Int:=[97,98,99,100,101,102,103,104,105,106,107,108,109,110,111,112]
def mD.f (k:Nat) (pr src dst fr tp fl n:Int):Option (List Int):=
 if pr=17 then
  if Go.bits .and .u8 fl 64=0 then (jn.f k src dst fr tp 0 (qv.take (n.tmod 16).toNat)).bind fun s=>(bT.f fr tp s (qv.take (n.tmod 16).toNat)).bind fun b=>some b.1
  else (bT.f fr tp 0 (qv.take (n.tmod 16).toNat)).bind fun b=>some b.1
 else if pr=6 then
  if Go.bits .and .u8 n 32=0 then (gT.f k src dst fr tp (n % 4294967296) 0 (Go.bits .and .u8 fl 23) 9 0 0 [] (qv.take (n.tmod 16).toNat)).bind fun s=>(aD.f k fr tp (n % 4294967296) 0 (Go.bits .and .u8 fl 23) 9 s 0 [] (qv.take (n.tmod 16).toNat)).bind fun b=>some b.1
  else (gT.f k src dst fr tp (n % 4294967296) 0 (Go.bits .and .u8 fl 23) 9 0 0 [1,1,1,0] (qv.take (n.tmod 16).toNat)).bind fun s=>(aD.f k fr tp (n % 4294967296) 0 (Go.bits .and .u8 fl 23) 9 s 0 [1,1,1,0] (qv.take (n.tmod 16).toNat)).bind fun b=>some b.1
 else if Go.bits .and .u8 fl 1=0 then (eW.f k 8 0 0 (Go.bits .or .u32 (fr % 4294967296*65536 % 4294967296) (n % 4294967296)) (qv.take (n.tmod 16).toNat)).bind fun s=>(bG.f 8 0 s (Go.bits .or .u32 (fr % 4294967296*65536 % 4294967296) (n % 4294967296)) (qv.take (n.tmod 16).toNat)).bind fun b=>some b.1
  else (eW.f k 0 0 0 (Go.bits .or .u32 (fr % 4294967296*65536 % 4294967296) (n % 4294967296)) (qv.take (n.tmod 16).toNat)).bind fun s=>(bG.f 0 0 s (Go.bits .or .u32 (fr % 4294967296*65536 % 4294967296) (n % 4294967296)) (qv.take (n.tmod 16).toNat)).bind fun b=>some b.1
theorem mD.calls (k:Nat) (pr src dst fr tp fl n:Int) (r:List Int) (w:World) (hn:0<=n /\ n<=255) (h:mD.f k pr src dst fr tp fl n=some r):
  Calls Try.prog 53 #[.int .u8 pr,.int .u32 src,.int .u32 dst,.int .u16 fr,.int .u16 tp,.int .u8 fl,.int .u8 n] w fun e w'=>∃ o6:Value,e= .returned o6 /\ Kd.R (Kd.int .u8) 5 w' w.heap.size (fun _=>True) o6 r /\ Below w.heap.size w w':=by
 have wB:=Try.underlying83;have qU:=Try.underlying137;have ny:=Try.underlying101;have HB:=gj w;have qB:aa ((Try.prog.info? 83).map (·.size)=some 4):=⟨by kernel_rfl⟩
 have jT:aa ((Try.prog.info? 137).map (·.size)=some 10):=⟨by kernel_rfl⟩
 have ja:aa ((Try.prog.info? 101).map (·.size)=some 5):=⟨by kernel_rfl⟩
 obtain ⟨m,hm⟩:∃ m:Nat,n.tmod 16=(m:Int):=⟨(n.tmod 16).toNat,(Int.toNat_of_nonneg (Int.tmod_nonneg _ hn.1)).symm⟩
 have Vz:m<=qv.length:=by
  have h1:n.tmod 16<16:=Int.tmod_lt_of_pos _ (by decide);have h2:qv.length=16:=rfl
  omega
 obtain ⟨i0,NG,_,hsz,_⟩:=info_parts gB;have H:mD.f k pr src dst fr tp fl n=some r:=h;clear h;unfold mD.f at H
 rw [hm,Int.toNat_natCast] at H
 obtain ⟨l,hl⟩:∃ l,l=qv.take m:=⟨_,rfl⟩
 have hll:l.length=m:=by rw [hl,List.length_take];omega
 have hcut:=PJ (P:=Try.prog) 23 5 .u8 Try.underlying23 NG (some ⟨w.heap.size,0,none⟩) 16 16 (n.tmod 16) l.length (by rw [hll];exact hm) (by rw [hll];exact Vz) (Nat.le_refl _);rw [<- hl] at H
 have kc:=Lib.run_convert_bytes_const (P:=Try.prog) w 23 5 #[.int .u8 97,.int .u8 98,.int .u8 99,.int .u8 100,.int .u8 101,.int .u8 102,.int .u8 103,.int .u8 104,.int .u8 105,.int .u8 106,.int .u8 107,.int .u8 108,.int .u8 109,.int .u8 110,.int .u8 111,.int .u8 112] 16 16 Try.underlying23 Try.underlying5;have Pa:=aa.mk hl;have Du:=aa.mk Vz;have Sb:aa (l.length<=16):=⟨by rw [hll];exact Vz⟩
 have HF:=aa.mk H;clear hl hll hm Vz NG hsz H hn
 go_enter Try.func53,Try.ntmps53
 go_upto_region 2 with (fail)
 clear hcut kc;obtain ⟨gd,hgd⟩:∃ x_,x_=w.heap.size:=⟨_,rfl⟩
 have cE:aa ((w.alloc (.cells #[.int .u8 97,.int .u8 98,.int .u8 99,.int .u8 100,.int .u8 101,.int .u8 102,.int .u8 103,.int .u8 104,.int .u8 105,.int .u8 106,.int .u8 107,.int .u8 108,.int .u8 109,.int .u8 110,.int .u8 111,.int .u8 112] 5 (16,17))).heap[gd]?=some (.cells #[.int .u8 97,.int .u8 98,.int .u8 99,.int .u8 100,.int .u8 101,.int .u8 102,.int .u8 103,.int .u8 104,.int .u8 105,.int .u8 106,.int .u8 107,.int .u8 108,.int .u8 109,.int .u8 110,.int .u8 111,.int .u8 112] 5 (16,17))):=⟨by rw [hgd];exact iX _ _⟩
 rw [<- hgd];clear hgd;have ah:=dX (Below.refl w.heap.size w) (.cells #[.int .u8 97,.int .u8 98,.int .u8 99,.int .u8 100,.int .u8 101,.int .u8 102,.int .u8 103,.int .u8 104,.int .u8 105,.int .u8 106,.int .u8 107,.int .u8 108,.int .u8 109,.int .u8 110,.int .u8 111,.int .u8 112] 5 (16,17));replace HB:=mB HB ah;clear ah;generalize w.alloc (.cells #[.int .u8 97,.int .u8 98,.int .u8 99,.int .u8 100,.int .u8 101,.int .u8 102,.int .u8 103,.int .u8 104,.int .u8 105,.int .u8 106,.int .u8 107,.int .u8 108,.int .u8 109,.int .u8 110,.int .u8 111,.int .u8 112] 5 (16,17))=w1 at cE HB|-
 have H:=HF.out;clear HF
 by_cases rL:pr=17
 ·have Agz:(pr==17)=true:=fH rL
  have AnG:(pr !=17)=false:=by rw [bne,Agz];rfl
  rw [au rL] at H
  clear rL
  (try dsimp only)
  go_upto_region 5 with ((first|(refine mQ rfl rfl (tS rfl rfl rfl qB.out rfl (by simp [Value.oneCell'])) ?_)))
  obtain ⟨gu,FN⟩:∃ x_,x_=w1.heap.size:=⟨_,rfl⟩
  have bR:aa ((w1.alloc (.cells #[.int .u16 fr,.int .u16 tp,.int .u16 0,.slice (some ⟨gd,0,none⟩) l.length 16] 83)).heap[gu]?=some (.cells #[.int .u16 fr,.int .u16 tp,.int .u16 0,.slice (some ⟨gd,0,none⟩) l.length 16] 83 (0,0))):=⟨by rw [FN];exact iX _ _⟩
  have lR:=aa.mk (show w.heap.size<=gu by rw [FN];exact af HB.out);rw [<- FN];clear FN;have ah:=dX (Below.refl w1.heap.size w1) (.cells #[.int .u16 fr,.int .u16 tp,.int .u16 0,.slice (some ⟨gd,0,none⟩) l.length 16] 83);replace HB:=mB HB ah;replace cE:=mX cE ah;clear ah;generalize (w1.alloc (.cells #[.int .u16 fr,.int .u16 tp,.int .u16 0,.slice (some ⟨gd,0,none⟩) l.length 16] 83))=w2 at bR HB cE|-
  by_cases cf:Go.bits .and .u8 fl 64=0
  ·have cf1:(Go.bits .and .u8 fl 64==0)=true:=fH cf
   have cf2:(Go.bits .and .u8 fl 64 !=0)=false:=by rw [bne,cf1];rfl
   rw [au cf] at H
   clear cf
   (try dsimp only)
   go_wp2_with (refine Kd.bL rfl (br rfl rfl bR.out Try.underlying83 rfl qB.out) ?_)
   obtain ⟨s,hs0,H⟩:=bV H;have yA:=aa.mk (show Kd.C (Kd.int .u8) w2 (some ⟨gd,0,none⟩) l.length l by rw [Pa.out];exact mq cE.out rfl Du.out (by decide));refine (jn.calls k src dst fr tp 0 (some ⟨gd,0,none⟩) 16 l s _ yA.out Sb.out hs0).mono ?_;rintro e w3 ⟨rfl,hb⟩;clear hs0 yA;have ah:=hb;replace HB:=mB HB ah;replace cE:=mX cE ah;replace bR:=mX bR ah;clear ah;clear hb
   (try dsimp only)
   go_upto_region 7 with (((refine gQ rfl rfl (i:=2) (v:= .int .u16 s) (cs':= #[.int .u16 fr,.int .u16 tp,.int .u16 s,.slice (some ⟨gd,0,none⟩) l.length 16]) bR.out rfl ?fq ?_);(case fq=>(have m_:=(aE bR.out 2).trans (rfl:_=some (.int .u16 0:Value)));(have nY:=ae bR.out 2);first|(go_simp;done)|(go_simp;rfl));intro w4 hs_ ag;have gX:=aa.mk (kS.below ag HB.out lR.out);have pH:=aa.mk (kS.blk ag cE.out bR.out (by decide));clear HB cE bR ag;have bR:=aa.mk hs_;clear hs_;have HB:=gX;have cE:=pH;clear gX pH))
   go_wp2_with (refine Kd.bL rfl (br rfl rfl bR.out Try.underlying83 rfl qB.out) ?_)
   obtain ⟨⟨b,be⟩,hb0,H⟩:=bV H;obtain rfl:=cS H;have yA:=aa.mk (show Kd.C (Kd.int .u8) w4 (some ⟨gd,0,none⟩) l.length l by rw [Pa.out];exact mq cE.out rfl Du.out (by decide));refine (bT.calls fr tp s (some ⟨gd,0,none⟩) 16 l b be _ yA.out Sb.out hb0).mono ?_;rintro e w5 ⟨v_,rfl,ho,hb⟩;have Lo:=aa.mk (Kd.bP ho (af HB.out));clear ho hb0 yA;have ah:=hb;replace HB:=mB HB ah;clear ah;clear hb
   (try dsimp only)
   go_wp2
   (try simp only [Exit.inBlock,Exit.then])
   go_ret
   exact ⟨_,rfl,Lo.out,HB.out⟩
  ·have cf1:(Go.bits .and .u8 fl 64==0)=false:=fc cf
   have cf2:(Go.bits .and .u8 fl 64 !=0)=true:=bne_iff_ne.2 cf;rw [ax cf] at H
   clear cf
   (try dsimp only)
   go_wp2_with (refine Kd.bL rfl (br rfl rfl bR.out Try.underlying83 rfl qB.out) ?_)
   obtain ⟨⟨b,be⟩,hb0,H⟩:=bV H;obtain rfl:=cS H;have yA:=aa.mk (show Kd.C (Kd.int .u8) w2 (some ⟨gd,0,none⟩) l.length l by rw [Pa.out];exact mq cE.out rfl Du.out (by decide));refine (bT.calls fr tp 0 (some ⟨gd,0,none⟩) 16 l b be _ yA.out Sb.out hb0).mono ?_;rintro e w5 ⟨v_,rfl,ho,hb⟩;have Lo:=aa.mk (Kd.bP ho (af HB.out));clear ho hb0 yA;have ah:=hb;replace HB:=mB HB ah;clear ah;clear hb
   (try dsimp only)
   go_wp2
   (try simp only [Exit.inBlock,Exit.then])
   go_ret
   exact ⟨_,rfl,Lo.out,HB.out⟩
 ·have Agz:(pr==17)=false:=fc rL
  have AnG:(pr !=17)=true:=bne_iff_ne.2 rL;rw [ax rL] at H
  clear rL
  by_cases c6:pr=6
  ·have c61:(pr==6)=true:=fH c6
   have c62:(pr !=6)=false:=by rw [bne,c61];rfl
   rw [au c6] at H
   clear c6
   (try dsimp only)
   go_upto_region 11 with ((first|(refine mQ rfl rfl (tS rfl rfl rfl jT.out rfl (by simp [Value.oneCell'])) ?_)))
   obtain ⟨gt,hgt⟩:∃ x_,x_=w1.heap.size:=⟨_,rfl⟩
   have yK:aa ((w1.alloc (.cells #[.int .u16 fr,.int .u16 tp,.int .u32 (n % 4294967296),.int .u32 0,.int .u8 (Go.bits .and .u8 fl 23),.int .u16 9,.int .u16 0,.int .u16 0,.slice none 0 0,.slice (some ⟨gd,0,none⟩) l.length 16] 137)).heap[gt]?=some (.cells #[.int .u16 fr,.int .u16 tp,.int .u32 (n % 4294967296),.int .u32 0,.int .u8 (Go.bits .and .u8 fl 23),.int .u16 9,.int .u16 0,.int .u16 0,.slice none 0 0,.slice (some ⟨gd,0,none⟩) l.length 16] 137 (0,0))):=⟨by rw [hgt];exact iX _ _⟩
   have Abs:=aa.mk (show w.heap.size<=gt by rw [hgt];exact af HB.out);rw [<- hgt];clear hgt;have ah:=dX (Below.refl w1.heap.size w1) (.cells #[.int .u16 fr,.int .u16 tp,.int .u32 (n % 4294967296),.int .u32 0,.int .u8 (Go.bits .and .u8 fl 23),.int .u16 9,.int .u16 0,.int .u16 0,.slice none 0 0,.slice (some ⟨gd,0,none⟩) l.length 16] 137);replace HB:=mB HB ah;replace cE:=mX cE ah;clear ah;generalize (w1.alloc (.cells #[.int .u16 fr,.int .u16 tp,.int .u32 (n % 4294967296),.int .u32 0,.int .u8 (Go.bits .and .u8 fl 23),.int .u16 9,.int .u16 0,.int .u16 0,.slice none 0 0,.slice (some ⟨gd,0,none⟩) l.length 16] 137))=w2 at yK HB cE|-
   by_cases co:Go.bits .and .u8 n 32=0
   ·have co1:(Go.bits .and .u8 n 32==0)=true:=fH co
    have co2:(Go.bits .and .u8 n 32 !=0)=false:=by rw [bne,co1];rfl
    rw [au co] at H
    clear co
    (try dsimp only)
    go_wp2_with (refine Kd.bL rfl (br rfl rfl yK.out Try.underlying137 rfl jT.out) ?_)
    obtain ⟨s,hs0,H⟩:=bV H;have yA:=aa.mk (show Kd.C (Kd.int .u8) w2 (some ⟨gd,0,none⟩) l.length l by rw [Pa.out];exact mq cE.out rfl Du.out (by decide));have VA:=aa.mk (Kd.Cs (Kd.int .u8) w2);refine (gT.calls k src dst fr tp (n % 4294967296) 0 (Go.bits .and .u8 fl 23) 9 0 0 none 0 [] (some ⟨gd,0,none⟩) 16 l s _ VA.out (by decide) yA.out Sb.out hs0).mono ?_;rintro e w7 ⟨rfl,hb⟩;clear hs0 yA VA;have ah:=hb;replace HB:=mB HB ah;replace cE:=mX cE ah;replace yK:=mX yK ah;clear ah;clear hb
    (try dsimp only)
    go_upto_region 14 with (((refine gQ rfl rfl (i:=6) (v:= .int .u16 s) (cs':= #[.int .u16 fr,.int .u16 tp,.int .u32 (n % 4294967296),.int .u32 0,.int .u8 (Go.bits .and .u8 fl 23),.int .u16 9,.int .u16 s,.int .u16 0,.slice none 0 0,.slice (some ⟨gd,0,none⟩) l.length 16]) yK.out rfl ?fq ?_);(case fq=>(have m_:=(aE yK.out 6).trans (rfl:_=some (.int .u16 0:Value)));(have nY:=ae yK.out 6);first|(go_simp;done)|(go_simp;rfl));intro w8 hs_ ag;have gX:=aa.mk (kS.below ag HB.out Abs.out);have pH:=aa.mk (kS.blk ag cE.out yK.out (by decide));clear HB cE yK ag;have yK:=aa.mk hs_;clear hs_;have HB:=gX;have cE:=pH;clear gX pH))
    go_wp2_with (refine Kd.bL rfl (br rfl rfl yK.out Try.underlying137 rfl jT.out) ?_)
    have VA:=aa.mk (Kd.Cs (Kd.int .u8) w8);obtain ⟨⟨b,be⟩,hb0,H⟩:=bV H;obtain rfl:=cS H;have yA:=aa.mk (show Kd.C (Kd.int .u8) w8 (some ⟨gd,0,none⟩) l.length l by rw [Pa.out];exact mq cE.out rfl Du.out (by decide));refine (aD.calls k fr tp (n % 4294967296) 0 (Go.bits .and .u8 fl 23) 9 s 0 none 0 [] (some ⟨gd,0,none⟩) 16 l b be _ VA.out (by decide) yA.out Sb.out hb0).mono ?_;rintro e w9 ⟨v_,rfl,ho,hb⟩;have Lo:=aa.mk (Kd.bP ho (af HB.out));clear ho hb0 yA;have ah:=hb;replace HB:=mB HB ah;clear ah;clear hb
    (try dsimp only)
    go_wp2
    (try simp only [Exit.inBlock,Exit.then])
    go_ret
    exact ⟨_,rfl,Lo.out,HB.out⟩
   ·have co1:(Go.bits .and .u8 n 32==0)=false:=fc co
    have co2:(Go.bits .and .u8 n 32 !=0)=true:=bne_iff_ne.2 co;rw [ax co] at H
    clear co
    (try dsimp only)
    go_upto_region 13 with (first|((with_reducible refine aA (N:=64) rfl ?_);refine PG ?gJ (cs:= #[.int .u8 1,.int .u8 1,.int .u8 1,.int .u8 0]) (t:=5) (n:=4) ?fq ?_;(case gJ=>rfl);(case fq=>first|(go_simp;done)|(go_simp;rfl));intro go w5 AgA hgo JF;have Te:=aa.mk AgA;clear AgA hgo;have ah:=JF;replace HB:=mB HB ah;replace cE:=mX cE ah;replace yK:=mX yK ah;clear ah;clear JF)|((refine gQ rfl rfl (i:=8) (v:= .slice (some ⟨go,0,none⟩) 4 4) (cs':= #[.int .u16 fr,.int .u16 tp,.int .u32 (n % 4294967296),.int .u32 0,.int .u8 (Go.bits .and .u8 fl 23),.int .u16 9,.int .u16 0,.int .u16 0,.slice (some ⟨go,0,none⟩) 4 4,.slice (some ⟨gd,0,none⟩) l.length 16]) yK.out rfl ?fq ?_);(case fq=>(have m_:=(aE yK.out 8).trans (rfl:_=some (.slice none 0 0:Value)));(have nY:=ae yK.out 8);first|(go_simp;done)|(go_simp;rfl));intro w6 hs_ ag;have gX:=aa.mk (kS.below ag HB.out Abs.out);have pH:=aa.mk (kS.blk ag cE.out yK.out (by decide));have JG:=aa.mk (kS.blk ag Te.out yK.out (by decide));clear HB cE Te yK ag;have yK:=aa.mk hs_;clear hs_;have HB:=gX;have cE:=pH;have Te:=JG;clear gX pH JG))
    go_wp2_with (refine Kd.bL rfl (br rfl rfl yK.out Try.underlying137 rfl jT.out) ?_)
    obtain ⟨s,hs0,H⟩:=bV H;have yA:=aa.mk (show Kd.C (Kd.int .u8) w6 (some ⟨gd,0,none⟩) l.length l by rw [Pa.out];exact mq cE.out rfl Du.out (by decide));have VA:=aa.mk (mq (xs:=[1,1,1,0]) (m:=4) (w:=w6) Te.out rfl (by decide) (by decide));refine (gT.calls k src dst fr tp (n % 4294967296) 0 (Go.bits .and .u8 fl 23) 9 0 0 (some ⟨go,0,none⟩) 4 [1,1,1,0] (some ⟨gd,0,none⟩) 16 l s _ VA.out (by decide) yA.out Sb.out hs0).mono ?_;rintro e w7 ⟨rfl,hb⟩;clear hs0 yA VA;have ah:=hb;replace HB:=mB HB ah;replace cE:=mX cE ah;replace yK:=mX yK ah;replace Te:=mX Te ah;clear ah;clear hb
    (try dsimp only)
    go_upto_region 14 with (((refine gQ rfl rfl (i:=6) (v:= .int .u16 s) (cs':= #[.int .u16 fr,.int .u16 tp,.int .u32 (n % 4294967296),.int .u32 0,.int .u8 (Go.bits .and .u8 fl 23),.int .u16 9,.int .u16 s,.int .u16 0,.slice (some ⟨go,0,none⟩) 4 4,.slice (some ⟨gd,0,none⟩) l.length 16]) yK.out rfl ?fq ?_);(case fq=>(have m_:=(aE yK.out 6).trans (rfl:_=some (.int .u16 0:Value)));(have nY:=ae yK.out 6);first|(go_simp;done)|(go_simp;rfl));intro w8 hs_ ag;have gX:=aa.mk (kS.below ag HB.out Abs.out);have pH:=aa.mk (kS.blk ag cE.out yK.out (by decide));have JG:=aa.mk (kS.blk ag Te.out yK.out (by decide));clear HB cE Te yK ag;have yK:=aa.mk hs_;clear hs_;have HB:=gX;have cE:=pH;have Te:=JG;clear gX pH JG))
    go_wp2_with (refine Kd.bL rfl (br rfl rfl yK.out Try.underlying137 rfl jT.out) ?_)
    have VA:=aa.mk (mq (xs:=[1,1,1,0]) (m:=4) (w:=w8) Te.out rfl (by decide) (by decide));obtain ⟨⟨b,be⟩,hb0,H⟩:=bV H;obtain rfl:=cS H;have yA:=aa.mk (show Kd.C (Kd.int .u8) w8 (some ⟨gd,0,none⟩) l.length l by rw [Pa.out];exact mq cE.out rfl Du.out (by decide));refine (aD.calls k fr tp (n % 4294967296) 0 (Go.bits .and .u8 fl 23) 9 s 0 (some ⟨go,0,none⟩) 4 [1,1,1,0] (some ⟨gd,0,none⟩) 16 l b be _ VA.out (by decide) yA.out Sb.out hb0).mono ?_;rintro e w9 ⟨v_,rfl,ho,hb⟩;have Lo:=aa.mk (Kd.bP ho (af HB.out));clear ho hb0 yA;have ah:=hb;replace HB:=mB HB ah;clear ah;clear hb
    (try dsimp only)
    go_wp2
    (try simp only [Exit.inBlock,Exit.then])
    go_ret
    exact ⟨_,rfl,Lo.out,HB.out⟩
  ·have c61:(pr==6)=false:=fc c6
   have c62:(pr !=6)=true:=bne_iff_ne.2 c6;rw [ax c6] at H
   clear c6
   (try dsimp only)
   go_upto_region 17 with ((first|(refine mQ rfl rfl (tS rfl rfl rfl ja.out rfl (by simp [Value.oneCell'])) ?_)))
   obtain ⟨gm,VB⟩:∃ x_,x_=w1.heap.size:=⟨_,rfl⟩
   have kN:aa ((w1.alloc (.cells #[.int .u8 8,.int .u8 0,.int .u16 0,.int .u32 (Go.bits .or .u32 (fr % 4294967296*65536 % 4294967296) (n % 4294967296)),.slice (some ⟨gd,0,none⟩) l.length 16] 101)).heap[gm]?=some (.cells #[.int .u8 8,.int .u8 0,.int .u16 0,.int .u32 (Go.bits .or .u32 (fr % 4294967296*65536 % 4294967296) (n % 4294967296)),.slice (some ⟨gd,0,none⟩) l.length 16] 101 (0,0))):=⟨by rw [VB];exact iX _ _⟩
   have Jf:=aa.mk (show w.heap.size<=gm by rw [VB];exact af HB.out);rw [<- VB];clear VB;have ah:=dX (Below.refl w1.heap.size w1) (.cells #[.int .u8 8,.int .u8 0,.int .u16 0,.int .u32 (Go.bits .or .u32 (fr % 4294967296*65536 % 4294967296) (n % 4294967296)),.slice (some ⟨gd,0,none⟩) l.length 16] 101);replace HB:=mB HB ah;replace cE:=mX cE ah;clear ah;generalize (w1.alloc (.cells #[.int .u8 8,.int .u8 0,.int .u16 0,.int .u32 (Go.bits .or .u32 (fr % 4294967296*65536 % 4294967296) (n % 4294967296)),.slice (some ⟨gd,0,none⟩) l.length 16] 101))=w2 at kN HB cE|-
   by_cases ci:Go.bits .and .u8 fl 1=0
   ·have ci1:(Go.bits .and .u8 fl 1==0)=true:=fH ci
    have ci2:(Go.bits .and .u8 fl 1 !=0)=false:=by rw [bne,ci1];rfl
    rw [au ci] at H
    clear ci
    (try dsimp only)
    go_wp2_with (refine Kd.bL rfl (br rfl rfl kN.out Try.underlying101 rfl ja.out) ?_)
    obtain ⟨s,hs0,H⟩:=bV H;have yA:=aa.mk (show Kd.C (Kd.int .u8) w2 (some ⟨gd,0,none⟩) l.length l by rw [Pa.out];exact mq cE.out rfl Du.out (by decide));refine (eW.calls k 8 0 0 (Go.bits .or .u32 (fr % 4294967296*65536 % 4294967296) (n % 4294967296)) (some ⟨gd,0,none⟩) 16 l s _ yA.out Sb.out hs0).mono ?_;rintro e w7 ⟨rfl,hb⟩;clear hs0 yA;have ah:=hb;replace HB:=mB HB ah;replace cE:=mX cE ah;replace kN:=mX kN ah;clear ah;clear hb
    (try dsimp only)
    go_upto_region 20 with (((refine gQ rfl rfl (i:=2) (v:= .int .u16 s) (cs':= #[.int .u8 8,.int .u8 0,.int .u16 s,.int .u32 (Go.bits .or .u32 (fr % 4294967296*65536 % 4294967296) (n % 4294967296)),.slice (some ⟨gd,0,none⟩) l.length 16]) kN.out rfl ?fq ?_);(case fq=>(have m_:=(aE kN.out 2).trans (rfl:_=some (.int .u16 0:Value)));(have nY:=ae kN.out 2);first|(go_simp;done)|(go_simp;rfl));intro w8 hs_ ag;have gX:=aa.mk (kS.below ag HB.out Jf.out);have pH:=aa.mk (kS.blk ag cE.out kN.out (by decide));clear HB cE kN ag;have kN:=aa.mk hs_;clear hs_;have HB:=gX;have cE:=pH;clear gX pH))
    go_wp2_with (refine Kd.bL rfl (br rfl rfl kN.out Try.underlying101 rfl ja.out) ?_)
    obtain ⟨⟨b,be⟩,hb0,H⟩:=bV H;obtain rfl:=cS H;have yA:=aa.mk (show Kd.C (Kd.int .u8) w8 (some ⟨gd,0,none⟩) l.length l by rw [Pa.out];exact mq cE.out rfl Du.out (by decide));refine (bG.calls 8 0 s (Go.bits .or .u32 (fr % 4294967296*65536 % 4294967296) (n % 4294967296)) (some ⟨gd,0,none⟩) 16 l b be _ yA.out Sb.out hb0).mono ?_;rintro e w9 ⟨v_,rfl,ho,hb⟩;have Lo:=aa.mk (Kd.bP ho (af HB.out));clear ho hb0 yA;have ah:=hb;replace HB:=mB HB ah;clear ah;clear hb
    (try dsimp only)
    go_wp2
    (try simp only [Exit.inBlock,Exit.then])
    go_ret
    exact ⟨_,rfl,Lo.out,HB.out⟩
   ·have ci1:(Go.bits .and .u8 fl 1==0)=false:=fc ci
    have ci2:(Go.bits .and .u8 fl 1 !=0)=true:=bne_iff_ne.2 ci;rw [ax ci] at H
    clear ci
    (try dsimp only)
    go_upto_region 19 with (((refine gQ rfl rfl (i:=0) (v:= .int .u8 0) (cs':= #[.int .u8 0,.int .u8 0,.int .u16 0,.int .u32 (Go.bits .or .u32 (fr % 4294967296*65536 % 4294967296) (n % 4294967296)),.slice (some ⟨gd,0,none⟩) l.length 16]) kN.out rfl ?fq ?_);(case fq=>(have m_:=(aE kN.out 0).trans (rfl:_=some (.int .u8 8:Value)));(have nY:=ae kN.out 0);first|(go_simp;done)|(go_simp;rfl));intro w6 hs_ ag;have gX:=aa.mk (kS.below ag HB.out Jf.out);have pH:=aa.mk (kS.blk ag cE.out kN.out (by decide));clear HB cE kN ag;have kN:=aa.mk hs_;clear hs_;have HB:=gX;have cE:=pH;clear gX pH))
    go_wp2_with (refine Kd.bL rfl (br rfl rfl kN.out Try.underlying101 rfl ja.out) ?_)
    obtain ⟨s,hs0,H⟩:=bV H;have yA:=aa.mk (show Kd.C (Kd.int .u8) w6 (some ⟨gd,0,none⟩) l.length l by rw [Pa.out];exact mq cE.out rfl Du.out (by decide));refine (eW.calls k 0 0 0 (Go.bits .or .u32 (fr % 4294967296*65536 % 4294967296) (n % 4294967296)) (some ⟨gd,0,none⟩) 16 l s _ yA.out Sb.out hs0).mono ?_;rintro e w7 ⟨rfl,hb⟩;clear hs0 yA;have ah:=hb;replace HB:=mB HB ah;replace cE:=mX cE ah;replace kN:=mX kN ah;clear ah;clear hb
    (try dsimp only)
    go_upto_region 20 with (((refine gQ rfl rfl (i:=2) (v:= .int .u16 s) (cs':= #[.int .u8 0,.int .u8 0,.int .u16 s,.int .u32 (Go.bits .or .u32 (fr % 4294967296*65536 % 4294967296) (n % 4294967296)),.slice (some ⟨gd,0,none⟩) l.length 16]) kN.out rfl ?fq ?_);(case fq=>(have m_:=(aE kN.out 2).trans (rfl:_=some (.int .u16 0:Value)));(have nY:=ae kN.out 2);first|(go_simp;done)|(go_simp;rfl));intro w8 hs_ ag;have gX:=aa.mk (kS.below ag HB.out Jf.out);have pH:=aa.mk (kS.blk ag cE.out kN.out (by decide));clear HB cE kN ag;have kN:=aa.mk hs_;clear hs_;have HB:=gX;have cE:=pH;clear gX pH))
    go_wp2_with (refine Kd.bL rfl (br rfl rfl kN.out Try.underlying101 rfl ja.out) ?_)
    obtain ⟨⟨b,be⟩,hb0,H⟩:=bV H;obtain rfl:=cS H;have yA:=aa.mk (show Kd.C (Kd.int .u8) w8 (some ⟨gd,0,none⟩) l.length l by rw [Pa.out];exact mq cE.out rfl Du.out (by decide));refine (bG.calls 0 0 s (Go.bits .or .u32 (fr % 4294967296*65536 % 4294967296) (n % 4294967296)) (some ⟨gd,0,none⟩) 16 l b be _ yA.out Sb.out hb0).mono ?_;rintro e w9 ⟨v_,rfl,ho,hb⟩;have Lo:=aa.mk (Kd.bP ho (af HB.out));clear ho hb0 yA;have ah:=hb;replace HB:=mB HB ah;clear ah;clear hb
    (try dsimp only)
    go_wp2
    (try simp only [Exit.inBlock,Exit.then])
    go_ret
    exact ⟨_,rfl,Lo.out,HB.out⟩
attribute [local go_sem] dF dG eG eH cQ cR dH dI
def aI.j0:Nat ->Bool ->Int ->Int ->Int ->Int ->Int ->Int ->Int ->Int ->List Int ->List Int ->Option (List Int×Int)
 |0,_,_,_,_,_,_,_,_,_,_,_=>none
 |k+1,Gi,VC,VD,VE,VF,VG,VH,VI,VJ,zU,Cj=>if Gi=true then (some (([]:List Int),21)) else (if (Cj.length:Int)>(wrap64 (65535 - (wrap64 (20+(zU.length:Int))))) then (some (([]:List Int),23)) else ((bq.f (([Go.bits .or .u8 64 ((wrap64 (Int.tdiv (wrap64 (20+(zU.length:Int))) 4)) % 256),VC]:List Int)) (IntKind.u16.wrap (wrap64 ((wrap64 (20+(zU.length:Int)))+(Cj.length:Int))))).bind fun GW=>((bq.f GW VF).bind fun AG=>((bq.f AG (Go.bits .or .u16 (IntKind.u16.wrap ((IntKind.u16.wrap (VG))*8192)) VH)).bind fun yL=>((some (([VD,VE,0,0]:List Int):List Int)).bind fun uF=>(if yL.length+uF.length<140737488355328 then ((dK.f (yL++uF) VI).bind fun Dv=>((dK.f Dv VJ).bind fun AH=>(if AH.length+zU.length<140737488355328 then ((some (AH++zU:List Int)).bind fun mh=>((iK.f k mh).bind fun um=>(if 10<(mh.length:Int) then (if 11<(mh.length:Int) then ((some ((mh.set (10:Int).toNat ((um / 256) % 256)).set (11:Int).toNat ((um) % 256):List Int)).bind fun uo=>(if uo.length+Cj.length<140737488355328 then (some ((uo++Cj),0)) else (none))) else (none)) else (none)))) else (none)))) else (none)))))))
def aI.f (k:Nat) (aV:Int) (bh:Int) (bp:Int) (bw:Int) (dQ:Int) (dU:Int) (dZ:Int) (ee:Int) (bN:List Int) (cJ:List Int):Option (List Int×Int):=if ((bN.length:Int) % 4)=0 then (if (bN.length:Int)>40 then (aI.j0 k true aV bh bp bw dQ dU dZ ee bN cJ) else (if dQ>7 then (aI.j0 k true aV bh bp bw dQ dU dZ ee bN cJ) else (aI.j0 k (decide (dU>8191)) aV bh bp bw dQ dU dZ ee bN cJ))) else (aI.j0 k true aV bh bp bw dQ dU dZ ee bN cJ)
def aI.T7:Bool×List (List Nat×List Nat):=(true,[([],[]),([],[]),([],[]),([2],[2]),([3],[3]),([1,4],[1,4]),([5],[5]),([0,6],[0,6]),([],[]),([8],[8]),([7,9,7],[7,9]),([10,10,0,1,2,3,4,5,6,7,8,9,10],[0,10])])
def aI.B7:List Nat:=[0,0,0,4,12,30,62,127,0,256,1023,2047]
theorem aI.Qe:gS .any (opsOf Try.f41 7)=aI.T7:=by kernel_rfl
theorem aI.Iu:dN aI.T7.2 aI.B7=true:=by kernel_rfl
def aI.T8:Bool×List (List Nat×List Nat):=(true,[([],[]),([],[]),([1],[1]),([2],[2]),([3],[3]),([],[]),([5],[5]),([4,6],[4,6]),([0,7],[0,7]),([],[]),([9],[9]),([],[]),([11],[11]),([10,12],[10,12]),([8,13,8],[8,13]),([14,14,0,1,2,3,4,5,6,7,8,9,10,11,12,13,14],[0,14])])
def aI.B8:List Nat:=[0,0,2,6,14,0,32,126,255,0,512,0,2048,7680,16383,32767]
theorem aI.Ek:gS .any (opsOf Try.f41 8)=aI.T8:=by kernel_rfl
theorem aI.yq:dN aI.T8.2 aI.B8=true:=by kernel_rfl
def aI.T9:Bool×List (List Nat×List Nat):=(true,[([],[]),([],[]),([1],[1]),([0,2],[0,2]),([],[]),([4],[4]),([3,5,3],[3,5]),([],[]),([7],[7]),([6,8,6],[6,8]),([9,9,0,1,2,3,4,5,6,7,8,9],[0,9])])
def aI.B9:List Nat:=[0,0,2,7,0,16,63,0,128,511,1023]
theorem aI.Abi:gS .any (opsOf Try.f41 9)=aI.T9:=by kernel_rfl
theorem aI.RX:dN aI.T9.2 aI.B9=true:=by kernel_rfl
theorem aI.calls (k:Nat) (aV:Int) (bh:Int) (bp:Int) (bw:Int) (dQ:Int) (dU:Int) (dZ:Int) (ee:Int) (jw:Option Addr) (jx:Nat) (bN:List Int) (jy:Option Addr) (jz:Nat) (cJ:List Int) (r1:List Int) (r2:Int) (w:World) (tF:Kd.C (Kd.int .u8) w jw bN.length bN) (tG:bN.length<=jx) (tH:Kd.C (Kd.int .u8) w jy cJ.length cJ) (tI:cJ.length<=jz) (h:aI.f k aV bh bp bw dQ dU dZ ee bN cJ=some (r1,r2)):
  Calls Try.prog 41 #[.agg #[.int .u8 aV,.int .u8 bh,.int .u8 bp,.int .u16 bw,.int .u8 dQ,.int .u16 dU,.int .u32 dZ,.int .u32 ee,.slice jw bN.length jx,.slice jy cJ.length jz]] w fun e w'=>∃ o6:Value,e= .returned (.tuple #[o6,.int .i64 r2]) /\ Kd.R (Kd.int .u8) 5 w' w.heap.size (fun _=>True) o6 r1 /\ Below w.heap.size w w':=by
 have jb:=Try.underlying73;have Bi:=aa.mk tF;have IY:=aa.mk tG;clear tF tG;have Bj:=aa.mk tH;have IZ:=aa.mk tI;clear tH tI;have HB:=gj w;have H:(if ((bN.length:Int) % 4)=0 then (if (bN.length:Int)>40 then (aI.j0 k true aV bh bp bw dQ dU dZ ee bN cJ) else (if dQ>7 then (aI.j0 k true aV bh bp bw dQ dU dZ ee bN cJ) else (aI.j0 k (decide (dU>8191)) aV bh bp bw dQ dU dZ ee bN cJ))) else (aI.j0 k true aV bh bp bw dQ dU dZ ee bN cJ))=some (r1,r2):=h;clear h;have K9:=aa.mk H;clear H
 go_enter Try.func41,Try.ntmps41
 go_upto_region 1 with (first|((with_reducible refine aA (N:=1) rfl ?_);(try (refine eN (by rfl) ?_;dsimp only));refine aC ?hg (N:=1) ?hd (cs:= #[.int .u8 aV,.int .u8 bh,.int .u8 bp,.int .u16 bw,.int .u8 dQ,.int .u16 dU,.int .u32 dZ,.int .u32 ee,.slice jw bN.length jx,.slice jy cJ.length jz]) (t:=73) ?hr ?_;(case hd=>rfl);(case hg=>rfl);(case hr=>first|(go_simp;done)|(go_simp;rfl));intro fJ hg w3 bK hb;have aJ:=aa.mk (aq (bz HB) hb);have aQ:=aa.mk (bK);have bt:=aa.mk ((by rw [hg];exact (af (bz HB)):w.heap.size<=fJ));have cr:=aa.mk ((by rw [hg];exact (af (bz HB)):w.heap.size<=fJ));clear HB;have HB:=aJ;have aW:=aQ;have Aq5:=bt;have Aq6:=cr;clear aJ aQ bt cr;clear hb bK hg))
 (try simp only [Act.put,List.setIfInBounds_toArray,List.set_cons_zero,List.set_cons_succ])
 go_cut [27] (fun v27 wc=>∃ (kq:Nat) (Nf:Bool),v27= .bool Nf /\ aa (aI.j0 kq Nf aV bh bp bw dQ dU dZ ee bN cJ=some (r1,r2)) /\ aa (kq<=k) /\ aa (wc.heap[fJ]?=some (.cells #[.int .u8 aV,.int .u8 bh,.int .u8 bp,.int .u16 bw,.int .u8 dQ,.int .u16 dU,.int .u32 dZ,.int .u32 ee,(.slice jw bN.length jx),(.slice jy cJ.length jz)] 73 (0,0))) /\ aa (Below w.heap.size w wc))
 case first=>
  have H:=K9.out;clear K9
  by_cases c4:((bN.length:Int) % 4)=0
  ·rw [au c4] at H
   have mH:(((bN.length:Int) % 4)==0)=true:=fH c4;have xQ:(((bN.length:Int) % 4) !=0)=false:=kO c4;clear c4
   (first|rw [mH]|(simp only [jk,mo];rw [mH])|skip)
   by_cases c5:(bN.length:Int)>40
   ·rw [au c5] at H
    have mS:decide (40<(bN.length:Int))=true:=bS c5;have qz:decide (40<bN.length)=true:=bS (by omega);clear c5;have H':=aa.mk H;clear H;have MC:=rC aW.out;have MD:=ae aW.out
    go_wp2
    go_meet
    case rel=>exact ⟨_,(true),(by first|rfl|(simp;done)|(simp [*];done)),H',⟨by first|omega|exact Nat.le_refl _⟩,⟨kz aW⟩,⟨bz HB⟩⟩
   ·rw [ax c5] at H
    have mS:decide (40<(bN.length:Int))=false:=gO c5;have qz:decide (40<bN.length)=false:=gO (by omega);clear c5
    by_cases c7:dQ>7
    ·rw [au c7] at H
     have Ah:decide (7<dQ)=true:=bS c7;clear c7;have H':=aa.mk H;clear H;have Ajf:=rC aW.out;have Ajg:=ae aW.out
     go_wp2
     go_meet
     case rel=>exact ⟨_,(true),(by first|rfl|(simp;done)|(simp [*];done)),H',⟨by first|omega|exact Nat.le_refl _⟩,⟨kz aW⟩,⟨bz HB⟩⟩
    ·rw [ax c7] at H
     have Ah:decide (7<dQ)=false:=gO c7;clear c7;have H':=aa.mk H;clear H;have MR:=rC aW.out;have MS:=ae aW.out
     go_wp2
     go_meet
     case rel=>exact ⟨_,(decide (dU>8191)),(by first|rfl|(simp;done)|(simp [*];done)),H',⟨by first|omega|exact Nat.le_refl _⟩,⟨kz aW⟩,⟨bz HB⟩⟩
  ·rw [ax c4] at H
   have mH:(((bN.length:Int) % 4)==0)=false:=fc c4;have xQ:(((bN.length:Int) % 4) !=0)=true:=lA c4
   (first|rw [mH]|(simp only [jk,mo];rw [mH])|skip)
   have H':=aa.mk H;clear H;have Rm:=rC aW.out;have Rn:=ae aW.out
   go_wp2
   go_meet
   case rel=>exact ⟨_,(true),(by first|rfl|(simp;done)|(simp [*];done)),H',⟨by first|omega|exact Nat.le_refl _⟩,⟨kz aW⟩,⟨bz HB⟩⟩
 case rest=>
  clear K9;obtain ⟨kq,Nf,rfl,HA,HJ1,aW,HB⟩:=hcut
  cases kq with
  |zero=>exact absurd HA.out (by simp [aI.j0])
  |succ NY=>
   have H:=HA.out;clear HA;simp only [aI.j0] at H
   by_cases ru:Nf=true
   ·subst ru
    have H1:(some (([]:List Int),21))=some (r1,r2):=by rw [au rfl] at H;exact H
    clear H;have H:=H1;clear H1;simp only [Option.some.injEq,Prod.mk.injEq] at H
    obtain ⟨rfl,rfl⟩:=H
    go_wp2
    go_ret2
    exact ⟨_,by first|rfl|(simp [aj,ak]<;>rfl)|(simp [*,aj,ak]<;>rfl),by first|exact Kd.cl _ _ _ _ _|exact Kd.ju _ _ _ _ _|exact Kd.jv _ _ _ _ _|exact Kd.jr _ _ _ _ _|exact Kd.js _ _ _ _ _,bz HB⟩
   ·replace ru:=xP ru
    subst ru
    have H1:(if (cJ.length:Int)>(wrap64 (65535 - (wrap64 (20+(bN.length:Int))))) then (some (([]:List Int),23)) else ((bq.f (([Go.bits .or .u8 64 ((wrap64 (Int.tdiv (wrap64 (20+(bN.length:Int))) 4)) % 256),aV]:List Int)) (IntKind.u16.wrap (wrap64 ((wrap64 (20+(bN.length:Int)))+(cJ.length:Int))))).bind fun GW=>((bq.f GW bw).bind fun AG=>((bq.f AG (Go.bits .or .u16 (IntKind.u16.wrap ((IntKind.u16.wrap (dQ))*8192)) dU)).bind fun yL=>((some (([bh,bp,0,0]:List Int):List Int)).bind fun uF=>(if yL.length+uF.length<140737488355328 then ((dK.f (yL++uF) dZ).bind fun Dv=>((dK.f Dv ee).bind fun AH=>(if AH.length+bN.length<140737488355328 then ((some (AH++bN:List Int)).bind fun mh=>((iK.f NY mh).bind fun um=>(if 10<(mh.length:Int) then (if 11<(mh.length:Int) then ((some ((mh.set (10:Int).toNat ((um / 256) % 256)).set (11:Int).toNat ((um) % 256):List Int)).bind fun uo=>(if uo.length+cJ.length<140737488355328 then (some ((uo++cJ),0)) else (none))) else (none)) else (none)))) else (none)))) else (none)))))))=some (r1,r2):=by rw [ax (show ¬ (false=true) by decide)] at H;exact H
    clear H;have H:=H1;clear H1
    by_cases uO:(cJ.length:Int)>(wrap64 (65535 - (wrap64 (20+(bN.length:Int)))))
    ·rw [au uO] at H
     have EK:decide ((wrap64 (65535 - (wrap64 (20+(bN.length:Int)))))<(cJ.length:Int))=true:=bS uO;clear uO;simp only [Option.some.injEq,Prod.mk.injEq] at H
     obtain ⟨rfl,rfl⟩:=H;have Sc:=rC aW.out;have Sd:=ae aW.out
     go_wp2
     go_ret2
     exact ⟨_,by first|rfl|(simp [aj,ak]<;>rfl)|(simp [*,aj,ak]<;>rfl),by first|exact Kd.cl _ _ _ _ _|exact Kd.ju _ _ _ _ _|exact Kd.jv _ _ _ _ _|exact Kd.jr _ _ _ _ _|exact Kd.js _ _ _ _ _,bz HB⟩
    ·rw [ax uO] at H
     have EK:decide ((wrap64 (65535 - (wrap64 (20+(bN.length:Int)))))<(cJ.length:Int))=false:=gO uO;clear uO;obtain ⟨VK,Se⟩:∃ y_:List Int,y_=(([Go.bits .or .u8 64 ((wrap64 (Int.tdiv (wrap64 (20+(bN.length:Int))) 4)) % 256),aV]:List Int)):=⟨_,rfl⟩
     rw [<- Se] at H
     have XI:=aa.mk Se;clear Se;replace H:=cZ H;obtain ⟨GW,CC,H⟩:=H
     (try dsimp -simprocs only at H)
     have Y5:=aa.mk CC;clear CC;replace H:=cZ H;obtain ⟨AG,Dp,H⟩:=H
     (try dsimp -simprocs only at H)
     have A15:=aa.mk Dp;clear Dp;replace H:=cZ H;obtain ⟨yL,wR,H⟩:=H
     (try dsimp -simprocs only at H)
     have O6:=aa.mk wR;clear wR;obtain ⟨uF,JH⟩:∃ y_:List Int,y_=(([bh,bp,0,0]:List Int)):=⟨_,rfl⟩
     replace H:(if yL.length+uF.length<140737488355328 then ((dK.f (yL++uF) dZ).bind fun Dv=>((dK.f Dv ee).bind fun AH=>(if AH.length+bN.length<140737488355328 then ((some (AH++bN:List Int)).bind fun mh=>((iK.f NY mh).bind fun um=>(if 10<(mh.length:Int) then (if 11<(mh.length:Int) then ((some ((mh.set (10:Int).toNat ((um / 256) % 256)).set (11:Int).toNat ((um) % 256):List Int)).bind fun uo=>(if uo.length+cJ.length<140737488355328 then (some ((uo++cJ),0)) else (none))) else (none)) else (none)))) else (none)))) else (none))=some (r1,r2):=by first|(rw [JH];with_reducible exact H)|(have kP:=(bA _ _).symm.trans H;rw [JH];with_reducible exact kP)|(have kP:=(bA _ _).symm.trans H;with_reducible exact kP)|with_reducible exact H|(rw [JH];exact H)|exact H
     have Ng:=aa.mk JH;clear JH
     by_cases rL:yL.length+uF.length<140737488355328
     ·rw [au rL] at H
      have AgB:=aa.mk rL;clear rL;obtain ⟨VL,Sf⟩:∃ y_:List Int,y_=(yL++uF):=⟨_,rfl⟩
      rw [<- Sf] at H
      have AgC:=aa.mk Sf;clear Sf;replace H:=cZ H;obtain ⟨Dv,wS,H⟩:=H
      (try dsimp -simprocs only at H)
      have NJ:=aa.mk wS;clear wS;replace H:=cZ H;obtain ⟨AH,CI,H⟩:=H
      (try dsimp -simprocs only at H)
      have ZG:=aa.mk CI;clear CI
      by_cases Lb:AH.length+bN.length<140737488355328
      ·rw [au Lb] at H
       have QD:=aa.mk Lb;clear Lb;obtain ⟨mh,JI⟩:∃ y_:List Int,y_=(AH++bN):=⟨_,rfl⟩
       replace H:((iK.f NY mh).bind fun um=>(if 10<(mh.length:Int) then (if 11<(mh.length:Int) then ((some ((mh.set (10:Int).toNat ((um / 256) % 256)).set (11:Int).toNat ((um) % 256):List Int)).bind fun uo=>(if uo.length+cJ.length<140737488355328 then (some ((uo++cJ),0)) else (none))) else (none)) else (none)))=some (r1,r2):=by first|(rw [JI];with_reducible exact H)|(have kP:=(bA _ _).symm.trans H;rw [JI];with_reducible exact kP)|(have kP:=(bA _ _).symm.trans H;with_reducible exact kP)|with_reducible exact H|(rw [JI];exact H)|exact H
       have AgD:=aa.mk JI;clear JI;replace H:=cZ H;obtain ⟨um,JJ,H⟩:=H;replace H:(if 10<(mh.length:Int) then (if 11<(mh.length:Int) then ((some ((mh.set (10:Int).toNat ((um / 256) % 256)).set (11:Int).toNat ((um) % 256):List Int)).bind fun uo=>(if uo.length+cJ.length<140737488355328 then (some ((uo++cJ),0)) else (none))) else (none)) else (none))=some (r1,r2):=H;have A21:=aa.mk JJ;clear JJ
       by_cases Ic:10<(mh.length:Int)
       ·rw [au Ic] at H
        have PV:decide (10<(mh.length:Int))=true:=bS Ic;have Adi:decide (10<mh.length)=true:=bS (by omega);clear Ic;obtain ⟨AgE,Sg⟩:∃ y_:List Int,y_=(mh.set (10:Int).toNat ((um / 256) % 256)):=⟨_,rfl⟩
        rw [<- Sg] at H
        have AgF:=aa.mk Sg;clear Sg
        by_cases Mw:11<(mh.length:Int)
        ·rw [au Mw] at H
         have Wy:decide (11<(mh.length:Int))=true:=bS Mw;have AdX:decide (11<mh.length)=true:=bS (by omega);clear Mw;obtain ⟨uo,JK⟩:∃ y_:List Int,y_=(AgE.set (11:Int).toNat ((um) % 256)):=⟨_,rfl⟩
         replace H:(if uo.length+cJ.length<140737488355328 then (some ((uo++cJ),0)) else (none))=some (r1,r2):=by first|(rw [JK];with_reducible exact H)|(have kP:=(bA _ _).symm.trans H;rw [JK];with_reducible exact kP)|(have kP:=(bA _ _).symm.trans H;with_reducible exact kP)|with_reducible exact H|(rw [JK];exact H)|exact H
         have AgG:=aa.mk JK;clear JK
         by_cases c26:uo.length+cJ.length<140737488355328
         ·rw [au c26] at H
          have AgH:=aa.mk c26;clear c26;obtain ⟨AnH,JL⟩:∃ y_:List Int,y_=(uo++cJ):=⟨_,rfl⟩
          replace H:(some (AnH,0))=some (r1,r2):=by first|(rw [JL];with_reducible exact H)|(have kP:=(bA _ _).symm.trans H;rw [JL];with_reducible exact kP)|(have kP:=(bA _ _).symm.trans H;with_reducible exact kP)|with_reducible exact H|(rw [JL];exact H)|exact H
          have AgI:=aa.mk JL;clear JL;simp only [Option.some.injEq,Prod.mk.injEq] at H
          obtain ⟨rfl,rfl⟩:=H;have QI:=rC aW.out;have QJ:=ae aW.out
          try go_wp2_with (first|((with_reducible refine aA (N:=44) rfl ?_);(try (refine eN (by rfl) ?_;dsimp only));refine Kd.qq (Kd.int .u8) _ 5 ?hg (N:=44) ?hd (xs:=([Go.bits .or .u8 64 ((wrap64 (Int.tdiv (wrap64 (20+(bN.length:Int))) 4)) % 256),aV]:List Int)) (inner:=[.int .u8 (Go.bits .or .u8 64 ((wrap64 (Int.tdiv (wrap64 (20+(bN.length:Int))) 4)) % 256)),.int .u8 aV]) (ok:=fun _=>True) (rq:=fun _=>True) ?hr ?hp (fun _ hk=>hk) trivial (Below.refl _ _) (Nat.le_refl _) (by simp) ?_;(case hd=>rfl);(case hg=>rfl);(case hr=>first|(go_simp;done)|(go_simp;simp only [IntKind.wrap_u8,IntKind.wrap_u16,IntKind.wrap_u32];done)|(go_simp;rfl));(case hp=>exact (cI.one (show Kd.M (Kd.int .u8) _ _ _ (Go.bits .or .u8 64 ((wrap64 (Int.tdiv (wrap64 (20+(bN.length:Int))) 4)) % 256)) [.int .u8 (Go.bits .or .u8 64 ((wrap64 (Int.tdiv (wrap64 (20+(bN.length:Int))) 4)) % 256))] from rfl) (cI.one (show Kd.M (Kd.int .u8) _ _ _ aV [.int .u8 aV] from rfl) (cI.none _ _))));intro Auw w28 zK hb gJ iM;clear gJ iM;(first|rw [<- XI.out] at zK|(simp only [Int.reduceToNat] at zK;rw [<- XI.out] at zK));have aJ:=aa.mk (Kd.bP zK (af (bz HB)));have aQ:=aa.mk (bn (kz aW) hb);have bt:=aa.mk (aq (bz HB) hb);clear aW;clear HB;have Bp:=aJ;have aW:=aQ;have HB:=bt;clear aJ aQ bt;clear hb zK))
          have aJ:=aa.mk (Kd.eY Bp.out);have aQ:=aa.mk (aK aW.out);have bt:=aa.mk (bf HB.out);clear Bp;clear aW;clear HB;have Bp:=aJ;have aW:=aQ;have HB:=bt;clear aJ aQ bt;obtain ⟨yf,yg,Ut⟩:=Kd.da Bp.out
          (first|subst Ut|(injection Ut with mY rD mZ;have rE:=mY.symm;have rF:=mZ.symm;clear mY rD mZ;subst rE;subst rF))
          refine dg (n:=12) (S:=fun w'=>w'.cell? ⟨fJ,0,none⟩=some (.int .u8 aV) /\ w'.cell? ⟨fJ,1,none⟩=some (.int .u8 bh) /\ w'.cell? ⟨fJ,2,none⟩=some (.int .u8 bp) /\ w'.cell? ⟨fJ,3,none⟩=some (.int .u16 bw) /\ w'.cell? ⟨fJ,4,none⟩=some (.int .u8 dQ) /\ w'.cell? ⟨fJ,5,none⟩=some (.int .u16 dU) /\ w'.cell? ⟨fJ,6,none⟩=some (.int .u32 dZ) /\ w'.cell? ⟨fJ,7,none⟩=some (.int .u32 ee) /\ w'.cell? ⟨fJ,8,none⟩=some (.slice jw bN.length jx) /\ w'.cell? ⟨fJ,9,none⟩=some (.slice jy cJ.length jz)) (ds:=[]) #[false,false,false,false,false,false,false,false,false,false,false,false] (by kernel_rfl) rfl rfl ⟨cz aW.out 0 rfl,cz aW.out 1 rfl,cz aW.out 2 rfl,cz aW.out 3 rfl,cz aW.out 4 rfl,cz aW.out 5 rfl,cz aW.out 6 rfl,cz aW.out 7 rfl,cz aW.out 8 rfl,cz aW.out 9 rfl⟩ (fun hHeld=> ?_);refine bH aI.Qe aI.Iu (fun az dW=> ?_)
          generalize w28.drew=NZ at Bp aW HB hHeld|-
          refine pz 0 45 az ?_;refine pz 1 46 az ?_;refine pz 2 47 az ?_;refine pz 8 53 az ?_;refine gK (i:=3) (N:=some 48) (v:= ?_) (a':= ?_) #[true,true,true,true,false,false,false,false,true,false,false,false] rfl rfl (dn az.out dW.out (by kernel_rfl)) (fun _ _ _ h=>h) (Or.inl ⟨by rfl, ?_⟩) hHeld ?_ ?_
          rotate_left
          ·rintro w' ⟨s0,s1,s2,s3,s4,s5,s6,s7,s8,s9⟩
           go_simp
           with_reducible rfl
          rotate_left
          ·simp only [pL]
           rfl
          refine pz 4 49 az ?_;refine pz 5 50 az ?_;refine pz 6 51 az ?_;refine gK (i:=9) (N:=some 54) (v:= ?_) (a':= ?_) #[true,true,true,true,true,true,true,false,true,true,false,false] rfl rfl (dn az.out dW.out (by kernel_rfl)) (fun _ _ _ h=>h) (Or.inl ⟨by rfl, ?_⟩) hHeld ?_ ?_
          rotate_left
          ·rintro w' ⟨s0,s1,s2,s3,s4,s5,s6,s7,s8,s9⟩
           go_simp
           with_reducible rfl
          rotate_left
          ·simp only [pL]
           rfl
          refine oz 7 (some 52) az (fun K hK=> ?_);refine gG Try.func83 #[.slice yf VK.length yg,.int .u16 (IntKind.u16.wrap (wrap64 ((wrap64 (20+(bN.length:Int)))+(cJ.length:Int))))] ?_
          with_reducible refine (bq.calls (fun k_=>some k_=(.slice yf VK.length yg:Value).ownBlock) (.slice yf VK.length yg) VK (IntKind.u16.wrap (wrap64 ((wrap64 (20+(bN.length:Int)))+(cJ.length:Int)))) GW w _ ?aG ?aH Y5.out).mono ?_
          (case aG=>exact bz HB)
          (case aH=>exact Kd.kR rfl Bp.out)
          rintro e w32 ⟨Aux,rfl,gE,hb,hkp⟩;refine ⟨_,rfl, ?_⟩;have aJ:=aa.mk (jf (kz aW) hkp (fun hs_=>(fun e_=>(Kd.nw Bp.out aW.out (by decide)) e_) hs_));have aQ:=aa.mk (Kd.dm (ok':=fun k_=>True) gE (fun k_ ql=>trivial));have bt:=aa.mk (hb);clear aW;clear HB;clear Bp;have aW:=aJ;have Nh:=aQ;have HB:=bt;clear aJ aQ bt
          (try clear hb)
          (try clear hkp)
          (try clear gE)
          obtain ⟨AA,zL,Eo⟩:=Kd.da Nh.out
          (first|subst Eo|(injection Eo with mY rD mZ;have rE:=mY.symm;have rF:=mZ.symm;clear mY rD mZ;subst rE;subst rF))
          refine hK.out _ _ ⟨cz aW.out 0 rfl,cz aW.out 1 rfl,cz aW.out 2 rfl,cz aW.out 3 rfl,cz aW.out 4 rfl,cz aW.out 5 rfl,cz aW.out 6 rfl,cz aW.out 7 rfl,cz aW.out 8 rfl,cz aW.out 9 rfl⟩ (fun hHeld=> ?_);clear hK K;refine nz 52 ?_;refine oz 10 (some 55) az (fun K hK=> ?_);refine gG Try.func83 #[.slice AA GW.length zL,.int .u16 bw] ?_
          with_reducible refine (bq.calls (fun k_=>some k_=(.slice AA GW.length zL:Value).ownBlock) (.slice AA GW.length zL) GW bw AG w _ ?aG ?aH A15.out).mono ?_
          (case aG=>exact bz HB)
          (case aH=>exact Kd.kR rfl Nh.out)
          rintro e Lc ⟨Auy,rfl,gE,hb,hkp⟩;refine ⟨_,rfl, ?_⟩;have aJ:=aa.mk (jf (kz aW) hkp (fun hs_=>(fun e_=>(Kd.nw Nh.out aW.out (by decide)) e_) hs_));have aQ:=aa.mk (Kd.dm (ok':=fun k_=>True) gE (fun k_ ql=>trivial));have bt:=aa.mk (hb);clear aW;clear HB;clear Nh;have aW:=aJ;have rP:=aQ;have HB:=bt;clear aJ aQ bt
          (try clear hb)
          (try clear hkp)
          (try clear gE)
          refine hK.out _ _ ⟨cz aW.out 0 rfl,cz aW.out 1 rfl,cz aW.out 2 rfl,cz aW.out 3 rfl,cz aW.out 4 rfl,cz aW.out 5 rfl,cz aW.out 6 rfl,cz aW.out 7 rfl,cz aW.out 8 rfl,cz aW.out 9 rfl⟩ (fun hHeld=> ?_);clear hK K;refine nz 55 ?_;refine pz 11 5 az ?_;refine dz az ?_;obtain ⟨Ot,Ou,AnI⟩:=Kd.da rP.out;subst AnI
          try go_wp2
          have aJ:=aa.mk (Kd.eY rP.out);have aQ:=aa.mk (aK aW.out);have bt:=aa.mk (bf HB.out);clear rP;clear aW;clear HB;have rP:=aJ;have aW:=aQ;have HB:=bt;clear aJ aQ bt
          refine dg (n:=16) (S:=fun w'=>w'.cell? ⟨fJ,0,none⟩=some (.int .u8 aV) /\ w'.cell? ⟨fJ,1,none⟩=some (.int .u8 bh) /\ w'.cell? ⟨fJ,2,none⟩=some (.int .u8 bp) /\ w'.cell? ⟨fJ,3,none⟩=some (.int .u16 bw) /\ w'.cell? ⟨fJ,4,none⟩=some (.int .u8 dQ) /\ w'.cell? ⟨fJ,5,none⟩=some (.int .u16 dU) /\ w'.cell? ⟨fJ,6,none⟩=some (.int .u32 dZ) /\ w'.cell? ⟨fJ,7,none⟩=some (.int .u32 ee) /\ w'.cell? ⟨fJ,8,none⟩=some (.slice jw bN.length jx) /\ w'.cell? ⟨fJ,9,none⟩=some (.slice jy cJ.length jz)) (ds:=[]) #[false,false,false,false,false,false,false,false,false,false,false,false,false,false,false,false] (by kernel_rfl) rfl rfl ⟨cz aW.out 0 rfl,cz aW.out 1 rfl,cz aW.out 2 rfl,cz aW.out 3 rfl,cz aW.out 4 rfl,cz aW.out 5 rfl,cz aW.out 6 rfl,cz aW.out 7 rfl,cz aW.out 8 rfl,cz aW.out 9 rfl⟩ (fun hHeld=> ?_);refine bH aI.Ek aI.yq (fun az dW=> ?_)
          generalize Lc.drew=TZ at rP aW HB hHeld|-
          refine pz 0 56 az ?_;refine pz 1 57 az ?_;refine pz 5 61 az ?_;refine pz 9 65 az ?_;refine pz 11 67 az ?_;refine gK (i:=2) (N:=some 58) (v:= ?_) (a':= ?_) #[true,true,true,false,false,true,false,false,false,true,false,true,false,false,false,false] rfl rfl (dn az.out dW.out (by kernel_rfl)) (fun _ _ _ h=>h) (Or.inl ⟨by rfl, ?_⟩) hHeld ?_ ?_
          rotate_left
          ·rintro w' ⟨s0,s1,s2,s3,s4,s5,s6,s7,s8,s9⟩
           go_simp
           with_reducible rfl
          rotate_left
          ·simp only [pL]
           rfl
          refine pz 3 59 az ?_;refine pz 4 60 az ?_;refine gK (i:=6) (N:=some 62) (v:= ?_) (a':= ?_) #[true,true,true,true,true,true,true,false,false,true,false,true,false,false,false,false] rfl rfl (dn az.out dW.out (by kernel_rfl)) (fun _ _ _ h=>h) (Or.inl ⟨by rfl, ?_⟩) hHeld ?_ ?_
          rotate_left
          ·rintro w' ⟨s0,s1,s2,s3,s4,s5,s6,s7,s8,s9⟩
           go_simp
           with_reducible rfl
          rotate_left
          ·simp only [pL]
           rfl
          refine pz 7 63 az ?_;refine gK (i:=10) (N:=some 66) (v:= ?_) (a':= ?_) #[true,true,true,true,true,true,true,true,false,true,true,true,false,false,false,false] rfl rfl (dn az.out dW.out (by kernel_rfl)) (fun _ _ _ h=>h) (Or.inl ⟨by rfl, ?_⟩) hHeld ?_ ?_
          rotate_left
          ·rintro w' ⟨s0,s1,s2,s3,s4,s5,s6,s7,s8,s9⟩
           go_simp
           with_reducible rfl
          rotate_left
          ·simp only [pL]
           rfl
          refine gK (i:=12) (N:=some 68) (v:= ?_) (a':= ?_) #[true,true,true,true,true,true,true,true,false,true,true,true,true,false,false,false] rfl rfl (dn az.out dW.out (by kernel_rfl)) (fun _ _ _ h=>h) (Or.inl ⟨by rfl, ?_⟩) hHeld ?_ ?_
          rotate_left
          ·rintro w' ⟨s0,s1,s2,s3,s4,s5,s6,s7,s8,s9⟩
           go_simp
           with_reducible rfl
          rotate_left
          ·simp only [pL]
           rfl
          refine AcP (σ:=Value×Value) 2 #[true,true,true,true,true,true,true,true,true,true,true,true,true,true,false,false] (fun s_=>[(64,s_.1),(69,s_.2)]) (fun s_ w'=>(w'.cell? ⟨fJ,0,none⟩=some (.int .u8 aV) /\ w'.cell? ⟨fJ,1,none⟩=some (.int .u8 bh) /\ w'.cell? ⟨fJ,2,none⟩=some (.int .u8 bp) /\ w'.cell? ⟨fJ,3,none⟩=some (.int .u16 bw) /\ w'.cell? ⟨fJ,4,none⟩=some (.int .u8 dQ) /\ w'.cell? ⟨fJ,5,none⟩=some (.int .u16 dU) /\ w'.cell? ⟨fJ,6,none⟩=some (.int .u32 dZ) /\ w'.cell? ⟨fJ,7,none⟩=some (.int .u32 ee) /\ w'.cell? ⟨fJ,8,none⟩=some (.slice jw bN.length jx) /\ w'.cell? ⟨fJ,9,none⟩=some (.slice jy cJ.length jz)) /\ (Kd.R (Kd.int .u8) 5 w' w.heap.size (fun k_=>some k_≠(s_.2:Value).ownBlock) s_.1 yL) /\ (Kd.R (Kd.int .u8) 5 w' w.heap.size (fun k_=>some k_≠(s_.1:Value).ownBlock) s_.2 uF) /\ (w'.heap[fJ]?=some (.cells #[.int .u8 aV,.int .u8 bh,.int .u8 bp,.int .u16 bw,.int .u8 dQ,.int .u16 dU,.int .u32 dZ,.int .u32 ee,.slice jw bN.length jx,.slice jy cJ.length jz] 73 (0,0))) /\ (Below w.heap.size w w')) ?_ ?_
          rotate_left
          ·intro XJ
           refine AkH (i:=8) (j:=13) (Ni:=some 64) (Nj:=some 69) #[true,true,true,true,true,true,true,true,true,true,true,true,true,false,false,false] #[true,true,true,true,true,true,true,true,false,true,true,true,true,true,false,false] rfl rfl rfl rfl (YB az.out (by kernel_rfl)) (by decide) (by decide) (fun K hK=> ?_) (fun K hK=> ?_)
           ·skip
            refine gG Try.func83 #[.slice Ot AG.length Ou,.int .u16 (Go.bits .or .u16 (IntKind.u16.wrap ((IntKind.u16.wrap (dQ))*8192)) dU)] ?_
            with_reducible refine (bq.calls (fun k_=>some k_=(.slice Ot AG.length Ou:Value).ownBlock) (.slice Ot AG.length Ou) AG (Go.bits .or .u16 (IntKind.u16.wrap ((IntKind.u16.wrap (dQ))*8192)) dU) yL w _ ?aG ?aH O6.out).mono ?_
            (case aG=>exact bz HB)
            (case aH=>exact Kd.kR rfl rP.out)
            rintro e w37 ⟨JM,rfl,gE,hb,hkp⟩;refine ⟨_,rfl, ?_⟩;have aJ:=aa.mk (jf (kz aW) hkp (fun hs_=>(fun e_=>(Kd.nw rP.out aW.out (by decide)) e_) hs_));have aQ:=aa.mk (Kd.dm (ok':=fun k_=>True) gE (fun k_ ql=>trivial));have bt:=aa.mk (hb);clear aW;clear HB;clear rP;have aW:=aJ;have xm:=aQ;have HB:=bt;clear aJ aQ bt
            (try clear hb)
            (try clear hkp)
            (try clear gE)
            refine hK.out _ _ ⟨cz aW.out 0 rfl,cz aW.out 1 rfl,cz aW.out 2 rfl,cz aW.out 3 rfl,cz aW.out 4 rfl,cz aW.out 5 rfl,cz aW.out 6 rfl,cz aW.out 7 rfl,cz aW.out 8 rfl,cz aW.out 9 rfl⟩ (fun hHeld=> ?_);clear hK K;refine nz 64 ?_;refine oz 13 (some 69) az (fun K hK=> ?_)
            refine Kd.qw (Kd.int .u8) _ 5 ?hg (N:=69) ?hd (xs:=([bh,bp,0,0]:List Int)) (inner:=[.int .u8 bh,.int .u8 bp,.int .u8 0,.int .u8 0]) (ok:=fun _=>True) (rq:=fun _=>True) ?hr ?hp (fun _ hk=>hk) trivial (Below.refl _ _) (Nat.le_refl _) (by simp) ?_;(case hd=>rfl);(case hg=>rfl);(case hr=>first|(go_simp;done)|(go_simp;rfl));(case hp=>exact (cI.one (show Kd.M (Kd.int .u8) _ _ _ bh [.int .u8 bh] from rfl) (cI.one (show Kd.M (Kd.int .u8) _ _ _ bp [.int .u8 bp] from rfl) (cI.one (show Kd.M (Kd.int .u8) _ _ _ 0 [.int .u8 0] from rfl) (cI.one (show Kd.M (Kd.int .u8) _ _ _ 0 [.int .u8 0] from rfl) (cI.none _ _))))));intro LC w38 Ov hb gJ iM;clear gJ iM
            (first|rw [<- Ng.out] at Ov|(simp only [Int.reduceToNat] at Ov;rw [<- Ng.out] at Ov))
            have aJ:=aa.mk (Kd.mU (Kd.rz xm) (Kd.kf Ov) hb);have aQ:=aa.mk (Kd.bP (Kd.ry Ov (Kd.oL (Kd.rz xm))) (af (bz HB)));have bt:=aa.mk (bn (kz aW) hb);have cr:=aa.mk (aq (bz HB) hb);clear xm;clear aW;clear HB;have xm:=aJ;have iB:=aQ;have aW:=bt;have HB:=cr;clear aJ aQ bt cr;clear hb Ov;refine hK.out _ _ ⟨cz aW.out 0 rfl,cz aW.out 1 rfl,cz aW.out 2 rfl,cz aW.out 3 rfl,cz aW.out 4 rfl,cz aW.out 5 rfl,cz aW.out 6 rfl,cz aW.out 7 rfl,cz aW.out 8 rfl,cz aW.out 9 rfl⟩ (fun hHeld=> ?_);clear hK K;refine nz 69 ?_
            exact Mc (by simp only [Ae,Act.put,List.setIfInBounds_toArray,List.set_cons_zero,List.set_cons_succ]) (XJ (JM,LC) _ ⟨hHeld,(by (with_reducible repeat (first|apply Kd.eX|apply Kd.eT|apply Kd.eY));exact Kd.dm xm.out (fun _ hk=>hk.2)),(by (with_reducible repeat (first|apply Kd.eX|apply Kd.eT|apply Kd.eY));exact Kd.dm iB.out (fun _ hk=>hk.2)),(kz aW),(bz HB)⟩)
           ·skip
            refine Kd.qw (Kd.int .u8) _ 5 ?hg (N:=69) ?hd (xs:=([bh,bp,0,0]:List Int)) (inner:=[.int .u8 bh,.int .u8 bp,.int .u8 0,.int .u8 0]) (ok:=fun _=>True) (rq:=fun _=>True) ?hr ?hp (fun _ hk=>hk) trivial (Below.refl _ _) (Nat.le_refl _) (by simp) ?_;(case hd=>rfl);(case hg=>rfl);(case hr=>first|(go_simp;done)|(go_simp;rfl));(case hp=>exact (cI.one (show Kd.M (Kd.int .u8) _ _ _ bh [.int .u8 bh] from rfl) (cI.one (show Kd.M (Kd.int .u8) _ _ _ bp [.int .u8 bp] from rfl) (cI.one (show Kd.M (Kd.int .u8) _ _ _ 0 [.int .u8 0] from rfl) (cI.one (show Kd.M (Kd.int .u8) _ _ _ 0 [.int .u8 0] from rfl) (cI.none _ _))))));intro LC w37 Ow hb gJ iM;clear gJ iM
            (first|rw [<- Ng.out] at Ow|(simp only [Int.reduceToNat] at Ow;rw [<- Ng.out] at Ow))
            have aJ:=aa.mk (Kd.mU (Kd.rz rP) (Kd.kf Ow) hb);have aQ:=aa.mk (Kd.bP (Kd.ry Ow (Kd.oL (Kd.rz rP))) (af (bz HB)));have bt:=aa.mk (bn (kz aW) hb);have cr:=aa.mk (aq (bz HB) hb);clear rP;clear aW;clear HB;have rP:=aJ;have iB:=aQ;have aW:=bt;have HB:=cr;clear aJ aQ bt cr;clear hb Ow;refine hK.out _ _ ⟨cz aW.out 0 rfl,cz aW.out 1 rfl,cz aW.out 2 rfl,cz aW.out 3 rfl,cz aW.out 4 rfl,cz aW.out 5 rfl,cz aW.out 6 rfl,cz aW.out 7 rfl,cz aW.out 8 rfl,cz aW.out 9 rfl⟩ (fun hHeld=> ?_);clear hK K;refine nz 69 ?_;refine oz 8 (some 64) az (fun K hK=> ?_);refine gG Try.func83 #[.slice Ot AG.length Ou,.int .u16 (Go.bits .or .u16 (IntKind.u16.wrap ((IntKind.u16.wrap (dQ))*8192)) dU)] ?_
            with_reducible refine (bq.calls (fun k_=>some k_=(.slice Ot AG.length Ou:Value).ownBlock) (.slice Ot AG.length Ou) AG (Go.bits .or .u16 (IntKind.u16.wrap ((IntKind.u16.wrap (dQ))*8192)) dU) yL w _ ?aG ?aH O6.out).mono ?_
            (case aG=>exact bz HB)
            (case aH=>exact Kd.kR rfl rP.out)
            rintro e w39 ⟨JM,rfl,gE,hb,hkp⟩;refine ⟨_,rfl, ?_⟩;have aJ:=aa.mk (jf (kz aW) hkp (fun hs_=>(fun e_=>(Kd.nw rP.out aW.out (by decide)) e_) hs_));have aQ:=aa.mk (Kd.dm (ok':=fun k_=>some k_≠(JM:Value).ownBlock) (Kd.xC (iB.out) hkp (fun k_ ql hs_=>(ql.2) hs_)) (fun k_ ql=>fun e_=>Or.elim (gE.1 k_ e_.symm) (fun hs_=>ql.2.1 hs_) (fun Dq=>Nat.not_le.2 ql.2.2 Dq)));have bt:=aa.mk (Kd.dm (ok':=fun k_=>some k_≠(LC:Value).ownBlock) gE (fun k_ ql=>Or.elim ql (fun hs_=>fun e_=>(((iB.out).1 k_ e_.symm).2) hs_) (fun Dq=>(Kd.mN (Kd.oL (Kd.rz iB)) k_ Dq))));have cr:=aa.mk (hb);clear aW;clear iB;clear HB;clear rP;have aW:=aJ;have iB:=aQ;have xm:=bt;have HB:=cr;clear aJ aQ bt cr
            (try clear hb)
            (try clear hkp)
            (try clear gE)
            refine hK.out _ _ ⟨cz aW.out 0 rfl,cz aW.out 1 rfl,cz aW.out 2 rfl,cz aW.out 3 rfl,cz aW.out 4 rfl,cz aW.out 5 rfl,cz aW.out 6 rfl,cz aW.out 7 rfl,cz aW.out 8 rfl,cz aW.out 9 rfl⟩ (fun hHeld=> ?_);clear hK K;refine nz 64 ?_;exact Mc (by simp only [Ae,Act.put,List.setIfInBounds_toArray,List.set_cons_zero,List.set_cons_succ]) (XJ (JM,LC) _ ⟨hHeld,(Kd.rz xm),(Kd.rz iB),(kz aW),(bz HB)⟩)
          rintro ⟨JM,LC⟩ CJ ⟨hS_,h0_,h1_,h2_,h3_⟩;have aJ:aa (Kd.R (Kd.int .u8) 5 CJ w.heap.size (fun k_=>some k_≠(LC:Value).ownBlock) JM yL):=⟨h0_⟩
          have aQ:aa (Kd.R (Kd.int .u8) 5 CJ w.heap.size (fun k_=>some k_≠(JM:Value).ownBlock) LC uF):=⟨h1_⟩
          have bt:aa (CJ.heap[fJ]?=some (.cells #[.int .u8 aV,.int .u8 bh,.int .u8 bp,.int .u16 bw,.int .u8 dQ,.int .u16 dU,.int .u32 dZ,.int .u32 ee,.slice jw bN.length jx,.slice jy cJ.length jz] 73 (0,0))):=⟨h2_⟩
          have cr:aa (Below w.heap.size w CJ):=⟨h3_⟩
          clear rP;clear aW;clear HB;clear h0_ h1_ h2_ h3_;have xm:=aJ;have iB:=aQ;have aW:=bt;have HB:=cr;clear aJ aQ bt cr;have hHeld:CJ.cell? ⟨fJ,0,none⟩=some (.int .u8 aV) /\ CJ.cell? ⟨fJ,1,none⟩=some (.int .u8 bh) /\ CJ.cell? ⟨fJ,2,none⟩=some (.int .u8 bp) /\ CJ.cell? ⟨fJ,3,none⟩=some (.int .u16 bw) /\ CJ.cell? ⟨fJ,4,none⟩=some (.int .u8 dQ) /\ CJ.cell? ⟨fJ,5,none⟩=some (.int .u16 dU) /\ CJ.cell? ⟨fJ,6,none⟩=some (.int .u32 dZ) /\ CJ.cell? ⟨fJ,7,none⟩=some (.int .u32 ee) /\ CJ.cell? ⟨fJ,8,none⟩=some (.slice jw bN.length jx) /\ CJ.cell? ⟨fJ,9,none⟩=some (.slice jy cJ.length jz):=hS_;obtain ⟨Bu,Bv,Qt⟩:=Kd.da iB.out
          (first|subst Qt|(injection Qt with mY rD mZ;have rE:=mY.symm;have rF:=mZ.symm;clear mY rD mZ;subst rE;subst rF))
          refine Mc (a':= ?_) ?_ ?_
          rotate_left
          ·simp only [Ae,Act.put,List.setIfInBounds_toArray,List.set_cons_zero,List.set_cons_succ]
           rfl
          refine oz 14 (some 70) az (fun K hK=> ?_);refine Kd.jB (Kd.int .u8) (w0:=w) w.heap.size (by rfl) (.tmp 64) (.tmp 69) 23 5 (.int .u8 0) 1 rfl Try.underlying23 gB rfl (by decide) (by omega) JM yL uF _ _ _ (fun k_=>some k_≠(.slice Bu uF.length Bv:Value).ownBlock) (fun _=>False) rfl rfl ?aO ?aR (fun _ _ h=>h) (fun _ h=>h.elim) ?aF ?aB ?aS ?aL ?_
          (case aR=>repeat (first|exact (Kd.av iB.out).2.2|(with_reducible refine Kd.fD ?_ _)|(with_reducible refine Kd.fj ?_ _)|(with_reducible refine Kd.gP ?_)))
          (case aB=>exact bz HB)
          (case aF=>exact (fun k_ hk=>Kd.mN (Kd.oL (Kd.rz iB)) k_ hk))
          (case aO=>exact (Kd.rz xm))
          (case aS=>exact (af (bz HB)))
          (case aL=>have:=AgB.out;omega)
          intro AuA w41 ho hb hg hat;rw [<- AgC.out] at ho
          have aJ:=aa.mk (gV (kz aW) hg (Kd.nw xm.out aW.out (by decide)));have aQ:=aa.mk (Kd.nV (ok:=(fun _=>True)) (by (with_reducible repeat (first|apply Kd.eX|apply Kd.eT|apply Kd.eY));exact Kd.dm iB.out (fun _ hk=>⟨trivial,hk⟩)) hg hat);have bt:=aa.mk (hb);have cr:=aa.mk (ho);clear aW;clear iB;clear HB;clear xm;have aW:=aJ;have iB:=aQ;have HB:=bt;have Bq:=cr;clear aJ aQ bt cr;clear ho hb hg hat;refine hK.out _ _ ⟨cz aW.out 0 rfl,cz aW.out 1 rfl,cz aW.out 2 rfl,cz aW.out 3 rfl,cz aW.out 4 rfl,cz aW.out 5 rfl,cz aW.out 6 rfl,cz aW.out 7 rfl,cz aW.out 8 rfl,cz aW.out 9 rfl⟩ (fun hHeld=> ?_);clear hK K;refine nz 70 ?_;refine pz 15 5 az ?_;refine dz az ?_
          try go_wp2
          have aJ:=aa.mk (Kd.eY iB.out);have aQ:=aa.mk (Kd.eY Bq.out);have bt:=aa.mk (aK aW.out);have cr:=aa.mk (bf HB.out);clear iB;clear Bq;clear aW;clear HB;have iB:=aJ;have Bq:=aQ;have aW:=bt;have HB:=cr;clear aJ aQ bt cr;obtain ⟨Abt,Abu,AgJ⟩:=Kd.da Bq.out
          (first|subst AgJ|(injection AgJ with mY rD mZ;have rE:=mY.symm;have rF:=mZ.symm;clear mY rD mZ;subst rE;subst rF))
          refine dg (n:=11) (S:=fun w'=>w'.cell? ⟨fJ,0,none⟩=some (.int .u8 aV) /\ w'.cell? ⟨fJ,1,none⟩=some (.int .u8 bh) /\ w'.cell? ⟨fJ,2,none⟩=some (.int .u8 bp) /\ w'.cell? ⟨fJ,3,none⟩=some (.int .u16 bw) /\ w'.cell? ⟨fJ,4,none⟩=some (.int .u8 dQ) /\ w'.cell? ⟨fJ,5,none⟩=some (.int .u16 dU) /\ w'.cell? ⟨fJ,6,none⟩=some (.int .u32 dZ) /\ w'.cell? ⟨fJ,7,none⟩=some (.int .u32 ee) /\ w'.cell? ⟨fJ,8,none⟩=some (.slice jw bN.length jx) /\ w'.cell? ⟨fJ,9,none⟩=some (.slice jy cJ.length jz)) (ds:=[]) #[false,false,false,false,false,false,false,false,false,false,false] (by kernel_rfl) rfl rfl ⟨cz aW.out 0 rfl,cz aW.out 1 rfl,cz aW.out 2 rfl,cz aW.out 3 rfl,cz aW.out 4 rfl,cz aW.out 5 rfl,cz aW.out 6 rfl,cz aW.out 7 rfl,cz aW.out 8 rfl,cz aW.out 9 rfl⟩ (fun hHeld=> ?_);refine bH aI.Abi aI.RX (fun az dW=> ?_)
          generalize w41.drew=w43 at iB Bq aW HB hHeld|-
          refine pz 0 71 az ?_;refine pz 1 72 az ?_;refine pz 4 75 az ?_;refine pz 7 78 az ?_;refine gK (i:=2) (N:=some 73) (v:= ?_) (a':= ?_) #[true,true,true,false,true,false,false,true,false,false,false] rfl rfl (dn az.out dW.out (by kernel_rfl)) (fun _ _ _ h=>h) (Or.inl ⟨by rfl, ?_⟩) hHeld ?_ ?_
          rotate_left
          ·rintro w' ⟨s0,s1,s2,s3,s4,s5,s6,s7,s8,s9⟩
           go_simp
           with_reducible rfl
          rotate_left
          ·simp only [pL]
           rfl
          refine gK (i:=5) (N:=some 76) (v:= ?_) (a':= ?_) #[true,true,true,false,true,true,false,true,false,false,false] rfl rfl (dn az.out dW.out (by kernel_rfl)) (fun _ _ _ h=>h) (Or.inl ⟨by rfl, ?_⟩) hHeld ?_ ?_
          rotate_left
          ·rintro w' ⟨s0,s1,s2,s3,s4,s5,s6,s7,s8,s9⟩
           go_simp
           with_reducible rfl
          rotate_left
          ·simp only [pL]
           rfl
          refine gK (i:=8) (N:=some 79) (v:= ?_) (a':= ?_) #[true,true,true,false,true,true,false,true,true,false,false] rfl rfl (dn az.out dW.out (by kernel_rfl)) (fun _ _ _ h=>h) (Or.inl ⟨by rfl, ?_⟩) hHeld ?_ ?_
          rotate_left
          ·rintro w' ⟨s0,s1,s2,s3,s4,s5,s6,s7,s8,s9⟩
           go_simp
           with_reducible rfl
          rotate_left
          ·simp only [pL]
           rfl
          refine oz 3 (some 74) az (fun K hK=> ?_);refine gG Try.func84 #[.slice Abt VL.length Abu,.int .u32 dZ] ?_
          with_reducible refine (dK.calls (fun k_=>some k_=(.slice Abt VL.length Abu:Value).ownBlock) (.slice Abt VL.length Abu) VL dZ Dv w _ ?aG ?aH NJ.out).mono ?_
          (case aG=>exact bz HB)
          (case aH=>exact Kd.kR rfl Bq.out)
          rintro e w45 ⟨AnJ,rfl,gE,hb,hkp⟩;refine ⟨_,rfl, ?_⟩;have aJ:=aa.mk (jf (kz aW) hkp (fun hs_=>(fun e_=>(Kd.nw Bq.out aW.out (by decide)) e_) hs_));have aQ:=aa.mk (Kd.dm (ok':=fun k_=>some k_≠(AnJ:Value).ownBlock) (Kd.xC (iB.out) hkp (fun k_ ql hs_=>(ql.2) hs_)) (fun k_ ql=>fun e_=>Or.elim (gE.1 k_ e_.symm) (fun hs_=>ql.2.1 hs_) (fun Dq=>Nat.not_le.2 ql.2.2 Dq)));have bt:=aa.mk (Kd.dm (ok':=fun k_=>some k_≠(.slice Bu uF.length Bv:Value).ownBlock) gE (fun k_ ql=>Or.elim ql (fun hs_=>fun e_=>(((iB.out).1 k_ e_.symm).2) hs_) (fun Dq=>(Kd.mN (Kd.oL (Kd.rz iB)) k_ Dq))));have cr:=aa.mk (hb);clear aW;clear iB;clear HB;clear Bq;have aW:=aJ;have iB:=aQ;have Nk:=bt;have HB:=cr;clear aJ aQ bt cr
          (try clear hb)
          (try clear hkp)
          (try clear gE)
          obtain ⟨Abv,Abw,AgK⟩:=Kd.da Nk.out
          (first|subst AgK|(injection AgK with mY rD mZ;have rE:=mY.symm;have rF:=mZ.symm;clear mY rD mZ;subst rE;subst rF))
          refine hK.out _ _ ⟨cz aW.out 0 rfl,cz aW.out 1 rfl,cz aW.out 2 rfl,cz aW.out 3 rfl,cz aW.out 4 rfl,cz aW.out 5 rfl,cz aW.out 6 rfl,cz aW.out 7 rfl,cz aW.out 8 rfl,cz aW.out 9 rfl⟩ (fun hHeld=> ?_);clear hK K;refine nz 74 ?_;refine oz 6 (some 77) az (fun K hK=> ?_);refine gG Try.func84 #[.slice Abv Dv.length Abw,.int .u32 ee] ?_
          with_reducible refine (dK.calls (fun k_=>some k_=(.slice Abv Dv.length Abw:Value).ownBlock) (.slice Abv Dv.length Abw) Dv ee AH w _ ?aG ?aH ZG.out).mono ?_
          (case aG=>exact bz HB)
          (case aH=>exact Kd.kR rfl Nk.out)
          rintro e w47 ⟨AgL,rfl,gE,hb,hkp⟩;refine ⟨_,rfl, ?_⟩;have aJ:=aa.mk (jf (kz aW) hkp (fun hs_=>(fun e_=>(Kd.nw Nk.out aW.out (by decide)) e_) hs_));have aQ:=aa.mk (Kd.dm (ok':=fun k_=>some k_≠(AgL:Value).ownBlock) (Kd.xC (iB.out) hkp (fun k_ ql hs_=>(ql) hs_)) (fun k_ ql=>fun e_=>Or.elim (gE.1 k_ e_.symm) (fun hs_=>ql.2.1 hs_) (fun Dq=>Nat.not_le.2 ql.2.2 Dq)));have bt:=aa.mk (Kd.dm (ok':=fun k_=>some k_≠(.slice Bu uF.length Bv:Value).ownBlock) gE (fun k_ ql=>Or.elim ql (fun hs_=>fun e_=>(((iB.out).1 k_ e_.symm)) hs_) (fun Dq=>(Kd.mN (Kd.oL (Kd.rz iB)) k_ Dq))));have cr:=aa.mk (hb);clear aW;clear iB;clear HB;clear Nk;have aW:=aJ;have iB:=aQ;have Si:=bt;have HB:=cr;clear aJ aQ bt cr
          (try clear hb)
          (try clear hkp)
          (try clear gE)
          refine hK.out _ _ ⟨cz aW.out 0 rfl,cz aW.out 1 rfl,cz aW.out 2 rfl,cz aW.out 3 rfl,cz aW.out 4 rfl,cz aW.out 5 rfl,cz aW.out 6 rfl,cz aW.out 7 rfl,cz aW.out 8 rfl,cz aW.out 9 rfl⟩ (fun hHeld=> ?_);clear hK K;refine nz 77 ?_;refine oz 9 (some 80) az (fun K hK=> ?_);refine Kd.jB (Kd.int .u8) (w0:=w) w.heap.size (by rfl) (.tmp 77) (.tmp 79) 23 5 (.int .u8 0) 1 rfl Try.underlying23 gB rfl (by decide) (by omega) AgL AH bN _ _ _ (fun k_=>some k_≠(.slice Bu uF.length Bv:Value).ownBlock) (fun _=>False) rfl rfl ?aO ?aR (fun _ _ h=>h) (fun _ h=>h.elim) ?aF ?aB ?aS ?aL ?_
          (case aR=>exact Kd.aU Bi.out (bz HB))
          (case aB=>exact bz HB)
          (case aF=>exact (fun k_ hk=>Kd.mN (Kd.oL (Kd.rz iB)) k_ hk))
          (case aO=>exact (Kd.rz Si))
          (case aS=>exact (af (bz HB)))
          (case aL=>have:=QD.out;omega)
          intro AuB w48 ho hb hg hat;rw [<- AgD.out] at ho
          have aJ:=aa.mk (gV (kz aW) hg (Kd.nw Si.out aW.out (by decide)));have aQ:=aa.mk (Kd.nV (ok:=(fun _=>True)) (by (with_reducible repeat (first|apply Kd.eX|apply Kd.eT|apply Kd.eY));exact Kd.dm iB.out (fun _ hk=>⟨trivial,hk⟩)) hg hat);have bt:=aa.mk (hb);have cr:=aa.mk (ho);clear aW;clear iB;clear HB;clear Si;have aW:=aJ;have iB:=aQ;have HB:=bt;have om:=cr;clear aJ aQ bt cr;clear ho hb hg hat;refine hK.out _ _ ⟨cz aW.out 0 rfl,cz aW.out 1 rfl,cz aW.out 2 rfl,cz aW.out 3 rfl,cz aW.out 4 rfl,cz aW.out 5 rfl,cz aW.out 6 rfl,cz aW.out 7 rfl,cz aW.out 8 rfl,cz aW.out 9 rfl⟩ (fun hHeld=> ?_);clear hK K;refine nz 80 ?_;refine pz 10 5 az ?_;refine dz az ?_;obtain ⟨AnK,JN,AnL⟩:=Kd.da om.out
          subst AnL
          try go_wp2_with (first|((with_reducible refine ay (f:=85) rfl ?_);refine gL 82 Try.func85 #[.slice AnK mh.length JN] ?_;(with_reducible refine (iK.calls NY _ _ mh um _ ?aG ?aH A21.out).mono ?_);(case aG=>repeat (first|exact (Kd.av om.out).2.2|(with_reducible refine Kd.fD ?_ _)|(with_reducible refine Kd.fj ?_ _)|(with_reducible refine Kd.gP ?_)));(case aH=>exact (Kd.av om.out).2.1);rintro e w50 ⟨rfl,hb⟩;refine ⟨_,rfl, ?_⟩;have aJ:=aa.mk (Kd.fU (Kd.rz iB) hb);have aQ:=aa.mk (Kd.fU (Kd.rz om) hb);have bt:=aa.mk (bn (kz aW) hb);have cr:=aa.mk (aq (bz HB) hb);clear iB;clear om;clear aW;clear HB;have iB:=aJ;have om:=aQ;have aW:=bt;have HB:=cr;clear aJ aQ bt cr;(try clear hb);(try clear hb2);(try clear hk);(try clear hi);have p23:0<=(10:Int):=(by omega);have q23:(10:Int)<((mh.length:Int):Int):=gD;have AuC:(10<mh.length)=True:=eq_true (by omega);obtain ⟨Dw,Ve,RZ,AgM,AnO,AuD,AgN⟩:=Kd.z9 om.out (by omega);(first|cases RZ|(injection RZ with UN en_ ec_;(first|subst UN|(injection UN with UN;subst UN));subst ec_;clear en_));have AgO:=aa.mk AgM;have AuE:=aa.mk AgN;clear AgM AnO AgN;obtain ⟨Sj,Sk⟩:=Kd.mO 0 om.out (10:Int) p23 q23;(try rw [show ((10:Int)).toNat=10 from rfl] at Sj);(try simp only [Nat.reduceMul,Nat.zero_mul,Nat.zero_add,Nat.reduceAdd] at Sj);(try rw [show ((10:Int)).toNat=10 from rfl] at Sk);(try simp only [Nat.reduceMul,Nat.zero_mul,Nat.zero_add,Nat.reduceAdd] at Sk);replace p23:=eq_true p23;replace q23:=eq_true q23;obtain ⟨XK,XL⟩:=Kd.mO 0 om.out (10:Int) (by omega) gD;(try simp only [Int.reduceToNat,Int.toNat_zero,Int.toNat_ofNat,Nat.reduceMul,Nat.zero_mul,Nat.zero_add] at XK XL);(try rw [show ((10:Int)).toNat=10 from rfl] at XK);(try rw [show ((10:Int)).toNat=10 from rfl] at XL);have Abx:=Kd.Aa om.out (10:Int) ((um / 256) % 256))|((with_reducible refine uM (t:=5) (p:=90) rfl ?_);refine sV (t:=5) (p:=90) (v:= ?AnP) (w1:=(w50.setCell ⟨Dw,(10:Int).toNat,none⟩ (.int .u8 ((um / 256) % 256)))) ?hg ?ho ?hn ?hr ?_;(case ho=>rfl);(case hg=>rfl);(case hn=>rfl);(case hr=>first|(go_simp;done)|(go_simp;rfl));intro w52 hw;have hg:w50.grownBy w52 (some Dw):=(by rw [hw];exact Abx.2);have Rz:Kd.R (Kd.int .u8) 5 w52 w.heap.size (fun k_=>some k_≠(.slice Bu uF.length Bv:Value).ownBlock) (.slice (some ⟨Dw,0,none⟩) mh.length JN) AgE:=(by rw [hw,AgF.out];exact Abx.1);clear Abx;have aJ:=aa.mk (gV (kz aW) hg (Kd.nw om.out aW.out (by decide)));have aQ:=aa.mk (Kd.nV (v:=(.slice (some ⟨Dw,0,none⟩) mh.length JN)) (v1:=(.slice (some ⟨Dw,0,none⟩) mh.length JN)) (ok:=(fun _=>True)) (Kd.rz iB) hg (.inl rfl));have bt:=aa.mk (Rz);have cr:=aa.mk ((by rw [hw];exact uu (HB.out) AgO.out:Below w.heap.size w w52));clear aW;clear iB;clear om;clear HB;have aW:=aJ;have iB:=aQ;have om:=bt;have HB:=cr;clear aJ aQ bt cr;clear hg hw Rz;have p25:0<=(11:Int):=(by omega);have q25:(11:Int)<((mh.length:Int):Int):=gD;have AuF:(11<mh.length)=True:=eq_true (by omega);obtain ⟨Sl,Sm⟩:=Kd.mO 0 om.out (11:Int) p25 q25;(try rw [show ((11:Int)).toNat=11 from rfl] at Sl);(try simp only [Nat.reduceMul,Nat.zero_mul,Nat.zero_add,Nat.reduceAdd] at Sl);(try rw [show ((11:Int)).toNat=11 from rfl] at Sm);(try simp only [Nat.reduceMul,Nat.zero_mul,Nat.zero_add,Nat.reduceAdd] at Sm);replace p25:=eq_true p25;replace q25:=eq_true q25;obtain ⟨XM,XN⟩:=Kd.mO 0 om.out (11:Int) (by omega) gD;(try simp only [Int.reduceToNat,Int.toNat_zero,Int.toNat_ofNat,Nat.reduceMul,Nat.zero_mul,Nat.zero_add] at XM XN);(try rw [show ((11:Int)).toNat=11 from rfl] at XM);(try rw [show ((11:Int)).toNat=11 from rfl] at XN);have Aby:=Kd.Aa om.out (11:Int) ((um) % 256))|((with_reducible refine uM (t:=5) (p:=91) rfl ?_);refine sV (t:=5) (p:=91) (v:= ?AnS) (w1:=(w52.setCell ⟨Dw,(11:Int).toNat,none⟩ (.int .u8 ((um) % 256)))) ?hg ?ho ?hn ?hr ?_;(case ho=>rfl);(case hg=>rfl);(case hn=>rfl);(case hr=>first|(go_simp;done)|(go_simp;rfl));intro Ox hw;have hg:w52.grownBy Ox (some Dw):=(by rw [hw];exact Aby.2);have Rz:Kd.R (Kd.int .u8) 5 Ox w.heap.size (fun k_=>some k_≠(.slice Bu uF.length Bv:Value).ownBlock) (.slice (some ⟨Dw,0,none⟩) mh.length JN) uo:=(by rw [hw,AgG.out];exact Aby.1);clear Aby;have aJ:=aa.mk (gV (kz aW) hg (Kd.nw om.out aW.out (by decide)));have aQ:=aa.mk (Kd.nV (v:=(.slice (some ⟨Dw,0,none⟩) mh.length JN)) (v1:=(.slice (some ⟨Dw,0,none⟩) mh.length JN)) (ok:=(fun _=>True)) (Kd.rz iB) hg (.inl rfl));have bt:=aa.mk (Rz);have cr:=aa.mk ((by rw [hw];exact uu (HB.out) AgO.out:Below w.heap.size w Ox));clear aW;clear iB;clear om;clear HB;have aW:=aJ;have iB:=aQ;have om:=bt;have HB:=cr;clear aJ aQ bt cr;clear hg hw Rz;have Aji:Ox.cell? ⟨fJ,0,none⟩=some (.int .u8 aV):=cz aW.out 0 rfl;have Ajj:Ox.cell? ⟨fJ,1,none⟩=some (.int .u8 bh):=cz aW.out 1 rfl;have Ajk:Ox.cell? ⟨fJ,2,none⟩=some (.int .u8 bp):=cz aW.out 2 rfl;have Ajl:Ox.cell? ⟨fJ,3,none⟩=some (.int .u16 bw):=cz aW.out 3 rfl;have Ajm:Ox.cell? ⟨fJ,4,none⟩=some (.int .u8 dQ):=cz aW.out 4 rfl;have Ajn:Ox.cell? ⟨fJ,5,none⟩=some (.int .u16 dU):=cz aW.out 5 rfl;have Ajo:Ox.cell? ⟨fJ,6,none⟩=some (.int .u32 dZ):=cz aW.out 6 rfl;have Ajp:Ox.cell? ⟨fJ,7,none⟩=some (.int .u32 ee):=cz aW.out 7 rfl;have Ajq:Ox.cell? ⟨fJ,8,none⟩=some (.slice jw bN.length jx):=cz aW.out 8 rfl;have Ajr:Ox.cell? ⟨fJ,9,none⟩=some (.slice jy cJ.length jz):=cz aW.out 9 rfl;have Ajs:=ae aW.out 0;have Ajt:=ae aW.out 1;have Aju:=ae aW.out 2;have Ajv:=ae aW.out 3;have Ajw:=ae aW.out 4;have Ajx:=ae aW.out 5;have Ajy:=ae aW.out 6;have Ajz:=ae aW.out 7;have AjA:=ae aW.out 8;have AjB:=ae aW.out 9)|((with_reducible refine fo (b:= .append) (xs:= #[.tmp 92,.tmp 94]) rfl ?_);(try (refine eN (by rfl) ?_;dsimp only));at_builtin;refine Kd.gC (Kd.int .u8) (w0:=w) w.heap.size rfl (.tmp 92) (.tmp 94) 23 5 (.int .u8 0) 1 rfl Try.underlying23 gB rfl (by decide) (by omega) (.slice (some ⟨Dw,0,none⟩) mh.length JN) uo cJ _ _ _ (fun k_=>some k_≠(.slice Bu uF.length Bv:Value).ownBlock) (fun _=>False) rfl rfl ?aO ?aR (fun _ _ h=>h) (fun _ h=>h.elim) ?aF ?aB ?aS ?aL ?_;(case aR=>exact Kd.aU Bj.out (bz HB));(case aB=>exact bz HB);(case aF=>exact (fun k_ hk=>Kd.mN (Kd.oL (Kd.rz iB)) k_ hk));(case aO=>exact (Kd.rz om));(case aS=>exact (af (bz HB)));(case aL=>have:=AgH.out;omega);intro AuG w56 ho hb hg hat;rw [<- AgI.out] at ho;have aJ:=aa.mk (gV (kz aW) hg (Kd.nw om.out aW.out (by decide)));have aQ:=aa.mk (Kd.nV (ok:=(fun _=>True)) (Kd.rz iB) hg hat);have bt:=aa.mk (hb);have cr:=aa.mk (ho);clear aW;clear iB;clear HB;clear om;have aW:=aJ;have iB:=aQ;have HB:=bt;have AgQ:=cr;clear aJ aQ bt cr;clear ho hb hg hat))
          go_ret2
          exact ⟨_,by first|rfl|(simp [aj,ak]<;>rfl)|(simp [*,aj,ak]<;>rfl),by (with_reducible repeat (first|apply Kd.eX|apply Kd.eT|apply Kd.eY));exact Kd.dm AgQ.out (fun _ hk=>trivial),bz HB⟩
         ·rw [ax c26] at H
          cases H
        ·rw [ax Mw] at H
         cases H
       ·rw [ax Ic] at H
        cases H
      ·rw [ax Lb] at H
       cases H
     ·rw [ax rL] at H
      cases H
def bE.sw (p6 pr:Int):Int×Int×Int×Int×List Int:=
 if p6.tmod 16=0 then (p6.tdiv 16 % 256 % 3,pr,2,0,[])
 else if p6.tmod 16=1 then (64,pr,1,0,[])
 else if p6.tmod 16=2 then (64,pr,2,5,[])
 else if p6.tmod 16=3 then (64,47,2,0,[])
 else if p6.tmod 16=4 then (64,pr,2,0,[1,1,1,1])
 else (64,pr,2,0,[])
def bE.sd (k:Nat) (p1 p2 side n:Int) (s0 d0:Int):Option (Int×Int):=
 if side=0 then some (s0,d0) else (bU.f k p1 (n % 256)).bind fun s=>(bU.f k ((5+p2.tmod 3) % 256) (n % 256)).bind fun d=>some (s,d)
def bE.er (k:Nat) (pr s d fr tp p5 p7 p8:Int) (x:List Int):Option (Int×List Int):=
 if p7.tmod 5=4 then (mD.f k pr d s tp fr p5 p8).bind fun y=>(aI.f k 0 3 pr 0 0 0 d s [] y).bind fun q=>(eW.f k (rd [3,11,12] (p8.tmod 3)) 0 0 0 q.1).bind fun c=>(bG.f (rd [3,11,12] (p8.tmod 3)) 0 c 0 q.1).bind fun m=>some (1,m.1)
 else some (pr,x)
def bE.sp (p8 p9:Int) (b:List Int):List Int:=
 if p9.tmod 8=7 then (if 0<b.length then b.set (p9.tmod (b.length:Int)).toNat (Go.bits .xor .u8 (rd b (p9.tmod (b.length:Int))) (IntKind.u8.wrap (2 ^ (p8.tmod 8).toNat))) else b) else b
def bE.f (k:Nat) (p0 p1 p2 p3 p4 p5 p6 p7 p8 p9 side n:Int):Option (List Int):=
 (lH.f p1).bind fun s0=>(bU.f k p2 (n % 256)).bind fun d0=>(bE.sd k p1 p2 side n s0 d0).bind fun sd=>
 (mz.f p0).bind fun pr=>(jd.f p3).bind fun fr=>(jd.f p4).bind fun tp=>(mD.f k pr sd.1 sd.2 fr tp p5 p8).bind fun x=>
 (bE.er k pr sd.1 sd.2 fr tp p5 p7 p8 x).bind fun px=>
 (aI.f k 0 (bE.sw p6 px.1).1 (bE.sw p6 px.1).2.1 (IntKind.u16.wrap p8) (bE.sw p6 px.1).2.2.1 (bE.sw p6 px.1).2.2.2.1 sd.1 sd.2 (bE.sw p6 px.1).2.2.2.2 px.2).bind fun b=>some (bE.sp p8 p9 b.1)
theorem Dx {K:Act ->World ->Prop} {Q:Exit ->Act ->World ->Prop} {e:Exit} {a:Act} {w:World} {n:Nat} (h:∀ W,Below w.heap.size w W ->Exit.then K Q e a W):Exit.then K Q e a (w.drewN n):=h _ (fe (Below.refl _ _) n)
theorem Abz {w:World} {g:Nat} (h:w.heap[g]?=some (.cells #[.int .u8 3,.int .u8 11,.int .u8 12] 5 (0,0))) (i:Int) (h0:0<=i) (h1:i<3):w.cell? ⟨g,i.toNat,none⟩=some (.int .u8 (rd [3,11,12] i)):=by
 obtain rfl|rfl|rfl:i=0 \/ i=1 \/ i=2:=by omega
 all_goals exact (aE h _).trans rfl
def bE.R28.T:Bool×List (List Nat×List Nat):=(true,[([],[]),([],[]),([1],[1]),([2],[2]),([],[]),([4],[4]),([3,5],[3,5]),([0,6],[0,6]),([7],[7]),([],[]),([9],[9]),([10],[10]),([11],[11]),([8,12],[8,12]),([0,6,0,1,2,3,4,5,6,7,8,9,10,11,12,13],[0,6]),([14,13,0,1,2,3,4,5,6,7,8,9,10,11,12,13],[13,14])])
theorem bE.R28.tab:gS .any (opsOf Try.f17 28)=bE.R28.T:=by kernel_rfl
theorem bE.R28.bits:dN bE.R28.T.2 [0,0,2,6,0,16,62,127,255,0,512,1536,3584,8191,16383,32767]=true:=by kernel_rfl
theorem bE.calls (k:Nat) (p0 p1 p2 p3 p4 p5 p6 p7 p8 p9 side n:Int) (r:List Int) (w:World) (hn:(0<=p8 /\ p8<=255) /\ (0<=p9 /\ p9<=255)) (h:bE.f k p0 p1 p2 p3 p4 p5 p6 p7 p8 p9 side n=some r):
  Calls Try.prog 17 #[.agg #[.int .u8 p0,.int .u8 p1,.int .u8 p2,.int .u8 p3,.int .u8 p4,.int .u8 p5,.int .u8 p6,.int .u8 p7,.int .u8 p8,.int .u8 p9],.int .i64 side,.int .i64 n] w fun e w'=>∃ o6:Value,e= .returned o6 /\ Kd.R (Kd.int .u8) 5 w' w.heap.size (fun _=>True) o6 r /\ Below w.heap.size w w':=by
 have AnT:=Try.underlying25;have jb:=Try.underlying73;have ny:=Try.underlying101;have HB:=gj w;have AgR:aa ((Try.prog.info? 25).map (·.size)=some 10):=⟨by kernel_rfl⟩
 have eI:aa ((Try.prog.info? 73).map (·.size)=some 10):=⟨by kernel_rfl⟩
 have ja:aa ((Try.prog.info? 101).map (·.size)=some 5):=⟨by kernel_rfl⟩
 have HN:=aa.mk hn;have H:bE.f k p0 p1 p2 p3 p4 p5 p6 p7 p8 p9 side n=some r:=h;clear h hn;unfold bE.f at H
 obtain ⟨s0,hs0,H⟩:=bV H;obtain ⟨d0,hd0,H⟩:=bV H;obtain ⟨⟨src,dst⟩,hsd,H⟩:=bV H;obtain ⟨pr,Kl,H⟩:=bV H;obtain ⟨fr,hfr,H⟩:=bV H;obtain ⟨tp,htp,H⟩:=bV H;obtain ⟨x,hx,H⟩:=bV H;obtain ⟨⟨Km,x2⟩,her,H⟩:=bV H;obtain ⟨⟨b,be⟩,hbb,H⟩:=bV H;obtain rfl:=cS H;dsimp only at hx her hbb|-
 obtain ⟨⟨ttl,pr3,fl2,of2,op⟩,hsw⟩:∃ x,x=bE.sw p6 Km:=⟨_,rfl⟩
 rw [<- hsw] at hbb
 dsimp only at hbb
 have HSW:=aa.mk hsw.symm;clear hsw;have Q1:aa (∀ W:World,Calls Try.prog 49 #[.int .u8 p1] W fun e w'=>e= .returned (.int .u32 s0) /\ bF W w'):=⟨fun W=>lH.calls p1 s0 W hs0⟩
 have Q2:aa (∀ W:World,Calls Try.prog 50 #[.int .u8 p2,.int .u8 (n % 256)] W fun e w'=>e= .returned (.int .u32 d0) /\ bF W w'):=⟨fun W=>bU.calls k p2 (n % 256) d0 W hd0⟩
 have Q5:aa (∀ W:World,Calls Try.prog 52 #[.int .u8 p3] W fun e w'=>e= .returned (.int .u16 fr) /\ bF W w'):=⟨fun W=>jd.calls p3 fr W hfr⟩
 have Q6:aa (∀ W:World,Calls Try.prog 52 #[.int .u8 p4] W fun e w'=>e= .returned (.int .u16 tp) /\ bF W w'):=⟨fun W=>jd.calls p4 tp W htp⟩
 have HSD:=aa.mk hsd;have HPR:=aa.mk Kl;have HX1:=aa.mk hx;have HER:=aa.mk her;have HBB:=aa.mk hbb;clear hs0 hd0 hsd Kl hfr htp hx her hbb H
 go_enter Try.func17,Try.ntmps17
 go_upto_region 1 with (((with_reducible refine aA (N:=3) rfl ?_);refine Kd.bL rfl (v:= .pointer (some ⟨w.heap.size,0,none⟩)) (w1:=w.alloc (.cells #[.int .u8 p0,.int .u8 p1,.int .u8 p2,.int .u8 p3,.int .u8 p4,.int .u8 p5,.int .u8 p6,.int .u8 p7,.int .u8 p8,.int .u8 p9] 25)) (by first|(go_simp;done)|(go_simp;rfl)) ?_))
 obtain ⟨gp,BQ⟩:∃ x_,x_=w.heap.size:=⟨_,rfl⟩
 have aT:aa ((w.alloc (.cells #[.int .u8 p0,.int .u8 p1,.int .u8 p2,.int .u8 p3,.int .u8 p4,.int .u8 p5,.int .u8 p6,.int .u8 p7,.int .u8 p8,.int .u8 p9] 25)).heap[gp]?=some (.cells #[.int .u8 p0,.int .u8 p1,.int .u8 p2,.int .u8 p3,.int .u8 p4,.int .u8 p5,.int .u8 p6,.int .u8 p7,.int .u8 p8,.int .u8 p9] 25 (0,0))):=⟨by rw [BQ];exact iX _ _⟩
 have lE:=aa.mk (show w.heap.size<=gp by rw [BQ];exact af HB.out);rw [<- BQ];clear BQ;have ah:=dX (Below.refl w.heap.size w) (.cells #[.int .u8 p0,.int .u8 p1,.int .u8 p2,.int .u8 p3,.int .u8 p4,.int .u8 p5,.int .u8 p6,.int .u8 p7,.int .u8 p8,.int .u8 p9] 25);replace HB:=mB HB ah;clear ah;generalize (w.alloc (.cells #[.int .u8 p0,.int .u8 p1,.int .u8 p2,.int .u8 p3,.int .u8 p4,.int .u8 p5,.int .u8 p6,.int .u8 p7,.int .u8 p8,.int .u8 p9] 25))=w1 at aT HB|-
 have RD:=cz aT.out 1 rfl;have nl:=cz aT.out 2 rfl
 go_wp2_with fail
 go_quiet ((first
  |(go_at_call 49;(with_reducible refine (Q1.out _).mono ?_);rintro e w' ⟨rfl,⟨nd,rfl⟩⟩;exact ⟨rfl,_,rfl⟩)
  |(go_at_call 49;(with_reducible refine (Q1.out _).mono ?_);rintro e w' ⟨rfl,⟨nd,rfl⟩⟩;exact ⟨rfl,_,World.drewN_drewN _ _ _⟩)
  |(go_at_call 49;(with_reducible refine (Q1.out _).mono ?_);rintro e w' ⟨rfl,⟨nd,rfl⟩⟩;exact ⟨rfl,_,Eq.trans (World.drewN_drewN _ _ _) (congrArg (World.drewN _) (Nat.add_assoc _ _ _))⟩)
  |(go_at_call 50;(with_reducible refine (Q2.out _).mono ?_);rintro e w' ⟨rfl,⟨nd,rfl⟩⟩;exact ⟨rfl,_,rfl⟩)
  |(go_at_call 50;(with_reducible refine (Q2.out _).mono ?_);rintro e w' ⟨rfl,⟨nd,rfl⟩⟩;exact ⟨rfl,_,World.drewN_drewN _ _ _⟩)
  |(go_at_call 50;(with_reducible refine (Q2.out _).mono ?_);rintro e w' ⟨rfl,⟨nd,rfl⟩⟩;exact ⟨rfl,_,Eq.trans (World.drewN_drewN _ _ _) (congrArg (World.drewN _) (Nat.add_assoc _ _ _))⟩)))
 refine Dx ?_;intro w2 hb;have ah:=hb;replace HB:=mB HB ah;replace aT:=mX aT ah;clear ah;clear hb RD nl
 go_upto_if 29 with (fail)
 go_cut [7,8] from 30 to 41 (fun s7 s8 w'=>s7= .int .u32 src /\ s8= .int .u32 dst /\ aa (w'.heap[gp]?=some (.cells #[.int .u8 p0,.int .u8 p1,.int .u8 p2,.int .u8 p3,.int .u8 p4,.int .u8 p5,.int .u8 p6,.int .u8 p7,.int .u8 p8,.int .u8 p9] 25 (0,0))) /\ aa (Below w.heap.size w w'))
 case first=>
  by_cases gs:side=0
  ·have gs1:(side !=0)=false:=by rw [bne,fH gs];rfl
   have gs2:(side==0)=true:=fH gs
   have hs:s0=src /\ d0=dst:=by
    have h:=HSD.out;unfold bE.sd at h
    rw [au gs] at h
    simp only [Option.some.injEq,Prod.mk.injEq] at h
    exact h
   obtain ⟨rfl,rfl⟩:=hs;clear gs
   go_wp2
   go_meet
   case rel=>exact ⟨rfl,rfl,⟨aT.out⟩,⟨HB.out⟩⟩
  ·have gs1:(side !=0)=true:=bne_iff_ne.2 gs
   have gs2:(side==0)=false:=fc gs
   have hs:(bU.f k p1 (n % 256)).bind (fun s=>(bU.f k ((5+p2.tmod 3) % 256) (n % 256)).bind fun d=>some (s,d))=some (src,dst):=by
    have h:=HSD.out;unfold bE.sd at h
    rwa [ax gs] at h
   obtain ⟨sx,hsx,hs⟩:=bV hs;obtain ⟨dx,hdx,hs⟩:=bV hs;simp only [Option.some.injEq,Prod.mk.injEq] at hs
   obtain ⟨rfl,rfl⟩:=hs;have Q3:aa (∀ W:World,Calls Try.prog 50 #[.int .u8 p1,.int .u8 (n % 256)] W fun e w'=>e= .returned (.int .u32 sx) /\ bF W w'):=⟨fun W=>bU.calls k p1 (n % 256) sx W hsx⟩
   have Q4:aa (∀ W:World,Calls Try.prog 50 #[.int .u8 ((5+p2.tmod 3) % 256),.int .u8 (n % 256)] W fun e w'=>e= .returned (.int .u32 dx) /\ bF W w'):=⟨fun W=>bU.calls k ((5+p2.tmod 3) % 256) (n % 256) dx W hdx⟩
   clear gs hsx hdx
   (try dsimp only)
   have RD:=cz aT.out 1 rfl;have nl:=cz aT.out 2 rfl
   go_wp2_with fail
   go_quiet ((first
    |(go_at_call 50;(with_reducible refine (Q3.out _).mono ?_);rintro e w' ⟨rfl,⟨nd,rfl⟩⟩;exact ⟨rfl,_,rfl⟩)
    |(go_at_call 50;(with_reducible refine (Q3.out _).mono ?_);rintro e w' ⟨rfl,⟨nd,rfl⟩⟩;exact ⟨rfl,_,World.drewN_drewN _ _ _⟩)
    |(go_at_call 50;(with_reducible refine (Q3.out _).mono ?_);rintro e w' ⟨rfl,⟨nd,rfl⟩⟩;exact ⟨rfl,_,Eq.trans (World.drewN_drewN _ _ _) (congrArg (World.drewN _) (Nat.add_assoc _ _ _))⟩)
    |(go_at_call 50;(with_reducible refine (Q4.out _).mono ?_);rintro e w' ⟨rfl,⟨nd,rfl⟩⟩;exact ⟨rfl,_,rfl⟩)
    |(go_at_call 50;(with_reducible refine (Q4.out _).mono ?_);rintro e w' ⟨rfl,⟨nd,rfl⟩⟩;exact ⟨rfl,_,World.drewN_drewN _ _ _⟩)
    |(go_at_call 50;(with_reducible refine (Q4.out _).mono ?_);rintro e w' ⟨rfl,⟨nd,rfl⟩⟩;exact ⟨rfl,_,Eq.trans (World.drewN_drewN _ _ _) (congrArg (World.drewN _) (Nat.add_assoc _ _ _))⟩)))
   refine Dx ?_;intro w3 hb;have ah:=hb;replace aT:=mX aT ah;replace HB:=mB HB ah;clear ah;clear hb RD nl
   go_wp2
   go_meet
   case rel=>exact ⟨rfl,rfl,⟨aT.out⟩,⟨HB.out⟩⟩
 case rest=>
  obtain ⟨rfl,rfl,jZ,gX⟩:=hcut;clear aT HB;have aT:=jZ;have HB:=gX;clear jZ gX;have AnU:=cz aT.out 0 rfl
  go_wp2_with fail
  refine (mz.calls p0 pr _ HPR.out).mono ?_;rintro e w4 ⟨rfl,hb⟩;have ah:=hb;replace HB:=mB HB ah;replace aT:=mX aT ah;clear ah;clear hb AnU
  (try dsimp only)
  have AnV:=cz aT.out 3 rfl;have AnW:=cz aT.out 4 rfl
  go_wp2_with fail
  go_quiet ((first
   |(go_at_call 52;(with_reducible refine (Q5.out _).mono ?_);rintro e w' ⟨rfl,⟨nd,rfl⟩⟩;exact ⟨rfl,_,rfl⟩)
   |(go_at_call 52;(with_reducible refine (Q5.out _).mono ?_);rintro e w' ⟨rfl,⟨nd,rfl⟩⟩;exact ⟨rfl,_,World.drewN_drewN _ _ _⟩)
   |(go_at_call 52;(with_reducible refine (Q5.out _).mono ?_);rintro e w' ⟨rfl,⟨nd,rfl⟩⟩;exact ⟨rfl,_,Eq.trans (World.drewN_drewN _ _ _) (congrArg (World.drewN _) (Nat.add_assoc _ _ _))⟩)
   |(go_at_call 52;(with_reducible refine (Q6.out _).mono ?_);rintro e w' ⟨rfl,⟨nd,rfl⟩⟩;exact ⟨rfl,_,rfl⟩)
   |(go_at_call 52;(with_reducible refine (Q6.out _).mono ?_);rintro e w' ⟨rfl,⟨nd,rfl⟩⟩;exact ⟨rfl,_,World.drewN_drewN _ _ _⟩)
   |(go_at_call 52;(with_reducible refine (Q6.out _).mono ?_);rintro e w' ⟨rfl,⟨nd,rfl⟩⟩;exact ⟨rfl,_,Eq.trans (World.drewN_drewN _ _ _) (congrArg (World.drewN _) (Nat.add_assoc _ _ _))⟩)))
  refine Dx ?_;intro w5 hb;have ah:=hb;replace HB:=mB HB ah;replace aT:=mX aT ah;clear ah;clear hb AnV AnW;have AbB:=cz aT.out 5 rfl;have GX:=cz aT.out 8 rfl
  go_wp2_with fail
  refine (mD.calls k pr src dst fr tp p5 p8 x _ HN.out.1 HX1.out).mono ?_;rintro e w6 ⟨v_,rfl,ho,hb⟩;have nk:=aa.mk (Kd.bP ho (af HB.out));obtain ⟨Ax,cx,rfl,_,_⟩:=Kd.bW ho;clear ho;have ah:=hb;replace HB:=mB HB ah;replace aT:=mX aT ah;clear ah;clear hb AbB GX
  (try dsimp only)
  have GX:=cz aT.out 8 rfl
  go_upto_region 8 with ((first|(refine mQ rfl rfl (tS rfl rfl rfl eI.out rfl (by simp [Value.oneCell'])) ?_)))
  clear GX;obtain ⟨gi,hgi⟩:∃ x_,x_=w6.heap.size:=⟨_,rfl⟩
  have bg:aa ((w6.alloc (.cells #[.int .u8 0,.int .u8 64,.int .u8 pr,.int .u16 (IntKind.u16.wrap p8),.int .u8 2,.int .u16 0,.int .u32 src,.int .u32 dst,.slice none 0 0,.slice Ax x.length cx] 73)).heap[gi]?=some (.cells #[.int .u8 0,.int .u8 64,.int .u8 pr,.int .u16 (IntKind.u16.wrap p8),.int .u8 2,.int .u16 0,.int .u32 src,.int .u32 dst,.slice none 0 0,.slice Ax x.length cx] 73 (0,0))):=⟨by rw [hgi];exact iX _ _⟩
  have ld:=aa.mk (show w.heap.size<=gi by rw [hgi];exact af HB.out);rw [<- hgi];clear hgi;have ah:=dX (Below.refl w6.heap.size w6) (.cells #[.int .u8 0,.int .u8 64,.int .u8 pr,.int .u16 (IntKind.u16.wrap p8),.int .u8 2,.int .u16 0,.int .u32 src,.int .u32 dst,.slice none 0 0,.slice Ax x.length cx] 73);replace HB:=mB HB ah;replace aT:=mX aT ah;replace nk:=mR nk ah;clear ah;generalize (w6.alloc (.cells #[.int .u8 0,.int .u8 64,.int .u8 pr,.int .u16 (IntKind.u16.wrap p8),.int .u8 2,.int .u16 0,.int .u32 src,.int .u32 dst,.slice none 0 0,.slice Ax x.length cx] 73))=w8 at bg HB aT nk|-
  have sM:=cz aT.out 7 rfl
  go_upto_if 72 with (fail)
  clear sM
  go_cut [] from 14 to 109 (fun w'=>∃ (A:Option Addr) (c_:Nat),aa (Kd.R (Kd.int .u8) 5 w' w.heap.size (fun _=>True) (.slice A x2.length c_) x2) /\ aa (w'.heap[gi]?=some (.cells #[.int .u8 0,.int .u8 64,.int .u8 Km,.int .u16 (IntKind.u16.wrap p8),.int .u8 2,.int .u16 0,.int .u32 src,.int .u32 dst,.slice none 0 0,.slice A x2.length c_] 73 (0,0))) /\ aa (w'.heap[gp]?=some (.cells #[.int .u8 p0,.int .u8 p1,.int .u8 p2,.int .u8 p3,.int .u8 p4,.int .u8 p5,.int .u8 p6,.int .u8 p7,.int .u8 p8,.int .u8 p9] 25 (0,0))) /\ aa (Below w.heap.size w w'))
  case first=>
   by_cases ge:p7.tmod 5=4
   ·have ge1:(p7.tmod 5==4)=true:=fH ge
    have ge2:(p7.tmod 5 !=4)=false:=by rw [bne,ge1];rfl
    have he:(mD.f k pr dst src tp fr p5 p8).bind (fun y=>(aI.f k 0 3 pr 0 0 0 dst src [] y).bind fun q=>(eW.f k (rd [3,11,12] (p8.tmod 3)) 0 0 0 q.1).bind fun c=>(bG.f (rd [3,11,12] (p8.tmod 3)) 0 c 0 q.1).bind fun m=>some (1,m.1))=some (Km,x2):=by
     have h:=HER.out;unfold bE.er at h
     rwa [au ge] at h
    obtain ⟨y,hy,he⟩:=bV he;obtain ⟨⟨q,qe⟩,hq,he⟩:=bV he;obtain ⟨c,hc,he⟩:=bV he;obtain ⟨⟨m,me⟩,hm,he⟩:=bV he;simp only [Option.some.injEq,Prod.mk.injEq] at he
    obtain ⟨rfl,rfl⟩:=he;dsimp only at hc hm
    obtain ⟨ty,hty⟩:∃ ty,ty=rd [3,11,12] (p8.tmod 3):=⟨_,rfl⟩
    rw [<- hty] at hc hm
    have HY:=aa.mk hy;have HQ_:=aa.mk hq;have HC_:=aa.mk hc;have HM_:=aa.mk hm;have HTY:=aa.mk hty;clear ge hy hq hc hm hty;have AbB:=cz aT.out 5 rfl;have GX:=cz aT.out 8 rfl
    go_wp2_with fail
    refine (mD.calls k pr dst src tp fr p5 p8 y _ HN.out.1 HY.out).mono ?_;rintro e w9 ⟨v_,rfl,ho,hb⟩;have qg:=aa.mk (Kd.bP ho (af HB.out));obtain ⟨Ay,cy,rfl,hcy,hky⟩:=Kd.bW ho;have HCy:=aa.mk hky;have HLy:=aa.mk hcy;clear hky hcy;clear ho HY;have ah:=hb;replace HB:=mB HB ah;replace aT:=mX aT ah;replace bg:=mX bg ah;replace nk:=mR nk ah;clear ah;clear hb AbB GX
    (try dsimp only)
    go_upto_region 10 with ((first|(refine mQ rfl rfl (tS rfl rfl rfl eI.out rfl (by simp [Value.oneCell'])) ?_)))
    obtain ⟨gn,hgn⟩:∃ x_,x_=w9.heap.size:=⟨_,rfl⟩
    have cB:aa ((w9.alloc (.cells #[.int .u8 0,.int .u8 3,.int .u8 pr,.int .u16 0,.int .u8 0,.int .u16 0,.int .u32 dst,.int .u32 src,.slice none 0 0,.slice Ay y.length cy] 73)).heap[gn]?=some (.cells #[.int .u8 0,.int .u8 3,.int .u8 pr,.int .u16 0,.int .u8 0,.int .u16 0,.int .u32 dst,.int .u32 src,.slice none 0 0,.slice Ay y.length cy] 73 (0,0))):=⟨by rw [hgn];exact iX _ _⟩
    have BA:=aa.mk (show w.heap.size<=gn by rw [hgn];exact af HB.out);rw [<- hgn];clear hgn;have ah:=dX (Below.refl w9.heap.size w9) (.cells #[.int .u8 0,.int .u8 3,.int .u8 pr,.int .u16 0,.int .u8 0,.int .u16 0,.int .u32 dst,.int .u32 src,.slice none 0 0,.slice Ay y.length cy] 73);replace HB:=mB HB ah;replace aT:=mX aT ah;replace bg:=mX bg ah;replace nk:=mR nk ah;replace HCy:=mC HCy ah;clear ah;generalize (w9.alloc (.cells #[.int .u8 0,.int .u8 3,.int .u8 pr,.int .u16 0,.int .u8 0,.int .u16 0,.int .u32 dst,.int .u32 src,.slice none 0 0,.slice Ay y.length cy] 73))=j4 at cB HB aT bg nk HCy|-
    go_wp2_with (refine Kd.bL rfl (br rfl rfl cB.out Try.underlying73 rfl eI.out) ?_)
    refine (aI.calls k 0 3 pr 0 0 0 dst src none 0 [] Ay cy y q qe _ (Kd.Cs _ _) (Nat.le_refl _) HCy.out HLy.out HQ_.out).mono ?_;rintro e qf ⟨v_,rfl,ho,hb⟩;have Kn:=aa.mk (Kd.bP ho (af HB.out));obtain ⟨Aq,cq,rfl,hcq,_⟩:=Kd.bW ho;have HLq:=aa.mk hcq;clear ho HQ_ HCy cB BA qg HLy hcq;have ah:=hb;replace HB:=mB HB ah;replace aT:=mX aT ah;replace bg:=mX bg ah;replace nk:=mR nk ah;clear ah;clear hb
    (try dsimp only)
    have GX:=cz aT.out 8 rfl;have hidx:p8.tmod 3<3:=Int.tmod_lt_of_pos _ (by decide);have XO:0<=p8.tmod 3:=Int.tmod_nonneg _ HN.out.1.1
    go_upto_region 12 with (first|((with_reducible refine aA (N:=92) rfl ?_);refine PG ?gJ (cs:= #[.int .u8 3,.int .u8 11,.int .u8 12]) (t:=5) (n:=3) ?fq ?_;(case gJ=>rfl);(case fq=>first|(go_simp;done)|(go_simp;rfl));intro gl l5 AgU hgl JF;have HXl:=aa.mk AgU;clear AgU hgl GX;have ah:=JF;replace HB:=mB HB ah;replace aT:=mX aT ah;replace bg:=mX bg ah;replace nk:=mR nk ah;replace Kn:=mR Kn ah;clear ah;clear JF;have GX:l5.cell? ⟨gp,8,none⟩=some (.int .u8 p8):=(aE aT.out 8).trans rfl;have hl_:l5.cell? ⟨gl,(p8.tmod 3).toNat,none⟩=some (.int .u8 ty):=by (rw [HTY.out];exact Abz HXl.out _ XO hidx))|(first|(refine mQ rfl rfl (tS rfl rfl rfl ja.out rfl (by simp [Value.oneCell'])) ?_)))
    clear hidx XO GX hl_ HXl;obtain ⟨gm,VB⟩:∃ x_,x_=l5.heap.size:=⟨_,rfl⟩
    have kN:aa ((l5.alloc (.cells #[.int .u8 ty,.int .u8 0,.int .u16 0,.int .u32 0,.slice Aq q.length cq] 101)).heap[gm]?=some (.cells #[.int .u8 ty,.int .u8 0,.int .u16 0,.int .u32 0,.slice Aq q.length cq] 101 (0,0))):=⟨by rw [VB];exact iX _ _⟩
    have Jf:=aa.mk (show w.heap.size<=gm by rw [VB];exact af HB.out);rw [<- VB];clear VB;have ah:=dX (Below.refl l5.heap.size l5) (.cells #[.int .u8 ty,.int .u8 0,.int .u16 0,.int .u32 0,.slice Aq q.length cq] 101);replace HB:=mB HB ah;replace aT:=mX aT ah;replace bg:=mX bg ah;replace nk:=mR nk ah;replace Kn:=mR Kn ah;clear ah;generalize (l5.alloc (.cells #[.int .u8 ty,.int .u8 0,.int .u16 0,.int .u32 0,.slice Aq q.length cq] 101))=Bm at kN HB aT bg nk Kn|-
    go_wp2_with (refine Kd.bL rfl (br rfl rfl kN.out Try.underlying101 rfl ja.out) ?_)
    refine (eW.calls k ty 0 0 0 Aq cq q c _ (Kd.av Kn.out).2.2 HLq.out HC_.out).mono ?_;rintro e Mr ⟨rfl,hb⟩;clear HC_;have ah:=hb;replace HB:=mB HB ah;replace aT:=mX aT ah;replace bg:=mX bg ah;replace kN:=mX kN ah;replace nk:=mR nk ah;replace Kn:=mR Kn ah;clear ah;clear hb
    (try dsimp only)
    go_upto_region 14 with (first|((refine gQ rfl rfl (i:=2) (v:= .int .u16 c) (cs':= #[.int .u8 ty,.int .u8 0,.int .u16 c,.int .u32 0,.slice Aq q.length cq]) kN.out rfl ?fq ?_);(case fq=>(have m_:=(aE kN.out 2).trans (rfl:_=some (.int .u16 0:Value)));(have nY:=ae kN.out 2);first|(go_simp;done)|(go_simp;rfl));intro sR hs_ ag;have gX:=aa.mk (kS.below ag HB.out Jf.out);have jZ:=aa.mk (kS.blk ag aT.out kN.out (by decide));have xn:=aa.mk (kS.blk ag bg.out kN.out (by decide));have lV:=aa.mk (kS.R ag nk.out kN.out (by decide));have JO:=aa.mk (kS.R ag Kn.out kN.out (by decide));clear HB aT bg nk Kn kN ag;have kN:=aa.mk hs_;clear hs_;have HB:=gX;have aT:=jZ;have bg:=xn;have nk:=lV;have Kn:=JO;clear gX jZ xn lV JO)|((refine gQ rfl rfl (i:=2) (v:= .int .u8 1) (cs':= #[.int .u8 0,.int .u8 64,.int .u8 1,.int .u16 (IntKind.u16.wrap p8),.int .u8 2,.int .u16 0,.int .u32 src,.int .u32 dst,.slice none 0 0,.slice Ax x.length cx]) bg.out rfl ?fq ?_);(case fq=>(have m_:=(aE bg.out 2).trans (rfl:_=some (.int .u8 pr:Value)));(have nY:=ae bg.out 2);first|(go_simp;done)|(go_simp;rfl));intro qN hs_ ag;have gX:=aa.mk (kS.below ag HB.out ld.out);have jZ:=aa.mk (kS.blk ag aT.out bg.out (by decide));have XP:=aa.mk (kS.blk ag kN.out bg.out (by decide));have lV:=aa.mk (kS.R ag nk.out bg.out (by decide));have JO:=aa.mk (kS.R ag Kn.out bg.out (by decide));clear HB aT kN nk Kn bg ag;have bg:=aa.mk hs_;clear hs_;have HB:=gX;have aT:=jZ;have kN:=XP;have nk:=lV;have Kn:=JO;clear gX jZ XP lV JO))
    go_wp2_with (refine Kd.bL rfl (br rfl rfl kN.out Try.underlying101 rfl ja.out) ?_)
    refine (bG.calls ty 0 c 0 Aq cq q m me _ (Kd.av Kn.out).2.2 HLq.out HM_.out).mono ?_;rintro e yE ⟨v_,rfl,ho,hb⟩;have HRm:=aa.mk (Kd.bP ho (af HB.out));obtain ⟨Am,cm,rfl,_,_⟩:=Kd.bW ho;clear ho HM_ kN Jf Kn HLq nk;have ah:=hb;replace HB:=mB HB ah;replace aT:=mX aT ah;replace bg:=mX bg ah;clear ah;clear hb
    go_wp2_with ((refine gQ rfl rfl (i:=9) (v:= .slice Am m.length cm) (cs':= #[.int .u8 0,.int .u8 64,.int .u8 1,.int .u16 (IntKind.u16.wrap p8),.int .u8 2,.int .u16 0,.int .u32 src,.int .u32 dst,.slice none 0 0,.slice Am m.length cm]) bg.out rfl ?fq ?_);(case fq=>(have m_:=(aE bg.out 9).trans (rfl:_=some (.slice Ax x.length cx:Value)));(have nY:=ae bg.out 9);first|(go_simp;done)|(go_simp;rfl));intro qM hs_ ag;have gX:=aa.mk (kS.below ag HB.out ld.out);have jZ:=aa.mk (kS.blk ag aT.out bg.out (by decide));have XQ:=aa.mk (kS.R ag HRm.out bg.out (by decide));clear HB aT HRm bg ag;have bg:=aa.mk hs_;clear hs_;have HB:=gX;have aT:=jZ;have HRm:=XQ;clear gX jZ XQ)
    go_meet
    case rel=>exact ⟨_,_,⟨HRm.out⟩,⟨bg.out⟩,⟨aT.out⟩,⟨HB.out⟩⟩
   ·have ge1:(p7.tmod 5==4)=false:=fc ge
    have ge2:(p7.tmod 5 !=4)=true:=bne_iff_ne.2 ge
    have he:pr=Km /\ x=x2:=by
     have h:=HER.out;unfold bE.er at h
     rw [ax ge] at h
     simp only [Option.some.injEq,Prod.mk.injEq] at h
     exact h
    obtain ⟨rfl,rfl⟩:=he;clear ge
    go_wp2
    go_meet
    case rel=>exact ⟨_,_,⟨nk.out⟩,⟨bg.out⟩,⟨aT.out⟩,⟨HB.out⟩⟩
  case rest=>
   obtain ⟨A,c_,lV,xn,jZ,gX⟩:=hcut;clear nk bg aT HB;have nk:=lV;have bg:=xn;have aT:=jZ;have HB:=gX;clear lV xn jZ gX;have su:=cz aT.out 6 rfl
   go_upto_block 0 with (fail)
   clear su
   go_cut [] from 113 to 132 (fun w'=>∃ (Ao:Option Addr) (co:Nat),aa (Kd.R (Kd.int .u8) 5 w' w.heap.size (fun _=>True) (.slice Ao op.length co) op) /\ aa (Kd.R (Kd.int .u8) 5 w' w.heap.size (fun _=>True) (.slice A x2.length c_) x2) /\ aa (w'.heap[gi]?=some (.cells #[.int .u8 0,.int .u8 ttl,.int .u8 pr3,.int .u16 (IntKind.u16.wrap p8),.int .u8 fl2,.int .u16 of2,.int .u32 src,.int .u32 dst,.slice Ao op.length co,.slice A x2.length c_] 73 (0,0))) /\ aa (w'.heap[gp]?=some (.cells #[.int .u8 p0,.int .u8 p1,.int .u8 p2,.int .u8 p3,.int .u8 p4,.int .u8 p5,.int .u8 p6,.int .u8 p7,.int .u8 p8,.int .u8 p9] 25 (0,0))) /\ aa (Below w.heap.size w w'))
   case first=>
    by_cases t0:p6.tmod 16=0
    ·have t01:(p6.tmod 16==0)=true:=fH t0
     have t02:(p6.tmod 16 !=0)=false:=by rw [bne,t01];rfl
     have e:=HSW.out;unfold bE.sw at e
     rw [au t0] at e
     simp only [Prod.mk.injEq] at e
     obtain ⟨rfl,rfl,rfl,rfl,rfl⟩:=e;clear t0;have su:=cz aT.out 6 rfl
     go_wp2_with (((refine gQ rfl rfl (i:=1) (v:= .int .u8 (p6.tdiv 16 % 256 % 3)) (cs':= #[.int .u8 0,.int .u8 (p6.tdiv 16 % 256 % 3),.int .u8 Km,.int .u16 (IntKind.u16.wrap p8),.int .u8 2,.int .u16 0,.int .u32 src,.int .u32 dst,.slice none 0 0,.slice A x2.length c_]) bg.out rfl ?fq ?_);(case fq=>(have m_:=(aE bg.out 1).trans (rfl:_=some (.int .u8 64:Value)));(have nY:=ae bg.out 1);first|(go_simp;done)|(go_simp;rfl));intro w21 hs_ ag;have gX:=aa.mk (kS.below ag HB.out ld.out);have jZ:=aa.mk (kS.blk ag aT.out bg.out (by decide));have lV:=aa.mk (kS.R ag nk.out bg.out (by decide));clear HB aT nk bg ag;have bg:=aa.mk hs_;clear hs_;have HB:=gX;have aT:=jZ;have nk:=lV;clear gX jZ lV))
     go_meet
     case rel=>exact ⟨_,_,⟨Kd.cl _ _ _ _ _⟩,⟨nk.out⟩,⟨bg.out⟩,⟨aT.out⟩,⟨HB.out⟩⟩
    ·have t01:(p6.tmod 16==0)=false:=fc t0
     have t02:(p6.tmod 16 !=0)=true:=bne_iff_ne.2 t0
     by_cases t1:p6.tmod 16=1
     ·have t11:(p6.tmod 16==1)=true:=fH t1
      have t12:(p6.tmod 16 !=1)=false:=by rw [bne,t11];rfl
      have e:=HSW.out;unfold bE.sw at e
      rw [ax t0] at e
      rw [au t1] at e
      simp only [Prod.mk.injEq] at e
      obtain ⟨rfl,rfl,rfl,rfl,rfl⟩:=e;clear t0 t1
      go_wp2_with (((refine gQ rfl rfl (i:=4) (v:= .int .u8 1) (cs':= #[.int .u8 0,.int .u8 64,.int .u8 Km,.int .u16 (IntKind.u16.wrap p8),.int .u8 1,.int .u16 0,.int .u32 src,.int .u32 dst,.slice none 0 0,.slice A x2.length c_]) bg.out rfl ?fq ?_);(case fq=>(have m_:=(aE bg.out 4).trans (rfl:_=some (.int .u8 2:Value)));(have nY:=ae bg.out 4);first|(go_simp;done)|(go_simp;rfl));intro w21 hs_ ag;have gX:=aa.mk (kS.below ag HB.out ld.out);have jZ:=aa.mk (kS.blk ag aT.out bg.out (by decide));have lV:=aa.mk (kS.R ag nk.out bg.out (by decide));clear HB aT nk bg ag;have bg:=aa.mk hs_;clear hs_;have HB:=gX;have aT:=jZ;have nk:=lV;clear gX jZ lV))
      go_meet
      case rel=>exact ⟨_,_,⟨Kd.cl _ _ _ _ _⟩,⟨nk.out⟩,⟨bg.out⟩,⟨aT.out⟩,⟨HB.out⟩⟩
     ·have t11:(p6.tmod 16==1)=false:=fc t1
      have t12:(p6.tmod 16 !=1)=true:=bne_iff_ne.2 t1
      by_cases t2:p6.tmod 16=2
      ·have t21:(p6.tmod 16==2)=true:=fH t2
       have t22:(p6.tmod 16 !=2)=false:=by rw [bne,t21];rfl
       have e:=HSW.out;unfold bE.sw at e
       rw [ax t0] at e
       rw [ax t1] at e
       rw [au t2] at e
       simp only [Prod.mk.injEq] at e
       obtain ⟨rfl,rfl,rfl,rfl,rfl⟩:=e;clear t0 t1 t2
       go_wp2_with (((refine gQ rfl rfl (i:=5) (v:= .int .u16 5) (cs':= #[.int .u8 0,.int .u8 64,.int .u8 Km,.int .u16 (IntKind.u16.wrap p8),.int .u8 2,.int .u16 5,.int .u32 src,.int .u32 dst,.slice none 0 0,.slice A x2.length c_]) bg.out rfl ?fq ?_);(case fq=>(have m_:=(aE bg.out 5).trans (rfl:_=some (.int .u16 0:Value)));(have nY:=ae bg.out 5);first|(go_simp;done)|(go_simp;rfl));intro w21 hs_ ag;have gX:=aa.mk (kS.below ag HB.out ld.out);have jZ:=aa.mk (kS.blk ag aT.out bg.out (by decide));have lV:=aa.mk (kS.R ag nk.out bg.out (by decide));clear HB aT nk bg ag;have bg:=aa.mk hs_;clear hs_;have HB:=gX;have aT:=jZ;have nk:=lV;clear gX jZ lV))
       go_meet
       case rel=>exact ⟨_,_,⟨Kd.cl _ _ _ _ _⟩,⟨nk.out⟩,⟨bg.out⟩,⟨aT.out⟩,⟨HB.out⟩⟩
      ·have t21:(p6.tmod 16==2)=false:=fc t2
       have t22:(p6.tmod 16 !=2)=true:=bne_iff_ne.2 t2
       by_cases t3:p6.tmod 16=3
       ·have t31:(p6.tmod 16==3)=true:=fH t3
        have t32:(p6.tmod 16 !=3)=false:=by rw [bne,t31];rfl
        have e:=HSW.out;unfold bE.sw at e
        rw [ax t0] at e
        rw [ax t1] at e
        rw [ax t2] at e
        rw [au t3] at e
        simp only [Prod.mk.injEq] at e
        obtain ⟨rfl,rfl,rfl,rfl,rfl⟩:=e;clear t0 t1 t2 t3
        go_wp2_with (((refine gQ rfl rfl (i:=2) (v:= .int .u8 47) (cs':= #[.int .u8 0,.int .u8 64,.int .u8 47,.int .u16 (IntKind.u16.wrap p8),.int .u8 2,.int .u16 0,.int .u32 src,.int .u32 dst,.slice none 0 0,.slice A x2.length c_]) bg.out rfl ?fq ?_);(case fq=>(have m_:=(aE bg.out 2).trans (rfl:_=some (.int .u8 Km:Value)));(have nY:=ae bg.out 2);first|(go_simp;done)|(go_simp;rfl));intro w21 hs_ ag;have gX:=aa.mk (kS.below ag HB.out ld.out);have jZ:=aa.mk (kS.blk ag aT.out bg.out (by decide));have lV:=aa.mk (kS.R ag nk.out bg.out (by decide));clear HB aT nk bg ag;have bg:=aa.mk hs_;clear hs_;have HB:=gX;have aT:=jZ;have nk:=lV;clear gX jZ lV))
        go_meet
        case rel=>exact ⟨_,_,⟨Kd.cl _ _ _ _ _⟩,⟨nk.out⟩,⟨bg.out⟩,⟨aT.out⟩,⟨HB.out⟩⟩
       ·have t31:(p6.tmod 16==3)=false:=fc t3
        have t32:(p6.tmod 16 !=3)=true:=bne_iff_ne.2 t3
        by_cases t4:p6.tmod 16=4
        ·have t41:(p6.tmod 16==4)=true:=fH t4
         have t42:(p6.tmod 16 !=4)=false:=by rw [bne,t41];rfl
         have e:=HSW.out;unfold bE.sw at e
         rw [ax t0] at e
         rw [ax t1] at e
         rw [ax t2] at e
         rw [ax t3] at e
         rw [au t4] at e
         simp only [Prod.mk.injEq] at e
         obtain ⟨rfl,rfl,rfl,rfl,rfl⟩:=e;clear t0 t1 t2 t3 t4
         go_wp2_with (first|((with_reducible refine aA (N:=131) rfl ?_);refine TH .u8 w.heap.size 5 ?gJ (N:=131) ?iS [1,1,1,1] ?fq HB.out (af HB.out) (by simp) ?_;(case iS=>rfl);(case gJ=>rfl);(case fq=>first|(go_simp;done)|(go_simp;rfl));intro Ao co UW ho JF gJ;have bQ:=aa.mk ho;have xn:=aa.mk (gV bg.out gJ (fun h=>nomatch h));have jZ:=aa.mk (gV aT.out gJ (fun h=>nomatch h));have lV:=aa.mk (Kd.wG nk.out (fun k_ _ ql=>gJ.block k_ ql (fun h=>nomatch h)));have gX:=aa.mk JF;clear ho JF gJ;clear bg aT nk HB;have bg:=xn;have aT:=jZ;have nk:=lV;have HB:=gX;clear xn jZ lV gX)|((refine gQ rfl rfl (i:=8) (v:= .slice Ao 4 co) (cs':= #[.int .u8 0,.int .u8 64,.int .u8 Km,.int .u16 (IntKind.u16.wrap p8),.int .u8 2,.int .u16 0,.int .u32 src,.int .u32 dst,.slice Ao 4 co,.slice A x2.length c_]) bg.out rfl ?fq ?_);(case fq=>(have m_:=(aE bg.out 8).trans (rfl:_=some (.slice none 0 0:Value)));(have nY:=ae bg.out 8);first|(go_simp;done)|(go_simp;rfl));intro Ra hs_ ag;have gX:=aa.mk (kS.below ag HB.out ld.out);have jZ:=aa.mk (kS.blk ag aT.out bg.out (by decide));have lV:=aa.mk (kS.R ag nk.out bg.out (by decide));have XR:=aa.mk (kS.R ag bQ.out bg.out (by decide));clear HB aT nk bQ bg ag;have bg:=aa.mk hs_;clear hs_;have HB:=gX;have aT:=jZ;have nk:=lV;have bQ:=XR;clear gX jZ lV XR))
         go_meet
         case rel=>exact ⟨_,_,⟨bQ.out⟩,⟨nk.out⟩,⟨bg.out⟩,⟨aT.out⟩,⟨HB.out⟩⟩
        ·have t41:(p6.tmod 16==4)=false:=fc t4
         have t42:(p6.tmod 16 !=4)=true:=bne_iff_ne.2 t4;have e:=HSW.out;unfold bE.sw at e
         rw [ax t0] at e
         rw [ax t1] at e
         rw [ax t2] at e
         rw [ax t3] at e
         rw [ax t4] at e
         simp only [Prod.mk.injEq] at e
         obtain ⟨rfl,rfl,rfl,rfl,rfl⟩:=e;clear t0 t1 t2 t3 t4
         go_wp2_with (fail)
         go_meet
         case rel=>exact ⟨_,_,⟨Kd.cl _ _ _ _ _⟩,⟨nk.out⟩,⟨bg.out⟩,⟨aT.out⟩,⟨HB.out⟩⟩
   case rest=>
    obtain ⟨Ao,co,bQ,lV,xn,jZ,gX⟩:=hcut;clear nk bg aT HB;have nk:=lV;have bg:=xn;have aT:=jZ;have HB:=gX;clear lV xn jZ gX
    go_wp2_with (refine Kd.bL rfl (br rfl rfl bg.out Try.underlying73 rfl eI.out) ?_)
    refine (aI.calls k 0 ttl pr3 (IntKind.u16.wrap p8) fl2 of2 src dst Ao co op A c_ x2 b be _ (Kd.av bQ.out).2.2 (Kd.av bQ.out).2.1 (Kd.av nk.out).2.2 (Kd.av nk.out).2.1 HBB.out).mono ?_;rintro e Hi ⟨v_,rfl,ho,hb⟩;have bC:=aa.mk (Kd.bP ho (af HB.out));obtain ⟨Ab,cb,rfl,_,_⟩:=Kd.bW ho;clear ho HBB bQ nk bg ld;have ah:=hb;replace HB:=mB HB ah;replace aT:=mX aT ah;clear ah;clear hb
    (try dsimp only)
    have ux:=cz aT.out 9 rfl
    by_cases g7:p9.tmod 8=7
    ·have g71:(p9.tmod 8==7)=true:=fH g7
     have g72:(p9.tmod 8 !=7)=false:=by rw [bne,g71];rfl
     by_cases hl:0<b.length
     ·have clc:decide (0<b.length)=true:=bS (by omega)
      have cla:decide ((0:Int)<(b.length:Int))=true:=bS (by omega);have clb:((0:Int)<(b.length:Int))=True:=eq_true (by omega);obtain ⟨gb,cap,hv,hgb,_,_⟩:=Kd.z9 bC.out hl
      injection hv with h1 h2 h3
      subst h1 h3;obtain ⟨j,hj⟩:∃ j:Nat,(j:Int)=Int.tmod p9 (b.length:Int):=⟨(Int.tmod p9 (b.length:Int)).toNat,Int.toNat_of_nonneg (Int.tmod_nonneg _ HN.out.2.1)⟩
      have hjn:j<b.length:=by
       have h5:Int.tmod p9 (b.length:Int)<(b.length:Int):=Int.tmod_lt_of_pos _ (by omega)
       omega
      obtain ⟨hcb,hfb⟩:=Kd.Pp (0:Int) bC.out (j:Int) (by omega) (by omega);have HCB:aa (Hi.cell? ⟨gb,j,none⟩=some (.int .u8 (rd b (j:Int)))):=⟨hcb⟩
      have HFB:aa (Hi.frozen? ⟨gb,j,none⟩=false):=⟨hfb⟩
      have HGB:=aa.mk hgb;have HJ7:aa (Value.int .i64 (Int.tmod p9 (b.length:Int))= .int .i64 (j:Int)):=⟨by rw [hj]⟩
      have HZ7:aa (¬ b=[]):=⟨fun e=>by rw [e] at hl;exact Nat.lt_irrefl 0 hl⟩
      have HS8:aa (0<=p8.tmod 8 /\ p8.tmod 8<=8):=⟨⟨Int.tmod_nonneg _ HN.out.1.1,by have:=Int.tmod_lt_of_pos p8 (show (0:Int)<8 by decide);omega⟩⟩
      have HJ9:aa (Int.tmod p9 (b.length:Int)=(j:Int)):=⟨hj.symm⟩
      have HWN:aa (wrap64 p9=p9):=⟨by have:=HN.out.2;unfold wrap64;omega⟩
      have HJ8:aa (((j:Int)<(b.length:Int))=True):=⟨eq_true (by omega)⟩
      have HSP:aa (bE.sp p8 p9 b=b.set j (Go.bits .xor .u8 (rd b (j:Int)) (IntKind.u8.wrap (2 ^ (p8.tmod 8).toNat)))):=⟨by unfold bE.sp;rw [au g7,au hl,<- hj,Int.toNat_natCast]⟩
      clear hcb hfb hgb hj hjn h2 hl g7
      go_upto_region 28 with (fail)
      clear g71 g72 cla clb clc ux;refine dg (n:=16) (S:=fun w'=>w'.cell? ⟨gp,9,none⟩=some (.int .u8 p9) /\ w'.cell? ⟨gp,8,none⟩=some (.int .u8 p8) /\ w'.cell? ⟨gb,j,none⟩=some (.int .u8 (rd b (j:Int)))) (ds:=[15]) #[false,false,false,false,false,false,false,false,false,false,false,false,false,false,false,false] (by kernel_rfl) rfl rfl ⟨(aE aT.out 9).trans rfl,(aE aT.out 8).trans rfl,HCB.out⟩ (fun hHeld=> ?_);refine bH bE.R28.tab bE.R28.bits (fun az dW=> ?_);have hb:=bf (Below.refl Hi.heap.size Hi);have XS:=aa.mk (show Hi.drew.cell? ⟨gb,j,none⟩=some (.int .u8 (rd b (j:Int))) from HCB.out);have XT:=aa.mk (show Hi.drew.frozen? ⟨gb,j,none⟩=false from HFB.out);clear HCB HFB;have HCB:=XS;have HFB:=XT;clear XS XT;have ah:=hb
      replace HB:=mB HB ah;replace aT:=mX aT ah;replace bC:=mR bC ah;clear ah;clear hb;generalize Hi.drew=Hi at HB aT bC HCB HFB hHeld|-
      refine pz 0 147 az ?_;refine pz 1 148 az ?_;refine pz 4 151 az ?_;refine pz 5 152 az ?_;refine pz 9 156 az ?_;refine tz 2 149 az dW hHeld ?_;refine pz 3 150 az ?_;refine wI (i:=6) (N:=some 153) (v:= ?_) (a':= ?_) #[true,true,true,true,true,true,true,false,false,true,false,false,false,false,false,false] rfl rfl (wL az.out (by kernel_rfl)) (fun _ _ _ h=>h) (Or.inl ⟨by rfl, ?_⟩) ?_ ?_
      rotate_left
      ·intro w'
       have z7:=HZ7.out;have z8:=HWN.out
       go_simp
       first|exact HJ7.out|exact HJ9.out
      rotate_left
      ·simp only [pL]
       rfl
      refine wI (i:=7) (N:=some 154) (v:= ?_) (a':= ?_) #[true,true,true,true,true,true,true,true,false,true,false,false,false,false,false,false] rfl rfl (wL az.out (by kernel_rfl)) (fun _ _ _ h=>h) (Or.inl ⟨by rfl, ?_⟩) ?_ ?_
      rotate_left
      ·intro w'
       have z7:=HJ8.out
       go_simp
       with_reducible rfl
      rotate_left
      ·simp only [pL]
       rfl
      refine tz 8 155 az dW hHeld ?_;refine tz 10 157 az dW hHeld ?_;refine pz 11 158 az ?_;refine wI (i:=12) (N:=some 159) (v:= ?_) (a':= ?_) #[true,true,true,true,true,true,true,true,true,true,true,true,true,false,false,false] rfl rfl (wL az.out (by kernel_rfl)) (fun _ _ _ h=>h) (Or.inl ⟨by rfl, ?_⟩) ?_ ?_
      rotate_left
      ·intro w'
       have z1:=HS8.out.1;have z2:=HS8.out.2
       go_simp
       with_reducible rfl
      rotate_left
      ·simp only [pL]
       rfl
      refine pz 13 160 az ?_;refine wI (i:=14) (N:=some 161) (v:= ?_) (a':= ?_) #[true,true,true,true,true,true,true,true,true,true,true,true,true,true,true,false] rfl rfl (wL az.out (by kernel_rfl)) (fun _ _ _ h=>h) (Or.inl ⟨by rfl, ?_⟩) ?_ ?_
      rotate_left
      ·intro w'
       have z7:=HJ8.out
       go_simp
       with_reducible rfl
      rotate_left
      ·simp only [pL]
       rfl
      refine AcO (i:=15) (N:=none) #[true,true,true,true,true,true,true,true,true,true,true,true,true,true,true,true] rfl rfl (Pu az.out (by kernel_rfl)) (by decide) (fun K hK=> ?_);have s0:=HCB.out;have KO:=HFB.out;refine wJ (w1:=Hi.setCell ⟨gb,j,none⟩ (.int .u8 (Go.bits .xor .u8 (rd b (j:Int)) (IntKind.u8.wrap (2 ^ (p8.tmod 8).toNat))))) (by rfl) rfl ?_ ?_
      ·go_simp
      clear s0 KO;refine hK.out _ _ ?_;clear hK K;refine dz az ?_;clear az dW hHeld;have YL:=aa.mk (Below.setCell (p:=⟨gb,j,none⟩) HB.out HGB.out (.int .u8 (Go.bits .xor .u8 (rd b (j:Int)) (IntKind.u8.wrap (2 ^ (p8.tmod 8).toNat)))));have HR2:=aa.mk (Kd.FC bC.out (j:Int) (Go.bits .xor .u8 (rd b (j:Int)) (IntKind.u8.wrap (2 ^ (p8.tmod 8).toNat))));clear HB bC aT HCB HFB
      (try dsimp only)
      go_wp2
      (try simp only [Exit.inBlock,Exit.then])
      go_ret
      rw [HSP.out];exact ⟨_,rfl,HR2.out,YL.out⟩
     ·have clc:decide (0<b.length)=false:=gO (by omega)
      have cla:decide ((0:Int)<(b.length:Int))=false:=gO (by omega);have clb:((0:Int)<(b.length:Int))=False:=eq_false (by omega)
      (try dsimp only)
      go_wp2
      (try simp only [Exit.inBlock,Exit.then])
      go_ret
      exact ⟨_,rfl,(by unfold bE.sp;rw [au g7,ax hl];exact bC.out),HB.out⟩
    ·have g71:(p9.tmod 8==7)=false:=fc g7
     have g72:(p9.tmod 8 !=7)=true:=bne_iff_ne.2 g7
     (try dsimp only)
     go_wp2
     (try simp only [Exit.inBlock,Exit.then])
     go_ret
     exact ⟨_,rfl,(by unfold bE.sp;rw [ax g7];exact bC.out),HB.out⟩
def Oy:List Int:=[69,0,0,28,0,0,64,0,64,1,32,209,10,0,0,1,8,8,8,8,8,0,244,23,3,232,0,0]
def VM:List Int:=[69,0,0,28,0,0,64,0,64,1,58,223,0,0,0,1,0,0,0,2,8,0,247,246,0,9,0,0]
def k8D:List Int:=[69,0,0,28,0,0,64,0,63,1,33,209,10,0,0,1,8,8,8,8,8,0,244,23,3,232,0,0]
theorem AbD:bE.f 100 2 0 0 0 0 0 9 0 0 0 0 0=some Oy:=by decide+kernel
def VN:LK:=⟨0,64,1,0,2,0,167772161,134744072,[],[8,0,244,23,3,232,0,0],.wC 8 0 62487 65536000 [],1000,1000,0,[],0⟩
def k8s:LK:=⟨0,64,1,0,2,0,1,2,[],[8,0,247,246,0,9,0,0],.wC 8 0 63478 589824 [],9,9,0,[],0⟩
theorem AbE:vO 100 VN 1 9 2 9 (some [8,0,247,246,0,9,0,0])=some (VM,0):=by decide+kernel
theorem AgW:pointed.f 100 1 9 2 9 (.wC 8 0 62487 65536000 [])=some [8,0,247,246,0,9,0,0]:=by decide+kernel
theorem AbF:q5.f 100 Oy=some (k8D,0):=by decide+kernel
theorem AgX:cX.f 100 Oy=some (0,64,1,0,2,0,167772161,134744072,[],[8,0,244,23,3,232,0,0],0):=by kernel_rfl
theorem AbG:cX.f 100 VM=some (0,64,1,0,2,0,1,2,[],[8,0,247,246,0,9,0,0],0):=by kernel_rfl
theorem AbH:cX.f 100 []=some (0,0,0,0,0,0,0,0,[],[],20):=by kernel_rfl
theorem AgY:pZ 100 0 64 0 2 0 167772161 134744072 [] [8,0,244,23,3,232,0,0]=some VN:=by kernel_rfl
theorem AbI:pZ 100 0 64 0 2 0 1 2 [] [8,0,247,246,0,9,0,0]=some k8s:=by kernel_rfl
theorem XU (A:Option Addr) (c:Nat) (hL:Oy.length<=c) (w:World) (hC:Kd.C (Kd.int .u8) w A Oy.length Oy):Calls Try.prog 69 #[.slice A Oy.length c] w fun e w'=>VN.Post w.heap.size w e w':=look.Gq 100 A c Oy 0 64 0 2 0 167772161 134744072 [] [8,0,244,23,3,232,0,0] VN w hC hL AgX AgY
theorem AbJ (A:Option Addr) (c:Nat) (hL:VM.length<=c) (w:World) (hC:Kd.C (Kd.int .u8) w A VM.length VM):Calls Try.prog 69 #[.slice A VM.length c] w fun e w'=>k8s.Post w.heap.size w e w':=look.Gq 100 A c VM 0 64 0 2 0 1 2 [] [8,0,247,246,0,9,0,0] k8s w hC hL AbG AbI
theorem AbK (c:Nat) (w:World) (hC:Kd.C (Kd.int .u8) w none ([]:List Int).length []):Calls Try.prog 69 #[.slice none ([]:List Int).length c] w fun e w'=>(LK.err 20).Post w.heap.size w e w':=look.Rk 100 none c [] 0 0 0 0 0 0 0 0 [] [] 20 w hC (Nat.zero_le _) AbH (by decide)
theorem AgZ (y:List Int) (hy:some [8,0,247,246,0,9,0,0]=some y) (w:World) (vx:Value) (base:Nat) (hv:VN.x.V w base vx):Calls Try.prog 70 #[vx,.agg #[.int .u32 1,.int .u16 9],.agg #[.int .u32 2,.int .u16 9]] w fun e w'=>∃ vz:Value,e= .returned vz /\ Kd.R (Kd.int .u8) 5 w' w.heap.size (fun _=>True) vz y /\ Below w.heap.size w w':=by
 obtain rfl:=cS hy;obtain ⟨v4,rfl,h4⟩:=hv;exact pointed.MP 100 1 9 2 9 8 0 62487 65536000 [] v4 _ w h4 AgW
theorem E7 {P:Program} {o:Oper} {a:Act} {w:World} {b k:Nat} {ty:TypeId} {p:Operand} {cs:List Value} {d:TypeDesc} (ho:o.op= .load ty p) (hp:a.eval p= .pointer (some ⟨b,k,none⟩)) (hc:w.rangeAt b k cs) (hu:P.underlying ty=some d) (hd:d.isRow=true) (hi:(P.info? ty).map (·.size)=some cs.length):
  (execOp a.eval o).run P w= .ok (.value (.agg cs.toArray)) w:=by
 have h:=run_loadAt_mid (P:=P) w b k ty cs d hc hu hd hi;unfold execOp;simp only [ho,hp]
 simp [h,Sem.run_bind,Result.andThen]
def xo.R7.T:Bool×List (List Nat×List Nat):=(true,[([],[]),([],[]),([0,1],[0,1]),([],[]),([2,3],[2,3]),([],[]),([4,5],[4,5]),([6],[6]),([7],[7]),([8],[8]),([9,8],[8,9]),([8,10],[8,10]),([11,8],[11]),([12],[12]),([13,12],[12,13]),([14,12],[12,14]),([15,12],[12,15]),([12,16],[12,16]),([17,12],[17]),([18],[18]),([19,18],[18,19]),([18],[18]),([20,21,18],[18,20,21]),([18,22],[18,22]),([23,18],[23]),([24],[24]),([25,24],[24,25]),([24],[24]),([26,27,24],[24,26,27]),([24,28],[24,28]),([29,24],[29]),([30],[30]),([31,30],[30,31]),([30],[30]),([33,30],[30,33]),([32,34,30],[30,32,34]),([30,35],[30,35]),([36,30],[36]),([37],[37]),([38,37],[37,38]),([39,37],[37,39]),([37],[37]),([41,37],[37,41]),([42,37],[37,42]),([43,37],[37,43]),([40,44,37],[37,40,44]),([37,45],[37,45]),([46,37,0,1,2,3,4,5,6,7,8,9,10,11,12,13,14,15,16,17,18,19,20,21,22,23,24,25,26,27,28,29,30,31,32,33,34,35,36,37,38,39,40,41,42,43,44,45,46],[46])])
theorem xo.R7.tab:gS .any (opsOf Try.f30 7)=xo.R7.T:=by kernel_rfl
theorem xo.R7.bits:dN xo.R7.T.2 [0,0,3,0,15,0,63,127,255,511,1023,2047,4095,8191,16383,32767,65535,131071,262143,524287,1048575,524287,4194303,8388607,16777215,33554431,67108863,33554431,268435455,536870911,1073741823,2147483647,4294967295,2147483647,10737418239,34359738367,68719476735,137438953471,274877906943,549755813887,1099511627775,274877906943,2473901162495,6871947673599,15668040695807,35184372088831,70368744177663,140737488355327]=true:=by kernel_rfl
theorem xo.calls (w:World):Calls Try.prog 30 #[] w fun e w'=>e= .returned (.bool true) /\ Below w.heap.size w w':=by
 have iQ:=Try.underlying65;have jb:=Try.underlying73;have nn:=Try.underlying76;have HB:=gj w;have fL:aa ((Try.prog.info? 65).map (·.size)=some 2):=⟨by kernel_rfl⟩
 have eI:aa ((Try.prog.info? 73).map (·.size)=some 10):=⟨by kernel_rfl⟩
 have iN:aa ((Try.prog.info? 76).map (·.size)=some 7):=⟨by kernel_rfl⟩
 go_enter Try.func30,Try.ntmps30
 go_wp2_with fail
 refine (bE.calls 100 2 0 0 0 0 0 9 0 0 0 0 0 Oy _ ⟨⟨by decide,by decide⟩,by decide,by decide⟩ AbD).mono ?_;rintro ev w1 ⟨vb,rfl,ho,hb⟩;have bC:=aa.mk (Kd.bP ho (af HB.out));clear ho;have ah:=hb;replace HB:=mB HB ah;clear ah;clear hb;obtain ⟨gb,cb,rfl,hgb,_,_⟩:=Kd.z9 bC.out (by decide);have HGb:=aa.mk hgb;clear hgb
 (try dsimp only)
 go_wp2_with fail
 refine (vN.via (some ⟨gb,0,none⟩) cb Oy _ _ (Kd.av bC.out).2.2 (Kd.av bC.out).2.1 (XU _ _ (Kd.av bC.out).2.1)).mono ?_;rintro ev w2 hpost;obtain ⟨v8,v9,vi,rfl,El,xR,hi,hb⟩:=hpost;obtain ⟨A8,c8,rfl,_,_⟩:=Kd.bW El;obtain ⟨A9,c9,rfl,_,_⟩:=Kd.bW xR;obtain ⟨Aia,cia,rfl,_,_⟩:=Kd.bW hi;clear El xR hi;have ah:=hb;replace HB:=mB HB ah;replace bC:=mR bC ah;clear ah;clear hb;dsimp only [LK.err,VN,k8s]
 go_upto_region 3 with (first|((with_reducible refine aA (N:=2) rfl ?_);refine aC ?gJ (N:=2) ?iS (cs:= #[.int .u8 0,.int .u8 0,.int .u8 0,.int .u16 0,.int .u8 0,.int .u16 0,.int .u32 0,.int .u32 0,.slice none 0 0,.slice none 0 0]) (t:=73) ?fq ?_;(case iS=>rfl);(case gJ=>rfl);(case fq=>first|(go_simp;done)|(go_simp;rfl));intro g1 cv w3 bJ cP;have XV:=aa.mk (show w.heap.size<=g1 by rw [cv];exact af HB.out);have GY:=aa.mk bJ;have ah:=cP;replace HB:=mB HB ah;replace bC:=mR bC ah;clear ah;clear cv bJ cP)|((with_reducible refine aA (N:=3) rfl ?_);refine aC ?gJ (N:=3) ?iS (cs:= #[.int .u8 0,.int .u32 0,.int .u16 0,.int .u32 0,.int .u16 0,.int .u8 0,.slice none 0 0]) (t:=76) ?fq ?_;(case iS=>rfl);(case gJ=>rfl);(case fq=>first|(go_simp;done)|(go_simp;rfl));intro g2 cv w4 bJ cP;have Ag0:=aa.mk (show w.heap.size<=g2 by rw [cv];exact af HB.out);have oJ:=aa.mk bJ;have ah:=cP;replace HB:=mB HB ah;replace bC:=mR bC ah;replace GY:=mX GY ah;clear ah;clear cv bJ cP)|((refine dO rfl rfl rfl rfl rfl GY.out eI.out rfl (by simp [Value.oneCell']) ?_);intro w5 hs_ ag;replace bC:=oR ag bC GY (by decide);replace oJ:=oX ag oJ GY (by decide);replace HB:=oB ag HB XV;clear ag;replace GY:=aa.mk hs_;clear hs_)|((refine dO rfl rfl rfl rfl rfl oJ.out iN.out rfl (by simp [Value.oneCell']) ?_);intro w6 hs_ ag;replace bC:=oR ag bC oJ (by decide);replace GY:=oX ag GY oJ (by decide);replace HB:=oB ag HB Ag0;clear ag;replace oJ:=aa.mk hs_;clear hs_))
 clear GY;clear XV
 (try dsimp only)
 go_wp2_with fail
 refine (jY.via 100 (some ⟨gb,0,none⟩) cb Oy VN 1 9 2 9 _ VM 0 _ (Kd.av bC.out).2.2 (Kd.av bC.out).2.1 (XU _ _ (Kd.av bC.out).2.1) AgZ AbE).mono ?_;rintro ev w7 ⟨vc,rfl,ho,hb⟩;have LD:=aa.mk (Kd.bP ho (af HB.out));clear ho;obtain ⟨Ac,cc,rfl,_,_⟩:=Kd.bW LD.out;have ah:=hb;replace HB:=mB HB ah;replace bC:=mR bC ah;replace oJ:=mX oJ ah;clear ah;clear hb
 (try dsimp only)
 go_wp2_with fail
 refine (vN.via Ac cc VM _ _ (Kd.av LD.out).2.2 (Kd.av LD.out).2.1 (AbJ _ _ (Kd.av LD.out).2.1)).mono ?_;rintro ev w8 hpost;obtain ⟨v8,v9,vi,rfl,El,xR,hi,hb⟩:=hpost;obtain ⟨A8,c8,rfl,_,_⟩:=Kd.bW El;obtain ⟨A9,c9,rfl,_,_⟩:=Kd.bW xR;obtain ⟨Aib,cib,rfl,_,_⟩:=Kd.bW hi;clear El xR hi;have ah:=hb;replace HB:=mB HB ah;replace bC:=mR bC ah;replace oJ:=mX oJ ah;replace LD:=mR LD ah;clear ah;clear hb;dsimp only [LK.err,VN,k8s]
 go_upto_region 5 with (first|((with_reducible refine aA (N:=7) rfl ?_);refine aC ?gJ (N:=7) ?iS (cs:= #[.int .u8 0,.int .u8 0,.int .u8 0,.int .u16 0,.int .u8 0,.int .u16 0,.int .u32 0,.int .u32 0,.slice none 0 0,.slice none 0 0]) (t:=73) ?fq ?_;(case iS=>rfl);(case gJ=>rfl);(case fq=>first|(go_simp;done)|(go_simp;rfl));intro g3 cv w9 bJ cP;have XW:=aa.mk (show w.heap.size<=g3 by rw [cv];exact af HB.out);have Dy:=aa.mk bJ;have ah:=cP;replace HB:=mB HB ah;replace bC:=mR bC ah;replace oJ:=mX oJ ah;replace LD:=mR LD ah;clear ah;clear cv bJ cP)|((with_reducible refine aA (N:=8) rfl ?_);refine aC ?gJ (N:=8) ?iS (cs:= #[.int .u8 0,.int .u32 0,.int .u16 0,.int .u32 0,.int .u16 0,.int .u8 0,.slice none 0 0]) (t:=76) ?fq ?_;(case iS=>rfl);(case gJ=>rfl);(case fq=>first|(go_simp;done)|(go_simp;rfl));intro g4 cv j4 bJ cP;have Ag1:=aa.mk (show w.heap.size<=g4 by rw [cv];exact af HB.out);have uq:=aa.mk bJ;have GZ:aa (g2≠g4):=⟨by rw [cv];exact (dJ oJ).out⟩;have ah:=cP;replace HB:=mB HB ah;replace bC:=mR bC ah;replace oJ:=mX oJ ah;replace LD:=mR LD ah;replace Dy:=mX Dy ah;clear ah;clear cv bJ cP)|((refine dO rfl rfl rfl rfl rfl Dy.out eI.out rfl (by simp [Value.oneCell']) ?_);intro qf hs_ ag;replace bC:=oR ag bC Dy (by decide);replace oJ:=oX ag oJ Dy (by decide);replace LD:=oR ag LD Dy (by decide);replace uq:=oX ag uq Dy (by decide);replace HB:=oB ag HB XW;clear ag;replace Dy:=aa.mk hs_;clear hs_)|((refine dO rfl rfl rfl rfl rfl uq.out iN.out rfl (by simp [Value.oneCell']) ?_);intro l5 hs_ ag;replace bC:=oR ag bC uq (by decide);replace oJ:=oN ag oJ GZ;replace LD:=oR ag LD uq (by decide);replace Dy:=oX ag Dy uq (by decide);replace HB:=oB ag HB Ag1;clear ag;replace uq:=aa.mk hs_;clear hs_))
 clear Dy LD;clear XW
 (try dsimp only)
 go_wp2_with fail
 refine (vN.via none 0 [] _ _ (Kd.Cs _ _) (Nat.le_refl _) (AbK _)).mono ?_;rintro ev sR hpost;obtain ⟨v8,v9,vi,rfl,El,xR,hi,hb⟩:=hpost;obtain ⟨A8,c8,rfl,_,_⟩:=Kd.bW El;obtain ⟨A9,c9,rfl,_,_⟩:=Kd.bW xR;obtain ⟨Aic,cic,rfl,_,_⟩:=Kd.bW hi;clear El xR hi;have ah:=hb;replace HB:=mB HB ah;replace bC:=mR bC ah;replace oJ:=mX oJ ah;replace uq:=mX uq ah;clear ah;clear hb;dsimp only [LK.err,VN,k8s]
 go_upto_region 6 with (first|((with_reducible refine aA (N:=10) rfl ?_);refine aC ?gJ (N:=10) ?iS (cs:= #[.int .u8 0,.int .u8 0,.int .u8 0,.int .u16 0,.int .u8 0,.int .u16 0,.int .u32 0,.int .u32 0,.slice none 0 0,.slice none 0 0]) (t:=73) ?fq ?_;(case iS=>rfl);(case gJ=>rfl);(case fq=>first|(go_simp;done)|(go_simp;rfl));intro g5 cv qN bJ cP;have XX:=aa.mk (show w.heap.size<=g5 by rw [cv];exact af HB.out);have Dz:=aa.mk bJ;have ah:=cP;replace HB:=mB HB ah;replace bC:=mR bC ah;replace oJ:=mX oJ ah;replace uq:=mX uq ah;clear ah;clear cv bJ cP)|((with_reducible refine aA (N:=11) rfl ?_);refine aC ?gJ (N:=11) ?iS (cs:= #[.int .u8 0,.int .u32 0,.int .u16 0,.int .u32 0,.int .u16 0,.int .u8 0,.slice none 0 0]) (t:=76) ?fq ?_;(case iS=>rfl);(case gJ=>rfl);(case fq=>first|(go_simp;done)|(go_simp;rfl));intro g6 cv yE bJ cP;have XY:=aa.mk (show w.heap.size<=g6 by rw [cv];exact af HB.out);have LF:=aa.mk bJ;have G0:aa (g2≠g6):=⟨by rw [cv];exact (dJ oJ).out⟩;have G1:aa (g4≠g6):=⟨by rw [cv];exact (dJ uq).out⟩;have ah:=cP;replace HB:=mB HB ah;replace bC:=mR bC ah;replace oJ:=mX oJ ah;replace uq:=mX uq ah;replace Dz:=mX Dz ah;clear ah;clear cv bJ cP)|((refine dO rfl rfl rfl rfl rfl Dz.out eI.out rfl (by simp [Value.oneCell']) ?_);intro qM hs_ ag;replace bC:=oR ag bC Dz (by decide);replace oJ:=oX ag oJ Dz (by decide);replace uq:=oX ag uq Dz (by decide);replace LF:=oX ag LF Dz (by decide);replace HB:=oB ag HB XX;clear ag;replace Dz:=aa.mk hs_;clear hs_)|((refine dO rfl rfl rfl rfl rfl LF.out iN.out rfl (by simp [Value.oneCell']) ?_);intro Bm hs_ ag;replace bC:=oR ag bC LF (by decide);replace oJ:=oN ag oJ G0;replace uq:=oN ag uq G1;replace Dz:=oX ag Dz LF (by decide);replace HB:=oB ag HB XY;clear ag;replace LF:=aa.mk hs_;clear hs_))
 clear Dz LF;clear XX XY
 (try dsimp only)
 go_wp2_with fail
 refine (q5.calls 100 (some ⟨gb,0,none⟩) cb Oy k8D 0 _ (Kd.av bC.out).2.2 (Kd.av bC.out).2.1 AbF).mono ?_;rintro ev Mr ⟨vd,rfl,ho,hb⟩;have HRd:=aa.mk (Kd.bP ho (af HB.out));clear ho;have ah:=hb;replace HB:=mB HB ah;replace bC:=mR bC ah;replace oJ:=mX oJ ah;replace uq:=mX uq ah;clear ah;clear hb;obtain ⟨gd,cd,rfl,hgd,_,_⟩:=Kd.z9 HRd.out (by decide);have HGd:=aa.mk hgd;clear hgd
 (try dsimp only)
 go_upto_region 7 with (fail)
 have HSb:aa (Mr.cell? ⟨gb,8,none⟩=some (.int .u8 64)):=⟨(Kd.mO (0:Int) bC.out ((8:Nat):Int) (by decide) (by decide)).1⟩
 have HSd:aa (Mr.cell? ⟨gd,8,none⟩=some (.int .u8 63)):=⟨(Kd.mO (0:Int) HRd.out ((8:Nat):Int) (by decide) (by decide)).1⟩
 refine dg (n:=48) (S:=fun w'=>w'.heap[g2]?=some (.cells #[.int .u8 1,.int .u32 167772161,.int .u16 1000,.int .u32 134744072,.int .u16 1000,.int .u8 0,.slice Aia ([]:List nj).length cia] 76 (0,0)) /\ w'.heap[g4]?=some (.cells #[.int .u8 1,.int .u32 1,.int .u16 9,.int .u32 2,.int .u16 9,.int .u8 0,.slice Aib ([]:List nj).length cib] 76 (0,0)) /\ w'.cell? ⟨gb,8,none⟩=some (.int .u8 64) /\ w'.cell? ⟨gd,8,none⟩=some (.int .u8 63)) (ds:=[]) #[false,false,false,false,false,false,false,false,false,false,false,false,false,false,false,false,false,false,false,false,false,false,false,false,false,false,false,false,false,false,false,false,false,false,false,false,false,false,false,false,false,false,false,false,false,false,false,false] (by kernel_rfl) rfl rfl ⟨oJ.out,uq.out,HSb.out,HSd.out⟩ (fun hHeld=> ?_)
 refine bH xo.R7.tab xo.R7.bits (fun az dW=> ?_);have ah:=bf (Below.refl Mr.heap.size Mr);have gX:=aa.mk (aq HB.out ah);clear HB ah;have HB:=gX;clear gX;refine pz 0 46 az ?_;refine pz 1 47 az ?_;refine pv 2 48 (.int .i64 0) az ?_ ?_
 ·intro w'
  first|(go_simp;done)|(go_simp;rfl)|(go_simp;decide)
 refine nz 48 ?_;refine pz 3 49 az ?_;refine pv 4 50 (.int .i64 0) az ?_ ?_
 ·intro w'
  first|(go_simp;done)|(go_simp;rfl)|(go_simp;decide)
 refine nz 50 ?_;refine pz 5 51 az ?_;refine pv 6 52 (.int .i64 0) az ?_ ?_
 ·intro w'
  first|(go_simp;done)|(go_simp;rfl)|(go_simp;decide)
 refine nz 52 ?_;refine pv 7 53 (.bool true) az ?_ ?_
 ·intro w'
  first|(go_simp;done)|(go_simp;rfl)|(go_simp;decide)
 refine nz 53 ?_;refine pz 8 54 az ?_;refine pz 9 55 az ?_;refine pv 10 56 (.bool true) az ?_ ?_
 ·intro w'
  first|(go_simp;done)|(go_simp;rfl)|(go_simp;decide)
 refine nz 56 ?_;refine pv 11 57 (.bool true) az ?_ ?_
 ·intro w'
  first|(go_simp;done)|(go_simp;rfl)|(go_simp;decide)
 refine nz 57 ?_;refine pz 12 58 az ?_;refine pz 13 59 az ?_;refine pz 14 60 az ?_;refine gK (i:=15) (N:=some 61) (v:= ?_) (a':= ?_) #[true,true,true,true,true,true,true,true,true,true,true,true,true,true,true,true,false,false,false,false,false,false,false,false,false,false,false,false,false,false,false,false,false,false,false,false,false,false,false,false,false,false,false,false,false,false,false,false] rfl rfl (dn az.out dW.out (by kernel_rfl)) (fun _ _ _ h=>h) (Or.inl ⟨by rfl, ?_⟩) hHeld ?_ ?_
 rotate_left
 ·intro w' s0
  obtain ⟨s0,s1,s2,s3⟩:=s0;have s0_:=(aE s0 2).trans (rfl:_=some (.int .u16 1000:Value))
  go_simp
  with_reducible rfl
 rotate_left
 ·simp only [pL]
  rfl
 refine pv 16 62 (.bool true) az ?_ ?_
 ·intro w'
  first|(go_simp;done)|(go_simp;rfl)|(go_simp;decide)
 refine nz 62 ?_;refine pv 17 63 (.bool true) az ?_ ?_
 ·intro w'
  first|(go_simp;done)|(go_simp;rfl)|(go_simp;decide)
 refine nz 63 ?_;refine pz 18 64 az ?_;refine pz 19 65 az ?_;refine pz 21 67 az ?_;refine tv 20 66 (.agg #[.int .u32 1,.int .u16 9]) az dW hHeld ?_ ?_
 ·intro w' s0
  obtain ⟨s0,s1,s2,s3⟩:=s0;exact E7 (p:= .tmp 65) (ty:=65) (cs:=[.int .u32 1,.int .u16 9]) (by rfl) (by rfl) (World.rangeAt_of_block s1 1 2) iQ (by rfl) fL.out
 refine nz 66 ?_;refine pv 22 68 (.bool true) az ?_ ?_
 ·intro w'
  first|(go_simp;done)|(go_simp;rfl)|(go_simp;decide)
 refine nz 68 ?_;refine pv 23 69 (.bool true) az ?_ ?_
 ·intro w'
  first|(go_simp;done)|(go_simp;rfl)|(go_simp;decide)
 refine nz 69 ?_;refine pz 24 70 az ?_;refine pz 25 71 az ?_;refine pz 27 73 az ?_;refine tv 26 72 (.agg #[.int .u32 2,.int .u16 9]) az dW hHeld ?_ ?_
 ·intro w' s0
  obtain ⟨s0,s1,s2,s3⟩:=s0;exact E7 (p:= .tmp 71) (ty:=65) (cs:=[.int .u32 2,.int .u16 9]) (by rfl) (by rfl) (World.rangeAt_of_block s1 3 2) iQ (by rfl) fL.out
 refine nz 72 ?_;refine pv 28 74 (.bool true) az ?_ ?_
 ·intro w'
  first|(go_simp;done)|(go_simp;rfl)|(go_simp;decide)
 refine nz 74 ?_;refine pv 29 75 (.bool true) az ?_ ?_
 ·intro w'
  first|(go_simp;done)|(go_simp;rfl)|(go_simp;decide)
 refine nz 75 ?_;refine pz 30 76 az ?_;refine pz 31 77 az ?_;refine pz 32 78 az ?_;refine pz 33 79 az ?_;refine pz 34 80 az ?_;refine pv 35 81 (.bool true) az ?_ ?_
 ·intro w'
  first|(go_simp;done)|(go_simp;rfl)|(go_simp;decide)
 refine nz 81 ?_;refine pv 36 82 (.bool true) az ?_ ?_
 ·intro w'
  first|(go_simp;done)|(go_simp;rfl)|(go_simp;decide)
 refine nz 82 ?_;refine pz 37 83 az ?_;refine pz 38 84 az ?_;refine wI (i:=39) (N:=some 85) (v:= ?_) (a':= ?_) #[true,true,true,true,true,true,true,true,true,true,true,true,true,true,true,true,true,true,true,true,true,true,true,true,true,true,true,true,true,true,true,true,true,true,true,true,true,true,true,true,false,false,false,false,false,false,false,false] rfl rfl (wL az.out (by kernel_rfl)) (fun _ _ _ h=>h) (Or.inl ⟨by rfl, ?_⟩) ?_ ?_
 rotate_left
 ·intro w'
  have z_:((8:Int)<(k8D.length:Int))=True:=eq_true (by decide)
  go_simp
  with_reducible rfl
 rotate_left
 ·simp only [pL]
  rfl
 refine pz 41 87 az ?_;refine wI (i:=42) (N:=some 88) (v:= ?_) (a':= ?_) #[true,true,true,true,true,true,true,true,true,true,true,true,true,true,true,true,true,true,true,true,true,true,true,true,true,true,true,true,true,true,true,true,true,true,true,true,true,true,true,true,false,true,true,false,false,false,false,false] rfl rfl (wL az.out (by kernel_rfl)) (fun _ _ _ h=>h) (Or.inl ⟨by rfl, ?_⟩) ?_ ?_
 rotate_left
 ·intro w'
  have z_:((8:Int)<(Oy.length:Int))=True:=eq_true (by decide)
  go_simp
  with_reducible rfl
 rotate_left
 ·simp only [pL]
  rfl
 refine tz 40 86 az dW hHeld ?_;refine tz 43 89 az dW hHeld ?_;refine pv 44 90 (.int .u8 63) az ?_ ?_
 ·intro w'
  first|(go_simp;done)|(go_simp;rfl)|(go_simp;decide)
 refine nz 90 ?_;refine pv 45 91 (.bool true) az ?_ ?_
 ·intro w'
  first|(go_simp;done)|(go_simp;rfl)|(go_simp;decide)
 refine nz 91 ?_;refine pv 46 92 (.bool true) az ?_ ?_
 ·intro w'
  first|(go_simp;done)|(go_simp;rfl)|(go_simp;decide)
 refine nz 92 ?_;refine pz 47 0 az ?_;refine dz az ?_;clear az dW hHeld
 (try dsimp only)
 go_wp2
 (try simp only [Exit.inBlock,Exit.then])
 go_ret
 exact ⟨by first|rfl|decide,HB.out⟩
attribute [local go_sem] dF dG eG eH cQ cR dH dI
def aX.f (l0:List Int) (a1:Int):Option (Int):=if 0<=a1 then (if a1<(l0.length:Int) then (if 0<=(wrap64 (a1+1)) then (if (wrap64 (a1+1))<(l0.length:Int) then (some (Go.bits .or .u16 (IntKind.u16.wrap ((IntKind.u16.wrap (rd l0 a1))*256)) (IntKind.u16.wrap (rd l0 (wrap64 (a1+1)))))) else (none)) else (none)) else (none)) else (none)
theorem aX.calls (A0:Option Addr) (c0:Nat) (l0:List Int) (a1:Int) (r:Int) (w:World) (hr0:Kd.C (Kd.int .u8) w A0 l0.length l0) (hc0:l0.length<=c0) (h:aX.f l0 a1=some r):
  Calls Try.prog 64 #[.slice A0 l0.length c0,.int .i64 a1] w fun e w'=>e= .returned (.int .u16 r) /\ bF w w':=by
 have gh:=aa.mk hr0;have jC:=aa.mk hc0;clear hr0 hc0;have H:(if 0<=a1 then (if a1<(l0.length:Int) then (if 0<=(wrap64 (a1+1)) then (if (wrap64 (a1+1))<(l0.length:Int) then (some (Go.bits .or .u16 (IntKind.u16.wrap ((IntKind.u16.wrap (rd l0 a1))*256)) (IntKind.u16.wrap (rd l0 (wrap64 (a1+1)))))) else (none)) else (none)) else (none)) else (none))=some r:=h;clear h
 by_cases c3:0<=a1
 ·rw [au c3] at H
  have oY:decide (0<=a1)=true:=bS c3;clear c3
  by_cases c4:a1<(l0.length:Int)
  ·rw [au c4] at H
   have mH:decide (a1<(l0.length:Int))=true:=bS c4;clear c4;obtain ⟨wU,zk⟩:∃ j_:Int,(wrap64 (a1+1))=j_:=⟨_,rfl⟩
   replace H:(if 0<=(wU) then (if (wU)<(l0.length:Int) then (some (Go.bits .or .u16 (IntKind.u16.wrap ((IntKind.u16.wrap (rd l0 a1))*256)) (IntKind.u16.wrap (rd l0 (wU))))) else (none)) else (none))=some r:=by first|(rw [zk] at H;exact H)|(simp only [zk] at H|-;exact H)
   have Ww:(IntKind.i64.wrap (a1+1))=wU:=(jk _).trans zk
   by_cases c6:0<=(wU)
   ·rw [au c6] at H
    have sG:decide (0<=(wU))=true:=bS c6;clear c6
    by_cases c7:(wU)<(l0.length:Int)
    ·rw [au c7] at H
     have Ah:decide ((wU)<(l0.length:Int))=true:=bS c7;clear c7;obtain rfl:=cS H;have AbL:0<=(a1:Int):=gD;have AbM:a1<(l0.length:Int):=gD;obtain ⟨Ag2,An0,AjF⟩:=Kd.dB gh.out a1 AbL AbM
     cases An0
     replace AbL:=eq_true AbL;replace AbM:=eq_true AbM;have AbN:0<=((wU):Int):=gD;have AbO:(wU)<(l0.length:Int):=gD;obtain ⟨Ag3,An1,AjG⟩:=Kd.dB gh.out (wU) AbN AbO;obtain rfl:Ag2=Ag3:=(by injection An1)
     replace AbN:=eq_true AbN;replace AbO:=eq_true AbO
     go_enter Try.func64,Try.ntmps64
     go_wp2
     repeat (go_quiet (fail);try go_wp2)
     go_ret
     exact ⟨by first|rfl|(simp;done)|(simp only [<- zk]<;>(first|rfl|simp))|(simp [*];done),by repeat (first|exact bF.refl _|apply bF.step)⟩
    ·rw [ax c7] at H
     cases H
   ·rw [ax c6] at H
    cases H
  ·rw [ax c4] at H
   cases H
 ·rw [ax c3] at H
  cases H
def ew.f (l0:List Int) (a1:Int) (a2:Int):Option (List Int):=if 0<=a1 then (if a1<=a2 then (if a2<=(l0.length:Int) then (if ([]:List Int).length+((l0.take (a2:Int).toNat).drop (a1:Int).toNat).length<140737488355328 then (some (([]:List Int)++((l0.take (a2:Int).toNat).drop (a1:Int).toNat))) else (none)) else (none)) else (none)) else (none)
theorem ew.calls (A0:Option Addr) (c0:Nat) (l0:List Int) (a1:Int) (a2:Int) (r:List Int) (w:World) (hr0:Kd.C (Kd.int .u8) w A0 l0.length l0) (hc0:l0.length<=c0) (h:ew.f l0 a1 a2=some r):
  Calls Try.prog 65 #[.slice A0 l0.length c0,.int .i64 a1,.int .i64 a2] w fun e w'=>∃ o6:Value,e= .returned (o6) /\ Kd.R (Kd.int .u8) 5 w' w.heap.size (fun _=>True) o6 r /\ Below w.heap.size w w':=by
 have gh:=aa.mk hr0;have jC:=aa.mk hc0;clear hr0 hc0;have HB:=gj w;have H:(if 0<=a1 then (if a1<=a2 then (if a2<=(l0.length:Int) then (if ([]:List Int).length+((l0.take (a2:Int).toNat).drop (a1:Int).toNat).length<140737488355328 then (some (([]:List Int)++((l0.take (a2:Int).toNat).drop (a1:Int).toNat))) else (none)) else (none)) else (none)) else (none))=some r:=h;clear h
 by_cases c4:0<=a1
 ·rw [au c4] at H
  have mH:=eq_true c4;have xQ:decide (0<=a1)=true:=bS c4;clear c4
  by_cases c5:a1<=a2
  ·rw [au c5] at H
   have mS:=eq_true c5;have qz:decide (a1<=a2)=true:=bS c5;clear c5
   by_cases c6:a2<=(l0.length:Int)
   ·rw [au c6] at H
    have sG:=eq_true c6;have Il:decide (a2<=(l0.length:Int))=true:=bS c6;clear c6
    by_cases c7:([]:List Int).length+((l0.take (a2:Int).toNat).drop (a1:Int).toNat).length<140737488355328
    ·rw [au c7] at H
     have FJ:=aa.mk c7;clear c7;obtain ⟨Au7,Sn⟩:∃ y_:List Int,y_=(([]:List Int)++((l0.take (a2:Int).toNat).drop (a1:Int).toNat)):=⟨_,rfl⟩
     rw [<- Sn] at H
     have Ag4:=aa.mk Sn;clear Sn;obtain rfl:=cS H;obtain ⟨i08,Ag5,_,Ag6,_⟩:=info_parts gB;obtain ⟨A8,ArF,hA8,hC8⟩:=uK (P:=Try.prog) (Value.int .u8) 0 23 5 .i64 .i64 Try.underlying23 Ag5 Ag6 A0 c0 l0 a1 a2 gD (by first|omega|exact gD) gD jC.out;have XZ:=aa.mk (Kd.dD (h1:=fun _=>rfl) (hA8 _ (Kd.dc gh.out)));have ArI:=aa.mk hC8;clear hA8 hC8 Ag5 Ag6
     go_enter Try.func65,Try.ntmps65
     go_wp2_with (first|((with_reducible refine fo (b:= .append) (xs:= #[.const (.slice none 0 0),.tmp 10]) rfl ?_);at_builtin;refine Kd.gC (Kd.int .u8) (w0:=w) w.heap.size rfl (.const (.slice none 0 0)) (.tmp 10) 23 5 (.int .u8 0) 1 rfl Try.underlying23 gB rfl (by decide) (by omega) (.slice none 0 0) ([]:List Int) ((l0.take (a2:Int).toNat).drop (a1:Int).toNat) _ _ _ (fun _=>True) (fun _=>False) rfl rfl ?aO ?aR (fun _ _ h=>h) (fun _ h=>h.elim) ?aF ?aB ?aS ?aL ?_;(case aR=>first|(rw [<- show ((l0.take (a2:Int).toNat).drop (a1:Int).toNat).length=(a2.toNat - a1.toNat) from (by rw [List.length_drop,List.length_take];have h_:(a2:Int)<=(l0.length:Int):=gD;omega)];repeat (first|exact XZ.out|(with_reducible refine Kd.fD ?_ _)|(with_reducible refine Kd.fj ?_ _)|(with_reducible refine Kd.gP ?_)))|(repeat (first|exact XZ.out|(with_reducible refine Kd.fD ?_ _)|(with_reducible refine Kd.fj ?_ _)|(with_reducible refine Kd.gP ?_))));(case aB=>exact bz HB);(case aF=>exact (fun _ _=>trivial));(case aO=>exact ((Kd.cl _ _ _ _ (fun _=>True))));(case aS=>exact (af (bz HB)));(case aL=>have:=FJ.out;have Au8:=(show ((l0.take (a2:Int).toNat).drop (a1:Int).toNat).length=(a2.toNat - a1.toNat) from (by rw [List.length_drop,List.length_take];have h_:(a2:Int)<=(l0.length:Int):=gD;omega));omega);intro Au9 w9 ho hb hg hat;rw [<- Ag4.out] at ho;have aJ:=aa.mk (hb);have aQ:=aa.mk (ho);clear HB;have HB:=aJ;have Ag7:=aQ;clear aJ aQ;clear ho hb hg hat))
     go_ret
     exact ⟨_,by first|rfl|(simp [aj,ak]<;>rfl)|(simp [*,aj,ak]<;>rfl),by (with_reducible repeat (first|apply Kd.eX|apply Kd.eT|apply Kd.eY));exact Ag7.out,bz HB⟩
    ·rw [ax c7] at H
     cases H
   ·rw [ax c6] at H
    cases H
  ·rw [ax c5] at H
   cases H
 ·rw [ax c4] at H
  cases H
attribute [local go_sem] dF dG eG eH cQ cR dH dI
def dL.f (l0:List Int) (a1:Int):Option (Int):=(aX.f l0 a1).bind fun Sp=>((aX.f l0 (wrap64 (a1+2))).bind fun Sq=>(some (Go.bits .or .u32 ((((Sp) % 4294967296)*65536) % 4294967296) ((Sq) % 4294967296))))
theorem dL.calls (A0:Option Addr) (c0:Nat) (l0:List Int) (a1:Int) (r:Int) (w:World) (hr0:Kd.C (Kd.int .u8) w A0 l0.length l0) (hc0:l0.length<=c0) (h:dL.f l0 a1=some r):
  Calls Try.prog 81 #[.slice A0 l0.length c0,.int .i64 a1] w fun e w'=>e= .returned (.int .u32 r) /\ bF w w':=by
 have gh:=aa.mk hr0;have jC:=aa.mk hc0;clear hr0 hc0;have H:((aX.f l0 a1).bind fun Sp=>((aX.f l0 (wrap64 (a1+2))).bind fun Sq=>(some (Go.bits .or .u32 ((((Sp) % 4294967296)*65536) % 4294967296) ((Sq) % 4294967296)))))=some r:=h;clear h;replace H:=cZ H;obtain ⟨Sp,wE,H⟩:=H
 (try dsimp -simprocs only at H)
 have A3:=aa.mk wE;clear wE;replace H:=cZ H;obtain ⟨Sq,qA,H⟩:=H
 (try dsimp -simprocs only at H)
 have A4:=aa.mk qA;clear qA;obtain rfl:=cS H
 go_enter Try.func81,Try.ntmps81
 go_wp2_with (first|((with_reducible refine ay (f:=64) rfl ?_);refine gL 7 Try.func64 #[.slice A0 l0.length c0,.int .i64 a1] ?_;(with_reducible refine (aX.calls _ _ l0 a1 Sp _ ?aG ?aH A3.out).mono ?_);(case aG=>repeat (first|exact gh.out|(with_reducible refine Kd.fD ?_ _)|(with_reducible refine Kd.fj ?_ _)|(with_reducible refine Kd.gP ?_)));(case aH=>exact jC.out);rintro e w' ⟨rfl,⟨nd,rfl⟩⟩;refine ⟨_,rfl, ?_⟩)|((with_reducible refine ay (f:=64) rfl ?_);refine gL 13 Try.func64 #[.slice A0 l0.length c0,.int .i64 (wrap64 (a1+2))] ?_;(with_reducible refine (aX.calls _ _ l0 (wrap64 (a1+2)) Sq _ ?aG ?aH A4.out).mono ?_);(case aG=>repeat (first|exact gh.out|(with_reducible refine Kd.fD ?_ _)|(with_reducible refine Kd.fj ?_ _)|(with_reducible refine Kd.gP ?_)));(case aH=>exact jC.out);rintro e w' ⟨rfl,⟨nd,rfl⟩⟩;refine ⟨_,rfl, ?_⟩))
 go_ret
 exact ⟨by first|rfl|(simp;done)|(simp [*];done),by repeat (first|exact bF.refl _|apply bF.step)⟩
attribute [local go_sem] dF dG eG eH cQ cR dH dI
def fZ.f (l0:List Int):Option (Int×Int×Int×Int×Int×Int×Int×Int×List Int×List Int×Int):=if (l0.length:Int)<20 then (some (0,0,0,0,0,0,0,0,([]:List Int),([]:List Int),20)) else (if 12<(l0.length:Int) then (if (wrap64 ((wrap64 ((rd l0 12) / 16))*4))<20 then (some (0,0,0,0,0,0,0,0,([]:List Int),([]:List Int),21)) else (if (l0.length:Int)<(wrap64 ((wrap64 ((rd l0 12) / 16))*4)) then (some (0,0,0,0,0,0,0,0,([]:List Int),([]:List Int),20)) else ((aX.f l0 0).bind fun xp=>((aX.f l0 2).bind fun yl=>((dL.f l0 4).bind fun yM=>((dL.f l0 8).bind fun zV=>(if 13<(l0.length:Int) then ((aX.f l0 14).bind fun BH=>((aX.f l0 16).bind fun DA=>((aX.f l0 18).bind fun Ey=>((ew.f l0 20 (wrap64 ((wrap64 ((rd l0 12) / 16))*4))).bind fun G2=>((ew.f l0 (wrap64 ((wrap64 ((rd l0 12) / 16))*4)) (l0.length:Int)).bind fun JP=>(some (xp,yl,yM,zV,rd l0 13,BH,DA,Ey,G2,JP,0))))))) else (none)))))))) else (none))
def fZ.T8:Bool×List (List Nat×List Nat):=(true,[([],[]),([0],[0]),([],[]),([2,1],[2]),([],[]),([4,3],[4]),([],[]),([6,5],[6]),([],[]),([8],[8]),([9],[9]),([],[]),([11,7],[11]),([],[]),([13,12],[13]),([],[]),([15,14],[15]),([],[]),([],[]),([17,18,16],[17,18]),([],[]),([],[]),([],[]),([22],[22]),([20,21,23,19],[20,21,23]),([1,3,5,7,10,12,14,16,19,24],[1,3,5,7,10,12,14,16,19,24]),([25,24,0,1,2,3,4,5,6,7,8,9,10,11,12,13,14,15,16,17,18,19,20,21,22,23,24,25],[25]),([26,0,1,2,3,4,5,6,7,8,9,10,11,12,13,14,15,16,17,18,19,20,21,22,23,24,25,26],[])])
def fZ.B8:List Nat:=[0,1,0,7,0,31,0,127,0,256,768,0,2303,0,14591,0,63743,0,0,522495,0,0,0,4194304,16775423,33554431,67108863,134217727]
theorem fZ.Ek:gS .any (opsOf Try.f73 8)=fZ.T8:=by kernel_rfl
theorem fZ.yq:dN fZ.T8.2 fZ.B8=true:=by kernel_rfl
theorem fZ.calls (A0:Option Addr) (c0:Nat) (l0:List Int) (r1:Int) (r2:Int) (r3:Int) (r4:Int) (r5:Int) (r6:Int) (r7:Int) (r8:Int) (r9:List Int) (uN:List Int) (Cy:Int) (w:World) (hr0:Kd.C (Kd.int .u8) w A0 l0.length l0) (hc0:l0.length<=c0) (h:fZ.f l0=some (r1,r2,r3,r4,r5,r6,r7,r8,r9,uN,Cy)):
  Calls Try.prog 73 #[.slice A0 l0.length c0] w fun e w'=>∃ BS BU:Value,e= .returned (.tuple #[.agg #[.int .u16 r1,.int .u16 r2,.int .u32 r3,.int .u32 r4,.int .u8 r5,.int .u16 r6,.int .u16 r7,.int .u16 r8,BS,BU],.int .i64 Cy]) /\ Kd.R (Kd.int .u8) 5 w' w.heap.size (fun k_=>some k_≠(BU:Value).ownBlock) BS r9 /\ Kd.R (Kd.int .u8) 5 w' w.heap.size (fun k_=>some k_≠(BS:Value).ownBlock) BU uN /\ Below w.heap.size w w':=by
 have qU:=Try.underlying137;have gh:=aa.mk hr0;have jC:=aa.mk hc0;clear hr0 hc0;have HB:=gj w
 have H:(if (l0.length:Int)<20 then (some (0,0,0,0,0,0,0,0,([]:List Int),([]:List Int),20)) else (if 12<(l0.length:Int) then (if (wrap64 ((wrap64 ((rd l0 12) / 16))*4))<20 then (some (0,0,0,0,0,0,0,0,([]:List Int),([]:List Int),21)) else (if (l0.length:Int)<(wrap64 ((wrap64 ((rd l0 12) / 16))*4)) then (some (0,0,0,0,0,0,0,0,([]:List Int),([]:List Int),20)) else ((aX.f l0 0).bind fun xp=>((aX.f l0 2).bind fun yl=>((dL.f l0 4).bind fun yM=>((dL.f l0 8).bind fun zV=>(if 13<(l0.length:Int) then ((aX.f l0 14).bind fun BH=>((aX.f l0 16).bind fun DA=>((aX.f l0 18).bind fun Ey=>((ew.f l0 20 (wrap64 ((wrap64 ((rd l0 12) / 16))*4))).bind fun G2=>((ew.f l0 (wrap64 ((wrap64 ((rd l0 12) / 16))*4)) (l0.length:Int)).bind fun JP=>(some (xp,yl,yM,zV,rd l0 13,BH,DA,Ey,G2,JP,0))))))) else (none)))))))) else (none)))=some (r1,r2,r3,r4,r5,r6,r7,r8,r9,uN,Cy):=h
 clear h
 by_cases c2:(l0.length:Int)<20
 ·rw [au c2] at H
  have kg:decide ((l0.length:Int)<20)=true:=bS c2;have mG:decide (l0.length<20)=true:=bS (by omega);clear c2;simp only [Option.some.injEq,Prod.mk.injEq] at H
  obtain ⟨rfl,rfl,rfl,rfl,rfl,rfl,rfl,rfl,rfl,rfl,rfl⟩:=H
  go_enter Try.func73,Try.ntmps73
  go_wp2_with (first|((with_reducible refine aA (N:=2) rfl ?_);refine aC ?hg (N:=2) ?hd (cs:= #[.int .u16 0,.int .u16 0,.int .u32 0,.int .u32 0,.int .u8 0,.int .u16 0,.int .u16 0,.int .u16 0,.slice none 0 0,.slice none 0 0]) (t:=137) ?hr ?_;(case hd=>rfl);(case hg=>rfl);(case hr=>first|(go_simp;done)|(go_simp;rfl));intro eV hg w3 bK hb;have aJ:=aa.mk (aq (bz HB) hb);have aQ:=aa.mk (bK);have bt:=aa.mk ((by rw [hg];exact (af (bz HB)):w.heap.size<=eV));have cr:=aa.mk ((by rw [hg];exact (af (bz HB)):w.heap.size<=eV));clear HB;have HB:=aJ;have eC:=aQ;have nL:=bt;have Sr:=cr;clear aJ aQ bt cr;clear hb bK hg;have pP:w3.cell? ⟨eV,0,none⟩=some (.int .u16 0):=cz eC.out 0 rfl;have pQ:w3.cell? ⟨eV,1,none⟩=some (.int .u16 0):=cz eC.out 1 rfl;have pR:w3.cell? ⟨eV,2,none⟩=some (.int .u32 0):=cz eC.out 2 rfl;have pS:w3.cell? ⟨eV,3,none⟩=some (.int .u32 0):=cz eC.out 3 rfl;have tU:w3.cell? ⟨eV,4,none⟩=some (.int .u8 0):=cz eC.out 4 rfl;have Gt:w3.cell? ⟨eV,5,none⟩=some (.int .u16 0):=cz eC.out 5 rfl;have Gu:w3.cell? ⟨eV,6,none⟩=some (.int .u16 0):=cz eC.out 6 rfl;have Gv:w3.cell? ⟨eV,7,none⟩=some (.int .u16 0):=cz eC.out 7 rfl;have Gw:w3.cell? ⟨eV,8,none⟩=some (.slice none 0 0):=cz eC.out 8 rfl;have Gx:w3.cell? ⟨eV,9,none⟩=some (.slice none 0 0):=cz eC.out 9 rfl;have pT:=ae eC.out 0;have pU:=ae eC.out 1;have pV:=ae eC.out 2;have pW:=ae eC.out 3;have tV:=ae eC.out 4;have Gy:=ae eC.out 5;have Gz:=ae eC.out 6;have GA:=ae eC.out 7;have GD:=ae eC.out 8;have GF:=ae eC.out 9))
  refine bodyPost_ret (fC rfl _ _ eV 137 #[.int .u16 0,.int .u16 0,.int .u32 0,.int .u32 0,.int .u8 0,.int .u16 0,.int .u16 0,.int .u16 0,.slice none 0 0,.slice none 0 0] (0,0) _ rfl (by (repeat (first|with_reducible refine aN ?_ _|with_reducible refine aK ?_|with_reducible refine aM ?_ _|refine bM (cs:= #[.int .u16 0,.int .u16 0,.int .u32 0,.int .u32 0,.int .u8 0,.int .u16 0,.int .u16 0,.int .u16 0,.slice none 0 0,.slice none 0 0]) ?_ _ _ rfl));(with_reducible repeat (first|refine aN ?_ _|refine aK ?_|refine aM ?_ _));exact eC.out) Try.underlying137 rfl (by kernel_rfl)) rfl ?_
  exact ⟨_,_,by first|rfl|(simp [aj,ak]<;>rfl)|(simp [*,aj,ak]<;>rfl),by first|exact Kd.cl _ _ _ _ _|exact Kd.ju _ _ _ _ _|exact Kd.jv _ _ _ _ _|exact Kd.jr _ _ _ _ _|exact Kd.js _ _ _ _ _,by first|exact Kd.cl _ _ _ _ _|exact Kd.ju _ _ _ _ _|exact Kd.jv _ _ _ _ _|exact Kd.jr _ _ _ _ _|exact Kd.js _ _ _ _ _,bz HB⟩
 ·rw [ax c2] at H
  have kg:decide ((l0.length:Int)<20)=false:=gO c2;have mG:decide (l0.length<20)=false:=gO (by omega);clear c2
  by_cases c5:12<(l0.length:Int)
  ·rw [au c5] at H
   have mS:decide (12<(l0.length:Int))=true:=bS c5;have qz:decide (12<l0.length)=true:=bS (by omega);clear c5
   by_cases c6:(wrap64 ((wrap64 ((rd l0 12) / 16))*4))<20
   ·rw [au c6] at H
    have sG:decide ((wrap64 ((wrap64 ((rd l0 12) / 16))*4))<20)=true:=bS c6;clear c6;simp only [Option.some.injEq,Prod.mk.injEq] at H
    obtain ⟨rfl,rfl,rfl,rfl,rfl,rfl,rfl,rfl,rfl,rfl,rfl⟩:=H
    go_enter Try.func73,Try.ntmps73
    go_wp2_with (first|((with_reducible refine aA (N:=2) rfl ?_);refine aC ?hg (N:=2) ?hd (cs:= #[.int .u16 0,.int .u16 0,.int .u32 0,.int .u32 0,.int .u8 0,.int .u16 0,.int .u16 0,.int .u16 0,.slice none 0 0,.slice none 0 0]) (t:=137) ?hr ?_;(case hd=>rfl);(case hg=>rfl);(case hr=>first|(go_simp;done)|(go_simp;rfl));intro eV hg w7 bK hb;have aJ:=aa.mk (aq (bz HB) hb);have aQ:=aa.mk (bK);have bt:=aa.mk ((by rw [hg];exact (af (bz HB)):w.heap.size<=eV));have cr:=aa.mk ((by rw [hg];exact (af (bz HB)):w.heap.size<=eV));clear HB;have HB:=aJ;have eC:=aQ;have nL:=bt;have Sr:=cr;clear aJ aQ bt cr;clear hb bK hg;have DB:0<=(12:Int):=(by omega);have DC:12<(l0.length:Int):=gD;obtain ⟨tN,Ss,lW⟩:=Kd.dB gh.out 12 DB DC;cases Ss;(try simp only [show (12:Int).toNat=12 from rfl,Nat.reduceMul,Nat.reduceEqDiff,Go.Addr.add,↓reduceIte] at lW);have X0:(12<l0.length)=True:=eq_true (by omega);(try rw [show ((12:Int)).toNat=12 from rfl] at lW);replace lW:=(HB.out.cell (dA w _ lW)).trans lW;replace DB:=eq_true DB;replace DC:=eq_true DC;have Ga:w7.cell? ⟨eV,0,none⟩=some (.int .u16 0):=cz eC.out 0 rfl;have Gb:w7.cell? ⟨eV,1,none⟩=some (.int .u16 0):=cz eC.out 1 rfl;have Gc:w7.cell? ⟨eV,2,none⟩=some (.int .u32 0):=cz eC.out 2 rfl;have Gd:w7.cell? ⟨eV,3,none⟩=some (.int .u32 0):=cz eC.out 3 rfl;have Aar:w7.cell? ⟨eV,4,none⟩=some (.int .u8 0):=cz eC.out 4 rfl;have Aas:w7.cell? ⟨eV,5,none⟩=some (.int .u16 0):=cz eC.out 5 rfl;have Aat:w7.cell? ⟨eV,6,none⟩=some (.int .u16 0):=cz eC.out 6 rfl;have Aau:w7.cell? ⟨eV,7,none⟩=some (.int .u16 0):=cz eC.out 7 rfl;have Aav:w7.cell? ⟨eV,8,none⟩=some (.slice none 0 0):=cz eC.out 8 rfl;have Aaw:w7.cell? ⟨eV,9,none⟩=some (.slice none 0 0):=cz eC.out 9 rfl;have Ge:=ae eC.out 0;have Gf:=ae eC.out 1;have Gg:=ae eC.out 2;have Gh:=ae eC.out 3;have Aax:=ae eC.out 4;have Aay:=ae eC.out 5;have Aaz:=ae eC.out 6;have AaA:=ae eC.out 7;have AaB:=ae eC.out 8;have AaC:=ae eC.out 9))
    refine bodyPost_ret (fC rfl _ _ eV 137 #[.int .u16 0,.int .u16 0,.int .u32 0,.int .u32 0,.int .u8 0,.int .u16 0,.int .u16 0,.int .u16 0,.slice none 0 0,.slice none 0 0] (0,0) _ rfl (by (repeat (first|with_reducible refine aN ?_ _|with_reducible refine aK ?_|with_reducible refine aM ?_ _|refine bM (cs:= #[.int .u16 0,.int .u16 0,.int .u32 0,.int .u32 0,.int .u8 0,.int .u16 0,.int .u16 0,.int .u16 0,.slice none 0 0,.slice none 0 0]) ?_ _ _ rfl));(with_reducible repeat (first|refine aN ?_ _|refine aK ?_|refine aM ?_ _));exact eC.out) Try.underlying137 rfl (by kernel_rfl)) rfl ?_
    exact ⟨_,_,by first|rfl|(simp [aj,ak]<;>rfl)|(simp [*,aj,ak]<;>rfl),by first|exact Kd.cl _ _ _ _ _|exact Kd.ju _ _ _ _ _|exact Kd.jv _ _ _ _ _|exact Kd.jr _ _ _ _ _|exact Kd.js _ _ _ _ _,by first|exact Kd.cl _ _ _ _ _|exact Kd.ju _ _ _ _ _|exact Kd.jv _ _ _ _ _|exact Kd.jr _ _ _ _ _|exact Kd.js _ _ _ _ _,bz HB⟩
   ·rw [ax c6] at H
    have sG:decide ((wrap64 ((wrap64 ((rd l0 12) / 16))*4))<20)=false:=gO c6;clear c6
    by_cases c9:(l0.length:Int)<(wrap64 ((wrap64 ((rd l0 12) / 16))*4))
    ·rw [au c9] at H
     have wT:decide ((l0.length:Int)<(wrap64 ((wrap64 ((rd l0 12) / 16))*4)))=true:=bS c9;clear c9;simp only [Option.some.injEq,Prod.mk.injEq] at H
     obtain ⟨rfl,rfl,rfl,rfl,rfl,rfl,rfl,rfl,rfl,rfl,rfl⟩:=H
     go_enter Try.func73,Try.ntmps73
     go_wp2_with (first|((with_reducible refine aA (N:=2) rfl ?_);refine aC ?hg (N:=2) ?hd (cs:= #[.int .u16 0,.int .u16 0,.int .u32 0,.int .u32 0,.int .u8 0,.int .u16 0,.int .u16 0,.int .u16 0,.slice none 0 0,.slice none 0 0]) (t:=137) ?hr ?_;(case hd=>rfl);(case hg=>rfl);(case hr=>first|(go_simp;done)|(go_simp;rfl));intro eV hg j4 bK hb;have aJ:=aa.mk (aq (bz HB) hb);have aQ:=aa.mk (bK);have bt:=aa.mk ((by rw [hg];exact (af (bz HB)):w.heap.size<=eV));have cr:=aa.mk ((by rw [hg];exact (af (bz HB)):w.heap.size<=eV));clear HB;have HB:=aJ;have eC:=aQ;have nL:=bt;have Sr:=cr;clear aJ aQ bt cr;clear hb bK hg;have DB:0<=(12:Int):=(by omega);have DC:12<(l0.length:Int):=gD;obtain ⟨tN,Ss,lW⟩:=Kd.dB gh.out 12 DB DC;cases Ss;(try simp only [show (12:Int).toNat=12 from rfl,Nat.reduceMul,Nat.reduceEqDiff,Go.Addr.add,↓reduceIte] at lW);have X0:(12<l0.length)=True:=eq_true (by omega);(try rw [show ((12:Int)).toNat=12 from rfl] at lW);replace lW:=(HB.out.cell (dA w _ lW)).trans lW;replace DB:=eq_true DB;replace DC:=eq_true DC;have vB:j4.cell? ⟨eV,0,none⟩=some (.int .u16 0):=cz eC.out 0 rfl;have vC:j4.cell? ⟨eV,1,none⟩=some (.int .u16 0):=cz eC.out 1 rfl;have vD:j4.cell? ⟨eV,2,none⟩=some (.int .u32 0):=cz eC.out 2 rfl;have vE:j4.cell? ⟨eV,3,none⟩=some (.int .u32 0):=cz eC.out 3 rfl;have Gn:j4.cell? ⟨eV,4,none⟩=some (.int .u8 0):=cz eC.out 4 rfl;have AjH:j4.cell? ⟨eV,5,none⟩=some (.int .u16 0):=cz eC.out 5 rfl;have AjI:j4.cell? ⟨eV,6,none⟩=some (.int .u16 0):=cz eC.out 6 rfl;have AjJ:j4.cell? ⟨eV,7,none⟩=some (.int .u16 0):=cz eC.out 7 rfl;have AjK:j4.cell? ⟨eV,8,none⟩=some (.slice none 0 0):=cz eC.out 8 rfl;have AjL:j4.cell? ⟨eV,9,none⟩=some (.slice none 0 0):=cz eC.out 9 rfl;have vF:=ae eC.out 0;have vG:=ae eC.out 1;have vH:=ae eC.out 2;have vI:=ae eC.out 3;have Gp:=ae eC.out 4;have AjM:=ae eC.out 5;have AjN:=ae eC.out 6;have AjO:=ae eC.out 7;have AjP:=ae eC.out 8;have AjQ:=ae eC.out 9))
     refine bodyPost_ret (fC rfl _ _ eV 137 #[.int .u16 0,.int .u16 0,.int .u32 0,.int .u32 0,.int .u8 0,.int .u16 0,.int .u16 0,.int .u16 0,.slice none 0 0,.slice none 0 0] (0,0) _ rfl (by (repeat (first|with_reducible refine aN ?_ _|with_reducible refine aK ?_|with_reducible refine aM ?_ _|refine bM (cs:= #[.int .u16 0,.int .u16 0,.int .u32 0,.int .u32 0,.int .u8 0,.int .u16 0,.int .u16 0,.int .u16 0,.slice none 0 0,.slice none 0 0]) ?_ _ _ rfl));(with_reducible repeat (first|refine aN ?_ _|refine aK ?_|refine aM ?_ _));exact eC.out) Try.underlying137 rfl (by kernel_rfl)) rfl ?_
     exact ⟨_,_,by first|rfl|(simp [aj,ak]<;>rfl)|(simp [*,aj,ak]<;>rfl),by first|exact Kd.cl _ _ _ _ _|exact Kd.ju _ _ _ _ _|exact Kd.jv _ _ _ _ _|exact Kd.jr _ _ _ _ _|exact Kd.js _ _ _ _ _,by first|exact Kd.cl _ _ _ _ _|exact Kd.ju _ _ _ _ _|exact Kd.jv _ _ _ _ _|exact Kd.jr _ _ _ _ _|exact Kd.js _ _ _ _ _,bz HB⟩
    ·rw [ax c9] at H
     have wT:decide ((l0.length:Int)<(wrap64 ((wrap64 ((rd l0 12) / 16))*4)))=false:=gO c9;clear c9;replace H:=cZ H;obtain ⟨xp,zn,H⟩:=H
     (try dsimp -simprocs only at H)
     have TY:=aa.mk zn;clear zn;replace H:=cZ H;obtain ⟨yl,CH,H⟩:=H
     (try dsimp -simprocs only at H)
     have O5:=aa.mk CH;clear CH;replace H:=cZ H;obtain ⟨yM,CC,H⟩:=H
     (try dsimp -simprocs only at H)
     have Y5:=aa.mk CC;clear CC;replace H:=cZ H;obtain ⟨zV,Dp,H⟩:=H
     (try dsimp -simprocs only at H)
     have A15:=aa.mk Dp;clear Dp
     by_cases KM:13<(l0.length:Int)
     ·rw [au KM] at H
      have Qg:decide (13<(l0.length:Int))=true:=bS KM;have Mv:decide (13<l0.length)=true:=bS (by omega);clear KM;replace H:=cZ H;obtain ⟨BH,Iw,H⟩:=H
      (try dsimp -simprocs only at H)
      have O7:=aa.mk Iw;clear Iw;replace H:=cZ H;obtain ⟨DA,wS,H⟩:=H
      (try dsimp -simprocs only at H)
      have NJ:=aa.mk wS;clear wS;replace H:=cZ H;obtain ⟨Ey,CI,H⟩:=H
      (try dsimp -simprocs only at H)
      have ZG:=aa.mk CI;clear CI;replace H:=cZ H;obtain ⟨G2,Cz,H⟩:=H
      (try dsimp -simprocs only at H)
      have uJ:=aa.mk Cz;clear Cz;replace H:=cZ H;obtain ⟨JP,JJ,H⟩:=H
      (try dsimp -simprocs only at H)
      have A21:=aa.mk JJ;clear JJ;simp only [Option.some.injEq,Prod.mk.injEq] at H
      obtain ⟨rfl,rfl,rfl,rfl,rfl,rfl,rfl,rfl,rfl,rfl,rfl⟩:=H
      go_enter Try.func73,Try.ntmps73
      try go_wp2_with (first|((with_reducible refine aA (N:=2) rfl ?_);refine aC ?hg (N:=2) ?hd (cs:= #[.int .u16 0,.int .u16 0,.int .u32 0,.int .u32 0,.int .u8 0,.int .u16 0,.int .u16 0,.int .u16 0,.slice none 0 0,.slice none 0 0]) (t:=137) ?hr ?_;(case hd=>rfl);(case hg=>rfl);(case hr=>first|(go_simp;done)|(go_simp;rfl));intro eV hg Ra bK hb;have aJ:=aa.mk (aq (bz HB) hb);have aQ:=aa.mk (bK);have bt:=aa.mk ((by rw [hg];exact (af (bz HB)):w.heap.size<=eV));have cr:=aa.mk ((by rw [hg];exact (af (bz HB)):w.heap.size<=eV));clear HB;have HB:=aJ;have eC:=aQ;have nL:=bt;have Sr:=cr;clear aJ aQ bt cr;clear hb bK hg;have DB:0<=(12:Int):=(by omega);have DC:12<(l0.length:Int):=gD;obtain ⟨tN,Ss,lW⟩:=Kd.dB gh.out 12 DB DC;cases Ss;(try simp only [show (12:Int).toNat=12 from rfl,Nat.reduceMul,Nat.reduceEqDiff,Go.Addr.add,↓reduceIte] at lW);have X0:(12<l0.length)=True:=eq_true (by omega);(try rw [show ((12:Int)).toNat=12 from rfl] at lW);replace lW:=(HB.out.cell (dA w _ lW)).trans lW;replace DB:=eq_true DB;replace DC:=eq_true DC))
      have aJ:=aa.mk (aK eC.out);have aQ:=aa.mk (bf HB.out);clear eC;clear HB;have eC:=aJ;have HB:=aQ;clear aJ aQ;have AbP:0<=(13:Int):=(by omega)
      have AbQ:13<(l0.length:Int):=gD;obtain ⟨Ag8,An2,vR⟩:=Kd.dB gh.out 13 AbP AbQ;have eZ:=vR
      (try rw [show ((13:Int)).toNat=13 from rfl] at eZ)
      (try rw [show 13*1=13 from rfl] at eZ)
      (try simp only [Nat.reduceMul,Nat.reduceEqDiff,Go.Addr.add,↓reduceIte] at eZ)
      obtain rfl:tN=Ag8:=(by injection An2)
      (try simp only [show (13:Int).toNat=13 from rfl,Nat.reduceMul,Nat.reduceEqDiff,Go.Addr.add,↓reduceIte] at vR)
      have ArJ:(13<l0.length)=True:=eq_true (by omega)
      (try rw [show ((13:Int)).toNat=13 from rfl] at vR)
      replace vR:=(HB.out.cell (dA w _ vR)).trans vR;replace AbP:=eq_true AbP;replace AbQ:=eq_true AbQ;refine dg (n:=28) (S:=fun w'=>w'.cell? ⟨tN.block,tN.off+13,none⟩=some (.int .u8 (rd l0 13))) (ds:=[]) #[false,false,false,false,false,false,false,false,false,false,false,false,false,false,false,false,false,false,false,false,false,false,false,false,false,false,false,false] (by kernel_rfl) rfl rfl (((HB.out.cell (dA w _ eZ)).trans eZ)) (fun hHeld=> ?_);refine bH fZ.Ek fZ.yq (fun az dW=> ?_);generalize Ra.drew=w23 at eC HB vR hHeld|-
      refine pz 0 23 az ?_;refine pz 2 25 az ?_;refine pz 4 27 az ?_;refine pz 6 29 az ?_;refine pz 8 31 az ?_;refine pz 9 32 az ?_;refine pz 11 34 az ?_;refine pz 13 36 az ?_;refine pz 15 38 az ?_;refine pz 17 40 az ?_;refine pz 18 41 az ?_;refine pz 20 43 az ?_;refine pz 21 44 az ?_;refine pz 22 45 az ?_;refine pz 23 46 az ?_;refine tz 10 33 az dW hHeld ?_;refine oz 1 (some 24) az (fun K hK=> ?_);refine gG Try.func64 #[.slice (some tN) l0.length c0,.int .i64 0] ?_
      with_reducible refine (aX.calls _ _ l0 0 xp _ ?aG ?aH TY.out).mono ?_
      (case aG=>exact Kd.aU gh.out (bz HB))
      (case aH=>exact jC.out)
      rintro e w' ⟨rfl,⟨nd,rfl⟩⟩;refine ⟨_,rfl, ?_⟩;refine hK.out _ _ (((HB.out.cell (dA w _ eZ)).trans eZ)) (fun hHeld=> ?_);clear hK K;refine nz 24 ?_;refine oz 3 (some 26) az (fun K hK=> ?_);refine gG Try.func64 #[.slice (some tN) l0.length c0,.int .i64 2] ?_
      with_reducible refine (aX.calls _ _ l0 2 yl _ ?aG ?aH O5.out).mono ?_
      (case aG=>exact Kd.aU gh.out (bz HB))
      (case aH=>exact jC.out)
      rintro e w' ⟨rfl,⟨nd,rfl⟩⟩;refine ⟨_,rfl, ?_⟩;refine hK.out _ _ (((HB.out.cell (dA w _ eZ)).trans eZ)) (fun hHeld=> ?_);clear hK K;refine nz 26 ?_;refine oz 5 (some 28) az (fun K hK=> ?_);refine gG Try.func81 #[.slice (some tN) l0.length c0,.int .i64 4] ?_
      with_reducible refine (dL.calls _ _ l0 4 yM _ ?aG ?aH Y5.out).mono ?_
      (case aG=>exact Kd.aU gh.out (bz HB))
      (case aH=>exact jC.out)
      rintro e w' ⟨rfl,⟨nd,rfl⟩⟩;refine ⟨_,rfl, ?_⟩;refine hK.out _ _ (((HB.out.cell (dA w _ eZ)).trans eZ)) (fun hHeld=> ?_);clear hK K;refine nz 28 ?_;refine oz 7 (some 30) az (fun K hK=> ?_);refine gG Try.func81 #[.slice (some tN) l0.length c0,.int .i64 8] ?_
      with_reducible refine (dL.calls _ _ l0 8 zV _ ?aG ?aH A15.out).mono ?_
      (case aG=>exact Kd.aU gh.out (bz HB))
      (case aH=>exact jC.out)
      rintro e w' ⟨rfl,⟨nd,rfl⟩⟩;refine ⟨_,rfl, ?_⟩;refine hK.out _ _ (((HB.out.cell (dA w _ eZ)).trans eZ)) (fun hHeld=> ?_);clear hK K;refine nz 30 ?_;refine oz 12 (some 35) az (fun K hK=> ?_);refine gG Try.func64 #[.slice (some tN) l0.length c0,.int .i64 14] ?_
      with_reducible refine (aX.calls _ _ l0 14 BH _ ?aG ?aH O7.out).mono ?_
      (case aG=>exact Kd.aU gh.out (bz HB))
      (case aH=>exact jC.out)
      rintro e w' ⟨rfl,⟨nd,rfl⟩⟩;refine ⟨_,rfl, ?_⟩;refine hK.out _ _ (((HB.out.cell (dA w _ eZ)).trans eZ)) (fun hHeld=> ?_);clear hK K;refine nz 35 ?_;refine oz 14 (some 37) az (fun K hK=> ?_);refine gG Try.func64 #[.slice (some tN) l0.length c0,.int .i64 16] ?_
      with_reducible refine (aX.calls _ _ l0 16 DA _ ?aG ?aH NJ.out).mono ?_
      (case aG=>exact Kd.aU gh.out (bz HB))
      (case aH=>exact jC.out)
      rintro e w' ⟨rfl,⟨nd,rfl⟩⟩;refine ⟨_,rfl, ?_⟩;refine hK.out _ _ (((HB.out.cell (dA w _ eZ)).trans eZ)) (fun hHeld=> ?_);clear hK K;refine nz 37 ?_;refine oz 16 (some 39) az (fun K hK=> ?_);refine gG Try.func64 #[.slice (some tN) l0.length c0,.int .i64 18] ?_
      with_reducible refine (aX.calls _ _ l0 18 Ey _ ?aG ?aH ZG.out).mono ?_
      (case aG=>exact Kd.aU gh.out (bz HB))
      (case aH=>exact jC.out)
      rintro e w' ⟨rfl,⟨nd,rfl⟩⟩;refine ⟨_,rfl, ?_⟩;refine hK.out _ _ (((HB.out.cell (dA w _ eZ)).trans eZ)) (fun hHeld=> ?_);clear hK K;refine nz 39 ?_;refine oz 19 (some 42) az (fun K hK=> ?_);refine gG Try.func65 #[.slice (some tN) l0.length c0,.int .i64 20,.int .i64 (wrap64 ((wrap64 ((rd l0 12) / 16))*4))] ?_
      with_reducible refine (ew.calls _ _ l0 20 (wrap64 ((wrap64 ((rd l0 12) / 16))*4)) G2 _ ?aG ?aH uJ.out).mono ?_
      (case aG=>exact Kd.aU gh.out (bz HB))
      (case aH=>exact jC.out)
      rintro e Hi ⟨Ava,rfl,gE,hb⟩;refine ⟨_,rfl, ?_⟩;have aJ:=aa.mk (Kd.bP gE (af (bz HB)));have aQ:=aa.mk (bn (kz eC) hb);have bt:=aa.mk (aq (bz HB) hb);clear eC;clear HB;have Fa:=aJ;have eC:=aQ;have HB:=bt;clear aJ aQ bt
      (try clear hb)
      (try clear hb2)
      (try clear hk)
      (try clear hi)
      (try clear gE)
      refine hK.out _ _ (((HB.out.cell (dA w _ eZ)).trans eZ)) (fun hHeld=> ?_);clear hK K;refine nz 42 ?_;refine oz 24 (some 47) az (fun K hK=> ?_);refine gG Try.func65 #[.slice (some tN) l0.length c0,.int .i64 (wrap64 ((wrap64 ((rd l0 12) / 16))*4)),.int .i64 (l0.length:Int)] ?_
      with_reducible refine (ew.calls _ _ l0 (wrap64 ((wrap64 ((rd l0 12) / 16))*4)) (l0.length:Int) JP _ ?aG ?aH A21.out).mono ?_
      (case aG=>exact Kd.aU gh.out (bz HB))
      (case aH=>exact jC.out)
      rintro e w25 ⟨Avb,rfl,gE,hb⟩;refine ⟨_,rfl, ?_⟩;have aJ:=aa.mk (Kd.mU (Kd.rz Fa) (Kd.kf gE) hb);have aQ:=aa.mk (Kd.bP (Kd.ry gE (Kd.oL (Kd.rz Fa))) (af (bz HB)));have bt:=aa.mk (bn (kz eC) hb);have cr:=aa.mk (aq (bz HB) hb);clear Fa;clear eC;clear HB;have Fa:=aJ;have X1:=aQ;have eC:=bt;have HB:=cr;clear aJ aQ bt cr
      (try clear hb)
      (try clear hb2)
      (try clear hk)
      (try clear hi)
      (try clear gE)
      obtain ⟨AbR,AbS,Ag9⟩:=Kd.da X1.out
      (first|subst Ag9|(injection Ag9 with mY rD mZ;have rE:=mY.symm;have rF:=mZ.symm;clear mY rD mZ;subst rE;subst rF))
      obtain ⟨JD,JE,R1⟩:=Kd.da Fa.out
      (first|subst R1|(injection R1 with mY rD mZ;have rE:=mY.symm;have rF:=mZ.symm;clear mY rD mZ;subst rE;subst rF))
      refine hK.out _ _ (((HB.out.cell (dA w _ eZ)).trans eZ)) (fun hHeld=> ?_);clear hK K;refine nz 47 ?_;refine pz 25 48 az ?_;refine oz 26 (none) az (fun K hK=> ?_);have ArK:=rC eC.out;have An3:=ae eC.out;refine wJ (w1:= ?_) (by rfl) rfl ?_ ?_
      rotate_left
      ·go_simp
       rfl
      refine hK.out _ _ (((cell_far (p:=⟨eV,_,none⟩) (by first|exact eD eZ nL.out|exact eE eZ nL.out) _).trans (((cell_far (p:=⟨eV,_,none⟩) (by first|exact eD eZ nL.out|exact eE eZ nL.out) _).trans (((cell_far (p:=⟨eV,_,none⟩) (by first|exact eD eZ nL.out|exact eE eZ nL.out) _).trans (((cell_far (p:=⟨eV,_,none⟩) (by first|exact eD eZ nL.out|exact eE eZ nL.out) _).trans (((cell_far (p:=⟨eV,_,none⟩) (by first|exact eD eZ nL.out|exact eE eZ nL.out) _).trans (((cell_far (p:=⟨eV,_,none⟩) (by first|exact eD eZ nL.out|exact eE eZ nL.out) _).trans (((cell_far (p:=⟨eV,_,none⟩) (by first|exact eD eZ nL.out|exact eE eZ nL.out) _).trans (((cell_far (p:=⟨eV,_,none⟩) (by first|exact eD eZ nL.out|exact eE eZ nL.out) _).trans (((cell_far (p:=⟨eV,_,none⟩) (by first|exact eD eZ nL.out|exact eE eZ nL.out) _).trans (((cell_far (p:=⟨eV,_,none⟩) (by first|exact eD eZ nL.out|exact eE eZ nL.out) _).trans (hHeld))))))))))))))))))))) (fun hHeld=> ?_)
      clear hK K;refine pz 27 3 az ?_;refine dz az ?_
      try go_wp2
      refine bodyPost_ret (fC rfl _ _ eV 137 #[.int .u16 xp,.int .u16 yl,.int .u32 yM,.int .u32 zV,.int .u8 (rd l0 13),.int .u16 BH,.int .u16 DA,.int .u16 Ey,.slice JD G2.length JE,.slice AbR JP.length AbS] (0,0) _ rfl (by (with_reducible repeat (first|refine aN ?_ _|refine aK ?_|refine aM ?_ _));refine bM (cs:= #[.int .u16 xp,.int .u16 yl,.int .u32 yM,.int .u32 zV,.int .u8 (rd l0 13),.int .u16 BH,.int .u16 DA,.int .u16 Ey,.slice JD G2.length JE,.slice none 0 0]) ?_ 9 _ rfl;(with_reducible repeat (first|refine aN ?_ _|refine aK ?_|refine aM ?_ _));refine bM (cs:= #[.int .u16 xp,.int .u16 yl,.int .u32 yM,.int .u32 zV,.int .u8 (rd l0 13),.int .u16 BH,.int .u16 DA,.int .u16 Ey,.slice none 0 0,.slice none 0 0]) ?_ 8 _ rfl;(with_reducible repeat (first|refine aN ?_ _|refine aK ?_|refine aM ?_ _));refine bM (cs:= #[.int .u16 xp,.int .u16 yl,.int .u32 yM,.int .u32 zV,.int .u8 (rd l0 13),.int .u16 BH,.int .u16 DA,.int .u16 0,.slice none 0 0,.slice none 0 0]) ?_ 7 _ rfl;(with_reducible repeat (first|refine aN ?_ _|refine aK ?_|refine aM ?_ _));refine bM (cs:= #[.int .u16 xp,.int .u16 yl,.int .u32 yM,.int .u32 zV,.int .u8 (rd l0 13),.int .u16 BH,.int .u16 0,.int .u16 0,.slice none 0 0,.slice none 0 0]) ?_ 6 _ rfl;(with_reducible repeat (first|refine aN ?_ _|refine aK ?_|refine aM ?_ _));refine bM (cs:= #[.int .u16 xp,.int .u16 yl,.int .u32 yM,.int .u32 zV,.int .u8 (rd l0 13),.int .u16 0,.int .u16 0,.int .u16 0,.slice none 0 0,.slice none 0 0]) ?_ 5 _ rfl;(with_reducible repeat (first|refine aN ?_ _|refine aK ?_|refine aM ?_ _));refine bM (cs:= #[.int .u16 xp,.int .u16 yl,.int .u32 yM,.int .u32 zV,.int .u8 0,.int .u16 0,.int .u16 0,.int .u16 0,.slice none 0 0,.slice none 0 0]) ?_ 4 _ rfl;(with_reducible repeat (first|refine aN ?_ _|refine aK ?_|refine aM ?_ _));refine bM (cs:= #[.int .u16 xp,.int .u16 yl,.int .u32 yM,.int .u32 0,.int .u8 0,.int .u16 0,.int .u16 0,.int .u16 0,.slice none 0 0,.slice none 0 0]) ?_ 3 _ rfl;(with_reducible repeat (first|refine aN ?_ _|refine aK ?_|refine aM ?_ _));refine bM (cs:= #[.int .u16 xp,.int .u16 yl,.int .u32 0,.int .u32 0,.int .u8 0,.int .u16 0,.int .u16 0,.int .u16 0,.slice none 0 0,.slice none 0 0]) ?_ 2 _ rfl;(with_reducible repeat (first|refine aN ?_ _|refine aK ?_|refine aM ?_ _));refine bM (cs:= #[.int .u16 xp,.int .u16 0,.int .u32 0,.int .u32 0,.int .u8 0,.int .u16 0,.int .u16 0,.int .u16 0,.slice none 0 0,.slice none 0 0]) ?_ 1 _ rfl;(with_reducible repeat (first|refine aN ?_ _|refine aK ?_|refine aM ?_ _));refine bM (cs:= #[.int .u16 0,.int .u16 0,.int .u32 0,.int .u32 0,.int .u8 0,.int .u16 0,.int .u16 0,.int .u16 0,.slice none 0 0,.slice none 0 0]) ?_ 0 _ rfl;(with_reducible repeat (first|refine aN ?_ _|refine aK ?_|refine aM ?_ _));exact eC.out) Try.underlying137 rfl (by kernel_rfl)) rfl ?_
      exact ⟨_,_,by first|rfl|(simp [aj,ak]<;>rfl)|(simp [*,aj,ak]<;>rfl),by (with_reducible repeat (first|apply Kd.eX|apply Kd.eT|apply Kd.eY));exact Kd.dm (Kd.eF (p:=⟨eV,9,none⟩) (Kd.eF (p:=⟨eV,8,none⟩) (Kd.eF (p:=⟨eV,7,none⟩) (Kd.eF (p:=⟨eV,6,none⟩) (Kd.eF (p:=⟨eV,5,none⟩) (Kd.eF (p:=⟨eV,4,none⟩) (Kd.eF (p:=⟨eV,3,none⟩) (Kd.eF (p:=⟨eV,2,none⟩) (Kd.eF (p:=⟨eV,1,none⟩) (Kd.eF (p:=⟨eV,0,none⟩) (Kd.mL Fa.out eC.out (by decide)) (fun _ hk=>hk.2) (.int .u16 xp)) (fun _ hk=>hk.2) (.int .u16 yl)) (fun _ hk=>hk.2) (.int .u32 yM)) (fun _ hk=>hk.2) (.int .u32 zV)) (fun _ hk=>hk.2) (.int .u8 (rd l0 13))) (fun _ hk=>hk.2) (.int .u16 BH)) (fun _ hk=>hk.2) (.int .u16 DA)) (fun _ hk=>hk.2) (.int .u16 Ey)) (fun _ hk=>hk.2) (.slice JD G2.length JE)) (fun _ hk=>hk.2) (.slice AbR JP.length AbS)) (fun _ hk=>hk.1.2),by (with_reducible repeat (first|apply Kd.eX|apply Kd.eT|apply Kd.eY));exact Kd.dm (Kd.eF (p:=⟨eV,9,none⟩) (Kd.eF (p:=⟨eV,8,none⟩) (Kd.eF (p:=⟨eV,7,none⟩) (Kd.eF (p:=⟨eV,6,none⟩) (Kd.eF (p:=⟨eV,5,none⟩) (Kd.eF (p:=⟨eV,4,none⟩) (Kd.eF (p:=⟨eV,3,none⟩) (Kd.eF (p:=⟨eV,2,none⟩) (Kd.eF (p:=⟨eV,1,none⟩) (Kd.eF (p:=⟨eV,0,none⟩) (Kd.mL X1.out eC.out (by decide)) (fun _ hk=>hk.2) (.int .u16 xp)) (fun _ hk=>hk.2) (.int .u16 yl)) (fun _ hk=>hk.2) (.int .u32 yM)) (fun _ hk=>hk.2) (.int .u32 zV)) (fun _ hk=>hk.2) (.int .u8 (rd l0 13))) (fun _ hk=>hk.2) (.int .u16 BH)) (fun _ hk=>hk.2) (.int .u16 DA)) (fun _ hk=>hk.2) (.int .u16 Ey)) (fun _ hk=>hk.2) (.slice JD G2.length JE)) (fun _ hk=>hk.2) (.slice AbR JP.length AbS)) (fun _ hk=>hk.1.2),bz HB⟩
     ·rw [ax KM] at H
      cases H
  ·rw [ax c5] at H
   cases H
def eS.f (l0:List Int):Option (Int×Int×Int×Int×List Int×Int):=if (l0.length:Int)<8 then (some (0,0,0,0,([]:List Int),20)) else (if 0<(l0.length:Int) then (if 1<(l0.length:Int) then ((aX.f l0 2).bind fun G3=>((dL.f l0 4).bind fun JQ=>((ew.f l0 8 (l0.length:Int)).bind fun LG=>(some (rd l0 0,rd l0 1,G3,JQ,LG,0))))) else (none)) else (none))
def eS.T3:Bool×List (List Nat×List Nat):=(true,[([],[]),([0],[0]),([1],[1]),([],[]),([3],[3]),([4],[4]),([],[]),([6],[6]),([],[]),([8,7],[8]),([],[]),([],[]),([11],[11]),([10,12,9],[10,12]),([2,5,7,9,13],[2,5,7,9,13]),([14,13,0,1,2,3,4,5,6,7,8,9,10,11,12,13,14],[14]),([15,0,1,2,3,4,5,6,7,8,9,10,11,12,13,14,15],[])])
def eS.B3:List Nat:=[0,1,3,0,8,24,0,64,0,448,0,0,2048,8128,16383,32767,65535]
theorem eS.KD:gS .any (opsOf Try.f76 3)=eS.T3:=by kernel_rfl
theorem eS.CA:dN eS.T3.2 eS.B3=true:=by kernel_rfl
theorem eS.calls (A0:Option Addr) (c0:Nat) (l0:List Int) (r1:Int) (r2:Int) (r3:Int) (r4:Int) (r5:List Int) (r6:Int) (w:World) (hr0:Kd.C (Kd.int .u8) w A0 l0.length l0) (hc0:l0.length<=c0) (h:eS.f l0=some (r1,r2,r3,r4,r5,r6)):
  Calls Try.prog 76 #[.slice A0 l0.length c0] w fun e w'=>∃ v4_:Value,e= .returned (.tuple #[.agg #[.int .u8 r1,.int .u8 r2,.int .u16 r3,.int .u32 r4,v4_],.int .i64 r6]) /\ Kd.R (Kd.int .u8) 5 w' w.heap.size (fun _=>True) v4_ r5 /\ Below w.heap.size w w':=by
 have ny:=Try.underlying101;have gh:=aa.mk hr0;have jC:=aa.mk hc0;clear hr0 hc0;have HB:=gj w;have H:(if (l0.length:Int)<8 then (some (0,0,0,0,([]:List Int),20)) else (if 0<(l0.length:Int) then (if 1<(l0.length:Int) then ((aX.f l0 2).bind fun G3=>((dL.f l0 4).bind fun JQ=>((ew.f l0 8 (l0.length:Int)).bind fun LG=>(some (rd l0 0,rd l0 1,G3,JQ,LG,0))))) else (none)) else (none)))=some (r1,r2,r3,r4,r5,r6):=h;clear h
 by_cases c2:(l0.length:Int)<8
 ·rw [au c2] at H
  have kg:decide ((l0.length:Int)<8)=true:=bS c2;have mG:decide (l0.length<8)=true:=bS (by omega);clear c2;simp only [Option.some.injEq,Prod.mk.injEq] at H
  obtain ⟨rfl,rfl,rfl,rfl,rfl,rfl⟩:=H
  go_enter Try.func76,Try.ntmps76
  go_wp2_with (first|((with_reducible refine aA (N:=2) rfl ?_);refine aC ?hg (N:=2) ?hd (cs:= #[.int .u8 0,.int .u8 0,.int .u16 0,.int .u32 0,.slice none 0 0]) (t:=101) ?hr ?_;(case hd=>rfl);(case hg=>rfl);(case hr=>first|(go_simp;done)|(go_simp;rfl));intro mE hg w3 bK hb;have aJ:=aa.mk (aq (bz HB) hb);have aQ:=aa.mk (bK);have bt:=aa.mk ((by rw [hg];exact (af (bz HB)):w.heap.size<=mE));have cr:=aa.mk ((by rw [hg];exact (af (bz HB)):w.heap.size<=mE));clear HB;have HB:=aJ;have nM:=aQ;have oS:=bt;have Aha:=cr;clear aJ aQ bt cr;clear hb bK hg;have pP:w3.cell? ⟨mE,0,none⟩=some (.int .u8 0):=cz nM.out 0 rfl;have pQ:w3.cell? ⟨mE,1,none⟩=some (.int .u8 0):=cz nM.out 1 rfl;have pR:w3.cell? ⟨mE,2,none⟩=some (.int .u16 0):=cz nM.out 2 rfl;have pS:w3.cell? ⟨mE,3,none⟩=some (.int .u32 0):=cz nM.out 3 rfl;have tU:w3.cell? ⟨mE,4,none⟩=some (.slice none 0 0):=cz nM.out 4 rfl;have pT:=ae nM.out 0;have pU:=ae nM.out 1;have pV:=ae nM.out 2;have pW:=ae nM.out 3;have tV:=ae nM.out 4))
  refine bodyPost_ret (fC rfl _ _ mE 101 #[.int .u8 0,.int .u8 0,.int .u16 0,.int .u32 0,.slice none 0 0] (0,0) _ rfl (by (repeat (first|with_reducible refine aN ?_ _|with_reducible refine aK ?_|with_reducible refine aM ?_ _|refine bM (cs:= #[.int .u8 0,.int .u8 0,.int .u16 0,.int .u32 0,.slice none 0 0]) ?_ _ _ rfl));(with_reducible repeat (first|refine aN ?_ _|refine aK ?_|refine aM ?_ _));exact nM.out) Try.underlying101 rfl (by kernel_rfl)) rfl ?_;exact ⟨_,by first|rfl|(simp [aj,ak]<;>rfl)|(simp [*,aj,ak]<;>rfl),by first|exact Kd.cl _ _ _ _ _|exact Kd.ju _ _ _ _ _|exact Kd.jv _ _ _ _ _|exact Kd.jr _ _ _ _ _|exact Kd.js _ _ _ _ _,bz HB⟩
 ·rw [ax c2] at H
  have kg:decide ((l0.length:Int)<8)=false:=gO c2;have mG:decide (l0.length<8)=false:=gO (by omega);clear c2
  by_cases c5:0<(l0.length:Int)
  ·rw [au c5] at H
   have mS:decide (0<(l0.length:Int))=true:=bS c5;have qz:decide (0<l0.length)=true:=bS (by omega);clear c5
   by_cases c6:1<(l0.length:Int)
   ·rw [au c6] at H
    have sG:decide (1<(l0.length:Int))=true:=bS c6;have Il:decide (1<l0.length)=true:=bS (by omega);clear c6;replace H:=cZ H;obtain ⟨G3,Bc,H⟩:=H
    (try dsimp -simprocs only at H)
    have A7:=aa.mk Bc;clear Bc;replace H:=cZ H;obtain ⟨JQ,Jv,H⟩:=H
    (try dsimp -simprocs only at H)
    have A8:=aa.mk Jv;clear Jv;replace H:=cZ H;obtain ⟨LG,Wv,H⟩:=H
    (try dsimp -simprocs only at H)
    have A9:=aa.mk Wv;clear Wv;simp only [Option.some.injEq,Prod.mk.injEq] at H
    obtain ⟨rfl,rfl,rfl,rfl,rfl,rfl⟩:=H
    go_enter Try.func76,Try.ntmps76
    try go_wp2_with (first|((with_reducible refine aA (N:=2) rfl ?_);refine aC ?hg (N:=2) ?hd (cs:= #[.int .u8 0,.int .u8 0,.int .u16 0,.int .u32 0,.slice none 0 0]) (t:=101) ?hr ?_;(case hd=>rfl);(case hg=>rfl);(case hr=>first|(go_simp;done)|(go_simp;rfl));intro mE hg j4 bK hb;have aJ:=aa.mk (aq (bz HB) hb);have aQ:=aa.mk (bK);have bt:=aa.mk ((by rw [hg];exact (af (bz HB)):w.heap.size<=mE));have cr:=aa.mk ((by rw [hg];exact (af (bz HB)):w.heap.size<=mE));clear HB;have HB:=aJ;have nM:=aQ;have oS:=bt;have Aha:=cr;clear aJ aQ bt cr;clear hb bK hg))
    have aJ:=aa.mk (aK nM.out);have aQ:=aa.mk (bf HB.out);clear nM;clear HB;have nM:=aJ;have HB:=aQ;clear aJ aQ;have AbT:0<=(0:Int):=(by omega)
    have AbU:0<(l0.length:Int):=gD;obtain ⟨DD,An4,vS⟩:=Kd.dB gh.out 0 AbT AbU;have jO:=vS
    (try rw [show ((0:Int)).toNat=0 from rfl] at jO)
    (try rw [show 0*1=0 from rfl] at jO)
    (try rw [Addr.add_zero'] at jO)
    cases An4
    have ArL:(0<l0.length)=True:=eq_true (by omega)
    (try rw [show ((0:Int)).toNat=0 from rfl] at vS)
    (try rw [Addr.add_zero'] at vS)
    replace vS:=(HB.out.cell (dA w _ vS)).trans vS;replace AbT:=eq_true AbT;replace AbU:=eq_true AbU;have AbV:0<=(1:Int):=(by omega)
    have AbW:1<(l0.length:Int):=gD;obtain ⟨Ahb,An5,vT⟩:=Kd.dB gh.out 1 AbV AbW;have jP:=vT
    (try rw [show ((1:Int)).toNat=1 from rfl] at jP)
    (try rw [show 1*1=1 from rfl] at jP)
    (try simp only [Nat.reduceMul,Nat.reduceEqDiff,Go.Addr.add,↓reduceIte] at jP)
    obtain rfl:DD=Ahb:=(by injection An5)
    (try simp only [show (1:Int).toNat=1 from rfl,Nat.reduceMul,Nat.reduceEqDiff,Go.Addr.add,↓reduceIte] at vT)
    have ArM:(1<l0.length)=True:=eq_true (by omega)
    (try rw [show ((1:Int)).toNat=1 from rfl] at vT)
    replace vT:=(HB.out.cell (dA w _ vT)).trans vT;replace AbV:=eq_true AbV;replace AbW:=eq_true AbW;refine dg (n:=17) (S:=fun w'=>w'.cell? DD=some (.int .u8 (rd l0 0)) /\ w'.cell? ⟨DD.block,DD.off+1,none⟩=some (.int .u8 (rd l0 1))) (ds:=[]) #[false,false,false,false,false,false,false,false,false,false,false,false,false,false,false,false,false] (by kernel_rfl) rfl rfl ⟨((HB.out.cell (dA w _ jO)).trans jO),((HB.out.cell (dA w _ jP)).trans jP)⟩ (fun hHeld=> ?_);refine bH eS.KD eS.CA (fun az dW=> ?_);generalize j4.drew=qf at nM HB vS vT hHeld|-
    refine pz 0 8 az ?_;refine pz 1 9 az ?_;refine pz 3 11 az ?_;refine pz 4 12 az ?_;refine pz 6 14 az ?_;refine pz 8 16 az ?_;refine pz 10 18 az ?_;refine pz 11 19 az ?_;refine pz 12 20 az ?_;refine gK (i:=2) (N:=some 10) (v:= ?_) (a':= ?_) #[true,true,true,true,true,false,true,false,true,false,true,true,true,false,false,false,false] rfl rfl (dn az.out dW.out (by kernel_rfl)) (fun _ _ _ h=>h) (Or.inl ⟨by rfl, ?_⟩) hHeld ?_ ?_
    rotate_left
    ·rintro w' ⟨s0,s1⟩
     go_simp
     with_reducible rfl
    rotate_left
    ·simp only [pL]
     rfl
    refine gK (i:=5) (N:=some 13) (v:= ?_) (a':= ?_) #[true,true,true,true,true,true,true,false,true,false,true,true,true,false,false,false,false] rfl rfl (dn az.out dW.out (by kernel_rfl)) (fun _ _ _ h=>h) (Or.inl ⟨by rfl, ?_⟩) hHeld ?_ ?_
    rotate_left
    ·rintro w' ⟨s0,s1⟩
     go_simp
     with_reducible rfl
    rotate_left
    ·simp only [pL]
     rfl
    refine oz 7 (some 15) az (fun K hK=> ?_);refine gG Try.func64 #[.slice (some DD) l0.length c0,.int .i64 2] ?_
    with_reducible refine (aX.calls _ _ l0 2 G3 _ ?aG ?aH A7.out).mono ?_
    (case aG=>exact Kd.aU gh.out (bz HB))
    (case aH=>exact jC.out)
    rintro e w' ⟨rfl,⟨nd,rfl⟩⟩;refine ⟨_,rfl, ?_⟩;refine hK.out _ _ ⟨((HB.out.cell (dA w _ jO)).trans jO),((HB.out.cell (dA w _ jP)).trans jP)⟩ (fun hHeld=> ?_);clear hK K;refine nz 15 ?_;refine oz 9 (some 17) az (fun K hK=> ?_);refine gG Try.func81 #[.slice (some DD) l0.length c0,.int .i64 4] ?_
    with_reducible refine (dL.calls _ _ l0 4 JQ _ ?aG ?aH A8.out).mono ?_
    (case aG=>exact Kd.aU gh.out (bz HB))
    (case aH=>exact jC.out)
    rintro e w' ⟨rfl,⟨nd,rfl⟩⟩;refine ⟨_,rfl, ?_⟩;refine hK.out _ _ ⟨((HB.out.cell (dA w _ jO)).trans jO),((HB.out.cell (dA w _ jP)).trans jP)⟩ (fun hHeld=> ?_);clear hK K;refine nz 17 ?_;refine oz 13 (some 21) az (fun K hK=> ?_);refine gG Try.func65 #[.slice (some DD) l0.length c0,.int .i64 8,.int .i64 (l0.length:Int)] ?_
    with_reducible refine (ew.calls _ _ l0 8 (l0.length:Int) LG _ ?aG ?aH A9.out).mono ?_
    (case aG=>exact Kd.aU gh.out (bz HB))
    (case aH=>exact jC.out)
    rintro e l5 ⟨Avc,rfl,gE,hb⟩;refine ⟨_,rfl, ?_⟩;have aJ:=aa.mk (Kd.bP gE (af (bz HB)));have aQ:=aa.mk (bn (kz nM) hb);have bt:=aa.mk (aq (bz HB) hb);clear nM;clear HB;have X2:=aJ;have nM:=aQ;have HB:=bt;clear aJ aQ bt
    (try clear hb)
    (try clear hb2)
    (try clear hk)
    (try clear hi)
    (try clear gE)
    obtain ⟨Jw,Jx,Lx⟩:=Kd.da X2.out
    (first|subst Lx|(injection Lx with mY rD mZ;have rE:=mY.symm;have rF:=mZ.symm;clear mY rD mZ;subst rE;subst rF))
    refine hK.out _ _ ⟨((HB.out.cell (dA w _ jO)).trans jO),((HB.out.cell (dA w _ jP)).trans jP)⟩ (fun hHeld=> ?_);clear hK K;refine nz 21 ?_;refine pz 14 22 az ?_;refine oz 15 (none) az (fun K hK=> ?_);have ArN:=cs5 nM.out;have An6:=ae nM.out;refine wJ (w1:= ?_) (by rfl) rfl ?_ ?_
    rotate_left
    ·go_simp
     rfl
    refine hK.out _ _ ⟨((cell_far (p:=⟨mE,_,none⟩) (by first|exact eD jO oS.out|exact eE jO oS.out) _).trans (((cell_far (p:=⟨mE,_,none⟩) (by first|exact eD jO oS.out|exact eE jO oS.out) _).trans (((cell_far (p:=⟨mE,_,none⟩) (by first|exact eD jO oS.out|exact eE jO oS.out) _).trans (((cell_far (p:=⟨mE,_,none⟩) (by first|exact eD jO oS.out|exact eE jO oS.out) _).trans (((cell_far (p:=⟨mE,_,none⟩) (by first|exact eD jO oS.out|exact eE jO oS.out) _).trans (hHeld.1)))))))))),((cell_far (p:=⟨mE,_,none⟩) (by first|exact eD jP oS.out|exact eE jP oS.out) _).trans (((cell_far (p:=⟨mE,_,none⟩) (by first|exact eD jP oS.out|exact eE jP oS.out) _).trans (((cell_far (p:=⟨mE,_,none⟩) (by first|exact eD jP oS.out|exact eE jP oS.out) _).trans (((cell_far (p:=⟨mE,_,none⟩) (by first|exact eD jP oS.out|exact eE jP oS.out) _).trans (((cell_far (p:=⟨mE,_,none⟩) (by first|exact eD jP oS.out|exact eE jP oS.out) _).trans (hHeld.2))))))))))⟩ (fun hHeld=> ?_)
    clear hK K;refine pz 16 3 az ?_;refine dz az ?_
    try go_wp2
    refine bodyPost_ret (fC rfl _ _ mE 101 #[.int .u8 (rd l0 0),.int .u8 (rd l0 1),.int .u16 G3,.int .u32 JQ,.slice Jw LG.length Jx] (0,0) _ rfl (by (with_reducible repeat (first|refine aN ?_ _|refine aK ?_|refine aM ?_ _));refine bM (cs:= #[.int .u8 (rd l0 0),.int .u8 (rd l0 1),.int .u16 G3,.int .u32 JQ,.slice none 0 0]) ?_ 4 _ rfl;(with_reducible repeat (first|refine aN ?_ _|refine aK ?_|refine aM ?_ _));refine bM (cs:= #[.int .u8 (rd l0 0),.int .u8 (rd l0 1),.int .u16 G3,.int .u32 0,.slice none 0 0]) ?_ 3 _ rfl;(with_reducible repeat (first|refine aN ?_ _|refine aK ?_|refine aM ?_ _));refine bM (cs:= #[.int .u8 (rd l0 0),.int .u8 (rd l0 1),.int .u16 0,.int .u32 0,.slice none 0 0]) ?_ 2 _ rfl;(with_reducible repeat (first|refine aN ?_ _|refine aK ?_|refine aM ?_ _));refine bM (cs:= #[.int .u8 (rd l0 0),.int .u8 0,.int .u16 0,.int .u32 0,.slice none 0 0]) ?_ 1 _ rfl;(with_reducible repeat (first|refine aN ?_ _|refine aK ?_|refine aM ?_ _));refine bM (cs:= #[.int .u8 0,.int .u8 0,.int .u16 0,.int .u32 0,.slice none 0 0]) ?_ 0 _ rfl;(with_reducible repeat (first|refine aN ?_ _|refine aK ?_|refine aM ?_ _));exact nM.out) Try.underlying101 rfl (by kernel_rfl)) rfl ?_
    exact ⟨_,by first|rfl|(simp [aj,ak]<;>rfl)|(simp [*,aj,ak]<;>rfl),by (with_reducible repeat (first|apply Kd.eX|apply Kd.eT|apply Kd.eY));exact Kd.dm (Kd.eF (p:=⟨mE,4,none⟩) (Kd.eF (p:=⟨mE,3,none⟩) (Kd.eF (p:=⟨mE,2,none⟩) (Kd.eF (p:=⟨mE,1,none⟩) (Kd.eF (p:=⟨mE,0,none⟩) (Kd.mL X2.out nM.out (by decide)) (fun _ hk=>hk.2) (.int .u8 (rd l0 0))) (fun _ hk=>hk.2) (.int .u8 (rd l0 1))) (fun _ hk=>hk.2) (.int .u16 G3)) (fun _ hk=>hk.2) (.int .u32 JQ)) (fun _ hk=>hk.2) (.slice Jw LG.length Jx)) (fun _ hk=>trivial),bz HB⟩
   ·rw [ax c6] at H
    cases H
  ·rw [ax c5] at H
   cases H
attribute [local go_sem] dF dG eG eH cQ cR dH dI
def nN.f (l0:List Int) (l1:List Int):Option (Bool):=some ((strOfNums l0).toList==(strOfNums l1).toList)
theorem nN.calls (A0:Option Addr) (c0:Nat) (l0:List Int) (A1:Option Addr) (c1:Nat) (l1:List Int) (r:Bool) (w:World) (hr0:Kd.C (Kd.int .u8) w A0 l0.length l0) (hc0:l0.length<=c0) (hr1:Kd.C (Kd.int .u8) w A1 l1.length l1) (hc1:l1.length<=c1) (h:nN.f l0 l1=some r):
  Calls Try.prog 22 #[.slice A0 l0.length c0,.slice A1 l1.length c1] w fun e w'=>e= .returned (.bool r) /\ bF w w':=by
 have gh:=aa.mk hr0;have jC:=aa.mk hc0;clear hr0 hc0;have HR1:=aa.mk hr1;have HC1:=aa.mk hc1;clear hr1 hc1;have H:(some ((strOfNums l0).toList==(strOfNums l1).toList))=some r:=h;clear h;obtain rfl:=cS H;have Avd:=Kd.Ht (P:=Try.prog) (A:=A0) (c:=c0) Try.underlying23 Try.underlying5 Try.underlying9 gh.out;have Ave:=Kd.Ht (P:=Try.prog) (A:=A1) (c:=c1) Try.underlying23 Try.underlying5 Try.underlying9 HR1.out
 go_enter Try.func22,Try.ntmps22
 go_wp2
 go_ret
 exact ⟨by first|rfl|(simp;done)|(simp [*];done),by repeat (first|exact bF.refl _|apply bF.step)⟩
end Go.Proofs.Ytkmimamminddiaa.PB
namespace Go.Proofs.Ytkmimamminddiaa.Spec
open Go.RowKit
def gU (l:List Int):Prop:=∀ x ∈ l,0<=x /\ x<=255
def X3 (l:List Int):Prop:=∀ x ∈ l,0<=x /\ x<=65535
theorem gU.nil:gU []:=fun _ h=>by simp at h
theorem gU.cons {a:Int} {l:List Int} (h:0<=a /\ a<=255) (hl:gU l):gU (a::l):=fun x hx=>by
 rcases List.mem_cons.1 hx with rfl|hx
 ·exact h
 ·exact hl _ hx
theorem gU.append {l m:List Int} (h:gU l) (hm:gU m):gU (l++m):=fun x hx=>by
 rcases List.mem_append.1 hx with hx|hx
 ·exact h _ hx
 ·exact hm _ hx
theorem gU.left {l m:List Int} (h:gU (l++m)):gU l:=fun x hx=>h x (List.mem_append.2 (.inl hx))
theorem gU.right {l m:List Int} (h:gU (l++m)):gU m:=fun x hx=>h x (List.mem_append.2 (.inr hx))
theorem gU.take {l:List Int} (h:gU l) (n:Nat):gU (l.take n):=fun x hx=>h x (List.mem_of_mem_take hx)
theorem gU.drop {l:List Int} (h:gU l) (n:Nat):gU (l.drop n):=fun x hx=>h x (List.mem_of_mem_drop hx)
theorem gU.set {l:List Int} (h:gU l) (i:Nat) {v:Int} (hv:0<=v /\ v<=255):gU (l.set i v):=fun x hx=>by
 rcases List.mem_or_eq_of_mem_set hx with hx|rfl
 ·exact h _ hx
 ·exact hv
theorem gU.replicate (n:Nat):gU (List.replicate n 0):=fun x hx=>by
 have:=List.eq_of_mem_replicate hx
 omega
theorem gU.getD {l:List Int} (h:gU l) (i:Nat):0<=l.getD i 0 /\ l.getD i 0<=255:=by
 rw [List.getD_eq_getElem?_getD]
 rcases Nat.lt_or_ge i l.length with hi|hi
 ·rw [List.getElem?_eq_getElem hi]
  exact h _ (List.getElem_mem hi)
 ·rw [List.getElem?_eq_none hi]
  simp
def words:List Int ->List Int
 |[]=>[]
 |[a]=>[a*256]
 |a::b::t=>(a*256+b)::words t
theorem fO:∀ l:List Int,gU l ->X3 (words l)
 |[],_=>fun _ h=>by simp [words] at h
 |[a],h=>fun x hx=>by
  have:=h a (by simp)
  simp [words] at hx
  omega
 |a::b::t,h=>fun x hx=>by
  have ha:=h a (by simp);have hb:=h b (by simp);have ht:gU t:=fun y hy=>h y (by simp [hy])
  rcases List.mem_cons.1 (show x ∈ (a*256+b)::words t from hx) with rfl|hx
  ·omega
  ·exact fO t ht _ hx
theorem lX:∀ l:List Int,(words l).length=(l.length+1) / 2
 |[]=>rfl
 |[_]=>by simp [words]
 |a::b::t=>by
  have:=lX t;simp only [words,List.length_cons,this]
  omega
theorem Fb:∀ (l:List Int) (j:Nat),2*j<l.length ->(words l)[j]?=some (l.getD (2*j) 0*256+l.getD (2*j+1) 0)
 |[],j,h=>by simp at h
 |[a],j,h=>by
  have:j=0:=by simp at h;omega
  subst this
  simp [words]
 |a::b::t,0,_=>by simp [words]
 |a::b::t,j+1,h=>by
  have:=Fb t j (by simp only [List.length_cons] at h;omega);simp only [words,List.getElem?_cons_succ,this];rw [show 2*(j+1)=2*j+1+1 from by omega]
  simp
def wD (s x:Int):Int:=if s+x>4294967295 then s+x - 4294967295 else s+x
def DE (s:Int) (ws:List Int):Int:=ws.foldl wD s
def norm (n:Int):Int:=if n=0 then 0 else (n - 1) % 65535+1
def oT:List Int ->Int
 |[]=>0
 |x::t=>x+oT t
theorem nO:∀ l:List Int,X3 l ->0<=oT l
 |[],_=>by simp [oT]
 |x::t,h=>by
  have:=nO t (fun y hy=>h y (by simp [hy]));have:=h x (by simp);simp only [oT];omega
theorem iW (n:Int) (h:0<=n):0<=norm n /\ norm n<=65535:=by unfold norm;split<;>omega
theorem DF {n:Int} (h0:0<=n) (h:n<=65535):norm n=n:=by unfold norm;split<;>omega
theorem vU {s x:Int} (h0:0<=s) (h1:s<=4294967295) (hx:0<=x /\ x<=65535):0<=wD s x /\ wD s x<=4294967295:=by
 unfold wD;split<;>omega
theorem Oz {s x r:Int} (h0:0<=s) (h1:s<=4294967295) (hx:0<=x /\ x<=65535) (hr:0<=r):norm (wD s x+r)=norm (s+x+r):=by
 unfold wD norm
 split
 ·rw [ax (by omega),ax (by omega)];omega
 ·rfl
theorem l6:∀ (ws:List Int) (s:Int),0<=s ->s<=4294967295 ->X3 ws ->0<=DE s ws /\ DE s ws<=4294967295
 |[],s,h0,h1,_=>⟨h0,h1⟩
 |x::t,s,h0,h1,hw=>by
  have hx:=vU h0 h1 (hw x (by simp));exact l6 t (wD s x) hx.1 hx.2 (fun y hy=>hw y (by simp [hy]))
theorem Fc:∀ (ws:List Int) (s r:Int),0<=s ->s<=4294967295 ->X3 ws ->0<=r ->norm (DE s ws+r)=norm (s+oT ws+r)
 |[],s,r,h0,h1,_,hr=>by simp [DE,oT]
 |x::t,s,r,h0,h1,hw,hr=>by
  have hx:=vU h0 h1 (hw x (by simp));have ht:X3 t:=fun y hy=>hw y (by simp [hy])
  have e:=Fc t (wD s x) r hx.1 hx.2 ht hr;have hi:=nO t ht;have e2:=Oz (r:=oT t+r) h0 h1 (hw x (by simp)) (by omega)
  show norm (DE (wD s x) t+r)=norm (s+(x+oT t)+r)
  rw [e,show wD s x+oT t+r=wD s x+(oT t+r) from by omega,e2]
  congr 1;omega
theorem nZ (ws:List Int) (s:Int) (h0:0<=s) (h1:s<=4294967295) (hw:X3 ws):norm (DE s ws)=norm (s+oT ws):=by
 have:=Fc ws s 0 h0 h1 hw (by omega)
 simpa using this
def ck (l:List Int):Int:=65535 - norm (oT (words l))
theorem AJ (n:Int) (h₀:0<=n) (h₁:n<2 ^ 16):IntKind.u16.wrap n=n:=by rw [IntKind.wrap_u16];omega
theorem Fe (n:Int) (h₀:0<=n) (h₁:n<2 ^ 32):IntKind.u32.wrap n=n:=by rw [IntKind.wrap_u32];omega
theorem yN {n:Int} (h₀:0<=n) (h₁:n<=65535):IntKind.u16.wrap n=n:=AJ n h₀ (by omega)
theorem JR {n:Int} (h₀:0<=n) (h₁:n<=18446744073709551615):IntKind.u64.wrap n=n:=by rw [IntKind.wrap_u64];omega
theorem St (i:Nat) (hi:i<=8) {x:Int} (h₀:0<=x) (h₁:x<=255):Go.bits .and .u8 x (2 ^ i - 1)=x % 2 ^ i:=bits_mask .u8 8 (by decide) wraps_u8 i hi x h₀ (by omega)
theorem VO (i:Nat) (hi:i<=32) {x:Int} (h₀:0<=x) (h₁:x<=4294967295):Go.bits .and .u32 x (2 ^ i - 1)=x % 2 ^ i:=bits_mask .u32 32 (by decide) Fe i hi x h₀ (by omega)
theorem Ahc (i:Nat) {x y:Int} (hx₀:0<=x) (hx:x % 2 ^ i=0) (hx₁:x<=255) (hy₀:0<=y) (hy:y<2 ^ i) (hy₁:y<=255):Go.bits .or .u8 x y=x+y:=bits_join .u8 8 (by decide) wraps_u8 i x y hx₀ hx (by omega) hy₀ hy (by omega)
theorem Su (i:Nat) {x y:Int} (hx₀:0<=x) (hx:x % 2 ^ i=0) (hx₁:x<=65535) (hy₀:0<=y) (hy:y<2 ^ i) (hy₁:y<=65535):Go.bits .or .u16 x y=x+y:=bits_join .u16 16 (by decide) AJ i x y hx₀ hx (by omega) hy₀ hy (by omega)
theorem AK (i:Nat) {x y:Int} (hx₀:0<=x) (hx:x % 2 ^ i=0) (hx₁:x<=4294967295) (hy₀:0<=y) (hy:y<2 ^ i) (hy₁:y<=4294967295):Go.bits .or .u32 x y=x+y:=bits_join .u32 32 (by decide) Fe i x y hx₀ hx (by omega) hy₀ hy (by omega)
theorem pI {x:Int} (h₀:0<=x) (h₁:x<=4294967295):Go.bits .and .u32 x 65535=x % 65536:=VO 16 (by decide) h₀ h₁
theorem LH {a b:Int} (ha:0<=a /\ a<=255) (hb:0<=b /\ b<=255):Go.bits .or .u16 (a*256) b=a*256+b:=Su 8 (by omega) (by omega) (by omega) (by omega) (by omega) (by omega)
theorem xK {x:Int} (h₀:0<=x) (h₁:x<=65535):Go.bits .xor .u16 65535 x=65535 - x:=by
 obtain ⟨a,rfl⟩:=Int.eq_ofNat_of_zero_le h₀;have ha:a<65536:=by omega
 rw [show (65535:Int)=((65535:Nat):Int) from rfl,Go.u16_xor_nat 65535 a (by decide) ha]
 have:(65535 ^^^ a:Nat)=65535 - a:=by
  have h1:=BitVec.toNat_not (x:=BitVec.ofNat 16 a)
  have h2:(~~~ (BitVec.ofNat 16 a))=BitVec.ofNat 16 65535 ^^^ BitVec.ofNat 16 a:=by
   rw [show BitVec.ofNat 16 65535=BitVec.allOnes 16 from rfl,BitVec.allOnes_xor]
  rw [h2,BitVec.toNat_xor,BitVec.toNat_ofNat,BitVec.toNat_ofNat,Nat.mod_eq_of_lt (show 65535<2 ^ 16 from by decide),Nat.mod_eq_of_lt (show a<2 ^ 16 from ha)] at h1
  rw [h1]
 rw [this]
 omega
theorem cj {n:Int} (h₀: -9223372036854775808<=n) (h₁:n<=9223372036854775807):wrap64 n=n:=by unfold wrap64;omega
theorem stands {S:Int} (h:0<=S):norm (S+(65535 - norm S))=65535:=by
 unfold norm
 split
 ·rw [ax (by omega)];omega
 ·rw [ax (by omega)];omega
end Go.Proofs.Ytkmimamminddiaa.Spec
namespace Go.Proofs.Ytkmimamminddiaa.j8
open Go.RowKit Go.Proofs.Ytkmimamminddiaa.PB Go.Proofs.ai.bX Go.Proofs.ai.dh Go.Proofs.Ytkmimamminddiaa.Spec
theorem ia (l:List Int) (i:Int) (j:Nat) (h:i=(j:Int)):rd l i=l.getD j 0:=by subst h;simp [rd]
theorem G4 (l:List Int) (a b:Nat) (i:Int) (j:Nat) (h:i=(j:Int)) (hb:a+j<b):rd ((l.take b).drop a) i=l.getD (a+j) 0:=by
 rw [ia _ _ j h,List.getD_eq_getElem?_getD,List.getElem?_drop,List.getElem?_take_of_lt hb,List.getD_eq_getElem?_getD]
theorem Sv {x:Int} (h:(Lit.int .u8 x).wf=true):0<=x /\ x<=255:=by
 simp [Lit.wf,IntKind.min,IntKind.max,IntKind.bits,IntKind.signed] at h;omega
theorem Sw {x:Int} (h:(Lit.int .u16 x).wf=true):0<=x /\ x<=65535:=by
 simp [Lit.wf,IntKind.min,IntKind.max,IntKind.bits,IntKind.signed] at h;omega
theorem Sy {x:Int} (h:(Lit.int .u32 x).wf=true):0<=x /\ x<=4294967295:=by
 simp [Lit.wf,IntKind.min,IntKind.max,IntKind.bits,IntKind.signed] at h;omega
def jQ (l:List Int) (i:Nat):Int:=l.getD i 0*256+l.getD (i+1) 0
def sy (l:List Int) (i:Nat):Int:=jQ l i*65536+jQ l (i+2)
theorem fP {l:List Int} (h:gU l) (i:Nat):0<=jQ l i /\ jQ l i<=65535:=by
 have h1:=h.getD i;have h2:=h.getD (i+1);unfold jQ;omega
theorem uG {l:List Int} (h:gU l) (i:Nat):0<=sy l i /\ sy l i<=4294967295:=by
 have h1:=fP h i;have h2:=fP h (i+2);unfold sy;omega
theorem DG {a b:Int} (ha:0<=a /\ a<=255) (hb:0<=b /\ b<=255):Go.bits .or .u16 (IntKind.u16.wrap ((IntKind.u16.wrap a)*256)) (IntKind.u16.wrap b)=a*256+b:=by
 rw [yN (n:=a) (by omega) (by omega),yN (n:=a*256) (by omega) (by omega),yN (n:=b) (by omega) (by omega),LH ha hb]
theorem LI {a b:Int} (ha:0<=a /\ a<=65535) (hb:0<=b /\ b<=65535):Go.bits .or .u32 (((a % 4294967296)*65536) % 4294967296) (b % 4294967296)=a*65536+b:=by
 rw [show a % 4294967296=a from by omega,show (a*65536) % 4294967296=a*65536 from by omega,show b % 4294967296=b from by omega];exact AK 16 (by omega) (by omega) (by omega) (by omega) (by omega) (by omega)
theorem iC {l:List Int} (h:gU l) (i:Nat) (hi:i+2<=l.length) (hl:l.length<=1000000000):aX.f l (i:Int)=some (jQ l i):=by
 unfold aX.f;have e:wrap64 ((i:Int)+1)=((i+1:Nat):Int):=by rw [cj (by omega) (by omega)];omega
 rw [e,au (by omega),au (by omega),au (by omega),au (by omega),ia l _ i rfl,ia l _ (i+1) rfl,DG (h.getD i) (h.getD (i+1))]
 rfl
theorem AL (l:List Int) (a b:Nat) (h1:a<=b) (h2:b<=l.length) (hl:l.length<=1000000000):ew.f l (a:Int) (b:Int)=some ((l.take b).drop a):=by
 unfold ew.f;have hlen:((l.take b).drop a).length<=l.length:=by rw [List.length_drop,List.length_take];omega
 rw [au (by omega),au (by omega),au (by omega)];simp only [Int.toNat_natCast,List.length_nil,Nat.zero_add,List.nil_append];rw [au (by omega)]
theorem zW (l:List Int) (hl:l.length<=1000000000):cH.f l=some l:=by
 unfold cH.f;rw [au (by omega)]
theorem LJ (l:List Int):nN.f l l=some true:=by
 unfold nN.f
 simp
theorem q8 {l:List Int} (h:gU l) (i:Nat) (hi:i+4<=l.length) (hl:l.length<=1000000000):dL.f l (i:Int)=some (sy l i):=by
 unfold dL.f;have e:wrap64 ((i:Int)+2)=((i+2:Nat):Int):=by rw [cj (by omega) (by omega)];omega
 rw [e,iC h i (by omega) hl,iC h (i+2) (by omega) hl];simp only [bA];rw [LI (fP h i) (fP h (i+2))]
 rfl
end Go.Proofs.Ytkmimamminddiaa.j8
namespace Go.Proofs.Ytkmimamminddiaa.Pure
open Go.RowKit Go.Proofs.Ytkmimamminddiaa.PB Go.Proofs.ai.bX Go.Proofs.ai.dh
open Go.Proofs.Ytkmimamminddiaa.Spec Go.Proofs.Ytkmimamminddiaa.j8
theorem vV {l:List Int} (h:gU l) (a b:Nat) (hab:b=a+2) (hb:b<=l.length):kU.f ((l.take b).drop a)=some (jQ l a):=by
 subst hab;unfold kU.f;have hlen:((l.take (a+2)).drop a).length=2:=by rw [List.length_drop,List.length_take];omega
 rw [hlen,au (by omega),au (by omega),G4 l a (a+2) 0 0 rfl (by omega),G4 l a (a+2) 1 1 rfl (by omega),DG (h.getD (a+0)) (h.getD (a+1))]
 rfl
theorem Sz (l:List Int) (a b c d:Nat) (h:a+d<=b):(((l.take b).drop a).take d).drop c=(l.take (a+d)).drop (a+c):=by
 rw [List.take_drop,List.take_take,List.drop_drop,Nat.min_eq_left h]
theorem JS {l:List Int} (h:gU l) (a b:Nat) (hab:b=a+4) (hb:b<=l.length):pO.f ((l.take b).drop a)=some (sy l a):=by
 subst hab;unfold pO.f;have hlen:((l.take (a+4)).drop a).length=4:=by rw [List.length_drop,List.length_take];omega
 rw [hlen,au (by omega),Sz l a (a+4) 0 2 (by omega),Sz l a (a+4) 2 4 (by omega),vV h (a+0) (a+2) (by omega) (by omega),vV h (a+2) (a+4) (by omega) (by omega)];simp only [bA];rw [LI (fP h (a+0)) (fP h (a+2))]
 rfl
def LL (l:List Int):Int×Int×Int×Int×Int×Int×Int×Int×List Int×List Int×Int:=
 if l.length<20 then (0,0,0,0,0,0,0,0,[],[],20) else if 4*(l.getD 12 0 / 16)<20 then (0,0,0,0,0,0,0,0,[],[],21) else if (l.length:Int)<4*(l.getD 12 0 / 16) then (0,0,0,0,0,0,0,0,[],[],20) else
 (jQ l 0,jQ l 2,sy l 4,sy l 8,l.getD 13 0,jQ l 14,jQ l 16,jQ l 18,(l.take (4*(l.getD 12 0 / 16)).toNat).drop 20,l.drop (4*(l.getD 12 0 / 16)).toNat,0)
theorem Ff {l:List Int} (h:gU l) (hl:l.length<=1000000000):nW.f l=some (LL l):=by
 unfold nW.f LL
 by_cases h8:l.length<20
 ·rw [au (by omega),au h8]
 ·have hg:=h.getD 12
  rw [ax (by omega),ax h8,au (by omega),ia l 12 12 rfl,ia l 13 13 rfl];obtain ⟨m,hm⟩:∃ m:Int,m=4*(l.getD 12 0 / 16):=⟨_,rfl⟩
  have hw:wrap64 (4*(wrap64 (l.getD 12 0 / 16)))=m:=by rw [cj (n:=l.getD 12 0 / 16) (by omega) (by omega),cj (by omega) (by omega),hm]
  rw [hw,<- hm]
  by_cases c1:m<20
  ·rw [au c1,au c1]
  ·rw [ax c1,ax c1]
   by_cases c2:(l.length:Int)<m
   ·rw [au c2,au c2]
   ·rw [ax c2,ax c2,au (by omega),vV h 0 2 rfl (by omega),bA,au (by omega),vV h 2 4 rfl (by omega),bA,au (by omega),JS h 4 8 rfl (by omega),bA,au (by omega),JS h 8 12 rfl (by omega),bA,au (by omega),au (by omega),vV h 14 16 rfl (by omega),bA,au (by omega),vV h 16 18 rfl (by omega),bA,au (by omega),vV h 18 20 rfl (by omega),bA,au (by omega),au (by omega),zW _ (by rw [List.length_drop,List.length_take];omega),bA,au (by omega),zW _ (by rw [List.length_drop];omega),bA]
theorem DH {l:List Int} (h:gU l) (hl:l.length<=1000000000):fZ.f l=some (LL l):=by
 unfold fZ.f LL
 by_cases h8:l.length<20
 ·rw [au (by omega),au h8]
 ·have hg:=h.getD 12
  rw [ax (by omega),ax h8,au (by omega),ia l 12 12 rfl,ia l 13 13 rfl];obtain ⟨m,hm⟩:∃ m:Int,m=4*(l.getD 12 0 / 16):=⟨_,rfl⟩
  have hw:wrap64 ((wrap64 (l.getD 12 0 / 16))*4)=m:=by rw [cj (n:=l.getD 12 0 / 16) (by omega) (by omega),cj (by omega) (by omega),hm];omega
  rw [hw,<- hm];have e0:=iC h 0 (by omega) hl;have e2:=iC h 2 (by omega) hl;have e4:=q8 h 4 (by omega) hl;have e8:=q8 h 8 (by omega) hl;have e14:=iC h 14 (by omega) hl;have X4:=iC h 16 (by omega) hl;have e18:=iC h 18 (by omega) hl;rw [show ((0:Nat):Int)=0 from rfl] at e0
  rw [show ((2:Nat):Int)=2 from rfl] at e2
  rw [show ((4:Nat):Int)=4 from rfl] at e4
  rw [show ((8:Nat):Int)=8 from rfl] at e8
  rw [show ((14:Nat):Int)=14 from rfl] at e14
  rw [show ((16:Nat):Int)=16 from rfl] at X4
  rw [show ((18:Nat):Int)=18 from rfl] at e18
  by_cases c1:m<20
  ·rw [au c1,au c1]
  ·rw [ax c1,ax c1]
   by_cases c2:(l.length:Int)<m
   ·rw [au c2,au c2]
   ·have f1:=AL l 20 m.toNat (by omega) (by omega) hl
    have f2:=AL l m.toNat l.length (by omega) (by omega) hl;rw [show ((20:Nat):Int)=20 from rfl,Int.toNat_of_nonneg (by omega)] at f1
    rw [List.take_length,Int.toNat_of_nonneg (by omega)] at f2
    rw [ax c2,ax c2,e0,bA,e2,bA,e4,bA,e8,bA,au (by omega),e14,bA,X4,bA,e18,bA,f1,bA,f2,bA]
def Nl (s d q a f w c u:Int) (o:List Int):List Int:=[s / 256 % 256,s % 256,d / 256 % 256,d % 256,q / 16777216 % 256,q / 65536 % 256,q / 256 % 256,q % 256,a / 16777216 % 256,a / 65536 % 256,a / 256 % 256,a % 256,(20+(o.length:Int)) / 4*16 % 256,f,w / 256 % 256,w % 256,c / 256 % 256,c % 256,u / 256 % 256,u % 256]
def l7 (s d q a f w c u:Int) (o l:List Int):List Int:=Nl s d q a f w c u o++(o++l)
def OA (s d q a f w c u:Int) (o l:List Int):List Int×Int:=if (o.length:Int) % 4≠0 \/ (o.length:Int)>40 then ([],21) else if 20+(o.length:Int)+(l.length:Int)>65515 then ([],23) else (l7 s d q a f w c u o l,0)
theorem SA:wrap64 ((0:Int)+1)=1:=cj (by omega) (by omega)
theorem SB:wrap64 ((1:Int)+1)=2:=cj (by omega) (by omega)
theorem X5:wrap64 ((2:Int)+1)=3:=cj (by omega) (by omega)
theorem yO {k:Nat} {x0 x9:List (List Int)} {x3 BR FP s i:Int} (h1:FP<BR) (h2:0<=FP) (h3:FP<(x9.length:Int)) (hs:wrap64 (x3+((qO x9 FP).length:Int))=s) (h4:0<=s) (hi:wrap64 (FP+1)=i):aZ.l0 (k+1) x0 x3 x9 BR FP=aZ.l0 k x0 s x9 BR i:=by
 rw [aZ.l0,au h1,au h2,au h3,hs,ax (Int.not_lt.2 h4),hi]
theorem yP {k:Nat} {x6:List Int} {Pb:List (List Int)} {Ub Gi i:Int} (h1:Gi<Ub) (h2:0<=Gi) (h3:Gi<(Pb.length:Int)) (h4:x6.length+(qO Pb Gi).length<140737488355328) (hi:wrap64 (Gi+1)=i):aZ.l1 (k+1) x6 Pb Ub Gi=aZ.l1 k (x6++qO Pb Gi) Pb Ub i:=by
 rw [aZ.l1,au h1,au h2,au h3,au h4,hi]
theorem OB {k:Nat} {x0 x9:List (List Int)} {x3 BR FP:Int} (h1:¬ FP<BR):aZ.l0 (k+1) x0 x3 x9 BR FP=(gM.f ([]:List Int) x3).bind fun t=>aZ.l1 k t x0 (x0.length:Int) 0:=by
 rw [aZ.l0,ax h1]
theorem OC {k:Nat} {x6:List Int} {Pb:List (List Int)} {Ub Gi:Int} (h1:¬ Gi<Ub):aZ.l1 (k+1) x6 Pb Ub Gi=some x6:=by
 rw [aZ.l1,ax h1]
theorem OD {n:Int} (h0:0<=n) (h1:n<70368744177664):gM.f ([]:List Int) n=some []:=by
 unfold gM.f;rw [au h0,au h1]
theorem JT (x y z:List Int) (hx:x.length<=1000000000) (hy:y.length<=1000000000) (hz:z.length<=1000000000) (k:Nat) (hk:9<=k):aZ.f k [x,y,z]=some (x++(y++z)):=by
 obtain ⟨k,rfl⟩:∃ j,k=j+9:=⟨k - 9,by omega⟩
 have hlen:(([x,y,z]:List (List Int)).length:Int)=3:=rfl;have s0:wrap64 (0+(x.length:Int))=(x.length:Int):=by rw [cj (by omega) (by omega)];omega
 have s1:wrap64 ((x.length:Int)+(y.length:Int))=(x.length:Int)+(y.length:Int):=cj (by omega) (by omega);have s2:wrap64 ((x.length:Int)+(y.length:Int)+(z.length:Int))=(x.length:Int)+(y.length:Int)+(z.length:Int):=cj (by omega) (by omega);unfold aZ.f;rw [hlen];refine (yO (k:=k+8) (s:=(x.length:Int)) (i:=1) (by omega) (by omega) (by rw [hlen];omega) s0 (by omega) SA).trans ?_;refine (yO (k:=k+7) (s:=(x.length:Int)+(y.length:Int)) (i:=2) (by omega) (by omega) (by rw [hlen];omega) s1 (by omega) SB).trans ?_;refine (yO (k:=k+6) (s:=(x.length:Int)+(y.length:Int)+(z.length:Int)) (i:=3) (by omega) (by omega) (by rw [hlen];omega) s2 (by omega) X5).trans ?_;refine (OB (k:=k+5) (by omega)).trans ?_
 have h0:(0:Int)<=(x.length:Int)+(y.length:Int)+(z.length:Int):=by omega
 have h1:(x.length:Int)+(y.length:Int)+(z.length:Int)<70368744177664:=by omega
 rw [OD h0 h1,bA,hlen];have l1:(([]:List Int)++x).length+y.length<140737488355328:=by rw [List.nil_append];omega
 have l2:(([]:List Int)++x++y).length+z.length<140737488355328:=by rw [List.nil_append,List.length_append];omega
 refine (yP (k:=k+4) (i:=1) (by omega) (by omega) (by rw [hlen];omega) (show ([]:List Int).length+x.length<140737488355328 by rw [List.length_nil];omega) SA).trans ?_;refine (yP (k:=k+3) (i:=2) (by omega) (by omega) (by rw [hlen];omega) l1 SB).trans ?_;refine (yP (k:=k+2) (i:=3) (by omega) (by omega) (by rw [hlen];omega) l2 X5).trans ?_;refine (OC (k:=k+1) (by omega)).trans ?_
 show some (([]:List Int)++x++y++z)=some (x++(y++z))
 rw [List.nil_append,List.append_assoc]
theorem Fg {s d q a f w c u:Int} {o l:List Int} (ho:o.length<=1000000000) (hl:l.length<=1000000000) (k:Nat) (hk:30<=k):eP.f k s d q a f w c u o l=some (OA s d q a f w c u o l):=by
 obtain ⟨k,rfl⟩:∃ j,k=j+30:=⟨k - 30,by omega⟩
 have w1:wrap64 (20+(o.length:Int))=20+(o.length:Int):=cj (by omega) (by omega);have w2:wrap64 (20+(o.length:Int)+(l.length:Int))=20+(o.length:Int)+(l.length:Int):=cj (by omega) (by omega);have n1:=SA;have n2:=SB;unfold eP.f OA
 by_cases c1:(o.length:Int) % 4=0
 ·rw [au c1]
  by_cases c2:(o.length:Int)>40
  ·rw [bS c2,au (.inr c2),eP.j0,au rfl]
  ·rw [gO c2,ax (by omega),eP.j0,ax (by decide),w1,w2]
   by_cases c3:20+(o.length:Int)+(l.length:Int)>65515
   ·rw [au c3,au c3]
   ·rw [ax c3,ax c3,bA]
    have hlen:(([q,a]:List Int).length:Int)=2:=rfl;have r0:rd [q,a] 0=q:=rfl;have r1:rd [q,a] 1=a:=rfl;rw [hlen,eP.l0,au (by omega),au (by omega),hlen,au (by omega),r0,bA,au (by simp),n1];rw [eP.l0,au (by omega),au (by omega),hlen,au (by omega),r1,bA,au (by simp),n2];rw [eP.l0,ax (by omega),bA,au (by simp),w1,JT _ _ _ (by simp) (by omega) (by omega) _ (by omega),bA];have e:(20+(o.length:Int)) % 256 / 4*16 % 256=(20+(o.length:Int)) / 4*16 % 256:=by omega
    rw [e]
    rfl
 ·rw [ax c1,au (.inl c1),eP.j0,au rfl]
theorem vW {s d q a f w c u:Int} {o l:List Int} (ho:o.length<=1000000000) (hl:l.length<=1000000000) (k:Nat) (hk:30<=k):aD.f k s d q a f w c u o l=some (OA s d q a f w c u o l):=by
 obtain ⟨k,rfl⟩:∃ j,k=j+30:=⟨k - 30,by omega⟩
 have w1:wrap64 (20+(o.length:Int))=20+(o.length:Int):=cj (by omega) (by omega);unfold aD.f OA
 by_cases c1:(o.length:Int) % 4=0
 ·rw [au c1]
  by_cases c2:(o.length:Int)>40
  ·rw [bS c2,au (.inr c2),aD.j0,au rfl]
  ·have w2:wrap64 (65515 - (20+(o.length:Int)))=65515 - (20+(o.length:Int)):=cj (by omega) (by omega)
   rw [gO c2,ax (by omega),aD.j0,ax (by decide),w1,w2]
   by_cases c3:20+(o.length:Int)+(l.length:Int)>65515
   ·rw [au (by omega),au c3]
   ·have w3:wrap64 (Int.tdiv (20+(o.length:Int)) 4)=(20+(o.length:Int)) / 4:=by rw [Int.tdiv_eq_ediv_of_nonneg (by omega),cj (by omega) (by omega)]
    have e:(20+(o.length:Int)) / 4 % 256*16 % 256=(20+(o.length:Int)) / 4*16 % 256:=by omega
    rw [ax (by omega),ax c3,w3,e];unfold bq.f dK.f;rw [bA,au (by simp),bA,bA,au (by simp),bA,bA,au (by simp),bA,bA,au (by simp),bA,bA,au (by simp),bA,au (by simp),bA,bA,au (by simp),bA,bA,au (by simp),bA,au (by simp;omega),bA,au (by simp;omega),List.append_assoc]
    rfl
 ·rw [ax c1,au (.inl c1),aD.j0,au rfl]
theorem OE {s d q a f w c u:Int} {o:List Int} (hf:0<=f /\ f<=255):gU (Nl s d q a f w c u o):=by
 unfold Nl
 repeat (first|exact .nil|refine .cons (by omega) ?_)
theorem G5 (s d q a f w c u:Int) (o:List Int):(Nl s d q a f w c u o).length=20:=rfl
end Go.Proofs.Ytkmimamminddiaa.Pure
namespace Go.Proofs.Ytkmimamminddiaa.oo
open Go.RowKit Go.Proofs.Ytkmimamminddiaa.PB Go.Proofs.ai.bX Go.Proofs.ai.dh Go.Proofs.Ytkmimamminddiaa.Spec
theorem Fh (l:List Int) (i:Int) (j:Nat) (h:i=(j:Int)):rd l i=l.getD j 0:=by subst h;simp [rd]
theorem DI (l:List Int) (j:Nat) (h:2*j<l.length):(words l).take (j+1)=(words l).take j++[l.getD (2*j) 0*256+l.getD (2*j+1) 0]:=by
 have hl:=lX l;have hg:=Fb l j h;have hj:j<(words l).length:=by omega
 rw [List.getElem?_eq_getElem hj] at hg
 injection hg with hg
 rw [List.take_succ_eq_append_getElem hj,hg]
theorem SC (l:List Int) (hb:gU l) (hl:l.length<=1000000000) (d:Nat):∀ (k j:Nat),j+d=(l.length+1) / 2 ->d<k ->
  gW.l0 k l ((words l).take j) (((l.length+1) / 2:Nat):Int) (j:Int)=some (words l):=by
 induction d with
 |zero=>
  intro k j hj hk;obtain ⟨k,rfl⟩:∃ m,k=m+1:=⟨k - 1,by omega⟩
  simp only [gW.l0];rw [ax (by omega),List.take_of_length_le (by rw [lX];omega)]
 |succ d ih=>
  intro k j hj hk;obtain ⟨k,rfl⟩:∃ m,k=m+1:=⟨k - 1,by omega⟩
  have e2:wrap64 (2*(j:Int))=((2*j:Nat):Int):=by rw [cj (by omega) (by omega)];omega
  have e3:wrap64 (((2*j:Nat):Int)+1)=((2*j+1:Nat):Int):=by rw [cj (by omega) (by omega)];omega
  have e1:wrap64 ((j:Int)+1)=((j+1:Nat):Int):=by rw [cj (by omega) (by omega)];omega
  have h1:=hb.getD (2*j);have h2:=hb.getD (2*j+1);have hlen:((words l).take j).length<70368744177664:=by rw [List.length_take,lX];omega
  have ht:=DI l j (by omega);have hi:=ih k (j+1) (by omega) (by omega);simp only [gW.l0,e2,e3,e1];rw [au (by omega),au (by omega),au (by omega),Fh l _ (2*j) rfl,Fh l _ (2*j+1) rfl];rw [yN (by omega) (by omega:l.getD (2*j) 0<=65535),yN (by omega) (by omega:l.getD (2*j) 0*256<=65535),yN (by omega) (by omega:l.getD (2*j+1) 0<=65535),LH h1 h2]
  by_cases hc:2*j+1<l.length
  ·rw [au (by omega),au (by omega),au hlen,<- ht]
   exact hi
  ·have h0:l.getD (2*j+1) 0=0:=by rw [List.getD_eq_getElem?_getD,List.getElem?_eq_none (by omega)];rfl
   rw [ax (by omega),au hlen];rw [h0,Int.add_zero] at ht
   rw [<- ht];exact hi
theorem SD (l:List Int) (hb:gU l) (hl:l.length<=1000000000) (k:Nat) (hk:l.length+1<k):gW.f k l=some (words l):=by
 have h:=SC l hb hl ((l.length+1) / 2) k 0 (by omega) (by omega);unfold gW.f
 have e:wrap64 (Int.tdiv (wrap64 ((l.length:Int)+1)) 2)=(((l.length+1) / 2:Nat):Int):=by
  rw [cj (n:=(l.length:Int)+1) (by omega) (by omega),Int.tdiv_eq_ediv_of_nonneg (by omega),cj (by omega) (by omega)];omega
 rw [e]
 simpa using h
theorem SE {a b:Int} (ha:0<=a /\ a<=4294967295) (hb:0<=b /\ b<=65535):qD.f a b 0=some ((a+b) % 4294967296,(a+b) / 4294967296):=by
 unfold qD.f;rw [JR ha.1 (by omega),JR hb.1 (by omega),JR (n:=a+b) (by omega) (by omega),JR (n:=(0:Int)) (by omega) (by omega),JR (n:=a+b+0) (by omega) (by omega)];rw [Int.add_zero,show ((a+b) / 4294967296) % 4294967296=(a+b) / 4294967296 from by omega]
theorem AbX (ws:List Int) (hw:X3 ws) (hl:ws.length<=1000000000) (d:Nat):∀ (k j:Nat) (s:Int),j+d=ws.length ->d<k ->0<=s ->s<=4294967295 ->
  gF.l0 k s ws (ws.length:Int) (j:Int)=some (DE s (ws.drop j)):=by
 induction d with
 |zero=>
  intro k j s hj hk h0 h1;obtain ⟨k,rfl⟩:∃ m,k=m+1:=⟨k - 1,by omega⟩
  simp only [gF.l0];rw [ax (by omega),List.drop_of_length_le (by omega)]
  rfl
 |succ d ih=>
  intro k j s hj hk h0 h1;obtain ⟨k,rfl⟩:∃ m,k=m+1:=⟨k - 1,by omega⟩
  have hjl:j<ws.length:=by omega
  have hx:=hw _ (List.getElem_mem hjl);have e1:wrap64 ((j:Int)+1)=((j+1:Nat):Int):=by rw [cj (by omega) (by omega)];omega
  have er:rd ws (j:Int)=ws[j]:=by rw [Fh ws _ j rfl,List.getD_eq_getElem?_getD,List.getElem?_eq_getElem hjl];rfl
  have ho:=vU h0 h1 hx;have hi:=ih k (j+1) (wD s ws[j]) (by omega) (by omega) ho.1 ho.2;simp only [gF.l0,e1,er];rw [au (by omega),au (by omega),au (by omega),show ws[j] % 4294967296=ws[j] from by omega,SE ⟨h0,h1⟩ hx];simp only [bA];have eo:((s+ws[j]) % 4294967296+(s+ws[j]) / 4294967296) % 4294967296=wD s ws[j]:=by unfold wD;split<;>omega
  rw [eo,hi,List.drop_eq_getElem_cons hjl]
  rfl
theorem add_eq (s:Int) (l:List Int) (hb:gU l) (hl:l.length<=1000000000) (h0:0<=s) (h1:s<=4294967295) (k:Nat) (hk:l.length+1<k):gF.f k s l=some (DE s (words l)):=by
 unfold gF.f;rw [SD l hb hl k hk];have hwl:=lX l;have:=AbX (words l) (fO l hb) (by omega) (words l).length k 0 s (by omega) (by omega) h0 h1
 simpa using this
theorem yQ {k:Nat} {s:Int} (h0:0<=s) (h1:s<=65535):eB.l0 (k+1) s=some s:=by
 simp only [eB.l0];rw [au (by omega),yN h0 h1]
theorem Fj {k:Nat} {s:Int} (h0:65536<=s) (h1:s<=4294967295):eB.l0 (k+1) s=eB.l0 k (s % 65536+s / 65536):=by
 simp only [eB.l0];rw [ax (by omega),pI (by omega) h1,show (s % 65536+s / 65536) % 4294967296=s % 65536+s / 65536 from by omega]
theorem fold_eq (s:Int) (h0:0<=s) (h1:s<=4294967295) (k:Nat) (hk:3<k):eB.f k s=some (norm s):=by
 obtain ⟨k,rfl⟩:∃ m,k=m+3:=⟨k - 3,by omega⟩
 unfold eB.f
 by_cases c:s<=65535
 ·rw [yQ h0 c,DF h0 c]
 ·rw [Fj (by omega) h1]
  by_cases c2:s % 65536+s / 65536<=65535
  ·rw [yQ (by omega) c2]
   congr 1;unfold norm;rw [ax (by omega)];omega
  ·rw [Fj (by omega) (by omega),yQ (by omega) (by omega)]
   congr 1;unfold norm;rw [ax (by omega)];omega
theorem OG (l:List Int) (hb:gU l) (hl:l.length<=1000000000) (d:Nat):∀ (k j:Nat),j+d=(l.length+1) / 2 ->d<k ->
  eK.l0 k l ((words l).take j) ((2*j:Nat):Int)=some (words l):=by
 induction d with
 |zero=>
  intro k j hj hk;obtain ⟨k,rfl⟩:∃ m,k=m+1:=⟨k - 1,by omega⟩
  simp only [eK.l0];rw [ax (by omega),List.take_of_length_le (by rw [lX];omega)]
 |succ d ih=>
  intro k j hj hk;obtain ⟨k,rfl⟩:∃ m,k=m+1:=⟨k - 1,by omega⟩
  have e3:wrap64 (((2*j:Nat):Int)+1)=((2*j+1:Nat):Int):=by rw [cj (by omega) (by omega)];omega
  have e1:wrap64 (((2*j:Nat):Int)+2)=((2*(j+1):Nat):Int):=by rw [cj (by omega) (by omega)];omega
  have h1:=hb.getD (2*j);have h2:=hb.getD (2*j+1);have hlen:((words l).take j).length<70368744177664:=by rw [List.length_take,lX];omega
  have ht:=DI l j (by omega);have hi:=ih k (j+1) (by omega) (by omega);simp only [eK.l0,e3,e1];rw [au (by omega),au (by omega),Fh l _ (2*j) rfl,Fh l _ (2*j+1) rfl];rw [yN (by omega) (by omega:l.getD (2*j) 0<=65535),yN (by omega) (by omega:l.getD (2*j) 0*256<=65535),yN (by omega) (by omega:l.getD (2*j+1) 0<=65535),LH h1 h2]
  by_cases hc:2*j+1<l.length
  ·rw [au (by omega),au (by omega),au hlen,<- ht]
   exact hi
  ·have h0:l.getD (2*j+1) 0=0:=by rw [List.getD_eq_getElem?_getD,List.getElem?_eq_none (by omega)];rfl
   rw [ax (by omega),au hlen];rw [h0,Int.add_zero] at ht
   rw [<- ht];exact hi
theorem OH (l:List Int) (hb:gU l) (hl:l.length<=1000000000) (k:Nat) (hk:l.length+1<k):eK.f k l=some (words l):=by
 have h:=OG l hb hl ((l.length+1) / 2) k 0 (by omega) (by omega);unfold eK.f
 simpa using h
theorem VP (ws:List Int) (hw:X3 ws) (hl:ws.length<=1000000000) (d:Nat):∀ (k j:Nat) (s:Int),j+d=ws.length ->d<k ->0<=s ->s<=4294967295 ->
  bZ.l0 k s ws (j:Int)=some (DE s (ws.drop j)):=by
 induction d with
 |zero=>
  intro k j s hj hk h0 h1;obtain ⟨k,rfl⟩:∃ m,k=m+1:=⟨k - 1,by omega⟩
  simp only [bZ.l0];rw [ax (by omega),List.drop_of_length_le (by omega),show s % 4294967296=s from by omega]
  rfl
 |succ d ih=>
  intro k j s hj hk h0 h1;obtain ⟨k,rfl⟩:∃ m,k=m+1:=⟨k - 1,by omega⟩
  have hjl:j<ws.length:=by omega
  have hx:=hw _ (List.getElem_mem hjl);have e1:wrap64 ((j:Int)+1)=((j+1:Nat):Int):=by rw [cj (by omega) (by omega)];omega
  have er:rd ws (j:Int)=ws[j]:=by rw [Fh ws _ j rfl,List.getD_eq_getElem?_getD,List.getElem?_eq_getElem hjl];rfl
  have ho:=vU h0 h1 hx;have hi:=ih k (j+1) (wD s ws[j]) (by omega) (by omega) ho.1 ho.2;simp only [bZ.l0,e1,er];rw [au (by omega),au (by omega),JR (n:=ws[j]) (by omega) (by omega),JR (n:=s+ws[j]) (by omega) (by omega)];rw [List.drop_eq_getElem_cons hjl]
  show _=some (DE (wD s ws[j]) (ws.drop (j+1)))
  rw [<- hi]
  by_cases hc:s+ws[j]>4294967295
  ·rw [au hc]
   congr 1
   rw [IntKind.wrap_u64,IntKind.wrap_u64];unfold wD;rw [au hc];omega
  ·rw [ax hc]
   congr 1;unfold wD;rw [ax hc]
theorem xL (s:Int) (l:List Int) (hb:gU l) (hl:l.length<=1000000000) (h0:0<=s) (h1:s<=4294967295) (k:Nat) (hk:l.length+1<k):bZ.f k s l=some (DE s (words l)):=by
 unfold bZ.f;rw [OH l hb hl k hk];have hwl:=lX l;have:=VP (words l) (fO l hb) (by omega) (words l).length k 0 s (by omega) (by omega) h0 h1;simp only [bA,JR h0 (show s<=18446744073709551615 from by omega)]
 simpa using this
theorem sN (s:Int) (h0:0<=s) (h1:s<=4294967295) (k:Nat) (hk:3<k):bO.f k s=some (norm s):=by
 have hs:∀ {k:Nat} {s:Int},0<=s ->s<=65535 ->bO.l0 (k+1) s=some s:=by
  intro k s h0 h1;simp only [bO.l0];rw [au (by omega),yN h0 h1]
 have ht:∀ {k:Nat} {s:Int},65536<=s ->s<=4294967295 ->bO.l0 (k+1) s=bO.l0 k (s / 65536+s % 65536):=by
  intro k s h0 h1;simp only [bO.l0];rw [ax (by omega),pI (by omega) h1,show (s / 65536+s % 65536) % 4294967296=s / 65536+s % 65536 from by omega]
 obtain ⟨k,rfl⟩:∃ m,k=m+3:=⟨k - 3,by omega⟩
 unfold bO.f
 by_cases c:s<=65535
 ·rw [hs h0 c,DF h0 c]
 ·rw [ht (by omega) h1]
  by_cases c2:s / 65536+s % 65536<=65535
  ·rw [hs (by omega) c2]
   congr 1;unfold norm;rw [ax (by omega)];omega
  ·rw [ht (by omega) (by omega),hs (by omega) (by omega)]
   congr 1;unfold norm;rw [ax (by omega)];omega
theorem Fk (a b c n:Int) (ha:0<=a /\ a<=4294967295) (hb:0<=b /\ b<=4294967295) (hc:0<=c /\ c<=255) (k:Nat) (hk:3<k):
  kn.f k a b c n=some (norm (a / 65536+a % 65536+b / 65536+b % 65536+c+n % 65536)):=by
 unfold kn.f;rw [pI ha.1 ha.2,pI hb.1 hb.2,IntKind.wrap_u16,fold_eq _ (by omega) (by omega) k hk];simp only [bA];have:=iW (a / 65536+a % 65536+b / 65536+b % 65536+c+n % 65536) (by omega);rw [show (a / 65536+a % 65536+b / 65536+b % 65536+c+n % 65536) % 4294967296=a / 65536+a % 65536+b / 65536+b % 65536+c+n % 65536 from by omega]
 congr 1;omega
theorem yR (a b c n:Int) (ha:0<=a /\ a<=4294967295) (hb:0<=b /\ b<=4294967295) (hc:0<=c /\ c<=255) (k:Nat) (hk:3<k):
  ez.f k a b c n=some (norm (a / 65536+a % 65536+b / 65536+b % 65536+c+n % 65536)):=by
 have e64:Go.bits .and .u64 (IntKind.u64.wrap n) 65535=n % 65536:=by
  rw [IntKind.wrap_u64,show (65535:Int)=2 ^ 16 - 1 from by decide,bits_mask .u64 64 (by decide) (fun m h0 h1=>by rw [IntKind.wrap_u64];omega) 16 (by decide) _ (by omega) (by omega)]
  omega
 unfold ez.f;rw [pI ha.1 ha.2,pI hb.1 hb.2,e64,sN _ (by omega) (by omega) k hk];simp only [bA];have:=iW (a / 65536+a % 65536+b / 65536+b % 65536+c+n % 65536) (by omega);rw [show (a / 65536+a % 65536+b / 65536+b % 65536+c+n % 65536) % 4294967296=a / 65536+a % 65536+b / 65536+b % 65536+c+n % 65536 from by omega]
 congr 1;omega
theorem of_eq (l:List Int) (hb:gU l) (hl:l.length<=1000000000) (k:Nat) (hk:l.length+1<k) (hk3:3<k):oq.f k l=some (ck l):=by
 have hr:=l6 (words l) 0 (by omega) (by omega) (fO l hb);have hn:=nZ (words l) 0 (by omega) (by omega) (fO l hb);have hp:=iW _ (nO _ (fO l hb));unfold oq.f;rw [add_eq 0 l hb hl (by omega) (by omega) k hk];simp only [bA];rw [fold_eq _ hr.1 hr.2 k hk3,hn,Int.zero_add];simp only [bA];rw [show (IntKind.u16.max:Int)=65535 from rfl,xK hp.1 hp.2]
 rfl
theorem SF (l:List Int) (hb:gU l) (hl:l.length<=1000000000) (k:Nat) (hk:l.length+1<k) (hk3:3<k):iK.f k l=some (ck l):=by
 have hr:=l6 (words l) 0 (by omega) (by omega) (fO l hb);have hn:=nZ (words l) 0 (by omega) (by omega) (fO l hb);have hp:=iW _ (nO _ (fO l hb));unfold iK.f;rw [xL 0 l hb hl (by omega) (by omega) k hk];simp only [bA];rw [sN _ hr.1 hr.2 k hk3,hn,Int.zero_add];simp only [bA];rw [show (IntKind.u16.max:Int)=65535 from rfl,xK hp.1 hp.2]
 rfl
end Go.Proofs.Ytkmimamminddiaa.oo
namespace Go.Proofs.Ytkmimamminddiaa.PB
open Go.RowKit Go.Proofs.ai.bX Go.Proofs.ai.dh Go.Proofs.ai.iL
attribute [local go_sem] dF dG eG eH cQ cR dH dI
theorem Ahd (d:Nat) (w:World) (x0 y0:Int) (x1 y1:Int):
  (Op.equalIn (d+2) 65 (.agg #[.int .u32 x0,.int .u16 x1]) (.agg #[.int .u32 y0,.int .u16 y1])).run Try.prog w= .ok (x0==y0 && (x1==y1)) w:=by
 refine YK Try.underlying65 (by kernel_rfl) ?_;refine PF (by rfl) (by go_simp;rfl) (by go_simp;rfl) (by go_simp) ?_;exact PE (by rfl) (by go_simp;rfl) (by go_simp;rfl) (by go_simp)
end Go.Proofs.Ytkmimamminddiaa.PB
