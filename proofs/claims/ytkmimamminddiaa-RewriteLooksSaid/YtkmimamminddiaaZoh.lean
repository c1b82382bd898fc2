/- Texts of this claim, merged: RwEq, RwLooks, RwAgg. -/
import Derived.Test.YtkmimamminddiaaZob
import Derived.Test.YtkmimamminddiaaZof
import Derived.Deep.Cut
import Derived.Deep.CutRange
import Derived.Deep.CutBlock
import Derived.Deep.WholeRow
import Derived.Test.YtkmimamminddiaaZod
import Derived.Test.YtkmimamminddiaaZog
import Derived.Test.YtkmimamminddiaaZoa
import Derived.Test.YtkmimamminddiaaChecked
import Derived.OpenShut
import Derived.ChangeArms
set_option maxHeartbeats 40000000
set_option maxRecDepth 100000
set_option linter.unusedVariables false
set_option linter.unusedSimpArgs false
namespace Go.Proofs.Ytkmimamminddiaa.PB
open Go.RowKit Go.Proofs.YtkmimamminddiaaW.PrintWords Go.Proofs.YtkmimamminddiaaW.PrintLast Go.Proofs.YtkmimamminddiaaW.PrintMore
open Go.Proofs.Ytkmimamminddiaa.BytesEq
theorem AeE.eq (a t pr i fl of_ s d:Int) (A8:Option Addr) (c8:Nat) (o:List Int) (A9:Option Addr) (c9:Nat) (b:List Int) (B8:Option Addr) (e8:Nat) (B9:Option Addr) (e9:Nat) (w:World) (h1:Kd.C (Kd.int .u8) w A8 o.length o) (l1:o.length<=c8) (h2:Kd.C (Kd.int .u8) w A9 b.length b) (l2:b.length<=c9) (h3:Kd.C (Kd.int .u8) w B8 o.length o) (l3:o.length<=e8) (h4:Kd.C (Kd.int .u8) w B9 b.length b) (l4:b.length<=e9):
  Calls Try.prog 67 #[.agg #[.int .u8 a,.int .u8 t,.int .u8 pr,.int .u16 i,.int .u8 fl,.int .u16 of_,.int .u32 s,.int .u32 d,.slice A8 o.length c8,.slice A9 b.length c9],.agg #[.int .u8 a,.int .u8 t,.int .u8 pr,.int .u16 i,.int .u8 fl,.int .u16 of_,.int .u32 s,.int .u32 d,.slice B8 o.length e8,.slice B9 b.length e9]] w fun e w'=>e= .returned (.bool true) /\ Below w.heap.size w w':=by
 have HB:=jy w;have VJ:=Aside0.mk h1;have HC2:=Aside0.mk h2;have HC3:=Aside0.mk h3;have XL:=Aside0.mk h4;have HL1:=Aside0.mk l1;have HL2:=Aside0.mk l2;have HL3:=Aside0.mk l3;have HL4:=Aside0.mk l4;clear h1 h2 h3 h4 l1 l2 l3 l4
 go_enter Try.func67,Try.ntmps67
 go_upto_region 1 with (first|((with_reducible refine gate_dst (N:=2) rfl ?_);refine box_event ?hg_ (N:=2) ?hd_ (cs:= #[.int .u8 a,.int .u8 t,.int .u8 pr,.int .u16 i,.int .u8 fl,.int .u16 of_,.int .u32 s,.int .u32 d,.slice A8 o.length c8,.slice A9 b.length c9]) (t:=73) ?hr_ ?_;(case hd_=>rfl);(case hg_=>rfl);(case hr_=>first|(go_simp;done)|(go_simp;rfl));intro gx hgg_ w1 hbox_ hbb_;have Akq:=Aside0.mk (show w.heap.size<=gx by rw [hgg_];exact below_size HB.out);have wu:=Aside0.mk hbox_;have hb_:=hbb_;replace HB:=mB HB hb_;replace VJ:=mC VJ hb_;replace HC2:=mC HC2 hb_;replace HC3:=mC HC3 hb_;replace XL:=mC XL hb_;clear hb_;clear hgg_ hbox_ hbb_)|((with_reducible refine gate_dst (N:=3) rfl ?_);refine box_event ?hg_ (N:=3) ?hd_ (cs:= #[.int .u8 a,.int .u8 t,.int .u8 pr,.int .u16 i,.int .u8 fl,.int .u16 of_,.int .u32 s,.int .u32 d,.slice B8 o.length e8,.slice B9 b.length e9]) (t:=73) ?hr_ ?_;(case hd_=>rfl);(case hg_=>rfl);(case hr_=>first|(go_simp;done)|(go_simp;rfl));intro gy hgg_ w2 hbox_ hbb_;have Akr:=Aside0.mk (show w.heap.size<=gy by rw [hgg_];exact below_size HB.out);have xx:=Aside0.mk hbox_;have hb_:=hbb_;replace HB:=mB HB hb_;replace VJ:=mC VJ hb_;replace HC2:=mC HC2 hb_;replace HC3:=mC HC3 hb_;replace XL:=mC XL hb_;replace wu:=mX wu hb_;clear hb_;clear hgg_ hbox_ hbb_))
 have Aks:w2.cell? ⟨gx,0,none⟩=some (.int .u8 a):=(blk_cell wu.out 0).trans rfl;have Akt:w2.cell? ⟨gx,1,none⟩=some (.int .u8 t):=(blk_cell wu.out 1).trans rfl;have Aku:w2.cell? ⟨gx,2,none⟩=some (.int .u8 pr):=(blk_cell wu.out 2).trans rfl;have Akv:w2.cell? ⟨gx,3,none⟩=some (.int .u16 i):=(blk_cell wu.out 3).trans rfl;have Akw:w2.cell? ⟨gx,4,none⟩=some (.int .u8 fl):=(blk_cell wu.out 4).trans rfl;have Akx:w2.cell? ⟨gx,5,none⟩=some (.int .u16 of_):=(blk_cell wu.out 5).trans rfl;have Aky:w2.cell? ⟨gx,6,none⟩=some (.int .u32 s):=(blk_cell wu.out 6).trans rfl;have AvI:w2.cell? ⟨gx,7,none⟩=some (.int .u32 d):=(blk_cell wu.out 7).trans rfl;have AvJ:w2.cell? ⟨gx,8,none⟩=some (.slice A8 o.length c8):=(blk_cell wu.out 8).trans rfl
 have Akz:w2.cell? ⟨gx,9,none⟩=some (.slice A9 b.length c9):=(blk_cell wu.out 9).trans rfl;have AkA:w2.cell? ⟨gy,0,none⟩=some (.int .u8 a):=(blk_cell xx.out 0).trans rfl;have AkB:w2.cell? ⟨gy,1,none⟩=some (.int .u8 t):=(blk_cell xx.out 1).trans rfl;have AkC:w2.cell? ⟨gy,2,none⟩=some (.int .u8 pr):=(blk_cell xx.out 2).trans rfl;have AkD:w2.cell? ⟨gy,3,none⟩=some (.int .u16 i):=(blk_cell xx.out 3).trans rfl;have AkE:w2.cell? ⟨gy,4,none⟩=some (.int .u8 fl):=(blk_cell xx.out 4).trans rfl;have AkF:w2.cell? ⟨gy,5,none⟩=some (.int .u16 of_):=(blk_cell xx.out 5).trans rfl;have AkG:w2.cell? ⟨gy,6,none⟩=some (.int .u32 s):=(blk_cell xx.out 6).trans rfl;have AvK:w2.cell? ⟨gy,7,none⟩=some (.int .u32 d):=(blk_cell xx.out 7).trans rfl
 have AvL:w2.cell? ⟨gy,8,none⟩=some (.slice B8 o.length e8):=(blk_cell xx.out 8).trans rfl;have AkH:w2.cell? ⟨gy,9,none⟩=some (.slice B9 b.length e9):=(blk_cell xx.out 9).trans rfl;have z0:(a==a)=true:=beq_self_eq_true _;have z1:(t==t)=true:=beq_self_eq_true _;have z2:(pr==pr)=true:=beq_self_eq_true _;have z3:(i==i)=true:=beq_self_eq_true _;have z4:(fl==fl)=true:=beq_self_eq_true _;have z5:(of_==of_)=true:=beq_self_eq_true _;have z6:(s==s)=true:=beq_self_eq_true _;have z7:(d==d)=true:=beq_self_eq_true _
 go_wp2_with fail
 refine (qN.calls A8 c8 o B8 e8 o true _ VJ.out HL1.out HC3.out HL3.out (LQ o)).mono ?_;rintro e w3_ ⟨rfl,⟨nd,rfl⟩⟩;clear Aks Akt Aku Akv Akw Akx Aky AvI AvJ Akz;clear AkA AkB AkC AkD AkE AkF AkG AvK AvL AkH;clear VJ HC3;have hb:=fZ (Below.refl w2.heap.size w2) nd;have hb_:=hb;replace HB:=mB HB hb_;replace HC2:=mC HC2 hb_;replace XL:=mC XL hb_;replace wu:=mX wu hb_;replace xx:=mX xx hb_;clear hb_;clear hb;generalize w2.drewN nd=w3 at HB HC2 XL wu xx|-
 (try dsimp only)
 have Akz:w3.cell? ⟨gx,9,none⟩=some (.slice A9 b.length c9):=(blk_cell wu.out 9).trans rfl;have AkH:w3.cell? ⟨gy,9,none⟩=some (.slice B9 b.length e9):=(blk_cell xx.out 9).trans rfl
 go_wp2_with fail
 refine (qN.calls A9 c9 b B9 e9 b true _ HC2.out HL2.out XL.out HL4.out (LQ b)).mono ?_;rintro e w4_ ⟨rfl,⟨nd,rfl⟩⟩;clear HC2 XL wu xx Akz AkH;have hb:=fZ (Below.refl w3.heap.size w3) nd;have hb_:=hb;replace HB:=mB HB hb_;clear hb_;clear hb;generalize w3.drewN nd=w4 at HB|-
 (try dsimp only)
 go_wp2
 (try simp only [Exit.inBlock,Exit.then])
 go_ret
 exact ⟨rfl,HB.out⟩
theorem mCp {w w1:World} {A:Option Addr} {n:Nat} {xs:List S65} (h:Aside0 (Kd.C k65 w A n xs)) (hb:Below w.heap.size w w1):Aside0 (Kd.C k65 w1 A n xs):=⟨Kd.aJ h.out hb⟩
theorem points_refl (K:Nat) (l:List S65) (hl:l.length<=2) (hK:4<=K):iK.f K l l=some true:=by
 obtain ⟨k,rfl⟩:∃ j,K=j+4:=⟨K - 4,by omega⟩
 unfold iK.f;rw [ah rfl];have w0:wrap64 (1:Int)=1:=by unfold wrap64;omega
 have w1:wrap64 (2:Int)=2:=by unfold wrap64;omega
 match l,hl with
 |[],_=>simp [iK.l0]
 |[x],_=>simp [iK.l0,qI,w0]
 |[x,y],_=>simp [iK.l0,qI,w0,w1]
theorem same.eq (p s sp d dp f:Int) (A:Option Addr) (c:Nat) (l:List S65) (B:Option Addr) (e_:Nat) (w:World) (hl:l.length<=2) (h1:Kd.C k65 w A l.length l) (l1:l.length<=c) (h2:Kd.C k65 w B l.length l) (l2:l.length<=e_):
  Calls Try.prog 68 #[.agg #[.int .u8 p,.int .u32 s,.int .u16 sp,.int .u32 d,.int .u16 dp,.int .u8 f,.slice A l.length c],.agg #[.int .u8 p,.int .u32 s,.int .u16 sp,.int .u32 d,.int .u16 dp,.int .u8 f,.slice B l.length e_]] w fun e w'=>e= .returned (.bool true) /\ Below w.heap.size w w':=by
 have hu65:=Try.underlying65;have HB:=jy w;have HCa:=Aside0.mk h1;have HLa:=Aside0.mk l1;have JZ:=Aside0.mk h2;have HLb:=Aside0.mk l2;have HPR:=Aside0.mk (points_refl 4 l hl (Nat.le_refl _));clear h1 l1 h2 l2 hl
 go_enter Try.func68,Try.ntmps68
 go_upto_region 1 with (first|((with_reducible refine gate_dst (N:=2) rfl ?_);refine box_event ?hg_ (N:=2) ?hd_ (cs:= #[.int .u8 p,.int .u32 s,.int .u16 sp,.int .u32 d,.int .u16 dp,.int .u8 f,.slice A l.length c]) (t:=76) ?hr_ ?_;(case hd_=>rfl);(case hg_=>rfl);(case hr_=>first|(go_simp;done)|(go_simp;rfl));intro gx hgg_ w1 hbox_ hbb_;have Akq:=Aside0.mk (show w.heap.size<=gx by rw [hgg_];exact below_size HB.out);have wu:=Aside0.mk hbox_;have hb_:=hbb_;replace HB:=mB HB hb_;replace HCa:=mCp HCa hb_;replace JZ:=mCp JZ hb_;clear hb_;clear hgg_ hbox_ hbb_)|((with_reducible refine gate_dst (N:=3) rfl ?_);refine box_event ?hg_ (N:=3) ?hd_ (cs:= #[.int .u8 p,.int .u32 s,.int .u16 sp,.int .u32 d,.int .u16 dp,.int .u8 f,.slice B l.length e_]) (t:=124) ?hr_ ?_;(case hd_=>rfl);(case hg_=>rfl);(case hr_=>first|(go_simp;done)|(go_simp;rfl));intro gy hgg_ w2 hbox_ hbb_;have Akr:=Aside0.mk (show w.heap.size<=gy by rw [hgg_];exact below_size HB.out);have xx:=Aside0.mk hbox_;have hb_:=hbb_;replace HB:=mB HB hb_;replace HCa:=mCp HCa hb_;replace JZ:=mCp JZ hb_;replace wu:=mX wu hb_;clear hb_;clear hgg_ hbox_ hbb_))
 have Aks:w2.cell? ⟨gx,0,none⟩=some (.int .u8 p):=(blk_cell wu.out 0).trans rfl;have Akt:w2.cell? ⟨gx,1,none⟩=some (.int .u32 s):=(blk_cell wu.out 1).trans rfl;have Aku:w2.cell? ⟨gx,2,none⟩=some (.int .u16 sp):=(blk_cell wu.out 2).trans rfl;have Akv:w2.cell? ⟨gx,3,none⟩=some (.int .u32 d):=(blk_cell wu.out 3).trans rfl;have Akw:w2.cell? ⟨gx,4,none⟩=some (.int .u16 dp):=(blk_cell wu.out 4).trans rfl;have Akx:w2.cell? ⟨gx,5,none⟩=some (.int .u8 f):=(blk_cell wu.out 5).trans rfl;have Aky:w2.cell? ⟨gx,6,none⟩=some (.slice A l.length c):=(blk_cell wu.out 6).trans rfl;have AkA:w2.cell? ⟨gy,0,none⟩=some (.int .u8 p):=(blk_cell xx.out 0).trans rfl;have AkB:w2.cell? ⟨gy,1,none⟩=some (.int .u32 s):=(blk_cell xx.out 1).trans rfl
 have AkC:w2.cell? ⟨gy,2,none⟩=some (.int .u16 sp):=(blk_cell xx.out 2).trans rfl;have AkD:w2.cell? ⟨gy,3,none⟩=some (.int .u32 d):=(blk_cell xx.out 3).trans rfl;have AkE:w2.cell? ⟨gy,4,none⟩=some (.int .u16 dp):=(blk_cell xx.out 4).trans rfl;have AkF:w2.cell? ⟨gy,5,none⟩=some (.int .u8 f):=(blk_cell xx.out 5).trans rfl;have AkG:w2.cell? ⟨gy,6,none⟩=some (.slice B l.length e_):=(blk_cell xx.out 6).trans rfl;have z0:(p==p)=true:=beq_self_eq_true _;have z1:(s==s)=true:=beq_self_eq_true _;have z2:(sp==sp)=true:=beq_self_eq_true _;have z3:(d==d)=true:=beq_self_eq_true _;have z4:(dp==dp)=true:=beq_self_eq_true _;have z5:(f==f)=true:=beq_self_eq_true _
 go_wp2_with fail
 clear Aks Akt Aku Akv Akw Akx Aky;clear AkA AkB AkC AkD AkE AkF AkG;refine (iK.calls 4 A c l B e_ l true _ HCa.out HLa.out JZ.out HLb.out HPR.out).mono ?_;rintro e w3_ ⟨rfl,⟨nd,rfl⟩⟩;have jJ:=Aside0.mk (fZ HB.out nd);clear HB
 (try dsimp only)
 go_wp2
 (try simp only [Exit.inBlock,Exit.then])
 go_ret
 exact ⟨rfl,jJ.out⟩
end Go.Proofs.Ytkmimamminddiaa.PB
namespace Go.Proofs.Ytkmimamminddiaa.PB
open Go.RowKit Go.Proofs.YtkmimamminddiaaW.PrintWords Go.Proofs.YtkmimamminddiaaW.PrintLast Go.Proofs.YtkmimamminddiaaW.PrintMore
open Go.Proofs.Ytkmimamminddiaa.Spec Go.Proofs.Ytkmimamminddiaa.BytesEq
theorem looks.calls (A:Option Addr) (c:Nat) (l:List Int) (w:World) (hC:Kd.C (Kd.int .u8) w A l.length l) (hL:l.length<=c) (hB:jX l) (hl:l.length<=3000):
  Calls Try.prog 31 #[.slice A l.length c] w fun e w'=>e= .returned (.bool true) /\ Below w.heap.size w w':=by
 have hu73:=Try.underlying73;have hu76:=Try.underlying76;have tK:=Try.underlying124;have HB:=jy w;have HC:=Aside0.mk hC;have HL:=Aside0.mk hL;have HI73:Aside0 ((Try.prog.info? 73).map (·.size)=some 10):=⟨by kernel_rfl⟩
 have HI76:Aside0 ((Try.prog.info? 76).map (·.size)=some 7):=⟨by kernel_rfl⟩
 have kR:Aside0 ((Try.prog.info? 124).map (·.size)=some 7):=⟨by kernel_rfl⟩
 obtain ⟨⟨a,t,pr,i,fl,of_,s,d,o,b,x,sp,dp,ff,inn,e_⟩,h1,h2,h3⟩:=Pure.Yz hB hl;have HM:=Aside0.mk (Pure.AeD hB hl);have H1:=Aside0.mk h1;have H2:=Aside0.mk h2;have HN:=Aside0.mk (show inn.length<=2 from h3);clear hC hL hB hl h1 h2 h3
 go_enter Try.func31,Try.ntmps31
 go_wp2_with fail
 refine (rewrite_Look.calls 4000 A c l _ _ (Kd.aJ HC.out HB.out) HL.out H1.out).mono ?_;rintro ev w1 hpost;obtain ⟨v8,v9,vi,rfl,ho8,ho9,hi,hb⟩:=hpost;dsimp only at ho8 ho9 hi
 have yF:=Aside0.mk (Kd.R_lower ho8 (below_size HB.out));have yG:=Aside0.mk (Kd.R_lower ho9 (below_size HB.out));have yH:=Aside0.mk (Kd.R_lower hi (below_size HB.out));obtain ⟨Ao1,co1,rfl,_,_⟩:=Kd.R_reads ho8;obtain ⟨Ab1,cb1,rfl,_,_⟩:=Kd.R_reads ho9;obtain ⟨Ai1,ci1,rfl,_,_⟩:=Kd.R_reads hi;clear ho8 ho9 hi;have hb_:=hb;replace HB:=mB HB hb_;clear hb_;clear hb
 (try dsimp only)
 go_upto_region 2 with (first|((with_reducible refine gate_dst (N:=3) rfl ?_);refine box_event ?hg_ (N:=3) ?hd_ (cs:= #[.int .u8 0,.int .u8 0,.int .u8 0,.int .u16 0,.int .u8 0,.int .u16 0,.int .u32 0,.int .u32 0,.slice none 0 0,.slice none 0 0]) (t:=73) ?hr_ ?_;(case hd_=>rfl);(case hg_=>rfl);(case hr_=>first|(go_simp;done)|(go_simp;rfl));intro gp hgg_ w2 hbox_ hbb_;have GHXp:=Aside0.mk (show w.heap.size<=gp by rw [hgg_];exact below_size HB.out);have HXp:=Aside0.mk hbox_;have hb_:=hbb_;replace HB:=mB HB hb_;replace yF:=mR yF hb_;replace yG:=mR yG hb_;replace yH:=mI yH hb_;clear hb_;clear hgg_ hbox_ hbb_)|((with_reducible refine gate_dst (N:=4) rfl ?_);refine box_event ?hg_ (N:=4) ?hd_ (cs:= #[.int .u8 0,.int .u32 0,.int .u16 0,.int .u32 0,.int .u16 0,.int .u8 0,.slice none 0 0]) (t:=76) ?hr_ ?_;(case hd_=>rfl);(case hg_=>rfl);(case hr_=>first|(go_simp;done)|(go_simp;rfl));intro gf hgg_ w3 hbox_ hbb_;have GHXf:=Aside0.mk (show w.heap.size<=gf by rw [hgg_];exact below_size HB.out);have HXf:=Aside0.mk hbox_;have hb_:=hbb_;replace HB:=mB HB hb_;replace yF:=mR yF hb_;replace yG:=mR yG hb_;replace yH:=mI yH hb_;replace HXp:=mX HXp hb_;clear hb_;clear hgg_ hbox_ hbb_)|((refine rw_putrow rfl rfl rfl rfl rfl HXp.out HI73.out rfl (by simp [Value.oneCell']) ?_);intro w4 hs_ off_;replace yF:=oR off_ yF HXp (by decide);replace yG:=oR off_ yG HXp (by decide);replace yH:=oI off_ yH HXp (by decide);replace HXf:=oX off_ HXf HXp (by decide);replace HB:=oB off_ HB GHXp;clear off_;replace HXp:=Aside0.mk hs_;clear hs_)|((refine rw_putrow rfl rfl rfl rfl rfl HXf.out HI76.out rfl (by simp [Value.oneCell']) ?_);intro w5 hs_ off_;replace yF:=oR off_ yF HXf (by decide);replace yG:=oR off_ yG HXf (by decide);replace yH:=oI off_ yH HXf (by decide);replace HXp:=oX off_ HXp HXf (by decide);replace HB:=oB off_ HB GHXf;clear off_;replace HXf:=Aside0.mk hs_;clear hs_))
 go_wp2_with fail
 refine (Oe.calls 4000 A c l _ _ (Kd.aJ HC.out HB.out) HL.out H2.out HM.out).mono ?_;rintro ev w6 hpost;obtain ⟨v8,v9,vi,rfl,ho8,ho9,hi,hb⟩:=hpost;dsimp only at ho8 ho9 hi
 have GZ:=Aside0.mk (Kd.R_lower ho8 (below_size HB.out));have G5:=Aside0.mk (Kd.R_lower ho9 (below_size HB.out));have HRi2:=Aside0.mk (Kd.R_lower hi (below_size HB.out));obtain ⟨Ao2,co2,rfl,_,_⟩:=Kd.R_reads ho8;obtain ⟨Ab2,cb2,rfl,_,_⟩:=Kd.R_reads ho9;obtain ⟨Ai2,ci2,rfl,_,_⟩:=Kd.R_reads hi;clear ho8 ho9 hi;have hb_:=hb;replace HB:=mB HB hb_;replace yF:=mR yF hb_;replace yG:=mR yG hb_;replace yH:=mI yH hb_;replace HXp:=mX HXp hb_;replace HXf:=mX HXf hb_;clear hb_;clear hb
 (try dsimp only)
 go_upto_region 3 with (first|((with_reducible refine gate_dst (N:=6) rfl ?_);refine box_event ?hg_ (N:=6) ?hd_ (cs:= #[.int .u8 0,.int .u8 0,.int .u8 0,.int .u16 0,.int .u8 0,.int .u16 0,.int .u32 0,.int .u32 0,.slice none 0 0,.slice none 0 0]) (t:=73) ?hr_ ?_;(case hd_=>rfl);(case hg_=>rfl);(case hr_=>first|(go_simp;done)|(go_simp;rfl));intro gq hgg_ w7 hbox_ hbb_;have GHXq:=Aside0.mk (show w.heap.size<=gq by rw [hgg_];exact below_size HB.out);have HXq:=Aside0.mk hbox_;have Vr:Aside0 (gp≠gq):=⟨by rw [hgg_];exact (blk_less HXp).out⟩;have hb_:=hbb_;replace HB:=mB HB hb_;replace yF:=mR yF hb_;replace yG:=mR yG hb_;replace yH:=mI yH hb_;replace HXp:=mX HXp hb_;replace HXf:=mX HXf hb_;replace GZ:=mR GZ hb_;replace G5:=mR G5 hb_;replace HRi2:=mI HRi2 hb_;clear hb_;clear hgg_ hbox_ hbb_)|((with_reducible refine gate_dst (N:=7) rfl ?_);refine box_event ?hg_ (N:=7) ?hd_ (cs:= #[.int .u8 0,.int .u32 0,.int .u16 0,.int .u32 0,.int .u16 0,.int .u8 0,.slice none 0 0]) (t:=124) ?hr_ ?_;(case hd_=>rfl);(case hg_=>rfl);(case hr_=>first|(go_simp;done)|(go_simp;rfl));intro gg hgg_ w8 hbox_ hbb_;have Ox:=Aside0.mk (show w.heap.size<=gg by rw [hgg_];exact below_size HB.out);have wz:=Aside0.mk hbox_;have hb_:=hbb_;replace HB:=mB HB hb_;replace yF:=mR yF hb_;replace yG:=mR yG hb_;replace yH:=mI yH hb_;replace HXp:=mX HXp hb_;replace HXf:=mX HXf hb_;replace GZ:=mR GZ hb_;replace G5:=mR G5 hb_;replace HRi2:=mI HRi2 hb_;replace HXq:=mX HXq hb_;clear hb_;clear hgg_ hbox_ hbb_)|((refine rw_putrow rfl rfl rfl rfl rfl HXq.out HI73.out rfl (by simp [Value.oneCell']) ?_);intro w9 hs_ off_;replace yF:=oR off_ yF HXq (by decide);replace yG:=oR off_ yG HXq (by decide);replace yH:=oI off_ yH HXq (by decide);replace HXp:=oN off_ HXp Vr;replace HXf:=oX off_ HXf HXq (by decide);replace GZ:=oR off_ GZ HXq (by decide);replace G5:=oR off_ G5 HXq (by decide);replace HRi2:=oI off_ HRi2 HXq (by decide);replace wz:=oX off_ wz HXq (by decide);replace HB:=oB off_ HB GHXq;clear off_;replace HXq:=Aside0.mk hs_;clear hs_)|((refine rw_putrow rfl rfl rfl rfl rfl wz.out kR.out rfl (by simp [Value.oneCell']) ?_);intro w10 hs_ off_;replace yF:=oR off_ yF wz (by decide);replace yG:=oR off_ yG wz (by decide);replace yH:=oI off_ yH wz (by decide);replace HXp:=oX off_ HXp wz (by decide);replace HXf:=oX off_ HXf wz (by decide);replace GZ:=oR off_ GZ wz (by decide);replace G5:=oR off_ G5 wz (by decide);replace HRi2:=oI off_ HRi2 wz (by decide);replace HXq:=oX off_ HXq wz (by decide);replace HB:=oB off_ HB Ox;clear off_;replace wz:=Aside0.mk hs_;clear hs_))
 have z_:(e_==e_)=true:=beq_self_eq_true _
 go_wp2_with (first|((with_reducible refine gate_dst (N:=25) rfl ?_);(refine eH (by rfl) ?_;dsimp only);(refine Kd.event_run rfl (rw_load rfl rfl HXp.out Try.underlying73 rfl HI73.out) ?_))|((with_reducible refine gate_dst (N:=26) rfl ?_);(refine eH (by rfl) ?_;dsimp only);(refine Kd.event_run rfl (rw_load rfl rfl HXq.out Try.underlying73 rfl HI73.out) ?_)))
 clear z_;refine (AeE.eq a t pr i fl of_ s d Ao1 co1 o Ab1 cb1 b Ao2 co2 Ab2 cb2 _ (Kd.R_reads' yF.out).2.2 (Kd.R_reads' yF.out).2.1 (Kd.R_reads' yG.out).2.2 (Kd.R_reads' yG.out).2.1 (Kd.R_reads' GZ.out).2.2 (Kd.R_reads' GZ.out).2.1 (Kd.R_reads' G5.out).2.2 (Kd.R_reads' G5.out).2.1).mono ?_;rintro ev w11 ⟨rfl,hb⟩;have hb_:=hb;replace HB:=mB HB hb_;replace yF:=mR yF hb_;replace yG:=mR yG hb_;replace yH:=mI yH hb_;replace HXp:=mX HXp hb_;replace HXf:=mX HXf hb_;replace GZ:=mR GZ hb_;replace G5:=mR G5 hb_;replace HRi2:=mI HRi2 hb_;replace HXq:=mX HXq hb_;replace wz:=mX wz hb_;clear hb_;clear hb
 (try dsimp only)
 go_wp2_with (first|((with_reducible refine gate_dst (N:=30) rfl ?_);(refine eH (by rfl) ?_;dsimp only);(refine Kd.event_run rfl (rw_load rfl rfl HXf.out Try.underlying76 rfl HI76.out) ?_))|((with_reducible refine gate_dst (N:=31) rfl ?_);(refine eH (by rfl) ?_;dsimp only);(refine Kd.event_run rfl (rw_load rfl rfl wz.out Try.underlying124 rfl kR.out) ?_)))
 refine (same.eq pr s sp d dp ff Ai1 ci1 inn Ai2 ci2 _ HN.out (Kd.R_reads' yH.out).2.2 (Kd.R_reads' yH.out).2.1 (Kd.R_reads' HRi2.out).2.2 (Kd.R_reads' HRi2.out).2.1).mono ?_;rintro ev w12 ⟨rfl,hb⟩;have hb_:=hb;replace HB:=mB HB hb_;replace yF:=mR yF hb_;replace yG:=mR yG hb_;replace yH:=mI yH hb_;replace HXp:=mX HXp hb_;replace HXf:=mX HXf hb_;replace GZ:=mR GZ hb_;replace G5:=mR G5 hb_;replace HRi2:=mI HRi2 hb_;replace HXq:=mX HXq hb_;replace wz:=mX wz hb_;clear hb_;clear hb
 (try dsimp only)
 go_wp2
 (try simp only [Exit.inBlock,Exit.then])
 go_ret
 exact ⟨rfl,HB.out⟩
theorem rewriteLooks.calls (A:Option Addr) (c:Nat) (l:List Int) (p0 p1 p2 p3 p4 p5 p6 p7 p8 p9 side n:Int) (w:World) (hC:Kd.C (Kd.int .u8) w A l.length l) (hL:l.length<=c) (hB:jX l) (hp:0<=p0 /\ (0<=p8 /\ p8<=255) /\ (0<=p9 /\ p9<=255)):
  Calls Try.prog 6 #[.slice A l.length c,.agg #[.int .u8 p0,.int .u8 p1,.int .u8 p2,.int .u8 p3,.int .u8 p4,.int .u8 p5,.int .u8 p6,.int .u8 p7,.int .u8 p8,.int .u8 p9],.int .u8 side,.int .u8 n] w fun e w'=>e= .returned (.bool true) /\ Below w.heap.size w w':=by
 have hu25:=Try.underlying25;have HB:=jy w;have HC:=Aside0.mk hC;have HL:=Aside0.mk hL;have HIB:=Aside0.mk hB;have HP89:=Aside0.mk hp.2;have HI25:Aside0 ((Try.prog.info? 25).map (·.size)=some 10):=⟨by kernel_rfl⟩
 obtain ⟨b,hb,hbB,hbl⟩:=Pure.TJ 4000 (Nat.le_refl _) p0 p1 p2 p3 p4 p5 p6 p7 p8 p9 (wrap64 (side.tmod 2)) (wrap64 (n.tmod 4)) hp.1;have HPK:=Aside0.mk hb;have HBB:=Aside0.mk hbB;have HBL:=Aside0.mk (show b.length<=3000 by omega);clear hC hL hB hp hb hbB hbl
 go_enter Try.func6,Try.ntmps6
 go_upto_region 1 with (((with_reducible refine gate_dst (N:=5) rfl ?_);refine box_event ?hg_ (N:=5) ?hd_ (cs:= #[.int .u8 p0,.int .u8 p1,.int .u8 p2,.int .u8 p3,.int .u8 p4,.int .u8 p5,.int .u8 p6,.int .u8 p7,.int .u8 p8,.int .u8 p9]) (t:=25) ?hr_ ?_;(case hd_=>rfl);(case hg_=>rfl);(case hr_=>first|(go_simp;done)|(go_simp;rfl));intro gk hgg_ w1 hbox_ hbb_;have GHXk:=Aside0.mk (show w.heap.size<=gk by rw [hgg_];exact below_size HB.out);have HXk:=Aside0.mk hbox_;have hb_:=hbb_;replace HB:=mB HB hb_;clear hb_;clear hgg_ hbox_ hbb_))
 go_wp2_with fail
 refine (known8.calls _).mono ?_;rintro ev w2 ⟨rfl,hb⟩;have hb_:=hb;replace HB:=mB HB hb_;replace HXk:=mX HXk hb_;clear hb_;clear hb
 (try dsimp only)
 by_cases big:(2000:Int)<(l.length:Int)
 ·have b1:decide ((2000:Int)<(l.length:Int))=true:=bJ big
  have b2:decide (2000<l.length)=true:=bJ (by omega);clear big
  go_wp2
  (try simp only [Exit.inBlock,Exit.then])
  go_ret
  exact ⟨rfl,HB.out⟩
 ·have b1:decide ((2000:Int)<(l.length:Int))=false:=jC big
  have b2:decide (2000<l.length)=false:=jC (by omega);have HS:=Aside0.mk (show l.length<=3000 by omega);clear big
  go_wp2_with fail
  clear b1 b2;refine (looks.calls A c l _ (Kd.aJ HC.out HB.out) HL.out HIB.out HS.out).mono ?_;rintro ev w3 ⟨rfl,hb⟩;have hb_:=hb;replace HB:=mB HB hb_;replace HXk:=mX HXk hb_;clear hb_;clear hb
  (try dsimp only)
  go_wp2_with ((with_reducible refine gate_dst (N:=17) rfl ?_);(refine eH (by rfl) ?_;dsimp only);(refine Kd.event_run rfl (rw_load rfl rfl HXk.out Try.underlying25 rfl HI25.out) ?_))
  refine (seat_packet.calls 4000 p0 p1 p2 p3 p4 p5 p6 p7 p8 p9 (wrap64 (side.tmod 2)) (wrap64 (n.tmod 4)) b _ HP89.out HPK.out).mono ?_;rintro ev w4 ⟨v_,rfl,ho,hb⟩;have HRb:=Aside0.mk (Kd.R_lower ho (below_size HB.out));obtain ⟨Ab,cb,rfl,_,_⟩:=Kd.R_reads ho;clear ho;have hb_:=hb;replace HB:=mB HB hb_;replace HXk:=mX HXk hb_;clear hb_;clear hb
  (try dsimp only)
  go_wp2_with fail
  refine (looks.calls Ab cb b _ (Kd.R_reads' HRb.out).2.2 (Kd.R_reads' HRb.out).2.1 HBB.out HBL.out).mono ?_;rintro ev w5 ⟨rfl,hb⟩;have hb_:=hb;replace HB:=mB HB hb_;replace HXk:=mX HXk hb_;replace HRb:=mR HRb hb_;clear hb_;clear hb
  (try dsimp only)
  go_wp2
  (try simp only [Exit.inBlock,Exit.then])
  go_ret
  exact ⟨rfl,HB.out⟩
end Go.Proofs.Ytkmimamminddiaa.PB
namespace Go.Proofs.YtkmimamminddiaaW.FX
open Go.Joins Go.ChangeShapes Go.WideShapes Go.RowKit Go.Deep
theorem E5 {l p:List Value} {a k b:Nat} (h:(l.drop a).take k=p) (hb:a+k=b):l.drop a=p++l.drop b:=by
 have h1:=(List.take_append_drop k (l.drop a)).symm;rw [h,List.drop_drop,hb] at h1
 exact h1
section
variable {H:Type} {enc:TypeId×Value ->H} {w:World} {base:Nat} {spare:Nat ->Bool} {held:Bool}
theorem YA {r:Reach} {b0:Nat} {v:Value} {d:DataW H} {p:List MemPlace} (hv:Value.okWide Try.prog w r b0 25 v) (h:DataW.Trod enc Try.prog w base spare held 25 v d p):
  ∃ x0 x1 x2 x3 x4 x5 x6 x7 x8 x9:Int,v= .agg #[.int .u8 x0,.int .u8 x1,.int .u8 x2,.int .u8 x3,.int .u8 x4,.int .u8 x5,.int .u8 x6,.int .u8 x7,.int .u8 x8,.int .u8 x9] /\ (Lit.int .u8 x0).wf=true /\ (Lit.int .u8 x1).wf=true /\ (Lit.int .u8 x2).wf=true /\ (Lit.int .u8 x3).wf=true /\ (Lit.int .u8 x4).wf=true /\ (Lit.int .u8 x5).wf=true /\ (Lit.int .u8 x6).wf=true /\ (Lit.int .u8 x7).wf=true /\ (Lit.int .u8 x8).wf=true /\ (Lit.int .u8 x9).wf=true:=by
 have k5:Try.prog.cellsOf 5=1:=by kernel_rfl
 have kT:Try.prog.cellsOf 25=10:=by kernel_rfl
 obtain ⟨cs,rfl,hsz⟩:=okWide_struct Try.underlying25 hv;obtain ⟨l⟩:=cs;obtain ⟨fuel,hf⟩:=h;obtain ⟨xs,n,_,hx,hlc,hlen,hg⟩:=DataW.trod_struct Try.underlying25 hf;have hl:l.length=10:=hlc.trans kT;have g0:DataW.trod enc Try.prog w base spare held n 5 ((l.drop 0).take (Try.prog.cellsOf 5))=xs[0]?:=hg 0 _ rfl;obtain ⟨y0,hy0⟩:∃ y,xs[0]?=some y:=⟨_,List.getElem?_eq_getElem (by rw [hlen];decide)⟩
 rw [hy0,k5] at g0
 obtain ⟨x0,e0,_,w0⟩:=DataW.trod_int Try.underlying5 g0;have g1:DataW.trod enc Try.prog w base spare held n 5 ((l.drop 1).take (Try.prog.cellsOf 5))=xs[1]?:=hg 1 _ rfl;obtain ⟨y1,hy1⟩:∃ y,xs[1]?=some y:=⟨_,List.getElem?_eq_getElem (by rw [hlen];decide)⟩
 rw [hy1,k5] at g1
 obtain ⟨x1,e1,_,w1⟩:=DataW.trod_int Try.underlying5 g1;have g2:DataW.trod enc Try.prog w base spare held n 5 ((l.drop 2).take (Try.prog.cellsOf 5))=xs[2]?:=hg 2 _ rfl;obtain ⟨y2,hy2⟩:∃ y,xs[2]?=some y:=⟨_,List.getElem?_eq_getElem (by rw [hlen];decide)⟩
 rw [hy2,k5] at g2
 obtain ⟨x2,e2,_,w2⟩:=DataW.trod_int Try.underlying5 g2;have g3:DataW.trod enc Try.prog w base spare held n 5 ((l.drop 3).take (Try.prog.cellsOf 5))=xs[3]?:=hg 3 _ rfl;obtain ⟨y3,hy3⟩:∃ y,xs[3]?=some y:=⟨_,List.getElem?_eq_getElem (by rw [hlen];decide)⟩
 rw [hy3,k5] at g3
 obtain ⟨x3,e3,_,w3⟩:=DataW.trod_int Try.underlying5 g3;have g4:DataW.trod enc Try.prog w base spare held n 5 ((l.drop 4).take (Try.prog.cellsOf 5))=xs[4]?:=hg 4 _ rfl;obtain ⟨y4,hy4⟩:∃ y,xs[4]?=some y:=⟨_,List.getElem?_eq_getElem (by rw [hlen];decide)⟩
 rw [hy4,k5] at g4
 obtain ⟨x4,e4,_,w4⟩:=DataW.trod_int Try.underlying5 g4;have g5:DataW.trod enc Try.prog w base spare held n 5 ((l.drop 5).take (Try.prog.cellsOf 5))=xs[5]?:=hg 5 _ rfl;obtain ⟨y5,hy5⟩:∃ y,xs[5]?=some y:=⟨_,List.getElem?_eq_getElem (by rw [hlen];decide)⟩
 rw [hy5,k5] at g5
 obtain ⟨x5,e5,_,w5⟩:=DataW.trod_int Try.underlying5 g5;have g6:DataW.trod enc Try.prog w base spare held n 5 ((l.drop 6).take (Try.prog.cellsOf 5))=xs[6]?:=hg 6 _ rfl;obtain ⟨y6,hy6⟩:∃ y,xs[6]?=some y:=⟨_,List.getElem?_eq_getElem (by rw [hlen];decide)⟩
 rw [hy6,k5] at g6
 obtain ⟨x6,e6,_,w6⟩:=DataW.trod_int Try.underlying5 g6;have g7:DataW.trod enc Try.prog w base spare held n 5 ((l.drop 7).take (Try.prog.cellsOf 5))=xs[7]?:=hg 7 _ rfl;obtain ⟨y7,hy7⟩:∃ y,xs[7]?=some y:=⟨_,List.getElem?_eq_getElem (by rw [hlen];decide)⟩
 rw [hy7,k5] at g7
 obtain ⟨x7,e7,_,w7⟩:=DataW.trod_int Try.underlying5 g7;have g8:DataW.trod enc Try.prog w base spare held n 5 ((l.drop 8).take (Try.prog.cellsOf 5))=xs[8]?:=hg 8 _ rfl;obtain ⟨y8,hy8⟩:∃ y,xs[8]?=some y:=⟨_,List.getElem?_eq_getElem (by rw [hlen];decide)⟩
 rw [hy8,k5] at g8
 obtain ⟨x8,e8,_,w8⟩:=DataW.trod_int Try.underlying5 g8;have g9:DataW.trod enc Try.prog w base spare held n 5 ((l.drop 9).take (Try.prog.cellsOf 5))=xs[9]?:=hg 9 _ rfl;obtain ⟨y9,hy9⟩:∃ y,xs[9]?=some y:=⟨_,List.getElem?_eq_getElem (by rw [hlen];decide)⟩
 rw [hy9,k5] at g9
 obtain ⟨x9,e9,_,w9⟩:=DataW.trod_int Try.underlying5 g9;have hd:l=l.drop 0:=rfl;rw [E5 e0 (show 0+1=1 from rfl),E5 e1 (show 1+1=2 from rfl),E5 e2 (show 2+1=3 from rfl),E5 e3 (show 3+1=4 from rfl),E5 e4 (show 4+1=5 from rfl),E5 e5 (show 5+1=6 from rfl),E5 e6 (show 6+1=7 from rfl),E5 e7 (show 7+1=8 from rfl),E5 e8 (show 8+1=9 from rfl),E5 e9 (show 9+1=10 from rfl),List.drop_eq_nil_of_le (show l.length<=10 by omega)] at hd
 subst hd;exact ⟨x0,x1,x2,x3,x4,x5,x6,x7,x8,x9,rfl,w0,w1,w2,w3,w4,w5,w6,w7,w8,w9⟩
end
end Go.Proofs.YtkmimamminddiaaW.FX
