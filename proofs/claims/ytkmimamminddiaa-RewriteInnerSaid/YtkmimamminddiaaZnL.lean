/- RewriteInner: for every input the Go function returns true, and each argument reads as before. -/
import Derived.Test.YtkmimamminddiaaRows
import Derived.Test.YtkmimamminddiaaZna
import Derived.Test.YtkmimamminddiaaZnh
import Derived.WalkKit
import Derived.ProofKit
import Derived.OpenShut
import Derived.ShutString
import Derived.ChangeOld
import Derived.Below
import Derived.SizedLaws
import Derived.Lib.SmallJoins
set_option maxHeartbeats 40000000
set_option maxRecDepth 100000
set_option linter.unusedVariables false
set_option linter.unusedSimpArgs false
namespace Go.Proofs.Ytkmimamminddiaa.rewriteInner
open Go.ChangeShapes Go.WideShapes Go.ChangeAt Go.RowKit Go.Joins Go.Proofs.ah.bT Go.Proofs.ah.zI
open Go.ChangeMaps (open_string shut_string)
theorem own:ownKnob Try.prog.godebug=none:=by kernel_rfl
theorem laidOut:laidOutB Try.prog=true:=by kernel_rfl
theorem lifted (os:Os) (started:os.Started) (H:Type) (enc:TypeId×Value ->H):
    ReturnsInHanded {} Try.checked os 12 .any (Rows.rewriteInnerSpec.pre6 enc Try.prog Try.f12 Rows.rewriteInnerRow.domain false) (Rows.rewriteInnerSpec.post enc Try.prog Try.f12 false true false false):=by
  refine returnsInHanded_of_change_sized (C:=Try.checked) own started (by kernel_rfl) Try.func12
    (ChangeSpec.witness6 (enc:=enc) (C:=Try.checked) false ⟨#[], #[.agg #[.int .u8 0,.int .u8 0,.int .u8 0,.int .u8 0,.int .u8 0,.int .u8 0,.int .u8 0,.int .u8 0,.int .u8 0,.int .u8 0],.int .u8 0,.agg #[.int .u32 0,.int .u16 0],.agg #[.int .u32 0,.int .u16 0],.bool false],[]⟩ 8 (by kernel_rfl) (by kernel_rfl) (by kernel_rfl) (by kernel_rfl)) ?_
  intro W base args ds gs before Z9 hW hcnd AjU _;have hsz:(DataW.weightsEach Try.prog (Try.f12.params.toList++Rows.rewriteInnerSpec.plain.varTypes Try.prog) (ds++gs)).all (· <=reachBytes)=true:=AjU;have hval:∀ (j:Nat) t v,Try.f12.params[j]?=some t ->args[j]?=some v ->Value.okWide Try.prog W .any base t v:=Z9;have hW':=hW;obtain ⟨p,q,hA0,hV,rfl,hfz,hnd⟩:=hW;have hA:DataW.TrodAll enc Try.prog W 0 (fun _=>true) true Try.f12.params.toList args.toList ds p:=hA0;rw [Try.params12] at hA hval hsz
  obtain ⟨v0,vs0,d0,ds0,p0,q0,hargs,rfl,rfl,h0,r0⟩:=trodAll_cons hA;obtain ⟨v1,vs1,d1,ds1,p1,q1,rfl,rfl,rfl,h1,r1⟩:=trodAll_cons r0;obtain ⟨v2,vs2,d2,ds2,p2,q2,rfl,rfl,rfl,h2,r2⟩:=trodAll_cons r1;obtain ⟨v3,vs3,d3,ds3,p3,q3,rfl,rfl,rfl,h3,r3⟩:=trodAll_cons r2;obtain ⟨v4,vs4,d4,ds4,p4,q4,rfl,rfl,rfl,h4,r4⟩:=trodAll_cons r3;obtain ⟨rfl,rfl,rfl⟩:=trodAll_nil r4;obtain rfl:args= #[v0,v1,v2,v3,v4]:=by cases args;simp_all
  obtain ⟨rfl,rfl⟩:=trodVars_none hV;have k0:=h0;have lt0:∀ x ∈ p0,x.block<W.heap.size:=by obtain ⟨m,hm⟩:=k0;exact DataW.trod_lt m _ _ _ hm
  obtain ⟨Aq8,Aq9,Ara,Arb,Arc,Ard,Are,Arf,Arh,Ari,rfl,Arj,AyG,AyH,AyI,AyJ,AyK,AyL,AyM,Ark,Arl⟩:=Qm (hval 0 25 v0 rfl rfl) h0
  -- (a struct: no row_of)
  obtain ⟨a1,rfl,rfl,rfl,w1⟩:=open_int Try.underlying5 (hval 1 5 v1 rfl rfl) h1;have k2:=h2;have lt2:∀ x ∈ p2,x.block<W.heap.size:=by obtain ⟨m,hm⟩:=k2;exact DataW.trod_lt m _ _ _ hm
  obtain ⟨Arm,Arn,rfl,Aro,Arp⟩:=EU (hval 2 65 v2 rfl rfl) h2;have k3:=h3;have lt3:∀ x ∈ p3,x.block<W.heap.size:=by obtain ⟨m,hm⟩:=k3;exact DataW.trod_lt m _ _ _ hm
  obtain ⟨Arq,Arr,rfl,Ars,Art⟩:=EU (hval 3 65 v3 rfl rfl) h3;obtain ⟨a4,rfl,rfl,rfl⟩:=open_bool Try.underlying4 (hval 4 4 v4 rfl rfl) h4;clear hA0 Z9 AjU hsz;refine (PB.rewriteInner.calls Aq8 Aq9 Ara Arb Arc Ard Are Arf Arh Ari a1 Arm Arn Arq Arr a4 W ⟨(jJ.Ui Arj).1,jJ.Ui Ark,jJ.Ui Arl⟩ (jJ.Uk Aro) (jJ.Uj Arp) (jJ.Uk Ars) (jJ.Uj Art)).mono fun e W' ⟨he,K9⟩=> ?_
  subst he;exact ⟨_,rfl,_,_,_,[],_,[],hW',trodAll_mk1 (shut_bool Try.underlying4 _),(trodAll_cons_mk (Below.trod laidOut (by kernel_rfl) (of_decide_eq_true (by kernel_rfl)) k0 K9 lt0) (trodAll_cons_mk (shut_int Try.underlying5 w1) (trodAll_cons_mk (Below.trod laidOut (by kernel_rfl) (of_decide_eq_true (by kernel_rfl)) k2 K9 lt2) (trodAll_cons_mk (Below.trod laidOut (by kernel_rfl) (of_decide_eq_true (by kernel_rfl)) k3 K9 lt3) (trodAll_cons_mk (shut_bool Try.underlying4 _) trodAll_mk0))))),rfl,K9.frame _,fun h=>by cases h⟩
theorem over:Rows.rewriteInnerRow.holds Try.pinned (OpenSpec.ofChange Rows.rewriteInnerSpec):=
  OpenClaim.holds_of_wide 12 Try.f12 rfl rfl rfl rfl rfl rfl rfl ⟨rfl,rfl,rfl,rfl,rfl⟩ rfl rfl rfl rfl rfl (by kernel_rfl) Try.func12 (by kernel_rfl)
    (of_decide_eq_true (by kernel_rfl)) (by unfold Func.isWrapper;first|(rw [aq (by decide+kernel)];kernel_rfl)|(rw [av (by decide+kernel)];exact ⟨rfl,rfl⟩))
    (fun os started H enc _=>lifted os started H enc)
theorem proved:Rows.RewriteInnerSaid:=over
#print axioms proved
end Go.Proofs.Ytkmimamminddiaa.rewriteInner
namespace Go.Proofs.Ytkmimamminddiaa
theorem rewriteInner_holds:Rows.RewriteInnerSaid:=rewriteInner.proved
end Go.Proofs.Ytkmimamminddiaa
