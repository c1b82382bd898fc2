/- RewriteChanges: for every input the Go function returns true, and each argument reads as before. -/
import Derived.Test.YtkmimamminddiaaRows
import Derived.Test.YtkmimamminddiaaZpa
import Derived.Test.YtkmimamminddiaaZph
import Derived.WalkKit
import Derived.ProofKit
import Derived.OpenShut
import Derived.ShutString
import Derived.ChangeOld
import Derived.Below
import Derived.SizedLaws
import Derived.Lib.SmallJoins
set_option maxHeartbeats 40000000
set_option maxRecDepth 100000
set_option linter.unusedVariables false
set_option linter.unusedSimpArgs false
namespace Go.Proofs.Ytkmimamminddiaa.rewriteChanges
open Go.ChangeShapes Go.WideShapes Go.ChangeAt Go.RowKit Go.Joins Go.Proofs.ai.bX Go.Proofs.ai.yZ
open Go.ChangeMaps (open_string shut_string)
theorem own:ownKnob Try.prog.godebug=none:=by kernel_rfl
theorem laidOut:laidOutB Try.prog=true:=by kernel_rfl
theorem lifted (os:Os) (started:os.Started) (H:Type) (enc:TypeId×Value ->H):
    ReturnsInHanded {} Try.checked os 7 .any (Rows.rewriteChangesSpec.pre6 enc Try.prog Try.f7 Rows.rewriteChangesRow.domain false) (Rows.rewriteChangesSpec.post enc Try.prog Try.f7 false true false false):=by
  refine returnsInHanded_of_change_sized (C:=Try.checked) own started (by kernel_rfl) Try.func7
    (ChangeSpec.witness6 (enc:=enc) (C:=Try.checked) false ⟨#[], #[.agg #[.int .u8 0,.int .u8 0,.int .u8 0,.int .u8 0,.int .u8 0,.int .u8 0,.int .u8 0,.int .u8 0,.int .u8 0,.int .u8 0],.int .u8 0,.agg #[.int .u32 0,.int .u16 0],.agg #[.int .u32 0,.int .u16 0]],[]⟩ 8 (by kernel_rfl) (by kernel_rfl) (by kernel_rfl) (by kernel_rfl)) ?_
  intro W base args ds gs before Yp hW hcnd AhJ _;have hsz:(DataW.weightsEach Try.prog (Try.f7.params.toList++Rows.rewriteChangesSpec.plain.varTypes Try.prog) (ds++gs)).all (· <=reachBytes)=true:=AhJ;have hval:∀ (j:Nat) t v,Try.f7.params[j]?=some t ->args[j]?=some v ->Value.okWide Try.prog W .any base t v:=Yp;have hW':=hW;obtain ⟨p,q,YR,hV,rfl,hfz,hnd⟩:=hW;have hA:DataW.TrodAll enc Try.prog W 0 (fun _=>true) true Try.f7.params.toList args.toList ds p:=YR;rw [Try.params7] at hA hval hsz
  obtain ⟨v0,vs0,d0,ds0,p0,q0,hargs,rfl,rfl,h0,r0⟩:=trodAll_cons hA;obtain ⟨v1,vs1,d1,ds1,p1,q1,rfl,rfl,rfl,h1,r1⟩:=trodAll_cons r0;obtain ⟨v2,vs2,d2,ds2,p2,q2,rfl,rfl,rfl,h2,r2⟩:=trodAll_cons r1;obtain ⟨v3,vs3,d3,ds3,p3,q3,rfl,rfl,rfl,h3,r3⟩:=trodAll_cons r2;obtain ⟨rfl,rfl,rfl⟩:=trodAll_nil r3;obtain rfl:args= #[v0,v1,v2,v3]:=by cases args;simp_all
  obtain ⟨rfl,rfl⟩:=trodVars_none hV;have k0:=h0;have lt0:∀ x ∈ p0,x.block<W.heap.size:=by obtain ⟨m,hm⟩:=k0;exact DataW.trod_lt m _ _ _ hm
  obtain ⟨AoA,AoB,AoC,AoD,AoE,AoF,AoG,AoH,AoI,AoJ,rfl,AoK,AvX,AvY,AvZ,Av0,Av1,Av2,Av3,AoL,AoM⟩:=O3 (hval 0 25 v0 rfl rfl) h0
  -- (a struct: no row_of)
  obtain ⟨a1,rfl,rfl,rfl,w1⟩:=open_int Try.underlying5 (hval 1 5 v1 rfl rfl) h1;have k2:=h2;have lt2:∀ x ∈ p2,x.block<W.heap.size:=by obtain ⟨m,hm⟩:=k2;exact DataW.trod_lt m _ _ _ hm
  obtain ⟨AoN,AoO,rfl,AoP,AoQ⟩:=Ef (hval 2 65 v2 rfl rfl) h2;have k3:=h3;have lt3:∀ x ∈ p3,x.block<W.heap.size:=by obtain ⟨m,hm⟩:=k3;exact DataW.trod_lt m _ _ _ hm
  obtain ⟨AoR,AoS,rfl,AoT,AoU⟩:=Ef (hval 3 65 v3 rfl rfl) h3;clear YR Yp AhJ hsz;refine (PB.rewriteChanges.calls AoA AoB AoC AoD AoE AoF AoG AoH AoI AoJ a1 AoN AoO AoR AoS W ⟨(j8.Sv AoK).1,j8.Sv AoL,j8.Sv AoM⟩ (j8.Sy AoP) (j8.Sw AoQ) (j8.Sy AoT) (j8.Sw AoU)).mono fun e W' ⟨he,bel⟩=> ?_
  subst he;exact ⟨_,rfl,_,_,_,[],_,[],hW',trodAll_mk1 (shut_bool Try.underlying4 _),(trodAll_cons_mk (Below.trod laidOut (by kernel_rfl) (of_decide_eq_true (by kernel_rfl)) k0 bel lt0) (trodAll_cons_mk (shut_int Try.underlying5 w1) (trodAll_cons_mk (Below.trod laidOut (by kernel_rfl) (of_decide_eq_true (by kernel_rfl)) k2 bel lt2) (trodAll_cons_mk (Below.trod laidOut (by kernel_rfl) (of_decide_eq_true (by kernel_rfl)) k3 bel lt3) trodAll_mk0)))),rfl,bel.frame _,fun h=>by cases h⟩
theorem over:Rows.rewriteChangesRow.holds Try.pinned (OpenSpec.ofChange Rows.rewriteChangesSpec):=
  OpenClaim.holds_of_wide 7 Try.f7 rfl rfl rfl rfl rfl rfl rfl ⟨rfl,rfl,rfl,rfl,rfl⟩ rfl rfl rfl rfl rfl (by kernel_rfl) Try.func7 (by kernel_rfl)
    (of_decide_eq_true (by kernel_rfl)) (by unfold Func.isWrapper;first|(rw [au (by decide+kernel)];kernel_rfl)|(rw [ax (by decide+kernel)];exact ⟨rfl,rfl⟩))
    (fun os started H enc _=>lifted os started H enc)
theorem proved:Rows.RewriteChangesSaid:=over
#print axioms proved
end Go.Proofs.Ytkmimamminddiaa.rewriteChanges
namespace Go.Proofs.Ytkmimamminddiaa
theorem rewriteChanges_holds:Rows.RewriteChangesSaid:=rewriteChanges.proved
end Go.Proofs.Ytkmimamminddiaa
