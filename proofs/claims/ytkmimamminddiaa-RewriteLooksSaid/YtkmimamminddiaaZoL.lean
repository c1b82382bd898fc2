/- RewriteLooks: for every input the Go function returns true, and each argument reads as before. -/
import Derived.Test.YtkmimamminddiaaRows
import Derived.Test.YtkmimamminddiaaZoa
import Derived.Test.YtkmimamminddiaaZoh
import Derived.WalkKit
import Derived.ProofKit
import Derived.OpenShut
import Derived.ShutString
import Derived.ChangeOld
import Derived.Below
import Derived.SizedLaws
import Derived.Lib.SmallJoins
set_option maxHeartbeats 40000000
set_option maxRecDepth 100000
set_option linter.unusedVariables false
set_option linter.unusedSimpArgs false
namespace Go.Proofs.Ytkmimamminddiaa.rewriteLooks
open Go.ChangeShapes Go.WideShapes Go.ChangeAt Go.RowKit Go.Joins Go.Proofs.YtkmimamminddiaaW.PrintWords Go.Proofs.YtkmimamminddiaaW.FX
open Go.ChangeMaps (open_string shut_string)
theorem own:ownKnob Try.prog.godebug=none:=by kernel_rfl
theorem laidOut:laidOutB Try.prog=true:=by kernel_rfl
theorem lifted (os:Os) (started:os.Started) (H:Type) (enc:TypeId×Value ->H):
    ReturnsInHanded {} Try.checked os 6 .any (Rows.rewriteLooksSpec.pre6 enc Try.prog Try.f6 Rows.rewriteLooksRow.domain false) (Rows.rewriteLooksSpec.post enc Try.prog Try.f6 false true false false):=by
  refine returnsInHanded_of_change_sized (C:=Try.checked) own started (by kernel_rfl) Try.func6
    (ChangeSpec.witness6 (enc:=enc) (C:=Try.checked) false ⟨#[], #[.slice none 0 0,.agg #[.int .u8 0,.int .u8 0,.int .u8 0,.int .u8 0,.int .u8 0,.int .u8 0,.int .u8 0,.int .u8 0,.int .u8 0,.int .u8 0],.int .u8 0,.int .u8 0],[]⟩ 8 (by kernel_rfl) (by kernel_rfl) (by kernel_rfl) (by kernel_rfl)) ?_
  intro W base args ds gs before hval0 hW hcnd hsz0 _;have hsz:(DataW.weightsEach Try.prog (Try.f6.params.toList++Rows.rewriteLooksSpec.plain.varTypes Try.prog) (ds++gs)).all (· <=reachBytes)=true:=hsz0;have hval:∀ (j:Nat) t v,Try.f6.params[j]?=some t ->args[j]?=some v ->Value.okWide Try.prog W .any base t v:=hval0;have hW':=hW;obtain ⟨p,q,hA0,hV,rfl,hfz,hnd⟩:=hW;have hA:DataW.TrodAll enc Try.prog W 0 (fun _=>true) true Try.f6.params.toList args.toList ds p:=hA0;rw [Try.params6] at hA hval hsz
  obtain ⟨v0,vs0,d0,ds0,p0,q0,hargs,rfl,rfl,h0,r0⟩:=trodAll_cons hA;obtain ⟨v1,vs1,d1,ds1,p1,q1,rfl,rfl,rfl,h1,r1⟩:=trodAll_cons r0;obtain ⟨v2,vs2,d2,ds2,p2,q2,rfl,rfl,rfl,h2,r2⟩:=trodAll_cons r1;obtain ⟨v3,vs3,d3,ds3,p3,q3,rfl,rfl,rfl,h3,r3⟩:=trodAll_cons r2;obtain ⟨rfl,rfl,rfl⟩:=trodAll_nil r3;obtain rfl:args= #[v0,v1,v2,v3]:=by cases args;simp_all
  obtain ⟨rfl,rfl⟩:=trodVars_none hV;obtain ⟨A0,n0,c0,rfl⟩:=okWide_slice Try.underlying23 (hval 0 23 v0 rfl rfl);have k0:=h0;have lt0:∀ x ∈ p0,x.block<W.heap.size:=by obtain ⟨m,hm⟩:=k0;exact DataW.trod_lt m _ _ _ hm
  obtain ⟨fuel0,hf0⟩:=h0;obtain ⟨z0,w0⟩:=row_of Try.underlying23 Try.underlying5 (by kernel_rfl) hf0;obtain ⟨l0,rfl,hr0,hm0,hw0,hc0⟩:=jF.AgS w0;have k1:=h1;have lt1:∀ x ∈ p1,x.block<W.heap.size:=by obtain ⟨m,hm⟩:=k1;exact DataW.trod_lt m _ _ _ hm
  obtain ⟨AvM,AvN,AvO,AvP,AvQ,AvR,AvS,AvT,AvU,AvV,rfl,AvW,ABa,ABb,ABc,ABd,ABe,ABf,ABg,AvX,AvY⟩:=YA (hval 1 25 v1 rfl rfl) h1;obtain ⟨a2,rfl,rfl,rfl,w2⟩:=open_int Try.underlying5 (hval 2 5 v2 rfl rfl) h2;obtain ⟨a3,rfl,rfl,rfl,w3⟩:=open_int Try.underlying5 (hval 3 5 v3 rfl rfl) h3;clear hA0 hval0 hsz0 hsz;refine (PB.rewriteLooks.calls _ _ _ AvM AvN AvO AvP AvQ AvR AvS AvT AvU AvV a2 a3 W (Kd.dR (d:=(0:Int)) (h1:=fun _=>rfl) hr0) hc0 (BytesEq.Aj4 hw0) ⟨(BytesEq.WR AvW).1,BytesEq.WR AvX,BytesEq.WR AvY⟩).mono fun e W' ⟨he,bel⟩=> ?_
  subst he;exact ⟨_,rfl,_,_,_,[],_,[],hW',trodAll_mk1 (shut_bool Try.underlying4 _),(trodAll_cons_mk (Below.trod laidOut (by kernel_rfl) (of_decide_eq_true (by kernel_rfl)) k0 bel lt0) (trodAll_cons_mk (Below.trod laidOut (by kernel_rfl) (of_decide_eq_true (by kernel_rfl)) k1 bel lt1) (trodAll_cons_mk (shut_int Try.underlying5 w2) (trodAll_cons_mk (shut_int Try.underlying5 w3) trodAll_mk0)))),rfl,bel.frame _,fun h=>by cases h⟩
theorem over:Rows.rewriteLooksRow.holds Try.pinned (OpenSpec.ofChange Rows.rewriteLooksSpec):=
  OpenClaim.holds_of_wide 6 Try.f6 rfl rfl rfl rfl rfl rfl rfl ⟨rfl,rfl,rfl,rfl,rfl⟩ rfl rfl rfl rfl rfl (by kernel_rfl) Try.func6 (by kernel_rfl)
    (of_decide_eq_true (by kernel_rfl)) (by unfold Func.isWrapper;first|(rw [ah (by decide+kernel)];kernel_rfl)|(rw [aj (by decide+kernel)];exact ⟨rfl,rfl⟩))
    (fun os started H enc _=>lifted os started H enc)
theorem proved:Rows.RewriteLooksSaid:=over
#print axioms proved
end Go.Proofs.Ytkmimamminddiaa.rewriteLooks
namespace Go.Proofs.Ytkmimamminddiaa
theorem rewriteLooks_holds:Rows.RewriteLooksSaid:=rewriteLooks.proved
end Go.Proofs.Ytkmimamminddiaa
