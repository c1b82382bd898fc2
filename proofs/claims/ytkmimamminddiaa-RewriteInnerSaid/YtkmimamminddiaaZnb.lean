/- Texts of this claim, merged: Sq, RwLib, PBx0, RwM, Sz, PBx11, PBx50, RwTp, PBx17, PBx18, PBx51, RwOf, PBx8, PBx13, PBx14. -/
import Derived.Test.YtkmimamminddiaaZna
import Derived.KernelRfl
import Derived.Test.YtkmimamminddiaaProg
import Derived.Below
import Derived.Deep.Draws
import Derived.Deep.AppendLies
import Derived.Maps.AppendAt
import Derived.OwnWalk
import Derived.Laws.BytesArg
import Derived.Laws.MakeOwn
import Derived.Laws.OwnMore
import Derived.Deep.OwnRows
import Derived.Tactics
import Derived.Deep.Cut
import Derived.Deep.CutRange
import Derived.Deep.CutBlock
import Derived.Deep.WholeRow
import Derived.Deep.MidRow
import Derived.Lib.ConvBytes
import Derived.Laws.Slices
import Derived.WalkKit
import Derived.RowKit3
import Derived.Deep.LoopGhost
import Derived.Deep.QuietTactic
import Derived.BigQuiet
import Derived.WideLaws
import Derived.Deep.DeepCutAuto
import Derived.Deep.RegionHeld3
import Derived.Laws.Rows
import Derived.Lib.AppendStr
import Derived.ArgAppend
import Derived.Laws.IdiomCopy
import Derived.OrdersHeld
import Derived.Laws.BitsLemmas
import Derived.RowKit
import Derived.Defers
import Derived.Recover
import Derived.ChangeKeysEq
set_option maxHeartbeats 40000000
set_option maxRecDepth 100000
set_option linter.unusedVariables false
set_option linter.unusedSimpArgs false
namespace Go.Proofs.ah.cY
open Go.RowKit Go.Proofs.ah.bT
theorem AeM (t:List Value) (d:_) (n:Tmp) (v:Value):Act.put ⟨t.toArray,d⟩ (some n) v=⟨(t.set n v).toArray,d⟩:=by simp [Act.put]
theorem AeN (a:Act) (v:Value):Act.put a none v=a:=rfl
theorem AeO (x y:Value) (l:List Value):(x::l).set 0 y=y::l:=rfl
theorem AeP (x y:Value) (l:List Value) (n:Nat):(x::l).set (n+1) y=x::l.set n y:=rfl
theorem pG:(∀ (t:List Value) (d:_) (n:Tmp) (v:Value),Act.put ⟨t.toArray,d⟩ (some n) v=⟨(t.set n v).toArray,d⟩) /\ (∀ (a:Act) (v:Value),Act.put a none v=a) /\ (∀ (x y:Value) (l:List Value),(x::l).set 0 y=y::l) /\ (∀ (x y:Value) (l:List Value) (n:Nat),(x::l).set (n+1) y=x::l.set n y) /\ (∀ n:Int,IntKind.i64.wrap n=wrap64 n) /\ (∀ n:Int,IntKind.i32.wrap n=wrap32 n):=⟨AeM,AeN,AeO,AeP,gK,kD⟩
section
variable {P:Program} {ops:Array Oper} {Q:Exit ->Act ->World ->Prop} {md:Region.Mode} {S:World ->Prop} {ds:List Nat} {T:Bool×List (List Nat×List Nat)} {B:List Nat} {l:Array Bool} {N:Option Tmp} {oi:Oper} {v:Value} {fuel:Nat} {a a':Act} {w:World}
theorem pz (i n:Nat) (hT:aa (gB md ops=T)) (h:cI P md ops Q S ds fuel (l.setIfInBounds i true) a' w) (hi:ops[i]?=some oi:=by rfl) (hN:oi.dst=some n:=by rfl) (hc:Vn T l.toList (l.setIfInBounds i true).toList i=true:=by kernel_rfl) (hQ:∀ c a w,Q (.panic c) (a.put oi.dst v) w ->Q (.panic c) a w:=by exact fun _ _ _ h=>h)
  (hw:Region.wanted oi (yielded ops a.tmps)=true:=by rfl) (hr:∀ w',(execOp a.eval oi).run P w'= .ok (.value v) w':=by (intro w';go_simp;with_reducible rfl)) (ha:a.put (some n) v=a':=by (simp only [pG];rfl)):cI P md ops Q S ds (fuel+1) l a w:=
 tg (l.setIfInBounds i true) hi hN (rZ hT.out hc) hQ (Or.inl ⟨hw,hr⟩) ha h
theorem tz (i n:Nat) (hT:aa (gB md ops=T)) (hB:aa (cS T.2 B=true)) (hS:S w) (h:cI P md ops Q S ds fuel (l.setIfInBounds i true) a' w) (hi:ops[i]?=some oi:=by rfl) (hN:oi.dst=some n:=by rfl) (hc:M4 T B ds l.toList (l.setIfInBounds i true).toList i=true:=by kernel_rfl) (hQ:∀ c a w,Q (.panic c) (a.put oi.dst v) w ->Q (.panic c) a w:=by exact fun _ _ _ h=>h)
  (hw:Region.wanted oi (yielded ops a.tmps)=true:=by rfl) (hr:∀ w',S w' ->(execOp a.eval oi).run P w'= .ok (.value v) w':=by (intro w' s0;go_simp;with_reducible rfl)) (ha:a.put (some n) v=a':=by (simp only [pG];rfl)):cI P md ops Q S ds (fuel+1) l a w:=
 gF (l.setIfInBounds i true) hi hN (dm hT.out hB.out hc) hQ (Or.inl ⟨hw,hr⟩) hS ha h
theorem oz (i:Nat) (N:Option Tmp) (hT:aa (gB md ops=T)) (h:∀ K:Act ->World ->Prop,Shut (∀ a' w',S w' ->(S w' ->cI P md ops Q S ds fuel (l.setIfInBounds i true) a' w') ->K a' w') ->if Region.wanted oi (yielded ops a.tmps)=true then Oper.wp P oi a w K Q else K (a.put N undef) w) (hi:ops[i]?=some oi:=by rfl) (hN:oi.dst=N:=by rfl) (hc:(wO T.2 l.toList==[i] && l.toList.set i true==(l.setIfInBounds i true).toList)=true:=by kernel_rfl) (hd:i ∉ ds:=by decide):cI P md ops Q S ds (fuel+1) l a w:=
 QL (l.setIfInBounds i true) hi hN (Gj hT.out hc) hd h
theorem nz (n:Tmp) {b:Act} (h:cI P md ops Q S ds fuel l a' w) (ha:Act.put b (some n) v=a':=by (simp only [pG];rfl)):cI P md ops Q S ds fuel l (Act.put b (some n) v) w:=MX ha h
theorem dz {n:Nat} (hT:aa (gB md ops=T)) (h:Q .normal a w) (hc:(wO T.2 l.toList==[])=true:=by kernel_rfl):cI P md ops Q S ds n l a w:=QM (M0 hT.out hc) h
end
theorem cz {w:World} {g:Nat} {cs:Array Value} {t:TypeId} {f:Nat×Nat} {v:Value} (h:w.heap[g]?=some (.cells cs t f)) (i:Nat) (e:cs[i]?=some v):w.cell? ⟨g,i,none⟩=some v:=(cell_of_row w g i cs t f h).trans e
theorem eF {w:World} {a:Addr} {v:Value} {g:Nat} (h:w.cell? a=some v) (hg:w.heap.size<=g):a.block≠g:=Nat.ne_of_lt (Nat.lt_of_lt_of_le (dF w a h) hg)
theorem eG {w:World} {a:Addr} {v:Value} {g i:Nat} (h:w.cell? (a.add i)=some v) (hg:w.heap.size<=g):a.block≠g:=by
 have h1:=eF h hg
 rwa [AL] at h1
end Go.Proofs.ah.cY
namespace Go.Proofs.Ytkmimamminddiaa.PB
open Go.RowKit Go.Proofs.ah.bT Go.Proofs.ah.cY Go.Proofs.ah.iw
theorem bR {α β:Type} {x:Option α} {f:α ->Option β} {r:β} (h:x.bind f=some r):∃ y,x=some y /\ f y=some r:=by
 cases x with
 |none=>cases h
 |some y=>exact ⟨y,rfl,h⟩
theorem iT (w:World) (o:Obj):(w.alloc o).heap[w.heap.size]?=some o:=by simp [World.alloc, -World.alloc_eq]
structure j7 (W w1:World) (g:Nat):Prop where
 os:w1.os=W.os
 tape:w1.tape=W.tape
 output:w1.output=W.output
 size:w1.heap.size=W.heap.size
 far:∀ k,k≠g ->w1.heap[k]?=W.heap[k]?
theorem j7.setCell (W:World) (g i:Nat) (v:Value):j7 W (W.setCell ⟨g,i,none⟩ v) g:=⟨rfl,rfl,rfl,by simp [World.setCell],fun k hk=>Below.heap_setCell W ⟨g,i,none⟩ v k hk⟩
theorem j7.below {W w1 w:World} {g B:Nat} (h:j7 W w1 g) (hB:Below B w W) (hg:B<=g):Below B w w1:=
 ⟨h.os.trans hB.os,h.tape.trans hB.tape,h.output.trans hB.output,by rw [h.size];exact hB.size,fun i hi=>(h.far i (by omega)).trans (hB.block i hi)⟩
theorem j7.blk {W w1:World} {g g' t t':Nat} {cs ds:Array Value} {f:Nat×Nat} (h:j7 W w1 g) (hx:W.heap[g']?=some (.cells cs t' f)) (hg:W.heap[g]?=some (.cells ds t (0,0))) (ht:t'≠t):w1.heap[g']?=some (.cells cs t' f):=
 (h.far g' (fun e=>by subst e;rw [hx] at hg;injection hg with hg;injection hg with h1 h2;exact ht h2)).trans hx
theorem j7.AeQ {W w1:World} {g g':Nat} {o:Obj} (h:j7 W w1 g) (hx:W.heap[g']?=some o) (hn:g'≠g):w1.heap[g']?=some o:=(h.far g' hn).trans hx
theorem j7.R {k:IntKind} {e:Nat} {W w1:World} {base:Nat} {v:Value} {xs:List Int} {g t:Nat} {ds:Array Value} (h:j7 W w1 g) (hr:Kd.R (Kd.int k) e W base (fun _=>True) v xs) (hg:W.heap[g]?=some (.cells ds t (0,0))) (ht:e≠t):Kd.R (Kd.int k) e w1 base (fun _=>True) v xs:=
 Kd.dA (Kd.wM (Kd.mE hr hg (fun q hq=>by have e_:q=e:=(List.mem_cons.1 hq).resolve_right (fun h=>nomatch h);rw [e_];exact ht)) (fun k hk _=>h.far k hk.2)) (fun _ hk=>hk.1)
section
variable {P:Program} {ops:Array Oper} {rest:List Oper} {o:Oper} {a:Act} {Q:Exit ->Act ->World ->Prop}
theorem lX {W w1:World} (hgd:o.guard=none) (hd:o.dst=none) (hrun:(execOp a.eval o).run P W= .ok .skip w1) (h:wpList P ops Q rest a w1):wpList P ops Q (o::rest) a W:=by
 refine wpList_plain hgd fun K hK=> ?_
 unfold Oper.wp;rw [hrun];refine hK _ _ ?_;rw [hd];exact h
theorem jO {W:World} {g t i:Nat} {cs cs':Array Value} {v:Value} (hgd:o.guard=none) (hd:o.dst=none) (hb:W.heap[g]?=some (.cells cs t (0,0))) (he:cs.setIfInBounds i v=cs') (hrun:(execOp a.eval o).run P W= .ok .skip (W.setCell ⟨g,i,none⟩ v))
  (h:∀ w1,w1.heap[g]?=some (.cells cs' t (0,0)) ->j7 W w1 g ->wpList P ops Q rest a w1):wpList P ops Q (o::rest) a W:=
 lX hgd hd hrun (h _ (bK hb i v he) (j7.setCell W g i v))
theorem bM {w:World} {c:Array Value} {g:Nat} {t ty:TypeId} {p:Operand} {d:TypeDesc} (ho:o.op= .load ty p) (hp:a.eval p= .pointer (some ⟨g,0,none⟩)) (hg:w.heap[g]?=some (.cells c t (0,0))) (hu:P.underlying ty=some d) (hd:(match d with| .struct _| .array _ _=>true|_=>false)=true) (hi:(P.info? ty).map (·.size)=some c.size):
  (execOp a.eval o).run P w= .ok (.value (.agg c)) w:=by
 have h:=run_loadVar_row (P:=P) w g t ty c (0,0) d hg hu hd hi;unfold execOp;simp only [ho,hp]
 simp [Instr.loadAt,Instr.sureAddr,h,Sem.run_bind,Result.andThen]
theorem IV {w:World} {old c':Array Value} {g:Nat} {t ty:TypeId} {p x:Operand} (ho:o.op= .store ty p x) (hp:a.eval p= .pointer (some ⟨g,0,none⟩)) (hx:a.eval x= .agg c') (hg:w.heap[g]?=some (.cells old t (0,0))) (hi:(P.info? ty).map (·.size)=some c'.size) (hs:old.size=c'.size) (h1:c'.all (·.oneCell')=true):
  (execOp a.eval o).run P w= .ok .skip (w.setRow g c'):=by
 have h:=run_storeVar_row (P:=P) w g t ty old c' hg hi hs h1;unfold execOp;simp only [ho,hp,hx]
 simp [Instr.storeAt,Instr.sureAddr,h,Sem.run_bind,Result.andThen]
theorem uh {w:World} {c c':Array Value} {t:TypeId} {p x:Operand} (ho:o.op= .store t p x) (hp:a.eval p= .pointer (some ⟨w.heap.size,0,none⟩)) (hx:a.eval x= .agg c') (hi:(P.info? t).map (·.size)=some c'.size) (hs:c.size=c'.size) (h1:c'.all (·.oneCell')=true):
  (execOp a.eval o).run P (w.alloc (.cells c t))= .ok .skip (w.alloc (.cells c' t)):=by
 have h:=run_storeAt_new (P:=P) w t c c' hi hs h1;unfold execOp;simp only [ho,hp,hx]
 simp [h,Sem.run_bind,Result.andThen]
end
section
variable {P:Program} {ops:Array Oper} {rest:List Oper} {o:Oper} {a:Act} {Q:Exit ->Act ->World ->Prop}
theorem Gm {W:World} (hgd:o.guard=none) {cs:Array Value} {t:TypeId} {n:Nat} (hrun:(execOp a.eval o).run P W= .ok (.value (.slice (some ⟨W.heap.size,0,none⟩) n n)) (W.alloc (.cells cs t)))
  (h:∀ g,∀ w1,w1.heap[g]?=some (.cells cs t (0,0)) ->g=W.heap.size ->Below W.heap.size W w1 ->wpList P ops Q rest (a.put o.dst (.slice (some ⟨g,0,none⟩) n n)) w1):wpList P ops Q (o::rest) a W:=Kd.bU hgd hrun (h _ _ (iT _ _) rfl (dV (Below.refl _ _) _))
theorem VD (k:IntKind) {w0 W:World} (base e:Nat) (hgd:o.guard=none) {N:Tmp} (hd:o.dst=some N) (xs:List Int) (hrun:(execOp a.eval o).run P W= .ok (.value (.slice (some ⟨W.heap.size,0,none⟩) xs.length xs.length)) (W.alloc (.cells (xs.map (Value.int k)).toArray e))) (HB:Below base w0 W) (hbase:base<=W.heap.size) (hm:xs.length<=9223372036854775807)
  (h:∀ A c w1,Kd.R (Kd.int k) e w1 base (fun _=>True) (.slice A xs.length c) xs ->Below base w0 w1 ->W.grownBy w1 none ->wpList P ops Q rest (a.put o.dst (.slice A xs.length c)) w1):wpList P ops Q (o::rest) a W:=
 Kd.qh (Kd.int k) base e hgd hd (xs:=xs) (inner:=xs.map (Value.int k)) (ok:=fun _=>True) (qW:=fun _=>True) hrun (Kd.Bv (enc:=Value.int k) xs) (fun _ h=>h) trivial HB hbase hm (fun v1 w1 ho hb hg _=>by
  obtain ⟨A,c,rfl⟩:=Kd.dn ho
  exact h A c w1 ho hb hg)
end
theorem Q9 {W:World} {g t:Nat} {c:Array Value} {f:Nat×Nat} (cs:Array Value) (h:W.heap[g]?=some (.cells c t f)):(W.setRow g cs).heap[g]?=some (.cells cs t f):=setRow_heap W g c cs t f h
theorem j7.setRow {W:World} (g:Nat) (cs:Array Value):j7 W (W.setRow g cs) g:=⟨rfl,rfl,rfl,by simp [World.setRow],fun k hk=>setRow_other W g k cs (fun e=>hk e)⟩
theorem j7.Qo {k:IntKind} {e:Nat} {W w1:World} {base:Nat} {v:Value} {xs:List Int} {g:Nat} (h:j7 W w1 g) (hr:Kd.R (Kd.int k) e W base (fun _=>True) v xs) (hne:∀ j,v.ownBlock=some j ->j≠g):Kd.R (Kd.int k) e w1 base (fun _=>True) v xs:=
 Kd.Da (Iy (Kd.Db hr) (fun j hj=>h.far j (hne j hj))) (fun _ _=>trivial)
theorem l5 {k:IntKind} {w:World} {g t m:Nat} {xs:List Int} {cs:Array Value} {f:Nat×Nat} (h:w.heap[g]?=some (.cells cs t f)) (hc:cs=(xs.map (Value.int k)).toArray) (hm:m<=xs.length) (hd:xs.length<=1000000):Kd.C (Kd.int k) w (some ⟨g,0,none⟩) (xs.take m).length (xs.take m):=
 Kd.dH (enc:=Value.int k) (d:=(0:Int)) (h1:=fun _=>rfl) ⟨rfl,by rw [List.length_take];omega,fun _=>⟨_,rfl,fun j hj=>by
  rw [List.length_take] at hj
  have ha:(⟨g,0,none⟩:Addr).add j=⟨g,j,none⟩:=add_plain g j;rw [ha];subst hc;refine (cell_of_row w g j _ t f h).trans ?_
  simp [List.getD_eq_getElem?_getD,List.getElem?_eq_getElem (show j<xs.length by omega),List.getElem?_take,show j<m by omega]⟩⟩
theorem Ra {P:Program} (t e:TypeId) (kh:IntKind) {i:TypeInfo} (ht:P.underlying t=some (.slice e)) (hi:P.info? e=some i) (A:Option Addr) (n c:Nat) (j:Int) (m:Nat) (hj:j=(m:Int)) (hm:m<=n) (hc:n<=c):∀ W:World,(Instr.slice t (.slice A n c) none (some (.int kh j)) none).run P W= .ok (.slice A m c) W:=by
 subst hj;have:=Li (P:=P) t e kh ht hi A n c (m:Int) (by omega) (by omega) hc
 simpa using this
attribute [local go_sem] dI dJ eI eJ cO cP dK dL
def AeR:Option Int ->Value
 |none=> .nilIface
 |some c=> .iface 0 (.int .i64 c)
theorem aj:AeR none= .nilIface:=rfl
theorem ak (c:Int):AeR (some c)= .iface 0 (.int .i64 c):=rfl
theorem fY:(Try.prog.info? 5).map (fun i=>(i.zero,i.size,i.bytes))=some (some (.int .u8 0),1,1):=by kernel_rfl
theorem Gn:(Try.prog.info? 45).map (fun i=>(i.zero,i.size,i.bytes))=some (some (.int .u16 0),1,2):=by kernel_rfl
def qH (xs:List (List Int)) (i:Int):(List Int):=xs.getD i.toNat ([]:List Int)
theorem XR {w:World} {A:Option Addr} {n:Nat} {xs:List (List Int)} (h:Kd.C (Kd.slice 5 (Kd.int .u8)) w A n xs) (i:Int) (h0:0<=i) (h1:i<n):∃ ad A0 c0,A=some ad /\ w.cell? (ad.add i.toNat)=some (.slice A0 (qH xs i).length c0) /\ (qH xs i).length<=c0 /\ (Kd.int .u8).C w A0 (qH xs i).length (qH xs i):=by
 obtain ⟨ad,c,e,_,hK,hc0⟩:=Kd.Aex h ([]:List Int) i h0 h1;have hc:∀ j u,c[j]?=some u ->w.cell? (ad.add (i.toNat*1+j))=some u:=hc0;obtain ⟨A0,c0,rfl,l0,g0⟩:=hK;exact ⟨ad,A0,c0,e,by have hq:=hc 0 _ rfl;rwa [Nat.mul_one,Nat.add_zero] at hq,l0,g0⟩
structure ng where
 f0:Int
 f1:Int
def Fx:Kd ng:=Kd.iso (Kd.pair (Kd.int .u32) (Kd.int .u16)) (fun x:ng=>(x.f0,x.f1))
theorem xQ (w:World) (base:Nat) (ok:Nat ->Prop) (x:ng):Fx.M w base ok x [.int .u32 x.f0,.int .u16 x.f1]:=⟨[.int .u32 x.f0],[.int .u16 x.f1],rfl,rfl,rfl⟩
theorem mB {w W w2:World} (h:aa (Below w.heap.size w W)) (k:Below W.heap.size W w2):aa (Below w.heap.size w w2):=⟨au h.out k⟩
theorem mX {w w1:World} {g:Nat} {o:Obj} (h:aa (w.heap[g]?=some o)) (hb:Below w.heap.size w w1):aa (w1.heap[g]?=some o):=⟨bq h.out hb⟩
theorem mR {k:IntKind} {e base:Nat} {ok:Nat ->Prop} {w w1:World} {v:Value} {xs:List Int} (h:aa (Kd.R (Kd.int k) e w base ok v xs)) (hb:Below w.heap.size w w1):aa (Kd.R (Kd.int k) e w1 base ok v xs):=⟨Kd.fX h.out hb⟩
theorem mI {e base:Nat} {ok:Nat ->Prop} {w w1:World} {v:Value} {xs:List ng} (h:aa (Kd.R Fx e w base ok v xs)) (hb:Below w.heap.size w w1):aa (Kd.R Fx e w1 base ok v xs):=⟨Kd.fX h.out hb⟩
theorem mC {k:IntKind} {w w1:World} {A:Option Addr} {n:Nat} {xs:List Int} (h:aa (Kd.C (Kd.int k) w A n xs)) (hb:Below w.heap.size w w1):aa (Kd.C (Kd.int k) w1 A n xs):=⟨Kd.aW h.out hb⟩
theorem j7.R65 {W w1:World} {base:Nat} {v:Value} {xs:List ng} {g t:Nat} {ds:Array Value} (h:j7 W w1 g) (hr:Kd.R Fx 65 W base (fun _=>True) v xs) (hg:W.heap[g]?=some (.cells ds t (0,0))) (ht:65≠t):Kd.R Fx 65 w1 base (fun _=>True) v xs:=
 Kd.dA (Kd.wM (Kd.mE hr hg (fun q hq=>by have e_:q=65:=(List.mem_cons.1 hq).resolve_right (fun h=>nomatch h);rw [e_];exact ht)) (fun k hk _=>h.far k hk.2)) (fun _ hk=>hk.1)
section
variable {W w1:World} {g t:Nat} {ds:Array Value}
theorem oB {w:World} (o:j7 W w1 g) (h:aa (Below w.heap.size w W)) (hg:aa (w.heap.size<=g)):aa (Below w.heap.size w w1):=⟨j7.below o h.out hg.out⟩
theorem oX {g' t':Nat} {cs:Array Value} {f:Nat×Nat} (o:j7 W w1 g) (h:aa (W.heap[g']?=some (.cells cs t' f))) (hg:aa (W.heap[g]?=some (.cells ds t (0,0)))) (ht:t'≠t):aa (w1.heap[g']?=some (.cells cs t' f)):=⟨j7.blk o h.out hg.out ht⟩
theorem oN {g':Nat} {o':Obj} (o:j7 W w1 g) (h:aa (W.heap[g']?=some o')) (hn:aa (g'≠g)):aa (w1.heap[g']?=some o'):=⟨j7.AeQ o h.out hn.out⟩
theorem oR {k:IntKind} {e base:Nat} {v:Value} {xs:List Int} (o:j7 W w1 g) (h:aa (Kd.R (Kd.int k) e W base (fun _=>True) v xs)) (hg:aa (W.heap[g]?=some (.cells ds t (0,0)))) (ht:e≠t):aa (Kd.R (Kd.int k) e w1 base (fun _=>True) v xs):=⟨j7.R o h.out hg.out ht⟩
theorem oI {base:Nat} {v:Value} {xs:List ng} (o:j7 W w1 g) (h:aa (Kd.R Fx 65 W base (fun _=>True) v xs)) (hg:aa (W.heap[g]?=some (.cells ds t (0,0)))) (ht:65≠t):aa (Kd.R Fx 65 w1 base (fun _=>True) v xs):=⟨j7.R65 o h.out hg.out ht⟩
theorem cg {a b:Nat} (h:aa (a≠b)):aa (b≠a):=⟨Ne.symm h.out⟩
theorem cW {W:World} {g':Nat} {o:Obj} (h:aa (W.heap[g']?=some o)):aa (g'≠W.heap.size):=⟨Nat.ne_of_lt (lZ h.out)⟩
theorem yY {w W:World} (h:aa (Below w.heap.size w W)):aa (w.heap.size<=W.heap.size):=⟨af h.out⟩
end
section
variable {P:Program} {ops:Array Oper} {rest:List Oper} {o:Oper} {a:Act} {Q:Exit ->Act ->World ->Prop}
theorem dh {W:World} {old c':Array Value} {g t ty:Nat} {p x:Operand} (hgd:o.guard=none) (hd:o.dst=none) (ho:o.op= .store ty p x) (hp:a.eval p= .pointer (some ⟨g,0,none⟩)) (hx:a.eval x= .agg c') (hg:W.heap[g]?=some (.cells old t (0,0))) (hi:(P.info? ty).map (·.size)=some c'.size) (hs:old.size=c'.size) (h1:c'.all (·.oneCell')=true)
  (h:∀ w1,w1.heap[g]?=some (.cells c' t (0,0)) ->j7 W w1 g ->wpList P ops Q rest a w1):wpList P ops Q (o::rest) a W:=
 lX hgd hd (IV ho hp hx hg hi hs h1) (h _ (Q9 c' hg) (j7.setRow g c'))
theorem fc {w:World} {c c':Array Value} {t:Nat} {p x:Operand} (hgd:o.guard=none) (hd:o.dst=none) (ho:o.op= .store t p x) (hp:a.eval p= .pointer (some ⟨w.heap.size,0,none⟩)) (hx:a.eval x= .agg c') (hi:(P.info? t).map (·.size)=some c'.size) (hs:c.size=c'.size) (h1:c'.all (·.oneCell')=true)
  (h:∀ w1,w1.heap[w.heap.size]?=some (.cells c' t (0,0)) ->Below w.heap.size w w1 ->wpList P ops Q rest a w1):wpList P ops Q (o::rest) a (w.alloc (.cells c t)):=
 lX hgd hd (uh ho hp hx hi hs h1) (h _ (iT _ _) (dV (Below.refl _ _) _))
end
section
variable {P:Program} {ops:Array Oper} {oi:Oper} {a:Act} {W:World} {K:Act ->World ->Prop} {Q:Exit ->Act ->World ->Prop}
theorem cZ {old c':Array Value} {g t ty:Nat} {p x:Operand} (hw:Region.wanted oi (yielded ops a.tmps)=true) (hN:oi.dst=none) (ho:oi.op= .store ty p x) (hp:a.eval p= .pointer (some ⟨g,0,none⟩)) (hx:a.eval x= .agg c') (hg:W.heap[g]?=some (.cells old t (0,0))) (hi:(P.info? ty).map (·.size)=some c'.size) (hs:old.size=c'.size) (h1:c'.all (·.oneCell')=true)
  (h:∀ w1,w1.heap[g]?=some (.cells c' t (0,0)) ->j7 W w1 g ->K a w1):if Region.wanted oi (yielded ops a.tmps)=true then Oper.wp P oi a W K Q else K (a.put none undef) W:=
 wB hw hN (IV ho hp hx hg hi hs h1) (h _ (Q9 c' hg) (j7.setRow g c'))
theorem iy {cs cs':Array Value} {v:Value} {g t i:Nat} (hw:Region.wanted oi (yielded ops a.tmps)=true) (hN:oi.dst=none) (hb:W.heap[g]?=some (.cells cs t (0,0))) (he:cs.setIfInBounds i v=cs') (hrun:(execOp a.eval oi).run P W= .ok .skip (W.setCell ⟨g,i,none⟩ v))
  (h:∀ w1,w1.heap[g]?=some (.cells cs' t (0,0)) ->j7 W w1 g ->K a w1):if Region.wanted oi (yielded ops a.tmps)=true then Oper.wp P oi a W K Q else K (a.put none undef) W:=
 wB hw hN hrun (h _ (bK hb i v he) (j7.setCell W g i v))
end
theorem lO {k:IntKind} {e:Nat} {ok:Nat ->Prop} {w w1 w2:World} {v:Value} {xs:List Int} (h:Kd.R (Kd.int k) e w2 w1.heap.size ok v xs) (hB:aa (Below w.heap.size w w1)):aa (Kd.R (Kd.int k) e w2 w.heap.size (fun _=>True) v xs):=⟨Kd.dA (Kd.bP h (af hB.out)) (fun _ _=>trivial)⟩
section
variable {P:Program} {md:Region.Mode} {ops:Array Oper} {T:Bool×List (List Nat×List Nat)} {B:List Nat} {oi:Oper} {v:Value} {a:Act} {w:World} {S:World ->Prop} {ds:List Nat} {fuel:Nat} {l:Array Bool} {Q:Exit ->Act ->World ->Prop}
theorem pv (i n:Nat) (v:Value) (hT:aa (gB md ops=T)) (hr:∀ w',(execOp a.eval oi).run P w'= .ok (.value v) w') (h:cI P md ops Q S ds fuel (l.setIfInBounds i true) (a.put (some n) v) w) (hi:ops[i]?=some oi:=by rfl) (hN:oi.dst=some n:=by rfl) (hc:Vn T l.toList (l.setIfInBounds i true).toList i=true:=by kernel_rfl) (hQ:∀ c a w,Q (.panic c) (a.put oi.dst v) w ->Q (.panic c) a w:=by exact fun _ _ _ h=>h)
  (hw:Region.wanted oi (yielded ops a.tmps)=true:=by rfl):cI P md ops Q S ds (fuel+1) l a w:=
 tg (l.setIfInBounds i true) hi hN (rZ hT.out hc) hQ (Or.inl ⟨hw,hr⟩) rfl h
theorem tv (i n:Nat) (v:Value) (hT:aa (gB md ops=T)) (hB:aa (cS T.2 B=true)) (hS:S w) (hr:∀ w',S w' ->(execOp a.eval oi).run P w'= .ok (.value v) w') (h:cI P md ops Q S ds fuel (l.setIfInBounds i true) (a.put (some n) v) w) (hi:ops[i]?=some oi:=by rfl) (hN:oi.dst=some n:=by rfl) (hc:M4 T B ds l.toList (l.setIfInBounds i true).toList i=true:=by kernel_rfl) (hQ:∀ c a w,Q (.panic c) (a.put oi.dst v) w ->Q (.panic c) a w:=by exact fun _ _ _ h=>h)
  (hw:Region.wanted oi (yielded ops a.tmps)=true:=by rfl):cI P md ops Q S ds (fuel+1) l a w:=
 gF (l.setIfInBounds i true) hi hN (dm hT.out hB.out hc) hQ (Or.inl ⟨hw,hr⟩) hS rfl h
end
end Go.Proofs.Ytkmimamminddiaa.PB
namespace Go.Proofs.ah.cY
open Go.RowKit Go.Proofs.ah.bT Go.Proofs.ah.iw
theorem bz {B:Nat} {w W W0:World} (H:aa (Below B w W0)) (h:Below B w W0 ->Below B w W:=by (intro h_;repeat (first|(with_reducible first|exact h_|apply dV|apply dS|apply bf|refine ux ?_ (aa.out (by assumption)))|exact h_))):Below B w W:=h H.out
theorem kz {g:Nat} {o:Obj} {W W0:World} (H:aa (W0.heap[g]?=some o)) (h:W0.heap[g]?=some o ->W.heap[g]?=some o:=by (intro h_;(with_reducible repeat (first|refine aQ ?_ _|refine aJ ?_|refine aM ?_ _));exact h_)):W.heap[g]?=some o:=h H.out
section
variable {P:Program} {ops:Array Oper} {Q:Exit ->Act ->World ->Prop}
theorem gL {rest:List Oper} {oi:Oper} {a:Act} {w:World} (n:Tmp) {f:FuncId} {fn:Func} {ar:Array Operand} {ts:Array TypeId} (hf:P.funcs[f]?=some fn) (args:Array Value)
  (h:Calls P f args w fun e w'=>∃ v,e= .returned v /\ wpList P ops Q rest (a.put (some n) v) w') (hd:oi.dst=some n:=by rfl) (hg:oi.guard=none:=by rfl) (hname:(fn.name== "runtime.NumGoroutine")=false:=by kernel_rfl) (hb:fn.body.isSome=true:=by rfl)
  (hop:oi.op= .call {callee:= .value (.func f),args:=ar,argTypes:=ts}:=by rfl) (hargs:ar.map a.eval=args:=by ((try simp only [List.map_toArray,List.map_cons,List.map_nil]);first|done|rfl|(simp only [List.length_drop,List.length_take];rfl)|(go_simp;done)|(simp [Act.eval,IntKind.signed];done)|(simp [Act.eval,IntKind.signed];rfl))):wpList P ops Q (oi::rest) a w:=
 uf (some n) hd hg hf hname hb args hop hargs h
theorem gG {oi:Oper} {N:Option Tmp} {a:Act} {w:World} {K:Act ->World ->Prop} {f:FuncId} {fn:Func} {ar:Array Operand} {ts:Array TypeId} (hf:P.funcs[f]?=some fn) (args:Array Value)
  (h:Calls P f args w fun e w'=>∃ v,e= .returned v /\ K (a.put N v) w') (hname:(fn.name== "runtime.NumGoroutine")=false:=by kernel_rfl) (hb:fn.body.isSome=true:=by rfl) (hw:Region.wanted oi (yielded ops a.tmps)=true:=by rfl) (hN:oi.dst=N:=by rfl) (hop:oi.op= .call {callee:= .value (.func f),args:=ar,argTypes:=ts}:=by rfl)
  (hargs:ar.map a.eval=args:=by ((try simp only [List.map_toArray,List.map_cons,List.map_nil]);first|done|rfl|(simp only [List.length_drop,List.length_take];rfl)|(go_simp;done)|(simp [Act.eval,IntKind.signed];done)|(simp [Act.eval,IntKind.signed];rfl))):if Region.wanted oi (yielded ops a.tmps)=true then Oper.wp P oi a w K Q else K (a.put N undef) w:=
 i9 hf hname hb args hw hN hop hargs h
end
theorem Ln {w:World} {g t:Nat} {f:Nat×Nat} {c0 c1:Value} (h:w.heap[g]?=some (.cells #[c0,c1] t f)):w.cell? ⟨g,0,none⟩=some c0 /\ w.cell? ⟨g,1,none⟩=some c1:=⟨cz h 0 rfl,cz h 1 rfl⟩
theorem cs4 {w:World} {g t:Nat} {f:Nat×Nat} {c0 c1 c2 c3:Value} (h:w.heap[g]?=some (.cells #[c0,c1,c2,c3] t f)):w.cell? ⟨g,0,none⟩=some c0 /\ w.cell? ⟨g,1,none⟩=some c1 /\ w.cell? ⟨g,2,none⟩=some c2 /\ w.cell? ⟨g,3,none⟩=some c3:=⟨cz h 0 rfl,cz h 1 rfl,cz h 2 rfl,cz h 3 rfl⟩
theorem cs5 {w:World} {g t:Nat} {f:Nat×Nat} {c0 c1 c2 c3 c4:Value} (h:w.heap[g]?=some (.cells #[c0,c1,c2,c3,c4] t f)):w.cell? ⟨g,0,none⟩=some c0 /\ w.cell? ⟨g,1,none⟩=some c1 /\ w.cell? ⟨g,2,none⟩=some c2 /\ w.cell? ⟨g,3,none⟩=some c3 /\ w.cell? ⟨g,4,none⟩=some c4:=⟨cz h 0 rfl,cz h 1 rfl,cz h 2 rfl,cz h 3 rfl,cz h 4 rfl⟩
theorem ru {w:World} {g t:Nat} {f:Nat×Nat} {c0 c1 c2 c3 c4 c5 c6 c7 c8 c9:Value} (h:w.heap[g]?=some (.cells #[c0,c1,c2,c3,c4,c5,c6,c7,c8,c9] t f)):w.cell? ⟨g,0,none⟩=some c0 /\ w.cell? ⟨g,1,none⟩=some c1 /\ w.cell? ⟨g,2,none⟩=some c2 /\ w.cell? ⟨g,3,none⟩=some c3 /\ w.cell? ⟨g,4,none⟩=some c4 /\ w.cell? ⟨g,5,none⟩=some c5 /\ w.cell? ⟨g,6,none⟩=some c6 /\ w.cell? ⟨g,7,none⟩=some c7 /\ w.cell? ⟨g,8,none⟩=some c8 /\ w.cell? ⟨g,9,none⟩=some c9:=⟨cz h 0 rfl,cz h 1 rfl,cz h 2 rfl,cz h 3 rfl,cz h 4 rfl,cz h 5 rfl,cz h 6 rfl,cz h 7 rfl,cz h 8 rfl,cz h 9 rfl⟩
end Go.Proofs.ah.cY
namespace Go.Proofs.ah.bT
open Go.RowKit Go.Proofs.ah.cY
theorem Kd.rz {α:Type} {d:Kd α} {e:TypeId} {W W0:World} {base:Nat} {ok:Nat ->Prop} {v:Value} {xs:List α} (H:aa (d.R e W0 base ok v xs)) (h:d.R e W0 base ok v xs ->d.R e W base ok v xs:=by (intro h_;(with_reducible repeat (first|apply Kd.fg|apply Kd.eV|apply Kd.fj));exact h_)):d.R e W base ok v xs:=h H.out
end Go.Proofs.ah.bT
namespace Go.Proofs.Ytkmimamminddiaa.PB
open Go.RowKit Go.Proofs.ah.bT Go.Proofs.ah.cY Go.Proofs.ah.iw
attribute [local go_sem] dI dJ eI eJ cO cP dK dL
def cA.f (l0:List Int):Option (List Int):=if l0.length<140737488355328 then some l0 else none
theorem cA.calls (A0:Option Addr) (c0:Nat) (l0:List Int) (r:List Int) (w:World) (hr0:Kd.C (Kd.int .u8) w A0 l0.length l0) (hc0:l0.length<=c0) (h:cA.f l0=some r):
    Calls Try.prog 97 #[.slice A0 l0.length c0] w fun e w'=>∃ oW:Value,e= .returned (oW) /\ Kd.R (Kd.int .u8) 5 w' w.heap.size (fun _=>True) oW r /\ Below w.heap.size w w':=by
  unfold cA.f at h
  by_cases c7:l0.length<140737488355328
  rotate_left
  · rw [av c7] at h
    cases h
  rw [aq c7] at h
  obtain rfl:=cN h;clear h;have Gp:=aa.mk c7;clear c7;have gj:=aa.mk hr0;have jx:=aa.mk hc0;clear hr0 hc0;have HB:=gI w
  cases A0 with
  |none=>
    have e:=Bw gj.out;subst e;have hq:=fun (W:World) (n c:Nat)=>Go.Lib.run_eql_slice_nil (P:=Try.prog) W 23 5 none n c 0 0 Try.underlying23
    go_enter Try.func97,Try.ntmps97
    go_wp2
    go_ret
    exact ⟨_,rfl,Kd.bX _ _ _ _ _,Below.refl _ _⟩
  |some ad=>
    have hq:=fun (W:World) (n c:Nat)=>Go.Lib.run_eql_slice_nil (P:=Try.prog) W 23 5 (some ad) n c 0 0 Try.underlying23
    go_enter Try.func97,Try.ntmps97
    have HO1:aa (Kd.R (Kd.int .u8) 5 (w.alloc (.cells #[] 5)) w.heap.size (fun _=>True) (.slice (some ⟨w.heap.size,0,none⟩) 0 0) ([]:List Int)):=⟨zJ w .u8 5⟩
    have Rb:aa (Below w.heap.size w (w.alloc (.cells #[] 5))):=⟨dV HB.out _⟩
    go_wp2_with (first
     |((with_reducible refine fB (b:= .append) (xs:= #[.tmp 5,.tmp 6]) rfl ?_);at_builtin;refine Kd.gz (Kd.int .u8) (w0:=w) w.heap.size rfl (.tmp 5) (.tmp 6) 23 5 (.int .u8 0) 1 rfl Try.underlying23 fY rfl (by decide) (by omega) (.slice (some ⟨w.heap.size,0,none⟩) 0 0) ([]:List Int) l0 _ _ _ (fun _=>True) (fun _=>False) rfl rfl ?aO ?aR (fun _ _ h=>h) (fun _ h=>h.elim) ?aF ?aB ?aS ?aL ?_;(case aR=>exact Kd.aW gj.out Rb.out);(case aB=>exact Rb.out);(case aF=>exact (fun _ _=>trivial));(case aO=>exact HO1.out);(case aS=>exact (af Rb.out));(case aL=>have:=Gp.out;simp;omega);intro v2 w2 ho hb hg hat;clear hg hat;have HB2:=aa.mk hb;have XS:=aa.mk ho;clear hb ho))
    go_ret
    exact ⟨_,rfl,by simpa using XS.out,HB2.out⟩
attribute [local go_sem] dI dJ eI eJ cO cP dK dL
def kG.f (l0:List Int):Option (Int):=if 0<(l0.length:Int) then (if 1<(l0.length:Int) then (some (Go.bits .or .u16 (IntKind.u16.wrap ((IntKind.u16.wrap (rd l0 0))*256)) (IntKind.u16.wrap (rd l0 1)))) else (none)) else (none)
theorem kG.calls (A0:Option Addr) (c0:Nat) (l0:List Int) (r:Int) (w:World) (hr0:Kd.C (Kd.int .u8) w A0 l0.length l0) (hc0:l0.length<=c0) (h:kG.f l0=some r):
  Calls Try.prog 130 #[.slice A0 l0.length c0] w fun e w'=>e= .returned (.int .u16 r) /\ bB w w':=by
 have gj:=aa.mk hr0;have jx:=aa.mk hc0;clear hr0 hc0;have H:(if 0<(l0.length:Int) then (if 1<(l0.length:Int) then (some (Go.bits .or .u16 (IntKind.u16.wrap ((IntKind.u16.wrap (rd l0 0))*256)) (IntKind.u16.wrap (rd l0 1)))) else (none)) else (none))=some r:=h;clear h
 by_cases c2:0<(l0.length:Int)
 rotate_left
 ·rw [av c2] at H
  cases H
 rw [aq c2] at H
 have j4:decide (0<(l0.length:Int))=true:=bN c2;have mq:decide (0<l0.length)=true:=bN (by omega);clear c2
 by_cases c3:1<(l0.length:Int)
 rotate_left
 ·rw [av c3] at H
  cases H
 rw [aq c3] at H
 have oJ:decide (1<(l0.length:Int))=true:=bN c3;have qI:decide (1<l0.length)=true:=bN (by omega);clear c3;obtain rfl:=cN H;have Aau:0<=(0:Int):=(by omega)
 have Aav:0<(l0.length:Int):=gA;obtain ⟨AeS,Ana,M7⟩:=Kd.dG gj.out 0 Aau Aav
 cases Ana
 have ArA:(0<l0.length)=True:=eq_true (by omega)
 (try rw [show ((0:Int)).toNat=0 from rfl] at M7)
 (try rw [Addr.add_zero'] at M7)
 replace Aau:=eq_true Aau;replace Aav:=eq_true Aav;have Aaw:0<=(1:Int):=(by omega)
 have Aax:1<(l0.length:Int):=gA;obtain ⟨AeT,Anb,M8⟩:=Kd.dG gj.out 1 Aaw Aax;obtain rfl:AeS=AeT:=(by injection Anb)
 (try simp only [show (1:Int).toNat=1 from rfl,Nat.reduceMul,Nat.reduceEqDiff,Go.Addr.add,↓reduceIte] at M8)
 have ArB:(1<l0.length)=True:=eq_true (by omega)
 (try rw [show ((1:Int)).toNat=1 from rfl] at M8)
 replace Aaw:=eq_true Aaw;replace Aax:=eq_true Aax
 go_enter Try.func130,Try.ntmps130
 go_wp2
 repeat (go_quiet (fail);try go_wp2)
 go_ret
 exact ⟨by first|rfl|(simp;done)|(simp [*];done),by repeat (first|exact bB.refl _|apply bB.step)⟩
def pJ.f (l0:List Int):Option (Int):=if 4<=l0.length then ((kG.f ((l0.take 2).drop 0)).bind fun t1=>(kG.f ((l0.take 4).drop 2)).bind fun t2=>some (Go.bits .or .u32 (((t1 % 4294967296)*65536) % 4294967296) (t2 % 4294967296))) else none
theorem pJ.calls (A0:Option Addr) (c0:Nat) (l0:List Int) (r:Int) (w:World) (hr0:Kd.C (Kd.int .u8) w A0 l0.length l0) (hc0:l0.length<=c0) (h:pJ.f l0=some r):
  Calls Try.prog 131 #[.slice A0 l0.length c0] w fun e w'=>e= .returned (.int .u32 r) /\ bB w w':=by
 unfold pJ.f at h
 by_cases c4:4<=l0.length
 rotate_left
 ·rw [av c4] at h
  cases h
 rw [aq c4] at h
 obtain ⟨t1,A1,h⟩:=dc h;obtain ⟨t2,A2,h⟩:=dc h;obtain rfl:=cN h;clear h;obtain ⟨i0,Iq,_,hsz,_⟩:=info_parts fY;obtain ⟨B1,M9,hA1,hC1⟩:=iY (P:=Try.prog) (Value.int .u8) 0 23 5 .i64 .i64 .i64 Try.underlying23 Iq hsz A0 c0 l0 0 2 (by omega) (by omega) (by omega) hc0;obtain ⟨B2,Fy,hA2,hC2⟩:=iY (P:=Try.prog) (Value.int .u8) 0 23 5 .i64 .i64 .i64 Try.underlying23 Iq hsz A0 c0 l0 2 4 (by omega) (by omega) (by omega) hc0;have e1:((l0.take (2:Int).toNat).drop (0:Int).toNat).length=2:=by rw [List.length_drop,List.length_take];simp;omega
 have e2:((l0.take (4:Int).toNat).drop (2:Int).toNat).length=2:=by rw [List.length_drop,List.length_take];simp;omega
 have r1:=Kd.dH (h1:=fun _=>rfl) (hA1 _ (Kd.dw hr0));have r2:=Kd.dH (h1:=fun _=>rfl) (hA2 _ (Kd.dw hr0))
 have T1:∀ n,Calls Try.prog 130 #[.slice B1 2 2] (w.drewN n) fun e w'=>e= .returned (.int .u16 t1) /\ bB (w.drewN n) w':=fun n=>by
  have:=kG.calls B1 2 _ t1 (w.drewN n) (Kd.fz r1 n) (by rw [e1];exact Nat.le_refl _) A1;rw [e1] at this
  exact this
 have T2:∀ n,Calls Try.prog 130 #[.slice B2 2 2] (w.drewN n) fun e w'=>e= .returned (.int .u16 t2) /\ bB (w.drewN n) w':=fun n=>by
  have:=kG.calls B2 2 _ t2 (w.drewN n) (Kd.fz r2 n) (by rw [e2];exact Nat.le_refl _) A2;rw [e2] at this
  exact this
 rw [e1] at M9
 rw [e2] at Fy
 replace M9:∀ W:World,(Instr.slice 23 (.slice A0 l0.length c0) (some (.int .i64 0)) (some (.int .i64 2)) (some (.int .i64 2))).run Try.prog W= .ok (.slice B1 2 2) W:=M9;replace Fy:∀ W:World,(Instr.slice 23 (.slice A0 l0.length c0) (some (.int .i64 2)) (some (.int .i64 4)) (some (.int .i64 4))).run Try.prog W= .ok (.slice B2 2 2) W:=Fy;have H1:=aa.mk T1;have H2:=aa.mk T2;clear T1 T2 e1 e2 r1 r2 hA1 hA2 hC1 hC2 A1 A2 hr0 Iq hsz
 go_enter Try.func131,Try.ntmps131
 go_wp2_with fail
 go_quiet ((first
  |(go_at_call 130;(with_reducible refine (H1.out _).mono ?_);rintro e w' ⟨rfl,⟨nd,rfl⟩⟩;exact ⟨rfl,_,rfl⟩)
  |(go_at_call 130;(with_reducible refine (H2.out _).mono ?_);rintro e w' ⟨rfl,⟨nd,rfl⟩⟩;exact ⟨rfl,_,rfl⟩)
  |(go_at_call 130;(with_reducible refine (H1.out _).mono ?_);rintro e w' ⟨rfl,⟨nd,rfl⟩⟩;exact ⟨rfl,_,World.drewN_drewN _ _ _⟩)
  |(go_at_call 130;(with_reducible refine (H2.out _).mono ?_);rintro e w' ⟨rfl,⟨nd,rfl⟩⟩;exact ⟨rfl,_,World.drewN_drewN _ _ _⟩)
  |(go_at_call 130;(with_reducible refine (H1.out _).mono ?_);rintro e w' ⟨rfl,⟨nd,rfl⟩⟩;exact ⟨rfl,_,Eq.trans (World.drewN_drewN _ _ _) (congrArg (World.drewN _) (Nat.add_assoc _ _ _))⟩)
  |(go_at_call 130;(with_reducible refine (H2.out _).mono ?_);rintro e w' ⟨rfl,⟨nd,rfl⟩⟩;exact ⟨rfl,_,Eq.trans (World.drewN_drewN _ _ _) (congrArg (World.drewN _) (Nat.add_assoc _ _ _))⟩)))
 go_wp2
 go_ret
 exact ⟨by first|rfl|(simp;done)|(simp [*];done),by repeat (first|exact bB.refl _|apply bB.step)⟩
def nT.f (l0:List Int):Option (Int×Int×Int×Int×Int×Int×Int×Int×List Int×List Int×Int):=if (l0.length:Int)<20 then (some (0,0,0,0,0,0,0,0,([]:List Int),([]:List Int),20)) else (if 12<(l0.length:Int) then (if (wrap64 (4*(wrap64 ((rd l0 12) / 16))))<20 then (some (0,0,0,0,0,0,0,0,([]:List Int),([]:List Int),21)) else (if (l0.length:Int)<(wrap64 (4*(wrap64 ((rd l0 12) / 16)))) then (some (0,0,0,0,0,0,0,0,([]:List Int),([]:List Int),20)) else (if 2<=(l0.length:Int) then ((kG.f ((l0.take 2).drop 0)).bind fun Anc=>(if 4<=(l0.length:Int) then ((kG.f ((l0.take 4).drop 2)).bind fun Ane=>(if 8<=(l0.length:Int) then ((pJ.f ((l0.take 8).drop 4)).bind fun Anf=>(if 12<=(l0.length:Int) then ((pJ.f ((l0.take 12).drop 8)).bind fun Ang=>(if 13<(l0.length:Int) then (if 16<=(l0.length:Int) then ((kG.f ((l0.take 16).drop 14)).bind fun Anh=>(if 18<=(l0.length:Int) then ((kG.f ((l0.take 18).drop 16)).bind fun Ani=>(if 20<=(l0.length:Int) then ((kG.f ((l0.take 20).drop 18)).bind fun Anj=>(if 20<=(wrap64 (4*(wrap64 ((rd l0 12) / 16)))) then (if (wrap64 (4*(wrap64 ((rd l0 12) / 16))))<=(l0.length:Int) then ((cA.f ((l0.take ((wrap64 (4*(wrap64 ((rd l0 12) / 16)))):Int).toNat).drop 20)).bind fun Ank=>(if 0<=(wrap64 (4*(wrap64 ((rd l0 12) / 16)))) then ((cA.f (l0.drop ((wrap64 (4*(wrap64 ((rd l0 12) / 16)))):Int).toNat)).bind fun Anl=>(some (Anc,Ane,Anf,Ang,rd l0 13,Anh,Ani,Anj,Ank,Anl,0))) else (none))) else (none)) else (none))) else (none))) else (none))) else (none)) else (none))) else (none))) else (none))) else (none))) else (none)))) else (none))
theorem wQ {w:World} {A:Option Addr} {c:Nat} {l:List Int} (hC:Kd.C (Kd.int .u8) w A l.length l) (hc:l.length<=c) (a b:Int) (h0:0<=a) (h1:a<=b) (h2:b<=(l.length:Int)):∃ (A':Option Addr) (m:Nat),(∀ W:World,(Instr.slice 23 (.slice A l.length c) (some (.int .i64 a)) (some (.int .i64 b)) (some (.int .i64 b))).run Try.prog W= .ok (.slice A' ((l.take b.toNat).drop a.toNat).length m) W) /\ Kd.C (Kd.int .u8) w A' ((l.take b.toNat).drop a.toNat).length ((l.take b.toNat).drop a.toNat) /\ ((l.take b.toNat).drop a.toNat).length<=m:=by
 obtain ⟨i,hi,_,hs,_⟩:=info_parts fY;obtain ⟨A',e1,e2,e3⟩:=iY (P:=Try.prog) (Value.int .u8) 0 23 5 .i64 .i64 .i64 Try.underlying23 hi hs A c l a b h0 h1 h2 hc;exact ⟨A',_,e1,Kd.dH (h1:=fun _=>rfl) (e2 _ (Kd.dw hC)),e3⟩
theorem VE {w:World} {A:Option Addr} {c:Nat} {l:List Int} (hC:Kd.C (Kd.int .u8) w A l.length l) (hc:l.length<=c) (a:Int) (h0:0<=a) (h2:a<=(l.length:Int)):∃ (A':Option Addr) (m:Nat),(∀ W:World,(Instr.slice 23 (.slice A l.length c) (some (.int .i64 a)) none none).run Try.prog W= .ok (.slice A' (l.drop a.toNat).length m) W) /\ Kd.C (Kd.int .u8) w A' (l.drop a.toNat).length (l.drop a.toNat) /\ (l.drop a.toNat).length<=m:=by
 obtain ⟨i,hi,_,hs,_⟩:=info_parts fY;obtain ⟨A',e1,e2,e3⟩:=fS (P:=Try.prog) (Value.int .u8) 0 23 5 .i64 Try.underlying23 hi hs A c l a h0 h2 hc;exact ⟨A',_,e1,Kd.dH (h1:=fun _=>rfl) (e2 _ (Kd.dw hC)),e3⟩
theorem tA {o:Oper} {ev:Operand ->Value} {W:World} {x lo hi mx:Operand} {vx vl vh vm r:Value} (ho:o.op= .slice 23 x (some lo) (some hi) (some mx)) (hx:ev x=vx) (hl:ev lo=vl) (hh:ev hi=vh) (hm:ev mx=vm) (h:(Instr.slice 23 vx (some vl) (some vh) (some vm)).run Try.prog W= .ok r W):(execOp ev o).run Try.prog W= .ok (.value r) W:=by
 have hu:=Try.underlying23;unfold execOp;simp only [ho,Option.map_some,Option.map_none,hx,hl,hh,hm]
 simp [Instr.sliceAt,underlying,hu,h,Sem.run_bind,Result.andThen]
theorem VF {o:Oper} {ev:Operand ->Value} {W:World} {x lo:Operand} {vx vl r:Value} (ho:o.op= .slice 23 x (some lo) none none) (hx:ev x=vx) (hl:ev lo=vl) (h:(Instr.slice 23 vx (some vl) none none).run Try.prog W= .ok r W):(execOp ev o).run Try.prog W= .ok (.value r) W:=by
 have hu:=Try.underlying23;unfold execOp;simp only [ho,Option.map_some,Option.map_none,hx,hl]
 simp [Instr.sliceAt,underlying,hu,h,Sem.run_bind,Result.andThen]
theorem sj {b:Nat} {w w1 w2:World} (h:Below b w w1) (d:bB w1 w2):Below b w w2:=by
 obtain ⟨nd,rfl⟩:=d;exact dS h nd
def OW.R8.T:Bool×List (List Nat×List Nat):=(true,[([],[]),([0],[0]),([1],[1]),([],[]),([3],[3]),([4,2],[4]),([],[]),([6],[6]),([7,5],[7]),([],[]),([9],[9]),([10,8],[10]),([],[]),([12],[12]),([13],[13]),([],[]),([15],[15]),([16,11],[16]),([],[]),([18],[18]),([19,17],[19]),([],[]),([21],[21]),([22,20],[22]),([],[]),([],[]),([],[]),([24,25,26],[24,25,26]),([27,23],[27]),([],[]),([],[]),([29,30],[29,30]),([31,28],[31]),([2,5,8,11,14,17,20,23,28,32],[2,5,8,11,14,17,20,23,28,32]),([33,32,0,1,2,3,4,5,6,7,8,9,10,11,12,13,14,15,16,17,18,19,20,21,22,23,24,25,26,27,28,29,30,31,32,33],[33]),([34,0,1,2,3,4,5,6,7,8,9,10,11,12,13,14,15,16,17,18,19,20,21,22,23,24,25,26,27,28,29,30,31,32,33,34],[])])
theorem OW.R8.tab:gB .any (opsOf Try.f122 8)=OW.R8.T:=by kernel_rfl
theorem OW.R8.bits:cS OW.R8.T.2 [0,1,3,0,8,31,0,64,255,0,512,2047,0,4096,12288,0,32768,102399,0,262144,1019903,0,2097152,8359935,0,0,0,117440512,268406783,0,0,1610612736,4294938623,8589934591,17179869183,34359738367]=true:=by kernel_rfl
theorem nT.Aay (A:Option Addr) (c:Nat) (l:List Int) (r1 r2 r3 r4 r5 r6 r7 r8:Int) (r9 uL:List Int) (Ct:Int) (w:World) (hC:Kd.C (Kd.int .u8) w A l.length l) (hL:l.length<=c) (h:nT.f l=some (r1,r2,r3,r4,r5,r6,r7,r8,r9,uL,Ct)):
  Calls Try.prog 122 #[.slice A l.length c] w fun e w'=>∃ v8 v9:Value,e= .returned (.tuple #[.agg #[.int .u16 r1,.int .u16 r2,.int .u32 r3,.int .u32 r4,.int .u8 r5,.int .u16 r6,.int .u16 r7,.int .u16 r8,v8,v9],.int .i64 Ct]) /\ Kd.R (Kd.int .u8) 5 w' w.heap.size (fun _=>True) v8 r9 /\ Kd.R (Kd.int .u8) 5 w' w.heap.size (fun _=>True) v9 uL /\ Below w.heap.size w w':=by
 have HB:=gI w;have mz:aa ((Try.prog.info? 137).map (·.size)=some 10):=⟨by kernel_rfl⟩
 have H:nT.f l=some (r1,r2,r3,r4,r5,r6,r7,r8,r9,uL,Ct):=h;clear h;unfold nT.f at H
 by_cases c1:(l.length:Int)<20
 ·have c1a:decide ((l.length:Int)<20)=true:=bN c1
  have c1b:decide (l.length<20)=true:=bN (by omega);rw [aq c1] at H
  clear c1;simp only [Option.some.injEq,Prod.mk.injEq] at H
  obtain ⟨rfl,rfl,rfl,rfl,rfl,rfl,rfl,rfl,rfl,rfl,rfl⟩:=H
  go_enter Try.func122,Try.ntmps122
  go_wp2_with (first|((with_reducible refine aA (N:=2) rfl ?_);refine aC ?fT (N:=2) ?iB (cs:=qf) (t:=137) ?eY ?_;(case iB=>rfl);(case fT=>rfl);(case eY=>first|(go_simp;done)|(go_simp;rfl));intro gp bV w1 bw cB;have Lo:=aa.mk (show w.heap.size<=gp by rw [bV];exact af HB.out);have wC:=aa.mk bw;have ai:=cB;replace HB:=mB HB ai;clear ai;clear bV bw cB)|((refine dh rfl rfl rfl rfl rfl wC.out mz.out rfl (by simp [Value.oneCell']) ?_);intro w2 hs_ ag;replace HB:=oB ag HB Lo;clear ag;replace wC:=aa.mk hs_;clear hs_))
  (try simp only [Exit.inBlock,Exit.then])
  refine bodyPost_ret (fG rfl _ _ gp 137 qf (0,0) _ rfl wC.out Try.underlying137 rfl mz.out) rfl ?_;exact ⟨_,_,rfl,Kd.bX _ _ _ _ _,Kd.bX _ _ _ _ _,HB.out⟩
 have c1a:decide ((l.length:Int)<20)=false:=gN c1
 have c1b:decide (l.length<20)=false:=gN (by omega);rw [av c1,aq (show (12:Int)<(l.length:Int) by omega)] at H
 obtain ⟨ad0,hA0,IW⟩:=Kd.dG hC 12 (by omega) (by omega);have AaA:w.cell? (ad0.add 12)=some (.int .u8 (rd l 12)):=by simpa using IW
 have AaB:=aa.mk (dF _ _ AaA);obtain ⟨hd,hhd⟩:∃ hd,(wrap64 (4*wrap64 (rd l 12 / 16)))=hd:=⟨_,rfl⟩
 rw [hhd] at H
 have HWD:=aa.mk hhd;have H12:=aa.mk AaA;have AaC:aa (((12:Int)<(l.length:Int))=True):=⟨eq_true (by omega)⟩
 have AaD:aa ((12<l.length)=True):=⟨eq_true (by omega)⟩
 clear IW AaA hhd
 by_cases c2:hd<20
 ·have c2a:decide (hd<20)=true:=bN c2
  rw [aq c2] at H
  clear c2;subst hA0;simp only [Option.some.injEq,Prod.mk.injEq] at H
  obtain ⟨rfl,rfl,rfl,rfl,rfl,rfl,rfl,rfl,rfl,rfl,rfl⟩:=H
  go_enter Try.func122,Try.ntmps122
  go_upto_region 3 with (((with_reducible refine aA (N:=2) rfl ?_);refine aC ?fT (N:=2) ?iB (cs:=qf) (t:=137) ?eY ?_;(case iB=>rfl);(case fT=>rfl);(case eY=>first|(go_simp;done)|(go_simp;rfl));intro gp bV w1 bw cB;have Lo:=aa.mk (show w.heap.size<=gp by rw [bV];exact af HB.out);have wC:=aa.mk bw;have ai:=cB;replace HB:=mB HB ai;clear ai;clear bV bw cB))
  have z12:=(HB.out.cell AaB.out).trans H12.out;have OX:=z12;simp only [Go.Addr.add,Nat.reduceEqDiff,↓reduceIte] at OX
  have AaE:=AaC.out;have AaF:=AaD.out;have hWd:=HWD.out
  go_wp2_with (((refine dh rfl rfl rfl rfl rfl wC.out mz.out rfl (by simp [Value.oneCell']) ?_);intro w2 hs_ ag;replace HB:=oB ag HB Lo;clear ag;replace wC:=aa.mk hs_;clear hs_))
  (try simp only [Exit.inBlock,Exit.then])
  refine bodyPost_ret (fG rfl _ _ gp 137 qf (0,0) _ rfl wC.out Try.underlying137 rfl mz.out) rfl ?_;exact ⟨_,_,rfl,Kd.bX _ _ _ _ _,Kd.bX _ _ _ _ _,HB.out⟩
 have c2a:decide (hd<20)=false:=gN c2
 rw [av c2] at H
 by_cases c3:(l.length:Int)<hd
 ·have c3a:decide ((l.length:Int)<hd)=true:=bN c3
  rw [aq c3] at H
  clear c2 c3;subst hA0;simp only [Option.some.injEq,Prod.mk.injEq] at H
  obtain ⟨rfl,rfl,rfl,rfl,rfl,rfl,rfl,rfl,rfl,rfl,rfl⟩:=H
  go_enter Try.func122,Try.ntmps122
  go_upto_region 3 with (((with_reducible refine aA (N:=2) rfl ?_);refine aC ?fT (N:=2) ?iB (cs:=qf) (t:=137) ?eY ?_;(case iB=>rfl);(case fT=>rfl);(case eY=>first|(go_simp;done)|(go_simp;rfl));intro gp bV w1 bw cB;have Lo:=aa.mk (show w.heap.size<=gp by rw [bV];exact af HB.out);have wC:=aa.mk bw;have ai:=cB;replace HB:=mB HB ai;clear ai;clear bV bw cB))
  have z12:=(HB.out.cell AaB.out).trans H12.out;have OX:=z12;simp only [Go.Addr.add,Nat.reduceEqDiff,↓reduceIte] at OX
  have AaE:=AaC.out;have AaF:=AaD.out;have hWd:=HWD.out
  go_wp2_with (((refine dh rfl rfl rfl rfl rfl wC.out mz.out rfl (by simp [Value.oneCell']) ?_);intro w2 hs_ ag;replace HB:=oB ag HB Lo;clear ag;replace wC:=aa.mk hs_;clear hs_))
  (try simp only [Exit.inBlock,Exit.then])
  refine bodyPost_ret (fG rfl _ _ gp 137 qf (0,0) _ rfl wC.out Try.underlying137 rfl mz.out) rfl ?_;exact ⟨_,_,rfl,Kd.bX _ _ _ _ _,Kd.bX _ _ _ _ _,HB.out⟩
 have c3a:decide ((l.length:Int)<hd)=false:=gN c3
 rw [av c3] at H
 rw [aq (show (2:Int)<=(l.length:Int) by omega)] at H
 obtain ⟨t1,hq0,H⟩:=bR H;obtain ⟨B0,m0,s0,d0,n0⟩:=wQ hC hL 0 2 (by omega) (by omega) (by omega);have K0:=aa.mk s0;have D0:=aa.mk d0;have N0:=aa.mk n0;have Q0:=aa.mk hq0;clear s0 d0 n0 hq0;rw [aq (show (4:Int)<=(l.length:Int) by omega)] at H
 obtain ⟨t2,hq1,H⟩:=bR H;obtain ⟨B1,m1,s1,d1,n1⟩:=wQ hC hL 2 4 (by omega) (by omega) (by omega);have K1:=aa.mk s1;have D1:=aa.mk d1;have N1:=aa.mk n1;have Q1:=aa.mk hq1;clear s1 d1 n1 hq1;rw [aq (show (8:Int)<=(l.length:Int) by omega)] at H
 obtain ⟨t3,hq2,H⟩:=bR H;obtain ⟨B2,m2,s2,d2,n2⟩:=wQ hC hL 4 8 (by omega) (by omega) (by omega);have K2:=aa.mk s2;have D2:=aa.mk d2;have N2:=aa.mk n2;have Q2:=aa.mk hq2;clear s2 d2 n2 hq2;rw [aq (show (12:Int)<=(l.length:Int) by omega)] at H
 obtain ⟨t4,hq3,H⟩:=bR H;obtain ⟨B3,m3,s3,d3,n3⟩:=wQ hC hL 8 12 (by omega) (by omega) (by omega);have K3:=aa.mk s3;have D3:=aa.mk d3;have N3:=aa.mk n3;have Q3:=aa.mk hq3;clear s3 d3 n3 hq3;rw [aq (show (13:Int)<(l.length:Int) by omega)] at H
 rw [aq (show (16:Int)<=(l.length:Int) by omega)] at H
 obtain ⟨t5,hq4,H⟩:=bR H;obtain ⟨B4,m4,s4,d4,n4⟩:=wQ hC hL 14 16 (by omega) (by omega) (by omega);have K4:=aa.mk s4;have D4:=aa.mk d4;have N4:=aa.mk n4;have Q4:=aa.mk hq4;clear s4 d4 n4 hq4;rw [aq (show (18:Int)<=(l.length:Int) by omega)] at H
 obtain ⟨t6,hq5,H⟩:=bR H;obtain ⟨B5,m5,s5,d5,n5⟩:=wQ hC hL 16 18 (by omega) (by omega) (by omega);have K5:=aa.mk s5;have D5:=aa.mk d5;have N5:=aa.mk n5;have Q5:=aa.mk hq5;clear s5 d5 n5 hq5;rw [aq (show (20:Int)<=(l.length:Int) by omega)] at H
 obtain ⟨t7,hq6,H⟩:=bR H;obtain ⟨B6,m6,s6,d6,n6⟩:=wQ hC hL 18 20 (by omega) (by omega) (by omega);have K6:=aa.mk s6;have D6:=aa.mk d6;have N6:=aa.mk n6;have Q6:=aa.mk hq6;clear s6 d6 n6 hq6;rw [aq (show 20<=hd by omega),aq (show hd<=(l.length:Int) by omega)] at H
 obtain ⟨x,hqx,H⟩:=bR H;rw [aq (show 0<=hd by omega)] at H
 obtain ⟨y,hqy,H⟩:=bR H;simp only [Option.some.injEq,Prod.mk.injEq] at H
 obtain ⟨rfl,rfl,rfl,rfl,rfl,rfl,rfl,rfl,rfl,rfl,rfl⟩:=H;obtain ⟨B7,m7,s7,d7,n7⟩:=wQ hC hL 20 hd (by omega) (by omega) (by omega);obtain ⟨B8,m8,s8,d8,n8⟩:=VE hC hL hd (by omega) (by omega);obtain ⟨ad,hA,h13⟩:=Kd.dG hC 13 (by omega) (by omega);subst hA;have VG:w.cell? (ad.add 13)=some (.int .u8 (rd l 13)):=by simpa using h13
 simp only [Go.Addr.add,Nat.reduceEqDiff,↓reduceIte] at VG
 have K7:=aa.mk s7;have D7:=aa.mk d7;have N7:=aa.mk n7;have K8:=aa.mk s8;have D8:=aa.mk d8;have N8:=aa.mk n8;have Q7:=aa.mk hqx;have Q8:=aa.mk hqy;have Rc:=aa.mk VG;have Rd:=aa.mk (dF _ _ VG);have z13:((13:Int)<(l.length:Int))=True:=eq_true (by omega);have Avi:(13<l.length)=True:=eq_true (by omega);clear s7 d7 n7 s8 d8 n8 hqx hqy h13 VG;obtain rfl:ad=ad0:=by injection hA0
 clear hA0 c1 c2 c3
 go_enter Try.func122,Try.ntmps122
 go_upto_region 3 with (((with_reducible refine aA (N:=2) rfl ?_);refine aC ?fT (N:=2) ?iB (cs:=qf) (t:=137) ?eY ?_;(case iB=>rfl);(case fT=>rfl);(case eY=>first|(go_simp;done)|(go_simp;rfl));intro gp bV w1 bw cB;have Lo:=aa.mk (show w.heap.size<=gp by rw [bV];exact af HB.out);have wC:=aa.mk bw;have ai:=cB;replace HB:=mB HB ai;clear ai;clear bV bw cB))
 have z12:=(HB.out.cell AaB.out).trans H12.out;have OX:=z12;simp only [Go.Addr.add,Nat.reduceEqDiff,↓reduceIte] at OX
 have AaE:=AaC.out;have AaF:=AaD.out;have hWd:=HWD.out
 go_upto_region 8 with (fail)
 clear z12 OX AaE AaF hWd;rw [HWD.out];refine dB (n:=36) (S:=fun w'=>w'.cell? ⟨ad.block,ad.off+13,none⟩=some (.int .u8 (rd l 13))) (ds:=[]) #[false,false,false,false,false,false,false,false,false,false,false,false,false,false,false,false,false,false,false,false,false,false,false,false,false,false,false,false,false,false,false,false,false,false,false,false] (by kernel_rfl) rfl rfl ((HB.out.cell Rd.out).trans Rc.out) (fun hHeld=> ?_);refine bF OW.R8.tab OW.R8.bits (fun ax eu=> ?_);have ai:=bf (Below.refl w1.heap.size w1);replace HB:=mB HB ai;replace wC:=mX wC ai;clear ai;generalize w1.drew=w2 at HB wC hHeld|-
 refine pz 0 25 ax ?_;refine pv 1 26 (.slice B0 ((l.take (2:Int).toNat).drop (0:Int).toNat).length m0) ax ?_ ?_
 ·intro w'
  exact tA (vx:= .slice (some ad) l.length c) (vl:= .int .i64 0) (vh:= .int .i64 2) (vm:= .int .i64 2) (by rfl) (by rfl) (by rfl) (by rfl) (by rfl) (K0.out w')
 refine nz 26 ?_;refine pz 3 28 ax ?_;refine pv 4 29 (.slice B1 ((l.take (4:Int).toNat).drop (2:Int).toNat).length m1) ax ?_ ?_
 ·intro w'
  exact tA (vx:= .slice (some ad) l.length c) (vl:= .int .i64 2) (vh:= .int .i64 4) (vm:= .int .i64 4) (by rfl) (by rfl) (by rfl) (by rfl) (by rfl) (K1.out w')
 refine nz 29 ?_;refine pz 6 31 ax ?_;refine pv 7 32 (.slice B2 ((l.take (8:Int).toNat).drop (4:Int).toNat).length m2) ax ?_ ?_
 ·intro w'
  exact tA (vx:= .slice (some ad) l.length c) (vl:= .int .i64 4) (vh:= .int .i64 8) (vm:= .int .i64 8) (by rfl) (by rfl) (by rfl) (by rfl) (by rfl) (K2.out w')
 refine nz 32 ?_;refine pz 9 34 ax ?_;refine pv 10 35 (.slice B3 ((l.take (12:Int).toNat).drop (8:Int).toNat).length m3) ax ?_ ?_
 ·intro w'
  exact tA (vx:= .slice (some ad) l.length c) (vl:= .int .i64 8) (vh:= .int .i64 12) (vm:= .int .i64 12) (by rfl) (by rfl) (by rfl) (by rfl) (by rfl) (K3.out w')
 refine nz 35 ?_;refine pz 12 37 ax ?_;refine pz 13 38 ax ?_;refine pz 15 40 ax ?_;refine pv 16 41 (.slice B4 ((l.take (16:Int).toNat).drop (14:Int).toNat).length m4) ax ?_ ?_
 ·intro w'
  exact tA (vx:= .slice (some ad) l.length c) (vl:= .int .i64 14) (vh:= .int .i64 16) (vm:= .int .i64 16) (by rfl) (by rfl) (by rfl) (by rfl) (by rfl) (K4.out w')
 refine nz 41 ?_;refine pz 18 43 ax ?_;refine pv 19 44 (.slice B5 ((l.take (18:Int).toNat).drop (16:Int).toNat).length m5) ax ?_ ?_
 ·intro w'
  exact tA (vx:= .slice (some ad) l.length c) (vl:= .int .i64 16) (vh:= .int .i64 18) (vm:= .int .i64 18) (by rfl) (by rfl) (by rfl) (by rfl) (by rfl) (K5.out w')
 refine nz 44 ?_;refine pz 21 46 ax ?_;refine pv 22 47 (.slice B6 ((l.take (20:Int).toNat).drop (18:Int).toNat).length m6) ax ?_ ?_
 ·intro w'
  exact tA (vx:= .slice (some ad) l.length c) (vl:= .int .i64 18) (vh:= .int .i64 20) (vm:= .int .i64 20) (by rfl) (by rfl) (by rfl) (by rfl) (by rfl) (K6.out w')
 refine nz 47 ?_;refine pz 24 49 ax ?_;refine pz 25 50 ax ?_;refine pz 26 51 ax ?_;refine pv 27 52 (.slice B7 ((l.take hd.toNat).drop (20:Int).toNat).length m7) ax ?_ ?_
 ·intro w'
  exact tA (vx:= .slice (some ad) l.length c) (vl:= .int .i64 20) (vh:= .int .i64 hd) (vm:= .int .i64 hd) (by rfl) (by rfl) (by rfl) (by rfl) (by rfl) (K7.out w')
 refine nz 52 ?_;refine pz 29 54 ax ?_;refine pz 30 55 ax ?_;refine pv 31 56 (.slice B8 (l.drop hd.toNat).length m8) ax ?_ ?_
 ·intro w'
  exact VF (vx:= .slice (some ad) l.length c) (vl:= .int .i64 hd) (by rfl) (by rfl) (by rfl) (K8.out w')
 refine nz 56 ?_;refine tz 14 39 ax eu hHeld ?_;refine oz 2 (some 27) ax (fun K hK=> ?_);refine i9 Try.func130 (by kernel_rfl) rfl #[(.slice B0 ((l.take (2:Int).toNat).drop (0:Int).toNat).length m0)] (by rfl) rfl rfl (by first|rfl|(go_simp;done)|(go_simp;rfl)|(go_simp;decide)) ?_;refine (kG.calls B0 m0 _ t1 _ (Kd.aW D0.out HB.out) N0.out Q0.out).mono ?_;rintro e w3 ⟨rfl,dr⟩;have hb:=(show Below w2.heap.size w2 w3 from sj (Below.refl w2.heap.size w2) dr)
 have ai:=hb;replace HB:=mB HB ai;replace wC:=mX wC ai;clear ai;clear hb dr;refine ⟨_,rfl, ?_⟩;refine hK.out _ _ ((HB.out.cell Rd.out).trans Rc.out) (fun hHeld=> ?_);clear hK K;refine nz 27 ?_;refine oz 5 (some 30) ax (fun K hK=> ?_);refine i9 Try.func130 (by kernel_rfl) rfl #[(.slice B1 ((l.take (4:Int).toNat).drop (2:Int).toNat).length m1)] (by rfl) rfl rfl (by first|rfl|(go_simp;done)|(go_simp;rfl)|(go_simp;decide)) ?_;refine (kG.calls B1 m1 _ t2 _ (Kd.aW D1.out HB.out) N1.out Q1.out).mono ?_;rintro e w4 ⟨rfl,dr⟩;have hb:=(show Below w3.heap.size w3 w4 from sj (Below.refl w3.heap.size w3) dr)
 have ai:=hb;replace HB:=mB HB ai;replace wC:=mX wC ai;clear ai;clear hb dr;refine ⟨_,rfl, ?_⟩;refine hK.out _ _ ((HB.out.cell Rd.out).trans Rc.out) (fun hHeld=> ?_);clear hK K;refine nz 30 ?_;refine oz 8 (some 33) ax (fun K hK=> ?_);refine i9 Try.func131 (by kernel_rfl) rfl #[(.slice B2 ((l.take (8:Int).toNat).drop (4:Int).toNat).length m2)] (by rfl) rfl rfl (by first|rfl|(go_simp;done)|(go_simp;rfl)|(go_simp;decide)) ?_;refine (pJ.calls B2 m2 _ t3 _ (Kd.aW D2.out HB.out) N2.out Q2.out).mono ?_;rintro e w5 ⟨rfl,dr⟩;have hb:=(show Below w4.heap.size w4 w5 from sj (Below.refl w4.heap.size w4) dr)
 have ai:=hb;replace HB:=mB HB ai;replace wC:=mX wC ai;clear ai;clear hb dr;refine ⟨_,rfl, ?_⟩;refine hK.out _ _ ((HB.out.cell Rd.out).trans Rc.out) (fun hHeld=> ?_);clear hK K;refine nz 33 ?_;refine oz 11 (some 36) ax (fun K hK=> ?_);refine i9 Try.func131 (by kernel_rfl) rfl #[(.slice B3 ((l.take (12:Int).toNat).drop (8:Int).toNat).length m3)] (by rfl) rfl rfl (by first|rfl|(go_simp;done)|(go_simp;rfl)|(go_simp;decide)) ?_;refine (pJ.calls B3 m3 _ t4 _ (Kd.aW D3.out HB.out) N3.out Q3.out).mono ?_;rintro e w6 ⟨rfl,dr⟩;have hb:=(show Below w5.heap.size w5 w6 from sj (Below.refl w5.heap.size w5) dr)
 have ai:=hb;replace HB:=mB HB ai;replace wC:=mX wC ai;clear ai;clear hb dr;refine ⟨_,rfl, ?_⟩;refine hK.out _ _ ((HB.out.cell Rd.out).trans Rc.out) (fun hHeld=> ?_);clear hK K;refine nz 36 ?_;refine oz 17 (some 42) ax (fun K hK=> ?_);refine i9 Try.func130 (by kernel_rfl) rfl #[(.slice B4 ((l.take (16:Int).toNat).drop (14:Int).toNat).length m4)] (by rfl) rfl rfl (by first|rfl|(go_simp;done)|(go_simp;rfl)|(go_simp;decide)) ?_;refine (kG.calls B4 m4 _ t5 _ (Kd.aW D4.out HB.out) N4.out Q4.out).mono ?_;rintro e w7 ⟨rfl,dr⟩;have hb:=(show Below w6.heap.size w6 w7 from sj (Below.refl w6.heap.size w6) dr)
 have ai:=hb;replace HB:=mB HB ai;replace wC:=mX wC ai;clear ai;clear hb dr;refine ⟨_,rfl, ?_⟩;refine hK.out _ _ ((HB.out.cell Rd.out).trans Rc.out) (fun hHeld=> ?_);clear hK K;refine nz 42 ?_;refine oz 20 (some 45) ax (fun K hK=> ?_);refine i9 Try.func130 (by kernel_rfl) rfl #[(.slice B5 ((l.take (18:Int).toNat).drop (16:Int).toNat).length m5)] (by rfl) rfl rfl (by first|rfl|(go_simp;done)|(go_simp;rfl)|(go_simp;decide)) ?_;refine (kG.calls B5 m5 _ t6 _ (Kd.aW D5.out HB.out) N5.out Q5.out).mono ?_;rintro e w8 ⟨rfl,dr⟩;have hb:=(show Below w7.heap.size w7 w8 from sj (Below.refl w7.heap.size w7) dr)
 have ai:=hb;replace HB:=mB HB ai;replace wC:=mX wC ai;clear ai;clear hb dr;refine ⟨_,rfl, ?_⟩;refine hK.out _ _ ((HB.out.cell Rd.out).trans Rc.out) (fun hHeld=> ?_);clear hK K;refine nz 45 ?_;refine oz 23 (some 48) ax (fun K hK=> ?_);refine i9 Try.func130 (by kernel_rfl) rfl #[(.slice B6 ((l.take (20:Int).toNat).drop (18:Int).toNat).length m6)] (by rfl) rfl rfl (by first|rfl|(go_simp;done)|(go_simp;rfl)|(go_simp;decide)) ?_;refine (kG.calls B6 m6 _ t7 _ (Kd.aW D6.out HB.out) N6.out Q6.out).mono ?_;rintro e w9 ⟨rfl,dr⟩;have hb:=(show Below w8.heap.size w8 w9 from sj (Below.refl w8.heap.size w8) dr)
 have ai:=hb;replace HB:=mB HB ai;replace wC:=mX wC ai;clear ai;clear hb dr;refine ⟨_,rfl, ?_⟩;refine hK.out _ _ ((HB.out.cell Rd.out).trans Rc.out) (fun hHeld=> ?_);clear hK K;refine nz 48 ?_;refine oz 28 (some 53) ax (fun K hK=> ?_);refine i9 Try.func97 (by kernel_rfl) rfl #[(.slice B7 ((l.take hd.toNat).drop (20:Int).toNat).length m7)] (by rfl) rfl rfl (by first|rfl|(go_simp;done)|(go_simp;rfl)|(go_simp;decide)) ?_;refine (cA.calls B7 m7 _ x _ (Kd.aW D7.out HB.out) N7.out Q7.out).mono ?_;rintro e ku ⟨v_,rfl,ho,hb⟩;have eB:=aa.mk (Kd.bP ho (af HB.out));obtain ⟨Ax,cx,rfl,_,_⟩:=Kd.cj ho;clear ho;have ai:=hb;replace HB:=mB HB ai;replace wC:=mX wC ai;clear ai;clear hb;refine ⟨_,rfl, ?_⟩;refine hK.out _ _ ((HB.out.cell Rd.out).trans Rc.out) (fun hHeld=> ?_)
 clear hK K;refine nz 53 ?_;refine oz 32 (some 57) ax (fun K hK=> ?_);refine i9 Try.func97 (by kernel_rfl) rfl #[(.slice B8 (l.drop hd.toNat).length m8)] (by rfl) rfl rfl (by first|rfl|(go_simp;done)|(go_simp;rfl)|(go_simp;decide)) ?_;refine (cA.calls B8 m8 _ y _ (Kd.aW D8.out HB.out) N8.out Q8.out).mono ?_;rintro e sn ⟨v_,rfl,ho,hb⟩;have wR:=aa.mk (Kd.bP ho (af HB.out));obtain ⟨Ay,cy,rfl,_,_⟩:=Kd.cj ho;clear ho;have ai:=hb;replace HB:=mB HB ai;replace wC:=mX wC ai;replace eB:=mR eB ai;clear ai;clear hb;refine ⟨_,rfl, ?_⟩;refine hK.out _ _ ((HB.out.cell Rd.out).trans Rc.out) (fun hHeld=> ?_);clear hK K;refine nz 57 ?_;refine pz 33 58 ax ?_;refine oz 34 (none) ax (fun K hK=> ?_)
 refine cZ (by rfl) (by rfl) rfl rfl rfl wC.out mz.out rfl (by simp [Value.oneCell']) ?_;intro nP hs_ ag;replace eB:=oR ag eB wC (by decide);replace wR:=oR ag wR wC (by decide);replace HB:=oB ag HB Lo;clear ag;replace wC:=aa.mk hs_;clear hs_;refine hK.out _ _ ((HB.out.cell Rd.out).trans Rc.out) (fun hHeld=> ?_);clear hK K;refine pz 35 3 ax ?_;refine dz ax ?_;clear ax eu hHeld
 (try simp only [Exit.inBlock,Exit.then])
 (try go_wp2)
 (try simp only [Exit.inBlock,Exit.then])
 refine bodyPost_ret (fG rfl _ _ gp 137 #[.int .u16 t1,.int .u16 t2,.int .u32 t3,.int .u32 t4,.int .u8 (rd l 13),.int .u16 t5,.int .u16 t6,.int .u16 t7,.slice Ax x.length cx,.slice Ay y.length cy] (0,0) _ rfl wC.out Try.underlying137 rfl mz.out) rfl ?_;exact ⟨_,_,rfl,eB.out,wR.out,HB.out⟩
attribute [local go_sem] dI dJ eI eJ cO cP dK dL
def kH.f (l0:List Int):Option (Int):=if 0<(l0.length:Int) then (if 1<(l0.length:Int) then (some (Go.bits .or .u16 (IntKind.u16.wrap ((IntKind.u16.wrap (rd l0 0))*256)) (IntKind.u16.wrap (rd l0 1)))) else (none)) else (none)
theorem kH.calls (A0:Option Addr) (c0:Nat) (l0:List Int) (r:Int) (w:World) (hr0:Kd.C (Kd.int .u8) w A0 l0.length l0) (hc0:l0.length<=c0) (h:kH.f l0=some r):
  Calls Try.prog 96 #[.slice A0 l0.length c0] w fun e w'=>e= .returned (.int .u16 r) /\ bB w w':=by
 have gj:=aa.mk hr0;have jx:=aa.mk hc0;clear hr0 hc0;have H:(if 0<(l0.length:Int) then (if 1<(l0.length:Int) then (some (Go.bits .or .u16 (IntKind.u16.wrap ((IntKind.u16.wrap (rd l0 0))*256)) (IntKind.u16.wrap (rd l0 1)))) else (none)) else (none))=some r:=h;clear h
 by_cases c2:0<(l0.length:Int)
 rotate_left
 ·rw [av c2] at H
  cases H
 rw [aq c2] at H
 have j4:decide (0<(l0.length:Int))=true:=bN c2;have mq:decide (0<l0.length)=true:=bN (by omega);clear c2
 by_cases c3:1<(l0.length:Int)
 rotate_left
 ·rw [av c3] at H
  cases H
 rw [aq c3] at H
 have oJ:decide (1<(l0.length:Int))=true:=bN c3;have qI:decide (1<l0.length)=true:=bN (by omega);clear c3;obtain rfl:=cN H;have AaG:0<=(0:Int):=(by omega)
 have AaH:0<(l0.length:Int):=gA;obtain ⟨AeW,Ano,Na⟩:=Kd.dG gj.out 0 AaG AaH
 cases Ano
 have ArN:(0<l0.length)=True:=eq_true (by omega)
 (try rw [show ((0:Int)).toNat=0 from rfl] at Na)
 (try rw [Addr.add_zero'] at Na)
 replace AaG:=eq_true AaG;replace AaH:=eq_true AaH;have AaI:0<=(1:Int):=(by omega)
 have AaJ:1<(l0.length:Int):=gA;obtain ⟨AeX,Anp,Nb⟩:=Kd.dG gj.out 1 AaI AaJ;obtain rfl:AeW=AeX:=(by injection Anp)
 (try simp only [show (1:Int).toNat=1 from rfl,Nat.reduceMul,Nat.reduceEqDiff,Go.Addr.add,↓reduceIte] at Nb)
 have ArO:(1<l0.length)=True:=eq_true (by omega)
 (try rw [show ((1:Int)).toNat=1 from rfl] at Nb)
 replace AaI:=eq_true AaI;replace AaJ:=eq_true AaJ
 go_enter Try.func96,Try.ntmps96
 go_wp2
 repeat (go_quiet (fail);try go_wp2)
 go_ret
 exact ⟨by first|rfl|(simp;done)|(simp [*];done),by repeat (first|exact bB.refl _|apply bB.step)⟩
attribute [local go_sem] dI dJ eI eJ cO cP dK dL
def jd.f (l0:List Int):Option (Int×Int×Int×List Int×Int):=if (l0.length:Int)<8 then (some (0,0,0,([]:List Int),20)) else (if 6<=(l0.length:Int) then ((kH.f ((l0.take 6).drop 4)).bind fun oy=>(if (wrap64 (oy))<8 then (some (0,0,0,([]:List Int),21)) else (if (l0.length:Int)<(wrap64 (oy)) then (some (0,0,0,([]:List Int),20)) else (if 2<=(l0.length:Int) then ((kH.f ((l0.take 2).drop 0)).bind fun EY=>(if 4<=(l0.length:Int) then ((kH.f ((l0.take 4).drop 2)).bind fun Gq=>(if 8<=(l0.length:Int) then ((kH.f ((l0.take 8).drop 6)).bind fun IX=>(if 8<=(wrap64 (oy)) then (if (wrap64 (oy))<=(l0.length:Int) then ((cA.f ((l0.take ((wrap64 (oy)):Int).toNat).drop 8)).bind fun Lp=>(some (EY,Gq,IX,Lp,0))) else (none)) else (none))) else (none))) else (none))) else (none))))) else (none))
def jd.T8:Bool×List (List Nat×List Nat):=(true,[([],[]),([0],[0]),([1],[1]),([],[]),([3],[3]),([4,2],[4]),([],[]),([6],[6]),([7,5],[7]),([],[]),([],[]),([],[]),([9,10,11],[9,10,11]),([12,8],[12]),([2,5,8,13],[2,5,8,13]),([14,13,0,1,2,3,4,5,6,7,8,9,10,11,12,13,14],[14]),([15,0,1,2,3,4,5,6,7,8,9,10,11,12,13,14,15],[])])
def jd.B8:List Nat:=[0,1,3,0,8,31,0,64,255,0,0,0,3584,8191,16383,32767,65535]
theorem jd.EZ:gB .any (opsOf Try.f58 8)=jd.T8:=by kernel_rfl
theorem jd.yK:cS jd.T8.2 jd.B8=true:=by kernel_rfl
theorem jd.calls (A0:Option Addr) (c0:Nat) (l0:List Int) (r1:Int) (r2:Int) (r3:Int) (r4:List Int) (r5:Int) (w:World) (hr0:Kd.C (Kd.int .u8) w A0 l0.length l0) (hc0:l0.length<=c0) (h:jd.f l0=some (r1,r2,r3,r4,r5)):
  Calls Try.prog 58 #[.slice A0 l0.length c0] w fun e w'=>∃ v3_:Value,e= .returned (.tuple #[.agg #[.int .u16 r1,.int .u16 r2,.int .u16 r3,v3_],.int .i64 r5]) /\ Kd.R (Kd.int .u8) 5 w' w.heap.size (fun _=>True) v3_ r4 /\ Below w.heap.size w w':=by
 have zO:=Try.underlying83;have gj:=aa.mk hr0;have jx:=aa.mk hc0;clear hr0 hc0;have HB:=gI w
 have H:(if (l0.length:Int)<8 then (some (0,0,0,([]:List Int),20)) else (if 6<=(l0.length:Int) then ((kH.f ((l0.take 6).drop 4)).bind fun oy=>(if (wrap64 (oy))<8 then (some (0,0,0,([]:List Int),21)) else (if (l0.length:Int)<(wrap64 (oy)) then (some (0,0,0,([]:List Int),20)) else (if 2<=(l0.length:Int) then ((kH.f ((l0.take 2).drop 0)).bind fun EY=>(if 4<=(l0.length:Int) then ((kH.f ((l0.take 4).drop 2)).bind fun Gq=>(if 8<=(l0.length:Int) then ((kH.f ((l0.take 8).drop 6)).bind fun IX=>(if 8<=(wrap64 (oy)) then (if (wrap64 (oy))<=(l0.length:Int) then ((cA.f ((l0.take ((wrap64 (oy)):Int).toNat).drop 8)).bind fun Lp=>(some (EY,Gq,IX,Lp,0))) else (none)) else (none))) else (none))) else (none))) else (none))))) else (none)))=some (r1,r2,r3,r4,r5):=h
 clear h
 by_cases c2:(l0.length:Int)<8
 ·rw [aq c2] at H
  have j4:decide ((l0.length:Int)<8)=true:=bN c2;have mq:decide (l0.length<8)=true:=bN (by omega);clear c2;simp only [Option.some.injEq,Prod.mk.injEq] at H
  obtain ⟨rfl,rfl,rfl,rfl,rfl⟩:=H
  go_enter Try.func58,Try.ntmps58
  go_wp2_with (first|((with_reducible refine aA (N:=2) rfl ?_);refine aC ?hg (N:=2) ?hd (cs:=oH) (t:=83) ?hr ?_;(case hd=>rfl);(case hg=>rfl);(case hr=>first|(go_simp;done)|(go_simp;rfl));intro jV hg w3 bJ hb;have aH:=aa.mk (au (bz HB) hb);have aK:=aa.mk (bJ);have bt:=aa.mk ((by rw [hg];exact (af (bz HB)):w.heap.size<=jV));have cC:=aa.mk ((by rw [hg];exact (af (bz HB)):w.heap.size<=jV));clear HB;have HB:=aH;have gZ:=aK;have Re:=bt;have Rf:=cC;clear aH aK bt cC;clear hb bJ hg;have pK:w3.cell? ⟨jV,0,none⟩=some (.int .u16 0):=cz gZ.out 0 rfl;have pL:w3.cell? ⟨jV,1,none⟩=some (.int .u16 0):=cz gZ.out 1 rfl;have pM:w3.cell? ⟨jV,2,none⟩=some (.int .u16 0):=cz gZ.out 2 rfl;have pN:w3.cell? ⟨jV,3,none⟩=some (.slice none 0 0):=cz gZ.out 3 rfl;have pO:=ae gZ.out 0;have pP:=ae gZ.out 1;have pQ:=ae gZ.out 2;have pR:=ae gZ.out 3))
  refine bodyPost_ret (fG rfl _ _ jV 83 oH (0,0) _ rfl (by (repeat (first|with_reducible refine aQ ?_ _|with_reducible refine aJ ?_|with_reducible refine aM ?_ _|refine bK (cs:=oH) ?_ _ _ rfl));(with_reducible repeat (first|refine aQ ?_ _|refine aJ ?_|refine aM ?_ _));exact gZ.out) Try.underlying83 rfl (by kernel_rfl)) rfl ?_;exact ⟨_,by first|rfl|(simp [aj,ak]<;>rfl)|(simp [*,aj,ak]<;>rfl),by first|exact Kd.bX _ _ _ _ _|exact Kd.jn _ _ _ _ _|exact Kd.jo _ _ _ _ _|exact Kd.jl _ _ _ _ _|exact Kd.jm _ _ _ _ _,bz HB⟩
 rw [av c2] at H
 have j4:decide ((l0.length:Int)<8)=false:=gN c2;have mq:decide (l0.length<8)=false:=gN (by omega);clear c2
 by_cases c5:6<=(l0.length:Int)
 rotate_left
 ·rw [av c5] at H
  cases H
 rw [aq c5] at H
 have mJ:=eq_true c5;have qn:decide (6<=(l0.length:Int))=true:=bN c5;clear c5;replace H:=dc H;obtain ⟨oy,wD,H⟩:=H
 (try dsimp -simprocs only at H)
 have A6:=aa.mk wD;clear wD
 by_cases c7:(wrap64 (oy))<8
 ·rw [aq c7] at H
  have AV:decide ((wrap64 (oy))<8)=true:=bN c7;clear c7;simp only [Option.some.injEq,Prod.mk.injEq] at H
  obtain ⟨rfl,rfl,rfl,rfl,rfl⟩:=H
  go_enter Try.func58,Try.ntmps58
  go_wp2_with (first|((with_reducible refine aA (N:=2) rfl ?_);refine aC ?hg (N:=2) ?hd (cs:=oH) (t:=83) ?hr ?_;(case hd=>rfl);(case hg=>rfl);(case hr=>first|(go_simp;done)|(go_simp;rfl));intro jV hg w8 bJ hb;have aH:=aa.mk (au (bz HB) hb);have aK:=aa.mk (bJ);have bt:=aa.mk ((by rw [hg];exact (af (bz HB)):w.heap.size<=jV));have cC:=aa.mk ((by rw [hg];exact (af (bz HB)):w.heap.size<=jV));clear HB;have HB:=aH;have gZ:=aK;have Re:=bt;have Rf:=cC;clear aH aK bt cC;clear hb bJ hg;obtain ⟨i09,Rg,_,Rh,_⟩:=info_parts fY;obtain ⟨A9,AeZ,hA9,hC9⟩:=iY (P:=Try.prog) (Value.int .u8) 0 23 5 .i64 .i64 .i64 Try.underlying23 Rg Rh A0 c0 l0 4 6 (by omega) (by first|omega|exact gA) gA jx.out;have IY:=aa.mk (Kd.dH (h1:=fun _=>rfl) (hA9 _ (Kd.dw gj.out)));have IZ:=aa.mk hC9;clear hA9 hC9 Rg Rh;have Avk:min 6 l0.length - 4=2:=(by have h_:(6:Int)<=(l0.length:Int):=gA;omega))|((with_reducible refine az (f:=96) rfl ?_);refine uf (some 11) rfl rfl Try.func96 (by kernel_rfl) rfl #[.slice A9 ((l0.take 6).drop 4).length 2] rfl (by (try simp only [List.map_toArray,List.map_cons,List.map_nil]);first|done|(rw [show ((l0.take 6).drop 4).length=2 from (by rw [List.length_drop,List.length_take];have h_:(6:Int)<=(l0.length:Int):=gA;omega)]<;>rfl)|rfl|(simp only [List.length_drop,List.length_take];rfl)|(go_simp;done)|(simp [Act.eval,IntKind.signed];done)|(simp [Act.eval,IntKind.signed];rfl)) ?_;(with_reducible refine (kH.calls _ _ ((l0.take 6).drop 4) oy _ ?aE ?aG A6.out).mono ?_);(case aE=>exact Kd.aW IY.out (bz HB));(case aG=>exact IZ.out);rintro e w' ⟨rfl,⟨nd,rfl⟩⟩;refine ⟨_,rfl, ?_⟩;(try (rw [fu w8];generalize jK:World.drewN w8 _=w8;have aH:aa (w8.heap[jV]?=some (.cells oH 83 (0,0))):=⟨by rw [<- jK];exact (kz gZ)⟩;have aK:aa (Below w.heap.size w w8):=⟨by rw [<- jK];exact bz HB⟩;clear gZ HB jK;have gZ:=aH;have HB:=aK;clear aH aK));have tB:w8.cell? ⟨jV,0,none⟩=some (.int .u16 0):=cz gZ.out 0 rfl;have tC:w8.cell? ⟨jV,1,none⟩=some (.int .u16 0):=cz gZ.out 1 rfl;have tD:w8.cell? ⟨jV,2,none⟩=some (.int .u16 0):=cz gZ.out 2 rfl;have tE:w8.cell? ⟨jV,3,none⟩=some (.slice none 0 0):=cz gZ.out 3 rfl;have tF:=ae gZ.out 0;have tG:=ae gZ.out 1;have tH:=ae gZ.out 2;have tI:=ae gZ.out 3))
  refine bodyPost_ret (fG rfl _ _ jV 83 oH (0,0) _ rfl (by (repeat (first|with_reducible refine aQ ?_ _|with_reducible refine aJ ?_|with_reducible refine aM ?_ _|refine bK (cs:=oH) ?_ _ _ rfl));(with_reducible repeat (first|refine aQ ?_ _|refine aJ ?_|refine aM ?_ _));exact gZ.out) Try.underlying83 rfl (by kernel_rfl)) rfl ?_;exact ⟨_,by first|rfl|(simp [aj,ak]<;>rfl)|(simp [*,aj,ak]<;>rfl),by first|exact Kd.bX _ _ _ _ _|exact Kd.jn _ _ _ _ _|exact Kd.jo _ _ _ _ _|exact Kd.jl _ _ _ _ _|exact Kd.jm _ _ _ _ _,bz HB⟩
 rw [av c7] at H
 have AV:decide ((wrap64 (oy))<8)=false:=gN c7;clear c7
 by_cases qX:(l0.length:Int)<(wrap64 (oy))
 ·rw [aq qX] at H
  have BA:decide ((l0.length:Int)<(wrap64 (oy)))=true:=bN qX;clear qX;simp only [Option.some.injEq,Prod.mk.injEq] at H
  obtain ⟨rfl,rfl,rfl,rfl,rfl⟩:=H
  go_enter Try.func58,Try.ntmps58
  go_wp2_with (first|((with_reducible refine aA (N:=2) rfl ?_);refine aC ?hg (N:=2) ?hd (cs:=oH) (t:=83) ?hr ?_;(case hd=>rfl);(case hg=>rfl);(case hr=>first|(go_simp;done)|(go_simp;rfl));intro jV hg nP bJ hb;have aH:=aa.mk (au (bz HB) hb);have aK:=aa.mk (bJ);have bt:=aa.mk ((by rw [hg];exact (af (bz HB)):w.heap.size<=jV));have cC:=aa.mk ((by rw [hg];exact (af (bz HB)):w.heap.size<=jV));clear HB;have HB:=aH;have gZ:=aK;have Re:=bt;have Rf:=cC;clear aH aK bt cC;clear hb bJ hg;obtain ⟨Avl,XT,_,XU,_⟩:=info_parts fY;obtain ⟨Qp,Anq,Ae2,Ae3⟩:=iY (P:=Try.prog) (Value.int .u8) 0 23 5 .i64 .i64 .i64 Try.underlying23 XT XU A0 c0 l0 4 6 (by omega) (by first|omega|exact gA) gA jx.out;have IY:=aa.mk (Kd.dH (h1:=fun _=>rfl) (Ae2 _ (Kd.dw gj.out)));have IZ:=aa.mk Ae3;clear Ae2 Ae3 XT XU;have ArP:min 6 l0.length - 4=2:=(by have h_:(6:Int)<=(l0.length:Int):=gA;omega))|((with_reducible refine az (f:=96) rfl ?_);refine uf (some 11) rfl rfl Try.func96 (by kernel_rfl) rfl #[.slice Qp ((l0.take 6).drop 4).length 2] rfl (by (try simp only [List.map_toArray,List.map_cons,List.map_nil]);first|done|(rw [show ((l0.take 6).drop 4).length=2 from (by rw [List.length_drop,List.length_take];have h_:(6:Int)<=(l0.length:Int):=gA;omega)]<;>rfl)|rfl|(simp only [List.length_drop,List.length_take];rfl)|(go_simp;done)|(simp [Act.eval,IntKind.signed];done)|(simp [Act.eval,IntKind.signed];rfl)) ?_;(with_reducible refine (kH.calls _ _ ((l0.take 6).drop 4) oy _ ?aE ?aG A6.out).mono ?_);(case aE=>exact Kd.aW IY.out (bz HB));(case aG=>exact IZ.out);rintro e w' ⟨rfl,⟨nd,rfl⟩⟩;refine ⟨_,rfl, ?_⟩;(try (rw [fu nP];generalize jK:World.drewN nP _=nP;have aH:aa (nP.heap[jV]?=some (.cells oH 83 (0,0))):=⟨by rw [<- jK];exact (kz gZ)⟩;have aK:aa (Below w.heap.size w nP):=⟨by rw [<- jK];exact bz HB⟩;clear gZ HB jK;have gZ:=aH;have HB:=aK;clear aH aK));have AjW:nP.cell? ⟨jV,0,none⟩=some (.int .u16 0):=cz gZ.out 0 rfl;have AjX:nP.cell? ⟨jV,1,none⟩=some (.int .u16 0):=cz gZ.out 1 rfl;have AjY:nP.cell? ⟨jV,2,none⟩=some (.int .u16 0):=cz gZ.out 2 rfl;have AjZ:nP.cell? ⟨jV,3,none⟩=some (.slice none 0 0):=cz gZ.out 3 rfl;have Aj0:=ae gZ.out 0;have Aj1:=ae gZ.out 1;have Aj2:=ae gZ.out 2;have Aj3:=ae gZ.out 3))
  refine bodyPost_ret (fG rfl _ _ jV 83 oH (0,0) _ rfl (by (repeat (first|with_reducible refine aQ ?_ _|with_reducible refine aJ ?_|with_reducible refine aM ?_ _|refine bK (cs:=oH) ?_ _ _ rfl));(with_reducible repeat (first|refine aQ ?_ _|refine aJ ?_|refine aM ?_ _));exact gZ.out) Try.underlying83 rfl (by kernel_rfl)) rfl ?_;exact ⟨_,by first|rfl|(simp [aj,ak]<;>rfl)|(simp [*,aj,ak]<;>rfl),by first|exact Kd.bX _ _ _ _ _|exact Kd.jn _ _ _ _ _|exact Kd.jo _ _ _ _ _|exact Kd.jl _ _ _ _ _|exact Kd.jm _ _ _ _ _,bz HB⟩
 rw [av qX] at H
 have BA:decide ((l0.length:Int)<(wrap64 (oy)))=false:=gN qX;clear qX
 by_cases wS:2<=(l0.length:Int)
 rotate_left
 ·rw [av wS] at H
  cases H
 rw [aq wS] at H
 have wT:=eq_true wS;have Fz:decide (2<=(l0.length:Int))=true:=bN wS;clear wS;replace H:=dc H;obtain ⟨EY,wU,H⟩:=H
 (try dsimp -simprocs only at H)
 have Qq:=aa.mk wU;clear wU
 by_cases rH:4<=(l0.length:Int)
 rotate_left
 ·rw [av rH] at H
  cases H
 rw [aq rH] at H
 have I0:=eq_true rH;have Ri:decide (4<=(l0.length:Int))=true:=bN rH;clear rH;replace H:=dc H;obtain ⟨Gq,wV,H⟩:=H
 (try dsimp -simprocs only at H)
 have OY:=aa.mk wV;clear wV
 by_cases AW:8<=(l0.length:Int)
 rotate_left
 ·rw [av AW] at H
  cases H
 rw [aq AW] at H
 have Rj:=eq_true AW;have XV:decide (8<=(l0.length:Int))=true:=bN AW;clear AW;replace H:=dc H;obtain ⟨IX,Dj,H⟩:=H
 (try dsimp -simprocs only at H)
 have uM:=aa.mk Dj;clear Dj
 by_cases Va:8<=(wrap64 (oy))
 rotate_left
 ·rw [av Va] at H
  cases H
 rw [aq Va] at H
 have Ae4:=eq_true Va;have Ae5:decide (8<=(wrap64 (oy)))=true:=bN Va;clear Va
 by_cases I1:(wrap64 (oy))<=(l0.length:Int)
 rotate_left
 ·rw [av I1] at H
  cases H
 rw [aq I1] at H
 have Rk:=eq_true I1;have Ae6:decide ((wrap64 (oy))<=(l0.length:Int))=true:=bN I1;clear I1;replace H:=dc H;obtain ⟨Lp,Ae7,H⟩:=H
 (try dsimp -simprocs only at H)
 have A23:=aa.mk Ae7;clear Ae7;simp only [Option.some.injEq,Prod.mk.injEq] at H
 obtain ⟨rfl,rfl,rfl,rfl,rfl⟩:=H
 go_enter Try.func58,Try.ntmps58
 try go_wp2_with (first|((with_reducible refine aA (N:=2) rfl ?_);refine aC ?hg (N:=2) ?hd (cs:=oH) (t:=83) ?hr ?_;(case hd=>rfl);(case hg=>rfl);(case hr=>first|(go_simp;done)|(go_simp;rfl));intro jV hg Ir bJ hb;have aH:=aa.mk (au (bz HB) hb);have aK:=aa.mk (bJ);have bt:=aa.mk ((by rw [hg];exact (af (bz HB)):w.heap.size<=jV));have cC:=aa.mk ((by rw [hg];exact (af (bz HB)):w.heap.size<=jV));clear HB;have HB:=aH;have gZ:=aK;have Re:=bt;have Rf:=cC;clear aH aK bt cC;clear hb bJ hg;obtain ⟨Ans,I2,_,I3,_⟩:=info_parts fY;obtain ⟨A25,AaK,Rl,Rm⟩:=iY (P:=Try.prog) (Value.int .u8) 0 23 5 .i64 .i64 .i64 Try.underlying23 I2 I3 A0 c0 l0 4 6 (by omega) (by first|omega|exact gA) gA jx.out;have IY:=aa.mk (Kd.dH (h1:=fun _=>rfl) (Rl _ (Kd.dw gj.out)));have IZ:=aa.mk Rm;clear Rl Rm I2 I3;have ArQ:min 6 l0.length - 4=2:=(by have h_:(6:Int)<=(l0.length:Int):=gA;omega))|((with_reducible refine az (f:=96) rfl ?_);refine uf (some 11) rfl rfl Try.func96 (by kernel_rfl) rfl #[.slice A25 ((l0.take 6).drop 4).length 2] rfl (by (try simp only [List.map_toArray,List.map_cons,List.map_nil]);first|done|(rw [show ((l0.take 6).drop 4).length=2 from (by rw [List.length_drop,List.length_take];have h_:(6:Int)<=(l0.length:Int):=gA;omega)]<;>rfl)|rfl|(simp only [List.length_drop,List.length_take];rfl)|(go_simp;done)|(simp [Act.eval,IntKind.signed];done)|(simp [Act.eval,IntKind.signed];rfl)) ?_;(with_reducible refine (kH.calls _ _ ((l0.take 6).drop 4) oy _ ?aE ?aG A6.out).mono ?_);(case aE=>exact Kd.aW IY.out (bz HB));(case aG=>exact IZ.out);rintro e w' ⟨rfl,⟨nd,rfl⟩⟩;refine ⟨_,rfl, ?_⟩;(try (rw [fu Ir];generalize jK:World.drewN Ir _=Ir;have aH:aa (Ir.heap[jV]?=some (.cells oH 83 (0,0))):=⟨by rw [<- jK];exact (kz gZ)⟩;have aK:aa (Below w.heap.size w Ir):=⟨by rw [<- jK];exact bz HB⟩;clear gZ HB jK;have gZ:=aH;have HB:=aK;clear aH aK))))
 have aH:=aa.mk (aJ gZ.out);have aK:=aa.mk (bf HB.out);clear gZ;clear HB;have gZ:=aH;have HB:=aK;clear aH aK;obtain ⟨Ant,I4,_,I5,_⟩:=info_parts fY;obtain ⟨A27,AaL,Rn,Ro⟩:=iY (P:=Try.prog) (Value.int .u8) 0 23 5 .i64 .i64 .i64 Try.underlying23 I4 I5 A0 c0 l0 0 2 (by omega) (by first|omega|exact gA) gA jx.out;have XW:=aa.mk (Kd.dH (h1:=fun _=>rfl) (Rn _ (Kd.dw gj.out)));have Ae9:=aa.mk Ro;clear Rn Ro I4 I5;have ArR:min 2 l0.length=2:=(by have h_:(2:Int)<=(l0.length:Int):=gA;omega)
 obtain ⟨Anv,I6,_,I7,_⟩:=info_parts fY;obtain ⟨A28,AaM,Rp,Rq⟩:=iY (P:=Try.prog) (Value.int .u8) 0 23 5 .i64 .i64 .i64 Try.underlying23 I6 I7 A0 c0 l0 2 4 (by omega) (by first|omega|exact gA) gA jx.out;have XX:=aa.mk (Kd.dH (h1:=fun _=>rfl) (Rp _ (Kd.dw gj.out)));have Afa:=aa.mk Rq;clear Rp Rq I6 I7;have ArS:min 4 l0.length - 2=2:=(by have h_:(4:Int)<=(l0.length:Int):=gA;omega)
 obtain ⟨Avm,XY,_,XZ,_⟩:=info_parts fY;obtain ⟨A29,Anx,Afc,Afd⟩:=iY (P:=Try.prog) (Value.int .u8) 0 23 5 .i64 .i64 .i64 Try.underlying23 XY XZ A0 c0 l0 6 8 (by omega) (by first|omega|exact gA) gA jx.out;have X0:=aa.mk (Kd.dH (h1:=fun _=>rfl) (Afc _ (Kd.dw gj.out)));have Afe:=aa.mk Afd;clear Afc Afd XY XZ;have ArT:min 8 l0.length - 6=2:=(by have h_:(8:Int)<=(l0.length:Int):=gA;omega)
 obtain ⟨Avn,X1,_,X2,_⟩:=info_parts fY;obtain ⟨wK,Anz,Aff,Afg⟩:=iY (P:=Try.prog) (Value.int .u8) 0 23 5 .i64 .i64 .i64 Try.underlying23 X1 X2 A0 c0 l0 8 (wrap64 (oy)) (by omega) (by first|omega|exact gA) gA jx.out;have X3:=aa.mk (Kd.dH (h1:=fun _=>rfl) (Aff _ (Kd.dw gj.out)));have Afh:=aa.mk Afg;clear Aff Afg X1 X2;refine dB (n:=17) (S:=fun w'=>True) (ds:=[]) #[false,false,false,false,false,false,false,false,false,false,false,false,false,false,false,false,false] (by kernel_rfl) rfl rfl trivial (fun hHeld=> ?_);refine bF jd.EZ jd.yK (fun ax eu=> ?_)
 generalize Ir.drew=w26 at gZ HB XW XX X0 X3 hHeld|-
 refine pz 0 23 ax ?_;refine pz 1 24 ax ?_;refine pz 3 26 ax ?_;refine pz 4 27 ax ?_;refine pz 6 29 ax ?_;refine pz 7 30 ax ?_;refine pz 9 32 ax ?_;refine pz 10 33 ax ?_;refine pz 11 34 ax ?_;refine pz 12 35 ax ?_;refine oz 2 (some 25) ax (fun K hK=> ?_);refine i9 Try.func96 (by kernel_rfl) rfl #[.slice A27 ((l0.take 2).drop 0).length 2] (by rfl) rfl rfl (by (try simp only [List.map_toArray,List.map_cons,List.map_nil]);first|done|(rw [show ((l0.take 2).drop 0).length=2 from (by rw [List.length_drop,List.length_take];have h_:(2:Int)<=(l0.length:Int):=gA;omega)]<;>rfl)|rfl|(simp only [List.length_drop,List.length_take];rfl)|(go_simp;done)|(simp [Act.eval,IntKind.signed];done)|(simp [Act.eval,IntKind.signed];rfl)) ?_
 with_reducible refine (kH.calls _ _ ((l0.take 2).drop 0) EY _ ?aE ?aG Qq.out).mono ?_
 (case aE=>exact Kd.aW XW.out (bz HB))
 (case aG=>exact Ae9.out)
 rintro e w' ⟨rfl,⟨nd,rfl⟩⟩;refine ⟨_,rfl, ?_⟩;refine hK.out _ _ trivial (fun hHeld=> ?_);clear hK K;refine nz 25 ?_;refine oz 5 (some 28) ax (fun K hK=> ?_);refine i9 Try.func96 (by kernel_rfl) rfl #[.slice A28 ((l0.take 4).drop 2).length 2] (by rfl) rfl rfl (by (try simp only [List.map_toArray,List.map_cons,List.map_nil]);first|done|(rw [show ((l0.take 4).drop 2).length=2 from (by rw [List.length_drop,List.length_take];have h_:(4:Int)<=(l0.length:Int):=gA;omega)]<;>rfl)|rfl|(simp only [List.length_drop,List.length_take];rfl)|(go_simp;done)|(simp [Act.eval,IntKind.signed];done)|(simp [Act.eval,IntKind.signed];rfl)) ?_
 with_reducible refine (kH.calls _ _ ((l0.take 4).drop 2) Gq _ ?aE ?aG OY.out).mono ?_
 (case aE=>exact Kd.aW XX.out (bz HB))
 (case aG=>exact Afa.out)
 rintro e w' ⟨rfl,⟨nd,rfl⟩⟩;refine ⟨_,rfl, ?_⟩;refine hK.out _ _ trivial (fun hHeld=> ?_);clear hK K;refine nz 28 ?_;refine oz 8 (some 31) ax (fun K hK=> ?_);refine i9 Try.func96 (by kernel_rfl) rfl #[.slice A29 ((l0.take 8).drop 6).length 2] (by rfl) rfl rfl (by (try simp only [List.map_toArray,List.map_cons,List.map_nil]);first|done|(rw [show ((l0.take 8).drop 6).length=2 from (by rw [List.length_drop,List.length_take];have h_:(8:Int)<=(l0.length:Int):=gA;omega)]<;>rfl)|rfl|(simp only [List.length_drop,List.length_take];rfl)|(go_simp;done)|(simp [Act.eval,IntKind.signed];done)|(simp [Act.eval,IntKind.signed];rfl)) ?_
 with_reducible refine (kH.calls _ _ ((l0.take 8).drop 6) IX _ ?aE ?aG uM.out).mono ?_
 (case aE=>exact Kd.aW X0.out (bz HB))
 (case aG=>exact Afe.out)
 rintro e w' ⟨rfl,⟨nd,rfl⟩⟩;refine ⟨_,rfl, ?_⟩;refine hK.out _ _ trivial (fun hHeld=> ?_);clear hK K;refine nz 31 ?_;refine oz 13 (some 36) ax (fun K hK=> ?_);refine i9 Try.func97 (by kernel_rfl) rfl #[.slice wK ((l0.take ((wrap64 (oy)):Int).toNat).drop 8).length ((wrap64 (oy)).toNat - 8)] (by rfl) rfl rfl (by (try simp only [List.map_toArray,List.map_cons,List.map_nil]);first|done|(rw [show ((l0.take ((wrap64 (oy)):Int).toNat).drop 8).length=((wrap64 (oy)).toNat - 8) from (by rw [List.length_drop,List.length_take];have h_:((wrap64 (oy)):Int)<=(l0.length:Int):=gA;omega)]<;>rfl)|rfl|(simp only [List.length_drop,List.length_take];rfl)|(go_simp;done)|(simp [Act.eval,IntKind.signed];done)|(simp [Act.eval,IntKind.signed];rfl)) ?_
 with_reducible refine (cA.calls _ _ ((l0.take ((wrap64 (oy)):Int).toNat).drop 8) Lp _ ?aE ?aG A23.out).mono ?_
 (case aE=>exact Kd.aW X3.out (bz HB))
 (case aG=>exact Afh.out)
 rintro e w31 ⟨Avo,rfl,gC,hb⟩;refine ⟨_,rfl, ?_⟩;have aH:=aa.mk (Kd.bP gC (af (bz HB)));have aK:=aa.mk (bq (kz gZ) hb);have bt:=aa.mk (au (bz HB) hb);clear gZ;clear HB;have X4:=aH;have gZ:=aK;have HB:=bt;clear aH aK bt
 (try clear hb)
 (try clear hb2)
 (try clear hk)
 (try clear hi)
 (try clear gC)
 obtain ⟨Afi,Afj,Afk⟩:=Kd.dn X4.out
 (first|subst Afk|(injection Afk with mT ry mU;have rA:=mT.symm;have rB:=mU.symm;clear mT ry mU;subst rA;subst rB))
 refine hK.out _ _ trivial (fun hHeld=> ?_);clear hK K;refine nz 36 ?_;refine pz 14 37 ax ?_;refine oz 15 (none) ax (fun K hK=> ?_);have ArU:=cs4 gZ.out;have AnB:=ae gZ.out;refine wB (w1:= ?_) (by rfl) rfl ?_ ?_
 rotate_left
 ·go_simp
  rfl
 refine hK.out _ _ trivial (fun hHeld=> ?_);clear hK K;refine pz 16 3 ax ?_;refine dz ax ?_
 try go_wp2
 refine bodyPost_ret (fG rfl _ _ jV 83 #[.int .u16 EY,.int .u16 Gq,.int .u16 IX,.slice Afi Lp.length Afj] (0,0) _ rfl (by (with_reducible repeat (first|refine aQ ?_ _|refine aJ ?_|refine aM ?_ _));refine bK (cs:= #[.int .u16 EY,.int .u16 Gq,.int .u16 IX,.slice none 0 0]) ?_ 3 _ rfl;(with_reducible repeat (first|refine aQ ?_ _|refine aJ ?_|refine aM ?_ _));refine bK (cs:= #[.int .u16 EY,.int .u16 Gq,.int .u16 0,.slice none 0 0]) ?_ 2 _ rfl;(with_reducible repeat (first|refine aQ ?_ _|refine aJ ?_|refine aM ?_ _));refine bK (cs:= #[.int .u16 EY,.int .u16 0,.int .u16 0,.slice none 0 0]) ?_ 1 _ rfl;(with_reducible repeat (first|refine aQ ?_ _|refine aJ ?_|refine aM ?_ _));refine bK (cs:=oH) ?_ 0 _ rfl;(with_reducible repeat (first|refine aQ ?_ _|refine aJ ?_|refine aM ?_ _));exact gZ.out) Try.underlying83 rfl (by kernel_rfl)) rfl ?_
 exact ⟨_,by first|rfl|(simp [aj,ak]<;>rfl)|(simp [*,aj,ak]<;>rfl),by (with_reducible repeat (first|apply Kd.fg|apply Kd.eV|apply Kd.fj));exact Kd.dA (Kd.eH (p:=⟨jV,3,none⟩) (Kd.eH (p:=⟨jV,2,none⟩) (Kd.eH (p:=⟨jV,1,none⟩) (Kd.eH (p:=⟨jV,0,none⟩) (Kd.mE X4.out gZ.out (by decide)) (fun _ hk=>hk.2) (.int .u16 EY)) (fun _ hk=>hk.2) (.int .u16 Gq)) (fun _ hk=>hk.2) (.int .u16 IX)) (fun _ hk=>hk.2) (.slice Afi Lp.length Afj)) (fun _ hk=>trivial),bz HB⟩
attribute [local go_sem] dI dJ eI eJ cO cP dK dL
def iD.f (l0:List Int):Option (Int×Int×Int×Int×List Int×Int):=if (l0.length:Int)<8 then (some (0,0,0,0,([]:List Int),20)) else (if 0<(l0.length:Int) then (if 1<(l0.length:Int) then (if 2<(l0.length:Int) then (if 3<(l0.length:Int) then (if 4<(l0.length:Int) then (if 5<(l0.length:Int) then (if 6<(l0.length:Int) then (if 7<(l0.length:Int) then (if 8<=(l0.length:Int) then ((cA.f (l0.drop 8)).bind fun Lq=>(some (rd l0 0,rd l0 1,Go.bits .or .u16 (IntKind.u16.wrap ((IntKind.u16.wrap (rd l0 2))*256)) (IntKind.u16.wrap (rd l0 3)),Go.bits .or .u32 (Go.bits .or .u32 (Go.bits .or .u32 ((((rd l0 4) % 4294967296)*16777216) % 4294967296) ((((rd l0 5) % 4294967296)*65536) % 4294967296)) ((((rd l0 6) % 4294967296)*256) % 4294967296)) ((rd l0 7) % 4294967296),Lq,0))) else (none)) else (none)) else (none)) else (none)) else (none)) else (none)) else (none)) else (none)) else (none))
def iD.T3:Bool×List (List Nat×List Nat):=(true,[([],[]),([0],[0]),([1],[1]),([],[]),([3],[3]),([4],[4]),([],[]),([6],[6]),([7],[7]),([8],[8]),([9],[9]),([],[]),([11],[11]),([12],[12]),([13],[13]),([10,14],[10,14]),([],[]),([16],[16]),([17],[17]),([18],[18]),([19],[19]),([],[]),([21],[21]),([22],[22]),([23],[23]),([24],[24]),([20,25],[20,25]),([],[]),([27],[27]),([28],[28]),([29],[29]),([30],[30]),([26,31],[26,31]),([],[]),([33],[33]),([34],[34]),([35],[35]),([32,36],[32,36]),([],[]),([38],[38]),([39],[39]),([2,5,15,37,40],[2,5,15,37,40]),([41,40,0,1,2,3,4,5,6,7,8,9,10,11,12,13,14,15,16,17,18,19,20,21,22,23,24,25,26,27,28,29,30,31,32,33,34,35,36,37,38,39,40,41],[41]),([42,0,1,2,3,4,5,6,7,8,9,10,11,12,13,14,15,16,17,18,19,20,21,22,23,24,25,26,27,28,29,30,31,32,33,34,35,36,37,38,39,40,41,42],[])])
def iD.B3:List Nat:=[0,1,3,0,8,24,0,64,192,448,960,0,2048,6144,14336,32704,0,65536,196608,458752,983040,0,2097152,6291456,14680064,31457280,67043328,0,134217728,402653184,939524096,2013265920,4294901760,0,8589934592,25769803776,60129542144,137438887936,0,274877906944,824633720832,2199023255551,4398046511103,8796093022207]
theorem iD.Lr:gB .any (opsOf Try.f123 3)=iD.T3:=by kernel_rfl
theorem iD.Dk:cS iD.T3.2 iD.B3=true:=by kernel_rfl
theorem iD.calls (A0:Option Addr) (c0:Nat) (l0:List Int) (r1:Int) (r2:Int) (r3:Int) (r4:Int) (r5:List Int) (r6:Int) (w:World) (hr0:Kd.C (Kd.int .u8) w A0 l0.length l0) (hc0:l0.length<=c0) (h:iD.f l0=some (r1,r2,r3,r4,r5,r6)):
  Calls Try.prog 123 #[.slice A0 l0.length c0] w fun e w'=>∃ v4_:Value,e= .returned (.tuple #[.agg #[.int .u8 r1,.int .u8 r2,.int .u16 r3,.int .u32 r4,v4_],.int .i64 r6]) /\ Kd.R (Kd.int .u8) 5 w' w.heap.size (fun _=>True) v4_ r5 /\ Below w.heap.size w w':=by
 have oA:=Try.underlying101;have gj:=aa.mk hr0;have jx:=aa.mk hc0;clear hr0 hc0;have HB:=gI w
 have H:(if (l0.length:Int)<8 then (some (0,0,0,0,([]:List Int),20)) else (if 0<(l0.length:Int) then (if 1<(l0.length:Int) then (if 2<(l0.length:Int) then (if 3<(l0.length:Int) then (if 4<(l0.length:Int) then (if 5<(l0.length:Int) then (if 6<(l0.length:Int) then (if 7<(l0.length:Int) then (if 8<=(l0.length:Int) then ((cA.f (l0.drop 8)).bind fun Lq=>(some (rd l0 0,rd l0 1,Go.bits .or .u16 (IntKind.u16.wrap ((IntKind.u16.wrap (rd l0 2))*256)) (IntKind.u16.wrap (rd l0 3)),Go.bits .or .u32 (Go.bits .or .u32 (Go.bits .or .u32 ((((rd l0 4) % 4294967296)*16777216) % 4294967296) ((((rd l0 5) % 4294967296)*65536) % 4294967296)) ((((rd l0 6) % 4294967296)*256) % 4294967296)) ((rd l0 7) % 4294967296),Lq,0))) else (none)) else (none)) else (none)) else (none)) else (none)) else (none)) else (none)) else (none)) else (none)))=some (r1,r2,r3,r4,r5,r6):=h
 clear h
 by_cases c2:(l0.length:Int)<8
 ·rw [aq c2] at H
  have j4:decide ((l0.length:Int)<8)=true:=bN c2;have mq:decide (l0.length<8)=true:=bN (by omega);clear c2;simp only [Option.some.injEq,Prod.mk.injEq] at H
  obtain ⟨rfl,rfl,rfl,rfl,rfl,rfl⟩:=H
  go_enter Try.func123,Try.ntmps123
  go_wp2_with (first|((with_reducible refine aA (N:=2) rfl ?_);refine aC ?hg (N:=2) ?hd (cs:= #[.int .u8 0,.int .u8 0,.int .u16 0,.int .u32 0,.slice none 0 0]) (t:=101) ?hr ?_;(case hd=>rfl);(case hg=>rfl);(case hr=>first|(go_simp;done)|(go_simp;rfl));intro gH hg w3 bJ hb;have aH:=aa.mk (au (bz HB) hb);have aK:=aa.mk (bJ);have bt:=aa.mk ((by rw [hg];exact (af (bz HB)):w.heap.size<=gH));have cC:=aa.mk ((by rw [hg];exact (af (bz HB)):w.heap.size<=gH));clear HB;have HB:=aH;have ny:=aK;have eD:=bt;have Afm:=cC;clear aH aK bt cC;clear hb bJ hg;have pK:w3.cell? ⟨gH,0,none⟩=some (.int .u8 0):=cz ny.out 0 rfl;have pL:w3.cell? ⟨gH,1,none⟩=some (.int .u8 0):=cz ny.out 1 rfl;have pM:w3.cell? ⟨gH,2,none⟩=some (.int .u16 0):=cz ny.out 2 rfl;have pN:w3.cell? ⟨gH,3,none⟩=some (.int .u32 0):=cz ny.out 3 rfl;have uj:w3.cell? ⟨gH,4,none⟩=some (.slice none 0 0):=cz ny.out 4 rfl;have pO:=ae ny.out 0;have pP:=ae ny.out 1;have pQ:=ae ny.out 2;have pR:=ae ny.out 3;have uk:=ae ny.out 4))
  refine bodyPost_ret (fG rfl _ _ gH 101 #[.int .u8 0,.int .u8 0,.int .u16 0,.int .u32 0,.slice none 0 0] (0,0) _ rfl (by (repeat (first|with_reducible refine aQ ?_ _|with_reducible refine aJ ?_|with_reducible refine aM ?_ _|refine bK (cs:= #[.int .u8 0,.int .u8 0,.int .u16 0,.int .u32 0,.slice none 0 0]) ?_ _ _ rfl));(with_reducible repeat (first|refine aQ ?_ _|refine aJ ?_|refine aM ?_ _));exact ny.out) Try.underlying101 rfl (by kernel_rfl)) rfl ?_;exact ⟨_,by first|rfl|(simp [aj,ak]<;>rfl)|(simp [*,aj,ak]<;>rfl),by first|exact Kd.bX _ _ _ _ _|exact Kd.jn _ _ _ _ _|exact Kd.jo _ _ _ _ _|exact Kd.jl _ _ _ _ _|exact Kd.jm _ _ _ _ _,bz HB⟩
 rw [av c2] at H
 have j4:decide ((l0.length:Int)<8)=false:=gN c2;have mq:decide (l0.length<8)=false:=gN (by omega);clear c2
 by_cases c5:0<(l0.length:Int)
 rotate_left
 ·rw [av c5] at H
  cases H
 rw [aq c5] at H
 have mJ:decide (0<(l0.length:Int))=true:=bN c5;have qn:decide (0<l0.length)=true:=bN (by omega);clear c5
 by_cases c6:1<(l0.length:Int)
 rotate_left
 ·rw [av c6] at H
  cases H
 rw [aq c6] at H
 have um:decide (1<(l0.length:Int))=true:=bN c6;have OZ:decide (1<l0.length)=true:=bN (by omega);clear c6
 by_cases c7:2<(l0.length:Int)
 rotate_left
 ·rw [av c7] at H
  cases H
 rw [aq c7] at H
 have AV:decide (2<(l0.length:Int))=true:=bN c7;have VH:decide (2<l0.length)=true:=bN (by omega);clear c7
 by_cases c8:3<(l0.length:Int)
 rotate_left
 ·rw [av c8] at H
  cases H
 rw [aq c8] at H
 have nU:decide (3<(l0.length:Int))=true:=bN c8;have Dl:decide (3<l0.length)=true:=bN (by omega);clear c8
 by_cases c9:4<(l0.length:Int)
 rotate_left
 ·rw [av c9] at H
  cases H
 rw [aq c9] at H
 have wW:decide (4<(l0.length:Int))=true:=bN c9;have O0:decide (4<l0.length)=true:=bN (by omega);clear c9
 by_cases zB:5<(l0.length:Int)
 rotate_left
 ·rw [av zB] at H
  cases H
 rw [aq zB] at H
 have uy:decide (5<(l0.length:Int))=true:=bN zB;have Nc:decide (5<l0.length)=true:=bN (by omega);clear zB
 by_cases qX:6<(l0.length:Int)
 rotate_left
 ·rw [av qX] at H
  cases H
 rw [aq qX] at H
 have BA:decide (6<(l0.length:Int))=true:=bN qX;have Nd:decide (6<l0.length)=true:=bN (by omega);clear qX
 by_cases uQ:7<(l0.length:Int)
 rotate_left
 ·rw [av uQ] at H
  cases H
 rw [aq uQ] at H
 have FA:decide (7<(l0.length:Int))=true:=bN uQ;have Nf:decide (7<l0.length)=true:=bN (by omega);clear uQ
 by_cases O1:8<=(l0.length:Int)
 rotate_left
 ·rw [av O1] at H
  cases H
 rw [aq O1] at H
 have Rs:=eq_true O1;have ArV:decide (8<=(l0.length:Int))=true:=bN O1;clear O1;replace H:=dc H;obtain ⟨Lq,Dm,H⟩:=H
 (try dsimp -simprocs only at H)
 have A14:=aa.mk Dm;clear Dm;simp only [Option.some.injEq,Prod.mk.injEq] at H
 obtain ⟨rfl,rfl,rfl,rfl,rfl,rfl⟩:=H
 go_enter Try.func123,Try.ntmps123
 try go_wp2_with (first|((with_reducible refine aA (N:=2) rfl ?_);refine aC ?hg (N:=2) ?hd (cs:= #[.int .u8 0,.int .u8 0,.int .u16 0,.int .u32 0,.slice none 0 0]) (t:=101) ?hr ?_;(case hd=>rfl);(case hg=>rfl);(case hr=>first|(go_simp;done)|(go_simp;rfl));intro gH hg BX bJ hb;have aH:=aa.mk (au (bz HB) hb);have aK:=aa.mk (bJ);have bt:=aa.mk ((by rw [hg];exact (af (bz HB)):w.heap.size<=gH));have cC:=aa.mk ((by rw [hg];exact (af (bz HB)):w.heap.size<=gH));clear HB;have HB:=aH;have ny:=aK;have eD:=bt;have Afm:=cC;clear aH aK bt cC;clear hb bJ hg))
 have aH:=aa.mk (aJ ny.out);have aK:=aa.mk (bf HB.out);clear ny;clear HB;have ny:=aH;have HB:=aK;clear aH aK;have AaO:0<=(0:Int):=(by omega)
 have AaP:0<(l0.length:Int):=gA;obtain ⟨nA,AnC,uR⟩:=Kd.dG gj.out 0 AaO AaP;have lp:=uR
 (try rw [show ((0:Int)).toNat=0 from rfl] at lp)
 (try rw [show 0*1=0 from rfl] at lp)
 (try rw [Addr.add_zero'] at lp)
 cases AnC
 have ArW:(0<l0.length)=True:=eq_true (by omega)
 (try rw [show ((0:Int)).toNat=0 from rfl] at uR)
 (try rw [Addr.add_zero'] at uR)
 replace uR:=(HB.out.cell (dF w _ uR)).trans uR;replace AaO:=eq_true AaO;replace AaP:=eq_true AaP;have AaQ:0<=(1:Int):=(by omega)
 have AaR:1<(l0.length:Int):=gA;obtain ⟨Afn,AnD,uS⟩:=Kd.dG gj.out 1 AaQ AaR;have lq:=uS
 (try rw [show ((1:Int)).toNat=1 from rfl] at lq)
 (try rw [show 1*1=1 from rfl] at lq)
 (try simp only [Nat.reduceMul,Nat.reduceEqDiff,Go.Addr.add,↓reduceIte] at lq)
 obtain rfl:nA=Afn:=(by injection AnD)
 (try simp only [show (1:Int).toNat=1 from rfl,Nat.reduceMul,Nat.reduceEqDiff,Go.Addr.add,↓reduceIte] at uS)
 have ArX:(1<l0.length)=True:=eq_true (by omega)
 (try rw [show ((1:Int)).toNat=1 from rfl] at uS)
 replace uS:=(HB.out.cell (dF w _ uS)).trans uS;replace AaQ:=eq_true AaQ;replace AaR:=eq_true AaR;have AaS:0<=(2:Int):=(by omega)
 have AaT:2<(l0.length:Int):=gA;obtain ⟨Afo,AnE,uT⟩:=Kd.dG gj.out 2 AaS AaT;have lu:=uT
 (try rw [show ((2:Int)).toNat=2 from rfl] at lu)
 (try rw [show 2*1=2 from rfl] at lu)
 (try simp only [Nat.reduceMul,Nat.reduceEqDiff,Go.Addr.add,↓reduceIte] at lu)
 obtain rfl:nA=Afo:=(by injection AnE)
 (try simp only [show (2:Int).toNat=2 from rfl,Nat.reduceMul,Nat.reduceEqDiff,Go.Addr.add,↓reduceIte] at uT)
 have ArY:(2<l0.length)=True:=eq_true (by omega)
 (try rw [show ((2:Int)).toNat=2 from rfl] at uT)
 replace uT:=(HB.out.cell (dF w _ uT)).trans uT;replace AaS:=eq_true AaS;replace AaT:=eq_true AaT;have AaU:0<=(3:Int):=(by omega)
 have AaV:3<(l0.length:Int):=gA;obtain ⟨Afp,AnF,uU⟩:=Kd.dG gj.out 3 AaU AaV;have lA:=uU
 (try rw [show ((3:Int)).toNat=3 from rfl] at lA)
 (try rw [show 3*1=3 from rfl] at lA)
 (try simp only [Nat.reduceMul,Nat.reduceEqDiff,Go.Addr.add,↓reduceIte] at lA)
 obtain rfl:nA=Afp:=(by injection AnF)
 (try simp only [show (3:Int).toNat=3 from rfl,Nat.reduceMul,Nat.reduceEqDiff,Go.Addr.add,↓reduceIte] at uU)
 have ArZ:(3<l0.length)=True:=eq_true (by omega)
 (try rw [show ((3:Int)).toNat=3 from rfl] at uU)
 replace uU:=(HB.out.cell (dF w _ uU)).trans uU;replace AaU:=eq_true AaU;replace AaV:=eq_true AaV;have AaW:0<=(4:Int):=(by omega)
 have AaX:4<(l0.length:Int):=gA;obtain ⟨Afq,AnG,uV⟩:=Kd.dG gj.out 4 AaW AaX;have lB:=uV
 (try rw [show ((4:Int)).toNat=4 from rfl] at lB)
 (try rw [show 4*1=4 from rfl] at lB)
 (try simp only [Nat.reduceMul,Nat.reduceEqDiff,Go.Addr.add,↓reduceIte] at lB)
 obtain rfl:nA=Afq:=(by injection AnG)
 (try simp only [show (4:Int).toNat=4 from rfl,Nat.reduceMul,Nat.reduceEqDiff,Go.Addr.add,↓reduceIte] at uV)
 have Ar0:(4<l0.length)=True:=eq_true (by omega)
 (try rw [show ((4:Int)).toNat=4 from rfl] at uV)
 replace uV:=(HB.out.cell (dF w _ uV)).trans uV;replace AaW:=eq_true AaW;replace AaX:=eq_true AaX;have AaY:0<=(5:Int):=(by omega)
 have AaZ:5<(l0.length:Int):=gA;obtain ⟨Afr,AnH,uW⟩:=Kd.dG gj.out 5 AaY AaZ;have lC:=uW
 (try rw [show ((5:Int)).toNat=5 from rfl] at lC)
 (try rw [show 5*1=5 from rfl] at lC)
 (try simp only [Nat.reduceMul,Nat.reduceEqDiff,Go.Addr.add,↓reduceIte] at lC)
 obtain rfl:nA=Afr:=(by injection AnH)
 (try simp only [show (5:Int).toNat=5 from rfl,Nat.reduceMul,Nat.reduceEqDiff,Go.Addr.add,↓reduceIte] at uW)
 have Ar1:(5<l0.length)=True:=eq_true (by omega)
 (try rw [show ((5:Int)).toNat=5 from rfl] at uW)
 replace uW:=(HB.out.cell (dF w _ uW)).trans uW;replace AaY:=eq_true AaY;replace AaZ:=eq_true AaZ;have Aa0:0<=(6:Int):=(by omega)
 have Aa1:6<(l0.length:Int):=gA;obtain ⟨Afs,AnI,uX⟩:=Kd.dG gj.out 6 Aa0 Aa1;have lD:=uX
 (try rw [show ((6:Int)).toNat=6 from rfl] at lD)
 (try rw [show 6*1=6 from rfl] at lD)
 (try simp only [Nat.reduceMul,Nat.reduceEqDiff,Go.Addr.add,↓reduceIte] at lD)
 obtain rfl:nA=Afs:=(by injection AnI)
 (try simp only [show (6:Int).toNat=6 from rfl,Nat.reduceMul,Nat.reduceEqDiff,Go.Addr.add,↓reduceIte] at uX)
 have Ar2:(6<l0.length)=True:=eq_true (by omega)
 (try rw [show ((6:Int)).toNat=6 from rfl] at uX)
 replace uX:=(HB.out.cell (dF w _ uX)).trans uX;replace Aa0:=eq_true Aa0;replace Aa1:=eq_true Aa1;have Aa2:0<=(7:Int):=(by omega)
 have Aa3:7<(l0.length:Int):=gA;obtain ⟨Aft,AnJ,uY⟩:=Kd.dG gj.out 7 Aa2 Aa3;have lE:=uY
 (try rw [show ((7:Int)).toNat=7 from rfl] at lE)
 (try rw [show 7*1=7 from rfl] at lE)
 (try simp only [Nat.reduceMul,Nat.reduceEqDiff,Go.Addr.add,↓reduceIte] at lE)
 obtain rfl:nA=Aft:=(by injection AnJ)
 (try simp only [show (7:Int).toNat=7 from rfl,Nat.reduceMul,Nat.reduceEqDiff,Go.Addr.add,↓reduceIte] at uY)
 have Ar3:(7<l0.length)=True:=eq_true (by omega)
 (try rw [show ((7:Int)).toNat=7 from rfl] at uY)
 replace uY:=(HB.out.cell (dF w _ uY)).trans uY;replace Aa2:=eq_true Aa2;replace Aa3:=eq_true Aa3;obtain ⟨AnK,I8,_,I9,_⟩:=info_parts fY;obtain ⟨Qr,Aa4,Rt,Ru⟩:=fS (P:=Try.prog) (Value.int .u8) 0 23 5 .i64 Try.underlying23 I8 I9 (some nA) c0 l0 8 (by omega) gA jx.out;have X5:=aa.mk (Kd.dH (h1:=fun _=>rfl) (Rt _ (Kd.dw gj.out)));have Afu:=aa.mk Ru;clear Rt Ru I8 I9
 refine dB (n:=44) (S:=fun w'=>w'.cell? nA=some (.int .u8 (rd l0 0)) /\ w'.cell? ⟨nA.block,nA.off+1,none⟩=some (.int .u8 (rd l0 1)) /\ w'.cell? ⟨nA.block,nA.off+2,none⟩=some (.int .u8 (rd l0 2)) /\ w'.cell? ⟨nA.block,nA.off+3,none⟩=some (.int .u8 (rd l0 3)) /\ w'.cell? ⟨nA.block,nA.off+4,none⟩=some (.int .u8 (rd l0 4)) /\ w'.cell? ⟨nA.block,nA.off+5,none⟩=some (.int .u8 (rd l0 5)) /\ w'.cell? ⟨nA.block,nA.off+6,none⟩=some (.int .u8 (rd l0 6)) /\ w'.cell? ⟨nA.block,nA.off+7,none⟩=some (.int .u8 (rd l0 7))) (ds:=[]) #[false,false,false,false,false,false,false,false,false,false,false,false,false,false,false,false,false,false,false,false,false,false,false,false,false,false,false,false,false,false,false,false,false,false,false,false,false,false,false,false,false,false,false,false] (by kernel_rfl) rfl rfl ⟨((HB.out.cell (dF w _ lp)).trans lp),((HB.out.cell (dF w _ lq)).trans lq),((HB.out.cell (dF w _ lu)).trans lu),((HB.out.cell (dF w _ lA)).trans lA),((HB.out.cell (dF w _ lB)).trans lB),((HB.out.cell (dF w _ lC)).trans lC),((HB.out.cell (dF w _ lD)).trans lD),((HB.out.cell (dF w _ lE)).trans lE)⟩ (fun hHeld=> ?_);refine bF iD.Lr iD.Dk (fun ax eu=> ?_)
 generalize BX.drew=qJ at ny HB X5 uR uS uT uU uV uW uX uY hHeld|-
 refine pz 0 8 ax ?_;refine pz 1 9 ax ?_;refine pz 3 11 ax ?_;refine pz 4 12 ax ?_;refine pz 6 14 ax ?_;refine pz 7 15 ax ?_;refine pz 11 19 ax ?_;refine pz 12 20 ax ?_;refine pz 16 24 ax ?_;refine pz 17 25 ax ?_;refine pz 21 29 ax ?_;refine pz 22 30 ax ?_;refine pz 27 35 ax ?_;refine pz 28 36 ax ?_;refine pz 33 41 ax ?_;refine pz 34 42 ax ?_;refine pz 38 46 ax ?_;refine pz 39 47 ax ?_;refine gF (i:=2) (N:=some 10) (v:= ?_) (a':= ?_) #[true,true,true,true,true,false,true,true,false,false,false,true,true,false,false,false,true,true,false,false,false,true,true,false,false,false,false,true,true,false,false,false,false,true,true,false,false,false,true,true,false,false,false,false] rfl rfl (dm ax.out eu.out (by kernel_rfl)) (fun _ _ _ h=>h) (Or.inl ⟨by rfl, ?_⟩) hHeld ?_ ?_
 rotate_left
 ·rintro w' ⟨s0,s1,s2,s3,s4,s5,s6,s7⟩
  go_simp
  with_reducible rfl
 rotate_left
 ·simp only [pG]
  rfl
 refine gF (i:=5) (N:=some 13) (v:= ?_) (a':= ?_) #[true,true,true,true,true,true,true,true,false,false,false,true,true,false,false,false,true,true,false,false,false,true,true,false,false,false,false,true,true,false,false,false,false,true,true,false,false,false,true,true,false,false,false,false] rfl rfl (dm ax.out eu.out (by kernel_rfl)) (fun _ _ _ h=>h) (Or.inl ⟨by rfl, ?_⟩) hHeld ?_ ?_
 rotate_left
 ·rintro w' ⟨s0,s1,s2,s3,s4,s5,s6,s7⟩
  go_simp
  with_reducible rfl
 rotate_left
 ·simp only [pG]
  rfl
 refine gF (i:=8) (N:=some 16) (v:= ?_) (a':= ?_) #[true,true,true,true,true,true,true,true,true,false,false,true,true,false,false,false,true,true,false,false,false,true,true,false,false,false,false,true,true,false,false,false,false,true,true,false,false,false,true,true,false,false,false,false] rfl rfl (dm ax.out eu.out (by kernel_rfl)) (fun _ _ _ h=>h) (Or.inl ⟨by rfl, ?_⟩) hHeld ?_ ?_
 rotate_left
 ·rintro w' ⟨s0,s1,s2,s3,s4,s5,s6,s7⟩
  go_simp
  with_reducible rfl
 rotate_left
 ·simp only [pG]
  rfl
 refine pz 9 17 ax ?_;refine pz 10 18 ax ?_;refine gF (i:=13) (N:=some 21) (v:= ?_) (a':= ?_) #[true,true,true,true,true,true,true,true,true,true,true,true,true,true,false,false,true,true,false,false,false,true,true,false,false,false,false,true,true,false,false,false,false,true,true,false,false,false,true,true,false,false,false,false] rfl rfl (dm ax.out eu.out (by kernel_rfl)) (fun _ _ _ h=>h) (Or.inl ⟨by rfl, ?_⟩) hHeld ?_ ?_
 rotate_left
 ·rintro w' ⟨s0,s1,s2,s3,s4,s5,s6,s7⟩
  go_simp
  with_reducible rfl
 rotate_left
 ·simp only [pG]
  rfl
 refine pz 14 22 ax ?_;refine pz 15 23 ax ?_;refine gF (i:=18) (N:=some 26) (v:= ?_) (a':= ?_) #[true,true,true,true,true,true,true,true,true,true,true,true,true,true,true,true,true,true,true,false,false,true,true,false,false,false,false,true,true,false,false,false,false,true,true,false,false,false,true,true,false,false,false,false] rfl rfl (dm ax.out eu.out (by kernel_rfl)) (fun _ _ _ h=>h) (Or.inl ⟨by rfl, ?_⟩) hHeld ?_ ?_
 rotate_left
 ·rintro w' ⟨s0,s1,s2,s3,s4,s5,s6,s7⟩
  go_simp
  with_reducible rfl
 rotate_left
 ·simp only [pG]
  rfl
 refine pz 19 27 ax ?_;refine pz 20 28 ax ?_;refine gF (i:=23) (N:=some 31) (v:= ?_) (a':= ?_) #[true,true,true,true,true,true,true,true,true,true,true,true,true,true,true,true,true,true,true,true,true,true,true,true,false,false,false,true,true,false,false,false,false,true,true,false,false,false,true,true,false,false,false,false] rfl rfl (dm ax.out eu.out (by kernel_rfl)) (fun _ _ _ h=>h) (Or.inl ⟨by rfl, ?_⟩) hHeld ?_ ?_
 rotate_left
 ·rintro w' ⟨s0,s1,s2,s3,s4,s5,s6,s7⟩
  go_simp
  with_reducible rfl
 rotate_left
 ·simp only [pG]
  rfl
 refine pz 24 32 ax ?_;refine pz 25 33 ax ?_;refine pz 26 34 ax ?_;refine gF (i:=29) (N:=some 37) (v:= ?_) (a':= ?_) #[true,true,true,true,true,true,true,true,true,true,true,true,true,true,true,true,true,true,true,true,true,true,true,true,true,true,true,true,true,true,false,false,false,true,true,false,false,false,true,true,false,false,false,false] rfl rfl (dm ax.out eu.out (by kernel_rfl)) (fun _ _ _ h=>h) (Or.inl ⟨by rfl, ?_⟩) hHeld ?_ ?_
 rotate_left
 ·rintro w' ⟨s0,s1,s2,s3,s4,s5,s6,s7⟩
  go_simp
  with_reducible rfl
 rotate_left
 ·simp only [pG]
  rfl
 refine pz 30 38 ax ?_;refine pz 31 39 ax ?_;refine pz 32 40 ax ?_;refine gF (i:=35) (N:=some 43) (v:= ?_) (a':= ?_) #[true,true,true,true,true,true,true,true,true,true,true,true,true,true,true,true,true,true,true,true,true,true,true,true,true,true,true,true,true,true,true,true,true,true,true,true,false,false,true,true,false,false,false,false] rfl rfl (dm ax.out eu.out (by kernel_rfl)) (fun _ _ _ h=>h) (Or.inl ⟨by rfl, ?_⟩) hHeld ?_ ?_
 rotate_left
 ·rintro w' ⟨s0,s1,s2,s3,s4,s5,s6,s7⟩
  go_simp
  with_reducible rfl
 rotate_left
 ·simp only [pG]
  rfl
 refine pz 36 44 ax ?_;refine pz 37 45 ax ?_;refine oz 40 (some 48) ax (fun K hK=> ?_);refine i9 Try.func97 (by kernel_rfl) rfl #[.slice Qr (l0.drop 8).length (c0 - 8)] (by rfl) rfl rfl (by (try simp only [List.map_toArray,List.map_cons,List.map_nil]);first|done|(rw [show (l0.drop 8).length=(l0.length - 8) from List.length_drop]<;>rfl)|rfl|(simp only [List.length_drop,List.length_take];rfl)|(go_simp;done)|(simp [Act.eval,IntKind.signed];done)|(simp [Act.eval,IntKind.signed];rfl)) ?_
 with_reducible refine (cA.calls _ _ (l0.drop 8) Lq _ ?aE ?aG A14.out).mono ?_
 (case aE=>exact Kd.aW X5.out (bz HB))
 (case aG=>exact Afu.out)
 rintro e Vb ⟨Avp,rfl,gC,hb⟩;refine ⟨_,rfl, ?_⟩;have aH:=aa.mk (Kd.bP gC (af (bz HB)));have aK:=aa.mk (bq (kz ny) hb);have bt:=aa.mk (au (bz HB) hb);clear ny;clear HB;have X6:=aH;have ny:=aK;have HB:=bt;clear aH aK bt
 (try clear hb)
 (try clear hb2)
 (try clear hk)
 (try clear hi)
 (try clear gC)
 obtain ⟨O2,O3,Rv⟩:=Kd.dn X6.out
 (first|subst Rv|(injection Rv with mT ry mU;have rA:=mT.symm;have rB:=mU.symm;clear mT ry mU;subst rA;subst rB))
 refine hK.out _ _ ⟨((HB.out.cell (dF w _ lp)).trans lp),((HB.out.cell (dF w _ lq)).trans lq),((HB.out.cell (dF w _ lu)).trans lu),((HB.out.cell (dF w _ lA)).trans lA),((HB.out.cell (dF w _ lB)).trans lB),((HB.out.cell (dF w _ lC)).trans lC),((HB.out.cell (dF w _ lD)).trans lD),((HB.out.cell (dF w _ lE)).trans lE)⟩ (fun hHeld=> ?_);clear hK K;refine nz 48 ?_;refine pz 41 49 ax ?_;refine oz 42 (none) ax (fun K hK=> ?_);have Ar4:=cs5 ny.out;have AnL:=ae ny.out;refine wB (w1:= ?_) (by rfl) rfl ?_ ?_
 rotate_left
 ·go_simp
  rfl
 refine hK.out _ _ ⟨((cell_far (p:=⟨gH,_,none⟩) (by first|exact eF lp eD.out|exact eG lp eD.out) _).trans (((cell_far (p:=⟨gH,_,none⟩) (by first|exact eF lp eD.out|exact eG lp eD.out) _).trans (((cell_far (p:=⟨gH,_,none⟩) (by first|exact eF lp eD.out|exact eG lp eD.out) _).trans (((cell_far (p:=⟨gH,_,none⟩) (by first|exact eF lp eD.out|exact eG lp eD.out) _).trans (((cell_far (p:=⟨gH,_,none⟩) (by first|exact eF lp eD.out|exact eG lp eD.out) _).trans (hHeld.1)))))))))),((cell_far (p:=⟨gH,_,none⟩) (by first|exact eF lq eD.out|exact eG lq eD.out) _).trans (((cell_far (p:=⟨gH,_,none⟩) (by first|exact eF lq eD.out|exact eG lq eD.out) _).trans (((cell_far (p:=⟨gH,_,none⟩) (by first|exact eF lq eD.out|exact eG lq eD.out) _).trans (((cell_far (p:=⟨gH,_,none⟩) (by first|exact eF lq eD.out|exact eG lq eD.out) _).trans (((cell_far (p:=⟨gH,_,none⟩) (by first|exact eF lq eD.out|exact eG lq eD.out) _).trans (hHeld.2.1)))))))))),((cell_far (p:=⟨gH,_,none⟩) (by first|exact eF lu eD.out|exact eG lu eD.out) _).trans (((cell_far (p:=⟨gH,_,none⟩) (by first|exact eF lu eD.out|exact eG lu eD.out) _).trans (((cell_far (p:=⟨gH,_,none⟩) (by first|exact eF lu eD.out|exact eG lu eD.out) _).trans (((cell_far (p:=⟨gH,_,none⟩) (by first|exact eF lu eD.out|exact eG lu eD.out) _).trans (((cell_far (p:=⟨gH,_,none⟩) (by first|exact eF lu eD.out|exact eG lu eD.out) _).trans (hHeld.2.2.1)))))))))),((cell_far (p:=⟨gH,_,none⟩) (by first|exact eF lA eD.out|exact eG lA eD.out) _).trans (((cell_far (p:=⟨gH,_,none⟩) (by first|exact eF lA eD.out|exact eG lA eD.out) _).trans (((cell_far (p:=⟨gH,_,none⟩) (by first|exact eF lA eD.out|exact eG lA eD.out) _).trans (((cell_far (p:=⟨gH,_,none⟩) (by first|exact eF lA eD.out|exact eG lA eD.out) _).trans (((cell_far (p:=⟨gH,_,none⟩) (by first|exact eF lA eD.out|exact eG lA eD.out) _).trans (hHeld.2.2.2.1)))))))))),((cell_far (p:=⟨gH,_,none⟩) (by first|exact eF lB eD.out|exact eG lB eD.out) _).trans (((cell_far (p:=⟨gH,_,none⟩) (by first|exact eF lB eD.out|exact eG lB eD.out) _).trans (((cell_far (p:=⟨gH,_,none⟩) (by first|exact eF lB eD.out|exact eG lB eD.out) _).trans (((cell_far (p:=⟨gH,_,none⟩) (by first|exact eF lB eD.out|exact eG lB eD.out) _).trans (((cell_far (p:=⟨gH,_,none⟩) (by first|exact eF lB eD.out|exact eG lB eD.out) _).trans (hHeld.2.2.2.2.1)))))))))),((cell_far (p:=⟨gH,_,none⟩) (by first|exact eF lC eD.out|exact eG lC eD.out) _).trans (((cell_far (p:=⟨gH,_,none⟩) (by first|exact eF lC eD.out|exact eG lC eD.out) _).trans (((cell_far (p:=⟨gH,_,none⟩) (by first|exact eF lC eD.out|exact eG lC eD.out) _).trans (((cell_far (p:=⟨gH,_,none⟩) (by first|exact eF lC eD.out|exact eG lC eD.out) _).trans (((cell_far (p:=⟨gH,_,none⟩) (by first|exact eF lC eD.out|exact eG lC eD.out) _).trans (hHeld.2.2.2.2.2.1)))))))))),((cell_far (p:=⟨gH,_,none⟩) (by first|exact eF lD eD.out|exact eG lD eD.out) _).trans (((cell_far (p:=⟨gH,_,none⟩) (by first|exact eF lD eD.out|exact eG lD eD.out) _).trans (((cell_far (p:=⟨gH,_,none⟩) (by first|exact eF lD eD.out|exact eG lD eD.out) _).trans (((cell_far (p:=⟨gH,_,none⟩) (by first|exact eF lD eD.out|exact eG lD eD.out) _).trans (((cell_far (p:=⟨gH,_,none⟩) (by first|exact eF lD eD.out|exact eG lD eD.out) _).trans (hHeld.2.2.2.2.2.2.1)))))))))),((cell_far (p:=⟨gH,_,none⟩) (by first|exact eF lE eD.out|exact eG lE eD.out) _).trans (((cell_far (p:=⟨gH,_,none⟩) (by first|exact eF lE eD.out|exact eG lE eD.out) _).trans (((cell_far (p:=⟨gH,_,none⟩) (by first|exact eF lE eD.out|exact eG lE eD.out) _).trans (((cell_far (p:=⟨gH,_,none⟩) (by first|exact eF lE eD.out|exact eG lE eD.out) _).trans (((cell_far (p:=⟨gH,_,none⟩) (by first|exact eF lE eD.out|exact eG lE eD.out) _).trans (hHeld.2.2.2.2.2.2.2))))))))))⟩ (fun hHeld=> ?_)
 clear hK K;refine pz 43 3 ax ?_;refine dz ax ?_
 try go_wp2
 refine bodyPost_ret (fG rfl _ _ gH 101 #[.int .u8 (rd l0 0),.int .u8 (rd l0 1),.int .u16 (Go.bits .or .u16 (IntKind.u16.wrap ((IntKind.u16.wrap (rd l0 2))*256)) (IntKind.u16.wrap (rd l0 3))),.int .u32 (Go.bits .or .u32 (Go.bits .or .u32 (Go.bits .or .u32 ((((rd l0 4) % 4294967296)*16777216) % 4294967296) ((((rd l0 5) % 4294967296)*65536) % 4294967296)) ((((rd l0 6) % 4294967296)*256) % 4294967296)) ((rd l0 7) % 4294967296)),.slice O2 Lq.length O3] (0,0) _ rfl (by (with_reducible repeat (first|refine aQ ?_ _|refine aJ ?_|refine aM ?_ _));refine bK (cs:= #[.int .u8 (rd l0 0),.int .u8 (rd l0 1),.int .u16 (Go.bits .or .u16 (IntKind.u16.wrap ((IntKind.u16.wrap (rd l0 2))*256)) (IntKind.u16.wrap (rd l0 3))),.int .u32 (Go.bits .or .u32 (Go.bits .or .u32 (Go.bits .or .u32 ((((rd l0 4) % 4294967296)*16777216) % 4294967296) ((((rd l0 5) % 4294967296)*65536) % 4294967296)) ((((rd l0 6) % 4294967296)*256) % 4294967296)) ((rd l0 7) % 4294967296)),.slice none 0 0]) ?_ 4 _ rfl;(with_reducible repeat (first|refine aQ ?_ _|refine aJ ?_|refine aM ?_ _));refine bK (cs:= #[.int .u8 (rd l0 0),.int .u8 (rd l0 1),.int .u16 (Go.bits .or .u16 (IntKind.u16.wrap ((IntKind.u16.wrap (rd l0 2))*256)) (IntKind.u16.wrap (rd l0 3))),.int .u32 0,.slice none 0 0]) ?_ 3 _ rfl;(with_reducible repeat (first|refine aQ ?_ _|refine aJ ?_|refine aM ?_ _));refine bK (cs:= #[.int .u8 (rd l0 0),.int .u8 (rd l0 1),.int .u16 0,.int .u32 0,.slice none 0 0]) ?_ 2 _ rfl;(with_reducible repeat (first|refine aQ ?_ _|refine aJ ?_|refine aM ?_ _));refine bK (cs:= #[.int .u8 (rd l0 0),.int .u8 0,.int .u16 0,.int .u32 0,.slice none 0 0]) ?_ 1 _ rfl;(with_reducible repeat (first|refine aQ ?_ _|refine aJ ?_|refine aM ?_ _));refine bK (cs:= #[.int .u8 0,.int .u8 0,.int .u16 0,.int .u32 0,.slice none 0 0]) ?_ 0 _ rfl;(with_reducible repeat (first|refine aQ ?_ _|refine aJ ?_|refine aM ?_ _));exact ny.out) Try.underlying101 rfl (by kernel_rfl)) rfl ?_
 exact ⟨_,by first|rfl|(simp [aj,ak]<;>rfl)|(simp [*,aj,ak]<;>rfl),by (with_reducible repeat (first|apply Kd.fg|apply Kd.eV|apply Kd.fj));exact Kd.dA (Kd.eH (p:=⟨gH,4,none⟩) (Kd.eH (p:=⟨gH,3,none⟩) (Kd.eH (p:=⟨gH,2,none⟩) (Kd.eH (p:=⟨gH,1,none⟩) (Kd.eH (p:=⟨gH,0,none⟩) (Kd.mE X6.out ny.out (by decide)) (fun _ hk=>hk.2) (.int .u8 (rd l0 0))) (fun _ hk=>hk.2) (.int .u8 (rd l0 1))) (fun _ hk=>hk.2) (.int .u16 (Go.bits .or .u16 (IntKind.u16.wrap ((IntKind.u16.wrap (rd l0 2))*256)) (IntKind.u16.wrap (rd l0 3))))) (fun _ hk=>hk.2) (.int .u32 (Go.bits .or .u32 (Go.bits .or .u32 (Go.bits .or .u32 ((((rd l0 4) % 4294967296)*16777216) % 4294967296) ((((rd l0 5) % 4294967296)*65536) % 4294967296)) ((((rd l0 6) % 4294967296)*256) % 4294967296)) ((rd l0 7) % 4294967296)))) (fun _ hk=>hk.2) (.slice O2 Lq.length O3)) (fun _ hk=>trivial),bz HB⟩
def kX.f (a0:Int):Option (Int):=if a0=0 then (some 8) else (if a0=8 then (some 8) else (if a0=3 then (some 3) else (if a0=11 then (some 3) else (if a0=12 then (some 3) else (some (-1))))))
theorem kX.calls (a0:Int) (r:Int) (w:World) (h:kX.f a0=some r):
  Calls Try.prog 125 #[.int .u8 a0] w fun e w'=>e= .returned (.int .i64 r) /\ bB w w':=by
 have H:(if a0=0 then (some 8) else (if a0=8 then (some 8) else (if a0=3 then (some 3) else (if a0=11 then (some 3) else (if a0=12 then (some 3) else (some (-1)))))))=some r:=h;clear h
 by_cases c2:a0=0
 ·rw [aq c2] at H
  have j4:(a0==0)=true:=fF c2;have mq:(a0 !=0)=false:=kL c2;clear c2;obtain rfl:=cN H
  go_enter Try.func125,Try.ntmps125
  go_wp2
  go_ret
  exact ⟨by first|rfl|(simp;done)|(simp [*];done),by repeat (first|exact bB.refl _|apply bB.step)⟩
 rw [av c2] at H
 have j4:(a0==0)=false:=fq c2;have mq:(a0 !=0)=true:=lf c2
 by_cases c3:a0=8
 ·rw [aq c3] at H
  have oJ:(a0==8)=true:=fF c3;have qI:(a0 !=8)=false:=kL c3;clear c3;obtain rfl:=cN H
  go_enter Try.func125,Try.ntmps125
  go_wp2
  go_ret
  exact ⟨by first|rfl|(simp;done)|(simp [*];done),by repeat (first|exact bB.refl _|apply bB.step)⟩
 rw [av c3] at H
 have oJ:(a0==8)=false:=fq c3;have qI:(a0 !=8)=true:=lf c3
 by_cases c4:a0=3
 ·rw [aq c4] at H
  have mw:(a0==3)=true:=fF c4;have yh:(a0 !=3)=false:=kL c4;clear c4;obtain rfl:=cN H
  go_enter Try.func125,Try.ntmps125
  go_wp2
  go_ret
  exact ⟨by first|rfl|(simp;done)|(simp [*];done),by repeat (first|exact bB.refl _|apply bB.step)⟩
 rw [av c4] at H
 have mw:(a0==3)=false:=fq c4;have yh:(a0 !=3)=true:=lf c4
 by_cases c5:a0=11
 ·rw [aq c5] at H
  have mJ:(a0==11)=true:=fF c5;have qn:(a0 !=11)=false:=kL c5;clear c5;obtain rfl:=cN H
  go_enter Try.func125,Try.ntmps125
  go_wp2
  go_ret
  exact ⟨by first|rfl|(simp;done)|(simp [*];done),by repeat (first|exact bB.refl _|apply bB.step)⟩
 rw [av c5] at H
 have mJ:(a0==11)=false:=fq c5;have qn:(a0 !=11)=true:=lf c5
 by_cases c6:a0=12
 ·rw [aq c6] at H
  have um:(a0==12)=true:=fF c6;have OZ:(a0 !=12)=false:=kL c6;clear c6;obtain rfl:=cN H
  go_enter Try.func125,Try.ntmps125
  go_wp2
  go_ret
  exact ⟨by first|rfl|(simp;done)|(simp [*];done),by repeat (first|exact bB.refl _|apply bB.step)⟩
 rw [av c6] at H
 have um:(a0==12)=false:=fq c6;have OZ:(a0 !=12)=true:=lf c6;obtain rfl:=cN H
 go_enter Try.func125,Try.ntmps125
 go_wp2
 go_ret
 exact ⟨by first|rfl|(simp;done)|(simp [*];done),by repeat (first|exact bB.refl _|apply bB.step)⟩
def kA.f (aU:Int) (bh:Int) (bn:Int) (bu:Int) (cn:List Int):Option (Bool):=(kX.f aU).bind fun Dn=>(if Dn=8 then (some (bh==0)) else (some false))
theorem kA.calls (aU:Int) (bh:Int) (bn:Int) (bu:Int) (fI:Option Addr) (fJ:Nat) (cn:List Int) (r:Bool) (w:World) (jP:Kd.C (Kd.int .u8) w fI cn.length cn) (jQ:cn.length<=fJ) (h:kA.f aU bh bn bu cn=some r):
  Calls Try.prog 105 #[.agg #[.int .u8 aU,.int .u8 bh,.int .u16 bn,.int .u32 bu,.slice fI cn.length fJ]] w fun e w'=>e= .returned (.bool r) /\ Below w.heap.size w w':=by
 have oA:=Try.underlying101;have oq:=aa.mk jP;have oY:=aa.mk jQ;clear jP jQ;have HB:=gI w;have H:((kX.f aU).bind fun Dn=>(if Dn=8 then (some (bh==0)) else (some false)))=some r:=h;clear h;replace H:=dc H;obtain ⟨Dn,uM,H⟩:=H
 (try dsimp -simprocs only at H)
 have A2:=aa.mk uM;clear uM
 by_cases c3:Dn=8
 ·rw [aq c3] at H
  have oJ:(Dn==8)=true:=fF c3;have qI:(Dn !=8)=false:=kL c3;clear c3;obtain rfl:=cN H
  go_enter Try.func105,Try.ntmps105
  go_wp2_with (first|((with_reducible refine aA (N:=1) rfl ?_);refine aC ?hg (N:=1) ?hd (cs:= #[.int .u8 aU,.int .u8 bh,.int .u16 bn,.int .u32 bu,.slice fI cn.length fJ]) (t:=101) ?hr ?_;(case hd=>rfl);(case hg=>rfl);(case hr=>first|(go_simp;done)|(go_simp;rfl));intro su hg w4 bJ hb;have aH:=aa.mk (au (bz HB) hb);have aK:=aa.mk (bJ);have bt:=aa.mk ((by rw [hg];exact (af (bz HB)):w.heap.size<=su));have cC:=aa.mk ((by rw [hg];exact (af (bz HB)):w.heap.size<=su));clear HB;have HB:=aH;have oC:=aK;have Afv:=bt;have Afw:=cC;clear aH aK bt cC;clear hb bJ hg;have AnM:w4.cell? ⟨su,0,none⟩=some (.int .u8 aU):=cz oC.out 0 rfl;have AnN:w4.cell? ⟨su,1,none⟩=some (.int .u8 bh):=cz oC.out 1 rfl;have AnO:w4.cell? ⟨su,2,none⟩=some (.int .u16 bn):=cz oC.out 2 rfl;have AnP:w4.cell? ⟨su,3,none⟩=some (.int .u32 bu):=cz oC.out 3 rfl;have AnQ:w4.cell? ⟨su,4,none⟩=some (.slice fI cn.length fJ):=cz oC.out 4 rfl;have AnR:=ae oC.out 0;have AnS:=ae oC.out 1;have AnT:=ae oC.out 2;have AnU:=ae oC.out 3;have AnV:=ae oC.out 4)|((with_reducible refine az (f:=125) rfl ?_);refine gL 5 Try.func125 #[.int .u8 aU] ?_;(with_reducible refine (kX.calls aU Dn _ A2.out).mono ?_);rintro e w' ⟨rfl,⟨nd,rfl⟩⟩;refine ⟨_,rfl, ?_⟩))
  go_ret
  exact ⟨by first|rfl|(simp [aj,ak]<;>rfl)|(simp [*,aj,ak]<;>rfl),bz HB⟩
 rw [av c3] at H
 have oJ:(Dn==8)=false:=fq c3;have qI:(Dn !=8)=true:=lf c3;obtain rfl:=cN H
 go_enter Try.func105,Try.ntmps105
 go_wp2_with (first|((with_reducible refine aA (N:=1) rfl ?_);refine aC ?hg (N:=1) ?hd (cs:= #[.int .u8 aU,.int .u8 bh,.int .u16 bn,.int .u32 bu,.slice fI cn.length fJ]) (t:=101) ?hr ?_;(case hd=>rfl);(case hg=>rfl);(case hr=>first|(go_simp;done)|(go_simp;rfl));intro su hg w6 bJ hb;have aH:=aa.mk (au (bz HB) hb);have aK:=aa.mk (bJ);have bt:=aa.mk ((by rw [hg];exact (af (bz HB)):w.heap.size<=su));have cC:=aa.mk ((by rw [hg];exact (af (bz HB)):w.heap.size<=su));clear HB;have HB:=aH;have oC:=aK;have Afv:=bt;have Afw:=cC;clear aH aK bt cC;clear hb bJ hg;have uZ:w6.cell? ⟨su,0,none⟩=some (.int .u8 aU):=cz oC.out 0 rfl;have vk:w6.cell? ⟨su,1,none⟩=some (.int .u8 bh):=cz oC.out 1 rfl;have vn:w6.cell? ⟨su,2,none⟩=some (.int .u16 bn):=cz oC.out 2 rfl;have vp:w6.cell? ⟨su,3,none⟩=some (.int .u32 bu):=cz oC.out 3 rfl;have wX:w6.cell? ⟨su,4,none⟩=some (.slice fI cn.length fJ):=cz oC.out 4 rfl;have vq:=ae oC.out 0;have vu:=ae oC.out 1;have vv:=ae oC.out 2;have vw:=ae oC.out 3;have wY:=ae oC.out 4)|((with_reducible refine az (f:=125) rfl ?_);refine gL 5 Try.func125 #[.int .u8 aU] ?_;(with_reducible refine (kX.calls aU Dn _ A2.out).mono ?_);rintro e w' ⟨rfl,⟨nd,rfl⟩⟩;refine ⟨_,rfl, ?_⟩))
 go_ret
 exact ⟨by first|rfl|(simp [aj,ak]<;>rfl)|(simp [*,aj,ak]<;>rfl),bz HB⟩
def fZ.f (l0:List Int):Option (Bool):=if 0<(l0.length:Int) then (if 1<(l0.length:Int) then ((kA.f (rd l0 0) (rd l0 1) 0 0 ([]:List Int)).bind fun Rw=>(some Rw)) else (none)) else (none)
def fZ.T1:Bool×List (List Nat×List Nat):=(true,[([],[]),([0],[0]),([1],[1]),([],[]),([3],[3]),([4],[4]),([2,5],[2,5]),([6],[6]),([7,7,0,1,2,3,4,5,6,7],[7])])
def fZ.B1:List Nat:=[0,1,3,0,8,24,63,127,255]
theorem fZ.Aa5:gB .any (opsOf Try.f114 1)=fZ.T1:=by kernel_rfl
theorem fZ.Rx:cS fZ.T1.2 fZ.B1=true:=by kernel_rfl
theorem fZ.calls (A0:Option Addr) (c0:Nat) (l0:List Int) (r:Bool) (w:World) (hr0:Kd.C (Kd.int .u8) w A0 l0.length l0) (hc0:l0.length<=c0) (h:fZ.f l0=some r):
  Calls Try.prog 114 #[.slice A0 l0.length c0] w fun e w'=>e= .returned (.bool r) /\ Below w.heap.size w w':=by
 have oA:=Try.underlying101;have gj:=aa.mk hr0;have jx:=aa.mk hc0;clear hr0 hc0;have HB:=gI w;have H:(if 0<(l0.length:Int) then (if 1<(l0.length:Int) then ((kA.f (rd l0 0) (rd l0 1) 0 0 ([]:List Int)).bind fun Rw=>(some Rw)) else (none)) else (none))=some r:=h;clear h
 by_cases c2:0<(l0.length:Int)
 rotate_left
 ·rw [av c2] at H
  cases H
 rw [aq c2] at H
 have j4:decide (0<(l0.length:Int))=true:=bN c2;have mq:decide (0<l0.length)=true:=bN (by omega);clear c2
 by_cases c3:1<(l0.length:Int)
 rotate_left
 ·rw [av c3] at H
  cases H
 rw [aq c3] at H
 have oJ:decide (1<(l0.length:Int))=true:=bN c3;have qI:decide (1<l0.length)=true:=bN (by omega);clear c3;replace H:=dc H;obtain ⟨Rw,qo,H⟩:=H
 (try dsimp -simprocs only at H)
 have A4:=aa.mk qo;clear qo;obtain rfl:=cN H
 go_enter Try.func114,Try.ntmps114
 try go_wp2
 have aH:=aa.mk (bf HB.out);clear HB;have HB:=aH;clear aH;have Aa6:0<=(0:Int):=(by omega)
 have Aa7:0<(l0.length:Int):=gA;obtain ⟨Ng,AnW,vA⟩:=Kd.dG gj.out 0 Aa6 Aa7;have vB:=vA
 (try rw [show ((0:Int)).toNat=0 from rfl] at vB)
 (try rw [show 0*1=0 from rfl] at vB)
 (try rw [Addr.add_zero'] at vB)
 cases AnW
 have Ar5:(0<l0.length)=True:=eq_true (by omega)
 (try rw [show ((0:Int)).toNat=0 from rfl] at vA)
 (try rw [Addr.add_zero'] at vA)
 replace vA:=(HB.out.cell (dF w _ vA)).trans vA;replace Aa6:=eq_true Aa6;replace Aa7:=eq_true Aa7;have Aa8:0<=(1:Int):=(by omega)
 have Aa9:1<(l0.length:Int):=gA;obtain ⟨Afx,AnX,vC⟩:=Kd.dG gj.out 1 Aa8 Aa9;have vD:=vC
 (try rw [show ((1:Int)).toNat=1 from rfl] at vD)
 (try rw [show 1*1=1 from rfl] at vD)
 (try simp only [Nat.reduceMul,Nat.reduceEqDiff,Go.Addr.add,↓reduceIte] at vD)
 obtain rfl:Ng=Afx:=(by injection AnX)
 (try simp only [show (1:Int).toNat=1 from rfl,Nat.reduceMul,Nat.reduceEqDiff,Go.Addr.add,↓reduceIte] at vC)
 have Ar6:(1<l0.length)=True:=eq_true (by omega)
 (try rw [show ((1:Int)).toNat=1 from rfl] at vC)
 replace vC:=(HB.out.cell (dF w _ vC)).trans vC;replace Aa8:=eq_true Aa8;replace Aa9:=eq_true Aa9;refine dB (n:=9) (S:=fun w'=>w'.cell? Ng=some (.int .u8 (rd l0 0)) /\ w'.cell? ⟨Ng.block,Ng.off+1,none⟩=some (.int .u8 (rd l0 1))) (ds:=[]) #[false,false,false,false,false,false,false,false,false] (by kernel_rfl) rfl rfl ⟨((HB.out.cell (dF w _ vB)).trans vB),((HB.out.cell (dF w _ vD)).trans vD)⟩ (fun hHeld=> ?_);refine bF fZ.Aa5 fZ.Rx (fun ax eu=> ?_);generalize w.drew=w5 at HB vA vC hHeld|-
 refine pz 0 3 ax ?_;refine pz 1 4 ax ?_;refine pz 3 6 ax ?_;refine pz 4 7 ax ?_;refine gF (i:=2) (N:=some 5) (v:= ?_) (a':= ?_) #[true,true,true,true,true,false,false,false,false] rfl rfl (dm ax.out eu.out (by kernel_rfl)) (fun _ _ _ h=>h) (Or.inl ⟨by rfl, ?_⟩) hHeld ?_ ?_
 rotate_left
 ·rintro w' ⟨s0,s1⟩
  go_simp
  with_reducible rfl
 rotate_left
 ·simp only [pG]
  rfl
 refine gF (i:=5) (N:=some 8) (v:= ?_) (a':= ?_) #[true,true,true,true,true,true,false,false,false] rfl rfl (dm ax.out eu.out (by kernel_rfl)) (fun _ _ _ h=>h) (Or.inl ⟨by rfl, ?_⟩) hHeld ?_ ?_
 rotate_left
 ·rintro w' ⟨s0,s1⟩
  go_simp
  with_reducible rfl
 rotate_left
 ·simp only [pG]
  rfl
 refine pz 6 9 ax ?_;refine oz 7 (some 10) ax (fun K hK=> ?_);refine gG Try.func105 #[.agg #[.int .u8 (rd l0 0),.int .u8 (rd l0 1),.int .u16 0,.int .u32 0,.slice none 0 0]] ?_;refine (kA.calls (rd l0 0) (rd l0 1) 0 0 _ _ ([]:List Int) Rw _ ?aE ?aG A4.out).mono ?_
 (case aE=>exact Kd.Dc _ _)
 (case aG=>exact Nat.le_refl _)
 rintro e w6 ⟨rfl,hb⟩;refine ⟨_,rfl, ?_⟩;have aH:=aa.mk (au (bz HB) hb);clear HB;have HB:=aH;clear aH
 (try clear hb)
 (try clear hb2)
 (try clear hk)
 (try clear hi)
 refine hK.out _ _ ⟨((HB.out.cell (dF w _ vB)).trans vB),((HB.out.cell (dF w _ vD)).trans vD)⟩ (fun hHeld=> ?_);clear hK K;refine nz 10 ?_;refine pz 8 2 ax ?_;refine dz ax ?_
 try go_wp2
 go_ret
 exact ⟨by first|rfl|(simp [aj,ak]<;>rfl)|(simp [*,aj,ak]<;>rfl),bz HB⟩
theorem oK.Aba (a t i fl cr s d:Int) (Ao:Option Addr) (no co:Nat) (Ab:Option Addr) (cb:Nat) (b:List Int) (us ud uc e_:Int) (ub:List Int) (w:World) (hb:Kd.C (Kd.int .u8) w Ab b.length b) (hc:b.length<=cb) (hp:jd.f b=some (us,ud,uc,ub,e_)):
  Calls Try.prog 103 #[.agg #[.int .u8 a,.int .u8 t,.int .u8 17,.int .u16 i,.int .u8 fl,.int .u16 cr,.int .u32 s,.int .u32 d,.slice Ao no co,.slice Ab b.length cb]] w fun e w'=>∃ v3:Value,e= .returned (.tuple #[.iface 179 (.agg #[.int .u16 us,.int .u16 ud,.int .u16 uc,v3]),.int .i64 e_]) /\ Kd.R (Kd.int .u8) 5 w' w.heap.size (fun _=>True) v3 ub /\ Below w.heap.size w w':=by
 have Ja:=aa.mk hb;have X7:=aa.mk hc;have HB:=gI w;have eN:aa ((Try.prog.info? 73).map (·.size)=some 10):=⟨by kernel_rfl⟩
 have yj:aa ((Try.prog.info? 83).map (·.size)=some 4):=⟨by kernel_rfl⟩
 have mz:aa ((Try.prog.info? 137).map (·.size)=some 10):=⟨by kernel_rfl⟩
 have jD:aa ((Try.prog.info? 101).map (·.size)=some 5):=⟨by kernel_rfl⟩
 have HP:=aa.mk hp;clear hp;clear hb hc
 go_enter Try.func103,Try.ntmps103
 go_upto_region 1 with (((with_reducible refine aA (N:=1) rfl ?_);refine Kd.bU rfl (v:= .pointer (some ⟨w.heap.size,0,none⟩)) (w1:=w.alloc (.cells #[.int .u8 a,.int .u8 t,.int .u8 17,.int .u16 i,.int .u8 fl,.int .u16 cr,.int .u32 s,.int .u32 d,.slice Ao no co,.slice Ab b.length cb] 73)) (by first|(go_simp;done)|(go_simp;rfl)) ?_))
 obtain ⟨gp,zC⟩:∃ x_,x_=w.heap.size:=⟨_,rfl⟩
 have aZ:aa ((w.alloc (.cells #[.int .u8 a,.int .u8 t,.int .u8 17,.int .u16 i,.int .u8 fl,.int .u16 cr,.int .u32 s,.int .u32 d,.slice Ao no co,.slice Ab b.length cb] 73)).heap[gp]?=some (.cells #[.int .u8 a,.int .u8 t,.int .u8 17,.int .u16 i,.int .u8 fl,.int .u16 cr,.int .u32 s,.int .u32 d,.slice Ao no co,.slice Ab b.length cb] 73 (0,0))):=⟨by rw [zC];exact iT _ _⟩
 have lV:=aa.mk (show w.heap.size<=gp by rw [zC];exact af HB.out);rw [<- zC];clear zC;have ai:=dV (Below.refl w.heap.size w) (.cells #[.int .u8 a,.int .u8 t,.int .u8 17,.int .u16 i,.int .u8 fl,.int .u16 cr,.int .u32 s,.int .u32 d,.slice Ao no co,.slice Ab b.length cb] 73);replace HB:=mB HB ai;replace Ja:=mC Ja ai;clear ai;generalize (w.alloc (.cells #[.int .u8 a,.int .u8 t,.int .u8 17,.int .u16 i,.int .u8 fl,.int .u16 cr,.int .u32 s,.int .u32 d,.slice Ao no co,.slice Ab b.length cb] 73))=w1 at aZ HB Ja|-
 have oL:=cz aZ.out 2 rfl;have yl:=cz aZ.out 9 rfl
 go_wp2_with fail
 clear oL yl;refine (jd.calls Ab cb b us ud uc ub e_ _ Ja.out X7.out HP.out).mono ?_;rintro ev w2 ⟨v3,rfl,ho3,hb⟩;have HR3:=lO ho3 HB;obtain ⟨A3,c3,rfl,_,_⟩:=Kd.cj ho3;clear ho3;clear HP Ja X7 aZ lV;have ai:=hb;replace HB:=mB HB ai;clear ai;clear hb
 (try dsimp only)
 go_upto_region 4 with ((first|(refine lX rfl rfl (uh rfl rfl rfl yj.out rfl (by simp [Value.oneCell'])) ?_)))
 obtain ⟨gu,Gr⟩:∃ x_,x_=w2.heap.size:=⟨_,rfl⟩
 have cM:aa ((w2.alloc (.cells #[.int .u16 us,.int .u16 ud,.int .u16 uc,.slice A3 ub.length c3] 83)).heap[gu]?=some (.cells #[.int .u16 us,.int .u16 ud,.int .u16 uc,.slice A3 ub.length c3] 83 (0,0))):=⟨by rw [Gr];exact iT _ _⟩
 have sW:=aa.mk (show w.heap.size<=gu by rw [Gr];exact af HB.out);rw [<- Gr];clear Gr;have ai:=dV (Below.refl w2.heap.size w2) (.cells #[.int .u16 us,.int .u16 ud,.int .u16 uc,.slice A3 ub.length c3] 83);replace HB:=mB HB ai;replace HR3:=mR HR3 ai;clear ai;generalize (w2.alloc (.cells #[.int .u16 us,.int .u16 ud,.int .u16 uc,.slice A3 ub.length c3] 83))=w3 at cM HB HR3|-
 go_wp2_with (refine Kd.bU rfl (bM rfl rfl cM.out Try.underlying83 rfl yj.out) ?_)
 (try simp only [Exit.inBlock,Exit.then])
 go_ret2
 exact ⟨_,rfl,HR3.out,HB.out⟩
theorem oK.Abb (a t i fl cr s d:Int) (Ao:Option Addr) (no co:Nat) (Ab:Option Addr) (cb:Nat) (b:List Int) (ts td tq ta tf tw tc tu e_:Int) (tJ tb:List Int) (w:World) (hb:Kd.C (Kd.int .u8) w Ab b.length b) (hc:b.length<=cb) (hp:nT.f b=some (ts,td,tq,ta,tf,tw,tc,tu,tJ,tb,e_)):
  Calls Try.prog 103 #[.agg #[.int .u8 a,.int .u8 t,.int .u8 6,.int .u16 i,.int .u8 fl,.int .u16 cr,.int .u32 s,.int .u32 d,.slice Ao no co,.slice Ab b.length cb]] w fun e w'=>∃ v8 v9:Value,e= .returned (.tuple #[.iface 181 (.agg #[.int .u16 ts,.int .u16 td,.int .u32 tq,.int .u32 ta,.int .u8 tf,.int .u16 tw,.int .u16 tc,.int .u16 tu,v8,v9]),.int .i64 e_]) /\ Kd.R (Kd.int .u8) 5 w' w.heap.size (fun _=>True) v8 tJ /\ Kd.R (Kd.int .u8) 5 w' w.heap.size (fun _=>True) v9 tb /\ Below w.heap.size w w':=by
 have Ja:=aa.mk hb;have X7:=aa.mk hc;have HB:=gI w;have eN:aa ((Try.prog.info? 73).map (·.size)=some 10):=⟨by kernel_rfl⟩
 have yj:aa ((Try.prog.info? 83).map (·.size)=some 4):=⟨by kernel_rfl⟩
 have mz:aa ((Try.prog.info? 137).map (·.size)=some 10):=⟨by kernel_rfl⟩
 have jD:aa ((Try.prog.info? 101).map (·.size)=some 5):=⟨by kernel_rfl⟩
 have HP:=aa.mk hp;clear hp;clear hb hc
 go_enter Try.func103,Try.ntmps103
 go_upto_region 1 with (((with_reducible refine aA (N:=1) rfl ?_);refine Kd.bU rfl (v:= .pointer (some ⟨w.heap.size,0,none⟩)) (w1:=w.alloc (.cells #[.int .u8 a,.int .u8 t,.int .u8 6,.int .u16 i,.int .u8 fl,.int .u16 cr,.int .u32 s,.int .u32 d,.slice Ao no co,.slice Ab b.length cb] 73)) (by first|(go_simp;done)|(go_simp;rfl)) ?_))
 obtain ⟨gp,zC⟩:∃ x_,x_=w.heap.size:=⟨_,rfl⟩
 have aZ:aa ((w.alloc (.cells #[.int .u8 a,.int .u8 t,.int .u8 6,.int .u16 i,.int .u8 fl,.int .u16 cr,.int .u32 s,.int .u32 d,.slice Ao no co,.slice Ab b.length cb] 73)).heap[gp]?=some (.cells #[.int .u8 a,.int .u8 t,.int .u8 6,.int .u16 i,.int .u8 fl,.int .u16 cr,.int .u32 s,.int .u32 d,.slice Ao no co,.slice Ab b.length cb] 73 (0,0))):=⟨by rw [zC];exact iT _ _⟩
 have lV:=aa.mk (show w.heap.size<=gp by rw [zC];exact af HB.out);rw [<- zC];clear zC;have ai:=dV (Below.refl w.heap.size w) (.cells #[.int .u8 a,.int .u8 t,.int .u8 6,.int .u16 i,.int .u8 fl,.int .u16 cr,.int .u32 s,.int .u32 d,.slice Ao no co,.slice Ab b.length cb] 73);replace HB:=mB HB ai;replace Ja:=mC Ja ai;clear ai;generalize (w.alloc (.cells #[.int .u8 a,.int .u8 t,.int .u8 6,.int .u16 i,.int .u8 fl,.int .u16 cr,.int .u32 s,.int .u32 d,.slice Ao no co,.slice Ab b.length cb] 73))=w1 at aZ HB Ja|-
 have oL:=cz aZ.out 2 rfl;have yl:=cz aZ.out 9 rfl
 go_wp2_with fail
 clear oL yl;refine (nT.Aay Ab cb b ts td tq ta tf tw tc tu tJ tb e_ _ Ja.out X7.out HP.out).mono ?_;rintro ev w2 ⟨v8,v9,rfl,E3,ym,hb⟩;have HR8:=lO E3 HB;obtain ⟨A8,c8,rfl,_,_⟩:=Kd.cj E3;clear E3;have HR9:=lO ym HB;obtain ⟨A9,c9,rfl,_,_⟩:=Kd.cj ym;clear ym;clear HP Ja X7 aZ lV;have ai:=hb;replace HB:=mB HB ai;clear ai;clear hb
 (try dsimp only)
 go_upto_region 7 with ((first|(refine lX rfl rfl (uh rfl rfl rfl mz.out rfl (by simp [Value.oneCell'])) ?_)))
 obtain ⟨gu,Gr⟩:∃ x_,x_=w2.heap.size:=⟨_,rfl⟩
 have cM:aa ((w2.alloc (.cells #[.int .u16 ts,.int .u16 td,.int .u32 tq,.int .u32 ta,.int .u8 tf,.int .u16 tw,.int .u16 tc,.int .u16 tu,.slice A8 tJ.length c8,.slice A9 tb.length c9] 137)).heap[gu]?=some (.cells #[.int .u16 ts,.int .u16 td,.int .u32 tq,.int .u32 ta,.int .u8 tf,.int .u16 tw,.int .u16 tc,.int .u16 tu,.slice A8 tJ.length c8,.slice A9 tb.length c9] 137 (0,0))):=⟨by rw [Gr];exact iT _ _⟩
 have sW:=aa.mk (show w.heap.size<=gu by rw [Gr];exact af HB.out);rw [<- Gr];clear Gr;have ai:=dV (Below.refl w2.heap.size w2) (.cells #[.int .u16 ts,.int .u16 td,.int .u32 tq,.int .u32 ta,.int .u8 tf,.int .u16 tw,.int .u16 tc,.int .u16 tu,.slice A8 tJ.length c8,.slice A9 tb.length c9] 137);replace HB:=mB HB ai;replace HR8:=mR HR8 ai;replace HR9:=mR HR9 ai;clear ai;generalize (w2.alloc (.cells #[.int .u16 ts,.int .u16 td,.int .u32 tq,.int .u32 ta,.int .u8 tf,.int .u16 tw,.int .u16 tc,.int .u16 tu,.slice A8 tJ.length c8,.slice A9 tb.length c9] 137))=w3 at cM HB HR8 HR9|-
 go_wp2_with (refine Kd.bU rfl (bM rfl rfl cM.out Try.underlying137 rfl mz.out) ?_)
 (try simp only [Exit.inBlock,Exit.then])
 go_ret2
 exact ⟨_,_,rfl,HR8.out,HR9.out,HB.out⟩
theorem oK.VI (a t i fl cr s d:Int) (Ao:Option Addr) (no co:Nat) (Ab:Option Addr) (cb:Nat) (b:List Int) (mt mc ms mr e_:Int) (mb:List Int) (w:World) (hb:Kd.C (Kd.int .u8) w Ab b.length b) (hc:b.length<=cb) (hp:iD.f b=some (mt,mc,ms,mr,mb,e_)):
  Calls Try.prog 103 #[.agg #[.int .u8 a,.int .u8 t,.int .u8 1,.int .u16 i,.int .u8 fl,.int .u16 cr,.int .u32 s,.int .u32 d,.slice Ao no co,.slice Ab b.length cb]] w fun e w'=>∃ v4:Value,e= .returned (.tuple #[.iface 183 (.agg #[.int .u8 mt,.int .u8 mc,.int .u16 ms,.int .u32 mr,v4]),.int .i64 e_]) /\ Kd.R (Kd.int .u8) 5 w' w.heap.size (fun _=>True) v4 mb /\ Below w.heap.size w w':=by
 have Ja:=aa.mk hb;have X7:=aa.mk hc;have HB:=gI w;have eN:aa ((Try.prog.info? 73).map (·.size)=some 10):=⟨by kernel_rfl⟩
 have yj:aa ((Try.prog.info? 83).map (·.size)=some 4):=⟨by kernel_rfl⟩
 have mz:aa ((Try.prog.info? 137).map (·.size)=some 10):=⟨by kernel_rfl⟩
 have jD:aa ((Try.prog.info? 101).map (·.size)=some 5):=⟨by kernel_rfl⟩
 have HP:=aa.mk hp;clear hp;clear hb hc
 go_enter Try.func103,Try.ntmps103
 go_upto_region 1 with (((with_reducible refine aA (N:=1) rfl ?_);refine Kd.bU rfl (v:= .pointer (some ⟨w.heap.size,0,none⟩)) (w1:=w.alloc (.cells #[.int .u8 a,.int .u8 t,.int .u8 1,.int .u16 i,.int .u8 fl,.int .u16 cr,.int .u32 s,.int .u32 d,.slice Ao no co,.slice Ab b.length cb] 73)) (by first|(go_simp;done)|(go_simp;rfl)) ?_))
 obtain ⟨gp,zC⟩:∃ x_,x_=w.heap.size:=⟨_,rfl⟩
 have aZ:aa ((w.alloc (.cells #[.int .u8 a,.int .u8 t,.int .u8 1,.int .u16 i,.int .u8 fl,.int .u16 cr,.int .u32 s,.int .u32 d,.slice Ao no co,.slice Ab b.length cb] 73)).heap[gp]?=some (.cells #[.int .u8 a,.int .u8 t,.int .u8 1,.int .u16 i,.int .u8 fl,.int .u16 cr,.int .u32 s,.int .u32 d,.slice Ao no co,.slice Ab b.length cb] 73 (0,0))):=⟨by rw [zC];exact iT _ _⟩
 have lV:=aa.mk (show w.heap.size<=gp by rw [zC];exact af HB.out);rw [<- zC];clear zC;have ai:=dV (Below.refl w.heap.size w) (.cells #[.int .u8 a,.int .u8 t,.int .u8 1,.int .u16 i,.int .u8 fl,.int .u16 cr,.int .u32 s,.int .u32 d,.slice Ao no co,.slice Ab b.length cb] 73);replace HB:=mB HB ai;replace Ja:=mC Ja ai;clear ai;generalize (w.alloc (.cells #[.int .u8 a,.int .u8 t,.int .u8 1,.int .u16 i,.int .u8 fl,.int .u16 cr,.int .u32 s,.int .u32 d,.slice Ao no co,.slice Ab b.length cb] 73))=w1 at aZ HB Ja|-
 have oL:=cz aZ.out 2 rfl;have yl:=cz aZ.out 9 rfl
 go_wp2_with fail
 clear oL yl;refine (iD.calls Ab cb b mt mc ms mr mb e_ _ Ja.out X7.out HP.out).mono ?_;rintro ev w2 ⟨v4,rfl,ho4,hb⟩;have HR4:=lO ho4 HB;obtain ⟨A4,c4,rfl,_,_⟩:=Kd.cj ho4;clear ho4;clear HP Ja X7 aZ lV;have ai:=hb;replace HB:=mB HB ai;clear ai;clear hb
 (try dsimp only)
 go_upto_region 10 with ((first|(refine lX rfl rfl (uh rfl rfl rfl jD.out rfl (by simp [Value.oneCell'])) ?_)))
 obtain ⟨gu,Gr⟩:∃ x_,x_=w2.heap.size:=⟨_,rfl⟩
 have cM:aa ((w2.alloc (.cells #[.int .u8 mt,.int .u8 mc,.int .u16 ms,.int .u32 mr,.slice A4 mb.length c4] 101)).heap[gu]?=some (.cells #[.int .u8 mt,.int .u8 mc,.int .u16 ms,.int .u32 mr,.slice A4 mb.length c4] 101 (0,0))):=⟨by rw [Gr];exact iT _ _⟩
 have sW:=aa.mk (show w.heap.size<=gu by rw [Gr];exact af HB.out);rw [<- Gr];clear Gr;have ai:=dV (Below.refl w2.heap.size w2) (.cells #[.int .u8 mt,.int .u8 mc,.int .u16 ms,.int .u32 mr,.slice A4 mb.length c4] 101);replace HB:=mB HB ai;replace HR4:=mR HR4 ai;clear ai;generalize (w2.alloc (.cells #[.int .u8 mt,.int .u8 mc,.int .u16 ms,.int .u32 mr,.slice A4 mb.length c4] 101))=w3 at cM HB HR4|-
 go_wp2_with (refine Kd.bU rfl (bM rfl rfl cM.out Try.underlying101 rfl jD.out) ?_)
 (try simp only [Exit.inBlock,Exit.then])
 go_ret2
 exact ⟨_,rfl,HR4.out,HB.out⟩
theorem oK.Ry (a t i fl cr s d:Int) (Ao:Option Addr) (no co:Nat) (Ab:Option Addr) (cb:Nat) (b:List Int) (pr:Int) (w:World) (VJ:¬ pr=17) (n6:¬ pr=6) (n1:¬ pr=1):
  Calls Try.prog 103 #[.agg #[.int .u8 a,.int .u8 t,.int .u8 pr,.int .u16 i,.int .u8 fl,.int .u16 cr,.int .u32 s,.int .u32 d,.slice Ao no co,.slice Ab b.length cb]] w fun e w'=>e= .returned (.tuple #[.nilIface,.int .i64 21]) /\ Below w.heap.size w w':=by
 have HB:=gI w;have AnZ:(pr==17)=false:=fq VJ;have An0:(pr !=17)=true:=bne_iff_ne.2 VJ;have n61:(pr==6)=false:=fq n6;have n62:(pr !=6)=true:=bne_iff_ne.2 n6;have n11:(pr==1)=false:=fq n1;have n12:(pr !=1)=true:=bne_iff_ne.2 n1;clear VJ n6 n1
 go_enter Try.func103,Try.ntmps103
 go_upto_region 1 with (((with_reducible refine aA (N:=1) rfl ?_);refine Kd.bU rfl (v:= .pointer (some ⟨w.heap.size,0,none⟩)) (w1:=w.alloc (.cells #[.int .u8 a,.int .u8 t,.int .u8 pr,.int .u16 i,.int .u8 fl,.int .u16 cr,.int .u32 s,.int .u32 d,.slice Ao no co,.slice Ab b.length cb] 73)) (by first|(go_simp;done)|(go_simp;rfl)) ?_))
 obtain ⟨gp,zC⟩:∃ x_,x_=w.heap.size:=⟨_,rfl⟩
 have aZ:aa ((w.alloc (.cells #[.int .u8 a,.int .u8 t,.int .u8 pr,.int .u16 i,.int .u8 fl,.int .u16 cr,.int .u32 s,.int .u32 d,.slice Ao no co,.slice Ab b.length cb] 73)).heap[gp]?=some (.cells #[.int .u8 a,.int .u8 t,.int .u8 pr,.int .u16 i,.int .u8 fl,.int .u16 cr,.int .u32 s,.int .u32 d,.slice Ao no co,.slice Ab b.length cb] 73 (0,0))):=⟨by rw [zC];exact iT _ _⟩
 have lV:=aa.mk (show w.heap.size<=gp by rw [zC];exact af HB.out);rw [<- zC];clear zC;have ai:=dV (Below.refl w.heap.size w) (.cells #[.int .u8 a,.int .u8 t,.int .u8 pr,.int .u16 i,.int .u8 fl,.int .u16 cr,.int .u32 s,.int .u32 d,.slice Ao no co,.slice Ab b.length cb] 73);replace HB:=mB HB ai;clear ai;generalize (w.alloc (.cells #[.int .u8 a,.int .u8 t,.int .u8 pr,.int .u16 i,.int .u8 fl,.int .u16 cr,.int .u32 s,.int .u32 d,.slice Ao no co,.slice Ab b.length cb] 73))=w1 at aZ HB|-
 have oL:=cz aZ.out 2 rfl;have yl:=cz aZ.out 9 rfl
 go_wp2
 (try simp only [Exit.inBlock,Exit.then])
 go_ret2
 exact ⟨rfl,HB.out⟩
attribute [local go_sem] dI dJ eI eJ cO cP dK dL
def dU.l0:Nat ->Int ->Option (Int)
 |0,_=>none
 |k+1,x0=>if (x0 / 65536)=0 then (some (IntKind.u16.wrap (x0))) else (dU.l0 k (((Go.bits .and .u32 x0 65535)+(x0 / 65536)) % 4294967296))
def dU.f (k:Nat) (a0:Int):Option (Int):=dU.l0 k a0
theorem dU.calls (k:Nat) (a0:Int) (r:Int) (w:World) (h:dU.f k a0=some r):
  Calls Try.prog 115 #[.int .u32 a0] w fun e w'=>e= .returned (.int .u16 r) /\ bB w w':=by
 have H:(dU.l0 k a0)=some r:=h;clear h;have H':=aa.mk H;clear H
 go_enter Try.func115,Try.ntmps115
 go_wp2
 go_loopg [0] k (fun kq v0 w'=>∃ (qq:Int),v0= .int .u32 qq /\ aa (dU.l0 kq qq=some r) /\ aa (kq<=k) /\ bB w w')
 case atStart=>exact ⟨(a0),(by first|rfl|(simp;done)|(simp [*];done)),H',⟨Nat.le_refl _⟩,by repeat (first|exact bB.refl _|apply bB.step)⟩
 clear H';obtain ⟨qq,rfl,HA,xR,⟨m1,rfl⟩⟩:=hrel
 cases gk with
 |zero=>exact absurd HA.out (by simp [dU.l0])
 |succ k1=>
  have H:=HA.out;clear HA;simp only [dU.l0] at H
  by_cases c2:(qq / 65536)=0
  ·rw [aq c2] at H
   have j4:((qq / 65536)==0)=true:=fF c2;have mq:((qq / 65536) !=0)=false:=kL c2;clear c2;obtain rfl:=cN H
   go_wp2
   go_ret
   exact ⟨by first|rfl|(simp;done)|(simp [*];done),by repeat (first|exact bB.refl _|apply bB.step)⟩
  rw [av c2] at H
  have j4:((qq / 65536)==0)=false:=fq c2;have mq:((qq / 65536) !=0)=true:=lf c2;have H':=aa.mk H;clear H
  go_wp2
  go_roundg k1
  case measure=>have:=xR.out;omega
  case rel=>exact ⟨(((Go.bits .and .u32 qq 65535)+(qq / 65536)) % 4294967296),(by first|rfl|(simp;done)|(simp [*];done)),H',⟨by have:=xR.out;omega⟩,by repeat (first|exact bB.refl _|apply bB.step)⟩
def gX.l0:Nat ->List Int ->List Int ->Int ->Int ->Option (List Int)
 |0,_,_,_,_=>none
 |k+1,x0,x3,x9,Cu=>if Cu<x9 then (if 0<=(wrap64 (2*Cu)) then (if (wrap64 (2*Cu))<(x0.length:Int) then (if (wrap64 ((wrap64 (2*Cu))+1))<(x0.length:Int) then (if 0<=(wrap64 ((wrap64 (2*Cu))+1)) then (if x3.length<70368744177664 then (gX.l0 k x0 (x3++[Go.bits .or .u16 (IntKind.u16.wrap ((IntKind.u16.wrap (rd x0 (wrap64 (2*Cu))))*256)) (IntKind.u16.wrap (rd x0 (wrap64 ((wrap64 (2*Cu))+1))))]) x9 (wrap64 (Cu+1))) else (none)) else (none)) else (if x3.length<70368744177664 then (gX.l0 k x0 (x3++[IntKind.u16.wrap ((IntKind.u16.wrap (rd x0 (wrap64 (2*Cu))))*256)]) x9 (wrap64 (Cu+1))) else (none))) else (none)) else (none)) else (some x3)
def gX.f (k:Nat) (l0:List Int):Option (List Int):=gX.l0 k l0 ([]:List Int) (wrap64 (Int.tdiv (wrap64 ((l0.length:Int)+1)) 2)) 0
theorem gX.calls (k:Nat) (A0:Option Addr) (c0:Nat) (l0:List Int) (r:List Int) (w:World) (hr0:Kd.C (Kd.int .u8) w A0 l0.length l0) (hc0:l0.length<=c0) (h:gX.f k l0=some r):
  Calls Try.prog 128 #[.slice A0 l0.length c0] w fun e w'=>∃ oW:Value,e= .returned (oW) /\ Kd.R (Kd.int .u16) 45 w' w.heap.size (fun _=>True) oW r /\ Below w.heap.size w w':=by
 have gj:=aa.mk hr0;have jx:=aa.mk hc0;clear hr0 hc0;have HB:=gI w;have H:(gX.l0 k l0 ([]:List Int) (wrap64 (Int.tdiv (wrap64 ((l0.length:Int)+1)) 2)) 0)=some r:=h;clear h;have H':=aa.mk H;clear H
 go_enter Try.func128,Try.ntmps128
 go_wp2
 go_loopg [3,10] k (fun kq v3 v10 w'=>∃ (nB:List Int) (uz:Int),v10= .int .i64 uz /\ aa (gX.l0 kq l0 nB (wrap64 (Int.tdiv (wrap64 ((l0.length:Int)+1)) 2)) uz=some r) /\ aa (kq<=k) /\ aa (Kd.R (Kd.int .u16) 45 w' w.heap.size (fun _=>True) v3 nB) /\ aa (Below w.heap.size w w'))
 case atStart=>exact ⟨(([]:List Int)),(0),(by first|rfl|(simp;done)|(simp [*];done)),H',⟨Nat.le_refl _⟩,⟨by first|exact Kd.bX _ _ _ _ _|exact Kd.jn _ _ _ _ _|exact Kd.jo _ _ _ _ _|exact Kd.jl _ _ _ _ _|exact Kd.jm _ _ _ _ _⟩,⟨bz HB⟩⟩
 clear H';obtain ⟨nB,uz,rfl,HA,xR,Dp,HB⟩:=hrel
 cases gk with
 |zero=>exact absurd HA.out (by simp [gX.l0])
 |succ k1=>
  have H:=HA.out;clear HA;simp only [gX.l0] at H
  by_cases c2:uz<(wrap64 (Int.tdiv (wrap64 ((l0.length:Int)+1)) 2))
  rotate_left
  ·rw [av c2] at H
   have j4:decide (uz<(wrap64 (Int.tdiv (wrap64 ((l0.length:Int)+1)) 2)))=false:=gN c2;clear c2;obtain rfl:=cN H
   go_wp2
   go_ret
   exact ⟨_,by first|rfl|(simp [aj,ak]<;>rfl)|(simp [*,aj,ak]<;>rfl),by (with_reducible repeat (first|apply Kd.fg|apply Kd.eV|apply Kd.fj));exact Dp.out,bz HB⟩
  rw [aq c2] at H
  have j4:decide (uz<(wrap64 (Int.tdiv (wrap64 ((l0.length:Int)+1)) 2)))=true:=bN c2;clear c2;obtain ⟨zD,Abc⟩:∃ j_:Int,(wrap64 (2*uz))=j_:=⟨_,rfl⟩
  replace H:(if 0<=(zD) then (if (zD)<(l0.length:Int) then (if (wrap64 ((zD)+1))<(l0.length:Int) then (if 0<=(wrap64 ((zD)+1)) then (if nB.length<70368744177664 then (gX.l0 k1 l0 (nB++[Go.bits .or .u16 (IntKind.u16.wrap ((IntKind.u16.wrap (rd l0 (zD)))*256)) (IntKind.u16.wrap (rd l0 (wrap64 ((zD)+1))))]) (wrap64 (Int.tdiv (wrap64 ((l0.length:Int)+1)) 2)) (wrap64 (uz+1))) else (none)) else (none)) else (if nB.length<70368744177664 then (gX.l0 k1 l0 (nB++[IntKind.u16.wrap ((IntKind.u16.wrap (rd l0 (zD)))*256)]) (wrap64 (Int.tdiv (wrap64 ((l0.length:Int)+1)) 2)) (wrap64 (uz+1))) else (none))) else (none)) else (none))=some r:=by first|(rw [Abc] at H;exact H)|(simp only [Abc] at H|-;exact H)
  have Ar7:(IntKind.i64.wrap (2*uz))=zD:=(gK _).trans Abc
  by_cases c4:0<=(zD)
  rotate_left
  ·rw [av c4] at H
   cases H
  rw [aq c4] at H
  have mw:decide (0<=(zD))=true:=bN c4;clear c4
  by_cases c5:(zD)<(l0.length:Int)
  rotate_left
  ·rw [av c5] at H
   cases H
  rw [aq c5] at H
  have mJ:decide ((zD)<(l0.length:Int))=true:=bN c5;clear c5
  by_cases c6:(wrap64 ((zD)+1))<(l0.length:Int)
  ·rw [aq c6] at H
   have um:decide ((wrap64 ((zD)+1))<(l0.length:Int))=true:=bN c6;clear c6;obtain ⟨yL,zP⟩:∃ j_:Int,(wrap64 ((zD)+1))=j_:=⟨_,rfl⟩
   replace H:(if 0<=(yL) then (if nB.length<70368744177664 then (gX.l0 k1 l0 (nB++[Go.bits .or .u16 (IntKind.u16.wrap ((IntKind.u16.wrap (rd l0 (zD)))*256)) (IntKind.u16.wrap (rd l0 (yL)))]) (wrap64 (Int.tdiv (wrap64 ((l0.length:Int)+1)) 2)) (wrap64 (uz+1))) else (none)) else (none))=some r:=by first|(rw [zP] at H;exact H)|(simp only [zP] at H|-;exact H)
   (try rw [zP] at um)
   have Afy:(IntKind.i64.wrap ((zD)+1))=yL:=(gK _).trans zP
   by_cases c8:0<=(yL)
   rotate_left
   ·rw [av c8] at H
    cases H
   rw [aq c8] at H
   have nU:decide (0<=(yL))=true:=bN c8;clear c8
   by_cases c9:nB.length<70368744177664
   ·rw [aq c9] at H
    have Rz:=aa.mk c9;clear c9;obtain ⟨An1,RA⟩:∃ y_:List Int,y_=(nB++[Go.bits .or .u16 (IntKind.u16.wrap ((IntKind.u16.wrap (rd l0 (zD)))*256)) (IntKind.u16.wrap (rd l0 (yL)))]):=⟨_,rfl⟩
    rw [<- RA] at H
    have Afz:=aa.mk RA;clear RA;have H':=aa.mk H;clear H;have Ls:0<=((zD):Int):=gA;have Lt:(zD)<(l0.length:Int):=gA;obtain ⟨X8,Abd,vE⟩:=Kd.dG gj.out (zD) Ls Lt
    cases Abd
    replace vE:=(HB.out.cell (dF w _ vE)).trans vE;replace Ls:=eq_true Ls;replace Lt:=eq_true Lt;have Abe:0<=((yL):Int):=gA;have Abf:(yL)<(l0.length:Int):=gA;obtain ⟨AfA,An2,Gs⟩:=Kd.dG gj.out (yL) Abe Abf;obtain rfl:X8=AfA:=(by injection An2)
    replace Gs:=(HB.out.cell (dF w _ Gs)).trans Gs;replace Abe:=eq_true Abe;replace Abf:=eq_true Abf
    go_wp2_with (first|((with_reducible refine fB (b:= .append) (xs:= #[.tmp 35,.tmp 37]) rfl ?_);at_builtin;refine Kd.zF (Kd.int .u16) (w0:=w) w.heap.size rfl (.tmp 35) (.tmp 37) 22 45 (.int .u16 0) 2 rfl Try.underlying22 Gn rfl (by decide) (by omega) u3 nB (Go.bits .or .u16 (IntKind.u16.wrap ((IntKind.u16.wrap (rd l0 (zD)))*256)) (IntKind.u16.wrap (rd l0 (yL)))) [.int .u16 (Go.bits .or .u16 (IntKind.u16.wrap ((IntKind.u16.wrap (rd l0 (zD)))*256)) (IntKind.u16.wrap (rd l0 (yL))))] (fun _=>True) (fun _=>False) rfl rfl ?aP (fun _ hk=>hk.elim) ?aF ?aO ?aB ?aS ?aL ?_;(case aP=>exact rfl);(case aB=>exact bz HB);(case aF=>exact (fun _ _=>trivial));(case aO=>exact (Kd.rz Dp));(case aS=>exact (af (bz HB)));(case aL=>have:=Rz.out;omega);intro Avu ku ho hb hg hat;rw [<- Afz.out] at ho;have aH:=aa.mk (hb);have aK:=aa.mk (ho);clear HB;clear Dp;have HB:=aH;have AfB:=aK;clear aH aK;clear ho hb hg hat))
    go_roundg k1
    case measure=>have:=xR.out;omega
    case rel=>exact ⟨(An1),(wrap64 (uz+1)),(by first|rfl|(simp;done)|(simp [*];done)),H',⟨by have:=xR.out;omega⟩,⟨Kd.rz AfB⟩,⟨bz HB⟩⟩
   rw [av c9] at H
   cases H
  rw [av c6] at H
  have um:decide ((wrap64 ((zD)+1))<(l0.length:Int))=false:=gN c6;clear c6
  by_cases qX:nB.length<70368744177664
  ·rw [aq qX] at H
   have RC:=aa.mk qX;clear qX;obtain ⟨An3,RD⟩:∃ y_:List Int,y_=(nB++[IntKind.u16.wrap ((IntKind.u16.wrap (rd l0 (zD)))*256)]):=⟨_,rfl⟩
   rw [<- RD] at H
   have AfC:=aa.mk RD;clear RD;have H':=aa.mk H;clear H;have Ls:0<=((zD):Int):=gA;have Lt:(zD)<(l0.length:Int):=gA;obtain ⟨X8,Abd,vE⟩:=Kd.dG gj.out (zD) Ls Lt
   cases Abd
   replace vE:=(HB.out.cell (dF w _ vE)).trans vE;replace Ls:=eq_true Ls;replace Lt:=eq_true Lt
   go_wp2_with (first|((with_reducible refine fB (b:= .append) (xs:= #[.tmp 35,.tmp 37]) rfl ?_);at_builtin;refine Kd.zF (Kd.int .u16) (w0:=w) w.heap.size rfl (.tmp 35) (.tmp 37) 22 45 (.int .u16 0) 2 rfl Try.underlying22 Gn rfl (by decide) (by omega) u3 nB (IntKind.u16.wrap ((IntKind.u16.wrap (rd l0 (zD)))*256)) [.int .u16 (IntKind.u16.wrap ((IntKind.u16.wrap (rd l0 (zD)))*256))] (fun _=>True) (fun _=>False) rfl rfl ?aP (fun _ hk=>hk.elim) ?aF ?aO ?aB ?aS ?aL ?_;(case aP=>exact rfl);(case aB=>exact bz HB);(case aF=>exact (fun _ _=>trivial));(case aO=>exact (Kd.rz Dp));(case aS=>exact (af (bz HB)));(case aL=>have:=RC.out;omega);intro Avv nP ho hb hg hat;rw [<- AfC.out] at ho;have aH:=aa.mk (hb);have aK:=aa.mk (ho);clear HB;clear Dp;have HB:=aH;have AfD:=aK;clear aH aK;clear ho hb hg hat))
   go_roundg k1
   case measure=>have:=xR.out;omega
   case rel=>exact ⟨(An3),(wrap64 (uz+1)),(by first|rfl|(simp;done)|(simp [*];done)),H',⟨by have:=xR.out;omega⟩,⟨Kd.rz AfD⟩,⟨bz HB⟩⟩
  rw [av qX] at H
  cases H
def qt.f (a0:Int) (a1:Int) (a2:Int):Option (Int×Int):=some ((IntKind.u64.wrap ((IntKind.u64.wrap ((IntKind.u64.wrap (a0))+(IntKind.u64.wrap (a1))))+(IntKind.u64.wrap (a2)))) % 4294967296,((IntKind.u64.wrap ((IntKind.u64.wrap ((IntKind.u64.wrap (a0))+(IntKind.u64.wrap (a1))))+(IntKind.u64.wrap (a2)))) / 4294967296) % 4294967296)
theorem qt.calls (a0:Int) (a1:Int) (a2:Int) (r1:Int) (r2:Int) (w:World) (h:qt.f a0 a1 a2=some (r1,r2)):
  Calls Try.prog 129 #[.int .u32 a0,.int .u32 a1,.int .u32 a2] w fun e w'=>e= .returned (.tuple #[.int .u32 r1,.int .u32 r2]) /\ bB w w':=by
 have H:(some ((IntKind.u64.wrap ((IntKind.u64.wrap ((IntKind.u64.wrap (a0))+(IntKind.u64.wrap (a1))))+(IntKind.u64.wrap (a2)))) % 4294967296,((IntKind.u64.wrap ((IntKind.u64.wrap ((IntKind.u64.wrap (a0))+(IntKind.u64.wrap (a1))))+(IntKind.u64.wrap (a2)))) / 4294967296) % 4294967296))=some (r1,r2):=h;clear h;simp only [Option.some.injEq,Prod.mk.injEq] at H
 obtain ⟨rfl,rfl⟩:=H
 go_enter Try.func129,Try.ntmps129
 go_wp2
 go_ret2
 exact ⟨by first|rfl|(simp;done)|(simp [*];done),by repeat (first|exact bB.refl _|apply bB.step)⟩
def gE.l0:Nat ->Int ->List Int ->Int ->Int ->Option (Int)
 |0,_,_,_,_=>none
 |k+1,x0,Cu,Gt,x12=>if x12<Gt then (if 0<=x12 then (if x12<(Cu.length:Int) then ((qt.f x0 ((rd Cu x12) % 4294967296) 0).bind fun X9=>(gE.l0 k ((X9.1+X9.2) % 4294967296) Cu Gt (wrap64 (x12+1)))) else (none)) else (none)) else (some x0)
def gE.f (k:Nat) (a0:Int) (l1:List Int):Option (Int):=(gX.f k l1).bind fun vF=>(gE.l0 k a0 vF (vF.length:Int) 0)
theorem gE.calls (k:Nat) (a0:Int) (A1:Option Addr) (c1:Nat) (l1:List Int) (r:Int) (w:World) (hr1:Kd.C (Kd.int .u8) w A1 l1.length l1) (hc1:l1.length<=c1) (h:gE.f k a0 l1=some r):
  Calls Try.prog 116 #[.int .u32 a0,.slice A1 l1.length c1] w fun e w'=>e= .returned (.int .u32 r) /\ Below w.heap.size w w':=by
 have HR1:=aa.mk hr1;have HC1:=aa.mk hc1;clear hr1 hc1;have HB:=gI w;have H:((gX.f k l1).bind fun vF=>(gE.l0 k a0 vF (vF.length:Int) 0))=some r:=h;clear h;replace H:=dc H;obtain ⟨vF,wK,H⟩:=H
 (try dsimp -simprocs only at H)
 have A3:=aa.mk wK;clear wK;have H':=aa.mk H;clear H
 go_enter Try.func116,Try.ntmps116
 go_wp2_with (first|((with_reducible refine az (f:=128) rfl ?_);refine gL 10 Try.func128 #[.slice A1 l1.length c1] ?_;(with_reducible refine (gX.calls k _ _ l1 vF _ ?aE ?aG A3.out).mono ?_);(case aE=>repeat (first|exact HR1.out|(with_reducible refine Kd.fH ?_ _)|(with_reducible refine Kd.fz ?_ _)|(with_reducible refine Kd.gQ ?_)));(case aG=>exact HC1.out);rintro e w4 ⟨Avw,rfl,gC,hb⟩;refine ⟨_,rfl, ?_⟩;have aH:=aa.mk (Kd.bP gC (af (bz HB)));have aK:=aa.mk (au (bz HB) hb);clear HB;have Ya:=aH;have HB:=aK;clear aH aK;(try clear hb);(try clear hb2);(try clear hk);(try clear hi);(try clear gC);obtain ⟨Ao5,co5,eo5⟩:=Kd.dn Ya.out;subst eo5))
 go_loopg [0,12] k (fun kq v0 v12 w'=>∃ (qq:Int) (rI:Int),v0= .int .u32 qq /\ v12= .int .i64 rI /\ aa (gE.l0 kq qq vF (vF.length:Int) rI=some r) /\ aa (kq<=k) /\ aa (Kd.R (Kd.int .u16) 45 w' w.heap.size (fun _=>True) (.slice Ao5 vF.length co5) vF) /\ aa (Below w.heap.size w w'))
 case atStart=>exact ⟨(a0),(0),(by first|rfl|(simp;done)|(simp [*];done)),(by first|rfl|(simp;done)|(simp [*];done)),H',⟨Nat.le_refl _⟩,⟨Kd.rz Ya⟩,⟨bz HB⟩⟩
 clear H'
 try clear c1
 obtain ⟨qq,rI,rfl,rfl,HA,xR,Yb,HB⟩:=hrel
 cases gk with
 |zero=>exact absurd HA.out (by simp [gE.l0])
 |succ k1=>
  have H:=HA.out;clear HA;simp only [gE.l0] at H
  by_cases c6:rI<(vF.length:Int)
  rotate_left
  ·rw [av c6] at H
   have um:decide (rI<(vF.length:Int))=false:=gN c6;clear c6;obtain rfl:=cN H
   go_wp2
   go_ret
   exact ⟨by first|rfl|(simp [aj,ak]<;>rfl)|(simp [*,aj,ak]<;>rfl),bz HB⟩
  rw [aq c6] at H
  have um:decide (rI<(vF.length:Int))=true:=bN c6;clear c6
  by_cases c7:0<=rI
  rotate_left
  ·rw [av c7] at H
   cases H
  rw [aq c7] at H
  have AV:decide (0<=rI)=true:=bN c7;clear c7
  by_cases c8:rI<(vF.length:Int)
  ·rw [aq c8] at H
   have nU:decide (rI<(vF.length:Int))=true:=bN c8;clear c8;replace H:=dc H;obtain ⟨⟨AfG,AfH⟩,Yc,H⟩:=H
   (try dsimp -simprocs only at H)
   have A9:=aa.mk Yc;clear Yc;have H':=aa.mk H;clear H;have Abg:0<=(rI:Int):=gA;have Abh:rI<(vF.length:Int):=gA;obtain ⟨Ar8,An4,Aj8⟩:=Kd.dG (Kd.ay Yb.out).2.2 rI Abg Abh
   cases An4
   replace Abg:=eq_true Abg;replace Abh:=eq_true Abh
   go_wp2_with (first|((with_reducible refine az (f:=129) rfl ?_);refine gL 20 Try.func129 #[.int .u32 qq,.int .u32 ((rd vF rI) % 4294967296),.int .u32 0] ?_;(with_reducible refine (qt.calls qq ((rd vF rI) % 4294967296) 0 AfG AfH _ A9.out).mono ?_);rintro e w' ⟨rfl,⟨nd,rfl⟩⟩;refine ⟨_,rfl, ?_⟩))
   go_roundg k1
   case measure=>have:=xR.out;omega
   case rel=>exact ⟨((AfG+AfH) % 4294967296),(wrap64 (rI+1)),(by first|rfl|(simp;done)|(simp [*];done)),(by first|rfl|(simp;done)|(simp [*];done)),H',⟨by have:=xR.out;omega⟩,⟨Kd.rz Yb⟩,⟨bz HB⟩⟩
  rw [av c8] at H
  cases H
def mK.f (k:Nat) (l0:List Int):Option (Int):=(gE.f k 0 l0).bind fun Lu=>((dU.f k Lu).bind fun RE=>(some (Go.bits .xor .u16 IntKind.u16.max RE)))
theorem mK.calls (k:Nat) (A0:Option Addr) (c0:Nat) (l0:List Int) (r:Int) (w:World) (hr0:Kd.C (Kd.int .u8) w A0 l0.length l0) (hc0:l0.length<=c0) (h:mK.f k l0=some r):
  Calls Try.prog 90 #[.slice A0 l0.length c0] w fun e w'=>e= .returned (.int .u16 r) /\ Below w.heap.size w w':=by
 have zQ:IntKind.u16.signed=false:=rfl;have gj:=aa.mk hr0;have jx:=aa.mk hc0;clear hr0 hc0;have HB:=gI w;have H:((gE.f k 0 l0).bind fun Lu=>((dU.f k Lu).bind fun RE=>(some (Go.bits .xor .u16 IntKind.u16.max RE))))=some r:=h;clear h;replace H:=dc H;obtain ⟨Lu,uM,H⟩:=H
 (try dsimp -simprocs only at H)
 have A2:=aa.mk uM;clear uM;replace H:=dc H;obtain ⟨RE,wK,H⟩:=H
 (try dsimp -simprocs only at H)
 have A3:=aa.mk wK;clear wK;obtain rfl:=cN H
 go_enter Try.func90,Try.ntmps90
 go_wp2_with (first|((with_reducible refine az (f:=116) rfl ?_);refine gL 4 Try.func116 #[.int .u32 0,.slice A0 l0.length c0] ?_;(with_reducible refine (gE.calls k 0 _ _ l0 Lu _ ?aE ?aG A2.out).mono ?_);(case aE=>repeat (first|exact gj.out|(with_reducible refine Kd.fH ?_ _)|(with_reducible refine Kd.fz ?_ _)|(with_reducible refine Kd.gQ ?_)));(case aG=>exact jx.out);rintro e w4 ⟨rfl,hb⟩;refine ⟨_,rfl, ?_⟩;have aH:=aa.mk (au (bz HB) hb);clear HB;have HB:=aH;clear aH;(try clear hb);(try clear hb2);(try clear hk);(try clear hi))|((with_reducible refine az (f:=115) rfl ?_);refine gL 5 Try.func115 #[.int .u32 Lu] ?_;(with_reducible refine (dU.calls k Lu RE _ A3.out).mono ?_);rintro e w' ⟨rfl,⟨nd,rfl⟩⟩;refine ⟨_,rfl, ?_⟩))
 go_ret
 exact ⟨by first|rfl|(simp [aj,ak]<;>rfl)|(simp [*,aj,ak]<;>rfl),bz HB⟩
attribute [local go_sem] dI dJ eI eJ cO cP dK dL
def dW.f (a0:Bool) (a1:Int):Option (Unit):=if a0=true then (some ()) else (none)
theorem dW.calls (a0:Bool) (a1:Int) (w:World) (h:dW.f a0 a1=some ()):
    Calls Try.prog 117 #[.bool a0,.int .i64 a1] w fun e w'=>e= .returned (.tuple #[]) /\ bB w w':=by
  have Ar9:=Try.underlying163;have H:(if a0=true then (some ()) else (none))=some ():=h;clear h
  by_cases c3:a0=true
  · subst c3
    have H1:(some ())=some ():=rfl;clear H;have H:=H1;clear H1
    go_enter Try.func117,Try.ntmps117
    go_wp2
    first|go_end0|((try simp only [Exit.inBlock,Exit.then]);refine bodyPost_ret (results_none rfl _ _ _) rfl ?_)
    exact ⟨by first|rfl|(simp;done)|(simp [*];done),by repeat (first|exact bB.refl _|apply bB.step)⟩
  replace c3:=zE c3
  subst c3;have H1:(none)=some ():=by rw [av (show ¬ (false=true) by decide)] at H;exact H
  clear H;have H:=H1;clear H1;cases H
def dD.f (l0:List Int) (a1:Int):Option (Int):=if 0<=a1 then (if a1<(l0.length:Int) then (if 0<=(wrap64 (a1+1)) then (if (wrap64 (a1+1))<(l0.length:Int) then (some (Go.bits .or .u16 (IntKind.u16.wrap ((IntKind.u16.wrap (rd l0 a1))*256)) (IntKind.u16.wrap (rd l0 (wrap64 (a1+1)))))) else (none)) else (none)) else (none)) else (none)
theorem dD.calls (A0:Option Addr) (c0:Nat) (l0:List Int) (a1:Int) (r:Int) (w:World) (hr0:Kd.C (Kd.int .u8) w A0 l0.length l0) (hc0:l0.length<=c0) (h:dD.f l0 a1=some r):
    Calls Try.prog 118 #[.slice A0 l0.length c0,.int .i64 a1] w fun e w'=>e= .returned (.int .u16 r) /\ bB w w':=by
  have gj:=aa.mk hr0;have jx:=aa.mk hc0;clear hr0 hc0;have H:(if 0<=a1 then (if a1<(l0.length:Int) then (if 0<=(wrap64 (a1+1)) then (if (wrap64 (a1+1))<(l0.length:Int) then (some (Go.bits .or .u16 (IntKind.u16.wrap ((IntKind.u16.wrap (rd l0 a1))*256)) (IntKind.u16.wrap (rd l0 (wrap64 (a1+1)))))) else (none)) else (none)) else (none)) else (none))=some r:=h;clear h
  by_cases c3:0<=a1
  rotate_left
  · rw [av c3] at H
    cases H
  rw [aq c3] at H
  have oJ:decide (0<=a1)=true:=bN c3;clear c3
  by_cases c4:a1<(l0.length:Int)
  rotate_left
  · rw [av c4] at H
    cases H
  rw [aq c4] at H
  have mw:decide (a1<(l0.length:Int))=true:=bN c4;clear c4;obtain ⟨wZ,zR⟩:∃ j_:Int,(wrap64 (a1+1))=j_:=⟨_,rfl⟩
  replace H:(if 0<=(wZ) then (if (wZ)<(l0.length:Int) then (some (Go.bits .or .u16 (IntKind.u16.wrap ((IntKind.u16.wrap (rd l0 a1))*256)) (IntKind.u16.wrap (rd l0 (wZ))))) else (none)) else (none))=some r:=by first|(rw [zR] at H;exact H)|(simp only [zR] at H|-;exact H)
  have Yd:(IntKind.i64.wrap (a1+1))=wZ:=(gK _).trans zR
  by_cases c6:0<=(wZ)
  rotate_left
  · rw [av c6] at H
    cases H
  rw [aq c6] at H
  have um:decide (0<=(wZ))=true:=bN c6;clear c6
  by_cases c7:(wZ)<(l0.length:Int)
  · rw [aq c7] at H
    have AV:decide ((wZ)<(l0.length:Int))=true:=bN c7;clear c7;obtain rfl:=cN H;have Abi:0<=(a1:Int):=gA;have Abj:a1<(l0.length:Int):=gA;obtain ⟨AfI,An5,Aj9⟩:=Kd.dG gj.out a1 Abi Abj
    cases An5
    replace Abi:=eq_true Abi;replace Abj:=eq_true Abj;have Abk:0<=((wZ):Int):=gA;have Abl:(wZ)<(l0.length:Int):=gA;obtain ⟨AfJ,An6,Aka⟩:=Kd.dG gj.out (wZ) Abk Abl;obtain rfl:AfI=AfJ:=(by injection An6)
    replace Abk:=eq_true Abk;replace Abl:=eq_true Abl
    go_enter Try.func118,Try.ntmps118
    go_wp2
    repeat (go_quiet (fail);try go_wp2)
    go_ret
    exact ⟨by first|rfl|(simp;done)|(simp only [<- zR]<;>(first|rfl|simp))|(simp [*];done),by repeat (first|exact bB.refl _|apply bB.step)⟩
  rw [av c7] at H
  cases H
def jb.f (l0:List Int) (a1:Int):Option (Int):=(dD.f l0 a1).bind fun Lv=>((dD.f l0 (wrap64 (a1+2))).bind fun Jb=>(some (Go.bits .or .u32 ((((Lv) % 4294967296)*65536) % 4294967296) ((Jb) % 4294967296))))
theorem jb.calls (A0:Option Addr) (c0:Nat) (l0:List Int) (a1:Int) (r:Int) (w:World) (hr0:Kd.C (Kd.int .u8) w A0 l0.length l0) (hc0:l0.length<=c0) (h:jb.f l0 a1=some r):
    Calls Try.prog 119 #[.slice A0 l0.length c0,.int .i64 a1] w fun e w'=>e= .returned (.int .u32 r) /\ bB w w':=by
  have gj:=aa.mk hr0;have jx:=aa.mk hc0;clear hr0 hc0;have H:((dD.f l0 a1).bind fun Lv=>((dD.f l0 (wrap64 (a1+2))).bind fun Jb=>(some (Go.bits .or .u32 ((((Lv) % 4294967296)*65536) % 4294967296) ((Jb) % 4294967296)))))=some r:=h;clear h;replace H:=dc H;obtain ⟨Lv,wK,H⟩:=H;replace H:((dD.f l0 (wrap64 (a1+2))).bind fun Jb=>(some (Go.bits .or .u32 ((((Lv) % 4294967296)*65536) % 4294967296) ((Jb) % 4294967296))))=some r:=H;have A3:=aa.mk wK;clear wK;replace H:=dc H;obtain ⟨Jb,qo,H⟩:=H;replace H:(some (Go.bits .or .u32 ((((Lv) % 4294967296)*65536) % 4294967296) ((Jb) % 4294967296)))=some r:=H;have A4:=aa.mk qo;clear qo;obtain rfl:=cN H
  go_enter Try.func119,Try.ntmps119
  go_wp2_with (first|((with_reducible refine az (f:=118) rfl ?_);refine gL 7 Try.func118 #[.slice A0 l0.length c0,.int .i64 a1] ?_;(with_reducible refine (dD.calls _ _ l0 a1 Lv _ ?aE ?aG A3.out).mono ?_);(case aE=>repeat (first|exact gj.out|(with_reducible refine Kd.fH ?_ _)|(with_reducible refine Kd.fz ?_ _)|(with_reducible refine Kd.gQ ?_)));(case aG=>exact jx.out);rintro e w' ⟨rfl,⟨nd,rfl⟩⟩;refine ⟨_,rfl, ?_⟩)|((with_reducible refine az (f:=118) rfl ?_);refine gL 13 Try.func118 #[.slice A0 l0.length c0,.int .i64 (wrap64 (a1+2))] ?_;(with_reducible refine (dD.calls _ _ l0 (wrap64 (a1+2)) Jb _ ?aE ?aG A4.out).mono ?_);(case aE=>repeat (first|exact gj.out|(with_reducible refine Kd.fH ?_ _)|(with_reducible refine Kd.fz ?_ _)|(with_reducible refine Kd.gQ ?_)));(case aG=>exact jx.out);rintro e w' ⟨rfl,⟨nd,rfl⟩⟩;refine ⟨_,rfl, ?_⟩))
  go_ret
  exact ⟨by first|rfl|(simp;done)|(simp [*];done),by repeat (first|exact bB.refl _|apply bB.step)⟩
def ij.f (l0:List Int):Option (List Int):=if l0.length<140737488355328 then some l0 else none
theorem ij.calls (A0:Option Addr) (c0:Nat) (l0:List Int) (r:List Int) (w:World) (hr0:Kd.C (Kd.int .u8) w A0 l0.length l0) (hc0:l0.length<=c0) (h:ij.f l0=some r):
    Calls Try.prog 120 #[.slice A0 l0.length c0] w fun e w'=>∃ oW:Value,e= .returned (oW) /\ Kd.R (Kd.int .u8) 5 w' w.heap.size (fun _=>True) oW r /\ Below w.heap.size w w':=by
  unfold ij.f at h
  by_cases c7:l0.length<140737488355328
  rotate_left
  · rw [av c7] at h
    cases h
  rw [aq c7] at h
  obtain rfl:=cN h;clear h;have Gp:=aa.mk c7;clear c7;have gj:=aa.mk hr0;have jx:=aa.mk hc0;clear hr0 hc0;have HB:=gI w
  cases A0 with
  |none=>
    have e:=Bw gj.out;subst e;have hq:=fun (W:World) (n c:Nat)=>Go.Lib.run_eql_slice_nil (P:=Try.prog) W 165 5 none n c 0 0 Try.underlying165
    go_enter Try.func120,Try.ntmps120
    go_wp2
    go_ret
    exact ⟨_,rfl,Kd.bX _ _ _ _ _,Below.refl _ _⟩
  |some ad=>
    have hq:=fun (W:World) (n c:Nat)=>Go.Lib.run_eql_slice_nil (P:=Try.prog) W 165 5 (some ad) n c 0 0 Try.underlying165
    go_enter Try.func120,Try.ntmps120
    have HO1:aa (Kd.R (Kd.int .u8) 5 (w.alloc (.cells #[] 5)) w.heap.size (fun _=>True) (.slice (some ⟨w.heap.size,0,none⟩) 0 0) ([]:List Int)):=⟨zJ w .u8 5⟩
    have Rb:aa (Below w.heap.size w (w.alloc (.cells #[] 5))):=⟨dV HB.out _⟩
    go_wp2_with (first
     |((with_reducible refine fB (b:= .append) (xs:= #[.tmp 5,.tmp 6]) rfl ?_);at_builtin;refine Kd.gz (Kd.int .u8) (w0:=w) w.heap.size rfl (.tmp 5) (.tmp 6) 165 5 (.int .u8 0) 1 rfl Try.underlying165 fY rfl (by decide) (by omega) (.slice (some ⟨w.heap.size,0,none⟩) 0 0) ([]:List Int) l0 _ _ _ (fun _=>True) (fun _=>False) rfl rfl ?aO ?aR (fun _ _ h=>h) (fun _ h=>h.elim) ?aF ?aB ?aS ?aL ?_;(case aR=>exact Kd.aW gj.out Rb.out);(case aB=>exact Rb.out);(case aF=>exact (fun _ _=>trivial));(case aO=>exact HO1.out);(case aS=>exact (af Rb.out));(case aL=>have:=Gp.out;simp;omega);intro v2 w2 ho hb hg hat;clear hg hat;have HB2:=aa.mk hb;have XS:=aa.mk ho;clear hb ho))
    go_ret
    exact ⟨_,rfl,by simpa using XS.out,HB2.out⟩
attribute [local go_sem] dI dJ eI eJ cO cP dK dL
def aX.j0:Nat ->List Int ->Int ->Int ->Option (Int×Int×Int×Int×Int×Int×Int×Int×List Int×List Int)
 |0,_,_,_=>none
 |k+1,x0,x3,x4=>(dW.f (decide ((x0.length:Int)>=x4)) 20).bind fun _=>(if 0<=x3 then (if x3<=(x0.length:Int) then ((gE.f k 0 (x0.take (x3:Int).toNat)).bind fun Lw=>((dU.f k Lw).bind fun Lx=>((dW.f (Lx==65535) 22).bind fun _=>((dD.f x0 6).bind fun sX=>(if 1<(x0.length:Int) then ((dD.f x0 4).bind fun zS=>(if 8<(x0.length:Int) then (if 9<(x0.length:Int) then ((jb.f x0 12).bind fun Dq=>((jb.f x0 16).bind fun E5=>(if 20<=x3 then ((ij.f ((x0.take (x3:Int).toNat).drop 20)).bind fun Gu=>(if x3<=x4 then (if x4<=(x0.length:Int) then ((ij.f ((x0.take (x4:Int).toNat).drop (x3:Int).toNat)).bind fun Jc=>(some (rd x0 1,rd x0 8,rd x0 9,zS,(sX / 8192) % 256,Go.bits .and .u16 sX 8191,Dq,E5,Gu,Jc))) else (none)) else (none))) else (none)))) else (none)) else (none))) else (none)))))) else (none)) else (none))
def aX.f (k:Nat) (l0:List Int):Option (Int×Int×Int×Int×Int×Int×Int×Int×List Int×List Int):=(dW.f (decide ((l0.length:Int)>=20)) 20).bind fun _=>(if 0<(l0.length:Int) then ((dD.f l0 2).bind fun pS=>(if ((rd l0 0) / 16)=4 then (if (wrap64 (4*(wrap64 (Go.bits .and .u8 (rd l0 0) 15))))>=20 then ((dW.f (decide ((wrap64 (pS))>=(wrap64 (4*(wrap64 (Go.bits .and .u8 (rd l0 0) 15)))))) 21).bind fun _=>(aX.j0 k l0 (wrap64 (4*(wrap64 (Go.bits .and .u8 (rd l0 0) 15)))) (wrap64 (pS)))) else ((dW.f false 21).bind fun _=>(aX.j0 k l0 (wrap64 (4*(wrap64 (Go.bits .and .u8 (rd l0 0) 15)))) (wrap64 (pS))))) else ((dW.f false 21).bind fun _=>(aX.j0 k l0 (wrap64 (4*(wrap64 (Go.bits .and .u8 (rd l0 0) 15)))) (wrap64 (pS)))))) else (none))
def aX.T2:Bool×List (List Nat×List Nat):=(true,[([],[]),([0],[0]),([1],[1]),([2],[2]),([3],[3]),([4],[4]),([],[]),([6],[6]),([7],[7]),([5,7,0,1,2,3,4,5],[5]),([8,9,0,1,2,3,4,5,6,7,8,9],[8])])
def aX.B2:List Nat:=[0,1,3,7,15,31,0,64,192,255,1023]
theorem aX.VK:gB .any (opsOf Try.f95 2)=aX.T2:=by kernel_rfl
theorem aX.Nh:cS aX.T2.2 aX.B2=true:=by kernel_rfl
def aX.T7:Bool×List (List Nat×List Nat):=(true,[([],[]),([0],[0]),([1],[1]),([],[]),([3],[3]),([],[]),([5],[5]),([6],[6]),([],[]),([8],[8]),([],[]),([10],[10]),([11],[11]),([],[]),([13],[13]),([14],[14]),([],[]),([16,4],[16]),([],[]),([18,17],[18]),([],[]),([],[]),([20,21],[20,21]),([22,19],[22]),([],[]),([],[]),([],[]),([24,25,26],[24,25,26]),([27,23],[27]),([2,4,7,9,12,15,17,19,23,28],[2,4,7,9,12,15,17,19,23,28]),([29,28,0,1,2,3,4,5,6,7,8,9,10,11,12,13,14,15,16,17,18,19,20,21,22,23,24,25,26,27,28,29],[29])])
def aX.B7:List Nat:=[0,1,3,0,8,0,32,96,0,256,0,1024,3072,0,8192,24576,0,65560,0,458776,0,0,3145728,8323096,0,0,0,117440512,268369944,536870911,1073741823]
theorem aX.RF:gB .any (opsOf Try.f95 7)=aX.T7:=by kernel_rfl
theorem aX.Jd:cS aX.T7.2 aX.B7=true:=by kernel_rfl
theorem aX.calls (k:Nat) (A0:Option Addr) (c0:Nat) (l0:List Int) (r1:Int) (r2:Int) (r3:Int) (r4:Int) (r5:Int) (r6:Int) (r7:Int) (r8:Int) (r9:List Int) (uL:List Int) (w:World) (hr0:Kd.C (Kd.int .u8) w A0 l0.length l0) (hc0:l0.length<=c0) (h:aX.f k l0=some (r1,r2,r3,r4,r5,r6,r7,r8,r9,uL)):
  Calls Try.prog 95 #[.slice A0 l0.length c0] w fun e w'=>∃ Cv Cw:Value,e= .returned (.agg #[.int .u8 r1,.int .u8 r2,.int .u8 r3,.int .u16 r4,.int .u8 r5,.int .u16 r6,.int .u32 r7,.int .u32 r8,Cv,Cw]) /\ Kd.R (Kd.int .u8) 5 w' w.heap.size (fun k_=>some k_≠(Cw:Value).ownBlock) Cv r9 /\ Kd.R (Kd.int .u8) 5 w' w.heap.size (fun k_=>some k_≠(Cv:Value).ownBlock) Cw uL /\ Below w.heap.size w w':=by
 have iW:=Try.underlying73;have gj:=aa.mk hr0;have jx:=aa.mk hc0;clear hr0 hc0;have HB:=gI w
 have H:((dW.f (decide ((l0.length:Int)>=20)) 20).bind fun _=>(if 0<(l0.length:Int) then ((dD.f l0 2).bind fun pS=>(if ((rd l0 0) / 16)=4 then (if (wrap64 (4*(wrap64 (Go.bits .and .u8 (rd l0 0) 15))))>=20 then ((dW.f (decide ((wrap64 (pS))>=(wrap64 (4*(wrap64 (Go.bits .and .u8 (rd l0 0) 15)))))) 21).bind fun _=>(aX.j0 k l0 (wrap64 (4*(wrap64 (Go.bits .and .u8 (rd l0 0) 15)))) (wrap64 (pS)))) else ((dW.f false 21).bind fun _=>(aX.j0 k l0 (wrap64 (4*(wrap64 (Go.bits .and .u8 (rd l0 0) 15)))) (wrap64 (pS))))) else ((dW.f false 21).bind fun _=>(aX.j0 k l0 (wrap64 (4*(wrap64 (Go.bits .and .u8 (rd l0 0) 15)))) (wrap64 (pS)))))) else (none)))=some (r1,r2,r3,r4,r5,r6,r7,r8,r9,uL):=h;clear h;replace H:=dc H;obtain ⟨_,uM,H⟩:=H
 (try dsimp -simprocs only at H)
 have A2:=aa.mk uM;clear uM
 by_cases c3:0<(l0.length:Int)
 rotate_left
 ·rw [av c3] at H
  cases H
 rw [aq c3] at H
 have oJ:decide (0<(l0.length:Int))=true:=bN c3;have qI:decide (0<l0.length)=true:=bN (by omega);clear c3;replace H:=dc H;obtain ⟨pS,qo,H⟩:=H
 (try dsimp -simprocs only at H)
 have A4:=aa.mk qo;clear qo;have HC5:=aa.mk H;clear H
 go_enter Try.func95,Try.ntmps95
 try go_wp2_with (first|((with_reducible refine aA (N:=2) rfl ?_);refine aC ?hg (N:=2) ?hd (cs:=jL) (t:=73) ?hr ?_;(case hd=>rfl);(case hg=>rfl);(case hr=>first|(go_simp;done)|(go_simp;rfl));intro eT hg w6 bJ hb;have aH:=aa.mk (au (bz HB) hb);have aK:=aa.mk (bJ);have bt:=aa.mk ((by rw [hg];exact (af (bz HB)):w.heap.size<=eT));have cC:=aa.mk ((by rw [hg];exact (af (bz HB)):w.heap.size<=eT));clear HB;have HB:=aH;have eW:=aK;have fO:=bt;have Nk:=cC;clear aH aK bt cC;clear hb bJ hg)|((with_reducible refine az (f:=117) rfl ?_);refine gL 9 Try.func117 #[.bool (decide ((l0.length:Int)>=20)),.int .i64 20] ?_;(with_reducible refine (dW.calls (decide ((l0.length:Int)>=20)) 20 _ A2.out).mono ?_);rintro e w' ⟨rfl,⟨nd,rfl⟩⟩;refine ⟨_,rfl, ?_⟩))
 (try (rw [fu w6];generalize jK:World.drewN w6 _=w6;have aH:aa (w6.heap[eT]?=some (.cells jL 73 (0,0))):=⟨by rw [<- jK];exact (kz eW)⟩;have aK:aa (Below w.heap.size w w6):=⟨by rw [<- jK];exact bz HB⟩;clear eW HB jK;have eW:=aH;have HB:=aK;clear aH aK))
 have aH:=aa.mk (aJ eW.out);have aK:=aa.mk (bf HB.out);clear eW;clear HB;have eW:=aH;have HB:=aK;clear aH aK;have yn:0<=(0:Int):=(by omega)
 have yo:0<(l0.length:Int):=gA;obtain ⟨je,Ly,gP⟩:=Kd.dG gj.out 0 yn yo;have gR:=gP
 (try rw [show ((0:Int)).toNat=0 from rfl] at gR)
 (try rw [show 0*1=0 from rfl] at gR)
 (try rw [Addr.add_zero'] at gR)
 cases Ly
 have RG:(0<l0.length)=True:=eq_true (by omega)
 (try rw [show ((0:Int)).toNat=0 from rfl] at gP)
 (try rw [Addr.add_zero'] at gP)
 replace gP:=(HB.out.cell (dF w _ gP)).trans gP;replace yn:=eq_true yn;replace yo:=eq_true yo;refine dB (n:=11) (S:=fun w'=>w'.cell? je=some (.int .u8 (rd l0 0))) (ds:=[]) #[false,false,false,false,false,false,false,false,false,false,false] (by kernel_rfl) rfl rfl (((HB.out.cell (dF w _ gR)).trans gR)) (fun hHeld=> ?_);refine bF aX.VK aX.Nh (fun ax eu=> ?_);generalize w6.drew=w7 at eW HB gP hHeld|-
 refine pz 0 10 ax ?_;refine pz 1 11 ax ?_;refine pz 6 16 ax ?_;refine tz 2 12 ax eu hHeld ?_;refine pz 3 13 ax ?_;refine pz 4 14 ax ?_;refine pz 5 15 ax ?_;refine oz 7 (some 17) ax (fun K hK=> ?_);refine gG Try.func118 #[.slice (some je) l0.length c0,.int .i64 2] ?_
 with_reducible refine (dD.calls _ _ l0 2 pS _ ?aE ?aG A4.out).mono ?_
 (case aE=>exact Kd.aW gj.out (bz HB))
 (case aG=>exact jx.out)
 rintro e w' ⟨rfl,⟨nd,rfl⟩⟩;refine ⟨_,rfl, ?_⟩;refine hK.out _ _ (((HB.out.cell (dF w _ gR)).trans gR)) (fun hHeld=> ?_);clear hK K;refine nz 17 ?_;refine pz 8 18 ax ?_;refine pz 9 3 ax ?_;refine pz 10 4 ax ?_;refine dz ax ?_
 go_upto_region 3 with (fail)
 go_cut [] (fun wc=>∃ (kq:Nat),aa (aX.j0 kq l0 (wrap64 (4*(wrap64 (Go.bits .and .u8 (rd l0 0) 15)))) (wrap64 (pS))=some (r1,r2,r3,r4,r5,r6,r7,r8,r9,uL)) /\ aa (kq<=k) /\ aa (wc.heap[eT]?=some (.cells #[.int .u8 0,.int .u8 0,.int .u8 0,.int .u16 0,.int .u8 0,.int .u16 0,.int .u32 0,.int .u32 0,(.slice none 0 0),(.slice none 0 0)] 73 (0,0))) /\ aa (Below w.heap.size w wc))
 case first=>
  have H:=HC5.out;clear HC5
  by_cases c8:((rd l0 0) / 16)=4
  rotate_left
  ·rw [av c8] at H
   have nU:(((rd l0 0) / 16)==4)=false:=fq c8;have Dl:(((rd l0 0) / 16) !=4)=true:=lf c8
   (first|rw [nU]|(simp only [gK,kD];rw [nU])|skip)
   replace H:=dc H;obtain ⟨_,zT,H⟩:=H
   (try dsimp -simprocs only at H)
   have VL:=aa.mk zT;clear zT;have H':=aa.mk H;clear H;have oM:0<=(0:Int):=(by omega)
   have oO:0<(l0.length:Int):=gA;obtain ⟨sy,yZ,eK⟩:=Kd.dG gj.out 0 oM oO;obtain rfl:je=sy:=(by injection yZ)
   have Dr:(0<l0.length)=True:=eq_true (by omega)
   (try rw [show ((0:Int)).toNat=0 from rfl] at eK)
   (try rw [Addr.add_zero'] at eK)
   replace eK:=(HB.out.cell (dF w _ eK)).trans eK;replace oM:=eq_true oM;replace oO:=eq_true oO
   go_wp2_with (first|((with_reducible refine az (f:=117) rfl ?_);refine gL 33 Try.func117 #[.bool false,.int .i64 21] ?_;(with_reducible refine (dW.calls false 21 _ VL.out).mono ?_);rintro e w' ⟨rfl,⟨nd,rfl⟩⟩;refine ⟨_,rfl, ?_⟩))
   go_meet
   case rel=>exact ⟨_,H',⟨by first|omega|exact Nat.le_refl _⟩,⟨kz eW⟩,⟨bz HB⟩⟩
  rw [aq c8] at H
  have nU:(((rd l0 0) / 16)==4)=true:=fF c8;have Dl:(((rd l0 0) / 16) !=4)=false:=kL c8;clear c8
  (first|rw [nU]|(simp only [gK,kD];rw [nU])|skip)
  by_cases c9:(wrap64 (4*(wrap64 (Go.bits .and .u8 (rd l0 0) 15))))>=20
  ·rw [aq c9] at H
   have wW:decide (20<=(wrap64 (4*(wrap64 (Go.bits .and .u8 (rd l0 0) 15)))))=true:=bN c9;clear c9;replace H:=dc H;obtain ⟨_,zU,H⟩:=H
   (try dsimp -simprocs only at H)
   have Lz:=aa.mk zU;clear zU;have H':=aa.mk H;clear H;have oM:0<=(0:Int):=(by omega)
   have oO:0<(l0.length:Int):=gA;obtain ⟨sy,yZ,eK⟩:=Kd.dG gj.out 0 oM oO;obtain rfl:je=sy:=(by injection yZ)
   have Dr:(0<l0.length)=True:=eq_true (by omega)
   (try rw [show ((0:Int)).toNat=0 from rfl] at eK)
   (try rw [Addr.add_zero'] at eK)
   replace eK:=(HB.out.cell (dF w _ eK)).trans eK;replace oM:=eq_true oM;replace oO:=eq_true oO
   go_wp2_with (first|((with_reducible refine az (f:=117) rfl ?_);refine gL 33 Try.func117 #[.bool (decide ((wrap64 (pS))>=(wrap64 (4*(wrap64 (Go.bits .and .u8 (rd l0 0) 15)))))),.int .i64 21] ?_;(with_reducible refine (dW.calls (decide ((wrap64 (pS))>=(wrap64 (4*(wrap64 (Go.bits .and .u8 (rd l0 0) 15)))))) 21 _ Lz.out).mono ?_);rintro e w' ⟨rfl,⟨nd,rfl⟩⟩;refine ⟨_,rfl, ?_⟩))
   go_meet
   case rel=>exact ⟨_,H',⟨by first|omega|exact Nat.le_refl _⟩,⟨kz eW⟩,⟨bz HB⟩⟩
  rw [av c9] at H
  have wW:decide (20<=(wrap64 (4*(wrap64 (Go.bits .and .u8 (rd l0 0) 15)))))=false:=gN c9;clear c9;replace H:=dc H;obtain ⟨_,Je,H⟩:=H
  (try dsimp -simprocs only at H)
  have A11:=aa.mk Je;clear Je;have H':=aa.mk H;clear H;have oM:0<=(0:Int):=(by omega)
  have oO:0<(l0.length:Int):=gA;obtain ⟨sy,yZ,eK⟩:=Kd.dG gj.out 0 oM oO;obtain rfl:je=sy:=(by injection yZ)
  have Dr:(0<l0.length)=True:=eq_true (by omega)
  (try rw [show ((0:Int)).toNat=0 from rfl] at eK)
  (try rw [Addr.add_zero'] at eK)
  replace eK:=(HB.out.cell (dF w _ eK)).trans eK;replace oM:=eq_true oM;replace oO:=eq_true oO
  go_wp2_with (first|((with_reducible refine az (f:=117) rfl ?_);refine gL 33 Try.func117 #[.bool false,.int .i64 21] ?_;(with_reducible refine (dW.calls false 21 _ A11.out).mono ?_);rintro e w' ⟨rfl,⟨nd,rfl⟩⟩;refine ⟨_,rfl, ?_⟩))
  go_meet
  case rel=>exact ⟨_,H',⟨by first|omega|exact Nat.le_refl _⟩,⟨kz eW⟩,⟨bz HB⟩⟩
 clear HC5
 try clear c3
 try clear oJ
 try clear qI
 try clear gP
 try clear yn
 try clear yo
 obtain ⟨kq,HA,HJ4,eW,HB⟩:=hcut
 cases kq with
 |zero=>exact absurd HA.out (by simp [aX.j0])
 |succ kj4=>
  have H:=HA.out;clear HA;simp only [aX.j0] at H
  replace H:=dc H;obtain ⟨_,Ds,H⟩:=H
  (try dsimp -simprocs only at H)
  have Qp:=aa.mk Ds;clear Ds;obtain ⟨lF,wE⟩:∃ j_:Int,(wrap64 (4*(wrap64 (Go.bits .and .u8 (rd l0 0) 15))))=j_:=⟨_,rfl⟩
  replace H:(if 0<=(lF) then (if (lF)<=(l0.length:Int) then ((gE.f kj4 0 (l0.take ((lF):Int).toNat)).bind fun Lw=>((dU.f kj4 Lw).bind fun Lx=>((dW.f (Lx==65535) 22).bind fun _=>((dD.f l0 6).bind fun sX=>(if 1<(l0.length:Int) then ((dD.f l0 4).bind fun zS=>(if 8<(l0.length:Int) then (if 9<(l0.length:Int) then ((jb.f l0 12).bind fun Dq=>((jb.f l0 16).bind fun E5=>(if 20<=(lF) then ((ij.f ((l0.take ((lF):Int).toNat).drop 20)).bind fun Gu=>(if (lF)<=(wrap64 (pS)) then (if (wrap64 (pS))<=(l0.length:Int) then ((ij.f ((l0.take ((wrap64 (pS)):Int).toNat).drop ((lF):Int).toNat)).bind fun Jc=>(some (rd l0 1,rd l0 8,rd l0 9,zS,(sX / 8192) % 256,Go.bits .and .u16 sX 8191,Dq,E5,Gu,Jc))) else (none)) else (none))) else (none)))) else (none)) else (none))) else (none)))))) else (none)) else (none))=some (r1,r2,r3,r4,r5,r6,r7,r8,r9,uL):=by first|(rw [wE] at H;exact H)|(simp only [wE] at H|-;exact H)
  (try rw [wE] at Qp)
  have Abm:(IntKind.i64.wrap (4*(wrap64 (Go.bits .and .u8 (rd l0 0) 15))))=lF:=(gK _).trans wE
  by_cases wS:0<=(lF)
  rotate_left
  ·rw [av wS] at H
   cases H
  rw [aq wS] at H
  have wT:=eq_true wS;have Fz:decide (0<=(lF))=true:=bN wS;clear wS
  by_cases LA:(lF)<=(l0.length:Int)
  rotate_left
  ·rw [av LA] at H
   cases H
  rw [aq LA] at H
  have RH:=eq_true LA;have Nl:decide ((lF)<=(l0.length:Int))=true:=bN LA;clear LA;replace H:=dc H;obtain ⟨Lw,Jf,H⟩:=H
  (try dsimp -simprocs only at H)
  have Qr:=aa.mk Jf;clear Jf;replace H:=dc H;obtain ⟨Lx,wV,H⟩:=H
  (try dsimp -simprocs only at H)
  have OY:=aa.mk wV;clear wV;replace H:=dc H;obtain ⟨_,Dt,H⟩:=H
  (try dsimp -simprocs only at H)
  have A19:=aa.mk Dt;clear Dt;replace H:=dc H;obtain ⟨sX,Dj,H⟩:=H
  (try dsimp -simprocs only at H)
  have uM:=aa.mk Dj;clear Dj
  by_cases Va:1<(l0.length:Int)
  rotate_left
  ·rw [av Va] at H
   cases H
  rw [aq Va] at H
  have Ae4:decide (1<(l0.length:Int))=true:=bN Va;have Ae5:decide (1<l0.length)=true:=bN (by omega);clear Va;replace H:=dc H;obtain ⟨zS,RI,H⟩:=H
  (try dsimp -simprocs only at H)
  have A22:=aa.mk RI;clear RI
  by_cases Jg:8<(l0.length:Int)
  rotate_left
  ·rw [av Jg] at H
   cases H
  rw [aq Jg] at H
  have RJ:decide (8<(l0.length:Int))=true:=bN Jg;have Ye:decide (8<l0.length)=true:=bN (by omega);clear Jg
  by_cases Nm:9<(l0.length:Int)
  rotate_left
  ·rw [av Nm] at H
   cases H
  rw [aq Nm] at H
  have Yf:decide (9<(l0.length:Int))=true:=bN Nm;have AfL:decide (9<l0.length)=true:=bN (by omega);clear Nm;replace H:=dc H;obtain ⟨Dq,AfM,H⟩:=H
  (try dsimp -simprocs only at H)
  have A25:=aa.mk AfM;clear AfM;replace H:=dc H;obtain ⟨E5,Jh,H⟩:=H
  (try dsimp -simprocs only at H)
  have A26:=aa.mk Jh;clear Jh
  by_cases Vc:20<=(lF)
  rotate_left
  ·rw [av Vc] at H
   cases H
  rw [aq Vc] at H
  have AfO:=eq_true Vc;have AfP:decide (20<=(lF))=true:=bN Vc;clear Vc;have AfQ:=eq_true (gA:(lF)<=(l0.length:Int));replace H:=dc H;obtain ⟨Gu,RK,H⟩:=H
  (try dsimp -simprocs only at H)
  have A29:=aa.mk RK;clear RK;have Asa:=eq_true (gA:0<=(lF))
  by_cases RL:(lF)<=(wrap64 (pS))
  rotate_left
  ·rw [av RL] at H
   cases H
  rw [aq RL] at H
  have AfR:=eq_true RL;have AfS:decide ((lF)<=(wrap64 (pS)))=true:=bN RL;clear RL
  by_cases LB:(wrap64 (pS))<=(l0.length:Int)
  rotate_left
  ·rw [av LB] at H
   cases H
  rw [aq LB] at H
  have AfT:=eq_true LB;have AfU:decide ((wrap64 (pS))<=(l0.length:Int))=true:=bN LB;clear LB;replace H:=dc H;obtain ⟨Jc,AfV,H⟩:=H
  (try dsimp -simprocs only at H)
  have A33:=aa.mk AfV;clear AfV;simp only [Option.some.injEq,Prod.mk.injEq] at H
  obtain ⟨rfl,rfl,rfl,rfl,rfl,rfl,rfl,rfl,rfl,rfl⟩:=H
  try go_wp2_with (first|((with_reducible refine az (f:=117) rfl ?_);refine gL 38 Try.func117 #[.bool (decide ((l0.length:Int)>=(wrap64 (pS)))),.int .i64 20] ?_;(with_reducible refine (dW.calls (decide ((l0.length:Int)>=(wrap64 (pS)))) 20 _ Qp.out).mono ?_);rintro e w' ⟨rfl,⟨nd,rfl⟩⟩;refine ⟨_,rfl, ?_⟩;(try (rw [fu wc];generalize jK:World.drewN wc _=wc;have aH:aa (wc.heap[eT]?=some (.cells jL 73 (0,0))):=⟨by rw [<- jK];exact (kz eW)⟩;have aK:aa (Below w.heap.size w wc):=⟨by rw [<- jK];exact bz HB⟩;clear eW HB jK;have eW:=aH;have HB:=aK;clear aH aK));obtain ⟨An8,Ji,_,Jj,_⟩:=info_parts fY;obtain ⟨Abo,RM,RN⟩:=ow (P:=Try.prog) (Value.int .u8) 0 165 5 .i64 Try.underlying165 Ji Jj (some je) c0 l0 (lF) gA gA jx.out;have RO:=aa.mk (Kd.dH (h1:=fun _=>rfl) (RM _ (Kd.dw gj.out)));have RP:=aa.mk RN;clear RM RN Ji Jj)|((with_reducible refine az (f:=116) rfl ?_);refine uf (some 42) rfl rfl Try.func116 (by kernel_rfl) rfl #[.int .u32 0,.slice (some je) (l0.take ((lF):Int).toNat).length c0] rfl (by (try simp only [List.map_toArray,List.map_cons,List.map_nil]);first|done|(rw [show (l0.take ((lF):Int).toNat).length=(lF).toNat from (by rw [List.length_take];have h_:((lF):Int)<=(l0.length:Int):=gA;omega)]<;>rfl)|(simp only [wE];rfl)|rfl|(simp only [List.length_drop,List.length_take];rfl)|(go_simp;done)|(simp [Act.eval,IntKind.signed];done)|(simp [Act.eval,IntKind.signed];rfl)) ?_;(with_reducible refine (gE.calls kj4 0 _ _ (l0.take ((lF):Int).toNat) Lw _ ?aE ?aG Qr.out).mono ?_);(case aE=>exact Kd.aW RO.out (bz HB));(case aG=>exact RP.out);rintro e AX ⟨rfl,hb⟩;refine ⟨_,rfl, ?_⟩;have aH:=aa.mk (bq (kz eW) hb);have aK:=aa.mk (au (bz HB) hb);clear eW;clear HB;have eW:=aH;have HB:=aK;clear aH aK;(try clear hb);(try clear hb2);(try clear hk);(try clear hi))|((with_reducible refine az (f:=115) rfl ?_);refine gL 43 Try.func115 #[.int .u32 Lw] ?_;(with_reducible refine (dU.calls kj4 Lw Lx _ OY.out).mono ?_);rintro e w' ⟨rfl,⟨nd,rfl⟩⟩;refine ⟨_,rfl, ?_⟩;(try (rw [fu AX];generalize jK:World.drewN AX _=AX;have aH:aa (AX.heap[eT]?=some (.cells jL 73 (0,0))):=⟨by rw [<- jK];exact (kz eW)⟩;have aK:aa (Below w.heap.size w AX):=⟨by rw [<- jK];exact bz HB⟩;clear eW HB jK;have eW:=aH;have HB:=aK;clear aH aK)))|((with_reducible refine az (f:=117) rfl ?_);refine gL 45 Try.func117 #[.bool (Lx==65535),.int .i64 22] ?_;(with_reducible refine (dW.calls (Lx==65535) 22 _ A19.out).mono ?_);rintro e w' ⟨rfl,⟨nd,rfl⟩⟩;refine ⟨_,rfl, ?_⟩;(try (rw [fu AX];generalize jK:World.drewN AX _=AX;have aH:aa (AX.heap[eT]?=some (.cells jL 73 (0,0))):=⟨by rw [<- jK];exact (kz eW)⟩;have aK:aa (Below w.heap.size w AX):=⟨by rw [<- jK];exact bz HB⟩;clear eW HB jK;have eW:=aH;have HB:=aK;clear aH aK)))|((with_reducible refine az (f:=118) rfl ?_);refine gL 47 Try.func118 #[.slice (some je) l0.length c0,.int .i64 6] ?_;(with_reducible refine (dD.calls _ _ l0 6 sX _ ?aE ?aG uM.out).mono ?_);(case aE=>exact Kd.aW gj.out (bz HB));(case aG=>exact jx.out);rintro e w' ⟨rfl,⟨nd,rfl⟩⟩;refine ⟨_,rfl, ?_⟩;(try (rw [fu AX];generalize jK:World.drewN AX _=AX;have aH:aa (AX.heap[eT]?=some (.cells jL 73 (0,0))):=⟨by rw [<- jK];exact (kz eW)⟩;have aK:aa (Below w.heap.size w AX):=⟨by rw [<- jK];exact bz HB⟩;clear eW HB jK;have eW:=aH;have HB:=aK;clear aH aK))))
  have aH:=aa.mk (aJ eW.out);have aK:=aa.mk (bf HB.out);clear eW;clear HB;have eW:=aH;have HB:=aK;clear aH aK;have Abp:0<=(1:Int):=(by omega)
  have Abq:1<(l0.length:Int):=gA;obtain ⟨AfW,An9,vG⟩:=Kd.dG gj.out 1 Abp Abq;have f5:=vG
  (try rw [show ((1:Int)).toNat=1 from rfl] at f5)
  (try rw [show 1*1=1 from rfl] at f5)
  (try simp only [Nat.reduceMul,Nat.reduceEqDiff,Go.Addr.add,↓reduceIte] at f5)
  obtain rfl:je=AfW:=(by injection An9)
  (try simp only [show (1:Int).toNat=1 from rfl,Nat.reduceMul,Nat.reduceEqDiff,Go.Addr.add,↓reduceIte] at vG)
  have Asb:(1<l0.length)=True:=eq_true (by omega)
  (try rw [show ((1:Int)).toNat=1 from rfl] at vG)
  replace vG:=(HB.out.cell (dF w _ vG)).trans vG;replace Abp:=eq_true Abp;replace Abq:=eq_true Abq;have Abr:0<=(8:Int):=(by omega)
  have Abs:8<(l0.length:Int):=gA;obtain ⟨AfX,Aoa,vH⟩:=Kd.dG gj.out 8 Abr Abs;have f6:=vH
  (try rw [show ((8:Int)).toNat=8 from rfl] at f6)
  (try rw [show 8*1=8 from rfl] at f6)
  (try simp only [Nat.reduceMul,Nat.reduceEqDiff,Go.Addr.add,↓reduceIte] at f6)
  obtain rfl:je=AfX:=(by injection Aoa)
  (try simp only [show (8:Int).toNat=8 from rfl,Nat.reduceMul,Nat.reduceEqDiff,Go.Addr.add,↓reduceIte] at vH)
  have Asc:(8<l0.length)=True:=eq_true (by omega)
  (try rw [show ((8:Int)).toNat=8 from rfl] at vH)
  replace vH:=(HB.out.cell (dF w _ vH)).trans vH;replace Abr:=eq_true Abr;replace Abs:=eq_true Abs;have Abt:0<=(9:Int):=(by omega)
  have Abu:9<(l0.length:Int):=gA;obtain ⟨AfY,Aob,vI⟩:=Kd.dG gj.out 9 Abt Abu;have f7:=vI
  (try rw [show ((9:Int)).toNat=9 from rfl] at f7)
  (try rw [show 9*1=9 from rfl] at f7)
  (try simp only [Nat.reduceMul,Nat.reduceEqDiff,Go.Addr.add,↓reduceIte] at f7)
  obtain rfl:je=AfY:=(by injection Aob)
  (try simp only [show (9:Int).toNat=9 from rfl,Nat.reduceMul,Nat.reduceEqDiff,Go.Addr.add,↓reduceIte] at vI)
  have Asd:(9<l0.length)=True:=eq_true (by omega)
  (try rw [show ((9:Int)).toNat=9 from rfl] at vI)
  replace vI:=(HB.out.cell (dF w _ vI)).trans vI;replace Abt:=eq_true Abt;replace Abu:=eq_true Abu;obtain ⟨Aoc,Jk,_,Jl,_⟩:=info_parts fY;obtain ⟨A37,Abv,RQ,RR⟩:=uN (P:=Try.prog) (Value.int .u8) 0 165 5 .i64 .i64 Try.underlying165 Jk Jl (some je) c0 l0 20 (lF) (by omega) (by first|omega|exact gA) gA jx.out;have Yg:=aa.mk (Kd.dH (h1:=fun _=>rfl) (RQ _ (Kd.dw gj.out)));have AfZ:=aa.mk RR;clear RQ RR Jk Jl;obtain ⟨Aoe,Jm,_,Jn,_⟩:=info_parts fY
  obtain ⟨A38,Abw,RS,RT⟩:=uN (P:=Try.prog) (Value.int .u8) 0 165 5 .i64 .i64 Try.underlying165 Jm Jn (some je) c0 l0 (lF) (wrap64 (pS)) gA (by first|omega|exact gA) gA jx.out;have Yh:=aa.mk (Kd.dH (h1:=fun _=>rfl) (RS _ (Kd.dw gj.out)));have Af0:=aa.mk RT;clear RS RT Jm Jn
  refine dB (n:=31) (S:=fun w'=>w'.cell? ⟨je.block,je.off+1,none⟩=some (.int .u8 (rd l0 1)) /\ w'.cell? ⟨je.block,je.off+8,none⟩=some (.int .u8 (rd l0 8)) /\ w'.cell? ⟨je.block,je.off+9,none⟩=some (.int .u8 (rd l0 9))) (ds:=[]) #[false,false,false,false,false,false,false,false,false,false,false,false,false,false,false,false,false,false,false,false,false,false,false,false,false,false,false,false,false,false,false] (by kernel_rfl) rfl rfl ⟨((HB.out.cell (dF w _ f5)).trans f5),((HB.out.cell (dF w _ f6)).trans f6),((HB.out.cell (dF w _ f7)).trans f7)⟩ (fun hHeld=> ?_);refine bF aX.RF aX.Jd (fun ax eu=> ?_)
  generalize AX.drew=VM at eW HB Yg Yh vG vH vI hHeld|-
  refine pz 0 48 ax ?_;refine pz 1 49 ax ?_;refine pz 3 51 ax ?_;refine pz 5 53 ax ?_;refine pz 6 54 ax ?_;refine pz 7 55 ax ?_;refine pz 8 56 ax ?_;refine pz 9 57 ax ?_;refine pz 10 58 ax ?_;refine pz 11 59 ax ?_;refine pz 13 61 ax ?_;refine pz 14 62 ax ?_;refine pz 16 64 ax ?_;refine pz 18 66 ax ?_;refine pz 20 68 ax ?_;refine pz 21 69 ax ?_;refine pz 22 70 ax ?_;refine pz 24 72 ax ?_;refine pz 25 73 ax ?_;refine pz 26 74 ax ?_;refine pz 27 75 ax ?_;refine gF (i:=2) (N:=some 50) (v:= ?_) (a':= ?_) #[true,true,true,true,false,true,true,true,true,true,true,true,false,true,true,false,true,false,true,false,true,true,true,false,true,true,true,true,false,false,false] rfl rfl (dm ax.out eu.out (by kernel_rfl)) (fun _ _ _ h=>h) (Or.inl ⟨by rfl, ?_⟩) hHeld ?_ ?_
  rotate_left
  ·rintro w' ⟨s0,s1,s2⟩
   go_simp
   with_reducible rfl
  rotate_left
  ·simp only [pG]
   rfl
  refine gF (i:=12) (N:=some 60) (v:= ?_) (a':= ?_) #[true,true,true,true,false,true,true,true,true,true,true,true,true,true,true,false,true,false,true,false,true,true,true,false,true,true,true,true,false,false,false] rfl rfl (dm ax.out eu.out (by kernel_rfl)) (fun _ _ _ h=>h) (Or.inl ⟨by rfl, ?_⟩) hHeld ?_ ?_
  rotate_left
  ·rintro w' ⟨s0,s1,s2⟩
   go_simp
   with_reducible rfl
  rotate_left
  ·simp only [pG]
   rfl
  refine gF (i:=15) (N:=some 63) (v:= ?_) (a':= ?_) #[true,true,true,true,false,true,true,true,true,true,true,true,true,true,true,true,true,false,true,false,true,true,true,false,true,true,true,true,false,false,false] rfl rfl (dm ax.out eu.out (by kernel_rfl)) (fun _ _ _ h=>h) (Or.inl ⟨by rfl, ?_⟩) hHeld ?_ ?_
  rotate_left
  ·rintro w' ⟨s0,s1,s2⟩
   go_simp
   with_reducible rfl
  rotate_left
  ·simp only [pG]
   rfl
  refine oz 4 (some 52) ax (fun K hK=> ?_);refine gG Try.func118 #[.slice (some je) l0.length c0,.int .i64 4] ?_
  with_reducible refine (dD.calls _ _ l0 4 zS _ ?aE ?aG A22.out).mono ?_
  (case aE=>exact Kd.aW gj.out (bz HB))
  (case aG=>exact jx.out)
  rintro e w' ⟨rfl,⟨nd,rfl⟩⟩;refine ⟨_,rfl, ?_⟩;refine hK.out _ _ ⟨((HB.out.cell (dF w _ f5)).trans f5),((HB.out.cell (dF w _ f6)).trans f6),((HB.out.cell (dF w _ f7)).trans f7)⟩ (fun hHeld=> ?_);clear hK K;refine nz 52 ?_;refine oz 17 (some 65) ax (fun K hK=> ?_);refine gG Try.func119 #[.slice (some je) l0.length c0,.int .i64 12] ?_
  with_reducible refine (jb.calls _ _ l0 12 Dq _ ?aE ?aG A25.out).mono ?_
  (case aE=>exact Kd.aW gj.out (bz HB))
  (case aG=>exact jx.out)
  rintro e w' ⟨rfl,⟨nd,rfl⟩⟩;refine ⟨_,rfl, ?_⟩;refine hK.out _ _ ⟨((HB.out.cell (dF w _ f5)).trans f5),((HB.out.cell (dF w _ f6)).trans f6),((HB.out.cell (dF w _ f7)).trans f7)⟩ (fun hHeld=> ?_);clear hK K;refine nz 65 ?_;refine oz 19 (some 67) ax (fun K hK=> ?_);refine gG Try.func119 #[.slice (some je) l0.length c0,.int .i64 16] ?_
  with_reducible refine (jb.calls _ _ l0 16 E5 _ ?aE ?aG A26.out).mono ?_
  (case aE=>exact Kd.aW gj.out (bz HB))
  (case aG=>exact jx.out)
  rintro e w' ⟨rfl,⟨nd,rfl⟩⟩;refine ⟨_,rfl, ?_⟩;refine hK.out _ _ ⟨((HB.out.cell (dF w _ f5)).trans f5),((HB.out.cell (dF w _ f6)).trans f6),((HB.out.cell (dF w _ f7)).trans f7)⟩ (fun hHeld=> ?_);clear hK K;refine nz 67 ?_;refine oz 23 (some 71) ax (fun K hK=> ?_)
  refine i9 Try.func120 (by kernel_rfl) rfl #[.slice A37 ((l0.take ((lF):Int).toNat).drop 20).length (c0 - 20)] (by rfl) rfl rfl (by (try simp only [List.map_toArray,List.map_cons,List.map_nil]);first|done|(rw [show ((l0.take ((lF):Int).toNat).drop 20).length=((lF).toNat - 20) from (by rw [List.length_drop,List.length_take];have h_:((lF):Int)<=(l0.length:Int):=gA;omega)]<;>rfl)|(simp only [wE];rfl)|rfl|(simp only [List.length_drop,List.length_take];rfl)|(go_simp;done)|(simp [Act.eval,IntKind.signed];done)|(simp [Act.eval,IntKind.signed];rfl)) ?_
  with_reducible refine (ij.calls _ _ ((l0.take ((lF):Int).toNat).drop 20) Gu _ ?aE ?aG A29.out).mono ?_
  (case aE=>exact Kd.aW Yg.out (bz HB))
  (case aG=>exact AfZ.out)
  rintro e w39 ⟨AvC,rfl,gC,hb⟩;refine ⟨_,rfl, ?_⟩;have aH:=aa.mk (Kd.bP gC (af (bz HB)));have aK:=aa.mk (bq (kz eW) hb);have bt:=aa.mk (au (bz HB) hb);clear eW;clear HB;have FB:=aH;have eW:=aK;have HB:=bt;clear aH aK bt
  (try clear hb)
  (try clear hb2)
  (try clear hk)
  (try clear hi)
  (try clear gC)
  refine hK.out _ _ ⟨((HB.out.cell (dF w _ f5)).trans f5),((HB.out.cell (dF w _ f6)).trans f6),((HB.out.cell (dF w _ f7)).trans f7)⟩ (fun hHeld=> ?_);clear hK K;refine nz 71 ?_;refine oz 28 (some 76) ax (fun K hK=> ?_)
  refine i9 Try.func120 (by kernel_rfl) rfl #[.slice A38 ((l0.take ((wrap64 (pS)):Int).toNat).drop ((lF):Int).toNat).length (c0 - (lF).toNat)] (by rfl) rfl rfl (by (try simp only [List.map_toArray,List.map_cons,List.map_nil]);first|done|(rw [show ((l0.take ((wrap64 (pS)):Int).toNat).drop ((lF):Int).toNat).length=((wrap64 (pS)).toNat - (lF).toNat) from (by rw [List.length_drop,List.length_take];have h_:((wrap64 (pS)):Int)<=(l0.length:Int):=gA;omega)]<;>rfl)|(simp only [wE];rfl)|rfl|(simp only [List.length_drop,List.length_take];rfl)|(go_simp;done)|(simp [Act.eval,IntKind.signed];done)|(simp [Act.eval,IntKind.signed];rfl)) ?_
  with_reducible refine (ij.calls _ _ ((l0.take ((wrap64 (pS)):Int).toNat).drop ((lF):Int).toNat) Jc _ ?aE ?aG A33.out).mono ?_
  (case aE=>exact Kd.aW Yh.out (bz HB))
  (case aG=>exact Af0.out)
  rintro e Du ⟨AvD,rfl,gC,hb⟩;refine ⟨_,rfl, ?_⟩;have aH:=aa.mk (Kd.mQ (Kd.rz FB) (Kd.j3 gC) hb);have aK:=aa.mk (Kd.bP (Kd.qZ gC (Kd.ox (Kd.rz FB))) (af (bz HB)));have bt:=aa.mk (bq (kz eW) hb);have cC:=aa.mk (au (bz HB) hb);clear FB;clear eW;clear HB;have FB:=aH;have Yi:=aK;have eW:=bt;have HB:=cC;clear aH aK bt cC
  (try clear hb)
  (try clear hb2)
  (try clear hk)
  (try clear hi)
  (try clear gC)
  obtain ⟨Abx,Aby,Af1⟩:=Kd.dn Yi.out
  (first|subst Af1|(injection Af1 with mT ry mU;have rA:=mT.symm;have rB:=mU.symm;clear mT ry mU;subst rA;subst rB))
  obtain ⟨BZ,Ca,RU⟩:=Kd.dn FB.out
  (first|subst RU|(injection RU with mT ry mU;have rA:=mT.symm;have rB:=mU.symm;clear mT ry mU;subst rA;subst rB))
  refine hK.out _ _ ⟨((HB.out.cell (dF w _ f5)).trans f5),((HB.out.cell (dF w _ f6)).trans f6),((HB.out.cell (dF w _ f7)).trans f7)⟩ (fun hHeld=> ?_);clear hK K;refine nz 76 ?_;refine pz 29 77 ax ?_;refine oz 30 (none) ax (fun K hK=> ?_);have Asf:=ru eW.out;have Aog:=ae eW.out;refine wB (w1:= ?_) (by rfl) rfl ?_ ?_
  rotate_left
  ·go_simp
   rfl
  refine hK.out _ _ ⟨((cell_far (p:=⟨eT,_,none⟩) (by first|exact eF f5 fO.out|exact eG f5 fO.out) _).trans (((cell_far (p:=⟨eT,_,none⟩) (by first|exact eF f5 fO.out|exact eG f5 fO.out) _).trans (((cell_far (p:=⟨eT,_,none⟩) (by first|exact eF f5 fO.out|exact eG f5 fO.out) _).trans (((cell_far (p:=⟨eT,_,none⟩) (by first|exact eF f5 fO.out|exact eG f5 fO.out) _).trans (((cell_far (p:=⟨eT,_,none⟩) (by first|exact eF f5 fO.out|exact eG f5 fO.out) _).trans (((cell_far (p:=⟨eT,_,none⟩) (by first|exact eF f5 fO.out|exact eG f5 fO.out) _).trans (((cell_far (p:=⟨eT,_,none⟩) (by first|exact eF f5 fO.out|exact eG f5 fO.out) _).trans (((cell_far (p:=⟨eT,_,none⟩) (by first|exact eF f5 fO.out|exact eG f5 fO.out) _).trans (((cell_far (p:=⟨eT,_,none⟩) (by first|exact eF f5 fO.out|exact eG f5 fO.out) _).trans (((cell_far (p:=⟨eT,_,none⟩) (by first|exact eF f5 fO.out|exact eG f5 fO.out) _).trans (hHeld.1)))))))))))))))))))),((cell_far (p:=⟨eT,_,none⟩) (by first|exact eF f6 fO.out|exact eG f6 fO.out) _).trans (((cell_far (p:=⟨eT,_,none⟩) (by first|exact eF f6 fO.out|exact eG f6 fO.out) _).trans (((cell_far (p:=⟨eT,_,none⟩) (by first|exact eF f6 fO.out|exact eG f6 fO.out) _).trans (((cell_far (p:=⟨eT,_,none⟩) (by first|exact eF f6 fO.out|exact eG f6 fO.out) _).trans (((cell_far (p:=⟨eT,_,none⟩) (by first|exact eF f6 fO.out|exact eG f6 fO.out) _).trans (((cell_far (p:=⟨eT,_,none⟩) (by first|exact eF f6 fO.out|exact eG f6 fO.out) _).trans (((cell_far (p:=⟨eT,_,none⟩) (by first|exact eF f6 fO.out|exact eG f6 fO.out) _).trans (((cell_far (p:=⟨eT,_,none⟩) (by first|exact eF f6 fO.out|exact eG f6 fO.out) _).trans (((cell_far (p:=⟨eT,_,none⟩) (by first|exact eF f6 fO.out|exact eG f6 fO.out) _).trans (((cell_far (p:=⟨eT,_,none⟩) (by first|exact eF f6 fO.out|exact eG f6 fO.out) _).trans (hHeld.2.1)))))))))))))))))))),((cell_far (p:=⟨eT,_,none⟩) (by first|exact eF f7 fO.out|exact eG f7 fO.out) _).trans (((cell_far (p:=⟨eT,_,none⟩) (by first|exact eF f7 fO.out|exact eG f7 fO.out) _).trans (((cell_far (p:=⟨eT,_,none⟩) (by first|exact eF f7 fO.out|exact eG f7 fO.out) _).trans (((cell_far (p:=⟨eT,_,none⟩) (by first|exact eF f7 fO.out|exact eG f7 fO.out) _).trans (((cell_far (p:=⟨eT,_,none⟩) (by first|exact eF f7 fO.out|exact eG f7 fO.out) _).trans (((cell_far (p:=⟨eT,_,none⟩) (by first|exact eF f7 fO.out|exact eG f7 fO.out) _).trans (((cell_far (p:=⟨eT,_,none⟩) (by first|exact eF f7 fO.out|exact eG f7 fO.out) _).trans (((cell_far (p:=⟨eT,_,none⟩) (by first|exact eF f7 fO.out|exact eG f7 fO.out) _).trans (((cell_far (p:=⟨eT,_,none⟩) (by first|exact eF f7 fO.out|exact eG f7 fO.out) _).trans (((cell_far (p:=⟨eT,_,none⟩) (by first|exact eF f7 fO.out|exact eG f7 fO.out) _).trans (hHeld.2.2))))))))))))))))))))⟩ (fun hHeld=> ?_)
  clear hK K;refine dz ax ?_
  try go_wp2
  refine bodyPost_ret (results_cell_row rfl _ _ eT 73 #[.int .u8 (rd l0 1),.int .u8 (rd l0 8),.int .u8 (rd l0 9),.int .u16 zS,.int .u8 ((sX / 8192) % 256),.int .u16 (Go.bits .and .u16 sX 8191),.int .u32 Dq,.int .u32 E5,.slice BZ Gu.length Ca,.slice Abx Jc.length Aby] (0,0) _ rfl (by (with_reducible repeat (first|refine aQ ?_ _|refine aJ ?_|refine aM ?_ _));refine bK (cs:= #[.int .u8 (rd l0 1),.int .u8 (rd l0 8),.int .u8 (rd l0 9),.int .u16 zS,.int .u8 ((sX / 8192) % 256),.int .u16 (Go.bits .and .u16 sX 8191),.int .u32 Dq,.int .u32 E5,.slice BZ Gu.length Ca,.slice none 0 0]) ?_ 9 _ rfl;(with_reducible repeat (first|refine aQ ?_ _|refine aJ ?_|refine aM ?_ _));refine bK (cs:= #[.int .u8 (rd l0 1),.int .u8 (rd l0 8),.int .u8 (rd l0 9),.int .u16 zS,.int .u8 ((sX / 8192) % 256),.int .u16 (Go.bits .and .u16 sX 8191),.int .u32 Dq,.int .u32 E5,.slice none 0 0,.slice none 0 0]) ?_ 8 _ rfl;(with_reducible repeat (first|refine aQ ?_ _|refine aJ ?_|refine aM ?_ _));refine bK (cs:= #[.int .u8 (rd l0 1),.int .u8 (rd l0 8),.int .u8 (rd l0 9),.int .u16 zS,.int .u8 ((sX / 8192) % 256),.int .u16 (Go.bits .and .u16 sX 8191),.int .u32 Dq,.int .u32 0,.slice none 0 0,.slice none 0 0]) ?_ 7 _ rfl;(with_reducible repeat (first|refine aQ ?_ _|refine aJ ?_|refine aM ?_ _));refine bK (cs:= #[.int .u8 (rd l0 1),.int .u8 (rd l0 8),.int .u8 (rd l0 9),.int .u16 zS,.int .u8 ((sX / 8192) % 256),.int .u16 (Go.bits .and .u16 sX 8191),.int .u32 0,.int .u32 0,.slice none 0 0,.slice none 0 0]) ?_ 6 _ rfl;(with_reducible repeat (first|refine aQ ?_ _|refine aJ ?_|refine aM ?_ _));refine bK (cs:= #[.int .u8 (rd l0 1),.int .u8 (rd l0 8),.int .u8 (rd l0 9),.int .u16 zS,.int .u8 ((sX / 8192) % 256),.int .u16 0,.int .u32 0,.int .u32 0,.slice none 0 0,.slice none 0 0]) ?_ 5 _ rfl;(with_reducible repeat (first|refine aQ ?_ _|refine aJ ?_|refine aM ?_ _));refine bK (cs:= #[.int .u8 (rd l0 1),.int .u8 (rd l0 8),.int .u8 (rd l0 9),.int .u16 zS,.int .u8 0,.int .u16 0,.int .u32 0,.int .u32 0,.slice none 0 0,.slice none 0 0]) ?_ 4 _ rfl;(with_reducible repeat (first|refine aQ ?_ _|refine aJ ?_|refine aM ?_ _));refine bK (cs:= #[.int .u8 (rd l0 1),.int .u8 (rd l0 8),.int .u8 (rd l0 9),.int .u16 0,.int .u8 0,.int .u16 0,.int .u32 0,.int .u32 0,.slice none 0 0,.slice none 0 0]) ?_ 3 _ rfl;(with_reducible repeat (first|refine aQ ?_ _|refine aJ ?_|refine aM ?_ _));refine bK (cs:= #[.int .u8 (rd l0 1),.int .u8 (rd l0 8),.int .u8 0,.int .u16 0,.int .u8 0,.int .u16 0,.int .u32 0,.int .u32 0,.slice none 0 0,.slice none 0 0]) ?_ 2 _ rfl;(with_reducible repeat (first|refine aQ ?_ _|refine aJ ?_|refine aM ?_ _));refine bK (cs:= #[.int .u8 (rd l0 1),.int .u8 0,.int .u8 0,.int .u16 0,.int .u8 0,.int .u16 0,.int .u32 0,.int .u32 0,.slice none 0 0,.slice none 0 0]) ?_ 1 _ rfl;(with_reducible repeat (first|refine aQ ?_ _|refine aJ ?_|refine aM ?_ _));refine bK (cs:=jL) ?_ 0 _ rfl;(with_reducible repeat (first|refine aQ ?_ _|refine aJ ?_|refine aM ?_ _));exact eW.out) Try.underlying73 rfl (by kernel_rfl)) rfl ?_
  exact ⟨_,_,by first|rfl|(simp [aj,ak]<;>rfl)|(simp only [<- wE];first|rfl|(simp [aj,ak]<;>rfl))|(simp [*,aj,ak]<;>rfl),by (with_reducible repeat (first|apply Kd.fg|apply Kd.eV|apply Kd.fj));exact Kd.dA (Kd.eH (p:=⟨eT,9,none⟩) (Kd.eH (p:=⟨eT,8,none⟩) (Kd.eH (p:=⟨eT,7,none⟩) (Kd.eH (p:=⟨eT,6,none⟩) (Kd.eH (p:=⟨eT,5,none⟩) (Kd.eH (p:=⟨eT,4,none⟩) (Kd.eH (p:=⟨eT,3,none⟩) (Kd.eH (p:=⟨eT,2,none⟩) (Kd.eH (p:=⟨eT,1,none⟩) (Kd.eH (p:=⟨eT,0,none⟩) (Kd.mE FB.out eW.out (by decide)) (fun _ hk=>hk.2) (.int .u8 (rd l0 1))) (fun _ hk=>hk.2) (.int .u8 (rd l0 8))) (fun _ hk=>hk.2) (.int .u8 (rd l0 9))) (fun _ hk=>hk.2) (.int .u16 zS)) (fun _ hk=>hk.2) (.int .u8 ((sX / 8192) % 256))) (fun _ hk=>hk.2) (.int .u16 (Go.bits .and .u16 sX 8191))) (fun _ hk=>hk.2) (.int .u32 Dq)) (fun _ hk=>hk.2) (.int .u32 E5)) (fun _ hk=>hk.2) (.slice BZ Gu.length Ca)) (fun _ hk=>hk.2) (.slice Abx Jc.length Aby)) (fun _ hk=>hk.1.2),by (with_reducible repeat (first|apply Kd.fg|apply Kd.eV|apply Kd.fj));exact Kd.dA (Kd.eH (p:=⟨eT,9,none⟩) (Kd.eH (p:=⟨eT,8,none⟩) (Kd.eH (p:=⟨eT,7,none⟩) (Kd.eH (p:=⟨eT,6,none⟩) (Kd.eH (p:=⟨eT,5,none⟩) (Kd.eH (p:=⟨eT,4,none⟩) (Kd.eH (p:=⟨eT,3,none⟩) (Kd.eH (p:=⟨eT,2,none⟩) (Kd.eH (p:=⟨eT,1,none⟩) (Kd.eH (p:=⟨eT,0,none⟩) (Kd.mE Yi.out eW.out (by decide)) (fun _ hk=>hk.2) (.int .u8 (rd l0 1))) (fun _ hk=>hk.2) (.int .u8 (rd l0 8))) (fun _ hk=>hk.2) (.int .u8 (rd l0 9))) (fun _ hk=>hk.2) (.int .u16 zS)) (fun _ hk=>hk.2) (.int .u8 ((sX / 8192) % 256))) (fun _ hk=>hk.2) (.int .u16 (Go.bits .and .u16 sX 8191))) (fun _ hk=>hk.2) (.int .u32 Dq)) (fun _ hk=>hk.2) (.int .u32 E5)) (fun _ hk=>hk.2) (.slice BZ Gu.length Ca)) (fun _ hk=>hk.2) (.slice Abx Jc.length Aby)) (fun _ hk=>hk.1.2),bz HB⟩
end Go.Proofs.Ytkmimamminddiaa.PB
