/- Texts of this claim, merged: Sq, RwLib, PBx0, RwM, Sz, PBx11, PBx50, RwTp, PBx17, PBx18, PBx51, RwOf, PBx8, PBx13, PBx14. -/
import Derived.Test.YtkmimamminddiaaZpa
import Derived.KernelRfl
import Derived.Test.YtkmimamminddiaaProg
import Derived.Below
import Derived.Deep.Draws
import Derived.Deep.AppendLies
import Derived.Maps.AppendAt
import Derived.OwnWalk
import Derived.Laws.BytesArg
import Derived.Laws.MakeOwn
import Derived.Laws.OwnMore
import Derived.Deep.OwnRows
import Derived.Tactics
import Derived.Deep.Cut
import Derived.Deep.CutRange
import Derived.Deep.CutBlock
import Derived.Deep.WholeRow
import Derived.Deep.MidRow
import Derived.Lib.ConvBytes
import Derived.Laws.Slices
import Derived.WalkKit
import Derived.RowKit3
import Derived.Deep.LoopGhost
import Derived.Deep.QuietTactic
import Derived.BigQuiet
import Derived.WideLaws
import Derived.Deep.DeepCutAuto
import Derived.Deep.RegionHeld3
import Derived.Laws.Rows
import Derived.Lib.AppendStr
import Derived.ArgAppend
import Derived.Laws.IdiomCopy
import Derived.OrdersHeld
import Derived.Laws.BitsLemmas
import Derived.RowKit
import Derived.Defers
import Derived.Recover
import Derived.ChangeKeysEq
set_option maxHeartbeats 40000000
set_option maxRecDepth 100000
set_option linter.unusedVariables false
set_option linter.unusedSimpArgs false
namespace Go.Proofs.ai.dh
open Go.RowKit Go.Proofs.ai.bX
theorem AcX (t:List Value) (d:_) (n:Tmp) (v:Value):Act.put ⟨t.toArray,d⟩ (some n) v=⟨(t.set n v).toArray,d⟩:=by simp [Act.put]
theorem AcY (a:Act) (v:Value):Act.put a none v=a:=rfl
theorem AcZ (x y:Value) (l:List Value):(x::l).set 0 y=y::l:=rfl
theorem Ac0 (x y:Value) (l:List Value) (n:Nat):(x::l).set (n+1) y=x::l.set n y:=rfl
theorem pL:(∀ (t:List Value) (d:_) (n:Tmp) (v:Value),Act.put ⟨t.toArray,d⟩ (some n) v=⟨(t.set n v).toArray,d⟩) /\ (∀ (a:Act) (v:Value),Act.put a none v=a) /\ (∀ (x y:Value) (l:List Value),(x::l).set 0 y=y::l) /\ (∀ (x y:Value) (l:List Value) (n:Nat),(x::l).set (n+1) y=x::l.set n y) /\ (∀ n:Int,IntKind.i64.wrap n=wrap64 n) /\ (∀ n:Int,IntKind.i32.wrap n=wrap32 n):=⟨AcX,AcY,AcZ,Ac0,jk,mo⟩
section
variable {P:Program} {ops:Array Oper} {Q:Exit ->Act ->World ->Prop} {md:Region.Mode} {S:World ->Prop} {ds:List Nat} {T:Bool×List (List Nat×List Nat)} {B:List Nat} {l:Array Bool} {N:Option Tmp} {oi:Oper} {v:Value} {fuel:Nat} {a a':Act} {w:World}
theorem pz (i n:Nat) (hT:aa (gS md ops=T)) (h:cL P md ops Q S ds fuel (l.setIfInBounds i true) a' w) (hi:ops[i]?=some oi:=by rfl) (hN:oi.dst=some n:=by rfl) (hc:Tn T l.toList (l.setIfInBounds i true).toList i=true:=by kernel_rfl) (hQ:∀ c a w,Q (.panic c) (a.put oi.dst v) w ->Q (.panic c) a w:=by exact fun _ _ _ h=>h)
  (hw:Region.wanted oi (yielded ops a.tmps)=true:=by rfl) (hr:∀ w',(execOp a.eval oi).run P w'= .ok (.value v) w':=by (intro w';go_simp;with_reducible rfl)) (ha:a.put (some n) v=a':=by (simp only [pL];rfl)):cL P md ops Q S ds (fuel+1) l a w:=
 wI (l.setIfInBounds i true) hi hN (wL hT.out hc) hQ (Or.inl ⟨hw,hr⟩) ha h
theorem tz (i n:Nat) (hT:aa (gS md ops=T)) (hB:aa (dN T.2 B=true)) (hS:S w) (h:cL P md ops Q S ds fuel (l.setIfInBounds i true) a' w) (hi:ops[i]?=some oi:=by rfl) (hN:oi.dst=some n:=by rfl) (hc:Mg T B ds l.toList (l.setIfInBounds i true).toList i=true:=by kernel_rfl) (hQ:∀ c a w,Q (.panic c) (a.put oi.dst v) w ->Q (.panic c) a w:=by exact fun _ _ _ h=>h)
  (hw:Region.wanted oi (yielded ops a.tmps)=true:=by rfl) (hr:∀ w',S w' ->(execOp a.eval oi).run P w'= .ok (.value v) w':=by (intro w' s0;go_simp;with_reducible rfl)) (ha:a.put (some n) v=a':=by (simp only [pL];rfl)):cL P md ops Q S ds (fuel+1) l a w:=
 gK (l.setIfInBounds i true) hi hN (dn hT.out hB.out hc) hQ (Or.inl ⟨hw,hr⟩) hS ha h
theorem oz (i:Nat) (N:Option Tmp) (hT:aa (gS md ops=T)) (h:∀ K:Act ->World ->Prop,Shut (∀ a' w',S w' ->(S w' ->cL P md ops Q S ds fuel (l.setIfInBounds i true) a' w') ->K a' w') ->if Region.wanted oi (yielded ops a.tmps)=true then Oper.wp P oi a w K Q else K (a.put N undef) w) (hi:ops[i]?=some oi:=by rfl) (hN:oi.dst=N:=by rfl) (hc:(wK T.2 l.toList==[i] && l.toList.set i true==(l.setIfInBounds i true).toList)=true:=by kernel_rfl) (hd:i ∉ ds:=by decide):cL P md ops Q S ds (fuel+1) l a w:=
 YA (l.setIfInBounds i true) hi hN (Pu hT.out hc) hd h
theorem nz (n:Tmp) {b:Act} (h:cL P md ops Q S ds fuel l a' w) (ha:Act.put b (some n) v=a':=by (simp only [pL];rfl)):cL P md ops Q S ds fuel l (Act.put b (some n) v) w:=Mc ha h
theorem dz {n:Nat} (hT:aa (gS md ops=T)) (h:Q .normal a w) (hc:(wK T.2 l.toList==[])=true:=by kernel_rfl):cL P md ops Q S ds n l a w:=V8 (Tq hT.out hc) h
end
theorem cz {w:World} {g:Nat} {cs:Array Value} {t:TypeId} {f:Nat×Nat} {v:Value} (h:w.heap[g]?=some (.cells cs t f)) (i:Nat) (e:cs[i]?=some v):w.cell? ⟨g,i,none⟩=some v:=(cell_of_row w g i cs t f h).trans e
theorem eD {w:World} {a:Addr} {v:Value} {g:Nat} (h:w.cell? a=some v) (hg:w.heap.size<=g):a.block≠g:=Nat.ne_of_lt (Nat.lt_of_lt_of_le (dA w a h) hg)
theorem eE {w:World} {a:Addr} {v:Value} {g i:Nat} (h:w.cell? (a.add i)=some v) (hg:w.heap.size<=g):a.block≠g:=by
 have h1:=eD h hg
 rwa [Nx] at h1
end Go.Proofs.ai.dh
namespace Go.Proofs.Ytkmimamminddiaa.PB
open Go.RowKit Go.Proofs.ai.bX Go.Proofs.ai.dh Go.Proofs.ai.iL
theorem bV {α β:Type} {x:Option α} {f:α ->Option β} {r:β} (h:x.bind f=some r):∃ y,x=some y /\ f y=some r:=by
 cases x with
 |none=>cases h
 |some y=>exact ⟨y,rfl,h⟩
theorem iX (w:World) (o:Obj):(w.alloc o).heap[w.heap.size]?=some o:=by simp [World.alloc, -World.alloc_eq]
structure kS (W w1:World) (g:Nat):Prop where
 os:w1.os=W.os
 tape:w1.tape=W.tape
 output:w1.output=W.output
 size:w1.heap.size=W.heap.size
 far:∀ k,k≠g ->w1.heap[k]?=W.heap[k]?
theorem kS.setCell (W:World) (g i:Nat) (v:Value):kS W (W.setCell ⟨g,i,none⟩ v) g:=⟨rfl,rfl,rfl,by simp [World.setCell],fun k hk=>Below.heap_setCell W ⟨g,i,none⟩ v k hk⟩
theorem kS.below {W w1 w:World} {g B:Nat} (h:kS W w1 g) (hB:Below B w W) (hg:B<=g):Below B w w1:=
 ⟨h.os.trans hB.os,h.tape.trans hB.tape,h.output.trans hB.output,by rw [h.size];exact hB.size,fun i hi=>(h.far i (by omega)).trans (hB.block i hi)⟩
theorem kS.blk {W w1:World} {g g' t t':Nat} {cs ds:Array Value} {f:Nat×Nat} (h:kS W w1 g) (hx:W.heap[g']?=some (.cells cs t' f)) (hg:W.heap[g]?=some (.cells ds t (0,0))) (ht:t'≠t):w1.heap[g']?=some (.cells cs t' f):=
 (h.far g' (fun e=>by subst e;rw [hx] at hg;injection hg with hg;injection hg with h1 h2;exact ht h2)).trans hx
theorem kS.Ac1 {W w1:World} {g g':Nat} {o:Obj} (h:kS W w1 g) (hx:W.heap[g']?=some o) (hn:g'≠g):w1.heap[g']?=some o:=(h.far g' hn).trans hx
theorem kS.R {k:IntKind} {e:Nat} {W w1:World} {base:Nat} {v:Value} {xs:List Int} {g t:Nat} {ds:Array Value} (h:kS W w1 g) (hr:Kd.R (Kd.int k) e W base (fun _=>True) v xs) (hg:W.heap[g]?=some (.cells ds t (0,0))) (ht:e≠t):Kd.R (Kd.int k) e w1 base (fun _=>True) v xs:=
 Kd.dm (Kd.wG (Kd.mL hr hg (fun q hq=>by have e_:q=e:=(List.mem_cons.1 hq).resolve_right (fun h=>nomatch h);rw [e_];exact ht)) (fun k hk _=>h.far k hk.2)) (fun _ hk=>hk.1)
section
variable {P:Program} {ops:Array Oper} {rest:List Oper} {o:Oper} {a:Act} {Q:Exit ->Act ->World ->Prop}
theorem mQ {W w1:World} (hgd:o.guard=none) (hd:o.dst=none) (hrun:(execOp a.eval o).run P W= .ok .skip w1) (h:wpList P ops Q rest a w1):wpList P ops Q (o::rest) a W:=by
 refine wpList_plain hgd fun K hK=> ?_
 unfold Oper.wp;rw [hrun];refine hK _ _ ?_;rw [hd];exact h
theorem gQ {W:World} {g t i:Nat} {cs cs':Array Value} {v:Value} (hgd:o.guard=none) (hd:o.dst=none) (hb:W.heap[g]?=some (.cells cs t (0,0))) (he:cs.setIfInBounds i v=cs') (hrun:(execOp a.eval o).run P W= .ok .skip (W.setCell ⟨g,i,none⟩ v))
  (h:∀ w1,w1.heap[g]?=some (.cells cs' t (0,0)) ->kS W w1 g ->wpList P ops Q rest a w1):wpList P ops Q (o::rest) a W:=
 mQ hgd hd hrun (h _ (bM hb i v he) (kS.setCell W g i v))
theorem br {w:World} {c:Array Value} {g:Nat} {t ty:TypeId} {p:Operand} {d:TypeDesc} (ho:o.op= .load ty p) (hp:a.eval p= .pointer (some ⟨g,0,none⟩)) (hg:w.heap[g]?=some (.cells c t (0,0))) (hu:P.underlying ty=some d) (hd:(match d with| .struct _| .array _ _=>true|_=>false)=true) (hi:(P.info? ty).map (·.size)=some c.size):
  (execOp a.eval o).run P w= .ok (.value (.agg c)) w:=by
 have h:=run_loadVar_row (P:=P) w g t ty c (0,0) d hg hu hd hi;unfold execOp;simp only [ho,hp]
 simp [Instr.loadAt,Instr.sureAddr,h,Sem.run_bind,Result.andThen]
theorem H7 {w:World} {old c':Array Value} {g:Nat} {t ty:TypeId} {p x:Operand} (ho:o.op= .store ty p x) (hp:a.eval p= .pointer (some ⟨g,0,none⟩)) (hx:a.eval x= .agg c') (hg:w.heap[g]?=some (.cells old t (0,0))) (hi:(P.info? ty).map (·.size)=some c'.size) (hs:old.size=c'.size) (h1:c'.all (·.oneCell')=true):
  (execOp a.eval o).run P w= .ok .skip (w.setRow g c'):=by
 have h:=run_storeVar_row (P:=P) w g t ty old c' hg hi hs h1;unfold execOp;simp only [ho,hp,hx]
 simp [Instr.storeAt,Instr.sureAddr,h,Sem.run_bind,Result.andThen]
theorem tS {w:World} {c c':Array Value} {t:TypeId} {p x:Operand} (ho:o.op= .store t p x) (hp:a.eval p= .pointer (some ⟨w.heap.size,0,none⟩)) (hx:a.eval x= .agg c') (hi:(P.info? t).map (·.size)=some c'.size) (hs:c.size=c'.size) (h1:c'.all (·.oneCell')=true):
  (execOp a.eval o).run P (w.alloc (.cells c t))= .ok .skip (w.alloc (.cells c' t)):=by
 have h:=run_storeAt_new (P:=P) w t c c' hi hs h1;unfold execOp;simp only [ho,hp,hx]
 simp [h,Sem.run_bind,Result.andThen]
end
section
variable {P:Program} {ops:Array Oper} {rest:List Oper} {o:Oper} {a:Act} {Q:Exit ->Act ->World ->Prop}
theorem PG {W:World} (hgd:o.guard=none) {cs:Array Value} {t:TypeId} {n:Nat} (hrun:(execOp a.eval o).run P W= .ok (.value (.slice (some ⟨W.heap.size,0,none⟩) n n)) (W.alloc (.cells cs t)))
  (h:∀ g,∀ w1,w1.heap[g]?=some (.cells cs t (0,0)) ->g=W.heap.size ->Below W.heap.size W w1 ->wpList P ops Q rest (a.put o.dst (.slice (some ⟨g,0,none⟩) n n)) w1):wpList P ops Q (o::rest) a W:=Kd.bL hgd hrun (h _ _ (iX _ _) rfl (dX (Below.refl _ _) _))
theorem TH (k:IntKind) {w0 W:World} (base e:Nat) (hgd:o.guard=none) {N:Tmp} (hd:o.dst=some N) (xs:List Int) (hrun:(execOp a.eval o).run P W= .ok (.value (.slice (some ⟨W.heap.size,0,none⟩) xs.length xs.length)) (W.alloc (.cells (xs.map (Value.int k)).toArray e))) (HB:Below base w0 W) (hbase:base<=W.heap.size) (hm:xs.length<=9223372036854775807)
  (h:∀ A c w1,Kd.R (Kd.int k) e w1 base (fun _=>True) (.slice A xs.length c) xs ->Below base w0 w1 ->W.grownBy w1 none ->wpList P ops Q rest (a.put o.dst (.slice A xs.length c)) w1):wpList P ops Q (o::rest) a W:=
 Kd.qq (Kd.int k) base e hgd hd (xs:=xs) (inner:=xs.map (Value.int k)) (ok:=fun _=>True) (rq:=fun _=>True) hrun (Kd.AW (enc:=Value.int k) xs) (fun _ h=>h) trivial HB hbase hm (fun v1 w1 ho hb hg _=>by
  obtain ⟨A,c,rfl⟩:=Kd.da ho
  exact h A c w1 ho hb hg)
end
theorem PI {W:World} {g t:Nat} {c:Array Value} {f:Nat×Nat} (cs:Array Value) (h:W.heap[g]?=some (.cells c t f)):(W.setRow g cs).heap[g]?=some (.cells cs t f):=setRow_heap W g c cs t f h
theorem kS.setRow {W:World} (g:Nat) (cs:Array Value):kS W (W.setRow g cs) g:=⟨rfl,rfl,rfl,by simp [World.setRow],fun k hk=>setRow_other W g k cs (fun e=>hk e)⟩
theorem mq {k:IntKind} {w:World} {g t m:Nat} {xs:List Int} {cs:Array Value} {f:Nat×Nat} (h:w.heap[g]?=some (.cells cs t f)) (hc:cs=(xs.map (Value.int k)).toArray) (hm:m<=xs.length) (hd:xs.length<=1000000):Kd.C (Kd.int k) w (some ⟨g,0,none⟩) (xs.take m).length (xs.take m):=
 Kd.dD (enc:=Value.int k) (d:=(0:Int)) (h1:=fun _=>rfl) ⟨rfl,by rw [List.length_take];omega,fun _=>⟨_,rfl,fun j hj=>by
  rw [List.length_take] at hj
  have ha:(⟨g,0,none⟩:Addr).add j=⟨g,j,none⟩:=add_plain g j;rw [ha];subst hc;refine (cell_of_row w g j _ t f h).trans ?_
  simp [List.getD_eq_getElem?_getD,List.getElem?_eq_getElem (show j<xs.length by omega),List.getElem?_take,show j<m by omega]⟩⟩
theorem PJ {P:Program} (t e:TypeId) (kh:IntKind) {i:TypeInfo} (ht:P.underlying t=some (.slice e)) (hi:P.info? e=some i) (A:Option Addr) (n c:Nat) (j:Int) (m:Nat) (hj:j=(m:Int)) (hm:m<=n) (hc:n<=c):∀ W:World,(Instr.slice t (.slice A n c) none (some (.int kh j)) none).run P W= .ok (.slice A m c) W:=by
 subst hj;have:=Kt (P:=P) t e kh ht hi A n c (m:Int) (by omega) (by omega) hc
 simpa using this
attribute [local go_sem] dF dG eG eH cQ cR dH dI
def Ac2:Option Int ->Value
 |none=> .nilIface
 |some c=> .iface 0 (.int .i64 c)
theorem aj:Ac2 none= .nilIface:=rfl
theorem ak (c:Int):Ac2 (some c)= .iface 0 (.int .i64 c):=rfl
theorem gB:(Try.prog.info? 5).map (fun i=>(i.zero,i.size,i.bytes))=some (some (.int .u8 0),1,1):=by kernel_rfl
theorem FI:(Try.prog.info? 45).map (fun i=>(i.zero,i.size,i.bytes))=some (some (.int .u16 0),1,2):=by kernel_rfl
def qO (xs:List (List Int)) (i:Int):(List Int):=xs.getD i.toNat ([]:List Int)
theorem Wa {w:World} {A:Option Addr} {n:Nat} {xs:List (List Int)} (h:Kd.C (Kd.slice 5 (Kd.int .u8)) w A n xs) (i:Int) (h0:0<=i) (h1:i<n):∃ ad A0 c0,A=some ad /\ w.cell? (ad.add i.toNat)=some (.slice A0 (qO xs i).length c0) /\ (qO xs i).length<=c0 /\ (Kd.int .u8).C w A0 (qO xs i).length (qO xs i):=by
 obtain ⟨ad,c,e,_,hK,hc0⟩:=Kd.AcJ h ([]:List Int) i h0 h1;have hc:∀ j u,c[j]?=some u ->w.cell? (ad.add (i.toNat*1+j))=some u:=hc0;obtain ⟨A0,c0,rfl,l0,g0⟩:=hK;exact ⟨ad,A0,c0,e,by have hq:=hc 0 _ rfl;rwa [Nat.mul_one,Nat.add_zero] at hq,l0,g0⟩
structure nj where
 f0:Int
 f1:Int
def EG:Kd nj:=Kd.iso (Kd.pair (Kd.int .u32) (Kd.int .u16)) (fun x:nj=>(x.f0,x.f1))
theorem xD (w:World) (base:Nat) (ok:Nat ->Prop) (x:nj):EG.M w base ok x [.int .u32 x.f0,.int .u16 x.f1]:=⟨[.int .u32 x.f0],[.int .u16 x.f1],rfl,rfl,rfl⟩
theorem mB {w W w2:World} (h:aa (Below w.heap.size w W)) (k:Below W.heap.size W w2):aa (Below w.heap.size w w2):=⟨aq h.out k⟩
theorem mX {w w1:World} {g:Nat} {o:Obj} (h:aa (w.heap[g]?=some o)) (hb:Below w.heap.size w w1):aa (w1.heap[g]?=some o):=⟨bn h.out hb⟩
theorem mR {k:IntKind} {e base:Nat} {ok:Nat ->Prop} {w w1:World} {v:Value} {xs:List Int} (h:aa (Kd.R (Kd.int k) e w base ok v xs)) (hb:Below w.heap.size w w1):aa (Kd.R (Kd.int k) e w1 base ok v xs):=⟨Kd.fU h.out hb⟩
theorem mI {e base:Nat} {ok:Nat ->Prop} {w w1:World} {v:Value} {xs:List nj} (h:aa (Kd.R EG e w base ok v xs)) (hb:Below w.heap.size w w1):aa (Kd.R EG e w1 base ok v xs):=⟨Kd.fU h.out hb⟩
theorem mC {k:IntKind} {w w1:World} {A:Option Addr} {n:Nat} {xs:List Int} (h:aa (Kd.C (Kd.int k) w A n xs)) (hb:Below w.heap.size w w1):aa (Kd.C (Kd.int k) w1 A n xs):=⟨Kd.aU h.out hb⟩
theorem kS.R65 {W w1:World} {base:Nat} {v:Value} {xs:List nj} {g t:Nat} {ds:Array Value} (h:kS W w1 g) (hr:Kd.R EG 65 W base (fun _=>True) v xs) (hg:W.heap[g]?=some (.cells ds t (0,0))) (ht:65≠t):Kd.R EG 65 w1 base (fun _=>True) v xs:=
 Kd.dm (Kd.wG (Kd.mL hr hg (fun q hq=>by have e_:q=65:=(List.mem_cons.1 hq).resolve_right (fun h=>nomatch h);rw [e_];exact ht)) (fun k hk _=>h.far k hk.2)) (fun _ hk=>hk.1)
section
variable {W w1:World} {g t:Nat} {ds:Array Value}
theorem oB {w:World} (o:kS W w1 g) (h:aa (Below w.heap.size w W)) (hg:aa (w.heap.size<=g)):aa (Below w.heap.size w w1):=⟨kS.below o h.out hg.out⟩
theorem oX {g' t':Nat} {cs:Array Value} {f:Nat×Nat} (o:kS W w1 g) (h:aa (W.heap[g']?=some (.cells cs t' f))) (hg:aa (W.heap[g]?=some (.cells ds t (0,0)))) (ht:t'≠t):aa (w1.heap[g']?=some (.cells cs t' f)):=⟨kS.blk o h.out hg.out ht⟩
theorem oN {g':Nat} {o':Obj} (o:kS W w1 g) (h:aa (W.heap[g']?=some o')) (hn:aa (g'≠g)):aa (w1.heap[g']?=some o'):=⟨kS.Ac1 o h.out hn.out⟩
theorem oR {k:IntKind} {e base:Nat} {v:Value} {xs:List Int} (o:kS W w1 g) (h:aa (Kd.R (Kd.int k) e W base (fun _=>True) v xs)) (hg:aa (W.heap[g]?=some (.cells ds t (0,0)))) (ht:e≠t):aa (Kd.R (Kd.int k) e w1 base (fun _=>True) v xs):=⟨kS.R o h.out hg.out ht⟩
theorem oI {base:Nat} {v:Value} {xs:List nj} (o:kS W w1 g) (h:aa (Kd.R EG 65 W base (fun _=>True) v xs)) (hg:aa (W.heap[g]?=some (.cells ds t (0,0)))) (ht:65≠t):aa (Kd.R EG 65 w1 base (fun _=>True) v xs):=⟨kS.R65 o h.out hg.out ht⟩
theorem bD {a b:Nat} (h:aa (a≠b)):aa (b≠a):=⟨Ne.symm h.out⟩
theorem dJ {W:World} {g':Nat} {o:Obj} (h:aa (W.heap[g']?=some o)):aa (g'≠W.heap.size):=⟨Nat.ne_of_lt (mm h.out)⟩
theorem wN {w W:World} (h:aa (Below w.heap.size w W)):aa (w.heap.size<=W.heap.size):=⟨af h.out⟩
end
section
variable {P:Program} {ops:Array Oper} {rest:List Oper} {o:Oper} {a:Act} {Q:Exit ->Act ->World ->Prop}
theorem dO {W:World} {old c':Array Value} {g t ty:Nat} {p x:Operand} (hgd:o.guard=none) (hd:o.dst=none) (ho:o.op= .store ty p x) (hp:a.eval p= .pointer (some ⟨g,0,none⟩)) (hx:a.eval x= .agg c') (hg:W.heap[g]?=some (.cells old t (0,0))) (hi:(P.info? ty).map (·.size)=some c'.size) (hs:old.size=c'.size) (h1:c'.all (·.oneCell')=true)
  (h:∀ w1,w1.heap[g]?=some (.cells c' t (0,0)) ->kS W w1 g ->wpList P ops Q rest a w1):wpList P ops Q (o::rest) a W:=
 mQ hgd hd (H7 ho hp hx hg hi hs h1) (h _ (PI c' hg) (kS.setRow g c'))
theorem eu {w:World} {c c':Array Value} {t:Nat} {p x:Operand} (hgd:o.guard=none) (hd:o.dst=none) (ho:o.op= .store t p x) (hp:a.eval p= .pointer (some ⟨w.heap.size,0,none⟩)) (hx:a.eval x= .agg c') (hi:(P.info? t).map (·.size)=some c'.size) (hs:c.size=c'.size) (h1:c'.all (·.oneCell')=true)
  (h:∀ w1,w1.heap[w.heap.size]?=some (.cells c' t (0,0)) ->Below w.heap.size w w1 ->wpList P ops Q rest a w1):wpList P ops Q (o::rest) a (w.alloc (.cells c t)):=
 mQ hgd hd (tS ho hp hx hi hs h1) (h _ (iX _ _) (dX (Below.refl _ _) _))
end
section
variable {P:Program} {ops:Array Oper} {oi:Oper} {a:Act} {W:World} {K:Act ->World ->Prop} {Q:Exit ->Act ->World ->Prop}
theorem cC {old c':Array Value} {g t ty:Nat} {p x:Operand} (hw:Region.wanted oi (yielded ops a.tmps)=true) (hN:oi.dst=none) (ho:oi.op= .store ty p x) (hp:a.eval p= .pointer (some ⟨g,0,none⟩)) (hx:a.eval x= .agg c') (hg:W.heap[g]?=some (.cells old t (0,0))) (hi:(P.info? ty).map (·.size)=some c'.size) (hs:old.size=c'.size) (h1:c'.all (·.oneCell')=true)
  (h:∀ w1,w1.heap[g]?=some (.cells c' t (0,0)) ->kS W w1 g ->K a w1):if Region.wanted oi (yielded ops a.tmps)=true then Oper.wp P oi a W K Q else K (a.put none undef) W:=
 wJ hw hN (H7 ho hp hx hg hi hs h1) (h _ (PI c' hg) (kS.setRow g c'))
theorem fK {cs cs':Array Value} {v:Value} {g t i:Nat} (hw:Region.wanted oi (yielded ops a.tmps)=true) (hN:oi.dst=none) (hb:W.heap[g]?=some (.cells cs t (0,0))) (he:cs.setIfInBounds i v=cs') (hrun:(execOp a.eval oi).run P W= .ok .skip (W.setCell ⟨g,i,none⟩ v))
  (h:∀ w1,w1.heap[g]?=some (.cells cs' t (0,0)) ->kS W w1 g ->K a w1):if Region.wanted oi (yielded ops a.tmps)=true then Oper.wp P oi a W K Q else K (a.put none undef) W:=
 wJ hw hN hrun (h _ (bM hb i v he) (kS.setCell W g i v))
end
theorem lD {k:IntKind} {e:Nat} {ok:Nat ->Prop} {w w1 w2:World} {v:Value} {xs:List Int} (h:Kd.R (Kd.int k) e w2 w1.heap.size ok v xs) (hB:aa (Below w.heap.size w w1)):aa (Kd.R (Kd.int k) e w2 w.heap.size (fun _=>True) v xs):=⟨Kd.dm (Kd.bP h (af hB.out)) (fun _ _=>trivial)⟩
section
variable {P:Program} {md:Region.Mode} {ops:Array Oper} {T:Bool×List (List Nat×List Nat)} {B:List Nat} {oi:Oper} {v:Value} {a:Act} {w:World} {S:World ->Prop} {ds:List Nat} {fuel:Nat} {l:Array Bool} {Q:Exit ->Act ->World ->Prop}
theorem pv (i n:Nat) (v:Value) (hT:aa (gS md ops=T)) (hr:∀ w',(execOp a.eval oi).run P w'= .ok (.value v) w') (h:cL P md ops Q S ds fuel (l.setIfInBounds i true) (a.put (some n) v) w) (hi:ops[i]?=some oi:=by rfl) (hN:oi.dst=some n:=by rfl) (hc:Tn T l.toList (l.setIfInBounds i true).toList i=true:=by kernel_rfl) (hQ:∀ c a w,Q (.panic c) (a.put oi.dst v) w ->Q (.panic c) a w:=by exact fun _ _ _ h=>h)
  (hw:Region.wanted oi (yielded ops a.tmps)=true:=by rfl):cL P md ops Q S ds (fuel+1) l a w:=
 wI (l.setIfInBounds i true) hi hN (wL hT.out hc) hQ (Or.inl ⟨hw,hr⟩) rfl h
theorem tv (i n:Nat) (v:Value) (hT:aa (gS md ops=T)) (hB:aa (dN T.2 B=true)) (hS:S w) (hr:∀ w',S w' ->(execOp a.eval oi).run P w'= .ok (.value v) w') (h:cL P md ops Q S ds fuel (l.setIfInBounds i true) (a.put (some n) v) w) (hi:ops[i]?=some oi:=by rfl) (hN:oi.dst=some n:=by rfl) (hc:Mg T B ds l.toList (l.setIfInBounds i true).toList i=true:=by kernel_rfl) (hQ:∀ c a w,Q (.panic c) (a.put oi.dst v) w ->Q (.panic c) a w:=by exact fun _ _ _ h=>h)
  (hw:Region.wanted oi (yielded ops a.tmps)=true:=by rfl):cL P md ops Q S ds (fuel+1) l a w:=
 gK (l.setIfInBounds i true) hi hN (dn hT.out hB.out hc) hQ (Or.inl ⟨hw,hr⟩) hS rfl h
end
end Go.Proofs.Ytkmimamminddiaa.PB
namespace Go.Proofs.ai.dh
open Go.RowKit Go.Proofs.ai.bX Go.Proofs.ai.iL
theorem bz {B:Nat} {w W W0:World} (H:aa (Below B w W0)) (h:Below B w W0 ->Below B w W:=by (intro h_;repeat (first|(with_reducible first|exact h_|apply dX|apply fe|apply bf|refine uu ?_ (aa.out (by assumption)))|exact h_))):Below B w W:=h H.out
theorem kz {g:Nat} {o:Obj} {W W0:World} (H:aa (W0.heap[g]?=some o)) (h:W0.heap[g]?=some o ->W.heap[g]?=some o:=by (intro h_;(with_reducible repeat (first|refine aN ?_ _|refine aK ?_|refine aM ?_ _));exact h_)):W.heap[g]?=some o:=h H.out
section
variable {P:Program} {ops:Array Oper} {Q:Exit ->Act ->World ->Prop}
theorem gL {rest:List Oper} {oi:Oper} {a:Act} {w:World} (n:Tmp) {f:FuncId} {fn:Func} {ar:Array Operand} {ts:Array TypeId} (hf:P.funcs[f]?=some fn) (args:Array Value)
  (h:Calls P f args w fun e w'=>∃ v,e= .returned v /\ wpList P ops Q rest (a.put (some n) v) w') (hd:oi.dst=some n:=by rfl) (hg:oi.guard=none:=by rfl) (hname:(fn.name== "runtime.NumGoroutine")=false:=by kernel_rfl) (hb:fn.body.isSome=true:=by rfl)
  (hop:oi.op= .call {callee:= .value (.func f),args:=ar,argTypes:=ts}:=by rfl) (hargs:ar.map a.eval=args:=by ((try simp only [List.map_toArray,List.map_cons,List.map_nil]);first|done|rfl|(simp only [List.length_drop,List.length_take];rfl)|(go_simp;done)|(simp [Act.eval,IntKind.signed];done)|(simp [Act.eval,IntKind.signed];rfl))):wpList P ops Q (oi::rest) a w:=
 tQ (some n) hd hg hf hname hb args hop hargs h
theorem gG {oi:Oper} {N:Option Tmp} {a:Act} {w:World} {K:Act ->World ->Prop} {f:FuncId} {fn:Func} {ar:Array Operand} {ts:Array TypeId} (hf:P.funcs[f]?=some fn) (args:Array Value)
  (h:Calls P f args w fun e w'=>∃ v,e= .returned v /\ K (a.put N v) w') (hname:(fn.name== "runtime.NumGoroutine")=false:=by kernel_rfl) (hb:fn.body.isSome=true:=by rfl) (hw:Region.wanted oi (yielded ops a.tmps)=true:=by rfl) (hN:oi.dst=N:=by rfl) (hop:oi.op= .call {callee:= .value (.func f),args:=ar,argTypes:=ts}:=by rfl)
  (hargs:ar.map a.eval=args:=by ((try simp only [List.map_toArray,List.map_cons,List.map_nil]);first|done|rfl|(simp only [List.length_drop,List.length_take];rfl)|(go_simp;done)|(simp [Act.eval,IntKind.signed];done)|(simp [Act.eval,IntKind.signed];rfl))):if Region.wanted oi (yielded ops a.tmps)=true then Oper.wp P oi a w K Q else K (a.put N undef) w:=
 kF hf hname hb args hw hN hop hargs h
end
theorem Ky {w:World} {g t:Nat} {f:Nat×Nat} {c0 c1:Value} (h:w.heap[g]?=some (.cells #[c0,c1] t f)):w.cell? ⟨g,0,none⟩=some c0 /\ w.cell? ⟨g,1,none⟩=some c1:=⟨cz h 0 rfl,cz h 1 rfl⟩
theorem cs4 {w:World} {g t:Nat} {f:Nat×Nat} {c0 c1 c2 c3:Value} (h:w.heap[g]?=some (.cells #[c0,c1,c2,c3] t f)):w.cell? ⟨g,0,none⟩=some c0 /\ w.cell? ⟨g,1,none⟩=some c1 /\ w.cell? ⟨g,2,none⟩=some c2 /\ w.cell? ⟨g,3,none⟩=some c3:=⟨cz h 0 rfl,cz h 1 rfl,cz h 2 rfl,cz h 3 rfl⟩
theorem cs5 {w:World} {g t:Nat} {f:Nat×Nat} {c0 c1 c2 c3 c4:Value} (h:w.heap[g]?=some (.cells #[c0,c1,c2,c3,c4] t f)):w.cell? ⟨g,0,none⟩=some c0 /\ w.cell? ⟨g,1,none⟩=some c1 /\ w.cell? ⟨g,2,none⟩=some c2 /\ w.cell? ⟨g,3,none⟩=some c3 /\ w.cell? ⟨g,4,none⟩=some c4:=⟨cz h 0 rfl,cz h 1 rfl,cz h 2 rfl,cz h 3 rfl,cz h 4 rfl⟩
theorem rC {w:World} {g t:Nat} {f:Nat×Nat} {c0 c1 c2 c3 c4 c5 c6 c7 c8 c9:Value} (h:w.heap[g]?=some (.cells #[c0,c1,c2,c3,c4,c5,c6,c7,c8,c9] t f)):w.cell? ⟨g,0,none⟩=some c0 /\ w.cell? ⟨g,1,none⟩=some c1 /\ w.cell? ⟨g,2,none⟩=some c2 /\ w.cell? ⟨g,3,none⟩=some c3 /\ w.cell? ⟨g,4,none⟩=some c4 /\ w.cell? ⟨g,5,none⟩=some c5 /\ w.cell? ⟨g,6,none⟩=some c6 /\ w.cell? ⟨g,7,none⟩=some c7 /\ w.cell? ⟨g,8,none⟩=some c8 /\ w.cell? ⟨g,9,none⟩=some c9:=⟨cz h 0 rfl,cz h 1 rfl,cz h 2 rfl,cz h 3 rfl,cz h 4 rfl,cz h 5 rfl,cz h 6 rfl,cz h 7 rfl,cz h 8 rfl,cz h 9 rfl⟩
end Go.Proofs.ai.dh
namespace Go.Proofs.ai.bX
open Go.RowKit Go.Proofs.ai.dh
theorem Kd.rz {α:Type} {d:Kd α} {e:TypeId} {W W0:World} {base:Nat} {ok:Nat ->Prop} {v:Value} {xs:List α} (H:aa (d.R e W0 base ok v xs)) (h:d.R e W0 base ok v xs ->d.R e W base ok v xs:=by (intro h_;(with_reducible repeat (first|apply Kd.eX|apply Kd.eT|apply Kd.eY));exact h_)):d.R e W base ok v xs:=h H.out
end Go.Proofs.ai.bX
namespace Go.Proofs.Ytkmimamminddiaa.PB
open Go.RowKit Go.Proofs.ai.bX Go.Proofs.ai.dh Go.Proofs.ai.iL
attribute [local go_sem] dF dG eG eH cQ cR dH dI
def cH.f (l0:List Int):Option (List Int):=if l0.length<140737488355328 then some l0 else none
theorem cH.calls (A0:Option Addr) (c0:Nat) (l0:List Int) (r:List Int) (w:World) (hr0:Kd.C (Kd.int .u8) w A0 l0.length l0) (hc0:l0.length<=c0) (h:cH.f l0=some r):
    Calls Try.prog 97 #[.slice A0 l0.length c0] w fun e w'=>∃ o6:Value,e= .returned (o6) /\ Kd.R (Kd.int .u8) 5 w' w.heap.size (fun _=>True) o6 r /\ Below w.heap.size w w':=by
  unfold cH.f at h
  by_cases c7:l0.length<140737488355328
  · rw [au c7] at h
    obtain rfl:=cS h;clear h;have FJ:=aa.mk c7;clear c7;have gh:=aa.mk hr0;have jC:=aa.mk hc0;clear hr0 hc0;have HB:=gj w
    cases A0 with
    |none=>
      have e:=AX gh.out;subst e;have hq:=fun (W:World) (n c:Nat)=>Go.Lib.run_eql_slice_nil (P:=Try.prog) W 23 5 none n c 0 0 Try.underlying23
      go_enter Try.func97,Try.ntmps97
      go_wp2
      go_ret
      exact ⟨_,rfl,Kd.cl _ _ _ _ _,Below.refl _ _⟩
    |some ad=>
      have hq:=fun (W:World) (n c:Nat)=>Go.Lib.run_eql_slice_nil (P:=Try.prog) W 23 5 (some ad) n c 0 0 Try.underlying23
      go_enter Try.func97,Try.ntmps97
      have HO1:aa (Kd.R (Kd.int .u8) 5 (w.alloc (.cells #[] 5)) w.heap.size (fun _=>True) (.slice (some ⟨w.heap.size,0,none⟩) 0 0) ([]:List Int)):=⟨za w .u8 5⟩
      have PK:aa (Below w.heap.size w (w.alloc (.cells #[] 5))):=⟨dX HB.out _⟩
      go_wp2_with (first
       |((with_reducible refine fo (b:= .append) (xs:= #[.tmp 5,.tmp 6]) rfl ?_);at_builtin;refine Kd.gC (Kd.int .u8) (w0:=w) w.heap.size rfl (.tmp 5) (.tmp 6) 23 5 (.int .u8 0) 1 rfl Try.underlying23 gB rfl (by decide) (by omega) (.slice (some ⟨w.heap.size,0,none⟩) 0 0) ([]:List Int) l0 _ _ _ (fun _=>True) (fun _=>False) rfl rfl ?aO ?aR (fun _ _ h=>h) (fun _ h=>h.elim) ?aF ?aB ?aS ?aL ?_;(case aR=>exact Kd.aU gh.out PK.out);(case aB=>exact PK.out);(case aF=>exact (fun _ _=>trivial));(case aO=>exact HO1.out);(case aS=>exact (af PK.out));(case aL=>have:=FJ.out;simp;omega);intro v2 w2 ho hb hg hat;clear hg hat;have YL:=aa.mk hb;have Wb:=aa.mk ho;clear hb ho))
      go_ret
      exact ⟨_,rfl,by simpa using Wb.out,YL.out⟩
  · rw [ax c7] at h
    cases h
attribute [local go_sem] dF dG eG eH cQ cR dH dI
def kU.f (l0:List Int):Option (Int):=if 0<(l0.length:Int) then (if 1<(l0.length:Int) then (some (Go.bits .or .u16 (IntKind.u16.wrap ((IntKind.u16.wrap (rd l0 0))*256)) (IntKind.u16.wrap (rd l0 1)))) else (none)) else (none)
theorem kU.calls (A0:Option Addr) (c0:Nat) (l0:List Int) (r:Int) (w:World) (hr0:Kd.C (Kd.int .u8) w A0 l0.length l0) (hc0:l0.length<=c0) (h:kU.f l0=some r):
  Calls Try.prog 130 #[.slice A0 l0.length c0] w fun e w'=>e= .returned (.int .u16 r) /\ bF w w':=by
 have gh:=aa.mk hr0;have jC:=aa.mk hc0;clear hr0 hc0;have H:(if 0<(l0.length:Int) then (if 1<(l0.length:Int) then (some (Go.bits .or .u16 (IntKind.u16.wrap ((IntKind.u16.wrap (rd l0 0))*256)) (IntKind.u16.wrap (rd l0 1)))) else (none)) else (none))=some r:=h;clear h
 by_cases c2:0<(l0.length:Int)
 ·rw [au c2] at H
  have kg:decide (0<(l0.length:Int))=true:=bS c2;have mG:decide (0<l0.length)=true:=bS (by omega);clear c2
  by_cases c3:1<(l0.length:Int)
  ·rw [au c3] at H
   have oY:decide (1<(l0.length:Int))=true:=bS c3;have qP:decide (1<l0.length)=true:=bS (by omega);clear c3;obtain rfl:=cS H;have YM:0<=(0:Int):=(by omega)
   have YN:0<(l0.length:Int):=gD;obtain ⟨Ac3,AkM,Mj⟩:=Kd.dB gh.out 0 YM YN
   cases AkM
   have Ao1:(0<l0.length)=True:=eq_true (by omega)
   (try rw [show ((0:Int)).toNat=0 from rfl] at Mj)
   (try rw [Addr.add_zero'] at Mj)
   replace YM:=eq_true YM;replace YN:=eq_true YN;have YO:0<=(1:Int):=(by omega)
   have YP:1<(l0.length:Int):=gD;obtain ⟨Ac4,AkN,Mk⟩:=Kd.dB gh.out 1 YO YP;obtain rfl:Ac3=Ac4:=(by injection AkN)
   (try simp only [show (1:Int).toNat=1 from rfl,Nat.reduceMul,Nat.reduceEqDiff,Go.Addr.add,↓reduceIte] at Mk)
   have Ao2:(1<l0.length)=True:=eq_true (by omega)
   (try rw [show ((1:Int)).toNat=1 from rfl] at Mk)
   replace YO:=eq_true YO;replace YP:=eq_true YP
   go_enter Try.func130,Try.ntmps130
   go_wp2
   repeat (go_quiet (fail);try go_wp2)
   go_ret
   exact ⟨by first|rfl|(simp;done)|(simp [*];done),by repeat (first|exact bF.refl _|apply bF.step)⟩
  ·rw [ax c3] at H
   cases H
 ·rw [ax c2] at H
  cases H
def pO.f (l0:List Int):Option (Int):=if 4<=l0.length then ((kU.f ((l0.take 2).drop 0)).bind fun t1=>(kU.f ((l0.take 4).drop 2)).bind fun t2=>some (Go.bits .or .u32 (((t1 % 4294967296)*65536) % 4294967296) (t2 % 4294967296))) else none
theorem pO.calls (A0:Option Addr) (c0:Nat) (l0:List Int) (r:Int) (w:World) (hr0:Kd.C (Kd.int .u8) w A0 l0.length l0) (hc0:l0.length<=c0) (h:pO.f l0=some r):
  Calls Try.prog 131 #[.slice A0 l0.length c0] w fun e w'=>e= .returned (.int .u32 r) /\ bF w w':=by
 unfold pO.f at h
 by_cases c4:4<=l0.length
 ·rw [au c4] at h
  obtain ⟨t1,A1,h⟩:=cZ h;obtain ⟨t2,A2,h⟩:=cZ h;obtain rfl:=cS h;clear h;obtain ⟨i0,NG,_,hsz,_⟩:=info_parts gB;obtain ⟨B1,Ml,hA1,hC1⟩:=jc (P:=Try.prog) (Value.int .u8) 0 23 5 .i64 .i64 .i64 Try.underlying23 NG hsz A0 c0 l0 0 2 (by omega) (by omega) (by omega) hc0;obtain ⟨B2,EI,hA2,hC2⟩:=jc (P:=Try.prog) (Value.int .u8) 0 23 5 .i64 .i64 .i64 Try.underlying23 NG hsz A0 c0 l0 2 4 (by omega) (by omega) (by omega) hc0;have e1:((l0.take (2:Int).toNat).drop (0:Int).toNat).length=2:=by rw [List.length_drop,List.length_take];simp;omega
  have e2:((l0.take (4:Int).toNat).drop (2:Int).toNat).length=2:=by rw [List.length_drop,List.length_take];simp;omega
  have r1:=Kd.dD (h1:=fun _=>rfl) (hA1 _ (Kd.dc hr0));have r2:=Kd.dD (h1:=fun _=>rfl) (hA2 _ (Kd.dc hr0))
  have T1:∀ n,Calls Try.prog 130 #[.slice B1 2 2] (w.drewN n) fun e w'=>e= .returned (.int .u16 t1) /\ bF (w.drewN n) w':=fun n=>by
   have:=kU.calls B1 2 _ t1 (w.drewN n) (Kd.fj r1 n) (by rw [e1];exact Nat.le_refl _) A1;rw [e1] at this
   exact this
  have T2:∀ n,Calls Try.prog 130 #[.slice B2 2 2] (w.drewN n) fun e w'=>e= .returned (.int .u16 t2) /\ bF (w.drewN n) w':=fun n=>by
   have:=kU.calls B2 2 _ t2 (w.drewN n) (Kd.fj r2 n) (by rw [e2];exact Nat.le_refl _) A2;rw [e2] at this
   exact this
  rw [e1] at Ml
  rw [e2] at EI
  replace Ml:∀ W:World,(Instr.slice 23 (.slice A0 l0.length c0) (some (.int .i64 0)) (some (.int .i64 2)) (some (.int .i64 2))).run Try.prog W= .ok (.slice B1 2 2) W:=Ml;replace EI:∀ W:World,(Instr.slice 23 (.slice A0 l0.length c0) (some (.int .i64 2)) (some (.int .i64 4)) (some (.int .i64 4))).run Try.prog W= .ok (.slice B2 2 2) W:=EI;have H1:=aa.mk T1;have H2:=aa.mk T2;clear T1 T2 e1 e2 r1 r2 hA1 hA2 hC1 hC2 A1 A2 hr0 NG hsz
  go_enter Try.func131,Try.ntmps131
  go_wp2_with fail
  go_quiet ((first
   |(go_at_call 130;(with_reducible refine (H1.out _).mono ?_);rintro e w' ⟨rfl,⟨nd,rfl⟩⟩;exact ⟨rfl,_,rfl⟩)
   |(go_at_call 130;(with_reducible refine (H2.out _).mono ?_);rintro e w' ⟨rfl,⟨nd,rfl⟩⟩;exact ⟨rfl,_,rfl⟩)
   |(go_at_call 130;(with_reducible refine (H1.out _).mono ?_);rintro e w' ⟨rfl,⟨nd,rfl⟩⟩;exact ⟨rfl,_,World.drewN_drewN _ _ _⟩)
   |(go_at_call 130;(with_reducible refine (H2.out _).mono ?_);rintro e w' ⟨rfl,⟨nd,rfl⟩⟩;exact ⟨rfl,_,World.drewN_drewN _ _ _⟩)
   |(go_at_call 130;(with_reducible refine (H1.out _).mono ?_);rintro e w' ⟨rfl,⟨nd,rfl⟩⟩;exact ⟨rfl,_,Eq.trans (World.drewN_drewN _ _ _) (congrArg (World.drewN _) (Nat.add_assoc _ _ _))⟩)
   |(go_at_call 130;(with_reducible refine (H2.out _).mono ?_);rintro e w' ⟨rfl,⟨nd,rfl⟩⟩;exact ⟨rfl,_,Eq.trans (World.drewN_drewN _ _ _) (congrArg (World.drewN _) (Nat.add_assoc _ _ _))⟩)))
  go_wp2
  go_ret
  exact ⟨by first|rfl|(simp;done)|(simp [*];done),by repeat (first|exact bF.refl _|apply bF.step)⟩
 ·rw [ax c4] at h
  cases h
def nW.f (l0:List Int):Option (Int×Int×Int×Int×Int×Int×Int×Int×List Int×List Int×Int):=if (l0.length:Int)<20 then (some (0,0,0,0,0,0,0,0,([]:List Int),([]:List Int),20)) else (if 12<(l0.length:Int) then (if (wrap64 (4*(wrap64 ((rd l0 12) / 16))))<20 then (some (0,0,0,0,0,0,0,0,([]:List Int),([]:List Int),21)) else (if (l0.length:Int)<(wrap64 (4*(wrap64 ((rd l0 12) / 16)))) then (some (0,0,0,0,0,0,0,0,([]:List Int),([]:List Int),20)) else (if 2<=(l0.length:Int) then ((kU.f ((l0.take 2).drop 0)).bind fun AkO=>(if 4<=(l0.length:Int) then ((kU.f ((l0.take 4).drop 2)).bind fun AkP=>(if 8<=(l0.length:Int) then ((pO.f ((l0.take 8).drop 4)).bind fun AkQ=>(if 12<=(l0.length:Int) then ((pO.f ((l0.take 12).drop 8)).bind fun AkR=>(if 13<(l0.length:Int) then (if 16<=(l0.length:Int) then ((kU.f ((l0.take 16).drop 14)).bind fun AkS=>(if 18<=(l0.length:Int) then ((kU.f ((l0.take 18).drop 16)).bind fun AkT=>(if 20<=(l0.length:Int) then ((kU.f ((l0.take 20).drop 18)).bind fun AkU=>(if 20<=(wrap64 (4*(wrap64 ((rd l0 12) / 16)))) then (if (wrap64 (4*(wrap64 ((rd l0 12) / 16))))<=(l0.length:Int) then ((cH.f ((l0.take ((wrap64 (4*(wrap64 ((rd l0 12) / 16)))):Int).toNat).drop 20)).bind fun AkV=>(if 0<=(wrap64 (4*(wrap64 ((rd l0 12) / 16)))) then ((cH.f (l0.drop ((wrap64 (4*(wrap64 ((rd l0 12) / 16)))):Int).toNat)).bind fun AkW=>(some (AkO,AkP,AkQ,AkR,rd l0 13,AkS,AkT,AkU,AkV,AkW,0))) else (none))) else (none)) else (none))) else (none))) else (none))) else (none)) else (none))) else (none))) else (none))) else (none))) else (none)))) else (none))
theorem wO {w:World} {A:Option Addr} {c:Nat} {l:List Int} (hC:Kd.C (Kd.int .u8) w A l.length l) (hc:l.length<=c) (a b:Int) (h0:0<=a) (h1:a<=b) (h2:b<=(l.length:Int)):∃ (A':Option Addr) (m:Nat),(∀ W:World,(Instr.slice 23 (.slice A l.length c) (some (.int .i64 a)) (some (.int .i64 b)) (some (.int .i64 b))).run Try.prog W= .ok (.slice A' ((l.take b.toNat).drop a.toNat).length m) W) /\ Kd.C (Kd.int .u8) w A' ((l.take b.toNat).drop a.toNat).length ((l.take b.toNat).drop a.toNat) /\ ((l.take b.toNat).drop a.toNat).length<=m:=by
 obtain ⟨i,hi,_,hs,_⟩:=info_parts gB;obtain ⟨A',e1,e2,e3⟩:=jc (P:=Try.prog) (Value.int .u8) 0 23 5 .i64 .i64 .i64 Try.underlying23 hi hs A c l a b h0 h1 h2 hc;exact ⟨A',_,e1,Kd.dD (h1:=fun _=>rfl) (e2 _ (Kd.dc hC)),e3⟩
theorem TI {w:World} {A:Option Addr} {c:Nat} {l:List Int} (hC:Kd.C (Kd.int .u8) w A l.length l) (hc:l.length<=c) (a:Int) (h0:0<=a) (h2:a<=(l.length:Int)):∃ (A':Option Addr) (m:Nat),(∀ W:World,(Instr.slice 23 (.slice A l.length c) (some (.int .i64 a)) none none).run Try.prog W= .ok (.slice A' (l.drop a.toNat).length m) W) /\ Kd.C (Kd.int .u8) w A' (l.drop a.toNat).length (l.drop a.toNat) /\ (l.drop a.toNat).length<=m:=by
 obtain ⟨i,hi,_,hs,_⟩:=info_parts gB;obtain ⟨A',e1,e2,e3⟩:=fR (P:=Try.prog) (Value.int .u8) 0 23 5 .i64 Try.underlying23 hi hs A c l a h0 h2 hc;exact ⟨A',_,e1,Kd.dD (h1:=fun _=>rfl) (e2 _ (Kd.dc hC)),e3⟩
theorem sY {o:Oper} {ev:Operand ->Value} {W:World} {x lo hi mx:Operand} {vx vl vh vm r:Value} (ho:o.op= .slice 23 x (some lo) (some hi) (some mx)) (hx:ev x=vx) (hl:ev lo=vl) (hh:ev hi=vh) (hm:ev mx=vm) (h:(Instr.slice 23 vx (some vl) (some vh) (some vm)).run Try.prog W= .ok r W):(execOp ev o).run Try.prog W= .ok (.value r) W:=by
 have hu:=Try.underlying23;unfold execOp;simp only [ho,Option.map_some,Option.map_none,hx,hl,hh,hm]
 simp [Instr.sliceAt,underlying,hu,h,Sem.run_bind,Result.andThen]
theorem TJ {o:Oper} {ev:Operand ->Value} {W:World} {x lo:Operand} {vx vl r:Value} (ho:o.op= .slice 23 x (some lo) none none) (hx:ev x=vx) (hl:ev lo=vl) (h:(Instr.slice 23 vx (some vl) none none).run Try.prog W= .ok r W):(execOp ev o).run Try.prog W= .ok (.value r) W:=by
 have hu:=Try.underlying23;unfold execOp;simp only [ho,Option.map_some,Option.map_none,hx,hl]
 simp [Instr.sliceAt,underlying,hu,h,Sem.run_bind,Result.andThen]
theorem sF {b:Nat} {w w1 w2:World} (h:Below b w w1) (d:bF w1 w2):Below b w w2:=by
 obtain ⟨nd,rfl⟩:=d;exact fe h nd
def NH.R8.T:Bool×List (List Nat×List Nat):=(true,[([],[]),([0],[0]),([1],[1]),([],[]),([3],[3]),([4,2],[4]),([],[]),([6],[6]),([7,5],[7]),([],[]),([9],[9]),([10,8],[10]),([],[]),([12],[12]),([13],[13]),([],[]),([15],[15]),([16,11],[16]),([],[]),([18],[18]),([19,17],[19]),([],[]),([21],[21]),([22,20],[22]),([],[]),([],[]),([],[]),([24,25,26],[24,25,26]),([27,23],[27]),([],[]),([],[]),([29,30],[29,30]),([31,28],[31]),([2,5,8,11,14,17,20,23,28,32],[2,5,8,11,14,17,20,23,28,32]),([33,32,0,1,2,3,4,5,6,7,8,9,10,11,12,13,14,15,16,17,18,19,20,21,22,23,24,25,26,27,28,29,30,31,32,33],[33]),([34,0,1,2,3,4,5,6,7,8,9,10,11,12,13,14,15,16,17,18,19,20,21,22,23,24,25,26,27,28,29,30,31,32,33,34],[])])
theorem NH.R8.tab:gS .any (opsOf Try.f122 8)=NH.R8.T:=by kernel_rfl
theorem NH.R8.bits:dN NH.R8.T.2 [0,1,3,0,8,31,0,64,255,0,512,2047,0,4096,12288,0,32768,102399,0,262144,1019903,0,2097152,8359935,0,0,0,117440512,268406783,0,0,1610612736,4294938623,8589934591,17179869183,34359738367]=true:=by kernel_rfl
theorem nW.YQ (A:Option Addr) (c:Nat) (l:List Int) (r1 r2 r3 r4 r5 r6 r7 r8:Int) (r9 uN:List Int) (Cy:Int) (w:World) (hC:Kd.C (Kd.int .u8) w A l.length l) (hL:l.length<=c) (h:nW.f l=some (r1,r2,r3,r4,r5,r6,r7,r8,r9,uN,Cy)):
  Calls Try.prog 122 #[.slice A l.length c] w fun e w'=>∃ v8 v9:Value,e= .returned (.tuple #[.agg #[.int .u16 r1,.int .u16 r2,.int .u32 r3,.int .u32 r4,.int .u8 r5,.int .u16 r6,.int .u16 r7,.int .u16 r8,v8,v9],.int .i64 Cy]) /\ Kd.R (Kd.int .u8) 5 w' w.heap.size (fun _=>True) v8 r9 /\ Kd.R (Kd.int .u8) 5 w' w.heap.size (fun _=>True) v9 uN /\ Below w.heap.size w w':=by
 have HB:=gj w;have jT:aa ((Try.prog.info? 137).map (·.size)=some 10):=⟨by kernel_rfl⟩
 have H:nW.f l=some (r1,r2,r3,r4,r5,r6,r7,r8,r9,uN,Cy):=h;clear h;unfold nW.f at H
 by_cases c1:(l.length:Int)<20
 ·have c1a:decide ((l.length:Int)<20)=true:=bS c1
  have c1b:decide (l.length<20)=true:=bS (by omega);rw [au c1] at H
  clear c1;simp only [Option.some.injEq,Prod.mk.injEq] at H
  obtain ⟨rfl,rfl,rfl,rfl,rfl,rfl,rfl,rfl,rfl,rfl,rfl⟩:=H
  go_enter Try.func122,Try.ntmps122
  go_wp2_with (first|((with_reducible refine aA (N:=2) rfl ?_);refine aC ?gJ (N:=2) ?iS (cs:= #[.int .u16 0,.int .u16 0,.int .u32 0,.int .u32 0,.int .u8 0,.int .u16 0,.int .u16 0,.int .u16 0,.slice none 0 0,.slice none 0 0]) (t:=137) ?fq ?_;(case iS=>rfl);(case gJ=>rfl);(case fq=>first|(go_simp;done)|(go_simp;rfl));intro gp cv w1 bJ cP;have Kz:=aa.mk (show w.heap.size<=gp by rw [cv];exact af HB.out);have wo:=aa.mk bJ;have ah:=cP;replace HB:=mB HB ah;clear ah;clear cv bJ cP)|((refine dO rfl rfl rfl rfl rfl wo.out jT.out rfl (by simp [Value.oneCell']) ?_);intro w2 hs_ ag;replace HB:=oB ag HB Kz;clear ag;replace wo:=aa.mk hs_;clear hs_))
  (try simp only [Exit.inBlock,Exit.then])
  refine bodyPost_ret (fC rfl _ _ gp 137 #[.int .u16 0,.int .u16 0,.int .u32 0,.int .u32 0,.int .u8 0,.int .u16 0,.int .u16 0,.int .u16 0,.slice none 0 0,.slice none 0 0] (0,0) _ rfl wo.out Try.underlying137 rfl jT.out) rfl ?_;exact ⟨_,_,rfl,Kd.cl _ _ _ _ _,Kd.cl _ _ _ _ _,HB.out⟩
 ·have c1a:decide ((l.length:Int)<20)=false:=gO c1
  have c1b:decide (l.length<20)=false:=gO (by omega);rw [ax c1,au (show (12:Int)<(l.length:Int) by omega)] at H
  obtain ⟨ad0,YR,FL⟩:=Kd.dB hC 12 (by omega) (by omega);have YS:w.cell? (ad0.add 12)=some (.int .u8 (rd l 12)):=by simpa using FL
  have YT:=aa.mk (dA _ _ YS);obtain ⟨hd,hhd⟩:∃ hd,(wrap64 (4*wrap64 (rd l 12 / 16)))=hd:=⟨_,rfl⟩
  rw [hhd] at H
  have HWD:=aa.mk hhd;have H12:=aa.mk YS;have YU:aa (((12:Int)<(l.length:Int))=True):=⟨eq_true (by omega)⟩
  have YV:aa ((12<l.length)=True):=⟨eq_true (by omega)⟩
  clear FL YS hhd
  by_cases c2:hd<20
  ·have c2a:decide (hd<20)=true:=bS c2
   rw [au c2] at H
   clear c2;subst YR;simp only [Option.some.injEq,Prod.mk.injEq] at H
   obtain ⟨rfl,rfl,rfl,rfl,rfl,rfl,rfl,rfl,rfl,rfl,rfl⟩:=H
   go_enter Try.func122,Try.ntmps122
   go_upto_region 3 with (((with_reducible refine aA (N:=2) rfl ?_);refine aC ?gJ (N:=2) ?iS (cs:= #[.int .u16 0,.int .u16 0,.int .u32 0,.int .u32 0,.int .u8 0,.int .u16 0,.int .u16 0,.int .u16 0,.slice none 0 0,.slice none 0 0]) (t:=137) ?fq ?_;(case iS=>rfl);(case gJ=>rfl);(case fq=>first|(go_simp;done)|(go_simp;rfl));intro gp cv w1 bJ cP;have Kz:=aa.mk (show w.heap.size<=gp by rw [cv];exact af HB.out);have wo:=aa.mk bJ;have ah:=cP;replace HB:=mB HB ah;clear ah;clear cv bJ cP))
   have z12:=(HB.out.cell YT.out).trans H12.out;have NI:=z12;simp only [Go.Addr.add,Nat.reduceEqDiff,↓reduceIte] at NI
   have YW:=YU.out;have YX:=YV.out;have hWd:=HWD.out
   go_wp2_with (((refine dO rfl rfl rfl rfl rfl wo.out jT.out rfl (by simp [Value.oneCell']) ?_);intro w2 hs_ ag;replace HB:=oB ag HB Kz;clear ag;replace wo:=aa.mk hs_;clear hs_))
   (try simp only [Exit.inBlock,Exit.then])
   refine bodyPost_ret (fC rfl _ _ gp 137 #[.int .u16 0,.int .u16 0,.int .u32 0,.int .u32 0,.int .u8 0,.int .u16 0,.int .u16 0,.int .u16 0,.slice none 0 0,.slice none 0 0] (0,0) _ rfl wo.out Try.underlying137 rfl jT.out) rfl ?_;exact ⟨_,_,rfl,Kd.cl _ _ _ _ _,Kd.cl _ _ _ _ _,HB.out⟩
  ·have c2a:decide (hd<20)=false:=gO c2
   rw [ax c2] at H
   by_cases c3:(l.length:Int)<hd
   ·have c3a:decide ((l.length:Int)<hd)=true:=bS c3
    rw [au c3] at H
    clear c2 c3;subst YR;simp only [Option.some.injEq,Prod.mk.injEq] at H
    obtain ⟨rfl,rfl,rfl,rfl,rfl,rfl,rfl,rfl,rfl,rfl,rfl⟩:=H
    go_enter Try.func122,Try.ntmps122
    go_upto_region 3 with (((with_reducible refine aA (N:=2) rfl ?_);refine aC ?gJ (N:=2) ?iS (cs:= #[.int .u16 0,.int .u16 0,.int .u32 0,.int .u32 0,.int .u8 0,.int .u16 0,.int .u16 0,.int .u16 0,.slice none 0 0,.slice none 0 0]) (t:=137) ?fq ?_;(case iS=>rfl);(case gJ=>rfl);(case fq=>first|(go_simp;done)|(go_simp;rfl));intro gp cv w1 bJ cP;have Kz:=aa.mk (show w.heap.size<=gp by rw [cv];exact af HB.out);have wo:=aa.mk bJ;have ah:=cP;replace HB:=mB HB ah;clear ah;clear cv bJ cP))
    have z12:=(HB.out.cell YT.out).trans H12.out;have NI:=z12;simp only [Go.Addr.add,Nat.reduceEqDiff,↓reduceIte] at NI
    have YW:=YU.out;have YX:=YV.out;have hWd:=HWD.out
    go_wp2_with (((refine dO rfl rfl rfl rfl rfl wo.out jT.out rfl (by simp [Value.oneCell']) ?_);intro w2 hs_ ag;replace HB:=oB ag HB Kz;clear ag;replace wo:=aa.mk hs_;clear hs_))
    (try simp only [Exit.inBlock,Exit.then])
    refine bodyPost_ret (fC rfl _ _ gp 137 #[.int .u16 0,.int .u16 0,.int .u32 0,.int .u32 0,.int .u8 0,.int .u16 0,.int .u16 0,.int .u16 0,.slice none 0 0,.slice none 0 0] (0,0) _ rfl wo.out Try.underlying137 rfl jT.out) rfl ?_;exact ⟨_,_,rfl,Kd.cl _ _ _ _ _,Kd.cl _ _ _ _ _,HB.out⟩
   ·have c3a:decide ((l.length:Int)<hd)=false:=gO c3
    rw [ax c3] at H
    rw [au (show (2:Int)<=(l.length:Int) by omega)] at H
    obtain ⟨t1,hq0,H⟩:=bV H;obtain ⟨B0,m0,s0,d0,n0⟩:=wO hC hL 0 2 (by omega) (by omega) (by omega);have K0:=aa.mk s0;have D0:=aa.mk d0;have N0:=aa.mk n0;have Q0:=aa.mk hq0;clear s0 d0 n0 hq0;rw [au (show (4:Int)<=(l.length:Int) by omega)] at H
    obtain ⟨t2,hq1,H⟩:=bV H;obtain ⟨B1,m1,s1,d1,n1⟩:=wO hC hL 2 4 (by omega) (by omega) (by omega);have K1:=aa.mk s1;have D1:=aa.mk d1;have N1:=aa.mk n1;have Q1:=aa.mk hq1;clear s1 d1 n1 hq1;rw [au (show (8:Int)<=(l.length:Int) by omega)] at H
    obtain ⟨t3,hq2,H⟩:=bV H;obtain ⟨B2,m2,s2,d2,n2⟩:=wO hC hL 4 8 (by omega) (by omega) (by omega);have K2:=aa.mk s2;have D2:=aa.mk d2;have N2:=aa.mk n2;have Q2:=aa.mk hq2;clear s2 d2 n2 hq2;rw [au (show (12:Int)<=(l.length:Int) by omega)] at H
    obtain ⟨t4,hq3,H⟩:=bV H;obtain ⟨B3,m3,s3,d3,n3⟩:=wO hC hL 8 12 (by omega) (by omega) (by omega);have K3:=aa.mk s3;have D3:=aa.mk d3;have N3:=aa.mk n3;have Q3:=aa.mk hq3;clear s3 d3 n3 hq3;rw [au (show (13:Int)<(l.length:Int) by omega)] at H
    rw [au (show (16:Int)<=(l.length:Int) by omega)] at H
    obtain ⟨t5,hq4,H⟩:=bV H;obtain ⟨B4,m4,s4,d4,n4⟩:=wO hC hL 14 16 (by omega) (by omega) (by omega);have K4:=aa.mk s4;have D4:=aa.mk d4;have N4:=aa.mk n4;have Q4:=aa.mk hq4;clear s4 d4 n4 hq4;rw [au (show (18:Int)<=(l.length:Int) by omega)] at H
    obtain ⟨t6,hq5,H⟩:=bV H;obtain ⟨B5,m5,s5,d5,n5⟩:=wO hC hL 16 18 (by omega) (by omega) (by omega);have K5:=aa.mk s5;have D5:=aa.mk d5;have N5:=aa.mk n5;have Q5:=aa.mk hq5;clear s5 d5 n5 hq5;rw [au (show (20:Int)<=(l.length:Int) by omega)] at H
    obtain ⟨t7,hq6,H⟩:=bV H;obtain ⟨B6,m6,s6,d6,n6⟩:=wO hC hL 18 20 (by omega) (by omega) (by omega);have K6:=aa.mk s6;have D6:=aa.mk d6;have N6:=aa.mk n6;have Q6:=aa.mk hq6;clear s6 d6 n6 hq6;rw [au (show 20<=hd by omega),au (show hd<=(l.length:Int) by omega)] at H
    obtain ⟨x,hqx,H⟩:=bV H;rw [au (show 0<=hd by omega)] at H
    obtain ⟨y,hqy,H⟩:=bV H;simp only [Option.some.injEq,Prod.mk.injEq] at H
    obtain ⟨rfl,rfl,rfl,rfl,rfl,rfl,rfl,rfl,rfl,rfl,rfl⟩:=H;obtain ⟨B7,m7,s7,d7,n7⟩:=wO hC hL 20 hd (by omega) (by omega) (by omega);obtain ⟨B8,m8,s8,d8,n8⟩:=TI hC hL hd (by omega) (by omega);obtain ⟨ad,hA,h13⟩:=Kd.dB hC 13 (by omega) (by omega);subst hA;have TK:w.cell? (ad.add 13)=some (.int .u8 (rd l 13)):=by simpa using h13
    simp only [Go.Addr.add,Nat.reduceEqDiff,↓reduceIte] at TK
    have K7:=aa.mk s7;have D7:=aa.mk d7;have N7:=aa.mk n7;have K8:=aa.mk s8;have D8:=aa.mk d8;have N8:=aa.mk n8;have Q7:=aa.mk hqx;have Q8:=aa.mk hqy;have PL:=aa.mk TK;have PM:=aa.mk (dA _ _ TK);have z13:((13:Int)<(l.length:Int))=True:=eq_true (by omega);have Asz:(13<l.length)=True:=eq_true (by omega);clear s7 d7 n7 s8 d8 n8 hqx hqy h13 TK;obtain rfl:ad=ad0:=by injection YR
    clear YR c1 c2 c3
    go_enter Try.func122,Try.ntmps122
    go_upto_region 3 with (((with_reducible refine aA (N:=2) rfl ?_);refine aC ?gJ (N:=2) ?iS (cs:= #[.int .u16 0,.int .u16 0,.int .u32 0,.int .u32 0,.int .u8 0,.int .u16 0,.int .u16 0,.int .u16 0,.slice none 0 0,.slice none 0 0]) (t:=137) ?fq ?_;(case iS=>rfl);(case gJ=>rfl);(case fq=>first|(go_simp;done)|(go_simp;rfl));intro gp cv w1 bJ cP;have Kz:=aa.mk (show w.heap.size<=gp by rw [cv];exact af HB.out);have wo:=aa.mk bJ;have ah:=cP;replace HB:=mB HB ah;clear ah;clear cv bJ cP))
    have z12:=(HB.out.cell YT.out).trans H12.out;have NI:=z12;simp only [Go.Addr.add,Nat.reduceEqDiff,↓reduceIte] at NI
    have YW:=YU.out;have YX:=YV.out;have hWd:=HWD.out
    go_upto_region 8 with (fail)
    clear z12 NI YW YX hWd;rw [HWD.out];refine dg (n:=36) (S:=fun w'=>w'.cell? ⟨ad.block,ad.off+13,none⟩=some (.int .u8 (rd l 13))) (ds:=[]) #[false,false,false,false,false,false,false,false,false,false,false,false,false,false,false,false,false,false,false,false,false,false,false,false,false,false,false,false,false,false,false,false,false,false,false,false] (by kernel_rfl) rfl rfl ((HB.out.cell PM.out).trans PL.out) (fun hHeld=> ?_);refine bH NH.R8.tab NH.R8.bits (fun az dW=> ?_);have ah:=bf (Below.refl w1.heap.size w1);replace HB:=mB HB ah;replace wo:=mX wo ah;clear ah;generalize w1.drew=w2 at HB wo hHeld|-
    refine pz 0 25 az ?_;refine pv 1 26 (.slice B0 ((l.take (2:Int).toNat).drop (0:Int).toNat).length m0) az ?_ ?_
    ·intro w'
     exact sY (vx:= .slice (some ad) l.length c) (vl:= .int .i64 0) (vh:= .int .i64 2) (vm:= .int .i64 2) (by rfl) (by rfl) (by rfl) (by rfl) (by rfl) (K0.out w')
    refine nz 26 ?_;refine pz 3 28 az ?_;refine pv 4 29 (.slice B1 ((l.take (4:Int).toNat).drop (2:Int).toNat).length m1) az ?_ ?_
    ·intro w'
     exact sY (vx:= .slice (some ad) l.length c) (vl:= .int .i64 2) (vh:= .int .i64 4) (vm:= .int .i64 4) (by rfl) (by rfl) (by rfl) (by rfl) (by rfl) (K1.out w')
    refine nz 29 ?_;refine pz 6 31 az ?_;refine pv 7 32 (.slice B2 ((l.take (8:Int).toNat).drop (4:Int).toNat).length m2) az ?_ ?_
    ·intro w'
     exact sY (vx:= .slice (some ad) l.length c) (vl:= .int .i64 4) (vh:= .int .i64 8) (vm:= .int .i64 8) (by rfl) (by rfl) (by rfl) (by rfl) (by rfl) (K2.out w')
    refine nz 32 ?_;refine pz 9 34 az ?_;refine pv 10 35 (.slice B3 ((l.take (12:Int).toNat).drop (8:Int).toNat).length m3) az ?_ ?_
    ·intro w'
     exact sY (vx:= .slice (some ad) l.length c) (vl:= .int .i64 8) (vh:= .int .i64 12) (vm:= .int .i64 12) (by rfl) (by rfl) (by rfl) (by rfl) (by rfl) (K3.out w')
    refine nz 35 ?_;refine pz 12 37 az ?_;refine pz 13 38 az ?_;refine pz 15 40 az ?_;refine pv 16 41 (.slice B4 ((l.take (16:Int).toNat).drop (14:Int).toNat).length m4) az ?_ ?_
    ·intro w'
     exact sY (vx:= .slice (some ad) l.length c) (vl:= .int .i64 14) (vh:= .int .i64 16) (vm:= .int .i64 16) (by rfl) (by rfl) (by rfl) (by rfl) (by rfl) (K4.out w')
    refine nz 41 ?_;refine pz 18 43 az ?_;refine pv 19 44 (.slice B5 ((l.take (18:Int).toNat).drop (16:Int).toNat).length m5) az ?_ ?_
    ·intro w'
     exact sY (vx:= .slice (some ad) l.length c) (vl:= .int .i64 16) (vh:= .int .i64 18) (vm:= .int .i64 18) (by rfl) (by rfl) (by rfl) (by rfl) (by rfl) (K5.out w')
    refine nz 44 ?_;refine pz 21 46 az ?_;refine pv 22 47 (.slice B6 ((l.take (20:Int).toNat).drop (18:Int).toNat).length m6) az ?_ ?_
    ·intro w'
     exact sY (vx:= .slice (some ad) l.length c) (vl:= .int .i64 18) (vh:= .int .i64 20) (vm:= .int .i64 20) (by rfl) (by rfl) (by rfl) (by rfl) (by rfl) (K6.out w')
    refine nz 47 ?_;refine pz 24 49 az ?_;refine pz 25 50 az ?_;refine pz 26 51 az ?_;refine pv 27 52 (.slice B7 ((l.take hd.toNat).drop (20:Int).toNat).length m7) az ?_ ?_
    ·intro w'
     exact sY (vx:= .slice (some ad) l.length c) (vl:= .int .i64 20) (vh:= .int .i64 hd) (vm:= .int .i64 hd) (by rfl) (by rfl) (by rfl) (by rfl) (by rfl) (K7.out w')
    refine nz 52 ?_;refine pz 29 54 az ?_;refine pz 30 55 az ?_;refine pv 31 56 (.slice B8 (l.drop hd.toNat).length m8) az ?_ ?_
    ·intro w'
     exact TJ (vx:= .slice (some ad) l.length c) (vl:= .int .i64 hd) (by rfl) (by rfl) (by rfl) (K8.out w')
    refine nz 56 ?_;refine tz 14 39 az dW hHeld ?_;refine oz 2 (some 27) az (fun K hK=> ?_);refine kF Try.func130 (by kernel_rfl) rfl #[(.slice B0 ((l.take (2:Int).toNat).drop (0:Int).toNat).length m0)] (by rfl) rfl rfl (by first|rfl|(go_simp;done)|(go_simp;rfl)|(go_simp;decide)) ?_;refine (kU.calls B0 m0 _ t1 _ (Kd.aU D0.out HB.out) N0.out Q0.out).mono ?_;rintro e w3 ⟨rfl,dr⟩;have hb:=(show Below w2.heap.size w2 w3 from sF (Below.refl w2.heap.size w2) dr)
    have ah:=hb;replace HB:=mB HB ah;replace wo:=mX wo ah;clear ah;clear hb dr;refine ⟨_,rfl, ?_⟩;refine hK.out _ _ ((HB.out.cell PM.out).trans PL.out) (fun hHeld=> ?_);clear hK K;refine nz 27 ?_;refine oz 5 (some 30) az (fun K hK=> ?_);refine kF Try.func130 (by kernel_rfl) rfl #[(.slice B1 ((l.take (4:Int).toNat).drop (2:Int).toNat).length m1)] (by rfl) rfl rfl (by first|rfl|(go_simp;done)|(go_simp;rfl)|(go_simp;decide)) ?_;refine (kU.calls B1 m1 _ t2 _ (Kd.aU D1.out HB.out) N1.out Q1.out).mono ?_;rintro e w4 ⟨rfl,dr⟩;have hb:=(show Below w3.heap.size w3 w4 from sF (Below.refl w3.heap.size w3) dr)
    have ah:=hb;replace HB:=mB HB ah;replace wo:=mX wo ah;clear ah;clear hb dr;refine ⟨_,rfl, ?_⟩;refine hK.out _ _ ((HB.out.cell PM.out).trans PL.out) (fun hHeld=> ?_);clear hK K;refine nz 30 ?_;refine oz 8 (some 33) az (fun K hK=> ?_);refine kF Try.func131 (by kernel_rfl) rfl #[(.slice B2 ((l.take (8:Int).toNat).drop (4:Int).toNat).length m2)] (by rfl) rfl rfl (by first|rfl|(go_simp;done)|(go_simp;rfl)|(go_simp;decide)) ?_;refine (pO.calls B2 m2 _ t3 _ (Kd.aU D2.out HB.out) N2.out Q2.out).mono ?_;rintro e w5 ⟨rfl,dr⟩;have hb:=(show Below w4.heap.size w4 w5 from sF (Below.refl w4.heap.size w4) dr)
    have ah:=hb;replace HB:=mB HB ah;replace wo:=mX wo ah;clear ah;clear hb dr;refine ⟨_,rfl, ?_⟩;refine hK.out _ _ ((HB.out.cell PM.out).trans PL.out) (fun hHeld=> ?_);clear hK K;refine nz 33 ?_;refine oz 11 (some 36) az (fun K hK=> ?_);refine kF Try.func131 (by kernel_rfl) rfl #[(.slice B3 ((l.take (12:Int).toNat).drop (8:Int).toNat).length m3)] (by rfl) rfl rfl (by first|rfl|(go_simp;done)|(go_simp;rfl)|(go_simp;decide)) ?_;refine (pO.calls B3 m3 _ t4 _ (Kd.aU D3.out HB.out) N3.out Q3.out).mono ?_;rintro e w6 ⟨rfl,dr⟩;have hb:=(show Below w5.heap.size w5 w6 from sF (Below.refl w5.heap.size w5) dr)
    have ah:=hb;replace HB:=mB HB ah;replace wo:=mX wo ah;clear ah;clear hb dr;refine ⟨_,rfl, ?_⟩;refine hK.out _ _ ((HB.out.cell PM.out).trans PL.out) (fun hHeld=> ?_);clear hK K;refine nz 36 ?_;refine oz 17 (some 42) az (fun K hK=> ?_);refine kF Try.func130 (by kernel_rfl) rfl #[(.slice B4 ((l.take (16:Int).toNat).drop (14:Int).toNat).length m4)] (by rfl) rfl rfl (by first|rfl|(go_simp;done)|(go_simp;rfl)|(go_simp;decide)) ?_;refine (kU.calls B4 m4 _ t5 _ (Kd.aU D4.out HB.out) N4.out Q4.out).mono ?_;rintro e w7 ⟨rfl,dr⟩;have hb:=(show Below w6.heap.size w6 w7 from sF (Below.refl w6.heap.size w6) dr)
    have ah:=hb;replace HB:=mB HB ah;replace wo:=mX wo ah;clear ah;clear hb dr;refine ⟨_,rfl, ?_⟩;refine hK.out _ _ ((HB.out.cell PM.out).trans PL.out) (fun hHeld=> ?_);clear hK K;refine nz 42 ?_;refine oz 20 (some 45) az (fun K hK=> ?_);refine kF Try.func130 (by kernel_rfl) rfl #[(.slice B5 ((l.take (18:Int).toNat).drop (16:Int).toNat).length m5)] (by rfl) rfl rfl (by first|rfl|(go_simp;done)|(go_simp;rfl)|(go_simp;decide)) ?_;refine (kU.calls B5 m5 _ t6 _ (Kd.aU D5.out HB.out) N5.out Q5.out).mono ?_;rintro e w8 ⟨rfl,dr⟩;have hb:=(show Below w7.heap.size w7 w8 from sF (Below.refl w7.heap.size w7) dr)
    have ah:=hb;replace HB:=mB HB ah;replace wo:=mX wo ah;clear ah;clear hb dr;refine ⟨_,rfl, ?_⟩;refine hK.out _ _ ((HB.out.cell PM.out).trans PL.out) (fun hHeld=> ?_);clear hK K;refine nz 45 ?_;refine oz 23 (some 48) az (fun K hK=> ?_);refine kF Try.func130 (by kernel_rfl) rfl #[(.slice B6 ((l.take (20:Int).toNat).drop (18:Int).toNat).length m6)] (by rfl) rfl rfl (by first|rfl|(go_simp;done)|(go_simp;rfl)|(go_simp;decide)) ?_;refine (kU.calls B6 m6 _ t7 _ (Kd.aU D6.out HB.out) N6.out Q6.out).mono ?_;rintro e w9 ⟨rfl,dr⟩;have hb:=(show Below w8.heap.size w8 w9 from sF (Below.refl w8.heap.size w8) dr)
    have ah:=hb;replace HB:=mB HB ah;replace wo:=mX wo ah;clear ah;clear hb dr;refine ⟨_,rfl, ?_⟩;refine hK.out _ _ ((HB.out.cell PM.out).trans PL.out) (fun hHeld=> ?_);clear hK K;refine nz 48 ?_;refine oz 28 (some 53) az (fun K hK=> ?_);refine kF Try.func97 (by kernel_rfl) rfl #[(.slice B7 ((l.take hd.toNat).drop (20:Int).toNat).length m7)] (by rfl) rfl rfl (by first|rfl|(go_simp;done)|(go_simp;rfl)|(go_simp;decide)) ?_;refine (cH.calls B7 m7 _ x _ (Kd.aU D7.out HB.out) N7.out Q7.out).mono ?_;rintro e j4 ⟨v_,rfl,ho,hb⟩;have nk:=aa.mk (Kd.bP ho (af HB.out));obtain ⟨Ax,cx,rfl,_,_⟩:=Kd.bW ho;clear ho;have ah:=hb;replace HB:=mB HB ah;replace wo:=mX wo ah;clear ah;clear hb;refine ⟨_,rfl, ?_⟩;refine hK.out _ _ ((HB.out.cell PM.out).trans PL.out) (fun hHeld=> ?_)
    clear hK K;refine nz 53 ?_;refine oz 32 (some 57) az (fun K hK=> ?_);refine kF Try.func97 (by kernel_rfl) rfl #[(.slice B8 (l.drop hd.toNat).length m8)] (by rfl) rfl rfl (by first|rfl|(go_simp;done)|(go_simp;rfl)|(go_simp;decide)) ?_;refine (cH.calls B8 m8 _ y _ (Kd.aU D8.out HB.out) N8.out Q8.out).mono ?_;rintro e qf ⟨v_,rfl,ho,hb⟩;have qg:=aa.mk (Kd.bP ho (af HB.out));obtain ⟨Ay,cy,rfl,_,_⟩:=Kd.bW ho;clear ho;have ah:=hb;replace HB:=mB HB ah;replace wo:=mX wo ah;replace nk:=mR nk ah;clear ah;clear hb;refine ⟨_,rfl, ?_⟩;refine hK.out _ _ ((HB.out.cell PM.out).trans PL.out) (fun hHeld=> ?_);clear hK K;refine nz 57 ?_;refine pz 33 58 az ?_;refine oz 34 (none) az (fun K hK=> ?_)
    refine cC (by rfl) (by rfl) rfl rfl rfl wo.out jT.out rfl (by simp [Value.oneCell']) ?_;intro l5 hs_ ag;replace nk:=oR ag nk wo (by decide);replace qg:=oR ag qg wo (by decide);replace HB:=oB ag HB Kz;clear ag;replace wo:=aa.mk hs_;clear hs_;refine hK.out _ _ ((HB.out.cell PM.out).trans PL.out) (fun hHeld=> ?_);clear hK K;refine pz 35 3 az ?_;refine dz az ?_;clear az dW hHeld
    (try simp only [Exit.inBlock,Exit.then])
    (try go_wp2)
    (try simp only [Exit.inBlock,Exit.then])
    refine bodyPost_ret (fC rfl _ _ gp 137 #[.int .u16 t1,.int .u16 t2,.int .u32 t3,.int .u32 t4,.int .u8 (rd l 13),.int .u16 t5,.int .u16 t6,.int .u16 t7,.slice Ax x.length cx,.slice Ay y.length cy] (0,0) _ rfl wo.out Try.underlying137 rfl jT.out) rfl ?_;exact ⟨_,_,rfl,nk.out,qg.out,HB.out⟩
attribute [local go_sem] dF dG eG eH cQ cR dH dI
def kV.f (l0:List Int):Option (Int):=if 0<(l0.length:Int) then (if 1<(l0.length:Int) then (some (Go.bits .or .u16 (IntKind.u16.wrap ((IntKind.u16.wrap (rd l0 0))*256)) (IntKind.u16.wrap (rd l0 1)))) else (none)) else (none)
theorem kV.calls (A0:Option Addr) (c0:Nat) (l0:List Int) (r:Int) (w:World) (hr0:Kd.C (Kd.int .u8) w A0 l0.length l0) (hc0:l0.length<=c0) (h:kV.f l0=some r):
  Calls Try.prog 96 #[.slice A0 l0.length c0] w fun e w'=>e= .returned (.int .u16 r) /\ bF w w':=by
 have gh:=aa.mk hr0;have jC:=aa.mk hc0;clear hr0 hc0;have H:(if 0<(l0.length:Int) then (if 1<(l0.length:Int) then (some (Go.bits .or .u16 (IntKind.u16.wrap ((IntKind.u16.wrap (rd l0 0))*256)) (IntKind.u16.wrap (rd l0 1)))) else (none)) else (none))=some r:=h;clear h
 by_cases c2:0<(l0.length:Int)
 ·rw [au c2] at H
  have kg:decide (0<(l0.length:Int))=true:=bS c2;have mG:decide (0<l0.length)=true:=bS (by omega);clear c2
  by_cases c3:1<(l0.length:Int)
  ·rw [au c3] at H
   have oY:decide (1<(l0.length:Int))=true:=bS c3;have qP:decide (1<l0.length)=true:=bS (by omega);clear c3;obtain rfl:=cS H;have YY:0<=(0:Int):=(by omega)
   have YZ:0<(l0.length:Int):=gD;obtain ⟨Ac7,AkZ,Mm⟩:=Kd.dB gh.out 0 YY YZ
   cases AkZ
   have Apj:(0<l0.length)=True:=eq_true (by omega)
   (try rw [show ((0:Int)).toNat=0 from rfl] at Mm)
   (try rw [Addr.add_zero'] at Mm)
   replace YY:=eq_true YY;replace YZ:=eq_true YZ;have Y0:0<=(1:Int):=(by omega)
   have Y1:1<(l0.length:Int):=gD;obtain ⟨Ac8,Ak0,Mn⟩:=Kd.dB gh.out 1 Y0 Y1;obtain rfl:Ac7=Ac8:=(by injection Ak0)
   (try simp only [show (1:Int).toNat=1 from rfl,Nat.reduceMul,Nat.reduceEqDiff,Go.Addr.add,↓reduceIte] at Mn)
   have Apk:(1<l0.length)=True:=eq_true (by omega)
   (try rw [show ((1:Int)).toNat=1 from rfl] at Mn)
   replace Y0:=eq_true Y0;replace Y1:=eq_true Y1
   go_enter Try.func96,Try.ntmps96
   go_wp2
   repeat (go_quiet (fail);try go_wp2)
   go_ret
   exact ⟨by first|rfl|(simp;done)|(simp [*];done),by repeat (first|exact bF.refl _|apply bF.step)⟩
  ·rw [ax c3] at H
   cases H
 ·rw [ax c2] at H
  cases H
attribute [local go_sem] dF dG eG eH cQ cR dH dI
def jj.f (l0:List Int):Option (Int×Int×Int×List Int×Int):=if (l0.length:Int)<8 then (some (0,0,0,([]:List Int),20)) else (if 6<=(l0.length:Int) then ((kV.f ((l0.take 6).drop 4)).bind fun oM=>(if (wrap64 (oM))<8 then (some (0,0,0,([]:List Int),21)) else (if (l0.length:Int)<(wrap64 (oM)) then (some (0,0,0,([]:List Int),20)) else (if 2<=(l0.length:Int) then ((kV.f ((l0.take 2).drop 0)).bind fun Ej=>(if 4<=(l0.length:Int) then ((kV.f ((l0.take 4).drop 2)).bind fun FM=>(if 8<=(l0.length:Int) then ((kV.f ((l0.take 8).drop 6)).bind fun H8=>(if 8<=(wrap64 (oM)) then (if (wrap64 (oM))<=(l0.length:Int) then ((cH.f ((l0.take ((wrap64 (oM)):Int).toNat).drop 8)).bind fun KA=>(some (Ej,FM,H8,KA,0))) else (none)) else (none))) else (none))) else (none))) else (none))))) else (none))
def jj.T8:Bool×List (List Nat×List Nat):=(true,[([],[]),([0],[0]),([1],[1]),([],[]),([3],[3]),([4,2],[4]),([],[]),([6],[6]),([7,5],[7]),([],[]),([],[]),([],[]),([9,10,11],[9,10,11]),([12,8],[12]),([2,5,8,13],[2,5,8,13]),([14,13,0,1,2,3,4,5,6,7,8,9,10,11,12,13,14],[14]),([15,0,1,2,3,4,5,6,7,8,9,10,11,12,13,14,15],[])])
def jj.B8:List Nat:=[0,1,3,0,8,31,0,64,255,0,0,0,3584,8191,16383,32767,65535]
theorem jj.Ek:gS .any (opsOf Try.f58 8)=jj.T8:=by kernel_rfl
theorem jj.yq:dN jj.T8.2 jj.B8=true:=by kernel_rfl
theorem jj.calls (A0:Option Addr) (c0:Nat) (l0:List Int) (r1:Int) (r2:Int) (r3:Int) (r4:List Int) (r5:Int) (w:World) (hr0:Kd.C (Kd.int .u8) w A0 l0.length l0) (hc0:l0.length<=c0) (h:jj.f l0=some (r1,r2,r3,r4,r5)):
  Calls Try.prog 58 #[.slice A0 l0.length c0] w fun e w'=>∃ v3_:Value,e= .returned (.tuple #[.agg #[.int .u16 r1,.int .u16 r2,.int .u16 r3,v3_],.int .i64 r5]) /\ Kd.R (Kd.int .u8) 5 w' w.heap.size (fun _=>True) v3_ r4 /\ Below w.heap.size w w':=by
 have wB:=Try.underlying83;have gh:=aa.mk hr0;have jC:=aa.mk hc0;clear hr0 hc0;have HB:=gj w
 have H:(if (l0.length:Int)<8 then (some (0,0,0,([]:List Int),20)) else (if 6<=(l0.length:Int) then ((kV.f ((l0.take 6).drop 4)).bind fun oM=>(if (wrap64 (oM))<8 then (some (0,0,0,([]:List Int),21)) else (if (l0.length:Int)<(wrap64 (oM)) then (some (0,0,0,([]:List Int),20)) else (if 2<=(l0.length:Int) then ((kV.f ((l0.take 2).drop 0)).bind fun Ej=>(if 4<=(l0.length:Int) then ((kV.f ((l0.take 4).drop 2)).bind fun FM=>(if 8<=(l0.length:Int) then ((kV.f ((l0.take 8).drop 6)).bind fun H8=>(if 8<=(wrap64 (oM)) then (if (wrap64 (oM))<=(l0.length:Int) then ((cH.f ((l0.take ((wrap64 (oM)):Int).toNat).drop 8)).bind fun KA=>(some (Ej,FM,H8,KA,0))) else (none)) else (none))) else (none))) else (none))) else (none))))) else (none)))=some (r1,r2,r3,r4,r5):=h
 clear h
 by_cases c2:(l0.length:Int)<8
 ·rw [au c2] at H
  have kg:decide ((l0.length:Int)<8)=true:=bS c2;have mG:decide (l0.length<8)=true:=bS (by omega);clear c2;simp only [Option.some.injEq,Prod.mk.injEq] at H
  obtain ⟨rfl,rfl,rfl,rfl,rfl⟩:=H
  go_enter Try.func58,Try.ntmps58
  go_wp2_with (first|((with_reducible refine aA (N:=2) rfl ?_);refine aC ?hg (N:=2) ?hd (cs:= #[.int .u16 0,.int .u16 0,.int .u16 0,.slice none 0 0]) (t:=83) ?hr ?_;(case hd=>rfl);(case hg=>rfl);(case hr=>first|(go_simp;done)|(go_simp;rfl));intro j6 hg w3 bK hb;have aJ:=aa.mk (aq (bz HB) hb);have aQ:=aa.mk (bK);have bt:=aa.mk ((by rw [hg];exact (af (bz HB)):w.heap.size<=j6));have cr:=aa.mk ((by rw [hg];exact (af (bz HB)):w.heap.size<=j6));clear HB;have HB:=aJ;have gY:=aQ;have PN:=bt;have PO:=cr;clear aJ aQ bt cr;clear hb bK hg;have pP:w3.cell? ⟨j6,0,none⟩=some (.int .u16 0):=cz gY.out 0 rfl;have pQ:w3.cell? ⟨j6,1,none⟩=some (.int .u16 0):=cz gY.out 1 rfl;have pR:w3.cell? ⟨j6,2,none⟩=some (.int .u16 0):=cz gY.out 2 rfl;have pS:w3.cell? ⟨j6,3,none⟩=some (.slice none 0 0):=cz gY.out 3 rfl;have pT:=ae gY.out 0;have pU:=ae gY.out 1;have pV:=ae gY.out 2;have pW:=ae gY.out 3))
  refine bodyPost_ret (fC rfl _ _ j6 83 #[.int .u16 0,.int .u16 0,.int .u16 0,.slice none 0 0] (0,0) _ rfl (by (repeat (first|with_reducible refine aN ?_ _|with_reducible refine aK ?_|with_reducible refine aM ?_ _|refine bM (cs:= #[.int .u16 0,.int .u16 0,.int .u16 0,.slice none 0 0]) ?_ _ _ rfl));(with_reducible repeat (first|refine aN ?_ _|refine aK ?_|refine aM ?_ _));exact gY.out) Try.underlying83 rfl (by kernel_rfl)) rfl ?_;exact ⟨_,by first|rfl|(simp [aj,ak]<;>rfl)|(simp [*,aj,ak]<;>rfl),by first|exact Kd.cl _ _ _ _ _|exact Kd.ju _ _ _ _ _|exact Kd.jv _ _ _ _ _|exact Kd.jr _ _ _ _ _|exact Kd.js _ _ _ _ _,bz HB⟩
 ·rw [ax c2] at H
  have kg:decide ((l0.length:Int)<8)=false:=gO c2;have mG:decide (l0.length<8)=false:=gO (by omega);clear c2
  by_cases c5:6<=(l0.length:Int)
  ·rw [au c5] at H
   have mS:=eq_true c5;have qz:decide (6<=(l0.length:Int))=true:=bS c5;clear c5;replace H:=cZ H;obtain ⟨oM,wq,H⟩:=H
   (try dsimp -simprocs only at H)
   have A6:=aa.mk wq;clear wq
   by_cases c7:(wrap64 (oM))<8
   ·rw [au c7] at H
    have Ah:decide ((wrap64 (oM))<8)=true:=bS c7;clear c7;simp only [Option.some.injEq,Prod.mk.injEq] at H
    obtain ⟨rfl,rfl,rfl,rfl,rfl⟩:=H
    go_enter Try.func58,Try.ntmps58
    go_wp2_with (first|((with_reducible refine aA (N:=2) rfl ?_);refine aC ?hg (N:=2) ?hd (cs:= #[.int .u16 0,.int .u16 0,.int .u16 0,.slice none 0 0]) (t:=83) ?hr ?_;(case hd=>rfl);(case hg=>rfl);(case hr=>first|(go_simp;done)|(go_simp;rfl));intro j6 hg w8 bK hb;have aJ:=aa.mk (aq (bz HB) hb);have aQ:=aa.mk (bK);have bt:=aa.mk ((by rw [hg];exact (af (bz HB)):w.heap.size<=j6));have cr:=aa.mk ((by rw [hg];exact (af (bz HB)):w.heap.size<=j6));clear HB;have HB:=aJ;have gY:=aQ;have PN:=bt;have PO:=cr;clear aJ aQ bt cr;clear hb bK hg;obtain ⟨i09,PR,_,PS,_⟩:=info_parts gB;obtain ⟨A9,Ada,hA9,hC9⟩:=jc (P:=Try.prog) (Value.int .u8) 0 23 5 .i64 .i64 .i64 Try.underlying23 PR PS A0 c0 l0 4 6 (by omega) (by first|omega|exact gD) gD jC.out;have H9:=aa.mk (Kd.dD (h1:=fun _=>rfl) (hA9 _ (Kd.dc gh.out)));have Ia:=aa.mk hC9;clear hA9 hC9 PR PS;have AsB:min 6 l0.length - 4=2:=(by have h_:(6:Int)<=(l0.length:Int):=gD;omega))|((with_reducible refine ay (f:=96) rfl ?_);refine tQ (some 11) rfl rfl Try.func96 (by kernel_rfl) rfl #[.slice A9 ((l0.take 6).drop 4).length 2] rfl (by (try simp only [List.map_toArray,List.map_cons,List.map_nil]);first|done|(rw [show ((l0.take 6).drop 4).length=2 from (by rw [List.length_drop,List.length_take];have h_:(6:Int)<=(l0.length:Int):=gD;omega)]<;>rfl)|rfl|(simp only [List.length_drop,List.length_take];rfl)|(go_simp;done)|(simp [Act.eval,IntKind.signed];done)|(simp [Act.eval,IntKind.signed];rfl)) ?_;(with_reducible refine (kV.calls _ _ ((l0.take 6).drop 4) oM _ ?aG ?aH A6.out).mono ?_);(case aG=>exact Kd.aU H9.out (bz HB));(case aH=>exact Ia.out);rintro e w' ⟨rfl,⟨nd,rfl⟩⟩;refine ⟨_,rfl, ?_⟩;(try (rw [fg w8];generalize j5:World.drewN w8 _=w8;have aJ:aa (w8.heap[j6]?=some (.cells #[.int .u16 0,.int .u16 0,.int .u16 0,.slice none 0 0] 83 (0,0))):=⟨by rw [<- j5];exact (kz gY)⟩;have aQ:aa (Below w.heap.size w w8):=⟨by rw [<- j5];exact bz HB⟩;clear gY HB j5;have gY:=aJ;have HB:=aQ;clear aJ aQ));have rT:w8.cell? ⟨j6,0,none⟩=some (.int .u16 0):=cz gY.out 0 rfl;have rU:w8.cell? ⟨j6,1,none⟩=some (.int .u16 0):=cz gY.out 1 rfl;have rV:w8.cell? ⟨j6,2,none⟩=some (.int .u16 0):=cz gY.out 2 rfl;have rW:w8.cell? ⟨j6,3,none⟩=some (.slice none 0 0):=cz gY.out 3 rfl;have rX:=ae gY.out 0;have rY:=ae gY.out 1;have rZ:=ae gY.out 2;have sg:=ae gY.out 3))
    refine bodyPost_ret (fC rfl _ _ j6 83 #[.int .u16 0,.int .u16 0,.int .u16 0,.slice none 0 0] (0,0) _ rfl (by (repeat (first|with_reducible refine aN ?_ _|with_reducible refine aK ?_|with_reducible refine aM ?_ _|refine bM (cs:= #[.int .u16 0,.int .u16 0,.int .u16 0,.slice none 0 0]) ?_ _ _ rfl));(with_reducible repeat (first|refine aN ?_ _|refine aK ?_|refine aM ?_ _));exact gY.out) Try.underlying83 rfl (by kernel_rfl)) rfl ?_;exact ⟨_,by first|rfl|(simp [aj,ak]<;>rfl)|(simp [*,aj,ak]<;>rfl),by first|exact Kd.cl _ _ _ _ _|exact Kd.ju _ _ _ _ _|exact Kd.jv _ _ _ _ _|exact Kd.jr _ _ _ _ _|exact Kd.js _ _ _ _ _,bz HB⟩
   ·rw [ax c7] at H
    have Ah:decide ((wrap64 (oM))<8)=false:=gO c7;clear c7
    by_cases ru:(l0.length:Int)<(wrap64 (oM))
    ·rw [au ru] at H
     have Bb:decide ((l0.length:Int)<(wrap64 (oM)))=true:=bS ru;clear ru;simp only [Option.some.injEq,Prod.mk.injEq] at H
     obtain ⟨rfl,rfl,rfl,rfl,rfl⟩:=H
     go_enter Try.func58,Try.ntmps58
     go_wp2_with (first|((with_reducible refine aA (N:=2) rfl ?_);refine aC ?hg (N:=2) ?hd (cs:= #[.int .u16 0,.int .u16 0,.int .u16 0,.slice none 0 0]) (t:=83) ?hr ?_;(case hd=>rfl);(case hg=>rfl);(case hr=>first|(go_simp;done)|(go_simp;rfl));intro j6 hg l5 bK hb;have aJ:=aa.mk (aq (bz HB) hb);have aQ:=aa.mk (bK);have bt:=aa.mk ((by rw [hg];exact (af (bz HB)):w.heap.size<=j6));have cr:=aa.mk ((by rw [hg];exact (af (bz HB)):w.heap.size<=j6));clear HB;have HB:=aJ;have gY:=aQ;have PN:=bt;have PO:=cr;clear aJ aQ bt cr;clear hb bK hg;obtain ⟨AsC,Wc,_,Wd,_⟩:=info_parts gB;obtain ⟨O5,Ak1,Ade,Adf⟩:=jc (P:=Try.prog) (Value.int .u8) 0 23 5 .i64 .i64 .i64 Try.underlying23 Wc Wd A0 c0 l0 4 6 (by omega) (by first|omega|exact gD) gD jC.out;have H9:=aa.mk (Kd.dD (h1:=fun _=>rfl) (Ade _ (Kd.dc gh.out)));have Ia:=aa.mk Adf;clear Ade Adf Wc Wd;have Apl:min 6 l0.length - 4=2:=(by have h_:(6:Int)<=(l0.length:Int):=gD;omega))|((with_reducible refine ay (f:=96) rfl ?_);refine tQ (some 11) rfl rfl Try.func96 (by kernel_rfl) rfl #[.slice O5 ((l0.take 6).drop 4).length 2] rfl (by (try simp only [List.map_toArray,List.map_cons,List.map_nil]);first|done|(rw [show ((l0.take 6).drop 4).length=2 from (by rw [List.length_drop,List.length_take];have h_:(6:Int)<=(l0.length:Int):=gD;omega)]<;>rfl)|rfl|(simp only [List.length_drop,List.length_take];rfl)|(go_simp;done)|(simp [Act.eval,IntKind.signed];done)|(simp [Act.eval,IntKind.signed];rfl)) ?_;(with_reducible refine (kV.calls _ _ ((l0.take 6).drop 4) oM _ ?aG ?aH A6.out).mono ?_);(case aG=>exact Kd.aU H9.out (bz HB));(case aH=>exact Ia.out);rintro e w' ⟨rfl,⟨nd,rfl⟩⟩;refine ⟨_,rfl, ?_⟩;(try (rw [fg l5];generalize j5:World.drewN l5 _=l5;have aJ:aa (l5.heap[j6]?=some (.cells #[.int .u16 0,.int .u16 0,.int .u16 0,.slice none 0 0] 83 (0,0))):=⟨by rw [<- j5];exact (kz gY)⟩;have aQ:aa (Below w.heap.size w l5):=⟨by rw [<- j5];exact bz HB⟩;clear gY HB j5;have gY:=aJ;have HB:=aQ;clear aJ aQ));have TL:l5.cell? ⟨j6,0,none⟩=some (.int .u16 0):=cz gY.out 0 rfl;have TM:l5.cell? ⟨j6,1,none⟩=some (.int .u16 0):=cz gY.out 1 rfl;have TN:l5.cell? ⟨j6,2,none⟩=some (.int .u16 0):=cz gY.out 2 rfl;have TP:l5.cell? ⟨j6,3,none⟩=some (.slice none 0 0):=cz gY.out 3 rfl;have TQ:=ae gY.out 0;have TR:=ae gY.out 1;have TS:=ae gY.out 2;have TT:=ae gY.out 3))
     refine bodyPost_ret (fC rfl _ _ j6 83 #[.int .u16 0,.int .u16 0,.int .u16 0,.slice none 0 0] (0,0) _ rfl (by (repeat (first|with_reducible refine aN ?_ _|with_reducible refine aK ?_|with_reducible refine aM ?_ _|refine bM (cs:= #[.int .u16 0,.int .u16 0,.int .u16 0,.slice none 0 0]) ?_ _ _ rfl));(with_reducible repeat (first|refine aN ?_ _|refine aK ?_|refine aM ?_ _));exact gY.out) Try.underlying83 rfl (by kernel_rfl)) rfl ?_;exact ⟨_,by first|rfl|(simp [aj,ak]<;>rfl)|(simp [*,aj,ak]<;>rfl),by first|exact Kd.cl _ _ _ _ _|exact Kd.ju _ _ _ _ _|exact Kd.jv _ _ _ _ _|exact Kd.jr _ _ _ _ _|exact Kd.js _ _ _ _ _,bz HB⟩
    ·rw [ax ru] at H
     have Bb:decide ((l0.length:Int)<(wrap64 (oM)))=false:=gO ru;clear ru
     by_cases wP:2<=(l0.length:Int)
     ·rw [au wP] at H
      have wQ:=eq_true wP;have EJ:decide (2<=(l0.length:Int))=true:=bS wP;clear wP;replace H:=cZ H;obtain ⟨Ej,wR,H⟩:=H
      (try dsimp -simprocs only at H)
      have O6:=aa.mk wR;clear wR
      by_cases rL:4<=(l0.length:Int)
      ·rw [au rL] at H
       have Ib:=eq_true rL;have PT:decide (4<=(l0.length:Int))=true:=bS rL;clear rL;replace H:=cZ H;obtain ⟨FM,wS,H⟩:=H
       (try dsimp -simprocs only at H)
       have NJ:=aa.mk wS;clear wS
       by_cases Aj:8<=(l0.length:Int)
       ·rw [au Aj] at H
        have PU:=eq_true Aj;have We:decide (8<=(l0.length:Int))=true:=bS Aj;clear Aj;replace H:=cZ H;obtain ⟨H8,Cz,H⟩:=H
        (try dsimp -simprocs only at H)
        have uJ:=aa.mk Cz;clear Cz
        by_cases Ta:8<=(wrap64 (oM))
        ·rw [au Ta] at H
         have Adg:=eq_true Ta;have Adh:decide (8<=(wrap64 (oM)))=true:=bS Ta;clear Ta
         by_cases Ic:(wrap64 (oM))<=(l0.length:Int)
         ·rw [au Ic] at H
          have PV:=eq_true Ic;have Adi:decide ((wrap64 (oM))<=(l0.length:Int))=true:=bS Ic;clear Ic;replace H:=cZ H;obtain ⟨KA,Adj,H⟩:=H
          (try dsimp -simprocs only at H)
          have A23:=aa.mk Adj;clear Adj;simp only [Option.some.injEq,Prod.mk.injEq] at H
          obtain ⟨rfl,rfl,rfl,rfl,rfl⟩:=H
          go_enter Try.func58,Try.ntmps58
          try go_wp2_with (first|((with_reducible refine aA (N:=2) rfl ?_);refine aC ?hg (N:=2) ?hd (cs:= #[.int .u16 0,.int .u16 0,.int .u16 0,.slice none 0 0]) (t:=83) ?hr ?_;(case hd=>rfl);(case hg=>rfl);(case hr=>first|(go_simp;done)|(go_simp;rfl));intro j6 hg Hi bK hb;have aJ:=aa.mk (aq (bz HB) hb);have aQ:=aa.mk (bK);have bt:=aa.mk ((by rw [hg];exact (af (bz HB)):w.heap.size<=j6));have cr:=aa.mk ((by rw [hg];exact (af (bz HB)):w.heap.size<=j6));clear HB;have HB:=aJ;have gY:=aQ;have PN:=bt;have PO:=cr;clear aJ aQ bt cr;clear hb bK hg;obtain ⟨Ak3,Ie,_,Ig,_⟩:=info_parts gB;obtain ⟨A25,Y2,PW,PX⟩:=jc (P:=Try.prog) (Value.int .u8) 0 23 5 .i64 .i64 .i64 Try.underlying23 Ie Ig A0 c0 l0 4 6 (by omega) (by first|omega|exact gD) gD jC.out;have H9:=aa.mk (Kd.dD (h1:=fun _=>rfl) (PW _ (Kd.dc gh.out)));have Ia:=aa.mk PX;clear PW PX Ie Ig;have Apm:min 6 l0.length - 4=2:=(by have h_:(6:Int)<=(l0.length:Int):=gD;omega))|((with_reducible refine ay (f:=96) rfl ?_);refine tQ (some 11) rfl rfl Try.func96 (by kernel_rfl) rfl #[.slice A25 ((l0.take 6).drop 4).length 2] rfl (by (try simp only [List.map_toArray,List.map_cons,List.map_nil]);first|done|(rw [show ((l0.take 6).drop 4).length=2 from (by rw [List.length_drop,List.length_take];have h_:(6:Int)<=(l0.length:Int):=gD;omega)]<;>rfl)|rfl|(simp only [List.length_drop,List.length_take];rfl)|(go_simp;done)|(simp [Act.eval,IntKind.signed];done)|(simp [Act.eval,IntKind.signed];rfl)) ?_;(with_reducible refine (kV.calls _ _ ((l0.take 6).drop 4) oM _ ?aG ?aH A6.out).mono ?_);(case aG=>exact Kd.aU H9.out (bz HB));(case aH=>exact Ia.out);rintro e w' ⟨rfl,⟨nd,rfl⟩⟩;refine ⟨_,rfl, ?_⟩;(try (rw [fg Hi];generalize j5:World.drewN Hi _=Hi;have aJ:aa (Hi.heap[j6]?=some (.cells #[.int .u16 0,.int .u16 0,.int .u16 0,.slice none 0 0] 83 (0,0))):=⟨by rw [<- j5];exact (kz gY)⟩;have aQ:aa (Below w.heap.size w Hi):=⟨by rw [<- j5];exact bz HB⟩;clear gY HB j5;have gY:=aJ;have HB:=aQ;clear aJ aQ))))
          have aJ:=aa.mk (aK gY.out);have aQ:=aa.mk (bf HB.out);clear gY;clear HB;have gY:=aJ;have HB:=aQ;clear aJ aQ;obtain ⟨Ak4,Ih,_,Ii,_⟩:=info_parts gB;obtain ⟨A27,Y3,PY,PZ⟩:=jc (P:=Try.prog) (Value.int .u8) 0 23 5 .i64 .i64 .i64 Try.underlying23 Ih Ii A0 c0 l0 0 2 (by omega) (by first|omega|exact gD) gD jC.out;have Wf:=aa.mk (Kd.dD (h1:=fun _=>rfl) (PY _ (Kd.dc gh.out)));have Adl:=aa.mk PZ;clear PY PZ Ih Ii;have Apn:min 2 l0.length=2:=(by have h_:(2:Int)<=(l0.length:Int):=gD;omega)
          obtain ⟨Ak6,Ij,_,Ik,_⟩:=info_parts gB;obtain ⟨A28,Y4,P0,P1⟩:=jc (P:=Try.prog) (Value.int .u8) 0 23 5 .i64 .i64 .i64 Try.underlying23 Ij Ik A0 c0 l0 2 4 (by omega) (by first|omega|exact gD) gD jC.out;have Wg:=aa.mk (Kd.dD (h1:=fun _=>rfl) (P0 _ (Kd.dc gh.out)));have Adm:=aa.mk P1;clear P0 P1 Ij Ik;have Apo:min 4 l0.length - 2=2:=(by have h_:(4:Int)<=(l0.length:Int):=gD;omega)
          obtain ⟨AsD,Wh,_,Wi,_⟩:=info_parts gB;obtain ⟨A29,Ak8,Ado,Adp⟩:=jc (P:=Try.prog) (Value.int .u8) 0 23 5 .i64 .i64 .i64 Try.underlying23 Wh Wi A0 c0 l0 6 8 (by omega) (by first|omega|exact gD) gD jC.out;have Wj:=aa.mk (Kd.dD (h1:=fun _=>rfl) (Ado _ (Kd.dc gh.out)));have Adq:=aa.mk Adp;clear Ado Adp Wh Wi;have Apq:min 8 l0.length - 6=2:=(by have h_:(8:Int)<=(l0.length:Int):=gD;omega)
          obtain ⟨AsE,Wk,_,Wl,_⟩:=info_parts gB;obtain ⟨wE,Ak9,Adr,Ads⟩:=jc (P:=Try.prog) (Value.int .u8) 0 23 5 .i64 .i64 .i64 Try.underlying23 Wk Wl A0 c0 l0 8 (wrap64 (oM)) (by omega) (by first|omega|exact gD) gD jC.out;have Wm:=aa.mk (Kd.dD (h1:=fun _=>rfl) (Adr _ (Kd.dc gh.out)));have Adt:=aa.mk Ads;clear Adr Ads Wk Wl;refine dg (n:=17) (S:=fun w'=>True) (ds:=[]) #[false,false,false,false,false,false,false,false,false,false,false,false,false,false,false,false,false] (by kernel_rfl) rfl rfl trivial (fun hHeld=> ?_);refine bH jj.Ek jj.yq (fun az dW=> ?_)
          generalize Hi.drew=w26 at gY HB Wf Wg Wj Wm hHeld|-
          refine pz 0 23 az ?_;refine pz 1 24 az ?_;refine pz 3 26 az ?_;refine pz 4 27 az ?_;refine pz 6 29 az ?_;refine pz 7 30 az ?_;refine pz 9 32 az ?_;refine pz 10 33 az ?_;refine pz 11 34 az ?_;refine pz 12 35 az ?_;refine oz 2 (some 25) az (fun K hK=> ?_);refine kF Try.func96 (by kernel_rfl) rfl #[.slice A27 ((l0.take 2).drop 0).length 2] (by rfl) rfl rfl (by (try simp only [List.map_toArray,List.map_cons,List.map_nil]);first|done|(rw [show ((l0.take 2).drop 0).length=2 from (by rw [List.length_drop,List.length_take];have h_:(2:Int)<=(l0.length:Int):=gD;omega)]<;>rfl)|rfl|(simp only [List.length_drop,List.length_take];rfl)|(go_simp;done)|(simp [Act.eval,IntKind.signed];done)|(simp [Act.eval,IntKind.signed];rfl)) ?_
          with_reducible refine (kV.calls _ _ ((l0.take 2).drop 0) Ej _ ?aG ?aH O6.out).mono ?_
          (case aG=>exact Kd.aU Wf.out (bz HB))
          (case aH=>exact Adl.out)
          rintro e w' ⟨rfl,⟨nd,rfl⟩⟩;refine ⟨_,rfl, ?_⟩;refine hK.out _ _ trivial (fun hHeld=> ?_);clear hK K;refine nz 25 ?_;refine oz 5 (some 28) az (fun K hK=> ?_);refine kF Try.func96 (by kernel_rfl) rfl #[.slice A28 ((l0.take 4).drop 2).length 2] (by rfl) rfl rfl (by (try simp only [List.map_toArray,List.map_cons,List.map_nil]);first|done|(rw [show ((l0.take 4).drop 2).length=2 from (by rw [List.length_drop,List.length_take];have h_:(4:Int)<=(l0.length:Int):=gD;omega)]<;>rfl)|rfl|(simp only [List.length_drop,List.length_take];rfl)|(go_simp;done)|(simp [Act.eval,IntKind.signed];done)|(simp [Act.eval,IntKind.signed];rfl)) ?_
          with_reducible refine (kV.calls _ _ ((l0.take 4).drop 2) FM _ ?aG ?aH NJ.out).mono ?_
          (case aG=>exact Kd.aU Wg.out (bz HB))
          (case aH=>exact Adm.out)
          rintro e w' ⟨rfl,⟨nd,rfl⟩⟩;refine ⟨_,rfl, ?_⟩;refine hK.out _ _ trivial (fun hHeld=> ?_);clear hK K;refine nz 28 ?_;refine oz 8 (some 31) az (fun K hK=> ?_);refine kF Try.func96 (by kernel_rfl) rfl #[.slice A29 ((l0.take 8).drop 6).length 2] (by rfl) rfl rfl (by (try simp only [List.map_toArray,List.map_cons,List.map_nil]);first|done|(rw [show ((l0.take 8).drop 6).length=2 from (by rw [List.length_drop,List.length_take];have h_:(8:Int)<=(l0.length:Int):=gD;omega)]<;>rfl)|rfl|(simp only [List.length_drop,List.length_take];rfl)|(go_simp;done)|(simp [Act.eval,IntKind.signed];done)|(simp [Act.eval,IntKind.signed];rfl)) ?_
          with_reducible refine (kV.calls _ _ ((l0.take 8).drop 6) H8 _ ?aG ?aH uJ.out).mono ?_
          (case aG=>exact Kd.aU Wj.out (bz HB))
          (case aH=>exact Adq.out)
          rintro e w' ⟨rfl,⟨nd,rfl⟩⟩;refine ⟨_,rfl, ?_⟩;refine hK.out _ _ trivial (fun hHeld=> ?_);clear hK K;refine nz 31 ?_;refine oz 13 (some 36) az (fun K hK=> ?_);refine kF Try.func97 (by kernel_rfl) rfl #[.slice wE ((l0.take ((wrap64 (oM)):Int).toNat).drop 8).length ((wrap64 (oM)).toNat - 8)] (by rfl) rfl rfl (by (try simp only [List.map_toArray,List.map_cons,List.map_nil]);first|done|(rw [show ((l0.take ((wrap64 (oM)):Int).toNat).drop 8).length=((wrap64 (oM)).toNat - 8) from (by rw [List.length_drop,List.length_take];have h_:((wrap64 (oM)):Int)<=(l0.length:Int):=gD;omega)]<;>rfl)|rfl|(simp only [List.length_drop,List.length_take];rfl)|(go_simp;done)|(simp [Act.eval,IntKind.signed];done)|(simp [Act.eval,IntKind.signed];rfl)) ?_
          with_reducible refine (cH.calls _ _ ((l0.take ((wrap64 (oM)):Int).toNat).drop 8) KA _ ?aG ?aH A23.out).mono ?_
          (case aG=>exact Kd.aU Wm.out (bz HB))
          (case aH=>exact Adt.out)
          rintro e w31 ⟨AsF,rfl,gE,hb⟩;refine ⟨_,rfl, ?_⟩;have aJ:=aa.mk (Kd.bP gE (af (bz HB)));have aQ:=aa.mk (bn (kz gY) hb);have bt:=aa.mk (aq (bz HB) hb);clear gY;clear HB;have Wn:=aJ;have gY:=aQ;have HB:=bt;clear aJ aQ bt
          (try clear hb)
          (try clear hb2)
          (try clear hk)
          (try clear hi)
          (try clear gE)
          obtain ⟨Adu,Adv,Adw⟩:=Kd.da Wn.out
          (first|subst Adw|(injection Adw with mY rD mZ;have rE:=mY.symm;have rF:=mZ.symm;clear mY rD mZ;subst rE;subst rF))
          refine hK.out _ _ trivial (fun hHeld=> ?_);clear hK K;refine nz 36 ?_;refine pz 14 37 az ?_;refine oz 15 (none) az (fun K hK=> ?_);have Apr:=cs4 gY.out;have Alb:=ae gY.out;refine wJ (w1:= ?_) (by rfl) rfl ?_ ?_
          rotate_left
          ·go_simp
           rfl
          refine hK.out _ _ trivial (fun hHeld=> ?_);clear hK K;refine pz 16 3 az ?_;refine dz az ?_
          try go_wp2
          refine bodyPost_ret (fC rfl _ _ j6 83 #[.int .u16 Ej,.int .u16 FM,.int .u16 H8,.slice Adu KA.length Adv] (0,0) _ rfl (by (with_reducible repeat (first|refine aN ?_ _|refine aK ?_|refine aM ?_ _));refine bM (cs:= #[.int .u16 Ej,.int .u16 FM,.int .u16 H8,.slice none 0 0]) ?_ 3 _ rfl;(with_reducible repeat (first|refine aN ?_ _|refine aK ?_|refine aM ?_ _));refine bM (cs:= #[.int .u16 Ej,.int .u16 FM,.int .u16 0,.slice none 0 0]) ?_ 2 _ rfl;(with_reducible repeat (first|refine aN ?_ _|refine aK ?_|refine aM ?_ _));refine bM (cs:= #[.int .u16 Ej,.int .u16 0,.int .u16 0,.slice none 0 0]) ?_ 1 _ rfl;(with_reducible repeat (first|refine aN ?_ _|refine aK ?_|refine aM ?_ _));refine bM (cs:= #[.int .u16 0,.int .u16 0,.int .u16 0,.slice none 0 0]) ?_ 0 _ rfl;(with_reducible repeat (first|refine aN ?_ _|refine aK ?_|refine aM ?_ _));exact gY.out) Try.underlying83 rfl (by kernel_rfl)) rfl ?_
          exact ⟨_,by first|rfl|(simp [aj,ak]<;>rfl)|(simp [*,aj,ak]<;>rfl),by (with_reducible repeat (first|apply Kd.eX|apply Kd.eT|apply Kd.eY));exact Kd.dm (Kd.eF (p:=⟨j6,3,none⟩) (Kd.eF (p:=⟨j6,2,none⟩) (Kd.eF (p:=⟨j6,1,none⟩) (Kd.eF (p:=⟨j6,0,none⟩) (Kd.mL Wn.out gY.out (by decide)) (fun _ hk=>hk.2) (.int .u16 Ej)) (fun _ hk=>hk.2) (.int .u16 FM)) (fun _ hk=>hk.2) (.int .u16 H8)) (fun _ hk=>hk.2) (.slice Adu KA.length Adv)) (fun _ hk=>trivial),bz HB⟩
         ·rw [ax Ic] at H
          cases H
        ·rw [ax Ta] at H
         cases H
       ·rw [ax Aj] at H
        cases H
      ·rw [ax rL] at H
       cases H
     ·rw [ax wP] at H
      cases H
  ·rw [ax c5] at H
   cases H
attribute [local go_sem] dF dG eG eH cQ cR dH dI
def iE.f (l0:List Int):Option (Int×Int×Int×Int×List Int×Int):=if (l0.length:Int)<8 then (some (0,0,0,0,([]:List Int),20)) else (if 0<(l0.length:Int) then (if 1<(l0.length:Int) then (if 2<(l0.length:Int) then (if 3<(l0.length:Int) then (if 4<(l0.length:Int) then (if 5<(l0.length:Int) then (if 6<(l0.length:Int) then (if 7<(l0.length:Int) then (if 8<=(l0.length:Int) then ((cH.f (l0.drop 8)).bind fun KC=>(some (rd l0 0,rd l0 1,Go.bits .or .u16 (IntKind.u16.wrap ((IntKind.u16.wrap (rd l0 2))*256)) (IntKind.u16.wrap (rd l0 3)),Go.bits .or .u32 (Go.bits .or .u32 (Go.bits .or .u32 ((((rd l0 4) % 4294967296)*16777216) % 4294967296) ((((rd l0 5) % 4294967296)*65536) % 4294967296)) ((((rd l0 6) % 4294967296)*256) % 4294967296)) ((rd l0 7) % 4294967296),KC,0))) else (none)) else (none)) else (none)) else (none)) else (none)) else (none)) else (none)) else (none)) else (none))
def iE.T3:Bool×List (List Nat×List Nat):=(true,[([],[]),([0],[0]),([1],[1]),([],[]),([3],[3]),([4],[4]),([],[]),([6],[6]),([7],[7]),([8],[8]),([9],[9]),([],[]),([11],[11]),([12],[12]),([13],[13]),([10,14],[10,14]),([],[]),([16],[16]),([17],[17]),([18],[18]),([19],[19]),([],[]),([21],[21]),([22],[22]),([23],[23]),([24],[24]),([20,25],[20,25]),([],[]),([27],[27]),([28],[28]),([29],[29]),([30],[30]),([26,31],[26,31]),([],[]),([33],[33]),([34],[34]),([35],[35]),([32,36],[32,36]),([],[]),([38],[38]),([39],[39]),([2,5,15,37,40],[2,5,15,37,40]),([41,40,0,1,2,3,4,5,6,7,8,9,10,11,12,13,14,15,16,17,18,19,20,21,22,23,24,25,26,27,28,29,30,31,32,33,34,35,36,37,38,39,40,41],[41]),([42,0,1,2,3,4,5,6,7,8,9,10,11,12,13,14,15,16,17,18,19,20,21,22,23,24,25,26,27,28,29,30,31,32,33,34,35,36,37,38,39,40,41,42],[])])
def iE.B3:List Nat:=[0,1,3,0,8,24,0,64,192,448,960,0,2048,6144,14336,32704,0,65536,196608,458752,983040,0,2097152,6291456,14680064,31457280,67043328,0,134217728,402653184,939524096,2013265920,4294901760,0,8589934592,25769803776,60129542144,137438887936,0,274877906944,824633720832,2199023255551,4398046511103,8796093022207]
theorem iE.KD:gS .any (opsOf Try.f123 3)=iE.T3:=by kernel_rfl
theorem iE.CA:dN iE.T3.2 iE.B3=true:=by kernel_rfl
theorem iE.calls (A0:Option Addr) (c0:Nat) (l0:List Int) (r1:Int) (r2:Int) (r3:Int) (r4:Int) (r5:List Int) (r6:Int) (w:World) (hr0:Kd.C (Kd.int .u8) w A0 l0.length l0) (hc0:l0.length<=c0) (h:iE.f l0=some (r1,r2,r3,r4,r5,r6)):
  Calls Try.prog 123 #[.slice A0 l0.length c0] w fun e w'=>∃ v4_:Value,e= .returned (.tuple #[.agg #[.int .u8 r1,.int .u8 r2,.int .u16 r3,.int .u32 r4,v4_],.int .i64 r6]) /\ Kd.R (Kd.int .u8) 5 w' w.heap.size (fun _=>True) v4_ r5 /\ Below w.heap.size w w':=by
 have ny:=Try.underlying101;have gh:=aa.mk hr0;have jC:=aa.mk hc0;clear hr0 hc0;have HB:=gj w
 have H:(if (l0.length:Int)<8 then (some (0,0,0,0,([]:List Int),20)) else (if 0<(l0.length:Int) then (if 1<(l0.length:Int) then (if 2<(l0.length:Int) then (if 3<(l0.length:Int) then (if 4<(l0.length:Int) then (if 5<(l0.length:Int) then (if 6<(l0.length:Int) then (if 7<(l0.length:Int) then (if 8<=(l0.length:Int) then ((cH.f (l0.drop 8)).bind fun KC=>(some (rd l0 0,rd l0 1,Go.bits .or .u16 (IntKind.u16.wrap ((IntKind.u16.wrap (rd l0 2))*256)) (IntKind.u16.wrap (rd l0 3)),Go.bits .or .u32 (Go.bits .or .u32 (Go.bits .or .u32 ((((rd l0 4) % 4294967296)*16777216) % 4294967296) ((((rd l0 5) % 4294967296)*65536) % 4294967296)) ((((rd l0 6) % 4294967296)*256) % 4294967296)) ((rd l0 7) % 4294967296),KC,0))) else (none)) else (none)) else (none)) else (none)) else (none)) else (none)) else (none)) else (none)) else (none)))=some (r1,r2,r3,r4,r5,r6):=h
 clear h
 by_cases c2:(l0.length:Int)<8
 ·rw [au c2] at H
  have kg:decide ((l0.length:Int)<8)=true:=bS c2;have mG:decide (l0.length<8)=true:=bS (by omega);clear c2;simp only [Option.some.injEq,Prod.mk.injEq] at H
  obtain ⟨rfl,rfl,rfl,rfl,rfl,rfl⟩:=H
  go_enter Try.func123,Try.ntmps123
  go_wp2_with (first|((with_reducible refine aA (N:=2) rfl ?_);refine aC ?hg (N:=2) ?hd (cs:= #[.int .u8 0,.int .u8 0,.int .u16 0,.int .u32 0,.slice none 0 0]) (t:=101) ?hr ?_;(case hd=>rfl);(case hg=>rfl);(case hr=>first|(go_simp;done)|(go_simp;rfl));intro gI hg w3 bK hb;have aJ:=aa.mk (aq (bz HB) hb);have aQ:=aa.mk (bK);have bt:=aa.mk ((by rw [hg];exact (af (bz HB)):w.heap.size<=gI));have cr:=aa.mk ((by rw [hg];exact (af (bz HB)):w.heap.size<=gI));clear HB;have HB:=aJ;have nA:=aQ;have eA:=bt;have Ady:=cr;clear aJ aQ bt cr;clear hb bK hg;have pP:w3.cell? ⟨gI,0,none⟩=some (.int .u8 0):=cz nA.out 0 rfl;have pQ:w3.cell? ⟨gI,1,none⟩=some (.int .u8 0):=cz nA.out 1 rfl;have pR:w3.cell? ⟨gI,2,none⟩=some (.int .u16 0):=cz nA.out 2 rfl;have pS:w3.cell? ⟨gI,3,none⟩=some (.int .u32 0):=cz nA.out 3 rfl;have tU:w3.cell? ⟨gI,4,none⟩=some (.slice none 0 0):=cz nA.out 4 rfl;have pT:=ae nA.out 0;have pU:=ae nA.out 1;have pV:=ae nA.out 2;have pW:=ae nA.out 3;have tV:=ae nA.out 4))
  refine bodyPost_ret (fC rfl _ _ gI 101 #[.int .u8 0,.int .u8 0,.int .u16 0,.int .u32 0,.slice none 0 0] (0,0) _ rfl (by (repeat (first|with_reducible refine aN ?_ _|with_reducible refine aK ?_|with_reducible refine aM ?_ _|refine bM (cs:= #[.int .u8 0,.int .u8 0,.int .u16 0,.int .u32 0,.slice none 0 0]) ?_ _ _ rfl));(with_reducible repeat (first|refine aN ?_ _|refine aK ?_|refine aM ?_ _));exact nA.out) Try.underlying101 rfl (by kernel_rfl)) rfl ?_;exact ⟨_,by first|rfl|(simp [aj,ak]<;>rfl)|(simp [*,aj,ak]<;>rfl),by first|exact Kd.cl _ _ _ _ _|exact Kd.ju _ _ _ _ _|exact Kd.jv _ _ _ _ _|exact Kd.jr _ _ _ _ _|exact Kd.js _ _ _ _ _,bz HB⟩
 ·rw [ax c2] at H
  have kg:decide ((l0.length:Int)<8)=false:=gO c2;have mG:decide (l0.length<8)=false:=gO (by omega);clear c2
  by_cases c5:0<(l0.length:Int)
  ·rw [au c5] at H
   have mS:decide (0<(l0.length:Int))=true:=bS c5;have qz:decide (0<l0.length)=true:=bS (by omega);clear c5
   by_cases c6:1<(l0.length:Int)
   ·rw [au c6] at H
    have sG:decide (1<(l0.length:Int))=true:=bS c6;have Il:decide (1<l0.length)=true:=bS (by omega);clear c6
    by_cases c7:2<(l0.length:Int)
    ·rw [au c7] at H
     have Ah:decide (2<(l0.length:Int))=true:=bS c7;have TU:decide (2<l0.length)=true:=bS (by omega);clear c7
     by_cases c8:3<(l0.length:Int)
     ·rw [au c8] at H
      have nX:decide (3<(l0.length:Int))=true:=bS c8;have CB:decide (3<l0.length)=true:=bS (by omega);clear c8
      by_cases c9:4<(l0.length:Int)
      ·rw [au c9] at H
       have wT:decide (4<(l0.length:Int))=true:=bS c9;have NK:decide (4<l0.length)=true:=bS (by omega);clear c9
       by_cases Ba:5<(l0.length:Int)
       ·rw [au Ba] at H
        have uw:decide (5<(l0.length:Int))=true:=bS Ba;have Mo:decide (5<l0.length)=true:=bS (by omega);clear Ba
        by_cases ru:6<(l0.length:Int)
        ·rw [au ru] at H
         have Bb:decide (6<(l0.length:Int))=true:=bS ru;have Mp:decide (6<l0.length)=true:=bS (by omega);clear ru
         by_cases uO:7<(l0.length:Int)
         ·rw [au uO] at H
          have EK:decide (7<(l0.length:Int))=true:=bS uO;have Mq:decide (7<l0.length)=true:=bS (by omega);clear uO
          by_cases NL:8<=(l0.length:Int)
          ·rw [au NL] at H
           have P2:=eq_true NL;have Aps:decide (8<=(l0.length:Int))=true:=bS NL;clear NL;replace H:=cZ H;obtain ⟨KC,CC,H⟩:=H
           (try dsimp -simprocs only at H)
           have Y5:=aa.mk CC;clear CC;simp only [Option.some.injEq,Prod.mk.injEq] at H
           obtain ⟨rfl,rfl,rfl,rfl,rfl,rfl⟩:=H
           go_enter Try.func123,Try.ntmps123
           try go_wp2_with (first|((with_reducible refine aA (N:=2) rfl ?_);refine aC ?hg (N:=2) ?hd (cs:= #[.int .u8 0,.int .u8 0,.int .u16 0,.int .u32 0,.slice none 0 0]) (t:=101) ?hr ?_;(case hd=>rfl);(case hg=>rfl);(case hr=>first|(go_simp;done)|(go_simp;rfl));intro gI hg yE bK hb;have aJ:=aa.mk (aq (bz HB) hb);have aQ:=aa.mk (bK);have bt:=aa.mk ((by rw [hg];exact (af (bz HB)):w.heap.size<=gI));have cr:=aa.mk ((by rw [hg];exact (af (bz HB)):w.heap.size<=gI));clear HB;have HB:=aJ;have nA:=aQ;have eA:=bt;have Ady:=cr;clear aJ aQ bt cr;clear hb bK hg))
           have aJ:=aa.mk (aK nA.out);have aQ:=aa.mk (bf HB.out);clear nA;clear HB;have nA:=aJ;have HB:=aQ;clear aJ aQ;have Y6:0<=(0:Int):=(by omega)
           have Y7:0<(l0.length:Int):=gD;obtain ⟨nB,Alc,uP⟩:=Kd.dB gh.out 0 Y6 Y7;have lI:=uP
           (try rw [show ((0:Int)).toNat=0 from rfl] at lI)
           (try rw [show 0*1=0 from rfl] at lI)
           (try rw [Addr.add_zero'] at lI)
           cases Alc
           have Apt:(0<l0.length)=True:=eq_true (by omega)
           (try rw [show ((0:Int)).toNat=0 from rfl] at uP)
           (try rw [Addr.add_zero'] at uP)
           replace uP:=(HB.out.cell (dA w _ uP)).trans uP;replace Y6:=eq_true Y6;replace Y7:=eq_true Y7;have Y8:0<=(1:Int):=(by omega)
           have Y9:1<(l0.length:Int):=gD;obtain ⟨Adz,Ald,uQ⟩:=Kd.dB gh.out 1 Y8 Y9;have lJ:=uQ
           (try rw [show ((1:Int)).toNat=1 from rfl] at lJ)
           (try rw [show 1*1=1 from rfl] at lJ)
           (try simp only [Nat.reduceMul,Nat.reduceEqDiff,Go.Addr.add,↓reduceIte] at lJ)
           obtain rfl:nB=Adz:=(by injection Ald)
           (try simp only [show (1:Int).toNat=1 from rfl,Nat.reduceMul,Nat.reduceEqDiff,Go.Addr.add,↓reduceIte] at uQ)
           have Apu:(1<l0.length)=True:=eq_true (by omega)
           (try rw [show ((1:Int)).toNat=1 from rfl] at uQ)
           replace uQ:=(HB.out.cell (dA w _ uQ)).trans uQ;replace Y8:=eq_true Y8;replace Y9:=eq_true Y9;have Za:0<=(2:Int):=(by omega)
           have Zb:2<(l0.length:Int):=gD;obtain ⟨AdA,Ale,uR⟩:=Kd.dB gh.out 2 Za Zb;have lK:=uR
           (try rw [show ((2:Int)).toNat=2 from rfl] at lK)
           (try rw [show 2*1=2 from rfl] at lK)
           (try simp only [Nat.reduceMul,Nat.reduceEqDiff,Go.Addr.add,↓reduceIte] at lK)
           obtain rfl:nB=AdA:=(by injection Ale)
           (try simp only [show (2:Int).toNat=2 from rfl,Nat.reduceMul,Nat.reduceEqDiff,Go.Addr.add,↓reduceIte] at uR)
           have Apv:(2<l0.length)=True:=eq_true (by omega)
           (try rw [show ((2:Int)).toNat=2 from rfl] at uR)
           replace uR:=(HB.out.cell (dA w _ uR)).trans uR;replace Za:=eq_true Za;replace Zb:=eq_true Zb;have Zc:0<=(3:Int):=(by omega)
           have Zd:3<(l0.length:Int):=gD;obtain ⟨AdB,Alf,uS⟩:=Kd.dB gh.out 3 Zc Zd;have lM:=uS
           (try rw [show ((3:Int)).toNat=3 from rfl] at lM)
           (try rw [show 3*1=3 from rfl] at lM)
           (try simp only [Nat.reduceMul,Nat.reduceEqDiff,Go.Addr.add,↓reduceIte] at lM)
           obtain rfl:nB=AdB:=(by injection Alf)
           (try simp only [show (3:Int).toNat=3 from rfl,Nat.reduceMul,Nat.reduceEqDiff,Go.Addr.add,↓reduceIte] at uS)
           have Apw:(3<l0.length)=True:=eq_true (by omega)
           (try rw [show ((3:Int)).toNat=3 from rfl] at uS)
           replace uS:=(HB.out.cell (dA w _ uS)).trans uS;replace Zc:=eq_true Zc;replace Zd:=eq_true Zd;have Ze:0<=(4:Int):=(by omega)
           have Zf:4<(l0.length:Int):=gD;obtain ⟨AdC,Alg,uT⟩:=Kd.dB gh.out 4 Ze Zf;have lN:=uT
           (try rw [show ((4:Int)).toNat=4 from rfl] at lN)
           (try rw [show 4*1=4 from rfl] at lN)
           (try simp only [Nat.reduceMul,Nat.reduceEqDiff,Go.Addr.add,↓reduceIte] at lN)
           obtain rfl:nB=AdC:=(by injection Alg)
           (try simp only [show (4:Int).toNat=4 from rfl,Nat.reduceMul,Nat.reduceEqDiff,Go.Addr.add,↓reduceIte] at uT)
           have Apx:(4<l0.length)=True:=eq_true (by omega)
           (try rw [show ((4:Int)).toNat=4 from rfl] at uT)
           replace uT:=(HB.out.cell (dA w _ uT)).trans uT;replace Ze:=eq_true Ze;replace Zf:=eq_true Zf;have Zg:0<=(5:Int):=(by omega)
           have Zh:5<(l0.length:Int):=gD;obtain ⟨AdD,Alh,uU⟩:=Kd.dB gh.out 5 Zg Zh;have lO:=uU
           (try rw [show ((5:Int)).toNat=5 from rfl] at lO)
           (try rw [show 5*1=5 from rfl] at lO)
           (try simp only [Nat.reduceMul,Nat.reduceEqDiff,Go.Addr.add,↓reduceIte] at lO)
           obtain rfl:nB=AdD:=(by injection Alh)
           (try simp only [show (5:Int).toNat=5 from rfl,Nat.reduceMul,Nat.reduceEqDiff,Go.Addr.add,↓reduceIte] at uU)
           have Apy:(5<l0.length)=True:=eq_true (by omega)
           (try rw [show ((5:Int)).toNat=5 from rfl] at uU)
           replace uU:=(HB.out.cell (dA w _ uU)).trans uU;replace Zg:=eq_true Zg;replace Zh:=eq_true Zh;have Zi:0<=(6:Int):=(by omega)
           have Zj:6<(l0.length:Int):=gD;obtain ⟨AdE,Ali,uV⟩:=Kd.dB gh.out 6 Zi Zj;have lP:=uV
           (try rw [show ((6:Int)).toNat=6 from rfl] at lP)
           (try rw [show 6*1=6 from rfl] at lP)
           (try simp only [Nat.reduceMul,Nat.reduceEqDiff,Go.Addr.add,↓reduceIte] at lP)
           obtain rfl:nB=AdE:=(by injection Ali)
           (try simp only [show (6:Int).toNat=6 from rfl,Nat.reduceMul,Nat.reduceEqDiff,Go.Addr.add,↓reduceIte] at uV)
           have Apz:(6<l0.length)=True:=eq_true (by omega)
           (try rw [show ((6:Int)).toNat=6 from rfl] at uV)
           replace uV:=(HB.out.cell (dA w _ uV)).trans uV;replace Zi:=eq_true Zi;replace Zj:=eq_true Zj;have Zk:0<=(7:Int):=(by omega)
           have Zl:7<(l0.length:Int):=gD;obtain ⟨AdF,Alj,uW⟩:=Kd.dB gh.out 7 Zk Zl;have lQ:=uW
           (try rw [show ((7:Int)).toNat=7 from rfl] at lQ)
           (try rw [show 7*1=7 from rfl] at lQ)
           (try simp only [Nat.reduceMul,Nat.reduceEqDiff,Go.Addr.add,↓reduceIte] at lQ)
           obtain rfl:nB=AdF:=(by injection Alj)
           (try simp only [show (7:Int).toNat=7 from rfl,Nat.reduceMul,Nat.reduceEqDiff,Go.Addr.add,↓reduceIte] at uW)
           have ApA:(7<l0.length)=True:=eq_true (by omega)
           (try rw [show ((7:Int)).toNat=7 from rfl] at uW)
           replace uW:=(HB.out.cell (dA w _ uW)).trans uW;replace Zk:=eq_true Zk;replace Zl:=eq_true Zl;obtain ⟨Alk,Im,_,Io,_⟩:=info_parts gB;obtain ⟨O7,Zm,P3,P4⟩:=fR (P:=Try.prog) (Value.int .u8) 0 23 5 .i64 Try.underlying23 Im Io (some nB) c0 l0 8 (by omega) gD jC.out;have Wo:=aa.mk (Kd.dD (h1:=fun _=>rfl) (P3 _ (Kd.dc gh.out)));have AdG:=aa.mk P4;clear P3 P4 Im Io
           refine dg (n:=44) (S:=fun w'=>w'.cell? nB=some (.int .u8 (rd l0 0)) /\ w'.cell? ⟨nB.block,nB.off+1,none⟩=some (.int .u8 (rd l0 1)) /\ w'.cell? ⟨nB.block,nB.off+2,none⟩=some (.int .u8 (rd l0 2)) /\ w'.cell? ⟨nB.block,nB.off+3,none⟩=some (.int .u8 (rd l0 3)) /\ w'.cell? ⟨nB.block,nB.off+4,none⟩=some (.int .u8 (rd l0 4)) /\ w'.cell? ⟨nB.block,nB.off+5,none⟩=some (.int .u8 (rd l0 5)) /\ w'.cell? ⟨nB.block,nB.off+6,none⟩=some (.int .u8 (rd l0 6)) /\ w'.cell? ⟨nB.block,nB.off+7,none⟩=some (.int .u8 (rd l0 7))) (ds:=[]) #[false,false,false,false,false,false,false,false,false,false,false,false,false,false,false,false,false,false,false,false,false,false,false,false,false,false,false,false,false,false,false,false,false,false,false,false,false,false,false,false,false,false,false,false] (by kernel_rfl) rfl rfl ⟨((HB.out.cell (dA w _ lI)).trans lI),((HB.out.cell (dA w _ lJ)).trans lJ),((HB.out.cell (dA w _ lK)).trans lK),((HB.out.cell (dA w _ lM)).trans lM),((HB.out.cell (dA w _ lN)).trans lN),((HB.out.cell (dA w _ lO)).trans lO),((HB.out.cell (dA w _ lP)).trans lP),((HB.out.cell (dA w _ lQ)).trans lQ)⟩ (fun hHeld=> ?_);refine bH iE.KD iE.CA (fun az dW=> ?_)
           generalize yE.drew=qM at nA HB Wo uP uQ uR uS uT uU uV uW hHeld|-
           refine pz 0 8 az ?_;refine pz 1 9 az ?_;refine pz 3 11 az ?_;refine pz 4 12 az ?_;refine pz 6 14 az ?_;refine pz 7 15 az ?_;refine pz 11 19 az ?_;refine pz 12 20 az ?_;refine pz 16 24 az ?_;refine pz 17 25 az ?_;refine pz 21 29 az ?_;refine pz 22 30 az ?_;refine pz 27 35 az ?_;refine pz 28 36 az ?_;refine pz 33 41 az ?_;refine pz 34 42 az ?_;refine pz 38 46 az ?_;refine pz 39 47 az ?_;refine gK (i:=2) (N:=some 10) (v:= ?_) (a':= ?_) #[true,true,true,true,true,false,true,true,false,false,false,true,true,false,false,false,true,true,false,false,false,true,true,false,false,false,false,true,true,false,false,false,false,true,true,false,false,false,true,true,false,false,false,false] rfl rfl (dn az.out dW.out (by kernel_rfl)) (fun _ _ _ h=>h) (Or.inl ⟨by rfl, ?_⟩) hHeld ?_ ?_
           rotate_left
           ·rintro w' ⟨s0,s1,s2,s3,s4,s5,s6,s7⟩
            go_simp
            with_reducible rfl
           rotate_left
           ·simp only [pL]
            rfl
           refine gK (i:=5) (N:=some 13) (v:= ?_) (a':= ?_) #[true,true,true,true,true,true,true,true,false,false,false,true,true,false,false,false,true,true,false,false,false,true,true,false,false,false,false,true,true,false,false,false,false,true,true,false,false,false,true,true,false,false,false,false] rfl rfl (dn az.out dW.out (by kernel_rfl)) (fun _ _ _ h=>h) (Or.inl ⟨by rfl, ?_⟩) hHeld ?_ ?_
           rotate_left
           ·rintro w' ⟨s0,s1,s2,s3,s4,s5,s6,s7⟩
            go_simp
            with_reducible rfl
           rotate_left
           ·simp only [pL]
            rfl
           refine gK (i:=8) (N:=some 16) (v:= ?_) (a':= ?_) #[true,true,true,true,true,true,true,true,true,false,false,true,true,false,false,false,true,true,false,false,false,true,true,false,false,false,false,true,true,false,false,false,false,true,true,false,false,false,true,true,false,false,false,false] rfl rfl (dn az.out dW.out (by kernel_rfl)) (fun _ _ _ h=>h) (Or.inl ⟨by rfl, ?_⟩) hHeld ?_ ?_
           rotate_left
           ·rintro w' ⟨s0,s1,s2,s3,s4,s5,s6,s7⟩
            go_simp
            with_reducible rfl
           rotate_left
           ·simp only [pL]
            rfl
           refine pz 9 17 az ?_;refine pz 10 18 az ?_;refine gK (i:=13) (N:=some 21) (v:= ?_) (a':= ?_) #[true,true,true,true,true,true,true,true,true,true,true,true,true,true,false,false,true,true,false,false,false,true,true,false,false,false,false,true,true,false,false,false,false,true,true,false,false,false,true,true,false,false,false,false] rfl rfl (dn az.out dW.out (by kernel_rfl)) (fun _ _ _ h=>h) (Or.inl ⟨by rfl, ?_⟩) hHeld ?_ ?_
           rotate_left
           ·rintro w' ⟨s0,s1,s2,s3,s4,s5,s6,s7⟩
            go_simp
            with_reducible rfl
           rotate_left
           ·simp only [pL]
            rfl
           refine pz 14 22 az ?_;refine pz 15 23 az ?_;refine gK (i:=18) (N:=some 26) (v:= ?_) (a':= ?_) #[true,true,true,true,true,true,true,true,true,true,true,true,true,true,true,true,true,true,true,false,false,true,true,false,false,false,false,true,true,false,false,false,false,true,true,false,false,false,true,true,false,false,false,false] rfl rfl (dn az.out dW.out (by kernel_rfl)) (fun _ _ _ h=>h) (Or.inl ⟨by rfl, ?_⟩) hHeld ?_ ?_
           rotate_left
           ·rintro w' ⟨s0,s1,s2,s3,s4,s5,s6,s7⟩
            go_simp
            with_reducible rfl
           rotate_left
           ·simp only [pL]
            rfl
           refine pz 19 27 az ?_;refine pz 20 28 az ?_;refine gK (i:=23) (N:=some 31) (v:= ?_) (a':= ?_) #[true,true,true,true,true,true,true,true,true,true,true,true,true,true,true,true,true,true,true,true,true,true,true,true,false,false,false,true,true,false,false,false,false,true,true,false,false,false,true,true,false,false,false,false] rfl rfl (dn az.out dW.out (by kernel_rfl)) (fun _ _ _ h=>h) (Or.inl ⟨by rfl, ?_⟩) hHeld ?_ ?_
           rotate_left
           ·rintro w' ⟨s0,s1,s2,s3,s4,s5,s6,s7⟩
            go_simp
            with_reducible rfl
           rotate_left
           ·simp only [pL]
            rfl
           refine pz 24 32 az ?_;refine pz 25 33 az ?_;refine pz 26 34 az ?_;refine gK (i:=29) (N:=some 37) (v:= ?_) (a':= ?_) #[true,true,true,true,true,true,true,true,true,true,true,true,true,true,true,true,true,true,true,true,true,true,true,true,true,true,true,true,true,true,false,false,false,true,true,false,false,false,true,true,false,false,false,false] rfl rfl (dn az.out dW.out (by kernel_rfl)) (fun _ _ _ h=>h) (Or.inl ⟨by rfl, ?_⟩) hHeld ?_ ?_
           rotate_left
           ·rintro w' ⟨s0,s1,s2,s3,s4,s5,s6,s7⟩
            go_simp
            with_reducible rfl
           rotate_left
           ·simp only [pL]
            rfl
           refine pz 30 38 az ?_;refine pz 31 39 az ?_;refine pz 32 40 az ?_;refine gK (i:=35) (N:=some 43) (v:= ?_) (a':= ?_) #[true,true,true,true,true,true,true,true,true,true,true,true,true,true,true,true,true,true,true,true,true,true,true,true,true,true,true,true,true,true,true,true,true,true,true,true,false,false,true,true,false,false,false,false] rfl rfl (dn az.out dW.out (by kernel_rfl)) (fun _ _ _ h=>h) (Or.inl ⟨by rfl, ?_⟩) hHeld ?_ ?_
           rotate_left
           ·rintro w' ⟨s0,s1,s2,s3,s4,s5,s6,s7⟩
            go_simp
            with_reducible rfl
           rotate_left
           ·simp only [pL]
            rfl
           refine pz 36 44 az ?_;refine pz 37 45 az ?_;refine oz 40 (some 48) az (fun K hK=> ?_);refine kF Try.func97 (by kernel_rfl) rfl #[.slice O7 (l0.drop 8).length (c0 - 8)] (by rfl) rfl rfl (by (try simp only [List.map_toArray,List.map_cons,List.map_nil]);first|done|(rw [show (l0.drop 8).length=(l0.length - 8) from List.length_drop]<;>rfl)|rfl|(simp only [List.length_drop,List.length_take];rfl)|(go_simp;done)|(simp [Act.eval,IntKind.signed];done)|(simp [Act.eval,IntKind.signed];rfl)) ?_
           with_reducible refine (cH.calls _ _ (l0.drop 8) KC _ ?aG ?aH Y5.out).mono ?_
           (case aG=>exact Kd.aU Wo.out (bz HB))
           (case aH=>exact AdG.out)
           rintro e Mr ⟨AsG,rfl,gE,hb⟩;refine ⟨_,rfl, ?_⟩;have aJ:=aa.mk (Kd.bP gE (af (bz HB)));have aQ:=aa.mk (bn (kz nA) hb);have bt:=aa.mk (aq (bz HB) hb);clear nA;clear HB;have Wp:=aJ;have nA:=aQ;have HB:=bt;clear aJ aQ bt
           (try clear hb)
           (try clear hb2)
           (try clear hk)
           (try clear hi)
           (try clear gE)
           obtain ⟨NM,NN,P5⟩:=Kd.da Wp.out
           (first|subst P5|(injection P5 with mY rD mZ;have rE:=mY.symm;have rF:=mZ.symm;clear mY rD mZ;subst rE;subst rF))
           refine hK.out _ _ ⟨((HB.out.cell (dA w _ lI)).trans lI),((HB.out.cell (dA w _ lJ)).trans lJ),((HB.out.cell (dA w _ lK)).trans lK),((HB.out.cell (dA w _ lM)).trans lM),((HB.out.cell (dA w _ lN)).trans lN),((HB.out.cell (dA w _ lO)).trans lO),((HB.out.cell (dA w _ lP)).trans lP),((HB.out.cell (dA w _ lQ)).trans lQ)⟩ (fun hHeld=> ?_);clear hK K;refine nz 48 ?_;refine pz 41 49 az ?_;refine oz 42 (none) az (fun K hK=> ?_);have ApB:=cs5 nA.out;have All:=ae nA.out;refine wJ (w1:= ?_) (by rfl) rfl ?_ ?_
           rotate_left
           ·go_simp
            rfl
           refine hK.out _ _ ⟨((cell_far (p:=⟨gI,_,none⟩) (by first|exact eD lI eA.out|exact eE lI eA.out) _).trans (((cell_far (p:=⟨gI,_,none⟩) (by first|exact eD lI eA.out|exact eE lI eA.out) _).trans (((cell_far (p:=⟨gI,_,none⟩) (by first|exact eD lI eA.out|exact eE lI eA.out) _).trans (((cell_far (p:=⟨gI,_,none⟩) (by first|exact eD lI eA.out|exact eE lI eA.out) _).trans (((cell_far (p:=⟨gI,_,none⟩) (by first|exact eD lI eA.out|exact eE lI eA.out) _).trans (hHeld.1)))))))))),((cell_far (p:=⟨gI,_,none⟩) (by first|exact eD lJ eA.out|exact eE lJ eA.out) _).trans (((cell_far (p:=⟨gI,_,none⟩) (by first|exact eD lJ eA.out|exact eE lJ eA.out) _).trans (((cell_far (p:=⟨gI,_,none⟩) (by first|exact eD lJ eA.out|exact eE lJ eA.out) _).trans (((cell_far (p:=⟨gI,_,none⟩) (by first|exact eD lJ eA.out|exact eE lJ eA.out) _).trans (((cell_far (p:=⟨gI,_,none⟩) (by first|exact eD lJ eA.out|exact eE lJ eA.out) _).trans (hHeld.2.1)))))))))),((cell_far (p:=⟨gI,_,none⟩) (by first|exact eD lK eA.out|exact eE lK eA.out) _).trans (((cell_far (p:=⟨gI,_,none⟩) (by first|exact eD lK eA.out|exact eE lK eA.out) _).trans (((cell_far (p:=⟨gI,_,none⟩) (by first|exact eD lK eA.out|exact eE lK eA.out) _).trans (((cell_far (p:=⟨gI,_,none⟩) (by first|exact eD lK eA.out|exact eE lK eA.out) _).trans (((cell_far (p:=⟨gI,_,none⟩) (by first|exact eD lK eA.out|exact eE lK eA.out) _).trans (hHeld.2.2.1)))))))))),((cell_far (p:=⟨gI,_,none⟩) (by first|exact eD lM eA.out|exact eE lM eA.out) _).trans (((cell_far (p:=⟨gI,_,none⟩) (by first|exact eD lM eA.out|exact eE lM eA.out) _).trans (((cell_far (p:=⟨gI,_,none⟩) (by first|exact eD lM eA.out|exact eE lM eA.out) _).trans (((cell_far (p:=⟨gI,_,none⟩) (by first|exact eD lM eA.out|exact eE lM eA.out) _).trans (((cell_far (p:=⟨gI,_,none⟩) (by first|exact eD lM eA.out|exact eE lM eA.out) _).trans (hHeld.2.2.2.1)))))))))),((cell_far (p:=⟨gI,_,none⟩) (by first|exact eD lN eA.out|exact eE lN eA.out) _).trans (((cell_far (p:=⟨gI,_,none⟩) (by first|exact eD lN eA.out|exact eE lN eA.out) _).trans (((cell_far (p:=⟨gI,_,none⟩) (by first|exact eD lN eA.out|exact eE lN eA.out) _).trans (((cell_far (p:=⟨gI,_,none⟩) (by first|exact eD lN eA.out|exact eE lN eA.out) _).trans (((cell_far (p:=⟨gI,_,none⟩) (by first|exact eD lN eA.out|exact eE lN eA.out) _).trans (hHeld.2.2.2.2.1)))))))))),((cell_far (p:=⟨gI,_,none⟩) (by first|exact eD lO eA.out|exact eE lO eA.out) _).trans (((cell_far (p:=⟨gI,_,none⟩) (by first|exact eD lO eA.out|exact eE lO eA.out) _).trans (((cell_far (p:=⟨gI,_,none⟩) (by first|exact eD lO eA.out|exact eE lO eA.out) _).trans (((cell_far (p:=⟨gI,_,none⟩) (by first|exact eD lO eA.out|exact eE lO eA.out) _).trans (((cell_far (p:=⟨gI,_,none⟩) (by first|exact eD lO eA.out|exact eE lO eA.out) _).trans (hHeld.2.2.2.2.2.1)))))))))),((cell_far (p:=⟨gI,_,none⟩) (by first|exact eD lP eA.out|exact eE lP eA.out) _).trans (((cell_far (p:=⟨gI,_,none⟩) (by first|exact eD lP eA.out|exact eE lP eA.out) _).trans (((cell_far (p:=⟨gI,_,none⟩) (by first|exact eD lP eA.out|exact eE lP eA.out) _).trans (((cell_far (p:=⟨gI,_,none⟩) (by first|exact eD lP eA.out|exact eE lP eA.out) _).trans (((cell_far (p:=⟨gI,_,none⟩) (by first|exact eD lP eA.out|exact eE lP eA.out) _).trans (hHeld.2.2.2.2.2.2.1)))))))))),((cell_far (p:=⟨gI,_,none⟩) (by first|exact eD lQ eA.out|exact eE lQ eA.out) _).trans (((cell_far (p:=⟨gI,_,none⟩) (by first|exact eD lQ eA.out|exact eE lQ eA.out) _).trans (((cell_far (p:=⟨gI,_,none⟩) (by first|exact eD lQ eA.out|exact eE lQ eA.out) _).trans (((cell_far (p:=⟨gI,_,none⟩) (by first|exact eD lQ eA.out|exact eE lQ eA.out) _).trans (((cell_far (p:=⟨gI,_,none⟩) (by first|exact eD lQ eA.out|exact eE lQ eA.out) _).trans (hHeld.2.2.2.2.2.2.2))))))))))⟩ (fun hHeld=> ?_)
           clear hK K;refine pz 43 3 az ?_;refine dz az ?_
           try go_wp2
           refine bodyPost_ret (fC rfl _ _ gI 101 #[.int .u8 (rd l0 0),.int .u8 (rd l0 1),.int .u16 (Go.bits .or .u16 (IntKind.u16.wrap ((IntKind.u16.wrap (rd l0 2))*256)) (IntKind.u16.wrap (rd l0 3))),.int .u32 (Go.bits .or .u32 (Go.bits .or .u32 (Go.bits .or .u32 ((((rd l0 4) % 4294967296)*16777216) % 4294967296) ((((rd l0 5) % 4294967296)*65536) % 4294967296)) ((((rd l0 6) % 4294967296)*256) % 4294967296)) ((rd l0 7) % 4294967296)),.slice NM KC.length NN] (0,0) _ rfl (by (with_reducible repeat (first|refine aN ?_ _|refine aK ?_|refine aM ?_ _));refine bM (cs:= #[.int .u8 (rd l0 0),.int .u8 (rd l0 1),.int .u16 (Go.bits .or .u16 (IntKind.u16.wrap ((IntKind.u16.wrap (rd l0 2))*256)) (IntKind.u16.wrap (rd l0 3))),.int .u32 (Go.bits .or .u32 (Go.bits .or .u32 (Go.bits .or .u32 ((((rd l0 4) % 4294967296)*16777216) % 4294967296) ((((rd l0 5) % 4294967296)*65536) % 4294967296)) ((((rd l0 6) % 4294967296)*256) % 4294967296)) ((rd l0 7) % 4294967296)),.slice none 0 0]) ?_ 4 _ rfl;(with_reducible repeat (first|refine aN ?_ _|refine aK ?_|refine aM ?_ _));refine bM (cs:= #[.int .u8 (rd l0 0),.int .u8 (rd l0 1),.int .u16 (Go.bits .or .u16 (IntKind.u16.wrap ((IntKind.u16.wrap (rd l0 2))*256)) (IntKind.u16.wrap (rd l0 3))),.int .u32 0,.slice none 0 0]) ?_ 3 _ rfl;(with_reducible repeat (first|refine aN ?_ _|refine aK ?_|refine aM ?_ _));refine bM (cs:= #[.int .u8 (rd l0 0),.int .u8 (rd l0 1),.int .u16 0,.int .u32 0,.slice none 0 0]) ?_ 2 _ rfl;(with_reducible repeat (first|refine aN ?_ _|refine aK ?_|refine aM ?_ _));refine bM (cs:= #[.int .u8 (rd l0 0),.int .u8 0,.int .u16 0,.int .u32 0,.slice none 0 0]) ?_ 1 _ rfl;(with_reducible repeat (first|refine aN ?_ _|refine aK ?_|refine aM ?_ _));refine bM (cs:= #[.int .u8 0,.int .u8 0,.int .u16 0,.int .u32 0,.slice none 0 0]) ?_ 0 _ rfl;(with_reducible repeat (first|refine aN ?_ _|refine aK ?_|refine aM ?_ _));exact nA.out) Try.underlying101 rfl (by kernel_rfl)) rfl ?_
           exact ⟨_,by first|rfl|(simp [aj,ak]<;>rfl)|(simp [*,aj,ak]<;>rfl),by (with_reducible repeat (first|apply Kd.eX|apply Kd.eT|apply Kd.eY));exact Kd.dm (Kd.eF (p:=⟨gI,4,none⟩) (Kd.eF (p:=⟨gI,3,none⟩) (Kd.eF (p:=⟨gI,2,none⟩) (Kd.eF (p:=⟨gI,1,none⟩) (Kd.eF (p:=⟨gI,0,none⟩) (Kd.mL Wp.out nA.out (by decide)) (fun _ hk=>hk.2) (.int .u8 (rd l0 0))) (fun _ hk=>hk.2) (.int .u8 (rd l0 1))) (fun _ hk=>hk.2) (.int .u16 (Go.bits .or .u16 (IntKind.u16.wrap ((IntKind.u16.wrap (rd l0 2))*256)) (IntKind.u16.wrap (rd l0 3))))) (fun _ hk=>hk.2) (.int .u32 (Go.bits .or .u32 (Go.bits .or .u32 (Go.bits .or .u32 ((((rd l0 4) % 4294967296)*16777216) % 4294967296) ((((rd l0 5) % 4294967296)*65536) % 4294967296)) ((((rd l0 6) % 4294967296)*256) % 4294967296)) ((rd l0 7) % 4294967296)))) (fun _ hk=>hk.2) (.slice NM KC.length NN)) (fun _ hk=>trivial),bz HB⟩
          ·rw [ax NL] at H
           cases H
         ·rw [ax uO] at H
          cases H
        ·rw [ax ru] at H
         cases H
       ·rw [ax Ba] at H
        cases H
      ·rw [ax c9] at H
       cases H
     ·rw [ax c8] at H
      cases H
    ·rw [ax c7] at H
     cases H
   ·rw [ax c6] at H
    cases H
  ·rw [ax c5] at H
   cases H
def lF.f (a0:Int):Option (Int):=if a0=0 then (some 8) else (if a0=8 then (some 8) else (if a0=3 then (some 3) else (if a0=11 then (some 3) else (if a0=12 then (some 3) else (some (-1))))))
theorem lF.calls (a0:Int) (r:Int) (w:World) (h:lF.f a0=some r):
  Calls Try.prog 125 #[.int .u8 a0] w fun e w'=>e= .returned (.int .i64 r) /\ bF w w':=by
 have H:(if a0=0 then (some 8) else (if a0=8 then (some 8) else (if a0=3 then (some 3) else (if a0=11 then (some 3) else (if a0=12 then (some 3) else (some (-1)))))))=some r:=h;clear h
 by_cases c2:a0=0
 ·rw [au c2] at H
  have kg:(a0==0)=true:=fH c2;have mG:(a0 !=0)=false:=kO c2;clear c2;obtain rfl:=cS H
  go_enter Try.func125,Try.ntmps125
  go_wp2
  go_ret
  exact ⟨by first|rfl|(simp;done)|(simp [*];done),by repeat (first|exact bF.refl _|apply bF.step)⟩
 ·rw [ax c2] at H
  have kg:(a0==0)=false:=fc c2;have mG:(a0 !=0)=true:=lA c2
  by_cases c3:a0=8
  ·rw [au c3] at H
   have oY:(a0==8)=true:=fH c3;have qP:(a0 !=8)=false:=kO c3;clear c3;obtain rfl:=cS H
   go_enter Try.func125,Try.ntmps125
   go_wp2
   go_ret
   exact ⟨by first|rfl|(simp;done)|(simp [*];done),by repeat (first|exact bF.refl _|apply bF.step)⟩
  ·rw [ax c3] at H
   have oY:(a0==8)=false:=fc c3;have qP:(a0 !=8)=true:=lA c3
   by_cases c4:a0=3
   ·rw [au c4] at H
    have mH:(a0==3)=true:=fH c4;have xQ:(a0 !=3)=false:=kO c4;clear c4;obtain rfl:=cS H
    go_enter Try.func125,Try.ntmps125
    go_wp2
    go_ret
    exact ⟨by first|rfl|(simp;done)|(simp [*];done),by repeat (first|exact bF.refl _|apply bF.step)⟩
   ·rw [ax c4] at H
    have mH:(a0==3)=false:=fc c4;have xQ:(a0 !=3)=true:=lA c4
    by_cases c5:a0=11
    ·rw [au c5] at H
     have mS:(a0==11)=true:=fH c5;have qz:(a0 !=11)=false:=kO c5;clear c5;obtain rfl:=cS H
     go_enter Try.func125,Try.ntmps125
     go_wp2
     go_ret
     exact ⟨by first|rfl|(simp;done)|(simp [*];done),by repeat (first|exact bF.refl _|apply bF.step)⟩
    ·rw [ax c5] at H
     have mS:(a0==11)=false:=fc c5;have qz:(a0 !=11)=true:=lA c5
     by_cases c6:a0=12
     ·rw [au c6] at H
      have sG:(a0==12)=true:=fH c6;have Il:(a0 !=12)=false:=kO c6;clear c6;obtain rfl:=cS H
      go_enter Try.func125,Try.ntmps125
      go_wp2
      go_ret
      exact ⟨by first|rfl|(simp;done)|(simp [*];done),by repeat (first|exact bF.refl _|apply bF.step)⟩
     ·rw [ax c6] at H
      have sG:(a0==12)=false:=fc c6;have Il:(a0 !=12)=true:=lA c6;obtain rfl:=cS H
      go_enter Try.func125,Try.ntmps125
      go_wp2
      go_ret
      exact ⟨by first|rfl|(simp;done)|(simp [*];done),by repeat (first|exact bF.refl _|apply bF.step)⟩
def kL.f (aV:Int) (bh:Int) (bp:Int) (bw:Int) (cA:List Int):Option (Bool):=(lF.f aV).bind fun CD=>(if CD=8 then (some (bh==0)) else (some false))
theorem kL.calls (aV:Int) (bh:Int) (bp:Int) (bw:Int) (fE:Option Addr) (fF:Nat) (cA:List Int) (r:Bool) (w:World) (jU:Kd.C (Kd.int .u8) w fE cA.length cA) (jV:cA.length<=fF) (h:kL.f aV bh bp bw cA=some r):
  Calls Try.prog 105 #[.agg #[.int .u8 aV,.int .u8 bh,.int .u16 bp,.int .u32 bw,.slice fE cA.length fF]] w fun e w'=>e= .returned (.bool r) /\ Below w.heap.size w w':=by
 have ny:=Try.underlying101;have oh:=aa.mk jU;have o7:=aa.mk jV;clear jU jV;have HB:=gj w;have H:((lF.f aV).bind fun CD=>(if CD=8 then (some (bh==0)) else (some false)))=some r:=h;clear h;replace H:=cZ H;obtain ⟨CD,uJ,H⟩:=H
 (try dsimp -simprocs only at H)
 have A2:=aa.mk uJ;clear uJ
 by_cases c3:CD=8
 ·rw [au c3] at H
  have oY:(CD==8)=true:=fH c3;have qP:(CD !=8)=false:=kO c3;clear c3;obtain rfl:=cS H
  go_enter Try.func105,Try.ntmps105
  go_wp2_with (first|((with_reducible refine aA (N:=1) rfl ?_);refine aC ?hg (N:=1) ?hd (cs:= #[.int .u8 aV,.int .u8 bh,.int .u16 bp,.int .u32 bw,.slice fE cA.length fF]) (t:=101) ?hr ?_;(case hd=>rfl);(case hg=>rfl);(case hr=>first|(go_simp;done)|(go_simp;rfl));intro sH hg w4 bK hb;have aJ:=aa.mk (aq (bz HB) hb);have aQ:=aa.mk (bK);have bt:=aa.mk ((by rw [hg];exact (af (bz HB)):w.heap.size<=sH));have cr:=aa.mk ((by rw [hg];exact (af (bz HB)):w.heap.size<=sH));clear HB;have HB:=aJ;have oO:=aQ;have AdH:=bt;have AdI:=cr;clear aJ aQ bt cr;clear hb bK hg;have Alm:w4.cell? ⟨sH,0,none⟩=some (.int .u8 aV):=cz oO.out 0 rfl;have Aln:w4.cell? ⟨sH,1,none⟩=some (.int .u8 bh):=cz oO.out 1 rfl;have Alo:w4.cell? ⟨sH,2,none⟩=some (.int .u16 bp):=cz oO.out 2 rfl;have Alp:w4.cell? ⟨sH,3,none⟩=some (.int .u32 bw):=cz oO.out 3 rfl;have Alq:w4.cell? ⟨sH,4,none⟩=some (.slice fE cA.length fF):=cz oO.out 4 rfl;have Alr:=ae oO.out 0;have Als:=ae oO.out 1;have Alu:=ae oO.out 2;have Alv:=ae oO.out 3;have Alw:=ae oO.out 4)|((with_reducible refine ay (f:=125) rfl ?_);refine gL 5 Try.func125 #[.int .u8 aV] ?_;(with_reducible refine (lF.calls aV CD _ A2.out).mono ?_);rintro e w' ⟨rfl,⟨nd,rfl⟩⟩;refine ⟨_,rfl, ?_⟩))
  go_ret
  exact ⟨by first|rfl|(simp [aj,ak]<;>rfl)|(simp [*,aj,ak]<;>rfl),bz HB⟩
 ·rw [ax c3] at H
  have oY:(CD==8)=false:=fc c3;have qP:(CD !=8)=true:=lA c3;obtain rfl:=cS H
  go_enter Try.func105,Try.ntmps105
  go_wp2_with (first|((with_reducible refine aA (N:=1) rfl ?_);refine aC ?hg (N:=1) ?hd (cs:= #[.int .u8 aV,.int .u8 bh,.int .u16 bp,.int .u32 bw,.slice fE cA.length fF]) (t:=101) ?hr ?_;(case hd=>rfl);(case hg=>rfl);(case hr=>first|(go_simp;done)|(go_simp;rfl));intro sH hg w6 bK hb;have aJ:=aa.mk (aq (bz HB) hb);have aQ:=aa.mk (bK);have bt:=aa.mk ((by rw [hg];exact (af (bz HB)):w.heap.size<=sH));have cr:=aa.mk ((by rw [hg];exact (af (bz HB)):w.heap.size<=sH));clear HB;have HB:=aJ;have oO:=aQ;have AdH:=bt;have AdI:=cr;clear aJ aQ bt cr;clear hb bK hg;have tW:w6.cell? ⟨sH,0,none⟩=some (.int .u8 aV):=cz oO.out 0 rfl;have tX:w6.cell? ⟨sH,1,none⟩=some (.int .u8 bh):=cz oO.out 1 rfl;have tY:w6.cell? ⟨sH,2,none⟩=some (.int .u16 bp):=cz oO.out 2 rfl;have tZ:w6.cell? ⟨sH,3,none⟩=some (.int .u32 bw):=cz oO.out 3 rfl;have uX:w6.cell? ⟨sH,4,none⟩=some (.slice fE cA.length fF):=cz oO.out 4 rfl;have ua:=ae oO.out 0;have uf:=ae oO.out 1;have ug:=ae oO.out 2;have uh:=ae oO.out 3;have uY:=ae oO.out 4)|((with_reducible refine ay (f:=125) rfl ?_);refine gL 5 Try.func125 #[.int .u8 aV] ?_;(with_reducible refine (lF.calls aV CD _ A2.out).mono ?_);rintro e w' ⟨rfl,⟨nd,rfl⟩⟩;refine ⟨_,rfl, ?_⟩))
  go_ret
  exact ⟨by first|rfl|(simp [aj,ak]<;>rfl)|(simp [*,aj,ak]<;>rfl),bz HB⟩
def fV.f (l0:List Int):Option (Bool):=if 0<(l0.length:Int) then (if 1<(l0.length:Int) then ((kL.f (rd l0 0) (rd l0 1) 0 0 ([]:List Int)).bind fun P6=>(some P6)) else (none)) else (none)
def fV.T1:Bool×List (List Nat×List Nat):=(true,[([],[]),([0],[0]),([1],[1]),([],[]),([3],[3]),([4],[4]),([2,5],[2,5]),([6],[6]),([7,7,0,1,2,3,4,5,6,7],[7])])
def fV.B1:List Nat:=[0,1,3,0,8,24,63,127,255]
theorem fV.Zn:gS .any (opsOf Try.f114 1)=fV.T1:=by kernel_rfl
theorem fV.P7:dN fV.T1.2 fV.B1=true:=by kernel_rfl
theorem fV.calls (A0:Option Addr) (c0:Nat) (l0:List Int) (r:Bool) (w:World) (hr0:Kd.C (Kd.int .u8) w A0 l0.length l0) (hc0:l0.length<=c0) (h:fV.f l0=some r):
  Calls Try.prog 114 #[.slice A0 l0.length c0] w fun e w'=>e= .returned (.bool r) /\ Below w.heap.size w w':=by
 have ny:=Try.underlying101;have gh:=aa.mk hr0;have jC:=aa.mk hc0;clear hr0 hc0;have HB:=gj w;have H:(if 0<(l0.length:Int) then (if 1<(l0.length:Int) then ((kL.f (rd l0 0) (rd l0 1) 0 0 ([]:List Int)).bind fun P6=>(some P6)) else (none)) else (none))=some r:=h;clear h
 by_cases c2:0<(l0.length:Int)
 ·rw [au c2] at H
  have kg:decide (0<(l0.length:Int))=true:=bS c2;have mG:decide (0<l0.length)=true:=bS (by omega);clear c2
  by_cases c3:1<(l0.length:Int)
  ·rw [au c3] at H
   have oY:decide (1<(l0.length:Int))=true:=bS c3;have qP:decide (1<l0.length)=true:=bS (by omega);clear c3;replace H:=cZ H;obtain ⟨P6,qA,H⟩:=H
   (try dsimp -simprocs only at H)
   have A4:=aa.mk qA;clear qA;obtain rfl:=cS H
   go_enter Try.func114,Try.ntmps114
   try go_wp2
   have aJ:=aa.mk (bf HB.out);clear HB;have HB:=aJ;clear aJ;have Zo:0<=(0:Int):=(by omega)
   have Zp:0<(l0.length:Int):=gD;obtain ⟨Ms,Alx,uZ⟩:=Kd.dB gh.out 0 Zo Zp;have vk:=uZ
   (try rw [show ((0:Int)).toNat=0 from rfl] at vk)
   (try rw [show 0*1=0 from rfl] at vk)
   (try rw [Addr.add_zero'] at vk)
   cases Alx
   have ApC:(0<l0.length)=True:=eq_true (by omega)
   (try rw [show ((0:Int)).toNat=0 from rfl] at uZ)
   (try rw [Addr.add_zero'] at uZ)
   replace uZ:=(HB.out.cell (dA w _ uZ)).trans uZ;replace Zo:=eq_true Zo;replace Zp:=eq_true Zp;have Zq:0<=(1:Int):=(by omega)
   have Zr:1<(l0.length:Int):=gD;obtain ⟨AdJ,Aly,vn⟩:=Kd.dB gh.out 1 Zq Zr;have vp:=vn
   (try rw [show ((1:Int)).toNat=1 from rfl] at vp)
   (try rw [show 1*1=1 from rfl] at vp)
   (try simp only [Nat.reduceMul,Nat.reduceEqDiff,Go.Addr.add,↓reduceIte] at vp)
   obtain rfl:Ms=AdJ:=(by injection Aly)
   (try simp only [show (1:Int).toNat=1 from rfl,Nat.reduceMul,Nat.reduceEqDiff,Go.Addr.add,↓reduceIte] at vn)
   have ApD:(1<l0.length)=True:=eq_true (by omega)
   (try rw [show ((1:Int)).toNat=1 from rfl] at vn)
   replace vn:=(HB.out.cell (dA w _ vn)).trans vn;replace Zq:=eq_true Zq;replace Zr:=eq_true Zr;refine dg (n:=9) (S:=fun w'=>w'.cell? Ms=some (.int .u8 (rd l0 0)) /\ w'.cell? ⟨Ms.block,Ms.off+1,none⟩=some (.int .u8 (rd l0 1))) (ds:=[]) #[false,false,false,false,false,false,false,false,false] (by kernel_rfl) rfl rfl ⟨((HB.out.cell (dA w _ vk)).trans vk),((HB.out.cell (dA w _ vp)).trans vp)⟩ (fun hHeld=> ?_);refine bH fV.Zn fV.P7 (fun az dW=> ?_);generalize w.drew=w5 at HB uZ vn hHeld|-
   refine pz 0 3 az ?_;refine pz 1 4 az ?_;refine pz 3 6 az ?_;refine pz 4 7 az ?_;refine gK (i:=2) (N:=some 5) (v:= ?_) (a':= ?_) #[true,true,true,true,true,false,false,false,false] rfl rfl (dn az.out dW.out (by kernel_rfl)) (fun _ _ _ h=>h) (Or.inl ⟨by rfl, ?_⟩) hHeld ?_ ?_
   rotate_left
   ·rintro w' ⟨s0,s1⟩
    go_simp
    with_reducible rfl
   rotate_left
   ·simp only [pL]
    rfl
   refine gK (i:=5) (N:=some 8) (v:= ?_) (a':= ?_) #[true,true,true,true,true,true,false,false,false] rfl rfl (dn az.out dW.out (by kernel_rfl)) (fun _ _ _ h=>h) (Or.inl ⟨by rfl, ?_⟩) hHeld ?_ ?_
   rotate_left
   ·rintro w' ⟨s0,s1⟩
    go_simp
    with_reducible rfl
   rotate_left
   ·simp only [pL]
    rfl
   refine pz 6 9 az ?_;refine oz 7 (some 10) az (fun K hK=> ?_);refine gG Try.func105 #[.agg #[.int .u8 (rd l0 0),.int .u8 (rd l0 1),.int .u16 0,.int .u32 0,.slice none 0 0]] ?_;refine (kL.calls (rd l0 0) (rd l0 1) 0 0 _ _ ([]:List Int) P6 _ ?aG ?aH A4.out).mono ?_
   (case aG=>exact Kd.Cs _ _)
   (case aH=>exact Nat.le_refl _)
   rintro e w6 ⟨rfl,hb⟩;refine ⟨_,rfl, ?_⟩;have aJ:=aa.mk (aq (bz HB) hb);clear HB;have HB:=aJ;clear aJ
   (try clear hb)
   (try clear hb2)
   (try clear hk)
   (try clear hi)
   refine hK.out _ _ ⟨((HB.out.cell (dA w _ vk)).trans vk),((HB.out.cell (dA w _ vp)).trans vp)⟩ (fun hHeld=> ?_);clear hK K;refine nz 10 ?_;refine pz 8 2 az ?_;refine dz az ?_
   try go_wp2
   go_ret
   exact ⟨by first|rfl|(simp [aj,ak]<;>rfl)|(simp [*,aj,ak]<;>rfl),bz HB⟩
  ·rw [ax c3] at H
   cases H
 ·rw [ax c2] at H
  cases H
theorem oZ.Zs (a t i fl dM s d:Int) (Ao:Option Addr) (no co:Nat) (Ab:Option Addr) (cb:Nat) (b:List Int) (us ud uc e_:Int) (ub:List Int) (w:World) (hb:Kd.C (Kd.int .u8) w Ab b.length b) (hc:b.length<=cb) (hp:jj.f b=some (us,ud,uc,ub,e_)):
  Calls Try.prog 103 #[.agg #[.int .u8 a,.int .u8 t,.int .u8 17,.int .u16 i,.int .u8 fl,.int .u16 dM,.int .u32 s,.int .u32 d,.slice Ao no co,.slice Ab b.length cb]] w fun e w'=>∃ v3:Value,e= .returned (.tuple #[.iface 179 (.agg #[.int .u16 us,.int .u16 ud,.int .u16 uc,v3]),.int .i64 e_]) /\ Kd.R (Kd.int .u8) 5 w' w.heap.size (fun _=>True) v3 ub /\ Below w.heap.size w w':=by
 have Ip:=aa.mk hb;have Wq:=aa.mk hc;have HB:=gj w;have eI:aa ((Try.prog.info? 73).map (·.size)=some 10):=⟨by kernel_rfl⟩
 have qB:aa ((Try.prog.info? 83).map (·.size)=some 4):=⟨by kernel_rfl⟩
 have jT:aa ((Try.prog.info? 137).map (·.size)=some 10):=⟨by kernel_rfl⟩
 have ja:aa ((Try.prog.info? 101).map (·.size)=some 5):=⟨by kernel_rfl⟩
 have HP:=aa.mk hp;clear hp;clear hb hc
 go_enter Try.func103,Try.ntmps103
 go_upto_region 1 with (((with_reducible refine aA (N:=1) rfl ?_);refine Kd.bL rfl (v:= .pointer (some ⟨w.heap.size,0,none⟩)) (w1:=w.alloc (.cells #[.int .u8 a,.int .u8 t,.int .u8 17,.int .u16 i,.int .u8 fl,.int .u16 dM,.int .u32 s,.int .u32 d,.slice Ao no co,.slice Ab b.length cb] 73)) (by first|(go_simp;done)|(go_simp;rfl)) ?_))
 obtain ⟨gp,BQ⟩:∃ x_,x_=w.heap.size:=⟨_,rfl⟩
 have aT:aa ((w.alloc (.cells #[.int .u8 a,.int .u8 t,.int .u8 17,.int .u16 i,.int .u8 fl,.int .u16 dM,.int .u32 s,.int .u32 d,.slice Ao no co,.slice Ab b.length cb] 73)).heap[gp]?=some (.cells #[.int .u8 a,.int .u8 t,.int .u8 17,.int .u16 i,.int .u8 fl,.int .u16 dM,.int .u32 s,.int .u32 d,.slice Ao no co,.slice Ab b.length cb] 73 (0,0))):=⟨by rw [BQ];exact iX _ _⟩
 have lE:=aa.mk (show w.heap.size<=gp by rw [BQ];exact af HB.out);rw [<- BQ];clear BQ;have ah:=dX (Below.refl w.heap.size w) (.cells #[.int .u8 a,.int .u8 t,.int .u8 17,.int .u16 i,.int .u8 fl,.int .u16 dM,.int .u32 s,.int .u32 d,.slice Ao no co,.slice Ab b.length cb] 73);replace HB:=mB HB ah;replace Ip:=mC Ip ah;clear ah;generalize (w.alloc (.cells #[.int .u8 a,.int .u8 t,.int .u8 17,.int .u16 i,.int .u8 fl,.int .u16 dM,.int .u32 s,.int .u32 d,.slice Ao no co,.slice Ab b.length cb] 73))=w1 at aT HB Ip|-
 have nl:=cz aT.out 2 rfl;have ux:=cz aT.out 9 rfl
 go_wp2_with fail
 clear nl ux;refine (jj.calls Ab cb b us ud uc ub e_ _ Ip.out Wq.out HP.out).mono ?_;rintro ev w2 ⟨v3,rfl,ho3,hb⟩;have HR3:=lD ho3 HB;obtain ⟨A3,c3,rfl,_,_⟩:=Kd.bW ho3;clear ho3;clear HP Ip Wq aT lE;have ah:=hb;replace HB:=mB HB ah;clear ah;clear hb
 (try dsimp only)
 go_upto_region 4 with ((first|(refine mQ rfl rfl (tS rfl rfl rfl qB.out rfl (by simp [Value.oneCell'])) ?_)))
 obtain ⟨gu,FN⟩:∃ x_,x_=w2.heap.size:=⟨_,rfl⟩
 have bR:aa ((w2.alloc (.cells #[.int .u16 us,.int .u16 ud,.int .u16 uc,.slice A3 ub.length c3] 83)).heap[gu]?=some (.cells #[.int .u16 us,.int .u16 ud,.int .u16 uc,.slice A3 ub.length c3] 83 (0,0))):=⟨by rw [FN];exact iX _ _⟩
 have lR:=aa.mk (show w.heap.size<=gu by rw [FN];exact af HB.out);rw [<- FN];clear FN;have ah:=dX (Below.refl w2.heap.size w2) (.cells #[.int .u16 us,.int .u16 ud,.int .u16 uc,.slice A3 ub.length c3] 83);replace HB:=mB HB ah;replace HR3:=mR HR3 ah;clear ah;generalize (w2.alloc (.cells #[.int .u16 us,.int .u16 ud,.int .u16 uc,.slice A3 ub.length c3] 83))=w3 at bR HB HR3|-
 go_wp2_with (refine Kd.bL rfl (br rfl rfl bR.out Try.underlying83 rfl qB.out) ?_)
 (try simp only [Exit.inBlock,Exit.then])
 go_ret2
 exact ⟨_,rfl,HR3.out,HB.out⟩
theorem oZ.Zt (a t i fl dM s d:Int) (Ao:Option Addr) (no co:Nat) (Ab:Option Addr) (cb:Nat) (b:List Int) (ts td tq ta tf tw tc tu e_:Int) (nf tb:List Int) (w:World) (hb:Kd.C (Kd.int .u8) w Ab b.length b) (hc:b.length<=cb) (hp:nW.f b=some (ts,td,tq,ta,tf,tw,tc,tu,nf,tb,e_)):
  Calls Try.prog 103 #[.agg #[.int .u8 a,.int .u8 t,.int .u8 6,.int .u16 i,.int .u8 fl,.int .u16 dM,.int .u32 s,.int .u32 d,.slice Ao no co,.slice Ab b.length cb]] w fun e w'=>∃ v8 v9:Value,e= .returned (.tuple #[.iface 181 (.agg #[.int .u16 ts,.int .u16 td,.int .u32 tq,.int .u32 ta,.int .u8 tf,.int .u16 tw,.int .u16 tc,.int .u16 tu,v8,v9]),.int .i64 e_]) /\ Kd.R (Kd.int .u8) 5 w' w.heap.size (fun _=>True) v8 nf /\ Kd.R (Kd.int .u8) 5 w' w.heap.size (fun _=>True) v9 tb /\ Below w.heap.size w w':=by
 have Ip:=aa.mk hb;have Wq:=aa.mk hc;have HB:=gj w;have eI:aa ((Try.prog.info? 73).map (·.size)=some 10):=⟨by kernel_rfl⟩
 have qB:aa ((Try.prog.info? 83).map (·.size)=some 4):=⟨by kernel_rfl⟩
 have jT:aa ((Try.prog.info? 137).map (·.size)=some 10):=⟨by kernel_rfl⟩
 have ja:aa ((Try.prog.info? 101).map (·.size)=some 5):=⟨by kernel_rfl⟩
 have HP:=aa.mk hp;clear hp;clear hb hc
 go_enter Try.func103,Try.ntmps103
 go_upto_region 1 with (((with_reducible refine aA (N:=1) rfl ?_);refine Kd.bL rfl (v:= .pointer (some ⟨w.heap.size,0,none⟩)) (w1:=w.alloc (.cells #[.int .u8 a,.int .u8 t,.int .u8 6,.int .u16 i,.int .u8 fl,.int .u16 dM,.int .u32 s,.int .u32 d,.slice Ao no co,.slice Ab b.length cb] 73)) (by first|(go_simp;done)|(go_simp;rfl)) ?_))
 obtain ⟨gp,BQ⟩:∃ x_,x_=w.heap.size:=⟨_,rfl⟩
 have aT:aa ((w.alloc (.cells #[.int .u8 a,.int .u8 t,.int .u8 6,.int .u16 i,.int .u8 fl,.int .u16 dM,.int .u32 s,.int .u32 d,.slice Ao no co,.slice Ab b.length cb] 73)).heap[gp]?=some (.cells #[.int .u8 a,.int .u8 t,.int .u8 6,.int .u16 i,.int .u8 fl,.int .u16 dM,.int .u32 s,.int .u32 d,.slice Ao no co,.slice Ab b.length cb] 73 (0,0))):=⟨by rw [BQ];exact iX _ _⟩
 have lE:=aa.mk (show w.heap.size<=gp by rw [BQ];exact af HB.out);rw [<- BQ];clear BQ;have ah:=dX (Below.refl w.heap.size w) (.cells #[.int .u8 a,.int .u8 t,.int .u8 6,.int .u16 i,.int .u8 fl,.int .u16 dM,.int .u32 s,.int .u32 d,.slice Ao no co,.slice Ab b.length cb] 73);replace HB:=mB HB ah;replace Ip:=mC Ip ah;clear ah;generalize (w.alloc (.cells #[.int .u8 a,.int .u8 t,.int .u8 6,.int .u16 i,.int .u8 fl,.int .u16 dM,.int .u32 s,.int .u32 d,.slice Ao no co,.slice Ab b.length cb] 73))=w1 at aT HB Ip|-
 have nl:=cz aT.out 2 rfl;have ux:=cz aT.out 9 rfl
 go_wp2_with fail
 clear nl ux;refine (nW.YQ Ab cb b ts td tq ta tf tw tc tu nf tb e_ _ Ip.out Wq.out HP.out).mono ?_;rintro ev w2 ⟨v8,v9,rfl,El,xR,hb⟩;have HR8:=lD El HB;obtain ⟨A8,c8,rfl,_,_⟩:=Kd.bW El;clear El;have HR9:=lD xR HB;obtain ⟨A9,c9,rfl,_,_⟩:=Kd.bW xR;clear xR;clear HP Ip Wq aT lE;have ah:=hb;replace HB:=mB HB ah;clear ah;clear hb
 (try dsimp only)
 go_upto_region 7 with ((first|(refine mQ rfl rfl (tS rfl rfl rfl jT.out rfl (by simp [Value.oneCell'])) ?_)))
 obtain ⟨gu,FN⟩:∃ x_,x_=w2.heap.size:=⟨_,rfl⟩
 have bR:aa ((w2.alloc (.cells #[.int .u16 ts,.int .u16 td,.int .u32 tq,.int .u32 ta,.int .u8 tf,.int .u16 tw,.int .u16 tc,.int .u16 tu,.slice A8 nf.length c8,.slice A9 tb.length c9] 137)).heap[gu]?=some (.cells #[.int .u16 ts,.int .u16 td,.int .u32 tq,.int .u32 ta,.int .u8 tf,.int .u16 tw,.int .u16 tc,.int .u16 tu,.slice A8 nf.length c8,.slice A9 tb.length c9] 137 (0,0))):=⟨by rw [FN];exact iX _ _⟩
 have lR:=aa.mk (show w.heap.size<=gu by rw [FN];exact af HB.out);rw [<- FN];clear FN;have ah:=dX (Below.refl w2.heap.size w2) (.cells #[.int .u16 ts,.int .u16 td,.int .u32 tq,.int .u32 ta,.int .u8 tf,.int .u16 tw,.int .u16 tc,.int .u16 tu,.slice A8 nf.length c8,.slice A9 tb.length c9] 137);replace HB:=mB HB ah;replace HR8:=mR HR8 ah;replace HR9:=mR HR9 ah;clear ah;generalize (w2.alloc (.cells #[.int .u16 ts,.int .u16 td,.int .u32 tq,.int .u32 ta,.int .u8 tf,.int .u16 tw,.int .u16 tc,.int .u16 tu,.slice A8 nf.length c8,.slice A9 tb.length c9] 137))=w3 at bR HB HR8 HR9|-
 go_wp2_with (refine Kd.bL rfl (br rfl rfl bR.out Try.underlying137 rfl jT.out) ?_)
 (try simp only [Exit.inBlock,Exit.then])
 go_ret2
 exact ⟨_,_,rfl,HR8.out,HR9.out,HB.out⟩
theorem oZ.TV (a t i fl dM s d:Int) (Ao:Option Addr) (no co:Nat) (Ab:Option Addr) (cb:Nat) (b:List Int) (mt mc ms mr e_:Int) (mb:List Int) (w:World) (hb:Kd.C (Kd.int .u8) w Ab b.length b) (hc:b.length<=cb) (hp:iE.f b=some (mt,mc,ms,mr,mb,e_)):
  Calls Try.prog 103 #[.agg #[.int .u8 a,.int .u8 t,.int .u8 1,.int .u16 i,.int .u8 fl,.int .u16 dM,.int .u32 s,.int .u32 d,.slice Ao no co,.slice Ab b.length cb]] w fun e w'=>∃ v4:Value,e= .returned (.tuple #[.iface 183 (.agg #[.int .u8 mt,.int .u8 mc,.int .u16 ms,.int .u32 mr,v4]),.int .i64 e_]) /\ Kd.R (Kd.int .u8) 5 w' w.heap.size (fun _=>True) v4 mb /\ Below w.heap.size w w':=by
 have Ip:=aa.mk hb;have Wq:=aa.mk hc;have HB:=gj w;have eI:aa ((Try.prog.info? 73).map (·.size)=some 10):=⟨by kernel_rfl⟩
 have qB:aa ((Try.prog.info? 83).map (·.size)=some 4):=⟨by kernel_rfl⟩
 have jT:aa ((Try.prog.info? 137).map (·.size)=some 10):=⟨by kernel_rfl⟩
 have ja:aa ((Try.prog.info? 101).map (·.size)=some 5):=⟨by kernel_rfl⟩
 have HP:=aa.mk hp;clear hp;clear hb hc
 go_enter Try.func103,Try.ntmps103
 go_upto_region 1 with (((with_reducible refine aA (N:=1) rfl ?_);refine Kd.bL rfl (v:= .pointer (some ⟨w.heap.size,0,none⟩)) (w1:=w.alloc (.cells #[.int .u8 a,.int .u8 t,.int .u8 1,.int .u16 i,.int .u8 fl,.int .u16 dM,.int .u32 s,.int .u32 d,.slice Ao no co,.slice Ab b.length cb] 73)) (by first|(go_simp;done)|(go_simp;rfl)) ?_))
 obtain ⟨gp,BQ⟩:∃ x_,x_=w.heap.size:=⟨_,rfl⟩
 have aT:aa ((w.alloc (.cells #[.int .u8 a,.int .u8 t,.int .u8 1,.int .u16 i,.int .u8 fl,.int .u16 dM,.int .u32 s,.int .u32 d,.slice Ao no co,.slice Ab b.length cb] 73)).heap[gp]?=some (.cells #[.int .u8 a,.int .u8 t,.int .u8 1,.int .u16 i,.int .u8 fl,.int .u16 dM,.int .u32 s,.int .u32 d,.slice Ao no co,.slice Ab b.length cb] 73 (0,0))):=⟨by rw [BQ];exact iX _ _⟩
 have lE:=aa.mk (show w.heap.size<=gp by rw [BQ];exact af HB.out);rw [<- BQ];clear BQ;have ah:=dX (Below.refl w.heap.size w) (.cells #[.int .u8 a,.int .u8 t,.int .u8 1,.int .u16 i,.int .u8 fl,.int .u16 dM,.int .u32 s,.int .u32 d,.slice Ao no co,.slice Ab b.length cb] 73);replace HB:=mB HB ah;replace Ip:=mC Ip ah;clear ah;generalize (w.alloc (.cells #[.int .u8 a,.int .u8 t,.int .u8 1,.int .u16 i,.int .u8 fl,.int .u16 dM,.int .u32 s,.int .u32 d,.slice Ao no co,.slice Ab b.length cb] 73))=w1 at aT HB Ip|-
 have nl:=cz aT.out 2 rfl;have ux:=cz aT.out 9 rfl
 go_wp2_with fail
 clear nl ux;refine (iE.calls Ab cb b mt mc ms mr mb e_ _ Ip.out Wq.out HP.out).mono ?_;rintro ev w2 ⟨v4,rfl,ho4,hb⟩;have HR4:=lD ho4 HB;obtain ⟨A4,c4,rfl,_,_⟩:=Kd.bW ho4;clear ho4;clear HP Ip Wq aT lE;have ah:=hb;replace HB:=mB HB ah;clear ah;clear hb
 (try dsimp only)
 go_upto_region 10 with ((first|(refine mQ rfl rfl (tS rfl rfl rfl ja.out rfl (by simp [Value.oneCell'])) ?_)))
 obtain ⟨gu,FN⟩:∃ x_,x_=w2.heap.size:=⟨_,rfl⟩
 have bR:aa ((w2.alloc (.cells #[.int .u8 mt,.int .u8 mc,.int .u16 ms,.int .u32 mr,.slice A4 mb.length c4] 101)).heap[gu]?=some (.cells #[.int .u8 mt,.int .u8 mc,.int .u16 ms,.int .u32 mr,.slice A4 mb.length c4] 101 (0,0))):=⟨by rw [FN];exact iX _ _⟩
 have lR:=aa.mk (show w.heap.size<=gu by rw [FN];exact af HB.out);rw [<- FN];clear FN;have ah:=dX (Below.refl w2.heap.size w2) (.cells #[.int .u8 mt,.int .u8 mc,.int .u16 ms,.int .u32 mr,.slice A4 mb.length c4] 101);replace HB:=mB HB ah;replace HR4:=mR HR4 ah;clear ah;generalize (w2.alloc (.cells #[.int .u8 mt,.int .u8 mc,.int .u16 ms,.int .u32 mr,.slice A4 mb.length c4] 101))=w3 at bR HB HR4|-
 go_wp2_with (refine Kd.bL rfl (br rfl rfl bR.out Try.underlying101 rfl ja.out) ?_)
 (try simp only [Exit.inBlock,Exit.then])
 go_ret2
 exact ⟨_,rfl,HR4.out,HB.out⟩
theorem oZ.P8 (a t i fl dM s d:Int) (Ao:Option Addr) (no co:Nat) (Ab:Option Addr) (cb:Nat) (b:List Int) (pr:Int) (w:World) (TW:¬ pr=17) (n6:¬ pr=6) (n1:¬ pr=1):
  Calls Try.prog 103 #[.agg #[.int .u8 a,.int .u8 t,.int .u8 pr,.int .u16 i,.int .u8 fl,.int .u16 dM,.int .u32 s,.int .u32 d,.slice Ao no co,.slice Ab b.length cb]] w fun e w'=>e= .returned (.tuple #[.nilIface,.int .i64 21]) /\ Below w.heap.size w w':=by
 have HB:=gj w;have AlA:(pr==17)=false:=fc TW;have AlB:(pr !=17)=true:=bne_iff_ne.2 TW;have n61:(pr==6)=false:=fc n6;have n62:(pr !=6)=true:=bne_iff_ne.2 n6;have n11:(pr==1)=false:=fc n1;have n12:(pr !=1)=true:=bne_iff_ne.2 n1;clear TW n6 n1
 go_enter Try.func103,Try.ntmps103
 go_upto_region 1 with (((with_reducible refine aA (N:=1) rfl ?_);refine Kd.bL rfl (v:= .pointer (some ⟨w.heap.size,0,none⟩)) (w1:=w.alloc (.cells #[.int .u8 a,.int .u8 t,.int .u8 pr,.int .u16 i,.int .u8 fl,.int .u16 dM,.int .u32 s,.int .u32 d,.slice Ao no co,.slice Ab b.length cb] 73)) (by first|(go_simp;done)|(go_simp;rfl)) ?_))
 obtain ⟨gp,BQ⟩:∃ x_,x_=w.heap.size:=⟨_,rfl⟩
 have aT:aa ((w.alloc (.cells #[.int .u8 a,.int .u8 t,.int .u8 pr,.int .u16 i,.int .u8 fl,.int .u16 dM,.int .u32 s,.int .u32 d,.slice Ao no co,.slice Ab b.length cb] 73)).heap[gp]?=some (.cells #[.int .u8 a,.int .u8 t,.int .u8 pr,.int .u16 i,.int .u8 fl,.int .u16 dM,.int .u32 s,.int .u32 d,.slice Ao no co,.slice Ab b.length cb] 73 (0,0))):=⟨by rw [BQ];exact iX _ _⟩
 have lE:=aa.mk (show w.heap.size<=gp by rw [BQ];exact af HB.out);rw [<- BQ];clear BQ;have ah:=dX (Below.refl w.heap.size w) (.cells #[.int .u8 a,.int .u8 t,.int .u8 pr,.int .u16 i,.int .u8 fl,.int .u16 dM,.int .u32 s,.int .u32 d,.slice Ao no co,.slice Ab b.length cb] 73);replace HB:=mB HB ah;clear ah;generalize (w.alloc (.cells #[.int .u8 a,.int .u8 t,.int .u8 pr,.int .u16 i,.int .u8 fl,.int .u16 dM,.int .u32 s,.int .u32 d,.slice Ao no co,.slice Ab b.length cb] 73))=w1 at aT HB|-
 have nl:=cz aT.out 2 rfl;have ux:=cz aT.out 9 rfl
 go_wp2
 (try simp only [Exit.inBlock,Exit.then])
 go_ret2
 exact ⟨rfl,HB.out⟩
attribute [local go_sem] dF dG eG eH cQ cR dH dI
def eB.l0:Nat ->Int ->Option (Int)
 |0,_=>none
 |k+1,x0=>if (x0 / 65536)=0 then (some (IntKind.u16.wrap (x0))) else (eB.l0 k (((Go.bits .and .u32 x0 65535)+(x0 / 65536)) % 4294967296))
def eB.f (k:Nat) (a0:Int):Option (Int):=eB.l0 k a0
theorem eB.calls (k:Nat) (a0:Int) (r:Int) (w:World) (h:eB.f k a0=some r):
  Calls Try.prog 115 #[.int .u32 a0] w fun e w'=>e= .returned (.int .u16 r) /\ bF w w':=by
 have H:(eB.l0 k a0)=some r:=h;clear h;have H':=aa.mk H;clear H
 go_enter Try.func115,Try.ntmps115
 go_wp2
 go_loopg [0] k (fun kq v0 w'=>∃ (qC:Int),v0= .int .u32 qC /\ aa (eB.l0 kq qC=some r) /\ aa (kq<=k) /\ bF w w')
 case atStart=>exact ⟨(a0),(by first|rfl|(simp;done)|(simp [*];done)),H',⟨Nat.le_refl _⟩,by repeat (first|exact bF.refl _|apply bF.step)⟩
 case round=>
  clear H';obtain ⟨qC,rfl,HA,z4,⟨m1,rfl⟩⟩:=hrel
  cases gk with
  |zero=>exact absurd HA.out (by simp [eB.l0])
  |succ k1=>
   have H:=HA.out;clear HA;simp only [eB.l0] at H
   by_cases c2:(qC / 65536)=0
   ·rw [au c2] at H
    have kg:((qC / 65536)==0)=true:=fH c2;have mG:((qC / 65536) !=0)=false:=kO c2;clear c2;obtain rfl:=cS H
    go_wp2
    go_ret
    exact ⟨by first|rfl|(simp;done)|(simp [*];done),by repeat (first|exact bF.refl _|apply bF.step)⟩
   ·rw [ax c2] at H
    have kg:((qC / 65536)==0)=false:=fc c2;have mG:((qC / 65536) !=0)=true:=lA c2;have H':=aa.mk H;clear H
    go_wp2
    go_roundg k1
    case measure=>have:=z4.out;omega
    case rel=>exact ⟨(((Go.bits .and .u32 qC 65535)+(qC / 65536)) % 4294967296),(by first|rfl|(simp;done)|(simp [*];done)),H',⟨by have:=z4.out;omega⟩,by repeat (first|exact bF.refl _|apply bF.step)⟩
def gW.l0:Nat ->List Int ->List Int ->Int ->Int ->Option (List Int)
 |0,_,_,_,_=>none
 |k+1,x0,x3,x9,BR=>if BR<x9 then (if 0<=(wrap64 (2*BR)) then (if (wrap64 (2*BR))<(x0.length:Int) then (if (wrap64 ((wrap64 (2*BR))+1))<(x0.length:Int) then (if 0<=(wrap64 ((wrap64 (2*BR))+1)) then (if x3.length<70368744177664 then (gW.l0 k x0 (x3++[Go.bits .or .u16 (IntKind.u16.wrap ((IntKind.u16.wrap (rd x0 (wrap64 (2*BR))))*256)) (IntKind.u16.wrap (rd x0 (wrap64 ((wrap64 (2*BR))+1))))]) x9 (wrap64 (BR+1))) else (none)) else (none)) else (if x3.length<70368744177664 then (gW.l0 k x0 (x3++[IntKind.u16.wrap ((IntKind.u16.wrap (rd x0 (wrap64 (2*BR))))*256)]) x9 (wrap64 (BR+1))) else (none))) else (none)) else (none)) else (some x3)
def gW.f (k:Nat) (l0:List Int):Option (List Int):=gW.l0 k l0 ([]:List Int) (wrap64 (Int.tdiv (wrap64 ((l0.length:Int)+1)) 2)) 0
theorem gW.calls (k:Nat) (A0:Option Addr) (c0:Nat) (l0:List Int) (r:List Int) (w:World) (hr0:Kd.C (Kd.int .u8) w A0 l0.length l0) (hc0:l0.length<=c0) (h:gW.f k l0=some r):
  Calls Try.prog 128 #[.slice A0 l0.length c0] w fun e w'=>∃ o6:Value,e= .returned (o6) /\ Kd.R (Kd.int .u16) 45 w' w.heap.size (fun _=>True) o6 r /\ Below w.heap.size w w':=by
 have gh:=aa.mk hr0;have jC:=aa.mk hc0;clear hr0 hc0;have HB:=gj w;have H:(gW.l0 k l0 ([]:List Int) (wrap64 (Int.tdiv (wrap64 ((l0.length:Int)+1)) 2)) 0)=some r:=h;clear h;have H':=aa.mk H;clear H
 go_enter Try.func128,Try.ntmps128
 go_wp2
 go_loopg [3,10] k (fun kq v3 v10 w'=>∃ (nC:List Int) (uy:Int),v10= .int .i64 uy /\ aa (gW.l0 kq l0 nC (wrap64 (Int.tdiv (wrap64 ((l0.length:Int)+1)) 2)) uy=some r) /\ aa (kq<=k) /\ aa (Kd.R (Kd.int .u16) 45 w' w.heap.size (fun _=>True) v3 nC) /\ aa (Below w.heap.size w w'))
 case atStart=>exact ⟨(([]:List Int)),(0),(by first|rfl|(simp;done)|(simp [*];done)),H',⟨Nat.le_refl _⟩,⟨by first|exact Kd.cl _ _ _ _ _|exact Kd.ju _ _ _ _ _|exact Kd.jv _ _ _ _ _|exact Kd.jr _ _ _ _ _|exact Kd.js _ _ _ _ _⟩,⟨bz HB⟩⟩
 case round=>
  clear H';obtain ⟨nC,uy,rfl,HA,z4,CE,HB⟩:=hrel
  cases gk with
  |zero=>exact absurd HA.out (by simp [gW.l0])
  |succ k1=>
   have H:=HA.out;clear HA;simp only [gW.l0] at H
   by_cases c2:uy<(wrap64 (Int.tdiv (wrap64 ((l0.length:Int)+1)) 2))
   ·rw [au c2] at H
    have kg:decide (uy<(wrap64 (Int.tdiv (wrap64 ((l0.length:Int)+1)) 2)))=true:=bS c2;clear c2;obtain ⟨yU,Zu⟩:∃ j_:Int,(wrap64 (2*uy))=j_:=⟨_,rfl⟩
    replace H:(if 0<=(yU) then (if (yU)<(l0.length:Int) then (if (wrap64 ((yU)+1))<(l0.length:Int) then (if 0<=(wrap64 ((yU)+1)) then (if nC.length<70368744177664 then (gW.l0 k1 l0 (nC++[Go.bits .or .u16 (IntKind.u16.wrap ((IntKind.u16.wrap (rd l0 (yU)))*256)) (IntKind.u16.wrap (rd l0 (wrap64 ((yU)+1))))]) (wrap64 (Int.tdiv (wrap64 ((l0.length:Int)+1)) 2)) (wrap64 (uy+1))) else (none)) else (none)) else (if nC.length<70368744177664 then (gW.l0 k1 l0 (nC++[IntKind.u16.wrap ((IntKind.u16.wrap (rd l0 (yU)))*256)]) (wrap64 (Int.tdiv (wrap64 ((l0.length:Int)+1)) 2)) (wrap64 (uy+1))) else (none))) else (none)) else (none))=some r:=by first|(rw [Zu] at H;exact H)|(simp only [Zu] at H|-;exact H)
    have ApE:(IntKind.i64.wrap (2*uy))=yU:=(jk _).trans Zu
    by_cases c4:0<=(yU)
    ·rw [au c4] at H
     have mH:decide (0<=(yU))=true:=bS c4;clear c4
     by_cases c5:(yU)<(l0.length:Int)
     ·rw [au c5] at H
      have mS:decide ((yU)<(l0.length:Int))=true:=bS c5;clear c5
      by_cases c6:(wrap64 ((yU)+1))<(l0.length:Int)
      ·rw [au c6] at H
       have sG:decide ((wrap64 ((yU)+1))<(l0.length:Int))=true:=bS c6;clear c6;obtain ⟨yt,zi⟩:∃ j_:Int,(wrap64 ((yU)+1))=j_:=⟨_,rfl⟩
       replace H:(if 0<=(yt) then (if nC.length<70368744177664 then (gW.l0 k1 l0 (nC++[Go.bits .or .u16 (IntKind.u16.wrap ((IntKind.u16.wrap (rd l0 (yU)))*256)) (IntKind.u16.wrap (rd l0 (yt)))]) (wrap64 (Int.tdiv (wrap64 ((l0.length:Int)+1)) 2)) (wrap64 (uy+1))) else (none)) else (none))=some r:=by first|(rw [zi] at H;exact H)|(simp only [zi] at H|-;exact H)
       (try rw [zi] at sG)
       have AdK:(IntKind.i64.wrap ((yU)+1))=yt:=(jk _).trans zi
       by_cases c8:0<=(yt)
       ·rw [au c8] at H
        have nX:decide (0<=(yt))=true:=bS c8;clear c8
        by_cases c9:nC.length<70368744177664
        ·rw [au c9] at H
         have P9:=aa.mk c9;clear c9;obtain ⟨AlC,Qa⟩:∃ y_:List Int,y_=(nC++[Go.bits .or .u16 (IntKind.u16.wrap ((IntKind.u16.wrap (rd l0 (yU)))*256)) (IntKind.u16.wrap (rd l0 (yt)))]):=⟨_,rfl⟩
         rw [<- Qa] at H
         have AdL:=aa.mk Qa;clear Qa;have H':=aa.mk H;clear H;have KE:0<=((yU):Int):=gD;have KF:(yU)<(l0.length:Int):=gD;obtain ⟨Wr,Zv,vq⟩:=Kd.dB gh.out (yU) KE KF
         cases Zv
         replace vq:=(HB.out.cell (dA w _ vq)).trans vq;replace KE:=eq_true KE;replace KF:=eq_true KF;have Zw:0<=((yt):Int):=gD;have Zx:(yt)<(l0.length:Int):=gD;obtain ⟨AdM,AlD,FO⟩:=Kd.dB gh.out (yt) Zw Zx;obtain rfl:Wr=AdM:=(by injection AlD)
         replace FO:=(HB.out.cell (dA w _ FO)).trans FO;replace Zw:=eq_true Zw;replace Zx:=eq_true Zx
         go_wp2_with (first|((with_reducible refine fo (b:= .append) (xs:= #[.tmp 35,.tmp 37]) rfl ?_);at_builtin;refine Kd.yV (Kd.int .u16) (w0:=w) w.heap.size rfl (.tmp 35) (.tmp 37) 22 45 (.int .u16 0) 2 rfl Try.underlying22 FI rfl (by decide) (by omega) u3 nC (Go.bits .or .u16 (IntKind.u16.wrap ((IntKind.u16.wrap (rd l0 (yU)))*256)) (IntKind.u16.wrap (rd l0 (yt)))) [.int .u16 (Go.bits .or .u16 (IntKind.u16.wrap ((IntKind.u16.wrap (rd l0 (yU)))*256)) (IntKind.u16.wrap (rd l0 (yt))))] (fun _=>True) (fun _=>False) rfl rfl ?aP (fun _ hk=>hk.elim) ?aF ?aO ?aB ?aS ?aL ?_;(case aP=>exact rfl);(case aB=>exact bz HB);(case aF=>exact (fun _ _=>trivial));(case aO=>exact (Kd.rz CE));(case aS=>exact (af (bz HB)));(case aL=>have:=P9.out;omega);intro AsL j4 ho hb hg hat;rw [<- AdL.out] at ho;have aJ:=aa.mk (hb);have aQ:=aa.mk (ho);clear HB;clear CE;have HB:=aJ;have AdN:=aQ;clear aJ aQ;clear ho hb hg hat))
         go_roundg k1
         case measure=>have:=z4.out;omega
         case rel=>exact ⟨(AlC),(wrap64 (uy+1)),(by first|rfl|(simp;done)|(simp [*];done)),H',⟨by have:=z4.out;omega⟩,⟨Kd.rz AdN⟩,⟨bz HB⟩⟩
        ·rw [ax c9] at H
         cases H
       ·rw [ax c8] at H
        cases H
      ·rw [ax c6] at H
       have sG:decide ((wrap64 ((yU)+1))<(l0.length:Int))=false:=gO c6;clear c6
       by_cases ru:nC.length<70368744177664
       ·rw [au ru] at H
        have Qb:=aa.mk ru;clear ru;obtain ⟨AlE,Qc⟩:∃ y_:List Int,y_=(nC++[IntKind.u16.wrap ((IntKind.u16.wrap (rd l0 (yU)))*256)]):=⟨_,rfl⟩
        rw [<- Qc] at H
        have AdO:=aa.mk Qc;clear Qc;have H':=aa.mk H;clear H;have KE:0<=((yU):Int):=gD;have KF:(yU)<(l0.length:Int):=gD;obtain ⟨Wr,Zv,vq⟩:=Kd.dB gh.out (yU) KE KF
        cases Zv
        replace vq:=(HB.out.cell (dA w _ vq)).trans vq;replace KE:=eq_true KE;replace KF:=eq_true KF
        go_wp2_with (first|((with_reducible refine fo (b:= .append) (xs:= #[.tmp 35,.tmp 37]) rfl ?_);at_builtin;refine Kd.yV (Kd.int .u16) (w0:=w) w.heap.size rfl (.tmp 35) (.tmp 37) 22 45 (.int .u16 0) 2 rfl Try.underlying22 FI rfl (by decide) (by omega) u3 nC (IntKind.u16.wrap ((IntKind.u16.wrap (rd l0 (yU)))*256)) [.int .u16 (IntKind.u16.wrap ((IntKind.u16.wrap (rd l0 (yU)))*256))] (fun _=>True) (fun _=>False) rfl rfl ?aP (fun _ hk=>hk.elim) ?aF ?aO ?aB ?aS ?aL ?_;(case aP=>exact rfl);(case aB=>exact bz HB);(case aF=>exact (fun _ _=>trivial));(case aO=>exact (Kd.rz CE));(case aS=>exact (af (bz HB)));(case aL=>have:=Qb.out;omega);intro AsM l5 ho hb hg hat;rw [<- AdO.out] at ho;have aJ:=aa.mk (hb);have aQ:=aa.mk (ho);clear HB;clear CE;have HB:=aJ;have AdP:=aQ;clear aJ aQ;clear ho hb hg hat))
        go_roundg k1
        case measure=>have:=z4.out;omega
        case rel=>exact ⟨(AlE),(wrap64 (uy+1)),(by first|rfl|(simp;done)|(simp [*];done)),H',⟨by have:=z4.out;omega⟩,⟨Kd.rz AdP⟩,⟨bz HB⟩⟩
       ·rw [ax ru] at H
        cases H
     ·rw [ax c5] at H
      cases H
    ·rw [ax c4] at H
     cases H
   ·rw [ax c2] at H
    have kg:decide (uy<(wrap64 (Int.tdiv (wrap64 ((l0.length:Int)+1)) 2)))=false:=gO c2;clear c2;obtain rfl:=cS H
    go_wp2
    go_ret
    exact ⟨_,by first|rfl|(simp [aj,ak]<;>rfl)|(simp [*,aj,ak]<;>rfl),by (with_reducible repeat (first|apply Kd.eX|apply Kd.eT|apply Kd.eY));exact CE.out,bz HB⟩
def qD.f (a0:Int) (a1:Int) (a2:Int):Option (Int×Int):=some ((IntKind.u64.wrap ((IntKind.u64.wrap ((IntKind.u64.wrap (a0))+(IntKind.u64.wrap (a1))))+(IntKind.u64.wrap (a2)))) % 4294967296,((IntKind.u64.wrap ((IntKind.u64.wrap ((IntKind.u64.wrap (a0))+(IntKind.u64.wrap (a1))))+(IntKind.u64.wrap (a2)))) / 4294967296) % 4294967296)
theorem qD.calls (a0:Int) (a1:Int) (a2:Int) (r1:Int) (r2:Int) (w:World) (h:qD.f a0 a1 a2=some (r1,r2)):
  Calls Try.prog 129 #[.int .u32 a0,.int .u32 a1,.int .u32 a2] w fun e w'=>e= .returned (.tuple #[.int .u32 r1,.int .u32 r2]) /\ bF w w':=by
 have H:(some ((IntKind.u64.wrap ((IntKind.u64.wrap ((IntKind.u64.wrap (a0))+(IntKind.u64.wrap (a1))))+(IntKind.u64.wrap (a2)))) % 4294967296,((IntKind.u64.wrap ((IntKind.u64.wrap ((IntKind.u64.wrap (a0))+(IntKind.u64.wrap (a1))))+(IntKind.u64.wrap (a2)))) / 4294967296) % 4294967296))=some (r1,r2):=h;clear h;simp only [Option.some.injEq,Prod.mk.injEq] at H
 obtain ⟨rfl,rfl⟩:=H
 go_enter Try.func129,Try.ntmps129
 go_wp2
 go_ret2
 exact ⟨by first|rfl|(simp;done)|(simp [*];done),by repeat (first|exact bF.refl _|apply bF.step)⟩
def gF.l0:Nat ->Int ->List Int ->Int ->Int ->Option (Int)
 |0,_,_,_,_=>none
 |k+1,x0,BR,FP,x12=>if x12<FP then (if 0<=x12 then (if x12<(BR.length:Int) then ((qD.f x0 ((rd BR x12) % 4294967296) 0).bind fun Ws=>(gF.l0 k ((Ws.1+Ws.2) % 4294967296) BR FP (wrap64 (x12+1)))) else (none)) else (none)) else (some x0)
def gF.f (k:Nat) (a0:Int) (l1:List Int):Option (Int):=(gW.f k l1).bind fun vu=>(gF.l0 k a0 vu (vu.length:Int) 0)
theorem gF.calls (k:Nat) (a0:Int) (A1:Option Addr) (c1:Nat) (l1:List Int) (r:Int) (w:World) (hr1:Kd.C (Kd.int .u8) w A1 l1.length l1) (hc1:l1.length<=c1) (h:gF.f k a0 l1=some r):
  Calls Try.prog 116 #[.int .u32 a0,.slice A1 l1.length c1] w fun e w'=>e= .returned (.int .u32 r) /\ Below w.heap.size w w':=by
 have HR1:=aa.mk hr1;have HC1:=aa.mk hc1;clear hr1 hc1;have HB:=gj w;have H:((gW.f k l1).bind fun vu=>(gF.l0 k a0 vu (vu.length:Int) 0))=some r:=h;clear h;replace H:=cZ H;obtain ⟨vu,wE,H⟩:=H
 (try dsimp -simprocs only at H)
 have A3:=aa.mk wE;clear wE;have H':=aa.mk H;clear H
 go_enter Try.func116,Try.ntmps116
 go_wp2_with (first|((with_reducible refine ay (f:=128) rfl ?_);refine gL 10 Try.func128 #[.slice A1 l1.length c1] ?_;(with_reducible refine (gW.calls k _ _ l1 vu _ ?aG ?aH A3.out).mono ?_);(case aG=>repeat (first|exact HR1.out|(with_reducible refine Kd.fD ?_ _)|(with_reducible refine Kd.fj ?_ _)|(with_reducible refine Kd.gP ?_)));(case aH=>exact HC1.out);rintro e w4 ⟨AsN,rfl,gE,hb⟩;refine ⟨_,rfl, ?_⟩;have aJ:=aa.mk (Kd.bP gE (af (bz HB)));have aQ:=aa.mk (aq (bz HB) hb);clear HB;have Wt:=aJ;have HB:=aQ;clear aJ aQ;(try clear hb);(try clear hb2);(try clear hk);(try clear hi);(try clear gE);obtain ⟨Ao5,co5,eo5⟩:=Kd.da Wt.out;subst eo5))
 go_loopg [0,12] k (fun kq v0 v12 w'=>∃ (qC:Int) (rM:Int),v0= .int .u32 qC /\ v12= .int .i64 rM /\ aa (gF.l0 kq qC vu (vu.length:Int) rM=some r) /\ aa (kq<=k) /\ aa (Kd.R (Kd.int .u16) 45 w' w.heap.size (fun _=>True) (.slice Ao5 vu.length co5) vu) /\ aa (Below w.heap.size w w'))
 case atStart=>exact ⟨(a0),(0),(by first|rfl|(simp;done)|(simp [*];done)),(by first|rfl|(simp;done)|(simp [*];done)),H',⟨Nat.le_refl _⟩,⟨Kd.rz Wt⟩,⟨bz HB⟩⟩
 case round=>
  clear H'
  try clear c1
  obtain ⟨qC,rM,rfl,rfl,HA,z4,Wu,HB⟩:=hrel
  cases gk with
  |zero=>exact absurd HA.out (by simp [gF.l0])
  |succ k1=>
   have H:=HA.out;clear HA;simp only [gF.l0] at H
   by_cases c6:rM<(vu.length:Int)
   ·rw [au c6] at H
    have sG:decide (rM<(vu.length:Int))=true:=bS c6;clear c6
    by_cases c7:0<=rM
    ·rw [au c7] at H
     have Ah:decide (0<=rM)=true:=bS c7;clear c7
     by_cases c8:rM<(vu.length:Int)
     ·rw [au c8] at H
      have nX:decide (rM<(vu.length:Int))=true:=bS c8;clear c8;replace H:=cZ H;obtain ⟨⟨AdS,AdT⟩,Wv,H⟩:=H
      (try dsimp -simprocs only at H)
      have A9:=aa.mk Wv;clear Wv;have H':=aa.mk H;clear H;have Zy:0<=(rM:Int):=gD;have Zz:rM<(vu.length:Int):=gD;obtain ⟨ApF,AlF,AhP⟩:=Kd.dB (Kd.av Wu.out).2.2 rM Zy Zz
      cases AlF
      replace Zy:=eq_true Zy;replace Zz:=eq_true Zz
      go_wp2_with (first|((with_reducible refine ay (f:=129) rfl ?_);refine gL 20 Try.func129 #[.int .u32 qC,.int .u32 ((rd vu rM) % 4294967296),.int .u32 0] ?_;(with_reducible refine (qD.calls qC ((rd vu rM) % 4294967296) 0 AdS AdT _ A9.out).mono ?_);rintro e w' ⟨rfl,⟨nd,rfl⟩⟩;refine ⟨_,rfl, ?_⟩))
      go_roundg k1
      case measure=>have:=z4.out;omega
      case rel=>exact ⟨((AdS+AdT) % 4294967296),(wrap64 (rM+1)),(by first|rfl|(simp;done)|(simp [*];done)),(by first|rfl|(simp;done)|(simp [*];done)),H',⟨by have:=z4.out;omega⟩,⟨Kd.rz Wu⟩,⟨bz HB⟩⟩
     ·rw [ax c8] at H
      cases H
    ·rw [ax c7] at H
     cases H
   ·rw [ax c6] at H
    have sG:decide (rM<(vu.length:Int))=false:=gO c6;clear c6;obtain rfl:=cS H
    go_wp2
    go_ret
    exact ⟨by first|rfl|(simp [aj,ak]<;>rfl)|(simp [*,aj,ak]<;>rfl),bz HB⟩
def oq.f (k:Nat) (l0:List Int):Option (Int):=(gF.f k 0 l0).bind fun KG=>((eB.f k KG).bind fun Qd=>(some (Go.bits .xor .u16 IntKind.u16.max Qd)))
theorem oq.calls (k:Nat) (A0:Option Addr) (c0:Nat) (l0:List Int) (r:Int) (w:World) (hr0:Kd.C (Kd.int .u8) w A0 l0.length l0) (hc0:l0.length<=c0) (h:oq.f k l0=some r):
  Calls Try.prog 90 #[.slice A0 l0.length c0] w fun e w'=>e= .returned (.int .u16 r) /\ Below w.heap.size w w':=by
 have zj:IntKind.u16.signed=false:=rfl;have gh:=aa.mk hr0;have jC:=aa.mk hc0;clear hr0 hc0;have HB:=gj w;have H:((gF.f k 0 l0).bind fun KG=>((eB.f k KG).bind fun Qd=>(some (Go.bits .xor .u16 IntKind.u16.max Qd))))=some r:=h;clear h;replace H:=cZ H;obtain ⟨KG,uJ,H⟩:=H
 (try dsimp -simprocs only at H)
 have A2:=aa.mk uJ;clear uJ;replace H:=cZ H;obtain ⟨Qd,wE,H⟩:=H
 (try dsimp -simprocs only at H)
 have A3:=aa.mk wE;clear wE;obtain rfl:=cS H
 go_enter Try.func90,Try.ntmps90
 go_wp2_with (first|((with_reducible refine ay (f:=116) rfl ?_);refine gL 4 Try.func116 #[.int .u32 0,.slice A0 l0.length c0] ?_;(with_reducible refine (gF.calls k 0 _ _ l0 KG _ ?aG ?aH A2.out).mono ?_);(case aG=>repeat (first|exact gh.out|(with_reducible refine Kd.fD ?_ _)|(with_reducible refine Kd.fj ?_ _)|(with_reducible refine Kd.gP ?_)));(case aH=>exact jC.out);rintro e w4 ⟨rfl,hb⟩;refine ⟨_,rfl, ?_⟩;have aJ:=aa.mk (aq (bz HB) hb);clear HB;have HB:=aJ;clear aJ;(try clear hb);(try clear hb2);(try clear hk);(try clear hi))|((with_reducible refine ay (f:=115) rfl ?_);refine gL 5 Try.func115 #[.int .u32 KG] ?_;(with_reducible refine (eB.calls k KG Qd _ A3.out).mono ?_);rintro e w' ⟨rfl,⟨nd,rfl⟩⟩;refine ⟨_,rfl, ?_⟩))
 go_ret
 exact ⟨by first|rfl|(simp [aj,ak]<;>rfl)|(simp [*,aj,ak]<;>rfl),bz HB⟩
attribute [local go_sem] dF dG eG eH cQ cR dH dI
def dY.f (a0:Bool) (a1:Int):Option (Unit):=if a0=true then (some ()) else (none)
theorem dY.calls (a0:Bool) (a1:Int) (w:World) (h:dY.f a0 a1=some ()):
    Calls Try.prog 117 #[.bool a0,.int .i64 a1] w fun e w'=>e= .returned (.tuple #[]) /\ bF w w':=by
  have ApG:=Try.underlying163;have H:(if a0=true then (some ()) else (none))=some ():=h;clear h
  by_cases c3:a0=true
  · subst c3
    have H1:(some ())=some ():=rfl;clear H;have H:=H1;clear H1
    go_enter Try.func117,Try.ntmps117
    go_wp2
    first|go_end0|((try simp only [Exit.inBlock,Exit.then]);refine bodyPost_ret (results_none rfl _ _ _) rfl ?_)
    exact ⟨by first|rfl|(simp;done)|(simp [*];done),by repeat (first|exact bF.refl _|apply bF.step)⟩
  · replace c3:=xP c3
    subst c3;have H1:(none)=some ():=by rw [ax (show ¬ (false=true) by decide)] at H;exact H
    clear H;have H:=H1;clear H1;cases H
def dw.f (l0:List Int) (a1:Int):Option (Int):=if 0<=a1 then (if a1<(l0.length:Int) then (if 0<=(wrap64 (a1+1)) then (if (wrap64 (a1+1))<(l0.length:Int) then (some (Go.bits .or .u16 (IntKind.u16.wrap ((IntKind.u16.wrap (rd l0 a1))*256)) (IntKind.u16.wrap (rd l0 (wrap64 (a1+1)))))) else (none)) else (none)) else (none)) else (none)
theorem dw.calls (A0:Option Addr) (c0:Nat) (l0:List Int) (a1:Int) (r:Int) (w:World) (hr0:Kd.C (Kd.int .u8) w A0 l0.length l0) (hc0:l0.length<=c0) (h:dw.f l0 a1=some r):
    Calls Try.prog 118 #[.slice A0 l0.length c0,.int .i64 a1] w fun e w'=>e= .returned (.int .u16 r) /\ bF w w':=by
  have gh:=aa.mk hr0;have jC:=aa.mk hc0;clear hr0 hc0;have H:(if 0<=a1 then (if a1<(l0.length:Int) then (if 0<=(wrap64 (a1+1)) then (if (wrap64 (a1+1))<(l0.length:Int) then (some (Go.bits .or .u16 (IntKind.u16.wrap ((IntKind.u16.wrap (rd l0 a1))*256)) (IntKind.u16.wrap (rd l0 (wrap64 (a1+1)))))) else (none)) else (none)) else (none)) else (none))=some r:=h;clear h
  by_cases c3:0<=a1
  · rw [au c3] at H
    have oY:decide (0<=a1)=true:=bS c3;clear c3
    by_cases c4:a1<(l0.length:Int)
    · rw [au c4] at H
      have mH:decide (a1<(l0.length:Int))=true:=bS c4;clear c4;obtain ⟨wU,zk⟩:∃ j_:Int,(wrap64 (a1+1))=j_:=⟨_,rfl⟩
      replace H:(if 0<=(wU) then (if (wU)<(l0.length:Int) then (some (Go.bits .or .u16 (IntKind.u16.wrap ((IntKind.u16.wrap (rd l0 a1))*256)) (IntKind.u16.wrap (rd l0 (wU))))) else (none)) else (none))=some r:=by first|(rw [zk] at H;exact H)|(simp only [zk] at H|-;exact H)
      have Ww:(IntKind.i64.wrap (a1+1))=wU:=(jk _).trans zk
      by_cases c6:0<=(wU)
      · rw [au c6] at H
        have sG:decide (0<=(wU))=true:=bS c6;clear c6
        by_cases c7:(wU)<(l0.length:Int)
        · rw [au c7] at H
          have Ah:decide ((wU)<(l0.length:Int))=true:=bS c7;clear c7;obtain rfl:=cS H;have ZA:0<=(a1:Int):=gD;have ZB:a1<(l0.length:Int):=gD;obtain ⟨AdU,AlG,AhQ⟩:=Kd.dB gh.out a1 ZA ZB
          cases AlG
          replace ZA:=eq_true ZA;replace ZB:=eq_true ZB;have ZC:0<=((wU):Int):=gD;have ZE:(wU)<(l0.length:Int):=gD;obtain ⟨AdV,AlH,AhR⟩:=Kd.dB gh.out (wU) ZC ZE;obtain rfl:AdU=AdV:=(by injection AlH)
          replace ZC:=eq_true ZC;replace ZE:=eq_true ZE
          go_enter Try.func118,Try.ntmps118
          go_wp2
          repeat (go_quiet (fail);try go_wp2)
          go_ret
          exact ⟨by first|rfl|(simp;done)|(simp only [<- zk]<;>(first|rfl|simp))|(simp [*];done),by repeat (first|exact bF.refl _|apply bF.step)⟩
        · rw [ax c7] at H
          cases H
      · rw [ax c6] at H
        cases H
    · rw [ax c4] at H
      cases H
  · rw [ax c3] at H
    cases H
def jg.f (l0:List Int) (a1:Int):Option (Int):=(dw.f l0 a1).bind fun KH=>((dw.f l0 (wrap64 (a1+2))).bind fun Iq=>(some (Go.bits .or .u32 ((((KH) % 4294967296)*65536) % 4294967296) ((Iq) % 4294967296))))
theorem jg.calls (A0:Option Addr) (c0:Nat) (l0:List Int) (a1:Int) (r:Int) (w:World) (hr0:Kd.C (Kd.int .u8) w A0 l0.length l0) (hc0:l0.length<=c0) (h:jg.f l0 a1=some r):
    Calls Try.prog 119 #[.slice A0 l0.length c0,.int .i64 a1] w fun e w'=>e= .returned (.int .u32 r) /\ bF w w':=by
  have gh:=aa.mk hr0;have jC:=aa.mk hc0;clear hr0 hc0;have H:((dw.f l0 a1).bind fun KH=>((dw.f l0 (wrap64 (a1+2))).bind fun Iq=>(some (Go.bits .or .u32 ((((KH) % 4294967296)*65536) % 4294967296) ((Iq) % 4294967296)))))=some r:=h;clear h;replace H:=cZ H;obtain ⟨KH,wE,H⟩:=H;replace H:((dw.f l0 (wrap64 (a1+2))).bind fun Iq=>(some (Go.bits .or .u32 ((((KH) % 4294967296)*65536) % 4294967296) ((Iq) % 4294967296))))=some r:=H;have A3:=aa.mk wE;clear wE;replace H:=cZ H;obtain ⟨Iq,qA,H⟩:=H;replace H:(some (Go.bits .or .u32 ((((KH) % 4294967296)*65536) % 4294967296) ((Iq) % 4294967296)))=some r:=H;have A4:=aa.mk qA;clear qA;obtain rfl:=cS H
  go_enter Try.func119,Try.ntmps119
  go_wp2_with (first|((with_reducible refine ay (f:=118) rfl ?_);refine gL 7 Try.func118 #[.slice A0 l0.length c0,.int .i64 a1] ?_;(with_reducible refine (dw.calls _ _ l0 a1 KH _ ?aG ?aH A3.out).mono ?_);(case aG=>repeat (first|exact gh.out|(with_reducible refine Kd.fD ?_ _)|(with_reducible refine Kd.fj ?_ _)|(with_reducible refine Kd.gP ?_)));(case aH=>exact jC.out);rintro e w' ⟨rfl,⟨nd,rfl⟩⟩;refine ⟨_,rfl, ?_⟩)|((with_reducible refine ay (f:=118) rfl ?_);refine gL 13 Try.func118 #[.slice A0 l0.length c0,.int .i64 (wrap64 (a1+2))] ?_;(with_reducible refine (dw.calls _ _ l0 (wrap64 (a1+2)) Iq _ ?aG ?aH A4.out).mono ?_);(case aG=>repeat (first|exact gh.out|(with_reducible refine Kd.fD ?_ _)|(with_reducible refine Kd.fj ?_ _)|(with_reducible refine Kd.gP ?_)));(case aH=>exact jC.out);rintro e w' ⟨rfl,⟨nd,rfl⟩⟩;refine ⟨_,rfl, ?_⟩))
  go_ret
  exact ⟨by first|rfl|(simp;done)|(simp [*];done),by repeat (first|exact bF.refl _|apply bF.step)⟩
def iw.f (l0:List Int):Option (List Int):=if l0.length<140737488355328 then some l0 else none
theorem iw.calls (A0:Option Addr) (c0:Nat) (l0:List Int) (r:List Int) (w:World) (hr0:Kd.C (Kd.int .u8) w A0 l0.length l0) (hc0:l0.length<=c0) (h:iw.f l0=some r):
    Calls Try.prog 120 #[.slice A0 l0.length c0] w fun e w'=>∃ o6:Value,e= .returned (o6) /\ Kd.R (Kd.int .u8) 5 w' w.heap.size (fun _=>True) o6 r /\ Below w.heap.size w w':=by
  unfold iw.f at h
  by_cases c7:l0.length<140737488355328
  · rw [au c7] at h
    obtain rfl:=cS h;clear h;have FJ:=aa.mk c7;clear c7;have gh:=aa.mk hr0;have jC:=aa.mk hc0;clear hr0 hc0;have HB:=gj w
    cases A0 with
    |none=>
      have e:=AX gh.out;subst e;have hq:=fun (W:World) (n c:Nat)=>Go.Lib.run_eql_slice_nil (P:=Try.prog) W 165 5 none n c 0 0 Try.underlying165
      go_enter Try.func120,Try.ntmps120
      go_wp2
      go_ret
      exact ⟨_,rfl,Kd.cl _ _ _ _ _,Below.refl _ _⟩
    |some ad=>
      have hq:=fun (W:World) (n c:Nat)=>Go.Lib.run_eql_slice_nil (P:=Try.prog) W 165 5 (some ad) n c 0 0 Try.underlying165
      go_enter Try.func120,Try.ntmps120
      have HO1:aa (Kd.R (Kd.int .u8) 5 (w.alloc (.cells #[] 5)) w.heap.size (fun _=>True) (.slice (some ⟨w.heap.size,0,none⟩) 0 0) ([]:List Int)):=⟨za w .u8 5⟩
      have PK:aa (Below w.heap.size w (w.alloc (.cells #[] 5))):=⟨dX HB.out _⟩
      go_wp2_with (first
       |((with_reducible refine fo (b:= .append) (xs:= #[.tmp 5,.tmp 6]) rfl ?_);at_builtin;refine Kd.gC (Kd.int .u8) (w0:=w) w.heap.size rfl (.tmp 5) (.tmp 6) 165 5 (.int .u8 0) 1 rfl Try.underlying165 gB rfl (by decide) (by omega) (.slice (some ⟨w.heap.size,0,none⟩) 0 0) ([]:List Int) l0 _ _ _ (fun _=>True) (fun _=>False) rfl rfl ?aO ?aR (fun _ _ h=>h) (fun _ h=>h.elim) ?aF ?aB ?aS ?aL ?_;(case aR=>exact Kd.aU gh.out PK.out);(case aB=>exact PK.out);(case aF=>exact (fun _ _=>trivial));(case aO=>exact HO1.out);(case aS=>exact (af PK.out));(case aL=>have:=FJ.out;simp;omega);intro v2 w2 ho hb hg hat;clear hg hat;have YL:=aa.mk hb;have Wb:=aa.mk ho;clear hb ho))
      go_ret
      exact ⟨_,rfl,by simpa using Wb.out,YL.out⟩
  · rw [ax c7] at h
    cases h
attribute [local go_sem] dF dG eG eH cQ cR dH dI
def aY.j0:Nat ->List Int ->Int ->Int ->Option (Int×Int×Int×Int×Int×Int×Int×Int×List Int×List Int)
 |0,_,_,_=>none
 |k+1,x0,x3,x4=>(dY.f (decide ((x0.length:Int)>=x4)) 20).bind fun _=>(if 0<=x3 then (if x3<=(x0.length:Int) then ((gF.f k 0 (x0.take (x3:Int).toNat)).bind fun KI=>((eB.f k KI).bind fun KJ=>((dY.f (KJ==65535) 22).bind fun _=>((dw.f x0 6).bind fun sS=>(if 1<(x0.length:Int) then ((dw.f x0 4).bind fun zl=>(if 8<(x0.length:Int) then (if 9<(x0.length:Int) then ((jg.f x0 12).bind fun CF=>((jg.f x0 16).bind fun Em=>(if 20<=x3 then ((iw.f ((x0.take (x3:Int).toNat).drop 20)).bind fun FQ=>(if x3<=x4 then (if x4<=(x0.length:Int) then ((iw.f ((x0.take (x4:Int).toNat).drop (x3:Int).toNat)).bind fun Ir=>(some (rd x0 1,rd x0 8,rd x0 9,zl,(sS / 8192) % 256,Go.bits .and .u16 sS 8191,CF,Em,FQ,Ir))) else (none)) else (none))) else (none)))) else (none)) else (none))) else (none)))))) else (none)) else (none))
def aY.f (k:Nat) (l0:List Int):Option (Int×Int×Int×Int×Int×Int×Int×Int×List Int×List Int):=(dY.f (decide ((l0.length:Int)>=20)) 20).bind fun _=>(if 0<(l0.length:Int) then ((dw.f l0 2).bind fun pX=>(if ((rd l0 0) / 16)=4 then (if (wrap64 (4*(wrap64 (Go.bits .and .u8 (rd l0 0) 15))))>=20 then ((dY.f (decide ((wrap64 (pX))>=(wrap64 (4*(wrap64 (Go.bits .and .u8 (rd l0 0) 15)))))) 21).bind fun _=>(aY.j0 k l0 (wrap64 (4*(wrap64 (Go.bits .and .u8 (rd l0 0) 15)))) (wrap64 (pX)))) else ((dY.f false 21).bind fun _=>(aY.j0 k l0 (wrap64 (4*(wrap64 (Go.bits .and .u8 (rd l0 0) 15)))) (wrap64 (pX))))) else ((dY.f false 21).bind fun _=>(aY.j0 k l0 (wrap64 (4*(wrap64 (Go.bits .and .u8 (rd l0 0) 15)))) (wrap64 (pX)))))) else (none))
def aY.T2:Bool×List (List Nat×List Nat):=(true,[([],[]),([0],[0]),([1],[1]),([2],[2]),([3],[3]),([4],[4]),([],[]),([6],[6]),([7],[7]),([5,7,0,1,2,3,4,5],[5]),([8,9,0,1,2,3,4,5,6,7,8,9],[8])])
def aY.B2:List Nat:=[0,1,3,7,15,31,0,64,192,255,1023]
theorem aY.TX:gS .any (opsOf Try.f95 2)=aY.T2:=by kernel_rfl
theorem aY.Mt:dN aY.T2.2 aY.B2=true:=by kernel_rfl
def aY.T7:Bool×List (List Nat×List Nat):=(true,[([],[]),([0],[0]),([1],[1]),([],[]),([3],[3]),([],[]),([5],[5]),([6],[6]),([],[]),([8],[8]),([],[]),([10],[10]),([11],[11]),([],[]),([13],[13]),([14],[14]),([],[]),([16,4],[16]),([],[]),([18,17],[18]),([],[]),([],[]),([20,21],[20,21]),([22,19],[22]),([],[]),([],[]),([],[]),([24,25,26],[24,25,26]),([27,23],[27]),([2,4,7,9,12,15,17,19,23,28],[2,4,7,9,12,15,17,19,23,28]),([29,28,0,1,2,3,4,5,6,7,8,9,10,11,12,13,14,15,16,17,18,19,20,21,22,23,24,25,26,27,28,29],[29])])
def aY.B7:List Nat:=[0,1,3,0,8,0,32,96,0,256,0,1024,3072,0,8192,24576,0,65560,0,458776,0,0,3145728,8323096,0,0,0,117440512,268369944,536870911,1073741823]
theorem aY.Qe:gS .any (opsOf Try.f95 7)=aY.T7:=by kernel_rfl
theorem aY.Iu:dN aY.T7.2 aY.B7=true:=by kernel_rfl
theorem aY.calls (k:Nat) (A0:Option Addr) (c0:Nat) (l0:List Int) (r1:Int) (r2:Int) (r3:Int) (r4:Int) (r5:Int) (r6:Int) (r7:Int) (r8:Int) (r9:List Int) (uN:List Int) (w:World) (hr0:Kd.C (Kd.int .u8) w A0 l0.length l0) (hc0:l0.length<=c0) (h:aY.f k l0=some (r1,r2,r3,r4,r5,r6,r7,r8,r9,uN)):
  Calls Try.prog 95 #[.slice A0 l0.length c0] w fun e w'=>∃ BS BU:Value,e= .returned (.agg #[.int .u8 r1,.int .u8 r2,.int .u8 r3,.int .u16 r4,.int .u8 r5,.int .u16 r6,.int .u32 r7,.int .u32 r8,BS,BU]) /\ Kd.R (Kd.int .u8) 5 w' w.heap.size (fun k_=>some k_≠(BU:Value).ownBlock) BS r9 /\ Kd.R (Kd.int .u8) 5 w' w.heap.size (fun k_=>some k_≠(BS:Value).ownBlock) BU uN /\ Below w.heap.size w w':=by
 have jb:=Try.underlying73;have gh:=aa.mk hr0;have jC:=aa.mk hc0;clear hr0 hc0;have HB:=gj w
 have H:((dY.f (decide ((l0.length:Int)>=20)) 20).bind fun _=>(if 0<(l0.length:Int) then ((dw.f l0 2).bind fun pX=>(if ((rd l0 0) / 16)=4 then (if (wrap64 (4*(wrap64 (Go.bits .and .u8 (rd l0 0) 15))))>=20 then ((dY.f (decide ((wrap64 (pX))>=(wrap64 (4*(wrap64 (Go.bits .and .u8 (rd l0 0) 15)))))) 21).bind fun _=>(aY.j0 k l0 (wrap64 (4*(wrap64 (Go.bits .and .u8 (rd l0 0) 15)))) (wrap64 (pX)))) else ((dY.f false 21).bind fun _=>(aY.j0 k l0 (wrap64 (4*(wrap64 (Go.bits .and .u8 (rd l0 0) 15)))) (wrap64 (pX))))) else ((dY.f false 21).bind fun _=>(aY.j0 k l0 (wrap64 (4*(wrap64 (Go.bits .and .u8 (rd l0 0) 15)))) (wrap64 (pX)))))) else (none)))=some (r1,r2,r3,r4,r5,r6,r7,r8,r9,uN):=h;clear h;replace H:=cZ H;obtain ⟨_,uJ,H⟩:=H
 (try dsimp -simprocs only at H)
 have A2:=aa.mk uJ;clear uJ
 by_cases c3:0<(l0.length:Int)
 ·rw [au c3] at H
  have oY:decide (0<(l0.length:Int))=true:=bS c3;have qP:decide (0<l0.length)=true:=bS (by omega);clear c3;replace H:=cZ H;obtain ⟨pX,qA,H⟩:=H
  (try dsimp -simprocs only at H)
  have A4:=aa.mk qA;clear qA;have HC5:=aa.mk H;clear H
  go_enter Try.func95,Try.ntmps95
  try go_wp2_with (first|((with_reducible refine aA (N:=2) rfl ?_);refine aC ?hg (N:=2) ?hd (cs:= #[.int .u8 0,.int .u8 0,.int .u8 0,.int .u16 0,.int .u8 0,.int .u16 0,.int .u32 0,.int .u32 0,.slice none 0 0,.slice none 0 0]) (t:=73) ?hr ?_;(case hd=>rfl);(case hg=>rfl);(case hr=>first|(go_simp;done)|(go_simp;rfl));intro eO hg w6 bK hb;have aJ:=aa.mk (aq (bz HB) hb);have aQ:=aa.mk (bK);have bt:=aa.mk ((by rw [hg];exact (af (bz HB)):w.heap.size<=eO));have cr:=aa.mk ((by rw [hg];exact (af (bz HB)):w.heap.size<=eO));clear HB;have HB:=aJ;have eU:=aQ;have fM:=bt;have Mu:=cr;clear aJ aQ bt cr;clear hb bK hg)|((with_reducible refine ay (f:=117) rfl ?_);refine gL 9 Try.func117 #[.bool (decide ((l0.length:Int)>=20)),.int .i64 20] ?_;(with_reducible refine (dY.calls (decide ((l0.length:Int)>=20)) 20 _ A2.out).mono ?_);rintro e w' ⟨rfl,⟨nd,rfl⟩⟩;refine ⟨_,rfl, ?_⟩))
  (try (rw [fg w6];generalize j5:World.drewN w6 _=w6;have aJ:aa (w6.heap[eO]?=some (.cells #[.int .u8 0,.int .u8 0,.int .u8 0,.int .u16 0,.int .u8 0,.int .u16 0,.int .u32 0,.int .u32 0,.slice none 0 0,.slice none 0 0] 73 (0,0))):=⟨by rw [<- j5];exact (kz eU)⟩;have aQ:aa (Below w.heap.size w w6):=⟨by rw [<- j5];exact bz HB⟩;clear eU HB j5;have eU:=aJ;have HB:=aQ;clear aJ aQ))
  have aJ:=aa.mk (aK eU.out);have aQ:=aa.mk (bf HB.out);clear eU;clear HB;have eU:=aJ;have HB:=aQ;clear aJ aQ;have xS:0<=(0:Int):=(by omega)
  have xT:0<(l0.length:Int):=gD;obtain ⟨jl,KK,gN⟩:=Kd.dB gh.out 0 xS xT;have gR:=gN
  (try rw [show ((0:Int)).toNat=0 from rfl] at gR)
  (try rw [show 0*1=0 from rfl] at gR)
  (try rw [Addr.add_zero'] at gR)
  cases KK
  have Qf:(0<l0.length)=True:=eq_true (by omega)
  (try rw [show ((0:Int)).toNat=0 from rfl] at gN)
  (try rw [Addr.add_zero'] at gN)
  replace gN:=(HB.out.cell (dA w _ gN)).trans gN;replace xS:=eq_true xS;replace xT:=eq_true xT;refine dg (n:=11) (S:=fun w'=>w'.cell? jl=some (.int .u8 (rd l0 0))) (ds:=[]) #[false,false,false,false,false,false,false,false,false,false,false] (by kernel_rfl) rfl rfl (((HB.out.cell (dA w _ gR)).trans gR)) (fun hHeld=> ?_);refine bH aY.TX aY.Mt (fun az dW=> ?_);generalize w6.drew=w7 at eU HB gN hHeld|-
  refine pz 0 10 az ?_;refine pz 1 11 az ?_;refine pz 6 16 az ?_;refine tz 2 12 az dW hHeld ?_;refine pz 3 13 az ?_;refine pz 4 14 az ?_;refine pz 5 15 az ?_;refine oz 7 (some 17) az (fun K hK=> ?_);refine gG Try.func118 #[.slice (some jl) l0.length c0,.int .i64 2] ?_
  with_reducible refine (dw.calls _ _ l0 2 pX _ ?aG ?aH A4.out).mono ?_
  (case aG=>exact Kd.aU gh.out (bz HB))
  (case aH=>exact jC.out)
  rintro e w' ⟨rfl,⟨nd,rfl⟩⟩;refine ⟨_,rfl, ?_⟩;refine hK.out _ _ (((HB.out.cell (dA w _ gR)).trans gR)) (fun hHeld=> ?_);clear hK K;refine nz 17 ?_;refine pz 8 18 az ?_;refine pz 9 3 az ?_;refine pz 10 4 az ?_;refine dz az ?_
  go_upto_region 3 with (fail)
  go_cut [] (fun wc=>∃ (kq:Nat),aa (aY.j0 kq l0 (wrap64 (4*(wrap64 (Go.bits .and .u8 (rd l0 0) 15)))) (wrap64 (pX))=some (r1,r2,r3,r4,r5,r6,r7,r8,r9,uN)) /\ aa (kq<=k) /\ aa (wc.heap[eO]?=some (.cells #[.int .u8 0,.int .u8 0,.int .u8 0,.int .u16 0,.int .u8 0,.int .u16 0,.int .u32 0,.int .u32 0,(.slice none 0 0),(.slice none 0 0)] 73 (0,0))) /\ aa (Below w.heap.size w wc))
  case first=>
   have H:=HC5.out;clear HC5
   by_cases c8:((rd l0 0) / 16)=4
   ·rw [au c8] at H
    have nX:(((rd l0 0) / 16)==4)=true:=fH c8;have CB:(((rd l0 0) / 16) !=4)=false:=kO c8;clear c8
    (first|rw [nX]|(simp only [jk,mo];rw [nX])|skip)
    by_cases c9:(wrap64 (4*(wrap64 (Go.bits .and .u8 (rd l0 0) 15))))>=20
    ·rw [au c9] at H
     have wT:decide (20<=(wrap64 (4*(wrap64 (Go.bits .and .u8 (rd l0 0) 15)))))=true:=bS c9;clear c9;replace H:=cZ H;obtain ⟨_,zm,H⟩:=H
     (try dsimp -simprocs only at H)
     have KL:=aa.mk zm;clear zm;have H':=aa.mk H;clear H;have o4:0<=(0:Int):=(by omega)
     have o5:0<(l0.length:Int):=gD;obtain ⟨sI,yF,eJ⟩:=Kd.dB gh.out 0 o4 o5;obtain rfl:jl=sI:=(by injection yF)
     have CG:(0<l0.length)=True:=eq_true (by omega)
     (try rw [show ((0:Int)).toNat=0 from rfl] at eJ)
     (try rw [Addr.add_zero'] at eJ)
     replace eJ:=(HB.out.cell (dA w _ eJ)).trans eJ;replace o4:=eq_true o4;replace o5:=eq_true o5
     go_wp2_with (first|((with_reducible refine ay (f:=117) rfl ?_);refine gL 33 Try.func117 #[.bool (decide ((wrap64 (pX))>=(wrap64 (4*(wrap64 (Go.bits .and .u8 (rd l0 0) 15)))))),.int .i64 21] ?_;(with_reducible refine (dY.calls (decide ((wrap64 (pX))>=(wrap64 (4*(wrap64 (Go.bits .and .u8 (rd l0 0) 15)))))) 21 _ KL.out).mono ?_);rintro e w' ⟨rfl,⟨nd,rfl⟩⟩;refine ⟨_,rfl, ?_⟩))
     go_meet
     case rel=>exact ⟨_,H',⟨by first|omega|exact Nat.le_refl _⟩,⟨kz eU⟩,⟨bz HB⟩⟩
    ·rw [ax c9] at H
     have wT:decide (20<=(wrap64 (4*(wrap64 (Go.bits .and .u8 (rd l0 0) 15)))))=false:=gO c9;clear c9;replace H:=cZ H;obtain ⟨_,Iv,H⟩:=H
     (try dsimp -simprocs only at H)
     have A11:=aa.mk Iv;clear Iv;have H':=aa.mk H;clear H;have o4:0<=(0:Int):=(by omega)
     have o5:0<(l0.length:Int):=gD;obtain ⟨sI,yF,eJ⟩:=Kd.dB gh.out 0 o4 o5;obtain rfl:jl=sI:=(by injection yF)
     have CG:(0<l0.length)=True:=eq_true (by omega)
     (try rw [show ((0:Int)).toNat=0 from rfl] at eJ)
     (try rw [Addr.add_zero'] at eJ)
     replace eJ:=(HB.out.cell (dA w _ eJ)).trans eJ;replace o4:=eq_true o4;replace o5:=eq_true o5
     go_wp2_with (first|((with_reducible refine ay (f:=117) rfl ?_);refine gL 33 Try.func117 #[.bool false,.int .i64 21] ?_;(with_reducible refine (dY.calls false 21 _ A11.out).mono ?_);rintro e w' ⟨rfl,⟨nd,rfl⟩⟩;refine ⟨_,rfl, ?_⟩))
     go_meet
     case rel=>exact ⟨_,H',⟨by first|omega|exact Nat.le_refl _⟩,⟨kz eU⟩,⟨bz HB⟩⟩
   ·rw [ax c8] at H
    have nX:(((rd l0 0) / 16)==4)=false:=fc c8;have CB:(((rd l0 0) / 16) !=4)=true:=lA c8
    (first|rw [nX]|(simp only [jk,mo];rw [nX])|skip)
    replace H:=cZ H;obtain ⟨_,zn,H⟩:=H
    (try dsimp -simprocs only at H)
    have TY:=aa.mk zn;clear zn;have H':=aa.mk H;clear H;have o4:0<=(0:Int):=(by omega)
    have o5:0<(l0.length:Int):=gD;obtain ⟨sI,yF,eJ⟩:=Kd.dB gh.out 0 o4 o5;obtain rfl:jl=sI:=(by injection yF)
    have CG:(0<l0.length)=True:=eq_true (by omega)
    (try rw [show ((0:Int)).toNat=0 from rfl] at eJ)
    (try rw [Addr.add_zero'] at eJ)
    replace eJ:=(HB.out.cell (dA w _ eJ)).trans eJ;replace o4:=eq_true o4;replace o5:=eq_true o5
    go_wp2_with (first|((with_reducible refine ay (f:=117) rfl ?_);refine gL 33 Try.func117 #[.bool false,.int .i64 21] ?_;(with_reducible refine (dY.calls false 21 _ TY.out).mono ?_);rintro e w' ⟨rfl,⟨nd,rfl⟩⟩;refine ⟨_,rfl, ?_⟩))
    go_meet
    case rel=>exact ⟨_,H',⟨by first|omega|exact Nat.le_refl _⟩,⟨kz eU⟩,⟨bz HB⟩⟩
  case rest=>
   clear HC5
   try clear c3
   try clear oY
   try clear qP
   try clear gN
   try clear xS
   try clear xT
   obtain ⟨kq,HA,HJ4,eU,HB⟩:=hcut
   cases kq with
   |zero=>exact absurd HA.out (by simp [aY.j0])
   |succ kj4=>
    have H:=HA.out;clear HA;simp only [aY.j0] at H
    replace H:=cZ H;obtain ⟨_,CH,H⟩:=H
    (try dsimp -simprocs only at H)
    have O5:=aa.mk CH;clear CH;obtain ⟨lS,wu⟩:∃ j_:Int,(wrap64 (4*(wrap64 (Go.bits .and .u8 (rd l0 0) 15))))=j_:=⟨_,rfl⟩
    replace H:(if 0<=(lS) then (if (lS)<=(l0.length:Int) then ((gF.f kj4 0 (l0.take ((lS):Int).toNat)).bind fun KI=>((eB.f kj4 KI).bind fun KJ=>((dY.f (KJ==65535) 22).bind fun _=>((dw.f l0 6).bind fun sS=>(if 1<(l0.length:Int) then ((dw.f l0 4).bind fun zl=>(if 8<(l0.length:Int) then (if 9<(l0.length:Int) then ((jg.f l0 12).bind fun CF=>((jg.f l0 16).bind fun Em=>(if 20<=(lS) then ((iw.f ((l0.take ((lS):Int).toNat).drop 20)).bind fun FQ=>(if (lS)<=(wrap64 (pX)) then (if (wrap64 (pX))<=(l0.length:Int) then ((iw.f ((l0.take ((wrap64 (pX)):Int).toNat).drop ((lS):Int).toNat)).bind fun Ir=>(some (rd l0 1,rd l0 8,rd l0 9,zl,(sS / 8192) % 256,Go.bits .and .u16 sS 8191,CF,Em,FQ,Ir))) else (none)) else (none))) else (none)))) else (none)) else (none))) else (none)))))) else (none)) else (none))=some (r1,r2,r3,r4,r5,r6,r7,r8,r9,uN):=by first|(rw [wu] at H;exact H)|(simp only [wu] at H|-;exact H)
    (try rw [wu] at O5)
    have ZF:(IntKind.i64.wrap (4*(wrap64 (Go.bits .and .u8 (rd l0 0) 15))))=lS:=(jk _).trans wu
    by_cases wP:0<=(lS)
    ·rw [au wP] at H
     have wQ:=eq_true wP;have EJ:decide (0<=(lS))=true:=bS wP;clear wP
     by_cases KM:(lS)<=(l0.length:Int)
     ·rw [au KM] at H
      have Qg:=eq_true KM;have Mv:decide ((lS)<=(l0.length:Int))=true:=bS KM;clear KM;replace H:=cZ H;obtain ⟨KI,Iw,H⟩:=H
      (try dsimp -simprocs only at H)
      have O7:=aa.mk Iw;clear Iw;replace H:=cZ H;obtain ⟨KJ,wS,H⟩:=H
      (try dsimp -simprocs only at H)
      have NJ:=aa.mk wS;clear wS;replace H:=cZ H;obtain ⟨_,CI,H⟩:=H
      (try dsimp -simprocs only at H)
      have ZG:=aa.mk CI;clear CI;replace H:=cZ H;obtain ⟨sS,Cz,H⟩:=H
      (try dsimp -simprocs only at H)
      have uJ:=aa.mk Cz;clear Cz
      by_cases Ta:1<(l0.length:Int)
      ·rw [au Ta] at H
       have Adg:decide (1<(l0.length:Int))=true:=bS Ta;have Adh:decide (1<l0.length)=true:=bS (by omega);clear Ta;replace H:=cZ H;obtain ⟨zl,Qh,H⟩:=H
       (try dsimp -simprocs only at H)
       have A22:=aa.mk Qh;clear Qh
       by_cases Ix:8<(l0.length:Int)
       ·rw [au Ix] at H
        have Qi:decide (8<(l0.length:Int))=true:=bS Ix;have Wx:decide (8<l0.length)=true:=bS (by omega);clear Ix
        by_cases Mw:9<(l0.length:Int)
        ·rw [au Mw] at H
         have Wy:decide (9<(l0.length:Int))=true:=bS Mw;have AdX:decide (9<l0.length)=true:=bS (by omega);clear Mw;replace H:=cZ H;obtain ⟨CF,AdY,H⟩:=H
         (try dsimp -simprocs only at H)
         have A25:=aa.mk AdY;clear AdY;replace H:=cZ H;obtain ⟨Em,Iy,H⟩:=H
         (try dsimp -simprocs only at H)
         have A26:=aa.mk Iy;clear Iy
         by_cases Tb:20<=(lS)
         ·rw [au Tb] at H
          have Ad0:=eq_true Tb;have Ad1:decide (20<=(lS))=true:=bS Tb;clear Tb;have Ad2:=eq_true (gD:(lS)<=(l0.length:Int));replace H:=cZ H;obtain ⟨FQ,Qj,H⟩:=H
          (try dsimp -simprocs only at H)
          have A29:=aa.mk Qj;clear Qj;have ApH:=eq_true (gD:0<=(lS))
          by_cases Qk:(lS)<=(wrap64 (pX))
          ·rw [au Qk] at H
           have Ad3:=eq_true Qk;have Ad4:decide ((lS)<=(wrap64 (pX)))=true:=bS Qk;clear Qk
           by_cases KN:(wrap64 (pX))<=(l0.length:Int)
           ·rw [au KN] at H
            have Ad5:=eq_true KN;have Ad6:decide ((wrap64 (pX))<=(l0.length:Int))=true:=bS KN;clear KN;replace H:=cZ H;obtain ⟨Ir,Ad7,H⟩:=H
            (try dsimp -simprocs only at H)
            have A33:=aa.mk Ad7;clear Ad7;simp only [Option.some.injEq,Prod.mk.injEq] at H
            obtain ⟨rfl,rfl,rfl,rfl,rfl,rfl,rfl,rfl,rfl,rfl⟩:=H
            try go_wp2_with (first|((with_reducible refine ay (f:=117) rfl ?_);refine gL 38 Try.func117 #[.bool (decide ((l0.length:Int)>=(wrap64 (pX)))),.int .i64 20] ?_;(with_reducible refine (dY.calls (decide ((l0.length:Int)>=(wrap64 (pX)))) 20 _ O5.out).mono ?_);rintro e w' ⟨rfl,⟨nd,rfl⟩⟩;refine ⟨_,rfl, ?_⟩;(try (rw [fg wc];generalize j5:World.drewN wc _=wc;have aJ:aa (wc.heap[eO]?=some (.cells #[.int .u8 0,.int .u8 0,.int .u8 0,.int .u16 0,.int .u8 0,.int .u16 0,.int .u32 0,.int .u32 0,.slice none 0 0,.slice none 0 0] 73 (0,0))):=⟨by rw [<- j5];exact (kz eU)⟩;have aQ:aa (Below w.heap.size w wc):=⟨by rw [<- j5];exact bz HB⟩;clear eU HB j5;have eU:=aJ;have HB:=aQ;clear aJ aQ));obtain ⟨AlJ,Iz,_,IA,_⟩:=info_parts gB;obtain ⟨ZH,Ql,Qm⟩:=oK (P:=Try.prog) (Value.int .u8) 0 165 5 .i64 Try.underlying165 Iz IA (some jl) c0 l0 (lS) gD gD jC.out;have Qn:=aa.mk (Kd.dD (h1:=fun _=>rfl) (Ql _ (Kd.dc gh.out)));have Qo:=aa.mk Qm;clear Ql Qm Iz IA)|((with_reducible refine ay (f:=116) rfl ?_);refine tQ (some 42) rfl rfl Try.func116 (by kernel_rfl) rfl #[.int .u32 0,.slice (some jl) (l0.take ((lS):Int).toNat).length c0] rfl (by (try simp only [List.map_toArray,List.map_cons,List.map_nil]);first|done|(rw [show (l0.take ((lS):Int).toNat).length=(lS).toNat from (by rw [List.length_take];have h_:((lS):Int)<=(l0.length:Int):=gD;omega)]<;>rfl)|(simp only [wu];rfl)|rfl|(simp only [List.length_drop,List.length_take];rfl)|(go_simp;done)|(simp [Act.eval,IntKind.signed];done)|(simp [Act.eval,IntKind.signed];rfl)) ?_;(with_reducible refine (gF.calls kj4 0 _ _ (l0.take ((lS):Int).toNat) KI _ ?aG ?aH O7.out).mono ?_);(case aG=>exact Kd.aU Qn.out (bz HB));(case aH=>exact Qo.out);rintro e Ak ⟨rfl,hb⟩;refine ⟨_,rfl, ?_⟩;have aJ:=aa.mk (bn (kz eU) hb);have aQ:=aa.mk (aq (bz HB) hb);clear eU;clear HB;have eU:=aJ;have HB:=aQ;clear aJ aQ;(try clear hb);(try clear hb2);(try clear hk);(try clear hi))|((with_reducible refine ay (f:=115) rfl ?_);refine gL 43 Try.func115 #[.int .u32 KI] ?_;(with_reducible refine (eB.calls kj4 KI KJ _ NJ.out).mono ?_);rintro e w' ⟨rfl,⟨nd,rfl⟩⟩;refine ⟨_,rfl, ?_⟩;(try (rw [fg Ak];generalize j5:World.drewN Ak _=Ak;have aJ:aa (Ak.heap[eO]?=some (.cells #[.int .u8 0,.int .u8 0,.int .u8 0,.int .u16 0,.int .u8 0,.int .u16 0,.int .u32 0,.int .u32 0,.slice none 0 0,.slice none 0 0] 73 (0,0))):=⟨by rw [<- j5];exact (kz eU)⟩;have aQ:aa (Below w.heap.size w Ak):=⟨by rw [<- j5];exact bz HB⟩;clear eU HB j5;have eU:=aJ;have HB:=aQ;clear aJ aQ)))|((with_reducible refine ay (f:=117) rfl ?_);refine gL 45 Try.func117 #[.bool (KJ==65535),.int .i64 22] ?_;(with_reducible refine (dY.calls (KJ==65535) 22 _ ZG.out).mono ?_);rintro e w' ⟨rfl,⟨nd,rfl⟩⟩;refine ⟨_,rfl, ?_⟩;(try (rw [fg Ak];generalize j5:World.drewN Ak _=Ak;have aJ:aa (Ak.heap[eO]?=some (.cells #[.int .u8 0,.int .u8 0,.int .u8 0,.int .u16 0,.int .u8 0,.int .u16 0,.int .u32 0,.int .u32 0,.slice none 0 0,.slice none 0 0] 73 (0,0))):=⟨by rw [<- j5];exact (kz eU)⟩;have aQ:aa (Below w.heap.size w Ak):=⟨by rw [<- j5];exact bz HB⟩;clear eU HB j5;have eU:=aJ;have HB:=aQ;clear aJ aQ)))|((with_reducible refine ay (f:=118) rfl ?_);refine gL 47 Try.func118 #[.slice (some jl) l0.length c0,.int .i64 6] ?_;(with_reducible refine (dw.calls _ _ l0 6 sS _ ?aG ?aH uJ.out).mono ?_);(case aG=>exact Kd.aU gh.out (bz HB));(case aH=>exact jC.out);rintro e w' ⟨rfl,⟨nd,rfl⟩⟩;refine ⟨_,rfl, ?_⟩;(try (rw [fg Ak];generalize j5:World.drewN Ak _=Ak;have aJ:aa (Ak.heap[eO]?=some (.cells #[.int .u8 0,.int .u8 0,.int .u8 0,.int .u16 0,.int .u8 0,.int .u16 0,.int .u32 0,.int .u32 0,.slice none 0 0,.slice none 0 0] 73 (0,0))):=⟨by rw [<- j5];exact (kz eU)⟩;have aQ:aa (Below w.heap.size w Ak):=⟨by rw [<- j5];exact bz HB⟩;clear eU HB j5;have eU:=aJ;have HB:=aQ;clear aJ aQ))))
            have aJ:=aa.mk (aK eU.out);have aQ:=aa.mk (bf HB.out);clear eU;clear HB;have eU:=aJ;have HB:=aQ;clear aJ aQ;have ZI:0<=(1:Int):=(by omega)
            have ZJ:1<(l0.length:Int):=gD;obtain ⟨Ad8,AlK,vv⟩:=Kd.dB gh.out 1 ZI ZJ;have fW:=vv
            (try rw [show ((1:Int)).toNat=1 from rfl] at fW)
            (try rw [show 1*1=1 from rfl] at fW)
            (try simp only [Nat.reduceMul,Nat.reduceEqDiff,Go.Addr.add,↓reduceIte] at fW)
            obtain rfl:jl=Ad8:=(by injection AlK)
            (try simp only [show (1:Int).toNat=1 from rfl,Nat.reduceMul,Nat.reduceEqDiff,Go.Addr.add,↓reduceIte] at vv)
            have ApI:(1<l0.length)=True:=eq_true (by omega)
            (try rw [show ((1:Int)).toNat=1 from rfl] at vv)
            replace vv:=(HB.out.cell (dA w _ vv)).trans vv;replace ZI:=eq_true ZI;replace ZJ:=eq_true ZJ;have ZK:0<=(8:Int):=(by omega)
            have ZL:8<(l0.length:Int):=gD;obtain ⟨Ad9,AlL,vw⟩:=Kd.dB gh.out 8 ZK ZL;have fX:=vw
            (try rw [show ((8:Int)).toNat=8 from rfl] at fX)
            (try rw [show 8*1=8 from rfl] at fX)
            (try simp only [Nat.reduceMul,Nat.reduceEqDiff,Go.Addr.add,↓reduceIte] at fX)
            obtain rfl:jl=Ad9:=(by injection AlL)
            (try simp only [show (8:Int).toNat=8 from rfl,Nat.reduceMul,Nat.reduceEqDiff,Go.Addr.add,↓reduceIte] at vw)
            have ApJ:(8<l0.length)=True:=eq_true (by omega)
            (try rw [show ((8:Int)).toNat=8 from rfl] at vw)
            replace vw:=(HB.out.cell (dA w _ vw)).trans vw;replace ZK:=eq_true ZK;replace ZL:=eq_true ZL;have ZM:0<=(9:Int):=(by omega)
            have ZN:9<(l0.length:Int):=gD;obtain ⟨Aea,AlM,vA⟩:=Kd.dB gh.out 9 ZM ZN;have fY:=vA
            (try rw [show ((9:Int)).toNat=9 from rfl] at fY)
            (try rw [show 9*1=9 from rfl] at fY)
            (try simp only [Nat.reduceMul,Nat.reduceEqDiff,Go.Addr.add,↓reduceIte] at fY)
            obtain rfl:jl=Aea:=(by injection AlM)
            (try simp only [show (9:Int).toNat=9 from rfl,Nat.reduceMul,Nat.reduceEqDiff,Go.Addr.add,↓reduceIte] at vA)
            have ApK:(9<l0.length)=True:=eq_true (by omega)
            (try rw [show ((9:Int)).toNat=9 from rfl] at vA)
            replace vA:=(HB.out.cell (dA w _ vA)).trans vA;replace ZM:=eq_true ZM;replace ZN:=eq_true ZN;obtain ⟨AlN,IB,_,IC,_⟩:=info_parts gB;obtain ⟨A37,ZO,Qp,Qq⟩:=uK (P:=Try.prog) (Value.int .u8) 0 165 5 .i64 .i64 Try.underlying165 IB IC (some jl) c0 l0 20 (lS) (by omega) (by first|omega|exact gD) gD jC.out;have Wz:=aa.mk (Kd.dD (h1:=fun _=>rfl) (Qp _ (Kd.dc gh.out)));have Aeb:=aa.mk Qq;clear Qp Qq IB IC;obtain ⟨AlP,ID,_,IE,_⟩:=info_parts gB
            obtain ⟨A38,ZP,Qr,Qs⟩:=uK (P:=Try.prog) (Value.int .u8) 0 165 5 .i64 .i64 Try.underlying165 ID IE (some jl) c0 l0 (lS) (wrap64 (pX)) gD (by first|omega|exact gD) gD jC.out;have WA:=aa.mk (Kd.dD (h1:=fun _=>rfl) (Qr _ (Kd.dc gh.out)));have Aec:=aa.mk Qs;clear Qr Qs ID IE
            refine dg (n:=31) (S:=fun w'=>w'.cell? ⟨jl.block,jl.off+1,none⟩=some (.int .u8 (rd l0 1)) /\ w'.cell? ⟨jl.block,jl.off+8,none⟩=some (.int .u8 (rd l0 8)) /\ w'.cell? ⟨jl.block,jl.off+9,none⟩=some (.int .u8 (rd l0 9))) (ds:=[]) #[false,false,false,false,false,false,false,false,false,false,false,false,false,false,false,false,false,false,false,false,false,false,false,false,false,false,false,false,false,false,false] (by kernel_rfl) rfl rfl ⟨((HB.out.cell (dA w _ fW)).trans fW),((HB.out.cell (dA w _ fX)).trans fX),((HB.out.cell (dA w _ fY)).trans fY)⟩ (fun hHeld=> ?_);refine bH aY.Qe aY.Iu (fun az dW=> ?_)
            generalize Ak.drew=TZ at eU HB Wz WA vv vw vA hHeld|-
            refine pz 0 48 az ?_;refine pz 1 49 az ?_;refine pz 3 51 az ?_;refine pz 5 53 az ?_;refine pz 6 54 az ?_;refine pz 7 55 az ?_;refine pz 8 56 az ?_;refine pz 9 57 az ?_;refine pz 10 58 az ?_;refine pz 11 59 az ?_;refine pz 13 61 az ?_;refine pz 14 62 az ?_;refine pz 16 64 az ?_;refine pz 18 66 az ?_;refine pz 20 68 az ?_;refine pz 21 69 az ?_;refine pz 22 70 az ?_;refine pz 24 72 az ?_;refine pz 25 73 az ?_;refine pz 26 74 az ?_;refine pz 27 75 az ?_;refine gK (i:=2) (N:=some 50) (v:= ?_) (a':= ?_) #[true,true,true,true,false,true,true,true,true,true,true,true,false,true,true,false,true,false,true,false,true,true,true,false,true,true,true,true,false,false,false] rfl rfl (dn az.out dW.out (by kernel_rfl)) (fun _ _ _ h=>h) (Or.inl ⟨by rfl, ?_⟩) hHeld ?_ ?_
            rotate_left
            ·rintro w' ⟨s0,s1,s2⟩
             go_simp
             with_reducible rfl
            rotate_left
            ·simp only [pL]
             rfl
            refine gK (i:=12) (N:=some 60) (v:= ?_) (a':= ?_) #[true,true,true,true,false,true,true,true,true,true,true,true,true,true,true,false,true,false,true,false,true,true,true,false,true,true,true,true,false,false,false] rfl rfl (dn az.out dW.out (by kernel_rfl)) (fun _ _ _ h=>h) (Or.inl ⟨by rfl, ?_⟩) hHeld ?_ ?_
            rotate_left
            ·rintro w' ⟨s0,s1,s2⟩
             go_simp
             with_reducible rfl
            rotate_left
            ·simp only [pL]
             rfl
            refine gK (i:=15) (N:=some 63) (v:= ?_) (a':= ?_) #[true,true,true,true,false,true,true,true,true,true,true,true,true,true,true,true,true,false,true,false,true,true,true,false,true,true,true,true,false,false,false] rfl rfl (dn az.out dW.out (by kernel_rfl)) (fun _ _ _ h=>h) (Or.inl ⟨by rfl, ?_⟩) hHeld ?_ ?_
            rotate_left
            ·rintro w' ⟨s0,s1,s2⟩
             go_simp
             with_reducible rfl
            rotate_left
            ·simp only [pL]
             rfl
            refine oz 4 (some 52) az (fun K hK=> ?_);refine gG Try.func118 #[.slice (some jl) l0.length c0,.int .i64 4] ?_
            with_reducible refine (dw.calls _ _ l0 4 zl _ ?aG ?aH A22.out).mono ?_
            (case aG=>exact Kd.aU gh.out (bz HB))
            (case aH=>exact jC.out)
            rintro e w' ⟨rfl,⟨nd,rfl⟩⟩;refine ⟨_,rfl, ?_⟩;refine hK.out _ _ ⟨((HB.out.cell (dA w _ fW)).trans fW),((HB.out.cell (dA w _ fX)).trans fX),((HB.out.cell (dA w _ fY)).trans fY)⟩ (fun hHeld=> ?_);clear hK K;refine nz 52 ?_;refine oz 17 (some 65) az (fun K hK=> ?_);refine gG Try.func119 #[.slice (some jl) l0.length c0,.int .i64 12] ?_
            with_reducible refine (jg.calls _ _ l0 12 CF _ ?aG ?aH A25.out).mono ?_
            (case aG=>exact Kd.aU gh.out (bz HB))
            (case aH=>exact jC.out)
            rintro e w' ⟨rfl,⟨nd,rfl⟩⟩;refine ⟨_,rfl, ?_⟩;refine hK.out _ _ ⟨((HB.out.cell (dA w _ fW)).trans fW),((HB.out.cell (dA w _ fX)).trans fX),((HB.out.cell (dA w _ fY)).trans fY)⟩ (fun hHeld=> ?_);clear hK K;refine nz 65 ?_;refine oz 19 (some 67) az (fun K hK=> ?_);refine gG Try.func119 #[.slice (some jl) l0.length c0,.int .i64 16] ?_
            with_reducible refine (jg.calls _ _ l0 16 Em _ ?aG ?aH A26.out).mono ?_
            (case aG=>exact Kd.aU gh.out (bz HB))
            (case aH=>exact jC.out)
            rintro e w' ⟨rfl,⟨nd,rfl⟩⟩;refine ⟨_,rfl, ?_⟩;refine hK.out _ _ ⟨((HB.out.cell (dA w _ fW)).trans fW),((HB.out.cell (dA w _ fX)).trans fX),((HB.out.cell (dA w _ fY)).trans fY)⟩ (fun hHeld=> ?_);clear hK K;refine nz 67 ?_;refine oz 23 (some 71) az (fun K hK=> ?_)
            refine kF Try.func120 (by kernel_rfl) rfl #[.slice A37 ((l0.take ((lS):Int).toNat).drop 20).length (c0 - 20)] (by rfl) rfl rfl (by (try simp only [List.map_toArray,List.map_cons,List.map_nil]);first|done|(rw [show ((l0.take ((lS):Int).toNat).drop 20).length=((lS).toNat - 20) from (by rw [List.length_drop,List.length_take];have h_:((lS):Int)<=(l0.length:Int):=gD;omega)]<;>rfl)|(simp only [wu];rfl)|rfl|(simp only [List.length_drop,List.length_take];rfl)|(go_simp;done)|(simp [Act.eval,IntKind.signed];done)|(simp [Act.eval,IntKind.signed];rfl)) ?_
            with_reducible refine (iw.calls _ _ ((l0.take ((lS):Int).toNat).drop 20) FQ _ ?aG ?aH A29.out).mono ?_
            (case aG=>exact Kd.aU Wz.out (bz HB))
            (case aH=>exact Aeb.out)
            rintro e w39 ⟨AsT,rfl,gE,hb⟩;refine ⟨_,rfl, ?_⟩;have aJ:=aa.mk (Kd.bP gE (af (bz HB)));have aQ:=aa.mk (bn (kz eU) hb);have bt:=aa.mk (aq (bz HB) hb);clear eU;clear HB;have EL:=aJ;have eU:=aQ;have HB:=bt;clear aJ aQ bt
            (try clear hb)
            (try clear hb2)
            (try clear hk)
            (try clear hi)
            (try clear gE)
            refine hK.out _ _ ⟨((HB.out.cell (dA w _ fW)).trans fW),((HB.out.cell (dA w _ fX)).trans fX),((HB.out.cell (dA w _ fY)).trans fY)⟩ (fun hHeld=> ?_);clear hK K;refine nz 71 ?_;refine oz 28 (some 76) az (fun K hK=> ?_)
            refine kF Try.func120 (by kernel_rfl) rfl #[.slice A38 ((l0.take ((wrap64 (pX)):Int).toNat).drop ((lS):Int).toNat).length (c0 - (lS).toNat)] (by rfl) rfl rfl (by (try simp only [List.map_toArray,List.map_cons,List.map_nil]);first|done|(rw [show ((l0.take ((wrap64 (pX)):Int).toNat).drop ((lS):Int).toNat).length=((wrap64 (pX)).toNat - (lS).toNat) from (by rw [List.length_drop,List.length_take];have h_:((wrap64 (pX)):Int)<=(l0.length:Int):=gD;omega)]<;>rfl)|(simp only [wu];rfl)|rfl|(simp only [List.length_drop,List.length_take];rfl)|(go_simp;done)|(simp [Act.eval,IntKind.signed];done)|(simp [Act.eval,IntKind.signed];rfl)) ?_
            with_reducible refine (iw.calls _ _ ((l0.take ((wrap64 (pX)):Int).toNat).drop ((lS):Int).toNat) Ir _ ?aG ?aH A33.out).mono ?_
            (case aG=>exact Kd.aU WA.out (bz HB))
            (case aH=>exact Aec.out)
            rintro e CJ ⟨AsU,rfl,gE,hb⟩;refine ⟨_,rfl, ?_⟩;have aJ:=aa.mk (Kd.mU (Kd.rz EL) (Kd.kf gE) hb);have aQ:=aa.mk (Kd.bP (Kd.ry gE (Kd.oL (Kd.rz EL))) (af (bz HB)));have bt:=aa.mk (bn (kz eU) hb);have cr:=aa.mk (aq (bz HB) hb);clear EL;clear eU;clear HB;have EL:=aJ;have WB:=aQ;have eU:=bt;have HB:=cr;clear aJ aQ bt cr
            (try clear hb)
            (try clear hb2)
            (try clear hk)
            (try clear hi)
            (try clear gE)
            obtain ⟨ZQ,ZR,Aed⟩:=Kd.da WB.out
            (first|subst Aed|(injection Aed with mY rD mZ;have rE:=mY.symm;have rF:=mZ.symm;clear mY rD mZ;subst rE;subst rF))
            obtain ⟨Bu,Bv,Qt⟩:=Kd.da EL.out
            (first|subst Qt|(injection Qt with mY rD mZ;have rE:=mY.symm;have rF:=mZ.symm;clear mY rD mZ;subst rE;subst rF))
            refine hK.out _ _ ⟨((HB.out.cell (dA w _ fW)).trans fW),((HB.out.cell (dA w _ fX)).trans fX),((HB.out.cell (dA w _ fY)).trans fY)⟩ (fun hHeld=> ?_);clear hK K;refine nz 76 ?_;refine pz 29 77 az ?_;refine oz 30 (none) az (fun K hK=> ?_);have ApM:=rC eU.out;have AlR:=ae eU.out;refine wJ (w1:= ?_) (by rfl) rfl ?_ ?_
            rotate_left
            ·go_simp
             rfl
            refine hK.out _ _ ⟨((cell_far (p:=⟨eO,_,none⟩) (by first|exact eD fW fM.out|exact eE fW fM.out) _).trans (((cell_far (p:=⟨eO,_,none⟩) (by first|exact eD fW fM.out|exact eE fW fM.out) _).trans (((cell_far (p:=⟨eO,_,none⟩) (by first|exact eD fW fM.out|exact eE fW fM.out) _).trans (((cell_far (p:=⟨eO,_,none⟩) (by first|exact eD fW fM.out|exact eE fW fM.out) _).trans (((cell_far (p:=⟨eO,_,none⟩) (by first|exact eD fW fM.out|exact eE fW fM.out) _).trans (((cell_far (p:=⟨eO,_,none⟩) (by first|exact eD fW fM.out|exact eE fW fM.out) _).trans (((cell_far (p:=⟨eO,_,none⟩) (by first|exact eD fW fM.out|exact eE fW fM.out) _).trans (((cell_far (p:=⟨eO,_,none⟩) (by first|exact eD fW fM.out|exact eE fW fM.out) _).trans (((cell_far (p:=⟨eO,_,none⟩) (by first|exact eD fW fM.out|exact eE fW fM.out) _).trans (((cell_far (p:=⟨eO,_,none⟩) (by first|exact eD fW fM.out|exact eE fW fM.out) _).trans (hHeld.1)))))))))))))))))))),((cell_far (p:=⟨eO,_,none⟩) (by first|exact eD fX fM.out|exact eE fX fM.out) _).trans (((cell_far (p:=⟨eO,_,none⟩) (by first|exact eD fX fM.out|exact eE fX fM.out) _).trans (((cell_far (p:=⟨eO,_,none⟩) (by first|exact eD fX fM.out|exact eE fX fM.out) _).trans (((cell_far (p:=⟨eO,_,none⟩) (by first|exact eD fX fM.out|exact eE fX fM.out) _).trans (((cell_far (p:=⟨eO,_,none⟩) (by first|exact eD fX fM.out|exact eE fX fM.out) _).trans (((cell_far (p:=⟨eO,_,none⟩) (by first|exact eD fX fM.out|exact eE fX fM.out) _).trans (((cell_far (p:=⟨eO,_,none⟩) (by first|exact eD fX fM.out|exact eE fX fM.out) _).trans (((cell_far (p:=⟨eO,_,none⟩) (by first|exact eD fX fM.out|exact eE fX fM.out) _).trans (((cell_far (p:=⟨eO,_,none⟩) (by first|exact eD fX fM.out|exact eE fX fM.out) _).trans (((cell_far (p:=⟨eO,_,none⟩) (by first|exact eD fX fM.out|exact eE fX fM.out) _).trans (hHeld.2.1)))))))))))))))))))),((cell_far (p:=⟨eO,_,none⟩) (by first|exact eD fY fM.out|exact eE fY fM.out) _).trans (((cell_far (p:=⟨eO,_,none⟩) (by first|exact eD fY fM.out|exact eE fY fM.out) _).trans (((cell_far (p:=⟨eO,_,none⟩) (by first|exact eD fY fM.out|exact eE fY fM.out) _).trans (((cell_far (p:=⟨eO,_,none⟩) (by first|exact eD fY fM.out|exact eE fY fM.out) _).trans (((cell_far (p:=⟨eO,_,none⟩) (by first|exact eD fY fM.out|exact eE fY fM.out) _).trans (((cell_far (p:=⟨eO,_,none⟩) (by first|exact eD fY fM.out|exact eE fY fM.out) _).trans (((cell_far (p:=⟨eO,_,none⟩) (by first|exact eD fY fM.out|exact eE fY fM.out) _).trans (((cell_far (p:=⟨eO,_,none⟩) (by first|exact eD fY fM.out|exact eE fY fM.out) _).trans (((cell_far (p:=⟨eO,_,none⟩) (by first|exact eD fY fM.out|exact eE fY fM.out) _).trans (((cell_far (p:=⟨eO,_,none⟩) (by first|exact eD fY fM.out|exact eE fY fM.out) _).trans (hHeld.2.2))))))))))))))))))))⟩ (fun hHeld=> ?_)
            clear hK K;refine dz az ?_
            try go_wp2
            refine bodyPost_ret (results_cell_row rfl _ _ eO 73 #[.int .u8 (rd l0 1),.int .u8 (rd l0 8),.int .u8 (rd l0 9),.int .u16 zl,.int .u8 ((sS / 8192) % 256),.int .u16 (Go.bits .and .u16 sS 8191),.int .u32 CF,.int .u32 Em,.slice Bu FQ.length Bv,.slice ZQ Ir.length ZR] (0,0) _ rfl (by (with_reducible repeat (first|refine aN ?_ _|refine aK ?_|refine aM ?_ _));refine bM (cs:= #[.int .u8 (rd l0 1),.int .u8 (rd l0 8),.int .u8 (rd l0 9),.int .u16 zl,.int .u8 ((sS / 8192) % 256),.int .u16 (Go.bits .and .u16 sS 8191),.int .u32 CF,.int .u32 Em,.slice Bu FQ.length Bv,.slice none 0 0]) ?_ 9 _ rfl;(with_reducible repeat (first|refine aN ?_ _|refine aK ?_|refine aM ?_ _));refine bM (cs:= #[.int .u8 (rd l0 1),.int .u8 (rd l0 8),.int .u8 (rd l0 9),.int .u16 zl,.int .u8 ((sS / 8192) % 256),.int .u16 (Go.bits .and .u16 sS 8191),.int .u32 CF,.int .u32 Em,.slice none 0 0,.slice none 0 0]) ?_ 8 _ rfl;(with_reducible repeat (first|refine aN ?_ _|refine aK ?_|refine aM ?_ _));refine bM (cs:= #[.int .u8 (rd l0 1),.int .u8 (rd l0 8),.int .u8 (rd l0 9),.int .u16 zl,.int .u8 ((sS / 8192) % 256),.int .u16 (Go.bits .and .u16 sS 8191),.int .u32 CF,.int .u32 0,.slice none 0 0,.slice none 0 0]) ?_ 7 _ rfl;(with_reducible repeat (first|refine aN ?_ _|refine aK ?_|refine aM ?_ _));refine bM (cs:= #[.int .u8 (rd l0 1),.int .u8 (rd l0 8),.int .u8 (rd l0 9),.int .u16 zl,.int .u8 ((sS / 8192) % 256),.int .u16 (Go.bits .and .u16 sS 8191),.int .u32 0,.int .u32 0,.slice none 0 0,.slice none 0 0]) ?_ 6 _ rfl;(with_reducible repeat (first|refine aN ?_ _|refine aK ?_|refine aM ?_ _));refine bM (cs:= #[.int .u8 (rd l0 1),.int .u8 (rd l0 8),.int .u8 (rd l0 9),.int .u16 zl,.int .u8 ((sS / 8192) % 256),.int .u16 0,.int .u32 0,.int .u32 0,.slice none 0 0,.slice none 0 0]) ?_ 5 _ rfl;(with_reducible repeat (first|refine aN ?_ _|refine aK ?_|refine aM ?_ _));refine bM (cs:= #[.int .u8 (rd l0 1),.int .u8 (rd l0 8),.int .u8 (rd l0 9),.int .u16 zl,.int .u8 0,.int .u16 0,.int .u32 0,.int .u32 0,.slice none 0 0,.slice none 0 0]) ?_ 4 _ rfl;(with_reducible repeat (first|refine aN ?_ _|refine aK ?_|refine aM ?_ _));refine bM (cs:= #[.int .u8 (rd l0 1),.int .u8 (rd l0 8),.int .u8 (rd l0 9),.int .u16 0,.int .u8 0,.int .u16 0,.int .u32 0,.int .u32 0,.slice none 0 0,.slice none 0 0]) ?_ 3 _ rfl;(with_reducible repeat (first|refine aN ?_ _|refine aK ?_|refine aM ?_ _));refine bM (cs:= #[.int .u8 (rd l0 1),.int .u8 (rd l0 8),.int .u8 0,.int .u16 0,.int .u8 0,.int .u16 0,.int .u32 0,.int .u32 0,.slice none 0 0,.slice none 0 0]) ?_ 2 _ rfl;(with_reducible repeat (first|refine aN ?_ _|refine aK ?_|refine aM ?_ _));refine bM (cs:= #[.int .u8 (rd l0 1),.int .u8 0,.int .u8 0,.int .u16 0,.int .u8 0,.int .u16 0,.int .u32 0,.int .u32 0,.slice none 0 0,.slice none 0 0]) ?_ 1 _ rfl;(with_reducible repeat (first|refine aN ?_ _|refine aK ?_|refine aM ?_ _));refine bM (cs:= #[.int .u8 0,.int .u8 0,.int .u8 0,.int .u16 0,.int .u8 0,.int .u16 0,.int .u32 0,.int .u32 0,.slice none 0 0,.slice none 0 0]) ?_ 0 _ rfl;(with_reducible repeat (first|refine aN ?_ _|refine aK ?_|refine aM ?_ _));exact eU.out) Try.underlying73 rfl (by kernel_rfl)) rfl ?_
            exact ⟨_,_,by first|rfl|(simp [aj,ak]<;>rfl)|(simp only [<- wu];first|rfl|(simp [aj,ak]<;>rfl))|(simp [*,aj,ak]<;>rfl),by (with_reducible repeat (first|apply Kd.eX|apply Kd.eT|apply Kd.eY));exact Kd.dm (Kd.eF (p:=⟨eO,9,none⟩) (Kd.eF (p:=⟨eO,8,none⟩) (Kd.eF (p:=⟨eO,7,none⟩) (Kd.eF (p:=⟨eO,6,none⟩) (Kd.eF (p:=⟨eO,5,none⟩) (Kd.eF (p:=⟨eO,4,none⟩) (Kd.eF (p:=⟨eO,3,none⟩) (Kd.eF (p:=⟨eO,2,none⟩) (Kd.eF (p:=⟨eO,1,none⟩) (Kd.eF (p:=⟨eO,0,none⟩) (Kd.mL EL.out eU.out (by decide)) (fun _ hk=>hk.2) (.int .u8 (rd l0 1))) (fun _ hk=>hk.2) (.int .u8 (rd l0 8))) (fun _ hk=>hk.2) (.int .u8 (rd l0 9))) (fun _ hk=>hk.2) (.int .u16 zl)) (fun _ hk=>hk.2) (.int .u8 ((sS / 8192) % 256))) (fun _ hk=>hk.2) (.int .u16 (Go.bits .and .u16 sS 8191))) (fun _ hk=>hk.2) (.int .u32 CF)) (fun _ hk=>hk.2) (.int .u32 Em)) (fun _ hk=>hk.2) (.slice Bu FQ.length Bv)) (fun _ hk=>hk.2) (.slice ZQ Ir.length ZR)) (fun _ hk=>hk.1.2),by (with_reducible repeat (first|apply Kd.eX|apply Kd.eT|apply Kd.eY));exact Kd.dm (Kd.eF (p:=⟨eO,9,none⟩) (Kd.eF (p:=⟨eO,8,none⟩) (Kd.eF (p:=⟨eO,7,none⟩) (Kd.eF (p:=⟨eO,6,none⟩) (Kd.eF (p:=⟨eO,5,none⟩) (Kd.eF (p:=⟨eO,4,none⟩) (Kd.eF (p:=⟨eO,3,none⟩) (Kd.eF (p:=⟨eO,2,none⟩) (Kd.eF (p:=⟨eO,1,none⟩) (Kd.eF (p:=⟨eO,0,none⟩) (Kd.mL WB.out eU.out (by decide)) (fun _ hk=>hk.2) (.int .u8 (rd l0 1))) (fun _ hk=>hk.2) (.int .u8 (rd l0 8))) (fun _ hk=>hk.2) (.int .u8 (rd l0 9))) (fun _ hk=>hk.2) (.int .u16 zl)) (fun _ hk=>hk.2) (.int .u8 ((sS / 8192) % 256))) (fun _ hk=>hk.2) (.int .u16 (Go.bits .and .u16 sS 8191))) (fun _ hk=>hk.2) (.int .u32 CF)) (fun _ hk=>hk.2) (.int .u32 Em)) (fun _ hk=>hk.2) (.slice Bu FQ.length Bv)) (fun _ hk=>hk.2) (.slice ZQ Ir.length ZR)) (fun _ hk=>hk.1.2),bz HB⟩
           ·rw [ax KN] at H
            cases H
          ·rw [ax Qk] at H
           cases H
         ·rw [ax Tb] at H
          cases H
        ·rw [ax Mw] at H
         cases H
       ·rw [ax Ix] at H
        cases H
      ·rw [ax Ta] at H
       cases H
     ·rw [ax KM] at H
      cases H
    ·rw [ax wP] at H
     cases H
 ·rw [ax c3] at H
  cases H
end Go.Proofs.Ytkmimamminddiaa.PB
