/- Texts of this claim, merged: Sq, RwLib, PBx0, RwM, Sz, PBx11, PBx50, RwTp, PBx17, PBx18, PBx51, RwOf, PBx8, PBx13, PBx14. -/
import Derived.Test.YtkmimamminddiaaZoa
import Derived.KernelRfl
import Derived.Test.YtkmimamminddiaaProg
import Derived.Below
import Derived.Deep.Draws
import Derived.Deep.AppendLies
import Derived.Maps.AppendAt
import Derived.OwnWalk
import Derived.Laws.BytesArg
import Derived.Laws.MakeOwn
import Derived.Laws.OwnMore
import Derived.Deep.OwnRows
import Derived.Tactics
import Derived.Deep.Cut
import Derived.Deep.CutRange
import Derived.Deep.CutBlock
import Derived.Deep.WholeRow
import Derived.Deep.MidRow
import Derived.Lib.ConvBytes
import Derived.Laws.Slices
import Derived.WalkKit
import Derived.RowKit3
import Derived.Deep.LoopGhost
import Derived.Deep.QuietTactic
import Derived.BigQuiet
import Derived.WideLaws
import Derived.Deep.DeepCutAuto
import Derived.Deep.RegionHeld3
import Derived.Laws.Rows
import Derived.Lib.AppendStr
import Derived.ArgAppend
import Derived.Laws.IdiomCopy
import Derived.OrdersHeld
import Derived.Laws.BitsLemmas
import Derived.RowKit
import Derived.Defers
import Derived.Recover
import Derived.ChangeKeysEq
set_option maxHeartbeats 40000000
set_option maxRecDepth 100000
set_option linter.unusedVariables false
set_option linter.unusedSimpArgs false
namespace Go.Proofs.YtkmimamminddiaaW.PrintLast
open Go.RowKit Go.Proofs.YtkmimamminddiaaW.PrintWords
theorem Ale (t:List Value) (d:_) (n:Tmp) (v:Value):Act.put ⟨t.toArray,d⟩ (some n) v=⟨(t.set n v).toArray,d⟩:=by simp [Act.put]
theorem Alf (a:Act) (v:Value):Act.put a none v=a:=rfl
theorem Alg (x y:Value) (l:List Value):(x::l).set 0 y=y::l:=rfl
theorem Alh (x y:Value) (l:List Value) (n:Nat):(x::l).set (n+1) y=x::l.set n y:=rfl
theorem vF:(∀ (t:List Value) (d:_) (n:Tmp) (v:Value),Act.put ⟨t.toArray,d⟩ (some n) v=⟨(t.set n v).toArray,d⟩) /\ (∀ (a:Act) (v:Value),Act.put a none v=a) /\ (∀ (x y:Value) (l:List Value),(x::l).set 0 y=y::l) /\ (∀ (x y:Value) (l:List Value) (n:Nat),(x::l).set (n+1) y=x::l.set n y) /\ (∀ n:Int,IntKind.i64.wrap n=wrap64 n) /\ (∀ n:Int,IntKind.i32.wrap n=wrap32 n):=⟨Ale,Alf,Alg,Alh,i64_w,i32_w⟩
section
variable {P:Program} {ops:Array Oper} {Q:Exit ->Act ->World ->Prop} {md:Region.Mode} {S:World ->Prop} {ds:List Nat} {T:Bool×List (List Nat×List Nat)} {B:List Nat} {l:Array Bool} {N:Option Tmp} {oi:Oper} {v:Value} {fuel:Nat} {a a':Act} {w:World}
theorem pz (i n:Nat) (hT:Aside0 (rtab md ops=T)) (h:dD P md ops Q S ds fuel (l.setIfInBounds i true) a' w) (hi:ops[i]?=some oi:=by rfl) (hN:oi.dst=some n:=by rfl) (hc:Acq T l.toList (l.setIfInBounds i true).toList i=true:=by kernel_rfl) (hQ:∀ c a w,Q (.panic c) (a.put oi.dst v) w ->Q (.panic c) a w:=by exact fun _ _ _ h=>h)
  (hw:Region.wanted oi (yielded ops a.tmps)=true:=by rfl) (hr:∀ w',(execOp a.eval oi).run P w'= .ok (.value v) w':=by (intro w';go_simp;with_reducible rfl)) (ha:a.put (some n) v=a':=by (simp only [vF];rfl)):dD P md ops Q S ds (fuel+1) l a w:=
 pure_ (l.setIfInBounds i true) hi hN (any_of hT.out hc) hQ (Or.inl ⟨hw,hr⟩) ha h
theorem tz (i n:Nat) (hT:Aside0 (rtab md ops=T)) (hB:Aside0 (waitsOk T.2 B=true)) (hS:S w) (h:dD P md ops Q S ds fuel (l.setIfInBounds i true) a' w) (hi:ops[i]?=some oi:=by rfl) (hN:oi.dst=some n:=by rfl) (hc:Vx T B ds l.toList (l.setIfInBounds i true).toList i=true:=by kernel_rfl) (hQ:∀ c a w,Q (.panic c) (a.put oi.dst v) w ->Q (.panic c) a w:=by exact fun _ _ _ h=>h)
  (hw:Region.wanted oi (yielded ops a.tmps)=true:=by rfl) (hr:∀ w',S w' ->(execOp a.eval oi).run P w'= .ok (.value v) w':=by (intro w' s0;go_simp;with_reducible rfl)) (ha:a.put (some n) v=a':=by (simp only [vF];rfl)):dD P md ops Q S ds (fuel+1) l a w:=
 take_ (l.setIfInBounds i true) hi hN (take_ofW hT.out hB.out hc) hQ (Or.inl ⟨hw,hr⟩) hS ha h
theorem oz (i:Nat) (N:Option Tmp) (hT:Aside0 (rtab md ops=T)) (h:∀ K:Act ->World ->Prop,Shut (∀ a' w',S w' ->(S w' ->dD P md ops Q S ds fuel (l.setIfInBounds i true) a' w') ->K a' w') ->if Region.wanted oi (yielded ops a.tmps)=true then Oper.wp P oi a w K Q else K (a.put N undef) w) (hi:ops[i]?=some oi:=by rfl) (hN:oi.dst=N:=by rfl) (hc:(CO T.2 l.toList==[i] && l.toList.set i true==(l.setIfInBounds i true).toList)=true:=by kernel_rfl) (hd:i ∉ ds:=by decide):dD P md ops Q S ds (fuel+1) l a w:=
 one_ (l.setIfInBounds i true) hi hN (one_of hT.out hc) hd h
theorem nz (n:Tmp) {b:Act} (h:dD P md ops Q S ds fuel l a' w) (ha:Act.put b (some n) v=a':=by (simp only [vF];rfl)):dD P md ops Q S ds fuel l (Act.put b (some n) v) w:=norm_ ha h
theorem dz {n:Nat} (hT:Aside0 (rtab md ops=T)) (h:Q .normal a w) (hc:(CO T.2 l.toList==[])=true:=by kernel_rfl):dD P md ops Q S ds n l a w:=done_ (done_of hT.out hc) h
end
theorem cz {w:World} {g:Nat} {cs:Array Value} {t:TypeId} {f:Nat×Nat} {v:Value} (h:w.heap[g]?=some (.cells cs t f)) (i:Nat) (e:cs[i]?=some v):w.cell? ⟨g,i,none⟩=some v:=(cell_of_row w g i cs t f h).trans e
theorem fU {w:World} {a:Addr} {v:Value} {g:Nat} (h:w.cell? a=some v) (hg:w.heap.size<=g):a.block≠g:=Nat.ne_of_lt (Nat.lt_of_lt_of_le (dS w a h) hg)
theorem fV {w:World} {a:Addr} {v:Value} {g i:Nat} (h:w.cell? (a.add i)=some v) (hg:w.heap.size<=g):a.block≠g:=by
 have h1:=fU h hg
 rwa [add_block] at h1
end Go.Proofs.YtkmimamminddiaaW.PrintLast
namespace Go.Proofs.Ytkmimamminddiaa.PB
open Go.RowKit Go.Proofs.YtkmimamminddiaaW.PrintWords Go.Proofs.YtkmimamminddiaaW.PrintLast Go.Proofs.YtkmimamminddiaaW.PrintMore
theorem dI {α β:Type} {x:Option α} {f:α ->Option β} {r:β} (h:x.bind f=some r):∃ y,x=some y /\ f y=some r:=by
 cases x with
 |none=>cases h
 |some y=>exact ⟨y,rfl,h⟩
theorem kW (w:World) (o:Obj):(w.alloc o).heap[w.heap.size]?=some o:=by simp [World.alloc, -World.alloc_eq]
structure Off (W w1:World) (g:Nat):Prop where
 os:w1.os=W.os
 tape:w1.tape=W.tape
 output:w1.output=W.output
 size:w1.heap.size=W.heap.size
 far:∀ k,k≠g ->w1.heap[k]?=W.heap[k]?
theorem Off.setCell (W:World) (g i:Nat) (v:Value):Off W (W.setCell ⟨g,i,none⟩ v) g:=⟨rfl,rfl,rfl,by simp [World.setCell],fun k hk=>Below.heap_setCell W ⟨g,i,none⟩ v k hk⟩
theorem Off.below {W w1 w:World} {g B:Nat} (h:Off W w1 g) (hB:Below B w W) (hg:B<=g):Below B w w1:=
 ⟨h.os.trans hB.os,h.tape.trans hB.tape,h.output.trans hB.output,by rw [h.size];exact hB.size,fun i hi=>(h.far i (by omega)).trans (hB.block i hi)⟩
theorem Off.blk {W w1:World} {g g' t t':Nat} {cs ds:Array Value} {f:Nat×Nat} (h:Off W w1 g) (hx:W.heap[g']?=some (.cells cs t' f)) (hg:W.heap[g]?=some (.cells ds t (0,0))) (ht:t'≠t):w1.heap[g']?=some (.cells cs t' f):=
 (h.far g' (fun e=>by subst e;rw [hx] at hg;injection hg with hg;injection hg with h1 h2;exact ht h2)).trans hx
theorem Off.Ali {W w1:World} {g g':Nat} {o:Obj} (h:Off W w1 g) (hx:W.heap[g']?=some o) (hn:g'≠g):w1.heap[g']?=some o:=(h.far g' hn).trans hx
theorem Off.R {k:IntKind} {e:Nat} {W w1:World} {base:Nat} {v:Value} {xs:List Int} {g t:Nat} {ds:Array Value} (h:Off W w1 g) (hr:Kd.R (Kd.int k) e W base (fun _=>True) v xs) (hg:W.heap[g]?=some (.cells ds t (0,0))) (ht:e≠t):Kd.R (Kd.int k) e w1 base (fun _=>True) v xs:=
 Kd.R_mono (Kd.CE (Kd.qY hr hg (fun q hq=>by have e_:q=e:=(List.mem_cons.1 hq).resolve_right (fun h=>nomatch h);rw [e_];exact ht)) (fun k hk _=>h.far k hk.2)) (fun _ hk=>hk.1)
section
variable {P:Program} {ops:Array Oper} {rest:List Oper} {o:Oper} {a:Act} {Q:Exit ->Act ->World ->Prop}
theorem rq {W w1:World} (hgd:o.guard=none) (hd:o.dst=none) (hrun:(execOp a.eval o).run P W= .ok .skip w1) (h:wpList P ops Q rest a w1):wpList P ops Q (o::rest) a W:=by
 refine wpList_plain hgd fun K hK=> ?_
 unfold Oper.wp;rw [hrun];refine hK _ _ ?_;rw [hd];exact h
theorem rw_set {W:World} {g t i:Nat} {cs cs':Array Value} {v:Value} (hgd:o.guard=none) (hd:o.dst=none) (hb:W.heap[g]?=some (.cells cs t (0,0))) (he:cs.setIfInBounds i v=cs') (hrun:(execOp a.eval o).run P W= .ok .skip (W.setCell ⟨g,i,none⟩ v))
  (h:∀ w1,w1.heap[g]?=some (.cells cs' t (0,0)) ->Off W w1 g ->wpList P ops Q rest a w1):wpList P ops Q (o::rest) a W:=
 rq hgd hd hrun (h _ (bH hb i v he) (Off.setCell W g i v))
theorem rw_load {w:World} {c:Array Value} {g:Nat} {t ty:TypeId} {p:Operand} {d:TypeDesc} (ho:o.op= .load ty p) (hp:a.eval p= .pointer (some ⟨g,0,none⟩)) (hg:w.heap[g]?=some (.cells c t (0,0))) (hu:P.underlying ty=some d) (hd:(match d with| .struct _| .array _ _=>true|_=>false)=true) (hi:(P.info? ty).map (·.size)=some c.size):
  (execOp a.eval o).run P w= .ok (.value (.agg c)) w:=by
 have h:=run_loadVar_row (P:=P) w g t ty c (0,0) d hg hu hd hi;unfold execOp;simp only [ho,hp]
 simp [Instr.loadAt,Instr.sureAddr,h,Sem.run_bind,Result.andThen]
theorem Qr {w:World} {old c':Array Value} {g:Nat} {t ty:TypeId} {p x:Operand} (ho:o.op= .store ty p x) (hp:a.eval p= .pointer (some ⟨g,0,none⟩)) (hx:a.eval x= .agg c') (hg:w.heap[g]?=some (.cells old t (0,0))) (hi:(P.info? ty).map (·.size)=some c'.size) (hs:old.size=c'.size) (h1:c'.all (·.oneCell')=true):
  (execOp a.eval o).run P w= .ok .skip (w.setRow g c'):=by
 have h:=run_storeVar_row (P:=P) w g t ty old c' hg hi hs h1;unfold execOp;simp only [ho,hp,hx]
 simp [Instr.storeAt,Instr.sureAddr,h,Sem.run_bind,Result.andThen]
theorem zT {w:World} {c c':Array Value} {t:TypeId} {p x:Operand} (ho:o.op= .store t p x) (hp:a.eval p= .pointer (some ⟨w.heap.size,0,none⟩)) (hx:a.eval x= .agg c') (hi:(P.info? t).map (·.size)=some c'.size) (hs:c.size=c'.size) (h1:c'.all (·.oneCell')=true):
  (execOp a.eval o).run P (w.alloc (.cells c t))= .ok .skip (w.alloc (.cells c' t)):=by
 have h:=run_storeAt_new (P:=P) w t c c' hi hs h1;unfold execOp;simp only [ho,hp,hx]
 simp [h,Sem.run_bind,Result.andThen]
end
section
variable {P:Program} {ops:Array Oper} {rest:List Oper} {o:Oper} {a:Act} {Q:Exit ->Act ->World ->Prop}
theorem Y1 {W:World} (hgd:o.guard=none) {cs:Array Value} {t:TypeId} {n:Nat} (hrun:(execOp a.eval o).run P W= .ok (.value (.slice (some ⟨W.heap.size,0,none⟩) n n)) (W.alloc (.cells cs t)))
  (h:∀ g,∀ w1,w1.heap[g]?=some (.cells cs t (0,0)) ->g=W.heap.size ->Below W.heap.size W w1 ->wpList P ops Q rest (a.put o.dst (.slice (some ⟨g,0,none⟩) n n)) w1):wpList P ops Q (o::rest) a W:=Kd.event_run hgd hrun (h _ _ (kW _ _) rfl (fA (Below.refl _ _) _))
theorem AcG (k:IntKind) {w0 W:World} (base e:Nat) (hgd:o.guard=none) {N:Tmp} (hd:o.dst=some N) (xs:List Int) (hrun:(execOp a.eval o).run P W= .ok (.value (.slice (some ⟨W.heap.size,0,none⟩) xs.length xs.length)) (W.alloc (.cells (xs.map (Value.int k)).toArray e))) (HB:Below base w0 W) (hbase:base<=W.heap.size) (hm:xs.length<=9223372036854775807)
  (h:∀ A c w1,Kd.R (Kd.int k) e w1 base (fun _=>True) (.slice A xs.length c) xs ->Below base w0 w1 ->W.grownBy w1 none ->wpList P ops Q rest (a.put o.dst (.slice A xs.length c)) w1):wpList P ops Q (o::rest) a W:=
 Kd.wI (Kd.int k) base e hgd hd (xs:=xs) (inner:=xs.map (Value.int k)) (ok:=fun _=>True) (xw:=fun _=>True) hrun (Kd.Ij (enc:=Value.int k) xs) (fun _ h=>h) trivial HB hbase hm (fun v1 w1 ho hb hg _=>by
  obtain ⟨A,c,rfl⟩:=Kd.dN ho
  exact h A c w1 ho hb hg)
end
theorem Y2 {W:World} {g t:Nat} {c:Array Value} {f:Nat×Nat} (cs:Array Value) (h:W.heap[g]?=some (.cells c t f)):(W.setRow g cs).heap[g]?=some (.cells cs t f):=setRow_heap W g c cs t f h
theorem Off.setRow {W:World} (g:Nat) (cs:Array Value):Off W (W.setRow g cs) g:=⟨rfl,rfl,rfl,by simp [World.setRow],fun k hk=>setRow_other W g k cs (fun e=>hk e)⟩
theorem qH {k:IntKind} {w:World} {g t m:Nat} {xs:List Int} {cs:Array Value} {f:Nat×Nat} (h:w.heap[g]?=some (.cells cs t f)) (hc:cs=(xs.map (Value.int k)).toArray) (hm:m<=xs.length) (hd:xs.length<=1000000):Kd.C (Kd.int k) w (some ⟨g,0,none⟩) (xs.take m).length (xs.take m):=
 Kd.dR (enc:=Value.int k) (d:=(0:Int)) (h1:=fun _=>rfl) ⟨rfl,by rw [List.length_take];omega,fun _=>⟨_,rfl,fun j hj=>by
  rw [List.length_take] at hj
  have ha:(⟨g,0,none⟩:Addr).add j=⟨g,j,none⟩:=add_plain g j;rw [ha];subst hc;refine (cell_of_row w g j _ t f h).trans ?_
  simp [List.getD_eq_getElem?_getD,List.getElem?_eq_getElem (show j<xs.length by omega),List.getElem?_take,show j<m by omega]⟩⟩
theorem Y3 {P:Program} (t e:TypeId) (kh:IntKind) {i:TypeInfo} (ht:P.underlying t=some (.slice e)) (hi:P.info? e=some i) (A:Option Addr) (n c:Nat) (j:Int) (m:Nat) (hj:j=(m:Int)) (hm:m<=n) (hc:n<=c):∀ W:World,(Instr.slice t (.slice A n c) none (some (.int kh j)) none).run P W= .ok (.slice A m c) W:=by
 subst hj;have:=TR (P:=P) t e kh ht hi A n c (m:Int) (by omega) (by omega) hc
 simpa using this
attribute [local go_sem] dV dW gI gJ dG dH dX dY
def Alj:Option Int ->Value
 |none=> .nilIface
 |some c=> .iface 0 (.int .i64 c)
theorem ae:Alj none= .nilIface:=rfl
theorem af (c:Int):Alj (some c)= .iface 0 (.int .i64 c):=rfl
theorem info5:(Try.prog.info? 5).map (fun i=>(i.zero,i.size,i.bytes))=some (some (.int .u8 0),1,1):=by kernel_rfl
theorem Ou:(Try.prog.info? 45).map (fun i=>(i.zero,i.size,i.bytes))=some (some (.int .u16 0),1,2):=by kernel_rfl
def wY (xs:List (List Int)) (i:Int):(List Int):=xs.getD i.toNat ([]:List Int)
theorem AeI {w:World} {A:Option Addr} {n:Nat} {xs:List (List Int)} (h:Kd.C (Kd.slice 5 (Kd.int .u8)) w A n xs) (i:Int) (h0:0<=i) (h1:i<n):∃ ad A0 c0,A=some ad /\ w.cell? (ad.add i.toNat)=some (.slice A0 (wY xs i).length c0) /\ (wY xs i).length<=c0 /\ (Kd.int .u8).C w A0 (wY xs i).length (wY xs i):=by
 obtain ⟨ad,c,e,_,hK,hc0⟩:=Kd.AeF h ([]:List Int) i h0 h1;have hc:∀ j u,c[j]?=some u ->w.cell? (ad.add (i.toNat*1+j))=some u:=hc0;obtain ⟨A0,c0,rfl,l0,g0⟩:=hK;exact ⟨ad,A0,c0,e,by have hq:=hc 0 _ rfl;rwa [Nat.mul_one,Nat.add_zero] at hq,l0,g0⟩
structure S65 where
 f0:Int
 f1:Int
def z65:S65:=⟨(0:Int),(0:Int)⟩
def k65:Kd S65:=Kd.iso (Kd.pair (Kd.int .u32) (Kd.int .u16)) (fun x:S65=>(x.f0,x.f1))
theorem Y4 {w:World} {x:S65} {cs:List Value} (h:k65.K w x cs):cs=[.int .u32 x.f0,.int .u16 x.f1]:=by
 obtain ⟨_,_,rfl,rfl,rfl⟩:=h;exact rfl
theorem DU (w:World) (base:Nat) (ok:Nat ->Prop) (x:S65):k65.M w base ok x [.int .u32 x.f0,.int .u16 x.f1]:=⟨[.int .u32 x.f0],[.int .u16 x.f1],rfl,rfl,rfl⟩
def qI (xs:List S65) (i:Int):S65:=xs.getD i.toNat z65
theorem at_T65 {w:World} {A:Option Addr} {n:Nat} {xs:List S65} (h:Kd.C k65 w A n xs) (i:Int) (h0:0<=i) (h1:i<n):∃ ad,A=some ad /\ w.cell? (ad.add (i.toNat*2))=some (.int .u32 (qI xs i).f0) /\ w.cell? ⟨(ad.add (i.toNat*2)).block,(ad.add (i.toNat*2)).off+1,none⟩=some (.int .u16 (qI xs i).f1):=by
 obtain ⟨ad,c,e,_,hK,hc0⟩:=Kd.AeF h z65 i h0 h1;have hc:∀ j u,c[j]?=some u ->w.cell? (ad.add (i.toNat*2+j))=some u:=hc0;obtain rfl:=Y4 hK;exact ⟨ad,e,hc 0 _ rfl,by rw [<- Xb _ _ 1 (by omega)];exact hc 1 _ rfl⟩
theorem mB {w W w2:World} (h:Aside0 (Below w.heap.size w W)) (k:Below W.heap.size W w2):Aside0 (Below w.heap.size w w2):=⟨ag h.out k⟩
theorem mX {w w1:World} {g:Nat} {o:Obj} (h:Aside0 (w.heap[g]?=some o)) (hb:Below w.heap.size w w1):Aside0 (w1.heap[g]?=some o):=⟨aZ h.out hb⟩
theorem mR {k:IntKind} {e base:Nat} {ok:Nat ->Prop} {w w1:World} {v:Value} {xs:List Int} (h:Aside0 (Kd.R (Kd.int k) e w base ok v xs)) (hb:Below w.heap.size w w1):Aside0 (Kd.R (Kd.int k) e w1 base ok v xs):=⟨Kd.jd h.out hb⟩
theorem mI {e base:Nat} {ok:Nat ->Prop} {w w1:World} {v:Value} {xs:List S65} (h:Aside0 (Kd.R k65 e w base ok v xs)) (hb:Below w.heap.size w w1):Aside0 (Kd.R k65 e w1 base ok v xs):=⟨Kd.jd h.out hb⟩
theorem mC {k:IntKind} {w w1:World} {A:Option Addr} {n:Nat} {xs:List Int} (h:Aside0 (Kd.C (Kd.int k) w A n xs)) (hb:Below w.heap.size w w1):Aside0 (Kd.C (Kd.int k) w1 A n xs):=⟨Kd.aJ h.out hb⟩
theorem Off.R65 {W w1:World} {base:Nat} {v:Value} {xs:List S65} {g t:Nat} {ds:Array Value} (h:Off W w1 g) (hr:Kd.R k65 65 W base (fun _=>True) v xs) (hg:W.heap[g]?=some (.cells ds t (0,0))) (ht:65≠t):Kd.R k65 65 w1 base (fun _=>True) v xs:=
 Kd.R_mono (Kd.CE (Kd.qY hr hg (fun q hq=>by have e_:q=65:=(List.mem_cons.1 hq).resolve_right (fun h=>nomatch h);rw [e_];exact ht)) (fun k hk _=>h.far k hk.2)) (fun _ hk=>hk.1)
section
variable {W w1:World} {g t:Nat} {ds:Array Value}
theorem oB {w:World} (o:Off W w1 g) (h:Aside0 (Below w.heap.size w W)) (hg:Aside0 (w.heap.size<=g)):Aside0 (Below w.heap.size w w1):=⟨Off.below o h.out hg.out⟩
theorem oX {g' t':Nat} {cs:Array Value} {f:Nat×Nat} (o:Off W w1 g) (h:Aside0 (W.heap[g']?=some (.cells cs t' f))) (hg:Aside0 (W.heap[g]?=some (.cells ds t (0,0)))) (ht:t'≠t):Aside0 (w1.heap[g']?=some (.cells cs t' f)):=⟨Off.blk o h.out hg.out ht⟩
theorem oN {g':Nat} {o':Obj} (o:Off W w1 g) (h:Aside0 (W.heap[g']?=some o')) (hn:Aside0 (g'≠g)):Aside0 (w1.heap[g']?=some o'):=⟨Off.Ali o h.out hn.out⟩
theorem oR {k:IntKind} {e base:Nat} {v:Value} {xs:List Int} (o:Off W w1 g) (h:Aside0 (Kd.R (Kd.int k) e W base (fun _=>True) v xs)) (hg:Aside0 (W.heap[g]?=some (.cells ds t (0,0)))) (ht:e≠t):Aside0 (Kd.R (Kd.int k) e w1 base (fun _=>True) v xs):=⟨Off.R o h.out hg.out ht⟩
theorem oI {base:Nat} {v:Value} {xs:List S65} (o:Off W w1 g) (h:Aside0 (Kd.R k65 65 W base (fun _=>True) v xs)) (hg:Aside0 (W.heap[g]?=some (.cells ds t (0,0)))) (ht:65≠t):Aside0 (Kd.R k65 65 w1 base (fun _=>True) v xs):=⟨Off.R65 o h.out hg.out ht⟩
theorem bC {a b:Nat} (h:Aside0 (a≠b)):Aside0 (b≠a):=⟨Ne.symm h.out⟩
theorem blk_less {W:World} {g':Nat} {o:Obj} (h:Aside0 (W.heap[g']?=some o)):Aside0 (g'≠W.heap.size):=⟨Nat.ne_of_lt (qG h.out)⟩
theorem FO {w W:World} (h:Aside0 (Below w.heap.size w W)):Aside0 (w.heap.size<=W.heap.size):=⟨below_size h.out⟩
end
section
variable {P:Program} {ops:Array Oper} {rest:List Oper} {o:Oper} {a:Act} {Q:Exit ->Act ->World ->Prop}
theorem rw_putrow {W:World} {old c':Array Value} {g t ty:Nat} {p x:Operand} (hgd:o.guard=none) (hd:o.dst=none) (ho:o.op= .store ty p x) (hp:a.eval p= .pointer (some ⟨g,0,none⟩)) (hx:a.eval x= .agg c') (hg:W.heap[g]?=some (.cells old t (0,0))) (hi:(P.info? ty).map (·.size)=some c'.size) (hs:old.size=c'.size) (h1:c'.all (·.oneCell')=true)
  (h:∀ w1,w1.heap[g]?=some (.cells c' t (0,0)) ->Off W w1 g ->wpList P ops Q rest a w1):wpList P ops Q (o::rest) a W:=
 rq hgd hd (Qr ho hp hx hg hi hs h1) (h _ (Y2 c' hg) (Off.setRow g c'))
theorem iy {w:World} {c c':Array Value} {t:Nat} {p x:Operand} (hgd:o.guard=none) (hd:o.dst=none) (ho:o.op= .store t p x) (hp:a.eval p= .pointer (some ⟨w.heap.size,0,none⟩)) (hx:a.eval x= .agg c') (hi:(P.info? t).map (·.size)=some c'.size) (hs:c.size=c'.size) (h1:c'.all (·.oneCell')=true)
  (h:∀ w1,w1.heap[w.heap.size]?=some (.cells c' t (0,0)) ->Below w.heap.size w w1 ->wpList P ops Q rest a w1):wpList P ops Q (o::rest) a (w.alloc (.cells c t)):=
 rq hgd hd (zT ho hp hx hi hs h1) (h _ (kW _ _) (fA (Below.refl _ _) _))
end
section
variable {P:Program} {ops:Array Oper} {oi:Oper} {a:Act} {W:World} {K:Act ->World ->Prop} {Q:Exit ->Act ->World ->Prop}
theorem cu {old c':Array Value} {g t ty:Nat} {p x:Operand} (hw:Region.wanted oi (yielded ops a.tmps)=true) (hN:oi.dst=none) (ho:oi.op= .store ty p x) (hp:a.eval p= .pointer (some ⟨g,0,none⟩)) (hx:a.eval x= .agg c') (hg:W.heap[g]?=some (.cells old t (0,0))) (hi:(P.info? ty).map (·.size)=some c'.size) (hs:old.size=c'.size) (h1:c'.all (·.oneCell')=true)
  (h:∀ w1,w1.heap[g]?=some (.cells c' t (0,0)) ->Off W w1 g ->K a w1):if Region.wanted oi (yielded ops a.tmps)=true then Oper.wp P oi a W K Q else K (a.put none undef) W:=
 CJ hw hN (Qr ho hp hx hg hi hs h1) (h _ (Y2 c' hg) (Off.setRow g c'))
theorem kX {cs cs':Array Value} {v:Value} {g t i:Nat} (hw:Region.wanted oi (yielded ops a.tmps)=true) (hN:oi.dst=none) (hb:W.heap[g]?=some (.cells cs t (0,0))) (he:cs.setIfInBounds i v=cs') (hrun:(execOp a.eval oi).run P W= .ok .skip (W.setCell ⟨g,i,none⟩ v))
  (h:∀ w1,w1.heap[g]?=some (.cells cs' t (0,0)) ->Off W w1 g ->K a w1):if Region.wanted oi (yielded ops a.tmps)=true then Oper.wp P oi a W K Q else K (a.put none undef) W:=
 CJ hw hN hrun (h _ (bH hb i v he) (Off.setCell W g i v))
end
theorem qP {k:IntKind} {e:Nat} {ok:Nat ->Prop} {w w1 w2:World} {v:Value} {xs:List Int} (h:Kd.R (Kd.int k) e w2 w1.heap.size ok v xs) (hB:Aside0 (Below w.heap.size w w1)):Aside0 (Kd.R (Kd.int k) e w2 w.heap.size (fun _=>True) v xs):=⟨Kd.R_mono (Kd.R_lower h (below_size hB.out)) (fun _ _=>trivial)⟩
section
variable {P:Program} {md:Region.Mode} {ops:Array Oper} {T:Bool×List (List Nat×List Nat)} {B:List Nat} {oi:Oper} {v:Value} {a:Act} {w:World} {S:World ->Prop} {ds:List Nat} {fuel:Nat} {l:Array Bool} {Q:Exit ->Act ->World ->Prop}
theorem pv (i n:Nat) (v:Value) (hT:Aside0 (rtab md ops=T)) (hr:∀ w',(execOp a.eval oi).run P w'= .ok (.value v) w') (h:dD P md ops Q S ds fuel (l.setIfInBounds i true) (a.put (some n) v) w) (hi:ops[i]?=some oi:=by rfl) (hN:oi.dst=some n:=by rfl) (hc:Acq T l.toList (l.setIfInBounds i true).toList i=true:=by kernel_rfl) (hQ:∀ c a w,Q (.panic c) (a.put oi.dst v) w ->Q (.panic c) a w:=by exact fun _ _ _ h=>h)
  (hw:Region.wanted oi (yielded ops a.tmps)=true:=by rfl):dD P md ops Q S ds (fuel+1) l a w:=
 pure_ (l.setIfInBounds i true) hi hN (any_of hT.out hc) hQ (Or.inl ⟨hw,hr⟩) rfl h
theorem tv (i n:Nat) (v:Value) (hT:Aside0 (rtab md ops=T)) (hB:Aside0 (waitsOk T.2 B=true)) (hS:S w) (hr:∀ w',S w' ->(execOp a.eval oi).run P w'= .ok (.value v) w') (h:dD P md ops Q S ds fuel (l.setIfInBounds i true) (a.put (some n) v) w) (hi:ops[i]?=some oi:=by rfl) (hN:oi.dst=some n:=by rfl) (hc:Vx T B ds l.toList (l.setIfInBounds i true).toList i=true:=by kernel_rfl) (hQ:∀ c a w,Q (.panic c) (a.put oi.dst v) w ->Q (.panic c) a w:=by exact fun _ _ _ h=>h)
  (hw:Region.wanted oi (yielded ops a.tmps)=true:=by rfl):dD P md ops Q S ds (fuel+1) l a w:=
 take_ (l.setIfInBounds i true) hi hN (take_ofW hT.out hB.out hc) hQ (Or.inl ⟨hw,hr⟩) hS rfl h
end
end Go.Proofs.Ytkmimamminddiaa.PB
namespace Go.Proofs.YtkmimamminddiaaW.PrintLast
open Go.RowKit Go.Proofs.YtkmimamminddiaaW.PrintWords Go.Proofs.YtkmimamminddiaaW.PrintMore
theorem bz {B:Nat} {w W W0:World} (H:Aside0 (Below B w W0)) (h:Below B w W0 ->Below B w W:=by (intro h_;repeat (first|(with_reducible first|exact h_|apply fA|apply fZ|apply below_drew1|refine zZ ?_ (Aside0.out (by assumption)))|exact h_))):Below B w W:=h H.out
theorem kz {g:Nat} {o:Obj} {W W0:World} (H:Aside0 (W0.heap[g]?=some o)) (h:W0.heap[g]?=some o ->W.heap[g]?=some o:=by (intro h_;(with_reducible repeat (first|refine aH ?_ _|refine az ?_|refine aG ?_ _));exact h_)):W.heap[g]?=some o:=h H.out
section
variable {P:Program} {ops:Array Oper} {Q:Exit ->Act ->World ->Prop}
theorem gL {rest:List Oper} {oi:Oper} {a:Act} {w:World} (n:Tmp) {f:FuncId} {fn:Func} {ar:Array Operand} {ts:Array TypeId} (hf:P.funcs[f]?=some fn) (args:Array Value)
  (h:Calls P f args w fun e w'=>∃ v,e= .returned v /\ wpList P ops Q rest (a.put (some n) v) w') (hd:oi.dst=some n:=by rfl) (hg:oi.guard=none:=by rfl) (hname:(fn.name== "runtime.NumGoroutine")=false:=by kernel_rfl) (hb:fn.body.isSome=true:=by rfl)
  (hop:oi.op= .call {callee:= .value (.func f),args:=ar,argTypes:=ts}:=by rfl) (hargs:ar.map a.eval=args:=by ((try simp only [List.map_toArray,List.map_cons,List.map_nil]);first|done|rfl|(simp only [List.length_drop,List.length_take];rfl)|(go_simp;done)|(simp [Act.eval,IntKind.signed];done)|(simp [Act.eval,IntKind.signed];rfl))):wpList P ops Q (oi::rest) a w:=
 zQ (some n) hd hg hf hname hb args hop hargs h
theorem gG {oi:Oper} {N:Option Tmp} {a:Act} {w:World} {K:Act ->World ->Prop} {f:FuncId} {fn:Func} {ar:Array Operand} {ts:Array TypeId} (hf:P.funcs[f]?=some fn) (args:Array Value)
  (h:Calls P f args w fun e w'=>∃ v,e= .returned v /\ K (a.put N v) w') (hname:(fn.name== "runtime.NumGoroutine")=false:=by kernel_rfl) (hb:fn.body.isSome=true:=by rfl) (hw:Region.wanted oi (yielded ops a.tmps)=true:=by rfl) (hN:oi.dst=N:=by rfl) (hop:oi.op= .call {callee:= .value (.func f),args:=ar,argTypes:=ts}:=by rfl)
  (hargs:ar.map a.eval=args:=by ((try simp only [List.map_toArray,List.map_cons,List.map_nil]);first|done|rfl|(simp only [List.length_drop,List.length_take];rfl)|(go_simp;done)|(simp [Act.eval,IntKind.signed];done)|(simp [Act.eval,IntKind.signed];rfl))):if Region.wanted oi (yielded ops a.tmps)=true then Oper.wp P oi a w K Q else K (a.put N undef) w:=
 goes_ hf hname hb args hw hN hop hargs h
end
theorem cs2 {w:World} {g t:Nat} {f:Nat×Nat} {c0 c1:Value} (h:w.heap[g]?=some (.cells #[c0,c1] t f)):w.cell? ⟨g,0,none⟩=some c0 /\ w.cell? ⟨g,1,none⟩=some c1:=⟨cz h 0 rfl,cz h 1 rfl⟩
theorem cs4 {w:World} {g t:Nat} {f:Nat×Nat} {c0 c1 c2 c3:Value} (h:w.heap[g]?=some (.cells #[c0,c1,c2,c3] t f)):w.cell? ⟨g,0,none⟩=some c0 /\ w.cell? ⟨g,1,none⟩=some c1 /\ w.cell? ⟨g,2,none⟩=some c2 /\ w.cell? ⟨g,3,none⟩=some c3:=⟨cz h 0 rfl,cz h 1 rfl,cz h 2 rfl,cz h 3 rfl⟩
theorem cs5 {w:World} {g t:Nat} {f:Nat×Nat} {c0 c1 c2 c3 c4:Value} (h:w.heap[g]?=some (.cells #[c0,c1,c2,c3,c4] t f)):w.cell? ⟨g,0,none⟩=some c0 /\ w.cell? ⟨g,1,none⟩=some c1 /\ w.cell? ⟨g,2,none⟩=some c2 /\ w.cell? ⟨g,3,none⟩=some c3 /\ w.cell? ⟨g,4,none⟩=some c4:=⟨cz h 0 rfl,cz h 1 rfl,cz h 2 rfl,cz h 3 rfl,cz h 4 rfl⟩
theorem xC {w:World} {g t:Nat} {f:Nat×Nat} {c0 c1 c2 c3 c4 c5 c6 c7 c8 c9:Value} (h:w.heap[g]?=some (.cells #[c0,c1,c2,c3,c4,c5,c6,c7,c8,c9] t f)):w.cell? ⟨g,0,none⟩=some c0 /\ w.cell? ⟨g,1,none⟩=some c1 /\ w.cell? ⟨g,2,none⟩=some c2 /\ w.cell? ⟨g,3,none⟩=some c3 /\ w.cell? ⟨g,4,none⟩=some c4 /\ w.cell? ⟨g,5,none⟩=some c5 /\ w.cell? ⟨g,6,none⟩=some c6 /\ w.cell? ⟨g,7,none⟩=some c7 /\ w.cell? ⟨g,8,none⟩=some c8 /\ w.cell? ⟨g,9,none⟩=some c9:=⟨cz h 0 rfl,cz h 1 rfl,cz h 2 rfl,cz h 3 rfl,cz h 4 rfl,cz h 5 rfl,cz h 6 rfl,cz h 7 rfl,cz h 8 rfl,cz h 9 rfl⟩
end Go.Proofs.YtkmimamminddiaaW.PrintLast
namespace Go.Proofs.YtkmimamminddiaaW.PrintWords
open Go.RowKit Go.Proofs.YtkmimamminddiaaW.PrintLast
theorem Kd.rz {α:Type} {d:Kd α} {e:TypeId} {W W0:World} {base:Nat} {ok:Nat ->Prop} {v:Value} {xs:List α} (H:Aside0 (d.R e W0 base ok v xs)) (h:d.R e W0 base ok v xs ->d.R e W base ok v xs:=by (intro h_;(with_reducible repeat (first|apply Kd.ik|apply Kd.gV|apply Kd.iq));exact h_)):d.R e W base ok v xs:=h H.out
end Go.Proofs.YtkmimamminddiaaW.PrintWords
namespace Go.Proofs.Ytkmimamminddiaa.PB
open Go.RowKit Go.Proofs.YtkmimamminddiaaW.PrintWords Go.Proofs.YtkmimamminddiaaW.PrintLast Go.Proofs.YtkmimamminddiaaW.PrintMore
attribute [local go_sem] dV dW gI gJ dG dH dX dY
def dh.f (l0:List Int):Option (List Int):=if l0.length<140737488355328 then some l0 else none
theorem dh.calls (A0:Option Addr) (c0:Nat) (l0:List Int) (r:List Int) (w:World) (hr0:Kd.C (Kd.int .u8) w A0 l0.length l0) (hc0:l0.length<=c0) (h:dh.f l0=some r):
    Calls Try.prog 97 #[.slice A0 l0.length c0] w fun e w'=>∃ uP:Value,e= .returned (uP) /\ Kd.R (Kd.int .u8) 5 w' w.heap.size (fun _=>True) uP r /\ Below w.heap.size w w':=by
  unfold dh.f at h
  by_cases c7:l0.length<140737488355328
  · rw [ah c7] at h
    obtain rfl:=eF h;clear h;have Ov:=Aside0.mk c7;clear c7;have HR0:=Aside0.mk hr0;have mg:=Aside0.mk hc0;clear hr0 hc0;have HB:=jy w
    cases A0 with
    |none=>
      have e:=Ik HR0.out;subst e;have hq:=fun (W:World) (n c:Nat)=>Go.Lib.run_eql_slice_nil (P:=Try.prog) W 23 5 none n c 0 0 Try.underlying23
      go_enter Try.func97,Try.ntmps97
      go_wp2
      go_ret
      exact ⟨_,rfl,Kd.bV _ _ _ _ _,Below.refl _ _⟩
    |some ad=>
      have hq:=fun (W:World) (n c:Nat)=>Go.Lib.run_eql_slice_nil (P:=Try.prog) W 23 5 (some ad) n c 0 0 Try.underlying23
      go_enter Try.func97,Try.ntmps97
      have HO1:Aside0 (Kd.R (Kd.int .u8) 5 (w.alloc (.cells #[] 5)) w.heap.size (fun _=>True) (.slice (some ⟨w.heap.size,0,none⟩) 0 0) ([]:List Int)):=⟨FY w .u8 5⟩
      have HB1:Aside0 (Below w.heap.size w (w.alloc (.cells #[] 5))):=⟨fA HB.out _⟩
      go_wp2_with (first
       |((with_reducible refine iF (b:= .append) (xs:= #[.tmp 5,.tmp 6]) rfl ?_);at_builtin;refine Kd.jv (Kd.int .u8) (w0:=w) w.heap.size rfl (.tmp 5) (.tmp 6) 23 5 (.int .u8 0) 1 rfl Try.underlying23 info5 rfl (by decide) (by omega) (.slice (some ⟨w.heap.size,0,none⟩) 0 0) ([]:List Int) l0 _ _ _ (fun _=>True) (fun _=>False) rfl rfl ?aO ?aR (fun _ _ h=>h) (fun _ h=>h.elim) ?aF ?aB ?aS ?aL ?_;(case aR=>exact Kd.aJ HR0.out HB1.out);(case aB=>exact HB1.out);(case aF=>exact (fun _ _=>trivial));(case aO=>exact HO1.out);(case aS=>exact (below_size HB1.out));(case aL=>have:=Ov.out;simp;omega);intro v2 w2 ho hb hg hat;clear hg hat;have HB2:=Aside0.mk hb;have HO2:=Aside0.mk ho;clear hb ho))
      go_ret
      exact ⟨_,rfl,by simpa using HO2.out,HB2.out⟩
  · rw [aj c7] at h
    cases h
attribute [local go_sem] dV dW gI gJ dG dH dX dY
def oQ.f (l0:List Int):Option (Int):=if 0<(l0.length:Int) then (if 1<(l0.length:Int) then (some (Go.bits .or .u16 (IntKind.u16.wrap ((IntKind.u16.wrap (rd l0 0))*256)) (IntKind.u16.wrap (rd l0 1)))) else (none)) else (none)
theorem oQ.calls (A0:Option Addr) (c0:Nat) (l0:List Int) (r:Int) (w:World) (hr0:Kd.C (Kd.int .u8) w A0 l0.length l0) (hc0:l0.length<=c0) (h:oQ.f l0=some r):
  Calls Try.prog 130 #[.slice A0 l0.length c0] w fun e w'=>e= .returned (.int .u16 r) /\ bf w w':=by
 have HR0:=Aside0.mk hr0;have mg:=Aside0.mk hc0;clear hr0 hc0;have H:(if 0<(l0.length:Int) then (if 1<(l0.length:Int) then (some (Go.bits .or .u16 (IntKind.u16.wrap ((IntKind.u16.wrap (rd l0 0))*256)) (IntKind.u16.wrap (rd l0 1)))) else (none)) else (none))=some r:=h;clear h
 by_cases c2:0<(l0.length:Int)
 ·rw [ah c2] at H
  have nV:decide (0<(l0.length:Int))=true:=bJ c2;have qQ:decide (0<l0.length)=true:=bJ (by omega);clear c2
  by_cases c3:1<(l0.length:Int)
  ·rw [ah c3] at H
   have tY:decide (1<(l0.length:Int))=true:=bJ c3;have vI:decide (1<l0.length)=true:=bJ (by omega);clear c3;obtain rfl:=eF H;have Ag4:0<=(0:Int):=(by omega)
   have Ag5:0<(l0.length:Int):=je;obtain ⟨Alk,AsG,VA⟩:=Kd.dU HR0.out 0 Ag4 Ag5
   cases AsG
   have Av3:(0<l0.length)=True:=eq_true (by omega)
   (try rw [show ((0:Int)).toNat=0 from rfl] at VA)
   (try rw [Addr.add_zero'] at VA)
   replace Ag4:=eq_true Ag4;replace Ag5:=eq_true Ag5;have Ag6:0<=(1:Int):=(by omega)
   have Ag7:1<(l0.length:Int):=je;obtain ⟨All,AsH,VB⟩:=Kd.dU HR0.out 1 Ag6 Ag7;obtain rfl:Alk=All:=(by injection AsH)
   (try simp only [show (1:Int).toNat=1 from rfl,Nat.reduceMul,Nat.reduceEqDiff,Go.Addr.add,↓reduceIte] at VB)
   have Av4:(1<l0.length)=True:=eq_true (by omega)
   (try rw [show ((1:Int)).toNat=1 from rfl] at VB)
   replace Ag6:=eq_true Ag6;replace Ag7:=eq_true Ag7
   go_enter Try.func130,Try.ntmps130
   go_wp2
   repeat (go_quiet (fail);try go_wp2)
   go_ret
   exact ⟨by first|rfl|(simp;done)|(simp [*];done),by repeat (first|exact bf.refl _|apply bf.step)⟩
  ·rw [aj c3] at H
   cases H
 ·rw [aj c2] at H
  cases H
def vJ.f (l0:List Int):Option (Int):=if 4<=l0.length then ((oQ.f ((l0.take 2).drop 0)).bind fun t1=>(oQ.f ((l0.take 4).drop 2)).bind fun t2=>some (Go.bits .or .u32 (((t1 % 4294967296)*65536) % 4294967296) (t2 % 4294967296))) else none
theorem vJ.calls (A0:Option Addr) (c0:Nat) (l0:List Int) (r:Int) (w:World) (hr0:Kd.C (Kd.int .u8) w A0 l0.length l0) (hc0:l0.length<=c0) (h:vJ.f l0=some r):
  Calls Try.prog 131 #[.slice A0 l0.length c0] w fun e w'=>e= .returned (.int .u32 r) /\ bf w w':=by
 unfold vJ.f at h
 by_cases c4:4<=l0.length
 ·rw [ah c4] at h
  obtain ⟨t1,A1,h⟩:=dM h;obtain ⟨t2,A2,h⟩:=dM h;obtain rfl:=eF h;clear h;obtain ⟨i0,hi0,_,hsz,_⟩:=info_parts info5;obtain ⟨B1,VC,hA1,hC1⟩:=lq (P:=Try.prog) (Value.int .u8) 0 23 5 .i64 .i64 .i64 Try.underlying23 hi0 hsz A0 c0 l0 0 2 (by omega) (by omega) (by omega) hc0;obtain ⟨B2,Np,hA2,hC2⟩:=lq (P:=Try.prog) (Value.int .u8) 0 23 5 .i64 .i64 .i64 Try.underlying23 hi0 hsz A0 c0 l0 2 4 (by omega) (by omega) (by omega) hc0;have e1:((l0.take (2:Int).toNat).drop (0:Int).toNat).length=2:=by rw [List.length_drop,List.length_take];simp;omega
  have e2:((l0.take (4:Int).toNat).drop (2:Int).toNat).length=2:=by rw [List.length_drop,List.length_take];simp;omega
  have r1:=Kd.dR (h1:=fun _=>rfl) (hA1 _ (Kd.dO hr0));have r2:=Kd.dR (h1:=fun _=>rfl) (hA2 _ (Kd.dO hr0))
  have T1:∀ n,Calls Try.prog 130 #[.slice B1 2 2] (w.drewN n) fun e w'=>e= .returned (.int .u16 t1) /\ bf (w.drewN n) w':=fun n=>by
   have:=oQ.calls B1 2 _ t1 (w.drewN n) (Kd.iD r1 n) (by rw [e1];exact Nat.le_refl _) A1;rw [e1] at this
   exact this
  have T2:∀ n,Calls Try.prog 130 #[.slice B2 2 2] (w.drewN n) fun e w'=>e= .returned (.int .u16 t2) /\ bf (w.drewN n) w':=fun n=>by
   have:=oQ.calls B2 2 _ t2 (w.drewN n) (Kd.iD r2 n) (by rw [e2];exact Nat.le_refl _) A2;rw [e2] at this
   exact this
  rw [e1] at VC
  rw [e2] at Np
  replace VC:∀ W:World,(Instr.slice 23 (.slice A0 l0.length c0) (some (.int .i64 0)) (some (.int .i64 2)) (some (.int .i64 2))).run Try.prog W= .ok (.slice B1 2 2) W:=VC;replace Np:∀ W:World,(Instr.slice 23 (.slice A0 l0.length c0) (some (.int .i64 2)) (some (.int .i64 4)) (some (.int .i64 4))).run Try.prog W= .ok (.slice B2 2 2) W:=Np;have H1:=Aside0.mk T1;have H2:=Aside0.mk T2;clear T1 T2 e1 e2 r1 r2 hA1 hA2 hC1 hC2 A1 A2 hr0 hi0 hsz
  go_enter Try.func131,Try.ntmps131
  go_wp2_with fail
  go_quiet ((first
   |(go_at_call 130;(with_reducible refine (H1.out _).mono ?_);rintro e w' ⟨rfl,⟨nd,rfl⟩⟩;exact ⟨rfl,_,rfl⟩)
   |(go_at_call 130;(with_reducible refine (H2.out _).mono ?_);rintro e w' ⟨rfl,⟨nd,rfl⟩⟩;exact ⟨rfl,_,rfl⟩)
   |(go_at_call 130;(with_reducible refine (H1.out _).mono ?_);rintro e w' ⟨rfl,⟨nd,rfl⟩⟩;exact ⟨rfl,_,World.drewN_drewN _ _ _⟩)
   |(go_at_call 130;(with_reducible refine (H2.out _).mono ?_);rintro e w' ⟨rfl,⟨nd,rfl⟩⟩;exact ⟨rfl,_,World.drewN_drewN _ _ _⟩)
   |(go_at_call 130;(with_reducible refine (H1.out _).mono ?_);rintro e w' ⟨rfl,⟨nd,rfl⟩⟩;exact ⟨rfl,_,Eq.trans (World.drewN_drewN _ _ _) (congrArg (World.drewN _) (Nat.add_assoc _ _ _))⟩)
   |(go_at_call 130;(with_reducible refine (H2.out _).mono ?_);rintro e w' ⟨rfl,⟨nd,rfl⟩⟩;exact ⟨rfl,_,Eq.trans (World.drewN_drewN _ _ _) (congrArg (World.drewN _) (Nat.add_assoc _ _ _))⟩)))
  go_wp2
  go_ret
  exact ⟨by first|rfl|(simp;done)|(simp [*];done),by repeat (first|exact bf.refl _|apply bf.step)⟩
 ·rw [aj c4] at h
  cases h
def tZ.f (l0:List Int):Option (Int×Int×Int×Int×Int×Int×Int×Int×List Int×List Int×Int):=if (l0.length:Int)<20 then (some (0,0,0,0,0,0,0,0,([]:List Int),([]:List Int),20)) else (if 12<(l0.length:Int) then (if (wrap64 (4*(wrap64 ((rd l0 12) / 16))))<20 then (some (0,0,0,0,0,0,0,0,([]:List Int),([]:List Int),21)) else (if (l0.length:Int)<(wrap64 (4*(wrap64 ((rd l0 12) / 16)))) then (some (0,0,0,0,0,0,0,0,([]:List Int),([]:List Int),20)) else (if 2<=(l0.length:Int) then ((oQ.f ((l0.take 2).drop 0)).bind fun AsI=>(if 4<=(l0.length:Int) then ((oQ.f ((l0.take 4).drop 2)).bind fun AsJ=>(if 8<=(l0.length:Int) then ((vJ.f ((l0.take 8).drop 4)).bind fun AsK=>(if 12<=(l0.length:Int) then ((vJ.f ((l0.take 12).drop 8)).bind fun AsL=>(if 13<(l0.length:Int) then (if 16<=(l0.length:Int) then ((oQ.f ((l0.take 16).drop 14)).bind fun AsM=>(if 18<=(l0.length:Int) then ((oQ.f ((l0.take 18).drop 16)).bind fun AsN=>(if 20<=(l0.length:Int) then ((oQ.f ((l0.take 20).drop 18)).bind fun AsO=>(if 20<=(wrap64 (4*(wrap64 ((rd l0 12) / 16)))) then (if (wrap64 (4*(wrap64 ((rd l0 12) / 16))))<=(l0.length:Int) then ((dh.f ((l0.take ((wrap64 (4*(wrap64 ((rd l0 12) / 16)))):Int).toNat).drop 20)).bind fun AsP=>(if 0<=(wrap64 (4*(wrap64 ((rd l0 12) / 16)))) then ((dh.f (l0.drop ((wrap64 (4*(wrap64 ((rd l0 12) / 16)))):Int).toNat)).bind fun AsQ=>(some (AsI,AsJ,AsK,AsL,rd l0 13,AsM,AsN,AsO,AsP,AsQ,0))) else (none))) else (none)) else (none))) else (none))) else (none))) else (none)) else (none))) else (none))) else (none))) else (none))) else (none)))) else (none))
theorem CQ {w:World} {A:Option Addr} {c:Nat} {l:List Int} (hC:Kd.C (Kd.int .u8) w A l.length l) (hc:l.length<=c) (a b:Int) (h0:0<=a) (h1:a<=b) (h2:b<=(l.length:Int)):∃ (A':Option Addr) (m:Nat),(∀ W:World,(Instr.slice 23 (.slice A l.length c) (some (.int .i64 a)) (some (.int .i64 b)) (some (.int .i64 b))).run Try.prog W= .ok (.slice A' ((l.take b.toNat).drop a.toNat).length m) W) /\ Kd.C (Kd.int .u8) w A' ((l.take b.toNat).drop a.toNat).length ((l.take b.toNat).drop a.toNat) /\ ((l.take b.toNat).drop a.toNat).length<=m:=by
 obtain ⟨i,hi,_,hs,_⟩:=info_parts info5;obtain ⟨A',e1,e2,e3⟩:=lq (P:=Try.prog) (Value.int .u8) 0 23 5 .i64 .i64 .i64 Try.underlying23 hi hs A c l a b h0 h1 h2 hc;exact ⟨A',_,e1,Kd.dR (h1:=fun _=>rfl) (e2 _ (Kd.dO hC)),e3⟩
theorem AcH {w:World} {A:Option Addr} {c:Nat} {l:List Int} (hC:Kd.C (Kd.int .u8) w A l.length l) (hc:l.length<=c) (a:Int) (h0:0<=a) (h2:a<=(l.length:Int)):∃ (A':Option Addr) (m:Nat),(∀ W:World,(Instr.slice 23 (.slice A l.length c) (some (.int .i64 a)) none none).run Try.prog W= .ok (.slice A' (l.drop a.toNat).length m) W) /\ Kd.C (Kd.int .u8) w A' (l.drop a.toNat).length (l.drop a.toNat) /\ (l.drop a.toNat).length<=m:=by
 obtain ⟨i,hi,_,hs,_⟩:=info_parts info5;obtain ⟨A',e1,e2,e3⟩:=ja (P:=Try.prog) (Value.int .u8) 0 23 5 .i64 Try.underlying23 hi hs A c l a h0 h2 hc;exact ⟨A',_,e1,Kd.dR (h1:=fun _=>rfl) (e2 _ (Kd.dO hC)),e3⟩
theorem zi {o:Oper} {ev:Operand ->Value} {W:World} {x lo hi mx:Operand} {vx vl vh vm r:Value} (ho:o.op= .slice 23 x (some lo) (some hi) (some mx)) (hx:ev x=vx) (hl:ev lo=vl) (hh:ev hi=vh) (hm:ev mx=vm) (h:(Instr.slice 23 vx (some vl) (some vh) (some vm)).run Try.prog W= .ok r W):(execOp ev o).run Try.prog W= .ok (.value r) W:=by
 have hu:=Try.underlying23;unfold execOp;simp only [ho,Option.map_some,Option.map_none,hx,hl,hh,hm]
 simp [Instr.sliceAt,underlying,hu,h,Sem.run_bind,Result.andThen]
theorem AcI {o:Oper} {ev:Operand ->Value} {W:World} {x lo:Operand} {vx vl r:Value} (ho:o.op= .slice 23 x (some lo) none none) (hx:ev x=vx) (hl:ev lo=vl) (h:(Instr.slice 23 vx (some vl) none none).run Try.prog W= .ok r W):(execOp ev o).run Try.prog W= .ok (.value r) W:=by
 have hu:=Try.underlying23;unfold execOp;simp only [ho,Option.map_some,Option.map_none,hx,hl]
 simp [Instr.sliceAt,underlying,hu,h,Sem.run_bind,Result.andThen]
theorem yM {b:Nat} {w w1 w2:World} (h:Below b w w1) (d:bf w1 w2):Below b w w2:=by
 obtain ⟨nd,rfl⟩:=d;exact fZ h nd
def Xm.R8.T:Bool×List (List Nat×List Nat):=(true,[([],[]),([0],[0]),([1],[1]),([],[]),([3],[3]),([4,2],[4]),([],[]),([6],[6]),([7,5],[7]),([],[]),([9],[9]),([10,8],[10]),([],[]),([12],[12]),([13],[13]),([],[]),([15],[15]),([16,11],[16]),([],[]),([18],[18]),([19,17],[19]),([],[]),([21],[21]),([22,20],[22]),([],[]),([],[]),([],[]),([24,25,26],[24,25,26]),([27,23],[27]),([],[]),([],[]),([29,30],[29,30]),([31,28],[31]),([2,5,8,11,14,17,20,23,28,32],[2,5,8,11,14,17,20,23,28,32]),([33,32,0,1,2,3,4,5,6,7,8,9,10,11,12,13,14,15,16,17,18,19,20,21,22,23,24,25,26,27,28,29,30,31,32,33],[33]),([34,0,1,2,3,4,5,6,7,8,9,10,11,12,13,14,15,16,17,18,19,20,21,22,23,24,25,26,27,28,29,30,31,32,33,34],[])])
theorem Xm.R8.tab:rtab .any (opsOf Try.f122 8)=Xm.R8.T:=by kernel_rfl
theorem Xm.R8.bits:waitsOk Xm.R8.T.2 [0,1,3,0,8,31,0,64,255,0,512,2047,0,4096,12288,0,32768,102399,0,262144,1019903,0,2097152,8359935,0,0,0,117440512,268406783,0,0,1610612736,4294938623,8589934591,17179869183,34359738367]=true:=by kernel_rfl
theorem tZ.Ag8 (A:Option Addr) (c:Nat) (l:List Int) (r1 r2 r3 r4 r5 r6 r7 r8:Int) (r9 r10:List Int) (r11:Int) (w:World) (hC:Kd.C (Kd.int .u8) w A l.length l) (hL:l.length<=c) (h:tZ.f l=some (r1,r2,r3,r4,r5,r6,r7,r8,r9,r10,r11)):
  Calls Try.prog 122 #[.slice A l.length c] w fun e w'=>∃ v8 v9:Value,e= .returned (.tuple #[.agg #[.int .u16 r1,.int .u16 r2,.int .u32 r3,.int .u32 r4,.int .u8 r5,.int .u16 r6,.int .u16 r7,.int .u16 r8,v8,v9],.int .i64 r11]) /\ Kd.R (Kd.int .u8) 5 w' w.heap.size (fun _=>True) v8 r9 /\ Kd.R (Kd.int .u8) 5 w' w.heap.size (fun _=>True) v9 r10 /\ Below w.heap.size w w':=by
 have HB:=jy w;have qV:Aside0 ((Try.prog.info? 137).map (·.size)=some 10):=⟨by kernel_rfl⟩
 have H:tZ.f l=some (r1,r2,r3,r4,r5,r6,r7,r8,r9,r10,r11):=h;clear h;unfold tZ.f at H
 by_cases c1:(l.length:Int)<20
 ·have c1a:decide ((l.length:Int)<20)=true:=bJ c1
  have c1b:decide (l.length<20)=true:=bJ (by omega);rw [ah c1] at H
  clear c1;simp only [Option.some.injEq,Prod.mk.injEq] at H
  obtain ⟨rfl,rfl,rfl,rfl,rfl,rfl,rfl,rfl,rfl,rfl,rfl⟩:=H
  go_enter Try.func122,Try.ntmps122
  go_wp2_with (first|((with_reducible refine gate_dst (N:=2) rfl ?_);refine box_event ?hg_ (N:=2) ?hd_ (cs:= #[.int .u16 0,.int .u16 0,.int .u32 0,.int .u32 0,.int .u8 0,.int .u16 0,.int .u16 0,.int .u16 0,.slice none 0 0,.slice none 0 0]) (t:=137) ?hr_ ?_;(case hd_=>rfl);(case hg_=>rfl);(case hr_=>first|(go_simp;done)|(go_simp;rfl));intro gp hgg_ w1 hbox_ hbb_;have Ox:=Aside0.mk (show w.heap.size<=gp by rw [hgg_];exact below_size HB.out);have wz:=Aside0.mk hbox_;have hb_:=hbb_;replace HB:=mB HB hb_;clear hb_;clear hgg_ hbox_ hbb_)|((refine rw_putrow rfl rfl rfl rfl rfl wz.out qV.out rfl (by simp [Value.oneCell']) ?_);intro w2 hs_ off_;replace HB:=oB off_ HB Ox;clear off_;replace wz:=Aside0.mk hs_;clear hs_))
  (try simp only [Exit.inBlock,Exit.then])
  refine bodyPost_ret (iJ rfl _ _ gp 137 #[.int .u16 0,.int .u16 0,.int .u32 0,.int .u32 0,.int .u8 0,.int .u16 0,.int .u16 0,.int .u16 0,.slice none 0 0,.slice none 0 0] (0,0) _ rfl wz.out Try.underlying137 rfl qV.out) rfl ?_;exact ⟨_,_,rfl,Kd.bV _ _ _ _ _,Kd.bV _ _ _ _ _,HB.out⟩
 ·have c1a:decide ((l.length:Int)<20)=false:=jC c1
  have c1b:decide (l.length<20)=false:=jC (by omega);rw [aj c1,ah (show (12:Int)<(l.length:Int) by omega)] at H
  obtain ⟨ad0,hA0,h12⟩:=Kd.dU hC 12 (by omega) (by omega);have Ag9:w.cell? (ad0.add 12)=some (.int .u8 (rd l 12)):=by simpa using h12
  have Aha:=Aside0.mk (dS _ _ Ag9);obtain ⟨hd,hhd⟩:∃ hd,(wrap64 (4*wrap64 (rd l 12 / 16)))=hd:=⟨_,rfl⟩
  rw [hhd] at H
  have HWD:=Aside0.mk hhd;have H12:=Aside0.mk Ag9;have Ahb:Aside0 (((12:Int)<(l.length:Int))=True):=⟨eq_true (by omega)⟩
  have Ahc:Aside0 ((12<l.length)=True):=⟨eq_true (by omega)⟩
  clear h12 Ag9 hhd
  by_cases c2:hd<20
  ·have c2a:decide (hd<20)=true:=bJ c2
   rw [ah c2] at H
   clear c2;subst hA0;simp only [Option.some.injEq,Prod.mk.injEq] at H
   obtain ⟨rfl,rfl,rfl,rfl,rfl,rfl,rfl,rfl,rfl,rfl,rfl⟩:=H
   go_enter Try.func122,Try.ntmps122
   go_upto_region 3 with (((with_reducible refine gate_dst (N:=2) rfl ?_);refine box_event ?hg_ (N:=2) ?hd_ (cs:= #[.int .u16 0,.int .u16 0,.int .u32 0,.int .u32 0,.int .u8 0,.int .u16 0,.int .u16 0,.int .u16 0,.slice none 0 0,.slice none 0 0]) (t:=137) ?hr_ ?_;(case hd_=>rfl);(case hg_=>rfl);(case hr_=>first|(go_simp;done)|(go_simp;rfl));intro gp hgg_ w1 hbox_ hbb_;have Ox:=Aside0.mk (show w.heap.size<=gp by rw [hgg_];exact below_size HB.out);have wz:=Aside0.mk hbox_;have hb_:=hbb_;replace HB:=mB HB hb_;clear hb_;clear hgg_ hbox_ hbb_))
   have z12:=(HB.out.cell Aha.out).trans H12.out;have Xn:=z12;simp only [Go.Addr.add,Nat.reduceEqDiff,↓reduceIte] at Xn
   have Ahd:=Ahb.out;have Ahe:=Ahc.out;have hWd:=HWD.out
   go_wp2_with (((refine rw_putrow rfl rfl rfl rfl rfl wz.out qV.out rfl (by simp [Value.oneCell']) ?_);intro w2 hs_ off_;replace HB:=oB off_ HB Ox;clear off_;replace wz:=Aside0.mk hs_;clear hs_))
   (try simp only [Exit.inBlock,Exit.then])
   refine bodyPost_ret (iJ rfl _ _ gp 137 #[.int .u16 0,.int .u16 0,.int .u32 0,.int .u32 0,.int .u8 0,.int .u16 0,.int .u16 0,.int .u16 0,.slice none 0 0,.slice none 0 0] (0,0) _ rfl wz.out Try.underlying137 rfl qV.out) rfl ?_;exact ⟨_,_,rfl,Kd.bV _ _ _ _ _,Kd.bV _ _ _ _ _,HB.out⟩
  ·have c2a:decide (hd<20)=false:=jC c2
   rw [aj c2] at H
   by_cases c3:(l.length:Int)<hd
   ·have c3a:decide ((l.length:Int)<hd)=true:=bJ c3
    rw [ah c3] at H
    clear c2 c3;subst hA0;simp only [Option.some.injEq,Prod.mk.injEq] at H
    obtain ⟨rfl,rfl,rfl,rfl,rfl,rfl,rfl,rfl,rfl,rfl,rfl⟩:=H
    go_enter Try.func122,Try.ntmps122
    go_upto_region 3 with (((with_reducible refine gate_dst (N:=2) rfl ?_);refine box_event ?hg_ (N:=2) ?hd_ (cs:= #[.int .u16 0,.int .u16 0,.int .u32 0,.int .u32 0,.int .u8 0,.int .u16 0,.int .u16 0,.int .u16 0,.slice none 0 0,.slice none 0 0]) (t:=137) ?hr_ ?_;(case hd_=>rfl);(case hg_=>rfl);(case hr_=>first|(go_simp;done)|(go_simp;rfl));intro gp hgg_ w1 hbox_ hbb_;have Ox:=Aside0.mk (show w.heap.size<=gp by rw [hgg_];exact below_size HB.out);have wz:=Aside0.mk hbox_;have hb_:=hbb_;replace HB:=mB HB hb_;clear hb_;clear hgg_ hbox_ hbb_))
    have z12:=(HB.out.cell Aha.out).trans H12.out;have Xn:=z12;simp only [Go.Addr.add,Nat.reduceEqDiff,↓reduceIte] at Xn
    have Ahd:=Ahb.out;have Ahe:=Ahc.out;have hWd:=HWD.out
    go_wp2_with (((refine rw_putrow rfl rfl rfl rfl rfl wz.out qV.out rfl (by simp [Value.oneCell']) ?_);intro w2 hs_ off_;replace HB:=oB off_ HB Ox;clear off_;replace wz:=Aside0.mk hs_;clear hs_))
    (try simp only [Exit.inBlock,Exit.then])
    refine bodyPost_ret (iJ rfl _ _ gp 137 #[.int .u16 0,.int .u16 0,.int .u32 0,.int .u32 0,.int .u8 0,.int .u16 0,.int .u16 0,.int .u16 0,.slice none 0 0,.slice none 0 0] (0,0) _ rfl wz.out Try.underlying137 rfl qV.out) rfl ?_;exact ⟨_,_,rfl,Kd.bV _ _ _ _ _,Kd.bV _ _ _ _ _,HB.out⟩
   ·have c3a:decide ((l.length:Int)<hd)=false:=jC c3
    rw [aj c3] at H
    rw [ah (show (2:Int)<=(l.length:Int) by omega)] at H
    obtain ⟨t1,hq0,H⟩:=dI H;obtain ⟨B0,m0,s0,d0,n0⟩:=CQ hC hL 0 2 (by omega) (by omega) (by omega);have K0:=Aside0.mk s0;have D0:=Aside0.mk d0;have N0:=Aside0.mk n0;have Q0:=Aside0.mk hq0;clear s0 d0 n0 hq0;rw [ah (show (4:Int)<=(l.length:Int) by omega)] at H
    obtain ⟨t2,hq1,H⟩:=dI H;obtain ⟨B1,m1,s1,d1,n1⟩:=CQ hC hL 2 4 (by omega) (by omega) (by omega);have K1:=Aside0.mk s1;have D1:=Aside0.mk d1;have N1:=Aside0.mk n1;have Q1:=Aside0.mk hq1;clear s1 d1 n1 hq1;rw [ah (show (8:Int)<=(l.length:Int) by omega)] at H
    obtain ⟨t3,hq2,H⟩:=dI H;obtain ⟨B2,m2,s2,d2,n2⟩:=CQ hC hL 4 8 (by omega) (by omega) (by omega);have K2:=Aside0.mk s2;have D2:=Aside0.mk d2;have N2:=Aside0.mk n2;have Q2:=Aside0.mk hq2;clear s2 d2 n2 hq2;rw [ah (show (12:Int)<=(l.length:Int) by omega)] at H
    obtain ⟨t4,hq3,H⟩:=dI H;obtain ⟨B3,m3,s3,d3,n3⟩:=CQ hC hL 8 12 (by omega) (by omega) (by omega);have K3:=Aside0.mk s3;have D3:=Aside0.mk d3;have N3:=Aside0.mk n3;have Q3:=Aside0.mk hq3;clear s3 d3 n3 hq3;rw [ah (show (13:Int)<(l.length:Int) by omega)] at H
    rw [ah (show (16:Int)<=(l.length:Int) by omega)] at H
    obtain ⟨t5,hq4,H⟩:=dI H;obtain ⟨B4,m4,s4,d4,n4⟩:=CQ hC hL 14 16 (by omega) (by omega) (by omega);have K4:=Aside0.mk s4;have D4:=Aside0.mk d4;have N4:=Aside0.mk n4;have Q4:=Aside0.mk hq4;clear s4 d4 n4 hq4;rw [ah (show (18:Int)<=(l.length:Int) by omega)] at H
    obtain ⟨t6,hq5,H⟩:=dI H;obtain ⟨B5,m5,s5,d5,n5⟩:=CQ hC hL 16 18 (by omega) (by omega) (by omega);have K5:=Aside0.mk s5;have D5:=Aside0.mk d5;have N5:=Aside0.mk n5;have Q5:=Aside0.mk hq5;clear s5 d5 n5 hq5;rw [ah (show (20:Int)<=(l.length:Int) by omega)] at H
    obtain ⟨t7,hq6,H⟩:=dI H;obtain ⟨B6,m6,s6,d6,n6⟩:=CQ hC hL 18 20 (by omega) (by omega) (by omega);have K6:=Aside0.mk s6;have D6:=Aside0.mk d6;have N6:=Aside0.mk n6;have Q6:=Aside0.mk hq6;clear s6 d6 n6 hq6;rw [ah (show 20<=hd by omega),ah (show hd<=(l.length:Int) by omega)] at H
    obtain ⟨x,hqx,H⟩:=dI H;rw [ah (show 0<=hd by omega)] at H
    obtain ⟨y,hqy,H⟩:=dI H;simp only [Option.some.injEq,Prod.mk.injEq] at H
    obtain ⟨rfl,rfl,rfl,rfl,rfl,rfl,rfl,rfl,rfl,rfl,rfl⟩:=H;obtain ⟨B7,m7,s7,d7,n7⟩:=CQ hC hL 20 hd (by omega) (by omega) (by omega);obtain ⟨B8,m8,s8,d8,n8⟩:=AcH hC hL hd (by omega) (by omega);obtain ⟨ad,hA,h13⟩:=Kd.dU hC 13 (by omega) (by omega);subst hA;have AcJ:w.cell? (ad.add 13)=some (.int .u8 (rd l 13)):=by simpa using h13
    simp only [Go.Addr.add,Nat.reduceEqDiff,↓reduceIte] at AcJ
    have K7:=Aside0.mk s7;have D7:=Aside0.mk d7;have N7:=Aside0.mk n7;have K8:=Aside0.mk s8;have D8:=Aside0.mk d8;have N8:=Aside0.mk n8;have Q7:=Aside0.mk hqx;have Q8:=Aside0.mk hqy;have Y5:=Aside0.mk AcJ;have Y6:=Aside0.mk (dS _ _ AcJ);have z13:((13:Int)<(l.length:Int))=True:=eq_true (by omega);have AyE:(13<l.length)=True:=eq_true (by omega);clear s7 d7 n7 s8 d8 n8 hqx hqy h13 AcJ;obtain rfl:ad=ad0:=by injection hA0
    clear hA0 c1 c2 c3
    go_enter Try.func122,Try.ntmps122
    go_upto_region 3 with (((with_reducible refine gate_dst (N:=2) rfl ?_);refine box_event ?hg_ (N:=2) ?hd_ (cs:= #[.int .u16 0,.int .u16 0,.int .u32 0,.int .u32 0,.int .u8 0,.int .u16 0,.int .u16 0,.int .u16 0,.slice none 0 0,.slice none 0 0]) (t:=137) ?hr_ ?_;(case hd_=>rfl);(case hg_=>rfl);(case hr_=>first|(go_simp;done)|(go_simp;rfl));intro gp hgg_ w1 hbox_ hbb_;have Ox:=Aside0.mk (show w.heap.size<=gp by rw [hgg_];exact below_size HB.out);have wz:=Aside0.mk hbox_;have hb_:=hbb_;replace HB:=mB HB hb_;clear hb_;clear hgg_ hbox_ hbb_))
    have z12:=(HB.out.cell Aha.out).trans H12.out;have Xn:=z12;simp only [Go.Addr.add,Nat.reduceEqDiff,↓reduceIte] at Xn
    have Ahd:=Ahb.out;have Ahe:=Ahc.out;have hWd:=HWD.out
    go_upto_region 8 with (fail)
    clear z12 Xn Ahd Ahe hWd;rw [HWD.out];refine start_ (n:=36) (S:=fun w'=>w'.cell? ⟨ad.block,ad.off+13,none⟩=some (.int .u8 (rd l 13))) (ds:=[]) #[false,false,false,false,false,false,false,false,false,false,false,false,false,false,false,false,false,false,false,false,false,false,false,false,false,false,false,false,false,false,false,false,false,false,false,false] (by kernel_rfl) rfl rfl ((HB.out.cell Y6.out).trans Y5.out) (fun hHeld=> ?_);refine with_tabW Xm.R8.tab Xm.R8.bits (fun HT_ HW_=> ?_);have hb_:=below_drew1 (Below.refl w1.heap.size w1);replace HB:=mB HB hb_;replace wz:=mX wz hb_;clear hb_;generalize w1.drew=w2 at HB wz hHeld|-
    refine pz 0 25 HT_ ?_;refine pv 1 26 (.slice B0 ((l.take (2:Int).toNat).drop (0:Int).toNat).length m0) HT_ ?_ ?_
    ·intro w'
     exact zi (vx:= .slice (some ad) l.length c) (vl:= .int .i64 0) (vh:= .int .i64 2) (vm:= .int .i64 2) (by rfl) (by rfl) (by rfl) (by rfl) (by rfl) (K0.out w')
    refine nz 26 ?_;refine pz 3 28 HT_ ?_;refine pv 4 29 (.slice B1 ((l.take (4:Int).toNat).drop (2:Int).toNat).length m1) HT_ ?_ ?_
    ·intro w'
     exact zi (vx:= .slice (some ad) l.length c) (vl:= .int .i64 2) (vh:= .int .i64 4) (vm:= .int .i64 4) (by rfl) (by rfl) (by rfl) (by rfl) (by rfl) (K1.out w')
    refine nz 29 ?_;refine pz 6 31 HT_ ?_;refine pv 7 32 (.slice B2 ((l.take (8:Int).toNat).drop (4:Int).toNat).length m2) HT_ ?_ ?_
    ·intro w'
     exact zi (vx:= .slice (some ad) l.length c) (vl:= .int .i64 4) (vh:= .int .i64 8) (vm:= .int .i64 8) (by rfl) (by rfl) (by rfl) (by rfl) (by rfl) (K2.out w')
    refine nz 32 ?_;refine pz 9 34 HT_ ?_;refine pv 10 35 (.slice B3 ((l.take (12:Int).toNat).drop (8:Int).toNat).length m3) HT_ ?_ ?_
    ·intro w'
     exact zi (vx:= .slice (some ad) l.length c) (vl:= .int .i64 8) (vh:= .int .i64 12) (vm:= .int .i64 12) (by rfl) (by rfl) (by rfl) (by rfl) (by rfl) (K3.out w')
    refine nz 35 ?_;refine pz 12 37 HT_ ?_;refine pz 13 38 HT_ ?_;refine pz 15 40 HT_ ?_;refine pv 16 41 (.slice B4 ((l.take (16:Int).toNat).drop (14:Int).toNat).length m4) HT_ ?_ ?_
    ·intro w'
     exact zi (vx:= .slice (some ad) l.length c) (vl:= .int .i64 14) (vh:= .int .i64 16) (vm:= .int .i64 16) (by rfl) (by rfl) (by rfl) (by rfl) (by rfl) (K4.out w')
    refine nz 41 ?_;refine pz 18 43 HT_ ?_;refine pv 19 44 (.slice B5 ((l.take (18:Int).toNat).drop (16:Int).toNat).length m5) HT_ ?_ ?_
    ·intro w'
     exact zi (vx:= .slice (some ad) l.length c) (vl:= .int .i64 16) (vh:= .int .i64 18) (vm:= .int .i64 18) (by rfl) (by rfl) (by rfl) (by rfl) (by rfl) (K5.out w')
    refine nz 44 ?_;refine pz 21 46 HT_ ?_;refine pv 22 47 (.slice B6 ((l.take (20:Int).toNat).drop (18:Int).toNat).length m6) HT_ ?_ ?_
    ·intro w'
     exact zi (vx:= .slice (some ad) l.length c) (vl:= .int .i64 18) (vh:= .int .i64 20) (vm:= .int .i64 20) (by rfl) (by rfl) (by rfl) (by rfl) (by rfl) (K6.out w')
    refine nz 47 ?_;refine pz 24 49 HT_ ?_;refine pz 25 50 HT_ ?_;refine pz 26 51 HT_ ?_;refine pv 27 52 (.slice B7 ((l.take hd.toNat).drop (20:Int).toNat).length m7) HT_ ?_ ?_
    ·intro w'
     exact zi (vx:= .slice (some ad) l.length c) (vl:= .int .i64 20) (vh:= .int .i64 hd) (vm:= .int .i64 hd) (by rfl) (by rfl) (by rfl) (by rfl) (by rfl) (K7.out w')
    refine nz 52 ?_;refine pz 29 54 HT_ ?_;refine pz 30 55 HT_ ?_;refine pv 31 56 (.slice B8 (l.drop hd.toNat).length m8) HT_ ?_ ?_
    ·intro w'
     exact AcI (vx:= .slice (some ad) l.length c) (vl:= .int .i64 hd) (by rfl) (by rfl) (by rfl) (K8.out w')
    refine nz 56 ?_;refine tz 14 39 HT_ HW_ hHeld ?_;refine oz 2 (some 27) HT_ (fun K hK=> ?_);refine goes_ Try.func130 (by kernel_rfl) rfl #[(.slice B0 ((l.take (2:Int).toNat).drop (0:Int).toNat).length m0)] (by rfl) rfl rfl (by first|rfl|(go_simp;done)|(go_simp;rfl)|(go_simp;decide)) ?_;refine (oQ.calls B0 m0 _ t1 _ (Kd.aJ D0.out HB.out) N0.out Q0.out).mono ?_;rintro e w3 ⟨rfl,dr⟩;have hb:=(show Below w2.heap.size w2 w3 from yM (Below.refl w2.heap.size w2) dr)
    have hb_:=hb;replace HB:=mB HB hb_;replace wz:=mX wz hb_;clear hb_;clear hb dr;refine ⟨_,rfl, ?_⟩;refine hK.out _ _ ((HB.out.cell Y6.out).trans Y5.out) (fun hHeld=> ?_);clear hK K;refine nz 27 ?_;refine oz 5 (some 30) HT_ (fun K hK=> ?_);refine goes_ Try.func130 (by kernel_rfl) rfl #[(.slice B1 ((l.take (4:Int).toNat).drop (2:Int).toNat).length m1)] (by rfl) rfl rfl (by first|rfl|(go_simp;done)|(go_simp;rfl)|(go_simp;decide)) ?_;refine (oQ.calls B1 m1 _ t2 _ (Kd.aJ D1.out HB.out) N1.out Q1.out).mono ?_;rintro e w4 ⟨rfl,dr⟩;have hb:=(show Below w3.heap.size w3 w4 from yM (Below.refl w3.heap.size w3) dr)
    have hb_:=hb;replace HB:=mB HB hb_;replace wz:=mX wz hb_;clear hb_;clear hb dr;refine ⟨_,rfl, ?_⟩;refine hK.out _ _ ((HB.out.cell Y6.out).trans Y5.out) (fun hHeld=> ?_);clear hK K;refine nz 30 ?_;refine oz 8 (some 33) HT_ (fun K hK=> ?_);refine goes_ Try.func131 (by kernel_rfl) rfl #[(.slice B2 ((l.take (8:Int).toNat).drop (4:Int).toNat).length m2)] (by rfl) rfl rfl (by first|rfl|(go_simp;done)|(go_simp;rfl)|(go_simp;decide)) ?_;refine (vJ.calls B2 m2 _ t3 _ (Kd.aJ D2.out HB.out) N2.out Q2.out).mono ?_;rintro e w5 ⟨rfl,dr⟩;have hb:=(show Below w4.heap.size w4 w5 from yM (Below.refl w4.heap.size w4) dr)
    have hb_:=hb;replace HB:=mB HB hb_;replace wz:=mX wz hb_;clear hb_;clear hb dr;refine ⟨_,rfl, ?_⟩;refine hK.out _ _ ((HB.out.cell Y6.out).trans Y5.out) (fun hHeld=> ?_);clear hK K;refine nz 33 ?_;refine oz 11 (some 36) HT_ (fun K hK=> ?_);refine goes_ Try.func131 (by kernel_rfl) rfl #[(.slice B3 ((l.take (12:Int).toNat).drop (8:Int).toNat).length m3)] (by rfl) rfl rfl (by first|rfl|(go_simp;done)|(go_simp;rfl)|(go_simp;decide)) ?_;refine (vJ.calls B3 m3 _ t4 _ (Kd.aJ D3.out HB.out) N3.out Q3.out).mono ?_;rintro e w6 ⟨rfl,dr⟩;have hb:=(show Below w5.heap.size w5 w6 from yM (Below.refl w5.heap.size w5) dr)
    have hb_:=hb;replace HB:=mB HB hb_;replace wz:=mX wz hb_;clear hb_;clear hb dr;refine ⟨_,rfl, ?_⟩;refine hK.out _ _ ((HB.out.cell Y6.out).trans Y5.out) (fun hHeld=> ?_);clear hK K;refine nz 36 ?_;refine oz 17 (some 42) HT_ (fun K hK=> ?_);refine goes_ Try.func130 (by kernel_rfl) rfl #[(.slice B4 ((l.take (16:Int).toNat).drop (14:Int).toNat).length m4)] (by rfl) rfl rfl (by first|rfl|(go_simp;done)|(go_simp;rfl)|(go_simp;decide)) ?_;refine (oQ.calls B4 m4 _ t5 _ (Kd.aJ D4.out HB.out) N4.out Q4.out).mono ?_;rintro e w7 ⟨rfl,dr⟩;have hb:=(show Below w6.heap.size w6 w7 from yM (Below.refl w6.heap.size w6) dr)
    have hb_:=hb;replace HB:=mB HB hb_;replace wz:=mX wz hb_;clear hb_;clear hb dr;refine ⟨_,rfl, ?_⟩;refine hK.out _ _ ((HB.out.cell Y6.out).trans Y5.out) (fun hHeld=> ?_);clear hK K;refine nz 42 ?_;refine oz 20 (some 45) HT_ (fun K hK=> ?_);refine goes_ Try.func130 (by kernel_rfl) rfl #[(.slice B5 ((l.take (18:Int).toNat).drop (16:Int).toNat).length m5)] (by rfl) rfl rfl (by first|rfl|(go_simp;done)|(go_simp;rfl)|(go_simp;decide)) ?_;refine (oQ.calls B5 m5 _ t6 _ (Kd.aJ D5.out HB.out) N5.out Q5.out).mono ?_;rintro e w8 ⟨rfl,dr⟩;have hb:=(show Below w7.heap.size w7 w8 from yM (Below.refl w7.heap.size w7) dr)
    have hb_:=hb;replace HB:=mB HB hb_;replace wz:=mX wz hb_;clear hb_;clear hb dr;refine ⟨_,rfl, ?_⟩;refine hK.out _ _ ((HB.out.cell Y6.out).trans Y5.out) (fun hHeld=> ?_);clear hK K;refine nz 45 ?_;refine oz 23 (some 48) HT_ (fun K hK=> ?_);refine goes_ Try.func130 (by kernel_rfl) rfl #[(.slice B6 ((l.take (20:Int).toNat).drop (18:Int).toNat).length m6)] (by rfl) rfl rfl (by first|rfl|(go_simp;done)|(go_simp;rfl)|(go_simp;decide)) ?_;refine (oQ.calls B6 m6 _ t7 _ (Kd.aJ D6.out HB.out) N6.out Q6.out).mono ?_;rintro e w9 ⟨rfl,dr⟩;have hb:=(show Below w8.heap.size w8 w9 from yM (Below.refl w8.heap.size w8) dr)
    have hb_:=hb;replace HB:=mB HB hb_;replace wz:=mX wz hb_;clear hb_;clear hb dr;refine ⟨_,rfl, ?_⟩;refine hK.out _ _ ((HB.out.cell Y6.out).trans Y5.out) (fun hHeld=> ?_);clear hK K;refine nz 48 ?_;refine oz 28 (some 53) HT_ (fun K hK=> ?_);refine goes_ Try.func97 (by kernel_rfl) rfl #[(.slice B7 ((l.take hd.toNat).drop (20:Int).toNat).length m7)] (by rfl) rfl rfl (by first|rfl|(go_simp;done)|(go_simp;rfl)|(go_simp;decide)) ?_;refine (dh.calls B7 m7 _ x _ (Kd.aJ D7.out HB.out) N7.out Q7.out).mono ?_;rintro e w10 ⟨v_,rfl,ho,hb⟩;have HRx:=Aside0.mk (Kd.R_lower ho (below_size HB.out));obtain ⟨Ax,cx,rfl,_,_⟩:=Kd.R_reads ho;clear ho;have hb_:=hb;replace HB:=mB HB hb_;replace wz:=mX wz hb_;clear hb_;clear hb;refine ⟨_,rfl, ?_⟩;refine hK.out _ _ ((HB.out.cell Y6.out).trans Y5.out) (fun hHeld=> ?_)
    clear hK K;refine nz 53 ?_;refine oz 32 (some 57) HT_ (fun K hK=> ?_);refine goes_ Try.func97 (by kernel_rfl) rfl #[(.slice B8 (l.drop hd.toNat).length m8)] (by rfl) rfl rfl (by first|rfl|(go_simp;done)|(go_simp;rfl)|(go_simp;decide)) ?_;refine (dh.calls B8 m8 _ y _ (Kd.aJ D8.out HB.out) N8.out Q8.out).mono ?_;rintro e w11 ⟨v_,rfl,ho,hb⟩;have HRy:=Aside0.mk (Kd.R_lower ho (below_size HB.out));obtain ⟨Ay,cy,rfl,_,_⟩:=Kd.R_reads ho;clear ho;have hb_:=hb;replace HB:=mB HB hb_;replace wz:=mX wz hb_;replace HRx:=mR HRx hb_;clear hb_;clear hb;refine ⟨_,rfl, ?_⟩;refine hK.out _ _ ((HB.out.cell Y6.out).trans Y5.out) (fun hHeld=> ?_);clear hK K;refine nz 57 ?_;refine pz 33 58 HT_ ?_;refine oz 34 (none) HT_ (fun K hK=> ?_)
    refine cu (by rfl) (by rfl) rfl rfl rfl wz.out qV.out rfl (by simp [Value.oneCell']) ?_;intro w12 hs_ off_;replace HRx:=oR off_ HRx wz (by decide);replace HRy:=oR off_ HRy wz (by decide);replace HB:=oB off_ HB Ox;clear off_;replace wz:=Aside0.mk hs_;clear hs_;refine hK.out _ _ ((HB.out.cell Y6.out).trans Y5.out) (fun hHeld=> ?_);clear hK K;refine pz 35 3 HT_ ?_;refine dz HT_ ?_;clear HT_ HW_ hHeld
    (try simp only [Exit.inBlock,Exit.then])
    (try go_wp2)
    (try simp only [Exit.inBlock,Exit.then])
    refine bodyPost_ret (iJ rfl _ _ gp 137 #[.int .u16 t1,.int .u16 t2,.int .u32 t3,.int .u32 t4,.int .u8 (rd l 13),.int .u16 t5,.int .u16 t6,.int .u16 t7,.slice Ax x.length cx,.slice Ay y.length cy] (0,0) _ rfl wz.out Try.underlying137 rfl qV.out) rfl ?_;exact ⟨_,_,rfl,HRx.out,HRy.out,HB.out⟩
attribute [local go_sem] dV dW gI gJ dG dH dX dY
def oU.f (l0:List Int):Option (Int):=if 0<(l0.length:Int) then (if 1<(l0.length:Int) then (some (Go.bits .or .u16 (IntKind.u16.wrap ((IntKind.u16.wrap (rd l0 0))*256)) (IntKind.u16.wrap (rd l0 1)))) else (none)) else (none)
theorem oU.calls (A0:Option Addr) (c0:Nat) (l0:List Int) (r:Int) (w:World) (hr0:Kd.C (Kd.int .u8) w A0 l0.length l0) (hc0:l0.length<=c0) (h:oU.f l0=some r):
  Calls Try.prog 96 #[.slice A0 l0.length c0] w fun e w'=>e= .returned (.int .u16 r) /\ bf w w':=by
 have HR0:=Aside0.mk hr0;have mg:=Aside0.mk hc0;clear hr0 hc0;have H:(if 0<(l0.length:Int) then (if 1<(l0.length:Int) then (some (Go.bits .or .u16 (IntKind.u16.wrap ((IntKind.u16.wrap (rd l0 0))*256)) (IntKind.u16.wrap (rd l0 1)))) else (none)) else (none))=some r:=h;clear h
 by_cases c2:0<(l0.length:Int)
 ·rw [ah c2] at H
  have nV:decide (0<(l0.length:Int))=true:=bJ c2;have qQ:decide (0<l0.length)=true:=bJ (by omega);clear c2
  by_cases c3:1<(l0.length:Int)
  ·rw [ah c3] at H
   have tY:decide (1<(l0.length:Int))=true:=bJ c3;have vI:decide (1<l0.length)=true:=bJ (by omega);clear c3;obtain rfl:=eF H;have Ahf:0<=(0:Int):=(by omega)
   have Ahg:0<(l0.length:Int):=je;obtain ⟨Alm,e246,VD⟩:=Kd.dU HR0.out 0 Ahf Ahg
   cases e246
   have Av7:(0<l0.length)=True:=eq_true (by omega)
   (try rw [show ((0:Int)).toNat=0 from rfl] at VD)
   (try rw [Addr.add_zero'] at VD)
   replace Ahf:=eq_true Ahf;replace Ahg:=eq_true Ahg;have Ahh:0<=(1:Int):=(by omega)
   have Ahi:1<(l0.length:Int):=je;obtain ⟨Aln,e247,VE⟩:=Kd.dU HR0.out 1 Ahh Ahi;obtain rfl:Alm=Aln:=(by injection e247)
   (try simp only [show (1:Int).toNat=1 from rfl,Nat.reduceMul,Nat.reduceEqDiff,Go.Addr.add,↓reduceIte] at VE)
   have Av8:(1<l0.length)=True:=eq_true (by omega)
   (try rw [show ((1:Int)).toNat=1 from rfl] at VE)
   replace Ahh:=eq_true Ahh;replace Ahi:=eq_true Ahi
   go_enter Try.func96,Try.ntmps96
   go_wp2
   repeat (go_quiet (fail);try go_wp2)
   go_ret
   exact ⟨by first|rfl|(simp;done)|(simp [*];done),by repeat (first|exact bf.refl _|apply bf.step)⟩
  ·rw [aj c3] at H
   cases H
 ·rw [aj c2] at H
  cases H
attribute [local go_sem] dV dW gI gJ dG dH dX dY
def lH.f (l0:List Int):Option (Int×Int×Int×List Int×Int):=if (l0.length:Int)<8 then (some (0,0,0,([]:List Int),20)) else (if 6<=(l0.length:Int) then ((oU.f ((l0.take 6).drop 4)).bind fun uC=>(if (wrap64 (uC))<8 then (some (0,0,0,([]:List Int),21)) else (if (l0.length:Int)<(wrap64 (uC)) then (some (0,0,0,([]:List Int),20)) else (if 2<=(l0.length:Int) then ((oU.f ((l0.take 2).drop 0)).bind fun MO=>(if 4<=(l0.length:Int) then ((oU.f ((l0.take 4).drop 2)).bind fun Oy=>(if 8<=(l0.length:Int) then ((oU.f ((l0.take 8).drop 6)).bind fun Qs=>(if 8<=(wrap64 (uC)) then (if (wrap64 (uC))<=(l0.length:Int) then ((dh.f ((l0.take ((wrap64 (uC)):Int).toNat).drop 8)).bind fun TW=>(some (MO,Oy,Qs,TW,0))) else (none)) else (none))) else (none))) else (none))) else (none))))) else (none))
def lH.T8:Bool×List (List Nat×List Nat):=(true,[([],[]),([0],[0]),([1],[1]),([],[]),([3],[3]),([4,2],[4]),([],[]),([6],[6]),([7,5],[7]),([],[]),([],[]),([],[]),([9,10,11],[9,10,11]),([12,8],[12]),([2,5,8,13],[2,5,8,13]),([14,13,0,1,2,3,4,5,6,7,8,9,10,11,12,13,14],[14]),([15,0,1,2,3,4,5,6,7,8,9,10,11,12,13,14,15],[])])
def lH.B8:List Nat:=[0,1,3,0,8,31,0,64,255,0,0,0,3584,8191,16383,32767,65535]
theorem lH.MP:rtab .any (opsOf Try.f58 8)=lH.T8:=by kernel_rfl
theorem lH.EM:waitsOk lH.T8.2 lH.B8=true:=by kernel_rfl
theorem lH.calls (A0:Option Addr) (c0:Nat) (l0:List Int) (r1:Int) (r2:Int) (r3:Int) (r4:List Int) (r5:Int) (w:World) (hr0:Kd.C (Kd.int .u8) w A0 l0.length l0) (hc0:l0.length<=c0) (h:lH.f l0=some (r1,r2,r3,r4,r5)):
  Calls Try.prog 58 #[.slice A0 l0.length c0] w fun e w'=>∃ v3_:Value,e= .returned (.tuple #[.agg #[.int .u16 r1,.int .u16 r2,.int .u16 r3,v3_],.int .i64 r5]) /\ Kd.R (Kd.int .u8) 5 w' w.heap.size (fun _=>True) v3_ r4 /\ Below w.heap.size w w':=by
 have F7:=Try.underlying83;have HR0:=Aside0.mk hr0;have mg:=Aside0.mk hc0;clear hr0 hc0;have HB:=jy w
 have H:(if (l0.length:Int)<8 then (some (0,0,0,([]:List Int),20)) else (if 6<=(l0.length:Int) then ((oU.f ((l0.take 6).drop 4)).bind fun uC=>(if (wrap64 (uC))<8 then (some (0,0,0,([]:List Int),21)) else (if (l0.length:Int)<(wrap64 (uC)) then (some (0,0,0,([]:List Int),20)) else (if 2<=(l0.length:Int) then ((oU.f ((l0.take 2).drop 0)).bind fun MO=>(if 4<=(l0.length:Int) then ((oU.f ((l0.take 4).drop 2)).bind fun Oy=>(if 8<=(l0.length:Int) then ((oU.f ((l0.take 8).drop 6)).bind fun Qs=>(if 8<=(wrap64 (uC)) then (if (wrap64 (uC))<=(l0.length:Int) then ((dh.f ((l0.take ((wrap64 (uC)):Int).toNat).drop 8)).bind fun TW=>(some (MO,Oy,Qs,TW,0))) else (none)) else (none))) else (none))) else (none))) else (none))))) else (none)))=some (r1,r2,r3,r4,r5):=h
 clear h
 by_cases c2:(l0.length:Int)<8
 ·rw [ah c2] at H
  have nV:decide ((l0.length:Int)<8)=true:=bJ c2;have qQ:decide (l0.length<8)=true:=bJ (by omega);clear c2;simp only [Option.some.injEq,Prod.mk.injEq] at H
  obtain ⟨rfl,rfl,rfl,rfl,rfl⟩:=H
  go_enter Try.func58,Try.ntmps58
  go_wp2_with (first|((with_reducible refine gate_dst (N:=2) rfl ?_);refine box_event ?hg (N:=2) ?hd (cs:= #[.int .u16 0,.int .u16 0,.int .u16 0,.slice none 0 0]) (t:=83) ?hr ?_;(case hd=>rfl);(case hg=>rfl);(case hr=>first|(go_simp;done)|(go_simp;rfl));intro nP hg w3 hbox hb;have ay:=Aside0.mk (ag (bz HB) hb);have aC:=Aside0.mk (hbox);have bg:=Aside0.mk ((by rw [hg];exact (below_size (bz HB)):w.heap.size<=nP));have dm:=Aside0.mk ((by rw [hg];exact (below_size (bz HB)):w.heap.size<=nP));clear HB;have HB:=ay;have jM:=aC;have Y7:=bg;have Y8:=dm;clear ay aC bg dm;clear hb hbox hg;have vK:w3.cell? ⟨nP,0,none⟩=some (.int .u16 0):=cz jM.out 0 rfl;have vM:w3.cell? ⟨nP,1,none⟩=some (.int .u16 0):=cz jM.out 1 rfl;have vN:w3.cell? ⟨nP,2,none⟩=some (.int .u16 0):=cz jM.out 2 rfl;have vO:w3.cell? ⟨nP,3,none⟩=some (.slice none 0 0):=cz jM.out 3 rfl;have vP:=blk_frozen jM.out 0;have vS:=blk_frozen jM.out 1;have vT:=blk_frozen jM.out 2;have vU:=blk_frozen jM.out 3))
  refine bodyPost_ret (iJ rfl _ _ nP 83 #[.int .u16 0,.int .u16 0,.int .u16 0,.slice none 0 0] (0,0) _ rfl (by (repeat (first|with_reducible refine aH ?_ _|with_reducible refine az ?_|with_reducible refine aG ?_ _|refine bH (cs:= #[.int .u16 0,.int .u16 0,.int .u16 0,.slice none 0 0]) ?_ _ _ rfl));(with_reducible repeat (first|refine aH ?_ _|refine az ?_|refine aG ?_ _));exact jM.out) Try.underlying83 rfl (by kernel_rfl)) rfl ?_;exact ⟨_,by first|rfl|(simp [ae,af]<;>rfl)|(simp [*,ae,af]<;>rfl),by first|exact Kd.bV _ _ _ _ _|exact Kd.lV _ _ _ _ _|exact Kd.lW _ _ _ _ _|exact Kd.lT _ _ _ _ _|exact Kd.lU _ _ _ _ _,bz HB⟩
 ·rw [aj c2] at H
  have nV:decide ((l0.length:Int)<8)=false:=jC c2;have qQ:decide (l0.length<8)=false:=jC (by omega);clear c2
  by_cases c5:6<=(l0.length:Int)
  ·rw [ah c5] at H
   have qR:=eq_true c5;have wO:decide (6<=(l0.length:Int))=true:=bJ c5;clear c5;replace H:=dM H;obtain ⟨uC,Ce,H⟩:=H
   (try dsimp -simprocs only at H)
   have A6:=Aside0.mk Ce;clear Ce
   by_cases c7:(wrap64 (uC))<8
   ·rw [ah c7] at H
    have Fe:decide ((wrap64 (uC))<8)=true:=bJ c7;clear c7;simp only [Option.some.injEq,Prod.mk.injEq] at H
    obtain ⟨rfl,rfl,rfl,rfl,rfl⟩:=H
    go_enter Try.func58,Try.ntmps58
    go_wp2_with (first|((with_reducible refine gate_dst (N:=2) rfl ?_);refine box_event ?hg (N:=2) ?hd (cs:= #[.int .u16 0,.int .u16 0,.int .u16 0,.slice none 0 0]) (t:=83) ?hr ?_;(case hd=>rfl);(case hg=>rfl);(case hr=>first|(go_simp;done)|(go_simp;rfl));intro nP hg w8 hbox hb;have ay:=Aside0.mk (ag (bz HB) hb);have aC:=Aside0.mk (hbox);have bg:=Aside0.mk ((by rw [hg];exact (below_size (bz HB)):w.heap.size<=nP));have dm:=Aside0.mk ((by rw [hg];exact (below_size (bz HB)):w.heap.size<=nP));clear HB;have HB:=ay;have jM:=aC;have Y7:=bg;have Y8:=dm;clear ay aC bg dm;clear hb hbox hg;obtain ⟨i09,Y9,_,Za,_⟩:=info_parts info5;obtain ⟨A9,Alp,hA9,hC9⟩:=lq (P:=Try.prog) (Value.int .u8) 0 23 5 .i64 .i64 .i64 Try.underlying23 Y9 Za A0 c0 l0 4 6 (by omega) (by first|omega|exact je) je mg.out;have Qu:=Aside0.mk (Kd.dR (h1:=fun _=>rfl) (hA9 _ (Kd.dO HR0.out)));have Qv:=Aside0.mk hC9;clear hA9 hC9 Y9 Za;have AyG:min 6 l0.length - 4=2:=(by have h_:(6:Int)<=(l0.length:Int):=je;omega))|((with_reducible refine ai (f:=96) rfl ?_);refine zQ (some 11) rfl rfl Try.func96 (by kernel_rfl) rfl #[.slice A9 ((l0.take 6).drop 4).length 2] rfl (by (try simp only [List.map_toArray,List.map_cons,List.map_nil]);first|done|(rw [show ((l0.take 6).drop 4).length=2 from (by rw [List.length_drop,List.length_take];have h_:(6:Int)<=(l0.length:Int):=je;omega)]<;>rfl)|rfl|(simp only [List.length_drop,List.length_take];rfl)|(go_simp;done)|(simp [Act.eval,IntKind.signed];done)|(simp [Act.eval,IntKind.signed];rfl)) ?_;(with_reducible refine (oU.calls _ _ ((l0.take 6).drop 4) uC _ ?au ?ax A6.out).mono ?_);(case au=>exact Kd.aJ Qu.out (bz HB));(case ax=>exact Qv.out);rintro e w' ⟨rfl,⟨nd,rfl⟩⟩;refine ⟨_,rfl, ?_⟩;(try (rw [iC w8];generalize nO:World.drewN w8 _=w8;have ay:Aside0 (w8.heap[nP]?=some (.cells #[.int .u16 0,.int .u16 0,.int .u16 0,.slice none 0 0] 83 (0,0))):=⟨by rw [<- nO];exact (kz jM)⟩;have aC:Aside0 (Below w.heap.size w w8):=⟨by rw [<- nO];exact bz HB⟩;clear jM HB nO;have jM:=ay;have HB:=aC;clear ay aC));have zk:w8.cell? ⟨nP,0,none⟩=some (.int .u16 0):=cz jM.out 0 rfl;have zl:w8.cell? ⟨nP,1,none⟩=some (.int .u16 0):=cz jM.out 1 rfl;have zn:w8.cell? ⟨nP,2,none⟩=some (.int .u16 0):=cz jM.out 2 rfl;have zo:w8.cell? ⟨nP,3,none⟩=some (.slice none 0 0):=cz jM.out 3 rfl;have zq:=blk_frozen jM.out 0;have zu:=blk_frozen jM.out 1;have zx:=blk_frozen jM.out 2;have zy:=blk_frozen jM.out 3))
    refine bodyPost_ret (iJ rfl _ _ nP 83 #[.int .u16 0,.int .u16 0,.int .u16 0,.slice none 0 0] (0,0) _ rfl (by (repeat (first|with_reducible refine aH ?_ _|with_reducible refine az ?_|with_reducible refine aG ?_ _|refine bH (cs:= #[.int .u16 0,.int .u16 0,.int .u16 0,.slice none 0 0]) ?_ _ _ rfl));(with_reducible repeat (first|refine aH ?_ _|refine az ?_|refine aG ?_ _));exact jM.out) Try.underlying83 rfl (by kernel_rfl)) rfl ?_;exact ⟨_,by first|rfl|(simp [ae,af]<;>rfl)|(simp [*,ae,af]<;>rfl),by first|exact Kd.bV _ _ _ _ _|exact Kd.lV _ _ _ _ _|exact Kd.lW _ _ _ _ _|exact Kd.lT _ _ _ _ _|exact Kd.lU _ _ _ _ _,bz HB⟩
   ·rw [aj c7] at H
    have Fe:decide ((wrap64 (uC))<8)=false:=jC c7;clear c7
    by_cases c11:(l0.length:Int)<(wrap64 (uC))
    ·rw [ah c11] at H
     have Ip:decide ((l0.length:Int)<(wrap64 (uC)))=true:=bJ c11;clear c11;simp only [Option.some.injEq,Prod.mk.injEq] at H
     obtain ⟨rfl,rfl,rfl,rfl,rfl⟩:=H
     go_enter Try.func58,Try.ntmps58
     go_wp2_with (first|((with_reducible refine gate_dst (N:=2) rfl ?_);refine box_event ?hg (N:=2) ?hd (cs:= #[.int .u16 0,.int .u16 0,.int .u16 0,.slice none 0 0]) (t:=83) ?hr ?_;(case hd=>rfl);(case hg=>rfl);(case hr=>first|(go_simp;done)|(go_simp;rfl));intro nP hg w12 hbox hb;have ay:=Aside0.mk (ag (bz HB) hb);have aC:=Aside0.mk (hbox);have bg:=Aside0.mk ((by rw [hg];exact (below_size (bz HB)):w.heap.size<=nP));have dm:=Aside0.mk ((by rw [hg];exact (below_size (bz HB)):w.heap.size<=nP));clear HB;have HB:=ay;have jM:=aC;have Y7:=bg;have Y8:=dm;clear ay aC bg dm;clear hb hbox hg;obtain ⟨AyH,AeK,_,AeL,_⟩:=info_parts info5;obtain ⟨YB,AsS,Als,Alu⟩:=lq (P:=Try.prog) (Value.int .u8) 0 23 5 .i64 .i64 .i64 Try.underlying23 AeK AeL A0 c0 l0 4 6 (by omega) (by first|omega|exact je) je mg.out;have Qu:=Aside0.mk (Kd.dR (h1:=fun _=>rfl) (Als _ (Kd.dO HR0.out)));have Qv:=Aside0.mk Alu;clear Als Alu AeK AeL;have Av9:min 6 l0.length - 4=2:=(by have h_:(6:Int)<=(l0.length:Int):=je;omega))|((with_reducible refine ai (f:=96) rfl ?_);refine zQ (some 11) rfl rfl Try.func96 (by kernel_rfl) rfl #[.slice YB ((l0.take 6).drop 4).length 2] rfl (by (try simp only [List.map_toArray,List.map_cons,List.map_nil]);first|done|(rw [show ((l0.take 6).drop 4).length=2 from (by rw [List.length_drop,List.length_take];have h_:(6:Int)<=(l0.length:Int):=je;omega)]<;>rfl)|rfl|(simp only [List.length_drop,List.length_take];rfl)|(go_simp;done)|(simp [Act.eval,IntKind.signed];done)|(simp [Act.eval,IntKind.signed];rfl)) ?_;(with_reducible refine (oU.calls _ _ ((l0.take 6).drop 4) uC _ ?au ?ax A6.out).mono ?_);(case au=>exact Kd.aJ Qu.out (bz HB));(case ax=>exact Qv.out);rintro e w' ⟨rfl,⟨nd,rfl⟩⟩;refine ⟨_,rfl, ?_⟩;(try (rw [iC w12];generalize nO:World.drewN w12 _=w12;have ay:Aside0 (w12.heap[nP]?=some (.cells #[.int .u16 0,.int .u16 0,.int .u16 0,.slice none 0 0] 83 (0,0))):=⟨by rw [<- nO];exact (kz jM)⟩;have aC:Aside0 (Below w.heap.size w w12):=⟨by rw [<- nO];exact bz HB⟩;clear jM HB nO;have jM:=ay;have HB:=aC;clear ay aC));have ApR:w12.cell? ⟨nP,0,none⟩=some (.int .u16 0):=cz jM.out 0 rfl;have ApS:w12.cell? ⟨nP,1,none⟩=some (.int .u16 0):=cz jM.out 1 rfl;have ApT:w12.cell? ⟨nP,2,none⟩=some (.int .u16 0):=cz jM.out 2 rfl;have ApU:w12.cell? ⟨nP,3,none⟩=some (.slice none 0 0):=cz jM.out 3 rfl;have ApV:=blk_frozen jM.out 0;have ApW:=blk_frozen jM.out 1;have ApX:=blk_frozen jM.out 2;have ApY:=blk_frozen jM.out 3))
     refine bodyPost_ret (iJ rfl _ _ nP 83 #[.int .u16 0,.int .u16 0,.int .u16 0,.slice none 0 0] (0,0) _ rfl (by (repeat (first|with_reducible refine aH ?_ _|with_reducible refine az ?_|with_reducible refine aG ?_ _|refine bH (cs:= #[.int .u16 0,.int .u16 0,.int .u16 0,.slice none 0 0]) ?_ _ _ rfl));(with_reducible repeat (first|refine aH ?_ _|refine az ?_|refine aG ?_ _));exact jM.out) Try.underlying83 rfl (by kernel_rfl)) rfl ?_;exact ⟨_,by first|rfl|(simp [ae,af]<;>rfl)|(simp [*,ae,af]<;>rfl),by first|exact Kd.bV _ _ _ _ _|exact Kd.lV _ _ _ _ _|exact Kd.lW _ _ _ _ _|exact Kd.lT _ _ _ _ _|exact Kd.lU _ _ _ _ _,bz HB⟩
    ·rw [aj c11] at H
     have Ip:decide ((l0.length:Int)<(wrap64 (uC)))=false:=jC c11;clear c11
     by_cases c15:2<=(l0.length:Int)
     ·rw [ah c15] at H
      have CS:=eq_true c15;have Nq:decide (2<=(l0.length:Int))=true:=bJ c15;clear c15;replace H:=dM H;obtain ⟨MO,CU,H⟩:=H
      (try dsimp -simprocs only at H)
      have YC:=Aside0.mk CU;clear CU
      by_cases c17:4<=(l0.length:Int)
      ·rw [ah c17] at H
       have Qw:=eq_true c17;have Zb:decide (4<=(l0.length:Int))=true:=bJ c17;clear c17;replace H:=dM H;obtain ⟨Oy,CV,H⟩:=H
       (try dsimp -simprocs only at H)
       have Xo:=Aside0.mk CV;clear CV
       by_cases c19:8<=(l0.length:Int)
       ·rw [ah c19] at H
        have Zc:=eq_true c19;have AeM:decide (8<=(l0.length:Int))=true:=bJ c19;clear c19;replace H:=dM H;obtain ⟨Qs,JU,H⟩:=H
        (try dsimp -simprocs only at H)
        have Aw:=Aside0.mk JU;clear JU
        by_cases c21:8<=(wrap64 (uC))
        ·rw [ah c21] at H
         have Alv:=eq_true c21;have Alw:decide (8<=(wrap64 (uC)))=true:=bJ c21;clear c21
         by_cases Qx:(wrap64 (uC))<=(l0.length:Int)
         ·rw [ah Qx] at H
          have Zd:=eq_true Qx;have Alx:decide ((wrap64 (uC))<=(l0.length:Int))=true:=bJ Qx;clear Qx;replace H:=dM H;obtain ⟨TW,Aly,H⟩:=H
          (try dsimp -simprocs only at H)
          have A23:=Aside0.mk Aly;clear Aly;simp only [Option.some.injEq,Prod.mk.injEq] at H
          obtain ⟨rfl,rfl,rfl,rfl,rfl⟩:=H
          go_enter Try.func58,Try.ntmps58
          try go_wp2_with (first|((with_reducible refine gate_dst (N:=2) rfl ?_);refine box_event ?hg (N:=2) ?hd (cs:= #[.int .u16 0,.int .u16 0,.int .u16 0,.slice none 0 0]) (t:=83) ?hr ?_;(case hd=>rfl);(case hg=>rfl);(case hr=>first|(go_simp;done)|(go_simp;rfl));intro nP hg w24 hbox hb;have ay:=Aside0.mk (ag (bz HB) hb);have aC:=Aside0.mk (hbox);have bg:=Aside0.mk ((by rw [hg];exact (below_size (bz HB)):w.heap.size<=nP));have dm:=Aside0.mk ((by rw [hg];exact (below_size (bz HB)):w.heap.size<=nP));clear HB;have HB:=ay;have jM:=aC;have Y7:=bg;have Y8:=dm;clear ay aC bg dm;clear hb hbox hg;obtain ⟨AsU,Qy,_,Qz,_⟩:=info_parts info5;obtain ⟨A25,Ahj,Ze,Zf⟩:=lq (P:=Try.prog) (Value.int .u8) 0 23 5 .i64 .i64 .i64 Try.underlying23 Qy Qz A0 c0 l0 4 6 (by omega) (by first|omega|exact je) je mg.out;have Qu:=Aside0.mk (Kd.dR (h1:=fun _=>rfl) (Ze _ (Kd.dO HR0.out)));have Qv:=Aside0.mk Zf;clear Ze Zf Qy Qz;have Awa:min 6 l0.length - 4=2:=(by have h_:(6:Int)<=(l0.length:Int):=je;omega))|((with_reducible refine ai (f:=96) rfl ?_);refine zQ (some 11) rfl rfl Try.func96 (by kernel_rfl) rfl #[.slice A25 ((l0.take 6).drop 4).length 2] rfl (by (try simp only [List.map_toArray,List.map_cons,List.map_nil]);first|done|(rw [show ((l0.take 6).drop 4).length=2 from (by rw [List.length_drop,List.length_take];have h_:(6:Int)<=(l0.length:Int):=je;omega)]<;>rfl)|rfl|(simp only [List.length_drop,List.length_take];rfl)|(go_simp;done)|(simp [Act.eval,IntKind.signed];done)|(simp [Act.eval,IntKind.signed];rfl)) ?_;(with_reducible refine (oU.calls _ _ ((l0.take 6).drop 4) uC _ ?au ?ax A6.out).mono ?_);(case au=>exact Kd.aJ Qu.out (bz HB));(case ax=>exact Qv.out);rintro e w' ⟨rfl,⟨nd,rfl⟩⟩;refine ⟨_,rfl, ?_⟩;(try (rw [iC w24];generalize nO:World.drewN w24 _=w24;have ay:Aside0 (w24.heap[nP]?=some (.cells #[.int .u16 0,.int .u16 0,.int .u16 0,.slice none 0 0] 83 (0,0))):=⟨by rw [<- nO];exact (kz jM)⟩;have aC:Aside0 (Below w.heap.size w w24):=⟨by rw [<- nO];exact bz HB⟩;clear jM HB nO;have jM:=ay;have HB:=aC;clear ay aC))))
          have ay:=Aside0.mk (az jM.out);have aC:=Aside0.mk (below_drew1 HB.out);clear jM;clear HB;have jM:=ay;have HB:=aC;clear ay aC;obtain ⟨AsV,QA,_,QB,_⟩:=info_parts info5;obtain ⟨A27,Ahk,Zg,Zh⟩:=lq (P:=Try.prog) (Value.int .u8) 0 23 5 .i64 .i64 .i64 Try.underlying23 QA QB A0 c0 l0 0 2 (by omega) (by first|omega|exact je) je mg.out;have AeN:=Aside0.mk (Kd.dR (h1:=fun _=>rfl) (Zg _ (Kd.dO HR0.out)));have AlA:=Aside0.mk Zh;clear Zg Zh QA QB;have Awb:min 2 l0.length=2:=(by have h_:(2:Int)<=(l0.length:Int):=je;omega)
          obtain ⟨AsX,QC,_,QD,_⟩:=info_parts info5;obtain ⟨A28,Ahl,Zi,Zj⟩:=lq (P:=Try.prog) (Value.int .u8) 0 23 5 .i64 .i64 .i64 Try.underlying23 QC QD A0 c0 l0 2 4 (by omega) (by first|omega|exact je) je mg.out;have AeO:=Aside0.mk (Kd.dR (h1:=fun _=>rfl) (Zi _ (Kd.dO HR0.out)));have AlB:=Aside0.mk Zj;clear Zi Zj QC QD;have Awc:min 4 l0.length - 2=2:=(by have h_:(4:Int)<=(l0.length:Int):=je;omega)
          obtain ⟨AyI,AeP,_,AeQ,_⟩:=info_parts info5;obtain ⟨A29,AsZ,AlD,AlE⟩:=lq (P:=Try.prog) (Value.int .u8) 0 23 5 .i64 .i64 .i64 Try.underlying23 AeP AeQ A0 c0 l0 6 8 (by omega) (by first|omega|exact je) je mg.out;have AeR:=Aside0.mk (Kd.dR (h1:=fun _=>rfl) (AlD _ (Kd.dO HR0.out)));have AlF:=Aside0.mk AlE;clear AlD AlE AeP AeQ;have Awd:min 8 l0.length - 6=2:=(by have h_:(8:Int)<=(l0.length:Int):=je;omega)
          obtain ⟨AyJ,AeS,_,AeT,_⟩:=info_parts info5;obtain ⟨CB,As0,AlG,AlH⟩:=lq (P:=Try.prog) (Value.int .u8) 0 23 5 .i64 .i64 .i64 Try.underlying23 AeS AeT A0 c0 l0 8 (wrap64 (uC)) (by omega) (by first|omega|exact je) je mg.out;have AeU:=Aside0.mk (Kd.dR (h1:=fun _=>rfl) (AlG _ (Kd.dO HR0.out)));have AlI:=Aside0.mk AlH;clear AlG AlH AeS AeT;refine start_ (n:=17) (S:=fun w'=>True) (ds:=[]) #[false,false,false,false,false,false,false,false,false,false,false,false,false,false,false,false,false] (by kernel_rfl) rfl rfl trivial (fun hHeld=> ?_);refine with_tabW lH.MP lH.EM (fun HT_ HW_=> ?_)
          generalize w24.drew=w26 at jM HB AeN AeO AeR AeU hHeld|-
          refine pz 0 23 HT_ ?_;refine pz 1 24 HT_ ?_;refine pz 3 26 HT_ ?_;refine pz 4 27 HT_ ?_;refine pz 6 29 HT_ ?_;refine pz 7 30 HT_ ?_;refine pz 9 32 HT_ ?_;refine pz 10 33 HT_ ?_;refine pz 11 34 HT_ ?_;refine pz 12 35 HT_ ?_;refine oz 2 (some 25) HT_ (fun K hK=> ?_);refine goes_ Try.func96 (by kernel_rfl) rfl #[.slice A27 ((l0.take 2).drop 0).length 2] (by rfl) rfl rfl (by (try simp only [List.map_toArray,List.map_cons,List.map_nil]);first|done|(rw [show ((l0.take 2).drop 0).length=2 from (by rw [List.length_drop,List.length_take];have h_:(2:Int)<=(l0.length:Int):=je;omega)]<;>rfl)|rfl|(simp only [List.length_drop,List.length_take];rfl)|(go_simp;done)|(simp [Act.eval,IntKind.signed];done)|(simp [Act.eval,IntKind.signed];rfl)) ?_
          with_reducible refine (oU.calls _ _ ((l0.take 2).drop 0) MO _ ?au ?ax YC.out).mono ?_
          (case au=>exact Kd.aJ AeN.out (bz HB))
          (case ax=>exact AlA.out)
          rintro e w' ⟨rfl,⟨nd,rfl⟩⟩;refine ⟨_,rfl, ?_⟩;refine hK.out _ _ trivial (fun hHeld=> ?_);clear hK K;refine nz 25 ?_;refine oz 5 (some 28) HT_ (fun K hK=> ?_);refine goes_ Try.func96 (by kernel_rfl) rfl #[.slice A28 ((l0.take 4).drop 2).length 2] (by rfl) rfl rfl (by (try simp only [List.map_toArray,List.map_cons,List.map_nil]);first|done|(rw [show ((l0.take 4).drop 2).length=2 from (by rw [List.length_drop,List.length_take];have h_:(4:Int)<=(l0.length:Int):=je;omega)]<;>rfl)|rfl|(simp only [List.length_drop,List.length_take];rfl)|(go_simp;done)|(simp [Act.eval,IntKind.signed];done)|(simp [Act.eval,IntKind.signed];rfl)) ?_
          with_reducible refine (oU.calls _ _ ((l0.take 4).drop 2) Oy _ ?au ?ax Xo.out).mono ?_
          (case au=>exact Kd.aJ AeO.out (bz HB))
          (case ax=>exact AlB.out)
          rintro e w' ⟨rfl,⟨nd,rfl⟩⟩;refine ⟨_,rfl, ?_⟩;refine hK.out _ _ trivial (fun hHeld=> ?_);clear hK K;refine nz 28 ?_;refine oz 8 (some 31) HT_ (fun K hK=> ?_);refine goes_ Try.func96 (by kernel_rfl) rfl #[.slice A29 ((l0.take 8).drop 6).length 2] (by rfl) rfl rfl (by (try simp only [List.map_toArray,List.map_cons,List.map_nil]);first|done|(rw [show ((l0.take 8).drop 6).length=2 from (by rw [List.length_drop,List.length_take];have h_:(8:Int)<=(l0.length:Int):=je;omega)]<;>rfl)|rfl|(simp only [List.length_drop,List.length_take];rfl)|(go_simp;done)|(simp [Act.eval,IntKind.signed];done)|(simp [Act.eval,IntKind.signed];rfl)) ?_
          with_reducible refine (oU.calls _ _ ((l0.take 8).drop 6) Qs _ ?au ?ax Aw.out).mono ?_
          (case au=>exact Kd.aJ AeR.out (bz HB))
          (case ax=>exact AlF.out)
          rintro e w' ⟨rfl,⟨nd,rfl⟩⟩;refine ⟨_,rfl, ?_⟩;refine hK.out _ _ trivial (fun hHeld=> ?_);clear hK K;refine nz 31 ?_;refine oz 13 (some 36) HT_ (fun K hK=> ?_);refine goes_ Try.func97 (by kernel_rfl) rfl #[.slice CB ((l0.take ((wrap64 (uC)):Int).toNat).drop 8).length ((wrap64 (uC)).toNat - 8)] (by rfl) rfl rfl (by (try simp only [List.map_toArray,List.map_cons,List.map_nil]);first|done|(rw [show ((l0.take ((wrap64 (uC)):Int).toNat).drop 8).length=((wrap64 (uC)).toNat - 8) from (by rw [List.length_drop,List.length_take];have h_:((wrap64 (uC)):Int)<=(l0.length:Int):=je;omega)]<;>rfl)|rfl|(simp only [List.length_drop,List.length_take];rfl)|(go_simp;done)|(simp [Act.eval,IntKind.signed];done)|(simp [Act.eval,IntKind.signed];rfl)) ?_
          with_reducible refine (dh.calls _ _ ((l0.take ((wrap64 (uC)):Int).toNat).drop 8) TW _ ?au ?ax A23.out).mono ?_
          (case au=>exact Kd.aJ AeU.out (bz HB))
          (case ax=>exact AlI.out)
          rintro e w31 ⟨AyK,rfl,ho0,hb⟩;refine ⟨_,rfl, ?_⟩;have ay:=Aside0.mk (Kd.R_lower ho0 (below_size (bz HB)));have aC:=Aside0.mk (aZ (kz jM) hb);have bg:=Aside0.mk (ag (bz HB) hb);clear jM;clear HB;have AeV:=ay;have jM:=aC;have HB:=bg;clear ay aC bg
          (try clear hb)
          (try clear hb2)
          (try clear hk)
          (try clear hi)
          (try clear ho0)
          obtain ⟨AlJ,AlK,AlL⟩:=Kd.dN AeV.out
          (first|subst AlL|(injection AlL with rF xE rG;have xG:=rF.symm;have xH:=rG.symm;clear rF xE rG;subst xG;subst xH))
          refine hK.out _ _ trivial (fun hHeld=> ?_);clear hK K;refine nz 36 ?_;refine pz 14 37 HT_ ?_;refine oz 15 (none) HT_ (fun K hK=> ?_);have Awe:=cs4 jM.out;have As1:=blk_frozen jM.out;refine CJ (w1:= ?_) (by rfl) rfl ?_ ?_
          rotate_left
          ·go_simp
           rfl
          refine hK.out _ _ trivial (fun hHeld=> ?_);clear hK K;refine pz 16 3 HT_ ?_;refine dz HT_ ?_
          try go_wp2
          refine bodyPost_ret (iJ rfl _ _ nP 83 #[.int .u16 MO,.int .u16 Oy,.int .u16 Qs,.slice AlJ TW.length AlK] (0,0) _ rfl (by (with_reducible repeat (first|refine aH ?_ _|refine az ?_|refine aG ?_ _));refine bH (cs:= #[.int .u16 MO,.int .u16 Oy,.int .u16 Qs,.slice none 0 0]) ?_ 3 _ rfl;(with_reducible repeat (first|refine aH ?_ _|refine az ?_|refine aG ?_ _));refine bH (cs:= #[.int .u16 MO,.int .u16 Oy,.int .u16 0,.slice none 0 0]) ?_ 2 _ rfl;(with_reducible repeat (first|refine aH ?_ _|refine az ?_|refine aG ?_ _));refine bH (cs:= #[.int .u16 MO,.int .u16 0,.int .u16 0,.slice none 0 0]) ?_ 1 _ rfl;(with_reducible repeat (first|refine aH ?_ _|refine az ?_|refine aG ?_ _));refine bH (cs:= #[.int .u16 0,.int .u16 0,.int .u16 0,.slice none 0 0]) ?_ 0 _ rfl;(with_reducible repeat (first|refine aH ?_ _|refine az ?_|refine aG ?_ _));exact jM.out) Try.underlying83 rfl (by kernel_rfl)) rfl ?_
          exact ⟨_,by first|rfl|(simp [ae,af]<;>rfl)|(simp [*,ae,af]<;>rfl),by (with_reducible repeat (first|apply Kd.ik|apply Kd.gV|apply Kd.iq));exact Kd.R_mono (Kd.gB (p:=⟨nP,3,none⟩) (Kd.gB (p:=⟨nP,2,none⟩) (Kd.gB (p:=⟨nP,1,none⟩) (Kd.gB (p:=⟨nP,0,none⟩) (Kd.qY AeV.out jM.out (by decide)) (fun _ hk=>hk.2) (.int .u16 MO)) (fun _ hk=>hk.2) (.int .u16 Oy)) (fun _ hk=>hk.2) (.int .u16 Qs)) (fun _ hk=>hk.2) (.slice AlJ TW.length AlK)) (fun _ hk=>trivial),bz HB⟩
         ·rw [aj Qx] at H
          cases H
        ·rw [aj c21] at H
         cases H
       ·rw [aj c19] at H
        cases H
      ·rw [aj c17] at H
       cases H
     ·rw [aj c15] at H
      cases H
  ·rw [aj c5] at H
   cases H
attribute [local go_sem] dV dW gI gJ dG dH dX dY
def kH.f (l0:List Int):Option (Int×Int×Int×Int×List Int×Int):=if (l0.length:Int)<8 then (some (0,0,0,0,([]:List Int),20)) else (if 0<(l0.length:Int) then (if 1<(l0.length:Int) then (if 2<(l0.length:Int) then (if 3<(l0.length:Int) then (if 4<(l0.length:Int) then (if 5<(l0.length:Int) then (if 6<(l0.length:Int) then (if 7<(l0.length:Int) then (if 8<=(l0.length:Int) then ((dh.f (l0.drop 8)).bind fun TY=>(some (rd l0 0,rd l0 1,Go.bits .or .u16 (IntKind.u16.wrap ((IntKind.u16.wrap (rd l0 2))*256)) (IntKind.u16.wrap (rd l0 3)),Go.bits .or .u32 (Go.bits .or .u32 (Go.bits .or .u32 ((((rd l0 4) % 4294967296)*16777216) % 4294967296) ((((rd l0 5) % 4294967296)*65536) % 4294967296)) ((((rd l0 6) % 4294967296)*256) % 4294967296)) ((rd l0 7) % 4294967296),TY,0))) else (none)) else (none)) else (none)) else (none)) else (none)) else (none)) else (none)) else (none)) else (none))
def kH.T3:Bool×List (List Nat×List Nat):=(true,[([],[]),([0],[0]),([1],[1]),([],[]),([3],[3]),([4],[4]),([],[]),([6],[6]),([7],[7]),([8],[8]),([9],[9]),([],[]),([11],[11]),([12],[12]),([13],[13]),([10,14],[10,14]),([],[]),([16],[16]),([17],[17]),([18],[18]),([19],[19]),([],[]),([21],[21]),([22],[22]),([23],[23]),([24],[24]),([20,25],[20,25]),([],[]),([27],[27]),([28],[28]),([29],[29]),([30],[30]),([26,31],[26,31]),([],[]),([33],[33]),([34],[34]),([35],[35]),([32,36],[32,36]),([],[]),([38],[38]),([39],[39]),([2,5,15,37,40],[2,5,15,37,40]),([41,40,0,1,2,3,4,5,6,7,8,9,10,11,12,13,14,15,16,17,18,19,20,21,22,23,24,25,26,27,28,29,30,31,32,33,34,35,36,37,38,39,40,41],[41]),([42,0,1,2,3,4,5,6,7,8,9,10,11,12,13,14,15,16,17,18,19,20,21,22,23,24,25,26,27,28,29,30,31,32,33,34,35,36,37,38,39,40,41,42],[])])
def kH.B3:List Nat:=[0,1,3,0,8,24,0,64,192,448,960,0,2048,6144,14336,32704,0,65536,196608,458752,983040,0,2097152,6291456,14680064,31457280,67043328,0,134217728,402653184,939524096,2013265920,4294901760,0,8589934592,25769803776,60129542144,137438887936,0,274877906944,824633720832,2199023255551,4398046511103,8796093022207]
theorem kH.TZ:rtab .any (opsOf Try.f123 3)=kH.T3:=by kernel_rfl
theorem kH.JV:waitsOk kH.T3.2 kH.B3=true:=by kernel_rfl
theorem kH.calls (A0:Option Addr) (c0:Nat) (l0:List Int) (r1:Int) (r2:Int) (r3:Int) (r4:Int) (r5:List Int) (r6:Int) (w:World) (hr0:Kd.C (Kd.int .u8) w A0 l0.length l0) (hc0:l0.length<=c0) (h:kH.f l0=some (r1,r2,r3,r4,r5,r6)):
  Calls Try.prog 123 #[.slice A0 l0.length c0] w fun e w'=>∃ v4_:Value,e= .returned (.tuple #[.agg #[.int .u8 r1,.int .u8 r2,.int .u16 r3,.int .u32 r4,v4_],.int .i64 r6]) /\ Kd.R (Kd.int .u8) 5 w' w.heap.size (fun _=>True) v4_ r5 /\ Below w.heap.size w w':=by
 have uQ:=Try.underlying101;have HR0:=Aside0.mk hr0;have mg:=Aside0.mk hc0;clear hr0 hc0;have HB:=jy w
 have H:(if (l0.length:Int)<8 then (some (0,0,0,0,([]:List Int),20)) else (if 0<(l0.length:Int) then (if 1<(l0.length:Int) then (if 2<(l0.length:Int) then (if 3<(l0.length:Int) then (if 4<(l0.length:Int) then (if 5<(l0.length:Int) then (if 6<(l0.length:Int) then (if 7<(l0.length:Int) then (if 8<=(l0.length:Int) then ((dh.f (l0.drop 8)).bind fun TY=>(some (rd l0 0,rd l0 1,Go.bits .or .u16 (IntKind.u16.wrap ((IntKind.u16.wrap (rd l0 2))*256)) (IntKind.u16.wrap (rd l0 3)),Go.bits .or .u32 (Go.bits .or .u32 (Go.bits .or .u32 ((((rd l0 4) % 4294967296)*16777216) % 4294967296) ((((rd l0 5) % 4294967296)*65536) % 4294967296)) ((((rd l0 6) % 4294967296)*256) % 4294967296)) ((rd l0 7) % 4294967296),TY,0))) else (none)) else (none)) else (none)) else (none)) else (none)) else (none)) else (none)) else (none)) else (none)))=some (r1,r2,r3,r4,r5,r6):=h
 clear h
 by_cases c2:(l0.length:Int)<8
 ·rw [ah c2] at H
  have nV:decide ((l0.length:Int)<8)=true:=bJ c2;have qQ:decide (l0.length<8)=true:=bJ (by omega);clear c2;simp only [Option.some.injEq,Prod.mk.injEq] at H
  obtain ⟨rfl,rfl,rfl,rfl,rfl,rfl⟩:=H
  go_enter Try.func123,Try.ntmps123
  go_wp2_with (first|((with_reducible refine gate_dst (N:=2) rfl ?_);refine box_event ?hg (N:=2) ?hd (cs:= #[.int .u8 0,.int .u8 0,.int .u16 0,.int .u32 0,.slice none 0 0]) (t:=101) ?hr ?_;(case hd=>rfl);(case hg=>rfl);(case hr=>first|(go_simp;done)|(go_simp;rfl));intro jA hg w3 hbox hb;have ay:=Aside0.mk (ag (bz HB) hb);have aC:=Aside0.mk (hbox);have bg:=Aside0.mk ((by rw [hg];exact (below_size (bz HB)):w.heap.size<=jA));have dm:=Aside0.mk ((by rw [hg];exact (below_size (bz HB)):w.heap.size<=jA));clear HB;have HB:=ay;have su:=aC;have fO:=bg;have AlN:=dm;clear ay aC bg dm;clear hb hbox hg;have vK:w3.cell? ⟨jA,0,none⟩=some (.int .u8 0):=cz su.out 0 rfl;have vM:w3.cell? ⟨jA,1,none⟩=some (.int .u8 0):=cz su.out 1 rfl;have vN:w3.cell? ⟨jA,2,none⟩=some (.int .u16 0):=cz su.out 2 rfl;have vO:w3.cell? ⟨jA,3,none⟩=some (.int .u32 0):=cz su.out 3 rfl;have zU:w3.cell? ⟨jA,4,none⟩=some (.slice none 0 0):=cz su.out 4 rfl;have vP:=blk_frozen su.out 0;have vS:=blk_frozen su.out 1;have vT:=blk_frozen su.out 2;have vU:=blk_frozen su.out 3;have zV:=blk_frozen su.out 4))
  refine bodyPost_ret (iJ rfl _ _ jA 101 #[.int .u8 0,.int .u8 0,.int .u16 0,.int .u32 0,.slice none 0 0] (0,0) _ rfl (by (repeat (first|with_reducible refine aH ?_ _|with_reducible refine az ?_|with_reducible refine aG ?_ _|refine bH (cs:= #[.int .u8 0,.int .u8 0,.int .u16 0,.int .u32 0,.slice none 0 0]) ?_ _ _ rfl));(with_reducible repeat (first|refine aH ?_ _|refine az ?_|refine aG ?_ _));exact su.out) Try.underlying101 rfl (by kernel_rfl)) rfl ?_;exact ⟨_,by first|rfl|(simp [ae,af]<;>rfl)|(simp [*,ae,af]<;>rfl),by first|exact Kd.bV _ _ _ _ _|exact Kd.lV _ _ _ _ _|exact Kd.lW _ _ _ _ _|exact Kd.lT _ _ _ _ _|exact Kd.lU _ _ _ _ _,bz HB⟩
 ·rw [aj c2] at H
  have nV:decide ((l0.length:Int)<8)=false:=jC c2;have qQ:decide (l0.length<8)=false:=jC (by omega);clear c2
  by_cases c5:0<(l0.length:Int)
  ·rw [ah c5] at H
   have qR:decide (0<(l0.length:Int))=true:=bJ c5;have wO:decide (0<l0.length)=true:=bJ (by omega);clear c5
   by_cases c6:1<(l0.length:Int)
   ·rw [ah c6] at H
    have yY:decide (1<(l0.length:Int))=true:=bJ c6;have Xp:decide (1<l0.length)=true:=bJ (by omega);clear c6
    by_cases c7:2<(l0.length:Int)
    ·rw [ah c7] at H
     have Fe:decide (2<(l0.length:Int))=true:=bJ c7;have AcK:decide (2<l0.length)=true:=bJ (by omega);clear c7
     by_cases c8:3<(l0.length:Int)
     ·rw [ah c8] at H
      have uf:decide (3<(l0.length:Int))=true:=bJ c8;have JW:decide (3<l0.length)=true:=bJ (by omega);clear c8
      by_cases c9:4<(l0.length:Int)
      ·rw [ah c9] at H
       have CW:decide (4<(l0.length:Int))=true:=bJ c9;have Xq:decide (4<l0.length)=true:=bJ (by omega);clear c9
       by_cases c10:5<(l0.length:Int)
       ·rw [ah c10] at H
        have Aa:decide (5<(l0.length:Int))=true:=bJ c10;have VF:decide (5<l0.length)=true:=bJ (by omega);clear c10
        by_cases c11:6<(l0.length:Int)
        ·rw [ah c11] at H
         have Ip:decide (6<(l0.length:Int))=true:=bJ c11;have VG:decide (6<l0.length)=true:=bJ (by omega);clear c11
         by_cases c12:7<(l0.length:Int)
         ·rw [ah c12] at H
          have Nr:decide (7<(l0.length:Int))=true:=bJ c12;have VH:decide (7<l0.length)=true:=bJ (by omega);clear c12
          by_cases c13:8<=(l0.length:Int)
          ·rw [ah c13] at H
           have Zk:=eq_true c13;have Awf:decide (8<=(l0.length:Int))=true:=bJ c13;clear c13;replace H:=dM H;obtain ⟨TY,JX,H⟩:=H
           (try dsimp -simprocs only at H)
           have A14:=Aside0.mk JX;clear JX;simp only [Option.some.injEq,Prod.mk.injEq] at H
           obtain ⟨rfl,rfl,rfl,rfl,rfl,rfl⟩:=H
           go_enter Try.func123,Try.ntmps123
           try go_wp2_with (first|((with_reducible refine gate_dst (N:=2) rfl ?_);refine box_event ?hg (N:=2) ?hd (cs:= #[.int .u8 0,.int .u8 0,.int .u16 0,.int .u32 0,.slice none 0 0]) (t:=101) ?hr ?_;(case hd=>rfl);(case hg=>rfl);(case hr=>first|(go_simp;done)|(go_simp;rfl));intro jA hg w15 hbox hb;have ay:=Aside0.mk (ag (bz HB) hb);have aC:=Aside0.mk (hbox);have bg:=Aside0.mk ((by rw [hg];exact (below_size (bz HB)):w.heap.size<=jA));have dm:=Aside0.mk ((by rw [hg];exact (below_size (bz HB)):w.heap.size<=jA));clear HB;have HB:=ay;have su:=aC;have fO:=bg;have AlN:=dm;clear ay aC bg dm;clear hb hbox hg))
           have ay:=Aside0.mk (az su.out);have aC:=Aside0.mk (below_drew1 HB.out);clear su;clear HB;have su:=ay;have HB:=aC;clear ay aC;have Ahn:0<=(0:Int):=(by omega)
           have Aho:0<(l0.length:Int):=je;obtain ⟨sD,As2,AL⟩:=Kd.dU HR0.out 0 Ahn Aho;have pR:=AL
           (try rw [show ((0:Int)).toNat=0 from rfl] at pR)
           (try rw [show 0*1=0 from rfl] at pR)
           (try rw [Addr.add_zero'] at pR)
           cases As2
           have Awg:(0<l0.length)=True:=eq_true (by omega)
           (try rw [show ((0:Int)).toNat=0 from rfl] at AL)
           (try rw [Addr.add_zero'] at AL)
           replace AL:=(HB.out.cell (dS w _ AL)).trans AL;replace Ahn:=eq_true Ahn;replace Aho:=eq_true Aho;have Ahp:0<=(1:Int):=(by omega)
           have Ahq:1<(l0.length:Int):=je;obtain ⟨AlO,As3,AO⟩:=Kd.dU HR0.out 1 Ahp Ahq;have pU:=AO
           (try rw [show ((1:Int)).toNat=1 from rfl] at pU)
           (try rw [show 1*1=1 from rfl] at pU)
           (try simp only [Nat.reduceMul,Nat.reduceEqDiff,Go.Addr.add,↓reduceIte] at pU)
           obtain rfl:sD=AlO:=(by injection As3)
           (try simp only [show (1:Int).toNat=1 from rfl,Nat.reduceMul,Nat.reduceEqDiff,Go.Addr.add,↓reduceIte] at AO)
           have Awh:(1<l0.length)=True:=eq_true (by omega)
           (try rw [show ((1:Int)).toNat=1 from rfl] at AO)
           replace AO:=(HB.out.cell (dS w _ AO)).trans AO;replace Ahp:=eq_true Ahp;replace Ahq:=eq_true Ahq;have Ahr:0<=(2:Int):=(by omega)
           have Ahs:2<(l0.length:Int):=je;obtain ⟨AlP,As4,AP⟩:=Kd.dU HR0.out 2 Ahr Ahs;have pV:=AP
           (try rw [show ((2:Int)).toNat=2 from rfl] at pV)
           (try rw [show 2*1=2 from rfl] at pV)
           (try simp only [Nat.reduceMul,Nat.reduceEqDiff,Go.Addr.add,↓reduceIte] at pV)
           obtain rfl:sD=AlP:=(by injection As4)
           (try simp only [show (2:Int).toNat=2 from rfl,Nat.reduceMul,Nat.reduceEqDiff,Go.Addr.add,↓reduceIte] at AP)
           have Awi:(2<l0.length)=True:=eq_true (by omega)
           (try rw [show ((2:Int)).toNat=2 from rfl] at AP)
           replace AP:=(HB.out.cell (dS w _ AP)).trans AP;replace Ahr:=eq_true Ahr;replace Ahs:=eq_true Ahs;have Aht:0<=(3:Int):=(by omega)
           have Ahu:3<(l0.length:Int):=je;obtain ⟨AlQ,As5,AQ⟩:=Kd.dU HR0.out 3 Aht Ahu;have pW:=AQ
           (try rw [show ((3:Int)).toNat=3 from rfl] at pW)
           (try rw [show 3*1=3 from rfl] at pW)
           (try simp only [Nat.reduceMul,Nat.reduceEqDiff,Go.Addr.add,↓reduceIte] at pW)
           obtain rfl:sD=AlQ:=(by injection As5)
           (try simp only [show (3:Int).toNat=3 from rfl,Nat.reduceMul,Nat.reduceEqDiff,Go.Addr.add,↓reduceIte] at AQ)
           have Awj:(3<l0.length)=True:=eq_true (by omega)
           (try rw [show ((3:Int)).toNat=3 from rfl] at AQ)
           replace AQ:=(HB.out.cell (dS w _ AQ)).trans AQ;replace Aht:=eq_true Aht;replace Ahu:=eq_true Ahu;have Ahv:0<=(4:Int):=(by omega)
           have Ahw:4<(l0.length:Int):=je;obtain ⟨AlR,As6,AU⟩:=Kd.dU HR0.out 4 Ahv Ahw;have pX:=AU
           (try rw [show ((4:Int)).toNat=4 from rfl] at pX)
           (try rw [show 4*1=4 from rfl] at pX)
           (try simp only [Nat.reduceMul,Nat.reduceEqDiff,Go.Addr.add,↓reduceIte] at pX)
           obtain rfl:sD=AlR:=(by injection As6)
           (try simp only [show (4:Int).toNat=4 from rfl,Nat.reduceMul,Nat.reduceEqDiff,Go.Addr.add,↓reduceIte] at AU)
           have Awk:(4<l0.length)=True:=eq_true (by omega)
           (try rw [show ((4:Int)).toNat=4 from rfl] at AU)
           replace AU:=(HB.out.cell (dS w _ AU)).trans AU;replace Ahv:=eq_true Ahv;replace Ahw:=eq_true Ahw;have Ahx:0<=(5:Int):=(by omega)
           have Ahy:5<(l0.length:Int):=je;obtain ⟨AlS,As7,AV⟩:=Kd.dU HR0.out 5 Ahx Ahy;have pY:=AV
           (try rw [show ((5:Int)).toNat=5 from rfl] at pY)
           (try rw [show 5*1=5 from rfl] at pY)
           (try simp only [Nat.reduceMul,Nat.reduceEqDiff,Go.Addr.add,↓reduceIte] at pY)
           obtain rfl:sD=AlS:=(by injection As7)
           (try simp only [show (5:Int).toNat=5 from rfl,Nat.reduceMul,Nat.reduceEqDiff,Go.Addr.add,↓reduceIte] at AV)
           have Awl:(5<l0.length)=True:=eq_true (by omega)
           (try rw [show ((5:Int)).toNat=5 from rfl] at AV)
           replace AV:=(HB.out.cell (dS w _ AV)).trans AV;replace Ahx:=eq_true Ahx;replace Ahy:=eq_true Ahy;have Ahz:0<=(6:Int):=(by omega)
           have AhA:6<(l0.length:Int):=je;obtain ⟨AlT,As8,AX⟩:=Kd.dU HR0.out 6 Ahz AhA;have qc:=AX
           (try rw [show ((6:Int)).toNat=6 from rfl] at qc)
           (try rw [show 6*1=6 from rfl] at qc)
           (try simp only [Nat.reduceMul,Nat.reduceEqDiff,Go.Addr.add,↓reduceIte] at qc)
           obtain rfl:sD=AlT:=(by injection As8)
           (try simp only [show (6:Int).toNat=6 from rfl,Nat.reduceMul,Nat.reduceEqDiff,Go.Addr.add,↓reduceIte] at AX)
           have Awm:(6<l0.length)=True:=eq_true (by omega)
           (try rw [show ((6:Int)).toNat=6 from rfl] at AX)
           replace AX:=(HB.out.cell (dS w _ AX)).trans AX;replace Ahz:=eq_true Ahz;replace AhA:=eq_true AhA;have AhB:0<=(7:Int):=(by omega)
           have AhC:7<(l0.length:Int):=je;obtain ⟨AlU,As9,AY⟩:=Kd.dU HR0.out 7 AhB AhC;have qf:=AY
           (try rw [show ((7:Int)).toNat=7 from rfl] at qf)
           (try rw [show 7*1=7 from rfl] at qf)
           (try simp only [Nat.reduceMul,Nat.reduceEqDiff,Go.Addr.add,↓reduceIte] at qf)
           obtain rfl:sD=AlU:=(by injection As9)
           (try simp only [show (7:Int).toNat=7 from rfl,Nat.reduceMul,Nat.reduceEqDiff,Go.Addr.add,↓reduceIte] at AY)
           have Awn:(7<l0.length)=True:=eq_true (by omega)
           (try rw [show ((7:Int)).toNat=7 from rfl] at AY)
           replace AY:=(HB.out.cell (dS w _ AY)).trans AY;replace AhB:=eq_true AhB;replace AhC:=eq_true AhC;obtain ⟨Ata,QE,_,QF,_⟩:=info_parts info5;obtain ⟨YD,AhD,Zl,Zm⟩:=ja (P:=Try.prog) (Value.int .u8) 0 23 5 .i64 Try.underlying23 QE QF (some sD) c0 l0 8 (by omega) je mg.out;have AeW:=Aside0.mk (Kd.dR (h1:=fun _=>rfl) (Zl _ (Kd.dO HR0.out)));have AlV:=Aside0.mk Zm;clear Zl Zm QE QF
           refine start_ (n:=44) (S:=fun w'=>w'.cell? sD=some (.int .u8 (rd l0 0)) /\ w'.cell? ⟨sD.block,sD.off+1,none⟩=some (.int .u8 (rd l0 1)) /\ w'.cell? ⟨sD.block,sD.off+2,none⟩=some (.int .u8 (rd l0 2)) /\ w'.cell? ⟨sD.block,sD.off+3,none⟩=some (.int .u8 (rd l0 3)) /\ w'.cell? ⟨sD.block,sD.off+4,none⟩=some (.int .u8 (rd l0 4)) /\ w'.cell? ⟨sD.block,sD.off+5,none⟩=some (.int .u8 (rd l0 5)) /\ w'.cell? ⟨sD.block,sD.off+6,none⟩=some (.int .u8 (rd l0 6)) /\ w'.cell? ⟨sD.block,sD.off+7,none⟩=some (.int .u8 (rd l0 7))) (ds:=[]) #[false,false,false,false,false,false,false,false,false,false,false,false,false,false,false,false,false,false,false,false,false,false,false,false,false,false,false,false,false,false,false,false,false,false,false,false,false,false,false,false,false,false,false,false] (by kernel_rfl) rfl rfl ⟨((HB.out.cell (dS w _ pR)).trans pR),((HB.out.cell (dS w _ pU)).trans pU),((HB.out.cell (dS w _ pV)).trans pV),((HB.out.cell (dS w _ pW)).trans pW),((HB.out.cell (dS w _ pX)).trans pX),((HB.out.cell (dS w _ pY)).trans pY),((HB.out.cell (dS w _ qc)).trans qc),((HB.out.cell (dS w _ qf)).trans qf)⟩ (fun hHeld=> ?_);refine with_tabW kH.TZ kH.JV (fun HT_ HW_=> ?_)
           generalize w15.drew=w16 at su HB AeW AL AO AP AQ AU AV AX AY hHeld|-
           refine pz 0 8 HT_ ?_;refine pz 1 9 HT_ ?_;refine pz 3 11 HT_ ?_;refine pz 4 12 HT_ ?_;refine pz 6 14 HT_ ?_;refine pz 7 15 HT_ ?_;refine pz 11 19 HT_ ?_;refine pz 12 20 HT_ ?_;refine pz 16 24 HT_ ?_;refine pz 17 25 HT_ ?_;refine pz 21 29 HT_ ?_;refine pz 22 30 HT_ ?_;refine pz 27 35 HT_ ?_;refine pz 28 36 HT_ ?_;refine pz 33 41 HT_ ?_;refine pz 34 42 HT_ ?_;refine pz 38 46 HT_ ?_;refine pz 39 47 HT_ ?_;refine take_ (i:=2) (N:=some 10) (v:= ?_) (a':= ?_) #[true,true,true,true,true,false,true,true,false,false,false,true,true,false,false,false,true,true,false,false,false,true,true,false,false,false,false,true,true,false,false,false,false,true,true,false,false,false,true,true,false,false,false,false] rfl rfl (take_ofW HT_.out HW_.out (by kernel_rfl)) (fun _ _ _ h=>h) (Or.inl ⟨by rfl, ?_⟩) hHeld ?_ ?_
           rotate_left
           ·rintro w' ⟨s0,s1,s2,s3,s4,s5,s6,s7⟩
            go_simp
            with_reducible rfl
           rotate_left
           ·simp only [vF]
            rfl
           refine take_ (i:=5) (N:=some 13) (v:= ?_) (a':= ?_) #[true,true,true,true,true,true,true,true,false,false,false,true,true,false,false,false,true,true,false,false,false,true,true,false,false,false,false,true,true,false,false,false,false,true,true,false,false,false,true,true,false,false,false,false] rfl rfl (take_ofW HT_.out HW_.out (by kernel_rfl)) (fun _ _ _ h=>h) (Or.inl ⟨by rfl, ?_⟩) hHeld ?_ ?_
           rotate_left
           ·rintro w' ⟨s0,s1,s2,s3,s4,s5,s6,s7⟩
            go_simp
            with_reducible rfl
           rotate_left
           ·simp only [vF]
            rfl
           refine take_ (i:=8) (N:=some 16) (v:= ?_) (a':= ?_) #[true,true,true,true,true,true,true,true,true,false,false,true,true,false,false,false,true,true,false,false,false,true,true,false,false,false,false,true,true,false,false,false,false,true,true,false,false,false,true,true,false,false,false,false] rfl rfl (take_ofW HT_.out HW_.out (by kernel_rfl)) (fun _ _ _ h=>h) (Or.inl ⟨by rfl, ?_⟩) hHeld ?_ ?_
           rotate_left
           ·rintro w' ⟨s0,s1,s2,s3,s4,s5,s6,s7⟩
            go_simp
            with_reducible rfl
           rotate_left
           ·simp only [vF]
            rfl
           refine pz 9 17 HT_ ?_;refine pz 10 18 HT_ ?_;refine take_ (i:=13) (N:=some 21) (v:= ?_) (a':= ?_) #[true,true,true,true,true,true,true,true,true,true,true,true,true,true,false,false,true,true,false,false,false,true,true,false,false,false,false,true,true,false,false,false,false,true,true,false,false,false,true,true,false,false,false,false] rfl rfl (take_ofW HT_.out HW_.out (by kernel_rfl)) (fun _ _ _ h=>h) (Or.inl ⟨by rfl, ?_⟩) hHeld ?_ ?_
           rotate_left
           ·rintro w' ⟨s0,s1,s2,s3,s4,s5,s6,s7⟩
            go_simp
            with_reducible rfl
           rotate_left
           ·simp only [vF]
            rfl
           refine pz 14 22 HT_ ?_;refine pz 15 23 HT_ ?_;refine take_ (i:=18) (N:=some 26) (v:= ?_) (a':= ?_) #[true,true,true,true,true,true,true,true,true,true,true,true,true,true,true,true,true,true,true,false,false,true,true,false,false,false,false,true,true,false,false,false,false,true,true,false,false,false,true,true,false,false,false,false] rfl rfl (take_ofW HT_.out HW_.out (by kernel_rfl)) (fun _ _ _ h=>h) (Or.inl ⟨by rfl, ?_⟩) hHeld ?_ ?_
           rotate_left
           ·rintro w' ⟨s0,s1,s2,s3,s4,s5,s6,s7⟩
            go_simp
            with_reducible rfl
           rotate_left
           ·simp only [vF]
            rfl
           refine pz 19 27 HT_ ?_;refine pz 20 28 HT_ ?_;refine take_ (i:=23) (N:=some 31) (v:= ?_) (a':= ?_) #[true,true,true,true,true,true,true,true,true,true,true,true,true,true,true,true,true,true,true,true,true,true,true,true,false,false,false,true,true,false,false,false,false,true,true,false,false,false,true,true,false,false,false,false] rfl rfl (take_ofW HT_.out HW_.out (by kernel_rfl)) (fun _ _ _ h=>h) (Or.inl ⟨by rfl, ?_⟩) hHeld ?_ ?_
           rotate_left
           ·rintro w' ⟨s0,s1,s2,s3,s4,s5,s6,s7⟩
            go_simp
            with_reducible rfl
           rotate_left
           ·simp only [vF]
            rfl
           refine pz 24 32 HT_ ?_;refine pz 25 33 HT_ ?_;refine pz 26 34 HT_ ?_;refine take_ (i:=29) (N:=some 37) (v:= ?_) (a':= ?_) #[true,true,true,true,true,true,true,true,true,true,true,true,true,true,true,true,true,true,true,true,true,true,true,true,true,true,true,true,true,true,false,false,false,true,true,false,false,false,true,true,false,false,false,false] rfl rfl (take_ofW HT_.out HW_.out (by kernel_rfl)) (fun _ _ _ h=>h) (Or.inl ⟨by rfl, ?_⟩) hHeld ?_ ?_
           rotate_left
           ·rintro w' ⟨s0,s1,s2,s3,s4,s5,s6,s7⟩
            go_simp
            with_reducible rfl
           rotate_left
           ·simp only [vF]
            rfl
           refine pz 30 38 HT_ ?_;refine pz 31 39 HT_ ?_;refine pz 32 40 HT_ ?_;refine take_ (i:=35) (N:=some 43) (v:= ?_) (a':= ?_) #[true,true,true,true,true,true,true,true,true,true,true,true,true,true,true,true,true,true,true,true,true,true,true,true,true,true,true,true,true,true,true,true,true,true,true,true,false,false,true,true,false,false,false,false] rfl rfl (take_ofW HT_.out HW_.out (by kernel_rfl)) (fun _ _ _ h=>h) (Or.inl ⟨by rfl, ?_⟩) hHeld ?_ ?_
           rotate_left
           ·rintro w' ⟨s0,s1,s2,s3,s4,s5,s6,s7⟩
            go_simp
            with_reducible rfl
           rotate_left
           ·simp only [vF]
            rfl
           refine pz 36 44 HT_ ?_;refine pz 37 45 HT_ ?_;refine oz 40 (some 48) HT_ (fun K hK=> ?_);refine goes_ Try.func97 (by kernel_rfl) rfl #[.slice YD (l0.drop 8).length (c0 - 8)] (by rfl) rfl rfl (by (try simp only [List.map_toArray,List.map_cons,List.map_nil]);first|done|(rw [show (l0.drop 8).length=(l0.length - 8) from List.length_drop]<;>rfl)|rfl|(simp only [List.length_drop,List.length_take];rfl)|(go_simp;done)|(simp [Act.eval,IntKind.signed];done)|(simp [Act.eval,IntKind.signed];rfl)) ?_
           with_reducible refine (dh.calls _ _ (l0.drop 8) TY _ ?au ?ax A14.out).mono ?_
           (case au=>exact Kd.aJ AeW.out (bz HB))
           (case ax=>exact AlV.out)
           rintro e w18 ⟨AyL,rfl,ho0,hb⟩;refine ⟨_,rfl, ?_⟩;have ay:=Aside0.mk (Kd.R_lower ho0 (below_size (bz HB)));have aC:=Aside0.mk (aZ (kz su) hb);have bg:=Aside0.mk (ag (bz HB) hb);clear su;clear HB;have AeX:=ay;have su:=aC;have HB:=bg;clear ay aC bg
           (try clear hb)
           (try clear hb2)
           (try clear hk)
           (try clear hi)
           (try clear ho0)
           obtain ⟨Xr,Xt,Zn⟩:=Kd.dN AeX.out
           (first|subst Zn|(injection Zn with rF xE rG;have xG:=rF.symm;have xH:=rG.symm;clear rF xE rG;subst xG;subst xH))
           refine hK.out _ _ ⟨((HB.out.cell (dS w _ pR)).trans pR),((HB.out.cell (dS w _ pU)).trans pU),((HB.out.cell (dS w _ pV)).trans pV),((HB.out.cell (dS w _ pW)).trans pW),((HB.out.cell (dS w _ pX)).trans pX),((HB.out.cell (dS w _ pY)).trans pY),((HB.out.cell (dS w _ qc)).trans qc),((HB.out.cell (dS w _ qf)).trans qf)⟩ (fun hHeld=> ?_);clear hK K;refine nz 48 ?_;refine pz 41 49 HT_ ?_;refine oz 42 (none) HT_ (fun K hK=> ?_);have Awo:=cs5 su.out;have Atc:=blk_frozen su.out;refine CJ (w1:= ?_) (by rfl) rfl ?_ ?_
           rotate_left
           ·go_simp
            rfl
           refine hK.out _ _ ⟨((cell_far (p:=⟨jA,_,none⟩) (by first|exact fU pR fO.out|exact fV pR fO.out) _).trans (((cell_far (p:=⟨jA,_,none⟩) (by first|exact fU pR fO.out|exact fV pR fO.out) _).trans (((cell_far (p:=⟨jA,_,none⟩) (by first|exact fU pR fO.out|exact fV pR fO.out) _).trans (((cell_far (p:=⟨jA,_,none⟩) (by first|exact fU pR fO.out|exact fV pR fO.out) _).trans (((cell_far (p:=⟨jA,_,none⟩) (by first|exact fU pR fO.out|exact fV pR fO.out) _).trans (hHeld.1)))))))))),((cell_far (p:=⟨jA,_,none⟩) (by first|exact fU pU fO.out|exact fV pU fO.out) _).trans (((cell_far (p:=⟨jA,_,none⟩) (by first|exact fU pU fO.out|exact fV pU fO.out) _).trans (((cell_far (p:=⟨jA,_,none⟩) (by first|exact fU pU fO.out|exact fV pU fO.out) _).trans (((cell_far (p:=⟨jA,_,none⟩) (by first|exact fU pU fO.out|exact fV pU fO.out) _).trans (((cell_far (p:=⟨jA,_,none⟩) (by first|exact fU pU fO.out|exact fV pU fO.out) _).trans (hHeld.2.1)))))))))),((cell_far (p:=⟨jA,_,none⟩) (by first|exact fU pV fO.out|exact fV pV fO.out) _).trans (((cell_far (p:=⟨jA,_,none⟩) (by first|exact fU pV fO.out|exact fV pV fO.out) _).trans (((cell_far (p:=⟨jA,_,none⟩) (by first|exact fU pV fO.out|exact fV pV fO.out) _).trans (((cell_far (p:=⟨jA,_,none⟩) (by first|exact fU pV fO.out|exact fV pV fO.out) _).trans (((cell_far (p:=⟨jA,_,none⟩) (by first|exact fU pV fO.out|exact fV pV fO.out) _).trans (hHeld.2.2.1)))))))))),((cell_far (p:=⟨jA,_,none⟩) (by first|exact fU pW fO.out|exact fV pW fO.out) _).trans (((cell_far (p:=⟨jA,_,none⟩) (by first|exact fU pW fO.out|exact fV pW fO.out) _).trans (((cell_far (p:=⟨jA,_,none⟩) (by first|exact fU pW fO.out|exact fV pW fO.out) _).trans (((cell_far (p:=⟨jA,_,none⟩) (by first|exact fU pW fO.out|exact fV pW fO.out) _).trans (((cell_far (p:=⟨jA,_,none⟩) (by first|exact fU pW fO.out|exact fV pW fO.out) _).trans (hHeld.2.2.2.1)))))))))),((cell_far (p:=⟨jA,_,none⟩) (by first|exact fU pX fO.out|exact fV pX fO.out) _).trans (((cell_far (p:=⟨jA,_,none⟩) (by first|exact fU pX fO.out|exact fV pX fO.out) _).trans (((cell_far (p:=⟨jA,_,none⟩) (by first|exact fU pX fO.out|exact fV pX fO.out) _).trans (((cell_far (p:=⟨jA,_,none⟩) (by first|exact fU pX fO.out|exact fV pX fO.out) _).trans (((cell_far (p:=⟨jA,_,none⟩) (by first|exact fU pX fO.out|exact fV pX fO.out) _).trans (hHeld.2.2.2.2.1)))))))))),((cell_far (p:=⟨jA,_,none⟩) (by first|exact fU pY fO.out|exact fV pY fO.out) _).trans (((cell_far (p:=⟨jA,_,none⟩) (by first|exact fU pY fO.out|exact fV pY fO.out) _).trans (((cell_far (p:=⟨jA,_,none⟩) (by first|exact fU pY fO.out|exact fV pY fO.out) _).trans (((cell_far (p:=⟨jA,_,none⟩) (by first|exact fU pY fO.out|exact fV pY fO.out) _).trans (((cell_far (p:=⟨jA,_,none⟩) (by first|exact fU pY fO.out|exact fV pY fO.out) _).trans (hHeld.2.2.2.2.2.1)))))))))),((cell_far (p:=⟨jA,_,none⟩) (by first|exact fU qc fO.out|exact fV qc fO.out) _).trans (((cell_far (p:=⟨jA,_,none⟩) (by first|exact fU qc fO.out|exact fV qc fO.out) _).trans (((cell_far (p:=⟨jA,_,none⟩) (by first|exact fU qc fO.out|exact fV qc fO.out) _).trans (((cell_far (p:=⟨jA,_,none⟩) (by first|exact fU qc fO.out|exact fV qc fO.out) _).trans (((cell_far (p:=⟨jA,_,none⟩) (by first|exact fU qc fO.out|exact fV qc fO.out) _).trans (hHeld.2.2.2.2.2.2.1)))))))))),((cell_far (p:=⟨jA,_,none⟩) (by first|exact fU qf fO.out|exact fV qf fO.out) _).trans (((cell_far (p:=⟨jA,_,none⟩) (by first|exact fU qf fO.out|exact fV qf fO.out) _).trans (((cell_far (p:=⟨jA,_,none⟩) (by first|exact fU qf fO.out|exact fV qf fO.out) _).trans (((cell_far (p:=⟨jA,_,none⟩) (by first|exact fU qf fO.out|exact fV qf fO.out) _).trans (((cell_far (p:=⟨jA,_,none⟩) (by first|exact fU qf fO.out|exact fV qf fO.out) _).trans (hHeld.2.2.2.2.2.2.2))))))))))⟩ (fun hHeld=> ?_)
           clear hK K;refine pz 43 3 HT_ ?_;refine dz HT_ ?_
           try go_wp2
           refine bodyPost_ret (iJ rfl _ _ jA 101 #[.int .u8 (rd l0 0),.int .u8 (rd l0 1),.int .u16 (Go.bits .or .u16 (IntKind.u16.wrap ((IntKind.u16.wrap (rd l0 2))*256)) (IntKind.u16.wrap (rd l0 3))),.int .u32 (Go.bits .or .u32 (Go.bits .or .u32 (Go.bits .or .u32 ((((rd l0 4) % 4294967296)*16777216) % 4294967296) ((((rd l0 5) % 4294967296)*65536) % 4294967296)) ((((rd l0 6) % 4294967296)*256) % 4294967296)) ((rd l0 7) % 4294967296)),.slice Xr TY.length Xt] (0,0) _ rfl (by (with_reducible repeat (first|refine aH ?_ _|refine az ?_|refine aG ?_ _));refine bH (cs:= #[.int .u8 (rd l0 0),.int .u8 (rd l0 1),.int .u16 (Go.bits .or .u16 (IntKind.u16.wrap ((IntKind.u16.wrap (rd l0 2))*256)) (IntKind.u16.wrap (rd l0 3))),.int .u32 (Go.bits .or .u32 (Go.bits .or .u32 (Go.bits .or .u32 ((((rd l0 4) % 4294967296)*16777216) % 4294967296) ((((rd l0 5) % 4294967296)*65536) % 4294967296)) ((((rd l0 6) % 4294967296)*256) % 4294967296)) ((rd l0 7) % 4294967296)),.slice none 0 0]) ?_ 4 _ rfl;(with_reducible repeat (first|refine aH ?_ _|refine az ?_|refine aG ?_ _));refine bH (cs:= #[.int .u8 (rd l0 0),.int .u8 (rd l0 1),.int .u16 (Go.bits .or .u16 (IntKind.u16.wrap ((IntKind.u16.wrap (rd l0 2))*256)) (IntKind.u16.wrap (rd l0 3))),.int .u32 0,.slice none 0 0]) ?_ 3 _ rfl;(with_reducible repeat (first|refine aH ?_ _|refine az ?_|refine aG ?_ _));refine bH (cs:= #[.int .u8 (rd l0 0),.int .u8 (rd l0 1),.int .u16 0,.int .u32 0,.slice none 0 0]) ?_ 2 _ rfl;(with_reducible repeat (first|refine aH ?_ _|refine az ?_|refine aG ?_ _));refine bH (cs:= #[.int .u8 (rd l0 0),.int .u8 0,.int .u16 0,.int .u32 0,.slice none 0 0]) ?_ 1 _ rfl;(with_reducible repeat (first|refine aH ?_ _|refine az ?_|refine aG ?_ _));refine bH (cs:= #[.int .u8 0,.int .u8 0,.int .u16 0,.int .u32 0,.slice none 0 0]) ?_ 0 _ rfl;(with_reducible repeat (first|refine aH ?_ _|refine az ?_|refine aG ?_ _));exact su.out) Try.underlying101 rfl (by kernel_rfl)) rfl ?_
           exact ⟨_,by first|rfl|(simp [ae,af]<;>rfl)|(simp [*,ae,af]<;>rfl),by (with_reducible repeat (first|apply Kd.ik|apply Kd.gV|apply Kd.iq));exact Kd.R_mono (Kd.gB (p:=⟨jA,4,none⟩) (Kd.gB (p:=⟨jA,3,none⟩) (Kd.gB (p:=⟨jA,2,none⟩) (Kd.gB (p:=⟨jA,1,none⟩) (Kd.gB (p:=⟨jA,0,none⟩) (Kd.qY AeX.out su.out (by decide)) (fun _ hk=>hk.2) (.int .u8 (rd l0 0))) (fun _ hk=>hk.2) (.int .u8 (rd l0 1))) (fun _ hk=>hk.2) (.int .u16 (Go.bits .or .u16 (IntKind.u16.wrap ((IntKind.u16.wrap (rd l0 2))*256)) (IntKind.u16.wrap (rd l0 3))))) (fun _ hk=>hk.2) (.int .u32 (Go.bits .or .u32 (Go.bits .or .u32 (Go.bits .or .u32 ((((rd l0 4) % 4294967296)*16777216) % 4294967296) ((((rd l0 5) % 4294967296)*65536) % 4294967296)) ((((rd l0 6) % 4294967296)*256) % 4294967296)) ((rd l0 7) % 4294967296)))) (fun _ hk=>hk.2) (.slice Xr TY.length Xt)) (fun _ hk=>trivial),bz HB⟩
          ·rw [aj c13] at H
           cases H
         ·rw [aj c12] at H
          cases H
        ·rw [aj c11] at H
         cases H
       ·rw [aj c10] at H
        cases H
      ·rw [aj c9] at H
       cases H
     ·rw [aj c8] at H
      cases H
    ·rw [aj c7] at H
     cases H
   ·rw [aj c6] at H
    cases H
  ·rw [aj c5] at H
   cases H
def pK.f (a0:Int):Option (Int):=if a0=0 then (some 8) else (if a0=8 then (some 8) else (if a0=3 then (some 3) else (if a0=11 then (some 3) else (if a0=12 then (some 3) else (some (-1))))))
theorem pK.calls (a0:Int) (r:Int) (w:World) (h:pK.f a0=some r):
  Calls Try.prog 125 #[.int .u8 a0] w fun e w'=>e= .returned (.int .i64 r) /\ bf w w':=by
 have H:(if a0=0 then (some 8) else (if a0=8 then (some 8) else (if a0=3 then (some 3) else (if a0=11 then (some 3) else (if a0=12 then (some 3) else (some (-1)))))))=some r:=h;clear h
 by_cases c2:a0=0
 ·rw [ah c2] at H
  have nV:(a0==0)=true:=jf c2;have qQ:(a0 !=0)=false:=oM c2;clear c2;obtain rfl:=eF H
  go_enter Try.func125,Try.ntmps125
  go_wp2
  go_ret
  exact ⟨by first|rfl|(simp;done)|(simp [*];done),by repeat (first|exact bf.refl _|apply bf.step)⟩
 ·rw [aj c2] at H
  have nV:(a0==0)=false:=iM c2;have qQ:(a0 !=0)=true:=pq c2
  by_cases c3:a0=8
  ·rw [ah c3] at H
   have tY:(a0==8)=true:=jf c3;have vI:(a0 !=8)=false:=oM c3;clear c3;obtain rfl:=eF H
   go_enter Try.func125,Try.ntmps125
   go_wp2
   go_ret
   exact ⟨by first|rfl|(simp;done)|(simp [*];done),by repeat (first|exact bf.refl _|apply bf.step)⟩
  ·rw [aj c3] at H
   have tY:(a0==8)=false:=iM c3;have vI:(a0 !=8)=true:=pq c3
   by_cases c4:a0=3
   ·rw [ah c4] at H
    have qE:(a0==3)=true:=jf c4;have Eh:(a0 !=3)=false:=oM c4;clear c4;obtain rfl:=eF H
    go_enter Try.func125,Try.ntmps125
    go_wp2
    go_ret
    exact ⟨by first|rfl|(simp;done)|(simp [*];done),by repeat (first|exact bf.refl _|apply bf.step)⟩
   ·rw [aj c4] at H
    have qE:(a0==3)=false:=iM c4;have Eh:(a0 !=3)=true:=pq c4
    by_cases c5:a0=11
    ·rw [ah c5] at H
     have qR:(a0==11)=true:=jf c5;have wO:(a0 !=11)=false:=oM c5;clear c5;obtain rfl:=eF H
     go_enter Try.func125,Try.ntmps125
     go_wp2
     go_ret
     exact ⟨by first|rfl|(simp;done)|(simp [*];done),by repeat (first|exact bf.refl _|apply bf.step)⟩
    ·rw [aj c5] at H
     have qR:(a0==11)=false:=iM c5;have wO:(a0 !=11)=true:=pq c5
     by_cases c6:a0=12
     ·rw [ah c6] at H
      have yY:(a0==12)=true:=jf c6;have Xp:(a0 !=12)=false:=oM c6;clear c6;obtain rfl:=eF H
      go_enter Try.func125,Try.ntmps125
      go_wp2
      go_ret
      exact ⟨by first|rfl|(simp;done)|(simp [*];done),by repeat (first|exact bf.refl _|apply bf.step)⟩
     ·rw [aj c6] at H
      have yY:(a0==12)=false:=iM c6;have Xp:(a0 !=12)=true:=pq c6;obtain rfl:=eF H
      go_enter Try.func125,Try.ntmps125
      go_wp2
      go_ret
      exact ⟨by first|rfl|(simp;done)|(simp [*];done),by repeat (first|exact bf.refl _|apply bf.step)⟩
def oJ.f (aI:Int) (aV:Int) (aX:Int) (bn:Int) (bY:List Int):Option (Bool):=(pK.f aI).bind fun JY=>(if JY=8 then (some (aV==0)) else (some false))
theorem oJ.calls (aI:Int) (aV:Int) (aX:Int) (bn:Int) (iO:Option Addr) (iP:Nat) (bY:List Int) (r:Bool) (w:World) (nI:Kd.C (Kd.int .u8) w iO bY.length bY) (nJ:bY.length<=iP) (h:oJ.f aI aV aX bn bY=some r):
  Calls Try.prog 105 #[.agg #[.int .u8 aI,.int .u8 aV,.int .u16 aX,.int .u32 bn,.slice iO bY.length iP]] w fun e w'=>e= .returned (.bool r) /\ Below w.heap.size w w':=by
 have uQ:=Try.underlying101;have uu:=Aside0.mk nI;have uS:=Aside0.mk nJ;clear nI nJ;have HB:=jy w;have H:((pK.f aI).bind fun JY=>(if JY=8 then (some (aV==0)) else (some false)))=some r:=h;clear h;replace H:=dM H;obtain ⟨JY,Aw,H⟩:=H
 (try dsimp -simprocs only at H)
 have A2:=Aside0.mk Aw;clear Aw
 by_cases c3:JY=8
 ·rw [ah c3] at H
  have tY:(JY==8)=true:=jf c3;have vI:(JY !=8)=false:=oM c3;clear c3;obtain rfl:=eF H
  go_enter Try.func105,Try.ntmps105
  go_wp2_with (first|((with_reducible refine gate_dst (N:=1) rfl ?_);refine box_event ?hg (N:=1) ?hd (cs:= #[.int .u8 aI,.int .u8 aV,.int .u16 aX,.int .u32 bn,.slice iO bY.length iP]) (t:=101) ?hr ?_;(case hd=>rfl);(case hg=>rfl);(case hr=>first|(go_simp;done)|(go_simp;rfl));intro yN hg w4 hbox hb;have ay:=Aside0.mk (ag (bz HB) hb);have aC:=Aside0.mk (hbox);have bg:=Aside0.mk ((by rw [hg];exact (below_size (bz HB)):w.heap.size<=yN));have dm:=Aside0.mk ((by rw [hg];exact (below_size (bz HB)):w.heap.size<=yN));clear HB;have HB:=ay;have uD:=aC;have AlW:=bg;have AlX:=dm;clear ay aC bg dm;clear hb hbox hg;have Atd:w4.cell? ⟨yN,0,none⟩=some (.int .u8 aI):=cz uD.out 0 rfl;have Ate:w4.cell? ⟨yN,1,none⟩=some (.int .u8 aV):=cz uD.out 1 rfl;have Atf:w4.cell? ⟨yN,2,none⟩=some (.int .u16 aX):=cz uD.out 2 rfl;have Atg:w4.cell? ⟨yN,3,none⟩=some (.int .u32 bn):=cz uD.out 3 rfl;have Ath:w4.cell? ⟨yN,4,none⟩=some (.slice iO bY.length iP):=cz uD.out 4 rfl;have Ati:=blk_frozen uD.out 0;have Atj:=blk_frozen uD.out 1;have Atk:=blk_frozen uD.out 2;have Atl:=blk_frozen uD.out 3;have Atm:=blk_frozen uD.out 4)|((with_reducible refine ai (f:=125) rfl ?_);refine gL 5 Try.func125 #[.int .u8 aI] ?_;(with_reducible refine (pK.calls aI JY _ A2.out).mono ?_);rintro e w' ⟨rfl,⟨nd,rfl⟩⟩;refine ⟨_,rfl, ?_⟩))
  go_ret
  exact ⟨by first|rfl|(simp [ae,af]<;>rfl)|(simp [*,ae,af]<;>rfl),bz HB⟩
 ·rw [aj c3] at H
  have tY:(JY==8)=false:=iM c3;have vI:(JY !=8)=true:=pq c3;obtain rfl:=eF H
  go_enter Try.func105,Try.ntmps105
  go_wp2_with (first|((with_reducible refine gate_dst (N:=1) rfl ?_);refine box_event ?hg (N:=1) ?hd (cs:= #[.int .u8 aI,.int .u8 aV,.int .u16 aX,.int .u32 bn,.slice iO bY.length iP]) (t:=101) ?hr ?_;(case hd=>rfl);(case hg=>rfl);(case hr=>first|(go_simp;done)|(go_simp;rfl));intro yN hg w6 hbox hb;have ay:=Aside0.mk (ag (bz HB) hb);have aC:=Aside0.mk (hbox);have bg:=Aside0.mk ((by rw [hg];exact (below_size (bz HB)):w.heap.size<=yN));have dm:=Aside0.mk ((by rw [hg];exact (below_size (bz HB)):w.heap.size<=yN));clear HB;have HB:=ay;have uD:=aC;have AlW:=bg;have AlX:=dm;clear ay aC bg dm;clear hb hbox hg;have AZ:w6.cell? ⟨yN,0,none⟩=some (.int .u8 aI):=cz uD.out 0 rfl;have Ba:w6.cell? ⟨yN,1,none⟩=some (.int .u8 aV):=cz uD.out 1 rfl;have Bc:w6.cell? ⟨yN,2,none⟩=some (.int .u16 aX):=cz uD.out 2 rfl;have Bd:w6.cell? ⟨yN,3,none⟩=some (.int .u32 bn):=cz uD.out 3 rfl;have CX:w6.cell? ⟨yN,4,none⟩=some (.slice iO bY.length iP):=cz uD.out 4 rfl;have Be:=blk_frozen uD.out 0;have Bf:=blk_frozen uD.out 1;have Bg:=blk_frozen uD.out 2;have Bh:=blk_frozen uD.out 3;have CY:=blk_frozen uD.out 4)|((with_reducible refine ai (f:=125) rfl ?_);refine gL 5 Try.func125 #[.int .u8 aI] ?_;(with_reducible refine (pK.calls aI JY _ A2.out).mono ?_);rintro e w' ⟨rfl,⟨nd,rfl⟩⟩;refine ⟨_,rfl, ?_⟩))
  go_ret
  exact ⟨by first|rfl|(simp [ae,af]<;>rfl)|(simp [*,ae,af]<;>rfl),bz HB⟩
def jh.f (l0:List Int):Option (Bool):=if 0<(l0.length:Int) then (if 1<(l0.length:Int) then ((oJ.f (rd l0 0) (rd l0 1) 0 0 ([]:List Int)).bind fun Zo=>(some Zo)) else (none)) else (none)
def jh.T1:Bool×List (List Nat×List Nat):=(true,[([],[]),([0],[0]),([1],[1]),([],[]),([3],[3]),([4],[4]),([2,5],[2,5]),([6],[6]),([7,7,0,1,2,3,4,5,6,7],[7])])
def jh.B1:List Nat:=[0,1,3,0,8,24,63,127,255]
theorem jh.AhE:rtab .any (opsOf Try.f114 1)=jh.T1:=by kernel_rfl
theorem jh.Zp:waitsOk jh.T1.2 jh.B1=true:=by kernel_rfl
theorem jh.calls (A0:Option Addr) (c0:Nat) (l0:List Int) (r:Bool) (w:World) (hr0:Kd.C (Kd.int .u8) w A0 l0.length l0) (hc0:l0.length<=c0) (h:jh.f l0=some r):
  Calls Try.prog 114 #[.slice A0 l0.length c0] w fun e w'=>e= .returned (.bool r) /\ Below w.heap.size w w':=by
 have uQ:=Try.underlying101;have HR0:=Aside0.mk hr0;have mg:=Aside0.mk hc0;clear hr0 hc0;have HB:=jy w;have H:(if 0<(l0.length:Int) then (if 1<(l0.length:Int) then ((oJ.f (rd l0 0) (rd l0 1) 0 0 ([]:List Int)).bind fun Zo=>(some Zo)) else (none)) else (none))=some r:=h;clear h
 by_cases c2:0<(l0.length:Int)
 ·rw [ah c2] at H
  have nV:decide (0<(l0.length:Int))=true:=bJ c2;have qQ:decide (0<l0.length)=true:=bJ (by omega);clear c2
  by_cases c3:1<(l0.length:Int)
  ·rw [ah c3] at H
   have tY:decide (1<(l0.length:Int))=true:=bJ c3;have vI:decide (1<l0.length)=true:=bJ (by omega);clear c3;replace H:=dM H;obtain ⟨Zo,yz,H⟩:=H
   (try dsimp -simprocs only at H)
   have A4:=Aside0.mk yz;clear yz;obtain rfl:=eF H
   go_enter Try.func114,Try.ntmps114
   try go_wp2
   have ay:=Aside0.mk (below_drew1 HB.out);clear HB;have HB:=ay;clear ay;have AhF:0<=(0:Int):=(by omega)
   have AhG:0<(l0.length:Int):=je;obtain ⟨VI,Atn,Bi⟩:=Kd.dU HR0.out 0 AhF AhG;have Bj:=Bi
   (try rw [show ((0:Int)).toNat=0 from rfl] at Bj)
   (try rw [show 0*1=0 from rfl] at Bj)
   (try rw [Addr.add_zero'] at Bj)
   cases Atn
   have Awp:(0<l0.length)=True:=eq_true (by omega)
   (try rw [show ((0:Int)).toNat=0 from rfl] at Bi)
   (try rw [Addr.add_zero'] at Bi)
   replace Bi:=(HB.out.cell (dS w _ Bi)).trans Bi;replace AhF:=eq_true AhF;replace AhG:=eq_true AhG;have AhH:0<=(1:Int):=(by omega)
   have AhI:1<(l0.length:Int):=je;obtain ⟨AlY,Ato,Bl⟩:=Kd.dU HR0.out 1 AhH AhI;have Bo:=Bl
   (try rw [show ((1:Int)).toNat=1 from rfl] at Bo)
   (try rw [show 1*1=1 from rfl] at Bo)
   (try simp only [Nat.reduceMul,Nat.reduceEqDiff,Go.Addr.add,↓reduceIte] at Bo)
   obtain rfl:VI=AlY:=(by injection Ato)
   (try simp only [show (1:Int).toNat=1 from rfl,Nat.reduceMul,Nat.reduceEqDiff,Go.Addr.add,↓reduceIte] at Bl)
   have Awq:(1<l0.length)=True:=eq_true (by omega)
   (try rw [show ((1:Int)).toNat=1 from rfl] at Bl)
   replace Bl:=(HB.out.cell (dS w _ Bl)).trans Bl;replace AhH:=eq_true AhH;replace AhI:=eq_true AhI;refine start_ (n:=9) (S:=fun w'=>w'.cell? VI=some (.int .u8 (rd l0 0)) /\ w'.cell? ⟨VI.block,VI.off+1,none⟩=some (.int .u8 (rd l0 1))) (ds:=[]) #[false,false,false,false,false,false,false,false,false] (by kernel_rfl) rfl rfl ⟨((HB.out.cell (dS w _ Bj)).trans Bj),((HB.out.cell (dS w _ Bo)).trans Bo)⟩ (fun hHeld=> ?_);refine with_tabW jh.AhE jh.Zp (fun HT_ HW_=> ?_);generalize w.drew=w5 at HB Bi Bl hHeld|-
   refine pz 0 3 HT_ ?_;refine pz 1 4 HT_ ?_;refine pz 3 6 HT_ ?_;refine pz 4 7 HT_ ?_;refine take_ (i:=2) (N:=some 5) (v:= ?_) (a':= ?_) #[true,true,true,true,true,false,false,false,false] rfl rfl (take_ofW HT_.out HW_.out (by kernel_rfl)) (fun _ _ _ h=>h) (Or.inl ⟨by rfl, ?_⟩) hHeld ?_ ?_
   rotate_left
   ·rintro w' ⟨s0,s1⟩
    go_simp
    with_reducible rfl
   rotate_left
   ·simp only [vF]
    rfl
   refine take_ (i:=5) (N:=some 8) (v:= ?_) (a':= ?_) #[true,true,true,true,true,true,false,false,false] rfl rfl (take_ofW HT_.out HW_.out (by kernel_rfl)) (fun _ _ _ h=>h) (Or.inl ⟨by rfl, ?_⟩) hHeld ?_ ?_
   rotate_left
   ·rintro w' ⟨s0,s1⟩
    go_simp
    with_reducible rfl
   rotate_left
   ·simp only [vF]
    rfl
   refine pz 6 9 HT_ ?_;refine oz 7 (some 10) HT_ (fun K hK=> ?_);refine gG Try.func105 #[.agg #[.int .u8 (rd l0 0),.int .u8 (rd l0 1),.int .u16 0,.int .u32 0,.slice none 0 0]] ?_;refine (oJ.calls (rd l0 0) (rd l0 1) 0 0 _ _ ([]:List Int) Zo _ ?au ?ax A4.out).mono ?_
   (case au=>exact Kd.JM _ _)
   (case ax=>exact Nat.le_refl _)
   rintro e w6 ⟨rfl,hb⟩;refine ⟨_,rfl, ?_⟩;have ay:=Aside0.mk (ag (bz HB) hb);clear HB;have HB:=ay;clear ay
   (try clear hb)
   (try clear hb2)
   (try clear hk)
   (try clear hi)
   refine hK.out _ _ ⟨((HB.out.cell (dS w _ Bj)).trans Bj),((HB.out.cell (dS w _ Bo)).trans Bo)⟩ (fun hHeld=> ?_);clear hK K;refine nz 10 ?_;refine pz 8 2 HT_ ?_;refine dz HT_ ?_
   try go_wp2
   go_ret
   exact ⟨by first|rfl|(simp [ae,af]<;>rfl)|(simp [*,ae,af]<;>rfl),bz HB⟩
  ·rw [aj c3] at H
   cases H
 ·rw [aj c2] at H
  cases H
theorem uK.AhJ (a t i fl of_ s d:Int) (Ao:Option Addr) (no co:Nat) (Ab:Option Addr) (cb:Nat) (b:List Int) (us ud uc e_:Int) (ub:List Int) (w:World) (hb:Kd.C (Kd.int .u8) w Ab b.length b) (hc:b.length<=cb) (hp:lH.f b=some (us,ud,uc,ub,e_)):
  Calls Try.prog 103 #[.agg #[.int .u8 a,.int .u8 t,.int .u8 17,.int .u16 i,.int .u8 fl,.int .u16 of_,.int .u32 s,.int .u32 d,.slice Ao no co,.slice Ab b.length cb]] w fun e w'=>∃ v3:Value,e= .returned (.tuple #[.iface 179 (.agg #[.int .u16 us,.int .u16 ud,.int .u16 uc,v3]),.int .i64 e_]) /\ Kd.R (Kd.int .u8) 5 w' w.heap.size (fun _=>True) v3 ub /\ Below w.heap.size w w':=by
 have JZ:=Aside0.mk hb;have HLb:=Aside0.mk hc;have HB:=jy w;have HI73:Aside0 ((Try.prog.info? 73).map (·.size)=some 10):=⟨by kernel_rfl⟩
 have Ei:Aside0 ((Try.prog.info? 83).map (·.size)=some 4):=⟨by kernel_rfl⟩
 have qV:Aside0 ((Try.prog.info? 137).map (·.size)=some 10):=⟨by kernel_rfl⟩
 have ou:Aside0 ((Try.prog.info? 101).map (·.size)=some 5):=⟨by kernel_rfl⟩
 have HP:=Aside0.mk hp;clear hp;clear hb hc
 go_enter Try.func103,Try.ntmps103
 go_upto_region 1 with (((with_reducible refine gate_dst (N:=1) rfl ?_);refine Kd.event_run rfl (v:= .pointer (some ⟨w.heap.size,0,none⟩)) (w1:=w.alloc (.cells #[.int .u8 a,.int .u8 t,.int .u8 17,.int .u16 i,.int .u8 fl,.int .u16 of_,.int .u32 s,.int .u32 d,.slice Ao no co,.slice Ab b.length cb] 73)) (by first|(go_simp;done)|(go_simp;rfl)) ?_))
 obtain ⟨gp,Je⟩:∃ x_,x_=w.heap.size:=⟨_,rfl⟩
 have HXp:Aside0 ((w.alloc (.cells #[.int .u8 a,.int .u8 t,.int .u8 17,.int .u16 i,.int .u8 fl,.int .u16 of_,.int .u32 s,.int .u32 d,.slice Ao no co,.slice Ab b.length cb] 73)).heap[gp]?=some (.cells #[.int .u8 a,.int .u8 t,.int .u8 17,.int .u16 i,.int .u8 fl,.int .u16 of_,.int .u32 s,.int .u32 d,.slice Ao no co,.slice Ab b.length cb] 73 (0,0))):=⟨by rw [Je];exact kW _ _⟩
 have GHXp:=Aside0.mk (show w.heap.size<=gp by rw [Je];exact below_size HB.out);rw [<- Je];clear Je;have hb_:=fA (Below.refl w.heap.size w) (.cells #[.int .u8 a,.int .u8 t,.int .u8 17,.int .u16 i,.int .u8 fl,.int .u16 of_,.int .u32 s,.int .u32 d,.slice Ao no co,.slice Ab b.length cb] 73);replace HB:=mB HB hb_;replace JZ:=mC JZ hb_;clear hb_;generalize (w.alloc (.cells #[.int .u8 a,.int .u8 t,.int .u8 17,.int .u16 i,.int .u8 fl,.int .u16 of_,.int .u32 s,.int .u32 d,.slice Ao no co,.slice Ab b.length cb] 73))=w1 at HXp HB JZ|-
 have uM:=cz HXp.out 2 rfl;have F8:=cz HXp.out 9 rfl
 go_wp2_with fail
 clear uM F8;refine (lH.calls Ab cb b us ud uc ub e_ _ JZ.out HLb.out HP.out).mono ?_;rintro ev w2 ⟨v3,rfl,ho3,hb⟩;have HR3:=qP ho3 HB;obtain ⟨A3,c3,rfl,_,_⟩:=Kd.R_reads ho3;clear ho3;clear HP JZ HLb HXp GHXp;have hb_:=hb;replace HB:=mB HB hb_;clear hb_;clear hb
 (try dsimp only)
 go_upto_region 4 with ((first|(refine rq rfl rfl (zT rfl rfl rfl Ei.out rfl (by simp [Value.oneCell'])) ?_)))
 obtain ⟨gu,hgu⟩:∃ x_,x_=w2.heap.size:=⟨_,rfl⟩
 have fG:Aside0 ((w2.alloc (.cells #[.int .u16 us,.int .u16 ud,.int .u16 uc,.slice A3 ub.length c3] 83)).heap[gu]?=some (.cells #[.int .u16 us,.int .u16 ud,.int .u16 uc,.slice A3 ub.length c3] 83 (0,0))):=⟨by rw [hgu];exact kW _ _⟩
 have Bq:=Aside0.mk (show w.heap.size<=gu by rw [hgu];exact below_size HB.out);rw [<- hgu];clear hgu;have hb_:=fA (Below.refl w2.heap.size w2) (.cells #[.int .u16 us,.int .u16 ud,.int .u16 uc,.slice A3 ub.length c3] 83);replace HB:=mB HB hb_;replace HR3:=mR HR3 hb_;clear hb_;generalize (w2.alloc (.cells #[.int .u16 us,.int .u16 ud,.int .u16 uc,.slice A3 ub.length c3] 83))=w3 at fG HB HR3|-
 go_wp2_with (refine Kd.event_run rfl (rw_load rfl rfl fG.out Try.underlying83 rfl Ei.out) ?_)
 (try simp only [Exit.inBlock,Exit.then])
 go_ret2
 exact ⟨_,rfl,HR3.out,HB.out⟩
theorem uK.AhK (a t i fl of_ s d:Int) (Ao:Option Addr) (no co:Nat) (Ab:Option Addr) (cb:Nat) (b:List Int) (ts td tq ta tf tw tc tu e_:Int) (FP tb:List Int) (w:World) (hb:Kd.C (Kd.int .u8) w Ab b.length b) (hc:b.length<=cb) (hp:tZ.f b=some (ts,td,tq,ta,tf,tw,tc,tu,FP,tb,e_)):
  Calls Try.prog 103 #[.agg #[.int .u8 a,.int .u8 t,.int .u8 6,.int .u16 i,.int .u8 fl,.int .u16 of_,.int .u32 s,.int .u32 d,.slice Ao no co,.slice Ab b.length cb]] w fun e w'=>∃ v8 v9:Value,e= .returned (.tuple #[.iface 181 (.agg #[.int .u16 ts,.int .u16 td,.int .u32 tq,.int .u32 ta,.int .u8 tf,.int .u16 tw,.int .u16 tc,.int .u16 tu,v8,v9]),.int .i64 e_]) /\ Kd.R (Kd.int .u8) 5 w' w.heap.size (fun _=>True) v8 FP /\ Kd.R (Kd.int .u8) 5 w' w.heap.size (fun _=>True) v9 tb /\ Below w.heap.size w w':=by
 have JZ:=Aside0.mk hb;have HLb:=Aside0.mk hc;have HB:=jy w;have HI73:Aside0 ((Try.prog.info? 73).map (·.size)=some 10):=⟨by kernel_rfl⟩
 have Ei:Aside0 ((Try.prog.info? 83).map (·.size)=some 4):=⟨by kernel_rfl⟩
 have qV:Aside0 ((Try.prog.info? 137).map (·.size)=some 10):=⟨by kernel_rfl⟩
 have ou:Aside0 ((Try.prog.info? 101).map (·.size)=some 5):=⟨by kernel_rfl⟩
 have HP:=Aside0.mk hp;clear hp;clear hb hc
 go_enter Try.func103,Try.ntmps103
 go_upto_region 1 with (((with_reducible refine gate_dst (N:=1) rfl ?_);refine Kd.event_run rfl (v:= .pointer (some ⟨w.heap.size,0,none⟩)) (w1:=w.alloc (.cells #[.int .u8 a,.int .u8 t,.int .u8 6,.int .u16 i,.int .u8 fl,.int .u16 of_,.int .u32 s,.int .u32 d,.slice Ao no co,.slice Ab b.length cb] 73)) (by first|(go_simp;done)|(go_simp;rfl)) ?_))
 obtain ⟨gp,Je⟩:∃ x_,x_=w.heap.size:=⟨_,rfl⟩
 have HXp:Aside0 ((w.alloc (.cells #[.int .u8 a,.int .u8 t,.int .u8 6,.int .u16 i,.int .u8 fl,.int .u16 of_,.int .u32 s,.int .u32 d,.slice Ao no co,.slice Ab b.length cb] 73)).heap[gp]?=some (.cells #[.int .u8 a,.int .u8 t,.int .u8 6,.int .u16 i,.int .u8 fl,.int .u16 of_,.int .u32 s,.int .u32 d,.slice Ao no co,.slice Ab b.length cb] 73 (0,0))):=⟨by rw [Je];exact kW _ _⟩
 have GHXp:=Aside0.mk (show w.heap.size<=gp by rw [Je];exact below_size HB.out);rw [<- Je];clear Je;have hb_:=fA (Below.refl w.heap.size w) (.cells #[.int .u8 a,.int .u8 t,.int .u8 6,.int .u16 i,.int .u8 fl,.int .u16 of_,.int .u32 s,.int .u32 d,.slice Ao no co,.slice Ab b.length cb] 73);replace HB:=mB HB hb_;replace JZ:=mC JZ hb_;clear hb_;generalize (w.alloc (.cells #[.int .u8 a,.int .u8 t,.int .u8 6,.int .u16 i,.int .u8 fl,.int .u16 of_,.int .u32 s,.int .u32 d,.slice Ao no co,.slice Ab b.length cb] 73))=w1 at HXp HB JZ|-
 have uM:=cz HXp.out 2 rfl;have F8:=cz HXp.out 9 rfl
 go_wp2_with fail
 clear uM F8;refine (tZ.Ag8 Ab cb b ts td tq ta tf tw tc tu FP tb e_ _ JZ.out HLb.out HP.out).mono ?_;rintro ev w2 ⟨v8,v9,rfl,ho8,ho9,hb⟩;have HR8:=qP ho8 HB;obtain ⟨A8,c8,rfl,_,_⟩:=Kd.R_reads ho8;clear ho8;have HR9:=qP ho9 HB;obtain ⟨A9,c9,rfl,_,_⟩:=Kd.R_reads ho9;clear ho9;clear HP JZ HLb HXp GHXp;have hb_:=hb;replace HB:=mB HB hb_;clear hb_;clear hb
 (try dsimp only)
 go_upto_region 7 with ((first|(refine rq rfl rfl (zT rfl rfl rfl qV.out rfl (by simp [Value.oneCell'])) ?_)))
 obtain ⟨gu,hgu⟩:∃ x_,x_=w2.heap.size:=⟨_,rfl⟩
 have fG:Aside0 ((w2.alloc (.cells #[.int .u16 ts,.int .u16 td,.int .u32 tq,.int .u32 ta,.int .u8 tf,.int .u16 tw,.int .u16 tc,.int .u16 tu,.slice A8 FP.length c8,.slice A9 tb.length c9] 137)).heap[gu]?=some (.cells #[.int .u16 ts,.int .u16 td,.int .u32 tq,.int .u32 ta,.int .u8 tf,.int .u16 tw,.int .u16 tc,.int .u16 tu,.slice A8 FP.length c8,.slice A9 tb.length c9] 137 (0,0))):=⟨by rw [hgu];exact kW _ _⟩
 have Bq:=Aside0.mk (show w.heap.size<=gu by rw [hgu];exact below_size HB.out);rw [<- hgu];clear hgu;have hb_:=fA (Below.refl w2.heap.size w2) (.cells #[.int .u16 ts,.int .u16 td,.int .u32 tq,.int .u32 ta,.int .u8 tf,.int .u16 tw,.int .u16 tc,.int .u16 tu,.slice A8 FP.length c8,.slice A9 tb.length c9] 137);replace HB:=mB HB hb_;replace HR8:=mR HR8 hb_;replace HR9:=mR HR9 hb_;clear hb_;generalize (w2.alloc (.cells #[.int .u16 ts,.int .u16 td,.int .u32 tq,.int .u32 ta,.int .u8 tf,.int .u16 tw,.int .u16 tc,.int .u16 tu,.slice A8 FP.length c8,.slice A9 tb.length c9] 137))=w3 at fG HB HR8 HR9|-
 go_wp2_with (refine Kd.event_run rfl (rw_load rfl rfl fG.out Try.underlying137 rfl qV.out) ?_)
 (try simp only [Exit.inBlock,Exit.then])
 go_ret2
 exact ⟨_,_,rfl,HR8.out,HR9.out,HB.out⟩
theorem uK.AcL (a t i fl of_ s d:Int) (Ao:Option Addr) (no co:Nat) (Ab:Option Addr) (cb:Nat) (b:List Int) (mt mc ms mr e_:Int) (mb:List Int) (w:World) (hb:Kd.C (Kd.int .u8) w Ab b.length b) (hc:b.length<=cb) (hp:kH.f b=some (mt,mc,ms,mr,mb,e_)):
  Calls Try.prog 103 #[.agg #[.int .u8 a,.int .u8 t,.int .u8 1,.int .u16 i,.int .u8 fl,.int .u16 of_,.int .u32 s,.int .u32 d,.slice Ao no co,.slice Ab b.length cb]] w fun e w'=>∃ v4:Value,e= .returned (.tuple #[.iface 183 (.agg #[.int .u8 mt,.int .u8 mc,.int .u16 ms,.int .u32 mr,v4]),.int .i64 e_]) /\ Kd.R (Kd.int .u8) 5 w' w.heap.size (fun _=>True) v4 mb /\ Below w.heap.size w w':=by
 have JZ:=Aside0.mk hb;have HLb:=Aside0.mk hc;have HB:=jy w;have HI73:Aside0 ((Try.prog.info? 73).map (·.size)=some 10):=⟨by kernel_rfl⟩
 have Ei:Aside0 ((Try.prog.info? 83).map (·.size)=some 4):=⟨by kernel_rfl⟩
 have qV:Aside0 ((Try.prog.info? 137).map (·.size)=some 10):=⟨by kernel_rfl⟩
 have ou:Aside0 ((Try.prog.info? 101).map (·.size)=some 5):=⟨by kernel_rfl⟩
 have HP:=Aside0.mk hp;clear hp;clear hb hc
 go_enter Try.func103,Try.ntmps103
 go_upto_region 1 with (((with_reducible refine gate_dst (N:=1) rfl ?_);refine Kd.event_run rfl (v:= .pointer (some ⟨w.heap.size,0,none⟩)) (w1:=w.alloc (.cells #[.int .u8 a,.int .u8 t,.int .u8 1,.int .u16 i,.int .u8 fl,.int .u16 of_,.int .u32 s,.int .u32 d,.slice Ao no co,.slice Ab b.length cb] 73)) (by first|(go_simp;done)|(go_simp;rfl)) ?_))
 obtain ⟨gp,Je⟩:∃ x_,x_=w.heap.size:=⟨_,rfl⟩
 have HXp:Aside0 ((w.alloc (.cells #[.int .u8 a,.int .u8 t,.int .u8 1,.int .u16 i,.int .u8 fl,.int .u16 of_,.int .u32 s,.int .u32 d,.slice Ao no co,.slice Ab b.length cb] 73)).heap[gp]?=some (.cells #[.int .u8 a,.int .u8 t,.int .u8 1,.int .u16 i,.int .u8 fl,.int .u16 of_,.int .u32 s,.int .u32 d,.slice Ao no co,.slice Ab b.length cb] 73 (0,0))):=⟨by rw [Je];exact kW _ _⟩
 have GHXp:=Aside0.mk (show w.heap.size<=gp by rw [Je];exact below_size HB.out);rw [<- Je];clear Je;have hb_:=fA (Below.refl w.heap.size w) (.cells #[.int .u8 a,.int .u8 t,.int .u8 1,.int .u16 i,.int .u8 fl,.int .u16 of_,.int .u32 s,.int .u32 d,.slice Ao no co,.slice Ab b.length cb] 73);replace HB:=mB HB hb_;replace JZ:=mC JZ hb_;clear hb_;generalize (w.alloc (.cells #[.int .u8 a,.int .u8 t,.int .u8 1,.int .u16 i,.int .u8 fl,.int .u16 of_,.int .u32 s,.int .u32 d,.slice Ao no co,.slice Ab b.length cb] 73))=w1 at HXp HB JZ|-
 have uM:=cz HXp.out 2 rfl;have F8:=cz HXp.out 9 rfl
 go_wp2_with fail
 clear uM F8;refine (kH.calls Ab cb b mt mc ms mr mb e_ _ JZ.out HLb.out HP.out).mono ?_;rintro ev w2 ⟨v4,rfl,ho4,hb⟩;have HR4:=qP ho4 HB;obtain ⟨A4,c4,rfl,_,_⟩:=Kd.R_reads ho4;clear ho4;clear HP JZ HLb HXp GHXp;have hb_:=hb;replace HB:=mB HB hb_;clear hb_;clear hb
 (try dsimp only)
 go_upto_region 10 with ((first|(refine rq rfl rfl (zT rfl rfl rfl ou.out rfl (by simp [Value.oneCell'])) ?_)))
 obtain ⟨gu,hgu⟩:∃ x_,x_=w2.heap.size:=⟨_,rfl⟩
 have fG:Aside0 ((w2.alloc (.cells #[.int .u8 mt,.int .u8 mc,.int .u16 ms,.int .u32 mr,.slice A4 mb.length c4] 101)).heap[gu]?=some (.cells #[.int .u8 mt,.int .u8 mc,.int .u16 ms,.int .u32 mr,.slice A4 mb.length c4] 101 (0,0))):=⟨by rw [hgu];exact kW _ _⟩
 have Bq:=Aside0.mk (show w.heap.size<=gu by rw [hgu];exact below_size HB.out);rw [<- hgu];clear hgu;have hb_:=fA (Below.refl w2.heap.size w2) (.cells #[.int .u8 mt,.int .u8 mc,.int .u16 ms,.int .u32 mr,.slice A4 mb.length c4] 101);replace HB:=mB HB hb_;replace HR4:=mR HR4 hb_;clear hb_;generalize (w2.alloc (.cells #[.int .u8 mt,.int .u8 mc,.int .u16 ms,.int .u32 mr,.slice A4 mb.length c4] 101))=w3 at fG HB HR4|-
 go_wp2_with (refine Kd.event_run rfl (rw_load rfl rfl fG.out Try.underlying101 rfl ou.out) ?_)
 (try simp only [Exit.inBlock,Exit.then])
 go_ret2
 exact ⟨_,rfl,HR4.out,HB.out⟩
theorem uK.Zq (a t i fl of_ s d:Int) (Ao:Option Addr) (no co:Nat) (Ab:Option Addr) (cb:Nat) (b:List Int) (pr:Int) (w:World) (n17:¬ pr=17) (n6:¬ pr=6) (n1:¬ pr=1):
  Calls Try.prog 103 #[.agg #[.int .u8 a,.int .u8 t,.int .u8 pr,.int .u16 i,.int .u8 fl,.int .u16 of_,.int .u32 s,.int .u32 d,.slice Ao no co,.slice Ab b.length cb]] w fun e w'=>e= .returned (.tuple #[.nilIface,.int .i64 21]) /\ Below w.heap.size w w':=by
 have HB:=jy w;have n171:(pr==17)=false:=iM n17;have n172:(pr !=17)=true:=bne_iff_ne.2 n17;have n61:(pr==6)=false:=iM n6;have n62:(pr !=6)=true:=bne_iff_ne.2 n6;have n11:(pr==1)=false:=iM n1;have n12:(pr !=1)=true:=bne_iff_ne.2 n1;clear n17 n6 n1
 go_enter Try.func103,Try.ntmps103
 go_upto_region 1 with (((with_reducible refine gate_dst (N:=1) rfl ?_);refine Kd.event_run rfl (v:= .pointer (some ⟨w.heap.size,0,none⟩)) (w1:=w.alloc (.cells #[.int .u8 a,.int .u8 t,.int .u8 pr,.int .u16 i,.int .u8 fl,.int .u16 of_,.int .u32 s,.int .u32 d,.slice Ao no co,.slice Ab b.length cb] 73)) (by first|(go_simp;done)|(go_simp;rfl)) ?_))
 obtain ⟨gp,Je⟩:∃ x_,x_=w.heap.size:=⟨_,rfl⟩
 have HXp:Aside0 ((w.alloc (.cells #[.int .u8 a,.int .u8 t,.int .u8 pr,.int .u16 i,.int .u8 fl,.int .u16 of_,.int .u32 s,.int .u32 d,.slice Ao no co,.slice Ab b.length cb] 73)).heap[gp]?=some (.cells #[.int .u8 a,.int .u8 t,.int .u8 pr,.int .u16 i,.int .u8 fl,.int .u16 of_,.int .u32 s,.int .u32 d,.slice Ao no co,.slice Ab b.length cb] 73 (0,0))):=⟨by rw [Je];exact kW _ _⟩
 have GHXp:=Aside0.mk (show w.heap.size<=gp by rw [Je];exact below_size HB.out);rw [<- Je];clear Je;have hb_:=fA (Below.refl w.heap.size w) (.cells #[.int .u8 a,.int .u8 t,.int .u8 pr,.int .u16 i,.int .u8 fl,.int .u16 of_,.int .u32 s,.int .u32 d,.slice Ao no co,.slice Ab b.length cb] 73);replace HB:=mB HB hb_;clear hb_;generalize (w.alloc (.cells #[.int .u8 a,.int .u8 t,.int .u8 pr,.int .u16 i,.int .u8 fl,.int .u16 of_,.int .u32 s,.int .u32 d,.slice Ao no co,.slice Ab b.length cb] 73))=w1 at HXp HB|-
 have uM:=cz HXp.out 2 rfl;have F8:=cz HXp.out 9 rfl
 go_wp2
 (try simp only [Exit.inBlock,Exit.then])
 go_ret2
 exact ⟨rfl,HB.out⟩
attribute [local go_sem] dV dW gI gJ dG dH dX dY
def fP.l0:Nat ->Int ->Option (Int)
 |0,_=>none
 |k+1,x0=>if (x0 / 65536)=0 then (some (IntKind.u16.wrap (x0))) else (fP.l0 k (((Go.bits .and .u32 x0 65535)+(x0 / 65536)) % 4294967296))
def fP.f (k:Nat) (a0:Int):Option (Int):=fP.l0 k a0
theorem fP.calls (k:Nat) (a0:Int) (r:Int) (w:World) (h:fP.f k a0=some r):
  Calls Try.prog 115 #[.int .u32 a0] w fun e w'=>e= .returned (.int .u16 r) /\ bf w w':=by
 have H:(fP.l0 k a0)=some r:=h;clear h;have H':=Aside0.mk H;clear H
 go_enter Try.func115,Try.ntmps115
 go_wp2
 go_loopg [0] k (fun kq v0 w'=>∃ (wP:Int),v0= .int .u32 wP /\ Aside0 (fP.l0 kq wP=some r) /\ Aside0 (kq<=k) /\ bf w w')
 case atStart=>exact ⟨(a0),(by first|rfl|(simp;done)|(simp [*];done)),H',⟨Nat.le_refl _⟩,by repeat (first|exact bf.refl _|apply bf.step)⟩
 case round=>
  clear H';obtain ⟨wP,rfl,HA,Ff,⟨m1,rfl⟩⟩:=hrel
  cases gk with
  |zero=>exact absurd HA.out (by simp [fP.l0])
  |succ k1=>
   have H:=HA.out;clear HA;simp only [fP.l0] at H
   by_cases c2:(wP / 65536)=0
   ·rw [ah c2] at H
    have nV:((wP / 65536)==0)=true:=jf c2;have qQ:((wP / 65536) !=0)=false:=oM c2;clear c2;obtain rfl:=eF H
    go_wp2
    go_ret
    exact ⟨by first|rfl|(simp;done)|(simp [*];done),by repeat (first|exact bf.refl _|apply bf.step)⟩
   ·rw [aj c2] at H
    have nV:((wP / 65536)==0)=false:=iM c2;have qQ:((wP / 65536) !=0)=true:=pq c2;have H':=Aside0.mk H;clear H
    go_wp2
    go_roundg k1
    case measure=>have:=Ff.out;omega
    case rel=>exact ⟨(((Go.bits .and .u32 wP 65535)+(wP / 65536)) % 4294967296),(by first|rfl|(simp;done)|(simp [*];done)),H',⟨by have:=Ff.out;omega⟩,by repeat (first|exact bf.refl _|apply bf.step)⟩
def jL.l0:Nat ->List Int ->List Int ->Int ->Int ->Option (List Int)
 |0,_,_,_,_=>none
 |k+1,x0,x3,x9,x10=>if x10<x9 then (if 0<=(wrap64 (2*x10)) then (if (wrap64 (2*x10))<(x0.length:Int) then (if (wrap64 ((wrap64 (2*x10))+1))<(x0.length:Int) then (if 0<=(wrap64 ((wrap64 (2*x10))+1)) then (if x3.length<70368744177664 then (jL.l0 k x0 (x3++[Go.bits .or .u16 (IntKind.u16.wrap ((IntKind.u16.wrap (rd x0 (wrap64 (2*x10))))*256)) (IntKind.u16.wrap (rd x0 (wrap64 ((wrap64 (2*x10))+1))))]) x9 (wrap64 (x10+1))) else (none)) else (none)) else (if x3.length<70368744177664 then (jL.l0 k x0 (x3++[IntKind.u16.wrap ((IntKind.u16.wrap (rd x0 (wrap64 (2*x10))))*256)]) x9 (wrap64 (x10+1))) else (none))) else (none)) else (none)) else (some x3)
def jL.f (k:Nat) (l0:List Int):Option (List Int):=jL.l0 k l0 ([]:List Int) (wrap64 (Int.tdiv (wrap64 ((l0.length:Int)+1)) 2)) 0
theorem jL.calls (k:Nat) (A0:Option Addr) (c0:Nat) (l0:List Int) (r:List Int) (w:World) (hr0:Kd.C (Kd.int .u8) w A0 l0.length l0) (hc0:l0.length<=c0) (h:jL.f k l0=some r):
  Calls Try.prog 128 #[.slice A0 l0.length c0] w fun e w'=>∃ uP:Value,e= .returned (uP) /\ Kd.R (Kd.int .u16) 45 w' w.heap.size (fun _=>True) uP r /\ Below w.heap.size w w':=by
 have HR0:=Aside0.mk hr0;have mg:=Aside0.mk hc0;clear hr0 hc0;have HB:=jy w;have H:(jL.l0 k l0 ([]:List Int) (wrap64 (Int.tdiv (wrap64 ((l0.length:Int)+1)) 2)) 0)=some r:=h;clear h;have H':=Aside0.mk H;clear H
 go_enter Try.func128,Try.ntmps128
 go_wp2
 go_loopg [3,10] k (fun kq v3 v10 w'=>∃ (sF:List Int) (Ad:Int),v10= .int .i64 Ad /\ Aside0 (jL.l0 kq l0 sF (wrap64 (Int.tdiv (wrap64 ((l0.length:Int)+1)) 2)) Ad=some r) /\ Aside0 (kq<=k) /\ Aside0 (Kd.R (Kd.int .u16) 45 w' w.heap.size (fun _=>True) v3 sF) /\ Aside0 (Below w.heap.size w w'))
 case atStart=>exact ⟨(([]:List Int)),(0),(by first|rfl|(simp;done)|(simp [*];done)),H',⟨Nat.le_refl _⟩,⟨by first|exact Kd.bV _ _ _ _ _|exact Kd.lV _ _ _ _ _|exact Kd.lW _ _ _ _ _|exact Kd.lT _ _ _ _ _|exact Kd.lU _ _ _ _ _⟩,⟨bz HB⟩⟩
 case round=>
  clear H';obtain ⟨sF,Ad,rfl,HA,Ff,J3,HB⟩:=hrel
  cases gk with
  |zero=>exact absurd HA.out (by simp [jL.l0])
  |succ k1=>
   have H:=HA.out;clear HA;simp only [jL.l0] at H
   by_cases c2:Ad<(wrap64 (Int.tdiv (wrap64 ((l0.length:Int)+1)) 2))
   ·rw [ah c2] at H
    have nV:decide (Ad<(wrap64 (Int.tdiv (wrap64 ((l0.length:Int)+1)) 2)))=true:=bJ c2;clear c2;obtain ⟨FQ,AhL⟩:∃ j_:Int,(wrap64 (2*Ad))=j_:=⟨_,rfl⟩
    replace H:(if 0<=(FQ) then (if (FQ)<(l0.length:Int) then (if (wrap64 ((FQ)+1))<(l0.length:Int) then (if 0<=(wrap64 ((FQ)+1)) then (if sF.length<70368744177664 then (jL.l0 k1 l0 (sF++[Go.bits .or .u16 (IntKind.u16.wrap ((IntKind.u16.wrap (rd l0 (FQ)))*256)) (IntKind.u16.wrap (rd l0 (wrap64 ((FQ)+1))))]) (wrap64 (Int.tdiv (wrap64 ((l0.length:Int)+1)) 2)) (wrap64 (Ad+1))) else (none)) else (none)) else (if sF.length<70368744177664 then (jL.l0 k1 l0 (sF++[IntKind.u16.wrap ((IntKind.u16.wrap (rd l0 (FQ)))*256)]) (wrap64 (Int.tdiv (wrap64 ((l0.length:Int)+1)) 2)) (wrap64 (Ad+1))) else (none))) else (none)) else (none))=some r:=by first|(rw [AhL] at H;exact H)|(simp only [AhL] at H|-;exact H)
    have Awr:(IntKind.i64.wrap (2*Ad))=FQ:=(i64_w _).trans AhL
    by_cases c4:0<=(FQ)
    ·rw [ah c4] at H
     have qE:decide (0<=(FQ))=true:=bJ c4;clear c4
     by_cases c5:(FQ)<(l0.length:Int)
     ·rw [ah c5] at H
      have qR:decide ((FQ)<(l0.length:Int))=true:=bJ c5;clear c5
      by_cases c6:(wrap64 ((FQ)+1))<(l0.length:Int)
      ·rw [ah c6] at H
       have yY:decide ((wrap64 ((FQ)+1))<(l0.length:Int))=true:=bJ c6;clear c6;obtain ⟨EN,F9⟩:∃ j_:Int,(wrap64 ((FQ)+1))=j_:=⟨_,rfl⟩
       replace H:(if 0<=(EN) then (if sF.length<70368744177664 then (jL.l0 k1 l0 (sF++[Go.bits .or .u16 (IntKind.u16.wrap ((IntKind.u16.wrap (rd l0 (FQ)))*256)) (IntKind.u16.wrap (rd l0 (EN)))]) (wrap64 (Int.tdiv (wrap64 ((l0.length:Int)+1)) 2)) (wrap64 (Ad+1))) else (none)) else (none))=some r:=by first|(rw [F9] at H;exact H)|(simp only [F9] at H|-;exact H)
       (try rw [F9] at yY)
       have AlZ:(IntKind.i64.wrap ((FQ)+1))=EN:=(i64_w _).trans F9
       by_cases c8:0<=(EN)
       ·rw [ah c8] at H
        have uf:decide (0<=(EN))=true:=bJ c8;clear c8
        by_cases c9:sF.length<70368744177664
        ·rw [ah c9] at H
         have Zr:=Aside0.mk c9;clear c9;obtain ⟨Atp,Zt⟩:∃ y_:List Int,y_=(sF++[Go.bits .or .u16 (IntKind.u16.wrap ((IntKind.u16.wrap (rd l0 (FQ)))*256)) (IntKind.u16.wrap (rd l0 (EN)))]):=⟨_,rfl⟩
         rw [<- Zt] at H
         have Al0:=Aside0.mk Zt;clear Zt;have H':=Aside0.mk H;clear H;have Ua:0<=((FQ):Int):=je;have Ub:(FQ)<(l0.length:Int):=je;obtain ⟨AeY,AhM,Bv⟩:=Kd.dU HR0.out (FQ) Ua Ub
         cases AhM
         replace Bv:=(HB.out.cell (dS w _ Bv)).trans Bv;replace Ua:=eq_true Ua;replace Ub:=eq_true Ub;have AhN:0<=((EN):Int):=je;have AhO:(EN)<(l0.length:Int):=je;obtain ⟨Al1,e137,Oz⟩:=Kd.dU HR0.out (EN) AhN AhO;obtain rfl:AeY=Al1:=(by injection e137)
         replace Oz:=(HB.out.cell (dS w _ Oz)).trans Oz;replace AhN:=eq_true AhN;replace AhO:=eq_true AhO
         go_wp2_with (first|((with_reducible refine iF (b:= .append) (xs:= #[.tmp 35,.tmp 37]) rfl ?_);at_builtin;refine Kd.FU (Kd.int .u16) (w0:=w) w.heap.size rfl (.tmp 35) (.tmp 37) 22 45 (.int .u16 0) 2 rfl Try.underlying22 Ou rfl (by decide) (by omega) u3 sF (Go.bits .or .u16 (IntKind.u16.wrap ((IntKind.u16.wrap (rd l0 (FQ)))*256)) (IntKind.u16.wrap (rd l0 (EN)))) [.int .u16 (Go.bits .or .u16 (IntKind.u16.wrap ((IntKind.u16.wrap (rd l0 (FQ)))*256)) (IntKind.u16.wrap (rd l0 (EN))))] (fun _=>True) (fun _=>False) rfl rfl ?aP (fun _ hk=>hk.elim) ?aF ?aO ?aB ?aS ?aL ?_;(case aP=>exact rfl);(case aB=>exact bz HB);(case aF=>exact (fun _ _=>trivial));(case aO=>exact (Kd.rz J3));(case aS=>exact (below_size (bz HB)));(case aL=>have:=Zr.out;omega);intro v139 w10 ho hb hg hat;rw [<- Al0.out] at ho;have ay:=Aside0.mk (hb);have aC:=Aside0.mk (ho);clear HB;clear J3;have HB:=ay;have Al2:=aC;clear ay aC;clear ho hb hg hat))
         go_roundg k1
         case measure=>have:=Ff.out;omega
         case rel=>exact ⟨(Atp),(wrap64 (Ad+1)),(by first|rfl|(simp;done)|(simp [*];done)),H',⟨by have:=Ff.out;omega⟩,⟨Kd.rz Al2⟩,⟨bz HB⟩⟩
        ·rw [aj c9] at H
         cases H
       ·rw [aj c8] at H
        cases H
      ·rw [aj c6] at H
       have yY:decide ((wrap64 ((FQ)+1))<(l0.length:Int))=false:=jC c6;clear c6
       by_cases c11:sF.length<70368744177664
       ·rw [ah c11] at H
        have Zu:=Aside0.mk c11;clear c11;obtain ⟨Atq,Zv⟩:∃ y_:List Int,y_=(sF++[IntKind.u16.wrap ((IntKind.u16.wrap (rd l0 (FQ)))*256)]):=⟨_,rfl⟩
        rw [<- Zv] at H
        have Al3:=Aside0.mk Zv;clear Zv;have H':=Aside0.mk H;clear H;have Ua:0<=((FQ):Int):=je;have Ub:(FQ)<(l0.length:Int):=je;obtain ⟨AeY,AhM,Bv⟩:=Kd.dU HR0.out (FQ) Ua Ub
        cases AhM
        replace Bv:=(HB.out.cell (dS w _ Bv)).trans Bv;replace Ua:=eq_true Ua;replace Ub:=eq_true Ub
        go_wp2_with (first|((with_reducible refine iF (b:= .append) (xs:= #[.tmp 35,.tmp 37]) rfl ?_);at_builtin;refine Kd.FU (Kd.int .u16) (w0:=w) w.heap.size rfl (.tmp 35) (.tmp 37) 22 45 (.int .u16 0) 2 rfl Try.underlying22 Ou rfl (by decide) (by omega) u3 sF (IntKind.u16.wrap ((IntKind.u16.wrap (rd l0 (FQ)))*256)) [.int .u16 (IntKind.u16.wrap ((IntKind.u16.wrap (rd l0 (FQ)))*256))] (fun _=>True) (fun _=>False) rfl rfl ?aP (fun _ hk=>hk.elim) ?aF ?aO ?aB ?aS ?aL ?_;(case aP=>exact rfl);(case aB=>exact bz HB);(case aF=>exact (fun _ _=>trivial));(case aO=>exact (Kd.rz J3));(case aS=>exact (below_size (bz HB)));(case aL=>have:=Zu.out;omega);intro AyM w12 ho hb hg hat;rw [<- Al3.out] at ho;have ay:=Aside0.mk (hb);have aC:=Aside0.mk (ho);clear HB;clear J3;have HB:=ay;have Al4:=aC;clear ay aC;clear ho hb hg hat))
        go_roundg k1
        case measure=>have:=Ff.out;omega
        case rel=>exact ⟨(Atq),(wrap64 (Ad+1)),(by first|rfl|(simp;done)|(simp [*];done)),H',⟨by have:=Ff.out;omega⟩,⟨Kd.rz Al4⟩,⟨bz HB⟩⟩
       ·rw [aj c11] at H
        cases H
     ·rw [aj c5] at H
      cases H
    ·rw [aj c4] at H
     cases H
   ·rw [aj c2] at H
    have nV:decide (Ad<(wrap64 (Int.tdiv (wrap64 ((l0.length:Int)+1)) 2)))=false:=jC c2;clear c2;obtain rfl:=eF H
    go_wp2
    go_ret
    exact ⟨_,by first|rfl|(simp [ae,af]<;>rfl)|(simp [*,ae,af]<;>rfl),by (with_reducible repeat (first|apply Kd.ik|apply Kd.gV|apply Kd.iq));exact J3.out,bz HB⟩
def wQ.f (a0:Int) (a1:Int) (a2:Int):Option (Int×Int):=some ((IntKind.u64.wrap ((IntKind.u64.wrap ((IntKind.u64.wrap (a0))+(IntKind.u64.wrap (a1))))+(IntKind.u64.wrap (a2)))) % 4294967296,((IntKind.u64.wrap ((IntKind.u64.wrap ((IntKind.u64.wrap (a0))+(IntKind.u64.wrap (a1))))+(IntKind.u64.wrap (a2)))) / 4294967296) % 4294967296)
theorem wQ.calls (a0:Int) (a1:Int) (a2:Int) (r1:Int) (r2:Int) (w:World) (h:wQ.f a0 a1 a2=some (r1,r2)):
  Calls Try.prog 129 #[.int .u32 a0,.int .u32 a1,.int .u32 a2] w fun e w'=>e= .returned (.tuple #[.int .u32 r1,.int .u32 r2]) /\ bf w w':=by
 have H:(some ((IntKind.u64.wrap ((IntKind.u64.wrap ((IntKind.u64.wrap (a0))+(IntKind.u64.wrap (a1))))+(IntKind.u64.wrap (a2)))) % 4294967296,((IntKind.u64.wrap ((IntKind.u64.wrap ((IntKind.u64.wrap (a0))+(IntKind.u64.wrap (a1))))+(IntKind.u64.wrap (a2)))) / 4294967296) % 4294967296))=some (r1,r2):=h;clear h;simp only [Option.some.injEq,Prod.mk.injEq] at H
 obtain ⟨rfl,rfl⟩:=H
 go_enter Try.func129,Try.ntmps129
 go_wp2
 go_ret2
 exact ⟨by first|rfl|(simp;done)|(simp [*];done),by repeat (first|exact bf.refl _|apply bf.step)⟩
def jw.l0:Nat ->Int ->List Int ->Int ->Int ->Option (Int)
 |0,_,_,_,_=>none
 |k+1,x0,x10,x11,x12=>if x12<x11 then (if 0<=x12 then (if x12<(x10.length:Int) then ((wQ.f x0 ((rd x10 x12) % 4294967296) 0).bind fun AeZ=>(jw.l0 k ((AeZ.1+AeZ.2) % 4294967296) x10 x11 (wrap64 (x12+1)))) else (none)) else (none)) else (some x0)
def jw.f (k:Nat) (a0:Int) (l1:List Int):Option (Int):=(jL.f k l1).bind fun Bz=>(jw.l0 k a0 Bz (Bz.length:Int) 0)
theorem jw.calls (k:Nat) (a0:Int) (A1:Option Addr) (c1:Nat) (l1:List Int) (r:Int) (w:World) (hr1:Kd.C (Kd.int .u8) w A1 l1.length l1) (hc1:l1.length<=c1) (h:jw.f k a0 l1=some r):
  Calls Try.prog 116 #[.int .u32 a0,.slice A1 l1.length c1] w fun e w'=>e= .returned (.int .u32 r) /\ Below w.heap.size w w':=by
 have HR1:=Aside0.mk hr1;have VJ:=Aside0.mk hc1;clear hr1 hc1;have HB:=jy w;have H:((jL.f k l1).bind fun Bz=>(jw.l0 k a0 Bz (Bz.length:Int) 0))=some r:=h;clear h;replace H:=dM H;obtain ⟨Bz,CB,H⟩:=H
 (try dsimp -simprocs only at H)
 have A3:=Aside0.mk CB;clear CB;have H':=Aside0.mk H;clear H
 go_enter Try.func116,Try.ntmps116
 go_wp2_with (first|((with_reducible refine ai (f:=128) rfl ?_);refine gL 10 Try.func128 #[.slice A1 l1.length c1] ?_;(with_reducible refine (jL.calls k _ _ l1 Bz _ ?au ?ax A3.out).mono ?_);(case au=>repeat (first|exact HR1.out|(with_reducible refine Kd.iL ?_ _)|(with_reducible refine Kd.iD ?_ _)|(with_reducible refine Kd.jE ?_)));(case ax=>exact VJ.out);rintro e w4 ⟨v145,rfl,ho0,hb⟩;refine ⟨_,rfl, ?_⟩;have ay:=Aside0.mk (Kd.R_lower ho0 (below_size (bz HB)));have aC:=Aside0.mk (ag (bz HB) hb);clear HB;have Ae0:=ay;have HB:=aC;clear ay aC;(try clear hb);(try clear hb2);(try clear hk);(try clear hi);(try clear ho0);obtain ⟨Ao5,co5,eo5⟩:=Kd.dN Ae0.out;subst eo5))
 go_loopg [0,12] k (fun kq v0 v12 w'=>∃ (wP:Int) (yh:Int),v0= .int .u32 wP /\ v12= .int .i64 yh /\ Aside0 (jw.l0 kq wP Bz (Bz.length:Int) yh=some r) /\ Aside0 (kq<=k) /\ Aside0 (Kd.R (Kd.int .u16) 45 w' w.heap.size (fun _=>True) (.slice Ao5 Bz.length co5) Bz) /\ Aside0 (Below w.heap.size w w'))
 case atStart=>exact ⟨(a0),(0),(by first|rfl|(simp;done)|(simp [*];done)),(by first|rfl|(simp;done)|(simp [*];done)),H',⟨Nat.le_refl _⟩,⟨Kd.rz Ae0⟩,⟨bz HB⟩⟩
 case round=>
  clear H'
  try clear c1
  obtain ⟨wP,yh,rfl,rfl,HA,Ff,Ae1,HB⟩:=hrel
  cases gk with
  |zero=>exact absurd HA.out (by simp [jw.l0])
  |succ k1=>
   have H:=HA.out;clear HA;simp only [jw.l0] at H
   by_cases c6:yh<(Bz.length:Int)
   ·rw [ah c6] at H
    have yY:decide (yh<(Bz.length:Int))=true:=bJ c6;clear c6
    by_cases c7:0<=yh
    ·rw [ah c7] at H
     have Fe:decide (0<=yh)=true:=bJ c7;clear c7
     by_cases c8:yh<(Bz.length:Int)
     ·rw [ah c8] at H
      have uf:decide (yh<(Bz.length:Int))=true:=bJ c8;clear c8;replace H:=dM H;obtain ⟨⟨t148,Al5⟩,A90,H⟩:=H
      (try dsimp -simprocs only at H)
      have A9:=Aside0.mk A90;clear A90;have H':=Aside0.mk H;clear H;have AhP:0<=(yh:Int):=je;have AhQ:yh<(Bz.length:Int):=je;obtain ⟨Aws,Atr,Ap2⟩:=Kd.dU (Kd.R_reads' Ae1.out).2.2 yh AhP AhQ
      cases Atr
      replace AhP:=eq_true AhP;replace AhQ:=eq_true AhQ
      go_wp2_with (first|((with_reducible refine ai (f:=129) rfl ?_);refine gL 20 Try.func129 #[.int .u32 wP,.int .u32 ((rd Bz yh) % 4294967296),.int .u32 0] ?_;(with_reducible refine (wQ.calls wP ((rd Bz yh) % 4294967296) 0 t148 Al5 _ A9.out).mono ?_);rintro e w' ⟨rfl,⟨nd,rfl⟩⟩;refine ⟨_,rfl, ?_⟩))
      go_roundg k1
      case measure=>have:=Ff.out;omega
      case rel=>exact ⟨((t148+Al5) % 4294967296),(wrap64 (yh+1)),(by first|rfl|(simp;done)|(simp [*];done)),(by first|rfl|(simp;done)|(simp [*];done)),H',⟨by have:=Ff.out;omega⟩,⟨Kd.rz Ae1⟩,⟨bz HB⟩⟩
     ·rw [aj c8] at H
      cases H
    ·rw [aj c7] at H
     cases H
   ·rw [aj c6] at H
    have yY:decide (yh<(Bz.length:Int))=false:=jC c6;clear c6;obtain rfl:=eF H
    go_wp2
    go_ret
    exact ⟨by first|rfl|(simp [ae,af]<;>rfl)|(simp [*,ae,af]<;>rfl),bz HB⟩
def uy.f (k:Nat) (l0:List Int):Option (Int):=(jw.f k 0 l0).bind fun Uc=>((fP.f k Uc).bind fun Zw=>(some (Go.bits .xor .u16 IntKind.u16.max Zw)))
theorem uy.calls (k:Nat) (A0:Option Addr) (c0:Nat) (l0:List Int) (r:Int) (w:World) (hr0:Kd.C (Kd.int .u8) w A0 l0.length l0) (hc0:l0.length<=c0) (h:uy.f k l0=some r):
  Calls Try.prog 90 #[.slice A0 l0.length c0] w fun e w'=>e= .returned (.int .u16 r) /\ Below w.heap.size w w':=by
 have OA:IntKind.u16.signed=false:=rfl;have HR0:=Aside0.mk hr0;have mg:=Aside0.mk hc0;clear hr0 hc0;have HB:=jy w;have H:((jw.f k 0 l0).bind fun Uc=>((fP.f k Uc).bind fun Zw=>(some (Go.bits .xor .u16 IntKind.u16.max Zw))))=some r:=h;clear h;replace H:=dM H;obtain ⟨Uc,Aw,H⟩:=H
 (try dsimp -simprocs only at H)
 have A2:=Aside0.mk Aw;clear Aw;replace H:=dM H;obtain ⟨Zw,CB,H⟩:=H
 (try dsimp -simprocs only at H)
 have A3:=Aside0.mk CB;clear CB;obtain rfl:=eF H
 go_enter Try.func90,Try.ntmps90
 go_wp2_with (first|((with_reducible refine ai (f:=116) rfl ?_);refine gL 4 Try.func116 #[.int .u32 0,.slice A0 l0.length c0] ?_;(with_reducible refine (jw.calls k 0 _ _ l0 Uc _ ?au ?ax A2.out).mono ?_);(case au=>repeat (first|exact HR0.out|(with_reducible refine Kd.iL ?_ _)|(with_reducible refine Kd.iD ?_ _)|(with_reducible refine Kd.jE ?_)));(case ax=>exact mg.out);rintro e w4 ⟨rfl,hb⟩;refine ⟨_,rfl, ?_⟩;have ay:=Aside0.mk (ag (bz HB) hb);clear HB;have HB:=ay;clear ay;(try clear hb);(try clear hb2);(try clear hk);(try clear hi))|((with_reducible refine ai (f:=115) rfl ?_);refine gL 5 Try.func115 #[.int .u32 Uc] ?_;(with_reducible refine (fP.calls k Uc Zw _ A3.out).mono ?_);rintro e w' ⟨rfl,⟨nd,rfl⟩⟩;refine ⟨_,rfl, ?_⟩))
 go_ret
 exact ⟨by first|rfl|(simp [ae,af]<;>rfl)|(simp [*,ae,af]<;>rfl),bz HB⟩
attribute [local go_sem] dV dW gI gJ dG dH dX dY
def fB.f (a0:Bool) (a1:Int):Option (Unit):=if a0=true then (some ()) else (none)
theorem fB.calls (a0:Bool) (a1:Int) (w:World) (h:fB.f a0 a1=some ()):
    Calls Try.prog 117 #[.bool a0,.int .i64 a1] w fun e w'=>e= .returned (.tuple #[]) /\ bf w w':=by
  have Awt:=Try.underlying163;have H:(if a0=true then (some ()) else (none))=some ():=h;clear h
  by_cases c3:a0=true
  · subst c3
    have H1:(some ())=some ():=rfl;clear H;have H:=H1;clear H1
    go_enter Try.func117,Try.ntmps117
    go_wp2
    first|go_end0|((try simp only [Exit.inBlock,Exit.then]);refine bodyPost_ret (results_none rfl _ _ _) rfl ?_)
    exact ⟨by first|rfl|(simp;done)|(simp [*];done),by repeat (first|exact bf.refl _|apply bf.step)⟩
  · replace c3:=FT c3
    subst c3;have H1:(none)=some ():=by rw [aj (show ¬ (false=true) by decide)] at H;exact H
    clear H;have H:=H1;clear H1;cases H
def dQ.f (l0:List Int) (a1:Int):Option (Int):=if 0<=a1 then (if a1<(l0.length:Int) then (if 0<=(wrap64 (a1+1)) then (if (wrap64 (a1+1))<(l0.length:Int) then (some (Go.bits .or .u16 (IntKind.u16.wrap ((IntKind.u16.wrap (rd l0 a1))*256)) (IntKind.u16.wrap (rd l0 (wrap64 (a1+1)))))) else (none)) else (none)) else (none)) else (none)
theorem dQ.calls (A0:Option Addr) (c0:Nat) (l0:List Int) (a1:Int) (r:Int) (w:World) (hr0:Kd.C (Kd.int .u8) w A0 l0.length l0) (hc0:l0.length<=c0) (h:dQ.f l0 a1=some r):
    Calls Try.prog 118 #[.slice A0 l0.length c0,.int .i64 a1] w fun e w'=>e= .returned (.int .u16 r) /\ bf w w':=by
  have HR0:=Aside0.mk hr0;have mg:=Aside0.mk hc0;clear hr0 hc0;have H:(if 0<=a1 then (if a1<(l0.length:Int) then (if 0<=(wrap64 (a1+1)) then (if (wrap64 (a1+1))<(l0.length:Int) then (some (Go.bits .or .u16 (IntKind.u16.wrap ((IntKind.u16.wrap (rd l0 a1))*256)) (IntKind.u16.wrap (rd l0 (wrap64 (a1+1)))))) else (none)) else (none)) else (none)) else (none))=some r:=h;clear h
  by_cases c3:0<=a1
  · rw [ah c3] at H
    have tY:decide (0<=a1)=true:=bJ c3;clear c3
    by_cases c4:a1<(l0.length:Int)
    · rw [ah c4] at H
      have qE:decide (a1<(l0.length:Int))=true:=bJ c4;clear c4;obtain ⟨CZ,Gf⟩:∃ j_:Int,(wrap64 (a1+1))=j_:=⟨_,rfl⟩
      replace H:(if 0<=(CZ) then (if (CZ)<(l0.length:Int) then (some (Go.bits .or .u16 (IntKind.u16.wrap ((IntKind.u16.wrap (rd l0 a1))*256)) (IntKind.u16.wrap (rd l0 (CZ))))) else (none)) else (none))=some r:=by first|(rw [Gf] at H;exact H)|(simp only [Gf] at H|-;exact H)
      have Ae3:(IntKind.i64.wrap (a1+1))=CZ:=(i64_w _).trans Gf
      by_cases c6:0<=(CZ)
      · rw [ah c6] at H
        have yY:decide (0<=(CZ))=true:=bJ c6;clear c6
        by_cases c7:(CZ)<(l0.length:Int)
        · rw [ah c7] at H
          have Fe:decide ((CZ)<(l0.length:Int))=true:=bJ c7;clear c7;obtain rfl:=eF H;have AhR:0<=(a1:Int):=je;have AhS:a1<(l0.length:Int):=je;obtain ⟨Al6,e199,Ap3⟩:=Kd.dU HR0.out a1 AhR AhS
          cases e199
          replace AhR:=eq_true AhR;replace AhS:=eq_true AhS;have AhT:0<=((CZ):Int):=je;have AhU:(CZ)<(l0.length:Int):=je;obtain ⟨Al7,Ats,Ap4⟩:=Kd.dU HR0.out (CZ) AhT AhU;obtain rfl:Al6=Al7:=(by injection Ats)
          replace AhT:=eq_true AhT;replace AhU:=eq_true AhU
          go_enter Try.func118,Try.ntmps118
          go_wp2
          repeat (go_quiet (fail);try go_wp2)
          go_ret
          exact ⟨by first|rfl|(simp;done)|(simp only [<- Gf]<;>(first|rfl|simp))|(simp [*];done),by repeat (first|exact bf.refl _|apply bf.step)⟩
        · rw [aj c7] at H
          cases H
      · rw [aj c6] at H
        cases H
    · rw [aj c4] at H
      cases H
  · rw [aj c3] at H
    cases H
def lD.f (l0:List Int) (a1:Int):Option (Int):=(dQ.f l0 a1).bind fun t201=>((dQ.f l0 (wrap64 (a1+2))).bind fun QG=>(some (Go.bits .or .u32 ((((t201) % 4294967296)*65536) % 4294967296) ((QG) % 4294967296))))
theorem lD.calls (A0:Option Addr) (c0:Nat) (l0:List Int) (a1:Int) (r:Int) (w:World) (hr0:Kd.C (Kd.int .u8) w A0 l0.length l0) (hc0:l0.length<=c0) (h:lD.f l0 a1=some r):
    Calls Try.prog 119 #[.slice A0 l0.length c0,.int .i64 a1] w fun e w'=>e= .returned (.int .u32 r) /\ bf w w':=by
  have HR0:=Aside0.mk hr0;have mg:=Aside0.mk hc0;clear hr0 hc0;have H:((dQ.f l0 a1).bind fun t201=>((dQ.f l0 (wrap64 (a1+2))).bind fun QG=>(some (Go.bits .or .u32 ((((t201) % 4294967296)*65536) % 4294967296) ((QG) % 4294967296)))))=some r:=h;clear h;replace H:=dM H;obtain ⟨t201,CB,H⟩:=H;replace H:((dQ.f l0 (wrap64 (a1+2))).bind fun QG=>(some (Go.bits .or .u32 ((((t201) % 4294967296)*65536) % 4294967296) ((QG) % 4294967296))))=some r:=H;have A3:=Aside0.mk CB;clear CB;replace H:=dM H;obtain ⟨QG,yz,H⟩:=H;replace H:(some (Go.bits .or .u32 ((((t201) % 4294967296)*65536) % 4294967296) ((QG) % 4294967296)))=some r:=H;have A4:=Aside0.mk yz;clear yz;obtain rfl:=eF H
  go_enter Try.func119,Try.ntmps119
  go_wp2_with (first|((with_reducible refine ai (f:=118) rfl ?_);refine gL 7 Try.func118 #[.slice A0 l0.length c0,.int .i64 a1] ?_;(with_reducible refine (dQ.calls _ _ l0 a1 t201 _ ?au ?ax A3.out).mono ?_);(case au=>repeat (first|exact HR0.out|(with_reducible refine Kd.iL ?_ _)|(with_reducible refine Kd.iD ?_ _)|(with_reducible refine Kd.jE ?_)));(case ax=>exact mg.out);rintro e w' ⟨rfl,⟨nd,rfl⟩⟩;refine ⟨_,rfl, ?_⟩)|((with_reducible refine ai (f:=118) rfl ?_);refine gL 13 Try.func118 #[.slice A0 l0.length c0,.int .i64 (wrap64 (a1+2))] ?_;(with_reducible refine (dQ.calls _ _ l0 (wrap64 (a1+2)) QG _ ?au ?ax A4.out).mono ?_);(case au=>repeat (first|exact HR0.out|(with_reducible refine Kd.iL ?_ _)|(with_reducible refine Kd.iD ?_ _)|(with_reducible refine Kd.jE ?_)));(case ax=>exact mg.out);rintro e w' ⟨rfl,⟨nd,rfl⟩⟩;refine ⟨_,rfl, ?_⟩))
  go_ret
  exact ⟨by first|rfl|(simp;done)|(simp [*];done),by repeat (first|exact bf.refl _|apply bf.step)⟩
def jY.f (l0:List Int):Option (List Int):=if l0.length<140737488355328 then some l0 else none
theorem jY.calls (A0:Option Addr) (c0:Nat) (l0:List Int) (r:List Int) (w:World) (hr0:Kd.C (Kd.int .u8) w A0 l0.length l0) (hc0:l0.length<=c0) (h:jY.f l0=some r):
    Calls Try.prog 120 #[.slice A0 l0.length c0] w fun e w'=>∃ uP:Value,e= .returned (uP) /\ Kd.R (Kd.int .u8) 5 w' w.heap.size (fun _=>True) uP r /\ Below w.heap.size w w':=by
  unfold jY.f at h
  by_cases c7:l0.length<140737488355328
  · rw [ah c7] at h
    obtain rfl:=eF h;clear h;have Ov:=Aside0.mk c7;clear c7;have HR0:=Aside0.mk hr0;have mg:=Aside0.mk hc0;clear hr0 hc0;have HB:=jy w
    cases A0 with
    |none=>
      have e:=Ik HR0.out;subst e;have hq:=fun (W:World) (n c:Nat)=>Go.Lib.run_eql_slice_nil (P:=Try.prog) W 165 5 none n c 0 0 Try.underlying165
      go_enter Try.func120,Try.ntmps120
      go_wp2
      go_ret
      exact ⟨_,rfl,Kd.bV _ _ _ _ _,Below.refl _ _⟩
    |some ad=>
      have hq:=fun (W:World) (n c:Nat)=>Go.Lib.run_eql_slice_nil (P:=Try.prog) W 165 5 (some ad) n c 0 0 Try.underlying165
      go_enter Try.func120,Try.ntmps120
      have HO1:Aside0 (Kd.R (Kd.int .u8) 5 (w.alloc (.cells #[] 5)) w.heap.size (fun _=>True) (.slice (some ⟨w.heap.size,0,none⟩) 0 0) ([]:List Int)):=⟨FY w .u8 5⟩
      have HB1:Aside0 (Below w.heap.size w (w.alloc (.cells #[] 5))):=⟨fA HB.out _⟩
      go_wp2_with (first
       |((with_reducible refine iF (b:= .append) (xs:= #[.tmp 5,.tmp 6]) rfl ?_);at_builtin;refine Kd.jv (Kd.int .u8) (w0:=w) w.heap.size rfl (.tmp 5) (.tmp 6) 165 5 (.int .u8 0) 1 rfl Try.underlying165 info5 rfl (by decide) (by omega) (.slice (some ⟨w.heap.size,0,none⟩) 0 0) ([]:List Int) l0 _ _ _ (fun _=>True) (fun _=>False) rfl rfl ?aO ?aR (fun _ _ h=>h) (fun _ h=>h.elim) ?aF ?aB ?aS ?aL ?_;(case aR=>exact Kd.aJ HR0.out HB1.out);(case aB=>exact HB1.out);(case aF=>exact (fun _ _=>trivial));(case aO=>exact HO1.out);(case aS=>exact (below_size HB1.out));(case aL=>have:=Ov.out;simp;omega);intro v2 w2 ho hb hg hat;clear hg hat;have HB2:=Aside0.mk hb;have HO2:=Aside0.mk ho;clear hb ho))
      go_ret
      exact ⟨_,rfl,by simpa using HO2.out,HB2.out⟩
  · rw [aj c7] at h
    cases h
attribute [local go_sem] dV dW gI gJ dG dH dX dY
def aQ.j0:Nat ->List Int ->Int ->Int ->Option (Int×Int×Int×Int×Int×Int×Int×Int×List Int×List Int)
 |0,_,_,_=>none
 |k+1,x0,x3,x4=>(fB.f (decide ((x0.length:Int)>=x4)) 20).bind fun _=>(if 0<=x3 then (if x3<=(x0.length:Int) then ((jw.f k 0 (x0.take (x3:Int).toNat)).bind fun t208=>((fP.f k t208).bind fun Ud=>((fB.f (Ud==65535) 22).bind fun _=>((dQ.f x0 6).bind fun t210=>(if 1<(x0.length:Int) then ((dQ.f x0 4).bind fun t212=>(if 8<(x0.length:Int) then (if 9<(x0.length:Int) then ((lD.f x0 12).bind fun J4=>((lD.f x0 16).bind fun MQ=>(if 20<=x3 then ((jY.f ((x0.take (x3:Int).toNat).drop 20)).bind fun t218=>(if x3<=x4 then (if x4<=(x0.length:Int) then ((jY.f ((x0.take (x4:Int).toNat).drop (x3:Int).toNat)).bind fun t222=>(some (rd x0 1,rd x0 8,rd x0 9,t212,(t210 / 8192) % 256,Go.bits .and .u16 t210 8191,J4,MQ,t218,t222))) else (none)) else (none))) else (none)))) else (none)) else (none))) else (none)))))) else (none)) else (none))
def aQ.f (k:Nat) (l0:List Int):Option (Int×Int×Int×Int×Int×Int×Int×Int×List Int×List Int):=(fB.f (decide ((l0.length:Int)>=20)) 20).bind fun _=>(if 0<(l0.length:Int) then ((dQ.f l0 2).bind fun vV=>(if ((rd l0 0) / 16)=4 then (if (wrap64 (4*(wrap64 (Go.bits .and .u8 (rd l0 0) 15))))>=20 then ((fB.f (decide ((wrap64 (vV))>=(wrap64 (4*(wrap64 (Go.bits .and .u8 (rd l0 0) 15)))))) 21).bind fun _=>(aQ.j0 k l0 (wrap64 (4*(wrap64 (Go.bits .and .u8 (rd l0 0) 15)))) (wrap64 (vV)))) else ((fB.f false 21).bind fun _=>(aQ.j0 k l0 (wrap64 (4*(wrap64 (Go.bits .and .u8 (rd l0 0) 15)))) (wrap64 (vV))))) else ((fB.f false 21).bind fun _=>(aQ.j0 k l0 (wrap64 (4*(wrap64 (Go.bits .and .u8 (rd l0 0) 15)))) (wrap64 (vV)))))) else (none))
def aQ.T2:Bool×List (List Nat×List Nat):=(true,[([],[]),([0],[0]),([1],[1]),([2],[2]),([3],[3]),([4],[4]),([],[]),([6],[6]),([7],[7]),([5,7,0,1,2,3,4,5],[5]),([8,9,0,1,2,3,4,5,6,7,8,9],[8])])
def aQ.B2:List Nat:=[0,1,3,7,15,31,0,64,192,255,1023]
theorem aQ.AcM:rtab .any (opsOf Try.f95 2)=aQ.T2:=by kernel_rfl
theorem aQ.VK:waitsOk aQ.T2.2 aQ.B2=true:=by kernel_rfl
def aQ.T7:Bool×List (List Nat×List Nat):=(true,[([],[]),([0],[0]),([1],[1]),([],[]),([3],[3]),([],[]),([5],[5]),([6],[6]),([],[]),([8],[8]),([],[]),([10],[10]),([11],[11]),([],[]),([13],[13]),([14],[14]),([],[]),([16,4],[16]),([],[]),([18,17],[18]),([],[]),([],[]),([20,21],[20,21]),([22,19],[22]),([],[]),([],[]),([],[]),([24,25,26],[24,25,26]),([27,23],[27]),([2,4,7,9,12,15,17,19,23,28],[2,4,7,9,12,15,17,19,23,28]),([29,28,0,1,2,3,4,5,6,7,8,9,10,11,12,13,14,15,16,17,18,19,20,21,22,23,24,25,26,27,28,29],[29])])
def aQ.B7:List Nat:=[0,1,3,0,8,0,32,96,0,256,0,1024,3072,0,8192,24576,0,65560,0,458776,0,0,3145728,8323096,0,0,0,117440512,268369944,536870911,1073741823]
theorem aQ.Zx:rtab .any (opsOf Try.f95 7)=aQ.T7:=by kernel_rfl
theorem aQ.QH:waitsOk aQ.T7.2 aQ.B7=true:=by kernel_rfl
theorem aQ.calls (k:Nat) (A0:Option Addr) (c0:Nat) (l0:List Int) (r1:Int) (r2:Int) (r3:Int) (r4:Int) (r5:Int) (r6:Int) (r7:Int) (r8:Int) (r9:List Int) (r10:List Int) (w:World) (hr0:Kd.C (Kd.int .u8) w A0 l0.length l0) (hc0:l0.length<=c0) (h:aQ.f k l0=some (r1,r2,r3,r4,r5,r6,r7,r8,r9,r10)):
  Calls Try.prog 95 #[.slice A0 l0.length c0] w fun e w'=>∃ Jf Jg:Value,e= .returned (.agg #[.int .u8 r1,.int .u8 r2,.int .u8 r3,.int .u16 r4,.int .u8 r5,.int .u16 r6,.int .u32 r7,.int .u32 r8,Jf,Jg]) /\ Kd.R (Kd.int .u8) 5 w' w.heap.size (fun k_=>some k_≠(Jg:Value).ownBlock) Jf r9 /\ Kd.R (Kd.int .u8) 5 w' w.heap.size (fun k_=>some k_≠(Jf:Value).ownBlock) Jg r10 /\ Below w.heap.size w w':=by
 have hu73:=Try.underlying73;have HR0:=Aside0.mk hr0;have mg:=Aside0.mk hc0;clear hr0 hc0;have HB:=jy w
 have H:((fB.f (decide ((l0.length:Int)>=20)) 20).bind fun _=>(if 0<(l0.length:Int) then ((dQ.f l0 2).bind fun vV=>(if ((rd l0 0) / 16)=4 then (if (wrap64 (4*(wrap64 (Go.bits .and .u8 (rd l0 0) 15))))>=20 then ((fB.f (decide ((wrap64 (vV))>=(wrap64 (4*(wrap64 (Go.bits .and .u8 (rd l0 0) 15)))))) 21).bind fun _=>(aQ.j0 k l0 (wrap64 (4*(wrap64 (Go.bits .and .u8 (rd l0 0) 15)))) (wrap64 (vV)))) else ((fB.f false 21).bind fun _=>(aQ.j0 k l0 (wrap64 (4*(wrap64 (Go.bits .and .u8 (rd l0 0) 15)))) (wrap64 (vV))))) else ((fB.f false 21).bind fun _=>(aQ.j0 k l0 (wrap64 (4*(wrap64 (Go.bits .and .u8 (rd l0 0) 15)))) (wrap64 (vV)))))) else (none)))=some (r1,r2,r3,r4,r5,r6,r7,r8,r9,r10):=h;clear h;replace H:=dM H;obtain ⟨_,Aw,H⟩:=H
 (try dsimp -simprocs only at H)
 have A2:=Aside0.mk Aw;clear Aw
 by_cases c3:0<(l0.length:Int)
 ·rw [ah c3] at H
  have tY:decide (0<(l0.length:Int))=true:=bJ c3;have vI:decide (0<l0.length)=true:=bJ (by omega);clear c3;replace H:=dM H;obtain ⟨vV,yz,H⟩:=H
  (try dsimp -simprocs only at H)
  have A4:=Aside0.mk yz;clear yz;have HC5:=Aside0.mk H;clear H
  go_enter Try.func95,Try.ntmps95
  try go_wp2_with (first|((with_reducible refine gate_dst (N:=2) rfl ?_);refine box_event ?hg (N:=2) ?hd (cs:= #[.int .u8 0,.int .u8 0,.int .u8 0,.int .u16 0,.int .u8 0,.int .u16 0,.int .u32 0,.int .u32 0,.slice none 0 0,.slice none 0 0]) (t:=73) ?hr ?_;(case hd=>rfl);(case hg=>rfl);(case hr=>first|(go_simp;done)|(go_simp;rfl));intro gU hg w6 hbox hb;have ay:=Aside0.mk (ag (bz HB) hb);have aC:=Aside0.mk (hbox);have bg:=Aside0.mk ((by rw [hg];exact (below_size (bz HB)):w.heap.size<=gU));have dm:=Aside0.mk ((by rw [hg];exact (below_size (bz HB)):w.heap.size<=gU));clear HB;have HB:=ay;have gW:=aC;have iU:=bg;have VL:=dm;clear ay aC bg dm;clear hb hbox hg)|((with_reducible refine ai (f:=117) rfl ?_);refine gL 9 Try.func117 #[.bool (decide ((l0.length:Int)>=20)),.int .i64 20] ?_;(with_reducible refine (fB.calls (decide ((l0.length:Int)>=20)) 20 _ A2.out).mono ?_);rintro e w' ⟨rfl,⟨nd,rfl⟩⟩;refine ⟨_,rfl, ?_⟩))
  (try (rw [iC w6];generalize nO:World.drewN w6 _=w6;have ay:Aside0 (w6.heap[gU]?=some (.cells #[.int .u8 0,.int .u8 0,.int .u8 0,.int .u16 0,.int .u8 0,.int .u16 0,.int .u32 0,.int .u32 0,.slice none 0 0,.slice none 0 0] 73 (0,0))):=⟨by rw [<- nO];exact (kz gW)⟩;have aC:Aside0 (Below w.heap.size w w6):=⟨by rw [<- nO];exact bz HB⟩;clear gW HB nO;have gW:=ay;have HB:=aC;clear ay aC))
  have ay:=Aside0.mk (az gW.out);have aC:=Aside0.mk (below_drew1 HB.out);clear gW;clear HB;have gW:=ay;have HB:=aC;clear ay aC;have Ej:0<=(0:Int):=(by omega)
  have Em:0<(l0.length:Int):=je;obtain ⟨lI,e204,jD⟩:=Kd.dU HR0.out 0 Ej Em;have jG:=jD
  (try rw [show ((0:Int)).toNat=0 from rfl] at jG)
  (try rw [show 0*1=0 from rfl] at jG)
  (try rw [Addr.add_zero'] at jG)
  cases e204
  have Zy:(0<l0.length)=True:=eq_true (by omega)
  (try rw [show ((0:Int)).toNat=0 from rfl] at jD)
  (try rw [Addr.add_zero'] at jD)
  replace jD:=(HB.out.cell (dS w _ jD)).trans jD;replace Ej:=eq_true Ej;replace Em:=eq_true Em;refine start_ (n:=11) (S:=fun w'=>w'.cell? lI=some (.int .u8 (rd l0 0))) (ds:=[]) #[false,false,false,false,false,false,false,false,false,false,false] (by kernel_rfl) rfl rfl (((HB.out.cell (dS w _ jG)).trans jG)) (fun hHeld=> ?_);refine with_tabW aQ.AcM aQ.VK (fun HT_ HW_=> ?_);generalize w6.drew=w7 at gW HB jD hHeld|-
  refine pz 0 10 HT_ ?_;refine pz 1 11 HT_ ?_;refine pz 6 16 HT_ ?_;refine tz 2 12 HT_ HW_ hHeld ?_;refine pz 3 13 HT_ ?_;refine pz 4 14 HT_ ?_;refine pz 5 15 HT_ ?_;refine oz 7 (some 17) HT_ (fun K hK=> ?_);refine gG Try.func118 #[.slice (some lI) l0.length c0,.int .i64 2] ?_
  with_reducible refine (dQ.calls _ _ l0 2 vV _ ?au ?ax A4.out).mono ?_
  (case au=>exact Kd.aJ HR0.out (bz HB))
  (case ax=>exact mg.out)
  rintro e w' ⟨rfl,⟨nd,rfl⟩⟩;refine ⟨_,rfl, ?_⟩;refine hK.out _ _ (((HB.out.cell (dS w _ jG)).trans jG)) (fun hHeld=> ?_);clear hK K;refine nz 17 ?_;refine pz 8 18 HT_ ?_;refine pz 9 3 HT_ ?_;refine pz 10 4 HT_ ?_;refine dz HT_ ?_
  go_upto_region 3 with (fail)
  go_cut [] (fun wc=>∃ (kq:Nat),Aside0 (aQ.j0 kq l0 (wrap64 (4*(wrap64 (Go.bits .and .u8 (rd l0 0) 15)))) (wrap64 (vV))=some (r1,r2,r3,r4,r5,r6,r7,r8,r9,r10)) /\ Aside0 (kq<=k) /\ Aside0 (wc.heap[gU]?=some (.cells #[.int .u8 0,.int .u8 0,.int .u8 0,.int .u16 0,.int .u8 0,.int .u16 0,.int .u32 0,.int .u32 0,(.slice none 0 0),(.slice none 0 0)] 73 (0,0))) /\ Aside0 (Below w.heap.size w wc))
  case first=>
   have H:=HC5.out;clear HC5
   by_cases c8:((rd l0 0) / 16)=4
   ·rw [ah c8] at H
    have uf:(((rd l0 0) / 16)==4)=true:=jf c8;have JW:(((rd l0 0) / 16) !=4)=false:=oM c8;clear c8
    (first|rw [uf]|(simp only [i64_w,i32_w];rw [uf])|skip)
    by_cases c9:(wrap64 (4*(wrap64 (Go.bits .and .u8 (rd l0 0) 15))))>=20
    ·rw [ah c9] at H
     have CW:decide (20<=(wrap64 (4*(wrap64 (Go.bits .and .u8 (rd l0 0) 15)))))=true:=bJ c9;clear c9;replace H:=dM H;obtain ⟨_,Gg,H⟩:=H
     (try dsimp -simprocs only at H)
     have Ue:=Aside0.mk Gg;clear Gg;have H':=Aside0.mk H;clear H;have uN:0<=(0:Int):=(by omega)
     have uO:0<(l0.length:Int):=je;obtain ⟨yO,e206,gK⟩:=Kd.dU HR0.out 0 uN uO;obtain rfl:lI=yO:=(by injection e206)
     have J5:(0<l0.length)=True:=eq_true (by omega)
     (try rw [show ((0:Int)).toNat=0 from rfl] at gK)
     (try rw [Addr.add_zero'] at gK)
     replace gK:=(HB.out.cell (dS w _ gK)).trans gK;replace uN:=eq_true uN;replace uO:=eq_true uO
     go_wp2_with (first|((with_reducible refine ai (f:=117) rfl ?_);refine gL 33 Try.func117 #[.bool (decide ((wrap64 (vV))>=(wrap64 (4*(wrap64 (Go.bits .and .u8 (rd l0 0) 15)))))),.int .i64 21] ?_;(with_reducible refine (fB.calls (decide ((wrap64 (vV))>=(wrap64 (4*(wrap64 (Go.bits .and .u8 (rd l0 0) 15)))))) 21 _ Ue.out).mono ?_);rintro e w' ⟨rfl,⟨nd,rfl⟩⟩;refine ⟨_,rfl, ?_⟩))
     go_meet
     case rel=>exact ⟨_,H',⟨by first|omega|exact Nat.le_refl _⟩,⟨kz gW⟩,⟨bz HB⟩⟩
    ·rw [aj c9] at H
     have CW:decide (20<=(wrap64 (4*(wrap64 (Go.bits .and .u8 (rd l0 0) 15)))))=false:=jC c9;clear c9;replace H:=dM H;obtain ⟨_,QI,H⟩:=H
     (try dsimp -simprocs only at H)
     have A11:=Aside0.mk QI;clear QI;have H':=Aside0.mk H;clear H;have uN:0<=(0:Int):=(by omega)
     have uO:0<(l0.length:Int):=je;obtain ⟨yO,e206,gK⟩:=Kd.dU HR0.out 0 uN uO;obtain rfl:lI=yO:=(by injection e206)
     have J5:(0<l0.length)=True:=eq_true (by omega)
     (try rw [show ((0:Int)).toNat=0 from rfl] at gK)
     (try rw [Addr.add_zero'] at gK)
     replace gK:=(HB.out.cell (dS w _ gK)).trans gK;replace uN:=eq_true uN;replace uO:=eq_true uO
     go_wp2_with (first|((with_reducible refine ai (f:=117) rfl ?_);refine gL 33 Try.func117 #[.bool false,.int .i64 21] ?_;(with_reducible refine (fB.calls false 21 _ A11.out).mono ?_);rintro e w' ⟨rfl,⟨nd,rfl⟩⟩;refine ⟨_,rfl, ?_⟩))
     go_meet
     case rel=>exact ⟨_,H',⟨by first|omega|exact Nat.le_refl _⟩,⟨kz gW⟩,⟨bz HB⟩⟩
   ·rw [aj c8] at H
    have uf:(((rd l0 0) / 16)==4)=false:=iM c8;have JW:(((rd l0 0) / 16) !=4)=true:=pq c8
    (first|rw [uf]|(simp only [i64_w,i32_w];rw [uf])|skip)
    replace H:=dM H;obtain ⟨_,Gh,H⟩:=H
    (try dsimp -simprocs only at H)
    have A12:=Aside0.mk Gh;clear Gh;have H':=Aside0.mk H;clear H;have uN:0<=(0:Int):=(by omega)
    have uO:0<(l0.length:Int):=je;obtain ⟨yO,e206,gK⟩:=Kd.dU HR0.out 0 uN uO;obtain rfl:lI=yO:=(by injection e206)
    have J5:(0<l0.length)=True:=eq_true (by omega)
    (try rw [show ((0:Int)).toNat=0 from rfl] at gK)
    (try rw [Addr.add_zero'] at gK)
    replace gK:=(HB.out.cell (dS w _ gK)).trans gK;replace uN:=eq_true uN;replace uO:=eq_true uO
    go_wp2_with (first|((with_reducible refine ai (f:=117) rfl ?_);refine gL 33 Try.func117 #[.bool false,.int .i64 21] ?_;(with_reducible refine (fB.calls false 21 _ A12.out).mono ?_);rintro e w' ⟨rfl,⟨nd,rfl⟩⟩;refine ⟨_,rfl, ?_⟩))
    go_meet
    case rel=>exact ⟨_,H',⟨by first|omega|exact Nat.le_refl _⟩,⟨kz gW⟩,⟨bz HB⟩⟩
  case rest=>
   clear HC5
   try clear c3
   try clear tY
   try clear vI
   try clear jD
   try clear Ej
   try clear Em
   obtain ⟨kq,HA,HJ4,gW,HB⟩:=hcut
   cases kq with
   |zero=>exact absurd HA.out (by simp [aQ.j0])
   |succ kj4=>
    have H:=HA.out;clear HA;simp only [aQ.j0] at H
    replace H:=dM H;obtain ⟨_,J6,H⟩:=H
    (try dsimp -simprocs only at H)
    have YB:=Aside0.mk J6;clear J6;obtain ⟨qg,Cf⟩:∃ j_:Int,(wrap64 (4*(wrap64 (Go.bits .and .u8 (rd l0 0) 15))))=j_:=⟨_,rfl⟩
    replace H:(if 0<=(qg) then (if (qg)<=(l0.length:Int) then ((jw.f kj4 0 (l0.take ((qg):Int).toNat)).bind fun t208=>((fP.f kj4 t208).bind fun Ud=>((fB.f (Ud==65535) 22).bind fun _=>((dQ.f l0 6).bind fun t210=>(if 1<(l0.length:Int) then ((dQ.f l0 4).bind fun t212=>(if 8<(l0.length:Int) then (if 9<(l0.length:Int) then ((lD.f l0 12).bind fun J4=>((lD.f l0 16).bind fun MQ=>(if 20<=(qg) then ((jY.f ((l0.take ((qg):Int).toNat).drop 20)).bind fun t218=>(if (qg)<=(wrap64 (vV)) then (if (wrap64 (vV))<=(l0.length:Int) then ((jY.f ((l0.take ((wrap64 (vV)):Int).toNat).drop ((qg):Int).toNat)).bind fun t222=>(some (rd l0 1,rd l0 8,rd l0 9,t212,(t210 / 8192) % 256,Go.bits .and .u16 t210 8191,J4,MQ,t218,t222))) else (none)) else (none))) else (none)))) else (none)) else (none))) else (none)))))) else (none)) else (none))=some (r1,r2,r3,r4,r5,r6,r7,r8,r9,r10):=by first|(rw [Cf] at H;exact H)|(simp only [Cf] at H|-;exact H)
    (try rw [Cf] at YB)
    have AhV:(IntKind.i64.wrap (4*(wrap64 (Go.bits .and .u8 (rd l0 0) 15))))=qg:=(i64_w _).trans Cf
    by_cases c15:0<=(qg)
    ·rw [ah c15] at H
     have CS:=eq_true c15;have Nq:decide (0<=(qg))=true:=bJ c15;clear c15
     by_cases c16:(qg)<=(l0.length:Int)
     ·rw [ah c16] at H
      have Zz:=eq_true c16;have VM:decide ((qg)<=(l0.length:Int))=true:=bJ c16;clear c16;replace H:=dM H;obtain ⟨t208,QJ,H⟩:=H
      (try dsimp -simprocs only at H)
      have YD:=Aside0.mk QJ;clear QJ;replace H:=dM H;obtain ⟨Ud,CV,H⟩:=H
      (try dsimp -simprocs only at H)
      have Xo:=Aside0.mk CV;clear CV;replace H:=dM H;obtain ⟨_,J7,H⟩:=H
      (try dsimp -simprocs only at H)
      have A19:=Aside0.mk J7;clear J7;replace H:=dM H;obtain ⟨t210,JU,H⟩:=H
      (try dsimp -simprocs only at H)
      have Aw:=Aside0.mk JU;clear JU
      by_cases c21:1<(l0.length:Int)
      ·rw [ah c21] at H
       have Alv:decide (1<(l0.length:Int))=true:=bJ c21;have Alw:decide (1<l0.length)=true:=bJ (by omega);clear c21;replace H:=dM H;obtain ⟨t212,ZA,H⟩:=H
       (try dsimp -simprocs only at H)
       have A22:=Aside0.mk ZA;clear ZA
       by_cases c23:8<(l0.length:Int)
       ·rw [ah c23] at H
        have ZB:decide (8<(l0.length:Int))=true:=bJ c23;have Ae4:decide (8<l0.length)=true:=bJ (by omega);clear c23
        by_cases c24:9<(l0.length:Int)
        ·rw [ah c24] at H
         have Ae5:decide (9<(l0.length:Int))=true:=bJ c24;have Al9:decide (9<l0.length)=true:=bJ (by omega);clear c24;replace H:=dM H;obtain ⟨J4,Ama,H⟩:=H
         (try dsimp -simprocs only at H)
         have A25:=Aside0.mk Ama;clear Ama;replace H:=dM H;obtain ⟨MQ,QK,H⟩:=H
         (try dsimp -simprocs only at H)
         have A26:=Aside0.mk QK;clear QK
         by_cases c27:20<=(qg)
         ·rw [ah c27] at H
          have Amd:=eq_true c27;have Ame:decide (20<=(qg))=true:=bJ c27;clear c27;have Amf:=eq_true (je:(qg)<=(l0.length:Int));replace H:=dM H;obtain ⟨t218,ZC,H⟩:=H
          (try dsimp -simprocs only at H)
          have A29:=Aside0.mk ZC;clear ZC;have Awu:=eq_true (je:0<=(qg))
          by_cases c31:(qg)<=(wrap64 (vV))
          ·rw [ah c31] at H
           have Amg:=eq_true c31;have Amh:decide ((qg)<=(wrap64 (vV)))=true:=bJ c31;clear c31
           by_cases c32:(wrap64 (vV))<=(l0.length:Int)
           ·rw [ah c32] at H
            have Ami:=eq_true c32;have Amj:decide ((wrap64 (vV))<=(l0.length:Int))=true:=bJ c32;clear c32;replace H:=dM H;obtain ⟨t222,Amk,H⟩:=H
            (try dsimp -simprocs only at H)
            have A33:=Aside0.mk Amk;clear Amk;simp only [Option.some.injEq,Prod.mk.injEq] at H
            obtain ⟨rfl,rfl,rfl,rfl,rfl,rfl,rfl,rfl,rfl,rfl⟩:=H
            try go_wp2_with (first|((with_reducible refine ai (f:=117) rfl ?_);refine gL 38 Try.func117 #[.bool (decide ((l0.length:Int)>=(wrap64 (vV)))),.int .i64 20] ?_;(with_reducible refine (fB.calls (decide ((l0.length:Int)>=(wrap64 (vV)))) 20 _ YB.out).mono ?_);rintro e w' ⟨rfl,⟨nd,rfl⟩⟩;refine ⟨_,rfl, ?_⟩;(try (rw [iC wc];generalize nO:World.drewN wc _=wc;have ay:Aside0 (wc.heap[gU]?=some (.cells #[.int .u8 0,.int .u8 0,.int .u8 0,.int .u16 0,.int .u8 0,.int .u16 0,.int .u32 0,.int .u32 0,.slice none 0 0,.slice none 0 0] 73 (0,0))):=⟨by rw [<- nO];exact (kz gW)⟩;have aC:Aside0 (Below w.heap.size w wc):=⟨by rw [<- nO];exact bz HB⟩;clear gW HB nO;have gW:=ay;have HB:=aC;clear ay aC));obtain ⟨Atu,QL,_,QM,_⟩:=info_parts info5;obtain ⟨AhX,ZE,ZF⟩:=uA (P:=Try.prog) (Value.int .u8) 0 165 5 .i64 Try.underlying165 QL QM (some lI) c0 l0 (qg) je je mg.out;have ZG:=Aside0.mk (Kd.dR (h1:=fun _=>rfl) (ZE _ (Kd.dO HR0.out)));have ZH:=Aside0.mk ZF;clear ZE ZF QL QM)|((with_reducible refine ai (f:=116) rfl ?_);refine zQ (some 42) rfl rfl Try.func116 (by kernel_rfl) rfl #[.int .u32 0,.slice (some lI) (l0.take ((qg):Int).toNat).length c0] rfl (by (try simp only [List.map_toArray,List.map_cons,List.map_nil]);first|done|(rw [show (l0.take ((qg):Int).toNat).length=(qg).toNat from (by rw [List.length_take];have h_:((qg):Int)<=(l0.length:Int):=je;omega)]<;>rfl)|(simp only [Cf];rfl)|rfl|(simp only [List.length_drop,List.length_take];rfl)|(go_simp;done)|(simp [Act.eval,IntKind.signed];done)|(simp [Act.eval,IntKind.signed];rfl)) ?_;(with_reducible refine (jw.calls kj4 0 _ _ (l0.take ((qg):Int).toNat) t208 _ ?au ?ax YD.out).mono ?_);(case au=>exact Kd.aJ ZG.out (bz HB));(case ax=>exact ZH.out);rintro e Hg ⟨rfl,hb⟩;refine ⟨_,rfl, ?_⟩;have ay:=Aside0.mk (aZ (kz gW) hb);have aC:=Aside0.mk (ag (bz HB) hb);clear gW;clear HB;have gW:=ay;have HB:=aC;clear ay aC;(try clear hb);(try clear hb2);(try clear hk);(try clear hi))|((with_reducible refine ai (f:=115) rfl ?_);refine gL 43 Try.func115 #[.int .u32 t208] ?_;(with_reducible refine (fP.calls kj4 t208 Ud _ Xo.out).mono ?_);rintro e w' ⟨rfl,⟨nd,rfl⟩⟩;refine ⟨_,rfl, ?_⟩;(try (rw [iC Hg];generalize nO:World.drewN Hg _=Hg;have ay:Aside0 (Hg.heap[gU]?=some (.cells #[.int .u8 0,.int .u8 0,.int .u8 0,.int .u16 0,.int .u8 0,.int .u16 0,.int .u32 0,.int .u32 0,.slice none 0 0,.slice none 0 0] 73 (0,0))):=⟨by rw [<- nO];exact (kz gW)⟩;have aC:Aside0 (Below w.heap.size w Hg):=⟨by rw [<- nO];exact bz HB⟩;clear gW HB nO;have gW:=ay;have HB:=aC;clear ay aC)))|((with_reducible refine ai (f:=117) rfl ?_);refine gL 45 Try.func117 #[.bool (Ud==65535),.int .i64 22] ?_;(with_reducible refine (fB.calls (Ud==65535) 22 _ A19.out).mono ?_);rintro e w' ⟨rfl,⟨nd,rfl⟩⟩;refine ⟨_,rfl, ?_⟩;(try (rw [iC Hg];generalize nO:World.drewN Hg _=Hg;have ay:Aside0 (Hg.heap[gU]?=some (.cells #[.int .u8 0,.int .u8 0,.int .u8 0,.int .u16 0,.int .u8 0,.int .u16 0,.int .u32 0,.int .u32 0,.slice none 0 0,.slice none 0 0] 73 (0,0))):=⟨by rw [<- nO];exact (kz gW)⟩;have aC:Aside0 (Below w.heap.size w Hg):=⟨by rw [<- nO];exact bz HB⟩;clear gW HB nO;have gW:=ay;have HB:=aC;clear ay aC)))|((with_reducible refine ai (f:=118) rfl ?_);refine gL 47 Try.func118 #[.slice (some lI) l0.length c0,.int .i64 6] ?_;(with_reducible refine (dQ.calls _ _ l0 6 t210 _ ?au ?ax Aw.out).mono ?_);(case au=>exact Kd.aJ HR0.out (bz HB));(case ax=>exact mg.out);rintro e w' ⟨rfl,⟨nd,rfl⟩⟩;refine ⟨_,rfl, ?_⟩;(try (rw [iC Hg];generalize nO:World.drewN Hg _=Hg;have ay:Aside0 (Hg.heap[gU]?=some (.cells #[.int .u8 0,.int .u8 0,.int .u8 0,.int .u16 0,.int .u8 0,.int .u16 0,.int .u32 0,.int .u32 0,.slice none 0 0,.slice none 0 0] 73 (0,0))):=⟨by rw [<- nO];exact (kz gW)⟩;have aC:Aside0 (Below w.heap.size w Hg):=⟨by rw [<- nO];exact bz HB⟩;clear gW HB nO;have gW:=ay;have HB:=aC;clear ay aC))))
            have ay:=Aside0.mk (az gW.out);have aC:=Aside0.mk (below_drew1 HB.out);clear gW;clear HB;have gW:=ay;have HB:=aC;clear ay aC;have AhY:0<=(1:Int):=(by omega)
            have AhZ:1<(l0.length:Int):=je;obtain ⟨Aml,e211,BA⟩:=Kd.dU HR0.out 1 AhY AhZ;have ji:=BA
            (try rw [show ((1:Int)).toNat=1 from rfl] at ji)
            (try rw [show 1*1=1 from rfl] at ji)
            (try simp only [Nat.reduceMul,Nat.reduceEqDiff,Go.Addr.add,↓reduceIte] at ji)
            obtain rfl:lI=Aml:=(by injection e211)
            (try simp only [show (1:Int).toNat=1 from rfl,Nat.reduceMul,Nat.reduceEqDiff,Go.Addr.add,↓reduceIte] at BA)
            have Awv:(1<l0.length)=True:=eq_true (by omega)
            (try rw [show ((1:Int)).toNat=1 from rfl] at BA)
            replace BA:=(HB.out.cell (dS w _ BA)).trans BA;replace AhY:=eq_true AhY;replace AhZ:=eq_true AhZ;have Ah0:0<=(8:Int):=(by omega)
            have Ah1:8<(l0.length:Int):=je;obtain ⟨Amm,e213,BB⟩:=Kd.dU HR0.out 8 Ah0 Ah1;have jk:=BB
            (try rw [show ((8:Int)).toNat=8 from rfl] at jk)
            (try rw [show 8*1=8 from rfl] at jk)
            (try simp only [Nat.reduceMul,Nat.reduceEqDiff,Go.Addr.add,↓reduceIte] at jk)
            obtain rfl:lI=Amm:=(by injection e213)
            (try simp only [show (8:Int).toNat=8 from rfl,Nat.reduceMul,Nat.reduceEqDiff,Go.Addr.add,↓reduceIte] at BB)
            have Aww:(8<l0.length)=True:=eq_true (by omega)
            (try rw [show ((8:Int)).toNat=8 from rfl] at BB)
            replace BB:=(HB.out.cell (dS w _ BB)).trans BB;replace Ah0:=eq_true Ah0;replace Ah1:=eq_true Ah1;have Ah2:0<=(9:Int):=(by omega)
            have Ah3:9<(l0.length:Int):=je;obtain ⟨Amn,e214,BC⟩:=Kd.dU HR0.out 9 Ah2 Ah3;have jl:=BC
            (try rw [show ((9:Int)).toNat=9 from rfl] at jl)
            (try rw [show 9*1=9 from rfl] at jl)
            (try simp only [Nat.reduceMul,Nat.reduceEqDiff,Go.Addr.add,↓reduceIte] at jl)
            obtain rfl:lI=Amn:=(by injection e214)
            (try simp only [show (9:Int).toNat=9 from rfl,Nat.reduceMul,Nat.reduceEqDiff,Go.Addr.add,↓reduceIte] at BC)
            have Awx:(9<l0.length)=True:=eq_true (by omega)
            (try rw [show ((9:Int)).toNat=9 from rfl] at BC)
            replace BC:=(HB.out.cell (dS w _ BC)).trans BC;replace Ah2:=eq_true Ah2;replace Ah3:=eq_true Ah3;obtain ⟨Atv,QN,_,QO,_⟩:=info_parts info5;obtain ⟨A37,Ah4,ZI,ZJ⟩:=Az (P:=Try.prog) (Value.int .u8) 0 165 5 .i64 .i64 Try.underlying165 QN QO (some lI) c0 l0 20 (qg) (by omega) (by first|omega|exact je) je mg.out;have Ae6:=Aside0.mk (Kd.dR (h1:=fun _=>rfl) (ZI _ (Kd.dO HR0.out)));have Amo:=Aside0.mk ZJ;clear ZI ZJ QN QO;obtain ⟨Atx,QS,_,QT,_⟩:=info_parts info5
            obtain ⟨A38,Ah5,ZK,ZL⟩:=Az (P:=Try.prog) (Value.int .u8) 0 165 5 .i64 .i64 Try.underlying165 QS QT (some lI) c0 l0 (qg) (wrap64 (vV)) je (by first|omega|exact je) je mg.out;have Ae7:=Aside0.mk (Kd.dR (h1:=fun _=>rfl) (ZK _ (Kd.dO HR0.out)));have Amp:=Aside0.mk ZL;clear ZK ZL QS QT
            refine start_ (n:=31) (S:=fun w'=>w'.cell? ⟨lI.block,lI.off+1,none⟩=some (.int .u8 (rd l0 1)) /\ w'.cell? ⟨lI.block,lI.off+8,none⟩=some (.int .u8 (rd l0 8)) /\ w'.cell? ⟨lI.block,lI.off+9,none⟩=some (.int .u8 (rd l0 9))) (ds:=[]) #[false,false,false,false,false,false,false,false,false,false,false,false,false,false,false,false,false,false,false,false,false,false,false,false,false,false,false,false,false,false,false] (by kernel_rfl) rfl rfl ⟨((HB.out.cell (dS w _ ji)).trans ji),((HB.out.cell (dS w _ jk)).trans jk),((HB.out.cell (dS w _ jl)).trans jl)⟩ (fun hHeld=> ?_);refine with_tabW aQ.Zx aQ.QH (fun HT_ HW_=> ?_)
            generalize Hg.drew=w36 at gW HB Ae6 Ae7 BA BB BC hHeld|-
            refine pz 0 48 HT_ ?_;refine pz 1 49 HT_ ?_;refine pz 3 51 HT_ ?_;refine pz 5 53 HT_ ?_;refine pz 6 54 HT_ ?_;refine pz 7 55 HT_ ?_;refine pz 8 56 HT_ ?_;refine pz 9 57 HT_ ?_;refine pz 10 58 HT_ ?_;refine pz 11 59 HT_ ?_;refine pz 13 61 HT_ ?_;refine pz 14 62 HT_ ?_;refine pz 16 64 HT_ ?_;refine pz 18 66 HT_ ?_;refine pz 20 68 HT_ ?_;refine pz 21 69 HT_ ?_;refine pz 22 70 HT_ ?_;refine pz 24 72 HT_ ?_;refine pz 25 73 HT_ ?_;refine pz 26 74 HT_ ?_;refine pz 27 75 HT_ ?_;refine take_ (i:=2) (N:=some 50) (v:= ?_) (a':= ?_) #[true,true,true,true,false,true,true,true,true,true,true,true,false,true,true,false,true,false,true,false,true,true,true,false,true,true,true,true,false,false,false] rfl rfl (take_ofW HT_.out HW_.out (by kernel_rfl)) (fun _ _ _ h=>h) (Or.inl ⟨by rfl, ?_⟩) hHeld ?_ ?_
            rotate_left
            ·rintro w' ⟨s0,s1,s2⟩
             go_simp
             with_reducible rfl
            rotate_left
            ·simp only [vF]
             rfl
            refine take_ (i:=12) (N:=some 60) (v:= ?_) (a':= ?_) #[true,true,true,true,false,true,true,true,true,true,true,true,true,true,true,false,true,false,true,false,true,true,true,false,true,true,true,true,false,false,false] rfl rfl (take_ofW HT_.out HW_.out (by kernel_rfl)) (fun _ _ _ h=>h) (Or.inl ⟨by rfl, ?_⟩) hHeld ?_ ?_
            rotate_left
            ·rintro w' ⟨s0,s1,s2⟩
             go_simp
             with_reducible rfl
            rotate_left
            ·simp only [vF]
             rfl
            refine take_ (i:=15) (N:=some 63) (v:= ?_) (a':= ?_) #[true,true,true,true,false,true,true,true,true,true,true,true,true,true,true,true,true,false,true,false,true,true,true,false,true,true,true,true,false,false,false] rfl rfl (take_ofW HT_.out HW_.out (by kernel_rfl)) (fun _ _ _ h=>h) (Or.inl ⟨by rfl, ?_⟩) hHeld ?_ ?_
            rotate_left
            ·rintro w' ⟨s0,s1,s2⟩
             go_simp
             with_reducible rfl
            rotate_left
            ·simp only [vF]
             rfl
            refine oz 4 (some 52) HT_ (fun K hK=> ?_);refine gG Try.func118 #[.slice (some lI) l0.length c0,.int .i64 4] ?_
            with_reducible refine (dQ.calls _ _ l0 4 t212 _ ?au ?ax A22.out).mono ?_
            (case au=>exact Kd.aJ HR0.out (bz HB))
            (case ax=>exact mg.out)
            rintro e w' ⟨rfl,⟨nd,rfl⟩⟩;refine ⟨_,rfl, ?_⟩;refine hK.out _ _ ⟨((HB.out.cell (dS w _ ji)).trans ji),((HB.out.cell (dS w _ jk)).trans jk),((HB.out.cell (dS w _ jl)).trans jl)⟩ (fun hHeld=> ?_);clear hK K;refine nz 52 ?_;refine oz 17 (some 65) HT_ (fun K hK=> ?_);refine gG Try.func119 #[.slice (some lI) l0.length c0,.int .i64 12] ?_
            with_reducible refine (lD.calls _ _ l0 12 J4 _ ?au ?ax A25.out).mono ?_
            (case au=>exact Kd.aJ HR0.out (bz HB))
            (case ax=>exact mg.out)
            rintro e w' ⟨rfl,⟨nd,rfl⟩⟩;refine ⟨_,rfl, ?_⟩;refine hK.out _ _ ⟨((HB.out.cell (dS w _ ji)).trans ji),((HB.out.cell (dS w _ jk)).trans jk),((HB.out.cell (dS w _ jl)).trans jl)⟩ (fun hHeld=> ?_);clear hK K;refine nz 65 ?_;refine oz 19 (some 67) HT_ (fun K hK=> ?_);refine gG Try.func119 #[.slice (some lI) l0.length c0,.int .i64 16] ?_
            with_reducible refine (lD.calls _ _ l0 16 MQ _ ?au ?ax A26.out).mono ?_
            (case au=>exact Kd.aJ HR0.out (bz HB))
            (case ax=>exact mg.out)
            rintro e w' ⟨rfl,⟨nd,rfl⟩⟩;refine ⟨_,rfl, ?_⟩;refine hK.out _ _ ⟨((HB.out.cell (dS w _ ji)).trans ji),((HB.out.cell (dS w _ jk)).trans jk),((HB.out.cell (dS w _ jl)).trans jl)⟩ (fun hHeld=> ?_);clear hK K;refine nz 67 ?_;refine oz 23 (some 71) HT_ (fun K hK=> ?_)
            refine goes_ Try.func120 (by kernel_rfl) rfl #[.slice A37 ((l0.take ((qg):Int).toNat).drop 20).length (c0 - 20)] (by rfl) rfl rfl (by (try simp only [List.map_toArray,List.map_cons,List.map_nil]);first|done|(rw [show ((l0.take ((qg):Int).toNat).drop 20).length=((qg).toNat - 20) from (by rw [List.length_drop,List.length_take];have h_:((qg):Int)<=(l0.length:Int):=je;omega)]<;>rfl)|(simp only [Cf];rfl)|rfl|(simp only [List.length_drop,List.length_take];rfl)|(go_simp;done)|(simp [Act.eval,IntKind.signed];done)|(simp [Act.eval,IntKind.signed];rfl)) ?_
            with_reducible refine (jY.calls _ _ ((l0.take ((qg):Int).toNat).drop 20) t218 _ ?au ?ax A29.out).mono ?_
            (case au=>exact Kd.aJ Ae6.out (bz HB))
            (case ax=>exact Amo.out)
            rintro e w39 ⟨AyR,rfl,ho0,hb⟩;refine ⟨_,rfl, ?_⟩;have ay:=Aside0.mk (Kd.R_lower ho0 (below_size (bz HB)));have aC:=Aside0.mk (aZ (kz gW) hb);have bg:=Aside0.mk (ag (bz HB) hb);clear gW;clear HB;have Ns:=ay;have gW:=aC;have HB:=bg;clear ay aC bg
            (try clear hb)
            (try clear hb2)
            (try clear hk)
            (try clear hi)
            (try clear ho0)
            refine hK.out _ _ ⟨((HB.out.cell (dS w _ ji)).trans ji),((HB.out.cell (dS w _ jk)).trans jk),((HB.out.cell (dS w _ jl)).trans jl)⟩ (fun hHeld=> ?_);clear hK K;refine nz 71 ?_;refine oz 28 (some 76) HT_ (fun K hK=> ?_)
            refine goes_ Try.func120 (by kernel_rfl) rfl #[.slice A38 ((l0.take ((wrap64 (vV)):Int).toNat).drop ((qg):Int).toNat).length (c0 - (qg).toNat)] (by rfl) rfl rfl (by (try simp only [List.map_toArray,List.map_cons,List.map_nil]);first|done|(rw [show ((l0.take ((wrap64 (vV)):Int).toNat).drop ((qg):Int).toNat).length=((wrap64 (vV)).toNat - (qg).toNat) from (by rw [List.length_drop,List.length_take];have h_:((wrap64 (vV)):Int)<=(l0.length:Int):=je;omega)]<;>rfl)|(simp only [Cf];rfl)|rfl|(simp only [List.length_drop,List.length_take];rfl)|(go_simp;done)|(simp [Act.eval,IntKind.signed];done)|(simp [Act.eval,IntKind.signed];rfl)) ?_
            with_reducible refine (jY.calls _ _ ((l0.take ((wrap64 (vV)):Int).toNat).drop ((qg):Int).toNat) t222 _ ?au ?ax A33.out).mono ?_
            (case au=>exact Kd.aJ Ae7.out (bz HB))
            (case ax=>exact Amp.out)
            rintro e J8 ⟨AyS,rfl,ho0,hb⟩;refine ⟨_,rfl, ?_⟩;have ay:=Aside0.mk (Kd.rD (Kd.rz Ns) (Kd.nU ho0) hb);have aC:=Aside0.mk (Kd.R_lower (Kd.xy ho0 (Kd.uB (Kd.rz Ns))) (below_size (bz HB)));have bg:=Aside0.mk (aZ (kz gW) hb);have dm:=Aside0.mk (ag (bz HB) hb);clear Ns;clear gW;clear HB;have Ns:=ay;have Ae8:=aC;have gW:=bg;have HB:=dm;clear ay aC bg dm
            (try clear hb)
            (try clear hb2)
            (try clear hk)
            (try clear hi)
            (try clear ho0)
            obtain ⟨Ah6,Ah7,Amq⟩:=Kd.dN Ae8.out
            (first|subst Amq|(injection Amq with rF xE rG;have xG:=rF.symm;have xH:=rG.symm;clear rF xE rG;subst xG;subst xH))
            obtain ⟨IM,IP,ZM⟩:=Kd.dN Ns.out
            (first|subst ZM|(injection ZM with rF xE rG;have xG:=rF.symm;have xH:=rG.symm;clear rF xE rG;subst xG;subst xH))
            refine hK.out _ _ ⟨((HB.out.cell (dS w _ ji)).trans ji),((HB.out.cell (dS w _ jk)).trans jk),((HB.out.cell (dS w _ jl)).trans jl)⟩ (fun hHeld=> ?_);clear hK K;refine nz 76 ?_;refine pz 29 77 HT_ ?_;refine oz 30 (none) HT_ (fun K hK=> ?_);have Awz:=xC gW.out;have Atz:=blk_frozen gW.out;refine CJ (w1:= ?_) (by rfl) rfl ?_ ?_
            rotate_left
            ·go_simp
             rfl
            refine hK.out _ _ ⟨((cell_far (p:=⟨gU,_,none⟩) (by first|exact fU ji iU.out|exact fV ji iU.out) _).trans (((cell_far (p:=⟨gU,_,none⟩) (by first|exact fU ji iU.out|exact fV ji iU.out) _).trans (((cell_far (p:=⟨gU,_,none⟩) (by first|exact fU ji iU.out|exact fV ji iU.out) _).trans (((cell_far (p:=⟨gU,_,none⟩) (by first|exact fU ji iU.out|exact fV ji iU.out) _).trans (((cell_far (p:=⟨gU,_,none⟩) (by first|exact fU ji iU.out|exact fV ji iU.out) _).trans (((cell_far (p:=⟨gU,_,none⟩) (by first|exact fU ji iU.out|exact fV ji iU.out) _).trans (((cell_far (p:=⟨gU,_,none⟩) (by first|exact fU ji iU.out|exact fV ji iU.out) _).trans (((cell_far (p:=⟨gU,_,none⟩) (by first|exact fU ji iU.out|exact fV ji iU.out) _).trans (((cell_far (p:=⟨gU,_,none⟩) (by first|exact fU ji iU.out|exact fV ji iU.out) _).trans (((cell_far (p:=⟨gU,_,none⟩) (by first|exact fU ji iU.out|exact fV ji iU.out) _).trans (hHeld.1)))))))))))))))))))),((cell_far (p:=⟨gU,_,none⟩) (by first|exact fU jk iU.out|exact fV jk iU.out) _).trans (((cell_far (p:=⟨gU,_,none⟩) (by first|exact fU jk iU.out|exact fV jk iU.out) _).trans (((cell_far (p:=⟨gU,_,none⟩) (by first|exact fU jk iU.out|exact fV jk iU.out) _).trans (((cell_far (p:=⟨gU,_,none⟩) (by first|exact fU jk iU.out|exact fV jk iU.out) _).trans (((cell_far (p:=⟨gU,_,none⟩) (by first|exact fU jk iU.out|exact fV jk iU.out) _).trans (((cell_far (p:=⟨gU,_,none⟩) (by first|exact fU jk iU.out|exact fV jk iU.out) _).trans (((cell_far (p:=⟨gU,_,none⟩) (by first|exact fU jk iU.out|exact fV jk iU.out) _).trans (((cell_far (p:=⟨gU,_,none⟩) (by first|exact fU jk iU.out|exact fV jk iU.out) _).trans (((cell_far (p:=⟨gU,_,none⟩) (by first|exact fU jk iU.out|exact fV jk iU.out) _).trans (((cell_far (p:=⟨gU,_,none⟩) (by first|exact fU jk iU.out|exact fV jk iU.out) _).trans (hHeld.2.1)))))))))))))))))))),((cell_far (p:=⟨gU,_,none⟩) (by first|exact fU jl iU.out|exact fV jl iU.out) _).trans (((cell_far (p:=⟨gU,_,none⟩) (by first|exact fU jl iU.out|exact fV jl iU.out) _).trans (((cell_far (p:=⟨gU,_,none⟩) (by first|exact fU jl iU.out|exact fV jl iU.out) _).trans (((cell_far (p:=⟨gU,_,none⟩) (by first|exact fU jl iU.out|exact fV jl iU.out) _).trans (((cell_far (p:=⟨gU,_,none⟩) (by first|exact fU jl iU.out|exact fV jl iU.out) _).trans (((cell_far (p:=⟨gU,_,none⟩) (by first|exact fU jl iU.out|exact fV jl iU.out) _).trans (((cell_far (p:=⟨gU,_,none⟩) (by first|exact fU jl iU.out|exact fV jl iU.out) _).trans (((cell_far (p:=⟨gU,_,none⟩) (by first|exact fU jl iU.out|exact fV jl iU.out) _).trans (((cell_far (p:=⟨gU,_,none⟩) (by first|exact fU jl iU.out|exact fV jl iU.out) _).trans (((cell_far (p:=⟨gU,_,none⟩) (by first|exact fU jl iU.out|exact fV jl iU.out) _).trans (hHeld.2.2))))))))))))))))))))⟩ (fun hHeld=> ?_)
            clear hK K;refine dz HT_ ?_
            try go_wp2
            refine bodyPost_ret (results_cell_row rfl _ _ gU 73 #[.int .u8 (rd l0 1),.int .u8 (rd l0 8),.int .u8 (rd l0 9),.int .u16 t212,.int .u8 ((t210 / 8192) % 256),.int .u16 (Go.bits .and .u16 t210 8191),.int .u32 J4,.int .u32 MQ,.slice IM t218.length IP,.slice Ah6 t222.length Ah7] (0,0) _ rfl (by (with_reducible repeat (first|refine aH ?_ _|refine az ?_|refine aG ?_ _));refine bH (cs:= #[.int .u8 (rd l0 1),.int .u8 (rd l0 8),.int .u8 (rd l0 9),.int .u16 t212,.int .u8 ((t210 / 8192) % 256),.int .u16 (Go.bits .and .u16 t210 8191),.int .u32 J4,.int .u32 MQ,.slice IM t218.length IP,.slice none 0 0]) ?_ 9 _ rfl;(with_reducible repeat (first|refine aH ?_ _|refine az ?_|refine aG ?_ _));refine bH (cs:= #[.int .u8 (rd l0 1),.int .u8 (rd l0 8),.int .u8 (rd l0 9),.int .u16 t212,.int .u8 ((t210 / 8192) % 256),.int .u16 (Go.bits .and .u16 t210 8191),.int .u32 J4,.int .u32 MQ,.slice none 0 0,.slice none 0 0]) ?_ 8 _ rfl;(with_reducible repeat (first|refine aH ?_ _|refine az ?_|refine aG ?_ _));refine bH (cs:= #[.int .u8 (rd l0 1),.int .u8 (rd l0 8),.int .u8 (rd l0 9),.int .u16 t212,.int .u8 ((t210 / 8192) % 256),.int .u16 (Go.bits .and .u16 t210 8191),.int .u32 J4,.int .u32 0,.slice none 0 0,.slice none 0 0]) ?_ 7 _ rfl;(with_reducible repeat (first|refine aH ?_ _|refine az ?_|refine aG ?_ _));refine bH (cs:= #[.int .u8 (rd l0 1),.int .u8 (rd l0 8),.int .u8 (rd l0 9),.int .u16 t212,.int .u8 ((t210 / 8192) % 256),.int .u16 (Go.bits .and .u16 t210 8191),.int .u32 0,.int .u32 0,.slice none 0 0,.slice none 0 0]) ?_ 6 _ rfl;(with_reducible repeat (first|refine aH ?_ _|refine az ?_|refine aG ?_ _));refine bH (cs:= #[.int .u8 (rd l0 1),.int .u8 (rd l0 8),.int .u8 (rd l0 9),.int .u16 t212,.int .u8 ((t210 / 8192) % 256),.int .u16 0,.int .u32 0,.int .u32 0,.slice none 0 0,.slice none 0 0]) ?_ 5 _ rfl;(with_reducible repeat (first|refine aH ?_ _|refine az ?_|refine aG ?_ _));refine bH (cs:= #[.int .u8 (rd l0 1),.int .u8 (rd l0 8),.int .u8 (rd l0 9),.int .u16 t212,.int .u8 0,.int .u16 0,.int .u32 0,.int .u32 0,.slice none 0 0,.slice none 0 0]) ?_ 4 _ rfl;(with_reducible repeat (first|refine aH ?_ _|refine az ?_|refine aG ?_ _));refine bH (cs:= #[.int .u8 (rd l0 1),.int .u8 (rd l0 8),.int .u8 (rd l0 9),.int .u16 0,.int .u8 0,.int .u16 0,.int .u32 0,.int .u32 0,.slice none 0 0,.slice none 0 0]) ?_ 3 _ rfl;(with_reducible repeat (first|refine aH ?_ _|refine az ?_|refine aG ?_ _));refine bH (cs:= #[.int .u8 (rd l0 1),.int .u8 (rd l0 8),.int .u8 0,.int .u16 0,.int .u8 0,.int .u16 0,.int .u32 0,.int .u32 0,.slice none 0 0,.slice none 0 0]) ?_ 2 _ rfl;(with_reducible repeat (first|refine aH ?_ _|refine az ?_|refine aG ?_ _));refine bH (cs:= #[.int .u8 (rd l0 1),.int .u8 0,.int .u8 0,.int .u16 0,.int .u8 0,.int .u16 0,.int .u32 0,.int .u32 0,.slice none 0 0,.slice none 0 0]) ?_ 1 _ rfl;(with_reducible repeat (first|refine aH ?_ _|refine az ?_|refine aG ?_ _));refine bH (cs:= #[.int .u8 0,.int .u8 0,.int .u8 0,.int .u16 0,.int .u8 0,.int .u16 0,.int .u32 0,.int .u32 0,.slice none 0 0,.slice none 0 0]) ?_ 0 _ rfl;(with_reducible repeat (first|refine aH ?_ _|refine az ?_|refine aG ?_ _));exact gW.out) Try.underlying73 rfl (by kernel_rfl)) rfl ?_
            exact ⟨_,_,by first|rfl|(simp [ae,af]<;>rfl)|(simp only [<- Cf];first|rfl|(simp [ae,af]<;>rfl))|(simp [*,ae,af]<;>rfl),by (with_reducible repeat (first|apply Kd.ik|apply Kd.gV|apply Kd.iq));exact Kd.R_mono (Kd.gB (p:=⟨gU,9,none⟩) (Kd.gB (p:=⟨gU,8,none⟩) (Kd.gB (p:=⟨gU,7,none⟩) (Kd.gB (p:=⟨gU,6,none⟩) (Kd.gB (p:=⟨gU,5,none⟩) (Kd.gB (p:=⟨gU,4,none⟩) (Kd.gB (p:=⟨gU,3,none⟩) (Kd.gB (p:=⟨gU,2,none⟩) (Kd.gB (p:=⟨gU,1,none⟩) (Kd.gB (p:=⟨gU,0,none⟩) (Kd.qY Ns.out gW.out (by decide)) (fun _ hk=>hk.2) (.int .u8 (rd l0 1))) (fun _ hk=>hk.2) (.int .u8 (rd l0 8))) (fun _ hk=>hk.2) (.int .u8 (rd l0 9))) (fun _ hk=>hk.2) (.int .u16 t212)) (fun _ hk=>hk.2) (.int .u8 ((t210 / 8192) % 256))) (fun _ hk=>hk.2) (.int .u16 (Go.bits .and .u16 t210 8191))) (fun _ hk=>hk.2) (.int .u32 J4)) (fun _ hk=>hk.2) (.int .u32 MQ)) (fun _ hk=>hk.2) (.slice IM t218.length IP)) (fun _ hk=>hk.2) (.slice Ah6 t222.length Ah7)) (fun _ hk=>hk.1.2),by (with_reducible repeat (first|apply Kd.ik|apply Kd.gV|apply Kd.iq));exact Kd.R_mono (Kd.gB (p:=⟨gU,9,none⟩) (Kd.gB (p:=⟨gU,8,none⟩) (Kd.gB (p:=⟨gU,7,none⟩) (Kd.gB (p:=⟨gU,6,none⟩) (Kd.gB (p:=⟨gU,5,none⟩) (Kd.gB (p:=⟨gU,4,none⟩) (Kd.gB (p:=⟨gU,3,none⟩) (Kd.gB (p:=⟨gU,2,none⟩) (Kd.gB (p:=⟨gU,1,none⟩) (Kd.gB (p:=⟨gU,0,none⟩) (Kd.qY Ae8.out gW.out (by decide)) (fun _ hk=>hk.2) (.int .u8 (rd l0 1))) (fun _ hk=>hk.2) (.int .u8 (rd l0 8))) (fun _ hk=>hk.2) (.int .u8 (rd l0 9))) (fun _ hk=>hk.2) (.int .u16 t212)) (fun _ hk=>hk.2) (.int .u8 ((t210 / 8192) % 256))) (fun _ hk=>hk.2) (.int .u16 (Go.bits .and .u16 t210 8191))) (fun _ hk=>hk.2) (.int .u32 J4)) (fun _ hk=>hk.2) (.int .u32 MQ)) (fun _ hk=>hk.2) (.slice IM t218.length IP)) (fun _ hk=>hk.2) (.slice Ah6 t222.length Ah7)) (fun _ hk=>hk.1.2),bz HB⟩
           ·rw [aj c32] at H
            cases H
          ·rw [aj c31] at H
           cases H
         ·rw [aj c27] at H
          cases H
        ·rw [aj c24] at H
         cases H
       ·rw [aj c23] at H
        cases H
      ·rw [aj c21] at H
       cases H
     ·rw [aj c16] at H
      cases H
    ·rw [aj c15] at H
     cases H
 ·rw [aj c3] at H
  cases H
end Go.Proofs.Ytkmimamminddiaa.PB
