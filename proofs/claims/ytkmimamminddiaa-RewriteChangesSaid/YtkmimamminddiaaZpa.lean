/- Texts of this claim, merged: WWords, AggWords, MyWords, WLast, WTab, WQPut, WApart, WArr, WZeros, WFoot, WKept, WShare, WN, WNEv, WMore, WFour, WFootNe, WAt, WEqStruct, WRepsOne, WInv, WInvWords, WGuard. -/
import Derived.Below
import Derived.Deep.Draws
import Derived.Deep.AppendLies
import Derived.Maps.AppendAt
import Derived.OwnWalk
import Derived.Laws.BytesArg
import Derived.Laws.MakeOwn
import Derived.Laws.OwnMore
import Derived.Deep.OwnRows
import Derived.Tactics
import Derived.Lib.ConvBytes
import Derived.Laws.Slices
import Derived.WalkKit
import Derived.KernelRfl
import Derived.RowKit3
import Derived.Deep.LoopGhost
import Derived.Deep.QuietTactic
import Derived.BigQuiet
import Derived.WideLaws
import Derived.Deep.DeepCutAuto
import Derived.Deep.CutBlock
import Derived.Deep.RegionHeld3
import Derived.Laws.Rows
import Derived.Lib.AppendStr
import Derived.ArgAppend
import Derived.Laws.IdiomCopy
import Derived.RowKit
import Derived.Lib.SmallJoins
import Derived.ProofKit
import Derived.WalkSpells
import Derived.OrdersHeld
import Derived.Laws.BitsLemmas
import Derived.Laws.StructEq
set_option maxHeartbeats 40000000
set_option maxRecDepth 100000
set_option linter.unusedVariables false
set_option linter.unusedSimpArgs false
namespace Go.Proofs
open Go
theorem cZ {α β:Type} {o:Option α} {f:α→Option β} {b:β} (h:o.bind f=some b):∃ a,o=some a∧f a=some b:=Option.bind_eq_some_iff.mp h
theorem cS {α:Type} {a b:α} (h:some a=some b):a=b:=Option.some.inj h
theorem bA {α β:Type} (x:α) (f:α→Option β):(some x).bind f=f x:=rfl
theorem bS {p:Prop} [Decidable p] (h:p):decide p=true:=decide_eq_true h
theorem gO {p:Prop} [Decidable p] (h:¬ p):decide p=false:=decide_eq_false h
theorem au {c:Prop} {h:Decidable c} (hc:c) {α:Sort _} {t e:α}:ite c t e=t:=if_pos hc
theorem ax {c:Prop} {h:Decidable c} (hc:¬ c) {α:Sort _} {t e:α}:ite c t e=e:=if_neg hc
theorem fH {α:Type} [BEq α] [LawfulBEq α] {a b:α} (h:a=b):(a==b)=true:=beq_iff_eq.mpr h
theorem kO {α:Type} [BEq α] [LawfulBEq α] {a b:α} (h:a=b):(a !=b)=false:=bne_eq_false_iff_eq.mpr h
theorem fc {α:Type} [BEq α] [LawfulBEq α] {a b:α} (h:¬ a=b):(a==b)=false:=beq_eq_false_iff_ne.mpr h
theorem lA {α:Type} [BEq α] [LawfulBEq α] {a b:α} (h:¬ a=b):(a !=b)=true:=bne_iff_ne.mpr h
theorem dA (w:World) (a:Addr) {v:Value} (h:w.cell? a=some v):a.block<w.heap.size:=World.block_lt_of_cell? w a h
theorem xP {b:Bool} (h:¬ b=true):b=false:=Bool.eq_false_iff.mpr h
end Go.Proofs
namespace Go.Proofs.ai.bX
open Go.RowKit
structure aa (p:Prop):Prop where mk::(out:p)
structure bF (w w':World):Prop where mk::(out:∃ n,w'=w.drewN n)
theorem bF.refl (w:World):bF w w:=⟨⟨0,rfl⟩⟩
theorem bF.step {w w':World} (h:bF w w') (n:Nat):bF w (w'.drewN n):=by
  obtain ⟨m,rfl⟩:=h;exact ⟨⟨m+n,World.drewN_drewN ..⟩⟩
theorem bF.grown {w w':World} (h:bF w w'):Grown w w':=by
  obtain ⟨n,rfl⟩:=h
  induction n with
  |zero=>exact Grown.refl _
  |succ n ih=>rw [<- World.drew_drewN];exact Grown.drew ih
theorem bF.below {w w':World} (h:bF w w'):Below w.heap.size w w':=by
  obtain ⟨n,rfl⟩:=h
  induction n with
  |zero=>exact Below.refl _ _
  |succ n ih=>rw [<- World.drew_drewN];exact ih.drew
def rd (xs:List Int) (i:Int):Int:=xs.getD i.toNat 0
def Yq (k:IntKind) (xs:List Int):List Value:=xs.map fun x=> .int k x
theorem dX {w W:World} (h:Below w.heap.size w W) (o:Obj):Below w.heap.size w (W.alloc o):=h.alloc h.size o
theorem sC {B:Nat} {w W:World} (h:Below B w W):Below B w W.drew:=⟨h.os,h.tape,h.output,h.size,h.block⟩
theorem fe {B:Nat} {w W:World} (h:Below B w W) (n:Nat):Below B w (W.drewN n):=⟨h.os,h.tape,h.output,h.size,h.block⟩
theorem Kp {B:Nat} {w w1 w2:World} (h:Below B w w1) (hB:B<=w1.heap.size) (k:Below w1.heap.size w1 w2):Below B w w2:=
  h.trans ⟨k.os,k.tape,k.output,k.size,fun i hi=>k.block i (Nat.lt_of_lt_of_le hi hB)⟩
theorem Cp {w w1:World} (h:Below w.heap.size w w1) (row:Option Nat):w.grownBy w1 row:=⟨h.os,h.tape,h.output,h.size,fun i hi _=>h.block i hi⟩
theorem tO {w w1:World} (h:Below w.heap.size w w1) {a:Addr} {v:Value} (hc:w.cell? a=some v):w1.cell? a=some v:=(h.cell (dA w a hc)).trans hc
theorem add_plain (g j:Nat):(⟨g,0,none⟩:Addr).add j=⟨g,j,none⟩:=by unfold Addr.add;split<;>simp_all
def je (w:World) (k:IntKind) (A:Option Addr) (n:Nat) (xs:List Int):Prop:=
  xs.length=n /\ n<=9223372036854775807 /\ (0<n ->∃ ad,A=some ad /\ ∀ j,j<n ->w.cell? (ad.add j)=some (.int k (xs.getD j 0)))
theorem je.at_ {w:World} {k:IntKind} {A:Option Addr} {n:Nat} {xs:List Int} (h:je w k A n xs) (i:Int) (h0:0<=i) (h1:i<n):∃ ad,A=some ad /\ w.cell? (ad.add i.toNat)=some (.int k (rd xs i)):=by
  obtain ⟨ad,e,hc⟩:=h.2.2 (by omega);exact ⟨ad,e,hc _ (by omega)⟩
theorem je.below {w w1:World} {k:IntKind} {A:Option Addr} {n:Nat} {xs:List Int} (h:je w k A n xs) (hb:Below w.heap.size w w1):je w1 k A n xs:=
  ⟨h.1,h.2.1,fun hn=>by
    obtain ⟨ad,e,hc⟩:=h.2.2 hn
    exact ⟨ad,e,fun j hj=>tO hb (hc j hj)⟩⟩
theorem Tg (W:World) (base:Nat) (e:TypeId) (size:Nat):W.ownsRow base e size (.slice none 0 0) 0 []:=⟨by simp,.inl ⟨rfl,rfl⟩⟩
theorem wF {w:World} {base:Nat} {e:TypeId} {size n:Nat} {v:Value} {xs:List Value} (h:w.ownsRow base e size v n xs) (k:Nat) (hk:v.ownBlock=some k):base<=k:=by
  rcases h.2 with ⟨rfl,_⟩|⟨g,cap,cur,rfl,hb,_⟩
  · simp [Value.ownBlock] at hk
  · have:g=k:=by simpa [Value.ownBlock] using hk
    omega
theorem Ph {w:World} {base:Nat} {e:TypeId} {size n:Nat} {v:Value} {xs:List Value} (h:w.ownsRow base e size v n xs) (k:Nat) (hk:v.ownBlock=some k):k<w.heap.size:=by
  rcases h.2 with ⟨rfl,_⟩|⟨g,cap,cur,rfl,hb,hh,_⟩
  · simp [Value.ownBlock] at hk
  · have:g=k:=by simpa [Value.ownBlock] using hk
    subst this;exact (Array.getElem?_eq_some_iff.1 hh).1
theorem Fz {w w1:World} {base:Nat} {e:TypeId} {size n:Nat} {v:Value} {xs:List Value} (h:w.ownsRow base e size v n xs) (hb:Below w.heap.size w w1):w1.ownsRow base e size v n xs:=
  h.kept (Cp hb none) (by cases v.ownBlock<;>simp)
theorem Nr {w w1:World} {base:Nat} {e:TypeId} {size n:Nat} {v:Value} {xs:List Value} (h:w.ownsRow base e size v n xs) {row:Option Nat} (hg:w.grownBy w1 row) (hne:v.ownBlock=none \/ v.ownBlock≠row):w1.ownsRow base e size v n xs:=h.kept hg hne
theorem Ns {w:World} {base n:Nat} {e:TypeId} {size:Nat} {v:Value} {xs:List Value} (h:w.ownsRow base e size v n xs):∃ A c,v= .slice A n c:=by
  rcases h.2 with ⟨rfl,rfl⟩|⟨g,cap,cur,rfl,_⟩
  · exact ⟨none,0,rfl⟩
  · exact ⟨_,cap,rfl⟩
theorem Yr {P:Program} {w:World} {base n:Nat} {e' src dst e:TypeId} {v:Value} {xs:List Int} (hs:P.underlying src=some (.slice e)) (he:P.underlying e=some (.int .u8)) (hd:P.underlying dst=some .string)
    (h:w.ownsRow base e' 1 v n (Yq .u8 xs)):(convert src dst v).run P w= .ok (.string (strOfNums xs)) w:=by
  have hl:xs.length=n:=by have:=h.1;simp [Yq] at this;exact this
  rcases h.2 with ⟨rfl,rfl⟩|⟨g,cap,cur,rfl,_⟩
  · obtain rfl:xs=[]:=List.eq_nil_of_length_eq_zero hl
    exact run_convert_bytes_nil w src e hs he 0 0 dst hd
  · refine run_convert_bytes_arg w src e hs he g 0 n cap xs hl (fun i hi=> ?_) dst hd
    have hc:=h.cells (g:=g) rfl i (.int .u8 (xs.getD i 0)) (by simp [Yq,List.getElem?_eq_getElem (show i<xs.length by omega),List.getD_eq_getElem?_getD]);have ha:(⟨g,0,none⟩:Addr).add i=⟨g,0+i,none⟩:=by unfold Addr.add;split<;>simp_all
    rwa [ha] at hc
section
end
section
end
section
end
theorem je.gK {w:World} {k:IntKind} {A:Option Addr} {n:Nat} {xs:List Int} (h:je w k A n xs) (i:Nat) (hi:i<=n):je w k A i (xs.take i):=by
  refine ⟨by rw [List.length_take,h.1];omega,by have:=h.2.1;omega,fun hp=> ?_⟩;obtain ⟨ad,e,hc⟩:=h.2.2 (by omega);refine ⟨ad,e,fun j hj=> ?_⟩;rw [hc j (by omega)]
  simp [List.getD_eq_getElem?_getD,hj]
theorem je.Hl {w:World} {k:IntKind} {A:Option Addr} {n c:Nat} {xs:List Int} (h:je w k A n xs) (i:Nat) (hi:i<=n) (hc:n<=c):je w k (if c=i then A else A.map (·.add i)) (n - i) (xs.drop i):=by
  refine ⟨by rw [List.length_drop,h.1],by have:=h.2.1;omega,fun hp=> ?_⟩;obtain ⟨ad,rfl,hcell⟩:=h.2.2 (by omega);rw [ax (by omega)];refine ⟨ad.add i,rfl,fun j hj=> ?_⟩
  have ha:(ad.add i).add j=ad.add (i+j):=by
    unfold Addr.add
    by_cases h1:i=0<;>by_cases h2:j=0<;>simp [h1,h2,Nat.add_assoc]
  rw [ha,hcell (i+j) (by omega)]
  simp [List.getD_eq_getElem?_getD,List.getElem?_drop]
theorem Aci {P:Program} (t e:TypeId) (kl:IntKind) {i:TypeInfo} (ht:P.underlying t=some (.slice e)) (hi:P.info? e=some i) (hsz:i.size=1) (A:Option Addr) (n c m:Nat) (hm:m<=n):
    ∃ A':Option Addr,(∀ W:World,(Instr.slice t (.slice A n c) (some (.int kl (m:Int))) none none).run P W= .ok (.slice A' (n - m) (c - m)) W) /\
      ∀ (w:World) (k:IntKind) (xs:List Int),n<=c ->je w k A n xs ->je w k A' (n - m) (xs.drop m):=by
  refine ⟨if c=m then A else A.map (·.add m),fun W=> ?_,fun w k xs hc h=>h.Hl m hm hc⟩;have hel:P.elem t=e:=by simp [Program.elem,ht]
  have hu:P.underlying t=some (.slice (P.elem t)):=by rw [hel];exact ht
  rw [run_slice_l W t A n c hu kl (m:Int) (Int.natCast_nonneg _) (by omega),hel]
  simp [sizeOf,typeInfo,hi,hsz,sliced,Result.andThen]
def ED {α:Type} (a b:Option α):Prop:=∀ r,a=some r ->b=some r
theorem ED.refl {α:Type} (a:Option α):ED a a:=fun _ h=>h
theorem ED.none {α:Type} (b:Option α):ED Option.none b:=fun _ h=>by cases h
theorem ED.trans {α:Type} {a b c:Option α} (h:ED a b) (k:ED b c):ED a c:=fun r hr=>k r (h r hr)
theorem ED.bind {α β:Type} {a a':Option α} {f f':α ->Option β} (h:ED a a') (k:∀ x,ED (f x) (f' x)):ED (a.bind f) (a'.bind f'):=by
  intro r hr;obtain ⟨x,hx,hf⟩:=Option.bind_eq_some_iff.1 hr;exact Option.bind_eq_some_iff.2 ⟨x,h x hx,k x r hf⟩
theorem ED.map {α β:Type} {a a':Option α} (f:α ->β) (h:ED a a'):ED (a.map f) (a'.map f):=by
  intro r hr;obtain ⟨x,hx,hf⟩:=Option.map_eq_some_iff.1 hr;exact Option.map_eq_some_iff.2 ⟨x,h x hx,hf⟩
theorem AU {α:Type} {g:Nat ->Option α} (h:∀ k,ED (g k) (g (k+1))) (k:Nat):∀ j,ED (g k) (g (k+j))
  |0=>ED.refl _
  |j+1=>(AU h k j).trans (h (k+j))
theorem Nt {α:Type} {g:Nat ->Option α} (h:∀ k,ED (g k) (g (k+1))) {k k':Nat} (hk:k<=k') {r:α} (hr:g k=some r):g k'=some r:=by
  have:=AU h k (k' - k) r hr
  rwa [Nat.add_sub_cancel' hk] at this
def cI {α:Type} (R:α ->List Value ->Prop) (size:Nat) (ps:List α) (cs:List Value):Prop:=
  cs.length=ps.length*size /\ ∀ j p,ps[j]?=some p ->R p ((cs.drop (j*size)).take size)
theorem cI.none {α:Type} (R:α ->List Value ->Prop) (size:Nat):cI R size [] []:=⟨by simp,fun j p h=>by simp at h⟩
theorem cI.snoc {α:Type} {R:α ->List Value ->Prop} {size:Nat} {ps:List α} {cs c:List Value} {p:α} (h:cI R size ps cs) (hp:R p c) (hc:c.length=size):cI R size (ps++[p]) (cs++c):=by
  refine ⟨by rw [List.length_append,h.1,hc,List.length_append,List.length_singleton,Nat.add_mul,Nat.one_mul],fun j q hq=> ?_⟩
  rcases Nat.lt_or_ge j ps.length with hj|hj
  · rw [List.getElem?_append_left hj] at hq
    have h1:j*size+size<=cs.length:=by rw [h.1,<- Nat.succ_mul];exact Nat.mul_le_mul_right _ hj
    have h2:=h.2 j q hq;rw [List.drop_append_of_le_length (by omega),List.take_append_of_le_length (by rw [List.length_drop];omega)];exact h2
  · have hj':j=ps.length:=by
      have:=(List.getElem?_eq_some_iff.1 hq).1;rw [List.length_append,List.length_singleton] at this
      omega
    subst hj';have hq':p=q:=by simpa using hq
    subst hq';rw [<- h.1,List.drop_left,<- hc,List.take_length];exact hp
theorem cI.tP {α:Type} {R R':α ->List Value ->Prop} {size:Nat} {ps:List α} {cs:List Value} (h:cI R size ps cs) (hR:∀ p c,R p c ->R' p c):cI R' size ps cs:=⟨h.1,fun j p hj=>hR _ _ (h.2 j p hj)⟩
def kr {α:Type} (R:α ->List Value ->Prop) (size:Nat) (w:World) (A:Option Addr) (n:Nat) (ps:List α):Prop:=
  ps.length=n /\ n<=9223372036854775807 /\ (0<n ->∃ ad,A=some ad /\ ∀ j p,ps[j]?=some p ->∃ c,c.length=size /\ R p c /\ ∀ i u,c[i]?=some u ->w.cell? (ad.add (j*size+i))=some u)
theorem kr.AkC {α:Type} {R:α ->List Value ->Prop} {size:Nat} {w:World} {A:Option Addr} {n:Nat} {ps:List α} (h:kr R size w A n ps) (d:α) (i:Int) (h0:0<=i) (h1:i<n):
    ∃ ad c,A=some ad /\ c.length=size /\ R (ps.getD i.toNat d) c /\ ∀ j u,c[j]?=some u ->w.cell? (ad.add (i.toNat*size+j))=some u:=by
  obtain ⟨ad,e,hc⟩:=h.2.2 (by omega);have hl:i.toNat<ps.length:=by have:=h.1;omega
  obtain ⟨c,hs,hr,hcell⟩:=hc i.toNat _ (List.getElem?_eq_getElem hl);refine ⟨ad,c,e,hs, ?_,hcell⟩;rw [List.getD_eq_getElem?_getD,List.getElem?_eq_getElem hl];exact hr
theorem kr.tP {α:Type} {R R':α ->List Value ->Prop} {size:Nat} {w w1:World} {A:Option Addr} {n:Nat} {ps:List α} (h:kr R size w A n ps) (hb:Below w.heap.size w w1) (hR:∀ p c,R p c ->R' p c):kr R' size w1 A n ps:=
  ⟨h.1,h.2.1,fun hn=>by
    obtain ⟨ad,e,hc⟩:=h.2.2 hn;refine ⟨ad,e,fun j p hj=> ?_⟩;obtain ⟨c,hs,hr,hcell⟩:=hc j p hj
    exact ⟨c,hs,hR _ _ hr,fun i u hu=>tO hb (hcell i u hu)⟩⟩
theorem Eg {α:Type} {R:α ->List Value ->Prop} {w:World} {base n size:Nat} {e:TypeId} {v:Value} {ps:List α} {cs:List Value} (h:w.ownsRow base e size v n cs) (hR:cI R size ps cs) (hn:ps.length=n):
    ∃ A c,v= .slice A n c /\ kr R size w A n ps:=by
  rcases Nat.eq_zero_or_pos n with h0|h0
  · rcases h.2 with ⟨rfl,rfl⟩|⟨g,cap,cur,rfl,_⟩
    · exact ⟨none,0,rfl,hn,by omega,fun hp=>absurd hp (by omega)⟩
    · exact ⟨_,cap,rfl,hn,by omega,fun hp=>absurd hp (by omega)⟩
  · obtain ⟨g,cap,rfl,_,_⟩:=h.form h0
    have hm:n<=9223372036854775807:=by
      rcases h.2 with ⟨_,h1⟩|⟨g',cap',cur,he,_,_,h1,h2,_⟩
      · omega
      · simp only [maxLen] at h2
        omega
    refine ⟨_,cap,rfl,hn,hm,fun _=>⟨_,rfl,fun j p hj=>⟨(cs.drop (j*size)).take size, ?_,hR.2 j p hj,fun i u hu=> ?_⟩⟩⟩
    · have hjl:=(List.getElem?_eq_some_iff.1 hj).1
      have h1:j*size+size<=cs.length:=by rw [hR.1,<- Nat.succ_mul];exact Nat.mul_le_mul_right _ hjl
      rw [List.length_take,List.length_drop]
      omega
    · refine h.cells (g:=g) rfl _ u ?_
      rw [List.getElem?_take] at hu
      split at hu
      · rw [List.getElem?_drop] at hu
        exact hu
      · cases hu
section
variable {P:Program} {ops:Array Oper} {rest:List Oper} {o:Oper} {a:Act} {Q:Exit ->Act ->World ->Prop}
theorem sD {w0 W:World} (base:Nat) (hgd:o.guard=none) (s x:Operand) (t e:TypeId) (z:Value) (size bytes:Nat)
    (ho:o.op= .call {callee:= .builtin .append,args:= #[s,x],argTypes:= #[t,t]})
    (ht:P.underlying t=some (.slice e)) (hinfo:(P.info? e).map (fun i=>(i.zero,i.size,i.bytes))=some (some z,size,bytes)) (hz:z.cells.size=size) (hs0:0<size) (hb0:0<bytes)
    (v:Value) (n:Nat) (xs ys:List Value) (hs:a.eval s=v) (hx:a.eval x= .slice (some ⟨W.heap.size,0,none⟩) 1 1) (hys:ys.length=size) (h1:∀ u ∈ ys,u.oneCell'=true)
    (HO:W.ownsRow base e size v n xs) (HB:Below base w0 W) (hbase:base<=W.heap.size) (hl:(n+1)*bytes<=140737488355328)
    (h:∀ v1 w1,w1.ownsRow base e size v1 (n+1) (xs++ys) ->Below base w0 w1 ->W.grownBy w1 v.ownBlock ->(v1.ownBlock=v.ownBlock \/ ∃ b,v1.ownBlock=some b /\ W.heap.size<=b) ->wpList P ops Q rest (a.put o.dst v1) w1):
    wpList P ops Q (o::rest) a (W.alloc (.cells ys.toArray e)):=by
  obtain ⟨i0,hi,hzz⟩:=Option.map_eq_some_iff.1 hinfo;simp only [Prod.mk.injEq] at hzz
  obtain ⟨hz0,hz1,hz2⟩:=hzz;have hlen:n+1<=140737488355328:=Nat.le_trans (Nat.le_mul_of_pos_right _ hb0) hl
  refine wpList_append_own_at (W.alloc (.cells ys.toArray e)) hgd s x t ho base e i0 z size bytes ht hi hz0 hz1 hz2 hz hs0 v n xs hs (HO.alloc _) ⟨W.heap.size,0,none⟩ 1 1 ys hx (by rw [hys];simp)
    (by simpa using World.news_of_block (cs:=ys.toArray) (t:=e) (fr:=(0,0)) (heap_alloc_new W (.cells ys.toArray e))) h1 (by simp only [maxLen];omega) hl (by simp;omega) ?_
  intro v1 w1 hown hg _ hat;refine h v1 w1 hown ((HB.alloc hbase _).grown hg (by simp;omega) (wF HO)) (World.grownBy.trans (World.grownBy_alloc W _ _) hg) ?_
  rcases hat with hat|hat
  · exact .inl hat
  · exact .inr ⟨_,hat,by simp⟩
end
theorem Yt {w:World} {base:Nat} {e t:TypeId} {size n g:Nat} {v:Value} {xs:List Value} {cs:Array Value} (h:w.ownsRow base e size v n xs) (hg:w.heap[g]?=some (.cells cs t (0,0))) (hne:e≠t):some g≠v.ownBlock:=by
  rcases h.2 with ⟨rfl,_⟩|⟨g',cap,cur,rfl,_,hh,_⟩
  · simp [Value.ownBlock]
  · intro he
    have:g=g':=by simpa [Value.ownBlock] using he
    subst this;rw [hg] at hh
    injection hh with hh
    injection hh with _ ht
    exact hne ht.symm
theorem L8 {w:World} {g:Nat} {t:TypeId} {cs:Array Value} (h:w.heap[g]?=some (.cells cs t (0,0))) (i:Nat) (u:Value):(w.setCell ⟨g,i,none⟩ u).heap[g]?=some (.cells (cs.setIfInBounds i u) t (0,0)):=by
  simp [World.setCell,Array.getElem?_modify,h]
theorem jq {w:World} {g:Nat} {t:TypeId} {cs:Array Value} (h:w.heap[g]?=some (.cells cs t (0,0))) {p:Addr} (hp:g≠p.block) (u:Value):(w.setCell p u).heap[g]?=some (.cells cs t (0,0)):=(Below.heap_setCell w p u g hp).trans h
theorem mm {w:World} {g:Nat} {o:Obj} (h:w.heap[g]?=some o):g<w.heap.size:=(Array.getElem?_eq_some_iff.1 h).1
theorem aE {w:World} {g:Nat} {t:TypeId} {cs:Array Value} (h:w.heap[g]?=some (.cells cs t (0,0))) (i:Nat):w.cell? ⟨g,i,none⟩=cs[i]?:=cell_of_row w g i cs t (0,0) h
theorem ae {w:World} {g:Nat} {t:TypeId} {cs:Array Value} (h:w.heap[g]?=some (.cells cs t (0,0))) (i:Nat):w.frozen? ⟨g,i,none⟩=false:=by simp [World.frozen?,h]
theorem gV {w w1:World} {g:Nat} {o:Obj} {row:Option Nat} (h:w.heap[g]?=some o) (hg:w.grownBy w1 row) (hne:some g≠row):w1.heap[g]?=some o:=(hg.block g (mm h) hne).trans h
def nr (w w':World) (g:Nat) (row:Option Nat):Prop:=w.heap.size<=w'.heap.size /\ ∀ i,i<w.heap.size ->i≠g ->some i≠row ->w'.heap[i]?=w.heap[i]?
theorem nr.refl (w:World) (g:Nat) (row:Option Nat):nr w w g row:=⟨Nat.le_refl _,fun _ _ _ _=>rfl⟩
theorem nr.Cq {w w1:World} {row:Option Nat} (h:w.grownBy w1 row) (g:Nat):nr w w1 g row:=⟨h.size,fun i hi _ hr=>h.block i hi hr⟩
theorem nr.Ho {w w1:World} (h:Below w.heap.size w w1) (g:Nat) (row:Option Nat):nr w w1 g row:=⟨h.size,fun i hi _ _=>h.block i hi⟩
theorem nr.trans {w w1 w2:World} {g:Nat} {row Yu:Option Nat} (h:nr w w1 g row) (k:nr w1 w2 g Yu) (hr:Yu=row \/ ∃ b,Yu=some b /\ w.heap.size<=b):nr w w2 g row:=
  ⟨Nat.le_trans h.1 k.1,fun i hi hg hn=>by
    refine (k.2 i (Nat.lt_of_lt_of_le hi h.1) hg ?_).trans (h.2 i hi hg hn)
    rcases hr with rfl|⟨b,rfl,hb⟩
    · exact hn
    · intro e
      injection e with e
      omega⟩
theorem nr.blk {w w1:World} {g g':Nat} {row:Option Nat} {o:Obj} (h:nr w w1 g row) (hb:w.heap[g']?=some o) (hg:g'≠g) (hr:some g'≠row):w1.heap[g']?=some o:=(h.2 g' (mm hb) hg hr).trans hb
theorem nr.own {w w1:World} {g:Nat} {row:Option Nat} {base:Nat} {e:TypeId} {size n:Nat} {v:Value} {xs:List Value} (h:nr w w1 g row) (ho:w.ownsRow base e size v n xs) (hg:v.ownBlock≠some g) (hr:v.ownBlock=none \/ v.ownBlock≠row):w1.ownsRow base e size v n xs:=by
  obtain ⟨h1,h2⟩:=ho;refine ⟨h1, ?_⟩
  rcases h2 with h2|⟨b,cap,cur,rfl,hb,hh,r⟩
  · exact .inl h2
  · refine .inr ⟨b,cap,cur,rfl,hb,h.blk hh ?_ ?_,r⟩
    · intro e
      exact hg (by rw [<- e];rfl)
    · rcases hr with hr|hr
      · simp [Value.ownBlock] at hr
      · exact hr
def Ev {α:Type} (g:Nat ->Option α) (r:α):Prop:=∃ K,∀ k,K<=k ->g k=some r
theorem Ev.of {α:Type} {g:Nat ->Option α} {r:α} (hg:∀ k,ED (g k) (g (k+1))) {k:Nat} (h:g k=some r):Ev g r:=⟨k,fun _ hk=>Nt hg hk h⟩
theorem Ev.now {α:Type} (r:α):Ev (fun _=>some r) r:=⟨0,fun _ _=>rfl⟩
theorem Ev.bind {α β:Type} {g:Nat ->Option α} {f:Nat ->α ->Option β} {a:α} {r:β} (h:Ev g a) (k:Ev (fun n=>f n a) r):Ev (fun n=>(g n).bind (f n)) r:=by
  obtain ⟨K,h⟩:=h;obtain ⟨K',k⟩:=k;refine ⟨max K K',fun n hn=> ?_⟩;have h1:=h n (by omega);have h2:=k n (by omega);simp only [h1,bA];exact h2
theorem Ev.step {α:Type} {g f:Nat ->Option α} {r:α} (h:∀ k,g (k+1)=f k) (k:Ev f r):Ev g r:=by
  obtain ⟨K,k⟩:=k;refine ⟨K+1,fun n hn=> ?_⟩;obtain ⟨m,rfl⟩:∃ m,n=m+1:=⟨n - 1,by omega⟩
  rw [h];exact k m (by omega)
theorem Ev.congr {α:Type} {g f:Nat ->Option α} {r:α} (h:∀ k,g k=f k) (k:Ev f r):Ev g r:=by
  obtain ⟨K,k⟩:=k;exact ⟨K,fun n hn=>(h n).trans (k n hn)⟩
section
end
theorem Kq {w:World} {base base':Nat} {e:TypeId} {size n:Nat} {v:Value} {xs:List Value} (h:w.ownsRow base e size v n xs) (hb:base'<=base):w.ownsRow base' e size v n xs:=by
  obtain ⟨h1,h2⟩:=h;refine ⟨h1, ?_⟩
  rcases h2 with h2|⟨g,cap,cur,rfl,hg,r⟩
  · exact .inl h2
  · exact .inr ⟨g,cap,cur,rfl,Nat.le_trans hb hg,r⟩
section
variable {α:Type} {enc:α ->Value} {d:α}
def ur (enc:α ->Value) (xs:List α):List Value:=xs.map enc
def Th (d:α) (xs:List α) (i:Int):α:=xs.getD i.toNat d
theorem AV (xs:List α):(ur enc xs).length=xs.length:=by simp [ur]
theorem Pj (xs:List α) (j:Nat) (h:j<xs.length):(ur enc xs)[j]?=some (enc (xs.getD j d)):=by
  simp [ur,List.getElem?_eq_getElem h,List.getD_eq_getElem?_getD]
def ic (enc:α ->Value) (d:α) (w:World) (A:Option Addr) (n:Nat) (xs:List α):Prop:=
  xs.length=n /\ n<=9223372036854775807 /\ (0<n ->∃ ad,A=some ad /\ ∀ j,j<n ->w.cell? (ad.add j)=some (enc (xs.getD j d)))
theorem ic.at_ {w:World} {A:Option Addr} {n:Nat} {xs:List α} (h:ic enc d w A n xs) (i:Int) (h0:0<=i) (h1:i<n):∃ ad,A=some ad /\ w.cell? (ad.add i.toNat)=some (enc (Th d xs i)):=by
  obtain ⟨ad,e,hc⟩:=h.2.2 (by omega);exact ⟨ad,e,hc _ (by omega)⟩
theorem ic.below {w w1:World} {A:Option Addr} {n:Nat} {xs:List α} (h:ic enc d w A n xs) (hb:Below w.heap.size w w1):ic enc d w1 A n xs:=
  ⟨h.1,h.2.1,fun hn=>by
    obtain ⟨ad,e,hc⟩:=h.2.2 hn
    exact ⟨ad,e,fun j hj=>tO hb (hc j hj)⟩⟩
theorem ic.gK {w:World} {A:Option Addr} {n:Nat} {xs:List α} (h:ic enc d w A n xs) (i:Nat) (hi:i<=n):ic enc d w A i (xs.take i):=by
  refine ⟨by rw [List.length_take,h.1];omega,by have:=h.2.1;omega,fun hp=> ?_⟩;obtain ⟨ad,e,hc⟩:=h.2.2 (by omega);refine ⟨ad,e,fun j hj=> ?_⟩;rw [hc j (by omega)]
  simp [List.getD_eq_getElem?_getD,hj]
theorem ic.Hl {w:World} {A:Option Addr} {n c:Nat} {xs:List α} (h:ic enc d w A n xs) (i:Nat) (hi:i<=n) (hc:n<=c):ic enc d w (if c=i then A else A.map (·.add i)) (n - i) (xs.drop i):=by
  refine ⟨by rw [List.length_drop,h.1],by have:=h.2.1;omega,fun hp=> ?_⟩;obtain ⟨ad,rfl,hcell⟩:=h.2.2 (by omega);rw [ax (by omega)];refine ⟨ad.add i,rfl,fun j hj=> ?_⟩
  have ha:(ad.add i).add j=ad.add (i+j):=by
    unfold Addr.add
    by_cases h1:i=0<;>by_cases h2:j=0<;>simp [h1,h2,Nat.add_assoc]
  rw [ha,hcell (i+j) (by omega)]
  simp [List.getD_eq_getElem?_getD,List.getElem?_drop]
theorem FA {P:Program} (enc:α ->Value) (d:α) (t e:TypeId) (kl:IntKind) {i:TypeInfo} (ht:P.underlying t=some (.slice e)) (hi:P.info? e=some i) (hsz:i.size=1) (A:Option Addr) (n c m:Nat) (hm:m<=n):
    ∃ A':Option Addr,(∀ W:World,(Instr.slice t (.slice A n c) (some (.int kl (m:Int))) none none).run P W= .ok (.slice A' (n - m) (c - m)) W) /\
      ∀ (w:World) (xs:List α),n<=c ->ic enc d w A n xs ->ic enc d w A' (n - m) (xs.drop m):=by
  refine ⟨if c=m then A else A.map (·.add m),fun W=> ?_,fun w xs hc h=>h.Hl m hm hc⟩;have hel:P.elem t=e:=by simp [Program.elem,ht]
  have hu:P.underlying t=some (.slice (P.elem t)):=by rw [hel];exact ht
  rw [run_slice_l W t A n c hu kl (m:Int) (Int.natCast_nonneg _) (by omega),hel]
  simp [sizeOf,typeInfo,hi,hsz,sliced,Result.andThen]
theorem Nu {W:World} {base g n cap:Nat} {e:TypeId} {xs:List α} (h:W.ownsRow base e 1 (.slice (some ⟨g,0,none⟩) n cap) n (ur enc xs)) (i:Int) (h0:0<=i) (h1:i<n):
    W.cell? ⟨g,i.toNat,none⟩=some (enc (Th d xs i)) /\ W.frozen? ⟨g,i.toNat,none⟩=false:=by
  have hl:xs.length=n:=by have:=h.1;simp [ur] at this;exact this
  constructor
  · have hc:=h.cells (g:=g) rfl i.toNat _ (Pj (d:=d) xs i.toNat (by omega))
    rwa [add_plain] at hc
  · rcases h.2 with ⟨h',_⟩|⟨g',cap',cur,h',_,hh,_⟩
    · cases h'
    · have:g=g':=by injection h' with h';injection h' with h';injection h' with h'
      subst this
      simp [World.frozen?,hh]
theorem FB {W:World} {base g n cap:Nat} {e:TypeId} {xs:List α} (h:W.ownsRow base e 1 (.slice (some ⟨g,0,none⟩) n cap) n (ur enc xs)) (i:Int) (x:α):
    (W.setCell ⟨g,i.toNat,none⟩ (enc x)).ownsRow base e 1 (.slice (some ⟨g,0,none⟩) n cap) n (ur enc (xs.set i.toNat x)) /\ W.grownBy (W.setCell ⟨g,i.toNat,none⟩ (enc x)) (some g):=by
  have hs:=h.stored i.toNat (enc x);have he:(ur enc xs).set i.toNat (enc x)=ur enc (xs.set i.toNat x):=by simp [ur,List.map_set]
  rwa [he] at hs
end
section
end
theorem aM {w:World} {g:Nat} {o:Obj} (h:w.heap[g]?=some o) (o':Obj):(w.alloc o').heap[g]?=some o:=(Below.heap_alloc w o' g (mm h)).trans h
theorem aK {w:World} {g:Nat} {o:Obj} (h:w.heap[g]?=some o):w.drew.heap[g]?=some o:=h
theorem aN {w:World} {g:Nat} {o:Obj} (h:w.heap[g]?=some o) (n:Nat):(w.drewN n).heap[g]?=some o:=h
theorem bn {w w1:World} {g:Nat} {o:Obj} (h:w.heap[g]?=some o) (hb:Below w.heap.size w w1):w1.heap[g]?=some o:=(hb.block g (mm h)).trans h
theorem Ti (w:World) (o:Obj):(w.alloc o).heap[w.heap.size]?=some o:=heap_alloc_new w o
section
variable {P:Program}
theorem fC {fn:Func} {p u:Tmp} {ty:TypeId} (h:fn.results= #[.cell p ty,.tmp u]) (tmps:Array Value) (w:World) (g:Nat) (t:TypeId) (cs:Array Value) (fr:Nat×Nat) (d:TypeDesc)
    (hp:tmps.getD p undef= .pointer (some ⟨g,0,none⟩)) (hg:w.heap[g]?=some (.cells cs t fr))
    (hu:P.underlying ty=some d) (hd:(match d with| .struct _| .array _ _=>true|_=>false)=true) (hi:(P.info? ty).map (·.size)=some cs.size):
    (results fn tmps).run P w= .ok (.tuple #[.agg cs,tmps.getD u undef]) w:=by
  have hp':tmps[p]?.getD undef= .pointer (some ⟨g,0,none⟩):=by simpa using hp
  simp [results,h,hp',asAddr,run_loadVar_row w g t ty cs fr d hg hu hd hi]
end
theorem Yv {w:World} {base n m c size:Nat} {e:TypeId} {A:Option Addr} {xs:List Value} (h:w.ownsRow base e size (.slice A m c) n xs):m<=c:=by
  rcases h.2 with ⟨he,_⟩|⟨g,cap,cur,he,_,_,hnc,_⟩
  · injection he with _ h2 h3
    omega
  · injection he with _ h2 h3
    omega
def lB {α:Type} (R:α ->List Value ->Prop) (e:TypeId) (size:Nat) (w:World) (base:Nat) (v:Value) (ps:List α):Prop:=
  ∃ inner,w.ownsRow base e size v ps.length inner /\ cI R size ps inner
section
variable {α:Type} {R R':α ->List Value ->Prop} {e:TypeId} {size:Nat} {w w1:World} {base:Nat} {v:Value} {ps:List α}
theorem lB.none_ (R:α ->List Value ->Prop) (e:TypeId) (size:Nat) (w:World) (base:Nat):lB R e size w base (.slice none 0 0) []:=⟨[],Tg _ _ _ _,cI.none _ _⟩
theorem lB.tP (h:lB R e size w base v ps) (hR:∀ p c,R p c ->R' p c):lB R' e size w base v ps:=by
  obtain ⟨inner,ho,hr⟩:=h;exact ⟨inner,ho,hr.tP hR⟩
theorem lB.below (h:lB R e size w base v ps) (hb:Below w.heap.size w w1):lB R e size w1 base v ps:=by
  obtain ⟨inner,ho,hr⟩:=h;exact ⟨inner,Fz ho hb,hr⟩
theorem lB.other (h:lB R e size w base v ps) {row:Option Nat} (hg:w.grownBy w1 row) (hne:v.ownBlock=none \/ v.ownBlock≠row):lB R e size w1 base v ps:=by
  obtain ⟨inner,ho,hr⟩:=h;exact ⟨inner,Nr ho hg hne,hr⟩
theorem lB.reads (h:lB R e size w base v ps):∃ A c,v= .slice A ps.length c /\ ps.length<=c /\ kr R size w A ps.length ps:=by
  obtain ⟨inner,ho,hr⟩:=h;obtain ⟨A,c,rfl,hrow⟩:=Eg ho hr rfl;exact ⟨A,c,rfl,Yv ho,hrow⟩
theorem lB.Pk (h:lB R e size w base v ps) {g:Nat} {t:TypeId} {cells:Array Value} (hb:w.heap[g]?=some (.cells cells t (0,0))) (ht:e≠t):some g≠v.ownBlock:=by
  obtain ⟨inner,ho,hr⟩:=h;exact Yt ho hb ht
end
section
variable {P:Program} {ops:Array Oper} {rest:List Oper} {o:Oper} {a:Act} {Q:Exit ->Act ->World ->Prop} {α:Type} {R:α ->List Value ->Prop}
theorem lB.append {w0 W:World} (base:Nat) (hgd:o.guard=none) (s x:Operand) (t e:TypeId) (z:Value) (size bytes:Nat)
    (ho:o.op= .call {callee:= .builtin .append,args:= #[s,x],argTypes:= #[t,t]})
    (ht:P.underlying t=some (.slice e)) (hinfo:(P.info? e).map (fun i=>(i.zero,i.size,i.bytes))=some (some z,size,bytes)) (hz:z.cells.size=size) (hs0:0<size) (hb0:0<bytes)
    (v:Value) (ps:List α) (p:α) (cs:List Value) (hs:a.eval s=v) (hx:a.eval x= .slice (some ⟨W.heap.size,0,none⟩) 1 1) (hp:R p cs) (hcs:cs.length=size) (h1:∀ u ∈ cs,u.oneCell'=true)
    (HO:lB R e size W base v ps) (HB:Below base w0 W) (hbase:base<=W.heap.size) (hl:(ps.length+1)*bytes<=140737488355328)
    (h:∀ v1 w1,lB R e size w1 base v1 (ps++[p]) ->Below base w0 w1 ->W.grownBy w1 v.ownBlock ->(v1.ownBlock=v.ownBlock \/ ∃ b,v1.ownBlock=some b /\ W.heap.size<=b) ->wpList P ops Q rest (a.put o.dst v1) w1):
    wpList P ops Q (o::rest) a (W.alloc (.cells cs.toArray e)):=by
  obtain ⟨inner,hown,hr⟩:=HO;refine sD base hgd s x t e z size bytes ho ht hinfo hz hs0 hb0 v ps.length inner cs hs hx hcs h1 hown HB hbase hl ?_;intro v1 w1 hown1 hb1 hg1 Tj;exact h v1 w1 ⟨inner++cs,by rw [List.length_append,List.length_singleton];exact hown1,hr.snoc hp hcs⟩ hb1 hg1 Tj
end
section
end
theorem kr.Pm {α:Type} {R:α ->List Value ->Prop} {size:Nat} {w:World} {ad:Addr} {n:Nat} {ps:List α} (h:kr R size w (some ad) n ps):
    ∃ inner,cI R size ps inner /\ ∀ j u,inner[j]?=some u ->w.cell? (ad.add j)=some u:=by
  have key:∀ m,m<=ps.length ->∃ inner,cI R size (ps.take m) inner /\ ∀ j u,inner[j]?=some u ->w.cell? (ad.add j)=some u:=by
    intro m
    induction m with
    |zero=>exact fun _=>⟨[],cI.none _ _,fun j u hu=>by simp at hu⟩
    |succ m ih=>
      intro hm;obtain ⟨inner,hr,hc⟩:=ih (by omega);obtain ⟨ad',he,hcell⟩:=h.2.2 (by have:=h.1;omega)
      injection he with he
      subst he;obtain ⟨c,hcl,hp,hcc⟩:=hcell m _ (List.getElem?_eq_getElem (show m<ps.length by omega));refine ⟨inner++c, ?_,fun j u hu=> ?_⟩
      · rw [List.take_succ_eq_append_getElem (show m<ps.length by omega)]
        exact hr.snoc hp hcl
      · have hil:inner.length=m*size:=by rw [hr.1,List.length_take,Nat.min_eq_left (by omega)]
        rcases Nat.lt_or_ge j inner.length with hj|hj
        · rw [List.getElem?_append_left hj] at hu
          exact hc j u hu
        · rw [List.getElem?_append_right hj] at hu
          have:=hcc (j - inner.length) u hu
          rwa [hil,Nat.add_sub_cancel' (by omega)] at this
  obtain ⟨inner,hr,hc⟩:=key ps.length (Nat.le_refl _);rw [List.take_length] at hr
  exact ⟨inner,hr,hc⟩
section
variable {α:Type} {P:Program}
theorem oK (enc:α ->Value) (d:α) (t e:TypeId) (kl:IntKind) {i:TypeInfo} (ht:P.underlying t=some (.slice e)) (hi:P.info? e=some i) (hsz:i.size=1) (A:Option Addr) (c:Nat) (xs:List α) (j:Int) (h0:0<=j) (hm:j<=xs.length) (hc:xs.length<=c):
    (∀ W:World,(Instr.slice t (.slice A xs.length c) none (some (.int kl j)) none).run P W= .ok (.slice A (xs.take j.toNat).length c) W) /\
      (∀ w:World,ic enc d w A xs.length xs ->ic enc d w A (xs.take j.toNat).length (xs.take j.toNat)) /\ (xs.take j.toNat).length<=c:=by
  have hl:(xs.take j.toNat).length=j.toNat:=by rw [List.length_take];omega
  refine ⟨fun W=> ?_,fun w h=>by rw [hl];exact h.gK j.toNat (by omega),by rw [hl];omega⟩;have hel:P.elem t=e:=by simp [Program.elem,ht]
  have hu:P.underlying t=some (.slice (P.elem t)):=by rw [hel];exact ht
  have ha:(A.map fun x=>x.add 0)=A:=by cases A<;>simp [Addr.add]
  rw [run_slice_h W t A xs.length c hu kl j h0 (by omega),hel,hl]
  simp [sizeOf,typeInfo,hi,hsz,sliced,Result.andThen,ha]
theorem fR (enc:α ->Value) (d:α) (t e:TypeId) (kl:IntKind) {i:TypeInfo} (ht:P.underlying t=some (.slice e)) (hi:P.info? e=some i) (hsz:i.size=1) (A:Option Addr) (c:Nat) (xs:List α) (j:Int) (h0:0<=j) (hm:j<=xs.length) (hc:xs.length<=c):
    ∃ A':Option Addr,(∀ W:World,(Instr.slice t (.slice A xs.length c) (some (.int kl j)) none none).run P W= .ok (.slice A' (xs.drop j.toNat).length (c - j.toNat)) W) /\
      (∀ w:World,ic enc d w A xs.length xs ->ic enc d w A' (xs.drop j.toNat).length (xs.drop j.toNat)) /\ (xs.drop j.toNat).length<=c - j.toNat:=by
  obtain ⟨m,rfl⟩:=Int.eq_ofNat_of_zero_le h0;simp only [Int.toNat_natCast];have hmn:m<=xs.length:=by omega
  obtain ⟨A',h1,h2⟩:=FA (P:=P) enc d t e kl ht hi hsz A xs.length c m hmn;have hl:(xs.drop m).length=xs.length - m:=List.length_drop;exact ⟨A',fun W=>by rw [hl];exact h1 W,fun w h=>by rw [hl];exact h2 w xs hc h,by rw [hl];omega⟩
theorem uK (enc:α ->Value) (d:α) (t e:TypeId) (kl kh:IntKind) {i:TypeInfo} (ht:P.underlying t=some (.slice e)) (hi:P.info? e=some i) (hsz:i.size=1) (A:Option Addr) (c:Nat) (xs:List α) (a b:Int) (h0:0<=a) (h1:a<=b) (hm:b<=xs.length) (hc:xs.length<=c):
    ∃ A':Option Addr,(∀ W:World,(Instr.slice t (.slice A xs.length c) (some (.int kl a)) (some (.int kh b)) none).run P W= .ok (.slice A' ((xs.take b.toNat).drop a.toNat).length (c - a.toNat)) W) /\
      (∀ w:World,ic enc d w A xs.length xs ->ic enc d w A' ((xs.take b.toNat).drop a.toNat).length ((xs.take b.toNat).drop a.toNat)) /\ ((xs.take b.toNat).drop a.toNat).length<=c - a.toNat:=by
  have hlt:(xs.take b.toNat).length=b.toNat:=by rw [List.length_take];omega
  have hl:((xs.take b.toNat).drop a.toNat).length=b.toNat - a.toNat:=by rw [List.length_drop,hlt]
  refine ⟨if c=a.toNat then A else A.map (·.add a.toNat),fun W=> ?_,fun w h=> ?_,by rw [hl];omega⟩
  · have hel:P.elem t=e:=by simp [Program.elem,ht]
    have hu:P.underlying t=some (.slice (P.elem t)):=by rw [hel];exact ht
    rw [run_slice_lh W t A xs.length c hu kl kh a b h0 h1 (by omega),hel,hl]
    simp [sizeOf,typeInfo,hi,hsz,sliced,Result.andThen]
  · have h2:=(h.gK b.toNat (by omega)).Hl (c:=c) a.toNat (by omega) (by omega)
    rw [hl];exact h2
end
section
end
structure Kd (α:Type) where
  sz:Nat
  E:List Nat
  K:World ->α ->List Value ->Prop
  M:World ->Nat ->(Nat ->Prop) ->α ->List Value ->Prop
  rK:∀ {w x cs},K w x cs ->cs.length=sz
  qo:∀ {w x cs},K w x cs ->∀ u ∈ cs,u.oneCell'=true
  nT:∀ {w w1:World} {x cs},Below w.heap.size w w1 ->K w x cs ->K w1 x cs
  lC:∀ {w base ok x cs},M w base ok x cs ->K w x cs
  jR:∀ {w base ok ok' x cs},(∀ k,ok k ->ok' k) ->M w base ok x cs ->M w base ok' x cs
  jM:∀ {w:World} {base ok x cs},M w base ok x cs ->M w base (fun k=>ok k /\ base<=k /\ k<w.heap.size /\ ∃ q,q ∈ E /\ ∃ cells,w.heap[k]?=some (.cells cells q (0,0))) x cs
  nh:∀ {w w1:World} {base ok x cs},(∀ k,ok k ->w1.heap[k]?=w.heap[k]?) ->M w base ok x cs ->M w1 base ok x cs
  nU:∀ {w base base' ok x cs},base'<=base ->M w base ok x cs ->M w base' ok x cs
theorem Pn {w w1:World} {base:Nat} {e:TypeId} {size n:Nat} {v:Value} {xs:List Value} (h:w.ownsRow base e size v n xs) (hm:∀ k,v.ownBlock=some k ->w1.heap[k]?=w.heap[k]?):w1.ownsRow base e size v n xs:=by
  obtain ⟨h1,h2⟩:=h;refine ⟨h1, ?_⟩
  rcases h2 with h2|⟨g,cap,cur,rfl,hg,hh,r⟩
  · exact .inl h2
  · exact .inr ⟨g,cap,cur,rfl,hg,(hm g (by simp [Value.ownBlock])).trans hh,r⟩
theorem z6 {w:World} {base:Nat} {e:TypeId} {size n:Nat} {v:Value} {xs:List Value} (h:w.ownsRow base e size v n xs) (k:Nat) (hk:v.ownBlock=some k):∃ cells,w.heap[k]?=some (.cells cells e (0,0)):=by
  rcases h.2 with ⟨rfl,_⟩|⟨g,cap,cur,rfl,hg,hh,r⟩
  · simp [Value.ownBlock] at hk
  · have:g=k:=by simpa [Value.ownBlock] using hk
    subst this;exact ⟨cur,hh⟩
namespace Kd
def C {α:Type} (d:Kd α) (w:World) (A:Option Addr) (n:Nat) (xs:List α):Prop:=kr (d.K w) d.sz w A n xs
def R {α:Type} (d:Kd α) (e:Nat) (w:World) (base:Nat) (ok:Nat ->Prop) (v:Value) (xs:List α):Prop:=
  (∀ k,v.ownBlock=some k ->ok k) /\ lB (d.M w base (fun k=>ok k /\ some k≠v.ownBlock)) e d.sz w base v xs
section
variable {α:Type} {d:Kd α} {e:Nat} {w w1:World} {base:Nat} {ok ok':Nat ->Prop} {v:Value} {xs:List α}
theorem aU {A:Option Addr} {n:Nat} (h:d.C w A n xs) (hb:Below w.heap.size w w1):d.C w1 A n xs:=kr.tP h hb (fun _ _ hp=>d.nT hb hp)
theorem cl (d:Kd α) (e:Nat) (w:World) (base:Nat) (ok:Nat ->Prop):d.R e w base ok (.slice none 0 0) []:=⟨fun k hk=>by simp [Value.ownBlock] at hk,lB.none_ _ _ _ _ _⟩
theorem dm (h:d.R e w base ok v xs) (hok:∀ k,ok k ->ok' k):d.R e w base ok' v xs:=⟨fun k hk=>hok k (h.1 k hk),h.2.tP (fun _ _ hp=>d.jR (fun k hk=>⟨hok k hk.1,hk.2⟩) hp)⟩
theorem qL (h:d.R e w base ok v xs):d.R e w base (fun k=>ok k /\ base<=k /\ k<w.heap.size /\ ∃ q,q ∈ e::d.E /\ ∃ cells,w.heap[k]?=some (.cells cells q (0,0))) v xs:=by
  obtain ⟨h0,inner,ho,hr⟩:=h;refine ⟨fun k hk=> ?_,inner,ho,hr.tP (fun _ _ hp=>d.jR (fun k hk=> ?_) (d.jM hp))⟩
  · obtain ⟨cells,hc⟩:=z6 ho k hk
    exact ⟨h0 k hk,wF ho k hk,Ph ho k hk,e,List.mem_cons_self,cells,hc⟩
  · obtain ⟨⟨h1,h2⟩,h3,h4,q,hq,hc⟩:=hk
    exact ⟨⟨h1,h3,h4,q,List.mem_cons_of_mem _ hq,hc⟩,h2⟩
theorem Cr (h:d.R e w base ok v xs) (hm:∀ k,ok k ->w1.heap[k]?=w.heap[k]?):d.R e w1 base ok v xs:=by
  obtain ⟨h0,inner,ho,hr⟩:=h;exact ⟨h0,inner,Pn ho (fun k hk=>hm k (h0 k hk)),hr.tP (fun _ _ hp=>d.nh (fun k hk=>hm k hk.1) hp)⟩
theorem bP {base':Nat} (h:d.R e w base ok v xs) (hb:base'<=base):d.R e w base' ok v xs:=by
  obtain ⟨h0,inner,ho,hr⟩:=h;exact ⟨h0,inner,Kq ho hb,hr.tP (fun _ _ hp=>d.nU hb hp)⟩
theorem wG (h:d.R e w base ok v xs) (hm:∀ k,ok k ->k<w.heap.size ->w1.heap[k]?=w.heap[k]?):d.R e w1 base ok v xs:=
  dm (Cr (qL h) (fun k hk=>hm k hk.1 hk.2.2.1)) (fun _ hk=>hk.1)
theorem Po {x:α} {cs:List Value} (h:d.M w base ok x cs) (hm:∀ k,ok k ->k<w.heap.size ->w1.heap[k]?=w.heap[k]?):d.M w1 base ok x cs:=
  d.jR (fun _ hk=>hk.1) (d.nh (fun k hk=>hm k hk.1 hk.2.2.1) (d.jM h))
theorem fU (h:d.R e w base ok v xs) (hb:Below w.heap.size w w1):d.R e w1 base ok v xs:=wG h (fun k _ hk=>hb.block k hk)
theorem L9 {x:α} {cs:List Value} (h:d.M w base ok x cs) (hb:Below w.heap.size w w1):d.M w1 base ok x cs:=Po h (fun k _ hk=>hb.block k hk)
theorem eF (h:d.R e w base ok v xs) {p:Addr} (hok:∀ k,ok k ->k≠p.block) (u:Value):d.R e (w.setCell p u) base ok v xs:=wG h (fun k ho _=>Below.heap_setCell w p u k (hok k ho))
theorem mL (h:d.R e w base ok v xs) {g t:Nat} {cells:Array Value} (hb:w.heap[g]?=some (.cells cells t (0,0))) (ht:∀ q,q ∈ e::d.E ->q≠t):d.R e w base (fun k=>ok k /\ k≠g) v xs:=
  dm (qL h) (fun k hk=>⟨hk.1,by
    obtain ⟨_,_,_,q,hq,cells',hc⟩:=hk;rintro rfl;rw [hc] at hb
    injection hb with hb
    injection hb with _ hb
    exact ht q hq hb⟩)
theorem og (h:d.R e w base ok v xs) {g t:Nat} {cells:Array Value} (hb:w.heap[g]?=some (.cells cells t (0,0))) (ht:∀ q,q ∈ e::d.E ->q≠t) (j:Nat) (u:Value):d.R e (w.setCell ⟨g,j,none⟩ u) base ok v xs:=
  dm (eF (p:=⟨g,j,none⟩) (mL h hb ht) (fun _ hk=>hk.2) u) (fun _ hk=>hk.1)
theorem bW (h:d.R e w base ok v xs):∃ A c,v= .slice A xs.length c /\ xs.length<=c /\ d.C w A xs.length xs:=by
  obtain ⟨A,c,he,hl,hr⟩:=lB.reads h.2;exact ⟨A,c,he,hl,hr.tP (Below.refl _ _) (fun _ _ hp=>d.lC hp)⟩
theorem da (h:d.R e w base ok v xs):∃ A c,v= .slice A xs.length c:=by
  obtain ⟨A,c,he,_⟩:=bW h;exact ⟨A,c,he⟩
theorem Ma (h:d.R e w base ok v xs):∃ inner,w.ownsRow base e d.sz v xs.length inner:=by
  obtain ⟨_,inner,ho,_⟩:=h;exact ⟨inner,ho⟩
theorem nw (h:d.R e w base ok v xs) {g t:Nat} {cells:Array Value} (hb:w.heap[g]?=some (.cells cells t (0,0))) (ht:e≠t):some g≠v.ownBlock:=lB.Pk h.2 hb ht
end
def scalar {α:Type} (enc:α ->Value) (h1:∀ x,(enc x).oneCell'=true):Kd α where
  sz:=1
  E:=[]
  K:=fun _ x cs=>cs=[enc x]
  M:=fun _ _ _ x cs=>cs=[enc x]
  rK:=fun h=>by rw [h];rfl
  qo:=fun h u hu=>by
    rw [h] at hu
    rw [List.mem_singleton.1 hu];exact h1 _
  nT:=fun _ h=>h
  lC:=fun h=>h
  jR:=fun _ h=>h
  jM:=fun h=>h
  nh:=fun _ h=>h
  nU:=fun _ h=>h
def int (k:IntKind):Kd Int:=scalar (Value.int k) (fun _=>rfl)
def bool:Kd Bool:=scalar Value.bool (fun _=>rfl)
def string:Kd ByteArray:=scalar Value.string (fun _=>rfl)
def slice {α:Type} (e:Nat) (d:Kd α):Kd (List α) where
  sz:=1
  E:=e::d.E
  K:=fun w xs cs=>∃ A c,cs=[.slice A xs.length c] /\ xs.length<=c /\ d.C w A xs.length xs
  M:=fun w base ok xs cs=>∃ v,cs=[v] /\ d.R e w base ok v xs
  rK:=by
    rintro w x cs ⟨A,c,rfl,_⟩
    rfl
  qo:=by
    rintro w x cs ⟨A,c,rfl,_⟩ u hu;rw [List.mem_singleton.1 hu]
    rfl
  nT:=by
    rintro w w1 x cs hb ⟨A,c,rfl,hl,hr⟩;exact ⟨A,c,rfl,hl,aU hr hb⟩
  lC:=by
    rintro w base ok x cs ⟨v,rfl,h⟩;obtain ⟨A,c,rfl,hl,hr⟩:=bW h;exact ⟨A,c,rfl,hl,hr⟩
  jR:=by
    rintro w base ok ok' x cs hok ⟨v,rfl,h⟩;exact ⟨v,rfl,dm h hok⟩
  jM:=by
    rintro w base ok x cs ⟨v,rfl,h⟩;exact ⟨v,rfl,qL h⟩
  nh:=by
    rintro w w1 base ok x cs hm ⟨v,rfl,h⟩;exact ⟨v,rfl,Cr h hm⟩
  nU:=by
    rintro w base base' ok x cs hb ⟨v,rfl,h⟩;exact ⟨v,rfl,bP h hb⟩
def pair {α β:Type} (a:Kd α) (b:Kd β):Kd (α×β) where
  sz:=a.sz+b.sz
  E:=a.E++b.E
  K:=fun w x cs=>∃ c0 c1,cs=c0++c1 /\ a.K w x.1 c0 /\ b.K w x.2 c1
  M:=fun w base ok x cs=>∃ c0 c1,cs=c0++c1 /\ a.M w base ok x.1 c0 /\ b.M w base ok x.2 c1
  rK:=by
    rintro w x cs ⟨c0,c1,rfl,h0,h1⟩;rw [List.length_append,a.rK h0,b.rK h1]
  qo:=by
    rintro w x cs ⟨c0,c1,rfl,h0,h1⟩ u hu
    rcases List.mem_append.1 hu with hu|hu
    · exact a.qo h0 u hu
    · exact b.qo h1 u hu
  nT:=by
    rintro w w1 x cs hb ⟨c0,c1,rfl,h0,h1⟩;exact ⟨c0,c1,rfl,a.nT hb h0,b.nT hb h1⟩
  lC:=by
    rintro w base ok x cs ⟨c0,c1,rfl,h0,h1⟩;exact ⟨c0,c1,rfl,a.lC h0,b.lC h1⟩
  jR:=by
    rintro w base ok ok' x cs hok ⟨c0,c1,rfl,h0,h1⟩;exact ⟨c0,c1,rfl,a.jR hok h0,b.jR hok h1⟩
  jM:=by
    rintro w base ok x cs ⟨c0,c1,rfl,h0,h1⟩;refine ⟨c0,c1,rfl,a.jR ?_ (a.jM h0),b.jR ?_ (b.jM h1)⟩
    · rintro k ⟨h2,h3,h4,q,hq,hc⟩
      exact ⟨h2,h3,h4,q,List.mem_append_left _ hq,hc⟩
    · rintro k ⟨h2,h3,h4,q,hq,hc⟩
      exact ⟨h2,h3,h4,q,List.mem_append_right _ hq,hc⟩
  nh:=by
    rintro w w1 base ok x cs hm ⟨c0,c1,rfl,h0,h1⟩;exact ⟨c0,c1,rfl,a.nh hm h0,b.nh hm h1⟩
  nU:=by
    rintro w base base' ok x cs hb ⟨c0,c1,rfl,h0,h1⟩;exact ⟨c0,c1,rfl,a.nU hb h0,b.nU hb h1⟩
def iso {α β:Type} (d:Kd α) (f:β ->α):Kd β where
  sz:=d.sz
  E:=d.E
  K:=fun w x cs=>d.K w (f x) cs
  M:=fun w base ok x cs=>d.M w base ok (f x) cs
  rK:=d.rK
  qo:=d.qo
  nT:=d.nT
  lC:=d.lC
  jR:=d.jR
  jM:=d.jM
  nh:=d.nh
  nU:=d.nU
theorem AcJ {α:Type} {d:Kd α} {w:World} {A:Option Addr} {n:Nat} {xs:List α} (h:d.C w A n xs) (z:α) (i:Int) (h0:0<=i) (h1:i<n):
    ∃ ad c,A=some ad /\ c.length=d.sz /\ d.K w (xs.getD i.toNat z) c /\ ∀ j u,c[j]?=some u ->w.cell? (ad.add (i.toNat*d.sz+j))=some u:=kr.AkC h z i h0 h1
theorem Kr {α:Type} {d:Kd α} {e base:Nat} {ok rq:Nat ->Prop} {W w1:World} {v v1:Value} {xs:List α} {p:α} {inner cs:List Value} (h0:∀ k,v.ownBlock=some k ->ok k) (hr:cI (d.M W base (fun k=>ok k /\ some k≠v.ownBlock)) d.sz xs inner) (hp:d.M W base rq p cs) (Ks:∀ k,rq k ->ok k /\ some k≠v.ownBlock) (mM:∀ k,W.heap.size<=k ->ok k)
    (hown:w1.ownsRow base e d.sz v1 (xs.length+1) (inner++cs)) (hg:W.grownBy w1 v.ownBlock) (hat:v1.ownBlock=v.ownBlock \/ ∃ b,v1.ownBlock=some b /\ W.heap.size<=b):d.R e w1 base ok v1 (xs++[p]):=by
  have hne:∀ k,some k≠v.ownBlock ->k<W.heap.size ->some k≠v1.ownBlock:=by
    intro k hk hlt
    rcases hat with hat|⟨b,hb,hle⟩
    · rw [hat];exact hk
    · rw [hb]
      intro he
      injection he with he
      omega
  have step:∀ {q:α} {c:List Value} {o:Nat ->Prop},d.M W base o q c ->(∀ k,o k ->ok k /\ some k≠v.ownBlock) ->d.M w1 base (fun k=>ok k /\ some k≠v1.ownBlock) q c:=by
    intro q c o hq ho;have h1:=d.nh (w1:=w1) (fun k hk=>hg.block k hk.2.2.1 (ho k hk.1).2) (d.jM hq);exact d.jR (fun k hk=>⟨(ho k hk.1).1,hne k (ho k hk.1).2 hk.2.2.1⟩) h1
  refine ⟨fun k hk=> ?_,inner++cs,by rw [List.length_append,List.length_singleton];exact hown, ?_⟩
  · rcases hat with hat|⟨b,hb,hle⟩
    · exact h0 k (hat ▸ hk)
    · rw [hb] at hk
      injection hk with hk
      exact mM k (by omega)
  · exact (hr.tP (fun _ _ hq=>step hq (fun _ hk=>hk))).snoc (step hp Ks) (d.rK (d.lC hp))
section
variable {P:Program} {ops:Array Oper} {rest:List Oper} {o:Oper} {a:Act} {Q:Exit ->Act ->World ->Prop} {α:Type}
theorem yV (d:Kd α) {w0 W:World} (base:Nat) (hgd:o.guard=none) (s x:Operand) (t e:TypeId) (z:Value) (bytes:Nat)
    (ho:o.op= .call {callee:= .builtin .append,args:= #[s,x],argTypes:= #[t,t]})
    (ht:P.underlying t=some (.slice e)) (hinfo:(P.info? e).map (fun i=>(i.zero,i.size,i.bytes))=some (some z,d.sz,bytes)) (hz:z.cells.size=d.sz) (hs0:0<d.sz) (hb0:0<bytes)
    (v:Value) (xs:List α) (p:α) (cs:List Value) (ok rq:Nat ->Prop) (hs:a.eval s=v) (hx:a.eval x= .slice (some ⟨W.heap.size,0,none⟩) 1 1) (hp:d.M W base rq p cs) (Ks:∀ k,rq k ->ok k /\ some k≠v.ownBlock) (mM:∀ k,W.heap.size<=k ->ok k)
    (HO:d.R e W base ok v xs) (HB:Below base w0 W) (hbase:base<=W.heap.size) (hl:(xs.length+1)*bytes<=140737488355328)
    (h:∀ v1 w1,d.R e w1 base ok v1 (xs++[p]) ->Below base w0 w1 ->W.grownBy w1 v.ownBlock ->(v1.ownBlock=v.ownBlock \/ ∃ b,v1.ownBlock=some b /\ W.heap.size<=b) ->wpList P ops Q rest (a.put o.dst v1) w1):
    wpList P ops Q (o::rest) a (W.alloc (.cells cs.toArray e)):=by
  obtain ⟨h0,inner,hown,hr⟩:=HO;refine sD base hgd s x t e z d.sz bytes ho ht hinfo hz hs0 hb0 v xs.length inner cs hs hx (d.rK (d.lC hp)) (d.qo (d.lC hp)) hown HB hbase hl ?_;intro v1 w1 hown1 hb1 hg1 Tj;exact h v1 w1 (Kr h0 hr hp Ks mM hown1 hg1 Tj) hb1 hg1 Tj
end
section
end
theorem AW {α:Type} {enc:α ->Value} (xs:List α):cI (fun (x:α) (cs:List Value)=>cs=[enc x]) 1 xs (ur enc xs):=by
  refine ⟨by simp [ur],fun j p hj=> ?_⟩;obtain ⟨hl,hp⟩:=List.getElem?_eq_some_iff.1 hj;have hl':j<(ur enc xs).length:=by rw [AV];exact hl
  rw [Nat.mul_one,List.drop_eq_getElem_cons hl']
  simp [ur,hp]
theorem Hp {α:Type} {enc:α ->Value} {h1:∀ x,(enc x).oneCell'=true} {e:Nat} {w:World} {base:Nat} {ok:Nat ->Prop} {v:Value} {xs:List α} (ho:w.ownsRow base e 1 v xs.length (ur enc xs)) (hok:∀ k,v.ownBlock=some k ->ok k):(scalar enc h1).R e w base ok v xs:=⟨hok,ur enc xs,ho,AW xs⟩
theorem Hq {α:Type} {enc:α ->Value} {h1:∀ x,(enc x).oneCell'=true} {e:Nat} {w:World} {base:Nat} {ok:Nat ->Prop} {v:Value} {xs:List α} (h:(scalar enc h1).R e w base ok v xs):w.ownsRow base e 1 v xs.length (ur enc xs):=by
  obtain ⟨_,inner,ho,hr⟩:=h
  have:inner=ur enc xs:=by
    apply List.ext_getElem?
    intro j
    rcases Nat.lt_or_ge j xs.length with hj|hj
    · have h2:=hr.2 j _ (List.getElem?_eq_getElem hj)
      have hl:j<inner.length:=by have:=hr.1;simp [scalar] at this;omega
      have h3:(inner.drop (j*1)).take 1=[enc xs[j]]:=h2;rw [Nat.mul_one,List.drop_eq_getElem_cons hl] at h3
      have h4:inner[j]=enc xs[j]:=by
        have h5:=congrArg List.head? h3;rw [List.take_succ_cons] at h5
        exact cS h5
      rw [List.getElem?_eq_getElem hl,h4]
      simp [ur,List.getElem?_eq_getElem hj]
    · have h3:inner.length=xs.length:=by have:=hr.1;simp [scalar] at this;omega
      rw [List.getElem?_eq_none (by omega),List.getElem?_eq_none (by rw [AV];omega)]
  rw [<- this];exact ho
theorem dD {α:Type} {enc:α ->Value} {d:α} {h1:∀ x,(enc x).oneCell'=true} {w:World} {A:Option Addr} {n:Nat} {xs:List α} (h:ic enc d w A n xs):(scalar enc h1).C w A n xs:=by
  refine ⟨h.1,h.2.1,fun hn=> ?_⟩;obtain ⟨ad,e,hc⟩:=h.2.2 hn;refine ⟨ad,e,fun j p hj=>⟨[enc p],rfl,rfl,fun i u hu=> ?_⟩⟩;obtain ⟨hl,hp⟩:=List.getElem?_eq_some_iff.1 hj;have h2:=hc j (by have:=h.1;omega);rw [List.getD_eq_getElem?_getD,hj] at h2
  cases i with
  |zero=>
    have:enc p=u:=by simpa using hu
    subst this
    simpa [scalar] using h2
  |succ i=>simp at hu
theorem dc {α:Type} {enc:α ->Value} {d:α} {h1:∀ x,(enc x).oneCell'=true} {w:World} {A:Option Addr} {n:Nat} {xs:List α} (h:(scalar enc h1).C w A n xs):ic enc d w A n xs:=by
  refine ⟨h.1,h.2.1,fun hn=> ?_⟩;obtain ⟨ad,e,hc⟩:=h.2.2 hn;refine ⟨ad,e,fun j hj=> ?_⟩;have hl:j<xs.length:=by have:=h.1;omega
  obtain ⟨c,_,hK,hcell⟩:=hc j _ (List.getElem?_eq_getElem hl);have hK':c=[enc xs[j]]:=hK;subst hK';have:=hcell 0 _ rfl
  simpa [scalar,List.getD_eq_getElem?_getD,List.getElem?_eq_getElem hl] using this
end Kd
namespace Kd
section
end
end Kd
namespace Kd
theorem nV {α:Type} {d:Kd α} {e base:Nat} {ok:Nat ->Prop} {W w1:World} {u v v1:Value} {xs:List α} (h:d.R e W base (fun k=>ok k /\ some k≠v.ownBlock) u xs) (hg:W.grownBy w1 v.ownBlock) (hat:v1.ownBlock=v.ownBlock \/ ∃ b,v1.ownBlock=some b /\ W.heap.size<=b):d.R e w1 base (fun k=>ok k /\ some k≠v1.ownBlock) u xs:=by
  refine dm (Cr (qL h) (fun k hk=>hg.block k hk.2.2.1 hk.1.2)) (fun k hk=>⟨hk.1.1, ?_⟩)
  rcases hat with hat|⟨b,hb,hle⟩
  · rw [hat];exact hk.1.2
  · rw [hb]
    intro he
    injection he with he
    have:=hk.2.2.1
    omega
end Kd
namespace Kd
section
variable {α β:Type} {d:Kd α} {d':Kd β} {e e':Nat} {w w1 W:World} {base b b':Nat} {ok ok' okv oku:Nat ->Prop} {v u:Value} {xs:List α} {ys:List β}
theorem eX (h:d.R e w base ok v xs) (o:Obj):d.R e (w.alloc o) base ok v xs:=fU h (dX (Below.refl _ _) o)
theorem eY (h:d.R e w base ok v xs):d.R e w.drew base ok v xs:=fU h (sC (Below.refl _ _))
theorem eT (h:d.R e w base ok v xs) (m:Nat):d.R e (w.drewN m) base ok v xs:=fU h (fe (Below.refl _ _) m)
theorem fD {A:Option Addr} {n:Nat} (h:d.C w A n xs) (o:Obj):d.C (w.alloc o) A n xs:=aU h (dX (Below.refl _ _) o)
theorem gP {A:Option Addr} {n:Nat} (h:d.C w A n xs):d.C w.drew A n xs:=aU h (sC (Below.refl _ _))
theorem fj {A:Option Addr} {n:Nat} (h:d.C w A n xs) (m:Nat):d.C (w.drewN m) A n xs:=aU h (fe (Below.refl _ _) m)
theorem Cs (d:Kd α) (w:World):d.C w none ([]:List α).length []:=⟨rfl,by simp,fun h=>absurd h (Nat.lt_irrefl 0)⟩
theorem av {A:Option Addr} {n c:Nat} (h:d.R e w base ok (.slice A n c) xs):n=xs.length /\ n<=c /\ d.C w A xs.length xs:=by
  obtain ⟨A',c',he,hl,hr⟩:=bW h
  injection he with h1 h2 h3
  subst h1;exact ⟨h2,by omega,hr⟩
theorem oL (h:d.R e w base ok v xs):∀ k,v.ownBlock=some k ->k<w.heap.size:=by
  obtain ⟨inner,ho⟩:=Ma h;exact Ph ho
theorem kf (h:d.R e w base ok v xs):∀ k,v.ownBlock=some k ->base<=k:=by
  obtain ⟨inner,ho⟩:=Ma h;exact wF ho
theorem z9 (h:d.R e w base ok v xs) (hp:0<xs.length):∃ g cap,v= .slice (some ⟨g,0,none⟩) xs.length cap /\ base<=g /\ g<w.heap.size /\ ∃ cells,w.heap[g]?=some (.cells cells e (0,0)):=by
  obtain ⟨inner,ho⟩:=Ma h;obtain ⟨g,cap,he,hb,hl⟩:=ho.form hp;obtain ⟨cells,hc⟩:=z6 ho g (by rw [he];simp [Value.ownBlock]);exact ⟨g,cap,he,hb,hl,cells,hc⟩
end
section
variable {w W:World} {A:Option Addr} {n:Nat}
theorem dB {k:IntKind} {xs:List Int} (h:(Kd.int k).C w A n xs) (i:Int) (h0:0<=i) (h1:i<n):∃ ad,A=some ad /\ w.cell? (ad.add i.toNat)=some (.int k (rd xs i)):=
  ic.at_ (dc (enc:=Value.int k) (d:=(0:Int)) (h1:=fun _=>rfl) h) i h0 h1
variable {α:Type} {enc:α ->Value} {h1:∀ x,(enc x).oneCell'=true} {e base g cap:Nat} {ok:Nat ->Prop} {xs:List α}
theorem Pp (d:α) (h:(scalar enc h1).R e W base ok (.slice (some ⟨g,0,none⟩) xs.length cap) xs) (i:Int) (h0:0<=i) (hi:i<xs.length):W.cell? ⟨g,i.toNat,none⟩=some (enc (Th d xs i)) /\ W.frozen? ⟨g,i.toNat,none⟩=false:=Nu (Hq h) i h0 hi
theorem V7 (h:(scalar enc h1).R e W base ok (.slice (some ⟨g,0,none⟩) xs.length cap) xs) (i:Int) (x:α):(scalar enc h1).R e (W.setCell ⟨g,i.toNat,none⟩ (enc x)) base ok (.slice (some ⟨g,0,none⟩) xs.length cap) (xs.set i.toNat x) /\ W.grownBy (W.setCell ⟨g,i.toNat,none⟩ (enc x)) (some g):=by
  obtain ⟨ho,hg⟩:=FB (Hq h) i x;exact ⟨Hp (by rw [List.length_set];exact ho) h.1,hg⟩
end
section
variable {P:Program} {ops:Array Oper} {rest:List Oper} {o:Oper} {a:Act} {Q:Exit ->Act ->World ->Prop}
theorem bL {W w1:World} {v:Value} (hgd:o.guard=none) (hrun:(execOp a.eval o).run P W= .ok (.value v) w1) (h:wpList P ops Q rest (a.put o.dst v) w1):wpList P ops Q (o::rest) a W:=by
  refine wpList_plain hgd fun K hK=> ?_
  unfold Oper.wp;rw [hrun];exact hK _ _ h
variable {α:Type}
theorem qq (d:Kd α) {w0 W:World} (base e:Nat) (hgd:o.guard=none) {N:Tmp} (_hd:o.dst=some N) {xs:List α} {inner:List Value} {ok rq:Nat ->Prop}
    (hrun:(execOp a.eval o).run P W= .ok (.value (.slice (some ⟨W.heap.size,0,none⟩) xs.length xs.length)) (W.alloc (.cells inner.toArray e)))
    (Hr:cI (d.M W base rq) d.sz xs inner) (hok:∀ k,rq k ->ok k) (mM:ok W.heap.size) (HB:Below base w0 W) (hbase:base<=W.heap.size) (hm:xs.length<=9223372036854775807)
    (h:∀ v1 w1,d.R e w1 base ok v1 xs ->Below base w0 w1 ->W.grownBy w1 none ->(∃ b,v1.ownBlock=some b /\ W.heap.size<=b) ->wpList P ops Q rest (a.put o.dst v1) w1):wpList P ops Q (o::rest) a W:=by
  refine bL hgd hrun (h _ _ ⟨fun k hk=> ?_,inner, ?_, ?_⟩ (HB.alloc hbase _) (World.grownBy_alloc W _ none) ⟨W.heap.size,by simp [Value.ownBlock],Nat.le_refl _⟩)
  · have:W.heap.size=k:=by simpa [Value.ownBlock] using hk
    subst this;exact mM
  · have h2:=World.ownsRow_lit (base:=base) (e:=e) (size:=d.sz) W inner.toArray xs.length hbase (by simpa [maxLen] using hm) (by simpa using Hr.1)
    simpa using h2
  · refine Hr.tP (fun p c hp=>d.jR (fun k hk=>⟨hok k hk.1,fun he=> ?_⟩) (L9 (d.jM hp) (dX (Below.refl _ _) _)))
    have h3:k=W.heap.size:=by simpa [Value.ownBlock] using he
    have:=hk.2.2.1
    omega
theorem Nv {α:Type} {R:α ->List Value ->Prop} {z:Value} {size:Nat} {z0:α} (hz:z.cells.size=size) (hs:0<size) (h0:R z0 z.cells.toList) (m:Nat):cI R size (List.replicate m z0) (madeCells z.cells (m*size)).toList:=by
  refine ⟨by simp [size_madeCells],fun j p hj=> ?_⟩;obtain ⟨hjl,hp⟩:=List.getElem?_eq_some_iff.1 hj;have hjm:j<m:=by simpa using hjl
  have hp':z0=p:=by simpa using hp
  subst hp';have hle:j*size+size<=m*size:=by rw [<- Nat.succ_mul];exact Nat.mul_le_mul_right _ hjm
  have:((madeCells z.cells (m*size)).toList.drop (j*size)).take size=z.cells.toList:=by
    apply List.ext_getElem
    · simp [size_madeCells,hz]
      omega
    · intro i h1 h2
      have hi:i<size:=by rw [Array.length_toList,hz] at h2;exact h2
      have hmod:(j*size+i) % size=i:=by
        rw [Nat.mul_comm,Nat.mul_add_mod];exact Nat.mod_eq_of_lt hi
      simp [madeCells,hz,hmod]
      rw [getElem!_pos z.cells i (by omega)]
  rw [this];exact h0
end
end Kd
theorem Pq {w:World} {base n m c size:Nat} {e:TypeId} {A:Option Addr} {xs:List Value} (h:w.ownsRow base e size (.slice A n c) n xs) (hm:m<=n):w.ownsRow base e size (.slice A m c) m (xs.take (m*size)):=by
  obtain ⟨h1,h2⟩:=h;refine ⟨by rw [List.length_take,h1];exact Nat.min_eq_left (Nat.mul_le_mul_right _ hm), ?_⟩
  rcases h2 with ⟨he,h0⟩|⟨g,cap,cur,he,hb,hh,hnc,hcm,hcs,ht⟩
  · injection he with ha _ hc
    subst ha;subst hc;exact .inl ⟨by rw [show m=0 by omega],by omega⟩
  · injection he with ha _ hc
    subst ha;subst hc;refine .inr ⟨g,c,cur,rfl,hb,hh,by omega,hcm,hcs, ?_⟩;rw [<- ht,List.take_take,Nat.min_eq_left (Nat.mul_le_mul_right _ hm)]
section
variable {P:Program}
theorem Kt (t e:TypeId) (kh:IntKind) {i:TypeInfo} (ht:P.underlying t=some (.slice e)) (hi:P.info? e=some i) (A:Option Addr) (n c:Nat) (j:Int) (h0:0<=j) (hm:j<=n) (hc:n<=c):
    ∀ W:World,(Instr.slice t (.slice A n c) none (some (.int kh j)) none).run P W= .ok (.slice A j.toNat c) W:=by
  intro W;have hel:P.elem t=e:=by simp [Program.elem,ht]
  have hu:P.underlying t=some (.slice (P.elem t)):=by rw [hel];exact ht
  have ha:(A.map fun x=>x.add 0)=A:=by cases A<;>simp [Addr.add]
  rw [run_slice_h W t A n c hu kh j h0 (by omega),hel]
  simp [sizeOf,typeInfo,hi,sliced,Result.andThen,ha]
theorem Pr (t e:TypeId) (kl:IntKind) {i:TypeInfo} (ht:P.underlying t=some (.slice e)) (hi:P.info? e=some i) (size:Nat) (hsz:i.size=size) (A:Option Addr) (n c:Nat) (j:Int) (h0:0<=j) (hm:j<=n):
    ∀ W:World,(Instr.slice t (.slice A n c) (some (.int kl j)) none none).run P W= .ok (.slice (if c=j.toNat then A else A.map (·.add (j.toNat*size))) (n - j.toNat) (c - j.toNat)) W:=by
  intro W;have hel:P.elem t=e:=by simp [Program.elem,ht]
  have hu:P.underlying t=some (.slice (P.elem t)):=by rw [hel];exact ht
  rw [run_slice_l W t A n c hu kl j h0 hm,hel]
  simp [sizeOf,typeInfo,hi,hsz,sliced,Result.andThen]
end
def AcK (w:World) (base:Nat) (e:TypeId) (size:Nat) (v:Value) (n:Nat) (xs:List Value):Prop:=
  xs.length=n*size /\
  ((n=0 /\ ∃ A,v= .slice A 0 0 /\ ∀ a,A=some a ->base<=a.block /\ ∃ cur,w.heap[a.block]?=some (.cells cur e (0,0))) \/
   ∃ g off cap cur,v= .slice (some ⟨g,off*size,none⟩) n cap /\ base<=g /\ w.heap[g]?=some (.cells cur e (0,0)) /\ n<=cap /\ off+cap<=maxLen /\ cur.size=(off+cap)*size /\ (cur.toList.drop (off*size)).take (n*size)=xs)
section
variable {w w1:World} {base n size:Nat} {e:TypeId} {v:Value} {xs:List Value}
theorem Ps (h:w.ownsRow base e size v n xs):AcK w base e size v n xs:=by
  obtain ⟨h1,h2⟩:=h;refine ⟨h1, ?_⟩
  rcases h2 with ⟨rfl,h0⟩|⟨g,cap,cur,rfl,hb,hh,hnc,hcm,hcs,ht⟩
  · exact .inl ⟨h0,none,rfl,fun a ha=>by cases ha⟩
  · exact .inr ⟨g,0,cap,cur,by rw [Nat.zero_mul],hb,hh,hnc,by rw [Nat.zero_add];exact hcm,by rw [Nat.zero_add];exact hcs,by rw [Nat.zero_mul,List.drop_zero];exact ht⟩
theorem yX {g:Nat}:∀ (vs:List Value) (o:Nat) {w:World} (k:Nat),k≠g ->(w.setCells g o vs).heap[k]?=w.heap[k]?
  |[],_,_,_,_=>rfl
  |v::r,o,w,k,hk=>by
    rw [World.setCells,yX r (o+1) k hk];exact Below.heap_setCell w ⟨g,o,none⟩ v k hk
theorem yn (g:Nat):∀ (vs:List Value) (o:Nat) (w:World),(w.setCells g o vs).os=w.os /\ (w.setCells g o vs).tape=w.tape /\ (w.setCells g o vs).output=w.output /\ (w.setCells g o vs).heap.size=w.heap.size
  |[],_,_=>⟨rfl,rfl,rfl,rfl⟩
  |v::r,o,w=>by
    obtain ⟨h1,h2,h3,h4⟩:=yn g r (o+1) (w.setCell ⟨g,o,none⟩ v);rw [World.setCells];exact ⟨h1,h2,h3,by rw [h4];simp [World.setCell]⟩
theorem yY {g:Nat} {e:TypeId}:∀ (vs:List Value) (o:Nat) (w:World) (cur:Array Value),w.heap[g]?=some (.cells cur e (0,0)) ->o+vs.length<=cur.size ->
    ∃ cur',(w.setCells g o vs).heap[g]?=some (.cells cur' e (0,0)) /\ cur'.size=cur.size /\ cur'.toList=cur.toList.take o++vs++cur.toList.drop (o+vs.length)
  |[],o,w,cur,h,_=>⟨cur,h,rfl,by simp⟩
  |v::r,o,w,cur,h,hl=>by
    have h2:=L8 h o v;simp only [List.length_cons] at hl
    obtain ⟨cur',h3,h4,h5⟩:=yY r (o+1) (w.setCell ⟨g,o,none⟩ v) _ h2 (by simp;omega);refine ⟨cur',h3,by rw [h4];simp, ?_⟩;rw [h5,Array.toList_setIfInBounds];have ho:o<cur.toList.length:=by rw [Array.length_toList];omega
    rw [List.take_set,List.drop_set_of_lt (by omega)];simp only [List.length_cons];rw [show o+1+r.length=o+(r.length+1) by omega]
    congr 1
    rw [List.take_succ_eq_append_getElem ho,List.set_append_right _ _ (by rw [List.length_take];omega)];have ho':o<cur.size:=by omega
    simp [Nat.min_eq_left (Nat.le_of_lt ho')]
end
section
end
namespace Kd
theorem Nw {α:Type} {R:α ->List Value ->Prop} {size m:Nat} {ps:List α} {cs:List Value} (h:cI R size ps cs) (hm:m<=ps.length):cI R size (ps.take m) (cs.take (m*size)):=by
  refine ⟨by rw [List.length_take,List.length_take,h.1,Nat.min_eq_left hm,Nat.min_eq_left (Nat.mul_le_mul_right _ hm)],fun j p hj=> ?_⟩;rw [List.getElem?_take] at hj
  split at hj
  · rename_i hjm
    have:=h.2 j p hj;have hle:j*size+size<=m*size:=by rw [<- Nat.succ_mul];exact Nat.mul_le_mul_right _ hjm
    rw [List.drop_take,List.take_take,Nat.min_eq_left (by omega)];exact this
  · cases hj
theorem Yw {α:Type} {d:Kd α} {e m n c:Nat} {w:World} {base:Nat} {ok:Nat ->Prop} {A:Option Addr} {xs:List α} (h:d.R e w base ok (.slice A n c) xs) (hm:m<=xs.length):d.R e w base ok (.slice A m c) (xs.take m):=by
  obtain ⟨h0,inner,ho,hr⟩:=h
  have hn:n=xs.length:=by
    obtain ⟨A',c',he⟩:=Ns ho
    injection he
  subst hn
  have hb:∀ x y:Nat,(Value.slice A x c).ownBlock=(Value.slice A y c).ownBlock:=by
    intro x y
    cases A<;>rfl
  refine ⟨fun k hk=>h0 k (by rw [hb _ m];exact hk),inner.take (m*d.sz), ?_, ?_⟩
  · rw [List.length_take,Nat.min_eq_left hm]
    exact Pq ho hm
  · rw [hb m xs.length]
    exact Nw hr hm
def Q {α:Type} (d:Kd α) (e:Nat) (w:World) (base:Nat) (ok:Nat ->Prop) (v:Value) (xs:List α):Prop:=
  (∀ k,v.ownBlock=some k ->ok k) /\ ∃ inner,AcK w base e d.sz v xs.length inner /\ cI (d.M w base (fun k=>ok k /\ some k≠v.ownBlock)) d.sz xs inner
section
variable {α:Type} {d:Kd α} {e:Nat} {w w1 W:World} {base:Nat} {ok ok':Nat ->Prop} {v:Value} {xs:List α}
theorem Yx (h:d.R e w base ok v xs):d.Q e w base ok v xs:=by
  obtain ⟨h0,inner,ho,hr⟩:=h;exact ⟨h0,inner,Ps ho,hr⟩
theorem jr (d:Kd α) (e:Nat) (w:World) (base:Nat) (ok:Nat ->Prop):d.Q e w base ok (.slice none 0 0) []:=Yx (cl d e w base ok)
end
section
end
end Kd
namespace Kd
section
variable {α:Type} {d:Kd α} {e e':Nat} {w w1 W:World} {base:Nat} {ok:Nat ->Prop} {u v:Value} {xs:List α}
theorem rS (h:d.R e w base ok v xs):∀ k,v.ownBlock=some k ->∃ cells,w.heap[k]?=some (.cells cells e (0,0)):=by
  obtain ⟨inner,ho⟩:=Ma h;exact fun k hk=>z6 ho k hk
theorem uL (h:d.R e W base ok u xs) (hty:∀ k,v.ownBlock=some k ->∃ cells,W.heap[k]?=some (.cells cells e' (0,0))) (ht:∀ q,q ∈ e::d.E ->q≠e') (hg:W.grownBy w1 v.ownBlock):d.R e w1 base ok u xs:=by
  refine dm (Cr (qL h) (fun k hk=>hg.block k hk.2.2.1 (fun he=> ?_))) (fun _ hk=>hk.1);obtain ⟨_,_,_,q,hq,cells,hc⟩:=hk;obtain ⟨cells',hc'⟩:=hty k he.symm;rw [hc] at hc'
  injection hc' with hc'
  injection hc' with _ hc'
  exact ht q hq hc'
theorem Hs (h:d.R e W base ok u xs) (hty:∀ k,v.ownBlock=some k ->∃ cells,W.heap[k]?=some (.cells cells e' (0,0))) (ht:∀ q,q ∈ e::d.E ->q≠e'):d.R e W base (fun k=>ok k /\ some k≠v.ownBlock) u xs:=by
  refine dm (qL h) (fun k hk=>⟨hk.1,fun he=> ?_⟩);obtain ⟨_,_,_,q,hq,cells,hc⟩:=hk;obtain ⟨cells',hc'⟩:=hty k he.symm;rw [hc] at hc'
  injection hc' with hc'
  injection hc' with _ hc'
  exact ht q hq hc'
theorem mU (hu:d.R e W base ok u xs) (hbase:∀ k,v.ownBlock=some k ->W.heap.size<=k) (hb:Below W.heap.size W w1):d.R e w1 base (fun k=>ok k /\ some k≠v.ownBlock) u xs:=
  dm (Cr (qL hu) (fun k hk=>hb.block k hk.2.2.1)) (fun k hk=>⟨hk.1,fun he=>by have:=hbase k he.symm;have:=hk.2.2.1;omega⟩)
theorem ry (h:d.R e w1 W.heap.size ok v xs) (hlt:∀ k,u.ownBlock=some k ->k<W.heap.size):d.R e w1 W.heap.size (fun k=>ok k /\ some k≠u.ownBlock) v xs:=
  dm (qL h) (fun k hk=>⟨hk.1,fun he=>by have:=hlt k he.symm;have:=hk.2.1;omega⟩)
theorem mN (hlt:∀ k,u.ownBlock=some k ->k<W.heap.size):∀ k,W.heap.size<=k ->some k≠u.ownBlock:=fun k hk he=>by have:=hlt k he.symm;omega
end
end Kd
namespace Kd
section
end
end Kd
namespace Kd
section
end
end Kd
namespace Kd
theorem wH {α:Type} {R:α ->List Value ->Prop} {size:Nat} {ps qs:List α} {cs ds:List Value} (h:cI R size ps cs) (h':cI R size qs ds):cI R size (ps++qs) (cs++ds):=by
  refine ⟨by rw [List.length_append,List.length_append,h.1,h'.1,Nat.add_mul],fun j p hj=> ?_⟩
  rcases Nat.lt_or_ge j ps.length with hlt|hge
  · rw [List.getElem?_append_left hlt] at hj
    have hle:j*size+size<=cs.length:=by rw [h.1,<- Nat.succ_mul];exact Nat.mul_le_mul_right _ hlt
    rw [List.drop_append_of_le_length (by omega),List.take_append_of_le_length (by rw [List.length_drop];omega)];exact h.2 j p hj
  · rw [List.getElem?_append_right hge] at hj
    have h2:=h'.2 (j - ps.length) p hj;have hle:ps.length*size<=j*size:=Nat.mul_le_mul_right _ hge;rw [List.drop_append,List.drop_eq_nil_of_le (by rw [h.1];exact hle),List.nil_append,h.1,<- Nat.sub_mul];exact h2
section
variable {P:Program} {ops:Array Oper} {rest:List Oper} {o:Oper} {a:Act} {Q:Exit ->Act ->World ->Prop} {α:Type}
theorem gC (d:Kd α) {Rr:α ->List Value ->Prop} {w0 W:World} (base:Nat) (hgd:o.guard=none) (s x:Operand) (t e:TypeId) (z:Value) (bytes:Nat)
    (ho:o.op= .call {callee:= .builtin .append,args:= #[s,x],argTypes:= #[t,t]})
    (ht:P.underlying t=some (.slice e)) (hinfo:(P.info? e).map (fun i=>(i.zero,i.size,i.bytes))=some (some z,d.sz,bytes)) (hz:z.cells.size=d.sz) (hs0:0<d.sz) (hb0:0<bytes)
    (v:Value) (xs ys:List α) (A:Option Addr) (m c:Nat) (ok rq:Nat ->Prop) (hs:a.eval s=v) (hx:a.eval x= .slice A m c)
    (HO:d.R e W base ok v xs) (HR:kr Rr d.sz W A m ys) (hKM:∀ x cs,Rr x cs ->d.M W base rq x cs) (Ks:∀ k,rq k ->ok k /\ some k≠v.ownBlock) (mM:∀ k,W.heap.size<=k ->ok k)
    (HB:Below base w0 W) (hbase:base<=W.heap.size) (hl:(xs.length+m)*bytes<=140737488355328)
    (h:∀ v1 w1,d.R e w1 base ok v1 (xs++ys) ->Below base w0 w1 ->W.grownBy w1 v.ownBlock ->(v1.ownBlock=v.ownBlock \/ ∃ b,v1.ownBlock=some b /\ W.heap.size<=b) ->wpList P ops Q rest (a.put o.dst v1) w1):
    wpList P ops Q (o::rest) a W:=by
  obtain ⟨i0,hi,hzz⟩:=Option.map_eq_some_iff.1 hinfo;simp only [Prod.mk.injEq] at hzz
  obtain ⟨hz0,hz1,hz2⟩:=hzz;have hm:ys.length=m:=HR.1;have hlen:xs.length+m<=140737488355328:=Nat.le_trans (Nat.le_mul_of_pos_right _ hb0) hl;obtain ⟨hok,inner,hown,hr⟩:=HO
  have hrun:∃ v1 w1,(Builtin.append_ #[t,t] o.type #[v,.slice A m c]).run P W= .ok v1 w1 /\ d.R e w1 base ok v1 (xs++ys) /\ W.grownBy w1 v.ownBlock /\ (v1.ownBlock=v.ownBlock \/ ∃ b,v1.ownBlock=some b /\ W.heap.size<=b):=by
    rcases A with _|ad
    · have h0:m=0:=by
        rcases Nat.eq_zero_or_pos m with h0|h0
        · exact h0
        · obtain ⟨ad,h,_⟩:=HR.2.2 h0
          cases h
      subst h0;obtain rfl:ys=[]:=List.eq_nil_of_length_eq_zero hm;refine ⟨v,W, ?_,by rw [List.append_nil];exact ⟨hok,inner,hown,hr⟩,World.grownBy.refl W _,.inl rfl⟩
      rcases hown.2 with ⟨rfl,hn⟩|⟨g,cap,cur,rfl,_,_,hnc,_⟩
      · simp [Builtin.append_,run_underlying ht,sizeOf,typeInfo,hi,Builtin.lenOf,Builtin.firstCells]
      · simp [Builtin.append_,run_underlying ht,sizeOf,typeInfo,hi,Builtin.lenOf,Builtin.firstCells,hnc,storeCells]
    · obtain ⟨news,hnr,hnc⟩:=kr.Pm HR
      have O4:cI (d.M W base rq) d.sz ys news:=hnr.tP (fun p c hp=>hKM p c hp)
      have hone:∀ u ∈ news,u.oneCell'=true:=by
        intro u hu;obtain ⟨q,hq,rfl⟩:=List.mem_iff_getElem.1 hu
        have hql:q / d.sz<ys.length:=by
          rw [Nat.div_lt_iff_lt_mul hs0];rw [<- O4.1];exact hq
        have hc:=O4.2 (q / d.sz) _ (List.getElem?_eq_getElem hql);refine d.qo (d.lC hc) _ ?_;rw [List.mem_iff_getElem?];refine ⟨q % d.sz, ?_⟩;rw [List.getElem?_take,au (Nat.mod_lt _ hs0),List.getElem?_drop,Nat.mul_comm,Nat.div_add_mod,List.getElem?_eq_getElem hq]
      obtain ⟨v1,w1,hrun,h2,hg,_,hat⟩:=run_append_own_at (P:=P) W base t o.type e i0 z d.sz bytes ht hi hz0 hz1 hz2 hz hs0 v xs.length inner hown ad m c news (by rw [O4.1,hm]) hnc hone (by simp only [maxLen];omega) hl hbase
      have hat':v1.ownBlock=v.ownBlock \/ ∃ b,v1.ownBlock=some b /\ W.heap.size<=b:=by
        rcases hat with hat|hat
        · exact .inl hat
        · exact .inr ⟨_,hat,Nat.le_refl _⟩
      have hne:∀ k,some k≠v.ownBlock ->k<W.heap.size ->some k≠v1.ownBlock:=by
        intro k hk hlt
        rcases hat' with hat|⟨b,hb,hle⟩
        · rw [hat];exact hk
        · rw [hb]
          intro he
          injection he with he
          omega
      have step:∀ {q:α} {c:List Value} {o:Nat ->Prop},d.M W base o q c ->(∀ k,o k ->ok k /\ some k≠v.ownBlock) ->d.M w1 base (fun k=>ok k /\ some k≠v1.ownBlock) q c:=by
        intro q c o hq ho;have h1:=d.nh (w1:=w1) (fun k hk=>hg.block k hk.2.2.1 (ho k hk.1).2) (d.jM hq);exact d.jR (fun k hk=>⟨(ho k hk.1).1,hne k (ho k hk.1).2 hk.2.2.1⟩) h1
      refine ⟨v1,w1,hrun,⟨fun k hk=> ?_,inner++news,by rw [List.length_append,hm];exact h2,wH (hr.tP (fun _ _ hq=>step hq (fun _ hk=>hk))) (O4.tP (fun _ _ hq=>step hq Ks))⟩,hg,hat'⟩
      rcases hat' with hat|⟨b,hb,hle⟩
      · exact hok k (hat ▸ hk)
      · rw [hb] at hk
        injection hk with hk
        exact mM k (by omega)
  obtain ⟨v1,w1,hr1,h1,hg,hat⟩:=hrun;refine wpList_plain hgd fun K hK=> ?_
  unfold Oper.wp execOp;simp only [ho,resolve,invoke,builtin,Sem.run_bind,Sem.run_pure,Result.andThen_ok,List.map_toArray,List.map_cons,List.map_nil,hs,hx,hr1];exact hK _ _ (h v1 w1 h1 (HB.grown hg hbase (wF hown)) hg hat)
end
end Kd
namespace Kd
section
end
end Kd
namespace Kd
section
variable {α:Type} {k:Kd α} {w:World} {A:Option Addr} {xs:List α} {m c:Nat}
theorem Yy (h:k.C w A xs.length xs) (hm:m<=xs.length):k.C w A (xs.take m).length (xs.take m):=by
  have hl:(xs.take m).length=m:=by rw [List.length_take];omega
  refine ⟨rfl,by rw [hl];have:=h.2.1;omega,fun hp=> ?_⟩;obtain ⟨ad,e,hc⟩:=h.2.2 (by omega);refine ⟨ad,e,fun j p hj=>hc j p ?_⟩;rw [List.getElem?_take] at hj
  split at hj
  · exact hj
  · cases hj
end
end Kd
section
end
theorem Br {P:Program} {w:World} {src dst e:TypeId} {A:Option Addr} {n c:Nat} {xs:List Int} (hs:P.underlying src=some (.slice e)) (he:P.underlying e=some (.int .u8)) (hd:P.underlying dst=some .string)
    (h:je w .u8 A n xs):(convert src dst (.slice A n c)).run P w= .ok (.string (strOfNums xs)) w:=by
  have hn:xs.length=n:=h.1
  rcases A with _|ad
  · have h0:n=0:=by
      rcases Nat.eq_zero_or_pos n with h0|h0
      · exact h0
      · obtain ⟨ad,h',_⟩:=h.2.2 h0
        cases h'
    subst h0;obtain rfl:xs=[]:=List.eq_nil_of_length_eq_zero hn;exact run_convert_bytes_nil w src e hs he 0 c dst hd
  · have hl:(loadCells ad n).run P w= .ok (xs.map (Value.int .u8)).toArray w:=by
      have:=run_loadCells_list (P:=P) w ad (xs.map (Value.int .u8)) (fun j v hj=>by
        have hjl:j<xs.length:=by
          rcases Nat.lt_or_ge j xs.length with h'|h'
          · exact h'
          · rw [List.getElem?_eq_none (by rw [List.length_map];exact h')] at hj
            cases hj
        obtain ⟨ad',he',hc⟩:=h.2.2 (by omega)
        injection he' with he'
        subst he';rw [hc j (by omega)];rw [List.getElem?_map,List.getElem?_eq_getElem hjl] at hj
        simp at hj
        subst hj
        simp [List.getD_eq_getElem?_getD,List.getElem?_eq_getElem hjl])
      simpa [hn] using this
    rw [run_convert_bytes_string w src dst e _ n c hs he hd,run_bytesToString w ad n c xs hl,foldl_push_bytes]
    simp [strOfNums,ByteArray.empty,ByteArray.emptyWithCapacity]
    rfl
theorem Kd.Ht {P:Program} {w:World} {src dst e:TypeId} {A:Option Addr} {n c:Nat} {xs:List Int} (hs:P.underlying src=some (.slice e)) (he:P.underlying e=some (.int .u8)) (hd:P.underlying dst=some .string)
    (h:(Kd.int .u8).C w A n xs):(convert src dst (.slice A n c)).run P w= .ok (.string (strOfNums xs)) w:=
  Br hs he hd (Kd.dc (enc:=Value.int .u8) (d:=(0:Int)) (h1:=fun _=>rfl) h)
theorem af {w W:World} (h:Below w.heap.size w W):w.heap.size<=W.heap.size:=h.size
theorem aq {w W w2:World} (h:Below w.heap.size w W) (k:Below W.heap.size W w2):Below w.heap.size w w2:=Kp h h.size k
theorem je.nil (W:World) (k:IntKind):je W k none ([]:List Int).length []:=⟨rfl,by simp,fun h=>absurd h (Nat.lt_irrefl 0)⟩
theorem je.drewN {W:World} {k:IntKind} {A:Option Addr} {n:Nat} {xs:List Int} (h:je W k A n xs) (m:Nat):je (W.drewN m) k A n xs:=h
theorem uu {w W:World} {g j:Nat} {v:Value} (h:Below w.heap.size w W) (hg:w.heap.size<=g):Below w.heap.size w (W.setCell ⟨g,j,none⟩ v):=h.setCell hg _
theorem Nx (a:Addr) (i:Nat):(a.add i).block=a.block:=by unfold Addr.add;split<;>rfl
theorem ic.nil {α:Type} (enc:α ->Value) (d:α) (W:World):ic enc d W none ([]:List α).length []:=⟨rfl,by simp,fun h=>absurd h (Nat.lt_irrefl 0)⟩
theorem ic.drewN {α:Type} {enc:α ->Value} {d:α} {W:World} {A:Option Addr} {n:Nat} {xs:List α} (h:ic enc d W A n xs) (m:Nat):ic enc d (W.drewN m) A n xs:=h
theorem cell_far {W:World} {p a:Addr} (h:a.block≠p.block) (u:Value):(W.setCell p u).cell? a=W.cell? a:=by
  have:=Below.heap_setCell W p u a.block h
  simp [World.cell?,this]
theorem bM {w:World} {g:Nat} {t:TypeId} {cs cs':Array Value} (h:w.heap[g]?=some (.cells cs t (0,0))) (i:Nat) (u:Value) (e:cs.setIfInBounds i u=cs'):(w.setCell ⟨g,i,none⟩ u).heap[g]?=some (.cells cs' t (0,0)):=e ▸ L8 h i u
theorem bf {base:Nat} {w W:World} (h:Below base w W):Below base w W.drew:=h.drew
namespace Kd
section
end
section
end
end Kd
namespace Kd
section
variable {α:Type} {d:Kd α} {e base g:Nat} {ok:Nat ->Prop} {w w1:World} {v:Value} {xs:List α} {o:Obj}
theorem Yz (hb:w.heap[g]?=some o):∀ k,w.heap.size<=k ->k≠g:=fun k hk=>by have:=mm hb;omega
end
end Kd
section
variable {P:Program} {ops:Array Oper} {rest:List Oper} {o:Oper} {a:Act} {Q:Exit ->Act ->World ->Prop}
theorem aC {W:World} (hgd:o.guard=none) {N:Tmp} (_hd:o.dst=some N) {cs:Array Value} {t:TypeId}
    (hrun:(execOp a.eval o).run P W= .ok (.value (.pointer (some ⟨W.heap.size,0,none⟩))) (W.alloc (.cells cs t (0,0))))
    (h:∀ g,g=W.heap.size ->∀ w1,w1.heap[g]?=some (.cells cs t (0,0)) ->Below W.heap.size W w1 ->wpList P ops Q rest (a.put o.dst (.pointer (some ⟨g,0,none⟩))) w1):wpList P ops Q (o::rest) a W:=
  Kd.bL hgd hrun (h _ rfl _ (Ti W _) (dX (Below.refl _ _) _))
end
namespace Kd
section
variable {α:Type} {enc:α ->Value} {h1:∀ x,(enc x).oneCell'=true} {e base g n cap:Nat} {ok:Nat ->Prop} {W:World} {xs:List α}
theorem mO (d:α) (h:(scalar enc h1).R e W base ok (.slice (some ⟨g,0,none⟩) n cap) xs) (i:Int) (h0:0<=i) (hi:i<n):W.cell? ⟨g,i.toNat,none⟩=some (enc (Th d xs i)) /\ W.frozen? ⟨g,i.toNat,none⟩=false:=by
  obtain ⟨rfl,_⟩:=av h;exact Pp d h i h0 hi
theorem FC (h:(scalar enc h1).R e W base ok (.slice (some ⟨g,0,none⟩) n cap) xs) (i:Int) (x:α):(scalar enc h1).R e (W.setCell ⟨g,i.toNat,none⟩ (enc x)) base ok (.slice (some ⟨g,0,none⟩) n cap) (xs.set i.toNat x):=by
  obtain ⟨rfl,_⟩:=av h;exact (V7 h i x).1
end
end Kd
section
variable {P:Program} {ops:Array Oper} {rest:List Oper} {o:Oper} {a:Act} {Q:Exit ->Act ->World ->Prop}
theorem sV {W w1:World} (hgd:o.guard=none) {t:TypeId} {p:Tmp} {v:Operand} (_ho:o.op= .store t (.tmp p) v) (hN:o.dst=none)
    (hrun:(execOp a.eval o).run P W= .ok .skip w1) (h:∀ w',w'=w1 ->wpList P ops Q rest a w'):wpList P ops Q (o::rest) a W:=by
  refine wpList_plain hgd fun K hK=> ?_
  unfold Oper.wp;rw [hrun]
  show K (a.put o.dst undef) w1
  rw [hN];exact hK _ _ (h _ rfl)
end
namespace Kd
section
variable {α:Type} {enc:α ->Value} {h1:∀ x,(enc x).oneCell'=true} {e base g n cap:Nat} {ok:Nat ->Prop} {W:World} {xs:List α}
theorem Aa (h:(scalar enc h1).R e W base ok (.slice (some ⟨g,0,none⟩) n cap) xs) (i:Int) (x:α):(scalar enc h1).R e (W.setCell ⟨g,i.toNat,none⟩ (enc x)) base ok (.slice (some ⟨g,0,none⟩) n cap) (xs.set i.toNat x) /\ W.grownBy (W.setCell ⟨g,i.toNat,none⟩ (enc x)) (some g):=by
  obtain ⟨rfl,_⟩:=av h;exact V7 h i x
end
end Kd
section
variable {P:Program} {ops:Array Oper} {rest:List Oper} {o:Oper} {a:Act} {Q:Exit ->Act ->World ->Prop} {W:World}
theorem aA {N:Tmp} (_hN:o.dst=some N) (h:wpList P ops Q (o::rest) a W):wpList P ops Q (o::rest) a W:=h
theorem uM {t:TypeId} {p:Tmp} {v:Operand} (_ho:o.op= .store t (.tmp p) v) (h:wpList P ops Q (o::rest) a W):wpList P ops Q (o::rest) a W:=h
end
section
variable {P:Program} {ops:Array Oper} {o:Oper} {a:Act} {Q:Exit ->Act ->World ->Prop} {Kc:Act ->World ->Prop}
theorem Ku {W w1:World} {v:Value} (hw:Region.wanted o (yielded ops a.tmps)=true) (hrun:(execOp a.eval o).run P W= .ok (.value v) w1) (h:Kc (a.put o.dst v) w1):if Region.wanted o (yielded ops a.tmps)=true then Oper.wp P o a W Kc Q else Kc (a.put o.dst undef) W:=by
  rw [au hw];unfold Oper.wp;rw [hrun];exact h
namespace Kd
variable {α:Type}
theorem qw (d:Kd α) {w0 W:World} (base e:Nat) (hw:Region.wanted o (yielded ops a.tmps)=true) {N:Tmp} (_hd:o.dst=some N) {xs:List α} {inner:List Value} {ok rq:Nat ->Prop}
    (hrun:(execOp a.eval o).run P W= .ok (.value (.slice (some ⟨W.heap.size,0,none⟩) xs.length xs.length)) (W.alloc (.cells inner.toArray e)))
    (Hr:cI (d.M W base rq) d.sz xs inner) (hok:∀ k,rq k ->ok k) (mM:ok W.heap.size) (HB:Below base w0 W) (hbase:base<=W.heap.size) (hm:xs.length<=9223372036854775807)
    (h:∀ v1 w1,d.R e w1 base ok v1 xs ->Below base w0 w1 ->W.grownBy w1 none ->(∃ b,v1.ownBlock=some b /\ W.heap.size<=b) ->Kc (a.put o.dst v1) w1):if Region.wanted o (yielded ops a.tmps)=true then Oper.wp P o a W Kc Q else Kc (a.put o.dst undef) W:=by
  refine Ku hw hrun (h _ _ ⟨fun k hk=> ?_,inner, ?_, ?_⟩ (HB.alloc hbase _) (World.grownBy_alloc W _ none) ⟨W.heap.size,by simp [Value.ownBlock],Nat.le_refl _⟩)
  · have:W.heap.size=k:=by simpa [Value.ownBlock] using hk
    subst this;exact mM
  · have h2:=World.ownsRow_lit (base:=base) (e:=e) (size:=d.sz) W inner.toArray xs.length hbase (by simpa [maxLen] using hm) (by simpa using Hr.1)
    simpa using h2
  · refine Hr.tP (fun p c hp=>d.jR (fun k hk=>⟨hok k hk.1,fun he=> ?_⟩) (L9 (d.jM hp) (dX (Below.refl _ _) _)))
    have h3:k=W.heap.size:=by simpa [Value.ownBlock] using he
    have:=hk.2.2.1
    omega
theorem jB (d:Kd α) {Rr:α ->List Value ->Prop} {w0 W:World} (base:Nat) (hw:Region.wanted o (yielded ops a.tmps)=true) (s x:Operand) (t e:TypeId) (z:Value) (bytes:Nat)
    (ho:o.op= .call {callee:= .builtin .append,args:= #[s,x],argTypes:= #[t,t]})
    (ht:P.underlying t=some (.slice e)) (hinfo:(P.info? e).map (fun i=>(i.zero,i.size,i.bytes))=some (some z,d.sz,bytes)) (hz:z.cells.size=d.sz) (hs0:0<d.sz) (hb0:0<bytes)
    (v:Value) (xs ys:List α) (A:Option Addr) (m c:Nat) (ok rq:Nat ->Prop) (hs:a.eval s=v) (hx:a.eval x= .slice A m c)
    (HO:d.R e W base ok v xs) (HR:kr Rr d.sz W A m ys) (hKM:∀ x cs,Rr x cs ->d.M W base rq x cs) (Ks:∀ k,rq k ->ok k /\ some k≠v.ownBlock) (mM:∀ k,W.heap.size<=k ->ok k)
    (HB:Below base w0 W) (hbase:base<=W.heap.size) (hl:(xs.length+m)*bytes<=140737488355328)
    (h:∀ v1 w1,d.R e w1 base ok v1 (xs++ys) ->Below base w0 w1 ->W.grownBy w1 v.ownBlock ->(v1.ownBlock=v.ownBlock \/ ∃ b,v1.ownBlock=some b /\ W.heap.size<=b) ->Kc (a.put o.dst v1) w1):
    if Region.wanted o (yielded ops a.tmps)=true then Oper.wp P o a W Kc Q else Kc (a.put o.dst undef) W:=by
  obtain ⟨i0,hi,hzz⟩:=Option.map_eq_some_iff.1 hinfo;simp only [Prod.mk.injEq] at hzz
  obtain ⟨hz0,hz1,hz2⟩:=hzz;have hm:ys.length=m:=HR.1;have hlen:xs.length+m<=140737488355328:=Nat.le_trans (Nat.le_mul_of_pos_right _ hb0) hl;obtain ⟨hok,inner,hown,hr⟩:=HO
  have hrun:∃ v1 w1,(Builtin.append_ #[t,t] o.type #[v,.slice A m c]).run P W= .ok v1 w1 /\ d.R e w1 base ok v1 (xs++ys) /\ W.grownBy w1 v.ownBlock /\ (v1.ownBlock=v.ownBlock \/ ∃ b,v1.ownBlock=some b /\ W.heap.size<=b):=by
    rcases A with _|ad
    · have h0:m=0:=by
        rcases Nat.eq_zero_or_pos m with h0|h0
        · exact h0
        · obtain ⟨ad,h,_⟩:=HR.2.2 h0
          cases h
      subst h0;obtain rfl:ys=[]:=List.eq_nil_of_length_eq_zero hm;refine ⟨v,W, ?_,by rw [List.append_nil];exact ⟨hok,inner,hown,hr⟩,World.grownBy.refl W _,.inl rfl⟩
      rcases hown.2 with ⟨rfl,hn⟩|⟨g,cap,cur,rfl,_,_,hnc,_⟩
      · simp [Builtin.append_,run_underlying ht,sizeOf,typeInfo,hi,Builtin.lenOf,Builtin.firstCells]
      · simp [Builtin.append_,run_underlying ht,sizeOf,typeInfo,hi,Builtin.lenOf,Builtin.firstCells,hnc,storeCells]
    · obtain ⟨news,hnr,hnc⟩:=kr.Pm HR
      have O4:cI (d.M W base rq) d.sz ys news:=hnr.tP (fun p c hp=>hKM p c hp)
      have hone:∀ u ∈ news,u.oneCell'=true:=by
        intro u hu;obtain ⟨q,hq,rfl⟩:=List.mem_iff_getElem.1 hu
        have hql:q / d.sz<ys.length:=by
          rw [Nat.div_lt_iff_lt_mul hs0];rw [<- O4.1];exact hq
        have hc:=O4.2 (q / d.sz) _ (List.getElem?_eq_getElem hql);refine d.qo (d.lC hc) _ ?_;rw [List.mem_iff_getElem?];refine ⟨q % d.sz, ?_⟩;rw [List.getElem?_take,au (Nat.mod_lt _ hs0),List.getElem?_drop,Nat.mul_comm,Nat.div_add_mod,List.getElem?_eq_getElem hq]
      obtain ⟨v1,w1,hrun,h2,hg,_,hat⟩:=run_append_own_at (P:=P) W base t o.type e i0 z d.sz bytes ht hi hz0 hz1 hz2 hz hs0 v xs.length inner hown ad m c news (by rw [O4.1,hm]) hnc hone (by simp only [maxLen];omega) hl hbase
      have hat':v1.ownBlock=v.ownBlock \/ ∃ b,v1.ownBlock=some b /\ W.heap.size<=b:=by
        rcases hat with hat|hat
        · exact .inl hat
        · exact .inr ⟨_,hat,Nat.le_refl _⟩
      have hne:∀ k,some k≠v.ownBlock ->k<W.heap.size ->some k≠v1.ownBlock:=by
        intro k hk hlt
        rcases hat' with hat|⟨b,hb,hle⟩
        · rw [hat];exact hk
        · rw [hb]
          intro he
          injection he with he
          omega
      have step:∀ {q:α} {c:List Value} {o:Nat ->Prop},d.M W base o q c ->(∀ k,o k ->ok k /\ some k≠v.ownBlock) ->d.M w1 base (fun k=>ok k /\ some k≠v1.ownBlock) q c:=by
        intro q c o hq ho;have h1:=d.nh (w1:=w1) (fun k hk=>hg.block k hk.2.2.1 (ho k hk.1).2) (d.jM hq);exact d.jR (fun k hk=>⟨(ho k hk.1).1,hne k (ho k hk.1).2 hk.2.2.1⟩) h1
      refine ⟨v1,w1,hrun,⟨fun k hk=> ?_,inner++news,by rw [List.length_append,hm];exact h2,wH (hr.tP (fun _ _ hq=>step hq (fun _ hk=>hk))) (O4.tP (fun _ _ hq=>step hq Ks))⟩,hg,hat'⟩
      rcases hat' with hat|⟨b,hb,hle⟩
      · exact hok k (hat ▸ hk)
      · rw [hb] at hk
        injection hk with hk
        exact mM k (by omega)
  obtain ⟨v1,w1,hr1,h1,hg,hat⟩:=hrun;rw [au hw];unfold Oper.wp execOp;simp only [ho,resolve,invoke,builtin,Sem.run_bind,Sem.run_pure,Result.andThen_ok,List.map_toArray,List.map_cons,List.map_nil,hs,hx,hr1];exact h v1 w1 h1 (HB.grown hg hbase (wF hown)) hg hat
end Kd
end
section
end
namespace Kd
section
end
section
end
end Kd
end Go.Proofs.ai.bX
namespace Go.Proofs.ai.yZ
open Go.Joins Go.ChangeShapes Go.WideShapes Go.RowKit Go.Deep
section
variable {H:Type} {enc:TypeId×Value ->H} {P:Program} {w:World} {base:Nat} {spare:Nat ->Bool} {held:Bool}
def AcN (k:IntKind) (w:World) (a:Option Addr) (len cap:Nat) (zs:List Int):Prop:=
  (a=none /\ len=0 /\ cap=0 /\ zs=[]) \/
  ∃ x,a=some x /\ len<=cap /\ cap<=maxLen /\ zs.length=cap /\ (∀ i,i<zs.length ->w.cell? (x.add i)=some (.int k (zs.getD i 0))) /\ ∀ n ∈ zs,(Lit.int k n).wf=true
theorem AkG {t e:TypeId} {k:IntKind} {fuel:Nat} {a:Option Addr} {len cap:Nat} {x:DataW H×List MemPlace} (ht:P.underlying t=some (.slice e)) (he:P.underlying e=some (.int k)) (hc:P.cellsOf e=1)
    (hf:DataW.trod enc P w base (fun _=>true) held fuel t [.slice a len cap]=some x):∃ zs,AcN k w a len cap zs:=by
  rcases open_ints ht he hc hf with ⟨hcs,_⟩|⟨x,l,c,zs,hcs,_,hl,hm,hz,_,hcell,hwz⟩
  · simp at hcs
    obtain ⟨rfl,rfl,rfl⟩:=hcs;exact ⟨[],.inl ⟨rfl,rfl,rfl,rfl⟩⟩
  · simp at hcs
    obtain ⟨rfl,rfl,rfl⟩:=hcs;exact ⟨zs,.inr ⟨_,rfl,hl,hm,by simpa using hz,hcell,hwz⟩⟩
end
end Go.Proofs.ai.yZ
namespace Go.Proofs.ai.bX
open Go.RowKit
section
variable {P:Program} {α:Type}
theorem jc (enc:α ->Value) (d:α) (t e:TypeId) (kl kh km:IntKind) {i:TypeInfo} (ht:P.underlying t=some (.slice e)) (hi:P.info? e=some i) (hsz:i.size=1) (A:Option Addr) (c:Nat) (xs:List α) (a b:Int) (h0:0<=a) (h1:a<=b) (hm:b<=xs.length) (hc:xs.length<=c):
    ∃ A':Option Addr,(∀ W:World,(Instr.slice t (.slice A xs.length c) (some (.int kl a)) (some (.int kh b)) (some (.int km b))).run P W= .ok (.slice A' ((xs.take b.toNat).drop a.toNat).length (b.toNat - a.toNat)) W) /\
      (∀ w:World,ic enc d w A xs.length xs ->ic enc d w A' ((xs.take b.toNat).drop a.toNat).length ((xs.take b.toNat).drop a.toNat)) /\ ((xs.take b.toNat).drop a.toNat).length<=b.toNat - a.toNat:=by
  have hlt:(xs.take b.toNat).length=b.toNat:=by rw [List.length_take];omega
  have hl:((xs.take b.toNat).drop a.toNat).length=b.toNat - a.toNat:=by rw [List.length_drop,hlt]
  refine ⟨if b.toNat=a.toNat then A else A.map (·.add a.toNat),fun W=> ?_,fun w h=> ?_,by rw [hl];omega⟩
  · have hel:P.elem t=e:=by simp [Program.elem,ht]
    have hu:P.underlying t=some (.slice (P.elem t)):=by rw [hel];exact ht
    have eb:(b.toNat:Int)=b:=Int.toNat_of_nonneg (by omega);have ea:(a.toNat:Int)=a:=Int.toNat_of_nonneg (by omega);rw [hl]
    simp [Instr.slice,run_underlying ht,Instr.sliceBounds,run_sliceBound, *,(by omega:b<=(c:Int)),(by omega:0<=b),sizeOf,typeInfo,hi,hsz,Result.andThen]
  · have h2:=(h.gK b.toNat (by omega)).Hl (c:=b.toNat) a.toNat (by omega) (by omega)
    rw [hl];exact h2
end
theorem AX {w:World} {n:Nat} {l:List Int} (h:Kd.C (Kd.int .u8) w none n l):l=[]:=by
  have h1:=Kd.dc (d:=(0:Int)) h
  rcases Nat.eq_zero_or_pos n with h0|h0
  · exact List.eq_nil_of_length_eq_zero (by have:=h1.1;omega)
  · obtain ⟨ad,e,_⟩:=h1.2.2 h0
    cases e
theorem za (w:World) (k:IntKind) (e:TypeId):Kd.R (Kd.int k) e (w.alloc (.cells #[] e)) w.heap.size (fun _=>True) (.slice (some ⟨w.heap.size,0,none⟩) 0 0) ([]:List Int):=
  Kd.Hp (h1:=fun _=>rfl) ⟨rfl,.inr ⟨w.heap.size,0, #[],rfl,Nat.le_refl _,by simpa using heap_alloc_new w _,Nat.le_refl _,by simp [maxLen],rfl,rfl⟩⟩ (fun _ _=>trivial)
theorem gD {p:Prop} [Decidable p] (h:decide p=true:=by first|(with_reducible assumption)|assumption):p:=of_decide_eq_true h
theorem gj (w:World):aa (Below w.heap.size w w):=⟨Below.refl _ w⟩
end Go.Proofs.ai.bX
namespace Go.Proofs.ai.dh
section
variable {P:Program} {ops:Array Oper} {Q:Exit ->Act ->World ->Prop} {md:Region.Mode} {S:World ->Prop} {ds:List Nat}
def Region.rA (md:Region.Mode) (ops:Array Oper) (i:Nat):Nat ->Nat ->Bool
  |0,_=>false
  |fuel+1,d=>match ops[d]? with
    |some o=>o.after.any fun e=>Region.binds md e && (e.on==i||Region.rA md ops i fuel e.on)
    |none=>false
def Region.zb (md:Region.Mode) (ops:Array Oper) (listed:Array Bool):Bool:=
  (List.range ops.size).all fun j=> !listed.getD j false||match ops[j]? with
    |some o=>o.after.all fun e=> !Region.binds md e||listed.getD e.on false
    |none=>true
def Region.Mb (md:Region.Mode) (ops:Array Oper) (listed:Array Bool) (ds:List Nat) (i:Nat):Bool:=
  ds.all fun d=>listed.getD d true||Region.rA md ops i ops.size d
def mP (md:Region.Mode) (ops:Array Oper) (listed:Array Bool):Prop:=
  ∀ j oj,ops[j]?=some oj ->listed.getD j false=true ->∀ e ∈ oj.after,Region.binds md e=true ->listed.getD e.on false=true
theorem Region.FD {listed:Array Bool} (h:Region.zb md ops listed=true):mP md ops listed:=by
  intro j oj hj hl e he hb;have hlt:j<ops.size:=(Array.getElem?_eq_some_iff.1 hj).1;have h1:=List.all_eq_true.1 h j (List.mem_range.2 hlt);simp only [hl,hj,Bool.not_true,Bool.false_or] at h1
  have h2:=Array.all_eq_true_iff_forall_mem.1 h1 e he
  simpa [hb] using h2
theorem mP.set {listed:Array Bool} {i:Nat} (h:mP md ops listed) (hi:i ∈ Region.ready md ops listed):mP md ops (listed.setIfInBounds i true):=by
  obtain ⟨_,oi,hoi,hall⟩:=mem_ready.1 hi;intro j oj hj hl e he hb
  by_cases hij:i=j
  · subst hij
    have:oj=oi:=cS (hj.symm.trans hoi);subst this;exact getD_set_true (hall e he hb)
  · rw [getD_set_ne false hij] at hl
    exact getD_set_true (h j oj hj hl e he hb)
theorem Region.zf {listed:Array Bool} {i:Nat} (hc:mP md ops listed):∀ (fuel d:Nat),Region.rA md ops i fuel d=true ->listed.getD d false=true ->listed.getD i false=true
  |0,_,h,_=>by simp [Region.rA] at h
  |fuel+1,d,h,hl=>by
    unfold Region.rA at h
    cases ho:ops[d]? with
    |none=>rw [ho] at h;simp at h
    |some o=>
      rw [ho] at h
      obtain ⟨e,he,h1⟩:=Array.any_eq_true'.1 h;simp only [Bool.and_eq_true,Bool.or_eq_true,beq_iff_eq] at h1
      have hle:=hc d o ho hl e he h1.1
      rcases h1.2 with h2|h2
      · rw [<- h2];exact hle
      · exact Region.zf hc fuel e.on h2 hle
theorem Region.Bs {listed:Array Bool} {i d fuel:Nat} (hc:mP md ops listed) (hr:Region.rA md ops i fuel d=true) (hun:listed.getD i true=false):d ∉ Region.ready md ops listed:=by
  intro hd;obtain ⟨_,o,ho,hall⟩:=mem_ready.1 hd
  have hi:listed.getD i false=true:=by
    cases fuel with
    |zero=>simp [Region.rA] at hr
    |succ n=>
      unfold Region.rA at hr
      rw [ho] at hr
      obtain ⟨e,he,h1⟩:=Array.any_eq_true'.1 hr;simp only [Bool.and_eq_true,Bool.or_eq_true,beq_iff_eq] at h1
      have hle:=hall e he h1.1
      rcases h1.2 with h2|h2
      · rw [<- h2];exact hle
      · exact Region.zf hc n e.on h2 hle
  rcases Nat.lt_or_ge i listed.size with h'|h'
  · simp [h'] at hun hi
    rw [hun] at hi
    cases hi
  · simp [Array.getElem?_eq_none h'] at hun
def cL (P:Program) (md:Region.Mode) (ops:Array Oper) (Q:Exit ->Act ->World ->Prop) (S:World ->Prop) (ds:List Nat):Nat ->Array Bool ->Act ->World ->Prop
  |0,listed,a,w=>Region.ready md ops listed=[] /\ Q .normal a w
  |fuel+1,listed,a,w=>
    (Region.ready md ops listed=[] ->Q .normal a w) /\
    ∀ i ∈ Region.ready md ops listed,wpOp P ops Q i (fun a' w'=>(i ∉ ds ->S w ->S w') /\ cL P md ops Q S ds fuel (listed.setIfInBounds i true) a' w') a w
theorem yo:∀ (fuel:Nat) (listed:Array Bool) (a:Act) (w:World),cL P md ops Q S ds fuel listed a w ->wpAny P md ops Q fuel listed a w
  |0,_,_,_,h=>h
  |fuel+1,_,_,_,h=>⟨h.1,fun i hi=>wpOp_mono (fun a' w' h'=>yo fuel _ a' w' h'.2) (h.2 i hi)⟩
theorem Bt {i:Nat} {oi:Oper} {v:Value} (hi:ops[i]?=some oi) (hsel:∀ (j:Nat) (o:Oper) cs b,ops[j]?=some o ->o.op≠ .select cs b)
    (hQ:∀ c a w,Q (.panic c) (a.put oi.dst v) w ->Q (.panic c) a w) (n:Nat):
    ∀ (fuel:Nat) (listed:Array Bool) (a:Act) (w:World),
      (∀ j oj,ops[j]?=some oj ->j≠i ->listed.getD j true=false ->(∀ e ∈ oj.after,Region.binds md e=true ->e.on≠i) ->oi.apart ops oj=true) ->
      mP md ops listed ->(∀ d ∈ ds,listed.getD d true=false ->Region.rA md ops i n d=true) ->
      i ∈ Region.ready md ops listed ->YieldsIf P ops S oi v a ->S w ->
      cL P md ops Q S ds fuel (listed.setIfInBounds i true) (a.put oi.dst v) w ->cL P md ops Q S ds (fuel+1) listed a w:=by
  intro fuel
  induction fuel with
  |zero=>
    intro listed a w _ _ _ hr hy hS H;refine ⟨fun h=>(by rw [h] at hr;cases hr),fun j hj=> ?_⟩
    by_cases hji:j=i
    · subst hji;exact hy.wpOp hi hS ⟨fun _ h=>h,H⟩
    · have:=ready_mono hj hji
      rw [H.1] at this
      cases this
  |succ fuel ih=>
    intro listed a w hfree hc hd hr hy hS H;refine ⟨fun h=>(by rw [h] at hr;cases hr),fun j hj=> ?_⟩
    by_cases hji:j=i
    · subst hji;exact hy.wpOp hi hS ⟨fun _ h=>h,H⟩
    · have h1:=H.2 j (ready_mono hj hji)
      obtain ⟨hjun,oj,hoj,hall⟩:=mem_ready.1 hj;have Ny:=(mem_ready.1 hr).1
      have hnot:∀ e ∈ oj.after,Region.binds md e=true ->e.on≠i:=fun e he hb heq=>by
        have h1:=hall e he hb;rw [heq] at h1
        rcases Nat.lt_or_ge i listed.size with h'|h'
        · simp [h'] at Ny h1;rw [Ny] at h1;cases h1
        · simp [Array.getElem?_eq_none h'] at h1
      have hjd:j ∉ ds:=fun hm=>Region.Bs hc (hd j hm hjun) Ny hj
      have h2:=wpOp_putIf hoj (hfree j oj hoj hji hjun hnot) (fun cs b=>hsel i oi cs b hi) (fun cs b=>hsel j oj cs b hoj) hQ hy h1
      have hfree':∀ k ok,ops[k]?=some ok ->k≠i ->(listed.setIfInBounds j true).getD k true=false ->
          (∀ e ∈ ok.after,Region.binds md e=true ->e.on≠i) ->oi.apart ops ok=true:=fun k ok hk hki hun hno=>by
        refine hfree k ok hk hki ?_ hno
        by_cases hjk:j=k
        · subst hjk;exact hjun
        · rw [getD_set_ne true hjk] at hun;exact hun
      have hd':∀ d ∈ ds,(listed.setIfInBounds j true).getD d true=false ->Region.rA md ops i n d=true:=fun d hm hun=>by
        refine hd d hm ?_
        by_cases hjk:j=d
        · subst hjk;exact hjun
        · rw [getD_set_ne true hjk] at hun;exact hun
      refine wpOp_mono (fun a' w' h3=>⟨h3.2.1,ih (listed.setIfInBounds j true) a' w' hfree' (hc.set hj) hd' (ready_mono hr (Ne.symm hji)) h3.1 (h3.2.1 hjd hS) ?_⟩) h2;rw [Array.setIfInBounds_comm _ _ hji];exact h3.2.2
theorem Eh {i:Nat} {oi:Oper} {v:Value} (hi:ops[i]?=some oi) (hsel:∀ (j:Nat) (o:Oper) cs b,ops[j]?=some o ->o.op≠ .select cs b)
    (hQ:∀ c a w,Q (.panic c) (a.put oi.dst v) w ->Q (.panic c) a w):
    ∀ (fuel:Nat) (listed:Array Bool) (a:Act) (w:World),
      (∀ j oj,ops[j]?=some oj ->j≠i ->listed.getD j true=false ->(∀ e ∈ oj.after,Region.binds md e=true ->e.on≠i) ->oi.apart ops oj=true) ->
      i ∈ Region.ready md ops listed ->Yields P ops oi v a ->
      cL P md ops Q S ds fuel (listed.setIfInBounds i true) (a.put oi.dst v) w ->cL P md ops Q S ds (fuel+1) listed a w:=by
  intro fuel
  induction fuel with
  |zero=>
    intro listed a w _ hr hy H;refine ⟨fun h=>(by rw [h] at hr;cases hr),fun j hj=> ?_⟩
    by_cases hji:j=i
    · subst hji;exact (hy.yieldsIf (S:=fun _=>True)).wpOp hi trivial ⟨fun _ h=>h,H⟩
    · have:=ready_mono hj hji
      rw [H.1] at this
      cases this
  |succ fuel ih=>
    intro listed a w hfree hr hy H;refine ⟨fun h=>(by rw [h] at hr;cases hr),fun j hj=> ?_⟩
    by_cases hji:j=i
    · subst hji;exact (hy.yieldsIf (S:=fun _=>True)).wpOp hi trivial ⟨fun _ h=>h,H⟩
    · have h1:=H.2 j (ready_mono hj hji)
      obtain ⟨hjun,oj,hoj,hall⟩:=mem_ready.1 hj;have Ny:=(mem_ready.1 hr).1
      have hnot:∀ e ∈ oj.after,Region.binds md e=true ->e.on≠i:=fun e he hb heq=>by
        have h1:=hall e he hb;rw [heq] at h1
        rcases Nat.lt_or_ge i listed.size with h'|h'
        · simp [h'] at Ny h1;rw [Ny] at h1;cases h1
        · simp [Array.getElem?_eq_none h'] at h1
      have h2:=wpOp_put hoj (hfree j oj hoj hji hjun hnot) (fun cs b=>hsel i oi cs b hi) (fun cs b=>hsel j oj cs b hoj) hQ hy h1
      have hfree':∀ k ok,ops[k]?=some ok ->k≠i ->(listed.setIfInBounds j true).getD k true=false ->
          (∀ e ∈ ok.after,Region.binds md e=true ->e.on≠i) ->oi.apart ops ok=true:=fun k ok hk hki hun hno=>by
        refine hfree k ok hk hki ?_ hno
        by_cases hjk:j=k
        · subst hjk;exact hjun
        · rw [getD_set_ne true hjk] at hun;exact hun
      refine wpOp_mono (fun a' w' h3=>⟨h3.2.1,ih (listed.setIfInBounds j true) a' w' hfree' (ready_mono hr (Ne.symm hji)) h3.1 ?_⟩) h2;rw [Array.setIfInBounds_comm _ _ hji];exact h3.2.2
theorem Ct {i:Nat} {oi:Oper} {v:Value} {fuel:Nat} {listed:Array Bool} {a:Act} {w:World} (hi:ops[i]?=some oi)
    (hs:Region.noSelect ops=true) (hf:Region.free md ops listed i=true) (hr:(Region.ready md ops listed).contains i=true)
    (hc:Region.zb md ops listed=true) (hl:Region.Mb md ops listed ds i=true)
    (hQ:∀ c a w,Q (.panic c) (a.put oi.dst v) w ->Q (.panic c) a w) (hy:YieldsIf P ops S oi v a) (hS:S w)
    (h:cL P md ops Q S ds fuel (listed.setIfInBounds i true) (a.put oi.dst v) w):cL P md ops Q S ds (fuel+1) listed a w:=
  Bt hi (Region.noSelect_spec hs) hQ ops.size fuel listed a w (Region.free_spec hi hf) (Region.FD hc)
    (fun d hm hun=>by have:=List.all_eq_true.1 hl d hm;rw [hun] at this;simpa using this) (by simpa using hr) hy hS h
theorem Ei {rs:List Nat} {fuel:Nat} {listed:Array Bool} {a:Act} {w:World} (hr:Region.ready md ops listed=rs) (hne:rs≠[])
    (h:∀ i ∈ rs,wpOp P ops Q i (fun a' w'=>(i ∉ ds ->S w ->S w') /\ cL P md ops Q S ds fuel (listed.setIfInBounds i true) a' w') a w):cL P md ops Q S ds (fuel+1) listed a w:=
  ⟨fun h0=>absurd (hr ▸ h0) hne,hr ▸ h⟩
theorem Cu {listed:Array Bool} {a:Act} {w:World} (hr:Region.ready md ops listed=[]) (h:Q .normal a w):
    ∀ fuel,cL P md ops Q S ds fuel listed a w
  |0=>⟨hr,h⟩
  |_+1=>⟨fun _=>h,by rw [hr];simp⟩
theorem Cv {id:Nat} {a:Act} {w:World} (hm:P.follows .mixedOrders=true)
    (h:cL P .any ops Q S ds ops.size (Array.replicate ops.size false) a {w with drawn:=w.drawn+1}):(Code.region id ops true).wp P Q a w:=
  wp_region_any hm (yo _ _ _ _ h)
end
section
variable {P:Program} {ops:Array Oper} {Q:Exit ->Act ->World ->Prop} {md:Region.Mode} {S:World ->Prop} {ds:List Nat}
def ji (P:Program) (md:Region.Mode) (ops:Array Oper) (Q:Exit ->Act ->World ->Prop) (S:World ->Prop) (ds:List Nat) (fuel:Nat) (listed:Array Bool) (a:Act) (w:World) (rs:List Nat):Prop:=
  ∀ i ∈ rs,wpOp P ops Q i (fun a' w'=>(i ∉ ds ->S w ->S w') /\ cL P md ops Q S ds fuel (listed.setIfInBounds i true) a' w') a w
theorem ji.nil {fuel:Nat} {listed:Array Bool} {a:Act} {w:World}:ji P md ops Q S ds fuel listed a w []:=fun _ h=>by cases h
theorem ji.cons {fuel:Nat} {listed:Array Bool} {a:Act} {w:World} {i:Nat} {o:Oper} {rs:List Nat} (ho:ops[i]?=some o) (hd:i ∉ ds)
    (h:∀ K':Act ->World ->Prop,Shut (∀ a w,S w ->(S w ->cL P md ops Q S ds fuel (listed.setIfInBounds i true) a w) ->K' a w) ->if Region.wanted o (yielded ops a.tmps)=true then Oper.wp P o a w K' Q else K' (a.put o.dst undef) w)
    (hs:ji P md ops Q S ds fuel listed a w rs):ji P md ops Q S ds fuel listed a w (i::rs):=fun j hj=>by
  rcases List.mem_cons.1 hj with rfl|hj
  · exact wpOp_step ho (fun K' hK=>h K' (fun a w hS hW=>hK a w ⟨fun _ _=>hS,hW hS⟩))
  · exact hs j hj
theorem ji.Nz {fuel:Nat} {listed:Array Bool} {a:Act} {w:World} {i:Nat} {o:Oper} {rs:List Nat} (ho:ops[i]?=some o) (hd:i ∈ ds)
    (h:∀ K':Act ->World ->Prop,Shut (∀ a w,cL P md ops Q S ds fuel (listed.setIfInBounds i true) a w ->K' a w) ->if Region.wanted o (yielded ops a.tmps)=true then Oper.wp P o a w K' Q else K' (a.put o.dst undef) w)
    (hs:ji P md ops Q S ds fuel listed a w rs):ji P md ops Q S ds fuel listed a w (i::rs):=fun j hj=>by
  rcases List.mem_cons.1 hj with rfl|hj
  · exact wpOp_step ho (fun K' hK=>h K' (fun a w hW=>hK a w ⟨fun hn=>absurd hd hn,hW⟩))
  · exact hs j hj
theorem rB {rs:List Nat} {fuel:Nat} {listed:Array Bool} {a:Act} {w:World} (hr:Region.ready md ops listed=rs) (hne:rs≠[])
    (h:ji P md ops Q S ds fuel listed a w rs):cL P md ops Q S ds (fuel+1) listed a w:=Ei hr hne h
theorem dg {id n:Nat} {a:Act} {w:World} (l:Array Bool) (hm:P.follows .mixedOrders=true) (hn:ops.size=n) (hl:Array.replicate n false=l) (hS:S w.drew)
    (h:S w.drew ->cL P .any ops Q S ds n l a w.drew):(Code.region id ops true).wp P Q a w:=by
  subst hn;subst hl;exact Cv hm (h hS)
def Hu (md:Region.Mode) (ops:Array Oper) (ds:List Nat) (l l':Array Bool) (i:Nat):Bool:=
  Region.noSelect ops && Region.free md ops l i && (Region.ready md ops l).contains i && Region.zb md ops l && Region.Mb md ops l ds i && (l.setIfInBounds i true==l')
theorem gK {i:Nat} {N:Option Tmp} {oi:Oper} {v:Value} {fuel:Nat} {l:Array Bool} {a:Act} {w:World} (l':Array Bool) (hi:ops[i]?=some oi) (hN:oi.dst=N) (hc:Hu md ops ds l l' i=true)
    (hQ:∀ c a w,Q (.panic c) (a.put oi.dst v) w ->Q (.panic c) a w) (hy:YieldsIf P ops S oi v a) (hS:S w) {a':Act} (ha:a.put N v=a')
    (h:cL P md ops Q S ds fuel l' a' w):cL P md ops Q S ds (fuel+1) l a w:=by
  subst ha;subst hN;simp only [Hu,Bool.and_eq_true,beq_iff_eq] at hc
  obtain ⟨⟨⟨⟨⟨h1,h2⟩,h3⟩,h4⟩,h5⟩,h6⟩:=hc;subst h6;exact Ct hi h1 h2 h3 h4 h5 hQ hy hS h
def Tk (md:Region.Mode) (ops:Array Oper) (l l':Array Bool) (i:Nat):Bool:=
  Region.noSelect ops && Region.free md ops l i && (Region.ready md ops l).contains i && (l.setIfInBounds i true==l')
theorem wI {i:Nat} {N:Option Tmp} {oi:Oper} {v:Value} {fuel:Nat} {l:Array Bool} {a:Act} {w:World} (l':Array Bool) (hi:ops[i]?=some oi) (hN:oi.dst=N) (hc:Tk md ops l l' i=true)
    (hQ:∀ c a w,Q (.panic c) (a.put oi.dst v) w ->Q (.panic c) a w) (hy:Yields P ops oi v a) {a':Act} (ha:a.put N v=a')
    (h:cL P md ops Q S ds fuel l' a' w):cL P md ops Q S ds (fuel+1) l a w:=by
  subst ha;subst hN;simp only [Tk,Bool.and_eq_true,beq_iff_eq] at hc
  obtain ⟨⟨⟨h1,h2⟩,h3⟩,h6⟩:=hc;subst h6;exact Eh hi (Region.noSelect_spec h1) hQ fuel l a w (Region.free_spec hi h2) (by simpa using h3) hy h
def Ad (md:Region.Mode) (ops:Array Oper) (l l':Array Bool) (i:Nat):Bool:=(Region.ready md ops l==[i]) && (l.setIfInBounds i true==l')
theorem YA {i:Nat} {N:Option Tmp} {oi:Oper} {fuel:Nat} {l:Array Bool} {a:Act} {w:World} (l':Array Bool) (hi:ops[i]?=some oi) (hN:oi.dst=N) (hc:Ad md ops l l' i=true) (hd:i ∉ ds)
    (h:∀ K:Act ->World ->Prop,Shut (∀ a' w',S w' ->(S w' ->cL P md ops Q S ds fuel l' a' w') ->K a' w') ->if Region.wanted oi (yielded ops a.tmps)=true then Oper.wp P oi a w K Q else K (a.put N undef) w):
    cL P md ops Q S ds (fuel+1) l a w:=by
  subst hN;simp only [Ad,Bool.and_eq_true,beq_iff_eq] at hc
  obtain ⟨h1,h2⟩:=hc;subst h2;exact rB h1 (by simp) (ji.cons hi hd (fun K hK=>h K hK) ji.nil)
theorem AcO {i:Nat} {N:Option Tmp} {oi:Oper} {fuel:Nat} {l:Array Bool} {a:Act} {w:World} (l':Array Bool) (hi:ops[i]?=some oi) (hN:oi.dst=N) (hc:Ad md ops l l' i=true) (hd:i ∈ ds)
    (h:∀ K:Act ->World ->Prop,Shut (∀ a' w',cL P md ops Q S ds fuel l' a' w' ->K a' w') ->if Region.wanted oi (yielded ops a.tmps)=true then Oper.wp P oi a w K Q else K (a.put N undef) w):
    cL P md ops Q S ds (fuel+1) l a w:=by
  subst hN;simp only [Ad,Bool.and_eq_true,beq_iff_eq] at hc
  obtain ⟨h1,h2⟩:=hc;subst h2;exact rB h1 (by simp) (ji.Nz hi hd (fun K hK=>h K hK) ji.nil)
theorem V8 {l:Array Bool} {a:Act} {w:World} {n:Nat} (hr:(Region.ready md ops l==[])=true) (h:Q .normal a w):cL P md ops Q S ds n l a w:=Cu (by simpa using hr) h n
theorem AkH {i j:Nat} {Ni Nj:Option Tmp} {oi oj:Oper} {fuel:Nat} {l:Array Bool} {a:Act} {w:World} (li lj:Array Bool) (hi:ops[i]?=some oi) (hj:ops[j]?=some oj) (hNi:oi.dst=Ni) (hNj:oj.dst=Nj)
    (hc:(Region.ready md ops l==[i,j] && l.setIfInBounds i true==li && l.setIfInBounds j true==lj)=true) (hdi:i ∉ ds) (hdj:j ∉ ds)
    (h1:∀ K:Act ->World ->Prop,Shut (∀ a' w',S w' ->(S w' ->cL P md ops Q S ds fuel li a' w') ->K a' w') ->if Region.wanted oi (yielded ops a.tmps)=true then Oper.wp P oi a w K Q else K (a.put Ni undef) w)
    (h2:∀ K:Act ->World ->Prop,Shut (∀ a' w',S w' ->(S w' ->cL P md ops Q S ds fuel lj a' w') ->K a' w') ->if Region.wanted oj (yielded ops a.tmps)=true then Oper.wp P oj a w K Q else K (a.put Nj undef) w):
    cL P md ops Q S ds (fuel+1) l a w:=by
  subst hNi;subst hNj;simp only [Bool.and_eq_true,beq_iff_eq] at hc
  obtain ⟨⟨h3,h4⟩,h5⟩:=hc;subst h4;subst h5;exact rB h3 (by simp) (ji.cons hi hdi (fun K hK=>h1 K hK) (ji.cons hj hdj (fun K hK=>h2 K hK) ji.nil))
def Ae:Act ->List (Tmp×Value) ->Act
  |a,[]=>a
  |a,(n,v)::r=>Ae (a.put (some n) v) r
theorem AcP {σ:Type} {fuel:Nat} {l:Array Bool} {a:Act} {w:World} (fuel':Nat) (l':Array Bool) (ns:σ ->List (Tmp×Value)) (F:σ ->World ->Prop)
    (AcQ:∀ s w',F s w' ->cL P md ops Q S ds fuel' l' (Ae a (ns s)) w')
    (h:(∀ s w',F s w' ->cL P md ops Q S ds fuel' l' (Ae a (ns s)) w') ->cL P md ops Q S ds fuel l a w):cL P md ops Q S ds fuel l a w:=h AcQ
theorem Mc {fuel:Nat} {l:Array Bool} {a a':Act} {w:World} (ha:a=a') (h:cL P md ops Q S ds fuel l a' w):cL P md ops Q S ds fuel l a w:=by
  subst ha;exact h
theorem call_ {oi:Oper} {N:Option Tmp} {a:Act} {w:World} {K:Act ->World ->Prop} (f:FuncId) (args:Array Value) (hw:Region.wanted oi (yielded ops a.tmps)=true) (hN:oi.dst=N) (hrun:(execOp a.eval oi).run P w= .ok (.enter f args) w)
    (h:Calls P f args w fun e w'=>∃ v,e= .returned v /\ K (a.put N v) w'):if Region.wanted oi (yielded ops a.tmps)=true then Oper.wp P oi a w K Q else K (a.put N undef) w:=by
  rw [au hw];subst hN;unfold Oper.wp;rw [hrun,Oper.upon_enter];refine h.mono fun e w'' hh=> ?_
  obtain ⟨v,rfl,hk⟩:=hh;exact hk
theorem FE {f:FuncId} {fn:Func} (hf:P.funcs[f]?=some fn) (hname:(fn.name== "runtime.NumGoroutine")=false) (hb:fn.body.isSome=true) (args:Array Value) (w:World):(callFunc f args).run P w= .ok (.enter f args) w:=by
  have h1:fn.name≠ "runtime.NumGoroutine" :=by simpa using hname
  obtain ⟨c,hc⟩:=Option.isSome_iff_exists.1 hb
  simp [callFunc,hf,h1,hc]
theorem kF {oi:Oper} {N:Option Tmp} {a:Act} {w:World} {K:Act ->World ->Prop} {f:FuncId} {fn:Func} {as:Array Operand} {ts:Array TypeId} (hf:P.funcs[f]?=some fn) (hname:(fn.name== "runtime.NumGoroutine")=false) (hb:fn.body.isSome=true) (args:Array Value)
    (hw:Region.wanted oi (yielded ops a.tmps)=true) (hN:oi.dst=N) (hop:oi.op= .call {callee:= .value (.func f),args:=as,argTypes:=ts}) (hargs:as.map a.eval=args)
    (h:Calls P f args w fun e w'=>∃ v,e= .returned v /\ K (a.put N v) w'):if Region.wanted oi (yielded ops a.tmps)=true then Oper.wp P oi a w K Q else K (a.put N undef) w:=by
  refine call_ f args hw hN ?_ h;have he:=FE hf hname hb args w;unfold execOp
  simp [hop,resolve,Deferred.ofValue,invoke,Act.eval,hargs,he]
theorem tQ {rest:List Oper} {oi:Oper} {a:Act} {w:World} (N:Option Tmp) (hd:oi.dst=N) (hg:oi.guard=none) {f:FuncId} {fn:Func} {as:Array Operand} {ts:Array TypeId} (hf:P.funcs[f]?=some fn) (hname:(fn.name== "runtime.NumGoroutine")=false) (hb:fn.body.isSome=true) (args:Array Value)
    (hop:oi.op= .call {callee:= .value (.func f),args:=as,argTypes:=ts}) (hargs:as.map a.eval=args)
    (h:Calls P f args w fun e w'=>∃ v,e= .returned v /\ wpList P ops Q rest (a.put N v) w'):wpList P ops Q (oi::rest) a w:=by
  refine wpList_plain hg fun K hK=> ?_
  have he:=FE hf hname hb args w
  have hrun:(execOp a.eval oi).run P w= .ok (.enter f args) w:=by
    unfold execOp
    simp [hop,resolve,Deferred.ofValue,invoke,Act.eval,hargs,he]
  unfold Oper.wp;rw [hrun,Oper.upon_enter];refine h.mono fun e w'' hh=> ?_
  obtain ⟨v,rfl,hk⟩:=hh;subst hd;exact hK _ _ hk
theorem wJ {oi:Oper} {a:Act} {w w1:World} {K:Act ->World ->Prop} (hw:Region.wanted oi (yielded ops a.tmps)=true) (hN:oi.dst=none) (hrun:(execOp a.eval oi).run P w= .ok .skip w1)
    (h:K a w1):if Region.wanted oi (yielded ops a.tmps)=true then Oper.wp P oi a w K Q else K (a.put none undef) w:=by
  rw [au hw];unfold Oper.wp;rw [hrun]
  show K (a.put oi.dst undef) w1
  rw [hN];exact h
theorem ag {oi:Oper} {N:Option Tmp} {a:Act} {w:World} {K:Act ->World ->Prop} (hw:Region.wanted oi (yielded ops a.tmps)=false) (h:K (a.put N undef) w):if Region.wanted oi (yielded ops a.tmps)=true then Oper.wp P oi a w K Q else K (a.put N undef) w:=by
  rw [hw,ax (by simp)];exact h
theorem jk (n:Int):IntKind.i64.wrap n=Go.RowKit.wrap64 n:=by unfold Go.RowKit.wrap64;exact IntKind.wrap_i64 n
theorem mo (n:Int):IntKind.i32.wrap n=Go.RowKit.wrap32 n:=by unfold Go.RowKit.wrap32;exact IntKind.wrap_i32 n
end
end Go.Proofs.ai.dh
namespace Go.Proofs.ai.dh
open Go.Proofs.ai.bX (aa)
def xy (md:Region.Mode) (o:Oper):List Nat:=(o.after.toList.filter (fun e=>Region.binds md e)).map (fun e=>e.on)
def FF (md:Region.Mode) (ops:Array Oper) (i:Nat) (oi:Oper):List Nat:=(List.range ops.size).filter fun j=> !(j==i) && match ops[j]? with
  |some oj=> !(oj.after.any (fun e=>Region.binds md e && e.on==i)||oi.apart ops oj)
  |none=>false
def gS (md:Region.Mode) (ops:Array Oper):Bool×List (List Nat×List Nat):=(Region.noSelect ops,(List.range ops.size).map fun i=>match ops[i]? with
  |some o=>(xy md o,FF md ops i o)
  |none=>([],[]))
def sW (T:List (List Nat×List Nat)) (l:List Bool) (i:Nat):Bool:= !l.getD i true && match T[i]? with
  |some r=>r.1.all (fun j=>l.getD j false)
  |none=>false
def wK (T:List (List Nat×List Nat)) (l:List Bool):List Nat:=(List.range T.length).filter (sW T l)
def Hv (T:List (List Nat×List Nat)) (l:List Bool) (i:Nat):Bool:=match T[i]? with
  |some r=>r.2.all (fun j=>l.getD j true)
  |none=>false
def BN (T:List (List Nat×List Nat)) (l:List Bool):Bool:=(List.range T.length).all fun j=> !l.getD j false||match T[j]? with
  |some r=>r.1.all (fun k=>l.getD k false)
  |none=>true
def Af (T:List (List Nat×List Nat)) (i:Nat):Nat ->Nat ->Bool
  |0,_=>false
  |fuel+1,d=>match T[d]? with
    |some r=>r.1.any fun j=>j==i||Af T i fuel j
    |none=>false
def Md (T:List (List Nat×List Nat)) (l:List Bool) (ds:List Nat) (i:Nat):Bool:=ds.all fun d=>l.getD d true||Af T i T.length d
section
variable {md:Region.Mode} {ops:Array Oper} {T:Bool×List (List Nat×List Nat)} {l l' li lj lk:Array Bool} {ds:List Nat} {i j k:Nat}
theorem gd (l:Array Bool) (j:Nat) (b:Bool):l.getD j b=l.toList.getD j b:=by simp [Array.getD_eq_getD_getElem?,List.getD_eq_getElem?_getD]
theorem EE (o:Oper) (p:Nat ->Bool):o.after.all (fun e=> !Region.binds md e||p e.on)=(xy md o).all p:=by
  unfold xy;rw [<- Array.all_toList]
  induction o.after.toList with
  |nil=>rfl
  |cons e r ih=>
    rw [List.all_cons,ih,List.filter_cons]
    cases h:Region.binds md e<;>simp
theorem NA (o:Oper) (p:Nat ->Bool):o.after.any (fun e=>Region.binds md e && p e.on)=(xy md o).any p:=by
  unfold xy;rw [<- Array.any_toList]
  induction o.after.toList with
  |nil=>rfl
  |cons e r ih=>
    rw [List.any_cons,ih,List.filter_cons]
    cases h:Region.binds md e<;>simp
theorem sX:(gS md ops).2.length=ops.size:=by simp [gS]
theorem xz {o:Oper} (h:ops[i]?=some o):(gS md ops).2[i]?=some (xy md o,FF md ops i o):=by
  have hi:=(Array.getElem?_eq_some_iff.1 h).1;unfold gS;rw [List.getElem?_map,List.getElem?_range hi,Option.map_some,h]
theorem xA (h:ops[i]?=none):(gS md ops).2[i]?=none:=by
  have hi:ops.size<=i:=Array.getElem?_eq_none_iff.1 h;exact List.getElem?_eq_none (by rw [sX];exact hi)
theorem Kv:sW (gS md ops).2 l.toList i=(!l.getD i true && ((ops[i]?).map (·.after.all fun e=> !Region.binds md e||l.getD e.on false)).getD false):=by
  unfold sW;rw [gd]
  cases h:ops[i]? with
  |none=>rw [xA h];rfl
  |some o=>
    rw [xz h];simp only [Option.map_some,Option.getD_some];rw [<- EE];simp only [gd]
theorem zg:Region.ready md ops l=wK (gS md ops).2 l.toList:=by
  unfold Region.ready wK;rw [sX];refine List.filter_congr (fun i _=> ?_);rw [Kv]
theorem Me:Region.free md ops l i=Hv (gS md ops).2 l.toList i:=by
  unfold Region.free Hv
  cases h:ops[i]? with
  |none=>rw [xA h]
  |some oi=>
    rw [xz h];simp only [FF];rw [List.all_filter]
    congr 1
    funext j
    rw [gd]
    cases hj:ops[j]? with
    |none=>cases (j==i)<;>cases (l.toList.getD j true)<;>simp
    |some oj=>
      cases (j==i)<;>cases (l.toList.getD j true)<;>cases (oj.after.any (fun e=>Region.binds md e && e.on==i)||oi.apart ops oj)<;>simp_all
theorem NB:Region.zb md ops l=BN (gS md ops).2 l.toList:=by
  unfold Region.zb BN;rw [sX]
  congr 1
  funext j
  rw [gd]
  cases h:ops[j]? with
  |none=>rw [xA h]
  |some o=>
    rw [xz h]
    simp only
    rw [<- EE];simp only [gd]
theorem Hw:∀ (fuel d:Nat),Region.rA md ops i fuel d=Af (gS md ops).2 i fuel d
  |0,_=>rfl
  |fuel+1,d=>by
    unfold Region.rA Af
    cases h:ops[d]? with
    |none=>rw [xA h]
    |some o=>
      rw [xz h]
      simp only
      rw [<- NA]
      congr 1
      funext e
      rw [Hw fuel]
theorem Tm:Region.Mb md ops l ds i=Md (gS md ops).2 l.toList ds i:=by
  unfold Region.Mb Md;rw [sX]
  congr 1
  funext d
  rw [gd,Hw]
theorem AY (h:sW T.2 l.toList i=true) (hT:gS md ops=T):(Region.ready md ops l).contains i=true:=by
  subst hT;rw [zg];unfold wK;rw [List.contains_iff_mem,List.mem_filter,List.mem_range];refine ⟨?_,h⟩;unfold sW at h
  rw [Bool.and_eq_true] at h
  cases hq:(gS md ops).2[i]? with
  |none=>rw [hq] at h;simp at h
  |some r=>exact (List.getElem?_eq_some_iff.1 hq).1
theorem Cw (h:(l.toList.set i true==l'.toList)=true):(l.setIfInBounds i true==l')=true:=by
  rw [beq_iff_eq] at h|-
  apply Array.ext'
  rw [Array.toList_setIfInBounds];exact h
def Tn (T:Bool×List (List Nat×List Nat)) (l l':List Bool) (i:Nat):Bool:=T.1 && Hv T.2 l i && sW T.2 l i && (l.set i true==l')
theorem wL (hT:gS md ops=T) (h:Tn T l.toList l'.toList i=true):Tk md ops l l' i=true:=by
  simp only [Tn,Bool.and_eq_true] at h
  obtain ⟨⟨⟨h1,h2⟩,h3⟩,h4⟩:=h;have h5:=AY h3 hT;have h6:=Cw h4;subst hT;simp only [Tk,Bool.and_eq_true];exact ⟨⟨⟨h1,by rw [Me];exact h2⟩,h5⟩,h6⟩
def Pt (T:Bool×List (List Nat×List Nat)) (ds:List Nat) (l l':List Bool) (i:Nat):Bool:=T.1 && Hv T.2 l i && sW T.2 l i && BN T.2 l && Md T.2 l ds i && (l.set i true==l')
theorem Tp (hT:gS md ops=T) (h:Pt T ds l.toList l'.toList i=true):Hu md ops ds l l' i=true:=by
  simp only [Pt,Bool.and_eq_true] at h
  obtain ⟨⟨⟨⟨⟨h1,h2⟩,h3⟩,h4⟩,h5⟩,h6⟩:=h;have h7:=AY h3 hT;have h8:=Cw h6;subst hT;simp only [Hu,Bool.and_eq_true];exact ⟨⟨⟨⟨⟨h1,by rw [Me];exact h2⟩,h7⟩,by rw [NB];exact h4⟩,by rw [Tm];exact h5⟩,h8⟩
theorem Pu (hT:gS md ops=T) (h:(wK T.2 l.toList==[i] && l.toList.set i true==l'.toList)=true):Ad md ops l l' i=true:=by
  simp only [Bool.and_eq_true] at h
  obtain ⟨h1,h2⟩:=h;subst hT;simp only [Ad,Bool.and_eq_true];exact ⟨by rw [zg];exact h1,Cw h2⟩
theorem YB (hT:gS md ops=T) (h:(wK T.2 l.toList==[i,j] && l.toList.set i true==li.toList && l.toList.set j true==lj.toList)=true):(Region.ready md ops l==[i,j] && l.setIfInBounds i true==li && l.setIfInBounds j true==lj)=true:=by
  simp only [Bool.and_eq_true] at h|-
  obtain ⟨⟨h1,h2⟩,h3⟩:=h;subst hT;exact ⟨⟨by rw [zg];exact h1,Cw h2⟩,Cw h3⟩
theorem Tq (hT:gS md ops=T) (h:(wK T.2 l.toList==[])=true):(Region.ready md ops l==[])=true:=by
  subst hT;rw [zg];exact h
def YC (B:List Nat) (d:Nat):List Nat ->Nat
  |[]=>0
  |n::r=>(2 ^ n|||(if n<d then B.getD n 0 else 0))|||YC B d r
def dN (T:List (List Nat×List Nat)) (B:List Nat):Bool:=(List.range T.length).all fun d=>match T[d]? with
  |some r=>(B.getD d 0|||YC B d r.1)==YC B d r.1
  |none=>false
theorem Mf {B:List Nat} {d i:Nat}:∀ {ns:List Nat},(YC B d ns).testBit i=true ->∃ n ∈ ns,n=i \/ (n<d /\ (B.getD n 0).testBit i=true)
  |[],h=>by simp [YC] at h
  |n::r,h=>by
    unfold YC at h
    rw [Nat.testBit_or,Nat.testBit_or,Bool.or_eq_true,Bool.or_eq_true] at h
    rcases h with (h|h)|h
    · rw [Nat.testBit_two_pow] at h
      exact ⟨n,List.mem_cons_self,.inl (by simpa using h)⟩
    · by_cases hn:n<d
      · rw [au hn] at h
        exact ⟨n,List.mem_cons_self,.inr ⟨hn,h⟩⟩
      · rw [ax hn] at h
        simp at h
    · obtain ⟨m,hm,h2⟩:=Mf h
      exact ⟨m,List.mem_cons_of_mem _ hm,h2⟩
theorem EF {T:List (List Nat×List Nat)} {B:List Nat} (hB:dN T B=true):∀ (fuel d:Nat),d<fuel ->d<T.length ->(B.getD d 0).testBit i=true ->Af T i fuel d=true
  |0,d,h,_,_=>by omega
  |fuel+1,d,h,hd,hb=>by
    have h1:=List.all_eq_true.1 hB d (List.mem_range.2 hd)
    cases hr:T[d]? with
    |none=>rw [hr] at h1;simp at h1
    |some r=>
      rw [hr] at h1
      simp only [beq_iff_eq] at h1
      have h2:(YC B d r.1).testBit i=true:=by rw [<- h1,Nat.testBit_or,hb,Bool.true_or]
      obtain ⟨n,hn,h3⟩:=Mf h2;unfold Af;rw [hr]
      simp only
      rw [List.any_eq_true];refine ⟨n,hn, ?_⟩
      rcases h3 with rfl|⟨h4,h5⟩
      · simp
      · rw [EF hB fuel n (by omega) (by omega) h5,Bool.or_true]
def V9 (T:List (List Nat×List Nat)) (B:List Nat) (l:List Bool) (ds:List Nat) (i:Nat):Bool:=ds.all fun d=>l.getD d true||(decide (d<T.length) && (B.getD d 0).testBit i)
def Mg (T:Bool×List (List Nat×List Nat)) (B:List Nat) (ds:List Nat) (l l':List Bool) (i:Nat):Bool:=T.1 && Hv T.2 l i && sW T.2 l i && BN T.2 l && V9 T.2 B l ds i && (l.set i true==l')
theorem dn {B:List Nat} (hT:gS md ops=T) (hB:dN T.2 B=true) (h:Mg T B ds l.toList l'.toList i=true):Hu md ops ds l l' i=true:=by
  refine Tp hT ?_;simp only [Mg,Pt,Bool.and_eq_true] at h|-
  obtain ⟨⟨⟨⟨⟨h1,h2⟩,h3⟩,h4⟩,h5⟩,h6⟩:=h;refine ⟨⟨⟨⟨⟨h1,h2⟩,h3⟩,h4⟩, ?_⟩,h6⟩;unfold V9 at h5
  unfold Md;rw [List.all_eq_true] at h5|-
  intro d hd;have h7:=h5 d hd;rw [Bool.or_eq_true,Bool.and_eq_true,decide_eq_true_eq] at h7
  rcases h7 with h7|⟨h8,h9⟩
  · rw [h7,Bool.true_or]
  · rw [EF hB _ d h8 h8 h9,Bool.or_true]
theorem bH {P:Program} {Q:Exit ->Act ->World ->Prop} {S:World ->Prop} {n:Nat} {a:Act} {w:World} {B:List Nat} (hT:gS md ops=T) (hB:dN T.2 B=true) (h:aa (gS md ops=T) ->aa (dN T.2 B=true) ->cL P md ops Q S ds n l a w):cL P md ops Q S ds n l a w:=h ⟨hT⟩ ⟨hB⟩
end
def yp:Code ->Nat ->Option (Array Oper)
  | .region id ops _,k=>if id==k then some ops else none
  | .seq a b,k=>match yp a k with
    |some o=>some o
    |none=>yp b k
  | .cond _ a b,k=>match yp a k with
    |some o=>some o
    |none=>yp b k
  | .block _ c,k=>yp c k
  | .loop c,k=>yp c k
  | .scope c,k=>yp c k
  | .rangeFunc _ _ a b,k=>match yp a k with
    |some o=>some o
    |none=>yp b k
  |_,_=>none
def opsOf (f:Func) (k:Nat):Array Oper:=((f.body.bind fun c=>yp c k)).getD #[]
end Go.Proofs.ai.dh
namespace Go.Proofs.ai.bX
open Go.RowKit
namespace Kd
section
end
section
end
end Kd
namespace Kd
def tag {α:Type} (f:Nat ->Nat) (d:Kd α):Kd (α×Nat) where
  sz:=d.sz
  E:=d.E
  K:=fun w x cs=>d.K w x.1 cs
  M:=fun w base ok x cs=>d.M w base (fun k=>ok k /\ f k=x.2) x.1 cs
  rK:=fun h=>d.rK h
  qo:=fun h=>d.qo h
  nT:=fun hb h=>d.nT hb h
  lC:=fun h=>d.lC h
  jR:=fun hok h=>d.jR (fun k hk=>⟨hok k hk.1,hk.2⟩) h
  jM:=fun h=>d.jR (fun _ hk=>⟨⟨hk.1.1,hk.2⟩,hk.1.2⟩) (d.jM h)
  nh:=fun hm h=>d.nh (fun k hk=>hm k hk.1) h
  nU:=fun hb h=>d.nU hb h
def raw (sz:Nat):Kd (List Value) where
  sz:=sz
  E:=[]
  K:=fun _ x cs=>cs=x /\ cs.length=sz /\ ∀ u ∈ cs,u.oneCell'=true
  M:=fun _ _ _ x cs=>cs=x /\ cs.length=sz /\ ∀ u ∈ cs,u.oneCell'=true
  rK:=fun h=>h.2.1
  qo:=fun h=>h.2.2
  nT:=fun _ h=>h
  lC:=fun h=>h
  jR:=fun _ h=>h
  jM:=fun h=>h
  nh:=fun _ h=>h
  nU:=fun _ h=>h
def S {α:Type} (d:Kd α) (e:Nat) (w:World) (base:Nat) (ok:Nat ->Prop) (v:Value) (xs:List α):Prop:=∃ f,(tag f d).R e w base ok v xs.zipIdx
section
variable {α β:Type} {d:Kd α} {d':Kd β} {e e':Nat} {w w1 W:World} {base b:Nat} {ok ok' okv oku:Nat ->Prop} {u v:Value} {xs:List α} {ys:List β}
theorem kR (hE:d.E=[]) (h:d.R e w base ok v xs):d.R e w base (fun k=>some k=v.ownBlock) v xs:=by
  obtain ⟨h0,inner,ho,hr⟩:=h;refine ⟨fun k hk=>hk.symm,inner,ho,hr.tP (fun p c hp=>d.jR (fun k hk=> ?_) (d.jM hp))⟩;obtain ⟨_,_,_,q,hq,_⟩:=hk;rw [hE] at hq
  cases hq
theorem js (d:Kd α) (e:Nat) (w:World) (base:Nat) (ok:Nat ->Prop):S d e w base ok (.slice none 0 0) []:=⟨fun _=>0,cl _ _ _ _ _⟩
end
section
end
section
open Classical in
end
def gap {α:Type} (f:Nat ->Nat) (d:Kd α) (i:Nat) (c:List Value):Kd (α×Nat) where
  sz:=d.sz
  E:=d.E
  K:=fun w x cs=>(x.2=i ->cs=c /\ cs.length=d.sz /\ ∀ u ∈ cs,u.oneCell'=true) /\ (x.2≠i ->d.K w x.1 cs)
  M:=fun w base ok x cs=>(x.2=i ->cs=c /\ cs.length=d.sz /\ ∀ u ∈ cs,u.oneCell'=true) /\ (x.2≠i ->d.M w base (fun k=>ok k /\ f k=x.2) x.1 cs)
  rK:=fun {w x cs} h=>by
    by_cases hx:x.2=i
    · exact (h.1 hx).2.1
    · exact d.rK (h.2 hx)
  qo:=fun {w x cs} h=>by
    by_cases hx:x.2=i
    · exact (h.1 hx).2.2
    · exact d.qo (h.2 hx)
  nT:=fun hb h=>⟨h.1,fun hx=>d.nT hb (h.2 hx)⟩
  lC:=fun h=>⟨h.1,fun hx=>d.lC (h.2 hx)⟩
  jR:=fun hok h=>⟨h.1,fun hx=>d.jR (fun k hk=>⟨hok k hk.1,hk.2⟩) (h.2 hx)⟩
  jM:=fun h=>⟨h.1,fun hx=>d.jR (fun _ hk=>⟨⟨hk.1.1,hk.2⟩,hk.1.2⟩) (d.jM (h.2 hx))⟩
  nh:=fun hm h=>⟨h.1,fun hx=>d.nh (fun k hk=>hm k hk.1) (h.2 hx)⟩
  nU:=fun hb h=>⟨h.1,fun hx=>d.nU hb (h.2 hx)⟩
def H {α:Type} (d:Kd α) (e:Nat) (w:World) (base:Nat) (ok:Nat ->Prop) (v:Value) (xs:List α) (i:Int) (oki:Nat ->Prop) (c:List Value):Prop:=
  (∀ k,oki k ->ok k) /\ ∃ f,(gap f d i.toNat c).R e w base (fun k=>ok k /\ ¬ oki k) v xs.zipIdx
section
open Classical in
end
section
end
end Kd
namespace Kd
theorem Pv {α:Type} {R:α ->List Value ->Prop} {size:Nat} {ps:List α} {cs:List Value} (h:cI R size ps cs) (hs0:0<size) (hR:∀ p c,R p c ->∀ u ∈ c,u.oneCell'=true):∀ u ∈ cs,u.oneCell'=true:=by
  intro u hu;obtain ⟨q,hq,rfl⟩:=List.mem_iff_getElem.1 hu
  have hql:q / size<ps.length:=by
    rw [Nat.div_lt_iff_lt_mul hs0,<- h.1];exact hq
  refine hR _ _ (h.2 (q / size) _ (List.getElem?_eq_getElem hql)) _ ?_;rw [List.mem_iff_getElem?];refine ⟨q % size, ?_⟩;rw [List.getElem?_take,au (Nat.mod_lt _ hs0),List.getElem?_drop,Nat.mul_comm,Nat.div_add_mod,List.getElem?_eq_getElem hq]
section
end
section
end
end Kd
section
variable {P:Program}
theorem Ag (w:World) (base:Nat) (t ti ty e:TypeId) (i:TypeInfo) (z:Value) (size bytes:Nat) (ht:P.underlying t=some (.slice e)) {k:IntKind} (Ts:P.underlying ti=some (.int k)) (hi:P.info? e=some i) (hz:i.zero=some z)
    (hsize:i.size=size) (hby:i.bytes=bytes) (hzs:z.cells.size=size) (hsz:0<size) (hb0:0<bytes)
    (v:Value) (n:Nat) (xs:List Value) (hown:w.ownsRow base e size v n xs) (kx:IntKind) (m:Nat) (h1:∀ u ∈ (Builtin.zeroCells z.cells m).toList,u.oneCell'=true)
    (hbytes:(n+m)*bytes<=140737488355328) (hbase:base<=w.heap.size):
    ∃ v' w',(Builtin.append_ #[t,ti] ty #[v,.int kx m]).run P w= .ok v' w' /\ w'.ownsRow base e size v' (n+m) (xs++(Builtin.zeroCells z.cells m).toList) /\ w.grownBy w' v.ownBlock /\
      (v'.ownBlock=v.ownBlock \/ v'.ownBlock=some w.heap.size):=by
  subst hsize;subst hby;have hle:n+m<=140737488355328:=Nat.le_trans (Nat.le_mul_of_pos_right _ hb0) hbytes;have h63:n+m<=maxLen:=by simp only [maxLen];omega
  have hw:IntKind.i64.wrap (m:Int)=m:=by rw [IntKind.wrap_i64];omega
  have hw0:IntKind.i64.wrap 0=0:=by rw [IntKind.wrap_i64];rfl
  have hneg:¬ ((m:Int)<0):=by omega
  have hmb:m*i.bytes<=140737488355328:=Nat.le_trans (Nat.mul_le_mul_right _ (Nat.le_add_left m n)) hbytes
  have AcR:¬ (281474976710656<(m:Int)*(i.bytes:Int)):=by
    rw [<- Int.natCast_mul]
    omega
  have hsn:i.size≠0:=by omega
  obtain ⟨news,hnews⟩:∃ news,news=(Builtin.zeroCells z.cells m).toList:=⟨_,rfl⟩
  rw [<- hnews] at h1|-
  have hl:news.length=m*i.size:=by rw [hnews,Array.length_toList,size_zeroCells,hzs]
  have hna:Builtin.zeroCells z.cells m=news.toArray:=by rw [hnews]
  have hlen:(xs++news).length=(n+m)*i.size:=by rw [List.length_append,hown.1,hl,Nat.add_mul]
  have hnil:m=0 ->news=[]:=fun h=>List.eq_nil_of_length_eq_zero (by rw [hl,h,Nat.zero_mul])
  have grown:∀ (old:Nat),old<n+m ->∀ (row:Option Nat),
      (w.drew.alloc (.cells (xs.toArray++news.toArray++Builtin.zeroCells z.cells (grownCap w (n+m) old e - (n+m))) e)).ownsRow base e i.size
        (.slice (some ⟨w.heap.size,0,none⟩) (n+m) (grownCap w (n+m) old e)) (n+m) (xs++news) /\
      w.grownBy (w.drew.alloc (.cells (xs.toArray++news.toArray++Builtin.zeroCells z.cells (grownCap w (n+m) old e - (n+m))) e)) row:=by
    intro old ho row;have hge:=grownCap_ge w (n+m) old e;have hcm:grownCap w (n+m) old e<=maxLen:=grownCap_le_maxLen w (n+m) old e h63;refine ⟨⟨hlen,.inr ⟨w.heap.size,_,_,rfl,hbase,heap_alloc_new w.drew _,hge,hcm, ?_, ?_⟩⟩,⟨rfl,rfl,rfl,by simp,fun k hk _=>heap_alloc_old w.drew _ hk⟩⟩
    · simp only [Array.size_append,List.size_toArray,size_zeroCells,hzs,hown.1,hl,<- Nat.add_mul]
      congr 1
      omega
    · simp only [Array.toList_append,List.append_assoc]
      rw [<- List.append_assoc,<- hlen];exact List.take_left
  have runs:∀ (A:Option Addr) (cap:Nat),cap<n+m ->(Builtin.firstCells i.size n (.slice A n cap)).run P w.drew= .ok xs.toArray w.drew ->(Builtin.append_ #[t,ti] ty #[.slice A n cap,.int kx m]).run P w=
      .ok (.slice (some ⟨w.heap.size,0,none⟩) (n+m) (grownCap w (n+m) cap e)) (w.drew.alloc (.cells (xs.toArray++news.toArray++Builtin.zeroCells z.cells (grownCap w (n+m) cap e - (n+m))) e)):=by
    intro A cap hcap hfo;have hn:¬ (n+m<=cap):=by omega
    have h63':¬ (9223372036854775807<((n:Int)+(m:Int))):=by omega
    have hfit:=growslice_fits hcap hbytes;have h48':¬ (281474976710656<Builtin.nextslicecap (n+m) cap*i.bytes):=by omega
    by_cases hm:m=0
    · have hnl:=hnil hm
      subst hm;rw [hnl];simp only [Nat.add_zero] at hn h63' h48'|-
      have AcT:¬ (9223372036854775807<(n:Int)):=by omega
      simp [Builtin.append_,run_underlying ht,run_underlying Ts,sizeOf,typeInfo,zeroValue,hi,hz,asInt,asIntOf,hw0,hn,AcT,h48',Question.forced,hfo,newRow,grownCap]
    · have hmz:¬ (m*i.size=0):=Nat.mul_ne_zero hm hsn
      simp [Builtin.append_,run_underlying ht,run_underlying Ts,sizeOf,typeInfo,zeroValue,hi,hz,asInt,asIntOf,hw,hneg,AcR,hn,h63',h48',Question.forced,hfo,newRow,grownCap,hmz,hna]
      congr 2
      apply Array.ext'
      simp [List.append_assoc]
  rcases hown.2 with ⟨rfl,rfl⟩|⟨g,cap,cur,rfl,hbg,hg,hnc,hcm,hcs,htake⟩
  · have hx:xs=[]:=List.eq_nil_of_length_eq_zero (by simpa using hown.1)
    subst hx
    by_cases hm:m=0
    · have hnl:=hnil hm
      subst hm;rw [hnl];refine ⟨.slice none 0 0,w, ?_,World.ownsRow_nil w base e i.size,⟨rfl,rfl,rfl,Nat.le_refl _,fun _ _ _=>rfl⟩,Or.inl rfl⟩
      simp [Builtin.append_,run_underlying ht,run_underlying Ts,sizeOf,typeInfo,hi,asInt,asIntOf,hw0]
    · have hgr:=grown 0 (by omega) (Value.ownBlock (.slice none 0 0))
      exact ⟨_,_,runs none 0 (by omega) (by simp [Builtin.firstCells]),hgr.1,hgr.2,Or.inr rfl⟩
  · by_cases hroom:n+m<=cap
    · have hfit:n*i.size+news.length<=cur.size:=by rw [hl,hcs,<- Nat.add_mul];exact Nat.mul_le_mul_right _ hroom
      obtain ⟨cur',h3,h4,h5⟩:=yY news (n*i.size) w cur hg hfit;obtain ⟨s1,s2,s3,s4⟩:=yn g news (n*i.size) w;have hst:=run_storeCells_cells (P:=P) g (n*i.size) news 0 w (fun j hj=>by rw [cell_of_row w g _ cur e (0,0) hg];simp;omega) (fun j _=>ae hg _) h1;simp only [Nat.add_zero] at hst
      refine ⟨.slice (some ⟨g,0,none⟩) (n+m) cap,w.setCells g (n*i.size) news, ?_,⟨hlen,.inr ⟨g,cap,cur',rfl,hbg,h3,hroom,hcm,by rw [h4,hcs], ?_⟩⟩,⟨s1,s2,s3,by rw [s4];exact Nat.le_refl _,fun k _ hk=>yX news _ k (fun e=>hk (by simp [Value.ownBlock,e]))⟩,Or.inl rfl⟩
      · by_cases hm:m=0
        · have hnl:=hnil hm
          subst hm;rw [hnl] at hst|-
          simp [Builtin.append_,run_underlying ht,run_underlying Ts,sizeOf,typeInfo,hi,asInt,asIntOf,hw0,hnc,add_plain,hst]
        · have hmz:¬ (m*i.size=0):=Nat.mul_ne_zero hm hsn
          simp [Builtin.append_,run_underlying ht,run_underlying Ts,sizeOf,typeInfo,zeroValue,hi,hz,asInt,asIntOf,hw,hneg,AcR,hroom,hmz,hna,add_plain,hst]
      · rw [h5]
        have h6:cur.toList.take (n*i.size)=xs:=htake;rw [h6,<- hlen];exact List.take_left
    · have holds:∀ j u,xs[j]?=some u ->w.cell? ((⟨g,0,none⟩:Addr).add j)=some u:=hown.cells (g:=g) rfl
      have hgr:=grown cap (by omega) (Value.ownBlock (.slice (some ⟨g,0,none⟩) n cap));exact ⟨_,_,runs (some ⟨g,0,none⟩) cap (by omega) (run_firstCells_some (P:=P) w.drew i.size n _ n cap xs hown.1 (by simpa using holds)),hgr.1,hgr.2,Or.inr rfl⟩
end
namespace Kd
theorem Kw {α:Type} {R:α ->List Value ->Prop} {z:Value} {size:Nat} {z0:α} (hz:z.cells.size=size) (hs:0<size) (h0:R z0 z.cells.toList) (m:Nat):cI R size (List.replicate m z0) (Builtin.zeroCells z.cells m).toList:=by
  have h:=Nv hz hs h0 m;rw [show Builtin.zeroCells z.cells m=madeCells z.cells (m*size) by unfold Builtin.zeroCells madeCells;rw [hz]];exact h
section
variable {P:Program} {ops:Array Oper} {rest:List Oper} {o:Oper} {a:Act} {Q:Exit ->Act ->World ->Prop} {Kc:Act ->World ->Prop} {α:Type}
theorem Hx (d:Kd α) {W:World} (base:Nat) (t ti ty e:TypeId) (z:Value) (bytes:Nat) (ht:P.underlying t=some (.slice e)) {k:IntKind} (Ts:P.underlying ti=some (.int k)) (hinfo:(P.info? e).map (fun i=>(i.zero,i.size,i.bytes))=some (some z,d.sz,bytes)) (hz:z.cells.size=d.sz) (hs0:0<d.sz) (hb0:0<bytes)
    (v:Value) (xs:List α) (z0:α) {ok:Nat ->Prop} (hzero:d.M W base (fun _=>False) z0 z.cells.toList) (mM:∀ k,W.heap.size<=k ->ok k) (HO:d.R e W base ok v xs) (kx:IntKind) (n:Int) (h0:0<=n) (hl:(xs.length+n.toNat)*bytes<=140737488355328) (hbase:base<=W.heap.size):
    ∃ v1 w1,(Builtin.append_ #[t,ti] ty #[v,.int kx n]).run P W= .ok v1 w1 /\ d.R e w1 base ok v1 (xs++List.replicate n.toNat z0) /\ W.grownBy w1 v.ownBlock /\ (v1.ownBlock=v.ownBlock \/ ∃ b,v1.ownBlock=some b /\ W.heap.size<=b):=by
  obtain ⟨m,rfl⟩:=Int.eq_ofNat_of_zero_le h0;simp only [Int.toNat_natCast] at hl|-
  obtain ⟨i0,hi,hzz⟩:=Option.map_eq_some_iff.1 hinfo;simp only [Prod.mk.injEq] at hzz
  obtain ⟨hz0,hz1,hz2⟩:=hzz;obtain ⟨hok,inner,hown,hr⟩:=HO;have O4:cI (d.M W base (fun _=>False)) d.sz (List.replicate m z0) (Builtin.zeroCells z.cells m).toList:=Kw hz hs0 hzero m;obtain ⟨v1,w1,hrun,h2,hg,hat⟩:=Ag (P:=P) W base t ti ty e i0 z d.sz bytes ht Ts hi hz0 hz1 hz2 hz hs0 hb0 v xs.length inner hown kx m (Pv O4 hs0 (fun _ _ hp=>d.qo (d.lC hp))) hl hbase
  have hat':v1.ownBlock=v.ownBlock \/ ∃ b,v1.ownBlock=some b /\ W.heap.size<=b:=by
    rcases hat with hat|hat
    · exact .inl hat
    · exact .inr ⟨_,hat,Nat.le_refl _⟩
  have hne:∀ k,some k≠v.ownBlock ->k<W.heap.size ->some k≠v1.ownBlock:=by
    intro k hk hlt
    rcases hat' with hat|⟨b,hb,hle⟩
    · rw [hat];exact hk
    · rw [hb]
      intro he
      injection he with he
      omega
  have step:∀ {q:α} {c:List Value} {o:Nat ->Prop},d.M W base o q c ->(∀ k,o k ->ok k /\ some k≠v.ownBlock) ->d.M w1 base (fun k=>ok k /\ some k≠v1.ownBlock) q c:=by
    intro q c o hq ho;have h1:=d.nh (w1:=w1) (fun k hk=>hg.block k hk.2.2.1 (ho k hk.1).2) (d.jM hq);exact d.jR (fun k hk=>⟨(ho k hk.1).1,hne k (ho k hk.1).2 hk.2.2.1⟩) h1
  refine ⟨v1,w1,hrun,⟨fun k hk=> ?_,inner++(Builtin.zeroCells z.cells m).toList,by rw [List.length_append,List.length_replicate];exact h2,wH (hr.tP (fun _ _ hq=>step hq (fun _ hk=>hk))) (O4.tP (fun _ _ hq=>step hq (fun _ hk=>hk.elim)))⟩,hg,hat'⟩
  rcases hat' with hat|⟨b,hb,hle⟩
  · exact hok k (hat ▸ hk)
  · rw [hb] at hk
    injection hk with hk
    exact mM k (by omega)
theorem Cx (d:Kd α) {w0 W:World} (base:Nat) (hgd:o.guard=none) (s x:Operand) (t ti e:TypeId) (z:Value) (bytes:Nat)
    (ho:o.op= .call {callee:= .builtin .append,args:= #[s,x],argTypes:= #[t,ti]})
    (ht:P.underlying t=some (.slice e)) {k:IntKind} (Ts:P.underlying ti=some (.int k)) (hinfo:(P.info? e).map (fun i=>(i.zero,i.size,i.bytes))=some (some z,d.sz,bytes)) (hz:z.cells.size=d.sz) (hs0:0<d.sz) (hb0:0<bytes)
    (v:Value) (xs:List α) (z0:α) {kx:IntKind} (n:Int) (ok:Nat ->Prop) (hs:a.eval s=v) (hx:a.eval x= .int kx n) (hzero:d.M W base (fun _=>False) z0 z.cells.toList) (mM:∀ k,W.heap.size<=k ->ok k)
    (HO:d.R e W base ok v xs) (h0:0<=n) (HB:Below base w0 W) (hbase:base<=W.heap.size) (hl:(xs.length+n.toNat)*bytes<=140737488355328)
    (h:∀ v1 w1,d.R e w1 base ok v1 (xs++List.replicate n.toNat z0) ->Below base w0 w1 ->W.grownBy w1 v.ownBlock ->(v1.ownBlock=v.ownBlock \/ ∃ b,v1.ownBlock=some b /\ W.heap.size<=b) ->wpList P ops Q rest (a.put o.dst v1) w1):
    wpList P ops Q (o::rest) a W:=by
  obtain ⟨v1,w1,hr1,h1,hg,hat⟩:=Hx (P:=P) d base t ti o.type e z bytes ht Ts hinfo hz hs0 hb0 v xs z0 hzero mM HO kx n h0 hl hbase;refine wpList_plain hgd fun K hK=> ?_
  unfold Oper.wp execOp;simp only [ho,resolve,invoke,builtin,Sem.run_bind,Sem.run_pure,Result.andThen_ok,List.map_toArray,List.map_cons,List.map_nil,hs,hx,hr1];exact hK _ _ (h v1 w1 h1 (HB.grown hg hbase (kf HO)) hg hat)
end
section
end
section
end
end Kd
namespace Kd
structure Heap {α:Type} (d:Kd α):Prop where
  K:∀ {w w1:World} {x:α} {cs:List Value},(∀ k,k<w.heap.size ->w1.heap[k]?=w.heap[k]?) ->d.K w x cs ->d.K w1 x cs
theorem NC {w w1:World} (hb:∀ k,k<w.heap.size ->w1.heap[k]?=w.heap[k]?) {a:Addr} {v:Value} (h:w.cell? a=some v):w1.cell? a=some v:=by
  have:=hb a.block (dA w a h)
  simpa [World.cell?,this] using h
theorem Heap.C {α:Type} {d:Kd α} (hd:Heap d) {w w1:World} {A:Option Addr} {n:Nat} {xs:List α} (hb:∀ k,k<w.heap.size ->w1.heap[k]?=w.heap[k]?) (h:d.C w A n xs):d.C w1 A n xs:=
  ⟨h.1,h.2.1,fun hn=>by
    obtain ⟨ad,e,hc⟩:=h.2.2 hn;refine ⟨ad,e,fun j p hj=> ?_⟩;obtain ⟨c,hs,hr,hcell⟩:=hc j p hj
    exact ⟨c,hs,hd.K hb hr,fun i u hu=>NC hb (hcell i u hu)⟩⟩
theorem Hy (k:IntKind):Heap (Kd.int k):=⟨fun _ h=>h⟩
section
end
end Kd
def Kept (w W:World) (S:Nat ->Prop):Prop:=w.heap.size<=W.heap.size /\ ∀ i,i<w.heap.size ->¬ S i ->W.heap[i]?=w.heap[i]?
section
variable {w W W2:World} {S S2 S':Nat ->Prop}
theorem Kept.refl (w:World) (S:Nat ->Prop):Kept w w S:=⟨Nat.le_refl _,fun _ _ _=>rfl⟩
theorem Kept.Ho (h:Below w.heap.size w W) (S:Nat ->Prop):Kept w W S:=⟨h.size,fun i hi _=>h.block i hi⟩
theorem Kept.Pw (h:Kept w W S) (k:Kept W W2 S2) (hs:∀ k,S2 k ->S k \/ w.heap.size<=k):Kept w W2 S:=
  ⟨Nat.le_trans h.1 k.1,fun i hi hn=>(k.2 i (Nat.lt_of_lt_of_le hi h.1) (fun h2=>(hs i h2).elim hn (fun h3=>by omega))).trans (h.2 i hi hn)⟩
theorem Kept.Cq {row:Option Nat} (hg:W.grownBy W2 row) (h:Kept w W S) (hr:∀ k,row=some k ->S k \/ w.heap.size<=k):Kept w W2 S:=
  h.Pw (S2:=fun k=>row=some k) ⟨hg.size,fun i hi hn=>hg.block i hi (fun he=>hn he.symm)⟩ hr
theorem Kept.below (h:Kept w W S) (hb:Below W.heap.size W W2):Kept w W2 S:=h.Pw (Kept.Ho hb (fun _=>False)) (fun _ hk=>hk.elim)
theorem Kept.alloc (h:Kept w W S) (o:Obj):Kept w (W.alloc o) S:=h.below (dX (Below.refl _ _) o)
theorem Kept.drew (h:Kept w W S):Kept w W.drew S:=h
theorem Kept.drewN (h:Kept w W S) (m:Nat):Kept w (W.drewN m) S:=h
theorem Kept.setCell (h:Kept w W S) {p:Addr} (hp:S p.block \/ w.heap.size<=p.block) (u:Value):Kept w (W.setCell p u) S:=
  h.Pw (S2:=fun k=>k=p.block) ⟨by simp [World.setCell],fun i _ hn=>Below.heap_setCell W p u i hn⟩ (fun k hk=>by rw [hk];exact hp)
theorem jf {g:Nat} {o:Obj} (hb:W.heap[g]?=some o) (hk:Kept W W2 S) (hne:¬ S g):W2.heap[g]?=some o:=(hk.2 g (mm hb) hne).trans hb
end
namespace Kd
section
variable {α:Type} {d:Kd α} {e base n c:Nat} {ok oki S S2:Nat ->Prop} {w w0 W W1 W2:World} {v:Value} {A:Option Addr} {xs:List α} {i:Int} {cs:List Value}
theorem YD (h:d.R e W base ok v xs) (hk:Kept W W2 S) (hne:∀ k,ok k ->¬ S k):d.R e W2 base ok v xs:=wG h (fun k ho hlt=>hk.2 k hlt (hne k ho))
end
end Kd
def sE (P:World ->Prop) (W:World) (ok:Nat ->Prop):Prop:=∀ W':World,(∀ k,ok k ->k<W.heap.size ->W'.heap[k]?=W.heap[k]?) ->P W'
theorem Tt {W W1:World} {k:Nat} (h:W1.heap[k]?=W.heap[k]?) (hlt:k<W.heap.size):k<W1.heap.size:=by
  rw [Array.getElem?_eq_getElem hlt] at h
  exact (Array.getElem?_eq_some_iff.1 h).1
namespace sE
variable {P Q:World ->Prop} {W W1:World} {ok ok':Nat ->Prop}
theorem now (h:sE P W ok):P W:=h W (fun _ _ _=>rfl)
theorem mono (h:sE P W ok) (hok:∀ k,ok k ->ok' k):sE P W ok':=fun W' hW=>h W' (fun k hk hlt=>hW k (hok k hk) hlt)
theorem bound (h:sE P W ok):sE P W (fun k=>ok k /\ k<W.heap.size):=fun W' hW=>h W' (fun k hk hlt=>hW k ⟨hk,hlt⟩ hlt)
theorem step (h:sE P W ok) (hm:∀ k,ok k ->k<W.heap.size ->W1.heap[k]?=W.heap[k]?):sE P W1 ok:=fun W' hW=>h W' (fun k hk hlt=>(hW k hk (Tt (hm k hk hlt) hlt)).trans (hm k hk hlt))
theorem old (h:sE P W ok) (hb:Below W.heap.size W W1):sE P W1 (fun k=>ok k /\ k<W.heap.size):=(h.bound).step (fun k _ hlt=>hb.block k hlt)
end sE
namespace Kd
def F {α:Type} (d:Kd α) (W:World) (ok:Nat ->Prop) (A:Option Addr) (n:Nat) (xs:List α):Prop:=sE (fun W=>d.C W A n xs) W ok
def FK {α:Type} (d:Kd α) (W:World) (ok:Nat ->Prop) (x:α) (c:List Value):Prop:=sE (fun W=>d.K W x c) W ok
section
variable {α β:Type} {d:Kd α} {e base n n' cc g N:Nat} {ok ok' rq S:Nat ->Prop} {w w0 w1 W W1:World} {A A':Option Addr} {u v v1:Value} {xs:List α} {xs':List β} {d':Kd β} {x:α} {c:List Value}
theorem AcU (h:F d W ok A n xs):d.C W A n xs:=sE.now h
theorem FG (h:F d W ok A n xs) (hok:∀ k,ok k ->ok' k):F d W ok' A n xs:=sE.mono h hok
theorem Mh (h:F d W ok A n xs):F d W (fun k=>ok k /\ k<W.heap.size) A n xs:=sE.bound h
theorem YE (h:F d W ok A n xs) (hm:∀ k,ok k ->k<W.heap.size ->W1.heap[k]?=W.heap[k]?):F d W1 ok A n xs:=sE.step h hm
theorem xB (h:F d W ok A n xs) (hb:Below W.heap.size W W1):F d W1 ok A n xs:=YE h (fun k _ hlt=>hb.block k hlt)
theorem Tu (h:F d W ok A n xs) (o:Obj):F d (W.alloc o) ok A n xs:=xB h (dX (Below.refl _ _) o)
theorem YF (h:F d W ok A n xs):F d W.drew ok A n xs:=xB h (sC (Below.refl _ _))
theorem Tv (h:F d W ok A n xs) (m:Nat):F d (W.drewN m) ok A n xs:=xB h (fe (Below.refl _ _) m)
theorem AcV (d:Kd α) (W:World) (ok:Nat ->Prop):F d W ok none ([]:List α).length []:=fun W' _=>Cs d W'
theorem Px (h:F d W ok A n xs) (hbase:∀ k,v.ownBlock=some k ->W.heap.size<=k) (hb:Below W.heap.size W W1):F d W1 (fun k=>ok k /\ some k≠v.ownBlock) A n xs:=
  FG (sE.old h hb) (fun k hk=>⟨hk.1,fun he=>by have:=hbase k he.symm;have:=hk.2;omega⟩)
theorem Py (h:F d W ok A n xs) (a:Nat) (ha:W.heap.size<=a):F d W (fun k=>ok k /\ k≠a) A n xs:=FG (Mh h) (fun k hk=>⟨hk.1,by have:=hk.2;omega⟩)
theorem Tw (h:F d W (fun k=>ok k /\ some k≠v.ownBlock) A n xs) (hg:W.grownBy W1 v.ownBlock) (hat:v1.ownBlock=v.ownBlock \/ ∃ b,v1.ownBlock=some b /\ W.heap.size<=b):F d W1 (fun k=>ok k /\ some k≠v1.ownBlock) A n xs:=by
  refine FG (sE.step (Mh h) (fun k hk hlt=>hg.block k hlt hk.1.2)) (fun k hk=>⟨hk.1.1, ?_⟩)
  rcases hat with hat|⟨b,hb,hle⟩
  · rw [hat];exact hk.1.2
  · rw [hb]
    intro he
    injection he with he
    have:=hk.2
    omega
theorem C_F (hd:Heap d) (h:d.C w A n xs):F d w (fun k=>k<w.heap.size) A n xs:=fun _ hW=>hd.C (fun k hlt=>hW k hlt hlt) h
theorem R_F (h:d.R e W base ok (.slice A n cc) xs):F d W ok A n xs:=fun W' hW=>by
  have h2:=av (wG h hW);rw [h2.1];exact h2.2.2
theorem Kx (h:FK d W ok x c):d.K W x c:=sE.now h
theorem FH (h:FK d W ok x c) (hok:∀ k,ok k ->ok' k):FK d W ok' x c:=sE.mono h hok
theorem Hz (h:FK d W ok x c):FK d W (fun k=>ok k /\ k<W.heap.size) x c:=sE.bound h
theorem Mi (h:FK d W ok x c) (hm:∀ k,ok k ->k<W.heap.size ->W1.heap[k]?=W.heap[k]?):FK d W1 ok x c:=sE.step h hm
theorem Tx (h:d.M W base ok x c):FK d W ok x c:=fun _ hW=>d.lC (Po h hW)
end
end Kd
namespace Kd
def chunks (sz:Nat) (n:Nat) (inner:List Value):List (List Value):=(List.range n).map fun j=>(inner.drop (j*sz)).take sz
theorem kG (sz n:Nat) (inner:List Value):(chunks sz n inner).length=n:=by simp [chunks]
theorem ND {sz n:Nat} {inner:List Value} {j:Nat} (hj:j<n):(chunks sz n inner)[j]?=some ((inner.drop (j*sz)).take sz):=by simp [chunks,hj]
theorem yC {sz n:Nat} {inner:List Value} {j:Nat} {c:List Value} (h:(chunks sz n inner)[j]?=some c):c=(inner.drop (j*sz)).take sz:=by
  have hj:j<n:=by have:=(List.getElem?_eq_some_iff.1 h).1;rwa [kG] at this
  rw [ND hj] at h
  injection h with h
  exact h.symm
theorem HI {α:Type} {Rr:α ->List Value ->Prop} {sz:Nat} {xs:List α} {inner:List Value} (h:cI Rr sz xs inner) (hR:∀ x c,Rr x c ->c.length=sz /\ ∀ u ∈ c,u.oneCell'=true):cI (fun x cs=>cs=x /\ cs.length=sz /\ ∀ u ∈ cs,u.oneCell'=true) sz (chunks sz xs.length inner) inner:=by
  refine ⟨by rw [kG];exact h.1,fun j p hj=> ?_⟩;have hjl:j<xs.length:=by have:=(List.getElem?_eq_some_iff.1 hj).1;rwa [kG] at this
  have hp:=yC hj;exact ⟨hp.symm,hR _ _ (h.2 j _ (List.getElem?_eq_getElem hjl))⟩
section
variable {α:Type} {d:Kd α} {e base n cc g:Nat} {ok ok' rq S:Nat ->Prop} {w w1 W W1:World} {A:Option Addr} {u v v1:Value} {xs:List α} {x:α} {c:List Value}
def N {α:Type} (d:Kd α) (e:Nat) (w:World) (base:Nat) (ok:Nat ->Prop) (v:Value) (xs:List α):Prop:=
  (∀ k,v.ownBlock=some k ->ok k) /\ ∃ rows:List (List Value),rows.length=xs.length /\ (raw d.sz).R e w base (fun k=>some k=v.ownBlock) v rows /\ ∀ (j:Nat) (x:α) (c:List Value),xs[j]?=some x ->rows[j]?=some c ->FK d w (fun k=>ok k /\ some k≠v.ownBlock) x c
theorem NF {sz:Nat} {rows:List (List Value)} (h:(raw sz).R e w base ok v rows):(raw sz).R e w base (fun k=>some k=v.ownBlock) v rows:=kR rfl h
theorem R_N (h:d.R e w base ok v xs):N d e w base ok v xs:=by
  obtain ⟨h0,inner,ho,hr⟩:=h;refine ⟨h0,chunks d.sz xs.length inner,kG _ _ _,⟨fun k hk=>hk.symm,inner,by rw [kG];exact ho,HI hr (fun x c hp=>⟨d.rK (d.lC hp),d.qo (d.lC hp)⟩)⟩,fun j x c hx hc=> ?_⟩;rw [yC hc];exact Tx (hr.2 j x hx)
theorem ju (d:Kd α) (e:Nat) (w:World) (base:Nat) (ok:Nat ->Prop):N d e w base ok (.slice none 0 0) []:=R_N (cl _ _ _ _ _)
theorem YG (h:N d e w base ok v xs) (hok:∀ k,ok k ->ok' k):N d e w base ok' v xs:=by
  obtain ⟨h0,rows,hl,hR,hf⟩:=h;exact ⟨fun k hk=>hok k (h0 k hk),rows,hl,hR,fun j x c hx hc=>FH (hf j x c hx hc) (fun k hk=>⟨hok k hk.1,hk.2⟩)⟩
theorem AkL (h:N d e w base ok v xs):∀ k,v.ownBlock=some k ->k<w.heap.size:=by
  obtain ⟨_,rows,_,hR,_⟩:=h;exact oL hR
theorem Pz (h:N d e w base ok v xs):∀ k,v.ownBlock=some k ->base<=k:=by
  obtain ⟨_,rows,_,hR,_⟩:=h;exact kf hR
theorem Ty (h:N d e w base ok v xs):N d e w base (fun k=>ok k /\ k<w.heap.size) v xs:=by
  have hlt:=AkL h;obtain ⟨h0,rows,hl,hR,hf⟩:=h;exact ⟨fun k hk=>⟨h0 k hk,hlt k hk⟩,rows,hl,hR,fun j x c hx hc=>FH (Hz (hf j x c hx hc)) (fun k hk=>⟨⟨hk.1.1,hk.2⟩,hk.1.2⟩)⟩
theorem Tz {base':Nat} (h:N d e w base ok v xs) (hb:base'<=base):N d e w base' ok v xs:=by
  obtain ⟨h0,rows,hl,hR,hf⟩:=h;exact ⟨h0,rows,hl,bP hR hb,hf⟩
theorem YH (h:N d e w base ok v xs) (hm:∀ k,ok k ->k<w.heap.size ->w1.heap[k]?=w.heap[k]?):N d e w1 base ok v xs:=by
  obtain ⟨h0,rows,hl,hR,hf⟩:=h;exact ⟨h0,rows,hl,wG hR (fun k hk hlt=>hm k (h0 k hk.symm) hlt),fun j x c hx hc=>Mi (hf j x c hx hc) (fun k hk hlt=>hm k hk.1 hlt)⟩
theorem BO (h:N d e w base ok v xs) (hb:Below w.heap.size w w1):N d e w1 base ok v xs:=YH h (fun k _ hk=>hb.block k hk)
theorem TA (h:N d e w base ok v xs) (o:Obj):N d e (w.alloc o) base ok v xs:=BO h (dX (Below.refl _ _) o)
theorem YI (h:N d e w base ok v xs):N d e w.drew base ok v xs:=BO h (sC (Below.refl _ _))
theorem TB (h:N d e w base ok v xs) (m:Nat):N d e (w.drewN m) base ok v xs:=BO h (fe (Below.refl _ _) m)
theorem PA (h:N d e W base ok v xs) (hbase:∀ k,u.ownBlock=some k ->W.heap.size<=k) (hb:Below W.heap.size W w1):N d e w1 base (fun k=>ok k /\ some k≠u.ownBlock) v xs:=
  YG (BO (Ty h) hb) (fun k hk=>⟨hk.1,fun he=>by have:=hbase k he.symm;have:=hk.2;omega⟩)
theorem TC (h:N d e w base ok v xs):∃ A c,v= .slice A xs.length c:=by
  obtain ⟨_,rows,hl,hR,_⟩:=h;obtain ⟨A,c,he⟩:=da hR;exact ⟨A,c,by rw [he,hl]⟩
theorem HJ {n c:Nat} (h:N d e w base ok (.slice A n c) xs):n=xs.length /\ n<=c /\ d.C w A xs.length xs:=by
  obtain ⟨_,rows,hl,hR,hf⟩:=h;obtain ⟨hn,hc,hC⟩:=av hR;refine ⟨by omega,hc, ?_⟩;rw [hl] at hC
  refine ⟨rfl,hC.2.1,fun hp=> ?_⟩;obtain ⟨ad,he,hcell⟩:=hC.2.2 hp;refine ⟨ad,he,fun j p hj=> ?_⟩;have hjl:j<rows.length:=by have:=(List.getElem?_eq_some_iff.1 hj).1;omega
  obtain ⟨c',hcl,hK,hcc⟩:=hcell j _ (List.getElem?_eq_getElem hjl);have hk:=Kx (hf j p _ hj (List.getElem?_eq_getElem hjl));refine ⟨c',hcl, ?_,hcc⟩;rw [show c'=rows[j] from hK.1];exact hk
end
end Kd
namespace Kd
section
variable {α:Type} {d:Kd α} {e base n cap g:Nat} {ok ok' rq:Nat ->Prop} {w w1 W:World} {v v1:Value} {xs ys:List α}
theorem YJ {rows:List (List Value)} (hR:(raw d.sz).R e w1 base (fun k=>k=W.heap.size) v1 rows) (hg:W.grownBy w1 none) (hat:∃ b,v1.ownBlock=some b /\ W.heap.size<=b) (hl:rows.length=xs.length) (hf:∀ (j:Nat) (x:α) (c:List Value),xs[j]?=some x ->rows[j]?=some c ->FK d W rq x c)
    (hok:∀ k,rq k ->ok k) (mM:ok W.heap.size):N d e w1 base ok v1 xs:=by
  obtain ⟨b,hb,hle⟩:=hat;refine ⟨fun k hk=>by rw [hR.1 k hk];exact mM,rows,hl,NF hR,fun j x c hx hc=> ?_⟩;refine FH (Mi (Hz (hf j x c hx hc)) (fun k hk hlt=>hg.block k hlt (by simp))) (fun k hk=>⟨hok k hk.1,fun he=> ?_⟩);rw [hb] at he
  injection he with he
  have:=hk.2
  omega
end
section
variable {P:Program} {ops:Array Oper} {rest:List Oper} {o:Oper} {a:Act} {Q:Exit ->Act ->World ->Prop} {Kc:Act ->World ->Prop} {α:Type}
theorem AcW (d:Kd α) {w0 W:World} (base e:Nat) (hgd:o.guard=none) {N':Tmp} (_hd:o.dst=some N') {xs:List α} {inner:List Value} {ok rq:Nat ->Prop}
    (hrun:(execOp a.eval o).run P W= .ok (.value (.slice (some ⟨W.heap.size,0,none⟩) xs.length xs.length)) (W.alloc (.cells inner.toArray e)))
    (Hr:cI (FK d W rq) d.sz xs inner) (hok:∀ k,rq k ->ok k) (mM:ok W.heap.size) (HB:Below base w0 W) (hbase:base<=W.heap.size) (hm:xs.length<=9223372036854775807)
    (h:∀ v1 w1,N d e w1 base ok v1 xs ->Below base w0 w1 ->W.grownBy w1 none ->(∃ b,v1.ownBlock=some b /\ W.heap.size<=b) ->wpList P ops Q rest (a.put o.dst v1) w1):
    wpList P ops Q (o::rest) a W:=by
  refine qq (raw d.sz) base e hgd _hd (xs:=chunks d.sz xs.length inner) (inner:=inner) (ok:=fun k=>k=W.heap.size) (rq:=fun _=>False) (by rw [kG];exact hrun) (HI Hr (fun y c hk=>⟨d.rK (Kx hk),d.qo (Kx hk)⟩)) (fun _ hk=>hk.elim) rfl HB hbase (by rw [kG];exact hm) ?_;intro v1 w1 hr hb hg hat;exact h v1 w1 (YJ hr hg hat (kG _ _ _) (fun j y c hy hc=>by rw [yC hc];exact Hr.2 j y hy) hok mM) hb hg hat
end
end Kd
end Go.Proofs.ai.bX
namespace Go.Proofs.ai.iL
open Go.RowKit Go.Proofs.ai.bX
namespace Kd
open Go.Proofs.ai.bX.Kd
end Kd
namespace Kd
open Go.Proofs.ai.bX.Kd
section
end
end Kd
theorem dF (k k':IntKind) (x y:Int):Builtin.max2 (.int k x) (.int k' y)=pure (.int k (if x<y then y else x)):=by simp only [Builtin.max2,gt_iff_lt]
theorem dG (k k':IntKind) (x y:Int):Builtin.min2 (.int k x) (.int k' y)=pure (.int k (if y<x then y else x)):=by simp only [Builtin.min2]
theorem eG (ats:Array TypeId) (ty:TypeId) (a b:Value):Builtin.max_ ats ty #[a,b]=(Builtin.max2 a b>>=fun s=>pure s):=by simp only [Builtin.max_,List.foldlM_cons,List.foldlM_nil]
theorem eH (ats:Array TypeId) (ty:TypeId) (a b:Value):Builtin.min_ ats ty #[a,b]=(Builtin.min2 a b>>=fun s=>pure s):=by simp only [Builtin.min_,List.foldlM_cons,List.foldlM_nil]
theorem cQ (ats:Array TypeId) (ty:TypeId) (a b c:Value):Builtin.max_ ats ty #[a,b,c]=(Builtin.max2 a b>>=fun s=>Builtin.max2 s c>>=fun s=>pure s):=by simp only [Builtin.max_,List.foldlM_cons,List.foldlM_nil]
theorem cR (ats:Array TypeId) (ty:TypeId) (a b c:Value):Builtin.min_ ats ty #[a,b,c]=(Builtin.min2 a b>>=fun s=>Builtin.min2 s c>>=fun s=>pure s):=by simp only [Builtin.min_,List.foldlM_cons,List.foldlM_nil]
theorem dH (ats:Array TypeId) (ty:TypeId) (a b c d:Value):Builtin.max_ ats ty #[a,b,c,d]=(Builtin.max2 a b>>=fun s=>Builtin.max2 s c>>=fun s=>Builtin.max2 s d>>=fun s=>pure s):=by simp only [Builtin.max_,List.foldlM_cons,List.foldlM_nil]
theorem dI (ats:Array TypeId) (ty:TypeId) (a b c d:Value):Builtin.min_ ats ty #[a,b,c,d]=(Builtin.min2 a b>>=fun s=>Builtin.min2 s c>>=fun s=>Builtin.min2 s d>>=fun s=>pure s):=by simp only [Builtin.min_,List.foldlM_cons,List.foldlM_nil]
end Go.Proofs.ai.iL
namespace Go.Proofs.ai.bX
open Go.RowKit
section
variable {P:Program} {ops:Array Oper} {rest:List Oper} {o:Oper} {a:Act} {Q:Exit ->Act ->World ->Prop} {W:World}
theorem ay {f:FuncId} {as:Array Operand} {ts:Array TypeId} (_ho:o.op= .call {callee:= .value (.func f),args:=as,argTypes:=ts}) (h:wpList P ops Q (o::rest) a W):wpList P ops Q (o::rest) a W:=h
theorem fo {b:Builtin} {xs:Array Operand} {ts:Array TypeId} (_ho:o.op= .call {callee:= .builtin b,args:=xs,argTypes:=ts}) (h:wpList P ops Q (o::rest) a W):wpList P ops Q (o::rest) a W:=h
end
theorem tR {P:Program} {f:FuncId} {args args':Array Value} {w:World} {Q:Ending ->World ->Prop} (h:args=args') (hc:Calls P f args' w Q):Calls P f args w Q:=h ▸ hc
def mx (a b:Int):Int:=if a<b then b else a
theorem fg (w:World) (n:Nat):w.drewN n=w.drewN n:=rfl
namespace Kd
section
end
section
end
section
variable {α:Type} {d:Kd α} {e base b b' g N:Nat} {ok ok1:Nat ->Prop} {W W2 w1:World} {u v:Value} {xs ys:List α} {S:Nat ->Prop}
theorem xC (h:d.R e W base ok v xs) (hk:Kept W W2 S) (hne:∀ k,ok k ->¬ S k):d.R e W2 base (fun k=>ok k /\ (¬ S k /\ k<W.heap.size)) v xs:=
  YD (dm (qL h) (fun k hk=>⟨hk.1,hne k hk.1,hk.2.2.1⟩)) hk (fun _ hk=>hk.2.1)
end
end Kd
end Go.Proofs.ai.bX
namespace Go.Proofs.ai.bX
open Go.RowKit
namespace Kd
def V {α:Type} (d:Kd α) (_e:Nat) (W:World) (_base:Nat) (ok:Nat ->Prop) (v:Value) (xs:List α):Prop:=∃ A c,v= .slice A xs.length c /\ xs.length<=c /\ F d W ok A xs.length xs
section
variable {α β:Type} {d:Kd α} {e base base' n m c g N' lo hi:Nat} {ok ok' S:Nat ->Prop} {w W w1:World} {A:Option Addr} {ad:Addr} {u v v1:Value} {xs:List α}
theorem AZ (h:V d e W base ok v xs) (hF:∀ A,F d W ok A xs.length xs ->F d w1 ok' A xs.length xs):V d e w1 base' ok' v xs:=by
  obtain ⟨A,c,hv,hl,hf⟩:=h;exact ⟨A,c,hv,hl,hF A hf⟩
theorem TD (hl:xs.length<=c) (hf:F d W ok A xs.length xs):V d e W base ok (.slice A xs.length c) xs:=⟨A,c,rfl,hl,hf⟩
theorem TE (h:V d e W base ok (.slice A n c) xs):n=xs.length /\ n<=c /\ F d W ok A xs.length xs:=by
  obtain ⟨A',c',hv,hl,hf⟩:=h
  injection hv with ha hn hc
  subst ha;subst hc;exact ⟨hn,by rw [hn];exact hl,hf⟩
theorem HT (h:V d e W base ok (.slice A n c) xs):n=xs.length /\ n<=c /\ d.C W A xs.length xs:=⟨(TE h).1,(TE h).2.1,AcU (TE h).2.2⟩
theorem V_F (h:V d e W base ok (.slice A n c) xs):F d W ok A n xs:=by
  obtain ⟨hn,_,hf⟩:=TE h;rw [hn];exact hf
theorem jv (d:Kd α) (e:Nat) (W:World) (base:Nat) (ok:Nat ->Prop):V d e W base ok (.slice none 0 0) []:=⟨none,0,rfl,Nat.le_refl _,AcV d W ok⟩
theorem pN (h:V d e W base ok v xs) (hok:∀ k,ok k ->ok' k):V d e W base ok' v xs:=AZ h (fun _ hf=>FG hf hok)
theorem BP (h:V d e W base ok v xs) (hb:Below W.heap.size W w1):V d e w1 base ok v xs:=AZ h (fun _ hf=>xB hf hb)
theorem iH (h:V d e W base ok v xs) (o:Obj):V d e (W.alloc o) base ok v xs:=AZ h (fun _ hf=>Tu hf o)
theorem jS (h:V d e W base ok v xs):V d e W.drew base ok v xs:=AZ h (fun _ hf=>YF hf)
theorem iI (h:V d e W base ok v xs) (m:Nat):V d e (W.drewN m) base ok v xs:=AZ h (fun _ hf=>Tv hf m)
theorem TF (h:V d e W base (fun k=>ok k /\ some k≠u.ownBlock) v xs) (hg:W.grownBy w1 u.ownBlock) (hat:v1.ownBlock=u.ownBlock \/ ∃ b,v1.ownBlock=some b /\ W.heap.size<=b):V d e w1 base (fun k=>ok k /\ some k≠v1.ownBlock) v xs:=AZ h (fun _ hf=>Tw hf hg hat)
theorem zh (h:V d e W base (fun k=>ok k /\ some k≠v.ownBlock) u xs) (hg:W.grownBy w1 v.ownBlock) (hat:v1.ownBlock=v.ownBlock \/ ∃ b,v1.ownBlock=some b /\ W.heap.size<=b):V d e w1 base (fun k=>ok k /\ some k≠v1.ownBlock) u xs:=TF h hg hat
theorem mW (h:V d e W base ok v xs) (hbase:∀ k,u.ownBlock=some k ->W.heap.size<=k) (hb:Below W.heap.size W w1):V d e w1 base (fun k=>ok k /\ some k≠u.ownBlock) v xs:=AZ h (fun _ hf=>Px hf hbase hb)
theorem HX (h:V d e W base ok v xs) (a:Nat) (ha:W.heap.size<=a):V d e W base (fun k=>ok k /\ k≠a) v xs:=AZ h (fun _ hf=>Py hf a ha)
theorem wM {l:List α} (hl:l.length<=c) (hf:F d W ok A l.length l):FK (Kd.slice e d) W ok l [.slice A l.length c]:=fun W' hW=>⟨A,c,rfl,hl,hf W' hW⟩
theorem yD {M:Nat ->Prop} (h:d.R e w1 W.heap.size ok v xs) (hle:w.heap.size<=W.heap.size) (hM:∀ k,w.heap.size<=k ->M k):d.R e w1 W.heap.size (fun k=>M k /\ ok k) v xs:=dm (qL h) (fun k hk=>⟨hM k (Nat.le_trans hle hk.2.1),hk.1⟩)
end
end Kd
end Go.Proofs.ai.bX
namespace Go.Proofs.ai.dh
section
end
end Go.Proofs.ai.dh
namespace Go.Proofs.ai.bX
open Go.RowKit
namespace Kd
section
end
end Kd
section
variable {w w' u:World} {m B g:Nat} {o:Obj} {row:Option Nat} {S:Nat ->Prop} {a:Addr} {v:Value}
theorem H6 (hq:w.drewN m=w') (h:Below B u w):Below B u w':=by subst hq;exact fe h m
theorem PD (hq:w.drewN m=w') (h:w.heap[g]?=some o):w'.heap[g]?=some o:=by subst hq;exact h
end
namespace Kd
section
variable {α:Type} {d:Kd α} {e base n m:Nat} {ok:Nat ->Prop} {w w':World} {v:Value} {A:Option Addr} {xs:List α}
theorem TG (hq:w.drewN m=w') (h:d.R e w base ok v xs):d.R e w' base ok v xs:=by subst hq;exact eT h m
end
end Kd
section
variable {P:Program} {d:Nat} {xs ys:Array Value} {f:Field} {fs:List Field} {a b:Value} {r s:Bool} {w:World}
theorem PE (hn:(f.name== "_")=false) (ha:(part f.type xs f.offset).run P w= .ok a w) (hb:(part f.type ys f.offset).run P w= .ok b w) (he:(Op.equalIn d f.type a b).run P w= .ok r w):(Op.eqFields d xs ys [f]).run P w= .ok r w:=by
  have hn':f.name≠ "_" :=by simpa using hn
  simp only [Op.eqFields,au hn',Sem.run_bind,ha,hb,he,Result.andThen_ok]
  cases r<;>simp
theorem PF (hn:(f.name== "_")=false) (ha:(part f.type xs f.offset).run P w= .ok a w) (hb:(part f.type ys f.offset).run P w= .ok b w) (he:(Op.equalIn d f.type a b).run P w= .ok r w) (hr:(Op.eqFields d xs ys fs).run P w= .ok s w):(Op.eqFields d xs ys (f::fs)).run P w= .ok (r && s) w:=by
  have hn':f.name≠ "_" :=by simpa using hn
  rw [Op.eqFields];simp only [au hn',Sem.run_bind,ha,hb,he,Result.andThen_ok]
  cases r
  · simp
  · simpa using hr
theorem YK {t:TypeId} {fs:Array Field} (hu:P.underlying t=some (.struct fs)) (hp:P.stoodInHeld t=false) (h:(Op.eqFields d xs ys fs.toList).run P w= .ok r w):(Op.equalIn (d+1) t (.agg xs) (.agg ys)).run P w= .ok r w:=by
  have hf:P.fieldsOf t=fs:=by simp [Program.fieldsOf,hu]
  rw [run_equalIn_struct (P:=P) w d t xs ys (by rw [hf];exact hu) hp,hf];exact h
end
end Go.Proofs.ai.bX
namespace Go.Proofs.ai.bX
theorem cI.one {α:Type} {R:α ->List Value ->Prop} {ps:List α} {cs:List Value} {p:α} {v:Value} (hp:R p [v]) (h:cI R 1 ps cs):cI R 1 (p::ps) (v::cs):=by
  refine ⟨by simp [h.1],fun j q hq=> ?_⟩
  cases j with
  |zero=>
    simp only [List.getElem?_cons_zero,Option.some.injEq] at hq
    subst hq
    simpa using hp
  |succ j=>
    simp only [List.getElem?_cons_succ] at hq
    have h1:=h.2 j q hq
    simpa [Nat.mul_one] using h1
theorem cI.front {α:Type} {R:α ->List Value ->Prop} {size:Nat} {ps:List α} {cs c all:List Value} {p:α} (hp:R p c) (hc:c.length=size) (h:cI R size ps cs) (ha:c++cs=all):cI R size (p::ps) all:=by
  subst ha;refine ⟨by rw [List.length_append,hc,h.1,List.length_cons,Nat.succ_mul,Nat.add_comm],fun j q hq=> ?_⟩
  cases j with
  |zero=>
    simp only [List.getElem?_cons_zero,Option.some.injEq] at hq
    subst hq;rw [Nat.zero_mul,List.drop_zero,List.take_append_of_le_length (by omega),List.take_of_length_le (by omega)];exact hp
  |succ j=>
    simp only [List.getElem?_cons_succ] at hq
    have h1:=h.2 j q hq;rw [Nat.succ_mul,List.drop_append,List.drop_of_length_le (by rw [hc];exact Nat.le_add_left _ _),List.nil_append,hc,Nat.add_sub_cancel];exact h1
theorem cI.c2 {α:Type} {R:α ->List Value ->Prop} {ps:List α} {cs:List Value} {p:α} {va vb:Value} (hp:R p [va,vb]) (h:cI R 2 ps cs):cI R 2 (p::ps) (va::vb::cs):=cI.front hp rfl h rfl
theorem cI.c3 {α:Type} {R:α ->List Value ->Prop} {ps:List α} {cs:List Value} {p:α} {va vb vc:Value} (hp:R p [va,vb,vc]) (h:cI R 3 ps cs):cI R 3 (p::ps) (va::vb::vc::cs):=cI.front hp rfl h rfl
theorem cI.c4 {α:Type} {R:α ->List Value ->Prop} {ps:List α} {cs:List Value} {p:α} {va vb vc vd:Value} (hp:R p [va,vb,vc,vd]) (h:cI R 4 ps cs):cI R 4 (p::ps) (va::vb::vc::vd::cs):=cI.front hp rfl h rfl
theorem cI.c5 {α:Type} {R:α ->List Value ->Prop} {ps:List α} {cs:List Value} {p:α} {va vb vc vd ve:Value} (hp:R p [va,vb,vc,vd,ve]) (h:cI R 5 ps cs):cI R 5 (p::ps) (va::vb::vc::vd::ve::cs):=cI.front hp rfl h rfl
theorem cI.c6 {α:Type} {R:α ->List Value ->Prop} {ps:List α} {cs:List Value} {p:α} {va vb vc vd ve vf:Value} (hp:R p [va,vb,vc,vd,ve,vf]) (h:cI R 6 ps cs):cI R 6 (p::ps) (va::vb::vc::vd::ve::vf::cs):=cI.front hp rfl h rfl
theorem cI.c7 {α:Type} {R:α ->List Value ->Prop} {ps:List α} {cs:List Value} {p:α} {va vb vc vd ve vf vg:Value} (hp:R p [va,vb,vc,vd,ve,vf,vg]) (h:cI R 7 ps cs):cI R 7 (p::ps) (va::vb::vc::vd::ve::vf::vg::cs):=cI.front hp rfl h rfl
theorem cI.c8 {α:Type} {R:α ->List Value ->Prop} {ps:List α} {cs:List Value} {p:α} {va vb vc vd ve vf vg vh:Value} (hp:R p [va,vb,vc,vd,ve,vf,vg,vh]) (h:cI R 8 ps cs):cI R 8 (p::ps) (va::vb::vc::vd::ve::vf::vg::vh::cs):=cI.front hp rfl h rfl
theorem cI.c9 {α:Type} {R:α ->List Value ->Prop} {ps:List α} {cs:List Value} {p:α} {va vb vc vd ve vf vg vh vi:Value} (hp:R p [va,vb,vc,vd,ve,vf,vg,vh,vi]) (h:cI R 9 ps cs):cI R 9 (p::ps) (va::vb::vc::vd::ve::vf::vg::vh::vi::cs):=cI.front hp rfl h rfl
theorem cI.Ba {α:Type} {R:α ->List Value ->Prop} {ps:List α} {cs:List Value} {p:α} {va vb vc vd ve vf vg vh vi vj:Value} (hp:R p [va,vb,vc,vd,ve,vf,vg,vh,vi,vj]) (h:cI R 10 ps cs):cI R 10 (p::ps) (va::vb::vc::vd::ve::vf::vg::vh::vi::vj::cs):=cI.front hp rfl h rfl
end Go.Proofs.ai.bX
namespace Go.Proofs.ai.dh
def up (b:Nat ->Bool) (i:Nat):Nat ->Bool:=fun j=>if j=i then true else b j
section
end
end Go.Proofs.ai.dh
namespace Go.Proofs.ai.bX
open Go.RowKit
end Go.Proofs.ai.bX
namespace Go.Proofs.ai.dh
section
end
end Go.Proofs.ai.dh
namespace Go.Proofs.ai.bX
open Go.RowKit
section
variable {P:Program} {ops:Array Oper} {rest:List Oper} {o:Oper} {a:Act} {Q:Exit ->Act ->World ->Prop} {W:World}
theorem eN (hw:Region.wanted o (yielded ops a.tmps)=true) (h:wpList P ops Q ({o with guard:=none}::rest) a W):wpList P ops Q (o::rest) a W:=by
  have h1:Region.wanted {o with guard:=none} (yielded ops a.tmps)=true:=rfl;unfold wpList at h|-
  rw [au h1] at h
  rw [au hw];exact h
end
end Go.Proofs.ai.bX
