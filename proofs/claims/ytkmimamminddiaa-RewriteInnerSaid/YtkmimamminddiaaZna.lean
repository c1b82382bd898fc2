/- Texts of this claim, merged: WWords, AggWords, MyWords, WLast, WTab, WQPut, WApart, WArr, WZeros, WFoot, WKept, WShare, WN, WNEv, WMore, WFour, WFootNe, WAt, WEqStruct, WRepsOne, WInv, WInvWords, WGuard. -/
import Derived.Below
import Derived.Deep.Draws
import Derived.Deep.AppendLies
import Derived.Maps.AppendAt
import Derived.OwnWalk
import Derived.Laws.BytesArg
import Derived.Laws.MakeOwn
import Derived.Laws.OwnMore
import Derived.Deep.OwnRows
import Derived.Tactics
import Derived.Lib.ConvBytes
import Derived.Laws.Slices
import Derived.WalkKit
import Derived.KernelRfl
import Derived.RowKit3
import Derived.Deep.LoopGhost
import Derived.Deep.QuietTactic
import Derived.BigQuiet
import Derived.WideLaws
import Derived.Deep.DeepCutAuto
import Derived.Deep.CutBlock
import Derived.Deep.RegionHeld3
import Derived.Laws.Rows
import Derived.Lib.AppendStr
import Derived.ArgAppend
import Derived.Laws.IdiomCopy
import Derived.RowKit
import Derived.Lib.SmallJoins
import Derived.ProofKit
import Derived.WalkSpells
import Derived.OrdersHeld
import Derived.Laws.BitsLemmas
import Derived.Laws.StructEq
set_option maxHeartbeats 40000000
set_option maxRecDepth 100000
set_option linter.unusedVariables false
set_option linter.unusedSimpArgs false
namespace Go.Proofs
open Go
theorem dc {α β:Type} {o:Option α} {f:α→Option β} {b:β} (h:o.bind f=some b):∃ a,o=some a∧f a=some b:=Option.bind_eq_some_iff.mp h
theorem cN {α:Type} {a b:α} (h:some a=some b):a=b:=Option.some.inj h
theorem bD {α β:Type} (x:α) (f:α→Option β):(some x).bind f=f x:=rfl
theorem bN {p:Prop} [Decidable p] (h:p):decide p=true:=decide_eq_true h
theorem gN {p:Prop} [Decidable p] (h:¬ p):decide p=false:=decide_eq_false h
theorem aq {c:Prop} {h:Decidable c} (hc:c) {α:Sort _} {t e:α}:ite c t e=t:=if_pos hc
theorem av {c:Prop} {h:Decidable c} (hc:¬ c) {α:Sort _} {t e:α}:ite c t e=e:=if_neg hc
theorem fF {α:Type} [BEq α] [LawfulBEq α] {a b:α} (h:a=b):(a==b)=true:=beq_iff_eq.mpr h
theorem kL {α:Type} [BEq α] [LawfulBEq α] {a b:α} (h:a=b):(a !=b)=false:=bne_eq_false_iff_eq.mpr h
theorem fq {α:Type} [BEq α] [LawfulBEq α] {a b:α} (h:¬ a=b):(a==b)=false:=beq_eq_false_iff_ne.mpr h
theorem lf {α:Type} [BEq α] [LawfulBEq α] {a b:α} (h:¬ a=b):(a !=b)=true:=bne_iff_ne.mpr h
theorem dF (w:World) (a:Addr) {v:Value} (h:w.cell? a=some v):a.block<w.heap.size:=World.block_lt_of_cell? w a h
theorem zE {b:Bool} (h:¬ b=true):b=false:=Bool.eq_false_iff.mpr h
abbrev jL:Array Value:= #[.int .u8 0,.int .u8 0,.int .u8 0,.int .u16 0,.int .u8 0,.int .u16 0,.int .u32 0,.int .u32 0,.slice none 0 0,.slice none 0 0]
abbrev lN:Array Value:= #[.int .u8 0,.int .u32 0,.int .u16 0,.int .u32 0,.int .u16 0,.int .u8 0,.slice none 0 0]
abbrev qf:Array Value:= #[.int .u16 0,.int .u16 0,.int .u32 0,.int .u32 0,.int .u8 0,.int .u16 0,.int .u16 0,.int .u16 0,.slice none 0 0,.slice none 0 0]
abbrev oH:Array Value:= #[.int .u16 0,.int .u16 0,.int .u16 0,.slice none 0 0]
end Go.Proofs
namespace Go.Proofs.ah.bT
open Go.RowKit
structure aa (p:Prop):Prop where mk::(out:p)
structure bB (w w':World):Prop where mk::(out:∃ n,w'=w.drewN n)
theorem bB.refl (w:World):bB w w:=⟨⟨0,rfl⟩⟩
theorem bB.step {w w':World} (h:bB w w') (n:Nat):bB w (w'.drewN n):=by
  obtain ⟨m,rfl⟩:=h;exact ⟨⟨m+n,World.drewN_drewN ..⟩⟩
theorem bB.grown {w w':World} (h:bB w w'):Grown w w':=by
  obtain ⟨n,rfl⟩:=h
  induction n with
  |zero=>exact Grown.refl _
  |succ n ih=>rw [<- World.drew_drewN];exact Grown.drew ih
theorem bB.below {w w':World} (h:bB w w'):Below w.heap.size w w':=by
  obtain ⟨n,rfl⟩:=h
  induction n with
  |zero=>exact Below.refl _ _
  |succ n ih=>rw [<- World.drew_drewN];exact ih.drew
def rd (xs:List Int) (i:Int):Int:=xs.getD i.toNat 0
def Aaa (k:IntKind) (xs:List Int):List Value:=xs.map fun x=> .int k x
theorem dV {w W:World} (h:Below w.heap.size w W) (o:Obj):Below w.heap.size w (W.alloc o):=h.alloc h.size o
theorem rX {B:Nat} {w W:World} (h:Below B w W):Below B w W.drew:=⟨h.os,h.tape,h.output,h.size,h.block⟩
theorem dS {B:Nat} {w W:World} (h:Below B w W) (n:Nat):Below B w (W.drewN n):=⟨h.os,h.tape,h.output,h.size,h.block⟩
theorem Ld {B:Nat} {w w1 w2:World} (h:Below B w w1) (hB:B<=w1.heap.size) (k:Below w1.heap.size w1 w2):Below B w w2:=
  h.trans ⟨k.os,k.tape,k.output,k.size,fun i hi=>k.block i (Nat.lt_of_lt_of_le hi hB)⟩
theorem C6 {w w1:World} (h:Below w.heap.size w w1) (row:Option Nat):w.grownBy w1 row:=⟨h.os,h.tape,h.output,h.size,fun i hi _=>h.block i hi⟩
theorem tZ {w w1:World} (h:Below w.heap.size w w1) {a:Addr} {v:Value} (hc:w.cell? a=some v):w1.cell? a=some v:=(h.cell (dF w a hc)).trans hc
theorem add_plain (g j:Nat):(⟨g,0,none⟩:Addr).add j=⟨g,j,none⟩:=by unfold Addr.add;split<;>simp_all
def iC (w:World) (k:IntKind) (A:Option Addr) (n:Nat) (xs:List Int):Prop:=
  xs.length=n /\ n<=9223372036854775807 /\ (0<n ->∃ ad,A=some ad /\ ∀ j,j<n ->w.cell? (ad.add j)=some (.int k (xs.getD j 0)))
theorem iC.at_ {w:World} {k:IntKind} {A:Option Addr} {n:Nat} {xs:List Int} (h:iC w k A n xs) (i:Int) (h0:0<=i) (h1:i<n):∃ ad,A=some ad /\ w.cell? (ad.add i.toNat)=some (.int k (rd xs i)):=by
  obtain ⟨ad,e,hc⟩:=h.2.2 (by omega);exact ⟨ad,e,hc _ (by omega)⟩
theorem iC.below {w w1:World} {k:IntKind} {A:Option Addr} {n:Nat} {xs:List Int} (h:iC w k A n xs) (hb:Below w.heap.size w w1):iC w1 k A n xs:=
  ⟨h.1,h.2.1,fun hn=>by
    obtain ⟨ad,e,hc⟩:=h.2.2 hn
    exact ⟨ad,e,fun j hj=>tZ hb (hc j hj)⟩⟩
theorem Vh (W:World) (base:Nat) (e:TypeId) (size:Nat):W.ownsRow base e size (.slice none 0 0) 0 []:=⟨by simp,.inl ⟨rfl,rfl⟩⟩
theorem wL {w:World} {base:Nat} {e:TypeId} {size n:Nat} {v:Value} {xs:List Value} (h:w.ownsRow base e size v n xs) (k:Nat) (hk:v.ownBlock=some k):base<=k:=by
  rcases h.2 with ⟨rfl,_⟩|⟨g,cap,cur,rfl,hb,_⟩
  · simp [Value.ownBlock] at hk
  · have:g=k:=by simpa [Value.ownBlock] using hk
    omega
theorem Le {w:World} {base:Nat} {e:TypeId} {size n:Nat} {v:Value} {xs:List Value} (h:w.ownsRow base e size v n xs) (k:Nat) (hk:v.ownBlock=some k):k<w.heap.size:=by
  rcases h.2 with ⟨rfl,_⟩|⟨g,cap,cur,rfl,hb,hh,_⟩
  · simp [Value.ownBlock] at hk
  · have:g=k:=by simpa [Value.ownBlock] using hk
    subst this;exact (Array.getElem?_eq_some_iff.1 hh).1
theorem Gd {w w1:World} {base:Nat} {e:TypeId} {size n:Nat} {v:Value} {xs:List Value} (h:w.ownsRow base e size v n xs) (hb:Below w.heap.size w w1):w1.ownsRow base e size v n xs:=
  h.kept (C6 hb none) (by cases v.ownBlock<;>simp)
theorem OG {w w1:World} {base:Nat} {e:TypeId} {size n:Nat} {v:Value} {xs:List Value} (h:w.ownsRow base e size v n xs) {row:Option Nat} (hg:w.grownBy w1 row) (hne:v.ownBlock=none \/ v.ownBlock≠row):w1.ownsRow base e size v n xs:=h.kept hg hne
theorem OH {w:World} {base n:Nat} {e:TypeId} {size:Nat} {v:Value} {xs:List Value} (h:w.ownsRow base e size v n xs):∃ A c,v= .slice A n c:=by
  rcases h.2 with ⟨rfl,rfl⟩|⟨g,cap,cur,rfl,_⟩
  · exact ⟨none,0,rfl⟩
  · exact ⟨_,cap,rfl⟩
theorem Aab {P:Program} {w:World} {base n:Nat} {e' src dst e:TypeId} {v:Value} {xs:List Int} (hs:P.underlying src=some (.slice e)) (he:P.underlying e=some (.int .u8)) (hd:P.underlying dst=some .string)
    (h:w.ownsRow base e' 1 v n (Aaa .u8 xs)):(convert src dst v).run P w= .ok (.string (strOfNums xs)) w:=by
  have hl:xs.length=n:=by have:=h.1;simp [Aaa] at this;exact this
  rcases h.2 with ⟨rfl,rfl⟩|⟨g,cap,cur,rfl,_⟩
  · obtain rfl:xs=[]:=List.eq_nil_of_length_eq_zero hl
    exact run_convert_bytes_nil w src e hs he 0 0 dst hd
  · refine run_convert_bytes_arg w src e hs he g 0 n cap xs hl (fun i hi=> ?_) dst hd
    have hc:=h.cells (g:=g) rfl i (.int .u8 (xs.getD i 0)) (by simp [Aaa,List.getElem?_eq_getElem (show i<xs.length by omega),List.getD_eq_getElem?_getD]);have ha:(⟨g,0,none⟩:Addr).add i=⟨g,0+i,none⟩:=by unfold Addr.add;split<;>simp_all
    rwa [ha] at hc
section
end
section
end
section
end
theorem iC.gF {w:World} {k:IntKind} {A:Option Addr} {n:Nat} {xs:List Int} (h:iC w k A n xs) (i:Nat) (hi:i<=n):iC w k A i (xs.take i):=by
  refine ⟨by rw [List.length_take,h.1];omega,by have:=h.2.1;omega,fun hp=> ?_⟩;obtain ⟨ad,e,hc⟩:=h.2.2 (by omega);refine ⟨ad,e,fun j hj=> ?_⟩;rw [hc j (by omega)]
  simp [List.getD_eq_getElem?_getD,hj]
theorem iC.Iw {w:World} {k:IntKind} {A:Option Addr} {n c:Nat} {xs:List Int} (h:iC w k A n xs) (i:Nat) (hi:i<=n) (hc:n<=c):iC w k (if c=i then A else A.map (·.add i)) (n - i) (xs.drop i):=by
  refine ⟨by rw [List.length_drop,h.1],by have:=h.2.1;omega,fun hp=> ?_⟩;obtain ⟨ad,rfl,hcell⟩:=h.2.2 (by omega);rw [av (by omega)];refine ⟨ad.add i,rfl,fun j hj=> ?_⟩
  have ha:(ad.add i).add j=ad.add (i+j):=by
    unfold Addr.add
    by_cases h1:i=0<;>by_cases h2:j=0<;>simp [h1,h2,Nat.add_assoc]
  rw [ha,hcell (i+j) (by omega)]
  simp [List.getD_eq_getElem?_getD,List.getElem?_drop]
theorem Ad4 {P:Program} (t e:TypeId) (kl:IntKind) {i:TypeInfo} (ht:P.underlying t=some (.slice e)) (hi:P.info? e=some i) (hsz:i.size=1) (A:Option Addr) (n c m:Nat) (hm:m<=n):
    ∃ A':Option Addr,(∀ W:World,(Instr.slice t (.slice A n c) (some (.int kl (m:Int))) none none).run P W= .ok (.slice A' (n - m) (c - m)) W) /\
      ∀ (w:World) (k:IntKind) (xs:List Int),n<=c ->iC w k A n xs ->iC w k A' (n - m) (xs.drop m):=by
  refine ⟨if c=m then A else A.map (·.add m),fun W=> ?_,fun w k xs hc h=>h.Iw m hm hc⟩;have hel:P.elem t=e:=by simp [Program.elem,ht]
  have hu:P.underlying t=some (.slice (P.elem t)):=by rw [hel];exact ht
  rw [run_slice_l W t A n c hu kl (m:Int) (Int.natCast_nonneg _) (by omega),hel]
  simp [sizeOf,typeInfo,hi,hsz,sliced,Result.andThen]
def Ft {α:Type} (a b:Option α):Prop:=∀ r,a=some r ->b=some r
theorem Ft.refl {α:Type} (a:Option α):Ft a a:=fun _ h=>h
theorem Ft.none {α:Type} (b:Option α):Ft Option.none b:=fun _ h=>by cases h
theorem Ft.trans {α:Type} {a b c:Option α} (h:Ft a b) (k:Ft b c):Ft a c:=fun r hr=>k r (h r hr)
theorem Ft.bind {α β:Type} {a a':Option α} {f f':α ->Option β} (h:Ft a a') (k:∀ x,Ft (f x) (f' x)):Ft (a.bind f) (a'.bind f'):=by
  intro r hr;obtain ⟨x,hx,hf⟩:=Option.bind_eq_some_iff.1 hr;exact Option.bind_eq_some_iff.2 ⟨x,h x hx,k x r hf⟩
theorem Ft.map {α β:Type} {a a':Option α} (f:α ->β) (h:Ft a a'):Ft (a.map f) (a'.map f):=by
  intro r hr;obtain ⟨x,hx,hf⟩:=Option.map_eq_some_iff.1 hr;exact Option.map_eq_some_iff.2 ⟨x,h x hx,hf⟩
theorem Bt {α:Type} {g:Nat ->Option α} (h:∀ k,Ft (g k) (g (k+1))) (k:Nat):∀ j,Ft (g k) (g (k+j))
  |0=>Ft.refl _
  |j+1=>(Bt h k j).trans (h (k+j))
theorem OI {α:Type} {g:Nat ->Option α} (h:∀ k,Ft (g k) (g (k+1))) {k k':Nat} (hk:k<=k') {r:α} (hr:g k=some r):g k'=some r:=by
  have:=Bt h k (k' - k) r hr
  rwa [Nat.add_sub_cancel' hk] at this
def cD {α:Type} (R:α ->List Value ->Prop) (size:Nat) (ps:List α) (cs:List Value):Prop:=
  cs.length=ps.length*size /\ ∀ j p,ps[j]?=some p ->R p ((cs.drop (j*size)).take size)
theorem cD.none {α:Type} (R:α ->List Value ->Prop) (size:Nat):cD R size [] []:=⟨by simp,fun j p h=>by simp at h⟩
theorem cD.snoc {α:Type} {R:α ->List Value ->Prop} {size:Nat} {ps:List α} {cs c:List Value} {p:α} (h:cD R size ps cs) (hp:R p c) (hc:c.length=size):cD R size (ps++[p]) (cs++c):=by
  refine ⟨by rw [List.length_append,h.1,hc,List.length_append,List.length_singleton,Nat.add_mul,Nat.one_mul],fun j q hq=> ?_⟩
  rcases Nat.lt_or_ge j ps.length with hj|hj
  · rw [List.getElem?_append_left hj] at hq
    have h1:j*size+size<=cs.length:=by rw [h.1,<- Nat.succ_mul];exact Nat.mul_le_mul_right _ hj
    have h2:=h.2 j q hq;rw [List.drop_append_of_le_length (by omega),List.take_append_of_le_length (by rw [List.length_drop];omega)];exact h2
  · have hj':j=ps.length:=by
      have:=(List.getElem?_eq_some_iff.1 hq).1;rw [List.length_append,List.length_singleton] at this
      omega
    subst hj';have hq':p=q:=by simpa using hq
    subst hq';rw [<- h.1,List.drop_left,<- hc,List.take_length];exact hp
theorem cD.ua {α:Type} {R R':α ->List Value ->Prop} {size:Nat} {ps:List α} {cs:List Value} (h:cD R size ps cs) (hR:∀ p c,R p c ->R' p c):cD R' size ps cs:=⟨h.1,fun j p hj=>hR _ _ (h.2 j p hj)⟩
def j8 {α:Type} (R:α ->List Value ->Prop) (size:Nat) (w:World) (A:Option Addr) (n:Nat) (ps:List α):Prop:=
  ps.length=n /\ n<=9223372036854775807 /\ (0<n ->∃ ad,A=some ad /\ ∀ j p,ps[j]?=some p ->∃ c,c.length=size /\ R p c /\ ∀ i u,c[i]?=some u ->w.cell? (ad.add (j*size+i))=some u)
theorem j8.Am1 {α:Type} {R:α ->List Value ->Prop} {size:Nat} {w:World} {A:Option Addr} {n:Nat} {ps:List α} (h:j8 R size w A n ps) (d:α) (i:Int) (h0:0<=i) (h1:i<n):
    ∃ ad c,A=some ad /\ c.length=size /\ R (ps.getD i.toNat d) c /\ ∀ j u,c[j]?=some u ->w.cell? (ad.add (i.toNat*size+j))=some u:=by
  obtain ⟨ad,e,hc⟩:=h.2.2 (by omega);have hl:i.toNat<ps.length:=by have:=h.1;omega
  obtain ⟨c,hs,hr,hcell⟩:=hc i.toNat _ (List.getElem?_eq_getElem hl);refine ⟨ad,c,e,hs, ?_,hcell⟩;rw [List.getD_eq_getElem?_getD,List.getElem?_eq_getElem hl];exact hr
theorem j8.ua {α:Type} {R R':α ->List Value ->Prop} {size:Nat} {w w1:World} {A:Option Addr} {n:Nat} {ps:List α} (h:j8 R size w A n ps) (hb:Below w.heap.size w w1) (hR:∀ p c,R p c ->R' p c):j8 R' size w1 A n ps:=
  ⟨h.1,h.2.1,fun hn=>by
    obtain ⟨ad,e,hc⟩:=h.2.2 hn;refine ⟨ad,e,fun j p hj=> ?_⟩;obtain ⟨c,hs,hr,hcell⟩:=hc j p hj
    exact ⟨c,hs,hR _ _ hr,fun i u hu=>tZ hb (hcell i u hu)⟩⟩
theorem EV {α:Type} {R:α ->List Value ->Prop} {w:World} {base n size:Nat} {e:TypeId} {v:Value} {ps:List α} {cs:List Value} (h:w.ownsRow base e size v n cs) (hR:cD R size ps cs) (hn:ps.length=n):
    ∃ A c,v= .slice A n c /\ j8 R size w A n ps:=by
  rcases Nat.eq_zero_or_pos n with h0|h0
  · rcases h.2 with ⟨rfl,rfl⟩|⟨g,cap,cur,rfl,_⟩
    · exact ⟨none,0,rfl,hn,by omega,fun hp=>absurd hp (by omega)⟩
    · exact ⟨_,cap,rfl,hn,by omega,fun hp=>absurd hp (by omega)⟩
  · obtain ⟨g,cap,rfl,_,_⟩:=h.form h0
    have hm:n<=9223372036854775807:=by
      rcases h.2 with ⟨_,h1⟩|⟨g',cap',cur,he,_,_,h1,h2,_⟩
      · omega
      · simp only [maxLen] at h2
        omega
    refine ⟨_,cap,rfl,hn,hm,fun _=>⟨_,rfl,fun j p hj=>⟨(cs.drop (j*size)).take size, ?_,hR.2 j p hj,fun i u hu=> ?_⟩⟩⟩
    · have hjl:=(List.getElem?_eq_some_iff.1 hj).1
      have h1:j*size+size<=cs.length:=by rw [hR.1,<- Nat.succ_mul];exact Nat.mul_le_mul_right _ hjl
      rw [List.length_take,List.length_drop]
      omega
    · refine h.cells (g:=g) rfl _ u ?_
      rw [List.getElem?_take] at hu
      split at hu
      · rw [List.getElem?_drop] at hu
        exact hu
      · cases hu
section
variable {P:Program} {ops:Array Oper} {rest:List Oper} {o:Oper} {a:Act} {Q:Exit ->Act ->World ->Prop}
theorem rY {w0 W:World} (base:Nat) (hgd:o.guard=none) (s x:Operand) (t e:TypeId) (z:Value) (size bytes:Nat)
    (ho:o.op= .call {callee:= .builtin .append,args:= #[s,x],argTypes:= #[t,t]})
    (ht:P.underlying t=some (.slice e)) (hinfo:(P.info? e).map (fun i=>(i.zero,i.size,i.bytes))=some (some z,size,bytes)) (hz:z.cells.size=size) (hs0:0<size) (hb0:0<bytes)
    (v:Value) (n:Nat) (xs ys:List Value) (hs:a.eval s=v) (hx:a.eval x= .slice (some ⟨W.heap.size,0,none⟩) 1 1) (hys:ys.length=size) (h1:∀ u ∈ ys,u.oneCell'=true)
    (HO:W.ownsRow base e size v n xs) (HB:Below base w0 W) (hbase:base<=W.heap.size) (hl:(n+1)*bytes<=140737488355328)
    (h:∀ v1 w1,w1.ownsRow base e size v1 (n+1) (xs++ys) ->Below base w0 w1 ->W.grownBy w1 v.ownBlock ->(v1.ownBlock=v.ownBlock \/ ∃ b,v1.ownBlock=some b /\ W.heap.size<=b) ->wpList P ops Q rest (a.put o.dst v1) w1):
    wpList P ops Q (o::rest) a (W.alloc (.cells ys.toArray e)):=by
  obtain ⟨i0,hi,hzz⟩:=Option.map_eq_some_iff.1 hinfo;simp only [Prod.mk.injEq] at hzz
  obtain ⟨hz0,hz1,hz2⟩:=hzz;have hlen:n+1<=140737488355328:=Nat.le_trans (Nat.le_mul_of_pos_right _ hb0) hl
  refine wpList_append_own_at (W.alloc (.cells ys.toArray e)) hgd s x t ho base e i0 z size bytes ht hi hz0 hz1 hz2 hz hs0 v n xs hs (HO.alloc _) ⟨W.heap.size,0,none⟩ 1 1 ys hx (by rw [hys];simp)
    (by simpa using World.news_of_block (cs:=ys.toArray) (t:=e) (fr:=(0,0)) (heap_alloc_new W (.cells ys.toArray e))) h1 (by simp only [maxLen];omega) hl (by simp;omega) ?_
  intro v1 w1 hown hg _ hat;refine h v1 w1 hown ((HB.alloc hbase _).grown hg (by simp;omega) (wL HO)) (World.grownBy.trans (World.grownBy_alloc W _ _) hg) ?_
  rcases hat with hat|hat
  · exact .inl hat
  · exact .inr ⟨_,hat,by simp⟩
end
theorem QC {w:World} {base:Nat} {e t:TypeId} {size n g:Nat} {v:Value} {xs:List Value} {cs:Array Value} (h:w.ownsRow base e size v n xs) (hg:w.heap[g]?=some (.cells cs t (0,0))) (hne:e≠t):some g≠v.ownBlock:=by
  rcases h.2 with ⟨rfl,_⟩|⟨g',cap,cur,rfl,_,hh,_⟩
  · simp [Value.ownBlock]
  · intro he
    have:g=g':=by simpa [Value.ownBlock] using he
    subst this;rw [hg] at hh
    injection hh with hh
    injection hh with _ ht
    exact hne ht.symm
theorem MU {w:World} {g:Nat} {t:TypeId} {cs:Array Value} (h:w.heap[g]?=some (.cells cs t (0,0))) (i:Nat) (u:Value):(w.setCell ⟨g,i,none⟩ u).heap[g]?=some (.cells (cs.setIfInBounds i u) t (0,0)):=by
  simp [World.setCell,Array.getElem?_modify,h]
theorem jk {w:World} {g:Nat} {t:TypeId} {cs:Array Value} (h:w.heap[g]?=some (.cells cs t (0,0))) {p:Addr} (hp:g≠p.block) (u:Value):(w.setCell p u).heap[g]?=some (.cells cs t (0,0)):=(Below.heap_setCell w p u g hp).trans h
theorem lZ {w:World} {g:Nat} {o:Obj} (h:w.heap[g]?=some o):g<w.heap.size:=(Array.getElem?_eq_some_iff.1 h).1
theorem aN {w:World} {g:Nat} {t:TypeId} {cs:Array Value} (h:w.heap[g]?=some (.cells cs t (0,0))) (i:Nat):w.cell? ⟨g,i,none⟩=cs[i]?:=cell_of_row w g i cs t (0,0) h
theorem ae {w:World} {g:Nat} {t:TypeId} {cs:Array Value} (h:w.heap[g]?=some (.cells cs t (0,0))) (i:Nat):w.frozen? ⟨g,i,none⟩=false:=by simp [World.frozen?,h]
theorem gW {w w1:World} {g:Nat} {o:Obj} {row:Option Nat} (h:w.heap[g]?=some o) (hg:w.grownBy w1 row) (hne:some g≠row):w1.heap[g]?=some o:=(hg.block g (lZ h) hne).trans h
def jU (w w':World) (g:Nat) (row:Option Nat):Prop:=w.heap.size<=w'.heap.size /\ ∀ i,i<w.heap.size ->i≠g ->some i≠row ->w'.heap[i]?=w.heap[i]?
theorem jU.refl (w:World) (g:Nat) (row:Option Nat):jU w w g row:=⟨Nat.le_refl _,fun _ _ _ _=>rfl⟩
theorem jU.C8 {w w1:World} {row:Option Nat} (h:w.grownBy w1 row) (g:Nat):jU w w1 g row:=⟨h.size,fun i hi _ hr=>h.block i hi hr⟩
theorem jU.Ix {w w1:World} (h:Below w.heap.size w w1) (g:Nat) (row:Option Nat):jU w w1 g row:=⟨h.size,fun i hi _ _=>h.block i hi⟩
theorem jU.trans {w w1 w2:World} {g:Nat} {row Aac:Option Nat} (h:jU w w1 g row) (k:jU w1 w2 g Aac) (hr:Aac=row \/ ∃ b,Aac=some b /\ w.heap.size<=b):jU w w2 g row:=
  ⟨Nat.le_trans h.1 k.1,fun i hi hg hn=>by
    refine (k.2 i (Nat.lt_of_lt_of_le hi h.1) hg ?_).trans (h.2 i hi hg hn)
    rcases hr with rfl|⟨b,rfl,hb⟩
    · exact hn
    · intro e
      injection e with e
      omega⟩
theorem jU.blk {w w1:World} {g g':Nat} {row:Option Nat} {o:Obj} (h:jU w w1 g row) (hb:w.heap[g']?=some o) (hg:g'≠g) (hr:some g'≠row):w1.heap[g']?=some o:=(h.2 g' (lZ hb) hg hr).trans hb
theorem jU.own {w w1:World} {g:Nat} {row:Option Nat} {base:Nat} {e:TypeId} {size n:Nat} {v:Value} {xs:List Value} (h:jU w w1 g row) (ho:w.ownsRow base e size v n xs) (hg:v.ownBlock≠some g) (hr:v.ownBlock=none \/ v.ownBlock≠row):w1.ownsRow base e size v n xs:=by
  obtain ⟨h1,h2⟩:=ho;refine ⟨h1, ?_⟩
  rcases h2 with h2|⟨b,cap,cur,rfl,hb,hh,r⟩
  · exact .inl h2
  · refine .inr ⟨b,cap,cur,rfl,hb,h.blk hh ?_ ?_,r⟩
    · intro e
      exact hg (by rw [<- e];rfl)
    · rcases hr with hr|hr
      · simp [Value.ownBlock] at hr
      · exact hr
def Ev {α:Type} (g:Nat ->Option α) (r:α):Prop:=∃ K,∀ k,K<=k ->g k=some r
theorem Ev.of {α:Type} {g:Nat ->Option α} {r:α} (hg:∀ k,Ft (g k) (g (k+1))) {k:Nat} (h:g k=some r):Ev g r:=⟨k,fun _ hk=>OI hg hk h⟩
theorem Ev.now {α:Type} (r:α):Ev (fun _=>some r) r:=⟨0,fun _ _=>rfl⟩
theorem Ev.bind {α β:Type} {g:Nat ->Option α} {f:Nat ->α ->Option β} {a:α} {r:β} (h:Ev g a) (k:Ev (fun n=>f n a) r):Ev (fun n=>(g n).bind (f n)) r:=by
  obtain ⟨K,h⟩:=h;obtain ⟨K',k⟩:=k;refine ⟨max K K',fun n hn=> ?_⟩;have h1:=h n (by omega);have h2:=k n (by omega);simp only [h1,bD];exact h2
theorem Ev.step {α:Type} {g f:Nat ->Option α} {r:α} (h:∀ k,g (k+1)=f k) (k:Ev f r):Ev g r:=by
  obtain ⟨K,k⟩:=k;refine ⟨K+1,fun n hn=> ?_⟩;obtain ⟨m,rfl⟩:∃ m,n=m+1:=⟨n - 1,by omega⟩
  rw [h];exact k m (by omega)
theorem Ev.congr {α:Type} {g f:Nat ->Option α} {r:α} (h:∀ k,g k=f k) (k:Ev f r):Ev g r:=by
  obtain ⟨K,k⟩:=k;exact ⟨K,fun n hn=>(h n).trans (k n hn)⟩
section
end
theorem Lf {w:World} {base base':Nat} {e:TypeId} {size n:Nat} {v:Value} {xs:List Value} (h:w.ownsRow base e size v n xs) (hb:base'<=base):w.ownsRow base' e size v n xs:=by
  obtain ⟨h1,h2⟩:=h;refine ⟨h1, ?_⟩
  rcases h2 with h2|⟨g,cap,cur,rfl,hg,r⟩
  · exact .inl h2
  · exact .inr ⟨g,cap,cur,rfl,Nat.le_trans hb hg,r⟩
section
variable {α:Type} {enc:α ->Value} {d:α}
def uw (enc:α ->Value) (xs:List α):List Value:=xs.map enc
def Vi (d:α) (xs:List α) (i:Int):α:=xs.getD i.toNat d
theorem Bu (xs:List α):(uw enc xs).length=xs.length:=by simp [uw]
theorem QD (xs:List α) (j:Nat) (h:j<xs.length):(uw enc xs)[j]?=some (enc (xs.getD j d)):=by
  simp [uw,List.getElem?_eq_getElem h,List.getD_eq_getElem?_getD]
def gO (enc:α ->Value) (d:α) (w:World) (A:Option Addr) (n:Nat) (xs:List α):Prop:=
  xs.length=n /\ n<=9223372036854775807 /\ (0<n ->∃ ad,A=some ad /\ ∀ j,j<n ->w.cell? (ad.add j)=some (enc (xs.getD j d)))
theorem gO.at_ {w:World} {A:Option Addr} {n:Nat} {xs:List α} (h:gO enc d w A n xs) (i:Int) (h0:0<=i) (h1:i<n):∃ ad,A=some ad /\ w.cell? (ad.add i.toNat)=some (enc (Vi d xs i)):=by
  obtain ⟨ad,e,hc⟩:=h.2.2 (by omega);exact ⟨ad,e,hc _ (by omega)⟩
theorem gO.below {w w1:World} {A:Option Addr} {n:Nat} {xs:List α} (h:gO enc d w A n xs) (hb:Below w.heap.size w w1):gO enc d w1 A n xs:=
  ⟨h.1,h.2.1,fun hn=>by
    obtain ⟨ad,e,hc⟩:=h.2.2 hn
    exact ⟨ad,e,fun j hj=>tZ hb (hc j hj)⟩⟩
theorem gO.gF {w:World} {A:Option Addr} {n:Nat} {xs:List α} (h:gO enc d w A n xs) (i:Nat) (hi:i<=n):gO enc d w A i (xs.take i):=by
  refine ⟨by rw [List.length_take,h.1];omega,by have:=h.2.1;omega,fun hp=> ?_⟩;obtain ⟨ad,e,hc⟩:=h.2.2 (by omega);refine ⟨ad,e,fun j hj=> ?_⟩;rw [hc j (by omega)]
  simp [List.getD_eq_getElem?_getD,hj]
theorem gO.Iw {w:World} {A:Option Addr} {n c:Nat} {xs:List α} (h:gO enc d w A n xs) (i:Nat) (hi:i<=n) (hc:n<=c):gO enc d w (if c=i then A else A.map (·.add i)) (n - i) (xs.drop i):=by
  refine ⟨by rw [List.length_drop,h.1],by have:=h.2.1;omega,fun hp=> ?_⟩;obtain ⟨ad,rfl,hcell⟩:=h.2.2 (by omega);rw [av (by omega)];refine ⟨ad.add i,rfl,fun j hj=> ?_⟩
  have ha:(ad.add i).add j=ad.add (i+j):=by
    unfold Addr.add
    by_cases h1:i=0<;>by_cases h2:j=0<;>simp [h1,h2,Nat.add_assoc]
  rw [ha,hcell (i+j) (by omega)]
  simp [List.getD_eq_getElem?_getD,List.getElem?_drop]
theorem Ge {P:Program} (enc:α ->Value) (d:α) (t e:TypeId) (kl:IntKind) {i:TypeInfo} (ht:P.underlying t=some (.slice e)) (hi:P.info? e=some i) (hsz:i.size=1) (A:Option Addr) (n c m:Nat) (hm:m<=n):
    ∃ A':Option Addr,(∀ W:World,(Instr.slice t (.slice A n c) (some (.int kl (m:Int))) none none).run P W= .ok (.slice A' (n - m) (c - m)) W) /\
      ∀ (w:World) (xs:List α),n<=c ->gO enc d w A n xs ->gO enc d w A' (n - m) (xs.drop m):=by
  refine ⟨if c=m then A else A.map (·.add m),fun W=> ?_,fun w xs hc h=>h.Iw m hm hc⟩;have hel:P.elem t=e:=by simp [Program.elem,ht]
  have hu:P.underlying t=some (.slice (P.elem t)):=by rw [hel];exact ht
  rw [run_slice_l W t A n c hu kl (m:Int) (Int.natCast_nonneg _) (by omega),hel]
  simp [sizeOf,typeInfo,hi,hsz,sliced,Result.andThen]
theorem OJ {W:World} {base g n cap:Nat} {e:TypeId} {xs:List α} (h:W.ownsRow base e 1 (.slice (some ⟨g,0,none⟩) n cap) n (uw enc xs)) (i:Int) (h0:0<=i) (h1:i<n):
    W.cell? ⟨g,i.toNat,none⟩=some (enc (Vi d xs i)) /\ W.frozen? ⟨g,i.toNat,none⟩=false:=by
  have hl:xs.length=n:=by have:=h.1;simp [uw] at this;exact this
  constructor
  · have hc:=h.cells (g:=g) rfl i.toNat _ (QD (d:=d) xs i.toNat (by omega))
    rwa [add_plain] at hc
  · rcases h.2 with ⟨h',_⟩|⟨g',cap',cur,h',_,hh,_⟩
    · cases h'
    · have:g=g':=by injection h' with h';injection h' with h';injection h' with h'
      subst this
      simp [World.frozen?,hh]
theorem Gf {W:World} {base g n cap:Nat} {e:TypeId} {xs:List α} (h:W.ownsRow base e 1 (.slice (some ⟨g,0,none⟩) n cap) n (uw enc xs)) (i:Int) (x:α):
    (W.setCell ⟨g,i.toNat,none⟩ (enc x)).ownsRow base e 1 (.slice (some ⟨g,0,none⟩) n cap) n (uw enc (xs.set i.toNat x)) /\ W.grownBy (W.setCell ⟨g,i.toNat,none⟩ (enc x)) (some g):=by
  have hs:=h.stored i.toNat (enc x);have he:(uw enc xs).set i.toNat (enc x)=uw enc (xs.set i.toNat x):=by simp [uw,List.map_set]
  rwa [he] at hs
end
section
end
theorem aM {w:World} {g:Nat} {o:Obj} (h:w.heap[g]?=some o) (o':Obj):(w.alloc o').heap[g]?=some o:=(Below.heap_alloc w o' g (lZ h)).trans h
theorem aJ {w:World} {g:Nat} {o:Obj} (h:w.heap[g]?=some o):w.drew.heap[g]?=some o:=h
theorem aQ {w:World} {g:Nat} {o:Obj} (h:w.heap[g]?=some o) (n:Nat):(w.drewN n).heap[g]?=some o:=h
theorem bq {w w1:World} {g:Nat} {o:Obj} (h:w.heap[g]?=some o) (hb:Below w.heap.size w w1):w1.heap[g]?=some o:=(hb.block g (lZ h)).trans h
theorem Vj (w:World) (o:Obj):(w.alloc o).heap[w.heap.size]?=some o:=heap_alloc_new w o
section
variable {P:Program}
theorem fG {fn:Func} {p u:Tmp} {ty:TypeId} (h:fn.results= #[.cell p ty,.tmp u]) (tmps:Array Value) (w:World) (g:Nat) (t:TypeId) (cs:Array Value) (fr:Nat×Nat) (d:TypeDesc)
    (hp:tmps.getD p undef= .pointer (some ⟨g,0,none⟩)) (hg:w.heap[g]?=some (.cells cs t fr))
    (hu:P.underlying ty=some d) (hd:(match d with| .struct _| .array _ _=>true|_=>false)=true) (hi:(P.info? ty).map (·.size)=some cs.size):
    (results fn tmps).run P w= .ok (.tuple #[.agg cs,tmps.getD u undef]) w:=by
  have hp':tmps[p]?.getD undef= .pointer (some ⟨g,0,none⟩):=by simpa using hp
  simp [results,h,hp',asAddr,run_loadVar_row w g t ty cs fr d hg hu hd hi]
end
theorem Aad {w:World} {base n m c size:Nat} {e:TypeId} {A:Option Addr} {xs:List Value} (h:w.ownsRow base e size (.slice A m c) n xs):m<=c:=by
  rcases h.2 with ⟨he,_⟩|⟨g,cap,cur,he,_,_,hnc,_⟩
  · injection he with _ h2 h3
    omega
  · injection he with _ h2 h3
    omega
def jZ {α:Type} (R:α ->List Value ->Prop) (e:TypeId) (size:Nat) (w:World) (base:Nat) (v:Value) (ps:List α):Prop:=
  ∃ inner,w.ownsRow base e size v ps.length inner /\ cD R size ps inner
section
variable {α:Type} {R R':α ->List Value ->Prop} {e:TypeId} {size:Nat} {w w1:World} {base:Nat} {v:Value} {ps:List α}
theorem jZ.none_ (R:α ->List Value ->Prop) (e:TypeId) (size:Nat) (w:World) (base:Nat):jZ R e size w base (.slice none 0 0) []:=⟨[],Vh _ _ _ _,cD.none _ _⟩
theorem jZ.ua (h:jZ R e size w base v ps) (hR:∀ p c,R p c ->R' p c):jZ R' e size w base v ps:=by
  obtain ⟨inner,ho,hr⟩:=h;exact ⟨inner,ho,hr.ua hR⟩
theorem jZ.below (h:jZ R e size w base v ps) (hb:Below w.heap.size w w1):jZ R e size w1 base v ps:=by
  obtain ⟨inner,ho,hr⟩:=h;exact ⟨inner,Gd ho hb,hr⟩
theorem jZ.other (h:jZ R e size w base v ps) {row:Option Nat} (hg:w.grownBy w1 row) (hne:v.ownBlock=none \/ v.ownBlock≠row):jZ R e size w1 base v ps:=by
  obtain ⟨inner,ho,hr⟩:=h;exact ⟨inner,OG ho hg hne,hr⟩
theorem jZ.keep (h:jZ R e size w base v ps) {g:Nat} {t:TypeId} {cells:Array Value} (hb:w.heap[g]?=some (.cells cells t (0,0))) (ht:e≠t) (hk:jU w w1 g none):jZ R e size w1 base v ps:=by
  obtain ⟨inner,ho,hr⟩:=h;exact ⟨inner,hk.own ho (Ne.symm (QC ho hb ht)) (by cases v.ownBlock<;>simp),hr⟩
theorem jZ.reads (h:jZ R e size w base v ps):∃ A c,v= .slice A ps.length c /\ ps.length<=c /\ j8 R size w A ps.length ps:=by
  obtain ⟨inner,ho,hr⟩:=h;obtain ⟨A,c,rfl,hrow⟩:=EV ho hr rfl;exact ⟨A,c,rfl,Aad ho,hrow⟩
theorem jZ.QE (h:jZ R e size w base v ps) {g:Nat} {t:TypeId} {cells:Array Value} (hb:w.heap[g]?=some (.cells cells t (0,0))) (ht:e≠t):some g≠v.ownBlock:=by
  obtain ⟨inner,ho,hr⟩:=h;exact QC ho hb ht
end
section
variable {P:Program} {ops:Array Oper} {rest:List Oper} {o:Oper} {a:Act} {Q:Exit ->Act ->World ->Prop} {α:Type} {R:α ->List Value ->Prop}
theorem jZ.append {w0 W:World} (base:Nat) (hgd:o.guard=none) (s x:Operand) (t e:TypeId) (z:Value) (size bytes:Nat)
    (ho:o.op= .call {callee:= .builtin .append,args:= #[s,x],argTypes:= #[t,t]})
    (ht:P.underlying t=some (.slice e)) (hinfo:(P.info? e).map (fun i=>(i.zero,i.size,i.bytes))=some (some z,size,bytes)) (hz:z.cells.size=size) (hs0:0<size) (hb0:0<bytes)
    (v:Value) (ps:List α) (p:α) (cs:List Value) (hs:a.eval s=v) (hx:a.eval x= .slice (some ⟨W.heap.size,0,none⟩) 1 1) (hp:R p cs) (hcs:cs.length=size) (h1:∀ u ∈ cs,u.oneCell'=true)
    (HO:jZ R e size W base v ps) (HB:Below base w0 W) (hbase:base<=W.heap.size) (hl:(ps.length+1)*bytes<=140737488355328)
    (h:∀ v1 w1,jZ R e size w1 base v1 (ps++[p]) ->Below base w0 w1 ->W.grownBy w1 v.ownBlock ->(v1.ownBlock=v.ownBlock \/ ∃ b,v1.ownBlock=some b /\ W.heap.size<=b) ->wpList P ops Q rest (a.put o.dst v1) w1):
    wpList P ops Q (o::rest) a (W.alloc (.cells cs.toArray e)):=by
  obtain ⟨inner,hown,hr⟩:=HO;refine rY base hgd s x t e z size bytes ho ht hinfo hz hs0 hb0 v ps.length inner cs hs hx hcs h1 hown HB hbase hl ?_;intro v1 w1 hown1 hb1 hg1 Vk;exact h v1 w1 ⟨inner++cs,by rw [List.length_append,List.length_singleton];exact hown1,hr.snoc hp hcs⟩ hb1 hg1 Vk
end
section
end
theorem j8.QF {α:Type} {R:α ->List Value ->Prop} {size:Nat} {w:World} {ad:Addr} {n:Nat} {ps:List α} (h:j8 R size w (some ad) n ps):
    ∃ inner,cD R size ps inner /\ ∀ j u,inner[j]?=some u ->w.cell? (ad.add j)=some u:=by
  have key:∀ m,m<=ps.length ->∃ inner,cD R size (ps.take m) inner /\ ∀ j u,inner[j]?=some u ->w.cell? (ad.add j)=some u:=by
    intro m
    induction m with
    |zero=>exact fun _=>⟨[],cD.none _ _,fun j u hu=>by simp at hu⟩
    |succ m ih=>
      intro hm;obtain ⟨inner,hr,hc⟩:=ih (by omega);obtain ⟨ad',he,hcell⟩:=h.2.2 (by have:=h.1;omega)
      injection he with he
      subst he;obtain ⟨c,hcl,hp,hcc⟩:=hcell m _ (List.getElem?_eq_getElem (show m<ps.length by omega));refine ⟨inner++c, ?_,fun j u hu=> ?_⟩
      · rw [List.take_succ_eq_append_getElem (show m<ps.length by omega)]
        exact hr.snoc hp hcl
      · have hil:inner.length=m*size:=by rw [hr.1,List.length_take,Nat.min_eq_left (by omega)]
        rcases Nat.lt_or_ge j inner.length with hj|hj
        · rw [List.getElem?_append_left hj] at hu
          exact hc j u hu
        · rw [List.getElem?_append_right hj] at hu
          have:=hcc (j - inner.length) u hu
          rwa [hil,Nat.add_sub_cancel' (by omega)] at this
  obtain ⟨inner,hr,hc⟩:=key ps.length (Nat.le_refl _);rw [List.take_length] at hr
  exact ⟨inner,hr,hc⟩
section
variable {α:Type} {P:Program}
theorem ow (enc:α ->Value) (d:α) (t e:TypeId) (kl:IntKind) {i:TypeInfo} (ht:P.underlying t=some (.slice e)) (hi:P.info? e=some i) (hsz:i.size=1) (A:Option Addr) (c:Nat) (xs:List α) (j:Int) (h0:0<=j) (hm:j<=xs.length) (hc:xs.length<=c):
    (∀ W:World,(Instr.slice t (.slice A xs.length c) none (some (.int kl j)) none).run P W= .ok (.slice A (xs.take j.toNat).length c) W) /\
      (∀ w:World,gO enc d w A xs.length xs ->gO enc d w A (xs.take j.toNat).length (xs.take j.toNat)) /\ (xs.take j.toNat).length<=c:=by
  have hl:(xs.take j.toNat).length=j.toNat:=by rw [List.length_take];omega
  refine ⟨fun W=> ?_,fun w h=>by rw [hl];exact h.gF j.toNat (by omega),by rw [hl];omega⟩;have hel:P.elem t=e:=by simp [Program.elem,ht]
  have hu:P.underlying t=some (.slice (P.elem t)):=by rw [hel];exact ht
  have ha:(A.map fun x=>x.add 0)=A:=by cases A<;>simp [Addr.add]
  rw [run_slice_h W t A xs.length c hu kl j h0 (by omega),hel,hl]
  simp [sizeOf,typeInfo,hi,hsz,sliced,Result.andThen,ha]
theorem fS (enc:α ->Value) (d:α) (t e:TypeId) (kl:IntKind) {i:TypeInfo} (ht:P.underlying t=some (.slice e)) (hi:P.info? e=some i) (hsz:i.size=1) (A:Option Addr) (c:Nat) (xs:List α) (j:Int) (h0:0<=j) (hm:j<=xs.length) (hc:xs.length<=c):
    ∃ A':Option Addr,(∀ W:World,(Instr.slice t (.slice A xs.length c) (some (.int kl j)) none none).run P W= .ok (.slice A' (xs.drop j.toNat).length (c - j.toNat)) W) /\
      (∀ w:World,gO enc d w A xs.length xs ->gO enc d w A' (xs.drop j.toNat).length (xs.drop j.toNat)) /\ (xs.drop j.toNat).length<=c - j.toNat:=by
  obtain ⟨m,rfl⟩:=Int.eq_ofNat_of_zero_le h0;simp only [Int.toNat_natCast];have hmn:m<=xs.length:=by omega
  obtain ⟨A',h1,h2⟩:=Ge (P:=P) enc d t e kl ht hi hsz A xs.length c m hmn;have hl:(xs.drop m).length=xs.length - m:=List.length_drop;exact ⟨A',fun W=>by rw [hl];exact h1 W,fun w h=>by rw [hl];exact h2 w xs hc h,by rw [hl];omega⟩
theorem uN (enc:α ->Value) (d:α) (t e:TypeId) (kl kh:IntKind) {i:TypeInfo} (ht:P.underlying t=some (.slice e)) (hi:P.info? e=some i) (hsz:i.size=1) (A:Option Addr) (c:Nat) (xs:List α) (a b:Int) (h0:0<=a) (h1:a<=b) (hm:b<=xs.length) (hc:xs.length<=c):
    ∃ A':Option Addr,(∀ W:World,(Instr.slice t (.slice A xs.length c) (some (.int kl a)) (some (.int kh b)) none).run P W= .ok (.slice A' ((xs.take b.toNat).drop a.toNat).length (c - a.toNat)) W) /\
      (∀ w:World,gO enc d w A xs.length xs ->gO enc d w A' ((xs.take b.toNat).drop a.toNat).length ((xs.take b.toNat).drop a.toNat)) /\ ((xs.take b.toNat).drop a.toNat).length<=c - a.toNat:=by
  have hlt:(xs.take b.toNat).length=b.toNat:=by rw [List.length_take];omega
  have hl:((xs.take b.toNat).drop a.toNat).length=b.toNat - a.toNat:=by rw [List.length_drop,hlt]
  refine ⟨if c=a.toNat then A else A.map (·.add a.toNat),fun W=> ?_,fun w h=> ?_,by rw [hl];omega⟩
  · have hel:P.elem t=e:=by simp [Program.elem,ht]
    have hu:P.underlying t=some (.slice (P.elem t)):=by rw [hel];exact ht
    rw [run_slice_lh W t A xs.length c hu kl kh a b h0 h1 (by omega),hel,hl]
    simp [sizeOf,typeInfo,hi,hsz,sliced,Result.andThen]
  · have h2:=(h.gF b.toNat (by omega)).Iw (c:=c) a.toNat (by omega) (by omega)
    rw [hl];exact h2
end
section
end
structure Kd (α:Type) where
  sz:Nat
  E:List Nat
  K:World ->α ->List Value ->Prop
  M:World ->Nat ->(Nat ->Prop) ->α ->List Value ->Prop
  rG:∀ {w x cs},K w x cs ->cs.length=sz
  qg:∀ {w x cs},K w x cs ->∀ u ∈ cs,u.oneCell'=true
  nQ:∀ {w w1:World} {x cs},Below w.heap.size w w1 ->K w x cs ->K w1 x cs
  kS:∀ {w base ok x cs},M w base ok x cs ->K w x cs
  jM:∀ {w base ok ok' x cs},(∀ k,ok k ->ok' k) ->M w base ok x cs ->M w base ok' x cs
  jG:∀ {w:World} {base ok x cs},M w base ok x cs ->M w base (fun k=>ok k /\ base<=k /\ k<w.heap.size /\ ∃ q,q ∈ E /\ ∃ cells,w.heap[k]?=some (.cells cells q (0,0))) x cs
  nc:∀ {w w1:World} {base ok x cs},(∀ k,ok k ->w1.heap[k]?=w.heap[k]?) ->M w base ok x cs ->M w1 base ok x cs
  nR:∀ {w base base' ok x cs},base'<=base ->M w base ok x cs ->M w base' ok x cs
theorem Iy {w w1:World} {base:Nat} {e:TypeId} {size n:Nat} {v:Value} {xs:List Value} (h:w.ownsRow base e size v n xs) (hm:∀ k,v.ownBlock=some k ->w1.heap[k]?=w.heap[k]?):w1.ownsRow base e size v n xs:=by
  obtain ⟨h1,h2⟩:=h;refine ⟨h1, ?_⟩
  rcases h2 with h2|⟨g,cap,cur,rfl,hg,hh,r⟩
  · exact .inl h2
  · exact .inr ⟨g,cap,cur,rfl,hg,(hm g (by simp [Value.ownBlock])).trans hh,r⟩
theorem AK {w:World} {base:Nat} {e:TypeId} {size n:Nat} {v:Value} {xs:List Value} (h:w.ownsRow base e size v n xs) (k:Nat) (hk:v.ownBlock=some k):∃ cells,w.heap[k]?=some (.cells cells e (0,0)):=by
  rcases h.2 with ⟨rfl,_⟩|⟨g,cap,cur,rfl,hg,hh,r⟩
  · simp [Value.ownBlock] at hk
  · have:g=k:=by simpa [Value.ownBlock] using hk
    subst this;exact ⟨cur,hh⟩
namespace Kd
def C {α:Type} (d:Kd α) (w:World) (A:Option Addr) (n:Nat) (xs:List α):Prop:=j8 (d.K w) d.sz w A n xs
def R {α:Type} (d:Kd α) (e:Nat) (w:World) (base:Nat) (ok:Nat ->Prop) (v:Value) (xs:List α):Prop:=
  (∀ k,v.ownBlock=some k ->ok k) /\ jZ (d.M w base (fun k=>ok k /\ some k≠v.ownBlock)) e d.sz w base v xs
section
variable {α:Type} {d:Kd α} {e:Nat} {w w1:World} {base:Nat} {ok ok':Nat ->Prop} {v:Value} {xs:List α}
theorem aW {A:Option Addr} {n:Nat} (h:d.C w A n xs) (hb:Below w.heap.size w w1):d.C w1 A n xs:=j8.ua h hb (fun _ _ hp=>d.nQ hb hp)
theorem bX (d:Kd α) (e:Nat) (w:World) (base:Nat) (ok:Nat ->Prop):d.R e w base ok (.slice none 0 0) []:=⟨fun k hk=>by simp [Value.ownBlock] at hk,jZ.none_ _ _ _ _ _⟩
theorem dA (h:d.R e w base ok v xs) (hok:∀ k,ok k ->ok' k):d.R e w base ok' v xs:=⟨fun k hk=>hok k (h.1 k hk),h.2.ua (fun _ _ hp=>d.jM (fun k hk=>⟨hok k hk.1,hk.2⟩) hp)⟩
theorem qC (h:d.R e w base ok v xs):d.R e w base (fun k=>ok k /\ base<=k /\ k<w.heap.size /\ ∃ q,q ∈ e::d.E /\ ∃ cells,w.heap[k]?=some (.cells cells q (0,0))) v xs:=by
  obtain ⟨h0,inner,ho,hr⟩:=h;refine ⟨fun k hk=> ?_,inner,ho,hr.ua (fun _ _ hp=>d.jM (fun k hk=> ?_) (d.jG hp))⟩
  · obtain ⟨cells,hc⟩:=AK ho k hk
    exact ⟨h0 k hk,wL ho k hk,Le ho k hk,e,List.mem_cons_self,cells,hc⟩
  · obtain ⟨⟨h1,h2⟩,h3,h4,q,hq,hc⟩:=hk
    exact ⟨⟨h1,h3,h4,q,List.mem_cons_of_mem _ hq,hc⟩,h2⟩
theorem C9 (h:d.R e w base ok v xs) (hm:∀ k,ok k ->w1.heap[k]?=w.heap[k]?):d.R e w1 base ok v xs:=by
  obtain ⟨h0,inner,ho,hr⟩:=h;exact ⟨h0,inner,Iy ho (fun k hk=>hm k (h0 k hk)),hr.ua (fun _ _ hp=>d.nc (fun k hk=>hm k hk.1) hp)⟩
theorem bP {base':Nat} (h:d.R e w base ok v xs) (hb:base'<=base):d.R e w base' ok v xs:=by
  obtain ⟨h0,inner,ho,hr⟩:=h;exact ⟨h0,inner,Lf ho hb,hr.ua (fun _ _ hp=>d.nR hb hp)⟩
theorem wM (h:d.R e w base ok v xs) (hm:∀ k,ok k ->k<w.heap.size ->w1.heap[k]?=w.heap[k]?):d.R e w1 base ok v xs:=
  dA (C9 (qC h) (fun k hk=>hm k hk.1 hk.2.2.1)) (fun _ hk=>hk.1)
theorem QG {x:α} {cs:List Value} (h:d.M w base ok x cs) (hm:∀ k,ok k ->k<w.heap.size ->w1.heap[k]?=w.heap[k]?):d.M w1 base ok x cs:=
  d.jM (fun _ hk=>hk.1) (d.nc (fun k hk=>hm k hk.1 hk.2.2.1) (d.jG h))
theorem fX (h:d.R e w base ok v xs) (hb:Below w.heap.size w w1):d.R e w1 base ok v xs:=wM h (fun k _ hk=>hb.block k hk)
theorem MV {x:α} {cs:List Value} (h:d.M w base ok x cs) (hb:Below w.heap.size w w1):d.M w1 base ok x cs:=QG h (fun k _ hk=>hb.block k hk)
theorem eH (h:d.R e w base ok v xs) {p:Addr} (hok:∀ k,ok k ->k≠p.block) (u:Value):d.R e (w.setCell p u) base ok v xs:=wM h (fun k ho _=>Below.heap_setCell w p u k (hok k ho))
theorem mE (h:d.R e w base ok v xs) {g t:Nat} {cells:Array Value} (hb:w.heap[g]?=some (.cells cells t (0,0))) (ht:∀ q,q ∈ e::d.E ->q≠t):d.R e w base (fun k=>ok k /\ k≠g) v xs:=
  dA (qC h) (fun k hk=>⟨hk.1,by
    obtain ⟨_,_,_,q,hq,cells',hc⟩:=hk;rintro rfl;rw [hc] at hb
    injection hb with hb
    injection hb with _ hb
    exact ht q hq hb⟩)
theorem oo (h:d.R e w base ok v xs) {g t:Nat} {cells:Array Value} (hb:w.heap[g]?=some (.cells cells t (0,0))) (ht:∀ q,q ∈ e::d.E ->q≠t) (j:Nat) (u:Value):d.R e (w.setCell ⟨g,j,none⟩ u) base ok v xs:=
  dA (eH (p:=⟨g,j,none⟩) (mE h hb ht) (fun _ hk=>hk.2) u) (fun _ hk=>hk.1)
theorem cj (h:d.R e w base ok v xs):∃ A c,v= .slice A xs.length c /\ xs.length<=c /\ d.C w A xs.length xs:=by
  obtain ⟨A,c,he,hl,hr⟩:=jZ.reads h.2;exact ⟨A,c,he,hl,hr.ua (Below.refl _ _) (fun _ _ hp=>d.kS hp)⟩
theorem dn (h:d.R e w base ok v xs):∃ A c,v= .slice A xs.length c:=by
  obtain ⟨A,c,he,_⟩:=cj h;exact ⟨A,c,he⟩
theorem Iz (h:d.R e w base ok v xs):∃ inner,w.ownsRow base e d.sz v xs.length inner:=by
  obtain ⟨_,inner,ho,_⟩:=h;exact ⟨inner,ho⟩
theorem nk (h:d.R e w base ok v xs) {g t:Nat} {cells:Array Value} (hb:w.heap[g]?=some (.cells cells t (0,0))) (ht:e≠t):some g≠v.ownBlock:=jZ.QE h.2 hb ht
end
def scalar {α:Type} (enc:α ->Value) (h1:∀ x,(enc x).oneCell'=true):Kd α where
  sz:=1
  E:=[]
  K:=fun _ x cs=>cs=[enc x]
  M:=fun _ _ _ x cs=>cs=[enc x]
  rG:=fun h=>by rw [h];rfl
  qg:=fun h u hu=>by
    rw [h] at hu
    rw [List.mem_singleton.1 hu];exact h1 _
  nQ:=fun _ h=>h
  kS:=fun h=>h
  jM:=fun _ h=>h
  jG:=fun h=>h
  nc:=fun _ h=>h
  nR:=fun _ h=>h
def int (k:IntKind):Kd Int:=scalar (Value.int k) (fun _=>rfl)
def bool:Kd Bool:=scalar Value.bool (fun _=>rfl)
def string:Kd ByteArray:=scalar Value.string (fun _=>rfl)
def slice {α:Type} (e:Nat) (d:Kd α):Kd (List α) where
  sz:=1
  E:=e::d.E
  K:=fun w xs cs=>∃ A c,cs=[.slice A xs.length c] /\ xs.length<=c /\ d.C w A xs.length xs
  M:=fun w base ok xs cs=>∃ v,cs=[v] /\ d.R e w base ok v xs
  rG:=by
    rintro w x cs ⟨A,c,rfl,_⟩
    rfl
  qg:=by
    rintro w x cs ⟨A,c,rfl,_⟩ u hu;rw [List.mem_singleton.1 hu]
    rfl
  nQ:=by
    rintro w w1 x cs hb ⟨A,c,rfl,hl,hr⟩;exact ⟨A,c,rfl,hl,aW hr hb⟩
  kS:=by
    rintro w base ok x cs ⟨v,rfl,h⟩;obtain ⟨A,c,rfl,hl,hr⟩:=cj h;exact ⟨A,c,rfl,hl,hr⟩
  jM:=by
    rintro w base ok ok' x cs hok ⟨v,rfl,h⟩;exact ⟨v,rfl,dA h hok⟩
  jG:=by
    rintro w base ok x cs ⟨v,rfl,h⟩;exact ⟨v,rfl,qC h⟩
  nc:=by
    rintro w w1 base ok x cs hm ⟨v,rfl,h⟩;exact ⟨v,rfl,C9 h hm⟩
  nR:=by
    rintro w base base' ok x cs hb ⟨v,rfl,h⟩;exact ⟨v,rfl,bP h hb⟩
def pair {α β:Type} (a:Kd α) (b:Kd β):Kd (α×β) where
  sz:=a.sz+b.sz
  E:=a.E++b.E
  K:=fun w x cs=>∃ c0 c1,cs=c0++c1 /\ a.K w x.1 c0 /\ b.K w x.2 c1
  M:=fun w base ok x cs=>∃ c0 c1,cs=c0++c1 /\ a.M w base ok x.1 c0 /\ b.M w base ok x.2 c1
  rG:=by
    rintro w x cs ⟨c0,c1,rfl,h0,h1⟩;rw [List.length_append,a.rG h0,b.rG h1]
  qg:=by
    rintro w x cs ⟨c0,c1,rfl,h0,h1⟩ u hu
    rcases List.mem_append.1 hu with hu|hu
    · exact a.qg h0 u hu
    · exact b.qg h1 u hu
  nQ:=by
    rintro w w1 x cs hb ⟨c0,c1,rfl,h0,h1⟩;exact ⟨c0,c1,rfl,a.nQ hb h0,b.nQ hb h1⟩
  kS:=by
    rintro w base ok x cs ⟨c0,c1,rfl,h0,h1⟩;exact ⟨c0,c1,rfl,a.kS h0,b.kS h1⟩
  jM:=by
    rintro w base ok ok' x cs hok ⟨c0,c1,rfl,h0,h1⟩;exact ⟨c0,c1,rfl,a.jM hok h0,b.jM hok h1⟩
  jG:=by
    rintro w base ok x cs ⟨c0,c1,rfl,h0,h1⟩;refine ⟨c0,c1,rfl,a.jM ?_ (a.jG h0),b.jM ?_ (b.jG h1)⟩
    · rintro k ⟨h2,h3,h4,q,hq,hc⟩
      exact ⟨h2,h3,h4,q,List.mem_append_left _ hq,hc⟩
    · rintro k ⟨h2,h3,h4,q,hq,hc⟩
      exact ⟨h2,h3,h4,q,List.mem_append_right _ hq,hc⟩
  nc:=by
    rintro w w1 base ok x cs hm ⟨c0,c1,rfl,h0,h1⟩;exact ⟨c0,c1,rfl,a.nc hm h0,b.nc hm h1⟩
  nR:=by
    rintro w base base' ok x cs hb ⟨c0,c1,rfl,h0,h1⟩;exact ⟨c0,c1,rfl,a.nR hb h0,b.nR hb h1⟩
def iso {α β:Type} (d:Kd α) (f:β ->α):Kd β where
  sz:=d.sz
  E:=d.E
  K:=fun w x cs=>d.K w (f x) cs
  M:=fun w base ok x cs=>d.M w base ok (f x) cs
  rG:=d.rG
  qg:=d.qg
  nQ:=d.nQ
  kS:=d.kS
  jM:=d.jM
  jG:=d.jG
  nc:=d.nc
  nR:=d.nR
theorem Aex {α:Type} {d:Kd α} {w:World} {A:Option Addr} {n:Nat} {xs:List α} (h:d.C w A n xs) (z:α) (i:Int) (h0:0<=i) (h1:i<n):
    ∃ ad c,A=some ad /\ c.length=d.sz /\ d.K w (xs.getD i.toNat z) c /\ ∀ j u,c[j]?=some u ->w.cell? (ad.add (i.toNat*d.sz+j))=some u:=j8.Am1 h z i h0 h1
theorem Lg {α:Type} {d:Kd α} {e base:Nat} {ok qW:Nat ->Prop} {W w1:World} {v v1:Value} {xs:List α} {p:α} {inner cs:List Value} (h0:∀ k,v.ownBlock=some k ->ok k) (hr:cD (d.M W base (fun k=>ok k /\ some k≠v.ownBlock)) d.sz xs inner) (hp:d.M W base qW p cs) (Lh:∀ k,qW k ->ok k /\ some k≠v.ownBlock) (mF:∀ k,W.heap.size<=k ->ok k)
    (hown:w1.ownsRow base e d.sz v1 (xs.length+1) (inner++cs)) (hg:W.grownBy w1 v.ownBlock) (hat:v1.ownBlock=v.ownBlock \/ ∃ b,v1.ownBlock=some b /\ W.heap.size<=b):d.R e w1 base ok v1 (xs++[p]):=by
  have hne:∀ k,some k≠v.ownBlock ->k<W.heap.size ->some k≠v1.ownBlock:=by
    intro k hk hlt
    rcases hat with hat|⟨b,hb,hle⟩
    · rw [hat];exact hk
    · rw [hb]
      intro he
      injection he with he
      omega
  have step:∀ {q:α} {c:List Value} {o:Nat ->Prop},d.M W base o q c ->(∀ k,o k ->ok k /\ some k≠v.ownBlock) ->d.M w1 base (fun k=>ok k /\ some k≠v1.ownBlock) q c:=by
    intro q c o hq ho;have h1:=d.nc (w1:=w1) (fun k hk=>hg.block k hk.2.2.1 (ho k hk.1).2) (d.jG hq);exact d.jM (fun k hk=>⟨(ho k hk.1).1,hne k (ho k hk.1).2 hk.2.2.1⟩) h1
  refine ⟨fun k hk=> ?_,inner++cs,by rw [List.length_append,List.length_singleton];exact hown, ?_⟩
  · rcases hat with hat|⟨b,hb,hle⟩
    · exact h0 k (hat ▸ hk)
    · rw [hb] at hk
      injection hk with hk
      exact mF k (by omega)
  · exact (hr.ua (fun _ _ hq=>step hq (fun _ hk=>hk))).snoc (step hp Lh) (d.rG (d.kS hp))
section
variable {P:Program} {ops:Array Oper} {rest:List Oper} {o:Oper} {a:Act} {Q:Exit ->Act ->World ->Prop} {α:Type}
theorem zF (d:Kd α) {w0 W:World} (base:Nat) (hgd:o.guard=none) (s x:Operand) (t e:TypeId) (z:Value) (bytes:Nat)
    (ho:o.op= .call {callee:= .builtin .append,args:= #[s,x],argTypes:= #[t,t]})
    (ht:P.underlying t=some (.slice e)) (hinfo:(P.info? e).map (fun i=>(i.zero,i.size,i.bytes))=some (some z,d.sz,bytes)) (hz:z.cells.size=d.sz) (hs0:0<d.sz) (hb0:0<bytes)
    (v:Value) (xs:List α) (p:α) (cs:List Value) (ok qW:Nat ->Prop) (hs:a.eval s=v) (hx:a.eval x= .slice (some ⟨W.heap.size,0,none⟩) 1 1) (hp:d.M W base qW p cs) (Lh:∀ k,qW k ->ok k /\ some k≠v.ownBlock) (mF:∀ k,W.heap.size<=k ->ok k)
    (HO:d.R e W base ok v xs) (HB:Below base w0 W) (hbase:base<=W.heap.size) (hl:(xs.length+1)*bytes<=140737488355328)
    (h:∀ v1 w1,d.R e w1 base ok v1 (xs++[p]) ->Below base w0 w1 ->W.grownBy w1 v.ownBlock ->(v1.ownBlock=v.ownBlock \/ ∃ b,v1.ownBlock=some b /\ W.heap.size<=b) ->wpList P ops Q rest (a.put o.dst v1) w1):
    wpList P ops Q (o::rest) a (W.alloc (.cells cs.toArray e)):=by
  obtain ⟨h0,inner,hown,hr⟩:=HO;refine rY base hgd s x t e z d.sz bytes ho ht hinfo hz hs0 hb0 v xs.length inner cs hs hx (d.rG (d.kS hp)) (d.qg (d.kS hp)) hown HB hbase hl ?_;intro v1 w1 hown1 hb1 hg1 Vk;exact h v1 w1 (Lg h0 hr hp Lh mF hown1 hg1 Vk) hb1 hg1 Vk
end
section
end
theorem Bv {α:Type} {enc:α ->Value} (xs:List α):cD (fun (x:α) (cs:List Value)=>cs=[enc x]) 1 xs (uw enc xs):=by
  refine ⟨by simp [uw],fun j p hj=> ?_⟩;obtain ⟨hl,hp⟩:=List.getElem?_eq_some_iff.1 hj;have hl':j<(uw enc xs).length:=by rw [Bu];exact hl
  rw [Nat.mul_one,List.drop_eq_getElem_cons hl']
  simp [uw,hp]
theorem Da {α:Type} {enc:α ->Value} {h1:∀ x,(enc x).oneCell'=true} {e:Nat} {w:World} {base:Nat} {ok:Nat ->Prop} {v:Value} {xs:List α} (ho:w.ownsRow base e 1 v xs.length (uw enc xs)) (hok:∀ k,v.ownBlock=some k ->ok k):(scalar enc h1).R e w base ok v xs:=⟨hok,uw enc xs,ho,Bv xs⟩
theorem Db {α:Type} {enc:α ->Value} {h1:∀ x,(enc x).oneCell'=true} {e:Nat} {w:World} {base:Nat} {ok:Nat ->Prop} {v:Value} {xs:List α} (h:(scalar enc h1).R e w base ok v xs):w.ownsRow base e 1 v xs.length (uw enc xs):=by
  obtain ⟨_,inner,ho,hr⟩:=h
  have:inner=uw enc xs:=by
    apply List.ext_getElem?
    intro j
    rcases Nat.lt_or_ge j xs.length with hj|hj
    · have h2:=hr.2 j _ (List.getElem?_eq_getElem hj)
      have hl:j<inner.length:=by have:=hr.1;simp [scalar] at this;omega
      have h3:(inner.drop (j*1)).take 1=[enc xs[j]]:=h2;rw [Nat.mul_one,List.drop_eq_getElem_cons hl] at h3
      have h4:inner[j]=enc xs[j]:=by
        have h5:=congrArg List.head? h3;rw [List.take_succ_cons] at h5
        exact cN h5
      rw [List.getElem?_eq_getElem hl,h4]
      simp [uw,List.getElem?_eq_getElem hj]
    · have h3:inner.length=xs.length:=by have:=hr.1;simp [scalar] at this;omega
      rw [List.getElem?_eq_none (by omega),List.getElem?_eq_none (by rw [Bu];omega)]
  rw [<- this];exact ho
theorem dH {α:Type} {enc:α ->Value} {d:α} {h1:∀ x,(enc x).oneCell'=true} {w:World} {A:Option Addr} {n:Nat} {xs:List α} (h:gO enc d w A n xs):(scalar enc h1).C w A n xs:=by
  refine ⟨h.1,h.2.1,fun hn=> ?_⟩;obtain ⟨ad,e,hc⟩:=h.2.2 hn;refine ⟨ad,e,fun j p hj=>⟨[enc p],rfl,rfl,fun i u hu=> ?_⟩⟩;obtain ⟨hl,hp⟩:=List.getElem?_eq_some_iff.1 hj;have h2:=hc j (by have:=h.1;omega);rw [List.getD_eq_getElem?_getD,hj] at h2
  cases i with
  |zero=>
    have:enc p=u:=by simpa using hu
    subst this
    simpa [scalar] using h2
  |succ i=>simp at hu
theorem dw {α:Type} {enc:α ->Value} {d:α} {h1:∀ x,(enc x).oneCell'=true} {w:World} {A:Option Addr} {n:Nat} {xs:List α} (h:(scalar enc h1).C w A n xs):gO enc d w A n xs:=by
  refine ⟨h.1,h.2.1,fun hn=> ?_⟩;obtain ⟨ad,e,hc⟩:=h.2.2 hn;refine ⟨ad,e,fun j hj=> ?_⟩;have hl:j<xs.length:=by have:=h.1;omega
  obtain ⟨c,_,hK,hcell⟩:=hc j _ (List.getElem?_eq_getElem hl);have hK':c=[enc xs[j]]:=hK;subst hK';have:=hcell 0 _ rfl
  simpa [scalar,List.getD_eq_getElem?_getD,List.getElem?_eq_getElem hl] using this
end Kd
namespace Kd
section
end
end Kd
namespace Kd
theorem nS {α:Type} {d:Kd α} {e base:Nat} {ok:Nat ->Prop} {W w1:World} {u v v1:Value} {xs:List α} (h:d.R e W base (fun k=>ok k /\ some k≠v.ownBlock) u xs) (hg:W.grownBy w1 v.ownBlock) (hat:v1.ownBlock=v.ownBlock \/ ∃ b,v1.ownBlock=some b /\ W.heap.size<=b):d.R e w1 base (fun k=>ok k /\ some k≠v1.ownBlock) u xs:=by
  refine dA (C9 (qC h) (fun k hk=>hg.block k hk.2.2.1 hk.1.2)) (fun k hk=>⟨hk.1.1, ?_⟩)
  rcases hat with hat|⟨b,hb,hle⟩
  · rw [hat];exact hk.1.2
  · rw [hb]
    intro he
    injection he with he
    have:=hk.2.2.1
    omega
end Kd
namespace Kd
section
variable {α β:Type} {d:Kd α} {d':Kd β} {e e':Nat} {w w1 W:World} {base b b':Nat} {ok ok' okv oku:Nat ->Prop} {v u:Value} {xs:List α} {ys:List β}
theorem fg (h:d.R e w base ok v xs) (o:Obj):d.R e (w.alloc o) base ok v xs:=fX h (dV (Below.refl _ _) o)
theorem fj (h:d.R e w base ok v xs):d.R e w.drew base ok v xs:=fX h (rX (Below.refl _ _))
theorem eV (h:d.R e w base ok v xs) (m:Nat):d.R e (w.drewN m) base ok v xs:=fX h (dS (Below.refl _ _) m)
theorem fH {A:Option Addr} {n:Nat} (h:d.C w A n xs) (o:Obj):d.C (w.alloc o) A n xs:=aW h (dV (Below.refl _ _) o)
theorem gQ {A:Option Addr} {n:Nat} (h:d.C w A n xs):d.C w.drew A n xs:=aW h (rX (Below.refl _ _))
theorem fz {A:Option Addr} {n:Nat} (h:d.C w A n xs) (m:Nat):d.C (w.drewN m) A n xs:=aW h (dS (Below.refl _ _) m)
theorem Dc (d:Kd α) (w:World):d.C w none ([]:List α).length []:=⟨rfl,by simp,fun h=>absurd h (Nat.lt_irrefl 0)⟩
theorem ay {A:Option Addr} {n c:Nat} (h:d.R e w base ok (.slice A n c) xs):n=xs.length /\ n<=c /\ d.C w A xs.length xs:=by
  obtain ⟨A',c',he,hl,hr⟩:=cj h
  injection he with h1 h2 h3
  subst h1;exact ⟨h2,by omega,hr⟩
theorem ox (h:d.R e w base ok v xs):∀ k,v.ownBlock=some k ->k<w.heap.size:=by
  obtain ⟨inner,ho⟩:=Iz h;exact Le ho
theorem j3 (h:d.R e w base ok v xs):∀ k,v.ownBlock=some k ->base<=k:=by
  obtain ⟨inner,ho⟩:=Iz h;exact wL ho
theorem ue (h:d.R e w base ok v xs) (hp:0<xs.length):∃ g cap,v= .slice (some ⟨g,0,none⟩) xs.length cap /\ base<=g /\ g<w.heap.size /\ ∃ cells,w.heap[g]?=some (.cells cells e (0,0)):=by
  obtain ⟨inner,ho⟩:=Iz h;obtain ⟨g,cap,he,hb,hl⟩:=ho.form hp;obtain ⟨cells,hc⟩:=AK ho g (by rw [he];simp [Value.ownBlock]);exact ⟨g,cap,he,hb,hl,cells,hc⟩
end
section
variable {w W:World} {A:Option Addr} {n:Nat}
theorem dG {k:IntKind} {xs:List Int} (h:(Kd.int k).C w A n xs) (i:Int) (h0:0<=i) (h1:i<n):∃ ad,A=some ad /\ w.cell? (ad.add i.toNat)=some (.int k (rd xs i)):=
  gO.at_ (dw (enc:=Value.int k) (d:=(0:Int)) (h1:=fun _=>rfl) h) i h0 h1
variable {α:Type} {enc:α ->Value} {h1:∀ x,(enc x).oneCell'=true} {e base g cap:Nat} {ok:Nat ->Prop} {xs:List α}
theorem QH (d:α) (h:(scalar enc h1).R e W base ok (.slice (some ⟨g,0,none⟩) xs.length cap) xs) (i:Int) (h0:0<=i) (hi:i<xs.length):W.cell? ⟨g,i.toNat,none⟩=some (enc (Vi d xs i)) /\ W.frozen? ⟨g,i.toNat,none⟩=false:=OJ (Db h) i h0 hi
theorem XP (h:(scalar enc h1).R e W base ok (.slice (some ⟨g,0,none⟩) xs.length cap) xs) (i:Int) (x:α):(scalar enc h1).R e (W.setCell ⟨g,i.toNat,none⟩ (enc x)) base ok (.slice (some ⟨g,0,none⟩) xs.length cap) (xs.set i.toNat x) /\ W.grownBy (W.setCell ⟨g,i.toNat,none⟩ (enc x)) (some g):=by
  obtain ⟨ho,hg⟩:=Gf (Db h) i x;exact ⟨Da (by rw [List.length_set];exact ho) h.1,hg⟩
end
section
variable {P:Program} {ops:Array Oper} {rest:List Oper} {o:Oper} {a:Act} {Q:Exit ->Act ->World ->Prop}
theorem bU {W w1:World} {v:Value} (hgd:o.guard=none) (hrun:(execOp a.eval o).run P W= .ok (.value v) w1) (h:wpList P ops Q rest (a.put o.dst v) w1):wpList P ops Q (o::rest) a W:=by
  refine wpList_plain hgd fun K hK=> ?_
  unfold Oper.wp;rw [hrun];exact hK _ _ h
variable {α:Type}
theorem qh (d:Kd α) {w0 W:World} (base e:Nat) (hgd:o.guard=none) {N:Tmp} (_hd:o.dst=some N) {xs:List α} {inner:List Value} {ok qW:Nat ->Prop}
    (hrun:(execOp a.eval o).run P W= .ok (.value (.slice (some ⟨W.heap.size,0,none⟩) xs.length xs.length)) (W.alloc (.cells inner.toArray e)))
    (IA:cD (d.M W base qW) d.sz xs inner) (hok:∀ k,qW k ->ok k) (mF:ok W.heap.size) (HB:Below base w0 W) (hbase:base<=W.heap.size) (hm:xs.length<=9223372036854775807)
    (h:∀ v1 w1,d.R e w1 base ok v1 xs ->Below base w0 w1 ->W.grownBy w1 none ->(∃ b,v1.ownBlock=some b /\ W.heap.size<=b) ->wpList P ops Q rest (a.put o.dst v1) w1):wpList P ops Q (o::rest) a W:=by
  refine bU hgd hrun (h _ _ ⟨fun k hk=> ?_,inner, ?_, ?_⟩ (HB.alloc hbase _) (World.grownBy_alloc W _ none) ⟨W.heap.size,by simp [Value.ownBlock],Nat.le_refl _⟩)
  · have:W.heap.size=k:=by simpa [Value.ownBlock] using hk
    subst this;exact mF
  · have h2:=World.ownsRow_lit (base:=base) (e:=e) (size:=d.sz) W inner.toArray xs.length hbase (by simpa [maxLen] using hm) (by simpa using IA.1)
    simpa using h2
  · refine IA.ua (fun p c hp=>d.jM (fun k hk=>⟨hok k hk.1,fun he=> ?_⟩) (MV (d.jG hp) (dV (Below.refl _ _) _)))
    have h3:k=W.heap.size:=by simpa [Value.ownBlock] using he
    have:=hk.2.2.1
    omega
theorem OK {α:Type} {R:α ->List Value ->Prop} {z:Value} {size:Nat} {z0:α} (hz:z.cells.size=size) (hs:0<size) (h0:R z0 z.cells.toList) (m:Nat):cD R size (List.replicate m z0) (madeCells z.cells (m*size)).toList:=by
  refine ⟨by simp [size_madeCells],fun j p hj=> ?_⟩;obtain ⟨hjl,hp⟩:=List.getElem?_eq_some_iff.1 hj;have hjm:j<m:=by simpa using hjl
  have hp':z0=p:=by simpa using hp
  subst hp';have hle:j*size+size<=m*size:=by rw [<- Nat.succ_mul];exact Nat.mul_le_mul_right _ hjm
  have:((madeCells z.cells (m*size)).toList.drop (j*size)).take size=z.cells.toList:=by
    apply List.ext_getElem
    · simp [size_madeCells,hz]
      omega
    · intro i h1 h2
      have hi:i<size:=by rw [Array.length_toList,hz] at h2;exact h2
      have hmod:(j*size+i) % size=i:=by
        rw [Nat.mul_comm,Nat.mul_add_mod];exact Nat.mod_eq_of_lt hi
      simp [madeCells,hz,hmod]
      rw [getElem!_pos z.cells i (by omega)]
  rw [this];exact h0
end
end Kd
theorem QI {w:World} {base n m c size:Nat} {e:TypeId} {A:Option Addr} {xs:List Value} (h:w.ownsRow base e size (.slice A n c) n xs) (hm:m<=n):w.ownsRow base e size (.slice A m c) m (xs.take (m*size)):=by
  obtain ⟨h1,h2⟩:=h;refine ⟨by rw [List.length_take,h1];exact Nat.min_eq_left (Nat.mul_le_mul_right _ hm), ?_⟩
  rcases h2 with ⟨he,h0⟩|⟨g,cap,cur,he,hb,hh,hnc,hcm,hcs,ht⟩
  · injection he with ha _ hc
    subst ha;subst hc;exact .inl ⟨by rw [show m=0 by omega],by omega⟩
  · injection he with ha _ hc
    subst ha;subst hc;refine .inr ⟨g,c,cur,rfl,hb,hh,by omega,hcm,hcs, ?_⟩;rw [<- ht,List.take_take,Nat.min_eq_left (Nat.mul_le_mul_right _ hm)]
section
variable {P:Program}
theorem Li (t e:TypeId) (kh:IntKind) {i:TypeInfo} (ht:P.underlying t=some (.slice e)) (hi:P.info? e=some i) (A:Option Addr) (n c:Nat) (j:Int) (h0:0<=j) (hm:j<=n) (hc:n<=c):
    ∀ W:World,(Instr.slice t (.slice A n c) none (some (.int kh j)) none).run P W= .ok (.slice A j.toNat c) W:=by
  intro W;have hel:P.elem t=e:=by simp [Program.elem,ht]
  have hu:P.underlying t=some (.slice (P.elem t)):=by rw [hel];exact ht
  have ha:(A.map fun x=>x.add 0)=A:=by cases A<;>simp [Addr.add]
  rw [run_slice_h W t A n c hu kh j h0 (by omega),hel]
  simp [sizeOf,typeInfo,hi,sliced,Result.andThen,ha]
theorem QJ (t e:TypeId) (kl:IntKind) {i:TypeInfo} (ht:P.underlying t=some (.slice e)) (hi:P.info? e=some i) (size:Nat) (hsz:i.size=size) (A:Option Addr) (n c:Nat) (j:Int) (h0:0<=j) (hm:j<=n):
    ∀ W:World,(Instr.slice t (.slice A n c) (some (.int kl j)) none none).run P W= .ok (.slice (if c=j.toNat then A else A.map (·.add (j.toNat*size))) (n - j.toNat) (c - j.toNat)) W:=by
  intro W;have hel:P.elem t=e:=by simp [Program.elem,ht]
  have hu:P.underlying t=some (.slice (P.elem t)):=by rw [hel];exact ht
  rw [run_slice_l W t A n c hu kl j h0 hm,hel]
  simp [sizeOf,typeInfo,hi,hsz,sliced,Result.andThen]
end
def Aey (w:World) (base:Nat) (e:TypeId) (size:Nat) (v:Value) (n:Nat) (xs:List Value):Prop:=
  xs.length=n*size /\
  ((n=0 /\ ∃ A,v= .slice A 0 0 /\ ∀ a,A=some a ->base<=a.block /\ ∃ cur,w.heap[a.block]?=some (.cells cur e (0,0))) \/
   ∃ g off cap cur,v= .slice (some ⟨g,off*size,none⟩) n cap /\ base<=g /\ w.heap[g]?=some (.cells cur e (0,0)) /\ n<=cap /\ off+cap<=maxLen /\ cur.size=(off+cap)*size /\ (cur.toList.drop (off*size)).take (n*size)=xs)
section
variable {w w1:World} {base n size:Nat} {e:TypeId} {v:Value} {xs:List Value}
theorem QK (h:w.ownsRow base e size v n xs):Aey w base e size v n xs:=by
  obtain ⟨h1,h2⟩:=h;refine ⟨h1, ?_⟩
  rcases h2 with ⟨rfl,h0⟩|⟨g,cap,cur,rfl,hb,hh,hnc,hcm,hcs,ht⟩
  · exact .inl ⟨h0,none,rfl,fun a ha=>by cases ha⟩
  · exact .inr ⟨g,0,cap,cur,by rw [Nat.zero_mul],hb,hh,hnc,by rw [Nat.zero_add];exact hcm,by rw [Nat.zero_add];exact hcs,by rw [Nat.zero_mul,List.drop_zero];exact ht⟩
theorem zG {g:Nat}:∀ (vs:List Value) (o:Nat) {w:World} (k:Nat),k≠g ->(w.setCells g o vs).heap[k]?=w.heap[k]?
  |[],_,_,_,_=>rfl
  |v::r,o,w,k,hk=>by
    rw [World.setCells,zG r (o+1) k hk];exact Below.heap_setCell w ⟨g,o,none⟩ v k hk
theorem yH (g:Nat):∀ (vs:List Value) (o:Nat) (w:World),(w.setCells g o vs).os=w.os /\ (w.setCells g o vs).tape=w.tape /\ (w.setCells g o vs).output=w.output /\ (w.setCells g o vs).heap.size=w.heap.size
  |[],_,_=>⟨rfl,rfl,rfl,rfl⟩
  |v::r,o,w=>by
    obtain ⟨h1,h2,h3,h4⟩:=yH g r (o+1) (w.setCell ⟨g,o,none⟩ v);rw [World.setCells];exact ⟨h1,h2,h3,by rw [h4];simp [World.setCell]⟩
theorem zH {g:Nat} {e:TypeId}:∀ (vs:List Value) (o:Nat) (w:World) (cur:Array Value),w.heap[g]?=some (.cells cur e (0,0)) ->o+vs.length<=cur.size ->
    ∃ cur',(w.setCells g o vs).heap[g]?=some (.cells cur' e (0,0)) /\ cur'.size=cur.size /\ cur'.toList=cur.toList.take o++vs++cur.toList.drop (o+vs.length)
  |[],o,w,cur,h,_=>⟨cur,h,rfl,by simp⟩
  |v::r,o,w,cur,h,hl=>by
    have h2:=MU h o v;simp only [List.length_cons] at hl
    obtain ⟨cur',h3,h4,h5⟩:=zH r (o+1) (w.setCell ⟨g,o,none⟩ v) _ h2 (by simp;omega);refine ⟨cur',h3,by rw [h4];simp, ?_⟩;rw [h5,Array.toList_setIfInBounds];have ho:o<cur.toList.length:=by rw [Array.length_toList];omega
    rw [List.take_set,List.drop_set_of_lt (by omega)];simp only [List.length_cons];rw [show o+1+r.length=o+(r.length+1) by omega]
    congr 1
    rw [List.take_succ_eq_append_getElem ho,List.set_append_right _ _ (by rw [List.length_take];omega)];have ho':o<cur.size:=by omega
    simp [Nat.min_eq_left (Nat.le_of_lt ho')]
end
section
end
namespace Kd
theorem OL {α:Type} {R:α ->List Value ->Prop} {size m:Nat} {ps:List α} {cs:List Value} (h:cD R size ps cs) (hm:m<=ps.length):cD R size (ps.take m) (cs.take (m*size)):=by
  refine ⟨by rw [List.length_take,List.length_take,h.1,Nat.min_eq_left hm,Nat.min_eq_left (Nat.mul_le_mul_right _ hm)],fun j p hj=> ?_⟩;rw [List.getElem?_take] at hj
  split at hj
  · rename_i hjm
    have:=h.2 j p hj;have hle:j*size+size<=m*size:=by rw [<- Nat.succ_mul];exact Nat.mul_le_mul_right _ hjm
    rw [List.drop_take,List.take_take,Nat.min_eq_left (by omega)];exact this
  · cases hj
theorem Aae {α:Type} {d:Kd α} {e m n c:Nat} {w:World} {base:Nat} {ok:Nat ->Prop} {A:Option Addr} {xs:List α} (h:d.R e w base ok (.slice A n c) xs) (hm:m<=xs.length):d.R e w base ok (.slice A m c) (xs.take m):=by
  obtain ⟨h0,inner,ho,hr⟩:=h
  have hn:n=xs.length:=by
    obtain ⟨A',c',he⟩:=OH ho
    injection he
  subst hn
  have hb:∀ x y:Nat,(Value.slice A x c).ownBlock=(Value.slice A y c).ownBlock:=by
    intro x y
    cases A<;>rfl
  refine ⟨fun k hk=>h0 k (by rw [hb _ m];exact hk),inner.take (m*d.sz), ?_, ?_⟩
  · rw [List.length_take,Nat.min_eq_left hm]
    exact QI ho hm
  · rw [hb m xs.length]
    exact OL hr hm
def Q {α:Type} (d:Kd α) (e:Nat) (w:World) (base:Nat) (ok:Nat ->Prop) (v:Value) (xs:List α):Prop:=
  (∀ k,v.ownBlock=some k ->ok k) /\ ∃ inner,Aey w base e d.sz v xs.length inner /\ cD (d.M w base (fun k=>ok k /\ some k≠v.ownBlock)) d.sz xs inner
section
variable {α:Type} {d:Kd α} {e:Nat} {w w1 W:World} {base:Nat} {ok ok':Nat ->Prop} {v:Value} {xs:List α}
theorem Aaf (h:d.R e w base ok v xs):d.Q e w base ok v xs:=by
  obtain ⟨h0,inner,ho,hr⟩:=h;exact ⟨h0,inner,QK ho,hr⟩
theorem jl (d:Kd α) (e:Nat) (w:World) (base:Nat) (ok:Nat ->Prop):d.Q e w base ok (.slice none 0 0) []:=Aaf (bX d e w base ok)
end
section
end
end Kd
namespace Kd
section
variable {α:Type} {d:Kd α} {e e':Nat} {w w1 W:World} {base:Nat} {ok:Nat ->Prop} {u v:Value} {xs:List α}
theorem rO (h:d.R e w base ok v xs):∀ k,v.ownBlock=some k ->∃ cells,w.heap[k]?=some (.cells cells e (0,0)):=by
  obtain ⟨inner,ho⟩:=Iz h;exact fun k hk=>AK ho k hk
theorem uO (h:d.R e W base ok u xs) (hty:∀ k,v.ownBlock=some k ->∃ cells,W.heap[k]?=some (.cells cells e' (0,0))) (ht:∀ q,q ∈ e::d.E ->q≠e') (hg:W.grownBy w1 v.ownBlock):d.R e w1 base ok u xs:=by
  refine dA (C9 (qC h) (fun k hk=>hg.block k hk.2.2.1 (fun he=> ?_))) (fun _ hk=>hk.1);obtain ⟨_,_,_,q,hq,cells,hc⟩:=hk;obtain ⟨cells',hc'⟩:=hty k he.symm;rw [hc] at hc'
  injection hc' with hc'
  injection hc' with _ hc'
  exact ht q hq hc'
theorem IB (h:d.R e W base ok u xs) (hty:∀ k,v.ownBlock=some k ->∃ cells,W.heap[k]?=some (.cells cells e' (0,0))) (ht:∀ q,q ∈ e::d.E ->q≠e'):d.R e W base (fun k=>ok k /\ some k≠v.ownBlock) u xs:=by
  refine dA (qC h) (fun k hk=>⟨hk.1,fun he=> ?_⟩);obtain ⟨_,_,_,q,hq,cells,hc⟩:=hk;obtain ⟨cells',hc'⟩:=hty k he.symm;rw [hc] at hc'
  injection hc' with hc'
  injection hc' with _ hc'
  exact ht q hq hc'
theorem mQ (hu:d.R e W base ok u xs) (hbase:∀ k,v.ownBlock=some k ->W.heap.size<=k) (hb:Below W.heap.size W w1):d.R e w1 base (fun k=>ok k /\ some k≠v.ownBlock) u xs:=
  dA (C9 (qC hu) (fun k hk=>hb.block k hk.2.2.1)) (fun k hk=>⟨hk.1,fun he=>by have:=hbase k he.symm;have:=hk.2.2.1;omega⟩)
theorem qZ (h:d.R e w1 W.heap.size ok v xs) (hlt:∀ k,u.ownBlock=some k ->k<W.heap.size):d.R e w1 W.heap.size (fun k=>ok k /\ some k≠u.ownBlock) v xs:=
  dA (qC h) (fun k hk=>⟨hk.1,fun he=>by have:=hlt k he.symm;have:=hk.2.1;omega⟩)
theorem mG (hlt:∀ k,u.ownBlock=some k ->k<W.heap.size):∀ k,W.heap.size<=k ->some k≠u.ownBlock:=fun k hk he=>by have:=hlt k he.symm;omega
end
end Kd
namespace Kd
section
end
end Kd
namespace Kd
section
end
end Kd
namespace Kd
theorem wN {α:Type} {R:α ->List Value ->Prop} {size:Nat} {ps qs:List α} {cs ds:List Value} (h:cD R size ps cs) (h':cD R size qs ds):cD R size (ps++qs) (cs++ds):=by
  refine ⟨by rw [List.length_append,List.length_append,h.1,h'.1,Nat.add_mul],fun j p hj=> ?_⟩
  rcases Nat.lt_or_ge j ps.length with hlt|hge
  · rw [List.getElem?_append_left hlt] at hj
    have hle:j*size+size<=cs.length:=by rw [h.1,<- Nat.succ_mul];exact Nat.mul_le_mul_right _ hlt
    rw [List.drop_append_of_le_length (by omega),List.take_append_of_le_length (by rw [List.length_drop];omega)];exact h.2 j p hj
  · rw [List.getElem?_append_right hge] at hj
    have h2:=h'.2 (j - ps.length) p hj;have hle:ps.length*size<=j*size:=Nat.mul_le_mul_right _ hge;rw [List.drop_append,List.drop_eq_nil_of_le (by rw [h.1];exact hle),List.nil_append,h.1,<- Nat.sub_mul];exact h2
section
variable {P:Program} {ops:Array Oper} {rest:List Oper} {o:Oper} {a:Act} {Q:Exit ->Act ->World ->Prop} {α:Type}
theorem gz (d:Kd α) {Rr:α ->List Value ->Prop} {w0 W:World} (base:Nat) (hgd:o.guard=none) (s x:Operand) (t e:TypeId) (z:Value) (bytes:Nat)
    (ho:o.op= .call {callee:= .builtin .append,args:= #[s,x],argTypes:= #[t,t]})
    (ht:P.underlying t=some (.slice e)) (hinfo:(P.info? e).map (fun i=>(i.zero,i.size,i.bytes))=some (some z,d.sz,bytes)) (hz:z.cells.size=d.sz) (hs0:0<d.sz) (hb0:0<bytes)
    (v:Value) (xs ys:List α) (A:Option Addr) (m c:Nat) (ok qW:Nat ->Prop) (hs:a.eval s=v) (hx:a.eval x= .slice A m c)
    (HO:d.R e W base ok v xs) (HR:j8 Rr d.sz W A m ys) (hKM:∀ x cs,Rr x cs ->d.M W base qW x cs) (Lh:∀ k,qW k ->ok k /\ some k≠v.ownBlock) (mF:∀ k,W.heap.size<=k ->ok k)
    (HB:Below base w0 W) (hbase:base<=W.heap.size) (hl:(xs.length+m)*bytes<=140737488355328)
    (h:∀ v1 w1,d.R e w1 base ok v1 (xs++ys) ->Below base w0 w1 ->W.grownBy w1 v.ownBlock ->(v1.ownBlock=v.ownBlock \/ ∃ b,v1.ownBlock=some b /\ W.heap.size<=b) ->wpList P ops Q rest (a.put o.dst v1) w1):
    wpList P ops Q (o::rest) a W:=by
  obtain ⟨i0,hi,hzz⟩:=Option.map_eq_some_iff.1 hinfo;simp only [Prod.mk.injEq] at hzz
  obtain ⟨hz0,hz1,hz2⟩:=hzz;have hm:ys.length=m:=HR.1;have hlen:xs.length+m<=140737488355328:=Nat.le_trans (Nat.le_mul_of_pos_right _ hb0) hl;obtain ⟨hok,inner,hown,hr⟩:=HO
  have hrun:∃ v1 w1,(Builtin.append_ #[t,t] o.type #[v,.slice A m c]).run P W= .ok v1 w1 /\ d.R e w1 base ok v1 (xs++ys) /\ W.grownBy w1 v.ownBlock /\ (v1.ownBlock=v.ownBlock \/ ∃ b,v1.ownBlock=some b /\ W.heap.size<=b):=by
    rcases A with _|ad
    · have h0:m=0:=by
        rcases Nat.eq_zero_or_pos m with h0|h0
        · exact h0
        · obtain ⟨ad,h,_⟩:=HR.2.2 h0
          cases h
      subst h0;obtain rfl:ys=[]:=List.eq_nil_of_length_eq_zero hm;refine ⟨v,W, ?_,by rw [List.append_nil];exact ⟨hok,inner,hown,hr⟩,World.grownBy.refl W _,.inl rfl⟩
      rcases hown.2 with ⟨rfl,hn⟩|⟨g,cap,cur,rfl,_,_,hnc,_⟩
      · simp [Builtin.append_,run_underlying ht,sizeOf,typeInfo,hi,Builtin.lenOf,Builtin.firstCells]
      · simp [Builtin.append_,run_underlying ht,sizeOf,typeInfo,hi,Builtin.lenOf,Builtin.firstCells,hnc,storeCells]
    · obtain ⟨news,hnr,hnc⟩:=j8.QF HR
      have Qn:cD (d.M W base qW) d.sz ys news:=hnr.ua (fun p c hp=>hKM p c hp)
      have hone:∀ u ∈ news,u.oneCell'=true:=by
        intro u hu;obtain ⟨q,hq,rfl⟩:=List.mem_iff_getElem.1 hu
        have hql:q / d.sz<ys.length:=by
          rw [Nat.div_lt_iff_lt_mul hs0];rw [<- Qn.1];exact hq
        have hc:=Qn.2 (q / d.sz) _ (List.getElem?_eq_getElem hql);refine d.qg (d.kS hc) _ ?_;rw [List.mem_iff_getElem?];refine ⟨q % d.sz, ?_⟩;rw [List.getElem?_take,aq (Nat.mod_lt _ hs0),List.getElem?_drop,Nat.mul_comm,Nat.div_add_mod,List.getElem?_eq_getElem hq]
      obtain ⟨v1,w1,hrun,h2,hg,_,hat⟩:=run_append_own_at (P:=P) W base t o.type e i0 z d.sz bytes ht hi hz0 hz1 hz2 hz hs0 v xs.length inner hown ad m c news (by rw [Qn.1,hm]) hnc hone (by simp only [maxLen];omega) hl hbase
      have hat':v1.ownBlock=v.ownBlock \/ ∃ b,v1.ownBlock=some b /\ W.heap.size<=b:=by
        rcases hat with hat|hat
        · exact .inl hat
        · exact .inr ⟨_,hat,Nat.le_refl _⟩
      have hne:∀ k,some k≠v.ownBlock ->k<W.heap.size ->some k≠v1.ownBlock:=by
        intro k hk hlt
        rcases hat' with hat|⟨b,hb,hle⟩
        · rw [hat];exact hk
        · rw [hb]
          intro he
          injection he with he
          omega
      have step:∀ {q:α} {c:List Value} {o:Nat ->Prop},d.M W base o q c ->(∀ k,o k ->ok k /\ some k≠v.ownBlock) ->d.M w1 base (fun k=>ok k /\ some k≠v1.ownBlock) q c:=by
        intro q c o hq ho;have h1:=d.nc (w1:=w1) (fun k hk=>hg.block k hk.2.2.1 (ho k hk.1).2) (d.jG hq);exact d.jM (fun k hk=>⟨(ho k hk.1).1,hne k (ho k hk.1).2 hk.2.2.1⟩) h1
      refine ⟨v1,w1,hrun,⟨fun k hk=> ?_,inner++news,by rw [List.length_append,hm];exact h2,wN (hr.ua (fun _ _ hq=>step hq (fun _ hk=>hk))) (Qn.ua (fun _ _ hq=>step hq Lh))⟩,hg,hat'⟩
      rcases hat' with hat|⟨b,hb,hle⟩
      · exact hok k (hat ▸ hk)
      · rw [hb] at hk
        injection hk with hk
        exact mF k (by omega)
  obtain ⟨v1,w1,hr1,h1,hg,hat⟩:=hrun;refine wpList_plain hgd fun K hK=> ?_
  unfold Oper.wp execOp;simp only [ho,resolve,invoke,builtin,Sem.run_bind,Sem.run_pure,Result.andThen_ok,List.map_toArray,List.map_cons,List.map_nil,hs,hx,hr1];exact hK _ _ (h v1 w1 h1 (HB.grown hg hbase (wL hown)) hg hat)
end
end Kd
namespace Kd
section
end
end Kd
theorem add_add (a:Addr) (i j:Nat):(a.add i).add j=a.add (i+j):=by
  unfold Addr.add
  by_cases h1:i=0<;>by_cases h2:j=0<;>simp [h1,h2,Nat.add_assoc]
namespace Kd
section
variable {α:Type} {k:Kd α} {w:World} {A:Option Addr} {xs:List α} {m c:Nat}
theorem Aag (h:k.C w A xs.length xs) (hm:m<=xs.length):k.C w A (xs.take m).length (xs.take m):=by
  have hl:(xs.take m).length=m:=by rw [List.length_take];omega
  refine ⟨rfl,by rw [hl];have:=h.2.1;omega,fun hp=> ?_⟩;obtain ⟨ad,e,hc⟩:=h.2.2 (by omega);refine ⟨ad,e,fun j p hj=>hc j p ?_⟩;rw [List.getElem?_take] at hj
  split at hj
  · exact hj
  · cases hj
theorem Aah (h:k.C w A xs.length xs) (hm:m<=xs.length) (hc:xs.length<=c):k.C w (if c=m then A else A.map (·.add (m*k.sz))) (xs.drop m).length (xs.drop m):=by
  have hl:(xs.drop m).length=xs.length - m:=List.length_drop;refine ⟨rfl,by rw [hl];have:=h.2.1;omega,fun hp=> ?_⟩;rw [hl] at hp
  obtain ⟨ad,rfl,hcell⟩:=h.2.2 (by omega);rw [av (by omega)];refine ⟨ad.add (m*k.sz),rfl,fun j p hj=> ?_⟩;rw [List.getElem?_drop] at hj
  obtain ⟨cs,h1,h2,h3⟩:=hcell (m+j) p hj;refine ⟨cs,h1,h2,fun i u hu=> ?_⟩;rw [add_add,show m*k.sz+(j*k.sz+i)=(m+j)*k.sz+i by rw [Nat.add_mul];omega];exact h3 i u hu
end
end Kd
section
end
theorem BU {P:Program} {w:World} {src dst e:TypeId} {A:Option Addr} {n c:Nat} {xs:List Int} (hs:P.underlying src=some (.slice e)) (he:P.underlying e=some (.int .u8)) (hd:P.underlying dst=some .string)
    (h:iC w .u8 A n xs):(convert src dst (.slice A n c)).run P w= .ok (.string (strOfNums xs)) w:=by
  have hn:xs.length=n:=h.1
  rcases A with _|ad
  · have h0:n=0:=by
      rcases Nat.eq_zero_or_pos n with h0|h0
      · exact h0
      · obtain ⟨ad,h',_⟩:=h.2.2 h0
        cases h'
    subst h0;obtain rfl:xs=[]:=List.eq_nil_of_length_eq_zero hn;exact run_convert_bytes_nil w src e hs he 0 c dst hd
  · have hl:(loadCells ad n).run P w= .ok (xs.map (Value.int .u8)).toArray w:=by
      have:=run_loadCells_list (P:=P) w ad (xs.map (Value.int .u8)) (fun j v hj=>by
        have hjl:j<xs.length:=by
          rcases Nat.lt_or_ge j xs.length with h'|h'
          · exact h'
          · rw [List.getElem?_eq_none (by rw [List.length_map];exact h')] at hj
            cases hj
        obtain ⟨ad',he',hc⟩:=h.2.2 (by omega)
        injection he' with he'
        subst he';rw [hc j (by omega)];rw [List.getElem?_map,List.getElem?_eq_getElem hjl] at hj
        simp at hj
        subst hj
        simp [List.getD_eq_getElem?_getD,List.getElem?_eq_getElem hjl])
      simpa [hn] using this
    rw [run_convert_bytes_string w src dst e _ n c hs he hd,run_bytesToString w ad n c xs hl,foldl_push_bytes]
    simp [strOfNums,ByteArray.empty,ByteArray.emptyWithCapacity]
    rfl
theorem Kd.IC {P:Program} {w:World} {src dst e:TypeId} {A:Option Addr} {n c:Nat} {xs:List Int} (hs:P.underlying src=some (.slice e)) (he:P.underlying e=some (.int .u8)) (hd:P.underlying dst=some .string)
    (h:(Kd.int .u8).C w A n xs):(convert src dst (.slice A n c)).run P w= .ok (.string (strOfNums xs)) w:=
  BU hs he hd (Kd.dw (enc:=Value.int .u8) (d:=(0:Int)) (h1:=fun _=>rfl) h)
theorem af {w W:World} (h:Below w.heap.size w W):w.heap.size<=W.heap.size:=h.size
theorem au {w W w2:World} (h:Below w.heap.size w W) (k:Below W.heap.size W w2):Below w.heap.size w w2:=Ld h h.size k
theorem iC.nil (W:World) (k:IntKind):iC W k none ([]:List Int).length []:=⟨rfl,by simp,fun h=>absurd h (Nat.lt_irrefl 0)⟩
theorem iC.drewN {W:World} {k:IntKind} {A:Option Addr} {n:Nat} {xs:List Int} (h:iC W k A n xs) (m:Nat):iC (W.drewN m) k A n xs:=h
theorem ux {w W:World} {g j:Nat} {v:Value} (h:Below w.heap.size w W) (hg:w.heap.size<=g):Below w.heap.size w (W.setCell ⟨g,j,none⟩ v):=h.setCell hg _
theorem Fu {w W:World} {g:Nat} (h:jU w W g none) {a:Addr} {v:Value} (hc:w.cell? a=some v) (hne:a.block≠g):W.cell? a=some v:=by
  have:=h.2 a.block (dF w a hc) hne (by simp)
  simpa [World.cell?,this] using hc
theorem AL (a:Addr) (i:Nat):(a.add i).block=a.block:=by unfold Addr.add;split<;>rfl
theorem gO.nil {α:Type} (enc:α ->Value) (d:α) (W:World):gO enc d W none ([]:List α).length []:=⟨rfl,by simp,fun h=>absurd h (Nat.lt_irrefl 0)⟩
theorem gO.drewN {α:Type} {enc:α ->Value} {d:α} {W:World} {A:Option Addr} {n:Nat} {xs:List α} (h:gO enc d W A n xs) (m:Nat):gO enc d (W.drewN m) A n xs:=h
theorem iC.keep {w W:World} {k:IntKind} {A:Option Addr} {n g:Nat} {xs:List Int} (h:iC w k A n xs) (hk:jU w W g none) (hf:∀ ad,A=some ad ->0<n ->ad.block≠g):iC W k A n xs:=
  ⟨h.1,h.2.1,fun hn=>by
    obtain ⟨ad,e,hc⟩:=h.2.2 hn
    exact ⟨ad,e,fun j hj=>Fu hk (hc j hj) (by rw [AL];exact hf ad e hn)⟩⟩
theorem gO.keep {α:Type} {enc:α ->Value} {d:α} {w W:World} {A:Option Addr} {n g:Nat} {xs:List α} (h:gO enc d w A n xs) (hk:jU w W g none) (hf:∀ ad,A=some ad ->0<n ->ad.block≠g):gO enc d W A n xs:=
  ⟨h.1,h.2.1,fun hn=>by
    obtain ⟨ad,e,hc⟩:=h.2.2 hn
    exact ⟨ad,e,fun j hj=>Fu hk (hc j hj) (by rw [AL];exact hf ad e hn)⟩⟩
theorem cell_far {W:World} {p a:Addr} (h:a.block≠p.block) (u:Value):(W.setCell p u).cell? a=W.cell? a:=by
  have:=Below.heap_setCell W p u a.block h
  simp [World.cell?,this]
theorem bK {w:World} {g:Nat} {t:TypeId} {cs cs':Array Value} (h:w.heap[g]?=some (.cells cs t (0,0))) (i:Nat) (u:Value) (e:cs.setIfInBounds i u=cs'):(w.setCell ⟨g,i,none⟩ u).heap[g]?=some (.cells cs' t (0,0)):=e ▸ MU h i u
theorem bf {base:Nat} {w W:World} (h:Below base w W):Below base w W.drew:=h.drew
namespace Kd
section
end
section
end
end Kd
namespace Kd
section
variable {α:Type} {d:Kd α} {e base g:Nat} {ok:Nat ->Prop} {w w1:World} {v:Value} {xs:List α} {o:Obj}
theorem Aai (hb:w.heap[g]?=some o):∀ k,w.heap.size<=k ->k≠g:=fun k hk=>by have:=lZ hb;omega
end
end Kd
section
variable {P:Program} {ops:Array Oper} {rest:List Oper} {o:Oper} {a:Act} {Q:Exit ->Act ->World ->Prop}
theorem aC {W:World} (hgd:o.guard=none) {N:Tmp} (_hd:o.dst=some N) {cs:Array Value} {t:TypeId}
    (hrun:(execOp a.eval o).run P W= .ok (.value (.pointer (some ⟨W.heap.size,0,none⟩))) (W.alloc (.cells cs t (0,0))))
    (h:∀ g,g=W.heap.size ->∀ w1,w1.heap[g]?=some (.cells cs t (0,0)) ->Below W.heap.size W w1 ->wpList P ops Q rest (a.put o.dst (.pointer (some ⟨g,0,none⟩))) w1):wpList P ops Q (o::rest) a W:=
  Kd.bU hgd hrun (h _ rfl _ (Vj W _) (dV (Below.refl _ _) _))
end
namespace Kd
section
variable {α:Type} {enc:α ->Value} {h1:∀ x,(enc x).oneCell'=true} {e base g n cap:Nat} {ok:Nat ->Prop} {W:World} {xs:List α}
theorem lg (d:α) (h:(scalar enc h1).R e W base ok (.slice (some ⟨g,0,none⟩) n cap) xs) (i:Int) (h0:0<=i) (hi:i<n):W.cell? ⟨g,i.toNat,none⟩=some (enc (Vi d xs i)) /\ W.frozen? ⟨g,i.toNat,none⟩=false:=by
  obtain ⟨rfl,_⟩:=ay h;exact QH d h i h0 hi
theorem Dd (h:(scalar enc h1).R e W base ok (.slice (some ⟨g,0,none⟩) n cap) xs) (i:Int) (x:α):(scalar enc h1).R e (W.setCell ⟨g,i.toNat,none⟩ (enc x)) base ok (.slice (some ⟨g,0,none⟩) n cap) (xs.set i.toNat x):=by
  obtain ⟨rfl,_⟩:=ay h;exact (XP h i x).1
end
end Kd
section
variable {P:Program} {ops:Array Oper} {rest:List Oper} {o:Oper} {a:Act} {Q:Exit ->Act ->World ->Prop}
theorem sZ {W w1:World} (hgd:o.guard=none) {t:TypeId} {p:Tmp} {v:Operand} (_ho:o.op= .store t (.tmp p) v) (hN:o.dst=none)
    (hrun:(execOp a.eval o).run P W= .ok .skip w1) (h:∀ w',w'=w1 ->wpList P ops Q rest a w'):wpList P ops Q (o::rest) a W:=by
  refine wpList_plain hgd fun K hK=> ?_
  unfold Oper.wp;rw [hrun]
  show K (a.put o.dst undef) w1
  rw [hN];exact hK _ _ (h _ rfl)
end
namespace Kd
section
variable {α:Type} {enc:α ->Value} {h1:∀ x,(enc x).oneCell'=true} {e base g n cap:Nat} {ok:Nat ->Prop} {W:World} {xs:List α}
theorem AO (h:(scalar enc h1).R e W base ok (.slice (some ⟨g,0,none⟩) n cap) xs) (i:Int) (x:α):(scalar enc h1).R e (W.setCell ⟨g,i.toNat,none⟩ (enc x)) base ok (.slice (some ⟨g,0,none⟩) n cap) (xs.set i.toNat x) /\ W.grownBy (W.setCell ⟨g,i.toNat,none⟩ (enc x)) (some g):=by
  obtain ⟨rfl,_⟩:=ay h;exact XP h i x
end
end Kd
section
variable {P:Program} {ops:Array Oper} {rest:List Oper} {o:Oper} {a:Act} {Q:Exit ->Act ->World ->Prop} {W:World}
theorem aA {N:Tmp} (_hN:o.dst=some N) (h:wpList P ops Q (o::rest) a W):wpList P ops Q (o::rest) a W:=h
theorem uP {t:TypeId} {p:Tmp} {v:Operand} (_ho:o.op= .store t (.tmp p) v) (h:wpList P ops Q (o::rest) a W):wpList P ops Q (o::rest) a W:=h
end
section
variable {P:Program} {ops:Array Oper} {o:Oper} {a:Act} {Q:Exit ->Act ->World ->Prop} {Kc:Act ->World ->Prop}
theorem Lj {W w1:World} {v:Value} (hw:Region.wanted o (yielded ops a.tmps)=true) (hrun:(execOp a.eval o).run P W= .ok (.value v) w1) (h:Kc (a.put o.dst v) w1):if Region.wanted o (yielded ops a.tmps)=true then Oper.wp P o a W Kc Q else Kc (a.put o.dst undef) W:=by
  rw [aq hw];unfold Oper.wp;rw [hrun];exact h
namespace Kd
variable {α:Type}
theorem qm (d:Kd α) {w0 W:World} (base e:Nat) (hw:Region.wanted o (yielded ops a.tmps)=true) {N:Tmp} (_hd:o.dst=some N) {xs:List α} {inner:List Value} {ok qW:Nat ->Prop}
    (hrun:(execOp a.eval o).run P W= .ok (.value (.slice (some ⟨W.heap.size,0,none⟩) xs.length xs.length)) (W.alloc (.cells inner.toArray e)))
    (IA:cD (d.M W base qW) d.sz xs inner) (hok:∀ k,qW k ->ok k) (mF:ok W.heap.size) (HB:Below base w0 W) (hbase:base<=W.heap.size) (hm:xs.length<=9223372036854775807)
    (h:∀ v1 w1,d.R e w1 base ok v1 xs ->Below base w0 w1 ->W.grownBy w1 none ->(∃ b,v1.ownBlock=some b /\ W.heap.size<=b) ->Kc (a.put o.dst v1) w1):if Region.wanted o (yielded ops a.tmps)=true then Oper.wp P o a W Kc Q else Kc (a.put o.dst undef) W:=by
  refine Lj hw hrun (h _ _ ⟨fun k hk=> ?_,inner, ?_, ?_⟩ (HB.alloc hbase _) (World.grownBy_alloc W _ none) ⟨W.heap.size,by simp [Value.ownBlock],Nat.le_refl _⟩)
  · have:W.heap.size=k:=by simpa [Value.ownBlock] using hk
    subst this;exact mF
  · have h2:=World.ownsRow_lit (base:=base) (e:=e) (size:=d.sz) W inner.toArray xs.length hbase (by simpa [maxLen] using hm) (by simpa using IA.1)
    simpa using h2
  · refine IA.ua (fun p c hp=>d.jM (fun k hk=>⟨hok k hk.1,fun he=> ?_⟩) (MV (d.jG hp) (dV (Below.refl _ _) _)))
    have h3:k=W.heap.size:=by simpa [Value.ownBlock] using he
    have:=hk.2.2.1
    omega
theorem jw (d:Kd α) {Rr:α ->List Value ->Prop} {w0 W:World} (base:Nat) (hw:Region.wanted o (yielded ops a.tmps)=true) (s x:Operand) (t e:TypeId) (z:Value) (bytes:Nat)
    (ho:o.op= .call {callee:= .builtin .append,args:= #[s,x],argTypes:= #[t,t]})
    (ht:P.underlying t=some (.slice e)) (hinfo:(P.info? e).map (fun i=>(i.zero,i.size,i.bytes))=some (some z,d.sz,bytes)) (hz:z.cells.size=d.sz) (hs0:0<d.sz) (hb0:0<bytes)
    (v:Value) (xs ys:List α) (A:Option Addr) (m c:Nat) (ok qW:Nat ->Prop) (hs:a.eval s=v) (hx:a.eval x= .slice A m c)
    (HO:d.R e W base ok v xs) (HR:j8 Rr d.sz W A m ys) (hKM:∀ x cs,Rr x cs ->d.M W base qW x cs) (Lh:∀ k,qW k ->ok k /\ some k≠v.ownBlock) (mF:∀ k,W.heap.size<=k ->ok k)
    (HB:Below base w0 W) (hbase:base<=W.heap.size) (hl:(xs.length+m)*bytes<=140737488355328)
    (h:∀ v1 w1,d.R e w1 base ok v1 (xs++ys) ->Below base w0 w1 ->W.grownBy w1 v.ownBlock ->(v1.ownBlock=v.ownBlock \/ ∃ b,v1.ownBlock=some b /\ W.heap.size<=b) ->Kc (a.put o.dst v1) w1):
    if Region.wanted o (yielded ops a.tmps)=true then Oper.wp P o a W Kc Q else Kc (a.put o.dst undef) W:=by
  obtain ⟨i0,hi,hzz⟩:=Option.map_eq_some_iff.1 hinfo;simp only [Prod.mk.injEq] at hzz
  obtain ⟨hz0,hz1,hz2⟩:=hzz;have hm:ys.length=m:=HR.1;have hlen:xs.length+m<=140737488355328:=Nat.le_trans (Nat.le_mul_of_pos_right _ hb0) hl;obtain ⟨hok,inner,hown,hr⟩:=HO
  have hrun:∃ v1 w1,(Builtin.append_ #[t,t] o.type #[v,.slice A m c]).run P W= .ok v1 w1 /\ d.R e w1 base ok v1 (xs++ys) /\ W.grownBy w1 v.ownBlock /\ (v1.ownBlock=v.ownBlock \/ ∃ b,v1.ownBlock=some b /\ W.heap.size<=b):=by
    rcases A with _|ad
    · have h0:m=0:=by
        rcases Nat.eq_zero_or_pos m with h0|h0
        · exact h0
        · obtain ⟨ad,h,_⟩:=HR.2.2 h0
          cases h
      subst h0;obtain rfl:ys=[]:=List.eq_nil_of_length_eq_zero hm;refine ⟨v,W, ?_,by rw [List.append_nil];exact ⟨hok,inner,hown,hr⟩,World.grownBy.refl W _,.inl rfl⟩
      rcases hown.2 with ⟨rfl,hn⟩|⟨g,cap,cur,rfl,_,_,hnc,_⟩
      · simp [Builtin.append_,run_underlying ht,sizeOf,typeInfo,hi,Builtin.lenOf,Builtin.firstCells]
      · simp [Builtin.append_,run_underlying ht,sizeOf,typeInfo,hi,Builtin.lenOf,Builtin.firstCells,hnc,storeCells]
    · obtain ⟨news,hnr,hnc⟩:=j8.QF HR
      have Qn:cD (d.M W base qW) d.sz ys news:=hnr.ua (fun p c hp=>hKM p c hp)
      have hone:∀ u ∈ news,u.oneCell'=true:=by
        intro u hu;obtain ⟨q,hq,rfl⟩:=List.mem_iff_getElem.1 hu
        have hql:q / d.sz<ys.length:=by
          rw [Nat.div_lt_iff_lt_mul hs0];rw [<- Qn.1];exact hq
        have hc:=Qn.2 (q / d.sz) _ (List.getElem?_eq_getElem hql);refine d.qg (d.kS hc) _ ?_;rw [List.mem_iff_getElem?];refine ⟨q % d.sz, ?_⟩;rw [List.getElem?_take,aq (Nat.mod_lt _ hs0),List.getElem?_drop,Nat.mul_comm,Nat.div_add_mod,List.getElem?_eq_getElem hq]
      obtain ⟨v1,w1,hrun,h2,hg,_,hat⟩:=run_append_own_at (P:=P) W base t o.type e i0 z d.sz bytes ht hi hz0 hz1 hz2 hz hs0 v xs.length inner hown ad m c news (by rw [Qn.1,hm]) hnc hone (by simp only [maxLen];omega) hl hbase
      have hat':v1.ownBlock=v.ownBlock \/ ∃ b,v1.ownBlock=some b /\ W.heap.size<=b:=by
        rcases hat with hat|hat
        · exact .inl hat
        · exact .inr ⟨_,hat,Nat.le_refl _⟩
      have hne:∀ k,some k≠v.ownBlock ->k<W.heap.size ->some k≠v1.ownBlock:=by
        intro k hk hlt
        rcases hat' with hat|⟨b,hb,hle⟩
        · rw [hat];exact hk
        · rw [hb]
          intro he
          injection he with he
          omega
      have step:∀ {q:α} {c:List Value} {o:Nat ->Prop},d.M W base o q c ->(∀ k,o k ->ok k /\ some k≠v.ownBlock) ->d.M w1 base (fun k=>ok k /\ some k≠v1.ownBlock) q c:=by
        intro q c o hq ho;have h1:=d.nc (w1:=w1) (fun k hk=>hg.block k hk.2.2.1 (ho k hk.1).2) (d.jG hq);exact d.jM (fun k hk=>⟨(ho k hk.1).1,hne k (ho k hk.1).2 hk.2.2.1⟩) h1
      refine ⟨v1,w1,hrun,⟨fun k hk=> ?_,inner++news,by rw [List.length_append,hm];exact h2,wN (hr.ua (fun _ _ hq=>step hq (fun _ hk=>hk))) (Qn.ua (fun _ _ hq=>step hq Lh))⟩,hg,hat'⟩
      rcases hat' with hat|⟨b,hb,hle⟩
      · exact hok k (hat ▸ hk)
      · rw [hb] at hk
        injection hk with hk
        exact mF k (by omega)
  obtain ⟨v1,w1,hr1,h1,hg,hat⟩:=hrun;rw [aq hw];unfold Oper.wp execOp;simp only [ho,resolve,invoke,builtin,Sem.run_bind,Sem.run_pure,Result.andThen_ok,List.map_toArray,List.map_cons,List.map_nil,hs,hx,hr1];exact h v1 w1 h1 (HB.grown hg hbase (wL hown)) hg hat
end Kd
end
section
end
namespace Kd
section
end
section
end
end Kd
end Go.Proofs.ah.bT
namespace Go.Proofs.ah.zI
open Go.Joins Go.ChangeShapes Go.WideShapes Go.RowKit Go.Deep
section
variable {H:Type} {enc:TypeId×Value ->H} {P:Program} {w:World} {base:Nat} {spare:Nat ->Bool} {held:Bool}
def AeB (k:IntKind) (w:World) (a:Option Addr) (len cap:Nat) (zs:List Int):Prop:=
  (a=none /\ len=0 /\ cap=0 /\ zs=[]) \/
  ∃ x,a=some x /\ len<=cap /\ cap<=maxLen /\ zs.length=cap /\ (∀ i,i<zs.length ->w.cell? (x.add i)=some (.int k (zs.getD i 0))) /\ ∀ n ∈ zs,(Lit.int k n).wf=true
theorem Am5 {t e:TypeId} {k:IntKind} {fuel:Nat} {a:Option Addr} {len cap:Nat} {x:DataW H×List MemPlace} (ht:P.underlying t=some (.slice e)) (he:P.underlying e=some (.int k)) (hc:P.cellsOf e=1)
    (hf:DataW.trod enc P w base (fun _=>true) held fuel t [.slice a len cap]=some x):∃ zs,AeB k w a len cap zs:=by
  rcases open_ints ht he hc hf with ⟨hcs,_⟩|⟨x,l,c,zs,hcs,_,hl,hm,hz,_,hcell,hwz⟩
  · simp at hcs
    obtain ⟨rfl,rfl,rfl⟩:=hcs;exact ⟨[],.inl ⟨rfl,rfl,rfl,rfl⟩⟩
  · simp at hcs
    obtain ⟨rfl,rfl,rfl⟩:=hcs;exact ⟨zs,.inr ⟨_,rfl,hl,hm,by simpa using hz,hcell,hwz⟩⟩
end
end Go.Proofs.ah.zI
namespace Go.Proofs.ah.bT
open Go.RowKit
section
variable {P:Program} {α:Type}
theorem iY (enc:α ->Value) (d:α) (t e:TypeId) (kl kh km:IntKind) {i:TypeInfo} (ht:P.underlying t=some (.slice e)) (hi:P.info? e=some i) (hsz:i.size=1) (A:Option Addr) (c:Nat) (xs:List α) (a b:Int) (h0:0<=a) (h1:a<=b) (hm:b<=xs.length) (hc:xs.length<=c):
    ∃ A':Option Addr,(∀ W:World,(Instr.slice t (.slice A xs.length c) (some (.int kl a)) (some (.int kh b)) (some (.int km b))).run P W= .ok (.slice A' ((xs.take b.toNat).drop a.toNat).length (b.toNat - a.toNat)) W) /\
      (∀ w:World,gO enc d w A xs.length xs ->gO enc d w A' ((xs.take b.toNat).drop a.toNat).length ((xs.take b.toNat).drop a.toNat)) /\ ((xs.take b.toNat).drop a.toNat).length<=b.toNat - a.toNat:=by
  have hlt:(xs.take b.toNat).length=b.toNat:=by rw [List.length_take];omega
  have hl:((xs.take b.toNat).drop a.toNat).length=b.toNat - a.toNat:=by rw [List.length_drop,hlt]
  refine ⟨if b.toNat=a.toNat then A else A.map (·.add a.toNat),fun W=> ?_,fun w h=> ?_,by rw [hl];omega⟩
  · have hel:P.elem t=e:=by simp [Program.elem,ht]
    have hu:P.underlying t=some (.slice (P.elem t)):=by rw [hel];exact ht
    have eb:(b.toNat:Int)=b:=Int.toNat_of_nonneg (by omega);have ea:(a.toNat:Int)=a:=Int.toNat_of_nonneg (by omega);rw [hl]
    simp [Instr.slice,run_underlying ht,Instr.sliceBounds,run_sliceBound, *,(by omega:b<=(c:Int)),(by omega:0<=b),sizeOf,typeInfo,hi,hsz,Result.andThen]
  · have h2:=(h.gF b.toNat (by omega)).Iw (c:=b.toNat) a.toNat (by omega) (by omega)
    rw [hl];exact h2
end
theorem Bw {w:World} {n:Nat} {l:List Int} (h:Kd.C (Kd.int .u8) w none n l):l=[]:=by
  have h1:=Kd.dw (d:=(0:Int)) h
  rcases Nat.eq_zero_or_pos n with h0|h0
  · exact List.eq_nil_of_length_eq_zero (by have:=h1.1;omega)
  · obtain ⟨ad,e,_⟩:=h1.2.2 h0
    cases e
theorem zJ (w:World) (k:IntKind) (e:TypeId):Kd.R (Kd.int k) e (w.alloc (.cells #[] e)) w.heap.size (fun _=>True) (.slice (some ⟨w.heap.size,0,none⟩) 0 0) ([]:List Int):=
  Kd.Da (h1:=fun _=>rfl) ⟨rfl,.inr ⟨w.heap.size,0, #[],rfl,Nat.le_refl _,by simpa using heap_alloc_new w _,Nat.le_refl _,by simp [maxLen],rfl,rfl⟩⟩ (fun _ _=>trivial)
theorem gA {p:Prop} [Decidable p] (h:decide p=true:=by first|(with_reducible assumption)|assumption):p:=of_decide_eq_true h
theorem gI (w:World):aa (Below w.heap.size w w):=⟨Below.refl _ w⟩
end Go.Proofs.ah.bT
namespace Go.Proofs.ah.cY
section
variable {P:Program} {ops:Array Oper} {Q:Exit ->Act ->World ->Prop} {md:Region.Mode} {S:World ->Prop} {ds:List Nat}
def Region.rm (md:Region.Mode) (ops:Array Oper) (i:Nat):Nat ->Nat ->Bool
  |0,_=>false
  |fuel+1,d=>match ops[d]? with
    |some o=>o.after.any fun e=>Region.binds md e && (e.on==i||Region.rm md ops i fuel e.on)
    |none=>false
def Region.zK (md:Region.Mode) (ops:Array Oper) (listed:Array Bool):Bool:=
  (List.range ops.size).all fun j=> !listed.getD j false||match ops[j]? with
    |some o=>o.after.all fun e=> !Region.binds md e||listed.getD e.on false
    |none=>true
def Region.MW (md:Region.Mode) (ops:Array Oper) (listed:Array Bool) (ds:List Nat) (i:Nat):Bool:=
  ds.all fun d=>listed.getD d true||Region.rm md ops i ops.size d
def mH (md:Region.Mode) (ops:Array Oper) (listed:Array Bool):Prop:=
  ∀ j oj,ops[j]?=some oj ->listed.getD j false=true ->∀ e ∈ oj.after,Region.binds md e=true ->listed.getD e.on false=true
theorem Region.Gg {listed:Array Bool} (h:Region.zK md ops listed=true):mH md ops listed:=by
  intro j oj hj hl e he hb;have hlt:j<ops.size:=(Array.getElem?_eq_some_iff.1 hj).1;have h1:=List.all_eq_true.1 h j (List.mem_range.2 hlt);simp only [hl,hj,Bool.not_true,Bool.false_or] at h1
  have h2:=Array.all_eq_true_iff_forall_mem.1 h1 e he
  simpa [hb] using h2
theorem mH.set {listed:Array Bool} {i:Nat} (h:mH md ops listed) (hi:i ∈ Region.ready md ops listed):mH md ops (listed.setIfInBounds i true):=by
  obtain ⟨_,oi,hoi,hall⟩:=mem_ready.1 hi;intro j oj hj hl e he hb
  by_cases hij:i=j
  · subst hij
    have:oj=oi:=cN (hj.symm.trans hoi);subst this;exact getD_set_true (hall e he hb)
  rw [getD_set_ne false hij] at hl
  exact getD_set_true (h j oj hj hl e he hb)
theorem Region.zL {listed:Array Bool} {i:Nat} (hc:mH md ops listed):∀ (fuel d:Nat),Region.rm md ops i fuel d=true ->listed.getD d false=true ->listed.getD i false=true
  |0,_,h,_=>by simp [Region.rm] at h
  |fuel+1,d,h,hl=>by
    unfold Region.rm at h
    cases ho:ops[d]? with
    |none=>rw [ho] at h;simp at h
    |some o=>
      rw [ho] at h
      obtain ⟨e,he,h1⟩:=Array.any_eq_true'.1 h;simp only [Bool.and_eq_true,Bool.or_eq_true,beq_iff_eq] at h1
      have hle:=hc d o ho hl e he h1.1
      rcases h1.2 with h2|h2
      · rw [<- h2];exact hle
      · exact Region.zL hc fuel e.on h2 hle
theorem Region.BV {listed:Array Bool} {i d fuel:Nat} (hc:mH md ops listed) (hr:Region.rm md ops i fuel d=true) (hun:listed.getD i true=false):d ∉ Region.ready md ops listed:=by
  intro hd;obtain ⟨_,o,ho,hall⟩:=mem_ready.1 hd
  have hi:listed.getD i false=true:=by
    cases fuel with
    |zero=>simp [Region.rm] at hr
    |succ n=>
      unfold Region.rm at hr
      rw [ho] at hr
      obtain ⟨e,he,h1⟩:=Array.any_eq_true'.1 hr;simp only [Bool.and_eq_true,Bool.or_eq_true,beq_iff_eq] at h1
      have hle:=hall e he h1.1
      rcases h1.2 with h2|h2
      · rw [<- h2];exact hle
      · exact Region.zL hc n e.on h2 hle
  rcases Nat.lt_or_ge i listed.size with h'|h'
  · simp [h'] at hun hi
    rw [hun] at hi
    cases hi
  · simp [Array.getElem?_eq_none h'] at hun
def cI (P:Program) (md:Region.Mode) (ops:Array Oper) (Q:Exit ->Act ->World ->Prop) (S:World ->Prop) (ds:List Nat):Nat ->Array Bool ->Act ->World ->Prop
  |0,listed,a,w=>Region.ready md ops listed=[] /\ Q .normal a w
  |fuel+1,listed,a,w=>
    (Region.ready md ops listed=[] ->Q .normal a w) /\
    ∀ i ∈ Region.ready md ops listed,wpOp P ops Q i (fun a' w'=>(i ∉ ds ->S w ->S w') /\ cI P md ops Q S ds fuel (listed.setIfInBounds i true) a' w') a w
theorem yI:∀ (fuel:Nat) (listed:Array Bool) (a:Act) (w:World),cI P md ops Q S ds fuel listed a w ->wpAny P md ops Q fuel listed a w
  |0,_,_,_,h=>h
  |fuel+1,_,_,_,h=>⟨h.1,fun i hi=>wpOp_mono (fun a' w' h'=>yI fuel _ a' w' h'.2) (h.2 i hi)⟩
theorem BW {i:Nat} {oi:Oper} {v:Value} (hi:ops[i]?=some oi) (hsel:∀ (j:Nat) (o:Oper) cs b,ops[j]?=some o ->o.op≠ .select cs b)
    (hQ:∀ c a w,Q (.panic c) (a.put oi.dst v) w ->Q (.panic c) a w) (n:Nat):
    ∀ (fuel:Nat) (listed:Array Bool) (a:Act) (w:World),
      (∀ j oj,ops[j]?=some oj ->j≠i ->listed.getD j true=false ->(∀ e ∈ oj.after,Region.binds md e=true ->e.on≠i) ->oi.apart ops oj=true) ->
      mH md ops listed ->(∀ d ∈ ds,listed.getD d true=false ->Region.rm md ops i n d=true) ->
      i ∈ Region.ready md ops listed ->YieldsIf P ops S oi v a ->S w ->
      cI P md ops Q S ds fuel (listed.setIfInBounds i true) (a.put oi.dst v) w ->cI P md ops Q S ds (fuel+1) listed a w:=by
  intro fuel
  induction fuel with
  |zero=>
    intro listed a w _ _ _ hr hy hS H;refine ⟨fun h=>(by rw [h] at hr;cases hr),fun j hj=> ?_⟩
    by_cases hji:j=i
    · subst hji;exact hy.wpOp hi hS ⟨fun _ h=>h,H⟩
    have:=ready_mono hj hji
    rw [H.1] at this
    cases this
  |succ fuel ih=>
    intro listed a w hfree hc hd hr hy hS H;refine ⟨fun h=>(by rw [h] at hr;cases hr),fun j hj=> ?_⟩
    by_cases hji:j=i
    · subst hji;exact hy.wpOp hi hS ⟨fun _ h=>h,H⟩
    have h1:=H.2 j (ready_mono hj hji)
    obtain ⟨hjun,oj,hoj,hall⟩:=mem_ready.1 hj;have OM:=(mem_ready.1 hr).1
    have hnot:∀ e ∈ oj.after,Region.binds md e=true ->e.on≠i:=fun e he hb heq=>by
      have h1:=hall e he hb;rw [heq] at h1
      rcases Nat.lt_or_ge i listed.size with h'|h'
      · simp [h'] at OM h1;rw [OM] at h1;cases h1
      · simp [Array.getElem?_eq_none h'] at h1
    have hjd:j ∉ ds:=fun hm=>Region.BV hc (hd j hm hjun) OM hj
    have h2:=wpOp_putIf hoj (hfree j oj hoj hji hjun hnot) (fun cs b=>hsel i oi cs b hi) (fun cs b=>hsel j oj cs b hoj) hQ hy h1
    have hfree':∀ k ok,ops[k]?=some ok ->k≠i ->(listed.setIfInBounds j true).getD k true=false ->
        (∀ e ∈ ok.after,Region.binds md e=true ->e.on≠i) ->oi.apart ops ok=true:=fun k ok hk hki hun hno=>by
      refine hfree k ok hk hki ?_ hno
      by_cases hjk:j=k
      · subst hjk;exact hjun
      rw [getD_set_ne true hjk] at hun;exact hun
    have hd':∀ d ∈ ds,(listed.setIfInBounds j true).getD d true=false ->Region.rm md ops i n d=true:=fun d hm hun=>by
      refine hd d hm ?_
      by_cases hjk:j=d
      · subst hjk;exact hjun
      rw [getD_set_ne true hjk] at hun;exact hun
    refine wpOp_mono (fun a' w' h3=>⟨h3.2.1,ih (listed.setIfInBounds j true) a' w' hfree' (hc.set hj) hd' (ready_mono hr (Ne.symm hji)) h3.1 (h3.2.1 hjd hS) ?_⟩) h2;rw [Array.setIfInBounds_comm _ _ hji];exact h3.2.2
theorem EW {i:Nat} {oi:Oper} {v:Value} (hi:ops[i]?=some oi) (hsel:∀ (j:Nat) (o:Oper) cs b,ops[j]?=some o ->o.op≠ .select cs b)
    (hQ:∀ c a w,Q (.panic c) (a.put oi.dst v) w ->Q (.panic c) a w):
    ∀ (fuel:Nat) (listed:Array Bool) (a:Act) (w:World),
      (∀ j oj,ops[j]?=some oj ->j≠i ->listed.getD j true=false ->(∀ e ∈ oj.after,Region.binds md e=true ->e.on≠i) ->oi.apart ops oj=true) ->
      i ∈ Region.ready md ops listed ->Yields P ops oi v a ->
      cI P md ops Q S ds fuel (listed.setIfInBounds i true) (a.put oi.dst v) w ->cI P md ops Q S ds (fuel+1) listed a w:=by
  intro fuel
  induction fuel with
  |zero=>
    intro listed a w _ hr hy H;refine ⟨fun h=>(by rw [h] at hr;cases hr),fun j hj=> ?_⟩
    by_cases hji:j=i
    · subst hji;exact (hy.yieldsIf (S:=fun _=>True)).wpOp hi trivial ⟨fun _ h=>h,H⟩
    have:=ready_mono hj hji
    rw [H.1] at this
    cases this
  |succ fuel ih=>
    intro listed a w hfree hr hy H;refine ⟨fun h=>(by rw [h] at hr;cases hr),fun j hj=> ?_⟩
    by_cases hji:j=i
    · subst hji;exact (hy.yieldsIf (S:=fun _=>True)).wpOp hi trivial ⟨fun _ h=>h,H⟩
    have h1:=H.2 j (ready_mono hj hji)
    obtain ⟨hjun,oj,hoj,hall⟩:=mem_ready.1 hj;have OM:=(mem_ready.1 hr).1
    have hnot:∀ e ∈ oj.after,Region.binds md e=true ->e.on≠i:=fun e he hb heq=>by
      have h1:=hall e he hb;rw [heq] at h1
      rcases Nat.lt_or_ge i listed.size with h'|h'
      · simp [h'] at OM h1;rw [OM] at h1;cases h1
      · simp [Array.getElem?_eq_none h'] at h1
    have h2:=wpOp_put hoj (hfree j oj hoj hji hjun hnot) (fun cs b=>hsel i oi cs b hi) (fun cs b=>hsel j oj cs b hoj) hQ hy h1
    have hfree':∀ k ok,ops[k]?=some ok ->k≠i ->(listed.setIfInBounds j true).getD k true=false ->
        (∀ e ∈ ok.after,Region.binds md e=true ->e.on≠i) ->oi.apart ops ok=true:=fun k ok hk hki hun hno=>by
      refine hfree k ok hk hki ?_ hno
      by_cases hjk:j=k
      · subst hjk;exact hjun
      rw [getD_set_ne true hjk] at hun;exact hun
    refine wpOp_mono (fun a' w' h3=>⟨h3.2.1,ih (listed.setIfInBounds j true) a' w' hfree' (ready_mono hr (Ne.symm hji)) h3.1 ?_⟩) h2;rw [Array.setIfInBounds_comm _ _ hji];exact h3.2.2
theorem De {i:Nat} {oi:Oper} {v:Value} {fuel:Nat} {listed:Array Bool} {a:Act} {w:World} (hi:ops[i]?=some oi)
    (hs:Region.noSelect ops=true) (hf:Region.free md ops listed i=true) (hr:(Region.ready md ops listed).contains i=true)
    (hc:Region.zK md ops listed=true) (hl:Region.MW md ops listed ds i=true)
    (hQ:∀ c a w,Q (.panic c) (a.put oi.dst v) w ->Q (.panic c) a w) (hy:YieldsIf P ops S oi v a) (hS:S w)
    (h:cI P md ops Q S ds fuel (listed.setIfInBounds i true) (a.put oi.dst v) w):cI P md ops Q S ds (fuel+1) listed a w:=
  BW hi (Region.noSelect_spec hs) hQ ops.size fuel listed a w (Region.free_spec hi hf) (Region.Gg hc)
    (fun d hm hun=>by have:=List.all_eq_true.1 hl d hm;rw [hun] at this;simpa using this) (by simpa using hr) hy hS h
theorem EX {rs:List Nat} {fuel:Nat} {listed:Array Bool} {a:Act} {w:World} (hr:Region.ready md ops listed=rs) (hne:rs≠[])
    (h:∀ i ∈ rs,wpOp P ops Q i (fun a' w'=>(i ∉ ds ->S w ->S w') /\ cI P md ops Q S ds fuel (listed.setIfInBounds i true) a' w') a w):cI P md ops Q S ds (fuel+1) listed a w:=
  ⟨fun h0=>absurd (hr ▸ h0) hne,hr ▸ h⟩
theorem Df {listed:Array Bool} {a:Act} {w:World} (hr:Region.ready md ops listed=[]) (h:Q .normal a w):
    ∀ fuel,cI P md ops Q S ds fuel listed a w
  |0=>⟨hr,h⟩
  |_+1=>⟨fun _=>h,by rw [hr];simp⟩
theorem Dg {id:Nat} {a:Act} {w:World} (hm:P.follows .mixedOrders=true)
    (h:cI P .any ops Q S ds ops.size (Array.replicate ops.size false) a {w with drawn:=w.drawn+1}):(Code.region id ops true).wp P Q a w:=
  wp_region_any hm (yI _ _ _ _ h)
end
section
variable {P:Program} {ops:Array Oper} {Q:Exit ->Act ->World ->Prop} {md:Region.Mode} {S:World ->Prop} {ds:List Nat}
def jc (P:Program) (md:Region.Mode) (ops:Array Oper) (Q:Exit ->Act ->World ->Prop) (S:World ->Prop) (ds:List Nat) (fuel:Nat) (listed:Array Bool) (a:Act) (w:World) (rs:List Nat):Prop:=
  ∀ i ∈ rs,wpOp P ops Q i (fun a' w'=>(i ∉ ds ->S w ->S w') /\ cI P md ops Q S ds fuel (listed.setIfInBounds i true) a' w') a w
theorem jc.nil {fuel:Nat} {listed:Array Bool} {a:Act} {w:World}:jc P md ops Q S ds fuel listed a w []:=fun _ h=>by cases h
theorem jc.cons {fuel:Nat} {listed:Array Bool} {a:Act} {w:World} {i:Nat} {o:Oper} {rs:List Nat} (ho:ops[i]?=some o) (hd:i ∉ ds)
    (h:∀ K':Act ->World ->Prop,Shut (∀ a w,S w ->(S w ->cI P md ops Q S ds fuel (listed.setIfInBounds i true) a w) ->K' a w) ->if Region.wanted o (yielded ops a.tmps)=true then Oper.wp P o a w K' Q else K' (a.put o.dst undef) w)
    (hs:jc P md ops Q S ds fuel listed a w rs):jc P md ops Q S ds fuel listed a w (i::rs):=fun j hj=>by
  rcases List.mem_cons.1 hj with rfl|hj
  · exact wpOp_step ho (fun K' hK=>h K' (fun a w hS hW=>hK a w ⟨fun _ _=>hS,hW hS⟩))
  · exact hs j hj
theorem jc.OO {fuel:Nat} {listed:Array Bool} {a:Act} {w:World} {i:Nat} {o:Oper} {rs:List Nat} (ho:ops[i]?=some o) (hd:i ∈ ds)
    (h:∀ K':Act ->World ->Prop,Shut (∀ a w,cI P md ops Q S ds fuel (listed.setIfInBounds i true) a w ->K' a w) ->if Region.wanted o (yielded ops a.tmps)=true then Oper.wp P o a w K' Q else K' (a.put o.dst undef) w)
    (hs:jc P md ops Q S ds fuel listed a w rs):jc P md ops Q S ds fuel listed a w (i::rs):=fun j hj=>by
  rcases List.mem_cons.1 hj with rfl|hj
  · exact wpOp_step ho (fun K' hK=>h K' (fun a w hW=>hK a w ⟨fun hn=>absurd hd hn,hW⟩))
  · exact hs j hj
theorem rq {rs:List Nat} {fuel:Nat} {listed:Array Bool} {a:Act} {w:World} (hr:Region.ready md ops listed=rs) (hne:rs≠[])
    (h:jc P md ops Q S ds fuel listed a w rs):cI P md ops Q S ds (fuel+1) listed a w:=EX hr hne h
theorem dB {id n:Nat} {a:Act} {w:World} (l:Array Bool) (hm:P.follows .mixedOrders=true) (hn:ops.size=n) (hl:Array.replicate n false=l) (hS:S w.drew)
    (h:S w.drew ->cI P .any ops Q S ds n l a w.drew):(Code.region id ops true).wp P Q a w:=by
  subst hn;subst hl;exact Dg hm (h hS)
def ID (md:Region.Mode) (ops:Array Oper) (ds:List Nat) (l l':Array Bool) (i:Nat):Bool:=
  Region.noSelect ops && Region.free md ops l i && (Region.ready md ops l).contains i && Region.zK md ops l && Region.MW md ops l ds i && (l.setIfInBounds i true==l')
theorem gF {i:Nat} {N:Option Tmp} {oi:Oper} {v:Value} {fuel:Nat} {l:Array Bool} {a:Act} {w:World} (l':Array Bool) (hi:ops[i]?=some oi) (hN:oi.dst=N) (hc:ID md ops ds l l' i=true)
    (hQ:∀ c a w,Q (.panic c) (a.put oi.dst v) w ->Q (.panic c) a w) (hy:YieldsIf P ops S oi v a) (hS:S w) {a':Act} (ha:a.put N v=a')
    (h:cI P md ops Q S ds fuel l' a' w):cI P md ops Q S ds (fuel+1) l a w:=by
  subst ha;subst hN;simp only [ID,Bool.and_eq_true,beq_iff_eq] at hc
  obtain ⟨⟨⟨⟨⟨h1,h2⟩,h3⟩,h4⟩,h5⟩,h6⟩:=hc;subst h6;exact De hi h1 h2 h3 h4 h5 hQ hy hS h
def Vl (md:Region.Mode) (ops:Array Oper) (l l':Array Bool) (i:Nat):Bool:=
  Region.noSelect ops && Region.free md ops l i && (Region.ready md ops l).contains i && (l.setIfInBounds i true==l')
theorem tg {i:Nat} {N:Option Tmp} {oi:Oper} {v:Value} {fuel:Nat} {l:Array Bool} {a:Act} {w:World} (l':Array Bool) (hi:ops[i]?=some oi) (hN:oi.dst=N) (hc:Vl md ops l l' i=true)
    (hQ:∀ c a w,Q (.panic c) (a.put oi.dst v) w ->Q (.panic c) a w) (hy:Yields P ops oi v a) {a':Act} (ha:a.put N v=a')
    (h:cI P md ops Q S ds fuel l' a' w):cI P md ops Q S ds (fuel+1) l a w:=by
  subst ha;subst hN;simp only [Vl,Bool.and_eq_true,beq_iff_eq] at hc
  obtain ⟨⟨⟨h1,h2⟩,h3⟩,h6⟩:=hc;subst h6;exact EW hi (Region.noSelect_spec h1) hQ fuel l a w (Region.free_spec hi h2) (by simpa using h3) hy h
def AP (md:Region.Mode) (ops:Array Oper) (l l':Array Bool) (i:Nat):Bool:=(Region.ready md ops l==[i]) && (l.setIfInBounds i true==l')
theorem QL {i:Nat} {N:Option Tmp} {oi:Oper} {fuel:Nat} {l:Array Bool} {a:Act} {w:World} (l':Array Bool) (hi:ops[i]?=some oi) (hN:oi.dst=N) (hc:AP md ops l l' i=true) (hd:i ∉ ds)
    (h:∀ K:Act ->World ->Prop,Shut (∀ a' w',S w' ->(S w' ->cI P md ops Q S ds fuel l' a' w') ->K a' w') ->if Region.wanted oi (yielded ops a.tmps)=true then Oper.wp P oi a w K Q else K (a.put N undef) w):
    cI P md ops Q S ds (fuel+1) l a w:=by
  subst hN;simp only [AP,Bool.and_eq_true,beq_iff_eq] at hc
  obtain ⟨h1,h2⟩:=hc;subst h2;exact rq h1 (by simp) (jc.cons hi hd (fun K hK=>h K hK) jc.nil)
theorem AeC {i:Nat} {N:Option Tmp} {oi:Oper} {fuel:Nat} {l:Array Bool} {a:Act} {w:World} (l':Array Bool) (hi:ops[i]?=some oi) (hN:oi.dst=N) (hc:AP md ops l l' i=true) (hd:i ∈ ds)
    (h:∀ K:Act ->World ->Prop,Shut (∀ a' w',cI P md ops Q S ds fuel l' a' w' ->K a' w') ->if Region.wanted oi (yielded ops a.tmps)=true then Oper.wp P oi a w K Q else K (a.put N undef) w):
    cI P md ops Q S ds (fuel+1) l a w:=by
  subst hN;simp only [AP,Bool.and_eq_true,beq_iff_eq] at hc
  obtain ⟨h1,h2⟩:=hc;subst h2;exact rq h1 (by simp) (jc.OO hi hd (fun K hK=>h K hK) jc.nil)
theorem QM {l:Array Bool} {a:Act} {w:World} {n:Nat} (hr:(Region.ready md ops l==[])=true) (h:Q .normal a w):cI P md ops Q S ds n l a w:=Df (by simpa using hr) h n
theorem Am6 {i j:Nat} {Ni Nj:Option Tmp} {oi oj:Oper} {fuel:Nat} {l:Array Bool} {a:Act} {w:World} (li lj:Array Bool) (hi:ops[i]?=some oi) (hj:ops[j]?=some oj) (hNi:oi.dst=Ni) (hNj:oj.dst=Nj)
    (hc:(Region.ready md ops l==[i,j] && l.setIfInBounds i true==li && l.setIfInBounds j true==lj)=true) (hdi:i ∉ ds) (hdj:j ∉ ds)
    (h1:∀ K:Act ->World ->Prop,Shut (∀ a' w',S w' ->(S w' ->cI P md ops Q S ds fuel li a' w') ->K a' w') ->if Region.wanted oi (yielded ops a.tmps)=true then Oper.wp P oi a w K Q else K (a.put Ni undef) w)
    (h2:∀ K:Act ->World ->Prop,Shut (∀ a' w',S w' ->(S w' ->cI P md ops Q S ds fuel lj a' w') ->K a' w') ->if Region.wanted oj (yielded ops a.tmps)=true then Oper.wp P oj a w K Q else K (a.put Nj undef) w):
    cI P md ops Q S ds (fuel+1) l a w:=by
  subst hNi;subst hNj;simp only [Bool.and_eq_true,beq_iff_eq] at hc
  obtain ⟨⟨h3,h4⟩,h5⟩:=hc;subst h4;subst h5;exact rq h3 (by simp) (jc.cons hi hdi (fun K hK=>h1 K hK) (jc.cons hj hdj (fun K hK=>h2 K hK) jc.nil))
def AQ:Act ->List (Tmp×Value) ->Act
  |a,[]=>a
  |a,(n,v)::r=>AQ (a.put (some n) v) r
theorem AeD {σ:Type} {fuel:Nat} {l:Array Bool} {a:Act} {w:World} (fuel':Nat) (l':Array Bool) (ns:σ ->List (Tmp×Value)) (F:σ ->World ->Prop)
    (AeE:∀ s w',F s w' ->cI P md ops Q S ds fuel' l' (AQ a (ns s)) w')
    (h:(∀ s w',F s w' ->cI P md ops Q S ds fuel' l' (AQ a (ns s)) w') ->cI P md ops Q S ds fuel l a w):cI P md ops Q S ds fuel l a w:=h AeE
theorem MX {fuel:Nat} {l:Array Bool} {a a':Act} {w:World} (ha:a=a') (h:cI P md ops Q S ds fuel l a' w):cI P md ops Q S ds fuel l a w:=by
  subst ha;exact h
theorem call_ {oi:Oper} {N:Option Tmp} {a:Act} {w:World} {K:Act ->World ->Prop} (f:FuncId) (args:Array Value) (hw:Region.wanted oi (yielded ops a.tmps)=true) (hN:oi.dst=N) (hrun:(execOp a.eval oi).run P w= .ok (.enter f args) w)
    (h:Calls P f args w fun e w'=>∃ v,e= .returned v /\ K (a.put N v) w'):if Region.wanted oi (yielded ops a.tmps)=true then Oper.wp P oi a w K Q else K (a.put N undef) w:=by
  rw [aq hw];subst hN;unfold Oper.wp;rw [hrun,Oper.upon_enter];refine h.mono fun e w'' hh=> ?_
  obtain ⟨v,rfl,hk⟩:=hh;exact hk
theorem Gh {f:FuncId} {fn:Func} (hf:P.funcs[f]?=some fn) (hname:(fn.name== "runtime.NumGoroutine")=false) (hb:fn.body.isSome=true) (args:Array Value) (w:World):(callFunc f args).run P w= .ok (.enter f args) w:=by
  have h1:fn.name≠ "runtime.NumGoroutine" :=by simpa using hname
  obtain ⟨c,hc⟩:=Option.isSome_iff_exists.1 hb
  simp [callFunc,hf,h1,hc]
theorem i9 {oi:Oper} {N:Option Tmp} {a:Act} {w:World} {K:Act ->World ->Prop} {f:FuncId} {fn:Func} {as:Array Operand} {ts:Array TypeId} (hf:P.funcs[f]?=some fn) (hname:(fn.name== "runtime.NumGoroutine")=false) (hb:fn.body.isSome=true) (args:Array Value)
    (hw:Region.wanted oi (yielded ops a.tmps)=true) (hN:oi.dst=N) (hop:oi.op= .call {callee:= .value (.func f),args:=as,argTypes:=ts}) (hargs:as.map a.eval=args)
    (h:Calls P f args w fun e w'=>∃ v,e= .returned v /\ K (a.put N v) w'):if Region.wanted oi (yielded ops a.tmps)=true then Oper.wp P oi a w K Q else K (a.put N undef) w:=by
  refine call_ f args hw hN ?_ h;have he:=Gh hf hname hb args w;unfold execOp
  simp [hop,resolve,Deferred.ofValue,invoke,Act.eval,hargs,he]
theorem uf {rest:List Oper} {oi:Oper} {a:Act} {w:World} (N:Option Tmp) (hd:oi.dst=N) (hg:oi.guard=none) {f:FuncId} {fn:Func} {as:Array Operand} {ts:Array TypeId} (hf:P.funcs[f]?=some fn) (hname:(fn.name== "runtime.NumGoroutine")=false) (hb:fn.body.isSome=true) (args:Array Value)
    (hop:oi.op= .call {callee:= .value (.func f),args:=as,argTypes:=ts}) (hargs:as.map a.eval=args)
    (h:Calls P f args w fun e w'=>∃ v,e= .returned v /\ wpList P ops Q rest (a.put N v) w'):wpList P ops Q (oi::rest) a w:=by
  refine wpList_plain hg fun K hK=> ?_
  have he:=Gh hf hname hb args w
  have hrun:(execOp a.eval oi).run P w= .ok (.enter f args) w:=by
    unfold execOp
    simp [hop,resolve,Deferred.ofValue,invoke,Act.eval,hargs,he]
  unfold Oper.wp;rw [hrun,Oper.upon_enter];refine h.mono fun e w'' hh=> ?_
  obtain ⟨v,rfl,hk⟩:=hh;subst hd;exact hK _ _ hk
theorem wB {oi:Oper} {a:Act} {w w1:World} {K:Act ->World ->Prop} (hw:Region.wanted oi (yielded ops a.tmps)=true) (hN:oi.dst=none) (hrun:(execOp a.eval oi).run P w= .ok .skip w1)
    (h:K a w1):if Region.wanted oi (yielded ops a.tmps)=true then Oper.wp P oi a w K Q else K (a.put none undef) w:=by
  rw [aq hw];unfold Oper.wp;rw [hrun]
  show K (a.put oi.dst undef) w1
  rw [hN];exact h
theorem ag {oi:Oper} {N:Option Tmp} {a:Act} {w:World} {K:Act ->World ->Prop} (hw:Region.wanted oi (yielded ops a.tmps)=false) (h:K (a.put N undef) w):if Region.wanted oi (yielded ops a.tmps)=true then Oper.wp P oi a w K Q else K (a.put N undef) w:=by
  rw [hw,av (by simp)];exact h
theorem gK (n:Int):IntKind.i64.wrap n=Go.RowKit.wrap64 n:=by unfold Go.RowKit.wrap64;exact IntKind.wrap_i64 n
theorem kD (n:Int):IntKind.i32.wrap n=Go.RowKit.wrap32 n:=by unfold Go.RowKit.wrap32;exact IntKind.wrap_i32 n
end
end Go.Proofs.ah.cY
namespace Go.Proofs.ah.cY
open Go.Proofs.ah.bT (aa)
def xL (md:Region.Mode) (o:Oper):List Nat:=(o.after.toList.filter (fun e=>Region.binds md e)).map (fun e=>e.on)
def Gi (md:Region.Mode) (ops:Array Oper) (i:Nat) (oi:Oper):List Nat:=(List.range ops.size).filter fun j=> !(j==i) && match ops[j]? with
  |some oj=> !(oj.after.any (fun e=>Region.binds md e && e.on==i)||oi.apart ops oj)
  |none=>false
def gB (md:Region.Mode) (ops:Array Oper):Bool×List (List Nat×List Nat):=(Region.noSelect ops,(List.range ops.size).map fun i=>match ops[i]? with
  |some o=>(xL md o,Gi md ops i o)
  |none=>([],[]))
def tj (T:List (List Nat×List Nat)) (l:List Bool) (i:Nat):Bool:= !l.getD i true && match T[i]? with
  |some r=>r.1.all (fun j=>l.getD j false)
  |none=>false
def wO (T:List (List Nat×List Nat)) (l:List Bool):List Nat:=(List.range T.length).filter (tj T l)
def IE (T:List (List Nat×List Nat)) (l:List Bool) (i:Nat):Bool:=match T[i]? with
  |some r=>r.2.all (fun j=>l.getD j true)
  |none=>false
def Cq (T:List (List Nat×List Nat)) (l:List Bool):Bool:=(List.range T.length).all fun j=> !l.getD j false||match T[j]? with
  |some r=>r.1.all (fun k=>l.getD k false)
  |none=>true
def AR (T:List (List Nat×List Nat)) (i:Nat):Nat ->Nat ->Bool
  |0,_=>false
  |fuel+1,d=>match T[d]? with
    |some r=>r.1.any fun j=>j==i||AR T i fuel j
    |none=>false
def MY (T:List (List Nat×List Nat)) (l:List Bool) (ds:List Nat) (i:Nat):Bool:=ds.all fun d=>l.getD d true||AR T i T.length d
section
variable {md:Region.Mode} {ops:Array Oper} {T:Bool×List (List Nat×List Nat)} {l l' li lj lk:Array Bool} {ds:List Nat} {i j k:Nat}
theorem gd (l:Array Bool) (j:Nat) (b:Bool):l.getD j b=l.toList.getD j b:=by simp [Array.getD_eq_getD_getElem?,List.getD_eq_getElem?_getD]
theorem Fv (o:Oper) (p:Nat ->Bool):o.after.all (fun e=> !Region.binds md e||p e.on)=(xL md o).all p:=by
  unfold xL;rw [<- Array.all_toList]
  induction o.after.toList with
  |nil=>rfl
  |cons e r ih=>
    rw [List.all_cons,ih,List.filter_cons]
    cases h:Region.binds md e<;>simp
theorem OP (o:Oper) (p:Nat ->Bool):o.after.any (fun e=>Region.binds md e && p e.on)=(xL md o).any p:=by
  unfold xL;rw [<- Array.any_toList]
  induction o.after.toList with
  |nil=>rfl
  |cons e r ih=>
    rw [List.any_cons,ih,List.filter_cons]
    cases h:Region.binds md e<;>simp
theorem tr:(gB md ops).2.length=ops.size:=by simp [gB]
theorem xM {o:Oper} (h:ops[i]?=some o):(gB md ops).2[i]?=some (xL md o,Gi md ops i o):=by
  have hi:=(Array.getElem?_eq_some_iff.1 h).1;unfold gB;rw [List.getElem?_map,List.getElem?_range hi,Option.map_some,h]
theorem xN (h:ops[i]?=none):(gB md ops).2[i]?=none:=by
  have hi:ops.size<=i:=Array.getElem?_eq_none_iff.1 h;exact List.getElem?_eq_none (by rw [tr];exact hi)
theorem Lk:tj (gB md ops).2 l.toList i=(!l.getD i true && ((ops[i]?).map (·.after.all fun e=> !Region.binds md e||l.getD e.on false)).getD false):=by
  unfold tj;rw [gd]
  cases h:ops[i]? with
  |none=>rw [xN h];rfl
  |some o=>
    rw [xM h];simp only [Option.map_some,Option.getD_some];rw [<- Fv];simp only [gd]
theorem zM:Region.ready md ops l=wO (gB md ops).2 l.toList:=by
  unfold Region.ready wO;rw [tr];refine List.filter_congr (fun i _=> ?_);rw [Lk]
theorem MZ:Region.free md ops l i=IE (gB md ops).2 l.toList i:=by
  unfold Region.free IE
  cases h:ops[i]? with
  |none=>rw [xN h]
  |some oi=>
    rw [xM h];simp only [Gi];rw [List.all_filter]
    congr 1
    funext j
    rw [gd]
    cases hj:ops[j]? with
    |none=>cases (j==i)<;>cases (l.toList.getD j true)<;>simp
    |some oj=>
      cases (j==i)<;>cases (l.toList.getD j true)<;>cases (oj.after.any (fun e=>Region.binds md e && e.on==i)||oi.apart ops oj)<;>simp_all
theorem OQ:Region.zK md ops l=Cq (gB md ops).2 l.toList:=by
  unfold Region.zK Cq;rw [tr]
  congr 1
  funext j
  rw [gd]
  cases h:ops[j]? with
  |none=>rw [xN h]
  |some o=>
    rw [xM h]
    simp only
    rw [<- Fv];simp only [gd]
theorem IG:∀ (fuel d:Nat),Region.rm md ops i fuel d=AR (gB md ops).2 i fuel d
  |0,_=>rfl
  |fuel+1,d=>by
    unfold Region.rm AR
    cases h:ops[d]? with
    |none=>rw [xN h]
    |some o=>
      rw [xM h]
      simp only
      rw [<- OP]
      congr 1
      funext e
      rw [IG fuel]
theorem Vm:Region.MW md ops l ds i=MY (gB md ops).2 l.toList ds i:=by
  unfold Region.MW MY;rw [tr]
  congr 1
  funext d
  rw [gd,IG]
theorem Bx (h:tj T.2 l.toList i=true) (hT:gB md ops=T):(Region.ready md ops l).contains i=true:=by
  subst hT;rw [zM];unfold wO;rw [List.contains_iff_mem,List.mem_filter,List.mem_range];refine ⟨?_,h⟩;unfold tj at h
  rw [Bool.and_eq_true] at h
  cases hq:(gB md ops).2[i]? with
  |none=>rw [hq] at h;simp at h
  |some r=>exact (List.getElem?_eq_some_iff.1 hq).1
theorem Dh (h:(l.toList.set i true==l'.toList)=true):(l.setIfInBounds i true==l')=true:=by
  rw [beq_iff_eq] at h|-
  apply Array.ext'
  rw [Array.toList_setIfInBounds];exact h
def Vn (T:Bool×List (List Nat×List Nat)) (l l':List Bool) (i:Nat):Bool:=T.1 && IE T.2 l i && tj T.2 l i && (l.set i true==l')
theorem rZ (hT:gB md ops=T) (h:Vn T l.toList l'.toList i=true):Vl md ops l l' i=true:=by
  simp only [Vn,Bool.and_eq_true] at h
  obtain ⟨⟨⟨h1,h2⟩,h3⟩,h4⟩:=h;have h5:=Bx h3 hT;have h6:=Dh h4;subst hT;simp only [Vl,Bool.and_eq_true];exact ⟨⟨⟨h1,by rw [MZ];exact h2⟩,h5⟩,h6⟩
def QN (T:Bool×List (List Nat×List Nat)) (ds:List Nat) (l l':List Bool) (i:Nat):Bool:=T.1 && IE T.2 l i && tj T.2 l i && Cq T.2 l && MY T.2 l ds i && (l.set i true==l')
theorem Vo (hT:gB md ops=T) (h:QN T ds l.toList l'.toList i=true):ID md ops ds l l' i=true:=by
  simp only [QN,Bool.and_eq_true] at h
  obtain ⟨⟨⟨⟨⟨h1,h2⟩,h3⟩,h4⟩,h5⟩,h6⟩:=h;have h7:=Bx h3 hT;have h8:=Dh h6;subst hT;simp only [ID,Bool.and_eq_true];exact ⟨⟨⟨⟨⟨h1,by rw [MZ];exact h2⟩,h7⟩,by rw [OQ];exact h4⟩,by rw [Vm];exact h5⟩,h8⟩
theorem Gj (hT:gB md ops=T) (h:(wO T.2 l.toList==[i] && l.toList.set i true==l'.toList)=true):AP md ops l l' i=true:=by
  simp only [Bool.and_eq_true] at h
  obtain ⟨h1,h2⟩:=h;subst hT;simp only [AP,Bool.and_eq_true];exact ⟨by rw [zM];exact h1,Dh h2⟩
theorem Aaj (hT:gB md ops=T) (h:(wO T.2 l.toList==[i,j] && l.toList.set i true==li.toList && l.toList.set j true==lj.toList)=true):(Region.ready md ops l==[i,j] && l.setIfInBounds i true==li && l.setIfInBounds j true==lj)=true:=by
  simp only [Bool.and_eq_true] at h|-
  obtain ⟨⟨h1,h2⟩,h3⟩:=h;subst hT;exact ⟨⟨by rw [zM];exact h1,Dh h2⟩,Dh h3⟩
theorem M0 (hT:gB md ops=T) (h:(wO T.2 l.toList==[])=true):(Region.ready md ops l==[])=true:=by
  subst hT;rw [zM];exact h
def upM (B:List Nat) (d:Nat):List Nat ->Nat
  |[]=>0
  |n::r=>(2 ^ n|||(if n<d then B.getD n 0 else 0))|||upM B d r
def cS (T:List (List Nat×List Nat)) (B:List Nat):Bool:=(List.range T.length).all fun d=>match T[d]? with
  |some r=>(B.getD d 0|||upM B d r.1)==upM B d r.1
  |none=>false
theorem M3 {B:List Nat} {d i:Nat}:∀ {ns:List Nat},(upM B d ns).testBit i=true ->∃ n ∈ ns,n=i \/ (n<d /\ (B.getD n 0).testBit i=true)
  |[],h=>by simp [upM] at h
  |n::r,h=>by
    unfold upM at h
    rw [Nat.testBit_or,Nat.testBit_or,Bool.or_eq_true,Bool.or_eq_true] at h
    rcases h with (h|h)|h
    · rw [Nat.testBit_two_pow] at h
      exact ⟨n,List.mem_cons_self,.inl (by simpa using h)⟩
    · by_cases hn:n<d
      · rw [aq hn] at h
        exact ⟨n,List.mem_cons_self,.inr ⟨hn,h⟩⟩
      · rw [av hn] at h
        simp at h
    · obtain ⟨m,hm,h2⟩:=M3 h
      exact ⟨m,List.mem_cons_of_mem _ hm,h2⟩
theorem Fw {T:List (List Nat×List Nat)} {B:List Nat} (hB:cS T B=true):∀ (fuel d:Nat),d<fuel ->d<T.length ->(B.getD d 0).testBit i=true ->AR T i fuel d=true
  |0,d,h,_,_=>by omega
  |fuel+1,d,h,hd,hb=>by
    have h1:=List.all_eq_true.1 hB d (List.mem_range.2 hd)
    cases hr:T[d]? with
    |none=>rw [hr] at h1;simp at h1
    |some r=>
      rw [hr] at h1
      simp only [beq_iff_eq] at h1
      have h2:(upM B d r.1).testBit i=true:=by rw [<- h1,Nat.testBit_or,hb,Bool.true_or]
      obtain ⟨n,hn,h3⟩:=M3 h2;unfold AR;rw [hr]
      simp only
      rw [List.any_eq_true];refine ⟨n,hn, ?_⟩
      rcases h3 with rfl|⟨h4,h5⟩
      · simp
      · rw [Fw hB fuel n (by omega) (by omega) h5,Bool.or_true]
def XQ (T:List (List Nat×List Nat)) (B:List Nat) (l:List Bool) (ds:List Nat) (i:Nat):Bool:=ds.all fun d=>l.getD d true||(decide (d<T.length) && (B.getD d 0).testBit i)
def M4 (T:Bool×List (List Nat×List Nat)) (B:List Nat) (ds:List Nat) (l l':List Bool) (i:Nat):Bool:=T.1 && IE T.2 l i && tj T.2 l i && Cq T.2 l && XQ T.2 B l ds i && (l.set i true==l')
theorem dm {B:List Nat} (hT:gB md ops=T) (hB:cS T.2 B=true) (h:M4 T B ds l.toList l'.toList i=true):ID md ops ds l l' i=true:=by
  refine Vo hT ?_;simp only [M4,QN,Bool.and_eq_true] at h|-
  obtain ⟨⟨⟨⟨⟨h1,h2⟩,h3⟩,h4⟩,h5⟩,h6⟩:=h;refine ⟨⟨⟨⟨⟨h1,h2⟩,h3⟩,h4⟩, ?_⟩,h6⟩;unfold XQ at h5
  unfold MY;rw [List.all_eq_true] at h5|-
  intro d hd;have h7:=h5 d hd;rw [Bool.or_eq_true,Bool.and_eq_true,decide_eq_true_eq] at h7
  rcases h7 with h7|⟨h8,h9⟩
  · rw [h7,Bool.true_or]
  · rw [Fw hB _ d h8 h8 h9,Bool.or_true]
theorem bF {P:Program} {Q:Exit ->Act ->World ->Prop} {S:World ->Prop} {n:Nat} {a:Act} {w:World} {B:List Nat} (hT:gB md ops=T) (hB:cS T.2 B=true) (h:aa (gB md ops=T) ->aa (cS T.2 B=true) ->cI P md ops Q S ds n l a w):cI P md ops Q S ds n l a w:=h ⟨hT⟩ ⟨hB⟩
end
def yJ:Code ->Nat ->Option (Array Oper)
  | .region id ops _,k=>if id==k then some ops else none
  | .seq a b,k=>match yJ a k with
    |some o=>some o
    |none=>yJ b k
  | .cond _ a b,k=>match yJ a k with
    |some o=>some o
    |none=>yJ b k
  | .block _ c,k=>yJ c k
  | .loop c,k=>yJ c k
  | .scope c,k=>yJ c k
  | .rangeFunc _ _ a b,k=>match yJ a k with
    |some o=>some o
    |none=>yJ b k
  |_,_=>none
def opsOf (f:Func) (k:Nat):Array Oper:=((f.body.bind fun c=>yJ c k)).getD #[]
end Go.Proofs.ah.cY
namespace Go.Proofs.ah.bT
open Go.RowKit
namespace Kd
section
end
section
end
end Kd
namespace Kd
def tag {α:Type} (f:Nat ->Nat) (d:Kd α):Kd (α×Nat) where
  sz:=d.sz
  E:=d.E
  K:=fun w x cs=>d.K w x.1 cs
  M:=fun w base ok x cs=>d.M w base (fun k=>ok k /\ f k=x.2) x.1 cs
  rG:=fun h=>d.rG h
  qg:=fun h=>d.qg h
  nQ:=fun hb h=>d.nQ hb h
  kS:=fun h=>d.kS h
  jM:=fun hok h=>d.jM (fun k hk=>⟨hok k hk.1,hk.2⟩) h
  jG:=fun h=>d.jM (fun _ hk=>⟨⟨hk.1.1,hk.2⟩,hk.1.2⟩) (d.jG h)
  nc:=fun hm h=>d.nc (fun k hk=>hm k hk.1) h
  nR:=fun hb h=>d.nR hb h
def raw (sz:Nat):Kd (List Value) where
  sz:=sz
  E:=[]
  K:=fun _ x cs=>cs=x /\ cs.length=sz /\ ∀ u ∈ cs,u.oneCell'=true
  M:=fun _ _ _ x cs=>cs=x /\ cs.length=sz /\ ∀ u ∈ cs,u.oneCell'=true
  rG:=fun h=>h.2.1
  qg:=fun h=>h.2.2
  nQ:=fun _ h=>h
  kS:=fun h=>h
  jM:=fun _ h=>h
  jG:=fun h=>h
  nc:=fun _ h=>h
  nR:=fun _ h=>h
def S {α:Type} (d:Kd α) (e:Nat) (w:World) (base:Nat) (ok:Nat ->Prop) (v:Value) (xs:List α):Prop:=∃ f,(tag f d).R e w base ok v xs.zipIdx
section
variable {α β:Type} {d:Kd α} {d':Kd β} {e e':Nat} {w w1 W:World} {base b:Nat} {ok ok' okv oku:Nat ->Prop} {u v:Value} {xs:List α} {ys:List β}
theorem kF (hE:d.E=[]) (h:d.R e w base ok v xs):d.R e w base (fun k=>some k=v.ownBlock) v xs:=by
  obtain ⟨h0,inner,ho,hr⟩:=h;refine ⟨fun k hk=>hk.symm,inner,ho,hr.ua (fun p c hp=>d.jM (fun k hk=> ?_) (d.jG hp))⟩;obtain ⟨_,_,_,q,hq,_⟩:=hk;rw [hE] at hq
  cases hq
theorem jm (d:Kd α) (e:Nat) (w:World) (base:Nat) (ok:Nat ->Prop):S d e w base ok (.slice none 0 0) []:=⟨fun _=>0,bX _ _ _ _ _⟩
end
section
end
section
open Classical in
end
def gap {α:Type} (f:Nat ->Nat) (d:Kd α) (i:Nat) (c:List Value):Kd (α×Nat) where
  sz:=d.sz
  E:=d.E
  K:=fun w x cs=>(x.2=i ->cs=c /\ cs.length=d.sz /\ ∀ u ∈ cs,u.oneCell'=true) /\ (x.2≠i ->d.K w x.1 cs)
  M:=fun w base ok x cs=>(x.2=i ->cs=c /\ cs.length=d.sz /\ ∀ u ∈ cs,u.oneCell'=true) /\ (x.2≠i ->d.M w base (fun k=>ok k /\ f k=x.2) x.1 cs)
  rG:=fun {w x cs} h=>by
    by_cases hx:x.2=i
    · exact (h.1 hx).2.1
    exact d.rG (h.2 hx)
  qg:=fun {w x cs} h=>by
    by_cases hx:x.2=i
    · exact (h.1 hx).2.2
    exact d.qg (h.2 hx)
  nQ:=fun hb h=>⟨h.1,fun hx=>d.nQ hb (h.2 hx)⟩
  kS:=fun h=>⟨h.1,fun hx=>d.kS (h.2 hx)⟩
  jM:=fun hok h=>⟨h.1,fun hx=>d.jM (fun k hk=>⟨hok k hk.1,hk.2⟩) (h.2 hx)⟩
  jG:=fun h=>⟨h.1,fun hx=>d.jM (fun _ hk=>⟨⟨hk.1.1,hk.2⟩,hk.1.2⟩) (d.jG (h.2 hx))⟩
  nc:=fun hm h=>⟨h.1,fun hx=>d.nc (fun k hk=>hm k hk.1) (h.2 hx)⟩
  nR:=fun hb h=>⟨h.1,fun hx=>d.nR hb (h.2 hx)⟩
def H {α:Type} (d:Kd α) (e:Nat) (w:World) (base:Nat) (ok:Nat ->Prop) (v:Value) (xs:List α) (i:Int) (oki:Nat ->Prop) (c:List Value):Prop:=
  (∀ k,oki k ->ok k) /\ ∃ f,(gap f d i.toNat c).R e w base (fun k=>ok k /\ ¬ oki k) v xs.zipIdx
section
open Classical in
end
section
end
end Kd
namespace Kd
theorem QO {α:Type} {R:α ->List Value ->Prop} {size:Nat} {ps:List α} {cs:List Value} (h:cD R size ps cs) (hs0:0<size) (hR:∀ p c,R p c ->∀ u ∈ c,u.oneCell'=true):∀ u ∈ cs,u.oneCell'=true:=by
  intro u hu;obtain ⟨q,hq,rfl⟩:=List.mem_iff_getElem.1 hu
  have hql:q / size<ps.length:=by
    rw [Nat.div_lt_iff_lt_mul hs0,<- h.1];exact hq
  refine hR _ _ (h.2 (q / size) _ (List.getElem?_eq_getElem hql)) _ ?_;rw [List.mem_iff_getElem?];refine ⟨q % size, ?_⟩;rw [List.getElem?_take,aq (Nat.mod_lt _ hs0),List.getElem?_drop,Nat.mul_comm,Nat.div_add_mod,List.getElem?_eq_getElem hq]
section
end
section
end
end Kd
section
variable {P:Program}
theorem AU (w:World) (base:Nat) (t ti ty e:TypeId) (i:TypeInfo) (z:Value) (size bytes:Nat) (ht:P.underlying t=some (.slice e)) {k:IntKind} (Vp:P.underlying ti=some (.int k)) (hi:P.info? e=some i) (hz:i.zero=some z)
    (hsize:i.size=size) (hby:i.bytes=bytes) (hzs:z.cells.size=size) (hsz:0<size) (hb0:0<bytes)
    (v:Value) (n:Nat) (xs:List Value) (hown:w.ownsRow base e size v n xs) (kx:IntKind) (m:Nat) (h1:∀ u ∈ (Builtin.zeroCells z.cells m).toList,u.oneCell'=true)
    (hbytes:(n+m)*bytes<=140737488355328) (hbase:base<=w.heap.size):
    ∃ v' w',(Builtin.append_ #[t,ti] ty #[v,.int kx m]).run P w= .ok v' w' /\ w'.ownsRow base e size v' (n+m) (xs++(Builtin.zeroCells z.cells m).toList) /\ w.grownBy w' v.ownBlock /\
      (v'.ownBlock=v.ownBlock \/ v'.ownBlock=some w.heap.size):=by
  subst hsize;subst hby;have hle:n+m<=140737488355328:=Nat.le_trans (Nat.le_mul_of_pos_right _ hb0) hbytes;have h63:n+m<=maxLen:=by simp only [maxLen];omega
  have hw:IntKind.i64.wrap (m:Int)=m:=by rw [IntKind.wrap_i64];omega
  have hw0:IntKind.i64.wrap 0=0:=by rw [IntKind.wrap_i64];rfl
  have hneg:¬ ((m:Int)<0):=by omega
  have hmb:m*i.bytes<=140737488355328:=Nat.le_trans (Nat.mul_le_mul_right _ (Nat.le_add_left m n)) hbytes
  have AeF:¬ (281474976710656<(m:Int)*(i.bytes:Int)):=by
    rw [<- Int.natCast_mul]
    omega
  have hsn:i.size≠0:=by omega
  obtain ⟨news,hnews⟩:∃ news,news=(Builtin.zeroCells z.cells m).toList:=⟨_,rfl⟩
  rw [<- hnews] at h1|-
  have hl:news.length=m*i.size:=by rw [hnews,Array.length_toList,size_zeroCells,hzs]
  have hna:Builtin.zeroCells z.cells m=news.toArray:=by rw [hnews]
  have hlen:(xs++news).length=(n+m)*i.size:=by rw [List.length_append,hown.1,hl,Nat.add_mul]
  have hnil:m=0 ->news=[]:=fun h=>List.eq_nil_of_length_eq_zero (by rw [hl,h,Nat.zero_mul])
  have grown:∀ (old:Nat),old<n+m ->∀ (row:Option Nat),
      (w.drew.alloc (.cells (xs.toArray++news.toArray++Builtin.zeroCells z.cells (grownCap w (n+m) old e - (n+m))) e)).ownsRow base e i.size
        (.slice (some ⟨w.heap.size,0,none⟩) (n+m) (grownCap w (n+m) old e)) (n+m) (xs++news) /\
      w.grownBy (w.drew.alloc (.cells (xs.toArray++news.toArray++Builtin.zeroCells z.cells (grownCap w (n+m) old e - (n+m))) e)) row:=by
    intro old ho row;have hge:=grownCap_ge w (n+m) old e;have hcm:grownCap w (n+m) old e<=maxLen:=grownCap_le_maxLen w (n+m) old e h63;refine ⟨⟨hlen,.inr ⟨w.heap.size,_,_,rfl,hbase,heap_alloc_new w.drew _,hge,hcm, ?_, ?_⟩⟩,⟨rfl,rfl,rfl,by simp,fun k hk _=>heap_alloc_old w.drew _ hk⟩⟩
    · simp only [Array.size_append,List.size_toArray,size_zeroCells,hzs,hown.1,hl,<- Nat.add_mul]
      congr 1
      omega
    · simp only [Array.toList_append,List.append_assoc]
      rw [<- List.append_assoc,<- hlen];exact List.take_left
  have runs:∀ (A:Option Addr) (cap:Nat),cap<n+m ->(Builtin.firstCells i.size n (.slice A n cap)).run P w.drew= .ok xs.toArray w.drew ->(Builtin.append_ #[t,ti] ty #[.slice A n cap,.int kx m]).run P w=
      .ok (.slice (some ⟨w.heap.size,0,none⟩) (n+m) (grownCap w (n+m) cap e)) (w.drew.alloc (.cells (xs.toArray++news.toArray++Builtin.zeroCells z.cells (grownCap w (n+m) cap e - (n+m))) e)):=by
    intro A cap hcap hfo;have hn:¬ (n+m<=cap):=by omega
    have h63':¬ (9223372036854775807<((n:Int)+(m:Int))):=by omega
    have hfit:=growslice_fits hcap hbytes;have h48':¬ (281474976710656<Builtin.nextslicecap (n+m) cap*i.bytes):=by omega
    by_cases hm:m=0
    · have hnl:=hnil hm
      subst hm;rw [hnl];simp only [Nat.add_zero] at hn h63' h48'|-
      have AeH:¬ (9223372036854775807<(n:Int)):=by omega
      simp [Builtin.append_,run_underlying ht,run_underlying Vp,sizeOf,typeInfo,zeroValue,hi,hz,asInt,asIntOf,hw0,hn,AeH,h48',Question.forced,hfo,newRow,grownCap]
    have hmz:¬ (m*i.size=0):=Nat.mul_ne_zero hm hsn
    simp [Builtin.append_,run_underlying ht,run_underlying Vp,sizeOf,typeInfo,zeroValue,hi,hz,asInt,asIntOf,hw,hneg,AeF,hn,h63',h48',Question.forced,hfo,newRow,grownCap,hmz,hna]
    congr 2
    apply Array.ext'
    simp [List.append_assoc]
  rcases hown.2 with ⟨rfl,rfl⟩|⟨g,cap,cur,rfl,hbg,hg,hnc,hcm,hcs,htake⟩
  · have hx:xs=[]:=List.eq_nil_of_length_eq_zero (by simpa using hown.1)
    subst hx
    by_cases hm:m=0
    · have hnl:=hnil hm
      subst hm;rw [hnl];refine ⟨.slice none 0 0,w, ?_,World.ownsRow_nil w base e i.size,⟨rfl,rfl,rfl,Nat.le_refl _,fun _ _ _=>rfl⟩,Or.inl rfl⟩
      simp [Builtin.append_,run_underlying ht,run_underlying Vp,sizeOf,typeInfo,hi,asInt,asIntOf,hw0]
    have hgr:=grown 0 (by omega) (Value.ownBlock (.slice none 0 0))
    exact ⟨_,_,runs none 0 (by omega) (by simp [Builtin.firstCells]),hgr.1,hgr.2,Or.inr rfl⟩
  · by_cases hroom:n+m<=cap
    · have hfit:n*i.size+news.length<=cur.size:=by rw [hl,hcs,<- Nat.add_mul];exact Nat.mul_le_mul_right _ hroom
      obtain ⟨cur',h3,h4,h5⟩:=zH news (n*i.size) w cur hg hfit;obtain ⟨s1,s2,s3,s4⟩:=yH g news (n*i.size) w;have hst:=run_storeCells_cells (P:=P) g (n*i.size) news 0 w (fun j hj=>by rw [cell_of_row w g _ cur e (0,0) hg];simp;omega) (fun j _=>ae hg _) h1;simp only [Nat.add_zero] at hst
      refine ⟨.slice (some ⟨g,0,none⟩) (n+m) cap,w.setCells g (n*i.size) news, ?_,⟨hlen,.inr ⟨g,cap,cur',rfl,hbg,h3,hroom,hcm,by rw [h4,hcs], ?_⟩⟩,⟨s1,s2,s3,by rw [s4];exact Nat.le_refl _,fun k _ hk=>zG news _ k (fun e=>hk (by simp [Value.ownBlock,e]))⟩,Or.inl rfl⟩
      · by_cases hm:m=0
        · have hnl:=hnil hm
          subst hm;rw [hnl] at hst|-
          simp [Builtin.append_,run_underlying ht,run_underlying Vp,sizeOf,typeInfo,hi,asInt,asIntOf,hw0,hnc,add_plain,hst]
        · have hmz:¬ (m*i.size=0):=Nat.mul_ne_zero hm hsn
          simp [Builtin.append_,run_underlying ht,run_underlying Vp,sizeOf,typeInfo,zeroValue,hi,hz,asInt,asIntOf,hw,hneg,AeF,hroom,hmz,hna,add_plain,hst]
      · rw [h5]
        have h6:cur.toList.take (n*i.size)=xs:=htake;rw [h6,<- hlen];exact List.take_left
    · have holds:∀ j u,xs[j]?=some u ->w.cell? ((⟨g,0,none⟩:Addr).add j)=some u:=hown.cells (g:=g) rfl
      have hgr:=grown cap (by omega) (Value.ownBlock (.slice (some ⟨g,0,none⟩) n cap));exact ⟨_,_,runs (some ⟨g,0,none⟩) cap (by omega) (run_firstCells_some (P:=P) w.drew i.size n _ n cap xs hown.1 (by simpa using holds)),hgr.1,hgr.2,Or.inr rfl⟩
end
namespace Kd
theorem Ll {α:Type} {R:α ->List Value ->Prop} {z:Value} {size:Nat} {z0:α} (hz:z.cells.size=size) (hs:0<size) (h0:R z0 z.cells.toList) (m:Nat):cD R size (List.replicate m z0) (Builtin.zeroCells z.cells m).toList:=by
  have h:=OK hz hs h0 m;rw [show Builtin.zeroCells z.cells m=madeCells z.cells (m*size) by unfold Builtin.zeroCells madeCells;rw [hz]];exact h
section
variable {P:Program} {ops:Array Oper} {rest:List Oper} {o:Oper} {a:Act} {Q:Exit ->Act ->World ->Prop} {Kc:Act ->World ->Prop} {α:Type}
theorem II (d:Kd α) {W:World} (base:Nat) (t ti ty e:TypeId) (z:Value) (bytes:Nat) (ht:P.underlying t=some (.slice e)) {k:IntKind} (Vp:P.underlying ti=some (.int k)) (hinfo:(P.info? e).map (fun i=>(i.zero,i.size,i.bytes))=some (some z,d.sz,bytes)) (hz:z.cells.size=d.sz) (hs0:0<d.sz) (hb0:0<bytes)
    (v:Value) (xs:List α) (z0:α) {ok:Nat ->Prop} (hzero:d.M W base (fun _=>False) z0 z.cells.toList) (mF:∀ k,W.heap.size<=k ->ok k) (HO:d.R e W base ok v xs) (kx:IntKind) (n:Int) (h0:0<=n) (hl:(xs.length+n.toNat)*bytes<=140737488355328) (hbase:base<=W.heap.size):
    ∃ v1 w1,(Builtin.append_ #[t,ti] ty #[v,.int kx n]).run P W= .ok v1 w1 /\ d.R e w1 base ok v1 (xs++List.replicate n.toNat z0) /\ W.grownBy w1 v.ownBlock /\ (v1.ownBlock=v.ownBlock \/ ∃ b,v1.ownBlock=some b /\ W.heap.size<=b):=by
  obtain ⟨m,rfl⟩:=Int.eq_ofNat_of_zero_le h0;simp only [Int.toNat_natCast] at hl|-
  obtain ⟨i0,hi,hzz⟩:=Option.map_eq_some_iff.1 hinfo;simp only [Prod.mk.injEq] at hzz
  obtain ⟨hz0,hz1,hz2⟩:=hzz;obtain ⟨hok,inner,hown,hr⟩:=HO;have Qn:cD (d.M W base (fun _=>False)) d.sz (List.replicate m z0) (Builtin.zeroCells z.cells m).toList:=Ll hz hs0 hzero m;obtain ⟨v1,w1,hrun,h2,hg,hat⟩:=AU (P:=P) W base t ti ty e i0 z d.sz bytes ht Vp hi hz0 hz1 hz2 hz hs0 hb0 v xs.length inner hown kx m (QO Qn hs0 (fun _ _ hp=>d.qg (d.kS hp))) hl hbase
  have hat':v1.ownBlock=v.ownBlock \/ ∃ b,v1.ownBlock=some b /\ W.heap.size<=b:=by
    rcases hat with hat|hat
    · exact .inl hat
    · exact .inr ⟨_,hat,Nat.le_refl _⟩
  have hne:∀ k,some k≠v.ownBlock ->k<W.heap.size ->some k≠v1.ownBlock:=by
    intro k hk hlt
    rcases hat' with hat|⟨b,hb,hle⟩
    · rw [hat];exact hk
    · rw [hb]
      intro he
      injection he with he
      omega
  have step:∀ {q:α} {c:List Value} {o:Nat ->Prop},d.M W base o q c ->(∀ k,o k ->ok k /\ some k≠v.ownBlock) ->d.M w1 base (fun k=>ok k /\ some k≠v1.ownBlock) q c:=by
    intro q c o hq ho;have h1:=d.nc (w1:=w1) (fun k hk=>hg.block k hk.2.2.1 (ho k hk.1).2) (d.jG hq);exact d.jM (fun k hk=>⟨(ho k hk.1).1,hne k (ho k hk.1).2 hk.2.2.1⟩) h1
  refine ⟨v1,w1,hrun,⟨fun k hk=> ?_,inner++(Builtin.zeroCells z.cells m).toList,by rw [List.length_append,List.length_replicate];exact h2,wN (hr.ua (fun _ _ hq=>step hq (fun _ hk=>hk))) (Qn.ua (fun _ _ hq=>step hq (fun _ hk=>hk.elim)))⟩,hg,hat'⟩
  rcases hat' with hat|⟨b,hb,hle⟩
  · exact hok k (hat ▸ hk)
  · rw [hb] at hk
    injection hk with hk
    exact mF k (by omega)
theorem Di (d:Kd α) {w0 W:World} (base:Nat) (hgd:o.guard=none) (s x:Operand) (t ti e:TypeId) (z:Value) (bytes:Nat)
    (ho:o.op= .call {callee:= .builtin .append,args:= #[s,x],argTypes:= #[t,ti]})
    (ht:P.underlying t=some (.slice e)) {k:IntKind} (Vp:P.underlying ti=some (.int k)) (hinfo:(P.info? e).map (fun i=>(i.zero,i.size,i.bytes))=some (some z,d.sz,bytes)) (hz:z.cells.size=d.sz) (hs0:0<d.sz) (hb0:0<bytes)
    (v:Value) (xs:List α) (z0:α) {kx:IntKind} (n:Int) (ok:Nat ->Prop) (hs:a.eval s=v) (hx:a.eval x= .int kx n) (hzero:d.M W base (fun _=>False) z0 z.cells.toList) (mF:∀ k,W.heap.size<=k ->ok k)
    (HO:d.R e W base ok v xs) (h0:0<=n) (HB:Below base w0 W) (hbase:base<=W.heap.size) (hl:(xs.length+n.toNat)*bytes<=140737488355328)
    (h:∀ v1 w1,d.R e w1 base ok v1 (xs++List.replicate n.toNat z0) ->Below base w0 w1 ->W.grownBy w1 v.ownBlock ->(v1.ownBlock=v.ownBlock \/ ∃ b,v1.ownBlock=some b /\ W.heap.size<=b) ->wpList P ops Q rest (a.put o.dst v1) w1):
    wpList P ops Q (o::rest) a W:=by
  obtain ⟨v1,w1,hr1,h1,hg,hat⟩:=II (P:=P) d base t ti o.type e z bytes ht Vp hinfo hz hs0 hb0 v xs z0 hzero mF HO kx n h0 hl hbase;refine wpList_plain hgd fun K hK=> ?_
  unfold Oper.wp execOp;simp only [ho,resolve,invoke,builtin,Sem.run_bind,Sem.run_pure,Result.andThen_ok,List.map_toArray,List.map_cons,List.map_nil,hs,hx,hr1];exact hK _ _ (h v1 w1 h1 (HB.grown hg hbase (j3 HO)) hg hat)
end
section
end
section
end
end Kd
namespace Kd
structure Heap {α:Type} (d:Kd α):Prop where
  K:∀ {w w1:World} {x:α} {cs:List Value},(∀ k,k<w.heap.size ->w1.heap[k]?=w.heap[k]?) ->d.K w x cs ->d.K w1 x cs
theorem OT {w w1:World} (hb:∀ k,k<w.heap.size ->w1.heap[k]?=w.heap[k]?) {a:Addr} {v:Value} (h:w.cell? a=some v):w1.cell? a=some v:=by
  have:=hb a.block (dF w a h)
  simpa [World.cell?,this] using h
theorem Heap.C {α:Type} {d:Kd α} (hd:Heap d) {w w1:World} {A:Option Addr} {n:Nat} {xs:List α} (hb:∀ k,k<w.heap.size ->w1.heap[k]?=w.heap[k]?) (h:d.C w A n xs):d.C w1 A n xs:=
  ⟨h.1,h.2.1,fun hn=>by
    obtain ⟨ad,e,hc⟩:=h.2.2 hn;refine ⟨ad,e,fun j p hj=> ?_⟩;obtain ⟨c,hs,hr,hcell⟩:=hc j p hj
    exact ⟨c,hs,hd.K hb hr,fun i u hu=>OT hb (hcell i u hu)⟩⟩
theorem IJ (k:IntKind):Heap (Kd.int k):=⟨fun _ h=>h⟩
section
end
end Kd
def Kept (w W:World) (S:Nat ->Prop):Prop:=w.heap.size<=W.heap.size /\ ∀ i,i<w.heap.size ->¬ S i ->W.heap[i]?=w.heap[i]?
section
variable {w W W2:World} {S S2 S':Nat ->Prop}
theorem Kept.refl (w:World) (S:Nat ->Prop):Kept w w S:=⟨Nat.le_refl _,fun _ _ _=>rfl⟩
theorem Kept.Ix (h:Below w.heap.size w W) (S:Nat ->Prop):Kept w W S:=⟨h.size,fun i hi _=>h.block i hi⟩
theorem Kept.QS (h:Kept w W S) (k:Kept W W2 S2) (hs:∀ k,S2 k ->S k \/ w.heap.size<=k):Kept w W2 S:=
  ⟨Nat.le_trans h.1 k.1,fun i hi hn=>(k.2 i (Nat.lt_of_lt_of_le hi h.1) (fun h2=>(hs i h2).elim hn (fun h3=>by omega))).trans (h.2 i hi hn)⟩
theorem Kept.C8 {row:Option Nat} (hg:W.grownBy W2 row) (h:Kept w W S) (hr:∀ k,row=some k ->S k \/ w.heap.size<=k):Kept w W2 S:=
  h.QS (S2:=fun k=>row=some k) ⟨hg.size,fun i hi hn=>hg.block i hi (fun he=>hn he.symm)⟩ hr
theorem Kept.below (h:Kept w W S) (hb:Below W.heap.size W W2):Kept w W2 S:=h.QS (Kept.Ix hb (fun _=>False)) (fun _ hk=>hk.elim)
theorem Kept.alloc (h:Kept w W S) (o:Obj):Kept w (W.alloc o) S:=h.below (dV (Below.refl _ _) o)
theorem Kept.drew (h:Kept w W S):Kept w W.drew S:=h
theorem Kept.drewN (h:Kept w W S) (m:Nat):Kept w (W.drewN m) S:=h
theorem Kept.setCell (h:Kept w W S) {p:Addr} (hp:S p.block \/ w.heap.size<=p.block) (u:Value):Kept w (W.setCell p u) S:=
  h.QS (S2:=fun k=>k=p.block) ⟨by simp [World.setCell],fun i _ hn=>Below.heap_setCell W p u i hn⟩ (fun k hk=>by rw [hk];exact hp)
theorem Kept.keep {g:Nat} (h:jU w W g none) (k:Kept W W2 S2) (hs:∀ k,S2 k ->w.heap.size<=k):jU w W2 g none:=
  ⟨Nat.le_trans h.1 k.1,fun i hi hg hr=>(k.2 i (Nat.lt_of_lt_of_le hi h.1) (fun h2=>by have:=hs i h2;omega)).trans (h.2 i hi hg hr)⟩
theorem ja {g:Nat} {o:Obj} (hb:W.heap[g]?=some o) (hk:Kept W W2 S) (hne:¬ S g):W2.heap[g]?=some o:=(hk.2 g (lZ hb) hne).trans hb
end
namespace Kd
section
variable {α:Type} {d:Kd α} {e base n c:Nat} {ok oki S S2:Nat ->Prop} {w w0 W W1 W2:World} {v:Value} {A:Option Addr} {xs:List α} {i:Int} {cs:List Value}
theorem Aal (h:d.R e W base ok v xs) (hk:Kept W W2 S) (hne:∀ k,ok k ->¬ S k):d.R e W2 base ok v xs:=wM h (fun k ho hlt=>hk.2 k hlt (hne k ho))
end
end Kd
def sg (P:World ->Prop) (W:World) (ok:Nat ->Prop):Prop:=∀ W':World,(∀ k,ok k ->k<W.heap.size ->W'.heap[k]?=W.heap[k]?) ->P W'
theorem Vq {W W1:World} {k:Nat} (h:W1.heap[k]?=W.heap[k]?) (hlt:k<W.heap.size):k<W1.heap.size:=by
  rw [Array.getElem?_eq_getElem hlt] at h
  exact (Array.getElem?_eq_some_iff.1 h).1
namespace sg
variable {P Q:World ->Prop} {W W1:World} {ok ok':Nat ->Prop}
theorem now (h:sg P W ok):P W:=h W (fun _ _ _=>rfl)
theorem mono (h:sg P W ok) (hok:∀ k,ok k ->ok' k):sg P W ok':=fun W' hW=>h W' (fun k hk hlt=>hW k (hok k hk) hlt)
theorem bound (h:sg P W ok):sg P W (fun k=>ok k /\ k<W.heap.size):=fun W' hW=>h W' (fun k hk hlt=>hW k ⟨hk,hlt⟩ hlt)
theorem step (h:sg P W ok) (hm:∀ k,ok k ->k<W.heap.size ->W1.heap[k]?=W.heap[k]?):sg P W1 ok:=fun W' hW=>h W' (fun k hk hlt=>(hW k hk (Vq (hm k hk hlt) hlt)).trans (hm k hk hlt))
theorem old (h:sg P W ok) (hb:Below W.heap.size W W1):sg P W1 (fun k=>ok k /\ k<W.heap.size):=(h.bound).step (fun k _ hlt=>hb.block k hlt)
end sg
namespace Kd
def F {α:Type} (d:Kd α) (W:World) (ok:Nat ->Prop) (A:Option Addr) (n:Nat) (xs:List α):Prop:=sg (fun W=>d.C W A n xs) W ok
def FK {α:Type} (d:Kd α) (W:World) (ok:Nat ->Prop) (x:α) (c:List Value):Prop:=sg (fun W=>d.K W x c) W ok
section
variable {α β:Type} {d:Kd α} {e base n n' cc g N:Nat} {ok ok' qW S:Nat ->Prop} {w w0 w1 W W1:World} {A A':Option Addr} {u v v1:Value} {xs:List α} {xs':List β} {d':Kd β} {x:α} {c:List Value}
theorem AeI (h:F d W ok A n xs):d.C W A n xs:=sg.now h
theorem Gk (h:F d W ok A n xs) (hok:∀ k,ok k ->ok' k):F d W ok' A n xs:=sg.mono h hok
theorem M5 (h:F d W ok A n xs):F d W (fun k=>ok k /\ k<W.heap.size) A n xs:=sg.bound h
theorem Aam (h:F d W ok A n xs) (hm:∀ k,ok k ->k<W.heap.size ->W1.heap[k]?=W.heap[k]?):F d W1 ok A n xs:=sg.step h hm
theorem xO (h:F d W ok A n xs) (hb:Below W.heap.size W W1):F d W1 ok A n xs:=Aam h (fun k _ hlt=>hb.block k hlt)
theorem Vr (h:F d W ok A n xs) (o:Obj):F d (W.alloc o) ok A n xs:=xO h (dV (Below.refl _ _) o)
theorem Aan (h:F d W ok A n xs):F d W.drew ok A n xs:=xO h (rX (Below.refl _ _))
theorem Vs (h:F d W ok A n xs) (m:Nat):F d (W.drewN m) ok A n xs:=xO h (dS (Below.refl _ _) m)
theorem AeJ (d:Kd α) (W:World) (ok:Nat ->Prop):F d W ok none ([]:List α).length []:=fun W' _=>Dc d W'
theorem QT (h:F d W ok A n xs) (hbase:∀ k,v.ownBlock=some k ->W.heap.size<=k) (hb:Below W.heap.size W W1):F d W1 (fun k=>ok k /\ some k≠v.ownBlock) A n xs:=
  Gk (sg.old h hb) (fun k hk=>⟨hk.1,fun he=>by have:=hbase k he.symm;have:=hk.2;omega⟩)
theorem QU (h:F d W ok A n xs) (a:Nat) (ha:W.heap.size<=a):F d W (fun k=>ok k /\ k≠a) A n xs:=Gk (M5 h) (fun k hk=>⟨hk.1,by have:=hk.2;omega⟩)
theorem Vt (h:F d W (fun k=>ok k /\ some k≠v.ownBlock) A n xs) (hg:W.grownBy W1 v.ownBlock) (hat:v1.ownBlock=v.ownBlock \/ ∃ b,v1.ownBlock=some b /\ W.heap.size<=b):F d W1 (fun k=>ok k /\ some k≠v1.ownBlock) A n xs:=by
  refine Gk (sg.step (M5 h) (fun k hk hlt=>hg.block k hlt hk.1.2)) (fun k hk=>⟨hk.1.1, ?_⟩)
  rcases hat with hat|⟨b,hb,hle⟩
  · rw [hat];exact hk.1.2
  · rw [hb]
    intro he
    injection he with he
    have:=hk.2
    omega
theorem C_F (hd:Heap d) (h:d.C w A n xs):F d w (fun k=>k<w.heap.size) A n xs:=fun _ hW=>hd.C (fun k hlt=>hW k hlt hlt) h
theorem R_F (h:d.R e W base ok (.slice A n cc) xs):F d W ok A n xs:=fun W' hW=>by
  have h2:=ay (wM h hW);rw [h2.1];exact h2.2.2
theorem Lm (h:FK d W ok x c):d.K W x c:=sg.now h
theorem Gl (h:FK d W ok x c) (hok:∀ k,ok k ->ok' k):FK d W ok' x c:=sg.mono h hok
theorem IK (h:FK d W ok x c):FK d W (fun k=>ok k /\ k<W.heap.size) x c:=sg.bound h
theorem M6 (h:FK d W ok x c) (hm:∀ k,ok k ->k<W.heap.size ->W1.heap[k]?=W.heap[k]?):FK d W1 ok x c:=sg.step h hm
theorem Vu (h:d.M W base ok x c):FK d W ok x c:=fun _ hW=>d.kS (QG h hW)
end
end Kd
namespace Kd
def chunks (sz:Nat) (n:Nat) (inner:List Value):List (List Value):=(List.range n).map fun j=>(inner.drop (j*sz)).take sz
theorem kg (sz n:Nat) (inner:List Value):(chunks sz n inner).length=n:=by simp [chunks]
theorem OU {sz n:Nat} {inner:List Value} {j:Nat} (hj:j<n):(chunks sz n inner)[j]?=some ((inner.drop (j*sz)).take sz):=by simp [chunks,hj]
theorem yV {sz n:Nat} {inner:List Value} {j:Nat} {c:List Value} (h:(chunks sz n inner)[j]?=some c):c=(inner.drop (j*sz)).take sz:=by
  have hj:j<n:=by have:=(List.getElem?_eq_some_iff.1 h).1;rwa [kg] at this
  rw [OU hj] at h
  injection h with h
  exact h.symm
theorem IL {α:Type} {Rr:α ->List Value ->Prop} {sz:Nat} {xs:List α} {inner:List Value} (h:cD Rr sz xs inner) (hR:∀ x c,Rr x c ->c.length=sz /\ ∀ u ∈ c,u.oneCell'=true):cD (fun x cs=>cs=x /\ cs.length=sz /\ ∀ u ∈ cs,u.oneCell'=true) sz (chunks sz xs.length inner) inner:=by
  refine ⟨by rw [kg];exact h.1,fun j p hj=> ?_⟩;have hjl:j<xs.length:=by have:=(List.getElem?_eq_some_iff.1 hj).1;rwa [kg] at this
  have hp:=yV hj;exact ⟨hp.symm,hR _ _ (h.2 j _ (List.getElem?_eq_getElem hjl))⟩
section
variable {α:Type} {d:Kd α} {e base n cc g:Nat} {ok ok' qW S:Nat ->Prop} {w w1 W W1:World} {A:Option Addr} {u v v1:Value} {xs:List α} {x:α} {c:List Value}
def N {α:Type} (d:Kd α) (e:Nat) (w:World) (base:Nat) (ok:Nat ->Prop) (v:Value) (xs:List α):Prop:=
  (∀ k,v.ownBlock=some k ->ok k) /\ ∃ rows:List (List Value),rows.length=xs.length /\ (raw d.sz).R e w base (fun k=>some k=v.ownBlock) v rows /\ ∀ (j:Nat) (x:α) (c:List Value),xs[j]?=some x ->rows[j]?=some c ->FK d w (fun k=>ok k /\ some k≠v.ownBlock) x c
theorem OV {sz:Nat} {rows:List (List Value)} (h:(raw sz).R e w base ok v rows):(raw sz).R e w base (fun k=>some k=v.ownBlock) v rows:=kF rfl h
theorem R_N (h:d.R e w base ok v xs):N d e w base ok v xs:=by
  obtain ⟨h0,inner,ho,hr⟩:=h;refine ⟨h0,chunks d.sz xs.length inner,kg _ _ _,⟨fun k hk=>hk.symm,inner,by rw [kg];exact ho,IL hr (fun x c hp=>⟨d.rG (d.kS hp),d.qg (d.kS hp)⟩)⟩,fun j x c hx hc=> ?_⟩;rw [yV hc];exact Vu (hr.2 j x hx)
theorem jn (d:Kd α) (e:Nat) (w:World) (base:Nat) (ok:Nat ->Prop):N d e w base ok (.slice none 0 0) []:=R_N (bX _ _ _ _ _)
theorem Aao (h:N d e w base ok v xs) (hok:∀ k,ok k ->ok' k):N d e w base ok' v xs:=by
  obtain ⟨h0,rows,hl,hR,hf⟩:=h;exact ⟨fun k hk=>hok k (h0 k hk),rows,hl,hR,fun j x c hx hc=>Gl (hf j x c hx hc) (fun k hk=>⟨hok k hk.1,hk.2⟩)⟩
theorem Am9 (h:N d e w base ok v xs):∀ k,v.ownBlock=some k ->k<w.heap.size:=by
  obtain ⟨_,rows,_,hR,_⟩:=h;exact ox hR
theorem QV (h:N d e w base ok v xs):∀ k,v.ownBlock=some k ->base<=k:=by
  obtain ⟨_,rows,_,hR,_⟩:=h;exact j3 hR
theorem Vv (h:N d e w base ok v xs):N d e w base (fun k=>ok k /\ k<w.heap.size) v xs:=by
  have hlt:=Am9 h;obtain ⟨h0,rows,hl,hR,hf⟩:=h;exact ⟨fun k hk=>⟨h0 k hk,hlt k hk⟩,rows,hl,hR,fun j x c hx hc=>Gl (IK (hf j x c hx hc)) (fun k hk=>⟨⟨hk.1.1,hk.2⟩,hk.1.2⟩)⟩
theorem Vw {base':Nat} (h:N d e w base ok v xs) (hb:base'<=base):N d e w base' ok v xs:=by
  obtain ⟨h0,rows,hl,hR,hf⟩:=h;exact ⟨h0,rows,hl,bP hR hb,hf⟩
theorem Aap (h:N d e w base ok v xs) (hm:∀ k,ok k ->k<w.heap.size ->w1.heap[k]?=w.heap[k]?):N d e w1 base ok v xs:=by
  obtain ⟨h0,rows,hl,hR,hf⟩:=h;exact ⟨h0,rows,hl,wM hR (fun k hk hlt=>hm k (h0 k hk.symm) hlt),fun j x c hx hc=>M6 (hf j x c hx hc) (fun k hk hlt=>hm k hk.1 hlt)⟩
theorem Cr (h:N d e w base ok v xs) (hb:Below w.heap.size w w1):N d e w1 base ok v xs:=Aap h (fun k _ hk=>hb.block k hk)
theorem Vx (h:N d e w base ok v xs) (o:Obj):N d e (w.alloc o) base ok v xs:=Cr h (dV (Below.refl _ _) o)
theorem Aaq (h:N d e w base ok v xs):N d e w.drew base ok v xs:=Cr h (rX (Below.refl _ _))
theorem Vy (h:N d e w base ok v xs) (m:Nat):N d e (w.drewN m) base ok v xs:=Cr h (dS (Below.refl _ _) m)
theorem QW (h:N d e W base ok v xs) (hbase:∀ k,u.ownBlock=some k ->W.heap.size<=k) (hb:Below W.heap.size W w1):N d e w1 base (fun k=>ok k /\ some k≠u.ownBlock) v xs:=
  Aao (Cr (Vv h) hb) (fun k hk=>⟨hk.1,fun he=>by have:=hbase k he.symm;have:=hk.2;omega⟩)
theorem Vz (h:N d e w base ok v xs):∃ A c,v= .slice A xs.length c:=by
  obtain ⟨_,rows,hl,hR,_⟩:=h;obtain ⟨A,c,he⟩:=dn hR;exact ⟨A,c,by rw [he,hl]⟩
theorem IM {n c:Nat} (h:N d e w base ok (.slice A n c) xs):n=xs.length /\ n<=c /\ d.C w A xs.length xs:=by
  obtain ⟨_,rows,hl,hR,hf⟩:=h;obtain ⟨hn,hc,hC⟩:=ay hR;refine ⟨by omega,hc, ?_⟩;rw [hl] at hC
  refine ⟨rfl,hC.2.1,fun hp=> ?_⟩;obtain ⟨ad,he,hcell⟩:=hC.2.2 hp;refine ⟨ad,he,fun j p hj=> ?_⟩;have hjl:j<rows.length:=by have:=(List.getElem?_eq_some_iff.1 hj).1;omega
  obtain ⟨c',hcl,hK,hcc⟩:=hcell j _ (List.getElem?_eq_getElem hjl);have hk:=Lm (hf j p _ hj (List.getElem?_eq_getElem hjl));refine ⟨c',hcl, ?_,hcc⟩;rw [show c'=rows[j] from hK.1];exact hk
end
end Kd
namespace Kd
section
variable {α:Type} {d:Kd α} {e base n cap g:Nat} {ok ok' qW:Nat ->Prop} {w w1 W:World} {v v1:Value} {xs ys:List α}
theorem Aar {rows:List (List Value)} (hR:(raw d.sz).R e w1 base (fun k=>k=W.heap.size) v1 rows) (hg:W.grownBy w1 none) (hat:∃ b,v1.ownBlock=some b /\ W.heap.size<=b) (hl:rows.length=xs.length) (hf:∀ (j:Nat) (x:α) (c:List Value),xs[j]?=some x ->rows[j]?=some c ->FK d W qW x c)
    (hok:∀ k,qW k ->ok k) (mF:ok W.heap.size):N d e w1 base ok v1 xs:=by
  obtain ⟨b,hb,hle⟩:=hat;refine ⟨fun k hk=>by rw [hR.1 k hk];exact mF,rows,hl,OV hR,fun j x c hx hc=> ?_⟩;refine Gl (M6 (IK (hf j x c hx hc)) (fun k hk hlt=>hg.block k hlt (by simp))) (fun k hk=>⟨hok k hk.1,fun he=> ?_⟩);rw [hb] at he
  injection he with he
  have:=hk.2
  omega
end
section
variable {P:Program} {ops:Array Oper} {rest:List Oper} {o:Oper} {a:Act} {Q:Exit ->Act ->World ->Prop} {Kc:Act ->World ->Prop} {α:Type}
theorem AeK (d:Kd α) {w0 W:World} (base e:Nat) (hgd:o.guard=none) {N':Tmp} (_hd:o.dst=some N') {xs:List α} {inner:List Value} {ok qW:Nat ->Prop}
    (hrun:(execOp a.eval o).run P W= .ok (.value (.slice (some ⟨W.heap.size,0,none⟩) xs.length xs.length)) (W.alloc (.cells inner.toArray e)))
    (IA:cD (FK d W qW) d.sz xs inner) (hok:∀ k,qW k ->ok k) (mF:ok W.heap.size) (HB:Below base w0 W) (hbase:base<=W.heap.size) (hm:xs.length<=9223372036854775807)
    (h:∀ v1 w1,N d e w1 base ok v1 xs ->Below base w0 w1 ->W.grownBy w1 none ->(∃ b,v1.ownBlock=some b /\ W.heap.size<=b) ->wpList P ops Q rest (a.put o.dst v1) w1):
    wpList P ops Q (o::rest) a W:=by
  refine qh (raw d.sz) base e hgd _hd (xs:=chunks d.sz xs.length inner) (inner:=inner) (ok:=fun k=>k=W.heap.size) (qW:=fun _=>False) (by rw [kg];exact hrun) (IL IA (fun y c hk=>⟨d.rG (Lm hk),d.qg (Lm hk)⟩)) (fun _ hk=>hk.elim) rfl HB hbase (by rw [kg];exact hm) ?_;intro v1 w1 hr hb hg hat;exact h v1 w1 (Aar hr hg hat (kg _ _ _) (fun j y c hy hc=>by rw [yV hc];exact IA.2 j y hy) hok mF) hb hg hat
end
end Kd
end Go.Proofs.ah.bT
namespace Go.Proofs.ah.iw
open Go.RowKit Go.Proofs.ah.bT
namespace Kd
open Go.Proofs.ah.bT.Kd
end Kd
namespace Kd
open Go.Proofs.ah.bT.Kd
section
end
end Kd
theorem dI (k k':IntKind) (x y:Int):Builtin.max2 (.int k x) (.int k' y)=pure (.int k (if x<y then y else x)):=by simp only [Builtin.max2,gt_iff_lt]
theorem dJ (k k':IntKind) (x y:Int):Builtin.min2 (.int k x) (.int k' y)=pure (.int k (if y<x then y else x)):=by simp only [Builtin.min2]
theorem eI (ats:Array TypeId) (ty:TypeId) (a b:Value):Builtin.max_ ats ty #[a,b]=(Builtin.max2 a b>>=fun s=>pure s):=by simp only [Builtin.max_,List.foldlM_cons,List.foldlM_nil]
theorem eJ (ats:Array TypeId) (ty:TypeId) (a b:Value):Builtin.min_ ats ty #[a,b]=(Builtin.min2 a b>>=fun s=>pure s):=by simp only [Builtin.min_,List.foldlM_cons,List.foldlM_nil]
theorem cO (ats:Array TypeId) (ty:TypeId) (a b c:Value):Builtin.max_ ats ty #[a,b,c]=(Builtin.max2 a b>>=fun s=>Builtin.max2 s c>>=fun s=>pure s):=by simp only [Builtin.max_,List.foldlM_cons,List.foldlM_nil]
theorem cP (ats:Array TypeId) (ty:TypeId) (a b c:Value):Builtin.min_ ats ty #[a,b,c]=(Builtin.min2 a b>>=fun s=>Builtin.min2 s c>>=fun s=>pure s):=by simp only [Builtin.min_,List.foldlM_cons,List.foldlM_nil]
theorem dK (ats:Array TypeId) (ty:TypeId) (a b c d:Value):Builtin.max_ ats ty #[a,b,c,d]=(Builtin.max2 a b>>=fun s=>Builtin.max2 s c>>=fun s=>Builtin.max2 s d>>=fun s=>pure s):=by simp only [Builtin.max_,List.foldlM_cons,List.foldlM_nil]
theorem dL (ats:Array TypeId) (ty:TypeId) (a b c d:Value):Builtin.min_ ats ty #[a,b,c,d]=(Builtin.min2 a b>>=fun s=>Builtin.min2 s c>>=fun s=>Builtin.min2 s d>>=fun s=>pure s):=by simp only [Builtin.min_,List.foldlM_cons,List.foldlM_nil]
end Go.Proofs.ah.iw
namespace Go.Proofs.ah.bT
open Go.RowKit
section
variable {P:Program} {ops:Array Oper} {rest:List Oper} {o:Oper} {a:Act} {Q:Exit ->Act ->World ->Prop} {W:World}
theorem az {f:FuncId} {as:Array Operand} {ts:Array TypeId} (_ho:o.op= .call {callee:= .value (.func f),args:=as,argTypes:=ts}) (h:wpList P ops Q (o::rest) a W):wpList P ops Q (o::rest) a W:=h
theorem fB {b:Builtin} {xs:Array Operand} {ts:Array TypeId} (_ho:o.op= .call {callee:= .builtin b,args:=xs,argTypes:=ts}) (h:wpList P ops Q (o::rest) a W):wpList P ops Q (o::rest) a W:=h
end
theorem ug {P:Program} {f:FuncId} {args args':Array Value} {w:World} {Q:Ending ->World ->Prop} (h:args=args') (hc:Calls P f args' w Q):Calls P f args w Q:=h ▸ hc
def mx (a b:Int):Int:=if a<b then b else a
theorem fu (w:World) (n:Nat):w.drewN n=w.drewN n:=rfl
namespace Kd
section
end
section
end
section
variable {α:Type} {d:Kd α} {e base b b' g N:Nat} {ok ok1:Nat ->Prop} {W W2 w1:World} {u v:Value} {xs ys:List α} {S:Nat ->Prop}
theorem xP (h:d.R e W base ok v xs) (hk:Kept W W2 S) (hne:∀ k,ok k ->¬ S k):d.R e W2 base (fun k=>ok k /\ (¬ S k /\ k<W.heap.size)) v xs:=
  Aal (dA (qC h) (fun k hk=>⟨hk.1,hne k hk.1,hk.2.2.1⟩)) hk (fun _ hk=>hk.2.1)
end
end Kd
end Go.Proofs.ah.bT
namespace Go.Proofs.ah.bT
open Go.RowKit
namespace Kd
def V {α:Type} (d:Kd α) (_e:Nat) (W:World) (_base:Nat) (ok:Nat ->Prop) (v:Value) (xs:List α):Prop:=∃ A c,v= .slice A xs.length c /\ xs.length<=c /\ F d W ok A xs.length xs
section
variable {α β:Type} {d:Kd α} {e base base' n m c g N' lo hi:Nat} {ok ok' S:Nat ->Prop} {w W w1:World} {A:Option Addr} {ad:Addr} {u v v1:Value} {xs:List α}
theorem Bz (h:V d e W base ok v xs) (hF:∀ A,F d W ok A xs.length xs ->F d w1 ok' A xs.length xs):V d e w1 base' ok' v xs:=by
  obtain ⟨A,c,hv,hl,hf⟩:=h;exact ⟨A,c,hv,hl,hF A hf⟩
theorem AeL (hl:xs.length<=c) (hf:F d W ok A xs.length xs):V d e W base ok (.slice A xs.length c) xs:=⟨A,c,rfl,hl,hf⟩
theorem VA (h:V d e W base ok (.slice A n c) xs):n=xs.length /\ n<=c /\ F d W ok A xs.length xs:=by
  obtain ⟨A',c',hv,hl,hf⟩:=h
  injection hv with ha hn hc
  subst ha;subst hc;exact ⟨hn,by rw [hn];exact hl,hf⟩
theorem IP (h:V d e W base ok (.slice A n c) xs):n=xs.length /\ n<=c /\ d.C W A xs.length xs:=⟨(VA h).1,(VA h).2.1,AeI (VA h).2.2⟩
theorem V_F (h:V d e W base ok (.slice A n c) xs):F d W ok A n xs:=by
  obtain ⟨hn,_,hf⟩:=VA h;rw [hn];exact hf
theorem jo (d:Kd α) (e:Nat) (W:World) (base:Nat) (ok:Nat ->Prop):V d e W base ok (.slice none 0 0) []:=⟨none,0,rfl,Nat.le_refl _,AeJ d W ok⟩
theorem pI (h:V d e W base ok v xs) (hok:∀ k,ok k ->ok' k):V d e W base ok' v xs:=Bz h (fun _ hf=>Gk hf hok)
theorem Cs (h:V d e W base ok v xs) (hb:Below W.heap.size W w1):V d e w1 base ok v xs:=Bz h (fun _ hf=>xO hf hb)
theorem iH (h:V d e W base ok v xs) (o:Obj):V d e (W.alloc o) base ok v xs:=Bz h (fun _ hf=>Vr hf o)
theorem jN (h:V d e W base ok v xs):V d e W.drew base ok v xs:=Bz h (fun _ hf=>Aan hf)
theorem iI (h:V d e W base ok v xs) (m:Nat):V d e (W.drewN m) base ok v xs:=Bz h (fun _ hf=>Vs hf m)
theorem VB (h:V d e W base (fun k=>ok k /\ some k≠u.ownBlock) v xs) (hg:W.grownBy w1 u.ownBlock) (hat:v1.ownBlock=u.ownBlock \/ ∃ b,v1.ownBlock=some b /\ W.heap.size<=b):V d e w1 base (fun k=>ok k /\ some k≠v1.ownBlock) v xs:=Bz h (fun _ hf=>Vt hf hg hat)
theorem zN (h:V d e W base (fun k=>ok k /\ some k≠v.ownBlock) u xs) (hg:W.grownBy w1 v.ownBlock) (hat:v1.ownBlock=v.ownBlock \/ ∃ b,v1.ownBlock=some b /\ W.heap.size<=b):V d e w1 base (fun k=>ok k /\ some k≠v1.ownBlock) u xs:=VB h hg hat
theorem mS (h:V d e W base ok v xs) (hbase:∀ k,u.ownBlock=some k ->W.heap.size<=k) (hb:Below W.heap.size W w1):V d e w1 base (fun k=>ok k /\ some k≠u.ownBlock) v xs:=Bz h (fun _ hf=>QT hf hbase hb)
theorem IQ (h:V d e W base ok v xs) (a:Nat) (ha:W.heap.size<=a):V d e W base (fun k=>ok k /\ k≠a) v xs:=Bz h (fun _ hf=>QU hf a ha)
theorem wP {l:List α} (hl:l.length<=c) (hf:F d W ok A l.length l):FK (Kd.slice e d) W ok l [.slice A l.length c]:=fun W' hW=>⟨A,c,rfl,hl,hf W' hW⟩
theorem yX {M:Nat ->Prop} (h:d.R e w1 W.heap.size ok v xs) (hle:w.heap.size<=W.heap.size) (hM:∀ k,w.heap.size<=k ->M k):d.R e w1 W.heap.size (fun k=>M k /\ ok k) v xs:=dA (qC h) (fun k hk=>⟨hM k (Nat.le_trans hle hk.2.1),hk.1⟩)
end
end Kd
end Go.Proofs.ah.bT
namespace Go.Proofs.ah.cY
section
end
end Go.Proofs.ah.cY
namespace Go.Proofs.ah.bT
open Go.RowKit
namespace Kd
section
end
end Kd
section
variable {w w' u:World} {m B g:Nat} {o:Obj} {row:Option Nat} {S:Nat ->Prop} {a:Addr} {v:Value}
theorem IU (hq:w.drewN m=w') (h:Below B u w):Below B u w':=by subst hq;exact dS h m
theorem QX (hq:w.drewN m=w') (h:w.heap[g]?=some o):w'.heap[g]?=some o:=by subst hq;exact h
end
namespace Kd
section
variable {α:Type} {d:Kd α} {e base n m:Nat} {ok:Nat ->Prop} {w w':World} {v:Value} {A:Option Addr} {xs:List α}
theorem VC (hq:w.drewN m=w') (h:d.R e w base ok v xs):d.R e w' base ok v xs:=by subst hq;exact eV h m
end
end Kd
section
variable {P:Program} {d:Nat} {xs ys:Array Value} {f:Field} {fs:List Field} {a b:Value} {r s:Bool} {w:World}
theorem QY (hn:(f.name== "_")=false) (ha:(part f.type xs f.offset).run P w= .ok a w) (hb:(part f.type ys f.offset).run P w= .ok b w) (he:(Op.equalIn d f.type a b).run P w= .ok r w):(Op.eqFields d xs ys [f]).run P w= .ok r w:=by
  have hn':f.name≠ "_" :=by simpa using hn
  simp only [Op.eqFields,aq hn',Sem.run_bind,ha,hb,he,Result.andThen_ok]
  cases r<;>simp
theorem QZ (hn:(f.name== "_")=false) (ha:(part f.type xs f.offset).run P w= .ok a w) (hb:(part f.type ys f.offset).run P w= .ok b w) (he:(Op.equalIn d f.type a b).run P w= .ok r w) (hr:(Op.eqFields d xs ys fs).run P w= .ok s w):(Op.eqFields d xs ys (f::fs)).run P w= .ok (r && s) w:=by
  have hn':f.name≠ "_" :=by simpa using hn
  rw [Op.eqFields];simp only [aq hn',Sem.run_bind,ha,hb,he,Result.andThen_ok]
  cases r
  · simp
  · simpa using hr
theorem Aas {t:TypeId} {fs:Array Field} (hu:P.underlying t=some (.struct fs)) (hp:P.stoodInHeld t=false) (h:(Op.eqFields d xs ys fs.toList).run P w= .ok r w):(Op.equalIn (d+1) t (.agg xs) (.agg ys)).run P w= .ok r w:=by
  have hf:P.fieldsOf t=fs:=by simp [Program.fieldsOf,hu]
  rw [run_equalIn_struct (P:=P) w d t xs ys (by rw [hf];exact hu) hp,hf];exact h
end
end Go.Proofs.ah.bT
namespace Go.Proofs.ah.bT
theorem cD.one {α:Type} {R:α ->List Value ->Prop} {ps:List α} {cs:List Value} {p:α} {v:Value} (hp:R p [v]) (h:cD R 1 ps cs):cD R 1 (p::ps) (v::cs):=by
  refine ⟨by simp [h.1],fun j q hq=> ?_⟩
  cases j with
  |zero=>
    simp only [List.getElem?_cons_zero,Option.some.injEq] at hq
    subst hq
    simpa using hp
  |succ j=>
    simp only [List.getElem?_cons_succ] at hq
    have h1:=h.2 j q hq
    simpa [Nat.mul_one] using h1
theorem cD.front {α:Type} {R:α ->List Value ->Prop} {size:Nat} {ps:List α} {cs c all:List Value} {p:α} (hp:R p c) (hc:c.length=size) (h:cD R size ps cs) (ha:c++cs=all):cD R size (p::ps) all:=by
  subst ha;refine ⟨by rw [List.length_append,hc,h.1,List.length_cons,Nat.succ_mul,Nat.add_comm],fun j q hq=> ?_⟩
  cases j with
  |zero=>
    simp only [List.getElem?_cons_zero,Option.some.injEq] at hq
    subst hq;rw [Nat.zero_mul,List.drop_zero,List.take_append_of_le_length (by omega),List.take_of_length_le (by omega)];exact hp
  |succ j=>
    simp only [List.getElem?_cons_succ] at hq
    have h1:=h.2 j q hq;rw [Nat.succ_mul,List.drop_append,List.drop_of_length_le (by rw [hc];exact Nat.le_add_left _ _),List.nil_append,hc,Nat.add_sub_cancel];exact h1
theorem cD.c2 {α:Type} {R:α ->List Value ->Prop} {ps:List α} {cs:List Value} {p:α} {va vb:Value} (hp:R p [va,vb]) (h:cD R 2 ps cs):cD R 2 (p::ps) (va::vb::cs):=cD.front hp rfl h rfl
theorem cD.c3 {α:Type} {R:α ->List Value ->Prop} {ps:List α} {cs:List Value} {p:α} {va vb vc:Value} (hp:R p [va,vb,vc]) (h:cD R 3 ps cs):cD R 3 (p::ps) (va::vb::vc::cs):=cD.front hp rfl h rfl
theorem cD.c4 {α:Type} {R:α ->List Value ->Prop} {ps:List α} {cs:List Value} {p:α} {va vb vc vd:Value} (hp:R p [va,vb,vc,vd]) (h:cD R 4 ps cs):cD R 4 (p::ps) (va::vb::vc::vd::cs):=cD.front hp rfl h rfl
theorem cD.c5 {α:Type} {R:α ->List Value ->Prop} {ps:List α} {cs:List Value} {p:α} {va vb vc vd ve:Value} (hp:R p [va,vb,vc,vd,ve]) (h:cD R 5 ps cs):cD R 5 (p::ps) (va::vb::vc::vd::ve::cs):=cD.front hp rfl h rfl
theorem cD.c6 {α:Type} {R:α ->List Value ->Prop} {ps:List α} {cs:List Value} {p:α} {va vb vc vd ve vf:Value} (hp:R p [va,vb,vc,vd,ve,vf]) (h:cD R 6 ps cs):cD R 6 (p::ps) (va::vb::vc::vd::ve::vf::cs):=cD.front hp rfl h rfl
theorem cD.c7 {α:Type} {R:α ->List Value ->Prop} {ps:List α} {cs:List Value} {p:α} {va vb vc vd ve vf vg:Value} (hp:R p [va,vb,vc,vd,ve,vf,vg]) (h:cD R 7 ps cs):cD R 7 (p::ps) (va::vb::vc::vd::ve::vf::vg::cs):=cD.front hp rfl h rfl
theorem cD.c8 {α:Type} {R:α ->List Value ->Prop} {ps:List α} {cs:List Value} {p:α} {va vb vc vd ve vf vg vh:Value} (hp:R p [va,vb,vc,vd,ve,vf,vg,vh]) (h:cD R 8 ps cs):cD R 8 (p::ps) (va::vb::vc::vd::ve::vf::vg::vh::cs):=cD.front hp rfl h rfl
theorem cD.c9 {α:Type} {R:α ->List Value ->Prop} {ps:List α} {cs:List Value} {p:α} {va vb vc vd ve vf vg vh vi:Value} (hp:R p [va,vb,vc,vd,ve,vf,vg,vh,vi]) (h:cD R 9 ps cs):cD R 9 (p::ps) (va::vb::vc::vd::ve::vf::vg::vh::vi::cs):=cD.front hp rfl h rfl
theorem cD.zB {α:Type} {R:α ->List Value ->Prop} {ps:List α} {cs:List Value} {p:α} {va vb vc vd ve vf vg vh vi vj:Value} (hp:R p [va,vb,vc,vd,ve,vf,vg,vh,vi,vj]) (h:cD R 10 ps cs):cD R 10 (p::ps) (va::vb::vc::vd::ve::vf::vg::vh::vi::vj::cs):=cD.front hp rfl h rfl
end Go.Proofs.ah.bT
namespace Go.Proofs.ah.cY
def up (b:Nat ->Bool) (i:Nat):Nat ->Bool:=fun j=>if j=i then true else b j
section
end
end Go.Proofs.ah.cY
namespace Go.Proofs.ah.bT
open Go.RowKit
end Go.Proofs.ah.bT
namespace Go.Proofs.ah.cY
section
end
end Go.Proofs.ah.cY
namespace Go.Proofs.ah.bT
open Go.RowKit
section
variable {P:Program} {ops:Array Oper} {rest:List Oper} {o:Oper} {a:Act} {Q:Exit ->Act ->World ->Prop} {W:World}
theorem eP (hw:Region.wanted o (yielded ops a.tmps)=true) (h:wpList P ops Q ({o with guard:=none}::rest) a W):wpList P ops Q (o::rest) a W:=by
  have h1:Region.wanted {o with guard:=none} (yielded ops a.tmps)=true:=rfl;unfold wpList at h|-
  rw [aq h1] at h
  rw [aq hw];exact h
end
end Go.Proofs.ah.bT
