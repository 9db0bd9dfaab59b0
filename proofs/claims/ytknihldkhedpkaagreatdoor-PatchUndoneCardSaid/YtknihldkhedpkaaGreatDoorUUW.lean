import Derived.Below
import Derived.Deep.Draws
import Derived.Deep.AppendLies
import Derived.Maps.AppendAt
import Derived.OwnWalk
import Derived.Laws.BytesArg
import Derived.Laws.MakeOwn
import Derived.Laws.OwnMore
import Derived.Deep.OwnRows
import Derived.Tactics
import Derived.Lib.ConvBytes
import Derived.Laws.Slices
import Derived.WalkKit
import Derived.KernelRfl
import Derived.RowKit3
import Derived.Deep.LoopGhost
import Derived.Deep.QuietTactic
import Derived.BigQuiet
import Derived.WideLaws
import Derived.Deep.DeepCutAuto
import Derived.Deep.CutBlock
import Derived.Deep.RegionHeld3
import Derived.Laws.Rows
import Derived.Lib.AppendStr
import Derived.ArgAppend
import Derived.Laws.IdiomCopy
import Derived.RowKit
import Derived.OrdersHeld
import Derived.Laws.BitsLemmas
import Derived.Laws.StructEq
set_option linter.all false
set_option maxHeartbeats 16000000
set_option maxRecDepth 100000
section
namespace Go.Proofs.YtknihldkhedpkaaGreatDoorW.PrintWords
theorem aYa {α:Type _}{xs:List α}{i:Nat}{a:α}:xs.toArray.setIfInBounds i a=(xs.set i a).toArray:=List.setIfInBounds_toArray ..
theorem aYb {α:Type _}{x a:α}{xs:List α}:(x::xs).set 0 a=a::xs:=List.set_cons_zero ..
theorem aYc {α:Type _}{x a:α}{xs:List α}{n:Nat}:(x::xs).set (n+1) a=x::xs.set n a:=List.set_cons_succ ..
open Go.RowKit
structure ah (p:Prop):Prop where mk::(out:p)
structure bH (w w':World):Prop where mk::(out:∃n,w'=w.drewN n)
theorem bH.refl (w:World):bH w w:=⟨⟨0,rfl⟩⟩
theorem bH.step {w w':World} (h:bH w w') (n:Nat):bH w (w'.drewN n):=by
 obtain⟨m,rfl⟩:=h;exact⟨⟨m+n,World.drewN_drewN ..⟩⟩
theorem bH.grown {w w':World} (h:bH w w'):Grown w w':=by
 obtain⟨n,rfl⟩:=h
 induction n with
 | zero=>exact Grown.refl _
 | succ n ih=>rw[← World.drew_drewN];exact Grown.drew ih
theorem bH.below {w w':World} (h:bH w w'):Below w.heap.size w w':=by
 obtain⟨n,rfl⟩:=h
 induction n with
 | zero=>exact Below.refl _ _
 | succ n ih=>rw[← World.drew_drewN];exact ih.drew
def rd (xs:List Int) (i:Int):Int:=xs.getD i.toNat 0
def bt (s:ByteArray) (i:Int):Int:=if h:i.toNat<s.size then ((s[i.toNat]'h).toNat:Int) else 0
theorem ahG (s:ByteArray) (i:Int):∀h:i.toNat<s.size,((s[i.toNat]'h).toNat:Int)=bt s i:=fun h=>by simp[bt,h]
def nums (k:IntKind) (xs:List Int):List Value:=xs.map fun x=>.int k x
theorem nums_append (k:IntKind) (xs ys:List Int):nums k (xs++ys)=nums k xs++nums k ys:=by simp[nums]
theorem aH {w W:World} (h:Below w.heap.size w W) (o:Obj):Below w.heap.size w (W.alloc o):=h.alloc h.size o
theorem bA {B:Nat} {w W:World} (h:Below B w W):Below B w W.drew:=⟨h.os,h.tape,h.output,h.size,h.block⟩
theorem av {B:Nat} {w W:World} (h:Below B w W) (n:Nat):Below B w (W.drewN n):=⟨h.os,h.tape,h.output,h.size,h.block⟩
theorem Iu {B:Nat} {w w1 w2:World} (h:Below B w w1) (hB:B≤w1.heap.size) (k:Below w1.heap.size w1 w2):Below B w w2 :=
 h.trans ⟨k.os,k.tape,k.output,k.size,fun i hi=>k.block i (Nat.lt_of_lt_of_le hi hB)⟩
theorem xJ {B:Nat} {w w1:World} (h:Below B w w1) (row:Option Nat) (hB:B≤w1.heap.size) {w2:World} (hg:w1.grownBy w2 row) (hr:∀k,row=some k→B≤k):Below B w w2:=h.grown hg hB hr
theorem II {w w1:World} (h:Below w.heap.size w w1) (row:Option Nat):w.grownBy w1 row:=⟨h.os,h.tape,h.output,h.size,fun i hi _=>h.block i hi⟩
theorem au {w w1:World} (h:Below w.heap.size w w1) {a:Addr} {v:Value} (hc:w.cell? a=some v):w1.cell? a=some v:=(h.cell (World.block_lt_of_cell? w a hc)).trans hc
theorem add_plain (g j:Nat):(⟨g,0,none⟩:Addr).add j=⟨g,j,none⟩:=by unfold Addr.add;split <;> simp_all
def jd (w:World) (k:IntKind) (A:Option Addr) (n:Nat) (xs:List Int):Prop :=
 xs.length=n∧n≤9223372036854775807∧(0<n→∃ad,A=some ad∧∀j,j<n→w.cell? (ad.add j)=some (.int k (xs.getD j 0)))
theorem jd.at_ {w:World} {k:IntKind} {A:Option Addr} {n:Nat} {xs:List Int} (h:jd w k A n xs) (i:Int) (h0:0≤i) (h1:i<n):∃ad,A=some ad∧w.cell? (ad.add i.toNat)=some (.int k (rd xs i)):=by
 obtain⟨ad,e,hc⟩:=h.2.2 (by omega);exact⟨ad,e,hc _ (by omega)⟩
theorem jd.below {w w1:World} {k:IntKind} {A:Option Addr} {n:Nat} {xs:List Int} (h:jd w k A n xs) (hb:Below w.heap.size w w1):jd w1 k A n xs :=
 ⟨h.1,h.2.1,fun hn=>by
  obtain⟨ad,e,hc⟩:=h.2.2 hn
  exact⟨ad,e,fun j hj=>au hb (hc j hj)⟩⟩
theorem abE (W:World) (base:Nat) (e:TypeId) (size:Nat):W.ownsRow base e size (.slice none 0 0) 0 []:=⟨by simp,.inl ⟨rfl,rfl⟩⟩
theorem mH {w:World} {base:Nat} {e:TypeId} {size n:Nat} {v:Value} {xs:List Value} (h:w.ownsRow base e size v n xs) (k:Nat) (hk:v.ownBlock=some k):base≤k:=by
 rcases h.2 with⟨rfl,_⟩|⟨g,cap,cur,rfl,hb,_⟩
 ·simp[Value.ownBlock] at hk
 ·have:g=k:=by simpa [Value.ownBlock] using hk
  omega
theorem Qd {w:World} {base:Nat} {e:TypeId} {size n:Nat} {v:Value} {xs:List Value} (h:w.ownsRow base e size v n xs) (k:Nat) (hk:v.ownBlock=some k):k<w.heap.size:=by
 rcases h.2 with⟨rfl,_⟩|⟨g,cap,cur,rfl,hb,hh,_⟩
 ·simp[Value.ownBlock] at hk
 ·have:g=k:=by simpa [Value.ownBlock] using hk
  subst this;exact (Array.getElem?_eq_some_iff.1 hh).1
theorem MG {w w1:World} {base:Nat} {e:TypeId} {size n:Nat} {v:Value} {xs:List Value} (h:w.ownsRow base e size v n xs) (hb:Below w.heap.size w w1):w1.ownsRow base e size v n xs :=
 h.kept (II hb none) (by cases v.ownBlock <;> simp)
theorem Vl {w w1:World} {base:Nat} {e:TypeId} {size n:Nat} {v:Value} {xs:List Value} (h:w.ownsRow base e size v n xs) {row:Option Nat} (hg:w.grownBy w1 row) (hne:v.ownBlock=none∨v.ownBlock≠row):w1.ownsRow base e size v n xs:=h.kept hg hne
theorem JR {w:World} {base n:Nat} {e:TypeId} {size:Nat} {v:Value} {xs:List Value} (h:w.ownsRow base e size v n xs):∃A c,v=.slice A n c:=by
 rcases h.2 with⟨rfl,rfl⟩|⟨g,cap,cur,rfl,_⟩
 ·exact⟨none,0,rfl⟩
 ·exact⟨_,cap,rfl⟩
section
variable {P : Program} {ops : Array Oper} {rest : List Oper} {o : Oper} {a : Act} {Q : Exit → Act → World → Prop}
end
section
variable {P : Program}
end
section
variable {P : Program} {ops : Array Oper} {rest : List Oper} {o : Oper} {a : Act} {Q : Exit → Act → World → Prop}
end
def bytesOf (s:ByteArray):List Int:=s.data.toList.map fun b=>(b.toNat:Int)
theorem gT (s:ByteArray):s.data.toList.length=s.size:=by rw[Array.length_toList];rfl
theorem bytesOf_length (s:ByteArray):(bytesOf s).length=s.size:=by rw[bytesOf,List.length_map,gT]
theorem jd.jZ {w:World} {k:IntKind} {A:Option Addr} {n:Nat} {xs:List Int} (h:jd w k A n xs) (i:Nat) (hi:i≤n):jd w k A i (xs.take i):=by
 refine⟨by rw[List.length_take,h.1];omega,by have:=h.2.1;omega,fun hp=>?_⟩;obtain⟨ad,e,hc⟩:=h.2.2 (by omega);refine⟨ad,e,fun j hj=>?_⟩;rw[hc j (by omega)];simp[List.getD_eq_getElem?_getD,hj]
def bW {α:Type} (a b:Option α):Prop:=∀r,a=some r→b=some r
theorem bW.refl {α:Type} (a:Option α):bW a a:=fun _ h=>h
theorem bW.none {α:Type} (b:Option α):bW Option.none b:=fun _ h=>by cases h
theorem bW.trans {α:Type} {a b c:Option α} (h:bW a b) (k:bW b c):bW a c:=fun r hr=>k r (h r hr)
theorem bW.ite {α:Type} {c:Prop} [Decidable c] {a a' b b':Option α} (h:bW a a') (k:bW b b'):bW (if c then a else b) (if c then a' else b'):=by
 split
 ·exact h
 ·exact k
theorem bW.bind {α β:Type} {a a':Option α} {f f':α→Option β} (h:bW a a') (k:∀x,bW (f x) (f' x)):bW (a.bind f) (a'.bind f'):=by
 intro r hr;obtain⟨x,hx,hf⟩:=Option.bind_eq_some_iff.1 hr;exact Option.bind_eq_some_iff.2 ⟨x,h x hx,k x r hf⟩
theorem bW.map {α β:Type} {a a':Option α} (f:α→β) (h:bW a a'):bW (a.map f) (a'.map f):=by
 intro r hr;obtain⟨x,hx,hf⟩:=Option.map_eq_some_iff.1 hr;exact Option.map_eq_some_iff.2 ⟨x,h x hx,hf⟩
def dO {α:Type} (R:α→List Value→Prop) (size:Nat) (ps:List α) (cs:List Value):Prop :=
 cs.length=ps.length*size∧∀j p,ps[j]?=some p→R p ((cs.drop (j*size)).take size)
theorem dO.none {α:Type} (R:α→List Value→Prop) (size:Nat):dO R size [] []:=⟨by simp,fun j p h=>by simp at h⟩
theorem dO.snoc {α:Type} {R:α→List Value→Prop} {size:Nat} {ps:List α} {cs c:List Value} {p:α} (h:dO R size ps cs) (hp:R p c) (hc:c.length=size):dO R size (ps++[p]) (cs++c):=by
 refine⟨by rw[List.length_append,h.1,hc,List.length_append,List.length_singleton,Nat.add_mul,Nat.one_mul],fun j q hq=>?_⟩
 rcases Nat.lt_or_ge j ps.length with hj|hj
 ·rw[List.getElem?_append_left hj] at hq
  have h1:j*size+size≤cs.length:=by rw[h.1,← Nat.succ_mul];exact Nat.mul_le_mul_right _ hj
  have h2:=h.2 j q hq;rw[List.drop_append_of_le_length (by omega),List.take_append_of_le_length (by rw[List.length_drop];omega)];exact h2
 ·have hj':j=ps.length:=by
   have:=(List.getElem?_eq_some_iff.1 hq).1;rw[List.length_append,List.length_singleton] at this;omega
  subst hj'
  have hq':p=q:=by simpa using hq
  subst hq';rw[← h.1,List.drop_left,← hc,List.take_length];exact hp
theorem dO.rJ {α:Type} {R R':α→List Value→Prop} {size:Nat} {ps:List α} {cs:List Value} (h:dO R size ps cs) (hR:∀p c,R p c→R' p c):dO R' size ps cs:=⟨h.1,fun j p hj=>hR _ _ (h.2 j p hj)⟩
def kT {α:Type} (R:α→List Value→Prop) (size:Nat) (w:World) (A:Option Addr) (n:Nat) (ps:List α):Prop :=
 ps.length=n∧n≤9223372036854775807∧(0<n→∃ad,A=some ad∧∀j p,ps[j]?=some p→∃c,c.length=size∧R p c∧∀i u,c[i]?=some u→w.cell? (ad.add (j*size+i))=some u)
theorem kT.aoJ {α:Type} {R:α→List Value→Prop} {size:Nat} {w:World} {A:Option Addr} {n:Nat} {ps:List α} (h:kT R size w A n ps) (d:α) (i:Int) (h0:0≤i) (h1:i<n) :
  ∃ad c,A=some ad∧c.length=size∧R (ps.getD i.toNat d) c∧∀j u,c[j]?=some u→w.cell? (ad.add (i.toNat*size+j))=some u:=by
 obtain⟨ad,e,hc⟩:=h.2.2 (by omega)
 have hl:i.toNat<ps.length:=by have:=h.1;omega
 obtain⟨c,hs,hr,hcell⟩:=hc i.toNat _ (List.getElem?_eq_getElem hl);refine⟨ad,c,e,hs,?_,hcell⟩;rw[List.getD_eq_getElem?_getD,List.getElem?_eq_getElem hl];exact hr
theorem kT.rJ {α:Type} {R R':α→List Value→Prop} {size:Nat} {w w1:World} {A:Option Addr} {n:Nat} {ps:List α} (h:kT R size w A n ps) (hb:Below w.heap.size w w1) (hR:∀p c,R p c→R' p c):kT R' size w1 A n ps :=
 ⟨h.1,h.2.1,fun hn=>by
  obtain⟨ad,e,hc⟩:=h.2.2 hn;refine⟨ad,e,fun j p hj=>?_⟩;obtain⟨c,hs,hr,hcell⟩:=hc j p hj
  exact⟨c,hs,hR _ _ hr,fun i u hu=>au hb (hcell i u hu)⟩⟩
theorem JA {α:Type} {R:α→List Value→Prop} {w:World} {base n size:Nat} {e:TypeId} {v:Value} {ps:List α} {cs:List Value} (h:w.ownsRow base e size v n cs) (hR:dO R size ps cs) (hn:ps.length=n) :
  ∃A c,v=.slice A n c∧kT R size w A n ps:=by
 rcases Nat.eq_zero_or_pos n with h0|h0
 ·rcases h.2 with⟨rfl,rfl⟩|⟨g,cap,cur,rfl,_⟩
  ·exact⟨none,0,rfl,hn,by omega,fun hp=>absurd hp (by omega)⟩
  ·exact⟨_,cap,rfl,hn,by omega,fun hp=>absurd hp (by omega)⟩
 ·obtain⟨g,cap,rfl,_,_⟩:=h.form h0
  have hm:n≤9223372036854775807:=by
   rcases h.2 with⟨_,h1⟩|⟨g',cap',cur,he,_,_,h1,h2,_⟩
   ·omega
   ·simp only[maxLen] at h2;omega
  refine⟨_,cap,rfl,hn,hm,fun _=>⟨_,rfl,fun j p hj=>⟨(cs.drop (j*size)).take size,?_,hR.2 j p hj,fun i u hu=>?_⟩⟩⟩
  ·have hjl:=(List.getElem?_eq_some_iff.1 hj).1
   have h1:j*size+size≤cs.length:=by rw[hR.1,← Nat.succ_mul];exact Nat.mul_le_mul_right _ hjl
   rw[List.length_take,List.length_drop];omega
  ·refine h.cells (g:=g) rfl _ u ?_;rw[List.getElem?_take] at hu;split at hu
   ·rw[List.getElem?_drop] at hu;exact hu
   ·cases hu
theorem iR (ad:Addr) (m j:Nat) (hj:0<j):ad.add (m+j)=⟨(ad.add m).block,(ad.add m).off+j,none⟩:=by
 unfold Addr.add;by_cases hm:m=0
 ·subst hm;simp[Nat.ne_of_gt hj]
 ·simp[hm,Nat.add_assoc]
section
variable {P : Program} {ops : Array Oper} {rest : List Oper} {o : Oper} {a : Act} {Q : Exit → Act → World → Prop}
theorem tQ {w0 W:World} (base:Nat) (hgd:o.guard=none) (s x:Operand) (t e:TypeId) (z:Value) (size bytes:Nat)
  (ho:o.op=.call { callee:=.builtin .append,args:=#[s,x],argTypes:=#[t,t] })
  (ht:P.underlying t=some (.slice e)) (hinfo:(P.info? e).map (fun i=>(i.zero,i.size,i.bytes))=some (some z,size,bytes)) (hz:z.cells.size=size) (hs0:0<size) (hb0:0<bytes)
  (v:Value) (n:Nat) (xs ys:List Value) (hs:a.eval s=v) (hx:a.eval x=.slice (some ⟨W.heap.size,0,none⟩) 1 1) (hys:ys.length=size) (h1:∀u∈ys,u.oneCell'=true)
  (HO:W.ownsRow base e size v n xs) (HB:Below base w0 W) (hbase:base≤W.heap.size) (hl:(n+1)*bytes≤140737488355328)
  (h:∀v1 w1,w1.ownsRow base e size v1 (n+1) (xs++ys)→Below base w0 w1→W.grownBy w1 v.ownBlock→(v1.ownBlock=v.ownBlock∨∃b,v1.ownBlock=some b∧W.heap.size≤b)→wpList P ops Q rest (a.put o.dst v1) w1) :
  wpList P ops Q (o::rest) a (W.alloc (.cells ys.toArray e)):=by
 obtain⟨i0,hi,hzz⟩:=Option.map_eq_some_iff.1 hinfo;simp only[Prod.mk.injEq] at hzz;obtain⟨hz0,hz1,hz2⟩:=hzz;have hlen:n+1≤140737488355328:=Nat.le_trans (Nat.le_mul_of_pos_right _ hb0) hl
 refine wpList_append_own_at (W.alloc (.cells ys.toArray e)) hgd s x t ho base e i0 z size bytes ht hi hz0 hz1 hz2 hz hs0 v n xs hs (HO.alloc _) ⟨W.heap.size,0,none⟩ 1 1 ys hx (by rw[hys];simp)
  (by simpa using World.news_of_block (cs:=ys.toArray) (t:=e) (fr:=(0,0)) (heap_alloc_new W (.cells ys.toArray e))) h1 (by simp only[maxLen];omega) hl (by simp;omega) ?_
 intro v1 w1 hown hg _ hat;refine h v1 w1 hown ((HB.alloc hbase _).grown hg (by simp;omega) (mH HO)) (World.grownBy.trans (World.grownBy_alloc W _ _) hg) ?_
 rcases hat with hat|hat
 ·exact .inl hat
 ·exact .inr ⟨_,hat,by simp⟩
end
theorem own_ne {w:World} {base:Nat} {e t:TypeId} {size n g:Nat} {v:Value} {xs:List Value} {cs:Array Value} (h:w.ownsRow base e size v n xs) (hg:w.heap[g]?=some (.cells cs t (0,0))) (hne:e≠t):some g≠v.ownBlock:=by
 rcases h.2 with⟨rfl,_⟩|⟨g',cap,cur,rfl,_,hh,_⟩
 ·simp[Value.ownBlock]
 ·intro he
  have:g=g':=by simpa [Value.ownBlock] using he
  subst this;rw[hg] at hh
  injection hh with hh
  injection hh with _ ht
  exact hne ht.symm
theorem dM {w:World} {g:Nat} {t:TypeId} {cs:Array Value} (h:w.heap[g]?=some (.cells cs t (0,0))) (i:Nat) (u:Value):(w.setCell ⟨g,i,none⟩ u).heap[g]?=some (.cells (cs.setIfInBounds i u) t (0,0)):=by
 simp[World.setCell,Array.getElem?_modify,h]
theorem iL {w:World} {g:Nat} {t:TypeId} {cs:Array Value} (h:w.heap[g]?=some (.cells cs t (0,0))) {p:Addr} (hp:g≠p.block) (u:Value):(w.setCell p u).heap[g]?=some (.cells cs t (0,0)):=(Below.heap_setCell w p u g hp).trans h
theorem bE {w:World} {g:Nat} {o:Obj} (h:w.heap[g]?=some o):g<w.heap.size:=(Array.getElem?_eq_some_iff.1 h).1
theorem ak {w:World} {g:Nat} {t:TypeId} {cs:Array Value} (h:w.heap[g]?=some (.cells cs t (0,0))) (i:Nat):w.cell? ⟨g,i,none⟩=cs[i]?:=cell_of_row w g i cs t (0,0) h
theorem ay {w:World} {g:Nat} {t:TypeId} {cs:Array Value} (h:w.heap[g]?=some (.cells cs t (0,0))) (i:Nat):w.frozen? ⟨g,i,none⟩=false:=by simp[World.frozen?,h]
theorem jW {w w1:World} {g:Nat} {o:Obj} {row:Option Nat} (h:w.heap[g]?=some o) (hg:w.grownBy w1 row) (hne:some g≠row):w1.heap[g]?=some o:=(hg.block g (bE h) hne).trans h
theorem Xc {w:World} {g g':Nat} {t t':TypeId} {cs cs':Array Value} (h:w.heap[g]?=some (.cells cs t (0,0))) (h':w.heap[g']?=some (.cells cs' t' (0,0))) (hne:t≠t'):g≠g':=by
 rintro rfl;rw[h] at h'
 injection h' with h'
 injection h' with _ ht
 exact hne ht
def jl (w w':World) (g:Nat) (row:Option Nat):Prop:=w.heap.size≤w'.heap.size∧∀i,i<w.heap.size→i≠g→some i≠row→w'.heap[i]?=w.heap[i]?
theorem jl.refl (w:World) (g:Nat) (row:Option Nat):jl w w g row:=⟨Nat.le_refl _,fun _ _ _ _=>rfl⟩
theorem jl.BG {w w1:World} {row:Option Nat} (h:w.grownBy w1 row) (g:Nat):jl w w1 g row:=⟨h.size,fun i hi _ hr=>h.block i hi hr⟩
theorem jl.of_below {w w1:World} (h:Below w.heap.size w w1) (g:Nat) (row:Option Nat):jl w w1 g row:=⟨h.size,fun i hi _ _=>h.block i hi⟩
theorem jl.trans {w w1 w2:World} {g:Nat} {row ae5:Option Nat} (h:jl w w1 g row) (k:jl w1 w2 g ae5) (hr:ae5=row∨∃b,ae5=some b∧w.heap.size≤b):jl w w2 g row :=
 ⟨Nat.le_trans h.1 k.1,fun i hi hg hn=>by
  refine (k.2 i (Nat.lt_of_lt_of_le hi h.1) hg ?_).trans (h.2 i hi hg hn)
  rcases hr with rfl|⟨b,rfl,hb⟩
  ·exact hn
  ·intro e
   injection e with e
   omega⟩
theorem jl.blk {w w1:World} {g g':Nat} {row:Option Nat} {o:Obj} (h:jl w w1 g row) (hb:w.heap[g']?=some o) (hg:g'≠g) (hr:some g'≠row):w1.heap[g']?=some o:=(h.2 g' (bE hb) hg hr).trans hb
theorem jl.own {w w1:World} {g:Nat} {row:Option Nat} {base:Nat} {e:TypeId} {size n:Nat} {v:Value} {xs:List Value} (h:jl w w1 g row) (ho:w.ownsRow base e size v n xs) (hg:v.ownBlock≠some g) (hr:v.ownBlock=none∨v.ownBlock≠row):w1.ownsRow base e size v n xs:=by
 obtain⟨h1,h2⟩:=ho;refine⟨h1,?_⟩
 rcases h2 with h2|⟨b,cap,cur,rfl,hb,hh,r⟩
 ·exact .inl h2
 ·refine .inr ⟨b,cap,cur,rfl,hb,h.blk hh ?_ ?_,r⟩
  ·intro e;exact hg (by rw[← e];rfl)
  ·rcases hr with hr|hr
   ·simp[Value.ownBlock] at hr
   ·exact hr
def Ev {α:Type} (g:Nat→Option α) (r:α):Prop:=∃K,∀k,K≤k→g k=some r
theorem Ev.now {α:Type} (r:α):Ev (fun _=>some r) r:=⟨0,fun _ _=>rfl⟩
theorem Ev.rounds {α:Type} {g:Nat→Option α} {r:α} (h:Ev g r):∃k,g k=some r:=by
 obtain⟨K,h⟩:=h;exact⟨K,h K (Nat.le_refl _)⟩
theorem Ev.bind {α β:Type} {g:Nat→Option α} {f:Nat→α→Option β} {a:α} {r:β} (h:Ev g a) (k:Ev (fun n=>f n a) r):Ev (fun n=>(g n).bind (f n)) r:=by
 obtain⟨K,h⟩:=h;obtain⟨K',k⟩:=k;refine⟨max K K',fun n hn=>?_⟩;have h1:=h n (by omega);have h2:=k n (by omega);simp only[h1,Option.bind_some];exact h2
theorem Ev.step {α:Type} {g f:Nat→Option α} {r:α} (h:∀k,g (k+1)=f k) (k:Ev f r):Ev g r:=by
 obtain⟨K,k⟩:=k;refine⟨K+1,fun n hn=>?_⟩
 obtain⟨m,rfl⟩:∃m,n=m+1:=⟨n - 1,by omega⟩
 rw[h];exact k m (by omega)
theorem Ev.congr {α:Type} {g f:Nat→Option α} {r:α} (h:∀k,g k=f k) (k:Ev f r):Ev g r:=by
 obtain⟨K,k⟩:=k;exact⟨K,fun n hn=>(h n).trans (k n hn)⟩
section
variable {P : Program} {ops : Array Oper} {o : Oper} {a : Act} {Q : Exit → Act → World → Prop} {K : Act → World → Prop}
theorem Cx {w0 W:World} (base:Nat) (hw:Region.wanted o (yielded ops a.tmps)=true) (s x:Operand) (t e:TypeId) (z:Value) (size bytes:Nat)
  (ho:o.op=.call { callee:=.builtin .append,args:=#[s,x],argTypes:=#[t,t] })
  (ht:P.underlying t=some (.slice e)) (hinfo:(P.info? e).map (fun i=>(i.zero,i.size,i.bytes))=some (some z,size,bytes)) (hz:z.cells.size=size) (hs0:0<size) (hb0:0<bytes)
  (v:Value) (n:Nat) (xs ys:List Value) (hs:a.eval s=v) (hx:a.eval x=.slice (some ⟨W.heap.size,0,none⟩) 1 1) (hys:ys.length=size) (h1:∀u∈ys,u.oneCell'=true)
  (HO:W.ownsRow base e size v n xs) (HB:Below base w0 W) (hbase:base≤W.heap.size) (hl:(n+1)*bytes≤140737488355328)
  (h:∀v1 w1,w1.ownsRow base e size v1 (n+1) (xs++ys)→Below base w0 w1→W.grownBy w1 v.ownBlock→(v1.ownBlock=v.ownBlock∨∃b,v1.ownBlock=some b∧W.heap.size≤b)→K (a.put o.dst v1) w1) :
  if Region.wanted o (yielded ops a.tmps)=true then Oper.wp P o a (W.alloc (.cells ys.toArray e)) K Q else K (a.put o.dst undef) (W.alloc (.cells ys.toArray e)):=by
 obtain⟨i0,hi,hzz⟩:=Option.map_eq_some_iff.1 hinfo;simp only[Prod.mk.injEq] at hzz;obtain⟨hz0,hz1,hz2⟩:=hzz;have hlen:n+1≤140737488355328:=Nat.le_trans (Nat.le_mul_of_pos_right _ hb0) hl;rw[if_pos hw]
 obtain⟨v1,w1,hr,hown,hg,_,hat⟩:=run_append_own_at (P:=P) (W.alloc (.cells ys.toArray e)) base t o.type e i0 z size bytes ht hi hz0 hz1 hz2 hz hs0 v n xs (HO.alloc _) ⟨W.heap.size,0,none⟩ 1 1 ys (by rw[hys];simp)
  (by simpa using World.news_of_block (cs:=ys.toArray) (t:=e) (fr:=(0,0)) (heap_alloc_new W (.cells ys.toArray e))) h1 (by simp only[maxLen];omega) hl (by simp;omega)
 unfold Oper.wp execOp;simp only[ho,resolve,invoke,builtin,Sem.run_bind,Sem.run_pure,Result.andThen_ok,List.map_toArray,List.map_cons,List.map_nil,hs,hx,hr];refine h v1 w1 hown ((HB.alloc hbase _).grown hg (by simp;omega) (mH HO)) (World.grownBy.trans (World.grownBy_alloc W _ _) hg) ?_
 rcases hat with hat|hat
 ·exact .inl hat
 ·exact .inr ⟨_,hat,by simp⟩
end
theorem vU {w:World} {base base':Nat} {e:TypeId} {size n:Nat} {v:Value} {xs:List Value} (h:w.ownsRow base e size v n xs) (hb:base'≤base):w.ownsRow base' e size v n xs:=by
 obtain⟨h1,h2⟩:=h;refine⟨h1,?_⟩
 rcases h2 with h2|⟨g,cap,cur,rfl,hg,r⟩
 ·exact .inl h2
 ·exact .inr ⟨g,cap,cur,rfl,Nat.le_trans hb hg,r⟩
section
variable {α : Type} {enc : α → Value} {d : α}
def encs (enc:α→Value) (xs:List α):List Value:=xs.map enc
def p9 (d:α) (xs:List α) (i:Int):α:=xs.getD i.toNat d
theorem Em (xs:List α):(encs enc xs).length=xs.length:=by simp[encs]
theorem MV (xs:List α) (j:Nat) (h:j<xs.length):(encs enc xs)[j]?=some (enc (xs.getD j d)):=by
 simp[encs,List.getElem?_eq_getElem h,List.getD_eq_getElem?_getD]
def iU (enc:α→Value) (d:α) (w:World) (A:Option Addr) (n:Nat) (xs:List α):Prop :=
 xs.length=n∧n≤9223372036854775807∧(0<n→∃ad,A=some ad∧∀j,j<n→w.cell? (ad.add j)=some (enc (xs.getD j d)))
theorem iU.at_ {w:World} {A:Option Addr} {n:Nat} {xs:List α} (h:iU enc d w A n xs) (i:Int) (h0:0≤i) (h1:i<n):∃ad,A=some ad∧w.cell? (ad.add i.toNat)=some (enc (p9 d xs i)):=by
 obtain⟨ad,e,hc⟩:=h.2.2 (by omega);exact⟨ad,e,hc _ (by omega)⟩
theorem iU.below {w w1:World} {A:Option Addr} {n:Nat} {xs:List α} (h:iU enc d w A n xs) (hb:Below w.heap.size w w1):iU enc d w1 A n xs :=
 ⟨h.1,h.2.1,fun hn=>by
  obtain⟨ad,e,hc⟩:=h.2.2 hn
  exact⟨ad,e,fun j hj=>au hb (hc j hj)⟩⟩
theorem iU.jZ {w:World} {A:Option Addr} {n:Nat} {xs:List α} (h:iU enc d w A n xs) (i:Nat) (hi:i≤n):iU enc d w A i (xs.take i):=by
 refine⟨by rw[List.length_take,h.1];omega,by have:=h.2.1;omega,fun hp=>?_⟩;obtain⟨ad,e,hc⟩:=h.2.2 (by omega);refine⟨ad,e,fun j hj=>?_⟩;rw[hc j (by omega)];simp[List.getD_eq_getElem?_getD,hj]
theorem RF (W:World) (base:Nat) (e:TypeId) (xs:List α) (hb:base≤W.heap.size) (hm:xs.length≤9223372036854775807) :
  (W.alloc (.cells (encs enc xs).toArray e)).ownsRow base e 1 (.slice (some ⟨W.heap.size,0,none⟩) xs.length xs.length) xs.length (encs enc xs):=by
 have h:=World.ownsRow_lit (base:=base) (e:=e) (size:=1) W (encs enc xs).toArray xs.length hb (by simpa [maxLen] using hm) (by simp[encs])
 simpa using h
end
section
variable {α : Type} {P : Program} {ops : Array Oper} {rest : List Oper} {o : Oper} {a : Act} {Q : Exit → Act → World → Prop}
theorem zy {w0 W:World} (enc:α→Value) (d:α) (base:Nat) (hgd:o.guard=none) (s x:Operand) (t e:TypeId) (z:Value) (bytes:Nat)
  (ho:o.op=.call { callee:=.builtin .append,args:=#[s,x],argTypes:=#[t,t] })
  (ht:P.underlying t=some (.slice e)) (hinfo:(P.info? e).map (fun i=>(i.zero,i.size,i.bytes))=some (some z,1,bytes)) (hz:z.cells.size=1) (hb0:0<bytes) (h1:∀x:α,(enc x).oneCell'=true)
  (v:Value) (xs ys:List α) (A:Option Addr) (m c:Nat) (hs:a.eval s=v) (hx:a.eval x=.slice A m c)
  (HO:W.ownsRow base e 1 v xs.length (encs enc xs)) (HR:iU enc d W A m ys) (HB:Below base w0 W) (hbase:base≤W.heap.size) (hl:(xs.length+m)*bytes≤140737488355328)
  (h:∀v1 w1,w1.ownsRow base e 1 v1 (xs++ys).length (encs enc (xs++ys))→Below base w0 w1→W.grownBy w1 v.ownBlock→(v1.ownBlock=v.ownBlock∨∃b,v1.ownBlock=some b∧W.heap.size≤b)→wpList P ops Q rest (a.put o.dst v1) w1) :
  wpList P ops Q (o::rest) a W:=by
 obtain⟨i0,hi,hzz⟩:=Option.map_eq_some_iff.1 hinfo;simp only[Prod.mk.injEq] at hzz;obtain⟨hz0,hz1,hz2⟩:=hzz;have hm:ys.length=m:=HR.1;have hlen:xs.length+m≤140737488355328:=Nat.le_trans (Nat.le_mul_of_pos_right _ hb0) hl
 have hrun:∃v1 w1,(Builtin.append_ #[t,t] o.type #[v,.slice A m c]).run P W=.ok v1 w1∧w1.ownsRow base e 1 v1 (xs++ys).length (encs enc (xs++ys))∧W.grownBy w1 v.ownBlock∧(v1.ownBlock=v.ownBlock∨v1.ownBlock=some W.heap.size):=by
  rcases A with _|ad
  ·have h0:m=0:=by
    rcases Nat.eq_zero_or_pos m with h0|h0
    ·exact h0
    ·obtain⟨ad,h,_⟩:=HR.2.2 h0;cases h
   subst h0;obtain rfl:ys=[]:=List.eq_nil_of_length_eq_zero hm;refine⟨v,W,?_,by simpa using HO,World.grownBy.refl W _,.inl rfl⟩
   rcases HO.2 with⟨rfl,hn⟩|⟨g,cap,cur,rfl,_,_,hnc,_⟩
   ·simp[Builtin.append_,run_underlying ht,sizeOf,typeInfo,hi,Builtin.lenOf,Builtin.firstCells]
   ·simp[Builtin.append_,run_underlying ht,sizeOf,typeInfo,hi,Builtin.lenOf,Builtin.firstCells,hnc,storeCells]
  ·have hcells:∀j u,(encs enc ys)[j]?=some u→W.cell? (ad.add j)=some u:=by
    intro j u hu
    have hj:j<ys.length:=by
     rcases Nat.lt_or_ge j ys.length with h|h
     ·exact h
     ·simp[encs,List.getElem?_eq_none h] at hu
    obtain⟨YE,h',hc⟩:=HR.2.2 (by omega)
    injection h' with h'
    subst h';rw[MV (d:=d) ys j hj] at hu;rw[← hu];exact hc j (by omega)
   obtain⟨v1,w1,hr,h2,h3,_,h5⟩:=run_append_own_at (P:=P) W base t o.type e i0 z 1 bytes ht hi hz0 hz1 hz2 hz (by omega) v xs.length (encs enc xs) HO ad m c (encs enc ys) (by simp[encs,hm]) hcells
    (by intro u hu;simp only[encs,List.mem_map] at hu;obtain⟨q,_,rfl⟩:=hu;exact h1 q) (by simp only[maxLen];omega) hl hbase
   exact⟨v1,w1,hr,by simpa [encs,hm] using h2,h3,h5⟩
 obtain⟨v1,w1,hr,hown,hg,hat⟩:=hrun
 refine wpList_plain hgd fun K hK=>?_
 unfold Oper.wp execOp;simp only[ho,resolve,invoke,builtin,Sem.run_bind,Sem.run_pure,Result.andThen_ok,List.map_toArray,List.map_cons,List.map_nil,hs,hx,hr];refine hK _ _ (h v1 w1 hown (HB.grown hg hbase (mH HO)) hg ?_)
 rcases hat with hat|hat
 ·exact .inl hat
 ·exact .inr ⟨_,hat,Nat.le_refl _⟩
end
theorem aM {w:World} {g:Nat} {o:Obj} (h:w.heap[g]?=some o) (o':Obj):(w.alloc o').heap[g]?=some o:=(Below.heap_alloc w o' g (bE h)).trans h
theorem bI {w:World} {g:Nat} {o:Obj} (h:w.heap[g]?=some o):w.drew.heap[g]?=some o:=h
theorem bD {w:World} {g:Nat} {o:Obj} (h:w.heap[g]?=some o) (n:Nat):(w.drewN n).heap[g]?=some o:=h
theorem aG {w w1:World} {g:Nat} {o:Obj} (h:w.heap[g]?=some o) (hb:Below w.heap.size w w1):w1.heap[g]?=some o:=(hb.block g (bE h)).trans h
theorem bJ (w:World) (o:Obj):(w.alloc o).heap[w.heap.size]?=some o:=heap_alloc_new w o
section
variable {P : Program}
end
theorem ae6 {w:World} {base n m c size:Nat} {e:TypeId} {A:Option Addr} {xs:List Value} (h:w.ownsRow base e size (.slice A m c) n xs):m≤c:=by
 rcases h.2 with⟨he,_⟩|⟨g,cap,cur,he,_,_,hnc,_⟩
 ·injection he with _ h2 h3
  omega
 ·injection he with _ h2 h3
  omega
def eU {α:Type} (R:α→List Value→Prop) (e:TypeId) (size:Nat) (w:World) (base:Nat) (v:Value) (ps:List α):Prop :=
 ∃inner,w.ownsRow base e size v ps.length inner∧dO R size ps inner
section
variable {α : Type} {R R' : α → List Value → Prop} {e : TypeId} {size : Nat} {w w1 : World} {base : Nat} {v : Value} {ps : List α}
theorem eU.none_ (R:α→List Value→Prop) (e:TypeId) (size:Nat) (w:World) (base:Nat):eU R e size w base (.slice none 0 0) []:=⟨[],abE _ _ _ _,dO.none _ _⟩
theorem eU.rJ (h:eU R e size w base v ps) (hR:∀p c,R p c→R' p c):eU R' e size w base v ps:=by
 obtain⟨inner,ho,hr⟩:=h;exact⟨inner,ho,hr.rJ hR⟩
theorem eU.below (h:eU R e size w base v ps) (hb:Below w.heap.size w w1):eU R e size w1 base v ps:=by
 obtain⟨inner,ho,hr⟩:=h;exact⟨inner,MG ho hb,hr⟩
theorem eU.other (h:eU R e size w base v ps) {row:Option Nat} (hg:w.grownBy w1 row) (hne:v.ownBlock=none∨v.ownBlock≠row):eU R e size w1 base v ps:=by
 obtain⟨inner,ho,hr⟩:=h;exact⟨inner,Vl ho hg hne,hr⟩
theorem eU.keep (h:eU R e size w base v ps) {g:Nat} {t:TypeId} {cells:Array Value} (hb:w.heap[g]?=some (.cells cells t (0,0))) (ht:e≠t) (hk:jl w w1 g none):eU R e size w1 base v ps:=by
 obtain⟨inner,ho,hr⟩:=h;exact⟨inner,hk.own ho (Ne.symm (own_ne ho hb ht)) (by cases v.ownBlock <;> simp),hr⟩
theorem eU.lower (h:eU R e size w base v ps) {base':Nat} (hb:base'≤base):eU R e size w base' v ps:=by
 obtain⟨inner,ho,hr⟩:=h;exact⟨inner,vU ho hb,hr⟩
theorem eU.reads (h:eU R e size w base v ps):∃A c,v=.slice A ps.length c∧ps.length≤c∧kT R size w A ps.length ps:=by
 obtain⟨inner,ho,hr⟩:=h;obtain⟨A,c,rfl,hrow⟩:=JA ho hr rfl;exact⟨A,c,rfl,ae6 ho,hrow⟩
theorem eU.Yb (h:eU R e size w base v ps) {g:Nat} {t:TypeId} {cells:Array Value} (hb:w.heap[g]?=some (.cells cells t (0,0))) (ht:e≠t):some g≠v.ownBlock:=by
 obtain⟨inner,ho,hr⟩:=h;exact own_ne ho hb ht
theorem eU.lit (W:World) (base:Nat) {inner:List Value} (hr:dO R size ps inner) (hb:base≤W.heap.size) (hm:ps.length≤9223372036854775807) :
  eU R e size (W.alloc (.cells inner.toArray e)) base (.slice (some ⟨W.heap.size,0,none⟩) ps.length ps.length) ps:=by
 have h:=World.ownsRow_lit (base:=base) (e:=e) (size:=size) W inner.toArray ps.length hb (by simpa [maxLen] using hm) (by simpa using hr.1);exact⟨inner,by simpa using h,hr⟩
end
section
variable {P : Program} {ops : Array Oper} {rest : List Oper} {o : Oper} {a : Act} {Q : Exit → Act → World → Prop} {α : Type} {R : α → List Value → Prop}
theorem eU.append {w0 W:World} (base:Nat) (hgd:o.guard=none) (s x:Operand) (t e:TypeId) (z:Value) (size bytes:Nat)
  (ho:o.op=.call { callee:=.builtin .append,args:=#[s,x],argTypes:=#[t,t] })
  (ht:P.underlying t=some (.slice e)) (hinfo:(P.info? e).map (fun i=>(i.zero,i.size,i.bytes))=some (some z,size,bytes)) (hz:z.cells.size=size) (hs0:0<size) (hb0:0<bytes)
  (v:Value) (ps:List α) (p:α) (cs:List Value) (hs:a.eval s=v) (hx:a.eval x=.slice (some ⟨W.heap.size,0,none⟩) 1 1) (hp:R p cs) (hcs:cs.length=size) (h1:∀u∈cs,u.oneCell'=true)
  (HO:eU R e size W base v ps) (HB:Below base w0 W) (hbase:base≤W.heap.size) (hl:(ps.length+1)*bytes≤140737488355328)
  (h:∀v1 w1,eU R e size w1 base v1 (ps++[p])→Below base w0 w1→W.grownBy w1 v.ownBlock→(v1.ownBlock=v.ownBlock∨∃b,v1.ownBlock=some b∧W.heap.size≤b)→wpList P ops Q rest (a.put o.dst v1) w1) :
  wpList P ops Q (o::rest) a (W.alloc (.cells cs.toArray e)):=by
 obtain⟨inner,hown,hr⟩:=HO;refine tQ base hgd s x t e z size bytes ho ht hinfo hz hs0 hb0 v ps.length inner cs hs hx hcs h1 hown HB hbase hl ?_;intro v1 w1 hown1 hb1 hg1 R4;exact h v1 w1 ⟨inner++cs,by rw[List.length_append,List.length_singleton];exact hown1,hr.snoc hp hcs⟩ hb1 hg1 R4
end
section
variable {P : Program} {ops : Array Oper} {o : Oper} {a : Act} {Q : Exit → Act → World → Prop} {K : Act → World → Prop} {α : Type} {R : α → List Value → Prop}
end
theorem kT.aeZ {α:Type} {R:α→List Value→Prop} {size:Nat} {w:World} {ad:Addr} {n:Nat} {ps:List α} (h:kT R size w (some ad) n ps) :
  ∃inner,dO R size ps inner∧∀j u,inner[j]?=some u→w.cell? (ad.add j)=some u:=by
 have key:∀m,m≤ps.length→∃inner,dO R size (ps.take m) inner∧∀j u,inner[j]?=some u→w.cell? (ad.add j)=some u:=by
  intro m
  induction m with
  | zero=>exact fun _=>⟨[],dO.none _ _,fun j u hu=>by simp at hu⟩
  | succ m ih=>
   intro hm;obtain⟨inner,hr,hc⟩:=ih (by omega);obtain⟨YE,he,hcell⟩:=h.2.2 (by have:=h.1;omega)
   injection he with he
   subst he;obtain⟨c,hcl,hp,hcc⟩:=hcell m _ (List.getElem?_eq_getElem (show m<ps.length by omega));refine⟨inner++c,?_,fun j u hu=>?_⟩
   ·rw[List.take_succ_eq_append_getElem (show m<ps.length by omega)];exact hr.snoc hp hcl
   ·have hil:inner.length=m*size:=by rw[hr.1,List.length_take,Nat.min_eq_left (by omega)]
    rcases Nat.lt_or_ge j inner.length with hj|hj
    ·rw[List.getElem?_append_left hj] at hu;exact hc j u hu
    ·rw[List.getElem?_append_right hj] at hu;have:=hcc (j - inner.length) u hu
     rwa [hil,Nat.add_sub_cancel' (by omega)] at this
 obtain⟨inner,hr,hc⟩:=key ps.length (Nat.le_refl _);rw[List.take_length] at hr;exact⟨inner,hr,hc⟩
section
variable {α : Type} {P : Program}
end
section
variable {P : Program} {ops : Array Oper} {rest : List Oper} {o : Oper} {a : Act} {Q : Exit → Act → World → Prop}
theorem uY {w0 W:World} (base:Nat) (hgd:o.guard=none) (s x:Operand) (t u e:TypeId)
  (ho:o.op=.call { callee:=.builtin .append,args:=#[s,x],argTypes:=#[t,u] })
  (ht:P.underlying t=some (.slice e)) (hu:P.underlying u=some .string) (hinfo:(P.info? e).map (fun i=>(i.zero,i.size,i.bytes))=some (some (.int .u8 0),1,1))
  (v:Value) (xs:List Int) (y:ByteArray) (hs:a.eval s=v) (hx:a.eval x=.string y)
  (HO:W.ownsRow base e 1 v xs.length (nums .u8 xs)) (HB:Below base w0 W) (hbase:base≤W.heap.size) (hl:xs.length+y.size≤140737488355328)
  (h:∀v1 w1,w1.ownsRow base e 1 v1 (xs++bytesOf y).length (nums .u8 (xs++bytesOf y))→Below base w0 w1→W.grownBy w1 v.ownBlock→wpList P ops Q rest (a.put o.dst v1) w1) :
  wpList P ops Q (o::rest) a W:=by
 obtain⟨i0,hi,hzz⟩:=Option.map_eq_some_iff.1 hinfo;simp only[Prod.mk.injEq] at hzz;obtain⟨hz0,hz1,hz2⟩:=hzz;refine Lib.wpList_append_own_string W hgd s x t u ho base e i0 ht hu hi hz0 hz1 hz2 v xs.length (nums .u8 xs) hs HO y hx (by simp only[maxLen];omega) hl hbase ?_;intro v1 w1 hown hg _
 have hl2:(xs++bytesOf y).length=xs.length+y.size:=by rw[List.length_append,bytesOf_length]
 have hc:nums .u8 (xs++bytesOf y)=nums .u8 xs++Lib.strCells y:=by
  rw[nums_append]
  congr 1
  simp[nums,bytesOf,Lib.strCells]
 exact h v1 w1 (by rw[hl2,hc];exact hown) (HB.grown hg hbase (mH HO)) hg
end
structure Kd (α:Type) where
 sz:Nat
 E:List Nat
 K:World→α→List Value→Prop
 M:World→Nat→(Nat→Prop)→α→List Value→Prop
 lW:∀{w x cs},K w x cs→cs.length=sz
 kX:∀{w x cs},K w x cs→∀u∈cs,u.oneCell'=true
 iN:∀{w w1:World} {x cs},Below w.heap.size w w1→K w x cs→K w1 x cs
 iw:∀{w base ok x cs},M w base ok x cs→K w x cs
 eX:∀{w base ok ok' x cs},(∀k,ok k→ok' k)→M w base ok x cs→M w base ok' x cs
 gN:∀{w:World} {base ok x cs},M w base ok x cs→M w base (fun k=>ok k∧base≤k∧k<w.heap.size∧∃q,q∈E∧∃cells,w.heap[k]?=some (.cells cells q (0,0))) x cs
 je:∀{w w1:World} {base ok x cs},(∀k,ok k→w1.heap[k]?=w.heap[k]?)→M w base ok x cs→M w1 base ok x cs
 iO:∀{w base base' ok x cs},base'≤base→M w base ok x cs→M w base' ok x cs
theorem Yc {w w1:World} {base:Nat} {e:TypeId} {size n:Nat} {v:Value} {xs:List Value} (h:w.ownsRow base e size v n xs) (hm:∀k,v.ownBlock=some k→w1.heap[k]?=w.heap[k]?):w1.ownsRow base e size v n xs:=by
 obtain⟨h1,h2⟩:=h;refine⟨h1,?_⟩
 rcases h2 with h2|⟨g,cap,cur,rfl,hg,hh,r⟩
 ·exact .inl h2
 ·exact .inr ⟨g,cap,cur,rfl,hg,(hm g (by simp[Value.ownBlock])).trans hh,r⟩
theorem mY {w:World} {base:Nat} {e:TypeId} {size n:Nat} {v:Value} {xs:List Value} (h:w.ownsRow base e size v n xs) (k:Nat) (hk:v.ownBlock=some k):∃cells,w.heap[k]?=some (.cells cells e (0,0)):=by
 rcases h.2 with⟨rfl,_⟩|⟨g,cap,cur,rfl,hg,hh,r⟩
 ·simp[Value.ownBlock] at hk
 ·have:g=k:=by simpa [Value.ownBlock] using hk
  subst this;exact⟨cur,hh⟩
namespace Kd
def C {α:Type} (d:Kd α) (w:World) (A:Option Addr) (n:Nat) (xs:List α):Prop:=kT (d.K w) d.sz w A n xs
def R {α:Type} (d:Kd α) (e:Nat) (w:World) (base:Nat) (ok:Nat→Prop) (v:Value) (xs:List α):Prop :=
 (∀k,v.ownBlock=some k→ok k)∧eU (d.M w base (fun k=>ok k∧some k≠v.ownBlock)) e d.sz w base v xs
section
variable {α : Type} {d : Kd α} {e : Nat} {w w1 : World} {base : Nat} {ok ok' : Nat → Prop} {v : Value} {xs : List α}
theorem aC {A:Option Addr} {n:Nat} (h:d.C w A n xs) (hb:Below w.heap.size w w1):d.C w1 A n xs:=kT.rJ h hb (fun _ _ hp=>d.iN hb hp)
theorem eY (d:Kd α) (e:Nat) (w:World) (base:Nat) (ok:Nat→Prop):d.R e w base ok (.slice none 0 0) []:=⟨fun k hk=>by simp[Value.ownBlock] at hk,eU.none_ _ _ _ _ _⟩
theorem dU (h:d.R e w base ok v xs) (hok:∀k,ok k→ok' k):d.R e w base ok' v xs:=⟨fun k hk=>hok k (h.1 k hk),h.2.rJ (fun _ _ hp=>d.eX (fun k hk=>⟨hok k hk.1,hk.2⟩) hp)⟩
theorem gM (h:d.R e w base ok v xs):d.R e w base (fun k=>ok k∧base≤k∧k<w.heap.size∧∃q,q∈e::d.E∧∃cells,w.heap[k]?=some (.cells cells q (0,0))) v xs:=by
 obtain⟨h0,inner,ho,hr⟩:=h;refine⟨fun k hk=>?_,inner,ho,hr.rJ (fun _ _ hp=>d.eX (fun k hk=>?_) (d.gN hp))⟩
 ·obtain⟨cells,hc⟩:=mY ho k hk;exact⟨h0 k hk,mH ho k hk,Qd ho k hk,e,List.mem_cons_self,cells,hc⟩
 ·obtain⟨⟨h1,h2⟩,h3,h4,q,hq,hc⟩:=hk;exact⟨⟨h1,h3,h4,q,List.mem_cons_of_mem _ hq,hc⟩,h2⟩
theorem CQ (h:d.R e w base ok v xs) (hm:∀k,ok k→w1.heap[k]?=w.heap[k]?):d.R e w1 base ok v xs:=by
 obtain⟨h0,inner,ho,hr⟩:=h;exact⟨h0,inner,Yc ho (fun k hk=>hm k (h0 k hk)),hr.rJ (fun _ _ hp=>d.je (fun k hk=>hm k hk.1) hp)⟩
theorem fQ {base':Nat} (h:d.R e w base ok v xs) (hb:base'≤base):d.R e w base' ok v xs:=by
 obtain⟨h0,inner,ho,hr⟩:=h;exact⟨h0,inner,vU ho hb,hr.rJ (fun _ _ hp=>d.iO hb hp)⟩
theorem ou (h:d.R e w base ok v xs) (hm:∀k,ok k→k<w.heap.size→w1.heap[k]?=w.heap[k]?):d.R e w1 base ok v xs :=
 dU (CQ (gM h) (fun k hk=>hm k hk.1 hk.2.2.1)) (fun _ hk=>hk.1)
theorem Yd {x:α} {cs:List Value} (h:d.M w base ok x cs) (hm:∀k,ok k→k<w.heap.size→w1.heap[k]?=w.heap[k]?):d.M w1 base ok x cs :=
 d.eX (fun _ hk=>hk.1) (d.je (fun k hk=>hm k hk.1 hk.2.2.1) (d.gN h))
theorem dF (h:d.R e w base ok v xs) (hb:Below w.heap.size w w1):d.R e w1 base ok v xs:=ou h (fun k _ hk=>hb.block k hk)
theorem abF {x:α} {cs:List Value} (h:d.M w base ok x cs) (hb:Below w.heap.size w w1):d.M w1 base ok x cs:=Yd h (fun k _ hk=>hb.block k hk)
theorem jK (h:d.R e w base ok v xs) {p:Addr} (hok:∀k,ok k→k≠p.block) (u:Value):d.R e (w.setCell p u) base ok v xs:=ou h (fun k ho _=>Below.heap_setCell w p u k (hok k ho))
theorem pz (h:d.R e w base ok v xs) {g t:Nat} {cells:Array Value} (hb:w.heap[g]?=some (.cells cells t (0,0))) (ht:∀q,q∈e::d.E→q≠t):d.R e w base (fun k=>ok k∧k≠g) v xs :=
 dU (gM h) (fun k hk=>⟨hk.1,by
  obtain⟨_,_,_,q,hq,cells',hc⟩:=hk;rintro rfl;rw[hc] at hb
  injection hb with hb
  injection hb with _ hb
  exact ht q hq hb⟩)
theorem iP (h:d.R e w base ok v xs) {g t:Nat} {cells:Array Value} (hb:w.heap[g]?=some (.cells cells t (0,0))) (ht:∀q,q∈e::d.E→q≠t) (j:Nat) (u:Value):d.R e (w.setCell ⟨g,j,none⟩ u) base ok v xs :=
 dU (jK (p:=⟨g,j,none⟩) (pz h hb ht) (fun _ hk=>hk.2) u) (fun _ hk=>hk.1)
theorem ug (h:d.R e w base ok v xs):∃A c,v=.slice A xs.length c∧xs.length≤c∧d.C w A xs.length xs:=by
 obtain⟨A,c,he,hl,hr⟩:=eU.reads h.2;exact⟨A,c,he,hl,hr.rJ (Below.refl _ _) (fun _ _ hp=>d.iw hp)⟩
theorem bG (h:d.R e w base ok v xs):∃A c,v=.slice A xs.length c:=by
 obtain⟨A,c,he,_⟩:=ug h;exact⟨A,c,he⟩
theorem FN (h:d.R e w base ok v xs):∃inner,w.ownsRow base e d.sz v xs.length inner:=by
 obtain⟨_,inner,ho,_⟩:=h;exact⟨inner,ho⟩
theorem uJ (h:d.R e w base ok v xs) {g t:Nat} {cells:Array Value} (hb:w.heap[g]?=some (.cells cells t (0,0))) (ht:e≠t):some g≠v.ownBlock:=eU.Yb h.2 hb ht
end
def scalar {α:Type} (enc:α→Value) (h1:∀x,(enc x).oneCell'=true):Kd α where
 sz:=1
 E:=[]
 K:=fun _ x cs=>cs=[enc x]
 M:=fun _ _ _ x cs=>cs=[enc x]
 lW:=fun h=>by rw[h];rfl
 kX:=fun h u hu=>by
  rw[h] at hu;rw[List.mem_singleton.1 hu];exact h1 _
 iN:=fun _ h=>h
 iw:=fun h=>h
 eX:=fun _ h=>h
 gN:=fun h=>h
 je:=fun _ h=>h
 iO:=fun _ h=>h
def int (k:IntKind):Kd Int:=scalar (Value.int k) (fun _=>rfl)
def bool:Kd Bool:=scalar Value.bool (fun _=>rfl)
def string:Kd ByteArray:=scalar Value.string (fun _=>rfl)
def slice {α:Type} (e:Nat) (d:Kd α):Kd (List α) where
 sz:=1
 E:=e::d.E
 K:=fun w xs cs=>∃A c,cs=[.slice A xs.length c]∧xs.length≤c∧d.C w A xs.length xs
 M:=fun w base ok xs cs=>∃v,cs=[v]∧d.R e w base ok v xs
 lW:=by
  rintro w x cs ⟨A,c,rfl,_⟩;rfl
 kX:=by
  rintro w x cs ⟨A,c,rfl,_⟩ u hu;rw[List.mem_singleton.1 hu];rfl
 iN:=by
  rintro w w1 x cs hb ⟨A,c,rfl,hl,hr⟩;exact⟨A,c,rfl,hl,aC hr hb⟩
 iw:=by
  rintro w base ok x cs ⟨v,rfl,h⟩;obtain⟨A,c,rfl,hl,hr⟩:=ug h;exact⟨A,c,rfl,hl,hr⟩
 eX:=by
  rintro w base ok ok' x cs hok ⟨v,rfl,h⟩;exact⟨v,rfl,dU h hok⟩
 gN:=by
  rintro w base ok x cs ⟨v,rfl,h⟩;exact⟨v,rfl,gM h⟩
 je:=by
  rintro w w1 base ok x cs hm ⟨v,rfl,h⟩;exact⟨v,rfl,CQ h hm⟩
 iO:=by
  rintro w base base' ok x cs hb ⟨v,rfl,h⟩;exact⟨v,rfl,fQ h hb⟩
def pair {α β:Type} (a:Kd α) (b:Kd β):Kd (α × β) where
 sz:=a.sz+b.sz
 E:=a.E++b.E
 K:=fun w x cs=>∃c0 c1,cs=c0++c1∧a.K w x.1 c0∧b.K w x.2 c1
 M:=fun w base ok x cs=>∃c0 c1,cs=c0++c1∧a.M w base ok x.1 c0∧b.M w base ok x.2 c1
 lW:=by
  rintro w x cs ⟨c0,c1,rfl,h0,h1⟩;rw[List.length_append,a.lW h0,b.lW h1]
 kX:=by
  rintro w x cs ⟨c0,c1,rfl,h0,h1⟩ u hu
  rcases List.mem_append.1 hu with hu|hu
  ·exact a.kX h0 u hu
  ·exact b.kX h1 u hu
 iN:=by
  rintro w w1 x cs hb ⟨c0,c1,rfl,h0,h1⟩;exact⟨c0,c1,rfl,a.iN hb h0,b.iN hb h1⟩
 iw:=by
  rintro w base ok x cs ⟨c0,c1,rfl,h0,h1⟩;exact⟨c0,c1,rfl,a.iw h0,b.iw h1⟩
 eX:=by
  rintro w base ok ok' x cs hok ⟨c0,c1,rfl,h0,h1⟩;exact⟨c0,c1,rfl,a.eX hok h0,b.eX hok h1⟩
 gN:=by
  rintro w base ok x cs ⟨c0,c1,rfl,h0,h1⟩;refine⟨c0,c1,rfl,a.eX ?_ (a.gN h0),b.eX ?_ (b.gN h1)⟩
  ·rintro k ⟨h2,h3,h4,q,hq,hc⟩;exact⟨h2,h3,h4,q,List.mem_append_left _ hq,hc⟩
  ·rintro k ⟨h2,h3,h4,q,hq,hc⟩;exact⟨h2,h3,h4,q,List.mem_append_right _ hq,hc⟩
 je:=by
  rintro w w1 base ok x cs hm ⟨c0,c1,rfl,h0,h1⟩;exact⟨c0,c1,rfl,a.je hm h0,b.je hm h1⟩
 iO:=by
  rintro w base base' ok x cs hb ⟨c0,c1,rfl,h0,h1⟩;exact⟨c0,c1,rfl,a.iO hb h0,b.iO hb h1⟩
def Po {α β:Type} (d:Kd α) (f:β→α):Kd β where
 sz:=d.sz
 E:=d.E
 K:=fun w x cs=>d.K w (f x) cs
 M:=fun w base ok x cs=>d.M w base ok (f x) cs
 lW:=d.lW
 kX:=d.kX
 iN:=d.iN
 iw:=d.iw
 eX:=d.eX
 gN:=d.gN
 je:=d.je
 iO:=d.iO
def bot {α:Type} (sz:Nat) (E:List Nat):Kd α where
 sz:=sz
 E:=E
 K:=fun _ _ _=>False
 M:=fun _ _ _ _ _=>False
 lW:=fun h=>h.elim
 kX:=fun h=>h.elim
 iN:=fun _ h=>h
 iw:=fun h=>h
 eX:=fun _ h=>h
 gN:=fun h=>h
 je:=fun _ h=>h
 iO:=fun _ h=>h
def upto {α:Type} (F:Kd α→Kd α) (sz:Nat) (E:List Nat):Nat→Kd α
 | 0=>bot sz E
 | n+1=>F (upto F sz E n)
theorem VJ {α:Type} {d:Kd α} {w:World} {A:Option Addr} {n:Nat} {xs:List α} (h:d.C w A n xs) (z:α) (i:Int) (h0:0≤i) (h1:i<n) :
  ∃ad c,A=some ad∧c.length=d.sz∧d.K w (xs.getD i.toNat z) c∧∀j u,c[j]?=some u→w.cell? (ad.add (i.toNat*d.sz+j))=some u:=kT.aoJ h z i h0 h1
theorem IJ {α:Type} {d:Kd α} {e base:Nat} {ok vG:Nat→Prop} {W w1:World} {v v1:Value} {xs:List α} {p:α} {inner cs:List Value} (h0:∀k,v.ownBlock=some k→ok k) (hr:dO (d.M W base (fun k=>ok k∧some k≠v.ownBlock)) d.sz xs inner) (hp:d.M W base vG p cs) (DJ:∀k,vG k→ok k∧some k≠v.ownBlock) (hfresh:∀k,W.heap.size≤k→ok k)
  (hown:w1.ownsRow base e d.sz v1 (xs.length+1) (inner++cs)) (hg:W.grownBy w1 v.ownBlock) (hat:v1.ownBlock=v.ownBlock∨∃b,v1.ownBlock=some b∧W.heap.size≤b):d.R e w1 base ok v1 (xs++[p]):=by
 have hne:∀k,some k≠v.ownBlock→k<W.heap.size→some k≠v1.ownBlock:=by
  intro k hk hlt
  rcases hat with hat|⟨b,hb,hle⟩
  ·rw[hat];exact hk
  ·rw[hb];intro he
   injection he with he
   omega
 have step:∀{q:α} {c:List Value} {o:Nat→Prop},d.M W base o q c→(∀k,o k→ok k∧some k≠v.ownBlock)→d.M w1 base (fun k=>ok k∧some k≠v1.ownBlock) q c:=by
  intro q c o hq ho;have h1:=d.je (w1:=w1) (fun k hk=>hg.block k hk.2.2.1 (ho k hk.1).2) (d.gN hq);exact d.eX (fun k hk=>⟨(ho k hk.1).1,hne k (ho k hk.1).2 hk.2.2.1⟩) h1
 refine⟨fun k hk=>?_,inner++cs,by rw[List.length_append,List.length_singleton];exact hown,?_⟩
 ·rcases hat with hat|⟨b,hb,hle⟩
  ·exact h0 k (hat▸hk)
  ·rw[hb] at hk
   injection hk with hk
   exact hfresh k (by omega)
 ·exact (hr.rJ (fun _ _ hq=>step hq (fun _ hk=>hk))).snoc (step hp DJ) (d.lW (d.iw hp))
section
variable {P : Program} {ops : Array Oper} {rest : List Oper} {o : Oper} {a : Act} {Q : Exit → Act → World → Prop} {α : Type}
theorem mP (d:Kd α) {w0 W:World} (base:Nat) (hgd:o.guard=none) (s x:Operand) (t e:TypeId) (z:Value) (bytes:Nat)
  (ho:o.op=.call { callee:=.builtin .append,args:=#[s,x],argTypes:=#[t,t] })
  (ht:P.underlying t=some (.slice e)) (hinfo:(P.info? e).map (fun i=>(i.zero,i.size,i.bytes))=some (some z,d.sz,bytes)) (hz:z.cells.size=d.sz) (hs0:0<d.sz) (hb0:0<bytes)
  (v:Value) (xs:List α) (p:α) (cs:List Value) (ok vG:Nat→Prop) (hs:a.eval s=v) (hx:a.eval x=.slice (some ⟨W.heap.size,0,none⟩) 1 1) (hp:d.M W base vG p cs) (DJ:∀k,vG k→ok k∧some k≠v.ownBlock) (hfresh:∀k,W.heap.size≤k→ok k)
  (HO:d.R e W base ok v xs) (HB:Below base w0 W) (hbase:base≤W.heap.size) (hl:(xs.length+1)*bytes≤140737488355328)
  (h:∀v1 w1,d.R e w1 base ok v1 (xs++[p])→Below base w0 w1→W.grownBy w1 v.ownBlock→(v1.ownBlock=v.ownBlock∨∃b,v1.ownBlock=some b∧W.heap.size≤b)→wpList P ops Q rest (a.put o.dst v1) w1) :
  wpList P ops Q (o::rest) a (W.alloc (.cells cs.toArray e)):=by
 obtain⟨h0,inner,hown,hr⟩:=HO;refine tQ base hgd s x t e z d.sz bytes ho ht hinfo hz hs0 hb0 v xs.length inner cs hs hx (d.lW (d.iw hp)) (d.kX (d.iw hp)) hown HB hbase hl ?_;intro v1 w1 hown1 hb1 hg1 R4;exact h v1 w1 (IJ h0 hr hp DJ hfresh hown1 hg1 R4) hb1 hg1 R4
end
section
variable {P : Program} {ops : Array Oper} {o : Oper} {a : Act} {Q : Exit → Act → World → Prop} {Kc : Act → World → Prop} {α : Type}
theorem kD (d:Kd α) {w0 W:World} (base:Nat) (hw:Region.wanted o (yielded ops a.tmps)=true) (s x:Operand) (t e:TypeId) (z:Value) (bytes:Nat)
  (ho:o.op=.call { callee:=.builtin .append,args:=#[s,x],argTypes:=#[t,t] })
  (ht:P.underlying t=some (.slice e)) (hinfo:(P.info? e).map (fun i=>(i.zero,i.size,i.bytes))=some (some z,d.sz,bytes)) (hz:z.cells.size=d.sz) (hs0:0<d.sz) (hb0:0<bytes)
  (v:Value) (xs:List α) (p:α) (cs:List Value) (ok vG:Nat→Prop) (hs:a.eval s=v) (hx:a.eval x=.slice (some ⟨W.heap.size,0,none⟩) 1 1) (hp:d.M W base vG p cs) (DJ:∀k,vG k→ok k∧some k≠v.ownBlock) (hfresh:∀k,W.heap.size≤k→ok k)
  (HO:d.R e W base ok v xs) (HB:Below base w0 W) (hbase:base≤W.heap.size) (hl:(xs.length+1)*bytes≤140737488355328)
  (h:∀v1 w1,d.R e w1 base ok v1 (xs++[p])→Below base w0 w1→W.grownBy w1 v.ownBlock→(v1.ownBlock=v.ownBlock∨∃b,v1.ownBlock=some b∧W.heap.size≤b)→Kc (a.put o.dst v1) w1) :
  if Region.wanted o (yielded ops a.tmps)=true then Oper.wp P o a (W.alloc (.cells cs.toArray e)) Kc Q else Kc (a.put o.dst undef) (W.alloc (.cells cs.toArray e)):=by
 obtain⟨h0,inner,hown,hr⟩:=HO;refine Cx base hw s x t e z d.sz bytes ho ht hinfo hz hs0 hb0 v xs.length inner cs hs hx (d.lW (d.iw hp)) (d.kX (d.iw hp)) hown HB hbase hl ?_;intro v1 w1 hown1 hb1 hg1 R4;exact h v1 w1 (IJ h0 hr hp DJ hfresh hown1 hg1 R4) hb1 hg1 R4
end
theorem Ph {α:Type} {enc:α→Value} (xs:List α):dO (fun (x:α) (cs:List Value)=>cs=[enc x]) 1 xs (encs enc xs):=by
 refine⟨by simp[encs],fun j p hj=>?_⟩;obtain⟨hl,hp⟩:=List.getElem?_eq_some_iff.1 hj
 have hl':j<(encs enc xs).length:=by rw[Em];exact hl
 rw[Nat.mul_one,List.drop_eq_getElem_cons hl'];simp[encs,hp]
theorem sO {α:Type} {enc:α→Value} {h1:∀x,(enc x).oneCell'=true} {e:Nat} {w:World} {base:Nat} {ok:Nat→Prop} {v:Value} {xs:List α} (ho:w.ownsRow base e 1 v xs.length (encs enc xs)) (hok:∀k,v.ownBlock=some k→ok k):(scalar enc h1).R e w base ok v xs:=⟨hok,encs enc xs,ho,Ph xs⟩
theorem Fe {α:Type} {enc:α→Value} {h1:∀x,(enc x).oneCell'=true} {e:Nat} {w:World} {base:Nat} {ok:Nat→Prop} {v:Value} {xs:List α} (h:(scalar enc h1).R e w base ok v xs):w.ownsRow base e 1 v xs.length (encs enc xs):=by
 obtain⟨_,inner,ho,hr⟩:=h
 have:inner=encs enc xs:=by
  apply List.ext_getElem?;intro j
  rcases Nat.lt_or_ge j xs.length with hj|hj
  ·have h2:=hr.2 j _ (List.getElem?_eq_getElem hj)
   have hl:j<inner.length:=by have:=hr.1;simp[scalar] at this;omega
   have h3:(inner.drop (j*1)).take 1=[enc xs[j]]:=h2;rw[Nat.mul_one,List.drop_eq_getElem_cons hl] at h3
   have h4:inner[j]=enc xs[j]:=by
    have h5:=congrArg List.head? h3;rw[List.take_succ_cons] at h5;exact Option.some.inj h5
   rw[List.getElem?_eq_getElem hl,h4];simp[encs,List.getElem?_eq_getElem hj]
  ·have h3:inner.length=xs.length:=by have:=hr.1;simp[scalar] at this;omega
   rw[List.getElem?_eq_none (by omega),List.getElem?_eq_none (by rw[Em];omega)]
 rw[← this];exact ho
theorem sN {α:Type} {enc:α→Value} {d:α} {h1:∀x,(enc x).oneCell'=true} {w:World} {A:Option Addr} {n:Nat} {xs:List α} (h:(scalar enc h1).C w A n xs):iU enc d w A n xs:=by
 refine⟨h.1,h.2.1,fun hn=>?_⟩;obtain⟨ad,e,hc⟩:=h.2.2 hn;refine⟨ad,e,fun j hj=>?_⟩
 have hl:j<xs.length:=by have:=h.1;omega
 obtain⟨c,_,hK,hcell⟩:=hc j _ (List.getElem?_eq_getElem hl);have hK':c=[enc xs[j]]:=hK;subst hK';have:=hcell 0 _ rfl
 simpa [scalar,List.getD_eq_getElem?_getD,List.getElem?_eq_getElem hl] using this
end Kd
namespace Kd
section
variable {α : Type} {F : Kd α → Kd α} {sz : Nat} {E : List Nat} {hs : ∀ n, (upto F sz E n).sz = sz} {hE : ∀ n q, q ∈ (upto F sz E n).E → q ∈ E}
end
end Kd
namespace Kd
end Kd
namespace Kd
section
variable {α β : Type} {d : Kd α} {d' : Kd β} {e e' : Nat} {w w1 W : World} {base b b' : Nat} {ok ok' okv oku : Nat → Prop} {v u : Value} {xs : List α} {ys : List β}
theorem dJ (h:d.R e w base ok v xs) (o:Obj):d.R e (w.alloc o) base ok v xs:=dF h (aH (Below.refl _ _) o)
theorem dY (h:d.R e w base ok v xs):d.R e w.drew base ok v xs:=dF h (bA (Below.refl _ _))
theorem dK (h:d.R e w base ok v xs) (m:Nat):d.R e (w.drewN m) base ok v xs:=dF h (av (Below.refl _ _) m)
theorem eO {A:Option Addr} {n:Nat} (h:d.C w A n xs) (o:Obj):d.C (w.alloc o) A n xs:=aC h (aH (Below.refl _ _) o)
theorem gL {A:Option Addr} {n:Nat} (h:d.C w A n xs):d.C w.drew A n xs:=aC h (bA (Below.refl _ _))
theorem dV {A:Option Addr} {n:Nat} (h:d.C w A n xs) (m:Nat):d.C (w.drewN m) A n xs:=aC h (av (Below.refl _ _) m)
theorem OL (d:Kd α) (w:World):d.C w none ([]:List α).length []:=⟨rfl,by simp,fun h=>absurd h (Nat.lt_irrefl 0)⟩
theorem bT {A:Option Addr} {n c:Nat} (h:d.R e w base ok (.slice A n c) xs):n=xs.length∧n≤c∧d.C w A xs.length xs:=by
 obtain⟨A',c',he,hl,hr⟩:=ug h
 injection he with h1 h2 h3
 subst h1;exact⟨h2,by omega,hr⟩
theorem Jp (h:d.R e w base ok v xs):∀k,v.ownBlock=some k→k<w.heap.size:=by
 obtain⟨inner,ho⟩:=FN h;exact Qd ho
theorem sV (h:d.R e w base ok v xs):∀k,v.ownBlock=some k→base≤k:=by
 obtain⟨inner,ho⟩:=FN h;exact mH ho
theorem adC (h:d.R e w base ok v xs) (hp:0<xs.length):∃g cap,v=.slice (some ⟨g,0,none⟩) xs.length cap∧base≤g∧g<w.heap.size∧∃cells,w.heap[g]?=some (.cells cells e (0,0)):=by
 obtain⟨inner,ho⟩:=FN h;obtain⟨g,cap,he,hb,hl⟩:=ho.form hp;obtain⟨cells,hc⟩:=mY ho g (by rw[he];simp[Value.ownBlock]);exact⟨g,cap,he,hb,hl,cells,hc⟩
theorem PO (h:d.R e W b ok u xs) (hv:d'.R e' W b' ok' v ys) (ht:∀q,q∈e::d.E→q≠e') (hg:W.grownBy w1 v.ownBlock):d.R e w1 b ok u xs:=by
 obtain⟨inner,ho⟩:=FN hv;refine dU (CQ (gM h) (fun k hk=>hg.block k hk.2.2.1 (fun he=>?_))) (fun _ hk=>hk.1);obtain⟨_,_,_,q,hq,cells,hc⟩:=hk;obtain⟨cells',hc'⟩:=mY ho k he.symm;rw[hc] at hc'
 injection hc' with hc'
 injection hc' with _ hc'
 exact ht q hq hc'
end
section
variable {w W : World} {A : Option Addr} {n : Nat}
theorem qx {k:IntKind} {xs:List Int} (h:(Kd.int k).C w A n xs) (i:Int) (h0:0≤i) (h1:i<n):∃ad,A=some ad∧w.cell? (ad.add i.toNat)=some (.int k (rd xs i)) :=
 iU.at_ (sN (enc:=Value.int k) (d:=(0:Int)) (h1:=fun _=>rfl) h) i h0 h1
theorem ny {xs:List ByteArray} (h:Kd.string.C w A n xs) (i:Int) (h0:0≤i) (h1:i<n):∃ad,A=some ad∧w.cell? (ad.add i.toNat)=some (.string (p9 ByteArray.empty xs i)) :=
 iU.at_ (sN (enc:=Value.string) (d:=ByteArray.empty) (h1:=fun _=>rfl) h) i h0 h1
variable {α : Type} {enc : α → Value} {h1 : ∀ x, (enc x).oneCell' = true} {e base g cap : Nat} {ok : Nat → Prop} {xs : List α}
end
section
variable {P : Program} {ops : Array Oper} {rest : List Oper} {o : Oper} {a : Act} {Q : Exit → Act → World → Prop}
theorem KN {W w1:World} {v:Value} (hgd:o.guard=none) (hrun:(execOp a.eval o).run P W=.ok (.value v) w1) (h:wpList P ops Q rest (a.put o.dst v) w1):wpList P ops Q (o::rest) a W:=by
 refine wpList_plain hgd fun K hK=>?_
 unfold Oper.wp;rw[hrun];exact hK _ _ h
variable {α : Type}
theorem ach (d:Kd α) {w0 W:World} (base e:Nat) (hgd:o.guard=none) {N:Tmp} (_hd:o.dst=some N) {xs:List α} {inner:List Value} {ok vG:Nat→Prop}
  (hrun:(execOp a.eval o).run P W=.ok (.value (.slice (some ⟨W.heap.size,0,none⟩) xs.length xs.length)) (W.alloc (.cells inner.toArray e)))
  (hrep:dO (d.M W base vG) d.sz xs inner) (hok:∀k,vG k→ok k) (hfresh:ok W.heap.size) (HB:Below base w0 W) (hbase:base≤W.heap.size) (hm:xs.length≤9223372036854775807)
  (h:∀v1 w1,d.R e w1 base ok v1 xs→Below base w0 w1→W.grownBy w1 none→(∃b,v1.ownBlock=some b∧W.heap.size≤b)→wpList P ops Q rest (a.put o.dst v1) w1):wpList P ops Q (o::rest) a W:=by
 refine KN hgd hrun (h _ _ ⟨fun k hk=>?_,inner,?_,?_⟩ (HB.alloc hbase _) (World.grownBy_alloc W _ none) ⟨W.heap.size,by simp[Value.ownBlock],Nat.le_refl _⟩)
 ·have:W.heap.size=k:=by simpa [Value.ownBlock] using hk
  subst this;exact hfresh
 ·have h2:=World.ownsRow_lit (base:=base) (e:=e) (size:=d.sz) W inner.toArray xs.length hbase (by simpa [maxLen] using hm) (by simpa using hrep.1)
  simpa using h2
 ·refine hrep.rJ (fun p c hp=>d.eX (fun k hk=>⟨hok k hk.1,fun he=>?_⟩) (abF (d.gN hp) (aH (Below.refl _ _) _)))
  have h3:k=W.heap.size:=by simpa [Value.ownBlock] using he
  have:=hk.2.2.1;omega
end
end Kd
section
variable {P : Program}
theorem Fx (t e:TypeId) (kl:IntKind) {i:TypeInfo} (ht:P.underlying t=some (.slice e)) (hi:P.info? e=some i) (size:Nat) (hsz:i.size=size) (A:Option Addr) (n c:Nat) (j:Int) (h0:0≤j) (hm:j≤n) :
  ∀W:World,(Instr.slice t (.slice A n c) (some (.int kl j)) none none).run P W=.ok (.slice (if c=j.toNat then A else A.map (·.add (j.toNat*size))) (n - j.toNat) (c - j.toNat)) W:=by
 intro W
 have hel:P.elem t=e:=by simp[Program.elem,ht]
 have hu:P.underlying t=some (.slice (P.elem t)):=by rw[hel];exact ht
 rw[run_slice_l W t A n c hu kl j h0 hm,hel];simp[sizeOf,typeInfo,hi,hsz,sliced,Result.andThen]
end
def aiY (w:World) (base:Nat) (e:TypeId) (size:Nat) (v:Value) (n:Nat) (xs:List Value):Prop :=
 xs.length=n*size ∧
 ((n=0∧∃A,v=.slice A 0 0∧∀a,A=some a→base≤a.block∧∃cur,w.heap[a.block]?=some (.cells cur e (0,0))) ∨
  ∃g off cap cur,v=.slice (some ⟨g,off*size,none⟩) n cap∧base≤g∧w.heap[g]?=some (.cells cur e (0,0))∧n≤cap∧off+cap≤maxLen∧cur.size=(off+cap)*size∧(cur.toList.drop (off*size)).take (n*size)=xs)
section
variable {w w1 : World} {base n size : Nat} {e : TypeId} {v : Value} {xs : List Value}
theorem Ye (h:w.ownsRow base e size v n xs):aiY w base e size v n xs:=by
 obtain⟨h1,h2⟩:=h;refine⟨h1,?_⟩
 rcases h2 with⟨rfl,h0⟩|⟨g,cap,cur,rfl,hb,hh,hnc,hcm,hcs,ht⟩
 ·exact .inl ⟨h0,none,rfl,fun a ha=>by cases ha⟩
 ·exact .inr ⟨g,0,cap,cur,by rw[Nat.zero_mul],hb,hh,hnc,by rw[Nat.zero_add];exact hcm,by rw[Nat.zero_add];exact hcs,by rw[Nat.zero_mul,List.drop_zero];exact ht⟩
theorem ae7 (g o j:Nat):(⟨g,o,none⟩:Addr).add j=⟨g,o+j,none⟩:=by unfold Addr.add;split <;> simp_all
theorem Cy {g:Nat}:∀(vs:List Value) (o:Nat) {w:World} (k:Nat),k≠g→(w.setCells g o vs).heap[k]?=w.heap[k]?
 | [],_,_,_,_=>rfl
 | v::r,o,w,k,hk=>by
  rw[World.setCells,Cy r (o+1) k hk];exact Below.heap_setCell w ⟨g,o,none⟩ v k hk
theorem zQ (g:Nat):∀(vs:List Value) (o:Nat) (w:World),(w.setCells g o vs).os=w.os∧(w.setCells g o vs).tape=w.tape∧(w.setCells g o vs).output=w.output∧(w.setCells g o vs).heap.size=w.heap.size
 | [],_,_=>⟨rfl,rfl,rfl,rfl⟩
 | v::r,o,w=>by
  obtain⟨h1,h2,h3,h4⟩:=zQ g r (o+1) (w.setCell ⟨g,o,none⟩ v);rw[World.setCells];exact⟨h1,h2,h3,by rw[h4];simp[World.setCell]⟩
theorem Cz {g:Nat} {e:TypeId}:∀(vs:List Value) (o:Nat) (w:World) (cur:Array Value),w.heap[g]?=some (.cells cur e (0,0))→o+vs.length≤cur.size →
  ∃cur',(w.setCells g o vs).heap[g]?=some (.cells cur' e (0,0))∧cur'.size=cur.size∧cur'.toList=cur.toList.take o++vs++cur.toList.drop (o+vs.length)
 | [],o,w,cur,h,_=>⟨cur,h,rfl,by simp⟩
 | v::r,o,w,cur,h,hl=>by
  have h2:=dM h o v;simp only[List.length_cons] at hl;obtain⟨cur',h3,h4,h5⟩:=Cz r (o+1) (w.setCell ⟨g,o,none⟩ v) _ h2 (by simp;omega);refine⟨cur',h3,by rw[h4];simp,?_⟩;rw[h5,Array.toList_setIfInBounds]
  have ho:o<cur.toList.length:=by rw[Array.length_toList];omega
  rw[List.take_set,List.drop_set_of_lt (by omega)];simp only[List.length_cons];rw[show o+1+r.length=o+(r.length+1) by omega]
  congr 1
  rw[List.take_succ_eq_append_getElem ho,List.set_append_right _ _ (by rw[List.length_take];omega)]
  have ho':o<cur.size:=by omega
  simp[Nat.min_eq_left (Nat.le_of_lt ho')]
end
section
variable {P : Program}
end
namespace Kd
def Q {α:Type} (d:Kd α) (e:Nat) (w:World) (base:Nat) (ok:Nat→Prop) (v:Value) (xs:List α):Prop :=
 (∀k,v.ownBlock=some k→ok k)∧∃inner,aiY w base e d.sz v xs.length inner∧dO (d.M w base (fun k=>ok k∧some k≠v.ownBlock)) d.sz xs inner
section
variable {α : Type} {d : Kd α} {e : Nat} {w w1 W : World} {base : Nat} {ok ok' : Nat → Prop} {v : Value} {xs : List α}
theorem ae8 (h:d.R e w base ok v xs):d.Q e w base ok v xs:=by
 obtain⟨h0,inner,ho,hr⟩:=h;exact⟨h0,inner,Ye ho,hr⟩
theorem Od (d:Kd α) (e:Nat) (w:World) (base:Nat) (ok:Nat→Prop):d.Q e w base ok (.slice none 0 0) []:=ae8 (eY d e w base ok)
end
section
variable {P : Program} {ops : Array Oper} {rest : List Oper} {o : Oper} {a : Act} {Q' : Exit → Act → World → Prop} {Kc : Act → World → Prop} {α : Type}
end
end Kd
namespace Kd
section
variable {α : Type} {d : Kd α} {e e' : Nat} {w w1 W : World} {base : Nat} {ok : Nat → Prop} {u v : Value} {xs : List α}
theorem Ba (h:d.R e w base ok v xs):∀k,v.ownBlock=some k→∃cells,w.heap[k]?=some (.cells cells e (0,0)):=by
 obtain⟨inner,ho⟩:=FN h
 exact fun k hk=>mY ho k hk
theorem BD (h:d.R e W base ok u xs) (hty:∀k,v.ownBlock=some k→∃cells,W.heap[k]?=some (.cells cells e' (0,0))) (ht:∀q,q∈e::d.E→q≠e'):d.R e W base (fun k=>ok k∧some k≠v.ownBlock) u xs:=by
 refine dU (gM h) (fun k hk=>⟨hk.1,fun he=>?_⟩);obtain⟨_,_,_,q,hq,cells,hc⟩:=hk;obtain⟨cells',hc'⟩:=hty k he.symm;rw[hc] at hc'
 injection hc' with hc'
 injection hc' with _ hc'
 exact ht q hq hc'
theorem Cb (hu:d.R e W base ok u xs) (hbase:∀k,v.ownBlock=some k→W.heap.size≤k) (hb:Below W.heap.size W w1):d.R e w1 base (fun k=>ok k∧some k≠v.ownBlock) u xs :=
 dU (CQ (gM hu) (fun k hk=>hb.block k hk.2.2.1)) (fun k hk=>⟨hk.1,fun he=>by have:=hbase k he.symm;have:=hk.2.2.1;omega⟩)
theorem L6 (h:d.R e w1 W.heap.size ok v xs) (hlt:∀k,u.ownBlock=some k→k<W.heap.size):d.R e w1 W.heap.size (fun k=>ok k∧some k≠u.ownBlock) v xs :=
 dU (gM h) (fun k hk=>⟨hk.1,fun he=>by have:=hlt k he.symm;have:=hk.2.1;omega⟩)
end
end Kd
theorem CB {α:Type} (a seg:List α) (o:Nat) (h:o+seg.length≤a.length) (q:Nat) :
  (a.take o++seg++a.drop (o+seg.length))[q]?=if q<o then a[q]? else if q<o+seg.length then seg[q - o]? else a[q]?:=by
 have hl:(a.take o).length=o:=by rw[List.length_take];omega
 rw[List.append_assoc];by_cases h1:q<o
 ·rw[if_pos h1,List.getElem?_append_left (by omega),List.getElem?_take,if_pos h1]
 ·rw[if_neg h1,List.getElem?_append_right (by omega),hl];by_cases h2:q<o+seg.length
  ·rw[if_pos h2,List.getElem?_append_left (by omega)]
  ·rw[if_neg h2,List.getElem?_append_right (by omega),List.getElem?_drop]
   congr 1
   omega
namespace Kd
section
variable {α : Type} {d : Kd α} {e base g n cap : Nat} {ok vG : Nat → Prop} {W : World} {xs : List α}
theorem QG (h:d.R e W base ok (.slice (some ⟨g,0,none⟩) n cap) xs) (z:α) (i:Int) (h0:0≤i) (h1:i<n) :
  ∃c,c.length=d.sz∧d.M W base (fun k=>ok k∧k≠g) (xs.getD i.toNat z) c∧(∀j u,c[j]?=some u→W.cell? ⟨g,i.toNat*d.sz+j,none⟩=some u)∧∀j,W.frozen? ⟨g,i.toNat*d.sz+j,none⟩=false:=by
 obtain⟨hn,hnc,hC⟩:=bT h;obtain⟨_,inner,ho,hr⟩:=h
 have hil:i.toNat<xs.length:=by omega
 have hseg:i.toNat*d.sz+d.sz≤inner.length:=by rw[hr.1,← Nat.succ_mul];exact Nat.mul_le_mul_right _ hil
 have hM:=hr.2 i.toNat _ (List.getElem?_eq_getElem hil);refine⟨(inner.drop (i.toNat*d.sz)).take d.sz,by rw[List.length_take,List.length_drop];omega,?_,fun j u hu=>?_,fun j=>?_⟩
 ·rw[List.getD_eq_getElem?_getD,List.getElem?_eq_getElem hil];exact d.eX (fun k hk=>⟨hk.1,fun he=>hk.2 (by rw[he];simp[Value.ownBlock])⟩) hM
 ·rw[List.getElem?_take] at hu;split at hu
  ·rw[List.getElem?_drop] at hu;have:=ho.cells (g:=g) (by simp[Value.ownBlock]) _ u hu
   rwa [add_plain] at this
  ·cases hu
 ·obtain⟨cells,hc⟩:=mY ho g (by simp[Value.ownBlock]);exact ay hc _
theorem ag0 (h:d.R e W base ok (.slice (some ⟨g,0,none⟩) n cap) xs) (i:Int) (h0:0≤i) (h1:i<n) {c seg:List Value} {j:Nat} (hcl:c.length=d.sz) (hcc:∀j u,c[j]?=some u→W.cell? ⟨g,i.toNat*d.sz+j,none⟩=some u)
  (hj:j+seg.length≤d.sz) {x':α} (hM:d.M W base vG x' (c.take j++seg++c.drop (j+seg.length))) (DJ:∀k,vG k→ok k∧k≠g) :
  d.R e (W.setCells g (i.toNat*d.sz+j) seg) base ok (.slice (some ⟨g,0,none⟩) n cap) (xs.set i.toNat x')∧W.grownBy (W.setCells g (i.toNat*d.sz+j) seg) (some g):=by
 obtain⟨hn,hnc,_⟩:=bT h;obtain⟨hok,inner,ho,hr⟩:=h
 have hil:i.toNat<xs.length:=by omega
 have hseg:i.toNat*d.sz+d.sz≤inner.length:=by rw[hr.1,← Nat.succ_mul];exact Nat.mul_le_mul_right _ hil
 have hin:inner.length=n*d.sz:=by rw[hr.1,hn]
 obtain⟨ho1,ho2⟩:=ho
 rcases ho2 with⟨hv,_⟩|⟨g',cap',cur,hv,hb,hh,hnc',hcm,hcs,ht⟩
 ·cases hv
 injection hv with ha _ hc
 injection ha with ha
 injection ha with hg
 subst hg;subst hc
 have hfit:i.toNat*d.sz+j+seg.length≤cur.size:=by
  have:n*d.sz≤cap*d.sz:=Nat.mul_le_mul_right _ hnc;omega
 obtain⟨cur',h3,h4,h5⟩:=Cz seg (i.toNat*d.sz+j) W cur hh hfit;obtain⟨s1,s2,s3,s4⟩:=zQ g seg (i.toNat*d.sz+j) W
 have ae9:∀k,k≠g→(W.setCells g (i.toNat*d.sz+j) seg).heap[k]?=W.heap[k]?:=fun k hk=>Cy seg _ k hk
 have hcin:∀q,q<d.sz→c[q]?=inner[i.toNat*d.sz+q]?:=by
  intro q hq
  have hq':q<c.length:=by omega
  have h6:=hcc q _ (List.getElem?_eq_getElem hq');rw[cell_of_row W g _ cur e (0,0) hh] at h6;rw[List.getElem?_eq_getElem hq',← h6,← ht,List.getElem?_take,if_pos (by rw[← hn];omega),Array.getElem?_toList]
 refine⟨⟨hok,inner.take (i.toNat*d.sz+j)++seg++inner.drop (i.toNat*d.sz+j+seg.length),⟨?_,.inr ⟨g,cap,cur',by rw[List.length_set,hn],hb,h3,by rw[List.length_set,← hn];exact hnc,hcm,by rw[h4,hcs],?_⟩⟩,?_⟩,
  ⟨s1,s2,s3,by rw[s4];exact Nat.le_refl _,fun k _ hk=>ae9 k (fun he=>hk (by rw[he]))⟩⟩
 ·rw[List.length_set];simp only[List.length_append,List.length_take,List.length_drop];rw[hr.1] at hseg ⊢;omega
 ·rw[List.length_set,← hn];apply List.ext_getElem?;intro q;rw[List.getElem?_take,h5];rw[CB cur.toList seg (i.toNat*d.sz+j) (by rw[Array.length_toList];omega) q,CB inner seg (i.toNat*d.sz+j) (by omega) q]
  have hcur:∀q,q<n*d.sz→cur.toList[q]?=inner[q]?:=by
   intro q hq;rw[← ht,List.getElem?_take,if_pos (by rw[← hn];exact hq)]
  by_cases hq:q<n*d.sz
  ·rw[if_pos hq,hcur q hq]
  ·rw[if_neg hq,if_neg (by omega),if_neg (by omega),List.getElem?_eq_none (by omega)]
 ·refine⟨?_,fun m p hm=>?_⟩
  ·rw[List.length_set];simp only[List.length_append,List.length_take,List.length_drop];rw[hr.1] at hseg ⊢;omega
  ·have hml:m<xs.length:=by
    have:=(List.getElem?_eq_some_iff.1 hm).1
    rwa [List.length_set] at this
   have arf:m*d.sz+d.sz≤inner.length:=by rw[hr.1,← Nat.succ_mul];exact Nat.mul_le_mul_right _ hml
   have hgo:some g=(Value.slice (some ⟨g,0,none⟩) n cap).ownBlock:=by simp[Value.ownBlock]
   by_cases hmi:m=i.toNat
   ·subst hmi;rw[List.getElem?_set_self (by omega)] at hm
    injection hm with hm
    subst hm
    have hcells:((inner.take (i.toNat*d.sz+j)++seg++inner.drop (i.toNat*d.sz+j+seg.length)).drop (i.toNat*d.sz)).take d.sz=c.take j++seg++c.drop (j+seg.length):=by
     apply List.ext_getElem?;intro q;rw[List.getElem?_take,List.getElem?_drop,CB inner seg _ (by omega),CB c seg j (by omega) q];by_cases hq:q<d.sz
     ·rw[if_pos hq,hcin q hq];by_cases hq1:q<j
      ·rw[if_pos (by omega),if_pos hq1]
      ·rw[if_neg (by omega),if_neg hq1];by_cases hq2:q<j+seg.length
       ·rw[if_pos (by omega),if_pos hq2]
        congr 1
        omega
       ·rw[if_neg (by omega),if_neg hq2]
     ·rw[if_neg hq,if_neg (by omega),if_neg (by omega),List.getElem?_eq_none (by omega)]
    rw[hcells];refine d.eX (fun k hk=>?_) (d.je (w1:=W.setCells g (i.toNat*d.sz+j) seg) (fun k hk=>ae9 k (DJ k hk).2) hM);exact⟨(DJ k hk).1,fun he=>(DJ k hk).2 (by rw[← hgo] at he;injection he)⟩
   ·rw[List.getElem?_set_ne (by omega)] at hm;have hold:=hr.2 m p hm
    have hcells:((inner.take (i.toNat*d.sz+j)++seg++inner.drop (i.toNat*d.sz+j+seg.length)).drop (m*d.sz)).take d.sz=(inner.drop (m*d.sz)).take d.sz:=by
     apply List.ext_getElem?;intro q;rw[List.getElem?_take,List.getElem?_take,List.getElem?_drop,List.getElem?_drop,CB inner seg _ (by omega)];by_cases hq:q<d.sz
     ·rw[if_pos hq,if_pos hq]
      rcases Nat.lt_or_gt_of_ne hmi with hlt|hgt
      ·have:m*d.sz+d.sz≤i.toNat*d.sz:=by rw[← Nat.succ_mul];exact Nat.mul_le_mul_right _ hlt
       rw[if_pos (by omega)]
      ·have:i.toNat*d.sz+d.sz≤m*d.sz:=by rw[← Nat.succ_mul];exact Nat.mul_le_mul_right _ hgt
       rw[if_neg (by omega),if_neg (by omega)]
     ·rw[if_neg hq,if_neg hq]
    rw[hcells];refine d.je (fun k hk=>ae9 k (fun he=>hk.2 (by rw[he];exact hgo))) hold
end
end Kd
namespace Kd
def fixed {α:Type} (d:Kd α) (w0:World):Kd α where
 sz:=d.sz
 E:=[]
 K:=fun _ x cs=>d.K w0 x cs
 M:=fun _ _ _ x cs=>d.K w0 x cs
 lW:=d.lW
 kX:=d.kX
 iN:=fun _ h=>h
 iw:=fun h=>h
 eX:=fun _ h=>h
 gN:=fun h=>h
 je:=fun _ h=>h
 iO:=fun _ h=>h
def or_ {α:Type} (a b:Kd α) (h:b.sz=a.sz):Kd α where
 sz:=a.sz
 E:=a.E++b.E
 K:=fun w x cs=>a.K w x cs∨b.K w x cs
 M:=fun w base ok x cs=>a.M w base ok x cs∨b.M w base ok x cs
 lW:=fun hk=>hk.elim a.lW (fun hk=>(b.lW hk).trans h)
 kX:=fun hk=>hk.elim a.kX b.kX
 iN:=fun hb hk=>hk.imp (a.iN hb) (b.iN hb)
 iw:=fun hk=>hk.imp a.iw b.iw
 eX:=fun hok hk=>hk.imp (a.eX hok) (b.eX hok)
 gN:=fun hk=>hk.imp
  (fun hk=>a.eX (fun _ ⟨h1,h2,h3,q,hq,hc⟩=>⟨h1,h2,h3,q,List.mem_append_left _ hq,hc⟩) (a.gN hk))
  (fun hk=>b.eX (fun _ ⟨h1,h2,h3,q,hq,hc⟩=>⟨h1,h2,h3,q,List.mem_append_right _ hq,hc⟩) (b.gN hk))
 je:=fun hm hk=>hk.imp (a.je hm) (b.je hm)
 iO:=fun hb hk=>hk.imp (a.iO hb) (b.iO hb)
def mix {α:Type} (e:Nat) (d dm:Kd α) (w0:World):Kd (List α):=or_ (fixed (slice e d) w0) (slice e dm) rfl
theorem vF {α:Type} {e:Nat} {d dm:Kd α} {w0 w:World} {base:Nat} {ok:Nat→Prop} {A:Option Addr} {c:Nat} {xs:List α} (hl:xs.length≤c) (h:d.C w0 A xs.length xs):(mix e d dm w0).M w base ok xs [.slice A xs.length c]:=.inl ⟨A,c,rfl,hl,h⟩
theorem pX {α:Type} {e:Nat} {d dm:Kd α} {w0 w:World} {base:Nat} {ok:Nat→Prop} {v:Value} {xs:List α} (h:dm.R e w base ok v xs):(mix e d dm w0).M w base ok xs [v]:=.inr ⟨v,rfl,h⟩
theorem Fq {α:Type} {e:Nat} {d dm:Kd α} {w0 w:World} (hs:dm.sz=d.sz) (hd:∀x cs,dm.K w x cs→d.K w x cs) (hb:Below w0.heap.size w0 w) {xs:List α} {cs:List Value} (h:(mix e d dm w0).K w xs cs):∃A c,cs=[.slice A xs.length c]∧xs.length≤c∧d.C w A xs.length xs:=by
 rcases h with⟨A,c,rfl,hl,hr⟩|⟨A,c,rfl,hl,hr⟩
 ·exact⟨A,c,rfl,hl,aC hr hb⟩
 ·refine⟨A,c,rfl,hl,?_⟩;unfold C at hr ⊢;rw[← hs];exact hr.rJ (Below.refl _ _) (fun _ _ hp=>hd _ _ hp)
theorem adY {α:Type} {d dm:Kd α} {w:World} (hs:dm.sz=d.sz) (hd:∀x cs,dm.K w x cs→d.K w x cs) {A:Option Addr} {n:Nat} {xs:List α} (h:dm.C w A n xs):d.C w A n xs:=by
 unfold C at h ⊢;rw[← hs];exact h.rJ (Below.refl _ _) (fun _ _ hp=>hd _ _ hp)
section
variable {α : Type} {F : Kd α → Kd α} {sz : Nat} {E : List Nat} {hs : ∀ n, (upto F sz E n).sz = sz} {hE : ∀ n q, q ∈ (upto F sz E n).E → q ∈ E}
end
end Kd
namespace Kd
section
variable {P : Program} {ops : Array Oper} {rest : List Oper} {o : Oper} {a : Act} {Q : Exit → Act → World → Prop} {α : Type}
end
end Kd
theorem dX {P:Program} {ops:Array Oper} {rest:List Oper} {o:Oper} {a:Act} {Q:Exit→Act→World→Prop} {W:World} (op:Op) (_ho:o.op=op) (h:wpList P ops Q (o::rest) a W):wpList P ops Q (o::rest) a W:=h
namespace Kd
section
variable {P : Program} {ops : Array Oper} {rest : List Oper} {o : Oper} {a : Act} {Q : Exit → Act → World → Prop} {α : Type}
end
end Kd
theorem add_add (a:Addr) (i j:Nat):(a.add i).add j=a.add (i+j):=by
 unfold Addr.add
 by_cases h1:i=0 <;> by_cases h2:j=0 <;> simp[h1,h2,Nat.add_assoc]
namespace Kd
section
variable {α : Type} {k : Kd α} {w : World} {A : Option Addr} {xs : List α} {m c : Nat}
theorem V5 (h:k.C w A xs.length xs) (hm:m≤xs.length):k.C w A (xs.take m).length (xs.take m):=by
 have hl:(xs.take m).length=m:=by rw[List.length_take];omega
 refine⟨rfl,by rw[hl];have:=h.2.1;omega,fun hp=>?_⟩;obtain⟨ad,e,hc⟩:=h.2.2 (by omega);refine⟨ad,e,fun j p hj=>hc j p ?_⟩;rw[List.getElem?_take] at hj;split at hj
 ·exact hj
 ·cases hj
theorem PY (h:k.C w A xs.length xs) (hm:m≤xs.length) (hc:xs.length≤c):k.C w (if c=m then A else A.map (·.add (m*k.sz))) (xs.drop m).length (xs.drop m):=by
 have hl:(xs.drop m).length=xs.length - m:=List.length_drop;refine⟨rfl,by rw[hl];have:=h.2.1;omega,fun hp=>?_⟩;rw[hl] at hp;obtain⟨ad,rfl,hcell⟩:=h.2.2 (by omega);rw[if_neg (by omega)];refine⟨ad.add (m*k.sz),rfl,fun j p hj=>?_⟩;rw[List.getElem?_drop] at hj;obtain⟨cs,h1,h2,h3⟩:=hcell (m+j) p hj;refine⟨cs,h1,h2,fun i u hu=>?_⟩;rw[add_add,show m*k.sz+(j*k.sz+i)=(m+j)*k.sz+i by rw[Nat.add_mul];omega];exact h3 i u hu
theorem acE {lo hi:Nat} (h:k.C w A xs.length xs) (h1:lo≤hi) (h2:hi≤xs.length) (hc:xs.length≤c):k.C w (if c=lo then A else A.map (·.add (lo*k.sz))) ((xs.take hi).drop lo).length ((xs.take hi).drop lo):=by
 have hl:(xs.take hi).length=hi:=by rw[List.length_take];omega
 exact PY (V5 h h2) (by omega) (by omega)
end
end Kd
section
variable {P : Program}
end
theorem EB {P:Program} {w:World} {src dst e:TypeId} {A:Option Addr} {n c:Nat} {xs:List Int} (hs:P.underlying src=some (.slice e)) (he:P.underlying e=some (.int .u8)) (hd:P.underlying dst=some .string)
  (h:jd w .u8 A n xs):(convert src dst (.slice A n c)).run P w=.ok (.string (strOfNums xs)) w:=by
 have hn:xs.length=n:=h.1
 rcases A with _|ad
 ·have h0:n=0:=by
   rcases Nat.eq_zero_or_pos n with h0|h0
   ·exact h0
   ·obtain⟨ad,h',_⟩:=h.2.2 h0;cases h'
  subst h0;obtain rfl:xs=[]:=List.eq_nil_of_length_eq_zero hn;exact run_convert_bytes_nil w src e hs he 0 c dst hd
 ·have hl:(loadCells ad n).run P w=.ok (xs.map (Value.int .u8)).toArray w:=by
   have:=run_loadCells_list (P:=P) w ad (xs.map (Value.int .u8)) (fun j v hj=>by
    have hjl:j<xs.length:=by
     rcases Nat.lt_or_ge j xs.length with h'|h'
     ·exact h'
     ·rw[List.getElem?_eq_none (by rw[List.length_map];exact h')] at hj;cases hj
    obtain⟨YE,he',hc⟩:=h.2.2 (by omega)
    injection he' with he'
    subst he';rw[hc j (by omega)];rw[List.getElem?_map,List.getElem?_eq_getElem hjl] at hj;simp at hj;subst hj
    simp[List.getD_eq_getElem?_getD,List.getElem?_eq_getElem hjl])
   simpa [hn] using this
  rw[run_convert_bytes_string w src dst e _ n c hs he hd,run_bytesToString w ad n c xs hl,foldl_push_bytes];simp[strOfNums,ByteArray.empty,ByteArray.emptyWithCapacity];rfl
theorem Kd.qH {P:Program} {w:World} {src dst e:TypeId} {A:Option Addr} {n c:Nat} {xs:List Int} (hs:P.underlying src=some (.slice e)) (he:P.underlying e=some (.int .u8)) (hd:P.underlying dst=some .string)
  (h:(Kd.int .u8).C w A n xs):(convert src dst (.slice A n c)).run P w=.ok (.string (strOfNums xs)) w :=
 EB hs he hd (Kd.sN (enc:=Value.int .u8) (d:=(0:Int)) (h1:=fun _=>rfl) h)
theorem bB {w W:World} (h:Below w.heap.size w W):w.heap.size≤W.heap.size:=h.size
theorem bO {w W w2:World} (h:Below w.heap.size w W) (k:Below W.heap.size W w2):Below w.heap.size w w2:=Iu h h.size k
theorem jd.nil (W:World) (k:IntKind):jd W k none ([]:List Int).length []:=⟨rfl,by simp,fun h=>absurd h (Nat.lt_irrefl 0)⟩
theorem jd.drewN {W:World} {k:IntKind} {A:Option Addr} {n:Nat} {xs:List Int} (h:jd W k A n xs) (m:Nat):jd (W.drewN m) k A n xs:=h
theorem aR {w W:World} {g j:Nat} {v:Value} (h:Below w.heap.size w W) (hg:w.heap.size≤g):Below w.heap.size w (W.setCell ⟨g,j,none⟩ v):=h.setCell hg _
theorem KO {w W:World} {g:Nat} (h:jl w W g none) {a:Addr} {v:Value} (hc:w.cell? a=some v) (hne:a.block≠g):W.cell? a=some v:=by
 have:=h.2 a.block (World.block_lt_of_cell? w a hc) hne (by simp)
 simpa [World.cell?,this] using hc
theorem add_block (a:Addr) (i:Nat):(a.add i).block=a.block:=by unfold Addr.add;split <;> rfl
theorem iU.nil {α:Type} (enc:α→Value) (d:α) (W:World):iU enc d W none ([]:List α).length []:=⟨rfl,by simp,fun h=>absurd h (Nat.lt_irrefl 0)⟩
theorem iU.drewN {α:Type} {enc:α→Value} {d:α} {W:World} {A:Option Addr} {n:Nat} {xs:List α} (h:iU enc d W A n xs) (m:Nat):iU enc d (W.drewN m) A n xs:=h
theorem jd.keep {w W:World} {k:IntKind} {A:Option Addr} {n g:Nat} {xs:List Int} (h:jd w k A n xs) (hk:jl w W g none) (hf:∀ad,A=some ad→0<n→ad.block≠g):jd W k A n xs :=
 ⟨h.1,h.2.1,fun hn=>by
  obtain⟨ad,e,hc⟩:=h.2.2 hn
  exact⟨ad,e,fun j hj=>KO hk (hc j hj) (by rw[add_block];exact hf ad e hn)⟩⟩
theorem iU.keep {α:Type} {enc:α→Value} {d:α} {w W:World} {A:Option Addr} {n g:Nat} {xs:List α} (h:iU enc d w A n xs) (hk:jl w W g none) (hf:∀ad,A=some ad→0<n→ad.block≠g):iU enc d W A n xs :=
 ⟨h.1,h.2.1,fun hn=>by
  obtain⟨ad,e,hc⟩:=h.2.2 hn
  exact⟨ad,e,fun j hj=>KO hk (hc j hj) (by rw[add_block];exact hf ad e hn)⟩⟩
theorem iC {w:World} {g:Nat} {t:TypeId} {cs cs':Array Value} (h:w.heap[g]?=some (.cells cs t (0,0))) (i:Nat) (u:Value) (e:cs.setIfInBounds i u=cs'):(w.setCell ⟨g,i,none⟩ u).heap[g]?=some (.cells cs' t (0,0)):=e▸dM h i u
theorem aI {base:Nat} {w W:World} (h:Below base w W):Below base w W.drew:=h.drew
namespace Kd
section
variable {α β : Type} {d : Kd α} {d' : Kd β} {e e' base base' n : Nat} {ok ok' : Nat → Prop} {w W w1 W1 : World} {v u : Value} {xs : List α} {ys : List β} {A : Option Addr} {c : Nat}
end
section
variable {α : Type} {enc : α → Value} {h1 : ∀ x, (enc x).oneCell' = true} {w W : World} {A : Option Addr} {n g : Nat} {xs : List α}
end
end Kd
namespace Kd
section
variable {α : Type} {d : Kd α} {e base g : Nat} {ok : Nat → Prop} {w w1 : World} {v : Value} {xs : List α} {o : Obj}
end
end Kd
section
variable {P : Program} {ops : Array Oper} {rest : List Oper} {o : Oper} {a : Act} {Q : Exit → Act → World → Prop}
theorem fA {W:World} (hgd:o.guard=none) {N:Tmp} (_hd:o.dst=some N) {cs:Array Value} {t:TypeId}
  (hrun:(execOp a.eval o).run P W=.ok (.value (.pointer (some ⟨W.heap.size,0,none⟩))) (W.alloc (.cells cs t (0,0))))
  (h:∀g,g=W.heap.size→∀w1,w1.heap[g]?=some (.cells cs t (0,0))→Below W.heap.size W w1→wpList P ops Q rest (a.put o.dst (.pointer (some ⟨g,0,none⟩))) w1):wpList P ops Q (o::rest) a W :=
 Kd.KN hgd hrun (h _ rfl _ (bJ W _) (aH (Below.refl _ _) _))
theorem Kd.rG {α:Type} (enc:α→Value) (d:α) {h1:∀x:α,(enc x).oneCell'=true} {w0 W:World} (base:Nat) (hgd:o.guard=none) (s x:Operand) (t e:TypeId) (z:Value) (bytes:Nat)
  (ho:o.op=.call { callee:=.builtin .append,args:=#[s,x],argTypes:=#[t,t] })
  (ht:P.underlying t=some (.slice e)) (hinfo:(P.info? e).map (fun i=>(i.zero,i.size,i.bytes))=some (some z,1,bytes)) (hz:z.cells.size=1) (hb0:0<bytes)
  (v:Value) (xs ys:List α) (A:Option Addr) (m c:Nat) (ok:Nat→Prop) (hs:a.eval s=v) (hx:a.eval x=.slice A m c) (hfresh:∀k,W.heap.size≤k→ok k)
  (HO:(Kd.scalar enc h1).R e W base ok v xs) (HR:(Kd.scalar enc h1).C W A m ys) (HB:Below base w0 W) (hbase:base≤W.heap.size) (hl:(xs.length+m)*bytes≤140737488355328)
  (h:∀v1 w1,(Kd.scalar enc h1).R e w1 base ok v1 (xs++ys)→Below base w0 w1→W.grownBy w1 v.ownBlock→(v1.ownBlock=v.ownBlock∨∃b,v1.ownBlock=some b∧W.heap.size≤b)→wpList P ops Q rest (a.put o.dst v1) w1) :
  wpList P ops Q (o::rest) a W:=by
 refine zy (w0:=w0) enc d base hgd s x t e z bytes ho ht hinfo hz hb0 h1 v xs ys A m c hs hx (Kd.Fe HO) (Kd.sN (d:=d) HR) HB hbase hl ?_;intro v1 w1 hown hb hg hat;refine h v1 w1 (Kd.sO hown (fun k hk=>?_)) hb hg hat
 rcases hat with e1|⟨b,e1,hbb⟩
 ·exact HO.1 k (by rw[← e1];exact hk)
 ·rw[e1] at hk
  injection hk with hk
  subst hk;exact hfresh _ hbb
end
namespace Kd
section
variable {α : Type} {enc : α → Value} {h1 : ∀ x, (enc x).oneCell' = true} {e base g n cap : Nat} {ok : Nat → Prop} {W : World} {xs : List α}
end
end Kd
section
variable {P : Program} {ops : Array Oper} {rest : List Oper} {o : Oper} {a : Act} {Q : Exit → Act → World → Prop}
theorem Oq {W w1:World} (hgd:o.guard=none) {t:TypeId} {p:Tmp} {v:Operand} (_ho:o.op=.store t (.tmp p) v) (hN:o.dst=none)
  (hrun:(execOp a.eval o).run P W=.ok .skip w1) (h:∀w',w'=w1→wpList P ops Q rest a w'):wpList P ops Q (o::rest) a W:=by
 refine wpList_plain hgd fun K hK=>?_
 unfold Oper.wp;rw[hrun]
 show K (a.put o.dst undef) w1
 rw[hN];exact hK _ _ (h _ rfl)
end
namespace Kd
section
variable {α : Type} {enc : α → Value} {h1 : ∀ x, (enc x).oneCell' = true} {e base g n cap : Nat} {ok : Nat → Prop} {W : World} {xs : List α}
end
end Kd
section
variable {P : Program} {ops : Array Oper} {rest : List Oper} {o : Oper} {a : Act} {Q : Exit → Act → World → Prop} {W : World}
theorem fJ {N:Tmp} (_hN:o.dst=some N) (h:wpList P ops Q (o::rest) a W):wpList P ops Q (o::rest) a W:=h
theorem QH {t:TypeId} {p:Tmp} {v:Operand} (_ho:o.op=.store t (.tmp p) v) (h:wpList P ops Q (o::rest) a W):wpList P ops Q (o::rest) a W:=h
end
section
variable {P : Program} {ops : Array Oper} {o : Oper} {a : Act} {Q : Exit → Act → World → Prop} {Kc : Act → World → Prop}
namespace Kd
variable {α : Type}
end Kd
end
section
variable {P : Program} {tmps : Array Value} {w : World}
end
namespace Kd
section
variable {P : Program} {α : Type}
end
section
variable {P : Program} {ops : Array Oper} {rest : List Oper} {o : Oper} {a : Act} {Q : Exit → Act → World → Prop} {Kc : Act → World → Prop} {α : Type}
end
end Kd
end Go.Proofs.YtknihldkhedpkaaGreatDoorW.PrintWords
end
section
namespace Go.Proofs.YtknihldkhedpkaaGreatDoorW.PrintLast
section
variable {P : Program} {ops : Array Oper} {Q : Exit → Act → World → Prop} {md : Region.Mode} {S : World → Prop} {ds : List Nat}
def Region.qZ (md:Region.Mode) (ops:Array Oper) (i:Nat):Nat→Nat→Bool
 | 0,_=>false
 | fuel+1,d=>match ops[d]? with
  | some o=>o.after.any fun e=>Region.binds md e && (e.on == i || Region.qZ md ops i fuel e.on)
  | none=>false
def Region.CF (md:Region.Mode) (ops:Array Oper) (listed:Array Bool):Bool :=
 (List.range ops.size).all fun j=>!listed.getD j false || match ops[j]? with
  | some o=>o.after.all fun e=>!Region.binds md e || listed.getD e.on false
  | none=>true
def Region.lastB (md:Region.Mode) (ops:Array Oper) (listed:Array Bool) (ds:List Nat) (i:Nat):Bool :=
 ds.all fun d=>listed.getD d true || Region.qZ md ops i ops.size d
def lN (md:Region.Mode) (ops:Array Oper) (listed:Array Bool):Prop :=
 ∀j oj,ops[j]?=some oj→listed.getD j false=true→∀e∈oj.after,Region.binds md e=true→listed.getD e.on false=true
theorem Region.MH {listed:Array Bool} (h:Region.CF md ops listed=true):lN md ops listed:=by
 intro j oj hj hl e he hb;have hlt:j<ops.size:=(Array.getElem?_eq_some_iff.1 hj).1;have h1:=List.all_eq_true.1 h j (List.mem_range.2 hlt);simp only[hl,hj,Bool.not_true,Bool.false_or] at h1;have h2:=Array.all_eq_true_iff_forall_mem.1 h1 e he
 simpa [hb] using h2
theorem lN.set {listed:Array Bool} {i:Nat} (h:lN md ops listed) (hi:i∈Region.ready md ops listed):lN md ops (listed.setIfInBounds i true):=by
 obtain⟨_,oi,hoi,hall⟩:=mem_ready.1 hi;intro j oj hj hl e he hb;by_cases hij:i=j
 ·subst hij;have:oj=oi:=Option.some.inj (hj.symm.trans hoi);subst this;exact getD_set_true (hall e he hb)
 ·rw[getD_set_ne false hij] at hl;exact getD_set_true (h j oj hj hl e he hb)
theorem Region.CJ {listed:Array Bool} {i:Nat} (hc:lN md ops listed):∀(fuel d:Nat),Region.qZ md ops i fuel d=true→listed.getD d false=true→listed.getD i false=true
 | 0,_,h,_=>by simp[Region.qZ] at h
 | fuel+1,d,h,hl=>by
  unfold Region.qZ at h
  cases ho:ops[d]? with
  | none=>rw[ho] at h;simp at h
  | some o=>
   rw[ho] at h;obtain⟨e,he,h1⟩:=Array.any_eq_true'.1 h;simp only[Bool.and_eq_true,Bool.or_eq_true,beq_iff_eq] at h1;have hle:=hc d o ho hl e he h1.1
   rcases h1.2 with h2|h2
   ·rw[← h2];exact hle
   ·exact Region.CJ hc fuel e.on h2 hle
theorem Region.EC {listed:Array Bool} {i d fuel:Nat} (hc:lN md ops listed) (hr:Region.qZ md ops i fuel d=true) (hun:listed.getD i true=false):d∉Region.ready md ops listed:=by
 intro hd;obtain⟨_,o,ho,hall⟩:=mem_ready.1 hd
 have hi:listed.getD i false=true:=by
  cases fuel with
  | zero=>simp[Region.qZ] at hr
  | succ n=>
   unfold Region.qZ at hr;rw[ho] at hr;obtain⟨e,he,h1⟩:=Array.any_eq_true'.1 hr;simp only[Bool.and_eq_true,Bool.or_eq_true,beq_iff_eq] at h1;have hle:=hall e he h1.1
   rcases h1.2 with h2|h2
   ·rw[← h2];exact hle
   ·exact Region.CJ hc n e.on h2 hle
 rcases Nat.lt_or_ge i listed.size with h'|h'
 ·simp[h'] at hun hi;rw[hun] at hi;cases hi
 ·simp[Array.getElem?_eq_none h'] at hun
def bP (P:Program) (md:Region.Mode) (ops:Array Oper) (Q:Exit→Act→World→Prop) (S:World→Prop) (ds:List Nat):Nat→Array Bool→Act→World→Prop
 | 0,listed,a,w=>Region.ready md ops listed=[]∧Q .normal a w
 | fuel+1,listed,a,w=>
  (Region.ready md ops listed=[]→Q .normal a w) ∧
  ∀i∈Region.ready md ops listed,wpOp P ops Q i (fun a' w'=>(i∉ds→S w→S w')∧bP P md ops Q S ds fuel (listed.setIfInBounds i true) a' w') a w
theorem uL:∀(fuel:Nat) (listed:Array Bool) (a:Act) (w:World),bP P md ops Q S ds fuel listed a w→wpAny P md ops Q fuel listed a w
 | 0,_,_,_,h=>h
 | fuel+1,_,_,_,h=>⟨h.1,fun i hi=>wpOp_mono (fun a' w' h'=>uL fuel _ a' w' h'.2) (h.2 i hi)⟩
theorem ED {i:Nat} {oi:Oper} {v:Value} (hi:ops[i]?=some oi) (hsel:∀(j:Nat) (o:Oper) cs b,ops[j]?=some o→o.op≠.select cs b)
  (hQ:∀c a w,Q (.panic c) (a.put oi.dst v) w→Q (.panic c) a w) (n:Nat) :
  ∀(fuel:Nat) (listed:Array Bool) (a:Act) (w:World),
   (∀j oj,ops[j]?=some oj→j≠i→listed.getD j true=false→(∀e∈oj.after,Region.binds md e=true→e.on≠i)→oi.apart ops oj=true) →
   lN md ops listed→(∀d∈ds,listed.getD d true=false→Region.qZ md ops i n d=true) →
   i∈Region.ready md ops listed→YieldsIf P ops S oi v a→S w →
   bP P md ops Q S ds fuel (listed.setIfInBounds i true) (a.put oi.dst v) w→bP P md ops Q S ds (fuel+1) listed a w:=by
 intro fuel
 induction fuel with
 | zero=>
  intro listed a w _ _ _ hr hy hS H;refine⟨fun h=>(by rw[h] at hr;cases hr),fun j hj=>?_⟩;by_cases hji:j=i
  ·subst hji;exact hy.wpOp hi hS ⟨fun _ h=>h,H⟩
  ·have:=ready_mono hj hji;rw[H.1] at this;cases this
 | succ fuel ih=>
  intro listed a w hfree hc hd hr hy hS H;refine⟨fun h=>(by rw[h] at hr;cases hr),fun j hj=>?_⟩;by_cases hji:j=i
  ·subst hji;exact hy.wpOp hi hS ⟨fun _ h=>h,H⟩
  ·have h1:=H.2 j (ready_mono hj hji);obtain⟨hjun,oj,hoj,hall⟩:=mem_ready.1 hj;have Vm:=(mem_ready.1 hr).1
   have hnot:∀e∈oj.after,Region.binds md e=true→e.on≠i:=fun e he hb heq=>by
    have h1:=hall e he hb;rw[heq] at h1
    rcases Nat.lt_or_ge i listed.size with h'|h'
    ·simp[h'] at Vm h1;rw[Vm] at h1;cases h1
    ·simp[Array.getElem?_eq_none h'] at h1
   have hjd:j∉ds:=fun hm=>Region.EC hc (hd j hm hjun) Vm hj
   have h2:=wpOp_putIf hoj (hfree j oj hoj hji hjun hnot) (fun cs b=>hsel i oi cs b hi) (fun cs b=>hsel j oj cs b hoj) hQ hy h1
   have hfree':∀k ok,ops[k]?=some ok→k≠i→(listed.setIfInBounds j true).getD k true=false →
     (∀e∈ok.after,Region.binds md e=true→e.on≠i)→oi.apart ops ok=true:=fun k ok hk hki hun hno=>by
    refine hfree k ok hk hki ?_ hno;by_cases hjk:j=k
    ·subst hjk;exact hjun
    ·rw[getD_set_ne true hjk] at hun;exact hun
   have hd':∀d∈ds,(listed.setIfInBounds j true).getD d true=false→Region.qZ md ops i n d=true:=fun d hm hun=>by
    refine hd d hm ?_;by_cases hjk:j=d
    ·subst hjk;exact hjun
    ·rw[getD_set_ne true hjk] at hun;exact hun
   refine wpOp_mono (fun a' w' h3=>⟨h3.2.1,ih (listed.setIfInBounds j true) a' w' hfree' (hc.set hj) hd' (ready_mono hr (Ne.symm hji)) h3.1 (h3.2.1 hjd hS) ?_⟩) h2;rw[Array.setIfInBounds_comm _ _ hji];exact h3.2.2
theorem JB {i:Nat} {oi:Oper} {v:Value} (hi:ops[i]?=some oi) (hsel:∀(j:Nat) (o:Oper) cs b,ops[j]?=some o→o.op≠.select cs b)
  (hQ:∀c a w,Q (.panic c) (a.put oi.dst v) w→Q (.panic c) a w) :
  ∀(fuel:Nat) (listed:Array Bool) (a:Act) (w:World),
   (∀j oj,ops[j]?=some oj→j≠i→listed.getD j true=false→(∀e∈oj.after,Region.binds md e=true→e.on≠i)→oi.apart ops oj=true) →
   i∈Region.ready md ops listed→Yields P ops oi v a →
   bP P md ops Q S ds fuel (listed.setIfInBounds i true) (a.put oi.dst v) w→bP P md ops Q S ds (fuel+1) listed a w:=by
 intro fuel
 induction fuel with
 | zero=>
  intro listed a w _ hr hy H;refine⟨fun h=>(by rw[h] at hr;cases hr),fun j hj=>?_⟩;by_cases hji:j=i
  ·subst hji;exact (hy.yieldsIf (S:=fun _=>True)).wpOp hi trivial ⟨fun _ h=>h,H⟩
  ·have:=ready_mono hj hji;rw[H.1] at this;cases this
 | succ fuel ih=>
  intro listed a w hfree hr hy H;refine⟨fun h=>(by rw[h] at hr;cases hr),fun j hj=>?_⟩;by_cases hji:j=i
  ·subst hji;exact (hy.yieldsIf (S:=fun _=>True)).wpOp hi trivial ⟨fun _ h=>h,H⟩
  ·have h1:=H.2 j (ready_mono hj hji);obtain⟨hjun,oj,hoj,hall⟩:=mem_ready.1 hj;have Vm:=(mem_ready.1 hr).1
   have hnot:∀e∈oj.after,Region.binds md e=true→e.on≠i:=fun e he hb heq=>by
    have h1:=hall e he hb;rw[heq] at h1
    rcases Nat.lt_or_ge i listed.size with h'|h'
    ·simp[h'] at Vm h1;rw[Vm] at h1;cases h1
    ·simp[Array.getElem?_eq_none h'] at h1
   have h2:=wpOp_put hoj (hfree j oj hoj hji hjun hnot) (fun cs b=>hsel i oi cs b hi) (fun cs b=>hsel j oj cs b hoj) hQ hy h1
   have hfree':∀k ok,ops[k]?=some ok→k≠i→(listed.setIfInBounds j true).getD k true=false →
     (∀e∈ok.after,Region.binds md e=true→e.on≠i)→oi.apart ops ok=true:=fun k ok hk hki hun hno=>by
    refine hfree k ok hk hki ?_ hno;by_cases hjk:j=k
    ·subst hjk;exact hjun
    ·rw[getD_set_ne true hjk] at hun;exact hun
   refine wpOp_mono (fun a' w' h3=>⟨h3.2.1,ih (listed.setIfInBounds j true) a' w' hfree' (ready_mono hr (Ne.symm hji)) h3.1 ?_⟩) h2;rw[Array.setIfInBounds_comm _ _ hji];exact h3.2.2
theorem IK {i:Nat} {oi:Oper} {v:Value} {fuel:Nat} {listed:Array Bool} {a:Act} {w:World} (hi:ops[i]?=some oi)
  (hs:Region.noSelect ops=true) (hf:Region.free md ops listed i=true) (hr:(Region.ready md ops listed).contains i=true)
  (hc:Region.CF md ops listed=true) (hl:Region.lastB md ops listed ds i=true)
  (hQ:∀c a w,Q (.panic c) (a.put oi.dst v) w→Q (.panic c) a w) (hy:YieldsIf P ops S oi v a) (hS:S w)
  (h:bP P md ops Q S ds fuel (listed.setIfInBounds i true) (a.put oi.dst v) w):bP P md ops Q S ds (fuel+1) listed a w :=
 ED hi (Region.noSelect_spec hs) hQ ops.size fuel listed a w (Region.free_spec hi hf) (Region.MH hc)
  (fun d hm hun=>by have:=List.all_eq_true.1 hl d hm;rw[hun] at this;simpa using this) (by simpa using hr) hy hS h
theorem JC {rs:List Nat} {fuel:Nat} {listed:Array Bool} {a:Act} {w:World} (hr:Region.ready md ops listed=rs) (hne:rs≠[])
  (h:∀i∈rs,wpOp P ops Q i (fun a' w'=>(i∉ds→S w→S w')∧bP P md ops Q S ds fuel (listed.setIfInBounds i true) a' w') a w):bP P md ops Q S ds (fuel+1) listed a w :=
 ⟨fun h0=>absurd (hr▸h0) hne,hr▸h⟩
theorem IL {listed:Array Bool} {a:Act} {w:World} (hr:Region.ready md ops listed=[]) (h:Q .normal a w) :
  ∀fuel,bP P md ops Q S ds fuel listed a w
 | 0=>⟨hr,h⟩
 | _+1=>⟨fun _=>h,by rw[hr];simp⟩
theorem IQ {id:Nat} {a:Act} {w:World} (hm:P.follows .mixedOrders=true)
  (h:bP P .any ops Q S ds ops.size (Array.replicate ops.size false) a { w with drawn:=w.drawn+1 }):(Code.region id ops true).wp P Q a w :=
 wp_region_any hm (uL _ _ _ _ h)
end
section
variable {P : Program} {ops : Array Oper} {Q : Exit → Act → World → Prop} {md : Region.Mode} {S : World → Prop} {ds : List Nat}
def iG (P:Program) (md:Region.Mode) (ops:Array Oper) (Q:Exit→Act→World→Prop) (S:World→Prop) (ds:List Nat) (fuel:Nat) (listed:Array Bool) (a:Act) (w:World) (rs:List Nat):Prop :=
 ∀i∈rs,wpOp P ops Q i (fun a' w'=>(i∉ds→S w→S w')∧bP P md ops Q S ds fuel (listed.setIfInBounds i true) a' w') a w
theorem iG.nil {fuel:Nat} {listed:Array Bool} {a:Act} {w:World}:iG P md ops Q S ds fuel listed a w []:=fun _ h=>by cases h
theorem iG.cons {fuel:Nat} {listed:Array Bool} {a:Act} {w:World} {i:Nat} {o:Oper} {rs:List Nat} (ho:ops[i]?=some o) (hd:i∉ds)
  (h:∀K':Act→World→Prop,Shut (∀a w,S w→(S w→bP P md ops Q S ds fuel (listed.setIfInBounds i true) a w)→K' a w)→if Region.wanted o (yielded ops a.tmps)=true then Oper.wp P o a w K' Q else K' (a.put o.dst undef) w)
  (hs:iG P md ops Q S ds fuel listed a w rs):iG P md ops Q S ds fuel listed a w (i::rs):=fun j hj=>by
 rcases List.mem_cons.1 hj with rfl|hj
 ·exact wpOp_step ho (fun K' hK=>h K' (fun a w hS hW=>hK a w ⟨fun _ _=>hS,hW hS⟩))
 ·exact hs j hj
theorem iG.Vn {fuel:Nat} {listed:Array Bool} {a:Act} {w:World} {i:Nat} {o:Oper} {rs:List Nat} (ho:ops[i]?=some o) (hd:i∈ds)
  (h:∀K':Act→World→Prop,Shut (∀a w,bP P md ops Q S ds fuel (listed.setIfInBounds i true) a w→K' a w)→if Region.wanted o (yielded ops a.tmps)=true then Oper.wp P o a w K' Q else K' (a.put o.dst undef) w)
  (hs:iG P md ops Q S ds fuel listed a w rs):iG P md ops Q S ds fuel listed a w (i::rs):=fun j hj=>by
 rcases List.mem_cons.1 hj with rfl|hj
 ·exact wpOp_step ho (fun K' hK=>h K' (fun a w hW=>hK a w ⟨fun hn=>absurd hd hn,hW⟩))
 ·exact hs j hj
theorem q9 {rs:List Nat} {fuel:Nat} {listed:Array Bool} {a:Act} {w:World} (hr:Region.ready md ops listed=rs) (hne:rs≠[])
  (h:iG P md ops Q S ds fuel listed a w rs):bP P md ops Q S ds (fuel+1) listed a w:=JC hr hne h
theorem kY {id n:Nat} {a:Act} {w:World} (l:Array Bool) (hm:P.follows .mixedOrders=true) (hn:ops.size=n) (hl:Array.replicate n false=l) (hS:S w.drew)
  (h:S w.drew→bP P .any ops Q S ds n l a w.drew):(Code.region id ops true).wp P Q a w:=by
 subst hn;subst hl;exact IQ hm (h hS)
def takeB (md:Region.Mode) (ops:Array Oper) (ds:List Nat) (l l':Array Bool) (i:Nat):Bool :=
 Region.noSelect ops && Region.free md ops l i && (Region.ready md ops l).contains i && Region.CF md ops l && Region.lastB md ops l ds i && (l.setIfInBounds i true == l')
theorem jZ {i:Nat} {N:Option Tmp} {oi:Oper} {v:Value} {fuel:Nat} {l:Array Bool} {a:Act} {w:World} (l':Array Bool) (hi:ops[i]?=some oi) (hN:oi.dst=N) (hc:takeB md ops ds l l' i=true)
  (hQ:∀c a w,Q (.panic c) (a.put oi.dst v) w→Q (.panic c) a w) (hy:YieldsIf P ops S oi v a) (hS:S w) {a':Act} (ha:a.put N v=a')
  (h:bP P md ops Q S ds fuel l' a' w):bP P md ops Q S ds (fuel+1) l a w:=by
 subst ha;subst hN;simp only[takeB,Bool.and_eq_true,beq_iff_eq] at hc;obtain⟨⟨⟨⟨⟨h1,h2⟩,h3⟩,h4⟩,h5⟩,h6⟩:=hc;subst h6;exact IK hi h1 h2 h3 h4 h5 hQ hy hS h
def Vo (md:Region.Mode) (ops:Array Oper) (l l':Array Bool) (i:Nat):Bool :=
 Region.noSelect ops && Region.free md ops l i && (Region.ready md ops l).contains i && (l.setIfInBounds i true == l')
theorem fP {i:Nat} {N:Option Tmp} {oi:Oper} {v:Value} {fuel:Nat} {l:Array Bool} {a:Act} {w:World} (l':Array Bool) (hi:ops[i]?=some oi) (hN:oi.dst=N) (hc:Vo md ops l l' i=true)
  (hQ:∀c a w,Q (.panic c) (a.put oi.dst v) w→Q (.panic c) a w) (hy:Yields P ops oi v a) {a':Act} (ha:a.put N v=a')
  (h:bP P md ops Q S ds fuel l' a' w):bP P md ops Q S ds (fuel+1) l a w:=by
 subst ha;subst hN;simp only[Vo,Bool.and_eq_true,beq_iff_eq] at hc;obtain⟨⟨⟨h1,h2⟩,h3⟩,h6⟩:=hc;subst h6;exact JB hi (Region.noSelect_spec h1) hQ fuel l a w (Region.free_spec hi h2) (by simpa using h3) hy h
def AL (md:Region.Mode) (ops:Array Oper) (l l':Array Bool) (i:Nat):Bool:=(Region.ready md ops l == [i]) && (l.setIfInBounds i true == l')
theorem QT {i:Nat} {N:Option Tmp} {oi:Oper} {fuel:Nat} {l:Array Bool} {a:Act} {w:World} (l':Array Bool) (hi:ops[i]?=some oi) (hN:oi.dst=N) (hc:AL md ops l l' i=true) (hd:i∉ds)
  (h:∀K:Act→World→Prop,Shut (∀a' w',S w'→(S w'→bP P md ops Q S ds fuel l' a' w')→K a' w')→if Region.wanted oi (yielded ops a.tmps)=true then Oper.wp P oi a w K Q else K (a.put N undef) w) :
  bP P md ops Q S ds (fuel+1) l a w:=by
 subst hN;simp only[AL,Bool.and_eq_true,beq_iff_eq] at hc;obtain⟨h1,h2⟩:=hc;subst h2;exact q9 h1 (by simp) (iG.cons hi hd (fun K hK=>h K hK) iG.nil)
theorem lS {i:Nat} {N:Option Tmp} {oi:Oper} {fuel:Nat} {l:Array Bool} {a:Act} {w:World} (l':Array Bool) (hi:ops[i]?=some oi) (hN:oi.dst=N) (hc:AL md ops l l' i=true) (hd:i∈ds)
  (h:∀K:Act→World→Prop,Shut (∀a' w',bP P md ops Q S ds fuel l' a' w'→K a' w')→if Region.wanted oi (yielded ops a.tmps)=true then Oper.wp P oi a w K Q else K (a.put N undef) w) :
  bP P md ops Q S ds (fuel+1) l a w:=by
 subst hN;simp only[AL,Bool.and_eq_true,beq_iff_eq] at hc;obtain⟨h1,h2⟩:=hc;subst h2;exact q9 h1 (by simp) (iG.Vn hi hd (fun K hK=>h K hK) iG.nil)
theorem kK {l:Array Bool} {a:Act} {w:World} {n:Nat} (hr:(Region.ready md ops l == [])=true) (h:Q .normal a w):bP P md ops Q S ds n l a w:=IL (by simpa using hr) h n
theorem afX {i j:Nat} {Ni Nj:Option Tmp} {oi oj:Oper} {fuel:Nat} {l:Array Bool} {a:Act} {w:World} (li lj:Array Bool) (hi:ops[i]?=some oi) (hj:ops[j]?=some oj) (hNi:oi.dst=Ni) (hNj:oj.dst=Nj)
  (hc:(Region.ready md ops l == [i,j] && l.setIfInBounds i true == li && l.setIfInBounds j true == lj)=true) (hdi:i∉ds) (hdj:j∉ds)
  (h1:∀K:Act→World→Prop,Shut (∀a' w',S w'→(S w'→bP P md ops Q S ds fuel li a' w')→K a' w')→if Region.wanted oi (yielded ops a.tmps)=true then Oper.wp P oi a w K Q else K (a.put Ni undef) w)
  (h2:∀K:Act→World→Prop,Shut (∀a' w',S w'→(S w'→bP P md ops Q S ds fuel lj a' w')→K a' w')→if Region.wanted oj (yielded ops a.tmps)=true then Oper.wp P oj a w K Q else K (a.put Nj undef) w) :
  bP P md ops Q S ds (fuel+1) l a w:=by
 subst hNi;subst hNj;simp only[Bool.and_eq_true,beq_iff_eq] at hc;obtain⟨⟨h3,h4⟩,h5⟩:=hc;subst h4;subst h5;exact q9 h3 (by simp) (iG.cons hi hdi (fun K hK=>h1 K hK) (iG.cons hj hdj (fun K hK=>h2 K hK) iG.nil))
def zV:Act→List (Tmp × Value)→Act
 | a,[]=>a
 | a,(n,v)::r=>zV (a.put (some n) v) r
theorem abM {σ:Type} {fuel:Nat} {l:Array Bool} {a:Act} {w:World} (fuel':Nat) (l':Array Bool) (ns:σ→List (Tmp × Value)) (F:σ→World→Prop)
  (hcont:∀s w',F s w'→bP P md ops Q S ds fuel' l' (zV a (ns s)) w')
  (h:(∀s w',F s w'→bP P md ops Q S ds fuel' l' (zV a (ns s)) w')→bP P md ops Q S ds fuel l a w):bP P md ops Q S ds fuel l a w:=h hcont
theorem JH {fuel:Nat} {l:Array Bool} {a a':Act} {w:World} (ha:a=a') (h:bP P md ops Q S ds fuel l a' w):bP P md ops Q S ds fuel l a w:=by
 subst ha;exact h
theorem call_ {oi:Oper} {N:Option Tmp} {a:Act} {w:World} {K:Act→World→Prop} (f:FuncId) (args:Array Value) (hw:Region.wanted oi (yielded ops a.tmps)=true) (hN:oi.dst=N) (hrun:(execOp a.eval oi).run P w=.ok (.enter f args) w)
  (h:Calls P f args w fun e w'=>∃v,e=.returned v∧K (a.put N v) w'):if Region.wanted oi (yielded ops a.tmps)=true then Oper.wp P oi a w K Q else K (a.put N undef) w:=by
 rw[if_pos hw];subst hN;unfold Oper.wp;rw[hrun,Oper.upon_enter]
 refine h.mono fun e w'' hh=>?_
 obtain⟨v,rfl,hk⟩:=hh;exact hk
theorem K6 {f:FuncId} {fn:Func} (hf:P.funcs[f]?=some fn) (hname:(fn.name == "runtime.NumGoroutine")=false) (hb:fn.body.isSome=true) (args:Array Value) (w:World):(callFunc f args).run P w=.ok (.enter f args) w:=by
 have h1:fn.name≠"runtime.NumGoroutine":=by simpa using hname
 obtain⟨c,hc⟩:=Option.isSome_iff_exists.1 hb;simp[callFunc,hf,h1,hc]
theorem Gz {oi:Oper} {N:Option Tmp} {a:Act} {w:World} {K:Act→World→Prop} {f:FuncId} {fn:Func} {as:Array Operand} {ts:Array TypeId} (hf:P.funcs[f]?=some fn) (hname:(fn.name == "runtime.NumGoroutine")=false) (hb:fn.body.isSome=true) (args:Array Value)
  (hw:Region.wanted oi (yielded ops a.tmps)=true) (hN:oi.dst=N) (hop:oi.op=.call { callee:=.value (.func f),args:=as,argTypes:=ts }) (hargs:as.map a.eval=args)
  (h:Calls P f args w fun e w'=>∃v,e=.returned v∧K (a.put N v) w'):if Region.wanted oi (yielded ops a.tmps)=true then Oper.wp P oi a w K Q else K (a.put N undef) w:=by
 refine call_ f args hw hN ?_ h;have he:=K6 hf hname hb args w;unfold execOp;simp[hop,resolve,Deferred.ofValue,invoke,Act.eval,hargs,he]
theorem oz {rest:List Oper} {oi:Oper} {a:Act} {w:World} (N:Option Tmp) (hd:oi.dst=N) (hg:oi.guard=none) {f:FuncId} {fn:Func} {as:Array Operand} {ts:Array TypeId} (hf:P.funcs[f]?=some fn) (hname:(fn.name == "runtime.NumGoroutine")=false) (hb:fn.body.isSome=true) (args:Array Value)
  (hop:oi.op=.call { callee:=.value (.func f),args:=as,argTypes:=ts }) (hargs:as.map a.eval=args)
  (h:Calls P f args w fun e w'=>∃v,e=.returned v∧wpList P ops Q rest (a.put N v) w'):wpList P ops Q (oi::rest) a w:=by
 refine wpList_plain hg fun K hK=>?_
 have he:=K6 hf hname hb args w
 have hrun:(execOp a.eval oi).run P w=.ok (.enter f args) w:=by
  unfold execOp;simp[hop,resolve,Deferred.ofValue,invoke,Act.eval,hargs,he]
 unfold Oper.wp;rw[hrun,Oper.upon_enter]
 refine h.mono fun e w'' hh=>?_
 obtain⟨v,rfl,hk⟩:=hh;subst hd;exact hK _ _ hk
theorem oN {oi:Oper} {N:Option Tmp} {a:Act} {w w1:World} {v:Value} {K:Act→World→Prop} (hw:Region.wanted oi (yielded ops a.tmps)=true) (hN:oi.dst=N) (hrun:(execOp a.eval oi).run P w=.ok (.value v) w1)
  (h:K (a.put N v) w1):if Region.wanted oi (yielded ops a.tmps)=true then Oper.wp P oi a w K Q else K (a.put N undef) w:=by
 rw[if_pos hw];subst hN;unfold Oper.wp;rw[hrun];exact h
theorem tZ {oi:Oper} {a:Act} {w w1:World} {K:Act→World→Prop} (hw:Region.wanted oi (yielded ops a.tmps)=true) (hN:oi.dst=none) (hrun:(execOp a.eval oi).run P w=.ok .skip w1)
  (h:K a w1):if Region.wanted oi (yielded ops a.tmps)=true then Oper.wp P oi a w K Q else K (a.put none undef) w:=by
 rw[if_pos hw];unfold Oper.wp;rw[hrun]
 show K (a.put oi.dst undef) w1
 rw[hN];exact h
theorem dn (n:Int):IntKind.i64.wrap n=Go.RowKit.wrap64 n:=by unfold Go.RowKit.wrap64;exact IntKind.wrap_i64 n
theorem dA (n:Int):IntKind.i32.wrap n=Go.RowKit.wrap32 n:=by unfold Go.RowKit.wrap32;exact IntKind.wrap_i32 n
end
end Go.Proofs.YtknihldkhedpkaaGreatDoorW.PrintLast
end
section
namespace Go.Proofs
open Go.RowKit Go.Proofs.YtknihldkhedpkaaGreatDoorW.PrintWords Go.Proofs.YtknihldkhedpkaaGreatDoorW.PrintLast
theorem aj {p:Prop} (h:p:=by omega):p:=h
theorem aA {p:Prop} (h:p:=by kernel_rfl):p:=h
theorem aD {p:Prop} (h:p:=by decide):p:=h
theorem bK {p:Prop} (h:p:=by simp):p:=h
theorem bS {p:Prop} (h:p:=by first|(with_reducible assumption)|assumption):p:=h
theorem dL {p:Prop} (h:p:=by repeat (first|(with_reducible first|exact HB.out|apply aH|apply av|apply aI)|exact HB.out)):p:=h
theorem nT {p:Prop} (h:p:=by (try simp only[List.map_toArray,List.map_cons,List.map_nil]);first|done|rfl|(simp only[List.length_drop,List.length_take];rfl)):p:=h
theorem Nz {p:Prop} (h:p:=by (try simp only[List.map_toArray,List.map_cons,List.map_nil]);first|done|rfl):p:=h
theorem eG {p:Prop} (h:p:=by first|rfl|(simp;done)|(simp[*];done)):p:=h
def aiZ:Nat→Nat→List Bool
 | 0,_=>[]
 | n+1,m=>(m % 2 == 1)::aiZ n (m / 2)
def aQ (n m:Nat):Array Bool:=⟨aiZ n m⟩
section
variable {P : Program} {ops : Array Oper} {Q : Exit → Act → World → Prop} {md : Region.Mode} {S : World → Prop} {ds : List Nat} {oi : Oper} {v : Value} {fuel : Nat} {l : Array Bool} {a a' : Act} {w : World}
theorem bR (i N:Nat) (l':Array Bool) (h:bP P md ops Q S ds fuel l' a' w) (hi:ops[i]?=some oi:=by rfl) (hN:oi.dst=some N:=by rfl) (hc:Vo md ops l l' i=true:=by kernel_rfl)
  (hQ:∀c a w,Q (.panic c) (a.put oi.dst v) w→Q (.panic c) a w:=by exact fun _ _ _ h=>h)
  (hw:Region.wanted oi (yielded ops a.tmps)=true:=by rfl) (hy:∀w,(execOp a.eval oi).run P w=.ok (.value v) w:=by (intro w';go_simp;with_reducible rfl))
  (ha:a.put (some N) v=a':=by (simp only[Act.put,List.setIfInBounds_toArray,List.set_cons_zero,List.set_cons_succ,dn,dA];rfl)):bP P md ops Q S ds (fuel+1) l a w :=
 fP (i:=i) (N:=some N) l' hi hN hc hQ (Or.inl ⟨hw,hy⟩) ha h
theorem qg (i N:Nat) (l':Array Bool) (h:bP P md ops Q S ds fuel l' a' w) (hi:ops[i]?=some oi:=by rfl) (hN:oi.dst=some N:=by rfl) (hc:Vo md ops l l' i=true:=by kernel_rfl)
  (hQ:∀c a w,Q (.panic c) (a.put oi.dst undef) w→Q (.panic c) a w:=by exact fun _ _ _ h=>h)
  (hw:Region.wanted oi (yielded ops a.tmps)=false:=by rfl)
  (ha:a.put (some N) undef=a':=by (simp only[Act.put,List.setIfInBounds_toArray,List.set_cons_zero,List.set_cons_succ,dn,dA];rfl)):bP P md ops Q S ds (fuel+1) l a w :=
 fP (i:=i) (N:=some N) l' hi hN hc hQ (Or.inr ⟨hw,rfl⟩) ha h
theorem jv (i N:Nat) (l':Array Bool) (hi:ops[i]?=some oi) (hS:S w) (hy:∀w,S w→(execOp a.eval oi).run P w=.ok (.value v) w) (h:bP P md ops Q S ds fuel l' a' w) (hN:oi.dst=some N:=by rfl) (hc:takeB md ops ds l l' i=true:=by kernel_rfl)
  (hQ:∀c a w,Q (.panic c) (a.put oi.dst v) w→Q (.panic c) a w:=by exact fun _ _ _ h=>h)
  (hw:Region.wanted oi (yielded ops a.tmps)=true:=by rfl)
  (ha:a.put (some N) v=a':=by (simp only[Act.put,List.setIfInBounds_toArray,List.set_cons_zero,List.set_cons_succ,dn,dA];rfl)):bP P md ops Q S ds (fuel+1) l a w :=
 jZ (i:=i) (N:=some N) l' hi hN hc hQ (Or.inl ⟨hw,hy⟩) hS ha h
theorem mG (i:Nat) (N:Option Tmp) (l':Array Bool)
  (h:∀K:Act→World→Prop,Shut (∀a' w',S w'→(S w'→bP P md ops Q S ds fuel l' a' w')→K a' w')→if Region.wanted oi (yielded ops a.tmps)=true then Oper.wp P oi a w K Q else K (a.put N undef) w)
  (hi:ops[i]?=some oi:=by rfl) (hN:oi.dst=N:=by rfl) (hc:AL md ops l l' i=true:=by kernel_rfl) (hd:i∉ds:=by decide):bP P md ops Q S ds (fuel+1) l a w :=
 QT (i:=i) (N:=N) l' hi hN hc hd h
theorem fU (N:Nat) (h:bP P md ops Q S ds fuel l a' w) (ha:a.put (some N) v=a':=by (simp only[Act.put,List.setIfInBounds_toArray,List.set_cons_zero,List.set_cons_succ,dn,dA];rfl)):bP P md ops Q S ds fuel l (a.put (some N) v) w:=JH ha h
theorem qj {N:Option Tmp} {K:Act→World→Prop} {f:FuncId} {fn:Func} {as:Array Operand} {ts:Array TypeId} (hf:P.funcs[f]?=some fn) (args:Array Value)
  (h:Calls P f args w fun e w'=>∃v,e=.returned v∧K (a.put N v) w')
  (hname:(fn.name == "runtime.NumGoroutine")=false:=by kernel_rfl) (hb:fn.body.isSome=true:=by rfl)
  (hw:Region.wanted oi (yielded ops a.tmps)=true:=by rfl) (hN:oi.dst=N:=by rfl) (hop:oi.op=.call { callee:=.value (.func f),args:=as,argTypes:=ts }:=by rfl)
  (hargs:as.map a.eval=args:=by (try simp only[List.map_toArray,List.map_cons,List.map_nil]);first|done|rfl):if Region.wanted oi (yielded ops a.tmps)=true then Oper.wp P oi a w K Q else K (a.put N undef) w :=
 Gz hf hname hb args hw hN hop hargs h
end
end Go.Proofs
end
section
namespace Go.Proofs.YtknihldkhedpkaaGreatDoorW.PrintLast
open Go.Proofs.YtknihldkhedpkaaGreatDoorW.PrintWords (ah)
def ze (md:Region.Mode) (o:Oper):List Nat:=(o.after.toList.filter (fun e=>Region.binds md e)).map (fun e=>e.on)
def MI (md:Region.Mode) (ops:Array Oper) (i:Nat) (oi:Oper):List Nat:=(List.range ops.size).filter fun j=>!(j == i) && match ops[j]? with
 | some oj=>!(oj.after.any (fun e=>Region.binds md e && e.on == i) || oi.apart ops oj)
 | none=>false
def tJ (md:Region.Mode) (ops:Array Oper):Bool × List (List Nat × List Nat):=(Region.noSelect ops,(List.range ops.size).map fun i=>match ops[i]? with
 | some o=>(ze md o,MI md ops i o)
 | none=>([],[]))
def uE (T:List (List Nat × List Nat)) (l:List Bool) (i:Nat):Bool:=!l.getD i true && match T[i]? with
 | some r=>r.1.all (fun j=>l.getD j false)
 | none=>false
def IU (T:List (List Nat × List Nat)) (l:List Bool):List Nat:=(List.range T.length).filter (uE T l)
def Pj (T:List (List Nat × List Nat)) (l:List Bool) (i:Nat):Bool:=match T[i]? with
 | some r=>r.2.all (fun j=>l.getD j true)
 | none=>false
def E9 (T:List (List Nat × List Nat)) (l:List Bool):Bool:=(List.range T.length).all fun j=>!l.getD j false || match T[j]? with
 | some r=>r.1.all (fun k=>l.getD k false)
 | none=>true
def DK (T:List (List Nat × List Nat)) (i:Nat):Nat→Nat→Bool
 | 0,_=>false
 | fuel+1,d=>match T[d]? with
  | some r=>r.1.any fun j=>j == i || DK T i fuel j
  | none=>false
def lastT (T:List (List Nat × List Nat)) (l:List Bool) (ds:List Nat) (i:Nat):Bool:=ds.all fun d=>l.getD d true || DK T i T.length d
section
variable {md : Region.Mode} {ops : Array Oper} {T : Bool × List (List Nat × List Nat)} {l l' li lj lk : Array Bool} {ds : List Nat} {i j k : Nat}
theorem gd (l:Array Bool) (j:Nat) (b:Bool):l.getD j b=l.toList.getD j b:=by simp[Array.getD_eq_getD_getElem?,List.getD_eq_getElem?_getD]
theorem KP (o:Oper) (p:Nat→Bool):o.after.all (fun e=>!Region.binds md e || p e.on)=(ze md o).all p:=by
 unfold ze;rw[← Array.all_toList]
 induction o.after.toList with
 | nil=>rfl
 | cons e r ih=>
  rw[List.all_cons,ih,List.filter_cons]
  cases h:Region.binds md e <;> simp
theorem Vq (o:Oper) (p:Nat→Bool):o.after.any (fun e=>Region.binds md e && p e.on)=(ze md o).any p:=by
 unfold ze;rw[← Array.any_toList]
 induction o.after.toList with
 | nil=>rfl
 | cons e r ih=>
  rw[List.any_cons,ih,List.filter_cons]
  cases h:Region.binds md e <;> simp
theorem uF:(tJ md ops).2.length=ops.size:=by simp[tJ]
theorem zf {o:Oper} (h:ops[i]?=some o):(tJ md ops).2[i]?=some (ze md o,MI md ops i o):=by
 have hi:=(Array.getElem?_eq_some_iff.1 h).1;unfold tJ;rw[List.getElem?_map,List.getElem?_range hi,Option.map_some,h]
theorem zh (h:ops[i]?=none):(tJ md ops).2[i]?=none:=by
 have hi:ops.size≤i:=Array.getElem?_eq_none_iff.1 h;exact List.getElem?_eq_none (by rw[uF];exact hi)
theorem R5:uE (tJ md ops).2 l.toList i=(!l.getD i true && ((ops[i]?).map (·.after.all fun e=>!Region.binds md e || l.getD e.on false)).getD false):=by
 unfold uE;rw[gd]
 cases h:ops[i]? with
 | none=>rw[zh h];rfl
 | some o=>
  rw[zf h];simp only[Option.map_some,Option.getD_some];rw[← KP];simp only[gd]
theorem ready_eq:Region.ready md ops l=IU (tJ md ops).2 l.toList:=by
 unfold Region.ready IU;rw[uF];refine List.filter_congr (fun i _=>?_);rw[R5]
theorem free_eq:Region.free md ops l i=Pj (tJ md ops).2 l.toList i:=by
 unfold Region.free Pj
 cases h:ops[i]? with
 | none=>rw[zh h]
 | some oi=>
  rw[zf h];simp only[MI];rw[List.all_filter]
  congr 1
  funext j
  rw[gd]
  cases hj:ops[j]? with
  | none=>cases (j == i) <;> cases (l.toList.getD j true) <;> simp
  | some oj=>
   cases (j == i) <;> cases (l.toList.getD j true) <;> cases (oj.after.any (fun e=>Region.binds md e && e.on == i) || oi.apart ops oj) <;> simp_all
theorem Vr:Region.CF md ops l=E9 (tJ md ops).2 l.toList:=by
 unfold Region.CF E9;rw[uF]
 congr 1
 funext j
 rw[gd]
 cases h:ops[j]? with
 | none=>rw[zh h]
 | some o=>
  rw[zf h];simp only;rw[← KP];simp only[gd]
theorem Pm:∀(fuel d:Nat),Region.qZ md ops i fuel d=DK (tJ md ops).2 i fuel d
 | 0,_=>rfl
 | fuel+1,d=>by
  unfold Region.qZ DK
  cases h:ops[d]? with
  | none=>rw[zh h]
  | some o=>
   rw[zf h];simp only;rw[← Vq]
   congr 1
   funext e
   rw[Pm fuel]
theorem abG:Region.lastB md ops l ds i=lastT (tJ md ops).2 l.toList ds i:=by
 unfold Region.lastB lastT;rw[uF]
 congr 1
 funext d
 rw[gd,Pm]
theorem En (h:uE T.2 l.toList i=true) (hT:tJ md ops=T):(Region.ready md ops l).contains i=true:=by
 subst hT;rw[ready_eq];unfold IU;rw[List.contains_iff_mem,List.mem_filter,List.mem_range];refine⟨?_,h⟩;unfold uE at h;rw[Bool.and_eq_true] at h
 cases hq:(tJ md ops).2[i]? with
 | none=>rw[hq] at h;simp at h
 | some r=>exact (List.getElem?_eq_some_iff.1 hq).1
theorem R6 (h:(l.toList.set i true == l'.toList)=true):(l.setIfInBounds i true == l')=true:=by
 rw[beq_iff_eq] at h ⊢;apply Array.ext';rw[Array.toList_setIfInBounds];exact h
def ai0 (T:Bool × List (List Nat × List Nat)) (l l':List Bool) (i:Nat):Bool:=T.1 && Pj T.2 l i && uE T.2 l i && (l.set i true == l')
theorem jE (hT:tJ md ops=T) (h:ai0 T l.toList l'.toList i=true):Vo md ops l l' i=true:=by
 simp only[ai0,Bool.and_eq_true] at h;obtain⟨⟨⟨h1,h2⟩,h3⟩,h4⟩:=h;have h5:=En h3 hT;have h6:=R6 h4;subst hT;simp only[Vo,Bool.and_eq_true];exact⟨⟨⟨h1,by rw[free_eq];exact h2⟩,h5⟩,h6⟩
def Yf (T:Bool × List (List Nat × List Nat)) (ds:List Nat) (l l':List Bool) (i:Nat):Bool:=T.1 && Pj T.2 l i && uE T.2 l i && E9 T.2 l && lastT T.2 l ds i && (l.set i true == l')
theorem abH (hT:tJ md ops=T) (h:Yf T ds l.toList l'.toList i=true):takeB md ops ds l l' i=true:=by
 simp only[Yf,Bool.and_eq_true] at h;obtain⟨⟨⟨⟨⟨h1,h2⟩,h3⟩,h4⟩,h5⟩,h6⟩:=h;have h7:=En h3 hT;have h8:=R6 h6;subst hT;simp only[takeB,Bool.and_eq_true];exact⟨⟨⟨⟨⟨h1,by rw[free_eq];exact h2⟩,h7⟩,by rw[Vr];exact h4⟩,by rw[abG];exact h5⟩,h8⟩
theorem xX (hT:tJ md ops=T) (h:(IU T.2 l.toList == [i] && l.toList.set i true == l'.toList)=true):AL md ops l l' i=true:=by
 simp only[Bool.and_eq_true] at h;obtain⟨h1,h2⟩:=h;subst hT;simp only[AL,Bool.and_eq_true];exact⟨by rw[ready_eq];exact h1,R6 h2⟩
theorem EP (hT:tJ md ops=T) (h:(IU T.2 l.toList == [])=true):(Region.ready md ops l == [])=true:=by
 subst hT;rw[ready_eq];exact h
def upM (B:List Nat) (d:Nat):List Nat→Nat
 | []=>0
 | n::r=>(2 ^ n ||| (if n<d then B.getD n 0 else 0)) ||| upM B d r
def vY (T:List (List Nat × List Nat)) (B:List Nat):Bool:=(List.range T.length).all fun d=>match T[d]? with
 | some r=>(B.getD d 0 ||| upM B d r.1) == upM B d r.1
 | none=>false
theorem Ua {B:List Nat} {d i:Nat}:∀{ns:List Nat},(upM B d ns).testBit i=true→∃n∈ns,n=i∨(n<d∧(B.getD n 0).testBit i=true)
 | [],h=>by simp[upM] at h
 | n::r,h=>by
  unfold upM at h;rw[Nat.testBit_or,Nat.testBit_or,Bool.or_eq_true,Bool.or_eq_true] at h
  rcases h with (h|h)|h
  ·rw[Nat.testBit_two_pow] at h;exact⟨n,List.mem_cons_self,.inl (by simpa using h)⟩
  ·by_cases hn:n<d
   ·rw[if_pos hn] at h;exact⟨n,List.mem_cons_self,.inr ⟨hn,h⟩⟩
   ·rw[if_neg hn] at h;simp at h
  ·obtain⟨m,hm,h2⟩:=Ua h;exact⟨m,List.mem_cons_of_mem _ hm,h2⟩
theorem KQ {T:List (List Nat × List Nat)} {B:List Nat} (hB:vY T B=true):∀(fuel d:Nat),d<fuel→d<T.length→(B.getD d 0).testBit i=true→DK T i fuel d=true
 | 0,d,h,_,_=>by omega
 | fuel+1,d,h,hd,hb=>by
  have h1:=List.all_eq_true.1 hB d (List.mem_range.2 hd)
  cases hr:T[d]? with
  | none=>rw[hr] at h1;simp at h1
  | some r=>
   rw[hr] at h1;simp only[beq_iff_eq] at h1
   have h2:(upM B d r.1).testBit i=true:=by rw[← h1,Nat.testBit_or,hb,Bool.true_or]
   obtain⟨n,hn,h3⟩:=Ua h2;unfold DK;rw[hr];simp only;rw[List.any_eq_true];refine⟨n,hn,?_⟩
   rcases h3 with rfl|⟨h4,h5⟩
   ·simp
   ·rw[KQ hB fuel n (by omega) (by omega) h5,Bool.or_true]
def acG (T:List (List Nat × List Nat)) (B:List Nat) (l:List Bool) (ds:List Nat) (i:Nat):Bool:=ds.all fun d=>l.getD d true || (decide (d<T.length) && (B.getD d 0).testBit i)
def acH (T:Bool × List (List Nat × List Nat)) (B:List Nat) (ds:List Nat) (l l':List Bool) (i:Nat):Bool:=T.1 && Pj T.2 l i && uE T.2 l i && E9 T.2 l && acG T.2 B l ds i && (l.set i true == l')
theorem qM {B:List Nat} (hT:tJ md ops=T) (hB:vY T.2 B=true) (h:acH T B ds l.toList l'.toList i=true):takeB md ops ds l l' i=true:=by
 refine abH hT ?_;simp only[acH,Yf,Bool.and_eq_true] at h ⊢;obtain⟨⟨⟨⟨⟨h1,h2⟩,h3⟩,h4⟩,h5⟩,h6⟩:=h;refine⟨⟨⟨⟨⟨h1,h2⟩,h3⟩,h4⟩,?_⟩,h6⟩;unfold acG at h5;unfold lastT;rw[List.all_eq_true] at h5 ⊢;intro d hd;have h7:=h5 d hd;rw[Bool.or_eq_true,Bool.and_eq_true,decide_eq_true_eq] at h7
 rcases h7 with h7|⟨h8,h9⟩
 ·rw[h7,Bool.true_or]
 ·rw[KQ hB _ d h8 h8 h9,Bool.or_true]
theorem yQ {P:Program} {Q:Exit→Act→World→Prop} {S:World→Prop} {n:Nat} {a:Act} {w:World} {B:List Nat} (hT:tJ md ops=T) (hB:vY T.2 B=true) (h:ah (tJ md ops=T)→ah (vY T.2 B=true)→bP P md ops Q S ds n l a w):bP P md ops Q S ds n l a w:=h ⟨hT⟩ ⟨hB⟩
end
def zR:Code→Nat→Option (Array Oper)
 | .region id ops _,k=>if id == k then some ops else none
 | .seq a b,k=>match zR a k with
  | some o=>some o
  | none=>zR b k
 | .cond _ a b,k=>match zR a k with
  | some o=>some o
  | none=>zR b k
 | .block _ c,k=>zR c k
 | .loop c,k=>zR c k
 | .scope c,k=>zR c k
 | .rangeFunc _ _ a b,k=>match zR a k with
  | some o=>some o
  | none=>zR b k
 | _,_=>none
def opsOf (f:Func) (k:Nat):Array Oper:=((f.body.bind fun c=>zR c k)).getD #[]
end Go.Proofs.YtknihldkhedpkaaGreatDoorW.PrintLast
end
section
namespace Go.Proofs.YtknihldkhedpkaaGreatDoorW.PrintLast
section
variable {P : Program} {ops : Array Oper} {Q : Exit → Act → World → Prop} {md : Region.Mode} {S : World → Prop} {ds : List Nat} {T : Bool × List (List Nat × List Nat)}
end
end Go.Proofs.YtknihldkhedpkaaGreatDoorW.PrintLast
end
section
namespace Go.Proofs.YtknihldkhedpkaaGreatDoorW.PrintWords
open Go.RowKit
namespace Kd
section
variable {α : Type} {d : Kd α} {e base g o n cap : Nat} {ok vG : Nat → Prop} {w W : World} {v : Value} {xs : List α}
end
section
variable {α : Type} {enc : α → Value} {h1 : ∀ x, (enc x).oneCell' = true} {e base g o n cap : Nat} {ok : Nat → Prop} {W : World} {xs : List α}
end
def tag {α:Type} (f:Nat→Nat) (d:Kd α):Kd (α × Nat) where
 sz:=d.sz
 E:=d.E
 K:=fun w x cs=>d.K w x.1 cs
 M:=fun w base ok x cs=>d.M w base (fun k=>ok k∧f k=x.2) x.1 cs
 lW:=fun h=>d.lW h
 kX:=fun h=>d.kX h
 iN:=fun hb h=>d.iN hb h
 iw:=fun h=>d.iw h
 eX:=fun hok h=>d.eX (fun k hk=>⟨hok k hk.1,hk.2⟩) h
 gN:=fun h=>d.eX (fun _ hk=>⟨⟨hk.1.1,hk.2⟩,hk.1.2⟩) (d.gN h)
 je:=fun hm h=>d.je (fun k hk=>hm k hk.1) h
 iO:=fun hb h=>d.iO hb h
def bare {α:Type} (d:Kd α):Kd α where
 sz:=d.sz
 E:=d.E
 K:=d.K
 M:=fun w base _ x cs=>d.M w base (fun _=>False) x cs
 lW:=fun h=>d.lW h
 kX:=fun h=>d.kX h
 iN:=fun hb h=>d.iN hb h
 iw:=fun h=>d.iw h
 eX:=fun _ h=>h
 gN:=fun h=>h
 je:=fun _ h=>d.je (fun _ hk=>hk.elim) h
 iO:=fun hb h=>d.iO hb h
def raw (sz:Nat):Kd (List Value) where
 sz:=sz
 E:=[]
 K:=fun _ x cs=>cs=x∧cs.length=sz∧∀u∈cs,u.oneCell'=true
 M:=fun _ _ _ x cs=>cs=x∧cs.length=sz∧∀u∈cs,u.oneCell'=true
 lW:=fun h=>h.2.1
 kX:=fun h=>h.2.2
 iN:=fun _ h=>h
 iw:=fun h=>h
 eX:=fun _ h=>h
 gN:=fun h=>h
 je:=fun _ h=>h
 iO:=fun _ h=>h
def S {α:Type} (d:Kd α) (e:Nat) (w:World) (base:Nat) (ok:Nat→Prop) (v:Value) (xs:List α):Prop:=∃f,(tag f d).R e w base ok v xs.zipIdx
section
variable {α β : Type} {d : Kd α} {d' : Kd β} {e e' : Nat} {w w1 W : World} {base b : Nat} {ok ok' okv oku : Nat → Prop} {u v : Value} {xs : List α} {ys : List β}
theorem afb {xs:List α} {j:Nat} {p:α} (h:xs[j]?=some p):xs.zipIdx[j]?=some (p,j):=by rw[List.getElem?_zipIdx,h,Nat.zero_add];rfl
theorem I9 (h:S d e w base ok v xs):d.R e w base ok v xs:=by
 obtain⟨f,h0,inner,ho,hr⟩:=h;rw[List.length_zipIdx] at ho;exact⟨h0,inner,ho,by have:=hr.1;rw[List.length_zipIdx] at this;exact this,fun j p hj=>d.eX (fun _ hk=>hk.1) (hr.2 j (p,j) (afb hj))⟩
theorem afc {ad:Addr} {n cap:Nat} (h:d.R e w base ok (.slice (some ad) n cap) xs):∃g,ad=⟨g,0,none⟩:=by
 obtain⟨_,inner,ho,hr⟩:=h
 rcases ho.2 with⟨hv,_⟩|⟨g,cap',cur,hv,_⟩
 ·cases hv
 ·injection hv with ha _ _
  injection ha with ha
  exact⟨g,ha⟩
theorem afd {ad:Addr} {n cap:Nat} (h:d.R e W base ok (.slice (some ad) n cap) xs) (z:α) (i:Int) (h0:0≤i) (h1:i<n) :
  ∃c,c.length=d.sz∧d.M W base (fun k=>ok k∧some k≠(Value.slice (some ad) n cap).ownBlock) (xs.getD i.toNat z) c∧∀j u,c[j]?=some u→W.cell? (ad.add (i.toNat*d.sz+j))=some u:=by
 obtain⟨g,rfl⟩:=afc h;obtain⟨c,hcl,hM,hcc,_⟩:=QG h z i h0 h1;refine⟨c,hcl,d.eX (fun k hk=>⟨hk.1,fun he=>hk.2 (by simpa [Value.ownBlock] using he)⟩) hM,fun j u hu=>?_⟩;rw[ae7,Nat.zero_add];exact hcc j u hu
theorem Td (hE:d.E=[]) (h:d.R e w base ok v xs):d.R e w base (fun k=>some k=v.ownBlock) v xs:=by
 obtain⟨h0,inner,ho,hr⟩:=h;refine⟨fun k hk=>hk.symm,inner,ho,hr.rJ (fun p c hp=>d.eX (fun k hk=>?_) (d.gN hp))⟩;obtain⟨_,_,_,q,hq,_⟩:=hk;rw[hE] at hq;cases hq
theorem Gd (d:Kd α) (e:Nat) (w:World) (base:Nat) (ok:Nat→Prop):S d e w base ok (.slice none 0 0) []:=⟨fun _=>0,eY _ _ _ _ _⟩
theorem sS (h:S d e w base ok v xs) (hok:∀k,ok k→ok' k):S d e w base ok' v xs:=by
 obtain⟨f,h⟩:=h;exact⟨f,dU h hok⟩
theorem KT (h:S d e w base ok v xs):S d e w base (fun k=>ok k∧base≤k∧k<w.heap.size∧∃q,q∈e::d.E∧∃cells,w.heap[k]?=some (.cells cells q (0,0))) v xs:=by
 obtain⟨f,h⟩:=h;exact⟨f,gM h⟩
theorem VR (h:S d e w base ok v xs) (hm:∀k,ok k→w1.heap[k]?=w.heap[k]?):S d e w1 base ok v xs:=by
 obtain⟨f,h⟩:=h;exact⟨f,CQ h hm⟩
theorem BF {base':Nat} (h:S d e w base ok v xs) (hb:base'≤base):S d e w base' ok v xs:=by
 obtain⟨f,h⟩:=h;exact⟨f,fQ h hb⟩
theorem Rf (h:S d e w base ok v xs) (hm:∀k,ok k→k<w.heap.size→w1.heap[k]?=w.heap[k]?):S d e w1 base ok v xs :=
 sS (VR (KT h) (fun k hk=>hm k hk.1 hk.2.2.1)) (fun _ hk=>hk.1)
theorem nk (h:S d e w base ok v xs) (hb:Below w.heap.size w w1):S d e w1 base ok v xs:=Rf h (fun k _ hk=>hb.block k hk)
theorem mq (h:S d e w base ok v xs) (o:Obj):S d e (w.alloc o) base ok v xs:=nk h (aH (Below.refl _ _) o)
theorem qW (h:S d e w base ok v xs):S d e w.drew base ok v xs:=nk h (bA (Below.refl _ _))
theorem nY (h:S d e w base ok v xs) (m:Nat):S d e (w.drewN m) base ok v xs:=nk h (av (Below.refl _ _) m)
theorem ai1 (h:S d e w base ok v xs) {p:Addr} (hok:∀k,ok k→k≠p.block) (u:Value):S d e (w.setCell p u) base ok v xs:=Rf h (fun k ho _=>Below.heap_setCell w p u k (hok k ho))
theorem TA (h:S d e w base ok v xs) {g t:Nat} {cells:Array Value} (hb:w.heap[g]?=some (.cells cells t (0,0))) (ht:∀q,q∈e::d.E→q≠t):S d e w base (fun k=>ok k∧k≠g) v xs:=by
 obtain⟨f,h⟩:=h;exact⟨f,pz h hb ht⟩
theorem Xh (h:S d e w base ok v xs) {g t:Nat} {cells:Array Value} (hb:w.heap[g]?=some (.cells cells t (0,0))) (ht:∀q,q∈e::d.E→q≠t) (j:Nat) (u:Value):S d e (w.setCell ⟨g,j,none⟩ u) base ok v xs :=
 sS (ai1 (p:=⟨g,j,none⟩) (TA h hb ht) (fun _ hk=>hk.2) u) (fun _ hk=>hk.1)
theorem EK (h:S d e w base ok v xs):∀k,v.ownBlock=some k→∃cells,w.heap[k]?=some (.cells cells e (0,0)):=Ba (I9 h)
theorem ZP (h:S d e w base ok v xs):∀k,v.ownBlock=some k→k<w.heap.size:=Jp (I9 h)
theorem Xg (h:S d e w base ok v xs):∀k,v.ownBlock=some k→base≤k:=sV (I9 h)
theorem xW (h:S d e W base ok u xs) (hbase:∀k,v.ownBlock=some k→W.heap.size≤k) (hb:Below W.heap.size W w1):S d e w1 base (fun k=>ok k∧some k≠v.ownBlock) u xs:=by
 obtain⟨f,h⟩:=h;exact⟨f,Cb h hbase hb⟩
theorem L8 (h:S d e w1 W.heap.size ok v xs) (hlt:∀k,u.ownBlock=some k→k<W.heap.size):S d e w1 W.heap.size (fun k=>ok k∧some k≠u.ownBlock) v xs:=by
 obtain⟨f,h⟩:=h;exact⟨f,L6 h hlt⟩
theorem S9 (h:S d e W base ok u xs) (hb:Below W.heap.size W w1):S d e w1 base (fun k=>ok k∧k<W.heap.size) u xs :=
 sS (nk (KT h) hb) (fun _ hk=>⟨hk.1,hk.2.2.1⟩)
theorem afe (h:(bare d).R e w base ok v xs):S d e w base ok v xs:=by
 obtain⟨h0,inner,ho,hr⟩:=h;refine⟨fun _=>0,h0,inner,by rw[List.length_zipIdx];exact ho,by rw[List.length_zipIdx];exact hr.1,fun j p hj=>?_⟩;rw[List.getElem?_zipIdx,Nat.zero_add] at hj;obtain⟨x,hx,rfl⟩:=Option.map_eq_some_iff.1 hj;exact d.eX (fun _ hk=>hk.elim) (hr.2 j x hx)
theorem ai2 {f f':Nat→Nat} {zs:List (α × Nat)} (h:(tag f d).R e w base ok v zs) (hf:∀k,ok k→k<w.heap.size→f' k=f k):(tag f' d).R e w base ok v zs:=by
 obtain⟨h0,inner,ho,hr⟩:=gM h;exact⟨fun k hk=>(h0 k hk).1,inner,ho,hr.1,fun j p hj=>d.eX (fun k hk=>⟨⟨hk.1.1.1,hk.1.2⟩,(hf k hk.1.1.1 hk.1.1.2.2.1).trans hk.2⟩) (hr.2 j p hj)⟩
end
section
variable {α β : Type} {d : Kd α} {d' : Kd β} {e e' g : Nat} {w w1 W : World} {base b : Nat} {ok ok' okv oku : Nat → Prop} {u v : Value} {xs : List α} {ys : List β}
theorem lG (h:S d e w base ok v xs):∃A c,v=.slice A xs.length c:=bG (I9 h)
theorem fq {A:Option Addr} {n c:Nat} (h:S d e w base ok (.slice A n c) xs):n=xs.length∧n≤c∧d.C w A xs.length xs:=bT (I9 h)
theorem ahE {ad:Addr} {n cap:Nat} (h:S d e W base ok (.slice (some ad) n cap) xs) (z:α) (i:Int) (h0:0≤i) (h1:i<n) :
  ∃c,c.length=d.sz∧d.M W base (fun k=>ok k∧some k≠(Value.slice (some ad) n cap).ownBlock) (xs.getD i.toNat z) c∧∀j u,c[j]?=some u→W.cell? (ad.add (i.toNat*d.sz+j))=some u:=afd (I9 h) z i h0 h1
theorem WO {N:Nat} (h:S d e w1 base (fun k=>ok k∧k<N) u xs) (hbase:∀k,v.ownBlock=some k→N≤k):S d e w1 base (fun k=>(ok k∧some k≠v.ownBlock)∧k<N) u xs :=
 sS h (fun k hk=>⟨⟨hk.1,fun e=>Nat.lt_irrefl _ (Nat.lt_of_lt_of_le hk.2 (hbase k e.symm))⟩,hk.2⟩)
theorem Pn (xs:List α) (p:α):(xs++[p]).zipIdx=xs.zipIdx++[(p,xs.length)]:=by rw[List.zipIdx_append];simp
end
section
open Classical in
theorem acI {α:Type} {d:Kd α} {e base:Nat} {okv:Nat→Prop} {w:World} {v:Value} {xs:List α} (h:S d e w base okv v xs) (m:Nat) (vG:Nat→Prop) (hap:∀k,vG k→¬okv k):∃f,(∀k,vG k→f k=m)∧(tag f d).R e w base okv v xs.zipIdx:=by
 obtain⟨f,h⟩:=h;exact⟨fun k=>if vG k then m else f k,fun k hk=>if_pos hk,ai2 h (fun k hk _=>if_neg (fun h2=>hap k h2 hk))⟩
variable {P : Program} {ops : Array Oper} {rest : List Oper} {o : Oper} {a : Act} {Q : Exit → Act → World → Prop} {Kc : Act → World → Prop} {α : Type}
theorem WQ (d:Kd α) {w0 W:World} (base:Nat) (hgd:o.guard=none) (s x:Operand) (t e:TypeId) (z:Value) (bytes:Nat)
  (ho:o.op=.call { callee:=.builtin .append,args:=#[s,x],argTypes:=#[t,t] })
  (ht:P.underlying t=some (.slice e)) (hinfo:(P.info? e).map (fun i=>(i.zero,i.size,i.bytes))=some (some z,d.sz,bytes)) (hz:z.cells.size=d.sz) (hs0:0<d.sz) (hb0:0<bytes)
  (v:Value) (xs:List α) (p:α) (cs:List Value) (ok vG:Nat→Prop) (hs:a.eval s=v) (hx:a.eval x=.slice (some ⟨W.heap.size,0,none⟩) 1 1) (hp:d.M W base vG p cs) (DJ:∀k,vG k→ok k∧some k≠v.ownBlock) (hfresh:∀k,W.heap.size≤k→ok k)
  (HO:S d e W base (fun k=>ok k∧¬vG k) v xs) (HB:Below base w0 W) (hbase:base≤W.heap.size) (hl:(xs.length+1)*bytes≤140737488355328)
  (h:∀v1 w1,S d e w1 base ok v1 (xs++[p])→Below base w0 w1→W.grownBy w1 v.ownBlock→(v1.ownBlock=v.ownBlock∨∃b,v1.ownBlock=some b∧W.heap.size≤b)→wpList P ops Q rest (a.put o.dst v1) w1) :
  wpList P ops Q (o::rest) a (W.alloc (.cells cs.toArray e)):=by
 obtain⟨f,hf,hR⟩:=acI HO xs.length vG (fun _ hk h2=>h2.2 hk);refine mP (tag f d) base hgd s x t e z bytes ho ht hinfo hz hs0 hb0 v xs.zipIdx (p,xs.length) cs ok vG hs hx (d.eX (fun k hk=>⟨hk,hf k hk⟩) hp) DJ hfresh (dU hR (fun _ hk=>hk.1)) HB hbase (by rw[List.length_zipIdx];exact hl) ?_;intro v1 w1 hr;rw[← Pn] at hr;exact h v1 w1 ⟨f,hr⟩
theorem uO (d:Kd α) {w0 W:World} (base:Nat) (hw:Region.wanted o (yielded ops a.tmps)=true) (s x:Operand) (t e:TypeId) (z:Value) (bytes:Nat)
  (ho:o.op=.call { callee:=.builtin .append,args:=#[s,x],argTypes:=#[t,t] })
  (ht:P.underlying t=some (.slice e)) (hinfo:(P.info? e).map (fun i=>(i.zero,i.size,i.bytes))=some (some z,d.sz,bytes)) (hz:z.cells.size=d.sz) (hs0:0<d.sz) (hb0:0<bytes)
  (v:Value) (xs:List α) (p:α) (cs:List Value) (ok vG:Nat→Prop) (hs:a.eval s=v) (hx:a.eval x=.slice (some ⟨W.heap.size,0,none⟩) 1 1) (hp:d.M W base vG p cs) (DJ:∀k,vG k→ok k∧some k≠v.ownBlock) (hfresh:∀k,W.heap.size≤k→ok k)
  (HO:S d e W base (fun k=>ok k∧¬vG k) v xs) (HB:Below base w0 W) (hbase:base≤W.heap.size) (hl:(xs.length+1)*bytes≤140737488355328)
  (h:∀v1 w1,S d e w1 base ok v1 (xs++[p])→Below base w0 w1→W.grownBy w1 v.ownBlock→(v1.ownBlock=v.ownBlock∨∃b,v1.ownBlock=some b∧W.heap.size≤b)→Kc (a.put o.dst v1) w1) :
  if Region.wanted o (yielded ops a.tmps)=true then Oper.wp P o a (W.alloc (.cells cs.toArray e)) Kc Q else Kc (a.put o.dst undef) (W.alloc (.cells cs.toArray e)):=by
 obtain⟨f,hf,hR⟩:=acI HO xs.length vG (fun _ hk h2=>h2.2 hk);refine kD (tag f d) base hw s x t e z bytes ho ht hinfo hz hs0 hb0 v xs.zipIdx (p,xs.length) cs ok vG hs hx (d.eX (fun k hk=>⟨hk,hf k hk⟩) hp) DJ hfresh (dU hR (fun _ hk=>hk.1)) HB hbase (by rw[List.length_zipIdx];exact hl) ?_;intro v1 w1 hr;rw[← Pn] at hr;exact h v1 w1 ⟨f,hr⟩
theorem ahD (d:Kd α) {w0 W:World} (base e:Nat) (hgd:o.guard=none) {N:Tmp} (_hd:o.dst=some N) {xs:List α} {inner:List Value} {ok vG:Nat→Prop}
  (hrun:(execOp a.eval o).run P W=.ok (.value (.slice (some ⟨W.heap.size,0,none⟩) xs.length xs.length)) (W.alloc (.cells inner.toArray e)))
  (hrep:dO (d.M W base (fun _=>False)) d.sz xs inner) (atX:∀k,vG k→ok k) (hfresh:ok W.heap.size) (HB:Below base w0 W) (hbase:base≤W.heap.size) (hm:xs.length≤9223372036854775807)
  (h:∀v1 w1,S d e w1 base ok v1 xs→Below base w0 w1→W.grownBy w1 none→(∃b,v1.ownBlock=some b∧W.heap.size≤b)→wpList P ops Q rest (a.put o.dst v1) w1):wpList P ops Q (o::rest) a W :=
 ach (bare d) base e hgd _hd (ok:=ok) (vG:=ok) hrun hrep (fun _ hk=>hk) hfresh HB hbase hm (fun v1 w1 hr=>h v1 w1 (afe hr))
end
def gap {α:Type} (f:Nat→Nat) (d:Kd α) (i:Nat) (c:List Value):Kd (α × Nat) where
 sz:=d.sz
 E:=d.E
 K:=fun w x cs=>(x.2=i→cs=c∧cs.length=d.sz∧∀u∈cs,u.oneCell'=true)∧(x.2≠i→d.K w x.1 cs)
 M:=fun w base ok x cs=>(x.2=i→cs=c∧cs.length=d.sz∧∀u∈cs,u.oneCell'=true)∧(x.2≠i→d.M w base (fun k=>ok k∧f k=x.2) x.1 cs)
 lW:=fun {w x cs} h=>by
  by_cases hx:x.2=i
  ·exact (h.1 hx).2.1
  ·exact d.lW (h.2 hx)
 kX:=fun {w x cs} h=>by
  by_cases hx:x.2=i
  ·exact (h.1 hx).2.2
  ·exact d.kX (h.2 hx)
 iN:=fun hb h=>⟨h.1,fun hx=>d.iN hb (h.2 hx)⟩
 iw:=fun h=>⟨h.1,fun hx=>d.iw (h.2 hx)⟩
 eX:=fun hok h=>⟨h.1,fun hx=>d.eX (fun k hk=>⟨hok k hk.1,hk.2⟩) (h.2 hx)⟩
 gN:=fun h=>⟨h.1,fun hx=>d.eX (fun _ hk=>⟨⟨hk.1.1,hk.2⟩,hk.1.2⟩) (d.gN (h.2 hx))⟩
 je:=fun hm h=>⟨h.1,fun hx=>d.je (fun k hk=>hm k hk.1) (h.2 hx)⟩
 iO:=fun hb h=>⟨h.1,fun hx=>d.iO hb (h.2 hx)⟩
def H {α:Type} (d:Kd α) (e:Nat) (w:World) (base:Nat) (ok:Nat→Prop) (v:Value) (xs:List α) (i:Int) (oki:Nat→Prop) (c:List Value):Prop :=
 (∀k,oki k→ok k)∧∃f,(gap f d i.toNat c).R e w base (fun k=>ok k∧¬oki k) v xs.zipIdx
section
variable {α β : Type} {d : Kd α} {e e' g n cap : Nat} {w w1 W : World} {base : Nat} {ok ok' oki vG : Nat → Prop} {u v : Value} {xs : List α} {i : Int} {c : List Value}
end
section
variable {P : Program} {ops : Array Oper} {rest : List Oper} {o : Oper} {a : Act} {Q : Exit → Act → World → Prop} {α : Type}
end
theorem Yg {α:Type} {R:α→List Value→Prop} {size:Nat} {ps:List α} {cs:List Value} (h:dO R size ps cs) (hs0:0<size) (hR:∀p c,R p c→∀u∈c,u.oneCell'=true):∀u∈cs,u.oneCell'=true:=by
 intro u hu;obtain⟨q,hq,rfl⟩:=List.mem_iff_getElem.1 hu
 have hql:q / size<ps.length:=by
  rw[Nat.div_lt_iff_lt_mul hs0,← h.1];exact hq
 refine hR _ _ (h.2 (q / size) _ (List.getElem?_eq_getElem hql)) _ ?_;rw[List.mem_iff_getElem?];refine⟨q % size,?_⟩;rw[List.getElem?_take,if_pos (Nat.mod_lt _ hs0),List.getElem?_drop,Nat.mul_comm,Nat.div_add_mod,List.getElem?_eq_getElem hq]
def arr {α:Type} (n:Nat) (d:Kd α) (hs:0<d.sz):Kd (List α) where
 sz:=n*d.sz
 E:=d.E
 K:=fun w xs cs=>xs.length=n∧dO (d.K w) d.sz xs cs
 M:=fun w base ok xs cs=>xs.length=n∧dO (d.M w base ok) d.sz xs cs
 lW:=fun h=>by rw[← h.1];exact h.2.1
 kX:=fun h=>Yg h.2 hs (fun _ _ hk=>d.kX hk)
 iN:=fun hb h=>⟨h.1,h.2.rJ (fun _ _ hk=>d.iN hb hk)⟩
 iw:=fun h=>⟨h.1,h.2.rJ (fun _ _ hk=>d.iw hk)⟩
 eX:=fun hok h=>⟨h.1,h.2.rJ (fun _ _ hk=>d.eX hok hk)⟩
 gN:=fun h=>⟨h.1,h.2.rJ (fun _ _ hk=>d.gN hk)⟩
 je:=fun hm h=>⟨h.1,h.2.rJ (fun _ _ hk=>d.je hm hk)⟩
 iO:=fun hb h=>⟨h.1,h.2.rJ (fun _ _ hk=>d.iO hb hk)⟩
section
variable {α : Type} {n : Nat} {d : Kd α} {hs : 0 < d.sz} {w : World} {base : Nat} {ok : Nat → Prop} {xs : List α} {cs : List Value}
end
section
variable {α : Type} {n : Nat} {enc : α → Value} {h1 : ∀ x, (enc x).oneCell' = true} {hs : 0 < (scalar enc h1).sz} {w : World} {base : Nat} {ok : Nat → Prop} {xs : List α} {cs : List Value}
end
end Kd
end Go.Proofs.YtknihldkhedpkaaGreatDoorW.PrintWords
end
section
namespace Go.Proofs.YtknihldkhedpkaaGreatDoorW.PrintWords
open Go.RowKit
section
variable {P : Program}
end
namespace Kd
section
variable {P : Program} {ops : Array Oper} {rest : List Oper} {o : Oper} {a : Act} {Q : Exit → Act → World → Prop} {Kc : Act → World → Prop} {α : Type}
end
section
variable {α : Type} {d : Kd α} {e : Nat} {w : World} {base : Nat} {ok : Nat → Prop} {v : Value} {xs : List α}
end
section
variable {P : Program} {ops : Array Oper} {rest : List Oper} {o : Oper} {a : Act} {Q : Exit → Act → World → Prop} {Kc : Act → World → Prop} {α : Type}
end
end Kd
end Go.Proofs.YtknihldkhedpkaaGreatDoorW.PrintWords
end
section
namespace Go.Proofs.YtknihldkhedpkaaGreatDoorW.PrintWords
open Go.RowKit
namespace Kd
structure Heap {α:Type} (d:Kd α):Prop where
 K:∀{w w1:World} {x:α} {cs:List Value},(∀k,k<w.heap.size→w1.heap[k]?=w.heap[k]?)→d.K w x cs→d.K w1 x cs
theorem Vs {w w1:World} (hb:∀k,k<w.heap.size→w1.heap[k]?=w.heap[k]?) {a:Addr} {v:Value} (h:w.cell? a=some v):w1.cell? a=some v:=by
 have:=hb a.block (World.block_lt_of_cell? w a h)
 simpa [World.cell?,this] using h
theorem Heap.C {α:Type} {d:Kd α} (hd:Heap d) {w w1:World} {A:Option Addr} {n:Nat} {xs:List α} (hb:∀k,k<w.heap.size→w1.heap[k]?=w.heap[k]?) (h:d.C w A n xs):d.C w1 A n xs :=
 ⟨h.1,h.2.1,fun hn=>by
  obtain⟨ad,e,hc⟩:=h.2.2 hn;refine⟨ad,e,fun j p hj=>?_⟩;obtain⟨c,hs,hr,hcell⟩:=hc j p hj
  exact⟨c,hs,hd.K hb hr,fun i u hu=>Vs hb (hcell i u hu)⟩⟩
section
variable {α : Type} {d : Kd α} {e base g n c : Nat} {ok : Nat → Prop} {w w0 W : World} {A : Option Addr} {xs : List α}
end
end Kd
end Go.Proofs.YtknihldkhedpkaaGreatDoorW.PrintWords
end
section
namespace Go.Proofs.YtknihldkhedpkaaGreatDoorW.PrintWords
open Go.RowKit
def Kept (w W:World) (S:Nat→Prop):Prop:=w.heap.size≤W.heap.size∧∀i,i<w.heap.size→¬S i→W.heap[i]?=w.heap[i]?
section
variable {w W W2 : World} {S S2 S' : Nat → Prop}
theorem Kept.refl (w:World) (S:Nat→Prop):Kept w w S:=⟨Nat.le_refl _,fun _ _ _=>rfl⟩
theorem Kept.of_below (h:Below w.heap.size w W) (S:Nat→Prop):Kept w W S:=⟨h.size,fun i hi _=>h.block i hi⟩
theorem Kept.mono (h:Kept w W S) (hs:∀k,S k→S' k):Kept w W S':=⟨h.1,fun i hi hn=>h.2 i hi (fun hk=>hn (hs i hk))⟩
theorem Kept.then_ (h:Kept w W S) (k:Kept W W2 S2) (hs:∀k,S2 k→S k∨w.heap.size≤k):Kept w W2 S :=
 ⟨Nat.le_trans h.1 k.1,fun i hi hn=>(k.2 i (Nat.lt_of_lt_of_le hi h.1) (fun h2=>(hs i h2).elim hn (fun h3=>by omega))).trans (h.2 i hi hn)⟩
theorem Kept.BG {row:Option Nat} (hg:W.grownBy W2 row) (h:Kept w W S) (hr:∀k,row=some k→S k∨w.heap.size≤k):Kept w W2 S :=
 h.then_ (S2:=fun k=>row=some k) ⟨hg.size,fun i hi hn=>hg.block i hi (fun he=>hn he.symm)⟩ hr
theorem Kept.below (h:Kept w W S) (hb:Below W.heap.size W W2):Kept w W2 S:=h.then_ (Kept.of_below hb (fun _=>False)) (fun _ hk=>hk.elim)
theorem Kept.alloc (h:Kept w W S) (o:Obj):Kept w (W.alloc o) S:=h.below (aH (Below.refl _ _) o)
theorem Kept.drew (h:Kept w W S):Kept w W.drew S:=h
theorem Kept.drewN (h:Kept w W S) (m:Nat):Kept w (W.drewN m) S:=h
theorem Kept.setCell (h:Kept w W S) {p:Addr} (hp:S p.block∨w.heap.size≤p.block) (u:Value):Kept w (W.setCell p u) S :=
 h.then_ (S2:=fun k=>k=p.block) ⟨by simp[World.setCell],fun i _ hn=>Below.heap_setCell W p u i hn⟩ (fun k hk=>by rw[hk];exact hp)
theorem Kept.keep {g:Nat} (h:jl w W g none) (k:Kept W W2 S2) (hs:∀k,S2 k→w.heap.size≤k):jl w W2 g none :=
 ⟨Nat.le_trans h.1 k.1,fun i hi hg hr=>(k.2 i (Nat.lt_of_lt_of_le hi h.1) (fun h2=>by have:=hs i h2;omega)).trans (h.2 i hi hg hr)⟩
end
namespace Kd
section
variable {α : Type} {d : Kd α} {e base n c : Nat} {ok oki S S2 : Nat → Prop} {w w0 W W1 W2 : World} {v : Value} {A : Option Addr} {xs : List α} {i : Int} {cs : List Value}
end
end Kd
def AO (P:World→Prop) (W:World) (ok:Nat→Prop):Prop:=∀W':World,(∀k,ok k→k<W.heap.size→W'.heap[k]?=W.heap[k]?)→P W'
theorem abI {W W1:World} {k:Nat} (h:W1.heap[k]?=W.heap[k]?) (hlt:k<W.heap.size):k<W1.heap.size:=by
 rw[Array.getElem?_eq_getElem hlt] at h;exact (Array.getElem?_eq_some_iff.1 h).1
namespace AO
variable {P Q : World → Prop} {W W1 : World} {ok ok' : Nat → Prop}
theorem now (h:AO P W ok):P W:=h W (fun _ _ _=>rfl)
theorem mono (h:AO P W ok) (hok:∀k,ok k→ok' k):AO P W ok':=fun W' hW=>h W' (fun k hk hlt=>hW k (hok k hk) hlt)
theorem bound (h:AO P W ok):AO P W (fun k=>ok k∧k<W.heap.size):=fun W' hW=>h W' (fun k hk hlt=>hW k ⟨hk,hlt⟩ hlt)
theorem step (h:AO P W ok) (hm:∀k,ok k→k<W.heap.size→W1.heap[k]?=W.heap[k]?):AO P W1 ok:=fun W' hW=>h W' (fun k hk hlt=>(hW k hk (abI (hm k hk hlt) hlt)).trans (hm k hk hlt))
theorem imp (h:AO P W ok) (hi:∀W',P W'→Q W'):AO Q W ok:=fun W' hW=>hi W' (h W' hW)
theorem old (h:AO P W ok) (hb:Below W.heap.size W W1):AO P W1 (fun k=>ok k∧k<W.heap.size):=(h.bound).step (fun k _ hlt=>hb.block k hlt)
end AO
namespace Kd
def F {α:Type} (d:Kd α) (W:World) (ok:Nat→Prop) (A:Option Addr) (n:Nat) (xs:List α):Prop:=AO (fun W=>d.C W A n xs) W ok
def FK {α:Type} (d:Kd α) (W:World) (ok:Nat→Prop) (x:α) (c:List Value):Prop:=AO (fun W=>d.K W x c) W ok
section
variable {α β : Type} {d : Kd α} {e base n n' cc g N : Nat} {ok ok' vG S : Nat → Prop} {w w0 w1 W W1 : World} {A A' : Option Addr} {u v v1 : Value} {xs : List α} {xs' : List β} {d' : Kd β} {x : α} {c : List Value}
theorem ai4 (d:Kd α) (W:World) (ok:Nat→Prop):F d W ok none ([]:List α).length []:=fun W' _=>OL d W'
theorem abJ (h:d.M W base ok x c):FK d W ok x c:=fun _ hW=>d.iw (Yd h hW)
end
end Kd
end Go.Proofs.YtknihldkhedpkaaGreatDoorW.PrintWords
end
section
namespace Go.Proofs.YtknihldkhedpkaaGreatDoorW.PrintWords
open Go.RowKit
namespace Kd
def chunks (sz:Nat) (n:Nat) (inner:List Value):List (List Value):=(List.range n).map fun j=>(inner.drop (j*sz)).take sz
theorem nW (sz n:Nat) (inner:List Value):(chunks sz n inner).length=n:=by simp[chunks]
theorem Vt {sz n:Nat} {inner:List Value} {j:Nat} (hj:j<n):(chunks sz n inner)[j]?=some ((inner.drop (j*sz)).take sz):=by simp[chunks,hj]
theorem IV {sz n:Nat} {inner:List Value} {j:Nat} {c:List Value} (h:(chunks sz n inner)[j]?=some c):c=(inner.drop (j*sz)).take sz:=by
 have hj:j<n:=by have:=(List.getElem?_eq_some_iff.1 h).1;rwa [nW] at this
 rw[Vt hj] at h
 injection h with h
 exact h.symm
theorem Yh {α:Type} {Rr:α→List Value→Prop} {sz:Nat} {xs:List α} {inner:List Value} (h:dO Rr sz xs inner) (hR:∀x c,Rr x c→c.length=sz∧∀u∈c,u.oneCell'=true):dO (fun x cs=>cs=x∧cs.length=sz∧∀u∈cs,u.oneCell'=true) sz (chunks sz xs.length inner) inner:=by
 refine⟨by rw[nW];exact h.1,fun j p hj=>?_⟩
 have hjl:j<xs.length:=by have:=(List.getElem?_eq_some_iff.1 hj).1;rwa [nW] at this
 have hp:=IV hj;exact⟨hp.symm,hR _ _ (h.2 j _ (List.getElem?_eq_getElem hjl))⟩
section
variable {α : Type} {d : Kd α} {e base n cc g : Nat} {ok ok' vG S : Nat → Prop} {w w1 W W1 : World} {A : Option Addr} {u v v1 : Value} {xs : List α} {x : α} {c : List Value}
def N {α:Type} (d:Kd α) (e:Nat) (w:World) (base:Nat) (ok:Nat→Prop) (v:Value) (xs:List α):Prop :=
 (∀k,v.ownBlock=some k→ok k)∧∃rows:List (List Value),rows.length=xs.length∧(raw d.sz).R e w base (fun k=>some k=v.ownBlock) v rows∧∀(j:Nat) (x:α) (c:List Value),xs[j]?=some x→rows[j]?=some c→FK d w (fun k=>ok k∧some k≠v.ownBlock) x c
theorem R_N (h:d.R e w base ok v xs):N d e w base ok v xs:=by
 obtain⟨h0,inner,ho,hr⟩:=h;refine⟨h0,chunks d.sz xs.length inner,nW _ _ _,⟨fun k hk=>hk.symm,inner,by rw[nW];exact ho,Yh hr (fun x c hp=>⟨d.lW (d.iw hp),d.kX (d.iw hp)⟩)⟩,fun j x c hx hc=>?_⟩;rw[IV hc];exact abJ (hr.2 j x hx)
theorem Ob (d:Kd α) (e:Nat) (w:World) (base:Nat) (ok:Nat→Prop):N d e w base ok (.slice none 0 0) []:=R_N (eY _ _ _ _ _)
end
section
variable {α : Type} {d : Kd α} {W : World} {g n : Nat} {S ok : Nat → Prop} {A : Option Addr} {ad : Addr} {xs : List α}
end
end Kd
end Go.Proofs.YtknihldkhedpkaaGreatDoorW.PrintWords
end
section
namespace Go.Proofs.YtknihldkhedpkaaGreatDoorW.PrintWords
open Go.RowKit
section
variable {w w' u : World} {m B g : Nat} {o : Obj} {row : Option Nat} {S : Nat → Prop} {a : Addr} {v : Value}
end
namespace Kd
section
variable {α : Type} {d : Kd α} {e base n m : Nat} {ok : Nat → Prop} {w w' : World} {v : Value} {A : Option Addr} {xs : List α}
end
end Kd
section
variable {P : Program} {d : Nat} {xs ys : Array Value} {f : Field} {fs : List Field} {a b : Value} {r s : Bool} {w : World}
end
end Go.Proofs.YtknihldkhedpkaaGreatDoorW.PrintWords
end
section
namespace Go.Proofs.YtknihldkhedpkaaGreatDoorW.PrintWords
theorem dO.one {α:Type} {R:α→List Value→Prop} {ps:List α} {cs:List Value} {p:α} {v:Value} (hp:R p [v]) (h:dO R 1 ps cs):dO R 1 (p::ps) (v::cs):=by
 refine⟨by simp[h.1],fun j q hq=>?_⟩
 cases j with
 | zero=>
  simp only[List.getElem?_cons_zero,Option.some.injEq] at hq;subst hq
  simpa using hp
 | succ j=>
  simp only[List.getElem?_cons_succ] at hq;have h1:=h.2 j q hq
  simpa [Nat.mul_one] using h1
theorem dO.front {α:Type} {R:α→List Value→Prop} {size:Nat} {ps:List α} {cs c all:List Value} {p:α} (hp:R p c) (hc:c.length=size) (h:dO R size ps cs) (ha:c++cs=all):dO R size (p::ps) all:=by
 subst ha;refine⟨by rw[List.length_append,hc,h.1,List.length_cons,Nat.succ_mul,Nat.add_comm],fun j q hq=>?_⟩
 cases j with
 | zero=>
  simp only[List.getElem?_cons_zero,Option.some.injEq] at hq;subst hq;rw[Nat.zero_mul,List.drop_zero,List.take_append_of_le_length (by omega),List.take_of_length_le (by omega)];exact hp
 | succ j=>
  simp only[List.getElem?_cons_succ] at hq;have h1:=h.2 j q hq;rw[Nat.succ_mul,List.drop_append,List.drop_of_length_le (by rw[hc];exact Nat.le_add_left _ _),List.nil_append,hc,Nat.add_sub_cancel];exact h1
theorem dO.c2 {α:Type} {R:α→List Value→Prop} {ps:List α} {cs:List Value} {p:α} {va vb:Value} (hp:R p [va,vb]) (h:dO R 2 ps cs):dO R 2 (p::ps) (va::vb::cs):=dO.front hp rfl h rfl
theorem dO.c3 {α:Type} {R:α→List Value→Prop} {ps:List α} {cs:List Value} {p:α} {va vb vc:Value} (hp:R p [va,vb,vc]) (h:dO R 3 ps cs):dO R 3 (p::ps) (va::vb::vc::cs):=dO.front hp rfl h rfl
theorem dO.c4 {α:Type} {R:α→List Value→Prop} {ps:List α} {cs:List Value} {p:α} {va vb vc vd:Value} (hp:R p [va,vb,vc,vd]) (h:dO R 4 ps cs):dO R 4 (p::ps) (va::vb::vc::vd::cs):=dO.front hp rfl h rfl
theorem dO.c5 {α:Type} {R:α→List Value→Prop} {ps:List α} {cs:List Value} {p:α} {va vb vc vd ve:Value} (hp:R p [va,vb,vc,vd,ve]) (h:dO R 5 ps cs):dO R 5 (p::ps) (va::vb::vc::vd::ve::cs):=dO.front hp rfl h rfl
theorem dO.c6 {α:Type} {R:α→List Value→Prop} {ps:List α} {cs:List Value} {p:α} {va vb vc vd ve vf:Value} (hp:R p [va,vb,vc,vd,ve,vf]) (h:dO R 6 ps cs):dO R 6 (p::ps) (va::vb::vc::vd::ve::vf::cs):=dO.front hp rfl h rfl
theorem dO.c7 {α:Type} {R:α→List Value→Prop} {ps:List α} {cs:List Value} {p:α} {va vb vc vd ve vf vg:Value} (hp:R p [va,vb,vc,vd,ve,vf,vg]) (h:dO R 7 ps cs):dO R 7 (p::ps) (va::vb::vc::vd::ve::vf::vg::cs):=dO.front hp rfl h rfl
theorem dO.c8 {α:Type} {R:α→List Value→Prop} {ps:List α} {cs:List Value} {p:α} {va vb vc vd ve vf vg vh:Value} (hp:R p [va,vb,vc,vd,ve,vf,vg,vh]) (h:dO R 8 ps cs):dO R 8 (p::ps) (va::vb::vc::vd::ve::vf::vg::vh::cs):=dO.front hp rfl h rfl
theorem dO.c9 {α:Type} {R:α→List Value→Prop} {ps:List α} {cs:List Value} {p:α} {va vb vc vd ve vf vg vh vi:Value} (hp:R p [va,vb,vc,vd,ve,vf,vg,vh,vi]) (h:dO R 9 ps cs):dO R 9 (p::ps) (va::vb::vc::vd::ve::vf::vg::vh::vi::cs):=dO.front hp rfl h rfl
theorem dO.c10 {α:Type} {R:α→List Value→Prop} {ps:List α} {cs:List Value} {p:α} {va vb vc vd ve vf vg vh vi vj:Value} (hp:R p [va,vb,vc,vd,ve,vf,vg,vh,vi,vj]) (h:dO R 10 ps cs):dO R 10 (p::ps) (va::vb::vc::vd::ve::vf::vg::vh::vi::vj::cs):=dO.front hp rfl h rfl
end Go.Proofs.YtknihldkhedpkaaGreatDoorW.PrintWords
end
section
namespace Go.Proofs.YtknihldkhedpkaaGreatDoorW.PrintLast
def up (b:Nat→Bool) (i:Nat):Nat→Bool:=fun j=>if j=i then true else b j
section
variable {P : Program} {ops : Array Oper} {Q : Exit → Act → World → Prop} {md : Region.Mode} {T : Bool × List (List Nat × List Nat)} {B : List Nat} {O : List Nat} {b : Nat → Bool} {i j n : Nat}
end
end Go.Proofs.YtknihldkhedpkaaGreatDoorW.PrintLast
end
section
namespace Go.Proofs.YtknihldkhedpkaaGreatDoorW.PrintWords
open Go.RowKit
end Go.Proofs.YtknihldkhedpkaaGreatDoorW.PrintWords
namespace Go.Proofs.YtknihldkhedpkaaGreatDoorW.PrintLast
section
variable {ops : Array Oper} {a : Act} {o og : Oper} {g : Nat} {t : Tmp} {u : Bool}
end
end Go.Proofs.YtknihldkhedpkaaGreatDoorW.PrintLast
end
section
namespace Go.Proofs.YtknihldkhedpkaaGreatDoorW.PrintWords
open Go.RowKit
section
variable {P : Program} {ops : Array Oper} {rest : List Oper} {o : Oper} {a : Act} {Q : Exit → Act → World → Prop} {W : World}
theorem GN (hw:Region.wanted o (yielded ops a.tmps)=true) (h:wpList P ops Q ({ o with guard:=none }::rest) a W):wpList P ops Q (o::rest) a W:=by
 have h1:Region.wanted { o with guard:=none } (yielded ops a.tmps)=true:=rfl;unfold wpList at h ⊢;rw[if_pos h1] at h;rw[if_pos hw];exact h
end
end Go.Proofs.YtknihldkhedpkaaGreatDoorW.PrintWords
end
section
namespace Go.Proofs.YtknihldkhedpkaaGreatDoorW.PrintWords
open Go.RowKit
namespace Kd
section
variable {α : Type} {d : Kd α} {e base n cap g : Nat} {ok ok' vG : Nat → Prop} {w w1 W : World} {v v1 : Value} {xs ys : List α}
end
section
variable {P : Program} {ops : Array Oper} {rest : List Oper} {o : Oper} {a : Act} {Q : Exit → Act → World → Prop} {Kc : Act → World → Prop} {α : Type}
end
end Kd
end Go.Proofs.YtknihldkhedpkaaGreatDoorW.PrintWords
end
section
namespace Go.Proofs.YtknihldkhedpkaaGreatDoorW.PrintMore
open Go.RowKit Go.Proofs.YtknihldkhedpkaaGreatDoorW.PrintWords
namespace Kd
open Go.Proofs.YtknihldkhedpkaaGreatDoorW.PrintWords.Kd
end Kd
namespace Kd
open Go.Proofs.YtknihldkhedpkaaGreatDoorW.PrintWords.Kd
section
variable {α : Type} {d : Kd α} {e base g N : Nat} {ok : Nat → Prop} {W w1 : World} {u v : Value} {xs : List α}
end
end Kd
theorem oJ (k k':IntKind) (x y:Int):Builtin.max2 (.int k x) (.int k' y)=pure (.int k (if x<y then y else x)):=by simp only[Builtin.max2,gt_iff_lt]
theorem oK (k k':IntKind) (x y:Int):Builtin.min2 (.int k x) (.int k' y)=pure (.int k (if y<x then y else x)):=by simp only[Builtin.min2]
theorem rC (ats:Array TypeId) (ty:TypeId) (a b:Value):Builtin.max_ ats ty #[a,b]=(Builtin.max2 a b >>= fun s=>pure s):=by simp only[Builtin.max_,List.foldlM_cons,List.foldlM_nil]
theorem rD (ats:Array TypeId) (ty:TypeId) (a b:Value):Builtin.min_ ats ty #[a,b]=(Builtin.min2 a b >>= fun s=>pure s):=by simp only[Builtin.min_,List.foldlM_cons,List.foldlM_nil]
theorem mW (ats:Array TypeId) (ty:TypeId) (a b c:Value):Builtin.max_ ats ty #[a,b,c]=(Builtin.max2 a b >>= fun s=>Builtin.max2 s c >>= fun s=>pure s):=by simp only[Builtin.max_,List.foldlM_cons,List.foldlM_nil]
theorem mX (ats:Array TypeId) (ty:TypeId) (a b c:Value):Builtin.min_ ats ty #[a,b,c]=(Builtin.min2 a b >>= fun s=>Builtin.min2 s c >>= fun s=>pure s):=by simp only[Builtin.min_,List.foldlM_cons,List.foldlM_nil]
theorem oL (ats:Array TypeId) (ty:TypeId) (a b c d:Value):Builtin.max_ ats ty #[a,b,c,d]=(Builtin.max2 a b >>= fun s=>Builtin.max2 s c >>= fun s=>Builtin.max2 s d >>= fun s=>pure s):=by simp only[Builtin.max_,List.foldlM_cons,List.foldlM_nil]
theorem oM (ats:Array TypeId) (ty:TypeId) (a b c d:Value):Builtin.min_ ats ty #[a,b,c,d]=(Builtin.min2 a b >>= fun s=>Builtin.min2 s c >>= fun s=>Builtin.min2 s d >>= fun s=>pure s):=by simp only[Builtin.min_,List.foldlM_cons,List.foldlM_nil]
end Go.Proofs.YtknihldkhedpkaaGreatDoorW.PrintMore
namespace Go.Proofs.YtknihldkhedpkaaGreatDoorW.PrintWords
open Go.RowKit
section
variable {P : Program} {ops : Array Oper} {rest : List Oper} {o : Oper} {a : Act} {Q : Exit → Act → World → Prop} {W : World}
theorem gu {f:FuncId} {as:Array Operand} {ts:Array TypeId} (_ho:o.op=.call { callee:=.value (.func f),args:=as,argTypes:=ts }) (h:wpList P ops Q (o::rest) a W):wpList P ops Q (o::rest) a W:=h
theorem dx {b:Builtin} {xs:Array Operand} {ts:Array TypeId} (_ho:o.op=.call { callee:=.builtin b,args:=xs,argTypes:=ts }) (h:wpList P ops Q (o::rest) a W):wpList P ops Q (o::rest) a W:=h
end
namespace Kd
section
variable {α : Type} {d : Kd α} {e base : Nat} {ok : Nat → Prop} {W w1 : World} {v : Value} {xs : List α}
end
section
variable {α : Type} {d : Kd α} {e base g n cap : Nat} {ok oki vG : Nat → Prop} {W : World} {xs : List α} {i : Int} {c : List Value}
end
section
variable {α : Type} {d : Kd α} {e base b b' g N : Nat} {ok ok1 : Nat → Prop} {W W2 w1 : World} {u v : Value} {xs ys : List α} {S : Nat → Prop}
end
end Kd
end Go.Proofs.YtknihldkhedpkaaGreatDoorW.PrintWords
namespace Go.Proofs.YtknihldkhedpkaaGreatDoorW.PrintWords
open Go.RowKit
namespace Kd
def V {α:Type} (d:Kd α) (_e:Nat) (W:World) (_base:Nat) (ok:Nat→Prop) (v:Value) (xs:List α):Prop:=∃A c,v=.slice A xs.length c∧xs.length≤c∧F d W ok A xs.length xs
section
variable {α β : Type} {d : Kd α} {e base base' n m c g N' lo hi : Nat} {ok ok' S : Nat → Prop} {w W w1 : World} {A : Option Addr} {ad : Addr} {u v v1 : Value} {xs : List α}
theorem Oc (d:Kd α) (e:Nat) (W:World) (base:Nat) (ok:Nat→Prop):V d e W base ok (.slice none 0 0) []:=⟨none,0,rfl,Nat.le_refl _,ai4 d W ok⟩
theorem XW {k:IntKind} {l:List Int} (h:(Kd.int k).C w (some ad) n l) (i:Int) (h0:0≤i) (h1:i<n):w.cell? (ad.add i.toNat)=some (.int k (rd l i)):=by
 obtain⟨YE,he,hc⟩:=qx h i h0 h1
 injection he with he
 subst he;exact hc
end
end Kd
end Go.Proofs.YtknihldkhedpkaaGreatDoorW.PrintWords
end
