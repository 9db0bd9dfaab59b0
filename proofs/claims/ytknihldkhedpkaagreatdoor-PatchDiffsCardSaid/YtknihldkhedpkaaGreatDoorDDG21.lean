import Derived.Test.YtknihldkhedpkaaGreatDoorDDG19
import Derived.Test.YtknihldkhedpkaaGreatDoorDDG20
import Derived.Test.YtknihldkhedpkaaGreatDoorDDG10
import Derived.Test.YtknihldkhedpkaaGreatDoorDDG13
import Derived.Test.YtknihldkhedpkaaGreatDoorDDG18
import Derived.Test.YtknihldkhedpkaaGreatDoorDDG9
import Derived.Test.YtknihldkhedpkaaGreatDoorDDG6
import Derived.Test.YtknihldkhedpkaaGreatDoorDDG14
set_option linter.all false
set_option maxHeartbeats 16000000
set_option maxRecDepth 100000
section
namespace Go.Proofs.YtknihldkhedpkaaGreatDoor
open Go.RowKit Go.Lib
open Go.Proofs.YtknihldkhedpkaaGreatDoorW.PrintWords Go.Proofs.YtknihldkhedpkaaGreatDoorW.PrintLast Go.Proofs.YtknihldkhedpkaaGreatDoor.PT
theorem JX {s:ByteArray} (h:s.size≤140737488351232):bK.f s=some (bY 47 0 s):=by
 unfold bK.f jl.f;rw[if_pos h];rfl
def Le (l:List It) (key:ByteArray):Nat:=(l.takeWhile (fun x=>Op.bytesLess (gu x).toList key.toList)).length
theorem XU {key:ByteArray}:∀{l:List It} {n:Nat},n≤l.length→(∀j (h:j<l.length),j<n→Op.bytesLess (gu l[j]).toList key.toList=true)→(∀(h:n<l.length),Op.bytesLess (gu l[n]).toList key.toList=false)→Le l key=n
 | [],n,h,_,_=>by rw[Nat.le_zero.1 h];rfl
 | x::l,0,_,_,h2=>by
  unfold Le;rw[List.takeWhile_cons_of_neg (by have:=h2 bB;rw[List.getElem_cons_zero] at this;rw[this];decide)];rfl
 | x::l,n+1,h,h1,h2=>by
  have ih:=XU (key:=key) (l:=l) (n:=n) (by simpa using h) (fun j hj hjn=>by have:=h1 (j+1) (by simpa using hj) aj;rwa [List.getElem_cons_succ] at this) (fun hn=>by have:=h2 (by simpa using hn);rwa [List.getElem_cons_succ] at this);unfold Le at ih ⊢;have h0:=h1 0 bB aj;rw[List.getElem_cons_zero] at h0;rw[List.takeWhile_cons_of_pos (p:=fun x:It=>Op.bytesLess (gu x).toList key.toList) h0,List.length_cons,ih]
def QF (l:List It) (p:ByteArray) (n:Nat):Int:=match l[n]? with
 | some x=>if x.f1.toList=p.toList then (n:Int) else -1
 | none=>-1
theorem DL (l:List It) (p key:ByteArray) (hs:∀x∈l,x.f1.size≤140737488351232) (hn:l.length≤140737488351232):∀(d lo hi:Nat),hi - lo≤d→lo≤hi→hi≤l.length →
  (∀i j (hi:i<l.length) (hj:j<l.length),i≤j→Op.bytesLess (gu l[j]).toList key.toList=true→Op.bytesLess (gu l[i]).toList key.toList=true) →
  (∀j (h:j<l.length),j<lo→Op.bytesLess (gu l[j]).toList key.toList=true)→(∀j (h:j<l.length),hi≤j→Op.bytesLess (gu l[j]).toList key.toList=false) →
  Ev (fun k=>bS.l0 k l p lo hi key) (QF l p (Le l key))
 | d,lo,hi,hd,hle,hh,hm,h1,h2=>by
  by_cases hlt:lo<hi
  ·cases d with
   | zero=>omega
   | succ d=>
    have hmid:wrap64 (Int.tdiv (wrap64 ((lo:Int)+(hi:Int))) 2)=(((lo+hi) / 2:Nat):Int):=by
     rw[fq (i:=(lo:Int)+(hi:Int)) aj aj,Int.tdiv_eq_ediv_of_nonneg aj,fq aj aj];omega
    have hml:(lo+hi) / 2<l.length:=by omega
    obtain⟨m,hmm⟩:∃m,(lo+hi) / 2=m:=⟨_,rfl⟩
    rw[hmm] at hmid hml
    have hrd:aI l (m:Int)=l[m]:=by simp[aI,hml]
    have hkey:=JX (hs l[m] (List.getElem_mem hml))
    have hstep:∀k,bS.l0 (k+1) l p lo hi key=if Op.bytesLess (gu l[m]).toList key.toList=true then bS.l0 k l p ((m+1:Nat):Int) hi key else bS.l0 k l p lo (m:Int) key:=by
     intro k;rw[bS.l0,if_pos aj,hmid,if_pos aj,if_pos aj,hrd,hkey,Option.bind_some,nO aj];rfl
    cases hb:Op.bytesLess (gu l[m]).toList key.toList with
    | true=>
     refine Ev.step (fun k=>by rw[hstep,if_pos hb]) (DL l p key hs hn d (m+1) hi aj aj hh hm (fun j hj hjl=>hm j m hj hml aj hb) h2)
    | false=>
     refine Ev.step (fun k=>by rw[hstep,if_neg (by rw[hb];decide)]) (DL l p key hs hn d lo m aj aj aj hm h1 (fun j hj hjl=>?_))
     cases hb2:Op.bytesLess (gu l[j]).toList key.toList with
     | false=>rfl
     | true=>
      have:=hm m j hml hj hjl hb2;rw[hb] at this;cases this
  have e:lo=hi:=by omega
  have hlow:Le l key=lo:=XU aj h1 (fun h=>h2 lo h aj);rw[hlow];refine Ev.step (fun k=>?_) (Ev.now _);rw[bS.l0,if_neg aj];unfold QF;by_cases hl:lo<l.length
  ·have hrd:aI l (lo:Int)=l[lo]:=by simp[aI,hl]
   rw[if_pos aj,if_pos aj,hrd,List.getElem?_eq_getElem hl];dsimp only
   split <;> rfl
  rw[if_neg aj,List.getElem?_eq_none aj]
section
variable (a b : List It) (out : List ByteArray) (q : ByteArray) (P0 P1 : Int)
theorem aiA (k:Nat):aA.l2 (k+1) [a,b] [P0,P1] out q 0=(if P0<(a.length:Int) then (if 0≤P0 then (if q.toList=([]:List UInt8) then aA.l2 k [a,b] [P0,P1] out (aI a P0).f1 1 else ((bK.f (aI a P0).f1).bind fun t1=>(bK.f q).bind fun t2=>if Op.bytesLess t1.toList t2.toList=true then aA.l2 k [a,b] [P0,P1] out (aI a P0).f1 1 else aA.l2 k [a,b] [P0,P1] out q 1)) else none) else aA.l2 k [a,b] [P0,P1] out q 1):=by
 rw[aA.l2,if_pos bB,if_pos aH,if_pos bB,show wrap64 (0+1)=1 from fq aH aH];rfl
theorem XV (k:Nat):aA.l2 (k+1) [a,b] [P0,P1] out q 1=(if P1<(b.length:Int) then (if 0≤P1 then (if q.toList=([]:List UInt8) then aA.l2 k [a,b] [P0,P1] out (aI b P1).f1 2 else ((bK.f (aI b P1).f1).bind fun t1=>(bK.f q).bind fun t2=>if Op.bytesLess t1.toList t2.toList=true then aA.l2 k [a,b] [P0,P1] out (aI b P1).f1 2 else aA.l2 k [a,b] [P0,P1] out q 2)) else none) else aA.l2 k [a,b] [P0,P1] out q 2):=by
 rw[aA.l2,if_pos bB,if_pos aH,if_pos bB,show wrap64 (1+1)=2 from fq aH aH];rfl
theorem aiB (k:Nat):aA.l2 (k+1) [a,b] [P0,P1] out q 2=(if q.toList=([]:List UInt8) then some out else aA.l3 k [a,b] [P0,P1] out q 0):=by
 rw[aA.l2,if_neg bB]
theorem afi (k:Nat):aA.l3 (k+1) [a,b] [P0,P1] out q 0=(if P0<(a.length:Int) then (if 0≤P0 then (if (aI a P0).f1.toList=q.toList then aA.l3 k [a,b] [wrap64 (P0+1),P1] out q 1 else aA.l3 k [a,b] [P0,P1] out q 1) else none) else aA.l3 k [a,b] [P0,P1] out q 1):=by
 rw[aA.l3,if_pos bB,if_pos aH,if_pos bB,show wrap64 (0+1)=1 from fq aH aH];rfl
theorem afj (k:Nat):aA.l3 (k+1) [a,b] [P0,P1] out q 1=(if P1<(b.length:Int) then (if 0≤P1 then (if (aI b P1).f1.toList=q.toList then aA.l3 k [a,b] [P0,wrap64 (P1+1)] out q 2 else aA.l3 k [a,b] [P0,P1] out q 2) else none) else aA.l3 k [a,b] [P0,P1] out q 2):=by
 rw[aA.l3,if_pos bB,if_pos aH,if_pos bB,show wrap64 (1+1)=2 from fq aH aH];rfl
theorem anM (k:Nat):aA.l3 (k+1) [a,b] [P0,P1] out q 2=(if out.length<8796093022208 then aA.l1 k [a,b] [P0,P1] (out++[q]) else none):=by
 rw[aA.l3,if_neg bB]
end
def XW (l:List It) (n:Nat) (q:ByteArray):Nat:=match l[n]? with
 | none=>n
 | some x=>if x.f1.toList=q.toList then n+1 else n
theorem XY {l:List It} {n:Nat} {q:ByteArray} (h:n<l.length):XW l n q=if l[n].f1.toList=q.toList then n+1 else n:=by
 unfold XW;rw[List.getElem?_eq_getElem h]
theorem T9 {l:List It} {n:Nat} {q:ByteArray} (h:¬n<l.length):XW l n q=n:=by
 unfold XW;rw[List.getElem?_eq_none aj]
theorem aiC (a b:List It) (out:List ByteArray) (q:ByteArray) (m n:Nat) (hla:a.length≤8192) (hlb:b.length≤8192) (ho:out.length≤16384) (R:List ByteArray)
  (h:Ev (fun k=>aA.l1 k [a,b] [((XW a m q:Nat):Int),((XW b n q:Nat):Int)] (out++[q])) R):Ev (fun k=>aA.l3 k [a,b] [(m:Int),(n:Int)] out q 0) R:=by
 have h2:Ev (fun k=>aA.l3 k [a,b] [((XW a m q:Nat):Int),((XW b n q:Nat):Int)] out q 2) R:=Ev.step (fun k=>by rw[anM,if_pos aj]) h
 have h1:Ev (fun k=>aA.l3 k [a,b] [((XW a m q:Nat):Int),(n:Int)] out q 1) R:=by
  by_cases hn:n<b.length
  ·have hrd:aI b (n:Int)=b[n]:=by simp[aI,hn]
   rw[XY hn] at h2;by_cases e:b[n].f1.toList=q.toList
   ·rw[if_pos e] at h2;exact Ev.step (fun k=>by rw[afj,if_pos aj,if_pos aj,hrd,if_pos e,nO aj]) h2
   rw[if_neg e] at h2;exact Ev.step (fun k=>by rw[afj,if_pos aj,if_pos aj,hrd,if_neg e]) h2
  rw[T9 hn] at h2;exact Ev.step (fun k=>by rw[afj,if_neg aj]) h2
 by_cases hm:m<a.length
 ·have hrd:aI a (m:Int)=a[m]:=by simp[aI,hm]
  rw[XY hm] at h1;by_cases e:a[m].f1.toList=q.toList
  ·rw[if_pos e] at h1;exact Ev.step (fun k=>by rw[afi,if_pos aj,if_pos aj,hrd,if_pos e,nO aj]) h1
  rw[if_neg e] at h1;exact Ev.step (fun k=>by rw[afi,if_pos aj,if_pos aj,hrd,if_neg e]) h1
 rw[T9 hm] at h1;exact Ev.step (fun k=>by rw[afi,if_neg aj]) h1
def lqP (a b:List It) (m n:Nat):Option ByteArray:=match a[m]?,b[n]? with
 | none,none=>none
 | some x,none=>some x.f1
 | none,some y=>some y.f1
 | some x,some y=>if Op.bytesLess (gu y).toList (gu x).toList=true then some y.f1 else some x.f1
theorem aiD (a b:List It) (out:List ByteArray) (m n:Nat) (hpa:∀x∈a,0<x.f1.size∧x.f1.size≤1023) (hpb:∀x∈b,0<x.f1.size∧x.f1.size≤1023) (R:List ByteArray)
  (h:match lqP a b m n with|none=>R=out|some q=>Ev (fun k=>aA.l3 k [a,b] [(m:Int),(n:Int)] out q 0) R):Ev (fun k=>aA.l2 k [a,b] [(m:Int),(n:Int)] out ⟨#[]⟩ 0) R:=by
 have hne:∀{s:ByteArray},0<s.size→¬s.toList=([]:List UInt8):=by
  intro s hs e;have:=congrArg List.length e;rw[Lib.toList_data,Array.length_toList] at this;have h3:s.data.size=s.size:=rfl;simp only[List.length_nil] at this;omega
 have hemp:(⟨#[]⟩:ByteArray).toList=([]:List UInt8):=by rw[Lib.toList_data]
 have e2:∀q:ByteArray,0<q.size→Ev (fun k=>aA.l3 k [a,b] [(m:Int),(n:Int)] out q 0) R→Ev (fun k=>aA.l2 k [a,b] [(m:Int),(n:Int)] out q 2) R:=fun q hq h=>Ev.step (fun k=>by rw[aiB,if_neg (hne hq)]) h
 unfold lqP at h;by_cases hm:m<a.length
 ·have hrd:aI a (m:Int)=a[m]:=by simp[aI,hm]
  have hx:=hpa a[m] (List.getElem_mem hm);rw[List.getElem?_eq_getElem hm] at h
  obtain⟨x,hxe⟩:∃x,a[m]=x:=⟨_,rfl⟩
  rw[hxe] at h hrd hx;refine Ev.step (fun k=>by rw[aiA,if_pos aj,if_pos aj,if_pos hemp,hrd]) ?_;by_cases hn:n<b.length
  ·have Lf:aI b (n:Int)=b[n]:=by simp[aI,hn]
   have hy:=hpb b[n] (List.getElem_mem hn);rw[List.getElem?_eq_getElem hn] at h
   obtain⟨y,hye⟩:∃y,b[n]=y:=⟨_,rfl⟩
   rw[hye] at h Lf hy;dsimp only at h;by_cases hl:Op.bytesLess (gu y).toList (gu x).toList=true
   ·rw[if_pos hl] at h;refine Ev.step (fun k=>by rw[XV,if_pos aj,if_pos aj,if_neg (hne hx.1),Lf,JX aj,JX aj,Option.bind_some,Option.bind_some];exact if_pos hl) (e2 y.f1 hy.1 h)
   rw[if_neg hl] at h;refine Ev.step (fun k=>by rw[XV,if_pos aj,if_pos aj,if_neg (hne hx.1),Lf,JX aj,JX aj,Option.bind_some,Option.bind_some];exact if_neg hl) (e2 x.f1 hx.1 h)
  rw[List.getElem?_eq_none aj] at h;exact Ev.step (fun k=>by rw[XV,if_neg aj]) (e2 x.f1 hx.1 h)
 rw[List.getElem?_eq_none aj] at h;refine Ev.step (fun k=>by rw[aiA,if_neg aj]) ?_;by_cases hn:n<b.length
 ·have Lf:aI b (n:Int)=b[n]:=by simp[aI,hn]
  have hy:=hpb b[n] (List.getElem_mem hn);rw[List.getElem?_eq_getElem hn] at h
  obtain⟨y,hye⟩:∃y,b[n]=y:=⟨_,rfl⟩
  rw[hye] at h Lf hy;refine Ev.step (fun k=>by rw[XV,if_pos aj,if_pos aj,if_pos hemp,Lf]) (e2 y.f1 hy.1 h)
 rw[List.getElem?_eq_none aj] at h;dsimp only at h;rw[h];refine Ev.step (fun k=>by rw[XV,if_neg aj]) (Ev.step (fun k=>by rw[aiB,if_pos hemp]) (Ev.now _))
theorem Vp.aiE {p:ByteArray} (h:Vp p):0<p.size:=by
 obtain⟨h1,h2,h3,h4⟩:=uE (show iW p=((iW p).1,true) by rw[← (show (iW p).2=true from h)]);unfold fP at h2;have h2:=of_decide_eq_true h2
 rcases Nat.eq_zero_or_pos p.size with h0|h0
 ·have:(bs p).length=0:=by rw[cZ];exact h0
  rw[List.length_eq_zero_iff.1 this] at h2;cases h2
 exact h0
theorem Fv {p:ByteArray} (h:Vp p):p.size≤1023:=(uE (show iW p=((iW p).1,true) by rw[← (show (iW p).2=true from h)])).1
theorem afk {p q:ByteArray} (hp:Vp p) (hq:Vp q):((bY 47 0 p).toList == (bY 47 0 q).toList)=decide (p.toList=q.toList):=by
 by_cases e:p.toList=q.toList
 ·have:p=q:=nY (by rw[Lib.toList_data,Lib.toList_data] at e;exact e);rw[this,decide_eq_true rfl];exact beq_self_eq_true _
 rw[decide_eq_false e];refine beq_eq_false_iff_ne.2 (fun h=>e ?_);have h1:bY 47 0 p=bY 47 0 q:=nY (by rw[Lib.toList_data,Lib.toList_data] at h;exact h);rw[← mE hp,← mE hq,h1]
theorem afl {a b:List It} (ha:kH a) (hb:kH b) (p:Nat→Nat):lqP a b (p 0) (p 1)=(jM (jw a b) p 2).map (bY 0 47):=by
 have e0:jw a b 0=a:=rfl;have e1:jw a b 1=b:=rfl;unfold lqP;rw[jM,jM,jM,e0,e1]
 cases hx:a[p 0]? with
 | none=>
  cases hy:b[p 1]? with
  | none=>rfl
  | some y=>
   have hv:=hb.path y (List.mem_of_getElem? hy)
   show some y.f1=some (bY 0 47 (gu y))
   rw[show gu y=bY 47 0 y.f1 from rfl,mE hv]
 | some x=>
  have hvx:=ha.path x (List.mem_of_getElem? hx)
  cases hy:b[p 1]? with
  | none=>
   show some x.f1=some (bY 0 47 (gu x))
   rw[show gu x=bY 47 0 x.f1 from rfl,mE hvx]
  | some y=>
   have hv:=hb.path y (List.mem_of_getElem? hy);dsimp only;by_cases hl:Op.bytesLess (gu y).toList (gu x).toList=true
   ·rw[if_pos hl,if_pos hl,Option.map_some,show gu y=bY 47 0 y.f1 from rfl,mE hv]
   rw[if_neg hl,if_neg hl,Option.map_some,show gu x=bY 47 0 x.f1 from rfl,mE hvx]
theorem adh {l:List It} (hl:kH l) {L:Nat→List It} {p:Nat→Nat} {j:Nat} (hL:L j=l) {q:ByteArray} (hq:Vp q):XW l (p j) q=gT L p (bY 47 0 q) j:=by
 unfold XW gT fO;rw[hL]
 cases hx:l[p j]? with
 | none=>rfl
 | some x=>
  dsimp only;have hk:=afk (hl.path x (List.mem_of_getElem? hx)) hq;by_cases e:x.f1.toList=q.toList
  ·have hk2:((gu x).toList == (bY 47 0 q).toList)=true:=by rw[decide_eq_true e] at hk;exact hk
   rw[if_pos e];simp[hk2]
  have hk2:((gu x).toList == (bY 47 0 q).toList)=false:=by rw[decide_eq_false e] at hk;exact hk
  rw[if_neg e];simp[hk2]
theorem NT {a b:List It} (ha:kH a) (hb:kH b) (hla:a.length≤8192) (hlb:b.length≤8192):∀(n:Nat) (p:Nat→Nat) (out:List ByteArray),Two.jL (jw a b) p≤n→out.length+n≤16384 →
  Ev (fun k=>aA.l1 k [a,b] [((p 0:Nat):Int),((p 1:Nat):Int)] out) (out++(Two.eO (jw a b) n p).map (fun r=>bY 0 47 r.1))
 | n,p,out,hn,ho=>by
  refine Ev.step (fun k=>by rw[aA.l1]) (aiD a b out (p 0) (p 1) (fun x hx=>⟨(ha.path x hx).aiE,Fv (ha.path x hx)⟩) (fun x hx=>⟨(hb.path x hx).aiE,Fv (hb.path x hx)⟩) _ ?_);rw[afl ha hb p]
  cases hk:jM (jw a b) p 2 with
  | none=>
   have hz:Two.eO (jw a b) n p=[]:=by
    cases n with
    | zero=>rfl
    | succ n=>rw[Two.eO,hk]
   rw[hz]
   show out++[]=out
   simp
  | some k=>
   have hlt:=Two.rO hk;obtain⟨j,x,hj,h1,h2⟩:=pX hk
   have hvx:Vp x.f1:=by
    rcases (show j=0∨j=1 by omega) with rfl|rfl
    ·exact ha.path x (List.mem_of_getElem? h1)
    exact hb.path x (List.mem_of_getElem? h1)
   have hkq:bY 0 47 k=x.f1:=by rw[← h2,show gu x=bY 47 0 x.f1 from rfl,mE hvx]
   have hkk:k=bY 47 0 x.f1:=h2.symm
   cases n with
   | zero=>omega
   | succ n=>
    rw[Two.eO,hk];have ih:=NT ha hb hla hlb n (gT (jw a b) p k) (out++[bY 0 47 k]) aj (by simp only[List.length_append,List.length_cons,List.length_nil];omega)
    show Ev (fun j=>aA.l3 j [a,b] [((p 0:Nat):Int),((p 1:Nat):Int)] out (bY 0 47 k) 0) _
    refine aiC a b out _ (p 0) (p 1) hla hlb aj _ ?_;rw[hkq] at ih ⊢;rw[adh ha (L:=jw a b) (p:=p) (j:=0) rfl hvx,adh hb (L:=jw a b) (p:=p) (j:=1) rfl hvx,← hkk];rw[List.append_assoc,List.singleton_append] at ih;rw[List.map_cons,hkq];exact ih
theorem XZ {a b:List It} (ha:kH a) (hb:kH b) (hla:a.length≤8192) (hlb:b.length≤8192):Ev (fun k=>aA.f k [a,b]) ((oG a b).map (fun r=>bY 0 47 r.1)):=by
 have h:=NT ha hb hla hlb (Two.jL (jw a b) (fun _=>0)) (fun _=>0) [] (Nat.le_refl _) (by
  have:Two.jL (jw a b) (fun _=>0)=a.length+b.length:=rfl
  rw[this];simp only[List.length_nil];omega)
 unfold aA.f;have s3:Ev (fun k=>aA.l0 k [a,b] [0,0] 2) ([]++(Two.eO (jw a b) (Two.jL (jw a b) (fun _=>0)) (fun _=>0)).map (fun r=>bY 0 47 r.1)):=Ev.step (fun k=>by rw[aA.l0,if_neg bB];rfl) h;have s2:Ev (fun k=>aA.l0 k [a,b] [0] 1) _:=Ev.step (fun k=>by rw[aA.l0,if_pos bB,if_pos aH,show wrap64 (1+1)=2 from fq aH aH];rfl) s3;exact Ev.step (fun k=>by rw[aA.l0,if_pos bB,if_pos aH,show wrap64 (0+1)=1 from fq aH aH];rfl) s2
theorem aaP {l:List It} (h:kH l) {i j:Nat} (hi:i<l.length) (hj:j<l.length) (hij:i<j):Less (kl l[i]) (kl l[j]):=List.pairwise_iff_getElem.1 h.keys i j hi hj hij
theorem Fw {a b:ByteArray}:Op.bytesLess a.toList b.toList=true↔Less (bs a) (bs b):=by
 rw[Lib.toList_data,Lib.toList_data];exact Iff.rfl
theorem X0 {p:ByteArray} (hp:Vp p):∀{l:List It},kH l→st l (bs (bY 47 0 p))=(match l[Le l (bY 47 0 p)]? with|some x=>if x.f1.toList=p.toList then some x else none|none=>none)
 | [],_=>rfl
 | x::l,h=>by
  have ih:=X0 hp h.tail;unfold Le at ih ⊢;by_cases hb:Op.bytesLess (gu x).toList (bY 47 0 p).toList=true
  ·rw[List.takeWhile_cons_of_pos (p:=fun x:It=>Op.bytesLess (gu x).toList (bY 47 0 p).toList) hb,List.length_cons,List.getElem?_cons_succ,← ih];exact Gf (Fw.1 hb).ne
  rw[List.takeWhile_cons_of_neg (p:=fun x:It=>Op.bytesLess (gu x).toList (bY 47 0 p).toList) hb]
  show st (x::l) _=(if x.f1.toList=p.toList then some x else none)
  have hvx:=h.path x List.mem_cons_self;by_cases e:x.f1.toList=p.toList
  ·rw[if_pos e];have:x.f1=p:=nY (by rw[Lib.toList_data,Lib.toList_data] at e;exact e);exact Gg (by show bs (bY 47 0 x.f1)=_;rw[this])
  rw[if_neg e]
  have hne:kl x≠bs (bY 47 0 p):=fun hh=>e (by
   have h1:bY 47 0 x.f1=bY 47 0 p:=nY hh
   rw[← mE hvx,← mE hp,h1])
  have hlt:Less (bs (bY 47 0 p)) (kl x):=Less.tri (fun hh=>hb (Fw.2 hh)) hne;refine Sw (fun y hy=>?_)
  rcases List.mem_cons.1 hy with rfl|hy
  ·exact hne
  exact fun hh=>(hlt.trans (h.head y hy)).ne hh.symm
def stP (l:List It) (p:ByteArray):It:=(st l (bs (bY 47 0 p))).getD Mt
theorem aaQ {l:List It} {p:ByteArray} (hl:kH l) (hp:Vp p) (hn:l.length≤140737488351232):Ev (fun k=>bS.f k l p) (QF l p (Le l (bY 47 0 p))):=by
 refine Ev.congr (fun k=>by unfold bS.f;rw[JX (by have:=Fv hp;omega),Option.bind_some]) ?_;refine DL l p (bY 47 0 p) (fun x hx=>by have:=Fv (hl.path x hx);omega) hn l.length 0 l.length aj aj (Nat.le_refl _) (fun i j hi hj hij hb=>?_) (fun j _ h=>absurd h (Nat.not_lt_zero j)) (fun j hj h=>absurd hj aj)
 rcases Nat.eq_or_lt_of_le hij with e|hlt
 ·subst e;exact hb
 exact Fw.2 ((aaP hl hi hj hlt).trans (Fw.1 hb))
end Go.Proofs.YtknihldkhedpkaaGreatDoor
end
section
namespace Go.Proofs.YtknihldkhedpkaaGreatDoor
open Go.RowKit
open Go.Lib hiding bytesOf bytesOf_length bytesOf_take
open Go.Proofs.YtknihldkhedpkaaGreatDoorW.PrintWords Go.Proofs.YtknihldkhedpkaaGreatDoorW.PrintLast Go.Proofs.YtknihldkhedpkaaGreatDoor.PT
structure EP (B:Nat) (w0 w w':World) (v:Value) (out:List Int):Prop where
 o:oC B w0 w' v out
 k:nH w w'
theorem EP.next {B:Nat} {w0 w W w1:World} {v v1:Value} {out pY:List Int} (h:EP B w0 w W v out) (o:oC B w0 w1 v1 pY) (k:nH W w1):EP B w0 w w1 v1 pY:=⟨o,h.k.trans k⟩
theorem lH (B:Nat) (w0:World) (v0:Value) (out:List Int) (a:Int) (n:Nat) (w:World) (h:oC B w0 w v0 out) (ha:0≤a∧a≤9223372036854775807) (hl:out.length+n<140737488355327) (hn:n≤8) :
  Calls Tryz.prog 43 #[v0,.int .i64 a,.int .i64 n] w fun e w'=>∃v,e=.returned v∧oC B w0 w' v (out++leB n a)∧nH w w':=by
 have HC:=ah.mk (kC B w0 v0 out a n w h ha hl hn);clear h ha hl hn
 go_enter Tryz.func43,Tryz.ntmps43
 go_wp2_with (go_at_call 80;refine HC.out.mono ?_;rintro e w1 ⟨v1,rfl,ho⟩;have HO:=ah.mk ho;clear ho)
 go_ret
 exact⟨_,rfl,HO.out.1,HO.out.2⟩
theorem Hf (w0:World) (v0:Value) (out:List Int) (A:Option Addr) (c:Nat) (l:List Ru) (w:World) (h:oC w0.heap.size w0 w v0 out) (hr:Kd.C dw w0 A l.length l) (hc:l.length≤c)
  (Mh:∀r∈l,(0≤r.f0∧r.f0≤9223372036854775807)∧(0≤r.f1∧r.f1≤9223372036854775807)) (hl:out.length+8*l.length+16≤140737488355327) :
  Calls Tryz.prog 46 #[v0,.slice A l.length c] w fun e w'=>∃v,e=.returned v∧oC w0.heap.size w0 w' v (out++jS l)∧nH w w':=by
 have HO:=ah.mk (show EP w0.heap.size w0 w w v0 out from⟨h,nH.refl _⟩);have HR:=ah.mk hr;have HRU:=ah.mk Mh;clear h hr Mh
 go_enter Tryz.func46,Tryz.ntmps46
 go_upto_region 2 with (go_at_call 43;refine (lH w0.heap.size w0 _ out (l.length:Int) 4 _ HO.out.o aj aj aH).mono ?_;rintro e w1 ⟨v1,rfl,ho1,hk1⟩;have zP:=ah.mk (HO.out.next ho1 hk1);clear ho1 hk1)
 obtain⟨o1,ho1⟩:∃o,out++leB 4 (l.length:Int)=o:=⟨_,rfl⟩
 have hn1:o1.length≤out.length+4:=by rw[← ho1,List.length_append,aU];exact Nat.le_refl _
 have HE:ah (out++jS l=o1++gQ l):=⟨by rw[← ho1];unfold jS;rw[List.append_assoc]⟩
 rw[ho1] at zP;clear ho1 HO
 go_wp2_with fail
 go_loopg [0,5] l.length (fun g s0 s5 wx=>∃i:Nat,i+g=l.length∧s5=.int .i64 i∧ah (EP w0.heap.size w0 w wx s0 (o1++gQ (l.take i))))
 case atStart=>exact⟨0,by omega,rfl,⟨by rw[List.take_zero];simpa [gQ] using zP.out⟩⟩
 case round=>
  obtain⟨i,hig,rfl,HL⟩:=hrel;clear zP;by_cases hi:i<l.length
  ·have d1:decide ((i:Int)<(l.length:Int))=true:=decide_eq_true aj;have d2:decide (i<l.length)=true:=decide_eq_true hi;obtain⟨ad,hA,r0,r1⟩:=dQ (Kd.aC HR.out HL.out.o.s) (i:Int) aj aj
   have hrd:aQ l (i:Int)=l[i]:=by simp[aQ,hi]
   rw[hrd,Int.toNat_natCast] at r0 r1;have HAd:=ah.mk hA
   obtain⟨q,hq⟩:∃q,l[i]=q:=⟨_,rfl⟩
   have hqr:=HRU.out _ (List.getElem_mem hi)
   have htk:gQ (l.take (i+1))=gQ (l.take i)++(leB 4 q.f0++leB 4 q.f1):=by
    rw[List.take_succ_eq_append_getElem hi,hq];unfold gQ;rw[List.flatMap_append];simp
   rw[hq] at r0 r1 hqr
   have hlen:(o1++gQ (l.take i)).length≤out.length+4+8*i:=by rw[List.length_append,uL,List.length_take];omega
   have HTK:=ah.mk htk
   obtain⟨o6,xA⟩:∃o,o1++gQ (l.take i)=o:=⟨_,rfl⟩
   rw[xA] at hlen HL;have Fb:=ah.mk xA;have CW:=ah.mk (hrd.trans hq);subst hA;clear hrd hq htk xA
   go_upto_region 6 with (go_at_call 43;refine (lH w0.heap.size w0 _ o6 q.f0 4 _ HL.out.o hqr.1 aj aH).mono ?_;rintro e w7 ⟨v7,rfl,yA,GQ⟩;have Eb:=ah.mk (HL.out.next yA GQ);clear yA GQ)
   obtain⟨o7,yA⟩:∃o,o6++leB 4 q.f0=o:=⟨_,rfl⟩
   have hn7:o7.length≤o6.length+4:=by rw[← yA,List.length_append,aU];exact Nat.le_refl _
   rw[yA] at Eb;have HE7:=ah.mk yA
   have r1':w7.cell? ⟨(ad.add (i*2)).block,(ad.add (i*2)).off+1,none⟩=some (.int .i64 q.f1):=by
    obtain⟨EC,hA2,_,q1⟩:=dQ (Kd.aC HR.out Eb.out.o.s) (i:Int) aj aj;rw[CW.out,Int.toNat_natCast,← Option.some.inj hA2] at q1;exact q1
   clear yA HL r0 r1
   go_wp2_with (go_at_call 43;refine (lH w0.heap.size w0 _ o7 q.f1 4 _ Eb.out.o hqr.2 aj aH).mono ?_;rintro e w8 ⟨v8,rfl,Tx,EH⟩;have HO8:=ah.mk (Eb.out.next Tx EH);clear Tx EH)
   have HO9:ah (EP w0.heap.size w0 w w8 v8 (o1++gQ (l.take (i+1)))):=⟨by rw[HTK.out,← List.append_assoc,← List.append_assoc,Fb.out,HE7.out];exact HO8.out⟩
   go_roundg (l.length - (i+1))
   case measure=>omega
   case rel=>exact⟨i+1,by omega,by first|rfl|(push_cast;rfl)|simp,HO9⟩
  have d1:decide ((i:Int)<(l.length:Int))=false:=decide_eq_false aj;have d2:decide (i<l.length)=false:=decide_eq_false hi
  go_wp2_with fail
  go_ret
  have:=HL.out;rw[List.take_of_length_le aj] at this;exact⟨_,rfl,by rw[HE.out];exact this.o,this.k⟩
theorem Hg (w0:World) (v0:Value) (out:List Int) (s:ByteArray) (w:World) (h:oC w0.heap.size w0 w v0 out) (hl:out.length+s.size+16≤140737488355327) :
  Calls Tryz.prog 44 #[v0,.string s] w fun e w'=>∃v,e=.returned v∧oC w0.heap.size w0 w' v (out++jW s)∧nH w w':=by
 have HO:=ah.mk (show EP w0.heap.size w0 w w v0 out from⟨h,nH.refl _⟩);clear h
 go_enter Tryz.func44,Tryz.ntmps44
 go_upto_region 2 with (go_at_call 43;refine (lH w0.heap.size w0 _ out (s.size:Int) 2 _ HO.out.o aj aj aH).mono ?_;rintro e w1 ⟨v1,rfl,ho1,hk1⟩;have zP:=ah.mk (HO.out.next ho1 hk1);clear ho1 hk1)
 obtain⟨o1,ho1⟩:∃o,out++leB 2 (s.size:Int)=o:=⟨_,rfl⟩
 have hn1:o1.length≤out.length+2:=by rw[← ho1,List.length_append,aU];exact Nat.le_refl _
 have HE:ah (out++jW s=o1++bytesOf s):=⟨by rw[← ho1];unfold jW;rw[List.append_assoc]⟩
 rw[ho1] at zP;clear ho1 HO
 go_wp2_with fail
 go_loopg [0,5] s.size (fun g s0 s5 wx=>∃i:Nat,i+g=s.size∧s5=.int .i64 i∧ah (EP w0.heap.size w0 w wx s0 (o1++(bytesOf s).take i)))
 case atStart=>exact⟨0,by omega,rfl,⟨by rw[List.take_zero,List.append_nil];exact zP.out⟩⟩
 case round=>
  obtain⟨i,hig,rfl,HL⟩:=hrel;clear zP;by_cases hi:i<s.size
  ·have d1:decide ((i:Int)<(s.size:Int))=true:=decide_eq_true aj;have d2:decide (i<s.size)=true:=decide_eq_true hi
   have hlen:(o1++(bytesOf s).take i).length≤out.length+2+i:=by rw[List.length_append,List.length_take,Go.Proofs.YtknihldkhedpkaaGreatDoorW.PrintWords.bytesOf_length];omega
   go_wp2_with (((with_reducible refine bQ (b:=.append) (xs:=#[.tmp 16,.tmp 20]) rfl ?_);at_builtin;refine pI HL.out.o rfl (.tmp 16) (.tmp 20) 27 rfl Tryz.underlying27 info5 rfl rfl aj ?_;intro v4 w4 pV hk4;have Di:=ah.mk (HL.out.next pV hk4);clear pV hk4))
   have E9:ah (EP w0.heap.size w0 w w4 v4 (o1++(bytesOf s).take (i+1))):=⟨by rw[bytesOf_take s i hi,← List.append_assoc];exact Di.out⟩
   go_roundg (s.size - (i+1))
   case measure=>omega
   case rel=>exact⟨i+1,by omega,by first|rfl|(push_cast;rfl)|simp,E9⟩
  have d1:decide ((i:Int)<(s.size:Int))=false:=decide_eq_false aj;have d2:decide (i<s.size)=false:=decide_eq_false hi
  go_wp2_with fail
  go_ret
  have:=HL.out;rw[List.take_of_length_le (by rw[Go.Proofs.YtknihldkhedpkaaGreatDoorW.PrintWords.bytesOf_length];omega)] at this;exact⟨_,rfl,by rw[HE.out];exact this.o,this.k⟩
def iI:Int→List Ru→Bool
 | _,[]=>true
 | last,r::l=>if r.f0≤last∨r.f1≤r.f0 then false else iI r.f1 l
theorem xM (A:Option Addr) (c:Nat) (l:List Ru) (w:World) (hr:Kd.C dw w A l.length l) (hc:l.length≤c) (hn:l.length≤140737488351232) :
  Calls Tryz.prog 111 #[.slice A l.length c] w fun e w'=>e=.returned (.bool (iI (-1) l))∧Below w.heap.size w w':=by
 obtain⟨V,hV⟩:∃V,iI (-1) l=V:=⟨_,rfl⟩
 rw[hV];have HV:=ah.mk hV;have HR:=ah.mk hr;clear hV hr
 go_enter Tryz.func111,Tryz.ntmps111
 go_wp2_with fail
 go_loopg [3,4] l.length (fun g s3 s4 wx=>∃(i:Nat) (last:Int),i+g=l.length∧s3=.int .i64 last∧s4=.int .i64 i∧-1≤last∧ah (iI last (l.drop i)=V)∧ah (Below w.heap.size w wx))
 case atStart=>exact⟨0,-1,by omega,rfl,rfl,by omega,HV,⟨Below.refl _ _⟩⟩
 case round=>
  obtain⟨i,last,hig,rfl,rfl,hl1,HA,HB⟩:=hrel;by_cases hi:i<l.length
  ·have d1:decide ((i:Int)<(l.length:Int))=true:=decide_eq_true aj;have d2:decide (i<l.length)=true:=decide_eq_true hi;obtain⟨ad,hA,r0,r1⟩:=dQ (Kd.aC HR.out HB.out) (i:Int) aj aj
   have hrd:aQ l (i:Int)=l[i]:=by simp[aQ,hi]
   rw[hrd,Int.toNat_natCast] at r0 r1;subst hA;have hA:=HA.out;rw[List.drop_eq_getElem_cons hi,iI] at hA
   obtain⟨q,hq⟩:∃q,l[i]=q:=⟨_,rfl⟩
   rw[hq] at r0 r1 hA;have q0:(0≤(i:Int))=True:=eq_true aj;have q1:((i:Int)<(l.length:Int))=True:=eq_true aj;clear hq hrd;by_cases hbad:q.f0≤last∨q.f1≤q.f0
   ·rw[if_pos hbad] at hA;have HW:=ah.mk hA.symm;clear hA HA HV;by_cases h0:q.f0<0
    ·have e0:decide (q.f0<0)=true:=decide_eq_true h0;clear hbad
     go_wp2_with fail
     go_quiet (fail)
     go_wp2_with fail
     go_ret
     exact⟨by rw[HW.out] <;> rfl,av HB.out _⟩
    have e0:decide (q.f0<0)=false:=decide_eq_false h0;by_cases h1:q.f0≤last
    ·have e1:decide (q.f0≤last)=true:=decide_eq_true h1;clear hbad
     go_wp2_with fail
     go_quiet (fail)
     go_wp2_with fail
     go_ret
     exact⟨by rw[HW.out] <;> rfl,av HB.out _⟩
    have e1:decide (q.f0≤last)=false:=decide_eq_false h1;have e2:decide (q.f1≤q.f0)=true:=decide_eq_true aj;clear hbad
    go_wp2_with fail
    go_quiet (fail)
    go_wp2_with fail
    go_ret
    exact⟨by rw[HW.out] <;> rfl,av HB.out _⟩
   rw[if_neg hbad] at hA;have HA2:=ah.mk hA;have e0:decide (q.f0<0)=false:=decide_eq_false aj;have e1:decide (q.f0≤last)=false:=decide_eq_false aj;have e2:decide (q.f1≤q.f0)=false:=decide_eq_false aj
   have hq1 : -1≤q.f1:=by omega
   clear hA hbad HA HV
   go_wp2_with fail
   go_quiet (fail)
   go_wp2_with fail
   go_roundg (l.length - (i+1))
   case measure=>omega
   case rel=>exact⟨i+1,q.f1,by omega,rfl,by first|rfl|(push_cast;rfl)|simp,hq1,HA2,⟨av HB.out _⟩⟩
  have d1:decide ((i:Int)<(l.length:Int))=false:=decide_eq_false aj;have d2:decide (i<l.length)=false:=decide_eq_false hi;have hA:=HA.out;rw[List.drop_of_length_le aj,iI] at hA;have HW:=ah.mk hA.symm;clear hA HA HV
  go_wp2_with fail
  go_ret
  exact⟨by rw[HW.out] <;> rfl,HB.out⟩
end Go.Proofs.YtknihldkhedpkaaGreatDoor
end
section
namespace Go.Proofs.YtknihldkhedpkaaGreatDoor
open Go.RowKit Go.Lib
open Go.Proofs.YtknihldkhedpkaaGreatDoorW.PrintWords Go.Proofs.YtknihldkhedpkaaGreatDoorW.PrintLast Go.Proofs.YtknihldkhedpkaaGreatDoor.PT
def za (v:Nat):Nat:=if v % 2=1 then (v / 2) ^^^ 2197175160 else v / 2
def Lg (x c:Nat):Nat:=if (x+c) % 2=1 then (c / 2) ^^^ 2197175160 else c / 2
theorem Ce (x c:Nat):za (x ^^^ c)=(x / 2) ^^^ Lg x c:=by
 unfold za Lg;have h:=@Nat.xor_mod_two_eq_one x c
 by_cases hx:x % 2=1 <;> by_cases hc:c % 2=1
 ·rw[if_neg (fun e=>h.1 e ⟨fun _=>hc,fun _=>hx⟩),if_neg aj,Nat.xor_div_two]
 ·rw[if_pos (h.2 (fun e=>hc (e.1 hx))),if_pos aj,Nat.xor_div_two,Nat.xor_assoc]
 ·rw[if_pos (h.2 (fun e=>hx (e.2 hc))),if_pos aj,Nat.xor_div_two,Nat.xor_assoc]
 rw[if_neg (fun e=>h.1 e ⟨fun a=>absurd a hx,fun a=>absurd a hc⟩),if_neg aj,Nat.xor_div_two]
def X3 (n:Nat):Nat:=Lg (n / 8) (Lg (n / 4) (Lg (n / 2) (Lg n 0)))
theorem Cg (x y c:Nat) (h:x % 2=y % 2):Lg x c=Lg y c:=by
 unfold Lg;by_cases hx:(x+c) % 2=1
 ·rw[if_pos hx,if_pos aj]
 rw[if_neg hx,if_neg aj]
theorem anN (v:Nat):za (za (za (za v)))=(v / 16) ^^^ X3 (v % 16):=by
 have e:v=v ^^^ 0:=(Nat.xor_zero v).symm
 conv=>lhs;rw[e]
 rw[Ce,Ce,Ce,Ce];unfold X3;rw[Cg v (v % 16) 0 aj,Cg (v / 2) (v % 16 / 2) _ aj,Cg (v / 2 / 2) (v % 16 / 4) _ aj,Cg (v / 2 / 2 / 2) (v % 16 / 8) _ aj,show v / 2 / 2 / 2 / 2=v / 16 by omega]
theorem X6:∀n,n<16→((X3 n:Nat):Int)=rd zx (n:Int):=by decide +kernel
theorem Ua (k:IntKind) (hk:∀n:Int,0≤n→n<2 ^ 32→k.wrap n=n) (hj:32≤k.bits) (a b:Nat) (ha:a<2 ^ 32) (hb:b<2 ^ 32):Go.bits .xor k a b=((a ^^^ b:Nat):Int):=by
 have hp:2 ^ 32≤2 ^ k.bits:=Nat.pow_le_pow_right aH hj;have ha':a % 2 ^ k.bits=a:=Nat.mod_eq_of_lt (Nat.lt_of_lt_of_le ha hp);have hb':b % 2 ^ k.bits=b:=Nat.mod_eq_of_lt (Nat.lt_of_lt_of_le hb hp);have hx:a ^^^ b<2 ^ 32:=Nat.xor_lt_two_pow ha hb;simp only[Go.bits,BitVec.ofInt_natCast,BitVec.toNat_xor,BitVec.toNat_ofNat,ha',hb'];exact hk _ (Int.natCast_nonneg _) (by exact_mod_cast hx)
theorem Lh (a b:Nat) (ha:a<2 ^ 32) (hb:b<2 ^ 32):Go.bits .xor .i64 a b=((a ^^^ b:Nat):Int):=Ua .i64 (fun n h0 h1=>by rw[IntKind.wrap_i64];omega) aH a b ha hb
theorem Li (a b:Nat) (ha:a<2 ^ 32) (hb:b<2 ^ 32):Go.bits .xor .u32 a b=((a ^^^ b:Nat):Int):=Ua .u32 (fun n h0 h1=>by rw[IntKind.wrap_u32];omega) aH a b ha hb
theorem yC {v:Nat} (h:v<2 ^ 32):za v<2 ^ 32:=by
 unfold za;split
 ·exact Nat.xor_lt_two_pow aj aH
 omega
theorem El (v:Nat) (h:v<2 ^ 32):vX v=((za (za (za (za v))):Nat):Int):=by
 have hg:X3 (v % 16)<2 ^ 32:=by
  have:∀n,n<16→X3 n<2 ^ 32:=by decide +kernel
  exact this _ aj
 unfold vX;rw[X7 _ aj aj,show (v:Int) % 16=((v % 16:Nat):Int) by omega,← X6 _ aj,show (v:Int) / 16=((v / 16:Nat):Int) by omega,Li _ _ aj hg,anN]
def X8:Nat→Nat→Nat
 | 0,v=>v
 | n+1,v=>X8 n (za v)
theorem Ub:∀(n:Nat) {v:Nat},v<2 ^ 32→X8 n v<2 ^ 32
 | 0,_,h=>h
 | n+1,_,h=>Ub n (yC h)
theorem JY (l:List Int) (i:Int) (r:Int):∀(d:Nat) (x:Nat) (j:Int),j+d=8→0≤j→x<2 ^ 32→Ev (fun k=>bZ.l0 k l (X8 d x:Nat) (wrap64 (i+1))) r→Ev (fun k=>bZ.l1 k l x i j) r
 | 0,x,j,h,h0,hx,hr=>by
  refine Ev.step (fun k=>?_) hr;rw[bZ.l1,if_neg aj];rfl
 | d+1,x,j,h,h0,hx,hr=>by
  have hw:wrap64 (j+1)=j+1:=by unfold wrap64;omega
  have hd:wrap64 (Int.tdiv (x:Int) 2)=((x / 2:Nat):Int):=by rw[Int.tdiv_eq_ediv_of_nonneg aj,fq aj aj];omega
  have ht:Int.tmod (x:Int) 2=((x % 2:Nat):Int):=by rw[Int.tmod_eq_emod_of_nonneg aj];omega
  have e:((za x:Nat):Int)=if x % 2=1 then Go.bits .xor .i64 ((x / 2:Nat):Int) 2197175160 else ((x / 2:Nat):Int):=by
   unfold za;split
   ·exact (Lh (x / 2) 2197175160 aj aH).symm
   rfl
  have ih:=JY l i r d (za x) (j+1) aj aj (yC hx) hr;refine Ev.step (fun k=>?_) ih;rw[bZ.l1,if_pos aj,hw,hd,ht,e];by_cases h1:x % 2=1
  ·rw[if_pos (by rw[h1];rfl),if_pos h1]
  rw[if_neg aj,if_neg h1]
theorem NU (v:Nat) (h:v<2 ^ 32) (b:Nat) (hb:b<256):nV v b=((X8 8 (v ^^^ b):Nat):Int):=by
 have hx:v ^^^ b<2 ^ 32:=Nat.xor_lt_two_pow h aj;unfold nV;rw[Li v b h aj,El _ hx,El _ (yC (yC (yC (yC hx))))];rfl
theorem JZ (l:List Int) (hl:l.length<9223372036854775807) (hb:∀x∈l,0≤x∧x≤255):∀(d i x:Nat),i+d=l.length→x<2 ^ 32→Ev (fun k=>bZ.l0 k l x i) (Go.bits .xor .i64 ((l.drop i).foldl nV x) 4294967295)
 | 0,i,x,h,hx=>by
  rw[List.drop_of_length_le aj];refine Ev.step (fun k=>?_) (Ev.now _);rw[bZ.l0,if_neg aj];rfl
 | d+1,i,x,h,hx=>by
  have hi:i<l.length:=by omega
  have hbi:=hb _ (List.getElem_mem hi)
  obtain⟨b,hbn⟩:∃b:Nat,l[i]=(b:Int):=⟨l[i].toNat,by omega⟩
  have hxb:x ^^^ b<2 ^ 32:=Nat.xor_lt_two_pow hx aj;have hcb:=NU x hx b aj;have ih:=JZ l hl hb d (i+1) (X8 8 (x ^^^ b)) aj (Ub 8 hxb);rw[List.drop_eq_getElem_cons hi,List.foldl_cons,hbn,hcb];rw[← nO aj] at ih;refine Ev.step (fun k=>?_) (JY l i _ 8 (x ^^^ b) 0 aj aj hxb ih);rw[bZ.l0,if_pos aj,if_pos aj];rw[show wrap64 (rd l (i:Int))=(b:Int) by rw[show rd l (i:Int)=l[i] by simp[rd,hi],hbn];unfold wrap64;omega,Lh x b hx aj]
theorem Vf (a b:Nat) (ha:a<2 ^ 32) (hb:b<2 ^ 32):Go.bits .xor .i64 a b=Go.bits .xor .u32 b a:=by
 rw[Lh a b ha hb,Li b a hb ha,Nat.xor_comm]
theorem NV (A0:Option Addr) (c0:Nat) (l:List Int) (w:World) (hr:Kd.C (Kd.int .u8) w A0 l.length l) (hc:l.length≤c0) (hb:∀x∈l,0≤x∧x≤255) (hl:l.length<9223372036854775807) :
  Calls Tryz.prog 82 #[.slice A0 l.length c0] w fun e w'=>e=.returned (.int .i64 (kQ l))∧Below w.heap.size w w':=by
 have h:=JZ l hl hb l.length 0 4294967295 aj aH;have asJ:=vY l
 obtain⟨q,hq⟩:∃q:Nat,oo l=(q:Int):=⟨(oo l).toNat,by omega⟩
 have e:Go.bits .xor .i64 ((l.drop 0).foldl nV ((4294967295:Nat):Int)) 4294967295=kQ l:=by
  unfold kQ;rw[List.drop_zero,show l.foldl nV ((4294967295:Nat):Int)=oo l from rfl,hq];exact Vf q 4294967295 aj aH
 rw[e] at h;obtain⟨k,hk⟩:=Ev.rounds h
 refine (bZ.calls k A0 c0 l (kQ l) w hr hc hk).mono fun e w' ⟨h1,n,hn⟩=>⟨h1,hn▸av (Below.refl _ _) n⟩
end Go.Proofs.YtknihldkhedpkaaGreatDoor
end
section
namespace Go.Proofs.YtknihldkhedpkaaGreatDoor
open Go.RowKit
open Go.Lib hiding bytesOf bytesOf_length bytesOf_take
open Go.Proofs.YtknihldkhedpkaaGreatDoorW.PrintWords Go.Proofs.YtknihldkhedpkaaGreatDoorW.PrintLast Go.Proofs.YtknihldkhedpkaaGreatDoor.PT
def sw (x:It):Nat:=(fA x).length
theorem Lj (x:It):sw x=3+x.f1.size+(if x.f0=1 then 12+8*x.f4.length+x.f5.length else if x.f0=3∨x.f0=4 then 2+x.f2.size else 0):=by
 unfold sw fA;simp only[List.length_append,aU,Go.Proofs.YtknihldkhedpkaaGreatDoorW.PrintWords.bytesOf_length];by_cases h1:x.f0=1
 ·rw[if_pos h1,if_pos h1];simp only[List.length_append,aU,uL]
  all_goals omega
 rw[if_neg h1,if_neg h1];by_cases h2:x.f0=3∨x.f0=4
 ·rw[if_pos h2,if_pos h2];simp only[List.length_append,aU,Go.Proofs.YtknihldkhedpkaaGreatDoorW.PrintWords.bytesOf_length]
  all_goals omega
 rw[if_neg h2,if_neg h2]
 all_goals simp
theorem DN:∀(l:List It) (out:List Int) (n:Nat),out.length+9≤4194304→nX out n l=if out.length+(l.map sw).sum+9 > 4194304 then ([],7) else (kP (out++l.flatMap fA) ((n+l.length:Nat):Int),0)
 | [],out,n,h=>by
  rw[nX,if_neg (by simp;omega)];simp
 | x::l,out,n,h=>by
  rw[nX,List.map_cons,List.sum_cons];by_cases h1:(out++fA x).length+9 > 4194304
  ·rw[if_pos h1,if_pos (by rw[List.length_append] at h1;show out.length+(sw x+_)+9 > _;unfold sw;omega)]
  rw[if_neg h1,DN l _ _ aj]
  have e:(out++fA x).length+(l.map sw).sum+9=out.length+(sw x+(l.map sw).sum)+9:=by rw[List.length_append];unfold sw;omega
  rw[e,List.flatMap_cons,List.append_assoc,List.length_cons,show n+1+l.length=n+(l.length+1) by omega]
theorem Ci {K:List (ByteArray × Int)} {b:Option (List ByteArray)} {x:It} (h:qE K b x=true) (hf:Fit x):x.f1.size≤1023∧x.f4.length≤16523∧x.f5.length≤8459776∧x.f2.size≤140737488351232∧1≤x.f0∧x.f0≤4∧(0≤x.f3∧x.f3≤9223372036854775807)∧(∀r∈x.f4,(0≤r.f0∧r.f0≤9223372036854775807)∧(0≤r.f1∧r.f1≤9223372036854775807))∧sw x≤140737500000000:=by
 unfold qE at h;simp only[Bool.and_eq_true] at h;obtain⟨⟨⟨h1,_⟩,_⟩,h2⟩:=h;have hp:=Vp.size h1;have hk:=xO h2;have ht:=hf.t
 suffices hh:x.f4.length≤16523∧x.f5.length≤8459776∧(0≤x.f3∧x.f3≤9223372036854775807)∧(∀r∈x.f4,(0≤r.f0∧r.f0≤9223372036854775807)∧(0≤r.f1∧r.f1≤9223372036854775807)) by
  refine⟨hp,hh.1,hh.2.1,ht,hk.1,hk.2,hh.2.2.1,hh.2.2.2,?_⟩;rw[Lj];split
  ·omega
  split <;> omega
 by_cases k1:x.f0=1
 ·unfold eT at h2;rw[if_pos k1,Bool.and_eq_true] at h2;have hs:=Cj h2.2
  have hs3:0≤x.f3∧x.f3≤8459264:=by
   have:=h2.2;unfold dW at this;split at this
   ·cases this
   omega
  refine⟨hs.1,hs.2,by omega,?_⟩
  have hro:∀(l:List Ru) (last all:Int) (o:Int × Int),gy x.f3 last all l=some o→∀r∈l,(0≤r.f0∧r.f0≤9223372036854775807)∧(0≤r.f1∧r.f1≤9223372036854775807):=by
   intro l
   induction l with
   | nil=>intro _ _ _ _ r hr;cases hr
   | cons q l ih=>
    intro last all o ho r hr;rw[gy] at ho;split at ho
    ·cases ho
    rcases List.mem_cons.1 hr with rfl|hr
    ·omega
    exact ih _ _ _ ho r hr
  have h3:=h2.2;unfold dW at h3;rw[if_neg aj] at h3
  cases hrk:gy x.f3 (-1) 0 x.f4 with
  | none=>rw[hrk] at h3;cases h3
  | some o=>exact hro _ _ _ _ hrk
 have hb:iy x=true:=by
  by_cases k2:x.f0=2
  ·rw[io2 k1 k2,Bool.and_eq_true] at h2;exact h2.1
  by_cases k3:x.f0=3
  ·rw[io3 k1 k2 k3,Bool.and_eq_true] at h2;exact h2.1
  have k4:x.f0=4:=by omega
  rw[io4 k1 k2 k3 k4,Bool.and_eq_true] at h2;exact h2.1
 unfold iy at hb;simp only[Bool.and_eq_true,decide_eq_true_eq] at hb;have h4:x.f4=[]:=List.length_eq_zero_iff.1 hb.1.2;refine⟨by omega,by omega,by omega,fun r hr=>?_⟩;rw[h4] at hr;cases hr
theorem Uc {B:Nat} {w0 W:World} (l:List Int) (hB:Below B w0 W) (hle:B≤W.heap.size) (hm:l.length≤9223372036854775807):oC B w0 (W.alloc (.cells (l.map (Value.int .u8)).toArray 5)) (.slice (some ⟨W.heap.size,0,none⟩) l.length l.length) l:=by
 refine⟨⟨fun _ _=>trivial,l.map (Value.int .u8),?_,?_⟩,hB.alloc hle _,?_⟩
 ·have h2:=World.ownsRow_lit (base:=B) (e:=5) (size:=1) W (l.map (Value.int .u8)).toArray l.length hle (by simpa [maxLen] using hm) bB;exact h2
 ·have:∀l:List Int,dN ((Kd.int .u8).M (W.alloc (.cells (l.map (Value.int .u8)).toArray 5)) B (fun k=>True∧some k≠(Value.slice (some ⟨W.heap.size,0,none⟩) l.length l.length).ownBlock)) (Kd.int .u8).sz l (l.map (Value.int .u8)):=fun l=>by
   have h:∀(m:List Int) (R:Int→List Value→Prop),(∀x,R x [Value.int .u8 x])→dN R 1 m (m.map (Value.int .u8)):=by
    intro m R hR
    induction m with
    | nil=>exact dN.none _ _
    | cons x m ih=>exact dN.one (hR x) ih
   exact h l _ (fun x=>rfl)
  exact this l
 rw[World.size_alloc];omega
theorem DR:∀(l:List It),(l.flatMap fA).length=(l.map sw).sum
 | []=>rfl
 | x::l=>by rw[List.flatMap_cons,List.length_append,DR l,List.map_cons,List.sum_cons];rfl
theorem X9 (l:List It) (j:Nat):((l.take j).map sw).sum≤(l.map sw).sum:=by
 have h:=congrArg (fun q=>(q.map sw).sum) (List.take_append_drop j l);simp only[List.map_append,List.sum_append] at h;omega
theorem QG {w w1:World} {ad:Addr} {k:Nat} {v0 v1 v2 v3 v4 v5:Value} (hb:Below w.heap.size w w1) (h:w.cell? (ad.add k)=some v0∧w.cell? ⟨(ad.add k).block,(ad.add k).off+1,none⟩=some v1∧w.cell? ⟨(ad.add k).block,(ad.add k).off+2,none⟩=some v2∧w.cell? ⟨(ad.add k).block,(ad.add k).off+3,none⟩=some v3∧w.cell? ⟨(ad.add k).block,(ad.add k).off+4,none⟩=some v4∧w.cell? ⟨(ad.add k).block,(ad.add k).off+5,none⟩=some v5):w1.cell? (ad.add k)=some v0∧w1.cell? ⟨(ad.add k).block,(ad.add k).off+1,none⟩=some v1∧w1.cell? ⟨(ad.add k).block,(ad.add k).off+2,none⟩=some v2∧w1.cell? ⟨(ad.add k).block,(ad.add k).off+3,none⟩=some v3∧w1.cell? ⟨(ad.add k).block,(ad.add k).off+4,none⟩=some v4∧w1.cell? ⟨(ad.add k).block,(ad.add k).off+5,none⟩=some v5 :=
 ⟨au hb h.1,au hb h.2.1,au hb h.2.2.1,au hb h.2.2.2.1,au hb h.2.2.2.2.1,au hb h.2.2.2.2.2⟩
def RpE (l:List It) (w:World) (e:Ending) (w':World):Prop:=Below w.heap.size w w'∧∃v,e=.returned (.tuple #[v,.int .i64 (dI l).2])∧Kd.R (Kd.int .u8) 5 w' w.heap.size (fun _=>True) v (dI l).1
theorem QH {l:List It} {w w':World} {n:Int} (h:dI l=([],n)) (hb:Below w.heap.size w w'):RpE l w (.returned (.tuple #[.slice none 0 0,.int .i64 n])) w':=⟨hb,.slice none 0 0,by rw[h],by rw[h];exact Kd.eD _ _ _ _ _⟩
theorem Hl (A0:Option Addr) (c0:Nat) (l:List It) (w:World) (hr:Kd.C mV w A0 l.length l) (hc:l.length≤c0) (hf:∀x∈l,Fit x) (hn:l.length≤140737488351232) :
  Calls Tryz.prog 59 #[.slice A0 l.length c0] w fun e w'=>RpE l w e w':=by
 by_cases h4:4096<l.length
 ·have hP:=ah.mk (show dI l=([],7) by unfold dI;rw[if_pos h4]);have d1:decide ((4096:Int)<(l.length:Int))=true:=decide_eq_true aj;have d2:decide (4096<l.length)=true:=decide_eq_true h4
  go_enter Tryz.func59,Tryz.ntmps59
  go_wp2_with fail
  go_ret2
  exact QH hP.out (Below.refl _ _)
 have d1:decide ((4096:Int)<(l.length:Int))=false:=decide_eq_false aj;have d2:decide (4096<l.length)=false:=decide_eq_false h4;have hP:=ah.mk (show dI l=if lZ l=true then nX jA 0 l else ([],150) by unfold dI;rw[if_neg h4]);have HR:=ah.mk hr;have HF:=ah.mk hf
 have hll:l.length≤4096:=by omega
 clear hr hf h4
 go_enter Tryz.func59,Tryz.ntmps59
 go_wp2_with fail
 clear d1 d2
 go_loopg [4,5] l.length (fun g s4 s5 wx=>∃(i L:Nat) (K:List (ByteArray × Int)) (b:Option (List ByteArray)),i+g=l.length∧s4=.int .i64 L∧s5=.int .i64 i∧L≤17+i*140737500000000∧ah (L=17+((l.take i).map sw).sum)∧ah (sS l i K b)∧ah (lZ l=gL K b (l.drop i))∧ah (∀j (hj:j<l.length),j<i→∃K b,qE K b l[j]=true)∧ah (Below w.heap.size w wx))
 case atStart=>exact⟨0,17,_,_,by omega,rfl,rfl,by omega,⟨by simp⟩,⟨sS.zero l⟩,⟨rfl⟩,⟨fun j _ h=>absurd h (Nat.not_lt_zero j)⟩,⟨Below.refl _ _⟩⟩
 case round=>
  obtain⟨i,L,K,b,hig,rfl,rfl,hL,HL,HA,HG,HS,HB⟩:=hrel;by_cases hi:i<l.length
  ·have d1:decide ((i:Int)<(l.length:Int))=true:=decide_eq_true aj;have d2:decide (i<l.length)=true:=decide_eq_true hi;have hrc:=Np A0 c0 l i K b wr (Kd.aC HR.out HB.out) hc hi hll HF.out HA.out
   obtain⟨x,hx⟩:∃x,l[i]=x:=⟨_,rfl⟩
   have hg:=HG.out;rw[List.drop_eq_getElem_cons hi,KX,hx] at hg;rw[hx] at hrc;have HXI:=ah.mk hx;have hfx:Fit x:=hx▸HF.out _ (List.getElem_mem hi)
   cases hs:qE K b x with
   | false=>
    rw[hs,Bool.false_and] at hg;have hP2:=ah.mk (hP.out.trans (by rw[if_neg (by rw[hg];decide)]));rw[hs] at hrc;have HRC:=ah.mk hrc;clear hs hg hrc hx hfx HG HXI
    go_wp2_with (go_at_call 94;refine HRC.out.mono ?_;rintro e w1 ⟨rfl,hb1⟩)
    go_ret2
    exact QH hP2.out (HB.out.trans (hb1.mono HB.out.size))
   | true=>
    have hsz:=Ci hs hfx;have HA2:=ah.mk (HA.out.next hi (by rw[hx];exact hs))
    have HS2:ah (∀j (hj:j<l.length),j<i+1→∃K b,qE K b l[j]=true):=⟨fun j hj hji=>by
     by_cases e:j=i
     ·subst e;exact⟨K,b,by rw[hx];exact hs⟩
     exact HS.out j hj aj⟩
    rw[hs,Bool.true_and] at hg;have HG2:=ah.mk hg;rw[hs] at hrc;have HRC:=ah.mk hrc;have hil:=Lj x;have HIL:=ah.mk (show L+sw x=17+((l.take (i+1)).map sw).sum by rw[List.take_succ_eq_append_getElem hi,hx,List.map_append,List.sum_append,List.map_cons,List.map_nil,List.sum_cons,List.sum_nil];have:=HL.out;omega);rw[hx] at HA2;obtain⟨s1,s2,s3,s4,_,_,_,_,s9⟩:=hsz;clear hs hg hrc hfx HG HA HS HL;obtain⟨ad,A4,c4,A5,c5,VZ,r0,r1,r2,r3,r4,r5,_⟩:=jh (Kd.aC HR.out HB.out) (i:Int) aj aj
    have hrd:aI l (i:Int)=l[i]:=by simp[aI,hi]
    rw[hrd,hx,Int.toNat_natCast] at r0 r1 r2 r3 r4 r5;subst VZ;have HC:=ah.mk (⟨r0,r1,r2,r3,r4,r5⟩:_∧_∧_∧_∧_∧_);clear hrd hx r0 r1 r2 r3 r4 r5
    go_upto_region 9 with (go_at_call 94;refine HRC.out.mono ?_;rintro e w1 ⟨rfl,hb1⟩;have HB1:=ah.mk (HB.out.trans (hb1.mono HB.out.size));have Gr:=ah.mk (QG hb1 HC.out);clear hb1)
    obtain⟨r0,r1,r2,r3,r4,r5⟩:=Gr.out;have hz:=(Below.refl w1.heap.size w1).alloc (Nat.le_refl _) (.cells #[.int .i64 x.f0,.string x.f1,.string x.f2,.int .i64 x.f3,.slice A4 x.f4.length c4,.slice A5 x.f5.length c5] 29);have HB2:=ah.mk (HB1.out.trans (hz.mono HB1.out.size))
    have hL2:L+sw x≤17+(i+1)*140737500000000:=by omega
    clear HRC HC Gr HB hz;by_cases k1:x.f0=1
    ·have e1:(x.f0 == 1)=true:=beq_iff_eq.2 k1
     have e3:(x.f0 == 3)=false:=by rw[k1];rfl
     have e4:(x.f0 == 4)=false:=by rw[k1];rfl
     rw[if_pos k1] at hil;clear k1
     go_wp2_with fail
     go_roundg (l.length - (i+1))
     case measure=>omega
     case rel=>exact⟨i+1,L+sw x,_,_,by omega,by first|rfl|(congr 1;omega),by first|rfl|(push_cast;rfl)|simp,hL2,HIL,HA2,HG2,HS2,HB2⟩
    have e1:(x.f0 == 1)=false:=beq_eq_false_iff_ne.2 k1;rw[if_neg k1] at hil;by_cases k3:x.f0=3
    ·have e3:(x.f0 == 3)=true:=beq_iff_eq.2 k3;rw[if_pos (.inl k3)] at hil;clear k1 k3
     go_wp2_with fail
     go_roundg (l.length - (i+1))
     case measure=>omega
     case rel=>exact⟨i+1,L+sw x,_,_,by omega,by first|rfl|(congr 1;omega),by first|rfl|(push_cast;rfl)|simp,hL2,HIL,HA2,HG2,HS2,HB2⟩
    have e3:(x.f0 == 3)=false:=beq_eq_false_iff_ne.2 k3;by_cases k4:x.f0=4
    ·have e4:(x.f0 == 4)=true:=beq_iff_eq.2 k4;rw[if_pos (.inr k4)] at hil;clear k1 k3 k4
     go_wp2_with fail
     go_roundg (l.length - (i+1))
     case measure=>omega
     case rel=>exact⟨i+1,L+sw x,_,_,by omega,by first|rfl|(congr 1;omega),by first|rfl|(push_cast;rfl)|simp,hL2,HIL,HA2,HG2,HS2,HB2⟩
    have e4:(x.f0 == 4)=false:=beq_eq_false_iff_ne.2 k4;rw[if_neg aj] at hil;clear k1 k3 k4
    go_wp2_with fail
    go_roundg (l.length - (i+1))
    case measure=>omega
    case rel=>exact⟨i+1,L+sw x,_,_,by omega,by first|rfl|(congr 1;omega),by first|rfl|(push_cast;rfl)|simp,hL2,HIL,HA2,HG2,HS2,HB2⟩
  obtain rfl:i=l.length:=by omega
  have d1:decide ((l.length:Int)<(l.length:Int))=false:=decide_eq_false aj;have d2:decide (l.length<l.length)=false:=decide_eq_false hi;have hg:=HG.out;rw[List.drop_of_length_le (Nat.le_refl _)] at hg;have hl0:=HL.out;rw[List.take_length] at hl0;have hgo:=DN l jA 0 aH;have hmg:jA.length=8:=rfl;have hP2:=hP.out.trans (by rw[if_pos (by rw[hg];rfl),hgo]);have HSm:=ah.mk (fun x hx=>NW (l:=l) (by rw[hg];rfl) x hx);clear hg hgo HG HA HL hP;by_cases hbig:4194304<L
  ·have e1:decide ((4194304:Int)<(L:Int))=true:=decide_eq_true aj;have e2:decide (4194304<L)=true:=decide_eq_true hbig;rw[if_pos aj] at hP2;have HP:=ah.mk hP2;clear hP2 hbig hl0
   go_wp2_with fail
   go_ret2
   exact QH HP.out HB.out
  have e1:decide ((4194304:Int)<(L:Int))=false:=decide_eq_false aj;have e2:decide (4194304<L)=false:=decide_eq_false hbig;rw[if_neg aj] at hP2;have HP:=ah.mk hP2
  have hsum:(l.map sw).sum≤4194304:=by omega
  have IJ:=ah.mk hsum;have HM:=ah.mk (Uc (B:=w.heap.size) (w0:=w) (W:=wr) jA HB.out HB.out.size aH);clear hP2 hbig hl0 hL hsum
  go_wp2_with fail
  clear e1 e2 d1 d2
  go_loopg [7,8] l.length (fun g s7 s8 wx=>∃j:Nat,j+g=l.length∧s8=.int .i64 j∧ah (oC w.heap.size w wx s7 (jA++(l.take j).flatMap fA)))
  case atStart=>exact⟨0,by omega,rfl,⟨by rw[List.take_zero];exact HM.out⟩⟩
  case round=>
   obtain⟨j,hjg,rfl,HO⟩:=hrel;clear HM;by_cases hj:j<l.length
   ·have d1:decide ((j:Int)<(l.length:Int))=true:=decide_eq_true aj;have d2:decide (j<l.length)=true:=decide_eq_true hj
    obtain⟨x,hx⟩:∃x,l[j]=x:=⟨_,rfl⟩
    obtain⟨K1,b1,hst⟩:=HS.out j hj hj;rw[hx] at hst;have hmem:x∈l:=hx▸List.getElem_mem hj;obtain⟨s1,s2,s3,s4,_,_,s7,s8,s9⟩:=Ci hst (HF.out x hmem);have hsm:=HSm.out x hmem
    obtain⟨o,ho⟩:∃o,jA++(l.take j).flatMap fA=o:=⟨_,rfl⟩
    have hol:o.length≤8+4194304:=by
     rw[← ho,List.length_append,DR];have h1:=X9 l j;have h2:=IJ.out;have h3:jA.length=8:=rfl;omega
    have HE:=ah.mk (show jA++(l.take (j+1)).flatMap fA=o++fA x by rw[List.take_succ_eq_append_getElem hj,hx,List.flatMap_append,← List.append_assoc,ho];simp);rw[ho] at HO;obtain⟨ad,A4,c4,A5,c5,VZ,r0,r1,r2,r3,r4,r5,hc4,Xg,IU,Xh⟩:=jh HR.out (j:Int) aj aj
    have hrd:aI l (j:Int)=l[j]:=by simp[aI,hj]
    rw[hrd,hx,Int.toNat_natCast] at r0 r1 r2 r3 r4 r5;rw[hrd,hx] at hc4 Xg IU Xh;subst VZ;obtain⟨r0,r1,r2,r3,r4,r5⟩:=QG HO.out.s ⟨r0,r1,r2,r3,r4,r5⟩;have Ya:=ah.mk (fun v (hv:oC w.heap.size w wr v o)=>GN w v o x A4 c4 A5 c5 wr hv Xg hc4 Xh IU s7 s8 (by have:=hsm.t;omega));clear hrd hx hst hmem hsm ho Xg Xh s1 s2 s3 s4 s7 s8 s9 hol
    go_wp2_with (go_at_call 81;refine (Ya.out _ HO.out).mono ?_;rintro e w3 ⟨v3,rfl,ho3⟩;have Jr:=ah.mk (HE.out▸ho3);clear ho3)
    go_roundg (l.length - (j+1))
    case measure=>omega
    case rel=>exact⟨j+1,by omega,by first|rfl|(push_cast;rfl)|simp,Jr⟩
   obtain rfl:j=l.length:=by omega
   have d1:decide ((l.length:Int)<(l.length:Int))=false:=decide_eq_false aj;have d2:decide (l.length<l.length)=false:=decide_eq_false hj;have hO:=HO.out;rw[List.take_length] at hO
   obtain⟨o,ho⟩:∃o,jA++l.flatMap fA=o:=⟨_,rfl⟩
   have hol:o.length≤8+4194304:=by
    rw[← ho,List.length_append,DR];have h2:=IJ.out;have h3:jA.length=8:=rfl;omega
   have hob:∀y∈o,0≤y∧y≤255:=fun y hy=>by
    rw[← ho] at hy
    rcases List.mem_append.1 hy with hy|hy
    ·exact (show ∀y∈jA,0≤y∧y≤255 by decide) y hy
    obtain⟨x,hx,hy⟩:=List.mem_flatMap.1 hy;exact FJ (HF.out x hx) y hy
   rw[ho] at hO HP
   have wT:ah ((dI l).1=kP o ((0+l.length:Nat):Int)):=⟨by rw[HP.out]⟩
   have wS:ah ((dI l).2=0):=⟨by rw[HP.out]⟩
   clear HP;have HO:=ah.mk hO;have HOB:=ah.mk hob;clear ho hO hob
   go_upto_region 23 with ((with_reducible refine bQ (b:=.append) (xs:=#[.tmp 75,.tmp 76]) rfl ?_);at_builtin;refine pI HO.out rfl (.tmp 75) (.tmp 76) 27 rfl Tryz.underlying27 info5 rfl rfl aj ?_;intro v4 w4 pV hk4;have Di:=ah.mk pV;clear pV hk4)
   obtain⟨o1,ho1⟩:∃q,o++leB 1 0=q:=⟨_,rfl⟩
   have hn1:o1.length≤o.length+1:=by rw[← ho1,List.length_append,aU];omega
   have Di:ah (oC w.heap.size w w4 v4 o1):=⟨ho1▸Di.out⟩
   have HB1:ah (∀y∈o1,0≤y∧y≤255):=⟨fun y hy=>by rw[← ho1] at hy;rcases List.mem_append.1 hy with hy|hy;exact HOB.out y hy;exact eP 1 0 y hy⟩
   have Mg:=ah.mk ho1;clear ho1
   go_upto_region 24 with (go_at_call 80;refine (kC w.heap.size w _ o1 (l.length:Int) 4 _ Di.out aj aj aH).mono ?_;rintro e w5 ⟨v5,rfl,uY,hk5⟩;have E9:=ah.mk uY;clear uY hk5)
   obtain⟨o2,ho2⟩:∃q,o1++leB 4 (l.length:Int)=q:=⟨_,rfl⟩
   have hn2:o2.length≤o.length+5:=by rw[← ho2,List.length_append,aU];omega
   rw[ho2] at E9
   have HB2:ah (∀y∈o2,0≤y∧y≤255):=⟨fun y hy=>by rw[← ho2] at hy;rcases List.mem_append.1 hy with hy|hy;exact HB1.out y hy;exact eP 4 _ y hy⟩
   have HE2:=ah.mk ho2;obtain⟨A5,c5,hv5⟩:=Kd.bP E9.out.r;subst hv5;have hrd:=Kd.bU E9.out.r;have HSU:=ah.mk (NV A5 c5 o2 w5 hrd.2.2 hrd.2.1 HB2.out aj)
   have hcr:0≤kQ o2∧kQ o2≤9223372036854775807:=by have:=ow IntKind.u32.max (oo o2);unfold kQ;omega
   have OG:ah (kP o ((0+l.length:Nat):Int)=o2++leB 4 (kQ o2)):=⟨by unfold kP;rw[Nat.zero_add,Mg.out,HE2.out]⟩
   obtain⟨sm,hsm⟩:∃q,kQ o2=q:=⟨_,rfl⟩
   rw[hsm] at HSU hcr OG;clear ho2 hrd hsm
   go_upto_region 25 with (first
    | (go_at_call 82;refine HSU.out.mono ?_;rintro e w6 ⟨rfl,hb6⟩;have Fb:=ah.mk (E9.out.below hb6);clear hb6)
    | (go_at_call 80;refine (kC w.heap.size w _ o2 sm 4 _ Fb.out hcr aj aH).mono ?_;rintro e w7 ⟨v7,rfl,yA,GQ⟩;have Eb:=ah.mk yA;clear yA GQ))
   go_wp2_with fail
   go_ret2
   exact⟨Eb.out.s,v7,by rw[wS.out] <;> rfl,by rw[wT.out,OG.out];exact Eb.out.r⟩
def wO (l:List Int):Nat→Int
 | 0=>0
 | k+1=>256*wO l k+rd l ((l.length:Int) - ((k:Int)+1))
theorem afm (l:List Int):wO l 4=ji l:=by
 unfold ji;simp only[wO];rw[show ((0:Nat):Int)+1=1 from rfl,show ((1:Nat):Int)+1=2 from rfl,show ((2:Nat):Int)+1=3 from rfl,show ((3:Nat):Int)+1=4 from rfl];omega
theorem Ud {l:List Int} (h:∀x∈l,0≤x∧x≤255) (i:Int):0≤rd l i∧rd l i≤255:=by
 unfold rd;rw[List.getD_eq_getElem?_getD]
 cases hg:l[i.toNat]? with
 | none=>exact⟨Int.le_refl 0,by decide⟩
 | some x=>exact h x (List.mem_of_getElem? hg)
theorem Ho {l:List Int} (h:∀x∈l,0≤x∧x≤255):∀k,k≤4→0≤wO l k∧wO l k≤4294967295:=by
 have hb:=Ud h
 have key:0≤wO l 1∧wO l 1≤255∧0≤wO l 2∧wO l 2≤65535∧0≤wO l 3∧wO l 3≤16777215∧0≤wO l 4∧wO l 4≤4294967295:=by
  simp only[wO];have h0:=hb ((l.length:Int) - (((0:Nat):Int)+1));have h1:=hb ((l.length:Int) - (((1:Nat):Int)+1));have h2:=hb ((l.length:Int) - (((2:Nat):Int)+1));have h3:=hb ((l.length:Int) - (((3:Nat):Int)+1));omega
 intro k hk
 rcases (show k=0∨k=1∨k=2∨k=3∨k=4 by omega) with rfl|rfl|rfl|rfl|rfl
 ·exact⟨Int.le_refl 0,(show (0:Int)≤4294967295 by decide)⟩
 all_goals omega
theorem J2 (A0:Option Addr) (c0:Nat) (l:List It) (w:World) (hr:Kd.C mV w A0 l.length l) (hc:l.length≤c0) (hf:∀x∈l,Fit x) (ha:l.all rH=true) (hn:l.length≤140737488351232) :
  Calls Tryz.prog 28 #[.slice A0 l.length c0] w fun e w'=>e=.returned (.tuple #[.int .i64 (if (dI l).2=0 then ji (dI l).1 else 0),.int .i64 (dI l).2])∧Below w.heap.size w w':=by
 have HPC:=ah.mk (Hl A0 c0 l w hr hc hf hn)
 obtain⟨⟨o,e0⟩,hp⟩:∃q,dI l=q:=⟨_,rfl⟩
 have hpb:e0=0→4≤o.length∧o.length≤4194304∧∀b∈o,0≤b∧b≤255:=fun h=>by
  have:=sI (l:=l) (by rw[hp];exact h) ha;rw[hp] at this;exact this
 unfold RpE at HPC;rw[hp] at HPC ⊢;dsimp only at HPC ⊢
 obtain⟨S,hS⟩:∃S,(if e0=0 then ji o else 0)=S:=⟨_,rfl⟩
 rw[hS];have HS:=ah.mk hS;clear hr hf ha hp hS
 go_enter Tryz.func28,Tryz.ntmps28
 go_upto_region 2 with (go_at_call 59;refine HPC.out.mono ?_;rintro e w1 ⟨hb1,v1,rfl,hr1⟩;have HB1:=ah.mk hb1;have HR1:=ah.mk hr1;clear hb1 hr1)
 by_cases h0:e0=0
 ·have hb:=hpb h0;have e1:(e0 != 0)=false:=bne_eq_false_iff_eq.2 h0;obtain⟨A1,c1,hv1⟩:=Kd.bP HR1.out;subst hv1;have hrd:=Kd.bU HR1.out;have HC:=ah.mk hrd.2.2;have HBY:=ah.mk hb.2.2;obtain⟨h4,h9,_⟩:=hb
  have HSV:ah (S=ji o):=⟨by rw[← HS.out,if_pos h0]⟩
  clear HS;subst h0;clear hrd hpb HPC HR1
  go_wp2_with fail
  go_loopg [6,7] 4 (fun g s6 s7 wx=>∃k:Nat,k+g=4∧s6=.int .i64 (wO o k)∧s7=.int .i64 ((k:Int)+1)∧wx=w1)
  case atStart=>exact⟨0,by omega,rfl,rfl,rfl⟩
  case round=>
   obtain⟨k,hkg,rfl,rfl,rfl⟩:=hrel;by_cases hk:k<4
   ·have d1:decide ((k:Int)+1≤4)=true:=decide_eq_true aj;have hs:=Ho HBY.out k aj;have hs2:=Ho HBY.out (k+1) aj;have hbx:=Ud HBY.out ((o.length:Int) - ((k:Int)+1));obtain⟨ad,hA,hx⟩:=Kd.gZ HC.out ((o.length:Int) - ((k:Int)+1)) aj aj;rw[show ((o.length:Int) - ((k:Int)+1)).toNat=o.length - (k+1) by omega] at hx;subst hA;have HSS:=ah.mk (show wO o (k+1)=256*wO o k+rd o ((o.length:Int) - ((k:Int)+1)) from rfl)
    obtain⟨b,hbb⟩:∃b,rd o ((o.length:Int) - ((k:Int)+1))=b:=⟨_,rfl⟩
    rw[hbb] at hx hbx HSS
    obtain⟨s,hss⟩:∃s,wO o k=s:=⟨_,rfl⟩
    rw[hss] at hs HSS ⊢
    have hsum:256*s+b≤4294967295:=by rw[← HSS.out];exact hs2.2
    clear hbb hss hs2
    go_wp2_with fail
    go_roundg (4 - (k+1))
    case measure=>omega
    case rel=>exact⟨k+1,by omega,by rw[HSS.out],by first|rfl|(push_cast;rfl)|simp,rfl⟩
   obtain rfl:k=4:=by omega
   have d1:decide (((4:Nat):Int)+1≤4)=false:=by decide
   have HS4:=ah.mk (afm o);clear hk
   go_wp2_with fail
   go_ret2
   exact⟨by rw[HSV.out,← HS4.out] <;> rfl,HB1.out⟩
 have e1:(e0 != 0)=true:=bne_iff_ne.2 h0
 have HSV:ah (S=0):=⟨by rw[← HS.out,if_neg h0]⟩
 clear h0 hpb HS
 go_wp2_with fail
 go_ret2
 exact⟨by rw[HSV.out] <;> rfl,HB1.out⟩
end Go.Proofs.YtknihldkhedpkaaGreatDoor
end
