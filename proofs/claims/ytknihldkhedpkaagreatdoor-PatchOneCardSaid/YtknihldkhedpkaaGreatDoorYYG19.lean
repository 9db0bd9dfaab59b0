import Derived.Test.YtknihldkhedpkaaGreatDoorYYG18
import Derived.Test.YtknihldkhedpkaaGreatDoorYYG10
import Derived.Test.YtknihldkhedpkaaGreatDoorYYG11
import Derived.Test.YtknihldkhedpkaaGreatDoorYYG12
set_option linter.all false
set_option maxHeartbeats 16000000
set_option maxRecDepth 100000
section
namespace Go.Proofs.YtknihldkhedpkaaGreatDoor
open Go.RowKit Go.Lib
open Go.Proofs.YtknihldkhedpkaaGreatDoorW.PrintWords Go.Proofs.YtknihldkhedpkaaGreatDoorW.PrintLast Go.Proofs.YtknihldkhedpkaaGreatDoor.PT
theorem Mf:∀(m:Nat) (x:Int),0≤x→x<256 ^ m→Dp (leB m x)=x
 | 0,x,h0,h1=>by
  rw[leB,Dp];simp at h1;omega
 | m+1,x,h0,h1=>by
  rw[Int.pow_succ] at h1;rw[leB,Dp,Mf m (x / 256) (by omega) (by omega)];omega
theorem Mg {m:Nat} {x:Int} (hm:m≤7) (h0:0≤x) (h1:x<256 ^ m):JQ (leB m x)=x:=by
 rw[LJ (fM m x) (by rw[aZ];omega),Mf m x h0 h1]
theorem Mh:∀(m:Nat) (x:Int),leB (m+1) x=leB m x++[x / 256 ^ m % 256]
 | 0,x=>by simp[leB]
 | m+1,x=>by
  rw[leB,Mh m (x / 256),leB,List.cons_append,Int.pow_succ,Int.mul_comm,show x / (256*256 ^ m)=x / 256 / 256 ^ m from by rw[Int.ediv_ediv];simp]
theorem zU:∀(a b:List Int) (i:Nat) (v:Int),rT i v (a++b)=rT (i+a.length) (rT i v a) b
 | [],b,i,v=>by simp[rT]
 | c::a,b,i,v=>by
  rw[List.cons_append,rT,zU a b (i+1),rT,List.length_cons,show i+1+a.length=i+(a.length+1) by omega]
theorem or_zero {v:Int} (h0:0≤v) (h1:v<4611686018427387904):Go.bits .or .i64 v 0=v:=by
 have:=bits_join_low .i64 62 (by decide) (fun n h0 h1=>by rw[IntKind.wrap_i64];omega) 62 v 0 h0 (by omega) (by omega) (by omega) (by decide) (by decide);omega
theorem Sv {x:Int} (h0:0≤x) (h1:x<256 ^ 7):JQ (leB 8 x)=x:=by
 have h7:=Mg (m:=7) (by decide) h0 h1
 have hp:(256:Int) ^ 7=72057594037927936:=by decide
 rw[hp] at h1
 unfold JQ at *
 rw[Mh 7,zU,h7,hp,Int.ediv_eq_zero_of_lt h0 h1];rw[rT,rT,show (0:Int) % 256*2 ^ (8*(0+(leB 7 x).length))=0 by simp,wrap64_in (n:=0) (by decide) (by decide),or_zero h0 (by omega)]
theorem oo {m:Nat} {x:Int} (r:List Int) (hm:m≤7) (h0:0≤x) (h1:x<256 ^ m):gF m (leB m x++r)=some (x,r):=by
 unfold gF;rw[if_pos (by rw[List.length_append,aZ];omega),List.take_left' (aZ m x),List.drop_left' (aZ m x),Mg hm h0 h1]
theorem I7 {x:Int} (r:List Int) (h0:0≤x) (h1:x<256 ^ 7):gF 8 (leB 8 x++r)=some (x,r):=by
 unfold gF;rw[if_pos (by rw[List.length_append,aZ];omega),List.take_left' (aZ 8 x),List.drop_left' (aZ 8 x),Sv h0 h1]
theorem xL (a r:List Int) {n:Nat} (h:a.length=n):lK n (a++r)=some (a,r):=by
 unfold lK;rw[if_pos (by rw[List.length_append];omega),List.take_left' h,List.drop_left' h]
theorem Sw (s:ByteArray):strOfNums (Go.Proofs.YtknihldkhedpkaaGreatDoorW.PrintWords.bytesOf s)=s:=by
 unfold Go.Proofs.YtknihldkhedpkaaGreatDoorW.PrintWords.bytesOf strOfNums;apply ByteArray.ext;apply Array.ext';simp[List.map_map,Function.comp_def]
theorem UK {l l1 b l2:List Int} {n:Int} (h1:gF 2 l=some (n,l1)) (h2:lK n.toNat l1=some (b,l2)):iF l=some (strOfNums b,l2):=by
 unfold iF;rw[h1];dsimp only;rw[h2]
theorem UL {l l1:List Int} {n:Int} (h1:gF 4 l=some (n,l1)):lg l=ug n.toNat 0 [] l1:=by
 unfold lg;rw[h1]
theorem sP (s:ByteArray) (r:List Int) (h:s.size≤65535):iF (jf s++r)=some (s,r):=by
 have hp:(256:Int) ^ 2=65536:=by decide
 have e1:=oo (m:=2) (x:=(s.size:Int)) (Go.Proofs.YtknihldkhedpkaaGreatDoorW.PrintWords.bytesOf s++r) (by decide) (by omega) (by omega);have e2:=xL (Go.Proofs.YtknihldkhedpkaaGreatDoorW.PrintWords.bytesOf s) r (Go.Proofs.YtknihldkhedpkaaGreatDoorW.PrintWords.bytesOf_length s);have e3:=Sw s
 have e0:jf s++r=leB 2 (s.size:Int)++(Go.Proofs.YtknihldkhedpkaaGreatDoorW.PrintWords.bytesOf s++r):=by unfold jf;rw[List.append_assoc]
 have h:=UK e1 (by rw[Int.toNat_natCast];exact e2);rw[e0,h,e3]
def yC:List Ru→Int
 | []=>0
 | r::l=>(r.f1 - r.f0)+yC l
theorem CK:∀(l:List Ru) (all:Int) (acc:List Ru) (r:List Int),(∀q∈l,0≤q.f0∧q.f0<q.f1∧q.f1≤16522)→ug l.length all acc (jB l++r)=some (acc++l,all+yC l,r)
 | [],all,acc,r,_=>by simp[ug,jB,yC]
 | q::l,all,acc,r,h=>by
  have hq:=h q (by simp)
  have hp:(256:Int) ^ 4=4294967296:=by decide
  have e:jB (q::l)++r=leB 4 q.f0++(leB 4 q.f1++(jB l++r)):=by unfold jB;simp[List.append_assoc]
  rw[List.length_cons,ug,e,oo (m:=4) _ (by decide) hq.1 (by omega)];dsimp only;rw[oo (m:=4) _ (by decide) (by omega) (by omega)];dsimp only;rw[if_neg (by omega),CK l _ _ r (fun x hx=>h x (by simp[hx])),yC,List.append_assoc];simp;omega
theorem wN (l:List Ru) (r:List Int) (h:∀q∈l,0≤q.f0∧q.f0<q.f1∧q.f1≤16522) (hl:l.length≤1048576):lg (jv l++r)=some (l,yC l,r):=by
 have hp:(256:Int) ^ 4=4294967296:=by decide
 have e1:=oo (m:=4) (x:=(l.length:Int)) (jB l++r) (by decide) (by omega) (by omega)
 have e0:jv l++r=leB 4 (l.length:Int)++(jB l++r):=by unfold jv;rw[List.append_assoc]
 have e2:=CK l 0 [] r h;rw[e0,UL e1,Int.toNat_natCast,e2,List.nil_append,Int.zero_add]
theorem I8 (d r:List Int) {n:Int} (h:(d.length:Int)=n*512):o7 n (d++r)=some (d,r):=by
 unfold o7;rw[if_neg (by rw[List.length_append];omega),xL _ _ (by omega)]
theorem za {most:Int}:∀(l:List Ru) (last all n:Int),gH most last all l=some n→-1≤last→n=all+yC l∧∀q∈l,0≤q.f0∧q.f0<q.f1∧q.f1≤most
 | [],last,all,n,h,_=>by
  rw[gH] at h
  injection h with h
  exact⟨by rw[yC];omega,fun q hq=>by cases hq⟩
 | r::l,last,all,n,h,hl=>by
  rw[gH] at h;split at h
  ·cases h
  ·rename_i hc;have ih:=za l r.f1 _ n h (by omega);refine⟨by rw[yC];omega,fun q hq=>?_⟩
   rcases List.mem_cons.1 hq with rfl|hq
   ·omega
   ·exact ih.2 q hq
theorem ED {x:It} {n:Int} (h:fT x=some n):n=yC x.f4∧0≤x.f3∧x.f3≤8459264∧∀q∈x.f4,0≤q.f0∧q.f0<q.f1∧q.f1≤16522:=by
 obtain⟨h0,h1,h2⟩:=wI h;have h3:=za x.f4 (-1) 0 n h2 (by omega);exact⟨by omega,h0,h1,fun q hq=>by have:=h3.2 q hq;omega⟩
theorem zV {s:ByteArray} (h:s.size=0):s=⟨#[]⟩:=by
 apply ByteArray.ext;exact Array.eq_empty_of_size_eq_zero h
theorem Ov {l l1 l2 l3 l4 l5:List Int} {k sz all:Int} {p:ByteArray} {rs:List Ru} {d:List Int} (h1:gF 1 l=some (k,l1)) (h2:iF l1=some (p,l2)) (k1:k=1) (h3:gF 8 l2=some (sz,l3)) (h4:lg l3=some (rs,all,l4)) (h5:o7 all l4=some (d,l5)):nY l=some (⟨k,p,⟨#[]⟩,sz,rs,d⟩,l5):=by
 unfold nY;rw[h1];dsimp only;rw[h2];dsimp only;rw[if_pos k1,h3];dsimp only;rw[h4];dsimp only;rw[h5]
theorem Ow {l l1 l2 l3:List Int} {k:Int} {p t:ByteArray} (h1:gF 1 l=some (k,l1)) (h2:iF l1=some (p,l2)) (k1:¬k=1) (k3:k=3∨k=4) (h3:iF l2=some (t,l3)):nY l=some (⟨k,p,t,0,[],[]⟩,l3):=by
 unfold nY;rw[h1];dsimp only;rw[h2];dsimp only;rw[if_neg k1,if_pos k3,h3]
theorem Mi {l l1 l2:List Int} {k:Int} {p:ByteArray} (h1:gF 1 l=some (k,l1)) (h2:iF l1=some (p,l2)) (k1:¬k=1) (k3:¬(k=3∨k=4)):nY l=some (⟨k,p,⟨#[]⟩,0,[],[]⟩,l2):=by
 unfold nY;rw[h1];dsimp only;rw[h2];dsimp only;rw[if_neg k1,if_neg k3]
theorem J2 {l l1:List Int} {k:Int} {p:ByteArray} (k1:k=1) (h1:iF l=some (p,l1)):jc k l=some (⟨k,⟨0,p,⟨#[]⟩,0,[],[]⟩,[]⟩,l1):=by
 unfold jc;rw[if_pos k1,h1]
theorem Mj {l l1:List Int} {k:Int} {x:It} (k2:k=2) (h1:nY l=some (x,l1)):jc k l=some (⟨k,x,[]⟩,l1):=by
 unfold jc;rw[if_neg (by omega),if_pos k2,h1]
theorem J3 {l l1 l2 l3 l4 l5:List Int} {k sz a1 all:Int} {p:ByteArray} {rs st:List Ru} {d:List Int} (k3:k=3) (h1:iF l=some (p,l1)) (h2:gF 8 l1=some (sz,l2)) (h3:lg l2=some (rs,a1,l3)) (h4:lg l3=some (st,all,l4)) (h5:o7 all l4=some (d,l5)):jc k l=some (⟨k,⟨1,p,⟨#[]⟩,sz,rs,d⟩,st⟩,l5):=by
 unfold jc;rw[if_neg (by omega),if_neg (by omega),if_pos k3,h1];dsimp only;rw[h2];dsimp only;rw[h3];dsimp only;rw[h4];dsimp only;rw[h5]
theorem Mk {x:It} (r:List Int) (hk:je x=true) (hp:x.f1.size≤65535):nY (iD x++r)=some (x,r):=by
 have hs:=QH hk
 have e:iD x++r=leB 1 x.f0++(jf x.f1++((if x.f0=1 then leB 8 x.f3++leB 4 x.f4.length++jB x.f4++x.f5 else if x.f0=3∨x.f0=4 then leB 2 x.f2.size++Go.Proofs.YtknihldkhedpkaaGreatDoorW.PrintWords.bytesOf x.f2 else [])++r)):=by
  unfold iD jf;simp only[List.append_assoc]
 have hkr:1≤x.f0∧x.f0≤4:=by
  by_cases k1:x.f0=1
  ·omega
  ·by_cases k2:x.f0=2
   ·omega
   ·by_cases k3:x.f0=3
    ·omega
    ·by_cases k4:x.f0=4
     ·omega
     ·rw[pu5 k1 k2 k3 k4] at hk;cases hk
 have p1:(256:Int) ^ 1=256:=by decide
 have p7:(256:Int) ^ 7=72057594037927936:=by decide
 obtain⟨T,hT⟩:∃T,(if x.f0=1 then leB 8 x.f3++leB 4 (x.f4.length:Int)++jB x.f4++x.f5 else if x.f0=3∨x.f0=4 then leB 2 (x.f2.size:Int)++Go.Proofs.YtknihldkhedpkaaGreatDoorW.PrintWords.bytesOf x.f2 else [])=T:=⟨_,rfl⟩
 rw[hT] at e;have e1:=oo (m:=1) (x:=x.f0) (jf x.f1++(T++r)) (by decide) (by omega) (by omega);have e2:=sP x.f1 (T++r) hp;rw[e];by_cases k1:x.f0=1
 ·rw[if_pos k1] at hT;rw[pu1 k1] at hk
  cases hsz:fT x with
  | none=>rw[hsz] at hk;cases hk
  | some n=>
   rw[hsz] at hk;simp only[Bool.and_eq_true,decide_eq_true_eq] at hk;obtain⟨hn,h0,h1,hr⟩:=ED hsz
   have eT:T++r=leB 8 x.f3++(jv x.f4++(x.f5++r)):=by rw[← hT];unfold jv;simp only[List.append_assoc]
   have e3:=I7 (x:=x.f3) (jv x.f4++(x.f5++r)) h0 (by omega);have e4:=wN x.f4 (x.f5++r) hr (by omega);have e5:=I8 x.f5 r (n:=yC x.f4) (by rw[← hn];exact hk.2.1);rw[← eT] at e3;rw[Ov e1 e2 k1 e3 e4 e5,← zV hk.1]
 ·rw[if_neg k1] at hT;by_cases k3:x.f0=3∨x.f0=4
  ·rw[if_pos k3] at hT
   have hb:jo x=true:=by
    rcases k3 with k3|k3
    ·rw[pu3 (by omega) (by omega) k3] at hk;exact (Bool.and_eq_true_iff.1 hk).1
    ·rw[pu4 (by omega) (by omega) (by omega) k3] at hk;exact (Bool.and_eq_true_iff.1 hk).1
   obtain⟨b3,b4,b5⟩:=wL hb
   have eT:T++r=jf x.f2++r:=by rw[← hT];rfl
   have e3:=sP x.f2 r (by omega);rw[← eT] at e3;have h4:=List.length_eq_zero_iff.1 b4;have h5:=List.length_eq_zero_iff.1 b5;rw[Ow e1 e2 k1 k3 e3]
   congr 2
   cases x;simp only at b3 h4 h5 ⊢;rw[b3,h4,h5]
  ·rw[if_neg k3] at hT
   have k2:x.f0=2:=by omega
   rw[pu2 k1 k2] at hk;simp only[Bool.and_eq_true,decide_eq_true_eq] at hk;obtain⟨b3,b4,b5⟩:=wL hk.1;have h2:=zV hk.2;have h4:=List.length_eq_zero_iff.1 b4;have h5:=List.length_eq_zero_iff.1 b5;rw[Mi e1 e2 k1 k3,← hT,List.nil_append]
   congr 2
   cases x;simp only at b3 h2 h4 h5 ⊢;rw[b3,h2,h4,h5]
theorem Ml {c:pR} (r:List Int) (hk:kQ c=true) (hp:c.f1.f1.size≤65535):∃l1,qB c++r=leB 1 c.f0++l1∧1≤c.f0∧c.f0≤3∧jc c.f0 l1=some (c,r):=by
 have hs:=aao hk;unfold kQ at hk;unfold qB;by_cases k1:c.f0=1
 ·rw[if_pos k1] at hk;simp only[Bool.and_eq_true,decide_eq_true_eq] at hk;refine⟨jf c.f1.f1++r,by rw[if_pos k1,List.append_assoc],by omega,by omega,?_⟩;rw[J2 k1 (sP _ r hp)];obtain⟨h1,h2,h3,h4,h5,h6⟩:=hk;have g1:=List.length_eq_zero_iff.1 h1;have g5:=List.length_eq_zero_iff.1 h5;have g6:=List.length_eq_zero_iff.1 h6;have g4:=zV h4;obtain⟨f0,⟨i0,i1,i2,i3,i4,i5⟩,f2⟩:=c;simp only at g1 h2 h3 g4 g5 g6 ⊢;rw[g1,h2,h3,g4,g5,g6]
 ·rw[if_neg k1] at hk;by_cases k2:c.f0=2
  ·rw[if_pos k2] at hk;simp only[Bool.and_eq_true,decide_eq_true_eq] at hk;refine⟨iD c.f1++r,by rw[if_neg k1,if_pos k2,List.append_assoc],by omega,by omega,?_⟩;rw[Mj k2 (Mk r hk.2 hp)];have g1:=List.length_eq_zero_iff.1 hk.1;obtain⟨f0,i,f2⟩:=c;simp only at g1 ⊢;rw[g1]
  ·rw[if_neg k2] at hk;by_cases k3:c.f0=3
   ·rw[if_pos k3] at hk;unfold jT at hk
    cases hsz:fT c.f1 with
    | none=>rw[hsz] at hk;cases hk
    | some n=>
     rw[hsz] at hk;dsimp only at hk;split at hk
     ·cases hk
     ·rename_i hne
      have hf0:c.f1.f0=1:=Classical.byContradiction fun h=>hne (.inl h)
      have hf2:c.f1.f2.size=0:=Classical.byContradiction fun h=>hne (.inr h)
      cases hap:iQ c.f2 16522 with
      | none=>rw[hap] at hk;cases hk
      | some m=>
       rw[hap] at hk;simp only[Bool.and_eq_true,decide_eq_true_eq] at hk;obtain⟨hn,h0,h1,hr⟩:=ED hsz;have ha:=za c.f2 (-1) 0 m hap (by omega);refine⟨jf c.f1.f1++(leB 8 c.f1.f3++(jv c.f1.f4++(jv c.f2++(c.f1.f5++r)))),by rw[if_neg k1,if_neg k2,if_pos k3];simp only[List.append_assoc],by omega,by omega,?_⟩
       have p7:(256:Int) ^ 7=72057594037927936:=by decide
       rw[J3 k3 (sP _ _ hp) (I7 _ h0 (by omega)) (wN _ _ hr (by omega)) (wN _ _ ha.2 (by omega)) (I8 _ _ (by rw[hk.2.1,ha.1];simp))];have g2:=zV hf2;obtain⟨f0,⟨i0,i1,i2,i3,i4,i5⟩,f2⟩:=c;simp only at g2 hf0 ⊢;rw[g2,hf0]
   ·rw[if_neg k3] at hk;cases hk
theorem aeK (t:List Int):gF 1 (leB 1 0++t)=some (0,t):=oo (m:=1) (x:=0) t (by decide) (by decide) (by decide)
theorem Mq {f:Nat} {k k2:Int} {acc:List pR} {l l1 l2:List Int} {c:pR} (hk:¬k=0) (h1:jc k l=some (c,l1)) (h2:gF 1 l1=some (k2,l2)):pE (f+1) k acc l=pE f k2 (acc++[c]) l2:=by
 rw[pE,if_neg hk,h1];dsimp only;rw[h2]
theorem UM {c:pR} (r:List Int) (hk:kQ c=true) (hp:c.f1.f1.size≤65535):∃l1,gF 1 (qB c++r)=some (c.f0,l1)∧¬c.f0=0∧jc c.f0 l1=some (c,r):=by
 obtain⟨l1,e,h1,h3,h⟩:=Ml r hk hp
 have p1:(256:Int) ^ 1=256:=by decide
 exact⟨l1,by rw[e];exact oo (m:=1) (x:=c.f0) l1 (by decide) (by omega) (by omega),by omega,h⟩
theorem CP:∀(cs acc:List pR) (f:Nat) (last:ByteArray) (t:List Int),cs.length<f→fU last cs=true→∃k r,gF 1 (cs.flatMap qB++(leB 1 0++t))=some (k,r)∧pE f k acc r=some (acc++cs,t)
 | [],acc,f,last,t,hf,_=>by
  obtain⟨f,rfl⟩:∃f',f=f'+1:=⟨f - 1,by omega⟩
  exact⟨0,t,aeK t,by rw[pE,if_pos rfl,List.append_nil]⟩
 | c::cs,acc,f,last,t,hf,hr=>by
  obtain⟨f,rfl⟩:∃f',f=f'+1:=⟨f - 1,by omega⟩
  rw[fU] at hr;simp only[Bool.and_eq_true] at hr;have hp:=oh hr.1;obtain⟨l1,h1,h2,h3⟩:=UM (cs.flatMap qB++(leB 1 0++t)) hr.2.2.1 (by omega);obtain⟨k2,r2,h4,h5⟩:=CP cs (acc++[c]) f _ t (by rw[List.length_cons] at hf;omega) hr.2.2.2;refine⟨c.f0,l1,by rw[List.flatMap_cons,List.append_assoc];exact h1,?_⟩;rw[Mq h2 h3 h4,h5,List.append_assoc];rfl
theorem EF (n:Int):∀(l:List pR) (out:List Int),(kG n out l).2=0→(kG n out l).1=kF (out++l.flatMap qB) n∧(l≠[]→(out++l.flatMap qB).length+9≤16777216)
 | [],out,_=>⟨by rw[kG,List.flatMap_nil,List.append_nil],fun h=>absurd rfl h⟩
 | c::l,out,h=>by
  rw[kG] at h ⊢;by_cases hb:(out++qB c).length+9 > 16777216
  ·rw[if_pos hb] at h;exact absurd h (by decide)
  ·rw[if_neg hb] at h ⊢;have ih:=EF n l _ h;rw[List.flatMap_cons,← List.append_assoc];refine⟨ih.1,fun _=>?_⟩
   by_cases hl:l=[]
   ·subst hl;rw[List.flatMap_nil,List.append_nil];omega
   ·exact ih.2 hl
theorem H7 (out:List Int) (n:Int):(kF out n).length=out.length+9:=by
 unfold kF;simp only[List.length_append,aZ]
theorem wO {b g:Int} {l:List pR} (h:(gL b g l).2=0):l.length≤8192∧rQ b g l=true∧(gL b g l).1=kF (iE++leB 4 b++leB 4 g++l.flatMap qB) l.length∧(gL b g l).1.length≤16777216:=by
 by_cases h1:8192<l.length
 ·have e:gL b g l=([],7):=by unfold gL;rw[if_pos h1]
  rw[e] at h;exact absurd h (by decide)
 ·by_cases h2:rQ b g l=true
  ·have e:gL b g l=kG l.length (iE++leB 4 b++leB 4 g) l:=by unfold gL;rw[if_neg h1,if_pos h2]
   rw[e] at h ⊢;obtain⟨h3,h4⟩:=EF _ _ _ h;refine⟨by omega,h2,h3,?_⟩;rw[h3,H7]
   by_cases hl:l=[]
   ·subst hl;rw[List.flatMap_nil,List.append_nil];simp only[List.length_append,aZ]
    decide
   ·exact h4 hl
  ·have e:gL b g l=([],180):=by unfold gL;rw[if_neg h1,if_neg h2]
   rw[e] at h;exact absurd h (by decide)
theorem Sy {l l1 l2 l3 l4:List Int} {b g k:Int} (h1:lK 8 l=some (iE,l1)) (h2:gF 4 l1=some (b,l2)) (h3:gF 4 l2=some (g,l3)) (h4:gF 1 l3=some (k,l4)):qj l=Er b g (pE (l.length+1) k [] l4):=by
 unfold qj;rw[h1];dsimp only;rw[if_pos rfl,h2];dsimp only;rw[h3];dsimp only;rw[h4]
theorem UN {b g:Int} {cs:List pR} {t x:List Int} (h:lK 8 t=some (x,[])):Er b g (some (cs,t))=some (b,g,cs):=by
 unfold Er;dsimp only;rw[h];dsimp only;rw[if_pos rfl]
theorem UO (cs:List pR):cs.length≤(cs.flatMap qB).length:=by
 induction cs with
 | nil=>simp
 | cons c cs ih=>
  rw[List.flatMap_cons,List.length_append,List.length_cons]
  have:1≤(qB c).length:=by unfold qB;rw[List.length_append,aZ];omega
  omega
theorem Ox {b g:Int} {l:List pR} (h:(gL b g l).2=0):qj (gL b g l).1=some (b,g,l):=by
 obtain⟨h1,h2,h3,_⟩:=wO h;unfold rQ at h2;simp only[Bool.and_eq_true,decide_eq_true_eq] at h2;obtain⟨b0,b1,g0,g1,hr⟩:=h2
 have p4:(256:Int) ^ 4=4294967296:=by decide
 obtain⟨t,ht⟩:∃t,leB 4 (l.length:Int)++leB 4 (BD (iE++leB 4 b++leB 4 g++l.flatMap qB++leB 1 0++leB 4 (l.length:Int)))=t:=⟨_,rfl⟩
 have ht8:t.length=8:=by rw[← ht,List.length_append,aZ,aZ]
 have e:(gL b g l).1=iE++(leB 4 b++(leB 4 g++(l.flatMap qB++(leB 1 0++t)))):=by
  rw[h3,← ht];unfold kF;simp only[List.append_assoc]
 rw[e]
 obtain⟨k,r,h4,h5⟩:=CP l [] ((iE++(leB 4 b++(leB 4 g++(l.flatMap qB++(leB 1 0++t))))).length+1) _ t (by
  have:=UO l;simp only[List.length_append]
  omega) hr
 rw[Sy (xL iE _ (by decide)) (oo (m:=4) (x:=b) _ (by decide) b0 (by omega)) (oo (m:=4) (x:=g) _ (by decide) g0 (by omega)) h4,h5,List.nil_append];exact UN (x:=t) (by have:=xL t [] ht8;rwa [List.append_nil] at this)
theorem Sz {b g:Int} {l:List pR} (h:(gL b g l).2=0):vM (gL b g l).1=(some (b,g,l),0):=by
 obtain⟨_,_,_,h4⟩:=wO h;have hp:=Ox h;unfold vM;rw[if_neg (by omega),hp];dsimp only;rw[if_neg (by rw[h];decide),if_pos rfl]
theorem wP:∀a:List UInt8,Op.bytesLess a a=false
 | []=>rfl
 | a::l=>by
  have:¬a<a:=by simp[UInt8.lt_iff_toNat_lt]
  simp[Op.bytesLess,this,wP l]
theorem EG:∀{a b c:List UInt8},Op.bytesLess a b=true→Op.bytesLess b c=true→Op.bytesLess a c=true
 | a,b,[],_,h=>by cases b <;> cases h
 | [],b,c::z,_,_=>rfl
 | a::x,[],c::z,h,_=>by cases h
 | a::x,b::y,c::z,h1,h2=>by
  simp only[Op.bytesLess,Bool.or_eq_true,Bool.and_eq_true,decide_eq_true_eq,beq_iff_eq] at h1 h2 ⊢
  rcases h1 with h1|⟨rfl,h1⟩
  ·rcases h2 with h2|⟨rfl,h2⟩
   ·exact .inl (by rw[UInt8.lt_iff_toNat_lt] at *;omega)
   ·exact .inl h1
  ·rcases h2 with h2|⟨rfl,h2⟩
   ·exact .inl h2
   ·exact .inr ⟨rfl,EG h1 h2⟩
theorem Mr:∀{a b:List UInt8},Op.bytesLess a b=false→Op.bytesLess b a=false→a=b
 | [],[],_,_=>rfl
 | [],b::y,h,_=>by cases h
 | a::x,[],_,h=>by cases h
 | a::x,b::y,h1,h2=>by
  simp only[Op.bytesLess,Bool.or_eq_false_iff,Bool.and_eq_false_iff,decide_eq_false_iff_not,beq_eq_false_iff_ne] at h1 h2
  have e:a=b:=by
   have h3:=h1.1;have h4:=h2.1;rw[UInt8.lt_iff_toNat_lt] at h3 h4;exact UInt8.toNat_inj.1 (by omega)
  subst e;rw[Mr (h1.2.resolve_left (fun h=>h rfl)) (h2.2.resolve_left (fun h=>h rfl))]
theorem Xv {a b:List UInt8} (h:Op.bytesLess a b=true):a≠b:=fun e=>by
 subst e;rw[wP] at h;cases h
def joinL:List (List UInt8)→List UInt8
 | []=>[]
 | a::l=>47::(a++joinL l)
def rW:List (List UInt8)→List UInt8
 | []=>[]
 | a::l=>0::(a++rW l)
def EH:List (List UInt8)→List (List UInt8)→Bool
 | [],[]=>false
 | [],_::_=>true
 | _::_,[]=>false
 | a::l,b::m=>if a=b then EH l m else Op.bytesLess a b
theorem Ms:∀l m:List ByteArray,oq l m=EH (l.map bs) (m.map bs)
 | [],[]=>rfl
 | [],_::_=>rfl
 | _::_,[]=>rfl
 | a::l,b::m=>by
  rw[oq,List.map_cons,List.map_cons,EH,Ms l m]
theorem Mt:∀{a b:List UInt8} {X Y:List UInt8},(∀c∈a,c≠0)→(∀c∈b,c≠0)→(X=[]∨∃X',X=0::X')→(Y=[]∨∃Y',Y=0::Y') →
  Op.bytesLess (a++X) (b++Y)=if a=b then Op.bytesLess X Y else Op.bytesLess a b
 | [],[],X,Y,_,_,_,_=>by simp
 | [],b::y,X,Y,_,hb,hX,_=>by
  have hb0:=hb b List.mem_cons_self
  rcases hX with rfl|⟨X',rfl⟩
  ·simp[Op.bytesLess]
  ·have:(0:UInt8)<b:=by
    rw[UInt8.lt_iff_toNat_lt]
    have:b.toNat≠0:=fun e=>hb0 (UInt8.toNat_inj.1 e)
    simp;omega
   simp[Op.bytesLess,this]
 | a::x,[],X,Y,ha,_,_,hY=>by
  have ha0:=ha a List.mem_cons_self
  rcases hY with rfl|⟨Y',rfl⟩
  ·simp[Op.bytesLess]
  ·have:¬a<(0:UInt8):=by
    rw[UInt8.lt_iff_toNat_lt];simp
   simp[Op.bytesLess,this,ha0]
 | a::x,b::y,X,Y,ha,hb,hX,hY=>by
  have ih:=Mt (a:=x) (b:=y) (fun c h=>ha c (List.mem_cons_of_mem _ h)) (fun c h=>hb c (List.mem_cons_of_mem _ h)) hX hY;rw[List.cons_append,List.cons_append,Op.bytesLess,ih];by_cases e:a=b
  ·subst e;by_cases e2:x=y
   ·subst e2
    have:¬a<a:=by simp[UInt8.lt_iff_toNat_lt]
    simp[this]
   ·rw[if_neg e2,if_neg (fun h=>e2 (List.cons.inj h).2),Op.bytesLess]
  ·rw[if_neg (fun h=>e (List.cons.inj h).1),Op.bytesLess];have:(a == b)=false:=beq_eq_false_iff_ne.2 e;rw[this,Bool.false_and,Bool.false_and]
theorem I9:∀{l m:List (List UInt8)},(∀a∈l,∀c∈a,c≠0)→(∀a∈m,∀c∈a,c≠0)→Op.bytesLess (rW l) (rW m)=EH l m
 | [],[],_,_=>rfl
 | [],b::m,_,_=>rfl
 | a::l,[],_,_=>rfl
 | a::l,b::m,h1,h2=>by
  have ht:∀l:List (List UInt8),rW l=[]∨∃X',rW l=0::X':=fun l=>by
   cases l with
   | nil=>exact .inl rfl
   | cons a l=>exact .inr ⟨_,rfl⟩
  have h0:¬(0:UInt8)<0:=by decide
  rw[rW,rW,Op.bytesLess,Mt (h1 a List.mem_cons_self) (h2 b List.mem_cons_self) (ht l) (ht m),EH,I9 (fun x hx=>h1 x (List.mem_cons_of_mem _ hx)) (fun x hx=>h2 x (List.mem_cons_of_mem _ hx))];simp
theorem yD:∀{l:List UInt8} {c:UInt8},Lib.indexByte l c≠-1→0≤Lib.indexByte l c∧l=l.take (Lib.indexByte l c).toNat++c::l.drop ((Lib.indexByte l c).toNat+1)
 | [],c,h=>absurd rfl h
 | b::l,c,h=>by
  unfold Lib.indexByte at h ⊢;by_cases e:(b == c)=true
  ·rw[if_pos e];have:=beq_iff_eq.1 e;subst this;simp
  ·rw[if_neg e] at h ⊢;by_cases e2:(Lib.indexByte l c == -1)=true
   ·rw[if_pos e2] at h;exact absurd rfl h
   ·rw[if_neg e2];obtain⟨h1,h2⟩:=yD (fun he=>e2 (beq_iff_eq.2 he));refine⟨by omega,?_⟩;rw[show (Lib.indexByte l c+1).toNat=(Lib.indexByte l c).toNat+1 by omega,List.take_succ_cons,List.drop_succ_cons,List.cons_append,← h2]
theorem CQ:∀(k:Nat) (s:List UInt8),joinL (Lib.splitK [47] 0 k s)=47::s
 | 0,s=>by simp[Lib.splitK,joinL]
 | k+1,s=>by
  rw[Lib.splitK];by_cases h:(Lib.index s [47] == -1)=true
  ·rw[if_pos h];simp[joinL]
  ·rw[if_neg h,joinL,CQ k,Lib.index_one];rw[Lib.index_one] at h;obtain⟨h1,h2⟩:=yD (fun he=>h (beq_iff_eq.2 he));rw[Nat.add_zero]
   congr 1
   exact h2.symm
theorem ze {p:ByteArray} (h:kY p=true):bs p=joinL ((gW p).map bs):=by
 have h1:(gW p).map bs=Lib.splitK [47] 0 (Lib.countB (p.extract 1 p.size) ⟨#[47]⟩) (p.extract 1 p.size).data.toList:=Lib.splitB_data ⟨#[47]⟩ 0 _ _;rw[h1,CQ];have hd:=of_decide_eq_true h;have e:(p.extract 1 p.size).data.toList=(bs p).drop 1:=Lib.extract_to_end p 1;rw[e]
 cases hb:bs p with
 | nil=>rw[hb] at hd;cases hd
 | cons a l=>
  rw[hb] at hd
  injection hd with hd
  subst hd;rfl
theorem wQ:∀{l cs:List UInt8},Lib.indexAny l cs = -1→∀c∈l,cs.contains c=false
 | [],cs,_,c,hc=>by cases hc
 | b::l,cs,h,c,hc=>by
  rw[Lib.indexAny] at h
  cases hb:cs.contains b with
  | true=>rw[hb] at h;simp at h
  | false=>
   rw[hb] at h
   have h2:Lib.indexAny l cs = -1:=by
    by_cases e:(Lib.indexAny l cs == -1)=true
    ·exact beq_iff_eq.1 e
    ·have hge:=Lib.indexAny_ge cs l;simp only[Bool.false_eq_true,if_false] at h;rw[if_neg e] at h;omega
   rcases List.mem_cons.1 hc with rfl|hc
   ·exact hb
   ·exact wQ h2 c hc
theorem Oy {p:ByteArray} (h:mI p=true):∀c∈bs p,c≠47∧c≠0:=by
 have h:=of_decide_eq_true h;unfold iR.f at h;split at h
 ·cases h
 ·split at h
  ·cases h
  ·split at h
   ·cases h
   ·split at h
    ·cases h
    ·split at h
     ·cases h
     ·rename_i hn;have hn:Lib.containsAny (bs p) [47,0]=false:=(Bool.not_eq_true _).mp hn;unfold Lib.containsAny at hn;have hn:=of_decide_eq_false hn;have hge:=Lib.indexAny_ge [47,0] (bs p);intro c hc;have:=wQ (show Lib.indexAny (bs p) [47,0] = -1 by omega) c hc;simp at this;exact⟨fun e=>this.1 e,fun e=>this.2 e⟩
def Vp (p:ByteArray):Prop:=(tF p).2=true
theorem Vp.parts {p:ByteArray} (h:Vp p):(tF p).1=gW p∧kY p=true∧(gW p).all mI=true:=by
 have h1:tF p=((tF p).1,true):=by rw[← (show (tF p).2=true from h)]
 obtain⟨_,h2,h3,h4⟩:=zW h1;exact⟨h3,h2,h4⟩
theorem Ja:∀{l:List (List UInt8)},(∀a∈l,∀c∈a,c≠47)→jS 47 0 (joinL l)=rW l
 | [],_=>rfl
 | a::l,h=>by
  have ih:=Ja (l:=l) (fun x hx=>h x (List.mem_cons_of_mem _ hx));have ha:jS 47 0 a=a:=rX (List.count_eq_zero_of_not_mem (fun hm=>h a List.mem_cons_self 47 hm rfl));rw[joinL,rW,show (47:UInt8)::(a++joinL l)=[47]++(a++joinL l) from rfl,mh,mh,ha,ih];rfl
theorem Jb:∀{l:List (List UInt8)},(∀a∈l,∀c∈a,c≠0)→jS 0 47 (rW l)=joinL l
 | [],_=>rfl
 | a::l,h=>by
  have ih:=Jb (l:=l) (fun x hx=>h x (List.mem_cons_of_mem _ hx));have ha:jS 0 47 a=a:=rX (List.count_eq_zero_of_not_mem (fun hm=>h a List.mem_cons_self 0 hm rfl));rw[joinL,rW,show (0:UInt8)::(a++rW l)=[0]++(a++rW l) from rfl,mh,mh,ha,ih];rfl
theorem sQ {p:ByteArray} (h:Vp p):∀a∈(gW p).map bs,∀c∈a,c≠47∧c≠0:=by
 intro a ha c hc;obtain⟨q,hq,rfl⟩:=List.mem_map.1 ha;exact Oy (List.all_eq_true.1 h.parts.2.2 q hq) c hc
theorem zX {p:ByteArray} (h:Vp p):bs (jq 47 0 p)=rW ((gW p).map bs):=by
 show jS 47 0 (bs p)=_
 rw[ze h.parts.2.1,Ja (fun a ha c hc=>(sQ h a ha c hc).1)]
theorem Mv {p:ByteArray} (h:Vp p):jq 0 47 (jq 47 0 p)=p:=by
 apply nE
 show jS 0 47 (bs (jq 47 0 p))=_
 rw[zX h,Jb (fun a ha c hc=>(sQ h a ha c hc).2),← ze h.parts.2.1]
theorem key_inj {p q:ByteArray} (hp:Vp p) (hq:Vp q) (h:jq 47 0 p=jq 47 0 q):p=q:=by
 rw[← Mv hp,h,Mv hq]
theorem SA {p q:ByteArray} (hp:Vp p) (hq:Vp q):oq (tF p).1 (tF q).1=Op.bytesLess (bs (jq 47 0 p)) (bs (jq 47 0 q)):=by
 rw[hp.parts.1,hq.parts.1,Ms,zX hp,zX hq,I9 (fun a ha c hc=>(sQ hp a ha c hc).2) (fun a ha c hc=>(sQ hq a ha c hc).2)]
abbrev kl (x:It):List UInt8:=bs (ko x)
def Less (a b:List UInt8):Prop:=Op.bytesLess a b=true
theorem Less.trans {a b c:List UInt8} (h:Less a b) (k:Less b c):Less a c:=EG h k
theorem Less.ne {a b:List UInt8} (h:Less a b):a≠b:=Xv h
theorem Less.tri {a b:List UInt8} (h:¬Less a b) (hn:a≠b):Less b a:=by
 cases hb:Op.bytesLess b a with
 | true=>exact hb
 | false=>exact absurd (Mr ((Bool.not_eq_true _).mp h) hb) hn
structure nH (l:List It):Prop where
 path:∀x∈l,Vp x.f1
 keys:l.Pairwise (fun x y=>Less (kl x) (kl y))
theorem nH.nil:nH []:=⟨fun _ h=>absurd h List.not_mem_nil,List.Pairwise.nil⟩
theorem nH.drop {l:List It} (h:nH l) (n:Nat):nH (l.drop n):=⟨fun x hx=>h.path x (List.mem_of_mem_drop hx),h.keys.sublist (List.drop_sublist n l)⟩
theorem nH.tail {x:It} {l:List It} (h:nH (x::l)):nH l:=⟨fun y hy=>h.path y (List.mem_cons_of_mem _ hy),(List.pairwise_cons.1 h.keys).2⟩
theorem nH.head {x:It} {l:List It} (h:nH (x::l)):∀y∈l,Less (kl x) (kl y):=(List.pairwise_cons.1 h.keys).1
theorem zf:∀{l:List It} {K:List (ByteArray × Int)} {b:Option (List ByteArray)},iB K b l=true→nH l∧∀q,Vp q→b=some (tF q).1→∀x∈l,Less (bs (jq 47 0 q)) (kl x)
 | [],_,_,_=>⟨nH.nil,fun _ _ _ _ h=>absurd h List.not_mem_nil⟩
 | y::l,K,b,h=>by
  rw[iB] at h;simp only[Bool.and_eq_true,decide_eq_true_eq] at h;obtain⟨⟨⟨⟨h1,h2⟩,h3⟩,h4⟩,h5⟩:=h;obtain⟨hr,hq⟩:=zf h5;have hv:Vp y.f1:=h1;have hy:=hq y.f1 hv rfl;refine⟨⟨fun x hx=>?_,List.pairwise_cons.2 ⟨hy,hr.keys⟩⟩,fun q hvq hb x hx=>?_⟩
  ·rcases List.mem_cons.1 hx with rfl|hx
   ·exact hv
   ·exact hr.path x hx
  ·have hqy:Less (bs (jq 47 0 q)) (kl y):=by
    rw[hb] at h2;rw[Option.all_some,SA hvq hv] at h2;exact h2
   rcases List.mem_cons.1 hx with rfl|hx
   ·exact hqy
   ·exact hqy.trans (hy x hx)
theorem pY {l:List It} (h:jJ l=true):nH l:=(zf h).1
theorem nH.inj {l:List It} (h:nH l):∀x∈l,∀y∈l,kl x=kl y→x=y:=by
 induction l with
 | nil=>intro x hx;cases hx
 | cons a l ih=>
  intro x hx y hy e
  rcases List.mem_cons.1 hx with hxa|hx1
  ·rcases List.mem_cons.1 hy with hya|hy1
   ·rw[hxa,hya]
   ·subst hxa;exact absurd e (h.head y hy1).ne
  ·rcases List.mem_cons.1 hy with hya|hy1
   ·subst hya;exact absurd e.symm (h.head x hx1).ne
   ·exact ih h.tail x hx1 y hy1 e
def st (l:List It) (k:List UInt8):Option It:=l.find? (fun x=>decide (kl x=k))
theorem qI {l:List It} {k:List UInt8} {x:It} (h:st l k=some x):x∈l∧kl x=k:=⟨List.mem_of_find?_eq_some h,by have:=List.find?_some h;simpa using this⟩
theorem QI {l:List It} {k:List UInt8} (h:∀x∈l,kl x≠k):st l k=none:=List.find?_eq_none.2 (fun x hx=>by simpa using h x hx)
theorem Mw {l:List It} {k:List UInt8} (h:st l k=none):∀x∈l,kl x≠k:=fun x hx e=>by
 have:=List.find?_eq_none.1 h x hx;simp at this;exact this e
theorem abL {l:List It} (hl:nH l) {x:It} (hx:x∈l):st l (kl x)=some x:=by
 cases h:st l (kl x) with
 | none=>exact absurd rfl (Mw h x hx)
 | some y=>
  obtain⟨h1,h2⟩:=qI h;rw[hl.inj y h1 x hx h2]
theorem EJ {x:It} {l:List It} {k:List UInt8} (h:kl x≠k):st (x::l) k=st l k:=by
 unfold st;rw[List.find?_cons_of_neg]
 simpa using h
theorem EK {x:It} {l:List It} {k:List UInt8} (h:kl x=k):st (x::l) k=some x:=by
 unfold st;rw[List.find?_cons_of_pos]
 simpa using h
section
variable {L : Nat → List It} {p : Nat → Nat}
theorem EL:∀{i:Nat},jL L p i=none→∀j,j<i→(L j)[p j]?=none
 | 0,_,j,h=>by omega
 | i+1,h,j,hj=>by
  rw[jL] at h
  cases hx:(L i)[p i]? with
  | none=>
   rw[hx] at h
   rcases Nat.lt_or_ge j i with h1|h1
   ·exact EL h j h1
   ·obtain rfl:j=i:=by omega
    exact hx
  | some x=>
   rw[hx] at h;dsimp only at h
   cases hk:jL L p i with
   | none=>rw[hk] at h;cases h
   | some k=>
    rw[hk] at h;dsimp only at h
    split at h <;> cases h
theorem xM:∀{i:Nat} {k:ByteArray},jL L p i=some k→∀j,j<i→∀x,(L j)[p j]?=some x→¬Less (kl x) (bs k)
 | 0,k,h,j,hj,_,_=>by omega
 | i+1,k,h,j,hj,x,hx=>by
  have hnn:∀a:List UInt8,¬Less a a:=fun a h=>by
   have h:Op.bytesLess a a=true:=h;rw[wP] at h;cases h
  rw[jL] at h
  cases hy:(L i)[p i]? with
  | none=>
   rw[hy] at h
   rcases Nat.lt_or_ge j i with h1|h1
   ·exact xM h j h1 x hx
   ·obtain rfl:j=i:=by omega
    rw[hx] at hy;cases hy
  | some y=>
   rw[hy] at h;dsimp only at h
   cases hk:jL L p i with
   | none=>
    rw[hk] at h;have:=Option.some.inj h;subst this
    rcases Nat.lt_or_ge j i with h1|h1
    ·rw[EL hk j h1] at hx;cases hx
    ·obtain rfl:j=i:=by omega
     rw[hx] at hy;obtain rfl:=Option.some.inj hy;exact hnn _
   | some k0=>
    rw[hk] at h;dsimp only at h;split at h
    ·rename_i hlt;rw[Lib.toList_data,Lib.toList_data] at hlt;have hlt:Less (kl y) (bs k0):=hlt;have:=Option.some.inj h;subst this
     rcases Nat.lt_or_ge j i with h1|h1
     ·exact fun hl=>xM hk j h1 x hx (Less.trans hl hlt)
     ·obtain rfl:j=i:=by omega
      rw[hx] at hy;obtain rfl:=Option.some.inj hy;exact hnn _
    ·rename_i hlt;rw[Lib.toList_data,Lib.toList_data] at hlt;have:=Option.some.inj h;subst this
     rcases Nat.lt_or_ge j i with h1|h1
     ·exact xM hk j h1 x hx
     ·obtain rfl:j=i:=by omega
      rw[hx] at hy;obtain rfl:=Option.some.inj hy;exact hlt
def dr (L:Nat→List It) (p:Nat→Nat) (j:Nat):List It:=(L j).drop (p j)
theorem QJ {j:Nat} (h:(L j)[p j]?=none):dr L p j=[]:=by
 unfold dr;rw[List.getElem?_eq_none_iff] at h;exact List.drop_of_length_le h
theorem J4 {j:Nat} {x:It} (h:(L j)[p j]?=some x):dr L p j=x::(L j).drop (p j+1):=by
 obtain⟨hl,he⟩:=List.getElem?_eq_some_iff.1 h;unfold dr;rw[List.drop_eq_getElem_cons hl,he]
theorem Xw {k:ByteArray} {j:Nat} (hr:nH (L j)) (hk:∀x,(L j)[p j]?=some x→¬Less (kl x) (bs k)) :
  eO L p k j=st (dr L p j) (bs k)∧(∀x∈dr L (fB L p k) j,Less (bs k) (kl x))∧(∀k',Less (bs k) k'→st (dr L (fB L p k) j) k'=st (dr L p j) k') ∧
   (∀x∈dr L p j,kl x=bs k∨x∈dr L (fB L p k) j)∧(∀x∈dr L (fB L p k) j,x∈dr L p j):=by
 cases hx:(L j)[p j]? with
 | none=>
  have hh:eO L p k j=none:=by unfold eO;rw[hx]
  have hn:fB L p k j=p j:=by unfold fB;rw[hh];rfl
  have hd:dr L (fB L p k) j=dr L p j:=by unfold dr;rw[hn]
  rw[hd,QJ hx,hh];exact⟨rfl,fun _ h=>absurd h List.not_mem_nil,fun _ _=>rfl,fun _ h=>absurd h List.not_mem_nil,fun _ h=>h⟩
 | some x=>
  have hkx:=hk x hx;have hdx:=J4 hx;have hrd:nH (dr L p j):=hr.drop (p j);rw[hdx] at hrd;by_cases he:kl x=bs k
  ·have hh:eO L p k j=some x:=by
    unfold eO;rw[hx];dsimp only;rw[Lib.toList_data,Lib.toList_data];exact if_pos (beq_iff_eq.2 he)
   have hn:fB L p k j=p j+1:=by unfold fB;rw[hh];rfl
   have hd:dr L (fB L p k) j=(L j).drop (p j+1):=by unfold dr;rw[hn]
   rw[hd,hdx,hh];refine⟨(EK he).symm,fun y hy=>by rw[← he];exact hrd.head y hy,fun k' hk'=>(EJ (by rw[he];exact hk'.ne)).symm,fun y hy=>?_,fun y hy=>List.mem_cons_of_mem _ hy⟩
   rcases List.mem_cons.1 hy with rfl|hy
   ·exact .inl he
   ·exact .inr hy
  ·have hh:eO L p k j=none:=by
    unfold eO;rw[hx];dsimp only;rw[Lib.toList_data,Lib.toList_data];exact if_neg (fun h=>he (beq_iff_eq.1 h))
   have hn:fB L p k j=p j:=by unfold fB;rw[hh];rfl
   have hd:dr L (fB L p k) j=dr L p j:=by unfold dr;rw[hn]
   have hlt:=Less.tri hkx he
   have hall:∀y∈x::(L j).drop (p j+1),Less (bs k) (kl y):=fun y hy=>by
    rcases List.mem_cons.1 hy with rfl|hy
    ·exact hlt
    ·exact hlt.trans (hrd.head y hy)
   rw[hd,hdx,hh];exact⟨(QI (fun y hy e=>(hall y hy).ne e.symm)).symm,hall,fun _ _=>rfl,fun y hy=>.inr hy,fun _ h=>h⟩
end
structure UQ (D:Nat→List It) (rs:List Two.Rd):Prop where
 rise:rs.Pairwise (fun r s=>Less (bs r.1) (bs s.1))
 here:∀r∈rs,r.2.1=st (D 0) (bs r.1)∧r.2.2=st (D 1) (bs r.1)
 from_:∀r∈rs,∃j x,j<2∧x∈D j∧ko x=r.1
 all:∀j x,j<2→x∈D j→∃r∈rs,r.1=ko x
section
variable {L : Nat → List It}
theorem zY (hL:∀j,j<2→nH (L j)):∀(n:Nat) (p:Nat→Nat),Two.jO L p≤n→UQ (dr L p) (Two.eY L n p)
 | 0,p,hn=>by
  have hz:∀j,j<2→dr L p j=[]:=fun j hj=>by
   refine List.drop_of_length_le ?_;unfold Two.jO at hn
   rcases (show j=0∨j=1 by omega) with rfl|rfl <;> omega
  refine⟨List.Pairwise.nil,fun _ h=>absurd h List.not_mem_nil,fun _ h=>absurd h List.not_mem_nil,fun j x hj hx=>?_⟩;rw[hz j hj] at hx;cases hx
 | n+1,p,hn=>by
  rw[Two.eY]
  cases hk:jL L p 2 with
  | none=>
   refine⟨List.Pairwise.nil,fun _ h=>absurd h List.not_mem_nil,fun _ h=>absurd h List.not_mem_nil,fun j x hj hx=>?_⟩;rw[QJ (EL hk j hj)] at hx;cases hx
  | some k=>
   have hlt:=Two.uR hk;have ih:=zY hL n (fB L p k) (by omega)
   have hh:=fun j (hj:j<2)=>Xw (p:=p) (hL j hj) (xM hk j hj)
   have hgt:∀r∈Two.eY L n (fB L p k),Less (bs k) (bs r.1):=fun r hr=>by
    obtain⟨j,x,hj,hx,e⟩:=ih.from_ r hr;rw[← e];exact (hh j hj).2.1 x hx
   refine⟨List.pairwise_cons.2 ⟨hgt,ih.rise⟩,fun r hr=>?_,fun r hr=>?_,fun j x hj hx=>?_⟩
   ·rcases List.mem_cons.1 hr with rfl|hr
    ·exact⟨(hh 0 (by omega)).1,(hh 1 (by omega)).1⟩
    ·have h:=ih.here r hr;rw[(hh 0 (by omega)).2.2.1 _ (hgt r hr),(hh 1 (by omega)).2.2.1 _ (hgt r hr)] at h;exact h
   ·rcases List.mem_cons.1 hr with rfl|hr
    ·obtain⟨j,x,hj,h1,h2⟩:=rz hk;exact⟨j,x,hj,by rw[J4 h1];exact List.mem_cons_self,h2⟩
    ·obtain⟨j,x,hj,hx,e⟩:=ih.from_ r hr;exact⟨j,x,hj,(hh j hj).2.2.2.2 x hx,e⟩
   ·rcases (hh j hj).2.2.2.1 x hx with e|hx2
    ·exact⟨_,List.mem_cons_self,(nE e).symm⟩
    ·obtain⟨r,hr,e⟩:=ih.all j x hj hx2;exact⟨r,List.mem_cons_of_mem _ hr,e⟩
end
theorem qJ {a b:List It} (ha:nH a) (hb:nH b):UQ (kH a b) (lZ a b) :=
 zY (L:=kH a b) (nV ha hb) _ (fun _=>0) (Nat.le_refl _)
def BX (rs:List Two.Rd):List Ch:=rs.flatMap fun r=>(kI r.2.1 r.2.2).toList
theorem UR (rs:List Two.Rd):∀s,rs.foldl jU s=s++BX rs:=by
 induction rs with
 | nil=>intro s;simp[BX]
 | cons r rs ih=>
  intro s;rw[List.foldl_cons,ih];unfold jU BX;rw[List.flatMap_cons,List.append_assoc]
theorem pF (a b:List It):jw a b=BX (lZ a b):=by
 unfold jw;rw[UR,List.nil_append]
theorem Jc {xa xb:Option It} {c:Ch} (h:kI xa xb=some c):(∃x,xa=some x∧c.f1.f1=x.f1)∨(∃x,xb=some x∧c.f1.f1=x.f1):=by
 unfold kI at h;split at h
 ·cases h
 ·cases xa with
  | none=>
   cases xb with
   | none=>cases h
   | some y=>
    obtain rfl:=Option.some.inj h;exact .inr ⟨y,rfl,rfl⟩
  | some x=>
   cases xb with
   | none=>
    obtain rfl:=Option.some.inj h;exact .inl ⟨x,rfl,rfl⟩
   | some y=>
    dsimp only at h;split at h
    ·obtain rfl:=Option.some.inj h;exact .inr ⟨y,rfl,rfl⟩
    ·obtain rfl:=Option.some.inj h;exact .inr ⟨y,rfl,rfl⟩
theorem QK {x:It} {c:Ch} (h:c.f1.f1=x.f1):qh c=ko x:=by
 unfold qh ko;rw[h]
theorem BZ {a b:List It} (ha:nH a) (hb:nH b) {r:Two.Rd} (hr:r∈lZ a b) {c:Ch} (h:kI r.2.1 r.2.2=some c):qh c=r.1∧Vp c.f1.f1:=by
 have hs:=(qJ ha hb).here r hr
 rcases Jc h with⟨x,hx,e⟩|⟨x,hx,e⟩
 ·rw[hs.1] at hx;obtain⟨h1,h2⟩:=qI hx;exact⟨(QK e).trans (nE h2),by rw[e];exact ha.path x h1⟩
 ·rw[hs.2] at hx;obtain⟨h1,h2⟩:=qI hx;exact⟨(QK e).trans (nE h2),by rw[e];exact hb.path x h1⟩
theorem uz {rs:List Two.Rd} {c:Ch}:c∈BX rs↔∃r∈rs,kI r.2.1 r.2.2=some c:=by
 unfold BX;simp only[List.mem_flatMap,Option.mem_toList]
theorem Jd {P:Two.Rd→Prop}:∀(rs:List Two.Rd),rs.Pairwise (fun r s=>Less (bs r.1) (bs s.1))→(∀r∈rs,∀c,kI r.2.1 r.2.2=some c→qh c=r.1)→(BX rs).Pairwise (fun c d=>Less (bs (qh c)) (bs (qh d)))
 | [],_,_=>List.Pairwise.nil
 | r::rs,hs,hk=>by
  have hs2:=List.pairwise_cons.1 hs;have ih:=Jd (P:=P) rs hs2.2 (fun q hq=>hk q (List.mem_cons_of_mem _ hq));unfold BX;rw[List.flatMap_cons]
  cases hd:kI r.2.1 r.2.2 with
  | none=>exact ih
  | some c=>
   refine List.pairwise_cons.2 ⟨fun d hd2=>?_,ih⟩;obtain⟨q,hq,he⟩:=uz.1 hd2;rw[hk r List.mem_cons_self c hd,hk q (List.mem_cons_of_mem _ hq) d he];exact hs2.1 q hq
theorem CS {a b:List It} (ha:nH a) (hb:nH b):(jw a b).Pairwise (fun c d=>Less (bs (qh c)) (bs (qh d))):=by
 rw[pF];exact Jd (P:=fun _=>True) _ (qJ ha hb).rise (fun r hr c hc=>(BZ ha hb hr hc).1)
theorem CU {a b:List It} (ha:nH a) (hb:nH b) (k:ByteArray):sG (jw a b) k=kI (st a (bs k)) (st b (bs k)):=by
 have hsp:=qJ ha hb
 cases hc:sG (jw a b) k with
 | some c=>
  obtain⟨hm,hk⟩:=wB hc;rw[pF] at hm;obtain⟨r,hr,hd⟩:=uz.1 hm;have he:=(BZ ha hb hr hd).1;have hs:=hsp.here r hr;rw[hs.1,hs.2,← he,hk] at hd;exact hd.symm
 | none=>
  cases hd:kI (st a (bs k)) (st b (bs k)) with
  | none=>rfl
  | some c=>
   exfalso
   have hr:∃r∈lZ a b,r.1=k:=by
    rcases Jc hd with⟨x,hx,_⟩|⟨x,hx,_⟩
    ·obtain⟨h1,h2⟩:=qI hx;obtain⟨r,hr,e⟩:=hsp.all 0 x (by omega) h1;exact⟨r,hr,e.trans (nE h2)⟩
    ·obtain⟨h1,h2⟩:=qI hx;obtain⟨r,hr,e⟩:=hsp.all 1 x (by omega) h1;exact⟨r,hr,e.trans (nE h2)⟩
   obtain⟨r,hr,e⟩:=hr;have hs:=hsp.here r hr
   have hd2:kI r.2.1 r.2.2=some c:=by
    rw[hs.1,hs.2,e];exact hd
   have hm:c∈jw a b:=by
    rw[pF];exact uz.2 ⟨r,hr,hd2⟩
   exact BJ hc c hm ((BZ ha hb hr hd2).1.trans e)
theorem Oz {a b:List It} (ha:nH a) (hb:nH b):nH (dX (jw a b)):=by
 refine⟨fun x hx=>?_,?_⟩
 ·obtain⟨c,hc,rfl⟩:=List.mem_map.1 hx;rw[pF] at hc;obtain⟨r,hr,hd⟩:=uz.1 hc;exact (BZ ha hb hr hd).2
 ·unfold dX;rw[List.pairwise_map];exact CS ha hb
theorem same_eq {x y:It} (h:IC (some x) (some y)=true) (hp:x.f1=y.f1) (fx:Fit x) (fy:Fit y):x=y:=by
 unfold IC EM at h;simp only[Bool.and_eq_true,decide_eq_true_eq] at h;obtain⟨h0,h2,h3,h4,h5⟩:=h;rw[um fx.b fy.b,decide_eq_true_eq] at h5;replace h4:=vo.1 h4;replace h2:=nE h2;cases x;cases y;simp only at h0 h2 h3 h4 h5 hp;subst h0 h2 h3 h4 h5 hp;rfl
theorem xO (g:Two.Rd→Option It):∀(rs:List Two.Rd) (T:List It),rs.Pairwise (fun r s=>Less (bs r.1) (bs s.1))→nH T→(∀r∈rs,g r=st T (bs r.1))→(∀x∈T,∃r∈rs,r.1=ko x)→(rs.flatMap fun r=>(g r).toList)=T
 | [],T,_,_,_,ha=>by
  cases T with
  | nil=>rfl
  | cons x T=>
   obtain⟨r,hr,_⟩:=ha x List.mem_cons_self;exact absurd hr List.not_mem_nil
 | r::rs,T,hs,hT,hg,ha=>by
  have hs2:=List.pairwise_cons.1 hs;have hgr:=hg r List.mem_cons_self;rw[List.flatMap_cons]
  cases T with
  | nil=>
   have ih:=xO g rs [] hs2.2 hT (fun q hq=>hg q (List.mem_cons_of_mem _ hq)) (fun _ h=>absurd h List.not_mem_nil);rw[ih,hgr];rfl
  | cons x T=>
   obtain⟨q,hq,hqx⟩:=ha x List.mem_cons_self
   rcases List.mem_cons.1 hq with rfl|hq1
   ·have hkx:kl x=bs q.1:=by rw[hqx]
    rw[EK hkx] at hgr
    have ih:=xO g rs T hs2.2 hT.tail (fun r' hr'=>by
     have h:=hg r' (List.mem_cons_of_mem _ hr');rw[EJ (by rw[hkx];exact (hs2.1 r' hr').ne)] at h
     exact h) (fun y hy=>by
     obtain⟨r',hr',e⟩:=ha y (List.mem_cons_of_mem _ hy)
     rcases List.mem_cons.1 hr' with rfl|hr1
     ·exact absurd (show kl x=kl y by rw[hkx,e]) (hT.head y hy).ne
     ·exact⟨r',hr1,e⟩)
    rw[ih,hgr];rfl
   ·have hlt:Less (bs r.1) (kl x):=by
     have:=hs2.1 q hq1;rw[hqx] at this;exact this
    have hn:st (x::T) (bs r.1)=none:=QI (fun y hy e=>by
     rcases List.mem_cons.1 hy with rfl|hy1
     ·exact hlt.ne e.symm
     ·exact (hlt.trans (hT.head y hy1)).ne e.symm)
    have ih:=xO g rs (x::T) hs2.2 hT (fun q hq=>hg q (List.mem_cons_of_mem _ hq)) (fun y hy=>by
     obtain⟨r',hr',e⟩:=ha y hy
     rcases List.mem_cons.1 hr' with rfl|hr1
     ·exfalso
      have h2:Less (bs r'.1) (kl y):=by
       rcases List.mem_cons.1 hy with rfl|hy1
       ·exact hlt
       ·exact hlt.trans (hT.head y hy1)
      exact h2.ne (by rw[e])
     ·exact⟨r',hr1,e⟩)
    rw[ih,hgr,hn];rfl
theorem Mx (cs:List Ch) (g:Two.Rd→Option It):∀(rs:List Two.Rd) (s:List It),(∀r∈rs,nW cs r=some (g r).toList)→jX cs rs s=some (s++rs.flatMap fun r=>(g r).toList)
 | [],s,_=>by simp[jX]
 | r::rs,s,h=>by
  rw[jX,h r List.mem_cons_self];dsimp only;rw[Mx cs g rs _ (fun q hq=>h q (List.mem_cons_of_mem _ hq)),List.flatMap_cons,List.append_assoc]
theorem wR {r:Rn} {i:Int}:i∈iJ r↔r.f0≤i∧i<r.f1:=by
 unfold iJ;simp only[List.mem_map,List.mem_range];constructor
 ·rintro⟨k,hk,rfl⟩;omega
 ·rintro⟨h1,h2⟩;exact⟨(i - r.f0).toNat,by omega,by omega⟩
theorem QL (r:Rn):(iJ r).Pairwise (· < ·):=by
 unfold iJ;rw[List.pairwise_map];exact List.pairwise_lt_range.imp (fun h=>by omega)
theorem uD (r:Rn) (l:List Rn):idxs (r::l)=iJ r++idxs l:=by
 unfold idxs;rw[List.flatMap_cons]
theorem Je (size:Int):∀(l:List Rn) (last all l2 a2:Int),jV size last all l=some (l2,a2)→(idxs l).Pairwise (· < ·)∧∀i∈idxs l,last<i
 | [],_,_,_,_,_=>⟨List.Pairwise.nil,fun i h=>by cases h⟩
 | r::l,last,all,l2,a2,h=>by
  rw[jV] at h;split at h
  ·cases h
  ·rename_i hc;obtain⟨h1,h2⟩:=Je size l r.f1 _ l2 a2 h;rw[uD];refine⟨List.pairwise_append.2 ⟨QL r,h1,fun x hx y hy=>?_⟩,fun i hi=>?_⟩
   ·have:=wR.1 hx;have:=h2 y hy;omega
   ·rcases List.mem_append.1 hi with hi|hi
    ·have:=wR.1 hi;omega
    ·have:=h2 i hi;omega
structure UU (x:It):Prop where
 t:x.f2=⟨#[]⟩
 f:kZ x.f3 x.f4 x.f5=true
 u:(idxs x.f4).Pairwise (· < ·)
 n:x.f5.length=512*(idxs x.f4).length
theorem SB {s:ByteArray} (h:s.size=0):s=⟨#[]⟩:=by
 apply nE
 show s.data.toList=[]
 have:s.data.size=0:=h;exact List.eq_nil_of_length_eq_zero (by simpa using this)
theorem Ca {K:List (ByteArray × Int)} {x:It} (h:fu K x=true) (h1:x.f0=1):UU x:=by
 unfold fu at h;rw[if_pos h1] at h;simp only[Bool.and_eq_true,decide_eq_true_eq] at h;have hf:=h.2;have hg:=hf
 suffices hh:(idxs x.f4).Pairwise (· < ·)∧x.f5.length=512*(idxs x.f4).length from⟨SB h.1,hg,hh.1,hh.2⟩
 unfold kZ at hf;split at hf
 ·cases hf
 ·cases hr:jV x.f3 (-1) 0 x.f4 with
  | none=>rw[hr] at hf;cases hf
  | some p=>
   obtain⟨l2,a2⟩:=p;rw[hr,Ei] at hf;have h2:=yS x.f3 (by omega) (by omega) x.f4 (-1) 0 l2 a2 hr;split at hf
   ·exact⟨(Je _ _ _ _ _ _ hr).1,by omega⟩
   ·cases hf
theorem wS:∀{l:List It} {K:List (ByteArray × Int)} {b:Option (List ByteArray)},iB K b l=true→∀x∈l,∃K',fu K' x=true
 | [],_,_,_=>fun _ h=>absurd h List.not_mem_nil
 | y::l,K,b,h=>by
  rw[iB] at h;simp only[Bool.and_eq_true,decide_eq_true_eq] at h;intro x hx
  rcases List.mem_cons.1 hx with rfl|hx1
  ·exact⟨K,h.1.2⟩
  ·exact wS h.2 x hx1
theorem J5 {l:List It} (h:jJ l=true):∀x∈l,x.f0=1→UU x:=fun x hx h1=>by
 obtain⟨K,hk⟩:=wS h x hx;exact Ca hk h1
theorem UW {l:List Int} (h:l.Pairwise (· < ·)):l.Nodup:=h.imp (fun h=>by omega)
theorem EN {a b:List It} (ha:jJ a=true) (hb:jJ b=true) (fa:∀x∈a,Fit x) (fb:∀x∈b,Fit x):pU a (jw a b)=some b:=by
 have ra:=pY ha;have rb:=pY hb;have rf:=Oz ra rb;have hsp:=qJ ra rf
 have hstep:∀r∈lZ a (dX (jw a b)),nW (jw a b) r=some ((fun r:Two.Rd=>st b (bs r.1)) r).toList:=by
  intro r hr;have hs:=hsp.here r hr;dsimp only;unfold nW;rw[CU ra rb];have h0:r.2.1=st a (bs r.1):=hs.1;rw[h0]
  cases hd:kI (st a (bs r.1)) (st b (bs r.1)) with
  | none=>
   dsimp only
   congr 2
   unfold kI at hd;split at hd
   ·rename_i hsame
    cases hxa:st a (bs r.1) with
    | none=>
     rw[hxa] at hsame
     cases hxb:st b (bs r.1) with
     | none=>rfl
     | some y=>rw[hxb] at hsame;cases hsame
    | some x=>
     rw[hxa] at hsame
     cases hxb:st b (bs r.1) with
     | none=>rw[hxb] at hsame;cases hsame
     | some y=>
      rw[hxb] at hsame;obtain⟨m1,k1⟩:=qI hxa;obtain⟨m2,k2⟩:=qI hxb;rw[same_eq hsame (key_inj (ra.path x m1) (rb.path y m2) (nE (k1.trans k2.symm))) (fa x m1) (fb y m2)]
   ·cases hxa:st a (bs r.1) with
    | none=>
     rw[hxa] at hd
     cases hxb:st b (bs r.1) with
     | none=>rfl
     | some y=>rw[hxb] at hd;cases hd
    | some x=>
     rw[hxa] at hd
     cases hxb:st b (bs r.1) with
     | none=>rw[hxb] at hd;cases hd
     | some y=>
      rw[hxb] at hd;dsimp only at hd
      split at hd <;> cases hd
  | some c=>
   dsimp only;unfold kI at hd;split at hd
   ·cases hd
   ·cases hxa:st a (bs r.1) with
    | none=>
     rw[hxa] at hd
     cases hxb:st b (bs r.1) with
     | none=>rw[hxb] at hd;cases hd
     | some y=>
      rw[hxb] at hd;obtain rfl:=Option.some.inj hd;rfl
    | some x=>
     rw[hxa] at hd
     cases hxb:st b (bs r.1) with
     | none=>
      rw[hxb] at hd;obtain rfl:=Option.some.inj hd;rfl
     | some y=>
      rw[hxb] at hd;dsimp only at hd;split at hd
      ·rename_i hk;obtain rfl:=Option.some.inj hd;rw[if_neg (by show ¬(3:Int)=2;decide),if_pos (by rfl)];have fy:=J5 hb y (qI hxb).1 hk.2;have he:=MB (goal:=y) hk.1 (UW fy.u) fy.n;unfold uT;rw[Option.bind_some,he]
       show some [(⟨1,y.f1,⟨#[]⟩,y.f3,y.f4,y.f5⟩:It)]=some [y]
       congr 2
       rw[← fy.t,← hk.2]
      ·obtain rfl:=Option.some.inj hd;rfl
 unfold pU;rw[Mx _ _ _ _ hstep,List.nil_append,xO (fun r=>st b (bs r.1)) _ b hsp.rise rb (fun _ _=>rfl)];intro x hx;by_cases hd:kI (st a (kl x)) (st b (kl x))=none
 ·cases hxa:st a (kl x) with
  | some z=>
   obtain⟨m,k⟩:=qI hxa;obtain⟨r,hr,e⟩:=hsp.all 0 z (by omega) m;exact⟨r,hr,e.trans (nE k)⟩
  | none=>
   rw[hxa,abL rb hx] at hd;cases hd
 ·cases hc:kI (st a (kl x)) (st b (kl x)) with
  | none=>exact absurd hc hd
  | some c=>
   have h1:sG (jw a b) (ko x)=some c:=(CU ra rb (ko x)).trans hc;obtain⟨m,k⟩:=wB h1;obtain⟨r,hr,e⟩:=hsp.all 1 (wC c) (by omega) (List.mem_map.2 ⟨c,m,rfl⟩);exact⟨r,hr,e.trans k⟩
def jG (old:List It) (b:List Int):Option (List It × Int × Int × List Ch) × Int :=
 if (cK old).2≠0 then (none,(cK old).2) else match vM b with
  | (none,e)=>(none,e)
  | (some (b0,g0,cs),_)=>if b0≠jl (cK old).1 then (none,181) else match pU old cs with
   | none=>(none,180)
   | some l=>if (jg old l).2≠0 then (none,180) else if (jg old l).1=b then (some (l,b0,g0,cs),0) else (none,180)
theorem EO {b:List Int} {b0 g0 e:Int} {cs:List Ch} (h:vM b=(some (b0,g0,cs),e)):e=0∧b.length≤16777216∧qj b=some (b0,g0,cs)∧(gL b0 g0 cs).2=0∧(gL b0 g0 cs).1=b:=by
 unfold vM at h;split at h
 ·injection h with h;cases h
 ·rename_i hl
  cases hp:qj b with
  | none=>rw[hp] at h;injection h with h;cases h
  | some q=>
   obtain⟨b1,g1,cs1⟩:=q;rw[hp] at h;dsimp only at h;split at h
   ·injection h with h;cases h
   ·rename_i h0;split at h
    ·rename_i h1
     injection h with h2 h3
     injection h2 with h2
     injection h2 with e1 h2
     injection h2 with e2 e3
     subst e1 e2 e3;exact⟨h3.symm,by omega,rfl,Decidable.not_not.1 h0,h1⟩
    ·injection h with h;cases h
theorem EP {b:List Int} {e:Int} (h:vM b=(none,e)):e=7∨e=180:=by
 unfold vM at h;split at h
 ·injection h with _ h;exact .inl h.symm
 ·split at h
  ·injection h with _ h;exact .inr h.symm
  ·split at h
   ·injection h with _ h;exact .inr h.symm
   ·split at h
    ·injection h with h;cases h
    ·injection h with _ h;exact .inr h.symm
theorem Cb (most:Int) (hm:most≤16522):∀(l:List Ru) (last all a:Int),-1≤last→last≤16522→gH most last all l=some a→a=all+(idxs l).length∧(∀r∈l,0≤r.f0∧r.f0≤r.f1∧r.f1≤16522)∧(l.length:Int)≤16522 - last∧((idxs l).length:Int)≤16522 - last
 | [],last,all,a,h0,h9,h=>by
  obtain rfl:=Option.some.inj h;refine⟨by simp[idxs],fun _ h=>(by cases h),?_,?_⟩
  ·simp;omega
  ·simp[idxs];omega
 | r::l,last,all,a,h0,h9,h=>by
  rw[gH] at h;split at h
  ·cases h
  ·rename_i hc;obtain⟨h1,h2,h3,h4⟩:=Cb most hm l r.f1 _ a (by omega) (by omega) h
   have hl:(idxs (r::l)).length=(r.f1 - r.f0).toNat+(idxs l).length:=by
    rw[uD,List.length_append];simp[iJ]
   refine⟨by rw[hl];omega,fun q hq=>?_,?_,?_⟩
   ·rcases List.mem_cons.1 hq with rfl|hq
    ·omega
    ·exact h2 q hq
   ·rw[List.length_cons];omega
   ·rw[hl];omega
theorem Jf {x:It} {a:Int} (h:fT x=some a):a=(idxs x.f4).length∧(∀r∈x.f4,0≤r.f0∧r.f0≤r.f1∧r.f1≤16522)∧x.f4.length≤16523∧(idxs x.f4).length≤16523:=by
 unfold fT at h;split at h
 ·cases h
 ·obtain⟨h1,h2,h3,h4⟩:=Cb _ (by omega) x.f4 (-1) 0 a (by omega) (by omega) h;exact⟨by omega,h2,by omega,by omega⟩
theorem zZ:∀{l:List Ch} {last:ByteArray},fU last l=true→∀c∈l,fE c.f1.f1=true∧kQ c=true
 | [],_,_,c,hc=>by cases hc
 | d::l,last,h,c,hc=>by
  rw[fU] at h;simp only[Bool.and_eq_true] at h
  rcases List.mem_cons.1 hc with rfl|hc
  ·exact⟨h.1,h.2.2.1⟩
  ·exact zZ h.2.2.2 c hc
structure ChB (c:Ch):Prop where
 p:c.f1.f1.size≤1023
 r:c.f1.f4.length≤16523
 d:c.f1.f5.length≤8459776
 e:c.f0=3→Ui c
theorem abM {c:Ch} (hw:fE c.f1.f1=true) (hc:kQ c=true) (hf:tH c):ChB c:=by
 have hp:c.f1.f1.size≤1023:=by
  unfold fE at hw;simp only[Bool.and_eq_true,decide_eq_true_eq] at hw;exact hw.1
 unfold kQ at hc;split at hc
 ·rename_i h1;simp only[Bool.and_eq_true,decide_eq_true_eq] at hc;exact⟨hp,by omega,by omega,fun h=>by omega⟩
 ·split at hc
  ·rename_i h1 h2;simp only[Bool.and_eq_true,decide_eq_true_eq] at hc;have hq:=hc.2
   suffices hh:c.f1.f4.length≤16523∧c.f1.f5.length≤8459776 from⟨hp,hh.1,hh.2,fun h=>by omega⟩
   have hbare:jo c.f1=true→c.f1.f4.length≤16523∧c.f1.f5.length≤8459776:=fun hb=>by
    unfold jo at hb;simp only[Bool.and_eq_true,decide_eq_true_eq] at hb;omega
   unfold je at hq;split at hq
   ·cases hz:fT c.f1 with
    | none=>rw[hz] at hq;cases hq
    | some a=>
     rw[hz] at hq;simp only[Bool.and_eq_true,decide_eq_true_eq] at hq;obtain⟨h1,h2,h3,h4⟩:=Jf hz;omega
   ·split at hq
    ·simp only[Bool.and_eq_true] at hq;exact hbare hq.1
    ·split at hq
     ·simp only[Bool.and_eq_true] at hq;exact hbare hq.1
     ·split at hq
      ·simp only[Bool.and_eq_true] at hq;exact hbare hq.1
      ·cases hq
  ·split at hc
   ·rename_i h3;unfold jT at hc
    cases hz:fT c.f1 with
    | none=>rw[hz] at hc;cases hc
    | some a=>
     rw[hz] at hc;dsimp only at hc;split at hc
     ·cases hc
     ·cases hs:iQ c.f2 16522 with
      | none=>rw[hs] at hc;cases hc
      | some b=>
       rw[hs] at hc;simp only[Bool.and_eq_true,decide_eq_true_eq] at hc;obtain⟨h1,h2,h3,h4⟩:=Jf hz;obtain⟨s1,s2,s3,s4⟩:=Cb 16522 (by omega) c.f2 (-1) 0 b (by omega) (by omega) hs
       have hfe:Ui c:=⟨hf.i.b,by omega,s2,by omega,by omega,h2,h3,h4⟩
       exact⟨hp,h3,by omega,fun _=>hfe⟩
   ·cases hc
theorem Jg {b0 g0:Int} {cs:List Ch} (h:(gL b0 g0 cs).2=0) (hf:∀c∈cs,tH c):∀c∈cs,ChB c:=fun c hc=>by
 obtain⟨_,h2,_,_⟩:=wO h;unfold rQ at h2;simp only[Bool.and_eq_true,decide_eq_true_eq] at h2;obtain⟨h3,h4⟩:=zZ h2.2.2.2.2 c hc;exact abM h3 h4 (hf c hc)
theorem SE {d:List Int} {k:Nat} {n:Int} (h:n∈dI d k):n∈d:=List.mem_of_mem_drop (List.mem_of_mem_take h)
theorem Jh {rows:List Rn} {d:List Int} {i:Int} {b:List Int} (h:jY rows d i=some b):∀n∈b,n∈d:=by
 unfold jY at h
 cases hl:iZ (idxs rows) 0 i with
 | none=>rw[hl] at h;cases h
 | some k=>
  rw[hl] at h;obtain rfl:=Option.some.inj h
  exact fun n hn=>SE hn
theorem Aa (old:DF) (c:Ch):∀(l d:List Int),cZ old c l=some d→∀n∈d,n∈c.f1.f5∨n∈old.f5
 | [],d,h=>by
  obtain rfl:=Option.some.inj h;intro n hn;cases hn
 | i::l,d,h=>by
  rw[cZ] at h
  have key:∀b:List Int,(∀n∈b,n∈c.f1.f5∨n∈old.f5)→(cZ old c l).map (b ++ ·)=some d→∀n∈d,n∈c.f1.f5∨n∈old.f5:=fun b hb hm=>by
   cases he:cZ old c l with
   | none=>rw[he] at hm;cases hm
   | some e=>
    rw[he] at hm;obtain rfl:=Option.some.inj hm;intro n hn
    rcases List.mem_append.1 hn with hn|hn
    ·exact hb n hn
    ·exact Aa old c l e he n hn
  cases h1:jY c.f2 c.f1.f5 i with
  | some b=>
   rw[h1] at h;exact key b (fun n hn=>.inl (Jh h1 n hn)) h
  | none=>
   rw[h1] at h;dsimp only at h
   cases h2:jY old.f4 old.f5 i with
   | some b=>
    rw[h2] at h;exact key b (fun n hn=>.inr (Jh h2 n hn)) h
   | none=>rw[h2] at h;cases h
theorem OA {y z:It} {c:Ch} (h:qC y c=some z) (hy:Fit y) (hc:tH c) (he:Ui c):Fit z:=by
 unfold qC at h;split at h
 ·cases h
 ·cases hg:cZ y c (idxs c.f1.f4) with
  | none=>rw[hg] at h;cases h
  | some d=>
   rw[hg] at h;obtain rfl:=Option.some.inj h;have h1:=wD y c _ d hg;have h2:=he.i4;refine⟨hc.i.p,by show (0:Nat)≤_;omega,hc.i.r,by show d.length≤_;omega,fun n hn=>?_⟩
   rcases Aa y c _ d hg n hn with h|h
   ·exact hc.i.b n h
   ·exact hy.b n h
theorem Ji (cs:List Ch) (hc:∀c∈cs,tH c) (he:∀c∈cs,ChB c):∀(rs:List Two.Rd) (s t:List It),(∀r∈rs,∀x,r.2.1=some x→Fit x)→(∀x∈s,Fit x)→jX cs rs s=some t→∀x∈t,Fit x
 | [],s,t,_,hs,h=>by
  obtain rfl:=Option.some.inj h;exact hs
 | r::rs,s,t,hr,hs,h=>by
  rw[jX] at h
  cases ho:nW cs r with
  | none=>rw[ho] at h;cases h
  | some l=>
   rw[ho] at h;refine Ji cs hc he rs (s++l) t (fun q hq=>hr q (List.mem_cons_of_mem _ hq)) (fun x hx=>?_) h
   rcases List.mem_append.1 hx with hx|hx
   ·exact hs x hx
   ·unfold nW at ho;split at ho
    ·obtain rfl:=Option.some.inj ho;exact hr r List.mem_cons_self x (Option.mem_toList.1 hx)
    ·rename_i c hca;have hm:=(wB hca).1;split at ho
     ·obtain rfl:=Option.some.inj ho;rw[List.mem_singleton.1 hx];exact (hc c hm).i
     ·split at ho
      ·rename_i h3
       cases hed:uT r.2.1 c with
       | none=>rw[hed] at ho;cases ho
       | some z=>
        rw[hed] at ho;obtain rfl:=Option.some.inj ho;rw[List.mem_singleton.1 hx];unfold uT at hed
        cases hxa:r.2.1 with
        | none=>rw[hxa] at hed;cases hed
        | some y=>
         rw[hxa] at hed;exact OA hed (hr r List.mem_cons_self y hxa) (hc c hm) ((he c hm).e h3)
      ·split at ho
       ·cases ho
       ·obtain rfl:=Option.some.inj ho;cases hx
theorem QM {x:It} (h:Fit x):lW x=true:=by
 unfold lW;simp only[Bool.and_eq_true,decide_eq_true_eq,List.all_eq_true];exact⟨⟨⟨⟨h.p,h.t⟩,h.r⟩,h.d⟩,h.b⟩
theorem CV {old l:List It} {cs:List Ch} (hf:old.all lW=true) (hc:∀c∈cs,tH c) (he:∀c∈cs,ChB c) (h:pU old cs=some l):l.all lW=true:=by
 refine List.all_eq_true.2 fun x hx=>QM (Ji cs hc he _ [] l (fun r hr y hy=>?_) (fun _ h=>by cases h) h x hx)
 exact rO (List.all_eq_true.1 hf y ((Two.here hr).1 y hy))
end Go.Proofs.YtknihldkhedpkaaGreatDoor
end
