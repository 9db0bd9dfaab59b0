import Derived.Test.YtknihldkhedpkaaGreatDoorUUG11
import Derived.Test.YtknihldkhedpkaaGreatDoorUUG17
set_option linter.all false
set_option maxHeartbeats 16000000
set_option maxRecDepth 100000
section
namespace Go.Proofs.YtknihldkhedpkaaGreatDoor
open Go.RowKit Go.Lib
open Go.Proofs.YtknihldkhedpkaaGreatDoorW.PrintWords Go.Proofs.YtknihldkhedpkaaGreatDoorW.PrintLast Go.Proofs.YtknihldkhedpkaaGreatDoor.PT
structure WG (D:Nat→List It) (rs:List Two.Rd):Prop where
 rise:rs.Pairwise (fun r s=>Less (bs r.1) (bs s.1))
 here:∀r∈rs,r.2.1=st (D 0) (bs r.1)∧r.2.2=st (D 1) (bs r.1)
 from_:∀r∈rs,∃j x,j<2∧x∈D j∧kV x=r.1
 all:∀j x,j<2→x∈D j→∃r∈rs,r.1=kV x
section
variable {L : Nat → List It}
theorem Br (hL:∀j,j<2→kI (L j)):∀(n:Nat) (p:Nat→Nat),Two.kE L p≤n→WG (dr L p) (Two.fI L n p)
 | 0,p,hn=>by
  have hz:∀j,j<2→dr L p j=[]:=fun j hj=>by
   refine List.drop_of_length_le ?_;unfold Two.kE at hn
   rcases (show j=0∨j=1 by omega) with rfl|rfl <;> omega
  refine⟨List.Pairwise.nil,fun _ h=>absurd h List.not_mem_nil,fun _ h=>absurd h List.not_mem_nil,fun j x hj hx=>?_⟩;rw[hz j hj] at hx;cases hx
 | n+1,p,hn=>by
  rw[Two.fI]
  cases hk:ko L p 2 with
  | none=>
   refine⟨List.Pairwise.nil,fun _ h=>absurd h List.not_mem_nil,fun _ h=>absurd h List.not_mem_nil,fun j x hj hx=>?_⟩;rw[Sr (F7 hk j hj)] at hx;cases hx
  | some k=>
   have hlt:=Two.vN hk;have ih:=Br hL n (fO L p k) aj
   have hh:=fun j (hj:j<2)=>Zb (p:=p) (hL j hj) (yO hk j hj)
   have hgt:∀r∈Two.fI L n (fO L p k),Less (bs k) (bs r.1):=fun r hr=>by
    obtain⟨j,x,hj,hx,e⟩:=ih.from_ r hr;rw[← e];exact (hh j hj).2.1 x hx
   refine⟨List.pairwise_cons.2 ⟨hgt,ih.rise⟩,fun r hr=>?_,fun r hr=>?_,fun j x hj hx=>?_⟩
   ·rcases List.mem_cons.1 hr with rfl|hr
    ·exact⟨(hh 0 aj).1,(hh 1 aj).1⟩
    have h:=ih.here r hr;rw[(hh 0 aj).2.2.1 _ (hgt r hr),(hh 1 aj).2.2.1 _ (hgt r hr)] at h;exact h
   ·rcases List.mem_cons.1 hr with rfl|hr
    ·obtain⟨j,x,hj,h1,h2⟩:=sG hk;exact⟨j,x,hj,by rw[Lc h1];exact List.mem_cons_self,h2⟩
    obtain⟨j,x,hj,hx,e⟩:=ih.from_ r hr;exact⟨j,x,hj,(hh j hj).2.2.2.2 x hx,e⟩
   rcases (hh j hj).2.2.2.1 x hx with e|hx2
   ·exact⟨_,List.mem_cons_self,(mg e).symm⟩
   obtain⟨r,hr,e⟩:=ih.all j x hj hx2;exact⟨r,List.mem_cons_of_mem _ hr,e⟩
end
theorem rO {a b:List It} (ha:kI a) (hb:kI b):WG (lg a b) (mZ a b) :=
 Br (L:=lg a b) (oO ha hb) _ (fun _=>0) (Nat.le_refl _)
def Di (rs:List Two.Rd):List Ch:=rs.flatMap fun r=>(lu r.2.1 r.2.2).toList
theorem WH (rs:List Two.Rd):∀s,rs.foldl kM s=s++Di rs:=by
 induction rs with
 | nil=>intro s;simp[Di]
 | cons r rs ih=>
  intro s;rw[List.foldl_cons,ih];unfold kM Di;rw[List.flatMap_cons,List.append_assoc]
theorem qz (a b:List It):iY a b=Di (mZ a b):=by
 unfold iY;rw[WH,List.nil_append]
theorem J9 {xa xb:Option It} {c:Ch} (h:lu xa xb=some c):(∃x,xa=some x∧c.f1.f1=x.f1)∨(∃x,xb=some x∧c.f1.f1=x.f1):=by
 unfold lu at h;split at h
 ·cases h
 cases xa with
 | none=>
  cases xb with
  | none=>cases h
  | some y=>
   obtain rfl:=Option.some.inj h;exact .inr ⟨y,rfl,rfl⟩
 | some x=>
  cases xb with
  | none=>
   obtain rfl:=Option.some.inj h;exact .inl ⟨x,rfl,rfl⟩
  | some y=>
   dsimp only at h;split at h
   ·obtain rfl:=Option.some.inj h;exact .inr ⟨y,rfl,rfl⟩
   obtain rfl:=Option.some.inj h;exact .inr ⟨y,rfl,rfl⟩
theorem Sv {x:It} {c:Ch} (h:c.f1.f1=x.f1):qR c=kV x:=by
 unfold qR kV;rw[h]
theorem Dj {a b:List It} (ha:kI a) (hb:kI b) {r:Two.Rd} (hr:r∈mZ a b) {c:Ch} (h:lu r.2.1 r.2.2=some c):qR c=r.1∧Vp c.f1.f1:=by
 have hs:=(rO ha hb).here r hr
 rcases J9 h with⟨x,hx,e⟩|⟨x,hx,e⟩
 ·rw[hs.1] at hx;obtain⟨h1,h2⟩:=rM hx;exact⟨(Sv e).trans (mg h2),by rw[e];exact ha.path x h1⟩
 rw[hs.2] at hx;obtain⟨h1,h2⟩:=rM hx;exact⟨(Sv e).trans (mg h2),by rw[e];exact hb.path x h1⟩
theorem vo {rs:List Two.Rd} {c:Ch}:c∈Di rs↔∃r∈rs,lu r.2.1 r.2.2=some c:=by
 unfold Di;simp only[List.mem_flatMap,Option.mem_toList]
theorem Ka {P:Two.Rd→Prop}:∀(rs:List Two.Rd),rs.Pairwise (fun r s=>Less (bs r.1) (bs s.1))→(∀r∈rs,∀c,lu r.2.1 r.2.2=some c→qR c=r.1)→(Di rs).Pairwise (fun c d=>Less (bs (qR c)) (bs (qR d)))
 | [],_,_=>List.Pairwise.nil
 | r::rs,hs,hk=>by
  have hs2:=List.pairwise_cons.1 hs;have ih:=Ka (P:=P) rs hs2.2 (fun q hq=>hk q (List.mem_cons_of_mem _ hq));unfold Di;rw[List.flatMap_cons]
  cases hd:lu r.2.1 r.2.2 with
  | none=>exact ih
  | some c=>
   refine List.pairwise_cons.2 ⟨fun d hd2=>?_,ih⟩;obtain⟨q,hq,he⟩:=vo.1 hd2;rw[hk r List.mem_cons_self c hd,hk q (List.mem_cons_of_mem _ hq) d he];exact hs2.1 q hq
theorem DY {a b:List It} (ha:kI a) (hb:kI b):(iY a b).Pairwise (fun c d=>Less (bs (qR c)) (bs (qR d))):=by
 rw[qz];exact Ka (P:=fun _=>True) _ (rO ha hb).rise (fun r hr c hc=>(Dj ha hb hr hc).1)
theorem DZ {a b:List It} (ha:kI a) (hb:kI b) (k:ByteArray):tT (iY a b) k=lu (st a (bs k)) (st b (bs k)):=by
 have hsp:=rO ha hb
 cases hc:tT (iY a b) k with
 | some c=>
  obtain⟨hm,hk⟩:=xA hc;rw[qz] at hm;obtain⟨r,hr,hd⟩:=vo.1 hm;have he:=(Dj ha hb hr hd).1;have hs:=hsp.here r hr;rw[hs.1,hs.2,← he,hk] at hd;exact hd.symm
 | none=>
  cases hd:lu (st a (bs k)) (st b (bs k)) with
  | none=>rfl
  | some c=>
   exfalso
   have hr:∃r∈mZ a b,r.1=k:=by
    rcases J9 hd with⟨x,hx,_⟩|⟨x,hx,_⟩
    ·obtain⟨h1,h2⟩:=rM hx;obtain⟨r,hr,e⟩:=hsp.all 0 x aj h1;exact⟨r,hr,e.trans (mg h2)⟩
    obtain⟨h1,h2⟩:=rM hx;obtain⟨r,hr,e⟩:=hsp.all 1 x aj h1;exact⟨r,hr,e.trans (mg h2)⟩
   obtain⟨r,hr,e⟩:=hr;have hs:=hsp.here r hr
   have hd2:lu r.2.1 r.2.2=some c:=by
    rw[hs.1,hs.2,e];exact hd
   have hm:c∈iY a b:=by
    rw[qz];exact vo.2 ⟨r,hr,hd2⟩
   exact CW hc c hm ((Dj ha hb hr hd2).1.trans e)
theorem Qn {a b:List It} (ha:kI a) (hb:kI b):kI (eP (iY a b)):=by
 refine⟨fun x hx=>?_,?_⟩
 ·obtain⟨c,hc,rfl⟩:=List.mem_map.1 hx;rw[qz] at hc;obtain⟨r,hr,hd⟩:=vo.1 hc;exact (Dj ha hb hr hd).2
 unfold eP;rw[List.pairwise_map];exact DY ha hb
theorem same_eq {x y:It} (h:JG (some x) (some y)=true) (hp:x.f1=y.f1) (fx:Fit x) (fy:Fit y):x=y:=by
 unfold JG F8 at h;simp only[Bool.and_eq_true,decide_eq_true_eq] at h;obtain⟨h0,h2,h3,h4,h5⟩:=h;rw[uW fx.b fy.b,decide_eq_true_eq] at h5;replace h4:=vX.1 h4;replace h2:=mg h2;cases x;cases y;simp only at h0 h2 h3 h4 h5 hp;subst h0 h2 h3 h4 h5 hp;rfl
theorem yP (g:Two.Rd→Option It):∀(rs:List Two.Rd) (T:List It),rs.Pairwise (fun r s=>Less (bs r.1) (bs s.1))→kI T→(∀r∈rs,g r=st T (bs r.1))→(∀x∈T,∃r∈rs,r.1=kV x)→(rs.flatMap fun r=>(g r).toList)=T
 | [],T,_,_,_,ha=>by
  cases T with
  | nil=>rfl
  | cons x T=>
   obtain⟨r,hr,_⟩:=ha x List.mem_cons_self;exact absurd hr List.not_mem_nil
 | r::rs,T,hs,hT,hg,ha=>by
  have hs2:=List.pairwise_cons.1 hs;have hgr:=hg r List.mem_cons_self;rw[List.flatMap_cons]
  cases T with
  | nil=>
   have ih:=yP g rs [] hs2.2 hT (fun q hq=>hg q (List.mem_cons_of_mem _ hq)) (fun _ h=>absurd h List.not_mem_nil);rw[ih,hgr];rfl
  | cons x T=>
   obtain⟨q,hq,hqx⟩:=ha x List.mem_cons_self
   rcases List.mem_cons.1 hq with rfl|hq1
   ·have hkx:kl x=bs q.1:=by rw[hqx]
    rw[F4 hkx] at hgr
    have ih:=yP g rs T hs2.2 hT.tail (fun r' hr'=>by
     have h:=hg r' (List.mem_cons_of_mem _ hr');rw[F3 (by rw[hkx];exact (hs2.1 r' hr').ne)] at h
     exact h) (fun y hy=>by
     obtain⟨r',hr',e⟩:=ha y (List.mem_cons_of_mem _ hy)
     rcases List.mem_cons.1 hr' with rfl|hr1
     ·exact absurd (show kl x=kl y by rw[hkx,e]) (hT.head y hy).ne
     exact⟨r',hr1,e⟩)
    rw[ih,hgr];rfl
   have hlt:Less (bs r.1) (kl x):=by
    have:=hs2.1 q hq1;rw[hqx] at this;exact this
   have hn:st (x::T) (bs r.1)=none:=Sn (fun y hy e=>by
    rcases List.mem_cons.1 hy with rfl|hy1
    ·exact hlt.ne e.symm
    exact (hlt.trans (hT.head y hy1)).ne e.symm)
   have ih:=yP g rs (x::T) hs2.2 hT (fun q hq=>hg q (List.mem_cons_of_mem _ hq)) (fun y hy=>by
    obtain⟨r',hr',e⟩:=ha y hy
    rcases List.mem_cons.1 hr' with rfl|hr1
    ·exfalso
     have h2:Less (bs r'.1) (kl y):=by
      rcases List.mem_cons.1 hy with rfl|hy1
      ·exact hlt
      exact hlt.trans (hT.head y hy1)
     exact h2.ne (by rw[e])
    exact⟨r',hr1,e⟩)
   rw[ih,hgr,hn];rfl
theorem N9 (cs:List Ch) (g:Two.Rd→Option It):∀(rs:List Two.Rd) (s:List It),(∀r∈rs,oP cs r=some (g r).toList)→kP cs rs s=some (s++rs.flatMap fun r=>(g r).toList)
 | [],s,_=>by simp[kP]
 | r::rs,s,h=>by
  rw[kP,h r List.mem_cons_self];dsimp only;rw[N9 cs g rs _ (fun q hq=>h q (List.mem_cons_of_mem _ hq)),List.flatMap_cons,List.append_assoc]
theorem xU {r:Rn} {i:Int}:i∈jf r↔r.f0≤i∧i<r.f1:=by
 unfold jf;simp only[List.mem_map,List.mem_range];constructor
 ·rintro⟨k,hk,rfl⟩;omega
 rintro⟨h1,h2⟩;exact⟨(i - r.f0).toNat,by omega,by omega⟩
theorem Sw (r:Rn):(jf r).Pairwise (· < ·):=by
 unfold jf;rw[List.pairwise_map];exact List.pairwise_lt_range.imp (fun h=>by omega)
theorem vv (r:Rn) (l:List Rn):idxs (r::l)=jf r++idxs l:=by
 unfold idxs;rw[List.flatMap_cons]
theorem Ke (size:Int):∀(l:List Rn) (last all l2 a2:Int),iJ size last all l=some (l2,a2)→(idxs l).Pairwise (· < ·)∧∀i∈idxs l,last<i
 | [],_,_,_,_,_=>⟨List.Pairwise.nil,fun i h=>by cases h⟩
 | r::l,last,all,l2,a2,h=>by
  rw[iJ] at h;split at h
  ·cases h
  rename_i hc;obtain⟨h1,h2⟩:=Ke size l r.f1 _ l2 a2 h;rw[vv];refine⟨List.pairwise_append.2 ⟨Sw r,h1,fun x hx y hy=>?_⟩,fun i hi=>?_⟩
  ·have:=xU.1 hx;have:=h2 y hy;omega
  rcases List.mem_append.1 hi with hi|hi
  ·have:=xU.1 hi;omega
  have:=h2 i hi;omega
structure WJ (x:It):Prop where
 t:x.f2=⟨#[]⟩
 f:iK x.f3 x.f4 x.f5=true
 u:(idxs x.f4).Pairwise (· < ·)
 n:x.f5.length=512*(idxs x.f4).length
theorem Uz {s:ByteArray} (h:s.size=0):s=⟨#[]⟩:=by
 apply mg
 show s.data.toList=[]
 have:s.data.size=0:=h;exact List.eq_nil_of_length_eq_zero (by simpa using this)
theorem Dk {K:List (ByteArray × Int)} {x:It} (h:d9 K x=true) (h1:x.f0=1):WJ x:=by
 unfold d9 at h;rw[if_pos h1] at h;simp only[Bool.and_eq_true,decide_eq_true_eq] at h;have hf:=h.2;have hg:=hf
 suffices hh:(idxs x.f4).Pairwise (· < ·)∧x.f5.length=512*(idxs x.f4).length from⟨Uz h.1,hg,hh.1,hh.2⟩
 unfold iK at hf;split at hf
 ·cases hf
 cases hr:iJ x.f3 (-1) 0 x.f4 with
 | none=>rw[hr] at hf;cases hf
 | some p=>
  obtain⟨l2,a2⟩:=p;rw[hr,uh] at hf;have h2:=zU x.f3 aj aj x.f4 (-1) 0 l2 a2 hr;split at hf
  ·exact⟨(Ke _ _ _ _ _ _ hr).1,by omega⟩
  cases hf
theorem xV:∀{l:List It} {K:List (ByteArray × Int)} {b:Option (List ByteArray)},gY K b l=true→∀x∈l,∃K',d9 K' x=true
 | [],_,_,_=>fun _ h=>absurd h List.not_mem_nil
 | y::l,K,b,h=>by
  rw[gY] at h;simp only[Bool.and_eq_true,decide_eq_true_eq] at h;intro x hx
  rcases List.mem_cons.1 hx with rfl|hx1
  ·exact⟨K,h.1.2⟩
  exact xV h.2 x hx1
theorem Ld {l:List It} (h:jN l=true):∀x∈l,x.f0=1→WJ x:=fun x hx h1=>by
 obtain⟨K,hk⟩:=xV h x hx;exact Dk hk h1
theorem WK {l:List Int} (h:l.Pairwise (· < ·)):l.Nodup:=h.imp (fun h=>by omega)
theorem F9 {a b:List It} (ha:jN a=true) (hb:jN b=true) (fa:∀x∈a,Fit x) (fb:∀x∈b,Fit x):qG a (iY a b)=some b:=by
 have ra:=qJ ha;have rb:=qJ hb;have rf:=Qn ra rb;have hsp:=rO ra rf
 have hstep:∀r∈mZ a (eP (iY a b)),oP (iY a b) r=some ((fun r:Two.Rd=>st b (bs r.1)) r).toList:=by
  intro r hr;have hs:=hsp.here r hr;dsimp only;unfold oP;rw[DZ ra rb];have h0:r.2.1=st a (bs r.1):=hs.1;rw[h0]
  cases hd:lu (st a (bs r.1)) (st b (bs r.1)) with
  | none=>
   dsimp only
   congr 2
   unfold lu at hd;split at hd
   ·rename_i hsame
    cases hxa:st a (bs r.1) with
    | none=>
     rw[hxa] at hsame
     cases hxb:st b (bs r.1) with
     | none=>rfl
     | some y=>rw[hxb] at hsame;cases hsame
    | some x=>
     rw[hxa] at hsame
     cases hxb:st b (bs r.1) with
     | none=>rw[hxb] at hsame;cases hsame
     | some y=>
      rw[hxb] at hsame;obtain⟨m1,k1⟩:=rM hxa;obtain⟨m2,k2⟩:=rM hxb;rw[same_eq hsame (key_inj (ra.path x m1) (rb.path y m2) (mg (k1.trans k2.symm))) (fa x m1) (fb y m2)]
   cases hxa:st a (bs r.1) with
   | none=>
    rw[hxa] at hd
    cases hxb:st b (bs r.1) with
    | none=>rfl
    | some y=>rw[hxb] at hd;cases hd
   | some x=>
    rw[hxa] at hd
    cases hxb:st b (bs r.1) with
    | none=>rw[hxb] at hd;cases hd
    | some y=>
     rw[hxb] at hd;dsimp only at hd
     split at hd <;> cases hd
  | some c=>
   dsimp only;unfold lu at hd;split at hd
   ·cases hd
   cases hxa:st a (bs r.1) with
   | none=>
    rw[hxa] at hd
    cases hxb:st b (bs r.1) with
    | none=>rw[hxb] at hd;cases hd
    | some y=>
     rw[hxb] at hd;obtain rfl:=Option.some.inj hd;rfl
   | some x=>
    rw[hxa] at hd
    cases hxb:st b (bs r.1) with
    | none=>
     rw[hxb] at hd;obtain rfl:=Option.some.inj hd;rfl
    | some y=>
     rw[hxb] at hd;dsimp only at hd;split at hd
     ·rename_i hk;obtain rfl:=Option.some.inj hd;rw[if_neg (by show ¬(3:Int)=2;decide),if_pos (by rfl)];have fy:=Ld hb y (rM hxb).1 hk.2;have he:=Oa (goal:=y) hk.1 (WK fy.u) fy.n;unfold vP;rw[Option.bind_some,he]
      show some [(⟨1,y.f1,⟨#[]⟩,y.f3,y.f4,y.f5⟩:It)]=some [y]
      congr 2
      rw[← fy.t,← hk.2]
     obtain rfl:=Option.some.inj hd;rfl
 unfold qG;rw[N9 _ _ _ _ hstep,List.nil_append,yP (fun r=>st b (bs r.1)) _ b hsp.rise rb (fun _ _=>rfl)];intro x hx;by_cases hd:lu (st a (kl x)) (st b (kl x))=none
 ·cases hxa:st a (kl x) with
  | some z=>
   obtain⟨m,k⟩:=rM hxa;obtain⟨r,hr,e⟩:=hsp.all 0 z aj m;exact⟨r,hr,e.trans (mg k)⟩
  | none=>
   rw[hxa,adn rb hx] at hd;cases hd
 cases hc:lu (st a (kl x)) (st b (kl x)) with
 | none=>exact absurd hc hd
 | some c=>
  have h1:tT (iY a b) (kV x)=some c:=(DZ ra rb (kV x)).trans hc;obtain⟨m,k⟩:=xA h1;obtain⟨r,hr,e⟩:=hsp.all 1 (xB c) aj (List.mem_map.2 ⟨c,m,rfl⟩);exact⟨r,hr,e.trans k⟩
def jw (old:List It) (b:List Int):Option (List It × Int × Int × List Ch) × Int :=
 if (bY old).2≠0 then (none,(bY old).2) else match vk b with
  | (none,e)=>(none,e)
  | (some (b0,g0,cs),_)=>if b0≠gV (bY old).1 then (none,181) else match qG old cs with
   | none=>(none,180)
   | some l=>if (kW old l).2≠0 then (none,180) else if (kW old l).1=b then (some (l,b0,g0,cs),0) else (none,180)
theorem Ga {b:List Int} {b0 g0 e:Int} {cs:List Ch} (h:vk b=(some (b0,g0,cs),e)):e=0∧b.length≤16777216∧qU b=some (b0,g0,cs)∧(iA b0 g0 cs).2=0∧(iA b0 g0 cs).1=b:=by
 unfold vk at h;split at h
 ·injection h with h;cases h
 rename_i hl
 cases hp:qU b with
 | none=>rw[hp] at h;injection h with h;cases h
 | some q=>
  obtain⟨b1,g1,cs1⟩:=q;rw[hp] at h;dsimp only at h;split at h
  ·injection h with h;cases h
  rename_i h0;split at h
  ·rename_i h1
   injection h with h2 h3
   injection h2 with h2
   injection h2 with e1 h2
   injection h2 with e2 e3
   subst e1 e2 e3;exact⟨h3.symm,by omega,rfl,Decidable.not_not.1 h0,h1⟩
  injection h with h;cases h
theorem Gb {b:List Int} {e:Int} (h:vk b=(none,e)):e=7∨e=180:=by
 unfold vk at h;split at h
 ·injection h with _ h;exact .inl h.symm
 split at h
 ·injection h with _ h;exact .inr h.symm
 split at h
 ·injection h with _ h;exact .inr h.symm
 split at h
 ·injection h with h;cases h
 injection h with _ h;exact .inr h.symm
theorem Dl (most:Int) (hm:most≤16522):∀(l:List Ru) (last all a:Int),-1≤last→last≤16522→gZ most last all l=some a→a=all+(idxs l).length∧(∀r∈l,0≤r.f0∧r.f0≤r.f1∧r.f1≤16522)∧(l.length:Int)≤16522 - last∧((idxs l).length:Int)≤16522 - last
 | [],last,all,a,h0,h9,h=>by
  obtain rfl:=Option.some.inj h;refine⟨by simp[idxs],fun _ h=>(by cases h),?_,?_⟩
  ·simp;omega
  simp[idxs];omega
 | r::l,last,all,a,h0,h9,h=>by
  rw[gZ] at h;split at h
  ·cases h
  rename_i hc;obtain⟨h1,h2,h3,h4⟩:=Dl most hm l r.f1 _ a aj aj h
  have hl:(idxs (r::l)).length=(r.f1 - r.f0).toNat+(idxs l).length:=by
   rw[vv,List.length_append];simp[jf]
  refine⟨by rw[hl];omega,fun q hq=>?_,?_,?_⟩
  ·rcases List.mem_cons.1 hq with rfl|hq
   ·omega
   exact h2 q hq
  ·rw[List.length_cons];omega
  rw[hl];omega
theorem Kg {x:It} {a:Int} (h:gJ x=some a):a=(idxs x.f4).length∧(∀r∈x.f4,0≤r.f0∧r.f0≤r.f1∧r.f1≤16522)∧x.f4.length≤16523∧(idxs x.f4).length≤16523:=by
 unfold gJ at h;split at h
 ·cases h
 obtain⟨h1,h2,h3,h4⟩:=Dl _ aj x.f4 (-1) 0 a aj aj h;exact⟨by omega,h2,by omega,by omega⟩
theorem Bt:∀{l:List Ch} {last:ByteArray},gK last l=true→∀c∈l,fZ c.f1.f1=true∧lQ c=true
 | [],_,_,c,hc=>by cases hc
 | d::l,last,h,c,hc=>by
  rw[gK] at h;simp only[Bool.and_eq_true] at h
  rcases List.mem_cons.1 hc with rfl|hc
  ·exact⟨h.1,h.2.2.1⟩
  exact Bt h.2.2.2 c hc
structure ChB (c:Ch):Prop where
 p:c.f1.f1.size≤1023
 r:c.f1.f4.length≤16523
 d:c.f1.f5.length≤8459776
 e:c.f0=3→VX c
theorem ado {c:Ch} (hw:fZ c.f1.f1=true) (hc:lQ c=true) (hf:uH c):ChB c:=by
 have hp:c.f1.f1.size≤1023:=by
  unfold fZ at hw;simp only[Bool.and_eq_true,decide_eq_true_eq] at hw;exact hw.1
 unfold lQ at hc;split at hc
 ·rename_i h1;simp only[Bool.and_eq_true,decide_eq_true_eq] at hc;exact⟨hp,by omega,by omega,fun h=>by omega⟩
 split at hc
 ·rename_i h1 h2;simp only[Bool.and_eq_true,decide_eq_true_eq] at hc;have hq:=hc.2
  suffices hh:c.f1.f4.length≤16523∧c.f1.f5.length≤8459776 from⟨hp,hh.1,hh.2,fun h=>by omega⟩
  have hbare:iQ c.f1=true→c.f1.f4.length≤16523∧c.f1.f5.length≤8459776:=fun hb=>by
   unfold iQ at hb;simp only[Bool.and_eq_true,decide_eq_true_eq] at hb;omega
  unfold jH at hq;split at hq
  ·cases hz:gJ c.f1 with
   | none=>rw[hz] at hq;cases hq
   | some a=>
    rw[hz] at hq;simp only[Bool.and_eq_true,decide_eq_true_eq] at hq;obtain⟨h1,h2,h3,h4⟩:=Kg hz;omega
  split at hq
  ·simp only[Bool.and_eq_true] at hq;exact hbare hq.1
  split at hq
  ·simp only[Bool.and_eq_true] at hq;exact hbare hq.1
  split at hq
  ·simp only[Bool.and_eq_true] at hq;exact hbare hq.1
  cases hq
 split at hc
 ·rename_i h3;unfold kL at hc
  cases hz:gJ c.f1 with
  | none=>rw[hz] at hc;cases hc
  | some a=>
   rw[hz] at hc;dsimp only at hc;split at hc
   ·cases hc
   cases hs:jm c.f2 16522 with
   | none=>rw[hs] at hc;cases hc
   | some b=>
    rw[hs] at hc;simp only[Bool.and_eq_true,decide_eq_true_eq] at hc;obtain⟨h1,h2,h3,h4⟩:=Kg hz;obtain⟨s1,s2,s3,s4⟩:=Dl 16522 aj c.f2 (-1) 0 b aj aj hs
    have hfe:VX c:=⟨hf.i.b,by omega,s2,by omega,by omega,h2,h3,h4⟩
    exact⟨hp,h3,by omega,fun _=>hfe⟩
 cases hc
theorem Kh {b0 g0:Int} {cs:List Ch} (h:(iA b0 g0 cs).2=0) (hf:∀c∈cs,uH c):∀c∈cs,ChB c:=fun c hc=>by
 obtain⟨_,h2,_,_⟩:=xP h;unfold sU at h2;simp only[Bool.and_eq_true,decide_eq_true_eq] at h2;obtain⟨h3,h4⟩:=Bt h2.2.2.2.2 c hc;exact ado h3 h4 (hf c hc)
theorem UA {d:List Int} {k:Nat} {n:Int} (h:n∈dS d k):n∈d:=List.mem_of_mem_drop (List.mem_of_mem_take h)
theorem Ki {rows:List Rn} {d:List Int} {i:Int} {b:List Int} (h:kQ rows d i=some b):∀n∈b,n∈d:=by
 unfold kQ at h
 cases hl:jC (idxs rows) 0 i with
 | none=>rw[hl] at h;cases h
 | some k=>
  rw[hl] at h;obtain rfl:=Option.some.inj h
  exact fun n hn=>UA hn
theorem Bu (old:EG) (c:Ch):∀(l d:List Int),dD old c l=some d→∀n∈d,n∈c.f1.f5∨n∈old.f5
 | [],d,h=>by
  obtain rfl:=Option.some.inj h;intro n hn;cases hn
 | i::l,d,h=>by
  rw[dD] at h
  have key:∀b:List Int,(∀n∈b,n∈c.f1.f5∨n∈old.f5)→(dD old c l).map (b ++ ·)=some d→∀n∈d,n∈c.f1.f5∨n∈old.f5:=fun b hb hm=>by
   cases he:dD old c l with
   | none=>rw[he] at hm;cases hm
   | some e=>
    rw[he] at hm;obtain rfl:=Option.some.inj hm;intro n hn
    rcases List.mem_append.1 hn with hn|hn
    ·exact hb n hn
    exact Bu old c l e he n hn
  cases h1:kQ c.f2 c.f1.f5 i with
  | some b=>
   rw[h1] at h;exact key b (fun n hn=>.inl (Ki h1 n hn)) h
  | none=>
   rw[h1] at h;dsimp only at h
   cases h2:kQ old.f4 old.f5 i with
   | some b=>
    rw[h2] at h;exact key b (fun n hn=>.inr (Ki h2 n hn)) h
   | none=>rw[h2] at h;cases h
theorem Qo {y z:It} {c:Ch} (h:rF y c=some z) (hy:Fit y) (hc:uH c) (he:VX c):Fit z:=by
 unfold rF at h;split at h
 ·cases h
 cases hg:dD y c (idxs c.f1.f4) with
 | none=>rw[hg] at h;cases h
 | some d=>
  rw[hg] at h;obtain rfl:=Option.some.inj h;have h1:=xC y c _ d hg;have h2:=he.i4;refine⟨hc.i.p,by show (0:Nat)≤_;omega,hc.i.r,by show d.length≤_;omega,fun n hn=>?_⟩
  rcases Bu y c _ d hg n hn with h|h
  ·exact hc.i.b n h
  exact hy.b n h
theorem Kj (cs:List Ch) (hc:∀c∈cs,uH c) (he:∀c∈cs,ChB c):∀(rs:List Two.Rd) (s t:List It),(∀r∈rs,∀x,r.2.1=some x→Fit x)→(∀x∈s,Fit x)→kP cs rs s=some t→∀x∈t,Fit x
 | [],s,t,_,hs,h=>by
  obtain rfl:=Option.some.inj h;exact hs
 | r::rs,s,t,hr,hs,h=>by
  rw[kP] at h
  cases ho:oP cs r with
  | none=>rw[ho] at h;cases h
  | some l=>
   rw[ho] at h;refine Kj cs hc he rs (s++l) t (fun q hq=>hr q (List.mem_cons_of_mem _ hq)) (fun x hx=>?_) h
   rcases List.mem_append.1 hx with hx|hx
   ·exact hs x hx
   unfold oP at ho;split at ho
   ·obtain rfl:=Option.some.inj ho;exact hr r List.mem_cons_self x (Option.mem_toList.1 hx)
   rename_i c hca;have hm:=(xA hca).1;split at ho
   ·obtain rfl:=Option.some.inj ho;rw[List.mem_singleton.1 hx];exact (hc c hm).i
   split at ho
   ·rename_i h3
    cases hed:vP r.2.1 c with
    | none=>rw[hed] at ho;cases ho
    | some z=>
     rw[hed] at ho;obtain rfl:=Option.some.inj ho;rw[List.mem_singleton.1 hx];unfold vP at hed
     cases hxa:r.2.1 with
     | none=>rw[hxa] at hed;cases hed
     | some y=>
      rw[hxa] at hed;exact Qo hed (hr r List.mem_cons_self y hxa) (hc c hm) ((he c hm).e h3)
   split at ho
   ·cases ho
   obtain rfl:=Option.some.inj ho;cases hx
theorem Sy {x:It} (h:Fit x):nO x=true:=by
 unfold nO;simp only[Bool.and_eq_true,decide_eq_true_eq,List.all_eq_true];exact⟨⟨⟨⟨h.p,h.t⟩,h.r⟩,h.d⟩,h.b⟩
theorem D5 {old l:List It} {cs:List Ch} (hf:old.all nO=true) (hc:∀c∈cs,uH c) (he:∀c∈cs,ChB c) (h:qG old cs=some l):l.all nO=true:=by
 refine List.all_eq_true.2 fun x hx=>Sy (Kj cs hc he _ [] l (fun r hr y hy=>?_) (fun _ h=>by cases h) h x hx)
 exact uG (List.all_eq_true.1 hf y ((Two.here hr).1 y hy))
end Go.Proofs.YtknihldkhedpkaaGreatDoor
end
