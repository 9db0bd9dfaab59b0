import Derived.Test.YtknihldkhedpkaaGreatDoorYYG10
import Derived.WalkKit
import Derived.Deep.QuietTactic
import Derived.BigQuiet
import Derived.Test.YtknihldkhedpkaaGreatDoorYYG14
set_option linter.all false
set_option maxHeartbeats 16000000
set_option maxRecDepth 100000
section
namespace Go.Proofs.YtknihldkhedpkaaGreatDoor
open Go.RowKit Go.Lib
open Go.Proofs.YtknihldkhedpkaaGreatDoorW.PrintWords Go.Proofs.YtknihldkhedpkaaGreatDoorW.PrintLast Go.Proofs.YtknihldkhedpkaaGreatDoor.PT
theorem Eu {w:World} {A:Option Addr} {l:List Ru} (h:Kd.C cO w A l.length l) (i:Nat) (hi:i<l.length):∃ad,A=some ad∧w.cell? (ad.add (i*2))=some (.int .i64 l[i].f0)∧w.cell? ⟨(ad.add (i*2)).block,(ad.add (i*2)).off+1,none⟩=some (.int .i64 l[i].f1):=by
 obtain⟨ad,hA,r0,r1⟩:=dK h (i:Int) (by omega) (by omega)
 have hrd:aK l (i:Int)=l[i]:=by simp[aK,hi]
 rw[hrd,Int.toNat_natCast] at r0 r1;exact⟨ad,hA,r0,r1⟩
theorem uq (A0:Option Addr) (c0:Nat) (l:List Ru) (most:Int) (w:World) (hr:Kd.C cO w A0 l.length l) (hc:l.length≤c0) (hl:l.length≤140737488351232) (hm0:0≤most) (hm1:most≤1048576) :
  Calls Tryz.prog 136 #[.slice A0 l.length c0,.int .i64 most] w fun e w'=>e=.returned (.tuple #[.int .i64 ((iQ l most).getD 0),.bool (iQ l most).isSome])∧Below w.heap.size w w':=by
 have HR:=ah.mk hr;clear hr
 go_enter Tryz.func136,Tryz.ntmps136
 go_wp2_with fail
 go_loopg [6,7,12] l.length (fun g s6 s7 s12 wx=>∃(i:Nat) (last all:Int),i+g=l.length∧s12=.int .i64 i∧s6=.int .i64 last∧s7=.int .i64 all∧-1≤last∧last≤most∧0≤all∧all≤last+1∧ah (gH most last all (l.drop i)=iQ l most)∧ah (Below w.heap.size w wx))
 case atStart=>exact⟨0,-1,0,by omega,rfl,rfl,rfl,by omega,by omega,by omega,by omega,⟨by rw[List.drop_zero];rfl⟩,⟨Below.refl _ _⟩⟩
 case round=>
  obtain⟨i,last,all,hig,rfl,rfl,rfl,h1,h2,h3,h4,HG,HB⟩:=hrel;by_cases hi:i<l.length
  ·obtain⟨ad,hA,r0,r1⟩:=Eu (Kd.aC HR.out HB.out) i hi;subst hA;have hg:=HG.out;rw[List.drop_eq_getElem_cons hi] at hg
   obtain⟨r,hr⟩:∃r,l[i]=r:=⟨_,rfl⟩
   rw[hr] at hg r0 r1;have yX:=ah.mk (HB.out.trans (((Below.refl wr.heap.size wr).alloc (Nat.le_refl _) (.cells #[.int .i64 r.f0,.int .i64 r.f1] 117)).mono HB.out.size));have NM:=ah.mk hg;clear hg hr HG HB;by_cases c1:r.f0≤last
   ·have HN:ah (iQ l most=none):=⟨by rw[← NM.out,gH,if_pos (.inl c1)]⟩
    go_wp2_with fail
    go_ret2
    exact⟨by rw[HN.out];rfl,yX.out⟩
   ·by_cases c2:r.f1≤r.f0
    ·have HN:ah (iQ l most=none):=⟨by rw[← NM.out,gH,if_pos (.inr (.inl c2))]⟩
     go_wp2_with fail
     go_ret2
     exact⟨by rw[HN.out];rfl,yX.out⟩
    ·by_cases c3:most<r.f1
     ·have HN:ah (iQ l most=none):=⟨by rw[← NM.out,gH,if_pos (.inr (.inr c3))]⟩
      go_wp2_with fail
      go_ret2
      exact⟨by rw[HN.out];rfl,yX.out⟩
     ·have HN:ah (gH most r.f1 (all+(r.f1 - r.f0)) (l.drop (i+1))=iQ l most):=⟨by rw[← NM.out,gH,if_neg (by omega)]⟩
      go_wp2_with fail
      go_roundg (l.length - (i+1))
      case measure=>omega
      case rel=>exact⟨i+1,r.f1,all+(r.f1 - r.f0),by omega,by first|rfl|simp,rfl,rfl,by omega,by omega,by omega,by omega,HN,yX⟩
  ·have HN:ah (iQ l most=some all):=⟨by rw[← HG.out,List.drop_of_length_le (by omega)];rfl⟩
   go_wp2_with fail
   go_ret2
   exact⟨by rw[HN.out];rfl,HB.out⟩
theorem abC (n:Int) (w:World) (h0:0≤n) (h1:n≤1099511627776):Calls Tryz.prog 147 #[.int .i64 n] w fun e w'=>e=.returned (.int .i64 ((n+511) / 512))∧w'=w:=by
 go_enter Tryz.func147,Tryz.ntmps147
 go_wp2_with fail
 go_ret
 refine⟨?_,rfl⟩
 show Ending.returned (.int .i64 ((n+512 - 1) / 512))=_
 rw[show n+512 - 1=n+511 by omega]
theorem BQ (x:It) (A4:Option Addr) (c4:Nat) (v5:Value) (w:World) (hr:Kd.C cO w A4 x.f4.length x.f4) (hc:x.f4.length≤c4) (hl:x.f4.length≤140737488351232) :
  Calls Tryz.prog 133 #[.agg #[.int .i64 x.f0,.string x.f1,.string x.f2,.int .i64 x.f3,.slice A4 x.f4.length c4,v5]] w fun e w'=>e=.returned (.tuple #[.int .i64 ((fT x).getD 0),.bool (fT x).isSome])∧Below w.heap.size w w':=by
 obtain⟨X,hX⟩:∃X,#[Value.int .i64 x.f0,.string x.f1,.string x.f2,.int .i64 x.f3,.slice A4 x.f4.length c4,v5]=X:=⟨_,rfl⟩
 have hbx:=bK w (.cells X 29)
 have x3:(w.alloc (.cells X 29)).cell? ⟨w.heap.size,3,none⟩=some (.int .i64 x.f3):=by rw[ak hbx,← hX];rfl
 have x4:(w.alloc (.cells X 29)).cell? ⟨w.heap.size,4,none⟩=some (.slice A4 x.f4.length c4):=by rw[ak hbx,← hX];rfl
 rw[hX];have HB:=ah.mk ((Below.refl w.heap.size w).alloc (Nat.le_refl _) (.cells X 29));have HR:=ah.mk hr
 have h4:X.size=6:=by rw[← hX];rfl
 have HX:=ah.mk hX;have H4:=ah.mk h4;clear hr hX h4 hbx;by_cases c1:x.f3<0
 ·have HN:ah (fT x=none):=⟨by unfold fT;rw[if_pos (.inl c1)]⟩
  go_enter Tryz.func133,Tryz.ntmps133
  go_wp2_with fail
  go_ret2
  exact⟨by rw[HN.out];rfl,HB.out⟩
 ·by_cases c2:8459264<x.f3
  ·have HN:ah (fT x=none):=⟨by unfold fT;rw[if_pos (.inr c2)]⟩
   go_enter Tryz.func133,Tryz.ntmps133
   go_wp2_with fail
   go_ret2
   exact⟨by rw[HN.out];rfl,HB.out⟩
  ·have HN:ah (fT x=iQ x.f4 ((x.f3+511) / 512)):=⟨by unfold fT;rw[if_neg (by omega)]⟩
   obtain⟨W1,hW1⟩:∃W1,w.alloc (.cells X 29)=W1:=⟨_,rfl⟩
   rw[hW1] at HB x3 x4
   go_enter Tryz.func133,Tryz.ntmps133
   go_wp2_with fail
   try rw[hW1]
   have hdr:=bC (Below.refl W1.heap.size W1)
   have hS:W1.drew.cell? ⟨w.heap.size,3,none⟩=some (.int .i64 x.f3)∧W1.drew.cell? ⟨w.heap.size,4,none⟩=some (.slice A4 x.f4.length c4)∧ah (Below w.heap.size w W1.drew):=⟨aj hdr x3,aj hdr x4,⟨HB.out.trans (hdr.mono HB.out.size)⟩⟩
   clear x3 x4 hdr;refine kW (n:=10) (S:=(fun w'=>w'.cell? ⟨w.heap.size,3,none⟩=some (.int .i64 x.f3)∧w'.cell? ⟨w.heap.size,4,none⟩=some (.slice A4 x.f4.length c4)∧ah (Below w.heap.size w w'))) (ds:=[]) #[false,false,false,false,false,false,false,false,false,false] (by kernel_rfl) rfl rfl hS (fun hHeld=>?_);clear hS;refine bA (i:=0) (N:=some 12) (v:=?_) (a':=?_) #[true,false,false,false,false,false,false,false,false,false] rfl rfl (by kernel_rfl) (fun _ _ _ h=>h) (Or.inl ⟨by rfl,?_⟩) ?_ ?_;rotate_left
   ·intro w'
    go_simp
    with_reducible rfl
   rotate_left
   ·simp only[Act.put,aYa,aYb,aYc,aG,aH];rfl
   refine dM (i:=1) (N:=some 13) (v:=?_) (a':=?_) #[true,true,false,false,false,false,false,false,false,false] rfl rfl (by kernel_rfl) (fun _ _ _ h=>h) (Or.inl ⟨by rfl,?_⟩) hHeld ?_ ?_;rotate_left
   ·rintro w' ⟨s3,s4,s5⟩
    go_simp
    with_reducible rfl
   rotate_left
   ·simp only[Act.put,aYa,aYb,aYc,aG,aH];rfl
   refine bA (i:=2) (N:=some 14) (v:=?_) (a':=?_) #[true,true,true,false,false,false,false,false,false,false] rfl rfl (by kernel_rfl) (fun _ _ _ h=>h) (Or.inl ⟨by rfl,?_⟩) ?_ ?_;rotate_left
   ·intro w'
    go_simp
    with_reducible rfl
   rotate_left
   ·simp only[Act.put,aYa,aYb,aYc,aG,aH];rfl
   refine dM (i:=3) (N:=some 15) (v:=?_) (a':=?_) #[true,true,true,true,false,false,false,false,false,false] rfl rfl (by kernel_rfl) (fun _ _ _ h=>h) (Or.inl ⟨by rfl,?_⟩) hHeld ?_ ?_;rotate_left
   ·rintro w' ⟨s3,s4,s5⟩
    go_simp
    with_reducible rfl
   rotate_left
   ·simp only[Act.put,aYa,aYb,aYc,aG,aH];rfl
   refine kg (i:=4) (N:=some 16) #[true,true,true,true,true,false,false,false,false,false] rfl rfl (by kernel_rfl) (by decide) (fun K hK=>?_);refine mq Tryz.func147 (by kernel_rfl) rfl #[.int .i64 x.f3] (by rfl) rfl rfl (by (try simp only[List.map_toArray,List.map_cons,List.map_nil]);first|done|rfl) ?_;refine (abC x.f3 _ (by omega) (by omega)).mono ?_;rintro e w2 ⟨rfl,rfl⟩;refine⟨_,rfl,?_⟩;refine hK.out _ _ hHeld (fun hHeld=>?_);clear hK K;refine eB (a':=?_) ?_ ?_;rotate_left
   ·show Act.put _ (some 16) _=_
    simp only[Act.put,aYa,aYb,aYc,aG,aH];rfl
   refine kg (i:=5) (N:=some 17) #[true,true,true,true,true,true,false,false,false,false] rfl rfl (by kernel_rfl) (by decide) (fun K hK=>?_);refine mq Tryz.func136 (by kernel_rfl) rfl #[.slice A4 x.f4.length c4,.int .i64 ((x.f3+511) / 512)] (by rfl) rfl rfl (by (try simp only[List.map_toArray,List.map_cons,List.map_nil]);first|done|rfl) ?_;refine (uq A4 c4 x.f4 ((x.f3+511) / 512) _ (Kd.aC HR.out hHeld.2.2.out) hc hl (by omega) (by omega)).mono ?_;rintro e w3 ⟨rfl,hb3⟩;refine⟨_,rfl,?_⟩;refine hK.out _ _ ⟨aj hb3 hHeld.1,aj hb3 hHeld.2.1,⟨hHeld.2.2.out.trans (hb3.mono hHeld.2.2.out.size)⟩⟩ ?_;clear hb3 hHeld hK K;intro hHeld;refine eB (a':=?_) ?_ ?_;rotate_left
   ·show Act.put _ (some 17) _=_
    simp only[Act.put,aYa,aYb,aYc,aG,aH];rfl
   refine bA (i:=6) (N:=some 18) (v:=?_) (a':=?_) #[true,true,true,true,true,true,true,false,false,false] rfl rfl (by kernel_rfl) (fun _ _ _ h=>h) (Or.inl ⟨by rfl,?_⟩) ?_ ?_;rotate_left
   ·intro w'
    go_simp
    with_reducible rfl
   rotate_left
   ·simp only[Act.put,aYa,aYb,aYc,aG,aH];rfl
   refine bA (i:=7) (N:=some 19) (v:=?_) (a':=?_) #[true,true,true,true,true,true,true,true,false,false] rfl rfl (by kernel_rfl) (fun _ _ _ h=>h) (Or.inl ⟨by rfl,?_⟩) ?_ ?_;rotate_left
   ·intro w'
    go_simp
    with_reducible rfl
   rotate_left
   ·simp only[Act.put,aYa,aYb,aYc,aG,aH];rfl
   refine bA (i:=8) (N:=some 2) (v:=?_) (a':=?_) #[true,true,true,true,true,true,true,true,true,false] rfl rfl (by kernel_rfl) (fun _ _ _ h=>h) (Or.inl ⟨by rfl,?_⟩) ?_ ?_;rotate_left
   ·intro w'
    go_simp
    with_reducible rfl
   rotate_left
   ·simp only[Act.put,aYa,aYb,aYc,aG,aH];rfl
   refine bA (i:=9) (N:=some 3) (v:=?_) (a':=?_) #[true,true,true,true,true,true,true,true,true,true] rfl rfl (by kernel_rfl) (fun _ _ _ h=>h) (Or.inl ⟨by rfl,?_⟩) ?_ ?_;rotate_left
   ·intro w'
    go_simp
    with_reducible rfl
   rotate_left
   ·simp only[Act.put,aYa,aYb,aYc,aG,aH];rfl
   refine ku (by kernel_rfl) ?_;have HB3:=hHeld.2.2;clear hHeld
   go_wp2_with fail
   go_ret2
   exact⟨by rw[HN.out];rfl,HB3.out⟩
theorem yY {rows:List Ru} {n:Nat} (h:rows.length=n+1) (size:Int):yB rows size=(rows[n]'(by omega)).f1*512 - size:=by
 unfold yB;rw[List.getLast?_eq_getElem?,List.getElem?_eq_getElem (by omega)];simp only[h,Nat.add_sub_cancel]
theorem IQ (A0:Option Addr) (c0:Nat) (rows:List Ru) (A1:Option Addr) (c1:Nat) (data:List Int) (size:Int) (w:World) (hr:Kd.C cO w A0 rows.length rows) (hc:rows.length≤c0) (hl:rows.length≤140737488351232)
  (hd:Kd.C (Kd.int .u8) w A1 data.length data) (hc1:data.length≤c1) (hl1:data.length≤140737488351232) (hb:∀r∈rows,0≤r.f1∧r.f1≤1048576) (hs0:0≤size) (hs1:size≤1099511627776) (ht:yB rows size≤data.length) :
  Calls Tryz.prog 134 #[.slice A0 rows.length c0,.slice A1 data.length c1,.int .i64 size] w fun e w'=>e=.returned (.bool (kX rows data size))∧Below w.heap.size w w':=by
 have HR:=ah.mk hr;have HD:=ah.mk hd
 cases hn:rows.length with
 | zero=>
  have he:rows=[]:=List.length_eq_zero_iff.1 hn
  have HN:ah (kX rows data size=true):=⟨by rw[he];rfl⟩
  clear hr hd hn he hb ht
  go_enter Tryz.func134,Tryz.ntmps134
  go_wp2_with fail
  go_ret
  exact⟨by rw[HN.out];rfl,Below.refl _ _⟩
 | succ n=>
  obtain⟨ad,hA,r0,r1⟩:=Eu hr n (by omega);have htl:=yY hn size
  obtain⟨r,hrr⟩:∃r,rows[n]'(by omega)=r:=⟨_,rfl⟩
  have hrb:=hb (rows[n]'(by omega)) (List.getElem_mem _);rw[hrr] at r0 r1 htl hrb;subst hA;have hz:((n:Int)+1 == 0)=false:=beq_eq_false_iff_ne.2 (by omega);have HN:=ah.mk hn
  have hnl:n+1≤140737488351232:=by omega
  by_cases c:r.f1*512≤size
  ·have HQ:ah (kX rows data size=true):=⟨by unfold kX;rw[if_pos (by omega)]⟩
   clear hr hd hb ht htl hrr hn
   go_enter Tryz.func134,Tryz.ntmps134
   go_wp2_with fail
   go_ret
   exact⟨by rw[HQ.out];rfl,Below.refl _ _⟩
  ·obtain⟨tl,ajc⟩:∃tl:Nat,r.f1*512 - size=tl:=⟨(r.f1*512 - size).toNat,by omega⟩
   rw[htl] at ht
   have hq:kX rows data size=(data.drop (data.length - tl)).all fun n=>decide (n=0):=by
    unfold kX;rw[if_neg (by omega),htl,ajc,Int.toNat_natCast]
   obtain⟨i0,hi0,_,hz1,_⟩:=info_parts info5
   have htd:tl≤data.length:=by omega
   have hsl:=@Em Tryz.prog 27 5 .i64 i0 Tryz.underlying27 hi0 1 hz1 A1 data.length c1 ((data.length:Int) - tl) (by omega) (by omega);have hcd:=Kd.Ob (m:=data.length - tl) (c:=c1) hd (by omega) hc1;rw[show ((data.length:Int) - tl).toNat=data.length - tl by omega] at hsl;rw[show (Kd.int .u8).sz=1 from rfl] at hcd
   obtain⟨a3,NI⟩:∃a3,(if c1=data.length - tl then A1 else A1.map (·.add ((data.length - tl)*1)))=a3:=⟨_,rfl⟩
   obtain⟨c3,hc3⟩:∃c3,c1 - (data.length - tl)=c3:=⟨_,rfl⟩
   rw[NI] at hsl hcd;rw[hc3] at hsl
   obtain⟨d,hdd⟩:∃d,data.drop (data.length - tl)=d:=⟨_,rfl⟩
   have hdl:d.length=tl:=by rw[← hdd,List.length_drop];omega
   rw[hdd] at hcd hq;rw[show data.length - (data.length - tl)=d.length by omega] at hsl;have HQ:=ah.mk hq;have Hz:=ah.mk hcd
   have hsub:IntKind.i64.wrap ((data.length:Int) - (r.f1*512 - size))=(data.length:Int) - tl:=by rw[IntKind.wrap_i64];omega
   clear hr hd hb ht htl hrr hn hq hcd NI hc3 hdd
   go_enter Tryz.func134,Tryz.ntmps134
   go_wp2_with fail
   have HB0:=ah.mk (Below.refl w.heap.size w)
   go_loopg [42] d.length (fun g s42 wx=>∃i:Nat,i+g=d.length∧s42=.int .i64 i∧ah (Below w.heap.size w wx)∧ah ((d.take i).all (fun n=>decide (n=0))=true))
   case atStart=>exact⟨0,by omega,rfl,HB0,⟨by simp⟩⟩
   case round=>
    obtain⟨i,hig,rfl,HB,HT⟩:=hrel;clear HB0;by_cases hi:i<d.length
    ·obtain⟨ad3,hA3,r3⟩:=Kd.rU (Kd.aC Hz.out HB.out) (i:Int) (by omega) (by omega);rw[Int.toNat_natCast,LH d i hi] at r3;subst hA3
     obtain⟨v,hv⟩:∃v,d[i]=v:=⟨_,rfl⟩
     rw[hv] at r3;have HV:=ah.mk hv;clear hv;by_cases hx:v=0
     ·have hxb:(v != 0)=false:=by rw[hx];rfl
      have HX:=ah.mk hx;clear hx
      go_wp2_with fail
      go_roundg (d.length - (i+1))
      case measure=>omega
      case rel=>exact⟨i+1,by omega,by first|rfl|simp,HB,⟨by rw[List.take_succ_eq_append_getElem hi,List.all_append,HT.out,HV.out,HX.out];rfl⟩⟩
     ·have hxb:(v != 0)=true:=bne_iff_ne.2 hx;have HX:=ah.mk hx;clear hx
      have HF:ah (kX rows data size=false):=⟨by
       rw[HQ.out]
       refine List.all_eq_false.2 ⟨v,by rw[← HV.out];exact List.getElem_mem hi,by simpa using HX.out⟩⟩
      go_wp2_with fail
      go_ret
      exact⟨by rw[HF.out];rfl,HB.out⟩
    ·have HF:ah (kX rows data size=true):=⟨by
      have h:=HT.out;rw[List.take_of_length_le (by omega)] at h;rw[HQ.out]
      exact h⟩
     go_wp2_with fail
     go_ret
     exact⟨by rw[HF.out];rfl,HB.out⟩
theorem yZ (A0:Option Addr) (c0:Nat) (rows:List Ru) (A1:Option Addr) (c1:Nat) (o:List Ru) (w:World) (hr:Kd.C cO w A0 rows.length rows) (hc:rows.length≤c0) (hl:rows.length≤140737488351232)
  (ho:Kd.C cO w A1 o.length o) (hc1:o.length≤c1) (hl1:o.length≤140737488351232) :
  Calls Tryz.prog 137 #[.slice A0 rows.length c0,.slice A1 o.length c1] w fun e w'=>e=.returned (.bool (gD rows o))∧Below w.heap.size w w':=by
 have HR:=ah.mk hr;have HO:=ah.mk ho;clear hr ho
 go_enter Tryz.func137,Tryz.ntmps137
 go_wp2_with fail
 have HB0:=ah.mk (Below.refl w.heap.size w)
 go_loopg [5,10] rows.length (fun g s5 s10 wx=>∃i j:Nat,i+g=rows.length∧j≤o.length∧s10=.int .i64 i∧s5=.int .i64 j∧ah (gD (rows.drop i) (o.drop j)=gD rows o)∧ah (Below w.heap.size w wx))
 case atStart=>exact⟨0,0,by omega,by omega,rfl,rfl,⟨by rw[List.drop_zero,List.drop_zero]⟩,HB0⟩
 case round=>
  obtain⟨i,j,hig,hj,rfl,rfl,HG,HB⟩:=hrel;clear HB0;by_cases hi:i<rows.length
  ·obtain⟨ad,hA,r0,r1⟩:=Eu (Kd.aC HR.out HB.out) i hi;subst hA;have hg:=HG.out;rw[List.drop_eq_getElem_cons hi] at hg
   obtain⟨r,hr⟩:∃r,rows[i]=r:=⟨_,rfl⟩
   rw[hr] at hg r0 r1;have NM:=ah.mk hg;clear hg hr HG
   go_wp2_with fail
   obtain⟨wo,rfl⟩:∃wo,wo=wr:=⟨_,rfl⟩
   obtain⟨go,rfl⟩:∃go,go=gk:=⟨_,rfl⟩
   have hal:=(Below.refl wo.heap.size wo).alloc (Nat.le_refl _) (.cells #[.int .i64 r.f0,.int .i64 r.f1] 117);have HBK:=ah.mk (bK wo (.cells #[.int .i64 r.f0,.int .i64 r.f1] 117));have HB1:=ah.mk (HB.out.trans (hal.mono HB.out.size));clear hal r0 r1
   go_loopg [5] (o.length - j) (fun g s5 wx=>∃j2:Nat,j2+g=o.length∧s5=.int .i64 j2∧ah ((o.drop j).dropWhile (fun q=>decide (q.f1<r.f1))=(o.drop j2).dropWhile (fun q=>decide (q.f1<r.f1)))∧ah (Below w.heap.size w wx)∧ah (wx.heap[wo.heap.size]?=some (.cells #[.int .i64 r.f0,.int .i64 r.f1] 117 (0,0))))
   case atStart=>exact⟨j,by omega,rfl,⟨rfl⟩,HB1,HBK⟩
   case round=>
    obtain⟨j2,hjg,rfl,HD,HB2,iK⟩:=hrel;clear HB1 HBK;have z0:wr.cell? ⟨wo.heap.size,0,none⟩=some (.int .i64 r.f0):=ak iK.out 0;have z1:wr.cell? ⟨wo.heap.size,1,none⟩=some (.int .i64 r.f1):=ak iK.out 1;by_cases hj2:j2<o.length
    ·obtain⟨Hu,hA2,q0,q1⟩:=Eu (Kd.aC HO.out HB2.out) j2 hj2;subst hA2;have hd:=HD.out;rw[List.drop_eq_getElem_cons hj2] at hd
     obtain⟨q,hq⟩:∃q,o[j2]=q:=⟨_,rfl⟩
     rw[hq] at hd q0 q1;have HQ:=ah.mk hq;have d1:decide ((j2:Int)<(o.length:Int))=true:=decide_eq_true (by omega);have d2:decide (j2<o.length)=true:=decide_eq_true hj2;have d3:((j2:Int) == (o.length:Int))=false:=beq_eq_false_iff_ne.2 (by omega);have d4:(j2 == o.length)=false:=beq_eq_false_iff_ne.2 (by omega);by_cases hlt:q.f1<r.f1
     ·have e1:decide (q.f1<r.f1)=true:=decide_eq_true hlt;have HD2:=ah.mk (show (o.drop j).dropWhile (fun q=>decide (q.f1<r.f1))=(o.drop (j2+1)).dropWhile (fun q=>decide (q.f1<r.f1)) by rw[hd,List.dropWhile_cons_of_pos (by simpa using hlt)]);clear hd hq
      go_wp2_with fail
      go_quiet (fail)
      go_wp2_with fail
      go_roundg (o.length - (j2+1))
      case measure=>omega
      case rel=>exact⟨j2+1,by omega,by first|rfl|simp,HD2,⟨(by repeat (first|exact HB2.out|apply au|apply bC))⟩,⟨iK.out⟩⟩
     ·have e1:decide (q.f1<r.f1)=false:=decide_eq_false hlt;have HD2:=ah.mk (show (o.drop j).dropWhile (fun q=>decide (q.f1<r.f1))=q::o.drop (j2+1) by rw[hd,List.dropWhile_cons_of_neg (by simpa using hlt)]);have HDJ:=ah.mk (show o.drop j2=q::o.drop (j2+1) by rw[List.drop_eq_getElem_cons hj2,hq]);clear hd hq;by_cases hf:r.f0<q.f0
      ·have e2:decide (r.f0<q.f0)=true:=decide_eq_true hf
       have HF:ah (gD rows o=false):=⟨by rw[← NM.out,gD,HD2.out];dsimp only;rw[if_pos hf]⟩
       go_wp2_with fail
       go_quiet (fail)
       go_wp2_with fail
       go_quiet (fail)
       go_wp2_with fail
       go_ret
       exact⟨by rw[HF.out];rfl,(by repeat (first|exact HB2.out|apply au|apply bC))⟩
      ·have e2:decide (r.f0<q.f0)=false:=decide_eq_false hf
       have HF:ah (gD (rows.drop (i+1)) (o.drop j2)=gD rows o):=⟨by rw[← NM.out,gD,HD2.out];dsimp only;rw[if_neg hf,HDJ.out]⟩
       go_wp2_with fail
       go_quiet (fail)
       go_wp2_with fail
       go_quiet (fail)
       go_wp2_with fail
       go_roundg (rows.length - (i+1))
       case measure=>omega
       case rel=>exact⟨i+1,j2,by omega,by omega,by first|rfl|simp,rfl,HF,⟨(by repeat (first|exact HB2.out|apply au|apply bC))⟩⟩
    ·obtain rfl:j2=o.length:=by omega
     have d1:decide ((o.length:Int)<(o.length:Int))=false:=decide_eq_false (by omega)
     have HF:ah (gD rows o=false):=⟨by rw[← NM.out,gD,HD.out,List.drop_length];rfl⟩
     go_wp2_with fail
     go_quiet (fail)
     go_wp2_with fail
     go_quiet (fail)
     go_wp2_with fail
     go_ret
     exact⟨by rw[HF.out];rfl,(by repeat (first|exact HB2.out|apply au|apply bC))⟩
  ·have HF:ah (gD rows o=true):=⟨by rw[← HG.out,List.drop_of_length_le (by omega)];rfl⟩
   go_wp2_with fail
   go_ret
   exact⟨by rw[HF.out];rfl,HB.out⟩
theorem zP {s:ByteArray} (h:s.size=0):s.toList.isEmpty=true:=by
 rw[Lib.toList_data,show s.data.toList=[] from List.eq_nil_of_length_eq_zero (by rw[lI];exact h)];rfl
theorem Ew {s:ByteArray} (h:s.size≠0):s.toList.isEmpty=false:=by
 cases hc:s.toList with
 | nil=>rw[Lib.toList_data] at hc;have:=lI s;rw[hc] at this;exact absurd this.symm h
 | cons _ _=>rfl
theorem L6 {most:Int}:∀(l:List Ru) (last all n:Int),gH most last all l=some n→-1≤last→(l≠[]→last<most) →
  all≤n∧(l≠[]→all+1≤n)∧(l≠[]→n≤all+most - last)∧∀r∈l,last<r.f0∧0≤r.f1∧r.f1≤most
 | [],last,all,n,h,h1,_=>by
  rw[gH] at h;cases h;exact⟨Int.le_refl _,fun h=>absurd rfl h,fun h=>absurd rfl h,fun r hr=>by cases hr⟩
 | r::l,last,all,n,h,h1,hlm=>by
  rw[gH] at h;split at h
  ·cases h
  ·rename_i hc
   have hl2:l≠[]→r.f1<most:=fun hl=>by
    cases l with
    | nil=>exact absurd rfl hl
    | cons q l'=>
     rw[gH] at h;split at h
     ·cases h
     ·omega
   obtain⟨i1,i2,i3,i4⟩:=L6 l r.f1 _ n h (by omega) hl2;refine⟨by omega,fun _=>by omega,fun _=>?_,fun q hq=>?_⟩
   ·cases l with
    | nil=>rw[gH] at h;cases h;omega
    | cons q l'=>have:=i3 (by simp);omega
   ·rcases List.mem_cons.1 hq with rfl|hq
    ·omega
    ·have:=i4 q hq;omega
theorem wH {l:List Ru} {most n:Int} (h:iQ l most=some n) (hm:0≤most):0≤n∧(l≠[]→1≤n)∧(l≠[]→n≤most+1)∧∀r∈l,0≤r.f0∧0≤r.f1∧r.f1≤most:=by
 have h':=L6 l (-1) 0 n h (by omega) (fun _=>by omega);refine⟨h'.1,fun hl=>by have:=h'.2.1 hl;omega,fun hl=>by have:=h'.2.2.1 hl;omega,fun r hr=>by have:=h'.2.2.2 r hr;omega⟩
theorem wI {x:It} {n:Int} (h:fT x=some n):0≤x.f3∧x.f3≤8459264∧iQ x.f4 ((x.f3+511) / 512)=some n:=by
 unfold fT at h;split at h
 ·cases h
 ·exact⟨by omega,by omega,h⟩
theorem Oq {x:It} {n:Int} (h:fT x=some n) (hd:(x.f5.length:Int)=n*512) :
  (∀r∈x.f4,0≤r.f1∧r.f1≤1048576)∧0≤x.f3∧x.f3≤1099511627776∧yB x.f4 x.f3≤x.f5.length:=by
 obtain⟨h0,h1,h2⟩:=wI h;obtain⟨a1,a2,a3,a4⟩:=wH h2 (by omega);refine⟨fun r hr=>by have:=a4 r hr;omega,h0,by omega,?_⟩
 cases hn:x.f4.length with
 | zero=>
  rw[List.length_eq_zero_iff.1 hn]
  show (0:Int)≤_
  omega
 | succ k=>
  rw[yY hn];have h3:=a4 (x.f4[k]'(by omega)) (List.getElem_mem _);have h4:=a2 (fun e=>by rw[e] at hn;cases hn);omega
theorem zQ {x:It} {n:Int} (h:fT x=some n):0≤n∧n≤20000:=by
 obtain⟨h0,h1,h2⟩:=wI h;obtain⟨a1,a2,a3,a4⟩:=wH h2 (by omega)
 by_cases hl:x.f4=[]
 ·rw[hl] at h2
  have:n=0:=by
   have h3:(some (0:Int))=some n:=h2;cases h3;rfl
  omega
 ·have:=a3 hl;omega
theorem oh {s:ByteArray} (h:fE s=true):s.size≤1023:=by
 unfold fE at h;exact of_decide_eq_true (Bool.and_eq_true_iff.1 h).1
theorem pu1 {x:It} (h:x.f0=1):je x=(match fT x with
  | none=>false
  | some all=>decide (x.f2.size=0) && (decide ((x.f5.length:Int)=all*512) && kX x.f4 x.f5 x.f3)):=by
 unfold je;rw[if_pos h]
 cases fT x <;> rfl
theorem pu2 {x:It} (h1:¬x.f0=1) (h:x.f0=2):je x=(jo x && decide (x.f2.size=0)):=by
 unfold je;rw[if_neg h1,if_pos h]
theorem pu3 {x:It} (h1:¬x.f0=1) (h2:¬x.f0=2) (h:x.f0=3):je x=(jo x && (decide (x.f2.size≠0) && (decide (x.f2.size≤255) && decide (Lib.indexByte (bs x.f2) 0<0)))):=by
 unfold je;rw[if_neg h1,if_neg h2,if_pos h]
theorem pu4 {x:It} (h1:¬x.f0=1) (h2:¬x.f0=2) (h3:¬x.f0=3) (h:x.f0=4):je x=(jo x && (fE x.f2 && WU (BG x.f2) (BG x.f1))):=by
 unfold je;rw[if_neg h1,if_neg h2,if_neg h3,if_pos h]
theorem pu5 {x:It} (h1:¬x.f0=1) (h2:¬x.f0=2) (h3:¬x.f0=3) (h:¬x.f0=4):je x=false:=by
 unfold je;rw[if_neg h1,if_neg h2,if_neg h3,if_neg h]
theorem Uz (x:It) (A4:Option Addr) (c4:Nat) (A5:Option Addr) (c5:Nat) (w:World) (h4:Kd.C cO w A4 x.f4.length x.f4) (l4:x.f4.length≤c4) (h5:Kd.C (Kd.int .u8) w A5 x.f5.length x.f5) (l5:x.f5.length≤c5)
  (hf:Fit x) (hl4:x.f4.length≤140737488351232) (hl5:x.f5.length≤140737488351232) (hs1:x.f1.size<4294967281) :
  Calls Tryz.prog 101 #[.agg #[.int .i64 x.f0,.string x.f1,.string x.f2,.int .i64 x.f3,.slice A4 x.f4.length c4,.slice A5 x.f5.length c5]] w fun e w'=>e=.returned (.bool (je x))∧Below w.heap.size w w':=by
 obtain⟨X,hX⟩:∃X,#[Value.int .i64 x.f0,.string x.f1,.string x.f2,.int .i64 x.f3,.slice A4 x.f4.length c4,.slice A5 x.f5.length c5]=X:=⟨_,rfl⟩
 obtain⟨W1,hW1⟩:∃W1,w.alloc (.cells X 29)=W1:=⟨_,rfl⟩
 have hbx:=bK w (.cells X 29);have hb0:=(Below.refl w.heap.size w).alloc (Nat.le_refl _) (.cells X 29);rw[hW1] at hbx hb0
 have x0:W1.cell? ⟨w.heap.size,0,none⟩=some (.int .i64 x.f0):=by rw[ak hbx,← hX];rfl
 have x1:W1.cell? ⟨w.heap.size,1,none⟩=some (.string x.f1):=by rw[ak hbx,← hX];rfl
 have x2:W1.cell? ⟨w.heap.size,2,none⟩=some (.string x.f2):=by rw[ak hbx,← hX];rfl
 have x3:W1.cell? ⟨w.heap.size,3,none⟩=some (.int .i64 x.f3):=by rw[ak hbx,← hX];rfl
 have x4:W1.cell? ⟨w.heap.size,4,none⟩=some (.slice A4 x.f4.length c4):=by rw[ak hbx,← hX];rfl
 have x5:W1.cell? ⟨w.heap.size,5,none⟩=some (.slice A5 x.f5.length c5):=by rw[ak hbx,← hX];rfl
 have hlt:=bD hbx;have HB:=ah.mk hb0;have yX:=ah.mk hbx;have HR4:=ah.mk (Kd.aC h4 hb0);have kE:=ah.mk (Kd.aC h5 hb0);have WT:=ah.mk hf;have HX:=ah.mk hX
 have hX6:X.size=6:=by rw[← hX];rfl
 have H6:=ah.mk hX6;rw[hX];clear hb0 hbx h4 h5 hf hX hX6
 go_enter Tryz.func101,Tryz.ntmps101
 go_upto_region 1 with (fail)
 clear hW1
 go_cut [3] (fun v3 wd=>v3=.bool (jo x)∧ah (wd=W1))
 case first=>
  by_cases b3:x.f3=0
  ·have b3b:(x.f3 == 0)=true:=beq_iff_eq.2 b3;have H3:=ah.mk b3;clear b3;by_cases b4:x.f4.length=0
   ·have b4b:((x.f4.length:Int) == 0)=true:=beq_iff_eq.2 (by omega);have H4:=ah.mk b4;clear b4;by_cases b5:x.f5.length=0
    ·have b5b:((x.f5.length:Int) == 0)=true:=beq_iff_eq.2 (by omega);have H5:=ah.mk b5;clear b5
     go_wp2_with fail
     go_meet
     case rel=>exact⟨by unfold jo;rw[decide_eq_true H3.out,decide_eq_true H4.out,decide_eq_true H5.out];rfl,⟨rfl⟩⟩
    ·have b5b:((x.f5.length:Int) == 0)=false:=beq_eq_false_iff_ne.2 (by omega);have H5:=ah.mk b5;clear b5
     go_wp2_with fail
     go_meet
     case rel=>exact⟨by unfold jo;rw[decide_eq_true H3.out,decide_eq_true H4.out,decide_eq_false H5.out];rfl,⟨rfl⟩⟩
   ·have b4b:((x.f4.length:Int) == 0)=false:=beq_eq_false_iff_ne.2 (by omega);have H4:=ah.mk b4;clear b4
    go_wp2_with fail
    go_meet
    case rel=>exact⟨by unfold jo;rw[decide_eq_true H3.out,decide_eq_false H4.out];rfl,⟨rfl⟩⟩
  ·have b3b:(x.f3 == 0)=false:=beq_eq_false_iff_ne.2 b3;have H3:=ah.mk b3;clear b3
   go_wp2_with fail
   go_meet
   case rel=>exact⟨by unfold jo;rw[decide_eq_false H3.out];rfl,⟨rfl⟩⟩
 case rest=>
  obtain⟨rfl,UA⟩:=hcut;have hwb:=UA.out;subst hwb;clear UA
  obtain⟨bb,hbb⟩:∃bb,jo x=bb:=⟨_,rfl⟩
  rw[hbb];have vU:=ah.mk hbb;clear hbb;by_cases k1:x.f0=1
  ·have t1:(x.f0 == 1)=true:=beq_iff_eq.2 k1;have jC:=ah.mk k1;have HE1:=ah.mk (pu1 k1);clear k1
   cases hsz:fT x with
   | none=>
    have HE:=ah.mk (show je x=false by rw[HE1.out,hsz]);have c:=BQ x A4 c4 (.slice A5 x.f5.length c5) wc HR4.out l4 hl4;rw[hsz,HX.out] at c;simp only[Option.getD_none,Option.isSome_none,Option.getD_some,Option.isSome_some] at c;have C:=ah.mk c;clear c hsz
    go_upto_region 5 with (first|(refine dR (.load 29 (.tmp 1)) rfl ?_;refine wpList_load_row rfl _ _ rfl w.heap.size rfl 29 X (0,0) _ yX.out Tryz.underlying29 rfl (by rw[H6.out];kernel_rfl) ?_)|(go_at_call 133;refine C.out.mono ?_;rintro e w2 ⟨rfl,hb2⟩;have HB2:=ah.mk (HB.out.trans (hb2.mono HB.out.size));have y2:=aj hb2 x2;have y3:=aj hb2 x3;have y4:=aj hb2 x4;have y5:=aj hb2 x5;have hlt:=Nat.lt_of_lt_of_le hlt hb2.size;have HR4:=ah.mk (Kd.aC HR4.out hb2);have kE:=ah.mk (Kd.aC kE.out hb2);clear hb2))
    go_wp2_with fail
    go_ret
    exact⟨by rw[HE.out];rfl,HB2.out⟩
   | some all=>
    have c:=BQ x A4 c4 (.slice A5 x.f5.length c5) wc HR4.out l4 hl4;rw[hsz,HX.out] at c;simp only[Option.getD_none,Option.isSome_none,Option.getD_some,Option.isSome_some] at c;have C:=ah.mk c;have hall:=zQ hsz;have Ot:=ah.mk hsz;clear c hsz;by_cases z2:x.f2.size=0
    ·have e2:=zP z2;have HZ:=ah.mk z2;clear z2;by_cases hd:(x.f5.length:Int)=all*512
     ·have hdb:((x.f5.length:Int) == all*512)=true:=beq_iff_eq.2 hd;have Xr:=ah.mk (Oq Ot.out hd);have HE:=ah.mk (show je x=kX x.f4 x.f5 x.f3 by rw[HE1.out,Ot.out];dsimp only;rw[decide_eq_true HZ.out,decide_eq_true hd];rfl);have HD:=ah.mk hd;clear hd
      go_upto_region 5 with (first|(refine dR (.load 29 (.tmp 1)) rfl ?_;refine wpList_load_row rfl _ _ rfl w.heap.size rfl 29 X (0,0) _ yX.out Tryz.underlying29 rfl (by rw[H6.out];kernel_rfl) ?_)|(go_at_call 133;refine C.out.mono ?_;rintro e w2 ⟨rfl,hb2⟩;have HB2:=ah.mk (HB.out.trans (hb2.mono HB.out.size));have y2:=aj hb2 x2;have y3:=aj hb2 x3;have y4:=aj hb2 x4;have y5:=aj hb2 x5;have hlt:=Nat.lt_of_lt_of_le hlt hb2.size;have HR4:=ah.mk (Kd.aC HR4.out hb2);have kE:=ah.mk (Kd.aC kE.out hb2);clear hb2))
      go_wp2_with (go_at_call 134;refine (IQ A4 c4 x.f4 A5 c5 x.f5 x.f3 _ HR4.out l4 hl4 kE.out l5 hl5 Xr.out.1 Xr.out.2.1 Xr.out.2.2.1 Xr.out.2.2.2).mono ?_;rintro e w3 ⟨rfl,hb3⟩;have HB3:=ah.mk (HB2.out.trans (hb3.mono HB2.out.size));clear hb3)
      go_ret
      exact⟨by rw[HE.out];rfl,HB3.out⟩
     ·have hdb:((x.f5.length:Int) == all*512)=false:=beq_eq_false_iff_ne.2 hd;have HE:=ah.mk (show je x=false by rw[HE1.out,Ot.out];dsimp only;rw[decide_eq_false hd];simp);have HD:=ah.mk hd;clear hd
      go_upto_region 5 with (first|(refine dR (.load 29 (.tmp 1)) rfl ?_;refine wpList_load_row rfl _ _ rfl w.heap.size rfl 29 X (0,0) _ yX.out Tryz.underlying29 rfl (by rw[H6.out];kernel_rfl) ?_)|(go_at_call 133;refine C.out.mono ?_;rintro e w2 ⟨rfl,hb2⟩;have HB2:=ah.mk (HB.out.trans (hb2.mono HB.out.size));have y2:=aj hb2 x2;have y3:=aj hb2 x3;have y4:=aj hb2 x4;have y5:=aj hb2 x5;have hlt:=Nat.lt_of_lt_of_le hlt hb2.size;have HR4:=ah.mk (Kd.aC HR4.out hb2);have kE:=ah.mk (Kd.aC kE.out hb2);clear hb2))
      go_wp2_with fail
      go_ret
      exact⟨by rw[HE.out];rfl,HB2.out⟩
    ·have e2:=Ew z2;have HE:=ah.mk (show je x=false by rw[HE1.out,Ot.out];dsimp only;rw[decide_eq_false z2];rfl);clear z2
     go_upto_region 5 with (first|(refine dR (.load 29 (.tmp 1)) rfl ?_;refine wpList_load_row rfl _ _ rfl w.heap.size rfl 29 X (0,0) _ yX.out Tryz.underlying29 rfl (by rw[H6.out];kernel_rfl) ?_)|(go_at_call 133;refine C.out.mono ?_;rintro e w2 ⟨rfl,hb2⟩;have HB2:=ah.mk (HB.out.trans (hb2.mono HB.out.size));have y2:=aj hb2 x2;have y3:=aj hb2 x3;have y4:=aj hb2 x4;have y5:=aj hb2 x5;have hlt:=Nat.lt_of_lt_of_le hlt hb2.size;have HR4:=ah.mk (Kd.aC HR4.out hb2);have kE:=ah.mk (Kd.aC kE.out hb2);clear hb2))
     go_wp2_with fail
     go_ret
     exact⟨by rw[HE.out];rfl,HB2.out⟩
  ·have t1:(x.f0 == 1)=false:=beq_eq_false_iff_ne.2 k1;have Dl:=ah.mk k1;clear k1;by_cases k2:x.f0=2
   ·have t2:(x.f0 == 2)=true:=beq_iff_eq.2 k2;have HE2:=ah.mk (pu2 Dl.out k2);clear k2
    cases bb with
    | false=>
     have HE:=ah.mk (show je x=false by rw[HE2.out,vU.out];rfl)
     go_wp2_with fail
     go_ret
     exact⟨by rw[HE.out];rfl,HB.out⟩
    | true=>
     by_cases hs:x.f2.size=0
     ·have h2:=zP hs;have HE:=ah.mk (show je x=true by rw[HE2.out,vU.out,decide_eq_true hs];rfl);clear hs
      go_wp2_with fail
      go_ret
      exact⟨by rw[HE.out];rfl,HB.out⟩
     ·have h2:=Ew hs;have HE:=ah.mk (show je x=false by rw[HE2.out,vU.out,decide_eq_false hs];rfl);clear hs
      go_wp2_with fail
      go_ret
      exact⟨by rw[HE.out];rfl,HB.out⟩
   ·have t2:(x.f0 == 2)=false:=beq_eq_false_iff_ne.2 k2;have JR:=ah.mk k2;clear k2;by_cases k3:x.f0=3
    ·have t3:(x.f0 == 3)=true:=beq_iff_eq.2 k3;have HE2:=ah.mk (pu3 Dl.out JR.out k3);clear k3
     cases bb with
     | false=>
      have HE:=ah.mk (show je x=false by rw[HE2.out,vU.out];rfl)
      go_wp2_with fail
      go_ret
      exact⟨by rw[HE.out];rfl,HB.out⟩
     | true=>
      by_cases hs:x.f2.size=0
      ·have h2:=zP hs;have HE:=ah.mk (show je x=false by rw[HE2.out,vU.out,decide_eq_false (fun h=>h hs)];rfl);clear hs
       go_wp2_with fail
       go_ret
       exact⟨by rw[HE.out];rfl,HB.out⟩
      ·have h2:=Ew hs;have HS:=ah.mk hs;clear hs;by_cases UC:x.f2.size≤255
       ·have UD:decide ((x.f2.size:Int)≤255)=true:=decide_eq_true (by omega);have Xt:=ah.mk UC
        obtain⟨ib,hib⟩:∃r,decide (0≤Lib.indexByte (bs x.f2) 0)=r:=⟨_,rfl⟩
        have hcl:∀W:World,Calls Tryz.prog 135 #[.string x.f2,.string ⟨#[0]⟩] W fun e w'=>e=.returned (.bool ib)∧w'=W:=fun W=>by
         have c:=Tryz.strings_Contains_one x.f2 0 W;rw[show decide (0≤Lib.indexByte x.f2.data.toList 0)=ib from hib] at c;exact c
        have HE:=ah.mk (show je x = !ib by
         rw[HE2.out,vU.out,decide_eq_true HS.out,decide_eq_true Xt.out,← hib];by_cases hh:Lib.indexByte (bs x.f2) 0<0
         ·rw[decide_eq_true hh,decide_eq_false (by omega)];rfl
         ·rw[decide_eq_false hh,decide_eq_true (by omega)];rfl)
        have QB:=ah.mk hcl;clear hib hcl
        go_wp2_with (go_at_call 135;refine (QB.out _).mono ?_;rintro e w' ⟨rfl,rfl⟩)
        go_ret
        exact⟨by rw[HE.out];rfl,HB.out⟩
       ·have UD:decide ((x.f2.size:Int)≤255)=false:=decide_eq_false (by omega);have HE:=ah.mk (show je x=false by rw[HE2.out,vU.out,decide_eq_true HS.out,decide_eq_false UC];rfl)
        go_wp2_with fail
        go_ret
        exact⟨by rw[HE.out];rfl,HB.out⟩
    ·have t3:(x.f0 == 3)=false:=beq_eq_false_iff_ne.2 k3;have HN3:=ah.mk k3;clear k3;by_cases k4:x.f0=4
     ·have t4:(x.f0 == 4)=true:=beq_iff_eq.2 k4;have HE2:=ah.mk (pu4 Dl.out JR.out HN3.out k4);clear k4
      go_wp2_with fail
      cases bb with
      | false=>
       have HE:=ah.mk (show je x=false by rw[HE2.out,vU.out];rfl);have hdr:=bC (Below.refl wc.heap.size wc)
       have hS:(fun w'=>w'.cell? ⟨w.heap.size,1,none⟩=some (.string x.f1)∧w'.cell? ⟨w.heap.size,2,none⟩=some (.string x.f2)∧ah (Below w.heap.size w w')) wc.drew:=⟨aj hdr x1,aj hdr x2,⟨HB.out.trans (hdr.mono HB.out.size)⟩⟩
       clear hdr x0 x1 x2 x3 x4 x5 hlt;refine kW (n:=16) (S:=(fun w'=>w'.cell? ⟨w.heap.size,1,none⟩=some (.string x.f1)∧w'.cell? ⟨w.heap.size,2,none⟩=some (.string x.f2)∧ah (Below w.heap.size w w'))) (ds:=[]) #[false,false,false,false,false,false,false,false,false,false,false,false,false,false,false,false] (by kernel_rfl) rfl rfl hS (fun hHeld=>?_);clear hS;refine bA (i:=0) (N:=some 83) (v:=?_) (a':=?_) #[true,false,false,false,false,false,false,false,false,false,false,false,false,false,false,false] rfl rfl (by kernel_rfl) (fun _ _ _ h=>h) (Or.inl ⟨by rfl,?_⟩) ?_ ?_;rotate_left
       ·intro w'
        go_simp
        with_reducible rfl
       rotate_left
       ·simp only[Act.put,aYa,aYb,aYc,aG,aH];rfl
       refine bA (i:=1) (N:=some 84) (v:=?_) (a':=?_) #[true,true,false,false,false,false,false,false,false,false,false,false,false,false,false,false] rfl rfl (by kernel_rfl) (fun _ _ _ h=>h) (Or.inl ⟨by rfl,?_⟩) ?_ ?_;rotate_left
       ·intro w'
        go_simp
        with_reducible rfl
       rotate_left
       ·simp only[Act.put,aYa,aYb,aYc,aG,aH];rfl
       refine bA (i:=2) (N:=some 85) (a':=?_) #[true,true,true,false,false,false,false,false,false,false,false,false,false,false,false,false] rfl rfl (by kernel_rfl) (fun _ _ _ h=>h) (Or.inr ⟨by rfl,rfl⟩) ?_ ?_;rotate_left
       ·simp only[Act.put,aYa,aYb,aYc,aG,aH];rfl
       refine bA (i:=3) (N:=some 86) (a':=?_) #[true,true,true,true,false,false,false,false,false,false,false,false,false,false,false,false] rfl rfl (by kernel_rfl) (fun _ _ _ h=>h) (Or.inr ⟨by rfl,rfl⟩) ?_ ?_;rotate_left
       ·simp only[Act.put,aYa,aYb,aYc,aG,aH];rfl
       refine bA (i:=4) (N:=some 87) (a':=?_) #[true,true,true,true,true,false,false,false,false,false,false,false,false,false,false,false] rfl rfl (by kernel_rfl) (fun _ _ _ h=>h) (Or.inr ⟨by rfl,rfl⟩) ?_ ?_;rotate_left
       ·simp only[Act.put,aYa,aYb,aYc,aG,aH];rfl
       refine bA (i:=5) (N:=some 88) (v:=?_) (a':=?_) #[true,true,true,true,true,true,false,false,false,false,false,false,false,false,false,false] rfl rfl (by kernel_rfl) (fun _ _ _ h=>h) (Or.inl ⟨by rfl,?_⟩) ?_ ?_;rotate_left
       ·intro w'
        go_simp
        with_reducible rfl
       rotate_left
       ·simp only[Act.put,aYa,aYb,aYc,aG,aH];rfl
       refine bA (i:=6) (N:=some 89) (v:=?_) (a':=?_) #[true,true,true,true,true,true,true,false,false,false,false,false,false,false,false,false] rfl rfl (by kernel_rfl) (fun _ _ _ h=>h) (Or.inl ⟨by rfl,?_⟩) ?_ ?_;rotate_left
       ·intro w'
        go_simp
        with_reducible rfl
       rotate_left
       ·simp only[Act.put,aYa,aYb,aYc,aG,aH];rfl
       refine bA (i:=7) (N:=some 90) (a':=?_) #[true,true,true,true,true,true,true,true,false,false,false,false,false,false,false,false] rfl rfl (by kernel_rfl) (fun _ _ _ h=>h) (Or.inr ⟨by rfl,rfl⟩) ?_ ?_;rotate_left
       ·simp only[Act.put,aYa,aYb,aYc,aG,aH];rfl
       refine bA (i:=8) (N:=some 91) (a':=?_) #[true,true,true,true,true,true,true,true,true,false,false,false,false,false,false,false] rfl rfl (by kernel_rfl) (fun _ _ _ h=>h) (Or.inr ⟨by rfl,rfl⟩) ?_ ?_;rotate_left
       ·simp only[Act.put,aYa,aYb,aYc,aG,aH];rfl
       refine bA (i:=9) (N:=some 92) (a':=?_) #[true,true,true,true,true,true,true,true,true,true,false,false,false,false,false,false] rfl rfl (by kernel_rfl) (fun _ _ _ h=>h) (Or.inr ⟨by rfl,rfl⟩) ?_ ?_;rotate_left
       ·simp only[Act.put,aYa,aYb,aYc,aG,aH];rfl
       refine bA (i:=10) (N:=some 93) (a':=?_) #[true,true,true,true,true,true,true,true,true,true,true,false,false,false,false,false] rfl rfl (by kernel_rfl) (fun _ _ _ h=>h) (Or.inr ⟨by rfl,rfl⟩) ?_ ?_;rotate_left
       ·simp only[Act.put,aYa,aYb,aYc,aG,aH];rfl
       refine bA (i:=11) (N:=some 94) (a':=?_) #[true,true,true,true,true,true,true,true,true,true,true,true,false,false,false,false] rfl rfl (by kernel_rfl) (fun _ _ _ h=>h) (Or.inr ⟨by rfl,rfl⟩) ?_ ?_;rotate_left
       ·simp only[Act.put,aYa,aYb,aYc,aG,aH];rfl
       refine bA (i:=12) (N:=some 95) (a':=?_) #[true,true,true,true,true,true,true,true,true,true,true,true,true,false,false,false] rfl rfl (by kernel_rfl) (fun _ _ _ h=>h) (Or.inr ⟨by rfl,rfl⟩) ?_ ?_;rotate_left
       ·simp only[Act.put,aYa,aYb,aYc,aG,aH];rfl
       refine bA (i:=13) (N:=some 96) (a':=?_) #[true,true,true,true,true,true,true,true,true,true,true,true,true,true,false,false] rfl rfl (by kernel_rfl) (fun _ _ _ h=>h) (Or.inr ⟨by rfl,rfl⟩) ?_ ?_;rotate_left
       ·simp only[Act.put,aYa,aYb,aYc,aG,aH];rfl
       refine bA (i:=14) (N:=some 97) (v:=?_) (a':=?_) #[true,true,true,true,true,true,true,true,true,true,true,true,true,true,true,false] rfl rfl (by kernel_rfl) (fun _ _ _ h=>h) (Or.inl ⟨by rfl,?_⟩) ?_ ?_;rotate_left
       ·intro w'
        go_simp
        with_reducible rfl
       rotate_left
       ·simp only[Act.put,aYa,aYb,aYc,aG,aH];rfl
       refine bA (i:=15) (N:=some 2) (v:=?_) (a':=?_) #[true,true,true,true,true,true,true,true,true,true,true,true,true,true,true,true] rfl rfl (by kernel_rfl) (fun _ _ _ h=>h) (Or.inl ⟨by rfl,?_⟩) ?_ ?_;rotate_left
       ·intro w'
        go_simp
        with_reducible rfl
       rotate_left
       ·simp only[Act.put,aYa,aYb,aYc,aG,aH];rfl
       refine ku (by kernel_rfl) ?_;have HB3:=hHeld.2.2;clear hHeld
       go_wp2_with fail
       go_ret
       exact⟨by rw[HE.out];rfl,HB3.out⟩
      | true=>
       have hwf:=Nat.le_trans WT.out.t (by decide:140737488351232≤140737488351232);have hdr:=bC (Below.refl wc.heap.size wc)
       have hS:(fun w'=>w'.cell? ⟨w.heap.size,1,none⟩=some (.string x.f1)∧w'.cell? ⟨w.heap.size,2,none⟩=some (.string x.f2)∧ah (Below w.heap.size w w')) wc.drew:=⟨aj hdr x1,aj hdr x2,⟨HB.out.trans (hdr.mono HB.out.size)⟩⟩
       clear hdr x0 x1 x2 x3 x4 x5 hlt;refine kW (n:=16) (S:=(fun w'=>w'.cell? ⟨w.heap.size,1,none⟩=some (.string x.f1)∧w'.cell? ⟨w.heap.size,2,none⟩=some (.string x.f2)∧ah (Below w.heap.size w w'))) (ds:=[]) #[false,false,false,false,false,false,false,false,false,false,false,false,false,false,false,false] (by kernel_rfl) rfl rfl hS (fun hHeld=>?_);clear hS;refine bA (i:=0) (N:=some 83) (v:=?_) (a':=?_) #[true,false,false,false,false,false,false,false,false,false,false,false,false,false,false,false] rfl rfl (by kernel_rfl) (fun _ _ _ h=>h) (Or.inl ⟨by rfl,?_⟩) ?_ ?_;rotate_left
       ·intro w'
        go_simp
        with_reducible rfl
       rotate_left
       ·simp only[Act.put,aYa,aYb,aYc,aG,aH];rfl
       refine bA (i:=1) (N:=some 84) (v:=?_) (a':=?_) #[true,true,false,false,false,false,false,false,false,false,false,false,false,false,false,false] rfl rfl (by kernel_rfl) (fun _ _ _ h=>h) (Or.inl ⟨by rfl,?_⟩) ?_ ?_;rotate_left
       ·intro w'
        go_simp
        with_reducible rfl
       rotate_left
       ·simp only[Act.put,aYa,aYb,aYc,aG,aH];rfl
       refine bA (i:=2) (N:=some 85) (v:=?_) (a':=?_) #[true,true,true,false,false,false,false,false,false,false,false,false,false,false,false,false] rfl rfl (by kernel_rfl) (fun _ _ _ h=>h) (Or.inl ⟨by rfl,?_⟩) ?_ ?_;rotate_left
       ·intro w'
        go_simp
        with_reducible rfl
       rotate_left
       ·simp only[Act.put,aYa,aYb,aYc,aG,aH];rfl
       refine dM (i:=3) (N:=some 86) (v:=?_) (a':=?_) #[true,true,true,true,false,false,false,false,false,false,false,false,false,false,false,false] rfl rfl (by kernel_rfl) (fun _ _ _ h=>h) (Or.inl ⟨by rfl,?_⟩) hHeld ?_ ?_;rotate_left
       ·rintro w' ⟨s1,s2,s3⟩
        go_simp
        with_reducible rfl
       rotate_left
       ·simp only[Act.put,aYa,aYb,aYc,aG,aH];rfl
       refine kg (i:=4) (N:=some 87) #[true,true,true,true,true,false,false,false,false,false,false,false,false,false,false,false] rfl rfl (by kernel_rfl) (by decide) (fun K hK=>?_);refine mq Tryz.func100 (by kernel_rfl) rfl #[.string x.f2] (by rfl) rfl rfl (by (try simp only[List.map_toArray,List.map_cons,List.map_nil]);first|done|rfl) ?_;refine (pX x.f2 _ hwf).mono ?_;rintro e w2 ⟨rfl,hb2⟩;refine⟨_,rfl,?_⟩;refine hK.out _ _ ⟨aj hb2 hHeld.1,aj hb2 hHeld.2.1,⟨hHeld.2.2.out.trans (hb2.mono hHeld.2.2.out.size)⟩⟩ ?_;clear hb2 hHeld hK K;intro hHeld;refine eB (a':=?_) ?_ ?_;rotate_left
       ·show Act.put _ (some 87) _=_
        simp only[Act.put,aYa,aYb,aYc,aG,aH];rfl
       cases hwt:fE x.f2 with
       | false=>
        have HE:=ah.mk (show je x=false by rw[HE2.out,vU.out,hwt];rfl);clear hwt;refine bA (i:=5) (N:=some 88) (v:=?_) (a':=?_) #[true,true,true,true,true,true,false,false,false,false,false,false,false,false,false,false] rfl rfl (by kernel_rfl) (fun _ _ _ h=>h) (Or.inl ⟨by rfl,?_⟩) ?_ ?_;rotate_left
        ·intro w'
         go_simp
         with_reducible rfl
        rotate_left
        ·simp only[Act.put,aYa,aYb,aYc,aG,aH];rfl
        refine bA (i:=6) (N:=some 89) (v:=?_) (a':=?_) #[true,true,true,true,true,true,true,false,false,false,false,false,false,false,false,false] rfl rfl (by kernel_rfl) (fun _ _ _ h=>h) (Or.inl ⟨by rfl,?_⟩) ?_ ?_;rotate_left
        ·intro w'
         go_simp
         with_reducible rfl
        rotate_left
        ·simp only[Act.put,aYa,aYb,aYc,aG,aH];rfl
        refine bA (i:=7) (N:=some 90) (a':=?_) #[true,true,true,true,true,true,true,true,false,false,false,false,false,false,false,false] rfl rfl (by kernel_rfl) (fun _ _ _ h=>h) (Or.inr ⟨by rfl,rfl⟩) ?_ ?_;rotate_left
        ·simp only[Act.put,aYa,aYb,aYc,aG,aH];rfl
        refine bA (i:=8) (N:=some 91) (a':=?_) #[true,true,true,true,true,true,true,true,true,false,false,false,false,false,false,false] rfl rfl (by kernel_rfl) (fun _ _ _ h=>h) (Or.inr ⟨by rfl,rfl⟩) ?_ ?_;rotate_left
        ·simp only[Act.put,aYa,aYb,aYc,aG,aH];rfl
        refine bA (i:=9) (N:=some 92) (a':=?_) #[true,true,true,true,true,true,true,true,true,true,false,false,false,false,false,false] rfl rfl (by kernel_rfl) (fun _ _ _ h=>h) (Or.inr ⟨by rfl,rfl⟩) ?_ ?_;rotate_left
        ·simp only[Act.put,aYa,aYb,aYc,aG,aH];rfl
        refine bA (i:=10) (N:=some 93) (a':=?_) #[true,true,true,true,true,true,true,true,true,true,true,false,false,false,false,false] rfl rfl (by kernel_rfl) (fun _ _ _ h=>h) (Or.inr ⟨by rfl,rfl⟩) ?_ ?_;rotate_left
        ·simp only[Act.put,aYa,aYb,aYc,aG,aH];rfl
        refine bA (i:=11) (N:=some 94) (a':=?_) #[true,true,true,true,true,true,true,true,true,true,true,true,false,false,false,false] rfl rfl (by kernel_rfl) (fun _ _ _ h=>h) (Or.inr ⟨by rfl,rfl⟩) ?_ ?_;rotate_left
        ·simp only[Act.put,aYa,aYb,aYc,aG,aH];rfl
        refine bA (i:=12) (N:=some 95) (a':=?_) #[true,true,true,true,true,true,true,true,true,true,true,true,true,false,false,false] rfl rfl (by kernel_rfl) (fun _ _ _ h=>h) (Or.inr ⟨by rfl,rfl⟩) ?_ ?_;rotate_left
        ·simp only[Act.put,aYa,aYb,aYc,aG,aH];rfl
        refine bA (i:=13) (N:=some 96) (a':=?_) #[true,true,true,true,true,true,true,true,true,true,true,true,true,true,false,false] rfl rfl (by kernel_rfl) (fun _ _ _ h=>h) (Or.inr ⟨by rfl,rfl⟩) ?_ ?_;rotate_left
        ·simp only[Act.put,aYa,aYb,aYc,aG,aH];rfl
        refine bA (i:=14) (N:=some 97) (v:=?_) (a':=?_) #[true,true,true,true,true,true,true,true,true,true,true,true,true,true,true,false] rfl rfl (by kernel_rfl) (fun _ _ _ h=>h) (Or.inl ⟨by rfl,?_⟩) ?_ ?_;rotate_left
        ·intro w'
         go_simp
         with_reducible rfl
        rotate_left
        ·simp only[Act.put,aYa,aYb,aYc,aG,aH];rfl
        refine bA (i:=15) (N:=some 2) (v:=?_) (a':=?_) #[true,true,true,true,true,true,true,true,true,true,true,true,true,true,true,true] rfl rfl (by kernel_rfl) (fun _ _ _ h=>h) (Or.inl ⟨by rfl,?_⟩) ?_ ?_;rotate_left
        ·intro w'
         go_simp
         with_reducible rfl
        rotate_left
        ·simp only[Act.put,aYa,aYb,aYc,aG,aH];rfl
        refine ku (by kernel_rfl) ?_;have HB3:=hHeld.2.2;clear hHeld
        go_wp2_with fail
        go_ret
        exact⟨by rw[HE.out];rfl,HB3.out⟩
       | true=>
        have HE:=ah.mk (show je x=WU (BG x.f2) (BG x.f1) by rw[HE2.out,vU.out,hwt];rfl);have hw1:=oh hwt;clear hwt;refine bA (i:=5) (N:=some 88) (v:=?_) (a':=?_) #[true,true,true,true,true,true,false,false,false,false,false,false,false,false,false,false] rfl rfl (by kernel_rfl) (fun _ _ _ h=>h) (Or.inl ⟨by rfl,?_⟩) ?_ ?_;rotate_left
        ·intro w'
         go_simp
         with_reducible rfl
        rotate_left
        ·simp only[Act.put,aYa,aYb,aYc,aG,aH];rfl
        refine bA (i:=6) (N:=some 89) (v:=?_) (a':=?_) #[true,true,true,true,true,true,true,false,false,false,false,false,false,false,false,false] rfl rfl (by kernel_rfl) (fun _ _ _ h=>h) (Or.inl ⟨by rfl,?_⟩) ?_ ?_;rotate_left
        ·intro w'
         go_simp
         with_reducible rfl
        rotate_left
        ·simp only[Act.put,aYa,aYb,aYc,aG,aH];rfl
        refine bA (i:=7) (N:=some 90) (v:=?_) (a':=?_) #[true,true,true,true,true,true,true,true,false,false,false,false,false,false,false,false] rfl rfl (by kernel_rfl) (fun _ _ _ h=>h) (Or.inl ⟨by rfl,?_⟩) ?_ ?_;rotate_left
        ·intro w'
         go_simp
         with_reducible rfl
        rotate_left
        ·simp only[Act.put,aYa,aYb,aYc,aG,aH];rfl
        refine dM (i:=8) (N:=some 91) (v:=?_) (a':=?_) #[true,true,true,true,true,true,true,true,true,false,false,false,false,false,false,false] rfl rfl (by kernel_rfl) (fun _ _ _ h=>h) (Or.inl ⟨by rfl,?_⟩) hHeld ?_ ?_;rotate_left
        ·rintro w' ⟨s1,s2,s3⟩
         go_simp
         with_reducible rfl
        rotate_left
        ·simp only[Act.put,aYa,aYb,aYc,aG,aH];rfl
        refine bA (i:=10) (N:=some 93) (v:=?_) (a':=?_) #[true,true,true,true,true,true,true,true,true,false,true,false,false,false,false,false] rfl rfl (by kernel_rfl) (fun _ _ _ h=>h) (Or.inl ⟨by rfl,?_⟩) ?_ ?_;rotate_left
        ·intro w'
         go_simp
         with_reducible rfl
        rotate_left
        ·simp only[Act.put,aYa,aYb,aYc,aG,aH];rfl
        refine dM (i:=11) (N:=some 94) (v:=?_) (a':=?_) #[true,true,true,true,true,true,true,true,true,false,true,true,false,false,false,false] rfl rfl (by kernel_rfl) (fun _ _ _ h=>h) (Or.inl ⟨by rfl,?_⟩) hHeld ?_ ?_;rotate_left
        ·rintro w' ⟨s1,s2,s3⟩
         go_simp
         with_reducible rfl
        rotate_left
        ·simp only[Act.put,aYa,aYb,aYc,aG,aH];rfl
        refine kg (i:=9) (N:=some 92) #[true,true,true,true,true,true,true,true,true,true,true,true,false,false,false,false] rfl rfl (by kernel_rfl) (by decide) (fun K hK=>?_);refine mq Tryz.func88 (by kernel_rfl) rfl #[.string x.f2] (by rfl) rfl rfl (by (try simp only[List.map_toArray,List.map_cons,List.map_nil]);first|done|rfl) ?_;refine (nN x.f2 _ (by omega)).mono ?_;rintro e w2 ⟨rfl,hb2⟩;refine⟨_,rfl,?_⟩;refine hK.out _ _ ⟨aj hb2 hHeld.1,aj hb2 hHeld.2.1,⟨hHeld.2.2.out.trans (hb2.mono hHeld.2.2.out.size)⟩⟩ ?_;clear hb2 hHeld hK K;intro hHeld;refine eB (a':=?_) ?_ ?_;rotate_left
        ·show Act.put _ (some 92) _=_
         simp only[Act.put,aYa,aYb,aYc,aG,aH];rfl
        refine kg (i:=12) (N:=some 95) #[true,true,true,true,true,true,true,true,true,true,true,true,true,false,false,false] rfl rfl (by kernel_rfl) (by decide) (fun K hK=>?_);refine mq Tryz.func88 (by kernel_rfl) rfl #[.string x.f1] (by rfl) rfl rfl (by (try simp only[List.map_toArray,List.map_cons,List.map_nil]);first|done|rfl) ?_;refine (nN x.f1 _ hs1).mono ?_;rintro e w2 ⟨rfl,hb2⟩;refine⟨_,rfl,?_⟩;refine hK.out _ _ ⟨aj hb2 hHeld.1,aj hb2 hHeld.2.1,⟨hHeld.2.2.out.trans (hb2.mono hHeld.2.2.out.size)⟩⟩ ?_;clear hb2 hHeld hK K;intro hHeld;refine eB (a':=?_) ?_ ?_;rotate_left
        ·show Act.put _ (some 95) _=_
         simp only[Act.put,aYa,aYb,aYc,aG,aH];rfl
        refine bA (i:=13) (N:=some 96) (v:=?_) (a':=?_) #[true,true,true,true,true,true,true,true,true,true,true,true,true,true,false,false] rfl rfl (by kernel_rfl) (fun _ _ _ h=>h) (Or.inl ⟨by rfl,?_⟩) ?_ ?_;rotate_left
        ·intro w'
         go_simp
         with_reducible rfl
        rotate_left
        ·simp only[Act.put,aYa,aYb,aYc,aG,aH];rfl
        refine bA (i:=14) (N:=some 97) (v:=?_) (a':=?_) #[true,true,true,true,true,true,true,true,true,true,true,true,true,true,true,false] rfl rfl (by kernel_rfl) (fun _ _ _ h=>h) (Or.inl ⟨by rfl,?_⟩) ?_ ?_;rotate_left
        ·intro w'
         go_simp
         with_reducible rfl
        rotate_left
        ·simp only[Act.put,aYa,aYb,aYc,aG,aH];rfl
        refine bA (i:=15) (N:=some 2) (v:=?_) (a':=?_) #[true,true,true,true,true,true,true,true,true,true,true,true,true,true,true,true] rfl rfl (by kernel_rfl) (fun _ _ _ h=>h) (Or.inl ⟨by rfl,?_⟩) ?_ ?_;rotate_left
        ·intro w'
         go_simp
         with_reducible rfl
        rotate_left
        ·simp only[Act.put,aYa,aYb,aYc,aG,aH];rfl
        refine ku (by kernel_rfl) ?_;have HB3:=hHeld.2.2;clear hHeld
        go_wp2_with fail
        go_ret
        exact⟨by rw[HE.out];rfl,HB3.out⟩
     ·have t4:(x.f0 == 4)=false:=beq_eq_false_iff_ne.2 k4;have HE:=ah.mk (pu5 Dl.out JR.out HN3.out k4);clear k4
      go_wp2_with fail
      go_ret
      exact⟨by rw[HE.out];rfl,HB.out⟩
end Go.Proofs.YtknihldkhedpkaaGreatDoor
end
