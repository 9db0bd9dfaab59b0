import Derived.Test.YtknihldkhedpkaaGreatDoorUUG14
import Derived.Test.YtknihldkhedpkaaGreatDoorUUG13
set_option linter.all false
set_option maxHeartbeats 16000000
set_option maxRecDepth 100000
section
namespace Go.Proofs.YtknihldkhedpkaaGreatDoor
open Go.RowKit Go.Lib
open Go.Proofs.YtknihldkhedpkaaGreatDoorW.PrintWords Go.Proofs.YtknihldkhedpkaaGreatDoorW.PrintLast Go.Proofs.YtknihldkhedpkaaGreatDoor.PT
theorem Bg {s:ByteArray} (h:s.size=0):s.toList.isEmpty=true:=by
 rw[Lib.toList_data,show s.data.toList=[] from List.eq_nil_of_length_eq_zero (by rw[gT];exact h)];rfl
theorem FM {s:ByteArray} (h:s.size≠0):s.toList.isEmpty=false:=by
 cases hc:s.toList with
 | nil=>rw[Lib.toList_data] at hc;have:=gT s;rw[hc] at this;exact absurd this.symm h
 | cons _ _=>rfl
theorem NA {most:Int}:∀(l:List Ru) (last all n:Int),gZ most last all l=some n→-1≤last→(l≠[]→last<most) →
  all≤n∧(l≠[]→all+1≤n)∧(l≠[]→n≤all+most - last)∧∀r∈l,last<r.f0∧0≤r.f1∧r.f1≤most
 | [],last,all,n,h,h1,_=>by
  rw[gZ] at h;cases h;exact⟨Int.le_refl _,fun h=>absurd rfl h,fun h=>absurd rfl h,fun r hr=>by cases hr⟩
 | r::l,last,all,n,h,h1,hlm=>by
  rw[gZ] at h;split at h
  ·cases h
  rename_i hc
  have hl2:l≠[]→r.f1<most:=fun hl=>by
   cases l with
   | nil=>exact absurd rfl hl
   | cons q l'=>
    rw[gZ] at h;split at h
    ·cases h
    omega
  obtain⟨i1,i2,i3,i4⟩:=NA l r.f1 _ n h aj hl2;refine⟨by omega,fun _=>by omega,fun _=>?_,fun q hq=>?_⟩
  ·cases l with
   | nil=>rw[gZ] at h;cases h;omega
   | cons q l'=>have:=i3 bK;omega
  rcases List.mem_cons.1 hq with rfl|hq
  ·omega
  have:=i4 q hq;omega
theorem xH {l:List Ru} {most n:Int} (h:jm l most=some n) (hm:0≤most):0≤n∧(l≠[]→1≤n)∧(l≠[]→n≤most+1)∧∀r∈l,0≤r.f0∧0≤r.f1∧r.f1≤most:=by
 have h':=NA l (-1) 0 n h aj (fun _=>by omega);refine⟨h'.1,fun hl=>by have:=h'.2.1 hl;omega,fun hl=>by have:=h'.2.2.1 hl;omega,fun r hr=>by have:=h'.2.2.2 r hr;omega⟩
theorem xI {x:It} {n:Int} (h:gJ x=some n):0≤x.f3∧x.f3≤8459264∧jm x.f4 ((x.f3+511) / 512)=some n:=by
 unfold gJ at h;split at h
 ·cases h
 exact⟨by omega,by omega,h⟩
theorem Qg {x:It} {n:Int} (h:gJ x=some n) (hd:(x.f5.length:Int)=n*512) :
  (∀r∈x.f4,0≤r.f1∧r.f1≤1048576)∧0≤x.f3∧x.f3≤1099511627776∧zB x.f4 x.f3≤x.f5.length:=by
 obtain⟨h0,h1,h2⟩:=xI h;obtain⟨a1,a2,a3,a4⟩:=xH h2 aj;refine⟨fun r hr=>by have:=a4 r hr;omega,h0,by omega,?_⟩
 cases hn:x.f4.length with
 | zero=>
  rw[List.length_eq_zero_iff.1 hn]
  show (0:Int)≤_
  omega
 | succ k=>
  rw[zZ hn];have h3:=a4 (x.f4[k]'aj) (List.getElem_mem _);have h4:=a2 (fun e=>by rw[e] at hn;cases hn);omega
theorem Bh {x:It} {n:Int} (h:gJ x=some n):0≤n∧n≤20000:=by
 obtain⟨h0,h1,h2⟩:=xI h;obtain⟨a1,a2,a3,a4⟩:=xH h2 aj
 by_cases hl:x.f4=[]
 ·rw[hl] at h2
  have:n=0:=by
   have h3:(some (0:Int))=some n:=h2;cases h3;rfl
  omega
 have:=a3 hl;omega
theorem oW {s:ByteArray} (h:fZ s=true):s.size≤1023:=by
 unfold fZ at h;exact of_decide_eq_true (Bool.and_eq_true_iff.1 h).1
theorem pu1 {x:It} (h:x.f0=1):jH x=(match gJ x with
  | none=>false
  | some all=>decide (x.f2.size=0) && (decide ((x.f5.length:Int)=all*512) && lZ x.f4 x.f5 x.f3)):=by
 unfold jH;rw[if_pos h]
 cases gJ x <;> rfl
theorem pu2 {x:It} (h1:¬x.f0=1) (h:x.f0=2):jH x=(iQ x && decide (x.f2.size=0)):=by
 unfold jH;rw[if_neg h1,if_pos h]
theorem pu3 {x:It} (h1:¬x.f0=1) (h2:¬x.f0=2) (h:x.f0=3):jH x=(iQ x && (decide (x.f2.size≠0) && (decide (x.f2.size≤255) && decide (Lib.indexByte (bs x.f2) 0<0)))):=by
 unfold jH;rw[if_neg h1,if_neg h2,if_pos h]
theorem pu4 {x:It} (h1:¬x.f0=1) (h2:¬x.f0=2) (h3:¬x.f0=3) (h:x.f0=4):jH x=(iQ x && (fZ x.f2 && YK (CS x.f2) (CS x.f1))):=by
 unfold jH;rw[if_neg h1,if_neg h2,if_neg h3,if_pos h]
theorem pu5 {x:It} (h1:¬x.f0=1) (h2:¬x.f0=2) (h3:¬x.f0=3) (h:¬x.f0=4):jH x=false:=by
 unfold jH;rw[if_neg h1,if_neg h2,if_neg h3,if_neg h]
theorem Wo (x:It) (A4:Option Addr) (c4:Nat) (A5:Option Addr) (c5:Nat) (w:World) (h4:Kd.C dB w A4 x.f4.length x.f4) (l4:x.f4.length≤c4) (h5:Kd.C (Kd.int .u8) w A5 x.f5.length x.f5) (l5:x.f5.length≤c5)
  (hf:Fit x) (hl4:x.f4.length≤140737488351232) (hl5:x.f5.length≤140737488351232) (hs1:x.f1.size<4294967281) :
  Calls Tryz.prog 101 #[.agg #[.int .i64 x.f0,.string x.f1,.string x.f2,.int .i64 x.f3,.slice A4 x.f4.length c4,.slice A5 x.f5.length c5]] w fun e w'=>e=.returned (.bool (jH x))∧Below w.heap.size w w':=by
 obtain⟨X,hX⟩:∃X,#[Value.int .i64 x.f0,.string x.f1,.string x.f2,.int .i64 x.f3,.slice A4 x.f4.length c4,.slice A5 x.f5.length c5]=X:=⟨_,rfl⟩
 obtain⟨W1,hW1⟩:∃W1,w.alloc (.cells X 29)=W1:=⟨_,rfl⟩
 have hbx:=bJ w (.cells X 29);have hb0:=(Below.refl w.heap.size w).alloc (Nat.le_refl _) (.cells X 29);rw[hW1] at hbx hb0
 have x0:W1.cell? ⟨w.heap.size,0,none⟩=some (.int .i64 x.f0):=by rw[ak hbx,← hX];rfl
 have x1:W1.cell? ⟨w.heap.size,1,none⟩=some (.string x.f1):=by rw[ak hbx,← hX];rfl
 have x2:W1.cell? ⟨w.heap.size,2,none⟩=some (.string x.f2):=by rw[ak hbx,← hX];rfl
 have x3:W1.cell? ⟨w.heap.size,3,none⟩=some (.int .i64 x.f3):=by rw[ak hbx,← hX];rfl
 have x4:W1.cell? ⟨w.heap.size,4,none⟩=some (.slice A4 x.f4.length c4):=by rw[ak hbx,← hX];rfl
 have x5:W1.cell? ⟨w.heap.size,5,none⟩=some (.slice A5 x.f5.length c5):=by rw[ak hbx,← hX];rfl
 have hlt:=bE hbx;have HB:=ah.mk hb0;have Bf:=ah.mk hbx;have HR4:=ah.mk (Kd.aC h4 hb0);have nD:=ah.mk (Kd.aC h5 hb0);have YJ:=ah.mk hf;have HX:=ah.mk hX
 have hX6:X.size=6:=by rw[← hX];rfl
 have H6:=ah.mk hX6;rw[hX];clear hb0 hbx h4 h5 hf hX hX6
 go_enter Tryz.func101,Tryz.ntmps101
 go_upto_region 1 with (fail)
 clear hW1
 go_cut [3] (fun v3 wd=>v3=.bool (iQ x)∧ah (wd=W1))
 case first=>
  by_cases b3:x.f3=0
  ·have b3b:(x.f3 == 0)=true:=beq_iff_eq.2 b3;have H3:=ah.mk b3;clear b3;by_cases b4:x.f4.length=0
   ·have b4b:((x.f4.length:Int) == 0)=true:=beq_iff_eq.2 aj;have H4:=ah.mk b4;clear b4;by_cases b5:x.f5.length=0
    ·have b5b:((x.f5.length:Int) == 0)=true:=beq_iff_eq.2 aj;have H5:=ah.mk b5;clear b5
     go_wp2_with fail
     go_meet
     case rel=>exact⟨by unfold iQ;rw[decide_eq_true H3.out,decide_eq_true H4.out,decide_eq_true H5.out];rfl,⟨rfl⟩⟩
    have b5b:((x.f5.length:Int) == 0)=false:=beq_eq_false_iff_ne.2 aj;have H5:=ah.mk b5;clear b5
    go_wp2_with fail
    go_meet
    case rel=>exact⟨by unfold iQ;rw[decide_eq_true H3.out,decide_eq_true H4.out,decide_eq_false H5.out];rfl,⟨rfl⟩⟩
   have b4b:((x.f4.length:Int) == 0)=false:=beq_eq_false_iff_ne.2 aj;have H4:=ah.mk b4;clear b4
   go_wp2_with fail
   go_meet
   case rel=>exact⟨by unfold iQ;rw[decide_eq_true H3.out,decide_eq_false H4.out];rfl,⟨rfl⟩⟩
  have b3b:(x.f3 == 0)=false:=beq_eq_false_iff_ne.2 b3;have H3:=ah.mk b3;clear b3
  go_wp2_with fail
  go_meet
  case rel=>exact⟨by unfold iQ;rw[decide_eq_false H3.out];rfl,⟨rfl⟩⟩
 case rest=>
  obtain⟨rfl,Wp⟩:=hcut;have hwb:=Wp.out;subst hwb;clear Wp
  obtain⟨bb,hbb⟩:∃bb,iQ x=bb:=⟨_,rfl⟩
  rw[hbb];have wW:=ah.mk hbb;clear hbb;by_cases k1:x.f0=1
  ·have t1:(x.f0 == 1)=true:=beq_iff_eq.2 k1;have jY:=ah.mk k1;have R9:=ah.mk (pu1 k1);clear k1
   cases hsz:gJ x with
   | none=>
    have HE:=ah.mk (show jH x=false by rw[R9.out,hsz]);have c:=Db x A4 c4 (.slice A5 x.f5.length c5) wc HR4.out l4 hl4;rw[hsz,HX.out] at c;simp only[Option.getD_none,Option.isSome_none,Option.getD_some,Option.isSome_some] at c;have C:=ah.mk c;clear c hsz
    go_upto_region 5 with (first|(refine dX (.load 29 (.tmp 1)) rfl ?_;refine wpList_load_row rfl _ _ rfl w.heap.size rfl 29 X (0,0) _ Bf.out Tryz.underlying29 rfl (by rw[H6.out];kernel_rfl) ?_)|(go_at_call 133;refine C.out.mono ?_;rintro e w2 ⟨rfl,hb2⟩;have HB2:=ah.mk (HB.out.trans (hb2.mono HB.out.size));have y2:=au hb2 x2;have y3:=au hb2 x3;have y4:=au hb2 x4;have y5:=au hb2 x5;have hlt:=Nat.lt_of_lt_of_le hlt hb2.size;have HR4:=ah.mk (Kd.aC HR4.out hb2);have nD:=ah.mk (Kd.aC nD.out hb2);clear hb2))
    go_wp2_with fail
    go_ret
    exact⟨by rw[HE.out];rfl,HB2.out⟩
   | some all=>
    have c:=Db x A4 c4 (.slice A5 x.f5.length c5) wc HR4.out l4 hl4;rw[hsz,HX.out] at c;simp only[Option.getD_none,Option.isSome_none,Option.getD_some,Option.isSome_some] at c;have C:=ah.mk c;have hall:=Bh hsz;have Qh:=ah.mk hsz;clear c hsz;by_cases z2:x.f2.size=0
    ·have e2:=Bg z2;have HZ:=ah.mk z2;clear z2;by_cases hd:(x.f5.length:Int)=all*512
     ·have hdb:((x.f5.length:Int) == all*512)=true:=beq_iff_eq.2 hd;have Px:=ah.mk (Qg Qh.out hd);have HE:=ah.mk (show jH x=lZ x.f4 x.f5 x.f3 by rw[R9.out,Qh.out];dsimp only;rw[decide_eq_true HZ.out,decide_eq_true hd];rfl);have HD:=ah.mk hd;clear hd
      go_upto_region 5 with (first|(refine dX (.load 29 (.tmp 1)) rfl ?_;refine wpList_load_row rfl _ _ rfl w.heap.size rfl 29 X (0,0) _ Bf.out Tryz.underlying29 rfl (by rw[H6.out];kernel_rfl) ?_)|(go_at_call 133;refine C.out.mono ?_;rintro e w2 ⟨rfl,hb2⟩;have HB2:=ah.mk (HB.out.trans (hb2.mono HB.out.size));have y2:=au hb2 x2;have y3:=au hb2 x3;have y4:=au hb2 x4;have y5:=au hb2 x5;have hlt:=Nat.lt_of_lt_of_le hlt hb2.size;have HR4:=ah.mk (Kd.aC HR4.out hb2);have nD:=ah.mk (Kd.aC nD.out hb2);clear hb2))
      go_wp2_with (go_at_call 134;refine (JN A4 c4 x.f4 A5 c5 x.f5 x.f3 _ HR4.out l4 hl4 nD.out l5 hl5 Px.out.1 Px.out.2.1 Px.out.2.2.1 Px.out.2.2.2).mono ?_;rintro e w3 ⟨rfl,hb3⟩;have HB3:=ah.mk (HB2.out.trans (hb3.mono HB2.out.size));clear hb3)
      go_ret
      exact⟨by rw[HE.out];rfl,HB3.out⟩
     have hdb:((x.f5.length:Int) == all*512)=false:=beq_eq_false_iff_ne.2 hd;have HE:=ah.mk (show jH x=false by rw[R9.out,Qh.out];dsimp only;rw[decide_eq_false hd];simp);have HD:=ah.mk hd;clear hd
     go_upto_region 5 with (first|(refine dX (.load 29 (.tmp 1)) rfl ?_;refine wpList_load_row rfl _ _ rfl w.heap.size rfl 29 X (0,0) _ Bf.out Tryz.underlying29 rfl (by rw[H6.out];kernel_rfl) ?_)|(go_at_call 133;refine C.out.mono ?_;rintro e w2 ⟨rfl,hb2⟩;have HB2:=ah.mk (HB.out.trans (hb2.mono HB.out.size));have y2:=au hb2 x2;have y3:=au hb2 x3;have y4:=au hb2 x4;have y5:=au hb2 x5;have hlt:=Nat.lt_of_lt_of_le hlt hb2.size;have HR4:=ah.mk (Kd.aC HR4.out hb2);have nD:=ah.mk (Kd.aC nD.out hb2);clear hb2))
     go_wp2_with fail
     go_ret
     exact⟨by rw[HE.out];rfl,HB2.out⟩
    have e2:=FM z2;have HE:=ah.mk (show jH x=false by rw[R9.out,Qh.out];dsimp only;rw[decide_eq_false z2];rfl);clear z2
    go_upto_region 5 with (first|(refine dX (.load 29 (.tmp 1)) rfl ?_;refine wpList_load_row rfl _ _ rfl w.heap.size rfl 29 X (0,0) _ Bf.out Tryz.underlying29 rfl (by rw[H6.out];kernel_rfl) ?_)|(go_at_call 133;refine C.out.mono ?_;rintro e w2 ⟨rfl,hb2⟩;have HB2:=ah.mk (HB.out.trans (hb2.mono HB.out.size));have y2:=au hb2 x2;have y3:=au hb2 x3;have y4:=au hb2 x4;have y5:=au hb2 x5;have hlt:=Nat.lt_of_lt_of_le hlt hb2.size;have HR4:=ah.mk (Kd.aC HR4.out hb2);have nD:=ah.mk (Kd.aC nD.out hb2);clear hb2))
    go_wp2_with fail
    go_ret
    exact⟨by rw[HE.out];rfl,HB2.out⟩
  have t1:(x.f0 == 1)=false:=beq_eq_false_iff_ne.2 k1;have Eo:=ah.mk k1;clear k1;by_cases k2:x.f0=2
  ·have t2:(x.f0 == 2)=true:=beq_iff_eq.2 k2;have HE2:=ah.mk (pu2 Eo.out k2);clear k2
   cases bb with
   | false=>
    have HE:=ah.mk (show jH x=false by rw[HE2.out,wW.out];rfl)
    go_wp2_with fail
    go_ret
    exact⟨by rw[HE.out];rfl,HB.out⟩
   | true=>
    by_cases hs:x.f2.size=0
    ·have h2:=Bg hs;have HE:=ah.mk (show jH x=true by rw[HE2.out,wW.out,decide_eq_true hs];rfl);clear hs
     go_wp2_with fail
     go_ret
     exact⟨by rw[HE.out];rfl,HB.out⟩
    have h2:=FM hs;have HE:=ah.mk (show jH x=false by rw[HE2.out,wW.out,decide_eq_false hs];rfl);clear hs
    go_wp2_with fail
    go_ret
    exact⟨by rw[HE.out];rfl,HB.out⟩
  have t2:(x.f0 == 2)=false:=beq_eq_false_iff_ne.2 k2;have Fy:=ah.mk k2;clear k2;by_cases k3:x.f0=3
  ·have t3:(x.f0 == 3)=true:=beq_iff_eq.2 k3;have HE2:=ah.mk (pu3 Eo.out Fy.out k3);clear k3
   cases bb with
   | false=>
    have HE:=ah.mk (show jH x=false by rw[HE2.out,wW.out];rfl)
    go_wp2_with fail
    go_ret
    exact⟨by rw[HE.out];rfl,HB.out⟩
   | true=>
    by_cases hs:x.f2.size=0
    ·have h2:=Bg hs;have HE:=ah.mk (show jH x=false by rw[HE2.out,wW.out,decide_eq_false (fun h=>h hs)];rfl);clear hs
     go_wp2_with fail
     go_ret
     exact⟨by rw[HE.out];rfl,HB.out⟩
    have h2:=FM hs;have HS:=ah.mk hs;clear hs;by_cases Wq:x.f2.size≤255
    ·have Wt:decide ((x.f2.size:Int)≤255)=true:=decide_eq_true aj;have Y9:=ah.mk Wq
     obtain⟨ib,hib⟩:∃r,decide (0≤Lib.indexByte (bs x.f2) 0)=r:=⟨_,rfl⟩
     have hcl:∀W:World,Calls Tryz.prog 135 #[.string x.f2,.string ⟨#[0]⟩] W fun e w'=>e=.returned (.bool ib)∧w'=W:=fun W=>by
      have c:=Tryz.strings_Contains_one x.f2 0 W;rw[show decide (0≤Lib.indexByte x.f2.data.toList 0)=ib from hib] at c;exact c
     have HE:=ah.mk (show jH x = !ib by
      rw[HE2.out,wW.out,decide_eq_true HS.out,decide_eq_true Y9.out,← hib];by_cases hh:Lib.indexByte (bs x.f2) 0<0
      ·rw[decide_eq_true hh,decide_eq_false aj];rfl
      rw[decide_eq_false hh,decide_eq_true aj];rfl)
     have Na:=ah.mk hcl;clear hib hcl
     go_wp2_with (go_at_call 135;refine (Na.out _).mono ?_;rintro e w' ⟨rfl,rfl⟩)
     go_ret
     exact⟨by rw[HE.out];rfl,HB.out⟩
    have Wt:decide ((x.f2.size:Int)≤255)=false:=decide_eq_false aj;have HE:=ah.mk (show jH x=false by rw[HE2.out,wW.out,decide_eq_true HS.out,decide_eq_false Wq];rfl)
    go_wp2_with fail
    go_ret
    exact⟨by rw[HE.out];rfl,HB.out⟩
  have t3:(x.f0 == 3)=false:=beq_eq_false_iff_ne.2 k3;have HN3:=ah.mk k3;clear k3;by_cases k4:x.f0=4
  ·have t4:(x.f0 == 4)=true:=beq_iff_eq.2 k4;have HE2:=ah.mk (pu4 Eo.out Fy.out HN3.out k4);clear k4
   go_wp2_with fail
   cases bb with
   | false=>
    have HE:=ah.mk (show jH x=false by rw[HE2.out,wW.out];rfl);have hdr:=bA (Below.refl wc.heap.size wc)
    have hS:(fun w'=>w'.cell? ⟨w.heap.size,1,none⟩=some (.string x.f1)∧w'.cell? ⟨w.heap.size,2,none⟩=some (.string x.f2)∧ah (Below w.heap.size w w')) wc.drew:=⟨au hdr x1,au hdr x2,⟨HB.out.trans (hdr.mono HB.out.size)⟩⟩
    clear hdr x0 x1 x2 x3 x4 x5 hlt;refine kY (n:=16) (S:=(fun w'=>w'.cell? ⟨w.heap.size,1,none⟩=some (.string x.f1)∧w'.cell? ⟨w.heap.size,2,none⟩=some (.string x.f2)∧ah (Below w.heap.size w w'))) (ds:=[]) (aQ 16 0) aA rfl rfl hS (fun hHeld=>?_);clear hS;refine bR 0 83 (aQ 16 1) ?_;refine bR 1 84 (aQ 16 3) ?_;refine qg 2 85 (aQ 16 7) ?_;refine qg 3 86 (aQ 16 15) ?_;refine qg 4 87 (aQ 16 31) ?_;refine bR 5 88 (aQ 16 63) ?_;refine bR 6 89 (aQ 16 127) ?_;refine qg 7 90 (aQ 16 255) ?_;refine qg 8 91 (aQ 16 511) ?_;refine qg 9 92 (aQ 16 1023) ?_;refine qg 10 93 (aQ 16 2047) ?_;refine qg 11 94 (aQ 16 4095) ?_;refine qg 12 95 (aQ 16 8191) ?_;refine qg 13 96 (aQ 16 16383) ?_;refine bR 14 97 (aQ 16 32767) ?_;refine bR 15 2 (aQ 16 65535) ?_;refine kK aA ?_;have HB3:=hHeld.2.2;clear hHeld
    go_wp2_with fail
    go_ret
    exact⟨by rw[HE.out];rfl,HB3.out⟩
   | true=>
    have hwf:=Nat.le_trans YJ.out.t (by decide:140737488351232≤140737488351232);have hdr:=bA (Below.refl wc.heap.size wc)
    have hS:(fun w'=>w'.cell? ⟨w.heap.size,1,none⟩=some (.string x.f1)∧w'.cell? ⟨w.heap.size,2,none⟩=some (.string x.f2)∧ah (Below w.heap.size w w')) wc.drew:=⟨au hdr x1,au hdr x2,⟨HB.out.trans (hdr.mono HB.out.size)⟩⟩
    clear hdr x0 x1 x2 x3 x4 x5 hlt;refine kY (n:=16) (S:=(fun w'=>w'.cell? ⟨w.heap.size,1,none⟩=some (.string x.f1)∧w'.cell? ⟨w.heap.size,2,none⟩=some (.string x.f2)∧ah (Below w.heap.size w w'))) (ds:=[]) (aQ 16 0) aA rfl rfl hS (fun hHeld=>?_);clear hS;refine bR 0 83 (aQ 16 1) ?_;refine bR 1 84 (aQ 16 3) ?_;refine bR 2 85 (aQ 16 7) ?_;refine jv 3 86 (aQ 16 15) rfl hHeld (by rintro w' ⟨s1,s2,s3⟩;go_simp;with_reducible rfl) ?_;refine mG 4 (some 87) (aQ 16 31) (fun K hK=>?_);refine qj Tryz.func100 #[.string x.f2] ?_;refine (qI x.f2 _ hwf).mono ?_;rintro e w2 ⟨rfl,hb2⟩;refine⟨_,rfl,?_⟩;refine hK.out _ _ ⟨au hb2 hHeld.1,au hb2 hHeld.2.1,⟨hHeld.2.2.out.trans (hb2.mono hHeld.2.2.out.size)⟩⟩ ?_;clear hb2 hHeld hK K;intro hHeld;refine fU 87 ?_
    cases hwt:fZ x.f2 with
    | false=>
     have HE:=ah.mk (show jH x=false by rw[HE2.out,wW.out,hwt];rfl);clear hwt;refine bR 5 88 (aQ 16 63) ?_;refine bR 6 89 (aQ 16 127) ?_;refine qg 7 90 (aQ 16 255) ?_;refine qg 8 91 (aQ 16 511) ?_;refine qg 9 92 (aQ 16 1023) ?_;refine qg 10 93 (aQ 16 2047) ?_;refine qg 11 94 (aQ 16 4095) ?_;refine qg 12 95 (aQ 16 8191) ?_;refine qg 13 96 (aQ 16 16383) ?_;refine bR 14 97 (aQ 16 32767) ?_;refine bR 15 2 (aQ 16 65535) ?_;refine kK aA ?_;have HB3:=hHeld.2.2;clear hHeld
     go_wp2_with fail
     go_ret
     exact⟨by rw[HE.out];rfl,HB3.out⟩
    | true=>
     have HE:=ah.mk (show jH x=YK (CS x.f2) (CS x.f1) by rw[HE2.out,wW.out,hwt];rfl);have hw1:=oW hwt;clear hwt;refine bR 5 88 (aQ 16 63) ?_;refine bR 6 89 (aQ 16 127) ?_;refine bR 7 90 (aQ 16 255) ?_;refine jv 8 91 (aQ 16 511) rfl hHeld (by rintro w' ⟨s1,s2,s3⟩;go_simp;with_reducible rfl) ?_;refine bR 10 93 (aQ 16 1535) ?_;refine jv 11 94 (aQ 16 3583) rfl hHeld (by rintro w' ⟨s1,s2,s3⟩;go_simp;with_reducible rfl) ?_;refine mG 9 (some 92) (aQ 16 4095) (fun K hK=>?_);refine qj Tryz.func88 #[.string x.f2] ?_;refine (oH x.f2 _ aj).mono ?_;rintro e w2 ⟨rfl,hb2⟩;refine⟨_,rfl,?_⟩;refine hK.out _ _ ⟨au hb2 hHeld.1,au hb2 hHeld.2.1,⟨hHeld.2.2.out.trans (hb2.mono hHeld.2.2.out.size)⟩⟩ ?_;clear hb2 hHeld hK K;intro hHeld;refine fU 92 ?_;refine mG 12 (some 95) (aQ 16 8191) (fun K hK=>?_);refine qj Tryz.func88 #[.string x.f1] ?_;refine (oH x.f1 _ hs1).mono ?_;rintro e w2 ⟨rfl,hb2⟩;refine⟨_,rfl,?_⟩;refine hK.out _ _ ⟨au hb2 hHeld.1,au hb2 hHeld.2.1,⟨hHeld.2.2.out.trans (hb2.mono hHeld.2.2.out.size)⟩⟩ ?_;clear hb2 hHeld hK K;intro hHeld;refine fU 95 ?_;refine bR 13 96 (aQ 16 16383) ?_;refine bR 14 97 (aQ 16 32767) ?_;refine bR 15 2 (aQ 16 65535) ?_;refine kK aA ?_;have HB3:=hHeld.2.2;clear hHeld
     go_wp2_with fail
     go_ret
     exact⟨by rw[HE.out];rfl,HB3.out⟩
  have t4:(x.f0 == 4)=false:=beq_eq_false_iff_ne.2 k4;have HE:=ah.mk (pu5 Eo.out Fy.out HN3.out k4);clear k4
  go_wp2_with fail
  go_ret
  exact⟨by rw[HE.out];rfl,HB.out⟩
theorem JO:∀(l o:List Ru),gU l o=true→∀r∈l,∃q∈o,r.f1≤q.f1
 | [],o,_,r,hr=>by cases hr
 | a::l,o,h,r,hr=>by
  rw[gU] at h
  obtain⟨s,hs⟩:∃s,o.dropWhile (fun q=>decide (q.f1<a.f1))=s:=⟨_,rfl⟩
  have hsub:∀q∈s,q∈o:=fun q hq=>(List.dropWhile_suffix _).subset (hs▸hq)
  rw[hs] at h
  cases s with
  | nil=>cases h
  | cons q s=>
   dsimp only at h;split at h
   ·cases h
   rcases List.mem_cons.1 hr with rfl|hr
   ·refine⟨q,hsub q bK,?_⟩;have hd:=List.head?_dropWhile_not (fun q:Ru=>decide (q.f1<r.f1)) o;rw[hs] at hd;simp at hd;exact hd
   obtain⟨q2,h2,h3⟩:=JO l _ h r hr;exact⟨q2,hsub q2 h2,h3⟩
theorem Qi {c:qF} {n m:Int} (h:gJ c.f1=some n) (ha:jm c.f2 16522=some m) (hw:gU c.f2 c.f1.f4=true) (hd:(c.f1.f5.length:Int)=m*512) :
  (∀r∈c.f2,0≤r.f1∧r.f1≤1048576)∧0≤c.f1.f3∧c.f1.f3≤1099511627776∧zB c.f2 c.f1.f3≤c.f1.f5.length:=by
 obtain⟨h0,h1,h2⟩:=xI h;obtain⟨a1,a2,a3,a4⟩:=xH h2 aj;obtain⟨b1,b2,b3,b4⟩:=xH ha aj;refine⟨fun r hr=>by have:=b4 r hr;omega,h0,by omega,?_⟩
 cases hn:c.f2.length with
 | zero=>
  rw[List.length_eq_zero_iff.1 hn]
  show (0:Int)≤_
  omega
 | succ k=>
  rw[zZ hn];obtain⟨q,hq,hle⟩:=JO _ _ hw (c.f2[k]'aj) (List.getElem_mem _);have h3:=a4 q hq;have h4:=b2 (fun e=>by rw[e] at hn;cases hn);omega
theorem NC {l:List Ru} {m:Int} (ha:jm l 16522=some m):0≤m∧m≤20000:=by
 obtain⟨b1,b2,b3,b4⟩:=xH ha aj
 by_cases hl:l=[]
 ·rw[hl] at ha;have h3:(some (0:Int))=some m:=ha;cases h3;omega
 have:=b3 hl;omega
theorem Ur (c:qF) (A4:Option Addr) (c4:Nat) (A5:Option Addr) (c5:Nat) (A6:Option Addr) (c6:Nat) (w:World) (h4:Kd.C dB w A4 c.f1.f4.length c.f1.f4) (l4:c.f1.f4.length≤c4) (h5:Kd.C (Kd.int .u8) w A5 c.f1.f5.length c.f1.f5) (l5:c.f1.f5.length≤c5)
  (h6:Kd.C dB w A6 c.f2.length c.f2) (l6:c.f2.length≤c6) (hl4:c.f1.f4.length≤140737488351232) (hl5:c.f1.f5.length≤140737488351232) (Si:c.f2.length≤140737488351232) :
  Calls Tryz.prog 102 #[.agg #[.int .i64 c.f0,.int .i64 c.f1.f0,.string c.f1.f1,.string c.f1.f2,.int .i64 c.f1.f3,.slice A4 c.f1.f4.length c4,.slice A5 c.f1.f5.length c5,.slice A6 c.f2.length c6]] w fun e w'=>e=.returned (.bool (kL c))∧Below w.heap.size w w':=by
 obtain⟨Y,hY⟩:∃Y,#[Value.int .i64 c.f0,.int .i64 c.f1.f0,.string c.f1.f1,.string c.f1.f2,.int .i64 c.f1.f3,.slice A4 c.f1.f4.length c4,.slice A5 c.f1.f5.length c5,.slice A6 c.f2.length c6]=Y:=⟨_,rfl⟩
 obtain⟨W1,hW1⟩:∃W1,w.alloc (.cells Y 31)=W1:=⟨_,rfl⟩
 have hbx:=bJ w (.cells Y 31);have hb0:=(Below.refl w.heap.size w).alloc (Nat.le_refl _) (.cells Y 31);rw[hW1] at hbx hb0
 have z1:W1.cell? ⟨w.heap.size,1,none⟩=some (.int .i64 c.f1.f0):=by rw[ak hbx,← hY];rfl
 have z2:W1.cell? ⟨w.heap.size,2,none⟩=some (.string c.f1.f1):=by rw[ak hbx,← hY];rfl
 have z3:W1.cell? ⟨w.heap.size,3,none⟩=some (.string c.f1.f2):=by rw[ak hbx,← hY];rfl
 have z4:W1.cell? ⟨w.heap.size,4,none⟩=some (.int .i64 c.f1.f3):=by rw[ak hbx,← hY];rfl
 have z5:W1.cell? ⟨w.heap.size,5,none⟩=some (.slice A4 c.f1.f4.length c4):=by rw[ak hbx,← hY];rfl
 have z6:W1.cell? ⟨w.heap.size,6,none⟩=some (.slice A5 c.f1.f5.length c5):=by rw[ak hbx,← hY];rfl
 have z7:W1.cell? ⟨w.heap.size,7,none⟩=some (.slice A6 c.f2.length c6):=by rw[ak hbx,← hY];rfl
 have hY8:Y.size=8:=by rw[← hY];rfl
 rw[hY]
 obtain⟨W2,hW2⟩:∃W2,W1.alloc (.cells #[.int .i64 c.f1.f0,.string c.f1.f1,.string c.f1.f2,.int .i64 c.f1.f3,.slice A4 c.f1.f4.length c4,.slice A5 c.f1.f5.length c5] 29)=W2:=⟨_,rfl⟩
 have Dc:=bJ W1 (.cells #[.int .i64 c.f1.f0,.string c.f1.f1,.string c.f1.f2,.int .i64 c.f1.f3,.slice A4 c.f1.f4.length c4,.slice A5 c.f1.f5.length c5] 29);have hb1:=(Below.refl W1.heap.size W1).alloc (Nat.le_refl _) (.cells #[.int .i64 c.f1.f0,.string c.f1.f1,.string c.f1.f2,.int .i64 c.f1.f3,.slice A4 c.f1.f4.length c4,.slice A5 c.f1.f5.length c5] 29);rw[hW2] at Dc hb1
 have x0:W2.cell? ⟨W1.heap.size,0,none⟩=some (.int .i64 c.f1.f0):=by rw[ak Dc];rfl
 have x2:W2.cell? ⟨W1.heap.size,2,none⟩=some (.string c.f1.f2):=by rw[ak Dc];rfl
 have x3:W2.cell? ⟨W1.heap.size,3,none⟩=some (.int .i64 c.f1.f3):=by rw[ak Dc];rfl
 have x4:W2.cell? ⟨W1.heap.size,4,none⟩=some (.slice A4 c.f1.f4.length c4):=by rw[ak Dc];rfl
 have x5:W2.cell? ⟨W1.heap.size,5,none⟩=some (.slice A5 c.f1.f5.length c5):=by rw[ak Dc];rfl
 have Bf:=ah.mk Dc;have HB:=ah.mk (hb0.trans (hb1.mono hb0.size));have HR4:=ah.mk (Kd.aC (Kd.aC h4 hb0) hb1);have nD:=ah.mk (Kd.aC (Kd.aC h5 hb0) hb1);have uj:=ah.mk (Kd.aC (Kd.aC h6 hb0) hb1);have z8:=au hb1 z7;have cc:=Db c.f1 A4 c4 (.slice A5 c.f1.f5.length c5) W2 HR4.out l4 hl4;clear hb0 hbx hb1 Dc h4 h5 h6 hY hY8
 go_enter Tryz.func102,Tryz.ntmps102
 go_upto_region 2 with (fail)
 try rw[hW2]
 clear hW1 hW2 z1 z2 z3 z4 z5 z6 z7
 cases hsz:gJ c.f1 with
 | none=>
  rw[hsz] at cc;simp only[Option.getD_none,Option.isSome_none,Option.getD_some,Option.isSome_some] at cc;have C:=ah.mk cc;have HE:=ah.mk (show kL c=false by unfold kL;rw[hsz]);clear cc hsz
  go_upto_region 3 with (first|(refine dX (.load 29 (.tmp 3)) rfl ?_;refine wpList_load_row rfl _ _ rfl W1.heap.size rfl 29 #[.int .i64 c.f1.f0,.string c.f1.f1,.string c.f1.f2,.int .i64 c.f1.f3,.slice A4 c.f1.f4.length c4,.slice A5 c.f1.f5.length c5] (0,0) _ Bf.out Tryz.underlying29 rfl aA ?_)|(go_at_call 133;refine C.out.mono ?_;rintro e w2 ⟨rfl,hb2⟩;have HB2:=ah.mk (HB.out.trans (hb2.mono HB.out.size));have y0:=au hb2 x0;have y2:=au hb2 x2;have y3:=au hb2 x3;have y4:=au hb2 x4;have y5:=au hb2 x5;have y7:=au hb2 z8;have HR4:=ah.mk (Kd.aC HR4.out hb2);have nD:=ah.mk (Kd.aC nD.out hb2);have uj:=ah.mk (Kd.aC uj.out hb2);clear hb2))
  go_wp2_with fail
  go_ret
  exact⟨by rw[HE.out];rfl,HB2.out⟩
 | some n=>
  rw[hsz] at cc;simp only[Option.getD_none,Option.isSome_none,Option.getD_some,Option.isSome_some] at cc;have C:=ah.mk cc;have Qh:=ah.mk hsz;have hn:=Bh hsz;clear cc hsz
  go_upto_region 3 with (first|(refine dX (.load 29 (.tmp 3)) rfl ?_;refine wpList_load_row rfl _ _ rfl W1.heap.size rfl 29 #[.int .i64 c.f1.f0,.string c.f1.f1,.string c.f1.f2,.int .i64 c.f1.f3,.slice A4 c.f1.f4.length c4,.slice A5 c.f1.f5.length c5] (0,0) _ Bf.out Tryz.underlying29 rfl aA ?_)|(go_at_call 133;refine C.out.mono ?_;rintro e w2 ⟨rfl,hb2⟩;have HB2:=ah.mk (HB.out.trans (hb2.mono HB.out.size));have y0:=au hb2 x0;have y2:=au hb2 x2;have y3:=au hb2 x3;have y4:=au hb2 x4;have y5:=au hb2 x5;have y7:=au hb2 z8;have HR4:=ah.mk (Kd.aC HR4.out hb2);have nD:=ah.mk (Kd.aC nD.out hb2);have uj:=ah.mk (Kd.aC uj.out hb2);clear hb2))
  clear x0 x2 x3 x4 x5 z8;by_cases k1:c.f1.f0=1
  ·have t1:(c.f1.f0 != 1)=false:=by rw[k1];rfl
   have K1:=ah.mk k1;clear k1;by_cases k2:c.f1.f2.size=0
   ·have t2:=Bg k2;have K2:=ah.mk k2;clear k2
    have HE0:=ah.mk (show kL c=(match jm c.f2 16522 with
     | none=>false
     | some all=>gU c.f2 c.f1.f4 && (decide ((c.f1.f5.length:Int)=all*512) && lZ c.f2 c.f1.f5 c.f1.f3)) by
      unfold kL;rw[Qh.out];dsimp only;rw[if_neg (by intro h;rcases h with h|h;exact h K1.out;exact h K2.out)]
      cases jm c.f2 16522 <;> rfl)
    obtain⟨ap,hap⟩:∃ap,jm c.f2 16522=ap:=⟨_,rfl⟩
    have HA:=ah.mk hap;rw[hap] at HE0
    cases ap with
    | none=>
     have HE:=ah.mk (show kL c=false from HE0.out);clear hap
     go_upto_region 6 with ((go_at_call 136;refine (uX A6 c6 c.f2 16522 _ uj.out l6 Si aj aj).mono ?_;rw[HA.out];simp only[Option.getD_none,Option.isSome_none,Option.getD_some,Option.isSome_some];rintro e w3 ⟨rfl,hb3⟩;have HB3:=ah.mk (HB2.out.trans (hb3.mono HB2.out.size));have q3:=au hb3 y3;have q4:=au hb3 y4;have q5:=au hb3 y5;have q7:=au hb3 y7;have HR4:=ah.mk (Kd.aC HR4.out hb3);have nD:=ah.mk (Kd.aC nD.out hb3);have uj:=ah.mk (Kd.aC uj.out hb3);clear hb3))
     go_wp2_with fail
     go_ret
     exact⟨by rw[HE.out];rfl,HB3.out⟩
    | some m=>
     have hm:=NC hap;clear hap
     obtain⟨wn,hwn⟩:∃b,gU c.f2 c.f1.f4=b:=⟨_,rfl⟩
     have HWN:=ah.mk hwn;clear hwn
     cases wn with
     | false=>
      have HE:=ah.mk (show kL c=false by rw[HE0.out];dsimp only;rw[HWN.out];rfl)
      go_upto_region 6 with ((go_at_call 136;refine (uX A6 c6 c.f2 16522 _ uj.out l6 Si aj aj).mono ?_;rw[HA.out];simp only[Option.getD_none,Option.isSome_none,Option.getD_some,Option.isSome_some];rintro e w3 ⟨rfl,hb3⟩;have HB3:=ah.mk (HB2.out.trans (hb3.mono HB2.out.size));have q3:=au hb3 y3;have q4:=au hb3 y4;have q5:=au hb3 y5;have q7:=au hb3 y7;have HR4:=ah.mk (Kd.aC HR4.out hb3);have nD:=ah.mk (Kd.aC nD.out hb3);have uj:=ah.mk (Kd.aC uj.out hb3);clear hb3))
      go_wp2_with (go_at_call 137;refine (Aa A6 c6 c.f2 A4 c4 c.f1.f4 _ uj.out l6 Si HR4.out l4 hl4).mono ?_;rw[HWN.out];rintro e w4 ⟨rfl,hb4⟩;have kJ:=ah.mk (HB3.out.trans (hb4.mono HB3.out.size));have r3:=au hb4 q3;have r5:=au hb4 q5;have r7:=au hb4 q7;have nD:=ah.mk (Kd.aC nD.out hb4);have uj:=ah.mk (Kd.aC uj.out hb4);clear hb4)
      go_ret
      exact⟨by rw[HE.out];rfl,kJ.out⟩
     | true=>
      by_cases hd:(c.f1.f5.length:Int)=m*512
      ·have hdb:((c.f1.f5.length:Int) == m*512)=true:=beq_iff_eq.2 hd;have Px:=ah.mk (Qi Qh.out HA.out HWN.out hd);have HE:=ah.mk (show kL c=lZ c.f2 c.f1.f5 c.f1.f3 by rw[HE0.out];dsimp only;rw[HWN.out,decide_eq_true hd];rfl);have HD:=ah.mk hd;clear hd
       go_upto_region 6 with ((go_at_call 136;refine (uX A6 c6 c.f2 16522 _ uj.out l6 Si aj aj).mono ?_;rw[HA.out];simp only[Option.getD_none,Option.isSome_none,Option.getD_some,Option.isSome_some];rintro e w3 ⟨rfl,hb3⟩;have HB3:=ah.mk (HB2.out.trans (hb3.mono HB2.out.size));have q3:=au hb3 y3;have q4:=au hb3 y4;have q5:=au hb3 y5;have q7:=au hb3 y7;have HR4:=ah.mk (Kd.aC HR4.out hb3);have nD:=ah.mk (Kd.aC nD.out hb3);have uj:=ah.mk (Kd.aC uj.out hb3);clear hb3))
       go_wp2_with (first|(go_at_call 137;refine (Aa A6 c6 c.f2 A4 c4 c.f1.f4 _ uj.out l6 Si HR4.out l4 hl4).mono ?_;rw[HWN.out];rintro e w4 ⟨rfl,hb4⟩;have kJ:=ah.mk (HB3.out.trans (hb4.mono HB3.out.size));have r3:=au hb4 q3;have r5:=au hb4 q5;have r7:=au hb4 q7;have nD:=ah.mk (Kd.aC nD.out hb4);have uj:=ah.mk (Kd.aC uj.out hb4);clear hb4)|(go_at_call 134;refine (JN A6 c6 c.f2 A5 c5 c.f1.f5 c.f1.f3 _ uj.out l6 Si nD.out l5 hl5 Px.out.1 Px.out.2.1 Px.out.2.2.1 Px.out.2.2.2).mono ?_;rintro e w5 ⟨rfl,hb5⟩;have kH:=ah.mk (kJ.out.trans (hb5.mono kJ.out.size));clear hb5))
       go_ret
       exact⟨by rw[HE.out];rfl,kH.out⟩
      have hdb:((c.f1.f5.length:Int) == m*512)=false:=beq_eq_false_iff_ne.2 hd;have HE:=ah.mk (show kL c=false by rw[HE0.out];dsimp only;rw[HWN.out,decide_eq_false hd];rfl);have HD:=ah.mk hd;clear hd
      go_upto_region 6 with ((go_at_call 136;refine (uX A6 c6 c.f2 16522 _ uj.out l6 Si aj aj).mono ?_;rw[HA.out];simp only[Option.getD_none,Option.isSome_none,Option.getD_some,Option.isSome_some];rintro e w3 ⟨rfl,hb3⟩;have HB3:=ah.mk (HB2.out.trans (hb3.mono HB2.out.size));have q3:=au hb3 y3;have q4:=au hb3 y4;have q5:=au hb3 y5;have q7:=au hb3 y7;have HR4:=ah.mk (Kd.aC HR4.out hb3);have nD:=ah.mk (Kd.aC nD.out hb3);have uj:=ah.mk (Kd.aC uj.out hb3);clear hb3))
      go_wp2_with (go_at_call 137;refine (Aa A6 c6 c.f2 A4 c4 c.f1.f4 _ uj.out l6 Si HR4.out l4 hl4).mono ?_;rw[HWN.out];rintro e w4 ⟨rfl,hb4⟩;have kJ:=ah.mk (HB3.out.trans (hb4.mono HB3.out.size));have r3:=au hb4 q3;have r5:=au hb4 q5;have r7:=au hb4 q7;have nD:=ah.mk (Kd.aC nD.out hb4);have uj:=ah.mk (Kd.aC uj.out hb4);clear hb4)
      go_ret
      exact⟨by rw[HE.out];rfl,kJ.out⟩
   have t2:=FM k2;have HE:=ah.mk (show kL c=false by unfold kL;rw[Qh.out];dsimp only;rw[if_pos (.inr k2)]);clear k2
   go_wp2_with fail
   go_ret
   exact⟨by rw[HE.out];rfl,HB2.out⟩
  have t1:(c.f1.f0 != 1)=true:=bne_iff_ne.2 k1;have HE:=ah.mk (show kL c=false by unfold kL;rw[Qh.out];dsimp only;rw[if_pos (.inl k1)]);clear k1
  go_wp2_with fail
  go_ret
  exact⟨by rw[HE.out];rfl,HB2.out⟩
theorem Sj:∀a b:List UInt8,(Op.bytesLess a b || a == b) = !(Op.bytesLess b a)
 | [],[]=>rfl
 | [],_::_=>rfl
 | _::_,[]=>rfl
 | x::a,y::b=>by
  have ih:=Sj a b;rw[Op.bytesLess,Op.bytesLess];by_cases h1:x<y
  ·have h2:¬y<x:=by intro h;exact absurd (UInt8.lt_trans h1 h) (UInt8.lt_irrefl _)
   have h3:¬x=y:=by intro h;subst h;exact UInt8.lt_irrefl _ h1
   have h4:¬y=x:=fun h=>h3 h.symm
   simp[h1,h2,h3,h4]
  by_cases h2:y<x
  ·have h3:¬x=y:=by intro h;subst h;exact UInt8.lt_irrefl _ h2
   simp[h1,h2,h3]
  have h3:x=y:=UInt8.le_antisymm (UInt8.not_lt.1 h2) (UInt8.not_lt.1 h1);subst h3
  simpa [h1] using ih
theorem Wu (b0 g0:Int) (A0:Option Addr) (c0:Nat) (l:List qF) (w:World) (hr:Kd.C IW w A0 l.length l) (hc:l.length≤c0) (hf:∀x∈l,uH x) (hl:l.length≤1048576) (h0:0≤b0) (h1:b0≤4294967295) (h2:0≤g0) (h3:g0≤4294967295) :
  Calls Tryz.prog 63 #[.agg #[.int .i64 b0,.int .i64 g0,.slice A0 l.length c0]] w fun e w'=>e=.returned (.bool (sU b0 g0 l))∧Below w.heap.size w w':=by
 obtain⟨P,hP⟩:∃P,#[Value.int .i64 b0,.int .i64 g0,.slice A0 l.length c0]=P:=⟨_,rfl⟩
 obtain⟨W0,hW0⟩:∃W0,w.alloc (.cells P 24)=W0:=⟨_,rfl⟩
 have hbx:=bJ w (.cells P 24);have hb0:=(Below.refl w.heap.size w).alloc (Nat.le_refl _) (.cells P 24);rw[hW0] at hbx hb0
 have p0:W0.cell? ⟨w.heap.size,0,none⟩=some (.int .i64 b0):=by rw[ak hbx,← hP];rfl
 have p1:W0.cell? ⟨w.heap.size,1,none⟩=some (.int .i64 g0):=by rw[ak hbx,← hP];rfl
 have p2:W0.cell? ⟨w.heap.size,2,none⟩=some (.slice A0 l.length c0):=by rw[ak hbx,← hP];rfl
 have hP3:P.size=3:=by rw[← hP];rfl
 rw[hP];have HR:=ah.mk (Kd.aC hr hb0);have HF:=ah.mk hf;have HB0:=ah.mk hb0
 have HD0:ah (sU b0 g0 l=gK ⟨#[]⟩ l):=⟨by unfold sU;rw[decide_eq_true h0,decide_eq_true h1,decide_eq_true h2,decide_eq_true h3];simp⟩
 have d0:decide (b0<0)=false:=decide_eq_false aj;have d1:decide (4294967295<b0)=false:=decide_eq_false aj;have d2:decide (g0<0)=false:=decide_eq_false aj;have d3:decide (4294967295<g0)=false:=decide_eq_false aj;clear hr hf hb0 hbx hP
 go_enter Tryz.func63,Tryz.ntmps63
 go_wp2_with fail
 try rw[hW0]
 clear hW0 d0 d1 d2 d3 hP3 p0 p1 p2
 go_loopg [3,29] l.length (fun g s3 s29 wx=>∃(i:Nat) (last:ByteArray),i+g=l.length∧s29=.int .i64 i∧s3=.string last∧ah (gK last (l.drop i)=gK ⟨#[]⟩ l)∧ah (Below w.heap.size w wx)∧ah (Below W0.heap.size W0 wx))
 case atStart=>exact⟨0,⟨#[]⟩,by omega,rfl,rfl,⟨by rw[List.drop_zero]⟩,HB0,⟨Below.refl _ _⟩⟩
 case round=>
  clear HB0;obtain⟨i,last,hig,rfl,rfl,HG,HBw,HB⟩:=hrel;by_cases hi:i<l.length
  ·have hd:decide ((i:Int)<(l.length:Int))=true:=decide_eq_true aj;have hd2:decide (i<l.length)=true:=decide_eq_true hi;obtain⟨ad,A4,c4,A5,c5,A6,c6,hA,r0,r1,r2,r3,r4,r5,r6,r7,l4,g4,l5,g5,l6,g6⟩:=Pz (Kd.aC HR.out HB.out) (i:Int) aj aj;rw[Int.toNat_natCast] at r0 r1 r2 r3 r4 r5 r6 r7
   have hrd:jL l (i:Int)=l[i]'hi:=by simp[jL,hi]
   have Sk:=ah.mk (HF.out (l[i]'hi) (List.getElem_mem hi));have hg0:=HG.out;rw[List.drop_eq_getElem_cons hi] at hg0
   obtain⟨c,hx⟩:∃c,l[i]'hi=c:=⟨_,rfl⟩
   rw[hrd,hx] at r0 r1 r2 r3 r4 r5 r6 r7 l4 g4 l5 g5 l6 g6;rw[hx] at hg0 Sk;rw[gK] at hg0;have Pw:=ah.mk hg0;subst hA;clear hrd hx hg0 HG
   obtain⟨W1,hW1⟩:∃W1,wr.alloc (.cells #[.int .i64 c.f0,.int .i64 c.f1.f0,.string c.f1.f1,.string c.f1.f2,.int .i64 c.f1.f3,.slice A4 c.f1.f4.length c4,.slice A5 c.f1.f5.length c5,.slice A6 c.f2.length c6] 31)=W1:=⟨_,rfl⟩
   have hbx:=bJ wr (.cells #[.int .i64 c.f0,.int .i64 c.f1.f0,.string c.f1.f1,.string c.f1.f2,.int .i64 c.f1.f3,.slice A4 c.f1.f4.length c4,.slice A5 c.f1.f5.length c5,.slice A6 c.f2.length c6] 31);have hb0:=(Below.refl wr.heap.size wr).alloc (Nat.le_refl _) (.cells #[.int .i64 c.f0,.int .i64 c.f1.f0,.string c.f1.f1,.string c.f1.f2,.int .i64 c.f1.f3,.slice A4 c.f1.f4.length c4,.slice A5 c.f1.f5.length c5,.slice A6 c.f2.length c6] 31);rw[hW1] at hbx hb0
   have z0:W1.cell? ⟨wr.heap.size,0,none⟩=some (.int .i64 c.f0):=by rw[ak hbx];rfl
   have z1:W1.cell? ⟨wr.heap.size,1,none⟩=some (.int .i64 c.f1.f0):=by rw[ak hbx];rfl
   have z2:W1.cell? ⟨wr.heap.size,2,none⟩=some (.string c.f1.f1):=by rw[ak hbx];rfl
   have z3:W1.cell? ⟨wr.heap.size,3,none⟩=some (.string c.f1.f2):=by rw[ak hbx];rfl
   have z4:W1.cell? ⟨wr.heap.size,4,none⟩=some (.int .i64 c.f1.f3):=by rw[ak hbx];rfl
   have z5:W1.cell? ⟨wr.heap.size,5,none⟩=some (.slice A4 c.f1.f4.length c4):=by rw[ak hbx];rfl
   have z6:W1.cell? ⟨wr.heap.size,6,none⟩=some (.slice A5 c.f1.f5.length c5):=by rw[ak hbx];rfl
   have z7:W1.cell? ⟨wr.heap.size,7,none⟩=some (.slice A6 c.f2.length c6):=by rw[ak hbx];rfl
   obtain⟨W2,hW2⟩:∃W2,W1.alloc (.cells #[.int .i64 c.f1.f0,.string c.f1.f1,.string c.f1.f2,.int .i64 c.f1.f3,.slice A4 c.f1.f4.length c4,.slice A5 c.f1.f5.length c5] 29)=W2:=⟨_,rfl⟩
   have Dc:=bJ W1 (.cells #[.int .i64 c.f1.f0,.string c.f1.f1,.string c.f1.f2,.int .i64 c.f1.f3,.slice A4 c.f1.f4.length c4,.slice A5 c.f1.f5.length c5] 29);have hb1:=(Below.refl W1.heap.size W1).alloc (Nat.le_refl _) (.cells #[.int .i64 c.f1.f0,.string c.f1.f1,.string c.f1.f2,.int .i64 c.f1.f3,.slice A4 c.f1.f4.length c4,.slice A5 c.f1.f5.length c5] 29);rw[hW2] at Dc hb1
   have x1:W2.cell? ⟨W1.heap.size,1,none⟩=some (.string c.f1.f1):=by rw[ak Dc];rfl
   have zz0:=au hb1 z0;have Yp:=ah.mk Dc;have HX1:=ah.mk (aG hbx hb1);have hbw:=hb0.trans (hb1.mono hb0.size);have HR4:=ah.mk (Kd.aC g4 hbw);have nD:=ah.mk (Kd.aC g5 hbw);have uj:=ah.mk (Kd.aC g6 hbw);have HBb:=ah.mk (HB.out.trans (hbw.mono HB.out.size));have Bf:=ah.mk (HBw.out.trans (hbw.mono HBw.out.size));clear g4 g5 g6 hb0 hb1 hbw hbx Dc
   obtain⟨wt,hwt⟩:∃b,fZ c.f1.f1=b:=⟨_,rfl⟩
   have HWT:=ah.mk hwt
   cases wt with
   | false=>
    have HN:ah (gK ⟨#[]⟩ l=false):=⟨by rw[← Pw.out,HWT.out];rfl⟩
    clear hwt
    go_wp2_with (go_at_call 100;refine (qI c.f1.f1 _ Sk.out.i.p).mono ?_;rw[HWT.out];rintro e w2 ⟨rfl,hb2⟩;have HB2:=ah.mk (Bf.out.trans (hb2.mono Bf.out.size));have MJ:=ah.mk hb2;have s1:=au hb2 x1;have s0:=au hb2 zz0;clear hb2)
    go_ret
    exact⟨by rw[HD0.out,HN.out];rfl,HB2.out⟩
   | true=>
    have hw1:=oW hwt;clear hwt
    obtain⟨lt,hlt⟩:∃b,YK last (CS c.f1.f1)=b:=⟨_,rfl⟩
    have HLT:=ah.mk hlt;have hlq:=(Sj (fV 47 0 c.f1.f1).toList last.toList).trans (by rw[show Op.bytesLess last.toList (fV 47 0 c.f1.f1).toList=lt from hlt])
    obtain⟨bx,hbx⟩:∃b,Op.bytesLess (fV 47 0 c.f1.f1).toList last.toList=b:=⟨_,rfl⟩
    obtain⟨bq,hbq⟩:∃b,((fV 47 0 c.f1.f1).toList == last.toList)=b:=⟨_,rfl⟩
    rw[hbx,hbq] at hlq;clear hlt
    cases lt with
    | false=>
     have HN:ah (gK ⟨#[]⟩ l=false):=⟨by rw[← Pw.out,HWT.out,HLT.out];rfl⟩
     cases bx with
     | true=>
      clear hlq
      go_wp2_with (first|(go_at_call 100;refine (qI c.f1.f1 _ Sk.out.i.p).mono ?_;rw[HWT.out];rintro e w2 ⟨rfl,hb2⟩;have HB2:=ah.mk (Bf.out.trans (hb2.mono Bf.out.size));have MJ:=ah.mk hb2;have s1:=au hb2 x1;have s0:=au hb2 zz0;clear hb2)|(go_at_call 88;refine (oH c.f1.f1 _ aj).mono ?_;rintro e w3 ⟨rfl,hb3⟩;have HB3:=ah.mk (HB2.out.trans (hb3.mono HB2.out.size));have K7:=ah.mk (MJ.out.trans (hb3.mono MJ.out.size));have q1:=au hb3 s1;have q0:=au hb3 s0;clear hb3))
      go_ret
      exact⟨by rw[HD0.out,HN.out];rfl,HB3.out⟩
     | false=>
      cases bq with
      | false=>cases hlq
      | true=>
       clear hlq
       go_wp2_with (first|(go_at_call 100;refine (qI c.f1.f1 _ Sk.out.i.p).mono ?_;rw[HWT.out];rintro e w2 ⟨rfl,hb2⟩;have HB2:=ah.mk (Bf.out.trans (hb2.mono Bf.out.size));have MJ:=ah.mk hb2;have s1:=au hb2 x1;have s0:=au hb2 zz0;clear hb2)|(go_at_call 88;refine (oH c.f1.f1 _ aj).mono ?_;rintro e w3 ⟨rfl,hb3⟩;have HB3:=ah.mk (HB2.out.trans (hb3.mono HB2.out.size));have K7:=ah.mk (MJ.out.trans (hb3.mono MJ.out.size));have q1:=au hb3 s1;have q0:=au hb3 s0;clear hb3))
       go_ret
       exact⟨by rw[HD0.out,HN.out];rfl,HB3.out⟩
    | true=>
     obtain⟨rfl,rfl⟩:bx=false∧bq=false:=by cases bx <;> cases bq <;> first|exact⟨rfl,rfl⟩|cases hlq
     clear hlq
     go_upto_block 2 with (first|(go_at_call 100;refine (qI c.f1.f1 _ Sk.out.i.p).mono ?_;rw[HWT.out];rintro e w2 ⟨rfl,hb2⟩;have HB2:=ah.mk (Bf.out.trans (hb2.mono Bf.out.size));have MJ:=ah.mk hb2;have s1:=au hb2 x1;have s0:=au hb2 zz0;clear hb2)|(go_at_call 88;refine (oH c.f1.f1 _ aj).mono ?_;rintro e w3 ⟨rfl,hb3⟩;have HB3:=ah.mk (HB2.out.trans (hb3.mono HB2.out.size));have K7:=ah.mk (MJ.out.trans (hb3.mono MJ.out.size));have q1:=au hb3 s1;have q0:=au hb3 s0;clear hb3)|(go_at_call 88;refine (oH c.f1.f1 _ aj).mono ?_;rintro e w4 ⟨rfl,hb4⟩;have kJ:=ah.mk (HB3.out.trans (hb4.mono HB3.out.size));have HM4:=ah.mk (K7.out.trans (hb4.mono K7.out.size));have v0:=au hb4 q0;clear hb4))
     have HBS:=ah.mk (HBb.out.trans (HM4.out.mono HBb.out.size))
     obtain⟨wb,rfl⟩:∃wb,wb=w4:=⟨_,rfl⟩
     have hx1:=aG HX1.out HM4.out;have hx2:=aG Yp.out HM4.out;have HR4:=ah.mk (Kd.aC HR4.out HM4.out);have nD:=ah.mk (Kd.aC nD.out HM4.out);have uj:=ah.mk (Kd.aC uj.out HM4.out);clear hW1 hW2 x1 s1 q1 r0 r1 r2 r3 r4 r5 r6 r7 z0 z1 z2 z3 z4 z5 z6 z7 hbx hbq s0 q0 v0 zz0
     have z0:wb.cell? ⟨wr.heap.size,0,none⟩=some (.int .i64 c.f0):=by rw[ak hx1];rfl
     have z1:wb.cell? ⟨wr.heap.size,1,none⟩=some (.int .i64 c.f1.f0):=by rw[ak hx1];rfl
     have z2:wb.cell? ⟨wr.heap.size,2,none⟩=some (.string c.f1.f1):=by rw[ak hx1];rfl
     have z3:wb.cell? ⟨wr.heap.size,3,none⟩=some (.string c.f1.f2):=by rw[ak hx1];rfl
     have z4:wb.cell? ⟨wr.heap.size,4,none⟩=some (.int .i64 c.f1.f3):=by rw[ak hx1];rfl
     have z5:wb.cell? ⟨wr.heap.size,5,none⟩=some (.slice A4 c.f1.f4.length c4):=by rw[ak hx1];rfl
     have z6:wb.cell? ⟨wr.heap.size,6,none⟩=some (.slice A5 c.f1.f5.length c5):=by rw[ak hx1];rfl
     have z7:wb.cell? ⟨wr.heap.size,7,none⟩=some (.slice A6 c.f2.length c6):=by rw[ak hx1];rfl
     have x0:wb.cell? ⟨W1.heap.size,0,none⟩=some (.int .i64 c.f1.f0):=by rw[ak hx2];rfl
     have x1:wb.cell? ⟨W1.heap.size,1,none⟩=some (.string c.f1.f1):=by rw[ak hx2];rfl
     have x2:wb.cell? ⟨W1.heap.size,2,none⟩=some (.string c.f1.f2):=by rw[ak hx2];rfl
     have x3:wb.cell? ⟨W1.heap.size,3,none⟩=some (.int .i64 c.f1.f3):=by rw[ak hx2];rfl
     have x4:wb.cell? ⟨W1.heap.size,4,none⟩=some (.slice A4 c.f1.f4.length c4):=by rw[ak hx2];rfl
     have x5:wb.cell? ⟨W1.heap.size,5,none⟩=some (.slice A5 c.f1.f5.length c5):=by rw[ak hx2];rfl
     have sZ:=ah.mk (Below.refl wb.heap.size wb);clear hx1 hx2
     go_cut [7] (fun v7 wd=>v7=.bool (lQ c)∧ah (Below wb.heap.size wb wd))
     case first=>
      by_cases k1:c.f0=1
      ·have t1:(c.f0 == 1)=true:=beq_iff_eq.2 k1;have HK:=ah.mk k1;clear k1;by_cases h0:c.f2.length=0
       ·have b0:((c.f2.length:Int) == 0)=true:=beq_iff_eq.2 aj;have G0:=ah.mk h0;clear h0;by_cases h1:c.f1.f0=0
        ·have b1:(c.f1.f0 == 0)=true:=beq_iff_eq.2 h1;have G1:=ah.mk h1;clear h1;by_cases h2:c.f1.f3=0
         ·have b2:(c.f1.f3 == 0)=true:=beq_iff_eq.2 h2;have G2:=ah.mk h2;clear h2;by_cases h3:c.f1.f2.size=0
          ·have b3:=Bg h3;have G3:=ah.mk h3;clear h3;by_cases h4:c.f1.f4.length=0
           ·have b4:((c.f1.f4.length:Int) == 0)=true:=beq_iff_eq.2 aj;have G4:=ah.mk h4;clear h4;by_cases h5:c.f1.f5.length=0
            ·have b5:((c.f1.f5.length:Int) == 0)=true:=beq_iff_eq.2 aj;have G5:=ah.mk h5;clear h5;have HE:=ah.mk (show lQ c=true by unfold lQ;rw[if_pos HK.out,decide_eq_true G0.out,decide_eq_true G1.out,decide_eq_true G2.out,decide_eq_true G3.out,decide_eq_true G4.out,decide_eq_true G5.out];rfl)
             go_wp2_with fail
             go_meet
             case rel=>exact⟨by rw[HE.out],sZ⟩
            have b5:((c.f1.f5.length:Int) == 0)=false:=beq_eq_false_iff_ne.2 aj;have HE:=ah.mk (show lQ c=false by unfold lQ;rw[if_pos HK.out,decide_eq_true G0.out,decide_eq_true G1.out,decide_eq_true G2.out,decide_eq_true G3.out,decide_eq_true G4.out,decide_eq_false h5];simp);clear h5
            go_wp2_with fail
            go_meet
            case rel=>exact⟨by rw[HE.out],sZ⟩
           have b4:((c.f1.f4.length:Int) == 0)=false:=beq_eq_false_iff_ne.2 aj;have HE:=ah.mk (show lQ c=false by unfold lQ;rw[if_pos HK.out,decide_eq_true G0.out,decide_eq_true G1.out,decide_eq_true G2.out,decide_eq_true G3.out,decide_eq_false h4];simp);clear h4
           go_wp2_with fail
           go_meet
           case rel=>exact⟨by rw[HE.out],sZ⟩
          have b3:=FM h3;have HE:=ah.mk (show lQ c=false by unfold lQ;rw[if_pos HK.out,decide_eq_true G0.out,decide_eq_true G1.out,decide_eq_true G2.out,decide_eq_false h3];simp);clear h3
          go_wp2_with fail
          go_meet
          case rel=>exact⟨by rw[HE.out],sZ⟩
         have b2:(c.f1.f3 == 0)=false:=beq_eq_false_iff_ne.2 h2;have HE:=ah.mk (show lQ c=false by unfold lQ;rw[if_pos HK.out,decide_eq_true G0.out,decide_eq_true G1.out,decide_eq_false h2];simp);clear h2
         go_wp2_with fail
         go_meet
         case rel=>exact⟨by rw[HE.out],sZ⟩
        have b1:(c.f1.f0 == 0)=false:=beq_eq_false_iff_ne.2 h1;have HE:=ah.mk (show lQ c=false by unfold lQ;rw[if_pos HK.out,decide_eq_true G0.out,decide_eq_false h1];simp);clear h1
        go_wp2_with fail
        go_meet
        case rel=>exact⟨by rw[HE.out],sZ⟩
       have b0:((c.f2.length:Int) == 0)=false:=beq_eq_false_iff_ne.2 aj;have HE:=ah.mk (show lQ c=false by unfold lQ;rw[if_pos HK.out,decide_eq_false h0];simp);clear h0
       go_wp2_with fail
       go_meet
       case rel=>exact⟨by rw[HE.out],sZ⟩
      have t1:(c.f0 == 1)=false:=beq_eq_false_iff_ne.2 k1;have Eo:=ah.mk k1;clear k1;by_cases k2:c.f0=2
      ·have t2:(c.f0 == 2)=true:=beq_iff_eq.2 k2;have HK:=ah.mk k2;clear k2;by_cases h0:c.f2.length=0
       ·have b0:((c.f2.length:Int) == 0)=true:=beq_iff_eq.2 aj;have HE:=ah.mk (show lQ c=jH c.f1 by unfold lQ;rw[if_neg Eo.out,if_pos HK.out,decide_eq_true h0];rfl);clear h0
        go_wp2_with (go_at_call 101;refine (Wo c.f1 A4 c4 A5 c5 _ HR4.out l4 nD.out l5 Sk.out.i Sk.out.i.r Sk.out.i.d aj).mono ?_;rintro e w6 ⟨rfl,hb6⟩;have sQ:=ah.mk hb6;clear hb6)
        go_meet
        case rel=>exact⟨by rw[HE.out],sQ⟩
       have b0:((c.f2.length:Int) == 0)=false:=beq_eq_false_iff_ne.2 aj;have HE:=ah.mk (show lQ c=false by unfold lQ;rw[if_neg Eo.out,if_pos HK.out,decide_eq_false h0];rfl);clear h0
       go_wp2_with fail
       go_meet
       case rel=>exact⟨by rw[HE.out],sZ⟩
      have t2:(c.f0 == 2)=false:=beq_eq_false_iff_ne.2 k2;have Fy:=ah.mk k2;clear k2;by_cases k3:c.f0=3
      ·have t3:(c.f0 == 3)=true:=beq_iff_eq.2 k3;have HE:=ah.mk (show lQ c=kL c by unfold lQ;rw[if_neg Eo.out,if_neg Fy.out,if_pos k3]);clear k3
       go_wp2_with (go_at_call 102;refine (Ur c A4 c4 A5 c5 A6 c6 _ HR4.out l4 nD.out l5 uj.out l6 Sk.out.i.r Sk.out.i.d Sk.out.s).mono ?_;rintro e w6 ⟨rfl,hb6⟩;have sQ:=ah.mk hb6;clear hb6)
       go_meet
       case rel=>exact⟨by rw[HE.out],sQ⟩
      have t3:(c.f0 == 3)=false:=beq_eq_false_iff_ne.2 k3;have HE:=ah.mk (show lQ c=false by unfold lQ;rw[if_neg Eo.out,if_neg Fy.out,if_neg k3]);clear k3
      go_wp2_with fail
      go_meet
      case rel=>exact⟨by rw[HE.out],sZ⟩
     case rest=>
      obtain⟨rfl,Wp⟩:=hcut;have kH:=ah.mk (kJ.out.trans (Wp.out.mono kJ.out.size));have sQ:=ah.mk (HBS.out.trans (Wp.out.mono HBS.out.size));clear Wp z0 z1 z2 z3 z4 z5 z6 z7 x0 x1 x2 x3 x4 x5 HR4 nD uj
      obtain⟨ok,hok⟩:∃b,lQ c=b:=⟨_,rfl⟩
      rw[hok];have HOK:=ah.mk hok;clear hok
      cases ok with
      | false=>
       have HN:ah (gK ⟨#[]⟩ l=false):=⟨by rw[← Pw.out,HWT.out,HLT.out,HOK.out];rfl⟩
       go_wp2_with fail
       go_ret
       exact⟨by rw[HD0.out,HN.out];rfl,kH.out⟩
      | true=>
       have HN:ah (gK (CS c.f1.f1) (l.drop (i+1))=gK ⟨#[]⟩ l):=⟨by rw[← Pw.out,HWT.out,HLT.out,HOK.out];rfl⟩
       go_wp2_with fail
       go_roundg (l.length - (i+1))
       case measure=>omega
       case rel=>exact⟨i+1,CS c.f1.f1,by omega,by first|rfl|simp,rfl,HN,kH,sQ⟩
  have hd:decide ((i:Int)<(l.length:Int))=false:=decide_eq_false aj
  have HN:ah (gK ⟨#[]⟩ l=true):=⟨by rw[← HG.out,List.drop_of_length_le aj];rfl⟩
  go_wp2_with fail
  go_ret
  exact⟨by rw[HD0.out,HN.out];rfl,HBw.out⟩
end Go.Proofs.YtknihldkhedpkaaGreatDoor
end
