import Derived.Test.YtknihldkhedpkaaGreatDoorYYG21
import Derived.Test.YtknihldkhedpkaaGreatDoorYYG20
import Derived.Test.YtknihldkhedpkaaGreatDoorYYG7
import Derived.Test.YtknihldkhedpkaaGreatDoorYYG12
import Derived.Test.YtknihldkhedpkaaGreatDoorYYG15
import Derived.Defers
import Derived.Recover
set_option linter.all false
set_option maxHeartbeats 16000000
set_option maxRecDepth 100000
section
namespace Go.Proofs.YtknihldkhedpkaaGreatDoor
open Go.RowKit Go.Lib
open Go.Proofs.YtknihldkhedpkaaGreatDoorW.PrintWords Go.Proofs.YtknihldkhedpkaaGreatDoorW.PrintLast Go.Proofs.YtknihldkhedpkaaGreatDoor.PT
theorem Cm (l:List Int) (i:Int) (hn:∀x,∃r,Ev (fun k=>aX.l0 k l x (wrap64 (i+1))) r):∀(d:Nat) (x j:Int),j+d=8→0≤j→∃r,Ev (fun k=>aX.l1 k l x i j) r
 | 0,x,j,h,h0=>by
  obtain⟨r,hr⟩:=hn x;refine⟨r,Ev.step (fun k=>?_) hr⟩;rw[aX.l1,if_neg (by omega)]
 | d+1,x,j,h,h0=>by
  have hw:wrap64 (j+1)=j+1:=by unfold wrap64;omega
  by_cases ht:Int.tmod x 2=1
  ·obtain⟨r,hr⟩:=Cm l i hn d (Go.bits .xor .i64 (wrap64 (Int.tdiv x 2)) 2197175160) (j+1) (by omega) (by omega);refine⟨r,Ev.step (fun k=>?_) hr⟩;rw[aX.l1,if_pos (by omega),if_pos ht,hw]
  ·obtain⟨r,hr⟩:=Cm l i hn d (wrap64 (Int.tdiv x 2)) (j+1) (by omega) (by omega);refine⟨r,Ev.step (fun k=>?_) hr⟩;rw[aX.l1,if_pos (by omega),if_neg ht,hw]
theorem Jo (l:List Int) (hl:l.length<9223372036854775807):∀(d:Nat) (x i:Int),i+d=l.length→0≤i→∃r,Ev (fun k=>aX.l0 k l x i) r
 | 0,x,i,h,h0=>by
  exact⟨Go.bits .xor .i64 x 4294967295,Ev.step (fun k=>by rw[aX.l0,if_neg (by omega)]) (Ev.now _)⟩
 | d+1,x,i,h,h0=>by
  have hw:wrap64 (i+1)=i+1:=by unfold wrap64;omega
  obtain⟨r,hr⟩:=Cm l i (fun y=>by rw[hw];exact Jo l hl d y (i+1) (by omega) (by omega)) 8 (Go.bits .xor .i64 x (wrap64 (rd l i))) 0 (by omega) (by omega);refine⟨r,Ev.step (fun k=>?_) hr⟩;rw[aX.l0,if_pos (by omega),if_pos h0]
theorem Vb (l:List Int) (hl:l.length<9223372036854775807):∃r,Ev (fun k=>gT.f k l) r:=by
 obtain⟨r,hr⟩:=Jo l hl l.length 4294967295 0 (by omega) (by omega);exact⟨r,Ev.bind hr (Ev.now _)⟩
theorem Pj (a b:Int):0≤Go.bits .xor .u8 a b∧Go.bits .xor .u8 a b≤255:=by
 have:Go.bits .xor .u8 a b=IntKind.u8.wrap _:=rfl;rw[this,IntKind.wrap_u8];omega
theorem sw {r:List Int} {x:Int} (h:∀x∈r,0≤x∧x≤255) (hx:0≤x∧x≤255):∀y∈r++[x],0≤y∧y≤255:=fun y hy=>by
 rcases List.mem_append.1 hy with hy|hy
 ·exact h y hy
 ·rw[List.mem_singleton.1 hy];exact hx
def akt (w:World) (n:Nat) (e:Ending) (w':World):Prop:=∃(A:Option Addr) (r:List Int) (c:Nat),e=.returned (.slice A r.length c)∧r.length≤c∧r.length≤n∧(∀x∈r,0≤x∧x≤255)∧Kd.C (Kd.int .u8) w' A r.length r∧Below w.heap.size w w'
theorem Pm (A0:Option Addr) (c0:Nat) (l:List Int) (kd a vv:Int) (bk sm:Bool) (w:World) (hr:Kd.C (Kd.int .u8) w A0 l.length l) (hc:l.length≤c0) (hl:l.length≤33554432) (hb:∀x∈l,0≤x∧x≤255) :
  Calls Tryz.prog 16 #[.slice A0 l.length c0,.agg #[.int .i64 kd,.int .i64 a,.int .i64 vv,.bool bk,.bool sm]] w fun e w'=>akt w (l.length+1) e w':=by
 obtain⟨W1,hW1⟩:∃W1,w.alloc (.cells #[.int .i64 kd,.int .i64 a,.int .i64 vv,.bool bk,.bool sm] 44)=W1:=⟨_,rfl⟩
 have hb1:=(Below.refl w.heap.size w).alloc (Nat.le_refl _) (.cells #[.int .i64 kd,.int .i64 a,.int .i64 vv,.bool bk,.bool sm] 44);have hk1:=bK w (.cells #[.int .i64 kd,.int .i64 a,.int .i64 vv,.bool bk,.bool sm] 44);rw[hW1] at hb1 hk1;have HB1:=ah.mk hb1;have jC:=ah.mk hk1;have HR:=ah.mk hr;have Xf:=ah.mk hb;clear hb1 hk1 hr hb;by_cases h0:l.length=0
 ·have d0:((l.length:Int) == 0)=true:=by rw[h0];rfl
  have HC:=ah.mk (Kd.aC HR.out HB1.out)
  go_enter Tryz.func16,Tryz.ntmps16
  go_wp2_with fail
  go_ret
  exact⟨A0,l,c0,by simp,hc,by omega,Xf.out,HC.out,HB1.out⟩
 ·have d0:((l.length:Int) == 0)=false:=beq_eq_false_iff_ne.2 (by omega);have d1:decide ((l.length:Int)=0)=false:=decide_eq_false (by omega);have k0:W1.cell? ⟨w.heap.size,0,none⟩=some (.int .i64 kd):=ak jC.out 0;have k1:W1.cell? ⟨w.heap.size,1,none⟩=some (.int .i64 a):=ak jC.out 1;have k3:W1.cell? ⟨w.heap.size,3,none⟩=some (.bool bk):=ak jC.out 3
  go_enter Tryz.func16,Tryz.ntmps16
  go_upto_if 20 with (fail)
  go_cut [5] (fun v5 wc=>∃p:Int,v5=.int .i64 p∧wc=W1)
  case first=>
   by_cases hq:a.tmod (l.length:Int)<0
   ·have e1:decide (a.tmod (l.length:Int)<0)=true:=decide_eq_true hq
    go_wp2_with fail
    go_meet
    case rel=>exact⟨_,rfl,rfl⟩
   ·have e1:decide (a.tmod (l.length:Int)<0)=false:=decide_eq_false hq
    go_wp2_with fail
    go_meet
    case rel=>exact⟨_,rfl,rfl⟩
  case rest=>
   obtain⟨p,rfl,hWc⟩:=hcut;obtain rfl:W1=wc:=hWc.symm
   go_upto_if 26 with (fail)
   go_cut [5] (fun v5 wc=>∃p:Int,v5=.int .i64 p∧wc=W1)
   case first=>
    cases bk with
    | true=>
     go_wp2_with fail
     go_meet
     case rel=>exact⟨_,rfl,rfl⟩
    | false=>
     go_wp2_with fail
     go_meet
     case rel=>exact⟨_,rfl,rfl⟩
   case rest=>
    obtain⟨p,rfl,hWc⟩:=hcut;obtain rfl:W1=wc:=hWc.symm;have HB0:=ah.mk HB1.out;have Ld:=ah.mk jC.out;clear k0 k1 k3 HB1 jC
    go_upto_region 10 with (fail)
    go_loopg [6,7] l.length (fun g s6 s7 wx=>∃(i:Nat) (Ar:Option Addr) (cr:Nat) (r:List Int),i+g=l.length∧s7=.int .i64 i∧s6=.slice Ar r.length cr∧ah (r.length≤i+(if p<(i:Int) then 1 else 0))∧ah (∀x∈r,0≤x∧x≤255)∧ah (Kd.R (Kd.int .u8) 5 wx w.heap.size (fun _=>True) (.slice Ar r.length cr) r)∧ah (Below w.heap.size w wx)∧ah (wx.heap[w.heap.size]?=some (.cells #[.int .i64 kd,.int .i64 a,.int .i64 vv,.bool bk,.bool sm] 44 (0,0))))
    case atStart=>exact⟨0,none,0,[],by omega,rfl,rfl,⟨by simp⟩,⟨fun x hx=>by cases hx⟩,⟨Kd.fA _ _ _ _ _⟩,HB0,Ld⟩
    case round=>
     obtain⟨i,Ar,cr,r,hig,rfl,rfl,HL,HY,HR2,HB2,iK⟩:=hrel;clear HB0 Ld
     have hrl:r.length≤33554434:=by have:=HL.out;split at this <;> omega
     by_cases hi:i<l.length
     ·have hd:decide ((i:Int)<(l.length:Int))=true:=decide_eq_true (by omega);have hd2:decide (i<l.length)=true:=decide_eq_true hi;obtain⟨ad,hA,hxw⟩:=Kd.rU HR.out (i:Int) (by omega) (by omega)
      have hrd:rd l (i:Int)=l[i]:=by simp[rd,hi]
      rw[hrd,Int.toNat_natCast] at hxw;subst hA;have hx0:=(HB2.out.cell (World.block_lt_of_cell? w _ hxw)).trans hxw;have HXW:=ah.mk hxw;clear hxw;have k0:wr.cell? ⟨w.heap.size,0,none⟩=some (.int .i64 kd):=ak iK.out 0;have k2:wr.cell? ⟨w.heap.size,2,none⟩=some (.int .i64 vv):=ak iK.out 2;have LR:=ah.mk hrl;have TR:=ah.mk (sw HY.out (Xf.out _ (List.getElem_mem hi)));have HY2:=ah.mk (sw TR.out (Xf.out _ (List.getElem_mem hi)));by_cases hip:(i:Int)=p
      ·subst hip;by_cases h1:kd=1
       ·have f1:(kd == 1)=true:=beq_iff_eq.2 h1
        go_wp2_with fail
        go_roundg (l.length - (i+1))
        case measure=>omega
        case rel=>exact⟨i+1,Ar,cr,r,by omega,by first|rfl|(push_cast;rfl)|simp,by first|rfl|simp,⟨by have:=HL.out;split at this <;> split <;> omega⟩,HY,HR2,HB2,iK⟩
       ·have f1:(kd == 1)=false:=beq_eq_false_iff_ne.2 h1;by_cases h2:kd=2
        ·have f2:(kd == 2)=true:=beq_iff_eq.2 h2;clear h1 h2;have tok:=ah.mk True.intro
         go_wp2_with (first|(have _t:=tok;((with_reducible refine dn (b:=.append) (xs:=#[.tmp 63,.tmp 68]) rfl ?_);at_builtin;refine Kd.jy (Kd.int .u8) (w0:=w) w.heap.size rfl (.tmp 63) (.tmp 68) 27 5 (.int .u8 0) 1 rfl Tryz.underlying27 info5 rfl (by decide) (by omega) (.slice Ar r.length cr) r (l[i]) [.int .u8 (l[i])] (fun _=>True) (fun _=>False) rfl rfl ?aP (fun _ hk=>hk.elim) (fun _ _=>trivial) HR2.out HB2.out HB2.out.size (by have:=LR.out;(try simp only[List.length_append,List.length_cons,List.length_nil]);omega) ?_;(case aP=>exact rfl);intro v5 w5 jR hb5 hg5 mK;obtain⟨R5,hR5⟩:∃R5,r++[l[i]]=R5:=⟨_,rfl⟩;rw[hR5] at jR;have HE5:=ah.mk hR5;have LR5:=ah.mk (show R5.length≤33554435 by rw[← hR5,List.length_append];have:=LR.out;simp only[List.length_cons,List.length_nil];omega);clear hR5;obtain⟨Vd,Ve,hv5⟩:=Kd.bH jR;subst hv5;have kE:=ah.mk jR;have iV:=ah.mk hb5;have oV:=ah.mk (gB iK.out hg5 (Kd.pV HR2.out iK.out (by decide)));clear jR hb5 hg5 mK);have hx5:=(iV.out.cell (World.block_lt_of_cell? w _ HXW.out)).trans HXW.out;clear tok)|((with_reducible refine dn (b:=.append) (xs:=#[.tmp 70,.tmp 75]) rfl ?_);at_builtin;refine Kd.jy (Kd.int .u8) (w0:=w) w.heap.size rfl (.tmp 70) (.tmp 75) 27 5 (.int .u8 0) 1 rfl Tryz.underlying27 info5 rfl (by decide) (by omega) (.slice Vd R5.length Ve) R5 (l[i]) [.int .u8 (l[i])] (fun _=>True) (fun _=>False) rfl rfl ?aP (fun _ hk=>hk.elim) (fun _ _=>trivial) kE.out iV.out iV.out.size (by have:=LR5.out;(try simp only[List.length_append,List.length_cons,List.length_nil]);omega) ?_;(case aP=>exact rfl);intro v6 w6 hr6 hb6 hg6 mK;obtain⟨Ar6,cr6,hv6⟩:=Kd.bH hr6;subst hv6;have sF:=ah.mk hr6;have qd:=ah.mk hb6;have zF:=ah.mk (gB oV.out hg6 (Kd.pV kE.out oV.out (by decide)));clear hr6 hb6 hg6 mK))
         have HYR:=ah.mk (sw (HE5.out▸TR.out) (Xf.out _ (List.getElem_mem hi)))
         have HLR:ah ((R5++[l[i]]).length≤(i+1)+(if ((i:Int))<(((i+1:Nat)):Int) then 1 else 0)):=⟨by
          have h5:=congrArg List.length HE5.out;have:=HL.out;rw[List.length_append] at h5 ⊢;simp only[List.length_cons,List.length_nil] at h5 ⊢
          split at this <;> split <;> omega⟩
         go_roundg (l.length - (i+1))
         case measure=>omega
         case rel=>exact⟨i+1,Ar6,cr6,R5++[l[i]],by omega,by first|rfl|(push_cast;rfl)|simp,by first|rfl|simp,HLR,HYR,sF,qd,zF⟩
        ·have f2:(kd == 2)=false:=beq_eq_false_iff_ne.2 h2;by_cases h3:kd=3
         ·have f3:(kd == 3)=true:=beq_iff_eq.2 h3;clear h1 h2 h3
          go_wp2_with fail
          go_roundg (l.length - (i+1))
          case measure=>omega
          case rel=>exact⟨i+1,Ar,cr,r,by omega,by first|rfl|(push_cast;rfl)|simp,by first|rfl|simp,⟨by have:=HL.out;split at this <;> split <;> omega⟩,HY,HR2,HB2,iK⟩
         ·have f3:(kd == 3)=false:=beq_eq_false_iff_ne.2 h3;by_cases h4:kd=0
          ·have f4:(kd == 0)=true:=beq_iff_eq.2 h4;clear h1 h2 h3 h4
           go_wp2_with fail
           have hdr:=bC (Below.refl wr.heap.size wr)
           have hS:wr.drew.cell? (ad.add i)=some (.int .u8 l[i])∧wr.drew.cell? ⟨w.heap.size,2,none⟩=some (.int .i64 vv):=⟨aj hdr hx0,aj hdr k2⟩
           obtain⟨Wd,hWd⟩:∃Wd,wr.drew=Wd:=⟨_,rfl⟩
           have hdb:Below wr.heap.size wr Wd:=hWd▸hdr;have Si:=ah.mk (Kd.dh HR2.out hdb);have TQ:=ah.mk (HB2.out.trans (hdb.mono HB2.out.size));have Hy:=ah.mk (aD iK.out hdb);clear hdr hdb hx0 k0 k2;refine kW (n:=12) (S:=fun w'=>w'.cell? (ad.add i)=some (.int .u8 l[i])∧w'.cell? ⟨w.heap.size,2,none⟩=some (.int .i64 vv)) (ds:=[10]) #[false,false,false,false,false,false,false,false,false,false,false,false] (by kernel_rfl) rfl rfl hS (fun hHeld=>?_);rw[hWd] at hHeld ⊢;clear hWd hS;refine bA (i:=0) (N:=some 95) (v:=?_) (a':=?_) #[true,false,false,false,false,false,false,false,false,false,false,false] rfl rfl (by kernel_rfl) (fun _ _ _ h=>h) (Or.inl ⟨by rfl,?_⟩) ?_ ?_;rotate_left
           ·intro w'
            go_simp
            with_reducible rfl
           rotate_left
           ·simp only[Act.put,aYa,aYb,aYc,aG,aH];rfl
           refine bA (i:=1) (N:=some 96) (v:=?_) (a':=?_) #[true,true,false,false,false,false,false,false,false,false,false,false] rfl rfl (by kernel_rfl) (fun _ _ _ h=>h) (Or.inl ⟨by rfl,?_⟩) ?_ ?_;rotate_left
           ·intro w'
            go_simp
            with_reducible rfl
           rotate_left
           ·simp only[Act.put,aYa,aYb,aYc,aG,aH];rfl
           refine bA (i:=2) (N:=some 97) (v:=?_) (a':=?_) #[true,true,true,false,false,false,false,false,false,false,false,false] rfl rfl (by kernel_rfl) (fun _ _ _ h=>h) (Or.inl ⟨by rfl,?_⟩) ?_ ?_;rotate_left
           ·intro w'
            go_simp
            with_reducible rfl
           rotate_left
           ·simp only[Act.put,aYa,aYb,aYc,aG,aH];rfl
           refine bA (i:=3) (N:=some 98) (v:=?_) (a':=?_) #[true,true,true,true,false,false,false,false,false,false,false,false] rfl rfl (by kernel_rfl) (fun _ _ _ h=>h) (Or.inl ⟨by rfl,?_⟩) ?_ ?_;rotate_left
           ·intro w'
            go_simp
            with_reducible rfl
           rotate_left
           ·simp only[Act.put,aYa,aYb,aYc,aG,aH];rfl
           refine dM (i:=4) (N:=some 99) (v:=?_) (a':=?_) #[true,true,true,true,true,false,false,false,false,false,false,false] rfl rfl (by kernel_rfl) (fun _ _ _ h=>h) (Or.inl ⟨by rfl,?_⟩) hHeld ?_ ?_;rotate_left
           ·rintro w' ⟨s0,s1⟩
            go_simp
            with_reducible rfl
           rotate_left
           ·simp only[Act.put,aYa,aYb,aYc,aG,aH];rfl
           refine bA (i:=5) (N:=some 100) (v:=?_) (a':=?_) #[true,true,true,true,true,true,false,false,false,false,false,false] rfl rfl (by kernel_rfl) (fun _ _ _ h=>h) (Or.inl ⟨by rfl,?_⟩) ?_ ?_;rotate_left
           ·intro w'
            go_simp
            with_reducible rfl
           rotate_left
           ·simp only[Act.put,aYa,aYb,aYc,aG,aH];rfl
           refine dM (i:=6) (N:=some 101) (v:=?_) (a':=?_) #[true,true,true,true,true,true,true,false,false,false,false,false] rfl rfl (by kernel_rfl) (fun _ _ _ h=>h) (Or.inl ⟨by rfl,?_⟩) hHeld ?_ ?_;rotate_left
           ·rintro w' ⟨s0,s1⟩
            go_simp
            with_reducible rfl
           rotate_left
           ·simp only[Act.put,aYa,aYb,aYc,aG,aH];rfl
           refine bA (i:=7) (N:=some 102) (v:=?_) (a':=?_) #[true,true,true,true,true,true,true,true,false,false,false,false] rfl rfl (by kernel_rfl) (fun _ _ _ h=>h) (Or.inl ⟨by rfl,?_⟩) ?_ ?_;rotate_left
           ·intro w'
            go_simp
            with_reducible rfl
           rotate_left
           ·simp only[Act.put,aYa,aYb,aYc,aG,aH];rfl
           refine bA (i:=8) (N:=some 103) (v:=?_) (a':=?_) #[true,true,true,true,true,true,true,true,true,false,false,false] rfl rfl (by kernel_rfl) (fun _ _ _ h=>h) (Or.inl ⟨by rfl,?_⟩) ?_ ?_;rotate_left
           ·intro w'
            go_simp
            with_reducible rfl
           rotate_left
           ·simp only[Act.put,aYa,aYb,aYc,aG,aH];rfl
           refine kg (i:=9) (N:=some 104) #[true,true,true,true,true,true,true,true,true,true,false,false] rfl rfl (by kernel_rfl) (by decide) (fun K hK=>?_);refine nD (v:=.slice (some ⟨Wd.heap.size,0,none⟩) 1 1) (w1:=Wd.alloc (.cells #[.int .u8 (Go.bits .xor .u8 l[i] (IntKind.u8.wrap vv))] 5)) (by rfl) rfl ?_ ?_
           ·go_simp
            try rfl
           have hal:=(Below.refl Wd.heap.size Wd).alloc (Nat.le_refl _) (.cells #[.int .u8 (Go.bits .xor .u8 l[i] (IntKind.u8.wrap vv))] 5);refine hK.out _ _ ⟨aj hal hHeld.1,aj hal hHeld.2⟩ (fun hHeld=>?_);clear hK K hal;refine eB (a':=?_) ?_ ?_;rotate_left
           ·show Act.put _ (some 104) _=_
            simp only[Act.put,aYa,aYb,aYc,aG,aH];rfl
           refine kC (i:=10) (N:=some 105) #[true,true,true,true,true,true,true,true,true,true,true,false] rfl rfl (by kernel_rfl) (by decide) (fun K hK=>?_);refine Kd.ji (Kd.int .u8) (w0:=w) w.heap.size (by rfl) (.tmp 95) (.tmp 104) 27 5 (.int .u8 0) 1 rfl Tryz.underlying27 info5 rfl (by show 0<1;decide) (by decide) (.slice Ar r.length cr) r (Go.bits .xor .u8 l[i] (IntKind.u8.wrap vv)) [.int .u8 (Go.bits .xor .u8 l[i] (IntKind.u8.wrap vv))] (fun _=>True) (fun _=>False) rfl rfl rfl (fun _ hk=>hk.elim) (fun _ _=>trivial) Si.out TQ.out TQ.out.size (by have:=LR.out;omega) ?_;intro v5 w5 jR hb5 hg5 mK;obtain⟨Vd,Ve,hv5⟩:=Kd.bH jR;subst hv5;have kE:=ah.mk jR;have iV:=ah.mk hb5;have oV:=ah.mk (gB Hy.out hg5 (Kd.pV Si.out Hy.out (by decide)));clear jR hb5 hg5 mK;refine hK.out _ _ ?_;clear hK K hHeld;refine eB (a':=?_) ?_ ?_;rotate_left
           ·show Act.put _ (some 105) _=_
            simp only[Act.put,aYa,aYb,aYc,aG,aH];rfl
           refine bA (i:=11) (N:=some 6) (v:=?_) (a':=?_) #[true,true,true,true,true,true,true,true,true,true,true,true] rfl rfl (by kernel_rfl) (fun _ _ _ h=>h) (Or.inl ⟨by rfl,?_⟩) ?_ ?_;rotate_left
           ·intro w'
            go_simp
            with_reducible rfl
           rotate_left
           ·simp only[Act.put,aYa,aYb,aYc,aG,aH];rfl
           refine ku (by kernel_rfl) ?_;have HYX:=ah.mk (sw HY.out (x:=(Go.bits .xor .u8 l[i] (IntKind.u8.wrap vv))) (Pj _ _))
           go_wp2_with fail
           go_roundg (l.length - (i+1))
           case measure=>omega
           case rel=>exact⟨i+1,Vd,Ve,r++[(Go.bits .xor .u8 l[i] (IntKind.u8.wrap vv))],by omega,by first|rfl|(push_cast;rfl)|simp,by first|rfl|simp,⟨by rw[List.length_append];have:=HL.out;simp only[List.length_cons,List.length_nil];split at this <;> split <;> omega⟩,HYX,kE,iV,oV⟩
          ·have f4:(kd == 0)=false:=beq_eq_false_iff_ne.2 h4;clear h1 h2 h3 h4
           go_wp2_with ((with_reducible refine dn (b:=.append) (xs:=#[.tmp 38,.tmp 43]) rfl ?_);at_builtin;refine Kd.jy (Kd.int .u8) (w0:=w) w.heap.size rfl (.tmp 38) (.tmp 43) 27 5 (.int .u8 0) 1 rfl Tryz.underlying27 info5 rfl (by decide) (by omega) (.slice Ar r.length cr) r (l[i]) [.int .u8 (l[i])] (fun _=>True) (fun _=>False) rfl rfl ?aP (fun _ hk=>hk.elim) (fun _ _=>trivial) HR2.out HB2.out HB2.out.size (by have:=LR.out;(try simp only[List.length_append,List.length_cons,List.length_nil]);omega) ?_;(case aP=>exact rfl);intro v5 w5 jR hb5 hg5 mK;obtain⟨Vd,Ve,hv5⟩:=Kd.bH jR;subst hv5;have kE:=ah.mk jR;have iV:=ah.mk hb5;have oV:=ah.mk (gB iK.out hg5 (Kd.pV HR2.out iK.out (by decide)));clear jR hb5 hg5 mK)
           go_roundg (l.length - (i+1))
           case measure=>omega
           case rel=>exact⟨i+1,Vd,Ve,r++[l[i]],by omega,by first|rfl|(push_cast;rfl)|simp,by first|rfl|simp,⟨by rw[List.length_append];have:=HL.out;simp only[List.length_cons,List.length_nil];split at this <;> split <;> omega⟩,TR,kE,iV,oV⟩
      ·have e1:((i:Int) == p)=false:=beq_eq_false_iff_ne.2 hip
       by_cases h3:p≤(i:Int)
       ·have e2:decide (p≤(i:Int))=true:=decide_eq_true h3;by_cases h4:kd=3
        ·have f3:(kd == 3)=true:=beq_iff_eq.2 h4;clear h4
         go_wp2_with fail
         go_roundg (l.length - (i+1))
         case measure=>omega
         case rel=>exact⟨i+1,Ar,cr,r,by omega,by first|rfl|(push_cast;rfl)|simp,by first|rfl|simp,⟨by have:=HL.out;split at this <;> split <;> omega⟩,HY,HR2,HB2,iK⟩
        ·have f3:(kd == 3)=false:=beq_eq_false_iff_ne.2 h4;clear h4
         go_wp2_with ((with_reducible refine dn (b:=.append) (xs:=#[.tmp 38,.tmp 43]) rfl ?_);at_builtin;refine Kd.jy (Kd.int .u8) (w0:=w) w.heap.size rfl (.tmp 38) (.tmp 43) 27 5 (.int .u8 0) 1 rfl Tryz.underlying27 info5 rfl (by decide) (by omega) (.slice Ar r.length cr) r (l[i]) [.int .u8 (l[i])] (fun _=>True) (fun _=>False) rfl rfl ?aP (fun _ hk=>hk.elim) (fun _ _=>trivial) HR2.out HB2.out HB2.out.size (by have:=LR.out;(try simp only[List.length_append,List.length_cons,List.length_nil]);omega) ?_;(case aP=>exact rfl);intro v5 w5 jR hb5 hg5 mK;obtain⟨Vd,Ve,hv5⟩:=Kd.bH jR;subst hv5;have kE:=ah.mk jR;have iV:=ah.mk hb5;have oV:=ah.mk (gB iK.out hg5 (Kd.pV HR2.out iK.out (by decide)));clear jR hb5 hg5 mK)
         go_roundg (l.length - (i+1))
         case measure=>omega
         case rel=>exact⟨i+1,Vd,Ve,r++[l[i]],by omega,by first|rfl|(push_cast;rfl)|simp,by first|rfl|simp,⟨by rw[List.length_append];have:=HL.out;simp only[List.length_cons,List.length_nil];split at this <;> split <;> omega⟩,TR,kE,iV,oV⟩
       ·have e2:decide (p≤(i:Int))=false:=decide_eq_false h3
        go_wp2_with ((with_reducible refine dn (b:=.append) (xs:=#[.tmp 38,.tmp 43]) rfl ?_);at_builtin;refine Kd.jy (Kd.int .u8) (w0:=w) w.heap.size rfl (.tmp 38) (.tmp 43) 27 5 (.int .u8 0) 1 rfl Tryz.underlying27 info5 rfl (by decide) (by omega) (.slice Ar r.length cr) r (l[i]) [.int .u8 (l[i])] (fun _=>True) (fun _=>False) rfl rfl ?aP (fun _ hk=>hk.elim) (fun _ _=>trivial) HR2.out HB2.out HB2.out.size (by have:=LR.out;(try simp only[List.length_append,List.length_cons,List.length_nil]);omega) ?_;(case aP=>exact rfl);intro v5 w5 jR hb5 hg5 mK;obtain⟨Vd,Ve,hv5⟩:=Kd.bH jR;subst hv5;have kE:=ah.mk jR;have iV:=ah.mk hb5;have oV:=ah.mk (gB iK.out hg5 (Kd.pV HR2.out iK.out (by decide)));clear jR hb5 hg5 mK)
        go_roundg (l.length - (i+1))
        case measure=>omega
        case rel=>exact⟨i+1,Vd,Ve,r++[l[i]],by omega,by first|rfl|(push_cast;rfl)|simp,by first|rfl|simp,⟨by rw[List.length_append];have:=HL.out;simp only[List.length_cons,List.length_nil];split at this <;> split <;> omega⟩,TR,kE,iV,oV⟩
     ·obtain rfl:i=l.length:=by omega
      have hrl2:r.length≤l.length+1:=by have:=HL.out;split at this <;> omega
      have k4:wr.cell? ⟨w.heap.size,4,none⟩=some (.bool sm):=ak iK.out 4;have Dn:=ah.mk (Kd.dB HR2.out);by_cases hs:sm=true∧4≤r.length
      ·obtain⟨rfl,h4⟩:=hs;have e4:decide ((4:Int)≤(r.length:Int))=true:=decide_eq_true (by omega);have e5:decide (4≤r.length)=true:=decide_eq_true h4;have hcap:=Dn.out.2.1
       have hwp:IntKind.i64.wrap ((r.length:Int) - 4)=(r.length:Int) - 4:=by rw[IntKind.wrap_i64];omega
       have q0:(0:Int)≤(r.length:Int) - 4:=by omega
       have q1:(r.length:Int) - 4≤(cr:Int):=by omega
       have q2:((r.length:Int) - 4).toNat=r.length - 4:=by omega
       obtain⟨sv,hsv⟩:=Vb (r.take (r.length - 4)) (by rw[List.length_take];omega);obtain⟨ks,hks⟩:=Ev.rounds hsv;have hR3:=Kd.acd HR2.out (m:=r.length - 4) (by omega)
       obtain⟨r3,hr3⟩:∃r3,r.take (r.length - 4)=r3:=⟨_,rfl⟩
       have hl3:r.length - 4=r3.length:=by rw[← hr3,List.length_take];omega
       have hl5:r3.length+4=r.length:=by omega
       rw[hr3,hl3] at hR3;rw[hr3] at hks
       have hy3:∀x∈r3,0≤x∧x≤255:=fun x hx=>HY.out x (List.mem_of_mem_take (hr3▸hx))
       have HR3:=ah.mk hR3;have HY3:=ah.mk hy3;have HSU:=ah.mk hks;rw[hl3] at q2;clear hsv hks hr3 hR3 hy3 HR2 HY HL Dn
       go_wp2_with (go_at_call 47;refine (PT.gT.calls ks Ar cr r3 sv wr (Kd.dB HR3.out).2.2 (Kd.dB HR3.out).2.1 HSU.out).mono ?_;rintro e w3 ⟨rfl,⟨nd,rfl⟩⟩)
       have hdn:=au (Below.refl wr.heap.size wr) nd;have HR4:=ah.mk (Kd.dh HR3.out hdn);have mH:=ah.mk (HB2.out.trans (hdn.mono HB2.out.size))
       obtain⟨W4,Qy⟩:∃W4,wr.drewN nd=W4:=⟨_,rfl⟩
       rw[Qy] at HR4 mH
       try rw[Qy]
       clear hdn Qy HR3 HB2 iK k4 HSU
       go_loopg [6,9] 4 (fun g s6 s9 wx=>∃(i:Nat) (Ar:Option Addr) (cr:Nat) (r:List Int),i+g=4∧s9=.int .i64 i∧s6=.slice Ar r.length cr∧ah (r.length=r3.length+i)∧ah (∀x∈r,0≤x∧x≤255)∧ah (Kd.R (Kd.int .u8) 5 wx w.heap.size (fun _=>True) (.slice Ar r.length cr) r)∧ah (Below w.heap.size w wx))
       case atStart=>exact⟨0,Ar,cr,r3,by omega,rfl,rfl,⟨rfl⟩,HY3,HR4,mH⟩
       case round=>
        obtain⟨i,Ar,cr,r,hig,rfl,rfl,HL,HY,HR2,HB2⟩:=hrel;clear HR4 mH HY3;by_cases hi:i<4
        ·have hd:decide ((i:Int)<4)=true:=decide_eq_true (by omega);have hd2:decide (i<4)=true:=decide_eq_true hi;have LR:=ah.mk (show r.length≤33554434 by have:=HL.out;omega);have yX:=ah.mk (show 0≤sv / 2 ^ (8*i) % 256∧sv / 2 ^ (8*i) % 256≤255 by omega)
         go_wp2_with ((with_reducible refine dn (b:=.append) (xs:=#[.tmp 124,.tmp 130]) rfl ?_);at_builtin;refine Kd.jy (Kd.int .u8) (w0:=w) w.heap.size rfl (.tmp 124) (.tmp 130) 27 5 (.int .u8 0) 1 rfl Tryz.underlying27 info5 rfl (by decide) (by omega) (.slice Ar r.length cr) r (sv / 2 ^ (8*i) % 256) [.int .u8 (sv / 2 ^ (8*i) % 256)] (fun _=>True) (fun _=>False) rfl rfl ?aP (fun _ hk=>hk.elim) (fun _ _=>trivial) HR2.out HB2.out HB2.out.size (by have:=LR.out;(try simp only[List.length_append,List.length_cons,List.length_nil]);omega) ?_;(case aP=>exact rfl);intro v5 w5 jR hb5 hg5 mK;obtain⟨Vd,Ve,hv5⟩:=Kd.bH jR;subst hv5;have kE:=ah.mk jR;have iV:=ah.mk hb5;clear jR hb5 hg5 mK)
         have HL5:=ah.mk (show (r++[sv / 2 ^ (8*i) % 256]).length=r3.length+(i+1) by rw[List.length_append,HL.out];simp only[List.length_cons,List.length_nil];omega);have HY5:=ah.mk (sw HY.out yX.out)
         go_roundg (4 - (i+1))
         case measure=>omega
         case rel=>exact⟨i+1,Vd,Ve,_,by omega,by first|rfl|(push_cast;rfl)|simp,by first|rfl|simp,HL5,HY5,kE,iV⟩
        ·obtain rfl:i=4:=by omega
         have HC:=ah.mk (Kd.dB HR2.out)
         have hln:r.length≤l.length+1:=by have:=HL.out;omega
         go_wp2_with fail
         go_ret
         exact⟨Ar,r,cr,by simp,HC.out.2.1,hln,HY.out,HC.out.2.2,HB2.out⟩
      ·have hcase:sm=false∨(sm=true∧¬4≤r.length):=by
        cases sm with
        | false=>exact .inl rfl
        | true=>exact .inr ⟨rfl,fun h=>hs ⟨rfl,h⟩⟩
       rcases hcase with rfl|⟨rfl,h4⟩
       ·go_wp2_with fail
        go_ret
        exact⟨Ar,r,cr,by simp,Dn.out.2.1,hrl2,HY.out,Dn.out.2.2,HB2.out⟩
       ·have e4:decide ((4:Int)≤(r.length:Int))=false:=decide_eq_false (by omega);have e5:decide (4≤r.length)=false:=decide_eq_false h4
        go_wp2_with fail
        go_ret
        exact⟨Ar,r,cr,by simp,Dn.out.2.1,hrl2,HY.out,Dn.out.2.2,HB2.out⟩
end Go.Proofs.YtknihldkhedpkaaGreatDoor
end
section
namespace Go.Proofs.YtknihldkhedpkaaGreatDoor
open Go.RowKit
section
variable {P : Program} {α : Type}
def WE (B:FuncId→Prop) (P:Program) (c:Code) (Q:Exit→Act→World→Prop) (a:Act) (w:World):Prop :=
 ∀(b:Frame) (k:List Item) (cs:List Frame),b.roundOf=none→B b.fn→∃e a' w',Q e a' w'∧ArrivesIn (Machine.fenced P Fence.wide) P (lone (b.atR a (.code c::k)) cs w) b k cs e a' w'
variable {B : FuncId → Prop} {Q : Exit → Act → World → Prop} {a : Act} {w : World}
theorem rE {c:Code} (h:c.wp P Q a w):WE B P c Q a w:=fun b k cs hro _=>(wpIn_wide (n:=0)).2 h b k cs hro trivial (room_wide _)
theorem xR {x y:Code} (h:WE B P x (Exit.then (WE B P y Q) Q) a w):WE B P (Code.seq x y) Q a w:=by
 intro b k cs hro hb;have h0:(lone (b.atR a (.code (.seq x y)::k)) cs w).fenced P Fence.wide:=fenced_wide _ _;obtain⟨e,a₁,w₁,hq,harr⟩:=h b (.code y::k) cs hro hb
 cases e with
 | normal=>
  obtain⟨e₂,a₂,w₂,hq₂,harr₂⟩:=hq b k cs hro hb;exact⟨e₂,a₂,w₂,hq₂,.of_steps (.head h0 stepR_seq harr) harr₂⟩
 | exit id=>exact⟨_,a₁,w₁,hq,.of_steps (.one h0 stepR_seq) (.pass (x:=.code y) rfl (fun _ _=>.inl (by simp)) harr)⟩
 | goto l=>exact⟨_,a₁,w₁,hq,.of_steps (.one h0 stepR_seq) (.pass (x:=.code y) rfl (fun _ _=>.inl (by simp)) harr)⟩
 | ret=>exact⟨_,a₁,w₁,hq,.of_steps (.one h0 stepR_seq) (.pass (x:=.code y) rfl (fun _ _=>.inl (by simp)) harr)⟩
 | panic ch=>exact⟨_,a₁,w₁,hq,.of_steps (.one h0 stepR_seq) (.pass (x:=.code y) rfl (fun _ _=>.inl (by simp)) harr)⟩
 | outgrown=>exact⟨_,a₁,w₁,hq,.of_steps (.one h0 stepR_seq) (.pass (x:=.code y) rfl (fun _ _=>.inl (by simp)) harr)⟩
theorem KG {f:FuncId} {fn:Func} {c:Code} {args:Array Value} {R:Ending→World→Prop}
  (hf:P.funcs[f]?=some fn) (hb:fn.body=some c)
  (h:WE (fun g=>∃x,P.funcs[g]?=some x) P c (bodyPostM Fence.wide 0 P fn R) { tmps:=args++Array.replicate (fn.ntmps - args.size) undef,defers:=[] } w):Calls P f args w R:=by
 refine (callsIn_wide (n:=0)).1 ⟨trivial,fun cs hr=>?_⟩
 let b:Frame:={ (default:Frame) with fn:=f,kind:=.normal,roundOf:=none }
 have henter:Frame.enter P f args .normal =
   b.atR { tmps:=args++Array.replicate (fn.ntmps - args.size) undef,defers:=[] } [.code c]:=by
  simp[Frame.enter,Frame.atR,hf,hb,b]
 obtain⟨e,a',w',hq,harr⟩:=h b [] cs rfl ⟨fn,hf⟩;rw[← henter] at harr
 cases e with
 | normal=>
  obtain⟨e',w'',fr',hR,hs,hfn,hl⟩:=leaves_stepsInM a'.defers .returning w' { b.atR a' [] with mode:=.returning } cs rfl rfl rfl hf rfl trivial hr hq;exact⟨e',w'',fr',hR,ComesIn.of_steps (StepsIn.trans harr (.one (fenced_wide _ _) (stepR_end rfl))) hs,hfn,hl⟩
 | ret=>
  obtain⟨todo,hs₀⟩:=harr.1 rfl;obtain⟨e',w'',fr',hR,hs,hfn,hl⟩:=leaves_stepsInM a'.defers .returning w' { b.atR a' todo with mode:=.returning } cs rfl rfl rfl hf rfl trivial hr hq;exact⟨e',w'',fr',hR,ComesIn.of_steps hs₀ hs,hfn,hl⟩
 | panic chain=>
  obtain⟨todo,hs₀⟩:=harr;obtain⟨e',w'',fr',hR,hs,hfn,hl⟩:=leaves_stepsInM a'.defers (.panicking chain) w' { b.atR a' todo with mode:=.panicking chain } cs rfl rfl rfl hf rfl trivial hr hq;exact⟨e',w'',fr',hR,ComesIn.of_steps hs₀ hs,hfn,hl⟩
 | exit id=>exact hq.elim
 | goto l=>exact hq.elim
 | outgrown=>exact⟨.outgrown,w',b,hq,harr.resolve_left (by simp[b]),rfl,trivial⟩
def ace (P:Program) (l:Nat) (R:Ending→World→Prop):Exit→Act→World→Prop
 | .normal,_,w=>∃v w',(Instr.endRound l none).run P w=.ok v w'∧R (.returned v) w'
 | .panic ch,a,w=>a.defers=[]∧R (.panicked ch) w
 | _,_,_=>False
theorem Ib {l:Nat} {f:FuncId} {n:Nat} {tmps:Array Value} {assign body:Code} {R:Ending→World→Prop} (hf:∃x,P.funcs[f]?=some x)
  (h:assign.wpIn (Fence.wide.inRound l) n P (Exit.then (fun a₁ w₁=>∃w₂,(Instr.beginRound l).run P w₁=.ok () w₂∧body.wpIn (Fence.wide.inRound l) n P (ace P l R) a₁ w₂) (fun _ _ _=>False))
   { tmps:=tmps,defers:=[] } w) :
  RoundIn Fence.wide n P l f tmps assign body w R:=by
 refine⟨trivial,fun c cs hr=>?_⟩
 let b:Frame:={ (default:Frame) with fn:=f,kind:=.normal,roundOf:=some l }
 have hb0:Frame.round l f tmps assign body .normal=b.atR { tmps:=tmps,defers:=[] } [.code assign,.beginRound,.code body]:=by
  simp[Frame.round,Frame.atR,b]
 obtain⟨e,a₁,w₁,hq,harr⟩:=h b [.beginRound,.code body] (c::cs) rfl trivial hr;rw[← hb0] at harr
 cases e with
 | normal=>
  obtain⟨w₂,hbr,hbody⟩:=hq
  have s1:StepsIn (Machine.fenced P Fence.wide) P (lone (b.atR a₁ [.beginRound,.code body]) (c::cs) w₁) (lone (b.atR a₁ [.code body]) (c::cs) w₂) :=
   .one (fenced_wide _ _) (stepR_beginRound rfl hbr)
  obtain⟨e₂,a₂,w₃,hq₂,harr₂⟩:=hbody b [] (c::cs) rfl trivial hr
  cases e₂ with
  | normal=>
   obtain⟨v,w₄,hend,hR⟩:=hq₂;exact⟨.returned v,w₄,hR,(StepsIn.trans harr s1).trans (StepsIn.trans harr₂ (.one (fenced_wide _ _) (stepR_round_end rfl rfl hend)))⟩
  | panic chain=>
   obtain⟨hd,hR⟩:=hq₂;obtain⟨todo,hs⟩:=harr₂;exact⟨.panicked chain,w₃,hR,(StepsIn.trans harr s1).trans (StepsIn.trans hs (.one (fenced_wide _ _) (step_leave_panicked ⟨rfl,hd,hf⟩)))⟩
  | ret=>exact hq₂.elim
  | exit id=>exact hq₂.elim
  | goto t=>exact hq₂.elim
  | outgrown=>exact hq₂.elim
 | exit id=>exact hq.elim
 | goto t=>exact hq.elim
 | ret=>exact hq.elim
 | panic chain=>exact hq.elim
 | outgrown=>exact hq.elim
def X8 (S:List α→Prop) (J:List α→World→Prop) (X:List PanicEntry→World→Prop) (e:Ending) (B:World):Prop :=
 ((∃v,e=.returned v)∧∃xs,S xs∧J xs B)∨(∃ch,e=.panicked ch∧X ch B)
def Fx (P:Program) (gf:Nat) (lb:Array Value) (encs:α→Array Value) (Good:List α→α→World→Prop) (St Kp:World→World→Prop) (S:List α→Prop) (w:World):Prop :=
 ∀(l:Nat) (J:List α→World→Prop) (X:List PanicEntry→World→Prop) (W:World),Below w.heap.size w W →
  (∀pre A B,J pre A→St A B→J pre B) →
  (∀pre x A,J pre A→Good pre x A→YieldAt Fence.wide 0 P l (encs x) A fun e B=>(e=.returned (.bool true)∧J (pre++[x]) B∧Kp A B)∨(∃ch,e=.panicked ch∧X ch B)) →
  J [] W→Calls P gf (#[.func (.yield l) #[] #[]]++lb) W (X8 S J X)
theorem Fx.tells {gf:Nat} {lb:Array Value} {encs:α→Array Value} {Good:List α→α→World→Prop} {St Kp:World→World→Prop} {S:List α→Prop} {w:World} (h:Fx P gf lb encs Good St Kp S w):aat P gf lb encs Good St Kp S w :=
 fun l J W hb hJ hY h0=>(h l J (fun _ _=>False) W hb hJ (fun pre x A hj hg=>let ⟨fn,t,as_,b,h1,h2⟩:=hY pre x A hj hg;⟨fn,t,as_,b,h1,h2.mono fun e B hh=>.inl hh⟩) h0).mono
  (by
   rintro e B (h|⟨_,_,h⟩)
   ·exact h
   ·exact h.elim)
theorem KH {g:Operand} {ps:Array Tmp} {assign body:Code} {gf:Nat} {lb:Array Value}
  (hB:∀f,B f→∃x,P.funcs[f]?=some x)
  (hg:a.eval g=.func (.func gf) #[] lb) (eg:∀args w,(callFunc gf args).run P w=.ok (.enter gf args) w)
  {encs:α→Array Value} (hps:∀x,(encs x).size=ps.size) {Good:List α→α→World→Prop} {St Kp:World→World→Prop} {S:List α→Prop}
  (hseq:Fx P gf lb encs Good St Kp S w)
  (I:List α→World→Prop) (X:List PanicEntry→World→Prop) (a₁:α→Act)
  (hSt:∀A B,St A B→Still w.heap.size A B)
  (Uu:∀pre A B,I pre A→St A B→I pre B)
  (Uv:∀pre W l o o',I pre W→w.heap.size≤l→W.heap[l]?=some o→o.isCells=false→I pre (W.putObj l o'))
  (hGp:∀pre x W l o o',Good pre x W→w.heap.size≤l→W.heap[l]?=some o→o.isCells=false→Good pre x (W.putObj l o'))
  (hKp:∀A B l o o1 p o2,w.heap.size≤l→A.heap[l]?=some o→o.isCells=false→Kp (A.putObj l o1) B→B.heap[l]?=some p→p.isCells=false→Kp A (B.putObj l o2))
  (h0:∀o o',I [] ((w.alloc o).alloc o'))
  (hassign:∀(l:Nat) (x:α) (W:World) (K:Act→World→Prop),K (a₁ x) W →
   assign.wpIn (Fence.wide.inRound l) 0 P (Exit.then K (fun _ _ _=>False)) { tmps:=(ps.zip (encs x)).foldl (fun t (p,v)=>t.setIfInBounds p v) a.tmps,defers:=[] } W)
  (hbody:∀(l:Nat) (pre:List α) (x:α) (W:World),I pre W→Good pre x W→body.wpIn (Fence.wide.inRound l) 0 P (fun e a' B=>(e=.normal∧I (pre++[x]) B∧Kp W B∧Still w.heap.size W B)∨(∃ch,e=.panic ch∧a'.defers=[]∧X ch B∧Still w.heap.size W B)) (a₁ x) W)
  (hdone:∀xs W,S xs→w.heap.size<W.heap.size→I xs W→W.heap[w.heap.size]?=some (.deferred (some []))→Q .normal { a with defers:={ target:=.collected w.heap.size,args:=#[] }::a.defers } W)
  (acf:∀ch W,w.heap.size<W.heap.size→X ch W→W.heap[w.heap.size]?=some (.deferred (some []))→Q (.panic ch) { a with defers:={ target:=.collected w.heap.size,args:=#[] }::a.defers } W) :
  WE B P (Code.rangeFunc g ps assign body) Q a w:=by
 intro b k cs hro hb
 obtain⟨fn,hfn⟩:∃fn,b.fn=fn:=⟨_,rfl⟩
 obtain⟨rec,hrec⟩:∃rec:LoopState→Option Code→Loop,rec=fun st pe=>{ state:=st,pending:=pe,fn,tmps:=a.tmps,params:=ps,assign,body,defers:=w.heap.size }:=⟨_,rfl⟩
 obtain⟨s,hs⟩:∃s,s=w.heap.size:=⟨_,rfl⟩
 obtain⟨W1,hW1⟩:∃W1,W1=(w.alloc (.deferred (some []))).alloc (.loop (rec .ready none)):=⟨_,rfl⟩
 have hD1:W1.heap[s]?=some (.deferred (some [])):=by
  rw[hW1,hs];exact (Below.heap_alloc _ _ _ (by simp)).trans (World.alloc_heap_new w _)
 have hL1:W1.heap[s+1]?=some (.loop (rec .ready none)):=by
  rw[hW1,hs];have:=World.alloc_heap_new (w.alloc (.deferred (some []))) (.loop (rec .ready none))
  rwa [World.size_alloc] at this
 have hB1:Below w.heap.size w W1:=by
  rw[hW1];exact ((Below.refl _ w).alloc (Nat.le_refl _) _).alloc (by simp) _
 have he:(Instr.enterLoop b.fn a.tmps ps assign body b.roundOf).run P w=.ok (s+1,[{ target:=.collected s,args:=#[] }]) W1:=by
  rw[hW1,hrec,hs,hro,hfn];exact run_enterLoop_outer _ _ _ _ _
 have hres:(resolve a.eval (rangeCall g (s+1)) 0).run P W1=.ok { target:=.fn (.func gf) lb,args:=#[.func (.yield (s+1)) #[] #[]] } W1:=by
  simp only[resolve,hg];simp[go_sem]
 have hinv:(invoke (.fn (.func gf) lb) #[.func (.yield (s+1)) #[] #[]]).run P W1=.ok (.enter gf (#[.func (.yield (s+1)) #[] #[]]++lb)) W1:=by
  simp[invoke,go_sem,eg]
 have henter:=stepR_rangeFunc (P:=P) (b:=b) (a:=a) (k:=k) (cs:=cs) (w:=w) he hres hinv
 have hcall:Calls P gf (#[.func (.yield (s+1)) #[] #[]]++lb) W1 fun e B=>((∃v,e=.returned v)∧∃xs,S xs∧I xs B∧B.heap[s+1]?=some (.loop (rec .ready none))∧B.heap[s]?=some (.deferred (some [])))∨(∃ch,e=.panicked ch∧X ch B∧B.heap[s]?=some (.deferred (some []))):=by
  refine (hseq (s+1) (fun pre W=>I pre W∧W.heap[s+1]?=some (.loop (rec .ready none))∧W.heap[s]?=some (.deferred (some []))) (fun ch W=>X ch W∧W.heap[s]?=some (.deferred (some []))) W1 hB1 ?_ ?_ ⟨hW1▸h0 _ _,hL1,hD1⟩).mono (fun e B h=>h)
  ·rintro pre A B ⟨hi,hl,hd⟩ hab;exact⟨Uu _ _ _ hi hab,(hSt _ _ hab).2 _ _ (by omega) hl rfl,(hSt _ _ hab).2 _ _ (by omega) hd rfl⟩
  ·rintro pre x A ⟨hi,hl,hd⟩ hgood;have hlt:=(Array.getElem?_eq_some_iff.1 hl).1;have hy:=run_yield (P:=P) (args:=encs x) hl (by rw[hrec];exact hps x);rw[hrec] at hy;refine⟨fn,_,assign,body,hy,Ib (hfn▸hB _ hb) (hassign _ x A _ ⟨_,run_beginRound hl (by rw[hrec]),?_⟩)⟩;have hl2:(A.putObj (s+1) (.loop { rec .ready none with state:=.busy })).heap[s+1]?=some (.loop { rec .ready none with state:=.busy }):=World.putObj_heap_same hlt;have hd2:(A.putObj (s+1) (.loop { rec .ready none with state:=.busy })).heap[s]?=some (.deferred (some [])):=(World.putObj_heap_other (by omega)).trans hd;refine wpIn_mono (hbody _ pre x _ (Uv _ _ _ _ _ hi (by omega) hl rfl) (hGp _ _ _ _ _ _ hgood (by omega) hl rfl)) ?_;rintro e a3 B (⟨rfl,hi3,hk3,hs3⟩|⟨ch,rfl,hd0,hx,hs3⟩)
   ·have hl3:=hs3.2 _ _ (by omega) hl2 rfl;have hd3:=hs3.2 _ _ (by omega) hd2 rfl;have hr:=run_endRound (P:=P) none hl3;have hlt3:=(Array.getElem?_eq_some_iff.1 hl3).1;refine⟨_,_,hr,.inl ⟨rfl,⟨Uv _ _ _ _ _ hi3 (by omega) hl3 rfl,?_,(World.putObj_heap_other (by omega)).trans hd3⟩,hKp _ _ _ _ _ _ _ (by omega) hl rfl hk3 hl3 rfl⟩⟩;rw[World.putObj_heap_same hlt3,hrec];rfl
   ·exact⟨hd0,.inr ⟨ch,rfl,hx,hs3.2 _ _ (by omega) hd2 rfl⟩⟩
 obtain⟨e,w₃,fr,hR,hsteps,hff,hleave⟩:=(callsIn_wide (n:=0)).2 hcall |>.2 (b.atR { a with defers:=[{ target:=.collected s,args:=#[] }]++a.defers } (.inRangeFunc (s+1)::k)::cs) (room_wide _)
 rcases hR with⟨⟨v,rfl⟩,xs,hxs,hi,hl,hd⟩|⟨ch,rfl,hx,hd⟩
 ·have hend:=run_endLoop (P:=P) hl (by rw[hrec];simp);have hlt:=(Array.getElem?_eq_some_iff.1 hl).1;have hd':(w₃.putObj (s+1) (.loop { rec .ready none with state:=.exhausted })).heap[s]?=some (.deferred (some [])):=(World.putObj_heap_other (by omega)).trans hd;have hsz:s<(w₃.putObj (s+1) (.loop { rec .ready none with state:=.exhausted })).heap.size:=(Array.getElem?_eq_some_iff.1 hd').1;rw[hs] at hend hd' hsz;refine⟨.normal,_,_,hdone xs _ hxs hsz (Uv _ _ _ _ _ hi (by omega) (hs▸hl) rfl) hd',?_⟩;refine StepsIn.head (fenced_wide _ _) henter (StepsIn.trans hsteps (.head (fenced_wide _ _) (step_leave_returned hleave) (.one (fenced_wide _ _) ?_)));rw[finish_atR_inRangeFunc,hs];have:=stepR_endRangeFunc (b:=b) (a:={ a with defers:=[{ target:=.collected w.heap.size,args:=#[] }]++a.defers }) (k:=k) (cs:=cs) hend;rw[hrec] at this ⊢;exact this
 ·have hsz:s<w₃.heap.size:=(Array.getElem?_eq_some_iff.1 hd).1;rw[hs] at hd hsz;refine⟨.panic ch,_,_,acf ch _ hsz hx hd,?_⟩;refine⟨.inRangeFunc (s+1)::k,StepsIn.head (fenced_wide _ _) henter (StepsIn.trans hsteps (.one (fenced_wide _ _) ?_))⟩;have:=step_leave_panicked (c:=b.atR { a with defers:=[{ target:=.collected s,args:=#[] }]++a.defers } (.inRangeFunc (s+1)::k)) (cs:=cs) hleave;rw[Frame.raise_atR,hs] at this;rw[hs];exact this
end
end Go.Proofs.YtknihldkhedpkaaGreatDoor
end
section
namespace Go.Proofs.YtknihldkhedpkaaGreatDoor
open Go.RowKit Go.Lib
open Go.Proofs.YtknihldkhedpkaaGreatDoorW.PrintWords Go.Proofs.YtknihldkhedpkaaGreatDoorW.PrintLast Go.Proofs.YtknihldkhedpkaaGreatDoor.PT
theorem wW {P:Program} {n:Nat} {f:FuncId} {fn:Func} {c:Code} {args:Array Value} {u:FrameMode} {w:World} {R:Ending→FrameMode→World→Prop}
  (hf:P.funcs[f]?=some fn) (hb:fn.body=some c)
  (h:∀(c₀:Frame) (cs:List Frame),c₀.mode=u →
   c.wpS P (bodyPostS P fn c₀ cs R) { tmps:=args++Array.replicate (fn.ntmps - args.size) undef,defers:=[] } (c₀::cs) w) :
  CallsDIn Fence.wide n P f args u w R:=by
 refine⟨trivial,fun c₀ cs hu _=>?_⟩
 let b:Frame:={ (default:Frame) with fn:=f,kind:=.deferred }
 have henter:Frame.enter P f args .deferred =
   b.at { tmps:=args++Array.replicate (fn.ntmps - args.size) undef,defers:=[] } [.code c]:=by
  simp[Frame.enter,Frame.at,hf,hb,b]
 obtain⟨e,a',cs',w',hq,harr⟩:=h c₀ cs hu b [] rfl rfl;rw[← henter] at harr
 cases e with
 | normal=>
  obtain⟨hd,u',rfl,v,hr,hR⟩:=hq;exact⟨.returned v,u',w',_,hR,comesIn_wide.2 (Steps.trans harr (.one step_end)),rfl,rfl,rfl,hd,fn,hf,hr⟩
 | ret=>
  obtain⟨hd,u',rfl,v,hr,hR⟩:=hq;obtain⟨todo,hs⟩:=harr;exact⟨.returned v,u',w',_,hR,comesIn_wide.2 hs,rfl,rfl,rfl,hd,fn,hf,hr⟩
 | panic chain=>
  obtain⟨hd,u',rfl,hR⟩:=hq;obtain⟨todo,hs⟩:=harr;exact⟨.panicked chain,u',w',_,hR,comesIn_wide.2 hs,rfl,rfl,rfl,hd,fn,hf⟩
 | exit id=>exact hq.elim
 | goto l=>exact hq.elim
 | outgrown=>
  obtain⟨u',hR⟩:=hq;exact⟨.outgrown,u',w',b,hR,comesIn_wide.2 (harr.resolve_left (by simp[b])),rfl,rfl,trivial⟩
theorem AU {P:Program} {n:Nat} {f:FuncId} {args:Array Value} {u:FrameMode} {w:World} {R R':Ending→FrameMode→World→Prop} (h:CallsDIn Fence.wide n P f args u w R) (hr:∀e u w,R e u w→R' e u w):CallsDIn Fence.wide n P f args u w R' :=
 ⟨h.1,fun c cs hu hro=>let ⟨e,u',w',fr,h1,h2⟩:=h.2 c cs hu hro;⟨e,u',w',fr,hr _ _ _ h1,h2⟩⟩
theorem SL {P:Program} {B:FuncId→Prop} {Q:Exit→Act→World→Prop} {a:Act} {w:World} {id:Nat} {c:Code} (h:WE B P c (Exit.inBlock id Q) a w):WE B P (Code.block id c) Q a w:=by
 intro b k cs hro hb;have h0:(lone (b.atR a (.code (.block id c)::k)) cs w).fenced P Fence.wide:=fenced_wide _ _;obtain⟨e,a₁,w₁,hq,harr⟩:=h b (.inBlock id::k) cs hro hb
 cases e with
 | normal=>exact⟨.normal,a₁,w₁,hq,.head h0 stepR_block (StepsIn.trans harr (.one (fenced_wide _ _) stepR_inBlock))⟩
 | exit id'=>
  by_cases hid:id'=id
  ·simp only[Exit.inBlock,hid,if_true] at hq;exact⟨.normal,a₁,w₁,hq,.head h0 stepR_block (harr.1 k (by simp[exitTo,hid]))⟩
  ·simp only[Exit.inBlock,hid,if_false] at hq
   have this:(id == id')=false:=by simp;exact fun h=>hid h.symm
   have hx:exitTo id' (.inBlock id::k)=exitTo id' k:=by simp[exitTo,this]
   exact⟨.exit id',a₁,w₁,hq,fun k' hk=>.head h0 stepR_block (harr.1 k' (by rw[hx];exact hk)),
    fun hr' hk=>let ⟨k₁,h1,h2⟩:=harr.2 hr' (by rw[hx];exact hk);⟨k₁,h1,.head h0 stepR_block h2⟩⟩
 | goto l=>
  have hx:gotoIn l (.inBlock id::k)=gotoIn l k:=by simp[gotoIn]
  exact⟨_,a₁,w₁,hq,fun k' hk=>.head h0 stepR_block (harr.1 k' (by rw[hx];exact hk)),
   fun hr' hk=>let ⟨k₁,h1,h2⟩:=harr.2 hr' (by rw[hx];exact hk);⟨k₁,h1,.head h0 stepR_block h2⟩⟩
 | ret=>exact⟨_,a₁,w₁,hq,.of_steps (.one h0 stepR_block) harr⟩
 | panic ch=>exact⟨_,a₁,w₁,hq,.of_steps (.one h0 stepR_block) harr⟩
 | outgrown=>exact⟨_,a₁,w₁,hq,.of_steps (.one h0 stepR_block) harr⟩
theorem Vf (n pp pb:Nat) (w:World) :
  CallsDIn Fence.wide n Tryz.prog 121 #[.pointer (some ⟨pp,0,none⟩),.pointer (some ⟨pb,0,none⟩)] .returning w fun e u' w'=>e=.returned (.tuple #[])∧u'=.returning∧w'=w:=by
 refine wW Tryz.func121 rfl fun c₀ cs hu=>?_
 apply wpS_seq;apply wpS_region;simp[wpOpsS,go_sem,recoverD,hu,Tryz.ntmps121,Exit.thenS];refine wpS_of_wp ?_;simp only[Nat.reduceSub,Nat.reduceAdd,Array.replicate_succ,Array.replicate_zero,List.push_toArray,List.append_toArray,List.nil_append,List.cons_append,aYa,aYb,aYc];refine Code.wp_mono (Q:=fun e a' w'=>e=.normal∧a'.defers=[]∧w'=w) ?_ ?_;rotate_left
 ·go_wp2
 ·rintro e a' w' ⟨rfl,hd,rfl⟩;refine⟨hd,.returning,?_,_,results_none rfl _ _ _,rfl,rfl,rfl⟩;cases c₀;cases hu;rfl
def akx (pp pb:Nat) (w w':World):Prop:=w'.heap[pp]?=some (.cells #[.slice none 0 0] 25 (0,0))∧w'.heap[pb]?=some (.cells #[.bool false] 4 (0,0))∧Fp pp pb w w'
theorem Pn (n pp pb:Nat) (x0 y0:Value) (older:List PanicEntry) (w:World) (hp:w.heap[pp]?=some (.cells #[x0] 25 (0,0))) (hb:w.heap[pb]?=some (.cells #[y0] 4 (0,0))) :
  CallsDIn Fence.wide n Tryz.prog 121 #[.pointer (some ⟨pp,0,none⟩),.pointer (some ⟨pb,0,none⟩)] (.panicking ({ v:=.iface 160 (.agg #[]),recovered:=false }::older)) w fun e u' w'=>
   e=.returned (.tuple #[])∧u'=.panicking ({ v:=.iface 160 (.agg #[]),recovered:=true }::older)∧w'.heap[pp]?=some (.cells #[.slice none 0 0] 25 (0,0))∧w'.heap[pb]?=some (.cells #[.bool false] 4 (0,0))∧Fp pp pb w w':=by
 refine wW Tryz.func121 rfl fun c₀ cs hu=>?_
 apply wpS_seq;apply wpS_region;simp[wpOpsS,go_sem,recoverD,hu,Tryz.ntmps121,Exit.thenS];refine wpS_of_wp ?_
 have hta:∀w:World,(Instr.typeAssert (.iface 160 (.agg #[])) 20 160 true).run Tryz.prog w=.ok (.tuple #[.agg #[],.bool true]) w:=fun w=>by kernel_rfl
 have HP:=ah.mk hp;have HB:=ah.mk hb;clear hp hb;simp only[Nat.reduceSub,Nat.reduceAdd,Array.replicate_succ,Array.replicate_zero,List.push_toArray,List.append_toArray,List.nil_append,List.cons_append,aYa,aYb,aYc];refine Code.wp_mono (Q:=fun e a' w'=>e=.normal∧a'.defers=[]∧akx pp pb w w') ?_ ?_;rotate_left
 ·go_upto_region 5 with (fail)
  have hba:=(Below.refl w.heap.size w).alloc (Nat.le_refl _) (.cells #[] 160);have hp1:=aD HP.out hba;have hb1:=aD HB.out hba
  have hpb:pp≠pb:=fun e=>by
   have h1:=HP.out;rw[e,HB.out] at h1;simp at h1
  obtain⟨W,hW⟩:∃W,w.alloc (.cells #[] 160)=W:=⟨_,rfl⟩
  rw[hW] at hba hp1 hb1 ⊢;have x1:W.cell? ⟨pp,0,none⟩=some x0:=ak hp1 0;have y1:W.cell? ⟨pb,0,none⟩=some y0:=ak hb1 0;have f1:=av hp1 0;have f2:=av hb1 0;have l1:=bD hp1;have l2:=bD hb1;have xB:=ah.mk hp1;have HB1:=ah.mk hb1;have HBA:=ah.mk hba;have HNE:=ah.mk hpb;clear hba hp1 hb1 hW hta
  go_wp2
  have k1:(W.setCell ⟨pp,0,none⟩ (.slice none 0 0)).heap[pp]?=some (.cells #[.slice none 0 0] 25 (0,0)):=by have:=dD xB.out 0 (.slice none 0 0);simpa using this
  have k2:(W.setCell ⟨pp,0,none⟩ (.slice none 0 0)).heap[pb]?=some (.cells #[y0] 4 (0,0)):=(Below.heap_setCell _ ⟨pp,0,none⟩ _ pb (fun e=>HNE.out e.symm)).trans HB1.out;refine⟨(Below.heap_setCell _ ⟨pb,0,none⟩ _ pp HNE.out).trans k1,by have:=dD k2 0 (.bool false);simpa using this,(jK.below HBA.out).trans ((jK.set (G:=fun k=>k=pp∨k=pb) (b:=pp) (.inl rfl) 0 _).trans (jK.set (G:=fun k=>k=pp∨k=pb) (b:=pb) (.inr rfl) 0 _))⟩
 ·rintro e a' w' ⟨rfl,hd,h1,h2,h3⟩;exact⟨hd,_,rfl,_,results_none rfl _ _ _,rfl,rfl,h1,h2,h3⟩
end Go.Proofs.YtknihldkhedpkaaGreatDoor
end
