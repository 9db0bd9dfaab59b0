import Derived.Test.YtknihldkhedpkaaGreatDoorDDG21
import Derived.Test.YtknihldkhedpkaaGreatDoorDDG12
set_option linter.all false
set_option maxHeartbeats 16000000
set_option maxRecDepth 100000
section
namespace Go.Proofs.YtknihldkhedpkaaGreatDoor
open Go.RowKit
open Go.Lib hiding bytesOf bytesOf_length bytesOf_take
open Go.Proofs.YtknihldkhedpkaaGreatDoorW.PrintWords Go.Proofs.YtknihldkhedpkaaGreatDoorW.PrintLast Go.Proofs.YtknihldkhedpkaaGreatDoor.PT
theorem Fx (s:ByteArray) (hs:s.size≤140737488351232) (w:World):Calls Tryz.prog 68 #[.string s] w fun e w'=>e=.returned (.string (bY 47 0 s))∧Below w.heap.size w w':=by
 have HC:=ah.mk (yu s hs w);clear hs
 go_enter Tryz.func68,Tryz.ntmps68
 go_wp2_with (go_at_call 107;refine HC.out.mono ?_;rintro e w1 ⟨rfl,hb⟩;have HB:=ah.mk hb;clear hb)
 go_ret
 exact⟨rfl,HB.out⟩
theorem Ad (x:It) (A4:Option Addr) (c4:Nat) (A5:Option Addr) (c5:Nat) (w:World) (hr:Kd.C dw w A4 x.f4.length x.f4) (hc4:x.f4.length≤c4) (hd:Kd.C (Kd.int .u8) w A5 x.f5.length x.f5) (IU:x.f5.length≤c5) (hf:Fit x) :
  Calls Tryz.prog 110 #[.agg #[.int .i64 x.f0,.string x.f1,.string x.f2,.int .i64 x.f3,.slice A4 x.f4.length c4,.slice A5 x.f5.length c5]] w fun e w'=>e=.returned (.bool (decide (x.f2.size=0) && dW x.f3 x.f4 x.f5))∧Below w.heap.size w w':=by
 have hb0:=aG (Below.refl w.heap.size w) (.cells #[.int .i64 x.f0,.string x.f1,.string x.f2,.int .i64 x.f3,.slice A4 x.f4.length c4,.slice A5 x.f5.length c5] 29);have HC:=ah.mk ((Nl x A4 c4 A5 c5 (w.alloc (.cells #[.int .i64 x.f0,.string x.f1,.string x.f2,.int .i64 x.f3,.slice A4 x.f4.length c4,.slice A5 x.f5.length c5] 29)) (Kd.aC hr hb0) hc4 (Kd.aC hd hb0) IU hf).mono (fun e w' h=>(⟨h.1,hb0.trans (h.2.mono hb0.size)⟩:e=.returned (.bool (decide (x.f2.size=0) && dW x.f3 x.f4 x.f5))∧Below w.heap.size w w')));clear hb0
 obtain⟨V,hV⟩:∃V,(decide (x.f2.size=0) && dW x.f3 x.f4 x.f5)=V:=⟨_,rfl⟩
 rw[hV] at HC ⊢;clear hr hd hf hV
 go_enter Tryz.func110,Tryz.ntmps110
 go_wp2_with (first
  | (refine eX (.load 29 (.tmp 1)) rfl ?_;refine wpList_load_row rfl _ _ rfl w.heap.size rfl 29 _ (0,0) _ (bF _ _) Tryz.underlying29 rfl aD ?_)
  | (go_at_call 125;refine HC.out.mono ?_;rintro e w1 ⟨rfl,hb⟩;have HB:=ah.mk hb;clear hb))
 go_ret
 exact⟨rfl,HB.out⟩
theorem Em (s:ByteArray) (hs:s.size≤140737488351232) (w:World):Calls Tryz.prog 77 #[.string s] w fun e w'=>e=.returned (.bool (eu s))∧Below w.heap.size w w':=by
 have hw:eu s=(iW s).2:=by
  unfold eu iW;by_cases h1:s.size≤1023
  ·by_cases h2:fP s=true
   ·by_cases h3:(dP s).all fQ=true
    ·rw[if_pos ⟨h1,h2,h3⟩,decide_eq_true h1,h2,h3];rfl
    rw[if_neg (fun h=>h3 h.2.2),Bool.eq_false_iff.2 h3];simp
   rw[if_neg (fun h=>h2 h.2.1),Bool.eq_false_iff.2 h2];simp
  rw[if_neg (fun h=>h1 h.1),decide_eq_false h1];rfl
 have HC:=ah.mk (JK s hs w);unfold Xc at HC;rw[hw];clear hw
 obtain⟨⟨D,ok⟩,hc⟩:∃q,iW s=q:=⟨_,rfl⟩
 rw[hc] at HC ⊢;dsimp only at HC ⊢;clear hc
 go_enter Tryz.func77,Tryz.ntmps77
 go_wp2_with (go_at_call 109;refine HC.out.mono ?_;rintro e w1 ⟨hb,v,rfl,hv⟩;have HB:=ah.mk hb;clear hb hv)
 go_ret
 exact⟨rfl,HB.out⟩
theorem Ae (size:Int):∀(l:List Ru) (last all:Int),-1≤last→(gy size last all l=none↔dL ((size+511) / 512) last all l=none)∧∀l2 a2,gy size last all l=some (l2,a2)→dL ((size+511) / 512) last all l=some a2∧(l2=match l.getLast? with|none=>last|some r=>r.f1)∧(l=[]∨all<a2)
 | [],last,all,h=>by
  refine⟨by simp[gy,dL],fun l2 a2 h2=>?_⟩;rw[gy] at h2;obtain⟨rfl,rfl⟩:=Prod.mk.inj (Option.some.inj h2);exact⟨rfl,rfl,.inl rfl⟩
 | r::l,last,all,h=>by
  rw[gy,dL];by_cases hc:r.f0<0∨r.f0≤last∨r.f1≤r.f0∨r.f1 > (size+511) / 512
  ·rw[if_pos hc,if_pos aj];exact⟨⟨fun _=>rfl,fun _=>rfl⟩,fun _ _ h=>by cases h⟩
  rw[if_neg hc,if_neg aj];obtain⟨h1,h2⟩:=Ae size l r.f1 (all+(r.f1 - r.f0)) aj;refine⟨h1,fun l2 a2 h3=>?_⟩;obtain⟨h4,h5,h6⟩:=h2 l2 a2 h3;refine⟨h4,?_,.inr ?_⟩
  ·rw[h5]
   cases l with
   | nil=>rfl
   | cons q l=>
    rw[List.getLast?_cons_cons]
    cases hg:(q::l).getLast? with
    | none=>rw[List.getLast?_eq_none_iff] at hg;cases hg
    | some z=>rfl
  rcases h6 with rfl|h6
  ·rw[gy] at h3;obtain⟨_,rfl⟩:=Prod.mk.inj (Option.some.inj h3);omega
  omega
theorem Hq (size:Int) (rows:List Ru) (data:List Int):rJ size data (gy size (-1) 0 rows)=match iw rows ((size+511) / 512) with
  | none=>false
  | some all=>decide ((data.length:Int)=all*512) && ni rows data size:=by
 obtain⟨h1,h2⟩:=Ae size rows (-1) 0 aj;unfold iw
 cases hr:gy size (-1) 0 rows with
 | none=>rw[h1.1 hr];rfl
 | some o=>
  obtain⟨l2,a2⟩:=o;obtain⟨h3,h4,h5⟩:=h2 l2 a2 hr;rw[h3];unfold rJ;dsimp only;by_cases hl:(data.length:Int)=a2*512
  ·rw[if_pos hl,decide_eq_true hl,Bool.true_and];unfold ni Ea;by_cases h0:a2=0
   ·rw[if_pos h0]
    rcases h5 with rfl|h5
    ·rfl
    omega
   rw[if_neg h0]
   cases hg:rows.getLast? with
   | none=>
    rw[List.getLast?_eq_none_iff.1 hg,gy] at hr;obtain⟨_,rfl⟩:=Prod.mk.inj (Option.some.inj hr);exact absurd rfl h0
   | some r=>
    rw[hg] at h4;dsimp only at h4 ⊢;rw[h4];by_cases ht:r.f1*512 - size≤0
    ·rw[if_pos ht,show (r.f1*512 - size).toNat=0 by omega,Nat.sub_zero,List.drop_length];rfl
    rw[if_neg ht]
  rw[if_neg hl,decide_eq_false hl];rfl
theorem Vg {x:It} (h:x.f0=1):fV x=(decide (x.f2.size=0) && dW x.f3 x.f4 x.f5):=by
 unfold fV jk dW;rw[if_pos h];by_cases hs:x.f3<0∨8459264<x.f3
 ·rw[if_pos hs,if_pos hs,Bool.and_false]
 rw[if_neg hs,if_neg hs,Hq]
 cases iw x.f4 ((x.f3+511) / 512) with
 | none=>rw[Bool.and_false]
 | some all=>rfl
def xP:ByteArray:=⟨#[47,120]⟩
theorem Yb (x:It) (hp:x.f1=xP) (hk:x.f0=2∨x.f0=3):((dI [x]).2 == 0)=fV x:=by
 have hc:iW xP=([⟨#[120]⟩],true):=by kernel_rfl
 have hd:zu xP=⟨#[]⟩:=by kernel_rfl
 have hr:lZ [x]=fV x:=by
  unfold lZ;rw[gL,gL,hp,hc,hd];unfold om eT fV;rw[if_pos rfl]
  rcases hk with h|h
  ·rw[if_neg aj,if_pos h,if_neg aj,if_pos h];simp
  rw[if_neg aj,if_neg aj,if_pos h,if_neg aj,if_neg aj,if_pos h];simp
 unfold dI;rw[if_neg bB,hr]
 cases hv:fV x with
 | false=>rfl
 | true=>
  rw[if_pos rfl,DN [x] jA 0 aH,if_neg]
  ·rfl
  have hl:=Lj x
  have h2:x.f2.size≤255:=by
   unfold fV at hv
   rcases hk with h|h
   ·rw[if_neg aj,if_pos h] at hv;simp only[Bool.and_eq_true,decide_eq_true_eq] at hv;omega
   rw[if_neg aj,if_neg aj,if_pos h] at hv;simp only[Bool.and_eq_true,decide_eq_true_eq] at hv;omega
  have h1:x.f1.size=2:=by rw[hp];rfl
  have h3:jA.length=8:=rfl;rw[if_neg aj] at hl;simp only[List.map_cons,List.map_nil,List.sum_cons,List.sum_nil]
  split at hl <;> omega
structure Yc (w w':World) (g:Nat) (cs is:Array Value):Prop where
 b:Below w.heap.size w w'
 c:w'.heap[w.heap.size]?=some (.cells cs 31 (0,0))
 i:w'.heap[g]?=some (.cells is 29 (0,0))
theorem Yc.step {w w1 w2:World} {g:Nat} {cs is:Array Value} (h:Yc w w1 g cs is) (hb:Below w1.heap.size w1 w2):Yc w w2 g cs is:=⟨h.b.trans (hb.mono h.b.size),aJ h.c hb,aJ h.i hb⟩
theorem Yd {W:World} (x:It) (A4:Option Addr) (c4:Nat) (A5:Option Addr) (c5:Nat) (h4:Kd.C dw W A4 x.f4.length x.f4) (l4:x.f4.length≤c4) (h5:Kd.C (Kd.int .u8) W A5 x.f5.length x.f5) (l5:x.f5.length≤c5):Kd.C mV (W.alloc (.cells #[.int .i64 x.f0,.string x.f1,.string x.f2,.int .i64 x.f3,.slice A4 x.f4.length c4,.slice A5 x.f5.length c5] 29)) (some ⟨W.heap.size,0,none⟩) [x].length [x]:=by
 have hb:=aG (Below.refl W.heap.size W) (.cells #[.int .i64 x.f0,.string x.f1,.string x.f2,.int .i64 x.f3,.slice A4 x.f4.length c4,.slice A5 x.f5.length c5] 29);refine⟨rfl,bB,fun _=>⟨_,rfl,fun j p hj=>?_⟩⟩
 cases j with
 | succ j=>simp at hj
 | zero=>
  obtain rfl:x=p:=by simpa using hj
  refine⟨_,rfl,V9 _ x l4 (Kd.aC h4 hb) l5 (Kd.aC h5 hb),fun i u hu=>?_⟩;have h:=ak (bF W (.cells #[.int .i64 x.f0,.string x.f1,.string x.f2,.int .i64 x.f3,.slice A4 x.f4.length c4,.slice A5 x.f5.length c5] 29)) i;rw[Nat.zero_mul,Nat.zero_add,Go.WideShapes.add_plain,Nat.zero_add,h];rw[List.getElem?_toArray];exact hu
theorem Vh (kd:Int) (x:It) (st:List Ru) (A4:Option Addr) (c4:Nat) (A5:Option Addr) (c5:Nat) (A6:Option Addr) (c6:Nat) (w:World) (hr:Kd.C dw w A4 x.f4.length x.f4) (hc4:x.f4.length≤c4) (hd:Kd.C (Kd.int .u8) w A5 x.f5.length x.f5) (IU:x.f5.length≤c5) (hn:st.length≤140737488351232) (hf:Fit x) :
  Calls Tryz.prog 78 #[.agg #[.int .i64 kd,.int .i64 x.f0,.string x.f1,.string x.f2,.int .i64 x.f3,.slice A4 x.f4.length c4,.slice A5 x.f5.length c5,.slice A6 st.length c6]] w fun e w'=>e=.returned (.bool (decide (st.length=0) && fV x))∧Below w.heap.size w w':=by
 obtain⟨V,hV⟩:∃V,(decide (st.length=0) && fV x)=V:=⟨_,rfl⟩
 rw[hV];have HV:=ah.mk hV;have HR:=ah.mk hr;have HD:=ah.mk hd;have P8:=ah.mk hf;have hp1:=hf.p;have hp2:=hf.t;have hp4:=hf.r;have Xf:=hf.d
 obtain⟨W1,hW1⟩:∃W1,w.alloc (.cells #[.int .i64 kd,.int .i64 x.f0,.string x.f1,.string x.f2,.int .i64 x.f3,.slice A4 x.f4.length c4,.slice A5 x.f5.length c5,.slice A6 st.length c6] 31)=W1:=⟨_,rfl⟩
 have hb1:=aG (Below.refl w.heap.size w) (.cells #[.int .i64 kd,.int .i64 x.f0,.string x.f1,.string x.f2,.int .i64 x.f3,.slice A4 x.f4.length c4,.slice A5 x.f5.length c5,.slice A6 st.length c6] 31);have hbx:=bF w (.cells #[.int .i64 kd,.int .i64 x.f0,.string x.f1,.string x.f2,.int .i64 x.f3,.slice A4 x.f4.length c4,.slice A5 x.f5.length c5,.slice A6 st.length c6] 31);rw[hW1] at hb1 hbx;have m1:W1.cell? ⟨w.heap.size,1,none⟩=some (.int .i64 x.f0):=ak hbx 1;have m2:W1.cell? ⟨w.heap.size,2,none⟩=some (.string x.f1):=ak hbx 2;have m3:W1.cell? ⟨w.heap.size,3,none⟩=some (.string x.f2):=ak hbx 3;have m4:W1.cell? ⟨w.heap.size,4,none⟩=some (.int .i64 x.f3):=ak hbx 4;have m5:W1.cell? ⟨w.heap.size,5,none⟩=some (.slice A4 x.f4.length c4):=ak hbx 5;have m6:W1.cell? ⟨w.heap.size,6,none⟩=some (.slice A5 x.f5.length c5):=ak hbx 6
 have HB2:ah (Yc w (W1.alloc (.cells #[.int .i64 x.f0,.string x.f1,.string x.f2,.int .i64 x.f3,.slice A4 x.f4.length c4,.slice A5 x.f5.length c5] 29)) W1.heap.size #[.int .i64 kd,.int .i64 x.f0,.string x.f1,.string x.f2,.int .i64 x.f3,.slice A4 x.f4.length c4,.slice A5 x.f5.length c5,.slice A6 st.length c6] #[.int .i64 x.f0,.string x.f1,.string x.f2,.int .i64 x.f3,.slice A4 x.f4.length c4,.slice A5 x.f5.length c5]):=⟨⟨aG hb1 _,aN hbx _,bF W1 (.cells #[.int .i64 x.f0,.string x.f1,.string x.f2,.int .i64 x.f3,.slice A4 x.f4.length c4,.slice A5 x.f5.length c5] 29)⟩⟩
 clear hV hr hd hf hb1 hbx
 go_enter Tryz.func78,Tryz.ntmps78
 go_upto_region 2 with (fail)
 obtain⟨g,hg⟩:∃g,W1.heap.size=g:=⟨_,rfl⟩
 obtain⟨W2,hW2⟩:∃W2,W1.alloc (.cells #[.int .i64 x.f0,.string x.f1,.string x.f2,.int .i64 x.f3,.slice A4 x.f4.length c4,.slice A5 x.f5.length c5] 29)=W2:=⟨_,rfl⟩
 rw[hW2,hg] at HB2;rw[hW2,hg];clear m1 m2 m3 m4 m5 m6 hW1 hW2 hg;have n7:W2.cell? ⟨w.heap.size,7,none⟩=some (.slice A6 st.length c6):=ak HB2.out.c 7;have n0:W2.cell? ⟨g,0,none⟩=some (.int .i64 x.f0):=ak HB2.out.i 0;have n2:W2.cell? ⟨g,2,none⟩=some (.string x.f2):=ak HB2.out.i 2;have n3:W2.cell? ⟨g,3,none⟩=some (.int .i64 x.f3):=ak HB2.out.i 3;have n4:W2.cell? ⟨g,4,none⟩=some (.slice A4 x.f4.length c4):=ak HB2.out.i 4;have n5:W2.cell? ⟨g,5,none⟩=some (.slice A5 x.f5.length c5):=ak HB2.out.i 5;by_cases hst:st.length=0
 ·have wU:ah (V=fV x):=⟨by rw[← HV.out,decide_eq_true hst,Bool.true_and]⟩
  have d1:decide ((0:Int)<(st.length:Int))=false:=decide_eq_false aj;have d2:decide (0<st.length)=false:=decide_eq_false aj;clear HV hst;by_cases k1:x.f0=1
  ·have e1:(x.f0 == 1)=true:=beq_iff_eq.2 k1;have hfl:=Ad x A4 c4 A5 c5 W2 (Kd.aC HR.out HB2.out.b) hc4 (Kd.aC HD.out HB2.out.b) IU P8.out;have hv:=wU.out;rw[Vg k1] at hv
   obtain⟨fb,hfb⟩:∃q,(decide (x.f2.size=0) && dW x.f3 x.f4 x.f5)=q:=⟨_,rfl⟩
   rw[hfb] at hv hfl;have HFL:=ah.mk hfl;have HW:=ah.mk hv;clear hfl hv hfb k1
   go_wp2_with (first
    | (refine eX (.load 29 (.tmp 3)) rfl ?_;refine wpList_load_row rfl _ _ rfl g rfl 29 _ (0,0) _ HB2.out.i Tryz.underlying29 rfl aD ?_)
    | (go_at_call 110;refine HFL.out.mono ?_;rintro e w3 ⟨rfl,hb3⟩;have HB3:=ah.mk (HB2.out.step hb3);clear hb3))
   go_ret
   exact⟨by rw[HW.out] <;> rfl,HB3.out.b⟩
  have e1:(x.f0 == 1)=false:=beq_eq_false_iff_ne.2 k1;by_cases k23:x.f0=2∨x.f0=3
  ·obtain⟨y,hy⟩:∃y:It,(⟨x.f0,xP,x.f2,x.f3,x.f4,x.f5⟩:It)=y:=⟨_,rfl⟩
   have hyp:=Yb y (by rw[← hy]) (by rw[← hy];exact k23)
   have hpy:fV y=fV x:=by
    rw[← hy];unfold fV
    rcases k23 with h|h
    ·rw[if_neg (by show ¬x.f0=1;omega),if_pos (by exact h),if_neg aj,if_pos h];rfl
    rw[if_neg (by show ¬x.f0=1;omega),if_neg (by show ¬x.f0=2;omega),if_pos (by exact h),if_neg aj,if_neg aj,if_pos h];rfl
   have hrow:=Yd (W:=W2) y A4 c4 A5 c5 (by rw[← hy];exact Kd.aC HR.out HB2.out.b) (by rw[← hy];exact hc4) (by rw[← hy];exact Kd.aC HD.out HB2.out.b) (by rw[← hy];exact IU)
   have hfy:Fit y:=by rw[← hy];exact⟨by show (2:Nat)≤_;decide,hp2,hp4,Xf,P8.out.b⟩
   have hb3:=aG (Below.refl W2.heap.size W2) (.cells #[.int .i64 y.f0,.string y.f1,.string y.f2,.int .i64 y.f3,.slice A4 y.f4.length c4,.slice A5 y.f5.length c5] 29);have hpk:=Hl (some ⟨W2.heap.size,0,none⟩) 1 [y] _ hrow bB (fun z hz=>by rw[List.mem_singleton.1 hz];exact hfy) bB
   have HW:ah (V=((dI [y]).2 == 0)):=⟨by rw[wU.out,hyp,hpy]⟩
   rw[← hy] at hpk hb3;have Ya:=ah.mk hpk;have HB3:=ah.mk (HB2.out.step hb3);clear hrow hfy hb3 hpk hyp hpy
   obtain⟨pe,hpe⟩:∃q,(dI [y]).2=q:=⟨_,rfl⟩
   rw[hpe] at HW
   have HPE:ah ((dI [(⟨x.f0,xP,x.f2,x.f3,x.f4,x.f5⟩:It)]).2=pe):=⟨by rw[hy];exact hpe⟩
   clear hpe hy
   have aiK:∀(Q:Ending→World→Prop),(∀v w3,Below (W2.alloc (.cells #[.int .i64 x.f0,.string xP,.string x.f2,.int .i64 x.f3,.slice A4 x.f4.length c4,.slice A5 x.f5.length c5] 29)).heap.size (W2.alloc (.cells #[.int .i64 x.f0,.string xP,.string x.f2,.int .i64 x.f3,.slice A4 x.f4.length c4,.slice A5 x.f5.length c5] 29)) w3→Q (.returned (.tuple #[v,.int .i64 pe])) w3)→Calls Tryz.prog 59 #[.slice (some ⟨W2.heap.size,0,none⟩) 1 1] (W2.alloc (.cells #[.int .i64 x.f0,.string xP,.string x.f2,.int .i64 x.f3,.slice A4 x.f4.length c4,.slice A5 x.f5.length c5] 29)) Q:=fun Q hq=>Ya.out.mono (fun e w3 h=>by
    obtain⟨hb,v,rfl,_⟩:=h;rw[HPE.out]
    exact hq v w3 hb)
   have HPA:=ah.mk aiK;clear aiK Ya HPE
   rcases k23 with h2|h2
   ·have e2:(x.f0 == 2)=true:=beq_iff_eq.2 h2;clear h2 k1
    go_wp2_with (go_at_call 59;refine HPA.out _ (fun v w4 hb=>?_);have iM:=ah.mk (HB3.out.step hb);clear hb)
    go_ret
    exact⟨by rw[HW.out] <;> rfl,iM.out.b⟩
   have e2:(x.f0 == 2)=false:=by rw[h2];rfl
   have e3:(x.f0 == 3)=true:=beq_iff_eq.2 h2;clear h2 k1
   go_wp2_with (go_at_call 59;refine HPA.out _ (fun v w4 hb=>?_);have iM:=ah.mk (HB3.out.step hb);clear hb)
   go_ret
   exact⟨by rw[HW.out] <;> rfl,iM.out.b⟩
  have e2:(x.f0 == 2)=false:=beq_eq_false_iff_ne.2 aj;have e3:(x.f0 == 3)=false:=beq_eq_false_iff_ne.2 aj;by_cases k4:x.f0=4
  ·have e4:(x.f0 == 4)=true:=beq_iff_eq.2 k4
   have HW:ah (V=(iy x && (eu x.f2 && O9 (mK x.f2) (mK x.f1)))):=⟨by rw[wU.out];unfold fV;rw[if_neg k1,if_neg aj,if_neg aj,if_pos k4]⟩
   clear k1 k23 k4 wU;have n1:W2.cell? ⟨g,1,none⟩=some (.string x.f1):=ak HB2.out.i 1;by_cases hb:iy x=true
   ·have hbb:=hb;unfold iy at hbb;simp only[Bool.and_eq_true,decide_eq_true_eq] at hbb;obtain⟨⟨b3,b4⟩,b5⟩:=hbb;have g3:(x.f3 == 0)=true:=beq_iff_eq.2 b3;have g4:((x.f4.length:Int) == 0)=true:=beq_iff_eq.2 aj;have g5:((x.f5.length:Int) == 0)=true:=beq_iff_eq.2 aj;have g6:(x.f4.length == 0)=true:=beq_iff_eq.2 b4;have g7:(x.f5.length == 0)=true:=beq_iff_eq.2 b5
    have HW1:ah (V=(eu x.f2 && O9 (mK x.f2) (mK x.f1))):=⟨by rw[HW.out,hb];rfl⟩
    have HWR:=ah.mk (fun W=>Em x.f2 hp2 W);have jG:=ah.mk (fun W=>Fx x.f2 hp2 W);have jH:=ah.mk (fun W=>Fx x.f1 hp1 W)
    have MN:ah (O9 (mK x.f2) (mK x.f1)=Op.bytesLess (bY 47 0 x.f2).toList (bY 47 0 x.f1).toList):=⟨rfl⟩
    obtain⟨wt,hwt⟩:∃q,eu x.f2=q:=⟨_,rfl⟩
    obtain⟨lt,hlt⟩:∃q,O9 (mK x.f2) (mK x.f1)=q:=⟨_,rfl⟩
    rw[hwt] at HWR HW1;rw[hlt] at HW1 MN
    obtain⟨k2,hk2⟩:∃q,bY 47 0 x.f2=q:=⟨_,rfl⟩
    obtain⟨k1,hk1⟩:∃q,bY 47 0 x.f1=q:=⟨_,rfl⟩
    rw[hk2] at jG MN;rw[hk1] at jH MN;clear b3 b4 b5 hb hwt hlt hk1 hk2
    go_upto_region 13 with (fail)
    clear g3 g4 g5 g6 g7;have hdr:=bf (Below.refl W2.heap.size W2)
    have hS:(fun w'=>w'.cell? ⟨g,2,none⟩=some (.string x.f2)∧w'.cell? ⟨g,1,none⟩=some (.string x.f1)∧ah (Below w.heap.size w w')) W2.drew:=⟨au hdr n2,au hdr n1,⟨HB2.out.b.trans (hdr.mono HB2.out.b.size)⟩⟩
    clear hdr n0 n1 n2 n3 n4 n5 n7;refine jJ (n:=16) (S:=(fun w'=>w'.cell? ⟨g,2,none⟩=some (.string x.f2)∧w'.cell? ⟨g,1,none⟩=some (.string x.f1)∧ah (Below w.heap.size w w'))) (ds:=[]) (aM 16 0) aD rfl rfl hS (fun hHeld=>?_);clear hS;refine bA 0 57 (aM 16 1) ?_;refine bA 1 58 (aM 16 3) ?_;refine bA 2 59 (aM 16 7) ?_;refine gG 3 60 (aM 16 15) rfl hHeld (by rintro w' ⟨s1,s2,s3⟩;go_simp;with_reducible rfl) ?_;refine mD 4 (some 61) (aM 16 31) (fun K hK=>?_);refine mW Tryz.func77 #[.string x.f2] ?_;refine (HWR.out _).mono ?_;rintro e w3 ⟨rfl,hb2⟩;refine⟨_,rfl,?_⟩;refine hK.out _ _ ⟨au hb2 hHeld.1,au hb2 hHeld.2.1,⟨hHeld.2.2.out.trans (hb2.mono hHeld.2.2.out.size)⟩⟩ ?_;clear hb2 hHeld hK K;intro hHeld;refine fH 61 ?_
    cases wt with
    | false=>
     have HW2:ah (V=false):=⟨by rw[HW1.out,Bool.false_and]⟩
     refine bA 5 62 (aM 16 63) ?_;refine bA 6 63 (aM 16 127) ?_;refine fD 7 64 (aM 16 255) ?_;refine fD 8 65 (aM 16 511) ?_;refine fD 9 66 (aM 16 1023) ?_;refine fD 10 67 (aM 16 2047) ?_;refine fD 11 68 (aM 16 4095) ?_;refine fD 12 69 (aM 16 8191) ?_;refine fD 13 70 (aM 16 16383) ?_;refine bA 14 71 (aM 16 32767) ?_;refine bA 15 2 (aM 16 65535) ?_;refine jK aD ?_;have HB3:=hHeld.2.2;clear hHeld
     go_wp2_with fail
     go_ret
     exact⟨by rw[HW2.out] <;> rfl,HB3.out⟩
    | true=>
     have HW2:ah (V=Op.bytesLess k2.toList k1.toList):=⟨by rw[HW1.out,Bool.true_and,MN.out]⟩
     refine bA 5 62 (aM 16 63) ?_;refine bA 6 63 (aM 16 127) ?_;refine bA 7 64 (aM 16 255) ?_;refine gG 8 65 (aM 16 511) rfl hHeld (by rintro w' ⟨s1,s2,s3⟩;go_simp;with_reducible rfl) ?_;refine bA 10 67 (aM 16 1535) ?_;refine gG 11 68 (aM 16 3583) rfl hHeld (by rintro w' ⟨s1,s2,s3⟩;go_simp;with_reducible rfl) ?_;refine mD 9 (some 66) (aM 16 4095) (fun K hK=>?_);refine mW Tryz.func68 #[.string x.f2] ?_;refine (jG.out _).mono ?_;rintro e w3 ⟨rfl,hb2⟩;refine⟨_,rfl,?_⟩;refine hK.out _ _ ⟨au hb2 hHeld.1,au hb2 hHeld.2.1,⟨hHeld.2.2.out.trans (hb2.mono hHeld.2.2.out.size)⟩⟩ ?_;clear hb2 hHeld hK K;intro hHeld;refine fH 66 ?_;refine mD 12 (some 69) (aM 16 8191) (fun K hK=>?_);refine mW Tryz.func68 #[.string x.f1] ?_;refine (jH.out _).mono ?_;rintro e w3 ⟨rfl,hb2⟩;refine⟨_,rfl,?_⟩;refine hK.out _ _ ⟨au hb2 hHeld.1,au hb2 hHeld.2.1,⟨hHeld.2.2.out.trans (hb2.mono hHeld.2.2.out.size)⟩⟩ ?_;clear hb2 hHeld hK K;intro hHeld;refine fH 69 ?_;refine bA 13 70 (aM 16 16383) ?_;refine bA 14 71 (aM 16 32767) ?_;refine bA 15 2 (aM 16 65535) ?_;refine jK aD ?_;have HB3:=hHeld.2.2;clear hHeld
     go_wp2_with fail
     go_ret
     exact⟨by rw[HW2.out] <;> rfl,HB3.out⟩
   have HW2:ah (V=false):=⟨by rw[HW.out,Bool.eq_false_iff.2 hb,Bool.false_and]⟩
   go_upto_region 12 with (fail)
   go_cut [6] (fun v6 wc=>v6=.bool false∧wc=W2)
   case first=>
    by_cases b3:x.f3=0
    ·have g3:(x.f3 == 0)=true:=beq_iff_eq.2 b3;by_cases b4:x.f4.length=0
     ·have b5:¬x.f5.length=0:=fun h=>hb (by unfold iy;rw[decide_eq_true b3,decide_eq_true b4,decide_eq_true h];rfl)
      have g4:((x.f4.length:Int) == 0)=true:=beq_iff_eq.2 aj;have g5:((x.f5.length:Int) == 0)=false:=beq_eq_false_iff_ne.2 aj;have g6:(x.f4.length == 0)=true:=beq_iff_eq.2 b4;have g7:(x.f5.length == 0)=false:=beq_eq_false_iff_ne.2 b5;clear hb b3 b4 b5
      go_wp2_with fail
      go_meet
      case rel=>exact⟨rfl,rfl⟩
     have g4:((x.f4.length:Int) == 0)=false:=beq_eq_false_iff_ne.2 aj;have g6:(x.f4.length == 0)=false:=beq_eq_false_iff_ne.2 b4;clear hb b3 b4
     go_wp2_with fail
     go_meet
     case rel=>exact⟨rfl,rfl⟩
    have g3:(x.f3 == 0)=false:=beq_eq_false_iff_ne.2 b3;clear hb b3
    go_wp2_with fail
    go_meet
    case rel=>exact⟨rfl,rfl⟩
   case rest=>
    obtain⟨rfl,hwc⟩:=hcut;obtain rfl:W2=wc:=hwc.symm;clear hb
    go_upto_region 13 with (fail)
    have hdr:=bf (Below.refl W2.heap.size W2)
    have hS:(fun w'=>w'.cell? ⟨g,2,none⟩=some (.string x.f2)∧w'.cell? ⟨g,1,none⟩=some (.string x.f1)∧ah (Below w.heap.size w w')) W2.drew:=⟨au hdr n2,au hdr n1,⟨HB2.out.b.trans (hdr.mono HB2.out.b.size)⟩⟩
    clear hdr n0 n1 n2 n3 n4 n5 n7;refine jJ (n:=16) (S:=(fun w'=>w'.cell? ⟨g,2,none⟩=some (.string x.f2)∧w'.cell? ⟨g,1,none⟩=some (.string x.f1)∧ah (Below w.heap.size w w'))) (ds:=[]) (aM 16 0) aD rfl rfl hS (fun hHeld=>?_);clear hS;refine bA 0 57 (aM 16 1) ?_;refine bA 1 58 (aM 16 3) ?_;refine fD 2 59 (aM 16 7) ?_;refine fD 3 60 (aM 16 15) ?_;refine fD 4 61 (aM 16 31) ?_;refine bA 5 62 (aM 16 63) ?_;refine bA 6 63 (aM 16 127) ?_;refine fD 7 64 (aM 16 255) ?_;refine fD 8 65 (aM 16 511) ?_;refine fD 9 66 (aM 16 1023) ?_;refine fD 10 67 (aM 16 2047) ?_;refine fD 11 68 (aM 16 4095) ?_;refine fD 12 69 (aM 16 8191) ?_;refine fD 13 70 (aM 16 16383) ?_;refine bA 14 71 (aM 16 32767) ?_;refine bA 15 2 (aM 16 65535) ?_;refine jK aD ?_;have HB3:=hHeld.2.2;clear hHeld
    go_wp2_with fail
    go_ret
    exact⟨by rw[HW2.out] <;> rfl,HB3.out⟩
  have e4:(x.f0 == 4)=false:=beq_eq_false_iff_ne.2 k4
  have HW:ah (V=false):=⟨by rw[wU.out];unfold fV;rw[if_neg k1,if_neg aj,if_neg aj,if_neg k4]⟩
  clear k1 k23 k4 wU
  go_wp2_with fail
  go_ret
  exact⟨by rw[HW.out] <;> rfl,HB2.out.b⟩
 have HW:ah (V=false):=⟨by rw[← HV.out,decide_eq_false hst,Bool.false_and]⟩
 have d1:decide ((0:Int)<(st.length:Int))=true:=decide_eq_true aj;have d2:decide (0<st.length)=true:=decide_eq_true aj;clear HV hst
 go_wp2_with fail
 go_ret
 exact⟨by rw[HW.out] <;> rfl,HB2.out.b⟩
theorem uN (most:Int):∀(l:List Ru) (last all:Int),(∃a,dL most last all l=some a)↔iI last l=true∧∀r∈l,r.f1≤most
 | [],last,all=>by simp[dL,iI]
 | r::l,last,all=>by
  rw[dL,iI];have ih:=uN most l r.f1 (all+(r.f1 - r.f0));by_cases h1:r.f0≤last∨r.f1≤r.f0
  ·rw[if_pos aj,if_pos h1];simp
  rw[if_neg h1];by_cases h2:most<r.f1
  ·rw[if_pos aj];simp only[reduceCtorEq,exists_false,false_iff,not_and];intro _ h;have:=h r List.mem_cons_self;omega
  rw[if_neg aj,ih];constructor
  ·rintro⟨a,b⟩;exact⟨a,fun q hq=>by rcases List.mem_cons.1 hq with rfl|hq;omega;exact b q hq⟩
  rintro⟨a,b⟩;exact⟨a,fun q hq=>b q (List.mem_cons_of_mem _ hq)⟩
theorem En:∀(l:List Ru) (last:Int),iI last l=true→∀r∈l,∀z,l.getLast?=some z→r.f1≤z.f1
 | [],_,_,r,hr,_,_=>by cases hr
 | a::l,last,h,r,hr,z,hz=>by
  rw[iI] at h;split at h
  ·cases h
  cases l with
  | nil=>
   rw[List.mem_singleton.1 hr];obtain rfl:=Option.some.inj hz;exact Int.le_refl _
  | cons b l=>
   rw[List.getLast?_cons_cons] at hz;have ih:=En (b::l) a.f1 h
   rcases List.mem_cons.1 hr with rfl|hr
   ·have h1:=ih b List.mem_cons_self z hz;rw[iI] at h;split at h
    ·cases h
    omega
   exact ih r hr z hz
theorem J3 (m m':Int):∀(l:List Ru) (last all a a':Int),dL m last all l=some a→dL m' last all l=some a'→a=a'
 | [],_,_,_,_,h,h'=>by rw[dL] at h h';rw[← Option.some.inj h,Option.some.inj h']
 | r::l,last,all,a,a',h,h'=>by
  rw[dL] at h h';split at h
  ·cases h
  split at h'
  ·cases h'
  exact J3 m m' l _ _ a a' h h'
def uf (l:List Ru) (most:Int):Bool:=match l.getLast? with
 | none=>true
 | some r=>decide (r.f1≤most)
theorem QI {l:List Ru} {most last:Int} (h:iI last l=true):uf l most=true↔∀r∈l,r.f1≤most:=by
 unfold uf
 cases hg:l.getLast? with
 | none=>rw[List.getLast?_eq_none_iff.1 hg];simp
 | some z=>
  dsimp only;rw[decide_eq_true_eq];exact⟨fun hz r hr=>by have:=En l last h r hr z hg;omega,fun hz=>hz z (List.mem_of_getLast? hg)⟩
theorem Ye (kd:Int) (x:It) (st:List Ru):ko ⟨kd,x,st⟩=(decide (x.f0=1) && (decide (x.f2.size=0) && (iI (-1) x.f4 && (decide (0≤x.f3) && (decide (x.f3≤8459264) && (uf x.f4 ((x.f3+511) / 512) && (iI (-1) st && (dO st x.f4 && dW x.f3 st x.f5)))))))):=by
 unfold ko jk;dsimp only;by_cases hs:x.f3<0∨8459264<x.f3
 ·rw[if_pos hs]
  have:(decide (0≤x.f3) && (decide (x.f3≤8459264) && (uf x.f4 ((x.f3+511) / 512) && (iI (-1) st && (dO st x.f4 && dW x.f3 st x.f5)))))=false:=by
   rcases hs with h|h
   ·rw[decide_eq_false aj];rfl
   rw[decide_eq_false (p:=x.f3≤8459264) aj,Bool.false_and,Bool.and_false]
  rw[this];simp
 rw[if_neg hs,decide_eq_true (p:=0≤x.f3) aj,decide_eq_true (p:=x.f3≤8459264) aj,Bool.true_and,Bool.true_and];have ht:=uN ((x.f3+511) / 512) x.f4 (-1) 0;have hpa:iw x.f4 ((x.f3+511) / 512)=dL ((x.f3+511) / 512) (-1) 0 x.f4:=rfl;by_cases ha:iI (-1) x.f4=true
 ·have hle:=QI (most:=(x.f3+511) / 512) ha;by_cases hl:uf x.f4 ((x.f3+511) / 512)=true
  ·obtain⟨a,hap⟩:=ht.2 ⟨ha,hle.1 hl⟩;rw[hpa,hap,ha,hl,Bool.true_and,Bool.true_and];dsimp only;by_cases hk:x.f0≠1∨x.f2.size≠0
   ·rw[if_pos hk]
    rcases hk with h|h
    ·rw[decide_eq_false h];rfl
    rw[decide_eq_false h];simp
   rw[if_neg hk,decide_eq_true aj,decide_eq_true (p:=x.f2.size=0) aj,Bool.true_and,Bool.true_and]
   have hf:dW x.f3 st x.f5=rJ x.f3 x.f5 (gy x.f3 (-1) 0 st):=by unfold dW;rw[if_neg hs]
   by_cases hq:iI (-1) st=true
   ·rw[hq,Bool.true_and];by_cases hw:dO st x.f4=true
    ·have hb:∀r∈st,r.f1≤(x.f3+511) / 512:=fun r hr=>by
      obtain⟨q,hq,h⟩:=Df st x.f4 hw r hr;have:=hle.1 hl q hq;omega
     obtain⟨n1,e1⟩:=(uN 16522 st (-1) 0).2 ⟨hq,fun r hr=>by have:=hb r hr;omega⟩;obtain⟨n2,e2⟩:=(uN ((x.f3+511) / 512) st (-1) 0).2 ⟨hq,hb⟩;have e3:=J3 _ _ st _ _ _ _ e1 e2;subst e3;rw[show iw st 16522=some n1 from e1,hf,Hq,show iw st ((x.f3+511) / 512)=some n1 from e2]
    rw[Bool.eq_false_iff.2 hw,Bool.false_and]
    cases iw st 16522 <;> rfl
   rw[Bool.eq_false_iff.2 hq,Bool.false_and]
   cases he:iw st 16522 with
   | none=>rfl
   | some n=>exact absurd ((uN 16522 st (-1) 0).1 ⟨n,he⟩).1 hq
  rw[Bool.eq_false_iff.2 hl,Bool.false_and,Bool.and_false,Bool.and_false,Bool.and_false,hpa]
  cases he:dL ((x.f3+511) / 512) (-1) 0 x.f4 with
  | none=>rfl
  | some n=>exact absurd (hle.2 (ht.1 ⟨n,he⟩).2) hl
 rw[Bool.eq_false_iff.2 ha,Bool.false_and,Bool.and_false,Bool.and_false,hpa]
 cases he:dL ((x.f3+511) / 512) (-1) 0 x.f4 with
 | none=>rfl
 | some n=>exact absurd (ht.1 ⟨n,he⟩).1 ha
theorem Ck (A:Option Addr) (c:Nat) (l:List Ru) (B:Option Addr) (cb:Nat) (o:List Ru) (w:World) (hr:Kd.C dw w A l.length l) (hc:l.length≤c) (ho:Kd.C dw w B o.length o) (hcb:o.length≤cb) (hn:l.length≤140737488351232) (hm:o.length≤140737488351232) :
  Calls Tryz.prog 112 #[.slice A l.length c,.slice B o.length cb] w fun e w'=>e=.returned (.bool (dO l o))∧Below w.heap.size w w':=by
 obtain⟨V,hV⟩:∃V,dO l o=V:=⟨_,rfl⟩
 rw[hV];have HV:=ah.mk hV;have HR:=ah.mk hr;have HO:=ah.mk ho;clear hV hr ho
 go_enter Tryz.func112,Tryz.ntmps112
 go_wp2_with fail
 go_loopg [5,6] l.length (fun g s5 s6 wx=>∃(i j:Nat),i+g=l.length∧s5=.int .i64 j∧s6=.int .i64 i∧j≤o.length∧ah (dO (l.drop i) (o.drop j)=V)∧ah (Below w.heap.size w wx))
 case atStart=>exact⟨0,0,by omega,rfl,rfl,by omega,HV,⟨Below.refl _ _⟩⟩
 case round=>
  obtain⟨i,j,hig,rfl,rfl,hj,HA,HB⟩:=hrel;by_cases hi:i<l.length
  ·have d1:decide ((i:Int)<(l.length:Int))=true:=decide_eq_true aj;have d2:decide (i<l.length)=true:=decide_eq_true hi;have hA:=HA.out;rw[List.drop_eq_getElem_cons hi,dO] at hA
   obtain⟨q,hq⟩:∃q,l[i]=q:=⟨_,rfl⟩
   rw[hq] at hA;have HQ:=ah.mk hq;have HA2:=ah.mk hA
   obtain⟨wo,rfl⟩:∃wo,wo=wr:=⟨_,rfl⟩
   obtain⟨go,rfl⟩:∃go,go=gk:=⟨_,rfl⟩
   have q0:(0≤(i:Int))=True:=eq_true aj;have q1:((i:Int)<(l.length:Int))=True:=eq_true aj;clear hA hq HA HV
   go_wp2_with fail
   go_loopg [5] (o.length - j) (fun g s5 wx=>∃k:Nat,k+g=o.length∧s5=.int .i64 k∧ah ((o.drop j).dropWhile (fun q'=>decide (q'.f1<q.f1))=(o.drop k).dropWhile (fun q'=>decide (q'.f1<q.f1)))∧ah (Below w.heap.size w wx))
   case atStart=>exact⟨j,by omega,rfl,⟨rfl⟩,HB⟩
   case round=>
    obtain⟨k,hkg,rfl,HD,HB2⟩:=hrel;clear HB;obtain⟨ad,hA,r0,r1⟩:=dQ (Kd.aC HR.out HB2.out) (i:Int) aj aj
    have hrd:aQ l (i:Int)=q:=by rw[← HQ.out];simp[aQ,hi]
    rw[hrd,Int.toNat_natCast] at r0 r1;subst hA;by_cases hk:k<o.length
    ·have e1:decide ((k:Int)<(o.length:Int))=true:=decide_eq_true aj;have e2:decide (k<o.length)=true:=decide_eq_true hk;have e3:((k:Int) == (o.length:Int))=false:=beq_eq_false_iff_ne.2 aj;have e4:(k == o.length)=false:=beq_eq_false_iff_ne.2 aj;obtain⟨EC,hA2,s0,s1⟩:=dQ (Kd.aC HO.out HB2.out) (k:Int) aj aj
     have Lf:aQ o (k:Int)=o[k]:=by simp[aQ,hk]
     rw[Lf,Int.toNat_natCast] at s0 s1;subst hA2
     obtain⟨z,hz⟩:∃z,o[k]=z:=⟨_,rfl⟩
     have hD:=HD.out;rw[List.drop_eq_getElem_cons hk,List.dropWhile_cons] at hD;rw[hz] at s0 s1 hD;have q2:(0≤(k:Int))=True:=eq_true aj;have q3:((k:Int)<(o.length:Int))=True:=eq_true aj;have HZ:=ah.mk hz;clear hrd Lf hz HD;by_cases hlt:z.f1<q.f1
     ·rw[if_pos (by rw[decide_eq_true hlt])] at hD;have HD2:=ah.mk hD;have f1:decide (z.f1<q.f1)=true:=decide_eq_true hlt;clear hD hlt
      go_wp2_with fail
      go_quiet (fail)
      go_wp2_with fail
      go_roundg (o.length - (k+1))
      case measure=>omega
      case rel=>exact⟨k+1,by omega,by first|rfl|(push_cast;rfl)|simp,HD2,⟨av HB2.out _⟩⟩
     rw[if_neg (by rw[decide_eq_false hlt];decide)] at hD;have f1:decide (z.f1<q.f1)=false:=decide_eq_false hlt;have hA3:=HA2.out;rw[hD] at hA3;dsimp only at hA3;clear hD hlt;by_cases hw:q.f0<z.f0
     ·rw[if_pos hw] at hA3;have HW:=ah.mk hA3.symm;have f2:decide (q.f0<z.f0)=true:=decide_eq_true hw;clear hA3 hw
      go_wp2_with fail
      go_quiet (fail)
      go_wp2_with fail
      go_quiet (fail)
      go_wp2_with fail
      go_ret
      exact⟨by rw[HW.out] <;> rfl,av (av HB2.out _) _⟩
     rw[if_neg hw] at hA3
     have HA4:ah (dO (l.drop (i+1)) (o.drop k)=V):=⟨by rw[List.drop_eq_getElem_cons hk,HZ.out];exact hA3⟩
     have f2:decide (q.f0<z.f0)=false:=decide_eq_false hw;clear hA3 hw
     go_wp2_with fail
     go_quiet (fail)
     go_wp2_with fail
     go_quiet (fail)
     go_wp2_with fail
     go_roundg (l.length - (i+1))
     case measure=>omega
     case rel=>exact⟨i+1,k,by omega,rfl,by first|rfl|(push_cast;rfl)|simp,by omega,HA4,⟨av HB2.out _⟩⟩
    obtain rfl:k=o.length:=by omega
    have e1:decide ((o.length:Int)<(o.length:Int))=false:=decide_eq_false aj;have e2:decide (o.length<o.length)=false:=decide_eq_false hk;have e3:((o.length:Int) == (o.length:Int))=true:=beq_self_eq_true _;have e4:(o.length == o.length)=true:=beq_self_eq_true _;have hA3:=HA2.out;rw[HD.out,List.drop_of_length_le (Nat.le_refl _)] at hA3;have HW:=ah.mk hA3.symm;clear hA3 hrd
    go_wp2_with fail
    go_quiet (fail)
    go_wp2_with fail
    go_quiet (fail)
    go_wp2_with fail
    go_ret
    exact⟨by rw[HW.out] <;> rfl,av (av HB2.out _) _⟩
  have d1:decide ((i:Int)<(l.length:Int))=false:=decide_eq_false aj;have d2:decide (i<l.length)=false:=decide_eq_false hi;have hA:=HA.out;rw[List.drop_of_length_le aj,dO] at hA;have HW:=ah.mk hA.symm;clear hA
  go_wp2_with fail
  go_ret
  exact⟨by rw[HW.out] <;> rfl,HB.out⟩
structure Hr (w w':World) (g g2:Nat) (cs is rs:Array Value):Prop where
 b:Below w.heap.size w w'
 c:w'.heap[w.heap.size]?=some (.cells cs 31 (0,0))
 i:w'.heap[g]?=some (.cells is 29 (0,0))
 r:w'.heap[g2]?=some (.cells rs 29 (0,0))
theorem Hr.step {w w1 w2:World} {g g2:Nat} {cs is rs:Array Value} (h:Hr w w1 g g2 cs is rs) (hb:Below w1.heap.size w1 w2):Hr w w2 g g2 cs is rs:=⟨h.b.trans (hb.mono h.b.size),aJ h.c hb,aJ h.i hb,aJ h.r hb⟩
theorem Hr.put {w w1:World} {g g2:Nat} {cs is rs rs':Array Value} (h:Hr w w1 g g2 cs is rs) (i:Nat) (u:Value) (e:rs.setIfInBounds i u=rs') (h1:w.heap.size<g) (h2:g<g2):Hr w (w1.setCell ⟨g2,i,none⟩ u) g g2 cs is rs' :=
 ⟨h.b.setCell (p:=⟨g2,i,none⟩) (by show w.heap.size≤g2;omega) u,fJ h.c (by show w.heap.size≠g2;omega) u,fJ h.i (by show g≠g2;omega) u,gY h.r i u e⟩
theorem QJ (kd:Int) (x:It) (st:List Ru) (A4:Option Addr) (c4:Nat) (A5:Option Addr) (c5:Nat) (A6:Option Addr) (c6:Nat) (w:World) (hr:Kd.C dw w A4 x.f4.length x.f4) (hc4:x.f4.length≤c4) (hd:Kd.C (Kd.int .u8) w A5 x.f5.length x.f5) (IU:x.f5.length≤c5) (h6:Kd.C dw w A6 st.length st) (hc6:st.length≤c6) (hn:st.length≤140737488351232) (hf:Fit x) :
  Calls Tryz.prog 79 #[.agg #[.int .i64 kd,.int .i64 x.f0,.string x.f1,.string x.f2,.int .i64 x.f3,.slice A4 x.f4.length c4,.slice A5 x.f5.length c5,.slice A6 st.length c6]] w fun e w'=>e=.returned (.bool (ko ⟨kd,x,st⟩))∧Below w.heap.size w w':=by
 rw[Ye]
 obtain⟨V,hV⟩:∃V,(decide (x.f0=1) && (decide (x.f2.size=0) && (iI (-1) x.f4 && (decide (0≤x.f3) && (decide (x.f3≤8459264) && (uf x.f4 ((x.f3+511) / 512) && (iI (-1) st && (dO st x.f4 && dW x.f3 st x.f5))))))))=V:=⟨_,rfl⟩
 rw[hV];have HV:=ah.mk hV;have HR:=ah.mk hr;have HD:=ah.mk hd;have H6:=ah.mk h6;have P8:=ah.mk hf;have hp4:=hf.r;have Xf:=hf.d
 obtain⟨W1,hW1⟩:∃W1,w.alloc (.cells #[.int .i64 kd,.int .i64 x.f0,.string x.f1,.string x.f2,.int .i64 x.f3,.slice A4 x.f4.length c4,.slice A5 x.f5.length c5,.slice A6 st.length c6] 31)=W1:=⟨_,rfl⟩
 have hb1:=aG (Below.refl w.heap.size w) (.cells #[.int .i64 kd,.int .i64 x.f0,.string x.f1,.string x.f2,.int .i64 x.f3,.slice A4 x.f4.length c4,.slice A5 x.f5.length c5,.slice A6 st.length c6] 31);have hbx:=bF w (.cells #[.int .i64 kd,.int .i64 x.f0,.string x.f1,.string x.f2,.int .i64 x.f3,.slice A4 x.f4.length c4,.slice A5 x.f5.length c5,.slice A6 st.length c6] 31)
 have hlt:w.heap.size<W1.heap.size:=by rw[← hW1,World.size_alloc];omega
 rw[hW1] at hb1 hbx;have m1:W1.cell? ⟨w.heap.size,1,none⟩=some (.int .i64 x.f0):=ak hbx 1;have m2:W1.cell? ⟨w.heap.size,2,none⟩=some (.string x.f1):=ak hbx 2;have m3:W1.cell? ⟨w.heap.size,3,none⟩=some (.string x.f2):=ak hbx 3;have m4:W1.cell? ⟨w.heap.size,4,none⟩=some (.int .i64 x.f3):=ak hbx 4;have m5:W1.cell? ⟨w.heap.size,5,none⟩=some (.slice A4 x.f4.length c4):=ak hbx 5;have m6:W1.cell? ⟨w.heap.size,6,none⟩=some (.slice A5 x.f5.length c5):=ak hbx 6
 have HB2:ah (Yc w (W1.alloc (.cells #[.int .i64 x.f0,.string x.f1,.string x.f2,.int .i64 x.f3,.slice A4 x.f4.length c4,.slice A5 x.f5.length c5] 29)) W1.heap.size #[.int .i64 kd,.int .i64 x.f0,.string x.f1,.string x.f2,.int .i64 x.f3,.slice A4 x.f4.length c4,.slice A5 x.f5.length c5,.slice A6 st.length c6] #[.int .i64 x.f0,.string x.f1,.string x.f2,.int .i64 x.f3,.slice A4 x.f4.length c4,.slice A5 x.f5.length c5]):=⟨⟨aG hb1 _,aN hbx _,bF W1 (.cells #[.int .i64 x.f0,.string x.f1,.string x.f2,.int .i64 x.f3,.slice A4 x.f4.length c4,.slice A5 x.f5.length c5] 29)⟩⟩
 clear hV hr hd h6 hf hb1 hbx
 go_enter Tryz.func79,Tryz.ntmps79
 go_upto_region 2 with (fail)
 obtain⟨g,hg⟩:∃g,W1.heap.size=g:=⟨_,rfl⟩
 obtain⟨W2,hW2⟩:∃W2,W1.alloc (.cells #[.int .i64 x.f0,.string x.f1,.string x.f2,.int .i64 x.f3,.slice A4 x.f4.length c4,.slice A5 x.f5.length c5] 29)=W2:=⟨_,rfl⟩
 have hlt2:g<W2.heap.size:=by rw[← hW2,World.size_alloc];omega
 rw[hW2,hg] at HB2;rw[hW2,hg];rw[hg] at hlt;have MN:=ah.mk hlt;have Yf:=ah.mk hlt2;clear m1 m2 m3 m4 m5 m6 hW1 hW2 hg hlt hlt2;have n0:W2.cell? ⟨g,0,none⟩=some (.int .i64 x.f0):=ak HB2.out.i 0;have n2:W2.cell? ⟨g,2,none⟩=some (.string x.f2):=ak HB2.out.i 2;have et:=acY x.f2;by_cases k1:x.f0=1
 ·have e1:(x.f0 != 1)=false:=bne_eq_false_iff_eq.2 k1
  cases hz:(x.f2.toList == ([]:List UInt8)) with
  | false=>
   have e2:(x.f2.toList != ([]:List UInt8))=true:=by rw[bne,hz];rfl
   have e5:x.f2.toList.isEmpty=false:=by cases hl:x.f2.toList with|nil=>rw[hl] at hz;cases hz|cons a l=>rfl
   have HW:ah (V=false):=⟨by rw[← HV.out,et,hz,Bool.false_and,Bool.and_false]⟩
   clear et k1 HV
   go_wp2_with fail
   go_ret
   exact⟨by rw[HW.out] <;> rfl,HB2.out.b⟩
  | true=>
   have e2:(x.f2.toList != ([]:List UInt8))=false:=by rw[bne,hz];rfl
   have e5:x.f2.toList.isEmpty=true:=by cases hl:x.f2.toList with|nil=>rfl|cons a l=>rw[hl] at hz;cases hz
   have wU:ah (V=(iI (-1) x.f4 && (decide (0≤x.f3) && (decide (x.f3≤8459264) && (uf x.f4 ((x.f3+511) / 512) && (iI (-1) st && (dO st x.f4 && dW x.f3 st x.f5))))))):=⟨by rw[← HV.out,et,hz,decide_eq_true k1,Bool.true_and,Bool.true_and]⟩
   have OD:ah (x.f2.size=0):=⟨of_decide_eq_true (by rw[et,hz])⟩
   clear et k1 HV hz
   go_upto_region 6 with (refine eX (.load 29 (.tmp 3)) rfl ?_;refine wpList_load_row rfl _ _ rfl g rfl 29 _ (0,0) _ HB2.out.i Tryz.underlying29 rfl aD ?_)
   have HB3:ah (Hr w (W2.alloc (.cells #[.int .i64 x.f0,.string x.f1,.string x.f2,.int .i64 x.f3,.slice A4 x.f4.length c4,.slice none 0 0] 29)) g W2.heap.size #[.int .i64 kd,.int .i64 x.f0,.string x.f1,.string x.f2,.int .i64 x.f3,.slice A4 x.f4.length c4,.slice A5 x.f5.length c5,.slice A6 st.length c6] #[.int .i64 x.f0,.string x.f1,.string x.f2,.int .i64 x.f3,.slice A4 x.f4.length c4,.slice A5 x.f5.length c5] #[.int .i64 x.f0,.string x.f1,.string x.f2,.int .i64 x.f3,.slice A4 x.f4.length c4,.slice none 0 0]):=⟨⟨aG HB2.out.b _,aN HB2.out.c _,aN HB2.out.i _,bF W2 _⟩⟩
   obtain⟨W3,hW3⟩:∃W3,W2.alloc (.cells #[.int .i64 x.f0,.string x.f1,.string x.f2,.int .i64 x.f3,.slice A4 x.f4.length c4,.slice none 0 0] 29)=W3:=⟨_,rfl⟩
   obtain⟨g2,hg2⟩:∃g,W2.heap.size=g:=⟨_,rfl⟩
   rw[hW3,hg2] at HB3;rw[hW3,hg2];rw[hg2] at Yf;clear hW3 hg2 n0 n2 HB2 e1 e2 e5;have p4:W3.cell? ⟨g,4,none⟩=some (.slice A4 x.f4.length c4):=ak HB3.out.i 4;have hap:=xM A4 c4 x.f4 W3 (Kd.aC HR.out HB3.out.b) hc4 hp4;have hv:=wU.out
   cases hqa:iI (-1) x.f4 with
   | false=>
    rw[hqa] at hap hv;rw[Bool.false_and] at hv;have HAP:=ah.mk hap;have HW:=ah.mk hv;clear hap hv hqa wU
    go_wp2_with (go_at_call 111;refine HAP.out.mono ?_;rintro e w4 ⟨rfl,hb4⟩;have iM:=ah.mk (HB3.out.step hb4);have q3:w4.cell? ⟨g,3,none⟩=some (.int .i64 x.f3):=ak iM.out.i 3;clear hb4)
    go_ret
    exact⟨by rw[HW.out] <;> rfl,iM.out.b⟩
   | true=>
    rw[hqa] at hap hv;rw[Bool.true_and] at hv;have HAP:=ah.mk hap;have JM:=ah.mk hv;clear hap hv hqa wU;by_cases hs:0≤x.f3∧x.f3≤8459264
    ·have Tp:ah (V=(uf x.f4 ((x.f3+511) / 512) && (iI (-1) st && (dO st x.f4 && dW x.f3 st x.f5)))):=⟨by rw[JM.out,decide_eq_true hs.1,decide_eq_true hs.2,Bool.true_and,Bool.true_and]⟩
     have d1:decide (x.f3<0)=false:=decide_eq_false aj;have d2:decide (8459264<x.f3)=false:=decide_eq_false aj;clear JM
     go_upto_region 8 with (go_at_call 111;refine HAP.out.mono ?_;rintro e w4 ⟨rfl,hb4⟩;have iM:=ah.mk (HB3.out.step hb4);have q3:w4.cell? ⟨g,3,none⟩=some (.int .i64 x.f3):=ak iM.out.i 3;clear hb4)
     have q4:w4.cell? ⟨g,4,none⟩=some (.slice A4 x.f4.length c4):=ak iM.out.i 4
     rcases List.eq_nil_or_concat x.f4 with hnil|⟨L,z,hz⟩
     ·have hln:x.f4.length=0:=by rw[hnil];rfl
      have d3:decide ((0:Int)<(x.f4.length:Int))=false:=decide_eq_false aj;have d4:decide (0<x.f4.length)=false:=decide_eq_false aj
      have HV5:ah (V=(iI (-1) st && (dO st x.f4 && dW x.f3 st x.f5))):=⟨by rw[Tp.out,hnil];rfl⟩
      clear Tp hnil hln;have b7:w4.cell? ⟨w.heap.size,7,none⟩=some (.slice A6 st.length c6):=ak iM.out.c 7
      have DT:=fun nq=>xM A6 c6 st (w4.drewN nq) (Kd.aC H6.out (av iM.out.b nq)) hc6 hn
      have hv:=HV5.out
      cases JN:iI (-1) st with
      | false=>
       rw[JN,Bool.false_and] at hv;rw[JN] at DT;have Ll:=ah.mk DT;have HW:=ah.mk hv;clear DT hv JN HV5
       (go_wp2_with fail);(go_quiet (fail))
       go_wp2_with (go_at_call 111;refine (Ll.out _).mono ?_;rintro e w5 ⟨rfl,hb5⟩;have kW:=ah.mk ((iM.out.step (av (Below.refl _ _) _)).step hb5);have c7:w5.cell? ⟨w.heap.size,7,none⟩=some (.slice A6 st.length c6):=ak kW.out.c 7;have i4:w5.cell? ⟨g,4,none⟩=some (.slice A4 x.f4.length c4):=ak kW.out.i 4;clear hb5)
       go_ret
       exact⟨by rw[HW.out] <;> rfl,kW.out.b⟩
      | true=>
       rw[JN,Bool.true_and] at hv;rw[JN] at DT;have Ll:=ah.mk DT;clear DT JN HV5
       have hwi:=fun (w5:World) (hb:Below w.heap.size w w5)=>Ck A6 c6 st A4 c4 x.f4 w5 (Kd.aC H6.out hb) hc6 (Kd.aC HR.out hb) hc4 hn hp4
       cases Vi:dO st x.f4 with
       | false=>
        rw[Vi,Bool.false_and] at hv;rw[Vi] at hwi;have HWI:=ah.mk hwi;have HW:=ah.mk hv;clear hwi hv Vi
        (go_wp2_with fail);(go_quiet (fail))
        go_wp2_with (first|(go_at_call 111;refine (Ll.out _).mono ?_;rintro e w5 ⟨rfl,hb5⟩;have kW:=ah.mk ((iM.out.step (av (Below.refl _ _) _)).step hb5);have c7:w5.cell? ⟨w.heap.size,7,none⟩=some (.slice A6 st.length c6):=ak kW.out.c 7;have i4:w5.cell? ⟨g,4,none⟩=some (.slice A4 x.f4.length c4):=ak kW.out.i 4;clear hb5)|(go_at_call 112;refine (HWI.out _ kW.out.b).mono ?_;rintro e w6 ⟨rfl,hb6⟩;have oD:=ah.mk (kW.out.step hb6);clear hb6))
        go_ret
        exact⟨by rw[HW.out] <;> rfl,oD.out.b⟩
       | true=>
        rw[Vi,Bool.true_and] at hv;rw[Vi] at hwi;have HWI:=ah.mk hwi;have HW:=ah.mk hv;clear hwi hv Vi
        (go_wp2_with fail);(go_quiet (fail))
        go_upto_region 12 with (first|(go_at_call 111;refine (Ll.out _).mono ?_;rintro e w5 ⟨rfl,hb5⟩;have kW:=ah.mk ((iM.out.step (av (Below.refl _ _) _)).step hb5);have c7:w5.cell? ⟨w.heap.size,7,none⟩=some (.slice A6 st.length c6):=ak kW.out.c 7;have i4:w5.cell? ⟨g,4,none⟩=some (.slice A4 x.f4.length c4):=ak kW.out.i 4;clear hb5)|(go_at_call 112;refine (HWI.out _ kW.out.b).mono ?_;rintro e w6 ⟨rfl,hb6⟩;have oD:=ah.mk (kW.out.step hb6);clear hb6))
        have j7:w6.cell? ⟨w.heap.size,7,none⟩=some (.slice A6 st.length c6):=ak oD.out.c 7;have j4:w6.cell? ⟨g2,4,none⟩=some (.slice A4 x.f4.length c4):=ak oD.out.r 4;have jf:w6.frozen? ⟨g2,4,none⟩=false:=ay oD.out.r 4
        have CX:ah (Hr w (w6.setCell ⟨g2,4,none⟩ (.slice A6 st.length c6)) g g2 #[.int .i64 kd,.int .i64 x.f0,.string x.f1,.string x.f2,.int .i64 x.f3,.slice A4 x.f4.length c4,.slice A5 x.f5.length c5,.slice A6 st.length c6] #[.int .i64 x.f0,.string x.f1,.string x.f2,.int .i64 x.f3,.slice A4 x.f4.length c4,.slice A5 x.f5.length c5] #[.int .i64 x.f0,.string x.f1,.string x.f2,.int .i64 x.f3,.slice A6 st.length c6,.slice none 0 0]):=⟨oD.out.put 4 _ rfl MN.out Yf.out⟩
        have j5:(w6.setCell ⟨g2,4,none⟩ (.slice A6 st.length c6)).cell? ⟨g,5,none⟩=some (.slice A5 x.f5.length c5):=ak CX.out.i 5;have j6:(w6.setCell ⟨g2,4,none⟩ (.slice A6 st.length c6)).cell? ⟨g2,5,none⟩=some (.slice none 0 0):=ak CX.out.r 5;have jg:(w6.setCell ⟨g2,4,none⟩ (.slice A6 st.length c6)).frozen? ⟨g2,5,none⟩=false:=ay CX.out.r 5
        have Ec:ah (Hr w ((w6.setCell ⟨g2,4,none⟩ (.slice A6 st.length c6)).setCell ⟨g2,5,none⟩ (.slice A5 x.f5.length c5)) g g2 #[.int .i64 kd,.int .i64 x.f0,.string x.f1,.string x.f2,.int .i64 x.f3,.slice A4 x.f4.length c4,.slice A5 x.f5.length c5,.slice A6 st.length c6] #[.int .i64 x.f0,.string x.f1,.string x.f2,.int .i64 x.f3,.slice A4 x.f4.length c4,.slice A5 x.f5.length c5] #[.int .i64 x.f0,.string x.f1,.string x.f2,.int .i64 x.f3,.slice A6 st.length c6,.slice A5 x.f5.length c5]):=⟨CX.out.put 5 _ rfl MN.out Yf.out⟩
        go_upto_region 14 with (fail)
        have hfl:=Ad ⟨x.f0,x.f1,x.f2,x.f3,st,x.f5⟩ A6 c6 A5 c5 _ (Kd.aC H6.out Ec.out.b) hc6 (Kd.aC HD.out Ec.out.b) IU ⟨P8.out.p,P8.out.t,hn,Xf,P8.out.b⟩;rw[show (decide ((⟨x.f0,x.f1,x.f2,x.f3,st,x.f5⟩:It).f2.size=0) && dW x.f3 st x.f5)=V by rw[HW.out];show (decide (x.f2.size=0) && _)=_;rw[decide_eq_true OD.out,Bool.true_and]] at hfl;have HFL:=ah.mk hfl;clear hfl j7 j4 jf j5 j6 jg
        go_wp2_with (first|(refine eX (.load 29 (.tmp 4)) rfl ?_;refine wpList_load_row rfl _ _ rfl g2 rfl 29 _ (0,0) _ Ec.out.r Tryz.underlying29 rfl aD ?_)|(go_at_call 110;refine HFL.out.mono ?_;rintro e w9 ⟨rfl,K7⟩;have V4:=ah.mk (Ec.out.step K7);clear K7))
        go_ret
        exact⟨rfl,V4.out.b⟩
     rw[List.concat_eq_append] at hz
     have hln:x.f4.length=L.length+1:=by rw[hz];simp
     have d3:decide ((0:Int)<(x.f4.length:Int))=true:=decide_eq_true aj;have d4:decide (0<x.f4.length)=true:=decide_eq_true aj;obtain⟨ad,hA,r0,r1⟩:=dQ (Kd.aC HR.out iM.out.b) ((x.f4.length:Int) - 1) aj aj
     have hrd:aQ x.f4 ((x.f4.length:Int) - 1)=z:=by
      unfold aQ;rw[show (((x.f4.length:Int)) - 1).toNat=L.length by omega,hz];simp
     rw[hrd,show ((x.f4.length:Int) - 1).toNat=x.f4.length - 1 by omega] at r0 r1;subst hA;have hw1:wrap64 ((x.f4.length:Int) - 1)=(x.f4.length:Int) - 1:=fq aj aj;have hw2:wrap64 (x.f3+511)=x.f3+511:=fq aj aj
     have hw3:IntKind.i64.wrap ((x.f4.length:Int) - 1)=(x.f4.length:Int) - 1:=by rw[IntKind.wrap_i64];omega
     have hw4:IntKind.i64.wrap (x.f3+511)=x.f3+511:=by rw[IntKind.wrap_i64];omega
     have x1:(1≤x.f4.length)=True:=eq_true aj;have x4:(1≤(x.f4.length:Int))=True:=eq_true aj;have x2:(0≤(x.f4.length:Int) - 1)=True:=eq_true aj;have x3:((x.f4.length:Int) - 1<(x.f4.length:Int))=True:=eq_true aj
     have hlast:uf x.f4 ((x.f3+511) / 512)=decide (z.f1≤(x.f3+511) / 512):=by
      unfold uf;rw[hz,List.getLast?_append];rfl
     rw[hlast] at Tp;clear hrd hlast hz;by_cases hle:z.f1≤(x.f3+511) / 512
     ·have d5:decide ((x.f3+511) / 512<z.f1)=false:=decide_eq_false aj
      have HV5:ah (V=(iI (-1) st && (dO st x.f4 && dW x.f3 st x.f5))):=⟨by rw[Tp.out,decide_eq_true hle,Bool.true_and]⟩
      have Nq:=ah.mk hln;clear Tp hle hln;have b7:w4.cell? ⟨w.heap.size,7,none⟩=some (.slice A6 st.length c6):=ak iM.out.c 7
      have DT:=fun nq=>xM A6 c6 st (w4.drewN nq) (Kd.aC H6.out (av iM.out.b nq)) hc6 hn
      have hv:=HV5.out
      cases JN:iI (-1) st with
      | false=>
       rw[JN,Bool.false_and] at hv;rw[JN] at DT;have Ll:=ah.mk DT;have HW:=ah.mk hv;clear DT hv JN HV5
       (go_wp2_with fail);(go_quiet (fail))
       go_wp2_with (go_at_call 111;refine (Ll.out _).mono ?_;rintro e w5 ⟨rfl,hb5⟩;have kW:=ah.mk ((iM.out.step (av (Below.refl _ _) _)).step hb5);have c7:w5.cell? ⟨w.heap.size,7,none⟩=some (.slice A6 st.length c6):=ak kW.out.c 7;have i4:w5.cell? ⟨g,4,none⟩=some (.slice (some ad) x.f4.length c4):=ak kW.out.i 4;clear hb5)
       go_ret
       exact⟨by rw[HW.out] <;> rfl,kW.out.b⟩
      | true=>
       rw[JN,Bool.true_and] at hv;rw[JN] at DT;have Ll:=ah.mk DT;clear DT JN HV5
       have hwi:=fun (w5:World) (hb:Below w.heap.size w w5)=>Ck A6 c6 st (some ad) c4 x.f4 w5 (Kd.aC H6.out hb) hc6 (Kd.aC HR.out hb) hc4 hn hp4
       cases Vi:dO st x.f4 with
       | false=>
        rw[Vi,Bool.false_and] at hv;rw[Vi] at hwi;have HWI:=ah.mk hwi;have HW:=ah.mk hv;clear hwi hv Vi
        (go_wp2_with fail);(go_quiet (fail))
        go_wp2_with (first|(go_at_call 111;refine (Ll.out _).mono ?_;rintro e w5 ⟨rfl,hb5⟩;have kW:=ah.mk ((iM.out.step (av (Below.refl _ _) _)).step hb5);have c7:w5.cell? ⟨w.heap.size,7,none⟩=some (.slice A6 st.length c6):=ak kW.out.c 7;have i4:w5.cell? ⟨g,4,none⟩=some (.slice (some ad) x.f4.length c4):=ak kW.out.i 4;clear hb5)|(go_at_call 112;refine (HWI.out _ kW.out.b).mono ?_;rintro e w6 ⟨rfl,hb6⟩;have oD:=ah.mk (kW.out.step hb6);clear hb6))
        go_ret
        exact⟨by rw[HW.out] <;> rfl,oD.out.b⟩
       | true=>
        rw[Vi,Bool.true_and] at hv;rw[Vi] at hwi;have HWI:=ah.mk hwi;have HW:=ah.mk hv;clear hwi hv Vi
        (go_wp2_with fail);(go_quiet (fail))
        go_upto_region 12 with (first|(go_at_call 111;refine (Ll.out _).mono ?_;rintro e w5 ⟨rfl,hb5⟩;have kW:=ah.mk ((iM.out.step (av (Below.refl _ _) _)).step hb5);have c7:w5.cell? ⟨w.heap.size,7,none⟩=some (.slice A6 st.length c6):=ak kW.out.c 7;have i4:w5.cell? ⟨g,4,none⟩=some (.slice (some ad) x.f4.length c4):=ak kW.out.i 4;clear hb5)|(go_at_call 112;refine (HWI.out _ kW.out.b).mono ?_;rintro e w6 ⟨rfl,hb6⟩;have oD:=ah.mk (kW.out.step hb6);clear hb6))
        have j7:w6.cell? ⟨w.heap.size,7,none⟩=some (.slice A6 st.length c6):=ak oD.out.c 7;have j4:w6.cell? ⟨g2,4,none⟩=some (.slice (some ad) x.f4.length c4):=ak oD.out.r 4;have jf:w6.frozen? ⟨g2,4,none⟩=false:=ay oD.out.r 4
        have CX:ah (Hr w (w6.setCell ⟨g2,4,none⟩ (.slice A6 st.length c6)) g g2 #[.int .i64 kd,.int .i64 x.f0,.string x.f1,.string x.f2,.int .i64 x.f3,.slice (some ad) x.f4.length c4,.slice A5 x.f5.length c5,.slice A6 st.length c6] #[.int .i64 x.f0,.string x.f1,.string x.f2,.int .i64 x.f3,.slice (some ad) x.f4.length c4,.slice A5 x.f5.length c5] #[.int .i64 x.f0,.string x.f1,.string x.f2,.int .i64 x.f3,.slice A6 st.length c6,.slice none 0 0]):=⟨oD.out.put 4 _ rfl MN.out Yf.out⟩
        have j5:(w6.setCell ⟨g2,4,none⟩ (.slice A6 st.length c6)).cell? ⟨g,5,none⟩=some (.slice A5 x.f5.length c5):=ak CX.out.i 5;have j6:(w6.setCell ⟨g2,4,none⟩ (.slice A6 st.length c6)).cell? ⟨g2,5,none⟩=some (.slice none 0 0):=ak CX.out.r 5;have jg:(w6.setCell ⟨g2,4,none⟩ (.slice A6 st.length c6)).frozen? ⟨g2,5,none⟩=false:=ay CX.out.r 5
        have Ec:ah (Hr w ((w6.setCell ⟨g2,4,none⟩ (.slice A6 st.length c6)).setCell ⟨g2,5,none⟩ (.slice A5 x.f5.length c5)) g g2 #[.int .i64 kd,.int .i64 x.f0,.string x.f1,.string x.f2,.int .i64 x.f3,.slice (some ad) x.f4.length c4,.slice A5 x.f5.length c5,.slice A6 st.length c6] #[.int .i64 x.f0,.string x.f1,.string x.f2,.int .i64 x.f3,.slice (some ad) x.f4.length c4,.slice A5 x.f5.length c5] #[.int .i64 x.f0,.string x.f1,.string x.f2,.int .i64 x.f3,.slice A6 st.length c6,.slice A5 x.f5.length c5]):=⟨CX.out.put 5 _ rfl MN.out Yf.out⟩
        go_upto_region 14 with (fail)
        have hfl:=Ad ⟨x.f0,x.f1,x.f2,x.f3,st,x.f5⟩ A6 c6 A5 c5 _ (Kd.aC H6.out Ec.out.b) hc6 (Kd.aC HD.out Ec.out.b) IU ⟨P8.out.p,P8.out.t,hn,Xf,P8.out.b⟩;rw[show (decide ((⟨x.f0,x.f1,x.f2,x.f3,st,x.f5⟩:It).f2.size=0) && dW x.f3 st x.f5)=V by rw[HW.out];show (decide (x.f2.size=0) && _)=_;rw[decide_eq_true OD.out,Bool.true_and]] at hfl;have HFL:=ah.mk hfl;clear hfl j7 j4 jf j5 j6 jg
        go_wp2_with (first|(refine eX (.load 29 (.tmp 4)) rfl ?_;refine wpList_load_row rfl _ _ rfl g2 rfl 29 _ (0,0) _ Ec.out.r Tryz.underlying29 rfl aD ?_)|(go_at_call 110;refine HFL.out.mono ?_;rintro e w9 ⟨rfl,K7⟩;have V4:=ah.mk (Ec.out.step K7);clear K7))
        go_ret
        exact⟨rfl,V4.out.b⟩
     have d5:decide ((x.f3+511) / 512<z.f1)=true:=decide_eq_true aj
     have HW:ah (V=false):=⟨by rw[Tp.out,decide_eq_false hle,Bool.false_and]⟩
     have Nq:=ah.mk hln;clear Tp hle hln
     go_wp2_with fail
     go_quiet (fail)
     go_wp2_with fail
     go_ret
     exact⟨by rw[HW.out] <;> rfl,av iM.out.b _⟩
    have HW:ah (V=false):=⟨by
     rw[JM.out];by_cases h0:0≤x.f3
     ·rw[decide_eq_false (show ¬x.f3≤8459264 from fun h=>hs ⟨h0,h⟩),Bool.false_and,Bool.and_false]
     rw[decide_eq_false h0,Bool.false_and]⟩
    by_cases h0:x.f3<0
    ·have d1:decide (x.f3<0)=true:=decide_eq_true h0;clear JM h0 hs
     go_wp2_with (go_at_call 111;refine HAP.out.mono ?_;rintro e w4 ⟨rfl,hb4⟩;have iM:=ah.mk (HB3.out.step hb4);have q3:w4.cell? ⟨g,3,none⟩=some (.int .i64 x.f3):=ak iM.out.i 3;clear hb4)
     go_ret
     exact⟨by rw[HW.out] <;> rfl,iM.out.b⟩
    have d1:decide (x.f3<0)=false:=decide_eq_false h0;have d2:decide (8459264<x.f3)=true:=decide_eq_true aj;clear JM h0 hs
    go_wp2_with (go_at_call 111;refine HAP.out.mono ?_;rintro e w4 ⟨rfl,hb4⟩;have iM:=ah.mk (HB3.out.step hb4);have q3:w4.cell? ⟨g,3,none⟩=some (.int .i64 x.f3):=ak iM.out.i 3;clear hb4)
    go_ret
    exact⟨by rw[HW.out] <;> rfl,iM.out.b⟩
 have e1:(x.f0 != 1)=true:=bne_iff_ne.2 k1
 have HW:ah (V=false):=⟨by rw[← HV.out,decide_eq_false k1,Bool.false_and]⟩
 clear et k1 HV
 go_wp2_with fail
 go_ret
 exact⟨by rw[HW.out] <;> rfl,HB2.out.b⟩
end Go.Proofs.YtknihldkhedpkaaGreatDoor
end
