import Derived.Test.YtknihldkhedpkaaGreatDoorYYG11
import Derived.Test.YtknihldkhedpkaaGreatDoorYYG18
import Derived.Test.YtknihldkhedpkaaGreatDoorYYG23
import Derived.Test.YtknihldkhedpkaaGreatDoorYYG14
import Derived.Outline
import Derived.Laws.Rows
set_option linter.all false
set_option maxHeartbeats 16000000
set_option maxRecDepth 100000
namespace Go.Proofs.YtknihldkhedpkaaGreatDoor
open Go.RowKit Go.Lib
open Go.Proofs.YtknihldkhedpkaaGreatDoorW.PrintWords Go.Proofs.YtknihldkhedpkaaGreatDoorW.PrintLast Go.Proofs.YtknihldkhedpkaaGreatDoor.PT
attribute [local go_sem] Oper.semAt_some
theorem AX {l:List Int} (h:∀x∈l,0≤x∧x≤255) (i:Int):0≤rd l i∧rd l i≤255:=by
 unfold rd
 rcases Nat.lt_or_ge i.toNat l.length with hi|hi
 ·simp only[List.getElem?_eq_getElem hi,Option.getD_some,List.getD_eq_getElem?_getD];exact h _ (List.getElem_mem hi)
 ·simp only[List.getElem?_eq_none hi,Option.getD_none,List.getD_eq_getElem?_getD];omega
theorem pI {l:List Int} (h:∀x∈l,0≤x∧x≤255):0≤jl l∧jl l≤4294967295:=by
 unfold jl;have h1:=AX h ((l.length:Int) - 1);have h2:=AX h ((l.length:Int) - 2);have h3:=AX h ((l.length:Int) - 3);have h4:=AX h ((l.length:Int) - 4);omega
theorem eU.calls (A0:Option Addr) (c0:Nat) (l0:List It) (A1:Option Addr) (c1:Nat) (l1:List It) (r1:List Int) (r2:Int) (w:World)
  (hr0:Kd.C oW w A0 l0.length l0) (hc0:l0.length≤c0) (hr1:Kd.C oW w A1 l1.length l1) (hc1:l1.length≤c1)
  (h:eU.f l0 l1=some (r1,r2)) :
  Calls Tryz.prog 18 #[.slice A0 l0.length c0,.slice A1 l1.length c1] w fun e w'=>∃wm:Value,e=.returned (.tuple #[wm,.int .i64 r2])∧Kd.R (Kd.int .u8) 5 w' w.heap.size (fun _=>True) wm r1∧Below w.heap.size w w':=by
 unfold eU.f at h;by_cases hf:l0.all lW=true∧l1.all lW=true
 ·rw[if_pos hf] at h;have hm:=Option.some.inj h;obtain⟨f0,f1⟩:=hf;have HM:=ah.mk hm
  have P0:ah (∀W:World,Below w.heap.size w W→Calls Tryz.prog 48 #[.slice A0 l0.length c0] W fun e w'=>∃v,e=.returned (.tuple #[v,.int .i64 (cK l0).2])∧Kd.R (Kd.int .u8) 5 w' W.heap.size (fun _=>True) v (cK l0).1∧Below W.heap.size W w'):=⟨fun W hW=>iy.calls A0 c0 l0 (cK l0).1 (cK l0).2 W (Kd.aC hr0 hW) hc0 (by unfold iy.f;rw[if_pos f0])⟩
  have P1:ah (∀W:World,Below w.heap.size w W→Calls Tryz.prog 48 #[.slice A1 l1.length c1] W fun e w'=>∃v,e=.returned (.tuple #[v,.int .i64 (cK l1).2])∧Kd.R (Kd.int .u8) 5 w' W.heap.size (fun _=>True) v (cK l1).1∧Below W.heap.size W w'):=⟨fun W hW=>iy.calls A1 c1 l1 (cK l1).1 (cK l1).2 W (Kd.aC hr1 hW) hc1 (by unfold iy.f;rw[if_pos f1])⟩
  have HF:=ah.mk (And.intro f0 f1);have pQ:=ah.mk hr0;have HR1:=ah.mk hr1;clear h hm f0 f1 hr0 hr1;refine (callsIn_wide (n:=3)).1 (callsIn_of_wp_marks Tryz.func18 rfl trivial ?_ rfl);simp only[Tryz.ntmps18,List.size_toArray,List.length_cons,List.length_nil,Nat.reduceSub,Nat.reduceAdd,Array.replicate_succ,Array.replicate_zero,List.push_toArray,List.append_toArray,List.nil_append,List.cons_append];refine wpIn_wide.2 ?_;by_cases hz0:(cK l0).2≠0
  ·have hp:=P0.out w (Below.refl _ _)
   obtain⟨e0,he0⟩:∃e,(cK l0).2=e:=⟨_,rfl⟩
   rw[he0] at hp hz0;have hb2:(e0 != 0)=true:=bne_iff_ne.2 hz0
   have HZ:ah (r1=[]∧r2=e0):=⟨by
    have hm:=HM.out;unfold jg at hm;rw[he0,if_pos hz0] at hm
    injection hm with a b
    exact⟨a.symm,b.symm⟩⟩
   have HP:=ah.mk hp;clear hp he0 hz0
   go_wp2_with (go_at_call 48;refine (HP.out).mono ?_;rintro e w2 ⟨v,rfl,_,hb⟩)
   refine⟨_,results_tmp2 rfl _ _ _,?_⟩;obtain⟨rfl,rfl⟩:=HZ.out;exact⟨_,rfl,Kd.fA _ _ _ _ _,hb⟩
  ·have hz0':(cK l0).2=0:=Decidable.not_not.1 hz0;have hp:=P0.out w (Below.refl _ _);rw[hz0'] at hp;have HP:=ah.mk hp;have HZ0:=ah.mk hz0';have hb0:=nM hz0' HF.out.1
   obtain⟨a0,ha0⟩:∃e,(cK l0).1=e:=⟨_,rfl⟩
   rw[ha0] at HP hb0;have HA0:=ah.mk ha0;have HB0:=ah.mk hb0;clear hp hz0 hz0' ha0 hb0;by_cases hz1:(cK l1).2≠0
   ·have hp1:=fun W hW=>P1.out W hW
    obtain⟨e1,he1⟩:∃e,(cK l1).2=e:=⟨_,rfl⟩
    have xB:=ah.mk hp1;clear hp1;rw[he1] at xB hz1;have hb2:(e1 != 0)=true:=bne_iff_ne.2 hz1
    have HZ:ah (r1=[]∧r2=e1):=⟨by
     have hm:=HM.out;unfold jg at hm;rw[if_neg (fun h=>h HZ0.out),he1,if_pos hz1] at hm
     injection hm with a b
     exact⟨a.symm,b.symm⟩⟩
    clear he1 hz1
    have tok:ah True:=⟨trivial⟩
    go_wp2_with (first|(have _t:=tok;go_at_call 48;refine (HP.out).mono ?_;rintro e w2 ⟨v,rfl,_,hb⟩;have HB2:=ah.mk hb;clear hb tok)|(go_at_call 48;refine (xB.out _ HB2.out).mono ?_;rintro e w3 ⟨v3,rfl,_,hb3⟩))
    refine⟨_,results_tmp2 rfl _ _ _,?_⟩;obtain⟨rfl,rfl⟩:=HZ.out;exact⟨_,rfl,Kd.fA _ _ _ _ _,HB2.out.trans (hb3.mono HB2.out.size)⟩
   ·have hz1':(cK l1).2=0:=Decidable.not_not.1 hz1
    have hp1:=fun W hW=>P1.out W hW
    have xB:=ah.mk hp1;clear hp1;rw[hz1'] at xB;have HZ1:=ah.mk hz1';have hb1:=nM hz1' HF.out.2
    obtain⟨a1,ha1⟩:∃e,(cK l1).1=e:=⟨_,rfl⟩
    rw[ha1] at xB hb1;have HA1:=ah.mk ha1;have HB1:=ah.mk hb1
    have xA:ah (gL (jl a0) (jl a1) (jw l0 l1)=(r1,r2)):=⟨by
     have hm:=HM.out;unfold jg at hm;rw[if_neg (fun h=>h HZ0.out),if_neg (fun h=>h HZ1.out),HA0.out,HA1.out] at hm
     exact hm⟩
    clear hz1 hz1' ha1 hb1 HM;have apI:=lX HZ0.out;have apJ:=lX HZ1.out
    have tok:ah True:=⟨trivial⟩
    have Vo:ah True:=⟨trivial⟩
    go_wp2_with (first
     | (have _t:=tok;go_at_call 48;refine (HP.out).mono ?_;rintro e w2 ⟨v2,rfl,hr2,hb2⟩;obtain⟨Av2,cv2,hv2⟩:=Kd.bH hr2;subst hv2;have HB2:=ah.mk hb2;have HR2:=ah.mk hr2;clear hb2 hr2 tok)
     | (have _t:=HB2;go_at_call 48;refine (xB.out _ HB2.out).mono ?_;rintro e w3 ⟨v3,rfl,hr3,hb3⟩;obtain⟨Av3,cv3,hv3⟩:=Kd.bH hr3;subst hv3;have HB3:=ah.mk (HB2.out.trans (hb3.mono HB2.out.size));have HR3:=ah.mk hr3;have Dn:=ah.mk (Kd.dB (Kd.dh HR2.out hb3));have HC3:=ah.mk (Kd.dB hr3);clear hb3 hr3 HB2)
     | (have _t:=Vo;go_at_call 49;refine (PT.dH.calls 5 _ cv2 a0 (jl a0) w3 Dn.out.2.2 Dn.out.2.1 (NW a0 HB0.out.1 (by have:=HB0.out.2.1;omega) HB0.out.2.2)).mono ?_;rintro e w4 ⟨rfl,⟨n4,rfl⟩⟩;clear Vo)
     | (go_at_call 49;refine (PT.dH.calls 5 _ cv3 a1 (jl a1) (w3.drewN n4) (Kd.dL HC3.out.2.2 n4) HC3.out.2.1 (NW a1 HB1.out.1 (by have:=HB1.out.2.1;omega) HB1.out.2.2)).mono ?_;rintro e w5 ⟨rfl,⟨n5,rfl⟩⟩)
     | (refine dR (.store 24 (.tmp 9) (.tmp 34)) rfl ?_;refine wpList_store_row rfl _ (.tmp 9) (.tmp 34) rfl w3.heap.size #[.int .i64 (jl a0),.int .i64 (jl a1),.slice none 0 0] rfl rfl 24 _ (by exact bK w3 _) (by kernel_rfl) (by rfl) (by simp[Value.oneCell']) ?_)
     | (go_at_call 50;refine (zH _ _ _).mono ?_;rintro e w6 ⟨rfl,rfl⟩))
    obtain⟨wq,hwq⟩:∃wq,((w3.drewN (n4+n5)).alloc (.cells #[.int .i64 0,.int .i64 0,.slice none 0 0] 24)).setRow w3.heap.size #[.int .i64 (jl a0),.int .i64 (jl a1),.slice none 0 0]=wq:=⟨_,rfl⟩
    have afA:wq.heap[w3.heap.size]?=some (.cells #[.int .i64 (jl a0),.int .i64 (jl a1),.slice none 0 0] 24 (0,0)):=by
     rw[← hwq];exact setRow_heap _ _ _ _ _ _ (by exact bK w3 _)
    have hqs:wq.heap.size=w3.heap.size+1:=by
     rw[← hwq];simp
    have WM:Below w.heap.size w wq:=by
     rw[← hwq];have hd:=HB3.out.trans ((au (Below.refl w3.heap.size w3) (n4+n5)).mono HB3.out.size);exact below_setRow (hd.alloc hd.size _) HB3.out.size _
    obtain⟨w7,hw7⟩:∃w7,((wq.alloc (.cells #[.slice A0 l0.length c0,.slice A1 l1.length c1] 25)).alloc (.cells #[.func (.func 51) #[] #[]] 93)).alloc (.cells #[.slice (some ⟨w3.heap.size+1,0,none⟩) 2 2] 75)=w7:=⟨_,rfl⟩
    rw[hwq,hw7]
    have SY:w7.heap.size=w3.heap.size+4:=by
     rw[← hw7];simp[hqs]
    have qG:Below wq.heap.size wq w7:=by
     rw[← hw7];exact (((Below.refl _ _).alloc (Nat.le_refl _) _).alloc (by simp) _).alloc (by simp;omega) _
    have hlow:Below w.heap.size w w7:=WM.trans (qG.mono WM.size)
    have WG:Two.Am (kH l0 l1) (kH A0 A1) (kH c0 c1) w (w3.heap.size+1+1) (w3.heap.size+1+1+1) (w3.heap.size+1) w7:=by
     rw[← hw7];exact⟨by rw[hw7];exact hlow,aJ (jW (by simp[hqs]) _) _,jW (by simp[hqs]) _,aJ (aJ (jW hqs _) _) _⟩
    have hI0:DI w w7.heap.size w3.heap.size (jl a0) (jl a1) [] w7:=⟨hlow,Nat.le_refl _,_,aD afA qG,Kd.fA _ _ _ _ _⟩
    have hT:=Two.Ic (kH l0 l1) (kH A0 A1) (kH c0 c1) w w7 (w3.heap.size+1+1) (w3.heap.size+1+1+1) (w3.heap.size+1)
     (nV pQ.out HR1.out) (nV hc0 hc1) (nV (by show l0.length≤_;omega) (by show l1.length≤_;omega))
     (nV (Ee HZ0.out) (Ee HZ1.out)) WG hlow.size
    obtain⟨rs,hrs⟩:∃rs,Two.eY (kH l0 l1) (Two.jO (kH l0 l1) (fun _=>0)) (fun _=>0)=rs:=⟨_,rfl⟩
    rw[hrs] at hT;have zl:w.heap.size≤w7.heap.size:=hlow.size;have hw3:w.heap.size≤w3.heap.size:=HB3.out.size
    have hrl:rs.length≤8192:=by
     have h1:=Two.length (L:=kH l0 l1) (Two.jO (kH l0 l1) (fun _=>0)) (fun _=>0);have h2:Two.jO (kH l0 l1) (fun _=>0)=l0.length+l1.length:=rfl;rw[hrs,h2] at h1;omega
    have HI0:=ah.mk hI0;have HT:=ah.mk hT;have Wy:=ah.mk hrs;clear hT hrs hI0 WG hlow hwq afA hqs WM hw7 qG HP xB P0 P1
    refine PG (gf:=87) (lb:=#[.pointer (some ⟨w3.heap.size+1+1+1,0,none⟩),.pointer (some ⟨w3.heap.size+1+1,0,none⟩)]) ?hg (enters_of Tryz.func87 (by kernel_rfl) rfl) (encs:=Two.encR) (fun _=>rfl) HT.out.tells
     (fun pre W=>DI w w7.heap.size w3.heap.size (jl a0) (jl a1) ((pre.map Two.nL.rd).foldl jU []) W) ?a1 (fun _ _=>Lu)
     (fun pre A B hi hs=>hi.kq (Kq.Ud hs) zl (by omega))
     (fun pre W l o o' hi hl ho hc=>hi.kq (Kq.wu hl ho hc) zl (by omega))
     (fun pre x W l o o' hgd hl ho hc=>Two.Uh hgd ho hc)
     (fun A B l o o1 p o2 hl ho hc hk hp hpc=>aa9 zl (fun k hk=>by omega) hl ho hc hk hp hpc)
     (fun o o'=>HI0.out.kq (Kq.below (((Below.refl _ _).alloc (Nat.le_refl _) _).alloc (by simp) _)) zl (by omega))
     ?assign ?body ?done
    case assign=>
     intro l x W K hK;dsimp only[Two.encR]
     gi_wp2
     exact hK
    case hg=>
     first|rfl|(go_simp;done)|simp[go_sem]
    case body=>
     rintro l pre x W hi hgd;refine wpIn_mono (Q:=fun e _ B=>yt w w7.heap.size w3.heap.size (w3.heap.size+1+1) (w3.heap.size+1+1+1) (w3.heap.size+1) (jl a0) (jl a1) (((pre++[x]).map Two.nL.rd).foldl jU []) W e B) ?_ (fun e a B h=>h);obtain⟨⟨rest,hrest⟩,p0,p1,hg,o0,o1⟩:=hgd
     have hmem:x.rd∈rs:=by rw[hrest];simp
     have Fz:=Two.here (Wy.out▸hmem)
     have hml:((pre.map Two.nL.rd).foldl jU []).length+1≤8192:=by
      have h1:=zG (pre.map Two.nL.rd) [];have h2:=congrArg List.length hrest;simp only[List.length_append,List.length_map,List.length_cons,List.length_nil] at h1 h2;omega
     have FIN:=ah.mk (aiu (S:=((pre++[x]).map Two.nL.rd).foldl jU []) hi hw3 SY)
     obtain⟨S0,hS0⟩:∃S0,(pre.map Two.nL.rd).foldl jU []=S0:=⟨_,rfl⟩
     rw[hS0] at hml hi;have Ie:=ah.mk hS0;have Yf:=ah.mk hml;have g0:W.cell? ⟨x.g,0,none⟩=some p0:=ak hg 0;have g1:W.cell? ⟨x.g,1,none⟩=some p1:=ak hg 1;have HI:=ah.mk hi;have O0:=ah.mk o0;have O1:=ah.mk o1;have HH:=ah.mk Fz
     have hup:Tryz.prog.underlying 95=some (.pointer (Tryz.prog.pointee 95)):=by kernel_rfl
     have hq1:∀(p:Option Addr) (w:World),(binOp .eql 95 (.pointer p) (.pointer none)).run Tryz.prog w=.ok (.bool p.isNone) w:=fun p w=>run_eql_pointer_nil w _ p hup
     have hq2:∀(p:Option Addr) (w:World),(binOp .neq 95 (.pointer p) (.pointer none)).run Tryz.prog w=.ok (.bool p.isSome) w:=fun p w=>(run_neq_pointer_nil w _ p hup).trans (by cases p <;> rfl)
     have hu:=Tryz.underlying29;clear hup hi hg o0 o1 hmem Fz hml hS0 hrest
     gi_wp2_with fail
     refine wpIn_region_quiet (by kernel_rfl) (by kernel_rfl) (by kernel_rfl) (by rintro⟨a,w',h⟩;exact Exit.noConfusion (yt.eq (show yt w w7.heap.size w3.heap.size (w3.heap.size+1+1) (w3.heap.size+1+1+1) (w3.heap.size+1) (jl a0) (jl a1) (((pre++[x]).map Two.nL.rd).foldl jU []) W Exit.outgrown w' from h))) ?_
     repeat (go_big_quiet_step (fail))
     refine wpQuiet_nil ?_;rintro _ ⟨nq,rfl⟩;clear g0 g1;have hwd:=au (Below.refl W.heap.size W) nq;have HD1:=ah.mk (HI.out.below hwd);have Hl:=ah.mk (show jK w7.heap.size (fun k=>k=w3.heap.size) (fun q=>q=31) W (W.drewN nq) from jK.below hwd)
     obtain⟨W1,hW1⟩:∃W1,W.drewN nq=W1:=⟨_,rfl⟩
     rw[hW1] at HD1 Hl;rw[hW1];clear hwd hW1 HI
     obtain⟨xa,hxa⟩:∃a,x.a=a:=⟨_,rfl⟩
     obtain⟨xb,hxb⟩:∃b,x.b=b:=⟨_,rfl⟩
     rw[hxa] at O0;rw[hxb] at O1
     have hsame:=fun (X:World) (hX:Below w.heap.size w X)=>Vq p0 p1 xa xb X (O0.out.below hX) (O1.out.below hX)
     have HXA:=ah.mk hxa;have HXB:=ah.mk hxb;have HHA:=ah.mk (fun y (h:xa=some y)=>HH.out.1 y (hxa.trans h));have HHB:=ah.mk (fun y (h:xb=some y)=>HH.out.2 y (hxb.trans h));clear hxa hxb HH
     cases hsm:IC xa xb with
     | true=>
      have HQ:ah (((pre++[x]).map Two.nL.rd).foldl jU []=S0):=⟨by rw[List.map_append,List.foldl_append,Ie.out];show S0++(kI x.a x.b).toList=_;rw[HXA.out,HXB.out];unfold kI;rw[if_pos hsm];simp⟩
      rw[hsm] at hsame;have S9:=ah.mk hsame;clear hsm hsame
      gi_wp2_with (refine⟨trivial,rfl,?_⟩;gi_at_call 52;refine (CallsIn.inRound l (callsIn_wide.2 (S9.out _ HD1.out.low))).mono ?_;rintro e w5 ⟨rfl,⟨nm,rfl⟩⟩)
      have hwd:=au (Below.refl W1.heap.size W1) nm;have xS:=ah.mk (HD1.out.below hwd);have CZ:=ah.mk (Hl.out.trans (jK.below hwd))
      obtain⟨Ws,hWs⟩:∃Ws,W1.drewN nm=Ws:=⟨_,rfl⟩
      rw[hWs] at xS CZ
      try rw[hWs]
      clear hwd hWs HD1 Hl S9;exact FIN.out _ (by rw[HQ.out];exact xS.out) CZ.out
     | false=>
      rw[hsm] at hsame;have S9:=ah.mk hsame;have HSM:=ah.mk hsm;clear hsame
      cases xb with
      | none=>
       cases xa with
       | none=>exact absurd hsm (by decide)
       | some z=>
        obtain⟨Yi,X4,Cw,X5,Cx,e1,hsx,hlx⟩:=O0.out.six;have ho1:p1=.pointer none:=O1.out;subst e1;subst ho1;have Ta:=ah.mk hsx;clear hsx hlx hsm O0 O1
        have HQ:ah (((pre++[x]).map Two.nL.rd).foldl jU []=S0++[⟨1,⟨0,z.f1,⟨#[]⟩,0,[],[]⟩,[]⟩]):=⟨by rw[List.map_append,List.foldl_append,Ie.out];show S0++(kI x.a x.b).toList=_;rw[HXA.out,HXB.out];unfold kI;rw[if_neg (by rw[HSM.out];decide)];rfl⟩
        gi_wp2_with (refine⟨trivial,rfl,?_⟩;gi_at_call 52;refine (CallsIn.inRound l (callsIn_wide.2 (S9.out _ HD1.out.low))).mono ?_;rintro e w5 ⟨rfl,⟨nm,rfl⟩⟩)
        have hwd:=au (Below.refl W1.heap.size W1) nm;have xS:=ah.mk (HD1.out.below hwd);have CZ:=ah.mk (Hl.out.trans (jK.below hwd))
        obtain⟨Ws,hWs⟩:∃Ws,W1.drewN nm=Ws:=⟨_,rfl⟩
        rw[hWs] at xS CZ
        try rw[hWs]
        clear hwd hWs HD1 Hl S9;have HSX:=ah.mk (Ta.out.below xS.out.low);have hdr:=bC (Below.refl Ws.heap.size Ws)
        obtain⟨Wd,hWd⟩:∃Wd,Ws.drew=Wd:=⟨_,rfl⟩
        have hdb:Below Ws.heap.size Ws Wd:=hWd▸hdr;obtain⟨va,hva,hra⟩:=(xS.out.below hdb).box;obtain⟨Au,nu,cu,hvu⟩:=gK hra;subst hvu;have M8:=ah.mk hva;have yA:=ah.mk hra;have Yj:=ah.mk (xS.out.below hdb);have Hz:=ah.mk (CZ.out.trans (jK.below hdb));have vP:=ah.mk (show w7.heap.size≤Wd.heap.size from (xS.out.below hdb).big);have z2:Wd.cell? ⟨w3.heap.size,2,none⟩=some (.slice Au nu cu):=ak hva 2;have HS:=ah.mk (show Wd.cell? ⟨w3.heap.size,2,none⟩=some (.slice Au nu cu)∧vL Wd Yi z X4 Cw X5 Cx from⟨z2,HSX.out.below hdb⟩);have Ig:=ah.mk (show ∀W':World,(W'.cell? ⟨w3.heap.size,2,none⟩=some (.slice Au nu cu)∧vL W' Yi z X4 Cw X5 Cx)→∀{W''},Below W'.heap.size W' W''→(W''.cell? ⟨w3.heap.size,2,none⟩=some (.slice Au nu cu)∧vL W'' Yi z X4 Cw X5 Cx) from fun W' h W'' hb=>⟨aj hb h.1,h.2.below hb⟩);clear hdr hva hra z2 hdb;have vC:=M8;have vV:=yA;have Yk:=Yj;have Px:=Hz;have Py:=vP;have PD:=ah.mk (wz (w0:=w) (w:=Wd) (base:=w7.heap.size) (ok:=fun _=>False) (x:=⟨1,⟨0,z.f1,⟨#[]⟩,0,[],[]⟩,[]⟩) (Kd.oO (Kd.fA _ _ _ _ _)) (Kd.oO (Kd.fA _ _ _ _ _)) (Kd.oO (Kd.fA _ _ _ _ _)));refine mX (n:=12) (S:=fun w'=>w'.cell? ⟨w3.heap.size,2,none⟩=some (.slice Au nu cu)∧vL w' Yi z X4 Cw X5 Cx) (ds:=[9,11]) #[false,false,false,false,false,false,false,false,false,false,false,false] (by kernel_rfl) (by kernel_rfl) (by rintro⟨a,w',h⟩;exact Exit.noConfusion (yt.eq (show yt w w7.heap.size w3.heap.size (w3.heap.size+1+1) (w3.heap.size+1+1+1) (w3.heap.size+1) (jl a0) (jl a1) (((pre++[x]).map Two.nL.rd).foldl jU []) W Exit.outgrown w' from h))) rfl rfl (by rw[hWd];exact HS.out) (fun hHeld=>?_);rw[hWd] at hHeld ⊢;clear hWd;refine bA (i:=0) (N:=some 63) (v:=?_) (a':=?_) #[true,false,false,false,false,false,false,false,false,false,false,false] rfl rfl (by kernel_rfl) (fun _ _ _ h=>h) (Or.inl ⟨by rfl,?_⟩) ?_ ?_;rotate_left
        ·intro w'
         go_simp
         with_reducible rfl
        rotate_left
        ·simp only[Act.put,aYa,aYb,aYc,aG,aH];rfl
        refine dM (i:=1) (N:=some 64) (v:=?_) (a':=?_) #[true,true,false,false,false,false,false,false,false,false,false,false] rfl rfl (by kernel_rfl) (fun _ _ _ h=>h) (Or.inl ⟨by rfl,?_⟩) hHeld ?_ ?_;rotate_left
        ·rintro w' ⟨s,⟨y0,y1,y2,y3,y4,y5⟩⟩
         go_simp
         with_reducible rfl
        rotate_left
        ·simp only[Act.put,aYa,aYb,aYc,aG,aH];rfl
        refine bA (i:=2) (N:=some 65) (v:=?_) (a':=?_) #[true,true,true,false,false,false,false,false,false,false,false,false] rfl rfl (by kernel_rfl) (fun _ _ _ h=>h) (Or.inl ⟨by rfl,?_⟩) ?_ ?_;rotate_left
        ·intro w'
         go_simp
         with_reducible rfl
        rotate_left
        ·simp only[Act.put,aYa,aYb,aYc,aG,aH];rfl
        refine bA (i:=3) (N:=some 66) (v:=?_) (a':=?_) #[true,true,true,true,false,false,false,false,false,false,false,false] rfl rfl (by kernel_rfl) (fun _ _ _ h=>h) (Or.inl ⟨by rfl,?_⟩) ?_ ?_;rotate_left
        ·intro w'
         go_simp
         with_reducible rfl
        rotate_left
        ·simp only[Act.put,aYa,aYb,aYc,aG,aH];rfl
        refine bA (i:=4) (N:=some 67) (v:=?_) (a':=?_) #[true,true,true,true,true,false,false,false,false,false,false,false] rfl rfl (by kernel_rfl) (fun _ _ _ h=>h) (Or.inl ⟨by rfl,?_⟩) ?_ ?_;rotate_left
        ·intro w'
         go_simp
         with_reducible rfl
        rotate_left
        ·simp only[Act.put,aYa,aYb,aYc,aG,aH];rfl
        refine dM (i:=5) (N:=some 68) (v:=?_) (a':=?_) #[true,true,true,true,true,true,false,false,false,false,false,false] rfl rfl (by kernel_rfl) (fun _ _ _ h=>h) (Or.inl ⟨by rfl,?_⟩) hHeld ?_ ?_;rotate_left
        ·rintro w' ⟨s,⟨y0,y1,y2,y3,y4,y5⟩⟩
         go_simp
         with_reducible rfl
        rotate_left
        ·simp only[Act.put,aYa,aYb,aYc,aG,aH];rfl
        refine bA (i:=6) (N:=some 69) (v:=?_) (a':=?_) #[true,true,true,true,true,true,true,false,false,false,false,false] rfl rfl (by kernel_rfl) (fun _ _ _ h=>h) (Or.inl ⟨by rfl,?_⟩) ?_ ?_;rotate_left
        ·intro w'
         go_simp
         with_reducible rfl
        rotate_left
        ·simp only[Act.put,aYa,aYb,aYc,aG,aH];rfl
        refine bA (i:=7) (N:=some 70) (v:=?_) (a':=?_) #[true,true,true,true,true,true,true,true,false,false,false,false] rfl rfl (by kernel_rfl) (fun _ _ _ h=>h) (Or.inl ⟨by rfl,?_⟩) ?_ ?_;rotate_left
        ·intro w'
         go_simp
         with_reducible rfl
        rotate_left
        ·simp only[Act.put,aYa,aYb,aYc,aG,aH];rfl
        refine kg (i:=8) (N:=some 71) #[true,true,true,true,true,true,true,true,true,false,false,false] rfl rfl (by kernel_rfl) (by decide) (fun K hK=>?_);refine nD (v:=.slice (some ⟨Wd.heap.size,0,none⟩) 1 1) (w1:=Wd.alloc (.cells #[.int .i64 1,.int .i64 0,.string z.f1,.string ⟨#[]⟩,.int .i64 0,.slice none 0 0,.slice none 0 0,.slice none 0 0] 31)) (by rfl) rfl ?_ ?_
        ·go_simp
         try rfl
        have hal:=(Below.refl Wd.heap.size Wd).alloc (Nat.le_refl _) (.cells #[.int .i64 1,.int .i64 0,.string z.f1,.string ⟨#[]⟩,.int .i64 0,.slice none 0 0,.slice none 0 0,.slice none 0 0] 31);refine hK.out _ _ (Ig.out _ hHeld hal) (fun hHeld=>?_);clear hK K hal;refine eB (a':=?_) ?_ ?_;rotate_left
        ·show Act.put _ (some 71) _=_
         simp only[Act.put,aYa,aYb,aYc,aG,aH];rfl
        refine kC (i:=9) (N:=some 72) #[true,true,true,true,true,true,true,true,true,true,false,false] rfl rfl (by kernel_rfl) (by decide) (fun K hK=>?_);refine Kd.ji (BH w) (w0:=Wd) w7.heap.size (by rfl) (.tmp 64) (.tmp 71) 22 31 (.agg #[.int .i64 0,.int .i64 0,.string ⟨#[]⟩,.string ⟨#[]⟩,.int .i64 0,.slice none 0 0,.slice none 0 0,.slice none 0 0]) 128 rfl Tryz.underlying22 BI rfl (by show 0<8;decide) (by decide) (.slice Au nu cu) S0 ⟨1,⟨0,z.f1,⟨#[]⟩,0,[],[]⟩,[]⟩ [.int .i64 1,.int .i64 0,.string z.f1,.string ⟨#[]⟩,.int .i64 0,.slice none 0 0,.slice none 0 0,.slice none 0 0] (fun _=>True) (fun _=>False) rfl rfl PD.out (fun _ h=>h.elim) (fun _ _=>trivial) vV.out (Below.refl _ _) Py.out (by have:=Yf.out;omega) ?_;intro v1 w1 hr1 _hb hg1 mK;obtain⟨yu,FB,yw,hv1⟩:=gK hr1;subst hv1;have hbx:=(hg1.block _ (bD vC.out) (jr vV.out vC.out (fun cs e=>by injection e with _ e;exact absurd e (by decide)))).trans vC.out;have Xp:w1.cell? ⟨w3.heap.size,2,none⟩=some (.slice Au nu cu):=ak hbx 2;have f10:=av hbx 2;have M9:=ah.mk (Yk.out.push vC.out vV.out hr1 hg1 zl hw3);have PE:=ah.mk (Px.out.trans ((jK.grown (G:=fun k=>k=w3.heap.size) (T:=fun q=>q=31) vV.out (Nat.le_refl _) rfl hg1).trans (jK.set (G:=fun k=>k=w3.heap.size) rfl 2 (.slice yu FB yw))));clear hr1 _hb hg1 mK hbx;refine hK.out _ _ ?_;clear hK K hHeld;refine eB (a':=?_) ?_ ?_;rotate_left
        ·show Act.put _ (some 72) _=_
         simp only[Act.put,aYa,aYb,aYc,aG,aH];rfl
        refine bA (i:=10) (N:=some 73) (v:=?_) (a':=?_) #[true,true,true,true,true,true,true,true,true,true,true,false] rfl rfl (by kernel_rfl) (fun _ _ _ h=>h) (Or.inl ⟨by rfl,?_⟩) ?_ ?_;rotate_left
        ·intro w'
         go_simp
         with_reducible rfl
        rotate_left
        ·simp only[Act.put,aYa,aYb,aYc,aG,aH];rfl
        refine kC (i:=11) (N:=none) #[true,true,true,true,true,true,true,true,true,true,true,true] rfl rfl (by kernel_rfl) (by decide) (fun K hK=>?_);refine sM (w1:=w1.setCell ⟨w3.heap.size,2,none⟩ (.slice yu FB yw)) (by rfl) rfl ?_ ?_
        ·go_simp
        refine hK.out _ _ ?_;clear hK K;refine ku (by kernel_rfl) ?_;exact FIN.out _ (by rw[HQ.out];exact M9.out) PE.out
      | some y=>
       obtain⟨Hu,Y4,pO,Y5,oZ,e2,hsy,LA⟩:=O1.out.six;subst e2;have PK:=ah.mk hsy;have DW:=ah.mk LA;clear hsy LA O1
       cases xa with
       | none=>
        have ho0:p0=.pointer none:=O0.out;subst ho0;clear O0 hsm
        have HQ:ah (((pre++[x]).map Two.nL.rd).foldl jU []=S0++[⟨2,y,[]⟩]):=⟨by rw[List.map_append,List.foldl_append,Ie.out];show S0++(kI x.a x.b).toList=_;rw[HXA.out,HXB.out];unfold kI;rw[if_neg (by rw[HSM.out];decide)];rfl⟩
        gi_wp2_with (refine⟨trivial,rfl,?_⟩;gi_at_call 52;refine (CallsIn.inRound l (callsIn_wide.2 (S9.out _ HD1.out.low))).mono ?_;rintro e w5 ⟨rfl,⟨nm,rfl⟩⟩)
        have hwd:=au (Below.refl W1.heap.size W1) nm;have xS:=ah.mk (HD1.out.below hwd);have CZ:=ah.mk (Hl.out.trans (jK.below hwd))
        obtain⟨Ws,hWs⟩:∃Ws,W1.drewN nm=Ws:=⟨_,rfl⟩
        rw[hWs] at xS CZ
        try rw[hWs]
        clear hwd hWs HD1 Hl S9;have TS:=ah.mk (PK.out.below xS.out.low);have hdr:=bC (Below.refl Ws.heap.size Ws)
        obtain⟨Wd,hWd⟩:∃Wd,Ws.drew=Wd:=⟨_,rfl⟩
        have hdb:Below Ws.heap.size Ws Wd:=hWd▸hdr;obtain⟨va,hva,hra⟩:=(xS.out.below hdb).box;obtain⟨Au,nu,cu,hvu⟩:=gK hra;subst hvu;have M8:=ah.mk hva;have yA:=ah.mk hra;have Yj:=ah.mk (xS.out.below hdb);have Hz:=ah.mk (CZ.out.trans (jK.below hdb));have vP:=ah.mk (show w7.heap.size≤Wd.heap.size from (xS.out.below hdb).big);have z2:Wd.cell? ⟨w3.heap.size,2,none⟩=some (.slice Au nu cu):=ak hva 2;have HS:=ah.mk (show Wd.cell? ⟨w3.heap.size,2,none⟩=some (.slice Au nu cu)∧vL Wd Hu y Y4 pO Y5 oZ from⟨z2,TS.out.below hdb⟩);have Ig:=ah.mk (show ∀W':World,(W'.cell? ⟨w3.heap.size,2,none⟩=some (.slice Au nu cu)∧vL W' Hu y Y4 pO Y5 oZ)→∀{W''},Below W'.heap.size W' W''→(W''.cell? ⟨w3.heap.size,2,none⟩=some (.slice Au nu cu)∧vL W'' Hu y Y4 pO Y5 oZ) from fun W' h W'' hb=>⟨aj hb h.1,h.2.below hb⟩);clear hdr hva hra z2 hdb;have vC:=M8;have vV:=yA;have Yk:=Yj;have Px:=Hz;have Py:=vP;have PD:=ah.mk (wz (w0:=w) (w:=Wd) (base:=w7.heap.size) (ok:=fun _=>False) (x:=⟨2,y,[]⟩) (Kd.uJ DW.out.l4 DW.out.g4) (Kd.uJ DW.out.l5 DW.out.g5) (Kd.oO (Kd.fA _ _ _ _ _)));refine mX (n:=10) (S:=fun w'=>w'.cell? ⟨w3.heap.size,2,none⟩=some (.slice Au nu cu)∧vL w' Hu y Y4 pO Y5 oZ) (ds:=[7,9]) #[false,false,false,false,false,false,false,false,false,false] (by kernel_rfl) (by kernel_rfl) (by rintro⟨a,w',h⟩;exact Exit.noConfusion (yt.eq (show yt w w7.heap.size w3.heap.size (w3.heap.size+1+1) (w3.heap.size+1+1+1) (w3.heap.size+1) (jl a0) (jl a1) (((pre++[x]).map Two.nL.rd).foldl jU []) W Exit.outgrown w' from h))) rfl rfl (by rw[hWd];exact HS.out) (fun hHeld=>?_);rw[hWd] at hHeld ⊢;clear hWd;refine bA (i:=0) (N:=some 47) (v:=?_) (a':=?_) #[true,false,false,false,false,false,false,false,false,false] rfl rfl (by kernel_rfl) (fun _ _ _ h=>h) (Or.inl ⟨by rfl,?_⟩) ?_ ?_;rotate_left
        ·intro w'
         go_simp
         with_reducible rfl
        rotate_left
        ·simp only[Act.put,aYa,aYb,aYc,aG,aH];rfl
        refine dM (i:=1) (N:=some 48) (v:=?_) (a':=?_) #[true,true,false,false,false,false,false,false,false,false] rfl rfl (by kernel_rfl) (fun _ _ _ h=>h) (Or.inl ⟨by rfl,?_⟩) hHeld ?_ ?_;rotate_left
        ·rintro w' ⟨s,⟨y0,y1,y2,y3,y4,y5⟩⟩
         go_simp
         with_reducible rfl
        rotate_left
        ·simp only[Act.put,aYa,aYb,aYc,aG,aH];rfl
        refine bA (i:=2) (N:=some 49) (v:=?_) (a':=?_) #[true,true,true,false,false,false,false,false,false,false] rfl rfl (by kernel_rfl) (fun _ _ _ h=>h) (Or.inl ⟨by rfl,?_⟩) ?_ ?_;rotate_left
        ·intro w'
         go_simp
         with_reducible rfl
        rotate_left
        ·simp only[Act.put,aYa,aYb,aYc,aG,aH];rfl
        refine bA (i:=3) (N:=some 50) (v:=?_) (a':=?_) #[true,true,true,true,false,false,false,false,false,false] rfl rfl (by kernel_rfl) (fun _ _ _ h=>h) (Or.inl ⟨by rfl,?_⟩) ?_ ?_;rotate_left
        ·intro w'
         go_simp
         with_reducible rfl
        rotate_left
        ·simp only[Act.put,aYa,aYb,aYc,aG,aH];rfl
        refine dM (i:=4) (N:=some 51) (v:=?_) (a':=?_) #[true,true,true,true,true,false,false,false,false,false] rfl rfl (by kernel_rfl) (fun _ _ _ h=>h) (Or.inl ⟨by rfl,?_⟩) hHeld ?_ ?_;rotate_left
        ·rintro w' ⟨s,⟨y0,y1,y2,y3,y4,y5⟩⟩
         go_simp
         with_reducible rfl
        rotate_left
        ·simp only[Act.put,aYa,aYb,aYc,aG,aH];rfl
        refine bA (i:=5) (N:=some 52) (v:=?_) (a':=?_) #[true,true,true,true,true,true,false,false,false,false] rfl rfl (by kernel_rfl) (fun _ _ _ h=>h) (Or.inl ⟨by rfl,?_⟩) ?_ ?_;rotate_left
        ·intro w'
         go_simp
         with_reducible rfl
        rotate_left
        ·simp only[Act.put,aYa,aYb,aYc,aG,aH];rfl
        refine kg (i:=6) (N:=some 53) #[true,true,true,true,true,true,true,false,false,false] rfl rfl (by kernel_rfl) (by decide) (fun K hK=>?_);refine nD (v:=.slice (some ⟨Wd.heap.size,0,none⟩) 1 1) (w1:=Wd.alloc (.cells #[.int .i64 2,.int .i64 y.f0,.string y.f1,.string y.f2,.int .i64 y.f3,.slice Y4 y.f4.length pO,.slice Y5 y.f5.length oZ,.slice none 0 0] 31)) (by rfl) rfl ?_ ?_
        ·go_simp
         try rfl
        have hal:=(Below.refl Wd.heap.size Wd).alloc (Nat.le_refl _) (.cells #[.int .i64 2,.int .i64 y.f0,.string y.f1,.string y.f2,.int .i64 y.f3,.slice Y4 y.f4.length pO,.slice Y5 y.f5.length oZ,.slice none 0 0] 31);refine hK.out _ _ (Ig.out _ hHeld hal) (fun hHeld=>?_);clear hK K hal;refine eB (a':=?_) ?_ ?_;rotate_left
        ·show Act.put _ (some 53) _=_
         simp only[Act.put,aYa,aYb,aYc,aG,aH];rfl
        refine kC (i:=7) (N:=some 54) #[true,true,true,true,true,true,true,true,false,false] rfl rfl (by kernel_rfl) (by decide) (fun K hK=>?_);refine Kd.ji (BH w) (w0:=Wd) w7.heap.size (by rfl) (.tmp 48) (.tmp 53) 22 31 (.agg #[.int .i64 0,.int .i64 0,.string ⟨#[]⟩,.string ⟨#[]⟩,.int .i64 0,.slice none 0 0,.slice none 0 0,.slice none 0 0]) 128 rfl Tryz.underlying22 BI rfl (by show 0<8;decide) (by decide) (.slice Au nu cu) S0 ⟨2,y,[]⟩ [.int .i64 2,.int .i64 y.f0,.string y.f1,.string y.f2,.int .i64 y.f3,.slice Y4 y.f4.length pO,.slice Y5 y.f5.length oZ,.slice none 0 0] (fun _=>True) (fun _=>False) rfl rfl PD.out (fun _ h=>h.elim) (fun _ _=>trivial) vV.out (Below.refl _ _) Py.out (by have:=Yf.out;omega) ?_;intro v1 w1 hr1 _hb hg1 mK;obtain⟨yu,FB,yw,hv1⟩:=gK hr1;subst hv1;have hbx:=(hg1.block _ (bD vC.out) (jr vV.out vC.out (fun cs e=>by injection e with _ e;exact absurd e (by decide)))).trans vC.out;have Xp:w1.cell? ⟨w3.heap.size,2,none⟩=some (.slice Au nu cu):=ak hbx 2;have f10:=av hbx 2;have M9:=ah.mk (Yk.out.push vC.out vV.out hr1 hg1 zl hw3);have PE:=ah.mk (Px.out.trans ((jK.grown (G:=fun k=>k=w3.heap.size) (T:=fun q=>q=31) vV.out (Nat.le_refl _) rfl hg1).trans (jK.set (G:=fun k=>k=w3.heap.size) rfl 2 (.slice yu FB yw))));clear hr1 _hb hg1 mK hbx;refine hK.out _ _ ?_;clear hK K hHeld;refine eB (a':=?_) ?_ ?_;rotate_left
        ·show Act.put _ (some 54) _=_
         simp only[Act.put,aYa,aYb,aYc,aG,aH];rfl
        refine bA (i:=8) (N:=some 55) (v:=?_) (a':=?_) #[true,true,true,true,true,true,true,true,true,false] rfl rfl (by kernel_rfl) (fun _ _ _ h=>h) (Or.inl ⟨by rfl,?_⟩) ?_ ?_;rotate_left
        ·intro w'
         go_simp
         with_reducible rfl
        rotate_left
        ·simp only[Act.put,aYa,aYb,aYc,aG,aH];rfl
        refine kC (i:=9) (N:=none) #[true,true,true,true,true,true,true,true,true,true] rfl rfl (by kernel_rfl) (by decide) (fun K hK=>?_);refine sM (w1:=w1.setCell ⟨w3.heap.size,2,none⟩ (.slice yu FB yw)) (by rfl) rfl ?_ ?_
        ·go_simp
        refine hK.out _ _ ?_;clear hK K;refine ku (by kernel_rfl) ?_;exact FIN.out _ (by rw[HQ.out];exact M9.out) PE.out
       | some z=>
        obtain⟨Yi,X4,Cw,X5,Cx,e1,hsx,hlx⟩:=O0.out.six;subst e1;have Ta:=ah.mk hsx;have HLX:=ah.mk hlx;clear hsx hlx O0 hsm;by_cases hz1:z.f0=1
        ·have b1:(z.f0 == 1)=true:=beq_iff_eq.2 hz1;by_cases hy1:y.f0=1
         ·have b2:(y.f0 == 1)=true:=beq_iff_eq.2 hy1;have HFX:=ah.mk (tY HZ0.out HF.out.1 z (HHA.out z rfl) hz1);have HFY:=ah.mk (tY HZ1.out HF.out.2 y (HHB.out y rfl) hy1)
          have HQ:ah (((pre++[x]).map Two.nL.rd).foldl jU []=S0++[qx z y]):=⟨by rw[List.map_append,List.foldl_append,Ie.out];show S0++(kI x.a x.b).toList=_;rw[HXA.out,HXB.out];unfold kI;rw[if_neg (by rw[HSM.out];decide)];dsimp only;rw[if_pos ⟨hz1,hy1⟩];rfl⟩
          clear hz1 hy1
          gi_wp2_with (refine⟨trivial,rfl,?_⟩;gi_at_call 52;refine (CallsIn.inRound l (callsIn_wide.2 (S9.out _ HD1.out.low))).mono ?_;rintro e w5 ⟨rfl,⟨nm,rfl⟩⟩;have k1:=((Ta.out.below HD1.out.low).below (au (Below.refl _ _) nm)).1;have k2:=((PK.out.below HD1.out.low).below (au (Below.refl _ _) nm)).1)
          clear k1 k2;have hwd:=au (Below.refl W1.heap.size W1) nm;have xS:=ah.mk (HD1.out.below hwd);have CZ:=ah.mk (Hl.out.trans (jK.below hwd))
          obtain⟨Ws,hWs⟩:∃Ws,W1.drewN nm=Ws:=⟨_,rfl⟩
          rw[hWs] at xS CZ
          try rw[hWs]
          clear hwd hWs HD1 Hl S9;have HSX:=ah.mk (Ta.out.below xS.out.low);have TS:=ah.mk (PK.out.below xS.out.low);have hdr:=bC (Below.refl Ws.heap.size Ws)
          obtain⟨Wd,hWd⟩:∃Wd,Ws.drew=Wd:=⟨_,rfl⟩
          have hdb:Below Ws.heap.size Ws Wd:=hWd▸hdr;obtain⟨va,hva,hra⟩:=(xS.out.below hdb).box;obtain⟨Au,nu,cu,hvu⟩:=gK hra;subst hvu;have M8:=ah.mk hva;have yA:=ah.mk hra;have Yj:=ah.mk (xS.out.below hdb);have Hz:=ah.mk (CZ.out.trans (jK.below hdb));have vP:=ah.mk (show w7.heap.size≤Wd.heap.size from (xS.out.below hdb).big);have z2:Wd.cell? ⟨w3.heap.size,2,none⟩=some (.slice Au nu cu):=ak hva 2;have HS:=ah.mk (show Wd.cell? ⟨w3.heap.size,2,none⟩=some (.slice Au nu cu)∧vL Wd Yi z X4 Cw X5 Cx∧vL Wd Hu y Y4 pO Y5 oZ from⟨z2,HSX.out.below hdb,TS.out.below hdb⟩);have Ig:=ah.mk (show ∀W':World,(W'.cell? ⟨w3.heap.size,2,none⟩=some (.slice Au nu cu)∧vL W' Yi z X4 Cw X5 Cx∧vL W' Hu y Y4 pO Y5 oZ)→∀{W''},Below W'.heap.size W' W''→(W''.cell? ⟨w3.heap.size,2,none⟩=some (.slice Au nu cu)∧vL W'' Yi z X4 Cw X5 Cx∧vL W'' Hu y Y4 pO Y5 oZ) from fun W' h W'' hb=>⟨aj hb h.1,h.2.1.below hb,h.2.2.below hb⟩);have DY:=ah.mk (show Below w.heap.size w Wd from (xS.out.below hdb).low);clear hdr hva hra z2 hdb;refine mX (n:=13) (S:=fun w'=>w'.cell? ⟨w3.heap.size,2,none⟩=some (.slice Au nu cu)∧vL w' Yi z X4 Cw X5 Cx∧vL w' Hu y Y4 pO Y5 oZ) (ds:=[10,12]) #[false,false,false,false,false,false,false,false,false,false,false,false,false] (by kernel_rfl) (by kernel_rfl) (by rintro⟨a,w',h⟩;exact Exit.noConfusion (yt.eq (show yt w w7.heap.size w3.heap.size (w3.heap.size+1+1) (w3.heap.size+1+1+1) (w3.heap.size+1) (jl a0) (jl a1) (((pre++[x]).map Two.nL.rd).foldl jU []) W Exit.outgrown w' from h))) rfl rfl (by rw[hWd];exact HS.out) (fun hHeld=>?_);rw[hWd] at hHeld ⊢;clear hWd;refine bA (i:=0) (N:=some 91) (v:=?_) (a':=?_) #[true,false,false,false,false,false,false,false,false,false,false,false,false] rfl rfl (by kernel_rfl) (fun _ _ _ h=>h) (Or.inl ⟨by rfl,?_⟩) ?_ ?_;rotate_left
          ·intro w'
           go_simp
           with_reducible rfl
          rotate_left
          ·simp only[Act.put,aYa,aYb,aYc,aG,aH];rfl
          refine dM (i:=1) (N:=some 92) (v:=?_) (a':=?_) #[true,true,false,false,false,false,false,false,false,false,false,false,false] rfl rfl (by kernel_rfl) (fun _ _ _ h=>h) (Or.inl ⟨by rfl,?_⟩) hHeld ?_ ?_;rotate_left
          ·rintro w' ⟨s,⟨x0,x1,x2,x3,x4,x5⟩,⟨y0,y1,y2,y3,y4,y5⟩⟩
           go_simp
           with_reducible rfl
          rotate_left
          ·simp only[Act.put,aYa,aYb,aYc,aG,aH];rfl
          refine bA (i:=2) (N:=some 93) (v:=?_) (a':=?_) #[true,true,true,false,false,false,false,false,false,false,false,false,false] rfl rfl (by kernel_rfl) (fun _ _ _ h=>h) (Or.inl ⟨by rfl,?_⟩) ?_ ?_;rotate_left
          ·intro w'
           go_simp
           with_reducible rfl
          rotate_left
          ·simp only[Act.put,aYa,aYb,aYc,aG,aH];rfl
          refine bA (i:=3) (N:=some 94) (v:=?_) (a':=?_) #[true,true,true,true,false,false,false,false,false,false,false,false,false] rfl rfl (by kernel_rfl) (fun _ _ _ h=>h) (Or.inl ⟨by rfl,?_⟩) ?_ ?_;rotate_left
          ·intro w'
           go_simp
           with_reducible rfl
          rotate_left
          ·simp only[Act.put,aYa,aYb,aYc,aG,aH];rfl
          refine dM (i:=4) (N:=some 95) (v:=?_) (a':=?_) #[true,true,true,true,true,false,false,false,false,false,false,false,false] rfl rfl (by kernel_rfl) (fun _ _ _ h=>h) (Or.inl ⟨by rfl,?_⟩) hHeld ?_ ?_;rotate_left
          ·rintro w' ⟨s,⟨x0,x1,x2,x3,x4,x5⟩,⟨y0,y1,y2,y3,y4,y5⟩⟩
           go_simp
           with_reducible rfl
          rotate_left
          ·simp only[Act.put,aYa,aYb,aYc,aG,aH];rfl
          refine bA (i:=5) (N:=some 96) (v:=?_) (a':=?_) #[true,true,true,true,true,true,false,false,false,false,false,false,false] rfl rfl (by kernel_rfl) (fun _ _ _ h=>h) (Or.inl ⟨by rfl,?_⟩) ?_ ?_;rotate_left
          ·intro w'
           go_simp
           with_reducible rfl
          rotate_left
          ·simp only[Act.put,aYa,aYb,aYc,aG,aH];rfl
          refine bA (i:=6) (N:=some 97) (v:=?_) (a':=?_) #[true,true,true,true,true,true,true,false,false,false,false,false,false] rfl rfl (by kernel_rfl) (fun _ _ _ h=>h) (Or.inl ⟨by rfl,?_⟩) ?_ ?_;rotate_left
          ·intro w'
           go_simp
           with_reducible rfl
          rotate_left
          ·simp only[Act.put,aYa,aYb,aYc,aG,aH];rfl
          refine dM (i:=7) (N:=some 98) (v:=?_) (a':=?_) #[true,true,true,true,true,true,true,true,false,false,false,false,false] rfl rfl (by kernel_rfl) (fun _ _ _ h=>h) (Or.inl ⟨by rfl,?_⟩) hHeld ?_ ?_;rotate_left
          ·rintro w' ⟨s,⟨x0,x1,x2,x3,x4,x5⟩,⟨y0,y1,y2,y3,y4,y5⟩⟩
           go_simp
           with_reducible rfl
          rotate_left
          ·simp only[Act.put,aYa,aYb,aYc,aG,aH];rfl
          refine kg (i:=8) (N:=some 99) #[true,true,true,true,true,true,true,true,true,false,false,false,false] rfl rfl (by kernel_rfl) (by decide) (fun K hK=>?_);refine mq Tryz.func53 (by kernel_rfl) rfl #[.agg #[.int .i64 z.f0,.string z.f1,.string z.f2,.int .i64 z.f3,.slice X4 z.f4.length Cw,.slice X5 z.f5.length Cx],.agg #[.int .i64 y.f0,.string y.f1,.string y.f2,.int .i64 y.f3,.slice Y4 y.f4.length pO,.slice Y5 y.f5.length oZ]] (by rfl) rfl rfl (by (try simp only[List.map_toArray,List.map_cons,List.map_nil]);first|done|rfl) ?_;have hed:=Vr z y X4 Cw X5 Cx Y4 pO Y5 oZ Wd HFX.out HFY.out HLX.out.l4 (Kd.aC HLX.out.g4 DY.out) HLX.out.l5 (Kd.aC HLX.out.g5 DY.out) DW.out.l4 (Kd.aC DW.out.g4 DY.out) DW.out.l5 (Kd.aC DW.out.g5 DY.out);refine hed.mono ?_;clear hed;rintro e Wz ⟨v5,v6,v7,rfl,h5,h6,h7,hbz⟩;refine⟨_,rfl,?_⟩;have vC:=ah.mk (aD M8.out hbz);have vV:=ah.mk (Kd.dh yA.out hbz);have Yk:=ah.mk (Yj.out.below hbz);have Px:=ah.mk (Hz.out.trans (jK.below hbz));have Py:=ah.mk (show w7.heap.size≤Wz.heap.size from Nat.le_trans vP.out hbz.size);have Pz:=ah.mk (show ∀k,Wd.heap.size≤k→True∧some k≠(Value.slice Au nu cu).ownBlock from fun k hk=>⟨trivial,fun e=>by have:=Kd.Ih yA.out k e.symm;omega⟩);have PD:=ah.mk (wz (w0:=w) (w:=Wz) (base:=w7.heap.size) (ok:=fun k=>Wd.heap.size≤k) (x:=qx z y) (Kd.oO (Kd.fC (Kd.dJ (Kd.fZ h5) (fun k hk=>hk.2.1)) vP.out)) (Kd.oO (Kd.fC (Kd.dJ (Kd.fZ h6) (fun k hk=>hk.2.1)) vP.out)) (Kd.oO (Kd.fC (Kd.dJ (Kd.fZ h7) (fun k hk=>hk.2.1)) vP.out)));refine hK.out _ _ (Ig.out _ hHeld hbz) (fun hHeld=>?_);clear hK K h5 h6 h7 hbz;refine eB (a':=?_) ?_ ?_;rotate_left
          ·show Act.put _ (some 99) _=_
           simp only[Act.put,aYa,aYb,aYc,aG,aH];rfl
          refine kg (i:=9) (N:=some 100) #[true,true,true,true,true,true,true,true,true,true,false,false,false] rfl rfl (by kernel_rfl) (by decide) (fun K hK=>?_);refine nD (v:=.slice (some ⟨Wz.heap.size,0,none⟩) 1 1) (w1:=Wz.alloc (.cells #[.int .i64 3,.int .i64 1,.string y.f1,.string ⟨#[]⟩,.int .i64 y.f3,v5,v6,v7] 31)) (by rfl) rfl ?_ ?_
          ·go_simp
           try rfl
          have hal:=(Below.refl Wz.heap.size Wz).alloc (Nat.le_refl _) (.cells #[.int .i64 3,.int .i64 1,.string y.f1,.string ⟨#[]⟩,.int .i64 y.f3,v5,v6,v7] 31);refine hK.out _ _ (Ig.out _ hHeld hal) (fun hHeld=>?_);clear hK K hal;refine eB (a':=?_) ?_ ?_;rotate_left
          ·show Act.put _ (some 100) _=_
           simp only[Act.put,aYa,aYb,aYc,aG,aH];rfl
          refine kC (i:=10) (N:=some 101) #[true,true,true,true,true,true,true,true,true,true,true,false,false] rfl rfl (by kernel_rfl) (by decide) (fun K hK=>?_);refine Kd.ji (BH w) (w0:=Wz) w7.heap.size (by rfl) (.tmp 92) (.tmp 100) 22 31 (.agg #[.int .i64 0,.int .i64 0,.string ⟨#[]⟩,.string ⟨#[]⟩,.int .i64 0,.slice none 0 0,.slice none 0 0,.slice none 0 0]) 128 rfl Tryz.underlying22 BI rfl (by show 0<8;decide) (by decide) (.slice Au nu cu) S0 (qx z y) [.int .i64 3,.int .i64 1,.string y.f1,.string ⟨#[]⟩,.int .i64 y.f3,v5,v6,v7] (fun _=>True) (fun k=>Wd.heap.size≤k) rfl rfl PD.out Pz.out (fun _ _=>trivial) vV.out (Below.refl _ _) Py.out (by have:=Yf.out;omega) ?_;intro v1 w1 hr1 _hb hg1 mK;obtain⟨yu,FB,yw,hv1⟩:=gK hr1;subst hv1;have hbx:=(hg1.block _ (bD vC.out) (jr vV.out vC.out (fun cs e=>by injection e with _ e;exact absurd e (by decide)))).trans vC.out;have Xp:w1.cell? ⟨w3.heap.size,2,none⟩=some (.slice Au nu cu):=ak hbx 2;have f10:=av hbx 2;have M9:=ah.mk (Yk.out.push vC.out vV.out hr1 hg1 zl hw3);have PE:=ah.mk (Px.out.trans ((jK.grown (G:=fun k=>k=w3.heap.size) (T:=fun q=>q=31) vV.out (Nat.le_refl _) rfl hg1).trans (jK.set (G:=fun k=>k=w3.heap.size) rfl 2 (.slice yu FB yw))));clear hr1 _hb hg1 mK hbx;refine hK.out _ _ ?_;clear hK K hHeld;refine eB (a':=?_) ?_ ?_;rotate_left
          ·show Act.put _ (some 101) _=_
           simp only[Act.put,aYa,aYb,aYc,aG,aH];rfl
          refine bA (i:=11) (N:=some 102) (v:=?_) (a':=?_) #[true,true,true,true,true,true,true,true,true,true,true,true,false] rfl rfl (by kernel_rfl) (fun _ _ _ h=>h) (Or.inl ⟨by rfl,?_⟩) ?_ ?_;rotate_left
          ·intro w'
           go_simp
           with_reducible rfl
          rotate_left
          ·simp only[Act.put,aYa,aYb,aYc,aG,aH];rfl
          refine kC (i:=12) (N:=none) #[true,true,true,true,true,true,true,true,true,true,true,true,true] rfl rfl (by kernel_rfl) (by decide) (fun K hK=>?_);refine sM (w1:=w1.setCell ⟨w3.heap.size,2,none⟩ (.slice yu FB yw)) (by rfl) rfl ?_ ?_
          ·go_simp
          refine hK.out _ _ ?_;clear hK K;refine ku (by kernel_rfl) ?_;exact FIN.out _ (by rw[HQ.out];exact M9.out) PE.out
         ·have b2:(y.f0 == 1)=false:=beq_eq_false_iff_ne.2 hy1
          have HQ:ah (((pre++[x]).map Two.nL.rd).foldl jU []=S0++[⟨2,y,[]⟩]):=⟨by rw[List.map_append,List.foldl_append,Ie.out];show S0++(kI x.a x.b).toList=_;rw[HXA.out,HXB.out];unfold kI;rw[if_neg (by rw[HSM.out];decide)];dsimp only;rw[if_neg (fun h=>hy1 h.2)];rfl⟩
          clear hz1 hy1
          gi_wp2_with (refine⟨trivial,rfl,?_⟩;gi_at_call 52;refine (CallsIn.inRound l (callsIn_wide.2 (S9.out _ HD1.out.low))).mono ?_;rintro e w5 ⟨rfl,⟨nm,rfl⟩⟩;have k1:=((Ta.out.below HD1.out.low).below (au (Below.refl _ _) nm)).1;have k2:=((PK.out.below HD1.out.low).below (au (Below.refl _ _) nm)).1)
          clear k1 k2;have hwd:=au (Below.refl W1.heap.size W1) nm;have xS:=ah.mk (HD1.out.below hwd);have CZ:=ah.mk (Hl.out.trans (jK.below hwd))
          obtain⟨Ws,hWs⟩:∃Ws,W1.drewN nm=Ws:=⟨_,rfl⟩
          rw[hWs] at xS CZ
          try rw[hWs]
          clear hwd hWs HD1 Hl S9;have TS:=ah.mk (PK.out.below xS.out.low);have hdr:=bC (Below.refl Ws.heap.size Ws)
          obtain⟨Wd,hWd⟩:∃Wd,Ws.drew=Wd:=⟨_,rfl⟩
          have hdb:Below Ws.heap.size Ws Wd:=hWd▸hdr;obtain⟨va,hva,hra⟩:=(xS.out.below hdb).box;obtain⟨Au,nu,cu,hvu⟩:=gK hra;subst hvu;have M8:=ah.mk hva;have yA:=ah.mk hra;have Yj:=ah.mk (xS.out.below hdb);have Hz:=ah.mk (CZ.out.trans (jK.below hdb));have vP:=ah.mk (show w7.heap.size≤Wd.heap.size from (xS.out.below hdb).big);have z2:Wd.cell? ⟨w3.heap.size,2,none⟩=some (.slice Au nu cu):=ak hva 2;have HS:=ah.mk (show Wd.cell? ⟨w3.heap.size,2,none⟩=some (.slice Au nu cu)∧vL Wd Hu y Y4 pO Y5 oZ from⟨z2,TS.out.below hdb⟩);have Ig:=ah.mk (show ∀W':World,(W'.cell? ⟨w3.heap.size,2,none⟩=some (.slice Au nu cu)∧vL W' Hu y Y4 pO Y5 oZ)→∀{W''},Below W'.heap.size W' W''→(W''.cell? ⟨w3.heap.size,2,none⟩=some (.slice Au nu cu)∧vL W'' Hu y Y4 pO Y5 oZ) from fun W' h W'' hb=>⟨aj hb h.1,h.2.below hb⟩);clear hdr hva hra z2 hdb;have vC:=M8;have vV:=yA;have Yk:=Yj;have Px:=Hz;have Py:=vP;have PD:=ah.mk (wz (w0:=w) (w:=Wd) (base:=w7.heap.size) (ok:=fun _=>False) (x:=⟨2,y,[]⟩) (Kd.uJ DW.out.l4 DW.out.g4) (Kd.uJ DW.out.l5 DW.out.g5) (Kd.oO (Kd.fA _ _ _ _ _)));refine mX (n:=10) (S:=fun w'=>w'.cell? ⟨w3.heap.size,2,none⟩=some (.slice Au nu cu)∧vL w' Hu y Y4 pO Y5 oZ) (ds:=[7,9]) #[false,false,false,false,false,false,false,false,false,false] (by kernel_rfl) (by kernel_rfl) (by rintro⟨a,w',h⟩;exact Exit.noConfusion (yt.eq (show yt w w7.heap.size w3.heap.size (w3.heap.size+1+1) (w3.heap.size+1+1+1) (w3.heap.size+1) (jl a0) (jl a1) (((pre++[x]).map Two.nL.rd).foldl jU []) W Exit.outgrown w' from h))) rfl rfl (by rw[hWd];exact HS.out) (fun hHeld=>?_);rw[hWd] at hHeld ⊢;clear hWd;refine bA (i:=0) (N:=some 47) (v:=?_) (a':=?_) #[true,false,false,false,false,false,false,false,false,false] rfl rfl (by kernel_rfl) (fun _ _ _ h=>h) (Or.inl ⟨by rfl,?_⟩) ?_ ?_;rotate_left
          ·intro w'
           go_simp
           with_reducible rfl
          rotate_left
          ·simp only[Act.put,aYa,aYb,aYc,aG,aH];rfl
          refine dM (i:=1) (N:=some 48) (v:=?_) (a':=?_) #[true,true,false,false,false,false,false,false,false,false] rfl rfl (by kernel_rfl) (fun _ _ _ h=>h) (Or.inl ⟨by rfl,?_⟩) hHeld ?_ ?_;rotate_left
          ·rintro w' ⟨s,⟨y0,y1,y2,y3,y4,y5⟩⟩
           go_simp
           with_reducible rfl
          rotate_left
          ·simp only[Act.put,aYa,aYb,aYc,aG,aH];rfl
          refine bA (i:=2) (N:=some 49) (v:=?_) (a':=?_) #[true,true,true,false,false,false,false,false,false,false] rfl rfl (by kernel_rfl) (fun _ _ _ h=>h) (Or.inl ⟨by rfl,?_⟩) ?_ ?_;rotate_left
          ·intro w'
           go_simp
           with_reducible rfl
          rotate_left
          ·simp only[Act.put,aYa,aYb,aYc,aG,aH];rfl
          refine bA (i:=3) (N:=some 50) (v:=?_) (a':=?_) #[true,true,true,true,false,false,false,false,false,false] rfl rfl (by kernel_rfl) (fun _ _ _ h=>h) (Or.inl ⟨by rfl,?_⟩) ?_ ?_;rotate_left
          ·intro w'
           go_simp
           with_reducible rfl
          rotate_left
          ·simp only[Act.put,aYa,aYb,aYc,aG,aH];rfl
          refine dM (i:=4) (N:=some 51) (v:=?_) (a':=?_) #[true,true,true,true,true,false,false,false,false,false] rfl rfl (by kernel_rfl) (fun _ _ _ h=>h) (Or.inl ⟨by rfl,?_⟩) hHeld ?_ ?_;rotate_left
          ·rintro w' ⟨s,⟨y0,y1,y2,y3,y4,y5⟩⟩
           go_simp
           with_reducible rfl
          rotate_left
          ·simp only[Act.put,aYa,aYb,aYc,aG,aH];rfl
          refine bA (i:=5) (N:=some 52) (v:=?_) (a':=?_) #[true,true,true,true,true,true,false,false,false,false] rfl rfl (by kernel_rfl) (fun _ _ _ h=>h) (Or.inl ⟨by rfl,?_⟩) ?_ ?_;rotate_left
          ·intro w'
           go_simp
           with_reducible rfl
          rotate_left
          ·simp only[Act.put,aYa,aYb,aYc,aG,aH];rfl
          refine kg (i:=6) (N:=some 53) #[true,true,true,true,true,true,true,false,false,false] rfl rfl (by kernel_rfl) (by decide) (fun K hK=>?_);refine nD (v:=.slice (some ⟨Wd.heap.size,0,none⟩) 1 1) (w1:=Wd.alloc (.cells #[.int .i64 2,.int .i64 y.f0,.string y.f1,.string y.f2,.int .i64 y.f3,.slice Y4 y.f4.length pO,.slice Y5 y.f5.length oZ,.slice none 0 0] 31)) (by rfl) rfl ?_ ?_
          ·go_simp
           try rfl
          have hal:=(Below.refl Wd.heap.size Wd).alloc (Nat.le_refl _) (.cells #[.int .i64 2,.int .i64 y.f0,.string y.f1,.string y.f2,.int .i64 y.f3,.slice Y4 y.f4.length pO,.slice Y5 y.f5.length oZ,.slice none 0 0] 31);refine hK.out _ _ (Ig.out _ hHeld hal) (fun hHeld=>?_);clear hK K hal;refine eB (a':=?_) ?_ ?_;rotate_left
          ·show Act.put _ (some 53) _=_
           simp only[Act.put,aYa,aYb,aYc,aG,aH];rfl
          refine kC (i:=7) (N:=some 54) #[true,true,true,true,true,true,true,true,false,false] rfl rfl (by kernel_rfl) (by decide) (fun K hK=>?_);refine Kd.ji (BH w) (w0:=Wd) w7.heap.size (by rfl) (.tmp 48) (.tmp 53) 22 31 (.agg #[.int .i64 0,.int .i64 0,.string ⟨#[]⟩,.string ⟨#[]⟩,.int .i64 0,.slice none 0 0,.slice none 0 0,.slice none 0 0]) 128 rfl Tryz.underlying22 BI rfl (by show 0<8;decide) (by decide) (.slice Au nu cu) S0 ⟨2,y,[]⟩ [.int .i64 2,.int .i64 y.f0,.string y.f1,.string y.f2,.int .i64 y.f3,.slice Y4 y.f4.length pO,.slice Y5 y.f5.length oZ,.slice none 0 0] (fun _=>True) (fun _=>False) rfl rfl PD.out (fun _ h=>h.elim) (fun _ _=>trivial) vV.out (Below.refl _ _) Py.out (by have:=Yf.out;omega) ?_;intro v1 w1 hr1 _hb hg1 mK;obtain⟨yu,FB,yw,hv1⟩:=gK hr1;subst hv1;have hbx:=(hg1.block _ (bD vC.out) (jr vV.out vC.out (fun cs e=>by injection e with _ e;exact absurd e (by decide)))).trans vC.out;have Xp:w1.cell? ⟨w3.heap.size,2,none⟩=some (.slice Au nu cu):=ak hbx 2;have f10:=av hbx 2;have M9:=ah.mk (Yk.out.push vC.out vV.out hr1 hg1 zl hw3);have PE:=ah.mk (Px.out.trans ((jK.grown (G:=fun k=>k=w3.heap.size) (T:=fun q=>q=31) vV.out (Nat.le_refl _) rfl hg1).trans (jK.set (G:=fun k=>k=w3.heap.size) rfl 2 (.slice yu FB yw))));clear hr1 _hb hg1 mK hbx;refine hK.out _ _ ?_;clear hK K hHeld;refine eB (a':=?_) ?_ ?_;rotate_left
          ·show Act.put _ (some 54) _=_
           simp only[Act.put,aYa,aYb,aYc,aG,aH];rfl
          refine bA (i:=8) (N:=some 55) (v:=?_) (a':=?_) #[true,true,true,true,true,true,true,true,true,false] rfl rfl (by kernel_rfl) (fun _ _ _ h=>h) (Or.inl ⟨by rfl,?_⟩) ?_ ?_;rotate_left
          ·intro w'
           go_simp
           with_reducible rfl
          rotate_left
          ·simp only[Act.put,aYa,aYb,aYc,aG,aH];rfl
          refine kC (i:=9) (N:=none) #[true,true,true,true,true,true,true,true,true,true] rfl rfl (by kernel_rfl) (by decide) (fun K hK=>?_);refine sM (w1:=w1.setCell ⟨w3.heap.size,2,none⟩ (.slice yu FB yw)) (by rfl) rfl ?_ ?_
          ·go_simp
          refine hK.out _ _ ?_;clear hK K;refine ku (by kernel_rfl) ?_;exact FIN.out _ (by rw[HQ.out];exact M9.out) PE.out
        ·have b1:(z.f0 == 1)=false:=beq_eq_false_iff_ne.2 hz1
         have HQ:ah (((pre++[x]).map Two.nL.rd).foldl jU []=S0++[⟨2,y,[]⟩]):=⟨by rw[List.map_append,List.foldl_append,Ie.out];show S0++(kI x.a x.b).toList=_;rw[HXA.out,HXB.out];unfold kI;rw[if_neg (by rw[HSM.out];decide)];dsimp only;rw[if_neg (fun h=>hz1 h.1)];rfl⟩
         clear hz1
         gi_wp2_with (refine⟨trivial,rfl,?_⟩;gi_at_call 52;refine (CallsIn.inRound l (callsIn_wide.2 (S9.out _ HD1.out.low))).mono ?_;rintro e w5 ⟨rfl,⟨nm,rfl⟩⟩;have k1:=((Ta.out.below HD1.out.low).below (au (Below.refl _ _) nm)).1;have k2:=((PK.out.below HD1.out.low).below (au (Below.refl _ _) nm)).1)
         clear k1 k2;have hwd:=au (Below.refl W1.heap.size W1) nm;have xS:=ah.mk (HD1.out.below hwd);have CZ:=ah.mk (Hl.out.trans (jK.below hwd))
         obtain⟨Ws,hWs⟩:∃Ws,W1.drewN nm=Ws:=⟨_,rfl⟩
         rw[hWs] at xS CZ
         try rw[hWs]
         clear hwd hWs HD1 Hl S9;have TS:=ah.mk (PK.out.below xS.out.low);have hdr:=bC (Below.refl Ws.heap.size Ws)
         obtain⟨Wd,hWd⟩:∃Wd,Ws.drew=Wd:=⟨_,rfl⟩
         have hdb:Below Ws.heap.size Ws Wd:=hWd▸hdr;obtain⟨va,hva,hra⟩:=(xS.out.below hdb).box;obtain⟨Au,nu,cu,hvu⟩:=gK hra;subst hvu;have M8:=ah.mk hva;have yA:=ah.mk hra;have Yj:=ah.mk (xS.out.below hdb);have Hz:=ah.mk (CZ.out.trans (jK.below hdb));have vP:=ah.mk (show w7.heap.size≤Wd.heap.size from (xS.out.below hdb).big);have z2:Wd.cell? ⟨w3.heap.size,2,none⟩=some (.slice Au nu cu):=ak hva 2;have HS:=ah.mk (show Wd.cell? ⟨w3.heap.size,2,none⟩=some (.slice Au nu cu)∧vL Wd Hu y Y4 pO Y5 oZ from⟨z2,TS.out.below hdb⟩);have Ig:=ah.mk (show ∀W':World,(W'.cell? ⟨w3.heap.size,2,none⟩=some (.slice Au nu cu)∧vL W' Hu y Y4 pO Y5 oZ)→∀{W''},Below W'.heap.size W' W''→(W''.cell? ⟨w3.heap.size,2,none⟩=some (.slice Au nu cu)∧vL W'' Hu y Y4 pO Y5 oZ) from fun W' h W'' hb=>⟨aj hb h.1,h.2.below hb⟩);clear hdr hva hra z2 hdb;have vC:=M8;have vV:=yA;have Yk:=Yj;have Px:=Hz;have Py:=vP;have PD:=ah.mk (wz (w0:=w) (w:=Wd) (base:=w7.heap.size) (ok:=fun _=>False) (x:=⟨2,y,[]⟩) (Kd.uJ DW.out.l4 DW.out.g4) (Kd.uJ DW.out.l5 DW.out.g5) (Kd.oO (Kd.fA _ _ _ _ _)));refine mX (n:=10) (S:=fun w'=>w'.cell? ⟨w3.heap.size,2,none⟩=some (.slice Au nu cu)∧vL w' Hu y Y4 pO Y5 oZ) (ds:=[7,9]) #[false,false,false,false,false,false,false,false,false,false] (by kernel_rfl) (by kernel_rfl) (by rintro⟨a,w',h⟩;exact Exit.noConfusion (yt.eq (show yt w w7.heap.size w3.heap.size (w3.heap.size+1+1) (w3.heap.size+1+1+1) (w3.heap.size+1) (jl a0) (jl a1) (((pre++[x]).map Two.nL.rd).foldl jU []) W Exit.outgrown w' from h))) rfl rfl (by rw[hWd];exact HS.out) (fun hHeld=>?_);rw[hWd] at hHeld ⊢;clear hWd;refine bA (i:=0) (N:=some 47) (v:=?_) (a':=?_) #[true,false,false,false,false,false,false,false,false,false] rfl rfl (by kernel_rfl) (fun _ _ _ h=>h) (Or.inl ⟨by rfl,?_⟩) ?_ ?_;rotate_left
         ·intro w'
          go_simp
          with_reducible rfl
         rotate_left
         ·simp only[Act.put,aYa,aYb,aYc,aG,aH];rfl
         refine dM (i:=1) (N:=some 48) (v:=?_) (a':=?_) #[true,true,false,false,false,false,false,false,false,false] rfl rfl (by kernel_rfl) (fun _ _ _ h=>h) (Or.inl ⟨by rfl,?_⟩) hHeld ?_ ?_;rotate_left
         ·rintro w' ⟨s,⟨y0,y1,y2,y3,y4,y5⟩⟩
          go_simp
          with_reducible rfl
         rotate_left
         ·simp only[Act.put,aYa,aYb,aYc,aG,aH];rfl
         refine bA (i:=2) (N:=some 49) (v:=?_) (a':=?_) #[true,true,true,false,false,false,false,false,false,false] rfl rfl (by kernel_rfl) (fun _ _ _ h=>h) (Or.inl ⟨by rfl,?_⟩) ?_ ?_;rotate_left
         ·intro w'
          go_simp
          with_reducible rfl
         rotate_left
         ·simp only[Act.put,aYa,aYb,aYc,aG,aH];rfl
         refine bA (i:=3) (N:=some 50) (v:=?_) (a':=?_) #[true,true,true,true,false,false,false,false,false,false] rfl rfl (by kernel_rfl) (fun _ _ _ h=>h) (Or.inl ⟨by rfl,?_⟩) ?_ ?_;rotate_left
         ·intro w'
          go_simp
          with_reducible rfl
         rotate_left
         ·simp only[Act.put,aYa,aYb,aYc,aG,aH];rfl
         refine dM (i:=4) (N:=some 51) (v:=?_) (a':=?_) #[true,true,true,true,true,false,false,false,false,false] rfl rfl (by kernel_rfl) (fun _ _ _ h=>h) (Or.inl ⟨by rfl,?_⟩) hHeld ?_ ?_;rotate_left
         ·rintro w' ⟨s,⟨y0,y1,y2,y3,y4,y5⟩⟩
          go_simp
          with_reducible rfl
         rotate_left
         ·simp only[Act.put,aYa,aYb,aYc,aG,aH];rfl
         refine bA (i:=5) (N:=some 52) (v:=?_) (a':=?_) #[true,true,true,true,true,true,false,false,false,false] rfl rfl (by kernel_rfl) (fun _ _ _ h=>h) (Or.inl ⟨by rfl,?_⟩) ?_ ?_;rotate_left
         ·intro w'
          go_simp
          with_reducible rfl
         rotate_left
         ·simp only[Act.put,aYa,aYb,aYc,aG,aH];rfl
         refine kg (i:=6) (N:=some 53) #[true,true,true,true,true,true,true,false,false,false] rfl rfl (by kernel_rfl) (by decide) (fun K hK=>?_);refine nD (v:=.slice (some ⟨Wd.heap.size,0,none⟩) 1 1) (w1:=Wd.alloc (.cells #[.int .i64 2,.int .i64 y.f0,.string y.f1,.string y.f2,.int .i64 y.f3,.slice Y4 y.f4.length pO,.slice Y5 y.f5.length oZ,.slice none 0 0] 31)) (by rfl) rfl ?_ ?_
         ·go_simp
          try rfl
         have hal:=(Below.refl Wd.heap.size Wd).alloc (Nat.le_refl _) (.cells #[.int .i64 2,.int .i64 y.f0,.string y.f1,.string y.f2,.int .i64 y.f3,.slice Y4 y.f4.length pO,.slice Y5 y.f5.length oZ,.slice none 0 0] 31);refine hK.out _ _ (Ig.out _ hHeld hal) (fun hHeld=>?_);clear hK K hal;refine eB (a':=?_) ?_ ?_;rotate_left
         ·show Act.put _ (some 53) _=_
          simp only[Act.put,aYa,aYb,aYc,aG,aH];rfl
         refine kC (i:=7) (N:=some 54) #[true,true,true,true,true,true,true,true,false,false] rfl rfl (by kernel_rfl) (by decide) (fun K hK=>?_);refine Kd.ji (BH w) (w0:=Wd) w7.heap.size (by rfl) (.tmp 48) (.tmp 53) 22 31 (.agg #[.int .i64 0,.int .i64 0,.string ⟨#[]⟩,.string ⟨#[]⟩,.int .i64 0,.slice none 0 0,.slice none 0 0,.slice none 0 0]) 128 rfl Tryz.underlying22 BI rfl (by show 0<8;decide) (by decide) (.slice Au nu cu) S0 ⟨2,y,[]⟩ [.int .i64 2,.int .i64 y.f0,.string y.f1,.string y.f2,.int .i64 y.f3,.slice Y4 y.f4.length pO,.slice Y5 y.f5.length oZ,.slice none 0 0] (fun _=>True) (fun _=>False) rfl rfl PD.out (fun _ h=>h.elim) (fun _ _=>trivial) vV.out (Below.refl _ _) Py.out (by have:=Yf.out;omega) ?_;intro v1 w1 hr1 _hb hg1 mK;obtain⟨yu,FB,yw,hv1⟩:=gK hr1;subst hv1;have hbx:=(hg1.block _ (bD vC.out) (jr vV.out vC.out (fun cs e=>by injection e with _ e;exact absurd e (by decide)))).trans vC.out;have Xp:w1.cell? ⟨w3.heap.size,2,none⟩=some (.slice Au nu cu):=ak hbx 2;have f10:=av hbx 2;have M9:=ah.mk (Yk.out.push vC.out vV.out hr1 hg1 zl hw3);have PE:=ah.mk (Px.out.trans ((jK.grown (G:=fun k=>k=w3.heap.size) (T:=fun q=>q=31) vV.out (Nat.le_refl _) rfl hg1).trans (jK.set (G:=fun k=>k=w3.heap.size) rfl 2 (.slice yu FB yw))));clear hr1 _hb hg1 mK hbx;refine hK.out _ _ ?_;clear hK K hHeld;refine eB (a':=?_) ?_ ?_;rotate_left
         ·show Act.put _ (some 54) _=_
          simp only[Act.put,aYa,aYb,aYc,aG,aH];rfl
         refine bA (i:=8) (N:=some 55) (v:=?_) (a':=?_) #[true,true,true,true,true,true,true,true,true,false] rfl rfl (by kernel_rfl) (fun _ _ _ h=>h) (Or.inl ⟨by rfl,?_⟩) ?_ ?_;rotate_left
         ·intro w'
          go_simp
          with_reducible rfl
         rotate_left
         ·simp only[Act.put,aYa,aYb,aYc,aG,aH];rfl
         refine kC (i:=9) (N:=none) #[true,true,true,true,true,true,true,true,true,true] rfl rfl (by kernel_rfl) (by decide) (fun K hK=>?_);refine sM (w1:=w1.setCell ⟨w3.heap.size,2,none⟩ (.slice yu FB yw)) (by rfl) rfl ?_ ?_
         ·go_simp
         refine hK.out _ _ ?_;clear hK K;refine ku (by kernel_rfl) ?_;exact FIN.out _ (by rw[HQ.out];exact M9.out) PE.out
    case done=>
     rintro xs W hxs hlt hi hd;have Vm:xs.map Two.nL.rd=rs:=hxs
     have hdf:(xs.map Two.nL.rd).foldl jU []=jw l0 l1:=by rw[Vm,← Wy.out];rfl
     rw[hdf] at hi;have hft:∀c∈jw l0 l1,tH c:=xD HZ0.out HZ1.out HF.out.1 HF.out.2 _ [] (fun r hr=>Two.here hr) (by simp);obtain⟨v,hv,Lc⟩:=hi.box;have hmm:=xA.out
     obtain⟨D,hD⟩:∃D,jw l0 l1=D:=⟨_,rfl⟩
     rw[hD] at hi hft Lc hmm;obtain⟨Av,cv,hvs⟩:=Kd.bH Lc;subst hvs;obtain⟨_,hle,hcv⟩:=Kd.dB Lc;have hC:Kd.C GZ W Av D.length D:=Kd.acv (dm:=BH w) (d:=GZ) rfl (fun x cs h=>R7 hi.low h) hcv;have hpk:=I5 (jl a0) (jl a1) Av cv D W hC hle hft (pI HB0.out.2.2).1 (pI HB0.out.2.2).2 (pI HB1.out.2.2).1 (pI HB1.out.2.2).2;rw[hmm] at hpk;have HPK:=ah.mk hpk;have HV:=ah.mk hv;have HDf:=ah.mk hd;have HL:=ah.mk hi.low;have HBG:=ah.mk hi.big;clear hxs Vm hdf hft hmm hv Lc hcv hC hpk hd hi hD hle HT HI0
     go_wp2_with (first
      | (refine dR (.load 24 (.tmp 9)) rfl ?_;refine wpList_load_row rfl _ _ rfl w3.heap.size rfl 24 _ (0,0) _ HV.out Tryz.underlying24 rfl (by kernel_rfl) ?_)
      | (go_at_call 32;refine (HPK.out).mono ?_;rintro e w8 ⟨v8,rfl,Le,xK⟩;have Xg:=ah.mk Le;have Cz:=ah.mk xK;clear Le xK))
     have hd8:=aD HDf.out Cz.out;rw[SY] at hd8 zl;refine⟨by simp,.inl ⟨_,_,rfl,run_takeDeferred hd8,?_⟩⟩;have hkq:=Kq.wu (B:=w3.heap.size+4) (l:=w3.heap.size+4) (o':=.deferred none) (Nat.le_refl _) hd8 rfl;exact⟨_,results_tmp2 rfl _ _ _,_,rfl,Kd.fC (hkq.row Xg.out (by decide)) HL.out.size,pz (HL.out.trans (Cz.out.mono HL.out.size)) zl (Nat.le_refl _) hd8 rfl⟩
 ·rw[if_neg hf] at h;cases h
end Go.Proofs.YtknihldkhedpkaaGreatDoor
