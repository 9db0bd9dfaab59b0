import Derived.Test.YtknihldkhedpkaaGreatDoorUUG14
import Derived.Test.YtknihldkhedpkaaGreatDoorUUG16
import Derived.Test.YtknihldkhedpkaaGreatDoorUUG10
set_option linter.all false
set_option maxHeartbeats 16000000
set_option maxRecDepth 100000
section
namespace Go.Proofs.YtknihldkhedpkaaGreatDoor
open Go.RowKit Go.Lib
open Go.Proofs.YtknihldkhedpkaaGreatDoorW.PrintWords Go.Proofs.YtknihldkhedpkaaGreatDoorW.PrintLast Go.Proofs.YtknihldkhedpkaaGreatDoor.PT
theorem uZ {fn:Func} {P:Program} {p1 p2:Tmp} {t1:TypeId} (h:fn.results=#[.cell p1 t1,.tmp p2]) (tmps:Array Value) (w:World) (b1:Nat) (cs:Array Value) (d:TypeDesc)
  (h1:tmps.getD p1 undef=.pointer (some ⟨b1,0,none⟩)) (g1:w.heap[b1]?=some (.cells cs t1 (0,0)))
  (hu:P.underlying t1=some d) (hd:(match d with|.struct _|.array _ _=>true|_=>false)=true) (hi:(P.info? t1).map (·.size)=some cs.size) :
  (results fn tmps).run P w=.ok (.tuple #[.agg cs,tmps.getD p2 undef]) w:=by
 have h1':tmps[p1]?.getD undef=.pointer (some ⟨b1,0,none⟩):=by simpa using h1
 have e1:=run_loadVar_row w b1 t1 t1 cs (0,0) d g1 hu hd hi;simp only[results,h];simp[h1',asAddr,e1,Result.andThen,Sem.run_bind]
theorem J2 {w:World} {b b':Nat} {v:Value} {xs:List qF} (h:Kd.R IW 31 w b (fun _=>True) v xs) (hb:b'≤b):Kd.R IW 31 w b' (fun _=>True) v xs :=
 ⟨h.1,(eU.lower h.2 hb).rJ (fun p cs hp=>by
  obtain⟨v5,v6,v7,rfl,g5,g6,g7⟩:=Ub hp
  exact R7 w b' _ p ⟨g5.1,eU.lower g5.2 hb⟩ ⟨g6.1,eU.lower g6.2 hb⟩ ⟨g7.1,eU.lower g7.2 hb⟩)⟩
theorem Ut {l r:List Int} {x:It} (h:oU l=some (x,r)) (hl:By l):Fit x:=by
 unfold oU at h
 cases h1:gW 1 l with
 | none=>rw[h1] at h;cases h
 | some q=>
  obtain⟨k,l1⟩:=q;rw[h1] at h;dsimp only at h;have b1:=fT h1 hl
  cases h2:iZ l1 with
  | none=>rw[h2] at h;cases h
  | some q=>
   obtain⟨p,l2⟩:=q;rw[h2] at h;dsimp only at h;have b2:=nR h2 b1.1;split at h
   ·cases h3:gW 8 l2 with
    | none=>rw[h3] at h;cases h
    | some q=>
     obtain⟨sz,l3⟩:=q;rw[h3] at h;dsimp only at h;have b3:=fT h3 b2.1
     cases h4:mo l3 with
     | none=>rw[h4] at h;cases h
     | some q=>
      obtain⟨rs,all,l4⟩:=q;rw[h4] at h;dsimp only at h;have b4:=oQ h4 b3.1
      cases h5:ql all l4 with
      | none=>rw[h5] at h;cases h
      | some q=>
       obtain⟨d,l5⟩:=q;rw[h5] at h;have b5:=Bb h5 b4.1;have hl3:=b3.1.1
       injection h with h
       injection h with h _
       subst h;exact⟨by show p.size≤_;omega,by show (0:Nat)≤_;omega,by show rs.length≤_;omega,by show d.length≤_;have:=b5.2.2.1;omega,b5.2.2.2⟩
   split at h
   ·cases h3:iZ l2 with
    | none=>rw[h3] at h;cases h
    | some q=>
     obtain⟨t,l3⟩:=q;rw[h3] at h;have b3:=nR h3 b2.1
     injection h with h
     injection h with h _
     subst h;exact⟨by show p.size≤_;omega,by show t.size≤_;omega,by show (0:Nat)≤_;omega,by show (0:Nat)≤_;omega,fun n hn=>by cases hn⟩
   injection h with h
   injection h with h _
   subst h;exact⟨by show p.size≤_;omega,by show (0:Nat)≤_;omega,by show (0:Nat)≤_;omega,by show (0:Nat)≤_;omega,fun n hn=>by cases hn⟩
theorem NJ {k:Int} {l r:List Int} {c:qF} (h:jD k l=some (c,r)) (hl:By l):uH c:=by
 unfold jD at h;split at h
 ·cases h1:iZ l with
  | none=>rw[h1] at h;cases h
  | some q=>
   obtain⟨p,l1⟩:=q;rw[h1] at h;have b1:=nR h1 hl
   injection h with h
   injection h with h _
   subst h;exact⟨⟨by show p.size≤_;omega,by show (0:Nat)≤_;omega,by show (0:Nat)≤_;omega,by show (0:Nat)≤_;omega,fun n hn=>by cases hn⟩,by show (0:Nat)≤_;omega⟩
 split at h
 ·cases h1:oU l with
  | none=>rw[h1] at h;cases h
  | some q=>
   obtain⟨x,l1⟩:=q;rw[h1] at h;have b1:=Ut h1 hl
   injection h with h
   injection h with h _
   subst h;exact⟨b1,by show (0:Nat)≤_;omega⟩
 split at h
 ·cases h1:iZ l with
  | none=>rw[h1] at h;cases h
  | some q=>
   obtain⟨p,l1⟩:=q;rw[h1] at h;dsimp only at h;have b1:=nR h1 hl
   cases h2:gW 8 l1 with
   | none=>rw[h2] at h;cases h
   | some q=>
    obtain⟨sz,l2⟩:=q;rw[h2] at h;dsimp only at h;have b2:=fT h2 b1.1
    cases h3:mo l2 with
    | none=>rw[h3] at h;cases h
    | some q=>
     obtain⟨rs,a1,l3⟩:=q;rw[h3] at h;dsimp only at h;have b3:=oQ h3 b2.1
     cases h4:mo l3 with
     | none=>rw[h4] at h;cases h
     | some q=>
      obtain⟨st,all,l4⟩:=q;rw[h4] at h;dsimp only at h;have b4:=oQ h4 b3.1
      cases h5:ql all l4 with
      | none=>rw[h5] at h;cases h
      | some q=>
       obtain⟨d,l5⟩:=q;rw[h5] at h;have b5:=Bb h5 b4.1;have q2:=b2.1.1;have q3:=b3.1.1
       injection h with h
       injection h with h _
       subst h;exact⟨⟨by show p.size≤_;omega,by show (0:Nat)≤_;omega,by show rs.length≤_;omega,by show d.length≤_;have:=b5.2.2.1;omega,b5.2.2.2⟩,by show st.length≤_;omega⟩
 cases h
theorem FQ:∀(f:Nat) (k:Int) (acc cs:List qF) (l r:List Int),qy f k acc l=some (cs,r)→By l→(∀c∈acc,uH c)→∀c∈cs,uH c
 | 0,_,_,_,_,_,h,_,_=>by cases h
 | f+1,k,acc,cs,l,r,h,hl,ha=>by
  rw[qy] at h;split at h
  ·injection h with h
   injection h with h _
   subst h;exact ha
  cases h1:jD k l with
  | none=>rw[h1] at h;cases h
  | some q=>
   obtain⟨c,l1⟩:=q;rw[h1] at h;dsimp only at h;have b1:=FI h1 hl;have f1:=NJ h1 hl
   cases h2:gW 1 l1 with
   | none=>rw[h2] at h;cases h
   | some q=>
    obtain⟨k2,l2⟩:=q;rw[h2] at h;dsimp only at h;have b2:=fT h2 b1.1
    exact FQ f k2 _ cs l2 r h b2.1 (fun x hx=>by
     rcases List.mem_append.1 hx with hx|hx
     ·exact ha x hx
     rw[List.mem_singleton.1 hx];exact f1)
theorem vW {l:List Int} {b g:Int} {cs:List qF} (h:qU l=some (b,g,cs)) (hl:By l):(0≤b∧b≤4294967295)∧(0≤g∧g≤4294967295)∧∀c∈cs,uH c:=by
 unfold qU at h
 cases h1:mK 8 l with
 | none=>rw[h1] at h;cases h
 | some q=>
  obtain⟨m,l1⟩:=q;rw[h1] at h;dsimp only at h;have b1:=uS h1 hl;split at h
  ·cases h2:gW 4 l1 with
   | none=>rw[h2] at h;cases h
   | some q=>
    obtain⟨bb,l2⟩:=q;rw[h2] at h;dsimp only at h;have b2:=fT h2 b1.2.1;have r2:=lC h2 b1.2.1 aD;rw[show (256:Int) ^ 4=4294967296 by decide] at r2
    cases h3:gW 4 l2 with
    | none=>rw[h3] at h;cases h
    | some q=>
     obtain⟨g2,l3⟩:=q;rw[h3] at h;dsimp only at h;have b3:=fT h3 b2.1;have r3:=lC h3 b2.1 aD;rw[show (256:Int) ^ 4=4294967296 by decide] at r3
     cases h4:gW 1 l3 with
     | none=>rw[h4] at h;cases h
     | some q=>
      obtain⟨k,l4⟩:=q;rw[h4] at h;dsimp only at h;have b4:=fT h4 b3.1
      cases h5:qy (l.length+1) k [] l4 with
      | none=>rw[h5] at h;cases h
      | some q=>
       obtain⟨cs2,l5⟩:=q;rw[h5] at h;dsimp only[FE] at h;have f5:=FQ _ _ _ _ _ _ h5 b4.1 (fun c hc=>by cases hc)
       cases h6:mK 8 l5 with
       | none=>rw[h6] at h;cases h
       | some q=>
        obtain⟨_,l6⟩:=q;rw[h6] at h;dsimp only at h;split at h
        ·injection h with h
         injection h with e1 h
         injection h with e2 e3
         subst e1 e2 e3;exact⟨⟨r2.1,by omega⟩,⟨r3.1,by omega⟩,f5⟩
        cases h
  cases h
theorem Uu {out:List Int} (h:∀x∈out,0≤x∧x≤255) (n:Int):∀x∈jM out n,0≤x∧x≤255:=by
 unfold jM;exact jc (jc (jc h (fM _ _)) (fM _ _)) (fM _ _)
theorem FR (n:Int):∀(l:List qF) (out:List Int),(∀x∈out,0≤x∧x≤255)→(∀c∈l,uH c)→∀x∈(kZ n out l).1,0≤x∧x≤255
 | [],out,ho,_=>Uu ho n
 | c::l,out,ho,hf=>by
  rw[kZ];split
  ·intro x hx;cases hx
  exact FR n l _ (jc ho (Wv (hf c bK))) (fun d hd=>hf d (by simp[hd]))
theorem FT {b g:Int} {l:List qF} (hf:∀c∈l,uH c):∀x∈(iA b g l).1,0≤x∧x≤255:=by
 unfold iA;split
 ·intro x hx;cases hx
 split
 ·exact FR _ l _ (jc (jc JY (fM _ _)) (fM _ _)) hf
 intro x hx;cases hx
def vk (l:List Int):Option (Int × Int × List qF) × Int :=
 if 16777216<l.length then (none,7) else match qU l with
  | none=>(none,180)
  | some (b,g,cs)=>if (iA b g cs).2≠0 then (none,180) else if (iA b g cs).1=l then (some (b,g,cs),0) else (none,180)
def agC (w:World) (o:Option (Int × Int × List qF) × Int) (e:Ending) (w':World):Prop:=Below w.heap.size w w'∧match o with
 | (none,n)=>e=.returned (.tuple #[.agg #[.int .i64 0,.int .i64 0,.slice none 0 0],.int .i64 n])
 | (some (b,g,cs),n)=>∃v,e=.returned (.tuple #[.agg #[.int .i64 b,.int .i64 g,v],.int .i64 n])∧Kd.R IW 31 w' w.heap.size (fun _=>True) v cs
theorem NK (A0:Option Addr) (c0:Nat) (l:List Int) (w:World) (hr:Kd.C (Kd.int .u8) w A0 l.length l) (hc:l.length≤c0) (hl:By l) :
  Calls Tryz.prog 31 #[.slice A0 l.length c0] w fun e w'=>agC w (vk l) e w':=by
 obtain⟨o,ho⟩:∃o,vk l=o:=⟨_,rfl⟩
 rw[ho];unfold vk at ho
 obtain⟨w1,hw1⟩:∃w1,w.alloc (.cells #[.int .i64 0,.int .i64 0,.slice none 0 0] 24)=w1:=⟨_,rfl⟩
 have hb1:=(Below.refl w.heap.size w).alloc (Nat.le_refl _) (.cells #[.int .i64 0,.int .i64 0,.slice none 0 0] 24);have hk1:=bJ w (.cells #[.int .i64 0,.int .i64 0,.slice none 0 0] 24);rw[hw1] at hb1 hk1;have HB1:=ah.mk hb1;have jY:=ah.mk hk1;have HR1:=ah.mk (Kd.aC hr hb1);clear hb1 hk1 hr;by_cases hbig:16777216<l.length
 ·rw[if_pos hbig] at ho;have d1:decide ((16777216:Int)<(l.length:Int))=true:=decide_eq_true aj;have HO:=ah.mk ho.symm;clear ho
  go_enter Tryz.func31,Tryz.ntmps31
  go_wp2_with (refine dX (.store 24 (.tmp 2) (.tmp 11)) rfl ?_;refine wpList_store_row rfl 24 (.tmp 2) (.tmp 11) rfl w.heap.size #[.int .i64 0,.int .i64 0,.slice none 0 0] rfl rfl 24 _ jY.out aA (by rfl) (by simp[Value.oneCell']) ?_)
  rw[HO.out];refine bodyPost_ret (uZ rfl _ _ w.heap.size #[.int .i64 0,.int .i64 0,.slice none 0 0] _ rfl (setRow_heap _ _ _ _ _ _ jY.out) Tryz.underlying24 rfl aA) rfl ⟨below_setRow HB1.out (Nat.le_refl _) _,?_⟩;rfl
 rw[if_neg hbig] at ho;have d1:decide ((16777216:Int)<(l.length:Int))=false:=decide_eq_false aj;have cc:=Uq A0 c0 l w1 HR1.out hc hl
 obtain⟨p,hp⟩:∃p,qU l=p:=⟨_,rfl⟩
 rw[hp] at ho cc
 cases p with
 | none=>
  have HO:=ah.mk ho.symm;have C:=ah.mk cc;clear ho cc hp
  go_enter Tryz.func31,Tryz.ntmps31
  go_wp2_with fail
  refine C.out.mono ?_;rintro e w2 ⟨hb2,b,g,A,n,c,rfl⟩;have hba:=(Below.refl w2.heap.size w2).alloc (Nat.le_refl _) (.cells #[.int .i64 b,.int .i64 g,.slice A n c] 24);have jG:=ah.mk (aG (aG jY.out hb2) hba);have HB2:=ah.mk ((HB1.out.trans (hb2.mono HB1.out.size)).trans (hba.mono (Nat.le_trans HB1.out.size hb2.size)));clear hb2 hba
  go_wp2_with (refine dX (.store 24 (.tmp 2) (.tmp 19)) rfl ?_;refine wpList_store_row rfl 24 (.tmp 2) (.tmp 19) rfl w.heap.size #[.int .i64 0,.int .i64 0,.slice none 0 0] rfl rfl 24 _ jG.out aA (by rfl) (by simp[Value.oneCell']) ?_)
  rw[HO.out];refine bodyPost_ret (uZ rfl _ _ w.heap.size #[.int .i64 0,.int .i64 0,.slice none 0 0] _ rfl (setRow_heap _ _ _ _ _ _ jG.out) Tryz.underlying24 rfl aA) rfl ⟨below_setRow HB2.out (Nat.le_refl _) _,?_⟩;rfl
 | some q=>
  obtain⟨b,g,cs⟩:=q;dsimp only at ho;obtain⟨⟨hb0,Un⟩,⟨hg0,Nf⟩,hfit⟩:=vW hp hl;have C:=ah.mk cc;have HO:=ah.mk ho;have HF:=ah.mk hfit;clear ho cc hp hfit
  go_enter Tryz.func31,Tryz.ntmps31
  go_wp2_with fail
  refine C.out.mono ?_;rintro e w2 ⟨hb2,v,rfl,hr2⟩;obtain⟨A,c,hv,hcap,hread⟩:=Kd.ug hr2;subst hv
  go_upto_region 6 with (fail)
  obtain⟨w3,hw3⟩:∃w3,w2.alloc (.cells #[.int .i64 b,.int .i64 g,.slice A cs.length c] 24)=w3:=⟨_,rfl⟩
  have hba:=(Below.refl w2.heap.size w2).alloc (Nat.le_refl _) (.cells #[.int .i64 b,.int .i64 g,.slice A cs.length c] 24);have hbk:=bJ w2 (.cells #[.int .i64 b,.int .i64 g,.slice A cs.length c] 24);rw[hw3] at hba hbk ⊢
  obtain⟨bx,hbx⟩:∃bx,bx=w2.heap.size:=⟨_,rfl⟩
  rw[← hbx] at hbk ⊢;have qQ:=ah.mk (aG (aG jY.out hb2) hba);have Yr:=ah.mk hbk;have HR3:=ah.mk (Kd.dF hr2 hba);have HB3:=ah.mk ((HB1.out.trans (hb2.mono HB1.out.size)).trans (hba.mono (Nat.le_trans HB1.out.size hb2.size)));have HL3:=ah.mk (Kd.aC (Kd.aC HR1.out hb2) hba);have hpk:=JZ b g A c cs w3 (Kd.aC hread hba) hcap HF.out hb0 Un hg0 Nf;have hwf:=FT (b:=b) (g:=g) HF.out;have ho:=HO.out
  obtain⟨pk,Uv⟩:∃pk,iA b g cs=pk:=⟨_,rfl⟩
  rw[Uv] at hpk hwf ho;obtain⟨pb,pe⟩:=pk;dsimp only at hpk hwf ho;have HPK:=ah.mk hpk;have HWF:=ah.mk hwf;have AQ:=HB1.out.size;have hlw:w.heap.size≤w1.heap.size:=AQ;clear hw3 hbx hba hbk hr2 hread hb2 hpk Uv hwf HO AQ
  go_upto_region 7 with (first|(refine dX (.load 24 (.tmp 4)) rfl ?_;refine wpList_load_row rfl _ _ rfl bx rfl 24 #[.int .i64 b,.int .i64 g,.slice A cs.length c] (0,0) _ Yr.out Tryz.underlying24 rfl aA ?_)|(go_at_call 32;refine HPK.out.mono ?_;rintro e w4 ⟨v4,rfl,hr4,hb4⟩;obtain⟨A4,c4,hv4,hcap4,Wx⟩:=Kd.ug hr4;subst hv4;have HC4:=ah.mk Wx;have kJ:=ah.mk hb4;clear hr4 Wx hb4))
  have wV:=ah.mk (aG qQ.out kJ.out);have MK:=ah.mk (aG Yr.out kJ.out);have HR4:=ah.mk (Kd.dF HR3.out kJ.out);have HL4:=ah.mk (Kd.aC HL3.out kJ.out);have wW:=ah.mk (HB3.out.trans (kJ.out.mono HB3.out.size));clear qQ Yr HR3 HL3 HB3 kJ HPK;by_cases he:pe=0
  ·have heb:(pe != 0)=false:=by rw[he];rfl
   rw[if_neg (fun h=>h he)] at ho;have heq:=PT.bytes_Equal.calls A4 c4 pb A0 c0 l (decide (pb=l)) w4 HC4.out hcap4 HL4.out hc (by unfold PT.bytes_Equal.f;rw[uW HWF.out hl.2]);by_cases hq:pb=l
   ·rw[if_pos hq] at ho;rw[decide_eq_true hq] at heq;have HO:=ah.mk ho.symm;have Py:=ah.mk heq;clear ho heq he hq
    go_upto_region 9 with (go_at_call 62;refine Py.out.mono ?_;rintro e w5 ⟨rfl,⟨n5,rfl⟩⟩)
    have hd5:Below w4.heap.size w4 (w4.drewN n5):=av (Below.refl _ _) n5;have sP:=ah.mk (aG wV.out hd5);have I4:=ah.mk (aG MK.out hd5);have nD:=ah.mk (Kd.dF HR4.out hd5);have kH:=ah.mk (wW.out.trans (hd5.mono wW.out.size));clear hd5
    go_wp2_with (first|(refine dX (.load 24 (.tmp 4)) rfl ?_;refine wpList_load_row rfl _ _ rfl bx rfl 24 #[.int .i64 b,.int .i64 g,.slice A cs.length c] (0,0) _ I4.out Tryz.underlying24 rfl aA ?_)|(refine dX (.store 24 (.tmp 2) (.tmp 34)) rfl ?_;refine wpList_store_row rfl 24 (.tmp 2) (.tmp 34) rfl w.heap.size #[.int .i64 b,.int .i64 g,.slice A cs.length c] rfl rfl 24 _ sP.out aA (by rfl) (by simp[Value.oneCell']) ?_))
    rw[HO.out];refine bodyPost_ret (uZ rfl _ _ w.heap.size #[.int .i64 b,.int .i64 g,.slice A cs.length c] _ rfl (setRow_heap _ _ _ _ _ _ sP.out) Tryz.underlying24 rfl aA) rfl ⟨below_setRow kH.out (Nat.le_refl _) _,?_⟩;exact⟨_,rfl,ku (J2 nD.out hlw) sP.out aD _⟩
   rw[if_neg hq] at ho;rw[decide_eq_false hq] at heq;have HO:=ah.mk ho.symm;have Py:=ah.mk heq;clear ho heq he hq
   go_upto_region 8 with (go_at_call 62;refine Py.out.mono ?_;rintro e w5 ⟨rfl,⟨n5,rfl⟩⟩)
   have hd5:Below w4.heap.size w4 (w4.drewN n5):=av (Below.refl _ _) n5;have sP:=ah.mk (aG wV.out hd5);have kH:=ah.mk (wW.out.trans (hd5.mono wW.out.size));clear hd5
   go_wp2_with (refine dX (.store 24 (.tmp 2) (.tmp 33)) rfl ?_;refine wpList_store_row rfl 24 (.tmp 2) (.tmp 33) rfl w.heap.size #[.int .i64 0,.int .i64 0,.slice none 0 0] rfl rfl 24 _ sP.out aA (by rfl) (by simp[Value.oneCell']) ?_)
   rw[HO.out];refine bodyPost_ret (uZ rfl _ _ w.heap.size #[.int .i64 0,.int .i64 0,.slice none 0 0] _ rfl (setRow_heap _ _ _ _ _ _ sP.out) Tryz.underlying24 rfl aA) rfl ⟨below_setRow kH.out (Nat.le_refl _) _,?_⟩;rfl
  have heb:(pe != 0)=true:=bne_iff_ne.2 he;rw[if_pos he] at ho;have HO:=ah.mk ho.symm;clear ho he
  go_upto_region 8 with (fail)
  go_wp2_with (refine dX (.store 24 (.tmp 2) (.tmp 33)) rfl ?_;refine wpList_store_row rfl 24 (.tmp 2) (.tmp 33) rfl w.heap.size #[.int .i64 0,.int .i64 0,.slice none 0 0] rfl rfl 24 _ wV.out aA (by rfl) (by simp[Value.oneCell']) ?_)
  rw[HO.out];refine bodyPost_ret (uZ rfl _ _ w.heap.size #[.int .i64 0,.int .i64 0,.slice none 0 0] _ rfl (setRow_heap _ _ _ _ _ _ wV.out) Tryz.underlying24 rfl aA) rfl ⟨below_setRow wW.out (Nat.le_refl _) _,?_⟩;rfl
theorem NM:∀(m:Nat) (x:Int),0≤x→x<256 ^ m→Er (leB m x)=x
 | 0,x,h0,h1=>by
  rw[leB,Er];simp at h1;omega
 | m+1,x,h0,h1=>by
  rw[Int.pow_succ] at h1;rw[leB,Er,NM m (x / 256) aj aj];omega
theorem NP {m:Nat} {x:Int} (hm:m≤7) (h0:0≤x) (h1:x<256 ^ m):KY (leB m x)=x:=by
 rw[Nl (fM m x) (by rw[aT];omega),NM m x h0 h1]
theorem NQ:∀(m:Nat) (x:Int),leB (m+1) x=leB m x++[x / 256 ^ m % 256]
 | 0,x=>by simp[leB]
 | m+1,x=>by
  rw[leB,NQ m (x / 256),leB,List.cons_append,Int.pow_succ,Int.mul_comm,show x / (256*256 ^ m)=x / 256 / 256 ^ m from by rw[Int.ediv_ediv];simp]
theorem Bo:∀(a b:List Int) (i:Nat) (v:Int),sW i v (a++b)=sW (i+a.length) (sW i v a) b
 | [],b,i,v=>by simp[sW]
 | c::a,b,i,v=>by
  rw[List.cons_append,sW,Bo a b (i+1),sW,List.length_cons,show i+1+a.length=i+(a.length+1) by omega]
theorem or_zero {v:Int} (h0:0≤v) (h1:v<4611686018427387904):Go.bits .or .i64 v 0=v:=by
 have:=bits_join_low .i64 62 aD (fun n h0 h1=>by rw[IntKind.wrap_i64];omega) 62 v 0 h0 aj aj aj aD aD;omega
theorem Uw {x:Int} (h0:0≤x) (h1:x<256 ^ 7):KY (leB 8 x)=x:=by
 have h7:=NP (m:=7) aD h0 h1
 have hp:(256:Int) ^ 7=72057594037927936:=by decide
 rw[hp] at h1
 unfold KY at *
 rw[NQ 7,Bo,h7,hp,Int.ediv_eq_zero_of_lt h0 h1];rw[sW,sW,show (0:Int) % 256*2 ^ (8*(0+(leB 7 x).length))=0 by simp,wrap64_in (n:=0) aD aD,or_zero h0 aj]
theorem o8 {m:Nat} {x:Int} (r:List Int) (hm:m≤7) (h0:0≤x) (h1:x<256 ^ m):gW m (leB m x++r)=some (x,r):=by
 unfold gW;rw[if_pos (by rw[List.length_append,aT];omega),List.take_left' (aT m x),List.drop_left' (aT m x),NP hm h0 h1]
theorem J3 {x:Int} (r:List Int) (h0:0≤x) (h1:x<256 ^ 7):gW 8 (leB 8 x++r)=some (x,r):=by
 unfold gW;rw[if_pos (by rw[List.length_append,aT];omega),List.take_left' (aT 8 x),List.drop_left' (aT 8 x),Uw h0 h1]
theorem yN (a r:List Int) {n:Nat} (h:a.length=n):mK n (a++r)=some (a,r):=by
 unfold mK;rw[if_pos (by rw[List.length_append];omega),List.take_left' h,List.drop_left' h]
theorem Ux (s:ByteArray):strOfNums (Go.Proofs.YtknihldkhedpkaaGreatDoorW.PrintWords.bytesOf s)=s:=by
 unfold Go.Proofs.YtknihldkhedpkaaGreatDoorW.PrintWords.bytesOf strOfNums;apply ByteArray.ext;apply Array.ext';simp[List.map_map,Function.comp_def]
theorem Wy {l l1 b l2:List Int} {n:Int} (h1:gW 2 l=some (n,l1)) (h2:mK n.toNat l1=some (b,l2)):iZ l=some (strOfNums b,l2):=by
 unfold iZ;rw[h1];dsimp only;rw[h2]
theorem WA {l l1:List Int} {n:Int} (h1:gW 4 l=some (n,l1)):mo l=uT n.toNat 0 [] l1:=by
 unfold mo;rw[h1]
theorem um (s:ByteArray) (r:List Int) (h:s.size≤65535):iZ (jI s++r)=some (s,r):=by
 have hp:(256:Int) ^ 2=65536:=by decide
 have e1:=o8 (m:=2) (x:=(s.size:Int)) (Go.Proofs.YtknihldkhedpkaaGreatDoorW.PrintWords.bytesOf s++r) aD aj aj;have e2:=yN (Go.Proofs.YtknihldkhedpkaaGreatDoorW.PrintWords.bytesOf s) r (Go.Proofs.YtknihldkhedpkaaGreatDoorW.PrintWords.bytesOf_length s);have e3:=Ux s
 have e0:jI s++r=leB 2 (s.size:Int)++(Go.Proofs.YtknihldkhedpkaaGreatDoorW.PrintWords.bytesOf s++r):=by unfold jI;rw[List.append_assoc]
 have h:=Wy e1 (by rw[Int.toNat_natCast];exact e2);rw[e0,h,e3]
def zC:List Ru→Int
 | []=>0
 | r::l=>(r.f1 - r.f0)+zC l
theorem DV:∀(l:List Ru) (all:Int) (acc:List Ru) (r:List Int),(∀q∈l,0≤q.f0∧q.f0<q.f1∧q.f1≤16522)→uT l.length all acc (iy l++r)=some (acc++l,all+zC l,r)
 | [],all,acc,r,_=>by simp[uT,iy,zC]
 | q::l,all,acc,r,h=>by
  have hq:=h q bK
  have hp:(256:Int) ^ 4=4294967296:=by decide
  have e:iy (q::l)++r=leB 4 q.f0++(leB 4 q.f1++(iy l++r)):=by unfold iy;simp[List.append_assoc]
  rw[List.length_cons,uT,e,o8 (m:=4) _ aD hq.1 aj];dsimp only;rw[o8 (m:=4) _ aD aj aj];dsimp only;rw[if_neg aj,DV l _ _ r (fun x hx=>h x (by simp[hx])),zC,List.append_assoc];simp;omega
theorem xO (l:List Ru) (r:List Int) (h:∀q∈l,0≤q.f0∧q.f0<q.f1∧q.f1≤16522) (hl:l.length≤1048576):mo (jP l++r)=some (l,zC l,r):=by
 have hp:(256:Int) ^ 4=4294967296:=by decide
 have e1:=o8 (m:=4) (x:=(l.length:Int)) (iy l++r) aD aj aj
 have e0:jP l++r=leB 4 (l.length:Int)++(iy l++r):=by unfold jP;rw[List.append_assoc]
 have e2:=DV l 0 [] r h;rw[e0,WA e1,Int.toNat_natCast,e2,List.nil_append,Int.zero_add]
theorem J4 (d r:List Int) {n:Int} (h:(d.length:Int)=n*512):ql n (d++r)=some (d,r):=by
 unfold ql;rw[if_neg (by rw[List.length_append];omega),yN _ _ aj]
theorem Ae {most:Int}:∀(l:List Ru) (last all n:Int),gZ most last all l=some n→-1≤last→n=all+zC l∧∀q∈l,0≤q.f0∧q.f0<q.f1∧q.f1≤most
 | [],last,all,n,h,_=>by
  rw[gZ] at h
  injection h with h
  exact⟨by rw[zC];omega,fun q hq=>by cases hq⟩
 | r::l,last,all,n,h,hl=>by
  rw[gZ] at h;split at h
  ·cases h
  rename_i hc;have ih:=Ae l r.f1 _ n h aj;refine⟨by rw[zC];omega,fun q hq=>?_⟩
  rcases List.mem_cons.1 hq with rfl|hq
  ·omega
  exact ih.2 q hq
theorem FU {x:It} {n:Int} (h:gJ x=some n):n=zC x.f4∧0≤x.f3∧x.f3≤8459264∧∀q∈x.f4,0≤q.f0∧q.f0<q.f1∧q.f1≤16522:=by
 obtain⟨h0,h1,h2⟩:=xI h;have h3:=Ae x.f4 (-1) 0 n h2 aj;exact⟨by omega,h0,h1,fun q hq=>by have:=h3.2 q hq;omega⟩
theorem Bp {s:ByteArray} (h:s.size=0):s=⟨#[]⟩:=by
 apply ByteArray.ext;exact Array.eq_empty_of_size_eq_zero h
theorem Qk {l l1 l2 l3 l4 l5:List Int} {k sz all:Int} {p:ByteArray} {rs:List Ru} {d:List Int} (h1:gW 1 l=some (k,l1)) (h2:iZ l1=some (p,l2)) (k1:k=1) (h3:gW 8 l2=some (sz,l3)) (h4:mo l3=some (rs,all,l4)) (h5:ql all l4=some (d,l5)):oU l=some (⟨k,p,⟨#[]⟩,sz,rs,d⟩,l5):=by
 unfold oU;rw[h1];dsimp only;rw[h2];dsimp only;rw[if_pos k1,h3];dsimp only;rw[h4];dsimp only;rw[h5]
theorem Ql {l l1 l2 l3:List Int} {k:Int} {p t:ByteArray} (h1:gW 1 l=some (k,l1)) (h2:iZ l1=some (p,l2)) (k1:¬k=1) (k3:k=3∨k=4) (h3:iZ l2=some (t,l3)):oU l=some (⟨k,p,t,0,[],[]⟩,l3):=by
 unfold oU;rw[h1];dsimp only;rw[h2];dsimp only;rw[if_neg k1,if_pos k3,h3]
theorem NR {l l1 l2:List Int} {k:Int} {p:ByteArray} (h1:gW 1 l=some (k,l1)) (h2:iZ l1=some (p,l2)) (k1:¬k=1) (k3:¬(k=3∨k=4)):oU l=some (⟨k,p,⟨#[]⟩,0,[],[]⟩,l2):=by
 unfold oU;rw[h1];dsimp only;rw[h2];dsimp only;rw[if_neg k1,if_neg k3]
theorem La {l l1:List Int} {k:Int} {p:ByteArray} (k1:k=1) (h1:iZ l=some (p,l1)):jD k l=some (⟨k,⟨0,p,⟨#[]⟩,0,[],[]⟩,[]⟩,l1):=by
 unfold jD;rw[if_pos k1,h1]
theorem NS {l l1:List Int} {k:Int} {x:It} (k2:k=2) (h1:oU l=some (x,l1)):jD k l=some (⟨k,x,[]⟩,l1):=by
 unfold jD;rw[if_neg aj,if_pos k2,h1]
theorem Lb {l l1 l2 l3 l4 l5:List Int} {k sz a1 all:Int} {p:ByteArray} {rs st:List Ru} {d:List Int} (k3:k=3) (h1:iZ l=some (p,l1)) (h2:gW 8 l1=some (sz,l2)) (h3:mo l2=some (rs,a1,l3)) (h4:mo l3=some (st,all,l4)) (h5:ql all l4=some (d,l5)):jD k l=some (⟨k,⟨1,p,⟨#[]⟩,sz,rs,d⟩,st⟩,l5):=by
 unfold jD;rw[if_neg aj,if_neg aj,if_pos k3,h1];dsimp only;rw[h2];dsimp only;rw[h3];dsimp only;rw[h4];dsimp only;rw[h5]
theorem NT {x:It} (r:List Int) (hk:jH x=true) (hp:x.f1.size≤65535):oU (eF x++r)=some (x,r):=by
 have hs:=Sl hk
 have e:eF x++r=leB 1 x.f0++(jI x.f1++((if x.f0=1 then leB 8 x.f3++leB 4 x.f4.length++iy x.f4++x.f5 else if x.f0=3∨x.f0=4 then leB 2 x.f2.size++Go.Proofs.YtknihldkhedpkaaGreatDoorW.PrintWords.bytesOf x.f2 else [])++r)):=by
  unfold eF jI;simp only[List.append_assoc]
 have hkr:1≤x.f0∧x.f0≤4:=by
  by_cases k1:x.f0=1
  ·omega
  by_cases k2:x.f0=2
  ·omega
  by_cases k3:x.f0=3
  ·omega
  by_cases k4:x.f0=4
  ·omega
  rw[pu5 k1 k2 k3 k4] at hk;cases hk
 have p1:(256:Int) ^ 1=256:=by decide
 have p7:(256:Int) ^ 7=72057594037927936:=by decide
 obtain⟨T,hT⟩:∃T,(if x.f0=1 then leB 8 x.f3++leB 4 (x.f4.length:Int)++iy x.f4++x.f5 else if x.f0=3∨x.f0=4 then leB 2 (x.f2.size:Int)++Go.Proofs.YtknihldkhedpkaaGreatDoorW.PrintWords.bytesOf x.f2 else [])=T:=⟨_,rfl⟩
 rw[hT] at e;have e1:=o8 (m:=1) (x:=x.f0) (jI x.f1++(T++r)) aD aj aj;have e2:=um x.f1 (T++r) hp;rw[e];by_cases k1:x.f0=1
 ·rw[if_pos k1] at hT;rw[pu1 k1] at hk
  cases hsz:gJ x with
  | none=>rw[hsz] at hk;cases hk
  | some n=>
   rw[hsz] at hk;simp only[Bool.and_eq_true,decide_eq_true_eq] at hk;obtain⟨hn,h0,h1,hr⟩:=FU hsz
   have eT:T++r=leB 8 x.f3++(jP x.f4++(x.f5++r)):=by rw[← hT];unfold jP;simp only[List.append_assoc]
   have e3:=J3 (x:=x.f3) (jP x.f4++(x.f5++r)) h0 aj;have e4:=xO x.f4 (x.f5++r) hr aj;have e5:=J4 x.f5 r (n:=zC x.f4) (by rw[← hn];exact hk.2.1);rw[← eT] at e3;rw[Qk e1 e2 k1 e3 e4 e5,← Bp hk.1]
 rw[if_neg k1] at hT;by_cases k3:x.f0=3∨x.f0=4
 ·rw[if_pos k3] at hT
  have hb:iQ x=true:=by
   rcases k3 with k3|k3
   ·rw[pu3 aj aj k3] at hk;exact (Bool.and_eq_true_iff.1 hk).1
   rw[pu4 aj aj aj k3] at hk;exact (Bool.and_eq_true_iff.1 hk).1
  obtain⟨b3,b4,b5⟩:=xL hb
  have eT:T++r=jI x.f2++r:=by rw[← hT];rfl
  have e3:=um x.f2 r aj;rw[← eT] at e3;have h4:=List.length_eq_zero_iff.1 b4;have h5:=List.length_eq_zero_iff.1 b5;rw[Ql e1 e2 k1 k3 e3]
  congr 2
  cases x;simp only at b3 h4 h5 ⊢;rw[b3,h4,h5]
 rw[if_neg k3] at hT
 have k2:x.f0=2:=by omega
 rw[pu2 k1 k2] at hk;simp only[Bool.and_eq_true,decide_eq_true_eq] at hk;obtain⟨b3,b4,b5⟩:=xL hk.1;have h2:=Bp hk.2;have h4:=List.length_eq_zero_iff.1 b4;have h5:=List.length_eq_zero_iff.1 b5;rw[NR e1 e2 k1 k3,← hT,List.nil_append]
 congr 2
 cases x;simp only at b3 h2 h4 h5 ⊢;rw[b3,h2,h4,h5]
theorem NU {c:qF} (r:List Int) (hk:lQ c=true) (hp:c.f1.f1.size≤65535):∃l1,rE c++r=leB 1 c.f0++l1∧1≤c.f0∧c.f0≤3∧jD c.f0 l1=some (c,r):=by
 have hs:=abX hk;unfold lQ at hk;unfold rE;by_cases k1:c.f0=1
 ·rw[if_pos k1] at hk;simp only[Bool.and_eq_true,decide_eq_true_eq] at hk;refine⟨jI c.f1.f1++r,by rw[if_pos k1,List.append_assoc],by omega,by omega,?_⟩;rw[La k1 (um _ r hp)];obtain⟨h1,h2,h3,h4,h5,h6⟩:=hk;have g1:=List.length_eq_zero_iff.1 h1;have g5:=List.length_eq_zero_iff.1 h5;have g6:=List.length_eq_zero_iff.1 h6;have g4:=Bp h4;obtain⟨f0,⟨i0,i1,i2,i3,i4,i5⟩,f2⟩:=c;simp only at g1 h2 h3 g4 g5 g6 ⊢;rw[g1,h2,h3,g4,g5,g6]
 rw[if_neg k1] at hk;by_cases k2:c.f0=2
 ·rw[if_pos k2] at hk;simp only[Bool.and_eq_true,decide_eq_true_eq] at hk;refine⟨eF c.f1++r,by rw[if_neg k1,if_pos k2,List.append_assoc],by omega,by omega,?_⟩;rw[NS k2 (NT r hk.2 hp)];have g1:=List.length_eq_zero_iff.1 hk.1;obtain⟨f0,i,f2⟩:=c;simp only at g1 ⊢;rw[g1]
 rw[if_neg k2] at hk;by_cases k3:c.f0=3
 ·rw[if_pos k3] at hk;unfold kL at hk
  cases hsz:gJ c.f1 with
  | none=>rw[hsz] at hk;cases hk
  | some n=>
   rw[hsz] at hk;dsimp only at hk;split at hk
   ·cases hk
   rename_i hne
   have hf0:c.f1.f0=1:=Classical.byContradiction fun h=>hne (.inl h)
   have hf2:c.f1.f2.size=0:=Classical.byContradiction fun h=>hne (.inr h)
   cases hap:jm c.f2 16522 with
   | none=>rw[hap] at hk;cases hk
   | some m=>
    rw[hap] at hk;simp only[Bool.and_eq_true,decide_eq_true_eq] at hk;obtain⟨hn,h0,h1,hr⟩:=FU hsz;have ha:=Ae c.f2 (-1) 0 m hap aj;refine⟨jI c.f1.f1++(leB 8 c.f1.f3++(jP c.f1.f4++(jP c.f2++(c.f1.f5++r)))),by rw[if_neg k1,if_neg k2,if_pos k3];simp only[List.append_assoc],by omega,by omega,?_⟩
    have p7:(256:Int) ^ 7=72057594037927936:=by decide
    rw[Lb k3 (um _ _ hp) (J3 _ h0 aj) (xO _ _ hr aj) (xO _ _ ha.2 aj) (J4 _ _ (by rw[hk.2.1,ha.1];simp))];have g2:=Bp hf2;obtain⟨f0,⟨i0,i1,i2,i3,i4,i5⟩,f2⟩:=c;simp only at g2 hf0 ⊢;rw[g2,hf0]
 rw[if_neg k3] at hk;cases hk
theorem agD (t:List Int):gW 1 (leB 1 0++t)=some (0,t):=o8 (m:=1) (x:=0) t aD aD aD
theorem NV {f:Nat} {k k2:Int} {acc:List qF} {l l1 l2:List Int} {c:qF} (hk:¬k=0) (h1:jD k l=some (c,l1)) (h2:gW 1 l1=some (k2,l2)):qy (f+1) k acc l=qy f k2 (acc++[c]) l2:=by
 rw[qy,if_neg hk,h1];dsimp only;rw[h2]
theorem WB {c:qF} (r:List Int) (hk:lQ c=true) (hp:c.f1.f1.size≤65535):∃l1,gW 1 (rE c++r)=some (c.f0,l1)∧¬c.f0=0∧jD c.f0 l1=some (c,r):=by
 obtain⟨l1,e,h1,h3,h⟩:=NU r hk hp
 have p1:(256:Int) ^ 1=256:=by decide
 exact⟨l1,by rw[e];exact o8 (m:=1) (x:=c.f0) l1 aD aj aj,by omega,h⟩
theorem DW:∀(cs acc:List qF) (f:Nat) (last:ByteArray) (t:List Int),cs.length<f→gK last cs=true→∃k r,gW 1 (cs.flatMap rE++(leB 1 0++t))=some (k,r)∧qy f k acc r=some (acc++cs,t)
 | [],acc,f,last,t,hf,_=>by
  obtain⟨f,rfl⟩:∃f',f=f'+1:=⟨f - 1,by omega⟩
  exact⟨0,t,agD t,by rw[qy,if_pos rfl,List.append_nil]⟩
 | c::cs,acc,f,last,t,hf,hr=>by
  obtain⟨f,rfl⟩:∃f',f=f'+1:=⟨f - 1,by omega⟩
  rw[gK] at hr;simp only[Bool.and_eq_true] at hr;have hp:=oW hr.1;obtain⟨l1,h1,h2,h3⟩:=WB (cs.flatMap rE++(leB 1 0++t)) hr.2.2.1 aj;obtain⟨k2,r2,h4,h5⟩:=DW cs (acc++[c]) f _ t (by rw[List.length_cons] at hf;omega) hr.2.2.2;refine⟨c.f0,l1,by rw[List.flatMap_cons,List.append_assoc];exact h1,?_⟩;rw[NV h2 h3 h4,h5,List.append_assoc];rfl
theorem FV (n:Int):∀(l:List qF) (out:List Int),(kZ n out l).2=0→(kZ n out l).1=jM (out++l.flatMap rE) n∧(l≠[]→(out++l.flatMap rE).length+9≤16777216)
 | [],out,_=>⟨by rw[kZ,List.flatMap_nil,List.append_nil],fun h=>absurd rfl h⟩
 | c::l,out,h=>by
  rw[kZ] at h ⊢;by_cases hb:(out++rE c).length+9 > 16777216
  ·rw[if_pos hb] at h;exact absurd h aD
  rw[if_neg hb] at h ⊢;have ih:=FV n l _ h;rw[List.flatMap_cons,← List.append_assoc];refine⟨ih.1,fun _=>?_⟩
  by_cases hl:l=[]
  ·subst hl;rw[List.flatMap_nil,List.append_nil];omega
  exact ih.2 hl
theorem Jg (out:List Int) (n:Int):(jM out n).length=out.length+9:=by
 unfold jM;simp only[List.length_append,aT]
theorem xP {b g:Int} {l:List qF} (h:(iA b g l).2=0):l.length≤8192∧sU b g l=true∧(iA b g l).1=jM (iX++leB 4 b++leB 4 g++l.flatMap rE) l.length∧(iA b g l).1.length≤16777216:=by
 by_cases h1:8192<l.length
 ·have e:iA b g l=([],7):=by unfold iA;rw[if_pos h1]
  rw[e] at h;exact absurd h aD
 by_cases h2:sU b g l=true
 ·have e:iA b g l=kZ l.length (iX++leB 4 b++leB 4 g) l:=by unfold iA;rw[if_neg h1,if_pos h2]
  rw[e] at h ⊢;obtain⟨h3,h4⟩:=FV _ _ _ h;refine⟨by omega,h2,h3,?_⟩;rw[h3,Jg]
  by_cases hl:l=[]
  ·subst hl;rw[List.flatMap_nil,List.append_nil];simp only[List.length_append,aT]
   decide
  exact h4 hl
 have e:iA b g l=([],180):=by unfold iA;rw[if_neg h1,if_neg h2]
 rw[e] at h;exact absurd h aD
theorem Uy {l l1 l2 l3 l4:List Int} {b g k:Int} (h1:mK 8 l=some (iX,l1)) (h2:gW 4 l1=some (b,l2)) (h3:gW 4 l2=some (g,l3)) (h4:gW 1 l3=some (k,l4)):qU l=FE b g (qy (l.length+1) k [] l4):=by
 unfold qU;rw[h1];dsimp only;rw[if_pos rfl,h2];dsimp only;rw[h3];dsimp only;rw[h4]
theorem WC {b g:Int} {cs:List qF} {t x:List Int} (h:mK 8 t=some (x,[])):FE b g (some (cs,t))=some (b,g,cs):=by
 unfold FE;dsimp only;rw[h];dsimp only;rw[if_pos rfl]
theorem WE (cs:List qF):cs.length≤(cs.flatMap rE).length:=by
 induction cs with
 | nil=>simp
 | cons c cs ih=>
  rw[List.flatMap_cons,List.length_append,List.length_cons]
  have:1≤(rE c).length:=by unfold rE;rw[List.length_append,aT];omega
  omega
theorem Qm {b g:Int} {l:List qF} (h:(iA b g l).2=0):qU (iA b g l).1=some (b,g,l):=by
 obtain⟨h1,h2,h3,_⟩:=xP h;unfold sU at h2;simp only[Bool.and_eq_true,decide_eq_true_eq] at h2;obtain⟨b0,b1,g0,g1,hr⟩:=h2
 have p4:(256:Int) ^ 4=4294967296:=by decide
 obtain⟨t,ht⟩:∃t,leB 4 (l.length:Int)++leB 4 (oq (iX++leB 4 b++leB 4 g++l.flatMap rE++leB 1 0++leB 4 (l.length:Int)))=t:=⟨_,rfl⟩
 have ht8:t.length=8:=by rw[← ht,List.length_append,aT,aT]
 have e:(iA b g l).1=iX++(leB 4 b++(leB 4 g++(l.flatMap rE++(leB 1 0++t)))):=by
  rw[h3,← ht];unfold jM;simp only[List.append_assoc]
 rw[e]
 obtain⟨k,r,h4,h5⟩:=DW l [] ((iX++(leB 4 b++(leB 4 g++(l.flatMap rE++(leB 1 0++t))))).length+1) _ t (by
  have:=WE l;simp only[List.length_append]
  omega) hr
 rw[Uy (yN iX _ aD) (o8 (m:=4) (x:=b) _ aD b0 aj) (o8 (m:=4) (x:=g) _ aD g0 aj) h4,h5,List.nil_append];exact WC (x:=t) (by have:=yN t [] ht8;rwa [List.append_nil] at this)
theorem J5 {b g:Int} {l:List qF} (h:(iA b g l).2=0):vk (iA b g l).1=(some (b,g,l),0):=by
 obtain⟨_,_,_,h4⟩:=xP h;have hp:=Qm h;unfold vk;rw[if_neg aj,hp];dsimp only;rw[if_neg (by rw[h];decide),if_pos rfl]
theorem xQ:∀a:List UInt8,Op.bytesLess a a=false
 | []=>rfl
 | a::l=>by
  have:¬a<a:=by simp[UInt8.lt_iff_toNat_lt]
  simp[Op.bytesLess,this,xQ l]
theorem FW:∀{a b c:List UInt8},Op.bytesLess a b=true→Op.bytesLess b c=true→Op.bytesLess a c=true
 | a,b,[],_,h=>by cases b <;> cases h
 | [],b,c::z,_,_=>rfl
 | a::x,[],c::z,h,_=>by cases h
 | a::x,b::y,c::z,h1,h2=>by
  simp only[Op.bytesLess,Bool.or_eq_true,Bool.and_eq_true,decide_eq_true_eq,beq_iff_eq] at h1 h2 ⊢
  rcases h1 with h1|⟨rfl,h1⟩
  ·rcases h2 with h2|⟨rfl,h2⟩
   ·exact .inl (by rw[UInt8.lt_iff_toNat_lt] at *;omega)
   exact .inl h1
  rcases h2 with h2|⟨rfl,h2⟩
  ·exact .inl h2
  exact .inr ⟨rfl,FW h1 h2⟩
theorem NW:∀{a b:List UInt8},Op.bytesLess a b=false→Op.bytesLess b a=false→a=b
 | [],[],_,_=>rfl
 | [],b::y,h,_=>by cases h
 | a::x,[],_,h=>by cases h
 | a::x,b::y,h1,h2=>by
  simp only[Op.bytesLess,Bool.or_eq_false_iff,Bool.and_eq_false_iff,decide_eq_false_iff_not,beq_eq_false_iff_ne] at h1 h2
  have e:a=b:=by
   have h3:=h1.1;have h4:=h2.1;rw[UInt8.lt_iff_toNat_lt] at h3 h4;exact UInt8.toNat_inj.1 aj
  subst e;rw[NW (h1.2.resolve_left (fun h=>h rfl)) (h2.2.resolve_left (fun h=>h rfl))]
theorem Za {a b:List UInt8} (h:Op.bytesLess a b=true):a≠b:=fun e=>by
 subst e;rw[xQ] at h;cases h
def joinL:List (List UInt8)→List UInt8
 | []=>[]
 | a::l=>47::(a++joinL l)
def tq:List (List UInt8)→List UInt8
 | []=>[]
 | a::l=>0::(a++tq l)
def FZ:List (List UInt8)→List (List UInt8)→Bool
 | [],[]=>false
 | [],_::_=>true
 | _::_,[]=>false
 | a::l,b::m=>if a=b then FZ l m else Op.bytesLess a b
theorem NY:∀l m:List ByteArray,mh l m=FZ (l.map bs) (m.map bs)
 | [],[]=>rfl
 | [],_::_=>rfl
 | _::_,[]=>rfl
 | a::l,b::m=>by
  rw[mh,List.map_cons,List.map_cons,FZ,NY l m]
theorem NZ:∀{a b:List UInt8} {X Y:List UInt8},(∀c∈a,c≠0)→(∀c∈b,c≠0)→(X=[]∨∃X',X=0::X')→(Y=[]∨∃Y',Y=0::Y') →
  Op.bytesLess (a++X) (b++Y)=if a=b then Op.bytesLess X Y else Op.bytesLess a b
 | [],[],X,Y,_,_,_,_=>by simp
 | [],b::y,X,Y,_,hb,hX,_=>by
  have hb0:=hb b List.mem_cons_self
  rcases hX with rfl|⟨X',rfl⟩
  ·simp[Op.bytesLess]
  have:(0:UInt8)<b:=by
   rw[UInt8.lt_iff_toNat_lt]
   have:b.toNat≠0:=fun e=>hb0 (UInt8.toNat_inj.1 e)
   simp;omega
  simp[Op.bytesLess,this]
 | a::x,[],X,Y,ha,_,_,hY=>by
  have ha0:=ha a List.mem_cons_self
  rcases hY with rfl|⟨Y',rfl⟩
  ·simp[Op.bytesLess]
  have:¬a<(0:UInt8):=by
   rw[UInt8.lt_iff_toNat_lt];simp
  simp[Op.bytesLess,this,ha0]
 | a::x,b::y,X,Y,ha,hb,hX,hY=>by
  have ih:=NZ (a:=x) (b:=y) (fun c h=>ha c (List.mem_cons_of_mem _ h)) (fun c h=>hb c (List.mem_cons_of_mem _ h)) hX hY;rw[List.cons_append,List.cons_append,Op.bytesLess,ih];by_cases e:a=b
  ·subst e;by_cases e2:x=y
   ·subst e2
    have:¬a<a:=by simp[UInt8.lt_iff_toNat_lt]
    simp[this]
   rw[if_neg e2,if_neg (fun h=>e2 (List.cons.inj h).2),Op.bytesLess]
  rw[if_neg (fun h=>e (List.cons.inj h).1),Op.bytesLess];have:(a == b)=false:=beq_eq_false_iff_ne.2 e;rw[this,Bool.false_and,Bool.false_and]
theorem J6:∀{l m:List (List UInt8)},(∀a∈l,∀c∈a,c≠0)→(∀a∈m,∀c∈a,c≠0)→Op.bytesLess (tq l) (tq m)=FZ l m
 | [],[],_,_=>rfl
 | [],b::m,_,_=>rfl
 | a::l,[],_,_=>rfl
 | a::l,b::m,h1,h2=>by
  have ht:∀l:List (List UInt8),tq l=[]∨∃X',tq l=0::X':=fun l=>by
   cases l with
   | nil=>exact .inl rfl
   | cons a l=>exact .inr ⟨_,rfl⟩
  have h0:¬(0:UInt8)<0:=by decide
  rw[tq,tq,Op.bytesLess,NZ (h1 a List.mem_cons_self) (h2 b List.mem_cons_self) (ht l) (ht m),FZ,J6 (fun x hx=>h1 x (List.mem_cons_of_mem _ hx)) (fun x hx=>h2 x (List.mem_cons_of_mem _ hx))];simp
theorem zD:∀{l:List UInt8} {c:UInt8},Lib.indexByte l c≠-1→0≤Lib.indexByte l c∧l=l.take (Lib.indexByte l c).toNat++c::l.drop ((Lib.indexByte l c).toNat+1)
 | [],c,h=>absurd rfl h
 | b::l,c,h=>by
  unfold Lib.indexByte at h ⊢;by_cases e:(b == c)=true
  ·rw[if_pos e];have:=beq_iff_eq.1 e;subst this;simp
  rw[if_neg e] at h ⊢;by_cases e2:(Lib.indexByte l c == -1)=true
  ·rw[if_pos e2] at h;exact absurd rfl h
  rw[if_neg e2];obtain⟨h1,h2⟩:=zD (fun he=>e2 (beq_iff_eq.2 he));refine⟨by omega,?_⟩;rw[show (Lib.indexByte l c+1).toNat=(Lib.indexByte l c).toNat+1 by omega,List.take_succ_cons,List.drop_succ_cons,List.cons_append,← h2]
theorem DX:∀(k:Nat) (s:List UInt8),joinL (Lib.splitK [47] 0 k s)=47::s
 | 0,s=>by simp[Lib.splitK,joinL]
 | k+1,s=>by
  rw[Lib.splitK];by_cases h:(Lib.index s [47] == -1)=true
  ·rw[if_pos h];simp[joinL]
  rw[if_neg h,joinL,DX k,Lib.index_one];rw[Lib.index_one] at h;obtain⟨h1,h2⟩:=zD (fun he=>h (beq_iff_eq.2 he));rw[Nat.add_zero]
  congr 1
  exact h2.symm
theorem ow {p:ByteArray} (h:ig p=true):bs p=joinL ((dQ p).map bs):=by
 have h1:(dQ p).map bs=Lib.splitK [47] 0 (Lib.countB (p.extract 1 p.size) ⟨#[47]⟩) (p.extract 1 p.size).data.toList:=Lib.splitB_data ⟨#[47]⟩ 0 _ _;rw[h1,DX];have hd:=of_decide_eq_true h;have e:(p.extract 1 p.size).data.toList=(bs p).drop 1:=Lib.extract_to_end p 1;rw[e]
 cases hb:bs p with
 | nil=>rw[hb] at hd;cases hd
 | cons a l=>
  rw[hb] at hd
  injection hd with hd
  subst hd;rfl
theorem xR:∀{l cs:List UInt8},Lib.indexAny l cs = -1→∀c∈l,cs.contains c=false
 | [],cs,_,c,hc=>by cases hc
 | b::l,cs,h,c,hc=>by
  rw[Lib.indexAny] at h
  cases hb:cs.contains b with
  | true=>rw[hb] at h;simp at h
  | false=>
   rw[hb] at h
   have h2:Lib.indexAny l cs = -1:=by
    by_cases e:(Lib.indexAny l cs == -1)=true
    ·exact beq_iff_eq.1 e
    have hge:=Lib.indexAny_ge cs l;simp only[Bool.false_eq_true,if_false] at h;rw[if_neg e] at h;omega
   rcases List.mem_cons.1 hc with rfl|hc
   ·exact hb
   exact xR h2 c hc
theorem Ag {p:ByteArray} (h:gH p=true):∀c∈bs p,c≠47∧c≠0:=by
 have h:=of_decide_eq_true h;unfold iD.f at h;split at h
 ·cases h
 split at h
 ·cases h
 split at h
 ·cases h
 split at h
 ·cases h
 split at h
 ·cases h
 rename_i hn;have hn:Lib.containsAny (bs p) [47,0]=false:=(Bool.not_eq_true _).mp hn;unfold Lib.containsAny at hn;have hn:=of_decide_eq_false hn;have hge:=Lib.indexAny_ge [47,0] (bs p);intro c hc;have:=xR (show Lib.indexAny (bs p) [47,0] = -1 by omega) c hc;simp at this;exact⟨fun e=>this.1 e,fun e=>this.2 e⟩
def Vp (p:ByteArray):Prop:=(jV p).2=true
theorem Vp.parts {p:ByteArray} (h:Vp p):(jV p).1=dQ p∧ig p=true∧(dQ p).all gH=true:=by
 have h1:jV p=((jV p).1,true):=by rw[← (show (jV p).2=true from h)]
 obtain⟨_,h2,h3,h4⟩:=xS h1;exact⟨h3,h2,h4⟩
theorem J7:∀{l:List (List UInt8)},(∀a∈l,∀c∈a,c≠47)→iW 47 0 (joinL l)=tq l
 | [],_=>rfl
 | a::l,h=>by
  have ih:=J7 (l:=l) (fun x hx=>h x (List.mem_cons_of_mem _ hx));have ha:iW 47 0 a=a:=tu (List.count_eq_zero_of_not_mem (fun hm=>h a List.mem_cons_self 47 hm rfl));rw[joinL,tq,show (47:UInt8)::(a++joinL l)=[47]++(a++joinL l) from rfl,ni,ni,ha,ih];rfl
theorem J8:∀{l:List (List UInt8)},(∀a∈l,∀c∈a,c≠0)→iW 0 47 (tq l)=joinL l
 | [],_=>rfl
 | a::l,h=>by
  have ih:=J8 (l:=l) (fun x hx=>h x (List.mem_cons_of_mem _ hx));have ha:iW 0 47 a=a:=tu (List.count_eq_zero_of_not_mem (fun hm=>h a List.mem_cons_self 0 hm rfl));rw[joinL,tq,show (0:UInt8)::(a++tq l)=[0]++(a++tq l) from rfl,ni,ni,ha,ih];rfl
theorem uo {p:ByteArray} (h:Vp p):∀a∈(dQ p).map bs,∀c∈a,c≠47∧c≠0:=by
 intro a ha c hc;obtain⟨q,hq,rfl⟩:=List.mem_map.1 ha;exact Ag (List.all_eq_true.1 h.parts.2.2 q hq) c hc
theorem Bq {p:ByteArray} (h:Vp p):bs (fV 47 0 p)=tq ((dQ p).map bs):=by
 show iW 47 0 (bs p)=_
 rw[ow h.parts.2.1,J7 (fun a ha c hc=>(uo h a ha c hc).1)]
theorem N7 {p:ByteArray} (h:Vp p):fV 0 47 (fV 47 0 p)=p:=by
 apply mg
 show iW 0 47 (bs (fV 47 0 p))=_
 rw[Bq h,J8 (fun a ha c hc=>(uo h a ha c hc).2),← ow h.parts.2.1]
theorem key_inj {p q:ByteArray} (hp:Vp p) (hq:Vp q) (h:fV 47 0 p=fV 47 0 q):p=q:=by
 rw[← N7 hp,h,N7 hq]
theorem Dh {p q:ByteArray} (hp:Vp p) (hq:Vp q):mh (jV p).1 (jV q).1=Op.bytesLess (bs (fV 47 0 p)) (bs (fV 47 0 q)):=by
 rw[hp.parts.1,hq.parts.1,NY,Bq hp,Bq hq,J6 (fun a ha c hc=>(uo hp a ha c hc).2) (fun a ha c hc=>(uo hq a ha c hc).2)]
abbrev kl (x:It):List UInt8:=bs (kV x)
def Less (a b:List UInt8):Prop:=Op.bytesLess a b=true
theorem Less.trans {a b c:List UInt8} (h:Less a b) (k:Less b c):Less a c:=FW h k
theorem Less.ne {a b:List UInt8} (h:Less a b):a≠b:=Za h
theorem Less.tri {a b:List UInt8} (h:¬Less a b) (hn:a≠b):Less b a:=by
 cases hb:Op.bytesLess b a with
 | true=>exact hb
 | false=>exact absurd (NW ((Bool.not_eq_true _).mp h) hb) hn
structure kI (l:List It):Prop where
 path:∀x∈l,Vp x.f1
 keys:l.Pairwise (fun x y=>Less (kl x) (kl y))
theorem kI.nil:kI []:=⟨fun _ h=>absurd h List.not_mem_nil,List.Pairwise.nil⟩
theorem kI.drop {l:List It} (h:kI l) (n:Nat):kI (l.drop n):=⟨fun x hx=>h.path x (List.mem_of_mem_drop hx),h.keys.sublist (List.drop_sublist n l)⟩
theorem kI.tail {x:It} {l:List It} (h:kI (x::l)):kI l:=⟨fun y hy=>h.path y (List.mem_cons_of_mem _ hy),(List.pairwise_cons.1 h.keys).2⟩
theorem kI.head {x:It} {l:List It} (h:kI (x::l)):∀y∈l,Less (kl x) (kl y):=(List.pairwise_cons.1 h.keys).1
theorem Ah:∀{l:List It} {K:List (ByteArray × Int)} {b:Option (List ByteArray)},gY K b l=true→kI l∧∀q,Vp q→b=some (jV q).1→∀x∈l,Less (bs (fV 47 0 q)) (kl x)
 | [],_,_,_=>⟨kI.nil,fun _ _ _ _ h=>absurd h List.not_mem_nil⟩
 | y::l,K,b,h=>by
  rw[gY] at h;simp only[Bool.and_eq_true,decide_eq_true_eq] at h;obtain⟨⟨⟨⟨h1,h2⟩,h3⟩,h4⟩,h5⟩:=h;obtain⟨hr,hq⟩:=Ah h5;have hv:Vp y.f1:=h1;have hy:=hq y.f1 hv rfl;refine⟨⟨fun x hx=>?_,List.pairwise_cons.2 ⟨hy,hr.keys⟩⟩,fun q hvq hb x hx=>?_⟩
  ·rcases List.mem_cons.1 hx with rfl|hx
   ·exact hv
   exact hr.path x hx
  have hqy:Less (bs (fV 47 0 q)) (kl y):=by
   rw[hb] at h2;rw[Option.all_some,Dh hvq hv] at h2;exact h2
  rcases List.mem_cons.1 hx with rfl|hx
  ·exact hqy
  exact hqy.trans (hy x hx)
theorem qJ {l:List It} (h:jN l=true):kI l:=(Ah h).1
theorem kI.inj {l:List It} (h:kI l):∀x∈l,∀y∈l,kl x=kl y→x=y:=by
 induction l with
 | nil=>intro x hx;cases hx
 | cons a l ih=>
  intro x hx y hy e
  rcases List.mem_cons.1 hx with hxa|hx1
  ·rcases List.mem_cons.1 hy with hya|hy1
   ·rw[hxa,hya]
   subst hxa;exact absurd e (h.head y hy1).ne
  rcases List.mem_cons.1 hy with hya|hy1
  ·subst hya;exact absurd e.symm (h.head x hx1).ne
  exact ih h.tail x hx1 y hy1 e
def st (l:List It) (k:List UInt8):Option It:=l.find? (fun x=>decide (kl x=k))
theorem rM {l:List It} {k:List UInt8} {x:It} (h:st l k=some x):x∈l∧kl x=k:=⟨List.mem_of_find?_eq_some h,by have:=List.find?_some h;simpa using this⟩
theorem Sn {l:List It} {k:List UInt8} (h:∀x∈l,kl x≠k):st l k=none:=List.find?_eq_none.2 (fun x hx=>by simpa using h x hx)
theorem N8 {l:List It} {k:List UInt8} (h:st l k=none):∀x∈l,kl x≠k:=fun x hx e=>by
 have:=List.find?_eq_none.1 h x hx;simp at this;exact this e
theorem adn {l:List It} (hl:kI l) {x:It} (hx:x∈l):st l (kl x)=some x:=by
 cases h:st l (kl x) with
 | none=>exact absurd rfl (N8 h x hx)
 | some y=>
  obtain⟨h1,h2⟩:=rM h;rw[hl.inj y h1 x hx h2]
theorem F3 {x:It} {l:List It} {k:List UInt8} (h:kl x≠k):st (x::l) k=st l k:=by
 unfold st;rw[List.find?_cons_of_neg]
 simpa using h
theorem F4 {x:It} {l:List It} {k:List UInt8} (h:kl x=k):st (x::l) k=some x:=by
 unfold st;rw[List.find?_cons_of_pos]
 simpa using h
section
variable {L : Nat → List It} {p : Nat → Nat}
theorem F7:∀{i:Nat},ko L p i=none→∀j,j<i→(L j)[p j]?=none
 | 0,_,j,h=>by omega
 | i+1,h,j,hj=>by
  rw[ko] at h
  cases hx:(L i)[p i]? with
  | none=>
   rw[hx] at h
   rcases Nat.lt_or_ge j i with h1|h1
   ·exact F7 h j h1
   obtain rfl:j=i:=by omega
   exact hx
  | some x=>
   rw[hx] at h;dsimp only at h
   cases hk:ko L p i with
   | none=>rw[hk] at h;cases h
   | some k=>
    rw[hk] at h;dsimp only at h
    split at h <;> cases h
theorem yO:∀{i:Nat} {k:ByteArray},ko L p i=some k→∀j,j<i→∀x,(L j)[p j]?=some x→¬Less (kl x) (bs k)
 | 0,k,h,j,hj,_,_=>by omega
 | i+1,k,h,j,hj,x,hx=>by
  have hnn:∀a:List UInt8,¬Less a a:=fun a h=>by
   have h:Op.bytesLess a a=true:=h;rw[xQ] at h;cases h
  rw[ko] at h
  cases hy:(L i)[p i]? with
  | none=>
   rw[hy] at h
   rcases Nat.lt_or_ge j i with h1|h1
   ·exact yO h j h1 x hx
   obtain rfl:j=i:=by omega
   rw[hx] at hy;cases hy
  | some y=>
   rw[hy] at h;dsimp only at h
   cases hk:ko L p i with
   | none=>
    rw[hk] at h;have:=Option.some.inj h;subst this
    rcases Nat.lt_or_ge j i with h1|h1
    ·rw[F7 hk j h1] at hx;cases hx
    obtain rfl:j=i:=by omega
    rw[hx] at hy;obtain rfl:=Option.some.inj hy;exact hnn _
   | some k0=>
    rw[hk] at h;dsimp only at h;split at h
    ·rename_i hlt;rw[Lib.toList_data,Lib.toList_data] at hlt;have hlt:Less (kl y) (bs k0):=hlt;have:=Option.some.inj h;subst this
     rcases Nat.lt_or_ge j i with h1|h1
     ·exact fun hl=>yO hk j h1 x hx (Less.trans hl hlt)
     obtain rfl:j=i:=by omega
     rw[hx] at hy;obtain rfl:=Option.some.inj hy;exact hnn _
    rename_i hlt;rw[Lib.toList_data,Lib.toList_data] at hlt;have:=Option.some.inj h;subst this
    rcases Nat.lt_or_ge j i with h1|h1
    ·exact yO hk j h1 x hx
    obtain rfl:j=i:=by omega
    rw[hx] at hy;obtain rfl:=Option.some.inj hy;exact hlt
def dr (L:Nat→List It) (p:Nat→Nat) (j:Nat):List It:=(L j).drop (p j)
theorem Sr {j:Nat} (h:(L j)[p j]?=none):dr L p j=[]:=by
 unfold dr;rw[List.getElem?_eq_none_iff] at h;exact List.drop_of_length_le h
theorem Lc {j:Nat} {x:It} (h:(L j)[p j]?=some x):dr L p j=x::(L j).drop (p j+1):=by
 obtain⟨hl,he⟩:=List.getElem?_eq_some_iff.1 h;unfold dr;rw[List.drop_eq_getElem_cons hl,he]
theorem Zb {k:ByteArray} {j:Nat} (hr:kI (L j)) (hk:∀x,(L j)[p j]?=some x→¬Less (kl x) (bs k)) :
  fG L p k j=st (dr L p j) (bs k)∧(∀x∈dr L (fO L p k) j,Less (bs k) (kl x))∧(∀k',Less (bs k) k'→st (dr L (fO L p k) j) k'=st (dr L p j) k') ∧
   (∀x∈dr L p j,kl x=bs k∨x∈dr L (fO L p k) j)∧(∀x∈dr L (fO L p k) j,x∈dr L p j):=by
 cases hx:(L j)[p j]? with
 | none=>
  have hh:fG L p k j=none:=by unfold fG;rw[hx]
  have hn:fO L p k j=p j:=by unfold fO;rw[hh];rfl
  have hd:dr L (fO L p k) j=dr L p j:=by unfold dr;rw[hn]
  rw[hd,Sr hx,hh];exact⟨rfl,fun _ h=>absurd h List.not_mem_nil,fun _ _=>rfl,fun _ h=>absurd h List.not_mem_nil,fun _ h=>h⟩
 | some x=>
  have hkx:=hk x hx;have hdx:=Lc hx;have hrd:kI (dr L p j):=hr.drop (p j);rw[hdx] at hrd;by_cases he:kl x=bs k
  ·have hh:fG L p k j=some x:=by
    unfold fG;rw[hx];dsimp only;rw[Lib.toList_data,Lib.toList_data];exact if_pos (beq_iff_eq.2 he)
   have hn:fO L p k j=p j+1:=by unfold fO;rw[hh];rfl
   have hd:dr L (fO L p k) j=(L j).drop (p j+1):=by unfold dr;rw[hn]
   rw[hd,hdx,hh];refine⟨(F4 he).symm,fun y hy=>by rw[← he];exact hrd.head y hy,fun k' hk'=>(F3 (by rw[he];exact hk'.ne)).symm,fun y hy=>?_,fun y hy=>List.mem_cons_of_mem _ hy⟩
   rcases List.mem_cons.1 hy with rfl|hy
   ·exact .inl he
   exact .inr hy
  have hh:fG L p k j=none:=by
   unfold fG;rw[hx];dsimp only;rw[Lib.toList_data,Lib.toList_data];exact if_neg (fun h=>he (beq_iff_eq.1 h))
  have hn:fO L p k j=p j:=by unfold fO;rw[hh];rfl
  have hd:dr L (fO L p k) j=dr L p j:=by unfold dr;rw[hn]
  have hlt:=Less.tri hkx he
  have hall:∀y∈x::(L j).drop (p j+1),Less (bs k) (kl y):=fun y hy=>by
   rcases List.mem_cons.1 hy with rfl|hy
   ·exact hlt
   exact hlt.trans (hrd.head y hy)
  rw[hd,hdx,hh];exact⟨(Sn (fun y hy e=>(hall y hy).ne e.symm)).symm,hall,fun _ _=>rfl,fun y hy=>.inr hy,fun _ h=>h⟩
end
end Go.Proofs.YtknihldkhedpkaaGreatDoor
end
