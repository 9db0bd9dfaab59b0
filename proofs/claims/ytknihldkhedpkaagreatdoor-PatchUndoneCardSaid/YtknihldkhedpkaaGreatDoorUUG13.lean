import Derived.Test.YtknihldkhedpkaaGreatDoorUUG12
import Derived.Test.YtknihldkhedpkaaGreatDoorUUG8
import Derived.Laws.Rows
import Derived.Defers
import Derived.Recover
import Derived.Test.YtknihldkhedpkaaGreatDoorUUG7
import Derived.Test.YtknihldkhedpkaaGreatDoorUUG4
import Derived.LoopNIn
import Derived.LoopIn
import Derived.Deep.LoopGhost
import Derived.Shelf.Abstract
import Derived.Shelf.RegionOpen
import Derived.Lib.SplitLaws
import Derived.BigQuiet
import Derived.OrdersIn
import Derived.Test.YtknihldkhedpkaaGreatDoorUUW
import Derived.Test.YtknihldkhedpkaaGreatDoorUUG10
import Derived.Laws.ResultCell
set_option linter.all false
set_option maxHeartbeats 16000000
set_option maxRecDepth 100000
section
namespace Go.Proofs.YtknihldkhedpkaaGreatDoor
open Go.RowKit Go.Lib
open Go.Proofs.YtknihldkhedpkaaGreatDoorW.PrintWords Go.Proofs.YtknihldkhedpkaaGreatDoorW.PrintLast Go.Proofs.YtknihldkhedpkaaGreatDoor.PT
def jD (k:Int) (l:List Int):Option (qF × List Int) :=
 if k=1 then match iZ l with
  | none=>none
  | some (p,l1)=>some (⟨k,⟨0,p,⟨#[]⟩,0,[],[]⟩,[]⟩,l1)
 else if k=2 then match oU l with
  | none=>none
  | some (x,l1)=>some (⟨k,x,[]⟩,l1)
 else if k=3 then match iZ l with
  | none=>none
  | some (p,l1)=>match gW 8 l1 with
   | none=>none
   | some (sz,l2)=>match mo l2 with
    | none=>none
    | some (rs,_,l3)=>match mo l3 with
     | none=>none
     | some (st,all,l4)=>match ql all l4 with
      | none=>none
      | some (d,l5)=>some (⟨k,⟨1,p,⟨#[]⟩,sz,rs,d⟩,st⟩,l5)
 else none
def YV (B g:Nat) (w:World) (o:Option (qF × List Int)) (e:Ending) (w':World):Prop:=match o with
 | none=>e=dW∧Ft g w w'
 | some (c,r)=>∃v5 v6 v7,e=.returned (.agg #[.int .i64 c.f0,.int .i64 c.f1.f0,.string c.f1.f1,.string c.f1.f2,.int .i64 c.f1.f3,v5,v6,v7])∧Kd.R dB 117 w' w.heap.size (fun _=>True) v5 c.f1.f4∧Kd.R (Kd.int .u8) 5 w' w.heap.size (fun _=>True) v6 c.f1.f5∧Kd.R dB 117 w' w.heap.size (fun _=>True) v7 c.f2∧Tk B w' g r∧Ft g w w'
theorem DR (B:Nat) (w:World) (g:Nat) (left:List Int) (k:Int) (H:Tk B w g left) (hl:By left) :
  Calls Tryz.prog 99 #[.pointer (some ⟨g,0,none⟩),.int .i64 k] w fun e w'=>YV B g w (jD k left) e w':=by
 obtain⟨o,ho⟩:∃o,jD k left=o:=⟨_,rfl⟩
 rw[ho];unfold jD at ho;have hgs:=H.lt;have hBs:B≤w.heap.size:=Nat.le_of_lt (Nat.lt_of_le_of_lt H.1 hgs)
 have hg2:w.heap.size≠g:=by omega
 go_enter Tryz.func99,Tryz.ntmps99
 go_upto_region 2 with (fail)
 have hb0:=(Below.refl w.heap.size w).alloc (Nat.le_refl _) (.cells #[.int .i64 0,.int .i64 0,.string ⟨#[]⟩,.string ⟨#[]⟩,.int .i64 0,.slice none 0 0,.slice none 0 0,.slice none 0 0] 31);have hbk:=bJ w (.cells #[.int .i64 0,.int .i64 0,.string ⟨#[]⟩,.string ⟨#[]⟩,.int .i64 0,.slice none 0 0,.slice none 0 0,.slice none 0 0] 31)
 obtain⟨w0,hw0⟩:∃w0,w.alloc (.cells #[.int .i64 0,.int .i64 0,.string ⟨#[]⟩,.string ⟨#[]⟩,.int .i64 0,.slice none 0 0,.slice none 0 0,.slice none 0 0] 31)=w0:=⟨_,rfl⟩
 rw[hw0] at hb0 hbk ⊢;have hba:=(Below.refl w0.heap.size w0).alloc (Nat.le_refl _) (.cells #[.int .i64 k,.int .i64 0,.string ⟨#[]⟩,.string ⟨#[]⟩,.int .i64 0,.slice none 0 0,.slice none 0 0,.slice none 0 0] 31);have hbx:=bJ w0 (.cells #[.int .i64 k,.int .i64 0,.string ⟨#[]⟩,.string ⟨#[]⟩,.int .i64 0,.slice none 0 0,.slice none 0 0,.slice none 0 0] 31)
 obtain⟨w1,hw1⟩:∃w1,w0.alloc (.cells #[.int .i64 k,.int .i64 0,.string ⟨#[]⟩,.string ⟨#[]⟩,.int .i64 0,.slice none 0 0,.slice none 0 0,.slice none 0 0] 31)=w1:=⟨_,rfl⟩
 have hz0:w0.heap.size=w.heap.size+1:=by rw[← hw0];simp
 rw[hw1] at hba hbx ⊢;rw[hz0] at hbx
 obtain⟨b3,hb3⟩:∃b3,b3=w.heap.size+1:=⟨_,rfl⟩
 rw[← hb3] at hbx ⊢
 have hw3:w.heap.size≤b3:=by omega
 have hg3:b3≠g:=by omega
 have hB3:B≤b3:=by omega
 have tV:w.heap.size≠b3:=by omega
 have jY:=ah.mk hbx;have HB1:=ah.mk (aG hbk hba);have HT1:=ah.mk ((H.below hb0).below hba);have I6:=ah.mk ((show Ft g w w0 from kg.below hb0).trans (kg.below hba));clear hb0 hbk hba hbx H hw0 hw1 hz0 hb3;by_cases k1:k=1
 ·have t1:(k == 1)=true:=beq_iff_eq.2 k1;rw[if_pos k1] at ho
  go_wp2_with fail
  cases h2:iZ left with
  | none=>
   have cc:=lX B w1 g left HT1.out hl;rw[h2] at cc;rw[h2] at ho;have HE:=ah.mk (show o=none from ho.symm);refine (cc).mono ?_;intro e w9 hh;obtain⟨he,nJ⟩:=hh;unfold dW at he;subst he
   go_wp2_with fail
   exact⟨rfl,by rw[HE.out];exact⟨rfl,I6.out.trans nJ⟩⟩
  | some q=>
   obtain⟨p,l1⟩:=q;rw[h2] at ho;dsimp only at ho;have cc:=lX B w1 g left HT1.out hl;rw[h2] at cc;refine cc.mono ?_;rintro e w2 ⟨rfl,ht2,hf2⟩;have zX:=ah.mk (I6.out.trans hf2);have HT2:=ah.mk ht2;have HB2:=ah.mk (hf2.box HB1.out hg2);have jG:=ah.mk (hf2.box jY.out hg3);clear cc;have z2:=bE jG.out;have acZ:=ay jG.out 2;have ac0:w2.cell? ⟨b3,2,none⟩=some _:=ak jG.out 2;have P5:=dM jG.out 2 (.string p);have qQ:=ah.mk (show ((w2).setCell ⟨b3,2,none⟩ (.string p)).heap[b3]?=some (.cells #[.int .i64 k,.int .i64 0,.string p,.string ⟨#[]⟩,.int .i64 0,.slice none 0 0,.slice none 0 0,.slice none 0 0] 31 (0,0)) by simpa using P5);have HB3:=ah.mk (show ((w2).setCell ⟨b3,2,none⟩ (.string p)).heap[w.heap.size]?=some (.cells #[.int .i64 0,.int .i64 0,.string ⟨#[]⟩,.string ⟨#[]⟩,.int .i64 0,.slice none 0 0,.slice none 0 0,.slice none 0 0] 31 (0,0)) from ((Below.heap_setCell (w2) ⟨b3,2,none⟩ (.string p) _ tV).trans HB2.out));have HT3:=ah.mk (HT2.out.set (.string p) (j:=2) hB3 hg3);have yJ:=ah.mk (Ft.set zX.out hw3 2 (.string p))
   obtain⟨w3,hw3⟩:∃w3,(w2).setCell ⟨b3,2,none⟩ (.string p)=w3:=⟨_,rfl⟩
   rw[hw3] at qQ HB3 HT3 yJ;clear P5
   go_upto_region 14 with (fail)
   try rw[hw3]
   clear hw3 z2 acZ ac0;have HE:=ah.mk (show o=some _ from ho.symm)
   go_wp2_with (first
    | (refine dX (.load 31 (.tmp 5)) rfl ?_;refine wpList_load_row rfl _ _ rfl b3 rfl 31 #[.int .i64 k,.int .i64 0,.string p,.string ⟨#[]⟩,.int .i64 0,.slice none 0 0,.slice none 0 0,.slice none 0 0] (0,0) _ qQ.out Tryz.underlying31 rfl aA ?_)
    | (refine dX (.store 31 (.tmp 4) (.tmp 49)) rfl ?_;refine wpList_store_row rfl 31 (.tmp 4) (.tmp 49) rfl w.heap.size #[.int .i64 k,.int .i64 0,.string p,.string ⟨#[]⟩,.int .i64 0,.slice none 0 0,.slice none 0 0,.slice none 0 0] rfl rfl 31 _ HB3.out aA (by rfl) ?one ?_;(case one=>simp[Value.oneCell'])))
   rw[HE.out];refine bodyPost_ret (results_cell_row rfl _ _ w.heap.size 31 #[.int .i64 k,.int .i64 0,.string p,.string ⟨#[]⟩,.int .i64 0,.slice none 0 0,.slice none 0 0,.slice none 0 0] (0,0) _ rfl (setRow_heap _ _ _ _ _ _ HB3.out) Tryz.underlying31 rfl aA) rfl ⟨.slice none 0 0,.slice none 0 0,.slice none 0 0,rfl,?_,?_,?_,HT3.out.row _ aj hg2,Ft.row yJ.out (Nat.le_refl _) _⟩
   ·exact Kd.eY _ _ _ _ _
   ·exact Kd.eY _ _ _ _ _
   exact Kd.eY _ _ _ _ _
 have t1:(k == 1)=false:=beq_eq_false_iff_ne.2 k1;rw[if_neg k1] at ho;clear k1;by_cases k2:k=2
 ·have t2:(k == 2)=true:=beq_iff_eq.2 k2;rw[if_pos k2] at ho
  go_wp2_with fail
  cases h2:oU left with
  | none=>
   have cc:=JL B w1 g left HT1.out hl;rw[h2] at cc;rw[h2] at ho;have HE:=ah.mk (show o=none from ho.symm);refine (cc).mono ?_;intro e w9 hh;obtain⟨he,nJ⟩:=hh;unfold dW at he;subst he
   go_wp2_with fail
   exact⟨rfl,by rw[HE.out];exact⟨rfl,I6.out.trans nJ⟩⟩
  | some q=>
   obtain⟨x,l1⟩:=q;rw[h2] at ho;dsimp only at ho;have cc:=JL B w1 g left HT1.out hl;rw[h2] at cc;refine cc.mono ?_;rintro e w2 ⟨v4,v5,rfl,hr4,oF,ht2,hf2⟩;obtain⟨A4,c4,hv4⟩:=Kd.bG hr4;subst hv4;obtain⟨A5,c5,hv5⟩:=Kd.bG oF;subst hv5;have zX:=ah.mk (I6.out.trans hf2);have HT2:=ah.mk ht2;have HB2:=ah.mk (hf2.box HB1.out hg2);have jG:=ah.mk (hf2.box jY.out hg3);have zA:=ah.mk (vS hr4 I6.out.size);have HQ2:=ah.mk (xD oF I6.out.size);clear cc hr4 oF;have z2:=bE jG.out;have akY:=ay jG.out 1;have akZ:w2.cell? ⟨b3,1,none⟩=some _:=ak jG.out 1;have acZ:=ay jG.out 2;have ac0:w2.cell? ⟨b3,2,none⟩=some _:=ak jG.out 2;have ak0:=ay jG.out 3;have ak1:w2.cell? ⟨b3,3,none⟩=some _:=ak jG.out 3;have ak2:=ay jG.out 4;have ak3:w2.cell? ⟨b3,4,none⟩=some _:=ak jG.out 4;have ak4:=ay jG.out 5;have ak5:w2.cell? ⟨b3,5,none⟩=some _:=ak jG.out 5;have ak6:=ay jG.out 6;have ak7:w2.cell? ⟨b3,6,none⟩=some _:=ak jG.out 6;have P5:=dM jG.out 1 (.int .i64 x.f0);have YW:=dM P5 2 (.string x.f1);have YX:=dM YW 3 (.string x.f2);have YZ:=dM YX 4 (.int .i64 x.f3);have Y0:=dM YZ 5 (.slice A4 x.f4.length c4);have af8:=dM Y0 6 (.slice A5 x.f5.length c5);have qQ:=ah.mk (show (((((((w2).setCell ⟨b3,1,none⟩ (.int .i64 x.f0)).setCell ⟨b3,2,none⟩ (.string x.f1)).setCell ⟨b3,3,none⟩ (.string x.f2)).setCell ⟨b3,4,none⟩ (.int .i64 x.f3)).setCell ⟨b3,5,none⟩ (.slice A4 x.f4.length c4)).setCell ⟨b3,6,none⟩ (.slice A5 x.f5.length c5)).heap[b3]?=some (.cells #[.int .i64 k,.int .i64 x.f0,.string x.f1,.string x.f2,.int .i64 x.f3,.slice A4 x.f4.length c4,.slice A5 x.f5.length c5,.slice none 0 0] 31 (0,0)) by simpa using af8);have HB3:=ah.mk (show (((((((w2).setCell ⟨b3,1,none⟩ (.int .i64 x.f0)).setCell ⟨b3,2,none⟩ (.string x.f1)).setCell ⟨b3,3,none⟩ (.string x.f2)).setCell ⟨b3,4,none⟩ (.int .i64 x.f3)).setCell ⟨b3,5,none⟩ (.slice A4 x.f4.length c4)).setCell ⟨b3,6,none⟩ (.slice A5 x.f5.length c5)).heap[w.heap.size]?=some (.cells #[.int .i64 0,.int .i64 0,.string ⟨#[]⟩,.string ⟨#[]⟩,.int .i64 0,.slice none 0 0,.slice none 0 0,.slice none 0 0] 31 (0,0)) from ((Below.heap_setCell ((((((w2).setCell ⟨b3,1,none⟩ (.int .i64 x.f0)).setCell ⟨b3,2,none⟩ (.string x.f1)).setCell ⟨b3,3,none⟩ (.string x.f2)).setCell ⟨b3,4,none⟩ (.int .i64 x.f3)).setCell ⟨b3,5,none⟩ (.slice A4 x.f4.length c4)) ⟨b3,6,none⟩ (.slice A5 x.f5.length c5) _ tV).trans ((Below.heap_setCell (((((w2).setCell ⟨b3,1,none⟩ (.int .i64 x.f0)).setCell ⟨b3,2,none⟩ (.string x.f1)).setCell ⟨b3,3,none⟩ (.string x.f2)).setCell ⟨b3,4,none⟩ (.int .i64 x.f3)) ⟨b3,5,none⟩ (.slice A4 x.f4.length c4) _ tV).trans ((Below.heap_setCell ((((w2).setCell ⟨b3,1,none⟩ (.int .i64 x.f0)).setCell ⟨b3,2,none⟩ (.string x.f1)).setCell ⟨b3,3,none⟩ (.string x.f2)) ⟨b3,4,none⟩ (.int .i64 x.f3) _ tV).trans ((Below.heap_setCell (((w2).setCell ⟨b3,1,none⟩ (.int .i64 x.f0)).setCell ⟨b3,2,none⟩ (.string x.f1)) ⟨b3,3,none⟩ (.string x.f2) _ tV).trans ((Below.heap_setCell ((w2).setCell ⟨b3,1,none⟩ (.int .i64 x.f0)) ⟨b3,2,none⟩ (.string x.f1) _ tV).trans ((Below.heap_setCell (w2) ⟨b3,1,none⟩ (.int .i64 x.f0) _ tV).trans HB2.out)))))));have HT3:=ah.mk ((((((HT2.out.set (.int .i64 x.f0) (j:=1) hB3 hg3).set (.string x.f1) (j:=2) hB3 hg3).set (.string x.f2) (j:=3) hB3 hg3).set (.int .i64 x.f3) (j:=4) hB3 hg3).set (.slice A4 x.f4.length c4) (j:=5) hB3 hg3).set (.slice A5 x.f5.length c5) (j:=6) hB3 hg3);have yJ:=ah.mk (Ft.set (Ft.set (Ft.set (Ft.set (Ft.set (Ft.set zX.out hw3 1 (.int .i64 x.f0)) hw3 2 (.string x.f1)) hw3 3 (.string x.f2)) hw3 4 (.int .i64 x.f3)) hw3 5 (.slice A4 x.f4.length c4)) hw3 6 (.slice A5 x.f5.length c5));have JF:=ah.mk (Kd.iP (Kd.iP (Kd.iP (Kd.iP (Kd.iP (Kd.iP zA.out jG.out aD 1 (.int .i64 x.f0)) P5 aD 2 (.string x.f1)) YW aD 3 (.string x.f2)) YX aD 4 (.int .i64 x.f3)) YZ aD 5 (.slice A4 x.f4.length c4)) Y0 aD 6 (.slice A5 x.f5.length c5))
   have HQ3:=ah.mk (Kd.iP (Kd.iP (Kd.iP (Kd.iP (Kd.iP (Kd.iP HQ2.out jG.out aD 1 (.int .i64 x.f0)) P5 aD 2 (.string x.f1)) YW aD 3 (.string x.f2)) YX aD 4 (.int .i64 x.f3)) YZ aD 5 (.slice A4 x.f4.length c4)) Y0 aD 6 (.slice A5 x.f5.length c5))
   obtain⟨w3,hw3⟩:∃w3,((((((w2).setCell ⟨b3,1,none⟩ (.int .i64 x.f0)).setCell ⟨b3,2,none⟩ (.string x.f1)).setCell ⟨b3,3,none⟩ (.string x.f2)).setCell ⟨b3,4,none⟩ (.int .i64 x.f3)).setCell ⟨b3,5,none⟩ (.slice A4 x.f4.length c4)).setCell ⟨b3,6,none⟩ (.slice A5 x.f5.length c5)=w3:=⟨_,rfl⟩
   rw[hw3] at qQ HB3 HT3 yJ JF HQ3;clear P5 YW YX YZ Y0 af8
   go_upto_region 14 with (fail)
   try rw[hw3]
   clear hw3 z2 akY akZ acZ ac0 ak0 ak1 ak2 ak3 ak4 ak5 ak6 ak7;have HE:=ah.mk (show o=some _ from ho.symm)
   go_wp2_with (first
    | (refine dX (.load 31 (.tmp 5)) rfl ?_;refine wpList_load_row rfl _ _ rfl b3 rfl 31 #[.int .i64 k,.int .i64 x.f0,.string x.f1,.string x.f2,.int .i64 x.f3,.slice A4 x.f4.length c4,.slice A5 x.f5.length c5,.slice none 0 0] (0,0) _ qQ.out Tryz.underlying31 rfl aA ?_)
    | (refine dX (.store 31 (.tmp 4) (.tmp 49)) rfl ?_;refine wpList_store_row rfl 31 (.tmp 4) (.tmp 49) rfl w.heap.size #[.int .i64 k,.int .i64 x.f0,.string x.f1,.string x.f2,.int .i64 x.f3,.slice A4 x.f4.length c4,.slice A5 x.f5.length c5,.slice none 0 0] rfl rfl 31 _ HB3.out aA (by rfl) ?one ?_;(case one=>obtain⟨b0,d0,e0⟩:=Kd.bG JF.out;obtain⟨b1,d1,e1⟩:=Kd.bG HQ3.out;simp[Value.oneCell'])))
   rw[HE.out];refine bodyPost_ret (results_cell_row rfl _ _ w.heap.size 31 #[.int .i64 k,.int .i64 x.f0,.string x.f1,.string x.f2,.int .i64 x.f3,.slice A4 x.f4.length c4,.slice A5 x.f5.length c5,.slice none 0 0] (0,0) _ rfl (setRow_heap _ _ _ _ _ _ HB3.out) Tryz.underlying31 rfl aA) rfl ⟨_,_,.slice none 0 0,rfl,?_,?_,?_,HT3.out.row _ aj hg2,Ft.row yJ.out (Nat.le_refl _) _⟩
   ·exact ku JF.out HB3.out aD _
   ·exact ku HQ3.out HB3.out aD _
   exact Kd.eY _ _ _ _ _
 have t2:(k == 2)=false:=beq_eq_false_iff_ne.2 k2;rw[if_neg k2] at ho;clear k2;by_cases k3:k=3
 ·have t3:(k == 3)=true:=beq_iff_eq.2 k3;rw[if_pos k3] at ho
  go_wp2_with fail
  cases h2:iZ left with
  | none=>
   have cc:=lX B w1 g left HT1.out hl;rw[h2] at cc;rw[h2] at ho;have HE:=ah.mk (show o=none from ho.symm);refine (cc).mono ?_;intro e w9 hh;obtain⟨he,nJ⟩:=hh;unfold dW at he;subst he
   go_wp2_with fail
   exact⟨rfl,by rw[HE.out];exact⟨rfl,I6.out.trans nJ⟩⟩
  | some q=>
   obtain⟨p,l1⟩:=q;rw[h2] at ho;dsimp only at ho;have cc:=lX B w1 g left HT1.out hl;rw[h2] at cc;refine cc.mono ?_;rintro e w2 ⟨rfl,ht2,hf2⟩;have zX:=ah.mk (I6.out.trans hf2);have HT2:=ah.mk ht2;have HB2:=ah.mk (hf2.box HB1.out hg2);have jG:=ah.mk (hf2.box jY.out hg3);clear cc;have hl1:=(nR h2 hl).1
   go_wp2_with fail
   cases h3:gW 8 l1 with
   | none=>
    rw[h3] at ho;have HE:=ah.mk (show o=none from ho.symm);refine (mO HT2.out aD hl1 h3).mono ?_;intro e w9 hh;obtain⟨he,nJ⟩:=hh;unfold dW at he;subst he
    go_wp2_with fail
    exact⟨rfl,by rw[HE.out];exact⟨rfl,zX.out.trans nJ⟩⟩
   | some q=>
    obtain⟨sz,l2⟩:=q;rw[h3] at ho;dsimp only at ho;refine (mM HT2.out aD hl1 h3).mono ?_;rintro e w3 ⟨rfl,ht3,hf3⟩;have yJ:=ah.mk (zX.out.trans hf3);have HT3:=ah.mk ht3;have HB3:=ah.mk (hf3.box HB2.out hg2);have qQ:=ah.mk (hf3.box jG.out hg3);have hl2:=(fT h3 hl1).1;have z3:=bE qQ.out;have ak9:=ay qQ.out 1;have ala:w3.cell? ⟨b3,1,none⟩=some _:=ak qQ.out 1;have alb:=ay qQ.out 2;have alc:w3.cell? ⟨b3,2,none⟩=some _:=ak qQ.out 2;have ald:=ay qQ.out 3;have ale:w3.cell? ⟨b3,3,none⟩=some _:=ak qQ.out 3;have alf:=ay qQ.out 4;have alg:w3.cell? ⟨b3,4,none⟩=some _:=ak qQ.out 4;have alh:=ay qQ.out 5;have ali:w3.cell? ⟨b3,5,none⟩=some _:=ak qQ.out 5;have alj:=ay qQ.out 6;have alk:w3.cell? ⟨b3,6,none⟩=some _:=ak qQ.out 6;have af9:=dM qQ.out 1 (.int .i64 1);have aga:=dM af9 2 (.string p);have agb:=dM aga 3 (.string ⟨#[]⟩);have agc:=dM agb 4 (.int .i64 sz);have agd:=dM agc 5 (.slice none 0 0);have agf:=dM agd 6 (.slice none 0 0);have wV:=ah.mk (show (((((((w3).setCell ⟨b3,1,none⟩ (.int .i64 1)).setCell ⟨b3,2,none⟩ (.string p)).setCell ⟨b3,3,none⟩ (.string ⟨#[]⟩)).setCell ⟨b3,4,none⟩ (.int .i64 sz)).setCell ⟨b3,5,none⟩ (.slice none 0 0)).setCell ⟨b3,6,none⟩ (.slice none 0 0)).heap[b3]?=some (.cells #[.int .i64 k,.int .i64 1,.string p,.string ⟨#[]⟩,.int .i64 sz,.slice none 0 0,.slice none 0 0,.slice none 0 0] 31 (0,0)) by simpa using agf);have kJ:=ah.mk (show (((((((w3).setCell ⟨b3,1,none⟩ (.int .i64 1)).setCell ⟨b3,2,none⟩ (.string p)).setCell ⟨b3,3,none⟩ (.string ⟨#[]⟩)).setCell ⟨b3,4,none⟩ (.int .i64 sz)).setCell ⟨b3,5,none⟩ (.slice none 0 0)).setCell ⟨b3,6,none⟩ (.slice none 0 0)).heap[w.heap.size]?=some (.cells #[.int .i64 0,.int .i64 0,.string ⟨#[]⟩,.string ⟨#[]⟩,.int .i64 0,.slice none 0 0,.slice none 0 0,.slice none 0 0] 31 (0,0)) from ((Below.heap_setCell ((((((w3).setCell ⟨b3,1,none⟩ (.int .i64 1)).setCell ⟨b3,2,none⟩ (.string p)).setCell ⟨b3,3,none⟩ (.string ⟨#[]⟩)).setCell ⟨b3,4,none⟩ (.int .i64 sz)).setCell ⟨b3,5,none⟩ (.slice none 0 0)) ⟨b3,6,none⟩ (.slice none 0 0) _ tV).trans ((Below.heap_setCell (((((w3).setCell ⟨b3,1,none⟩ (.int .i64 1)).setCell ⟨b3,2,none⟩ (.string p)).setCell ⟨b3,3,none⟩ (.string ⟨#[]⟩)).setCell ⟨b3,4,none⟩ (.int .i64 sz)) ⟨b3,5,none⟩ (.slice none 0 0) _ tV).trans ((Below.heap_setCell ((((w3).setCell ⟨b3,1,none⟩ (.int .i64 1)).setCell ⟨b3,2,none⟩ (.string p)).setCell ⟨b3,3,none⟩ (.string ⟨#[]⟩)) ⟨b3,4,none⟩ (.int .i64 sz) _ tV).trans ((Below.heap_setCell (((w3).setCell ⟨b3,1,none⟩ (.int .i64 1)).setCell ⟨b3,2,none⟩ (.string p)) ⟨b3,3,none⟩ (.string ⟨#[]⟩) _ tV).trans ((Below.heap_setCell ((w3).setCell ⟨b3,1,none⟩ (.int .i64 1)) ⟨b3,2,none⟩ (.string p) _ tV).trans ((Below.heap_setCell (w3) ⟨b3,1,none⟩ (.int .i64 1) _ tV).trans HB3.out)))))));have Sg:=ah.mk ((((((HT3.out.set (.int .i64 1) (j:=1) hB3 hg3).set (.string p) (j:=2) hB3 hg3).set (.string ⟨#[]⟩) (j:=3) hB3 hg3).set (.int .i64 sz) (j:=4) hB3 hg3).set (.slice none 0 0) (j:=5) hB3 hg3).set (.slice none 0 0) (j:=6) hB3 hg3);have I5:=ah.mk (Ft.set (Ft.set (Ft.set (Ft.set (Ft.set (Ft.set yJ.out hw3 1 (.int .i64 1)) hw3 2 (.string p)) hw3 3 (.string ⟨#[]⟩)) hw3 4 (.int .i64 sz)) hw3 5 (.slice none 0 0)) hw3 6 (.slice none 0 0))
    obtain⟨w4,hw4⟩:∃w4,((((((w3).setCell ⟨b3,1,none⟩ (.int .i64 1)).setCell ⟨b3,2,none⟩ (.string p)).setCell ⟨b3,3,none⟩ (.string ⟨#[]⟩)).setCell ⟨b3,4,none⟩ (.int .i64 sz)).setCell ⟨b3,5,none⟩ (.slice none 0 0)).setCell ⟨b3,6,none⟩ (.slice none 0 0)=w4:=⟨_,rfl⟩
    rw[hw4] at wV kJ Sg I5;clear af9 aga agb agc agd agf
    go_wp2_with fail
    try rw[hw4]
    clear hw4 z3 ak9 ala alb alc ald ale alf alg alh ali alj alk
    cases h5:mo l2 with
    | none=>
     have cc:=sI B w4 g l2 Sg.out hl2;rw[h5] at cc;rw[h5] at ho;have HE:=ah.mk (show o=none from ho.symm);refine (cc).mono ?_;intro e w9 hh;obtain⟨he,nJ⟩:=hh;unfold dW at he;subst he
     go_wp2_with fail
     exact⟨rfl,by rw[HE.out];exact⟨rfl,I5.out.trans nJ⟩⟩
    | some q=>
     obtain⟨rs,ax,l3⟩:=q;rw[h5] at ho;dsimp only at ho;have cc:=sI B w4 g l2 Sg.out hl2;rw[h5] at cc;refine cc.mono ?_;rintro e w5 ⟨v4,rfl,oF,ht5,IX⟩;obtain⟨A4,c4,hv4⟩:=Kd.bG oF;subst hv4;have Pv:=ah.mk (I5.out.trans IX);have PZ:=ah.mk ht5;have kH:=ah.mk (IX.box kJ.out hg2);have sP:=ah.mk (IX.box wV.out hg3);have hl3:=(oQ h5 hl2).1;have IY:=ah.mk (vS oF I5.out.size);clear cc oF;have z5:=bE sP.out;have alm:=ay sP.out 5;have aln:w5.cell? ⟨b3,5,none⟩=some _:=ak sP.out 5;have agh:=dM sP.out 5 (.slice A4 rs.length c4);have CP:=ah.mk (show ((w5).setCell ⟨b3,5,none⟩ (.slice A4 rs.length c4)).heap[b3]?=some (.cells #[.int .i64 k,.int .i64 1,.string p,.string ⟨#[]⟩,.int .i64 sz,.slice A4 rs.length c4,.slice none 0 0,.slice none 0 0] 31 (0,0)) by simpa using agh);have sQ:=ah.mk (show ((w5).setCell ⟨b3,5,none⟩ (.slice A4 rs.length c4)).heap[w.heap.size]?=some (.cells #[.int .i64 0,.int .i64 0,.string ⟨#[]⟩,.string ⟨#[]⟩,.int .i64 0,.slice none 0 0,.slice none 0 0,.slice none 0 0] 31 (0,0)) from ((Below.heap_setCell (w5) ⟨b3,5,none⟩ (.slice A4 rs.length c4) _ tV).trans kH.out));have Np:=ah.mk (PZ.out.set (.slice A4 rs.length c4) (j:=5) hB3 hg3);have Yk:=ah.mk (Ft.set Pv.out hw3 5 (.slice A4 rs.length c4));have Vw:=ah.mk (Kd.iP IY.out sP.out aD 5 (.slice A4 rs.length c4))
     obtain⟨w6,hw6⟩:∃w6,(w5).setCell ⟨b3,5,none⟩ (.slice A4 rs.length c4)=w6:=⟨_,rfl⟩
     rw[hw6] at CP sQ Np Yk Vw;clear agh
     go_wp2_with fail
     try rw[hw6]
     clear hw6 z5 alm aln
     cases h7:mo l3 with
     | none=>
      have cc:=sI B w6 g l3 Np.out hl3;rw[h7] at cc;rw[h7] at ho;have HE:=ah.mk (show o=none from ho.symm);refine (cc).mono ?_;intro e w9 hh;obtain⟨he,nJ⟩:=hh;unfold dW at he;subst he
      go_wp2_with fail
      exact⟨rfl,by rw[HE.out];exact⟨rfl,Yk.out.trans nJ⟩⟩
     | some q=>
      obtain⟨st,all,l4⟩:=q;rw[h7] at ho;dsimp only at ho;have cc:=sI B w6 g l3 Np.out hl3;rw[h7] at cc;refine cc.mono ?_;rintro e w7 ⟨v6,rfl,Yl,ht7,Ym⟩;obtain⟨A6,c6,hv6⟩:=Kd.bG Yl;subst hv6;have HF7:=ah.mk (Yk.out.trans Ym);have HT7:=ah.mk ht7;have Ep:=ah.mk (Ym.box sQ.out hg2);have Nq:=ah.mk (Ym.box CP.out hg3);obtain⟨hl4,_,ha0,ha1,_⟩:=oQ h7 hl3;have HS7:=ah.mk (vS Yl Yk.out.size);have HP7:=ah.mk (yK Vw.out Np.out Ym);clear cc Yl;have z7:=bE Nq.out;have alp:=ay Nq.out 7;have alq:w7.cell? ⟨b3,7,none⟩=some _:=ak Nq.out 7;have agi:=dM Nq.out 7 (.slice A6 st.length c6);have Nr:=ah.mk (show ((w7).setCell ⟨b3,7,none⟩ (.slice A6 st.length c6)).heap[b3]?=some (.cells #[.int .i64 k,.int .i64 1,.string p,.string ⟨#[]⟩,.int .i64 sz,.slice A4 rs.length c4,.slice none 0 0,.slice A6 st.length c6] 31 (0,0)) by simpa using agi);have I7:=ah.mk (show ((w7).setCell ⟨b3,7,none⟩ (.slice A6 st.length c6)).heap[w.heap.size]?=some (.cells #[.int .i64 0,.int .i64 0,.string ⟨#[]⟩,.string ⟨#[]⟩,.int .i64 0,.slice none 0 0,.slice none 0 0,.slice none 0 0] 31 (0,0)) from ((Below.heap_setCell (w7) ⟨b3,7,none⟩ (.slice A6 st.length c6) _ tV).trans Ep.out));have HT8:=ah.mk (HT7.out.set (.slice A6 st.length c6) (j:=7) hB3 hg3);have HF8:=ah.mk (Ft.set HF7.out hw3 7 (.slice A6 st.length c6));have HP8:=ah.mk (Kd.iP HP7.out Nq.out aD 7 (.slice A6 st.length c6));have HS8:=ah.mk (Kd.iP HS7.out Nq.out aD 7 (.slice A6 st.length c6))
      obtain⟨w8,hw8⟩:∃w8,(w7).setCell ⟨b3,7,none⟩ (.slice A6 st.length c6)=w8:=⟨_,rfl⟩
      rw[hw8] at Nr I7 HT8 HF8 HP8 HS8;clear agi
      go_wp2_with fail
      try rw[hw8]
      clear hw8 z7 alp alq
      cases h9:ql all l4 with
      | none=>
       have cc:=yL B w8 g l4 all HT8.out hl4 ha0 ha1;rw[h9] at cc;rw[h9] at ho;have HE:=ah.mk (show o=none from ho.symm);refine (cc).mono ?_;intro e w9 hh;obtain⟨he,nJ⟩:=hh;unfold dW at he;subst he
       go_wp2_with fail
       exact⟨rfl,by rw[HE.out];exact⟨rfl,HF8.out.trans nJ⟩⟩
      | some q=>
       obtain⟨d,l5⟩:=q;rw[h9] at ho;dsimp only at ho;have cc:=yL B w8 g l4 all HT8.out hl4 ha0 ha1;rw[h9] at cc;refine cc.mono ?_;rintro e w9 ⟨v5,rfl,KX,ht9,nJ⟩;obtain⟨A5,c5,hv5⟩:=Kd.bG KX;subst hv5;have HF9:=ah.mk (HF8.out.trans nJ);have HT9:=ah.mk ht9;have FB:=ah.mk (nJ.box I7.out hg2);have Jd:=ah.mk (nJ.box Nr.out hg3);have HQ9:=ah.mk (xD KX HF8.out.size);have HP9:=ah.mk (yK HP8.out HT8.out nJ);have HS9:=ah.mk (yK HS8.out HT8.out nJ);clear cc KX;have z9:=bE Jd.out;have alr:=ay Jd.out 6;have als:w9.cell? ⟨b3,6,none⟩=some _:=ak Jd.out 6;have abS:=dM Jd.out 6 (.slice A5 d.length c5);have agj:=ah.mk (show ((w9).setCell ⟨b3,6,none⟩ (.slice A5 d.length c5)).heap[b3]?=some (.cells #[.int .i64 k,.int .i64 1,.string p,.string ⟨#[]⟩,.int .i64 sz,.slice A4 rs.length c4,.slice A5 d.length c5,.slice A6 st.length c6] 31 (0,0)) by simpa using abS);have Je:=ah.mk (show ((w9).setCell ⟨b3,6,none⟩ (.slice A5 d.length c5)).heap[w.heap.size]?=some (.cells #[.int .i64 0,.int .i64 0,.string ⟨#[]⟩,.string ⟨#[]⟩,.int .i64 0,.slice none 0 0,.slice none 0 0,.slice none 0 0] 31 (0,0)) from ((Below.heap_setCell (w9) ⟨b3,6,none⟩ (.slice A5 d.length c5) _ tV).trans FB.out));have agk:=ah.mk (HT9.out.set (.slice A5 d.length c5) (j:=6) hB3 hg3);have agl:=ah.mk (Ft.set HF9.out hw3 6 (.slice A5 d.length c5));have P6:=ah.mk (Kd.iP HP9.out Jd.out aD 6 (.slice A5 d.length c5));have ac2:=ah.mk (Kd.iP HS9.out Jd.out aD 6 (.slice A5 d.length c5));have ac3:=ah.mk (Kd.iP HQ9.out Jd.out aD 6 (.slice A5 d.length c5))
       obtain⟨Ns,ac4⟩:∃Ns,(w9).setCell ⟨b3,6,none⟩ (.slice A5 d.length c5)=Ns:=⟨_,rfl⟩
       rw[ac4] at agj Je agk agl P6 ac2 ac3;clear abS
       go_upto_region 14 with (fail)
       try rw[ac4]
       clear ac4 z9 alr als;have HE:=ah.mk (show o=some _ from ho.symm)
       go_wp2_with (first
        | (refine dX (.load 31 (.tmp 5)) rfl ?_;refine wpList_load_row rfl _ _ rfl b3 rfl 31 #[.int .i64 k,.int .i64 1,.string p,.string ⟨#[]⟩,.int .i64 sz,.slice A4 rs.length c4,.slice A5 d.length c5,.slice A6 st.length c6] (0,0) _ agj.out Tryz.underlying31 rfl aA ?_)
        | (refine dX (.store 31 (.tmp 4) (.tmp 49)) rfl ?_;refine wpList_store_row rfl 31 (.tmp 4) (.tmp 49) rfl w.heap.size #[.int .i64 k,.int .i64 1,.string p,.string ⟨#[]⟩,.int .i64 sz,.slice A4 rs.length c4,.slice A5 d.length c5,.slice A6 st.length c6] rfl rfl 31 _ Je.out aA (by rfl) ?one ?_;(case one=>obtain⟨b0,d0,e0⟩:=Kd.bG P6.out;obtain⟨b1,d1,e1⟩:=Kd.bG ac3.out;obtain⟨b2,d2,e2⟩:=Kd.bG ac2.out;simp[Value.oneCell'])))
       rw[HE.out];refine bodyPost_ret (results_cell_row rfl _ _ w.heap.size 31 #[.int .i64 k,.int .i64 1,.string p,.string ⟨#[]⟩,.int .i64 sz,.slice A4 rs.length c4,.slice A5 d.length c5,.slice A6 st.length c6] (0,0) _ rfl (setRow_heap _ _ _ _ _ _ Je.out) Tryz.underlying31 rfl aA) rfl ⟨_,_,_,rfl,?_,?_,?_,agk.out.row _ aj hg2,Ft.row agl.out (Nat.le_refl _) _⟩
       ·exact ku P6.out Je.out aD _
       ·exact ku ac3.out Je.out aD _
       exact ku ac2.out Je.out aD _
 have t3:(k == 3)=false:=beq_eq_false_iff_ne.2 k3;rw[if_neg k3] at ho;have HE:=ah.mk (show o=none from ho.symm)
 go_wp2_with fail
 exact⟨rfl,by rw[HE.out];exact⟨rfl,I6.out⟩⟩
def uU:Array Value:=#[.int .i64 0,.int .i64 0,.slice none 0 0]
abbrev Fp (pp pb:Nat):World→World→Prop:=kg 0 (fun k=>k=pp∨k=pb) (fun _=>False)
theorem Fp.row (pp pb:Nat) (W:World) (cs:Array Value):Fp pp pb W (W.setRow pp cs):=by
 have hB:=below_setRow (Below.refl 0 W) (Nat.zero_le pp) cs;refine⟨hB.os,hB.tape,hB.output,hB.size,fun k o ho=>?_⟩;by_cases e:k=pp
 ·exact .inl (.inl (.inl e))
 exact .inr ((setRow_other _ _ _ _ e).trans ho)
theorem P7 (pp pb:Nat) (w:World) :
  CallsD Tryz.prog 96 #[.pointer (some ⟨pp,0,none⟩),.pointer (some ⟨pb,0,none⟩)] .returning w fun e u' w'=>e=.returned (.tuple #[])∧u'=.returning∧w'=w:=by
 refine callsD_of_wpS Tryz.func96 rfl fun c₀ cs hu=>?_
 apply wpS_seq;apply wpS_region;simp[wpOpsS,go_sem,recoverD,hu,Tryz.ntmps96,Exit.thenS];refine wpS_of_wp ?_;simp only[Nat.reduceSub,Nat.reduceAdd,Array.replicate_succ,Array.replicate_zero,List.push_toArray,List.append_toArray,List.nil_append,List.cons_append,aYa,aYb,aYc];refine Code.wp_mono (Q:=fun e a' w'=>e=.normal∧a'.defers=[]∧w'=w) ?_ ?_;rotate_left
 ·go_wp2
 rintro e a' w' ⟨rfl,hd,rfl⟩;refine⟨hd,.returning,?_,_,results_none rfl _ _ _,rfl,rfl,rfl⟩;cases c₀;cases hu;rfl
theorem KZ (pp pb:Nat) (x0 x1 x2 y0:Value) (older:List PanicEntry) (w:World) (hp:w.heap[pp]?=some (.cells #[x0,x1,x2] 24 (0,0))) (hb:w.heap[pb]?=some (.cells #[y0] 4 (0,0))) :
  CallsD Tryz.prog 96 #[.pointer (some ⟨pp,0,none⟩),.pointer (some ⟨pb,0,none⟩)] (.panicking ({ v:=.iface 141 (.agg #[]),recovered:=false }::older)) w fun e u' w'=>
   e=.returned (.tuple #[])∧u'=.panicking ({ v:=.iface 141 (.agg #[]),recovered:=true }::older)∧w'.heap[pp]?=some (.cells uU 24 (0,0))∧w'.heap[pb]?=some (.cells #[.bool false] 4 (0,0))∧Fp pp pb w w':=by
 refine callsD_of_wpS Tryz.func96 rfl fun c₀ cs hu=>?_
 apply wpS_seq;apply wpS_region;simp[wpOpsS,go_sem,recoverD,hu,Tryz.ntmps96,Exit.thenS];refine wpS_of_wp ?_
 have hta:∀w:World,(Instr.typeAssert (.iface 141 (.agg #[])) 20 141 true).run Tryz.prog w=.ok (.tuple #[.agg #[],.bool true]) w:=fun w=>by kernel_rfl
 have HP:=ah.mk hp;have HB:=ah.mk hb;clear hp hb;simp only[Nat.reduceSub,Nat.reduceAdd,Array.replicate_succ,Array.replicate_zero,List.push_toArray,List.append_toArray,List.nil_append,List.cons_append,aYa,aYb,aYc];refine Code.wp_mono (Q:=fun e a' w'=>e=.normal∧a'.defers=[]∧w'.heap[pp]?=some (.cells uU 24 (0,0))∧w'.heap[pb]?=some (.cells #[.bool false] 4 (0,0))∧Fp pp pb w w') ?_ ?_;rotate_left
 ·go_upto_region 5 with (fail)
  have hba:=(Below.refl w.heap.size w).alloc (Nat.le_refl _) (.cells #[] 141);have hp1:=aG HP.out hba;have hb1:=aG HB.out hba
  have hpb:pp≠pb:=fun e=>by
   have h1:=HP.out;rw[e,HB.out] at h1;simp at h1
  obtain⟨W,hW⟩:∃W,w.alloc (.cells #[] 141)=W:=⟨_,rfl⟩
  rw[hW] at hba hp1 hb1 ⊢;have hb2:(W.setRow pp uU).heap[pb]?=some (.cells #[y0] 4 (0,0)):=(setRow_other _ _ _ _ (fun e=>hpb e.symm)).trans hb1;have hp2:(W.setRow pp uU).heap[pp]?=some (.cells uU 24 (0,0)):=setRow_heap _ _ _ _ _ _ hp1;have f2:=ay hb2 0;have l2:=bE hb2;have y2:(W.setRow pp uU).cell? ⟨pb,0,none⟩=some y0:=ak hb2 0;have HW1:=ah.mk hp1;have HB2:=ah.mk hb2;have zA:=ah.mk hp2;have HBA:=ah.mk hba;clear hba hp1 hb1 hW hb2 hp2 hta
  unfold uU at *
  go_wp2_with (refine dX (.store 24 (.tmp 0) (.tmp 16)) rfl ?_;refine wpList_store_row rfl 24 (.tmp 0) (.tmp 16) rfl pp #[.int .i64 0,.int .i64 0,.slice none 0 0] rfl rfl 24 _ HW1.out aA (by rfl) (by simp[Value.oneCell']) ?_)
  refine⟨(Below.heap_setCell _ ⟨pb,0,none⟩ _ pp hpb).trans zA.out,by have:=dM HB2.out 0 (.bool false);simpa using this,(kg.below HBA.out).trans ((Fp.row pp pb W _).trans (kg.set (G:=fun k=>k=pp∨k=pb) (b:=pb) (.inr rfl) 0 _))⟩
 rintro e a' w' ⟨rfl,hd,h1,h2,h3⟩;exact⟨hd,_,rfl,_,results_none rfl _ _ _,rfl,rfl,h1,h2,h3⟩
end Go.Proofs.YtknihldkhedpkaaGreatDoor
end
section
namespace Go.Proofs.YtknihldkhedpkaaGreatDoor
open Go.RowKit Go.Lib
open Go.Proofs.YtknihldkhedpkaaGreatDoorW.PrintWords Go.Proofs.YtknihldkhedpkaaGreatDoorW.PrintLast
attribute [local go_sem] Oper.semAt_some
section
variable {P : Program} {α : Type}
def Y1 (S:List α→Prop) (J:List α→World→Prop) (X:World→Prop) (e:Ending) (B:World):Prop:=(∃v,e=.returned v)∧((∃xs,S xs∧J xs B)∨X B)
def V8 (P:Program) (gf:Nat) (lb:Array Value) (encs:α→Array Value) (Good:List α→α→Prop) (St Kp:World→World→Prop) (S:List α→Prop) (w:World):Prop :=
 ∀(l:Nat) (J:List α→World→Prop) (X:World→Prop) (W:World),Below w.heap.size w W →
  (∀pre A B,J pre A→St A B→J pre B) →
  (∀pre x A,J pre A→Good pre x→YieldAt Fence.wide 0 P l (encs x) A fun e B=>(e=.returned (.bool true)∧J (pre++[x]) B∧Kp A B)∨(e=.returned (.bool false)∧X B)) →
  J [] W→Calls P gf (#[.func (.yield l) #[] #[]]++lb) W (Y1 S J X)
theorem Nt {g:Operand} {ps:Array Tmp} {assign body:Code} {Q:Exit→Act→World→Prop} {a:Act} {w:World} {gf:Nat} {lb:Array Value}
  (hg:a.eval g=.func (.func gf) #[] lb) (eg:∀args w,(callFunc gf args).run P w=.ok (.enter gf args) w)
  {encs:α→Array Value} (hps:∀x,(encs x).size=ps.size) {Good:List α→α→Prop} {St Kp:World→World→Prop} {S:List α→Prop}
  (hseq:V8 P gf lb encs Good St Kp S w)
  (I:List α→World→Prop) (X:World→Prop) (a₁:α→Act)
  (hSt:∀A B,St A B→Still w.heap.size A B)
  (V9:∀pre A B,I pre A→St A B→I pre B)
  (Wh:∀pre W l o o',I pre W→w.heap.size≤l→W.heap[l]?=some o→o.isCells=false→I pre (W.putObj l o'))
  (hXp:∀W l o o',X W→w.heap.size≤l→W.heap[l]?=some o→o.isCells=false→X (W.putObj l o'))
  (hKp:∀A B l o o1 p o2,w.heap.size≤l→A.heap[l]?=some o→o.isCells=false→Kp (A.putObj l o1) B→B.heap[l]?=some p→p.isCells=false→Kp A (B.putObj l o2))
  (h0:∀o o',I [] ((w.alloc o).alloc o'))
  (hassign:∀(l:Nat) (x:α) (W:World) (K:Act→World→Prop),K (a₁ x) W →
   assign.wpIn (Fence.wide.inRound l) 0 P (Exit.then K (fun _ _ _=>False)) { tmps:=(ps.zip (encs x)).foldl (fun t (p,v)=>t.setIfInBounds p v) a.tmps,defers:=[] } W)
  (hbody:∀(l:Nat) (pre:List α) (x:α) (W:World),I pre W→Good pre x→body.wpIn (Fence.wide.inRound l) 0 P (fun e _ B=>(e=.normal∧I (pre++[x]) B∧Kp W B∧Still w.heap.size W B)∨(e=.ret∧X B∧Still w.heap.size W B)) (a₁ x) W)
  (hdone:∀xs W,S xs→w.heap.size<W.heap.size→I xs W→W.heap[w.heap.size]?=some (.deferred (some []))→Q .normal { a with defers:={ target:=.collected w.heap.size,args:=#[] }::a.defers } W)
  (hstop:∀W,w.heap.size<W.heap.size→X W→W.heap[w.heap.size]?=some (.deferred (some []))→Q .ret { a with defers:={ target:=.collected w.heap.size,args:=#[] }::a.defers } W) :
  (Code.rangeFunc g ps assign body).wp P Q a w:=by
 refine (wpIn_wide (n:=1)).1 (wpIn_rangeFunc (fun fn hfn=>?_))
 obtain⟨rec,hrec⟩:∃rec:LoopState→Option Code→Loop,rec=fun st pe=>{ state:=st,pending:=pe,fn,tmps:=a.tmps,params:=ps,assign,body,defers:=w.heap.size }:=⟨_,rfl⟩
 obtain⟨s,hs⟩:∃s,s=w.heap.size:=⟨_,rfl⟩
 obtain⟨W1,hW1⟩:∃W1,W1=(w.alloc (.deferred (some []))).alloc (.loop (rec .ready none)):=⟨_,rfl⟩
 have hD1:W1.heap[s]?=some (.deferred (some [])):=by
  rw[hW1,hs];exact (Below.heap_alloc _ _ _ bK).trans (World.alloc_heap_new w _)
 have hL1:W1.heap[s+1]?=some (.loop (rec .ready none)):=by
  rw[hW1,hs];have:=World.alloc_heap_new (w.alloc (.deferred (some []))) (.loop (rec .ready none))
  rwa [World.size_alloc] at this
 have hB1:Below w.heap.size w W1:=by
  rw[hW1];exact ((Below.refl _ w).alloc (Nat.le_refl _) _).alloc bK _
 refine⟨s+1,[{ target:=.collected s,args:=#[] }],W1,{ target:=.fn (.func gf) lb,args:=#[.func (.yield (s+1)) #[] #[]] },W1,gf,#[.func (.yield (s+1)) #[] #[]]++lb,W1,?_,?_,fun f' hf'=>trivial,?_,?_,?_⟩
 ·rw[hW1,hrec,hs];exact run_enterLoop_outer _ _ _ _ _
 ·simp only[resolve,hg];simp[go_sem]
 ·simp[invoke,go_sem,eg]
 ·intro h;cases h
 refine callsIn_wide.2 ((hseq (s+1) (fun pre W=>I pre W∧W.heap[s+1]?=some (.loop (rec .ready none))∧W.heap[s]?=some (.deferred (some []))) (fun W=>X W∧W.heap[s+1]?=some (.loop (rec .done (some .ret)))∧W.heap[s]?=some (.deferred (some []))) W1 hB1 ?_ ?_ ⟨hW1▸h0 _ _,hL1,hD1⟩).mono ?_)
 ·rintro pre A B ⟨hi,hl,hd⟩ hab;exact⟨V9 _ _ _ hi hab,(hSt _ _ hab).2 _ _ aj hl rfl,(hSt _ _ hab).2 _ _ aj hd rfl⟩
 ·rintro pre x A ⟨hi,hl,hd⟩ hgood;have hlt:=(Array.getElem?_eq_some_iff.1 hl).1;have hy:=run_yield (P:=P) (args:=encs x) hl (by rw[hrec];exact hps x);rw[hrec] at hy;refine⟨fn,_,assign,body,hy,roundIn_of_wpIn hfn (hassign _ x A _ ⟨_,run_beginRound hl (by rw[hrec]),?_⟩)⟩;have hl2:(A.putObj (s+1) (.loop { rec .ready none with state:=.busy })).heap[s+1]?=some (.loop { rec .ready none with state:=.busy }):=World.putObj_heap_same hlt;have hd2:(A.putObj (s+1) (.loop { rec .ready none with state:=.busy })).heap[s]?=some (.deferred (some [])):=(World.putObj_heap_other aj).trans hd;refine wpIn_mono (hbody _ pre x _ (Wh _ _ _ _ _ hi aj hl rfl) hgood) ?_;rintro e a3 B (⟨rfl,hi3,hk3,hs3⟩|⟨rfl,hx,hs3⟩)
  ·have hl3:=hs3.2 _ _ aj hl2 rfl;have hd3:=hs3.2 _ _ aj hd2 rfl;have hr:=run_endRound (P:=P) none hl3;have hlt3:=(Array.getElem?_eq_some_iff.1 hl3).1;refine⟨_,_,hr,.inl ⟨rfl,⟨Wh _ _ _ _ _ hi3 aj hl3 rfl,?_,(World.putObj_heap_other aj).trans hd3⟩,hKp _ _ _ _ _ _ _ aj hl rfl hk3 hl3 rfl⟩⟩;rw[World.putObj_heap_same hlt3,hrec];rfl
  have hl3:=hs3.2 _ _ aj hl2 rfl;have hd3:=hs3.2 _ _ aj hd2 rfl;have hr:=run_endRound (P:=P) (some .ret) hl3;have hlt3:=(Array.getElem?_eq_some_iff.1 hl3).1;refine⟨_,_,hr,.inr ⟨rfl,hXp _ _ _ _ hx aj hl3 rfl,?_,(World.putObj_heap_other aj).trans hd3⟩⟩;rw[World.putObj_heap_same hlt3,hrec];rfl
 rintro e B ⟨⟨v,rfl⟩,(⟨xs,hxs,hi,hl,hd⟩|⟨hi,hl,hd⟩)⟩
 ·have hr:=run_endLoop (P:=P) hl (by rw[hrec];simp);refine⟨_,_,hr,?_⟩;rw[hrec];rw[hs] at hd hl ⊢;have h2:=(Array.getElem?_eq_some_iff.1 hd).1;exact hdone _ _ hxs (by simpa [World.putObj] using h2) (Wh _ _ _ _ _ hi aj hl rfl) ((World.putObj_heap_other aj).trans hd)
 have hr:=run_endLoop (P:=P) hl (by rw[hrec];simp);refine⟨_,_,hr,?_⟩;rw[hrec];rw[hs] at hd hl ⊢;have h2:=(Array.getElem?_eq_some_iff.1 hd).1;exact wpIn_ret (hstop _ (by simpa [World.putObj] using h2) (hXp _ _ _ _ hi aj hl rfl) ((World.putObj_heap_other aj).trans hd))
end
structure StS (b:Nat) (A C:World):Prop where
 os:C.os=A.os
 tape:C.tape=A.tape
 output:C.output=A.output
 size:A.heap.size≤C.heap.size
 blocks:∀k,k<A.heap.size→k≠b→C.heap[k]?=A.heap[k]?
theorem StS.refl (b:Nat) (A:World):StS b A A:=⟨rfl,rfl,rfl,Nat.le_refl _,fun _ _ _=>rfl⟩
theorem StS.set (b:Nat) (A:World) (j:Nat) (u:Value):StS b A (A.setCell ⟨b,j,none⟩ u):=by
 have h:=(Below.refl 0 A).setCell (p:=⟨b,j,none⟩) (Nat.zero_le _) u;exact⟨h.os,h.tape,h.output,h.size,fun k hk hne=>Below.heap_setCell A ⟨b,j,none⟩ u k hne⟩
structure Sq (bs bp bv:Nat) (cur:ByteArray) (W:World):Prop where
 s:W.heap[bs]?=some (.cells #[.string cur] 9 (0,0))
 p:W.heap[bp]?=some (.cells #[.string ⟨#[47]⟩] 9 (0,0))
 v:W.heap[bv]?=some (.cells #[.int .i64 0] 3 (0,0))
def KpS (bs bp bv:Nat) (A C:World):Prop:=C.heap[bs]?=A.heap[bs]?∧C.heap[bp]?=A.heap[bp]?∧C.heap[bv]?=A.heap[bv]?
theorem Sq.kp {bs bp bv:Nat} {cur:ByteArray} {A C:World} (h:Sq bs bp bv cur A) (k:KpS bs bp bv A C):Sq bs bp bv cur C:=⟨k.1.trans h.s,k.2.1.trans h.p,k.2.2.trans h.v⟩
abbrev jQ:ByteArray:=⟨#[47]⟩
theorem DT {s:ByteArray} (h:Lib.indexB s jQ = -1):kC s jQ=[s]:=Lib.splitB_miss _ _ _ _ h
theorem P8 {s:ByteArray} {i:Nat} (h:Lib.indexB s jQ=i):kC s jQ=s.extract 0 i::kC (s.extract (i+1) s.size) jQ:=by
 have hc:=Lib.countB_hit s jQ i aD h;unfold kC;rw[hc,Nat.add_comm 1,Lib.splitB_hit _ _ _ _ i h];rfl
theorem FD (s:ByteArray) (w:World) (bs bp bv:Nat) (hs:s.size≤140737488351232) (hq:Sq bs bp bv s w) (hne:bs≠bp∧bs≠bv) :
  V8 Tryz.prog 156 #[.pointer (some ⟨bp,0,none⟩),.pointer (some ⟨bs,0,none⟩),.pointer (some ⟨bv,0,none⟩)] (fun x:ByteArray=>#[.string x]) (fun pre x=>∃rest,kC s jQ=pre++x::rest) (StS bs) (KpS bs bp bv)
   (fun xs=>xs=kC s jQ) w:=by
 intro l J X W hW hJ hY hJ0
 have hq0:Sq bs bp bv s W:=⟨aG hq.s hW,aG hq.p hW,aG hq.v hW⟩
 have HQ0:=ah.mk hq0;have HJ:=ah.mk hJ;have HY:=ah.mk hY;have HJ0:=ah.mk hJ0;have y1:W.cell? ⟨bp,0,none⟩=some (.string ⟨#[47]⟩):=ak hq0.p 0;clear hq0 hJ hY hJ0 hW hq
 go_enter Tryz.func156,Tryz.ntmps156
 go_wp2_with fail
 go_loopg [7,8] (Lib.countB s jQ) (fun g s7 s8 wx=>∃(pre:List ByteArray) (cur:ByteArray),Lib.countB cur jQ≤g∧cur.size≤140737488351232∧ah (kC s jQ=pre++kC cur jQ)∧ah (J pre wx)∧ah (Sq bs bp bv cur wx))
 case atStart=>exact⟨[],s,Nat.le_refl _,hs,⟨by simp⟩,HJ0,HQ0⟩
 case round=>
  obtain⟨pre,cur,hcg,hcs,HP,HJW,HQ⟩:=hrel;clear HJ0 HQ0 y1;have z0:wr.cell? ⟨bs,0,none⟩=some (.string cur):=ak HQ.out.s 0;have z1:wr.cell? ⟨bp,0,none⟩=some (.string ⟨#[47]⟩):=ak HQ.out.p 0;have z2:wr.cell? ⟨bv,0,none⟩=some (.int .i64 0):=ak HQ.out.v 0
  rcases Lib.indexB_cases cur jQ with hix|⟨i,hix,hil⟩
  ·have hi:=uK cur jQ rfl wr;rw[hix] at hi;have HI:=ah.mk hi
   have hg:∃rest,kC s jQ=pre++cur::rest:=⟨[],by rw[HP.out,DT hix]⟩
   obtain⟨fn,tmps,assign,body,hy,hR⟩:=HY.out pre cur wr HJW.out hg;have HE:=ah.mk (show pre++[cur]=kC s jQ by rw[HP.out,DT hix]);clear hi hg hix
   try dsimp only at hy
   refine (wpIn_wide (n:=1)).1 ?_
   gi_wp2_with (refine⟨trivial,?_⟩;gi_at_call 148;refine (callsIn_wide.2 (HI.out)).mono ?_;rintro e w' ⟨rfl,rfl⟩)
   refine (wpIn_wide (n:=1)).1 ?_
   gi_wp2
   refine hR.mono ?_;rintro e W' (⟨rfl,hJ',hk'⟩|⟨rfl,hX⟩)
   ·gi_wp2
    go_end0
    exact⟨⟨_,rfl⟩,.inl ⟨_,HE.out,hJ'⟩⟩
   gi_wp2
   go_end0
   exact⟨⟨_,rfl⟩,.inr hX⟩
  have hi:=uK cur jQ rfl wr;rw[hix] at hi;have HI:=ah.mk hi;have hsp:=P8 hix;have hcn:=Lib.countB_hit cur jQ i aD hix;rw[show jQ.size=1 from rfl] at hcn hil
  have hg:∃rest,kC s jQ=pre++cur.extract 0 i::rest:=⟨_,by rw[HP.out,hsp]⟩
  have hP2:kC s jQ=(pre++[cur.extract 0 i])++kC (cur.extract (i+1) cur.size) jQ:=by rw[HP.out,hsp];simp
  obtain⟨fn,tmps,assign,body,hy,hR⟩:=HY.out pre (cur.extract 0 i) wr HJW.out hg;have zA:=ah.mk hP2;clear hi hg hix hsp hP2
  try dsimp only at hy
  refine (wpIn_wide (n:=1)).1 ?_
  gi_wp2_with (refine⟨trivial,?_⟩;gi_at_call 148;refine (callsIn_wide.2 (HI.out)).mono ?_;rintro e w' ⟨rfl,rfl⟩)
  refine hR.mono ?_;rintro e W' (⟨rfl,hJ',hk'⟩|⟨rfl,hX⟩)
  ·have hq:=HQ.out.kp hk';have z0':W'.cell? ⟨bs,0,none⟩=some (.string cur):=ak hq.s 0;have z1':W'.cell? ⟨bp,0,none⟩=some (.string ⟨#[47]⟩):=ak hq.p 0;have f0':=ay hq.s 0;have l0':=bE hq.s;have HQ2:=ah.mk hq;have HJ2:=ah.mk hJ';clear hq hJ' hk' hR hy
   gi_wp2
   go_wp2_with fail
   go_roundg (Lib.countB (cur.extract (i+1) cur.size) jQ)
   case measure=>omega
   case rel=>
    refine⟨pre++[cur.extract 0 i],cur.extract (i+1) cur.size,Nat.le_refl _,by rw[ByteArray.size_extract];omega,zA,⟨HJ.out _ _ _ HJ2.out (StS.set _ _ _ _)⟩,⟨iC HQ2.out.s 0 _ (by rfl),iL HQ2.out.p (fun e=>hne.1 e.symm) _,iL HQ2.out.v (fun e=>hne.2 e.symm) _⟩⟩
  gi_wp2
  refine bodyPost_ret (results_none rfl _ _ _) rfl ?_;exact⟨⟨_,rfl⟩,.inr hX⟩
end Go.Proofs.YtknihldkhedpkaaGreatDoor
end
section
namespace Go.Proofs.YtknihldkhedpkaaGreatDoor
open Go.RowKit
open Go.Proofs.YtknihldkhedpkaaGreatDoorW.PrintLast
section
variable {P : Program}
theorem xE {o:Oper} {a:Act} {next next':Act→World→Prop} {Q:Exit→Act→World→Prop} {l n:Nat} (hn:∀a w,next a w→next' a w) {r:Result Next} (h:o.upon P a next Q r) :
  o.uponIn (Fence.wide.inRound l) n P a next' Q r:=by
 cases r with
 | ok nx w'=>
  cases nx with
  | value v=>exact hn _ _ h
  | skip=>exact hn _ _ h
  | defer d=>exact hn _ _ h
  | enter f args=>
   refine⟨fun h=>(by cases h),CallsIn.inRound l (callsIn_wide.2 (Calls.mono h ?_))⟩;intro e w hh
   cases e with
   | returned v=>exact hn _ _ hh
   | panicked c=>exact hh
   | outgrown=>exact hh
  | row row args=>
   refine⟨fun h=>(by cases h),fun c cs _=>?_⟩;obtain⟨v,w2,hr,hs⟩:=h c cs;exact⟨v,w2,hn _ _ hr,stepsIn_wide.2 hs⟩
  | _=>exact h.elim
 | halt x w'=>
  cases x <;> first|exact h|exact h.elim
theorem P9 {ops:Array Oper} {Q:Exit→Act→World→Prop} {l n i:Nat} {K K':Act→World→Prop} {a:Act} {w:World} (hd:∀o∈ops,∀c,o.op≠.defer c) (hQ:¬LetsOut Q) (hn:∀a w,K a w→K' a w) (h:wpOp P ops Q i K a w) :
  wpOpIn (Fence.wide.inRound l) n P ops Q i K' a w:=by
 unfold wpOp at h;unfold wpOpIn
 cases ho:ops[i]? with
 | none=>
  rw[ho] at h;exact hn _ _ h
 | some o=>
  rw[ho] at h;dsimp only at h ⊢;by_cases hw:Region.wanted o (yielded ops a.tmps)=true
  ·rw[if_pos hw] at h ⊢
   rcases h with h|h
   ·refine⟨fun _ _=>trivial,?_⟩;rw[Oper.semAt_eq _ _ _ (hd o (Array.mem_of_getElem? ho))];exact xE hn h
   exact absurd h.2 hQ
  rw[if_neg hw] at h ⊢;exact⟨fun _ _=>trivial,hn _ _ h⟩
theorem vT {md:Region.Mode} {ops:Array Oper} {Q:Exit→Act→World→Prop} {l n:Nat} (hd:∀o∈ops,∀c,o.op≠.defer c) (hQ:¬LetsOut Q):∀(fuel:Nat) (listed:Array Bool) (a:Act) (w:World),
  wpAny P md ops Q fuel listed a w→wpAnyIn (Fence.wide.inRound l) n P md ops Q fuel listed a w
 | 0,listed,a,w,h=>h
 | fuel+1,listed,a,w,h=>⟨h.1,fun i hi=>P9 hd hQ (fun a w h=>vT hd hQ fuel _ a w h) (h.2 i hi)⟩
def EJ (l:List Oper):Bool:=l.all fun o=>match o.op with|.defer _=>false|_=>true
theorem xG {l:List Oper} (h:EJ l=true):∀o∈l.toArray,∀c,o.op≠.defer c:=by
 intro o ho c e;have:=List.all_eq_true.1 h o (by simpa using ho);rw[e] at this;cases this
theorem wpIn_region_quiet {id:Nat} {Q:Exit→Act→World→Prop} {a:Act} {w:World} {ls:List Oper} {l n:Nat} (hm:P.follows .mixedOrders=true) (hB:Region.lexB .any ls.toArray=true) (hd:EJ ls=true) (hQ:¬LetsOut Q)
  (h:wpQuiet P ls.toArray (fun w'=>∃n,w'=w.drewN n) (fun a'=>∀w',(∃n,w'=w.drewN n)→Q .normal a' w') ls a):(Code.region id ls.toArray true).wpIn (Fence.wide.inRound l) n P Q a w:=by
 simp only[Region.lexB,Bool.and_eq_true] at hB;refine wpIn_region_any hm (vT (xG hd) hQ _ _ _ _ (wpAny_of_quiet (C:=fun w'=>∃n,w'=w.drewN n) (Q:=fun a'=>∀w',(∃n,w'=w.drewN n)→Q .normal a' w') (fun _ w' hw' h=>h w' hw') _ _ _ _ ⟨1,rfl⟩ ?_));have:=wpAnyQ_lex (C:=fun w'=>∃n,w'=w.drewN n) (md:=.any) hB.1 ls 0 (Array.replicate ls.length false) a bK (by simpa using hB.2) h
 simpa using this
theorem nS {id n lq nF:Nat} {Q:Exit→Act→World→Prop} {a:Act} {w:World} {ls:List Oper} {S:World→Prop} {ds:List Nat} (l:Array Bool) (hm:P.follows .mixedOrders=true) (hd:EJ ls=true) (hQ:¬LetsOut Q) (hn:ls.toArray.size=n) (hl:Array.replicate n false=l) (hS:S w.drew)
  (h:S w.drew→bP P .any ls.toArray Q S ds n l a w.drew):(Code.region id ls.toArray true).wpIn (Fence.wide.inRound lq) nF P Q a w:=by
 subst hn;subst hl;exact wpIn_region_any hm (vT (xG hd) hQ _ _ _ _ (uL _ _ _ _ (h hS)))
end
end Go.Proofs.YtknihldkhedpkaaGreatDoor
end
section
namespace Go.Proofs.YtknihldkhedpkaaGreatDoor
open Go.RowKit Go.Lib
open Go.Proofs.YtknihldkhedpkaaGreatDoorW.PrintWords Go.Proofs.YtknihldkhedpkaaGreatDoorW.PrintLast Go.Proofs.YtknihldkhedpkaaGreatDoor.PT
attribute [local go_sem] Oper.semAt_some
theorem Bc (s:ByteArray):Lib.hasPrefix s.data.toList [47]=ig s:=by
 unfold ig bs
 cases s.data.toList with
 | nil=>rfl
 | cons a l=>simp[Lib.hasPrefix,List.isPrefixOf];try (rw[Bool.eq_iff_iff];simp;exact⟨fun h=>h.symm,fun h=>h.symm⟩)
theorem Bd {P:Program} {fn:Func} {p:Tmp} {t:TypeId} (h:fn.results=#[.cell p t]) (ht:∀w:World,(isAgg t).run P w=.ok false w) (tmps:Array Value) (w:World) (g:Nat) (b:Bool) (hp:tmps.getD p undef=.pointer (some ⟨g,0,none⟩)) (hg:w.heap[g]?=some (.cells #[.bool b] t (0,0))) :
  (results fn tmps).run P w=.ok (.bool b) w:=by
 have hc:=ak hg 0
 have hp':tmps[p]?.getD undef=.pointer (some ⟨g,0,none⟩):=by simpa using hp
 simp[results,h,hp',asAddr,hc,ht,go_sem,Result.andThen]
theorem Nu (w:World):(isAgg 4).run Tryz.prog w=.ok false w:=by kernel_rfl
theorem Nv (s:ByteArray) (w:World):Calls Tryz.prog 145 #[.string s,.string ⟨#[47]⟩,.int .i64 0] w fun e w'=>e=.returned (.func (.func 156) #[] #[.pointer (some ⟨w.heap.size+1,0,none⟩),.pointer (some ⟨w.heap.size,0,none⟩),.pointer (some ⟨w.heap.size+2,0,none⟩)]) ∧
  w'=((w.alloc (.cells #[.string s] 9)).alloc (.cells #[.string ⟨#[47]⟩] 9)).alloc (.cells #[.int .i64 0] 3):=by
 go_enter Tryz.func145,Tryz.ntmps145
 go_wp2_with fail
 go_ret
 exact⟨by simp,rfl⟩
theorem K3 (s:ByteArray) (w:World):Calls Tryz.prog 131 #[.string s,.string ⟨#[47]⟩] w fun e w'=>e=.returned (.func (.func 156) #[] #[.pointer (some ⟨w.heap.size+1,0,none⟩),.pointer (some ⟨w.heap.size,0,none⟩),.pointer (some ⟨w.heap.size+2,0,none⟩)]) ∧
  w'=((w.alloc (.cells #[.string s] 9)).alloc (.cells #[.string ⟨#[47]⟩] 9)).alloc (.cells #[.int .i64 0] 3):=by
 have c:=fun w=>Nv s w
 go_enter Tryz.func131,Tryz.ntmps131
 go_wp2_with (go_at_call 145;refine (c _).mono ?_;rintro e w' ⟨rfl,rfl⟩)
 go_ret
 exact⟨rfl,rfl⟩
theorem zY {W:World} {n:Nat} (h:W.heap.size=n) (o:Obj):(W.alloc o).heap[n]?=some o:=h▸bJ W o
structure WI (w:World) (nb:Nat) (pre:List ByteArray) (W:World):Prop where
 low:Below w.heap.size w W
 res:W.heap[w.heap.size]?=some (.cells #[.bool false] 4 (0,0))
 big:nb≤W.heap.size
 all:pre.all gH=true
theorem WI.st {w:World} {nb:Nat} {pre:List ByteArray} {A B:World} {b:Nat} (h:WI w nb pre A) (k:StS b A B) (hb:w.heap.size≤b) (hb2:w.heap.size≠b):WI w nb pre B :=
 ⟨⟨k.os.trans h.low.os,k.tape.trans h.low.tape,k.output.trans h.low.output,Nat.le_trans h.low.size k.size,fun i hi=>(k.blocks i (by have:=h.low.size;omega) aj).trans (h.low.block i hi)⟩,(k.blocks _ (bE h.res) hb2).trans h.res,Nat.le_trans h.big k.size,h.all⟩
theorem WI.put {w:World} {nb l n0:Nat} {pre:List ByteArray} {W:World} {o o':Obj} (h:WI w nb pre W) (hl:n0≤l) (ho:W.heap[l]?=some o) (hc:o.isCells=false) (h0:w.heap.size≤n0):WI w nb pre (W.putObj l o') :=
 ⟨qw h.low aj (Nat.le_refl _) ho hc,(World.putObj_heap_other (fun e=>by rw[← e,h.res] at ho;cases ho;cases hc)).trans h.res,by simpa [World.putObj] using h.big,h.all⟩
structure WX (w:World) (s:ByteArray) (W:World):Prop where
 low:Below w.heap.size w W
 res:W.heap[w.heap.size]?=some (.cells #[.bool false] 4 (0,0))
 no:fZ s=false
theorem WX.put {w:World} {l n0:Nat} {s:ByteArray} {W:World} {o o':Obj} (h:WX w s W) (hl:n0≤l) (ho:W.heap[l]?=some o) (hc:o.isCells=false) (h0:w.heap.size≤n0):WX w s (W.putObj l o') :=
 ⟨qw h.low aj (Nat.le_refl _) ho hc,(World.putObj_heap_other (fun e=>by rw[← e,h.res] at ho;cases ho;cases hc)).trans h.res,h.no⟩
theorem Y2 {bs bp bv l:Nat} {A B:World} {o1 o2:Obj} (h1:bs≠l) (h2:bp≠l) (h3:bv≠l) (h:KpS bs bp bv (A.putObj l o1) B):KpS bs bp bv A (B.putObj l o2) :=
 ⟨(World.putObj_heap_other h1).trans (h.1.trans (World.putObj_heap_other h1)),(World.putObj_heap_other h2).trans (h.2.1.trans (World.putObj_heap_other h2)),(World.putObj_heap_other h3).trans (h.2.2.trans (World.putObj_heap_other h3))⟩
def ac6 (w:World) (nb:Nat) (s:ByteArray) (pre:List ByteArray) (bs bp bv:Nat) (W:World) (e:Exit) (B:World):Prop :=
 (e=.normal∧WI w nb pre B∧KpS bs bp bv W B∧Still nb W B)∨(e=.ret∧WX w s B∧Still nb W B)
theorem ac6.eq {w:World} {nb:Nat} {s:ByteArray} {pre:List ByteArray} {bs bp bv:Nat} {W:World} {e:Exit} {B:World} (h:ac6 w nb s pre bs bp bv W e B):e=.normal∨e=.ret:=h.imp And.left And.left
theorem qI (s:ByteArray) (w:World) (hs:s.size≤140737488351232):Calls Tryz.prog 100 #[.string s] w fun e w'=>e=.returned (.bool (fZ s))∧Below w.heap.size w w':=by
 have hpx:=fun w=>Tryz.strings_HasPrefix s ⟨#[47]⟩ w
 have HPX:=ah.mk hpx;clear hpx;refine (callsIn_wide (n:=3)).1 (callsIn_of_wp_marks Tryz.func100 rfl trivial ?_ rfl);simp only[Tryz.ntmps100,List.size_toArray,List.length_cons,List.length_nil,Nat.reduceSub,Nat.reduceAdd,Array.replicate_succ,Array.replicate_zero,List.push_toArray,List.append_toArray,List.nil_append,List.cons_append];refine wpIn_wide.2 ?_;have hb1:=(Below.refl w.heap.size w).alloc (Nat.le_refl _) (.cells #[.bool false] 4);by_cases hc:1023<s.size
 ·have HW:ah (fZ s=false):=⟨by unfold fZ;rw[decide_eq_false aj];rfl⟩
  go_wp2_with fail
  refine⟨_,Bd rfl Nu _ _ w.heap.size false rfl (bJ w _),?_⟩;exact⟨by rw[HW.out],hb1⟩
 have d0:decide (1023<(s.size:Int))=false:=decide_eq_false aj
 cases hsl:ig s with
 | false=>
  have hpx:=HPX.out;rw[Bc,hsl] at hpx;have HPX:=ah.mk hpx
  have HW:ah (fZ s=false):=⟨by unfold fZ;rw[hsl,Bool.false_and,Bool.and_false]⟩
  clear hpx hsl
  go_wp2_with (go_at_call 130;refine (HPX.out _).mono ?_;rintro e w2 ⟨rfl,rfl⟩)
  refine⟨_,Bd rfl Nu _ _ w.heap.size false rfl (bJ w _),?_⟩;exact⟨by rw[HW.out],hb1⟩
 | true=>
  have hpx:=HPX.out;rw[Bc,hsl] at hpx;have HPX:=ah.mk hpx;have hsz:=lD hsl;have HSL:=ah.mk hsl
  have e1:(1:Int)≤(s.size:Int):=by omega
  clear hpx hsl
  go_wp2_with (first|(go_at_call 130;refine (HPX.out _).mono ?_;rintro e w2 ⟨rfl,rfl⟩)|(go_at_call 131;refine (K3 _ _).mono ?_;rintro e w2 ⟨rfl,rfl⟩))
  obtain⟨w2,hw2⟩:∃w2,((((w.alloc (.cells #[.bool false] 4)).alloc (.cells #[.string (s.extract 1 s.size)] 9)).alloc (.cells #[.string ⟨#[47]⟩] 9)).alloc (.cells #[.int .i64 0] 3))=w2:=⟨_,rfl⟩
  rw[hw2]
  have hz2:w2.heap.size=w.heap.size+4:=by rw[← hw2];simp
  have hb2:Below w.heap.size w w2:=by rw[← hw2];exact (((hb1.alloc bK _).alloc (by simp;omega) _).alloc (by simp;omega) _)
  have hq2:Sq (w.heap.size+1) (w.heap.size+1+1) (w.heap.size+1+2) (s.extract 1 s.size) w2:=by
   rw[← hw2];exact⟨aM (aM (zY bK _) _) _,aM (zY bK _) _,zY bK _⟩
  have hr2:w2.heap[w.heap.size]?=some (.cells #[.bool false] 4 (0,0)):=by
   rw[← hw2];exact aM (aM (aM (bJ w _) _) _) _
  have hT:=FD (s.extract 1 s.size) w2 (w.heap.size+1) (w.heap.size+1+1) (w.heap.size+1+2) (by rw[ByteArray.size_extract];omega) hq2 ⟨by omega,by omega⟩;have HT:=ah.mk hT
  have HI0:ah (WI w w2.heap.size [] w2):=⟨⟨hb2,hr2,Nat.le_refl _,rfl⟩⟩
  have hsz0:w.heap.size≤w2.heap.size:=hb2.size
  have arC:w.heap.size+4≤w2.heap.size:=by omega
  clear hT hb2 hq2 hr2 hw2 hb1 HPX hz2
  refine Nt (gf:=156) (lb:=#[.pointer (some ⟨w.heap.size+1+1,0,none⟩),.pointer (some ⟨w.heap.size+1,0,none⟩),.pointer (some ⟨w.heap.size+1+2,0,none⟩)]) ?hg (enters_of Tryz.func156 aA rfl) (encs:=fun x:ByteArray=>#[.string x]) (fun _=>rfl) HT.out
   (WI w w2.heap.size) (WX w s) ?a1 (fun A B h=>⟨h.size,fun k o hB ho hc=>(h.blocks k (bE ho) aj).trans ho⟩)
   (fun pre A B hi hs=>hi.st hs aj aj)
   (fun pre W l o o' hi hl ho hc=>hi.put hl ho hc hsz0)
   (fun W l o o' hi hl ho hc=>hi.put hl ho hc aj)
   (fun A B l o o1 p o2 hl ho hc hk hp hpc=>Y2 aj aj aj hk)
   (fun o o'=>⟨HI0.out.low.trans ((((Below.refl _ w2).alloc (Nat.le_refl _) o).alloc bK o').mono hsz0),aM (aM HI0.out.res _) _,by rw[World.size_alloc,World.size_alloc];omega,rfl⟩)
   ?assign ?body ?done ?stop
  case assign=>
   intro l x W K hK
   gi_wp2
   exact hK
  case hg=>
   first|rfl|(go_simp;done)|simp[go_sem]
  case body=>
   rintro l pre x W hi ⟨rest,hrest⟩;refine wpIn_mono (Q:=fun e _ B=>ac6 w w2.heap.size s (pre++[x]) (w.heap.size+1) (w.heap.size+1+1) (w.heap.size+1+2) W e B) ?_ (fun e a B h=>h);obtain⟨e,he,hok⟩:=JM x
   have hnm:=fun W=>iD.calls x e W he
   have HNM:=ah.mk hnm;have HI:=ah.mk hi;have HOK:=ah.mk hok;have Yn:=ah.mk hrest;have r0:W.cell? ⟨w.heap.size,0,none⟩=some (.bool false):=ak hi.res 0;have rf:=ay hi.res 0;have rl:=bE hi.res;clear hnm hi hok hrest;by_cases hz:e=0
   ·have hzb:(e != 0)=false:=by rw[hz];rfl
    have HZ:=ah.mk hz;clear hz he
    gi_wp2_with (refine⟨trivial,rfl,?_⟩;gi_at_call 132;refine (CallsIn.inRound l (callsIn_wide.2 (HNM.out _))).mono ?_;rintro e2 w5 ⟨rfl,hb5⟩)
    exact .inl ⟨rfl,⟨HI.out.low.trans (hb5.mono HI.out.low.size),aG HI.out.res hb5,Nat.le_trans HI.out.big hb5.size,by rw[List.all_append,HI.out.all];simp[HOK.out.1 HZ.out]⟩,
     ⟨hb5.block _ (by have:=HI.out.big;omega),hb5.block _ (by have:=HI.out.big;omega),hb5.block _ (by have:=HI.out.big;omega)⟩,Still.below hb5⟩
   have hzb:(e != 0)=true:=bne_iff_ne.2 hz
   have HN:ah (fZ s=false):=⟨by
    have h1:gH x=false:=by
     cases hc2:gH x with
     | false=>rfl
     | true=>exact absurd (HOK.out.2 hc2) hz
    have h2:(dQ s).all gH=false:=List.all_eq_false.2 ⟨x,by rw[show dQ s=pre++x::rest from Yn.out];simp,by rw[h1];decide⟩;unfold fZ
    rw[h2,Bool.and_false,Bool.and_false]⟩
   clear hz he
   gi_wp2_with (refine⟨trivial,rfl,?_⟩;gi_at_call 132;refine (CallsIn.inRound l (callsIn_wide.2 (HNM.out _))).mono ?_;rintro e2 w5 ⟨rfl,hb5⟩;have r5:w5.cell? ⟨w.heap.size,0,none⟩=some (.bool false):=au hb5 r0;have f5:=ay (aG HI.out.res hb5) 0;have kH:=ah.mk hb5;clear hb5 r0 rf rl)
   have hres:=aG HI.out.res kH.out;refine .inr ⟨rfl,⟨(HI.out.low.trans (kH.out.mono HI.out.low.size)).setCell (Nat.le_refl _) _,iC hres 0 _ (by rfl),HN.out⟩,?_⟩;have hst:Still w2.heap.size W w5:=Still.below kH.out;refine⟨Nat.le_trans hst.1 ((Below.refl 0 w5).setCell (p:=⟨w.heap.size,0,none⟩) (Nat.zero_le _) _).size,fun k o hB ho hc=>(Below.heap_setCell w5 ⟨w.heap.size,0,none⟩ _ k (fun e=>?_)).trans (hst.2 k o hB ho hc)⟩;have e':k=w.heap.size:=e;omega
  case done=>
   rintro xs W hxs hlt hi hd
   have HN:ah (fZ s=true):=⟨by
    have h:=hi.all;rw[hxs] at h;unfold fZ;rw[HSL.out,decide_eq_true aj,show (dQ s).all gH=true from h]
    rfl⟩
   have r0:W.cell? ⟨w.heap.size,0,none⟩=some (.bool false):=ak hi.res 0;have rf:=ay hi.res 0;have HI:=ah.mk hi;have HD:=ah.mk hd;clear hi hd hxs HT HI0
   go_wp2_with fail
   have hres:=iC HI.out.res 0 (.bool true) rfl;have hd2:(W.setCell ⟨w.heap.size,0,none⟩ (.bool true)).heap[w2.heap.size]?=some (.deferred (some [])):=(Below.heap_setCell W ⟨w.heap.size,0,none⟩ _ _ (by show w2.heap.size≠w.heap.size;omega)).trans HD.out;refine⟨by simp,.inl ⟨_,_,rfl,run_takeDeferred hd2,?_⟩⟩;refine⟨_,Bd rfl Nu _ _ w.heap.size true rfl ((World.putObj_heap_other aj).trans hres),?_⟩;exact⟨by rw[HN.out],qw (HI.out.low.setCell (Nat.le_refl _) _) hsz0 (Nat.le_refl _) hd2 rfl⟩
  case stop=>
   rintro W hlt hx hd;refine⟨by simp,.inl ⟨_,_,rfl,run_takeDeferred hd,?_⟩⟩;refine⟨_,Bd rfl Nu _ _ w.heap.size false rfl ((World.putObj_heap_other aj).trans hx.res),?_⟩;exact⟨by rw[hx.no],qw hx.low hsz0 (Nat.le_refl _) hd rfl⟩
end Go.Proofs.YtknihldkhedpkaaGreatDoor
end
