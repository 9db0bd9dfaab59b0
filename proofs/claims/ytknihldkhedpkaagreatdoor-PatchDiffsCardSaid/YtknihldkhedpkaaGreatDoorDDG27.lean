import Derived.Test.YtknihldkhedpkaaGreatDoorDDG11
import Derived.Test.YtknihldkhedpkaaGreatDoorDDG13
import Derived.Test.YtknihldkhedpkaaGreatDoorDDG10
import Derived.Test.YtknihldkhedpkaaGreatDoorDDG24
import Derived.Defers
import Derived.Recover
import Derived.Test.YtknihldkhedpkaaGreatDoorDDG1
import Derived.Test.YtknihldkhedpkaaGreatDoorDDG6
set_option linter.all false
set_option maxHeartbeats 16000000
set_option maxRecDepth 100000
section
namespace Go.Proofs.YtknihldkhedpkaaGreatDoor
open Go.RowKit Go.Lib
open Go.Proofs.YtknihldkhedpkaaGreatDoorW.PrintWords Go.Proofs.YtknihldkhedpkaaGreatDoorW.PrintLast Go.Proofs.YtknihldkhedpkaaGreatDoor.PT
def wu (k:Int) (p:ByteArray):sF:=⟨k,⟨2,p,⟨#[]⟩,0,[],[]⟩,[]⟩
theorem Yv (B:Nat) (w:World) (g:Nat) (left:List Int) (H:Tk B w g left) (hl:By left) {k:Int} {l1 l2:List Int} {p:ByteArray} (h1:wM 1 left=some (k,l1)) (hk:k=2) (h2:wH l1=some (p,l2)) :
  Calls Tryz.prog 127 #[.pointer (some ⟨g,0,none⟩)] w fun e w'=>e=.returned (.agg #[.int .i64 k,.string p,.string ⟨#[]⟩,.int .i64 0,.slice none 0 0,.slice none 0 0])∧Tk B w' g l2∧Ft g w w':=by
 have HKV:=ah.mk hk;clear hk;have hgs:=H.lt;have hBs:B≤w.heap.size:=Nat.le_of_lt (Nat.lt_of_le_of_lt H.1 hgs)
 have hg2:w.heap.size≠g:=by omega
 have hb0:=(Below.refl w.heap.size w).alloc (Nat.le_refl _) (.cells #[.int .i64 0,.string ⟨#[]⟩,.string ⟨#[]⟩,.int .i64 0,.slice none 0 0,.slice none 0 0] 29);have hbk:=bF w (.cells #[.int .i64 0,.string ⟨#[]⟩,.string ⟨#[]⟩,.int .i64 0,.slice none 0 0,.slice none 0 0] 29)
 obtain⟨w0,hw0⟩:∃w0,w.alloc (.cells #[.int .i64 0,.string ⟨#[]⟩,.string ⟨#[]⟩,.int .i64 0,.slice none 0 0,.slice none 0 0] 29)=w0:=⟨_,rfl⟩
 rw[hw0] at hb0 hbk;have HB0:=ah.mk hbk;have HF0:=ah.mk (show Ft g w w0 from ng.below hb0);have HT0:=ah.mk (H.below hb0);clear hb0 hbk H
 go_enter Tryz.func127,Tryz.ntmps127
 go_wp2_with fail
 try rw[hw0]
 clear hw0;refine (uo HT0.out aH hl h1).mono ?_;rintro e w1 ⟨rfl,ht1,hf1⟩;have UK:=ah.mk (HF0.out.trans hf1);have HT1:=ah.mk ht1;have HB1:=ah.mk (hf1.box HB0.out hg2);have hl1:=(oM h1 hl).1
 go_wp2_with fail
 have cc:=UE B w1 g l1 HT1.out hl1;rw[h2] at cc;refine cc.mono ?_;rintro e w2 ⟨rfl,ht2,hf2⟩;have FR:=ah.mk (UK.out.trans hf2);have HT2:=ah.mk ht2;have HB2:=ah.mk (hf2.box HB1.out hg2);clear cc;have hl2:=(ME h2 hl1).1
 go_upto_region 2 with (fail)
 have hba:=(Below.refl w2.heap.size w2).alloc (Nat.le_refl _) (.cells #[.int .i64 k,.string p,.string ⟨#[]⟩,.int .i64 0,.slice none 0 0,.slice none 0 0] 29);have hbk:=bF w2 (.cells #[.int .i64 k,.string p,.string ⟨#[]⟩,.int .i64 0,.slice none 0 0,.slice none 0 0] 29)
 obtain⟨w3,afF⟩:∃w3,w2.alloc (.cells #[.int .i64 k,.string p,.string ⟨#[]⟩,.int .i64 0,.slice none 0 0,.slice none 0 0] 29)=w3:=⟨_,rfl⟩
 rw[afF] at hba hbk
 obtain⟨b3,hb3⟩:∃b3,b3=w2.heap.size:=⟨_,rfl⟩
 rw[← hb3] at hbk
 have hw3:w.heap.size≤b3:=by have:=FR.out.size;omega
 have hg3:b3≠g:=by omega
 have hB3:B≤b3:=by omega
 have QY:w.heap.size≠b3:=by have:=bG HB2.out;omega
 have ug:=ah.mk hbk;have HB3:=ah.mk (aJ HB2.out hba);have HT3:=ah.mk (HT2.out.below hba);have OC:=ah.mk (FR.out.trans (ng.below hba))
 have c3:w3.cell? ⟨b3,0,none⟩=some (.int .i64 k):=by rw[ak ug.out];rfl
 clear hba hbk;rw[afF,← hb3];clear afF hb3
 have t1:(k == 1)=false:=by rw[HKV.out];rfl
 have t3:(k == 3)=false:=by rw[HKV.out];rfl
 have t4:(k == 4)=false:=by rw[HKV.out];rfl
 go_upto_region 11 with (fail)
 go_wp2_with (first
  | (refine eX (.load 29 (.tmp 3)) rfl ?_;refine wpList_load_row rfl _ _ rfl b3 rfl 29 #[.int .i64 k,.string p,.string ⟨#[]⟩,.int .i64 0,.slice none 0 0,.slice none 0 0] (0,0) _ ug.out Tryz.underlying29 rfl aD ?_)
  | (refine eX (.store 29 (.tmp 2) (.tmp 33)) rfl ?_;refine wpList_store_row rfl 29 (.tmp 2) (.tmp 33) rfl w.heap.size #[.int .i64 k,.string p,.string ⟨#[]⟩,.int .i64 0,.slice none 0 0,.slice none 0 0] rfl rfl 29 _ HB3.out aD (by rfl) ?one ?_;(case one=>simp[Value.oneCell'])))
 refine bodyPost_ret (results_cell_row rfl _ _ w.heap.size 29 #[.int .i64 k,.string p,.string ⟨#[]⟩,.int .i64 0,.slice none 0 0,.slice none 0 0] (0,0) _ rfl (setRow_heap _ _ _ _ _ _ HB3.out) Tryz.underlying29 rfl aD) rfl ⟨rfl,HT3.out.row _ aj hg2,Ft.row OC.out (Nat.le_refl _) _⟩
theorem QZ (B:Nat) (w:World) (g:Nat) (left:List Int) (k:Int) (H:Tk B w g left) (hl:By left) {l1 l2:List Int} {p:ByteArray} (h1:wM 1 left=some (2,l1)) (hk:k=2) (h2:wH l1=some (p,l2)) :
  Calls Tryz.prog 99 #[.pointer (some ⟨g,0,none⟩),.int .i64 k] w fun e w'=>e=.returned (.agg #[.int .i64 k,.int .i64 2,.string p,.string ⟨#[]⟩,.int .i64 0,.slice none 0 0,.slice none 0 0,.slice none 0 0])∧Tk B w' g l2∧Ft g w w':=by
 have HKV:=ah.mk hk;clear hk;have hgs:=H.lt;have hBs:B≤w.heap.size:=Nat.le_of_lt (Nat.lt_of_le_of_lt H.1 hgs)
 have hg2:w.heap.size≠g:=by omega
 go_enter Tryz.func99,Tryz.ntmps99
 go_upto_region 2 with (fail)
 have hb0:=(Below.refl w.heap.size w).alloc (Nat.le_refl _) (.cells #[.int .i64 0,.int .i64 0,.string ⟨#[]⟩,.string ⟨#[]⟩,.int .i64 0,.slice none 0 0,.slice none 0 0,.slice none 0 0] 31);have hbk:=bF w (.cells #[.int .i64 0,.int .i64 0,.string ⟨#[]⟩,.string ⟨#[]⟩,.int .i64 0,.slice none 0 0,.slice none 0 0,.slice none 0 0] 31)
 obtain⟨w0,hw0⟩:∃w0,w.alloc (.cells #[.int .i64 0,.int .i64 0,.string ⟨#[]⟩,.string ⟨#[]⟩,.int .i64 0,.slice none 0 0,.slice none 0 0,.slice none 0 0] 31)=w0:=⟨_,rfl⟩
 rw[hw0] at hb0 hbk ⊢;have hba:=(Below.refl w0.heap.size w0).alloc (Nat.le_refl _) (.cells #[.int .i64 k,.int .i64 0,.string ⟨#[]⟩,.string ⟨#[]⟩,.int .i64 0,.slice none 0 0,.slice none 0 0,.slice none 0 0] 31);have hbx:=bF w0 (.cells #[.int .i64 k,.int .i64 0,.string ⟨#[]⟩,.string ⟨#[]⟩,.int .i64 0,.slice none 0 0,.slice none 0 0,.slice none 0 0] 31)
 obtain⟨w1,hw1⟩:∃w1,w0.alloc (.cells #[.int .i64 k,.int .i64 0,.string ⟨#[]⟩,.string ⟨#[]⟩,.int .i64 0,.slice none 0 0,.slice none 0 0,.slice none 0 0] 31)=w1:=⟨_,rfl⟩
 have hz0:w0.heap.size=w.heap.size+1:=by rw[← hw0];simp
 rw[hw1] at hba hbx ⊢;rw[hz0] at hbx
 obtain⟨b3,hb3⟩:∃b3,b3=w.heap.size+1:=⟨_,rfl⟩
 rw[← hb3] at hbx ⊢
 have hw3:w.heap.size≤b3:=by omega
 have hg3:b3≠g:=by omega
 have hB3:B≤b3:=by omega
 have QY:w.heap.size≠b3:=by omega
 have jH:=ah.mk hbx;have HB1:=ah.mk (aJ hbk hba);have HT1:=ah.mk ((H.below hb0).below hba);have UK:=ah.mk ((show Ft g w w0 from ng.below hb0).trans (ng.below hba));clear hb0 hbk hba hbx H hw0 hw1 hz0 hb3
 have t1:(k == 1)=false:=by rw[HKV.out];rfl
 have t2:(k == 2)=true:=by rw[HKV.out];rfl
 go_wp2_with fail
 have cc:=Yv B w1 g left HT1.out hl h1 rfl h2;refine cc.mono ?_;rintro e w2 ⟨rfl,ht2,hf2⟩;have FR:=ah.mk (UK.out.trans hf2);have HT2:=ah.mk ht2;have HB2:=ah.mk (hf2.box HB1.out hg2);have jG:=ah.mk (hf2.box jH.out hg3);clear cc;have z2:=bG jG.out;have aob:=ay jG.out 1;have aoc:w2.cell? ⟨b3,1,none⟩=some _:=ak jG.out 1;have aod:=ay jG.out 2;have aoe:w2.cell? ⟨b3,2,none⟩=some _:=ak jG.out 2;have aof:=ay jG.out 3;have aog:w2.cell? ⟨b3,3,none⟩=some _:=ak jG.out 3;have aoh:=ay jG.out 4;have aoi:w2.cell? ⟨b3,4,none⟩=some _:=ak jG.out 4;have aoj:=ay jG.out 5;have aok:w2.cell? ⟨b3,5,none⟩=some _:=ak jG.out 5;have aol:=ay jG.out 6;have aom:w2.cell? ⟨b3,6,none⟩=some _:=ak jG.out 6;have aiW:=gB jG.out 1 (.int .i64 2);have aiX:=gB aiW 2 (.string p);have aiY:=gB aiX 3 (.string ⟨#[]⟩);have aiZ:=gB aiY 4 (.int .i64 0);have ai0:=gB aiZ 5 (.slice none 0 0);have ai1:=gB ai0 6 (.slice none 0 0);have ug:=ah.mk (show (((((((w2).setCell ⟨b3,1,none⟩ (.int .i64 2)).setCell ⟨b3,2,none⟩ (.string p)).setCell ⟨b3,3,none⟩ (.string ⟨#[]⟩)).setCell ⟨b3,4,none⟩ (.int .i64 0)).setCell ⟨b3,5,none⟩ (.slice none 0 0)).setCell ⟨b3,6,none⟩ (.slice none 0 0)).heap[b3]?=some (.cells #[.int .i64 k,.int .i64 2,.string p,.string ⟨#[]⟩,.int .i64 0,.slice none 0 0,.slice none 0 0,.slice none 0 0] 31 (0,0)) by simpa using ai1);have HB3:=ah.mk (show (((((((w2).setCell ⟨b3,1,none⟩ (.int .i64 2)).setCell ⟨b3,2,none⟩ (.string p)).setCell ⟨b3,3,none⟩ (.string ⟨#[]⟩)).setCell ⟨b3,4,none⟩ (.int .i64 0)).setCell ⟨b3,5,none⟩ (.slice none 0 0)).setCell ⟨b3,6,none⟩ (.slice none 0 0)).heap[w.heap.size]?=some (.cells #[.int .i64 0,.int .i64 0,.string ⟨#[]⟩,.string ⟨#[]⟩,.int .i64 0,.slice none 0 0,.slice none 0 0,.slice none 0 0] 31 (0,0)) from ((Below.heap_setCell ((((((w2).setCell ⟨b3,1,none⟩ (.int .i64 2)).setCell ⟨b3,2,none⟩ (.string p)).setCell ⟨b3,3,none⟩ (.string ⟨#[]⟩)).setCell ⟨b3,4,none⟩ (.int .i64 0)).setCell ⟨b3,5,none⟩ (.slice none 0 0)) ⟨b3,6,none⟩ (.slice none 0 0) _ QY).trans ((Below.heap_setCell (((((w2).setCell ⟨b3,1,none⟩ (.int .i64 2)).setCell ⟨b3,2,none⟩ (.string p)).setCell ⟨b3,3,none⟩ (.string ⟨#[]⟩)).setCell ⟨b3,4,none⟩ (.int .i64 0)) ⟨b3,5,none⟩ (.slice none 0 0) _ QY).trans ((Below.heap_setCell ((((w2).setCell ⟨b3,1,none⟩ (.int .i64 2)).setCell ⟨b3,2,none⟩ (.string p)).setCell ⟨b3,3,none⟩ (.string ⟨#[]⟩)) ⟨b3,4,none⟩ (.int .i64 0) _ QY).trans ((Below.heap_setCell (((w2).setCell ⟨b3,1,none⟩ (.int .i64 2)).setCell ⟨b3,2,none⟩ (.string p)) ⟨b3,3,none⟩ (.string ⟨#[]⟩) _ QY).trans ((Below.heap_setCell ((w2).setCell ⟨b3,1,none⟩ (.int .i64 2)) ⟨b3,2,none⟩ (.string p) _ QY).trans ((Below.heap_setCell (w2) ⟨b3,1,none⟩ (.int .i64 2) _ QY).trans HB2.out)))))));have HT3:=ah.mk ((((((HT2.out.set (.int .i64 2) (j:=1) hB3 hg3).set (.string p) (j:=2) hB3 hg3).set (.string ⟨#[]⟩) (j:=3) hB3 hg3).set (.int .i64 0) (j:=4) hB3 hg3).set (.slice none 0 0) (j:=5) hB3 hg3).set (.slice none 0 0) (j:=6) hB3 hg3);have OC:=ah.mk (Ft.set (Ft.set (Ft.set (Ft.set (Ft.set (Ft.set FR.out hw3 1 (.int .i64 2)) hw3 2 (.string p)) hw3 3 (.string ⟨#[]⟩)) hw3 4 (.int .i64 0)) hw3 5 (.slice none 0 0)) hw3 6 (.slice none 0 0))
 obtain⟨w3,hw3⟩:∃w3,((((((w2).setCell ⟨b3,1,none⟩ (.int .i64 2)).setCell ⟨b3,2,none⟩ (.string p)).setCell ⟨b3,3,none⟩ (.string ⟨#[]⟩)).setCell ⟨b3,4,none⟩ (.int .i64 0)).setCell ⟨b3,5,none⟩ (.slice none 0 0)).setCell ⟨b3,6,none⟩ (.slice none 0 0)=w3:=⟨_,rfl⟩
 rw[hw3] at ug HB3 HT3 OC;clear aiW aiX aiY aiZ ai0 ai1
 go_upto_region 14 with (fail)
 try rw[hw3]
 clear hw3 z2 aob aoc aod aoe aof aog aoh aoi aoj aok aol aom
 go_wp2_with (first
  | (refine eX (.load 31 (.tmp 5)) rfl ?_;refine wpList_load_row rfl _ _ rfl b3 rfl 31 #[.int .i64 k,.int .i64 2,.string p,.string ⟨#[]⟩,.int .i64 0,.slice none 0 0,.slice none 0 0,.slice none 0 0] (0,0) _ ug.out Tryz.underlying31 rfl aD ?_)
  | (refine eX (.store 31 (.tmp 4) (.tmp 49)) rfl ?_;refine wpList_store_row rfl 31 (.tmp 4) (.tmp 49) rfl w.heap.size #[.int .i64 k,.int .i64 2,.string p,.string ⟨#[]⟩,.int .i64 0,.slice none 0 0,.slice none 0 0,.slice none 0 0] rfl rfl 31 _ HB3.out aD (by rfl) ?one ?_;(case one=>simp[Value.oneCell'])))
 refine bodyPost_ret (results_cell_row rfl _ _ w.heap.size 31 #[.int .i64 k,.int .i64 2,.string p,.string ⟨#[]⟩,.int .i64 0,.slice none 0 0,.slice none 0 0,.slice none 0 0] (0,0) _ rfl (setRow_heap _ _ _ _ _ _ HB3.out) Tryz.underlying31 rfl aD) rfl ⟨rfl,HT3.out.row _ aj hg2,Ft.row OC.out (Nat.le_refl _) _⟩
theorem Vq (A0:Option Addr) (c0:Nat) (left:List Int) (w:World) (hr:Kd.C (Kd.int .u8) w A0 left.length left) (hc:left.length≤c0) (hl:By left) {m l1 l2 l3 l4 l5 l6 l7 x7:List Int} {b gg k:Int} {p:ByteArray} {o:Option (Int × Int × List sF)} (h2:wY 8 left=some (m,l1)) (hmc:m=kg) (h3:wM 4 l1=some (b,l2)) (h4:wM 4 l2=some (gg,l3)) (h6:wM 1 l3=some (k,l4)) (hk:k=2) (hi:wM 1 l4=some (2,l5)) (ht:wH l5=some (p,l6)) (h12:wM 1 l6=some (0,l7)) (h7:wY 8 l7=some (x7,[])) (ho:o=some (b,gg,[wu 2 p])) :
  Calls Tryz.prog 61 #[.slice A0 left.length c0] w fun e w'=>ZA w o e w':=by
 have HKV:=ah.mk hk;clear hk
 have hmf:∀(fn:Fn) (first cap:Array Value) (w:World),(Instr.makeFunc fn first cap).run Tryz.prog w=.ok (.func fn first cap) w:=fun _ _ _ _=>rfl
 have hlow:left≠[]→∀ad,A0=some ad→ad.block<w.heap.size:=fun hne ad he=>by
  have hn:0<left.length:=List.length_pos_iff.2 hne;obtain⟨EC,h2,hcell⟩:=Kd.gZ hr 0 aj aj;rw[he] at h2;cases h2;have:=World.block_lt_of_cell? w _ hcell
  rwa [add_block] at this
 have hb0:=(Below.refl w.heap.size w).alloc (Nat.le_refl _) (.cells uq 24);have hb1:=hb0.alloc bB (.cells #[.bool false] 4);have hb2:=hb1.alloc (by simp;omega) (.cells #[.slice A0 left.length c0] 145);have k0:(((w.alloc (.cells uq 24)).alloc (.cells #[.bool false] 4)).alloc (.cells #[.slice A0 left.length c0] 145)).heap[w.heap.size]?=some (.cells uq 24 (0,0)):=aN (aN (bF _ _) _) _;have k1:(((w.alloc (.cells uq 24)).alloc (.cells #[.bool false] 4)).alloc (.cells #[.slice A0 left.length c0] 145)).heap[w.heap.size+1]?=some (.cells #[.bool false] 4 (0,0)):=aN (lV bB _) _;have k2:(((w.alloc (.cells uq 24)).alloc (.cells #[.bool false] 4)).alloc (.cells #[.slice A0 left.length c0] 145)).heap[w.heap.size+1+1]?=some (.cells #[.slice A0 left.length c0] 145 (0,0)):=lV bB _;have HR:=ah.mk hr;have HLW:=ah.mk hlow;unfold uq at hb0 hb1 hb2 k0 k1 k2;have HB:=ah.mk hb2;have ZH:=ah.mk k0;have jH:=ah.mk k1;have jG:=ah.mk k2;clear hr hlow hb0 hb1 hb2 k0 k1 k2
 go_enter_defers Tryz.func61,Tryz.ntmps61
 refine Code.wp_mono (fun e a w' h=>ZB e a w' h) ?_
 go_upto_region 3 with (fail)
 obtain⟨w1,hw1⟩:∃w1,((w.alloc (.cells #[.int .i64 0,.int .i64 0,.slice none 0 0] 24)).alloc (.cells #[.bool false] 4)).alloc (.cells #[.slice A0 left.length c0] 145)=w1:=⟨_,rfl⟩
 rw[hw1] at HB ZH jH jG ⊢;have HT1:=ah.mk (show Tk w.heap.size w1 (w.heap.size+1+1) left from⟨by omega,A0,c0,jG.out,hc,HLW.out,Kd.aC HR.out HB.out⟩);have HJ1:=ah.mk jH.out;have HB1:=ah.mk HB.out;clear jH;have jH:=ah.mk ZH.out;clear ZH jG HR HLW hw1 HB
 have hgk:w.heap.size≠w.heap.size+1+1:=by omega
 have hgj:w.heap.size+1≠w.heap.size+1+1:=by omega
 have hgb:w.heap.size≤w.heap.size+1+1:=by omega
 go_wp2_with fail
 refine (Db HT1.out hl h2).mono ?_;rintro e w2 ⟨A2,rfl,hc2,ht2,hf2⟩;have hstr:=Kd.nD (P:=Tryz.prog) (c:=8) (src:=27) (dst:=9) Tryz.underlying27 Tryz.underlying5 Tryz.underlying9 hc2;obtain⟨hm,hl1,hm8,hlen1⟩:=MC h2 hl
 have hms:((strOfNums m).toList == [118,108,112,97,116,99,104,1])=decide (m=kg):=by rw[← O6];exact uM hm.2 aH
 have HT2:=ah.mk ht2;have HB2:=ah.mk (zM HB1.out hf2 hgb);have jG:=ah.mk (hf2.box jH.out hgk);have HJ2:=ah.mk (hf2.box HJ1.out hgj);clear ht2 hf2;rw[decide_eq_true hmc] at hms;clear hc2 hm hm8 hmc
 go_wp2_with fail
 refine (uo HT2.out aH hl1 h3).mono ?_;rintro e w3 ⟨rfl,ht3,hf3⟩;have HT3:=ah.mk ht3;have HB3:=ah.mk (zM HB2.out hf3 hgb);have ug:=ah.mk (hf3.box jG.out hgk);have HJ3:=ah.mk (hf3.box HJ2.out hgj);clear ht3 hf3;have hl2:=(oM h3 hl1).1;have nl2:=(oM h3 hl1).2
 go_wp2_with fail
 refine (uo HT3.out aH hl2 h4).mono ?_;rintro e w4 ⟨rfl,ht4,E8⟩;have HT4:=ah.mk ht4;have iM:=ah.mk (zM HB3.out E8 hgb);have Fa:=ah.mk (E8.box ug.out hgk);have HJ4:=ah.mk (E8.box HJ3.out hgj);clear ht4 E8;have hl3:=(oM h4 hl2).1;have nl3:=(oM h4 hl2).2;have z4:=bG Fa.out;have f40:=ay Fa.out 0;have f41:=ay Fa.out 1;have y40:w4.cell? ⟨w.heap.size,0,none⟩=some _:=ak Fa.out 0;have y41:w4.cell? ⟨w.heap.size,1,none⟩=some _:=ak Fa.out 1;have s0:=gB Fa.out 0 (.int .i64 b);have s1:=gB s0 1 (.int .i64 gg)
 obtain⟨w5,Pn⟩:∃w5,(w4.setCell ⟨w.heap.size,0,none⟩ (.int .i64 b)).setCell ⟨w.heap.size,1,none⟩ (.int .i64 gg)=w5:=⟨_,rfl⟩
 have KC:=ah.mk (show w5.heap[w.heap.size]?=some (.cells #[.int .i64 b,.int .i64 gg,.slice none 0 0] 24 (0,0)) by rw[← Pn];simpa using s1);have HJ5:=ah.mk (show w5.heap[w.heap.size+1]?=some (.cells #[.bool false] 4 (0,0)) by rw[← Pn];exact ((Below.heap_setCell _ ⟨w.heap.size,1,none⟩ _ _ (by show w.heap.size+1≠w.heap.size;omega)).trans (Below.heap_setCell _ ⟨w.heap.size,0,none⟩ _ _ (by show w.heap.size+1≠w.heap.size;omega))).trans HJ4.out);have HT5:=ah.mk (show Tk w.heap.size w5 (w.heap.size+1+1) l3 by rw[← Pn];exact (HT4.out.set _ (Nat.le_refl _) aj).set _ (Nat.le_refl _) aj);have kW:=ah.mk (show Below w.heap.size w w5 by rw[← Pn];exact (iM.out.setCell (Nat.le_refl _) _).setCell (Nat.le_refl _) _);clear s0 s1
 go_wp2_with fail
 try rw[Pn]
 clear Pn z4 f40 f41 y40 y41;refine (uo HT5.out aH hl3 h6).mono ?_;rintro e w6 ⟨rfl,ht6,MR⟩;have HT6:=ah.mk ht6;have oD:=ah.mk (zM kW.out MR hgb);have UN:=ah.mk (MR.box KC.out hgk);have HJ6:=ah.mk (MR.box HJ5.out hgj);clear ht6 MR;have hl4:=(oM h6 hl3).1;have nl4:=(oM h6 hl3).2;have hl5:=(oM hi hl4).1;have ML:=(ME ht hl5).1;have hl7:=(oM h12 ML).1;have HO:=ah.mk ho
 have qI:ah (Kd.R EA 31 w6 w.heap.size (fun _=>True) (.slice none 0 0) []):=⟨Kd.eD _ _ _ _ _⟩
 clear ho
 go_wp2_with fail
 go_loopg [5] 3 (fun gk s5 wx=>∃(kk:Int) (rest:List Int) (acc:List sF) (v:Value),s5=.int .i64 kk∧(gk=2∧kk=0∧ah (rest=l7)∧ah (acc=[wu 2 p])∨gk=3∧kk=2∧ah (rest=l4)∧ah (acc=[]))∧ah (Kd.R EA 31 wx w.heap.size (fun _=>True) v acc)∧ah (Tk w.heap.size wx (w.heap.size+1+1) rest)∧ah (wx.heap[w.heap.size]?=some (.cells #[.int .i64 b,.int .i64 gg,v] 24 (0,0)))∧ah (wx.heap[w.heap.size+1]?=some (.cells #[.bool false] 4 (0,0)))∧ah (Below w.heap.size w wx))
 case atStart=>exact⟨k,l4,[],.slice none 0 0,rfl,.inr ⟨rfl,HKV.out,⟨rfl⟩,⟨rfl⟩⟩,qI,HT6,UN,HJ6,oD⟩
 case round=>
  clear qI HT6 UN HJ6 oD;obtain⟨kk,rest,acc,v,rfl,hcase,HR,HT6,UN,HJ6,oD⟩:=hrel
  rcases hcase with⟨rfl,hk,nC,Zo⟩|⟨rfl,hk,nC,Zo⟩
  ·have hkb:(kk != 0)=false:=by rw[hk];rfl
   clear hk
   go_wp2_with fail
   refine (Db (nC.out▸HT6.out) hl7 h7).mono ?_;rintro e w7 ⟨A2,rfl,hc2,ht7,hf7⟩;have HR7:=ah.mk (O7 HR.out HT6.out hf7);clear hc2;have HT7:=ah.mk ht7;have CX:=ah.mk (zM oD.out hf7 hgb);have HK7:=ah.mk (hf7.box UN.out hgk);have HJ7:=ah.mk (hf7.box HJ6.out hgj);clear ht7 hf7
   go_wp2_with fail
   obtain⟨Av,cv,hv⟩:=Kd.bP HR7.out;subst hv;obtain⟨_,A7,c7,hblk7,_⟩:=id HT7.out
   obtain⟨Wd,hWd⟩:∃Wd,w7.drew=Wd:=⟨_,rfl⟩
   have hdr:=bf (Below.refl w7.heap.size w7);rw[hWd] at hdr;have HRd:=ah.mk (Kd.bO HR7.out hdr);have Q0:=ah.mk (aJ HK7.out hdr);have HJd:=ah.mk (aJ HJ7.out hdr);have HGd:=ah.mk (aJ hblk7 hdr);have HBd:=ah.mk (CX.out.trans (hdr.mono CX.out.size))
   have hS:Wd.cell? ⟨w.heap.size,0,none⟩=some (.int .i64 b)∧Wd.cell? ⟨w.heap.size,1,none⟩=some (.int .i64 gg)∧Wd.cell? ⟨w.heap.size,2,none⟩=some (.slice Av acc.length cv)∧Wd.cell? ⟨w.heap.size+1+1,0,none⟩=some (.slice A7 ([]:List Int).length c7):=⟨ak Q0.out 0,ak Q0.out 1,ak Q0.out 2,ak HGd.out 0⟩
   clear hdr hblk7;refine jJ (n:=9) (S:=fun w'=>w'.cell? ⟨w.heap.size,0,none⟩=some (.int .i64 b)∧w'.cell? ⟨w.heap.size,1,none⟩=some (.int .i64 gg)∧w'.cell? ⟨w.heap.size,2,none⟩=some (.slice Av acc.length cv)∧w'.cell? ⟨w.heap.size+1+1,0,none⟩=some (.slice A7 ([]:List Int).length c7)) (ds:=[8]) (aM 9 0) aD rfl rfl (by rw[hWd];exact hS) (fun hHeld=>?_);rw[hWd] at hHeld ⊢;clear hWd hS;refine sQ (i:=0) (N:=some 37) (v:=?_) (a':=?_) (aM 9 1) rfl rfl aD (fun _ _ _ h=>yQ.put aH aH h) (Or.inl ⟨by rfl,?_⟩) hHeld ?_ ?_;rotate_left
   ·rintro w' ⟨s1,s2,s3,s4⟩
    go_simp
    with_reducible rfl
   rotate_left
   ·simp only[Act.put,aYa,aYb,aYc,eG,fI];rfl
   refine jU (i:=1) (N:=some 38) (v:=?_) (a':=?_) (aM 9 3) rfl rfl aD (fun _ _ _ h=>yQ.put aH aH h) (Or.inl ⟨by rfl,?_⟩) ?_ ?_;rotate_left
   ·intro w'
    go_simp
    with_reducible rfl
   rotate_left
   ·simp only[Act.put,aYa,aYb,aYc,eG,fI];rfl
   refine jU (i:=2) (N:=some 39) (v:=?_) (a':=?_) (aM 9 7) rfl rfl aD (fun _ _ _ h=>yQ.put aH aH h) (Or.inl ⟨by rfl,?_⟩) ?_ ?_;rotate_left
   ·intro w'
    go_simp
    with_reducible rfl
   rotate_left
   ·simp only[Act.put,aYa,aYb,aYc,eG,fI];rfl
   refine jU (i:=3) (N:=some 40) (v:=?_) (a':=?_) (aM 9 15) rfl rfl aD (fun _ _ _ h=>yQ.put aH aH h) (Or.inl ⟨by rfl,?_⟩) ?_ ?_;rotate_left
   ·intro w'
    go_simp
    with_reducible rfl
   rotate_left
   ·simp only[Act.put,aYa,aYb,aYc,eG,fI];rfl
   refine sQ (i:=4) (N:=some 41) (v:=?_) (a':=?_) (aM 9 31) rfl rfl aD (fun _ _ _ h=>yQ.put aH aH h) (Or.inl ⟨by rfl,?_⟩) hHeld ?_ ?_;rotate_left
   ·rintro w' ⟨s1,s2,s3,s4⟩
    go_simp
    with_reducible rfl
   rotate_left
   ·simp only[Act.put,aYa,aYb,aYc,eG,fI];rfl
   refine jU (i:=5) (N:=some 42) (v:=?_) (a':=?_) (aM 9 63) rfl rfl aD (fun _ _ _ h=>yQ.put aH aH h) (Or.inl ⟨by rfl,?_⟩) ?_ ?_;rotate_left
   ·intro w'
    go_simp
    with_reducible rfl
   rotate_left
   ·simp only[Act.put,aYa,aYb,aYc,eG,fI];rfl
   refine jU (i:=6) (N:=some 43) (v:=?_) (a':=?_) (aM 9 127) rfl rfl aD (fun _ _ _ h=>yQ.put aH aH h) (Or.inl ⟨by rfl,?_⟩) ?_ ?_;rotate_left
   ·intro w'
    go_simp
    with_reducible rfl
   rotate_left
   ·simp only[Act.put,aYa,aYb,aYc,eG,fI];rfl
   refine mD 7 none (aM 9 255) (fun K hK=>?_);rw[if_pos (by rfl)];refine wp_store_row 24 (.tmp 2) (.tmp 37) rfl w.heap.size #[.int .i64 b,.int .i64 gg,.slice Av acc.length cv] rfl rfl 24 _ Q0.out aD (by rfl) (by simp[Value.oneCell']) ?_;have k8:(Wd.setRow w.heap.size #[.int .i64 b,.int .i64 gg,.slice Av acc.length cv]).heap[w.heap.size]?=some (.cells #[.int .i64 b,.int .i64 gg,.slice Av acc.length cv] 24 (0,0)):=setRow_heap _ _ _ _ _ _ Q0.out;have j8:(Wd.setRow w.heap.size #[.int .i64 b,.int .i64 gg,.slice Av acc.length cv]).heap[w.heap.size+1]?=some (.cells #[.bool false] 4 (0,0)):=(setRow_other _ _ _ _ aj).trans HJd.out;have y8:(Wd.setRow w.heap.size #[.int .i64 b,.int .i64 gg,.slice Av acc.length cv]).cell? ⟨w.heap.size+1,0,none⟩=some (.bool false):=ak j8 0;have f8:=ay j8 0;have l8:=bG j8;have HR8:=ah.mk (zK HRd.out Q0.out aH #[.int .i64 b,.int .i64 gg,.slice Av acc.length cv]);have HK8:=ah.mk k8;have HJ8:=ah.mk j8;have Ec:=ah.mk (below_setRow HBd.out (Nat.le_refl _) #[.int .i64 b,.int .i64 gg,.slice Av acc.length cv]);have g8:(Wd.setRow w.heap.size #[.int .i64 b,.int .i64 gg,.slice Av acc.length cv]).cell? ⟨w.heap.size+1+1,0,none⟩=some (.slice A7 ([]:List Int).length c7):=ak ((setRow_other _ _ _ _ aj).trans HGd.out) 0;refine hK.out _ _ ⟨ak k8 0,ak k8 1,ak k8 2,g8⟩ (fun hHeld=>?_);clear hK K hHeld k8 j8 g8;refine kX (i:=8) (N:=none) (aM 9 511) rfl rfl aD aH (fun K hK=>?_);refine rG (w1:=(Wd.setRow w.heap.size #[.int .i64 b,.int .i64 gg,.slice Av acc.length cv]).setCell ⟨w.heap.size+1,0,none⟩ (.bool ((([]:List Int).length:Int) == 0))) (by rfl) rfl ?_ ?_
   ·go_simp
    try rfl
   refine hK.out _ _ ?_;clear hK K;refine jK aD ?_
   go_wp2_with fail
   refine⟨rfl,rfl,rfl,b,gg,.slice Av acc.length cv,acc,((([]:List Int).length:Int) == 0),(Below.heap_setCell _ ⟨w.heap.size+1,0,none⟩ _ _ (by show w.heap.size≠w.heap.size+1;omega)).trans HK8.out,by have:=gB HJ8.out 0 (.bool ((([]:List Int).length:Int) == 0));simpa using this,Kd.oK HR8.out HJ8.out aH 0 _,(by rw[HO.out,Zo.out];rfl),Ec.out.setCell (by show w.heap.size≤w.heap.size+1;omega) _⟩
  have hkb:(kk != 0)=true:=by rw[hk];rfl
  have HKK:=ah.mk hk;clear hk;have cc:=QZ w.heap.size wr.drew (w.heap.size+1+1) l4 kk (nC.out▸HT6.out.below (bf (Below.refl _ _))) hl4 hi HKK.out ht
  go_wp2_with fail
  obtain⟨Av,cv,hv⟩:=Kd.bP HR.out;subst hv
  obtain⟨Wd,hWd⟩:∃Wd,wr.drew=Wd:=⟨_,rfl⟩
  have hdr:=bf (Below.refl wr.heap.size wr);rw[hWd] at hdr cc;have HRd:=ah.mk (Kd.bO HR.out hdr);have HTd:=ah.mk (HT6.out.below hdr);have Q0:=ah.mk (aJ UN.out hdr);have HJd:=ah.mk (aJ HJ6.out hdr);have HBd:=ah.mk (oD.out.trans (hdr.mono oD.out.size));have hS:Wd.cell? ⟨w.heap.size,2,none⟩=some (.slice Av acc.length cv):=ak Q0.out 2;clear hdr;refine jJ (n:=9) (S:=fun w'=>w'.cell? ⟨w.heap.size,2,none⟩=some (.slice Av acc.length cv)) (ds:=[6,8]) (aM 9 0) aD rfl rfl (by rw[hWd];exact hS) (fun hHeld=>?_);rw[hWd] at hHeld ⊢;clear hWd hS;refine jU (i:=0) (N:=some 27) (v:=?_) (a':=?_) (aM 9 1) rfl rfl aD (fun _ _ _ h=>yQ.put aH aH h) (Or.inl ⟨by rfl,?_⟩) ?_ ?_;rotate_left
  ·intro w'
   go_simp
   with_reducible rfl
  rotate_left
  ·simp only[Act.put,aYa,aYb,aYc,eG,fI];rfl
  refine sQ (i:=1) (N:=some 28) (v:=?_) (a':=?_) (aM 9 3) rfl rfl aD (fun _ _ _ h=>yQ.put aH aH h) (Or.inl ⟨by rfl,?_⟩) hHeld ?_ ?_;rotate_left
  ·rintro w' s1
   go_simp
   with_reducible rfl
  rotate_left
  ·simp only[Act.put,aYa,aYb,aYc,eG,fI];rfl
  refine jU (i:=2) (N:=some 29) (v:=?_) (a':=?_) (aM 9 7) rfl rfl aD (fun _ _ _ h=>yQ.put aH aH h) (Or.inl ⟨by rfl,?_⟩) ?_ ?_;rotate_left
  ·intro w'
   go_simp
   with_reducible rfl
  rotate_left
  ·simp only[Act.put,aYa,aYb,aYc,eG,fI];rfl
  refine jU (i:=3) (N:=some 30) (v:=?_) (a':=?_) (aM 9 15) rfl rfl aD (fun _ _ _ h=>yQ.put aH aH h) (Or.inl ⟨by rfl,?_⟩) ?_ ?_;rotate_left
  ·intro w'
   go_simp
   with_reducible rfl
  rotate_left
  ·simp only[Act.put,aYa,aYb,aYc,eG,fI];rfl
  refine mD 4 (some 31) (aM 9 31) (fun K hK=>?_);refine ad4 Tryz.func99 aD rfl #[.pointer (some ⟨w.heap.size+1+1,0,none⟩),.int .i64 kk] (by rfl) rfl rfl ai5 ?_;refine cc.mono ?_;rintro e w9 ⟨rfl,ht9,hf9⟩;have HM9:=ah.mk (Sj w9 w.heap.size (fun k=>Wd.heap.size≤k) (wu kk p) (Kd.eD _ _ _ _ _) (Kd.eD _ _ _ _ _) (Kd.eD _ _ _ _ _));have HR9:=ah.mk (O7 HRd.out HTd.out hf9);have HT9:=ah.mk ht9;have HK9:=ah.mk (hf9.box Q0.out hgk);have HJ9:=ah.mk (hf9.box HJd.out hgj);have V4:=ah.mk (zM HBd.out hf9 hgb)
  have HOK:ah (∀k,Wd.heap.size≤k→True∧some k≠(Value.slice Av acc.length cv).ownBlock):=⟨fun k hk=>⟨trivial,fun e=>by
   obtain⟨_,inner,ho2,_⟩:=HRd.out;have:=Q5 ho2 k e.symm
   omega⟩⟩
  refine .inl ⟨_,rfl,hK.out _ _ (ak HK9.out 2) (fun hHeld=>?_)⟩;clear hK K ht9 hf9 cc HRd HTd Q0 HJd HBd;refine fH 31 ?_;refine mD 5 (some 32) (aM 9 63) (fun K hK=>?_);refine pW (v:=.slice (some ⟨w9.heap.size,0,none⟩) 1 1) (w1:=w9.alloc (.cells #[.int .i64 kk,.int .i64 2,.string p,.string ⟨#[]⟩,.int .i64 0,.slice none 0 0,.slice none 0 0,.slice none 0 0] 31)) (by rfl) rfl ?_ ?_
  ·go_simp
   try rfl
  have hal:=(Below.refl w9.heap.size w9).alloc (Nat.le_refl _) (.cells #[.int .i64 kk,.int .i64 2,.string p,.string ⟨#[]⟩,.int .i64 0,.slice none 0 0,.slice none 0 0,.slice none 0 0] 31);refine hK.out _ _ (au hal hHeld) (fun hHeld=>?_);clear hK K hal;refine fH 32 ?_;refine kX (i:=6) (N:=some 33) (aM 9 127) rfl rfl aD aH (fun K hK=>?_);refine Kd.gU EA (w0:=w9) w.heap.size (by rfl) (.tmp 28) (.tmp 32) 22 31 (.agg #[.int .i64 0,.int .i64 0,.string ⟨#[]⟩,.string ⟨#[]⟩,.int .i64 0,.slice none 0 0,.slice none 0 0,.slice none 0 0]) 128 rfl Tryz.underlying22 tX rfl (by show 0<8;decide) aH (.slice Av acc.length cv) acc (wu kk p) [.int .i64 kk,.int .i64 2,.string p,.string ⟨#[]⟩,.int .i64 0,.slice none 0 0,.slice none 0 0,.slice none 0 0] (fun _=>True) (fun k=>Wd.heap.size≤k) rfl rfl HM9.out HOK.out (fun _ _=>trivial) HR9.out ((Below.refl _ _).mono V4.out.size) V4.out.size (by rw[Zo.out];decide) ?_;intro v1 Fh hr1 _hb hg1 qd;obtain⟨wP,wQ,hv1⟩:=Kd.bP hr1;subst hv1
  have hne:=fun k (hk:(Value.slice Av acc.length cv).ownBlock=some k)=>(show w.heap.size≤k∧k≠w.heap.size+1+1 from by
   obtain⟨_,inner,ho2,_⟩:=HR9.out;refine⟨pO ho2 k hk,fun e=>?_⟩;obtain⟨_,At,ct,hblk,_⟩:=HT9.out
   exact Kd.uW HR9.out hblk aH (by rw[← e];exact hk.symm))
  have hk10:Fh.heap[w.heap.size]?=some (.cells #[.int .i64 b,.int .i64 gg,.slice Av acc.length cv] 24 (0,0)):=(hg1.block _ (bG HK9.out) (Kd.uW HR9.out HK9.out aH)).trans HK9.out;have ai7:Fh.heap[w.heap.size+1]?=some (.cells #[.bool false] 4 (0,0)):=(hg1.block _ (bG HJ9.out) (Kd.uW HR9.out HJ9.out aH)).trans HJ9.out;have QU:Fh.cell? ⟨w.heap.size,2,none⟩=some (.slice Av acc.length cv):=ak hk10 2;have f10:=ay hk10 2;have l10:=bG hk10;have ai8:=ah.mk (show (Fh.setCell ⟨w.heap.size,2,none⟩ (.slice wP (acc++[wu kk p]).length wQ)).heap[w.heap.size]?=some (.cells #[.int .i64 b,.int .i64 gg,.slice wP (acc++[wu kk p]).length wQ] 24 (0,0)) by have:=gB hk10 2 (.slice wP (acc++[wu kk p]).length wQ);simpa using this);have ai9:=ah.mk (show (Fh.setCell ⟨w.heap.size,2,none⟩ (.slice wP (acc++[wu kk p]).length wQ)).heap[w.heap.size+1]?=some (.cells #[.bool false] 4 (0,0)) from (Below.heap_setCell _ ⟨w.heap.size,2,none⟩ _ _ (by show w.heap.size+1≠w.heap.size;omega)).trans ai7);have afI:=ah.mk ((HT9.out.grow hg1 hne).set (j:=2) (.slice wP (acc++[wu kk p]).length wQ) (b:=w.heap.size) (Nat.le_refl _) hgk);have aa2:=ah.mk ((V4.out.grown hg1 V4.out.size (fun k e=>(hne k e).1)).setCell (p:=⟨w.heap.size,2,none⟩) (Nat.le_refl _) (.slice wP (acc++[wu kk p]).length wQ));have aa3:=ah.mk (Kd.oK hr1 hk10 aH 2 (.slice wP (acc++[wu kk p]).length wQ));clear hr1 _hb hg1 qd hk10 ai7 hne;refine hK.out _ _ ?_;clear hK K hHeld;refine fH 33 ?_;refine jU (i:=7) (N:=some 34) (v:=?_) (a':=?_) (aM 9 255) rfl rfl aD (fun _ _ _ h=>yQ.put aH aH h) (Or.inl ⟨by rfl,?_⟩) ?_ ?_;rotate_left
  ·intro w'
   go_simp
   with_reducible rfl
  rotate_left
  ·simp only[Act.put,aYa,aYb,aYc,eG,fI];rfl
  refine kX (i:=8) (N:=none) (aM 9 511) rfl rfl aD aH (fun K hK=>?_);refine rG (w1:=Fh.setCell ⟨w.heap.size,2,none⟩ (.slice wP (acc++[wu kk p]).length wQ)) (by rfl) rfl ?_ ?_
  ·go_simp
  refine hK.out _ _ ?_;clear hK K;refine jK aD ?_
  obtain⟨Dq,aja⟩:∃Dq,Fh.setCell ⟨w.heap.size,2,none⟩ (.slice wP (acc++[wu kk p]).length wQ)=Dq:=⟨_,rfl⟩
  rw[aja] at ai8 ai9 afI aa2 aa3 ⊢;clear aja QU f10 l10 HM9 HR9 HT9 HK9 HJ9 V4 HOK
  go_wp2_with fail
  refine (uo afI.out aH ML h12).mono ?_;rintro e PS ⟨rfl,ajb,Yw⟩;have aoo:=ah.mk (O7 aa3.out afI.out Yw);have aop:=ah.mk ajb;have aoq:=ah.mk (zM aa2.out Yw hgb);have aor:=ah.mk (Yw.box ai8.out hgk);have aos:=ah.mk (Yw.box ai9.out hgj);clear ajb Yw
  go_wp2_with fail
  go_roundg 2
  case measure=>omega
  case rel=>exact⟨0,l7,acc++[wu kk p],_,rfl,.inl ⟨rfl,rfl,⟨rfl⟩,⟨by rw[Zo.out,HKK.out];rfl⟩⟩,aoo,aop,aor,aos,aoq⟩
theorem H8 {P:Program} {n:Nat} {f:FuncId} {fn:Func} {c:Code} {args:Array Value} {u:FrameMode} {w:World} {R:Ending→FrameMode→World→Prop}
  (hf:P.funcs[f]?=some fn) (hb:fn.body=some c)
  (h:∀(c₀:Frame) (cs:List Frame),c₀.mode=u →
   c.wpS P (bodyPostS P fn c₀ cs R) { tmps:=args++Array.replicate (fn.ntmps - args.size) undef,defers:=[] } (c₀::cs) w) :
  CallsDIn Fence.wide n P f args u w R:=by
 refine⟨trivial,fun c₀ cs hu _=>?_⟩
 let b:Frame:={ (default:Frame) with fn:=f,kind:=.deferred }
 have henter:Frame.enter P f args .deferred =
   b.at { tmps:=args++Array.replicate (fn.ntmps - args.size) undef,defers:=[] } [.code c]:=by
  simp[Frame.enter,Frame.at,hf,hb,b]
 obtain⟨e,a',cs',w',hq,harr⟩:=h c₀ cs hu b [] rfl rfl;rw[← henter] at harr
 cases e with
 | normal=>
  obtain⟨hd,u',rfl,v,hr,hR⟩:=hq;exact⟨.returned v,u',w',_,hR,comesIn_wide.2 (Steps.trans harr (.one step_end)),rfl,rfl,rfl,hd,fn,hf,hr⟩
 | ret=>
  obtain⟨hd,u',rfl,v,hr,hR⟩:=hq;obtain⟨todo,hs⟩:=harr;exact⟨.returned v,u',w',_,hR,comesIn_wide.2 hs,rfl,rfl,rfl,hd,fn,hf,hr⟩
 | panic chain=>
  obtain⟨hd,u',rfl,hR⟩:=hq;obtain⟨todo,hs⟩:=harr;exact⟨.panicked chain,u',w',_,hR,comesIn_wide.2 hs,rfl,rfl,rfl,hd,fn,hf⟩
 | exit id=>exact hq.elim
 | goto l=>exact hq.elim
 | outgrown=>
  obtain⟨u',hR⟩:=hq;exact⟨.outgrown,u',w',b,hR,comesIn_wide.2 (harr.resolve_left (by simp[b])),rfl,rfl,trivial⟩
theorem Lx {P:Program} {n:Nat} {f:FuncId} {args:Array Value} {u:FrameMode} {w:World} {R R':Ending→FrameMode→World→Prop} (h:CallsDIn Fence.wide n P f args u w R) (hr:∀e u w,R e u w→R' e u w):CallsDIn Fence.wide n P f args u w R' :=
 ⟨h.1,fun c cs hu hro=>let ⟨e,u',w',fr,h1,h2⟩:=h.2 c cs hu hro;⟨e,u',w',fr,hr _ _ _ h1,h2⟩⟩
theorem Vr {P:Program} {B:FuncId→Prop} {Q:Exit→Act→World→Prop} {a:Act} {w:World} {id:Nat} {c:Code} (h:Zm B P c (Exit.inBlock id Q) a w):Zm B P (Code.block id c) Q a w:=by
 intro b k cs hro hb;have h0:(lone (b.atR a (.code (.block id c)::k)) cs w).fenced P Fence.wide:=fenced_wide _ _;obtain⟨e,a₁,w₁,hq,harr⟩:=h b (.inBlock id::k) cs hro hb
 cases e with
 | normal=>exact⟨.normal,a₁,w₁,hq,.head h0 stepR_block (StepsIn.trans harr (.one (fenced_wide _ _) stepR_inBlock))⟩
 | exit id'=>
  by_cases hid:id'=id
  ·simp only[Exit.inBlock,hid,if_true] at hq;exact⟨.normal,a₁,w₁,hq,.head h0 stepR_block (harr.1 k (by simp[exitTo,hid]))⟩
  simp only[Exit.inBlock,hid,if_false] at hq
  have this:(id == id')=false:=by simp;exact fun h=>hid h.symm
  have hx:exitTo id' (.inBlock id::k)=exitTo id' k:=by simp[exitTo,this]
  exact⟨.exit id',a₁,w₁,hq,fun k' hk=>.head h0 stepR_block (harr.1 k' (by rw[hx];exact hk)),
   fun hr' hk=>let ⟨k₁,h1,h2⟩:=harr.2 hr' (by rw[hx];exact hk);⟨k₁,h1,.head h0 stepR_block h2⟩⟩
 | goto l=>
  have hx:gotoIn l (.inBlock id::k)=gotoIn l k:=by simp[gotoIn]
  exact⟨_,a₁,w₁,hq,fun k' hk=>.head h0 stepR_block (harr.1 k' (by rw[hx];exact hk)),
   fun hr' hk=>let ⟨k₁,h1,h2⟩:=harr.2 hr' (by rw[hx];exact hk);⟨k₁,h1,.head h0 stepR_block h2⟩⟩
 | ret=>exact⟨_,a₁,w₁,hq,.of_steps (.one h0 stepR_block) harr⟩
 | panic ch=>exact⟨_,a₁,w₁,hq,.of_steps (.one h0 stepR_block) harr⟩
 | outgrown=>exact⟨_,a₁,w₁,hq,.of_steps (.one h0 stepR_block) harr⟩
theorem Yx (n pp pb:Nat) (w:World) :
  CallsDIn Fence.wide n Tryz.prog 121 #[.pointer (some ⟨pp,0,none⟩),.pointer (some ⟨pb,0,none⟩)] .returning w fun e u' w'=>e=.returned (.tuple #[])∧u'=.returning∧w'=w:=by
 refine H8 Tryz.func121 rfl fun c₀ cs hu=>?_
 apply wpS_seq;apply wpS_region;simp[wpOpsS,go_sem,recoverD,hu,Tryz.ntmps121,Exit.thenS];refine wpS_of_wp ?_;simp only[Nat.reduceSub,Nat.reduceAdd,Array.replicate_succ,Array.replicate_zero,List.push_toArray,List.append_toArray,List.nil_append,List.cons_append,aYa,aYb,aYc];refine Code.wp_mono (Q:=fun e a' w'=>e=.normal∧a'.defers=[]∧w'=w) ?_ ?_;rotate_left
 ·go_wp2
 rintro e a' w' ⟨rfl,hd,rfl⟩;refine⟨hd,.returning,?_,_,results_none rfl _ _ _,rfl,rfl,rfl⟩;cases c₀;cases hu;rfl
end Go.Proofs.YtknihldkhedpkaaGreatDoor
end
section
namespace Go.Proofs.YtknihldkhedpkaaGreatDoor
open Go.RowKit
section
variable {P : Program}
theorem xS {ops:Array Oper} {Q:Exit→Act→World→Prop} {l n:Nat} (hQ:¬LetsOut Q):∀(rest:List Oper) (a:Act) (w:World),(∀o∈rest,∀c,o.op≠.defer c)→wpList P ops Q rest a w→wpListIn (Fence.wide.inRound l) n P ops Q rest a w
 | [],a,w,_,h=>h
 | o::rest,a,w,hd,h=>by
  have ih:=fun a w=>xS (l:=l) (n:=n) (ops:=ops) hQ rest a w (fun o ho=>hd o (List.mem_cons_of_mem _ ho))
  rw[wpList] at h;rw[wpListIn];by_cases hw:Region.wanted o (yielded ops a.tmps)=true
  ·rw[if_pos hw] at h ⊢
   rcases h with h|h
   ·refine⟨fun _ _=>trivial,?_⟩;rw[Oper.semAt_eq _ _ _ (hd o List.mem_cons_self)];exact wZ ih h
   exact absurd h.2 hQ
  rw[if_neg hw] at h ⊢;exact⟨fun _ _=>trivial,ih _ _ h⟩
theorem Co {id:Nat} {Q:Exit→Act→World→Prop} {a:Act} {w:World} {ls:List Oper} {l n:Nat} (hd:E5 ls=true) (hQ:¬LetsOut Q)
  (h:wpList P ls.toArray Q ls a w):(Code.region id ls.toArray false).wpIn (Fence.wide.inRound l) n P Q a w:=by
 refine wpIn_region_list (xS hQ _ a w ?_ (by simpa using h));intro o ho;exact xg hd o (by simpa using ho)
end
end Go.Proofs.YtknihldkhedpkaaGreatDoor
end
section
namespace Go.Proofs.YtknihldkhedpkaaGreatDoor.PT
open Go.RowKit Go.Proofs.YtknihldkhedpkaaGreatDoor Go.Proofs.YtknihldkhedpkaaGreatDoorW.PrintWords Go.Proofs.YtknihldkhedpkaaGreatDoorW.PrintLast Go.Proofs.YtknihldkhedpkaaGreatDoorW.PrintMore
attribute [local go_sem] kI kJ mI mJ jE jF kK kL
def iA.f (dB:Int) (dA:ByteArray) (dH:ByteArray) (dz:Int) (cB:List (dh)) (cO:List Int):Option (Int × ByteArray × ByteArray × Int × (List (dh)) × List Int):=(oq.f cB).bind fun DW=>((kY.f cO).bind fun DX=>(some (dB,dA,dH,dz,DW,DX)))
def iA.T1:Bool × List (List Nat × List Nat):=(true,[([],[]),([0],[0]),([1],[1]),([],[]),([3],[3]),([4,2],[4]),([0,1,2,3,4],[]),([6,2,5,0,1,2,3,4],[2,6]),([0,1,2,3,4,5,6,7],[]),([8,5,7,0,1,2,3,4,5,6,7],[5,8])])
def iA.B1:List Nat:=[0,1,3,0,8,31,31,127,255,511]
theorem iA.aot:sG .any (opsOf Tryz.f122 1)=iA.T1:=by kernel_rfl
theorem iA.ajc:yj iA.T1.2 iA.B1=true:=by kernel_rfl
theorem iA.calls (dB:Int) (dA:ByteArray) (dH:ByteArray) (dz:Int) (iE:Option Addr) (fE:Nat) (cB:List (dh)) (eY:Option Addr) (eU:Nat) (cO:List Int) (r1:Int) (r2:ByteArray) (r3:ByteArray) (r4:Int) (r5:List (dh)) (r6:List Int) (w:World) (rQ:Kd.C dw w iE cB.length cB) (uF:cB.length≤fE) (sP:Kd.C (Kd.int .u8) w eY cO.length cO) (wJ:cO.length≤eU) (h:iA.f dB dA dH dz cB cO=some (r1,r2,r3,r4,r5,r6)) :
  Calls Tryz.prog 122 #[.agg #[.int .i64 dB,.string dA,.string dH,.int .i64 dz,.slice iE cB.length fE,.slice eY cO.length eU]] w fun e w'=>∃v4_ v5_:Value,e=.returned (.agg #[.int .i64 r1,.string r2,.string r3,.int .i64 r4,v4_,v5_])∧Kd.R dw 117 w' w.heap.size (fun _=>True) v4_ r5∧Kd.R (Kd.int .u8) 5 w' w.heap.size (fun _=>True) v5_ r6∧Below w.heap.size w w':=by
 have UU:=Tryz.underlying29;have xE:=ah.mk rQ;have JB:=ah.mk uF;clear rQ uF;have Eh:=ah.mk sP;have JC:=ah.mk wJ;clear sP wJ;have HB:=ah.mk (Below.refl w.heap.size w);have H:((oq.f cB).bind fun DW=>((kY.f cO).bind fun DX=>(some (dB,dA,dH,dz,DW,DX))))=some (r1,r2,r3,r4,r5,r6):=h;clear h;replace H:=Option.bind_eq_some_iff.mp H;obtain⟨DW,WM,H⟩:=H;replace H:((kY.f cO).bind fun DX=>(some (dB,dA,dH,dz,DW,DX)))=some (r1,r2,r3,r4,r5,r6):=H;have A2:=ah.mk WM;clear WM;replace H:=Option.bind_eq_some_iff.mp H;obtain⟨DX,SA,H⟩:=H;replace H:(some (dB,dA,dH,dz,DW,DX))=some (r1,r2,r3,r4,r5,r6):=H;have A3:=ah.mk SA;clear SA;simp only[Option.some.injEq,Prod.mk.injEq] at H;obtain⟨rfl,rfl,rfl,rfl,rfl,rfl⟩:=H
 go_enter Tryz.func122,Tryz.ntmps122
 try go_wp2_with (first|((with_reducible refine jo (N:=1) rfl ?_);refine iZ ?hg (N:=1) ?hd (cs:=#[.int .i64 dB,.string dA,.string dH,.int .i64 dz,.slice iE cB.length fE,.slice eY cO.length eU]) (t:=29) ?hr ?_;(case hd=>rfl);(case hg=>rfl);(case hr=>first|(go_simp;done)|(go_simp;rfl));intro kR hg w4 gN hb;have dM:=ah.mk (bM dG hb);have dU:=ah.mk (gN);have eF:=ah.mk ((by rw[hg];exact (bH dG):w.heap.size≤kR));have mX:=ah.mk ((by rw[hg];exact (bH dG):w.heap.size≤kR));clear HB;have HB:=dM;have eZ:=dU;have aqv:=eF;have Es:=mX;clear dM dU eF mX;clear hb gN hg)|((with_reducible refine jo (N:=2) rfl ?_);refine iZ ?hg (N:=2) ?hd (cs:=#[.int .i64 0,.string (⟨#[]⟩:ByteArray),.string (⟨#[]⟩:ByteArray),.int .i64 0,.slice none 0 0,.slice none 0 0]) (t:=29) ?hr ?_;(case hd=>rfl);(case hg=>rfl);(case hr=>first|(go_simp;done)|(go_simp;rfl));intro lS hg w5 gN hb;have dM:=ah.mk (aJ (g:=kR) (o:=.cells #[.int .i64 dB,.string dA,.string dH,.int .i64 dz,.slice iE cB.length fE,.slice eY cO.length eU] 29 (0,0)) (by (with_reducible repeat (first|refine bD ?_ _|refine bL ?_|refine aN ?_ _));exact eZ.out) hb);have dU:=ah.mk (bM (by repeat (first|(with_reducible first|exact HB.out|apply aG|apply av|apply aK|refine aV ?_ Es.out)|exact HB.out)) hb);have eF:=ah.mk (gN);have mX:=ah.mk ((by rw[hg];exact (bH (by repeat (first|(with_reducible first|exact HB.out|apply aG|apply av|apply aK|refine aV ?_ Es.out)|exact HB.out))):w.heap.size≤lS));have uG:=ah.mk ((by rw[hg];exact (bH (by repeat (first|(with_reducible first|exact HB.out|apply aG|apply av|apply aK|refine aV ?_ Es.out)|exact HB.out))):w.heap.size≤lS));have zl:=ah.mk ((by rw[hg];exact Nat.ne_of_lt (bG (g:=kR) (o:=.cells #[.int .i64 dB,.string dA,.string dH,.int .i64 dz,.slice iE cB.length fE,.slice eY cO.length eU] 29 (0,0)) (by (with_reducible repeat (first|refine bD ?_ _|refine bL ?_|refine aN ?_ _));exact eZ.out)):kR≠lS));have Bl:=ah.mk ((by rw[hg];exact Nat.ne_of_gt (bG (g:=kR) (o:=.cells #[.int .i64 dB,.string dA,.string dH,.int .i64 dz,.slice iE cB.length fE,.slice eY cO.length eU] 29 (0,0)) (by (with_reducible repeat (first|refine bD ?_ _|refine bL ?_|refine aN ?_ _));exact eZ.out)):lS≠kR));clear eZ;clear HB;have eZ:=dM;have HB:=dU;have lT:=eF;have aqw:=mX;have Ob:=uG;have DY:=zl;have uO:=Bl;clear dM dU eF mX uG zl Bl;clear hb gN hg))
 have dM:=ah.mk (bL eZ.out);have dU:=ah.mk (bL lT.out);have eF:=ah.mk (aK HB.out);clear eZ;clear lT;clear HB;have eZ:=dM;have lT:=dU;have HB:=eF;clear dM dU eF;refine jJ (n:=10) (S:=fun w'=>w'.cell? ⟨kR,0,none⟩=some (.int .i64 dB)∧w'.cell? ⟨kR,1,none⟩=some (.string dA)∧w'.cell? ⟨kR,2,none⟩=some (.string dH)∧w'.cell? ⟨kR,3,none⟩=some (.int .i64 dz)∧w'.cell? ⟨kR,4,none⟩=some (.slice iE cB.length fE)∧w'.cell? ⟨kR,5,none⟩=some (.slice eY cO.length eU)) (ds:=[7,9]) (aM 10 0) aD rfl rfl ⟨(ak eZ.out 0).trans rfl,(ak eZ.out 1).trans rfl,(ak eZ.out 2).trans rfl,(ak eZ.out 3).trans rfl,(ak eZ.out 4).trans rfl,(ak eZ.out 5).trans rfl⟩ (fun hHeld=>?_);refine Dv iA.aot iA.ajc (fun xH HW_=>?_);generalize w5.drew=w6 at eZ lT HB hHeld ⊢;refine jU (i:=0) (N:=some 3) (v:=?_) (a':=?_) (aM 10 1) rfl rfl (mg xH.out aD) (fun _ _ _ h=>h) (Or.inl ⟨by rfl,?_⟩) ?_ ?_;rotate_left
 ·intro w'
  go_simp
  with_reducible rfl
 rotate_left
 ·simp only[Act.put,aYa,aYb,aYc,eG,fI];rfl
 refine jU (i:=3) (N:=some 6) (v:=?_) (a':=?_) (aM 10 9) rfl rfl (mg xH.out aD) (fun _ _ _ h=>h) (Or.inl ⟨by rfl,?_⟩) ?_ ?_;rotate_left
 ·intro w'
  go_simp
  with_reducible rfl
 rotate_left
 ·simp only[Act.put,aYa,aYb,aYc,eG,fI];rfl
 refine sQ (i:=1) (N:=some 4) (v:=?_) (a':=?_) (aM 10 11) rfl rfl (uJ xH.out HW_.out aD) (fun _ _ _ h=>h) (Or.inl ⟨by rfl,?_⟩) hHeld ?_ ?_;rotate_left
 ·rintro w' ⟨s0,s1,s2,s3,s4,s5⟩
  go_simp
  with_reducible rfl
 rotate_left
 ·simp only[Act.put,aYa,aYb,aYc,eG,fI];rfl
 refine sQ (i:=4) (N:=some 7) (v:=?_) (a':=?_) (aM 10 27) rfl rfl (uJ xH.out HW_.out aD) (fun _ _ _ h=>h) (Or.inl ⟨by rfl,?_⟩) hHeld ?_ ?_;rotate_left
 ·rintro w' ⟨s0,s1,s2,s3,s4,s5⟩
  go_simp
  with_reducible rfl
 rotate_left
 ·simp only[Act.put,aYa,aYb,aYc,eG,fI];rfl
 refine WW (i:=2) (N:=some 5) (aM 10 31) rfl rfl (Dw xH.out aD) aH (fun K hK=>?_);refine Nf Tryz.func91 aD rfl #[.slice iE cB.length fE] (by rfl) rfl rfl qw ?_
 with_reducible refine (oq.calls _ _ cB DW _ ?lM ?lN A2.out).mono ?_
 (case lM=>repeat (first|exact (Kd.aC xE.out HB.out)|(with_reducible refine Kd.fK ?_ _)|(with_reducible refine Kd.eB ?_ _)|(with_reducible refine Kd.iH ?_)))
 (case lN=>exact JB.out)
 rintro e w7 ⟨atg,rfl,ho0,hb⟩;refine⟨_,rfl,?_⟩;have dM:=ah.mk (Kd.gD ho0 (bH (by repeat (first|(with_reducible first|exact HB.out|apply aG|apply av|apply aK|refine aV ?_ Es.out|refine aV ?_ Ob.out)|exact HB.out))));have dU:=ah.mk (aJ (g:=kR) (o:=.cells #[.int .i64 dB,.string dA,.string dH,.int .i64 dz,.slice iE cB.length fE,.slice eY cO.length eU] 29 (0,0)) (by (with_reducible repeat (first|refine bD ?_ _|refine bL ?_|refine aN ?_ _));exact eZ.out) hb);have eF:=ah.mk (aJ (g:=lS) (o:=.cells #[.int .i64 0,.string (⟨#[]⟩:ByteArray),.string (⟨#[]⟩:ByteArray),.int .i64 0,.slice none 0 0,.slice none 0 0] 29 (0,0)) (by (with_reducible repeat (first|refine bD ?_ _|refine bL ?_|refine aN ?_ _));exact lT.out) hb);have mX:=ah.mk (bM (by repeat (first|(with_reducible first|exact HB.out|apply aG|apply av|apply aK|refine aV ?_ Es.out|refine aV ?_ Ob.out)|exact HB.out)) hb);clear eZ;clear lT;clear HB;have Oc:=dM;have eZ:=dU;have lT:=eF;have HB:=mX;clear dM dU eF mX
 (try clear hb)
 (try clear hb2)
 (try clear hk)
 (try clear hi)
 (try clear ho0)
 refine hK.out _ _ ⟨(ak eZ.out 0).trans rfl,(ak eZ.out 1).trans rfl,(ak eZ.out 2).trans rfl,(ak eZ.out 3).trans rfl,(ak eZ.out 4).trans rfl,(ak eZ.out 5).trans rfl⟩ (fun hHeld=>?_);clear hK K;refine fH 5 ?_;refine jU (i:=6) (N:=some 9) (v:=?_) (a':=?_) (aM 10 95) rfl rfl (mg xH.out aD) (fun _ _ _ h=>h) (Or.inl ⟨by rfl,?_⟩) ?_ ?_;rotate_left
 ·intro w'
  go_simp
  with_reducible rfl
 rotate_left
 ·simp only[Act.put,aYa,aYb,aYc,eG,fI];rfl
 refine WW (i:=5) (N:=some 8) (aM 10 127) rfl rfl (Dw xH.out aD) aH (fun K hK=>?_);refine Nf Tryz.func143 aD rfl #[.slice eY cO.length eU] (by rfl) rfl rfl qw ?_
 with_reducible refine (kY.calls _ _ cO DX _ ?lM ?lN A3.out).mono ?_
 (case lM=>repeat (first|exact (Kd.aC Eh.out HB.out)|(with_reducible refine Kd.fK ?_ _)|(with_reducible refine Kd.eB ?_ _)|(with_reducible refine Kd.iH ?_)))
 (case lN=>exact JC.out)
 rintro e w8 ⟨v193,rfl,ho0,hb⟩;refine⟨_,rfl,?_⟩;have dM:=ah.mk (Kd.bO (by (with_reducible repeat (first|apply Kd.aW|apply Kd.aT|apply Kd.bE));exact Oc.out) hb);have dU:=ah.mk (Kd.gD ho0 (bH (by repeat (first|(with_reducible first|exact HB.out|apply aG|apply av|apply aK|refine aV ?_ Es.out|refine aV ?_ Ob.out)|exact HB.out))));have eF:=ah.mk (aJ (g:=kR) (o:=.cells #[.int .i64 dB,.string dA,.string dH,.int .i64 dz,.slice iE cB.length fE,.slice eY cO.length eU] 29 (0,0)) (by (with_reducible repeat (first|refine bD ?_ _|refine bL ?_|refine aN ?_ _));exact eZ.out) hb);have mX:=ah.mk (aJ (g:=lS) (o:=.cells #[.int .i64 0,.string (⟨#[]⟩:ByteArray),.string (⟨#[]⟩:ByteArray),.int .i64 0,.slice none 0 0,.slice none 0 0] 29 (0,0)) (by (with_reducible repeat (first|refine bD ?_ _|refine bL ?_|refine aN ?_ _));exact lT.out) hb);have uG:=ah.mk (bM (by repeat (first|(with_reducible first|exact HB.out|apply aG|apply av|apply aK|refine aV ?_ Es.out|refine aV ?_ Ob.out)|exact HB.out)) hb);clear Oc;clear eZ;clear lT;clear HB;have Oc:=dM;have adr:=dU;have eZ:=eF;have lT:=mX;have HB:=uG;clear dM dU eF mX uG
 (try clear hb)
 (try clear hb2)
 (try clear hk)
 (try clear hi)
 (try clear ho0)
 obtain⟨IK,Ei,VY⟩:=Kd.bP Oc.out
 (first|subst VY|(injection VY with f1_ f2_ f3_;have f4_:=f1_.symm;have f5_:=f3_.symm;clear f1_ f2_ f3_;subst f4_;subst f5_))
 obtain⟨Vb,Vd,aaE⟩:=Kd.bP adr.out
 (first|subst aaE|(injection aaE with f1_ f2_ f3_;have f4_:=f1_.symm;have f5_:=f3_.symm;clear f1_ f2_ f3_;subst f4_;subst f5_))
 refine hK.out _ _ ⟨(ak eZ.out 0).trans rfl,(ak eZ.out 1).trans rfl,(ak eZ.out 2).trans rfl,(ak eZ.out 3).trans rfl,(ak eZ.out 4).trans rfl,(ak eZ.out 5).trans rfl⟩ (fun hHeld=>?_);clear hK K;refine fH 8 ?_;refine kX (i:=7) (N:=none) (aM 10 255) rfl rfl (Dw xH.out aD) aH (fun K hK=>?_);have ath:w8.cell? ⟨kR,4,none⟩=some (.slice iE cB.length fE):=(ak eZ.out 4).trans rfl;have aqx:=ay eZ.out 4;have akY:=uO.out;have akZ:=DY.out;refine rG (w1:=?_) (by rfl) rfl ?_ ?_;rotate_left
 ·go_simp
  rfl
 refine hK.out _ _ ?_;clear hK K;refine jU (i:=8) (N:=some 10) (v:=?_) (a':=?_) (aM 10 511) rfl rfl (mg xH.out aD) (fun _ _ _ h=>h) (Or.inl ⟨by rfl,?_⟩) ?_ ?_;rotate_left
 ·intro w'
  go_simp
  with_reducible rfl
 rotate_left
 ·simp only[Act.put,aYa,aYb,aYc,eG,fI];rfl
 refine kX (i:=9) (N:=none) (aM 10 1023) rfl rfl (Dw xH.out aD) aH (fun K hK=>?_);have ati:w8.cell? ⟨kR,5,none⟩=some (.slice eY cO.length eU):=(ak eZ.out 5).trans rfl;have aqy:=ay eZ.out 5;have ak0:=uO.out;have ak1:=DY.out;refine rG (w1:=?_) (by rfl) rfl ?_ ?_;rotate_left
 ·go_simp
  rfl
 refine hK.out _ _ ?_;clear hK K;refine jK (KV xH.out aD) ?_;have ahu:=DY.out;have ahv:=uO.out;have SB:w8.cell? ⟨kR,0,none⟩=some (.int .i64 dB):=(ak eZ.out 0).trans rfl;have SE:w8.cell? ⟨kR,1,none⟩=some (.string dA):=(ak eZ.out 1).trans rfl;have SF:w8.cell? ⟨kR,2,none⟩=some (.string dH):=(ak eZ.out 2).trans rfl;have SG:w8.cell? ⟨kR,3,none⟩=some (.int .i64 dz):=(ak eZ.out 3).trans rfl;have SH:w8.cell? ⟨kR,4,none⟩=some (.slice iE cB.length fE):=(ak eZ.out 4).trans rfl;have SI:w8.cell? ⟨kR,5,none⟩=some (.slice eY cO.length eU):=(ak eZ.out 5).trans rfl;have SK:=ay eZ.out 0;have SL:=ay eZ.out 1;have SN:=ay eZ.out 2;have SQ:=ay eZ.out 3;have SS:=ay eZ.out 4;have SV:=ay eZ.out 5;have KN:w8.cell? ⟨lS,0,none⟩=some (.int .i64 0):=(ak lT.out 0).trans rfl;have KO:w8.cell? ⟨lS,1,none⟩=some (.string (⟨#[]⟩:ByteArray)):=(ak lT.out 1).trans rfl;have ZW:w8.cell? ⟨lS,2,none⟩=some (.string (⟨#[]⟩:ByteArray)):=(ak lT.out 2).trans rfl;have ZX:w8.cell? ⟨lS,3,none⟩=some (.int .i64 0):=(ak lT.out 3).trans rfl;have ZY:w8.cell? ⟨lS,4,none⟩=some (.slice none 0 0):=(ak lT.out 4).trans rfl;have Z0:w8.cell? ⟨lS,5,none⟩=some (.slice none 0 0):=(ak lT.out 5).trans rfl;have KP:=ay lT.out 0;have KQ:=ay lT.out 1;have Z4:=ay lT.out 2;have Z5:=ay lT.out 3;have Z6:=ay lT.out 4;have Z7:=ay lT.out 5
 try go_wp2
 refine bodyPost_ret (results_cell_row rfl _ _ lS 29 #[.int .i64 dB,.string dA,.string dH,.int .i64 dz,.slice IK DW.length Ei,.slice Vb DX.length Vd] (0,0) _ rfl (by (with_reducible repeat (first|refine bD ?_ _|refine bL ?_|refine aN ?_ _));refine gY (cs:=#[.int .i64 dB,.string dA,.string dH,.int .i64 dz,.slice IK DW.length Ei,.slice none 0 0]) ?_ 5 _ rfl;(with_reducible repeat (first|refine bD ?_ _|refine bL ?_|refine aN ?_ _));refine gY (cs:=#[.int .i64 dB,.string dA,.string dH,.int .i64 dz,.slice none 0 0,.slice none 0 0]) ?_ 4 _ rfl;(with_reducible repeat (first|refine bD ?_ _|refine bL ?_|refine aN ?_ _));refine gY (cs:=#[.int .i64 dB,.string dA,.string dH,.int .i64 0,.slice none 0 0,.slice none 0 0]) ?_ 3 _ rfl;(with_reducible repeat (first|refine bD ?_ _|refine bL ?_|refine aN ?_ _));refine gY (cs:=#[.int .i64 dB,.string dA,.string (⟨#[]⟩:ByteArray),.int .i64 0,.slice none 0 0,.slice none 0 0]) ?_ 2 _ rfl;(with_reducible repeat (first|refine bD ?_ _|refine bL ?_|refine aN ?_ _));refine gY (cs:=#[.int .i64 dB,.string (⟨#[]⟩:ByteArray),.string (⟨#[]⟩:ByteArray),.int .i64 0,.slice none 0 0,.slice none 0 0]) ?_ 1 _ rfl;(with_reducible repeat (first|refine bD ?_ _|refine bL ?_|refine aN ?_ _));refine gY (cs:=#[.int .i64 0,.string (⟨#[]⟩:ByteArray),.string (⟨#[]⟩:ByteArray),.int .i64 0,.slice none 0 0,.slice none 0 0]) ?_ 0 _ rfl;(with_reducible repeat (first|refine bD ?_ _|refine bL ?_|refine aN ?_ _));refine fJ ?_ uO.out _;(with_reducible repeat (first|refine bD ?_ _|refine bL ?_|refine aN ?_ _));refine fJ ?_ uO.out _;(with_reducible repeat (first|refine bD ?_ _|refine bL ?_|refine aN ?_ _));exact lT.out) Tryz.underlying29 rfl aD) rfl ?_;exact⟨_,_,by first|rfl|(simp[aY,aZ] <;> rfl)|(simp[*,aY,aZ] <;> rfl),by (with_reducible repeat (first|apply Kd.aW|apply Kd.aT|apply Kd.bE));exact Kd.dX (Kd.jD (p:=⟨lS,5,none⟩) (Kd.jD (p:=⟨lS,4,none⟩) (Kd.jD (p:=⟨lS,3,none⟩) (Kd.jD (p:=⟨lS,2,none⟩) (Kd.jD (p:=⟨lS,1,none⟩) (Kd.jD (p:=⟨lS,0,none⟩) (Kd.jD (p:=⟨kR,5,none⟩) (Kd.jD (p:=⟨kR,4,none⟩) (Kd.oN (Kd.oN Oc.out eZ.out aH) lT.out aH) (fun _ hk=>hk.1.2) (.slice IK DW.length Ei)) (fun _ hk=>hk.1.2) (.slice Vb DX.length Vd)) (fun _ hk=>hk.2) (.int .i64 dB)) (fun _ hk=>hk.2) (.string dA)) (fun _ hk=>hk.2) (.string dH)) (fun _ hk=>hk.2) (.int .i64 dz)) (fun _ hk=>hk.2) (.slice IK DW.length Ei)) (fun _ hk=>hk.2) (.slice Vb DX.length Vd)) (fun _ hk=>trivial),by (with_reducible repeat (first|apply Kd.aW|apply Kd.aT|apply Kd.bE));exact Kd.dX (Kd.jD (p:=⟨lS,5,none⟩) (Kd.jD (p:=⟨lS,4,none⟩) (Kd.jD (p:=⟨lS,3,none⟩) (Kd.jD (p:=⟨lS,2,none⟩) (Kd.jD (p:=⟨lS,1,none⟩) (Kd.jD (p:=⟨lS,0,none⟩) (Kd.jD (p:=⟨kR,5,none⟩) (Kd.jD (p:=⟨kR,4,none⟩) (Kd.oN (Kd.oN adr.out eZ.out aH) lT.out aH) (fun _ hk=>hk.1.2) (.slice IK DW.length Ei)) (fun _ hk=>hk.1.2) (.slice Vb DX.length Vd)) (fun _ hk=>hk.2) (.int .i64 dB)) (fun _ hk=>hk.2) (.string dA)) (fun _ hk=>hk.2) (.string dH)) (fun _ hk=>hk.2) (.int .i64 dz)) (fun _ hk=>hk.2) (.slice IK DW.length Ei)) (fun _ hk=>hk.2) (.slice Vb DX.length Vd)) (fun _ hk=>trivial),by repeat (first|(with_reducible first|exact HB.out|apply aG|apply av|apply aK|refine aV ?_ Es.out|refine aV ?_ Ob.out)|exact HB.out)⟩
end Go.Proofs.YtknihldkhedpkaaGreatDoor.PT
end
