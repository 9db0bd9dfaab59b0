import Derived.Test.YtknihldkhedpkaaGreatDoorYYG12
import Derived.Test.YtknihldkhedpkaaGreatDoorYYG7
import Derived.Test.YtknihldkhedpkaaGreatDoorYYG8
import Derived.Laws.Rows
set_option linter.all false
set_option maxHeartbeats 16000000
set_option maxRecDepth 100000
section
namespace Go.Proofs.YtknihldkhedpkaaGreatDoor
open Go.RowKit Go.Lib
open Go.Proofs.YtknihldkhedpkaaGreatDoorW.PrintWords Go.Proofs.YtknihldkhedpkaaGreatDoorW.PrintLast Go.Proofs.YtknihldkhedpkaaGreatDoor.PT
def ad8 (B g:Nat) (w:World) (o:Option (ByteArray × List Int)) (e:Ending) (w':World):Prop:=match o with
 | none=>e=dN∧Ft g w w'
 | some (s,r)=>e=.returned (.string s)∧Tk B w' g r∧Ft g w w'
theorem kV (B:Nat) (w:World) (g:Nat) (left:List Int) (H:Tk B w g left) (hl:By left) :
  Calls Tryz.prog 126 #[.pointer (some ⟨g,0,none⟩)] w fun e w'=>ad8 B g w (iF left) e w':=by
 cases h1:gF 2 left with
 | none=>
  have C:=ah.mk (lN H (by decide) hl h1);have HE:=ah.mk (show iF left=none by unfold iF;rw[h1]);clear H h1
  go_enter Tryz.func126,Tryz.ntmps126
  go_wp2_with (go_at_call 98;refine C.out.mono ?_;unfold dN;rintro e w2 ⟨rfl,hf⟩)
  exact⟨rfl,by rw[HE.out];exact⟨rfl,hf⟩⟩
 | some q=>
  obtain⟨n,l1⟩:=q;have C:=ah.mk (lM H (by decide) hl h1);obtain⟨hl1,_⟩:=fD h1 hl;have hn:=kJ h1 hl (by decide)
  obtain⟨k,rfl⟩:∃k:Nat,n=k:=⟨n.toNat,by omega⟩
  have hk:k<65536:=by have:=hn.2;omega
  have hC2:=fun w2 (H2:Tk B w2 g l1)=>H2
  cases h2:lK k l1 with
  | none=>
   have HE:=ah.mk (show iF left=none by unfold iF;rw[h1];dsimp only;rw[Int.toNat_natCast,h2]);have C2:=ah.mk (fun w2 (H2:Tk B w2 g l1)=>BM H2 hl1 (by omega) h2);clear H h1 h2 hn hC2
   go_enter Tryz.func126,Tryz.ntmps126
   go_wp2_with (first
    | (go_at_call 98;refine C.out.mono ?_;rintro e w2 ⟨rfl,ht,hf⟩;have HT:=ah.mk ht;have HF:=ah.mk hf;clear ht hf)
    | (go_at_call 97;refine (C2.out _ HT.out).mono ?_;unfold dN;rintro e w3 ⟨rfl,hf3⟩))
   exact⟨rfl,by rw[HE.out];exact⟨rfl,HF.out.trans hf3⟩⟩
  | some q=>
   obtain⟨b,r⟩:=q;have HE:=ah.mk (show iF left=some (strOfNums b,r) by unfold iF;rw[h1];dsimp only;rw[Int.toNat_natCast,h2]);have C2:=ah.mk (fun w2 (H2:Tk B w2 g l1)=>xE H2 hl1 h2);clear H h1 h2 hn hC2
   go_enter Tryz.func126,Tryz.ntmps126
   go_wp2_with (first
    | (go_at_call 98;refine C.out.mono ?_;rintro e w2 ⟨rfl,ht,hf⟩;have HT:=ah.mk ht;have HF:=ah.mk hf;clear ht hf)
    | (go_at_call 97;refine (C2.out _ HT.out).mono ?_;rintro e w3 ⟨A,rfl,hc3,ht3,hf3⟩;have hstr:=Kd.pW (P:=Tryz.prog) (c:=k) (src:=27) (dst:=9) Tryz.underlying27 Tryz.underlying5 Tryz.underlying9 hc3;have HT3:=ah.mk ht3;have xG:=ah.mk hf3;clear hc3 ht3 hf3))
   go_ret
   rw[HE.out];exact⟨rfl,HT3.out,HF.out.trans xG.out⟩
def ug:Nat→Int→List Ru→List Int→Option (List Ru × Int × List Int)
 | 0,all,acc,l=>some (acc,all,l)
 | k+1,all,acc,l=>match gF 4 l with
  | none=>none
  | some (a,l1)=>match gF 4 l1 with
   | none=>none
   | some (b,l2)=>if b≤a∨16522<b then none else ug k (all+(b - a)) (acc++[⟨a,b⟩]) l2
def lg (l:List Int):Option (List Ru × Int × List Int):=match gF 4 l with
 | none=>none
 | some (n,l1)=>ug n.toNat 0 [] l1
def ad9 (B g:Nat) (w:World) (o:Option (List Ru × Int × List Int)) (e:Ending) (w':World):Prop:=match o with
 | none=>e=dN∧Ft g w w'
 | some (rs,all,r)=>∃v,e=.returned (.tuple #[v,.int .i64 all])∧Kd.R cO 117 w' w.heap.size (fun _=>True) v rs∧Tk B w' g r∧Ft g w w'
theorem Ur {α:Type} {d:Kd α} {e g:Nat} {w0:World} {ok:Nat→Prop} {v:Value} {xs:List α} {W W1:World} {B:Nat} {left:List Int} {base:Nat} (h:d.R e W base ok v xs) (ht:Tk B W g left) (hE:∀q,q∈e::d.E→q≠145) (hf:Ft g W W1):d.R e W1 base (fun k=>ok k∧base≤k∧k<W.heap.size∧k≠g) v xs:=by
 have hb:=Kd.fZ h;obtain⟨_,A,c,hblk,_⟩:=ht
 have h2:d.R e W base (fun k=>ok k∧base≤k∧k<W.heap.size∧k≠g) v xs:=Kd.dJ hb (fun k hk=>⟨hk.1,hk.2.1,hk.2.2.1,fun eg=>by
  obtain⟨q,hq,cells,hc⟩:=hk.2.2.2;rw[eg,hblk] at hc
  injection hc with hc
  injection hc with _ hc
  exact hE q hq hc.symm⟩)
 refine Kd.nG h2 (fun k hk hlt=>?_);have h1:=Array.getElem?_eq_getElem hlt
 rcases hf.blocks k _ h1 with (e1|⟨_,_,_,_,e1⟩)|e1
 ·exact absurd e1 hk.2.2.2
 ·exact e1.elim
 ·rw[e1,h1]
theorem xH {g:Nat} {v:Value} {xs:List Ru} {W W1:World} {B:Nat} {left:List Int} {base:Nat} (h:Kd.R cO 117 W base (fun _=>True) v xs) (ht:Tk B W g left) (hf:Ft g W W1):Kd.R cO 117 W1 base (fun _=>True) v xs :=
 Kd.dJ (Ur (w0:=W) h ht (by decide) hf) (fun _ _=>trivial)
theorem rC (B:Nat) (w:World) (g:Nat) (left:List Int) (H:Tk B w g left) (hl:By left) :
  Calls Tryz.prog 128 #[.pointer (some ⟨g,0,none⟩)] w fun e w'=>ad9 B g w (lg left) e w':=by
 obtain⟨o,ho⟩:∃o,lg left=o:=⟨_,rfl⟩
 rw[ho];have HGS:=H.lt;have hBs:B≤w.heap.size:=Nat.le_of_lt (Nat.lt_of_le_of_lt H.1 HGS)
 cases h1:gF 4 left with
 | none=>
  have C:=ah.mk (lN H (by decide) hl h1);have HE:=ah.mk (show o=none by rw[← ho];unfold lg;rw[h1]);clear H h1 ho
  go_enter Tryz.func128,Tryz.ntmps128
  go_wp2_with (go_at_call 98;refine C.out.mono ?_;unfold dN;rintro e w2 ⟨rfl,hf⟩)
  exact⟨rfl,by rw[HE.out];exact⟨rfl,hf⟩⟩
 | some q=>
  obtain⟨n,l1⟩:=q;have C:=ah.mk (lM H (by decide) hl h1);obtain⟨hl1,_⟩:=fD h1 hl;have hn:=kJ h1 hl (by decide)
  obtain⟨N,rfl⟩:∃k:Nat,n=k:=⟨n.toNat,by omega⟩
  have hN:N<4294967296:=by have:=hn.2;omega
  have HO:=ah.mk (show ug N 0 [] l1=o by rw[← ho];unfold lg;rw[h1];dsimp only;rw[Int.toNat_natCast]);have HL1:=ah.mk hl1;clear H h1 hn ho hl1
  go_enter Tryz.func128,Tryz.ntmps128
  go_wp2_with (go_at_call 98;refine C.out.mono ?_;rintro e w2 ⟨rfl,ht,hf⟩;have HT:=ah.mk ht;have HF:=ah.mk hf;clear ht hf)
  go_loopg [4,5,9] N (fun gk s4 s5 s9 wx=>∃(i:Nat) (v:Value) (acc:List Ru) (all:Int) (rest:List Int),i+gk=N∧s9=.int .i64 i∧s4=v∧s5=.int .i64 all∧0≤all∧all≤16522*i∧ah (acc.length=i)∧ah (ug gk all acc rest=o)∧ah (By rest)∧ah (Kd.R cO 117 wx w.heap.size (fun _=>True) v acc)∧ah (Tk B wx g rest)∧ah (Ft g w wx))
  case atStart=>exact⟨0,_,[],0,l1,by omega,rfl,rfl,rfl,by omega,by omega,⟨rfl⟩,HO,HL1,⟨Kd.fA _ _ _ _ _⟩,HT,HF⟩
  case round=>
   clear HT HF HO HL1;obtain⟨i,v,acc,all,rest,hig,rfl,rfl,rfl,ha0,ha1,HL,HO,Xf,HR,HT,HF⟩:=hrel
   cases gk with
   | zero=>
    have hd:decide ((i:Int)<(N:Int))=false:=decide_eq_false (by omega);have hd2:decide (i<N)=false:=decide_eq_false (by omega);have HE:=ah.mk (show o=some (acc,all,rest) from HO.out.symm)
    go_wp2_with fail
    go_ret2
    rw[HE.out];exact⟨_,rfl,HR.out,HT.out,HF.out⟩
   | succ gk=>
    have hd:decide ((i:Int)<(N:Int))=true:=decide_eq_true (by omega);have hd2:decide (i<N)=true:=decide_eq_true (by omega);have ho:=HO.out;rw[ug] at ho
    cases h1:gF 4 rest with
    | none=>
     rw[h1] at ho;have C1:=ah.mk (lN HT.out (by decide) Xf.out h1);have HE:=ah.mk (show o=none from ho.symm);clear ho h1
     go_wp2_with (go_at_call 98;refine C1.out.mono ?_;unfold dN;rintro e w3 ⟨rfl,hf⟩)
     exact⟨rfl,by rw[HE.out];exact⟨rfl,HF.out.trans hf⟩⟩
    | some q=>
     obtain⟨a,r1⟩:=q;rw[h1] at ho;dsimp only at ho;have C1:=ah.mk (lM HT.out (by decide) Xf.out h1);have hr1:=(fD h1 Xf.out).1;obtain⟨ha2,NI⟩:=kJ h1 Xf.out (by decide);rw[show (256:Int) ^ 4=4294967296 by decide] at NI
     cases h2:gF 4 r1 with
     | none=>
      rw[h2] at ho;have C2:=ah.mk (fun w2 (H2:Tk B w2 g r1)=>lN H2 (by decide) hr1 h2);have HE:=ah.mk (show o=none from ho.symm);clear ho h1 h2 hr1;have tok:=ah.mk True.intro
      go_wp2_with (first
       | (have _t:=tok;go_at_call 98;refine C1.out.mono ?_;rintro e w3 ⟨rfl,ht,hf⟩;have HT3:=ah.mk ht;have xG:=ah.mk hf;clear ht hf tok)
       | (go_at_call 98;refine (C2.out _ HT3.out).mono ?_;unfold dN;rintro e w4 ⟨rfl,tX⟩))
      exact⟨rfl,by rw[HE.out];exact⟨rfl,HF.out.trans (xG.out.trans tX)⟩⟩
     | some q=>
      obtain⟨b,r2⟩:=q;rw[h2] at ho;dsimp only at ho;have C2:=ah.mk (fun w2 (H2:Tk B w2 g r1)=>lM H2 (by decide) hr1 h2);have hr2:=ah.mk (fD h2 hr1).1;obtain⟨hb2,hb3⟩:=kJ h2 hr1 (by decide);rw[show (256:Int) ^ 4=4294967296 by decide] at hb3;have zB:=ah.mk ho;clear ho h1 h2 hr1;have tok:=ah.mk True.intro
      go_upto_region 6 with (first
       | (have _t:=tok;go_at_call 98;refine C1.out.mono ?_;rintro e w3 ⟨rfl,ht,hf⟩;have HT3:=ah.mk ht;have xG:=ah.mk hf;clear ht hf tok)
       | (go_at_call 98;refine (C2.out _ HT3.out).mono ?_;rintro e w4 ⟨rfl,Us,tX⟩;have QC:=ah.mk Us;have Hf:=ah.mk tX;clear Us tX))
      have hba:=(Below.refl w4.heap.size w4).alloc (Nat.le_refl _) (.cells #[.int .i64 a,.int .i64 b] 117);have hbk:=bK w4 (.cells #[.int .i64 a,.int .i64 b] 117)
      obtain⟨W1,hW1⟩:∃W1,w4.alloc (.cells #[.int .i64 a,.int .i64 b] 117)=W1:=⟨_,rfl⟩
      rw[hW1] at hba hbk ⊢
      obtain⟨bx,hbx⟩:∃bx,w4.heap.size=bx:=⟨_,rfl⟩
      rw[hbx] at hbk ⊢
      have x0:W1.cell? ⟨bx,0,none⟩=some (.int .i64 a):=by rw[ak hbk];rfl
      have x1:W1.cell? ⟨bx,1,none⟩=some (.int .i64 b):=by rw[ak hbk];rfl
      have HK:=ah.mk hbk;have hs4:w.heap.size≤w4.heap.size:=Nat.le_trans HF.out.size (Nat.le_trans xG.out.size Hf.out.size);have HRW:=ah.mk (Kd.dh (xH (xH HR.out HT.out xG.out) HT3.out Hf.out) hba);have HTW:=ah.mk (QC.out.below hba);have HFW:=ah.mk (HF.out.trans (xG.out.trans (Hf.out.trans (jK.below hba))));have hsW:w.heap.size≤W1.heap.size:=Nat.le_trans hs4 hba.size;clear hba hbk hW1 hbx HR HT HF HT3 xG QC Hf;by_cases hc1:b≤a
      ·have HE:=ah.mk (show o=none by rw[← zB.out,if_pos (.inl hc1)])
       go_wp2_with fail
       exact⟨rfl,by rw[HE.out];exact⟨rfl,HFW.out⟩⟩
      ·by_cases hc2:16522<b
       ·have HE:=ah.mk (show o=none by rw[← zB.out,if_pos (.inr hc2)])
        go_wp2_with fail
        exact⟨rfl,by rw[HE.out];exact⟨rfl,HFW.out⟩⟩
       ·have HE:=ah.mk (show ug gk (all+(b - a)) (acc++[⟨a,b⟩]) r2=o by rw[← zB.out,if_neg (by omega)]);have hla:=HL.out;obtain⟨As,ca,hvs⟩:=Kd.bH HRW.out;subst hvs;clear hla
        go_upto_region 9 with (fail)
        go_wp2_with (first
         | (refine dR (.load 117 (.tmp 6)) rfl ?_;refine wpList_load_row rfl _ _ rfl bx rfl 117 #[.int .i64 a,.int .i64 b] (0,0) _ HK.out Tryz.underlying117 rfl (by kernel_rfl) ?_)
         | ((with_reducible refine dn (b:=.append) (xs:=#[.tmp 35,.tmp 37]) rfl ?_);at_builtin;refine Kd.jy cO (w0:=W1) w.heap.size rfl (.tmp 35) (.tmp 37) 26 117 (.agg #[(.int .i64 0),(.int .i64 0)]) 16 rfl Tryz.underlying26 DC rfl (by decide) (by omega) (.slice As acc.length ca) acc (⟨a,b⟩:Ru) [.int .i64 a,.int .i64 b] (fun _=>True) (fun _=>False) rfl rfl ?aP (fun _ hk=>hk.elim) (fun _ _=>trivial) HRW.out (Below.refl _ _ |>.mono hsW) hsW (by have:=HL.out;omega) ?_;(case aP=>exact vW _ _ _ (⟨a,b⟩:Ru));intro v2 w5 jR hb5 hg5 aea;have kE:=ah.mk jR;have HG5:=ah.mk hg5;have HA5:=ah.mk aea;clear jR hb5 hg5 aea))
        obtain⟨A5,c5,hv5⟩:=Kd.bH kE.out;subst hv5
        have hne:∀k,(Value.slice As acc.length ca).ownBlock=some k→B≤k∧k≠g:=fun k hk=>by
         obtain⟨_,inner,ho2,_⟩:=HRW.out;have h1:=lJ ho2 k hk;refine⟨by omega,fun e=>?_⟩;obtain⟨_,As2,cs2,hblk,_⟩:=HTW.out;exact Kd.pV HRW.out hblk (by decide) (by rw[← e];exact hk.symm)
        have Oc:=ah.mk ((HTW.out.below ((Below.refl W1.heap.size W1).alloc (Nat.le_refl _) (.cells #[.int .i64 a,.int .i64 b] 117))))
        go_roundg gk
        case measure=>omega
        case rel=>exact⟨i+1,_,acc++[⟨a,b⟩],all+(b - a),r2,by omega,by first|rfl|simp,rfl,by first|rfl|simp,by omega,by omega,⟨by rw[List.length_append,HL.out];rfl⟩,HE,hr2,kE,⟨HTW.out.grow HG5.out hne⟩,⟨Ft.grow HFW.out HRW.out HG5.out⟩⟩
def o7 (n:Int) (l:List Int):Option (List Int × List Int):=if (l.length:Int) / 512<n then none else lK (n*512).toNat l
def aeb (B g:Nat) (w:World) (o:Option (List Int × List Int)) (e:Ending) (w':World):Prop:=match o with
 | none=>e=dN∧Ft g w w'
 | some (b,r)=>∃v,e=.returned v∧Kd.R (Kd.int .u8) 5 w' w.heap.size (fun _=>True) v b∧Tk B w' g r∧Ft g w w'
theorem xI (B:Nat) (w:World) (g:Nat) (left:List Int) (n:Int) (H:Tk B w g left) (hl:By left) (hn0:0≤n) (hn1:n≤1152921504606846976) :
  Calls Tryz.prog 129 #[.pointer (some ⟨g,0,none⟩),.int .i64 n] w fun e w'=>aeb B g w (o7 n left) e w':=by
 obtain⟨o,ho⟩:∃o,o7 n left=o:=⟨_,rfl⟩
 rw[ho];have hl2:=hl.1;have H0:=H;obtain⟨hBg,A,c,h1,h2,hAB,h3⟩:=H
 have c0:w.cell? ⟨g,0,none⟩=some (.slice A left.length c):=by rw[ak h1];rfl
 clear h1 h3 h2 hAB;have hdv:Int.tdiv (left.length:Int) 512=(left.length:Int) / 512:=Int.tdiv_eq_ediv_of_nonneg (by omega);by_cases hc:(left.length:Int) / 512<n
 ·have hd:decide ((left.length:Int) / 512<n)=true:=decide_eq_true hc;have HE:=ah.mk (show o=none by rw[← ho];unfold o7;rw[if_pos hc]);have Wu:=ah.mk (show Ft g w w from jK.refl _);clear H0 ho
  go_enter Tryz.func129,Tryz.ntmps129
  go_wp2_with fail
  exact⟨rfl,by rw[HE.out];exact⟨rfl,Wu.out⟩⟩
 ·have hd:decide ((left.length:Int) / 512<n)=false:=decide_eq_false hc
  obtain⟨k,hk⟩:∃k:Nat,n*512=k:=⟨(n*512).toNat,by omega⟩
  have hkl:k≤left.length:=by omega
  have htk:lK k left=some (left.take k,left.drop k):=by unfold lK;rw[if_pos hkl]
  obtain⟨hbb,hbr,hbl,_⟩:=uf htk hl;have C:=ah.mk (xE H0 hl htk);have HE:=ah.mk (show o=some (left.take k,left.drop k) by rw[← ho];unfold o7;rw[if_neg hc,hk,Int.toNat_natCast,htk])
  obtain⟨b,hb⟩:∃b,left.take k=b:=⟨_,rfl⟩
  obtain⟨r,hr⟩:∃b,left.drop k=b:=⟨_,rfl⟩
  rw[hb,hr] at C HE;rw[hb] at hbl;have Xe:=ah.mk hbl;have hsz:=H0.lt
  have hmul:wrap64 (n*512)=(k:Int):=by rw[← hk,wrap64_in (by omega) (by omega)]
  have al7:IntKind.i64.wrap (n*512)=(k:Int):=by rw[IntKind.wrap_i64,← hk];omega
  clear H0 ho htk hbb hbr hb hr hbl
  go_enter Tryz.func129,Tryz.ntmps129
  go_wp2_with (first
   | (go_at_call 97;(first|(refine C.out.mono ?_)|(rw[hk];refine C.out.mono ?_));rintro e w2 ⟨A2,rfl,hc2,ht2,hf2⟩;have Dn:=ah.mk hc2;have HT2:=ah.mk ht2;have En:=ah.mk hf2;clear hc2 ht2 hf2)
   | (go_at_call 143;have hcl:=jh.calls A2 k b b w2 (by rw[Xe.out];exact Dn.out) (by rw[Xe.out];exact Nat.le_refl _) (by unfold jh.f;rw[if_pos (by rw[Xe.out];omega)]);rw[Xe.out] at hcl;refine hcl.mono ?_;rintro e w3 ⟨v3,rfl,hr3,hb3⟩;have HR3:=ah.mk hr3;have HB3:=ah.mk hb3;clear hcl hr3 hb3))
  go_ret
  rw[HE.out];exact⟨v3,rfl,⟨HR3.out.1,eX.lower HR3.out.2 En.out.size⟩,HT2.out.below HB3.out,En.out.trans (jK.below HB3.out)⟩
theorem mW {l r:List Int} {s:ByteArray} (h:iF l=some (s,r)) (hl:By l):By r∧r.length≤l.length∧s.size≤65535:=by
 unfold iF at h
 cases h1:gF 2 l with
 | none=>rw[h1] at h;cases h
 | some q=>
  obtain⟨n,l1⟩:=q;rw[h1] at h;dsimp only at h;have h2:=fD h1 hl;have h3:=kJ h1 hl (by decide);rw[show (256:Int) ^ 2=65536 by decide] at h3
  cases h4:lK n.toNat l1 with
  | none=>rw[h4] at h;cases h
  | some q=>
   obtain⟨b,l2⟩:=q;rw[h4] at h
   injection h with h
   injection h with e1 e2
   have h5:=uf h4 h2.1;subst e1 e2;exact⟨h5.2.1,by omega,by rw[strOfNums_size];omega⟩
theorem LK:∀(k:Nat) (all all2:Int) (acc rs:List Ru) (l r:List Int),ug k all acc l=some (rs,all2,r)→By l→By r∧r.length≤l.length∧all≤all2∧all2≤all+16522*k∧rs.length*8≤acc.length*8+l.length
 | 0,all,all2,acc,rs,l,r,h,hl=>by
  rw[ug] at h
  injection h with h
  injection h with e1 e2
  injection e2 with e2 e3
  subst e1 e2 e3;exact⟨hl,Nat.le_refl _,by omega,by omega,by omega⟩
 | k+1,all,all2,acc,rs,l,r,h,hl=>by
  rw[ug] at h
  cases h1:gF 4 l with
  | none=>rw[h1] at h;cases h
  | some q=>
   obtain⟨a,l1⟩:=q;rw[h1] at h;dsimp only at h;have b1:=fD h1 hl;have b2:=kJ h1 hl (by decide)
   cases h2:gF 4 l1 with
   | none=>rw[h2] at h;cases h
   | some q=>
    obtain⟨b,l2⟩:=q;rw[h2] at h;dsimp only at h;have b3:=fD h2 b1.1;split at h
    ·cases h
    ·have ih:=LK k _ _ _ _ _ _ h b3.1;simp only[List.length_append,List.length_cons,List.length_nil] at ih;exact⟨ih.1,by omega,by omega,by omega,by omega⟩
theorem nX {l r:List Int} {rs:List Ru} {all:Int} (h:lg l=some (rs,all,r)) (hl:By l):By r∧r.length≤l.length∧0≤all∧all≤1152921504606846976∧rs.length*8≤l.length:=by
 unfold lg at h
 cases h1:gF 4 l with
 | none=>rw[h1] at h;cases h
 | some q=>
  obtain⟨n,l1⟩:=q;rw[h1] at h;dsimp only at h;have b1:=fD h1 hl;have b2:=kJ h1 hl (by decide);rw[show (256:Int) ^ 4=4294967296 by decide] at b2;have ih:=LK _ _ _ _ _ _ _ h b1.1;simp only[List.length_nil] at ih;exact⟨ih.1,by omega,by omega,by omega,by omega⟩
theorem zL {n:Int} {l b r:List Int} (h:o7 n l=some (b,r)) (hl:By l):By r∧r.length≤l.length∧By b:=by
 unfold o7 at h;split at h
 ·cases h
 ·have:=uf h hl;exact⟨this.2.1,this.2.2.2,this.1⟩
theorem Ft.box {g:Nat} {W W1:World} {k:Nat} {o:Obj} (h:Ft g W W1) (hb:W.heap[k]?=some o) (hk:k≠g):W1.heap[k]?=some o:=by
 rcases h.blocks k o hb with (e|⟨_,_,_,_,e⟩)|e
 ·exact absurd e hk
 ·exact e.elim
 ·exact e
theorem Ft.set {g:Nat} {w W:World} (h:Ft g w W) {b:Nat} (hb:w.heap.size≤b) (j:Nat) (u:Value):Ft g w (W.setCell ⟨b,j,none⟩ u):=by
 have hB:=(Below.refl 0 W).setCell (p:=⟨b,j,none⟩) (Nat.zero_le _) u;refine⟨hB.os.trans h.os,hB.tape.trans h.tape,hB.output.trans h.output,Nat.le_trans h.size hB.size,fun k o ho=>?_⟩;have hlt:=bD ho
 rcases h.blocks k o ho with e|e
 ·exact .inl e
 ·exact .inr ((Below.heap_setCell W ⟨b,j,none⟩ u k (by show k≠b;omega)).trans e)
theorem Ft.row {g:Nat} {w W:World} (h:Ft g w W) {b:Nat} (hb:w.heap.size≤b) (cs:Array Value):Ft g w (W.setRow b cs):=by
 have hB:=below_setRow (Below.refl 0 W) (Nat.zero_le b) cs;refine⟨hB.os.trans h.os,hB.tape.trans h.tape,hB.output.trans h.output,Nat.le_trans h.size hB.size,fun k o ho=>?_⟩;have hlt:=bD ho
 rcases h.blocks k o ho with e|e
 ·exact .inl e
 ·exact .inr ((setRow_other _ _ _ _ (by omega)).trans e)
theorem Tk.row {B:Nat} {w:World} {g:Nat} {left:List Int} (h:Tk B w g left) {b:Nat} (cs:Array Value) (hb:B≤b) (hg:b≠g):Tk B (w.setRow b cs) g left :=
 h.keep (fun k hk=>setRow_other _ _ _ _ (by omega)) (setRow_other _ _ _ _ (fun e=>hg e.symm))
theorem uW {w:World} {b b':Nat} {v:Value} {xs:List Ru} (h:Kd.R cO 117 w b (fun _=>True) v xs) (hb:b'≤b):Kd.R cO 117 w b' (fun _=>True) v xs:=⟨h.1,eX.lower h.2 hb⟩
theorem wE {w:World} {b b':Nat} {v:Value} {xs:List Int} (h:Kd.R (Kd.int .u8) 5 w b (fun _=>True) v xs) (hb:b'≤b):Kd.R (Kd.int .u8) 5 w b' (fun _=>True) v xs:=⟨h.1,eX.lower h.2 hb⟩
theorem jM {α:Type} {d:Kd α} {e base:Nat} {v:Value} {xs:List α} {W:World} {b:Nat} {cs:Array Value} {t:TypeId} (h:d.R e W base (fun _=>True) v xs) (hb:W.heap[b]?=some (.cells cs t (0,0))) (hE:∀q,q∈e::d.E→q≠t) (cs2:Array Value):d.R e (W.setRow b cs2) base (fun _=>True) v xs:=by
 have h2:=Kd.dJ (ok':=fun k=>k≠b) (Kd.fZ h) (fun k hk=>fun eg=>by
  obtain⟨_,_,_,q,hq,cells,hc⟩:=hk;rw[eg,hb] at hc
  injection hc with hc
  injection hc with _ hc
  exact hE q hq hc.symm)
 exact Kd.dJ (Kd.nG h2 (fun k hk _=>setRow_other _ _ _ _ hk)) (fun _ _=>trivial)
def nY (l:List Int):Option (It × List Int):=match gF 1 l with
 | none=>none
 | some (k,l1)=>match iF l1 with
  | none=>none
  | some (p,l2)=>
   if k=1 then match gF 8 l2 with
    | none=>none
    | some (sz,l3)=>match lg l3 with
     | none=>none
     | some (rs,all,l4)=>match o7 all l4 with
      | none=>none
      | some (d,l5)=>some (⟨k,p,⟨#[]⟩,sz,rs,d⟩,l5)
   else if k=3∨k=4 then match iF l2 with
    | none=>none
    | some (t,l3)=>some (⟨k,p,t,0,[],[]⟩,l3)
   else some (⟨k,p,⟨#[]⟩,0,[],[]⟩,l2)
def aec (B g:Nat) (w:World) (o:Option (It × List Int)) (e:Ending) (w':World):Prop:=match o with
 | none=>e=dN∧Ft g w w'
 | some (x,r)=>∃v4 v5,e=.returned (.agg #[.int .i64 x.f0,.string x.f1,.string x.f2,.int .i64 x.f3,v4,v5])∧Kd.R cO 117 w' w.heap.size (fun _=>True) v4 x.f4∧Kd.R (Kd.int .u8) 5 w' w.heap.size (fun _=>True) v5 x.f5∧Tk B w' g r∧Ft g w w'
theorem IJ (B:Nat) (w:World) (g:Nat) (left:List Int) (H:Tk B w g left) (hl:By left) :
  Calls Tryz.prog 127 #[.pointer (some ⟨g,0,none⟩)] w fun e w'=>aec B g w (nY left) e w':=by
 obtain⟨o,ho⟩:∃o,nY left=o:=⟨_,rfl⟩
 rw[ho];unfold nY at ho;have hgs:=H.lt;have hBs:B≤w.heap.size:=Nat.le_of_lt (Nat.lt_of_le_of_lt H.1 hgs)
 have hg2:w.heap.size≠g:=by omega
 have hb0:=(Below.refl w.heap.size w).alloc (Nat.le_refl _) (.cells #[.int .i64 0,.string ⟨#[]⟩,.string ⟨#[]⟩,.int .i64 0,.slice none 0 0,.slice none 0 0] 29);have hbk:=bK w (.cells #[.int .i64 0,.string ⟨#[]⟩,.string ⟨#[]⟩,.int .i64 0,.slice none 0 0,.slice none 0 0] 29)
 obtain⟨w0,hw0⟩:∃w0,w.alloc (.cells #[.int .i64 0,.string ⟨#[]⟩,.string ⟨#[]⟩,.int .i64 0,.slice none 0 0,.slice none 0 0] 29)=w0:=⟨_,rfl⟩
 rw[hw0] at hb0 hbk;have HB0:=ah.mk hbk;have Wu:=ah.mk (show Ft g w w0 from jK.below hb0);have HT0:=ah.mk (H.below hb0);clear hb0 hbk H
 go_enter Tryz.func127,Tryz.ntmps127
 go_wp2_with fail
 try rw[hw0]
 clear hw0
 cases h1:gF 1 left with
 | none=>
  rw[h1] at ho;have HE:=ah.mk (show o=none from ho.symm);refine (lN HT0.out (by decide) hl h1).mono ?_;intro e w9 hh;obtain⟨he,mJ⟩:=hh;unfold dN at he;subst he
  go_wp2_with fail
  exact⟨rfl,by rw[HE.out];exact⟨rfl,Wu.out.trans mJ⟩⟩
 | some q=>
  obtain⟨k,l1⟩:=q;rw[h1] at ho;dsimp only at ho;refine (lM HT0.out (by decide) hl h1).mono ?_;rintro e w1 ⟨rfl,ht1,hf1⟩;have Hg:=ah.mk (Wu.out.trans hf1);have HT1:=ah.mk ht1;have HB1:=ah.mk (hf1.box HB0.out hg2);have hl1:=(fD h1 hl).1
  go_wp2_with fail
  cases h2:iF l1 with
  | none=>
   have cc:=kV B w1 g l1 HT1.out hl1;rw[h2] at cc;rw[h2] at ho;have HE:=ah.mk (show o=none from ho.symm);refine (cc).mono ?_;intro e w9 hh;obtain⟨he,mJ⟩:=hh;unfold dN at he;subst he
   go_wp2_with fail
   exact⟨rfl,by rw[HE.out];exact⟨rfl,Hg.out.trans mJ⟩⟩
  | some q=>
   obtain⟨p,l2⟩:=q;rw[h2] at ho;dsimp only at ho;have cc:=kV B w1 g l1 HT1.out hl1;rw[h2] at cc;refine cc.mono ?_;rintro e w2 ⟨rfl,ht2,hf2⟩;have En:=ah.mk (Hg.out.trans hf2);have HT2:=ah.mk ht2;have HB2:=ah.mk (hf2.box HB1.out hg2);clear cc;have hl2:=(mW h2 hl1).1
   go_upto_region 2 with (fail)
   have hba:=(Below.refl w2.heap.size w2).alloc (Nat.le_refl _) (.cells #[.int .i64 k,.string p,.string ⟨#[]⟩,.int .i64 0,.slice none 0 0,.slice none 0 0] 29);have hbk:=bK w2 (.cells #[.int .i64 k,.string p,.string ⟨#[]⟩,.int .i64 0,.slice none 0 0,.slice none 0 0] 29)
   obtain⟨w3,abl⟩:∃w3,w2.alloc (.cells #[.int .i64 k,.string p,.string ⟨#[]⟩,.int .i64 0,.slice none 0 0,.slice none 0 0] 29)=w3:=⟨_,rfl⟩
   rw[abl] at hba hbk
   obtain⟨b3,hb3⟩:∃b3,b3=w2.heap.size:=⟨_,rfl⟩
   rw[← hb3] at hbk
   have hw3:w.heap.size≤b3:=by have:=En.out.size;omega
   have hg3:b3≠g:=by omega
   have hB3:B≤b3:=by omega
   have sH:w.heap.size≠b3:=by have:=bD HB2.out;omega
   have qg:=ah.mk hbk;have HB3:=ah.mk (aD HB2.out hba);have HT3:=ah.mk (HT2.out.below hba);have xG:=ah.mk (En.out.trans (jK.below hba))
   have c3:w3.cell? ⟨b3,0,none⟩=some (.int .i64 k):=by rw[ak qg.out];rfl
   clear hba hbk;rw[abl,← hb3];clear abl hb3;by_cases k1:k=1
   ·have t1:(k == 1)=true:=beq_iff_eq.2 k1;rw[if_pos k1] at ho
    go_wp2_with fail
    cases h4:gF 8 l2 with
    | none=>
     rw[h4] at ho;have HE:=ah.mk (show o=none from ho.symm);refine (lN HT3.out (by decide) hl2 h4).mono ?_;intro e w9 hh;obtain⟨he,mJ⟩:=hh;unfold dN at he;subst he
     go_wp2_with fail
     exact⟨rfl,by rw[HE.out];exact⟨rfl,xG.out.trans mJ⟩⟩
    | some q=>
     obtain⟨sz,l3⟩:=q;rw[h4] at ho;dsimp only at ho;refine (lM HT3.out (by decide) hl2 h4).mono ?_;rintro e w4 ⟨rfl,Us,tX⟩;have Hf:=ah.mk (xG.out.trans tX);have QC:=ah.mk Us;have mH:=ah.mk (tX.box HB3.out hg2);have vT:=ah.mk (tX.box qg.out hg3);have hl3:=(fD h4 hl2).1;have z4:=bD vT.out;have f4:=av vT.out 3;have y4:w4.cell? ⟨b3,3,none⟩=some _:=ak vT.out 3;have oV:=ah.mk (show (w4.setCell ⟨b3,3,none⟩ (.int .i64 sz)).heap[b3]?=some (.cells #[.int .i64 k,.string p,.string ⟨#[]⟩,.int .i64 sz,.slice none 0 0,.slice none 0 0] 29 (0,0)) by have:=dD vT.out 3 (.int .i64 sz);simpa using this);have iV:=ah.mk (show (w4.setCell ⟨b3,3,none⟩ (.int .i64 sz)).heap[w.heap.size]?=some (.cells #[.int .i64 0,.string ⟨#[]⟩,.string ⟨#[]⟩,.int .i64 0,.slice none 0 0,.slice none 0 0] 29 (0,0)) from (Below.heap_setCell w4 ⟨b3,3,none⟩ (.int .i64 sz) _ sH).trans mH.out);have Oc:=ah.mk (QC.out.set (.int .i64 sz) (j:=3) hB3 hg3);have NK:=ah.mk (Ft.set Hf.out hw3 3 (.int .i64 sz))
     obtain⟨w5,BN⟩:∃w5,w4.setCell ⟨b3,3,none⟩ (.int .i64 sz)=w5:=⟨_,rfl⟩
     rw[BN] at oV iV Oc NK
     go_wp2_with fail
     try rw[BN]
     clear BN z4 f4 y4
     cases h6:lg l3 with
     | none=>
      have cc:=rC B w5 g l3 Oc.out hl3;rw[h6] at cc;rw[h6] at ho;have HE:=ah.mk (show o=none from ho.symm);refine (cc).mono ?_;intro e w9 hh;obtain⟨he,mJ⟩:=hh;unfold dN at he;subst he
      go_wp2_with fail
      exact⟨rfl,by rw[HE.out];exact⟨rfl,NK.out.trans mJ⟩⟩
     | some q=>
      obtain⟨rs,all,l4⟩:=q;rw[h6] at ho;dsimp only at ho;have cc:=rC B w5 g l3 Oc.out hl3;rw[h6] at cc;refine cc.mono ?_;rintro e w6 ⟨v4,rfl,hr6,ht6,Hq⟩;have Wv:=ah.mk (NK.out.trans Hq);have LM:=ah.mk ht6;have qd:=ah.mk (Hq.box iV.out hg2);have zF:=ah.mk (Hq.box oV.out hg3);obtain⟨A4,c4,hv4⟩:=Kd.bH hr6;subst hv4;obtain⟨hl4,al8,ha0,ha1,_⟩:=nX h6 hl3;have sF:=ah.mk (uW hr6 NK.out.size);clear cc;have z6:=bD zF.out;have f6:=av zF.out 4;have y6:w6.cell? ⟨b3,4,none⟩=some _:=ak zF.out 4;have LP:=ah.mk (show (w6.setCell ⟨b3,4,none⟩ (.slice A4 rs.length c4)).heap[b3]?=some (.cells #[.int .i64 k,.string p,.string ⟨#[]⟩,.int .i64 sz,.slice A4 rs.length c4,.slice none 0 0] 29 (0,0)) by have:=dD zF.out 4 (.slice A4 rs.length c4);simpa using this);have yh:=ah.mk (show (w6.setCell ⟨b3,4,none⟩ (.slice A4 rs.length c4)).heap[w.heap.size]?=some (.cells #[.int .i64 0,.string ⟨#[]⟩,.string ⟨#[]⟩,.int .i64 0,.slice none 0 0,.slice none 0 0] 29 (0,0)) from (Below.heap_setCell w6 ⟨b3,4,none⟩ (.slice A4 rs.length c4) _ sH).trans qd.out);have HT7:=ah.mk (LM.out.set (.slice A4 rs.length c4) (j:=4) hB3 hg3);have HF7:=ah.mk (Ft.set Wv.out hw3 4 (.slice A4 rs.length c4))
      obtain⟨w7,hw7⟩:∃w7,w6.setCell ⟨b3,4,none⟩ (.slice A4 rs.length c4)=w7:=⟨_,rfl⟩
      rw[hw7] at LP yh HT7 HF7;have HR7:=ah.mk (Kd.iq sF.out zF.out (by decide) 4 (.slice A4 rs.length c4));rw[hw7] at HR7
      go_wp2_with fail
      try rw[hw7]
      clear hw7 z6 f6 y6 hr6
      cases h8:o7 all l4 with
      | none=>
       have cc:=xI B w7 g l4 all HT7.out hl4 ha0 ha1;rw[h8] at cc;rw[h8] at ho;have HE:=ah.mk (show o=none from ho.symm);refine (cc).mono ?_;intro e w9 hh;obtain⟨he,mJ⟩:=hh;unfold dN at he;subst he
       go_wp2_with fail
       exact⟨rfl,by rw[HE.out];exact⟨rfl,HF7.out.trans mJ⟩⟩
      | some q=>
       obtain⟨d,l5⟩:=q;rw[h8] at ho;dsimp only at ho;have cc:=xI B w7 g l4 all HT7.out hl4 ha0 ha1;rw[h8] at cc;refine cc.mono ?_;rintro e w8 ⟨v5,rfl,Le,ht8,hf8⟩;have HF8:=ah.mk (HF7.out.trans hf8);have HT8:=ah.mk ht8;have Cz:=ah.mk (hf8.box yh.out hg2);have LQ:=ah.mk (hf8.box LP.out hg3);obtain⟨A5,c5,hv5⟩:=Kd.bH Le;subst hv5;have Xg:=ah.mk (wE Le HF7.out.size);have HQ8:=ah.mk (xH HR7.out HT7.out hf8);clear cc;have z8:=bD LQ.out;have f8:=av LQ.out 5;have y8:w8.cell? ⟨b3,5,none⟩=some _:=ak LQ.out 5;have Hw:=ah.mk (show (w8.setCell ⟨b3,5,none⟩ (.slice A5 d.length c5)).heap[b3]?=some (.cells #[.int .i64 k,.string p,.string ⟨#[]⟩,.int .i64 sz,.slice A4 rs.length c4,.slice A5 d.length c5] 29 (0,0)) by have:=dD LQ.out 5 (.slice A5 d.length c5);simpa using this);have zM:=ah.mk (show (w8.setCell ⟨b3,5,none⟩ (.slice A5 d.length c5)).heap[w.heap.size]?=some (.cells #[.int .i64 0,.string ⟨#[]⟩,.string ⟨#[]⟩,.int .i64 0,.slice none 0 0,.slice none 0 0] 29 (0,0)) from (Below.heap_setCell w8 ⟨b3,5,none⟩ (.slice A5 d.length c5) _ sH).trans Cz.out);have HT9:=ah.mk (HT8.out.set (.slice A5 d.length c5) (j:=5) hB3 hg3);have HF9:=ah.mk (Ft.set HF8.out hw3 5 (.slice A5 d.length c5))
       obtain⟨w9,hw9⟩:∃w9,w8.setCell ⟨b3,5,none⟩ (.slice A5 d.length c5)=w9:=⟨_,rfl⟩
       rw[hw9] at Hw zM HT9 HF9;have TP:=ah.mk (Kd.iq Xg.out LQ.out (by decide) 5 (.slice A5 d.length c5));have HQ9:=ah.mk (Kd.iq HQ8.out LQ.out (by decide) 5 (.slice A5 d.length c5));rw[hw9] at TP HQ9
       go_upto_region 11 with (fail)
       try rw[hw9]
       clear hw9 z8 f8 y8 Le;have HE:=ah.mk (show o=some _ from ho.symm)
       go_wp2_with (first
        | (refine dR (.load 29 (.tmp 3)) rfl ?_;refine wpList_load_row rfl _ _ rfl b3 rfl 29 #[.int .i64 k,.string p,.string ⟨#[]⟩,.int .i64 sz,.slice A4 rs.length c4,.slice A5 d.length c5] (0,0) _ Hw.out Tryz.underlying29 rfl (by kernel_rfl) ?_)
        | (refine dR (.store 29 (.tmp 2) (.tmp 33)) rfl ?_;refine wpList_store_row rfl 29 (.tmp 2) (.tmp 33) rfl w.heap.size #[.int .i64 k,.string p,.string ⟨#[]⟩,.int .i64 sz,.slice A4 rs.length c4,.slice A5 d.length c5] rfl rfl 29 _ zM.out (by kernel_rfl) (by rfl) ?one ?_;(case one=>obtain⟨b4,d4,e4⟩:=Kd.bH HQ9.out;obtain⟨b5,d5,e5⟩:=Kd.bH TP.out;rw[e4,e5];simp[Value.oneCell'])))
       rw[HE.out];refine bodyPost_ret (results_cell_row rfl _ _ w.heap.size 29 #[.int .i64 k,.string p,.string ⟨#[]⟩,.int .i64 sz,.slice A4 rs.length c4,.slice A5 d.length c5] (0,0) _ rfl (setRow_heap _ _ _ _ _ _ zM.out) Tryz.underlying29 rfl (by kernel_rfl)) rfl ⟨_,_,rfl,?_,?_,HT9.out.row _ (by omega) hg2,Ft.row HF9.out (Nat.le_refl _) _⟩
       ·exact jM HQ9.out zM.out (by decide) _
       ·exact jM TP.out zM.out (by decide) _
   ·have t1:(k == 1)=false:=beq_eq_false_iff_ne.2 k1;rw[if_neg k1] at ho;by_cases k3:k=3∨k=4
    ·have t3:(k == 3)=true∨((k == 3)=false∧(k == 4)=true):=by
      by_cases h:k=3
      ·exact .inl (beq_iff_eq.2 h)
      ·exact .inr ⟨beq_eq_false_iff_ne.2 h,beq_iff_eq.2 (by omega)⟩
     rw[if_pos k3] at ho;clear k1 k3
     rcases t3 with t3|⟨t3,t4⟩
     ·go_wp2_with fail
      cases h4:iF l2 with
      | none=>
       have cc:=kV B w3 g l2 HT3.out hl2;rw[h4] at cc;rw[h4] at ho;have HE:=ah.mk (show o=none from ho.symm);refine (cc).mono ?_;intro e w9 hh;obtain⟨he,mJ⟩:=hh;unfold dN at he;subst he
       go_wp2_with fail
       exact⟨rfl,by rw[HE.out];exact⟨rfl,xG.out.trans mJ⟩⟩
      | some q=>
       obtain⟨t,l3⟩:=q;rw[h4] at ho;dsimp only at ho;have cc:=kV B w3 g l2 HT3.out hl2;rw[h4] at cc;refine cc.mono ?_;rintro e w4 ⟨rfl,Us,tX⟩;have Hf:=ah.mk (xG.out.trans tX);have QC:=ah.mk Us;have mH:=ah.mk (tX.box HB3.out hg2);have vT:=ah.mk (tX.box qg.out hg3);clear cc;have z4:=bD vT.out;have f4:=av vT.out 2;have y4:w4.cell? ⟨b3,2,none⟩=some _:=ak vT.out 2;have oV:=ah.mk (show (w4.setCell ⟨b3,2,none⟩ (.string t)).heap[b3]?=some (.cells #[.int .i64 k,.string p,.string t,.int .i64 0,.slice none 0 0,.slice none 0 0] 29 (0,0)) by have:=dD vT.out 2 (.string t);simpa using this);have iV:=ah.mk (show (w4.setCell ⟨b3,2,none⟩ (.string t)).heap[w.heap.size]?=some (.cells #[.int .i64 0,.string ⟨#[]⟩,.string ⟨#[]⟩,.int .i64 0,.slice none 0 0,.slice none 0 0] 29 (0,0)) from (Below.heap_setCell w4 ⟨b3,2,none⟩ (.string t) _ sH).trans mH.out);have Oc:=ah.mk (QC.out.set (.string t) (j:=2) hB3 hg3);have NK:=ah.mk (Ft.set Hf.out hw3 2 (.string t))
       obtain⟨w5,BN⟩:∃w5,w4.setCell ⟨b3,2,none⟩ (.string t)=w5:=⟨_,rfl⟩
       rw[BN] at oV iV Oc NK
       go_upto_region 11 with (fail)
       try rw[BN]
       clear BN z4 f4 y4;have HE:=ah.mk (show o=some _ from ho.symm)
       go_wp2_with (first
        | (refine dR (.load 29 (.tmp 3)) rfl ?_;refine wpList_load_row rfl _ _ rfl b3 rfl 29 #[.int .i64 k,.string p,.string t,.int .i64 0,.slice none 0 0,.slice none 0 0] (0,0) _ oV.out Tryz.underlying29 rfl (by kernel_rfl) ?_)
        | (refine dR (.store 29 (.tmp 2) (.tmp 33)) rfl ?_;refine wpList_store_row rfl 29 (.tmp 2) (.tmp 33) rfl w.heap.size #[.int .i64 k,.string p,.string t,.int .i64 0,.slice none 0 0,.slice none 0 0] rfl rfl 29 _ iV.out (by kernel_rfl) (by rfl) ?one ?_;(case one=>simp[Value.oneCell'])))
       rw[HE.out];refine bodyPost_ret (results_cell_row rfl _ _ w.heap.size 29 #[.int .i64 k,.string p,.string t,.int .i64 0,.slice none 0 0,.slice none 0 0] (0,0) _ rfl (setRow_heap _ _ _ _ _ _ iV.out) Tryz.underlying29 rfl (by kernel_rfl)) rfl ⟨.slice none 0 0,.slice none 0 0,rfl,?_,?_,Oc.out.row _ (by omega) hg2,Ft.row NK.out (Nat.le_refl _) _⟩
       ·exact Kd.fA _ _ _ _ _
       ·exact Kd.fA _ _ _ _ _
     ·go_wp2_with fail
      cases h4:iF l2 with
      | none=>
       have cc:=kV B w3 g l2 HT3.out hl2;rw[h4] at cc;rw[h4] at ho;have HE:=ah.mk (show o=none from ho.symm);refine (cc).mono ?_;intro e w9 hh;obtain⟨he,mJ⟩:=hh;unfold dN at he;subst he
       go_wp2_with fail
       exact⟨rfl,by rw[HE.out];exact⟨rfl,xG.out.trans mJ⟩⟩
      | some q=>
       obtain⟨t,l3⟩:=q;rw[h4] at ho;dsimp only at ho;have cc:=kV B w3 g l2 HT3.out hl2;rw[h4] at cc;refine cc.mono ?_;rintro e w4 ⟨rfl,Us,tX⟩;have Hf:=ah.mk (xG.out.trans tX);have QC:=ah.mk Us;have mH:=ah.mk (tX.box HB3.out hg2);have vT:=ah.mk (tX.box qg.out hg3);clear cc;have z4:=bD vT.out;have f4:=av vT.out 2;have y4:w4.cell? ⟨b3,2,none⟩=some _:=ak vT.out 2;have oV:=ah.mk (show (w4.setCell ⟨b3,2,none⟩ (.string t)).heap[b3]?=some (.cells #[.int .i64 k,.string p,.string t,.int .i64 0,.slice none 0 0,.slice none 0 0] 29 (0,0)) by have:=dD vT.out 2 (.string t);simpa using this);have iV:=ah.mk (show (w4.setCell ⟨b3,2,none⟩ (.string t)).heap[w.heap.size]?=some (.cells #[.int .i64 0,.string ⟨#[]⟩,.string ⟨#[]⟩,.int .i64 0,.slice none 0 0,.slice none 0 0] 29 (0,0)) from (Below.heap_setCell w4 ⟨b3,2,none⟩ (.string t) _ sH).trans mH.out);have Oc:=ah.mk (QC.out.set (.string t) (j:=2) hB3 hg3);have NK:=ah.mk (Ft.set Hf.out hw3 2 (.string t))
       obtain⟨w5,BN⟩:∃w5,w4.setCell ⟨b3,2,none⟩ (.string t)=w5:=⟨_,rfl⟩
       rw[BN] at oV iV Oc NK
       go_upto_region 11 with (fail)
       try rw[BN]
       clear BN z4 f4 y4;have HE:=ah.mk (show o=some _ from ho.symm)
       go_wp2_with (first
        | (refine dR (.load 29 (.tmp 3)) rfl ?_;refine wpList_load_row rfl _ _ rfl b3 rfl 29 #[.int .i64 k,.string p,.string t,.int .i64 0,.slice none 0 0,.slice none 0 0] (0,0) _ oV.out Tryz.underlying29 rfl (by kernel_rfl) ?_)
        | (refine dR (.store 29 (.tmp 2) (.tmp 33)) rfl ?_;refine wpList_store_row rfl 29 (.tmp 2) (.tmp 33) rfl w.heap.size #[.int .i64 k,.string p,.string t,.int .i64 0,.slice none 0 0,.slice none 0 0] rfl rfl 29 _ iV.out (by kernel_rfl) (by rfl) ?one ?_;(case one=>simp[Value.oneCell'])))
       rw[HE.out];refine bodyPost_ret (results_cell_row rfl _ _ w.heap.size 29 #[.int .i64 k,.string p,.string t,.int .i64 0,.slice none 0 0,.slice none 0 0] (0,0) _ rfl (setRow_heap _ _ _ _ _ _ iV.out) Tryz.underlying29 rfl (by kernel_rfl)) rfl ⟨.slice none 0 0,.slice none 0 0,rfl,?_,?_,Oc.out.row _ (by omega) hg2,Ft.row NK.out (Nat.le_refl _) _⟩
       ·exact Kd.fA _ _ _ _ _
       ·exact Kd.fA _ _ _ _ _
    ·have t3:(k == 3)=false:=beq_eq_false_iff_ne.2 (by omega);have t4:(k == 4)=false:=beq_eq_false_iff_ne.2 (by omega);rw[if_neg k3] at ho;clear k1 k3
     go_upto_region 11 with (fail)
     have HE:=ah.mk (show o=some _ from ho.symm)
     go_wp2_with (first
      | (refine dR (.load 29 (.tmp 3)) rfl ?_;refine wpList_load_row rfl _ _ rfl b3 rfl 29 #[.int .i64 k,.string p,.string ⟨#[]⟩,.int .i64 0,.slice none 0 0,.slice none 0 0] (0,0) _ qg.out Tryz.underlying29 rfl (by kernel_rfl) ?_)
      | (refine dR (.store 29 (.tmp 2) (.tmp 33)) rfl ?_;refine wpList_store_row rfl 29 (.tmp 2) (.tmp 33) rfl w.heap.size #[.int .i64 k,.string p,.string ⟨#[]⟩,.int .i64 0,.slice none 0 0,.slice none 0 0] rfl rfl 29 _ HB3.out (by kernel_rfl) (by rfl) ?one ?_;(case one=>simp[Value.oneCell'])))
     rw[HE.out];refine bodyPost_ret (results_cell_row rfl _ _ w.heap.size 29 #[.int .i64 k,.string p,.string ⟨#[]⟩,.int .i64 0,.slice none 0 0,.slice none 0 0] (0,0) _ rfl (setRow_heap _ _ _ _ _ _ HB3.out) Tryz.underlying29 rfl (by kernel_rfl)) rfl ⟨.slice none 0 0,.slice none 0 0,rfl,?_,?_,HT3.out.row _ (by omega) hg2,Ft.row xG.out (Nat.le_refl _) _⟩
     ·exact Kd.fA _ _ _ _ _
     ·exact Kd.fA _ _ _ _ _
end Go.Proofs.YtknihldkhedpkaaGreatDoor
end
