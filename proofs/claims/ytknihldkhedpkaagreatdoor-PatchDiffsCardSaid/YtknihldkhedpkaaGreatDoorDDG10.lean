import Derived.Test.YtknihldkhedpkaaGreatDoorDDG7
import Derived.Test.YtknihldkhedpkaaGreatDoorDDG9
import Derived.Test.YtknihldkhedpkaaGreatDoorDDG5
import Derived.Laws.BitsLemmas
import Derived.WalkLawsBesides
import Derived.Lib.EndianBits
import Derived.Test.YtknihldkhedpkaaGreatDoorDDG6
import Derived.Laws.Rows
import Derived.Defers
import Derived.Recover
import Derived.Test.YtknihldkhedpkaaGreatDoorDDG3
import Derived.LoopNIn
import Derived.LoopIn
import Derived.Deep.LoopGhost
import Derived.Shelf.Abstract
import Derived.Shelf.RegionOpen
import Derived.Lib.SplitLaws
set_option linter.all false
set_option maxHeartbeats 16000000
set_option maxRecDepth 100000
section
namespace Go.Proofs.YtknihldkhedpkaaGreatDoor
open Go.RowKit Go.Lib
open Go.Proofs.YtknihldkhedpkaaGreatDoorW.PrintWords Go.Proofs.YtknihldkhedpkaaGreatDoorW.PrintLast Go.Proofs.YtknihldkhedpkaaGreatDoor.PT
def ji (l:List Int):Int:=((rd l ((l.length:Int) - 1)*256+rd l ((l.length:Int) - 2))*256+rd l ((l.length:Int) - 3))*256+rd l ((l.length:Int) - 4)
theorem OV (l:List Int) (h4:4≤l.length) (hm:l.length≤140737488351232) (hb:∀x∈l,0≤x∧x≤255):iC.f 5 l=some (ji l):=by
 have hr:∀i:Int,0≤i→i<(l.length:Int)→0≤rd l i∧rd l i≤255:=fun i h0 h1=>by
  unfold rd
  have hlt:i.toNat<l.length:=by omega
  rw[List.getD_eq_getElem?_getD,List.getElem?_eq_getElem hlt];exact hb _ (List.getElem_mem hlt)
 have h1:=hr ((l.length:Int) - 1) aj aj;have h2:=hr ((l.length:Int) - 2) aj aj;have h3:=hr ((l.length:Int) - 3) aj aj;have h5:=hr ((l.length:Int) - 4) aj aj
 obtain⟨a,ha⟩:∃a,rd l ((l.length:Int) - 1)=a:=⟨_,rfl⟩
 obtain⟨b,hb⟩:∃a,rd l ((l.length:Int) - 2)=a:=⟨_,rfl⟩
 obtain⟨c,hc⟩:∃a,rd l ((l.length:Int) - 3)=a:=⟨_,rfl⟩
 obtain⟨d,hd⟩:∃a,rd l ((l.length:Int) - 4)=a:=⟨_,rfl⟩
 have w0:wrap64 (wrap64 ((l.length:Int) - 1) - 0)=(l.length:Int) - 1:=by unfold wrap64;omega
 have w1:wrap64 (wrap64 ((l.length:Int) - 1) - 1)=(l.length:Int) - 2:=by unfold wrap64;omega
 have w2:wrap64 (wrap64 ((l.length:Int) - 1) - 2)=(l.length:Int) - 3:=by unfold wrap64;omega
 have w3:wrap64 (wrap64 ((l.length:Int) - 1) - 3)=(l.length:Int) - 4:=by unfold wrap64;omega
 have hor:∀x y:Int,0≤x→x<16777216→0≤y→y≤255→Go.bits .or .i64 (wrap64 (x*256)) (wrap64 y)=x*256+y:=fun x y hx0 hx1 hy0 hy1=>by
  rw[show wrap64 (x*256)=x*256 by unfold wrap64;omega,show wrap64 y=y by unfold wrap64;omega];exact bits_join .i64 40 aH (fun n h0 h1=>by rw[IntKind.wrap_i64];omega) 8 _ _ aj aj aj hy0 aj aj
 rw[ha] at h1;rw[hb] at h2;rw[hc] at h3;rw[hd] at h5;unfold iC.f ji;rw[ha,hb,hc,hd];simp only[iC.l0];rw[if_pos aH,w0,if_pos aj,if_pos aj,ha,hor 0 a aH aH h1.1 h1.2];rw[show wrap64 (0+1)=1 by unfold wrap64;omega,if_pos aH,w1,if_pos aj,if_pos aj,hb,hor _ b aj aj h2.1 h2.2];rw[show wrap64 (1+1)=2 by unfold wrap64;omega,if_pos aH,w2,if_pos aj,if_pos aj,hc,hor _ c aj aj h3.1 h3.2];rw[show wrap64 (2+1)=3 by unfold wrap64;omega,if_pos aH,w3,if_pos aj,if_pos aj,hd,hor _ d aj aj h5.1 h5.2];rw[show wrap64 (3+1)=4 by unfold wrap64;omega,if_neg aH];simp
def jw {α:Type} (a b:α):Nat→α
 | 0=>a
 | _=>b
theorem oF {p:Nat→Prop} (h0:p 0) (h1:p 1):∀i,i<2→p i:=fun i hi=>by
 rcases (show i=0∨i=1 by omega) with rfl|rfl
 ·exact h0
 exact h1
def oG (a b:List It):List Two.Rd:=Two.eO (jw a b) (Two.jL (jw a b) (fun _=>0)) (fun _=>0)
abbrev Mt:It:=⟨0,⟨#[]⟩,⟨#[]⟩,0,[],[]⟩
def qB (a b:Option It):Option Ch :=
 if FE a b=true then none else
 match a,b with
 | some x,none=>some ⟨1,⟨0,x.f1,⟨#[]⟩,0,[],[]⟩,[]⟩
 | some x,some y=>if x.f0=1∧y.f0=1 then some (uh x y) else some ⟨2,y,[]⟩
 | none,some y=>some ⟨2,y,[]⟩
 | none,none=>none
def kN (s:List Ch) (r:Two.Rd):List Ch:=s++(qB r.2.1 r.2.2).toList
def qC (a b:List It):List Ch:=(oG a b).foldl kN []
theorem Ko (l:List Two.Rd):∀s,(l.foldl kN s).length≤s.length+l.length:=by
 induction l with
 | nil=>intro s;exact Nat.le_refl _
 | cons r l ih=>
  intro s;have h:=ih (kN s r)
  have h1:(kN s r).length≤s.length+1:=by
   unfold kN;rw[List.length_append]
   cases qB r.2.1 r.2.2 <;> simp
  simp only[List.foldl_cons,List.length_cons];omega
def agW (w0:World):Kd It:=Kd.Mr (Kd.pair (Kd.int .i64) (Kd.pair Kd.string (Kd.pair Kd.string (Kd.pair (Kd.int .i64) (Kd.pair (Kd.mix 117 dw dw w0) (Kd.mix 5 (Kd.int .u8) (Kd.int .u8) w0)))))) (fun x:It=>(x.f0,x.f1,x.f2,x.f3,x.f4,x.f5))
def uj (w0:World):Kd Ch:=Kd.Mr (Kd.pair (Kd.int .i64) (Kd.pair (agW w0) (Kd.mix 117 dw dw w0))) (fun x:Ch=>(x.f0,x.f1,x.f2))
abbrev acM (w0:World):Kd (List Rn):=Kd.mix 117 dw dw w0
abbrev adV (w0:World):Kd (List Int):=Kd.mix 5 (Kd.int .u8) (Kd.int .u8) w0
theorem oH {w0 w:World} {base:Nat} {ok:Nat→Prop} {x:Ch} {v5 v6 v7:Value} (g5:(acM w0).M w base ok x.f1.f4 [v5]) (g6:(adV w0).M w base ok x.f1.f5 [v6]) (g7:(acM w0).M w base ok x.f2 [v7]) :
  (uj w0).M w base ok x [.int .i64 x.f0,.int .i64 x.f1.f0,.string x.f1.f1,.string x.f1.f2,.int .i64 x.f1.f3,v5,v6,v7] :=
 ⟨[.int .i64 x.f0],[.int .i64 x.f1.f0,.string x.f1.f1,.string x.f1.f2,.int .i64 x.f1.f3,v5,v6,v7],rfl,rfl,
  ⟨[.int .i64 x.f1.f0,.string x.f1.f1,.string x.f1.f2,.int .i64 x.f1.f3,v5,v6],[v7],rfl,
   ⟨[.int .i64 x.f1.f0],[.string x.f1.f1,.string x.f1.f2,.int .i64 x.f1.f3,v5,v6],rfl,rfl,⟨[.string x.f1.f1],[.string x.f1.f2,.int .i64 x.f1.f3,v5,v6],rfl,rfl,⟨[.string x.f1.f2],[.int .i64 x.f1.f3,v5,v6],rfl,rfl,⟨[.int .i64 x.f1.f3],[v5,v6],rfl,rfl,⟨[v5],[v6],rfl,g5,g6⟩⟩⟩⟩⟩,g7⟩⟩
theorem Ji {w0 w:World} (hb:Below w0.heap.size w0 w) {x:Ch} {cs:List Value} (h:(uj w0).K w x cs):EA.K w x cs:=by
 obtain⟨_,_,rfl,rfl,⟨_,_,rfl,⟨_,_,rfl,rfl,⟨_,_,rfl,rfl,⟨_,_,rfl,rfl,⟨_,_,rfl,rfl,⟨_,_,rfl,g4,g5⟩⟩⟩⟩⟩,g7⟩⟩:=h;obtain⟨A4,c4,rfl,l4,r4⟩:=Kd.FH rfl (fun _ _ h=>h) hb g4;obtain⟨A5,c5,rfl,l5,r5⟩:=Kd.FH rfl (fun _ _ h=>h) hb g5;obtain⟨A7,c7,rfl,l7,r7⟩:=Kd.FH rfl (fun _ _ h=>h) hb g7;exact adQ w x l4 r4 l5 r5 l7 r7
theorem Wj {w0:World} {q:Nat} (h:q∈31::(uj w0).E):q=31∨q=117∨q=5:=by
 simp[uj,agW,Kd.Mr,Kd.pair,Kd.int,Kd.scalar,Kd.string,Kd.mix,Kd.or_,Kd.fixed,Kd.slice,dw] at h;omega
structure DI (w:World) (nb pb:Nat) (b0 g0:Int) (S:List Ch) (W:World):Prop where
 low:Below w.heap.size w W
 big:nb≤W.heap.size
 box:∃v,W.heap[pb]?=some (.cells #[.int .i64 b0,.int .i64 g0,v] 24 (0,0))∧Kd.R (uj w) 31 W nb (fun _=>True) v S
def oI (a b:List It):List Int × Int :=
 if (dI a).2≠0 then ([],(dI a).2) else if (dI b).2≠0 then ([],(dI b).2) else jC (ji (dI a).1) (ji (dI b).1) (qC a b)
def iO.f (l0 l1:List It):Option (List Int × Int):=if l0.all rH=true∧l1.all rH=true then some (oI l0 l1) else none
theorem DI.kq {w A C:World} {nb pb B:Nat} {b0 g0:Int} {S:List Ch} (h:DI w nb pb b0 g0 S A) (hq:Kq B A C) (h0:w.heap.size≤B) (h1:pb<B):DI w nb pb b0 g0 S C:=by
 obtain⟨v,hv,FI⟩:=h.box;exact⟨hq.low h0 (Nat.le_refl _) h.low,Nat.le_trans h.big hq.size,v,hq.blocks _ _ hv (.inl h1),hq.row FI (fun q hq=>by rcases Wj hq with rfl|rfl|rfl <;> decide)⟩
theorem DI.below {w A C:World} {nb pb:Nat} {b0 g0:Int} {S:List Ch} (h:DI w nb pb b0 g0 S A) (hb:Below A.heap.size A C):DI w nb pb b0 g0 S C:=by
 obtain⟨v,hv,FI⟩:=h.box;exact⟨h.low.trans (hb.mono h.low.size),Nat.le_trans h.big hb.size,v,aJ hv hb,Kd.bO FI hb⟩
theorem AA (g br:Nat) (w:World) :
  Calls Tryz.prog 50 #[.func (.func g) #[] #[],.slice (some ⟨br,0,none⟩) 2 2] w fun e w'=>e=.returned (.func (.func 87) #[] #[.pointer (some ⟨w.heap.size+1,0,none⟩),.pointer (some ⟨w.heap.size,0,none⟩)]) ∧
   w'=(w.alloc (.cells #[.func (.func g) #[] #[]] 93)).alloc (.cells #[.slice (some ⟨br,0,none⟩) 2 2] 75):=by
 have hz1:∀w,(Go.sizeOf 93).run Tryz.prog w=.ok 1 w:=fun w=>by kernel_rfl
 have hz2:∀w,(Go.sizeOf 75).run Tryz.prog w=.ok 1 w:=fun w=>by kernel_rfl
 go_enter Tryz.func50,Tryz.ntmps50
 go_wp2_with fail
 go_ret
 exact⟨by simp,rfl⟩
theorem AJ:∀(l:List It) (out:List Int) (n:Nat),(nX out n l).2=0→(∀x∈l,Fit x)→(∀b∈out,0≤b∧b≤255)→out.length+9≤4194304→4≤(nX out n l).1.length∧(nX out n l).1.length≤4194304∧∀b∈(nX out n l).1,0≤b∧b≤255
 | [],out,n,_,_,hb,hl=>by
  show 4≤(kP out n).length∧(kP out n).length≤4194304∧∀b∈kP out n,0≤b∧b≤255
  unfold kP;simp only[List.length_append,aU];refine⟨by omega,by omega,fun b h=>?_⟩;simp only[List.mem_append] at h
  rcases h with ((h|h)|h)|h
  ·exact hb b h
  ·exact eP _ _ b h
  ·exact eP _ _ b h
  exact eP _ _ b h
 | x::l,out,n,h,hf,hb,hl=>by
  rw[nX] at h ⊢;split at h
  ·cases h
  rename_i hle;rw[if_neg hle]
  exact AJ l _ _ h (fun y hy=>hf y (by simp[hy])) (fun b hm=>by
   rcases List.mem_append.1 hm with hm|hm
   ·exact hb b hm
   exact FJ (hf x bB) b hm) aj
theorem sI {l:List It} (h:(dI l).2=0) (hf:l.all rH=true):4≤(dI l).1.length∧(dI l).1.length≤4194304∧∀b∈(dI l).1,0≤b∧b≤255:=by
 unfold dI at h ⊢;split at h
 ·cases h
 rename_i h1;rw[if_neg h1];split at h
 ·rename_i h2;rw[if_pos h2];exact AJ l _ _ h (fun x hx=>zH (List.all_eq_true.1 hf x hx)) aH aH
 cases h
theorem FL (size:Int) (hs:0≤size) (hs2:size≤8459264):∀(l:List Ru) (last all l2 a2:Int),gy size last all l=some (l2,a2)→a2=all+(idxs l).length∧∀r∈l,0≤r.f0∧r.f0≤r.f1∧r.f1≤16522
 | [],last,all,l2,a2,h=>by
  simp[gy] at h;obtain⟨rfl,rfl⟩:=h;simp[idxs]
 | r::l,last,all,l2,a2,h=>by
  rw[gy] at h;split at h
  ·cases h
  rename_i hc;obtain⟨h1,h2⟩:=FL size hs hs2 l r.f1 (all+(r.f1 - r.f0)) l2 a2 h
  have hl:(idxs (r::l)).length=(r.f1 - r.f0).toNat+(idxs l).length:=by
   unfold idxs;rw[List.flatMap_cons,List.length_append];simp[jI]
  refine⟨by rw[hl];omega,fun q hq=>?_⟩
  rcases List.mem_cons.1 hq with rfl|hq
  ·omega
  exact h2 q hq
theorem FM {x:It} (hb:∀n∈x.f5,0≤n∧n≤255) (h:dW x.f3 x.f4 x.f5=true):Fits x:=by
 unfold dW at h;split at h
 ·cases h
 rename_i hc
 cases hr:gy x.f3 (-1) 0 x.f4 with
 | none=>rw[hr] at h;cases h
 | some p=>
  obtain⟨l2,a2⟩:=p;have h1:=uU x.f3 aj aj x.f4 (-1) 0 l2 a2 aj aj aj hr;have h2:=FL x.f3 aj aj x.f4 (-1) 0 l2 a2 hr;rw[hr,rJ] at h;split at h
  ·rename_i h3;exact⟨hb,by omega,h2.2,by omega,by omega⟩
  cases h
theorem FN {K:List (ByteArray × Int)}:∀{before:Option (List ByteArray)} {l:List It},gL K before l=true→∀x∈l,x.f0=1→dW x.f3 x.f4 x.f5=true:=by
 intro before l
 induction l generalizing K before with
 | nil=>intro _ x hx;cases hx
 | cons a l ih=>
  intro h x hx h1;rw[gL] at h;simp only[Bool.and_eq_true] at h
  rcases List.mem_cons.1 hx with rfl|hx
  ·have hc:=h.1.2;unfold eT at hc;rw[if_pos h1] at hc;simp only[Bool.and_eq_true] at hc;exact hc.2
  exact ih h.2 x hx h1
theorem um {l:List It} (h:(dI l).2=0) (hf:l.all rH=true):∀x∈l,x.f0=1→Fits x:=fun x hx h1=>
 FM (zH (List.all_eq_true.1 hf x hx)).b (FN (iY h).2 x hx h1)
theorem Uz {x y:It} (fx:Fits x) (fy:Fits y) (hp:y.f1.size≤140737488351232):wX (uh x y):=by
 have h:=qh x y (idxs y.f4) 0 ([],[]);have hl:=fy.l;have hi:=fy.i
 have hm:∀(l:List Int) (k:Nat) (s:List Rn × List Int),(∀b∈s.2,0≤b∧b≤255)→∀b∈(jv x y l k s).2,0≤b∧b≤255:=by
  intro l
  induction l with
  | nil=>intro k s hs;exact hs
  | cons i l ih=>
   intro k s hs;refine ih _ _ ?_;split
   ·intro b hb
    rcases List.mem_append.1 hb with hb|hb
    ·exact hs b hb
    exact fy.b b (List.mem_of_mem_drop (List.mem_of_mem_take hb))
   exact hs
 have h1:(jv x y (idxs y.f4) 0 ([],[])).1.length≤(idxs y.f4).length:=by have:=h.1;simpa using this
 have h2:(jv x y (idxs y.f4) 0 ([],[])).2.length≤512*(idxs y.f4).length:=by have:=h.2;simpa using this
 exact⟨⟨hp,by show (⟨#[]⟩:ByteArray).size≤_;decide,by show y.f4.length≤_;omega,by show (jv x y (idxs y.f4) 0 ([],[])).2.length≤_;omega,hm _ _ _ bB⟩,by show (jv x y (idxs y.f4) 0 ([],[])).1.length≤_;omega⟩
theorem Wm {l0 l1:List It} (h0:(dI l0).2=0) (h1:(dI l1).2=0) (f0:l0.all rH=true) (f1:l1.all rH=true) {a b:Option It} (ha:∀x,a=some x→x∈l0) (hb:∀x,b=some x→x∈l1) {c:Ch} (h:qB a b=some c):wX c:=by
 unfold qB at h;split at h
 ·cases h
 cases a with
 | none=>
  cases b with
  | none=>cases h
  | some y=>
   obtain rfl:=Option.some.inj h;exact⟨zH (List.all_eq_true.1 f1 y (hb y rfl)),Nat.zero_le _⟩
 | some x=>
  cases b with
  | none=>
   obtain rfl:=Option.some.inj h;exact⟨⟨(zH (List.all_eq_true.1 f0 x (ha x rfl))).p,by show (⟨#[]⟩:ByteArray).size≤_;decide,Nat.zero_le _,Nat.zero_le _,fun n hn=>by cases hn⟩,Nat.zero_le _⟩
  | some y=>
   dsimp only at h;split at h
   ·rename_i hk;obtain rfl:=Option.some.inj h;exact Uz (um h0 f0 x (ha x rfl) hk.1) (um h1 f1 y (hb y rfl) hk.2) (zH (List.all_eq_true.1 f1 y (hb y rfl))).p
   obtain rfl:=Option.some.inj h;exact⟨zH (List.all_eq_true.1 f1 y (hb y rfl)),Nat.zero_le _⟩
theorem xY {l0 l1:List It} (h0:(dI l0).2=0) (h1:(dI l1).2=0) (f0:l0.all rH=true) (f1:l1.all rH=true):∀(rs:List Two.Rd) (s:List Ch),(∀r∈rs,(∀x,r.2.1=some x→x∈l0)∧∀x,r.2.2=some x→x∈l1)→(∀c∈s,wX c)→∀c∈rs.foldl kN s,wX c
 | [],s,_,hs=>hs
 | r::rs,s,hr,hs=>by
  refine xY h0 h1 f0 f1 rs _ (fun q hq=>hr q (by simp[hq])) (fun c hc=>?_);unfold kN at hc
  rcases List.mem_append.1 hc with hc|hc
  ·exact hs c hc
  exact Wm h0 h1 f0 f1 (hr r bB).1 (hr r bB).2 (Option.mem_toList.1 hc)
theorem lV {W:World} {n:Nat} (h:W.heap.size=n) (o:Obj):(W.alloc o).heap[n]?=some o:=h▸bF W o
def yO (W:World) (p:Addr) (x:It) (A4:Option Addr) (c4:Nat) (A5:Option Addr) (c5:Nat):Prop :=
 W.cell? p=some (.int .i64 x.f0)∧W.cell? ⟨p.block,p.off+1,none⟩=some (.string x.f1)∧W.cell? ⟨p.block,p.off+2,none⟩=some (.string x.f2)∧W.cell? ⟨p.block,p.off+3,none⟩=some (.int .i64 x.f3)∧W.cell? ⟨p.block,p.off+4,none⟩=some (.slice A4 x.f4.length c4)∧W.cell? ⟨p.block,p.off+5,none⟩=some (.slice A5 x.f5.length c5)
theorem yO.below {W W1:World} {p:Addr} {x:It} {A4:Option Addr} {c4:Nat} {A5:Option Addr} {c5:Nat} (h:yO W p x A4 c4 A5 c5) (hb:Below W.heap.size W W1):yO W1 p x A4 c4 A5 c5 :=
 ⟨au hb h.1,au hb h.2.1,au hb h.2.2.1,au hb h.2.2.2.1,au hb h.2.2.2.2.1,au hb h.2.2.2.2.2⟩
structure Lie (W:World) (x:It) (A4:Option Addr) (c4:Nat) (A5:Option Addr) (c5:Nat):Prop where
 l4:x.f4.length≤c4
 g4:Kd.C dw W A4 x.f4.length x.f4
 l5:x.f5.length≤c5
 g5:Kd.C (Kd.int .u8) W A5 x.f5.length x.f5
theorem OI.six {W:World} {v:Value} {x:It} (h:OI W v (some x)):∃ad A4 c4 A5 c5,v=.pointer (some ad)∧yO W ad x A4 c4 A5 c5∧Lie W x A4 c4 A5 c5:=by
 obtain⟨ad,A4,c4,A5,c5,e,r0,r1,r2,r3,r4,r5,l4,g4,l5,g5⟩:=h;exact⟨ad,A4,c4,A5,c5,e,⟨r0,r1,r2,r3,r4,r5⟩,l4,g4,l5,g5⟩
theorem Lie.below {W W1:World} {x:It} {A4:Option Addr} {c4:Nat} {A5:Option Addr} {c5:Nat} (h:Lie W x A4 c4 A5 c5) (hb:Below W.heap.size W W1):Lie W1 x A4 c4 A5 c5:=⟨h.l4,Kd.aC h.g4 hb,h.l5,Kd.aC h.g5 hb⟩
def yP (w:World) (nb pb b1 b2 br:Nat) (b0 g0:Int) (S:List Ch) (W:World) (e:Exit) (B:World):Prop :=
 e=.normal∧DI w nb pb b0 g0 S B∧KpR w.heap.size (fun k=>k=b1∨k=b2∨k=br) W B∧Still nb W B
theorem yP.eq {w:World} {nb pb b1 b2 br:Nat} {b0 g0:Int} {S:List Ch} {W B:World} {e:Exit} (h:yP w nb pb b1 b2 br b0 g0 S W e B):e=.normal:=h.1
theorem alW {w:World} {nb pb:Nat} {b0 g0:Int} {S0 S:List Ch} {W:World} (hi:DI w nb pb b0 g0 S0 W) (h0:w.heap.size≤pb) (h1:nb=pb+4) :
  ∀B,DI w nb pb b0 g0 S B→ng nb (fun k=>k=pb) (fun q=>q=31) W B→yP w nb pb (pb+1+1) (pb+1+1+1) (pb+1) b0 g0 S W .normal B:=fun B hd hc=>by
 obtain⟨v,hv,_⟩:=hi.box;have hbig:=hi.big;exact⟨rfl,hd,hc.kp aj (fun k hk=>by omega) aj (fun k hk=>by omega) aH (fun k hk cs e=>by rw[hk,hv] at e;injection e with e;injection e with _ e;exact absurd e aH),hc.still (fun k hk=>by omega)⟩
theorem Two.Wn {rs:List Two.Rd} {w0 W:World} {pre:List Two.oJ} {x:Two.oJ} {l:Nat} {o o':Obj} (h:Two.Sn rs w0 pre x W) (ho:W.heap[l]?=some o) (hc:o.isCells=false):Two.Sn rs w0 pre x (W.putObj l o'):=by
 obtain⟨hr,p0,p1,hg,h0,h1⟩:=h;refine⟨hr,p0,p1,(World.putObj_heap_other (fun e=>?_)).trans hg,h0,h1⟩;rw[e,ho] at hg
 injection hg with hg
 subst hg;cases hc
theorem Two.here {L:Nat→List It}:∀{n:Nat} {p:Nat→Nat} {r:Two.Rd},r∈Two.eO L n p→(∀x,r.2.1=some x→x∈L 0)∧(∀x,r.2.2=some x→x∈L 1)
 | 0,p,r,h=>by cases h
 | n+1,p,r,h=>by
  rw[Two.eO] at h
  cases hk:jM L p 2 with
  | none=>
   rw[hk] at h;cases h
  | some k=>
   rw[hk] at h
   rcases List.mem_cons.1 h with rfl|h
   ·exact⟨fun x hx=>(xZ hx).1,fun x hx=>(xZ hx).1⟩
   exact Two.here h
theorem Two.length {L:Nat→List It}:∀(n:Nat) (p:Nat→Nat),(Two.eO L n p).length≤n
 | 0,p=>Nat.le_refl _
 | n+1,p=>by
  rw[Two.eO]
  cases jM L p 2 with
  | none=>exact Nat.zero_le _
  | some k=>exact Nat.succ_le_succ (Two.length n _)
theorem DI.push {w W W1:World} {nb pb:Nat} {b0 g0:Int} {S:List Ch} {c:Ch} {v v1:Value} (h:DI w nb pb b0 g0 S W) (hv:W.heap[pb]?=some (.cells #[.int .i64 b0,.int .i64 g0,v] 24 (0,0))) (hr:Kd.R (uj w) 31 W nb (fun _=>True) v S)
  (hr1:Kd.R (uj w) 31 W1 nb (fun _=>True) v1 (S++[c])) (hg:W.grownBy W1 v.ownBlock) (h0:w.heap.size≤nb) (h1:w.heap.size≤pb):DI w nb pb b0 g0 (S++[c]) (W1.setCell ⟨pb,2,none⟩ v1):=by
 have hb:=(hg.block _ (bG hv) (gX hr hv (fun cs e=>by injection e with _ e;exact absurd e aH))).trans hv;refine⟨((h.low.grown hg h.low.size (fun k e=>by have:=Kd.tV hr k e;omega)).setCell (by show w.heap.size≤pb;omega) _),?_,v1,gY hb 2 v1 (by rfl),?_⟩
 ·have h2:=((Below.refl 0 W1).setCell (p:=⟨pb,2,none⟩) (Nat.zero_le _) v1).size;exact Nat.le_trans h.big (Nat.le_trans hg.size h2)
 exact Kd.oK hr1 hb (fun q hq=>by rcases Wj hq with rfl|rfl|rfl <;> decide) 2 v1
theorem tX:(Tryz.prog.info? 31).map (fun i=>(i.zero,i.size,i.bytes))=some (some (.agg #[.int .i64 0,.int .i64 0,.string ⟨#[]⟩,.string ⟨#[]⟩,.int .i64 0,.slice none 0 0,.slice none 0 0,.slice none 0 0]),8,128):=by kernel_rfl
def C9 (c:Ch):ByteArray:=bY 47 0 c.f1.f1
def wL:List Ch→ByteArray→Option Ch
 | [],_=>none
 | c::l,k=>match wL l k with
  | some d=>some d
  | none=>if C9 c=k then some c else none
theorem UA (l:List Ch) (c:Ch) (k:ByteArray):wL (l++[c]) k=if C9 c=k then some c else wL l k:=by
 induction l with
 | nil=>simp[wL]
 | cons y l ih=>
  show (match wL (l++[c]) k with|some d=>some d|none=>if C9 y=k then some y else none)=_
  rw[ih];by_cases e:C9 c=k
  ·rw[if_pos e,if_pos e]
  rw[if_neg e,if_neg e];rfl
theorem Mv:∀{l:List Ch} {k:ByteArray} {c:Ch},wL l k=some c→c∈l∧C9 c=k
 | [],_,_,h=>by cases h
 | y::l,k,c,h=>by
  rw[wL] at h
  cases hl:wL l k with
  | some d=>
   rw[hl] at h;obtain rfl:=Option.some.inj h;have:=Mv hl;exact⟨List.mem_cons_of_mem _ this.1,this.2⟩
  | none=>
   rw[hl] at h;dsimp only at h;split at h
   ·rename_i e;obtain rfl:=Option.some.inj h;exact⟨List.mem_cons_self,e⟩
   cases h
theorem Jj:∀{l:List Ch} {k:ByteArray},wL l k=none→∀c∈l,C9 c≠k
 | [],_,_,c,hc=>by cases hc
 | y::l,k,h,c,hc=>by
  rw[wL] at h
  cases hl:wL l k with
  | some d=>rw[hl] at h;cases h
  | none=>
   rw[hl] at h;dsimp only at h;split at h
   ·cases h
   rename_i e
   rcases List.mem_cons.1 hc with rfl|hc
   ·exact e
   exact Jj hl c hc
def zI (c:Ch):It:=⟨0,c.f1.f1,⟨#[]⟩,0,[],[]⟩
def fC (cs:List Ch):List It:=cs.map zI
def Kr (a:Option It) (c:Ch):Option It:=a.bind fun x=>Zr x c
def AL (cs:List Ch) (r:Two.Rd):Option (List It) :=
 match wL cs r.1 with
 | none=>some r.2.1.toList
 | some c=>if c.f0=2 then some [c.f1] else if c.f0=3 then (Kr r.2.1 c).map (fun x=>[x]) else if r.2.1=none then none else some []
def oL (cs:List Ch):List Two.Rd→List It→Option (List It)
 | [],s=>some s
 | r::rs,s=>match AL cs r with
  | none=>none
  | some l=>oL cs rs (s++l)
def AO (a:List It) (cs:List Ch):Option (List It):=oL cs (oG a (fC cs)) []
theorem Da (cs:List Ch):∀(a b:List Two.Rd) (s:List It),oL cs (a++b) s=(oL cs a s).bind (oL cs b)
 | [],b,s=>rfl
 | r::a,b,s=>by
  rw[List.cons_append,oL,oL]
  cases AL cs r with
  | none=>rfl
  | some l=>exact Da cs a b (s++l)
theorem AP (cs:List Ch):∀(rs:List Two.Rd) (s t:List It),oL cs rs s=some t→t.length≤s.length+rs.length
 | [],s,t,h=>by
  obtain rfl:=Option.some.inj h;simp
 | r::rs,s,t,h=>by
  rw[oL] at h
  cases ho:AL cs r with
  | none=>rw[ho] at h;cases h
  | some l=>
   rw[ho] at h;have h1:=AP cs rs _ t h
   have h2:l.length≤1:=by
    unfold AL at ho;split at ho
    ·obtain rfl:=Option.some.inj ho
     cases r.2.1 <;> simp
    split at ho
    ·obtain rfl:=Option.some.inj ho;simp
    split at ho
    ·rename_i c _ _ _
     cases he:Kr r.2.1 c with
     | none=>rw[he] at ho;cases ho
     | some x=>
      rw[he] at ho;obtain rfl:=Option.some.inj ho;simp
    split at ho
    ·cases ho
    obtain rfl:=Option.some.inj ho;simp
   rw[List.length_append] at h1;simp only[List.length_cons];omega
theorem Two.key {L:Nat→List It}:∀{n:Nat} {p:Nat→Nat} {r:Two.Rd},r∈Two.eO L n p→(∀x,r.2.1=some x→gu x=r.1)∧(∀x,r.2.2=some x→gu x=r.1)∧(r.2.1=none→∃x,r.2.2=some x)
 | 0,p,r,h=>by cases h
 | n+1,p,r,h=>by
  rw[Two.eO] at h
  cases hk:jM L p 2 with
  | none=>
   rw[hk] at h;cases h
  | some k=>
   rw[hk] at h
   rcases List.mem_cons.1 h with rfl|h
   ·have hkk:∀{a b:ByteArray},a.toList=b.toList→a=b:=fun {a b} h=>nY (by rw[Lib.toList_data,Lib.toList_data] at h;exact h)
    refine⟨fun x hx=>hkk (xZ hx).2,fun x hx=>hkk (xZ hx).2,fun hn=>?_⟩;obtain⟨j,x,hj,h1,h2⟩:=pX hk
    rcases (show j=0∨j=1 by omega) with rfl|rfl
    ·exfalso;have hn:fO L p k 0=none:=hn;unfold fO at hn;rw[h1] at hn;subst h2;simp at hn
    refine⟨x,?_⟩
    show fO L p k 1=some x
    unfold fO;rw[h1];subst h2;simp
   exact Two.key h
end Go.Proofs.YtknihldkhedpkaaGreatDoor
end
section
namespace Go.Proofs.YtknihldkhedpkaaGreatDoor
open Go.RowKit Go.Maps Go.WideAt
open Go.Proofs.YtknihldkhedpkaaGreatDoorW.PrintWords Go.Proofs.YtknihldkhedpkaaGreatDoorW.PrintLast Go.Proofs.YtknihldkhedpkaaGreatDoor.PT
structure alX (c:Ch):Prop where
 b:∀n∈c.f1.f5,0≤n∧n≤255
 n:c.f1.f5.length=512*(idxs c.f2).length
 r:∀r∈c.f2,0≤r.f0∧r.f0≤r.f1∧r.f1≤16522
 l:c.f2.length≤16523
 i:(idxs c.f2).length≤16523
 r4:∀r∈c.f1.f4,0≤r.f0∧r.f0≤r.f1∧r.f1≤16522
 l4:c.f1.f4.length≤16523
 i4:(idxs c.f1.f4).length≤16523
structure EtS (w:World) (m5 n5:Nat) (F5:Lit→Option Value) (m6 n6:Nat) (F6:Lit→Option Value) (p:Nat) (path:ByteArray) (sz:Int) (v4:Value) (rows:List Rn) (rb:Nat) (rcs:Array Value) (rt:TypeId) (v5:Value) (d:List Int) (wx:World):Prop where
 low:Below w.heap.size w wx
 mp5:mq Tryz.prog 3 wx m5 n5 F5
 mp6:mq Tryz.prog 3 wx m6 n6 F6
 box:wx.heap[p]?=some (.cells #[.int .i64 1,.string path,.string ⟨#[]⟩,.int .i64 sz,v4,v5] 29 (0,0))
 res:wx.heap[w.heap.size+1]?=some (.cells #[.int .i64 0,.string ⟨#[]⟩,.string ⟨#[]⟩,.int .i64 0,.slice none 0 0,.slice none 0 0] 29 (0,0))
 Zt:wx.heap[rb]?=some (.cells rcs rt (0,0))
 runs:Kd.R dw 117 wx w.heap.size (fun _=>True) v4 rows
 data:Kd.R (Kd.int .u8) 5 wx w.heap.size (fun _=>True) v5 d
 hp:w.heap.size+1<p
 hr:rb≠p∧rt≠5
section
variable {w : World} {m5 n5 : Nat} {F5 : Lit → Option Value} {m6 n6 : Nat} {F6 : Lit → Option Value} {p : Nat} {path : ByteArray} {sz : Int} {v4 : Value} {rows : List Rn} {rb : Nat} {rcs : Array Value} {rt : TypeId} {v5 : Value} {d : List Int} {wx : World}
theorem EtS.below {w1:World} (h:EtS w m5 n5 F5 m6 n6 F6 p path sz v4 rows rb rcs rt v5 d wx) (hb:Below wx.heap.size wx w1):EtS w m5 n5 F5 m6 n6 F6 p path sz v4 rows rb rcs rt v5 d w1 :=
 ⟨h.low.trans (hb.mono h.low.size),h.mp5.below hb,h.mp6.below hb,aJ h.box hb,aJ h.res hb,aJ h.Zt hb,Kd.bO h.runs hb,Kd.bO h.data hb,h.hp,h.hr⟩
end
abbrev chV (c:Ch) (C4:Option Addr) (wF:Nat) (C5:Option Addr) (wG:Nat) (C7:Option Addr) (zJ:Nat):Value:=.agg #[.int .i64 c.f0,.int .i64 c.f1.f0,.string c.f1.f1,.string c.f1.f2,.int .i64 c.f1.f3,.slice C4 c.f1.f4.length wF,.slice C5 c.f1.f5.length wG,.slice C7 c.f2.length zJ]
theorem Zu (p:Option Addr) (w:World):(binOp .eql 95 (.pointer p) (.pointer none)).run Tryz.prog w=.ok (.bool p.isNone) w:=run_eql_pointer_nil w _ p (show Tryz.prog.underlying 95=some (.pointer (Tryz.prog.pointee 95)) by kernel_rfl)
end Go.Proofs.YtknihldkhedpkaaGreatDoor
end
section
namespace Go.Proofs.YtknihldkhedpkaaGreatDoor
open Go.RowKit Go.Lib
open Go.Proofs.YtknihldkhedpkaaGreatDoorW.PrintWords Go.Proofs.YtknihldkhedpkaaGreatDoorW.PrintLast Go.Proofs.YtknihldkhedpkaaGreatDoor.PT
theorem adW (P:Program) (t e:TypeId) (kh:IntKind) {i:TypeInfo} (ht:P.underlying t=some (.slice e)) (hi:P.info? e=some i) (A:Option Addr) (n c:Nat) (j:Int) (h0:0≤j) (hm:j≤n) (hc:n≤c) :
  ∀W:World,(Instr.slice t (.slice A n c) none (some (.int kh j)) (some (.int kh j))).run P W=.ok (.slice A j.toNat j.toNat) W:=by
 intro W
 have hel:P.elem t=e:=by simp[Program.elem,ht]
 have hu:P.underlying t=some (.slice (P.elem t)):=by rw[hel];exact ht
 have ha:(A.map fun x=>x.add 0)=A:=by cases A <;> simp[Addr.add]
 rw[run_slice_hm W t A n c hu kh kh j j h0 (Int.le_refl _) aj,hel];simp[sizeOf,typeInfo,hi,sliced,Result.andThen,ha]
def Tk (B:Nat) (w:World) (g:Nat) (left:List Int):Prop:=B≤g∧∃A c,w.heap[g]?=some (.cells #[.slice A left.length c] 145 (0,0))∧left.length≤c∧(left≠[]→∀ad,A=some ad→ad.block<B)∧Kd.C (Kd.int .u8) w A left.length left
abbrev Ft (g:Nat):World→World→Prop:=ng 0 (· = g) (fun _=>False)
theorem add_block (ad:Addr) (n:Nat):(ad.add n).block=ad.block:=by
 unfold Addr.add
 repeat' split
 all_goals rfl
theorem Tk.lt {B:Nat} {w:World} {g:Nat} {left:List Int} (h:Tk B w g left):g<w.heap.size:=by
 obtain⟨_,A,c,h,_⟩:=h;exact bG h
theorem OW {B:Nat} {w w1:World} {A:Option Addr} {n:Nat} {xs:List Int} (h:Kd.C (Kd.int .u8) w A n xs) (ha:xs≠[]→∀ad,A=some ad→ad.block<B) (hk:∀k,k<B→w1.heap[k]?=w.heap[k]?):Kd.C (Kd.int .u8) w1 A n xs:=by
 obtain⟨h1,h2,h3⟩:=h;refine⟨h1,h2,fun hn=>?_⟩;obtain⟨ad,rfl,hc⟩:=h3 hn;refine⟨ad,rfl,fun j2 p hj=>?_⟩;obtain⟨c,e1,e2,e3⟩:=hc j2 p hj;refine⟨c,e1,e2,fun i x hi=>?_⟩;have hcell:=e3 i x hi
 have hb:(ad.add (j2*(Kd.int .u8).sz+i)).block<B:=by rw[add_block];exact ha (fun e=>by rw[e] at hj;simp at hj) ad rfl
 rw[← hcell];unfold World.cell?;rw[hk _ hb]
theorem Tk.keep {B:Nat} {w w1:World} {g:Nat} {left:List Int} (h:Tk B w g left) (hk:∀k,k<B→w1.heap[k]?=w.heap[k]?) (hg:w1.heap[g]?=w.heap[g]?):Tk B w1 g left:=by
 obtain⟨h0,A,c,h1,h2,h3,h4⟩:=h;exact⟨h0,A,c,hg.trans h1,h2,h3,OW h4 h3 hk⟩
theorem Tk.below {B:Nat} {w w1:World} {g:Nat} {left:List Int} (h:Tk B w g left) (hb:Below w.heap.size w w1):Tk B w1 g left :=
 h.keep (fun k hk=>hb.block k (Nat.lt_of_lt_of_le hk (Nat.le_of_lt (Nat.lt_of_le_of_lt h.1 h.lt)))) (hb.block g h.lt)
theorem Tk.grow {B:Nat} {w w1:World} {g:Nat} {left:List Int} {row:Option Nat} (h:Tk B w g left) (hg:w.grownBy w1 row) (hb:∀k,row=some k→B≤k∧k≠g):Tk B w1 g left:=by
 have hlt:=h.lt;have h0:=h.1;exact h.keep (fun k hk=>hg.block k aj (fun e=>by have:=(hb k e.symm).1;omega)) (hg.block g hlt (fun e=>(hb g e.symm).2 rfl))
theorem Tk.set {B:Nat} {w:World} {g:Nat} {left:List Int} (h:Tk B w g left) {b j:Nat} (u:Value) (hb:B≤b) (hg:b≠g):Tk B (w.setCell ⟨b,j,none⟩ u) g left :=
 h.keep (fun k hk=>Below.heap_setCell w ⟨b,j,none⟩ u k (by show k≠b;omega)) (Below.heap_setCell w ⟨b,j,none⟩ u g (fun e=>hg e.symm))
def sJ:Ending:=.panicked [{ v:=.iface 141 (.agg #[]),recovered:=false }]
theorem int_ne {w:World} {g:Nat} {B:Option Addr} {m cc:Nat} {p:Addr} {k:IntKind} {z:Int} (hg:w.heap[g]?=some (.cells #[.slice B m cc] 145 (0,0))) (h:w.cell? p=some (.int k z)):p.block≠g:=by
 intro e;unfold World.cell? at h;rw[e,hg] at h;dsimp only at h;split at h
 ·cases h
 cases ho:p.off with
 | zero=>rw[ho] at h;simp at h
 | succ n=>rw[ho] at h;simp at h
theorem Jk {w:World} {g:Nat} {B:Option Addr} {m cc:Nat} {A:Option Addr} {n:Nat} {xs:List Int} (h:Kd.C (Kd.int .u8) w A n xs) (hg:w.heap[g]?=some (.cells #[.slice B m cc] 145 (0,0))) (j:Nat) (u:Value):Kd.C (Kd.int .u8) (w.setCell ⟨g,j,none⟩ u) A n xs:=by
 obtain⟨h1,h2,h3⟩:=h;refine⟨h1,h2,fun hn=>?_⟩;obtain⟨ad,rfl,hc⟩:=h3 hn;refine⟨ad,rfl,fun j2 p hj=>?_⟩;obtain⟨c,e1,e2,e3⟩:=hc j2 p hj;refine⟨c,e1,e2,fun i x hi=>?_⟩;have hcell:=e3 i x hi;obtain rfl:c=[.int .u8 p]:=e2
 have hx:x=.int .u8 p:=by
  have:=List.mem_of_getElem? hi
  simpa using this
 subst hx;have hne:=int_ne hg hcell;rw[← hcell];unfold World.cell?;rw[Below.heap_setCell w ⟨g,j,none⟩ u _ hne]
theorem Mw (B:Nat) (w:World) (g:Nat) (left:List Int) (n:Nat) (H:Tk B w g left) (hn:left.length<n) (hn2:n≤1099511627776) (hl:left.length≤1099511627776) :
  Calls Tryz.prog 97 #[.pointer (some ⟨g,0,none⟩),.int .i64 n] w fun e w'=>e=sJ∧w'=w:=by
 obtain⟨hBg,A,c,h1,h2,Zv,h3⟩:=H
 have c0:w.cell? ⟨g,0,none⟩=some (.slice A left.length c):=by rw[ak h1];rfl
 have hd:decide ((left.length:Int)<(n:Int))=true:=decide_eq_true aj;have hd2:decide (left.length<n)=true:=decide_eq_true hn;clear h1 h3
 go_enter Tryz.func97,Tryz.ntmps97
 go_wp2_with fail
 exact⟨rfl,rfl,rfl⟩
theorem Mx (B:Nat) (w:World) (g:Nat) (left:List Int) (n:Nat) (H:Tk B w g left) (hn:n≤left.length) (hl:left.length≤1099511627776) :
  Calls Tryz.prog 97 #[.pointer (some ⟨g,0,none⟩),.int .i64 n] w fun e w'=>∃A,e=.returned (.slice A n n)∧Kd.C (Kd.int .u8) w' A n (left.take n)∧Tk B w' g (left.drop n)∧Ft g w w':=by
 obtain⟨hBg,A,c,h1,h2,Zv,h3⟩:=H
 have c0:w.cell? ⟨g,0,none⟩=some (.slice A left.length c):=by rw[ak h1];rfl
 have f0:=ay h1 0;have l0:=bG h1;have hd:decide ((left.length:Int)<(n:Int))=false:=decide_eq_false aj;have hd2:decide (left.length<n)=false:=decide_eq_false aj;obtain⟨i0,hi0,_,hz1,_⟩:=info_parts info5;have hs1:=adW Tryz.prog 27 5 .i64 (i:=i0) Tryz.underlying27 hi0 A left.length c n aj aj h2;have hs2:=@FP Tryz.prog 27 5 .i64 i0 Tryz.underlying27 hi0 1 hz1 A left.length c n aj aj
 have ht:Kd.C (Kd.int .u8) w A n (left.take n):=by
  have:=Kd.Wo (m:=n) h3 hn
  rwa [List.length_take,Nat.min_eq_left hn] at this
 have hcd:=Kd.OX (m:=n) (c:=c) h3 aj h2;rw[Int.toNat_natCast] at hs1 hs2;rw[show (Kd.int .u8).sz=1 from rfl] at hcd
 obtain⟨a3,Sl⟩:∃a3,(if c=n then A else A.map (·.add (n*1)))=a3:=⟨_,rfl⟩
 have h3B:left.drop n≠[]→∀ad,a3=some ad→ad.block<B:=fun hne ad he=>by
  have Zv:=Zv (fun e=>hne (by rw[e];exact List.drop_nil));rw[← Sl] at he;split at he
  ·exact Zv ad he
  cases A with
  | none=>cases he
  | some a0=>have:=Option.some.inj he;rw[← this,add_block];exact Zv a0 rfl
 rw[Sl] at hs2 hcd;have H3B:=ah.mk h3B;have H1:=ah.mk h1;have H3:=ah.mk ht;have HC:=ah.mk hcd;clear h1 h3 ht hcd Sl h3B
 go_enter Tryz.func97,Tryz.ntmps97
 go_wp2_with fail
 go_ret
 have hst:=Jk HC.out H1.out 0 (.slice a3 (left.length - n) (c - n));refine⟨A,rfl,Jk H3.out H1.out 0 _,⟨hBg,a3,c - n,?_,by rw[List.length_drop];omega,H3B.out,hst⟩,ng.set (G:=(· = g)) (b:=g) (show g=g from rfl) 0 _⟩;have:=gB H1.out 0 (.slice a3 (left.length - n) (c - n));rw[List.length_drop]
 simpa using this
def FQ:Nat→Int→List Int→Int
 | _,v,[]=>v
 | i,v,c::l=>FQ (i+1) (Go.bits .or .i64 v (wrap64 (c*2 ^ (8*i)))) l
def UC (l:List Int):Int:=FQ 0 0 l
theorem Zw (B:Nat) (w:World) (g:Nat) (left:List Int) (m:Nat) (H:Tk B w g left) (hn:left.length<m) (hn2:m≤8) (hl:left.length≤1099511627776) :
  Calls Tryz.prog 98 #[.pointer (some ⟨g,0,none⟩),.int .i64 m] w fun e w'=>e=sJ∧w'=w:=by
 have C:=ah.mk (Mw B w g left m H hn aj hl)
 go_enter Tryz.func98,Tryz.ntmps98
 go_wp2_with (go_at_call 97;refine C.out.mono ?_;unfold sJ;rintro e w2 ⟨rfl,rfl⟩)
 exact⟨rfl,rfl,rfl⟩
theorem Zx (B:Nat) (w:World) (g:Nat) (left:List Int) (m:Nat) (H:Tk B w g left) (hn:m≤left.length) (hm:m≤8) (hl:left.length≤1099511627776) (hb:∀x∈left,0≤x∧x≤255) :
  Calls Tryz.prog 98 #[.pointer (some ⟨g,0,none⟩),.int .i64 m] w fun e w'=>e=.returned (.int .i64 (UC (left.take m)))∧Tk B w' g (left.drop m)∧Ft g w w':=by
 have cc:=Mx B w g left m H hn hl
 obtain⟨bs,hbs⟩:∃bs,left.take m=bs:=⟨_,rfl⟩
 have hbl:bs.length=m:=by rw[← hbs,List.length_take];omega
 have hbb:∀x∈bs,0≤x∧x≤255:=fun x hx=>hb x (List.mem_of_mem_take (hbs▸hx))
 rw[hbs] at cc;rw[hbs];have C:=ah.mk cc;have AQ:=ah.mk hbb;have HBL:=ah.mk hbl;clear H hb hbs hbb hbl cc
 go_enter Tryz.func98,Tryz.ntmps98
 go_wp2_with (go_at_call 97;refine C.out.mono ?_;rintro e w2 ⟨A,rfl,hc2,ht2,hf2⟩;have OB:=ah.mk hc2;have HT2:=ah.mk ht2;have FR:=ah.mk hf2;clear hc2 ht2 hf2)
 go_loopg [5,12] m (fun gk s5 s12 wx=>∃(i:Nat) (v:Int),i+gk=m∧s12=.int .i64 i∧s5=.int .i64 v∧ah (FQ i v (bs.drop i)=UC bs)∧ah (wx=w2))
 case atStart=>exact⟨0,0,by omega,rfl,rfl,⟨by rw[List.drop_zero];rfl⟩,⟨rfl⟩⟩
 case round=>
  obtain⟨i,v,hig,rfl,rfl,HN,HW⟩:=hrel;have hw:=HW.out;subst hw;by_cases hi:i<m
  ·have hd:decide ((i:Int)<(m:Int))=true:=decide_eq_true aj;have hd2:decide (i<m)=true:=decide_eq_true hi
   have hib:i<bs.length:=by rw[HBL.out];exact hi
   obtain⟨ad,hA,r0⟩:=Kd.gZ OB.out (i:Int) aj aj;rw[Int.toNat_natCast,MB bs i hib] at r0;have hr:=AQ.out _ (List.getElem_mem hib);have hn2:=HN.out;rw[List.drop_eq_getElem_cons hib,FQ] at hn2
   obtain⟨c,hc⟩:∃c,bs[i]=c:=⟨_,rfl⟩
   rw[hc] at r0 hr hn2;obtain⟨hr0,hr1⟩:=hr;have FT:=ah.mk hn2;subst hA
   have e1:(8*(i:Int)).toNat=8*i:=by omega
   clear hn2 hc HN hib
   go_wp2_with fail
   go_roundg (m - (i+1))
   case measure=>omega
   case rel=>exact⟨i+1,_,by omega,by first|rfl|simp,by first|rfl|(simp;done),⟨FT.out⟩,⟨rfl⟩⟩
  have hd:decide ((i:Int)<(m:Int))=false:=decide_eq_false aj;have hd2:decide (i<m)=false:=decide_eq_false hi;have HE:=ah.mk (show v=UC bs by have h:=HN.out;rw[List.drop_of_length_le (by rw[HBL.out];omega)] at h;exact h)
  go_wp2_with fail
  go_ret
  exact⟨by rw[HE.out];rfl,HT2.out,FR.out⟩
def By (l:List Int):Prop:=l.length≤1073741824∧∀x∈l,0≤x∧x≤255
theorem By.take {l:List Int} (h:By l) (n:Nat):By (l.take n):=⟨by rw[List.length_take];have:=h.1;omega,fun x hx=>h.2 x (List.mem_of_mem_take hx)⟩
theorem By.drop {l:List Int} (h:By l) (n:Nat):By (l.drop n):=⟨by rw[List.length_drop];have:=h.1;omega,fun x hx=>h.2 x (List.mem_of_mem_drop hx)⟩
def wY (n:Nat) (l:List Int):Option (List Int × List Int):=if n≤l.length then some (l.take n,l.drop n) else none
def wM (m:Nat) (l:List Int):Option (Int × List Int):=if m≤l.length then some (UC (l.take m),l.drop m) else none
def wH (l:List Int):Option (ByteArray × List Int):=match wM 2 l with
 | none=>none
 | some (n,l1)=>match wY n.toNat l1 with
  | none=>none
  | some (b,l2)=>some (strOfNums b,l2)
theorem MC {n:Nat} {l b r:List Int} (h:wY n l=some (b,r)) (hl:By l):By b∧By r∧b.length=n∧r.length≤l.length:=by
 unfold wY at h;split at h
 ·rename_i hn
  injection h with h
  injection h with h1 h2
  subst h1 h2;exact⟨hl.take n,hl.drop n,by rw[List.length_take];omega,by rw[List.length_drop];omega⟩
 cases h
theorem oM {m:Nat} {l r:List Int} {x:Int} (h:wM m l=some (x,r)) (hl:By l):By r∧r.length+m=l.length:=by
 unfold wM at h;split at h
 ·rename_i hn
  injection h with h
  injection h with h1 h2
  subst h2;exact⟨hl.drop m,by rw[List.length_drop];omega⟩
 cases h
theorem wrap64_in {n:Int} (h0 : -9223372036854775808≤n) (h1:n≤9223372036854775807):wrap64 n=n:=by unfold wrap64;omega
def Kt:List Int→Int
 | []=>0
 | c::l=>c+256*Kt l
theorem FU:∀(l:List Int),(∀x∈l,0≤x∧x≤255)→0≤Kt l∧Kt l<256 ^ l.length
 | [],_=>by simp[Kt]
 | c::l,h=>by
  have h1:=FU l (fun x hx=>h x (by simp[hx]));have h2:=h c bB;rw[Kt,List.length_cons,Int.pow_succ];omega
theorem Jl:∀(l:List Int) (i:Nat) (v:Int),(∀x∈l,0≤x∧x≤255)→i+l.length≤7→0≤v→v<2 ^ (8*i)→FQ i v l=v+2 ^ (8*i)*Kt l
 | [],i,v,_,_,_,_=>by simp[FQ,Kt]
 | c::l,i,v,h,hi,h0,h1=>by
  have hc:=h c bB;rw[List.length_cons] at hi;have hp:(0:Int)<2 ^ (8*i):=Int.pow_pos aH
  have hle:(2:Int) ^ (8*i)≤281474976710656:=by
   have h:(2:Nat) ^ (8*i)≤2 ^ 48:=Nat.pow_le_pow_right aH aj
   have h2:(2:Int) ^ (8*i)=((2 ^ (8*i):Nat):Int):=by rw[Int.natCast_pow];rfl
   rw[h2];exact Int.ofNat_le.2 h
  have hs:(2:Int) ^ (8*(i+1))=2 ^ (8*i)*256:=by rw[show 8*(i+1)=8*i+8 by omega,Int.pow_add];rfl
  have hlow:=fun y (hy:0≤y) (hy2:y<2 ^ (8*i)) (z:Int) (hz:0≤z) (hz2:z<4611686018427387904) (hz3:z % 2 ^ (8*i)=0) (hy3:y<4611686018427387904)=>
   bits_join_low .i64 62 aH (fun n h0 h1=>by rw[IntKind.wrap_i64];omega) (8*i) y z hy hy2 hy3 hz hz3 hz2
  have hmod:c*2 ^ (8*i) % 2 ^ (8*i)=0:=Int.mul_emod_left _ _;rw[FQ]
  obtain⟨P,hP⟩:∃P:Int,P=2 ^ (8*i):=⟨_,rfl⟩
  have hc0:0≤c*P:=Int.mul_nonneg hc.1 aj;have hc1:c*P≤255*P:=Int.mul_le_mul_of_nonneg_right hc.2 aj;have hrec:=Jl l (i+1) (v+c*2 ^ (8*i)) (fun x hx=>h x (by simp[hx])) aj;rw[hs] at hrec;rw[← hP] at hlow hmod hle hp hs h1 hrec ⊢
  obtain⟨Z,hZ⟩:∃Z:Int,Z=c*P:=⟨_,rfl⟩
  rw[← hZ] at hc0 hc1 hmod hrec ⊢;rw[wrap64_in aj aj,hlow v h0 h1 Z hc0 aj hmod aj,hrec aj aj,Kt,Int.mul_add,hZ,Int.mul_comm c P,Int.mul_assoc];omega
theorem Wp {l:List Int} (h:∀x∈l,0≤x∧x≤255) (hl:l.length≤7):UC l=Kt l:=by
 unfold UC;rw[Jl l 0 0 h aj aH aH];simp
theorem FV {m:Nat} {l r:List Int} {x:Int} (h:wM m l=some (x,r)) (hl:By l) (hm:m≤7):0≤x∧x<256 ^ m:=by
 unfold wM at h;split at h
 ·rename_i hn
  injection h with h
  injection h with h1 h2
  have hlen:(l.take m).length=m:=by rw[List.length_take];omega
  rw[← h1,Wp (hl.take m).2 aj];have:=FU _ (hl.take m).2
  rwa [hlen] at this
 cases h
theorem uo {B:Nat} {w:World} {g:Nat} {left r:List Int} {m:Nat} {x:Int} (H:Tk B w g left) (hm:m≤8) (hl:By left) (h:wM m left=some (x,r)) :
  Calls Tryz.prog 98 #[.pointer (some ⟨g,0,none⟩),.int .i64 m] w fun e w'=>e=.returned (.int .i64 x)∧Tk B w' g r∧Ft g w w':=by
 unfold wM at h;split at h
 ·rename_i hn
  injection h with h
  injection h with h1 h2
  subst h1 h2;exact Zx B w g left m H hn hm (Nat.le_trans hl.1 aH) hl.2
 cases h
theorem Wq {B:Nat} {w:World} {g:Nat} {left:List Int} {m:Nat} (H:Tk B w g left) (hm:m≤8) (hl:By left) (h:wM m left=none) :
  Calls Tryz.prog 98 #[.pointer (some ⟨g,0,none⟩),.int .i64 m] w fun e w'=>e=sJ∧Ft g w w':=by
 unfold wM at h;split at h
 ·cases h
 rename_i hn;refine (Zw B w g left m H aj hm (Nat.le_trans hl.1 aH)).mono ?_;rintro e w' ⟨rfl,rfl⟩;exact⟨rfl,ng.refl _⟩
theorem Db {B:Nat} {w:World} {g:Nat} {left b r:List Int} {n:Nat} (H:Tk B w g left) (hl:By left) (h:wY n left=some (b,r)) :
  Calls Tryz.prog 97 #[.pointer (some ⟨g,0,none⟩),.int .i64 n] w fun e w'=>∃A,e=.returned (.slice A n n)∧Kd.C (Kd.int .u8) w' A n b∧Tk B w' g r∧Ft g w w':=by
 unfold wY at h;split at h
 ·rename_i hn
  injection h with h
  injection h with h1 h2
  subst h1 h2;exact Mx B w g left n H hn (Nat.le_trans hl.1 aH)
 cases h
theorem UD {B:Nat} {w:World} {g:Nat} {left:List Int} {n:Nat} (H:Tk B w g left) (hl:By left) (hn2:n≤1099511627776) (h:wY n left=none) :
  Calls Tryz.prog 97 #[.pointer (some ⟨g,0,none⟩),.int .i64 n] w fun e w'=>e=sJ∧Ft g w w':=by
 unfold wY at h;split at h
 ·cases h
 rename_i hn;refine (Mw B w g left n H aj hn2 (Nat.le_trans hl.1 aH)).mono ?_;rintro e w' ⟨rfl,rfl⟩;exact⟨rfl,ng.refl _⟩
def agY (B g:Nat) (w:World) (o:Option (ByteArray × List Int)) (e:Ending) (w':World):Prop:=match o with
 | none=>e=sJ∧Ft g w w'
 | some (s,r)=>e=.returned (.string s)∧Tk B w' g r∧Ft g w w'
theorem UE (B:Nat) (w:World) (g:Nat) (left:List Int) (H:Tk B w g left) (hl:By left) :
  Calls Tryz.prog 126 #[.pointer (some ⟨g,0,none⟩)] w fun e w'=>agY B g w (wH left) e w':=by
 cases h1:wM 2 left with
 | none=>
  have C:=ah.mk (Wq H aH hl h1);have HE:=ah.mk (show wH left=none by unfold wH;rw[h1]);clear H h1
  go_enter Tryz.func126,Tryz.ntmps126
  go_wp2_with (go_at_call 98;refine C.out.mono ?_;unfold sJ;rintro e w2 ⟨rfl,hf⟩)
  exact⟨rfl,by rw[HE.out];exact⟨rfl,hf⟩⟩
 | some q=>
  obtain⟨n,l1⟩:=q;have C:=ah.mk (uo H aH hl h1);obtain⟨hl1,_⟩:=oM h1 hl;have hn:=FV h1 hl aH
  obtain⟨k,rfl⟩:∃k:Nat,n=k:=⟨n.toNat,by omega⟩
  have hk:k<65536:=by have:=hn.2;omega
  have hC2:=fun w2 (H2:Tk B w2 g l1)=>H2
  cases h2:wY k l1 with
  | none=>
   have HE:=ah.mk (show wH left=none by unfold wH;rw[h1];dsimp only;rw[Int.toNat_natCast,h2]);have C2:=ah.mk (fun w2 (H2:Tk B w2 g l1)=>UD H2 hl1 aj h2);clear H h1 h2 hn hC2
   go_enter Tryz.func126,Tryz.ntmps126
   go_wp2_with (first
    | (go_at_call 98;refine C.out.mono ?_;rintro e w2 ⟨rfl,ht,hf⟩;have HT:=ah.mk ht;have HF:=ah.mk hf;clear ht hf)
    | (go_at_call 97;refine (C2.out _ HT.out).mono ?_;unfold sJ;rintro e w3 ⟨rfl,hf3⟩))
   exact⟨rfl,by rw[HE.out];exact⟨rfl,HF.out.trans hf3⟩⟩
  | some q=>
   obtain⟨b,r⟩:=q;have HE:=ah.mk (show wH left=some (strOfNums b,r) by unfold wH;rw[h1];dsimp only;rw[Int.toNat_natCast,h2]);have C2:=ah.mk (fun w2 (H2:Tk B w2 g l1)=>Db H2 hl1 h2);clear H h1 h2 hn hC2
   go_enter Tryz.func126,Tryz.ntmps126
   go_wp2_with (first
    | (go_at_call 98;refine C.out.mono ?_;rintro e w2 ⟨rfl,ht,hf⟩;have HT:=ah.mk ht;have HF:=ah.mk hf;clear ht hf)
    | (go_at_call 97;refine (C2.out _ HT.out).mono ?_;rintro e w3 ⟨A,rfl,hc3,ht3,hf3⟩;have hstr:=Kd.nD (P:=Tryz.prog) (c:=k) (src:=27) (dst:=9) Tryz.underlying27 Tryz.underlying5 Tryz.underlying9 hc3;have HT3:=ah.mk ht3;have OC:=ah.mk hf3;clear hc3 ht3 hf3))
   go_ret
   rw[HE.out];exact⟨rfl,HT3.out,HF.out.trans OC.out⟩
theorem adX {α:Type} {d:Kd α} {e g:Nat} {w0:World} {ok:Nat→Prop} {v:Value} {xs:List α} {W W1:World} {B:Nat} {left:List Int} {base:Nat} (h:d.R e W base ok v xs) (ht:Tk B W g left) (hE:∀q,q∈e::d.E→q≠145) (hf:Ft g W W1):d.R e W1 base (fun k=>ok k∧base≤k∧k<W.heap.size∧k≠g) v xs:=by
 have hb:=Kd.ig h;obtain⟨_,A,c,hblk,_⟩:=ht
 have h2:d.R e W base (fun k=>ok k∧base≤k∧k<W.heap.size∧k≠g) v xs:=Kd.dX hb (fun k hk=>⟨hk.1,hk.2.1,hk.2.2.1,fun eg=>by
  obtain⟨q,hq,cells,hc⟩:=hk.2.2.2;rw[eg,hblk] at hc
  injection hc with hc
  injection hc with _ hc
  exact hE q hq hc.symm⟩)
 refine Kd.nZ h2 (fun k hk hlt=>?_);have h1:=Array.getElem?_eq_getElem hlt
 rcases hf.blocks k _ h1 with (e1|⟨_,_,_,_,e1⟩)|e1
 ·exact absurd e1 hk.2.2.2
 ·exact e1.elim
 rw[e1,h1]
theorem ME {l r:List Int} {s:ByteArray} (h:wH l=some (s,r)) (hl:By l):By r∧r.length≤l.length∧s.size≤65535:=by
 unfold wH at h
 cases h1:wM 2 l with
 | none=>rw[h1] at h;cases h
 | some q=>
  obtain⟨n,l1⟩:=q;rw[h1] at h;dsimp only at h;have h2:=oM h1 hl;have h3:=FV h1 hl aH;rw[show (256:Int) ^ 2=65536 by decide] at h3
  cases h4:wY n.toNat l1 with
  | none=>rw[h4] at h;cases h
  | some q=>
   obtain⟨b,l2⟩:=q;rw[h4] at h
   injection h with h
   injection h with e1 e2
   have h5:=MC h4 h2.1;subst e1 e2;exact⟨h5.2.1,by omega,by rw[strOfNums_size];omega⟩
theorem Ft.box {g:Nat} {W W1:World} {k:Nat} {o:Obj} (h:Ft g W W1) (hb:W.heap[k]?=some o) (hk:k≠g):W1.heap[k]?=some o:=by
 rcases h.blocks k o hb with (e|⟨_,_,_,_,e⟩)|e
 ·exact absurd e hk
 ·exact e.elim
 exact e
theorem Ft.set {g:Nat} {w W:World} (h:Ft g w W) {b:Nat} (hb:w.heap.size≤b) (j:Nat) (u:Value):Ft g w (W.setCell ⟨b,j,none⟩ u):=by
 have hB:=(Below.refl 0 W).setCell (p:=⟨b,j,none⟩) (Nat.zero_le _) u;refine⟨hB.os.trans h.os,hB.tape.trans h.tape,hB.output.trans h.output,Nat.le_trans h.size hB.size,fun k o ho=>?_⟩;have hlt:=bG ho
 rcases h.blocks k o ho with e|e
 ·exact .inl e
 exact .inr ((Below.heap_setCell W ⟨b,j,none⟩ u k (by show k≠b;omega)).trans e)
theorem Ft.row {g:Nat} {w W:World} (h:Ft g w W) {b:Nat} (hb:w.heap.size≤b) (cs:Array Value):Ft g w (W.setRow b cs):=by
 have hB:=below_setRow (Below.refl 0 W) (Nat.zero_le b) cs;refine⟨hB.os.trans h.os,hB.tape.trans h.tape,hB.output.trans h.output,Nat.le_trans h.size hB.size,fun k o ho=>?_⟩;have hlt:=bG ho
 rcases h.blocks k o ho with e|e
 ·exact .inl e
 exact .inr ((setRow_other _ _ _ _ aj).trans e)
theorem Tk.row {B:Nat} {w:World} {g:Nat} {left:List Int} (h:Tk B w g left) {b:Nat} (cs:Array Value) (hb:B≤b) (hg:b≠g):Tk B (w.setRow b cs) g left :=
 h.keep (fun k hk=>setRow_other _ _ _ _ aj) (setRow_other _ _ _ _ (fun e=>hg e.symm))
theorem zK {α:Type} {d:Kd α} {e base:Nat} {v:Value} {xs:List α} {W:World} {b:Nat} {cs:Array Value} {t:TypeId} (h:d.R e W base (fun _=>True) v xs) (hb:W.heap[b]?=some (.cells cs t (0,0))) (hE:∀q,q∈e::d.E→q≠t) (cs2:Array Value):d.R e (W.setRow b cs2) base (fun _=>True) v xs:=by
 have h2:=Kd.dX (ok':=fun k=>k≠b) (Kd.ig h) (fun k hk=>fun eg=>by
  obtain⟨_,_,_,q,hq,cells,hc⟩:=hk;rw[eg,hb] at hc
  injection hc with hc
  injection hc with _ hc
  exact hE q hq hc.symm)
 exact Kd.dX (Kd.nZ h2 (fun k hk _=>setRow_other _ _ _ _ hk)) (fun _ _=>trivial)
def uq:Array Value:=#[.int .i64 0,.int .i64 0,.slice none 0 0]
abbrev Fp (pp pb:Nat):World→World→Prop:=ng 0 (fun k=>k=pp∨k=pb) (fun _=>False)
theorem Fp.row (pp pb:Nat) (W:World) (cs:Array Value):Fp pp pb W (W.setRow pp cs):=by
 have hB:=below_setRow (Below.refl 0 W) (Nat.zero_le pp) cs;refine⟨hB.os,hB.tape,hB.output,hB.size,fun k o ho=>?_⟩;by_cases e:k=pp
 ·exact .inl (.inl (.inl e))
 exact .inr ((setRow_other _ _ _ _ e).trans ho)
theorem OY (pp pb:Nat) (w:World) :
  CallsD Tryz.prog 96 #[.pointer (some ⟨pp,0,none⟩),.pointer (some ⟨pb,0,none⟩)] .returning w fun e u' w'=>e=.returned (.tuple #[])∧u'=.returning∧w'=w:=by
 refine callsD_of_wpS Tryz.func96 rfl fun c₀ cs hu=>?_
 apply wpS_seq;apply wpS_region;simp[wpOpsS,go_sem,recoverD,hu,Tryz.ntmps96,Exit.thenS];refine wpS_of_wp ?_;simp only[Nat.reduceSub,Nat.reduceAdd,Array.replicate_succ,Array.replicate_zero,List.push_toArray,List.append_toArray,List.nil_append,List.cons_append,aYa,aYb,aYc];refine Code.wp_mono (Q:=fun e a' w'=>e=.normal∧a'.defers=[]∧w'=w) ?_ ?_;rotate_left
 ·go_wp2
 rintro e a' w' ⟨rfl,hd,rfl⟩;refine⟨hd,.returning,?_,_,results_none rfl _ _ _,rfl,rfl,rfl⟩;cases c₀;cases hu;rfl
theorem Ku (pp pb:Nat) (x0 x1 x2 y0:Value) (older:List PanicEntry) (w:World) (hp:w.heap[pp]?=some (.cells #[x0,x1,x2] 24 (0,0))) (hb:w.heap[pb]?=some (.cells #[y0] 4 (0,0))) :
  CallsD Tryz.prog 96 #[.pointer (some ⟨pp,0,none⟩),.pointer (some ⟨pb,0,none⟩)] (.panicking ({ v:=.iface 141 (.agg #[]),recovered:=false }::older)) w fun e u' w'=>
   e=.returned (.tuple #[])∧u'=.panicking ({ v:=.iface 141 (.agg #[]),recovered:=true }::older)∧w'.heap[pp]?=some (.cells uq 24 (0,0))∧w'.heap[pb]?=some (.cells #[.bool false] 4 (0,0))∧Fp pp pb w w':=by
 refine callsD_of_wpS Tryz.func96 rfl fun c₀ cs hu=>?_
 apply wpS_seq;apply wpS_region;simp[wpOpsS,go_sem,recoverD,hu,Tryz.ntmps96,Exit.thenS];refine wpS_of_wp ?_
 have hta:∀w:World,(Instr.typeAssert (.iface 141 (.agg #[])) 20 141 true).run Tryz.prog w=.ok (.tuple #[.agg #[],.bool true]) w:=fun w=>by kernel_rfl
 have HP:=ah.mk hp;have HB:=ah.mk hb;clear hp hb;simp only[Nat.reduceSub,Nat.reduceAdd,Array.replicate_succ,Array.replicate_zero,List.push_toArray,List.append_toArray,List.nil_append,List.cons_append,aYa,aYb,aYc];refine Code.wp_mono (Q:=fun e a' w'=>e=.normal∧a'.defers=[]∧w'.heap[pp]?=some (.cells uq 24 (0,0))∧w'.heap[pb]?=some (.cells #[.bool false] 4 (0,0))∧Fp pp pb w w') ?_ ?_;rotate_left
 ·go_upto_region 5 with (fail)
  have hba:=(Below.refl w.heap.size w).alloc (Nat.le_refl _) (.cells #[] 141);have hp1:=aJ HP.out hba;have hb1:=aJ HB.out hba
  have hpb:pp≠pb:=fun e=>by
   have h1:=HP.out;rw[e,HB.out] at h1;simp at h1
  obtain⟨W,hW⟩:∃W,w.alloc (.cells #[] 141)=W:=⟨_,rfl⟩
  rw[hW] at hba hp1 hb1 ⊢;have hb2:(W.setRow pp uq).heap[pb]?=some (.cells #[y0] 4 (0,0)):=(setRow_other _ _ _ _ (fun e=>hpb e.symm)).trans hb1;have hp2:(W.setRow pp uq).heap[pp]?=some (.cells uq 24 (0,0)):=setRow_heap _ _ _ _ _ _ hp1;have f2:=ay hb2 0;have l2:=bG hb2;have y2:(W.setRow pp uq).cell? ⟨pb,0,none⟩=some y0:=ak hb2 0;have HW1:=ah.mk hp1;have HB2:=ah.mk hb2;have wS:=ah.mk hp2;have HBA:=ah.mk hba;clear hba hp1 hb1 hW hb2 hp2 hta
  unfold uq at *
  go_wp2_with (refine eX (.store 24 (.tmp 0) (.tmp 16)) rfl ?_;refine wpList_store_row rfl 24 (.tmp 0) (.tmp 16) rfl pp #[.int .i64 0,.int .i64 0,.slice none 0 0] rfl rfl 24 _ HW1.out aD (by rfl) (by simp[Value.oneCell']) ?_)
  refine⟨(Below.heap_setCell _ ⟨pb,0,none⟩ _ pp hpb).trans wS.out,by have:=gB HB2.out 0 (.bool false);simpa using this,(ng.below HBA.out).trans ((Fp.row pp pb W _).trans (ng.set (G:=fun k=>k=pp∨k=pb) (b:=pb) (.inr rfl) 0 _))⟩
 rintro e a' w' ⟨rfl,hd,h1,h2,h3⟩;exact⟨hd,_,rfl,_,results_none rfl _ _ _,rfl,rfl,h1,h2,h3⟩
end Go.Proofs.YtknihldkhedpkaaGreatDoor
end
section
namespace Go.Proofs.YtknihldkhedpkaaGreatDoor
open Go.RowKit Go.Lib
open Go.Proofs.YtknihldkhedpkaaGreatDoorW.PrintWords Go.Proofs.YtknihldkhedpkaaGreatDoorW.PrintLast
attribute [local go_sem] Oper.semAt_some
section
variable {P : Program} {α : Type}
def Zy (S:List α→Prop) (J:List α→World→Prop) (X:World→Prop) (e:Ending) (B:World):Prop:=(∃v,e=.returned v)∧((∃xs,S xs∧J xs B)∨X B)
def Wt (P:Program) (gf:Nat) (lb:Array Value) (encs:α→Array Value) (Good:List α→α→Prop) (St Kp:World→World→Prop) (S:List α→Prop) (w:World):Prop :=
 ∀(l:Nat) (J:List α→World→Prop) (X:World→Prop) (W:World),Below w.heap.size w W →
  (∀pre A B,J pre A→St A B→J pre B) →
  (∀pre x A,J pre A→Good pre x→YieldAt Fence.wide 0 P l (encs x) A fun e B=>(e=.returned (.bool true)∧J (pre++[x]) B∧Kp A B)∨(e=.returned (.bool false)∧X B)) →
  J [] W→Calls P gf (#[.func (.yield l) #[] #[]]++lb) W (Zy S J X)
theorem MF {g:Operand} {ps:Array Tmp} {assign body:Code} {Q:Exit→Act→World→Prop} {a:Act} {w:World} {gf:Nat} {lb:Array Value}
  (hg:a.eval g=.func (.func gf) #[] lb) (eg:∀args w,(callFunc gf args).run P w=.ok (.enter gf args) w)
  {encs:α→Array Value} (hps:∀x,(encs x).size=ps.size) {Good:List α→α→Prop} {St Kp:World→World→Prop} {S:List α→Prop}
  (hseq:Wt P gf lb encs Good St Kp S w)
  (I:List α→World→Prop) (X:World→Prop) (a₁:α→Act)
  (hSt:∀A B,St A B→Still w.heap.size A B)
  (Wu:∀pre A B,I pre A→St A B→I pre B)
  (Wv:∀pre W l o o',I pre W→w.heap.size≤l→W.heap[l]?=some o→o.isCells=false→I pre (W.putObj l o'))
  (hXp:∀W l o o',X W→w.heap.size≤l→W.heap[l]?=some o→o.isCells=false→X (W.putObj l o'))
  (hKp:∀A B l o o1 p o2,w.heap.size≤l→A.heap[l]?=some o→o.isCells=false→Kp (A.putObj l o1) B→B.heap[l]?=some p→p.isCells=false→Kp A (B.putObj l o2))
  (h0:∀o o',I [] ((w.alloc o).alloc o'))
  (hassign:∀(l:Nat) (x:α) (W:World) (K:Act→World→Prop),K (a₁ x) W →
   assign.wpIn (Fence.wide.inRound l) 0 P (Exit.then K (fun _ _ _=>False)) { tmps:=(ps.zip (encs x)).foldl (fun t (p,v)=>t.setIfInBounds p v) a.tmps,defers:=[] } W)
  (hbody:∀(l:Nat) (pre:List α) (x:α) (W:World),I pre W→Good pre x→body.wpIn (Fence.wide.inRound l) 0 P (fun e _ B=>(e=.normal∧I (pre++[x]) B∧Kp W B∧Still w.heap.size W B)∨(e=.ret∧X B∧Still w.heap.size W B)) (a₁ x) W)
  (hdone:∀xs W,S xs→w.heap.size<W.heap.size→I xs W→W.heap[w.heap.size]?=some (.deferred (some []))→Q .normal { a with defers:={ target:=.collected w.heap.size,args:=#[] }::a.defers } W)
  (hstop:∀W,w.heap.size<W.heap.size→X W→W.heap[w.heap.size]?=some (.deferred (some []))→Q .ret { a with defers:={ target:=.collected w.heap.size,args:=#[] }::a.defers } W) :
  (Code.rangeFunc g ps assign body).wp P Q a w:=by
 refine (wpIn_wide (n:=1)).1 (wpIn_rangeFunc (fun fn hfn=>?_))
 obtain⟨rec,hrec⟩:∃rec:LoopState→Option Code→Loop,rec=fun st pe=>{ state:=st,pending:=pe,fn,tmps:=a.tmps,params:=ps,assign,body,defers:=w.heap.size }:=⟨_,rfl⟩
 obtain⟨s,hs⟩:∃s,s=w.heap.size:=⟨_,rfl⟩
 obtain⟨W1,hW1⟩:∃W1,W1=(w.alloc (.deferred (some []))).alloc (.loop (rec .ready none)):=⟨_,rfl⟩
 have hD1:W1.heap[s]?=some (.deferred (some [])):=by
  rw[hW1,hs];exact (Below.heap_alloc _ _ _ bB).trans (World.alloc_heap_new w _)
 have hL1:W1.heap[s+1]?=some (.loop (rec .ready none)):=by
  rw[hW1,hs];have:=World.alloc_heap_new (w.alloc (.deferred (some []))) (.loop (rec .ready none))
  rwa [World.size_alloc] at this
 have hB1:Below w.heap.size w W1:=by
  rw[hW1];exact ((Below.refl _ w).alloc (Nat.le_refl _) _).alloc bB _
 refine⟨s+1,[{ target:=.collected s,args:=#[] }],W1,{ target:=.fn (.func gf) lb,args:=#[.func (.yield (s+1)) #[] #[]] },W1,gf,#[.func (.yield (s+1)) #[] #[]]++lb,W1,?_,?_,fun f' hf'=>trivial,?_,?_,?_⟩
 ·rw[hW1,hrec,hs];exact run_enterLoop_outer _ _ _ _ _
 ·simp only[resolve,hg];simp[go_sem]
 ·simp[invoke,go_sem,eg]
 ·intro h;cases h
 refine callsIn_wide.2 ((hseq (s+1) (fun pre W=>I pre W∧W.heap[s+1]?=some (.loop (rec .ready none))∧W.heap[s]?=some (.deferred (some []))) (fun W=>X W∧W.heap[s+1]?=some (.loop (rec .done (some .ret)))∧W.heap[s]?=some (.deferred (some []))) W1 hB1 ?_ ?_ ⟨hW1▸h0 _ _,hL1,hD1⟩).mono ?_)
 ·rintro pre A B ⟨hi,hl,hd⟩ hab;exact⟨Wu _ _ _ hi hab,(hSt _ _ hab).2 _ _ aj hl rfl,(hSt _ _ hab).2 _ _ aj hd rfl⟩
 ·rintro pre x A ⟨hi,hl,hd⟩ hgood;have hlt:=(Array.getElem?_eq_some_iff.1 hl).1;have hy:=run_yield (P:=P) (args:=encs x) hl (by rw[hrec];exact hps x);rw[hrec] at hy;refine⟨fn,_,assign,body,hy,roundIn_of_wpIn hfn (hassign _ x A _ ⟨_,run_beginRound hl (by rw[hrec]),?_⟩)⟩;have hl2:(A.putObj (s+1) (.loop { rec .ready none with state:=.busy })).heap[s+1]?=some (.loop { rec .ready none with state:=.busy }):=World.putObj_heap_same hlt;have hd2:(A.putObj (s+1) (.loop { rec .ready none with state:=.busy })).heap[s]?=some (.deferred (some [])):=(World.putObj_heap_other aj).trans hd;refine wpIn_mono (hbody _ pre x _ (Wv _ _ _ _ _ hi aj hl rfl) hgood) ?_;rintro e a3 B (⟨rfl,hi3,hk3,hs3⟩|⟨rfl,hx,hs3⟩)
  ·have hl3:=hs3.2 _ _ aj hl2 rfl;have hd3:=hs3.2 _ _ aj hd2 rfl;have hr:=run_endRound (P:=P) none hl3;have hlt3:=(Array.getElem?_eq_some_iff.1 hl3).1;refine⟨_,_,hr,.inl ⟨rfl,⟨Wv _ _ _ _ _ hi3 aj hl3 rfl,?_,(World.putObj_heap_other aj).trans hd3⟩,hKp _ _ _ _ _ _ _ aj hl rfl hk3 hl3 rfl⟩⟩;rw[World.putObj_heap_same hlt3,hrec];rfl
  have hl3:=hs3.2 _ _ aj hl2 rfl;have hd3:=hs3.2 _ _ aj hd2 rfl;have hr:=run_endRound (P:=P) (some .ret) hl3;have hlt3:=(Array.getElem?_eq_some_iff.1 hl3).1;refine⟨_,_,hr,.inr ⟨rfl,hXp _ _ _ _ hx aj hl3 rfl,?_,(World.putObj_heap_other aj).trans hd3⟩⟩;rw[World.putObj_heap_same hlt3,hrec];rfl
 rintro e B ⟨⟨v,rfl⟩,(⟨xs,hxs,hi,hl,hd⟩|⟨hi,hl,hd⟩)⟩
 ·have hr:=run_endLoop (P:=P) hl (by rw[hrec];simp);refine⟨_,_,hr,?_⟩;rw[hrec];rw[hs] at hd hl ⊢;have h2:=(Array.getElem?_eq_some_iff.1 hd).1;exact hdone _ _ hxs (by simpa [World.putObj] using h2) (Wv _ _ _ _ _ hi aj hl rfl) ((World.putObj_heap_other aj).trans hd)
 have hr:=run_endLoop (P:=P) hl (by rw[hrec];simp);refine⟨_,_,hr,?_⟩;rw[hrec];rw[hs] at hd hl ⊢;have h2:=(Array.getElem?_eq_some_iff.1 hd).1;exact wpIn_ret (hstop _ (by simpa [World.putObj] using h2) (hXp _ _ _ _ hi aj hl rfl) ((World.putObj_heap_other aj).trans hd))
end
structure StS (b:Nat) (A C:World):Prop where
 os:C.os=A.os
 tape:C.tape=A.tape
 output:C.output=A.output
 size:A.heap.size≤C.heap.size
 blocks:∀k,k<A.heap.size→k≠b→C.heap[k]?=A.heap[k]?
theorem StS.refl (b:Nat) (A:World):StS b A A:=⟨rfl,rfl,rfl,Nat.le_refl _,fun _ _ _=>rfl⟩
theorem StS.set (b:Nat) (A:World) (j:Nat) (u:Value):StS b A (A.setCell ⟨b,j,none⟩ u):=by
 have h:=(Below.refl 0 A).setCell (p:=⟨b,j,none⟩) (Nat.zero_le _) u;exact⟨h.os,h.tape,h.output,h.size,fun k hk hne=>Below.heap_setCell A ⟨b,j,none⟩ u k hne⟩
structure Sq (bs bp bv:Nat) (cur:ByteArray) (W:World):Prop where
 s:W.heap[bs]?=some (.cells #[.string cur] 9 (0,0))
 p:W.heap[bp]?=some (.cells #[.string ⟨#[47]⟩] 9 (0,0))
 v:W.heap[bv]?=some (.cells #[.int .i64 0] 3 (0,0))
def KpS (bs bp bv:Nat) (A C:World):Prop:=C.heap[bs]?=A.heap[bs]?∧C.heap[bp]?=A.heap[bp]?∧C.heap[bv]?=A.heap[bv]?
theorem Sq.kp {bs bp bv:Nat} {cur:ByteArray} {A C:World} (h:Sq bs bp bv cur A) (k:KpS bs bp bv A C):Sq bs bp bv cur C:=⟨k.1.trans h.s,k.2.1.trans h.p,k.2.2.trans h.v⟩
abbrev jN:ByteArray:=⟨#[47]⟩
theorem D9 {s:ByteArray} (h:Lib.indexB s jN = -1):jZ s jN=[s]:=Lib.splitB_miss _ _ _ _ h
theorem OZ {s:ByteArray} {i:Nat} (h:Lib.indexB s jN=i):jZ s jN=s.extract 0 i::jZ (s.extract (i+1) s.size) jN:=by
 have hc:=Lib.countB_hit s jN i aH h;unfold jZ;rw[hc,Nat.add_comm 1,Lib.splitB_hit _ _ _ _ i h];rfl
theorem FW (s:ByteArray) (w:World) (bs bp bv:Nat) (hs:s.size≤140737488351232) (hq:Sq bs bp bv s w) (hne:bs≠bp∧bs≠bv) :
  Wt Tryz.prog 156 #[.pointer (some ⟨bp,0,none⟩),.pointer (some ⟨bs,0,none⟩),.pointer (some ⟨bv,0,none⟩)] (fun x:ByteArray=>#[.string x]) (fun pre x=>∃rest,jZ s jN=pre++x::rest) (StS bs) (KpS bs bp bv)
   (fun xs=>xs=jZ s jN) w:=by
 intro l J X W hW hJ hY hJ0
 have hq0:Sq bs bp bv s W:=⟨aJ hq.s hW,aJ hq.p hW,aJ hq.v hW⟩
 have HQ0:=ah.mk hq0;have HJ:=ah.mk hJ;have HY:=ah.mk hY;have HJ0:=ah.mk hJ0;have y1:W.cell? ⟨bp,0,none⟩=some (.string ⟨#[47]⟩):=ak hq0.p 0;clear hq0 hJ hY hJ0 hW hq
 go_enter Tryz.func156,Tryz.ntmps156
 go_wp2_with fail
 go_loopg [7,8] (Lib.countB s jN) (fun g s7 s8 wx=>∃(pre:List ByteArray) (cur:ByteArray),Lib.countB cur jN≤g∧cur.size≤140737488351232∧ah (jZ s jN=pre++jZ cur jN)∧ah (J pre wx)∧ah (Sq bs bp bv cur wx))
 case atStart=>exact⟨[],s,Nat.le_refl _,hs,⟨by simp⟩,HJ0,HQ0⟩
 case round=>
  obtain⟨pre,cur,hcg,hcs,HP,HJW,HQ⟩:=hrel;clear HJ0 HQ0 y1;have z0:wr.cell? ⟨bs,0,none⟩=some (.string cur):=ak HQ.out.s 0;have z1:wr.cell? ⟨bp,0,none⟩=some (.string ⟨#[47]⟩):=ak HQ.out.p 0;have z2:wr.cell? ⟨bv,0,none⟩=some (.int .i64 0):=ak HQ.out.v 0
  rcases Lib.indexB_cases cur jN with hix|⟨i,hix,hil⟩
  ·have hi:=tY cur jN rfl wr;rw[hix] at hi;have HI:=ah.mk hi
   have hg:∃rest,jZ s jN=pre++cur::rest:=⟨[],by rw[HP.out,D9 hix]⟩
   obtain⟨fn,tmps,assign,body,hy,hR⟩:=HY.out pre cur wr HJW.out hg;have HE:=ah.mk (show pre++[cur]=jZ s jN by rw[HP.out,D9 hix]);clear hi hg hix
   try dsimp only at hy
   refine (wpIn_wide (n:=1)).1 ?_
   gi_wp2_with (refine⟨trivial,?_⟩;gi_at_call 148;refine (callsIn_wide.2 (HI.out)).mono ?_;rintro e w' ⟨rfl,rfl⟩)
   refine (wpIn_wide (n:=1)).1 ?_
   gi_wp2
   refine hR.mono ?_;rintro e W' (⟨rfl,hJ',hk'⟩|⟨rfl,hX⟩)
   ·gi_wp2
    go_end0
    exact⟨⟨_,rfl⟩,.inl ⟨_,HE.out,hJ'⟩⟩
   gi_wp2
   go_end0
   exact⟨⟨_,rfl⟩,.inr hX⟩
  have hi:=tY cur jN rfl wr;rw[hix] at hi;have HI:=ah.mk hi;have hsp:=OZ hix;have hcn:=Lib.countB_hit cur jN i aH hix;rw[show jN.size=1 from rfl] at hcn hil
  have hg:∃rest,jZ s jN=pre++cur.extract 0 i::rest:=⟨_,by rw[HP.out,hsp]⟩
  have hP2:jZ s jN=(pre++[cur.extract 0 i])++jZ (cur.extract (i+1) cur.size) jN:=by rw[HP.out,hsp];simp
  obtain⟨fn,tmps,assign,body,hy,hR⟩:=HY.out pre (cur.extract 0 i) wr HJW.out hg;have wS:=ah.mk hP2;clear hi hg hix hsp hP2
  try dsimp only at hy
  refine (wpIn_wide (n:=1)).1 ?_
  gi_wp2_with (refine⟨trivial,?_⟩;gi_at_call 148;refine (callsIn_wide.2 (HI.out)).mono ?_;rintro e w' ⟨rfl,rfl⟩)
  refine hR.mono ?_;rintro e W' (⟨rfl,hJ',hk'⟩|⟨rfl,hX⟩)
  ·have hq:=HQ.out.kp hk';have z0':W'.cell? ⟨bs,0,none⟩=some (.string cur):=ak hq.s 0;have z1':W'.cell? ⟨bp,0,none⟩=some (.string ⟨#[47]⟩):=ak hq.p 0;have f0':=ay hq.s 0;have l0':=bG hq.s;have HQ2:=ah.mk hq;have HJ2:=ah.mk hJ';clear hq hJ' hk' hR hy
   gi_wp2
   go_wp2_with fail
   go_roundg (Lib.countB (cur.extract (i+1) cur.size) jN)
   case measure=>omega
   case rel=>
    refine⟨pre++[cur.extract 0 i],cur.extract (i+1) cur.size,Nat.le_refl _,by rw[ByteArray.size_extract];omega,wS,⟨HJ.out _ _ _ HJ2.out (StS.set _ _ _ _)⟩,⟨gY HQ2.out.s 0 _ (by rfl),fJ HQ2.out.p (fun e=>hne.1 e.symm) _,fJ HQ2.out.v (fun e=>hne.2 e.symm) _⟩⟩
  gi_wp2
  refine bodyPost_ret (results_none rfl _ _ _) rfl ?_;exact⟨⟨_,rfl⟩,.inr hX⟩
end Go.Proofs.YtknihldkhedpkaaGreatDoor
end
