import Derived.Test.YtknihldkhedpkaaGreatDoorUUG8
import Derived.Test.YtknihldkhedpkaaGreatDoorUUG10
import Derived.Test.YtknihldkhedpkaaGreatDoorUUG6
import Derived.Laws.BitsLemmas
set_option linter.all false
set_option maxHeartbeats 16000000
set_option maxRecDepth 100000
section
namespace Go.Proofs.YtknihldkhedpkaaGreatDoor
open Go.RowKit Go.Lib
open Go.Proofs.YtknihldkhedpkaaGreatDoorW.PrintWords Go.Proofs.YtknihldkhedpkaaGreatDoorW.PrintLast Go.Proofs.YtknihldkhedpkaaGreatDoor.PT
def gV (l:List Int):Int:=((rd l ((l.length:Int) - 1)*256+rd l ((l.length:Int) - 2))*256+rd l ((l.length:Int) - 3))*256+rd l ((l.length:Int) - 4)
theorem PL (l:List Int) (h4:4≤l.length) (hm:l.length≤140737488351232) (hb:∀x∈l,0≤x∧x≤255):dR.f 5 l=some (gV l):=by
 have hr:∀i:Int,0≤i→i<(l.length:Int)→0≤rd l i∧rd l i≤255:=fun i h0 h1=>by
  unfold rd
  have hlt:i.toNat<l.length:=by omega
  rw[List.getD_eq_getElem?_getD,List.getElem?_eq_getElem hlt];exact hb _ (List.getElem_mem hlt)
 have h1:=hr ((l.length:Int) - 1) aj aj;have h2:=hr ((l.length:Int) - 2) aj aj;have h3:=hr ((l.length:Int) - 3) aj aj;have h5:=hr ((l.length:Int) - 4) aj aj
 obtain⟨a,ha⟩:∃a,rd l ((l.length:Int) - 1)=a:=⟨_,rfl⟩
 obtain⟨b,hb⟩:∃a,rd l ((l.length:Int) - 2)=a:=⟨_,rfl⟩
 obtain⟨c,hc⟩:∃a,rd l ((l.length:Int) - 3)=a:=⟨_,rfl⟩
 obtain⟨d,hd⟩:∃a,rd l ((l.length:Int) - 4)=a:=⟨_,rfl⟩
 have w0:wrap64 (wrap64 ((l.length:Int) - 1) - 0)=(l.length:Int) - 1:=by unfold wrap64;omega
 have w1:wrap64 (wrap64 ((l.length:Int) - 1) - 1)=(l.length:Int) - 2:=by unfold wrap64;omega
 have w2:wrap64 (wrap64 ((l.length:Int) - 1) - 2)=(l.length:Int) - 3:=by unfold wrap64;omega
 have w3:wrap64 (wrap64 ((l.length:Int) - 1) - 3)=(l.length:Int) - 4:=by unfold wrap64;omega
 have hor:∀x y:Int,0≤x→x<16777216→0≤y→y≤255→Go.bits .or .i64 (wrap64 (x*256)) (wrap64 y)=x*256+y:=fun x y hx0 hx1 hy0 hy1=>by
  rw[show wrap64 (x*256)=x*256 by unfold wrap64;omega,show wrap64 y=y by unfold wrap64;omega];exact bits_join .i64 40 aD (fun n h0 h1=>by rw[IntKind.wrap_i64];omega) 8 _ _ aj aj aj hy0 aj aj
 rw[ha] at h1;rw[hb] at h2;rw[hc] at h3;rw[hd] at h5;unfold dR.f gV;rw[ha,hb,hc,hd];simp only[dR.l0];rw[if_pos aD,w0,if_pos aj,if_pos aj,ha,hor 0 a aD aD h1.1 h1.2];rw[show wrap64 (0+1)=1 by unfold wrap64;omega,if_pos aD,w1,if_pos aj,if_pos aj,hb,hor _ b aj aj h2.1 h2.2];rw[show wrap64 (1+1)=2 by unfold wrap64;omega,if_pos aD,w2,if_pos aj,if_pos aj,hc,hor _ c aj aj h3.1 h3.2];rw[show wrap64 (2+1)=3 by unfold wrap64;omega,if_pos aD,w3,if_pos aj,if_pos aj,hd,hor _ d aj aj h5.1 h5.2];rw[show wrap64 (3+1)=4 by unfold wrap64;omega,if_neg aD];simp
def lg {α:Type} (a b:α):Nat→α
 | 0=>a
 | _=>b
theorem oO {p:Nat→Prop} (h0:p 0) (h1:p 1):∀i,i<2→p i:=fun i hi=>by
 rcases (show i=0∨i=1 by omega) with rfl|rfl
 ·exact h0
 exact h1
def mZ (a b:List It):List Two.Rd:=Two.fI (lg a b) (Two.kE (lg a b) (fun _=>0)) (fun _=>0)
def lu (a b:Option It):Option Ch :=
 if JG a b=true then none else
 match a,b with
 | some x,none=>some ⟨1,⟨0,x.f1,⟨#[]⟩,0,[],[]⟩,[]⟩
 | some x,some y=>if x.f0=1∧y.f0=1 then some (rz x y) else some ⟨2,y,[]⟩
 | none,some y=>some ⟨2,y,[]⟩
 | none,none=>none
def kM (s:List Ch) (r:Two.Rd):List Ch:=s++(lu r.2.1 r.2.2).toList
def iY (a b:List It):List Ch:=(mZ a b).foldl kM []
theorem AV (l:List Two.Rd):∀s,(l.foldl kM s).length≤s.length+l.length:=by
 induction l with
 | nil=>intro s;exact Nat.le_refl _
 | cons r l ih=>
  intro s;have h:=ih (kM s r)
  have h1:(kM s r).length≤s.length+1:=by
   unfold kM;rw[List.length_append]
   cases lu r.2.1 r.2.2 <;> simp
  simp only[List.foldl_cons,List.length_cons];omega
def afS (w0:World):Kd It:=Kd.Po (Kd.pair (Kd.int .i64) (Kd.pair Kd.string (Kd.pair Kd.string (Kd.pair (Kd.int .i64) (Kd.pair (Kd.mix 117 dB dB w0) (Kd.mix 5 (Kd.int .u8) (Kd.int .u8) w0)))))) (fun x:It=>(x.f0,x.f1,x.f2,x.f3,x.f4,x.f5))
def CU (w0:World):Kd Ch:=Kd.Po (Kd.pair (Kd.int .i64) (Kd.pair (afS w0) (Kd.mix 117 dB dB w0))) (fun x:Ch=>(x.f0,x.f1,x.f2))
abbrev abK (w0:World):Kd (List Rn):=Kd.mix 117 dB dB w0
abbrev acQ (w0:World):Kd (List Int):=Kd.mix 5 (Kd.int .u8) (Kd.int .u8) w0
theorem xw {w0 w:World} {base:Nat} {ok:Nat→Prop} {x:Ch} {v5 v6 v7:Value} (g5:(abK w0).M w base ok x.f1.f4 [v5]) (g6:(acQ w0).M w base ok x.f1.f5 [v6]) (g7:(abK w0).M w base ok x.f2 [v7]) :
  (CU w0).M w base ok x [.int .i64 x.f0,.int .i64 x.f1.f0,.string x.f1.f1,.string x.f1.f2,.int .i64 x.f1.f3,v5,v6,v7] :=
 ⟨[.int .i64 x.f0],[.int .i64 x.f1.f0,.string x.f1.f1,.string x.f1.f2,.int .i64 x.f1.f3,v5,v6,v7],rfl,rfl,
  ⟨[.int .i64 x.f1.f0,.string x.f1.f1,.string x.f1.f2,.int .i64 x.f1.f3,v5,v6],[v7],rfl,
   ⟨[.int .i64 x.f1.f0],[.string x.f1.f1,.string x.f1.f2,.int .i64 x.f1.f3,v5,v6],rfl,rfl,⟨[.string x.f1.f1],[.string x.f1.f2,.int .i64 x.f1.f3,v5,v6],rfl,rfl,⟨[.string x.f1.f2],[.int .i64 x.f1.f3,v5,v6],rfl,rfl,⟨[.int .i64 x.f1.f3],[v5,v6],rfl,rfl,⟨[v5],[v6],rfl,g5,g6⟩⟩⟩⟩⟩,g7⟩⟩
theorem Ui {w0 w:World} (hb:Below w0.heap.size w0 w) {x:Ch} {cs:List Value} (h:(CU w0).K w x cs):IW.K w x cs:=by
 obtain⟨_,_,rfl,rfl,⟨_,_,rfl,⟨_,_,rfl,rfl,⟨_,_,rfl,rfl,⟨_,_,rfl,rfl,⟨_,_,rfl,rfl,⟨_,_,rfl,g4,g5⟩⟩⟩⟩⟩,g7⟩⟩:=h;obtain⟨A4,c4,rfl,l4,r4⟩:=Kd.Fq rfl (fun _ _ h=>h) hb g4;obtain⟨A5,c5,rfl,l5,r5⟩:=Kd.Fq rfl (fun _ _ h=>h) hb g5;obtain⟨A7,c7,rfl,l7,r7⟩:=Kd.Fq rfl (fun _ _ h=>h) hb g7;exact acL w x l4 r4 l5 r5 l7 r7
theorem VT {w0:World} {q:Nat} (h:q∈31::(CU w0).E):q=31∨q=117∨q=5:=by
 simp[CU,afS,Kd.Po,Kd.pair,Kd.int,Kd.scalar,Kd.string,Kd.mix,Kd.or_,Kd.fixed,Kd.slice,dB] at h;omega
structure DI (w:World) (nb pb:Nat) (b0 g0:Int) (S:List Ch) (W:World):Prop where
 low:Below w.heap.size w W
 big:nb≤W.heap.size
 box:∃v,W.heap[pb]?=some (.cells #[.int .i64 b0,.int .i64 g0,v] 24 (0,0))∧Kd.R (CU w) 31 W nb (fun _=>True) v S
def kW (a b:List It):List Int × Int :=
 if (bY a).2≠0 then ([],(bY a).2) else if (bY b).2≠0 then ([],(bY b).2) else iA (gV (bY a).1) (gV (bY b).1) (iY a b)
def gP.f (l0 l1:List It):Option (List Int × Int):=if l0.all nO=true∧l1.all nO=true then some (kW l0 l1) else none
theorem DI.kq {w A C:World} {nb pb B:Nat} {b0 g0:Int} {S:List Ch} (h:DI w nb pb b0 g0 S A) (hq:Kq B A C) (h0:w.heap.size≤B) (h1:pb<B):DI w nb pb b0 g0 S C:=by
 obtain⟨v,hv,ML⟩:=h.box;exact⟨hq.low h0 (Nat.le_refl _) h.low,Nat.le_trans h.big hq.size,v,hq.blocks _ _ hv (.inl h1),hq.row ML (fun q hq=>by rcases VT hq with rfl|rfl|rfl <;> decide)⟩
theorem DI.below {w A C:World} {nb pb:Nat} {b0 g0:Int} {S:List Ch} (h:DI w nb pb b0 g0 S A) (hb:Below A.heap.size A C):DI w nb pb b0 g0 S C:=by
 obtain⟨v,hv,ML⟩:=h.box;exact⟨h.low.trans (hb.mono h.low.size),Nat.le_trans h.big hb.size,v,aG hv hb,Kd.dF ML hb⟩
theorem AX (g br:Nat) (w:World) :
  Calls Tryz.prog 50 #[.func (.func g) #[] #[],.slice (some ⟨br,0,none⟩) 2 2] w fun e w'=>e=.returned (.func (.func 87) #[] #[.pointer (some ⟨w.heap.size+1,0,none⟩),.pointer (some ⟨w.heap.size,0,none⟩)]) ∧
   w'=(w.alloc (.cells #[.func (.func g) #[] #[]] 93)).alloc (.cells #[.slice (some ⟨br,0,none⟩) 2 2] 75):=by
 have hz1:∀w,(Go.sizeOf 93).run Tryz.prog w=.ok 1 w:=fun w=>by kernel_rfl
 have hz2:∀w,(Go.sizeOf 75).run Tryz.prog w=.ok 1 w:=fun w=>by kernel_rfl
 go_enter Tryz.func50,Tryz.ntmps50
 go_wp2_with fail
 go_ret
 exact⟨by simp,rfl⟩
theorem AY:∀(l:List It) (out:List Int) (n:Nat),(lY out n l).2=0→(∀x∈l,Fit x)→(∀b∈out,0≤b∧b≤255)→out.length+9≤4194304→4≤(lY out n l).1.length∧(lY out n l).1.length≤4194304∧∀b∈(lY out n l).1,0≤b∧b≤255
 | [],out,n,_,_,hb,hl=>by
  show 4≤(jM out n).length∧(jM out n).length≤4194304∧∀b∈jM out n,0≤b∧b≤255
  unfold jM;simp only[List.length_append,aT];refine⟨by omega,by omega,fun b h=>?_⟩;simp only[List.mem_append] at h
  rcases h with ((h|h)|h)|h
  ·exact hb b h
  ·exact fM _ _ b h
  ·exact fM _ _ b h
  exact fM _ _ b h
 | x::l,out,n,h,hf,hb,hl=>by
  rw[lY] at h ⊢;split at h
  ·cases h
  rename_i hle;rw[if_neg hle]
  exact AY l _ _ h (fun y hy=>hf y (by simp[hy])) (fun b hm=>by
   rcases List.mem_append.1 hm with hm|hm
   ·exact hb b hm
   exact Fh (hf x bK) b hm) aj
theorem mJ {l:List It} (h:(bY l).2=0) (hf:l.all nO=true):4≤(bY l).1.length∧(bY l).1.length≤4194304∧∀b∈(bY l).1,0≤b∧b≤255:=by
 unfold bY at h ⊢;split at h
 ·cases h
 rename_i h1;rw[if_neg h1];split at h
 ·rename_i h2;rw[if_pos h2];exact AY l _ _ h (fun x hx=>uG (List.all_eq_true.1 hf x hx)) aD aD
 cases h
theorem zU (size:Int) (hs:0≤size) (hs2:size≤8459264):∀(l:List Ru) (last all l2 a2:Int),iJ size last all l=some (l2,a2)→a2=all+(idxs l).length∧∀r∈l,0≤r.f0∧r.f0≤r.f1∧r.f1≤16522
 | [],last,all,l2,a2,h=>by
  simp[iJ] at h;obtain⟨rfl,rfl⟩:=h;simp[idxs]
 | r::l,last,all,l2,a2,h=>by
  rw[iJ] at h;split at h
  ·cases h
  rename_i hc;obtain⟨h1,h2⟩:=zU size hs hs2 l r.f1 (all+(r.f1 - r.f0)) l2 a2 h
  have hl:(idxs (r::l)).length=(r.f1 - r.f0).toNat+(idxs l).length:=by
   unfold idxs;rw[List.flatMap_cons,List.length_append];simp[jf]
  refine⟨by rw[hl];omega,fun q hq=>?_⟩
  rcases List.mem_cons.1 hq with rfl|hq
  ·omega
  exact h2 q hq
theorem Fu {x:It} (hb:∀n∈x.f5,0≤n∧n≤255) (h:iK x.f3 x.f4 x.f5=true):Fits x:=by
 unfold iK at h;split at h
 ·cases h
 rename_i hc
 cases hr:iJ x.f3 (-1) 0 x.f4 with
 | none=>rw[hr] at h;cases h
 | some p=>
  obtain⟨l2,a2⟩:=p;have h1:=vO x.f3 aj aj x.f4 (-1) 0 l2 a2 aj aj aj hr;have h2:=zU x.f3 aj aj x.f4 (-1) 0 l2 a2 hr;rw[hr,uh] at h;split at h
  ·rename_i h3;exact⟨hb,by omega,h2.2,by omega,by omega⟩
  cases h
theorem PN {K:List (ByteArray × Int)}:∀{before:Option (List ByteArray)} {l:List It},gY K before l=true→∀x∈l,x.f0=1→iK x.f3 x.f4 x.f5=true:=by
 intro before l
 induction l generalizing K before with
 | nil=>intro _ x hx;cases hx
 | cons a l ih=>
  intro h x hx h1;rw[gY] at h;simp only[Bool.and_eq_true] at h
  rcases List.mem_cons.1 hx with rfl|hx
  ·have hc:=h.1.2;unfold d9 at hc;rw[if_pos h1] at hc;simp only[Bool.and_eq_true] at hc;exact hc.2
  exact ih h.2 x hx h1
theorem uQ {l:List It} (h:(bY l).2=0) (hf:l.all nO=true):∀x∈l,x.f0=1→Fits x:=fun x hx h1=>
 Fu (uG (List.all_eq_true.1 hf x hx)).b (PN (qp h).2 x hx h1)
theorem Uj {x y:It} (fx:Fits x) (fy:Fits y) (hp:y.f1.size≤140737488351232):uH (rz x y):=by
 have h:=qD x y (idxs y.f4) 0 ([],[]);have hl:=fy.l;have hi:=fy.i
 have hm:∀(l:List Int) (k:Nat) (s:List Rn × List Int),(∀b∈s.2,0≤b∧b≤255)→∀b∈(gG x y l k s).2,0≤b∧b≤255:=by
  intro l
  induction l with
  | nil=>intro k s hs;exact hs
  | cons i l ih=>
   intro k s hs;refine ih _ _ ?_;split
   ·intro b hb
    rcases List.mem_append.1 hb with hb|hb
    ·exact hs b hb
    exact fy.b b (List.mem_of_mem_drop (List.mem_of_mem_take hb))
   exact hs
 have h1:(gG x y (idxs y.f4) 0 ([],[])).1.length≤(idxs y.f4).length:=by have:=h.1;simpa using this
 have h2:(gG x y (idxs y.f4) 0 ([],[])).2.length≤512*(idxs y.f4).length:=by have:=h.2;simpa using this
 exact⟨⟨hp,by show (⟨#[]⟩:ByteArray).size≤_;decide,by show y.f4.length≤_;omega,by show (gG x y (idxs y.f4) 0 ([],[])).2.length≤_;omega,hm _ _ _ bK⟩,by show (gG x y (idxs y.f4) 0 ([],[])).1.length≤_;omega⟩
theorem VU {l0 l1:List It} (h0:(bY l0).2=0) (h1:(bY l1).2=0) (f0:l0.all nO=true) (f1:l1.all nO=true) {a b:Option It} (ha:∀x,a=some x→x∈l0) (hb:∀x,b=some x→x∈l1) {c:Ch} (h:lu a b=some c):uH c:=by
 unfold lu at h;split at h
 ·cases h
 cases a with
 | none=>
  cases b with
  | none=>cases h
  | some y=>
   obtain rfl:=Option.some.inj h;exact⟨uG (List.all_eq_true.1 f1 y (hb y rfl)),Nat.zero_le _⟩
 | some x=>
  cases b with
  | none=>
   obtain rfl:=Option.some.inj h;exact⟨⟨(uG (List.all_eq_true.1 f0 x (ha x rfl))).p,by show (⟨#[]⟩:ByteArray).size≤_;decide,Nat.zero_le _,Nat.zero_le _,fun n hn=>by cases hn⟩,Nat.zero_le _⟩
  | some y=>
   dsimp only at h;split at h
   ·rename_i hk;obtain rfl:=Option.some.inj h;exact Uj (uQ h0 f0 x (ha x rfl) hk.1) (uQ h1 f1 y (hb y rfl) hk.2) (uG (List.all_eq_true.1 f1 y (hb y rfl))).p
   obtain rfl:=Option.some.inj h;exact⟨uG (List.all_eq_true.1 f1 y (hb y rfl)),Nat.zero_le _⟩
theorem yH {l0 l1:List It} (h0:(bY l0).2=0) (h1:(bY l1).2=0) (f0:l0.all nO=true) (f1:l1.all nO=true):∀(rs:List Two.Rd) (s:List Ch),(∀r∈rs,(∀x,r.2.1=some x→x∈l0)∧∀x,r.2.2=some x→x∈l1)→(∀c∈s,uH c)→∀c∈rs.foldl kM s,uH c
 | [],s,_,hs=>hs
 | r::rs,s,hr,hs=>by
  refine yH h0 h1 f0 f1 rs _ (fun q hq=>hr q (by simp[hq])) (fun c hc=>?_);unfold kM at hc
  rcases List.mem_append.1 hc with hc|hc
  ·exact hs c hc
  exact VU h0 h1 f0 f1 (hr r bK).1 (hr r bK).2 (Option.mem_toList.1 hc)
theorem kN {W:World} {n:Nat} (h:W.heap.size=n) (o:Obj):(W.alloc o).heap[n]?=some o:=h▸bJ W o
def wN (W:World) (p:Addr) (x:It) (A4:Option Addr) (c4:Nat) (A5:Option Addr) (c5:Nat):Prop :=
 W.cell? p=some (.int .i64 x.f0)∧W.cell? ⟨p.block,p.off+1,none⟩=some (.string x.f1)∧W.cell? ⟨p.block,p.off+2,none⟩=some (.string x.f2)∧W.cell? ⟨p.block,p.off+3,none⟩=some (.int .i64 x.f3)∧W.cell? ⟨p.block,p.off+4,none⟩=some (.slice A4 x.f4.length c4)∧W.cell? ⟨p.block,p.off+5,none⟩=some (.slice A5 x.f5.length c5)
theorem wN.below {W W1:World} {p:Addr} {x:It} {A4:Option Addr} {c4:Nat} {A5:Option Addr} {c5:Nat} (h:wN W p x A4 c4 A5 c5) (hb:Below W.heap.size W W1):wN W1 p x A4 c4 A5 c5 :=
 ⟨au hb h.1,au hb h.2.1,au hb h.2.2.1,au hb h.2.2.2.1,au hb h.2.2.2.2.1,au hb h.2.2.2.2.2⟩
structure Lie (W:World) (x:It) (A4:Option Addr) (c4:Nat) (A5:Option Addr) (c5:Nat):Prop where
 l4:x.f4.length≤c4
 g4:Kd.C dB W A4 x.f4.length x.f4
 l5:x.f5.length≤c5
 g5:Kd.C (Kd.int .u8) W A5 x.f5.length x.f5
theorem OI.six {W:World} {v:Value} {x:It} (h:OI W v (some x)):∃ad A4 c4 A5 c5,v=.pointer (some ad)∧wN W ad x A4 c4 A5 c5∧Lie W x A4 c4 A5 c5:=by
 obtain⟨ad,A4,c4,A5,c5,e,r0,r1,r2,r3,r4,r5,l4,g4,l5,g5⟩:=h;exact⟨ad,A4,c4,A5,c5,e,⟨r0,r1,r2,r3,r4,r5⟩,l4,g4,l5,g5⟩
theorem Lie.below {W W1:World} {x:It} {A4:Option Addr} {c4:Nat} {A5:Option Addr} {c5:Nat} (h:Lie W x A4 c4 A5 c5) (hb:Below W.heap.size W W1):Lie W1 x A4 c4 A5 c5:=⟨h.l4,Kd.aC h.g4 hb,h.l5,Kd.aC h.g5 hb⟩
def zn (w:World) (nb pb b1 b2 br:Nat) (b0 g0:Int) (S:List Ch) (W:World) (e:Exit) (B:World):Prop :=
 e=.normal∧DI w nb pb b0 g0 S B∧KpR w.heap.size (fun k=>k=b1∨k=b2∨k=br) W B∧Still nb W B
theorem zn.eq {w:World} {nb pb b1 b2 br:Nat} {b0 g0:Int} {S:List Ch} {W B:World} {e:Exit} (h:zn w nb pb b1 b2 br b0 g0 S W e B):e=.normal:=h.1
theorem akS {w:World} {nb pb:Nat} {b0 g0:Int} {S0 S:List Ch} {W:World} (hi:DI w nb pb b0 g0 S0 W) (h0:w.heap.size≤pb) (h1:nb=pb+4) :
  ∀B,DI w nb pb b0 g0 S B→kg nb (fun k=>k=pb) (fun q=>q=31) W B→zn w nb pb (pb+1+1) (pb+1+1+1) (pb+1) b0 g0 S W .normal B:=fun B hd hc=>by
 obtain⟨v,hv,_⟩:=hi.box;have hbig:=hi.big;exact⟨rfl,hd,hc.kp aj (fun k hk=>by omega) aj (fun k hk=>by omega) aD (fun k hk cs e=>by rw[hk,hv] at e;injection e with e;injection e with _ e;exact absurd e aD),hc.still (fun k hk=>by omega)⟩
theorem Two.VW {rs:List Two.Rd} {w0 W:World} {pre:List Two.oG} {x:Two.oG} {l:Nat} {o o':Obj} (h:Two.Sd rs w0 pre x W) (ho:W.heap[l]?=some o) (hc:o.isCells=false):Two.Sd rs w0 pre x (W.putObj l o'):=by
 obtain⟨hr,p0,p1,hg,h0,h1⟩:=h;refine⟨hr,p0,p1,(World.putObj_heap_other (fun e=>?_)).trans hg,h0,h1⟩;rw[e,ho] at hg
 injection hg with hg
 subst hg;cases hc
theorem Two.here {L:Nat→List It}:∀{n:Nat} {p:Nat→Nat} {r:Two.Rd},r∈Two.fI L n p→(∀x,r.2.1=some x→x∈L 0)∧(∀x,r.2.2=some x→x∈L 1)
 | 0,p,r,h=>by cases h
 | n+1,p,r,h=>by
  rw[Two.fI] at h
  cases hk:ko L p 2 with
  | none=>
   rw[hk] at h;cases h
  | some k=>
   rw[hk] at h
   rcases List.mem_cons.1 h with rfl|h
   ·exact⟨fun x hx=>(yG hx).1,fun x hx=>(yG hx).1⟩
   exact Two.here h
theorem Two.length {L:Nat→List It}:∀(n:Nat) (p:Nat→Nat),(Two.fI L n p).length≤n
 | 0,p=>Nat.le_refl _
 | n+1,p=>by
  rw[Two.fI]
  cases ko L p 2 with
  | none=>exact Nat.zero_le _
  | some k=>exact Nat.succ_le_succ (Two.length n _)
theorem DI.push {w W W1:World} {nb pb:Nat} {b0 g0:Int} {S:List Ch} {c:Ch} {v v1:Value} (h:DI w nb pb b0 g0 S W) (hv:W.heap[pb]?=some (.cells #[.int .i64 b0,.int .i64 g0,v] 24 (0,0))) (hr:Kd.R (CU w) 31 W nb (fun _=>True) v S)
  (hr1:Kd.R (CU w) 31 W1 nb (fun _=>True) v1 (S++[c])) (hg:W.grownBy W1 v.ownBlock) (h0:w.heap.size≤nb) (h1:w.heap.size≤pb):DI w nb pb b0 g0 (S++[c]) (W1.setCell ⟨pb,2,none⟩ v1):=by
 have hb:=(hg.block _ (bE hv) (jO hr hv (fun cs e=>by injection e with _ e;exact absurd e aD))).trans hv;refine⟨((h.low.grown hg h.low.size (fun k e=>by have:=Kd.sV hr k e;omega)).setCell (by show w.heap.size≤pb;omega) _),?_,v1,iC hb 2 v1 (by rfl),?_⟩
 ·have h2:=((Below.refl 0 W1).setCell (p:=⟨pb,2,none⟩) (Nat.zero_le _) v1).size;exact Nat.le_trans h.big (Nat.le_trans hg.size h2)
 exact Kd.iP hr1 hb (fun q hq=>by rcases VT hq with rfl|rfl|rfl <;> decide) 2 v1
theorem CV:(Tryz.prog.info? 31).map (fun i=>(i.zero,i.size,i.bytes))=some (some (.agg #[.int .i64 0,.int .i64 0,.string ⟨#[]⟩,.string ⟨#[]⟩,.int .i64 0,.slice none 0 0,.slice none 0 0,.slice none 0 0]),8,128):=by kernel_rfl
def qR (c:Ch):ByteArray:=fV 47 0 c.f1.f1
def tT:List Ch→ByteArray→Option Ch
 | [],_=>none
 | c::l,k=>match tT l k with
  | some d=>some d
  | none=>if qR c=k then some c else none
theorem Uk (l:List Ch) (c:Ch) (k:ByteArray):tT (l++[c]) k=if qR c=k then some c else tT l k:=by
 induction l with
 | nil=>simp[tT]
 | cons y l ih=>
  show (match tT (l++[c]) k with|some d=>some d|none=>if qR y=k then some y else none)=_
  rw[ih];by_cases e:qR c=k
  ·rw[if_pos e,if_pos e]
  rw[if_neg e,if_neg e];rfl
theorem xA:∀{l:List Ch} {k:ByteArray} {c:Ch},tT l k=some c→c∈l∧qR c=k
 | [],_,_,h=>by cases h
 | y::l,k,c,h=>by
  rw[tT] at h
  cases hl:tT l k with
  | some d=>
   rw[hl] at h;obtain rfl:=Option.some.inj h;have:=xA hl;exact⟨List.mem_cons_of_mem _ this.1,this.2⟩
  | none=>
   rw[hl] at h;dsimp only at h;split at h
   ·rename_i e;obtain rfl:=Option.some.inj h;exact⟨List.mem_cons_self,e⟩
   cases h
theorem CW:∀{l:List Ch} {k:ByteArray},tT l k=none→∀c∈l,qR c≠k
 | [],_,_,c,hc=>by cases hc
 | y::l,k,h,c,hc=>by
  rw[tT] at h
  cases hl:tT l k with
  | some d=>rw[hl] at h;cases h
  | none=>
   rw[hl] at h;dsimp only at h;split at h
   ·cases h
   rename_i e
   rcases List.mem_cons.1 hc with rfl|hc
   ·exact e
   exact CW hl c hc
def xB (c:Ch):It:=⟨0,c.f1.f1,⟨#[]⟩,0,[],[]⟩
def eP (cs:List Ch):List It:=cs.map xB
def vP (a:Option It) (c:Ch):Option It:=a.bind fun x=>rF x c
def oP (cs:List Ch) (r:Two.Rd):Option (List It) :=
 match tT cs r.1 with
 | none=>some r.2.1.toList
 | some c=>if c.f0=2 then some [c.f1] else if c.f0=3 then (vP r.2.1 c).map (fun x=>[x]) else if r.2.1=none then none else some []
def kP (cs:List Ch):List Two.Rd→List It→Option (List It)
 | [],s=>some s
 | r::rs,s=>match oP cs r with
  | none=>none
  | some l=>kP cs rs (s++l)
def qG (a:List It) (cs:List Ch):Option (List It):=kP cs (mZ a (eP cs)) []
theorem CY (cs:List Ch):∀(a b:List Two.Rd) (s:List It),kP cs (a++b) s=(kP cs a s).bind (kP cs b)
 | [],b,s=>rfl
 | r::a,b,s=>by
  rw[List.cons_append,kP,kP]
  cases oP cs r with
  | none=>rfl
  | some l=>exact CY cs a b (s++l)
theorem AZ (cs:List Ch):∀(rs:List Two.Rd) (s t:List It),kP cs rs s=some t→t.length≤s.length+rs.length
 | [],s,t,h=>by
  obtain rfl:=Option.some.inj h;simp
 | r::rs,s,t,h=>by
  rw[kP] at h
  cases ho:oP cs r with
  | none=>rw[ho] at h;cases h
  | some l=>
   rw[ho] at h;have h1:=AZ cs rs _ t h
   have h2:l.length≤1:=by
    unfold oP at ho;split at ho
    ·obtain rfl:=Option.some.inj ho
     cases r.2.1 <;> simp
    split at ho
    ·obtain rfl:=Option.some.inj ho;simp
    split at ho
    ·rename_i c _ _ _
     cases he:vP r.2.1 c with
     | none=>rw[he] at ho;cases ho
     | some x=>
      rw[he] at ho;obtain rfl:=Option.some.inj ho;simp
    split at ho
    ·cases ho
    obtain rfl:=Option.some.inj ho;simp
   rw[List.length_append] at h1;simp only[List.length_cons];omega
theorem Two.key {L:Nat→List It}:∀{n:Nat} {p:Nat→Nat} {r:Two.Rd},r∈Two.fI L n p→(∀x,r.2.1=some x→kV x=r.1)∧(∀x,r.2.2=some x→kV x=r.1)∧(r.2.1=none→∃x,r.2.2=some x)
 | 0,p,r,h=>by cases h
 | n+1,p,r,h=>by
  rw[Two.fI] at h
  cases hk:ko L p 2 with
  | none=>
   rw[hk] at h;cases h
  | some k=>
   rw[hk] at h
   rcases List.mem_cons.1 h with rfl|h
   ·have hkk:∀{a b:ByteArray},a.toList=b.toList→a=b:=fun {a b} h=>mg (by rw[Lib.toList_data,Lib.toList_data] at h;exact h)
    refine⟨fun x hx=>hkk (yG hx).2,fun x hx=>hkk (yG hx).2,fun hn=>?_⟩;obtain⟨j,x,hj,h1,h2⟩:=sG hk
    rcases (show j=0∨j=1 by omega) with rfl|rfl
    ·exfalso;have hn:fG L p k 0=none:=hn;unfold fG at hn;rw[h1] at hn;subst h2;simp at hn
    refine⟨x,?_⟩
    show fG L p k 1=some x
    unfold fG;rw[h1];subst h2;simp
   exact Two.key h
end Go.Proofs.YtknihldkhedpkaaGreatDoor
end
section
namespace Go.Proofs.YtknihldkhedpkaaGreatDoor
open Go.RowKit Go.Maps Go.WideAt
open Go.Proofs.YtknihldkhedpkaaGreatDoorW.PrintWords Go.Proofs.YtknihldkhedpkaaGreatDoorW.PrintLast Go.Proofs.YtknihldkhedpkaaGreatDoor.PT
structure VX (c:Ch):Prop where
 b:∀n∈c.f1.f5,0≤n∧n≤255
 n:c.f1.f5.length=512*(idxs c.f2).length
 r:∀r∈c.f2,0≤r.f0∧r.f0≤r.f1∧r.f1≤16522
 l:c.f2.length≤16523
 i:(idxs c.f2).length≤16523
 r4:∀r∈c.f1.f4,0≤r.f0∧r.f0≤r.f1∧r.f1≤16522
 l4:c.f1.f4.length≤16523
 i4:(idxs c.f1.f4).length≤16523
abbrev acR:Ending:=.panicked [{ v:=.iface 160 (.agg #[]),recovered:=false }]
theorem vQ (old:EG) (c:Ch):∀(a b:List Int),dD old c (a++b)=(dD old c a).bind fun d=>(dD old c b).map (d ++ ·)
 | [],b=>by
  show dD old c b=(dD old c b).map ([] ++ ·)
  cases dD old c b <;> rfl
 | i::a,b=>by
  rw[List.cons_append,dD,dD,vQ old c a b]
  cases kQ c.f2 c.f1.f5 i with
  | some x=>
   dsimp only
   cases dD old c a with
   | none=>rfl
   | some d=>
    cases dD old c b with
    | none=>rfl
    | some e=>simp
  | none=>
   dsimp only
   cases kQ old.f4 old.f5 i with
   | none=>rfl
   | some x=>
    dsimp only
    cases dD old c a with
    | none=>rfl
    | some d=>
     cases dD old c b with
     | none=>rfl
     | some e=>simp
theorem KV (old:EG) (c:Ch) (a:List Int) (i:Int) (d:List Int) (h:dD old c a=some d):dD old c (a++[i])=match kQ c.f2 c.f1.f5 i with
  | some b=>some (d++b)
  | none=>match kQ old.f4 old.f5 i with
   | some b=>some (d++b)
   | none=>none:=by
 rw[vQ,h]
 show ((dD old c [i]).map (d ++ ·))=_
 rw[dD]
 cases kQ c.f2 c.f1.f5 i with
 | some x=>show (((dD old c []).map (x ++ ·)).map (d ++ ·))=_;simp[dD]
 | none=>
  dsimp only
  cases kQ old.f4 old.f5 i with
  | none=>rfl
  | some x=>show (((dD old c []).map (x ++ ·)).map (d ++ ·))=_;simp[dD]
theorem Jc (old:EG) (c:Ch) (a b:List Int) (h:dD old c a=none):dD old c (a++b)=none:=by rw[vQ,h];rfl
theorem VY (d:List Int) (k:Nat):(dS d k).length≤512:=by unfold dS;rw[List.length_take];omega
theorem M9 {rows:List Rn} {d:List Int} {i:Int} {b:List Int} (h:kQ rows d i=some b):b.length≤512:=by
 unfold kQ at h
 cases hl:jC (idxs rows) 0 i with
 | none=>rw[hl] at h;cases h
 | some k=>
  rw[hl] at h;obtain rfl:=Option.some.inj h;exact VY _ _
theorem xC (old:EG) (c:Ch):∀(l d:List Int),dD old c l=some d→d.length≤512*l.length
 | [],d,h=>by
  obtain rfl:=Option.some.inj h;simp
 | i::l,d,h=>by
  rw[dD] at h
  have key:∀b:List Int,b.length≤512→(dD old c l).map (b ++ ·)=some d→d.length≤512*(i::l).length:=fun b hb hm=>by
   cases he:dD old c l with
   | none=>rw[he] at hm;cases hm
   | some e=>
    rw[he] at hm;obtain rfl:=Option.some.inj hm;have:=xC old c l e he;simp only[List.length_append,List.length_cons];omega
  cases h1:kQ c.f2 c.f1.f5 i with
  | some b=>
   rw[h1] at h;exact key b (M9 h1) h
  | none=>
   rw[h1] at h;dsimp only at h
   cases h2:kQ old.f4 old.f5 i with
   | some b=>
    rw[h2] at h;exact key b (M9 h2) h
   | none=>rw[h2] at h;cases h
theorem VZ {l:List Rn} {i j:Nat} (h:i<l.length):∃r,idxs l=(idxs (l.take i)++(jf l[i]).take j)++r:=by
 refine⟨(jf l[i]).drop j++idxs (l.drop (i+1)),?_⟩
 have e:idxs l=idxs (l.take (i+1))++idxs (l.drop (i+1)):=by unfold idxs;rw[← List.flatMap_append,List.take_append_drop]
 rw[e,yC h,List.append_assoc,List.append_assoc,← List.append_assoc ((jf l[i]).take j),List.take_append_drop]
structure Pt (w:World) (m5 n5:Nat) (F5:Lit→Option Value) (m6 n6:Nat) (F6:Lit→Option Value) (p:Nat) (path:ByteArray) (sz:Int) (v4:Value) (rows:List Rn) (rb:Nat) (rcs:Array Value) (rt:TypeId) (v5:Value) (d:List Int) (wx:World):Prop where
 low:Below w.heap.size w wx
 mp5:kU Tryz.prog 3 wx m5 n5 F5
 mp6:kU Tryz.prog 3 wx m6 n6 F6
 box:wx.heap[p]?=some (.cells #[.int .i64 1,.string path,.string ⟨#[]⟩,.int .i64 sz,v4,v5] 29 (0,0))
 res:wx.heap[w.heap.size+1]?=some (.cells #[.int .i64 0,.string ⟨#[]⟩,.string ⟨#[]⟩,.int .i64 0,.slice none 0 0,.slice none 0 0] 29 (0,0))
 Vx:wx.heap[rb]?=some (.cells rcs rt (0,0))
 runs:Kd.R dB 117 wx w.heap.size (fun _=>True) v4 rows
 data:Kd.R (Kd.int .u8) 5 wx w.heap.size (fun _=>True) v5 d
 hp:w.heap.size+1<p
 hr:rb≠p∧rt≠5
section
variable {w : World} {m5 n5 : Nat} {F5 : Lit → Option Value} {m6 n6 : Nat} {F6 : Lit → Option Value} {p : Nat} {path : ByteArray} {sz : Int} {v4 : Value} {rows : List Rn} {rb : Nat} {rcs : Array Value} {rt : TypeId} {v5 : Value} {d : List Int} {wx : World}
theorem Pt.below {w1:World} (h:Pt w m5 n5 F5 m6 n6 F6 p path sz v4 rows rb rcs rt v5 d wx) (hb:Below wx.heap.size wx w1):Pt w m5 n5 F5 m6 n6 F6 p path sz v4 rows rb rcs rt v5 d w1 :=
 ⟨h.low.trans (hb.mono h.low.size),h.mp5.below hb,h.mp6.below hb,aG h.box hb,aG h.res hb,aG h.Vx hb,Kd.dF h.runs hb,Kd.dF h.data hb,h.hp,h.hr⟩
theorem Pt.V3 (h:Pt w m5 n5 F5 m6 n6 F6 p path sz v4 rows rb rcs rt v5 d wx) (cs:Array Value):Pt w m5 n5 F5 m6 n6 F6 p path sz v4 rows wx.heap.size cs 117 v5 d (wx.alloc (.cells cs 117)):=by
 have h1:=h.below ((Below.refl wx.heap.size wx).alloc (Nat.le_refl _) (.cells cs 117));have hlt:=bE h.box;exact⟨h1.low,h1.mp5,h1.mp6,h1.box,h1.res,bJ _ _,h1.runs,h1.data,h1.hp,by omega,by decide⟩
theorem Pt.back (h:Pt w m5 n5 F5 m6 n6 F6 p path sz v4 rows rb rcs rt v5 d wx):Pt w m5 n5 F5 m6 n6 F6 p path sz v4 rows (w.heap.size+1) #[.int .i64 0,.string ⟨#[]⟩,.string ⟨#[]⟩,.int .i64 0,.slice none 0 0,.slice none 0 0] 29 v5 d wx :=
 ⟨h.low,h.mp5,h.mp6,h.box,h.res,h.res,h.runs,h.data,h.hp,by have:=h.hp;omega,by decide⟩
theorem Pt.append {w1:World} {v8:Value} {l:List Int} (h:Pt w m5 n5 F5 m6 n6 F6 p path sz v4 rows rb rcs rt v5 d wx) (hb:Below w.heap.size w w1) (hg:wx.grownBy w1 v5.ownBlock) (hr:Kd.R (Kd.int .u8) 5 w1 w.heap.size (fun _=>True) v8 l) :
  Pt w m5 n5 F5 m6 n6 F6 p path sz v4 rows rb rcs rt v8 l (w1.setCell ⟨p,5,none⟩ v8):=by
 have hoth:∀k (o:Obj),wx.heap[k]?=some o→(∀cs,o≠.cells cs 5 (0,0))→w1.heap[k]?=some o:=fun k o ho hne=>
  (hg.block k (bE ho) (fun e=>by
   obtain⟨cs,hc⟩:=Kd.Ba h.data k e.symm;rw[ho] at hc
   exact hne cs (Option.some.inj hc))).trans ho
 have eH:=hoth p _ h.box (fun cs e=>by injection e with _ e;exact absurd e aD);have hres:=hoth _ _ h.res (fun cs e=>by injection e with _ e;exact absurd e aD);have hrb:=hoth _ _ h.Vx (fun cs e=>by injection e with _ e;exact absurd e h.hr.2);have hp:=h.hp
 have hmap:∀{m n:Nat} {F:Lit→Option Value},kU Tryz.prog 3 wx m n F→kU Tryz.prog 3 (w1.setCell ⟨p,5,none⟩ v8) m n F:=fun {m n F} hm=>by
  refine hm.others (fun o ho hc=>?_);have h5:=hoth m _ ho (fun cs e=>by rw[e] at hc;cases hc)
  have hne:m≠p:=fun e=>by
   rw[e,eH] at h5;obtain rfl:=Option.some.inj h5;cases hc
  exact (Below.heap_setCell w1 ⟨p,5,none⟩ v8 m hne).trans h5
 refine⟨hb.setCell (by show w.heap.size≤p;omega) _,hmap h.mp5,hmap h.mp6,?_,?_,?_,?_,?_,h.hp,h.hr⟩
 ·exact iC eH 5 v8 (by rfl)
 ·exact iL hres (by show w.heap.size+1≠p;omega) _
 ·exact iL hrb h.hr.1 _
 ·exact Kd.iP (Kd.PO h.runs h.data (by intro q hq;simp[dB,Kd.Po,Kd.pair,Kd.int,Kd.scalar] at hq;subst hq;decide) hg) eH (by intro q hq;simp[dB,Kd.Po,Kd.pair,Kd.int,Kd.scalar] at hq;subst hq;decide) 5 v8
 exact Kd.iP hr eH (by intro q hq;simp[Kd.int,Kd.scalar] at hq;subst hq;decide) 5 v8
end
def afW (w:World) (o:Option EG) (e:Ending) (w':World):Prop:=Below w.heap.size w w'∧match o with
 | none=>e=acR
 | some y=>∃v4 v5,e=.returned (.agg #[.int .i64 y.f0,.string y.f1,.string y.f2,.int .i64 y.f3,v4,v5])∧Kd.R dB 117 w' w.heap.size (fun _=>True) v4 y.f4∧Kd.R (Kd.int .u8) 5 w' w.heap.size (fun _=>True) v5 y.f5
abbrev chV (c:Ch) (C4:Option Addr) (mE:Nat) (C5:Option Addr) (mF:Nat) (C7:Option Addr) (nP:Nat):Value:=.agg #[.int .i64 c.f0,.int .i64 c.f1.f0,.string c.f1.f1,.string c.f1.f2,.int .i64 c.f1.f3,.slice C4 c.f1.f4.length mE,.slice C5 c.f1.f5.length mF,.slice C7 c.f2.length nP]
theorem KW (p:Option Addr) (w:World):(binOp .eql 95 (.pointer p) (.pointer none)).run Tryz.prog w=.ok (.bool p.isNone) w:=run_eql_pointer_nil w _ p (show Tryz.prog.underlying 95=some (.pointer (Tryz.prog.pointee 95)) by kernel_rfl)
theorem PS (c:Ch) (C4:Option Addr) (mE:Nat) (C5:Option Addr) (mF:Nat) (C7:Option Addr) (nP:Nat) (w:World) :
  Calls Tryz.prog 123 #[.pointer none,chV c C4 mE C5 mF C7 nP] w fun e w'=>afW w none e w':=by
 have hq1:=KW;have hb:=((Below.refl w.heap.size w).alloc (Nat.le_refl _) (.cells #[.int .i64 c.f0,.int .i64 c.f1.f0,.string c.f1.f1,.string c.f1.f2,.int .i64 c.f1.f3,.slice C4 c.f1.f4.length mE,.slice C5 c.f1.f5.length mF,.slice C7 c.f2.length nP] 31)).alloc bK (.cells #[.int .i64 0,.string ⟨#[]⟩,.string ⟨#[]⟩,.int .i64 0,.slice none 0 0,.slice none 0 0] 29);have HB:=ah.mk hb;clear hb
 go_enter Tryz.func123,Tryz.ntmps123
 go_wp2_with fail
 exact⟨rfl,HB.out,rfl⟩
theorem Fv (x:EG) (ad:Addr) (X4:Option Addr) (DL:Nat) (X5:Option Addr) (DN:Nat) (c:Ch) (C4:Option Addr) (mE:Nat) (C5:Option Addr) (mF:Nat) (C7:Option Addr) (nP:Nat) (w:World)
  (hs:wN w ad x X4 DL X5 DN) (hx:Lie w x X4 DL X5 DN) (fx:x.f0=1→Fits x) (fc:VX c)
  (l4:c.f1.f4.length≤mE) (g4:Kd.C dB w C4 c.f1.f4.length c.f1.f4) (l5:c.f1.f5.length≤mF) (g5:Kd.C (Kd.int .u8) w C5 c.f1.f5.length c.f1.f5) (l7:c.f2.length≤nP) (g7:Kd.C dB w C7 c.f2.length c.f2) :
  Calls Tryz.prog 123 #[.pointer (some ad),chV c C4 mE C5 mF C7 nP] w fun e w'=>afW w (rF x c) e w':=by
 obtain⟨o,ho⟩:∃o,rF x c=o:=⟨_,rfl⟩
 rw[ho];unfold rF at ho;have hq1:=KW;have hb2:=((Below.refl w.heap.size w).alloc (Nat.le_refl _) (.cells #[.int .i64 c.f0,.int .i64 c.f1.f0,.string c.f1.f1,.string c.f1.f2,.int .i64 c.f1.f3,.slice C4 c.f1.f4.length mE,.slice C5 c.f1.f5.length mF,.slice C7 c.f2.length nP] 31)).alloc bK (.cells #[.int .i64 0,.string ⟨#[]⟩,.string ⟨#[]⟩,.int .i64 0,.slice none 0 0,.slice none 0 0] 29);have hk0:=aM (bJ w (.cells #[.int .i64 c.f0,.int .i64 c.f1.f0,.string c.f1.f1,.string c.f1.f2,.int .i64 c.f1.f3,.slice C4 c.f1.f4.length mE,.slice C5 c.f1.f5.length mF,.slice C7 c.f2.length nP] 31)) (.cells #[.int .i64 0,.string ⟨#[]⟩,.string ⟨#[]⟩,.int .i64 0,.slice none 0 0,.slice none 0 0] 29);have hk1:((w.alloc (.cells #[.int .i64 c.f0,.int .i64 c.f1.f0,.string c.f1.f1,.string c.f1.f2,.int .i64 c.f1.f3,.slice C4 c.f1.f4.length mE,.slice C5 c.f1.f5.length mF,.slice C7 c.f2.length nP] 31)).alloc (.cells #[.int .i64 0,.string ⟨#[]⟩,.string ⟨#[]⟩,.int .i64 0,.slice none 0 0,.slice none 0 0] 29)).heap[w.heap.size+1]?=some (.cells #[.int .i64 0,.string ⟨#[]⟩,.string ⟨#[]⟩,.int .i64 0,.slice none 0 0,.slice none 0 0] 29 (0,0)):=kN bK _;have HB2:=ah.mk hb2;have PU:=ah.mk hk0;have jY:=ah.mk hk1;have hs2:=hs.below hb2
 obtain⟨W2,hW2⟩:∃W2,((w.alloc (.cells #[.int .i64 c.f0,.int .i64 c.f1.f0,.string c.f1.f1,.string c.f1.f2,.int .i64 c.f1.f3,.slice C4 c.f1.f4.length mE,.slice C5 c.f1.f5.length mF,.slice C7 c.f2.length nP] 31)).alloc (.cells #[.int .i64 0,.string ⟨#[]⟩,.string ⟨#[]⟩,.int .i64 0,.slice none 0 0,.slice none 0 0] 29))=W2:=⟨_,rfl⟩
 have hsz2:W2.heap.size=w.heap.size+2:=by rw[← hW2];simp
 rw[hW2] at HB2 PU jY hs2;obtain⟨x0,x1,x2,x3,x4,x5⟩:=hs2;have HW2:=ah.mk hW2;have HG4:=ah.mk g4;have HG5:=ah.mk g5;have YH:=ah.mk g7;have HX:=ah.mk hx;clear hb2 hk0 hk1 hs hx g4 g5 g7 hW2 x1 x2 x3;by_cases h1:x.f0=1
 ·have hb1:(x.f0 != 1)=false:=by rw[h1];rfl
  rw[if_neg (fun h=>h h1)] at ho;have FX:=ah.mk (fx h1);have FC:=ah.mk fc;have HO:=ah.mk ho
  have hsx:=fun (W:World) (hW:Below W2.heap.size W2 W)=>zS X4 DL x.f4 X5 x.f5.length DN W (Kd.aC HX.out.g4 (HB2.out.trans (hW.mono HB2.out.size))) HX.out.l4 (by have:=FX.out.l;omega) FX.out.n HX.out.l5 (fun r hr=>⟨(FX.out.r r hr).1,(FX.out.r r hr).2.1,by have:=(FX.out.r r hr).2.2;omega⟩) (by have:=FX.out.i;omega)
  have hsc:=fun (W:World) (hW:Below W2.heap.size W2 W)=>zS C7 nP c.f2 C5 c.f1.f5.length mF W (Kd.aC YH.out (HB2.out.trans (hW.mono HB2.out.size))) l7 (by have:=FC.out.l;omega) FC.out.n l5 (fun r hr=>⟨(FC.out.r r hr).1,(FC.out.r r hr).2.1,by have:=(FC.out.r r hr).2.2;omega⟩) (by have:=FC.out.i;omega)
  have hcl:=fun (W:World) (hW:Below W2.heap.size W2 W)=>uI C4 mE c.f1.f4 W (Kd.aC HG4.out (HB2.out.trans (hW.mono HB2.out.size))) (by have:=FC.out.l4;omega)
  have HSX:=ah.mk hsx;have HSC:=ah.mk hsc;have Na:=ah.mk hcl;have c6:W2.cell? ⟨w.heap.size,6,none⟩=some (.slice C5 c.f1.f5.length mF):=ak PU.out 6;have c7:W2.cell? ⟨w.heap.size,7,none⟩=some (.slice C7 c.f2.length nP):=ak PU.out 7;clear fx fc ho h1 hsx hsc hcl;rw[← HW2.out] at x0 x4 x5 c6 c7
  go_enter Tryz.func123,Tryz.ntmps123
  go_wp2_with fail
  rw[HW2.out] at x0 x4 x5 c6 c7 ⊢;clear x0;have hdr:=bA (Below.refl W2.heap.size W2)
  have hS:W2.drew.cell? ⟨ad.block,ad.off+4,none⟩=some (.slice X4 x.f4.length DL)∧W2.drew.cell? ⟨ad.block,ad.off+5,none⟩=some (.slice X5 x.f5.length DN)∧W2.drew.cell? ⟨w.heap.size,6,none⟩=some (.slice C5 c.f1.f5.length mF)∧W2.drew.cell? ⟨w.heap.size,7,none⟩=some (.slice C7 c.f2.length nP)∧ah (Below W2.heap.size W2 W2.drew):=⟨au hdr x4,au hdr x5,au hdr c6,au hdr c7,⟨hdr⟩⟩
  obtain⟨W4,Yj⟩:∃W4,W2.drew=W4:=⟨_,rfl⟩
  have HD4:=ah.mk (show Below W2.heap.size W2 W4 from Yj▸hdr);clear x4 x5 c6 c7 hdr;refine kY (n:=17) (S:=(fun w'=>w'.cell? ⟨ad.block,ad.off+4,none⟩=some (.slice X4 x.f4.length DL)∧w'.cell? ⟨ad.block,ad.off+5,none⟩=some (.slice X5 x.f5.length DN)∧w'.cell? ⟨w.heap.size,6,none⟩=some (.slice C5 c.f1.f5.length mF)∧w'.cell? ⟨w.heap.size,7,none⟩=some (.slice C7 c.f2.length nP)∧ah (Below W2.heap.size W2 w'))) (ds:=[]) (aQ 17 0) aA rfl rfl hS (fun hHeld=>?_);clear hS;rw[Yj] at hHeld ⊢;clear Yj;refine bR 0 24 (aQ 17 1) ?_;refine bR 1 25 (aQ 17 3) ?_;refine bR 2 26 (aQ 17 7) ?_;refine jv 3 27 (aQ 17 15) rfl hHeld (by rintro w' ⟨s4,s5,s6,s7,s9⟩;go_simp;with_reducible rfl) ?_;refine bR 4 28 (aQ 17 31) ?_;refine bR 5 29 (aQ 17 63) ?_;refine bR 6 30 (aQ 17 127) ?_;refine jv 7 31 (aQ 17 255) rfl hHeld (by rintro w' ⟨s4,s5,s6,s7,s9⟩;go_simp;with_reducible rfl) ?_;refine bR 9 33 (aQ 17 767) ?_;refine jv 10 34 (aQ 17 1791) rfl hHeld (by rintro w' ⟨s4,s5,s6,s7,s9⟩;go_simp;with_reducible rfl) ?_;refine bR 11 35 (aQ 17 3839) ?_;refine bR 12 36 (aQ 17 7935) ?_;refine jv 13 37 (aQ 17 16127) rfl hHeld (by rintro w' ⟨s4,s5,s6,s7,s9⟩;go_simp;with_reducible rfl) ?_;refine mG 8 (some 32) (aQ 17 16383) (fun K hK=>?_);refine qj Tryz.func90 #[.slice X4 x.f4.length DL,.slice X5 x.f5.length DN] ?_;refine (HSX.out _ hHeld.2.2.2.2.out).mono ?_;rintro e w5 ⟨rfl,hv5,hb5⟩;refine⟨_,rfl,?_⟩;have HV5:=ah.mk hv5;have kH:=ah.mk hb5;refine hK.out _ _ ⟨au hb5 hHeld.1,au hb5 hHeld.2.1,au hb5 hHeld.2.2.1,au hb5 hHeld.2.2.2.1,⟨hHeld.2.2.2.2.out.trans (hb5.mono hHeld.2.2.2.2.out.size)⟩⟩ ?_;clear hv5 hb5 hHeld hK K;intro hHeld;refine fU 32 ?_;refine mG 14 (some 38) (aQ 17 32767) (fun K hK=>?_);refine qj Tryz.func90 #[.slice C7 c.f2.length nP,.slice C5 c.f1.f5.length mF] ?_;refine (HSC.out _ hHeld.2.2.2.2.out).mono ?_;rintro e w6 ⟨rfl,hv6,hb6⟩;refine⟨_,rfl,?_⟩;have Vy:=ah.mk hv6;have sQ:=ah.mk hb6;refine hK.out _ _ ⟨au hb6 hHeld.1,au hb6 hHeld.2.1,au hb6 hHeld.2.2.1,au hb6 hHeld.2.2.2.1,⟨hHeld.2.2.2.2.out.trans (hb6.mono hHeld.2.2.2.2.out.size)⟩⟩ ?_;clear hv6 hb6 hHeld hK K;intro hHeld;refine fU 38 ?_;refine bR 15 5 (aQ 17 65535) ?_;refine bR 16 6 (aQ 17 131071) ?_;refine kK aA ?_
  obtain⟨m5,hm5⟩:∃m,W4.heap.size=m:=⟨_,rfl⟩
  obtain⟨m6,hm6⟩:∃m,w5.heap.size=m:=⟨_,rfl⟩
  have YL:=ah.mk (HV5.out.below sQ.out);have YM:=ah.mk Vy.out;have wW:=ah.mk (kH.out.trans (sQ.out.mono kH.out.size))
  obtain⟨W5,Ul⟩:∃W5,w6=W5:=⟨_,rfl⟩
  rw[hm5] at YL ⊢;rw[hm6] at YM ⊢;rw[Ul] at YL YM wW hHeld ⊢;clear HV5 Vy kH sQ hm5 hm6 hHeld;have HV5:=YL;have Vy:=YM;have kH:=wW;clear YL YM wW Ul;have h25:Below W2.heap.size W2 W5:=HD4.out.trans (kH.out.mono HD4.out.size);have YN:=aG PU.out h25;have y2:W5.cell? ⟨w.heap.size,2,none⟩=some (.string c.f1.f1):=ak YN 2;have y4:W5.cell? ⟨w.heap.size,4,none⟩=some (.int .i64 c.f1.f3):=ak YN 4;have y5:W5.cell? ⟨w.heap.size,5,none⟩=some (.slice C4 c.f1.f4.length mE):=ak YN 5;have CZ:=ah.mk h25;clear YN h25 HD4 kH
  go_wp2_with fail
  have hdr:=bA (Below.refl W5.heap.size W5)
  have hS:W5.drew.cell? ⟨w.heap.size,2,none⟩=some (.string c.f1.f1)∧W5.drew.cell? ⟨w.heap.size,4,none⟩=some (.int .i64 c.f1.f3)∧W5.drew.cell? ⟨w.heap.size,5,none⟩=some (.slice C4 c.f1.f4.length mE)∧ah (Below W2.heap.size W2 W5.drew):=⟨au hdr y2,au hdr y4,au hdr y5,⟨CZ.out.trans (hdr.mono CZ.out.size)⟩⟩
  obtain⟨W6,YO⟩:∃W6,W5.drew=W6:=⟨_,rfl⟩
  have HD6:=ah.mk (show Below W5.heap.size W5 W6 from YO▸hdr);clear y2 y4 y5 hdr;refine kY (n:=13) (S:=(fun w'=>w'.cell? ⟨w.heap.size,2,none⟩=some (.string c.f1.f1)∧w'.cell? ⟨w.heap.size,4,none⟩=some (.int .i64 c.f1.f3)∧w'.cell? ⟨w.heap.size,5,none⟩=some (.slice C4 c.f1.f4.length mE)∧ah (Below W2.heap.size W2 w'))) (ds:=[12]) (aQ 13 0) aA rfl rfl hS (fun hHeld=>?_);clear hS;rw[YO] at hHeld ⊢;clear YO;refine bR 0 39 (aQ 13 1) ?_;refine bR 1 40 (aQ 13 3) ?_;refine jv 2 41 (aQ 13 7) rfl hHeld (by rintro w' ⟨s2,s4,s5,s9⟩;go_simp;with_reducible rfl) ?_;refine bR 3 42 (aQ 13 15) ?_;refine bR 4 43 (aQ 13 31) ?_;refine jv 5 44 (aQ 13 63) rfl hHeld (by rintro w' ⟨s2,s4,s5,s9⟩;go_simp;with_reducible rfl) ?_;refine bR 6 45 (aQ 13 127) ?_;refine bR 7 46 (aQ 13 255) ?_;refine jv 8 47 (aQ 13 511) rfl hHeld (by rintro w' ⟨s2,s4,s5,s9⟩;go_simp;with_reducible rfl) ?_;refine abM (σ:=Option Addr × Nat × Nat) 1 (aQ 13 4095) (fun s=>[(48,.slice s.1 c.f1.f4.length s.2.1),(49,.agg #[.int .i64 1,.string c.f1.f1,.string ⟨#[]⟩,.int .i64 c.f1.f3,.slice s.1 c.f1.f4.length s.2.1,.slice none 0 0]),(7,.pointer (some ⟨s.2.2,0,none⟩))]) (fun s w'=>Kd.R dB 117 w' W6.heap.size (fun _=>True) (.slice s.1 c.f1.f4.length s.2.1) c.f1.f4∧w'.heap[s.2.2]?=some (.cells #[.int .i64 0,.string ⟨#[]⟩,.string ⟨#[]⟩,.int .i64 0,.slice none 0 0,.slice none 0 0] 29 (0,0))∧W6.heap.size≤s.2.2∧Below W6.heap.size W6 w') ?hcont (fun HC=>?_);rotate_left;refine afX (i:=9) (j:=11) (Ni:=some 48) (Nj:=some 7) (aQ 13 1023) (aQ 13 2559) rfl rfl rfl rfl aA aD aD (fun K hK=>?_) (fun K hK=>?_)
  ·refine qj Tryz.func91 #[.slice C4 c.f1.f4.length mE] ?_;refine (Na.out _ hHeld.2.2.2.out).mono ?_;rintro e w5 ⟨v5,rfl,oF,hb5⟩;obtain⟨Av5,cv5,hv5⟩:=Kd.bG oF;subst hv5;refine⟨_,rfl,?_⟩;have nD:=ah.mk oF;have kH:=ah.mk hb5;refine hK.out _ _ ⟨au hb5 hHeld.1,au hb5 hHeld.2.1,au hb5 hHeld.2.2.1,⟨hHeld.2.2.2.out.trans (hb5.mono hHeld.2.2.2.out.size)⟩⟩ ?_;clear oF hb5 hHeld hK K;intro hHeld;refine fU 48 ?_;refine bR 10 49 (aQ 13 2047) ?_;refine mG 11 (some 7) (aQ 13 4095) (fun K hK=>?_);refine oN (v:=.pointer (some ⟨w5.heap.size,0,none⟩)) (w1:=w5.alloc (.cells #[.int .i64 0,.string ⟨#[]⟩,.string ⟨#[]⟩,.int .i64 0,.slice none 0 0,.slice none 0 0] 29)) (by rfl) rfl aA ?_;have hal:=(Below.refl w5.heap.size w5).alloc (Nat.le_refl _) (.cells #[.int .i64 0,.string ⟨#[]⟩,.string ⟨#[]⟩,.int .i64 0,.slice none 0 0,.slice none 0 0] 29);refine hK.out _ _ ⟨au hal hHeld.1,au hal hHeld.2.1,au hal hHeld.2.2.1,⟨hHeld.2.2.2.out.trans (hal.mono hHeld.2.2.2.out.size)⟩⟩ ?_;clear hal hHeld hK K;intro hHeld;refine HC ⟨Av5,cv5,w5.heap.size⟩ _ ⟨?_,?_,?_,?_⟩
   ·exact Kd.dF nD.out ((Below.refl _ _).alloc (Nat.le_refl _) _)
   ·exact bJ _ _
   ·exact kH.out.size
   exact kH.out.alloc kH.out.size _
  ·refine oN (v:=.pointer (some ⟨W6.heap.size,0,none⟩)) (w1:=W6.alloc (.cells #[.int .i64 0,.string ⟨#[]⟩,.string ⟨#[]⟩,.int .i64 0,.slice none 0 0,.slice none 0 0] 29)) (by rfl) rfl aA ?_;have hal:=(Below.refl W6.heap.size W6).alloc (Nat.le_refl _) (.cells #[.int .i64 0,.string ⟨#[]⟩,.string ⟨#[]⟩,.int .i64 0,.slice none 0 0,.slice none 0 0] 29);refine hK.out _ _ ⟨au hal hHeld.1,au hal hHeld.2.1,au hal hHeld.2.2.1,⟨hHeld.2.2.2.out.trans (hal.mono hHeld.2.2.2.out.size)⟩⟩ ?_;clear hal hHeld hK K;intro hHeld;refine fU 7 ?_;have YP:=ah.mk ((Below.refl W6.heap.size W6).alloc (Nat.le_refl _) (.cells #[.int .i64 0,.string ⟨#[]⟩,.string ⟨#[]⟩,.int .i64 0,.slice none 0 0,.slice none 0 0] 29));have HNB:=ah.mk (bJ W6 (.cells #[.int .i64 0,.string ⟨#[]⟩,.string ⟨#[]⟩,.int .i64 0,.slice none 0 0,.slice none 0 0] 29))
   obtain⟨W7,hW7⟩:∃W7,W6.alloc (.cells #[.int .i64 0,.string ⟨#[]⟩,.string ⟨#[]⟩,.int .i64 0,.slice none 0 0,.slice none 0 0] 29)=W7:=⟨_,rfl⟩
   rw[hW7] at YP HNB hHeld ⊢;clear hW7;refine mG 9 (some 48) (aQ 13 3071) (fun K hK=>?_);refine qj Tryz.func91 #[.slice C4 c.f1.f4.length mE] ?_;refine (Na.out _ hHeld.2.2.2.out).mono ?_;rintro e w5 ⟨v5,rfl,oF,hb5⟩;obtain⟨Av5,cv5,hv5⟩:=Kd.bG oF;subst hv5;refine⟨_,rfl,?_⟩;have nD:=ah.mk oF;have kH:=ah.mk hb5;refine hK.out _ _ ⟨au hb5 hHeld.1,au hb5 hHeld.2.1,au hb5 hHeld.2.2.1,⟨hHeld.2.2.2.out.trans (hb5.mono hHeld.2.2.2.out.size)⟩⟩ ?_;clear oF hb5 hHeld hK K;intro hHeld;refine fU 48 ?_;refine bR 10 49 (aQ 13 4095) ?_;refine HC ⟨Av5,cv5,W6.heap.size⟩ _ ⟨?_,?_,Nat.le_refl _,?_⟩
   ·exact Kd.fQ nD.out YP.out.size
   ·exact aG HNB.out kH.out
   exact YP.out.trans (kH.out.mono YP.out.size)
  rintro⟨A5,k5,p⟩ W7 ⟨oF,hk5,Vz,hb5⟩;dsimp only at oF hk5 Vz;have nD:=ah.mk oF;have sP:=ah.mk hk5;have kH:=ah.mk hb5;have IY:=ah.mk Vz;clear oF hk5 hb5 Vz;refine JH (a':=?_) ?_ ?_;rotate_left
  ·show zV _ [_,_,_]=_
   simp only[zV,Act.put,aYa,aYb,aYc];rfl
  refine lS (i:=12) (N:=none) (aQ 13 8191) rfl rfl aA aD (fun K hK=>?_);rw[if_pos (by rfl)];refine wp_store_row 29 (.tmp 7) (.tmp 49) rfl p #[.int .i64 1,.string c.f1.f1,.string ⟨#[]⟩,.int .i64 c.f1.f3,.slice A5 c.f1.f4.length k5,.slice none 0 0] rfl rfl 29 _ sP.out aA (by rfl) (by simp[Value.oneCell']) ?_;refine hK.out _ _ ?_;clear hK K;refine JH (a':=?_) ?_ ?_;rotate_left
  ·show Act.put _ none _=_
   simp only[Act.put];rfl
  refine kK aA ?_;have h56:W5.heap.size≤W6.heap.size:=HD6.out.size;have h25:W2.heap.size≤W5.heap.size:=CZ.out.size;have Vz:=IY.out;have h57:Below W5.heap.size W5 W7:=HD6.out.trans (kH.out.mono h56);have h27:Below W2.heap.size W2 W7:=CZ.out.trans (h57.mono h25);have h07:Below w.heap.size w W7:=HB2.out.trans (h27.mono HB2.out.size);have oF:=nD.out
  have PV:Pt w m5 (idxs x.f4).length (sM X5 (idxs x.f4)) m6 (idxs c.f2).length (sM C5 (idxs c.f2)) p c.f1.f1 c.f1.f3 (.slice A5 c.f1.f4.length k5) c.f1.f4 (w.heap.size+1) #[.int .i64 0,.string ⟨#[]⟩,.string ⟨#[]⟩,.int .i64 0,.slice none 0 0,.slice none 0 0] 29 (.slice none 0 0) [] (W7.setRow p #[.int .i64 1,.string c.f1.f1,.string ⟨#[]⟩,.int .i64 c.f1.f3,.slice A5 c.f1.f4.length k5,.slice none 0 0]):=by
   have hres:(W7.setRow p #[.int .i64 1,.string c.f1.f1,.string ⟨#[]⟩,.int .i64 c.f1.f3,.slice A5 c.f1.f4.length k5,.slice none 0 0]).heap[w.heap.size+1]?=some (.cells #[.int .i64 0,.string ⟨#[]⟩,.string ⟨#[]⟩,.int .i64 0,.slice none 0 0,.slice none 0 0] 29 (0,0)):=by
    rw[setRow_other _ _ _ _ aj];exact aG jY.out h27
   have hm:∀{m n:Nat} {F:Lit→Option Value},kU Tryz.prog 3 W5 m n F→kU Tryz.prog 3 (W7.setRow p #[.int .i64 1,.string c.f1.f1,.string ⟨#[]⟩,.int .i64 c.f1.f3,.slice A5 c.f1.f4.length k5,.slice none 0 0]) m n F:=fun {m n F} hv=>by
    have hlt:=hv.lt;exact (hv.below h57).same (setRow_other _ _ _ _ aj)
   refine⟨below_setRow h07 aj _,hm HV5.out,hm Vy.out,setRow_heap _ _ _ _ _ _ sP.out,hres,hres,?_,Kd.eY _ _ _ _ _,by omega,by omega,by decide⟩;refine sH (Kd.ou (Kd.fQ (nQ oF) aj) (fun k ho hlt=>setRow_other _ _ _ _ (fun e=>?_)));exact Kd.uJ oF sP.out aD (by rw[← e];exact ho.symm)
  have q4:(W7.setRow p #[.int .i64 1,.string c.f1.f1,.string ⟨#[]⟩,.int .i64 c.f1.f3,.slice A5 c.f1.f4.length k5,.slice none 0 0]).cell? ⟨p,4,none⟩=some (.slice A5 c.f1.f4.length k5):=ak (setRow_heap _ _ _ _ _ _ sP.out) 4
  obtain⟨W8,hW8⟩:∃W8,W7.setRow p #[.int .i64 1,.string c.f1.f1,.string ⟨#[]⟩,.int .i64 c.f1.f3,.slice A5 c.f1.f4.length k5,.slice none 0 0]=W8:=⟨_,rfl⟩
  rw[hW8] at PV q4 ⊢;have HE:=ah.mk PV;clear PV hW8 h56 h25 Vz h57 h27 h07 oF PU HB2 HW2 jY HV5 Vy Na HSX HSC HD6 CZ nD sP kH IY hsz2 hq1
  go_wp2_with fail
  have HXN:=ah.mk FX.out.n;have HCN:=ah.mk FC.out.n;have Nb:=FC.out.l4;obtain⟨i0,hi0,_,hz1,_⟩:=info_parts info5
  go_loopg [53] c.f1.f4.length (fun g s53 wx=>∃(i:Nat) (v5:Value) (d:List Int),i+g=c.f1.f4.length∧s53=.int .i64 i∧ah (dD x c (idxs (c.f1.f4.take i))=some d)∧ah (Pt w m5 (idxs x.f4).length (sM X5 (idxs x.f4)) m6 (idxs c.f2).length (sM C5 (idxs c.f2)) p c.f1.f1 c.f1.f3 (.slice A5 c.f1.f4.length k5) c.f1.f4 (w.heap.size+1) #[.int .i64 0,.string ⟨#[]⟩,.string ⟨#[]⟩,.int .i64 0,.slice none 0 0,.slice none 0 0] 29 v5 d wx))
  case atStart=>exact⟨0,_,[],by omega,rfl,⟨rfl⟩,HE⟩
  case round=>
   obtain⟨i,v5,d,hig,rfl,HD,HS⟩:=hrel;clear HE q4;by_cases hi:i<c.f1.f4.length
   ·obtain⟨EH,hA,r0,r1⟩:=dP (Kd.bT HS.out.runs).2.2 (i:Int) aj aj
    have hrd:aK c.f1.f4 (i:Int)=c.f1.f4[i]:=by simp[aK,hi]
    rw[hrd] at r0 r1;rw[Int.toNat_natCast] at r0 r1;subst hA
    go_wp2_with fail
    obtain⟨wo,rfl⟩:∃wo,wo=wr:=⟨_,rfl⟩
    obtain⟨go,rfl⟩:∃go,go=gk:=⟨_,rfl⟩
    have YD:=FC.out.r4 _ (List.getElem_mem hi);have hidx:=yC hi
    have hcut:=fun j=>VZ (l:=c.f1.f4) (j:=j) hi
    obtain⟨q,hq⟩:∃q,c.f1.f4[i]=q:=⟨_,rfl⟩
    rw[hq] at YD hidx r0 r1 ⊢
    have abN:∀j,∃r,idxs c.f1.f4=(idxs (c.f1.f4.take i)++(jf q).take j)++r:=fun j=>by rw[← hq];exact hcut j
    have HIX:=ah.mk hidx;have afZ:=ah.mk abN
    have AQ:ah (Pt w m5 (idxs x.f4).length (sM X5 (idxs x.f4)) m6 (idxs c.f2).length (sM C5 (idxs c.f2)) p c.f1.f1 c.f1.f3 (.slice (some EH) c.f1.f4.length k5) c.f1.f4 wo.heap.size #[.int .i64 q.f0,.int .i64 q.f1] 117 v5 d (wo.alloc (.cells #[.int .i64 q.f0,.int .i64 q.f1] 117))):=⟨HS.out.V3 _⟩
    have HD1:ah (dD x c (idxs (c.f1.f4.take i)++(jf q).take 0)=some d):=⟨by rw[List.take_zero,List.append_nil];exact HD.out⟩
    have hil:=FC.out.i4;clear hrd r0 r1 HS HD hq hidx hcut abN
    go_loopg [10] (q.f1 - q.f0).toNat (fun g s10 wx=>∃(j:Nat) (v5:Value) (d:List Int),j+g=(q.f1 - q.f0).toNat∧s10=.int .i64 (q.f0+j)∧ah (dD x c (idxs (c.f1.f4.take i)++(jf q).take j)=some d)∧ah (Pt w m5 (idxs x.f4).length (sM X5 (idxs x.f4)) m6 (idxs c.f2).length (sM C5 (idxs c.f2)) p c.f1.f1 c.f1.f3 (.slice (some EH) c.f1.f4.length k5) c.f1.f4 wo.heap.size #[.int .i64 q.f0,.int .i64 q.f1] 117 v5 d wx))
    case atStart=>exact⟨0,v5,d,by omega,by simp,HD1,AQ⟩
    case round=>
     obtain⟨j,v5,d,hjg,rfl,HD2,HS2⟩:=hrel;clear AQ HD1;have z1:wr.cell? ⟨wo.heap.size,0,none⟩=some (.int .i64 q.f0):=ak HS2.out.Vx 0;have z2:wr.cell? ⟨wo.heap.size,1,none⟩=some (.int .i64 q.f1):=ak HS2.out.Vx 1;by_cases hj:j<(q.f1 - q.f0).toNat
     ·have d1:decide (q.f0+(j:Int)<q.f1)=true:=decide_eq_true aj;have hkey:keyOf Tryz.prog 3 (.int .i64 (q.f0+(j:Int)))=some (.int .i64 (q.f0+(j:Int))):=keyOf_int_mk Tryz.underlying3 (WalkArith.wf_i64 ⟨by omega,by omega⟩);have Um:=HS2.out.mp5.look YC Tryz.underlying133 (R8 wr) hkey;have V4:=HS2.out.mp6.look YC Tryz.underlying133 (R8 wr) hkey;rw[show sM X5 (idxs x.f4) (.int .i64 (q.f0+(j:Int)))=(jC (idxs x.f4) 0 (q.f0+(j:Int))).map (fun k=>.slice (X5.map (·.add (512*k))) 512 512) from rfl] at Um;rw[show sM C5 (idxs c.f2) (.int .i64 (q.f0+(j:Int)))=(jC (idxs c.f2) 0 (q.f0+(j:Int))).map (fun k=>.slice (C5.map (·.add (512*k))) 512 512) from rfl] at V4
      have hjl:(jf q).take (j+1)=(jf q).take j++[q.f0+(j:Int)]:=by
       rw[List.take_add_one]
       congr 1
       unfold jf;rw[List.getElem?_map,List.getElem?_range hj];rfl
      have hone:=KV x c (idxs (c.f1.f4.take i)++(jf q).take j) (q.f0+(j:Int)) d HD2.out;rw[List.append_assoc,← hjl] at hone;obtain⟨A6,c6,hv6⟩:=Kd.bG HS2.out.data;subst hv6;have u5:wr.cell? ⟨p,5,none⟩=some (.slice A6 d.length c6):=ak HS2.out.box 5
      have hdl:d.length≤8459776:=by
       have h1:=xC x c _ d HD2.out;obtain⟨r,hr⟩:=afZ.out j;have h2:=congrArg List.length hr;rw[List.length_append] at h2;omega
      have HDM:=ah.mk (show (d.length+512)*1≤140737488355328 by omega)
      have hwp:IntKind.i64.wrap (q.f0+(j:Int)+1)=q.f0+(j:Int)+1:=by rw[IntKind.wrap_i64];omega
      cases hla:jC (idxs c.f2) 0 (q.f0+(j:Int)) with
      | some k=>
       rw[hla] at V4;simp only[Option.map_some,Option.getD_some,Option.isSome_some] at V4;have hkl:=uR hla
       have hbk:kQ c.f2 c.f1.f5 (q.f0+(j:Int))=some (dS c.f1.f5 k):=by unfold kQ;rw[hla];rfl
       rw[hbk] at hone;have HDN:=ah.mk hone
       have hbl:512*(k+1)≤c.f1.f5.length:=by have:=HCN.out;omega
       have Nc:Kd.C (Kd.int .u8) w (C5.map (·.add (512*k))) 512 (dS c.f1.f5 k):=Fw HG5.out hbl;have PW:=ah.mk Nc;have hnl:=gD hbl;clear hla hkl hbk hone hbl Nc Um hkey hjl
       go_wp2_with ((with_reducible refine dx (b:=.append) (xs:=#[.tmp 84,.tmp 85]) rfl ?_);at_builtin;have hX:=Kd.aC PW.out HS2.out.low;refine Kd.rG (w0:=w) (.int .u8) 0 w.heap.size rfl (.tmp 84) (.tmp 85) 27 5 (.int .u8 0) 1 rfl Tryz.underlying27 info5 rfl aD (.slice A6 d.length c6) d _ _ 512 512 (fun _=>True) rfl rfl (fun _ _=>trivial) HS2.out.data hX HS2.out.low HS2.out.low.size HDM.out ?_;intro v9 w9 KX Un Nf _h;have vR:=jW HS2.out.box Nf (Kd.uJ HS2.out.data HS2.out.box aD);obtain⟨A9,c9,hv9⟩:=Kd.bG KX;subst hv9;have YQ:=ah.mk (HS2.out.append Un Nf KX);have u9:w9.cell? ⟨p,5,none⟩=some (.slice A6 d.length c6):=ak vR 5;have f9:=ay vR 5;have l9:=bE vR;clear KX Un Nf vR u5 _h)
       go_roundg ((q.f1 - q.f0).toNat - (j+1))
       case measure=>omega
       case rel=>
        have h4:=YQ.out;rw[show (d++(dS c.f1.f5 k)).length=d.length+512 by rw[List.length_append,hnl]] at h4;exact⟨j+1,_,d++(dS c.f1.f5 k),by omega,by push_cast;congr 1;omega,HDN,⟨h4⟩⟩
      | none=>
       rw[hla] at V4;simp only[Option.map_none,Option.getD_none,Option.isSome_none] at V4
       have hbk0:kQ c.f2 c.f1.f5 (q.f0+(j:Int))=none:=by unfold kQ;rw[hla];rfl
       rw[hbk0] at hone;dsimp only at hone;clear hla hbk0
       cases hla:jC (idxs x.f4) 0 (q.f0+(j:Int)) with
       | some k=>
        rw[hla] at Um;simp only[Option.map_some,Option.getD_some,Option.isSome_some] at Um;have hkl:=uR hla
        have hbk:kQ x.f4 x.f5 (q.f0+(j:Int))=some (dS x.f5 k):=by unfold kQ;rw[hla];rfl
        rw[hbk] at hone;have HDN:=ah.mk hone
        have hbl:512*(k+1)≤x.f5.length:=by have:=HXN.out;omega
        have Nc:Kd.C (Kd.int .u8) w (X5.map (·.add (512*k))) 512 (dS x.f5 k):=Fw HX.out.g5 hbl;have PW:=ah.mk Nc;have hnl:=gD hbl;clear hla hkl hbk hone hbl Nc hkey hjl
        go_wp2_with ((with_reducible refine dx (b:=.append) (xs:=#[.tmp 84,.tmp 85]) rfl ?_);at_builtin;have hX:=Kd.aC PW.out HS2.out.low;refine Kd.rG (w0:=w) (.int .u8) 0 w.heap.size rfl (.tmp 84) (.tmp 85) 27 5 (.int .u8 0) 1 rfl Tryz.underlying27 info5 rfl aD (.slice A6 d.length c6) d _ _ 512 512 (fun _=>True) rfl rfl (fun _ _=>trivial) HS2.out.data hX HS2.out.low HS2.out.low.size HDM.out ?_;intro v9 w9 KX Un Nf _h;have vR:=jW HS2.out.box Nf (Kd.uJ HS2.out.data HS2.out.box aD);obtain⟨A9,c9,hv9⟩:=Kd.bG KX;subst hv9;have YQ:=ah.mk (HS2.out.append Un Nf KX);have u9:w9.cell? ⟨p,5,none⟩=some (.slice A6 d.length c6):=ak vR 5;have f9:=ay vR 5;have l9:=bE vR;clear KX Un Nf vR u5 _h)
        go_roundg ((q.f1 - q.f0).toNat - (j+1))
        case measure=>omega
        case rel=>
         have h4:=YQ.out;rw[show (d++(dS x.f5 k)).length=d.length+512 by rw[List.length_append,hnl]] at h4;exact⟨j+1,_,d++(dS x.f5 k),by omega,by push_cast;congr 1;omega,HDN,⟨h4⟩⟩
       | none=>
        rw[hla] at Um;simp only[Option.map_none,Option.getD_none,Option.isSome_none] at Um
        have hbk:kQ x.f4 x.f5 (q.f0+(j:Int))=none:=by unfold kQ;rw[hla];rfl
        rw[hbk] at hone
        have HN:ah (o=none):=⟨by
         obtain⟨r,hr⟩:=afZ.out (j+1);rw[← HO.out,hr,Jc x c _ r hone]
         rfl⟩
        clear hla hbk hone hkey hjl
        go_wp2_with fail
        rw[HN.out];exact⟨rfl,HS2.out.low,rfl⟩
     have d1:decide (q.f0+(j:Int)<q.f1)=false:=decide_eq_false aj
     have hje:j=(q.f1 - q.f0).toNat:=by omega
     go_wp2_with fail
     go_roundg (go - 1)
     case measure=>omega
     case rel=>
      subst hje;refine⟨i+1,v5,d,by omega,by simp,⟨?_⟩,⟨HS2.out.back⟩⟩;rw[HIX.out];have:=HD2.out
      rwa [show (jf q).take (q.f1 - q.f0).toNat=jf q from List.take_of_length_le (by unfold jf;rw[List.length_map,List.length_range];omega)] at this
   obtain rfl:i=c.f1.f4.length:=by omega
   have hd:=HD.out;rw[List.take_length] at hd
   have HE:ah (o=some ⟨1,c.f1.f1,⟨#[]⟩,c.f1.f3,c.f1.f4,d⟩):=⟨by rw[← HO.out,hd];rfl⟩
   clear hd
   go_wp2_with (first
    | (refine dX (.load 29 (.tmp 7)) rfl ?_;refine wpList_load_row rfl _ _ rfl p rfl 29 _ (0,0) _ HS.out.box Tryz.underlying29 rfl aA ?_)
    | (refine dX (.store 29 (.tmp 4) (.tmp 89)) rfl ?_;refine wpList_store_row rfl 29 (.tmp 4) (.tmp 89) rfl (w.heap.size+1) #[.int .i64 1,.string c.f1.f1,.string ⟨#[]⟩,.int .i64 c.f1.f3,.slice A5 c.f1.f4.length k5,v5] rfl rfl 29 _ HS.out.res aA (by rfl) ?one ?_;(case one=>obtain⟨b5,d5,e5⟩:=Kd.bG HS.out.data;rw[e5];simp[Value.oneCell'])))
   rw[HE.out];refine bodyPost_ret (results_cell_row rfl _ _ (w.heap.size+1) 29 #[.int .i64 1,.string c.f1.f1,.string ⟨#[]⟩,.int .i64 c.f1.f3,.slice A5 c.f1.f4.length k5,v5] (0,0) _ rfl (setRow_heap _ _ _ _ _ _ HS.out.res) Tryz.underlying29 rfl aA) rfl ⟨below_setRow HS.out.low aj _,_,v5,rfl,?_,?_⟩
   ·exact sH (Kd.ou (nQ HS.out.runs) (fun k ho _=>setRow_other _ _ _ _ (fun e=>Kd.uJ HS.out.runs HS.out.res aD (by rw[← e];exact ho.symm))))
   exact zW (Kd.ou (C8 HS.out.data) (fun k ho _=>setRow_other _ _ _ _ (fun e=>Kd.uJ HS.out.data HS.out.res aD (by rw[← e];exact ho.symm))))
 have hb1:(x.f0 != 1)=true:=bne_iff_ne.2 h1;rw[if_pos h1] at ho;rw[← HW2.out] at x0;subst ho;clear x4 x5 fx fc h1
 go_enter Tryz.func123,Tryz.ntmps123
 go_wp2_with fail
 exact⟨rfl,by rw[HW2.out];exact HB2.out,rfl⟩
end Go.Proofs.YtknihldkhedpkaaGreatDoor
end
