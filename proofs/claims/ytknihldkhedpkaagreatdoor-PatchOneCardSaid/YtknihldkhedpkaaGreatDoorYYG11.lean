import Derived.Test.YtknihldkhedpkaaGreatDoorYYG8
import Derived.Test.YtknihldkhedpkaaGreatDoorYYG10
import Derived.Test.YtknihldkhedpkaaGreatDoorYYG6
import Derived.Laws.BitsLemmas
set_option linter.all false
set_option maxHeartbeats 16000000
set_option maxRecDepth 100000
section
namespace Go.Proofs.YtknihldkhedpkaaGreatDoor
open Go.RowKit Go.Lib
open Go.Proofs.YtknihldkhedpkaaGreatDoorW.PrintWords Go.Proofs.YtknihldkhedpkaaGreatDoorW.PrintLast Go.Proofs.YtknihldkhedpkaaGreatDoor.PT
def jl (l:List Int):Int:=((rd l ((l.length:Int) - 1)*256+rd l ((l.length:Int) - 2))*256+rd l ((l.length:Int) - 3))*256+rd l ((l.length:Int) - 4)
theorem NW (l:List Int) (h4:4≤l.length) (hm:l.length≤140737488351232) (hb:∀x∈l,0≤x∧x≤255):dH.f 5 l=some (jl l):=by
 have hr:∀i:Int,0≤i→i<(l.length:Int)→0≤rd l i∧rd l i≤255:=fun i h0 h1=>by
  unfold rd
  have hlt:i.toNat<l.length:=by omega
  rw[List.getD_eq_getElem?_getD,List.getElem?_eq_getElem hlt];exact hb _ (List.getElem_mem hlt)
 have h1:=hr ((l.length:Int) - 1) (by omega) (by omega);have h2:=hr ((l.length:Int) - 2) (by omega) (by omega);have h3:=hr ((l.length:Int) - 3) (by omega) (by omega);have h5:=hr ((l.length:Int) - 4) (by omega) (by omega)
 obtain⟨a,ha⟩:∃a,rd l ((l.length:Int) - 1)=a:=⟨_,rfl⟩
 obtain⟨b,hb⟩:∃a,rd l ((l.length:Int) - 2)=a:=⟨_,rfl⟩
 obtain⟨c,hc⟩:∃a,rd l ((l.length:Int) - 3)=a:=⟨_,rfl⟩
 obtain⟨d,hd⟩:∃a,rd l ((l.length:Int) - 4)=a:=⟨_,rfl⟩
 have w0:wrap64 (wrap64 ((l.length:Int) - 1) - 0)=(l.length:Int) - 1:=by unfold wrap64;omega
 have w1:wrap64 (wrap64 ((l.length:Int) - 1) - 1)=(l.length:Int) - 2:=by unfold wrap64;omega
 have w2:wrap64 (wrap64 ((l.length:Int) - 1) - 2)=(l.length:Int) - 3:=by unfold wrap64;omega
 have w3:wrap64 (wrap64 ((l.length:Int) - 1) - 3)=(l.length:Int) - 4:=by unfold wrap64;omega
 have hor:∀x y:Int,0≤x→x<16777216→0≤y→y≤255→Go.bits .or .i64 (wrap64 (x*256)) (wrap64 y)=x*256+y:=fun x y hx0 hx1 hy0 hy1=>by
  rw[show wrap64 (x*256)=x*256 by unfold wrap64;omega,show wrap64 y=y by unfold wrap64;omega];exact bits_join .i64 40 (by decide) (fun n h0 h1=>by rw[IntKind.wrap_i64];omega) 8 _ _ (by omega) (by omega) (by omega) hy0 (by omega) (by omega)
 rw[ha] at h1;rw[hb] at h2;rw[hc] at h3;rw[hd] at h5;unfold dH.f jl;rw[ha,hb,hc,hd];simp only[dH.l0];rw[if_pos (by decide),w0,if_pos (by omega),if_pos (by omega),ha,hor 0 a (by decide) (by decide) h1.1 h1.2];rw[show wrap64 (0+1)=1 by unfold wrap64;omega,if_pos (by decide),w1,if_pos (by omega),if_pos (by omega),hb,hor _ b (by omega) (by omega) h2.1 h2.2];rw[show wrap64 (1+1)=2 by unfold wrap64;omega,if_pos (by decide),w2,if_pos (by omega),if_pos (by omega),hc,hor _ c (by omega) (by omega) h3.1 h3.2];rw[show wrap64 (2+1)=3 by unfold wrap64;omega,if_pos (by decide),w3,if_pos (by omega),if_pos (by omega),hd,hor _ d (by omega) (by omega) h5.1 h5.2];rw[show wrap64 (3+1)=4 by unfold wrap64;omega,if_neg (by decide)];simp
def kH {α:Type} (a b:α):Nat→α
 | 0=>a
 | _=>b
theorem nV {p:Nat→Prop} (h0:p 0) (h1:p 1):∀i,i<2→p i:=fun i hi=>by
 rcases (show i=0∨i=1 by omega) with rfl|rfl
 ·exact h0
 ·exact h1
def lZ (a b:List It):List Two.Rd:=Two.eY (kH a b) (Two.jO (kH a b) (fun _=>0)) (fun _=>0)
def kI (a b:Option It):Option Ch :=
 if IC a b=true then none else
 match a,b with
 | some x,none=>some ⟨1,⟨0,x.f1,⟨#[]⟩,0,[],[]⟩,[]⟩
 | some x,some y=>if x.f0=1∧y.f0=1 then some (qx x y) else some ⟨2,y,[]⟩
 | none,some y=>some ⟨2,y,[]⟩
 | none,none=>none
def jU (s:List Ch) (r:Two.Rd):List Ch:=s++(kI r.2.1 r.2.2).toList
def jw (a b:List It):List Ch:=(lZ a b).foldl jU []
theorem zG (l:List Two.Rd):∀s,(l.foldl jU s).length≤s.length+l.length:=by
 induction l with
 | nil=>intro s;exact Nat.le_refl _
 | cons r l ih=>
  intro s;have h:=ih (jU s r)
  have h1:(jU s r).length≤s.length+1:=by
   unfold jU;rw[List.length_append]
   cases kI r.2.1 r.2.2 <;> simp
  simp only[List.foldl_cons,List.length_cons];omega
def adW (w0:World):Kd It:=Kd.Lg (Kd.pair (Kd.int .i64) (Kd.pair Kd.string (Kd.pair Kd.string (Kd.pair (Kd.int .i64) (Kd.pair (Kd.mix 117 cO cO w0) (Kd.mix 5 (Kd.int .u8) (Kd.int .u8) w0)))))) (fun x:It=>(x.f0,x.f1,x.f2,x.f3,x.f4,x.f5))
def BH (w0:World):Kd Ch:=Kd.Lg (Kd.pair (Kd.int .i64) (Kd.pair (adW w0) (Kd.mix 117 cO cO w0))) (fun x:Ch=>(x.f0,x.f1,x.f2))
abbrev Z8 (w0:World):Kd (List Rn):=Kd.mix 117 cO cO w0
abbrev abd (w0:World):Kd (List Int):=Kd.mix 5 (Kd.int .u8) (Kd.int .u8) w0
theorem wz {w0 w:World} {base:Nat} {ok:Nat→Prop} {x:Ch} {v5 v6 v7:Value} (g5:(Z8 w0).M w base ok x.f1.f4 [v5]) (g6:(abd w0).M w base ok x.f1.f5 [v6]) (g7:(Z8 w0).M w base ok x.f2 [v7]) :
  (BH w0).M w base ok x [.int .i64 x.f0,.int .i64 x.f1.f0,.string x.f1.f1,.string x.f1.f2,.int .i64 x.f1.f3,v5,v6,v7] :=
 ⟨[.int .i64 x.f0],[.int .i64 x.f1.f0,.string x.f1.f1,.string x.f1.f2,.int .i64 x.f1.f3,v5,v6,v7],rfl,rfl,
  ⟨[.int .i64 x.f1.f0,.string x.f1.f1,.string x.f1.f2,.int .i64 x.f1.f3,v5,v6],[v7],rfl,
   ⟨[.int .i64 x.f1.f0],[.string x.f1.f1,.string x.f1.f2,.int .i64 x.f1.f3,v5,v6],rfl,rfl,⟨[.string x.f1.f1],[.string x.f1.f2,.int .i64 x.f1.f3,v5,v6],rfl,rfl,⟨[.string x.f1.f2],[.int .i64 x.f1.f3,v5,v6],rfl,rfl,⟨[.int .i64 x.f1.f3],[v5,v6],rfl,rfl,⟨[v5],[v6],rfl,g5,g6⟩⟩⟩⟩⟩,g7⟩⟩
theorem R7 {w0 w:World} (hb:Below w0.heap.size w0 w) {x:Ch} {cs:List Value} (h:(BH w0).K w x cs):GZ.K w x cs:=by
 obtain⟨_,_,rfl,rfl,⟨_,_,rfl,⟨_,_,rfl,rfl,⟨_,_,rfl,rfl,⟨_,_,rfl,rfl,⟨_,_,rfl,rfl,⟨_,_,rfl,g4,g5⟩⟩⟩⟩⟩,g7⟩⟩:=h;obtain⟨A4,c4,rfl,l4,r4⟩:=Kd.Ef rfl (fun _ _ h=>h) hb g4;obtain⟨A5,c5,rfl,l5,r5⟩:=Kd.Ef rfl (fun _ _ h=>h) hb g5;obtain⟨A7,c7,rfl,l7,r7⟩:=Kd.Ef rfl (fun _ _ h=>h) hb g7;exact aa4 w x l4 r4 l5 r5 l7 r7
theorem Uf {w0:World} {q:Nat} (h:q∈31::(BH w0).E):q=31∨q=117∨q=5:=by
 simp[BH,adW,Kd.Lg,Kd.pair,Kd.int,Kd.scalar,Kd.string,Kd.mix,Kd.or_,Kd.fixed,Kd.slice,cO] at h;omega
structure DI (w:World) (nb pb:Nat) (b0 g0:Int) (S:List Ch) (W:World):Prop where
 low:Below w.heap.size w W
 big:nb≤W.heap.size
 box:∃v,W.heap[pb]?=some (.cells #[.int .i64 b0,.int .i64 g0,v] 24 (0,0))∧Kd.R (BH w) 31 W nb (fun _=>True) v S
def jg (a b:List It):List Int × Int :=
 if (cK a).2≠0 then ([],(cK a).2) else if (cK b).2≠0 then ([],(cK b).2) else gL (jl (cK a).1) (jl (cK b).1) (jw a b)
def eU.f (l0 l1:List It):Option (List Int × Int):=if l0.all lW=true∧l1.all lW=true then some (jg l0 l1) else none
theorem DI.kq {w A C:World} {nb pb B:Nat} {b0 g0:Int} {S:List Ch} (h:DI w nb pb b0 g0 S A) (hq:Kq B A C) (h0:w.heap.size≤B) (h1:pb<B):DI w nb pb b0 g0 S C:=by
 obtain⟨v,hv,Lc⟩:=h.box;exact⟨hq.low h0 (Nat.le_refl _) h.low,Nat.le_trans h.big hq.size,v,hq.blocks _ _ hv (.inl h1),hq.row Lc (fun q hq=>by rcases Uf hq with rfl|rfl|rfl <;> decide)⟩
theorem DI.below {w A C:World} {nb pb:Nat} {b0 g0:Int} {S:List Ch} (h:DI w nb pb b0 g0 S A) (hb:Below A.heap.size A C):DI w nb pb b0 g0 S C:=by
 obtain⟨v,hv,Lc⟩:=h.box;exact⟨h.low.trans (hb.mono h.low.size),Nat.le_trans h.big hb.size,v,aD hv hb,Kd.dh Lc hb⟩
theorem zH (g br:Nat) (w:World) :
  Calls Tryz.prog 50 #[.func (.func g) #[] #[],.slice (some ⟨br,0,none⟩) 2 2] w fun e w'=>e=.returned (.func (.func 87) #[] #[.pointer (some ⟨w.heap.size+1,0,none⟩),.pointer (some ⟨w.heap.size,0,none⟩)]) ∧
   w'=(w.alloc (.cells #[.func (.func g) #[] #[]] 93)).alloc (.cells #[.slice (some ⟨br,0,none⟩) 2 2] 75):=by
 have hz1:∀w,(Go.sizeOf 93).run Tryz.prog w=.ok 1 w:=fun w=>by kernel_rfl
 have hz2:∀w,(Go.sizeOf 75).run Tryz.prog w=.ok 1 w:=fun w=>by kernel_rfl
 go_enter Tryz.func50,Tryz.ntmps50
 go_wp2_with fail
 go_ret
 exact⟨by simp,rfl⟩
theorem zI:∀(l:List It) (out:List Int) (n:Nat),(nU out n l).2=0→(∀x∈l,Fit x)→(∀b∈out,0≤b∧b≤255)→out.length+9≤4194304→4≤(nU out n l).1.length∧(nU out n l).1.length≤4194304∧∀b∈(nU out n l).1,0≤b∧b≤255
 | [],out,n,_,_,hb,hl=>by
  show 4≤(kF out n).length∧(kF out n).length≤4194304∧∀b∈kF out n,0≤b∧b≤255
  unfold kF;simp only[List.length_append,aZ];refine⟨by omega,by omega,fun b h=>?_⟩;simp only[List.mem_append] at h
  rcases h with ((h|h)|h)|h
  ·exact hb b h
  ·exact fM _ _ b h
  ·exact fM _ _ b h
  ·exact fM _ _ b h
 | x::l,out,n,h,hf,hb,hl=>by
  rw[nU] at h ⊢;split at h
  ·cases h
  ·rename_i hle;rw[if_neg hle]
   exact zI l _ _ h (fun y hy=>hf y (by simp[hy])) (fun b hm=>by
    rcases List.mem_append.1 hm with hm|hm
    ·exact hb b hm
    ·exact Lp (hf x (by simp)) b hm) (by omega)
theorem nM {l:List It} (h:(cK l).2=0) (hf:l.all lW=true):4≤(cK l).1.length∧(cK l).1.length≤4194304∧∀b∈(cK l).1,0≤b∧b≤255:=by
 unfold cK at h ⊢;split at h
 ·cases h
 ·rename_i h1;rw[if_neg h1];split at h
  ·rename_i h2;rw[if_pos h2];exact zI l _ _ h (fun x hx=>rO (List.all_eq_true.1 hf x hx)) (by decide) (by decide)
  ·cases h
theorem yS (size:Int) (hs:0≤size) (hs2:size≤8459264):∀(l:List Ru) (last all l2 a2:Int),jV size last all l=some (l2,a2)→a2=all+(idxs l).length∧∀r∈l,0≤r.f0∧r.f0≤r.f1∧r.f1≤16522
 | [],last,all,l2,a2,h=>by
  simp[jV] at h;obtain⟨rfl,rfl⟩:=h;simp[idxs]
 | r::l,last,all,l2,a2,h=>by
  rw[jV] at h;split at h
  ·cases h
  ·rename_i hc;obtain⟨h1,h2⟩:=yS size hs hs2 l r.f1 (all+(r.f1 - r.f0)) l2 a2 h
   have hl:(idxs (r::l)).length=(r.f1 - r.f0).toNat+(idxs l).length:=by
    unfold idxs;rw[List.flatMap_cons,List.length_append];simp[iJ]
   refine⟨by rw[hl];omega,fun q hq=>?_⟩
   rcases List.mem_cons.1 hq with rfl|hq
   ·omega
   ·exact h2 q hq
theorem Eh {x:It} (hb:∀n∈x.f5,0≤n∧n≤255) (h:kZ x.f3 x.f4 x.f5=true):Fits x:=by
 unfold kZ at h;split at h
 ·cases h
 ·rename_i hc
  cases hr:jV x.f3 (-1) 0 x.f4 with
  | none=>rw[hr] at h;cases h
  | some p=>
   obtain⟨l2,a2⟩:=p;have h1:=uS x.f3 (by omega) (by omega) x.f4 (-1) 0 l2 a2 (by omega) (by omega) (by omega) hr;have h2:=yS x.f3 (by omega) (by omega) x.f4 (-1) 0 l2 a2 hr;rw[hr,Ei] at h;split at h
   ·rename_i h3;exact⟨hb,by omega,h2.2,by omega,by omega⟩
   ·cases h
theorem NY {K:List (ByteArray × Int)}:∀{before:Option (List ByteArray)} {l:List It},iB K before l=true→∀x∈l,x.f0=1→kZ x.f3 x.f4 x.f5=true:=by
 intro before l
 induction l generalizing K before with
 | nil=>intro _ x hx;cases hx
 | cons a l ih=>
  intro h x hx h1;rw[iB] at h;simp only[Bool.and_eq_true] at h
  rcases List.mem_cons.1 hx with rfl|hx
  ·have hc:=h.1.2;unfold fu at hc;rw[if_pos h1] at hc;simp only[Bool.and_eq_true] at hc;exact hc.2
  ·exact ih h.2 x hx h1
theorem tY {l:List It} (h:(cK l).2=0) (hf:l.all lW=true):∀x∈l,x.f0=1→Fits x:=fun x hx h1=>
 Eh (rO (List.all_eq_true.1 hf x hx)).b (NY (lX h).2 x hx h1)
theorem R8 {x y:It} (fx:Fits x) (fy:Fits y) (hp:y.f1.size≤140737488351232):tH (qx x y):=by
 have h:=pK x y (idxs y.f4) 0 ([],[]);have hl:=fy.l;have hi:=fy.i
 have hm:∀(l:List Int) (k:Nat) (s:List Rn × List Int),(∀b∈s.2,0≤b∧b≤255)→∀b∈(fP x y l k s).2,0≤b∧b≤255:=by
  intro l
  induction l with
  | nil=>intro k s hs;exact hs
  | cons i l ih=>
   intro k s hs;refine ih _ _ ?_;split
   ·intro b hb
    rcases List.mem_append.1 hb with hb|hb
    ·exact hs b hb
    ·exact fy.b b (List.mem_of_mem_drop (List.mem_of_mem_take hb))
   ·exact hs
 have h1:(fP x y (idxs y.f4) 0 ([],[])).1.length≤(idxs y.f4).length:=by have:=h.1;simpa using this
 have h2:(fP x y (idxs y.f4) 0 ([],[])).2.length≤512*(idxs y.f4).length:=by have:=h.2;simpa using this
 exact⟨⟨hp,by show (⟨#[]⟩:ByteArray).size≤_;decide,by show y.f4.length≤_;omega,by show (fP x y (idxs y.f4) 0 ([],[])).2.length≤_;omega,hm _ _ _ (by simp)⟩,by show (fP x y (idxs y.f4) 0 ([],[])).1.length≤_;omega⟩
theorem Ug {l0 l1:List It} (h0:(cK l0).2=0) (h1:(cK l1).2=0) (f0:l0.all lW=true) (f1:l1.all lW=true) {a b:Option It} (ha:∀x,a=some x→x∈l0) (hb:∀x,b=some x→x∈l1) {c:Ch} (h:kI a b=some c):tH c:=by
 unfold kI at h;split at h
 ·cases h
 ·cases a with
  | none=>
   cases b with
   | none=>cases h
   | some y=>
    obtain rfl:=Option.some.inj h;exact⟨rO (List.all_eq_true.1 f1 y (hb y rfl)),Nat.zero_le _⟩
  | some x=>
   cases b with
   | none=>
    obtain rfl:=Option.some.inj h;exact⟨⟨(rO (List.all_eq_true.1 f0 x (ha x rfl))).p,by show (⟨#[]⟩:ByteArray).size≤_;decide,Nat.zero_le _,Nat.zero_le _,fun n hn=>by cases hn⟩,Nat.zero_le _⟩
   | some y=>
    dsimp only at h;split at h
    ·rename_i hk;obtain rfl:=Option.some.inj h;exact R8 (tY h0 f0 x (ha x rfl) hk.1) (tY h1 f1 y (hb y rfl) hk.2) (rO (List.all_eq_true.1 f1 y (hb y rfl))).p
    ·obtain rfl:=Option.some.inj h;exact⟨rO (List.all_eq_true.1 f1 y (hb y rfl)),Nat.zero_le _⟩
theorem xD {l0 l1:List It} (h0:(cK l0).2=0) (h1:(cK l1).2=0) (f0:l0.all lW=true) (f1:l1.all lW=true):∀(rs:List Two.Rd) (s:List Ch),(∀r∈rs,(∀x,r.2.1=some x→x∈l0)∧∀x,r.2.2=some x→x∈l1)→(∀c∈s,tH c)→∀c∈rs.foldl jU s,tH c
 | [],s,_,hs=>hs
 | r::rs,s,hr,hs=>by
  refine xD h0 h1 f0 f1 rs _ (fun q hq=>hr q (by simp[hq])) (fun c hc=>?_);unfold jU at hc
  rcases List.mem_append.1 hc with hc|hc
  ·exact hs c hc
  ·exact Ug h0 h1 f0 f1 (hr r (by simp)).1 (hr r (by simp)).2 (Option.mem_toList.1 hc)
theorem jW {W:World} {n:Nat} (h:W.heap.size=n) (o:Obj):(W.alloc o).heap[n]?=some o:=h▸bK W o
def vL (W:World) (p:Addr) (x:It) (A4:Option Addr) (c4:Nat) (A5:Option Addr) (c5:Nat):Prop :=
 W.cell? p=some (.int .i64 x.f0)∧W.cell? ⟨p.block,p.off+1,none⟩=some (.string x.f1)∧W.cell? ⟨p.block,p.off+2,none⟩=some (.string x.f2)∧W.cell? ⟨p.block,p.off+3,none⟩=some (.int .i64 x.f3)∧W.cell? ⟨p.block,p.off+4,none⟩=some (.slice A4 x.f4.length c4)∧W.cell? ⟨p.block,p.off+5,none⟩=some (.slice A5 x.f5.length c5)
theorem vL.below {W W1:World} {p:Addr} {x:It} {A4:Option Addr} {c4:Nat} {A5:Option Addr} {c5:Nat} (h:vL W p x A4 c4 A5 c5) (hb:Below W.heap.size W W1):vL W1 p x A4 c4 A5 c5 :=
 ⟨aj hb h.1,aj hb h.2.1,aj hb h.2.2.1,aj hb h.2.2.2.1,aj hb h.2.2.2.2.1,aj hb h.2.2.2.2.2⟩
structure Lie (W:World) (x:It) (A4:Option Addr) (c4:Nat) (A5:Option Addr) (c5:Nat):Prop where
 l4:x.f4.length≤c4
 g4:Kd.C cO W A4 x.f4.length x.f4
 l5:x.f5.length≤c5
 g5:Kd.C (Kd.int .u8) W A5 x.f5.length x.f5
theorem OI.six {W:World} {v:Value} {x:It} (h:OI W v (some x)):∃ad A4 c4 A5 c5,v=.pointer (some ad)∧vL W ad x A4 c4 A5 c5∧Lie W x A4 c4 A5 c5:=by
 obtain⟨ad,A4,c4,A5,c5,e,r0,r1,r2,r3,r4,r5,l4,g4,l5,g5⟩:=h;exact⟨ad,A4,c4,A5,c5,e,⟨r0,r1,r2,r3,r4,r5⟩,l4,g4,l5,g5⟩
theorem Lie.below {W W1:World} {x:It} {A4:Option Addr} {c4:Nat} {A5:Option Addr} {c5:Nat} (h:Lie W x A4 c4 A5 c5) (hb:Below W.heap.size W W1):Lie W1 x A4 c4 A5 c5:=⟨h.l4,Kd.aC h.g4 hb,h.l5,Kd.aC h.g5 hb⟩
def yt (w:World) (nb pb b1 b2 br:Nat) (b0 g0:Int) (S:List Ch) (W:World) (e:Exit) (B:World):Prop :=
 e=.normal∧DI w nb pb b0 g0 S B∧KpR w.heap.size (fun k=>k=b1∨k=b2∨k=br) W B∧Still nb W B
theorem yt.eq {w:World} {nb pb b1 b2 br:Nat} {b0 g0:Int} {S:List Ch} {W B:World} {e:Exit} (h:yt w nb pb b1 b2 br b0 g0 S W e B):e=.normal:=h.1
theorem aiu {w:World} {nb pb:Nat} {b0 g0:Int} {S0 S:List Ch} {W:World} (hi:DI w nb pb b0 g0 S0 W) (h0:w.heap.size≤pb) (h1:nb=pb+4) :
  ∀B,DI w nb pb b0 g0 S B→jK nb (fun k=>k=pb) (fun q=>q=31) W B→yt w nb pb (pb+1+1) (pb+1+1+1) (pb+1) b0 g0 S W .normal B:=fun B hd hc=>by
 obtain⟨v,hv,_⟩:=hi.box;have hbig:=hi.big;exact⟨rfl,hd,hc.kp (by omega) (fun k hk=>by omega) (by omega) (fun k hk=>by omega) (by decide) (fun k hk cs e=>by rw[hk,hv] at e;injection e with e;injection e with _ e;exact absurd e (by decide)),hc.still (fun k hk=>by omega)⟩
theorem Two.Uh {rs:List Two.Rd} {w0 W:World} {pre:List Two.nL} {x:Two.nL} {l:Nat} {o o':Obj} (h:Two.QA rs w0 pre x W) (ho:W.heap[l]?=some o) (hc:o.isCells=false):Two.QA rs w0 pre x (W.putObj l o'):=by
 obtain⟨hr,p0,p1,hg,h0,h1⟩:=h;refine⟨hr,p0,p1,(World.putObj_heap_other (fun e=>?_)).trans hg,h0,h1⟩;rw[e,ho] at hg
 injection hg with hg
 subst hg;cases hc
theorem Two.here {L:Nat→List It}:∀{n:Nat} {p:Nat→Nat} {r:Two.Rd},r∈Two.eY L n p→(∀x,r.2.1=some x→x∈L 0)∧(∀x,r.2.2=some x→x∈L 1)
 | 0,p,r,h=>by cases h
 | n+1,p,r,h=>by
  rw[Two.eY] at h
  cases hk:jL L p 2 with
  | none=>
   rw[hk] at h;cases h
  | some k=>
   rw[hk] at h
   rcases List.mem_cons.1 h with rfl|h
   ·exact⟨fun x hx=>(xC hx).1,fun x hx=>(xC hx).1⟩
   ·exact Two.here h
theorem Two.length {L:Nat→List It}:∀(n:Nat) (p:Nat→Nat),(Two.eY L n p).length≤n
 | 0,p=>Nat.le_refl _
 | n+1,p=>by
  rw[Two.eY]
  cases jL L p 2 with
  | none=>exact Nat.zero_le _
  | some k=>exact Nat.succ_le_succ (Two.length n _)
theorem DI.push {w W W1:World} {nb pb:Nat} {b0 g0:Int} {S:List Ch} {c:Ch} {v v1:Value} (h:DI w nb pb b0 g0 S W) (hv:W.heap[pb]?=some (.cells #[.int .i64 b0,.int .i64 g0,v] 24 (0,0))) (hr:Kd.R (BH w) 31 W nb (fun _=>True) v S)
  (hr1:Kd.R (BH w) 31 W1 nb (fun _=>True) v1 (S++[c])) (hg:W.grownBy W1 v.ownBlock) (h0:w.heap.size≤nb) (h1:w.heap.size≤pb):DI w nb pb b0 g0 (S++[c]) (W1.setCell ⟨pb,2,none⟩ v1):=by
 have hb:=(hg.block _ (bD hv) (jr hr hv (fun cs e=>by injection e with _ e;exact absurd e (by decide)))).trans hv;refine⟨((h.low.grown hg h.low.size (fun k e=>by have:=Kd.rR hr k e;omega)).setCell (by show w.heap.size≤pb;omega) _),?_,v1,gM hb 2 v1 (by rfl),?_⟩
 ·have h2:=((Below.refl 0 W1).setCell (p:=⟨pb,2,none⟩) (Nat.zero_le _) v1).size;exact Nat.le_trans h.big (Nat.le_trans hg.size h2)
 ·exact Kd.iq hr1 hb (fun q hq=>by rcases Uf hq with rfl|rfl|rfl <;> decide) 2 v1
theorem BI:(Tryz.prog.info? 31).map (fun i=>(i.zero,i.size,i.bytes))=some (some (.agg #[.int .i64 0,.int .i64 0,.string ⟨#[]⟩,.string ⟨#[]⟩,.int .i64 0,.slice none 0 0,.slice none 0 0,.slice none 0 0]),8,128):=by kernel_rfl
def qh (c:Ch):ByteArray:=jq 47 0 c.f1.f1
def sG:List Ch→ByteArray→Option Ch
 | [],_=>none
 | c::l,k=>match sG l k with
  | some d=>some d
  | none=>if qh c=k then some c else none
theorem R9 (l:List Ch) (c:Ch) (k:ByteArray):sG (l++[c]) k=if qh c=k then some c else sG l k:=by
 induction l with
 | nil=>simp[sG]
 | cons y l ih=>
  show (match sG (l++[c]) k with|some d=>some d|none=>if qh y=k then some y else none)=_
  rw[ih];by_cases e:qh c=k
  ·rw[if_pos e,if_pos e]
  ·rw[if_neg e,if_neg e];rfl
theorem wB:∀{l:List Ch} {k:ByteArray} {c:Ch},sG l k=some c→c∈l∧qh c=k
 | [],_,_,h=>by cases h
 | y::l,k,c,h=>by
  rw[sG] at h
  cases hl:sG l k with
  | some d=>
   rw[hl] at h;obtain rfl:=Option.some.inj h;have:=wB hl;exact⟨List.mem_cons_of_mem _ this.1,this.2⟩
  | none=>
   rw[hl] at h;dsimp only at h;split at h
   ·rename_i e;obtain rfl:=Option.some.inj h;exact⟨List.mem_cons_self,e⟩
   ·cases h
theorem BJ:∀{l:List Ch} {k:ByteArray},sG l k=none→∀c∈l,qh c≠k
 | [],_,_,c,hc=>by cases hc
 | y::l,k,h,c,hc=>by
  rw[sG] at h
  cases hl:sG l k with
  | some d=>rw[hl] at h;cases h
  | none=>
   rw[hl] at h;dsimp only at h;split at h
   ·cases h
   ·rename_i e
    rcases List.mem_cons.1 hc with rfl|hc
    ·exact e
    ·exact BJ hl c hc
def wC (c:Ch):It:=⟨0,c.f1.f1,⟨#[]⟩,0,[],[]⟩
def dX (cs:List Ch):List It:=cs.map wC
def uT (a:Option It) (c:Ch):Option It:=a.bind fun x=>qC x c
def nW (cs:List Ch) (r:Two.Rd):Option (List It) :=
 match sG cs r.1 with
 | none=>some r.2.1.toList
 | some c=>if c.f0=2 then some [c.f1] else if c.f0=3 then (uT r.2.1 c).map (fun x=>[x]) else if r.2.1=none then none else some []
def jX (cs:List Ch):List Two.Rd→List It→Option (List It)
 | [],s=>some s
 | r::rs,s=>match nW cs r with
  | none=>none
  | some l=>jX cs rs (s++l)
def pU (a:List It) (cs:List Ch):Option (List It):=jX cs (lZ a (dX cs)) []
theorem BK (cs:List Ch):∀(a b:List Two.Rd) (s:List It),jX cs (a++b) s=(jX cs a s).bind (jX cs b)
 | [],b,s=>rfl
 | r::a,b,s=>by
  rw[List.cons_append,jX,jX]
  cases nW cs r with
  | none=>rfl
  | some l=>exact BK cs a b (s++l)
theorem zJ (cs:List Ch):∀(rs:List Two.Rd) (s t:List It),jX cs rs s=some t→t.length≤s.length+rs.length
 | [],s,t,h=>by
  obtain rfl:=Option.some.inj h;simp
 | r::rs,s,t,h=>by
  rw[jX] at h
  cases ho:nW cs r with
  | none=>rw[ho] at h;cases h
  | some l=>
   rw[ho] at h;have h1:=zJ cs rs _ t h
   have h2:l.length≤1:=by
    unfold nW at ho;split at ho
    ·obtain rfl:=Option.some.inj ho
     cases r.2.1 <;> simp
    ·split at ho
     ·obtain rfl:=Option.some.inj ho;simp
     ·split at ho
      ·rename_i c _ _ _
       cases he:uT r.2.1 c with
       | none=>rw[he] at ho;cases ho
       | some x=>
        rw[he] at ho;obtain rfl:=Option.some.inj ho;simp
      ·split at ho
       ·cases ho
       ·obtain rfl:=Option.some.inj ho;simp
   rw[List.length_append] at h1;simp only[List.length_cons];omega
theorem Two.key {L:Nat→List It}:∀{n:Nat} {p:Nat→Nat} {r:Two.Rd},r∈Two.eY L n p→(∀x,r.2.1=some x→ko x=r.1)∧(∀x,r.2.2=some x→ko x=r.1)∧(r.2.1=none→∃x,r.2.2=some x)
 | 0,p,r,h=>by cases h
 | n+1,p,r,h=>by
  rw[Two.eY] at h
  cases hk:jL L p 2 with
  | none=>
   rw[hk] at h;cases h
  | some k=>
   rw[hk] at h
   rcases List.mem_cons.1 h with rfl|h
   ·have hkk:∀{a b:ByteArray},a.toList=b.toList→a=b:=fun {a b} h=>nE (by rw[Lib.toList_data,Lib.toList_data] at h;exact h)
    refine⟨fun x hx=>hkk (xC hx).2,fun x hx=>hkk (xC hx).2,fun hn=>?_⟩;obtain⟨j,x,hj,h1,h2⟩:=rz hk
    rcases (show j=0∨j=1 by omega) with rfl|rfl
    ·exfalso;have hn:eO L p k 0=none:=hn;unfold eO at hn;rw[h1] at hn;subst h2;simp at hn
    ·refine⟨x,?_⟩
     show eO L p k 1=some x
     unfold eO;rw[h1];subst h2;simp
   ·exact Two.key h
end Go.Proofs.YtknihldkhedpkaaGreatDoor
end
