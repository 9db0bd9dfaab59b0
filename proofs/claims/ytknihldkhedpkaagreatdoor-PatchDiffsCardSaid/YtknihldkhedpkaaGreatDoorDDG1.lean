import Derived.Test.YtknihldkhedpkaaGreatDoorProg
import Derived.Below
import Derived.Deep.Draws
import Derived.Deep.AppendLies
import Derived.Maps.AppendAt
import Derived.OwnWalk
import Derived.Laws.BytesArg
import Derived.Laws.MakeOwn
import Derived.Laws.OwnMore
import Derived.Deep.OwnRows
import Derived.Tactics
import Derived.Lib.ConvBytes
import Derived.Laws.Slices
import Derived.WalkKit
import Derived.KernelRfl
import Derived.RowKit3
import Derived.Deep.LoopGhost
import Derived.Deep.QuietTactic
import Derived.BigQuiet
import Derived.WideLaws
import Derived.Deep.DeepCutAuto
import Derived.Deep.CutBlock
import Derived.Deep.RegionHeld3
import Derived.Laws.Rows
import Derived.Lib.AppendStr
import Derived.ArgAppend
import Derived.Laws.IdiomCopy
import Derived.OrdersHeld
import Derived.Laws.BitsLemmas
import Derived.RowKit
import Derived.Test.YtknihldkhedpkaaGreatDoorDDW
import Derived.Deep.Slices
import Derived.SizedLaws
import Derived.Maps.OwnOps
import Derived.Maps.Views
import Derived.WideKeyEntry
set_option linter.all false
set_option maxHeartbeats 16000000
set_option maxRecDepth 100000
section
namespace Go.Proofs.YtknihldkhedpkaaGreatDoor.PT
open Go.RowKit Go.Proofs.YtknihldkhedpkaaGreatDoorW.PrintWords Go.Proofs.YtknihldkhedpkaaGreatDoorW.PrintLast Go.Proofs.YtknihldkhedpkaaGreatDoorW.PrintMore
attribute [local go_sem] kI kJ mI mJ jE jF kK kL
def agR:Option Int→Value
 | none=>.nilIface
 | some c=>.iface 0 (.int .i64 c)
theorem aY:agR none=.nilIface:=rfl
theorem aZ (c:Int):agR (some c)=.iface 0 (.int .i64 c):=rfl
theorem info3:(Tryz.prog.info? 3).map (fun i=>(i.zero,i.size,i.bytes))=some (some (.int .i64 0),1,8):=by kernel_rfl
theorem info5:(Tryz.prog.info? 5).map (fun i=>(i.zero,i.size,i.bytes))=some (some (.int .u8 0),1,1):=by kernel_rfl
theorem Mq:(Tryz.prog.info? 9).map (fun i=>(i.zero,i.size,i.bytes))=some (some (.string ⟨#[]⟩),1,16):=by kernel_rfl
theorem adP:(Tryz.prog.info? 29).map (fun i=>(i.zero,i.size,i.bytes))=some (some (.agg #[(.int .i64 0),(.string ⟨#[]⟩),(.string ⟨#[]⟩),(.int .i64 0),(.slice none 0 0),(.slice none 0 0)]),6,96):=by kernel_rfl
theorem Ay:(Tryz.prog.info? 117).map (fun i=>(i.zero,i.size,i.bytes))=some (some (.agg #[(.int .i64 0),(.int .i64 0)]),2,16):=by kernel_rfl
structure dh where
 f0:Int
 f1:Int
def z117:dh:=⟨(0:Int),(0:Int)⟩
def dw:Kd dh:=Kd.Mr (Kd.pair (Kd.int .i64) (Kd.int .i64)) (fun x:dh=>(x.f0,x.f1))
theorem Jg {w:World} {x:dh} {cs:List Value} (h:dw.K w x cs):cs=[.int .i64 x.f0,.int .i64 x.f1]:=by
 obtain⟨_,_,rfl,rfl,rfl⟩:=h;exact rfl
theorem uT {w:World} {base:Nat} {ok:Nat→Prop} {x:dh} {cs:List Value} (h:dw.M w base ok x cs):cs=[.int .i64 x.f0,.int .i64 x.f1]:=by
 obtain⟨_,_,rfl,rfl,rfl⟩:=h;exact rfl
theorem rF (w:World) (base:Nat) (ok:Nat→Prop) (x:dh)  : dw.M w base ok x [.int .i64 x.f0,.int .i64 x.f1]:=⟨[.int .i64 x.f0],[.int .i64 x.f1],rfl,rfl,rfl⟩
def aQ (xs:List dh) (i:Int):dh:=xs.getD i.toNat z117
theorem dQ {w:World} {A:Option Addr} {n:Nat} {xs:List dh} (h:Kd.C dw w A n xs) (i:Int) (h0:0≤i) (h1:i<n):∃ad ,A=some ad∧w.cell? (ad.add (i.toNat*2))=some (.int .i64 (aQ xs i).f0)∧w.cell? ⟨(ad.add (i.toNat*2)).block,(ad.add (i.toNat*2)).off+1,none⟩=some (.int .i64 (aQ xs i).f1):=by
 obtain⟨ad,c,e,_,hK,hc0⟩:=Kd.Si h z117 i h0 h1;have hc:∀j u,c[j]?=some u→w.cell? (ad.add (i.toNat*2+j))=some u:=hc0;obtain rfl:=Jg hK;exact⟨ad,e,hc 0 _ rfl,by rw[← iN _ _ 1 aj];exact hc 1 _ rfl⟩
structure kV where
 f0:Int
 f1:ByteArray
 f2:ByteArray
 f3:Int
 f4:(List dh)
 f5:(List Int)
def z29:kV:=⟨(0:Int),(⟨#[]⟩:ByteArray),(⟨#[]⟩:ByteArray),(0:Int),([]:List dh),([]:List Int)⟩
def mV:Kd kV:=Kd.Mr (Kd.pair (Kd.int .i64) (Kd.pair Kd.string (Kd.pair Kd.string (Kd.pair (Kd.int .i64) (Kd.pair (Kd.slice 117 dw) (Kd.slice 5 (Kd.int .u8))))))) (fun x:kV=>(x.f0,x.f1,x.f2,x.f3,x.f4,x.f5))
theorem Ms {w:World} {x:kV} {cs:List Value} (h:mV.K w x cs):∃A4 c4 A5 c5,cs=[.int .i64 x.f0,.string x.f1,.string x.f2,.int .i64 x.f3,.slice A4 x.f4.length c4,.slice A5 x.f5.length c5]∧x.f4.length≤c4∧dw.C w A4 x.f4.length x.f4∧x.f5.length≤c5∧(Kd.int .u8).C w A5 x.f5.length x.f5:=by
 obtain⟨_,_,rfl,rfl,⟨_,_,rfl,rfl,⟨_,_,rfl,rfl,⟨_,_,rfl,rfl,⟨_,_,rfl,⟨A4,c4,rfl,l4,g4⟩,⟨A5,c5,rfl,l5,g5⟩⟩⟩⟩⟩⟩:=h;exact⟨A4,c4,A5,c5,rfl,l4,g4,l5,g5⟩
theorem Jh {w:World} {base:Nat} {ok:Nat→Prop} {x:kV} {cs:List Value} (h:mV.M w base ok x cs):∃v4 v5,cs=[.int .i64 x.f0,.string x.f1,.string x.f2,.int .i64 x.f3,v4,v5]∧dw.R 117 w base ok v4 x.f4∧(Kd.int .u8).R 5 w base ok v5 x.f5:=by
 obtain⟨_,_,rfl,rfl,⟨_,_,rfl,rfl,⟨_,_,rfl,rfl,⟨_,_,rfl,rfl,⟨_,_,rfl,⟨v4,rfl,g4⟩,⟨v5,rfl,g5⟩⟩⟩⟩⟩⟩:=h;exact⟨v4,v5,rfl,g4,g5⟩
theorem V9 (w:World) (x:kV) {A4:Option Addr} {c4:Nat} (l4:x.f4.length≤c4) (g4:dw.C w A4 x.f4.length x.f4) {A5:Option Addr} {c5:Nat} (l5:x.f5.length≤c5) (g5:(Kd.int .u8).C w A5 x.f5.length x.f5):mV.K w x [.int .i64 x.f0,.string x.f1,.string x.f2,.int .i64 x.f3,.slice A4 x.f4.length c4,.slice A5 x.f5.length c5]:=⟨[.int .i64 x.f0],[.string x.f1,.string x.f2,.int .i64 x.f3,.slice A4 x.f4.length c4,.slice A5 x.f5.length c5],rfl,rfl,⟨[.string x.f1],[.string x.f2,.int .i64 x.f3,.slice A4 x.f4.length c4,.slice A5 x.f5.length c5],rfl,rfl,⟨[.string x.f2],[.int .i64 x.f3,.slice A4 x.f4.length c4,.slice A5 x.f5.length c5],rfl,rfl,⟨[.int .i64 x.f3],[.slice A4 x.f4.length c4,.slice A5 x.f5.length c5],rfl,rfl,⟨[.slice A4 x.f4.length c4],[.slice A5 x.f5.length c5],rfl,⟨A4,c4,rfl,l4,g4⟩,⟨A5,c5,rfl,l5,g5⟩⟩⟩⟩⟩⟩
theorem Az (w:World) (base:Nat) (ok:Nat→Prop) (x:kV) {v4:Value} (g4:dw.R 117 w base ok v4 x.f4) {v5:Value} (g5:(Kd.int .u8).R 5 w base ok v5 x.f5):mV.M w base ok x [.int .i64 x.f0,.string x.f1,.string x.f2,.int .i64 x.f3,v4,v5]:=⟨[.int .i64 x.f0],[.string x.f1,.string x.f2,.int .i64 x.f3,v4,v5],rfl,rfl,⟨[.string x.f1],[.string x.f2,.int .i64 x.f3,v4,v5],rfl,rfl,⟨[.string x.f2],[.int .i64 x.f3,v4,v5],rfl,rfl,⟨[.int .i64 x.f3],[v4,v5],rfl,rfl,⟨[v4],[v5],rfl,⟨v4,rfl,g4⟩,⟨v5,rfl,g5⟩⟩⟩⟩⟩⟩
def aI (xs:List kV) (i:Int):kV:=xs.getD i.toNat z29
theorem jh {w:World} {A:Option Addr} {n:Nat} {xs:List kV} (h:Kd.C mV w A n xs) (i:Int) (h0:0≤i) (h1:i<n):∃ad A4 c4 A5 c5,A=some ad∧w.cell? (ad.add (i.toNat*6))=some (.int .i64 (aI xs i).f0)∧w.cell? ⟨(ad.add (i.toNat*6)).block,(ad.add (i.toNat*6)).off+1,none⟩=some (.string (aI xs i).f1)∧w.cell? ⟨(ad.add (i.toNat*6)).block,(ad.add (i.toNat*6)).off+2,none⟩=some (.string (aI xs i).f2)∧w.cell? ⟨(ad.add (i.toNat*6)).block,(ad.add (i.toNat*6)).off+3,none⟩=some (.int .i64 (aI xs i).f3)∧w.cell? ⟨(ad.add (i.toNat*6)).block,(ad.add (i.toNat*6)).off+4,none⟩=some (.slice A4 (aI xs i).f4.length c4)∧w.cell? ⟨(ad.add (i.toNat*6)).block,(ad.add (i.toNat*6)).off+5,none⟩=some (.slice A5 (aI xs i).f5.length c5)∧(aI xs i).f4.length≤c4∧dw.C w A4 (aI xs i).f4.length (aI xs i).f4∧(aI xs i).f5.length≤c5∧(Kd.int .u8).C w A5 (aI xs i).f5.length (aI xs i).f5:=by
 obtain⟨ad,c,e,_,hK,hc0⟩:=Kd.Si h z29 i h0 h1;have hc:∀j u,c[j]?=some u→w.cell? (ad.add (i.toNat*6+j))=some u:=hc0;obtain⟨A4,c4,A5,c5,rfl,l4,g4,l5,g5⟩:=Ms hK;exact⟨ad,A4,c4,A5,c5,e,hc 0 _ rfl,by rw[← iN _ _ 1 aj];exact hc 1 _ rfl,by rw[← iN _ _ 2 aj];exact hc 2 _ rfl,by rw[← iN _ _ 3 aj];exact hc 3 _ rfl,by rw[← iN _ _ 4 aj];exact hc 4 _ rfl,by rw[← iN _ _ 5 aj];exact hc 5 _ rfl,l4,g4,l5,g5⟩
structure VT where
 f0:Int
 f1:kV
 f2:(List dh)
def z31:VT:=⟨(0:Int),z29,([]:List dh)⟩
def EA:Kd VT:=Kd.Mr (Kd.pair (Kd.int .i64) (Kd.pair mV (Kd.slice 117 dw))) (fun x:VT=>(x.f0,x.f1,x.f2))
theorem Wh {w:World} {x:VT} {cs:List Value} (h:EA.K w x cs):∃A5 c5 A6 c6 A7 c7,cs=[.int .i64 x.f0,.int .i64 x.f1.f0,.string x.f1.f1,.string x.f1.f2,.int .i64 x.f1.f3,.slice A5 x.f1.f4.length c5,.slice A6 x.f1.f5.length c6,.slice A7 x.f2.length c7]∧x.f1.f4.length≤c5∧dw.C w A5 x.f1.f4.length x.f1.f4∧x.f1.f5.length≤c6∧(Kd.int .u8).C w A6 x.f1.f5.length x.f1.f5∧x.f2.length≤c7∧dw.C w A7 x.f2.length x.f2:=by
 obtain⟨_,_,rfl,rfl,⟨_,_,rfl,s1,⟨A7,c7,rfl,l7,g7⟩⟩⟩:=h;obtain⟨A5,c5,A6,c6,rfl,l5,g5,l6,g6⟩:=Ms s1;exact⟨A5,c5,A6,c6,A7,c7,rfl,l5,g5,l6,g6,l7,g7⟩
theorem Uy {w:World} {base:Nat} {ok:Nat→Prop} {x:VT} {cs:List Value} (h:EA.M w base ok x cs):∃v5 v6 v7,cs=[.int .i64 x.f0,.int .i64 x.f1.f0,.string x.f1.f1,.string x.f1.f2,.int .i64 x.f1.f3,v5,v6,v7]∧dw.R 117 w base ok v5 x.f1.f4∧(Kd.int .u8).R 5 w base ok v6 x.f1.f5∧dw.R 117 w base ok v7 x.f2:=by
 obtain⟨_,_,rfl,rfl,⟨_,_,rfl,s1,⟨v7,rfl,g7⟩⟩⟩:=h;obtain⟨v5,v6,rfl,g5,g6⟩:=Jh s1;exact⟨v5,v6,v7,rfl,g5,g6,g7⟩
theorem adQ (w:World) (x:VT) {A5:Option Addr} {c5:Nat} (l5:x.f1.f4.length≤c5) (g5:dw.C w A5 x.f1.f4.length x.f1.f4) {A6:Option Addr} {c6:Nat} (l6:x.f1.f5.length≤c6) (g6:(Kd.int .u8).C w A6 x.f1.f5.length x.f1.f5) {A7:Option Addr} {c7:Nat} (l7:x.f2.length≤c7) (g7:dw.C w A7 x.f2.length x.f2):EA.K w x [.int .i64 x.f0,.int .i64 x.f1.f0,.string x.f1.f1,.string x.f1.f2,.int .i64 x.f1.f3,.slice A5 x.f1.f4.length c5,.slice A6 x.f1.f5.length c6,.slice A7 x.f2.length c7]:=⟨[.int .i64 x.f0],[.int .i64 x.f1.f0,.string x.f1.f1,.string x.f1.f2,.int .i64 x.f1.f3,.slice A5 x.f1.f4.length c5,.slice A6 x.f1.f5.length c6,.slice A7 x.f2.length c7],rfl,rfl,⟨[.int .i64 x.f1.f0,.string x.f1.f1,.string x.f1.f2,.int .i64 x.f1.f3,.slice A5 x.f1.f4.length c5,.slice A6 x.f1.f5.length c6],[.slice A7 x.f2.length c7],rfl,(V9 w x.f1 l5 g5 l6 g6),⟨A7,c7,rfl,l7,g7⟩⟩⟩
theorem Sj (w:World) (base:Nat) (ok:Nat→Prop) (x:VT) {v5:Value} (g5:dw.R 117 w base ok v5 x.f1.f4) {v6:Value} (g6:(Kd.int .u8).R 5 w base ok v6 x.f1.f5) {v7:Value} (g7:dw.R 117 w base ok v7 x.f2):EA.M w base ok x [.int .i64 x.f0,.int .i64 x.f1.f0,.string x.f1.f1,.string x.f1.f2,.int .i64 x.f1.f3,v5,v6,v7]:=⟨[.int .i64 x.f0],[.int .i64 x.f1.f0,.string x.f1.f1,.string x.f1.f2,.int .i64 x.f1.f3,v5,v6,v7],rfl,rfl,⟨[.int .i64 x.f1.f0,.string x.f1.f1,.string x.f1.f2,.int .i64 x.f1.f3,v5,v6],[v7],rfl,(Az w base ok x.f1 g5 g6),⟨v7,rfl,g7⟩⟩⟩
def gV (xs:List VT) (i:Int):VT:=xs.getD i.toNat z31
theorem CY {w:World} {A:Option Addr} {n:Nat} {xs:List VT} (h:Kd.C EA w A n xs) (i:Int) (h0:0≤i) (h1:i<n):∃ad A5 c5 A6 c6 A7 c7,A=some ad∧w.cell? (ad.add (i.toNat*8))=some (.int .i64 (gV xs i).f0)∧w.cell? ⟨(ad.add (i.toNat*8)).block,(ad.add (i.toNat*8)).off+1,none⟩=some (.int .i64 (gV xs i).f1.f0)∧w.cell? ⟨(ad.add (i.toNat*8)).block,(ad.add (i.toNat*8)).off+2,none⟩=some (.string (gV xs i).f1.f1)∧w.cell? ⟨(ad.add (i.toNat*8)).block,(ad.add (i.toNat*8)).off+3,none⟩=some (.string (gV xs i).f1.f2)∧w.cell? ⟨(ad.add (i.toNat*8)).block,(ad.add (i.toNat*8)).off+4,none⟩=some (.int .i64 (gV xs i).f1.f3)∧w.cell? ⟨(ad.add (i.toNat*8)).block,(ad.add (i.toNat*8)).off+5,none⟩=some (.slice A5 (gV xs i).f1.f4.length c5)∧w.cell? ⟨(ad.add (i.toNat*8)).block,(ad.add (i.toNat*8)).off+6,none⟩=some (.slice A6 (gV xs i).f1.f5.length c6)∧w.cell? ⟨(ad.add (i.toNat*8)).block,(ad.add (i.toNat*8)).off+7,none⟩=some (.slice A7 (gV xs i).f2.length c7)∧(gV xs i).f1.f4.length≤c5∧dw.C w A5 (gV xs i).f1.f4.length (gV xs i).f1.f4∧(gV xs i).f1.f5.length≤c6∧(Kd.int .u8).C w A6 (gV xs i).f1.f5.length (gV xs i).f1.f5∧(gV xs i).f2.length≤c7∧dw.C w A7 (gV xs i).f2.length (gV xs i).f2:=by
 obtain⟨ad,c,e,_,hK,hc0⟩:=Kd.Si h z31 i h0 h1;have hc:∀j u,c[j]?=some u→w.cell? (ad.add (i.toNat*8+j))=some u:=hc0;obtain⟨A5,c5,A6,c6,A7,c7,rfl,l5,g5,l6,g6,l7,g7⟩:=Wh hK;exact⟨ad,A5,c5,A6,c6,A7,c7,e,hc 0 _ rfl,by rw[← iN _ _ 1 aj];exact hc 1 _ rfl,by rw[← iN _ _ 2 aj];exact hc 2 _ rfl,by rw[← iN _ _ 3 aj];exact hc 3 _ rfl,by rw[← iN _ _ 4 aj];exact hc 4 _ rfl,by rw[← iN _ _ 5 aj];exact hc 5 _ rfl,by rw[← iN _ _ 6 aj];exact hc 6 _ rfl,by rw[← iN _ _ 7 aj];exact hc 7 _ rfl,l5,g5,l6,g6,l7,g7⟩
def iP (xs:List (List kV)) (i:Int):(List kV):=xs.getD i.toNat ([]:List kV)
theorem wE {w:World} {A:Option Addr} {n:Nat} {xs:List (List kV)} (h:Kd.C (Kd.slice 29 mV) w A n xs) (i:Int) (h0:0≤i) (h1:i<n):∃ad A0 c0,A=some ad∧w.cell? (ad.add i.toNat)=some (.slice A0 (iP xs i).length c0)∧(iP xs i).length≤c0∧mV.C w A0 (iP xs i).length (iP xs i):=by
 obtain⟨ad,c,e,_,hK,hc0⟩:=Kd.Si h ([]:List kV) i h0 h1;have hc:∀j u,c[j]?=some u→w.cell? (ad.add (i.toNat*1+j))=some u:=hc0;obtain⟨A0,c0,rfl,l0,g0⟩:=hK;exact⟨ad,A0,c0,e,by have hq:=hc 0 _ rfl;rwa [Nat.mul_one,Nat.add_zero] at hq,l0,g0⟩
end Go.Proofs.YtknihldkhedpkaaGreatDoor.PT
end
section
namespace Go.Proofs.YtknihldkhedpkaaGreatDoor
open Go.RowKit Go.ChangeShapes Go.WideShapes Go.Deep
open Go.Proofs.YtknihldkhedpkaaGreatDoorW.PrintWords Go.Proofs.YtknihldkhedpkaaGreatDoorW.PrintLast
def zG (P:Program) (t:TypeId) {α:Type} (d:Kd α) (good:α→Prop):Prop :=
 ∀(H:Type) (enc:TypeId × Value→H) (W:World) (base:Nat) (spare:Nat→Bool) (held:Bool) (fuel:Nat) (cs:List Value) (dd:DataW H) (ps:List MemPlace),
  DataW.trod enc P W base spare held fuel t cs=some (dd,ps)→(∀n∈dd.weights P t,n≤reachBytes)→∃x,d.K W x cs∧good x
theorem zG.int {P:Program} {t:TypeId} {k:IntKind} (ht:P.underlying t=some (.int k)):zG P t (Kd.int k) (fun n=>(Lit.int k n).wf=true):=by
 intro H enc W base spare held fuel cs dd ps h _;obtain⟨n,rfl,_,hw⟩:=DataW.trod_int ht h;exact⟨n,rfl,hw⟩
theorem zG.string {P:Program} {t:TypeId} (ht:P.underlying t=some .string):zG P t Kd.string (fun s=>s.size≤reachBytes):=by
 intro H enc W base spare held fuel cs dd ps h hw;obtain⟨s,rfl,hx,_⟩:=DataW.trod_string ht h
 injection hx with hd _
 subst hd;refine⟨s,rfl,?_⟩;have:=hw s.data.toList.length (by simp[DataW.weights]);rw[gI] at this;exact this
theorem wV {H:Type} {P:Program} {e:TypeId}:∀{l:List (DataW H)} {d:DataW H},d∈l→∀n∈d.weights P e,n∈DataW.weightsAll P e l
 | x::l,d,h,n,hn=>by
  rw[DataW.weightsAll]
  rcases List.mem_cons.1 h with rfl|h
  ·exact List.mem_append_left _ hn
  exact List.mem_append_right _ (wV h n hn)
theorem zG.slice {P:Program} {t e:TypeId} {α:Type} {d:Kd α} {good:α→Prop} (q:Nat) (ht:P.underlying t=some (.slice e)) (hc:P.cellsOf e=d.sz) (h:zG P e d good) :
  zG P t (Kd.slice q d) (fun l=>l.length*P.bytesOf e≤reachBytes∧∀x∈l,good x):=by
 intro H enc W base spare held fuel cs dd ps hf hw
 rcases open_slice ht hf with⟨rfl,_⟩|⟨A,len,cap,m,n,D,Pl,rfl,hb,hl,hm,hmm,hx2,hx⟩
 ·exact⟨[],⟨none,0,rfl,Nat.le_refl _,⟨rfl,Nat.zero_le _,fun h=>absurd h (Nat.lt_irrefl 0)⟩⟩,by simp,fun _ h=>absurd h List.not_mem_nil⟩
 injection hx2 with hd _
 subst hd
 have hlm:len≤m:=by rw[hmm];split <;> omega
 have hw':∀i,i<len→∀k∈(D i).weights P e,k≤reachBytes:=fun i hi k hk=>by
  refine hw k ?_;simp only[DataW.weights,ht];exact List.mem_cons_of_mem _ (List.mem_append_left _ (wV (List.mem_map.2 ⟨i,List.mem_range.2 hi,rfl⟩) k hk))
 have each:∀i,i<len→∃x:α,good x∧∃c,c.length=d.sz∧d.K W x c∧∀j u,c[j]?=some u→W.cell? (A.add (i*d.sz+j))=some u:=by
  intro i hi;obtain⟨cs',h1,h2⟩:=hx i aj;rw[hc] at h1;obtain⟨_,hlen,hcell⟩:=World.cells?_some h1;obtain⟨x,hK,hg⟩:=h H enc W base spare held n cs' _ _ h2 (hw' i hi);refine⟨x,hg,cs',hlen,hK,fun j u hj=>?_⟩;have hjl:j<cs'.length:=(List.getElem?_eq_some_iff.1 hj).1;have:=hcell j aj;rw[Go.Proofs.YtknihldkhedpkaaGreatDoorW.PrintWords.add_add] at this;rw[this,hj]
 have hq:∃l:List α,l.length=len∧∀i x,l[i]?=some x→good x∧∃c,c.length=d.sz∧d.K W x c∧∀j u,c[j]?=some u→W.cell? (A.add (i*d.sz+j))=some u:=by
  have go:∀k,k≤len→∃l:List α,l.length=k∧∀i x,l[i]?=some x→good x∧∃c,c.length=d.sz∧d.K W x c∧∀j u,c[j]?=some u→W.cell? (A.add (i*d.sz+j))=some u:=by
   intro k
   induction k with
   | zero=>exact fun _=>⟨[],rfl,fun i x hx=>by simp at hx⟩
   | succ k ih=>
    intro hk;obtain⟨l,hll,hlx⟩:=ih aj;obtain⟨x,hg,hcx⟩:=each k aj;refine⟨l++[x],by simp[hll],fun i y hy=>?_⟩
    rcases Nat.lt_or_ge i l.length with hi|hi
    ·rw[List.getElem?_append_left hi] at hy;exact hlx i y hy
    rw[List.getElem?_append_right hi] at hy
    have h0:i - l.length=0:=by
     have:=(List.getElem?_eq_some_iff.1 hy).1;simp at this;omega
    rw[h0] at hy;simp at hy;subst hy
    obtain rfl:i=k:=by omega
    exact⟨hg,hcx⟩
  exact go len (Nat.le_refl _)
 obtain⟨l,hll,hlx⟩:=hq;refine⟨l,⟨some A,cap,by rw[hll],by omega,⟨rfl,by unfold maxLen at hm;omega,fun _=>⟨A,rfl,fun j p hj=>?_⟩⟩⟩,?_,fun x hxm=>?_⟩
 ·obtain⟨_,c,h1,h2,h3⟩:=hlx j p hj;exact⟨c,h1,h2,h3⟩
 ·have:=hw ((len+(m - len))*P.bytesOf e) (by simp[DataW.weights,ht]);rw[hll];exact Nat.le_trans (Nat.mul_le_mul_right _ (Nat.le_add_right _ _)) this
 obtain⟨i,hi⟩:=List.getElem?_of_mem hxm;exact (hlx i x hi).1
def Sk (P:Program) (fs:List Field) (off:Nat) {α:Type} (d:Kd α) (good:α→Prop):Prop :=
 ∀(H:Type) (enc:TypeId × Value→H) (W:World) (base:Nat) (spare:Nat→Bool) (held:Bool) (fuel:Nat) (cs:List Value) (xs:List (DataW H × List MemPlace)),
  cs.length=off+d.sz→xs.length=fs.length→(∀(i:Nat) (f:Field),fs[i]?=some f→DataW.trod enc P W base spare held fuel f.type ((cs.drop f.offset).take (P.cellsOf f.type))=xs[i]?) →
  (∀n∈DataW.weightsEach P (fs.map (·.type)) (xs.map (·.1)),n≤reachBytes)→∃x,d.K W x (cs.drop off)∧good x
theorem Sk.last {P:Program} {f:Field} {off:Nat} {α:Type} {d:Kd α} {good:α→Prop} (ho:f.offset=off) (hc:P.cellsOf f.type=d.sz) (h:zG P f.type d good):Sk P [f] off d good:=by
 intro H enc W base spare held fuel cs xs hl hx hf hw
 match xs,hx with
 | [y],_=>
  have h0:=hf 0 f rfl;rw[ho,hc,List.take_of_length_le (by rw[List.length_drop];omega)] at h0;exact h H enc W base spare held fuel _ _ _ h0 (fun n hn=>hw n (by simp only[List.map_cons,List.map_nil,DataW.weightsEach];exact List.mem_append_left _ hn))
theorem Sk.cons {P:Program} {f:Field} {fs:List Field} {off:Nat} {α β:Type} {a:Kd α} {b:Kd β} {ga:α→Prop} {gb:β→Prop} (ho:f.offset=off) (hc:P.cellsOf f.type=a.sz) (h:zG P f.type a ga) (hs:Sk P fs (off+a.sz) b gb) :
  Sk P (f::fs) off (Kd.pair a b) (fun x=>ga x.1∧gb x.2):=by
 intro H enc W base spare held fuel cs xs hl hx hf hw
 match xs,hx with
 | y::ys,hx=>
  have hsz:(Kd.pair a b).sz=a.sz+b.sz:=rfl;rw[hsz] at hl;have h0:=hf 0 f rfl;rw[ho,hc] at h0;obtain⟨x,hK,hg⟩:=h H enc W base spare held fuel _ _ _ h0 (fun n hn=>hw n (by simp only[List.map_cons,DataW.weightsEach];exact List.mem_append_left _ hn));obtain⟨z,hK2,hg2⟩:=hs H enc W base spare held fuel cs ys aj (by simpa using hx) (fun i g hi=>by have:=hf (i+1) g hi;simpa using this) (fun n hn=>hw n (by simp only[List.map_cons,DataW.weightsEach];exact List.mem_append_right _ hn));refine⟨(x,z),⟨(cs.drop off).take a.sz,cs.drop (off+a.sz),?_,hK,hK2⟩,hg,hg2⟩
  conv=>lhs;rw[← List.take_append_drop a.sz (cs.drop off)]
  rw[List.drop_drop]
theorem zG.struct {P:Program} {t:TypeId} {fs:Array Field} {α β:Type} {d:Kd α} {good:α→Prop} (f:β→α) (alS:∀y,∃x,f x=y) (ht:P.underlying t=some (.struct fs)) (hc:P.cellsOf t=d.sz) (h:Sk P fs.toList 0 d good) :
  zG P t (Kd.Mr d f) (fun x=>good (f x)):=by
 intro H enc W base spare held fuel cs dd ps hf hw;obtain⟨xs,n,_,hx,hl,hxl,hfl⟩:=DataW.trod_struct ht hf
 injection hx with hd _
 subst hd;obtain⟨y,hK,hg⟩:=h H enc W base spare held n cs xs (by rw[hl,hc];omega) (by simpa using hxl) (fun i g hi=>hfl i g (by simpa using hi)) (fun k hk=>hw k (by simp only[DataW.weights,ht];exact hk));obtain⟨x,rfl⟩:=alS y;exact⟨x,hK,hg⟩
theorem zG.good {P:Program} {t:TypeId} {α:Type} {d:Kd α} {g g':α→Prop} (h:zG P t d g) (hg:∀x,g x→g' x):zG P t d g':=by
 intro H enc W base spare held fuel cs dd ps h1 h2;obtain⟨x,a,b⟩:=h H enc W base spare held fuel cs dd ps h1 h2;exact⟨x,a,hg x b⟩
theorem zG.arg {P:Program} {t:TypeId} {α:Type} {d:Kd α} {good:List α→Prop} {q:Nat} (h:zG P t (Kd.slice q d) good) {H:Type} {enc:TypeId × Value→H} {W:World} {base:Nat} {spare:Nat→Bool} {held:Bool} {A:Option Addr} {len cap:Nat} {dd:DataW H} {ps:List MemPlace}
  (hT:DataW.Trod enc P W base spare held t (.slice A len cap) dd ps) (hw:∀n∈dd.weights P t,n≤reachBytes):∃l,len=l.length∧len≤cap∧d.C W A len l∧good l:=by
 obtain⟨fuel,hf⟩:=hT;obtain⟨l,⟨A',c',he,hl,hC⟩,hg⟩:=h H enc W base spare held fuel _ _ _ hf hw;simp[Value.cells] at he;obtain⟨rfl,rfl,rfl⟩:=he;exact⟨l,rfl,hl,hC,hg⟩
end Go.Proofs.YtknihldkhedpkaaGreatDoor
end
section
namespace Go.Proofs.YtknihldkhedpkaaGreatDoor
open Go.RowKit Go.ChangeMaps Go.MapKept Go.Maps Go.WideAt
open Go.WideElems (Fit rd rg pl findIdx_born findIdx_arr modify_last set_self)
def adR (v:Value):Option (DataW Value × List MemPlace):=some (.held v,[])
def mq (P:Program) (k:TypeId) (w:World) (b n:Nat) (F:Lit→Option Value):Prop :=
 ∃D:DataW Value,w.ownsMap P k adR b n D∧∀kl z,D.atKey kl z=((F kl).map DataW.held).getD z
section
variable {P : Program} {k e t : TypeId} {w : World} {b n : Nat} {F : Lit → Option Value}
theorem mq.made (w:World) (P:Program) (k:TypeId):mq P k (w.alloc (.map #[] 0)) w.heap.size 0 (fun _=>none) :=
 ⟨_,World.ownsMap_made w P k adR,fun kl z=>by simp[DataW.atKey]⟩
theorem mq.lt (h:mq P k w b n F):b<w.heap.size:=by
 obtain⟨D,hown,_⟩:=h;exact hown.lt
theorem mq.same {w1:World} (h:mq P k w b n F) (hb:w1.heap[b]?=w.heap[b]?):mq P k w1 b n F:=by
 obtain⟨D,⟨es,clock,h1,h2,h3,h4⟩,hat⟩:=h;exact⟨D,⟨es,clock,hb.trans h1,h2,h3,h4⟩,hat⟩
theorem mq.mono {m:Nat} (h:mq P k w b n F) (hn:n≤m):mq P k w b m F:=by
 obtain⟨D,hown,hat⟩:=h;exact⟨D,hown.mono hn,hat⟩
theorem mq.below {w1:World} (h:mq P k w b n F) (hb:Below w.heap.size w w1):mq P k w1 b n F :=
 h.same (hb.block b h.lt)
theorem mq.look (h:mq P k w b n F) (K:Keyed P k) (ht:P.underlying t=some (.map k e)) {z:Value} (hz:(zeroValue e).run P w=.ok z w) {key:Value} {kl:Lit} (hkey:keyOf P k key=some kl) :
  (Instr.lookup t (.map (some b)) key true).run P w=.ok (.tuple #[(F kl).getD z,.bool (F kl).isSome]) w:=by
 obtain⟨D,⟨es,clock,hb,Ft,_,rfl⟩,hat⟩:=h
 rcases Maps.fit_look true K ht hz hb Ft hkey with⟨hrun,_,ha⟩|⟨e0,y,_,_,hrun,hRv,ha,_⟩
 ·have h1:=(hat kl DataW.nil).symm.trans (ha _)
  cases hF:F kl with
  | none=>exact hrun
  | some v=>rw[hF] at h1;cases h1
 have h1:=(hat kl DataW.nil).symm.trans (ha _);unfold adR at hRv;obtain rfl:=Option.some.inj hRv
 cases hF:F kl with
 | none=>rw[hF] at h1;cases h1
 | some v=>
  rw[hF] at h1;obtain rfl:=DataW.held.inj h1;exact hrun
theorem mq.update (h:mq P k w b n F) (K:Keyed P k) (ht:P.underlying t=some (.map k e)) (hn:n<maxLen) {key:Value} (val:Value) {kl:Lit} (hkey:keyOf P k key=some kl) :
  ∃w',(Instr.mapUpdate t (.map (some b)) key val).run P w=.ok () w'∧(∀F':Lit→Option Value,F' kl=some val→(∀q,q≠kl→F' q=F q)→mq P k w' b (n+1) F')∧w.grownBy w' (some b):=by
 obtain⟨D,hown,hat⟩:=h;obtain⟨w',hrun,r1,r2⟩:=hown.update (val:=val) (d:=.held val) (ps:=[]) K ht hn hkey rfl;refine⟨w',hrun,fun F' h1 h2=>⟨_,r1,fun q z=>?_⟩,r2⟩
 have hD:IsMap D:=by
  obtain⟨es,clock,_,_,_,hD⟩:=hown;exact⟨_,hD⟩
 by_cases e:q=kl
 ·subst e;rw[atKey_put_same hD (K.key hkey),h1];rfl
 rw[atKey_put_other e,hat,h2 q e]
theorem OT {R:Value→Option (DataW Value × List MemPlace)} {es:Array MapEntry} {clock:Nat} (K:Keyed P k) (ht:P.underlying t=some (.map k e)) {z:Value} (hz:∀u:World,(zeroValue e).run P u=.ok z u) (hb:w.heap[b]?=some (.map es clock)) (Ft:Fit P k R es clock)
  {key:Value} {kl:Lit} (hkey:keyOf P k key=some kl) (val:Value) :
  ∃(v0:Value) (st:Nat) (es1:Array MapEntry) (clock1:Nat) (es2:Array MapEntry) (clock2:Nat),(Instr.mapEntry t (.map (some b)) key).run P w=.ok (.tuple #[v0,goInt st]) (setBlock w b (.map es1 clock1)) ∧
   (∀w2:World,w2.heap[b]?=some (.map es1 clock1)→(Instr.entryStore t (.map (some b)) (goInt st) val).run P w2=.ok () (setBlock w2 b (.map es2 clock2)))∧(Instr.mapUpdate t (.map (some b)) key val).run P w=.ok () (setBlock w b (.map es2 clock2)):=by
 obtain⟨s1,s2,_⟩:=Ft.stamped
 rcases K.find w hkey es.toList Ft.keys with⟨h1,h2⟩|⟨j,e0,h1,h2,h3⟩
 ·refine⟨z,clock,es.push ⟨key,z,clock⟩,clock+1,es.push ⟨key,val,clock⟩,clock+1,?_,fun w2 hw2=>?_,?_⟩
  ·simp[Instr.mapEntry,run_underlying ht,MapKept.run_getObj_map hb,K.check w false hkey,h1,hz,MapKept.run_setObj_map _ hb,Result.andThen,setBlock]
  ·have hidx:(es.push ⟨key,z,clock⟩).findIdx? (fun e=>((e.born:Nat):Int) == ((clock:Nat):Int))=some es.size:=by
    rw[findIdx_arr];refine findIdx_born (l:=(es.push ⟨key,z,clock⟩).toList) (j:=es.size) (e0:=⟨key,z,clock⟩) ?_ bB;rw[Array.toList_push,List.map_append];refine List.nodup_append.2 ⟨s2,by simp,fun a ha c hc e1=>?_⟩;obtain⟨x,hx,rfl⟩:=List.mem_map.1 ha;have h5:=s1 x hx
    have h6:c=clock:=by simpa using hc
    omega
   have hmod:(es.push ⟨key,z,clock⟩).modify es.size (fun e=>{ e with val:=val })=es.push ⟨key,val,clock⟩:=by
    apply Array.ext';rw[Array.toList_modify,Array.toList_push,Array.toList_push,← Array.length_toList,modify_last]
   simp[Instr.entryStore,MapKept.run_getObj_map hw2,asInt,asIntOf,goInt,hidx,hmod,MapKept.run_setObj_map _ hw2,Result.andThen,setBlock]
  simp[Instr.mapUpdate,run_underlying ht,MapKept.run_getObj_map hb,K.check w false hkey,h1,MapKept.run_setObj_map _ hb,Result.andThen,setBlock]
 have hj:es[j]?=some e0:=by simpa using h2
 have hsame:es.modify j (fun e=>{ e with key:=key })=es:=by
  apply Array.ext';rw[Array.toList_modify,modify_eq_set _ _ _ _ h2,show ({ e0 with key:=key }:MapEntry)=e0 by rw[← h3]];exact set_self _ _ _ h2
 refine⟨e0.val,e0.born,es,clock,es.modify j (fun e'=>{ e' with key:=key,val:=val }),clock,?_,fun w2 hw2=>?_,?_⟩
 ·simp[Instr.mapEntry,run_underlying ht,MapKept.run_getObj_map hb,K.check w false hkey,h1,hj,h3,K.stays w hkey,hsame,MapKept.run_setObj_map _ hb,Result.andThen,setBlock]
 ·have hidx:es.findIdx? (fun e=>((e.born:Nat):Int) == ((e0.born:Nat):Int))=some j:=by
   rw[findIdx_arr];exact findIdx_born s2 h2
  have hmod:es.modify j (fun e=>{ e with val:=val })=es.modify j (fun e'=>{ e' with key:=key,val:=val }):=by
   apply Array.ext';rw[Array.toList_modify,Array.toList_modify,modify_eq_set _ _ _ _ h2,modify_eq_set _ _ _ _ h2,← h3]
  simp[Instr.entryStore,MapKept.run_getObj_map hw2,asInt,asIntOf,goInt,hidx,hmod,MapKept.run_setObj_map _ hw2,Result.andThen,setBlock]
 simp[Instr.mapUpdate,run_underlying ht,MapKept.run_getObj_map hb,K.check w false hkey,h1,hj,h3,K.stays w hkey,MapKept.run_setObj_map _ hb,Result.andThen,setBlock]
theorem mq.entry (h:mq P k w b n F) (K:Keyed P k) (ht:P.underlying t=some (.map k e)) {z:Value} (hz:∀u:World,(zeroValue e).run P u=.ok z u) (hn:n<maxLen) {key:Value} (val:Value) {kl:Lit} (hkey:keyOf P k key=some kl) :
  ∃(v0:Value) (st:Nat) (w1 w2:World),(Instr.mapEntry t (.map (some b)) key).run P w=.ok (.tuple #[v0,goInt st]) w1∧(Instr.entryStore t (.map (some b)) (goInt st) val).run P w1=.ok () w2 ∧
   (∀F':Lit→Option Value,F' kl=some val→(∀q,q≠kl→F' q=F q)→mq P k w2 b (n+1) F')∧w.grownBy w1 (some b)∧w.grownBy w2 (some b):=by
 obtain⟨w2,hrun,hv,hg⟩:=h.update K ht hn val hkey;obtain⟨D,⟨es,clock,hb,Ft,hs,hD⟩,hat⟩:=h;obtain⟨v0,st,es1,clock1,es2,clock2,h1,h3,h4⟩:=OT K ht hz hb Ft hkey val
 have he:w2=setBlock w b (.map es2 clock2):=by
  rw[hrun] at h4;injection h4
 have hg1:w.grownBy (setBlock w b (.map es1 clock1)) (some b):=⟨rfl,rfl,rfl,by simp[setBlock],fun i _ hi=>heap_setBlock_other hb _ (fun e=>hi (by rw[e]))⟩
 refine⟨v0,st,_,w2,h1,?_,hv,hg1,hg⟩;rw[h3 _ (heap_setBlock_same hb _),he]
 congr 1
 simp[setBlock]
end
end Go.Proofs.YtknihldkhedpkaaGreatDoor
end
section
namespace Go.Proofs.YtknihldkhedpkaaGreatDoor
open Go.RowKit Go.Maps Go.WideAt
open Go.Proofs.YtknihldkhedpkaaGreatDoorW.PrintWords Go.Proofs.YtknihldkhedpkaaGreatDoorW.PrintLast Go.Proofs.YtknihldkhedpkaaGreatDoor.PT
abbrev Rn:=dh
def jI (r:Rn):List Int:=(List.range (r.f1 - r.f0).toNat).map fun k:Nat=>r.f0+(k:Int)
def idxs (l:List Rn):List Int:=l.flatMap jI
def iQ:List Int→Nat→Int→Option Nat
 | [],_,_=>none
 | x::l,n,i=>match iQ l (n+1) i with
  | some k=>some k
  | none=>if x=i then some n else none
theorem wW (l:List Int) (x i:Int):∀n,iQ (l++[x]) n i=if x=i then some (n+l.length) else iQ l n i:=by
 induction l with
 | nil=>intro n;simp[iQ]
 | cons y l ih=>
  intro n
  show (match iQ (l++[x]) (n+1) i with|some k=>some k|none=>if y=i then some n else none)=_
  rw[ih];by_cases e:x=i
  ·rw[if_pos e,if_pos e];simp only[List.length_cons]
   congr 1
   omega
  rw[if_neg e,if_neg e];rfl
def CZ (A:Option Addr) (l:List Int):Lit→Option Value
 | .int .i64 i=>(iQ l 0 i).map fun k=>.slice (A.map (·.add (512*k))) 512 512
 | _=>none
theorem agS:Keyed Tryz.prog 3:=int_keyed Tryz.underlying3
theorem acJ:∀w:World,(zeroValue 27).run Tryz.prog w=.ok (.slice none 0 0) w:=fun w=>by kernel_rfl
theorem C8 {l:List Rn} {i:Nat} (h:i<l.length):idxs (l.take (i+1))=idxs (l.take i)++jI l[i]:=by
 unfold idxs;rw[List.take_add_one,List.flatMap_append,List.getElem?_eq_getElem h];simp
theorem OU (A0:Option Addr) (c0:Nat) (l0:List Rn) (A1:Option Addr) (n1 c1:Nat) (w:World)
  (hr0:Kd.C dw w A0 l0.length l0) (hc0:l0.length≤c0) (hl:l0.length≤140737488351232) (hn:n1=512*(idxs l0).length) (hc1:n1≤c1) (hb:∀r∈l0,0≤r.f0∧r.f0≤r.f1∧r.f1≤140737488351232) (hz:(idxs l0).length≤140737488351232) :
  Calls Tryz.prog 90 #[.slice A0 l0.length c0,.slice A1 n1 c1] w fun e w'=>e=.returned (.map (some w.heap.size))∧mq Tryz.prog 3 w' w.heap.size (idxs l0).length (CZ A1 (idxs l0))∧Below w.heap.size w w':=by
 have hmm:=@run_makeMap Tryz.prog
 go_enter Tryz.func90,Tryz.ntmps90
 go_wp2_with fail
 have HB0:=ah.mk ((Below.refl w.heap.size w).alloc (Nat.le_refl _) (.map #[] 0))
 have HM0:ah (mq Tryz.prog 3 (w.alloc (.map #[] 0)) w.heap.size 0 (CZ A1 (idxs (l0.take 0)))):=⟨by
  obtain⟨D,h1,h2⟩:=mq.made w Tryz.prog 3
  exact⟨D,h1,fun kl z=>by rw[h2];cases kl <;> first|rfl|(rename_i k n;cases k <;> rfl)⟩⟩
 clear hmm;have nC:=ah.mk hr0;have HN:=ah.mk hn;have HBR:=ah.mk hb;clear hr0 hn hb
 go_loopg [1,12] l0.length (fun g s1 s12 wx=>∃(i:Nat) (a:Option Addr),i+g=l0.length∧s12=.int .i64 i∧s1=.slice a (n1 - 512*(idxs (l0.take i)).length) (c1 - 512*(idxs (l0.take i)).length)∧ah (512*(idxs (l0.take i)).length<c1→a=A1.map (·.add (512*(idxs (l0.take i)).length)))∧ah (mq Tryz.prog 3 wx w.heap.size (idxs (l0.take i)).length (CZ A1 (idxs (l0.take i))))∧ah (Below w.heap.size w wx))
 case atStart=>exact⟨0,A1,by omega,rfl,rfl,⟨fun _=>by cases A1 <;> rfl⟩,HM0,HB0⟩
 case round=>
  obtain⟨i,a,hig,rfl,rfl,HA,HM,HB⟩:=hrel;clear HM0 HB0;by_cases hi:i<l0.length
  ·obtain⟨ad,hA,r0,r1⟩:=dQ (Kd.aC nC.out HB.out) (i:Int) aj aj
   have hrd:aQ l0 (i:Int)=l0[i]:=by simp[aQ,hi]
   rw[hrd] at r0 r1;rw[Int.toNat_natCast] at r0 r1;subst hA
   go_wp2_with fail
   obtain⟨wo,rfl⟩:∃wo,wo=wr:=⟨_,rfl⟩
   obtain⟨go,rfl⟩:∃go,go=gk:=⟨_,rfl⟩
   obtain⟨q,hq⟩:∃q,l0[i]=q:=⟨_,rfl⟩
   have hqb:=HBR.out _ (List.getElem_mem hi);have hidx:=C8 hi;rw[hq] at hqb hidx r0 r1 ⊢
   obtain⟨N,hN⟩:∃N,(idxs (l0.take i)).length=N:=⟨_,rfl⟩
   have hN1:(idxs (l0.take (i+1))).length=N+(q.f1 - q.f0).toNat:=by rw[hidx,List.length_append,hN];simp[jI]
   have hN2:(idxs (l0.take (i+1))).length≤(idxs l0).length:=by
    have h:=congrArg List.length (show idxs (l0.take (i+1))++idxs (l0.drop (i+1))=idxs l0 by unfold idxs;rw[← List.flatMap_append,List.take_append_drop]);rw[List.length_append] at h;omega
   rw[hN] at HA HM ⊢;have hz:=(Below.refl wo.heap.size wo).alloc (Nat.le_refl _) (.cells #[.int .i64 q.f0,.int .i64 q.f1] 117);have hbk:=bF wo (.cells #[.int .i64 q.f0,.int .i64 q.f1] 117)
   have xX:ah (mq Tryz.prog 3 (wo.alloc (.cells #[.int .i64 q.f0,.int .i64 q.f1] 117)) w.heap.size (N+0) (CZ A1 (idxs (l0.take i)++(jI q).take 0))):=⟨by rw[List.take_zero,List.append_nil];exact HM.out.below hz⟩
   have HB1:=ah.mk (HB.out.trans (hz.mono HB.out.size));have HBK:=ah.mk hbk;have hsz:=HB.out.size;have EB:=ah.mk hN1;have HIX:=ah.mk hidx
   have hNM:N+(q.f1 - q.f0).toNat≤140737488351232:=by omega
   have hlt:=HM.out.lt
   have hmm:512*(N+(q.f1 - q.f0).toNat)≤n1:=by have:=HN.out;omega
   clear hz hbk hrd r0 r1 HM hq hidx hN1 hN2
   go_loopg [1,8] (q.f1 - q.f0).toNat (fun g s1 s8 wx=>∃(j:Nat) (a2:Option Addr),j+g=(q.f1 - q.f0).toNat∧s8=.int .i64 (q.f0+j)∧s1=.slice a2 (n1 - 512*(N+j)) (c1 - 512*(N+j))∧ah (512*(N+j)<c1→a2=A1.map (·.add (512*(N+j))))∧ah (mq Tryz.prog 3 wx w.heap.size (N+j) (CZ A1 (idxs (l0.take i)++(jI q).take j)))∧ah (Below w.heap.size w wx)∧ah (wx.heap[wo.heap.size]?=some (.cells #[.int .i64 q.f0,.int .i64 q.f1] 117 (0,0))))
   case atStart=>exact⟨0,a,by omega,by simp,by simp,HA,xX,HB1,HBK⟩
   case round=>
    obtain⟨j,a2,hjg,rfl,rfl,HA2,EZ,HB2,adU⟩:=hrel;clear xX HB1 HBK HA;have z1:wr.cell? ⟨wo.heap.size,0,none⟩=some (.int .i64 q.f0):=ak adU.out 0;have z2:wr.cell? ⟨wo.heap.size,1,none⟩=some (.int .i64 q.f1):=ak adU.out 1;by_cases hj:j<(q.f1 - q.f0).toNat
    ·have d1:decide (q.f0+(j:Int)<q.f1)=true:=decide_eq_true aj
     have hcap:512*(N+j)+512≤n1:=by omega
     obtain⟨nA,Wi⟩:∃nA,n1 - 512*(N+j)=nA:=⟨_,rfl⟩
     obtain⟨cA,hcA⟩:∃cA,c1 - 512*(N+j)=cA:=⟨_,rfl⟩
     have e1:(512:Int)≤(nA:Int):=by omega
     have e2:(512:Int)≤(cA:Int):=by omega
     rw[Wi,hcA];have HNA:=ah.mk Wi;have HCA:=ah.mk hcA;have hkey:keyOf Tryz.prog 3 (.int .i64 (q.f0+(j:Int)))=some (.int .i64 (q.f0+(j:Int))):=keyOf_int_mk Tryz.underlying3 (WalkArith.wf_i64 ⟨by omega,by omega⟩);obtain⟨v0,st,w1,w2,he1,he2,hv,hg1,hg2⟩:=(EZ.out.same (w1:=wr.drew) rfl).entry agS Tryz.underlying133 acJ (by unfold maxLen;omega) (.slice a2 512 512) hkey;have Mg:=ah.mk he1;have HE2:=ah.mk he2;have HV:=ah.mk hv;have HG2:=ah.mk hg2;clear he1 he2 hv hg1 hg2 hkey Wi hcA hcap
     go_wp2_with fail
     refine jJ (n:=10) (S:=fun _=>True) (ds:=[]) (aM 10 0) aD rfl rfl trivial (fun hHeld=>?_);refine bA 0 24 (aM 10 1) ?_;refine bA 1 25 (aM 10 3) ?_;refine bA 2 26 (aM 10 7) ?_;refine bA 3 27 (aM 10 15) ?_;refine bA 4 28 (aM 10 31) ?_;refine bA 5 29 (aM 10 63) ?_;refine mD 6 (some 30) (aM 10 127) (fun K hK=>?_);refine pW (v:=.tuple #[v0,goInt st]) (w1:=w1) (by rfl) rfl ?_ ?_
     ·have hr:=Mg.out;simp only[goInt] at hr;simp[execOp,go_sem,hr,Result.andThen]
     refine hK.out _ _ trivial (fun hHeld=>?_);clear hK K;refine fH 30 ?_;refine bA 7 31 (aM 10 255) ?_;refine mD 8 none (aM 10 511) (fun K hK=>?_);refine rG (w1:=w2) (by rfl) rfl ?_ ?_
     ·have hr:=HE2.out;simp only[goInt] at hr;simp[execOp,go_sem,hr,Result.andThen]
     refine hK.out _ _ trivial (fun hHeld=>?_);clear hK K;refine bA 9 1 (aM 10 1023) ?_;refine jK aD ?_
     obtain⟨a3,Sl⟩:∃a3,(if cA=512 then a2 else Option.map (fun x=>(⟨x.block,x.off+512,none⟩:Addr)) a2)=a3:=⟨_,rfl⟩
     rw[Sl];have HA3:=ah.mk Sl;clear Sl;have hsz2:=HB2.out.size
     have hwp:IntKind.i64.wrap (q.f0+(j:Int)+1)=q.f0+(j:Int)+1:=by rw[IntKind.wrap_i64];omega
     go_wp2_with fail
     go_roundg ((q.f1 - q.f0).toNat - (j+1))
     case measure=>omega
     case rel=>
      have Wi:=HNA.out;have hcA:=HCA.out
      have hjl:(jI q).take (j+1)=(jI q).take j++[q.f0+(j:Int)]:=by
       rw[List.take_add_one]
       congr 1
       unfold jI;rw[List.getElem?_map,List.getElem?_range hj];rfl
      have hln:(idxs (l0.take i)++(jI q).take j).length=N+j:=by
       rw[List.length_append,hN,List.length_take];unfold jI;rw[List.length_map,List.length_range];omega
      refine⟨j+1,a3,by omega,by push_cast;congr 1;omega,by rw[show n1 - 512*(N+(j+1))=nA - 512 by omega,show c1 - 512*(N+(j+1))=cA - 512 by omega],⟨fun h=>?_⟩,⟨?_⟩,⟨?_⟩,⟨?_⟩⟩
      ·rw[← HA3.out,if_neg aj,HA2.out aj]
       cases A1 with
       | none=>rfl
       | some x=>
        simp[Addr.add,Nat.mul_add,Nat.add_assoc];split
        ·exact⟨rfl,by omega⟩
        exact⟨rfl,by simp only[];omega⟩
      ·have:=HV.out (CZ A1 (idxs (l0.take i)++(jI q).take (j+1))) ?_ ?_
       ·exact this
       ·rw[hjl,← List.append_assoc];unfold CZ;dsimp only;rw[wW,if_pos rfl,hln,HA2.out aj];simp
       intro y hy;rw[hjl,← List.append_assoc];unfold CZ
       cases y with
       | int k n=>
        cases k <;> first|rfl|(dsimp only;rw[wW,if_neg (fun e=>hy (by rw[e]))])
       | _=>rfl
      ·exact (HB2.out.trans ((bf (Below.refl _ _)).mono hsz2)).grown HG2.out hsz2 (fun k e=>by cases e;omega)
      exact kM (show wr.drew.heap[wo.heap.size]?=_ from adU.out) HG2.out (by simp;omega)
    have d1:decide (q.f0+(j:Int)<q.f1)=false:=decide_eq_false aj
    have hje:j=(q.f1 - q.f0).toNat:=by omega
    go_wp2_with fail
    go_roundg (go - 1)
    case measure=>omega
    case rel=>
     subst hje;refine⟨i+1,a2,by omega,by simp,?_,?_,?_,HB2⟩
     ·rw[EB.out]
     ·rw[EB.out];exact HA2
     rw[EB.out,HIX.out];have:=EZ.out;rw[show (jI q).take (q.f1 - q.f0).toNat=jI q from List.take_of_length_le (by unfold jI;rw[List.length_map,List.length_range];omega)] at this;exact⟨this⟩
  obtain rfl:i=l0.length:=by omega
  have hm:=HM.out;rw[List.take_length] at hm;have xX:=ah.mk hm;clear HM hm
  go_wp2_with fail
  go_ret
  exact⟨by simp,xX.out,HB.out⟩
end Go.Proofs.YtknihldkhedpkaaGreatDoor
end
section
namespace Go.Proofs.YtknihldkhedpkaaGreatDoor
open Go.RowKit
open Go.Proofs.YtknihldkhedpkaaGreatDoorW.PrintWords Go.Proofs.YtknihldkhedpkaaGreatDoorW.PrintLast Go.Proofs.YtknihldkhedpkaaGreatDoor.PT
abbrev VU:=kV
abbrev Ch:=VT
def iX (d:List Int) (k:Nat):List Int:=(d.drop (512*k)).take 512
def qj (l:List Rn) (i:Int):List Rn :=
 match l.getLast? with
 | some r=>if r.f1=i then l.dropLast++[⟨r.f0,r.f1+1⟩] else l++[⟨i,i+1⟩]
 | none=>[⟨i,i+1⟩]
def newAt (old goal:VU) (k:Nat) (i:Int):Bool :=
 match iQ (idxs old.f4) 0 i with
 | none=>true
 | some j=>decide (iX old.f5 j≠iX goal.f5 k)
def jv (old goal:VU):List Int→Nat→List Rn × List Int→List Rn × List Int
 | [],_,s=>s
 | i::l,k,s=>jv old goal l (k+1) (if newAt old goal k i=true then (qj s.1 i,s.2++iX goal.f5 k) else s)
def uh (old goal:VU):Ch :=
 ⟨3,⟨1,goal.f1,⟨#[]⟩,goal.f3,goal.f4,(jv old goal (idxs goal.f4) 0 ([],[])).2⟩,(jv old goal (idxs goal.f4) 0 ([],[])).1⟩
theorem D8 (old goal:VU) (l:List Int) (i:Int):∀(k:Nat) (s:List Rn × List Int),jv old goal (l++[i]) k s =
  (if newAt old goal (k+l.length) i=true then (qj (jv old goal l k s).1 i,(jv old goal l k s).2++iX goal.f5 (k+l.length)) else jv old goal l k s):=by
 induction l with
 | nil=>intro k s;rfl
 | cons x l ih=>
  intro k s
  show jv old goal (l++[i]) (k+1) _=_
  rw[ih];rw[show k+1+l.length=k+(x::l).length by simp only[List.length_cons];omega];rfl
theorem gW {d:List Int} {k:Nat} (h:512*(k+1)≤d.length):(iX d k).length=512:=by
 unfold iX;rw[List.length_take,List.length_drop];omega
theorem Kn (l:List Rn) (i:Int):(qj l i).length≤l.length+1:=by
 unfold qj;split
 ·split
  ·simp only[List.length_append,List.length_dropLast,List.length_cons,List.length_nil];omega
  simp
 simp
theorem qh (old goal:VU):∀(l:List Int) (k:Nat) (s:List Rn × List Int),(jv old goal l k s).1.length≤s.1.length+l.length∧(jv old goal l k s).2.length≤s.2.length+512*l.length
 | [],_,s=>⟨Nat.le_refl _,Nat.le_refl _⟩
 | i::l,k,s=>by
  have ih:=qh old goal l (k+1) (if newAt old goal k i=true then (qj s.1 i,s.2++iX goal.f5 k) else s)
  have hs:(if newAt old goal k i=true then (qj s.1 i,s.2++iX goal.f5 k) else s).1.length≤s.1.length+1∧(if newAt old goal k i=true then (qj s.1 i,s.2++iX goal.f5 k) else s).2.length≤s.2.length+512:=by
   split
   ·have h1:=Kn s.1 i;refine⟨h1,?_⟩;rw[List.length_append]
    have:(iX goal.f5 k).length≤512:=by unfold iX;rw[List.length_take];omega
    omega
   exact⟨by omega,by omega⟩
  show (jv old goal l (k+1) _).1.length≤_∧(jv old goal l (k+1) _).2.length≤_
  simp only[List.length_cons];omega
end Go.Proofs.YtknihldkhedpkaaGreatDoor
end
