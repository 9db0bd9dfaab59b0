import Derived.Test.YtknihldkhedpkaaGreatDoorYYG11
import Derived.Test.YtknihldkhedpkaaGreatDoorYYG10
import Derived.WalkLawsBesides
import Derived.Lib.EndianBits
set_option linter.all false
set_option maxHeartbeats 16000000
set_option maxRecDepth 100000
section
namespace Go.Proofs.YtknihldkhedpkaaGreatDoor
open Go.RowKit Go.Maps Go.WideAt
open Go.Proofs.YtknihldkhedpkaaGreatDoorW.PrintWords Go.Proofs.YtknihldkhedpkaaGreatDoorW.PrintLast Go.Proofs.YtknihldkhedpkaaGreatDoor.PT
structure Ui (c:Ch):Prop where
 b:∀n∈c.f1.f5,0≤n∧n≤255
 n:c.f1.f5.length=512*(idxs c.f2).length
 r:∀r∈c.f2,0≤r.f0∧r.f0≤r.f1∧r.f1≤16522
 l:c.f2.length≤16523
 i:(idxs c.f2).length≤16523
 r4:∀r∈c.f1.f4,0≤r.f0∧r.f0≤r.f1∧r.f1≤16522
 l4:c.f1.f4.length≤16523
 i4:(idxs c.f1.f4).length≤16523
abbrev abe:Ending:=.panicked [{ v:=.iface 160 (.agg #[]),recovered:=false }]
theorem uU (old:DF) (c:Ch):∀(a b:List Int),cZ old c (a++b)=(cZ old c a).bind fun d=>(cZ old c b).map (d ++ ·)
 | [],b=>by
  show cZ old c b=(cZ old c b).map ([] ++ ·)
  cases cZ old c b <;> rfl
 | i::a,b=>by
  rw[List.cons_append,cZ,cZ,uU old c a b]
  cases jY c.f2 c.f1.f5 i with
  | some x=>
   dsimp only
   cases cZ old c a with
   | none=>rfl
   | some d=>
    cases cZ old c b with
    | none=>rfl
    | some e=>simp
  | none=>
   dsimp only
   cases jY old.f4 old.f5 i with
   | none=>rfl
   | some x=>
    dsimp only
    cases cZ old c a with
    | none=>rfl
    | some d=>
     cases cZ old c b with
     | none=>rfl
     | some e=>simp
theorem JM (old:DF) (c:Ch) (a:List Int) (i:Int) (d:List Int) (h:cZ old c a=some d):cZ old c (a++[i])=match jY c.f2 c.f1.f5 i with
  | some b=>some (d++b)
  | none=>match jY old.f4 old.f5 i with
   | some b=>some (d++b)
   | none=>none:=by
 rw[uU,h]
 show ((cZ old c [i]).map (d ++ ·))=_
 rw[cZ]
 cases jY c.f2 c.f1.f5 i with
 | some x=>show (((cZ old c []).map (x ++ ·)).map (d ++ ·))=_;simp[cZ]
 | none=>
  dsimp only
  cases jY old.f4 old.f5 i with
  | none=>rfl
  | some x=>show (((cZ old c []).map (x ++ ·)).map (d ++ ·))=_;simp[cZ]
theorem Ht (old:DF) (c:Ch) (a b:List Int) (h:cZ old c a=none):cZ old c (a++b)=none:=by rw[uU,h];rfl
theorem Uj (d:List Int) (k:Nat):(dI d k).length≤512:=by unfold dI;rw[List.length_take];omega
theorem Lx {rows:List Rn} {d:List Int} {i:Int} {b:List Int} (h:jY rows d i=some b):b.length≤512:=by
 unfold jY at h
 cases hl:iZ (idxs rows) 0 i with
 | none=>rw[hl] at h;cases h
 | some k=>
  rw[hl] at h;obtain rfl:=Option.some.inj h;exact Uj _ _
theorem wD (old:DF) (c:Ch):∀(l d:List Int),cZ old c l=some d→d.length≤512*l.length
 | [],d,h=>by
  obtain rfl:=Option.some.inj h;simp
 | i::l,d,h=>by
  rw[cZ] at h
  have key:∀b:List Int,b.length≤512→(cZ old c l).map (b ++ ·)=some d→d.length≤512*(i::l).length:=fun b hb hm=>by
   cases he:cZ old c l with
   | none=>rw[he] at hm;cases hm
   | some e=>
    rw[he] at hm;obtain rfl:=Option.some.inj hm;have:=wD old c l e he;simp only[List.length_append,List.length_cons];omega
  cases h1:jY c.f2 c.f1.f5 i with
  | some b=>
   rw[h1] at h;exact key b (Lx h1) h
  | none=>
   rw[h1] at h;dsimp only at h
   cases h2:jY old.f4 old.f5 i with
   | some b=>
    rw[h2] at h;exact key b (Lx h2) h
   | none=>rw[h2] at h;cases h
theorem Uk {l:List Rn} {i j:Nat} (h:i<l.length):∃r,idxs l=(idxs (l.take i)++(iJ l[i]).take j)++r:=by
 refine⟨(iJ l[i]).drop j++idxs (l.drop (i+1)),?_⟩
 have e:idxs l=idxs (l.take (i+1))++idxs (l.drop (i+1)):=by unfold idxs;rw[← List.flatMap_append,List.take_append_drop]
 rw[e,xw h,List.append_assoc,List.append_assoc,← List.append_assoc ((iJ l[i]).take j),List.take_append_drop]
structure NJ (w:World) (m5 n5:Nat) (F5:Lit→Option Value) (m6 n6:Nat) (F6:Lit→Option Value) (p:Nat) (path:ByteArray) (sz:Int) (v4:Value) (rows:List Rn) (rb:Nat) (rcs:Array Value) (rt:TypeId) (v5:Value) (d:List Int) (wx:World):Prop where
 low:Below w.heap.size w wx
 mp5:j6 Tryz.prog 3 wx m5 n5 F5
 mp6:j6 Tryz.prog 3 wx m6 n6 F6
 box:wx.heap[p]?=some (.cells #[.int .i64 1,.string path,.string ⟨#[]⟩,.int .i64 sz,v4,v5] 29 (0,0))
 res:wx.heap[w.heap.size+1]?=some (.cells #[.int .i64 0,.string ⟨#[]⟩,.string ⟨#[]⟩,.int .i64 0,.slice none 0 0,.slice none 0 0] 29 (0,0))
 TN:wx.heap[rb]?=some (.cells rcs rt (0,0))
 runs:Kd.R cO 117 wx w.heap.size (fun _=>True) v4 rows
 data:Kd.R (Kd.int .u8) 5 wx w.heap.size (fun _=>True) v5 d
 hp:w.heap.size+1<p
 hr:rb≠p∧rt≠5
section
variable {w : World} {m5 n5 : Nat} {F5 : Lit → Option Value} {m6 n6 : Nat} {F6 : Lit → Option Value} {p : Nat} {path : ByteArray} {sz : Int} {v4 : Value} {rows : List Rn} {rb : Nat} {rcs : Array Value} {rt : TypeId} {v5 : Value} {d : List Int} {wx : World}
theorem NJ.below {w1:World} (h:NJ w m5 n5 F5 m6 n6 F6 p path sz v4 rows rb rcs rt v5 d wx) (hb:Below wx.heap.size wx w1):NJ w m5 n5 F5 m6 n6 F6 p path sz v4 rows rb rcs rt v5 d w1 :=
 ⟨h.low.trans (hb.mono h.low.size),h.mp5.below hb,h.mp6.below hb,aD h.box hb,aD h.res hb,aD h.TN hb,Kd.dh h.runs hb,Kd.dh h.data hb,h.hp,h.hr⟩
theorem NJ.Ul (h:NJ w m5 n5 F5 m6 n6 F6 p path sz v4 rows rb rcs rt v5 d wx) (cs:Array Value):NJ w m5 n5 F5 m6 n6 F6 p path sz v4 rows wx.heap.size cs 117 v5 d (wx.alloc (.cells cs 117)):=by
 have h1:=h.below ((Below.refl wx.heap.size wx).alloc (Nat.le_refl _) (.cells cs 117));have hlt:=bD h.box;exact⟨h1.low,h1.mp5,h1.mp6,h1.box,h1.res,bK _ _,h1.runs,h1.data,h1.hp,by omega,by decide⟩
theorem NJ.back (h:NJ w m5 n5 F5 m6 n6 F6 p path sz v4 rows rb rcs rt v5 d wx):NJ w m5 n5 F5 m6 n6 F6 p path sz v4 rows (w.heap.size+1) #[.int .i64 0,.string ⟨#[]⟩,.string ⟨#[]⟩,.int .i64 0,.slice none 0 0,.slice none 0 0] 29 v5 d wx :=
 ⟨h.low,h.mp5,h.mp6,h.box,h.res,h.res,h.runs,h.data,h.hp,by have:=h.hp;omega,by decide⟩
theorem NJ.append {w1:World} {v8:Value} {l:List Int} (h:NJ w m5 n5 F5 m6 n6 F6 p path sz v4 rows rb rcs rt v5 d wx) (hb:Below w.heap.size w w1) (hg:wx.grownBy w1 v5.ownBlock) (hr:Kd.R (Kd.int .u8) 5 w1 w.heap.size (fun _=>True) v8 l) :
  NJ w m5 n5 F5 m6 n6 F6 p path sz v4 rows rb rcs rt v8 l (w1.setCell ⟨p,5,none⟩ v8):=by
 have hoth:∀k (o:Obj),wx.heap[k]?=some o→(∀cs,o≠.cells cs 5 (0,0))→w1.heap[k]?=some o:=fun k o ho hne=>
  (hg.block k (bD ho) (fun e=>by
   obtain⟨cs,hc⟩:=Kd.zK h.data k e.symm;rw[ho] at hc
   exact hne cs (Option.some.inj hc))).trans ho
 have dV:=hoth p _ h.box (fun cs e=>by injection e with _ e;exact absurd e (by decide));have hres:=hoth _ _ h.res (fun cs e=>by injection e with _ e;exact absurd e (by decide));have hrb:=hoth _ _ h.TN (fun cs e=>by injection e with _ e;exact absurd e h.hr.2);have hp:=h.hp
 have hmap:∀{m n:Nat} {F:Lit→Option Value},j6 Tryz.prog 3 wx m n F→j6 Tryz.prog 3 (w1.setCell ⟨p,5,none⟩ v8) m n F:=fun {m n F} hm=>by
  refine hm.others (fun o ho hc=>?_);have h5:=hoth m _ ho (fun cs e=>by rw[e] at hc;cases hc)
  have hne:m≠p:=fun e=>by
   rw[e,dV] at h5;obtain rfl:=Option.some.inj h5;cases hc
  exact (Below.heap_setCell w1 ⟨p,5,none⟩ v8 m hne).trans h5
 refine⟨hb.setCell (by show w.heap.size≤p;omega) _,hmap h.mp5,hmap h.mp6,?_,?_,?_,?_,?_,h.hp,h.hr⟩
 ·exact gM dV 5 v8 (by rfl)
 ·exact gX hres (by show w.heap.size+1≠p;omega) _
 ·exact gX hrb h.hr.1 _
 ·exact Kd.iq (Kd.NZ h.runs h.data (by intro q hq;simp[cO,Kd.Lg,Kd.pair,Kd.int,Kd.scalar] at hq;subst hq;decide) hg) dV (by intro q hq;simp[cO,Kd.Lg,Kd.pair,Kd.int,Kd.scalar] at hq;subst hq;decide) 5 v8
 ·exact Kd.iq hr dV (by intro q hq;simp[Kd.int,Kd.scalar] at hq;subst hq;decide) 5 v8
end
def ad4 (w:World) (o:Option DF) (e:Ending) (w':World):Prop:=Below w.heap.size w w'∧match o with
 | none=>e=abe
 | some y=>∃v4 v5,e=.returned (.agg #[.int .i64 y.f0,.string y.f1,.string y.f2,.int .i64 y.f3,v4,v5])∧Kd.R cO 117 w' w.heap.size (fun _=>True) v4 y.f4∧Kd.R (Kd.int .u8) 5 w' w.heap.size (fun _=>True) v5 y.f5
abbrev Z9 (c:Ch) (C4:Option Addr) (lG:Nat) (C5:Option Addr) (lH:Nat) (C7:Option Addr) (mU:Nat):Value:=.agg #[.int .i64 c.f0,.int .i64 c.f1.f0,.string c.f1.f1,.string c.f1.f2,.int .i64 c.f1.f3,.slice C4 c.f1.f4.length lG,.slice C5 c.f1.f5.length lH,.slice C7 c.f2.length mU]
theorem JN (p:Option Addr) (w:World):(binOp .eql 95 (.pointer p) (.pointer none)).run Tryz.prog w=.ok (.bool p.isNone) w:=run_eql_pointer_nil w _ p (show Tryz.prog.underlying 95=some (.pointer (Tryz.prog.pointee 95)) by kernel_rfl)
theorem N7 (c:Ch) (C4:Option Addr) (lG:Nat) (C5:Option Addr) (lH:Nat) (C7:Option Addr) (mU:Nat) (w:World) :
  Calls Tryz.prog 123 #[.pointer none,Z9 c C4 lG C5 lH C7 mU] w fun e w'=>ad4 w none e w':=by
 have hq1:=JN;have hb:=((Below.refl w.heap.size w).alloc (Nat.le_refl _) (.cells #[.int .i64 c.f0,.int .i64 c.f1.f0,.string c.f1.f1,.string c.f1.f2,.int .i64 c.f1.f3,.slice C4 c.f1.f4.length lG,.slice C5 c.f1.f5.length lH,.slice C7 c.f2.length mU] 31)).alloc (by simp) (.cells #[.int .i64 0,.string ⟨#[]⟩,.string ⟨#[]⟩,.int .i64 0,.slice none 0 0,.slice none 0 0] 29);have HB:=ah.mk hb;clear hb
 go_enter Tryz.func123,Tryz.ntmps123
 go_wp2_with fail
 exact⟨rfl,HB.out,rfl⟩
theorem Ej (x:DF) (ad:Addr) (X4:Option Addr) (Cw:Nat) (X5:Option Addr) (Cx:Nat) (c:Ch) (C4:Option Addr) (lG:Nat) (C5:Option Addr) (lH:Nat) (C7:Option Addr) (mU:Nat) (w:World)
  (hs:vL w ad x X4 Cw X5 Cx) (hx:Lie w x X4 Cw X5 Cx) (fx:x.f0=1→Fits x) (fc:Ui c)
  (l4:c.f1.f4.length≤lG) (g4:Kd.C cO w C4 c.f1.f4.length c.f1.f4) (l5:c.f1.f5.length≤lH) (g5:Kd.C (Kd.int .u8) w C5 c.f1.f5.length c.f1.f5) (l7:c.f2.length≤mU) (g7:Kd.C cO w C7 c.f2.length c.f2) :
  Calls Tryz.prog 123 #[.pointer (some ad),Z9 c C4 lG C5 lH C7 mU] w fun e w'=>ad4 w (qC x c) e w':=by
 obtain⟨o,ho⟩:∃o,qC x c=o:=⟨_,rfl⟩
 rw[ho];unfold qC at ho;have hq1:=JN;have hb2:=((Below.refl w.heap.size w).alloc (Nat.le_refl _) (.cells #[.int .i64 c.f0,.int .i64 c.f1.f0,.string c.f1.f1,.string c.f1.f2,.int .i64 c.f1.f3,.slice C4 c.f1.f4.length lG,.slice C5 c.f1.f5.length lH,.slice C7 c.f2.length mU] 31)).alloc (by simp) (.cells #[.int .i64 0,.string ⟨#[]⟩,.string ⟨#[]⟩,.int .i64 0,.slice none 0 0,.slice none 0 0] 29);have hk0:=aJ (bK w (.cells #[.int .i64 c.f0,.int .i64 c.f1.f0,.string c.f1.f1,.string c.f1.f2,.int .i64 c.f1.f3,.slice C4 c.f1.f4.length lG,.slice C5 c.f1.f5.length lH,.slice C7 c.f2.length mU] 31)) (.cells #[.int .i64 0,.string ⟨#[]⟩,.string ⟨#[]⟩,.int .i64 0,.slice none 0 0,.slice none 0 0] 29);have hk1:((w.alloc (.cells #[.int .i64 c.f0,.int .i64 c.f1.f0,.string c.f1.f1,.string c.f1.f2,.int .i64 c.f1.f3,.slice C4 c.f1.f4.length lG,.slice C5 c.f1.f5.length lH,.slice C7 c.f2.length mU] 31)).alloc (.cells #[.int .i64 0,.string ⟨#[]⟩,.string ⟨#[]⟩,.int .i64 0,.slice none 0 0,.slice none 0 0] 29)).heap[w.heap.size+1]?=some (.cells #[.int .i64 0,.string ⟨#[]⟩,.string ⟨#[]⟩,.int .i64 0,.slice none 0 0,.slice none 0 0] 29 (0,0)):=jW (by simp) _;have HB2:=ah.mk hb2;have Ld:=ah.mk hk0;have jC:=ah.mk hk1;have hs2:=hs.below hb2
 obtain⟨W2,hW2⟩:∃W2,((w.alloc (.cells #[.int .i64 c.f0,.int .i64 c.f1.f0,.string c.f1.f1,.string c.f1.f2,.int .i64 c.f1.f3,.slice C4 c.f1.f4.length lG,.slice C5 c.f1.f5.length lH,.slice C7 c.f2.length mU] 31)).alloc (.cells #[.int .i64 0,.string ⟨#[]⟩,.string ⟨#[]⟩,.int .i64 0,.slice none 0 0,.slice none 0 0] 29))=W2:=⟨_,rfl⟩
 have hsz2:W2.heap.size=w.heap.size+2:=by rw[← hW2];simp
 rw[hW2] at HB2 Ld jC hs2;obtain⟨x0,x1,x2,x3,x4,x5⟩:=hs2;have HW2:=ah.mk hW2;have HG4:=ah.mk g4;have HG5:=ah.mk g5;have WR:=ah.mk g7;have HX:=ah.mk hx;clear hb2 hk0 hk1 hs hx g4 g5 g7 hW2 x1 x2 x3;by_cases h1:x.f0=1
 ·have hb1:(x.f0 != 1)=false:=by rw[h1];rfl
  rw[if_neg (fun h=>h h1)] at ho;have FX:=ah.mk (fx h1);have FC:=ah.mk fc;have HO:=ah.mk ho
  have hsx:=fun (W:World) (hW:Below W2.heap.size W2 W)=>yQ X4 Cw x.f4 X5 x.f5.length Cx W (Kd.aC HX.out.g4 (HB2.out.trans (hW.mono HB2.out.size))) HX.out.l4 (by have:=FX.out.l;omega) FX.out.n HX.out.l5 (fun r hr=>⟨(FX.out.r r hr).1,(FX.out.r r hr).2.1,by have:=(FX.out.r r hr).2.2;omega⟩) (by have:=FX.out.i;omega)
  have hsc:=fun (W:World) (hW:Below W2.heap.size W2 W)=>yQ C7 mU c.f2 C5 c.f1.f5.length lH W (Kd.aC WR.out (HB2.out.trans (hW.mono HB2.out.size))) l7 (by have:=FC.out.l;omega) FC.out.n l5 (fun r hr=>⟨(FC.out.r r hr).1,(FC.out.r r hr).2.1,by have:=(FC.out.r r hr).2.2;omega⟩) (by have:=FC.out.i;omega)
  have hcl:=fun (W:World) (hW:Below W2.heap.size W2 W)=>tJ C4 lG c.f1.f4 W (Kd.aC HG4.out (HB2.out.trans (hW.mono HB2.out.size))) (by have:=FC.out.l4;omega)
  have HSX:=ah.mk hsx;have HSC:=ah.mk hsc;have QB:=ah.mk hcl;have c6:W2.cell? ⟨w.heap.size,6,none⟩=some (.slice C5 c.f1.f5.length lH):=ak Ld.out 6;have c7:W2.cell? ⟨w.heap.size,7,none⟩=some (.slice C7 c.f2.length mU):=ak Ld.out 7;clear fx fc ho h1 hsx hsc hcl;rw[← HW2.out] at x0 x4 x5 c6 c7
  go_enter Tryz.func123,Tryz.ntmps123
  go_wp2_with fail
  rw[HW2.out] at x0 x4 x5 c6 c7 ⊢;clear x0;have hdr:=bC (Below.refl W2.heap.size W2)
  have hS:W2.drew.cell? ⟨ad.block,ad.off+4,none⟩=some (.slice X4 x.f4.length Cw)∧W2.drew.cell? ⟨ad.block,ad.off+5,none⟩=some (.slice X5 x.f5.length Cx)∧W2.drew.cell? ⟨w.heap.size,6,none⟩=some (.slice C5 c.f1.f5.length lH)∧W2.drew.cell? ⟨w.heap.size,7,none⟩=some (.slice C7 c.f2.length mU)∧ah (Below W2.heap.size W2 W2.drew):=⟨aj hdr x4,aj hdr x5,aj hdr c6,aj hdr c7,⟨hdr⟩⟩
  obtain⟨W4,Qy⟩:∃W4,W2.drew=W4:=⟨_,rfl⟩
  have HD4:=ah.mk (show Below W2.heap.size W2 W4 from Qy▸hdr);clear x4 x5 c6 c7 hdr;refine kW (n:=17) (S:=(fun w'=>w'.cell? ⟨ad.block,ad.off+4,none⟩=some (.slice X4 x.f4.length Cw)∧w'.cell? ⟨ad.block,ad.off+5,none⟩=some (.slice X5 x.f5.length Cx)∧w'.cell? ⟨w.heap.size,6,none⟩=some (.slice C5 c.f1.f5.length lH)∧w'.cell? ⟨w.heap.size,7,none⟩=some (.slice C7 c.f2.length mU)∧ah (Below W2.heap.size W2 w'))) (ds:=[]) #[false,false,false,false,false,false,false,false,false,false,false,false,false,false,false,false,false] (by kernel_rfl) rfl rfl hS (fun hHeld=>?_);clear hS;rw[Qy] at hHeld ⊢;clear Qy;refine bA (i:=0) (N:=some 24) (v:=?_) (a':=?_) #[true,false,false,false,false,false,false,false,false,false,false,false,false,false,false,false,false] rfl rfl (by kernel_rfl) (fun _ _ _ h=>h) (Or.inl ⟨by rfl,?_⟩) ?_ ?_;rotate_left
  ·intro w'
   go_simp
   with_reducible rfl
  rotate_left
  ·simp only[Act.put,aYa,aYb,aYc,aG,aH];rfl
  refine bA (i:=1) (N:=some 25) (v:=?_) (a':=?_) #[true,true,false,false,false,false,false,false,false,false,false,false,false,false,false,false,false] rfl rfl (by kernel_rfl) (fun _ _ _ h=>h) (Or.inl ⟨by rfl,?_⟩) ?_ ?_;rotate_left
  ·intro w'
   go_simp
   with_reducible rfl
  rotate_left
  ·simp only[Act.put,aYa,aYb,aYc,aG,aH];rfl
  refine bA (i:=2) (N:=some 26) (v:=?_) (a':=?_) #[true,true,true,false,false,false,false,false,false,false,false,false,false,false,false,false,false] rfl rfl (by kernel_rfl) (fun _ _ _ h=>h) (Or.inl ⟨by rfl,?_⟩) ?_ ?_;rotate_left
  ·intro w'
   go_simp
   with_reducible rfl
  rotate_left
  ·simp only[Act.put,aYa,aYb,aYc,aG,aH];rfl
  refine dM (i:=3) (N:=some 27) (v:=?_) (a':=?_) #[true,true,true,true,false,false,false,false,false,false,false,false,false,false,false,false,false] rfl rfl (by kernel_rfl) (fun _ _ _ h=>h) (Or.inl ⟨by rfl,?_⟩) hHeld ?_ ?_;rotate_left
  ·rintro w' ⟨s4,s5,s6,s7,s9⟩
   go_simp
   with_reducible rfl
  rotate_left
  ·simp only[Act.put,aYa,aYb,aYc,aG,aH];rfl
  refine bA (i:=4) (N:=some 28) (v:=?_) (a':=?_) #[true,true,true,true,true,false,false,false,false,false,false,false,false,false,false,false,false] rfl rfl (by kernel_rfl) (fun _ _ _ h=>h) (Or.inl ⟨by rfl,?_⟩) ?_ ?_;rotate_left
  ·intro w'
   go_simp
   with_reducible rfl
  rotate_left
  ·simp only[Act.put,aYa,aYb,aYc,aG,aH];rfl
  refine bA (i:=5) (N:=some 29) (v:=?_) (a':=?_) #[true,true,true,true,true,true,false,false,false,false,false,false,false,false,false,false,false] rfl rfl (by kernel_rfl) (fun _ _ _ h=>h) (Or.inl ⟨by rfl,?_⟩) ?_ ?_;rotate_left
  ·intro w'
   go_simp
   with_reducible rfl
  rotate_left
  ·simp only[Act.put,aYa,aYb,aYc,aG,aH];rfl
  refine bA (i:=6) (N:=some 30) (v:=?_) (a':=?_) #[true,true,true,true,true,true,true,false,false,false,false,false,false,false,false,false,false] rfl rfl (by kernel_rfl) (fun _ _ _ h=>h) (Or.inl ⟨by rfl,?_⟩) ?_ ?_;rotate_left
  ·intro w'
   go_simp
   with_reducible rfl
  rotate_left
  ·simp only[Act.put,aYa,aYb,aYc,aG,aH];rfl
  refine dM (i:=7) (N:=some 31) (v:=?_) (a':=?_) #[true,true,true,true,true,true,true,true,false,false,false,false,false,false,false,false,false] rfl rfl (by kernel_rfl) (fun _ _ _ h=>h) (Or.inl ⟨by rfl,?_⟩) hHeld ?_ ?_;rotate_left
  ·rintro w' ⟨s4,s5,s6,s7,s9⟩
   go_simp
   with_reducible rfl
  rotate_left
  ·simp only[Act.put,aYa,aYb,aYc,aG,aH];rfl
  refine bA (i:=9) (N:=some 33) (v:=?_) (a':=?_) #[true,true,true,true,true,true,true,true,false,true,false,false,false,false,false,false,false] rfl rfl (by kernel_rfl) (fun _ _ _ h=>h) (Or.inl ⟨by rfl,?_⟩) ?_ ?_;rotate_left
  ·intro w'
   go_simp
   with_reducible rfl
  rotate_left
  ·simp only[Act.put,aYa,aYb,aYc,aG,aH];rfl
  refine dM (i:=10) (N:=some 34) (v:=?_) (a':=?_) #[true,true,true,true,true,true,true,true,false,true,true,false,false,false,false,false,false] rfl rfl (by kernel_rfl) (fun _ _ _ h=>h) (Or.inl ⟨by rfl,?_⟩) hHeld ?_ ?_;rotate_left
  ·rintro w' ⟨s4,s5,s6,s7,s9⟩
   go_simp
   with_reducible rfl
  rotate_left
  ·simp only[Act.put,aYa,aYb,aYc,aG,aH];rfl
  refine bA (i:=11) (N:=some 35) (v:=?_) (a':=?_) #[true,true,true,true,true,true,true,true,false,true,true,true,false,false,false,false,false] rfl rfl (by kernel_rfl) (fun _ _ _ h=>h) (Or.inl ⟨by rfl,?_⟩) ?_ ?_;rotate_left
  ·intro w'
   go_simp
   with_reducible rfl
  rotate_left
  ·simp only[Act.put,aYa,aYb,aYc,aG,aH];rfl
  refine bA (i:=12) (N:=some 36) (v:=?_) (a':=?_) #[true,true,true,true,true,true,true,true,false,true,true,true,true,false,false,false,false] rfl rfl (by kernel_rfl) (fun _ _ _ h=>h) (Or.inl ⟨by rfl,?_⟩) ?_ ?_;rotate_left
  ·intro w'
   go_simp
   with_reducible rfl
  rotate_left
  ·simp only[Act.put,aYa,aYb,aYc,aG,aH];rfl
  refine dM (i:=13) (N:=some 37) (v:=?_) (a':=?_) #[true,true,true,true,true,true,true,true,false,true,true,true,true,true,false,false,false] rfl rfl (by kernel_rfl) (fun _ _ _ h=>h) (Or.inl ⟨by rfl,?_⟩) hHeld ?_ ?_;rotate_left
  ·rintro w' ⟨s4,s5,s6,s7,s9⟩
   go_simp
   with_reducible rfl
  rotate_left
  ·simp only[Act.put,aYa,aYb,aYc,aG,aH];rfl
  refine kg (i:=8) (N:=some 32) #[true,true,true,true,true,true,true,true,true,true,true,true,true,true,false,false,false] rfl rfl (by kernel_rfl) (by decide) (fun K hK=>?_);refine mq Tryz.func90 (by kernel_rfl) rfl #[.slice X4 x.f4.length Cw,.slice X5 x.f5.length Cx] (by rfl) rfl rfl (by (try simp only[List.map_toArray,List.map_cons,List.map_nil]);first|done|rfl) ?_;refine (HSX.out _ hHeld.2.2.2.2.out).mono ?_;rintro e w5 ⟨rfl,hv5,hb5⟩;refine⟨_,rfl,?_⟩;have HV5:=ah.mk hv5;have iV:=ah.mk hb5;refine hK.out _ _ ⟨aj hb5 hHeld.1,aj hb5 hHeld.2.1,aj hb5 hHeld.2.2.1,aj hb5 hHeld.2.2.2.1,⟨hHeld.2.2.2.2.out.trans (hb5.mono hHeld.2.2.2.2.out.size)⟩⟩ ?_;clear hv5 hb5 hHeld hK K;intro hHeld;refine eB (a':=?_) ?_ ?_;rotate_left
  ·show Act.put _ (some 32) _=_
   simp only[Act.put,aYa,aYb,aYc,aG,aH];rfl
  refine kg (i:=14) (N:=some 38) #[true,true,true,true,true,true,true,true,true,true,true,true,true,true,true,false,false] rfl rfl (by kernel_rfl) (by decide) (fun K hK=>?_);refine mq Tryz.func90 (by kernel_rfl) rfl #[.slice C7 c.f2.length mU,.slice C5 c.f1.f5.length lH] (by rfl) rfl rfl (by (try simp only[List.map_toArray,List.map_cons,List.map_nil]);first|done|rfl) ?_;refine (HSC.out _ hHeld.2.2.2.2.out).mono ?_;rintro e w6 ⟨rfl,hv6,hb6⟩;refine⟨_,rfl,?_⟩;have WV:=ah.mk hv6;have qd:=ah.mk hb6;refine hK.out _ _ ⟨aj hb6 hHeld.1,aj hb6 hHeld.2.1,aj hb6 hHeld.2.2.1,aj hb6 hHeld.2.2.2.1,⟨hHeld.2.2.2.2.out.trans (hb6.mono hHeld.2.2.2.2.out.size)⟩⟩ ?_;clear hv6 hb6 hHeld hK K;intro hHeld;refine eB (a':=?_) ?_ ?_;rotate_left
  ·show Act.put _ (some 38) _=_
   simp only[Act.put,aYa,aYb,aYc,aG,aH];rfl
  refine bA (i:=15) (N:=some 5) (v:=?_) (a':=?_) #[true,true,true,true,true,true,true,true,true,true,true,true,true,true,true,true,false] rfl rfl (by kernel_rfl) (fun _ _ _ h=>h) (Or.inl ⟨by rfl,?_⟩) ?_ ?_;rotate_left
  ·intro w'
   go_simp
   with_reducible rfl
  rotate_left
  ·simp only[Act.put,aYa,aYb,aYc,aG,aH];rfl
  refine bA (i:=16) (N:=some 6) (v:=?_) (a':=?_) #[true,true,true,true,true,true,true,true,true,true,true,true,true,true,true,true,true] rfl rfl (by kernel_rfl) (fun _ _ _ h=>h) (Or.inl ⟨by rfl,?_⟩) ?_ ?_;rotate_left
  ·intro w'
   go_simp
   with_reducible rfl
  rotate_left
  ·simp only[Act.put,aYa,aYb,aYc,aG,aH];rfl
  refine ku (by kernel_rfl) ?_
  obtain⟨m5,hm5⟩:∃m,W4.heap.size=m:=⟨_,rfl⟩
  obtain⟨m6,hm6⟩:∃m,w5.heap.size=m:=⟨_,rfl⟩
  have WW:=ah.mk (HV5.out.below qd.out);have WY:=ah.mk WV.out;have vU:=ah.mk (iV.out.trans (qd.out.mono iV.out.size))
  obtain⟨W5,Sb⟩:∃W5,w6=W5:=⟨_,rfl⟩
  rw[hm5] at WW ⊢;rw[hm6] at WY ⊢;rw[Sb] at WW WY vU hHeld ⊢;clear HV5 WV iV qd hm5 hm6 hHeld;have HV5:=WW;have WV:=WY;have iV:=vU;clear WW WY vU Sb;have h25:Below W2.heap.size W2 W5:=HD4.out.trans (iV.out.mono HD4.out.size);have WZ:=aD Ld.out h25;have y2:W5.cell? ⟨w.heap.size,2,none⟩=some (.string c.f1.f1):=ak WZ 2;have y4:W5.cell? ⟨w.heap.size,4,none⟩=some (.int .i64 c.f1.f3):=ak WZ 4;have y5:W5.cell? ⟨w.heap.size,5,none⟩=some (.slice C4 c.f1.f4.length lG):=ak WZ 5;have Um:=ah.mk h25;clear WZ h25 HD4 iV
  go_wp2_with fail
  have hdr:=bC (Below.refl W5.heap.size W5)
  have hS:W5.drew.cell? ⟨w.heap.size,2,none⟩=some (.string c.f1.f1)∧W5.drew.cell? ⟨w.heap.size,4,none⟩=some (.int .i64 c.f1.f3)∧W5.drew.cell? ⟨w.heap.size,5,none⟩=some (.slice C4 c.f1.f4.length lG)∧ah (Below W2.heap.size W2 W5.drew):=⟨aj hdr y2,aj hdr y4,aj hdr y5,⟨Um.out.trans (hdr.mono Um.out.size)⟩⟩
  obtain⟨W6,Xa⟩:∃W6,W5.drew=W6:=⟨_,rfl⟩
  have HD6:=ah.mk (show Below W5.heap.size W5 W6 from Xa▸hdr);clear y2 y4 y5 hdr;refine kW (n:=13) (S:=(fun w'=>w'.cell? ⟨w.heap.size,2,none⟩=some (.string c.f1.f1)∧w'.cell? ⟨w.heap.size,4,none⟩=some (.int .i64 c.f1.f3)∧w'.cell? ⟨w.heap.size,5,none⟩=some (.slice C4 c.f1.f4.length lG)∧ah (Below W2.heap.size W2 w'))) (ds:=[12]) #[false,false,false,false,false,false,false,false,false,false,false,false,false] (by kernel_rfl) rfl rfl hS (fun hHeld=>?_);clear hS;rw[Xa] at hHeld ⊢;clear Xa;refine bA (i:=0) (N:=some 39) (v:=?_) (a':=?_) #[true,false,false,false,false,false,false,false,false,false,false,false,false] rfl rfl (by kernel_rfl) (fun _ _ _ h=>h) (Or.inl ⟨by rfl,?_⟩) ?_ ?_;rotate_left
  ·intro w'
   go_simp
   with_reducible rfl
  rotate_left
  ·simp only[Act.put,aYa,aYb,aYc,aG,aH];rfl
  refine bA (i:=1) (N:=some 40) (v:=?_) (a':=?_) #[true,true,false,false,false,false,false,false,false,false,false,false,false] rfl rfl (by kernel_rfl) (fun _ _ _ h=>h) (Or.inl ⟨by rfl,?_⟩) ?_ ?_;rotate_left
  ·intro w'
   go_simp
   with_reducible rfl
  rotate_left
  ·simp only[Act.put,aYa,aYb,aYc,aG,aH];rfl
  refine dM (i:=2) (N:=some 41) (v:=?_) (a':=?_) #[true,true,true,false,false,false,false,false,false,false,false,false,false] rfl rfl (by kernel_rfl) (fun _ _ _ h=>h) (Or.inl ⟨by rfl,?_⟩) hHeld ?_ ?_;rotate_left
  ·rintro w' ⟨s2,s4,s5,s9⟩
   go_simp
   with_reducible rfl
  rotate_left
  ·simp only[Act.put,aYa,aYb,aYc,aG,aH];rfl
  refine bA (i:=3) (N:=some 42) (v:=?_) (a':=?_) #[true,true,true,true,false,false,false,false,false,false,false,false,false] rfl rfl (by kernel_rfl) (fun _ _ _ h=>h) (Or.inl ⟨by rfl,?_⟩) ?_ ?_;rotate_left
  ·intro w'
   go_simp
   with_reducible rfl
  rotate_left
  ·simp only[Act.put,aYa,aYb,aYc,aG,aH];rfl
  refine bA (i:=4) (N:=some 43) (v:=?_) (a':=?_) #[true,true,true,true,true,false,false,false,false,false,false,false,false] rfl rfl (by kernel_rfl) (fun _ _ _ h=>h) (Or.inl ⟨by rfl,?_⟩) ?_ ?_;rotate_left
  ·intro w'
   go_simp
   with_reducible rfl
  rotate_left
  ·simp only[Act.put,aYa,aYb,aYc,aG,aH];rfl
  refine dM (i:=5) (N:=some 44) (v:=?_) (a':=?_) #[true,true,true,true,true,true,false,false,false,false,false,false,false] rfl rfl (by kernel_rfl) (fun _ _ _ h=>h) (Or.inl ⟨by rfl,?_⟩) hHeld ?_ ?_;rotate_left
  ·rintro w' ⟨s2,s4,s5,s9⟩
   go_simp
   with_reducible rfl
  rotate_left
  ·simp only[Act.put,aYa,aYb,aYc,aG,aH];rfl
  refine bA (i:=6) (N:=some 45) (v:=?_) (a':=?_) #[true,true,true,true,true,true,true,false,false,false,false,false,false] rfl rfl (by kernel_rfl) (fun _ _ _ h=>h) (Or.inl ⟨by rfl,?_⟩) ?_ ?_;rotate_left
  ·intro w'
   go_simp
   with_reducible rfl
  rotate_left
  ·simp only[Act.put,aYa,aYb,aYc,aG,aH];rfl
  refine bA (i:=7) (N:=some 46) (v:=?_) (a':=?_) #[true,true,true,true,true,true,true,true,false,false,false,false,false] rfl rfl (by kernel_rfl) (fun _ _ _ h=>h) (Or.inl ⟨by rfl,?_⟩) ?_ ?_;rotate_left
  ·intro w'
   go_simp
   with_reducible rfl
  rotate_left
  ·simp only[Act.put,aYa,aYb,aYc,aG,aH];rfl
  refine dM (i:=8) (N:=some 47) (v:=?_) (a':=?_) #[true,true,true,true,true,true,true,true,true,false,false,false,false] rfl rfl (by kernel_rfl) (fun _ _ _ h=>h) (Or.inl ⟨by rfl,?_⟩) hHeld ?_ ?_;rotate_left
  ·rintro w' ⟨s2,s4,s5,s9⟩
   go_simp
   with_reducible rfl
  rotate_left
  ·simp only[Act.put,aYa,aYb,aYc,aG,aH];rfl
  refine aac (σ:=Option Addr × Nat × Nat) 1 #[true,true,true,true,true,true,true,true,true,true,true,true,false] (fun s=>[(48,.slice s.1 c.f1.f4.length s.2.1),(49,.agg #[.int .i64 1,.string c.f1.f1,.string ⟨#[]⟩,.int .i64 c.f1.f3,.slice s.1 c.f1.f4.length s.2.1,.slice none 0 0]),(7,.pointer (some ⟨s.2.2,0,none⟩))]) (fun s w'=>Kd.R cO 117 w' W6.heap.size (fun _=>True) (.slice s.1 c.f1.f4.length s.2.1) c.f1.f4∧w'.heap[s.2.2]?=some (.cells #[.int .i64 0,.string ⟨#[]⟩,.string ⟨#[]⟩,.int .i64 0,.slice none 0 0,.slice none 0 0] 29 (0,0))∧W6.heap.size≤s.2.2∧Below W6.heap.size W6 w') ?hcont (fun HC=>?_);rotate_left;refine ad5 (i:=9) (j:=11) (Ni:=some 48) (Nj:=some 7) #[true,true,true,true,true,true,true,true,true,true,false,false,false] #[true,true,true,true,true,true,true,true,true,false,false,true,false] rfl rfl rfl rfl (by kernel_rfl) (by decide) (by decide) (fun K hK=>?_) (fun K hK=>?_)
  ·refine mq Tryz.func91 (by kernel_rfl) rfl #[.slice C4 c.f1.f4.length lG] (by rfl) rfl rfl (by (try simp only[List.map_toArray,List.map_cons,List.map_nil]);first|done|rfl) ?_;refine (QB.out _ hHeld.2.2.2.out).mono ?_;rintro e w5 ⟨v5,rfl,jR,hb5⟩;obtain⟨Av5,cv5,hv5⟩:=Kd.bH jR;subst hv5;refine⟨_,rfl,?_⟩;have kE:=ah.mk jR;have iV:=ah.mk hb5;refine hK.out _ _ ⟨aj hb5 hHeld.1,aj hb5 hHeld.2.1,aj hb5 hHeld.2.2.1,⟨hHeld.2.2.2.out.trans (hb5.mono hHeld.2.2.2.out.size)⟩⟩ ?_;clear jR hb5 hHeld hK K;intro hHeld;refine eB (a':=?_) ?_ ?_;rotate_left
   ·show Act.put _ (some 48) _=_
    simp only[Act.put,aYa,aYb,aYc,aG,aH];rfl
   refine bA (i:=10) (N:=some 49) (v:=?_) (a':=?_) #[true,true,true,true,true,true,true,true,true,true,true,false,false] rfl rfl (by kernel_rfl) (fun _ _ _ h=>h) (Or.inl ⟨by rfl,?_⟩) ?_ ?_;rotate_left
   ·intro w'
    go_simp
    with_reducible rfl
   rotate_left
   ·simp only[Act.put,aYa,aYb,aYc,aG,aH];rfl
   refine kg (i:=11) (N:=some 7) #[true,true,true,true,true,true,true,true,true,true,true,true,false] rfl rfl (by kernel_rfl) (by decide) (fun K hK=>?_);refine nD (v:=.pointer (some ⟨w5.heap.size,0,none⟩)) (w1:=w5.alloc (.cells #[.int .i64 0,.string ⟨#[]⟩,.string ⟨#[]⟩,.int .i64 0,.slice none 0 0,.slice none 0 0] 29)) (by rfl) rfl (by kernel_rfl) ?_;have hal:=(Below.refl w5.heap.size w5).alloc (Nat.le_refl _) (.cells #[.int .i64 0,.string ⟨#[]⟩,.string ⟨#[]⟩,.int .i64 0,.slice none 0 0,.slice none 0 0] 29);refine hK.out _ _ ⟨aj hal hHeld.1,aj hal hHeld.2.1,aj hal hHeld.2.2.1,⟨hHeld.2.2.2.out.trans (hal.mono hHeld.2.2.2.out.size)⟩⟩ ?_;clear hal hHeld hK K;intro hHeld;refine HC ⟨Av5,cv5,w5.heap.size⟩ _ ⟨?_,?_,?_,?_⟩
   ·exact Kd.dh kE.out ((Below.refl _ _).alloc (Nat.le_refl _) _)
   ·exact bK _ _
   ·exact iV.out.size
   ·exact iV.out.alloc iV.out.size _
  ·refine nD (v:=.pointer (some ⟨W6.heap.size,0,none⟩)) (w1:=W6.alloc (.cells #[.int .i64 0,.string ⟨#[]⟩,.string ⟨#[]⟩,.int .i64 0,.slice none 0 0,.slice none 0 0] 29)) (by rfl) rfl (by kernel_rfl) ?_;have hal:=(Below.refl W6.heap.size W6).alloc (Nat.le_refl _) (.cells #[.int .i64 0,.string ⟨#[]⟩,.string ⟨#[]⟩,.int .i64 0,.slice none 0 0,.slice none 0 0] 29);refine hK.out _ _ ⟨aj hal hHeld.1,aj hal hHeld.2.1,aj hal hHeld.2.2.1,⟨hHeld.2.2.2.out.trans (hal.mono hHeld.2.2.2.out.size)⟩⟩ ?_;clear hal hHeld hK K;intro hHeld;refine eB (a':=?_) ?_ ?_;rotate_left
   ·show Act.put _ (some 7) _=_
    simp only[Act.put,aYa,aYb,aYc,aG,aH];rfl
   have Xb:=ah.mk ((Below.refl W6.heap.size W6).alloc (Nat.le_refl _) (.cells #[.int .i64 0,.string ⟨#[]⟩,.string ⟨#[]⟩,.int .i64 0,.slice none 0 0,.slice none 0 0] 29));have HNB:=ah.mk (bK W6 (.cells #[.int .i64 0,.string ⟨#[]⟩,.string ⟨#[]⟩,.int .i64 0,.slice none 0 0,.slice none 0 0] 29))
   obtain⟨W7,hW7⟩:∃W7,W6.alloc (.cells #[.int .i64 0,.string ⟨#[]⟩,.string ⟨#[]⟩,.int .i64 0,.slice none 0 0,.slice none 0 0] 29)=W7:=⟨_,rfl⟩
   rw[hW7] at Xb HNB hHeld ⊢;clear hW7;refine kg (i:=9) (N:=some 48) #[true,true,true,true,true,true,true,true,true,true,false,true,false] rfl rfl (by kernel_rfl) (by decide) (fun K hK=>?_);refine mq Tryz.func91 (by kernel_rfl) rfl #[.slice C4 c.f1.f4.length lG] (by rfl) rfl rfl (by (try simp only[List.map_toArray,List.map_cons,List.map_nil]);first|done|rfl) ?_;refine (QB.out _ hHeld.2.2.2.out).mono ?_;rintro e w5 ⟨v5,rfl,jR,hb5⟩;obtain⟨Av5,cv5,hv5⟩:=Kd.bH jR;subst hv5;refine⟨_,rfl,?_⟩;have kE:=ah.mk jR;have iV:=ah.mk hb5;refine hK.out _ _ ⟨aj hb5 hHeld.1,aj hb5 hHeld.2.1,aj hb5 hHeld.2.2.1,⟨hHeld.2.2.2.out.trans (hb5.mono hHeld.2.2.2.out.size)⟩⟩ ?_;clear jR hb5 hHeld hK K;intro hHeld;refine eB (a':=?_) ?_ ?_;rotate_left
   ·show Act.put _ (some 48) _=_
    simp only[Act.put,aYa,aYb,aYc,aG,aH];rfl
   refine bA (i:=10) (N:=some 49) (v:=?_) (a':=?_) #[true,true,true,true,true,true,true,true,true,true,true,true,false] rfl rfl (by kernel_rfl) (fun _ _ _ h=>h) (Or.inl ⟨by rfl,?_⟩) ?_ ?_;rotate_left
   ·intro w'
    go_simp
    with_reducible rfl
   rotate_left
   ·simp only[Act.put,aYa,aYb,aYc,aG,aH];rfl
   refine HC ⟨Av5,cv5,W6.heap.size⟩ _ ⟨?_,?_,Nat.le_refl _,?_⟩
   ·exact Kd.fC kE.out Xb.out.size
   ·exact aD HNB.out iV.out
   ·exact Xb.out.trans (iV.out.mono Xb.out.size)
  rintro⟨A5,k5,p⟩ W7 ⟨jR,hk5,Un,hb5⟩;dsimp only at jR hk5 Un;have kE:=ah.mk jR;have oV:=ah.mk hk5;have iV:=ah.mk hb5;have G9:=ah.mk Un;clear jR hk5 hb5 Un;refine eB (a':=?_) ?_ ?_;rotate_left
  ·show yT _ [_,_,_]=_
   simp only[yT,Act.put,aYa,aYb,aYc];rfl
  refine kC (i:=12) (N:=none) #[true,true,true,true,true,true,true,true,true,true,true,true,true] rfl rfl (by kernel_rfl) (by decide) (fun K hK=>?_);rw[if_pos (by rfl)];refine wp_store_row 29 (.tmp 7) (.tmp 49) rfl p #[.int .i64 1,.string c.f1.f1,.string ⟨#[]⟩,.int .i64 c.f1.f3,.slice A5 c.f1.f4.length k5,.slice none 0 0] rfl rfl 29 _ oV.out (by kernel_rfl) (by rfl) (by simp[Value.oneCell']) ?_;refine hK.out _ _ ?_;clear hK K;refine eB (a':=?_) ?_ ?_;rotate_left
  ·show Act.put _ none _=_
   simp only[Act.put];rfl
  refine ku (by kernel_rfl) ?_;have h56:W5.heap.size≤W6.heap.size:=HD6.out.size;have h25:W2.heap.size≤W5.heap.size:=Um.out.size;have Un:=G9.out;have h57:Below W5.heap.size W5 W7:=HD6.out.trans (iV.out.mono h56);have h27:Below W2.heap.size W2 W7:=Um.out.trans (h57.mono h25);have h07:Below w.heap.size w W7:=HB2.out.trans (h27.mono HB2.out.size);have jR:=kE.out
  have N8:NJ w m5 (idxs x.f4).length (rG X5 (idxs x.f4)) m6 (idxs c.f2).length (rG C5 (idxs c.f2)) p c.f1.f1 c.f1.f3 (.slice A5 c.f1.f4.length k5) c.f1.f4 (w.heap.size+1) #[.int .i64 0,.string ⟨#[]⟩,.string ⟨#[]⟩,.int .i64 0,.slice none 0 0,.slice none 0 0] 29 (.slice none 0 0) [] (W7.setRow p #[.int .i64 1,.string c.f1.f1,.string ⟨#[]⟩,.int .i64 c.f1.f3,.slice A5 c.f1.f4.length k5,.slice none 0 0]):=by
   have hres:(W7.setRow p #[.int .i64 1,.string c.f1.f1,.string ⟨#[]⟩,.int .i64 c.f1.f3,.slice A5 c.f1.f4.length k5,.slice none 0 0]).heap[w.heap.size+1]?=some (.cells #[.int .i64 0,.string ⟨#[]⟩,.string ⟨#[]⟩,.int .i64 0,.slice none 0 0,.slice none 0 0] 29 (0,0)):=by
    rw[setRow_other _ _ _ _ (by omega)];exact aD jC.out h27
   have hm:∀{m n:Nat} {F:Lit→Option Value},j6 Tryz.prog 3 W5 m n F→j6 Tryz.prog 3 (W7.setRow p #[.int .i64 1,.string c.f1.f1,.string ⟨#[]⟩,.int .i64 c.f1.f3,.slice A5 c.f1.f4.length k5,.slice none 0 0]) m n F:=fun {m n F} hv=>by
    have hlt:=hv.lt;exact (hv.below h57).same (setRow_other _ _ _ _ (by omega))
   refine⟨below_setRow h07 (by omega) _,hm HV5.out,hm WV.out,setRow_heap _ _ _ _ _ _ oV.out,hres,hres,?_,Kd.fA _ _ _ _ _,by omega,by omega,by decide⟩;refine rA (Kd.nG (Kd.fC (mV jR) (by omega)) (fun k ho hlt=>setRow_other _ _ _ _ (fun e=>?_)));exact Kd.pV jR oV.out (by decide) (by rw[← e];exact ho.symm)
  have q4:(W7.setRow p #[.int .i64 1,.string c.f1.f1,.string ⟨#[]⟩,.int .i64 c.f1.f3,.slice A5 c.f1.f4.length k5,.slice none 0 0]).cell? ⟨p,4,none⟩=some (.slice A5 c.f1.f4.length k5):=ak (setRow_heap _ _ _ _ _ _ oV.out) 4
  obtain⟨W8,hW8⟩:∃W8,W7.setRow p #[.int .i64 1,.string c.f1.f1,.string ⟨#[]⟩,.int .i64 c.f1.f3,.slice A5 c.f1.f4.length k5,.slice none 0 0]=W8:=⟨_,rfl⟩
  rw[hW8] at N8 q4 ⊢;have HE:=ah.mk N8;clear N8 hW8 h56 h25 Un h57 h27 h07 jR Ld HB2 HW2 jC HV5 WV QB HSX HSC HD6 Um kE oV iV G9 hsz2 hq1
  go_wp2_with fail
  have HXN:=ah.mk FX.out.n;have HCN:=ah.mk FC.out.n;have LA:=FC.out.l4;obtain⟨i0,hi0,_,hz1,_⟩:=info_parts info5
  go_loopg [53] c.f1.f4.length (fun g s53 wx=>∃(i:Nat) (v5:Value) (d:List Int),i+g=c.f1.f4.length∧s53=.int .i64 i∧ah (cZ x c (idxs (c.f1.f4.take i))=some d)∧ah (NJ w m5 (idxs x.f4).length (rG X5 (idxs x.f4)) m6 (idxs c.f2).length (rG C5 (idxs c.f2)) p c.f1.f1 c.f1.f3 (.slice A5 c.f1.f4.length k5) c.f1.f4 (w.heap.size+1) #[.int .i64 0,.string ⟨#[]⟩,.string ⟨#[]⟩,.int .i64 0,.slice none 0 0,.slice none 0 0] 29 v5 d wx))
  case atStart=>exact⟨0,_,[],by omega,rfl,⟨rfl⟩,HE⟩
  case round=>
   obtain⟨i,v5,d,hig,rfl,HD,HS⟩:=hrel;clear HE q4;by_cases hi:i<c.f1.f4.length
   ·obtain⟨Hu,hA,r0,r1⟩:=dK (Kd.dB HS.out.runs).2.2 (i:Int) (by omega) (by omega)
    have hrd:aK c.f1.f4 (i:Int)=c.f1.f4[i]:=by simp[aK,hi]
    rw[hrd] at r0 r1;rw[Int.toNat_natCast] at r0 r1;subst hA
    go_wp2_with fail
    obtain⟨wo,rfl⟩:∃wo,wo=wr:=⟨_,rfl⟩
    obtain⟨go,rfl⟩:∃go,go=gk:=⟨_,rfl⟩
    have WM:=FC.out.r4 _ (List.getElem_mem hi);have hidx:=xw hi
    have hcut:=fun j=>Uk (l:=c.f1.f4) (j:=j) hi
    obtain⟨q,hq⟩:∃q,c.f1.f4[i]=q:=⟨_,rfl⟩
    rw[hq] at WM hidx r0 r1 ⊢
    have aad:∀j,∃r,idxs c.f1.f4=(idxs (c.f1.f4.take i)++(iJ q).take j)++r:=fun j=>by rw[← hq];exact hcut j
    have HIX:=ah.mk hidx;have ad7:=ah.mk aad
    have zC:ah (NJ w m5 (idxs x.f4).length (rG X5 (idxs x.f4)) m6 (idxs c.f2).length (rG C5 (idxs c.f2)) p c.f1.f1 c.f1.f3 (.slice (some Hu) c.f1.f4.length k5) c.f1.f4 wo.heap.size #[.int .i64 q.f0,.int .i64 q.f1] 117 v5 d (wo.alloc (.cells #[.int .i64 q.f0,.int .i64 q.f1] 117))):=⟨HS.out.Ul _⟩
    have HD1:ah (cZ x c (idxs (c.f1.f4.take i)++(iJ q).take 0)=some d):=⟨by rw[List.take_zero,List.append_nil];exact HD.out⟩
    have hil:=FC.out.i4;clear hrd r0 r1 HS HD hq hidx hcut aad
    go_loopg [10] (q.f1 - q.f0).toNat (fun g s10 wx=>∃(j:Nat) (v5:Value) (d:List Int),j+g=(q.f1 - q.f0).toNat∧s10=.int .i64 (q.f0+j)∧ah (cZ x c (idxs (c.f1.f4.take i)++(iJ q).take j)=some d)∧ah (NJ w m5 (idxs x.f4).length (rG X5 (idxs x.f4)) m6 (idxs c.f2).length (rG C5 (idxs c.f2)) p c.f1.f1 c.f1.f3 (.slice (some Hu) c.f1.f4.length k5) c.f1.f4 wo.heap.size #[.int .i64 q.f0,.int .i64 q.f1] 117 v5 d wx))
    case atStart=>exact⟨0,v5,d,by omega,by simp,HD1,zC⟩
    case round=>
     obtain⟨j,v5,d,hjg,rfl,HD2,HS2⟩:=hrel;clear zC HD1;have z1:wr.cell? ⟨wo.heap.size,0,none⟩=some (.int .i64 q.f0):=ak HS2.out.TN 0;have z2:wr.cell? ⟨wo.heap.size,1,none⟩=some (.int .i64 q.f1):=ak HS2.out.TN 1;by_cases hj:j<(q.f1 - q.f0).toNat
     ·have d1:decide (q.f0+(j:Int)<q.f1)=true:=decide_eq_true (by omega);have hkey:keyOf Tryz.prog 3 (.int .i64 (q.f0+(j:Int)))=some (.int .i64 (q.f0+(j:Int))):=keyOf_int_mk Tryz.underlying3 (WalkArith.wf_i64 ⟨by omega,by omega⟩);have Sc:=HS2.out.mp5.look WL Tryz.underlying133 (Qw wr) hkey;have Uo:=HS2.out.mp6.look WL Tryz.underlying133 (Qw wr) hkey;rw[show rG X5 (idxs x.f4) (.int .i64 (q.f0+(j:Int)))=(iZ (idxs x.f4) 0 (q.f0+(j:Int))).map (fun k=>.slice (X5.map (·.add (512*k))) 512 512) from rfl] at Sc;rw[show rG C5 (idxs c.f2) (.int .i64 (q.f0+(j:Int)))=(iZ (idxs c.f2) 0 (q.f0+(j:Int))).map (fun k=>.slice (C5.map (·.add (512*k))) 512 512) from rfl] at Uo
      have hjl:(iJ q).take (j+1)=(iJ q).take j++[q.f0+(j:Int)]:=by
       rw[List.take_add_one]
       congr 1
       unfold iJ;rw[List.getElem?_map,List.getElem?_range hj];rfl
      have hone:=JM x c (idxs (c.f1.f4.take i)++(iJ q).take j) (q.f0+(j:Int)) d HD2.out;rw[List.append_assoc,← hjl] at hone;obtain⟨A6,c6,hv6⟩:=Kd.bH HS2.out.data;subst hv6;have u5:wr.cell? ⟨p,5,none⟩=some (.slice A6 d.length c6):=ak HS2.out.box 5
      have hdl:d.length≤8459776:=by
       have h1:=wD x c _ d HD2.out;obtain⟨r,hr⟩:=ad7.out j;have h2:=congrArg List.length hr;rw[List.length_append] at h2;omega
      have HDM:=ah.mk (show (d.length+512)*1≤140737488355328 by omega)
      have hwp:IntKind.i64.wrap (q.f0+(j:Int)+1)=q.f0+(j:Int)+1:=by rw[IntKind.wrap_i64];omega
      cases hla:iZ (idxs c.f2) 0 (q.f0+(j:Int)) with
      | some k=>
       rw[hla] at Uo;simp only[Option.map_some,Option.getD_some,Option.isSome_some] at Uo;have hkl:=tZ hla
       have hbk:jY c.f2 c.f1.f5 (q.f0+(j:Int))=some (dI c.f1.f5 k):=by unfold jY;rw[hla];rfl
       rw[hbk] at hone;have HDN:=ah.mk hone
       have hbl:512*(k+1)≤c.f1.f5.length:=by have:=HCN.out;omega
       have LB:Kd.C (Kd.int .u8) w (C5.map (·.add (512*k))) 512 (dI c.f1.f5 k):=El HG5.out hbl;have N9:=ah.mk LB;have hnl:=fK hbl;clear hla hkl hbk hone hbl LB Sc hkey hjl
       go_wp2_with ((with_reducible refine dn (b:=.append) (xs:=#[.tmp 84,.tmp 85]) rfl ?_);at_builtin;have hX:=Kd.aC N9.out HS2.out.low;refine Kd.qD (w0:=w) (.int .u8) 0 w.heap.size rfl (.tmp 84) (.tmp 85) 27 5 (.int .u8 0) 1 rfl Tryz.underlying27 info5 rfl (by decide) (.slice A6 d.length c6) d _ _ 512 512 (fun _=>True) rfl rfl (fun _ _=>trivial) HS2.out.data hX HS2.out.low HS2.out.low.size HDM.out ?_;intro v9 w9 JO Cy LC _h;have uV:=gB HS2.out.box LC (Kd.pV HS2.out.data HS2.out.box (by decide));obtain⟨A9,c9,IE⟩:=Kd.bH JO;subst IE;have HS4:=ah.mk (HS2.out.append Cy LC JO);have u9:w9.cell? ⟨p,5,none⟩=some (.slice A6 d.length c6):=ak uV 5;have f9:=av uV 5;have l9:=bD uV;clear JO Cy LC uV u5 _h)
       go_roundg ((q.f1 - q.f0).toNat - (j+1))
       case measure=>omega
       case rel=>
        have h4:=HS4.out;rw[show (d++(dI c.f1.f5 k)).length=d.length+512 by rw[List.length_append,hnl]] at h4;exact⟨j+1,_,d++(dI c.f1.f5 k),by omega,by push_cast;congr 1;omega,HDN,⟨h4⟩⟩
      | none=>
       rw[hla] at Uo;simp only[Option.map_none,Option.getD_none,Option.isSome_none] at Uo
       have hbk0:jY c.f2 c.f1.f5 (q.f0+(j:Int))=none:=by unfold jY;rw[hla];rfl
       rw[hbk0] at hone;dsimp only at hone;clear hla hbk0
       cases hla:iZ (idxs x.f4) 0 (q.f0+(j:Int)) with
       | some k=>
        rw[hla] at Sc;simp only[Option.map_some,Option.getD_some,Option.isSome_some] at Sc;have hkl:=tZ hla
        have hbk:jY x.f4 x.f5 (q.f0+(j:Int))=some (dI x.f5 k):=by unfold jY;rw[hla];rfl
        rw[hbk] at hone;have HDN:=ah.mk hone
        have hbl:512*(k+1)≤x.f5.length:=by have:=HXN.out;omega
        have LB:Kd.C (Kd.int .u8) w (X5.map (·.add (512*k))) 512 (dI x.f5 k):=El HX.out.g5 hbl;have N9:=ah.mk LB;have hnl:=fK hbl;clear hla hkl hbk hone hbl LB hkey hjl
        go_wp2_with ((with_reducible refine dn (b:=.append) (xs:=#[.tmp 84,.tmp 85]) rfl ?_);at_builtin;have hX:=Kd.aC N9.out HS2.out.low;refine Kd.qD (w0:=w) (.int .u8) 0 w.heap.size rfl (.tmp 84) (.tmp 85) 27 5 (.int .u8 0) 1 rfl Tryz.underlying27 info5 rfl (by decide) (.slice A6 d.length c6) d _ _ 512 512 (fun _=>True) rfl rfl (fun _ _=>trivial) HS2.out.data hX HS2.out.low HS2.out.low.size HDM.out ?_;intro v9 w9 JO Cy LC _h;have uV:=gB HS2.out.box LC (Kd.pV HS2.out.data HS2.out.box (by decide));obtain⟨A9,c9,IE⟩:=Kd.bH JO;subst IE;have HS4:=ah.mk (HS2.out.append Cy LC JO);have u9:w9.cell? ⟨p,5,none⟩=some (.slice A6 d.length c6):=ak uV 5;have f9:=av uV 5;have l9:=bD uV;clear JO Cy LC uV u5 _h)
        go_roundg ((q.f1 - q.f0).toNat - (j+1))
        case measure=>omega
        case rel=>
         have h4:=HS4.out;rw[show (d++(dI x.f5 k)).length=d.length+512 by rw[List.length_append,hnl]] at h4;exact⟨j+1,_,d++(dI x.f5 k),by omega,by push_cast;congr 1;omega,HDN,⟨h4⟩⟩
       | none=>
        rw[hla] at Sc;simp only[Option.map_none,Option.getD_none,Option.isSome_none] at Sc
        have hbk:jY x.f4 x.f5 (q.f0+(j:Int))=none:=by unfold jY;rw[hla];rfl
        rw[hbk] at hone
        have HN:ah (o=none):=⟨by
         obtain⟨r,hr⟩:=ad7.out (j+1);rw[← HO.out,hr,Ht x c _ r hone]
         rfl⟩
        clear hla hbk hone hkey hjl
        go_wp2_with fail
        rw[HN.out];exact⟨rfl,HS2.out.low,rfl⟩
     ·have d1:decide (q.f0+(j:Int)<q.f1)=false:=decide_eq_false (by omega)
      have hje:j=(q.f1 - q.f0).toNat:=by omega
      go_wp2_with fail
      go_roundg (go - 1)
      case measure=>omega
      case rel=>
       subst hje;refine⟨i+1,v5,d,by omega,by simp,⟨?_⟩,⟨HS2.out.back⟩⟩;rw[HIX.out];have:=HD2.out
       rwa [show (iJ q).take (q.f1 - q.f0).toNat=iJ q from List.take_of_length_le (by unfold iJ;rw[List.length_map,List.length_range];omega)] at this
   ·obtain rfl:i=c.f1.f4.length:=by omega
    have hd:=HD.out;rw[List.take_length] at hd
    have HE:ah (o=some ⟨1,c.f1.f1,⟨#[]⟩,c.f1.f3,c.f1.f4,d⟩):=⟨by rw[← HO.out,hd];rfl⟩
    clear hd
    go_wp2_with (first
     | (refine dR (.load 29 (.tmp 7)) rfl ?_;refine wpList_load_row rfl _ _ rfl p rfl 29 _ (0,0) _ HS.out.box Tryz.underlying29 rfl (by kernel_rfl) ?_)
     | (refine dR (.store 29 (.tmp 4) (.tmp 89)) rfl ?_;refine wpList_store_row rfl 29 (.tmp 4) (.tmp 89) rfl (w.heap.size+1) #[.int .i64 1,.string c.f1.f1,.string ⟨#[]⟩,.int .i64 c.f1.f3,.slice A5 c.f1.f4.length k5,v5] rfl rfl 29 _ HS.out.res (by kernel_rfl) (by rfl) ?one ?_;(case one=>obtain⟨b5,d5,e5⟩:=Kd.bH HS.out.data;rw[e5];simp[Value.oneCell'])))
    rw[HE.out];refine bodyPost_ret (results_cell_row rfl _ _ (w.heap.size+1) 29 #[.int .i64 1,.string c.f1.f1,.string ⟨#[]⟩,.int .i64 c.f1.f3,.slice A5 c.f1.f4.length k5,v5] (0,0) _ rfl (setRow_heap _ _ _ _ _ _ HS.out.res) Tryz.underlying29 rfl (by kernel_rfl)) rfl ⟨below_setRow HS.out.low (by omega) _,_,v5,rfl,?_,?_⟩
    ·exact rA (Kd.nG (mV HS.out.runs) (fun k ho _=>setRow_other _ _ _ _ (fun e=>Kd.pV HS.out.runs HS.out.res (by decide) (by rw[← e];exact ho.symm))))
    ·exact yU (Kd.nG (BL HS.out.data) (fun k ho _=>setRow_other _ _ _ _ (fun e=>Kd.pV HS.out.data HS.out.res (by decide) (by rw[← e];exact ho.symm))))
 ·have hb1:(x.f0 != 1)=true:=bne_iff_ne.2 h1;rw[if_pos h1] at ho;rw[← HW2.out] at x0;subst ho;clear x4 x5 fx fc h1
  go_enter Tryz.func123,Tryz.ntmps123
  go_wp2_with fail
  exact⟨rfl,by rw[HW2.out];exact HB2.out,rfl⟩
end Go.Proofs.YtknihldkhedpkaaGreatDoor
end
section
namespace Go.Proofs.YtknihldkhedpkaaGreatDoor
open Go.RowKit Go.Lib
open Go.Proofs.YtknihldkhedpkaaGreatDoorW.PrintWords Go.Proofs.YtknihldkhedpkaaGreatDoorW.PrintLast Go.Proofs.YtknihldkhedpkaaGreatDoor.PT
theorem abj (P:Program) (t e:TypeId) (kh:IntKind) {i:TypeInfo} (ht:P.underlying t=some (.slice e)) (hi:P.info? e=some i) (A:Option Addr) (n c:Nat) (j:Int) (h0:0≤j) (hm:j≤n) (hc:n≤c) :
  ∀W:World,(Instr.slice t (.slice A n c) none (some (.int kh j)) (some (.int kh j))).run P W=.ok (.slice A j.toNat j.toNat) W:=by
 intro W
 have hel:P.elem t=e:=by simp[Program.elem,ht]
 have hu:P.underlying t=some (.slice (P.elem t)):=by rw[hel];exact ht
 have ha:(A.map fun x=>x.add 0)=A:=by cases A <;> simp[Addr.add]
 rw[run_slice_hm W t A n c hu kh kh j j h0 (Int.le_refl _) (by omega),hel];simp[sizeOf,typeInfo,hi,sliced,Result.andThen,ha]
def Tk (B:Nat) (w:World) (g:Nat) (left:List Int):Prop:=B≤g∧∃A c,w.heap[g]?=some (.cells #[.slice A left.length c] 145 (0,0))∧left.length≤c∧(left≠[]→∀ad,A=some ad→ad.block<B)∧Kd.C (Kd.int .u8) w A left.length left
abbrev Ft (g:Nat):World→World→Prop:=jK 0 (· = g) (fun _=>False)
theorem add_block (ad:Addr) (n:Nat):(ad.add n).block=ad.block:=by
 unfold Addr.add
 repeat' split
 all_goals rfl
theorem Tk.lt {B:Nat} {w:World} {g:Nat} {left:List Int} (h:Tk B w g left):g<w.heap.size:=by
 obtain⟨_,A,c,h,_⟩:=h;exact bD h
theorem Oa {B:Nat} {w w1:World} {A:Option Addr} {n:Nat} {xs:List Int} (h:Kd.C (Kd.int .u8) w A n xs) (ha:xs≠[]→∀ad,A=some ad→ad.block<B) (hk:∀k,k<B→w1.heap[k]?=w.heap[k]?):Kd.C (Kd.int .u8) w1 A n xs:=by
 obtain⟨h1,h2,h3⟩:=h;refine⟨h1,h2,fun hn=>?_⟩;obtain⟨ad,rfl,hc⟩:=h3 hn;refine⟨ad,rfl,fun j2 p hj=>?_⟩;obtain⟨c,e1,e2,e3⟩:=hc j2 p hj;refine⟨c,e1,e2,fun i x hi=>?_⟩;have hcell:=e3 i x hi
 have hb:(ad.add (j2*(Kd.int .u8).sz+i)).block<B:=by rw[add_block];exact ha (fun e=>by rw[e] at hj;simp at hj) ad rfl
 rw[← hcell];unfold World.cell?;rw[hk _ hb]
theorem Tk.keep {B:Nat} {w w1:World} {g:Nat} {left:List Int} (h:Tk B w g left) (hk:∀k,k<B→w1.heap[k]?=w.heap[k]?) (hg:w1.heap[g]?=w.heap[g]?):Tk B w1 g left:=by
 obtain⟨h0,A,c,h1,h2,h3,h4⟩:=h;exact⟨h0,A,c,hg.trans h1,h2,h3,Oa h4 h3 hk⟩
theorem Tk.below {B:Nat} {w w1:World} {g:Nat} {left:List Int} (h:Tk B w g left) (hb:Below w.heap.size w w1):Tk B w1 g left :=
 h.keep (fun k hk=>hb.block k (Nat.lt_of_lt_of_le hk (Nat.le_of_lt (Nat.lt_of_le_of_lt h.1 h.lt)))) (hb.block g h.lt)
theorem Tk.grow {B:Nat} {w w1:World} {g:Nat} {left:List Int} {row:Option Nat} (h:Tk B w g left) (hg:w.grownBy w1 row) (hb:∀k,row=some k→B≤k∧k≠g):Tk B w1 g left:=by
 have hlt:=h.lt;have h0:=h.1;exact h.keep (fun k hk=>hg.block k (by omega) (fun e=>by have:=(hb k e.symm).1;omega)) (hg.block g hlt (fun e=>(hb g e.symm).2 rfl))
theorem Tk.set {B:Nat} {w:World} {g:Nat} {left:List Int} (h:Tk B w g left) {b j:Nat} (u:Value) (hb:B≤b) (hg:b≠g):Tk B (w.setCell ⟨b,j,none⟩ u) g left :=
 h.keep (fun k hk=>Below.heap_setCell w ⟨b,j,none⟩ u k (by show k≠b;omega)) (Below.heap_setCell w ⟨b,j,none⟩ u g (fun e=>hg e.symm))
theorem Ft.grow {α:Type} {d:Kd α} {e:Nat} {ok:Nat→Prop} {v:Value} {xs:List α} {g:Nat} {w W w1:World} (h:Ft g w W) (hr:d.R e W w.heap.size ok v xs) (hg:W.grownBy w1 v.ownBlock):Ft g w w1 :=
 ⟨hg.os.trans h.os,hg.tape.trans h.tape,hg.output.trans h.output,Nat.le_trans h.size hg.size,fun k o ho=>by
  rcases h.blocks k o ho with e|e
  ·exact .inl e
  ·refine .inr ((hg.block k (bD e) (fun he=>?_)).trans e);obtain⟨_,inner,ho2,_⟩:=hr;have:=lJ ho2 k he.symm;have:=bD ho
   omega⟩
def dN:Ending:=.panicked [{ v:=.iface 141 (.agg #[]),recovered:=false }]
theorem int_ne {w:World} {g:Nat} {B:Option Addr} {m cc:Nat} {p:Addr} {k:IntKind} {z:Int} (hg:w.heap[g]?=some (.cells #[.slice B m cc] 145 (0,0))) (h:w.cell? p=some (.int k z)):p.block≠g:=by
 intro e;unfold World.cell? at h;rw[e,hg] at h;dsimp only at h;split at h
 ·cases h
 ·cases ho:p.off with
  | zero=>rw[ho] at h;simp at h
  | succ n=>rw[ho] at h;simp at h
theorem IG {w:World} {g:Nat} {B:Option Addr} {m cc:Nat} {A:Option Addr} {n:Nat} {xs:List Int} (h:Kd.C (Kd.int .u8) w A n xs) (hg:w.heap[g]?=some (.cells #[.slice B m cc] 145 (0,0))) (j:Nat) (u:Value):Kd.C (Kd.int .u8) (w.setCell ⟨g,j,none⟩ u) A n xs:=by
 obtain⟨h1,h2,h3⟩:=h;refine⟨h1,h2,fun hn=>?_⟩;obtain⟨ad,rfl,hc⟩:=h3 hn;refine⟨ad,rfl,fun j2 p hj=>?_⟩;obtain⟨c,e1,e2,e3⟩:=hc j2 p hj;refine⟨c,e1,e2,fun i x hi=>?_⟩;have hcell:=e3 i x hi;obtain rfl:c=[.int .u8 p]:=e2
 have hx:x=.int .u8 p:=by
  have:=List.mem_of_getElem? hi
  simpa using this
 subst hx;have hne:=int_ne hg hcell;rw[← hcell];unfold World.cell?;rw[Below.heap_setCell w ⟨g,j,none⟩ u _ hne]
theorem LD (B:Nat) (w:World) (g:Nat) (left:List Int) (n:Nat) (H:Tk B w g left) (hn:left.length<n) (hn2:n≤1099511627776) (hl:left.length≤1099511627776) :
  Calls Tryz.prog 97 #[.pointer (some ⟨g,0,none⟩),.int .i64 n] w fun e w'=>e=dN∧w'=w:=by
 obtain⟨hBg,A,c,h1,h2,hAB,h3⟩:=H
 have c0:w.cell? ⟨g,0,none⟩=some (.slice A left.length c):=by rw[ak h1];rfl
 have hd:decide ((left.length:Int)<(n:Int))=true:=decide_eq_true (by omega);have hd2:decide (left.length<n)=true:=decide_eq_true hn;clear h1 h3
 go_enter Tryz.func97,Tryz.ntmps97
 go_wp2_with fail
 exact⟨rfl,rfl,rfl⟩
theorem LG (B:Nat) (w:World) (g:Nat) (left:List Int) (n:Nat) (H:Tk B w g left) (hn:n≤left.length) (hl:left.length≤1099511627776) :
  Calls Tryz.prog 97 #[.pointer (some ⟨g,0,none⟩),.int .i64 n] w fun e w'=>∃A,e=.returned (.slice A n n)∧Kd.C (Kd.int .u8) w' A n (left.take n)∧Tk B w' g (left.drop n)∧Ft g w w':=by
 obtain⟨hBg,A,c,h1,h2,hAB,h3⟩:=H
 have c0:w.cell? ⟨g,0,none⟩=some (.slice A left.length c):=by rw[ak h1];rfl
 have f0:=av h1 0;have l0:=bD h1;have hd:decide ((left.length:Int)<(n:Int))=false:=decide_eq_false (by omega);have hd2:decide (left.length<n)=false:=decide_eq_false (by omega);obtain⟨i0,hi0,_,hz1,_⟩:=info_parts info5;have hs1:=abj Tryz.prog 27 5 .i64 (i:=i0) Tryz.underlying27 hi0 A left.length c n (by omega) (by omega) h2;have hs2:=@Em Tryz.prog 27 5 .i64 i0 Tryz.underlying27 hi0 1 hz1 A left.length c n (by omega) (by omega)
 have ht:Kd.C (Kd.int .u8) w A n (left.take n):=by
  have:=Kd.Uq (m:=n) h3 hn
  rwa [List.length_take,Nat.min_eq_left hn] at this
 have hcd:=Kd.Ob (m:=n) (c:=c) h3 (by omega) h2;rw[Int.toNat_natCast] at hs1 hs2;rw[show (Kd.int .u8).sz=1 from rfl] at hcd
 obtain⟨a3,NI⟩:∃a3,(if c=n then A else A.map (·.add (n*1)))=a3:=⟨_,rfl⟩
 have h3B:left.drop n≠[]→∀ad,a3=some ad→ad.block<B:=fun hne ad he=>by
  have hAB:=hAB (fun e=>hne (by rw[e];exact List.drop_nil));rw[← NI] at he;split at he
  ·exact hAB ad he
  ·cases A with
   | none=>cases he
   | some a0=>have:=Option.some.inj he;rw[← this,add_block];exact hAB a0 rfl
 rw[NI] at hs2 hcd;have H3B:=ah.mk h3B;have H1:=ah.mk h1;have H3:=ah.mk ht;have HC:=ah.mk hcd;clear h1 h3 ht hcd NI h3B
 go_enter Tryz.func97,Tryz.ntmps97
 go_wp2_with fail
 go_ret
 have hst:=IG HC.out H1.out 0 (.slice a3 (left.length - n) (c - n));refine⟨A,rfl,IG H3.out H1.out 0 _,⟨hBg,a3,c - n,?_,by rw[List.length_drop];omega,H3B.out,hst⟩,jK.set (G:=(· = g)) (b:=g) (show g=g from rfl) 0 _⟩;have:=dD H1.out 0 (.slice a3 (left.length - n) (c - n));rw[List.length_drop]
 simpa using this
def rT:Nat→Int→List Int→Int
 | _,v,[]=>v
 | i,v,c::l=>rT (i+1) (Go.bits .or .i64 v (wrap64 (c*2 ^ (8*i)))) l
def JQ (l:List Int):Int:=rT 0 0 l
theorem Xc (B:Nat) (w:World) (g:Nat) (left:List Int) (m:Nat) (H:Tk B w g left) (hn:left.length<m) (hn2:m≤8) (hl:left.length≤1099511627776) :
  Calls Tryz.prog 98 #[.pointer (some ⟨g,0,none⟩),.int .i64 m] w fun e w'=>e=dN∧w'=w:=by
 have C:=ah.mk (LD B w g left m H hn (by omega) hl)
 go_enter Tryz.func98,Tryz.ntmps98
 go_wp2_with (go_at_call 97;refine C.out.mono ?_;unfold dN;rintro e w2 ⟨rfl,rfl⟩)
 exact⟨rfl,rfl,rfl⟩
theorem Xd (B:Nat) (w:World) (g:Nat) (left:List Int) (m:Nat) (H:Tk B w g left) (hn:m≤left.length) (hm:m≤8) (hl:left.length≤1099511627776) (hb:∀x∈left,0≤x∧x≤255) :
  Calls Tryz.prog 98 #[.pointer (some ⟨g,0,none⟩),.int .i64 m] w fun e w'=>e=.returned (.int .i64 (JQ (left.take m)))∧Tk B w' g (left.drop m)∧Ft g w w':=by
 have cc:=LG B w g left m H hn hl
 obtain⟨bs,hbs⟩:∃bs,left.take m=bs:=⟨_,rfl⟩
 have hbl:bs.length=m:=by rw[← hbs,List.length_take];omega
 have hbb:∀x∈bs,0≤x∧x≤255:=fun x hx=>hb x (List.mem_of_mem_take (hbs▸hx))
 rw[hbs] at cc;rw[hbs];have C:=ah.mk cc;have vU:=ah.mk hbb;have Xe:=ah.mk hbl;clear H hb hbs hbb hbl cc
 go_enter Tryz.func98,Tryz.ntmps98
 go_wp2_with (go_at_call 97;refine C.out.mono ?_;rintro e w2 ⟨A,rfl,hc2,ht2,hf2⟩;have Dn:=ah.mk hc2;have HT2:=ah.mk ht2;have En:=ah.mk hf2;clear hc2 ht2 hf2)
 go_loopg [5,12] m (fun gk s5 s12 wx=>∃(i:Nat) (v:Int),i+gk=m∧s12=.int .i64 i∧s5=.int .i64 v∧ah (rT i v (bs.drop i)=JQ bs)∧ah (wx=w2))
 case atStart=>exact⟨0,0,by omega,rfl,rfl,⟨by rw[List.drop_zero];rfl⟩,⟨rfl⟩⟩
 case round=>
  obtain⟨i,v,hig,rfl,rfl,HN,HW⟩:=hrel;have hw:=HW.out;subst hw;by_cases hi:i<m
  ·have hd:decide ((i:Int)<(m:Int))=true:=decide_eq_true (by omega);have hd2:decide (i<m)=true:=decide_eq_true hi
   have hib:i<bs.length:=by rw[Xe.out];exact hi
   obtain⟨ad,hA,r0⟩:=Kd.rU Dn.out (i:Int) (by omega) (by omega);rw[Int.toNat_natCast,LH bs i hib] at r0;have hr:=vU.out _ (List.getElem_mem hib);have hn2:=HN.out;rw[List.drop_eq_getElem_cons hib,rT] at hn2
   obtain⟨c,hc⟩:∃c,bs[i]=c:=⟨_,rfl⟩
   rw[hc] at r0 hr hn2;obtain⟨hr0,hr1⟩:=hr;have JR:=ah.mk hn2;subst hA
   have e1:(8*(i:Int)).toNat=8*i:=by omega
   clear hn2 hc HN hib
   go_wp2_with fail
   go_roundg (m - (i+1))
   case measure=>omega
   case rel=>exact⟨i+1,_,by omega,by first|rfl|simp,by first|rfl|(simp;done),⟨JR.out⟩,⟨rfl⟩⟩
  ·have hd:decide ((i:Int)<(m:Int))=false:=decide_eq_false (by omega);have hd2:decide (i<m)=false:=decide_eq_false hi;have HE:=ah.mk (show v=JQ bs by have h:=HN.out;rw[List.drop_of_length_le (by rw[Xe.out];omega)] at h;exact h)
   go_wp2_with fail
   go_ret
   exact⟨by rw[HE.out];rfl,HT2.out,En.out⟩
def By (l:List Int):Prop:=l.length≤1073741824∧∀x∈l,0≤x∧x≤255
theorem By.take {l:List Int} (h:By l) (n:Nat):By (l.take n):=⟨by rw[List.length_take];have:=h.1;omega,fun x hx=>h.2 x (List.mem_of_mem_take hx)⟩
theorem By.drop {l:List Int} (h:By l) (n:Nat):By (l.drop n):=⟨by rw[List.length_drop];have:=h.1;omega,fun x hx=>h.2 x (List.mem_of_mem_drop hx)⟩
def lK (n:Nat) (l:List Int):Option (List Int × List Int):=if n≤l.length then some (l.take n,l.drop n) else none
def gF (m:Nat) (l:List Int):Option (Int × List Int):=if m≤l.length then some (JQ (l.take m),l.drop m) else none
def iF (l:List Int):Option (ByteArray × List Int):=match gF 2 l with
 | none=>none
 | some (n,l1)=>match lK n.toNat l1 with
  | none=>none
  | some (b,l2)=>some (strOfNums b,l2)
theorem uf {n:Nat} {l b r:List Int} (h:lK n l=some (b,r)) (hl:By l):By b∧By r∧b.length=n∧r.length≤l.length:=by
 unfold lK at h;split at h
 ·rename_i hn
  injection h with h
  injection h with h1 h2
  subst h1 h2;exact⟨hl.take n,hl.drop n,by rw[List.length_take];omega,by rw[List.length_drop];omega⟩
 ·cases h
theorem fD {m:Nat} {l r:List Int} {x:Int} (h:gF m l=some (x,r)) (hl:By l):By r∧r.length+m=l.length:=by
 unfold gF at h;split at h
 ·rename_i hn
  injection h with h
  injection h with h1 h2
  subst h2;exact⟨hl.drop m,by rw[List.length_drop];omega⟩
 ·cases h
theorem wrap64_in {n:Int} (h0 : -9223372036854775808≤n) (h1:n≤9223372036854775807):wrap64 n=n:=by unfold wrap64;omega
def Dp:List Int→Int
 | []=>0
 | c::l=>c+256*Dp l
theorem Eo:∀(l:List Int),(∀x∈l,0≤x∧x≤255)→0≤Dp l∧Dp l<256 ^ l.length
 | [],_=>by simp[Dp]
 | c::l,h=>by
  have h1:=Eo l (fun x hx=>h x (by simp[hx]));have h2:=h c (by simp);rw[Dp,List.length_cons,Int.pow_succ];omega
theorem II:∀(l:List Int) (i:Nat) (v:Int),(∀x∈l,0≤x∧x≤255)→i+l.length≤7→0≤v→v<2 ^ (8*i)→rT i v l=v+2 ^ (8*i)*Dp l
 | [],i,v,_,_,_,_=>by simp[rT,Dp]
 | c::l,i,v,h,hi,h0,h1=>by
  have hc:=h c (by simp);rw[List.length_cons] at hi;have hp:(0:Int)<2 ^ (8*i):=Int.pow_pos (by decide)
  have hle:(2:Int) ^ (8*i)≤281474976710656:=by
   have h:(2:Nat) ^ (8*i)≤2 ^ 48:=Nat.pow_le_pow_right (by decide) (by omega)
   have h2:(2:Int) ^ (8*i)=((2 ^ (8*i):Nat):Int):=by rw[Int.natCast_pow];rfl
   rw[h2];exact Int.ofNat_le.2 h
  have hs:(2:Int) ^ (8*(i+1))=2 ^ (8*i)*256:=by rw[show 8*(i+1)=8*i+8 by omega,Int.pow_add];rfl
  have hlow:=fun y (hy:0≤y) (hy2:y<2 ^ (8*i)) (z:Int) (hz:0≤z) (hz2:z<4611686018427387904) (hz3:z % 2 ^ (8*i)=0) (hy3:y<4611686018427387904)=>
   bits_join_low .i64 62 (by decide) (fun n h0 h1=>by rw[IntKind.wrap_i64];omega) (8*i) y z hy hy2 hy3 hz hz3 hz2
  have hmod:c*2 ^ (8*i) % 2 ^ (8*i)=0:=Int.mul_emod_left _ _;rw[rT]
  obtain⟨P,hP⟩:∃P:Int,P=2 ^ (8*i):=⟨_,rfl⟩
  have hc0:0≤c*P:=Int.mul_nonneg hc.1 (by omega);have hc1:c*P≤255*P:=Int.mul_le_mul_of_nonneg_right hc.2 (by omega);have hrec:=II l (i+1) (v+c*2 ^ (8*i)) (fun x hx=>h x (by simp[hx])) (by omega);rw[hs] at hrec;rw[← hP] at hlow hmod hle hp hs h1 hrec ⊢
  obtain⟨Z,hZ⟩:∃Z:Int,Z=c*P:=⟨_,rfl⟩
  rw[← hZ] at hc0 hc1 hmod hrec ⊢;rw[wrap64_in (by omega) (by omega),hlow v h0 h1 Z hc0 (by omega) hmod (by omega),hrec (by omega) (by omega),Dp,Int.mul_add,hZ,Int.mul_comm c P,Int.mul_assoc];omega
theorem LJ {l:List Int} (h:∀x∈l,0≤x∧x≤255) (hl:l.length≤7):JQ l=Dp l:=by
 unfold JQ;rw[II l 0 0 h (by omega) (by decide) (by decide)];simp
theorem kJ {m:Nat} {l r:List Int} {x:Int} (h:gF m l=some (x,r)) (hl:By l) (hm:m≤7):0≤x∧x<256 ^ m:=by
 unfold gF at h;split at h
 ·rename_i hn
  injection h with h
  injection h with h1 h2
  have hlen:(l.take m).length=m:=by rw[List.length_take];omega
  rw[← h1,LJ (hl.take m).2 (by omega)];have:=Eo _ (hl.take m).2
  rwa [hlen] at this
 ·cases h
theorem lM {B:Nat} {w:World} {g:Nat} {left r:List Int} {m:Nat} {x:Int} (H:Tk B w g left) (hm:m≤8) (hl:By left) (h:gF m left=some (x,r)) :
  Calls Tryz.prog 98 #[.pointer (some ⟨g,0,none⟩),.int .i64 m] w fun e w'=>e=.returned (.int .i64 x)∧Tk B w' g r∧Ft g w w':=by
 unfold gF at h;split at h
 ·rename_i hn
  injection h with h
  injection h with h1 h2
  subst h1 h2;exact Xd B w g left m H hn hm (Nat.le_trans hl.1 (by decide)) hl.2
 ·cases h
theorem lN {B:Nat} {w:World} {g:Nat} {left:List Int} {m:Nat} (H:Tk B w g left) (hm:m≤8) (hl:By left) (h:gF m left=none) :
  Calls Tryz.prog 98 #[.pointer (some ⟨g,0,none⟩),.int .i64 m] w fun e w'=>e=dN∧Ft g w w':=by
 unfold gF at h;split at h
 ·cases h
 ·rename_i hn;refine (Xc B w g left m H (by omega) hm (Nat.le_trans hl.1 (by decide))).mono ?_;rintro e w' ⟨rfl,rfl⟩;exact⟨rfl,jK.refl _⟩
theorem xE {B:Nat} {w:World} {g:Nat} {left b r:List Int} {n:Nat} (H:Tk B w g left) (hl:By left) (h:lK n left=some (b,r)) :
  Calls Tryz.prog 97 #[.pointer (some ⟨g,0,none⟩),.int .i64 n] w fun e w'=>∃A,e=.returned (.slice A n n)∧Kd.C (Kd.int .u8) w' A n b∧Tk B w' g r∧Ft g w w':=by
 unfold lK at h;split at h
 ·rename_i hn
  injection h with h
  injection h with h1 h2
  subst h1 h2;exact LG B w g left n H hn (Nat.le_trans hl.1 (by decide))
 ·cases h
theorem BM {B:Nat} {w:World} {g:Nat} {left:List Int} {n:Nat} (H:Tk B w g left) (hl:By left) (hn2:n≤1099511627776) (h:lK n left=none) :
  Calls Tryz.prog 97 #[.pointer (some ⟨g,0,none⟩),.int .i64 n] w fun e w'=>e=dN∧Ft g w w':=by
 unfold lK at h;split at h
 ·cases h
 ·rename_i hn;refine (LD B w g left n H (by omega) hn2 (Nat.le_trans hl.1 (by decide))).mono ?_;rintro e w' ⟨rfl,rfl⟩;exact⟨rfl,jK.refl _⟩
end Go.Proofs.YtknihldkhedpkaaGreatDoor
end
