import Derived.Test.YtknihldkhedpkaaGreatDoorUUG10
import Derived.WalkLawsBesides
import Derived.Lib.EndianBits
import Derived.Test.YtknihldkhedpkaaGreatDoorUUG7
import Derived.Test.YtknihldkhedpkaaGreatDoorUUG8
import Derived.Laws.Rows
set_option linter.all false
set_option maxHeartbeats 16000000
set_option maxRecDepth 100000
section
namespace Go.Proofs.YtknihldkhedpkaaGreatDoor
open Go.RowKit Go.Lib
open Go.Proofs.YtknihldkhedpkaaGreatDoorW.PrintWords Go.Proofs.YtknihldkhedpkaaGreatDoorW.PrintLast Go.Proofs.YtknihldkhedpkaaGreatDoor.PT
theorem acV (P:Program) (t e:TypeId) (kh:IntKind) {i:TypeInfo} (ht:P.underlying t=some (.slice e)) (hi:P.info? e=some i) (A:Option Addr) (n c:Nat) (j:Int) (h0:0≤j) (hm:j≤n) (hc:n≤c) :
  ∀W:World,(Instr.slice t (.slice A n c) none (some (.int kh j)) (some (.int kh j))).run P W=.ok (.slice A j.toNat j.toNat) W:=by
 intro W
 have hel:P.elem t=e:=by simp[Program.elem,ht]
 have hu:P.underlying t=some (.slice (P.elem t)):=by rw[hel];exact ht
 have ha:(A.map fun x=>x.add 0)=A:=by cases A <;> simp[Addr.add]
 rw[run_slice_hm W t A n c hu kh kh j j h0 (Int.le_refl _) aj,hel];simp[sizeOf,typeInfo,hi,sliced,Result.andThen,ha]
def Tk (B:Nat) (w:World) (g:Nat) (left:List Int):Prop:=B≤g∧∃A c,w.heap[g]?=some (.cells #[.slice A left.length c] 145 (0,0))∧left.length≤c∧(left≠[]→∀ad,A=some ad→ad.block<B)∧Kd.C (Kd.int .u8) w A left.length left
abbrev Ft (g:Nat):World→World→Prop:=kg 0 (· = g) (fun _=>False)
theorem add_block (ad:Addr) (n:Nat):(ad.add n).block=ad.block:=by
 unfold Addr.add
 repeat' split
 all_goals rfl
theorem Tk.lt {B:Nat} {w:World} {g:Nat} {left:List Int} (h:Tk B w g left):g<w.heap.size:=by
 obtain⟨_,A,c,h,_⟩:=h;exact bE h
theorem PX {B:Nat} {w w1:World} {A:Option Addr} {n:Nat} {xs:List Int} (h:Kd.C (Kd.int .u8) w A n xs) (ha:xs≠[]→∀ad,A=some ad→ad.block<B) (hk:∀k,k<B→w1.heap[k]?=w.heap[k]?):Kd.C (Kd.int .u8) w1 A n xs:=by
 obtain⟨h1,h2,h3⟩:=h;refine⟨h1,h2,fun hn=>?_⟩;obtain⟨ad,rfl,hc⟩:=h3 hn;refine⟨ad,rfl,fun j2 p hj=>?_⟩;obtain⟨c,e1,e2,e3⟩:=hc j2 p hj;refine⟨c,e1,e2,fun i x hi=>?_⟩;have hcell:=e3 i x hi
 have hb:(ad.add (j2*(Kd.int .u8).sz+i)).block<B:=by rw[add_block];exact ha (fun e=>by rw[e] at hj;simp at hj) ad rfl
 rw[← hcell];unfold World.cell?;rw[hk _ hb]
theorem Tk.keep {B:Nat} {w w1:World} {g:Nat} {left:List Int} (h:Tk B w g left) (hk:∀k,k<B→w1.heap[k]?=w.heap[k]?) (hg:w1.heap[g]?=w.heap[g]?):Tk B w1 g left:=by
 obtain⟨h0,A,c,h1,h2,h3,h4⟩:=h;exact⟨h0,A,c,hg.trans h1,h2,h3,PX h4 h3 hk⟩
theorem Tk.below {B:Nat} {w w1:World} {g:Nat} {left:List Int} (h:Tk B w g left) (hb:Below w.heap.size w w1):Tk B w1 g left :=
 h.keep (fun k hk=>hb.block k (Nat.lt_of_lt_of_le hk (Nat.le_of_lt (Nat.lt_of_le_of_lt h.1 h.lt)))) (hb.block g h.lt)
theorem Tk.grow {B:Nat} {w w1:World} {g:Nat} {left:List Int} {row:Option Nat} (h:Tk B w g left) (hg:w.grownBy w1 row) (hb:∀k,row=some k→B≤k∧k≠g):Tk B w1 g left:=by
 have hlt:=h.lt;have h0:=h.1;exact h.keep (fun k hk=>hg.block k aj (fun e=>by have:=(hb k e.symm).1;omega)) (hg.block g hlt (fun e=>(hb g e.symm).2 rfl))
theorem Tk.set {B:Nat} {w:World} {g:Nat} {left:List Int} (h:Tk B w g left) {b j:Nat} (u:Value) (hb:B≤b) (hg:b≠g):Tk B (w.setCell ⟨b,j,none⟩ u) g left :=
 h.keep (fun k hk=>Below.heap_setCell w ⟨b,j,none⟩ u k (by show k≠b;omega)) (Below.heap_setCell w ⟨b,j,none⟩ u g (fun e=>hg e.symm))
theorem Ft.grow {α:Type} {d:Kd α} {e:Nat} {ok:Nat→Prop} {v:Value} {xs:List α} {g:Nat} {w W w1:World} (h:Ft g w W) (hr:d.R e W w.heap.size ok v xs) (hg:W.grownBy w1 v.ownBlock):Ft g w w1 :=
 ⟨hg.os.trans h.os,hg.tape.trans h.tape,hg.output.trans h.output,Nat.le_trans h.size hg.size,fun k o ho=>by
  rcases h.blocks k o ho with e|e
  ·exact .inl e
  refine .inr ((hg.block k (bE e) (fun he=>?_)).trans e);obtain⟨_,inner,ho2,_⟩:=hr;have:=mH ho2 k he.symm;have:=bE ho
  omega⟩
def dW:Ending:=.panicked [{ v:=.iface 141 (.agg #[]),recovered:=false }]
theorem int_ne {w:World} {g:Nat} {B:Option Addr} {m cc:Nat} {p:Addr} {k:IntKind} {z:Int} (hg:w.heap[g]?=some (.cells #[.slice B m cc] 145 (0,0))) (h:w.cell? p=some (.int k z)):p.block≠g:=by
 intro e;unfold World.cell? at h;rw[e,hg] at h;dsimp only at h;split at h
 ·cases h
 cases ho:p.off with
 | zero=>rw[ho] at h;simp at h
 | succ n=>rw[ho] at h;simp at h
theorem JI {w:World} {g:Nat} {B:Option Addr} {m cc:Nat} {A:Option Addr} {n:Nat} {xs:List Int} (h:Kd.C (Kd.int .u8) w A n xs) (hg:w.heap[g]?=some (.cells #[.slice B m cc] 145 (0,0))) (j:Nat) (u:Value):Kd.C (Kd.int .u8) (w.setCell ⟨g,j,none⟩ u) A n xs:=by
 obtain⟨h1,h2,h3⟩:=h;refine⟨h1,h2,fun hn=>?_⟩;obtain⟨ad,rfl,hc⟩:=h3 hn;refine⟨ad,rfl,fun j2 p hj=>?_⟩;obtain⟨c,e1,e2,e3⟩:=hc j2 p hj;refine⟨c,e1,e2,fun i x hi=>?_⟩;have hcell:=e3 i x hi;obtain rfl:c=[.int .u8 p]:=e2
 have hx:x=.int .u8 p:=by
  have:=List.mem_of_getElem? hi
  simpa using this
 subst hx;have hne:=int_ne hg hcell;rw[← hcell];unfold World.cell?;rw[Below.heap_setCell w ⟨g,j,none⟩ u _ hne]
theorem Ng (B:Nat) (w:World) (g:Nat) (left:List Int) (n:Nat) (H:Tk B w g left) (hn:left.length<n) (hn2:n≤1099511627776) (hl:left.length≤1099511627776) :
  Calls Tryz.prog 97 #[.pointer (some ⟨g,0,none⟩),.int .i64 n] w fun e w'=>e=dW∧w'=w:=by
 obtain⟨hBg,A,c,h1,h2,hAB,h3⟩:=H
 have c0:w.cell? ⟨g,0,none⟩=some (.slice A left.length c):=by rw[ak h1];rfl
 have hd:decide ((left.length:Int)<(n:Int))=true:=decide_eq_true aj;have hd2:decide (left.length<n)=true:=decide_eq_true hn;clear h1 h3
 go_enter Tryz.func97,Tryz.ntmps97
 go_wp2_with fail
 exact⟨rfl,rfl,rfl⟩
theorem Nh (B:Nat) (w:World) (g:Nat) (left:List Int) (n:Nat) (H:Tk B w g left) (hn:n≤left.length) (hl:left.length≤1099511627776) :
  Calls Tryz.prog 97 #[.pointer (some ⟨g,0,none⟩),.int .i64 n] w fun e w'=>∃A,e=.returned (.slice A n n)∧Kd.C (Kd.int .u8) w' A n (left.take n)∧Tk B w' g (left.drop n)∧Ft g w w':=by
 obtain⟨hBg,A,c,h1,h2,hAB,h3⟩:=H
 have c0:w.cell? ⟨g,0,none⟩=some (.slice A left.length c):=by rw[ak h1];rfl
 have f0:=ay h1 0;have l0:=bE h1;have hd:decide ((left.length:Int)<(n:Int))=false:=decide_eq_false aj;have hd2:decide (left.length<n)=false:=decide_eq_false aj;obtain⟨i0,hi0,_,hz1,_⟩:=info_parts info5;have hs1:=acV Tryz.prog 27 5 .i64 (i:=i0) Tryz.underlying27 hi0 A left.length c n aj aj h2;have hs2:=@Fx Tryz.prog 27 5 .i64 i0 Tryz.underlying27 hi0 1 hz1 A left.length c n aj aj
 have ht:Kd.C (Kd.int .u8) w A n (left.take n):=by
  have:=Kd.V5 (m:=n) h3 hn
  rwa [List.length_take,Nat.min_eq_left hn] at this
 have hcd:=Kd.PY (m:=n) (c:=c) h3 aj h2;rw[Int.toNat_natCast] at hs1 hs2;rw[show (Kd.int .u8).sz=1 from rfl] at hcd
 obtain⟨a3,Pp⟩:∃a3,(if c=n then A else A.map (·.add (n*1)))=a3:=⟨_,rfl⟩
 have h3B:left.drop n≠[]→∀ad,a3=some ad→ad.block<B:=fun hne ad he=>by
  have hAB:=hAB (fun e=>hne (by rw[e];exact List.drop_nil));rw[← Pp] at he;split at he
  ·exact hAB ad he
  cases A with
  | none=>cases he
  | some a0=>have:=Option.some.inj he;rw[← this,add_block];exact hAB a0 rfl
 rw[Pp] at hs2 hcd;have H3B:=ah.mk h3B;have H1:=ah.mk h1;have H3:=ah.mk ht;have HC:=ah.mk hcd;clear h1 h3 ht hcd Pp h3B
 go_enter Tryz.func97,Tryz.ntmps97
 go_wp2_with fail
 go_ret
 have hst:=JI HC.out H1.out 0 (.slice a3 (left.length - n) (c - n));refine⟨A,rfl,JI H3.out H1.out 0 _,⟨hBg,a3,c - n,?_,by rw[List.length_drop];omega,H3B.out,hst⟩,kg.set (G:=(· = g)) (b:=g) (show g=g from rfl) 0 _⟩;have:=dM H1.out 0 (.slice a3 (left.length - n) (c - n));rw[List.length_drop]
 simpa using this
def sW:Nat→Int→List Int→Int
 | _,v,[]=>v
 | i,v,c::l=>sW (i+1) (Go.bits .or .i64 v (wrap64 (c*2 ^ (8*i)))) l
def KY (l:List Int):Int:=sW 0 0 l
theorem YR (B:Nat) (w:World) (g:Nat) (left:List Int) (m:Nat) (H:Tk B w g left) (hn:left.length<m) (hn2:m≤8) (hl:left.length≤1099511627776) :
  Calls Tryz.prog 98 #[.pointer (some ⟨g,0,none⟩),.int .i64 m] w fun e w'=>e=dW∧w'=w:=by
 have C:=ah.mk (Ng B w g left m H hn aj hl)
 go_enter Tryz.func98,Tryz.ntmps98
 go_wp2_with (go_at_call 97;refine C.out.mono ?_;unfold dW;rintro e w2 ⟨rfl,rfl⟩)
 exact⟨rfl,rfl,rfl⟩
theorem YS (B:Nat) (w:World) (g:Nat) (left:List Int) (m:Nat) (H:Tk B w g left) (hn:m≤left.length) (hm:m≤8) (hl:left.length≤1099511627776) (hb:∀x∈left,0≤x∧x≤255) :
  Calls Tryz.prog 98 #[.pointer (some ⟨g,0,none⟩),.int .i64 m] w fun e w'=>e=.returned (.int .i64 (KY (left.take m)))∧Tk B w' g (left.drop m)∧Ft g w w':=by
 have cc:=Nh B w g left m H hn hl
 obtain⟨bs,hbs⟩:∃bs,left.take m=bs:=⟨_,rfl⟩
 have hbl:bs.length=m:=by rw[← hbs,List.length_take];omega
 have hbb:∀x∈bs,0≤x∧x≤255:=fun x hx=>hb x (List.mem_of_mem_take (hbs▸hx))
 rw[hbs] at cc;rw[hbs];have C:=ah.mk cc;have wW:=ah.mk hbb;have YT:=ah.mk hbl;clear H hb hbs hbb hbl cc
 go_enter Tryz.func98,Tryz.ntmps98
 go_wp2_with (go_at_call 97;refine C.out.mono ?_;rintro e w2 ⟨A,rfl,hc2,ht2,hf2⟩;have JJ:=ah.mk hc2;have HT2:=ah.mk ht2;have zX:=ah.mk hf2;clear hc2 ht2 hf2)
 go_loopg [5,12] m (fun gk s5 s12 wx=>∃(i:Nat) (v:Int),i+gk=m∧s12=.int .i64 i∧s5=.int .i64 v∧ah (sW i v (bs.drop i)=KY bs)∧ah (wx=w2))
 case atStart=>exact⟨0,0,by omega,rfl,rfl,⟨by rw[List.drop_zero];rfl⟩,⟨rfl⟩⟩
 case round=>
  obtain⟨i,v,hig,rfl,rfl,HN,HW⟩:=hrel;have hw:=HW.out;subst hw;by_cases hi:i<m
  ·have hd:decide ((i:Int)<(m:Int))=true:=decide_eq_true aj;have hd2:decide (i<m)=true:=decide_eq_true hi
   have hib:i<bs.length:=by rw[YT.out];exact hi
   obtain⟨ad,hA,r0⟩:=Kd.qx JJ.out (i:Int) aj aj;rw[Int.toNat_natCast,Nk bs i hib] at r0;have hr:=wW.out _ (List.getElem_mem hib);have hn2:=HN.out;rw[List.drop_eq_getElem_cons hib,sW] at hn2
   obtain⟨c,hc⟩:∃c,bs[i]=c:=⟨_,rfl⟩
   rw[hc] at r0 hr hn2;obtain⟨hr0,hr1⟩:=hr;have Fy:=ah.mk hn2;subst hA
   have e1:(8*(i:Int)).toNat=8*i:=by omega
   clear hn2 hc HN hib
   go_wp2_with fail
   go_roundg (m - (i+1))
   case measure=>omega
   case rel=>exact⟨i+1,_,by omega,by first|rfl|simp,by first|rfl|(simp;done),⟨Fy.out⟩,⟨rfl⟩⟩
  have hd:decide ((i:Int)<(m:Int))=false:=decide_eq_false aj;have hd2:decide (i<m)=false:=decide_eq_false hi;have HE:=ah.mk (show v=KY bs by have h:=HN.out;rw[List.drop_of_length_le (by rw[YT.out];omega)] at h;exact h)
  go_wp2_with fail
  go_ret
  exact⟨by rw[HE.out];rfl,HT2.out,zX.out⟩
def By (l:List Int):Prop:=l.length≤1073741824∧∀x∈l,0≤x∧x≤255
theorem By.take {l:List Int} (h:By l) (n:Nat):By (l.take n):=⟨by rw[List.length_take];have:=h.1;omega,fun x hx=>h.2 x (List.mem_of_mem_take hx)⟩
theorem By.drop {l:List Int} (h:By l) (n:Nat):By (l.drop n):=⟨by rw[List.length_drop];have:=h.1;omega,fun x hx=>h.2 x (List.mem_of_mem_drop hx)⟩
def mK (n:Nat) (l:List Int):Option (List Int × List Int):=if n≤l.length then some (l.take n,l.drop n) else none
def gW (m:Nat) (l:List Int):Option (Int × List Int):=if m≤l.length then some (KY (l.take m),l.drop m) else none
def iZ (l:List Int):Option (ByteArray × List Int):=match gW 2 l with
 | none=>none
 | some (n,l1)=>match mK n.toNat l1 with
  | none=>none
  | some (b,l2)=>some (strOfNums b,l2)
theorem uS {n:Nat} {l b r:List Int} (h:mK n l=some (b,r)) (hl:By l):By b∧By r∧b.length=n∧r.length≤l.length:=by
 unfold mK at h;split at h
 ·rename_i hn
  injection h with h
  injection h with h1 h2
  subst h1 h2;exact⟨hl.take n,hl.drop n,by rw[List.length_take];omega,by rw[List.length_drop];omega⟩
 cases h
theorem fT {m:Nat} {l r:List Int} {x:Int} (h:gW m l=some (x,r)) (hl:By l):By r∧r.length+m=l.length:=by
 unfold gW at h;split at h
 ·rename_i hn
  injection h with h
  injection h with h1 h2
  subst h2;exact⟨hl.drop m,by rw[List.length_drop];omega⟩
 cases h
theorem wrap64_in {n:Int} (h0 : -9223372036854775808≤n) (h1:n≤9223372036854775807):wrap64 n=n:=by unfold wrap64;omega
def Er:List Int→Int
 | []=>0
 | c::l=>c+256*Er l
theorem Fz:∀(l:List Int),(∀x∈l,0≤x∧x≤255)→0≤Er l∧Er l<256 ^ l.length
 | [],_=>by simp[Er]
 | c::l,h=>by
  have h1:=Fz l (fun x hx=>h x (by simp[hx]));have h2:=h c bK;rw[Er,List.length_cons,Int.pow_succ];omega
theorem JK:∀(l:List Int) (i:Nat) (v:Int),(∀x∈l,0≤x∧x≤255)→i+l.length≤7→0≤v→v<2 ^ (8*i)→sW i v l=v+2 ^ (8*i)*Er l
 | [],i,v,_,_,_,_=>by simp[sW,Er]
 | c::l,i,v,h,hi,h0,h1=>by
  have hc:=h c bK;rw[List.length_cons] at hi;have hp:(0:Int)<2 ^ (8*i):=Int.pow_pos aD
  have hle:(2:Int) ^ (8*i)≤281474976710656:=by
   have h:(2:Nat) ^ (8*i)≤2 ^ 48:=Nat.pow_le_pow_right aD aj
   have h2:(2:Int) ^ (8*i)=((2 ^ (8*i):Nat):Int):=by rw[Int.natCast_pow];rfl
   rw[h2];exact Int.ofNat_le.2 h
  have hs:(2:Int) ^ (8*(i+1))=2 ^ (8*i)*256:=by rw[show 8*(i+1)=8*i+8 by omega,Int.pow_add];rfl
  have hlow:=fun y (hy:0≤y) (hy2:y<2 ^ (8*i)) (z:Int) (hz:0≤z) (hz2:z<4611686018427387904) (hz3:z % 2 ^ (8*i)=0) (hy3:y<4611686018427387904)=>
   bits_join_low .i64 62 aD (fun n h0 h1=>by rw[IntKind.wrap_i64];omega) (8*i) y z hy hy2 hy3 hz hz3 hz2
  have hmod:c*2 ^ (8*i) % 2 ^ (8*i)=0:=Int.mul_emod_left _ _;rw[sW]
  obtain⟨P,hP⟩:∃P:Int,P=2 ^ (8*i):=⟨_,rfl⟩
  have hc0:0≤c*P:=Int.mul_nonneg hc.1 aj;have hc1:c*P≤255*P:=Int.mul_le_mul_of_nonneg_right hc.2 aj;have hrec:=JK l (i+1) (v+c*2 ^ (8*i)) (fun x hx=>h x (by simp[hx])) aj;rw[hs] at hrec;rw[← hP] at hlow hmod hle hp hs h1 hrec ⊢
  obtain⟨Z,hZ⟩:∃Z:Int,Z=c*P:=⟨_,rfl⟩
  rw[← hZ] at hc0 hc1 hmod hrec ⊢;rw[wrap64_in aj aj,hlow v h0 h1 Z hc0 aj hmod aj,hrec aj aj,Er,Int.mul_add,hZ,Int.mul_comm c P,Int.mul_assoc];omega
theorem Nl {l:List Int} (h:∀x∈l,0≤x∧x≤255) (hl:l.length≤7):KY l=Er l:=by
 unfold KY;rw[JK l 0 0 h aj aD aD];simp
theorem lC {m:Nat} {l r:List Int} {x:Int} (h:gW m l=some (x,r)) (hl:By l) (hm:m≤7):0≤x∧x<256 ^ m:=by
 unfold gW at h;split at h
 ·rename_i hn
  injection h with h
  injection h with h1 h2
  have hlen:(l.take m).length=m:=by rw[List.length_take];omega
  rw[← h1,Nl (hl.take m).2 aj];have:=Fz _ (hl.take m).2
  rwa [hlen] at this
 cases h
theorem mM {B:Nat} {w:World} {g:Nat} {left r:List Int} {m:Nat} {x:Int} (H:Tk B w g left) (hm:m≤8) (hl:By left) (h:gW m left=some (x,r)) :
  Calls Tryz.prog 98 #[.pointer (some ⟨g,0,none⟩),.int .i64 m] w fun e w'=>e=.returned (.int .i64 x)∧Tk B w' g r∧Ft g w w':=by
 unfold gW at h;split at h
 ·rename_i hn
  injection h with h
  injection h with h1 h2
  subst h1 h2;exact YS B w g left m H hn hm (Nat.le_trans hl.1 aD) hl.2
 cases h
theorem mO {B:Nat} {w:World} {g:Nat} {left:List Int} {m:Nat} (H:Tk B w g left) (hm:m≤8) (hl:By left) (h:gW m left=none) :
  Calls Tryz.prog 98 #[.pointer (some ⟨g,0,none⟩),.int .i64 m] w fun e w'=>e=dW∧Ft g w w':=by
 unfold gW at h;split at h
 ·cases h
 rename_i hn;refine (YR B w g left m H aj hm (Nat.le_trans hl.1 aD)).mono ?_;rintro e w' ⟨rfl,rfl⟩;exact⟨rfl,kg.refl _⟩
theorem yI {B:Nat} {w:World} {g:Nat} {left b r:List Int} {n:Nat} (H:Tk B w g left) (hl:By left) (h:mK n left=some (b,r)) :
  Calls Tryz.prog 97 #[.pointer (some ⟨g,0,none⟩),.int .i64 n] w fun e w'=>∃A,e=.returned (.slice A n n)∧Kd.C (Kd.int .u8) w' A n b∧Tk B w' g r∧Ft g w w':=by
 unfold mK at h;split at h
 ·rename_i hn
  injection h with h
  injection h with h1 h2
  subst h1 h2;exact Nh B w g left n H hn (Nat.le_trans hl.1 aD)
 cases h
theorem C9 {B:Nat} {w:World} {g:Nat} {left:List Int} {n:Nat} (H:Tk B w g left) (hl:By left) (hn2:n≤1099511627776) (h:mK n left=none) :
  Calls Tryz.prog 97 #[.pointer (some ⟨g,0,none⟩),.int .i64 n] w fun e w'=>e=dW∧Ft g w w':=by
 unfold mK at h;split at h
 ·cases h
 rename_i hn;refine (Ng B w g left n H aj hn2 (Nat.le_trans hl.1 aD)).mono ?_;rintro e w' ⟨rfl,rfl⟩;exact⟨rfl,kg.refl _⟩
def af0 (B g:Nat) (w:World) (o:Option (ByteArray × List Int)) (e:Ending) (w':World):Prop:=match o with
 | none=>e=dW∧Ft g w w'
 | some (s,r)=>e=.returned (.string s)∧Tk B w' g r∧Ft g w w'
theorem lX (B:Nat) (w:World) (g:Nat) (left:List Int) (H:Tk B w g left) (hl:By left) :
  Calls Tryz.prog 126 #[.pointer (some ⟨g,0,none⟩)] w fun e w'=>af0 B g w (iZ left) e w':=by
 cases h1:gW 2 left with
 | none=>
  have C:=ah.mk (mO H aD hl h1);have HE:=ah.mk (show iZ left=none by unfold iZ;rw[h1]);clear H h1
  go_enter Tryz.func126,Tryz.ntmps126
  go_wp2_with (go_at_call 98;refine C.out.mono ?_;unfold dW;rintro e w2 ⟨rfl,hf⟩)
  exact⟨rfl,by rw[HE.out];exact⟨rfl,hf⟩⟩
 | some q=>
  obtain⟨n,l1⟩:=q;have C:=ah.mk (mM H aD hl h1);obtain⟨hl1,_⟩:=fT h1 hl;have hn:=lC h1 hl aD
  obtain⟨k,rfl⟩:∃k:Nat,n=k:=⟨n.toNat,by omega⟩
  have hk:k<65536:=by have:=hn.2;omega
  have hC2:=fun w2 (H2:Tk B w2 g l1)=>H2
  cases h2:mK k l1 with
  | none=>
   have HE:=ah.mk (show iZ left=none by unfold iZ;rw[h1];dsimp only;rw[Int.toNat_natCast,h2]);have C2:=ah.mk (fun w2 (H2:Tk B w2 g l1)=>C9 H2 hl1 aj h2);clear H h1 h2 hn hC2
   go_enter Tryz.func126,Tryz.ntmps126
   go_wp2_with (first
    | (go_at_call 98;refine C.out.mono ?_;rintro e w2 ⟨rfl,ht,hf⟩;have HT:=ah.mk ht;have HF:=ah.mk hf;clear ht hf)
    | (go_at_call 97;refine (C2.out _ HT.out).mono ?_;unfold dW;rintro e w3 ⟨rfl,hf3⟩))
   exact⟨rfl,by rw[HE.out];exact⟨rfl,HF.out.trans hf3⟩⟩
  | some q=>
   obtain⟨b,r⟩:=q;have HE:=ah.mk (show iZ left=some (strOfNums b,r) by unfold iZ;rw[h1];dsimp only;rw[Int.toNat_natCast,h2]);have C2:=ah.mk (fun w2 (H2:Tk B w2 g l1)=>yI H2 hl1 h2);clear H h1 h2 hn hC2
   go_enter Tryz.func126,Tryz.ntmps126
   go_wp2_with (first
    | (go_at_call 98;refine C.out.mono ?_;rintro e w2 ⟨rfl,ht,hf⟩;have HT:=ah.mk ht;have HF:=ah.mk hf;clear ht hf)
    | (go_at_call 97;refine (C2.out _ HT.out).mono ?_;rintro e w3 ⟨A,rfl,hc3,ht3,hf3⟩;have hstr:=Kd.qH (P:=Tryz.prog) (c:=k) (src:=27) (dst:=9) Tryz.underlying27 Tryz.underlying5 Tryz.underlying9 hc3;have HT3:=ah.mk ht3;have yJ:=ah.mk hf3;clear hc3 ht3 hf3))
   go_ret
   rw[HE.out];exact⟨rfl,HT3.out,HF.out.trans yJ.out⟩
def uT:Nat→Int→List Ru→List Int→Option (List Ru × Int × List Int)
 | 0,all,acc,l=>some (acc,all,l)
 | k+1,all,acc,l=>match gW 4 l with
  | none=>none
  | some (a,l1)=>match gW 4 l1 with
   | none=>none
   | some (b,l2)=>if b≤a∨16522<b then none else uT k (all+(b - a)) (acc++[⟨a,b⟩]) l2
def mo (l:List Int):Option (List Ru × Int × List Int):=match gW 4 l with
 | none=>none
 | some (n,l1)=>uT n.toNat 0 [] l1
def af2 (B g:Nat) (w:World) (o:Option (List Ru × Int × List Int)) (e:Ending) (w':World):Prop:=match o with
 | none=>e=dW∧Ft g w w'
 | some (rs,all,r)=>∃v,e=.returned (.tuple #[v,.int .i64 all])∧Kd.R dB 117 w' w.heap.size (fun _=>True) v rs∧Tk B w' g r∧Ft g w w'
theorem V6 {α:Type} {d:Kd α} {e g:Nat} {w0:World} {ok:Nat→Prop} {v:Value} {xs:List α} {W W1:World} {B:Nat} {left:List Int} {base:Nat} (h:d.R e W base ok v xs) (ht:Tk B W g left) (hE:∀q,q∈e::d.E→q≠145) (hf:Ft g W W1):d.R e W1 base (fun k=>ok k∧base≤k∧k<W.heap.size∧k≠g) v xs:=by
 have hb:=Kd.gM h;obtain⟨_,A,c,hblk,_⟩:=ht
 have h2:d.R e W base (fun k=>ok k∧base≤k∧k<W.heap.size∧k≠g) v xs:=Kd.dU hb (fun k hk=>⟨hk.1,hk.2.1,hk.2.2.1,fun eg=>by
  obtain⟨q,hq,cells,hc⟩:=hk.2.2.2;rw[eg,hblk] at hc
  injection hc with hc
  injection hc with _ hc
  exact hE q hq hc.symm⟩)
 refine Kd.ou h2 (fun k hk hlt=>?_);have h1:=Array.getElem?_eq_getElem hlt
 rcases hf.blocks k _ h1 with (e1|⟨_,_,_,_,e1⟩)|e1
 ·exact absurd e1 hk.2.2.2
 ·exact e1.elim
 rw[e1,h1]
theorem yK {g:Nat} {v:Value} {xs:List Ru} {W W1:World} {B:Nat} {left:List Int} {base:Nat} (h:Kd.R dB 117 W base (fun _=>True) v xs) (ht:Tk B W g left) (hf:Ft g W W1):Kd.R dB 117 W1 base (fun _=>True) v xs :=
 Kd.dU (V6 (w0:=W) h ht aD hf) (fun _ _=>trivial)
theorem sI (B:Nat) (w:World) (g:Nat) (left:List Int) (H:Tk B w g left) (hl:By left) :
  Calls Tryz.prog 128 #[.pointer (some ⟨g,0,none⟩)] w fun e w'=>af2 B g w (mo left) e w':=by
 obtain⟨o,ho⟩:∃o,mo left=o:=⟨_,rfl⟩
 rw[ho];have HGS:=H.lt;have hBs:B≤w.heap.size:=Nat.le_of_lt (Nat.lt_of_le_of_lt H.1 HGS)
 cases h1:gW 4 left with
 | none=>
  have C:=ah.mk (mO H aD hl h1);have HE:=ah.mk (show o=none by rw[← ho];unfold mo;rw[h1]);clear H h1 ho
  go_enter Tryz.func128,Tryz.ntmps128
  go_wp2_with (go_at_call 98;refine C.out.mono ?_;unfold dW;rintro e w2 ⟨rfl,hf⟩)
  exact⟨rfl,by rw[HE.out];exact⟨rfl,hf⟩⟩
 | some q=>
  obtain⟨n,l1⟩:=q;have C:=ah.mk (mM H aD hl h1);obtain⟨hl1,_⟩:=fT h1 hl;have hn:=lC h1 hl aD
  obtain⟨N,rfl⟩:∃k:Nat,n=k:=⟨n.toNat,by omega⟩
  have hN:N<4294967296:=by have:=hn.2;omega
  have HO:=ah.mk (show uT N 0 [] l1=o by rw[← ho];unfold mo;rw[h1];dsimp only;rw[Int.toNat_natCast]);have HL1:=ah.mk hl1;clear H h1 hn ho hl1
  go_enter Tryz.func128,Tryz.ntmps128
  go_wp2_with (go_at_call 98;refine C.out.mono ?_;rintro e w2 ⟨rfl,ht,hf⟩;have HT:=ah.mk ht;have HF:=ah.mk hf;clear ht hf)
  go_loopg [4,5,9] N (fun gk s4 s5 s9 wx=>∃(i:Nat) (v:Value) (acc:List Ru) (all:Int) (rest:List Int),i+gk=N∧s9=.int .i64 i∧s4=v∧s5=.int .i64 all∧0≤all∧all≤16522*i∧ah (acc.length=i)∧ah (uT gk all acc rest=o)∧ah (By rest)∧ah (Kd.R dB 117 wx w.heap.size (fun _=>True) v acc)∧ah (Tk B wx g rest)∧ah (Ft g w wx))
  case atStart=>exact⟨0,_,[],0,l1,by omega,rfl,rfl,rfl,by omega,by omega,⟨rfl⟩,HO,HL1,⟨Kd.eY _ _ _ _ _⟩,HT,HF⟩
  case round=>
   clear HT HF HO HL1;obtain⟨i,v,acc,all,rest,hig,rfl,rfl,rfl,ha0,ha1,HL,HO,HBy,HR,HT,HF⟩:=hrel
   cases gk with
   | zero=>
    have hd:decide ((i:Int)<(N:Int))=false:=decide_eq_false aj;have hd2:decide (i<N)=false:=decide_eq_false aj;have HE:=ah.mk (show o=some (acc,all,rest) from HO.out.symm)
    go_wp2_with fail
    go_ret2
    rw[HE.out];exact⟨_,rfl,HR.out,HT.out,HF.out⟩
   | succ gk=>
    have hd:decide ((i:Int)<(N:Int))=true:=decide_eq_true aj;have hd2:decide (i<N)=true:=decide_eq_true aj;have ho:=HO.out;rw[uT] at ho
    cases h1:gW 4 rest with
    | none=>
     rw[h1] at ho;have C1:=ah.mk (mO HT.out aD HBy.out h1);have HE:=ah.mk (show o=none from ho.symm);clear ho h1
     go_wp2_with (go_at_call 98;refine C1.out.mono ?_;unfold dW;rintro e w3 ⟨rfl,hf⟩)
     exact⟨rfl,by rw[HE.out];exact⟨rfl,HF.out.trans hf⟩⟩
    | some q=>
     obtain⟨a,r1⟩:=q;rw[h1] at ho;dsimp only at ho;have C1:=ah.mk (mM HT.out aD HBy.out h1);have hr1:=(fT h1 HBy.out).1;obtain⟨ha2,Pp⟩:=lC h1 HBy.out aD;rw[show (256:Int) ^ 4=4294967296 by decide] at Pp
     cases h2:gW 4 r1 with
     | none=>
      rw[h2] at ho;have C2:=ah.mk (fun w2 (H2:Tk B w2 g r1)=>mO H2 aD hr1 h2);have HE:=ah.mk (show o=none from ho.symm);clear ho h1 h2 hr1;have tok:=ah.mk True.intro
      go_wp2_with (first
       | (have _t:=tok;go_at_call 98;refine C1.out.mono ?_;rintro e w3 ⟨rfl,ht,hf⟩;have HT3:=ah.mk ht;have yJ:=ah.mk hf;clear ht hf tok)
       | (go_at_call 98;refine (C2.out _ HT3.out).mono ?_;unfold dW;rintro e w4 ⟨rfl,uP⟩))
      exact⟨rfl,by rw[HE.out];exact⟨rfl,HF.out.trans (yJ.out.trans uP)⟩⟩
     | some q=>
      obtain⟨b,r2⟩:=q;rw[h2] at ho;dsimp only at ho;have C2:=ah.mk (fun w2 (H2:Tk B w2 g r1)=>mM H2 aD hr1 h2);have hr2:=ah.mk (fT h2 hr1).1;obtain⟨hb2,hb3⟩:=lC h2 hr1 aD;rw[show (256:Int) ^ 4=4294967296 by decide] at hb3;have wU:=ah.mk ho;clear ho h1 h2 hr1;have tok:=ah.mk True.intro
      go_upto_region 6 with (first
       | (have _t:=tok;go_at_call 98;refine C1.out.mono ?_;rintro e w3 ⟨rfl,ht,hf⟩;have HT3:=ah.mk ht;have yJ:=ah.mk hf;clear ht hf tok)
       | (go_at_call 98;refine (C2.out _ HT3.out).mono ?_;rintro e w4 ⟨rfl,V7,uP⟩;have Sg:=ah.mk V7;have I5:=ah.mk uP;clear V7 uP))
      have hba:=(Below.refl w4.heap.size w4).alloc (Nat.le_refl _) (.cells #[.int .i64 a,.int .i64 b] 117);have hbk:=bJ w4 (.cells #[.int .i64 a,.int .i64 b] 117)
      obtain⟨W1,hW1⟩:∃W1,w4.alloc (.cells #[.int .i64 a,.int .i64 b] 117)=W1:=⟨_,rfl⟩
      rw[hW1] at hba hbk ⊢
      obtain⟨bx,hbx⟩:∃bx,w4.heap.size=bx:=⟨_,rfl⟩
      rw[hbx] at hbk ⊢
      have x0:W1.cell? ⟨bx,0,none⟩=some (.int .i64 a):=by rw[ak hbk];rfl
      have x1:W1.cell? ⟨bx,1,none⟩=some (.int .i64 b):=by rw[ak hbk];rfl
      have HK:=ah.mk hbk;have hs4:w.heap.size≤w4.heap.size:=Nat.le_trans HF.out.size (Nat.le_trans yJ.out.size I5.out.size);have HRW:=ah.mk (Kd.dF (yK (yK HR.out HT.out yJ.out) HT3.out I5.out) hba);have HTW:=ah.mk (Sg.out.below hba);have HFW:=ah.mk (HF.out.trans (yJ.out.trans (I5.out.trans (kg.below hba))));have hsW:w.heap.size≤W1.heap.size:=Nat.le_trans hs4 hba.size;clear hba hbk hW1 hbx HR HT HF HT3 yJ Sg I5;by_cases hc1:b≤a
      ·have HE:=ah.mk (show o=none by rw[← wU.out,if_pos (.inl hc1)])
       go_wp2_with fail
       exact⟨rfl,by rw[HE.out];exact⟨rfl,HFW.out⟩⟩
      by_cases hc2:16522<b
      ·have HE:=ah.mk (show o=none by rw[← wU.out,if_pos (.inr hc2)])
       go_wp2_with fail
       exact⟨rfl,by rw[HE.out];exact⟨rfl,HFW.out⟩⟩
      have HE:=ah.mk (show uT gk (all+(b - a)) (acc++[⟨a,b⟩]) r2=o by rw[← wU.out,if_neg aj]);have hla:=HL.out;obtain⟨As,ca,hvs⟩:=Kd.bG HRW.out;subst hvs;clear hla
      go_upto_region 9 with (fail)
      go_wp2_with (first
       | (refine dX (.load 117 (.tmp 6)) rfl ?_;refine wpList_load_row rfl _ _ rfl bx rfl 117 #[.int .i64 a,.int .i64 b] (0,0) _ HK.out Tryz.underlying117 rfl aA ?_)
       | ((with_reducible refine dx (b:=.append) (xs:=#[.tmp 35,.tmp 37]) rfl ?_);at_builtin;refine Kd.mP dB (w0:=W1) w.heap.size rfl (.tmp 35) (.tmp 37) 26 117 (.agg #[(.int .i64 0),(.int .i64 0)]) 16 rfl Tryz.underlying26 EF rfl aD aj (.slice As acc.length ca) acc (⟨a,b⟩:Ru) [.int .i64 a,.int .i64 b] (fun _=>True) (fun _=>False) rfl rfl ?aP (fun _ hk=>hk.elim) (fun _ _=>trivial) HRW.out (Below.refl _ _ |>.mono hsW) hsW (by have:=HL.out;omega) ?_;(case aP=>exact wY _ _ _ (⟨a,b⟩:Ru));intro v2 w5 oF hb5 hg5 af3;have nD:=ah.mk oF;have HG5:=ah.mk hg5;have HA5:=ah.mk af3;clear oF hb5 hg5 af3))
      obtain⟨A5,c5,hv5⟩:=Kd.bG nD.out;subst hv5
      have hne:∀k,(Value.slice As acc.length ca).ownBlock=some k→B≤k∧k≠g:=fun k hk=>by
       obtain⟨_,inner,ho2,_⟩:=HRW.out;have h1:=mH ho2 k hk;refine⟨by omega,fun e=>?_⟩;obtain⟨_,As2,cs2,hblk,_⟩:=HTW.out;exact Kd.uJ HRW.out hblk aD (by rw[← e];exact hk.symm)
      have PZ:=ah.mk ((HTW.out.below ((Below.refl W1.heap.size W1).alloc (Nat.le_refl _) (.cells #[.int .i64 a,.int .i64 b] 117))))
      go_roundg gk
      case measure=>omega
      case rel=>exact⟨i+1,_,acc++[⟨a,b⟩],all+(b - a),r2,by omega,by first|rfl|simp,rfl,by first|rfl|simp,by omega,by omega,⟨by rw[List.length_append,HL.out];rfl⟩,HE,hr2,nD,⟨HTW.out.grow HG5.out hne⟩,⟨Ft.grow HFW.out HRW.out HG5.out⟩⟩
def ql (n:Int) (l:List Int):Option (List Int × List Int):=if (l.length:Int) / 512<n then none else mK (n*512).toNat l
def af4 (B g:Nat) (w:World) (o:Option (List Int × List Int)) (e:Ending) (w':World):Prop:=match o with
 | none=>e=dW∧Ft g w w'
 | some (b,r)=>∃v,e=.returned v∧Kd.R (Kd.int .u8) 5 w' w.heap.size (fun _=>True) v b∧Tk B w' g r∧Ft g w w'
theorem yL (B:Nat) (w:World) (g:Nat) (left:List Int) (n:Int) (H:Tk B w g left) (hl:By left) (hn0:0≤n) (hn1:n≤1152921504606846976) :
  Calls Tryz.prog 129 #[.pointer (some ⟨g,0,none⟩),.int .i64 n] w fun e w'=>af4 B g w (ql n left) e w':=by
 obtain⟨o,ho⟩:∃o,ql n left=o:=⟨_,rfl⟩
 rw[ho];have hl2:=hl.1;have H0:=H;obtain⟨hBg,A,c,h1,h2,hAB,h3⟩:=H
 have c0:w.cell? ⟨g,0,none⟩=some (.slice A left.length c):=by rw[ak h1];rfl
 clear h1 h3 h2 hAB;have hdv:Int.tdiv (left.length:Int) 512=(left.length:Int) / 512:=Int.tdiv_eq_ediv_of_nonneg aj;by_cases hc:(left.length:Int) / 512<n
 ·have hd:decide ((left.length:Int) / 512<n)=true:=decide_eq_true hc;have HE:=ah.mk (show o=none by rw[← ho];unfold ql;rw[if_pos hc]);have HF0:=ah.mk (show Ft g w w from kg.refl _);clear H0 ho
  go_enter Tryz.func129,Tryz.ntmps129
  go_wp2_with fail
  exact⟨rfl,by rw[HE.out];exact⟨rfl,HF0.out⟩⟩
 have hd:decide ((left.length:Int) / 512<n)=false:=decide_eq_false hc
 obtain⟨k,hk⟩:∃k:Nat,n*512=k:=⟨(n*512).toNat,by omega⟩
 have hkl:k≤left.length:=by omega
 have htk:mK k left=some (left.take k,left.drop k):=by unfold mK;rw[if_pos hkl]
 obtain⟨hbb,hbr,hbl,_⟩:=uS htk hl;have C:=ah.mk (yI H0 hl htk);have HE:=ah.mk (show o=some (left.take k,left.drop k) by rw[← ho];unfold ql;rw[if_neg hc,hk,Int.toNat_natCast,htk])
 obtain⟨b,hb⟩:∃b,left.take k=b:=⟨_,rfl⟩
 obtain⟨r,hr⟩:∃b,left.drop k=b:=⟨_,rfl⟩
 rw[hb,hr] at C HE;rw[hb] at hbl;have YT:=ah.mk hbl;have hsz:=H0.lt
 have hmul:wrap64 (n*512)=(k:Int):=by rw[← hk,wrap64_in aj aj]
 have ao0:IntKind.i64.wrap (n*512)=(k:Int):=by rw[IntKind.wrap_i64,← hk];omega
 clear H0 ho htk hbb hbr hb hr hbl
 go_enter Tryz.func129,Tryz.ntmps129
 go_wp2_with (first
  | (go_at_call 97;(first|(refine C.out.mono ?_)|(rw[hk];refine C.out.mono ?_));rintro e w2 ⟨A2,rfl,hc2,ht2,hf2⟩;have JJ:=ah.mk hc2;have HT2:=ah.mk ht2;have zX:=ah.mk hf2;clear hc2 ht2 hf2)
  | (go_at_call 143;have hcl:=jJ.calls A2 k b b w2 (by rw[YT.out];exact JJ.out) (by rw[YT.out];exact Nat.le_refl _) (by unfold jJ.f;rw[if_pos (by rw[YT.out];omega)]);rw[YT.out] at hcl;refine hcl.mono ?_;rintro e w3 ⟨v3,rfl,hr3,hb3⟩;have HR3:=ah.mk hr3;have HB3:=ah.mk hb3;clear hcl hr3 hb3))
 go_ret
 rw[HE.out];exact⟨v3,rfl,⟨HR3.out.1,eU.lower HR3.out.2 zX.out.size⟩,HT2.out.below HB3.out,zX.out.trans (kg.below HB3.out)⟩
theorem nR {l r:List Int} {s:ByteArray} (h:iZ l=some (s,r)) (hl:By l):By r∧r.length≤l.length∧s.size≤65535:=by
 unfold iZ at h
 cases h1:gW 2 l with
 | none=>rw[h1] at h;cases h
 | some q=>
  obtain⟨n,l1⟩:=q;rw[h1] at h;dsimp only at h;have h2:=fT h1 hl;have h3:=lC h1 hl aD;rw[show (256:Int) ^ 2=65536 by decide] at h3
  cases h4:mK n.toNat l1 with
  | none=>rw[h4] at h;cases h
  | some q=>
   obtain⟨b,l2⟩:=q;rw[h4] at h
   injection h with h
   injection h with e1 e2
   have h5:=uS h4 h2.1;subst e1 e2;exact⟨h5.2.1,by omega,by rw[strOfNums_size];omega⟩
theorem Nn:∀(k:Nat) (all all2:Int) (acc rs:List Ru) (l r:List Int),uT k all acc l=some (rs,all2,r)→By l→By r∧r.length≤l.length∧all≤all2∧all2≤all+16522*k∧rs.length*8≤acc.length*8+l.length
 | 0,all,all2,acc,rs,l,r,h,hl=>by
  rw[uT] at h
  injection h with h
  injection h with e1 e2
  injection e2 with e2 e3
  subst e1 e2 e3;exact⟨hl,Nat.le_refl _,by omega,by omega,by omega⟩
 | k+1,all,all2,acc,rs,l,r,h,hl=>by
  rw[uT] at h
  cases h1:gW 4 l with
  | none=>rw[h1] at h;cases h
  | some q=>
   obtain⟨a,l1⟩:=q;rw[h1] at h;dsimp only at h;have b1:=fT h1 hl;have b2:=lC h1 hl aD
   cases h2:gW 4 l1 with
   | none=>rw[h2] at h;cases h
   | some q=>
    obtain⟨b,l2⟩:=q;rw[h2] at h;dsimp only at h;have b3:=fT h2 b1.1;split at h
    ·cases h
    have ih:=Nn k _ _ _ _ _ _ h b3.1;simp only[List.length_append,List.length_cons,List.length_nil] at ih;exact⟨ih.1,by omega,by omega,by omega,by omega⟩
theorem oQ {l r:List Int} {rs:List Ru} {all:Int} (h:mo l=some (rs,all,r)) (hl:By l):By r∧r.length≤l.length∧0≤all∧all≤1152921504606846976∧rs.length*8≤l.length:=by
 unfold mo at h
 cases h1:gW 4 l with
 | none=>rw[h1] at h;cases h
 | some q=>
  obtain⟨n,l1⟩:=q;rw[h1] at h;dsimp only at h;have b1:=fT h1 hl;have b2:=lC h1 hl aD;rw[show (256:Int) ^ 4=4294967296 by decide] at b2;have ih:=Nn _ _ _ _ _ _ _ h b1.1;simp only[List.length_nil] at ih;exact⟨ih.1,by omega,by omega,by omega,by omega⟩
theorem Bb {n:Int} {l b r:List Int} (h:ql n l=some (b,r)) (hl:By l):By r∧r.length≤l.length∧By b:=by
 unfold ql at h;split at h
 ·cases h
 have:=uS h hl;exact⟨this.2.1,this.2.2.2,this.1⟩
theorem Ft.box {g:Nat} {W W1:World} {k:Nat} {o:Obj} (h:Ft g W W1) (hb:W.heap[k]?=some o) (hk:k≠g):W1.heap[k]?=some o:=by
 rcases h.blocks k o hb with (e|⟨_,_,_,_,e⟩)|e
 ·exact absurd e hk
 ·exact e.elim
 exact e
theorem Ft.set {g:Nat} {w W:World} (h:Ft g w W) {b:Nat} (hb:w.heap.size≤b) (j:Nat) (u:Value):Ft g w (W.setCell ⟨b,j,none⟩ u):=by
 have hB:=(Below.refl 0 W).setCell (p:=⟨b,j,none⟩) (Nat.zero_le _) u;refine⟨hB.os.trans h.os,hB.tape.trans h.tape,hB.output.trans h.output,Nat.le_trans h.size hB.size,fun k o ho=>?_⟩;have hlt:=bE ho
 rcases h.blocks k o ho with e|e
 ·exact .inl e
 exact .inr ((Below.heap_setCell W ⟨b,j,none⟩ u k (by show k≠b;omega)).trans e)
theorem Ft.row {g:Nat} {w W:World} (h:Ft g w W) {b:Nat} (hb:w.heap.size≤b) (cs:Array Value):Ft g w (W.setRow b cs):=by
 have hB:=below_setRow (Below.refl 0 W) (Nat.zero_le b) cs;refine⟨hB.os.trans h.os,hB.tape.trans h.tape,hB.output.trans h.output,Nat.le_trans h.size hB.size,fun k o ho=>?_⟩;have hlt:=bE ho
 rcases h.blocks k o ho with e|e
 ·exact .inl e
 exact .inr ((setRow_other _ _ _ _ aj).trans e)
theorem Tk.row {B:Nat} {w:World} {g:Nat} {left:List Int} (h:Tk B w g left) {b:Nat} (cs:Array Value) (hb:B≤b) (hg:b≠g):Tk B (w.setRow b cs) g left :=
 h.keep (fun k hk=>setRow_other _ _ _ _ aj) (setRow_other _ _ _ _ (fun e=>hg e.symm))
theorem vS {w:World} {b b':Nat} {v:Value} {xs:List Ru} (h:Kd.R dB 117 w b (fun _=>True) v xs) (hb:b'≤b):Kd.R dB 117 w b' (fun _=>True) v xs:=⟨h.1,eU.lower h.2 hb⟩
theorem xD {w:World} {b b':Nat} {v:Value} {xs:List Int} (h:Kd.R (Kd.int .u8) 5 w b (fun _=>True) v xs) (hb:b'≤b):Kd.R (Kd.int .u8) 5 w b' (fun _=>True) v xs:=⟨h.1,eU.lower h.2 hb⟩
theorem ku {α:Type} {d:Kd α} {e base:Nat} {v:Value} {xs:List α} {W:World} {b:Nat} {cs:Array Value} {t:TypeId} (h:d.R e W base (fun _=>True) v xs) (hb:W.heap[b]?=some (.cells cs t (0,0))) (hE:∀q,q∈e::d.E→q≠t) (cs2:Array Value):d.R e (W.setRow b cs2) base (fun _=>True) v xs:=by
 have h2:=Kd.dU (ok':=fun k=>k≠b) (Kd.gM h) (fun k hk=>fun eg=>by
  obtain⟨_,_,_,q,hq,cells,hc⟩:=hk;rw[eg,hb] at hc
  injection hc with hc
  injection hc with _ hc
  exact hE q hq hc.symm)
 exact Kd.dU (Kd.ou h2 (fun k hk _=>setRow_other _ _ _ _ hk)) (fun _ _=>trivial)
def oU (l:List Int):Option (It × List Int):=match gW 1 l with
 | none=>none
 | some (k,l1)=>match iZ l1 with
  | none=>none
  | some (p,l2)=>
   if k=1 then match gW 8 l2 with
    | none=>none
    | some (sz,l3)=>match mo l3 with
     | none=>none
     | some (rs,all,l4)=>match ql all l4 with
      | none=>none
      | some (d,l5)=>some (⟨k,p,⟨#[]⟩,sz,rs,d⟩,l5)
   else if k=3∨k=4 then match iZ l2 with
    | none=>none
    | some (t,l3)=>some (⟨k,p,t,0,[],[]⟩,l3)
   else some (⟨k,p,⟨#[]⟩,0,[],[]⟩,l2)
def af5 (B g:Nat) (w:World) (o:Option (It × List Int)) (e:Ending) (w':World):Prop:=match o with
 | none=>e=dW∧Ft g w w'
 | some (x,r)=>∃v4 v5,e=.returned (.agg #[.int .i64 x.f0,.string x.f1,.string x.f2,.int .i64 x.f3,v4,v5])∧Kd.R dB 117 w' w.heap.size (fun _=>True) v4 x.f4∧Kd.R (Kd.int .u8) 5 w' w.heap.size (fun _=>True) v5 x.f5∧Tk B w' g r∧Ft g w w'
theorem JL (B:Nat) (w:World) (g:Nat) (left:List Int) (H:Tk B w g left) (hl:By left) :
  Calls Tryz.prog 127 #[.pointer (some ⟨g,0,none⟩)] w fun e w'=>af5 B g w (oU left) e w':=by
 obtain⟨o,ho⟩:∃o,oU left=o:=⟨_,rfl⟩
 rw[ho];unfold oU at ho;have hgs:=H.lt;have hBs:B≤w.heap.size:=Nat.le_of_lt (Nat.lt_of_le_of_lt H.1 hgs)
 have hg2:w.heap.size≠g:=by omega
 have hb0:=(Below.refl w.heap.size w).alloc (Nat.le_refl _) (.cells #[.int .i64 0,.string ⟨#[]⟩,.string ⟨#[]⟩,.int .i64 0,.slice none 0 0,.slice none 0 0] 29);have hbk:=bJ w (.cells #[.int .i64 0,.string ⟨#[]⟩,.string ⟨#[]⟩,.int .i64 0,.slice none 0 0,.slice none 0 0] 29)
 obtain⟨w0,hw0⟩:∃w0,w.alloc (.cells #[.int .i64 0,.string ⟨#[]⟩,.string ⟨#[]⟩,.int .i64 0,.slice none 0 0,.slice none 0 0] 29)=w0:=⟨_,rfl⟩
 rw[hw0] at hb0 hbk;have HB0:=ah.mk hbk;have HF0:=ah.mk (show Ft g w w0 from kg.below hb0);have HT0:=ah.mk (H.below hb0);clear hb0 hbk H
 go_enter Tryz.func127,Tryz.ntmps127
 go_wp2_with fail
 try rw[hw0]
 clear hw0
 cases h1:gW 1 left with
 | none=>
  rw[h1] at ho;have HE:=ah.mk (show o=none from ho.symm);refine (mO HT0.out aD hl h1).mono ?_;intro e w9 hh;obtain⟨he,nJ⟩:=hh;unfold dW at he;subst he
  go_wp2_with fail
  exact⟨rfl,by rw[HE.out];exact⟨rfl,HF0.out.trans nJ⟩⟩
 | some q=>
  obtain⟨k,l1⟩:=q;rw[h1] at ho;dsimp only at ho;refine (mM HT0.out aD hl h1).mono ?_;rintro e w1 ⟨rfl,ht1,hf1⟩;have I6:=ah.mk (HF0.out.trans hf1);have HT1:=ah.mk ht1;have HB1:=ah.mk (hf1.box HB0.out hg2);have hl1:=(fT h1 hl).1
  go_wp2_with fail
  cases h2:iZ l1 with
  | none=>
   have cc:=lX B w1 g l1 HT1.out hl1;rw[h2] at cc;rw[h2] at ho;have HE:=ah.mk (show o=none from ho.symm);refine (cc).mono ?_;intro e w9 hh;obtain⟨he,nJ⟩:=hh;unfold dW at he;subst he
   go_wp2_with fail
   exact⟨rfl,by rw[HE.out];exact⟨rfl,I6.out.trans nJ⟩⟩
  | some q=>
   obtain⟨p,l2⟩:=q;rw[h2] at ho;dsimp only at ho;have cc:=lX B w1 g l1 HT1.out hl1;rw[h2] at cc;refine cc.mono ?_;rintro e w2 ⟨rfl,ht2,hf2⟩;have zX:=ah.mk (I6.out.trans hf2);have HT2:=ah.mk ht2;have HB2:=ah.mk (hf2.box HB1.out hg2);clear cc;have hl2:=(nR h2 hl1).1
   go_upto_region 2 with (fail)
   have hba:=(Below.refl w2.heap.size w2).alloc (Nat.le_refl _) (.cells #[.int .i64 k,.string p,.string ⟨#[]⟩,.int .i64 0,.slice none 0 0,.slice none 0 0] 29);have hbk:=bJ w2 (.cells #[.int .i64 k,.string p,.string ⟨#[]⟩,.int .i64 0,.slice none 0 0,.slice none 0 0] 29)
   obtain⟨w3,acX⟩:∃w3,w2.alloc (.cells #[.int .i64 k,.string p,.string ⟨#[]⟩,.int .i64 0,.slice none 0 0,.slice none 0 0] 29)=w3:=⟨_,rfl⟩
   rw[acX] at hba hbk
   obtain⟨b3,hb3⟩:∃b3,b3=w2.heap.size:=⟨_,rfl⟩
   rw[← hb3] at hbk
   have hw3:w.heap.size≤b3:=by have:=zX.out.size;omega
   have hg3:b3≠g:=by omega
   have hB3:B≤b3:=by omega
   have tV:w.heap.size≠b3:=by have:=bE HB2.out;omega
   have qQ:=ah.mk hbk;have HB3:=ah.mk (aG HB2.out hba);have HT3:=ah.mk (HT2.out.below hba);have yJ:=ah.mk (zX.out.trans (kg.below hba))
   have c3:w3.cell? ⟨b3,0,none⟩=some (.int .i64 k):=by rw[ak qQ.out];rfl
   clear hba hbk;rw[acX,← hb3];clear acX hb3;by_cases k1:k=1
   ·have t1:(k == 1)=true:=beq_iff_eq.2 k1;rw[if_pos k1] at ho
    go_wp2_with fail
    cases h4:gW 8 l2 with
    | none=>
     rw[h4] at ho;have HE:=ah.mk (show o=none from ho.symm);refine (mO HT3.out aD hl2 h4).mono ?_;intro e w9 hh;obtain⟨he,nJ⟩:=hh;unfold dW at he;subst he
     go_wp2_with fail
     exact⟨rfl,by rw[HE.out];exact⟨rfl,yJ.out.trans nJ⟩⟩
    | some q=>
     obtain⟨sz,l3⟩:=q;rw[h4] at ho;dsimp only at ho;refine (mM HT3.out aD hl2 h4).mono ?_;rintro e w4 ⟨rfl,V7,uP⟩;have I5:=ah.mk (yJ.out.trans uP);have Sg:=ah.mk V7;have kJ:=ah.mk (uP.box HB3.out hg2);have wV:=ah.mk (uP.box qQ.out hg3);have hl3:=(fT h4 hl2).1;have z4:=bE wV.out;have f4:=ay wV.out 3;have y4:w4.cell? ⟨b3,3,none⟩=some _:=ak wV.out 3;have sP:=ah.mk (show (w4.setCell ⟨b3,3,none⟩ (.int .i64 sz)).heap[b3]?=some (.cells #[.int .i64 k,.string p,.string ⟨#[]⟩,.int .i64 sz,.slice none 0 0,.slice none 0 0] 29 (0,0)) by have:=dM wV.out 3 (.int .i64 sz);simpa using this);have kH:=ah.mk (show (w4.setCell ⟨b3,3,none⟩ (.int .i64 sz)).heap[w.heap.size]?=some (.cells #[.int .i64 0,.string ⟨#[]⟩,.string ⟨#[]⟩,.int .i64 0,.slice none 0 0,.slice none 0 0] 29 (0,0)) from (Below.heap_setCell w4 ⟨b3,3,none⟩ (.int .i64 sz) _ tV).trans kJ.out);have PZ:=ah.mk (Sg.out.set (.int .i64 sz) (j:=3) hB3 hg3);have Pv:=ah.mk (Ft.set I5.out hw3 3 (.int .i64 sz))
     obtain⟨w5,Da⟩:∃w5,w4.setCell ⟨b3,3,none⟩ (.int .i64 sz)=w5:=⟨_,rfl⟩
     rw[Da] at sP kH PZ Pv
     go_wp2_with fail
     try rw[Da]
     clear Da z4 f4 y4
     cases h6:mo l3 with
     | none=>
      have cc:=sI B w5 g l3 PZ.out hl3;rw[h6] at cc;rw[h6] at ho;have HE:=ah.mk (show o=none from ho.symm);refine (cc).mono ?_;intro e w9 hh;obtain⟨he,nJ⟩:=hh;unfold dW at he;subst he
      go_wp2_with fail
      exact⟨rfl,by rw[HE.out];exact⟨rfl,Pv.out.trans nJ⟩⟩
     | some q=>
      obtain⟨rs,all,l4⟩:=q;rw[h6] at ho;dsimp only at ho;have cc:=sI B w5 g l3 PZ.out hl3;rw[h6] at cc;refine cc.mono ?_;rintro e w6 ⟨v4,rfl,hr6,ht6,Ja⟩;have Yk:=ah.mk (Pv.out.trans Ja);have Np:=ah.mk ht6;have sQ:=ah.mk (Ja.box kH.out hg2);have CP:=ah.mk (Ja.box sP.out hg3);obtain⟨A4,c4,hv4⟩:=Kd.bG hr6;subst hv4;obtain⟨hl4,ao1,ha0,ha1,_⟩:=oQ h6 hl3;have uj:=ah.mk (vS hr6 Pv.out.size);clear cc;have z6:=bE CP.out;have f6:=ay CP.out 4;have y6:w6.cell? ⟨b3,4,none⟩=some _:=ak CP.out 4;have Nq:=ah.mk (show (w6.setCell ⟨b3,4,none⟩ (.slice A4 rs.length c4)).heap[b3]?=some (.cells #[.int .i64 k,.string p,.string ⟨#[]⟩,.int .i64 sz,.slice A4 rs.length c4,.slice none 0 0] 29 (0,0)) by have:=dM CP.out 4 (.slice A4 rs.length c4);simpa using this);have Ep:=ah.mk (show (w6.setCell ⟨b3,4,none⟩ (.slice A4 rs.length c4)).heap[w.heap.size]?=some (.cells #[.int .i64 0,.string ⟨#[]⟩,.string ⟨#[]⟩,.int .i64 0,.slice none 0 0,.slice none 0 0] 29 (0,0)) from (Below.heap_setCell w6 ⟨b3,4,none⟩ (.slice A4 rs.length c4) _ tV).trans sQ.out);have HT7:=ah.mk (Np.out.set (.slice A4 rs.length c4) (j:=4) hB3 hg3);have HF7:=ah.mk (Ft.set Yk.out hw3 4 (.slice A4 rs.length c4))
      obtain⟨w7,hw7⟩:∃w7,w6.setCell ⟨b3,4,none⟩ (.slice A4 rs.length c4)=w7:=⟨_,rfl⟩
      rw[hw7] at Nq Ep HT7 HF7;have HR7:=ah.mk (Kd.iP uj.out CP.out aD 4 (.slice A4 rs.length c4));rw[hw7] at HR7
      go_wp2_with fail
      try rw[hw7]
      clear hw7 z6 f6 y6 hr6
      cases h8:ql all l4 with
      | none=>
       have cc:=yL B w7 g l4 all HT7.out hl4 ha0 ha1;rw[h8] at cc;rw[h8] at ho;have HE:=ah.mk (show o=none from ho.symm);refine (cc).mono ?_;intro e w9 hh;obtain⟨he,nJ⟩:=hh;unfold dW at he;subst he
       go_wp2_with fail
       exact⟨rfl,by rw[HE.out];exact⟨rfl,HF7.out.trans nJ⟩⟩
      | some q=>
       obtain⟨d,l5⟩:=q;rw[h8] at ho;dsimp only at ho;have cc:=yL B w7 g l4 all HT7.out hl4 ha0 ha1;rw[h8] at cc;refine cc.mono ?_;rintro e w8 ⟨v5,rfl,MN,ht8,hf8⟩;have HF8:=ah.mk (HF7.out.trans hf8);have HT8:=ah.mk ht8;have I7:=ah.mk (hf8.box Ep.out hg2);have Nr:=ah.mk (hf8.box Nq.out hg3);obtain⟨A5,c5,hv5⟩:=Kd.bG MN;subst hv5;have YU:=ah.mk (xD MN HF7.out.size);have HQ8:=ah.mk (yK HR7.out HT7.out hf8);clear cc;have z8:=bE Nr.out;have f8:=ay Nr.out 5;have y8:w8.cell? ⟨b3,5,none⟩=some _:=ak Nr.out 5;have Jd:=ah.mk (show (w8.setCell ⟨b3,5,none⟩ (.slice A5 d.length c5)).heap[b3]?=some (.cells #[.int .i64 k,.string p,.string ⟨#[]⟩,.int .i64 sz,.slice A4 rs.length c4,.slice A5 d.length c5] 29 (0,0)) by have:=dM Nr.out 5 (.slice A5 d.length c5);simpa using this);have FB:=ah.mk (show (w8.setCell ⟨b3,5,none⟩ (.slice A5 d.length c5)).heap[w.heap.size]?=some (.cells #[.int .i64 0,.string ⟨#[]⟩,.string ⟨#[]⟩,.int .i64 0,.slice none 0 0,.slice none 0 0] 29 (0,0)) from (Below.heap_setCell w8 ⟨b3,5,none⟩ (.slice A5 d.length c5) _ tV).trans I7.out);have HT9:=ah.mk (HT8.out.set (.slice A5 d.length c5) (j:=5) hB3 hg3);have HF9:=ah.mk (Ft.set HF8.out hw3 5 (.slice A5 d.length c5))
       obtain⟨w9,hw9⟩:∃w9,w8.setCell ⟨b3,5,none⟩ (.slice A5 d.length c5)=w9:=⟨_,rfl⟩
       rw[hw9] at Jd FB HT9 HF9;have VA:=ah.mk (Kd.iP YU.out Nr.out aD 5 (.slice A5 d.length c5));have HQ9:=ah.mk (Kd.iP HQ8.out Nr.out aD 5 (.slice A5 d.length c5));rw[hw9] at VA HQ9
       go_upto_region 11 with (fail)
       try rw[hw9]
       clear hw9 z8 f8 y8 MN;have HE:=ah.mk (show o=some _ from ho.symm)
       go_wp2_with (first
        | (refine dX (.load 29 (.tmp 3)) rfl ?_;refine wpList_load_row rfl _ _ rfl b3 rfl 29 #[.int .i64 k,.string p,.string ⟨#[]⟩,.int .i64 sz,.slice A4 rs.length c4,.slice A5 d.length c5] (0,0) _ Jd.out Tryz.underlying29 rfl aA ?_)
        | (refine dX (.store 29 (.tmp 2) (.tmp 33)) rfl ?_;refine wpList_store_row rfl 29 (.tmp 2) (.tmp 33) rfl w.heap.size #[.int .i64 k,.string p,.string ⟨#[]⟩,.int .i64 sz,.slice A4 rs.length c4,.slice A5 d.length c5] rfl rfl 29 _ FB.out aA (by rfl) ?one ?_;(case one=>obtain⟨b4,d4,e4⟩:=Kd.bG HQ9.out;obtain⟨b5,d5,e5⟩:=Kd.bG VA.out;rw[e4,e5];simp[Value.oneCell'])))
       rw[HE.out];refine bodyPost_ret (results_cell_row rfl _ _ w.heap.size 29 #[.int .i64 k,.string p,.string ⟨#[]⟩,.int .i64 sz,.slice A4 rs.length c4,.slice A5 d.length c5] (0,0) _ rfl (setRow_heap _ _ _ _ _ _ FB.out) Tryz.underlying29 rfl aA) rfl ⟨_,_,rfl,?_,?_,HT9.out.row _ aj hg2,Ft.row HF9.out (Nat.le_refl _) _⟩
       ·exact ku HQ9.out FB.out aD _
       exact ku VA.out FB.out aD _
   have t1:(k == 1)=false:=beq_eq_false_iff_ne.2 k1;rw[if_neg k1] at ho;by_cases k3:k=3∨k=4
   ·have t3:(k == 3)=true∨((k == 3)=false∧(k == 4)=true):=by
     by_cases h:k=3
     ·exact .inl (beq_iff_eq.2 h)
     exact .inr ⟨beq_eq_false_iff_ne.2 h,beq_iff_eq.2 aj⟩
    rw[if_pos k3] at ho;clear k1 k3
    rcases t3 with t3|⟨t3,t4⟩
    ·go_wp2_with fail
     cases h4:iZ l2 with
     | none=>
      have cc:=lX B w3 g l2 HT3.out hl2;rw[h4] at cc;rw[h4] at ho;have HE:=ah.mk (show o=none from ho.symm);refine (cc).mono ?_;intro e w9 hh;obtain⟨he,nJ⟩:=hh;unfold dW at he;subst he
      go_wp2_with fail
      exact⟨rfl,by rw[HE.out];exact⟨rfl,yJ.out.trans nJ⟩⟩
     | some q=>
      obtain⟨t,l3⟩:=q;rw[h4] at ho;dsimp only at ho;have cc:=lX B w3 g l2 HT3.out hl2;rw[h4] at cc;refine cc.mono ?_;rintro e w4 ⟨rfl,V7,uP⟩;have I5:=ah.mk (yJ.out.trans uP);have Sg:=ah.mk V7;have kJ:=ah.mk (uP.box HB3.out hg2);have wV:=ah.mk (uP.box qQ.out hg3);clear cc;have z4:=bE wV.out;have f4:=ay wV.out 2;have y4:w4.cell? ⟨b3,2,none⟩=some _:=ak wV.out 2;have sP:=ah.mk (show (w4.setCell ⟨b3,2,none⟩ (.string t)).heap[b3]?=some (.cells #[.int .i64 k,.string p,.string t,.int .i64 0,.slice none 0 0,.slice none 0 0] 29 (0,0)) by have:=dM wV.out 2 (.string t);simpa using this);have kH:=ah.mk (show (w4.setCell ⟨b3,2,none⟩ (.string t)).heap[w.heap.size]?=some (.cells #[.int .i64 0,.string ⟨#[]⟩,.string ⟨#[]⟩,.int .i64 0,.slice none 0 0,.slice none 0 0] 29 (0,0)) from (Below.heap_setCell w4 ⟨b3,2,none⟩ (.string t) _ tV).trans kJ.out);have PZ:=ah.mk (Sg.out.set (.string t) (j:=2) hB3 hg3);have Pv:=ah.mk (Ft.set I5.out hw3 2 (.string t))
      obtain⟨w5,Da⟩:∃w5,w4.setCell ⟨b3,2,none⟩ (.string t)=w5:=⟨_,rfl⟩
      rw[Da] at sP kH PZ Pv
      go_upto_region 11 with (fail)
      try rw[Da]
      clear Da z4 f4 y4;have HE:=ah.mk (show o=some _ from ho.symm)
      go_wp2_with (first
       | (refine dX (.load 29 (.tmp 3)) rfl ?_;refine wpList_load_row rfl _ _ rfl b3 rfl 29 #[.int .i64 k,.string p,.string t,.int .i64 0,.slice none 0 0,.slice none 0 0] (0,0) _ sP.out Tryz.underlying29 rfl aA ?_)
       | (refine dX (.store 29 (.tmp 2) (.tmp 33)) rfl ?_;refine wpList_store_row rfl 29 (.tmp 2) (.tmp 33) rfl w.heap.size #[.int .i64 k,.string p,.string t,.int .i64 0,.slice none 0 0,.slice none 0 0] rfl rfl 29 _ kH.out aA (by rfl) ?one ?_;(case one=>simp[Value.oneCell'])))
      rw[HE.out];refine bodyPost_ret (results_cell_row rfl _ _ w.heap.size 29 #[.int .i64 k,.string p,.string t,.int .i64 0,.slice none 0 0,.slice none 0 0] (0,0) _ rfl (setRow_heap _ _ _ _ _ _ kH.out) Tryz.underlying29 rfl aA) rfl ⟨.slice none 0 0,.slice none 0 0,rfl,?_,?_,PZ.out.row _ aj hg2,Ft.row Pv.out (Nat.le_refl _) _⟩
      ·exact Kd.eY _ _ _ _ _
      exact Kd.eY _ _ _ _ _
    go_wp2_with fail
    cases h4:iZ l2 with
    | none=>
     have cc:=lX B w3 g l2 HT3.out hl2;rw[h4] at cc;rw[h4] at ho;have HE:=ah.mk (show o=none from ho.symm);refine (cc).mono ?_;intro e w9 hh;obtain⟨he,nJ⟩:=hh;unfold dW at he;subst he
     go_wp2_with fail
     exact⟨rfl,by rw[HE.out];exact⟨rfl,yJ.out.trans nJ⟩⟩
    | some q=>
     obtain⟨t,l3⟩:=q;rw[h4] at ho;dsimp only at ho;have cc:=lX B w3 g l2 HT3.out hl2;rw[h4] at cc;refine cc.mono ?_;rintro e w4 ⟨rfl,V7,uP⟩;have I5:=ah.mk (yJ.out.trans uP);have Sg:=ah.mk V7;have kJ:=ah.mk (uP.box HB3.out hg2);have wV:=ah.mk (uP.box qQ.out hg3);clear cc;have z4:=bE wV.out;have f4:=ay wV.out 2;have y4:w4.cell? ⟨b3,2,none⟩=some _:=ak wV.out 2;have sP:=ah.mk (show (w4.setCell ⟨b3,2,none⟩ (.string t)).heap[b3]?=some (.cells #[.int .i64 k,.string p,.string t,.int .i64 0,.slice none 0 0,.slice none 0 0] 29 (0,0)) by have:=dM wV.out 2 (.string t);simpa using this);have kH:=ah.mk (show (w4.setCell ⟨b3,2,none⟩ (.string t)).heap[w.heap.size]?=some (.cells #[.int .i64 0,.string ⟨#[]⟩,.string ⟨#[]⟩,.int .i64 0,.slice none 0 0,.slice none 0 0] 29 (0,0)) from (Below.heap_setCell w4 ⟨b3,2,none⟩ (.string t) _ tV).trans kJ.out);have PZ:=ah.mk (Sg.out.set (.string t) (j:=2) hB3 hg3);have Pv:=ah.mk (Ft.set I5.out hw3 2 (.string t))
     obtain⟨w5,Da⟩:∃w5,w4.setCell ⟨b3,2,none⟩ (.string t)=w5:=⟨_,rfl⟩
     rw[Da] at sP kH PZ Pv
     go_upto_region 11 with (fail)
     try rw[Da]
     clear Da z4 f4 y4;have HE:=ah.mk (show o=some _ from ho.symm)
     go_wp2_with (first
      | (refine dX (.load 29 (.tmp 3)) rfl ?_;refine wpList_load_row rfl _ _ rfl b3 rfl 29 #[.int .i64 k,.string p,.string t,.int .i64 0,.slice none 0 0,.slice none 0 0] (0,0) _ sP.out Tryz.underlying29 rfl aA ?_)
      | (refine dX (.store 29 (.tmp 2) (.tmp 33)) rfl ?_;refine wpList_store_row rfl 29 (.tmp 2) (.tmp 33) rfl w.heap.size #[.int .i64 k,.string p,.string t,.int .i64 0,.slice none 0 0,.slice none 0 0] rfl rfl 29 _ kH.out aA (by rfl) ?one ?_;(case one=>simp[Value.oneCell'])))
     rw[HE.out];refine bodyPost_ret (results_cell_row rfl _ _ w.heap.size 29 #[.int .i64 k,.string p,.string t,.int .i64 0,.slice none 0 0,.slice none 0 0] (0,0) _ rfl (setRow_heap _ _ _ _ _ _ kH.out) Tryz.underlying29 rfl aA) rfl ⟨.slice none 0 0,.slice none 0 0,rfl,?_,?_,PZ.out.row _ aj hg2,Ft.row Pv.out (Nat.le_refl _) _⟩
     ·exact Kd.eY _ _ _ _ _
     exact Kd.eY _ _ _ _ _
   have t3:(k == 3)=false:=beq_eq_false_iff_ne.2 aj;have t4:(k == 4)=false:=beq_eq_false_iff_ne.2 aj;rw[if_neg k3] at ho;clear k1 k3
   go_upto_region 11 with (fail)
   have HE:=ah.mk (show o=some _ from ho.symm)
   go_wp2_with (first
    | (refine dX (.load 29 (.tmp 3)) rfl ?_;refine wpList_load_row rfl _ _ rfl b3 rfl 29 #[.int .i64 k,.string p,.string ⟨#[]⟩,.int .i64 0,.slice none 0 0,.slice none 0 0] (0,0) _ qQ.out Tryz.underlying29 rfl aA ?_)
    | (refine dX (.store 29 (.tmp 2) (.tmp 33)) rfl ?_;refine wpList_store_row rfl 29 (.tmp 2) (.tmp 33) rfl w.heap.size #[.int .i64 k,.string p,.string ⟨#[]⟩,.int .i64 0,.slice none 0 0,.slice none 0 0] rfl rfl 29 _ HB3.out aA (by rfl) ?one ?_;(case one=>simp[Value.oneCell'])))
   rw[HE.out];refine bodyPost_ret (results_cell_row rfl _ _ w.heap.size 29 #[.int .i64 k,.string p,.string ⟨#[]⟩,.int .i64 0,.slice none 0 0,.slice none 0 0] (0,0) _ rfl (setRow_heap _ _ _ _ _ _ HB3.out) Tryz.underlying29 rfl aA) rfl ⟨.slice none 0 0,.slice none 0 0,rfl,?_,?_,HT3.out.row _ aj hg2,Ft.row yJ.out (Nat.le_refl _) _⟩
   ·exact Kd.eY _ _ _ _ _
   exact Kd.eY _ _ _ _ _
end Go.Proofs.YtknihldkhedpkaaGreatDoor
end
