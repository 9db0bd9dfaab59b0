import Derived.Test.YtknihldkhedpkaaGreatDoorDDG4
import Derived.Test.YtknihldkhedpkaaGreatDoorDDG5
import Derived.Test.YtknihldkhedpkaaGreatDoorDDG2
import Derived.Test.YtknihldkhedpkaaGreatDoorDDW
import Derived.WalkKit
import Derived.Test.YtknihldkhedpkaaGreatDoorDDG3
import Derived.WalkSpells
import Derived.RangeFuncNested
import Derived.RangeFuncBound
import Derived.RangeFuncCalls
import Derived.RangeFuncLeaves
import Derived.OwnWalkIn
import Derived.TacticsInMore
set_option linter.all false
set_option maxHeartbeats 16000000
set_option maxRecDepth 100000
section
namespace Go.Proofs.YtknihldkhedpkaaGreatDoor
open Go.RowKit Go.Lib
open Go.Proofs.YtknihldkhedpkaaGreatDoorW.PrintWords Go.Proofs.YtknihldkhedpkaaGreatDoorW.PrintLast Go.Proofs.YtknihldkhedpkaaGreatDoor.PT
abbrev It:=kV
abbrev Ru:=dh
def bs (s:ByteArray):List UInt8:=s.data.toList
def mkB (l:List UInt8):ByteArray:=⟨l.toArray⟩
theorem af0 (l:List UInt8):bs (mkB l)=l:=rfl
theorem R8 (s:ByteArray):mkB (bs s)=s:=rfl
theorem nY {s t:ByteArray} (h:bs s=bs t):s=t:=by rw[← R8 s,h,R8]
theorem cZ (s:ByteArray):(bs s).length=s.size:=gI s
theorem nO {i:Nat} (h:i<9223372036854775807):wrap64 ((i:Int)+1)=((i+1:Nat):Int):=by
 unfold wrap64;omega
theorem fq {i:Int} (h0 : -9223372036854775808≤i) (h:i≤9223372036854775807):wrap64 i=i:=by
 unfold wrap64;omega
def fQ (p:ByteArray):Bool:=decide (iq.f p=some 0)
theorem Jm (p:ByteArray):∃e,iq.f p=some e∧(e=0↔fQ p=true):=by
 have h:∃e,iq.f p=some e:=by
  unfold iq.f
  repeat' split
  all_goals exact⟨_,rfl⟩
 obtain⟨e,he⟩:=h;exact⟨e,he,by unfold fQ;rw[he];simp⟩
def dP (s:ByteArray):List ByteArray:=jZ (s.extract 1 s.size) ⟨#[47]⟩
def fP (s:ByteArray):Bool:=decide ((bs s).head?=some 47)
def iW (s:ByteArray):List ByteArray × Bool :=
 if s.size≤1023∧fP s=true∧(dP s).all fQ=true then (dP s,true) else ([],false)
theorem FC {α:Type} (d:α) (xs:List α) (i:Nat) (h:i<xs.length):mP d xs (i:Int)=xs[i]:=by simp[mP,h]
theorem MB (xs:List Int) (i:Nat) (h:i<xs.length):rd xs (i:Int)=xs[i]:=by simp[rd,h]
theorem yt (xs:List Ru) (i:Nat) (h:i<xs.length):aQ xs (i:Int)=xs[i]:=by simp[aQ,h]
theorem Ol (x:List ByteArray) (l:List ByteArray) (hl:l.length<9223372036854775807):∀(d i:Nat),i+d=l.length →
  Ev (fun k=>dS.l0 k x l (l.length:Int) i) (if (l.drop i).all fQ=true then (x,true) else (([]:List ByteArray),false))
 | 0,i,h=>by
  have hd:l.drop i=[]:=List.drop_of_length_le aj;rw[hd];refine Ev.step (fun k=>?_) (Ev.now _);rw[dS.l0,if_neg aj];rfl
 | d+1,i,h=>by
  have hi:i<l.length:=by omega
  obtain⟨e,he,hok⟩:=Jm l[i];rw[List.drop_eq_getElem_cons hi,List.all_cons];by_cases h0:e=0
  ·rw[hok.1 h0,Bool.true_and];refine Ev.step (fun k=>?_) (Ol x l hl d (i+1) aj);rw[dS.l0,if_pos aj,if_pos aj,if_pos aj,FC _ l i hi,he,Option.bind_some,if_pos h0,nO aj]
  have hf:fQ l[i]=false:=by
   cases hn:fQ l[i] with
   | true=>exact absurd (hok.2 hn) h0
   | false=>rfl
  rw[hf,Bool.false_and];refine Ev.step (fun k=>?_) (Ev.now _);rw[dS.l0,if_pos aj,if_pos aj,if_pos aj,FC _ l i hi,he,Option.bind_some,if_neg h0];rfl
theorem lg {s:ByteArray} (h:fP s=true):1≤s.size:=by
 have h:=of_decide_eq_true h
 cases hb:bs s with
 | nil=>rw[hb] at h;cases h
 | cons a l=>rw[← cZ,hb];simp
theorem ET (s:ByteArray):strings_HasPrefix.f s ⟨#[47]⟩=some (fP s):=by
 unfold strings_HasPrefix.f stringslite_HasPrefix.f;have h1:((⟨#[47]⟩:ByteArray).size:Int)=1:=rfl;rw[h1];by_cases h:(s.size:Int)≥1
 ·rw[if_pos h,if_pos aH,if_pos h,Option.bind_some]
  congr 1
  have e:(s.extract 0 (Int.toNat 1))=mkB ((bs s).take 1):=by
   apply nY;rw[af0]
   show (s.extract 0 1).data.toList=_
   rw[Lib.extract_data];simp[bs]
  rw[e]
  cases hb:bs s with
  | nil=>have:=cZ s;rw[hb] at this;simp at this;omega
  | cons a l=>
   unfold fP;rw[hb];by_cases ha:a=47
   ·subst ha;have h1:((mkB (((47:UInt8)::l).take 1)).toList == (⟨#[47]⟩:ByteArray).toList)=true:=(Lib.bytes_beq_iff _ _).2 rfl;rw[h1];simp
   have h1:((mkB ((a::l).take 1)).toList == (⟨#[47]⟩:ByteArray).toList)=false:=(Lib.bytes_beq_false_iff _ _).2 (fun e=>ha (by injection e with e;injection e with e;injection e));rw[h1];symm
   simpa using ha
 rw[if_neg h,Option.bind_some]
 congr 1
 cases hb:fP s with
 | false=>rfl
 | true=>exact absurd (lg hb) aj
theorem vw (s:ByteArray):(dP s).length≤s.size+1∧1≤(dP s).length:=by
 have h1:=Lib.countB_le ⟨#[47]⟩ aH (s.extract 1 s.size).size (s.extract 1 s.size) (Nat.le_refl _);have h2:(dP s).length=Lib.countB (s.extract 1 s.size) ⟨#[47]⟩+1:=Lib.splitB_all ⟨#[47]⟩ aH 0 _ (s.extract 1 s.size) rfl;rw[ByteArray.size_extract] at h1;omega
theorem af2 (s:ByteArray):Ev (fun k=>dS.f k s) (iW s):=by
 unfold dS.f iW;by_cases h:(s.size:Int) > 1023
 ·refine Ev.congr (fun k=>by rw[if_pos h]) ?_;refine Ev.step (fun k=>?_) (Ev.now _);rw[dS.j0,if_pos rfl,if_neg aj]
 refine Ev.congr (fun k=>by rw[if_neg h,ET,Option.bind_some]) ?_;by_cases hs:fP s=true
 ·have h1:=lg hs;have hp:=vw s
  have hsp:strings_Split.f (s.extract 1 s.size) ⟨#[47]⟩=some (dP s):=by
   unfold strings_Split.f;rw[if_pos ⟨by rw[ByteArray.size_extract];omega,rfl⟩];rfl
  refine Ev.step (f:=fun k=>dS.l0 k (dP s) (dP s) ((dP s).length:Int) 0) (fun k=>?_) ?_
  ·rw[dS.j0,if_neg (by rw[hs];decide),if_pos aj,hsp,Option.bind_some]
  have hc:=Ol (dP s) (dP s) aj (dP s).length 0 aj;rw[List.drop_zero] at hc;by_cases ha:(dP s).all fQ=true
  ·rw[if_pos ha] at hc;rw[if_pos ⟨by omega,hs,ha⟩];exact hc
  rw[if_neg ha] at hc;rw[if_neg (fun h=>ha h.2.2)];exact hc
 refine Ev.step (fun k=>?_) (Ev.now _);rw[dS.j0,if_pos (by simpa using hs),if_neg (fun h=>hs h.2.1)]
def lY:List ByteArray→List ByteArray→Bool
 | [],[]=>false
 | [],_::_=>true
 | _::_,[]=>false
 | a::l,b::m=>if bs a=bs b then lY l m else Op.bytesLess (bs a) (bs b)
theorem Il (l m:List ByteArray) (hl:l.length<9223372036854775807):∀(d i:Nat),i+d=l.length →
  Ev (fun k=>dD.l0 k l m i) (lY (l.drop i) (m.drop i))
 | 0,i,h=>by
  have hd:l.drop i=[]:=List.drop_of_length_le aj;rw[hd];refine Ev.step (f:=fun k=>dD.j1 k l m i false) (fun k=>by rw[dD.l0,if_neg aj]) ?_;refine Ev.step (fun k=>?_) (Ev.now _);rw[dD.j1,if_neg aH];by_cases hm:i<m.length
  ·rw[List.drop_eq_getElem_cons hm,decide_eq_true aj];rfl
  rw[List.drop_of_length_le aj,decide_eq_false aj];rfl
 | d+1,i,h=>by
  have hi:i<l.length:=by omega
  rw[List.drop_eq_getElem_cons hi];by_cases hm:i<m.length
  ·refine Ev.step (f:=fun k=>dD.j1 k l m i true) (fun k=>by rw[dD.l0,if_pos aj,decide_eq_true aj]) ?_;rw[List.drop_eq_getElem_cons hm,lY];have e1:=FC ByteArray.empty l i hi;have e2:=FC ByteArray.empty m i hm;by_cases he:bs l[i]=bs m[i]
   ·rw[if_pos he];refine Ev.step (fun k=>?_) (Il l m hl d (i+1) aj);rw[dD.j1,if_pos rfl,if_pos aj,if_pos aj,if_pos aj,e1,e2,if_pos (by rw[nY he]),nO aj]
   rw[if_neg he];refine Ev.step (fun k=>?_) (Ev.now _);rw[dD.j1,if_pos rfl,if_pos aj,if_pos aj,if_pos aj,e1,e2]
   have hne:¬l[i].toList=m[i].toList:=fun e=>he (by have:=(Lib.bytes_beq_iff l[i] m[i]).1 (beq_iff_eq.2 e);rw[this])
   rw[if_neg hne,Lib.toList_data,Lib.toList_data];rfl
  refine Ev.step (f:=fun k=>dD.j1 k l m i false) (fun k=>by rw[dD.l0,if_pos aj,decide_eq_false aj]) ?_;rw[show m.drop i=[] from List.drop_of_length_le aj];refine Ev.step (fun k=>?_) (Ev.now _);rw[dD.j1,if_neg aH,decide_eq_false aj];rfl
theorem YP (l m:List ByteArray) (hl:l.length<9223372036854775807):Ev (fun k=>dD.f k l m) (lY l m):=by
 have h:=Il l m hl l.length 0 aj;exact h
def gy (size:Int):Int→Int→List Ru→Option (Int × Int)
 | last,all,[]=>some (last,all)
 | last,all,r::l=>if r.f0<0∨r.f0≤last∨r.f1≤r.f0∨r.f1 > (size+511) / 512 then none else gy size r.f1 (all+(r.f1 - r.f0)) l
def rJ (size:Int) (data:List Int):Option (Int × Int)→Bool
 | none=>false
 | some (last,all)=>if (data.length:Int)=all*512 then (if all=0 then true else (data.drop (data.length - (last*512 - size).toNat)).all (fun b=>decide (b=0))) else false
def dW (size:Int) (runs:List Ru) (data:List Int):Bool:=if size<0∨8459264<size then false else rJ size data (gy size (-1) 0 runs)
theorem Ka (a0:Int) (a1 a2:ByteArray) (size last:Int) (runs:List Ru) (data:List Int) (hs:0≤size) (hl:last≤16522) (hd:data.length≤9223372036854775):∀(d:Nat) (i:Int),size≤i→i+d=last*512→0≤(data.length:Int) - last*512+i →
  Ev (fun k=>bJ.l1 k last i a0 a1 a2 size runs data) ((data.drop ((data.length:Int) - last*512+i).toNat).all (fun b=>decide (b=0)))
 | 0,i,hi,h,hp=>by
  have hw:wrap64 (last*512)=last*512:=fq aj aj;rw[List.drop_of_length_le aj];refine Ev.step (fun k=>?_) (Ev.now _);rw[bJ.l1,hw,if_neg aj];rfl
 | d+1,i,hi,h,hp=>by
  have hw:wrap64 (last*512)=last*512:=fq aj aj;have hw2:wrap64 ((data.length:Int) - last*512)=(data.length:Int) - last*512:=fq aj aj;have hw3:wrap64 ((data.length:Int) - last*512+i)=(data.length:Int) - last*512+i:=fq aj aj;have hw4:wrap64 (i+1)=i+1:=fq aj aj
  obtain⟨p,hpp⟩:∃p:Nat,(data.length:Int) - last*512+i=p:=⟨((data.length:Int) - last*512+i).toNat,by omega⟩
  have hlt:p<data.length:=by omega
  rw[hpp,Int.toNat_natCast,List.drop_eq_getElem_cons hlt,List.all_cons];by_cases h0:data[p]=0
  ·have ih:=Ka a0 a1 a2 size last runs data hs hl hd d (i+1) aj aj aj;rw[show (data.length:Int) - last*512+(i+1)=((p+1:Nat):Int) by omega,Int.toNat_natCast] at ih;rw[decide_eq_true h0,Bool.true_and];refine Ev.step (fun k=>?_) ih;rw[bJ.l1,hw,if_pos aj,hw2,hw3,hpp,if_pos aj,if_pos aj,MB data p hlt,if_pos h0,hw4]
  rw[decide_eq_false h0,Bool.false_and];refine Ev.step (fun k=>?_) (Ev.now _);rw[bJ.l1,hw,if_pos aj,hw2,hw3,hpp,if_pos aj,if_pos aj,MB data p hlt,if_neg h0]
theorem Ke (a0:Int) (a1 a2:ByteArray) (size:Int) (runs:List Ru) (data:List Int) (hs:0≤size) (hs2:size≤8459264) (hr:runs.length<9223372036854775807) (hd:data.length≤9223372036854775):∀(d i:Nat) (last all:Int),i+d=runs.length→-1≤last→last*512≤size+511→0≤all→all≤last+1→(all≠0→all≤last) →
  Ev (fun k=>bJ.l0 k last all runs (runs.length:Int) i a0 a1 a2 size runs data) (rJ size data (gy size last all (runs.drop i)))
 | 0,i,last,all,h,h1,h2,h3,h4,h5=>by
  rw[List.drop_of_length_le aj,gy,rJ];have hw:wrap64 (all*512)=all*512:=fq aj aj;by_cases hl:(data.length:Int)=all*512
  ·rw[if_pos hl];by_cases h0:all=0
   ·rw[if_pos h0];refine Ev.step (fun k=>?_) (Ev.now _);rw[bJ.l0,if_neg aj,hw,if_pos hl,if_pos h0]
   rw[if_neg h0];refine Ev.step (f:=fun k=>bJ.l1 k last size a0 a1 a2 size runs data) (fun k=>?_) ?_
   ·rw[bJ.l0,if_neg aj,hw,if_pos hl,if_neg h0]
   by_cases hz:size≤last*512
   ·have ht:=Ka a0 a1 a2 size last runs data hs aj hd (last*512 - size).toNat size aj aj aj;rw[show data.length - (last*512 - size).toNat=((data.length:Int) - last*512+size).toNat by omega];exact ht
   have hw2:wrap64 (last*512)=last*512:=fq aj aj;rw[show data.length - (last*512 - size).toNat=data.length by omega,List.drop_length];refine Ev.step (fun k=>?_) (Ev.now _);rw[bJ.l1,hw2,if_neg aj];rfl
  rw[if_neg hl];refine Ev.step (fun k=>?_) (Ev.now _);rw[bJ.l0,if_neg aj,hw,if_neg hl]
 | d+1,i,last,all,h,h1,h2,h3,h4,h5=>by
  have hi:i<runs.length:=by omega
  have e:=yt runs i hi;have hw1:wrap64 (size+512)=size+512:=fq aj aj
  have hw2:wrap64 (size+512 - 1)=size+511:=by rw[fq aj aj];omega
  have hq:Int.tdiv (size+511) 512=(size+511) / 512:=Int.tdiv_eq_ediv_of_nonneg aj;have hw3:wrap64 ((size+511) / 512)=(size+511) / 512:=fq aj aj;rw[List.drop_eq_getElem_cons hi,gy]
  have go:∀k,bJ.l0 (k+1) last all runs (runs.length:Int) i a0 a1 a2 size runs data=(if runs[i].f0<0 then some false else if runs[i].f0≤last then some false else if runs[i].f1≤runs[i].f0 then some false else if runs[i].f1 > (size+511) / 512 then some false else bJ.l0 k runs[i].f1 (wrap64 (all+wrap64 (runs[i].f1 - runs[i].f0))) runs (runs.length:Int) (wrap64 ((i:Int)+1)) a0 a1 a2 size runs data):=by
   intro k;rw[bJ.l0,if_pos aj,if_pos aj,if_pos aj,e,hw1,hw2,hq,hw3]
  by_cases c1:runs[i].f0<0
  ·rw[if_pos (.inl c1)];exact Ev.step (fun k=>by rw[go,if_pos c1];rfl) (Ev.now _)
  by_cases c2:runs[i].f0≤last
  ·rw[if_pos (.inr (.inl c2))];exact Ev.step (fun k=>by rw[go,if_neg c1,if_pos c2];rfl) (Ev.now _)
  by_cases c3:runs[i].f1≤runs[i].f0
  ·rw[if_pos (.inr (.inr (.inl c3)))];exact Ev.step (fun k=>by rw[go,if_neg c1,if_neg c2,if_pos c3];rfl) (Ev.now _)
  by_cases c4:runs[i].f1 > (size+511) / 512
  ·rw[if_pos (.inr (.inr (.inr c4)))];exact Ev.step (fun k=>by rw[go,if_neg c1,if_neg c2,if_neg c3,if_pos c4];rfl) (Ev.now _)
  rw[if_neg aj];have hw4:wrap64 (runs[i].f1 - runs[i].f0)=runs[i].f1 - runs[i].f0:=fq aj aj;have Pn:wrap64 (all+(runs[i].f1 - runs[i].f0))=all+(runs[i].f1 - runs[i].f0):=fq aj aj;have ih:=Ke a0 a1 a2 size runs data hs hs2 hr hd d (i+1) runs[i].f1 (all+(runs[i].f1 - runs[i].f0)) aj aj aj aj aj aj;refine Ev.step (fun k=>?_) ih;rw[go,if_neg c1,if_neg c2,if_neg c3,if_neg c4,hw4,Pn,nO aj]
theorem VA (a0:Int) (a1 a2:ByteArray) (size:Int) (runs:List Ru) (data:List Int) (hr:runs.length<9223372036854775807) (hd:data.length≤9223372036854775) :
  Ev (fun k=>bJ.f k a0 a1 a2 size runs data) (dW size runs data):=by
 unfold dW bJ.f;by_cases h:size<0
 ·rw[if_pos (.inl h)];refine Ev.congr (fun k=>by rw[if_pos h]) ?_;exact Ev.step (fun k=>by rw[bJ.j0,if_pos rfl]) (Ev.now _)
 by_cases h2:8459264<size
 ·rw[if_pos (.inr h2)];refine Ev.congr (fun k=>by rw[if_neg h]) ?_;exact Ev.step (fun k=>by rw[bJ.j0,if_pos (decide_eq_true h2)]) (Ev.now _)
 rw[if_neg aj];refine Ev.congr (fun k=>by rw[if_neg h]) ?_;refine Ev.step (f:=fun k=>bJ.l0 k (-1) 0 runs (runs.length:Int) 0 a0 a1 a2 size runs data) (fun k=>by rw[bJ.j0,if_neg (by simpa using h2)]) ?_;have hl:=Ke a0 a1 a2 size runs data aj aj hr hd runs.length 0 (-1) 0 aj aj aj aj aj aj;exact hl
theorem uU (size:Int) (hs:0≤size) (hs2:size≤8459264):∀(l:List Ru) (last all l2 a2:Int),-1≤last→0≤all→all≤last+1→gy size last all l=some (l2,a2)→0≤a2∧a2≤l2+1∧last+l.length≤l2∧(l2=last∨l2≤16522)
 | [],last,all,l2,a2,h1,h2,h3,h=>by
  simp[gy] at h;obtain⟨rfl,rfl⟩:=h;simp;omega
 | r::l,last,all,l2,a2,h1,h2,h3,h=>by
  rw[gy] at h;split at h
  ·cases h
  have ih:=uU size hs hs2 l r.f1 (all+(r.f1 - r.f0)) l2 a2 aj aj aj h;rw[List.length_cons];omega
theorem Cj {size:Int} {runs:List Ru} {data:List Int} (h:dW size runs data=true):runs.length≤16523∧data.length≤8459776:=by
 unfold dW at h;split at h
 ·cases h
 cases hr:gy size (-1) 0 runs with
 | none=>rw[hr] at h;cases h
 | some p=>
  obtain⟨l2,a2⟩:=p;have:=uU size aj aj runs (-1) 0 l2 a2 aj aj aj hr;rw[hr,rJ] at h;split at h
  ·omega
  cases h
def iT:List Ru→List Ru→Bool
 | [],[]=>true
 | a::l,b::m=>decide (a.f0=b.f0) && (decide (a.f1=b.f1) && iT l m)
 | _,_=>false
theorem zT:∀{l m:List Ru},iT l m=true↔l=m
 | [],[]=>by simp[iT]
 | [],_::_=>by simp[iT]
 | _::_,[]=>by simp[iT]
 | a::l,b::m=>by
  rw[iT,Bool.and_eq_true,Bool.and_eq_true,zT,decide_eq_true_iff,decide_eq_true_iff];constructor
  ·rintro⟨h0,h1,rfl⟩;cases a;cases b;simp only at h0 h1;subst h0 h1;rfl
  rintro h
  injection h with h1 h2
  subst h1;exact⟨rfl,rfl,h2⟩
def rV (x y:It):Bool:=decide (x.f0=y.f0) && (decide (bs x.f2=bs y.f2) && (decide (x.f3=y.f3) && (iT x.f4 y.f4 && ((strOfNums x.f5).toList == (strOfNums y.f5).toList))))
theorem Kg (l m:List Ru) (hl:l.length≤9223372036854775807) (hm:l.length=m.length):∀(d i:Nat),i+d=l.length→Ev (fun k=>bX.l0 k l m i) (iT (l.drop i) (m.drop i))
 | 0,i,h=>by
  rw[show l.drop i=[] from List.drop_of_length_le aj,show m.drop i=[] from List.drop_of_length_le aj];exact Ev.step (fun k=>by rw[bX.l0,if_neg aj];rfl) (Ev.now _)
 | d+1,i,h=>by
  have hi:i<l.length:=by omega
  have hi2:i<m.length:=by omega
  have e1:=yt l i hi;have e2:=yt m i hi2;rw[List.drop_eq_getElem_cons hi,List.drop_eq_getElem_cons hi2,iT]
  have go:∀k,bX.l0 (k+1) l m i=(if l[i].f0=m[i].f0 then if l[i].f1=m[i].f1 then bX.l0 k l m ((i+1:Nat):Int) else some false else some false):=by
   intro k;rw[bX.l0,if_pos aj,if_pos aj,if_pos aj,e1,e2,nO aj]
  by_cases h0:l[i].f0=m[i].f0
  ·by_cases h1:l[i].f1=m[i].f1
   ·rw[decide_eq_true h0,decide_eq_true h1,Bool.true_and,Bool.true_and];exact Ev.step (fun k=>by rw[go,if_pos h0,if_pos h1]) (Kg l m hl hm d (i+1) aj)
   rw[decide_eq_false h1,Bool.false_and,Bool.and_false];exact Ev.step (fun k=>by rw[go,if_pos h0,if_neg h1]) (Ev.now _)
  rw[decide_eq_false h0,Bool.false_and];exact Ev.step (fun k=>by rw[go,if_neg h0]) (Ev.now _)
theorem Kh {l m:List Ru} (h:l.length≠m.length):iT l m=false:=by
 cases hb:iT l m with
 | false=>rfl
 | true=>exact absurd (congrArg List.length (zT.1 hb)) h
theorem acz (l m:List Ru) (hl:l.length≤9223372036854775807):Ev (fun k=>bX.f k l m) (iT l m):=by
 unfold bX.f;by_cases h:l.length=m.length
 ·exact Ev.congr (fun k=>by rw[if_pos aj];rfl) (Kg l m hl h l.length 0 aj)
 rw[Kh h];exact Ev.congr (fun k=>by rw[if_neg aj]) (Ev.now _)
def fu.f (dB:Int) (dA:ByteArray) (dH:ByteArray) (dz:Int) (cB:List (dh)) (cO:List Int) (uH:Int) (qL:ByteArray) (wN:ByteArray) (uI:Int) (qx:List (dh)) (qM:List Int):Option Bool :=
 some (rV ⟨dB,dA,dH,dz,cB,cO⟩ ⟨uH,qL,wN,uI,qx,qM⟩)
theorem fu.calls (dB:Int) (dA:ByteArray) (dH:ByteArray) (dz:Int) (iE:Option Addr) (fE:Nat) (cB:List (dh)) (eY:Option Addr) (eU:Nat) (cO:List Int) (uH:Int) (qL:ByteArray) (wN:ByteArray) (uI:Int) (ED:Option Addr) (EF:Nat) (qx:List (dh)) (EG:Option Addr) (Dr:Nat) (qM:List Int) (r:Bool) (w:World) (rQ:Kd.C dw w iE cB.length cB) (uF:cB.length≤fE) (sP:Kd.C (Kd.int .u8) w eY cO.length cO) (wJ:cO.length≤eU) (Na:Kd.C dw w ED qx.length qx) (Tf:qx.length≤EF) (Nb:Kd.C (Kd.int .u8) w EG qM.length qM) (WU:qM.length≤Dr) (h:fu.f dB dA dH dz cB cO uH qL wN uI qx qM=some r) :
  Calls Tryz.prog 37 #[.agg #[.int .i64 dB,.string dA,.string dH,.int .i64 dz,.slice iE cB.length fE,.slice eY cO.length eU],.agg #[.int .i64 uH,.string qL,.string wN,.int .i64 uI,.slice ED qx.length EF,.slice EG qM.length Dr]] w fun e w'=>e=.returned (.bool r)∧Below w.heap.size w w':=by
 unfold fu.f at h;obtain rfl:=Option.some.inj h;clear h
 obtain⟨X,hX⟩:∃X,#[Value.int .i64 dB,.string dA,.string dH,.int .i64 dz,.slice iE cB.length fE,.slice eY cO.length eU]=X:=⟨_,rfl⟩
 obtain⟨Y,hY⟩:∃Y,#[Value.int .i64 uH,.string qL,.string wN,.int .i64 uI,.slice ED qx.length EF,.slice EG qM.length Dr]=Y:=⟨_,rfl⟩
 have hb:=((Below.refl w.heap.size w).alloc (Nat.le_refl _) (.cells X 29)).alloc bB (.cells Y 29);have hbx:=aN (bF w (.cells X 29)) (.cells Y 29);have hby:=bF (w.alloc (.cells X 29)) (.cells Y 29);rw[World.size_alloc] at hby;rw[← hX,← hY] at hb hbx hby;have HR4:=ah.mk (Kd.aC rQ hb);have nE:=ah.mk (Kd.aC sP hb);have HQ4:=ah.mk (Kd.aC Na hb);have HQ5:=ah.mk (Kd.aC Nb hb);have hn4:=rQ.2.1;have HB:=ah.mk hb;have zh:=ah.mk hbx;have HBY:=ah.mk hby;obtain⟨kr,hkr⟩:=Ev.rounds (acz cB qx hn4)
 obtain⟨rr,hrr⟩:∃r,iT cB qx=r:=⟨_,rfl⟩
 rw[hrr] at hkr;have HKR:=ah.mk hkr;have HRR:=ah.mk hrr
 have hstr:∀s t:ByteArray,decide (bs s=bs t)=(s.toList == t.toList):=fun s t=>by
  rw[Lib.toList_data,Lib.toList_data];unfold bs;by_cases e:s.data.toList=t.data.toList
  ·rw[decide_eq_true e,beq_iff_eq.2 e]
  rw[decide_eq_false e,beq_eq_false_iff_ne.2 e]
 unfold rV;simp only[hstr];rw[hrr];have hu:=Tryz.underlying29;clear hb hbx hby hkr hrr rQ sP Na Nb hX hY hstr hn4;by_cases e0:dB=uH
 ·have e0b:(dB == uH)=true:=beq_iff_eq.2 e0;rw[decide_eq_true e0,Bool.true_and];clear e0
  cases e2:(dH.toList == wN.toList) with
  | false=>
   go_enter Tryz.func37,Tryz.ntmps37
   go_wp2_with fail
   go_ret
   exact⟨rfl,HB.out⟩
  | true=>
   rw[Bool.true_and];by_cases e3:dz=uI
   ·have e3b:(dz == uI)=true:=beq_iff_eq.2 e3;rw[decide_eq_true e3,Bool.true_and];clear e3
    go_enter Tryz.func37,Tryz.ntmps37
    go_wp2_with fail
    refine (bX.calls kr iE fE cB ED EF qx rr _ HR4.out uF HQ4.out Tf HKR.out).mono ?_;rintro e w3 ⟨rfl,hd3⟩;have hb3:=hd3.below;have ajF:=aJ zh.out hb3;have ajG:=aJ HBY.out hb3
    have x5:w3.cell? ⟨w.heap.size,5,none⟩=some (.slice eY cO.length eU):=by rw[ak ajF];rfl
    have y5:w3.cell? ⟨w.heap.size+1,5,none⟩=some (.slice EG qM.length Dr):=by rw[ak ajG];rfl
    have hcx:=Kd.nD (P:=Tryz.prog) (src:=27) (dst:=9) (e:=5) (c:=eU) Tryz.underlying27 Tryz.underlying5 Tryz.underlying9 (Kd.aC nE.out hb3);have hcy:=Kd.nD (P:=Tryz.prog) (src:=27) (dst:=9) (e:=5) (c:=Dr) Tryz.underlying27 Tryz.underlying5 Tryz.underlying9 (Kd.aC HQ5.out hb3);have HB3:=ah.mk (HB.out.trans (hb3.mono HB.out.size));clear hd3 hb3 ajF ajG
    cases rr with
    | false=>
     go_wp2_with fail
     go_ret
     exact⟨rfl,HB3.out⟩
    | true=>
     go_wp2_with fail
     go_ret
     exact⟨rfl,HB3.out⟩
   have e3b:(dz == uI)=false:=beq_eq_false_iff_ne.2 e3;rw[decide_eq_false e3,Bool.false_and];clear e3
   go_enter Tryz.func37,Tryz.ntmps37
   go_wp2_with fail
   go_ret
   exact⟨rfl,HB.out⟩
 have e0b:(dB == uH)=false:=beq_eq_false_iff_ne.2 e0;rw[decide_eq_false e0,Bool.false_and];clear e0
 go_enter Tryz.func37,Tryz.ntmps37
 go_wp2_with fail
 go_ret
 exact⟨rfl,HB.out⟩
theorem ou (s:ByteArray) (w:World) (hs:s.size<4294967281):Calls Tryz.prog 88 #[.string s] w fun e w'=>e=.returned (.string (bY 47 0 s))∧Below w.heap.size w w':=by
 have c:=fun w=>Ik s 47 0 w hs aH
 go_enter Tryz.func88,Tryz.ntmps88
 go_wp2_with (go_at_call 120;refine (c _).mono ?_;rintro e w' ⟨rfl,hb⟩)
 go_ret
 exact⟨rfl,hb⟩
theorem jm (x:It) (v4 v5:Value) (w:World) (hs:x.f1.size<4294967281):Calls Tryz.prog 51 #[.agg #[.int .i64 x.f0,.string x.f1,.string x.f2,.int .i64 x.f3,v4,v5]] w fun e w'=>e=.returned (.string (bY 47 0 x.f1))∧Below w.heap.size w w':=by
 have c:=fun w=>ou x.f1 w hs
 obtain⟨X,hX⟩:∃X,#[Value.int .i64 x.f0,.string x.f1,.string x.f2,.int .i64 x.f3,v4,v5]=X:=⟨_,rfl⟩
 have hbx:=bF w (.cells X 29)
 have x1:(w.alloc (.cells X 29)).cell? ⟨w.heap.size,1,none⟩=some (.string x.f1):=by rw[ak hbx,← hX];rfl
 have hb0:=(Below.refl w.heap.size w).alloc (Nat.le_refl _) (.cells X 29);have hu:=Tryz.underlying29;rw[← hX] at x1 hb0;have HB:=ah.mk hb0;clear hbx hb0 hX
 go_enter Tryz.func51,Tryz.ntmps51
 go_wp2_with (go_at_call 88;refine (c _).mono ?_;rintro e w' ⟨rfl,hb⟩)
 go_ret
 exact⟨rfl,HB.out.trans (hb.mono bB)⟩
theorem R9 (A0:Option Addr) (c0:Nat) (l:List Ru) (A1:Option Addr) (c1:Nat) (m:List Ru) (w:World) (hr0:Kd.C dw w A0 l.length l) (hr1:Kd.C dw w A1 m.length m) :
  Calls Tryz.prog 89 #[.slice A0 l.length c0,.slice A1 m.length c1] w fun e w'=>e=.returned (.bool (iT l m))∧bI w w':=by
 have nC:=ah.mk hr0;have HR1:=ah.mk hr1;have hmx:=hr0.2.1;clear hr0 hr1
 have hn:∀(a b c d:Int) (w:World),Sem.run Tryz.prog (binOp .neq 117 (.agg #[.int .i64 a,.int .i64 b]) (.agg #[.int .i64 c,.int .i64 d])) w=.ok (.bool (!(a == c && b == d))) w:=by
  intro a b c d w;rw[run_neq_struct,run_equalIn_agg _ _ _ _ _ aD aD]
  cases h1:(a == c) <;> cases h2:(b == d) <;> simp[h1,h2,Op.eqFields,go_sem]
 have hgd:∀(op:BinOp) (a b:Operand) (xs ys:Array Value) (w:World),Sem.run Tryz.prog (eqGuard op 117 a b (.agg xs) (.agg ys)) w=.ok () w:=fun op a b xs ys w=>run_eqGuard_agg w op _ a b xs ys aD
 have hu:=Tryz.underlying117;by_cases hl:l.length=m.length
 ·have hl2:(l.length == m.length)=true:=beq_iff_eq.2 hl;have hl3:((l.length:Int) == (m.length:Int))=true:=beq_iff_eq.2 aj
  go_enter Tryz.func89,Tryz.ntmps89
  go_wp2
  go_loopg [13] l.length (fun g s13 wr=>∃i:Nat,l.length - i≤g∧s13=.int .i64 i∧i≤l.length∧ah (iT l m=iT (l.drop i) (m.drop i))∧bI w wr)
  case atStart=>exact⟨0,by omega,rfl,by omega,⟨by simp⟩,by repeat (first|exact bI.refl _|apply bI.step)⟩
  case round=>
   obtain⟨i,hig,rfl,hi,HE,⟨q,rfl⟩⟩:=hrel;by_cases hi2:i<l.length
   ·have hd:decide ((i:Int)<(l.length:Int))=true:=decide_eq_true aj;have hd2:decide (i<l.length)=true:=decide_eq_true hi2;obtain⟨ad,hA,r0,r1⟩:=dQ nC.out (i:Int) aj aj;obtain⟨bd,hB,s0,s1⟩:=dQ HR1.out (i:Int) aj aj;have e1:=yt l i hi2;have e2:=yt m i aj;rw[e1] at r0 r1;rw[e2] at s0 s1;have hE:=HE.out;rw[List.drop_eq_getElem_cons hi2,List.drop_eq_getElem_cons (show i<m.length by omega),iT] at hE
    obtain⟨a,ha⟩:∃a,l[i]=a:=⟨_,rfl⟩
    obtain⟨b,hb⟩:∃a,m[i]'aj=a:=⟨_,rfl⟩
    rw[ha] at r0 r1 hE;rw[hb] at s0 s1 hE;subst hA hB;rw[Int.toNat_natCast] at r0 r1 s0 s1;have hdm:decide ((i:Int)<(m.length:Int))=true:=decide_eq_true aj;have aua:decide (i<m.length)=true:=decide_eq_true aj;have HE2:=ah.mk hE;clear e1 e2 hE ha hb HE
    cases h0:(a.f0 == b.f0) with
    | false=>
     have h0':¬a.f0=b.f0:=fun e=>by rw[e,beq_self_eq_true] at h0;cases h0
     have HF:ah (iT l m=false):=⟨by rw[HE2.out,decide_eq_false h0',Bool.false_and]⟩
     go_wp2
     repeat (go_quiet (fail);try go_wp2)
     go_ret
     exact⟨by rw[HF.out];rfl,by repeat (first|exact bI.refl _|apply bI.step)⟩
    | true=>
     have h0':a.f0=b.f0:=beq_iff_eq.1 h0
     cases h1:(a.f1 == b.f1) with
     | false=>
      have h1':¬a.f1=b.f1:=fun e=>by rw[e,beq_self_eq_true] at h1;cases h1
      have HF:ah (iT l m=false):=⟨by rw[HE2.out,decide_eq_false h1',Bool.false_and,Bool.and_false]⟩
      go_wp2
      repeat (go_quiet (fail);try go_wp2)
      go_ret
      exact⟨by rw[HF.out];rfl,by repeat (first|exact bI.refl _|apply bI.step)⟩
     | true=>
      have h1':a.f1=b.f1:=beq_iff_eq.1 h1
      have HF:ah (iT l m=iT (l.drop (i+1)) (m.drop (i+1))):=⟨by rw[HE2.out,decide_eq_true h0',decide_eq_true h1',Bool.true_and,Bool.true_and]⟩
      go_wp2
      repeat (go_quiet (fail);try go_wp2)
      go_roundg (l.length - (i+1))
      case measure=>omega
      case rel=>exact⟨i+1,by omega,by first|rfl|simp,by omega,HF,by repeat (first|exact bI.refl _|apply bI.step)⟩
   have hd:decide ((i:Int)<(l.length:Int))=false:=decide_eq_false aj;have hd2:decide (i<l.length)=false:=decide_eq_false hi2
   have HF:ah (iT l m=true):=⟨by rw[HE.out,List.drop_of_length_le aj,List.drop_of_length_le aj,iT]⟩
   go_wp2_with fail
   go_ret
   exact⟨by rw[HF.out];rfl,by repeat (first|exact bI.refl _|apply bI.step)⟩
 have hl2:(l.length == m.length)=false:=beq_eq_false_iff_ne.2 hl;have hl3:((l.length:Int) == (m.length:Int))=false:=beq_eq_false_iff_ne.2 aj;rw[Kh hl]
 go_enter Tryz.func89,Tryz.ntmps89
 go_wp2
 go_ret
 exact⟨rfl,by repeat (first|exact bI.refl _|apply bI.step)⟩
theorem af3:(Tryz.prog.info? 117).map (fun i=>(i.zero,i.size,i.bytes))=some (some (.agg #[.int .i64 0,.int .i64 0]),2,16):=by kernel_rfl
theorem zA (A0:Option Addr) (c0:Nat) (l:List Ru) (w:World) (hr0:Kd.C dw w A0 l.length l) (hl:l.length≤1048576) :
  Calls Tryz.prog 91 #[.slice A0 l.length c0] w fun e w'=>∃v:Value,e=.returned v∧Kd.R dw 117 w' w.heap.size (fun _=>True) v l∧Below w.heap.size w w':=by
 have hu:=Tryz.underlying26
 have q22:∀(w:World) (a:Option Addr) (n c n' c':Nat),(binOp .eql 26 (.slice a n c) (.slice none n' c')).run Tryz.prog w=.ok (.bool a.isNone) w:=fun w a n c n' c'=>Lib.run_eql_slice_nil w _ _ a n c n' c' hu
 cases A0 with
 | none=>
  have hE:l=[]:=by
   cases l with
   | nil=>rfl
   | cons a l=>
    obtain⟨ad,h,_⟩:=hr0.2.2 bB;cases h
  subst hE
  go_enter Tryz.func91,Tryz.ntmps91
  go_wp2
  go_ret
  exact⟨_,rfl,Kd.eD _ _ _ _ _,Below.refl _ _⟩
 | some ad=>
  obtain⟨inner,hin,hcl⟩:=kT.af4 hr0;have HI:=ah.mk hin;have HC:=ah.mk hcl
  have H1:ah (∀u∈inner,u.oneCell'=true):=⟨fun u hu=>by
   obtain⟨j,hj⟩:=List.getElem?_of_mem hu;have hl0:=hin.1
   have hj2:j<inner.length:=by
    rcases Nat.lt_or_ge j inner.length with h|h
    ·exact h
    rw[List.getElem?_eq_none h] at hj;cases hj
   have hk:j / 2<l.length:=by
    rw[hl0] at hj2;have:dw.sz=2:=rfl;rw[this] at hj2;omega
   have hp:=hin.2 (j / 2) (l[j / 2]) bB;refine dw.kZ hp u ?_;have hs:dw.sz=2:=rfl;rw[hs]
   have:((inner.drop (j / 2*2)).take 2)[j % 2]?=some u:=by
    rw[List.getElem?_take_of_lt aj,List.getElem?_drop,show j / 2*2+j % 2=j by omega];exact hj
   exact List.mem_of_getElem? this⟩
  clear hin hcl hr0;obtain⟨i0,hi,hz0,hz1,hz2⟩:=info_parts af3
  have z23:∀w,(Go.sizeOf 117).run Tryz.prog w=.ok 2 w:=fun w=>by kernel_rfl
  go_enter Tryz.func91,Tryz.ntmps91
  go_wp2_with (at_builtin;refine wpList_append_own _ rfl _ _ 26 rfl w.heap.size 117 i0 (.agg #[.int .i64 0,.int .i64 0]) 2 16 hu hi hz0 hz1 hz2 rfl aH _ _ _ rfl (World.ownsRow_made w #[] 0 (Nat.le_refl _) (Nat.zero_le _) bB) ad l.length c0 inner rfl ?qc1 ?qc2 ?qc3 ?qc4 ?qc5 ?qc6 ?_)
  case qc1=>exact HI.out.1
  case qc2=>
   intro j u hj;exact Lib.cell?_alloc_some _ (HC.out j u hj)
  case qc3=>exact H1.out
  case qc4=>unfold maxLen;omega
  case qc5=>omega
  case qc6=>simp
  intro v' w1 hown hgrow hnil
  go_wp2
  go_ret
  refine⟨v',rfl,⟨fun _ _=>trivial,inner,hown,HI.out.qK (fun p c hp=>?_)⟩,((Below.refl _ w).alloc (Nat.le_refl _) _).grown hgrow bB (by intro k hk;simp[Value.ownBlock] at hk;omega)⟩;rw[Jg hp];exact⟨_,_,rfl,rfl,rfl⟩
def OI (w:World) (p:Value):Option It→Prop
 | none=>p=.pointer none
 | some x=>∃(ad:Addr) (A4:Option Addr) (c4:Nat) (A5:Option Addr) (c5:Nat),p=.pointer (some ad)∧w.cell? ad=some (.int .i64 x.f0)∧w.cell? ⟨ad.block,ad.off+1,none⟩=some (.string x.f1)∧w.cell? ⟨ad.block,ad.off+2,none⟩=some (.string x.f2)∧w.cell? ⟨ad.block,ad.off+3,none⟩=some (.int .i64 x.f3)∧w.cell? ⟨ad.block,ad.off+4,none⟩=some (.slice A4 x.f4.length c4)∧w.cell? ⟨ad.block,ad.off+5,none⟩=some (.slice A5 x.f5.length c5)∧x.f4.length≤c4∧Kd.C dw w A4 x.f4.length x.f4∧x.f5.length≤c5∧Kd.C (Kd.int .u8) w A5 x.f5.length x.f5
theorem OI.below {w w1:World} {p:Value} {x:Option It} (h:OI w p x) (hb:Below w.heap.size w w1):OI w1 p x:=by
 cases x with
 | none=>exact h
 | some x=>
  obtain⟨ad,A4,c4,A5,c5,e,r0,r1,r2,r3,r4,r5,l4,g4,l5,g5⟩:=h;exact⟨ad,A4,c4,A5,c5,e,au hb r0,au hb r1,au hb r2,au hb r3,au hb r4,au hb r5,l4,Kd.aC g4 hb,l5,Kd.aC g5 hb⟩
def FE:Option It→Option It→Bool
 | none,none=>true
 | some x,some y=>rV x y
 | _,_=>false
theorem Ew {P:Program} {f:FuncId} {args:Array Value} {w:World} {n:Nat} {v:Value}
  (h:Calls P f args (w.drewN n) fun e w'=>e=.returned v∧bI (w.drewN n) w') :
  Calls P f args (w.drewN n) fun e w''=>e=.returned v∧∃m,w''=w.drewN m :=
 h.mono fun _ _ ⟨he,m,hm⟩=>⟨he,n+m,by rw[hm,World.drewN_drewN]⟩
theorem CB {P:Program} (w:World) (d:Nat) (t:TypeId) (a:Addr) (h:P.underlying t=some (.pointer (P.pointee t))) :
  (Op.equalIn (d+1) t (.pointer none) (.pointer (some a))).run P w=.ok false w:=by
 simp[Op.equalIn,run_underlying h]
theorem EU {P:Program} (w:World) (t:TypeId) (a:Addr) (h:P.underlying t=some (.pointer (P.pointee t))) :
  (Op.equal t (.pointer none) (.pointer (some a))).run P w=.ok false w:=CB w 9999 t a h
theorem Ja {P:Program} (w:World) (t:TypeId) (a:Addr) (h:P.underlying t=some (.pointer (P.pointee t))) :
  (binOp .eql t (.pointer none) (.pointer (some a))).run P w=.ok (.bool false) w:=by
 simp only[binOp];simp[EU w t a h]
theorem Yj (p q:Value) (x y:Option It) (w:World) (hx:OI w p x) (hy:OI w q y) :
  Calls Tryz.prog 52 #[p,q] w fun e w'=>e=.returned (.bool (FE x y))∧bI w w':=by
 have hup:Tryz.prog.underlying 95=some (.pointer (Tryz.prog.pointee 95)):=by kernel_rfl
 have hu:=Tryz.underlying29
 have h1:∀(p:Option Addr) (w:World),(binOp .eql 95 (.pointer p) (.pointer none)).run Tryz.prog w=.ok (.bool p.isNone) w:=fun p w=>run_eql_pointer_nil w _ p hup
 have h2:∀(a:Addr) (w:World),(binOp .eql 95 (.pointer none) (.pointer (some a))).run Tryz.prog w=.ok (.bool false) w:=fun a w=>Ja w _ a hup
 clear hup
 cases x with
 | none=>
  obtain rfl:p=.pointer none:=hx
  cases y with
  | none=>
   obtain rfl:q=.pointer none:=hy
   go_enter Tryz.func52,Tryz.ntmps52
   go_wp2
   repeat (go_quiet (fail);try go_wp2)
   go_ret
   exact⟨rfl,by first|exact⟨_,rfl⟩|exact bI.refl _⟩
  | some y=>
   obtain⟨bd,B4,d4,B5,d5,rfl,s0,s1,s2,s3,s4,s5,m4,k4,m5,k5⟩:=hy;clear s0 s1 s2 s3 s4 s5 m4 k4 m5 k5
   go_enter Tryz.func52,Tryz.ntmps52
   go_wp2
   repeat (go_quiet (fail);try go_wp2)
   go_ret
   exact⟨rfl,by first|exact⟨_,rfl⟩|exact bI.refl _⟩
 | some x=>
  obtain⟨ad,A4,c4,A5,c5,rfl,r0,r1,r2,r3,r4,r5,l4,g4,l5,g5⟩:=hx
  cases y with
  | none=>
   obtain rfl:q=.pointer none:=hy;clear r0 r1 r2 r3 r4 r5 l4 g4 l5 g5
   go_enter Tryz.func52,Tryz.ntmps52
   go_wp2
   repeat (go_quiet (fail);try go_wp2)
   go_ret
   exact⟨rfl,by first|exact⟨_,rfl⟩|exact bI.refl _⟩
  | some y=>
   obtain⟨bd,B4,d4,B5,d5,rfl,s0,s1,s2,s3,s4,s5,m4,k4,m5,k5⟩:=hy
   have hstr:∀s t:ByteArray,decide (bs s=bs t)=(s.toList == t.toList):=fun s t=>by
    rw[Lib.toList_data,Lib.toList_data];unfold bs;by_cases e:s.data.toList=t.data.toList
    ·rw[decide_eq_true e,beq_iff_eq.2 e]
    rw[decide_eq_false e,beq_eq_false_iff_ne.2 e]
   have hint:∀a b:Int,decide (a=b)=(a == b):=fun a b=>by
    by_cases e:a=b
    ·rw[decide_eq_true e,beq_iff_eq.2 e]
    rw[decide_eq_false e,beq_eq_false_iff_ne.2 e]
   have G4:=ah.mk g4;have G5:=ah.mk g5;have K4:=ah.mk k4;have K5:=ah.mk k5;have L4:=ah.mk l4;have L5:=ah.mk l5;have M4:=ah.mk m4;have M5:=ah.mk m5;clear l4 g4 l5 g5 m4 k4 m5 k5;unfold FE rV;simp only[hstr,hint];clear hstr hint
   have c1:∀(n:Nat),Calls Tryz.prog 89 #[.slice A4 x.f4.length c4,.slice B4 y.f4.length d4] (w.drewN n) fun e w''=>e=.returned (.bool (iT x.f4 y.f4))∧∃m,w''=w.drewN m :=
    fun n=>Ew (R9 A4 c4 x.f4 B4 d4 y.f4 _ (Kd.eB G4.out _) (Kd.eB K4.out _))
   have c2:∀(n:Nat),Calls Tryz.prog 62 #[.slice A5 x.f5.length c5,.slice B5 y.f5.length d5] (w.drewN n) fun e w''=>e=.returned (.bool ((strOfNums x.f5).toList == (strOfNums y.f5).toList))∧∃m,w''=w.drewN m :=
    fun n=>Ew (bytes_Equal.calls A5 c5 x.f5 B5 d5 y.f5 _ _ (Kd.eB G5.out _) L5.out (Kd.eB K5.out _) M5.out rfl)
   have C1:=ah.mk c1;have C2:=ah.mk c2;clear c1 c2 G4 G5 K4 K5 L4 L5 M4 M5
   obtain⟨e0,h0⟩:∃e0,(x.f0 == y.f0)=e0:=⟨_,rfl⟩
   obtain⟨e2,h2'⟩:∃e0,(x.f2.toList == y.f2.toList)=e0:=⟨_,rfl⟩
   obtain⟨e3,h3⟩:∃e0,(x.f3 == y.f3)=e0:=⟨_,rfl⟩
   obtain⟨e4,h4⟩:∃e0,iT x.f4 y.f4=e0:=⟨_,rfl⟩
   obtain⟨e5,h5⟩:∃e0,((strOfNums x.f5).toList == (strOfNums y.f5).toList)=e0:=⟨_,rfl⟩
   rw[h4,h5];have C1':=C1.out;have C2':=C2.out;rw[h4] at C1';rw[h5] at C2';have D1:=ah.mk C1';have D2:=ah.mk C2';clear C1 C2 C1' C2' h4 h5;rw[h0,h2',h3]
   go_enter Tryz.func52,Tryz.ntmps52
   cases e0 with
   | false=>
    go_wp2
    repeat (go_quiet (fail);try go_wp2)
    go_ret
    exact⟨rfl,by first|exact⟨_,rfl⟩|exact bI.refl _⟩
   | true=>
    cases e2 with
    | false=>
     go_wp2
     repeat (go_quiet (fail);try go_wp2)
     go_ret
     exact⟨rfl,by first|exact⟨_,rfl⟩|exact bI.refl _⟩
    | true=>
     cases e3 with
     | false=>
      go_wp2
      repeat (go_quiet (fail);try go_wp2)
      go_ret
      exact⟨rfl,by first|exact⟨_,rfl⟩|exact bI.refl _⟩
     | true=>
      cases e4 with
      | false=>
       go_wp2
       repeat (go_quiet ((go_at_call 89;exact D1.out _));try go_wp2)
       go_ret
       exact⟨rfl,by first|exact⟨_,rfl⟩|exact bI.refl _⟩
      | true=>
       go_wp2
       repeat (go_quiet (first|(go_at_call 89;exact D1.out _)|(go_at_call 62;exact D2.out _));try go_wp2)
       go_ret
       exact⟨by cases e5 <;> rfl,by first|exact⟨_,rfl⟩|exact bI.refl _⟩
def oq.f (l0:List Ru):Option (List Ru):=if l0.length≤1048576 then some l0 else none
theorem oq.calls (A0:Option Addr) (c0:Nat) (l0 r:List Ru) (w:World) (hr0:Kd.C dw w A0 l0.length l0) (hc0:l0.length≤c0) (h:oq.f l0=some r) :
  Calls Tryz.prog 91 #[.slice A0 l0.length c0] w fun e w'=>∃wI:Value,e=.returned wI∧Kd.R dw 117 w' w.heap.size (fun _=>True) wI r∧Below w.heap.size w w':=by
 unfold oq.f at h;by_cases hl:l0.length≤1048576
 ·rw[if_pos hl] at h;obtain rfl:=Option.some.inj h;exact zA A0 c0 l0 w hr0 hl
 rw[if_neg hl] at h;cases h
def kY.f (l0:List Int):Option (List Int):=if l0.length≤1073741824 then some l0 else none
theorem kY.calls (A0:Option Addr) (c0:Nat) (l0 r:List Int) (w:World) (hr0:Kd.C (Kd.int .u8) w A0 l0.length l0) (hc0:l0.length≤c0) (h:kY.f l0=some r) :
  Calls Tryz.prog 143 #[.slice A0 l0.length c0] w fun e w'=>∃wI:Value,e=.returned wI∧Kd.R (Kd.int .u8) 5 w' w.heap.size (fun _=>True) wI r∧Below w.heap.size w w':=by
 unfold kY.f at h;by_cases hl:l0.length≤1073741824
 ·rw[if_pos hl] at h;obtain rfl:=Option.some.inj h
  cases A0 with
  | none=>
   have hE:l0=[]:=by
    cases l0 with
    | nil=>rfl
    | cons a l=>
     obtain⟨ad,h,_⟩:=hr0.2.2 bB;cases h
   subst hE;refine (Tryz.bytes_Clone_nil _ c0 w).mono ?_;rintro e w' ⟨rfl,rfl⟩;exact⟨_,rfl,Kd.eD _ _ _ _ _,Below.refl _ _⟩
  | some ad=>
   refine (Tryz.bytes_Clone_at ad l0.length c0 l0 w rfl aj (fun i hi=>?_)).mono ?_
   ·have:=Kd.YQ hr0 (i:Int) aj aj;rw[Int.toNat_natCast] at this;rw[this];unfold rd;rw[Int.toNat_natCast]
   rintro e w' ⟨v',rfl,ho,_,hb⟩;exact⟨v',rfl,Kd.qm (by unfold encs;exact ho) (fun _ _=>trivial),hb⟩
 rw[if_neg hl] at h;cases h
end Go.Proofs.YtknihldkhedpkaaGreatDoor
end
section
namespace Go.Proofs.YtknihldkhedpkaaGreatDoor
open Go.RowKit
def Still (B:Nat) (A C:World):Prop:=A.heap.size≤C.heap.size∧∀k o,B≤k→A.heap[k]?=some o→o.isCells=false→C.heap[k]?=some o
theorem Still.refl (B:Nat) (A:World):Still B A A:=⟨Nat.le_refl _,fun _ _ _ h _=>h⟩
theorem Still.trans {B:Nat} {X Y Z:World} (h:Still B X Y) (k:Still B Y Z):Still B X Z:=⟨Nat.le_trans h.1 k.1,fun i o hB hi ho=>k.2 i o hB (h.2 i o hB hi ho) ho⟩
theorem Still.below {B:Nat} {X Y:World} (h:Below X.heap.size X Y):Still B X Y:=⟨h.size,fun i o _ hi _=>(h.block i (Array.getElem?_eq_some_iff.1 hi).1).trans hi⟩
section
variable {P : Program} {α : Type}
def adk (P:Program) (gf:Nat) (lb:Array Value) (encs:α→Array Value) (Good:List α→α→World→Prop) (St Kp:World→World→Prop) (S:List α→Prop) (w:World):Prop :=
 ∀(l:Nat) (J:List α→World→Prop) (W:World),Below w.heap.size w W →
  (∀pre A B,J pre A→St A B→J pre B) →
  (∀pre x A,J pre A→Good pre x A→YieldAt Fence.wide 0 P l (encs x) A fun e B=>e=.returned (.bool true)∧J (pre++[x]) B∧Kp A B) →
  J [] W→Calls P gf (#[.func (.yield l) #[] #[]]++lb) W fun e B=>(∃v,e=.returned v)∧∃xs,S xs∧J xs B
theorem QT {g:Operand} {ps:Array Tmp} {assign body:Code} {Q:Exit→Act→World→Prop} {a:Act} {w:World} {gf:Nat} {lb:Array Value}
  (hg:a.eval g=.func (.func gf) #[] lb) (eg:∀args w,(callFunc gf args).run P w=.ok (.enter gf args) w)
  {encs:α→Array Value} (hps:∀x,(encs x).size=ps.size) {Good:List α→α→World→Prop} {St Kp:World→World→Prop} {S:List α→Prop}
  (hseq:adk P gf lb encs Good St Kp S w)
  (I:List α→World→Prop) (a₁:α→Act)
  (hSt:∀A B,St A B→Still w.heap.size A B)
  (Wu:∀pre A B,I pre A→St A B→I pre B)
  (Wv:∀pre W l o o',I pre W→w.heap.size≤l→W.heap[l]?=some o→o.isCells=false→I pre (W.putObj l o'))
  (hGp:∀pre x W l o o',Good pre x W→w.heap.size≤l→W.heap[l]?=some o→o.isCells=false→Good pre x (W.putObj l o'))
  (hKp:∀A B l o o1 p o2,w.heap.size≤l→A.heap[l]?=some o→o.isCells=false→Kp (A.putObj l o1) B→B.heap[l]?=some p→p.isCells=false→Kp A (B.putObj l o2))
  (h0:∀o o',I [] ((w.alloc o).alloc o'))
  (hassign:∀(l:Nat) (x:α) (W:World) (K:Act→World→Prop),K (a₁ x) W →
   assign.wpIn (Fence.wide.inRound l) 0 P (Exit.then K (fun _ _ _=>False)) { tmps:=(ps.zip (encs x)).foldl (fun t (p,v)=>t.setIfInBounds p v) a.tmps,defers:=[] } W)
  (hbody:∀(l:Nat) (pre:List α) (x:α) (W:World),I pre W→Good pre x W→body.wpIn (Fence.wide.inRound l) 0 P (fun e _ B=>e=.normal∧I (pre++[x]) B∧Kp W B∧Still w.heap.size W B) (a₁ x) W)
  (hdone:∀xs W,S xs→w.heap.size<W.heap.size→I xs W→W.heap[w.heap.size]?=some (.deferred (some []))→Q .normal { a with defers:={ target:=.collected w.heap.size,args:=#[] }::a.defers } W) :
  (Code.rangeFunc g ps assign body).wp P Q a w:=by
 refine (wpIn_wide (n:=1)).1 (wpIn_rangeFunc (fun fn hfn=>?_))
 obtain⟨rec,hrec⟩:∃rec:LoopState→Option Code→Loop,rec=fun st pe=>{ state:=st,pending:=pe,fn,tmps:=a.tmps,params:=ps,assign,body,defers:=w.heap.size }:=⟨_,rfl⟩
 obtain⟨s,hs⟩:∃s,s=w.heap.size:=⟨_,rfl⟩
 obtain⟨W1,hW1⟩:∃W1,W1=(w.alloc (.deferred (some []))).alloc (.loop (rec .ready none)):=⟨_,rfl⟩
 have hD1:W1.heap[s]?=some (.deferred (some [])):=by
  rw[hW1,hs];exact (Below.heap_alloc _ _ _ bB).trans (World.alloc_heap_new w _)
 have hL1:W1.heap[s+1]?=some (.loop (rec .ready none)):=by
  rw[hW1,hs];have:=World.alloc_heap_new (w.alloc (.deferred (some []))) (.loop (rec .ready none))
  rwa [World.size_alloc] at this
 have hB1:Below w.heap.size w W1:=by
  rw[hW1];exact ((Below.refl _ w).alloc (Nat.le_refl _) _).alloc bB _
 refine⟨s+1,[{ target:=.collected s,args:=#[] }],W1,{ target:=.fn (.func gf) lb,args:=#[.func (.yield (s+1)) #[] #[]] },W1,gf,#[.func (.yield (s+1)) #[] #[]]++lb,W1,?_,?_,fun f' hf'=>trivial,?_,?_,?_⟩
 ·rw[hW1,hrec,hs];exact run_enterLoop_outer _ _ _ _ _
 ·simp only[resolve,hg];simp[go_sem]
 ·simp[invoke,go_sem,eg]
 ·intro h;cases h
 refine callsIn_wide.2 ((hseq (s+1) (fun pre W=>I pre W∧W.heap[s+1]?=some (.loop (rec .ready none))∧W.heap[s]?=some (.deferred (some []))) W1 hB1 ?_ ?_ ⟨hW1▸h0 _ _,hL1,hD1⟩).mono ?_)
 ·rintro pre A B ⟨hi,hl,hd⟩ hab;exact⟨Wu _ _ _ hi hab,(hSt _ _ hab).2 _ _ aj hl rfl,(hSt _ _ hab).2 _ _ aj hd rfl⟩
 ·rintro pre x A ⟨hi,hl,hd⟩ hgood;have hlt:=(Array.getElem?_eq_some_iff.1 hl).1;have hy:=run_yield (P:=P) (args:=encs x) hl (by rw[hrec];exact hps x);rw[hrec] at hy;refine⟨fn,_,assign,body,hy,roundIn_of_wpIn hfn (hassign _ x A _ ⟨_,run_beginRound hl (by rw[hrec]),?_⟩)⟩;have hl2:(A.putObj (s+1) (.loop { rec .ready none with state:=.busy })).heap[s+1]?=some (.loop { rec .ready none with state:=.busy }):=World.putObj_heap_same hlt;have hd2:(A.putObj (s+1) (.loop { rec .ready none with state:=.busy })).heap[s]?=some (.deferred (some [])):=(World.putObj_heap_other aj).trans hd;refine wpIn_mono (hbody _ pre x _ (Wv _ _ _ _ _ hi aj hl rfl) (hGp _ _ _ _ _ _ hgood aj hl rfl)) ?_;rintro e a3 B ⟨rfl,hi3,hk3,hs3⟩;have hl3:=hs3.2 _ _ aj hl2 rfl;have hd3:=hs3.2 _ _ aj hd2 rfl;have hr:=run_endRound (P:=P) none hl3;have hlt3:=(Array.getElem?_eq_some_iff.1 hl3).1;refine⟨_,_,hr,rfl,⟨Wv _ _ _ _ _ hi3 aj hl3 rfl,?_,(World.putObj_heap_other aj).trans hd3⟩,hKp _ _ _ _ _ _ _ aj hl rfl hk3 hl3 rfl⟩;rw[World.putObj_heap_same hlt3,hrec];rfl
 rintro e B ⟨⟨v,rfl⟩,xs,hxs,hi,hl,hd⟩;have hr:=run_endLoop (P:=P) hl (by rw[hrec];simp);refine⟨_,_,hr,?_⟩;rw[hrec];rw[hs] at hd hl ⊢;have h2:=(Array.getElem?_eq_some_iff.1 hd).1;exact hdone _ _ hxs (by simpa [World.putObj] using h2) (Wv _ _ _ _ _ hi aj hl rfl) ((World.putObj_heap_other aj).trans hd)
end
end Go.Proofs.YtknihldkhedpkaaGreatDoor
end
