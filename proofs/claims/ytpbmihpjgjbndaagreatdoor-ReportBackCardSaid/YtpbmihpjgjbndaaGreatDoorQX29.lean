/- The engine and the words that all chapters share: several texts in one. -/
import Derived.Test.YtpbmihpjgjbndaaGreatDoorQB
import Derived.Test.YtpbmihpjgjbndaaGreatDoorQX37
/- Chapter 4's networks of raw numbers. -/
set_option linter.unusedVariables false
set_option linter.unusedSimpArgs false
namespace Go.Proofs.YtpbmihpjgjbndaaGreatDoor
open Go.RowKit
theorem dM {c n:Int} (hc:bT c) (hn:0<n):Fn 22 [.int .i64 c,.int .i64 n] [] [] fun v H'=>v=.int .i64 (dB c n)∧H'=[]:=by
 unfold bT at hc
 refine aS Tryz.func22 rfl rfl fun w0=>?_
 refine ad (aa (ae [] rfl ?_))
 refine er [(0,.int .i64 (if c<0 then-(c+1) else c)),(1,.int .i64 n)] [] ?_ ?_
 ·refine ad (aa (ae [] rfl ?_))
  refine aD rfl (fun h=>?_) (fun h=>aw ?_)
  ·refine aa (ae [] rfl ?_)
   refine⟨[],⟨?_,rfl,trivial⟩,by decide,rfl⟩
   show some (Value.int .i64 (IntKind.i64.wrap (0-IntKind.i64.wrap (c+1))))=_
   rw[if_pos h,b8 (n:=c+1) (by omega),b8 (by omega),Int.zero_sub]
  ·exact⟨[],⟨by rw[if_neg h];rfl,rfl,trivial⟩,by decide,rfl⟩
 refine ad (aa (ah [] rfl ?_))
 refine ab [] (sd rfl rfl rfl (by omega)) rfl ?_
 refine ae [] rfl ?_
 refine aB ⟨_,rfl,congrArg (Value.int .i64) ?_,rfl⟩
 unfold dB
 rw[Int.tmod_eq_emod_of_nonneg (by split<;>omega)]
theorem uy (nodes ends:Int) (hn:bT nodes) (he:bT ends) (A:Option Addr) (c b o:Nat) (l:List dH) (hA:l≠[]→A=some ⟨b,o,none⟩) (hl:∀ x∈l,bT x.fr∧bT x.to∧bT x.cap) (hs:l.length≤9223372036854775807):
 Fn 11 [.int .i64 nodes,.int .i64 ends,.slice A l.length c] [] [.seg b o (arcs l)] fun v H'=>∃ (N:a8) (A':Option Addr) (c':Nat),N.Right∧N.nodes≤9∧N.arcs.length≤24∧(∀ a∈N.arcs,a.cap≤1000000)∧v=br N A' c'∧
  H'=[.own (.slice A' N.arcs.length c') 70 3 N.arcs.length (arcs N.arcs)]:=by
 refine kQ Tryz.func11 rfl rfl fun w0=>?_
 refine ad (aa ?_)
 refine cm rfl rfl rfl (fun _=>rfl) fun b6=>?_
 refine ai ?_
 have hp1:=eg (c:=nodes) (n:=8) (by decide)
 refine ad (aa (ah [] rfl ?_))
 refine av [] (dM hn (by decide)) rfl rfl rfl rfl (by kernel_rfl) trivial (fun _=>rfl) ?_
 rintro v H' ⟨rfl,rfl⟩
 refine⟨rfl,?_⟩
 refine ah [] rfl ?_
 obtain⟨nn,hnn⟩:∃ x,x=2+dB nodes 8:=⟨_,rfl⟩
 refine ax 12 (v':=.int .i64 nn) rfl (congrArg (Value.int .i64) ((b8 (by omega)).trans hnn.symm)) ?_
 refine ah [] rfl ?_
 refine ab [] (cv rfl rfl rfl rfl rfl rfl) rfl ?_
 refine cm rfl rfl rfl (fun _=>rfl) fun b7=>?_
 refine aY 0 rfl rfl rfl rfl rfl [] rfl ?_
 refine ai ?_
 refine ad (aa (ah [] rfl ?_))
 refine ab [] (af 0 rfl rfl rfl rfl) rfl ?_
 refine ah [] rfl ?_
 have hp2:=eg (c:=ends) (n:=nn) (by omega)
 refine av [] (dM he (by omega:0<nn)) rfl rfl rfl rfl (by kernel_rfl) trivial (fun _=>rfl) ?_
 rintro v H' ⟨rfl,rfl⟩
 refine⟨rfl,?_⟩
 refine ah [] rfl ?_
 obtain⟨src,hsrc⟩:∃ x,x=1+dB ends nn:=⟨_,rfl⟩
 refine ax 18 (v':=.int .i64 src) rfl (congrArg (Value.int .i64) ((b8 (by omega)).trans hsrc.symm)) ?_
 refine ah [] rfl ?_
 refine aY 0 rfl rfl rfl rfl rfl [] rfl ?_
 refine ai ?_
 refine ad ?_
 refine bn 14 [(0,true),(1,true),(2,true),(3,true),(4,true),(5,true),(6,true),(9,true),(10,true),(7,false),(8,true),(11,true),(12,true),(13,true)] [0] (by kernel_rfl) (by decide) rfl ?_
 refine aC [] rfl ?_
 refine aj [] rfl (af 0 rfl rfl rfl rfl) rfl ?_
 refine aC [] rfl ?_
 refine aj [] rfl (af 0 rfl rfl rfl rfl) rfl ?_
 refine aC [] rfl ?_
 refine aj [] rfl (af 0 rfl rfl rfl rfl) rfl ?_
 have hp3:=eg (c:=ends.tdiv 16) (n:=nn-1) (by omega)
 have ht:=l0 ends (m:=16) (by decide)
 have hq:bT (ends.tdiv 16):=by unfold bT at*;omega
 refine aC [] rfl ?_
 refine bX 23 (v':=.int .i64 (ends.tdiv 16)) rfl (congrArg (Value.int .i64) (b8 hq)) ?_
 refine bX 26 (v':=.int .i64 (nn-1)) rfl (congrArg (Value.int .i64) (b8 (by omega))) ?_
 refine a6 rfl ?_
 refine av [] (dM hq (by omega:0<nn-1)) rfl rfl rfl rfl (by kernel_rfl) trivial (fun _=>rfl) ?_
 rintro v H' ⟨rfl,rfl⟩
 refine⟨rfl,ai ⟨⟨[0],by decide,rfl⟩,?_⟩⟩
 refine aC [] rfl ?_
 refine bX 28 (v':=.int .i64 (src+dB (ends.tdiv 16) (nn-1))) rfl (congrArg (Value.int .i64) (b8 (by omega))) ?_
 refine aj [] rfl (sd rfl rfl rfl (by omega)) rfl ?_
 obtain⟨snk,hsnk⟩:∃ x,x=1+(src+dB (ends.tdiv 16) (nn-1))%nn:=⟨_,rfl⟩
 have hm1:=Int.emod_nonneg (src+dB (ends.tdiv 16) (nn-1)) (show nn≠0 by omega)
 have hm2:=Int.emod_lt_of_pos (src+dB (ends.tdiv 16) (nn-1)) (show 0<nn by omega)
 have hdiff:src≠snk:=by
  intro e
  by_cases hlt:src+dB (ends.tdiv 16) (nn-1)<nn
  ·rw[Int.emod_eq_of_lt (by omega) hlt] at hsnk;omega
  ·have:(src+dB (ends.tdiv 16) (nn-1))%nn=src+dB (ends.tdiv 16) (nn-1)-nn:=by
    rw[← Int.sub_emod_right,Int.emod_eq_of_lt (by omega) (by omega)]
   rw[this] at hsnk;omega
 refine aC [] rfl ?_
 refine bX 32 (v':=.int .i64 snk) rfl (congrArg (Value.int .i64) ?_) ?_
 ·rw[Int.tmod_eq_emod_of_nonneg (by omega),b8 (by omega),hsnk]
 refine bu ?_
 refine aY 0 rfl rfl rfl rfl rfl [] rfl ?_
 refine ai ?_
 refine ad (ad (aa (ae [] rfl ?_)))
 refine au ?_
 refine cE 70 3 ?_
 refine bq (σ:=Nat×Option Addr×Nat×List dH) (fun s=>[(8,.int .i64 s.1),(7,.pointer (some ⟨b7,0,none⟩)),(2,.slice A l.length c),(6,.pointer (some ⟨b6,0,none⟩))])
  (fun s=>[.own (.slice s.2.1 s.2.2.2.length s.2.2.1) 70 3 s.2.2.2.length (arcs s.2.2.2),blk b7 27 [.int .i64 nn,.int .i64 src,.int .i64 snk,.slice s.2.1 s.2.2.2.length s.2.2.1],
   blk b6 27 [.int .i64 0,.int .i64 0,.int .i64 0,.slice none 0 0],.seg b o (arcs l)])
  (fun s=>s.1≤l.length∧s.1≤24∧s.2.2.2.length=s.1∧∀ a∈s.2.2.2,(1≤a.fr∧a.fr≤nn)∧(1≤a.to∧a.to≤nn)∧0≤a.cap∧a.cap≤1000000) (fun s=>l.length-s.1)
  (0,none,0,[]) [0,1,2,3] ⟨rfl,rfl,rfl,rfl,trivial⟩ (by decide) rfl ⟨Nat.zero_le _,Nat.zero_le _,rfl,fun a ha=>by cases ha⟩ ?_
 rintro⟨k,A1,c1,r⟩ ⟨hk,hk24,hrk,hr⟩
 simp only at hk hk24 hrk hr ⊢
 refine ad ?_
 refine er [(41,.bool (dj (k<l.length∧k<24))),(8,.int .i64 k),(7,.pointer (some ⟨b7,0,none⟩)),(2,.slice A l.length c),(6,.pointer (some ⟨b6,0,none⟩))]
  [.own (.slice A1 r.length c1) 70 3 r.length (arcs r),blk b7 27 [.int .i64 nn,.int .i64 src,.int .i64 snk,.slice A1 r.length c1],blk b6 27 [.int .i64 0,.int .i64 0,.int .i64 0,.slice none 0 0],.seg b o (arcs l)] ?_ ?_
 ·skip
  refine aa (ah [] rfl ?_)
  by_cases h1:k<l.length
  ·refine ax 38 (v':=.bool true) rfl (congrArg Value.bool (az (by omega))) ?_
   refine ae [4] rfl ?_
   refine⟨[0,1,2,3],⟨?_,rfl,rfl,rfl,rfl,trivial⟩,by decide,rfl⟩
   exact congrArg some (congrArg Value.bool (dI (by omega)))
  ·refine ax 38 (v':=.bool false) rfl (congrArg Value.bool (aA (by omega))) ?_
   refine ae [4] rfl ?_
   refine⟨[0,1,2,3],⟨?_,rfl,rfl,rfl,rfl,trivial⟩,by decide,rfl⟩
   exact congrArg some (congrArg Value.bool (aA (by omega)).symm)
 refine aD rfl (fun hlt=>aw ?_) (fun hge=>aX ?_)
 ·obtain⟨hlt,hlt24⟩:=hlt
  obtain rfl:=hA (by rintro rfl;simp at hlt)
  obtain⟨⟨fr,tz,cap⟩,hx⟩:∃ x,l[k]?=some x:=⟨l[k],List.getElem?_eq_getElem hlt⟩
  have hB:=hl _ (List.mem_of_getElem? hx)
  simp only at hB
  obtain⟨hx0,hx1,hx2⟩:=ek hx
  refine ad (au ?_)
  refine ad (aa (ah [] rfl ?_))
  refine ab [] (iP rfl rfl rfl rfl rfl hlt) rfl ?_
  refine ah [] rfl ?_
  refine ab [] (bo 3 rfl rfl rfl rfl hx2) rfl ?_
  refine av [] (dM hB.2.2 (by decide)) rfl rfl rfl rfl (by kernel_rfl) trivial (fun _=>rfl) ?_
  rintro v H' ⟨rfl,rfl⟩
  refine⟨rfl,?_⟩
  refine ae [] rfl ?_
  have c1':=eg (c:=cap) (n:=21) (by decide)
  have c2':=eg (c:=cap) (n:=1000000) (by decide)
  have htd:=l0 cap (m:=21) (by decide)
  have hq3:bT (cap.tdiv 21):=by have:=hB.2.2;unfold bT at*;omega
  obtain⟨cp,hcp⟩:∃ x,x=if dB (cap.tdiv 21) 9=0 then dB cap 1000000 else dB cap 21:=⟨_,rfl⟩
  refine er [(9,.int .i64 cp),(8,.int .i64 k),(7,.pointer (some ⟨b7,0,none⟩)),(2,.slice (some ⟨b,o,none⟩) l.length c),(6,.pointer (some ⟨b6,0,none⟩))]
   [.own (.slice A1 r.length c1) 70 3 r.length (arcs r),blk b7 27 [.int .i64 nn,.int .i64 src,.int .i64 snk,.slice A1 r.length c1],blk b6 27 [.int .i64 0,.int .i64 0,.int .i64 0,.slice none 0 0],.seg b o (arcs l)] ?_ ?_
  ·refine ad (aa (ah [] rfl ?_))
   refine ab [] (iP rfl rfl rfl rfl rfl hlt) rfl ?_
   refine ah [] rfl ?_
   refine ab [] (bo 3 rfl rfl rfl rfl hx2) rfl ?_
   refine ah [] rfl ?_
   refine ax 55 (v':=.int .i64 (cap.tdiv 21)) rfl (congrArg (Value.int .i64) (b8 hq3)) ?_
   refine av [] (dM hq3 (by decide)) rfl rfl rfl rfl (by kernel_rfl) trivial (fun _=>rfl) ?_
   rintro v H' ⟨rfl,rfl⟩
   refine⟨rfl,?_⟩
   refine ae [] rfl ?_
   refine aD rfl (fun h=>?_) (fun h=>aw ?_)
   ·refine aa (ah [] rfl ?_)
    refine ab [] (iP rfl rfl rfl rfl rfl hlt) rfl ?_
    refine ah [] rfl ?_
    refine ab [] (bo 3 rfl rfl rfl rfl hx2) rfl ?_
    refine av [] (dM hB.2.2 (by decide)) rfl rfl rfl rfl (by kernel_rfl) trivial (fun _=>rfl) ?_
    rintro v H' ⟨rfl,rfl⟩
    refine⟨rfl,?_⟩
    refine ae [] rfl ?_
    exact⟨[0,1,2,3],⟨by rw[hcp,if_pos h];rfl,rfl,rfl,rfl,rfl,trivial⟩,by decide,rfl⟩
   ·exact⟨[0,1,2,3],⟨by rw[hcp,if_neg h];rfl,rfl,rfl,rfl,rfl,trivial⟩,by decide,rfl⟩
  have hcp0:0≤cp∧cp≤1000000:=by split at hcp<;>omega
  have f1:=eg (c:=fr) (n:=nn) (by omega)
  have f2:=eg (c:=tz) (n:=nn) (by omega)
  refine bn 25 [(0,true),(1,true),(2,true),(3,true),(4,true),(5,true),(6,true),(7,true),(8,true),(11,true),(12,true),(13,true),(14,true),(15,true),(16,true),(17,true),(20,true),(9,false),(10,true),(18,false),(19,true),(21,true),(22,false),(23,false),(24,true)] [1,3] (by kernel_rfl) (by decide) rfl ?_
  refine aC [] rfl ?_
  refine aj [] rfl (af 0 rfl rfl rfl rfl) rfl ?_
  refine aC [] rfl ?_
  refine aj [] rfl (iP rfl rfl rfl rfl rfl hlt) rfl ?_
  refine aC [] rfl ?_
  refine aj [] rfl (bo 1 rfl rfl rfl rfl hx0) rfl ?_
  refine aC [] rfl ?_
  refine aj [] rfl (af 0 rfl rfl rfl rfl) rfl ?_
  refine aC [] rfl ?_
  refine aj [] rfl (iP rfl rfl rfl rfl rfl hlt) rfl ?_
  refine aC [] rfl ?_
  refine aj [] rfl (bo 1 rfl rfl rfl rfl hx1) rfl ?_
  refine aC [] rfl ?_
  refine aj [] rfl (af 0 rfl rfl rfl rfl) rfl ?_
  refine aC [] rfl ?_
  refine a6 rfl ?_
  refine av [] (dM hB.1 (by omega:0<nn)) rfl rfl rfl rfl (by kernel_rfl) trivial (fun _=>rfl) ?_
  rintro v H' ⟨rfl,rfl⟩
  refine⟨rfl,ai ⟨⟨[1,3],by decide,rfl⟩,?_⟩⟩
  refine aC [] rfl ?_
  refine bX 74 (v':=.int .i64 (1+dB fr nn)) rfl (congrArg (Value.int .i64) (b8 (by omega))) ?_
  refine a6 rfl ?_
  refine av [] (dM hB.2.1 (by omega:0<nn)) rfl rfl rfl rfl (by kernel_rfl) trivial (fun _=>rfl) ?_
  rintro v H' ⟨rfl,rfl⟩
  refine⟨rfl,ai ⟨⟨[1,3],by decide,rfl⟩,?_⟩⟩
  refine aC [] rfl ?_
  refine bX 83 (v':=.int .i64 (1+dB tz nn)) rfl (congrArg (Value.int .i64) (b8 (by omega))) ?_
  refine aj [] rfl (cv rfl rfl rfl rfl rfl rfl) rfl ?_
  refine a6 rfl ?_
  refine bH rfl rfl rfl rfl rfl rfl rfl (fun _=>rfl) fun g=>?_
  refine ai ⟨⟨[2,4],by decide,rfl⟩,?_⟩
  refine a6 rfl ?_
  refine bc (off:=0) (m:=1) (news:=arcs [⟨1+dB fr nn,1+dB tz nn,cp⟩]) 1 0 rfl rfl rfl rfl rfl rfl (by decide) rfl rfl (aL g _ _ (0,0)) (fun _=>rfl) rfl rfl (by omega) (by omega) (fun _ _=>rfl) fun A2 c2=>?_
  refine ai ⟨⟨[2,4],by decide,rfl⟩,?_⟩
  refine aC [] rfl ?_
  refine bu ?_
  refine aY 2 rfl rfl rfl rfl rfl [] rfl ?_
  refine ai ?_
  refine aa (ae [] rfl ?_)
  refine⟨(k+1,A2,c2,r++[⟨1+dB fr nn,1+dB tz nn,cp⟩]),[1,2,3,4],⟨?_,rfl,rfl,rfl,trivial⟩,by decide,?_,⟨by simp only;omega,by simp only;omega,by simp only[List.length_append];simp;omega,?_⟩,by simp only;omega⟩
  ·show some (Value.int .i64 (IntKind.i64.wrap ((k:Int)+1)))=_
   rw[b8 (by omega)];rfl
  ·simp only[we,List.length_append];rfl
  ·intro a ha
   rcases List.mem_append.1 ha with ha|ha
   ·exact hr a ha
   ·obtain rfl:=List.mem_singleton.1 ha
    simp only;omega
 ·refine ad (aa ?_)
  refine ab [] (af 1 rfl rfl rfl rfl) rfl ?_
  refine aY 2 rfl rfl rfl rfl rfl [] rfl ?_
  refine ai ?_
  refine aB ?_
  refine⟨[br ⟨nn,src,snk,r⟩ A1 c1],[0],_,⟨⟨b6,2,_,_,rfl,rfl,rfl⟩,trivial⟩,by decide,rfl,⟨nn,src,snk,r⟩,A1,c1,⟨by simp only;omega,by simp only;omega,by simp only;omega,hdiff,by simp only;omega,fun a ha=>⟨(hr a ha).1,(hr a ha).2.1,(hr a ha).2.2.1⟩,?_⟩,by simp only;omega,by simp only;omega,fun a ha=>(hr a ha).2.2.2,rfl,rfl⟩
  have hsum:∀ (l:List dH),(∀ a∈l,a.cap≤1000000)→(l.map (·.cap)).sum≤1000000*l.length:=by
   intro l
   induction l with
   |nil=>intro _;simp
   |cons x l ih=>
    intro h
    have h1:=ih fun a ha=>h a (by simp[ha])
    have h2:=h x (by simp)
    simp only[List.map_cons,List.sum_cons,List.length_cons]
    omega
  have:=hsum r fun a ha=>(hr a ha).2.2.2
  simp only
  omega
end Go.Proofs.YtpbmihpjgjbndaaGreatDoor
/- Chapter 19's words: two rows that are the same, and the example. -/
set_option linter.unusedVariables false
set_option linter.unusedSimpArgs false
namespace Go.Proofs.YtpbmihpjgjbndaaGreatDoor
open Go.RowKit
open Lib
theorem tR (A:Option Addr) (c b o:Nat) (l:List Int) (hA:l≠[]→A=some ⟨b,o,none⟩) (hl:l.length≤100000) (A2:Option Addr) (c2 b2 o2:Nat) (l2:List Int) (hA2:l2≠[]→A2=some ⟨b2,o2,none⟩):
 Fn 19 [.slice A l.length c,.slice A2 l2.length c2] [] [.seg b o (ao l),.seg b2 o2 (ao l2)] fun u H'=>u=.bool (dj (l=l2))∧H'=[]:=by
 refine aS Tryz.func19 rfl rfl fun w0=>?_
 refine ad (aa (ae [] rfl ?_))
 refine ad (ad (aa (ae [] rfl ?_)))
 refine aD rfl (fun h=>?_) (fun h=>aw ?_)
 ·refine ad (aa (ae [] rfl ?_))
  refine aE [] (by decide) rfl (aB ⟨_,rfl,congrArg Value.bool (aA (fun e=>h (by rw[e]))).symm,rfl⟩)
 have hlen:l.length=l2.length:=by omega
 refine ad (ad (aa (ae [] rfl ?_)))
 refine au ?_
 refine bq (σ:=Nat) (fun k=>[(5,.int .i64 k),(0,.slice A l.length c),(1,.slice A2 l2.length c2)]) (fun k=>[.seg b o (ao l),.seg b2 o2 (ao l2)]) (fun k=>k≤l.length∧∀ j,j<k→l[j]?=l2[j]?) (fun k=>l.length-k)
  0 [0,1] ⟨rfl,rfl,rfl,trivial⟩ (by decide) rfl ⟨Nat.zero_le _,fun x hx=>by omega⟩ ?_
 rintro k ⟨hk,hall⟩
 refine ad (ad (aa (ae [] rfl ?_)))
 refine aD rfl (fun hlt=>aw ?_) (fun hge=>aX ?_)
 ·have hlt:k<l.length:=by omega
  obtain rfl:=hA (by rintro rfl;simp at hlt)
  obtain rfl:=hA2 (by intro h0;have h1:l2.length=0:=by rw[h0];rfl
                      omega)
  obtain⟨x,hx⟩:∃ x,l[k]?=some x:=⟨l[k],List.getElem?_eq_getElem hlt⟩
  obtain⟨y,hy⟩:∃ y,l2[k]?=some y:=⟨l2[k]'(by omega),List.getElem?_eq_getElem (by omega)⟩
  refine ad (au ?_)
  refine ad ?_
  refine bn 9 [(0,true),(1,true),(2,true),(3,true),(4,true),(5,true),(6,true),(7,true),(8,true)] [0,1] (by kernel_rfl) (by decide) rfl ?_
  refine aC [] rfl ?_
  refine aj [] rfl (fg rfl rfl rfl rfl rfl hlt) rfl ?_
  refine aj [] rfl (bo 0 rfl rfl rfl rfl (cj hx)) rfl ?_
  refine aC [] rfl ?_
  refine aj [] rfl (fg rfl rfl rfl rfl rfl (by omega)) rfl ?_
  refine aj [] rfl (bo 1 rfl rfl rfl rfl (cj hy)) rfl ?_
  refine dC [] rfl ?_
  refine ai ?_
  refine aD rfl (fun h=>?_) (fun h=>aw ?_)
  ·refine ad (aa (ae [] rfl ?_))
   refine aE [] (by decide) rfl (aB ⟨_,rfl,congrArg Value.bool (aA (fun e=>?_)).symm,rfl⟩)
   rw[e,hy] at hx
   exact h (Option.some.inj hx).symm
  ·skip
   refine aa (ae [] rfl ?_)
   refine⟨k+1,[0,1],⟨?_,rfl,rfl,trivial⟩,by decide,rfl,⟨by omega,fun j hj=>?_⟩,by omega⟩
   ·show some (Value.int .i64 (IntKind.i64.wrap ((k:Int)+1)))=_
    rw[b8 (by omega)];rfl
   ·by_cases e:j=k
    ·subst e;rw[hx,hy];exact congrArg some (Classical.not_not.1 h)
    ·exact hall j (by omega)
 ·refine ad (aa (ae [] rfl ?_))
  refine aE [] (by decide) rfl (aB ⟨_,rfl,congrArg Value.bool (az (List.ext_getElem? fun j=>?_)).symm,rfl⟩)
  by_cases hj:j<l.length
  ·exact hall j (by omega)
  ·rw[List.getElem?_eq_none (by omega),List.getElem?_eq_none (by omega)]
def lK:a8:=⟨2,1,2,[⟨1,2,5⟩]⟩
theorem mQ:lK.Right:=⟨by decide,by decide,by decide,by decide,by decide,fun a ha=>(by
 have h:a=⟨1,2,5⟩:=by simpa [lK] using ha
 subst h;decide),by decide⟩
theorem tO:lK.Fits:=mQ.fits2
theorem uE:aI lK [5]:=by
 refine⟨⟨rfl,fun p hp=>?_⟩,fun v h1 h2 h3=>?_⟩
 ·have h:p=(⟨1,2,5⟩,5):=by simpa [lK] using hp
  subst h;decide
 ·have h1':1≤v∧v≤2:=h1
  have h2':v≠1:=h2
  have h3':v≠2:=h3
  omega
theorem u9:eu lK [1]:=⟨by decide,by decide,by decide,by decide⟩
theorem vM:df (lK.arcs.zip [5]) 2=5:=by decide
theorem wE:eR [1] lK.arcs=5:=by decide
theorem vS:ft [5] [1] 5 5=[118,97,108,117,101,32,53,10,99,117,116,32,53,10,102,32,49,32,53,10,120,32,49,10,112,114,111,118,101,100,10]:=by
 have h5:itoa 5=[53]:=(mu (by decide)).trans (decDigits_one (by decide))
 have h1:itoa 1=[49]:=(mu (by decide)).trans (decDigits_one (by decide))
 have hf:fK [5] 1=dJ [102] [1,5]:=by rw[lP];unfold fK lF;rfl
 have hx:xK [1] 1=dJ [120] [1]:=by rw[o4 (x:=1) rfl];rfl
 unfold ft fX kn
 show ((dJ _ _++dJ _ _)++fK [5] 1)++xK [1] 1++_=_
 rw[hf,hx,if_pos rfl]
 simp[dJ,ie,h5,h1]
theorem rk (V:fC):Fn 10 [] [] V.heap fun v H'=>v=.bool true∧H'=[]:=by
 refine aS Tryz.func10 rfl rfl fun w0=>?_
 refine ad (aa (ae [] rfl ?_))
 refine ad (aa ?_)
 refine ab [] (cv rfl rfl rfl rfl rfl rfl) rfl ?_
 refine bH rfl rfl rfl rfl rfl rfl rfl (fun _=>rfl) fun g=>?_
 refine ab [] (cv rfl rfl rfl rfl rfl rfl) rfl ?_
 refine bH rfl rfl rfl rfl rfl rfl rfl (fun _=>rfl) fun g2=>?_
 refine bH rfl rfl rfl rfl rfl rfl rfl (fun _=>rfl) fun g3=>?_
 refine av [] (jd V lK tO mQ (some ⟨g,0,none⟩) 1 g 0 (fun _=>rfl) [5] (fun x hx=>by simp at hx;rw[hx];decide) (by decide) (some ⟨g2,0,none⟩) 1 g2 0 (fun _=>rfl) [1] (fun x hx=>by simp at hx;rw[hx];decide) (by decide) (some ⟨g3,0,none⟩) 1 g3 0 (fun _=>rfl)) rfl rfl rfl rfl (by kernel_rfl) ⟨⟨2,_,by simp,rfl,aL _ _ _ (0,0),.inr rfl⟩,⟨1,_,by simp,rfl,aL _ _ _ (0,0),.inr rfl⟩,⟨0,_,by simp,rfl,aL _ _ _ (0,0),.inr rfl⟩,⟨3,by simp,rfl⟩,⟨4,by simp,rfl⟩,⟨5,by simp,rfl⟩,trivial⟩ (fun _=>rfl) ?_
 rintro v H' ⟨rfl,rfl⟩
 refine⟨rfl,?_⟩
 have hv:iH lK [5] [1]=.tuple #[eh [118,97,108,117,101,32,53,10,99,117,116,32,53,10,102,32,49,32,53,10,120,32,49,10,112,114,111,118,101,100,10],.int .i64 0]:=by
  unfold iH
  rw[if_pos uE,if_pos u9,show df (lK.arcs.zip [5]) lK.snk=5 from vM,wE,vS]
 rw[hv]
 refine ae [] rfl ?_
 refine ad (aa (ah [] rfl ?_))
 refine ax 14 (v':=.bool true) rfl (congrArg Value.bool ((iN _ _).trans (az rfl))) ?_
 refine ae [2] rfl ?_
 refine aE [] (by decide) rfl (aB ⟨_,rfl,congrArg Value.bool (az rfl),rfl⟩)
end Go.Proofs.YtpbmihpjgjbndaaGreatDoor
