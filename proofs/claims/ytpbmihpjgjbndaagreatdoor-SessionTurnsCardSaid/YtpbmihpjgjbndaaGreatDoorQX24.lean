/- The engine and the words that all chapters share: several texts in one. -/
import Derived.Test.YtpbmihpjgjbndaaGreatDoorQB
import Derived.Test.YtpbmihpjgjbndaaGreatDoorQX42
import Derived.Test.YtpbmihpjgjbndaaGreatDoorQC
import Derived.Test.YtpbmihpjgjbndaaGreatDoorQX16
import Derived.Test.YtpbmihpjgjbndaaGreatDoorQX35
/- Chapter 4's networks of raw numbers. -/
set_option linter.unusedVariables false
set_option linter.unusedSimpArgs false
namespace Go.Proofs.YtpbmihpjgjbndaaGreatDoor
open Go.RowKit
theorem ev {c n:Int} (hc:cL c) (hn:0<n):Fn 61 [.int .i64 c,.int .i64 n] [] [] fun v H'=>v=.int .i64 (ee c n)∧H'=[]:=by
 unfold cL at hc
 refine aK Tryz.func61 rfl rfl fun w0=>?_
 refine ad (aa (ae [] rfl ?_))
 refine dM [(0,.int .i64 (if c<0 then-(c+1) else c)),(1,.int .i64 n)] [] ?_ ?_
 ·refine ad (aa (ae [] rfl ?_))
  refine aD rfl (fun h=>?_) (fun h=>aq ?_)
  ·refine aa (ae [] rfl ?_)
   refine⟨[],⟨?_,rfl,trivial⟩,by decide,rfl⟩
   show some (Value.int .i64 (IntKind.i64.wrap (0-IntKind.i64.wrap (c+1))))=_
   rw[if_pos h,cj (n:=c+1) (by omega),cj (by omega),Int.zero_sub]
  ·exact⟨[],⟨by rw[if_neg h];rfl,rfl,trivial⟩,by decide,rfl⟩
 refine ad (aa (ah [] rfl ?_))
 refine ab [] (sM rfl rfl rfl (by omega)) rfl ?_
 refine ae [] rfl ?_
 refine ay ⟨_,rfl,congrArg (Value.int .i64) ?_,rfl⟩
 unfold ee
 rw[Int.tmod_eq_emod_of_nonneg (by split<;>omega)]
theorem tY (nodes ends:Int) (hn:cL nodes) (he:cL ends) (A:Option Addr) (c b o:Nat) (l:List dG) (hA:l≠[]→A=some ⟨b,o,none⟩) (hl:∀ x∈l,cL x.fr∧cL x.to∧cL x.cap) (hs:l.length≤9223372036854775807):
 Fn 25 [.int .i64 nodes,.int .i64 ends,.slice A l.length c] [] [.seg b o (arcs l)] fun v H'=>∃ (N:bc) (A':Option Addr) (c':Nat),N.Right∧N.nodes≤9∧N.arcs.length≤24∧(∀ a∈N.arcs,a.cap≤1000000)∧v=bn N A' c'∧
  H'=[.own (.slice A' N.arcs.length c') 70 3 N.arcs.length (arcs N.arcs)]:=by
 refine iX Tryz.func25 rfl rfl fun w0=>?_
 refine ad (aa ?_)
 refine bA rfl rfl rfl (fun _=>rfl) fun b6=>?_
 refine ai ?_
 have hp1:=f9 (c:=nodes) (n:=8) (by decide)
 refine ad (aa (ah [] rfl ?_))
 refine ap [] (ev hn (by decide)) rfl rfl rfl rfl (by kernel_rfl) trivial (fun _=>rfl) ?_
 rintro v H' ⟨rfl,rfl⟩
 refine⟨rfl,?_⟩
 refine ah [] rfl ?_
 obtain⟨nn,hnn⟩:∃ x,x=2+ee nodes 8:=⟨_,rfl⟩
 refine av 12 (v':=.int .i64 nn) rfl (congrArg (Value.int .i64) ((cj (by omega)).trans hnn.symm)) ?_
 refine ah [] rfl ?_
 refine ab [] (be rfl rfl rfl rfl rfl rfl) rfl ?_
 refine bA rfl rfl rfl (fun _=>rfl) fun b7=>?_
 refine aE 0 rfl rfl rfl rfl rfl [] rfl ?_
 refine ai ?_
 refine ad (aa (ah [] rfl ?_))
 refine ab [] (af 0 rfl rfl rfl rfl) rfl ?_
 refine ah [] rfl ?_
 have hp2:=f9 (c:=ends) (n:=nn) (by omega)
 refine ap [] (ev he (by omega:0<nn)) rfl rfl rfl rfl (by kernel_rfl) trivial (fun _=>rfl) ?_
 rintro v H' ⟨rfl,rfl⟩
 refine⟨rfl,?_⟩
 refine ah [] rfl ?_
 obtain⟨src,hsrc⟩:∃ x,x=1+ee ends nn:=⟨_,rfl⟩
 refine av 18 (v':=.int .i64 src) rfl (congrArg (Value.int .i64) ((cj (by omega)).trans hsrc.symm)) ?_
 refine ah [] rfl ?_
 refine aE 0 rfl rfl rfl rfl rfl [] rfl ?_
 refine ai ?_
 refine ad ?_
 refine bz 14 [(0,true),(1,true),(2,true),(3,true),(4,true),(5,true),(6,true),(9,true),(10,true),(7,false),(8,true),(11,true),(12,true),(13,true)] [0] (by kernel_rfl) (by decide) rfl ?_
 refine aH [] rfl ?_
 refine aj [] rfl (af 0 rfl rfl rfl rfl) rfl ?_
 refine aH [] rfl ?_
 refine aj [] rfl (af 0 rfl rfl rfl rfl) rfl ?_
 refine aH [] rfl ?_
 refine aj [] rfl (af 0 rfl rfl rfl rfl) rfl ?_
 have hp3:=f9 (c:=ends.tdiv 16) (n:=nn-1) (by omega)
 have ht:=mA ends (m:=16) (by decide)
 have hq:cL (ends.tdiv 16):=by unfold cL at*;omega
 refine aH [] rfl ?_
 refine cZ 23 (v':=.int .i64 (ends.tdiv 16)) rfl (congrArg (Value.int .i64) (cj hq)) ?_
 refine cZ 26 (v':=.int .i64 (nn-1)) rfl (congrArg (Value.int .i64) (cj (by omega))) ?_
 refine a7 rfl ?_
 refine ap [] (ev hq (by omega:0<nn-1)) rfl rfl rfl rfl (by kernel_rfl) trivial (fun _=>rfl) ?_
 rintro v H' ⟨rfl,rfl⟩
 refine⟨rfl,ai ⟨⟨[0],by decide,rfl⟩,?_⟩⟩
 refine aH [] rfl ?_
 refine cZ 28 (v':=.int .i64 (src+ee (ends.tdiv 16) (nn-1))) rfl (congrArg (Value.int .i64) (cj (by omega))) ?_
 refine aj [] rfl (sM rfl rfl rfl (by omega)) rfl ?_
 obtain⟨snk,hsnk⟩:∃ x,x=1+(src+ee (ends.tdiv 16) (nn-1))%nn:=⟨_,rfl⟩
 have hm1:=Int.emod_nonneg (src+ee (ends.tdiv 16) (nn-1)) (show nn≠0 by omega)
 have hm2:=Int.emod_lt_of_pos (src+ee (ends.tdiv 16) (nn-1)) (show 0<nn by omega)
 have hdiff:src≠snk:=by
  intro e
  by_cases hlt:src+ee (ends.tdiv 16) (nn-1)<nn
  ·rw[Int.emod_eq_of_lt (by omega) hlt] at hsnk;omega
  ·have:(src+ee (ends.tdiv 16) (nn-1))%nn=src+ee (ends.tdiv 16) (nn-1)-nn:=by
    rw[← Int.sub_emod_right,Int.emod_eq_of_lt (by omega) (by omega)]
   rw[this] at hsnk;omega
 refine aH [] rfl ?_
 refine cZ 32 (v':=.int .i64 snk) rfl (congrArg (Value.int .i64) ?_) ?_
 ·rw[Int.tmod_eq_emod_of_nonneg (by omega),cj (by omega),hsnk]
 refine bC ?_
 refine aE 0 rfl rfl rfl rfl rfl [] rfl ?_
 refine ai ?_
 refine ad (ad (aa (ae [] rfl ?_)))
 refine ax ?_
 refine df 70 3 ?_
 refine bN (σ:=Nat×Option Addr×Nat×List dG) (fun s=>[(8,.int .i64 s.1),(7,.pointer (some ⟨b7,0,none⟩)),(2,.slice A l.length c),(6,.pointer (some ⟨b6,0,none⟩))])
  (fun s=>[.own (.slice s.2.1 s.2.2.2.length s.2.2.1) 70 3 s.2.2.2.length (arcs s.2.2.2),blk b7 27 [.int .i64 nn,.int .i64 src,.int .i64 snk,.slice s.2.1 s.2.2.2.length s.2.2.1],
   blk b6 27 [.int .i64 0,.int .i64 0,.int .i64 0,.slice none 0 0],.seg b o (arcs l)])
  (fun s=>s.1≤l.length∧s.1≤24∧s.2.2.2.length=s.1∧∀ a∈s.2.2.2,(1≤a.fr∧a.fr≤nn)∧(1≤a.to∧a.to≤nn)∧0≤a.cap∧a.cap≤1000000) (fun s=>l.length-s.1)
  (0,none,0,[]) [0,1,2,3] ⟨rfl,rfl,rfl,rfl,trivial⟩ (by decide) rfl ⟨Nat.zero_le _,Nat.zero_le _,rfl,fun a ha=>by cases ha⟩ ?_
 rintro⟨k,A1,c1,r⟩ ⟨hk,hk24,hrk,hr⟩
 simp only at hk hk24 hrk hr ⊢
 refine ad ?_
 refine dM [(41,.bool (dv (k<l.length∧k<24))),(8,.int .i64 k),(7,.pointer (some ⟨b7,0,none⟩)),(2,.slice A l.length c),(6,.pointer (some ⟨b6,0,none⟩))]
  [.own (.slice A1 r.length c1) 70 3 r.length (arcs r),blk b7 27 [.int .i64 nn,.int .i64 src,.int .i64 snk,.slice A1 r.length c1],blk b6 27 [.int .i64 0,.int .i64 0,.int .i64 0,.slice none 0 0],.seg b o (arcs l)] ?_ ?_
 ·skip
  refine aa (ah [] rfl ?_)
  by_cases h1:k<l.length
  ·refine av 38 (v':=.bool true) rfl (congrArg Value.bool (aA (by omega))) ?_
   refine ae [4] rfl ?_
   refine⟨[0,1,2,3],⟨?_,rfl,rfl,rfl,rfl,trivial⟩,by decide,rfl⟩
   exact congrArg some (congrArg Value.bool (eI (by omega)))
  ·refine av 38 (v':=.bool false) rfl (congrArg Value.bool (aB (by omega))) ?_
   refine ae [4] rfl ?_
   refine⟨[0,1,2,3],⟨?_,rfl,rfl,rfl,rfl,trivial⟩,by decide,rfl⟩
   exact congrArg some (congrArg Value.bool (aB (by omega)).symm)
 refine aD rfl (fun hlt=>aq ?_) (fun hge=>a6 ?_)
 ·obtain⟨hlt,hlt24⟩:=hlt
  obtain rfl:=hA (by rintro rfl;simp at hlt)
  obtain⟨⟨fr,tz,cap⟩,hx⟩:∃ x,l[k]?=some x:=⟨l[k],List.getElem?_eq_getElem hlt⟩
  have hB:=hl _ (List.mem_of_getElem? hx)
  simp only at hB
  obtain⟨hx0,hx1,hx2⟩:=fV hx
  refine ad (ax ?_)
  refine ad (aa (ah [] rfl ?_))
  refine ab [] (kQ rfl rfl rfl rfl rfl hlt) rfl ?_
  refine ah [] rfl ?_
  refine ab [] (bw 3 rfl rfl rfl rfl hx2) rfl ?_
  refine ap [] (ev hB.2.2 (by decide)) rfl rfl rfl rfl (by kernel_rfl) trivial (fun _=>rfl) ?_
  rintro v H' ⟨rfl,rfl⟩
  refine⟨rfl,?_⟩
  refine ae [] rfl ?_
  have c1':=f9 (c:=cap) (n:=21) (by decide)
  have c2':=f9 (c:=cap) (n:=1000000) (by decide)
  have htd:=mA cap (m:=21) (by decide)
  have hq3:cL (cap.tdiv 21):=by have:=hB.2.2;unfold cL at*;omega
  obtain⟨cp,hcp⟩:∃ x,x=if ee (cap.tdiv 21) 9=0 then ee cap 1000000 else ee cap 21:=⟨_,rfl⟩
  refine dM [(9,.int .i64 cp),(8,.int .i64 k),(7,.pointer (some ⟨b7,0,none⟩)),(2,.slice (some ⟨b,o,none⟩) l.length c),(6,.pointer (some ⟨b6,0,none⟩))]
   [.own (.slice A1 r.length c1) 70 3 r.length (arcs r),blk b7 27 [.int .i64 nn,.int .i64 src,.int .i64 snk,.slice A1 r.length c1],blk b6 27 [.int .i64 0,.int .i64 0,.int .i64 0,.slice none 0 0],.seg b o (arcs l)] ?_ ?_
  ·refine ad (aa (ah [] rfl ?_))
   refine ab [] (kQ rfl rfl rfl rfl rfl hlt) rfl ?_
   refine ah [] rfl ?_
   refine ab [] (bw 3 rfl rfl rfl rfl hx2) rfl ?_
   refine ah [] rfl ?_
   refine av 55 (v':=.int .i64 (cap.tdiv 21)) rfl (congrArg (Value.int .i64) (cj hq3)) ?_
   refine ap [] (ev hq3 (by decide)) rfl rfl rfl rfl (by kernel_rfl) trivial (fun _=>rfl) ?_
   rintro v H' ⟨rfl,rfl⟩
   refine⟨rfl,?_⟩
   refine ae [] rfl ?_
   refine aD rfl (fun h=>?_) (fun h=>aq ?_)
   ·refine aa (ah [] rfl ?_)
    refine ab [] (kQ rfl rfl rfl rfl rfl hlt) rfl ?_
    refine ah [] rfl ?_
    refine ab [] (bw 3 rfl rfl rfl rfl hx2) rfl ?_
    refine ap [] (ev hB.2.2 (by decide)) rfl rfl rfl rfl (by kernel_rfl) trivial (fun _=>rfl) ?_
    rintro v H' ⟨rfl,rfl⟩
    refine⟨rfl,?_⟩
    refine ae [] rfl ?_
    exact⟨[0,1,2,3],⟨by rw[hcp,if_pos h];rfl,rfl,rfl,rfl,rfl,trivial⟩,by decide,rfl⟩
   ·exact⟨[0,1,2,3],⟨by rw[hcp,if_neg h];rfl,rfl,rfl,rfl,rfl,trivial⟩,by decide,rfl⟩
  have hcp0:0≤cp∧cp≤1000000:=by split at hcp<;>omega
  have f1:=f9 (c:=fr) (n:=nn) (by omega)
  have f2:=f9 (c:=tz) (n:=nn) (by omega)
  refine bz 25 [(0,true),(1,true),(2,true),(3,true),(4,true),(5,true),(6,true),(7,true),(8,true),(11,true),(12,true),(13,true),(14,true),(15,true),(16,true),(17,true),(20,true),(9,false),(10,true),(18,false),(19,true),(21,true),(22,false),(23,false),(24,true)] [1,3] (by kernel_rfl) (by decide) rfl ?_
  refine aH [] rfl ?_
  refine aj [] rfl (af 0 rfl rfl rfl rfl) rfl ?_
  refine aH [] rfl ?_
  refine aj [] rfl (kQ rfl rfl rfl rfl rfl hlt) rfl ?_
  refine aH [] rfl ?_
  refine aj [] rfl (bw 1 rfl rfl rfl rfl hx0) rfl ?_
  refine aH [] rfl ?_
  refine aj [] rfl (af 0 rfl rfl rfl rfl) rfl ?_
  refine aH [] rfl ?_
  refine aj [] rfl (kQ rfl rfl rfl rfl rfl hlt) rfl ?_
  refine aH [] rfl ?_
  refine aj [] rfl (bw 1 rfl rfl rfl rfl hx1) rfl ?_
  refine aH [] rfl ?_
  refine aj [] rfl (af 0 rfl rfl rfl rfl) rfl ?_
  refine aH [] rfl ?_
  refine a7 rfl ?_
  refine ap [] (ev hB.1 (by omega:0<nn)) rfl rfl rfl rfl (by kernel_rfl) trivial (fun _=>rfl) ?_
  rintro v H' ⟨rfl,rfl⟩
  refine⟨rfl,ai ⟨⟨[1,3],by decide,rfl⟩,?_⟩⟩
  refine aH [] rfl ?_
  refine cZ 74 (v':=.int .i64 (1+ee fr nn)) rfl (congrArg (Value.int .i64) (cj (by omega))) ?_
  refine a7 rfl ?_
  refine ap [] (ev hB.2.1 (by omega:0<nn)) rfl rfl rfl rfl (by kernel_rfl) trivial (fun _=>rfl) ?_
  rintro v H' ⟨rfl,rfl⟩
  refine⟨rfl,ai ⟨⟨[1,3],by decide,rfl⟩,?_⟩⟩
  refine aH [] rfl ?_
  refine cZ 83 (v':=.int .i64 (1+ee tz nn)) rfl (congrArg (Value.int .i64) (cj (by omega))) ?_
  refine aj [] rfl (be rfl rfl rfl rfl rfl rfl) rfl ?_
  refine a7 rfl ?_
  refine bS rfl rfl rfl rfl rfl rfl rfl (fun _=>rfl) fun g=>?_
  refine ai ⟨⟨[2,4],by decide,rfl⟩,?_⟩
  refine a7 rfl ?_
  refine bu (off:=0) (m:=1) (news:=arcs [⟨1+ee fr nn,1+ee tz nn,cp⟩]) 1 0 rfl rfl rfl rfl rfl rfl (by decide) rfl rfl (aF g _ _ (0,0)) (fun _=>rfl) rfl rfl (by omega) (by omega) (fun _ _=>rfl) fun A2 c2=>?_
  refine ai ⟨⟨[2,4],by decide,rfl⟩,?_⟩
  refine aH [] rfl ?_
  refine bC ?_
  refine aE 2 rfl rfl rfl rfl rfl [] rfl ?_
  refine ai ?_
  refine aa (ae [] rfl ?_)
  refine⟨(k+1,A2,c2,r++[⟨1+ee fr nn,1+ee tz nn,cp⟩]),[1,2,3,4],⟨?_,rfl,rfl,rfl,trivial⟩,by decide,?_,⟨by simp only;omega,by simp only;omega,by simp only[List.length_append];simp;omega,?_⟩,by simp only;omega⟩
  ·show some (Value.int .i64 (IntKind.i64.wrap ((k:Int)+1)))=_
   rw[cj (by omega)];rfl
  ·simp only[qb,List.length_append];rfl
  ·intro a ha
   rcases List.mem_append.1 ha with ha|ha
   ·exact hr a ha
   ·obtain rfl:=List.mem_singleton.1 ha
    simp only;omega
 ·refine ad (aa ?_)
  refine ab [] (af 1 rfl rfl rfl rfl) rfl ?_
  refine aE 2 rfl rfl rfl rfl rfl [] rfl ?_
  refine ai ?_
  refine ay ?_
  refine⟨[bn ⟨nn,src,snk,r⟩ A1 c1],[0],_,⟨⟨b6,2,_,_,rfl,rfl,rfl⟩,trivial⟩,by decide,rfl,⟨nn,src,snk,r⟩,A1,c1,⟨by simp only;omega,by simp only;omega,by simp only;omega,hdiff,by simp only;omega,fun a ha=>⟨(hr a ha).1,(hr a ha).2.1,(hr a ha).2.2.1⟩,?_⟩,by simp only;omega,by simp only;omega,fun a ha=>(hr a ha).2.2.2,rfl,rfl⟩
  have hsum:∀ (l:List dG),(∀ a∈l,a.cap≤1000000)→(l.map (·.cap)).sum≤1000000*l.length:=by
   intro l
   induction l with
   |nil=>intro _;simp
   |cons x l ih=>
    intro h
    have h1:=ih fun a ha=>h a (by simp[ha])
    have h2:=h x (by simp)
    simp only[List.map_cons,List.sum_cons,List.length_cons]
    omega
  have:=hsum r fun a ha=>(hr a ha).2.2.2
  simp only
  omega
end Go.Proofs.YtpbmihpjgjbndaaGreatDoor
/- The other way to write a number. -/
set_option linter.unusedVariables false
set_option linter.unusedSimpArgs false
namespace Go.Proofs.YtpbmihpjgjbndaaGreatDoor
open Go.RowKit
open Lib
end Go.Proofs.YtpbmihpjgjbndaaGreatDoor
/- The references' words: what is wrong with a network. -/
set_option linter.unusedVariables false
set_option linter.unusedSimpArgs false
namespace Go.Proofs.YtpbmihpjgjbndaaGreatDoor
open Go.RowKit
end Go.Proofs.YtpbmihpjgjbndaaGreatDoor
/- The other way to write a network. -/
set_option linter.unusedVariables false
set_option linter.unusedSimpArgs false
namespace Go.Proofs.YtpbmihpjgjbndaaGreatDoor
open Go.RowKit
open Lib
theorem vT (N:bc) (hF:N.Fits) (l:List dG) (h:∀ a∈l,a∈N.arcs):((l.map lz).flatten).length≤l.length*70:=by
 induction l with
 |nil=>simp
 |cons a l ih=>
  have h1:=hF.arc a (h a (by simp))
  have h2:=ih fun x hx=>h x (by simp[hx])
  have h3:=eE [97] [a.fr,a.to,a.cap] (fun n hn=>by simp at hn;rcases hn with rfl|rfl|rfl;exact h1.1;exact h1.2.1;exact h1.2.2)
  simp only[List.map_cons,List.flatten_cons,List.length_append,List.length_cons,lz,List.length_nil] at*
  omega
theorem vZ (N:bc) (hF:N.Fits):(f8 N).length≤400:=by
 have hl:cL (N.arcs.length:Int):=by have:=hF.len;unfold cL;omega
 have h1:=eE [112,32,109,97,120] [N.nodes,N.arcs.length] (fun n hn=>by simp at hn;rcases hn with rfl|rfl;exact hF.nodes;exact hl)
 have hws:=eE [110] [N.src] (fun n hn=>by simp at hn;subst hn;exact hF.src)
 have hwt:=eE [110] [N.snk] (fun n hn=>by simp at hn;subst hn;exact hF.snk)
 unfold f8
 simp only[List.length_append,List.length_cons,List.length_nil] at*
 omega
end Go.Proofs.YtpbmihpjgjbndaaGreatDoor
