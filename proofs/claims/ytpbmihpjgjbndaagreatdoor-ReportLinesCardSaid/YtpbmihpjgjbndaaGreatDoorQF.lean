/- The engine and the words that all chapters share: several texts in one. -/
import Derived.Test.YtpbmihpjgjbndaaGreatDoorQC
import Derived.Test.YtpbmihpjgjbndaaGreatDoorQB
/- Cuts. -/
set_option linter.unusedVariables false
set_option linter.unusedSimpArgs false
namespace Go.Proofs.YtpbmihpjgjbndaaGreatDoor
open Go.RowKit
def bR (l:List Bool) (is:Bool) (k:Nat):List Int:=((List.range k).filter fun (v:Nat)=>decide (0<v∧l[v]?=some is)).map fun (v:Nat)=>(v:Int)
theorem lL (l:List Bool) (is:Bool) (k:Nat):bR l is (k+1)=bR l is k++(if 0<k∧l[k]?=some is then [(k:Int)] else []):=by
 unfold bR
 rw[List.range_succ,List.filter_append,List.map_append]
 congr 1
 by_cases h:0<k∧l[k]?=some is<;>simp[h]
theorem gK (l:List Bool) (is:Bool) (k:Nat):(bR l is k).length≤k:=by
 unfold bR
 rw[List.length_map]
 exact Nat.le_trans (List.length_filter_le _ _) (by simp)
theorem mr {l:List Bool} {is:Bool} {k:Nat} {x:Int}:x∈bR l is k↔∃ v:Nat,v<k∧0<v∧l[v]?=some is∧x=v:=by
 unfold bR
 simp only[List.mem_map,List.mem_filter,List.mem_range,decide_eq_true_eq]
 constructor
 ·rintro⟨v,⟨h1,h2,h3⟩,rfl⟩;exact⟨v,h1,h2,h3,rfl⟩
 ·rintro⟨v,h1,h2,h3,rfl⟩;exact⟨v,⟨h1,h2,h3⟩,rfl⟩
theorem wB (A:Option Addr) (c b o:Nat) (l:List Bool) (hA:l≠[]→A=some ⟨b,o,none⟩) (hl:l.length≤100000) (is:Bool):
 Fn 49 [.slice A l.length c,.bool is] [] [.seg b o (dP l)] fun v H'=>∃ A' c',v=.slice A' (bR l is l.length).length c'∧H'=[.own v 3 1 (bR l is l.length).length (ap (bR l is l.length))]:=by
 refine aS Tryz.func49 rfl rfl fun w0=>?_
 refine ad (aa (ae [] rfl ?_))
 refine ad (aa (ae [] rfl ?_))
 refine ad (ad (aa (ae [] rfl ?_)))
 refine au ?_
 refine cC 3 1 ?_
 refine bq (σ:=Nat×Option Addr×Nat) (fun s=>[(10,.int .i64 s.1),(9,.int .i64 l.length),(8,.slice A l.length c),(5,.slice s.2.1 (bR l is s.1).length s.2.2),(1,.bool is)])
  (fun s=>[.own (.slice s.2.1 (bR l is s.1).length s.2.2) 3 1 (bR l is s.1).length (ap (bR l is s.1)),.seg b o (dP l)]) (fun s=>s.1≤l.length) (fun s=>l.length-s.1)
  (0,none,0) [0,1] ⟨rfl,rfl,rfl,rfl,rfl,trivial⟩ (by decide) rfl (Nat.zero_le _) ?_
 rintro⟨k,A1,c1⟩ hk
 simp only at hk ⊢
 have hwl:=gK l is k
 refine ad (aa (ae [] rfl ?_))
 refine ad (aC rfl (fun hlt=>av ?_) (fun hge=>aV ?_))
 ·have hlt:k<l.length:=by omega
  obtain rfl:=hA (by rintro rfl;simp at hlt)
  obtain⟨m,hm⟩:∃ m,l[k]?=some m:=⟨l[k],List.getElem?_eq_getElem hlt⟩
  have hws:=lL l is k
  refine ad (au ?_)
  refine ad (aa (ah [] rfl ?_))
  refine ab [] (f9 rfl rfl rfl rfl rfl hlt) rfl ?_
  refine ab [] (bz 1 rfl rfl rfl rfl (show (dP l)[k]?=some (.bool m) from jn hm)) rfl ?_
  refine ae [] rfl ?_
  by_cases hgo:0<k∧m=is
  ·rw[if_pos ⟨hgo.1,by rw[hm,hgo.2]⟩] at hws
   refine ad (aa (ah [] rfl ?_))
   refine aw 17 (v':=.bool true) rfl (congrArg Value.bool (az (by omega))) ?_
   refine ah [2] rfl ?_
   refine aw 21 (v':=.bool true) rfl (congrArg Value.bool (by rw[hgo.2];simp)) ?_
   refine ai ?_
   refine bo rfl ?_
   refine aa (ah [] rfl ?_)
   refine bK rfl rfl rfl rfl rfl rfl rfl (fun _=>rfl) fun g2=>?_
   refine be (n:=(bR l is k).length) (m:=1) (off:=0) (news:=ap [(k:Int)]) 1 0 rfl rfl rfl rfl rfl rfl (by decide) rfl rfl (aL g2 _ _ (0,0)) (fun _=>rfl) rfl rfl (by omega) (by omega) (fun _ _=>rfl) fun A2 c2=>?_
   rw[show (bR l is k).length+1=(bR l is (k+1)).length by rw[hws];simp,show ap (bR l is k)++ap [(k:Int)]=ap (bR l is (k+1)) by rw[hws];simp[ap]]
   refine ae [] rfl ?_
   refine aa (ae [] rfl ?_)
   refine⟨(k+1,A2,c2),[1,2],⟨?_,rfl,rfl,rfl,rfl,trivial⟩,by decide,rfl,by simp only;omega,by simp only;omega⟩
   show some (Value.int .i64 (IntKind.i64.wrap ((k:Int)+1)))=_
   rw[bU (by omega)];rfl
  ·rw[if_neg (fun h=>hgo ⟨h.1,by rw[hm] at h;simpa using h.2⟩),List.append_nil] at hws
   refine d7 [(21,.bool false),(10,.int .i64 k),(9,.int .i64 l.length),(8,.slice (some ⟨b,o,none⟩) l.length c),(5,.slice A1 (bR l is k).length c1),(1,.bool is)]
    [.own (.slice A1 (bR l is k).length c1) 3 1 (bR l is k).length (ap (bR l is k)),.seg b o (dP l)] ?_ ?_
   ·skip
    refine aa (ah [] rfl ?_)
    by_cases h0:0<k
    ·refine aw 17 (v':=.bool true) rfl (congrArg Value.bool (az (by omega))) ?_
     refine ah [2] rfl ?_
     refine aw 21 (v':=.bool false) rfl (congrArg Value.bool (by have:m≠is:=fun e=>hgo ⟨h0,e⟩;simpa using this)) ?_
     refine ai ?_
     exact⟨[0,1],⟨rfl,rfl,rfl,rfl,rfl,rfl,trivial⟩,by decide,rfl⟩
    ·refine aw 17 (v':=.bool false) rfl (congrArg Value.bool (aA (by omega))) ?_
     refine ae [2] rfl ?_
     exact⟨[0,1],⟨rfl,rfl,rfl,rfl,rfl,rfl,trivial⟩,by decide,rfl⟩
   ·refine bI rfl (av ?_)
    refine aa (ae [] rfl ?_)
    refine⟨(k+1,A1,c1),[0,1],⟨?_,rfl,rfl,by simp only[hws];rfl,rfl,trivial⟩,by decide,by simp only[hws];rfl,by simp only;omega,by simp only;omega⟩
    show some (Value.int .i64 (IntKind.i64.wrap ((k:Int)+1)))=_
    rw[bU (by omega)];rfl
 ·have hk':k=l.length:=by omega
  subst hk'
  refine ad (aa (ae [] rfl ?_))
  refine aE [0] (by decide) rfl (aB ⟨_,rfl,A1,c1,rfl,rfl⟩)
def yH (N:a8) (f:List Int) (n:Nat) (v:Value) (H':Heap):Prop:=
 (aH N f∧¬ nv N (aM (N.arcs.zip f)) 1 N.snk∧∃ (l:List Bool) (A':Option Addr) (c':Nat),l.length=n+1∧(∀ v:Nat,l[v]?=some true↔v≤n∧nv N (aM (N.arcs.zip f)) 1 v)∧v=.tuple #[.slice A' (bR l true (n+1)).length c',.int .i64 0]∧
  H'=[.own (.slice A' (bR l true (n+1)).length c') 3 1 (bR l true (n+1)).length (ap (bR l true (n+1)))])∨
 (¬ aH N f∧v=.tuple #[.slice none 0 0,.int .i64 (eO N f)]∧H'=[])∨(aH N f∧nv N (aM (N.arcs.zip f)) 1 N.snk∧v=.tuple #[.slice none 0 0,.int .i64 8]∧H'=[])
theorem vU (N:a8) (hN:N.Fits) (hR:N.Right) (A:Option Addr) (c b o:Nat) (hA:N.arcs≠[]→A=some ⟨b,o,none⟩) (f:List Int) (F:Option Addr) (cf bf of:Nat) (hF:f≠[]→F=some ⟨bf,of,none⟩) (hf:∀ x∈f,bN x) (hfl:f.length*8≤140737488351232)
 (n:Nat) (hn:N.nodes=n):Fn 13 [bu N A c,.slice F f.length cf] [] [.seg b o (arcs N.arcs),.seg bf of (ap f)] (yH N f n):=by
 have hnn:=hR.nodes
 have hsk:=hR.snk
 obtain⟨s,hs⟩:∃ s:Nat,N.snk=s:=⟨N.snk.toNat,by omega⟩
 refine aS Tryz.func13 rfl rfl fun w0=>?_
 refine ad (aa ?_)
 refine bw (cs:=bG N A c) rfl rfl rfl (fun _=>rfl) fun p=>?_
 refine ae [] rfl ?_
 refine ad (aa ?_)
 refine ab [] (v:=bu N A c) (af 0 rfl rfl rfl rfl) rfl ?_
 refine ah [] rfl ?_
 refine ax [] (v6 N hN hR A c b o hA f F cf bf of hF hf hfl 1 (by decide) n hn) rfl rfl rfl rfl (by kernel_rfl) ⟨⟨1,_,by simp,rfl,aq _ _ _,ay⟩,⟨2,_,by simp,rfl,aq _ _ _,ay⟩,trivial⟩ (fun _=>rfl) ?_
 rintro v H' (⟨hW,_,l,g,hl,hlr,rfl,rfl⟩|⟨hW,rfl,rfl⟩|⟨_,h1,_,_⟩)
 ·refine⟨rfl,?_⟩
  refine ae [] rfl ?_
  refine ad (au (ad (aa (ae [] rfl ?_))))
  refine aC rfl (fun h=>absurd rfl h) (fun _=>?_)
  obtain⟨bt,hbt⟩:∃ bt,l[s]?=some bt:=⟨l[s]'(by omega),List.getElem?_eq_getElem (by omega)⟩
  have hls:=hlr s
  refine ad (aa (ah [] rfl ?_))
  refine ab [] (af 1 rfl rfl rfl rfl) rfl ?_
  refine aw 21 (v':=.int .i64 (s:Int)) rfl (congrArg (Value.int .i64) hs) ?_
  refine ab [] (aJ rfl rfl rfl rfl rfl (by omega)) rfl ?_
  refine ab [] (aD 0 rfl rfl rfl (show (dP l)[s]?=some (.bool bt) from jn hbt)) rfl ?_
  refine ae [] rfl ?_
  cases bt with
  |true=>
   refine bo rfl ?_
   refine ad (aa (ae [] rfl ?_))
   refine aE [] (by decide) rfl (aB ⟨_,rfl,.inr (.inr ⟨hW,by rw[hs];exact (hls.1 hbt).2,rfl,rfl⟩)⟩)
  |false=>
   refine bI rfl (av ?_)
   have hno:¬ nv N (aM (N.arcs.zip f)) 1 N.snk:=fun hr=>by
    have:=hls.2 ⟨by omega,hs▸hr⟩
    rw[hbt] at this;simp at this
   refine ad (aa (ah [] rfl ?_))
   have T:=wB (some ⟨g,0,none⟩) (n+1) g 0 l (fun _=>rfl) (by omega) true
   rw[hl] at T
   refine ax [] T rfl rfl rfl rfl (by kernel_rfl) ⟨⟨0,_,by simp,rfl,bX,.inr rfl⟩,trivial⟩ (fun _=>rfl) ?_
   rintro v H' ⟨A',c',rfl,rfl⟩
   refine⟨rfl,?_⟩
   refine ae [] rfl ?_
   refine aE [0] (by decide) rfl (aB ⟨_,rfl,.inl ⟨hW,hno,l,A',c',hl,hlr,rfl,rfl⟩⟩)
 ·refine⟨rfl,?_⟩
  refine ae [] rfl ?_
  refine ad (au (ad (aa (ae [] rfl ?_))))
  refine aC rfl (fun h=>?_) (fun h=>absurd (cK.1 (Classical.not_not.1 h)) hW)
  refine ad (aa (ae [] rfl ?_))
  refine aE [] (by decide) rfl (aB ⟨_,rfl,.inr (.inl ⟨hW,rfl,rfl⟩)⟩)
 ·exact absurd h1 (by decide)
end Go.Proofs.YtpbmihpjgjbndaaGreatDoor
/- Chapter 14's networks of raw numbers. -/
set_option linter.unusedVariables false
set_option linter.unusedSimpArgs false
namespace Go.Proofs.YtpbmihpjgjbndaaGreatDoor
open Go.RowKit
end Go.Proofs.YtpbmihpjgjbndaaGreatDoor
/- Chapter 14's words: rows that hold a number, that are the same, and the example. -/
set_option linter.unusedVariables false
set_option linter.unusedSimpArgs false
namespace Go.Proofs.YtpbmihpjgjbndaaGreatDoor
open Go.RowKit
end Go.Proofs.YtpbmihpjgjbndaaGreatDoor
/- Chapter 14's cuts of raw numbers. -/
set_option linter.unusedVariables false
set_option linter.unusedSimpArgs false
namespace Go.Proofs.YtpbmihpjgjbndaaGreatDoor
open Go.RowKit
structure eq (N:a8) (s:List Int):Prop where
 rise:s.Pairwise (·<·)
 rng:∀ x∈s,1≤x∧x≤N.nodes
 src:N.src∈s
 snk:N.snk∉s
theorem qx {s:List Int} {v:Int} (h:s.Pairwise (·<·)) (hl:∀ x∈s,x<v):(s++[v]).Pairwise (·<·):=by
 rw[List.pairwise_append]
 exact⟨h,List.pairwise_singleton _ _,fun a ha b hb=>by rw[List.mem_singleton.1 hb];exact hl a ha⟩
end Go.Proofs.YtpbmihpjgjbndaaGreatDoor
/- The arcs that cross a cut, and what they let through. -/
set_option linter.unusedVariables false
set_option linter.unusedSimpArgs false
namespace Go.Proofs.YtpbmihpjgjbndaaGreatDoor
open Go.RowKit
def cQ (N:a8) (s:List Int) (k:Nat):List Int:=((List.range k).filter fun (i:Nat)=>match N.arcs[i]? with
 |some a=>decide (a.fr∈s∧a.to∉s)
 |none=>false).map fun (i:Nat)=>(i:Int)
theorem lR {N:a8} {s:List Int} {k:Nat} {a:dK} (h:N.arcs[k]?=some a):cQ N s (k+1)=cQ N s k++(if a.fr∈s∧a.to∉s then [(k:Int)] else []):=by
 unfold cQ
 rw[List.range_succ,List.filter_append,List.map_append]
 congr 1
 by_cases h2:a.fr∈s∧a.to∉s<;>simp[h,h2]
theorem jG (N:a8) (s:List Int) (k:Nat):(cQ N s k).length≤k:=by
 unfold cQ
 rw[List.length_map]
 exact Nat.le_trans (List.length_filter_le _ _) (by simp)
def lQ (s:List Int):List (Int×Value):=s.map fun v=>(v,.bool true)
theorem c9 (s:List Int) (n:Int):(iG (lQ s) n).getD (.bool false)=.bool (dI (n∈s)):=by
 induction s with
 |nil=>rw[aA (by simp)];rfl
 |cons v s ih=>
  show (iG ((v,.bool true)::lQ s) n).getD _=_
  unfold iG
  by_cases h:v=n
  ·rw[if_pos h,az (by simp[h])];rfl
  ·rw[if_neg h,ih]
   have:(n∈v::s)↔n∈s:=by simp[Ne.symm h]
   rw[d8 this]
theorem rf (N:a8) (hN:N.Fits) (hR:N.Right) (A:Option Addr) (c b o:Nat) (hA:N.arcs≠[]→A=some ⟨b,o,none⟩) (s:List Int) (hs:eq N s) (hsl:s.length≤100000) (S:Option Addr) (cs bs os:Nat) (hS:s≠[]→S=some ⟨bs,os,none⟩):
 Fn 85 [bu N A c,.slice S s.length cs] [] [.seg b o (arcs N.arcs),.seg bs os (ap s)] fun v H'=>∃ A' c',v=.tuple #[.slice A' (cQ N s N.arcs.length).length c',.int .i64 0]∧
  H'=[.own (.slice A' (cQ N s N.arcs.length).length c') 3 1 (cQ N s N.arcs.length).length (ap (cQ N s N.arcs.length))]:=by
 have hl2:=hR.len
 have hnn:=hR.nodes
 refine aS Tryz.func85 rfl rfl fun w0=>?_
 refine ad (aa ?_)
 refine bw (cs:=bG N A c) rfl rfl rfl (fun _=>rfl) fun p=>?_
 refine ae [] rfl ?_
 refine ad (ad (aa ?_))
 refine ab [] (v:=bu N A c) (af 0 rfl rfl rfl rfl) rfl ?_
 refine ax [] (kv N hN A c b o hA) rfl rfl rfl rfl (by kernel_rfl) ⟨⟨1,_,by simp,rfl,aq _ _ _,ay⟩,trivial⟩ (fun _=>rfl) ?_
 rintro v H' ⟨rfl,rfl⟩
 refine⟨rfl,?_⟩
 rw[hR.check]
 refine ae [] rfl ?_
 refine ad (aa (ae [] rfl ?_))
 refine aC rfl (fun h=>absurd rfl h) (fun _=>av ?_)
 refine ad (aa ?_)
 refine mT rfl (fun _=>rfl) fun bm=>?_
 refine ae [] rfl ?_
 refine ad (aa (ae [] rfl ?_))
 refine ad (ad (aa (ae [] rfl ?_)))
 refine au ?_
 refine bq (σ:=Nat) (fun k=>[(22,.int .i64 k),(21,.int .i64 s.length),(20,.slice S s.length cs),(8,.int .i64 ((s.take k).getLast?.getD 0)),(7,.map (some bm)),(2,.pointer (some ⟨p,0,none⟩))])
  (fun k=>[.obj bm (fP (lQ (s.take k))),blk p 27 (bG N A c),.seg b o (arcs N.arcs),.seg bs os (ap s)]) (fun k=>k≤s.length) (fun k=>s.length-k)
  0 [0,1,2,3] ⟨rfl,rfl,rfl,rfl,rfl,rfl,trivial⟩ (by decide) rfl (Nat.zero_le _) ?_
 intro k hk
 refine ad (aa (ae [] rfl ?_))
 refine ad (aC rfl (fun hlt=>av ?_) (fun hge=>aV ?_))
 ·have hlt:k<s.length:=by omega
  obtain rfl:=hS (by rintro rfl;simp at hlt)
  obtain⟨x,hx⟩:∃ x,s[k]?=some x:=⟨s[k],List.getElem?_eq_getElem hlt⟩
  have hxr:=hs.rng x (List.mem_of_getElem? hx)
  have hless:∀ y∈s.take k,y<x:=by
   intro y hy
   obtain⟨j,hj,hjy⟩:=List.mem_iff_getElem.1 hy
   have hj':j<k:=by simp at hj;omega
   have h1:=List.pairwise_iff_getElem.1 hs.rise j k (by omega) hlt hj'
   rw[List.getElem_take] at hjy
   obtain⟨_,h2⟩:=List.getElem?_eq_some_iff.1 hx
   rw[← hjy,← h2];exact h1
  have hlast:(s.take k).getLast?.getD 0<x:=by
   cases h:(s.take k).getLast? with
   |none=>show (0:Int)<x;omega
   |some y=>exact hless y (List.mem_of_getLast? h)
  have htk:s.take (k+1)=s.take k++[x]:=by rw[List.take_add_one,hx];rfl
  refine ad (au ?_)
  refine ad (aa (ah [] rfl ?_))
  refine ab [] (f9 rfl rfl rfl rfl rfl hlt) rfl ?_
  refine ab [] (bz 3 rfl rfl rfl rfl (df hx)) rfl ?_
  refine ae [] rfl ?_
  refine ad (ad (aa (ah [] rfl ?_)))
  refine aw 29 (v':=.bool false) rfl (congrArg Value.bool (aA (by omega))) ?_
  refine ah [3] rfl ?_
  refine ab [3] (af 1 rfl rfl rfl rfl) rfl ?_
  refine ae [3] rfl ?_
  refine aC rfl (fun h=>absurd h (by omega)) (fun _=>av ?_)
  refine aa (ah [] rfl ?_)
  refine mK 0 Tryz.underlying191 Tryz.underlying3 rfl rfl rfl rfl rfl (fun q hq=>?_) [] rfl ?_
  ·obtain⟨y,hy,rfl⟩:=List.mem_map.1 hq
   have:=hless y hy
   show y≠x
   omega
  refine ae [] rfl ?_
  refine aa (ae [] rfl ?_)
  refine⟨k+1,[0,1,2,3],⟨?_,rfl,rfl,?_,rfl,rfl,trivial⟩,by decide,?_,by omega,by omega⟩
  ·show some (Value.int .i64 (IntKind.i64.wrap ((k:Int)+1)))=_
   rw[bU (by omega)];rfl
  ·rw[htk,List.getLast?_append];rfl
  ·rw[htk];unfold lQ;rw[List.map_append];rfl
 ·have hk':k=s.length:=by omega
  subst hk'
  rw[List.take_length]
  refine ad (ad (aa (ah [] rfl ?_)))
  refine ab [] (af 1 rfl rfl rfl rfl) rfl ?_
  refine ab [] (dV 0 Tryz.underlying191 Tryz.underlying3 rfl rfl rfl rfl rfl) rfl ?_
  refine aw 42 (v':=.bool true) rfl (by rw[c9,az hs.src]) ?_
  refine ah [] rfl ?_
  refine aw 44 (v':=.bool false) rfl rfl ?_
  refine ah [5] rfl ?_
  refine ab [5] (af 1 rfl rfl rfl rfl) rfl ?_
  refine ab [5] (dV 0 Tryz.underlying191 Tryz.underlying3 rfl rfl rfl rfl rfl) rfl ?_
  refine aw 48 (v':=.bool false) rfl (by rw[c9,aA hs.snk]) ?_
  refine ae [5] rfl ?_
  refine bI rfl (av ?_)
  refine ad (aa (ae [] rfl ?_))
  refine ad (ad (aa (ah [] rfl ?_)))
  refine ab [] (af 1 rfl rfl rfl rfl) rfl ?_
  refine ae [] rfl ?_
  refine au ?_
  refine cC 3 1 ?_
  refine bq (σ:=Nat×Option Addr×Nat) (fun t=>[(53,.int .i64 t.1),(52,.int .i64 N.arcs.length),(51,.slice A N.arcs.length c),(11,.slice t.2.1 (cQ N s t.1).length t.2.2),(7,.map (some bm)),(2,.pointer (some ⟨p,0,none⟩))])
   (fun t=>[.own (.slice t.2.1 (cQ N s t.1).length t.2.2) 3 1 (cQ N s t.1).length (ap (cQ N s t.1)),.obj bm (fP (lQ s)),blk p 27 (bG N A c),.seg b o (arcs N.arcs)]) (fun t=>t.1≤N.arcs.length) (fun t=>N.arcs.length-t.1)
   (0,none,0) [0,1,2,3] ⟨rfl,rfl,rfl,rfl,rfl,rfl,trivial⟩ (by decide) rfl (Nat.zero_le _) ?_
  rintro⟨k,A1,c1⟩ hk
  simp only at hk ⊢
  have hwl:=jG N s k
  refine ad (aa (ae [] rfl ?_))
  refine ad (aC rfl (fun hlt=>av ?_) (fun hge=>aV ?_))
  ·have hlt:k<N.arcs.length:=by omega
   obtain rfl:=hA (by intro h0;rw[h0] at hlt;simp at hlt)
   obtain⟨x,hx⟩:∃ x,N.arcs[k]?=some x:=⟨N.arcs[k],List.getElem?_eq_getElem hlt⟩
   have hws:=lR (s:=s) hx
   have hq:IntKind.i64.wrap ((k:Int)+1)=((k+1:Nat):Int):=bU (by omega)
   refine ad (au ?_)
   refine ad (aa (ah [] rfl ?_))
   refine ab [] (iR rfl rfl rfl rfl rfl hlt) rfl ?_
   refine ab [] (bz 3 rfl rfl rfl rfl (jm hx)) rfl ?_
   refine ci rfl rfl rfl (fun _=>rfl) fun q=>?_
   refine ah [] rfl ?_
   refine aX 0 rfl rfl rfl rfl rfl [] rfl ?_
   refine ai ?_
   by_cases hgo:x.fr∈s∧x.to∉s
   ·rw[if_pos hgo] at hws
    refine ad (aa (ah [] rfl ?_))
    refine ab [] (af 0 rfl rfl rfl rfl) rfl ?_
    refine ab [] (dV 2 Tryz.underlying191 Tryz.underlying3 rfl rfl rfl rfl rfl) rfl ?_
    refine ah [] rfl ?_
    refine aw 62 (v':=.bool true) rfl (by rw[c9,az hgo.1]) ?_
    refine ah [4] rfl ?_
    refine ab [4] (af 0 rfl rfl rfl rfl) rfl ?_
    refine ab [4] (dV 2 Tryz.underlying191 Tryz.underlying3 rfl rfl rfl rfl rfl) rfl ?_
    refine aw 66 (v':=.bool false) rfl (by rw[c9,aA hgo.2]) ?_
    refine ae [4] rfl ?_
    refine bo rfl ?_
    refine aa (ah [] rfl ?_)
    refine bK rfl rfl rfl rfl rfl rfl rfl (fun _=>rfl) fun g2=>?_
    refine be (n:=(cQ N s k).length) (m:=1) (off:=0) (news:=ap [(k:Int)]) 2 0 rfl rfl rfl rfl rfl rfl (by decide) rfl rfl (aL g2 _ _ (0,0)) (fun _=>rfl) rfl rfl (by omega) (by omega) (fun _ _=>rfl) fun A2 c2=>?_
    rw[show (cQ N s k).length+1=(cQ N s (k+1)).length by rw[hws];simp,show ap (cQ N s k)++ap [(k:Int)]=ap (cQ N s (k+1)) by rw[hws];simp[ap]]
    refine ae [] rfl ?_
    refine aa (ae [] rfl ?_)
    exact⟨(k+1,A2,c2),[2,3,4,5],⟨congrArg some (congrArg (Value.int .i64) hq),rfl,rfl,rfl,rfl,rfl,trivial⟩,by decide,rfl,by simp only;omega,by simp only;omega⟩
   ·rw[if_neg hgo,List.append_nil] at hws
    refine d7 [(68,.bool false),(53,.int .i64 k),(52,.int .i64 N.arcs.length),(51,.slice (some ⟨b,o,none⟩) N.arcs.length c),(11,.slice A1 (cQ N s k).length c1),(7,.map (some bm)),(2,.pointer (some ⟨p,0,none⟩))]
     [.own (.slice A1 (cQ N s k).length c1) 3 1 (cQ N s k).length (ap (cQ N s k)),.obj bm (fP (lQ s)),blk p 27 (bG N (some ⟨b,o,none⟩) c),.seg b o (arcs N.arcs)] ?_ ?_
    ·skip
     refine aa (ah [] rfl ?_)
     refine ab [] (af 0 rfl rfl rfl rfl) rfl ?_
     refine ab [] (dV 2 Tryz.underlying191 Tryz.underlying3 rfl rfl rfl rfl rfl) rfl ?_
     refine ah [] rfl ?_
     by_cases h1:x.fr∈s
     ·have h2:x.to∈s:=Classical.not_not.1 fun h=>hgo ⟨h1,h⟩
      refine aw 62 (v':=.bool true) rfl (by rw[c9,az h1]) ?_
      refine ah [4] rfl ?_
      refine ab [4] (af 0 rfl rfl rfl rfl) rfl ?_
      refine ab [4] (dV 2 Tryz.underlying191 Tryz.underlying3 rfl rfl rfl rfl rfl) rfl ?_
      refine aw 66 (v':=.bool true) rfl (by rw[c9,az h2]) ?_
      refine ae [4] rfl ?_
      exact⟨[1,2,3,4],⟨rfl,rfl,rfl,rfl,rfl,rfl,rfl,trivial⟩,by decide,rfl⟩
     ·refine aw 62 (v':=.bool false) rfl (by rw[c9,aA h1]) ?_
      refine ae [4] rfl ?_
      exact⟨[1,2,3,4],⟨rfl,rfl,rfl,rfl,rfl,rfl,rfl,trivial⟩,by decide,rfl⟩
    ·refine bI rfl (av ?_)
     refine aa (ae [] rfl ?_)
     exact⟨(k+1,A1,c1),[0,1,2,3],⟨congrArg some (congrArg (Value.int .i64) hq),rfl,rfl,by simp only[hws];rfl,rfl,rfl,trivial⟩,by decide,by simp only[hws];rfl,by simp only;omega,by simp only;omega⟩
  ·have hk':k=N.arcs.length:=by omega
   subst hk'
   refine ad (aa (ae [] rfl ?_))
   exact aE [0] (by decide) rfl (aB ⟨_,rfl,A1,c1,rfl,rfl⟩)
def fb (N:a8) (i:Int):Int:=match N.arcs[i.toNat]? with
 |some a=>a.cap
 |none=>0
open Classical in
noncomputable def ec (s:List Int) (l:List dK):Int:=(l.map fun a=>if a.fr∈s∧a.to∉s then a.cap else 0).sum
theorem nN (N:a8) (s:List Int):∀ k,k≤N.arcs.length→((cQ N s k).map (fb N)).sum=ec s (N.arcs.take k)
 |0,_=>by simp[cQ,ec]
 |k+1,h=>by
  obtain⟨a,ha⟩:∃ a,N.arcs[k]?=some a:=⟨N.arcs[k],List.getElem?_eq_getElem (by omega)⟩
  have ih:=nN N s k (by omega)
  rw[lR ha,List.take_add_one,ha,List.map_append,List.sum_append,ih]
  unfold ec
  rw[List.map_append,List.sum_append]
  congr 1
  by_cases h2:a.fr∈s∧a.to∉s
  ·simp only[if_pos h2,List.map_cons,List.map_nil,List.sum_cons,List.sum_nil,Option.toList_some]
   show fb N (k:Int)+0=a.cap+0
   unfold fb;rw[Int.toNat_natCast,ha]
  ·simp only[if_neg h2,List.map_cons,List.map_nil,List.sum_cons,List.sum_nil,Option.toList_some]
   rfl
theorem eZ:∀ (l:List Int),(∀ x∈l,0≤x)→0≤l.sum
 |[],_=>by simp
 |x::l,h=>by
  have:=eZ l fun y hy=>h y (by simp[hy])
  have:=h x (by simp)
  simp only[List.sum_cons];omega
theorem pA {N:a8} (hR:N.Right) (s:List Int):0≤ec s N.arcs∧ec s N.arcs≤4611686018427387903:=by
 have h1:∀ (l:List dK),(∀ a∈l,0≤a.cap)→0≤ec s l∧ec s l≤(l.map (·.cap)).sum:=by
  intro l
  induction l with
  |nil=>intro _;simp[ec]
  |cons a l ih=>
   intro h
   have h2:=ih fun x hx=>h x (by simp[hx])
   have h3:=h a (by simp)
   unfold ec at h2 ⊢
   simp only[List.map_cons,List.sum_cons]
   split<;>omega
 have:=h1 N.arcs fun a ha=>(hR.arc a ha).2.2
 have:=hR.sum
 omega
theorem pS (N:a8) (hN:N.Fits) (hR:N.Right) (A:Option Addr) (c b o:Nat) (hA:N.arcs≠[]→A=some ⟨b,o,none⟩) (s:List Int) (hs:eq N s) (hsl:s.length≤100000) (S:Option Addr) (cs bs os:Nat) (hS:s≠[]→S=some ⟨bs,os,none⟩):
 Fn 51 [bu N A c,.slice S s.length cs] [] [.seg b o (arcs N.arcs),.seg bs os (ap s)] fun v H'=>v=sJ (ec s N.arcs,0)∧H'=[]:=by
 have hl2:=hR.len
 obtain⟨l,hl⟩:∃ l,l=cQ N s N.arcs.length:=⟨_,rfl⟩
 have hll:=jG N s N.arcs.length
 have htot:(l.map (fb N)).sum=ec s N.arcs:=by rw[hl,nN N s _ (Nat.le_refl _),List.take_length]
 have hmem:∀ x∈l,∃ (i:Nat) (a:dK),x=i∧N.arcs[i]?=some a∧fb N x=a.cap∧0≤a.cap:=by
  intro x hx
  rw[hl] at hx
  unfold cQ at hx
  obtain⟨i,hi,rfl⟩:=List.mem_map.1 hx
  have hi2:=(List.mem_filter.1 hi).2
  cases ha:N.arcs[i]? with
  |none=>rw[ha] at hi2;simp at hi2
  |some a=>exact⟨i,a,rfl,ha,by unfold fb;rw[Int.toNat_natCast,ha],(hR.arc a (List.mem_of_getElem? ha)).2.2⟩
 have hpos:∀ x∈l.map (fb N),0≤x:=by
  intro x hx
  obtain⟨y,hy,rfl⟩:=List.mem_map.1 hx
  obtain⟨_,a,_,_,h3,h4⟩:=hmem y hy
  rw[h3];exact h4
 have hcz:=pA hR s
 have hpart:∀ k,0≤((l.take k).map (fb N)).sum∧((l.take k).map (fb N)).sum≤4611686018427387903:=by
  intro k
  have e:((l.take k).map (fb N)).sum+((l.drop k).map (fb N)).sum=ec s N.arcs:=by rw[← List.sum_append,← List.map_append,List.take_append_drop,htot]
  have h1:=eZ ((l.take k).map (fb N)) fun x hx=>hpos x (by rw[List.map_take] at hx;exact List.mem_of_mem_take hx)
  have h2:=eZ ((l.drop k).map (fb N)) fun x hx=>hpos x (by rw[List.map_drop] at hx;exact List.mem_of_mem_drop hx)
  omega
 refine aS Tryz.func51 rfl rfl fun w0=>?_
 refine ad (aa ?_)
 refine bw (cs:=bG N A c) rfl rfl rfl (fun _=>rfl) fun p=>?_
 refine ae [] rfl ?_
 refine ad (aa ?_)
 refine ab [] (v:=bu N A c) (af 0 rfl rfl rfl rfl) rfl ?_
 refine ah [] rfl ?_
 refine ax [] (rf N hN hR A c b o hA s hs hsl S cs bs os hS) rfl rfl rfl rfl (by kernel_rfl) ⟨⟨1,_,by simp,rfl,aq _ _ _,ay⟩,⟨2,_,by simp,rfl,aq _ _ _,ay⟩,trivial⟩ (fun _=>rfl) ?_
 rintro v H' ⟨A1,c1,rfl,rfl⟩
 refine⟨rfl,?_⟩
 rw[← hl] at hll ⊢
 refine ae [] rfl ?_
 refine ad (aa (ae [] rfl ?_))
 refine ad (ad (aa (ae [] rfl ?_)))
 refine bO (bh 0 rfl) fun ⟨_,_,hA1,_⟩=>?_
 refine au ?_
 refine bq (σ:=Nat) (fun k=>[(19,.int .i64 k),(18,.int .i64 l.length),(17,.slice A1 l.length c1),(8,.int .i64 ((l.take k).map (fb N)).sum),(7,.int .i64 0),(2,.pointer (some ⟨p,0,none⟩))])
  (fun k=>[.own (.slice A1 l.length c1) 3 1 l.length (ap l),blk p 27 (bG N A c),.seg b o (arcs N.arcs)]) (fun k=>k≤l.length) (fun k=>l.length-k)
  0 [0,1,2] ⟨rfl,rfl,rfl,rfl,rfl,rfl,trivial⟩ (by decide) rfl (Nat.zero_le _) ?_
 intro k hk
 refine ad (aa (ae [] rfl ?_))
 refine ad (aC rfl (fun hlt=>av ?_) (fun hge=>aV ?_))
 ·have hlt:k<l.length:=by omega
  obtain⟨g1,rfl⟩:=hA1 (by omega)
  obtain⟨x,hx⟩:∃ x,l[k]?=some x:=⟨l[k],List.getElem?_eq_getElem hlt⟩
  obtain⟨i,a,rfl,ha,hcap,hc0⟩:=hmem x (List.mem_of_getElem? hx)
  have hil:i<N.arcs.length:=(List.getElem?_eq_some_iff.1 ha).1
  obtain rfl:=hA (by intro h0;rw[h0] at hil;simp at hil)
  obtain⟨_,_,hac⟩:=em ha
  have htk:((l.take (k+1)).map (fb N)).sum=((l.take k).map (fb N)).sum+a.cap:=by rw[List.take_add_one,hx,List.map_append,List.sum_append];simp[hcap]
  have hb1:=hpart (k+1)
  rw[htk] at hb1
  refine ad (au ?_)
  refine ad (aa (ah [] rfl ?_))
  refine ab [] (aJ rfl rfl rfl rfl rfl hlt) rfl ?_
  refine ab [] (aD 0 rfl rfl rfl (df hx)) rfl ?_
  refine ae [] rfl ?_
  refine aa (ah [] rfl ?_)
  refine ab [] (af 1 rfl rfl rfl rfl) rfl ?_
  refine ah [] rfl ?_
  refine ab [] (iR rfl rfl rfl rfl rfl hil) rfl ?_
  refine ah [] rfl ?_
  refine ab [] (bz 2 rfl rfl rfl rfl hac) rfl ?_
  refine ae [] rfl ?_
  refine aa (ae [] rfl ?_)
  refine⟨k+1,[0,1,2],⟨?_,rfl,rfl,?_,rfl,rfl,trivial⟩,by decide,rfl,by omega,by omega⟩
  ·show some (Value.int .i64 (IntKind.i64.wrap ((k:Int)+1)))=_
   rw[bU (by omega)];rfl
  ·show some (Value.int .i64 (IntKind.i64.wrap (((l.take k).map (fb N)).sum+a.cap)))=_
   rw[htk,bU (by omega)]
 ·have hk':k=l.length:=by omega
  subst hk'
  refine ad (aa (ae [] rfl ?_))
  refine aE [] (by decide) rfl (aB ⟨_,rfl,?_,rfl⟩)
  rw[List.take_length,htot];rfl
end Go.Proofs.YtpbmihpjgjbndaaGreatDoor
/- Walks, and flows along them. -/
set_option linter.unusedVariables false
set_option linter.unusedSimpArgs false
namespace Go.Proofs.YtpbmihpjgjbndaaGreatDoor
open Go.RowKit
theorem pa:∀ (al:List dK) (f:List Int) (i:Nat) (a:dK) (x m v:Int),al[i]?=some a→f[i]?=some x→
 cY (al.zip (f.set i (x+m))) v=cY (al.zip f) v+((if a.to=v then m else 0)-(if a.fr=v then m else 0))
 |[],_,_,_,_,_,_,h,_=>by simp at h
 |_::_,[],_,_,_,_,_,_,h=>by simp at h
 |b::al,y::f,0,a,x,m,v,ha,hx=>by
  simp only[List.getElem?_cons_zero,Option.some.injEq] at ha hx
  subst ha hx
  simp only[List.set_cons_zero,List.zip_cons_cons,cY,List.map_cons,List.sum_cons]
  split<;>split<;>omega
 |b::al,y::f,i+1,a,x,m,v,ha,hx=>by
  have:=pa al f i a x m v (by simpa using ha) (by simpa using hx)
  simp only[cY] at this
  simp only[List.set_cons_succ,List.zip_cons_cons,cY,List.map_cons,List.sum_cons]
  omega
def lh (N:a8):Int→List Nat→Int→Prop
 |a,[],z=>a=z
 |a,i::W,z=>∃ r:dK,N.arcs[i]?=some r∧r.fr=a∧lh N r.to W z
theorem mq {N:a8} {i:Nat} {r:dK} (h:N.arcs[i]?=some r):∀ {W:List Nat} {a:Int},lh N a W r.fr→lh N a (W++[i]) r.to
 |[],_,hw=>⟨r,h,hw.symm,rfl⟩
 |_::_,_,⟨q,h1,h2,h3⟩=>⟨q,h1,h2,mq h h3⟩
theorem oY (t x:Int):∀ (s:List Int),s.Nodup→(s.map fun v=>if t=v then x else 0).sum=if t∈s then x else 0
 |[],_=>by simp
 |v::s,h=>by
  have h1:=List.nodup_cons.1 h
  simp only[List.map_cons,List.sum_cons,oY t x s h1.2]
  by_cases e:t=v
  ·subst e;rw[if_pos rfl,if_neg h1.1,if_pos (by simp)];omega
  ·rw[if_neg e]
   by_cases e2:t∈s
   ·rw[if_pos e2,if_pos (by simp[e2])];omega
   ·rw[if_neg e2,if_neg (by simp[e,e2])];omega
def iT (s:List Int) (ps:List (dK×Int)):Int:=(ps.map fun p=>(if p.1.fr∈s then p.2 else 0)-(if p.1.to∈s then p.2 else 0)).sum
theorem sm (f g:Int→Int):∀ s:List Int,(s.map fun v=>f v-g v).sum=(s.map f).sum-(s.map g).sum
 |[]=>by simp
 |v::s=>by simp only[List.map_cons,List.sum_cons,sm f g s];omega
theorem sH (f g:Int→Int):∀ s:List Int,(s.map fun v=>f v+g v).sum=(s.map f).sum+(s.map g).sum
 |[]=>by simp
 |v::s=>by simp only[List.map_cons,List.sum_cons,sH f g s];omega
theorem r5 {s:List Int} (hs:s.Nodup):∀ ps:List (dK×Int),(s.map (cY ps)).sum=-iT s ps
 |[]=>by
  have:∀ s:List Int,(s.map (cY [])).sum=0:=by
   intro s
   induction s with
   |nil=>rfl
   |cons v s ih=>simp only[List.map_cons,List.sum_cons,ih];simp[cY]
  rw[this];simp[iT]
 |p::ps=>by
  have ih:=r5 hs ps
  have e:(s.map (cY (p::ps)))=s.map fun v=>((if p.1.to=v then p.2 else 0)-(if p.1.fr=v then p.2 else 0))+cY ps v:=by
   refine List.map_congr_left fun v _=>?_
   simp only[cY,List.map_cons,List.sum_cons]
  rw[e,sH,sm,oY _ _ s hs,oY _ _ s hs,ih]
  simp only[iT,List.map_cons,List.sum_cons]
  omega
theorem qS (g:Int→Int):∀ s:List Int,(∀ v∈s,g v=0)→(s.map g).sum=0
 |[],_=>by simp
 |v::s,h=>by simp only[List.map_cons,List.sum_cons,qS g s fun w hw=>h w (by simp[hw]),h v (by simp)];omega
theorem jL (g:Int→Int) (a:Int):∀ s:List Int,s.Nodup→a∈s→(∀ v∈s,v≠a→g v=0)→(s.map g).sum=g a
 |[],_,h,_=>by simp at h
 |v::s,hn,ha,h=>by
  have h1:=List.nodup_cons.1 hn
  simp only[List.map_cons,List.sum_cons]
  by_cases e:v=a
  ·subst e
   rw[qS g s fun w hw=>h w (by simp[hw]) (fun e=>h1.1 (e▸hw))];omega
  ·have ha':a∈s:=(List.mem_cons.1 ha).resolve_left (fun h=>e h.symm)
   rw[jL g a s h1.2 ha' fun w hw=>h w (by simp[hw]),h v (by simp) e];omega
theorem mE {s:List Int} (h:s.Pairwise (·<·)):s.Nodup:=h.imp fun h=>by omega
theorem xL {N:a8} {f:List Int} (hf:aH N f) {s:List Int} (hs:eq N s):cY (N.arcs.zip f) N.src=-iT s (N.arcs.zip f):=by
 rw[← r5 (mE hs.rise),jL _ N.src s (mE hs.rise) hs.src fun v hv hne=>hf.kept v (hs.rng v hv) hne fun e=>hs.snk (e▸hv)]
def mD (n:Nat) (z:Int):List Int:=((List.range (n+1)).map fun (v:Nat)=>(v:Int)).filter fun v=>decide (1≤v∧v≠z)
theorem j0 {n:Nat} {z x:Int}:x∈mD n z↔1≤x∧x≤n∧x≠z:=by
 unfold mD
 simp only[List.mem_filter,List.mem_map,List.mem_range,decide_eq_true_eq]
 constructor
 ·rintro⟨⟨v,hv,rfl⟩,h1,h2⟩;exact⟨h1,by omega,h2⟩
 ·rintro⟨h1,h2,h3⟩;exact⟨⟨x.toNat,by omega,by omega⟩,h1,h3⟩
theorem tk {N:a8} (hR:N.Right) (n:Nat) (hn:N.nodes=n) (s:List Int) (hs:∀ x:Int,x∈s↔1≤x∧x≤n∧x≠N.snk):∀ ps:List (dK×Int),(∀ p∈ps,p.1∈N.arcs)→iT s ps=cY ps N.snk
 |[],_=>by simp[iT,cY]
 |p::ps,h=>by
  have ih:=tk hR n hn s hs ps fun q hq=>h q (by simp[hq])
  have h1:=hR.arc p.1 (h p (by simp))
  have e1:p.1.fr∈s↔p.1.fr≠N.snk:=by rw[hs];omega
  have e2:p.1.to∈s↔p.1.to≠N.snk:=by rw[hs];omega
  have e3:N.snk∉s:=by rw[hs];omega
  simp only[iT,cY,List.map_cons,List.sum_cons] at ih ⊢
  rw[ih]
  by_cases a1:p.1.fr=N.snk<;>by_cases a2:p.1.to=N.snk<;>simp[e1,e2,e3,a1,a2]<;>omega
theorem kx (n:Nat) (z:Int):(mD n z).Nodup:=by
 unfold mD
 have h:((List.range (n+1)).map fun (v:Nat)=>(v:Int)).Nodup:=by
  rw[List.nodup_iff_pairwise_ne,List.pairwise_map]
  exact List.nodup_range.imp fun h e=>h (by omega)
 exact List.Pairwise.filter _ h
theorem lj {N:a8} (hR:N.Right) {f:List Int} (hf:aH N f) {s:List Int} (hs:eq N s):cY (N.arcs.zip f) N.snk=iT s (N.arcs.zip f):=by
 have hnn:=hR.nodes
 have hsr:=hR.src
 have hd:=hR.diff
 obtain⟨n,hn⟩:∃ n:Nat,N.nodes=n:=⟨N.nodes.toNat,by omega⟩
 have h1:=tk hR n hn (mD n N.snk) (fun x=>j0) (N.arcs.zip f) fun p hp=>(List.of_mem_zip hp).1
 have h2:=r5 (kx n N.snk) (N.arcs.zip f)
 rw[jL _ N.src _ (kx n N.snk) (j0.2 ⟨by omega,by omega,hd⟩) fun v hv hne=>by
  have:=j0.1 hv
  exact hf.kept v (by omega) hne this.2.2,xL hf hs,h1] at h2
 omega
def ge (m:Int):List Nat→List Int→List Int
 |[],f=>f
 |i::W,f=>ge m W (f.set i (f.getD i 0+m))
theorem iY (m:Int):∀ (W:List Nat) (f:List Int),(ge m W f).length=f.length
 |[],_=>rfl
 |i::W,f=>by rw[ge,iY m W];simp
theorem td {N:a8} {z m v:Int}:∀ (W:List Nat) (a:Int) (f:List Int),f.length=N.arcs.length→lh N a W z→cY (N.arcs.zip (ge m W f)) v=cY (N.arcs.zip f) v+((if z=v then m else 0)-(if a=v then m else 0))
 |[],a,f,_,h=>by
  have h':a=z:=h
  rw[ge,h'];omega
 |i::W,a,f,hl,⟨r,h1,h2,h3⟩=>by
  have hi:i<N.arcs.length:=(List.getElem?_eq_some_iff.1 h1).1
  have hx:f[i]?=some (f.getD i 0):=by rw[List.getD_eq_getElem?_getD,List.getElem?_eq_getElem (by omega)];rfl
  rw[ge,td W r.to _ (by simp[hl]) h3,pa N.arcs f i r _ m v h1 hx,h2]
  omega
theorem na (m:Int):∀ (W:List Nat) (f:List Int) (j:Nat),W.Nodup→(∀ i∈W,i<f.length)→(ge m W f)[j]?=if j∈W then some (f.getD j 0+m) else f[j]?
 |[],f,j,_,_=>by simp[ge]
 |i::W,f,j,hn,hi=>by
  have h1:=List.nodup_cons.1 hn
  rw[ge,na m W _ j h1.2 (fun k hk=>by simp;exact hi k (by simp[hk]))]
  by_cases e:j=i
  ·subst e
   rw[if_neg h1.1,if_pos (by simp),List.getElem?_set_self (hi j (by simp))]
  ·by_cases e2:j∈W
   ·rw[if_pos e2,if_pos (by simp[e2])]
    simp only[List.getD_eq_getElem?_getD]
    rw[List.getElem?_set_ne (fun h=>e h.symm)]
   ·rw[if_neg e2,if_neg (by simp[e,e2]),List.getElem?_set_ne (fun h=>e h.symm)]
theorem qD {N:a8} {f:List Int} {W:List Nat} {m:Int} (h:Ranged N f) (hn:W.Nodup) (hm:0≤m) (hi:∀ i∈W,∃ r:dK,N.arcs[i]?=some r∧f.getD i 0+m≤r.cap):Ranged N (ge m W f):=by
 refine⟨by rw[iY];exact h.len,fun p hp=>?_⟩
 obtain⟨j,hj,hpj⟩:=List.mem_iff_getElem.1 hp
 have hz:(N.arcs.zip (ge m W f))[j]?=some p:=by rw[List.getElem?_eq_getElem hj,hpj]
 obtain⟨h1,h2⟩:=List.getElem?_zip_eq_some.1 hz
 have hlt:j<f.length:=by have:=(List.getElem?_eq_some_iff.1 h1).1;have:=h.len;omega
 have hfj:f[j]?=some (f.getD j 0):=by rw[List.getD_eq_getElem?_getD,List.getElem?_eq_getElem hlt];rfl
 have hold:=h.all (p.1,f.getD j 0) (List.mem_of_getElem? (List.getElem?_zip_eq_some.2 ⟨h1,hfj⟩))
 simp only at hold
 rw[na m W f j hn (fun i hi'=>by obtain⟨r,hr,_⟩:=hi i hi';have:=(List.getElem?_eq_some_iff.1 hr).1;have:=h.len;omega)] at h2
 split at h2
 ·rename_i hjW
  obtain⟨r,hr,hc⟩:=hi j hjW
  rw[h1] at hr
  simp only[Option.some.injEq] at hr h2
  rw[← h2,hr]
  rw[hr] at hold
  omega
 ·rw[hfj] at h2
  simp only[Option.some.injEq] at h2
  rw[← h2];exact hold
theorem uV {N:a8} {f:List Int} {W:List Nat} {m:Int} (h:aH N f) (hw:lh N N.src W N.snk) (hn:W.Nodup) (hm:0≤m) (hi:∀ i∈W,∃ r:dK,N.arcs[i]?=some r∧f.getD i 0+m≤r.cap):aH N (ge m W f):=
 ⟨qD h.toRanged hn hm hi,fun v hv h1 h2=>by rw[td W N.src f h.len hw,h.kept v hv h1 h2,if_neg (fun e=>h2 e.symm),if_neg (fun e=>h1 e.symm)];rfl⟩
theorem nh:∀ {l:List Int},(∀ x∈l,0≤x)→∀ {x},x∈l→x≤l.sum
 |[],_,_,h=>by cases h
 |y::l,h,x,hx=>by
  have h0:0≤l.sum:=by
   clear hx
   have h':∀ x∈l,0≤x:=fun x hx=>h x (by simp[hx])
   clear h
   induction l with
   |nil=>simp
   |cons z l ih=>
    have:=h' z (by simp)
    have:=ih (fun x hx=>h' x (by simp[hx]))
    rw[List.sum_cons];omega
  rw[List.sum_cons]
  rcases List.mem_cons.1 hx with rfl|hx
  ·omega
  ·have:=h y (by simp)
   have:=nh (fun x hx=>h x (by simp[hx])) hx
   omega
theorem a8.Right.cap {N:a8} (h:N.Right) {a:dK} (ha:a∈N.arcs):a.cap≤4611686018427387903:=
 Int.le_trans (nh (l:=N.arcs.map (·.cap)) (fun x hx=>by obtain⟨b,hb,rfl⟩:=List.mem_map.1 hx;exact (h.arc b hb).2.2) (List.mem_map.2 ⟨a,ha,rfl⟩)) h.sum
theorem aH.inB {N:a8} (hR:N.Right) {f:List Int} (hf:Ranged N f):∀ x∈f,bN x:=by
 intro x hx
 obtain⟨j,hj,rfl⟩:=List.mem_iff_getElem.1 hx
 have hl:=hf.len
 have ha:N.arcs[j]?=some (N.arcs[j]'(by omega)):=List.getElem?_eq_getElem (by omega)
 have h2:=hf.all (N.arcs[j]'(by omega),f[j]) (List.mem_of_getElem? (List.getElem?_zip_eq_some.2 ⟨ha,List.getElem?_eq_getElem hj⟩))
 have h3:=hR.cap (List.mem_of_getElem? ha)
 simp only at h2
 unfold Go.Proofs.YtpbmihpjgjbndaaGreatDoor.bN
 omega
theorem g9 (N:a8) (hR:N.Right):aH N (List.replicate N.arcs.length 0):=by
 have hz:∀ (l:List dK) (v:Int),cY (l.zip (List.replicate l.length 0)) v=0:=by
  intro l v
  induction l with
  |nil=>simp[cY]
  |cons a l ih=>
   simp only[cY] at ih
   simp only[cY,List.length_cons,List.replicate_succ,List.zip_cons_cons,List.map_cons,List.sum_cons,ih]
   split<;>split<;>rfl
 refine⟨⟨by simp,fun p hp=>?_⟩,fun v _ _ _=>hz _ _⟩
 obtain⟨h1,h2⟩:=List.of_mem_zip hp
 have:=(hR.arc p.1 h1).2.2
 have:=List.eq_of_mem_replicate h2
 omega
end Go.Proofs.YtpbmihpjgjbndaaGreatDoor
/- Walks that block, in plain terms: the state of a search over lists of tracks, and what it keeps. -/
set_option linter.unusedVariables false
set_option linter.unusedSimpArgs false
namespace Go.Proofs.YtpbmihpjgjbndaaGreatDoor
open Go.RowKit
def cU (N:a8) (r:Nat):Nat:=(bP N r).1.toNat
def d9 (N:a8) (r:Nat):Nat:=(bP N r).2.toNat
theorem i7 {N:a8} (hR:N.Right) {r:Nat} (hr:r<2*N.arcs.length):(bP N r).1=(cU N r:Int)∧1≤cU N r∧(cU N r:Int)≤N.nodes:=by
 have:=ff hR hr
 unfold cU;omega
theorem fu {N:a8} (hR:N.Right) {r:Nat} (hr:r<2*N.arcs.length):(bP N r).2=(d9 N r:Int)∧1≤d9 N r∧(d9 N r:Int)≤N.nodes:=by
 have:=ff hR hr
 unfold d9;omega
def bi (r:Nat):Nat:=if r%2=1 then r-1 else r+1
theorem io (r:Nat):bi (bi r)=r:=by unfold bi;split<;>split<;>omega
theorem qg (r:Nat):bi r≠r:=by unfold bi;split<;>omega
theorem qM {r m:Nat} (h:r<2*m):bi r<2*m:=by unfold bi;split<;>omega
theorem rg (r:Nat):bi r/2=r/2:=by unfold bi;split<;>omega
theorem eJ (N:a8) (r:Nat):cU N (bi r)=d9 N r:=by
 unfold cU d9 bP;rw[rg]
 cases N.arcs[r/2]? with
 |none=>rfl
 |some a=>
  show (cL a (bi r)).1.toNat=(cL a r).2.toNat
  unfold cL bi
  split<;>split<;>first|rfl|omega
theorem f0 (N:a8) (r:Nat):d9 N (bi r)=cU N r:=by
 have:=eJ N (bi r)
 rw[io] at this;exact this.symm
def Tr (N:a8):Nat→List Nat→Nat→Prop
 |a,[],z=>a=z
 |a,r::W,z=>cU N r=a∧Tr N (d9 N r) W z
theorem wZ {N:a8} {r:Nat}:∀ {W:List Nat} {a:Nat},Tr N a W (cU N r)→Tr N a (W++[r]) (d9 N r)
 |[],_,h=>⟨h.symm,rfl⟩
 |_::_,_,⟨h1,h2⟩=>⟨h1,wZ h2⟩
theorem kM {N:a8} {r z:Nat}:∀ {W:List Nat} {a:Nat},Tr N a (W++[r]) z→Tr N a W (cU N r)∧z=d9 N r
 |[],_,⟨h1,h2⟩=>⟨h1.symm,h2.symm⟩
 |_::_,_,⟨h1,h2⟩=>⟨⟨h1,(kM h2).1⟩,(kM h2).2⟩
theorem oL {N:a8}:∀ {W:List Nat} {a z:Nat} (k:Nat),Tr N a W z→∃ y,Tr N a (W.take k) y
 |[],a,_,k,_=>⟨a,by rw[List.take_nil];exact rfl⟩
 |r::W,a,z,0,_=>⟨a,rfl⟩
 |r::W,a,z,k+1,⟨h1,h2⟩=>by obtain⟨y,hy⟩:=oL k h2;exact⟨y,h1,hy⟩
def cq (N:a8) (W:List Nat):Nat:=match W.getLast? with
 |none=>N.src.toNat
 |some r=>d9 N r
theorem kp (N:a8) (W:List Nat) (r:Nat):cq N (W++[r])=d9 N r:=by unfold cq;rw[List.getLast?_append];rfl
theorem rZ {N:a8} {W:List Nat} {z:Nat} (h:Tr N N.src.toNat W z):z=cq N W:=by
 rcases List.eq_nil_or_concat W with rfl|⟨W0,r,rfl⟩
 ·exact h.symm
 ·rw[List.concat_eq_append] at h ⊢
  rw[(kM h).2,kp]
structure dN (N:a8) (L:Nat→List Nat) (lv:Nat→Int):Prop where
 ok:∀ v r,r∈L v→r<2*N.arcs.length∧cU N r=v∧lv (d9 N r)=lv v+1
 hi:∀ v,-1≤lv v∧lv v<N.nodes
theorem km {N:a8} {L:Nat→List Nat} {lv:Nat→Int} (hG:dN N L lv):∀ {W:List Nat} {a z:Nat},Tr N a W z→(∀ r∈W,r∈L (cU N r))→lv z=lv a+W.length∧∀ r∈W,lv a≤lv (cU N r)∧lv (cU N r)<lv z
 |[],a,z,h,_=>by rw[show a=z from h];simp
 |r::W,a,z,⟨h1,h2⟩,hW=>by
  have h3:=(hG.ok _ _ (hW r (by simp))).2.2
  obtain⟨h4,h5⟩:=km hG h2 fun q hq=>hW q (by simp[hq])
  rw[h1] at h3
  refine⟨by rw[h4,h3,List.length_cons];omega,fun q hq=>?_⟩
  rcases List.mem_cons.1 hq with rfl|hq
  ·rw[h1];omega
  ·have:=h5 q hq;omega
theorem m8 {N:a8} {L:Nat→List Nat} {lv:Nat→Int} (hG:dN N L lv):∀ {W:List Nat} {a z:Nat},Tr N a W z→(∀ r∈W,r∈L (cU N r))→W.Nodup∧∀ r∈W,∀ q∈W,bi r≠q
 |[],a,z,h,_=>⟨List.nodup_nil,fun _ h=>by cases h⟩
 |r::W,a,z,⟨h1,h2⟩,hW=>by
  obtain⟨h3,h4⟩:=m8 hG h2 fun q hq=>hW q (by simp[hq])
  have hr:=(hG.ok _ _ (hW r (by simp))).2.2
  have h5:=(km hG h2 fun q hq=>hW q (by simp[hq])).2
  have hf:∀ s∈r::W,∀ q∈r::W,bi s=q→False:=by
   intro s hs q hq e
   have h6:=(hG.ok _ _ (hW s hs)).2.2
   have h7:=(hG.ok _ _ (hW q hq)).2.2
   rw[← e,f0,eJ] at h7
   omega
  refine⟨List.nodup_cons.2 ⟨fun hin=>?_,h3⟩,fun s hs q hq e=>hf s hs q hq e⟩
  have:=(h5 r hin).1
  omega
def ke (L:Nat→List Nat) (pos:List Nat) (u:Nat):Prop:=∀ p,pos[u]?=some p→(L u).length≤p
structure PI (N:a8) (L:Nat→List Nat) (least:Int) (rm:List Int) (pos W:List Nat):Prop where
 pl:pos.length=N.nodes.toNat+1
 tr:∃ z,Tr N N.src.toNat W z
 head:∀ r∈W,∃ p,pos[cU N r]?=some p∧(L (cU N r))[p]?=some r∧least≤rm.getD r 0
 pass:∀ v p,pos[v]?=some p→∀ j r,j<p→(L v)[j]?=some r→rm.getD r 0<least∨(d9 N r≠N.snk.toNat∧ke L pos (d9 N r))
theorem qO {pos:List Nat} {v p u q:Nat} (h:pos[v]?=some p) (hq:(pos.set v (p+1))[u]?=some q):∃ q0,pos[u]?=some q0∧q0≤q∧(u≠v→q0=q):=by
 by_cases e:v=u
 ·subst e
  rw[List.getElem?_set_self (List.getElem?_eq_some_iff.1 h).1] at hq
  simp only[Option.some.injEq] at hq
  exact⟨p,h,by omega,fun h=>absurd rfl h⟩
 ·rw[List.getElem?_set_ne e] at hq
  exact⟨q,hq,Nat.le_refl _,fun _=>rfl⟩
theorem ke.more {L:Nat→List Nat} {pos:List Nat} {v p u:Nat} (h:ke L pos u) (hp:pos[v]?=some p):ke L (pos.set v (p+1)) u:=by
 intro q hq
 obtain⟨q0,h1,h2,_⟩:=qO hp hq
 exact Nat.le_trans (h q0 h1) h2
section
variable {N:a8} {L:Nat→List Nat} {lv:Nat→Int} {least:Int} {rm:List Int} {pos W:List Nat}
theorem PI.on (h:PI N L least rm pos W):Tr N N.src.toNat W (cq N W):=by
 obtain⟨z,hz⟩:=h.tr
 rw[← rZ hz];exact hz
theorem PI.mem (h:PI N L least rm pos W):∀ r∈W,r∈L (cU N r):=fun r hr=>by
 obtain⟨p,_,h2,_⟩:=h.head r hr
 exact List.mem_of_getElem? h2
theorem PI.go (h:PI N L least rm pos W) (hG:dN N L lv) {p r:Nat} (hp:pos[cq N W]?=some p) (hr:(L (cq N W))[p]?=some r) (hl:least≤rm.getD r 0):PI N L least rm pos (W++[r]):=by
 have hf:=(hG.ok _ _ (List.mem_of_getElem? hr)).2.1
 refine⟨h.pl,⟨_,wZ (hf.symm▸h.on)⟩,fun q hq=>?_,h.pass⟩
 rcases List.mem_append.1 hq with hq|hq
 ·exact h.head q hq
 ·rw[List.mem_singleton.1 hq,hf];exact⟨p,hp,hr,hl⟩
theorem PI.bump (h:PI N L least rm pos W) {v p r:Nat} (hv:∀ q∈W,cU N q≠v) (hp:pos[v]?=some p) (hr:(L v)[p]?=some r) (hl:rm.getD r 0<least∨(d9 N r≠N.snk.toNat∧ke L pos (d9 N r))):PI N L least rm (pos.set v (p+1)) W:=by
 refine⟨by rw[List.length_set];exact h.pl,h.tr,fun q hq=>?_,fun u q hq j s hj hs=>?_⟩
 ·obtain⟨k,h1,h2,h3⟩:=h.head q hq
  exact⟨k,by rw[List.getElem?_set_ne (hv q hq).symm];exact h1,h2,h3⟩
 ·obtain⟨q0,h1,h2,h3⟩:=qO hp hq
  have key:rm.getD s 0<least∨(d9 N s≠N.snk.toNat∧ke L pos (d9 N s)):=by
   by_cases e:u=v
   ·subst e
    rw[hp] at h1
    simp only[Option.some.injEq] at h1
    rw[List.getElem?_set_self (List.getElem?_eq_some_iff.1 hp).1] at hq
    simp only[Option.some.injEq] at hq
    by_cases ej:j=p
    ·subst ej;rw[hr] at hs;simp only[Option.some.injEq] at hs;rw[← hs];exact hl
    ·exact h.pass u p hp j s (by omega) hs
   ·have:=h3 e
    subst this
    exact h.pass u q0 h1 j s hj hs
  rcases key with k|⟨k1,k2⟩
  ·exact .inl k
  ·exact .inr ⟨k1,k2.more hp⟩
theorem PI.skip (h:PI N L least rm pos W) (hG:dN N L lv) {p r:Nat} (hp:pos[cq N W]?=some p) (hr:(L (cq N W))[p]?=some r) (hl:rm.getD r 0<least):PI N L least rm (pos.set (cq N W) (p+1)) W:=
 h.bump (fun q hq e=>by have:=((km hG h.on h.mem).2 q hq).2;rw[e] at this;omega) hp hr (.inl hl)
theorem PI.drop {r:Nat} (h:PI N L least rm pos (W++[r])):PI N L least rm pos W:=by
 obtain⟨z,hz⟩:=h.tr
 exact⟨h.pl,⟨_,(kM hz).1⟩,fun q hq=>h.head q (by simp[hq]),h.pass⟩
theorem PI.back_at {r:Nat} (h:PI N L least rm pos (W++[r])):∃ q,pos[cq N W]?=some q∧(L (cq N W))[q]?=some r∧cU N r=cq N W:=by
 obtain⟨z,hz⟩:=h.tr
 have e:=rZ (kM hz).1
 obtain⟨p,h1,h2,_⟩:=h.head r (by simp)
 rw[e] at h1 h2
 exact⟨p,h1,h2,e⟩
theorem PI.back {r p q:Nat} (h:PI N L least rm pos (W++[r])) (hG:dN N L lv) (hs:cq N (W++[r])≠N.snk.toNat) (hp:pos[cq N (W++[r])]?=some p) (hl:(L (cq N (W++[r]))).length≤p) (hq:pos[cq N W]?=some q):
 PI N L least rm (pos.set (cq N W) (q+1)) W:=by
 obtain⟨q',h1,h2,h3⟩:=h.back_at
 rw[hq] at h1
 simp only[Option.some.injEq] at h1
 subst h1
 rw[kp] at hs hp hl
 refine h.drop.bump (fun s hs' e=>?_) hq h2 (.inr ⟨hs,fun p' hp'=>?_⟩)
 ·have:=((km hG h.drop.on h.drop.mem).2 s hs').2
  rw[e] at this;omega
 ·rw[hp] at hp'
  simp only[Option.some.injEq] at hp'
  rw[← hp'];exact hl
end
inductive Nx (N:a8) (L:Nat→List Nat) (least:Int) (rm:List Int):List Nat→List Nat→Bool→List Nat→List Nat→Prop
 |hit {pos W:List Nat}:cq N W=N.snk.toNat→Nx N L least rm pos W true pos W
 |go {pos W pos' W':List Nat} {r p:Nat} {b:Bool}:cq N W≠N.snk.toNat→pos[cq N W]?=some p→(L (cq N W))[p]?=some r→least≤rm.getD r 0→Nx N L least rm pos (W++[r]) b pos' W'→Nx N L least rm pos W b pos' W'
 |skip {pos W pos' W':List Nat} {r p:Nat} {b:Bool}:cq N W≠N.snk.toNat→pos[cq N W]?=some p→(L (cq N W))[p]?=some r→rm.getD r 0<least→Nx N L least rm (pos.set (cq N W) (p+1)) W b pos' W'→Nx N L least rm pos W b pos' W'
 |back {pos W pos' W':List Nat} {r p q:Nat} {b:Bool}:cq N (W++[r])≠N.snk.toNat→pos[cq N (W++[r])]?=some p→(L (cq N (W++[r]))).length≤p→pos[cq N W]?=some q→Nx N L least rm (pos.set (cq N W) (q+1)) W b pos' W'→Nx N L least rm pos (W++[r]) b pos' W'
 |stop {pos:List Nat} {p:Nat}:N.src.toNat≠N.snk.toNat→pos[N.src.toNat]?=some p→(L N.src.toNat).length≤p→Nx N L least rm pos [] false pos []
theorem Nx.keeps {N:a8} {L:Nat→List Nat} {lv:Nat→Int} {least:Int} {rm:List Int} (hG:dN N L lv) {pos W pos' W':List Nat} {b:Bool} (h:Nx N L least rm pos W b pos' W'):
 PI N L least rm pos W→PI N L least rm pos' W'∧(b=true→cq N W'=N.snk.toNat)∧(b=false→W'=[]∧ke L pos' N.src.toNat):=by
 induction h with
 |hit h=>exact fun hI=>⟨hI,fun _=>h,fun h=>(by cases h)⟩
 |go _ h2 h3 h4 _ ih=>exact fun hI=>ih (hI.go hG h2 h3 h4)
 |skip _ h2 h3 h4 _ ih=>exact fun hI=>ih (hI.skip hG h2 h3 h4)
 |back h1 h2 h3 h4 _ ih=>exact fun hI=>ih (hI.back hG h1 h2 h3 h4)
 |stop _ h2 h3=>exact fun hI=>⟨hI,fun h=>(by cases h),fun _=>⟨rfl,fun p hp=>by rw[h2] at hp;simp only[Option.some.injEq] at hp;rw[← hp];exact h3⟩⟩
inductive LP (N:a8) (L:Nat→List Nat) (least:Int) (rm:List Int):Nat→Prop
 |src:LP N L least rm N.src.toNat
 |step {r:Nat}:LP N L least rm (cU N r)→r∈L (cU N r)→least≤rm.getD r 0→LP N L least rm (d9 N r)
theorem sT {N:a8} (hR:N.Right) {L:Nat→List Nat} {lv:Nat→Int} {least:Int} {rm:List Int} (hG:dN N L lv) {pos:List Nat} (hI:PI N L least rm pos []) (hd:ke L pos N.src.toNat) (hs:N.src.toNat≠N.snk.toNat):
 ∀ {u},LP N L least rm u→u≠N.snk.toNat∧ke L pos u:=by
 intro u h
 induction h with
 |src=>exact⟨hs,hd⟩
 |@step r _ hr hl ih=>
  obtain⟨j,hj,hjr⟩:=List.mem_iff_getElem.1 hr
  have hlt:=(hG.ok _ _ hr).1
  have hf:=i7 hR hlt
  have hlen:cU N r<pos.length:=by rw[hI.pl];omega
  obtain⟨p,hp⟩:∃ p,pos[cU N r]?=some p:=⟨pos[cU N r],List.getElem?_eq_getElem hlen⟩
  have:=ih.2 p hp
  rcases hI.pass _ p hp j r (by omega) (by rw[List.getElem?_eq_getElem hj,hjr]) with k|k
  ·omega
  ·exact k
end Go.Proofs.YtpbmihpjgjbndaaGreatDoor
/- What a walk of tracks carries, in plain terms: rooms, flows, and walks until none is left. -/
set_option linter.unusedVariables false
set_option linter.unusedSimpArgs false
namespace Go.Proofs.YtpbmihpjgjbndaaGreatDoor
open Go.RowKit
def kN (a:Int) (r:Nat) (rm:List Int):List Int:=(rm.set r (rm.getD r 0-a)).set (bi r) (rm.getD (bi r) 0+a)
def bC (a:Int):List Nat→List Int→List Int
 |[],rm=>rm
 |r::W,rm=>bC a W (kN a r rm)
theorem iv (a:Int) (r:Nat) (rm:List Int):(kN a r rm).length=rm.length:=by simp[kN]
theorem eD (a:Int):∀ (W:List Nat) (rm:List Int),(bC a W rm).length=rm.length
 |[],_=>rfl
 |r::W,rm=>by rw[bC,eD a W,iv]
theorem nM (a:Int) (r:Nat):∀ (W:List Nat) (rm:List Int),bC a (W++[r]) rm=kN a r (bC a W rm)
 |[],_=>rfl
 |q::W,rm=>by simp only[List.cons_append,bC];exact nM a r W _
theorem fX {l:List Int} {i j:Nat} {x d:Int} (hi:i<l.length):(l.set i x).getD j d=if i=j then x else l.getD j d:=by
 simp only[List.getD_eq_getElem?_getD]
 by_cases e:i=j
 ·subst e;rw[if_pos rfl,List.getElem?_set_self hi];rfl
 ·rw[if_neg e,List.getElem?_set_ne e]
theorem n8 {a:Int} {r m:Nat} {rm:List Int} (hl:rm.length=2*m) (hr:r<2*m) (q:Nat):
 (kN a r rm).getD q 0=rm.getD q 0+(if bi q=r then a else 0)-(if q=r then a else 0):=by
 have hf:=qM hr
 unfold kN
 rw[fX (by rw[List.length_set];omega),fX (by omega)]
 have hne:=qg r
 by_cases e1:bi r=q
 ·subst e1
  rw[if_pos rfl,io,if_pos rfl,if_neg hne];omega
 ·have e2:bi q≠r:=fun h=>e1 (by rw[← h,io])
  rw[if_neg e1,if_neg e2]
  by_cases e3:r=q
  ·subst e3;rw[if_pos rfl,if_pos rfl];omega
  ·rw[if_neg e3,if_neg (fun h=>e3 h.symm)];omega
open Classical in
theorem eU {a:Int} {m:Nat}:∀ {W:List Nat} {rm:List Int},rm.length=2*m→(∀ r∈W,r<2*m)→W.Nodup→(∀ q:Nat,(bC a W rm).getD q 0=rm.getD q 0+(if bi q∈W then a else 0)-(if q∈W then a else 0))
 |[],rm,_,_,_,q=>by simp[bC]
 |r::W,rm,hl,hW,hn,q=>by
  have h1:=List.nodup_cons.1 hn
  rw[bC,eU (by rw[iv];exact hl) (fun x hx=>hW x (by simp[hx])) h1.2 q,n8 hl (hW r (by simp))]
  have e1:(if bi q∈r::W then a else 0)=(if bi q=r then a else 0)+(if bi q∈W then a else 0):=by
   by_cases e:bi q=r
   ·rw[if_pos e,if_pos (by simp[e]),if_neg (by rw[e];exact h1.1)];omega
   ·rw[if_neg e]
    by_cases e2:bi q∈W
    ·rw[if_pos e2,if_pos (by simp[e2])];omega
    ·rw[if_neg e2,if_neg (by simp[e,e2])];omega
  have e2:(if q∈r::W then a else 0)=(if q=r then a else 0)+(if q∈W then a else 0):=by
   by_cases e:q=r
   ·rw[if_pos e,if_pos (by simp[e]),if_neg (by rw[e];exact h1.1)];omega
   ·rw[if_neg e]
    by_cases e2:q∈W
    ·rw[if_pos e2,if_pos (by simp[e2])];omega
    ·rw[if_neg e2,if_neg (by simp[e,e2])];omega
  rw[e1,e2];omega
def bS (rm:List Int) (W:List Nat):Int:=W.foldl (fun m q=>if rm.getD q 0<m then rm.getD q 0 else m) (rm.getD (W.headD 0) 0)
theorem mV (rm:List Int):∀ (W:List Nat) (x:Int),(W.foldl (fun m q=>if rm.getD q 0<m then rm.getD q 0 else m) x≤x)∧(∀ r∈W,W.foldl (fun m q=>if rm.getD q 0<m then rm.getD q 0 else m) x≤rm.getD r 0)∧
 (W.foldl (fun m q=>if rm.getD q 0<m then rm.getD q 0 else m) x=x∨∃ r∈W,W.foldl (fun m q=>if rm.getD q 0<m then rm.getD q 0 else m) x=rm.getD r 0)
 |[],x=>⟨Int.le_refl _,fun _ h=>(by cases h),.inl rfl⟩
 |r::W,x=>by
  obtain⟨h1,h2,h3⟩:=mV rm W (if rm.getD r 0<x then rm.getD r 0 else x)
  simp only[List.foldl_cons]
  refine⟨Int.le_trans h1 (by split<;>omega),fun q hq=>?_,?_⟩
  ·rcases List.mem_cons.1 hq with rfl|hq
   ·exact Int.le_trans h1 (by split<;>omega)
   ·exact h2 q hq
  ·rcases h3 with h3|⟨q,hq,h3⟩
   ·split at h3
    ·exact .inr ⟨r,by simp,by rename_i hlt;rw[if_pos hlt];exact h3⟩
    ·rename_i hlt;exact .inl (by rw[if_neg hlt];exact h3)
   ·exact .inr ⟨q,by simp[hq],h3⟩
theorem kO {rm:List Int} {W:List Nat}:∀ r∈W,bS rm W≤rm.getD r 0:=(mV rm W _).2.1
theorem iU {rm:List Int} {W:List Nat} (h:W≠[]):∃ r∈W,bS rm W=rm.getD r 0:=by
 rcases (mV rm W (rm.getD (W.headD 0) 0)).2.2 with h1|h1
 ·cases W with
  |nil=>exact absurd rfl h
  |cons r W=>exact⟨r,by simp,h1⟩
 ·exact h1
def kH (least:Int) (rm:List Int) (W:List Nat):Nat:=W.findIdx fun r=>decide (rm.getD r 0<least)
inductive Bl (N:a8) (L:Nat→List Nat) (least:Int):List Int→List Nat→List Nat→List (List Nat×Int)→List Int→Prop
 |stop {rm:List Int} {pos W pos' W':List Nat}:Nx N L least rm pos W false pos' W'→Bl N L least rm pos W [] rm
 |walk {rm rm':List Int} {pos W pos' W':List Nat} {ws:List (List Nat×Int)}:Nx N L least rm pos W true pos' W'→
  Bl N L least (bC (bS rm W') W' rm) pos' (W'.take (kH least (bC (bS rm W') W' rm) W')) ws rm'→Bl N L least rm pos W ((W',bS rm W')::ws) rm'
/-! ### Flows and rooms -/
theorem eo {l:List dK} {f:List Int} {i:Nat} {a:dK} {x:Int} (h:l[i]?=some a) (k:f[i]?=some x):(l.zip f)[i]?=some (a,x):=List.getElem?_zip_eq_some.2 ⟨h,k⟩
theorem cT:∀ {ps:List (dK×Int)} {i:Nat} {p:dK×Int},ps[i]?=some p→(aM ps)[2*i]?=some (p.1.cap-p.2)∧(aM ps)[2*i+1]?=some p.2
 |[],_,_,h=>by simp at h
 |q::ps,0,p,h=>by
  simp only[List.getElem?_cons_zero,Option.some.injEq] at h
  subst h
  exact⟨rfl,rfl⟩
 |q::ps,i+1,p,h=>by
  have ih:=cT (ps:=ps) (i:=i) (by simpa using h)
  have e:aM (q::ps)=[q.1.cap-q.2,q.2]++aM ps:=by simp[aM]
  rw[e,List.getElem?_append_right (by simp;omega),List.getElem?_append_right (by simp;omega)]
  exact⟨by rw[show 2*(i+1)-[q.1.cap-q.2,q.2].length=2*i by simp;omega];exact ih.1,by rw[show 2*(i+1)+1-[q.1.cap-q.2,q.2].length=2*i+1 by simp;omega];exact ih.2⟩
def eG (a:Int) (r:Nat) (f:List Int):List Int:=f.set (r/2) (f.getD (r/2) 0+if r%2=1 then-a else a)
def jC (a:Int):List Nat→List Int→List Int
 |[],f=>f
 |r::W,f=>jC a W (eG a r f)
theorem gH (a:Int) (r:Nat) (f:List Int):(eG a r f).length=f.length:=by simp[eG]
theorem rr {N:a8} {a:Int} {r:Nat} {f:List Int} (hl:f.length=N.arcs.length) (hr:r<2*N.arcs.length):kN a r (aM (N.arcs.zip f))=aM (N.arcs.zip (eG a r f)):=by
 have hzl:(N.arcs.zip f).length=N.arcs.length:=by simp;omega
 have hzl2:(N.arcs.zip (eG a r f)).length=N.arcs.length:=by simp[gH];omega
 have hrl:=cv (N.arcs.zip f)
 have hrl2:=cv (N.arcs.zip (eG a r f))
 rw[hzl] at hrl
 rw[hzl2] at hrl2
 have hext:∀ q:Nat,q<2*N.arcs.length→(kN a r (aM (N.arcs.zip f))).getD q 0=(aM (N.arcs.zip (eG a r f))).getD q 0:=by
  intro q hq
  rw[n8 hrl hr]
  have hqi:q/2<N.arcs.length:=by omega
  obtain⟨ar,har⟩:∃ x,N.arcs[q/2]?=some x:=⟨N.arcs[q/2],List.getElem?_eq_getElem hqi⟩
  have hx:f[q/2]?=some (f.getD (q/2) 0):=by rw[List.getD_eq_getElem?_getD,List.getElem?_eq_getElem (by omega)];rfl
  have hy:(eG a r f)[q/2]?=some ((eG a r f).getD (q/2) 0):=by rw[List.getD_eq_getElem?_getD,List.getElem?_eq_getElem (by rw[gH];omega)];rfl
  obtain⟨g1,g2⟩:=cT (eo har hx)
  obtain⟨g3,g4⟩:=cT (eo har hy)
  have hv:(eG a r f).getD (q/2) 0=f.getD (q/2) 0+if r/2=q/2 then (if r%2=1 then-a else a) else 0:=by
   unfold eG
   rw[fX (by omega)]
   by_cases e:r/2=q/2
   ·rw[if_pos e,if_pos e,e]
   ·rw[if_neg e,if_neg e];omega
  simp only at g1 g2 g3 g4
  rcases Nat.mod_two_eq_zero_or_one q with hm|hm
  ·have e:2*(q/2)=q:=by omega
   rw[e] at g1 g3
   simp only[List.getD_eq_getElem?_getD] at hv ⊢
   rw[g1,g3]
   simp only[Option.getD_some,List.getD_eq_getElem?_getD] at hv ⊢
   rw[hv]
   unfold bi
   rw[if_neg (by omega:¬ q%2=1)]
   split<;>split<;>split<;>(try split)<;>omega
  ·have e:2*(q/2)+1=q:=by omega
   rw[e] at g2 g4
   simp only[List.getD_eq_getElem?_getD] at hv ⊢
   rw[g2,g4]
   simp only[Option.getD_some,List.getD_eq_getElem?_getD] at hv ⊢
   rw[hv]
   unfold bi
   rw[if_pos hm]
   split<;>split<;>split<;>(try split)<;>omega
 refine List.ext_getElem (by rw[iv,hrl,hrl2]) fun q h1 h2=>?_
 have:=hext q (by omega)
 simp only[List.getD_eq_getElem?_getD] at this
 rw[List.getElem?_eq_getElem h1,List.getElem?_eq_getElem h2] at this
 exact this
theorem tX {N:a8} {a v:Int} {r:Nat} {f:List Int} (hl:f.length=N.arcs.length) (hr:r<2*N.arcs.length):
 cY (N.arcs.zip (eG a r f)) v=cY (N.arcs.zip f) v+((if (bP N r).2=v then a else 0)-(if (bP N r).1=v then a else 0)):=by
 obtain⟨ar,har⟩:∃ x,N.arcs[r/2]?=some x:=⟨N.arcs[r/2]'(by omega),List.getElem?_eq_getElem (by omega)⟩
 have hx:f[r/2]?=some (f.getD (r/2) 0):=by rw[List.getD_eq_getElem?_getD,List.getElem?_eq_getElem (by omega)];rfl
 have he:bP N r=cL ar r:=by unfold bP;rw[har]
 unfold eG
 rw[pa N.arcs f (r/2) ar _ _ v har hx,he]
 unfold cL
 by_cases hm:r%2=1
 ·rw[if_pos hm,if_pos hm]
  simp only
  split<;>split<;>omega
 ·rw[if_neg hm,if_neg hm]
theorem nS {N:a8} (hR:N.Right) {a:Int}:∀ {W:List Nat} {f:List Int} {x z:Nat},f.length=N.arcs.length→(∀ r∈W,r<2*N.arcs.length)→Tr N x W z→
 (jC a W f).length=N.arcs.length∧bC a W (aM (N.arcs.zip f))=aM (N.arcs.zip (jC a W f))∧∀ v:Int,cY (N.arcs.zip (jC a W f)) v=cY (N.arcs.zip f) v+((if (z:Int)=v then a else 0)-(if (x:Int)=v then a else 0))
 |[],f,x,z,hl,_,h=>⟨hl,rfl,fun v=>by rw[show x=z from h];simp only[jC];omega⟩
 |r::W,f,x,z,hl,hW,⟨h1,h2⟩=>by
  have hr:=hW r (by simp)
  obtain⟨k1,k2,k3⟩:=nS hR (a:=a) (f:=eG a r f) (by rw[gH];exact hl) (fun q hq=>hW q (by simp[hq])) h2
  refine⟨k1,by rw[bC,rr hl hr,k2];rfl,fun v=>?_⟩
  rw[jC,k3,tX hl hr,(fu hR hr).1,(i7 hR hr).1,h1]
  omega
theorem il {N:a8} {f:List Int} (hl:f.length=N.arcs.length):Ranged N f↔∀ q,q<2*N.arcs.length→0≤(aM (N.arcs.zip f)).getD q 0:=by
 constructor
 ·intro h q hq
  obtain⟨ar,har⟩:∃ x,N.arcs[q/2]?=some x:=⟨N.arcs[q/2]'(by omega),List.getElem?_eq_getElem (by omega)⟩
  have hx:f[q/2]?=some (f.getD (q/2) 0):=by rw[List.getD_eq_getElem?_getD,List.getElem?_eq_getElem (by omega)];rfl
  have hz:=eo har hx
  obtain⟨g1,g2⟩:=cT hz
  have:=h.all _ (List.mem_of_getElem? hz)
  simp only at g1 g2 this
  rcases Nat.mod_two_eq_zero_or_one q with hm|hm
  ·rw[show 2*(q/2)=q by omega] at g1
   rw[List.getD_eq_getElem?_getD,g1,Option.getD_some];omega
  ·rw[show 2*(q/2)+1=q by omega] at g2
   rw[List.getD_eq_getElem?_getD,g2,Option.getD_some];omega
 ·intro h
  refine⟨hl,fun p hp=>?_⟩
  obtain⟨j,hj,hjp⟩:=List.mem_iff_getElem.1 hp
  have hz:(N.arcs.zip f)[j]?=some p:=by rw[List.getElem?_eq_getElem hj,hjp]
  have hjl:j<N.arcs.length:=by have:=hj;simp at this;omega
  obtain⟨g1,g2⟩:=cT hz
  have h1:=h (2*j) (by omega)
  have h2:=h (2*j+1) (by omega)
  rw[List.getD_eq_getElem?_getD,g1,Option.getD_some] at h1
  rw[List.getD_eq_getElem?_getD,g2,Option.getD_some] at h2
  omega
theorem nJ {N:a8} (hR:N.Right) {f:List Int} (hf:aH N f) {W:List Nat} (hW:∀ r∈W,r<2*N.arcs.length) (hn:W.Nodup) (ht:Tr N N.src.toNat W N.snk.toNat) {a:Int} (ha:0≤a) (hm:∀ r∈W,a≤(aM (N.arcs.zip f)).getD r 0):
 aH N (jC a W f)∧bC a W (aM (N.arcs.zip f))=aM (N.arcs.zip (jC a W f))∧cY (N.arcs.zip (jC a W f)) N.snk=cY (N.arcs.zip f) N.snk+a:=by
 obtain⟨h1,h2,h3⟩:=nS hR (a:=a) hf.len hW ht
 have hsr:=hR.src
 have hsk:=hR.snk
 have hd:=hR.diff
 have e1:((N.src.toNat:Nat):Int)=N.src:=by omega
 have e2:((N.snk.toNat:Nat):Int)=N.snk:=by omega
 rw[e1,e2] at h3
 have hzl:(N.arcs.zip f).length=N.arcs.length:=by have:=hf.len;simp;omega
 refine⟨⟨(il h1).2 fun q hq=>?_,fun v hv hvs hvt=>?_⟩,h2,?_⟩
 ·rw[← h2,eU (by rw[cv,hzl]) hW hn]
  have h0:=(il hf.len).1 hf.toRanged q hq
  by_cases e:q∈W
  ·have:=hm q e
   rw[if_pos e]
   split<;>omega
  ·rw[if_neg e]
   split<;>omega
 ·rw[h3,hf.kept v hv hvs hvt,if_neg (fun e=>hvt e.symm),if_neg (fun e=>hvs e.symm)];rfl
 ·rw[h3,if_pos rfl,if_neg hd];omega
theorem Bl.keeps {N:a8} (hR:N.Right) {L:Nat→List Nat} {lv:Nat→Int} {least:Int} (hG:dN N L lv) (hle:1≤least) {rm rm':List Int} {pos W:List Nat} {ws:List (List Nat×Int)} (h:Bl N L least rm pos W ws rm'):
 ∀ f,aH N f→rm=aM (N.arcs.zip f)→PI N L least rm pos W→
   ∃ f',aH N f'∧rm'=aM (N.arcs.zip f')∧cY (N.arcs.zip f) N.snk+least*ws.length≤cY (N.arcs.zip f') N.snk∧(∀ u,LP N L least rm' u→u≠N.snk.toNat)∧(∀ v r,r∈L v→rm'.getD r 0≤rm.getD r 0)∧
     (∀ q,q<2*N.arcs.length→rm.getD q 0<rm'.getD q 0→bi q∈L (cU N (bi q))):=by
 induction h with
 |@stop rm pos W pos' W' hn=>
  intro f hf he hI
  obtain⟨h1,_,h3⟩:=hn.keeps hG hI
  obtain⟨rfl,hd⟩:=h3 rfl
  have hsr:=hR.src
  have hsk:=hR.snk
  have hdf:=hR.diff
  exact⟨f,hf,he,by simp,fun u hu=>(sT hR hG h1 hd (by omega) hu).1,fun _ _ _=>Int.le_refl _,fun q _ h=>by omega⟩
 |@walk rm rm' pos W pos' W' ws hn _ ih=>
  intro f hf he hI
  obtain⟨h1,h2,_⟩:=hn.keeps hG hI
  have hend:=h2 rfl
  have hon:=h1.on
  rw[hend] at hon
  have hnd:=m8 hG hon h1.mem
  have hlt:∀ r∈W',r<2*N.arcs.length:=fun r hr=>(hG.ok _ _ (h1.mem r hr)).1
  have hroom:∀ r∈W',least≤rm.getD r 0:=fun r hr=>by obtain⟨_,_,_,h⟩:=h1.head r hr;exact h
  have hWne:W'≠[]:=by
   intro h0
   have hsr:=hR.src
   have hsk:=hR.snk
   have hdf:=hR.diff
   rw[h0] at hend
   simp only[cq,List.getLast?_nil] at hend
   omega
  obtain⟨r0,hr0,hmo⟩:=iU (rm:=rm) hWne
  have hma:=hroom r0 hr0
  rw[← hmo] at hma
  obtain⟨a,haeq⟩:∃ a,a=bS rm W':=⟨_,rfl⟩
  rw[← haeq] at hma ih ⊢
  have hmle:∀ r∈W',a≤rm.getD r 0:=fun r hr=>haeq▸kO r hr
  obtain⟨k1,k2,k3⟩:=nJ hR hf hlt hnd.1 hon (by omega:0≤a) (he▸hmle)
  rw[← he] at k2
  have hzl:rm.length=2*N.arcs.length:=by rw[he,cv];have:=hf.len;simp;omega
  have hget:=eU (a:=a) hzl hlt hnd.1
  have hmono:∀ v r,r∈L v→(bC a W' rm).getD r 0≤rm.getD r 0:=by
   intro v r hr
   rw[hget]
   have:bi r∉W':=by
    intro hin
    have g1:=(hG.ok _ _ hr)
    have g2:=(hG.ok _ _ (h1.mem _ hin)).2.2
    have g3:=g1.2.2
    rw[f0,eJ] at g2
    rw[← g1.2.1] at g3
    omega
   rw[if_neg this]
   split<;>omega
  have hI':PI N L least (bC a W' rm) pos' (W'.take (kH least (bC a W' rm) W')):=by
   refine⟨h1.pl,oL _ hon,fun r hr=>?_,fun v p hp j r hj hjr=>?_⟩
   ·obtain⟨p,g1,g2,_⟩:=h1.head r (List.mem_of_mem_take hr)
    refine⟨p,g1,g2,?_⟩
    obtain⟨i,hi,hir⟩:=List.mem_iff_getElem.1 hr
    have hi':i<kH least (bC a W' rm) W':=by rw[List.length_take] at hi;omega
    rw[List.getElem_take] at hir
    have:=List.not_of_lt_findIdx hi'
    rw[hir] at this
    simpa using this
   ·rcases h1.pass v p hp j r hj hjr with k|k
    ·exact .inl (by have:=hmono v r (List.mem_of_getElem? hjr);omega)
    ·exact .inr k
  obtain⟨f',g1,g2,g3,g4,g5,g6⟩:=ih (jC a W' f) k1 k2 hI'
  refine⟨f',g1,g2,?_,g4,fun v r hr=>Int.le_trans (g5 v r hr) (hmono v r hr),fun q hq hqlt=>?_⟩
  ·rw[k3] at g3
   rw[List.length_cons]
   have:least*((ws.length+1:Nat):Int)=least*ws.length+least:=by grind
   omega
  ·by_cases hc:rm.getD q 0<(bC a W' rm).getD q 0
   ·rw[hget] at hc
    by_cases hin:bi q∈W'
    ·exact h1.mem _ hin
    ·rw[if_neg hin] at hc
     split at hc<;>omega
   ·exact g6 q hq (by omega)
end Go.Proofs.YtpbmihpjgjbndaaGreatDoor
/- Levels, in plain terms. -/
set_option linter.unusedVariables false
set_option linter.unusedSimpArgs false
namespace Go.Proofs.YtpbmihpjgjbndaaGreatDoor
open Go.RowKit
def bZ (lv:List Int) (v:Nat):Int:=lv.getD v (-1)
theorem pk {lv:List Int} {v:Nat} {x:Int} (h:lv[v]?=some x):bZ lv v=x:=by unfold bZ;rw[List.getD_eq_getElem?_getD,h];rfl
theorem iV {lv:List Int} {v:Nat} (h:v<lv.length):lv[v]?=some (bZ lv v):=by unfold bZ;rw[List.getD_eq_getElem?_getD,List.getElem?_eq_getElem h];rfl
theorem sl {lv:List Int} {t v:Nat} {x:Int} (h:t<lv.length):bZ (lv.set t x) v=if t=v then x else bZ lv v:=fX h
theorem tt {lv:List Int} {v:Nat} (h:lv.length≤v):bZ lv v=-1:=by unfold bZ;rw[List.getD_eq_getElem?_getD,List.getElem?_eq_none h];rfl
structure dr (N:a8) (rm:List Int) (least:Int) (lv:List Int):Prop where
 len:lv.length=N.nodes.toNat+1
 src:bZ lv N.src.toNat=0
 nil:bZ lv 0=-1
 rng:∀ v,-1≤bZ lv v∧bZ lv v<N.nodes
 zero:∀ v,bZ lv v=0→v=N.src.toNat
 step:∀ r,r<2*N.arcs.length→least≤rm.getD r 0→0≤bZ lv (cU N r)→0≤bZ lv (d9 N r)∧bZ lv (d9 N r)≤bZ lv (cU N r)+1
 back:∀ v,0<bZ lv v→∃ r,r<2*N.arcs.length∧least≤rm.getD r 0∧d9 N r=v∧bZ lv (cU N r)=bZ lv v-1
structure LH (N:a8) (rm:List Int) (least:Int) (k:Nat) (fr:List Nat) (lv:List Int):Prop where
 k1:1≤k
 len:lv.length=N.nodes.toNat+1
 src:bZ lv N.src.toNat=0
 nil:bZ lv 0=-1
 rng:∀ v,bZ lv v=-1∨0≤bZ lv v∧bZ lv v≤(k:Int)-1
 zero:∀ v,bZ lv v=0→v=N.src.toNat
 front:∀ v,bZ lv v=(k:Int)-1↔v∈fr
 done:∀ r,r<2*N.arcs.length→least≤rm.getD r 0→0≤bZ lv (cU N r)→bZ lv (cU N r)<(k:Int)-1→0≤bZ lv (d9 N r)∧bZ lv (d9 N r)≤bZ lv (cU N r)+1
 back:∀ v,0<bZ lv v→∃ r,r<2*N.arcs.length∧least≤rm.getD r 0∧d9 N r=v∧bZ lv (cU N r)=bZ lv v-1
 cnt:k+fr.length+lv.count (-1)≤N.nodes.toNat+2
structure LV (N:a8) (rm:List Int) (least:Int) (k:Nat) (now:List Nat) (i j:Nat) (nxt:List Nat) (lv:List Int):Prop where
 k1:1≤k
 len:lv.length=N.nodes.toNat+1
 src:bZ lv N.src.toNat=0
 nil:bZ lv 0=-1
 rng:∀ v,bZ lv v=-1∨0≤bZ lv v∧bZ lv v≤(k:Int)
 zero:∀ v,bZ lv v=0→v=N.src.toNat
 old:∀ v,bZ lv v=(k:Int)-1↔v∈now
 new:∀ v,bZ lv v=(k:Int)↔v∈nxt
 done:∀ r,r<2*N.arcs.length→least≤rm.getD r 0→0≤bZ lv (cU N r)→(bZ lv (cU N r)<(k:Int)-1∨cU N r∈now.take i∨(now[i]?=some (cU N r)∧∃ a,a<j∧(tr N (2*N.arcs.length) (cU N r))[a]?=some (r:Int)))→
  0≤bZ lv (d9 N r)∧bZ lv (d9 N r)≤bZ lv (cU N r)+1
 back:∀ v,0<bZ lv v→∃ r,r<2*N.arcs.length∧least≤rm.getD r 0∧d9 N r=v∧bZ lv (cU N r)=bZ lv v-1
 cnt:k+nxt.length+lv.count (-1)≤N.nodes.toNat+1
section
variable {N:a8} {rm:List Int} {least:Int} {k:Nat} {lv:List Int}
theorem e9:∀ (l:List Int) (t:Nat) (x:Int),l[t]?=some (-1)→x≠-1→(l.set t x).count (-1)+1=l.count (-1)
 |[],_,_,h,_=>by simp at h
 |y::l,0,x,h,hx=>by
  simp only[List.getElem?_cons_zero,Option.some.injEq] at h
  subst h
  simp[hx]
 |y::l,t+1,x,h,hx=>by
  have:=e9 l t x (by simpa using h) hx
  simp only[List.set_cons_succ,List.count_cons]
  omega
theorem LH.init (hR:N.Right):LH N rm least 1 [N.src.toNat] ((List.replicate (N.nodes.toNat+1) (-1)).set N.src.toNat 0):=by
 have hsr:=hR.src
 have hnn:=hR.nodes
 have hlt:N.src.toNat<(List.replicate (N.nodes.toNat+1) (-1:Int)).length:=by rw[List.length_replicate];omega
 have hr:∀ v,bZ (List.replicate (N.nodes.toNat+1) (-1)) v=-1:=by
  intro v
  by_cases h:v<N.nodes.toNat+1
  ·exact pk (by rw[List.getElem?_replicate,if_pos h])
  ·exact tt (by rw[List.length_replicate];omega)
 have hv:∀ v,bZ ((List.replicate (N.nodes.toNat+1) (-1)).set N.src.toNat 0) v=if N.src.toNat=v then 0 else-1:=fun v=>by rw[sl hlt,hr]
 refine⟨Nat.le_refl _,by simp,by rw[hv,if_pos rfl],by rw[hv,if_neg (by omega)],fun v=>?_,fun v h=>?_,fun v=>?_,fun r _ _ h1 h2=>by omega,fun v h=>?_,?_⟩
 ·rw[hv];split
  ·exact .inr ⟨by omega,by omega⟩
  ·exact .inl rfl
 ·rw[hv] at h;split at h
  ·rename_i e;exact e.symm
  ·omega
 ·rw[hv,List.mem_singleton]
  constructor
  ·intro h
   split at h
   ·rename_i e;exact e.symm
   ·omega
  ·rintro rfl;rw[if_pos rfl];omega
 ·rw[hv] at h;split at h<;>omega
 ·have:=e9 (List.replicate (N.nodes.toNat+1) (-1)) N.src.toNat 0 (by rw[List.getElem?_replicate,if_pos (by omega)]) (by decide)
  have h2:(List.replicate (N.nodes.toNat+1) (-1:Int)).count (-1)=N.nodes.toNat+1:=by simp
  simp only[List.length_singleton]
  omega
theorem LH.turn {fr:List Nat} (h:LH N rm least k fr lv) (hne:fr≠[]):LV N rm least k fr 0 0 [] lv:=by
 have hk:=h.k1
 have hlen:0<fr.length:=List.length_pos_iff.2 hne
 refine⟨h.k1,h.len,h.src,h.nil,fun v=>?_,h.zero,h.front,fun v=>⟨fun e=>?_,fun e=>by cases e⟩,fun r h1 h2 h3 h4=>?_,h.back,?_⟩
 ·rcases h.rng v with e|e
  ·exact .inl e
  ·exact .inr ⟨e.1,by omega⟩
 ·rcases h.rng v with e'|e'<;>omega
 ·rcases h4 with h4|h4|⟨_,a,ha,_⟩
  ·exact h.done r h1 h2 h3 h4
  ·simp at h4
  ·omega
 ·have:=h.cnt
  simp only[List.length_nil];omega
theorem LV.row {now nxt:List Nat} {i j:Nat} (h:LV N rm least k now i j nxt lv) (hj:∀ v,now[i]?=some v→(tr N (2*N.arcs.length) v).length≤j):LV N rm least k now (i+1) 0 nxt lv:=by
 refine⟨h.k1,h.len,h.src,h.nil,h.rng,h.zero,h.old,h.new,fun r h1 h2 h3 h4=>?_,h.back,h.cnt⟩
 rcases h4 with h4|h4|⟨_,a,ha,_⟩
 ·exact h.done r h1 h2 h3 (.inl h4)
 ·rw[List.take_add_one] at h4
  rcases List.mem_append.1 h4 with h4|h4
  ·exact h.done r h1 h2 h3 (.inr (.inl h4))
  ·cases hv:now[i]? with
   |none=>rw[hv] at h4;simp at h4
   |some v=>
    rw[hv] at h4
    have e:cU N r=v:=by simpa using h4
    refine h.done r h1 h2 h3 (.inr (.inr ⟨by rw[hv,e],?_⟩))
    have hm:(r:Int)∈tr N (2*N.arcs.length) (cU N r):=by
     refine oI.2 ⟨r,h1,?_,rfl⟩
     unfold cU
     have hfz:0≤(bP N r).1:=by
      by_cases hz:0≤(bP N r).1
      ·exact hz
      ·exfalso
       have:cU N r=0:=by unfold cU;omega
       rw[this,h.nil] at h3
       omega
     omega
    obtain⟨a,ha,hae⟩:=List.mem_iff_getElem.1 hm
    exact⟨a,Nat.lt_of_lt_of_le ha (e▸hj v hv),by rw[List.getElem?_eq_getElem ha,hae]⟩
 ·omega
theorem LV.final {now nxt:List Nat} {i j:Nat} (h:LV N rm least k now i j nxt lv) (hi:now.length≤i):LH N rm least (k+1) nxt lv:=by
 have hk:=h.k1
 refine⟨by omega,h.len,h.src,h.nil,fun v=>?_,h.zero,fun v=>?_,fun r h1 h2 h3 h4=>?_,h.back,?_⟩
 ·rcases h.rng v with e|e
  ·exact .inl e
  ·exact .inr ⟨e.1,by omega⟩
 ·have:=h.new v
  rw[show (((k+1:Nat):Int)-1)=(k:Int) by omega]
  exact this
 ·refine h.done r h1 h2 h3 ?_
  by_cases e:bZ lv (cU N r)<(k:Int)-1
  ·exact .inl e
  ·refine .inr (.inl ?_)
   rw[List.take_of_length_le hi]
   exact (h.old _).1 (by omega)
 ·have:=h.cnt;omega
theorem LV.pass {now nxt:List Nat} {i j r:Nat} (h:LV N rm least k now i j nxt lv) (hr:∃ v,now[i]?=some v∧(tr N (2*N.arcs.length) v)[j]?=some (r:Int)) (hf:rm.getD r 0<least∨bZ lv (d9 N r)≠-1):LV N rm least k now i (j+1) nxt lv:=by
 refine⟨h.k1,h.len,h.src,h.nil,h.rng,h.zero,h.old,h.new,fun q h1 h2 h3 h4=>?_,h.back,h.cnt⟩
 rcases h4 with h4|h4|⟨h4,a,ha,hq⟩
 ·exact h.done q h1 h2 h3 (.inl h4)
 ·exact h.done q h1 h2 h3 (.inr (.inl h4))
 ·by_cases e:a=j
  ·subst e
   obtain⟨v,hv,hvr⟩:=hr
   rw[hv] at h4
   simp only[Option.some.injEq] at h4
   rw[← h4,hvr] at hq
   have e2:r=q:=by
    have e3:(r:Int)=q:=by simpa using hq
    omega
   subst e2
   have hlv:=(h.old v).2 (List.mem_of_getElem? hv)
   rcases hf with hf|hf
   ·omega
   ·rcases h.rng (d9 N r) with e3|e3
    ·exact absurd e3 hf
    ·rw[h4] at hlv;exact⟨e3.1,by omega⟩
  ·exact h.done q h1 h2 h3 (.inr (.inr ⟨h4,a,by omega,hq⟩))
theorem LV.put {now nxt:List Nat} {i j r:Nat} (h:LV N rm least k now i j nxt lv) (hr:∃ v,now[i]?=some v∧cU N r=v∧(tr N (2*N.arcs.length) v)[j]?=some (r:Int)) (hrl:r<2*N.arcs.length) (ht:1≤d9 N r∧d9 N r<lv.length) (hl:least≤rm.getD r 0) (hf:bZ lv (d9 N r)=-1):
 LV N rm least k now i (j+1) (nxt++[d9 N r]) (lv.set (d9 N r) (k:Int)):=by
 obtain⟨v,hv,hfr,hvr⟩:=hr
 obtain⟨t,rfl⟩:∃ t,t=d9 N r:=⟨_,rfl⟩
 have hk:=h.k1
 have hs:∀ u,bZ (lv.set (d9 N r) (k:Int)) u=if d9 N r=u then (k:Int) else bZ lv u:=fun u=>sl ht.2
 have hvl:=(h.old v).2 (List.mem_of_getElem? hv)
 have hne:d9 N r≠v:=fun e=>by rw[e] at hf;omega
 refine⟨h.k1,by rw[List.length_set];exact h.len,?_,?_,fun u=>?_,fun u hu=>?_,fun u=>?_,fun u=>?_,fun q h1 h2 h3 h4=>?_,fun u hu=>?_,?_⟩
 ·rw[hs,if_neg (fun e=>by rw[e,h.src] at hf;omega)];exact h.src
 ·rw[hs,if_neg (by omega)];exact h.nil
 ·rw[hs];split
  ·exact .inr ⟨by omega,by omega⟩
  ·exact h.rng u
 ·rw[hs] at hu;split at hu
  ·omega
  ·exact h.zero u hu
 ·rw[hs];split
  ·rename_i e
   subst e
   constructor
   ·intro e;omega
   ·intro e;have:=(h.old _).2 e;omega
  ·exact h.old u
 ·rw[hs,List.mem_append,List.mem_singleton];split
  ·rename_i e;exact⟨fun _=>.inr e.symm,fun _=>rfl⟩
  ·rename_i e
   rw[h.new u]
   exact⟨.inl,fun hh=>hh.resolve_right fun e2=>e e2.symm⟩
 ·rw[hs] at h3 h4 ⊢
  have key:d9 N r≠cU N q:=by
   intro e
   rw[if_pos e] at h4
   rcases h4 with h4|h4|⟨h4,_⟩
   ·omega
   ·have:=(h.old _).2 (List.mem_of_mem_take h4)
    rw[← e] at this;omega
   ·rw[hv] at h4
    simp only[Option.some.injEq] at h4
    exact hne (e.trans h4.symm)
  rw[if_neg key] at h3 h4
  have hfq:bZ (lv.set (d9 N r) (k:Int)) (cU N q)=bZ lv (cU N q):=by rw[hs,if_neg key]
  rw[hfq]
  have hle:bZ lv (cU N q)≤k∧(∀ (_:cU N q=v),bZ lv (cU N q)=k-1):=by
   constructor
   ·rcases h.rng (cU N q) with e|e<;>omega
   ·intro e;rw[e];exact hvl
  by_cases e:d9 N r=d9 N q
  ·rw[if_pos e]
   refine⟨by omega,?_⟩
   rcases h4 with h4|h4|⟨h4,_⟩
   ·have:=h.done q h1 h2 h3 (.inl h4)
    rw[← e,hf] at this;omega
   ·have:=(h.old _).2 (List.mem_of_mem_take h4)
    omega
   ·rw[hv] at h4
    simp only[Option.some.injEq] at h4
    have:=hle.2 h4.symm
    omega
  ·rw[if_neg e]
   rcases h4 with h4|h4|⟨h4,a,ha,hq⟩
   ·exact h.done q h1 h2 h3 (.inl h4)
   ·exact h.done q h1 h2 h3 (.inr (.inl h4))
   ·by_cases ea:a=j
    ·subst ea
     rw[hv] at h4
     simp only[Option.some.injEq] at h4
     rw[← h4,hvr] at hq
     have e2:r=q:=by
      have e3:(r:Int)=q:=by simpa using hq
      omega
     exact absurd (by rw[e2]) e
    ·exact h.done q h1 h2 h3 (.inr (.inr ⟨h4,a,by omega,hq⟩))
 ·rw[hs] at hu
  by_cases e:d9 N r=u
  ·refine⟨r,hrl,hl,e,?_⟩
   rw[hs,hs,if_pos e,if_neg (fun e2=>hne (e2.trans hfr)),hfr,hvl]
  ·rw[if_neg e] at hu
   obtain⟨q,g1,g2,g3,g4⟩:=h.back u hu
   refine⟨q,g1,g2,g3,?_⟩
   rw[hs,hs,if_neg e,if_neg,g4]
   intro e2
   rw[← e2,hf] at g4
   omega
 ·have:=h.cnt
  have hc:=e9 lv (d9 N r) (k:Int) (by rw[iV ht.2,hf]) (by omega)
  rw[List.length_append,List.length_singleton];omega
theorem LH.lev (hR:N.Right) (h:LH N rm least k [] lv):dr N rm least lv:=by
 have hk:=h.k1
 have hnn:=hR.nodes
 have hc:1≤lv.count (-1):=by
  have h0:(-1:Int)∈lv:=by
   have:=iV (lv:=lv) (v:=0) (by rw[h.len];omega)
   rw[h.nil] at this
   exact List.mem_of_getElem? this
  exact List.one_le_count_iff.2 h0
 have hcnt:=h.cnt
 have hf:∀ v,bZ lv v≠(k:Int)-1:=fun v e=>by have:=(h.front v).1 e;simp at this
 refine⟨h.len,h.src,h.nil,fun v=>?_,h.zero,fun r h1 h2 h3=>?_,h.back⟩
 ·have:=hf v
  simp only[List.length_nil] at hcnt
  rcases h.rng v with e|e<;>omega
 ·refine h.done r h1 h2 h3 ?_
  have:=hf (cU N r)
  rcases h.rng (cU N r) with e|e<;>omega
end
def bJ (N:a8) (rm:List Int) (least:Int) (lv:List Int) (k:Nat):List Nat:=(List.range k).filter fun r=>decide (least≤rm.getD r 0∧bZ lv (cU N r)≠-1∧bZ lv (d9 N r)=bZ lv (cU N r)+1)
def dz (N:a8) (ls:List Nat) (v:Nat):List Nat:=ls.filter fun r=>decide (cU N r=v)
theorem dw {N:a8} {rm:List Int} {least:Int} {lv:List Int} {k r:Nat}:r∈bJ N rm least lv k↔r<k∧least≤rm.getD r 0∧bZ lv (cU N r)≠-1∧bZ lv (d9 N r)=bZ lv (cU N r)+1:=by
 unfold bJ;rw[List.mem_filter,List.mem_range,decide_eq_true_eq]
theorem eI {N:a8} {ls:List Nat} {v r:Nat}:r∈dz N ls v↔r∈ls∧cU N r=v:=by
 unfold dz;rw[List.mem_filter,decide_eq_true_eq]
theorem fE {N:a8} {rm:List Int} {least:Int} {lv:List Int} (h:dr N rm least lv):dN N (dz N (bJ N rm least lv (2*N.arcs.length))) (bZ lv):=by
 refine⟨fun v r hr=>?_,h.rng⟩
 obtain⟨h1,h2⟩:=eI.1 hr
 obtain⟨h3,_,_,h6⟩:=dw.1 h1
 exact⟨h3,h2,by rw[h6,h2]⟩
theorem v5 {N:a8} {rm:List Int} {least:Int} {lv:List Int} (h:dr N rm least lv):∀ (k v:Nat),bZ lv v=k→LP N (dz N (bJ N rm least lv (2*N.arcs.length))) least rm v
 |0,v,hv=>by rw[h.zero v (by simpa using hv)];exact .src
 |k+1,v,hv=>by
  obtain⟨r,h1,h2,h3,h4⟩:=h.back v (by omega)
  have ih:=v5 h k (cU N r) (by omega)
  rw[← h3]
  exact .step ih (eI.2 ⟨dw.2 ⟨h1,h2,by omega,by rw[h3];omega⟩,rfl⟩) h2
theorem xj {N:a8} {rm:List Int} {least:Int} {lv:List Int} (h:dr N rm least lv) (hl:rm.length=2*N.arcs.length):∀ {v:Int},nv N rm least v→0≤bZ lv v.toNat:=by
 intro v hv
 induction hv with
 |src=>rw[h.src];omega
 |step u r _ h1 h2 h3 ih=>
  have:=h.step r (by omega) h3 (by unfold cU;rw[h2];exact ih)
  exact this.1
end Go.Proofs.YtpbmihpjgjbndaaGreatDoor
