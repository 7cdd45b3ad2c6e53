/- The engine and the words that all chapters share: several texts in one. -/
import Derived.Test.YtpbmihpjgjbndaaGreatDoorRightN
import Derived.Test.YtpbmihpjgjbndaaGreatDoorQF
import Derived.Test.YtpbmihpjgjbndaaGreatDoorQX4
import Derived.Test.YtpbmihpjgjbndaaGreatDoorQX41
import Derived.Test.YtpbmihpjgjbndaaGreatDoorQX20
/- Covers: nodes that meet all edges. -/
set_option linter.unusedVariables false
set_option linter.unusedSimpArgs false
namespace Go.Proofs.YtpbmihpjgjbndaaGreatDoor
open Go.RowKit
structure eP (m:Int) (l:List Int):Prop where
 rise:l.Pairwise (·<·)
 rng:∀ x∈l,1≤x∧x≤m
theorem eP.snoc {m:Int} {l:List Int} {x:Int}:eP m (l++[x])↔eP m l∧(∀ y∈l,y<x)∧1≤x∧x≤m:=by
 constructor
 ·intro h
  obtain⟨h1,_,h3⟩:=List.pairwise_append.1 h.rise
  have hx:=h.rng x (by simp)
  exact⟨⟨h1,fun y hy=>h.rng y (by simp[hy])⟩,fun y hy=>h3 y hy x (by simp),hx.1,hx.2⟩
 ·rintro⟨h,h1,h2,h3⟩
  refine⟨qx h.rise h1,fun y hy=>?_⟩
  rcases List.mem_append.1 hy with hy|hy
  ·exact h.rng y hy
  ·rw[List.mem_singleton.1 hy];exact⟨h2,h3⟩
end Go.Proofs.YtpbmihpjgjbndaaGreatDoor
/- Any nodes as a cut of a right network: what is wrong with them; and whether any flow and any nodes prove one another. -/
set_option linter.unusedVariables false
set_option linter.unusedSimpArgs false
namespace Go.Proofs.YtpbmihpjgjbndaaGreatDoor
open Go.RowKit
open Classical in
noncomputable def ny (N:a8) (s:List Int):Int:=if ¬ eP N.nodes s then 1 else if N.src∈s∧N.snk∉s then 0 else 9
theorem ld {N:a8} {s:List Int} (h:¬ eP N.nodes s):ny N s=1:=by unfold ny;rw[if_pos h]
theorem lD {N:a8} {s:List Int} (h:eP N.nodes s) (k:¬ (N.src∈s∧N.snk∉s)):ny N s=9:=by unfold ny;rw[if_neg (fun n=>n h),if_neg k]
theorem oC {N:a8} {s:List Int}:ny N s=0↔eq N s:=by
 constructor
 ·intro h
  by_cases h1:eP N.nodes s
  ·by_cases h2:N.src∈s∧N.snk∉s
   ·exact⟨h1.rise,h1.rng,h2.1,h2.2⟩
   ·rw[lD h1 h2] at h;exact absurd h (by decide)
  ·rw[ld h1] at h;exact absurd h (by decide)
 ·intro h
  unfold ny
  rw[if_neg (fun n=>n ⟨h.rise,h.rng⟩),if_pos ⟨h.src,h.snk⟩]
theorem pC {m:Int} {l r:List Int} {x:Int} (h:eP m (l++x::r)):(l.getLast?.getD 0)<x∧x≤m:=by
 have hx:=h.rng x (by simp)
 refine⟨?_,hx.2⟩
 cases hl:l.getLast? with
 |none=>show (0:Int)<x;omega
 |some y=>exact (List.pairwise_append.1 h.rise).2.2 y (List.mem_of_getLast? hl) x (by simp)
theorem wb {m:Int} {l:List Int} (h:eP m l):∀ y∈l,y≤l.getLast?.getD 0:=by
 intro y hy
 rcases List.eq_nil_or_concat l with rfl|⟨q,z,rfl⟩
 ·exact absurd hy List.not_mem_nil
 ·rw[List.concat_eq_append] at*
  rw[List.getLast?_append]
  show y≤z
  rcases List.mem_append.1 hy with hy|hy
  ·have:=(List.pairwise_append.1 h.rise).2.2 y hy z (by simp);omega
  ·rw[List.mem_singleton.1 hy];omega
set_option maxHeartbeats 1000000 in
theorem qI (N:a8) (hN:N.Fits) (hR:N.Right) (A:Option Addr) (c b o:Nat) (hA:N.arcs≠[]→A=some ⟨b,o,none⟩) (s:List Int) (hs:¬ eq N s) (hsl:s.length≤100000) (S:Option Addr) (cs bs os:Nat) (hS:s≠[]→S=some ⟨bs,os,none⟩):
 Fn 85 [bu N A c,.slice S s.length cs] [] [.seg b o (arcs N.arcs),.seg bs os (ap s)] fun v H'=>v=.tuple #[.slice none 0 0,.int .i64 (ny N s)]∧H'=[]:=by
 have hl2:=hR.len
 have hnn:=hR.nodes
 refine aS Tryz.func85 rfl rfl fun w0=>?_
 refine ad (aa ?_)
 refine bw (cs:=bG N A c) rfl rfl rfl (fun _=>rfl) fun p=>?_
 refine ae [] rfl ?_
 refine ad (ad (aa ?_))
 refine ab [] (v:=bu N A c) (af 0 rfl rfl rfl rfl) rfl ?_
 refine ax [] (kv N hN A c b o hA) rfl rfl rfl rfl (by kernel_rfl) ⟨⟨1,_,by simp,rfl,aq _ _ _,ay⟩,trivial⟩ (fun _=>rfl) ?_
 rintro v H' ⟨rfl,rfl⟩
 refine⟨rfl,?_⟩
 rw[hR.check]
 refine ae [] rfl ?_
 refine ad (aa (ae [] rfl ?_))
 refine aC rfl (fun h=>absurd rfl h) (fun _=>av ?_)
 refine ad (aa ?_)
 refine mT rfl (fun _=>rfl) fun bm=>?_
 refine ae [] rfl ?_
 refine ad (aa (ae [] rfl ?_))
 refine ad (ad (aa (ae [] rfl ?_)))
 refine au ?_
 refine bq (σ:=Nat) (fun k=>[(22,.int .i64 k),(21,.int .i64 s.length),(20,.slice S s.length cs),(8,.int .i64 ((s.take k).getLast?.getD 0)),(7,.map (some bm)),(2,.pointer (some ⟨p,0,none⟩))])
  (fun k=>[.obj bm (fP (lQ (s.take k))),blk p 27 (bG N A c),.seg b o (arcs N.arcs),.seg bs os (ap s)]) (fun k=>k≤s.length∧eP N.nodes (s.take k)) (fun k=>s.length-k)
  0 [0,1,2,3] ⟨rfl,rfl,rfl,rfl,rfl,rfl,trivial⟩ (by decide) rfl ⟨Nat.zero_le _,⟨by simp,by simp⟩⟩ ?_
 rintro k ⟨hk,hI⟩
 refine ad (aa (ae [] rfl ?_))
 refine ad (aC rfl (fun hlt=>av ?_) (fun hge=>aV ?_))
 ·have hlt:k<s.length:=by omega
  obtain rfl:=hS (by rintro rfl;simp at hlt)
  obtain⟨x,hx⟩:∃ x,s[k]?=some x:=⟨s[k],List.getElem?_eq_getElem hlt⟩
  have hsx:s=s.take k++x::s.drop (k+1):=by
   have:s.drop k=x::s.drop (k+1):=by rw[List.drop_eq_getElem_cons hlt];rw[(List.getElem?_eq_some_iff.1 hx).2]
   rw[← this,List.take_append_drop]
  have htk:s.take (k+1)=s.take k++[x]:=by rw[List.take_add_one,hx];rfl
  refine ad (au ?_)
  refine ad (aa (ah [] rfl ?_))
  refine ab [] (f9 rfl rfl rfl rfl rfl hlt) rfl ?_
  refine ab [] (bz 3 rfl rfl rfl rfl (df hx)) rfl ?_
  refine ae [] rfl ?_
  refine ad (ad (aa (ah [] rfl ?_)))
  by_cases h1:x≤(s.take k).getLast?.getD 0
  ·refine aw 29 (v':=.bool true) rfl (congrArg Value.bool (az h1)) ?_
   refine ah [3] rfl ?_
   refine ai ?_
   refine bo rfl ?_
   refine ad (aa (ae [] rfl ?_))
   refine aE [] (by decide) rfl (aB ⟨_,rfl,?_,rfl⟩)
   rw[ld (fun h=>by rw[hsx] at h;have:=(pC h).1;omega)];rfl
  refine aw 29 (v':=.bool false) rfl (congrArg Value.bool (aA h1)) ?_
  refine ah [3] rfl ?_
  refine ab [3] (af 1 rfl rfl rfl rfl) rfl ?_
  refine ae [3] rfl ?_
  refine aC rfl (fun h=>?_) (fun h=>av ?_)
  ·refine ad (aa (ae [] rfl ?_))
   refine aE [] (by decide) rfl (aB ⟨_,rfl,?_,rfl⟩)
   rw[ld (fun h'=>by rw[hsx] at h';have:=(pC h').2;omega)];rfl
  have hless:∀ y∈s.take k,y<x:=fun y hy=>by have:=wb hI y hy;omega
  have hnew:eP N.nodes (s.take (k+1)):=by
   rw[htk,eP.snoc]
   have h0:0≤(s.take k).getLast?.getD 0:=by
    cases hl:(s.take k).getLast? with
    |none=>exact Int.le_refl _
    |some y=>have:=hI.rng y (List.mem_of_getLast? hl);show 0≤y;omega
   exact⟨hI,hless,by omega,by omega⟩
  refine aa (ah [] rfl ?_)
  refine mK 0 Tryz.underlying191 Tryz.underlying3 rfl rfl rfl rfl rfl (fun q hq=>?_) [] rfl ?_
  ·obtain⟨y,hy,rfl⟩:=List.mem_map.1 hq
   have:=hless y hy
   show y≠x
   omega
  refine ae [] rfl ?_
  refine aa (ae [] rfl ?_)
  refine⟨k+1,[0,1,2,3],⟨?_,rfl,rfl,?_,rfl,rfl,trivial⟩,by decide,?_,⟨by omega,hnew⟩,by omega⟩
  ·show some (Value.int .i64 (IntKind.i64.wrap ((k:Int)+1)))=_
   rw[bU (by omega)];rfl
  ·rw[htk,List.getLast?_append];rfl
  ·rw[htk];unfold lQ;rw[List.map_append];rfl
 ·have hk':k=s.length:=by omega
  subst hk'
  rw[List.take_length] at hI ⊢
  have hbad:¬ (N.src∈s∧N.snk∉s):=fun h=>hs ⟨hI.rise,hI.rng,h.1,h.2⟩
  refine ad (ad (aa (ah [] rfl ?_)))
  refine ab [] (af 1 rfl rfl rfl rfl) rfl ?_
  refine ab [] (dV 0 Tryz.underlying191 Tryz.underlying3 rfl rfl rfl rfl rfl) rfl ?_
  by_cases h1:N.src∈s
  ·refine aw 42 (v':=.bool true) rfl (by rw[c9,az h1]) ?_
   refine ah [] rfl ?_
   refine aw 44 (v':=.bool false) rfl rfl ?_
   refine ah [5] rfl ?_
   refine ab [5] (af 1 rfl rfl rfl rfl) rfl ?_
   refine ab [5] (dV 0 Tryz.underlying191 Tryz.underlying3 rfl rfl rfl rfl rfl) rfl ?_
   refine aw 48 (v':=.bool true) rfl (by rw[c9,az (Classical.not_not.1 fun h=>hbad ⟨h1,h⟩)]) ?_
   refine ae [5] rfl ?_
   refine bo rfl ?_
   refine ad (aa (ae [] rfl ?_))
   refine aE [] (by decide) rfl (aB ⟨_,rfl,?_,rfl⟩)
   rw[lD hI hbad];rfl
  ·refine aw 42 (v':=.bool false) rfl (by rw[c9,aA h1]) ?_
   refine ah [] rfl ?_
   refine aw 44 (v':=.bool true) rfl rfl ?_
   refine ah [5] rfl ?_
   refine ai ?_
   refine bo rfl ?_
   refine ad (aa (ae [] rfl ?_))
   refine aE [] (by decide) rfl (aB ⟨_,rfl,?_,rfl⟩)
   rw[lD hI hbad];rfl
open Classical in
noncomputable def w6 (N:a8) (s:List Int):Int×Int:=if eq N s then (ec s N.arcs,0) else (0,ny N s)
theorem pj (N:a8) (hN:N.Fits) (hR:N.Right) (A:Option Addr) (c b o:Nat) (hA:N.arcs≠[]→A=some ⟨b,o,none⟩) (s:List Int) (hsl:s.length≤100000) (S:Option Addr) (cs bs os:Nat) (hS:s≠[]→S=some ⟨bs,os,none⟩):
 Fn 51 [bu N A c,.slice S s.length cs] [] [.seg b o (arcs N.arcs),.seg bs os (ap s)] fun v H'=>v=sJ (w6 N s)∧H'=[]:=by
 by_cases hs:eq N s
 ·unfold w6;rw[if_pos hs];exact pS N hN hR A c b o hA s hs hsl S cs bs os hS
 unfold w6
 rw[if_neg hs]
 refine aS Tryz.func51 rfl rfl fun w0=>?_
 refine ad (aa ?_)
 refine bw (cs:=bG N A c) rfl rfl rfl (fun _=>rfl) fun p=>?_
 refine ae [] rfl ?_
 refine ad (aa ?_)
 refine ab [] (v:=bu N A c) (af 0 rfl rfl rfl rfl) rfl ?_
 refine ah [] rfl ?_
 refine ax [] (qI N hN hR A c b o hA s hs hsl S cs bs os hS) rfl rfl rfl rfl (by kernel_rfl) ⟨⟨1,_,by simp,rfl,aq _ _ _,ay⟩,⟨2,_,by simp,rfl,aq _ _ _,ay⟩,trivial⟩ (fun _=>rfl) ?_
 rintro v H' ⟨rfl,rfl⟩
 refine⟨rfl,?_⟩
 refine ae [] rfl ?_
 refine ad (aa (ae [] rfl ?_))
 refine ad (ad (aa (ae [] rfl ?_)))
 refine au ?_
 refine bq (σ:=Unit) (fun _=>[(19,.int .i64 0),(18,.int .i64 0),(8,.int .i64 0),(7,.int .i64 (ny N s))]) (fun _=>[]) (fun _=>True) (fun _=>0) () [] ⟨rfl,rfl,rfl,rfl,trivial⟩ (by decide) rfl trivial ?_
 intro _ _
 refine ad (aa (ae [] rfl ?_))
 refine ad (aC rfl (fun hlt=>absurd hlt (by decide)) (fun hge=>aV ?_))
 refine ad (aa (ae [] rfl ?_))
 exact aE [] (by decide) rfl (aB ⟨_,rfl,rfl,rfl⟩)
end Go.Proofs.YtpbmihpjgjbndaaGreatDoor
/- Reports: how a flow and a cut are printed. -/
set_option linter.unusedVariables false
set_option linter.unusedSimpArgs false
namespace Go.Proofs.YtpbmihpjgjbndaaGreatDoor
open Go.RowKit
open Lib
def dJ (w:List UInt8) (l:List Int):List UInt8:=nu w l++[10]
theorem u9 (w:List UInt8) (l:List Int):dJ w l≠[]:=by unfold dJ;simp
theorem rT:sB 102:=by unfold sB;kernel_rfl
set_option maxHeartbeats 1000000 in
theorem gT (V:f8) (b:Nat) (p:Value) (hp:zC b p) (A:Option Addr) (c:Nat) (m:List UInt8) (w:List UInt8) (hw:w.length≤100) (l:List Int) (hl:∀ n∈l,bN n) (hll:l.length≤100000) (hm:m.length≤50000000) (B:Option Addr) (n cb bb ob:Nat) (hB:l≠[]→B=some ⟨bb,ob,none⟩) (hn:n=l.length):
 Fn 52 [.pointer (some ⟨b,0,none⟩),dy w,.slice B n cb] (aR (jV 102 b p A c m)) (([.seg bb ob (ap l)]++V.heap)++jV 102 b p A c m) fun _ H'=>∃ (A':Option Addr) (c':Nat),H'=jV 102 b (.pointer (some ⟨b,0,none⟩)) A' c' (m++dJ w l):=by
 subst hn
 have hwl:=l6 w l hl
 generalize hM:aR _=M
 refine aS Tryz.func52 rfl rfl fun w0=>?_
 refine ad (aa (ah [] rfl ?_))
 refine bK rfl rfl rfl rfl rfl rfl rfl (fun _=>rfl) fun g0=>?_
 refine mn 1 1 (by rfl) (by decide) ?_
 refine ae [] rfl ?_
 refine ad (ad (aa (ae [] rfl ?_)))
 refine au ?_
 refine bq (σ:=Nat×Option Addr×Nat) (fun s=>[(13,.int .i64 s.1),(12,.int .i64 l.length),(11,.slice B l.length cb),(6,.slice s.2.1 (w::(l.take s.1).map itoa).length s.2.2),(0,.pointer (some ⟨b,0,none⟩))])
  (fun s=>.own (.slice s.2.1 (w::(l.take s.1).map itoa).length s.2.2) 9 1 (w::(l.take s.1).map itoa).length (dC (w::(l.take s.1).map itoa))::(([.seg bb ob (ap l)]++V.heap)++jV 102 b p A c m))
  (fun s=>s.1≤l.length) (fun s=>l.length-s.1) (0,some ⟨g0,0,none⟩,1) [0,1,2,3,4,5,6] ⟨rfl,rfl,rfl,rfl,rfl,trivial⟩ (by decide) rfl (Nat.zero_le _) ?_
 rintro⟨k,A2,c2⟩ hk
 simp only at hk ⊢
 refine ad (aa (ae [] rfl ?_))
 refine ad (aC rfl (fun hlt=>av ?_) (fun hge=>aV ?_))
 ·have hlt':k<l.length:=by omega
  obtain⟨x,hx⟩:∃ x,l[k]?=some x:=⟨l[k],List.getElem?_eq_getElem hlt'⟩
  obtain rfl:=hB (by rintro rfl;simp at hlt')
  have hxB:=hl x (List.mem_of_getElem? hx)
  have hlen:(w::(l.take k).map itoa).length=k+1:=by rw[List.length_cons,List.length_map,List.length_take];omega
  refine ad (au ?_)
  refine ad (aa (ah [] rfl ?_))
  refine ab [] (f9 rfl rfl rfl rfl rfl hlt') rfl ?_
  refine ab [] (bz 1 rfl rfl rfl rfl (a9 hx)) rfl ?_
  refine ae [] rfl ?_
  refine aa (ah [] rfl ?_)
  refine ax [] (vj V x hxB) rfl rfl rfl rfl (by kernel_rfl) ⟨⟨2,by simp,rfl⟩,⟨3,by simp,rfl⟩,⟨4,by simp,rfl⟩,trivial⟩ (fun _=>rfl) ?_
  rintro v H' ⟨rfl,rfl⟩
  refine⟨rfl,?_⟩
  refine bK rfl rfl rfl rfl rfl rfl rfl (fun _=>rfl) fun g2=>?_
  refine be (n:=(w::(l.take k).map itoa).length) (m:=1) (off:=0) (news:=dC [itoa x]) 1 0 rfl rfl rfl rfl rfl rfl (by decide) rfl rfl (aL g2 _ _ (0,0)) (fun _=>rfl) rfl rfl (by omega) (by omega) (fun _ _=>rfl) fun A3 c3=>?_
  refine ae [] rfl ?_
  refine aa (ae [] rfl ?_)
  have htk:w::(l.take (k+1)).map itoa=(w::(l.take k).map itoa)++[itoa x]:=by rw[List.take_add_one,hx];simp
  refine⟨(k+1,A3,c3),[1,2,3,4,5,6,7],⟨?_,rfl,rfl,?_,rfl,trivial⟩,by decide,?_,by simp only;omega,by simp only;omega⟩
  ·show some (Value.int .i64 (IntKind.i64.wrap ((k:Int)+1)))=_
   rw[bU (by omega)];rfl
  ·simp only[htk];rw[List.length_append];rfl
  ·simp only[htk];rw[List.length_append,show dC ((w::(l.take k).map itoa)++[itoa x])=dC (w::(l.take k).map itoa)++dC [itoa x] by simp[dC]];rfl
 obtain rfl:k=l.length:=by omega
 refine bO (bh 0 rfl) (fun ho=>?_)
 obtain⟨g,rfl⟩:=ho.2.2.1 (by simp)
 rw[List.take_length] at*
 refine bp 7 [(0,true),(1,true),(2,true),(3,true),(4,false),(5,true),(6,false)] [] (by kernel_rfl) (by decide) rfl ?_
 refine aF [] rfl ?_
 refine a6 rfl ?_
 refine ax [] (wk (some ⟨g,0,none⟩) _ c2 g 0 (w::l.map itoa) rfl (fun _=>rfl) ho.2.1 (by show (nu w l).length≤_;omega) (by simp;omega)) rfl rfl rfl rfl (by kernel_rfl) ⟨⟨0,_,by simp,rfl,bX,.inr rfl⟩,trivial⟩ (fun _=>rfl) ?_
 rintro v H' ⟨rfl,rfl⟩
 refine⟨rfl,?_⟩
 refine ai ⟨⟨[],by decide,rfl⟩,?_⟩
 refine aj [] rfl (ka (l:=nu w l) (m:=[10]) rfl rfl rfl (by simp;omega)) rfl ?_
 refine a6 rfl ?_
 refine ao (fst:=[]) (cap:=[]) [] (vN 102 b p rT hp A c m (nu w l++[10]) (by simp;omega)) rfl rfl rfl rfl (by kernel_rfl) (K:=[]) (aK.picks [5,6] (by decide) rfl) trivial (fun _=>rfl) ?_
 rintro v H' ⟨A',c',rfl⟩
 refine⟨rfl,?_⟩
 refine ai ⟨⟨[],by decide,rfl⟩,?_⟩
 refine bv ?_
 refine ai ?_
 exact⟨_,rfl,A',c',rfl⟩
end Go.Proofs.YtpbmihpjgjbndaaGreatDoor
