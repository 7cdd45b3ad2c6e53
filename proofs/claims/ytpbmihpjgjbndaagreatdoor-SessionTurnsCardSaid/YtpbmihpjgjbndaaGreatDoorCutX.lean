/- Any nodes as a cut of a right network: what is wrong with them; and whether any flow and any nodes prove one another. -/
import Derived.Test.YtpbmihpjgjbndaaGreatDoorQX32
set_option linter.unusedVariables false
set_option linter.unusedSimpArgs false
namespace Go.Proofs.YtpbmihpjgjbndaaGreatDoor
open Go.RowKit
open Classical in
noncomputable def nu (N:bc) (s:List Int):Int:=if ¬ fy N.nodes s then 1 else if N.src∈s∧N.snk∉s then 0 else 9
theorem lh {N:bc} {s:List Int} (h:¬ fy N.nodes s):nu N s=1:=by unfold nu;rw[if_pos h]
theorem ld {N:bc} {s:List Int} (h:fy N.nodes s) (k:¬ (N.src∈s∧N.snk∉s)):nu N s=9:=by unfold nu;rw[if_neg (fun n=>n h),if_neg k]
theorem tv {N:bc} {s:List Int}:nu N s=0↔eP N s:=by
 constructor
 ·intro h
  by_cases h1:fy N.nodes s
  ·by_cases h2:N.src∈s∧N.snk∉s
   ·exact⟨h1.rise,h1.rng,h2.1,h2.2⟩
   ·rw[ld h1 h2] at h;exact absurd h (by decide)
  ·rw[lh h1] at h;exact absurd h (by decide)
 ·intro h
  unfold nu
  rw[if_neg (fun n=>n ⟨h.rise,h.rng⟩),if_pos ⟨h.src,h.snk⟩]
theorem qF {m:Int} {l r:List Int} {x:Int} (h:fy m (l++x::r)):(l.getLast?.getD 0)<x∧x≤m:=by
 have hx:=h.rng x (by simp)
 refine⟨?_,hx.2⟩
 cases hl:l.getLast? with
 |none=>show (0:Int)<x;omega
 |some y=>exact (List.pairwise_append.1 h.rise).2.2 y (List.mem_of_getLast? hl) x (by simp)
theorem vS {m:Int} {l:List Int} (h:fy m l):∀ y∈l,y≤l.getLast?.getD 0:=by
 intro y hy
 rcases List.eq_nil_or_concat l with rfl|⟨q,z,rfl⟩
 ·exact absurd hy List.not_mem_nil
 ·rw[List.concat_eq_append] at*
  rw[List.getLast?_append]
  show y≤z
  rcases List.mem_append.1 hy with hy|hy
  ·have:=(List.pairwise_append.1 h.rise).2.2 y hy z (by simp);omega
  ·rw[List.mem_singleton.1 hy];omega
set_option maxHeartbeats 1000000 in
theorem pZ (N:bc) (hN:N.Fits) (hR:N.Right) (A:Option Addr) (c b o:Nat) (hA:N.arcs≠[]→A=some ⟨b,o,none⟩) (s:List Int) (hs:¬ eP N s) (hsl:s.length≤100000) (S:Option Addr) (cs bs os:Nat) (hS:s≠[]→S=some ⟨bs,os,none⟩):
 Fn 85 [bn N A c,.slice S s.length cs] [] [.seg b o (arcs N.arcs),.seg bs os (az s)] fun v H'=>v=.tuple #[.slice none 0 0,.int .i64 (nu N s)]∧H'=[]:=by
 have hl2:=hR.len
 have hnn:=hR.nodes
 refine aK Tryz.func85 rfl rfl fun w0=>?_
 refine ad (aa ?_)
 refine br (cs:=bQ N A c) rfl rfl rfl (fun _=>rfl) fun p=>?_
 refine ae [] rfl ?_
 refine ad (ad (aa ?_))
 refine ab [] (v:=bn N A c) (af 0 rfl rfl rfl rfl) rfl ?_
 refine ap [] (iP N hN A c b o hA) rfl rfl rfl rfl (by kernel_rfl) ⟨⟨1,_,by simp,rfl,am _ _ _,aw⟩,trivial⟩ (fun _=>rfl) ?_
 rintro v H' ⟨rfl,rfl⟩
 refine⟨rfl,?_⟩
 rw[hR.check]
 refine ae [] rfl ?_
 refine ad (aa (ae [] rfl ?_))
 refine aD rfl (fun h=>absurd rfl h) (fun _=>aq ?_)
 refine ad (aa ?_)
 refine mv rfl (fun _=>rfl) fun bm=>?_
 refine ae [] rfl ?_
 refine ad (aa (ae [] rfl ?_))
 refine ad (ad (aa (ae [] rfl ?_)))
 refine ax ?_
 refine bN (σ:=Nat) (fun k=>[(22,.int .i64 k),(21,.int .i64 s.length),(20,.slice S s.length cs),(8,.int .i64 ((s.take k).getLast?.getD 0)),(7,.map (some bm)),(2,.pointer (some ⟨p,0,none⟩))])
  (fun k=>[.obj bm (fU (lP (s.take k))),blk p 27 (bQ N A c),.seg b o (arcs N.arcs),.seg bs os (az s)]) (fun k=>k≤s.length∧fy N.nodes (s.take k)) (fun k=>s.length-k)
  0 [0,1,2,3] ⟨rfl,rfl,rfl,rfl,rfl,rfl,trivial⟩ (by decide) rfl ⟨Nat.zero_le _,⟨by simp,by simp⟩⟩ ?_
 rintro k ⟨hk,hI⟩
 refine ad (aa (ae [] rfl ?_))
 refine ad (aD rfl (fun hlt=>aq ?_) (fun hge=>a6 ?_))
 ·have hlt:k<s.length:=by omega
  obtain rfl:=hS (by rintro rfl;simp at hlt)
  obtain⟨x,hx⟩:∃ x,s[k]?=some x:=⟨s[k],List.getElem?_eq_getElem hlt⟩
  have hsx:s=s.take k++x::s.drop (k+1):=by
   have:s.drop k=x::s.drop (k+1):=by rw[List.drop_eq_getElem_cons hlt];rw[(List.getElem?_eq_some_iff.1 hx).2]
   rw[← this,List.take_append_drop]
  have htk:s.take (k+1)=s.take k++[x]:=by rw[List.take_add_one,hx];rfl
  refine ad (ax ?_)
  refine ad (aa (ah [] rfl ?_))
  refine ab [] (dD rfl rfl rfl rfl rfl hlt) rfl ?_
  refine ab [] (bw 3 rfl rfl rfl rfl (bh hx)) rfl ?_
  refine ae [] rfl ?_
  refine ad (ad (aa (ah [] rfl ?_)))
  by_cases h1:x≤(s.take k).getLast?.getD 0
  ·refine av 29 (v':=.bool true) rfl (congrArg Value.bool (aA h1)) ?_
   refine ah [3] rfl ?_
   refine ai ?_
   refine a8 rfl ?_
   refine ad (aa (ae [] rfl ?_))
   refine aC [] (by decide) rfl (ay ⟨_,rfl,?_,rfl⟩)
   rw[lh (fun h=>by rw[hsx] at h;have:=(qF h).1;omega)];rfl
  refine av 29 (v':=.bool false) rfl (congrArg Value.bool (aB h1)) ?_
  refine ah [3] rfl ?_
  refine ab [3] (af 1 rfl rfl rfl rfl) rfl ?_
  refine ae [3] rfl ?_
  refine aD rfl (fun h=>?_) (fun h=>aq ?_)
  ·refine ad (aa (ae [] rfl ?_))
   refine aC [] (by decide) rfl (ay ⟨_,rfl,?_,rfl⟩)
   rw[lh (fun h'=>by rw[hsx] at h';have:=(qF h').2;omega)];rfl
  have hless:∀ y∈s.take k,y<x:=fun y hy=>by have:=vS hI y hy;omega
  have hnew:fy N.nodes (s.take (k+1)):=by
   rw[htk,fy.snoc]
   have h0:0≤(s.take k).getLast?.getD 0:=by
    cases hl:(s.take k).getLast? with
    |none=>exact Int.le_refl _
    |some y=>have:=hI.rng y (List.mem_of_getLast? hl);show 0≤y;omega
   exact⟨hI,hless,by omega,by omega⟩
  refine aa (ah [] rfl ?_)
  refine mT 0 Tryz.underlying191 Tryz.underlying3 rfl rfl rfl rfl rfl (fun q hq=>?_) [] rfl ?_
  ·obtain⟨y,hy,rfl⟩:=List.mem_map.1 hq
   have:=hless y hy
   show y≠x
   omega
  refine ae [] rfl ?_
  refine aa (ae [] rfl ?_)
  refine⟨k+1,[0,1,2,3],⟨?_,rfl,rfl,?_,rfl,rfl,trivial⟩,by decide,?_,⟨by omega,hnew⟩,by omega⟩
  ·show some (Value.int .i64 (IntKind.i64.wrap ((k:Int)+1)))=_
   rw[cj (by omega)];rfl
  ·rw[htk,List.getLast?_append];rfl
  ·rw[htk];unfold lP;rw[List.map_append];rfl
 ·have hk':k=s.length:=by omega
  subst hk'
  rw[List.take_length] at hI ⊢
  have hbad:¬ (N.src∈s∧N.snk∉s):=fun h=>hs ⟨hI.rise,hI.rng,h.1,h.2⟩
  refine ad (ad (aa (ah [] rfl ?_)))
  refine ab [] (af 1 rfl rfl rfl rfl) rfl ?_
  refine ab [] (dW 0 Tryz.underlying191 Tryz.underlying3 rfl rfl rfl rfl rfl) rfl ?_
  by_cases h1:N.src∈s
  ·refine av 42 (v':=.bool true) rfl (by rw[c9,aA h1]) ?_
   refine ah [] rfl ?_
   refine av 44 (v':=.bool false) rfl rfl ?_
   refine ah [5] rfl ?_
   refine ab [5] (af 1 rfl rfl rfl rfl) rfl ?_
   refine ab [5] (dW 0 Tryz.underlying191 Tryz.underlying3 rfl rfl rfl rfl rfl) rfl ?_
   refine av 48 (v':=.bool true) rfl (by rw[c9,aA (Classical.not_not.1 fun h=>hbad ⟨h1,h⟩)]) ?_
   refine ae [5] rfl ?_
   refine a8 rfl ?_
   refine ad (aa (ae [] rfl ?_))
   refine aC [] (by decide) rfl (ay ⟨_,rfl,?_,rfl⟩)
   rw[ld hI hbad];rfl
  ·refine av 42 (v':=.bool false) rfl (by rw[c9,aB h1]) ?_
   refine ah [] rfl ?_
   refine av 44 (v':=.bool true) rfl rfl ?_
   refine ah [5] rfl ?_
   refine ai ?_
   refine a8 rfl ?_
   refine ad (aa (ae [] rfl ?_))
   refine aC [] (by decide) rfl (ay ⟨_,rfl,?_,rfl⟩)
   rw[ld hI hbad];rfl
open Classical in
noncomputable def xQ (N:bc) (s:List Int):Int×Int:=if eP N s then (gL s N.arcs,0) else (0,nu N s)
theorem pm (N:bc) (hN:N.Fits) (hR:N.Right) (A:Option Addr) (c b o:Nat) (hA:N.arcs≠[]→A=some ⟨b,o,none⟩) (s:List Int) (hsl:s.length≤100000) (S:Option Addr) (cs bs os:Nat) (hS:s≠[]→S=some ⟨bs,os,none⟩):
 Fn 51 [bn N A c,.slice S s.length cs] [] [.seg b o (arcs N.arcs),.seg bs os (az s)] fun v H'=>v=pv (xQ N s)∧H'=[]:=by
 by_cases hs:eP N s
 ·unfold xQ;rw[if_pos hs];exact lV N hN hR A c b o hA s hs hsl S cs bs os hS
 unfold xQ
 rw[if_neg hs]
 refine aK Tryz.func51 rfl rfl fun w0=>?_
 refine ad (aa ?_)
 refine br (cs:=bQ N A c) rfl rfl rfl (fun _=>rfl) fun p=>?_
 refine ae [] rfl ?_
 refine ad (aa ?_)
 refine ab [] (v:=bn N A c) (af 0 rfl rfl rfl rfl) rfl ?_
 refine ah [] rfl ?_
 refine ap [] (pZ N hN hR A c b o hA s hs hsl S cs bs os hS) rfl rfl rfl rfl (by kernel_rfl) ⟨⟨1,_,by simp,rfl,am _ _ _,aw⟩,⟨2,_,by simp,rfl,am _ _ _,aw⟩,trivial⟩ (fun _=>rfl) ?_
 rintro v H' ⟨rfl,rfl⟩
 refine⟨rfl,?_⟩
 refine ae [] rfl ?_
 refine ad (aa (ae [] rfl ?_))
 refine ad (ad (aa (ae [] rfl ?_)))
 refine ax ?_
 refine bN (σ:=Unit) (fun _=>[(19,.int .i64 0),(18,.int .i64 0),(8,.int .i64 0),(7,.int .i64 (nu N s))]) (fun _=>[]) (fun _=>True) (fun _=>0) () [] ⟨rfl,rfl,rfl,rfl,trivial⟩ (by decide) rfl trivial ?_
 intro _ _
 refine ad (aa (ae [] rfl ?_))
 refine ad (aD rfl (fun hlt=>absurd hlt (by decide)) (fun hge=>a6 ?_))
 refine ad (aa (ae [] rfl ?_))
 exact aC [] (by decide) rfl (ay ⟨_,rfl,rfl,rfl⟩)
open Classical in
noncomputable def qj (N:bc) (f s:List Int):Int:=if aN N f then (if eP N s then (if dg (N.arcs.zip f) N.snk=gL s N.arcs then 0 else 8) else nu N s) else eO N f
theorem tQ (N:bc) (hN:N.Fits) (hR:N.Right) (A:Option Addr) (c b o:Nat) (hA:N.arcs≠[]→A=some ⟨b,o,none⟩) (f:List Int) (hfi:∀ x∈f,cL x) (hfl:f.length*8≤140737488351232) (F:Option Addr) (cf bf of:Nat) (hF:f≠[]→F=some ⟨bf,of,none⟩)
 (s:List Int) (hsl:s.length≤100000) (S:Option Addr) (cs bs os:Nat) (hS:s≠[]→S=some ⟨bs,os,none⟩):
 Fn 67 [bn N A c,.slice F f.length cf,.slice S s.length cs] [] [.seg b o (arcs N.arcs),.seg bf of (az f),.seg bs os (az s)] fun v H'=>v=.int .i64 (qj N f s)∧H'=[]:=by
 unfold qj
 by_cases hfs:aN N f∧eP N s
 ·rw[if_pos hfs.1,if_pos hfs.2]
  exact vH N hN hR A c b o hA f hfs.1 F cf bf of hF s hfs.2 hsl S cs bs os hS
 refine aK Tryz.func67 rfl rfl fun w0=>?_
 refine ad (aa ?_)
 refine br (cs:=bQ N A c) rfl rfl rfl (fun _=>rfl) fun p=>?_
 refine ae [] rfl ?_
 refine ad (aa ?_)
 refine ab [] (v:=bn N A c) (af 0 rfl rfl rfl rfl) rfl ?_
 refine ah [] rfl ?_
 refine ap [] (js N hN hR A c b o hA f F cf bf of hF hfi hfl) rfl rfl rfl rfl (by kernel_rfl) ⟨⟨1,_,by simp,rfl,am _ _ _,aw⟩,⟨2,_,by simp,rfl,am _ _ _,aw⟩,trivial⟩ (fun _=>rfl) ?_
 rintro v H' ⟨⟨rfl,hf⟩|⟨rfl,hf⟩,rfl⟩
 case inr=>
  refine⟨rfl,?_⟩
  refine ae [] rfl ?_
  refine ad (ad (aa (ae [] rfl ?_)))
  refine aD rfl (fun h=>?_) (fun h=>absurd (cT.1 (Classical.not_not.1 h)) hf)
  refine ad (aa (ae [] rfl ?_))
  refine aC [] (by decide) rfl (ay ⟨_,rfl,?_,rfl⟩)
  rw[if_neg hf];rfl
 have hs:¬ eP N s:=fun h=>hfs ⟨hf,h⟩
 have T:=pm N hN hR A c b o hA s hsl S cs bs os hS
 unfold xQ at T
 rw[if_neg hs] at T
 rw[if_pos hf,if_neg hs]
 refine⟨rfl,?_⟩
 refine ae [] rfl ?_
 refine ad (ad (aa (ae [] rfl ?_)))
 refine aD rfl (fun h=>absurd rfl h) (fun _=>aq ?_)
 refine ad (aa ?_)
 refine ab [] (v:=bn N A c) (af 0 rfl rfl rfl rfl) rfl ?_
 refine ah [] rfl ?_
 refine ap [] T rfl rfl rfl rfl (by kernel_rfl) ⟨⟨1,_,by simp,rfl,am _ _ _,aw⟩,⟨3,_,by simp,rfl,am _ _ _,aw⟩,trivial⟩ (fun _=>rfl) ?_
 rintro v H' ⟨rfl,rfl⟩
 refine⟨rfl,?_⟩
 refine ae [] rfl ?_
 refine ad (ax (ad (aa (ae [] rfl ?_))))
 refine aD rfl (fun h=>?_) (fun h=>absurd (tv.1 (Classical.not_not.1 h)) hs)
 refine ad (aa (ae [] rfl ?_))
 exact aC [] (by decide) rfl (ay ⟨_,rfl,rfl,rfl⟩)
end Go.Proofs.YtpbmihpjgjbndaaGreatDoor
