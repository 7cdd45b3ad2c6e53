/- The engine and the words that all chapters share: several texts in one. -/
import Derived.Test.YtpbmihpjgjbndaaGreatDoorRightN
import Derived.Test.YtpbmihpjgjbndaaGreatDoorQF
import Derived.Test.YtpbmihpjgjbndaaGreatDoorQX4
import Derived.Test.YtpbmihpjgjbndaaGreatDoorQX41
import Derived.Test.YtpbmihpjgjbndaaGreatDoorQX20
/- Covers: nodes that meet all edges. -/
set_option linter.unusedVariables false
set_option linter.unusedSimpArgs false
namespace Go.Proofs.YtpbmihpjgjbndaaGreatDoor
open Go.RowKit
structure eT (m:Int) (l:List Int):Prop where
 rise:l.Pairwise (·<·)
 rng:∀ x∈l,1≤x∧x≤m
theorem eT.snoc {m:Int} {l:List Int} {x:Int}:eT m (l++[x])↔eT m l∧(∀ y∈l,y<x)∧1≤x∧x≤m:=by
 constructor
 ·intro h
  obtain⟨h1,_,h3⟩:=List.pairwise_append.1 h.rise
  have hx:=h.rng x (by simp)
  exact⟨⟨h1,fun y hy=>h.rng y (by simp[hy])⟩,fun y hy=>h3 y hy x (by simp),hx.1,hx.2⟩
 ·rintro⟨h,h1,h2,h3⟩
  refine⟨qp h.rise h1,fun y hy=>?_⟩
  rcases List.mem_append.1 hy with hy|hy
  ·exact h.rng y hy
  ·rw[List.mem_singleton.1 hy];exact⟨h2,h3⟩
end Go.Proofs.YtpbmihpjgjbndaaGreatDoor
/- Any nodes as a cut of a right network: what is wrong with them; and whether any flow and any nodes prove one another. -/
set_option linter.unusedVariables false
set_option linter.unusedSimpArgs false
namespace Go.Proofs.YtpbmihpjgjbndaaGreatDoor
open Go.RowKit
open Classical in
noncomputable def nk (N:a8) (s:List Int):Int:=if ¬ eT N.nodes s then 1 else if N.src∈s∧N.snk∉s then 0 else 9
theorem kU {N:a8} {s:List Int} (h:¬ eT N.nodes s):nk N s=1:=by unfold nk;rw[if_pos h]
theorem kN {N:a8} {s:List Int} (h:eT N.nodes s) (k:¬ (N.src∈s∧N.snk∉s)):nk N s=9:=by unfold nk;rw[if_neg (fun n=>n h),if_neg k]
theorem om {N:a8} {s:List Int}:nk N s=0↔eu N s:=by
 constructor
 ·intro h
  by_cases h1:eT N.nodes s
  ·by_cases h2:N.src∈s∧N.snk∉s
   ·exact⟨h1.rise,h1.rng,h2.1,h2.2⟩
   ·rw[kN h1 h2] at h;exact absurd h (by decide)
  ·rw[kU h1] at h;exact absurd h (by decide)
 ·intro h
  unfold nk
  rw[if_neg (fun n=>n ⟨h.rise,h.rng⟩),if_pos ⟨h.src,h.snk⟩]
theorem pv {m:Int} {l r:List Int} {x:Int} (h:eT m (l++x::r)):(l.getLast?.getD 0)<x∧x≤m:=by
 have hx:=h.rng x (by simp)
 refine⟨?_,hx.2⟩
 cases hl:l.getLast? with
 |none=>show (0:Int)<x;omega
 |some y=>exact (List.pairwise_append.1 h.rise).2.2 y (List.mem_of_getLast? hl) x (by simp)
theorem uQ {m:Int} {l:List Int} (h:eT m l):∀ y∈l,y≤l.getLast?.getD 0:=by
 intro y hy
 rcases List.eq_nil_or_concat l with rfl|⟨q,z,rfl⟩
 ·exact absurd hy List.not_mem_nil
 ·rw[List.concat_eq_append] at*
  rw[List.getLast?_append]
  show y≤z
  rcases List.mem_append.1 hy with hy|hy
  ·have:=(List.pairwise_append.1 h.rise).2.2 y hy z (by simp);omega
  ·rw[List.mem_singleton.1 hy];omega
set_option maxHeartbeats 1000000 in
theorem qg (N:a8) (hN:N.Fits) (hR:N.Right) (A:Option Addr) (c b o:Nat) (hA:N.arcs≠[]→A=some ⟨b,o,none⟩) (s:List Int) (hs:¬ eu N s) (hsl:s.length≤100000) (S:Option Addr) (cs bs os:Nat) (hS:s≠[]→S=some ⟨bs,os,none⟩):
 Fn 85 [br N A c,.slice S s.length cs] [] [.seg b o (arcs N.arcs),.seg bs os (ao s)] fun v H'=>v=.tuple #[.slice none 0 0,.int .i64 (nk N s)]∧H'=[]:=by
 have hl2:=hR.len
 have hnn:=hR.nodes
 refine aS Tryz.func85 rfl rfl fun w0=>?_
 refine ad (aa ?_)
 refine bw (cs:=bP N A c) rfl rfl rfl (fun _=>rfl) fun p=>?_
 refine ae [] rfl ?_
 refine ad (ad (aa ?_))
 refine ab [] (v:=br N A c) (af 0 rfl rfl rfl rfl) rfl ?_
 refine av [] (km N hN A c b o hA) rfl rfl rfl rfl (by kernel_rfl) ⟨⟨1,_,by simp,rfl,aq _ _ _,ay⟩,trivial⟩ (fun _=>rfl) ?_
 rintro v H' ⟨rfl,rfl⟩
 refine⟨rfl,?_⟩
 rw[hR.check]
 refine ae [] rfl ?_
 refine ad (aa (ae [] rfl ?_))
 refine aD rfl (fun h=>absurd rfl h) (fun _=>aw ?_)
 refine ad (aa ?_)
 refine l5 rfl (fun _=>rfl) fun bm=>?_
 refine ae [] rfl ?_
 refine ad (aa (ae [] rfl ?_))
 refine ad (ad (aa (ae [] rfl ?_)))
 refine au ?_
 refine bq (σ:=Nat) (fun k=>[(22,.int .i64 k),(21,.int .i64 s.length),(20,.slice S s.length cs),(8,.int .i64 ((s.take k).getLast?.getD 0)),(7,.map (some bm)),(2,.pointer (some ⟨p,0,none⟩))])
  (fun k=>[.obj bm (fR (lD (s.take k))),blk p 27 (bP N A c),.seg b o (arcs N.arcs),.seg bs os (ao s)]) (fun k=>k≤s.length∧eT N.nodes (s.take k)) (fun k=>s.length-k)
  0 [0,1,2,3] ⟨rfl,rfl,rfl,rfl,rfl,rfl,trivial⟩ (by decide) rfl ⟨Nat.zero_le _,⟨by simp,by simp⟩⟩ ?_
 rintro k ⟨hk,hI⟩
 refine ad (aa (ae [] rfl ?_))
 refine ad (aD rfl (fun hlt=>aw ?_) (fun hge=>aX ?_))
 ·have hlt:k<s.length:=by omega
  obtain rfl:=hS (by rintro rfl;simp at hlt)
  obtain⟨x,hx⟩:∃ x,s[k]?=some x:=⟨s[k],List.getElem?_eq_getElem hlt⟩
  have hsx:s=s.take k++x::s.drop (k+1):=by
   have:s.drop k=x::s.drop (k+1):=by rw[List.drop_eq_getElem_cons hlt];rw[(List.getElem?_eq_some_iff.1 hx).2]
   rw[← this,List.take_append_drop]
  have htk:s.take (k+1)=s.take k++[x]:=by rw[List.take_add_one,hx];rfl
  refine ad (au ?_)
  refine ad (aa (ah [] rfl ?_))
  refine ab [] (fg rfl rfl rfl rfl rfl hlt) rfl ?_
  refine ab [] (bo 3 rfl rfl rfl rfl (cj hx)) rfl ?_
  refine ae [] rfl ?_
  refine ad (ad (aa (ah [] rfl ?_)))
  by_cases h1:x≤(s.take k).getLast?.getD 0
  ·refine ax 29 (v':=.bool true) rfl (congrArg Value.bool (az h1)) ?_
   refine ah [3] rfl ?_
   refine ai ?_
   refine bA rfl ?_
   refine ad (aa (ae [] rfl ?_))
   refine aE [] (by decide) rfl (aB ⟨_,rfl,?_,rfl⟩)
   rw[kU (fun h=>by rw[hsx] at h;have:=(pv h).1;omega)];rfl
  refine ax 29 (v':=.bool false) rfl (congrArg Value.bool (aA h1)) ?_
  refine ah [3] rfl ?_
  refine ab [3] (af 1 rfl rfl rfl rfl) rfl ?_
  refine ae [3] rfl ?_
  refine aD rfl (fun h=>?_) (fun h=>aw ?_)
  ·refine ad (aa (ae [] rfl ?_))
   refine aE [] (by decide) rfl (aB ⟨_,rfl,?_,rfl⟩)
   rw[kU (fun h'=>by rw[hsx] at h';have:=(pv h').2;omega)];rfl
  have hless:∀ y∈s.take k,y<x:=fun y hy=>by have:=uQ hI y hy;omega
  have hnew:eT N.nodes (s.take (k+1)):=by
   rw[htk,eT.snoc]
   have h0:0≤(s.take k).getLast?.getD 0:=by
    cases hl:(s.take k).getLast? with
    |none=>exact Int.le_refl _
    |some y=>have:=hI.rng y (List.mem_of_getLast? hl);show 0≤y;omega
   exact⟨hI,hless,by omega,by omega⟩
  refine aa (ah [] rfl ?_)
  refine mR 0 Tryz.underlying191 Tryz.underlying3 rfl rfl rfl rfl rfl (fun q hq=>?_) [] rfl ?_
  ·obtain⟨y,hy,rfl⟩:=List.mem_map.1 hq
   have:=hless y hy
   show y≠x
   omega
  refine ae [] rfl ?_
  refine aa (ae [] rfl ?_)
  refine⟨k+1,[0,1,2,3],⟨?_,rfl,rfl,?_,rfl,rfl,trivial⟩,by decide,?_,⟨by omega,hnew⟩,by omega⟩
  ·show some (Value.int .i64 (IntKind.i64.wrap ((k:Int)+1)))=_
   rw[b8 (by omega)];rfl
  ·rw[htk,List.getLast?_append];rfl
  ·rw[htk];unfold lD;rw[List.map_append];rfl
 ·have hk':k=s.length:=by omega
  subst hk'
  rw[List.take_length] at hI ⊢
  have hbad:¬ (N.src∈s∧N.snk∉s):=fun h=>hs ⟨hI.rise,hI.rng,h.1,h.2⟩
  refine ad (ad (aa (ah [] rfl ?_)))
  refine ab [] (af 1 rfl rfl rfl rfl) rfl ?_
  refine ab [] (dV 0 Tryz.underlying191 Tryz.underlying3 rfl rfl rfl rfl rfl) rfl ?_
  by_cases h1:N.src∈s
  ·refine ax 42 (v':=.bool true) rfl (by rw[c9,az h1]) ?_
   refine ah [] rfl ?_
   refine ax 44 (v':=.bool false) rfl rfl ?_
   refine ah [5] rfl ?_
   refine ab [5] (af 1 rfl rfl rfl rfl) rfl ?_
   refine ab [5] (dV 0 Tryz.underlying191 Tryz.underlying3 rfl rfl rfl rfl rfl) rfl ?_
   refine ax 48 (v':=.bool true) rfl (by rw[c9,az (Classical.not_not.1 fun h=>hbad ⟨h1,h⟩)]) ?_
   refine ae [5] rfl ?_
   refine bA rfl ?_
   refine ad (aa (ae [] rfl ?_))
   refine aE [] (by decide) rfl (aB ⟨_,rfl,?_,rfl⟩)
   rw[kN hI hbad];rfl
  ·refine ax 42 (v':=.bool false) rfl (by rw[c9,aA h1]) ?_
   refine ah [] rfl ?_
   refine ax 44 (v':=.bool true) rfl rfl ?_
   refine ah [5] rfl ?_
   refine ai ?_
   refine bA rfl ?_
   refine ad (aa (ae [] rfl ?_))
   refine aE [] (by decide) rfl (aB ⟨_,rfl,?_,rfl⟩)
   rw[kN hI hbad];rfl
open Classical in
noncomputable def wv (N:a8) (s:List Int):Int×Int:=if eu N s then (eR s N.arcs,0) else (0,nk N s)
theorem oO (N:a8) (hN:N.Fits) (hR:N.Right) (A:Option Addr) (c b o:Nat) (hA:N.arcs≠[]→A=some ⟨b,o,none⟩) (s:List Int) (hsl:s.length≤100000) (S:Option Addr) (cs bs os:Nat) (hS:s≠[]→S=some ⟨bs,os,none⟩):
 Fn 51 [br N A c,.slice S s.length cs] [] [.seg b o (arcs N.arcs),.seg bs os (ao s)] fun v H'=>v=sK (wv N s)∧H'=[]:=by
 by_cases hs:eu N s
 ·unfold wv;rw[if_pos hs];exact pO N hN hR A c b o hA s hs hsl S cs bs os hS
 unfold wv
 rw[if_neg hs]
 refine aS Tryz.func51 rfl rfl fun w0=>?_
 refine ad (aa ?_)
 refine bw (cs:=bP N A c) rfl rfl rfl (fun _=>rfl) fun p=>?_
 refine ae [] rfl ?_
 refine ad (aa ?_)
 refine ab [] (v:=br N A c) (af 0 rfl rfl rfl rfl) rfl ?_
 refine ah [] rfl ?_
 refine av [] (qg N hN hR A c b o hA s hs hsl S cs bs os hS) rfl rfl rfl rfl (by kernel_rfl) ⟨⟨1,_,by simp,rfl,aq _ _ _,ay⟩,⟨2,_,by simp,rfl,aq _ _ _,ay⟩,trivial⟩ (fun _=>rfl) ?_
 rintro v H' ⟨rfl,rfl⟩
 refine⟨rfl,?_⟩
 refine ae [] rfl ?_
 refine ad (aa (ae [] rfl ?_))
 refine ad (ad (aa (ae [] rfl ?_)))
 refine au ?_
 refine bq (σ:=Unit) (fun _=>[(19,.int .i64 0),(18,.int .i64 0),(8,.int .i64 0),(7,.int .i64 (nk N s))]) (fun _=>[]) (fun _=>True) (fun _=>0) () [] ⟨rfl,rfl,rfl,rfl,trivial⟩ (by decide) rfl trivial ?_
 intro _ _
 refine ad (aa (ae [] rfl ?_))
 refine ad (aD rfl (fun hlt=>absurd hlt (by decide)) (fun hge=>aX ?_))
 refine ad (aa (ae [] rfl ?_))
 exact aE [] (by decide) rfl (aB ⟨_,rfl,rfl,rfl⟩)
end Go.Proofs.YtpbmihpjgjbndaaGreatDoor
/- Reports: how a flow and a cut are printed. -/
set_option linter.unusedVariables false
set_option linter.unusedSimpArgs false
namespace Go.Proofs.YtpbmihpjgjbndaaGreatDoor
open Go.RowKit
open Lib
def dJ (w:List UInt8) (l:List Int):List UInt8:=pd w l++[10]
theorem vD (w:List UInt8) (l:List Int):dJ w l≠[]:=by unfold dJ;simp
theorem q9:se 102:=by unfold se;kernel_rfl
set_option maxHeartbeats 1000000 in
theorem gJ (V:fC) (b:Nat) (p:Value) (hp:zi b p) (A:Option Addr) (c:Nat) (m:List UInt8) (w:List UInt8) (hw:w.length≤100) (l:List Int) (hl:∀ n∈l,bT n) (hll:l.length≤100000) (hm:m.length≤50000000) (B:Option Addr) (n cb bb ob:Nat) (hB:l≠[]→B=some ⟨bb,ob,none⟩) (hn:n=l.length):
 Fn 52 [.pointer (some ⟨b,0,none⟩),eh w,.slice B n cb] (aR (jJ 102 b p A c m)) (([.seg bb ob (ao l)]++V.heap)++jJ 102 b p A c m) fun _ H'=>∃ (A':Option Addr) (c':Nat),H'=jJ 102 b (.pointer (some ⟨b,0,none⟩)) A' c' (m++dJ w l):=by
 subst hn
 have hwl:=sa w l hl
 generalize hM:aR _=M
 refine aS Tryz.func52 rfl rfl fun w0=>?_
 refine ad (aa (ah [] rfl ?_))
 refine bH rfl rfl rfl rfl rfl rfl rfl (fun _=>rfl) fun g0=>?_
 refine mt 1 1 (by rfl) (by decide) ?_
 refine ae [] rfl ?_
 refine ad (ad (aa (ae [] rfl ?_)))
 refine au ?_
 refine bq (σ:=Nat×Option Addr×Nat) (fun s=>[(13,.int .i64 s.1),(12,.int .i64 l.length),(11,.slice B l.length cb),(6,.slice s.2.1 (w::(l.take s.1).map itoa).length s.2.2),(0,.pointer (some ⟨b,0,none⟩))])
  (fun s=>.own (.slice s.2.1 (w::(l.take s.1).map itoa).length s.2.2) 9 1 (w::(l.take s.1).map itoa).length (dX (w::(l.take s.1).map itoa))::(([.seg bb ob (ao l)]++V.heap)++jJ 102 b p A c m))
  (fun s=>s.1≤l.length) (fun s=>l.length-s.1) (0,some ⟨g0,0,none⟩,1) [0,1,2,3,4,5,6] ⟨rfl,rfl,rfl,rfl,rfl,trivial⟩ (by decide) rfl (Nat.zero_le _) ?_
 rintro⟨k,A2,c2⟩ hk
 simp only at hk ⊢
 refine ad (aa (ae [] rfl ?_))
 refine ad (aD rfl (fun hlt=>aw ?_) (fun hge=>aX ?_))
 ·have hlt':k<l.length:=by omega
  obtain⟨x,hx⟩:∃ x,l[k]?=some x:=⟨l[k],List.getElem?_eq_getElem hlt'⟩
  obtain rfl:=hB (by rintro rfl;simp at hlt')
  have hxB:=hl x (List.mem_of_getElem? hx)
  have hlen:(w::(l.take k).map itoa).length=k+1:=by rw[List.length_cons,List.length_map,List.length_take];omega
  refine ad (au ?_)
  refine ad (aa (ah [] rfl ?_))
  refine ab [] (fg rfl rfl rfl rfl rfl hlt') rfl ?_
  refine ab [] (bo 1 rfl rfl rfl rfl (a9 hx)) rfl ?_
  refine ae [] rfl ?_
  refine aa (ah [] rfl ?_)
  refine av [] (mJ V x hxB) rfl rfl rfl rfl (by kernel_rfl) ⟨⟨2,by simp,rfl⟩,⟨3,by simp,rfl⟩,⟨4,by simp,rfl⟩,trivial⟩ (fun _=>rfl) ?_
  rintro v H' ⟨rfl,rfl⟩
  refine⟨rfl,?_⟩
  refine bH rfl rfl rfl rfl rfl rfl rfl (fun _=>rfl) fun g2=>?_
  refine bc (n:=(w::(l.take k).map itoa).length) (m:=1) (off:=0) (news:=dX [itoa x]) 1 0 rfl rfl rfl rfl rfl rfl (by decide) rfl rfl (aL g2 _ _ (0,0)) (fun _=>rfl) rfl rfl (by omega) (by omega) (fun _ _=>rfl) fun A3 c3=>?_
  refine ae [] rfl ?_
  refine aa (ae [] rfl ?_)
  have htk:w::(l.take (k+1)).map itoa=(w::(l.take k).map itoa)++[itoa x]:=by rw[List.take_add_one,hx];simp
  refine⟨(k+1,A3,c3),[1,2,3,4,5,6,7],⟨?_,rfl,rfl,?_,rfl,trivial⟩,by decide,?_,by simp only;omega,by simp only;omega⟩
  ·show some (Value.int .i64 (IntKind.i64.wrap ((k:Int)+1)))=_
   rw[b8 (by omega)];rfl
  ·simp only[htk];rw[List.length_append];rfl
  ·simp only[htk];rw[List.length_append,show dX ((w::(l.take k).map itoa)++[itoa x])=dX (w::(l.take k).map itoa)++dX [itoa x] by simp[dX]];rfl
 obtain rfl:k=l.length:=by omega
 refine bL (be 0 rfl) (fun ho=>?_)
 obtain⟨g,rfl⟩:=ho.2.2.1 (by simp)
 rw[List.take_length] at*
 refine bn 7 [(0,true),(1,true),(2,true),(3,true),(4,false),(5,true),(6,false)] [] (by kernel_rfl) (by decide) rfl ?_
 refine aC [] rfl ?_
 refine a6 rfl ?_
 refine av [] (wi (some ⟨g,0,none⟩) _ c2 g 0 (w::l.map itoa) rfl (fun _=>rfl) ho.2.1 (by show (pd w l).length≤_;omega) (by simp;omega)) rfl rfl rfl rfl (by kernel_rfl) ⟨⟨0,_,by simp,rfl,bI,.inr rfl⟩,trivial⟩ (fun _=>rfl) ?_
 rintro v H' ⟨rfl,rfl⟩
 refine⟨rfl,?_⟩
 refine ai ⟨⟨[],by decide,rfl⟩,?_⟩
 refine aj [] rfl (o5 (l:=pd w l) (m:=[10]) rfl rfl rfl (by simp;omega)) rfl ?_
 refine a6 rfl ?_
 refine ap (fst:=[]) (cap:=[]) [] (uZ 102 b p q9 hp A c m (pd w l++[10]) (by simp;omega)) rfl rfl rfl rfl (by kernel_rfl) (K:=[]) (aK.picks [5,6] (by decide) rfl) trivial (fun _=>rfl) ?_
 rintro v H' ⟨A',c',rfl⟩
 refine⟨rfl,?_⟩
 refine ai ⟨⟨[],by decide,rfl⟩,?_⟩
 refine bu ?_
 refine ai ?_
 exact⟨_,rfl,A',c',rfl⟩
end Go.Proofs.YtpbmihpjgjbndaaGreatDoor
