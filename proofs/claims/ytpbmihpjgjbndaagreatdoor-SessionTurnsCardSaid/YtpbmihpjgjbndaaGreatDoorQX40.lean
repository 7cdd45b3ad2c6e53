/- The engine and the words that all chapters share: several texts in one. -/
import Derived.Test.YtpbmihpjgjbndaaGreatDoorScaleP
import Derived.Test.YtpbmihpjgjbndaaGreatDoorQX25
import Derived.Test.YtpbmihpjgjbndaaGreatDoorQF
import Derived.Test.YtpbmihpjgjbndaaGreatDoorQX30
import Derived.Test.YtpbmihpjgjbndaaGreatDoorQB
/- The first room of the halves. -/
set_option linter.unusedVariables false
set_option linter.unusedSimpArgs false
namespace Go.Proofs.YtpbmihpjgjbndaaGreatDoor
open Go.RowKit
theorem mw:∀ {l:List dG},(∀ a∈l,0≤a.cap)→∀ {a:dG},a∈l→a.cap≤(l.map (·.cap)).sum
 |[],_,_,h=>by simp at h
 |b::l,hp,a,h=>by
  have h0:=hp b (by simp)
  have hs:0≤(l.map (·.cap)).sum:=eT _ fun x hx=>by
   obtain⟨d,hd,rfl⟩:=List.mem_map.1 hx
   exact hp d (by simp[hd])
  simp only[List.map_cons,List.sum_cons]
  rcases List.mem_cons.1 h with rfl|h
  ·omega
  ·have:=mw (fun d hd=>hp d (by simp[hd])) h
   omega
theorem qk {N:bc} (hR:N.Right) (k:Nat):0≤gS (N.arcs.take k)∧gS (N.arcs.take k)≤4611686018427387903:=by
 obtain⟨h1,h2,h3⟩:=mZ (N.arcs.take k) 0 fun a ha=>(hR.arc a (List.mem_of_mem_take ha)).2.2
 refine⟨h1,?_⟩
 unfold gS
 rcases h3 with h|⟨a,ha,h⟩
 ·rw[h];decide
 ·rw[h]
  have hs:=hR.sum
  have:=mw (fun d hd=>(hR.arc d hd).2.2) (List.mem_of_mem_take ha)
  omega
theorem uC (N:bc) (hR:N.Right) (A:Option Addr) (c b o:Nat) (hA:N.arcs≠[]→A=some ⟨b,o,none⟩):Fn 74 [bn N A c] [] [.seg b o (arcs N.arcs)] fun v H'=>v=.int .i64 (fF (gS N.arcs))∧H'=[]:=by
 have hl2:=hR.len
 refine aK Tryz.func74 rfl rfl fun w0=>?_
 refine ad (aa ?_)
 refine br (cs:=bQ N A c) rfl rfl rfl (fun _=>rfl) fun p1=>?_
 refine ae [] rfl ?_
 refine ad (aa (ae [] rfl ?_))
 refine ad (ad (aa (ah [] rfl ?_)))
 refine ab [] (v:=.slice A N.arcs.length c) (af 0 rfl rfl rfl rfl) rfl ?_
 refine ae [] rfl ?_
 refine ax ?_
 refine cF (σ:=Nat) (fun t=>[(9,.int .i64 (t:Int)),(3,.int .i64 (gS (N.arcs.take t))),(8,.int .i64 (N.arcs.length:Int)),(7,.slice A N.arcs.length c)])
  (fun _=>[.seg b o (arcs N.arcs)]) (fun t=>t≤N.arcs.length) (fun t=>N.arcs.length-t) 0 ⟨rfl,rfl,rfl,rfl,trivial⟩ (aL.picks [1] (by decide) rfl) (Nat.zero_le _) ?_
 intro k hk
 refine ad (aa (ae [] rfl ?_))
 refine ad (aD rfl (fun hlt=>aq ?_) (fun hge=>a6 ?_))
 ·have hkl:k<N.arcs.length:=by omega
  obtain⟨a,ha⟩:∃ a,N.arcs[k]?=some a:=⟨N.arcs[k],List.getElem?_eq_getElem hkl⟩
  obtain rfl:=hA (by intro h0;rw[h0] at hkl;simp at hkl)
  refine ad (ax ?_)
  refine ad (aa (ah [] rfl ?_))
  refine ab [] (kQ rfl rfl rfl rfl rfl hkl) rfl ?_
  refine ab [] (bw 0 rfl rfl rfl rfl (fI ha)) rfl ?_
  refine bA rfl rfl rfl (fun _=>rfl) fun q=>?_
  refine aE 0 rfl rfl rfl rfl rfl [] rfl ?_
  refine ai ?_
  refine aa (ah [] rfl ?_)
  refine ab [] (v:=.int .i64 a.cap) (af 0 rfl rfl rfl rfl) rfl ?_
  refine ak (gs:=[]) rfl ?_
  refine av 16 (v':=.int .i64 (gS (N.arcs.take (k+1)))) rfl (by rw[List.take_add_one,ha];unfold gS;rw[List.foldl_append];rfl) ?_
  refine ae [] rfl ?_
  refine aa (ae [] rfl ?_)
  refine⟨k+1,⟨?_,rfl,rfl,rfl,trivial⟩,aL.picks [1] (by decide) rfl,hkl,by show N.arcs.length-(k+1)<N.arcs.length-k;omega⟩
  exact congrArg some (congrArg (Value.int .i64) (cj (n:=(k:Int)+1) (by omega)))
 ·obtain rfl:k=N.arcs.length:=by omega
  rw[List.take_of_length_le (Nat.le_refl _)]
  have hb:=qk hR N.arcs.length
  rw[List.take_of_length_le (Nat.le_refl _)] at hb
  refine ad (aa (ah [] rfl ?_))
  refine ap [] (wc (gS N.arcs) (by unfold cL;omega)) rfl rfl rfl rfl (by kernel_rfl) trivial (fun _=>rfl) ?_
  rintro v H' ⟨rfl,rfl⟩
  refine⟨rfl,?_⟩
  refine ae [] rfl ?_
  exact aC [] (by decide) rfl (ay ⟨_,rfl,rfl,rfl⟩)
end Go.Proofs.YtpbmihpjgjbndaaGreatDoor
/- The greatest value by halves: scale.Max. -/
set_option linter.unusedVariables false
set_option linter.unusedSimpArgs false
namespace Go.Proofs.YtpbmihpjgjbndaaGreatDoor
open Go.RowKit
def zC (t:jD):List Value:=[.int .i64 t.least,.int .i64 t.p,.int .i64 t.w,.int .i64 t.v]
def jg (ts:List jD):List Value:=ts.flatMap zC
theorem tL (l r:List jD):jg (l++r)=jg l++jg r:=by simp[jg]
structure SM where
 f:List Int
 Af:Option Addr
 cf:Nat
 ts:List jD
 At:Option Addr
 ct:Nat
theorem rS {x:Int} (h0:0≤x) (h1:x≤4611686018427387903):∃ nr,nr≤62∧fF x=bW nr 0∧(nr=0↔x=0):=by
 unfold fF
 by_cases h:x<1
 ·rw[if_pos h]
  exact⟨0,by decide,by rw[jt (Nat.le_refl _)],by simp;omega⟩
 ·rw[if_neg h]
  have hp:0<x.toNat:=by omega
  have h2:=iF hp
  have h3:=gU hp
  refine⟨bR x.toNat,?_,?_,?_⟩
  ·have:bR x.toNat-1<62:=(Nat.pow_lt_pow_iff_right (by decide:1<2)).1 (Nat.lt_of_le_of_lt h3 (by omega))
   omega
  ·unfold bW
   rw[if_pos (by omega),Nat.sub_zero]
  ·omega
set_option maxHeartbeats 2000000 in
theorem yf (sg:Int) (hsg:sg=112∨sg=116) (N:bc) (hN:N.Fits) (hR:N.Right) (A:Option Addr) (c b o:Nat) (hA:N.arcs≠[]→A=some ⟨b,o,none⟩) (nr:Nat) (hnr:nr≤62) (hst:fF (gS N.arcs)=bW nr 0):
 Fn 41 [bn N A c,.int .u8 sg] [] [.seg b o (arcs N.arcs)] fun v H'=>∃ (f:List Int) (ts:List jD) (Af:Option Addr) (cf:Nat) (At:Option Addr) (ct:Nat),Sc N nr nr f ts∧v=.tuple #[.slice Af f.length cf,.slice At ts.length ct,.int .i64 0]∧
  H'=[.own (.slice Af f.length cf) 2 1 f.length (az f),.own (.slice At ts.length ct) 143 4 ts.length (jg ts)]:=by
 have hl2:=hR.len
 refine wU Tryz.func41 rfl rfl fun w0=>?_
 refine jJ (aa ?_)
 refine br (cs:=bQ N A c) rfl rfl rfl (fun _=>rfl) fun p2=>?_
 refine br rfl rfl rfl (fun _=>rfl) fun p3=>?_
 refine ae [] rfl ?_
 refine jJ ?_
 ·refine ad (aa ?_)
  refine ab [] (v:=bn N A c) (af 1 rfl rfl rfl rfl) rfl ?_
  refine ap [] (iP N hN A c b o hA) rfl rfl rfl rfl (by kernel_rfl) ⟨⟨2,_,by simp,rfl,am _ _ _,aw⟩,trivial⟩ (fun _=>rfl) ?_
  rintro v H' ⟨rfl,rfl⟩
  refine⟨rfl,?_⟩
  rw[hR.check]
  refine ae [] rfl ?_
  refine ad (aa (ae [] rfl ?_))
  refine aD rfl (fun h=>absurd rfl h) (fun _=>aq ?_)
  refine jJ (sj (Q:=fun e E H=>e=.normal∧jC E [(3,.pointer (some ⟨p3,0,none⟩)),(2,.pointer (some ⟨p2,0,none⟩))]∧H=[blk p3 5 [.int .u8 sg],blk p2 27 (bQ N A c),.seg b o (arcs N.arcs)]) ?_ ?_)
  ·refine ad (aa (ah [] rfl ?_))
   refine ab [] (v:=.int .u8 sg) (af 0 rfl rfl rfl rfl) rfl ?_
   rcases hsg with rfl|rfl
   ·refine ah [] rfl ?_
    refine av 22 (v':=.bool false) rfl (congrArg Value.bool (aB (by decide))) ?_
    refine ae [2] rfl ?_
    refine bq rfl (aq ⟨rfl,⟨rfl,rfl,trivial⟩,rfl⟩)
   ·refine ah [] rfl ?_
    refine av 22 (v':=.bool true) rfl (congrArg Value.bool (aA (by decide))) ?_
    refine ab [2] (v:=.int .u8 116) (af 0 rfl rfl rfl rfl) rfl ?_
    refine ae [2] rfl ?_
    refine aM 25 (v':=.bool false) rfl (congrArg Value.bool (aB (by decide))) ?_
    refine bq rfl (aq ⟨rfl,⟨rfl,rfl,trivial⟩,rfl⟩)
  rintro e E H ⟨rfl,hE,rfl⟩
  show W _ _ _ E _
  suffices hW:W ⟨w0,[],⟨62,[]⟩⟩ _ _ [(3,.pointer (some ⟨p3,0,none⟩)),(2,.pointer (some ⟨p2,0,none⟩))] [blk p3 5 [.int .u8 sg],blk p2 27 (bQ N A c),.seg b o (arcs N.arcs)] from fun a w hA hH=>hW a w (hA.ents _ hE) hH
  clear hE E
  refine jJ (aa ?_)
  refine ah [] rfl ?_
  refine ab [] (v:=.slice A N.arcs.length c) (af 1 rfl rfl rfl rfl) rfl ?_
  refine ah [] rfl ?_
  refine dI (n:=N.arcs.length) (c:=N.arcs.length) rfl rfl rfl rfl rfl rfl (by omega) (by omega) (by omega) (fun _=>rfl) fun gf=>?_
  rw[show made [Value.int .i64 0] (N.arcs.length*1)=az (List.replicate N.arcs.length 0) by rw[dp,Nat.mul_one];simp[az]]
  refine bA rfl rfl rfl (fun _=>rfl) fun p8=>?_
  refine aE 0 rfl rfl rfl rfl rfl [] rfl ?_
  refine ai ?_
  refine jJ (aa ?_)
  refine bA rfl rfl rfl (fun _=>rfl) fun p9=>?_
  refine ai ?_
  refine wI ?_
  refine jJ (aa ?_)
  refine ab [] (v:=bn N A c) (af 4 rfl rfl rfl rfl) rfl ?_
  refine ap [] (uC N hR A c b o hA) rfl rfl rfl rfl (by kernel_rfl) ⟨⟨5,_,by simp,rfl,am _ _ _,aw⟩,trivial⟩ (fun _=>rfl) ?_
  rintro v H' ⟨rfl,rfl⟩
  refine⟨rfl,?_⟩
  rw[hst]
  refine ap [] (uA (bW nr 0)) rfl rfl rfl rfl (by kernel_rfl) trivial (fun _=>rfl) ?_
  rintro v H' ⟨pc,rfl,rfl⟩
  refine⟨rfl,?_⟩
  refine dC 143 4 ?_
  refine bO (K:=blk pc 2 [.int .i64 (bW nr 0)]::[blk p8 29 [.slice (some ⟨gf,0,none⟩) (List.replicate N.arcs.length (0:Int)).length N.arcs.length],.own (.slice (some ⟨gf,0,none⟩) (List.replicate N.arcs.length (0:Int)).length N.arcs.length) 2 1 (List.replicate N.arcs.length (0:Int)).length (az (List.replicate N.arcs.length 0)),
   blk p9 80 [.slice none ([]:List jD).length 0],.own (.slice none ([]:List jD).length 0) 143 4 ([]:List jD).length (jg []),blk p2 27 (bQ N A c),blk p3 5 [.int .u8 sg],.seg b o (arcs N.arcs)]) (by
    rw[List.length_replicate]
    exact aL.picks [1,3,4,2,0,6,5,7] (by decide) rfl) ?_
  refine ai ?_
  refine sD ?_
  refine wv (p:=pc) (ty:=2) (n0:=bW nr 0) (nr:=nr) (x:=vq nr) (gf:=114) (lb:=[.pointer (some ⟨pc,0,none⟩)]) (σ:=SM)
   (fun s=>[blk p8 29 [.slice s.Af s.f.length s.cf],.own (.slice s.Af s.f.length s.cf) 2 1 s.f.length (az s.f),blk p9 80 [.slice s.At s.ts.length s.ct],.own (.slice s.At s.ts.length s.ct) 143 4 s.ts.length (jg s.ts),blk p2 27 (bQ N A c),blk p3 5 [.int .u8 sg],.seg b o (arcs N.arcs)])
   (fun k s=>Sc N nr k s.f s.ts) ⟨_,some ⟨gf,0,none⟩,N.arcs.length,[],none,0⟩ rfl (by kernel_rfl) (pr pc nr (by omega)) (fun _ _=>rfl) rfl .nil ?_ ?_
  ·rintro r D k ⟨f,Af,cf,ts,At,ct⟩ y rdy bsy hk hS
   simp only at hS ⊢
   refine eQ rfl ?_
   refine ae [] rfl ⟨rfl,?_⟩
   obtain⟨_,hf,htl,_⟩:=hS.all hR
   have hfl:=hf.len
   have hpos:=jl hk
   have hle:=wd (nr:=nr) (k:=k) (by omega)
   refine qJ (rG (eQ rfl ?_))
   refine gq (bg 4 rfl) fun ⟨_,_,hAf,hlf⟩=>?_
   obtain⟨gf2,hAf⟩:=cd hAf hlf
   refine ab [] (v:=bn N A c) (af 7 rfl rfl rfl rfl) rfl ?_
   refine ab [] (v:=.slice Af f.length cf) (af 3 rfl rfl rfl rfl) rfl ?_
   refine ah [] rfl ?_
   refine ab [] (v:=.int .u8 sg) (af 8 rfl rfl rfl rfl) rfl ?_
   refine ap [] (vO N hN hR A c b o hA f hf Af cf gf2 0 (fun h=>hAf (by simpa [az] using h)) (bW nr k) hpos (by unfold cL;omega) sg hsg) rfl rfl rfl rfl (by kernel_rfl) ⟨⟨9,_,by simp,rfl,am _ _ _,aw⟩,⟨4,_,by simp,rfl,aS hAf,aX hAf⟩,trivial⟩ (fun _=>rfl) ?_
   rintro v H' ⟨f1,ph,wk,st,A1,c1,hdn,_,_,_,_,_,rfl,rfl⟩
   obtain⟨hf1,_,_,_⟩:=hdn.keeps hR hpos hf
   have hf1l:=hf1.len
   refine⟨rfl,?_⟩
   refine ah [] rfl ?_
   refine bA rfl rfl rfl (fun _=>rfl) fun p11=>?_
   refine aE 0 rfl rfl rfl rfl rfl [] rfl ?_
   refine ae [] rfl ?_
   refine rG (eQ rfl ?_)
   refine gq (bg 1 rfl) fun ⟨_,_,hA1,hl1⟩=>?_
   obtain⟨g1,hA1⟩:=cd hA1 hl1
   refine ah [] rfl ?_
   refine ab [] (v:=.slice A1 f1.length c1) (af 0 rfl rfl rfl rfl) rfl ?_
   refine aE 5 rfl rfl rfl rfl rfl [] rfl ?_
   refine ai ?_
   refine rG (eQ rfl ?_)
   refine ab [] (v:=bn N A c) (af 9 rfl rfl rfl rfl) rfl ?_
   refine ab [] (v:=.slice A1 f1.length c1) (af 5 rfl rfl rfl rfl) rfl ?_
   refine ap [] (js N hN hR A c b o hA f1 A1 c1 g1 0 (fun h=>hA1 (by simpa [az] using h)) (aN.inB hR hf1.toRanged) (by omega)) rfl rfl rfl rfl (by kernel_rfl) ⟨⟨11,_,by simp,rfl,am _ _ _,aw⟩,⟨1,_,by simp,rfl,aS hA1,aX hA1⟩,trivial⟩ (fun _=>rfl) ?_
   rintro v H' ⟨⟨rfl,_⟩|⟨_,h⟩,rfl⟩
   case inr=>exact absurd hf1 h
   refine⟨rfl,?_⟩
   refine ae [] rfl ?_
   refine eQ rfl ?_
   refine ab [] (v:=.slice At ts.length ct) (af 7 rfl rfl rfl rfl) rfl ?_
   refine ah [] rfl ?_
   refine ab [] (v:=.int .i64 ph) (af 0 rfl rfl rfl rfl) rfl ?_
   refine ah [] rfl ?_
   refine ab [] (v:=.int .i64 wk) (af 0 rfl rfl rfl rfl) rfl ?_
   refine ah [] rfl ?_
   refine ab [] (be rfl rfl rfl rfl rfl rfl) rfl ?_
   refine bS rfl rfl rfl rfl rfl rfl rfl (fun _=>rfl) fun g5=>?_
   refine bu (n:=ts.length) (m:=1) (off:=0) (news:=jg [⟨bW nr k,ph,wk,dg (N.arcs.zip f1) N.snk⟩]) 9 0 rfl rfl rfl rfl rfl rfl (by decide) rfl rfl (aF g5 _ _ (0,0)) (fun _=>rfl) rfl rfl (by omega) (by omega) (fun _ _=>rfl) fun A2 c2=>?_
   refine aE 8 rfl rfl rfl rfl rfl [] rfl ?_
   refine ai ⟨⟨f1,A1,c1,ts++[⟨bW nr k,ph,wk,dg (N.arcs.zip f1) N.snk⟩],A2,c2⟩,.step hS hk hdn,?_⟩
   simp only[tL,List.length_append,List.length_cons,List.length_nil]
   exact aL.picks [3,4,5,6,2,8,9,10,11,12] (by decide) rfl
  ·rintro D a w ⟨f,Af,cf,ts,At,ct⟩ y hS hA hH
   simp only at hS hH
   show Code.wp Tryz.prog _ _ a w
   refine yv (fn:=Tryz.f41) (E:=[(9,.pointer (some ⟨p9,0,none⟩)),(8,.pointer (some ⟨p8,0,none⟩))]) (H:=[.obj D mD,blk pc 2 [.int .i64 y],blk p8 29 [.slice Af f.length cf],.own (.slice Af f.length cf) 2 1 f.length (az f),blk p9 80 [.slice At ts.length ct],.own (.slice At ts.length ct) 143 4 ts.length (jg ts),blk p2 27 (bQ N A c),blk p3 5 [.int .u8 sg],.seg b o (arcs N.arcs)]) (D:=D) ?_ (hA.ents _ ⟨rfl,rfl,trivial⟩) hH
   refine ad ?_
   refine bz 5 [(0,true),(1,true),(2,true),(3,true),(4,true)] [2,4] (by kernel_rfl) (by decide) rfl ?_
   refine aj [] rfl (af (v:=.slice Af f.length cf) 0 rfl rfl rfl rfl) rfl ?_
   refine aj [] rfl (af (v:=.slice At ts.length ct) 1 rfl rfl rfl rfl) rfl ?_
   refine dH [] rfl ?_
   refine ai ?_
   refine ay ?_
   refine⟨.inr rfl,[.own (.slice Af f.length cf) 2 1 f.length (az f),.own (.slice At ts.length ct) 143 4 ts.length (jg ts)],[0,3,5],by decide,rfl,_,rfl,f,ts,Af,cf,At,ct,hS,rfl,rfl⟩
end Go.Proofs.YtpbmihpjgjbndaaGreatDoor
/- Two rows that are the same. -/
set_option linter.unusedVariables false
set_option linter.unusedSimpArgs false
namespace Go.Proofs.YtpbmihpjgjbndaaGreatDoor
open Go.RowKit
end Go.Proofs.YtpbmihpjgjbndaaGreatDoor
/- Chapter 13's example, step by step. -/
set_option linter.unusedVariables false
set_option linter.unusedSimpArgs false
namespace Go.Proofs.YtpbmihpjgjbndaaGreatDoor
open Go.RowKit
end Go.Proofs.YtpbmihpjgjbndaaGreatDoor
/- Chapter 13's networks of raw numbers. -/
set_option linter.unusedVariables false
set_option linter.unusedSimpArgs false
namespace Go.Proofs.YtpbmihpjgjbndaaGreatDoor
open Go.RowKit
end Go.Proofs.YtpbmihpjgjbndaaGreatDoor
/- What the laws of the halves need of turns. -/
set_option linter.unusedVariables false
set_option linter.unusedSimpArgs false
namespace Go.Proofs.YtpbmihpjgjbndaaGreatDoor
open Go.RowKit
end Go.Proofs.YtpbmihpjgjbndaaGreatDoor
