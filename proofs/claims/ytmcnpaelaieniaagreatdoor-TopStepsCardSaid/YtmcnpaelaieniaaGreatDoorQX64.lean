import Derived.Test.YtmcnpaelaieniaaGreatDoorQX114
import Derived.Test.YtmcnpaelaieniaaGreatDoorQX100
import Derived.Test.YtmcnpaelaieniaaGreatDoorQB
/- A part of the proof; see NOTES.md. -/
set_option linter.unusedVariables false
set_option linter.unusedSimpArgs false
namespace Go.Proofs.YtmcnpaelaieniaaGreatDoor
open Go.RowKit
open Lib
def Et:cR:=[124,32,112,32,109,97,120,32,50,32,49,10,124,32,110,32,49,32,115,10,124,32,110,32,50,32,116,10,124,32,97,32,49,32,50,32,53,10,108,111,97,100,10,115,111,108,118,101,32,116,10,99,104,101,99,107,10,105,116,101,109,115]
theorem nJ:aP Et=Fe++Fi++[Ed]:=by decide+kernel
theorem BN{v:Value}{H':Heap}(h:D9 Et v H'):∃ (A:OA) (c:Nat) (A0 A1 A2 A3 A4 A5 A6 A7:OA) (c0 c1 c2 c3 c4 c5 c6 c7:Nat),v=.slice A 8 c/\H'=BY A c [⟨A0,c0,[]⟩,⟨A1,c1,[]⟩,⟨A2,c2,[]⟩,⟨A3,c3,[]⟩,⟨A4,c4,w5⟩,⟨A5,c5,[Fl]⟩,⟨A6,c6,w5⟩,⟨A7,c7,[Fg]⟩]:=by
 obtain⟨rows,A,c,h1,_,rfl,rfl⟩:=h;obtain⟨q,t,ht⟩:=h1 (by decide) (by rw[nJ];decide);rw[nJ] at ht;have hr:=wj ht
 match rows,hr with
 |[⟨A0,c0,_⟩,⟨A1,c1,_⟩,⟨A2,c2,_⟩,⟨A3,c3,_⟩,⟨A4,c4,_⟩,⟨A5,c5,_⟩,⟨A6,c6,_⟩,⟨A7,c7,_⟩],hr=>
  simp only[GM,HC,HV,IZ] at hr;obtain⟨rfl,rfl,rfl,rfl,rfl,rfl,rfl,rfl⟩:=hr;exact⟨A,c,A0,A1,A2,A3,A4,A5,A6,A7,c0,c1,c2,c3,c4,c5,c6,c7,rfl,rfl⟩
 |[],hr|[_],hr|[_,_],hr|[_,_,_],hr|[_,_,_,_],hr|[_,_,_,_,_],hr|[_,_,_,_,_,_],hr|[_,_,_,_,_,_,_],hr=>simp at hr
 |_::_::_::_::_::_::_::_::_::_,hr=>simp at hr
set_option maxHeartbeats 1000000 in
theorem zX(V:cj):Fn 11 [] [] V.heap λ v H'=>v=.bool true/\H'=[]:=by
 refine aH Tryz.func11 rfl rfl λ w0=>?_;refine ad (aa (ae [] rfl ?_));refine ad (aa ?_)
 refine cL [] (By V (FY V) Et (by decide) (λ _ _ l hl=>by
  rw[nJ] at hl;refine⟨hl,?_⟩;have:∀ x∈Fe++Fi++[Ed],x.length<=3000:=by decide
  exact this l hl)) rfl rfl rfl rfl (by kernel_rfl) ⟨⟨0,by simp[cj.heap],rfl⟩,⟨1,by simp[cj.heap],rfl⟩,⟨2,by simp[cj.heap],rfl⟩,an⟩ (λ _=>rfl) ?_
 rintro v H' hq;obtain⟨A,c,A0,A1,A2,A3,A4,A5,A6,A7,c0,c1,c2,c3,c4,c5,c6,c7,rfl,rfl⟩:=BN hq;refine⟨rfl,?_⟩;refine ae [] rfl ?_;refine bv (a8 0 rfl) λ ⟨_,_,hA,_⟩=>?_;obtain⟨g,rfl⟩:=hA (Nat.succ_pos _);refine bv (a8 6 rfl) λ ⟨_,_,h5,_⟩=>?_;obtain⟨g5,rfl⟩:=h5 (Nat.succ_pos _);refine bv (a8 7 rfl) λ ⟨_,_,h6,_⟩=>?_;obtain⟨g6,rfl⟩:=h6 (Nat.succ_pos _);refine bv (a8 8 rfl) λ ⟨_,_,h7,_⟩=>?_;obtain⟨g7,rfl⟩:=h7 (Nat.succ_pos _);refine ad (aa (ah [] rfl ?_));refine bj 6 rfl (by decide) ?_;refine ah [3] rfl ?_;refine ab [3] (v:=.pointer (some ⟨g,5,none⟩)) (aG (m:=5) rfl (by decide)) rfl ?_;refine ab [3] (v:=.slice (some ⟨g5,0,none⟩) 1 c5) (aE 0 rfl rfl rfl rfl) rfl ?_;refine ah [3] rfl ?_;refine bj 13 rfl (by decide) ?_;refine ah [3,10] rfl ?_;refine ab [3,10] (v:=.pointer (some ⟨g,5,none⟩)) (aG (m:=5) rfl (by decide)) rfl ?_;refine ab [3,10] (v:=.slice (some ⟨g5,0,none⟩) 1 c5) (aE 0 rfl rfl rfl rfl) rfl ?_;refine ah [3,10] rfl ?_;refine ab [3,10] (v:=.pointer (some ⟨g5,0,none⟩)) (aG (m:=0) rfl (by decide)) rfl ?_;refine ab [3,10] (v:=dK Fl) (aE 6 rfl rfl rfl rfl) rfl ?_;refine ah [3,10] rfl ?_;refine aI 21 (v':=.bool true) rfl (Gz Value.bool ((dh _ Fl).trans (aT rfl))) ?_;refine ah [3,10,18] rfl ?_;refine ab [3,10,18] (v:=.pointer (some ⟨g,6,none⟩)) (aG (m:=6) rfl (by decide)) rfl ?_;refine ab [3,10,18] (v:=.slice (some ⟨g6,0,none⟩) 1 c6) (aE 0 rfl rfl rfl rfl) rfl ?_;refine ah [3,10,18] rfl ?_;refine bj 28 rfl (by decide) ?_;refine ah [3,10,18,25] rfl ?_;refine ab [3,10,18,25] (v:=.pointer (some ⟨g,6,none⟩)) (aG (m:=6) rfl (by decide)) rfl ?_;refine ab [3,10,18,25] (v:=.slice (some ⟨g6,0,none⟩) 1 c6) (aE 0 rfl rfl rfl rfl) rfl ?_;refine ah [3,10,18,25] rfl ?_;refine ab [3,10,18,25] (v:=.pointer (some ⟨g6,0,none⟩)) (aG (m:=0) rfl (by decide)) rfl ?_;refine ab [3,10,18,25] (v:=dK [111,107]) (aE 7 rfl rfl rfl rfl) rfl ?_;refine ah [3,10,18,25] rfl ?_;refine aI 36 (v':=.bool true) rfl (Gz Value.bool ((dh _ [111,107]).trans (aT rfl))) ?_;refine ah [3,10,18,25,33] rfl ?_;refine ab [3,10,18,25,33] (v:=.pointer (some ⟨g,7,none⟩)) (aG (m:=7) rfl (by decide)) rfl ?_;refine ab [3,10,18,25,33] (v:=.slice (some ⟨g7,0,none⟩) 1 c7) (aE 0 rfl rfl rfl rfl) rfl ?_;refine ah [3,10,18,25,33] rfl ?_;refine bj 43 rfl (by decide) ?_;refine ah [3,10,18,25,33,40] rfl ?_;refine ab [3,10,18,25,33,40] (v:=.pointer (some ⟨g,7,none⟩)) (aG (m:=7) rfl (by decide)) rfl ?_;refine ab [3,10,18,25,33,40] (v:=.slice (some ⟨g7,0,none⟩) 1 c7) (aE 0 rfl rfl rfl rfl) rfl ?_;refine ah [3,10,18,25,33,40] rfl ?_;refine ab [3,10,18,25,33,40] (v:=.pointer (some ⟨g7,0,none⟩)) (aG (m:=0) rfl (by decide)) rfl ?_;refine ab [3,10,18,25,33,40] (v:=dK Fg) (aE 8 rfl rfl rfl rfl) rfl ?_;refine ah [3,10,18,25,33,40] rfl ?_;refine ai ?_;exact aA [] (by decide) rfl (ax ⟨_,rfl,Gz Value.bool ((dh _ Fg).trans (aT rfl)),rfl⟩)
def cC(N:aO):Nat->aO
 |0=>N
 |i+1=>⟨(cC N i).nodes+1,N.src,N.snk,((cC N i).arcs++[⟨if i=0 then N.src else (cC N i).nodes,(cC N i).nodes+1,1+((i%7:Nat):Int)⟩])++[⟨(cC N i).nodes+1,N.snk,((i%3:Nat):Int)⟩]⟩
theorem ir(N:aO):∀ k,(cC N k).nodes=N.nodes+k/\(cC N k).src=N.src/\(cC N k).snk=N.snk/\(cC N k).arcs.length=N.arcs.length+2*k/\((cC N k).arcs.map (·.cap)).sum<=(N.arcs.map (·.cap)).sum+10*k
 |0=>⟨by simp[cC],rfl,rfl,rfl,by simp[cC]⟩
 |i+1=>by
  obtain⟨h1,h2,h3,h4,h5⟩:=ir N i;unfold cC;refine⟨?_,rfl,rfl,?_,?_⟩
  ·simp only;omega
  ·simp only[GE,GG,GX];omega
  ·simp only[G5,IL,GM,HC,GY,List.sum_nil];have:i%7<7:=Nat.mod_lt _ (by decide);have:i%3<3:=Nat.mod_lt _ (by decide);omega
theorem tx{N:aO}(hR:N.Right):∀ k,∀ a∈(cC N k).arcs,(1<=a.fr/\a.fr<=N.nodes+k)/\(1<=a.to/\a.to<=N.nodes+k)/\0<=a.cap
 |0,a,ha=>by have:=hR.arc a ha;simp only[Int.natCast_zero,Int.add_zero];exact this
 |i+1,a,ha=>by
  have h1:=(ir N i).1;have hs:=hR.src;have hk:=hR.snk;unfold cC at ha
  rcases GK.1 ha with ha|ha
  ·rcases GK.1 ha with ha|ha
   ·have:=tx hR i a ha;omega
   ·rw[GF.1 ha];simp only;refine⟨?_,by omega,by omega⟩;split<;>omega
  ·rw[GF.1 ha];simp only;omega
theorem wL:∀ (l:List dM),(∀ a∈l,a.cap<=1000000)->(l.map (·.cap)).sum<=l.length*1000000
 |[],_=>by simp
 |a::l,h=>by
  have h1:=wL l λ x hx=>h x (by simp[hx]);have h2:=h a (by simp);rw[GM,GY,GG];omega
theorem wg{N:aO}(hR:N.Right)(hn:N.nodes<=9)(ha:N.arcs.length<=24)(hc:∀ a∈N.arcs,a.cap<=1000000){k:Nat}(hk:k<=40):(cC N k).Right:=by
 obtain⟨h1,h2,h3,h4,h5⟩:=ir N k;have hs:=hR.src;have hk':=hR.snk;have hnn:=hR.nodes;have:=wL N.arcs hc;refine⟨by omega,by omega,by omega,by rw[h2,h3];exact hR.diff,by omega,λ a hm=>?_,by omega⟩;rw[h1];exact tx hR k a hm
theorem Dx{N:aO}(hR:N.Right){p k:Nat}{f:LI}(h:Dn N 1 (List.replicate N.arcs.length 0) p k f)(hp:0<p):0<N.arcs.length:=by
 refine Nat.pos_of_ne_zero λ h0=>?_;obtain⟨h1,h2,h3,_⟩:=h.keeps hR (by decide) (fG N hR);have e0:N.arcs=[]:=GT.1 h0;rw[e0] at h2;simp[da] at h2;omega
theorem fI{c n:Int}(hc:bU c)(hn:0<n):Fn 13 [.int .i64 c,.int .i64 n] [] [] λ v H'=>v=.int .i64 (eG c n)/\H'=[]:=by
 unfold bU at hc;refine aH Tryz.func13 rfl rfl λ w0=>?_;refine ad (aa (ae [] rfl ?_));refine eS [(0,.int .i64 (if c<0 then-(c+1) else c)),(1,.int .i64 n)] [] ?_ ?_
 ·refine ad (aa (ae [] rfl ?_));refine aC rfl (λ h=>?_) (λ h=>aq ?_)
  ·refine aa (ae [] rfl ?_);refine⟨[],⟨?_,rfl,an⟩,by decide,rfl⟩;show some (Value.int .i64 (IntKind.i64.wrap (0-IntKind.i64.wrap (c+1))))=_;rw[if_pos h,b5 (n:=c+1) (by omega),b5 (by omega),Int.zero_sub]
  ·exact⟨[],⟨by rw[if_neg h];rfl,rfl,an⟩,by decide,rfl⟩
 refine ad (aa (ah [] rfl ?_));refine ab [] (xE rfl rfl rfl (by omega)) rfl ?_;refine ae [] rfl ?_;refine ax ⟨_,rfl,Gz (Value.int .i64) ?_,rfl⟩;unfold eG;rw[ID (by split<;>omega)]
theorem B6(nodes ends:Int)(hn:bU nodes)(he:bU ends)(A:OA)(c b o:Nat)(l:List dM)(hA:l≠[]->A=some ⟨b,o,none⟩)(hl:∀ x∈l,bU x.fr/\bU x.to/\bU x.cap)(hs:l.length<=9223372036854775807):
 Fn 12 [.int .i64 nodes,.int .i64 ends,.slice A l.length c] [] [.seg b o (arcs l)] λ v H'=>∃ (N:aO) (A':OA) (c':Nat),N.Right/\N.nodes<=9/\N.arcs.length<=24/\(∀ a∈N.arcs,a.cap<=1000000)/\v=bx N A' c'/\
  H'=[.own (.slice A' N.arcs.length c') 37 3 N.arcs.length (arcs N.arcs)]:=by
 refine iB Tryz.func12 rfl rfl λ w0=>?_;refine ad (aa ?_);refine bu rfl rfl rfl (λ _=>rfl) λ b6=>?_;refine ai ?_;have hp1:=gL (c:=nodes) (n:=8) (by decide);refine ad (aa (ah [] rfl ?_));refine ao [] (fI hn (by decide)) rfl (by kernel_rfl) an (λ _=>rfl) ?_;rintro v H' ⟨rfl,rfl⟩;refine⟨rfl,?_⟩;refine ah [] rfl ?_;obtain⟨nn,hnn⟩:∃ x,x=2+eG nodes 8:=⟨_,rfl⟩;refine aI 12 (v':=.int .i64 nn) rfl (Gz (Value.int .i64) ((b5 (by omega)).trans hnn.symm)) ?_;refine ah [] rfl ?_;refine ab [] (be rfl rfl rfl rfl rfl rfl) rfl ?_;refine bu rfl rfl rfl (λ _=>rfl) λ b7=>?_;refine aB 0 rfl [] rfl ?_;refine ai ?_;refine ad (aa (ah [] rfl ?_));refine ab [] (af 0 rfl) rfl ?_;refine ah [] rfl ?_;have hp2:=gL (c:=ends) (n:=nn) (by omega);refine ao [] (fI he (by omega:0<nn)) rfl (by kernel_rfl) an (λ _=>rfl) ?_;rintro v H' ⟨rfl,rfl⟩;refine⟨rfl,?_⟩;refine ah [] rfl ?_;obtain⟨src,hsrc⟩:∃ x,x=1+eG ends nn:=⟨_,rfl⟩;refine aI 18 (v':=.int .i64 src) rfl (Gz (Value.int .i64) ((b5 (by omega)).trans hsrc.symm)) ?_;refine ah [] rfl ?_;refine aB 0 rfl [] rfl ?_;refine ai ?_;refine ad ?_;refine bq 14 (cY [0,1,2,3,4,5,6,9,10]++[(7,false)]++cY [8,11,12,13]) [0] (by kernel_rfl) (by decide) rfl ?_;refine az [] rfl ?_;refine aj [] rfl (af 0 rfl) rfl ?_;refine az [] rfl ?_;refine aj [] rfl (af 0 rfl) rfl ?_;refine az [] rfl ?_;refine aj [] rfl (af 0 rfl) rfl ?_;have hp3:=gL (c:=ends.tdiv 16) (n:=nn-1) (by omega);have ht:=o9 ends (m:=16) (by decide);have hq:bU (ends.tdiv 16):=by unfold bU at*;omega
 refine az [] rfl ?_;refine dr 23 (v':=.int .i64 (ends.tdiv 16)) rfl (Gz (Value.int .i64) (b5 hq)) ?_;refine dr 26 (v':=.int .i64 (nn-1)) rfl (Gz (Value.int .i64) (b5 (by omega))) ?_;refine aY rfl ?_;refine ao [] (fI hq (by omega:0<nn-1)) rfl (by kernel_rfl) an (λ _=>rfl) ?_;rintro v H' ⟨rfl,rfl⟩;refine⟨rfl,ai ⟨⟨[0],by decide,rfl⟩,?_⟩⟩;refine az [] rfl ?_;refine dr 28 (v':=.int .i64 (src+eG (ends.tdiv 16) (nn-1))) rfl (Gz (Value.int .i64) (b5 (by omega))) ?_;refine aj [] rfl (xE rfl rfl rfl (by omega)) rfl ?_;obtain⟨snk,hsnk⟩:∃ x,x=1+(src+eG (ends.tdiv 16) (nn-1))%nn:=⟨_,rfl⟩;have hm1:=Int.emod_nonneg (src+eG (ends.tdiv 16) (nn-1)) (show nn≠0 by omega);have hm2:=Int.emod_lt_of_pos (src+eG (ends.tdiv 16) (nn-1)) (show 0<nn by omega)
 have hdiff:src≠snk:=by
  intro e;by_cases hlt:src+eG (ends.tdiv 16) (nn-1)<nn
  ·rw[Int.emod_eq_of_lt (by omega) hlt] at hsnk;omega
  ·have:(src+eG (ends.tdiv 16) (nn-1))%nn=src+eG (ends.tdiv 16) (nn-1)-nn:=by
    rw[<- Int.sub_emod_right,Int.emod_eq_of_lt (by omega) (by omega)]
   rw[this] at hsnk;omega
 refine az [] rfl ?_;refine dr 32 (v':=.int .i64 snk) rfl (Gz (Value.int .i64) ?_) ?_
 ·rw[ID (by omega),b5 (by omega),hsnk]
 refine bp ?_;refine aB 0 rfl [] rfl ?_;refine ai ?_;refine ad (ad (aa (ae [] rfl ?_)));refine av ?_;refine cd 37 3 ?_
 refine bP (σ:=Nat×OA×Nat×List dM) (λ s=>[(8,.int .i64 s.1),(7,.pointer (some ⟨b7,0,none⟩)),(2,.slice A l.length c),(6,.pointer (some ⟨b6,0,none⟩))])
  (λ s=>[.own (.slice s.2.1 s.2.2.2.length s.2.2.1) 37 3 s.2.2.2.length (arcs s.2.2.2),blk b7 33 [.int .i64 nn,.int .i64 src,.int .i64 snk,.slice s.2.1 s.2.2.2.length s.2.2.1],
   blk b6 33 [.int .i64 0,.int .i64 0,.int .i64 0,.slice none 0 0],.seg b o (arcs l)])
  (λ s=>s.1<=l.length/\s.1<=24/\s.2.2.2.length=s.1/\∀ a∈s.2.2.2,(1<=a.fr/\a.fr<=nn)/\(1<=a.to/\a.to<=nn)/\0<=a.cap/\a.cap<=1000000) (λ s=>l.length-s.1)
  (0,none,0,[]) [0,1,2,3] ⟨rfl,rfl,rfl,rfl,an⟩ (by decide) rfl ⟨GI _,GI _,rfl,λ a ha=>by cases ha⟩ ?_
 rintro⟨k,A1,c1,r⟩ ⟨hk,hk24,hrk,hr⟩;simp only at hk hk24 hrk hr ⊢;refine ad ?_
 refine eS [(41,.bool (dk (k<l.length/\k<24))),(8,.int .i64 k),(7,.pointer (some ⟨b7,0,none⟩)),(2,.slice A l.length c),(6,.pointer (some ⟨b6,0,none⟩))]
  [.own (.slice A1 r.length c1) 37 3 r.length (arcs r),blk b7 33 [.int .i64 nn,.int .i64 src,.int .i64 snk,.slice A1 r.length c1],blk b6 33 [.int .i64 0,.int .i64 0,.int .i64 0,.slice none 0 0],.seg b o (arcs l)] ?_ ?_
 ·skip
  refine aa (ah [] rfl ?_);by_cases h1:k<l.length
  ·refine bj 38 rfl (by omega) ?_;refine ae [4] rfl ?_;refine⟨[0,1,2,3],⟨?_,rfl,rfl,rfl,rfl,an⟩,by decide,rfl⟩;exact Gz some (Gz Value.bool (em (by omega)))
  ·refine bd 38 rfl (by omega) ?_;refine ae [4] rfl ?_;refine⟨[0,1,2,3],⟨?_,rfl,rfl,rfl,rfl,an⟩,by decide,rfl⟩;exact Gz some (Gz Value.bool (aZ (by omega)).symm)
 refine aC rfl (λ hlt=>aq ?_) (λ hge=>a9 ?_)
 ·obtain⟨hlt,hlt24⟩:=hlt;obtain rfl:=hA (by rintro rfl;simp at hlt);obtain⟨⟨fr,tz,cap⟩,hx⟩:∃ x,l[k]?=some x:=⟨l[k],List.getElem?_eq_getElem hlt⟩;have hB:=hl _ (List.mem_of_getElem? hx);simp only at hB;obtain⟨hx0,hx1,hx2⟩:=eg hx;refine ad (av ?_);refine ad (aa (ah [] rfl ?_));refine ab [] (eo rfl hlt) rfl ?_;refine ah [] rfl ?_;refine ab [] (bc 3 rfl rfl hx2) rfl ?_;refine ao [] (fI hB.2.2 (by decide)) rfl (by kernel_rfl) trivial (fun _=>rfl) ?_;rintro v H' ⟨rfl,rfl⟩;refine⟨rfl,?_⟩;refine ae [] rfl ?_;have c1':=gL (c:=cap) (n:=21) (by decide);have c2':=gL (c:=cap) (n:=1000000) (by decide);have htd:=o9 cap (m:=21) (by decide);have hq3:bU (cap.tdiv 21):=by have:=hB.2.2;unfold bU at*;omega
  obtain⟨cp,hcp⟩:∃ x,x=if eG (cap.tdiv 21) 9=0 then eG cap 1000000 else eG cap 21:=⟨_,rfl⟩
  refine eS [(9,.int .i64 cp),(8,.int .i64 k),(7,.pointer (some ⟨b7,0,none⟩)),(2,.slice (some ⟨b,o,none⟩) l.length c),(6,.pointer (some ⟨b6,0,none⟩))]
   [.own (.slice A1 r.length c1) 37 3 r.length (arcs r),blk b7 33 [.int .i64 nn,.int .i64 src,.int .i64 snk,.slice A1 r.length c1],blk b6 33 [.int .i64 0,.int .i64 0,.int .i64 0,.slice none 0 0],.seg b o (arcs l)] ?_ ?_
  ·refine ad (aa (ah [] rfl ?_));refine ab [] (eo rfl hlt) rfl ?_;refine ah [] rfl ?_;refine ab [] (bc 3 rfl rfl hx2) rfl ?_;refine ah [] rfl ?_;refine aI 55 (v':=.int .i64 (cap.tdiv 21)) rfl (congrArg (Value.int .i64) (b5 hq3)) ?_;refine ao [] (fI hq3 (by decide)) rfl (by kernel_rfl) trivial (fun _=>rfl) ?_;rintro v H' ⟨rfl,rfl⟩;refine⟨rfl,?_⟩;refine ae [] rfl ?_;refine aC rfl (fun h=>?_) (fun h=>aq ?_)
   ·refine aa (ah [] rfl ?_);refine ab [] (eo rfl hlt) rfl ?_;refine ah [] rfl ?_;refine ab [] (bc 3 rfl rfl hx2) rfl ?_;refine ao [] (fI hB.2.2 (by decide)) rfl (by kernel_rfl) an (λ _=>rfl) ?_;rintro v H' ⟨rfl,rfl⟩;refine⟨rfl,?_⟩;refine ae [] rfl ?_;exact⟨[0,1,2,3],⟨by rw[hcp,if_pos h];rfl,rfl,rfl,rfl,rfl,an⟩,by decide,rfl⟩
   ·exact⟨[0,1,2,3],⟨by rw[hcp,if_neg h];rfl,rfl,rfl,rfl,rfl,an⟩,by decide,rfl⟩
  have hcp0:0<=cp/\cp<=1000000:=by split at hcp<;>omega
  have f1:=gL (c:=fr) (n:=nn) (by omega);have f2:=gL (c:=tz) (n:=nn) (by omega);refine bq 25 (cY [0,1,2,3,4,5,6,7,8,11,12,13,14,15,16,17,20]++[(9,false)]++cY [10]++[(18,false)]++cY [19,21]++[(22,false),(23,false)]++cY [24]) [1,3] (by kernel_rfl) (by decide) rfl ?_;refine az [] rfl ?_;refine aj [] rfl (af 0 rfl) rfl ?_;refine az [] rfl ?_;refine aj [] rfl (eo rfl hlt) rfl ?_;refine az [] rfl ?_;refine aj [] rfl (bc 1 rfl rfl hx0) rfl ?_;refine az [] rfl ?_;refine aj [] rfl (af 0 rfl) rfl ?_;refine az [] rfl ?_;refine aj [] rfl (eo rfl hlt) rfl ?_;refine az [] rfl ?_;refine aj [] rfl (bc 1 rfl rfl hx1) rfl ?_;refine az [] rfl ?_;refine aj [] rfl (af 0 rfl) rfl ?_;refine az [] rfl ?_;refine aY rfl ?_;refine ao [] (fI hB.1 (by omega:0<nn)) rfl (by kernel_rfl) an (λ _=>rfl) ?_;rintro v H' ⟨rfl,rfl⟩;refine⟨rfl,ai ⟨⟨[1,3],by decide,rfl⟩,?_⟩⟩;refine az [] rfl ?_;refine dr 74 (v':=.int .i64 (1+eG fr nn)) rfl (Gz (Value.int .i64) (b5 (by omega))) ?_;refine aY rfl ?_;refine ao [] (fI hB.2.1 (by omega:0<nn)) rfl (by kernel_rfl) an (λ _=>rfl) ?_;rintro v H' ⟨rfl,rfl⟩;refine⟨rfl,ai ⟨⟨[1,3],by decide,rfl⟩,?_⟩⟩;refine az [] rfl ?_;refine dr 83 (v':=.int .i64 (1+eG tz nn)) rfl (Gz (Value.int .i64) (b5 (by omega))) ?_;refine aj [] rfl (be rfl rfl rfl rfl rfl rfl) rfl ?_;refine aY rfl ?_;refine bC rfl rfl rfl rfl rfl rfl rfl (λ _=>rfl) λ g=>?_;refine ai ⟨⟨[2,4],by decide,rfl⟩,?_⟩;refine aY rfl ?_;refine bn (off:=0) (m:=1) (news:=arcs [⟨1+eG fr nn,1+eG tz nn,cp⟩]) 1 0 rfl rfl rfl rfl rfl rfl (by decide) rfl rfl (aD g _ _ (0,0)) (λ _=>rfl) rfl rfl (by omega) (by omega) (λ _ _=>rfl) λ A2 c2=>?_;refine ai ⟨⟨[2,4],by decide,rfl⟩,?_⟩;refine az [] rfl ?_;refine bp ?_;refine aB 2 rfl [] rfl ?_;refine ai ?_;refine aa (ae [] rfl ?_);refine⟨(k+1,A2,c2,r++[⟨1+eG fr nn,1+eG tz nn,cp⟩]),[1,2,3,4],⟨?_,rfl,rfl,rfl,an⟩,by decide,?_,⟨by simp only;omega,by simp only;omega,by simp only[GE];simp;omega,?_⟩,by simp only;omega⟩
  ·show some (Value.int .i64 (IntKind.i64.wrap ((k:Int)+1)))=_;rw[b5 (by omega)];rfl
  ·simp only[tM,GE];rfl
  ·intro a ha
   rcases GK.1 ha with ha|ha
   ·exact hr a ha
   ·obtain rfl:=GF.1 ha;simp only;omega
 ·refine ad (aa ?_);refine ab [] (af 1 rfl) rfl ?_;refine aB 2 rfl [] rfl ?_;refine ai ?_;refine ax ?_;refine⟨[bx ⟨nn,src,snk,r⟩ A1 c1],[0],_,⟨⟨b6,2,_,_,rfl,rfl,rfl⟩,trivial⟩,by decide,rfl,⟨nn,src,snk,r⟩,A1,c1,⟨by simp only;omega,by simp only;omega,by simp only;omega,hdiff,by simp only;omega,fun a ha=>⟨(hr a ha).1,(hr a ha).2.1,(hr a ha).2.2.1⟩,?_⟩,by simp only;omega,by simp only;omega,fun a ha=>(hr a ha).2.2.2,rfl,rfl⟩
  have hsum:∀ (l:List dM),(∀ a∈l,a.cap<=1000000)->(l.map (·.cap)).sum<=1000000*l.length:=by
   intro l
   induction l with
   |nil=>intro _;simp
   |cons x l ih=>
    intro h;have h1:=ih λ a ha=>h a (by simp[ha]);have h2:=h x (by simp);simp only[GM,GY,GG];omega
  have:=hsum r λ a ha=>(hr a ha).2.2.2;simp only;omega
end Go.Proofs.YtmcnpaelaieniaaGreatDoor
