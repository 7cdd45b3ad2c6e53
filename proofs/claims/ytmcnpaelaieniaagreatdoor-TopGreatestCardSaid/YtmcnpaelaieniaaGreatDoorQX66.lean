import Derived.Test.YtmcnpaelaieniaaGreatDoorQC
import Derived.Test.YtmcnpaelaieniaaGreatDoorQB
import Derived.Test.YtmcnpaelaieniaaGreatDoorQX83
/- A part of the proof; see NOTES.md. -/
set_option linter.unusedVariables false
set_option linter.unusedSimpArgs false
namespace Go.Proofs.YtmcnpaelaieniaaGreatDoor
open Go.RowKit
structure cD where
 N:aU
 f:LI
 s:LI
 a:Bool
 b:Bool
 d:Bool
 An:OA
 cn:Nat
 Af:OA
 cf:Nat
 As:OA
 cs:Nat
def cD.cells(m:cD):LV_:=[.int .i64 m.N.nodes,.int .i64 m.N.src,.int .i64 m.N.snk,.slice m.An m.N.arcs.length m.cn,.slice m.Af m.f.length m.cf,.slice m.As m.s.length m.cs,.bool m.a,.bool m.b,.bool m.d]
def zm:cD:=⟨⟨0,0,0,[]⟩,[],[],false,false,false,none,0,none,0,none,0⟩
theorem wZ:Fn 20 [] [] [] λ v H'=>∃ p:Nat,v=.pointer (some ⟨p,0,none⟩)/\H'=[blk p 97 zm.cells]:=by
 refine aJ Tryz.func20 rfl rfl λ w0=>?_;refine ad (aa (ae [] rfl ?_));refine ad (aa ?_);refine ab [] (bz rfl rfl rfl rfl rfl rfl) rfl ?_;refine bx (cs:=zm.cells) rfl rfl rfl (λ _=>rfl) λ p=>?_;refine ae [] rfl ?_;exact az [0] (by decide) rfl (ay ⟨_,rfl,p,rfl,rfl⟩)
def wh(c:Bool):Value:=.func (.func (bif c then 128 else 127)) #[] #[]
def cD.has(m:cD)(c:Bool):Bool:=bif c then m.d else m.b
theorem wg(m:cD)(p:Nat):Fn 127 [.pointer (some ⟨p,0,none⟩)] [] [.seg p 0 m.cells] λ v H'=>v=.bool m.b/\H'=[]:=by
 refine aJ Tryz.func127 rfl rfl λ w0=>?_;refine ad (aa (ae [] rfl ?_));refine ad (aa (ah [] rfl ?_));refine ab [] (a8 (i:=7) (v:=.bool m.b) 0 rfl rfl rfl) rfl ?_;refine ae [] rfl ?_;exact az [] (by decide) rfl (ay ⟨_,rfl,rfl,rfl⟩)
theorem zz(m:cD)(p:Nat):Fn 128 [.pointer (some ⟨p,0,none⟩)] [] [.seg p 0 m.cells] λ v H'=>v=.bool m.d/\H'=[]:=by
 refine aJ Tryz.func128 rfl rfl λ w0=>?_;refine ad (aa (ae [] rfl ?_));refine ad (aa (ah [] rfl ?_));refine ab [] (a8 (i:=8) (v:=.bool m.d) 0 rfl rfl rfl) rfl ?_;refine ae [] rfl ?_;exact az [] (by decide) rfl (ay ⟨_,rfl,rfl,rfl⟩)
theorem zU(m:cD)(p q:Nat)(c:Bool):Fn 85 [wh c,.pointer (some ⟨q,0,none⟩)] [] [.seg q 0 [.pointer (some ⟨p,0,none⟩)],.seg p 0 m.cells] λ v H'=>v=.bool (!m.has c)/\H'=[]:=by
 refine aJ Tryz.func85 rfl rfl λ w0=>?_;refine ad (aa (ae [] rfl ?_));refine ad (aa (ah [] rfl ?_));refine ab [] (a8 (i:=0) 0 rfl rfl rfl) rfl ?_
 cases c with
 |false=>
  refine ap (fst:=[]) (cap:=[]) [] (wg m p) rfl (by kernel_rfl) ⟨⟨1,_,by simp,rfl,ak _ _ _,av⟩,an⟩ (λ _=>rfl) ?_;rintro v H' ⟨rfl,rfl⟩;refine⟨rfl,?_⟩;refine ae [] rfl ?_;exact az [] (by decide) rfl (ay ⟨_,rfl,rfl,rfl⟩)
 |true=>
  refine ap (fst:=[]) (cap:=[]) [] (zz m p) rfl (by kernel_rfl) ⟨⟨1,_,by simp,rfl,ak _ _ _,av⟩,an⟩ (λ _=>rfl) ?_;rintro v H' ⟨rfl,rfl⟩;refine⟨rfl,?_⟩;refine ae [] rfl ?_;exact az [] (by decide) rfl (ay ⟨_,rfl,rfl,rfl⟩)
theorem Aj{l:LB}{i:Nat}{x:Bool}(h:l[i]?=some x):(l.map wh)[i]?=some (wh x):=by simp[h]
theorem CN(m:cD)(p q:Nat)(l:LB)(hl:l.length<=10)(A:OA)(n c b o:Nat)(hA:l≠[]->A=some ⟨b,o,none⟩)(hn:n=l.length):
 Fn 112 [.slice A n c,.func (.func 85) #[] #[.pointer (some ⟨q,0,none⟩)]] [] [.seg q 0 [.pointer (some ⟨p,0,none⟩)],.seg p 0 m.cells,.seg b o (l.map wh)] λ v H'=>(∃ x:Int,v=.int .i64 x/\(0<=x↔∃ c∈l,m.has c=false))/\H'=[]:=by
 subst hn;refine aJ Tryz.func112 rfl rfl λ w0=>?_;refine ad (aa (ae [] rfl ?_));refine ad (ad (aa (ae [] rfl ?_)));refine au ?_
 refine bO (σ:=Nat) (λ k=>[(8,.int .i64 k),(7,.int .i64 l.length),(1,.func (.func 85) #[] #[.pointer (some ⟨q,0,none⟩)]),(0,.slice A l.length c)])
  (λ _=>[.seg q 0 [.pointer (some ⟨p,0,none⟩)],.seg p 0 m.cells,.seg b o (l.map wh)]) (λ k=>k<=l.length/\∀ c∈l.take k,m.has c=true) (λ k=>l.length-k)
  0 [0,1,2] ⟨rfl,rfl,rfl,rfl,an⟩ (by decide) rfl ⟨GB _,λ c h=>absurd h (by simp)⟩ ?_
 rintro k ⟨hk,hbef⟩;refine ad (aa (ae [] rfl ?_));refine ad (aC rfl (λ hlt=>aq ?_) (λ hge=>bc ?_))
 ·have hlt:k<l.length:=by omega
  obtain⟨r,hr⟩:∃ r,l[k]?=some r:=⟨l[k],Gq hlt⟩;obtain rfl:=hA (by rintro rfl;simp at hlt);refine ad (au ?_);refine ad (aa (ae [] rfl ?_));refine ad (aa (ah [] rfl ?_));refine ab [] (bR rfl hlt) rfl ?_;refine ab [] (a8 (i:=k) 2 rfl rfl (Aj hr)) rfl ?_;refine ap (fst:=[]) (cap:=[.pointer (some ⟨q,0,none⟩)]) [] (zU m p q r) rfl (by kernel_rfl) ⟨⟨0,_,by simp,rfl,ak _ _ _,av⟩,⟨1,_,by simp,rfl,ak _ _ _,av⟩,an⟩ (λ _=>rfl) ?_;rintro v H' ⟨rfl,rfl⟩;refine⟨rfl,?_⟩;refine ai ?_;refine mi rfl (λ hs=>?_) (λ hs=>aq ?_)
  ·have hs:m.has r=false:=by revert hs;cases m.has r<;>simp
   refine ad (aa (ae [] rfl ?_));exact az [] (by decide) rfl (ay ⟨_,rfl,⟨_,rfl,λ _=>⟨r,Gu hr,hs⟩,λ _=>by omega⟩,rfl⟩)
  ·have hs:m.has r=true:=by revert hs;cases m.has r<;>simp
   refine aa (ae [] rfl ?_);refine⟨k+1,[0,1,2],⟨?_,rfl,rfl,rfl,an⟩,by decide,rfl,⟨by omega,λ x hx=>?_⟩,by omega⟩
   ·show some (Value.int .i64 (IntKind.i64.wrap ((k:Int)+1)))=_;rw[cv (by omega)];rfl
   ·rw[GO,hr] at hx
    rcases GE.1 hx with hx|hx
    ·exact hbef x hx
    ·simp at hx;rw[hx];exact hs
 ·obtain rfl:k=l.length:=by omega
  rw[GY] at hbef;refine ad (aa (ae [] rfl ?_));refine az [] (by decide) rfl (ay ⟨_,rfl,⟨_,rfl,λ h=>absurd h (by decide),λ ⟨c,hc,h⟩=>?_⟩,rfl⟩);rw[hbef c hc] at h;exact Bool.noConfusion h
theorem AM(m:cD)(p q:Nat)(l:LB)(hl:l.length<=10)(A:OA)(n c b o:Nat)(hA:l≠[]->A=some ⟨b,o,none⟩)(hn:n=l.length):
 Fn 84 [.slice A n c,.func (.func 85) #[] #[.pointer (some ⟨q,0,none⟩)]] [] [.seg q 0 [.pointer (some ⟨p,0,none⟩)],.seg p 0 m.cells,.seg b o (l.map wh)] λ v H'=>v=.bool (di (∃ c∈l,m.has c=false))/\H'=[]:=by
 refine aJ Tryz.func84 rfl rfl λ w0=>?_;refine ad (aa (ae [] rfl ?_));refine ad (aa (ah [] rfl ?_));refine ap (fst:=[]) (cap:=[]) [] (CN m p q l hl A n c b o hA hn) rfl (by kernel_rfl) ⟨⟨0,_,by simp,rfl,ak _ _ _,av⟩,⟨1,_,by simp,rfl,ak _ _ _,av⟩,⟨2,_,by simp,rfl,ak _ _ _,av⟩,an⟩ (λ _=>rfl) ?_;rintro v H' ⟨⟨x,rfl,hx⟩,rfl⟩;refine⟨rfl,?_⟩;refine ae [] rfl ?_;refine az [] (by decide) rfl (ay ⟨_,rfl,?_,rfl⟩);exact Gt Value.bool (ey hx)
def cD.lack(m:cD)(l:LB):Int:=if m.a=false then 9 else if ∀ c∈l,m.has c=true then 0 else 8
theorem jn(m:cD)(p:Nat)(l:LB)(hl:l.length<=10)(A:OA)(n c b o:Nat)(hA:l≠[]->A=some ⟨b,o,none⟩)(hn:n=l.length):
 Fn 43 [.pointer (some ⟨p,0,none⟩),.slice A n c] [] [.seg p 0 m.cells,.seg b o (l.map wh)] λ v H'=>v=.int .i64 (m.lack l)/\H'=[]:=by
 refine aJ Tryz.func43 rfl rfl λ w0=>?_;refine ad (aa ?_);refine bx (cs:=[.pointer (some ⟨p,0,none⟩)]) rfl rfl rfl (λ _=>rfl) λ q=>?_;refine ae [] rfl ?_;refine ad (ad (aa (ah [] rfl ?_)));refine ab [] (af (v:=.pointer (some ⟨p,0,none⟩)) 0 rfl) rfl ?_;refine ah [] rfl ?_;refine ab [] (a8 (i:=6) (v:=.bool m.a) 1 rfl rfl rfl) rfl ?_;refine ae [] rfl ?_;refine mi rfl (λ ha=>?_) (λ ha=>aq ?_)
 ·have ha:m.a=false:=by simpa using ha
  refine ad (aa (ae [] rfl ?_));refine az [] (by decide) rfl (ay ⟨_,rfl,?_,rfl⟩);unfold cD.lack;rw[if_pos ha];rfl
 have ha:¬ m.a=false:=by simpa using ha
 refine ad (ad (aa (ah [] rfl ?_)));refine ap (fst:=[]) (cap:=[]) [] (AM m p q l hl A n c b o hA hn) rfl (by kernel_rfl) ⟨⟨0,_,by simp,rfl,aF _ _ _ (0,0),.inr rfl⟩,⟨1,_,by simp,rfl,ak _ _ _,av⟩,⟨2,_,by simp,rfl,ak _ _ _,av⟩,an⟩ (λ _=>rfl) ?_;rintro v H' ⟨rfl,rfl⟩;refine⟨rfl,?_⟩;refine ae [] rfl ?_;refine aC rfl (λ h=>?_) (λ h=>aq ?_)
 ·refine ad (aa (ae [] rfl ?_));refine az [] (by decide) rfl (ay ⟨_,rfl,?_,rfl⟩);unfold cD.lack;obtain⟨x,hx,hxf⟩:=h;rw[if_neg ha,if_neg (λ k=>by have:=k x hx;rw[hxf] at this;exact Bool.noConfusion this)];rfl
 ·refine ad (aa (ae [] rfl ?_));refine az [] (by decide) rfl (ay ⟨_,rfl,?_,rfl⟩);unfold cD.lack
  rw[if_neg ha,if_pos (λ c hc=>by
   cases hm:m.has c with
   |true=>rfl
   |false=>exact absurd ⟨c,hc,hm⟩ h)];rfl
def zb(left:LI)(x:Int):Bool:=fL (left.getD x.toNat 0)
theorem Cc(x:Int):Fn 194 [.int .i64 x] [] [] λ v H'=>v=.bool (fL x)/\H'=[]:=by
 refine aJ Tryz.func194 rfl rfl λ w0=>?_;refine ad (aa (ae [] rfl ?_));refine ad (aa (ae [] rfl ?_));exact az [] (by decide) rfl (ay ⟨_,rfl,Gt Value.bool (by unfold fL;unfold di;by_cases h:0<x<;>simp[h]),rfl⟩)
theorem Bk(x a:Int)(q:Nat):Fn 203 [.int .i64 x,.pointer (some ⟨q,0,none⟩)] [] [.seg q 0 [.int .i64 a]] λ v H'=>v=.bool (x==a)/\H'=[]:=by
 refine aJ Tryz.func203 rfl rfl λ w0=>?_;refine ad (aa (ae [] rfl ?_));refine ad (aa (ah [] rfl ?_));refine ab [] (a8 (i:=0) (v:=.int .i64 a) 0 rfl rfl rfl) rfl ?_;refine ae [] rfl ?_;exact az [] (by decide) rfl (ay ⟨_,rfl,Gt Value.bool (by unfold di;by_cases h:x=a<;>simp[h]),rfl⟩)
def lU(N:aU)(A:OA)(c:Nat)(Al:OA)(nl cl:Nat)(val:Int)(Ao:OA)(no co:Nat)(at_:Int):LV_:=
 [.int .i64 N.nodes,.int .i64 N.src,.int .i64 N.snk,.slice A N.arcs.length c,.slice Al nl cl,.int .i64 val,.slice Ao no co,.int .i64 at_]
theorem BT(N:aU)(A:OA)(c:Nat)(cl:Nat)(val:Int)(Ao:OA)(no co:Nat)(at_:Int)(left:LI)(bl:Nat)(k:Nat)(hk:k<left.length)(q pw:Nat):
 Fn 204 [.int .i64 (k:Int),.pointer (some ⟨q,0,none⟩)] [] [.seg q 0 [.pointer (some ⟨pw,0,none⟩)],.seg pw 0 (lU N A c (some ⟨bl,0,none⟩) left.length cl val Ao no co at_),.seg bl 0 (ax left)] λ v H'=>v=.bool (zb left (k:Int))/\H'=[]:=by
 obtain⟨x,hx⟩:∃ x,left[k]?=some x:=⟨_,Gq hk⟩;have hxd:left.getD k 0=x:=by rw[Gw,hx];rfl
 refine aJ Tryz.func204 rfl rfl λ w0=>?_;refine ad (aa (ae [] rfl ?_));refine ad (aa (ah [] rfl ?_));refine ab [] (a8 (i:=0) (v:=.pointer (some ⟨pw,0,none⟩)) 0 rfl rfl rfl) rfl ?_;refine ah [] rfl ?_;refine ab [] (a8 (i:=4) (v:=.slice (some ⟨bl,0,none⟩) left.length cl) 1 rfl rfl rfl) rfl ?_;refine ah [] rfl ?_;refine ab [] (aG rfl hk) rfl ?_;refine ab [] (fm (i:=k) (v:=.int .i64 x) 2 rfl rfl rfl (GZ _).symm (bD hx)) rfl ?_;refine ae [] rfl ?_;refine az [] (by decide) rfl (ay ⟨_,rfl,Gt Value.bool ?_,rfl⟩);unfold zb fL;rw[show ((k:Nat):Int).toNat=k by omega,hxd];unfold di;by_cases h:0<x<;>simp[h]
theorem vE(A:OA)(c b o:Nat)(l:LI)(hA:l≠[]->A=some ⟨b,o,none⟩)(hl:l.length<=100000):
 Fn 193 [.slice A l.length c,.func (.func 194) #[] #[]] [] [.seg b o (ax l)] λ v H'=>v=.int .i64 ((l.findIdx (fL):Nat):Int)/\H'=[]:=by
 refine aJ Tryz.func193 rfl rfl λ w0=>?_;refine ad (aa (ae [] rfl ?_));refine ad (ad (aa (ae [] rfl ?_)));refine au ?_
 refine bO (σ:=Nat) (λ k=>[(9,.int .i64 k),(8,.int .i64 l.length),(7,.slice A l.length c),(1,.func (.func 194) #[] #[]),(0,.slice A l.length c)])
  (λ _=>[.seg b o (ax l)]) (λ k=>k<=l.length/\∀ j x,j<k->l[j]?=some x->(fL) x=false) (λ k=>l.length-k)
  0 [0] ⟨rfl,rfl,rfl,rfl,rfl,an⟩ (by decide) rfl ⟨GB _,λ j x h=>by omega⟩ ?_
 rintro k ⟨hk,hbef⟩;refine ad (aa (ae [] rfl ?_));refine ad (aC rfl (λ hlt=>aq ?_) (λ hge=>bc ?_))
 ·have hlt:k<l.length:=by omega
  obtain⟨r,hr⟩:∃ r,l[k]?=some r:=⟨l[k],Gq hlt⟩;obtain rfl:=hA (by rintro rfl;simp at hlt);refine ad (au ?_);refine ad (aa (ah [] rfl ?_));refine ab [] (bR rfl hlt) rfl ?_;refine ab [] (a8 0 rfl rfl (be hr)) rfl ?_;refine ae [] rfl ?_;refine ad (aa (ah [] rfl ?_));refine ap (fst:=[]) (cap:=[]) [] (Cc r) rfl (by kernel_rfl) an (λ _=>rfl) ?_;rintro v H' ⟨rfl,rfl⟩;refine⟨rfl,?_⟩;refine ai ?_;refine mi rfl (λ hs=>?_) (λ hs=>aq ?_)
  ·refine ad (aa (ae [] rfl ?_));refine az [] (by decide) rfl (ay ⟨_,rfl,Gt (λ n:Nat=>Value.int .i64 (n:Int)) ?_,rfl⟩);exact ((List.findIdx_eq hlt).2 ⟨by rw[(Gv.1 hr).2];exact hs,λ j hj=>hbef j _ hj (Gq (by omega))⟩).symm
  ·skip
   refine aa (ae [] rfl ?_);refine⟨k+1,[0],⟨?_,rfl,rfl,rfl,rfl,an⟩,by decide,rfl,⟨by omega,λ j x hj hx=>?_⟩,by omega⟩
   ·show some (Value.int .i64 (IntKind.i64.wrap ((k:Int)+1)))=_;rw[cv (by omega)];rfl
   ·rcases Nat.lt_or_eq_of_le (Nat.le_of_lt_succ hj) with h|rfl
    ·exact hbef j x h hx
    ·rw[hr] at hx;rw[<- G0 hx]
     simpa using hs
 ·obtain rfl:k=l.length:=by omega
  refine ad (aa (ae [] rfl ?_));refine az [] (by decide) rfl (ay ⟨_,rfl,Gt (λ n:Nat=>Value.int .i64 (n:Int)) ?_,rfl⟩);refine (IJ.2 λ x hx=>?_).symm;obtain⟨j,hj⟩:=HA.1 hx;exact hbef j x (Gv.1 hj).1 hj
theorem yW(A:OA)(c b o:Nat)(l:LI)(hA:l≠[]->A=some ⟨b,o,none⟩)(hl:l.length<=100000)(a:Int)(q:Nat):
 Fn 202 [.slice A l.length c,.func (.func 203) #[] #[.pointer (some ⟨q,0,none⟩)]] [] [.seg q 0 [.int .i64 a],.seg b o (ax l)] λ v H'=>v=.int .i64 ((l.findIdx (λ x=>x==a):Nat):Int)/\H'=[]:=by
 refine aJ Tryz.func202 rfl rfl λ w0=>?_;refine ad (aa (ae [] rfl ?_));refine ad (ad (aa (ae [] rfl ?_)));refine au ?_
 refine bO (σ:=Nat) (λ k=>[(9,.int .i64 k),(8,.int .i64 l.length),(7,.slice A l.length c),(1,.func (.func 203) #[] #[.pointer (some ⟨q,0,none⟩)]),(0,.slice A l.length c)])
  (λ _=>[.seg q 0 [.int .i64 a],.seg b o (ax l)]) (λ k=>k<=l.length/\∀ j x,j<k->l[j]?=some x->(λ x=>x==a) x=false) (λ k=>l.length-k)
  0 [0,1] ⟨rfl,rfl,rfl,rfl,rfl,an⟩ (by decide) rfl ⟨GB _,λ j x h=>by omega⟩ ?_
 rintro k ⟨hk,hbef⟩;refine ad (aa (ae [] rfl ?_));refine ad (aC rfl (λ hlt=>aq ?_) (λ hge=>bc ?_))
 ·have hlt:k<l.length:=by omega
  obtain⟨r,hr⟩:∃ r,l[k]?=some r:=⟨l[k],Gq hlt⟩;obtain rfl:=hA (by rintro rfl;simp at hlt);refine ad (au ?_);refine ad (aa (ah [] rfl ?_));refine ab [] (bR rfl hlt) rfl ?_;refine ab [] (a8 1 rfl rfl (be hr)) rfl ?_;refine ae [] rfl ?_;refine ad (aa (ah [] rfl ?_));refine ap (fst:=[]) (cap:=[.pointer (some ⟨q,0,none⟩)]) [] (Bk r a q) rfl (by kernel_rfl) ⟨⟨0,_,by simp,rfl,ak _ _ _,av⟩,an⟩ (λ _=>rfl) ?_;rintro v H' ⟨rfl,rfl⟩;refine⟨rfl,?_⟩;refine ai ?_;refine mi rfl (λ hs=>?_) (λ hs=>aq ?_)
  ·refine ad (aa (ae [] rfl ?_));refine az [] (by decide) rfl (ay ⟨_,rfl,Gt (λ n:Nat=>Value.int .i64 (n:Int)) ?_,rfl⟩);exact ((List.findIdx_eq hlt).2 ⟨by rw[(Gv.1 hr).2];exact hs,λ j hj=>hbef j _ hj (Gq (by omega))⟩).symm
  ·skip
   refine aa (ae [] rfl ?_);refine⟨k+1,[0,1],⟨?_,rfl,rfl,rfl,rfl,an⟩,by decide,rfl,⟨by omega,λ j x hj hx=>?_⟩,by omega⟩
   ·show some (Value.int .i64 (IntKind.i64.wrap ((k:Int)+1)))=_;rw[cv (by omega)];rfl
   ·rcases Nat.lt_or_eq_of_le (Nat.le_of_lt_succ hj) with h|rfl
    ·exact hbef j x h hx
    ·rw[hr] at hx;rw[<- G0 hx]
     simpa using hs
 ·obtain rfl:k=l.length:=by omega
  refine ad (aa (ae [] rfl ?_));refine az [] (by decide) rfl (ay ⟨_,rfl,Gt (λ n:Nat=>Value.int .i64 (n:Int)) ?_,rfl⟩);refine (IJ.2 λ x hx=>?_).symm;obtain⟨j,hj⟩:=HA.1 hx;exact hbef j x (Gv.1 hj).1 hj
theorem yL(A:OA)(c b o:Nat)(l:LI)(hA:l≠[]->A=some ⟨b,o,none⟩)(hl:l.length<=100000)(N:aU)(An:OA)(cn cl:Nat)(val:Int)(Ao:OA)(no co:Nat)(at_:Int)(left:LI)(bl q pw:Nat)(hll:∀ x∈l,0<=x/\x<left.length):
 Fn 202 [.slice A l.length c,.func (.func 204) #[] #[.pointer (some ⟨q,0,none⟩)]] [] [.seg q 0 [.pointer (some ⟨pw,0,none⟩)],.seg pw 0 (lU N An cn (some ⟨bl,0,none⟩) left.length cl val Ao no co at_),.seg bl 0 (ax left),.seg b o (ax l)] λ v H'=>v=.int .i64 ((l.findIdx (zb left):Nat):Int)/\H'=[]:=by
 refine aJ Tryz.func202 rfl rfl λ w0=>?_;refine ad (aa (ae [] rfl ?_));refine ad (ad (aa (ae [] rfl ?_)));refine au ?_
 refine bO (σ:=Nat) (λ k=>[(9,.int .i64 k),(8,.int .i64 l.length),(7,.slice A l.length c),(1,.func (.func 204) #[] #[.pointer (some ⟨q,0,none⟩)]),(0,.slice A l.length c)])
  (λ _=>[.seg q 0 [.pointer (some ⟨pw,0,none⟩)],.seg pw 0 (lU N An cn (some ⟨bl,0,none⟩) left.length cl val Ao no co at_),.seg bl 0 (ax left),.seg b o (ax l)]) (λ k=>k<=l.length/\∀ j x,j<k->l[j]?=some x->(zb left) x=false) (λ k=>l.length-k)
  0 [0,1,2,3] ⟨rfl,rfl,rfl,rfl,rfl,an⟩ (by decide) rfl ⟨GB _,λ j x h=>by omega⟩ ?_
 rintro k ⟨hk,hbef⟩;refine ad (aa (ae [] rfl ?_));refine ad (aC rfl (λ hlt=>aq ?_) (λ hge=>bc ?_))
 ·have hlt:k<l.length:=by omega
  obtain⟨r,hr⟩:∃ r,l[k]?=some r:=⟨l[k],Gq hlt⟩;obtain rfl:=hA (by rintro rfl;simp at hlt);refine ad (au ?_);refine ad (aa (ah [] rfl ?_));refine ab [] (bR rfl hlt) rfl ?_;refine ab [] (a8 3 rfl rfl (be hr)) rfl ?_;refine ae [] rfl ?_;refine ad (aa (ah [] rfl ?_));have hrr:=hll r (Gu hr);obtain⟨e,rfl⟩:=Ie hrr.1;refine ap (fst:=[]) (cap:=[.pointer (some ⟨q,0,none⟩)]) [] (BT N An cn cl val Ao no co at_ left bl e (by omega) q pw) rfl (by kernel_rfl) ⟨⟨0,_,by simp,rfl,ak _ _ _,av⟩,⟨1,_,by simp,rfl,ak _ _ _,av⟩,⟨2,_,by simp,rfl,ak _ _ _,av⟩,an⟩ (λ _=>rfl) ?_;rintro v H' ⟨rfl,rfl⟩;refine⟨rfl,?_⟩;refine ai ?_;refine mi rfl (λ hs=>?_) (λ hs=>aq ?_)
  ·refine ad (aa (ae [] rfl ?_));refine az [] (by decide) rfl (ay ⟨_,rfl,Gt (λ n:Nat=>Value.int .i64 (n:Int)) ?_,rfl⟩);exact ((List.findIdx_eq hlt).2 ⟨by rw[(Gv.1 hr).2];exact hs,λ j hj=>hbef j _ hj (Gq (by omega))⟩).symm
  ·skip
   refine aa (ae [] rfl ?_);refine⟨k+1,[0,1,2,3],⟨?_,rfl,rfl,rfl,rfl,an⟩,by decide,rfl,⟨by omega,λ j x hj hx=>?_⟩,by omega⟩
   ·show some (Value.int .i64 (IntKind.i64.wrap ((k:Int)+1)))=_;rw[cv (by omega)];rfl
   ·rcases Nat.lt_or_eq_of_le (Nat.le_of_lt_succ hj) with h|rfl
    ·exact hbef j x h hx
    ·rw[hr] at hx;rw[<- G0 hx]
     simpa using hs
 ·obtain rfl:k=l.length:=by omega
  refine ad (aa (ae [] rfl ?_));refine az [] (by decide) rfl (ay ⟨_,rfl,Gt (λ n:Nat=>Value.int .i64 (n:Int)) ?_,rfl⟩);refine (IJ.2 λ x hx=>?_).symm;obtain⟨j,hj⟩:=HA.1 hx;exact hbef j x (Gv.1 hj).1 hj
end Go.Proofs.YtmcnpaelaieniaaGreatDoor
