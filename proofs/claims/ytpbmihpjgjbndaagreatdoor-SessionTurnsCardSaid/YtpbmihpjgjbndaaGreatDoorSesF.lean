/- A session: its memory, and whether it has what is asked for. -/
import Derived.Test.YtpbmihpjgjbndaaGreatDoorQC
import Derived.Test.YtpbmihpjgjbndaaGreatDoorQB
set_option linter.unusedVariables false
set_option linter.unusedSimpArgs false
namespace Go.Proofs.YtpbmihpjgjbndaaGreatDoor
open Go.RowKit
structure cl where
 N:bc
 f:List Int
 s:List Int
 a:Bool
 b:Bool
 d:Bool
 An:Option Addr
 cn:Nat
 Af:Option Addr
 cf:Nat
 As:Option Addr
 cs:Nat
def cl.cells (m:cl):List Value:=[.int .i64 m.N.nodes,.int .i64 m.N.src,.int .i64 m.N.snk,.slice m.An m.N.arcs.length m.cn,.slice m.Af m.f.length m.cf,.slice m.As m.s.length m.cs,.bool m.a,.bool m.b,.bool m.d]
def uw:cl:=⟨⟨0,0,0,[]⟩,[],[],false,false,false,none,0,none,0,none,0⟩
theorem sX:Fn 24 [] [] [] fun v H'=>∃ p:Nat,v=.pointer (some ⟨p,0,none⟩)∧H'=[blk p 113 uw.cells]:=by
 refine aK Tryz.func24 rfl rfl fun w0=>?_
 refine ad (aa (ae [] rfl ?_))
 refine ad (aa ?_)
 refine ab [] (be rfl rfl rfl rfl rfl rfl) rfl ?_
 refine br (cs:=uw.cells) rfl rfl rfl (fun _=>rfl) fun p=>?_
 refine ae [] rfl ?_
 exact aC [0] (by decide) rfl (ay ⟨_,rfl,p,rfl,rfl⟩)
def r9 (c:Bool):Value:=.func (.func (bif c then 66 else 65)) #[] #[]
def cl.has (m:cl) (c:Bool):Bool:=bif c then m.d else m.b
theorem rj (m:cl) (p:Nat):Fn 65 [.pointer (some ⟨p,0,none⟩)] [] [.seg p 0 m.cells] fun v H'=>v=.bool m.b∧H'=[]:=by
 refine aK Tryz.func65 rfl rfl fun w0=>?_
 refine ad (aa (ae [] rfl ?_))
 refine ad (aa (ah [] rfl ?_))
 refine ab [] (bw (i:=7) (v:=.bool m.b) 0 rfl rfl rfl rfl rfl) rfl ?_
 refine ae [] rfl ?_
 exact aC [] (by decide) rfl (ay ⟨_,rfl,rfl,rfl⟩)
theorem t6 (m:cl) (p:Nat):Fn 66 [.pointer (some ⟨p,0,none⟩)] [] [.seg p 0 m.cells] fun v H'=>v=.bool m.d∧H'=[]:=by
 refine aK Tryz.func66 rfl rfl fun w0=>?_
 refine ad (aa (ae [] rfl ?_))
 refine ad (aa (ah [] rfl ?_))
 refine ab [] (bw (i:=8) (v:=.bool m.d) 0 rfl rfl rfl rfl rfl) rfl ?_
 refine ae [] rfl ?_
 exact aC [] (by decide) rfl (ay ⟨_,rfl,rfl,rfl⟩)
theorem wq (m:cl) (p q:Nat) (c:Bool):Fn 96 [r9 c,.pointer (some ⟨q,0,none⟩)] [] [.seg q 0 [.pointer (some ⟨p,0,none⟩)],.seg p 0 m.cells] fun v H'=>v=.bool (!m.has c)∧H'=[]:=by
 refine aK Tryz.func96 rfl rfl fun w0=>?_
 refine ad (aa (ae [] rfl ?_))
 refine ad (aa (ah [] rfl ?_))
 refine ab [] (bw (i:=0) 0 rfl rfl rfl rfl rfl) rfl ?_
 cases c with
 |false=>
  refine ap (fst:=[]) (cap:=[]) [] (rj m p) rfl rfl rfl rfl (by kernel_rfl) ⟨⟨1,_,by simp,rfl,am _ _ _,aw⟩,trivial⟩ (fun _=>rfl) ?_
  rintro v H' ⟨rfl,rfl⟩
  refine⟨rfl,?_⟩
  refine ae [] rfl ?_
  exact aC [] (by decide) rfl (ay ⟨_,rfl,rfl,rfl⟩)
 |true=>
  refine ap (fst:=[]) (cap:=[]) [] (t6 m p) rfl rfl rfl rfl (by kernel_rfl) ⟨⟨1,_,by simp,rfl,am _ _ _,aw⟩,trivial⟩ (fun _=>rfl) ?_
  rintro v H' ⟨rfl,rfl⟩
  refine⟨rfl,?_⟩
  refine ae [] rfl ?_
  exact aC [] (by decide) rfl (ay ⟨_,rfl,rfl,rfl⟩)
theorem wm {l:List Bool} {i:Nat} {x:Bool} (h:l[i]?=some x):(l.map r9)[i]?=some (r9 x):=by simp[h]
theorem yc (m:cl) (p q:Nat) (l:List Bool) (hl:l.length≤10) (A:Option Addr) (n c b o:Nat) (hA:l≠[]→A=some ⟨b,o,none⟩) (hn:n=l.length):
 Fn 131 [.slice A n c,.func (.func 96) #[] #[.pointer (some ⟨q,0,none⟩)]] [] [.seg q 0 [.pointer (some ⟨p,0,none⟩)],.seg p 0 m.cells,.seg b o (l.map r9)] fun v H'=>(∃ x:Int,v=.int .i64 x∧(0≤x↔∃ c∈l,m.has c=false))∧H'=[]:=by
 subst hn
 refine aK Tryz.func131 rfl rfl fun w0=>?_
 refine ad (aa (ae [] rfl ?_))
 refine ad (ad (aa (ae [] rfl ?_)))
 refine ax ?_
 refine bN (σ:=Nat) (fun k=>[(8,.int .i64 k),(7,.int .i64 l.length),(1,.func (.func 96) #[] #[.pointer (some ⟨q,0,none⟩)]),(0,.slice A l.length c)])
  (fun _=>[.seg q 0 [.pointer (some ⟨p,0,none⟩)],.seg p 0 m.cells,.seg b o (l.map r9)]) (fun k=>k≤l.length∧∀ c∈l.take k,m.has c=true) (fun k=>l.length-k)
  0 [0,1,2] ⟨rfl,rfl,rfl,rfl,trivial⟩ (by decide) rfl ⟨Nat.zero_le _,fun c h=>absurd h (by simp)⟩ ?_
 rintro k ⟨hk,hbef⟩
 refine ad (aa (ae [] rfl ?_))
 refine ad (aD rfl (fun hlt=>aq ?_) (fun hge=>a6 ?_))
 ·have hlt:k<l.length:=by omega
  obtain⟨r,hr⟩:∃ r,l[k]?=some r:=⟨l[k],List.getElem?_eq_getElem hlt⟩
  obtain rfl:=hA (by rintro rfl;simp at hlt)
  refine ad (ax ?_)
  refine ad (aa (ae [] rfl ?_))
  refine ad (aa (ah [] rfl ?_))
  refine ab [] (dD rfl rfl rfl rfl rfl hlt) rfl ?_
  refine ab [] (bw (i:=k) 2 rfl rfl rfl rfl (wm hr)) rfl ?_
  refine ap (fst:=[]) (cap:=[.pointer (some ⟨q,0,none⟩)]) [] (wq m p q r) rfl rfl rfl rfl (by kernel_rfl) ⟨⟨0,_,by simp,rfl,am _ _ _,aw⟩,⟨1,_,by simp,rfl,am _ _ _,aw⟩,trivial⟩ (fun _=>rfl) ?_
  rintro v H' ⟨rfl,rfl⟩
  refine⟨rfl,?_⟩
  refine ai ?_
  refine rq rfl (fun hs=>?_) (fun hs=>aq ?_)
  ·have hs:m.has r=false:=by revert hs;cases m.has r<;>simp
   refine ad (aa (ae [] rfl ?_))
   exact aC [] (by decide) rfl (ay ⟨_,rfl,⟨_,rfl,fun _=>⟨r,List.mem_of_getElem? hr,hs⟩,fun _=>by omega⟩,rfl⟩)
  ·have hs:m.has r=true:=by revert hs;cases m.has r<;>simp
   refine aa (ae [] rfl ?_)
   refine⟨k+1,[0,1,2],⟨?_,rfl,rfl,rfl,trivial⟩,by decide,rfl,⟨by omega,fun x hx=>?_⟩,by omega⟩
   ·show some (Value.int .i64 (IntKind.i64.wrap ((k:Int)+1)))=_
    rw[cj (by omega)];rfl
   ·rw[List.take_add_one,hr] at hx
    rcases List.mem_append.1 hx with hx|hx
    ·exact hbef x hx
    ·simp at hx;rw[hx];exact hs
 ·obtain rfl:k=l.length:=by omega
  rw[List.take_length] at hbef
  refine ad (aa (ae [] rfl ?_))
  refine aC [] (by decide) rfl (ay ⟨_,rfl,⟨_,rfl,fun h=>absurd h (by decide),fun ⟨c,hc,h⟩=>?_⟩,rfl⟩)
  rw[hbef c hc] at h
  exact Bool.noConfusion h
theorem ve (m:cl) (p q:Nat) (l:List Bool) (hl:l.length≤10) (A:Option Addr) (n c b o:Nat) (hA:l≠[]→A=some ⟨b,o,none⟩) (hn:n=l.length):
 Fn 95 [.slice A n c,.func (.func 96) #[] #[.pointer (some ⟨q,0,none⟩)]] [] [.seg q 0 [.pointer (some ⟨p,0,none⟩)],.seg p 0 m.cells,.seg b o (l.map r9)] fun v H'=>v=.bool (dv (∃ c∈l,m.has c=false))∧H'=[]:=by
 refine aK Tryz.func95 rfl rfl fun w0=>?_
 refine ad (aa (ae [] rfl ?_))
 refine ad (aa (ah [] rfl ?_))
 refine ap (fst:=[]) (cap:=[]) [] (yc m p q l hl A n c b o hA hn) rfl rfl rfl rfl (by kernel_rfl) ⟨⟨0,_,by simp,rfl,am _ _ _,aw⟩,⟨1,_,by simp,rfl,am _ _ _,aw⟩,⟨2,_,by simp,rfl,am _ _ _,aw⟩,trivial⟩ (fun _=>rfl) ?_
 rintro v H' ⟨⟨x,rfl,hx⟩,rfl⟩
 refine⟨rfl,?_⟩
 refine ae [] rfl ?_
 refine aC [] (by decide) rfl (ay ⟨_,rfl,?_,rfl⟩)
 exact congrArg Value.bool (eI hx)
def cl.lack (m:cl) (l:List Bool):Int:=if m.a=false then 9 else if ∀ c∈l,m.has c=true then 0 else 8
theorem iR (m:cl) (p:Nat) (l:List Bool) (hl:l.length≤10) (A:Option Addr) (n c b o:Nat) (hA:l≠[]→A=some ⟨b,o,none⟩) (hn:n=l.length):
 Fn 64 [.pointer (some ⟨p,0,none⟩),.slice A n c] [] [.seg p 0 m.cells,.seg b o (l.map r9)] fun v H'=>v=.int .i64 (m.lack l)∧H'=[]:=by
 refine aK Tryz.func64 rfl rfl fun w0=>?_
 refine ad (aa ?_)
 refine br (cs:=[.pointer (some ⟨p,0,none⟩)]) rfl rfl rfl (fun _=>rfl) fun q=>?_
 refine ae [] rfl ?_
 refine ad (ad (aa (ah [] rfl ?_)))
 refine ab [] (af (v:=.pointer (some ⟨p,0,none⟩)) 0 rfl rfl rfl rfl) rfl ?_
 refine ah [] rfl ?_
 refine ab [] (bw (i:=6) (v:=.bool m.a) 1 rfl rfl rfl rfl rfl) rfl ?_
 refine ae [] rfl ?_
 refine rq rfl (fun ha=>?_) (fun ha=>aq ?_)
 ·have ha:m.a=false:=by simpa using ha
  refine ad (aa (ae [] rfl ?_))
  refine aC [] (by decide) rfl (ay ⟨_,rfl,?_,rfl⟩)
  unfold cl.lack
  rw[if_pos ha];rfl
 have ha:¬ m.a=false:=by simpa using ha
 refine ad (ad (aa (ah [] rfl ?_)))
 refine ap (fst:=[]) (cap:=[]) [] (ve m p q l hl A n c b o hA hn) rfl rfl rfl rfl (by kernel_rfl) ⟨⟨0,_,by simp,rfl,aF _ _ _ (0,0),.inr rfl⟩,⟨1,_,by simp,rfl,am _ _ _,aw⟩,⟨2,_,by simp,rfl,am _ _ _,aw⟩,trivial⟩ (fun _=>rfl) ?_
 rintro v H' ⟨rfl,rfl⟩
 refine⟨rfl,?_⟩
 refine ae [] rfl ?_
 refine aD rfl (fun h=>?_) (fun h=>aq ?_)
 ·refine ad (aa (ae [] rfl ?_))
  refine aC [] (by decide) rfl (ay ⟨_,rfl,?_,rfl⟩)
  unfold cl.lack
  obtain⟨x,hx,hxf⟩:=h
  rw[if_neg ha,if_neg (fun k=>by have:=k x hx;rw[hxf] at this;exact Bool.noConfusion this)];rfl
 ·refine ad (aa (ae [] rfl ?_))
  refine aC [] (by decide) rfl (ay ⟨_,rfl,?_,rfl⟩)
  unfold cl.lack
  rw[if_neg ha,if_pos (fun c hc=>by
   cases hm:m.has c with
   |true=>rfl
   |false=>exact absurd ⟨c,hc,hm⟩ h)];rfl
end Go.Proofs.YtpbmihpjgjbndaaGreatDoor
