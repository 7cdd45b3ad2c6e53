/- A session: its memory, and whether it has what is asked for. -/
import Derived.Test.YtpbmihpjgjbndaaGreatQC
import Derived.Test.YtpbmihpjgjbndaaGreatQB
set_option linter.unusedVariables false
set_option linter.unusedSimpArgs false
namespace Go.Proofs.YtpbmihpjgjbndaaGreat
open Go.RowKit
structure g7 where
 N:bt
 f:List Int
 s:List Int
 a:Bool
 b:Bool
 d:Bool
 An:Option Addr
 cn:Nat
 Af:Option Addr
 cf:Nat
 As:Option Addr
 cs:Nat
def g7.cells (m:g7):List Value:=[.int .i64 m.N.nodes,.int .i64 m.N.src,.int .i64 m.N.snk,.slice m.An m.N.arcs.length m.cn,.slice m.Af m.f.length m.cf,.slice m.As m.s.length m.cs,.bool m.a,.bool m.b,.bool m.d]
def tZ:g7:=⟨⟨0,0,0,[]⟩,[],[],false,false,false,none,0,none,0,none,0⟩
theorem rB:Fn 5 [] [] [] fun v H'=>∃ p:Nat,v=.pointer (some ⟨p,0,none⟩)∧H'=[blk p 53 tZ.cells]:=by
 refine aM Tryz.func5 rfl rfl fun w0=>?_
 refine ae (aa (af [] rfl ?_))
 refine ae (aa ?_)
 refine ab [] (bg rfl rfl rfl rfl rfl rfl) rfl ?_
 refine a6 (cs:=tZ.cells) rfl rfl rfl (fun _=>rfl) fun p=>?_
 refine af [] rfl ?_
 exact aE [0] (by decide) rfl (aB ⟨_,rfl,p,rfl,rfl⟩)
def qG (c:Bool):Value:=.func (.func (bif c then 27 else 26)) #[] #[]
def g7.has (m:g7) (c:Bool):Bool:=bif c then m.d else m.b
theorem qr (m:g7) (p:Nat):Fn 26 [.pointer (some ⟨p,0,none⟩)] [] [.seg p 0 m.cells] fun v H'=>v=.bool m.b∧H'=[]:=by
 refine aM Tryz.func26 rfl rfl fun w0=>?_
 refine ae (aa (af [] rfl ?_))
 refine ae (aa (ah [] rfl ?_))
 refine ab [] (aU (i:=7) (v:=.bool m.b) 0 rfl rfl rfl rfl rfl) rfl ?_
 refine af [] rfl ?_
 exact aE [] (by decide) rfl (aB ⟨_,rfl,rfl,rfl⟩)
theorem ss (m:g7) (p:Nat):Fn 27 [.pointer (some ⟨p,0,none⟩)] [] [.seg p 0 m.cells] fun v H'=>v=.bool m.d∧H'=[]:=by
 refine aM Tryz.func27 rfl rfl fun w0=>?_
 refine ae (aa (af [] rfl ?_))
 refine ae (aa (ah [] rfl ?_))
 refine ab [] (aU (i:=8) (v:=.bool m.d) 0 rfl rfl rfl rfl rfl) rfl ?_
 refine af [] rfl ?_
 exact aE [] (by decide) rfl (aB ⟨_,rfl,rfl,rfl⟩)
theorem ui (m:g7) (p q:Nat) (c:Bool):Fn 39 [qG c,.pointer (some ⟨q,0,none⟩)] [] [.seg q 0 [.pointer (some ⟨p,0,none⟩)],.seg p 0 m.cells] fun v H'=>v=.bool (!m.has c)∧H'=[]:=by
 refine aM Tryz.func39 rfl rfl fun w0=>?_
 refine ae (aa (af [] rfl ?_))
 refine ae (aa (ah [] rfl ?_))
 refine ab [] (aU (i:=0) 0 rfl rfl rfl rfl rfl) rfl ?_
 cases c with
 |false=>
  refine ax (fst:=[]) (cap:=[]) [] (qr m p) rfl rfl rfl rfl (by kernel_rfl) ⟨⟨1,_,by simp,rfl,ak _ _ _,ap⟩,trivial⟩ (fun _=>rfl) ?_
  rintro v H' ⟨rfl,rfl⟩
  refine⟨rfl,?_⟩
  refine af [] rfl ?_
  exact aE [] (by decide) rfl (aB ⟨_,rfl,rfl,rfl⟩)
 |true=>
  refine ax (fst:=[]) (cap:=[]) [] (ss m p) rfl rfl rfl rfl (by kernel_rfl) ⟨⟨1,_,by simp,rfl,ak _ _ _,ap⟩,trivial⟩ (fun _=>rfl) ?_
  rintro v H' ⟨rfl,rfl⟩
  refine⟨rfl,?_⟩
  refine af [] rfl ?_
  exact aE [] (by decide) rfl (aB ⟨_,rfl,rfl,rfl⟩)
theorem uO {l:List Bool} {i:Nat} {x:Bool} (h:l[i]?=some x):(l.map qG)[i]?=some (qG x):=by simp[h]
theorem wn (m:g7) (p q:Nat) (l:List Bool) (hl:l.length≤10) (A:Option Addr) (n c b o:Nat) (hA:l≠[]→A=some ⟨b,o,none⟩) (hn:n=l.length):
 Fn 51 [.slice A n c,.func (.func 39) #[] #[.pointer (some ⟨q,0,none⟩)]] [] [.seg q 0 [.pointer (some ⟨p,0,none⟩)],.seg p 0 m.cells,.seg b o (l.map qG)] fun v H'=>(∃ x:Int,v=.int .i64 x∧(0≤x↔∃ c∈l,m.has c=false))∧H'=[]:=by
 subst hn
 refine aM Tryz.func51 rfl rfl fun w0=>?_
 refine ae (aa (af [] rfl ?_))
 refine ae (ae (aa (af [] rfl ?_)))
 refine au ?_
 refine bu (σ:=Nat) (fun k=>[(8,.int .i64 k),(7,.int .i64 l.length),(1,.func (.func 39) #[] #[.pointer (some ⟨q,0,none⟩)]),(0,.slice A l.length c)])
  (fun _=>[.seg q 0 [.pointer (some ⟨p,0,none⟩)],.seg p 0 m.cells,.seg b o (l.map qG)]) (fun k=>k≤l.length∧∀ c∈l.take k,m.has c=true) (fun k=>l.length-k)
  0 [0,1,2] ⟨rfl,rfl,rfl,rfl,trivial⟩ (by decide) rfl ⟨Nat.zero_le _,fun c h=>absurd h (by simp)⟩ ?_
 rintro k ⟨hk,hbef⟩
 refine ae (aa (af [] rfl ?_))
 refine ae (aC rfl (fun hlt=>aq ?_) (fun hge=>aO ?_))
 ·have hlt:k<l.length:=by omega
  obtain⟨r,hr⟩:∃ r,l[k]?=some r:=⟨l[k],List.getElem?_eq_getElem hlt⟩
  obtain rfl:=hA (by rintro rfl;simp at hlt)
  refine ae (au ?_)
  refine ae (aa (af [] rfl ?_))
  refine ae (aa (ah [] rfl ?_))
  refine ab [] (cW rfl rfl rfl rfl rfl hlt) rfl ?_
  refine ab [] (aU (i:=k) 2 rfl rfl rfl rfl (uO hr)) rfl ?_
  refine ax (fst:=[]) (cap:=[.pointer (some ⟨q,0,none⟩)]) [] (ui m p q r) rfl rfl rfl rfl (by kernel_rfl) ⟨⟨0,_,by simp,rfl,ak _ _ _,ap⟩,⟨1,_,by simp,rfl,ak _ _ _,ap⟩,trivial⟩ (fun _=>rfl) ?_
  rintro v H' ⟨rfl,rfl⟩
  refine⟨rfl,?_⟩
  refine aj ?_
  refine oq rfl (fun hs=>?_) (fun hs=>aq ?_)
  ·have hs:m.has r=false:=by revert hs;cases m.has r<;>simp
   refine ae (aa (af [] rfl ?_))
   exact aE [] (by decide) rfl (aB ⟨_,rfl,⟨_,rfl,fun _=>⟨r,List.mem_of_getElem? hr,hs⟩,fun _=>by omega⟩,rfl⟩)
  ·have hs:m.has r=true:=by revert hs;cases m.has r<;>simp
   refine aa (af [] rfl ?_)
   refine⟨k+1,[0,1,2],⟨?_,rfl,rfl,rfl,trivial⟩,by decide,rfl,⟨by omega,fun x hx=>?_⟩,by omega⟩
   ·show some (Value.int .i64 (IntKind.i64.wrap ((k:Int)+1)))=_
    rw[bK (by omega)];rfl
   ·rw[List.take_add_one,hr] at hx
    rcases List.mem_append.1 hx with hx|hx
    ·exact hbef x hx
    ·simp at hx;rw[hx];exact hs
 ·obtain rfl:k=l.length:=by omega
  rw[List.take_length] at hbef
  refine ae (aa (af [] rfl ?_))
  refine aE [] (by decide) rfl (aB ⟨_,rfl,⟨_,rfl,fun h=>absurd h (by decide),fun ⟨c,hc,h⟩=>?_⟩,rfl⟩)
  rw[hbef c hc] at h
  exact Bool.noConfusion h
theorem ud (m:g7) (p q:Nat) (l:List Bool) (hl:l.length≤10) (A:Option Addr) (n c b o:Nat) (hA:l≠[]→A=some ⟨b,o,none⟩) (hn:n=l.length):
 Fn 38 [.slice A n c,.func (.func 39) #[] #[.pointer (some ⟨q,0,none⟩)]] [] [.seg q 0 [.pointer (some ⟨p,0,none⟩)],.seg p 0 m.cells,.seg b o (l.map qG)] fun v H'=>v=.bool (cU (∃ c∈l,m.has c=false))∧H'=[]:=by
 refine aM Tryz.func38 rfl rfl fun w0=>?_
 refine ae (aa (af [] rfl ?_))
 refine ae (aa (ah [] rfl ?_))
 refine ax (fst:=[]) (cap:=[]) [] (wn m p q l hl A n c b o hA hn) rfl rfl rfl rfl (by kernel_rfl) ⟨⟨0,_,by simp,rfl,ak _ _ _,ap⟩,⟨1,_,by simp,rfl,ak _ _ _,ap⟩,⟨2,_,by simp,rfl,ak _ _ _,ap⟩,trivial⟩ (fun _=>rfl) ?_
 rintro v H' ⟨⟨x,rfl,hx⟩,rfl⟩
 refine⟨rfl,?_⟩
 refine af [] rfl ?_
 refine aE [] (by decide) rfl (aB ⟨_,rfl,?_,rfl⟩)
 exact congrArg Value.bool (db hx)
def g7.lack (m:g7) (l:List Bool):Int:=if m.a=false then 9 else if ∀ c∈l,m.has c=true then 0 else 8
theorem oW (m:g7) (p:Nat) (l:List Bool) (hl:l.length≤10) (A:Option Addr) (n c b o:Nat) (hA:l≠[]→A=some ⟨b,o,none⟩) (hn:n=l.length):
 Fn 21 [.pointer (some ⟨p,0,none⟩),.slice A n c] [] [.seg p 0 m.cells,.seg b o (l.map qG)] fun v H'=>v=.int .i64 (m.lack l)∧H'=[]:=by
 refine aM Tryz.func21 rfl rfl fun w0=>?_
 refine ae (aa ?_)
 refine a6 (cs:=[.pointer (some ⟨p,0,none⟩)]) rfl rfl rfl (fun _=>rfl) fun q=>?_
 refine af [] rfl ?_
 refine ae (ae (aa (ah [] rfl ?_)))
 refine ab [] (ad (v:=.pointer (some ⟨p,0,none⟩)) 0 rfl rfl rfl rfl) rfl ?_
 refine ah [] rfl ?_
 refine ab [] (aU (i:=6) (v:=.bool m.a) 1 rfl rfl rfl rfl rfl) rfl ?_
 refine af [] rfl ?_
 refine oq rfl (fun ha=>?_) (fun ha=>aq ?_)
 ·have ha:m.a=false:=by simpa using ha
  refine ae (aa (af [] rfl ?_))
  refine aE [] (by decide) rfl (aB ⟨_,rfl,?_,rfl⟩)
  unfold g7.lack
  rw[if_pos ha];rfl
 have ha:¬ m.a=false:=by simpa using ha
 refine ae (ae (aa (ah [] rfl ?_)))
 refine ax (fst:=[]) (cap:=[]) [] (ud m p q l hl A n c b o hA hn) rfl rfl rfl rfl (by kernel_rfl) ⟨⟨0,_,by simp,rfl,aR _ _ _ (0,0),.inr rfl⟩,⟨1,_,by simp,rfl,ak _ _ _,ap⟩,⟨2,_,by simp,rfl,ak _ _ _,ap⟩,trivial⟩ (fun _=>rfl) ?_
 rintro v H' ⟨rfl,rfl⟩
 refine⟨rfl,?_⟩
 refine af [] rfl ?_
 refine aC rfl (fun h=>?_) (fun h=>aq ?_)
 ·refine ae (aa (af [] rfl ?_))
  refine aE [] (by decide) rfl (aB ⟨_,rfl,?_,rfl⟩)
  unfold g7.lack
  obtain⟨x,hx,hxf⟩:=h
  rw[if_neg ha,if_neg (fun k=>by have:=k x hx;rw[hxf] at this;exact Bool.noConfusion this)];rfl
 ·refine ae (aa (af [] rfl ?_))
  refine aE [] (by decide) rfl (aB ⟨_,rfl,?_,rfl⟩)
  unfold g7.lack
  rw[if_neg ha,if_pos (fun c hc=>by
   cases hm:m.has c with
   |true=>rfl
   |false=>exact absurd ⟨c,hc,hm⟩ h)];rfl
end Go.Proofs.YtpbmihpjgjbndaaGreat
