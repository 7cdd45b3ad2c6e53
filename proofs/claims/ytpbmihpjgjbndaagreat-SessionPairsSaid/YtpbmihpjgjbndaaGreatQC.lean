/- The engine and the words that all chapters share: several texts in one. -/
import Derived.Test.YtpbmihpjgjbndaaGreatQB
import Derived.Test.YtpbmihpjgjbndaaGreatQA
/- What 'Check' tells. -/
set_option linter.unusedVariables false
set_option linter.unusedSimpArgs false
namespace Go.Proofs.YtpbmihpjgjbndaaGreat
open Go.RowKit
structure bt.Fits (N:bt):Prop where
 nodes:dw N.nodes
 src:dw N.src
 snk:dw N.snk
 len:N.arcs.length*24≤140737488351232
 arc:∀ a∈N.arcs,dw a.fr∧dw a.to∧dw a.cap
theorem oM (N:bt) (hN:N.Fits) (A:Option Addr) (c b o:Nat) (hA:N.arcs≠[]→A=some ⟨b,o,none⟩):Fn 41 [bi N A c] [] [.seg b o (arcs N.arcs)] fun v H'=>v=.int .i64 (bW N)∧H'=[]:=by
 have hln:=hN.len
 refine aM Tryz.func41 rfl rfl fun w0=>?_
 refine ae (aa ?_)
 refine a6 (cs:=bJ N A c) rfl rfl rfl (fun _=>rfl) fun p=>?_
 refine af [] rfl ?_
 refine ae (aa (af [] rfl ?_))
 refine ae (au (ae (aa (ah [] rfl ?_))))
 refine ab [] (ad 0 rfl rfl rfl rfl) rfl ?_
 refine ah [] rfl ?_
 by_cases h1:N.nodes<2
 ·refine av 14 (v':=.bool true) rfl (congrArg Value.bool (az h1)) ?_
  refine af [3] rfl ?_
  refine bz rfl ?_
  refine ae (aa (af [] rfl ?_))
  refine aE [] (by decide) rfl (aB ⟨_,rfl,?_,rfl⟩)
  unfold bW;rw[if_pos (.inl h1)];rfl
 refine av 14 (v':=.bool false) rfl (congrArg Value.bool (aA h1)) ?_
 refine ah [3] rfl ?_
 refine ab [3] (ad 0 rfl rfl rfl rfl) rfl ?_
 refine af [3] rfl ?_
 refine aC rfl (fun h2=>?_) (fun h2=>?_)
 ·refine ae (aa (af [] rfl ?_))
  refine aE [] (by decide) rfl (aB ⟨_,rfl,?_,rfl⟩)
  unfold bW;rw[if_pos (.inr h2)];rfl
 have c1:¬ (N.nodes<2∨500<N.nodes):=by omega
 refine ae (aa (ah [] rfl ?_))
 refine ab [] (ad 0 rfl rfl rfl rfl) rfl ?_
 refine ax [] (j9 N A c p N.src) rfl rfl rfl rfl (by kernel_rfl) ⟨⟨0,_,by simp,rfl,aR _ _ _ (0,0),.inr rfl⟩,trivial⟩ (fun _=>rfl) ?_
 rintro v H' ⟨rfl,rfl⟩
 refine⟨rfl,?_⟩
 refine ah [] rfl ?_
 by_cases h3:cY N N.src
 case neg=>
  refine av 25 (v':=.bool true) rfl (congrArg Value.bool (by rw[aA h3];rfl)) ?_
  refine af [5] rfl ?_
  refine bz rfl ?_
  refine ae (aa (af [] rfl ?_))
  refine aE [] (by decide) rfl (aB ⟨_,rfl,?_,rfl⟩)
  unfold bW;rw[if_neg c1,if_pos (fun hc=>h3 hc.1)];rfl
 refine av 25 (v':=.bool false) rfl (congrArg Value.bool (by rw[az h3];rfl)) ?_
 refine ah [5] rfl ?_
 refine ab [5] (ad 0 rfl rfl rfl rfl) rfl ?_
 refine ax [5] (j9 N A c p N.snk) rfl rfl rfl rfl (by kernel_rfl) ⟨⟨0,_,by simp,rfl,aR _ _ _ (0,0),.inr rfl⟩,trivial⟩ (fun _=>rfl) ?_
 rintro v H' ⟨rfl,rfl⟩
 refine⟨rfl,?_⟩
 refine ah [5] rfl ?_
 by_cases h4:cY N N.snk
 case neg=>
  refine av 19 (v':=.bool true) rfl (congrArg Value.bool (by rw[aA h4];rfl)) ?_
  refine aj ?_
  refine bz rfl ?_
  refine ae (aa (af [] rfl ?_))
  refine aE [] (by decide) rfl (aB ⟨_,rfl,?_,rfl⟩)
  unfold bW;rw[if_neg c1,if_pos (fun hc=>h4 hc.2)];rfl
 refine av 19 (v':=.bool false) rfl (congrArg Value.bool (by rw[az h4];rfl)) ?_
 refine aj ?_
 refine bP rfl ?_
 have c2:¬ ¬ (cY N N.src∧cY N N.snk):=fun h=>h ⟨h3,h4⟩
 refine ae (aa (ah [] rfl ?_))
 refine ab [] (ad 0 rfl rfl rfl rfl) rfl ?_
 refine ah [] rfl ?_
 refine ab [] (ad 0 rfl rfl rfl rfl) rfl ?_
 refine af [] rfl ?_
 refine aC rfl (fun h5=>?_) (fun h5=>?_)
 ·refine ae (aa (af [] rfl ?_))
  refine aE [] (by decide) rfl (aB ⟨_,rfl,?_,rfl⟩)
  unfold bW;rw[if_neg c1,if_neg c2,if_pos h5];rfl
 refine ae (aa (ah [] rfl ?_))
 refine ab [] (ad 0 rfl rfl rfl rfl) rfl ?_
 refine af [] rfl ?_
 refine aC rfl (fun h6=>?_) (fun h6=>aq ?_)
 ·refine ae (aa (af [] rfl ?_))
  refine aE [] (by decide) rfl (aB ⟨_,rfl,?_,rfl⟩)
  unfold bW;rw[if_neg c1,if_neg c2,if_neg h5,if_pos (by omega)];rfl
 have hck:bW N=ew N 0 N.arcs:=by unfold bW;rw[if_neg c1,if_neg c2,if_neg h5,if_neg (by omega)]
 rw[hck]
 refine ae (aa (af [] rfl ?_))
 refine ae (ae (aa (ah [] rfl ?_)))
 refine ab [] (ad 0 rfl rfl rfl rfl) rfl ?_
 refine af [] rfl ?_
 refine au ?_
 refine bu (σ:=Nat×Int) (fun s=>[(46,.int .i64 s.1),(45,.int .i64 N.arcs.length),(44,.slice A N.arcs.length c),(4,.int .i64 s.2),(3,.func (.func 55) #[] #[.pointer (some ⟨p,0,none⟩)]),(1,.pointer (some ⟨p,0,none⟩))])
  (fun s=>[blk p 50 (bJ N A c),.seg b o (arcs N.arcs)]) (fun s=>s.1≤N.arcs.length∧dw s.2∧ew N 0 N.arcs=ew N s.2 (N.arcs.drop s.1)) (fun s=>N.arcs.length-s.1)
  (0,0) [0,1] ⟨rfl,rfl,rfl,rfl,rfl,rfl,trivial⟩ (by decide) rfl ⟨Nat.zero_le _,by decide,rfl⟩ ?_
 rintro⟨k,n⟩ ⟨hk,hn,hbad⟩
 simp only at hk hn hbad ⊢
 refine ae (aa (af [] rfl ?_))
 refine ae (aC rfl (fun hlt=>aq ?_) (fun hge=>aO ?_))
 ·have hlt:k<N.arcs.length:=by omega
  obtain rfl:=hA (by intro h;rw[h] at hlt;simp at hlt)
  obtain⟨x,hx⟩:∃ x,N.arcs[k]?=some x:=⟨N.arcs[k],List.getElem?_eq_getElem hlt⟩
  have hxB:=hN.arc x (List.mem_of_getElem? hx)
  have hd:N.arcs.drop k=x::N.arcs.drop (k+1):=by
   obtain⟨_,rfl⟩:=List.getElem?_eq_some_iff.1 hx
   rw[List.drop_eq_getElem_cons hlt]
  rw[hd,ew] at hbad
  refine ae (au ?_)
  refine ae (aa (ah [] rfl ?_))
  refine ab [] (eH rfl rfl rfl rfl rfl hlt) rfl ?_
  refine ab [] (aU 1 rfl rfl rfl rfl (gW hx)) rfl ?_
  refine aQ rfl rfl rfl (fun _=>rfl) fun q=>?_
  refine aD 0 rfl rfl rfl rfl rfl [] rfl ?_
  refine aj ?_
  refine ae (aa (ah [] rfl ?_))
  refine ab [] (ad 0 rfl rfl rfl rfl) rfl ?_
  refine ax [] (wV hn hxB.2.2) rfl rfl rfl rfl (by kernel_rfl) trivial (fun _=>rfl) ?_
  rintro v H' ⟨rfl,rfl⟩
  refine⟨rfl,?_⟩
  refine af [] rfl ?_
  refine ae (au (ae (aa (ah [] rfl ?_))))
  refine ab [] (ad 0 rfl rfl rfl rfl) rfl ?_
  refine ax [] (j9 N (some ⟨b,o,none⟩) c p x.fr) rfl rfl rfl rfl (by kernel_rfl) ⟨⟨1,_,by simp,rfl,aR _ _ _ (0,0),.inr rfl⟩,trivial⟩ (fun _=>rfl) ?_
  rintro v H' ⟨rfl,rfl⟩
  refine⟨rfl,?_⟩
  refine ah [] rfl ?_
  by_cases h7:cY N x.fr
  case neg=>
   refine av 63 (v':=.bool true) rfl (congrArg Value.bool (by rw[aA h7];rfl)) ?_
   refine af [5] rfl ?_
   refine bz rfl ?_
   refine ae (aa (af [] rfl ?_))
   refine aE [] (by decide) rfl (aB ⟨_,rfl,?_,rfl⟩)
   rw[hbad,if_pos (fun h=>h7 h.1)];rfl
  refine av 63 (v':=.bool false) rfl (congrArg Value.bool (by rw[az h7];rfl)) ?_
  refine ah [5] rfl ?_
  refine ab [5] (ad 0 rfl rfl rfl rfl) rfl ?_
  refine ax [5] (j9 N (some ⟨b,o,none⟩) c p x.to) rfl rfl rfl rfl (by kernel_rfl) ⟨⟨1,_,by simp,rfl,aR _ _ _ (0,0),.inr rfl⟩,trivial⟩ (fun _=>rfl) ?_
  rintro v H' ⟨rfl,rfl⟩
  refine⟨rfl,?_⟩
  refine ah [5] rfl ?_
  by_cases h8:cY N x.to
  case neg=>
   refine av 57 (v':=.bool true) rfl (congrArg Value.bool (by rw[aA h8];rfl)) ?_
   refine aj ?_
   refine bz rfl ?_
   refine ae (aa (af [] rfl ?_))
   refine aE [] (by decide) rfl (aB ⟨_,rfl,?_,rfl⟩)
   rw[hbad,if_pos (fun h=>h8 h.2)];rfl
  refine av 57 (v':=.bool false) rfl (congrArg Value.bool (by rw[az h8];rfl)) ?_
  refine aj ?_
  refine bP rfl ?_
  rw[if_neg (fun h=>h ⟨h7,h8⟩)] at hbad
  refine ae (aa (ah [] rfl ?_))
  refine ab [] (ad 0 rfl rfl rfl rfl) rfl ?_
  refine af [] rfl ?_
  refine aC rfl (fun h9=>?_) (fun h9=>?_)
  ·refine ae (aa (af [] rfl ?_))
   refine aE [] (by decide) rfl (aB ⟨_,rfl,?_,rfl⟩)
   rw[hbad,if_pos h9];rfl
  rw[if_neg h9] at hbad
  by_cases hin:dw (n+x.cap)
  case neg=>
   rw[tm hin]
   refine ae (aa (ah [] rfl ?_))
   refine av 77 (v':=.bool true) rfl (congrArg Value.bool (az (by simp))) ?_
   refine af [2] rfl ?_
   refine bz rfl ?_
   refine ae (aa (af [] rfl ?_))
   refine aE [] (by decide) rfl (aB ⟨_,rfl,?_,rfl⟩)
   rw[hbad,if_pos (.inl hin)];rfl
  rw[uM hin]
  refine ae (aa (ah [] rfl ?_))
  refine av 77 (v':=.bool false) rfl (congrArg Value.bool (aA (by simp))) ?_
  refine af [2] rfl ?_
  refine aC rfl (fun h10=>?_) (fun h10=>aq ?_)
  ·refine ae (aa (af [] rfl ?_))
   refine aE [] (by decide) rfl (aB ⟨_,rfl,?_,rfl⟩)
   rw[hbad,if_pos (.inr h10)];rfl
  rw[if_neg (fun h=>h.elim (fun h=>h hin) h10)] at hbad
  refine aa (af [] rfl ?_)
  refine aa (af [] rfl ?_)
  refine⟨(k+1,n+x.cap),[1,2],⟨?_,rfl,rfl,rfl,rfl,rfl,trivial⟩,by decide,rfl,⟨by simp only;omega,hin,hbad⟩,by simp only;omega⟩
  show some (Value.int .i64 (IntKind.i64.wrap ((k:Int)+1)))=_
  rw[bK (by omega)];rfl
 ·have hk':k=N.arcs.length:=by omega
  subst hk'
  rw[List.drop_length,ew] at hbad
  refine ae (aa (af [] rfl ?_))
  refine aE [] (by decide) rfl (aB ⟨_,rfl,by rw[hbad];rfl,rfl⟩)
theorem lq (N:bt):∀ (l:List dQ) (s:Int),0≤s→s≤4611686018427387903→ew N s l=0→(∀ a∈l,(1≤a.fr∧a.fr≤N.nodes)∧(1≤a.to∧a.to≤N.nodes)∧0≤a.cap)∧s+(l.map (·.cap)).sum≤4611686018427387903
 |[],s,_,h,_=>⟨fun a ha=>(by cases ha),by simpa using h⟩
 |a::l,s,h0,h1,hz=>by
  rw[ew] at hz
  split at hz
  ·simp at hz
  ·rename_i ht
   split at hz
   ·simp at hz
   ·rename_i hc
    split at hz
    ·simp at hz
    ·rename_i hs
     obtain⟨i1,i2⟩:=lq N l (s+a.cap) (by omega) (by omega) hz
     have ht':=Classical.not_not.1 ht
     refine⟨fun x hx=>?_,by simp only[List.map_cons,List.sum_cons];omega⟩
     rcases List.mem_cons.1 hx with rfl|hx
     ·exact⟨ht'.1,ht'.2,by omega⟩
     ·exact i1 x hx
theorem jd {N:bt} (h:bW N=0):N.Right:=by
 unfold bW at h
 split at h
 ·simp at h
 ·rename_i h1
  split at h
  ·simp at h
  ·rename_i h2
   split at h
   ·simp at h
   ·rename_i h3
    split at h
    ·simp at h
    ·rename_i h4
     have h2':=Classical.not_not.1 h2
     obtain⟨i1,i2⟩:=lq N N.arcs 0 (by omega) (by omega) h
     exact⟨by omega,h2'.1,h2'.2,h3,by omega,i1,by omega⟩
end Go.Proofs.YtpbmihpjgjbndaaGreat
set_option linter.unusedVariables false
set_option linter.unusedSimpArgs false
namespace Go.Proofs.YtpbmihpjgjbndaaGreat
open Go.RowKit
def fX (l:List Int) (a:dQ) (f:Int):List Int:=
 let l1:=l.set a.fr.toNat (IntKind.i64.wrap (l.getD a.fr.toNat 0-f))
 l1.set a.to.toNat (IntKind.i64.wrap (l1.getD a.to.toNat 0+f))
def qj (n:Nat) (al:List dQ) (fs:List Int):List Int:=(al.zip fs).foldl (fun l p=>fX l p.1 p.2) (List.replicate (n+1) 0)
theorem jz (l:List Int) (a:dQ) (f:Int):(fX l a f).length=l.length:=by simp[fX]
theorem l6 (n:Nat) (al:List dQ) (fs:List Int):(qj n al fs).length=n+1:=by
 unfold qj
 have:∀ (ps:List (dQ×Int)) (l:List Int),(ps.foldl (fun l p=>fX l p.1 p.2) l).length=l.length:=by
  intro ps
  induction ps with
  |nil=>intro l;rfl
  |cons p ps ih=>intro l;simp[ih,jz]
 rw[this];simp
theorem tS (n:Nat) {al:List dQ} {fs:List Int} {k:Nat} {a:dQ} {f:Int} (ha:al[k]?=some a) (hf:fs[k]?=some f):qj n (al.take (k+1)) fs=fX (qj n (al.take k) fs) a f:=by
 have h1:al.take (k+1)=al.take k++[a]:=by
  obtain⟨h,rfl⟩:=List.getElem?_eq_some_iff.1 ha
  rw[List.take_succ_eq_append_getElem h]
 have hk:(al.take k).length=k:=by
  obtain⟨h,_⟩:=List.getElem?_eq_some_iff.1 ha
  simp;omega
 have h2:fs=fs.take k++f::fs.drop (k+1):=by
  obtain⟨h,rfl⟩:=List.getElem?_eq_some_iff.1 hf
  simp
 have hk2:(fs.take k).length=k:=by
  obtain⟨h,_⟩:=List.getElem?_eq_some_iff.1 hf
  simp;omega
 unfold qj
 rw[h1]
 conv=>lhs;rw[h2]
 conv=>rhs;rw[h2]
 rw[List.zip_append (by rw[hk,hk2]),List.foldl_append]
 have:(al.take k).zip (fs.take k++f::fs.drop (k+1))=(al.take k).zip (fs.take k):=by
  conv=>lhs;rw[← List.append_nil (al.take k)]
  rw[List.zip_append (by rw[hk,hk2])];simp
 rw[this]
 simp
theorem pp (n:Nat) (src snk:Int) (A F:Option Addr) (ca cf ba oa bf of:Nat) (al:List dQ) (fs:List Int) (hn:n≤500) (hA:al≠[]→A=some ⟨ba,oa,none⟩) (hF:al≠[]→F=some ⟨bf,of,none⟩)
 (hl:fs.length=al.length) (hlen:al.length≤2000) (hin:∀ a∈al,0≤a.fr∧a.fr≤n∧0≤a.to∧a.to≤n):
 Fn 47 [.agg #[.int .i64 n,.int .i64 src,.int .i64 snk,.slice A al.length ca],.slice F al.length cf] [] [.seg ba oa (arcs al),.seg bf of (aw fs)]
  (fun v H'=>∃ g,v=.slice (some ⟨g,0,none⟩) (n+1) (n+1)∧H'=[.own v 2 1 (n+1) (aw (qj n al fs))]):=by
 refine aM Tryz.func47 rfl rfl fun w0=>?_
 refine ae (aa ?_)
 refine a6 rfl rfl rfl (fun _=>rfl) fun b1=>?_
 refine af [] rfl ?_
 refine ae (aa ?_)
 refine ah [] rfl ?_
 refine ab [] (ad 0 rfl rfl rfl rfl) rfl ?_
 refine ah [] rfl ?_
 rw[bK (n:=(n:Int)+1) (by omega)]
 refine cv (n:=n+1) (c:=n+1) rfl rfl rfl rfl rfl rfl (by omega) (by omega) (by omega) (fun _=>rfl) fun g=>?_
 refine af [] rfl ?_
 refine ae (ae (aa ?_))
 refine ah [] rfl ?_
 refine ab [] (ad 1 rfl rfl rfl rfl) rfl ?_
 refine af [] rfl ?_
 rw[sn]
 refine au ?_
 refine bu (σ:=Nat) (fun k=>[(15,.int .i64 k),(14,.int .i64 al.length),(13,.slice A al.length ca),(5,.slice (some ⟨g,0,none⟩) (n+1) (n+1)),(1,.slice F al.length cf)])
  (fun k=>[.own (.slice (some ⟨g,0,none⟩) (n+1) (n+1)) 2 1 (n+1) (aw (qj n (al.take k) fs)),.seg ba oa (arcs al),.seg bf of (aw fs)]) (fun k=>k≤al.length) (fun k=>al.length-k)
  0 [0,2,3] ⟨rfl,rfl,rfl,rfl,rfl,trivial⟩ (by decide) (by rw[List.take_zero];rfl) (Nat.zero_le _) fun k hk=>?_
 refine ae (aa (af [] rfl ?_))
 refine ae (aC rfl (fun hlt=>aq ?_) (fun hge=>aO ?_))
 ·have hlt:k<al.length:=by omega
  have hne:al≠[]:=by rintro rfl;simp at hlt
  obtain rfl:=hA hne
  obtain rfl:=hF hne
  refine ae (au (ae (aa ?_)))
  refine ah [] rfl ?_
  refine ab [] (eH rfl rfl rfl rfl rfl hlt) rfl ?_
  obtain⟨⟨fr,to,cap⟩,ha⟩:∃ a,al[k]?=some a:=⟨al[k],List.getElem?_eq_getElem hlt⟩
  obtain⟨f,hf⟩:∃ f,fs[k]?=some f:=⟨fs[k],List.getElem?_eq_getElem (by omega)⟩
  obtain⟨h1,h2,h3,h4⟩:=hin _ (List.mem_of_getElem? ha)
  simp only at h1 h2 h3 h4
  obtain⟨fr,rfl⟩:=Int.eq_ofNat_of_zero_le h1
  obtain⟨to,rfl⟩:=Int.eq_ofNat_of_zero_le h3
  refine ab [] (aU 1 rfl rfl rfl rfl (gW ha)) rfl ?_
  refine aQ rfl rfl rfl (fun _=>rfl) fun b2=>?_
  refine ah [] rfl ?_
  refine aD 0 rfl rfl rfl rfl rfl [] rfl ?_
  refine aj ?_
  refine ae (rH 11 (by kernel_rfl) ?_)
  refine jZ [] rfl ?_
  refine eY [] (ad 0 rfl rfl rfl rfl) rfl ?_
  have hel:=l6 n (al.take k) fs
  obtain⟨x,hx⟩:∃ x,(qj n (al.take k) fs)[fr]?=some x:=⟨_,List.getElem?_eq_getElem (by omega)⟩
  refine eY [] (aI rfl rfl rfl rfl rfl (by omega)) rfl ?_
  refine eY [] (aF 1 rfl rfl rfl (bn hx)) rfl ?_
  refine jZ [] rfl ?_
  refine eY [] (cW rfl rfl rfl rfl rfl hlt) rfl ?_
  refine eY [] (aU 3 rfl rfl rfl rfl (bn hf)) rfl ?_
  refine jZ [] rfl ?_
  refine eY [] (aI rfl rfl rfl rfl rfl (by omega)) rfl ?_
  refine ux ?_
  refine aG 1 rfl rfl rfl rfl (du rfl (by omega)) [] rfl ?_
  refine aj ?_
  refine rH 11 (by kernel_rfl) ?_
  obtain⟨y,hy⟩:∃ y,((qj n (al.take k) fs).set fr (IntKind.i64.wrap (x-f)))[to]?=some y:=⟨_,List.getElem?_eq_getElem (by simp;omega)⟩
  refine jZ [] rfl ?_
  refine eY [] (ad 0 rfl rfl rfl rfl) rfl ?_
  refine eY [] (aI rfl rfl rfl rfl rfl (by omega)) rfl ?_
  refine eY [] (aF 1 rfl rfl rfl (bn hy)) rfl ?_
  refine jZ [] rfl ?_
  refine eY [] (cW rfl rfl rfl rfl rfl hlt) rfl ?_
  refine eY [] (aU 3 rfl rfl rfl rfl (bn hf)) rfl ?_
  refine jZ [] rfl ?_
  refine eY [] (aI rfl rfl rfl rfl rfl (by omega)) rfl ?_
  refine ux ?_
  refine aG 1 rfl rfl rfl rfl (du rfl (by simp;omega)) [] rfl ?_
  refine aj ?_
  refine aa (af [] rfl ?_)
  refine⟨k+1,[1,2,3],⟨?_,rfl,rfl,rfl,rfl,trivial⟩,by decide,?_,by omega,by omega⟩
  ·show some (Value.int .i64 (IntKind.i64.wrap ((k:Int)+1)))=_
   rw[bK (by omega)];rfl
  ·rw[tS n ha hf]
   have e:fX (qj n (al.take k) fs) ⟨fr,to,cap⟩ f=((qj n (al.take k) fs).set fr (IntKind.i64.wrap (x-f))).set to (IntKind.i64.wrap (y+f)):=by
    simp only[fX,Int.toNat_natCast,List.getD_eq_getElem?_getD,hx,Option.getD_some,hy]
   rw[e];rfl
 ·refine ae (aa (af [] rfl ?_))
  refine aE [0] (by decide) rfl (aB ?_)
  have hk':k=al.length:=by omega
  subst hk'
  exact⟨_,rfl,g,rfl,by rw[List.take_length];rfl⟩
end Go.Proofs.YtpbmihpjgjbndaaGreat
/- Flows: whether amounts are one, and what it is worth. -/
set_option linter.unusedVariables false
set_option linter.unusedSimpArgs false
namespace Go.Proofs.YtpbmihpjgjbndaaGreat
open Go.RowKit
open Classical in
noncomputable def dP (N:bt) (f:List Int):Int:=if f.length≠N.arcs.length then 6 else if ∀ p∈N.arcs.zip f,0≤p.2∧p.2≤p.1.cap then 0 else 3
theorem sK (N:bt) (hN:N.Fits) (hR:N.Right) (A:Option Addr) (c b o:Nat) (hA:N.arcs≠[]→A=some ⟨b,o,none⟩) (f:List Int) (F:Option Addr) (cf bf of:Nat) (hF:f≠[]→F=some ⟨bf,of,none⟩) (hf:∀ x∈f,dw x) (hfl:f.length*8≤140737488351232):
 Fn 61 [bi N A c,.slice F f.length cf] [] [.seg b o (arcs N.arcs),.seg bf of (aw f)] fun v H'=>v=.int .i64 (dP N f)∧H'=[]:=by
 have hln:=hN.len
 refine aM Tryz.func61 rfl rfl fun w0=>?_
 refine ae (aa ?_)
 refine a6 (cs:=bJ N A c) rfl rfl rfl (fun _=>rfl) fun p=>?_
 refine af [] rfl ?_
 refine ae (ae (aa ?_))
 refine ab [] (v:=bi N A c) (ad 0 rfl rfl rfl rfl) rfl ?_
 refine ax [] (oM N hN A c b o hA) rfl rfl rfl rfl (by kernel_rfl) ⟨⟨1,_,by simp,rfl,ak _ _ _,ap⟩,trivial⟩ (fun _=>rfl) ?_
 rintro v H' ⟨rfl,rfl⟩
 refine⟨rfl,?_⟩
 rw[hR.check]
 refine af [] rfl ?_
 refine ae (aa (af [] rfl ?_))
 refine aC rfl (fun h=>absurd rfl h) (fun _=>aq ?_)
 refine ae (ae (aa (ah [] rfl ?_)))
 refine ab [] (ad 0 rfl rfl rfl rfl) rfl ?_
 refine af [] rfl ?_
 refine aC rfl (fun h=>?_) (fun h=>aq ?_)
 ·refine ae (aa (af [] rfl ?_))
  refine aE [] (by decide) rfl (aB ⟨_,rfl,?_,rfl⟩)
  unfold dP;rw[if_pos (by omega)];rfl
 have hlen:f.length=N.arcs.length:=by omega
 refine ae (ae (aa (af [] rfl ?_)))
 refine au ?_
 refine bu (σ:=Nat) (fun k=>[(21,.int .i64 k),(20,.int .i64 f.length),(19,.slice F f.length cf),(2,.pointer (some ⟨p,0,none⟩))])
  (fun k=>[blk p 50 (bJ N A c),.seg b o (arcs N.arcs),.seg bf of (aw f)]) (fun k=>k≤f.length∧∀ q∈(N.arcs.zip f).take k,0≤q.2∧q.2≤q.1.cap) (fun k=>f.length-k)
  0 [0,1,2] ⟨rfl,rfl,rfl,rfl,trivial⟩ (by decide) rfl ⟨Nat.zero_le _,fun q hq=>by simp at hq⟩ ?_
 rintro k ⟨hk,hall⟩
 refine ae (aa (af [] rfl ?_))
 refine ae (aC rfl (fun hlt=>aq ?_) (fun hge=>aO ?_))
 ·have hlt:k<f.length:=by omega
  obtain rfl:=hF (by rintro rfl;simp at hlt)
  obtain rfl:=hA (by intro h;have h0:N.arcs.length=0:=by rw[h];rfl
                     omega)
  obtain⟨x,hx⟩:∃ x,f[k]?=some x:=⟨f[k],List.getElem?_eq_getElem hlt⟩
  obtain⟨a,ha⟩:∃ a,N.arcs[k]?=some a:=⟨N.arcs[k],List.getElem?_eq_getElem (by omega)⟩
  obtain⟨_,_,hcap⟩:=fm ha
  have hz:(N.arcs.zip f)[k]?=some (a,x):=by simp[List.getElem?_zip_eq_some,ha,hx]
  have hbad:¬ (0≤x∧x≤a.cap)→dP N f=3:=by
   intro hb
   unfold dP
   rw[if_neg (by omega),if_neg (fun hall=>hb (hall _ (List.mem_of_getElem? hz)))]
  refine ae (au ?_)
  refine ae (aa (ah [] rfl ?_))
  refine ab [] (cW rfl rfl rfl rfl rfl hlt) rfl ?_
  refine ab [] (aU 2 rfl rfl rfl rfl (bn hx)) rfl ?_
  refine af [] rfl ?_
  refine ae (aa (ah [] rfl ?_))
  by_cases h0:x<0
  ·refine av 28 (v':=.bool true) rfl (congrArg Value.bool (az h0)) ?_
   refine af [2] rfl ?_
   refine bz rfl ?_
   refine ae (aa (af [] rfl ?_))
   refine aE [] (by decide) rfl (aB ⟨_,rfl,by rw[hbad (by omega)];rfl,rfl⟩)
  refine av 28 (v':=.bool false) rfl (congrArg Value.bool (aA h0)) ?_
  refine ah [2] rfl ?_
  refine ab [2] (ad 0 rfl rfl rfl rfl) rfl ?_
  refine ah [2] rfl ?_
  refine ab [2] (eH rfl rfl rfl rfl rfl (by omega)) rfl ?_
  refine ah [2] rfl ?_
  refine ab [2] (aU 1 rfl rfl rfl rfl hcap) rfl ?_
  refine af [2] rfl ?_
  refine aC rfl (fun h1=>?_) (fun h1=>aq ?_)
  ·refine ae (aa (af [] rfl ?_))
   refine aE [] (by decide) rfl (aB ⟨_,rfl,by rw[hbad (by omega)];rfl,rfl⟩)
  refine aa (af [] rfl ?_)
  refine⟨k+1,[0,1,2],⟨?_,rfl,rfl,rfl,trivial⟩,by decide,rfl,⟨by omega,fun q hq=>?_⟩,by omega⟩
  ·show some (Value.int .i64 (IntKind.i64.wrap ((k:Int)+1)))=_
   rw[bK (by omega)];rfl
  ·rw[List.take_add_one,hz] at hq
   rcases List.mem_append.1 hq with hq|hq
   ·exact hall q hq
   ·simp only[Option.toList_some,List.mem_singleton] at hq
    subst hq
    simp only;omega
 ·have hk':k=f.length:=by omega
  subst hk'
  refine ae (aa (af [] rfl ?_))
  refine aE [] (by decide) rfl (aB ⟨_,rfl,?_,rfl⟩)
  unfold dP
  rw[if_neg (by omega),if_pos (fun q hq=>hall q (by rw[List.take_of_length_le (by simp;omega)];exact hq))]
  rfl
def ex (ps:List (dQ×Int)) (v:Int):Int:=(ps.map fun p=>(if p.1.to=v then p.2 else 0)-(if p.1.fr=v then p.2 else 0)).sum
theorem qt {l:List Int} {a:dQ} {f:Int} {B:Int} (hB:∀ v:Nat,-B≤l.getD v 0∧l.getD v 0≤B) (hf:0≤f) (hb:B+f≤9000000000000000000) (h1:0≤a.fr∧a.fr<l.length) (h2:0≤a.to∧a.to<l.length) (v:Nat):
 (fX l a f).getD v 0=l.getD v 0+((if a.to=v then f else 0)-(if a.fr=v then f else 0)):=by
 obtain⟨fr,to,cap⟩:=a
 obtain⟨fr,rfl⟩:=Int.eq_ofNat_of_zero_le h1.1
 obtain⟨to,rfl⟩:=Int.eq_ofNat_of_zero_le h2.1
 simp only[fX,Int.toNat_natCast]
 have h1':fr<l.length:=by have:=h1.2;simp only at this;omega
 have h2':to<l.length:=by have:=h2.2;simp only at this;omega
 have hs1:∀ v,(l.set fr (IntKind.i64.wrap (l.getD fr 0-f))).getD v 0=l.getD v 0-(if fr=v then f else 0):=by
  intro v
  by_cases h:fr=v
  ·subst h
   have:=hB fr
   rw[if_pos rfl,List.getD_eq_getElem?_getD,List.getElem?_set_self h1',Option.getD_some,bK (by omega)]
  ·rw[if_neg h,List.getD_eq_getElem?_getD,List.getElem?_set_ne h,List.getD_eq_getElem?_getD];omega
 by_cases h:to=v
 ·subst h
  have e1:=hs1 to
  have:=hB to
  rw[List.getD_eq_getElem?_getD,List.getElem?_set_self (by simpa using h2'),Option.getD_some,e1,bK (by split<;>omega)]
  simp only[Int.natCast_inj,if_true]
  omega
 ·rw[List.getD_eq_getElem?_getD,List.getElem?_set_ne h,← List.getD_eq_getElem?_getD,hs1 v]
  simp only[Int.natCast_inj]
  rw[if_neg h]
  omega
theorem rJ (n:Nat):∀ (ps:List (dQ×Int)) (l:List Int) (B:Int),l.length=n+1→(∀ v:Nat,-B≤l.getD v 0∧l.getD v 0≤B)→(∀ p∈ps,0≤p.2∧(0≤p.1.fr∧p.1.fr≤n)∧(0≤p.1.to∧p.1.to≤n))→B+(ps.map (·.2)).sum≤9000000000000000000→
 ∀ v:Nat,(ps.foldl (fun l p=>fX l p.1 p.2) l).getD v 0=l.getD v 0+ex ps v
 |[],l,B,_,_,_,_,v=>by simp[ex]
 |p::ps,l,B,hl,hB,hp,hs,v=>by
  obtain⟨p1,p2,p3⟩:=hp p (by simp)
  have hnn:0≤(ps.map (·.2)).sum:=by
   have:∀ (ps:List (dQ×Int)),(∀ p∈ps,0≤p.2)→0≤(ps.map (·.2)).sum:=by
    intro ps
    induction ps with
    |nil=>intro _;simp
    |cons q ps ih=>intro h;have:=ih fun a ha=>h a (by simp[ha]);have:=h q (by simp);simp only[List.map_cons,List.sum_cons];omega
   exact this ps fun q hq=>(hp q (by simp[hq])).1
  simp only[List.map_cons,List.sum_cons] at hs
  have hst:=qt (l:=l) (a:=p.1) (f:=p.2) hB p1 (by omega) (by omega) (by omega)
  rw[List.foldl_cons,rJ n ps (fX l p.1 p.2) (B+p.2) (by rw[jz];exact hl) (fun v=>?_) (fun q hq=>hp q (by simp[hq])) (by omega) v,hst v]
  ·simp only[ex,List.map_cons,List.sum_cons];omega
  ·rw[hst v]
   have:=hB v
   split<;>split<;>omega
theorem wc (n:Nat) (al:List dQ) (fs:List Int) (hp:∀ p∈al.zip fs,0≤p.2∧(0≤p.1.fr∧p.1.fr≤n)∧(0≤p.1.to∧p.1.to≤n)) (hs:((al.zip fs).map (·.2)).sum≤9000000000000000000) (v:Nat):(qj n al fs).getD v 0=ex (al.zip fs) v:=by
 unfold qj
 have h0:∀ v,(List.replicate (n+1) (0:Int)).getD v 0=0:=by
  intro v;rw[List.getD_eq_getElem?_getD,List.getElem?_replicate];split<;>rfl
 rw[rJ n (al.zip fs) _ 0 (by simp) (fun v=>by rw[h0];omega) hp (by omega) v,h0]
 omega
structure Ranged (N:bt) (f:List Int):Prop where
 len:f.length=N.arcs.length
 all:∀ p∈N.arcs.zip f,0≤p.2∧p.2≤p.1.cap
theorem eQ {N:bt} {f:List Int}:dP N f=0↔Ranged N f:=by
 unfold dP
 constructor
 ·intro h
  split at h
  ·simp at h
  ·rename_i h1
   split at h
   ·rename_i h2;exact⟨by omega,h2⟩
   ·simp at h
 ·rintro⟨h1,h2⟩
  rw[if_neg (by omega),if_pos h2]
theorem jK:∀ (al:List dQ) (fs:List Int),(∀ p∈al.zip fs,0≤p.2∧p.2≤p.1.cap)→(∀ a∈al,0≤a.cap)→((al.zip fs).map (·.2)).sum≤(al.map (·.cap)).sum
 |[],_,_,_=>by simp
 |a::al,[],_,h=>by
  have:=jK al [] (by simp) fun a ha=>h a (by simp[ha])
  have:=h a (by simp)
  simp at*;omega
 |a::al,f::fs,hp,h=>by
  have:=jK al fs (fun p hp'=>hp p (by simp[hp'])) fun a ha=>h a (by simp[ha])
  have:=hp (a,f) (by simp)
  simp only[List.zip_cons_cons,List.map_cons,List.sum_cons] at*;omega
theorem Ranged.exc {N:bt} {f:List Int} (h:Ranged N f) (hR:N.Right) (n:Nat) (hn:N.nodes=n) (v:Nat):(qj n N.arcs f).getD v 0=ex (N.arcs.zip f) v:=by
 refine wc n N.arcs f (fun p hp=>?_) ?_ v
 ·have h1:=h.all p hp
  have h2:=hR.arc p.1 (List.of_mem_zip hp).1
  exact⟨h1.1,by omega,by omega⟩
 ·have h1:=jK N.arcs f h.all fun a ha=>(hR.arc a ha).2.2
  have h2:=hR.sum
  omega
open Classical in
noncomputable def ez (N:bt) (f:List Int):Int:=if dP N f≠0 then dP N f else if ∀ v:Int,1≤v∧v≤N.nodes→v≠N.src→v≠N.snk→ex (N.arcs.zip f) v=0 then 0 else 9
theorem kT {N:bt} {f:List Int} (h:Ranged N f) (hz:∀ v:Int,1≤v∧v≤N.nodes→v≠N.src→v≠N.snk→ex (N.arcs.zip f) v=0):ez N f=0:=by
 unfold ez;rw[if_neg (fun hc=>hc (eQ.2 h)),if_pos hz]
theorem mv {N:bt} {f:List Int} (h:Ranged N f) (hz:¬ ∀ v:Int,1≤v∧v≤N.nodes→v≠N.src→v≠N.snk→ex (N.arcs.zip f) v=0):ez N f=9:=by
 unfold ez;rw[if_neg (fun hc=>hc (eQ.2 h)),if_neg hz]
structure aT (N:bt) (f:List Int):Prop extends Ranged N f where
 kept:∀ v:Int,1≤v∧v≤N.nodes→v≠N.src→v≠N.snk→ex (N.arcs.zip f) v=0
theorem dJ {N:bt} {f:List Int}:ez N f=0↔aT N f:=by
 constructor
 ·intro h
  by_cases hw:Ranged N f
  ·refine⟨hw,?_⟩
   by_cases hz:∀ v:Int,1≤v∧v≤N.nodes→v≠N.src→v≠N.snk→ex (N.arcs.zip f) v=0
   ·exact hz
   ·rw[mv hw hz] at h;simp at h
  ·exfalso
   have h1:dP N f≠0:=fun h=>hw (eQ.1 h)
   unfold ez at h;rw[if_pos h1] at h;exact h1 h
 ·exact fun h=>kT h.toRanged h.kept
theorem td (N:bt) (hN:N.Fits) (hR:N.Right) (A:Option Addr) (c b o:Nat) (hA:N.arcs≠[]→A=some ⟨b,o,none⟩) (f:List Int) (F:Option Addr) (cf bf of:Nat) (hF:f≠[]→F=some ⟨bf,of,none⟩) (hf:∀ x∈f,dw x) (hfl:f.length*8≤140737488351232):
 Fn 46 [bi N A c,.slice F f.length cf] [] [.seg b o (arcs N.arcs),.seg bf of (aw f)] fun v H'=>v=.int .i64 (ez N f)∧H'=[]:=by
 refine aM Tryz.func46 rfl rfl fun w0=>?_
 refine ae (aa ?_)
 refine a6 (cs:=bJ N A c) rfl rfl rfl (fun _=>rfl) fun p=>?_
 refine af [] rfl ?_
 refine ae (ae (aa ?_))
 refine ab [] (v:=bi N A c) (ad 0 rfl rfl rfl rfl) rfl ?_
 refine ah [] rfl ?_
 refine ax [] (sK N hN hR A c b o hA f F cf bf of hF hf hfl) rfl rfl rfl rfl (by kernel_rfl) ⟨⟨1,_,by simp,rfl,ak _ _ _,ap⟩,⟨2,_,by simp,rfl,ak _ _ _,ap⟩,trivial⟩ (fun _=>rfl) ?_
 rintro v H' ⟨rfl,rfl⟩
 refine⟨rfl,?_⟩
 refine af [] rfl ?_
 refine ae (aa (af [] rfl ?_))
 refine aC rfl (fun h=>?_) (fun h=>aq ?_)
 ·refine ae (aa (af [] rfl ?_))
  refine aE [] (by decide) rfl (aB ⟨_,rfl,?_,rfl⟩)
  unfold ez;rw[if_pos h];rfl
 have hW:Ranged N f:=eQ.1 (Classical.not_not.1 h)
 have hnn:=hR.nodes
 obtain⟨n,hn⟩:∃ n:Nat,N.nodes=n:=⟨N.nodes.toNat,by omega⟩
 have hX:=hW.exc hR n hn
 have hXl:=l6 n N.arcs f
 have T:=pp n N.src N.snk A F c cf b o bf of N.arcs f (by omega) hA (fun hne=>hF (fun h0=>hne (by have:=hW.len;rw[h0] at this;exact List.length_eq_zero_iff.1 this.symm))) hW.len hR.len (fun a ha=>by have:=hR.arc a ha;omega)
 rw[← hn] at T
 refine ae (aa ?_)
 refine ab [] (v:=bi N A c) (ad 0 rfl rfl rfl rfl) rfl ?_
 refine ah [] rfl ?_
 refine ax [] T rfl rfl rfl (by rw[hW.len];rfl) (by kernel_rfl) ⟨⟨1,_,by simp,rfl,ak _ _ _,ap⟩,⟨2,_,by simp,rfl,ak _ _ _,ap⟩,trivial⟩ (fun _=>rfl) ?_
 rintro v H' ⟨g,rfl,rfl⟩
 refine⟨rfl,?_⟩
 refine af [] rfl ?_
 obtain⟨X,hXd⟩:∃ X,X=qj n N.arcs f:=⟨_,rfl⟩
 rw[← hXd] at hX hXl ⊢
 refine ae (ae (aa (ah [] rfl ?_)))
 refine ab [] (ad 1 rfl rfl rfl rfl) rfl ?_
 refine ah [] rfl ?_
 refine aj ?_
 rw[hn]
 refine au ?_
 refine bu (σ:=Nat) (fun k=>[(20,.int .i64 k),(19,.int .i64 n),(6,.slice (some ⟨g,0,none⟩) (n+1) (n+1)),(2,.pointer (some ⟨p,0,none⟩))])
  (fun k=>[.own (.slice (some ⟨g,0,none⟩) (n+1) (n+1)) 2 1 (n+1) (aw X),blk p 50 (bJ N A c)]) (fun k=>k≤n∧∀ v:Int,1≤v∧v≤k→v≠N.src→v≠N.snk→ex (N.arcs.zip f) v=0) (fun k=>n-k)
  0 [0,1] ⟨rfl,rfl,rfl,rfl,trivial⟩ (by decide) rfl ⟨Nat.zero_le _,fun v hv=>by omega⟩ ?_
 rintro k ⟨hk,hall⟩
 refine ae (aa (af [] rfl ?_))
 refine ae (aC rfl (fun hlt=>aq ?_) (fun hge=>aO ?_))
 ·have hlt:k<n:=by omega
  refine ae (au ?_)
  refine ae (aa (af [] rfl ?_))
  refine ae (aa (af [] rfl ?_))
  refine aV 8 (v':=.int .i64 ((k+1:Nat):Int)) rfl (congrArg (Value.int .i64) (bK (by omega))) ?_
  have hnext:(((k+1:Nat):Int)≠N.src→((k+1:Nat):Int)≠N.snk→ex (N.arcs.zip f) ((k+1:Nat):Int)=0)→∀ v:Int,1≤v∧v≤((k+1:Nat):Int)→v≠N.src→v≠N.snk→ex (N.arcs.zip f) v=0:=by
   intro hz v hv h1 h2
   by_cases hvk:v≤k
   ·exact hall v ⟨hv.1,hvk⟩ h1 h2
   ·obtain rfl:v=((k+1:Nat):Int):=by omega
    exact hz h1 h2
  have hxk:∃ x,X[k+1]?=some x:=⟨X[k+1]'(by omega),List.getElem?_eq_getElem (by omega)⟩
  obtain⟨x,hx⟩:=hxk
  have hxv:x=ex (N.arcs.zip f) ((k+1:Nat):Int):=by
   have:=hX (k+1)
   rw[List.getD_eq_getElem?_getD,hx] at this
   exact this
  by_cases hz:((k+1:Nat):Int)≠N.src→((k+1:Nat):Int)≠N.snk→ex (N.arcs.zip f) ((k+1:Nat):Int)=0
  ·refine dg [(41,.bool false),(20,.int .i64 k),(19,.int .i64 n),(6,.slice (some ⟨g,0,none⟩) (n+1) (n+1)),(2,.pointer (some ⟨p,0,none⟩))]
    [.own (.slice (some ⟨g,0,none⟩) (n+1) (n+1)) 2 1 (n+1) (aw X),blk p 50 (bJ N A c)] ?_ ?_
   ·skip
    refine aa (ah [] rfl ?_)
    refine ab [] (ad 1 rfl rfl rfl rfl) rfl ?_
    refine ah [] rfl ?_
    by_cases h1:((k+1:Nat):Int)=N.src
    ·refine av 29 (v':=.bool false) rfl (congrArg Value.bool (aA (fun h=>h h1))) ?_
     refine af [4,10] rfl ?_
     exact⟨[0,1],⟨rfl,rfl,rfl,rfl,rfl,trivial⟩,by decide,rfl⟩
    refine av 29 (v':=.bool true) rfl (congrArg Value.bool (az h1)) ?_
    refine ah [4] rfl ?_
    refine ab [4] (ad 1 rfl rfl rfl rfl) rfl ?_
    refine ah [4] rfl ?_
    by_cases h2:((k+1:Nat):Int)=N.snk
    ·refine av 35 (v':=.bool false) rfl (congrArg Value.bool (aA (fun h=>h h2))) ?_
     refine af [4,10] rfl ?_
     exact⟨[0,1],⟨rfl,rfl,rfl,rfl,rfl,trivial⟩,by decide,rfl⟩
    refine av 35 (v':=.bool true) rfl (congrArg Value.bool (az h2)) ?_
    refine ah [4,10] rfl ?_
    refine ab [4,10] (aI rfl rfl rfl rfl rfl (by omega)) rfl ?_
    refine ab [4,10] (aF 0 rfl rfl rfl (bn hx)) rfl ?_
    refine af [4,10] rfl ?_
    exact⟨[0,1],⟨congrArg some (congrArg Value.bool (aA (fun h3=>h3 (hxv.trans (hz h1 h2))))),rfl,rfl,rfl,rfl,trivial⟩,by decide,rfl⟩
   ·refine bP rfl (aq ?_)
    refine aa (af [] rfl ?_)
    refine⟨k+1,[0,1],⟨?_,rfl,rfl,rfl,trivial⟩,by decide,rfl,⟨by omega,hnext hz⟩,by omega⟩
    show some (Value.int .i64 (IntKind.i64.wrap ((k:Int)+1)))=_
    rw[bK (by omega)];rfl
  ·have h1:((k+1:Nat):Int)≠N.src:=fun e=>hz (fun h=>absurd e h)
   have h2:((k+1:Nat):Int)≠N.snk:=fun e=>hz (fun _ h=>absurd e h)
   have h3:x≠0:=fun e=>hz (fun _ _=>hxv.symm.trans e)
   refine ae (aa (ah [] rfl ?_))
   refine ab [] (ad 1 rfl rfl rfl rfl) rfl ?_
   refine ah [] rfl ?_
   refine av 29 (v':=.bool true) rfl (congrArg Value.bool (az h1)) ?_
   refine ah [4] rfl ?_
   refine ab [4] (ad 1 rfl rfl rfl rfl) rfl ?_
   refine ah [4] rfl ?_
   refine av 35 (v':=.bool true) rfl (congrArg Value.bool (az h2)) ?_
   refine ah [4,10] rfl ?_
   refine ab [4,10] (aI rfl rfl rfl rfl rfl (by omega)) rfl ?_
   refine ab [4,10] (aF 0 rfl rfl rfl (bn hx)) rfl ?_
   refine af [4,10] rfl ?_
   refine aC rfl (fun _=>?_) (fun h=>absurd h3 h)
   refine ae (aa (af [] rfl ?_))
   refine aE [] (by decide) rfl (aB ⟨_,rfl,?_,rfl⟩)
   rw[mv hW (fun hall=>hz (hall _ (by omega)))];rfl
 ·refine ae (aa (af [] rfl ?_))
  refine aE [] (by decide) rfl (aB ⟨_,rfl,?_,rfl⟩)
  rw[kT hW (fun v hv=>hall v (by omega))];rfl
end Go.Proofs.YtpbmihpjgjbndaaGreat
/- What room a flow leaves. -/
set_option linter.unusedVariables false
set_option linter.unusedSimpArgs false
namespace Go.Proofs.YtpbmihpjgjbndaaGreat
open Go.RowKit
theorem rU (n:Int):IntKind.i64.wrap ((BitVec.ofInt IntKind.i64.bits n&&& BitVec.ofInt IntKind.i64.bits 1).toNat:Int)=n%2:=by
 have h:(BitVec.ofInt IntKind.i64.bits n&&& BitVec.ofInt IntKind.i64.bits 1).toNat=(n%2).toNat:=by
  rw[BitVec.toNat_and,BitVec.toNat_ofInt,BitVec.toNat_ofInt]
  have e1:((1:Int)%((2^IntKind.i64.bits:Nat):Int)).toNat=1:=by decide
  rw[e1,Nat.and_one_is_mod]
  have e2:((2^IntKind.i64.bits:Nat):Int)=18446744073709551616:=by decide
  rw[e2]
  omega
 rw[h,bK (by omega)]
 omega
def dI (a:dQ) (r:Nat):Int×Int:=if r%2=1 then (a.to,a.fr) else (a.fr,a.to)
def cL (N:bt) (r:Nat):Int×Int:=match N.arcs[r/2]? with
 |some a=>dI a r
 |none=>(0,0)
theorem gg (N:bt) (A:Option Addr) (c b o:Nat) (hA:N.arcs≠[]→A=some ⟨b,o,none⟩) (hl:N.arcs.length≤2000) (r:Nat) (hr:r<2*N.arcs.length):
 Fn 60 [bi N A c,.int .i64 r] [] [.seg b o (arcs N.arcs)] fun v H'=>v=pZ (cL N r)∧H'=[]:=by
 obtain rfl:=hA (by intro h;rw[h] at hr;simp at hr)
 obtain⟨a,ha⟩:∃ a,N.arcs[r/2]?=some a:=⟨N.arcs[r/2]'(by omega),List.getElem?_eq_getElem (by omega)⟩
 have he:cL N r=dI a r:=by unfold cL;rw[ha]
 have hq:IntKind.i64.wrap ((r:Int).tdiv 2)=((r/2:Nat):Int):=by rw[bK (by rw[Int.tdiv_eq_ediv_of_nonneg (by omega)];omega),Int.tdiv_eq_ediv_of_nonneg (by omega)];omega
 rw[he]
 refine aM Tryz.func60 rfl rfl fun w0=>?_
 refine ae (aa ?_)
 refine a6 (cs:=bJ N (some ⟨b,o,none⟩) c) rfl rfl rfl (fun _=>rfl) fun p=>?_
 refine af [] rfl ?_
 refine ae (ae (aa (ah [] rfl ?_)))
 refine av 9 (v':=.bool false) rfl (congrArg Value.bool (aA (by omega))) ?_
 refine ah [2] rfl ?_
 refine av 11 (v':=.int .i64 ((r/2:Nat):Int)) rfl (congrArg (Value.int .i64) hq) ?_
 refine ab [2] (ad 0 rfl rfl rfl rfl) rfl ?_
 refine af [2] rfl ?_
 refine aC rfl (fun h=>absurd h (by omega)) (fun _=>aq ?_)
 refine ae (aa (ah [] rfl ?_))
 refine ab [] (ad 0 rfl rfl rfl rfl) rfl ?_
 refine ah [] rfl ?_
 refine av 20 (v':=.int .i64 ((r/2:Nat):Int)) rfl (congrArg (Value.int .i64) hq) ?_
 refine ab [] (eH rfl rfl rfl rfl rfl (by omega)) rfl ?_
 refine ab [] (aU 1 rfl rfl rfl rfl (gW ha)) rfl ?_
 refine aQ rfl rfl rfl (fun _=>rfl) fun q=>?_
 refine aD 0 rfl rfl rfl rfl rfl [] rfl ?_
 refine aj ?_
 refine dg [(6,.pointer (some ⟨q,0,none⟩))] [blk q 112 [.int .i64 (dI a r).1,.int .i64 (dI a r).2,.int .i64 a.cap]] ?_ ?_
 ·refine ae (aa (af [] rfl ?_))
  have hand:IntKind.i64.wrap ((BitVec.ofInt IntKind.i64.bits (r:Int)&&& BitVec.ofInt IntKind.i64.bits 1).toNat:Int)=(r:Int)%2:=rU r
  refine aC rfl (fun h=>?_) (fun h=>aq ?_)
  ·rw[hand] at h
   have e:dI a r=(a.to,a.fr):=by unfold dI;rw[if_pos (by omega)]
   rw[e]
   refine aa (ah [] rfl ?_)
   refine ab [] (ad 0 rfl rfl rfl rfl) rfl ?_
   refine ah [] rfl ?_
   refine ab [] (ad 0 rfl rfl rfl rfl) rfl ?_
   refine ah [] rfl ?_
   refine aD 0 rfl rfl rfl rfl rfl [] rfl ?_
   refine ah [] rfl ?_
   refine aD 0 rfl rfl rfl rfl rfl [] rfl ?_
   refine aj ?_
   exact⟨[0],⟨rfl,trivial⟩,by decide,rfl⟩
  ·rw[hand] at h
   have e:dI a r=(a.fr,a.to):=by unfold dI;rw[if_neg (by omega)]
   rw[e]
   exact⟨[0],⟨rfl,trivial⟩,by decide,rfl⟩
 ·refine ae ?_
  refine bq 6 [(0,true),(1,true),(2,true),(3,true),(4,true),(5,true)] [0] (by kernel_rfl) (by decide) rfl ?_
  refine aJ [] rfl ?_
  refine ai [] rfl (ad 0 rfl rfl rfl rfl) rfl ?_
  refine aJ [] rfl ?_
  refine ai [] rfl (ad 0 rfl rfl rfl rfl) rfl ?_
  refine cA [] rfl ?_
  refine aj ?_
  exact aE [] (by decide) rfl (aB ⟨_,rfl,rfl,rfl⟩)
def aK (ps:List (dQ×Int)):List Int:=ps.flatMap fun p=>[p.1.cap-p.2,p.2]
theorem b7 (ps:List (dQ×Int)):(aK ps).length=2*ps.length:=by
 induction ps with
 |nil=>rfl
 |cons p ps ih=>
  have e:aK (p::ps)=[p.1.cap-p.2,p.2]++aK ps:=by simp[aK]
  rw[e,List.length_append,ih];simp;omega
theorem me {ps:List (dQ×Int)} {k:Nat} {p:dQ×Int} (h:ps[k]?=some p):aK (ps.take (k+1))=aK (ps.take k)++[p.1.cap-p.2,p.2]:=by
 rw[List.take_add_one,h]
 simp[aK]
theorem lI (N:bt) (hN:N.Fits) (hR:N.Right) (A:Option Addr) (c b o:Nat) (hA:N.arcs≠[]→A=some ⟨b,o,none⟩) (f:List Int) (F:Option Addr) (cf bf of:Nat) (hF:f≠[]→F=some ⟨bf,of,none⟩) (hf:∀ x∈f,dw x) (hfl:f.length*8≤140737488351232):
 Fn 59 [bi N A c,.slice F f.length cf] [] [.seg b o (arcs N.arcs),.seg bf of (aw f)] fun v H'=>
  (aT N f∧∃ A' c',v=.tuple #[.slice A' (2*N.arcs.length) c',.int .i64 0]∧H'=[.own (.slice A' (2*N.arcs.length) c') 2 1 (2*N.arcs.length) (aw (aK (N.arcs.zip f)))])∨
  (¬ aT N f∧v=.tuple #[.slice none 0 0,.int .i64 (ez N f)]∧H'=[]):=by
 refine aM Tryz.func59 rfl rfl fun w0=>?_
 refine ae (aa ?_)
 refine a6 (cs:=bJ N A c) rfl rfl rfl (fun _=>rfl) fun p=>?_
 refine af [] rfl ?_
 refine ae (ae (aa ?_))
 refine ab [] (v:=bi N A c) (ad 0 rfl rfl rfl rfl) rfl ?_
 refine ah [] rfl ?_
 refine ax [] (td N hN hR A c b o hA f F cf bf of hF hf hfl) rfl rfl rfl rfl (by kernel_rfl) ⟨⟨1,_,by simp,rfl,ak _ _ _,ap⟩,⟨2,_,by simp,rfl,ak _ _ _,ap⟩,trivial⟩ (fun _=>rfl) ?_
 rintro v H' ⟨rfl,rfl⟩
 refine⟨rfl,?_⟩
 refine af [] rfl ?_
 refine ae (aa (af [] rfl ?_))
 refine aC rfl (fun h=>?_) (fun h=>aq ?_)
 ·refine ae (aa (af [] rfl ?_))
  refine aE [] (by decide) rfl (aB ⟨_,rfl,.inr ⟨fun hf=>h (dJ.2 hf),rfl,rfl⟩⟩)
 have hW:aT N f:=dJ.1 (Classical.not_not.1 h)
 have hlen:=hW.len
 have hl2:=hR.len
 refine ae (aa (ah [] rfl ?_))
 refine av 18 (v':=.int .i64 ((2*f.length:Nat):Int)) rfl (congrArg (Value.int .i64) ((bK (n:=2*(f.length:Int)) (by omega)).trans (by omega))) ?_
 refine cv (n:=0) (c:=2*f.length) rfl rfl rfl rfl rfl rfl (by omega) (by omega) (by omega) (fun _=>rfl) fun g=>?_
 refine af [] rfl ?_
 refine ae (ae (aa (af [] rfl ?_)))
 refine au ?_
 refine bu (σ:=Nat×Option Addr×Nat) (fun s=>[(22,.int .i64 s.1),(21,.int .i64 f.length),(20,.slice F f.length cf),(7,.slice s.2.1 (2*s.1) s.2.2),(2,.pointer (some ⟨p,0,none⟩))])
  (fun s=>[.own (.slice s.2.1 (2*s.1) s.2.2) 2 1 (2*s.1) (aw (aK ((N.arcs.zip f).take s.1))),blk p 50 (bJ N A c),.seg b o (arcs N.arcs),.seg bf of (aw f)]) (fun s=>s.1≤f.length) (fun s=>f.length-s.1)
  (0,some ⟨g,0,none⟩,2*f.length) [0,1,2,3] ⟨rfl,rfl,rfl,rfl,rfl,trivial⟩ (by decide) ?_ (Nat.zero_le _) ?_
 ·rw[show made [Value.int .i64 0] (0*1)=[] from List.length_eq_zero_iff.1 (gD _ _)]
  show b9 _ _=some [.own (.slice (some ⟨g,0,none⟩) 0 (2*f.length)) 2 1 0 (aw (aK ((N.arcs.zip f).take 0))),blk p 50 (bJ N A c),.seg b o (arcs N.arcs),.seg bf of (aw f)]
  rw[List.take_zero]
  rfl
 rintro⟨k,A1,c1⟩ hk
 simp only at hk ⊢
 refine ae (aa (af [] rfl ?_))
 refine ae (aC rfl (fun hlt=>aq ?_) (fun hge=>aO ?_))
 ·have hlt:k<f.length:=by omega
  obtain rfl:=hF (by rintro rfl;simp at hlt)
  obtain rfl:=hA (by intro h;have h0:N.arcs.length=0:=by rw[h];rfl
                     omega)
  obtain⟨x,hx⟩:∃ x,f[k]?=some x:=⟨f[k],List.getElem?_eq_getElem hlt⟩
  obtain⟨a,ha⟩:∃ a,N.arcs[k]?=some a:=⟨N.arcs[k],List.getElem?_eq_getElem (by omega)⟩
  obtain⟨_,_,hcap⟩:=fm ha
  have hz:(N.arcs.zip f)[k]?=some (a,x):=by simp[List.getElem?_zip_eq_some,ha,hx]
  have hb:=hW.all _ (List.mem_of_getElem? hz)
  have hB:=(hN.arc a (List.mem_of_getElem? ha)).2.2
  simp only at hb
  unfold dw at hB
  refine ae (au ?_)
  refine ae (aa (ah [] rfl ?_))
  refine ab [] (cW rfl rfl rfl rfl rfl hlt) rfl ?_
  refine ab [] (aU 3 rfl rfl rfl rfl (bn hx)) rfl ?_
  refine af [] rfl ?_
  refine aa (ah [] rfl ?_)
  refine ab [] (ad 1 rfl rfl rfl rfl) rfl ?_
  refine ah [] rfl ?_
  refine ab [] (eH rfl rfl rfl rfl rfl (by omega)) rfl ?_
  refine ah [] rfl ?_
  refine ab [] (aU 2 rfl rfl rfl rfl hcap) rfl ?_
  refine ah [] rfl ?_
  refine av 35 (v':=.int .i64 (a.cap-x)) rfl (congrArg (Value.int .i64) (bK (by omega))) ?_
  refine b8 rfl rfl rfl rfl rfl rfl rfl (fun _=>rfl) fun g2=>?_
  refine a9 (n:=2*k) (m:=2) (off:=0) (news:=[.int .i64 (a.cap-x),.int .i64 x]) 1 0 rfl rfl rfl rfl rfl rfl (by decide) rfl rfl (aR g2 _ _ (0,0)) (fun _=>rfl) rfl rfl (by omega) (by omega) (fun _ _=>rfl) fun A2 c2=>?_
  refine af [] rfl ?_
  refine aa (af [] rfl ?_)
  refine⟨(k+1,A2,c2),[1,2,3,4],⟨?_,rfl,rfl,rfl,rfl,trivial⟩,by decide,?_,by simp only;omega,by simp only;omega⟩
  ·show some (Value.int .i64 (IntKind.i64.wrap ((k:Int)+1)))=_
   rw[bK (by omega)];rfl
  ·simp only[me hz]
   rw[show aw (aK ((N.arcs.zip f).take k)++[a.cap-x,x])=aw (aK ((N.arcs.zip f).take k))++[.int .i64 (a.cap-x),.int .i64 x] by simp[aw]]
   rfl
 ·have hk':k=N.arcs.length:=by omega
  subst hk'
  rw[List.take_of_length_le (by simp;omega)]
  refine ae (aa (af [] rfl ?_))
  refine aE [0] (by decide) rfl (aB ⟨_,rfl,.inl ⟨hW,A1,c1,rfl,rfl⟩⟩)
end Go.Proofs.YtpbmihpjgjbndaaGreat
/- Where one comes, by tracks that have room. -/
set_option linter.unusedVariables false
set_option linter.unusedSimpArgs false
namespace Go.Proofs.YtpbmihpjgjbndaaGreat
open Go.RowKit
inductive tj (N:bt) (rm:List Int) (least:Int):Int→Prop
 |src:tj N rm least N.src
 |step (u:Int) (r:Nat):tj N rm least u→r<rm.length→(cL N r).1=u→least≤rm.getD r 0→tj N rm least (cL N r).2
theorem iP {N:bt} (hR:N.Right) {r:Nat} (hr:r<2*N.arcs.length):(1≤(cL N r).1∧(cL N r).1≤N.nodes)∧(1≤(cL N r).2∧(cL N r).2≤N.nodes):=by
 obtain⟨a,ha⟩:∃ a,N.arcs[r/2]?=some a:=⟨N.arcs[r/2]'(by omega),List.getElem?_eq_getElem (by omega)⟩
 have h:=hR.arc a (List.mem_of_getElem? ha)
 unfold cL;rw[ha]
 unfold dI;simp only
 split<;>exact⟨by omega,by omega⟩
def tr (N:bt) (k:Nat) (v:Nat):List Int:=((List.range k).filter fun (r:Nat)=>decide ((cL N r).1=(v:Int))).map fun (r:Nat)=>(r:Int)
theorem wm (N:bt) (k v:Nat):tr N (k+1) v=tr N k v++(if (cL N k).1=(v:Int) then [(k:Int)] else []):=by
 unfold tr
 rw[List.range_succ,List.filter_append,List.map_append]
 congr 1
 by_cases h:(cL N k).1=(v:Int)<;>simp[h]
theorem ny (N:bt) (k v:Nat):(tr N k v).length≤k:=by
 unfold tr
 rw[List.length_map]
 exact Nat.le_trans (List.length_filter_le _ _) (by simp)
theorem uu {N:bt} {k v:Nat} {x:Int}:x∈tr N k v↔∃ r:Nat,r<k∧(cL N r).1=(v:Int)∧x=r:=by
 unfold tr
 simp only[List.mem_map,List.mem_filter,List.mem_range,decide_eq_true_eq]
 constructor
 ·rintro⟨r,⟨h1,h2⟩,rfl⟩;exact⟨r,h1,h2,rfl⟩
 ·rintro⟨r,h1,h2,rfl⟩;exact⟨r,⟨h1,h2⟩,rfl⟩
theorem m8:∀ (l:List Bool) (t:Nat),l[t]?=some false→(l.set t true).count false+1=l.count false
 |[],t,h=>by simp at h
 |b::l,0,h=>by simp at h;subst h;simp
 |b::l,t+1,h=>by
  have:=m8 l t (by simpa using h)
  simp only[List.set_cons_succ,List.count_cons]
  omega
end Go.Proofs.YtpbmihpjgjbndaaGreat
