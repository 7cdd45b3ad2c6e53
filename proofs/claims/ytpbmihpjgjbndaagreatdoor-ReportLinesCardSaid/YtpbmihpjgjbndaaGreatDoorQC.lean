/- The engine and the words that all chapters share: several texts in one. -/
import Derived.Test.YtpbmihpjgjbndaaGreatDoorQB
import Derived.Test.YtpbmihpjgjbndaaGreatDoorQA
/- What 'Check' tells. -/
set_option linter.unusedVariables false
set_option linter.unusedSimpArgs false
namespace Go.Proofs.YtpbmihpjgjbndaaGreatDoor
open Go.RowKit
structure a8.Fits (N:a8):Prop where
 nodes:bN N.nodes
 src:bN N.src
 snk:bN N.snk
 len:N.arcs.length*24≤140737488351232
 arc:∀ a∈N.arcs,bN a.fr∧bN a.to∧bN a.cap
theorem kv (N:a8) (hN:N.Fits) (A:Option Addr) (c b o:Nat) (hA:N.arcs≠[]→A=some ⟨b,o,none⟩):Fn 43 [bu N A c] [] [.seg b o (arcs N.arcs)] fun v H'=>v=.int .i64 (fU N)∧H'=[]:=by
 have hln:=hN.len
 refine aS Tryz.func43 rfl rfl fun w0=>?_
 refine ad (aa ?_)
 refine bw (cs:=bG N A c) rfl rfl rfl (fun _=>rfl) fun p=>?_
 refine ae [] rfl ?_
 refine ad (aa (ae [] rfl ?_))
 refine ad (au (ad (aa (ah [] rfl ?_))))
 refine ab [] (af 0 rfl rfl rfl rfl) rfl ?_
 refine ah [] rfl ?_
 by_cases h1:N.nodes<2
 ·refine aw 14 (v':=.bool true) rfl (congrArg Value.bool (az h1)) ?_
  refine ae [3] rfl ?_
  refine bo rfl ?_
  refine ad (aa (ae [] rfl ?_))
  refine aE [] (by decide) rfl (aB ⟨_,rfl,?_,rfl⟩)
  unfold fU;rw[if_pos (.inl h1)];rfl
 refine aw 14 (v':=.bool false) rfl (congrArg Value.bool (aA h1)) ?_
 refine ah [3] rfl ?_
 refine ab [3] (af 0 rfl rfl rfl rfl) rfl ?_
 refine ae [3] rfl ?_
 refine aC rfl (fun h2=>?_) (fun h2=>?_)
 ·refine ad (aa (ae [] rfl ?_))
  refine aE [] (by decide) rfl (aB ⟨_,rfl,?_,rfl⟩)
  unfold fU;rw[if_pos (.inr h2)];rfl
 have c1:¬ (N.nodes<2∨500<N.nodes):=by omega
 refine ad (aa (ah [] rfl ?_))
 refine ab [] (af 0 rfl rfl rfl rfl) rfl ?_
 refine ax [] (kQ N A c p N.src) rfl rfl rfl rfl (by kernel_rfl) ⟨⟨0,_,by simp,rfl,aL _ _ _ (0,0),.inr rfl⟩,trivial⟩ (fun _=>rfl) ?_
 rintro v H' ⟨rfl,rfl⟩
 refine⟨rfl,?_⟩
 refine ah [] rfl ?_
 by_cases h3:fV N N.src
 case neg=>
  refine aw 25 (v':=.bool true) rfl (congrArg Value.bool (by rw[aA h3];rfl)) ?_
  refine ae [5] rfl ?_
  refine bo rfl ?_
  refine ad (aa (ae [] rfl ?_))
  refine aE [] (by decide) rfl (aB ⟨_,rfl,?_,rfl⟩)
  unfold fU;rw[if_neg c1,if_pos (fun hc=>h3 hc.1)];rfl
 refine aw 25 (v':=.bool false) rfl (congrArg Value.bool (by rw[az h3];rfl)) ?_
 refine ah [5] rfl ?_
 refine ab [5] (af 0 rfl rfl rfl rfl) rfl ?_
 refine ax [5] (kQ N A c p N.snk) rfl rfl rfl rfl (by kernel_rfl) ⟨⟨0,_,by simp,rfl,aL _ _ _ (0,0),.inr rfl⟩,trivial⟩ (fun _=>rfl) ?_
 rintro v H' ⟨rfl,rfl⟩
 refine⟨rfl,?_⟩
 refine ah [5] rfl ?_
 by_cases h4:fV N N.snk
 case neg=>
  refine aw 19 (v':=.bool true) rfl (congrArg Value.bool (by rw[aA h4];rfl)) ?_
  refine ai ?_
  refine bo rfl ?_
  refine ad (aa (ae [] rfl ?_))
  refine aE [] (by decide) rfl (aB ⟨_,rfl,?_,rfl⟩)
  unfold fU;rw[if_neg c1,if_pos (fun hc=>h4 hc.2)];rfl
 refine aw 19 (v':=.bool false) rfl (congrArg Value.bool (by rw[az h4];rfl)) ?_
 refine ai ?_
 refine bI rfl ?_
 have c2:¬ ¬ (fV N N.src∧fV N N.snk):=fun h=>h ⟨h3,h4⟩
 refine ad (aa (ah [] rfl ?_))
 refine ab [] (af 0 rfl rfl rfl rfl) rfl ?_
 refine ah [] rfl ?_
 refine ab [] (af 0 rfl rfl rfl rfl) rfl ?_
 refine ae [] rfl ?_
 refine aC rfl (fun h5=>?_) (fun h5=>?_)
 ·refine ad (aa (ae [] rfl ?_))
  refine aE [] (by decide) rfl (aB ⟨_,rfl,?_,rfl⟩)
  unfold fU;rw[if_neg c1,if_neg c2,if_pos h5];rfl
 refine ad (aa (ah [] rfl ?_))
 refine ab [] (af 0 rfl rfl rfl rfl) rfl ?_
 refine ae [] rfl ?_
 refine aC rfl (fun h6=>?_) (fun h6=>av ?_)
 ·refine ad (aa (ae [] rfl ?_))
  refine aE [] (by decide) rfl (aB ⟨_,rfl,?_,rfl⟩)
  unfold fU;rw[if_neg c1,if_neg c2,if_neg h5,if_pos (by omega)];rfl
 have hck:fU N=iD N 0 N.arcs:=by unfold fU;rw[if_neg c1,if_neg c2,if_neg h5,if_neg (by omega)]
 rw[hck]
 refine ad (aa (ae [] rfl ?_))
 refine ad (ad (aa (ah [] rfl ?_)))
 refine ab [] (af 0 rfl rfl rfl rfl) rfl ?_
 refine ae [] rfl ?_
 refine au ?_
 refine bq (σ:=Nat×Int) (fun s=>[(46,.int .i64 s.1),(45,.int .i64 N.arcs.length),(44,.slice A N.arcs.length c),(4,.int .i64 s.2),(3,.func (.func 76) #[] #[.pointer (some ⟨p,0,none⟩)]),(1,.pointer (some ⟨p,0,none⟩))])
  (fun s=>[blk p 27 (bG N A c),.seg b o (arcs N.arcs)]) (fun s=>s.1≤N.arcs.length∧bN s.2∧iD N 0 N.arcs=iD N s.2 (N.arcs.drop s.1)) (fun s=>N.arcs.length-s.1)
  (0,0) [0,1] ⟨rfl,rfl,rfl,rfl,rfl,rfl,trivial⟩ (by decide) rfl ⟨Nat.zero_le _,by decide,rfl⟩ ?_
 rintro⟨k,n⟩ ⟨hk,hn,hbad⟩
 simp only at hk hn hbad ⊢
 refine ad (aa (ae [] rfl ?_))
 refine ad (aC rfl (fun hlt=>av ?_) (fun hge=>aV ?_))
 ·have hlt:k<N.arcs.length:=by omega
  obtain rfl:=hA (by intro h;rw[h] at hlt;simp at hlt)
  obtain⟨x,hx⟩:∃ x,N.arcs[k]?=some x:=⟨N.arcs[k],List.getElem?_eq_getElem hlt⟩
  have hxB:=hN.arc x (List.mem_of_getElem? hx)
  have hd:N.arcs.drop k=x::N.arcs.drop (k+1):=by
   obtain⟨_,rfl⟩:=List.getElem?_eq_some_iff.1 hx
   rw[List.drop_eq_getElem_cons hlt]
  rw[hd,iD] at hbad
  refine ad (au ?_)
  refine ad (aa (ah [] rfl ?_))
  refine ab [] (iR rfl rfl rfl rfl rfl hlt) rfl ?_
  refine ab [] (bz 1 rfl rfl rfl rfl (jm hx)) rfl ?_
  refine ci rfl rfl rfl (fun _=>rfl) fun q=>?_
  refine aX 0 rfl rfl rfl rfl rfl [] rfl ?_
  refine ai ?_
  refine ad (aa (ah [] rfl ?_))
  refine ab [] (af 0 rfl rfl rfl rfl) rfl ?_
  refine ax [] (yX hn hxB.2.2) rfl rfl rfl rfl (by kernel_rfl) trivial (fun _=>rfl) ?_
  rintro v H' ⟨rfl,rfl⟩
  refine⟨rfl,?_⟩
  refine ae [] rfl ?_
  refine ad (au (ad (aa (ah [] rfl ?_))))
  refine ab [] (af 0 rfl rfl rfl rfl) rfl ?_
  refine ax [] (kQ N (some ⟨b,o,none⟩) c p x.fr) rfl rfl rfl rfl (by kernel_rfl) ⟨⟨1,_,by simp,rfl,aL _ _ _ (0,0),.inr rfl⟩,trivial⟩ (fun _=>rfl) ?_
  rintro v H' ⟨rfl,rfl⟩
  refine⟨rfl,?_⟩
  refine ah [] rfl ?_
  by_cases h7:fV N x.fr
  case neg=>
   refine aw 63 (v':=.bool true) rfl (congrArg Value.bool (by rw[aA h7];rfl)) ?_
   refine ae [5] rfl ?_
   refine bo rfl ?_
   refine ad (aa (ae [] rfl ?_))
   refine aE [] (by decide) rfl (aB ⟨_,rfl,?_,rfl⟩)
   rw[hbad,if_pos (fun h=>h7 h.1)];rfl
  refine aw 63 (v':=.bool false) rfl (congrArg Value.bool (by rw[az h7];rfl)) ?_
  refine ah [5] rfl ?_
  refine ab [5] (af 0 rfl rfl rfl rfl) rfl ?_
  refine ax [5] (kQ N (some ⟨b,o,none⟩) c p x.to) rfl rfl rfl rfl (by kernel_rfl) ⟨⟨1,_,by simp,rfl,aL _ _ _ (0,0),.inr rfl⟩,trivial⟩ (fun _=>rfl) ?_
  rintro v H' ⟨rfl,rfl⟩
  refine⟨rfl,?_⟩
  refine ah [5] rfl ?_
  by_cases h8:fV N x.to
  case neg=>
   refine aw 57 (v':=.bool true) rfl (congrArg Value.bool (by rw[aA h8];rfl)) ?_
   refine ai ?_
   refine bo rfl ?_
   refine ad (aa (ae [] rfl ?_))
   refine aE [] (by decide) rfl (aB ⟨_,rfl,?_,rfl⟩)
   rw[hbad,if_pos (fun h=>h8 h.2)];rfl
  refine aw 57 (v':=.bool false) rfl (congrArg Value.bool (by rw[az h8];rfl)) ?_
  refine ai ?_
  refine bI rfl ?_
  rw[if_neg (fun h=>h ⟨h7,h8⟩)] at hbad
  refine ad (aa (ah [] rfl ?_))
  refine ab [] (af 0 rfl rfl rfl rfl) rfl ?_
  refine ae [] rfl ?_
  refine aC rfl (fun h9=>?_) (fun h9=>?_)
  ·refine ad (aa (ae [] rfl ?_))
   refine aE [] (by decide) rfl (aB ⟨_,rfl,?_,rfl⟩)
   rw[hbad,if_pos h9];rfl
  rw[if_neg h9] at hbad
  by_cases hin:bN (n+x.cap)
  case neg=>
   rw[uv hin]
   refine ad (aa (ah [] rfl ?_))
   refine aw 77 (v':=.bool true) rfl (congrArg Value.bool (az (by simp))) ?_
   refine ae [2] rfl ?_
   refine bo rfl ?_
   refine ad (aa (ae [] rfl ?_))
   refine aE [] (by decide) rfl (aB ⟨_,rfl,?_,rfl⟩)
   rw[hbad,if_pos (.inl hin)];rfl
  rw[vP hin]
  refine ad (aa (ah [] rfl ?_))
  refine aw 77 (v':=.bool false) rfl (congrArg Value.bool (aA (by simp))) ?_
  refine ae [2] rfl ?_
  refine aC rfl (fun h10=>?_) (fun h10=>av ?_)
  ·refine ad (aa (ae [] rfl ?_))
   refine aE [] (by decide) rfl (aB ⟨_,rfl,?_,rfl⟩)
   rw[hbad,if_pos (.inr h10)];rfl
  rw[if_neg (fun h=>h.elim (fun h=>h hin) h10)] at hbad
  refine aa (ae [] rfl ?_)
  refine aa (ae [] rfl ?_)
  refine⟨(k+1,n+x.cap),[1,2],⟨?_,rfl,rfl,rfl,rfl,rfl,trivial⟩,by decide,rfl,⟨by simp only;omega,hin,hbad⟩,by simp only;omega⟩
  show some (Value.int .i64 (IntKind.i64.wrap ((k:Int)+1)))=_
  rw[bU (by omega)];rfl
 ·have hk':k=N.arcs.length:=by omega
  subst hk'
  rw[List.drop_length,iD] at hbad
  refine ad (aa (ae [] rfl ?_))
  refine aE [] (by decide) rfl (aB ⟨_,rfl,by rw[hbad];rfl,rfl⟩)
end Go.Proofs.YtpbmihpjgjbndaaGreatDoor
set_option linter.unusedVariables false
set_option linter.unusedSimpArgs false
namespace Go.Proofs.YtpbmihpjgjbndaaGreatDoor
open Go.RowKit
def fO (l:List Int) (a:dK) (f:Int):List Int:=
 let l1:=l.set a.fr.toNat (IntKind.i64.wrap (l.getD a.fr.toNat 0-f))
 l1.set a.to.toNat (IntKind.i64.wrap (l1.getD a.to.toNat 0+f))
def p9 (n:Nat) (al:List dK) (fs:List Int):List Int:=(al.zip fs).foldl (fun l p=>fO l p.1 p.2) (List.replicate (n+1) 0)
theorem jB (l:List Int) (a:dK) (f:Int):(fO l a f).length=l.length:=by simp[fO]
theorem jT (n:Nat) (al:List dK) (fs:List Int):(p9 n al fs).length=n+1:=by
 unfold p9
 have:∀ (ps:List (dK×Int)) (l:List Int),(ps.foldl (fun l p=>fO l p.1 p.2) l).length=l.length:=by
  intro ps
  induction ps with
  |nil=>intro l;rfl
  |cons p ps ih=>intro l;simp[ih,jB]
 rw[this];simp
theorem wz (n:Nat) {al:List dK} {fs:List Int} {k:Nat} {a:dK} {f:Int} (ha:al[k]?=some a) (hf:fs[k]?=some f):p9 n (al.take (k+1)) fs=fO (p9 n (al.take k) fs) a f:=by
 have h1:al.take (k+1)=al.take k++[a]:=by
  obtain⟨h,rfl⟩:=List.getElem?_eq_some_iff.1 ha
  rw[List.take_succ_eq_append_getElem h]
 have hk:(al.take k).length=k:=by
  obtain⟨h,_⟩:=List.getElem?_eq_some_iff.1 ha
  simp;omega
 have h2:fs=fs.take k++f::fs.drop (k+1):=by
  obtain⟨h,rfl⟩:=List.getElem?_eq_some_iff.1 hf
  simp
 have hk2:(fs.take k).length=k:=by
  obtain⟨h,_⟩:=List.getElem?_eq_some_iff.1 hf
  simp;omega
 unfold p9
 rw[h1]
 conv=>lhs;rw[h2]
 conv=>rhs;rw[h2]
 rw[List.zip_append (by rw[hk,hk2]),List.foldl_append]
 have:(al.take k).zip (fs.take k++f::fs.drop (k+1))=(al.take k).zip (fs.take k):=by
  conv=>lhs;rw[← List.append_nil (al.take k)]
  rw[List.zip_append (by rw[hk,hk2])];simp
 rw[this]
 simp
theorem lK (n:Nat) (src snk:Int) (A F:Option Addr) (ca cf ba oa bf of:Nat) (al:List dK) (fs:List Int) (hn:n≤500) (hA:al≠[]→A=some ⟨ba,oa,none⟩) (hF:al≠[]→F=some ⟨bf,of,none⟩)
 (hl:fs.length=al.length) (hlen:al.length≤2000) (hin:∀ a∈al,0≤a.fr∧a.fr≤n∧0≤a.to∧a.to≤n):
 Fn 57 [.agg #[.int .i64 n,.int .i64 src,.int .i64 snk,.slice A al.length ca],.slice F al.length cf] [] [.seg ba oa (arcs al),.seg bf of (ap fs)]
  (fun v H'=>∃ g,v=.slice (some ⟨g,0,none⟩) (n+1) (n+1)∧H'=[.own v 2 1 (n+1) (ap (p9 n al fs))]):=by
 refine aS Tryz.func57 rfl rfl fun w0=>?_
 refine ad (aa ?_)
 refine bw rfl rfl rfl (fun _=>rfl) fun b1=>?_
 refine ae [] rfl ?_
 refine ad (aa ?_)
 refine ah [] rfl ?_
 refine ab [] (af 0 rfl rfl rfl rfl) rfl ?_
 refine ah [] rfl ?_
 rw[bU (n:=(n:Int)+1) (by omega)]
 refine dv (n:=n+1) (c:=n+1) rfl rfl rfl rfl rfl rfl (by omega) (by omega) (by omega) (fun _=>rfl) fun g=>?_
 refine ae [] rfl ?_
 refine ad (ad (aa ?_))
 refine ah [] rfl ?_
 refine ab [] (af 1 rfl rfl rfl rfl) rfl ?_
 refine ae [] rfl ?_
 rw[u0]
 refine au ?_
 refine bq (σ:=Nat) (fun k=>[(15,.int .i64 k),(14,.int .i64 al.length),(13,.slice A al.length ca),(5,.slice (some ⟨g,0,none⟩) (n+1) (n+1)),(1,.slice F al.length cf)])
  (fun k=>[.own (.slice (some ⟨g,0,none⟩) (n+1) (n+1)) 2 1 (n+1) (ap (p9 n (al.take k) fs)),.seg ba oa (arcs al),.seg bf of (ap fs)]) (fun k=>k≤al.length) (fun k=>al.length-k)
  0 [0,2,3] ⟨rfl,rfl,rfl,rfl,rfl,trivial⟩ (by decide) (by rw[List.take_zero];rfl) (Nat.zero_le _) fun k hk=>?_
 refine ad (aa (ae [] rfl ?_))
 refine ad (aC rfl (fun hlt=>av ?_) (fun hge=>aV ?_))
 ·have hlt:k<al.length:=by omega
  have hne:al≠[]:=by rintro rfl;simp at hlt
  obtain rfl:=hA hne
  obtain rfl:=hF hne
  refine ad (au (ad (aa ?_)))
  refine ah [] rfl ?_
  refine ab [] (iR rfl rfl rfl rfl rfl hlt) rfl ?_
  obtain⟨⟨fr,to,cap⟩,ha⟩:∃ a,al[k]?=some a:=⟨al[k],List.getElem?_eq_getElem hlt⟩
  obtain⟨f,hf⟩:∃ f,fs[k]?=some f:=⟨fs[k],List.getElem?_eq_getElem (by omega)⟩
  obtain⟨h1,h2,h3,h4⟩:=hin _ (List.mem_of_getElem? ha)
  simp only at h1 h2 h3 h4
  obtain⟨fr,rfl⟩:=Int.eq_ofNat_of_zero_le h1
  obtain⟨to,rfl⟩:=Int.eq_ofNat_of_zero_le h3
  refine ab [] (bz 1 rfl rfl rfl rfl (jm ha)) rfl ?_
  refine ci rfl rfl rfl (fun _=>rfl) fun b2=>?_
  refine ah [] rfl ?_
  refine aX 0 rfl rfl rfl rfl rfl [] rfl ?_
  refine ai ?_
  refine ad (sC 11 (by kernel_rfl) ?_)
  refine jY [] rfl ?_
  refine eS [] (af 0 rfl rfl rfl rfl) rfl ?_
  have hel:=jT n (al.take k) fs
  obtain⟨x,hx⟩:∃ x,(p9 n (al.take k) fs)[fr]?=some x:=⟨_,List.getElem?_eq_getElem (by omega)⟩
  refine eS [] (aJ rfl rfl rfl rfl rfl (by omega)) rfl ?_
  refine eS [] (aD 1 rfl rfl rfl (a9 hx)) rfl ?_
  refine jY [] rfl ?_
  refine eS [] (f9 rfl rfl rfl rfl rfl hlt) rfl ?_
  refine eS [] (bz 3 rfl rfl rfl rfl (a9 hf)) rfl ?_
  refine jY [] rfl ?_
  refine eS [] (aJ rfl rfl rfl rfl rfl (by omega)) rfl ?_
  refine wh ?_
  refine aQ 1 rfl rfl rfl rfl (ep rfl (by omega)) [] rfl ?_
  refine ai ?_
  refine sC 11 (by kernel_rfl) ?_
  obtain⟨y,hy⟩:∃ y,((p9 n (al.take k) fs).set fr (IntKind.i64.wrap (x-f)))[to]?=some y:=⟨_,List.getElem?_eq_getElem (by simp;omega)⟩
  refine jY [] rfl ?_
  refine eS [] (af 0 rfl rfl rfl rfl) rfl ?_
  refine eS [] (aJ rfl rfl rfl rfl rfl (by omega)) rfl ?_
  refine eS [] (aD 1 rfl rfl rfl (a9 hy)) rfl ?_
  refine jY [] rfl ?_
  refine eS [] (f9 rfl rfl rfl rfl rfl hlt) rfl ?_
  refine eS [] (bz 3 rfl rfl rfl rfl (a9 hf)) rfl ?_
  refine jY [] rfl ?_
  refine eS [] (aJ rfl rfl rfl rfl rfl (by omega)) rfl ?_
  refine wh ?_
  refine aQ 1 rfl rfl rfl rfl (ep rfl (by simp;omega)) [] rfl ?_
  refine ai ?_
  refine aa (ae [] rfl ?_)
  refine⟨k+1,[1,2,3],⟨?_,rfl,rfl,rfl,rfl,trivial⟩,by decide,?_,by omega,by omega⟩
  ·show some (Value.int .i64 (IntKind.i64.wrap ((k:Int)+1)))=_
   rw[bU (by omega)];rfl
  ·rw[wz n ha hf]
   have e:fO (p9 n (al.take k) fs) ⟨fr,to,cap⟩ f=((p9 n (al.take k) fs).set fr (IntKind.i64.wrap (x-f))).set to (IntKind.i64.wrap (y+f)):=by
    simp only[fO,Int.toNat_natCast,List.getD_eq_getElem?_getD,hx,Option.getD_some,hy]
   rw[e];rfl
 ·refine ad (aa (ae [] rfl ?_))
  refine aE [0] (by decide) rfl (aB ?_)
  have hk':k=al.length:=by omega
  subst hk'
  exact⟨_,rfl,g,rfl,by rw[List.take_length];rfl⟩
end Go.Proofs.YtpbmihpjgjbndaaGreatDoor
/- Flows: whether amounts are one, and what it is worth. -/
set_option linter.unusedVariables false
set_option linter.unusedSimpArgs false
namespace Go.Proofs.YtpbmihpjgjbndaaGreatDoor
open Go.RowKit
open Classical in
noncomputable def e8 (N:a8) (f:List Int):Int:=if f.length≠N.arcs.length then 6 else if ∀ p∈N.arcs.zip f,0≤p.2∧p.2≤p.1.cap then 0 else 3
theorem uI (N:a8) (hN:N.Fits) (hR:N.Right) (A:Option Addr) (c b o:Nat) (hA:N.arcs≠[]→A=some ⟨b,o,none⟩) (f:List Int) (F:Option Addr) (cf bf of:Nat) (hF:f≠[]→F=some ⟨bf,of,none⟩) (hf:∀ x∈f,bN x) (hfl:f.length*8≤140737488351232):
 Fn 90 [bu N A c,.slice F f.length cf] [] [.seg b o (arcs N.arcs),.seg bf of (ap f)] fun v H'=>v=.int .i64 (e8 N f)∧H'=[]:=by
 have hln:=hN.len
 refine aS Tryz.func90 rfl rfl fun w0=>?_
 refine ad (aa ?_)
 refine bw (cs:=bG N A c) rfl rfl rfl (fun _=>rfl) fun p=>?_
 refine ae [] rfl ?_
 refine ad (ad (aa ?_))
 refine ab [] (v:=bu N A c) (af 0 rfl rfl rfl rfl) rfl ?_
 refine ax [] (kv N hN A c b o hA) rfl rfl rfl rfl (by kernel_rfl) ⟨⟨1,_,by simp,rfl,aq _ _ _,ay⟩,trivial⟩ (fun _=>rfl) ?_
 rintro v H' ⟨rfl,rfl⟩
 refine⟨rfl,?_⟩
 rw[hR.check]
 refine ae [] rfl ?_
 refine ad (aa (ae [] rfl ?_))
 refine aC rfl (fun h=>absurd rfl h) (fun _=>av ?_)
 refine ad (ad (aa (ah [] rfl ?_)))
 refine ab [] (af 0 rfl rfl rfl rfl) rfl ?_
 refine ae [] rfl ?_
 refine aC rfl (fun h=>?_) (fun h=>av ?_)
 ·refine ad (aa (ae [] rfl ?_))
  refine aE [] (by decide) rfl (aB ⟨_,rfl,?_,rfl⟩)
  unfold e8;rw[if_pos (by omega)];rfl
 have hlen:f.length=N.arcs.length:=by omega
 refine ad (ad (aa (ae [] rfl ?_)))
 refine au ?_
 refine bq (σ:=Nat) (fun k=>[(21,.int .i64 k),(20,.int .i64 f.length),(19,.slice F f.length cf),(2,.pointer (some ⟨p,0,none⟩))])
  (fun k=>[blk p 27 (bG N A c),.seg b o (arcs N.arcs),.seg bf of (ap f)]) (fun k=>k≤f.length∧∀ q∈(N.arcs.zip f).take k,0≤q.2∧q.2≤q.1.cap) (fun k=>f.length-k)
  0 [0,1,2] ⟨rfl,rfl,rfl,rfl,trivial⟩ (by decide) rfl ⟨Nat.zero_le _,fun q hq=>by simp at hq⟩ ?_
 rintro k ⟨hk,hall⟩
 refine ad (aa (ae [] rfl ?_))
 refine ad (aC rfl (fun hlt=>av ?_) (fun hge=>aV ?_))
 ·have hlt:k<f.length:=by omega
  obtain rfl:=hF (by rintro rfl;simp at hlt)
  obtain rfl:=hA (by intro h;have h0:N.arcs.length=0:=by rw[h];rfl
                     omega)
  obtain⟨x,hx⟩:∃ x,f[k]?=some x:=⟨f[k],List.getElem?_eq_getElem hlt⟩
  obtain⟨a,ha⟩:∃ a,N.arcs[k]?=some a:=⟨N.arcs[k],List.getElem?_eq_getElem (by omega)⟩
  obtain⟨_,_,hcap⟩:=em ha
  have hz:(N.arcs.zip f)[k]?=some (a,x):=by simp[List.getElem?_zip_eq_some,ha,hx]
  have hbad:¬ (0≤x∧x≤a.cap)→e8 N f=3:=by
   intro hb
   unfold e8
   rw[if_neg (by omega),if_neg (fun hall=>hb (hall _ (List.mem_of_getElem? hz)))]
  refine ad (au ?_)
  refine ad (aa (ah [] rfl ?_))
  refine ab [] (f9 rfl rfl rfl rfl rfl hlt) rfl ?_
  refine ab [] (bz 2 rfl rfl rfl rfl (a9 hx)) rfl ?_
  refine ae [] rfl ?_
  refine ad (aa (ah [] rfl ?_))
  by_cases h0:x<0
  ·refine aw 28 (v':=.bool true) rfl (congrArg Value.bool (az h0)) ?_
   refine ae [2] rfl ?_
   refine bo rfl ?_
   refine ad (aa (ae [] rfl ?_))
   refine aE [] (by decide) rfl (aB ⟨_,rfl,by rw[hbad (by omega)];rfl,rfl⟩)
  refine aw 28 (v':=.bool false) rfl (congrArg Value.bool (aA h0)) ?_
  refine ah [2] rfl ?_
  refine ab [2] (af 0 rfl rfl rfl rfl) rfl ?_
  refine ah [2] rfl ?_
  refine ab [2] (iR rfl rfl rfl rfl rfl (by omega)) rfl ?_
  refine ah [2] rfl ?_
  refine ab [2] (bz 1 rfl rfl rfl rfl hcap) rfl ?_
  refine ae [2] rfl ?_
  refine aC rfl (fun h1=>?_) (fun h1=>av ?_)
  ·refine ad (aa (ae [] rfl ?_))
   refine aE [] (by decide) rfl (aB ⟨_,rfl,by rw[hbad (by omega)];rfl,rfl⟩)
  refine aa (ae [] rfl ?_)
  refine⟨k+1,[0,1,2],⟨?_,rfl,rfl,rfl,trivial⟩,by decide,rfl,⟨by omega,fun q hq=>?_⟩,by omega⟩
  ·show some (Value.int .i64 (IntKind.i64.wrap ((k:Int)+1)))=_
   rw[bU (by omega)];rfl
  ·rw[List.take_add_one,hz] at hq
   rcases List.mem_append.1 hq with hq|hq
   ·exact hall q hq
   ·simp only[Option.toList_some,List.mem_singleton] at hq
    subst hq
    simp only;omega
 ·have hk':k=f.length:=by omega
  subst hk'
  refine ad (aa (ae [] rfl ?_))
  refine aE [] (by decide) rfl (aB ⟨_,rfl,?_,rfl⟩)
  unfold e8
  rw[if_neg (by omega),if_pos (fun q hq=>hall q (by rw[List.take_of_length_le (by simp;omega)];exact hq))]
  rfl
def cY (ps:List (dK×Int)) (v:Int):Int:=(ps.map fun p=>(if p.1.to=v then p.2 else 0)-(if p.1.fr=v then p.2 else 0)).sum
theorem rx {l:List Int} {a:dK} {f:Int} {B:Int} (hB:∀ v:Nat,-B≤l.getD v 0∧l.getD v 0≤B) (hf:0≤f) (hb:B+f≤9000000000000000000) (h1:0≤a.fr∧a.fr<l.length) (h2:0≤a.to∧a.to<l.length) (v:Nat):
 (fO l a f).getD v 0=l.getD v 0+((if a.to=v then f else 0)-(if a.fr=v then f else 0)):=by
 obtain⟨fr,to,cap⟩:=a
 obtain⟨fr,rfl⟩:=Int.eq_ofNat_of_zero_le h1.1
 obtain⟨to,rfl⟩:=Int.eq_ofNat_of_zero_le h2.1
 simp only[fO,Int.toNat_natCast]
 have h1':fr<l.length:=by have:=h1.2;simp only at this;omega
 have h2':to<l.length:=by have:=h2.2;simp only at this;omega
 have hs1:∀ v,(l.set fr (IntKind.i64.wrap (l.getD fr 0-f))).getD v 0=l.getD v 0-(if fr=v then f else 0):=by
  intro v
  by_cases h:fr=v
  ·subst h
   have:=hB fr
   rw[if_pos rfl,List.getD_eq_getElem?_getD,List.getElem?_set_self h1',Option.getD_some,bU (by omega)]
  ·rw[if_neg h,List.getD_eq_getElem?_getD,List.getElem?_set_ne h,List.getD_eq_getElem?_getD];omega
 by_cases h:to=v
 ·subst h
  have e1:=hs1 to
  have:=hB to
  rw[List.getD_eq_getElem?_getD,List.getElem?_set_self (by simpa using h2'),Option.getD_some,e1,bU (by split<;>omega)]
  simp only[Int.natCast_inj,if_true]
  omega
 ·rw[List.getD_eq_getElem?_getD,List.getElem?_set_ne h,← List.getD_eq_getElem?_getD,hs1 v]
  simp only[Int.natCast_inj]
  rw[if_neg h]
  omega
theorem sE (n:Nat):∀ (ps:List (dK×Int)) (l:List Int) (B:Int),l.length=n+1→(∀ v:Nat,-B≤l.getD v 0∧l.getD v 0≤B)→(∀ p∈ps,0≤p.2∧(0≤p.1.fr∧p.1.fr≤n)∧(0≤p.1.to∧p.1.to≤n))→B+(ps.map (·.2)).sum≤9000000000000000000→
 ∀ v:Nat,(ps.foldl (fun l p=>fO l p.1 p.2) l).getD v 0=l.getD v 0+cY ps v
 |[],l,B,_,_,_,_,v=>by simp[cY]
 |p::ps,l,B,hl,hB,hp,hs,v=>by
  obtain⟨p1,p2,p3⟩:=hp p (by simp)
  have hnn:0≤(ps.map (·.2)).sum:=by
   have:∀ (ps:List (dK×Int)),(∀ p∈ps,0≤p.2)→0≤(ps.map (·.2)).sum:=by
    intro ps
    induction ps with
    |nil=>intro _;simp
    |cons q ps ih=>intro h;have:=ih fun a ha=>h a (by simp[ha]);have:=h q (by simp);simp only[List.map_cons,List.sum_cons];omega
   exact this ps fun q hq=>(hp q (by simp[hq])).1
  simp only[List.map_cons,List.sum_cons] at hs
  have hst:=rx (l:=l) (a:=p.1) (f:=p.2) hB p1 (by omega) (by omega) (by omega)
  rw[List.foldl_cons,sE n ps (fO l p.1 p.2) (B+p.2) (by rw[jB];exact hl) (fun v=>?_) (fun q hq=>hp q (by simp[hq])) (by omega) v,hst v]
  ·simp only[cY,List.map_cons,List.sum_cons];omega
  ·rw[hst v]
   have:=hB v
   split<;>split<;>omega
theorem yf (n:Nat) (al:List dK) (fs:List Int) (hp:∀ p∈al.zip fs,0≤p.2∧(0≤p.1.fr∧p.1.fr≤n)∧(0≤p.1.to∧p.1.to≤n)) (hs:((al.zip fs).map (·.2)).sum≤9000000000000000000) (v:Nat):(p9 n al fs).getD v 0=cY (al.zip fs) v:=by
 unfold p9
 have h0:∀ v,(List.replicate (n+1) (0:Int)).getD v 0=0:=by
  intro v;rw[List.getD_eq_getElem?_getD,List.getElem?_replicate];split<;>rfl
 rw[sE n (al.zip fs) _ 0 (by simp) (fun v=>by rw[h0];omega) hp (by omega) v,h0]
 omega
structure Ranged (N:a8) (f:List Int):Prop where
 len:f.length=N.arcs.length
 all:∀ p∈N.arcs.zip f,0≤p.2∧p.2≤p.1.cap
theorem fA {N:a8} {f:List Int}:e8 N f=0↔Ranged N f:=by
 unfold e8
 constructor
 ·intro h
  split at h
  ·simp at h
  ·rename_i h1
   split at h
   ·rename_i h2;exact⟨by omega,h2⟩
   ·simp at h
 ·rintro⟨h1,h2⟩
  rw[if_neg (by omega),if_pos h2]
theorem jU:∀ (al:List dK) (fs:List Int),(∀ p∈al.zip fs,0≤p.2∧p.2≤p.1.cap)→(∀ a∈al,0≤a.cap)→((al.zip fs).map (·.2)).sum≤(al.map (·.cap)).sum
 |[],_,_,_=>by simp
 |a::al,[],_,h=>by
  have:=jU al [] (by simp) fun a ha=>h a (by simp[ha])
  have:=h a (by simp)
  simp at*;omega
 |a::al,f::fs,hp,h=>by
  have:=jU al fs (fun p hp'=>hp p (by simp[hp'])) fun a ha=>h a (by simp[ha])
  have:=hp (a,f) (by simp)
  simp only[List.zip_cons_cons,List.map_cons,List.sum_cons] at*;omega
theorem Ranged.exc {N:a8} {f:List Int} (h:Ranged N f) (hR:N.Right) (n:Nat) (hn:N.nodes=n) (v:Nat):(p9 n N.arcs f).getD v 0=cY (N.arcs.zip f) v:=by
 refine yf n N.arcs f (fun p hp=>?_) ?_ v
 ·have h1:=h.all p hp
  have h2:=hR.arc p.1 (List.of_mem_zip hp).1
  exact⟨h1.1,by omega,by omega⟩
 ·have h1:=jU N.arcs f h.all fun a ha=>(hR.arc a ha).2.2
  have h2:=hR.sum
  omega
open Classical in
noncomputable def eO (N:a8) (f:List Int):Int:=if e8 N f≠0 then e8 N f else if ∀ v:Int,1≤v∧v≤N.nodes→v≠N.src→v≠N.snk→cY (N.arcs.zip f) v=0 then 0 else 9
theorem nH {N:a8} {f:List Int} (h:Ranged N f) (hz:∀ v:Int,1≤v∧v≤N.nodes→v≠N.src→v≠N.snk→cY (N.arcs.zip f) v=0):eO N f=0:=by
 unfold eO;rw[if_neg (fun hc=>hc (fA.2 h)),if_pos hz]
theorem qP {N:a8} {f:List Int} (h:Ranged N f) (hz:¬ ∀ v:Int,1≤v∧v≤N.nodes→v≠N.src→v≠N.snk→cY (N.arcs.zip f) v=0):eO N f=9:=by
 unfold eO;rw[if_neg (fun hc=>hc (fA.2 h)),if_neg hz]
structure aH (N:a8) (f:List Int):Prop extends Ranged N f where
 kept:∀ v:Int,1≤v∧v≤N.nodes→v≠N.src→v≠N.snk→cY (N.arcs.zip f) v=0
theorem cK {N:a8} {f:List Int}:eO N f=0↔aH N f:=by
 constructor
 ·intro h
  by_cases hw:Ranged N f
  ·refine⟨hw,?_⟩
   by_cases hz:∀ v:Int,1≤v∧v≤N.nodes→v≠N.src→v≠N.snk→cY (N.arcs.zip f) v=0
   ·exact hz
   ·rw[qP hw hz] at h;simp at h
  ·exfalso
   have h1:e8 N f≠0:=fun h=>hw (fA.1 h)
   unfold eO at h;rw[if_pos h1] at h;exact h1 h
 ·exact fun h=>nH h.toRanged h.kept
theorem ot (N:a8) (hN:N.Fits) (hR:N.Right) (A:Option Addr) (c b o:Nat) (hA:N.arcs≠[]→A=some ⟨b,o,none⟩) (f:List Int) (F:Option Addr) (cf bf of:Nat) (hF:f≠[]→F=some ⟨bf,of,none⟩) (hf:∀ x∈f,bN x) (hfl:f.length*8≤140737488351232):
 Fn 56 [bu N A c,.slice F f.length cf] [] [.seg b o (arcs N.arcs),.seg bf of (ap f)] fun v H'=>v=.int .i64 (eO N f)∧H'=[]:=by
 refine aS Tryz.func56 rfl rfl fun w0=>?_
 refine ad (aa ?_)
 refine bw (cs:=bG N A c) rfl rfl rfl (fun _=>rfl) fun p=>?_
 refine ae [] rfl ?_
 refine ad (ad (aa ?_))
 refine ab [] (v:=bu N A c) (af 0 rfl rfl rfl rfl) rfl ?_
 refine ah [] rfl ?_
 refine ax [] (uI N hN hR A c b o hA f F cf bf of hF hf hfl) rfl rfl rfl rfl (by kernel_rfl) ⟨⟨1,_,by simp,rfl,aq _ _ _,ay⟩,⟨2,_,by simp,rfl,aq _ _ _,ay⟩,trivial⟩ (fun _=>rfl) ?_
 rintro v H' ⟨rfl,rfl⟩
 refine⟨rfl,?_⟩
 refine ae [] rfl ?_
 refine ad (aa (ae [] rfl ?_))
 refine aC rfl (fun h=>?_) (fun h=>av ?_)
 ·refine ad (aa (ae [] rfl ?_))
  refine aE [] (by decide) rfl (aB ⟨_,rfl,?_,rfl⟩)
  unfold eO;rw[if_pos h];rfl
 have hW:Ranged N f:=fA.1 (Classical.not_not.1 h)
 have hnn:=hR.nodes
 obtain⟨n,hn⟩:∃ n:Nat,N.nodes=n:=⟨N.nodes.toNat,by omega⟩
 have hX:=hW.exc hR n hn
 have hXl:=jT n N.arcs f
 have T:=lK n N.src N.snk A F c cf b o bf of N.arcs f (by omega) hA (fun hne=>hF (fun h0=>hne (by have:=hW.len;rw[h0] at this;exact List.length_eq_zero_iff.1 this.symm))) hW.len hR.len (fun a ha=>by have:=hR.arc a ha;omega)
 rw[← hn] at T
 refine ad (aa ?_)
 refine ab [] (v:=bu N A c) (af 0 rfl rfl rfl rfl) rfl ?_
 refine ah [] rfl ?_
 refine ax [] T rfl rfl rfl (by rw[hW.len];rfl) (by kernel_rfl) ⟨⟨1,_,by simp,rfl,aq _ _ _,ay⟩,⟨2,_,by simp,rfl,aq _ _ _,ay⟩,trivial⟩ (fun _=>rfl) ?_
 rintro v H' ⟨g,rfl,rfl⟩
 refine⟨rfl,?_⟩
 refine ae [] rfl ?_
 obtain⟨X,hXd⟩:∃ X,X=p9 n N.arcs f:=⟨_,rfl⟩
 rw[← hXd] at hX hXl ⊢
 refine ad (ad (aa (ah [] rfl ?_)))
 refine ab [] (af 1 rfl rfl rfl rfl) rfl ?_
 refine ah [] rfl ?_
 refine ai ?_
 rw[hn]
 refine au ?_
 refine bq (σ:=Nat) (fun k=>[(20,.int .i64 k),(19,.int .i64 n),(6,.slice (some ⟨g,0,none⟩) (n+1) (n+1)),(2,.pointer (some ⟨p,0,none⟩))])
  (fun k=>[.own (.slice (some ⟨g,0,none⟩) (n+1) (n+1)) 2 1 (n+1) (ap X),blk p 27 (bG N A c)]) (fun k=>k≤n∧∀ v:Int,1≤v∧v≤k→v≠N.src→v≠N.snk→cY (N.arcs.zip f) v=0) (fun k=>n-k)
  0 [0,1] ⟨rfl,rfl,rfl,rfl,trivial⟩ (by decide) rfl ⟨Nat.zero_le _,fun v hv=>by omega⟩ ?_
 rintro k ⟨hk,hall⟩
 refine ad (aa (ae [] rfl ?_))
 refine ad (aC rfl (fun hlt=>av ?_) (fun hge=>aV ?_))
 ·have hlt:k<n:=by omega
  refine ad (au ?_)
  refine ad (aa (ae [] rfl ?_))
  refine ad (aa (ae [] rfl ?_))
  refine aP 8 (v':=.int .i64 ((k+1:Nat):Int)) rfl (congrArg (Value.int .i64) (bU (by omega))) ?_
  have hnext:(((k+1:Nat):Int)≠N.src→((k+1:Nat):Int)≠N.snk→cY (N.arcs.zip f) ((k+1:Nat):Int)=0)→∀ v:Int,1≤v∧v≤((k+1:Nat):Int)→v≠N.src→v≠N.snk→cY (N.arcs.zip f) v=0:=by
   intro hz v hv h1 h2
   by_cases hvk:v≤k
   ·exact hall v ⟨hv.1,hvk⟩ h1 h2
   ·obtain rfl:v=((k+1:Nat):Int):=by omega
    exact hz h1 h2
  have hxk:∃ x,X[k+1]?=some x:=⟨X[k+1]'(by omega),List.getElem?_eq_getElem (by omega)⟩
  obtain⟨x,hx⟩:=hxk
  have hxv:x=cY (N.arcs.zip f) ((k+1:Nat):Int):=by
   have:=hX (k+1)
   rw[List.getD_eq_getElem?_getD,hx] at this
   exact this
  by_cases hz:((k+1:Nat):Int)≠N.src→((k+1:Nat):Int)≠N.snk→cY (N.arcs.zip f) ((k+1:Nat):Int)=0
  ·refine d7 [(41,.bool false),(20,.int .i64 k),(19,.int .i64 n),(6,.slice (some ⟨g,0,none⟩) (n+1) (n+1)),(2,.pointer (some ⟨p,0,none⟩))]
    [.own (.slice (some ⟨g,0,none⟩) (n+1) (n+1)) 2 1 (n+1) (ap X),blk p 27 (bG N A c)] ?_ ?_
   ·skip
    refine aa (ah [] rfl ?_)
    refine ab [] (af 1 rfl rfl rfl rfl) rfl ?_
    refine ah [] rfl ?_
    by_cases h1:((k+1:Nat):Int)=N.src
    ·refine aw 29 (v':=.bool false) rfl (congrArg Value.bool (aA (fun h=>h h1))) ?_
     refine ae [4,10] rfl ?_
     exact⟨[0,1],⟨rfl,rfl,rfl,rfl,rfl,trivial⟩,by decide,rfl⟩
    refine aw 29 (v':=.bool true) rfl (congrArg Value.bool (az h1)) ?_
    refine ah [4] rfl ?_
    refine ab [4] (af 1 rfl rfl rfl rfl) rfl ?_
    refine ah [4] rfl ?_
    by_cases h2:((k+1:Nat):Int)=N.snk
    ·refine aw 35 (v':=.bool false) rfl (congrArg Value.bool (aA (fun h=>h h2))) ?_
     refine ae [4,10] rfl ?_
     exact⟨[0,1],⟨rfl,rfl,rfl,rfl,rfl,trivial⟩,by decide,rfl⟩
    refine aw 35 (v':=.bool true) rfl (congrArg Value.bool (az h2)) ?_
    refine ah [4,10] rfl ?_
    refine ab [4,10] (aJ rfl rfl rfl rfl rfl (by omega)) rfl ?_
    refine ab [4,10] (aD 0 rfl rfl rfl (a9 hx)) rfl ?_
    refine ae [4,10] rfl ?_
    exact⟨[0,1],⟨congrArg some (congrArg Value.bool (aA (fun h3=>h3 (hxv.trans (hz h1 h2))))),rfl,rfl,rfl,rfl,trivial⟩,by decide,rfl⟩
   ·refine bI rfl (av ?_)
    refine aa (ae [] rfl ?_)
    refine⟨k+1,[0,1],⟨?_,rfl,rfl,rfl,trivial⟩,by decide,rfl,⟨by omega,hnext hz⟩,by omega⟩
    show some (Value.int .i64 (IntKind.i64.wrap ((k:Int)+1)))=_
    rw[bU (by omega)];rfl
  ·have h1:((k+1:Nat):Int)≠N.src:=fun e=>hz (fun h=>absurd e h)
   have h2:((k+1:Nat):Int)≠N.snk:=fun e=>hz (fun _ h=>absurd e h)
   have h3:x≠0:=fun e=>hz (fun _ _=>hxv.symm.trans e)
   refine ad (aa (ah [] rfl ?_))
   refine ab [] (af 1 rfl rfl rfl rfl) rfl ?_
   refine ah [] rfl ?_
   refine aw 29 (v':=.bool true) rfl (congrArg Value.bool (az h1)) ?_
   refine ah [4] rfl ?_
   refine ab [4] (af 1 rfl rfl rfl rfl) rfl ?_
   refine ah [4] rfl ?_
   refine aw 35 (v':=.bool true) rfl (congrArg Value.bool (az h2)) ?_
   refine ah [4,10] rfl ?_
   refine ab [4,10] (aJ rfl rfl rfl rfl rfl (by omega)) rfl ?_
   refine ab [4,10] (aD 0 rfl rfl rfl (a9 hx)) rfl ?_
   refine ae [4,10] rfl ?_
   refine aC rfl (fun _=>?_) (fun h=>absurd h3 h)
   refine ad (aa (ae [] rfl ?_))
   refine aE [] (by decide) rfl (aB ⟨_,rfl,?_,rfl⟩)
   rw[qP hW (fun hall=>hz (hall _ (by omega)))];rfl
 ·refine ad (aa (ae [] rfl ?_))
  refine aE [] (by decide) rfl (aB ⟨_,rfl,?_,rfl⟩)
  rw[nH hW (fun v hv=>hall v (by omega))];rfl
theorem uZ (N:a8) (hN:N.Fits) (hR:N.Right) (A:Option Addr) (c b o:Nat) (hA:N.arcs≠[]→A=some ⟨b,o,none⟩) (f:List Int) (F:Option Addr) (cf bf of:Nat) (hF:f≠[]→F=some ⟨bf,of,none⟩) (hf:∀ x∈f,bN x) (hfl:f.length*8≤140737488351232):
 Fn 17 [bu N A c,.slice F f.length cf] [] [.seg b o (arcs N.arcs),.seg bf of (ap f)] fun v H'=>(v=sJ (cY (N.arcs.zip f) N.snk,0)∧aH N f∨v=sJ (0,eO N f)∧¬ aH N f)∧H'=[]:=by
 refine aS Tryz.func17 rfl rfl fun w0=>?_
 refine ad (aa ?_)
 refine bw (cs:=bG N A c) rfl rfl rfl (fun _=>rfl) fun p=>?_
 refine ae [] rfl ?_
 refine ad (ad (aa ?_))
 refine ab [] (v:=bu N A c) (af 0 rfl rfl rfl rfl) rfl ?_
 refine ah [] rfl ?_
 refine ax [] (ot N hN hR A c b o hA f F cf bf of hF hf hfl) rfl rfl rfl rfl (by kernel_rfl) ⟨⟨1,_,by simp,rfl,aq _ _ _,ay⟩,⟨2,_,by simp,rfl,aq _ _ _,ay⟩,trivial⟩ (fun _=>rfl) ?_
 rintro v H' ⟨rfl,rfl⟩
 refine⟨rfl,?_⟩
 refine ae [] rfl ?_
 refine ad (aa (ae [] rfl ?_))
 refine aC rfl (fun h=>?_) (fun h=>av ?_)
 ·refine ad (aa (ae [] rfl ?_))
  refine aE [] (by decide) rfl (aB ⟨_,rfl,.inr ⟨rfl,fun hf=>h (cK.2 hf)⟩,rfl⟩)
 have hW:aH N f:=cK.1 (Classical.not_not.1 h)
 have hnn:=hR.nodes
 have hsk:=hR.snk
 obtain⟨n,hn⟩:∃ n:Nat,N.nodes=n:=⟨N.nodes.toNat,by omega⟩
 obtain⟨s,hs⟩:∃ s:Nat,N.snk=s:=⟨N.snk.toNat,by omega⟩
 have hX:=hW.toRanged.exc hR n hn s
 have hXl:=jT n N.arcs f
 have T:=lK n N.src N.snk A F c cf b o bf of N.arcs f (by omega) hA (fun hne=>hF (fun h0=>hne (by have:=hW.len;rw[h0] at this;exact List.length_eq_zero_iff.1 this.symm))) hW.len hR.len (fun a ha=>by have:=hR.arc a ha;omega)
 rw[← hn] at T
 obtain⟨x,hx⟩:∃ x,(p9 n N.arcs f)[s]?=some x:=⟨(p9 n N.arcs f)[s]'(by omega),List.getElem?_eq_getElem (by omega)⟩
 have hxv:x=cY (N.arcs.zip f) N.snk:=by
  rw[List.getD_eq_getElem?_getD,hx] at hX
  rw[hs];exact hX
 refine ad ?_
 refine bp 9 [(0,true),(1,true),(3,true),(4,true),(2,false),(5,true),(6,false),(7,true),(8,true)] [0] (by kernel_rfl) (by decide) rfl ?_
 refine aj [] rfl (v:=bu N A c) (af 0 rfl rfl rfl rfl) rfl ?_
 refine aF [] rfl ?_
 refine aj [] rfl (af 0 rfl rfl rfl rfl) rfl ?_
 refine a6 rfl ?_
 refine ax [] T rfl rfl rfl (by rw[hW.len];rfl) (by kernel_rfl) ⟨⟨1,_,by simp,rfl,aq _ _ _,ay⟩,⟨2,_,by simp,rfl,aq _ _ _,ay⟩,trivial⟩ (fun _=>rfl) ?_
 rintro v H' ⟨g,rfl,rfl⟩
 refine⟨rfl,ai ⟨⟨[1],by decide,rfl⟩,?_⟩⟩
 refine cE 17 (v':=.int .i64 s) rfl (congrArg (Value.int .i64) hs) ?_
 refine aj [] rfl (aJ rfl rfl rfl rfl rfl (by omega)) rfl ?_
 refine a6 rfl ?_
 refine ab [] (aD 0 rfl rfl rfl (a9 hx)) rfl ?_
 refine ai ⟨⟨[1],by decide,rfl⟩,?_⟩
 refine dW [] rfl ?_
 refine ai ?_
 exact aE [] (by decide) rfl (aB ⟨_,rfl,.inl ⟨by rw[hxv];rfl,hW⟩,rfl⟩)
end Go.Proofs.YtpbmihpjgjbndaaGreatDoor
/- What room a flow leaves. -/
set_option linter.unusedVariables false
set_option linter.unusedSimpArgs false
namespace Go.Proofs.YtpbmihpjgjbndaaGreatDoor
open Go.RowKit
theorem sp (n:Int):IntKind.i64.wrap ((BitVec.ofInt IntKind.i64.bits n&&& BitVec.ofInt IntKind.i64.bits 1).toNat:Int)=n%2:=by
 have h:(BitVec.ofInt IntKind.i64.bits n&&& BitVec.ofInt IntKind.i64.bits 1).toNat=(n%2).toNat:=by
  rw[BitVec.toNat_and,BitVec.toNat_ofInt,BitVec.toNat_ofInt]
  have e1:((1:Int)%((2^IntKind.i64.bits:Nat):Int)).toNat=1:=by decide
  rw[e1,Nat.and_one_is_mod]
  have e2:((2^IntKind.i64.bits:Nat):Int)=18446744073709551616:=by decide
  rw[e2]
  omega
 rw[h,bU (by omega)]
 omega
def cL (a:dK) (r:Nat):Int×Int:=if r%2=1 then (a.to,a.fr) else (a.fr,a.to)
def bP (N:a8) (r:Nat):Int×Int:=match N.arcs[r/2]? with
 |some a=>cL a r
 |none=>(0,0)
theorem e6 (N:a8) (A:Option Addr) (c b o:Nat) (hA:N.arcs≠[]→A=some ⟨b,o,none⟩) (hl:N.arcs.length≤2000) (r:Nat) (hr:r<2*N.arcs.length):
 Fn 84 [bu N A c,.int .i64 r] [] [.seg b o (arcs N.arcs)] fun v H'=>v=sJ (bP N r)∧H'=[]:=by
 obtain rfl:=hA (by intro h;rw[h] at hr;simp at hr)
 obtain⟨a,ha⟩:∃ a,N.arcs[r/2]?=some a:=⟨N.arcs[r/2]'(by omega),List.getElem?_eq_getElem (by omega)⟩
 have he:bP N r=cL a r:=by unfold bP;rw[ha]
 have hq:IntKind.i64.wrap ((r:Int).tdiv 2)=((r/2:Nat):Int):=by rw[bU (by rw[Int.tdiv_eq_ediv_of_nonneg (by omega)];omega),Int.tdiv_eq_ediv_of_nonneg (by omega)];omega
 rw[he]
 refine aS Tryz.func84 rfl rfl fun w0=>?_
 refine ad (aa ?_)
 refine bw (cs:=bG N (some ⟨b,o,none⟩) c) rfl rfl rfl (fun _=>rfl) fun p=>?_
 refine ae [] rfl ?_
 refine ad (ad (aa (ah [] rfl ?_)))
 refine aw 9 (v':=.bool false) rfl (congrArg Value.bool (aA (by omega))) ?_
 refine ah [2] rfl ?_
 refine aw 11 (v':=.int .i64 ((r/2:Nat):Int)) rfl (congrArg (Value.int .i64) hq) ?_
 refine ab [2] (af 0 rfl rfl rfl rfl) rfl ?_
 refine ae [2] rfl ?_
 refine aC rfl (fun h=>absurd h (by omega)) (fun _=>av ?_)
 refine ad (aa (ah [] rfl ?_))
 refine ab [] (af 0 rfl rfl rfl rfl) rfl ?_
 refine ah [] rfl ?_
 refine aw 20 (v':=.int .i64 ((r/2:Nat):Int)) rfl (congrArg (Value.int .i64) hq) ?_
 refine ab [] (iR rfl rfl rfl rfl rfl (by omega)) rfl ?_
 refine ab [] (bz 1 rfl rfl rfl rfl (jm ha)) rfl ?_
 refine ci rfl rfl rfl (fun _=>rfl) fun q=>?_
 refine aX 0 rfl rfl rfl rfl rfl [] rfl ?_
 refine ai ?_
 refine d7 [(6,.pointer (some ⟨q,0,none⟩))] [blk q 70 [.int .i64 (cL a r).1,.int .i64 (cL a r).2,.int .i64 a.cap]] ?_ ?_
 ·refine ad (aa (ae [] rfl ?_))
  have hand:IntKind.i64.wrap ((BitVec.ofInt IntKind.i64.bits (r:Int)&&& BitVec.ofInt IntKind.i64.bits 1).toNat:Int)=(r:Int)%2:=sp r
  refine aC rfl (fun h=>?_) (fun h=>av ?_)
  ·rw[hand] at h
   have e:cL a r=(a.to,a.fr):=by unfold cL;rw[if_pos (by omega)]
   rw[e]
   refine aa (ah [] rfl ?_)
   refine ab [] (af 0 rfl rfl rfl rfl) rfl ?_
   refine ah [] rfl ?_
   refine ab [] (af 0 rfl rfl rfl rfl) rfl ?_
   refine ah [] rfl ?_
   refine aX 0 rfl rfl rfl rfl rfl [] rfl ?_
   refine ah [] rfl ?_
   refine aX 0 rfl rfl rfl rfl rfl [] rfl ?_
   refine ai ?_
   exact⟨[0],⟨rfl,trivial⟩,by decide,rfl⟩
  ·rw[hand] at h
   have e:cL a r=(a.fr,a.to):=by unfold cL;rw[if_neg (by omega)]
   rw[e]
   exact⟨[0],⟨rfl,trivial⟩,by decide,rfl⟩
 ·refine ad ?_
  refine bp 6 [(0,true),(1,true),(2,true),(3,true),(4,true),(5,true)] [0] (by kernel_rfl) (by decide) rfl ?_
  refine aF [] rfl ?_
  refine aj [] rfl (af 0 rfl rfl rfl rfl) rfl ?_
  refine aF [] rfl ?_
  refine aj [] rfl (af 0 rfl rfl rfl rfl) rfl ?_
  refine dW [] rfl ?_
  refine ai ?_
  exact aE [] (by decide) rfl (aB ⟨_,rfl,rfl,rfl⟩)
def aM (ps:List (dK×Int)):List Int:=ps.flatMap fun p=>[p.1.cap-p.2,p.2]
theorem cv (ps:List (dK×Int)):(aM ps).length=2*ps.length:=by
 induction ps with
 |nil=>rfl
 |cons p ps ih=>
  have e:aM (p::ps)=[p.1.cap-p.2,p.2]++aM ps:=by simp[aM]
  rw[e,List.length_append,ih];simp;omega
theorem qY {ps:List (dK×Int)} {k:Nat} {p:dK×Int} (h:ps[k]?=some p):aM (ps.take (k+1))=aM (ps.take k)++[p.1.cap-p.2,p.2]:=by
 rw[List.take_add_one,h]
 simp[aM]
theorem kq (N:a8) (hN:N.Fits) (hR:N.Right) (A:Option Addr) (c b o:Nat) (hA:N.arcs≠[]→A=some ⟨b,o,none⟩) (f:List Int) (F:Option Addr) (cf bf of:Nat) (hF:f≠[]→F=some ⟨bf,of,none⟩) (hf:∀ x∈f,bN x) (hfl:f.length*8≤140737488351232):
 Fn 83 [bu N A c,.slice F f.length cf] [] [.seg b o (arcs N.arcs),.seg bf of (ap f)] fun v H'=>
  (aH N f∧∃ A' c',v=.tuple #[.slice A' (2*N.arcs.length) c',.int .i64 0]∧H'=[.own (.slice A' (2*N.arcs.length) c') 2 1 (2*N.arcs.length) (ap (aM (N.arcs.zip f)))])∨
  (¬ aH N f∧v=.tuple #[.slice none 0 0,.int .i64 (eO N f)]∧H'=[]):=by
 refine aS Tryz.func83 rfl rfl fun w0=>?_
 refine ad (aa ?_)
 refine bw (cs:=bG N A c) rfl rfl rfl (fun _=>rfl) fun p=>?_
 refine ae [] rfl ?_
 refine ad (ad (aa ?_))
 refine ab [] (v:=bu N A c) (af 0 rfl rfl rfl rfl) rfl ?_
 refine ah [] rfl ?_
 refine ax [] (ot N hN hR A c b o hA f F cf bf of hF hf hfl) rfl rfl rfl rfl (by kernel_rfl) ⟨⟨1,_,by simp,rfl,aq _ _ _,ay⟩,⟨2,_,by simp,rfl,aq _ _ _,ay⟩,trivial⟩ (fun _=>rfl) ?_
 rintro v H' ⟨rfl,rfl⟩
 refine⟨rfl,?_⟩
 refine ae [] rfl ?_
 refine ad (aa (ae [] rfl ?_))
 refine aC rfl (fun h=>?_) (fun h=>av ?_)
 ·refine ad (aa (ae [] rfl ?_))
  refine aE [] (by decide) rfl (aB ⟨_,rfl,.inr ⟨fun hf=>h (cK.2 hf),rfl,rfl⟩⟩)
 have hW:aH N f:=cK.1 (Classical.not_not.1 h)
 have hlen:=hW.len
 have hl2:=hR.len
 refine ad (aa (ah [] rfl ?_))
 refine aw 18 (v':=.int .i64 ((2*f.length:Nat):Int)) rfl (congrArg (Value.int .i64) ((bU (n:=2*(f.length:Int)) (by omega)).trans (by omega))) ?_
 refine dv (n:=0) (c:=2*f.length) rfl rfl rfl rfl rfl rfl (by omega) (by omega) (by omega) (fun _=>rfl) fun g=>?_
 refine ae [] rfl ?_
 refine ad (ad (aa (ae [] rfl ?_)))
 refine au ?_
 refine bq (σ:=Nat×Option Addr×Nat) (fun s=>[(22,.int .i64 s.1),(21,.int .i64 f.length),(20,.slice F f.length cf),(7,.slice s.2.1 (2*s.1) s.2.2),(2,.pointer (some ⟨p,0,none⟩))])
  (fun s=>[.own (.slice s.2.1 (2*s.1) s.2.2) 2 1 (2*s.1) (ap (aM ((N.arcs.zip f).take s.1))),blk p 27 (bG N A c),.seg b o (arcs N.arcs),.seg bf of (ap f)]) (fun s=>s.1≤f.length) (fun s=>f.length-s.1)
  (0,some ⟨g,0,none⟩,2*f.length) [0,1,2,3] ⟨rfl,rfl,rfl,rfl,rfl,trivial⟩ (by decide) ?_ (Nat.zero_le _) ?_
 ·rw[show made [Value.int .i64 0] (0*1)=[] from List.length_eq_zero_iff.1 (gq _ _)]
  show bF _ _=some [.own (.slice (some ⟨g,0,none⟩) 0 (2*f.length)) 2 1 0 (ap (aM ((N.arcs.zip f).take 0))),blk p 27 (bG N A c),.seg b o (arcs N.arcs),.seg bf of (ap f)]
  rw[List.take_zero]
  rfl
 rintro⟨k,A1,c1⟩ hk
 simp only at hk ⊢
 refine ad (aa (ae [] rfl ?_))
 refine ad (aC rfl (fun hlt=>av ?_) (fun hge=>aV ?_))
 ·have hlt:k<f.length:=by omega
  obtain rfl:=hF (by rintro rfl;simp at hlt)
  obtain rfl:=hA (by intro h;have h0:N.arcs.length=0:=by rw[h];rfl
                     omega)
  obtain⟨x,hx⟩:∃ x,f[k]?=some x:=⟨f[k],List.getElem?_eq_getElem hlt⟩
  obtain⟨a,ha⟩:∃ a,N.arcs[k]?=some a:=⟨N.arcs[k],List.getElem?_eq_getElem (by omega)⟩
  obtain⟨_,_,hcap⟩:=em ha
  have hz:(N.arcs.zip f)[k]?=some (a,x):=by simp[List.getElem?_zip_eq_some,ha,hx]
  have hb:=hW.all _ (List.mem_of_getElem? hz)
  have hB:=(hN.arc a (List.mem_of_getElem? ha)).2.2
  simp only at hb
  unfold bN at hB
  refine ad (au ?_)
  refine ad (aa (ah [] rfl ?_))
  refine ab [] (f9 rfl rfl rfl rfl rfl hlt) rfl ?_
  refine ab [] (bz 3 rfl rfl rfl rfl (a9 hx)) rfl ?_
  refine ae [] rfl ?_
  refine aa (ah [] rfl ?_)
  refine ab [] (af 1 rfl rfl rfl rfl) rfl ?_
  refine ah [] rfl ?_
  refine ab [] (iR rfl rfl rfl rfl rfl (by omega)) rfl ?_
  refine ah [] rfl ?_
  refine ab [] (bz 2 rfl rfl rfl rfl hcap) rfl ?_
  refine ah [] rfl ?_
  refine aw 35 (v':=.int .i64 (a.cap-x)) rfl (congrArg (Value.int .i64) (bU (by omega))) ?_
  refine bK rfl rfl rfl rfl rfl rfl rfl (fun _=>rfl) fun g2=>?_
  refine be (n:=2*k) (m:=2) (off:=0) (news:=[.int .i64 (a.cap-x),.int .i64 x]) 1 0 rfl rfl rfl rfl rfl rfl (by decide) rfl rfl (aL g2 _ _ (0,0)) (fun _=>rfl) rfl rfl (by omega) (by omega) (fun _ _=>rfl) fun A2 c2=>?_
  refine ae [] rfl ?_
  refine aa (ae [] rfl ?_)
  refine⟨(k+1,A2,c2),[1,2,3,4],⟨?_,rfl,rfl,rfl,rfl,trivial⟩,by decide,?_,by simp only;omega,by simp only;omega⟩
  ·show some (Value.int .i64 (IntKind.i64.wrap ((k:Int)+1)))=_
   rw[bU (by omega)];rfl
  ·simp only[qY hz]
   rw[show ap (aM ((N.arcs.zip f).take k)++[a.cap-x,x])=ap (aM ((N.arcs.zip f).take k))++[.int .i64 (a.cap-x),.int .i64 x] by simp[ap]]
   rfl
 ·have hk':k=N.arcs.length:=by omega
  subst hk'
  rw[List.take_of_length_le (by simp;omega)]
  refine ad (aa (ae [] rfl ?_))
  refine aE [0] (by decide) rfl (aB ⟨_,rfl,.inl ⟨hW,A1,c1,rfl,rfl⟩⟩)
end Go.Proofs.YtpbmihpjgjbndaaGreatDoor
/- Where one comes, by tracks that have room. -/
set_option linter.unusedVariables false
set_option linter.unusedSimpArgs false
namespace Go.Proofs.YtpbmihpjgjbndaaGreatDoor
open Go.RowKit
inductive nv (N:a8) (rm:List Int) (least:Int):Int→Prop
 |src:nv N rm least N.src
 |step (u:Int) (r:Nat):nv N rm least u→r<rm.length→(bP N r).1=u→least≤rm.getD r 0→nv N rm least (bP N r).2
theorem ff {N:a8} (hR:N.Right) {r:Nat} (hr:r<2*N.arcs.length):(1≤(bP N r).1∧(bP N r).1≤N.nodes)∧(1≤(bP N r).2∧(bP N r).2≤N.nodes):=by
 obtain⟨a,ha⟩:∃ a,N.arcs[r/2]?=some a:=⟨N.arcs[r/2]'(by omega),List.getElem?_eq_getElem (by omega)⟩
 have h:=hR.arc a (List.mem_of_getElem? ha)
 unfold bP;rw[ha]
 unfold cL;simp only
 split<;>exact⟨by omega,by omega⟩
def tr (N:a8) (k:Nat) (v:Nat):List Int:=((List.range k).filter fun (r:Nat)=>decide ((bP N r).1=(v:Int))).map fun (r:Nat)=>(r:Int)
theorem sM (N:a8) (k v:Nat):tr N (k+1) v=tr N k v++(if (bP N k).1=(v:Int) then [(k:Int)] else []):=by
 unfold tr
 rw[List.range_succ,List.filter_append,List.map_append]
 congr 1
 by_cases h:(bP N k).1=(v:Int)<;>simp[h]
theorem jk (N:a8) (k v:Nat):(tr N k v).length≤k:=by
 unfold tr
 rw[List.length_map]
 exact Nat.le_trans (List.length_filter_le _ _) (by simp)
theorem oI {N:a8} {k v:Nat} {x:Int}:x∈tr N k v↔∃ r:Nat,r<k∧(bP N r).1=(v:Int)∧x=r:=by
 unfold tr
 simp only[List.mem_map,List.mem_filter,List.mem_range,decide_eq_true_eq]
 constructor
 ·rintro⟨r,⟨h1,h2⟩,rfl⟩;exact⟨r,h1,h2,rfl⟩
 ·rintro⟨r,h1,h2,rfl⟩;exact⟨r,⟨h1,h2⟩,rfl⟩
structure DS where
 met:List Bool
 Aw:Option Addr
 cw:Nat
 wait:List Int
 pos:List Nat
 vals:List Value
def u5 (N:a8) (rm:List Int) (least:Int) (met:List Bool) (r:Int):Prop:=rm.getD r.toNat 0<least∨∃ t:Nat,(bP N r.toNat).2=t∧met[t]?=some true
structure oT (N:a8) (rm:List Int) (least:Int) (rows:List eu) (n s0:Nat) (gv:Nat→Nat) (s:DS):Prop where
 ml:s.met.length=n+1
 vl:s.vals.length=n+1
 pl:s.pos.length=n+1
 sound:∀ v:Nat,s.met[v]?=some true→v≤n∧nv N rm least v
 src:s.met[s0]?=some true
 wait:∀ x∈s.wait,∃ v:Nat,x=v∧v≤n∧s.met[v]?=some true
 done:∀ (v:Nat) (row:eu) (q:Nat),rows[v]?=some row→s.pos[v]?=some q→q≤row.l.length∧∀ (j:Nat) (r:Int),j<q→row.l[j]?=some r→u5 N rm least s.met r
 full:∀ v:Nat,s.met[v]?=some true→(v:Int)∉s.wait→∀ row,rows[v]?=some row→∀ r∈row.l,u5 N rm least s.met r
 wl:s.wait.length+s.met.count false≤n+1
 val:∀ (v:Nat) (row:eu) (q:Nat),rows[v]?=some row→s.pos[v]?=some q→∃ A' c',s.vals[v]?=some (.slice A' (row.l.length-q) c')∧row.l.length-q≤c'∧(0<row.l.length-q→A'=some ⟨gv v,q,none⟩)
theorem fB {l:List Bool} {t v:Nat} (h:l[v]?=some true):(l.set t true)[v]?=some true:=by
 by_cases e:t=v
 ·subst e
  rw[List.getElem?_set_self (List.getElem?_eq_some_iff.1 h).1]
 ·rw[List.getElem?_set_ne e];exact h
theorem u5.mono {N:a8} {rm:List Int} {least:Int} {met:List Bool} {r:Int} (t:Nat) (h:u5 N rm least met r):u5 N rm least (met.set t true) r:=
 h.imp id fun ⟨u,h1,h2⟩=>⟨u,h1,fB h2⟩
theorem fN:∀ (l:List Bool) (t:Nat),l[t]?=some false→(l.set t true).count false+1=l.count false
 |[],t,h=>by simp at h
 |b::l,0,h=>by simp at h;subst h;simp
 |b::l,t+1,h=>by
  have:=fN l t (by simpa using h)
  simp only[List.set_cons_succ,List.count_cons]
  omega
theorem oT.push {N:a8} {rm:List Int} {least:Int} {rows:List eu} {n s0:Nat} {gv:Nat→Nat} {s:DS} (h:oT N rm least rows n s0 gv s) {v q i t r:Nat} {row:eu} (hv:s.met[v]?=some true) (hrow:rows[v]?=some row)
 (hall:∀ (j:Nat) (r:Int),j<q+i→row.l[j]?=some r→u5 N rm least s.met r) (hr:row.l[q+i]?=some (r:Int)) (hu:(bP N r).1=(v:Int)) (ht:(bP N r).2=(t:Int)) (htn:t≤n) (hrm:r<rm.length) (hge:least≤rm.getD r 0) (hmf:s.met[t]?=some false)
 {A':Option Addr} {c':Nat} (hc:row.l.length-(q+i+1)≤c') (hA:0<row.l.length-(q+i+1)→A'=some ⟨gv v,q+i+1,none⟩) (Aw:Option Addr) (cw:Nat):
 oT N rm least rows n s0 gv ⟨s.met.set t true,Aw,cw,s.wait++[(t:Int)],s.pos.set v (q+i+1),s.vals.set v (.slice A' (row.l.length-(q+i+1)) c')⟩:=by
 have hR:=(h.sound v hv).2
 have hvn:=(h.sound v hv).1
 have htl:t<s.met.length:=by rw[h.ml];omega
 have hnew:u5 N rm least (s.met.set t true) (r:Int):=.inr ⟨t,by rw[Int.toNat_natCast];exact ht,by rw[List.getElem?_set_self htl]⟩
 have hlt:q+i<row.l.length:=(List.getElem?_eq_some_iff.1 hr).1
 refine⟨by simp[h.ml],by simp[h.vl],by simp[h.pl],fun u hu'=>?_,fB h.src,fun x hx=>?_,fun u row' q' hr' hq'=>?_,fun u hu' hnot row' hr'=>?_,by simp only[List.length_append,List.length_singleton];have:=fN s.met t hmf;have:=h.wl;omega,fun u row' q' hr' hq'=>?_⟩
 ·simp only at hu'
  by_cases e:t=u
  ·subst e
   have:=nv.step (N:=N) (rm:=rm) (least:=least) v r hR hrm hu hge
   rw[ht] at this
   exact⟨htn,this⟩
  ·rw[List.getElem?_set_ne e] at hu';exact h.sound u hu'
 ·rcases List.mem_append.1 hx with hx|hx
  ·obtain⟨u,h1,h2,h3⟩:=h.wait x hx
   exact⟨u,h1,h2,fB h3⟩
  ·exact⟨t,List.mem_singleton.1 hx,htn,by simp only;rw[List.getElem?_set_self htl]⟩
 ·simp only at hq'
  by_cases e:v=u
  ·subst e
   rw[List.getElem?_set_self (by rw[h.pl];omega)] at hq'
   simp only[Option.some.injEq] at hq'
   subst hq'
   rw[hrow] at hr'
   simp only[Option.some.injEq] at hr'
   subst hr'
   refine⟨by omega,fun j x hj hx=>?_⟩
   by_cases e2:j=q+i
   ·subst e2;rw[hr] at hx;simp only[Option.some.injEq] at hx;subst hx;exact hnew
   ·exact (hall j x (by omega) hx).mono t
  ·rw[List.getElem?_set_ne e] at hq'
   obtain⟨h1,h2⟩:=h.done u row' q' hr' hq'
   exact⟨h1,fun j x hj hx=>(h2 j x hj hx).mono t⟩
 ·simp only at hu' hnot
  have hne:t≠u:=fun e=>hnot (by rw[← e];simp)
  rw[List.getElem?_set_ne hne] at hu'
  intro x hx
  exact (h.full u hu' (fun hm=>hnot (List.mem_append.2 (.inl hm))) row' hr' x hx).mono t
 ·simp only at hq' ⊢
  by_cases e:v=u
  ·subst e
   rw[List.getElem?_set_self (by rw[h.pl];omega)] at hq'
   simp only[Option.some.injEq] at hq'
   subst hq'
   rw[hrow] at hr'
   simp only[Option.some.injEq] at hr'
   subst hr'
   exact⟨A',c',by rw[List.getElem?_set_self (by rw[h.vl];omega)],hc,hA⟩
  ·rw[List.getElem?_set_ne e] at hq'
   rw[List.getElem?_set_ne e]
   exact h.val u row' q' hr' hq'
theorem oT.pop {N:a8} {rm:List Int} {least:Int} {rows:List eu} {n s0:Nat} {gv:Nat→Nat} {s:DS} (h:oT N rm least rows n s0 gv s) {v:Nat} {w:List Int} {row:eu} (hw:s.wait=w++[(v:Int)]) (hrow:rows[v]?=some row)
 (hall:∀ r∈row.l,u5 N rm least s.met r) (Aw:Option Addr) (cw:Nat):oT N rm least rows n s0 gv ⟨s.met,Aw,cw,w,s.pos,s.vals⟩:=by
 refine⟨h.ml,h.vl,h.pl,h.sound,h.src,fun x hx=>h.wait x (by rw[hw];simp[hx]),h.done,fun u hu hnot row' hr'=>?_,by have:=h.wl;rw[hw,List.length_append] at this;simp only;omega,h.val⟩
 by_cases e:u=v
 ·subst e;rw[hrow] at hr';simp only[Option.some.injEq] at hr';subst hr';exact hall
 ·exact h.full u hu (by rw[hw];intro hm;rcases List.mem_append.1 hm with hm|hm;· exact hnot hm
                        ·have:=List.mem_singleton.1 hm;omega) row' hr'
theorem oT.final {N:a8} {rm:List Int} {least:Int} {rows:List eu} {n s0:Nat} {gv:Nat→Nat} {s:DS} (h:oT N rm least rows n s0 gv s) (hw:s.wait=[]) (hs:N.src=s0) (hrows:rows.length=n+1) (htr:∀ (v:Nat) (r:eu),rows[v]?=some r→r.l=tr N rm.length v) (hpos:∀ r,r<rm.length→∃ k:Nat,(bP N r).1=k)
 (v:Nat):s.met[v]?=some true↔v≤n∧nv N rm least v:=by
 refine⟨h.sound v,fun ⟨_,hr⟩=>?_⟩
 have key:∀ x:Int,nv N rm least x→∀ v:Nat,x=v→s.met[v]?=some true:=by
  intro x hx
  induction hx with
  |src=>intro v e;rw[hs] at e;have:s0=v:=by omega
        subst this;exact h.src
  |step u r _ hlt hu hge ih=>
   intro v e
   obtain⟨k,hk⟩:=hpos r hlt
   rw[hu] at hk
   have hm:=ih k hk
   have hkn:=(h.sound k hm).1
   obtain⟨row,hrow⟩:∃ row,rows[k]?=some row:=⟨rows[k]'(by omega),List.getElem?_eq_getElem (by omega)⟩
   have hmem:(r:Int)∈row.l:=by rw[htr k row hrow];exact oI.2 ⟨r,hlt,by rw[hu,hk],rfl⟩
   rcases h.full k hm (by rw[hw];simp) row hrow _ hmem with h1|⟨t,h1,h2⟩
   ·rw[Int.toNat_natCast] at h1;omega
   ·rw[Int.toNat_natCast] at h1
    have:t=v:=by omega
    rw[← this];exact h2
 exact key v hr v rfl
def y7 (N:a8) (f:List Int) (least:Int) (n:Nat) (v:Value) (H':Heap):Prop:=
 (aH N f∧1≤least∧∃ (l:List Bool) (g:Nat),l.length=n+1∧(∀ v:Nat,l[v]?=some true↔v≤n∧nv N (aM (N.arcs.zip f)) least v)∧v=.tuple #[.slice (some ⟨g,0,none⟩) (n+1) (n+1),.int .i64 0]∧
  H'=[.own (.slice (some ⟨g,0,none⟩) (n+1) (n+1)) 4 1 (n+1) (dP l)])∨
 (¬ aH N f∧v=.tuple #[.slice none 0 0,.int .i64 (eO N f)]∧H'=[])∨(aH N f∧least<1∧v=.tuple #[.slice none 0 0,.int .i64 3]∧H'=[])
set_option maxHeartbeats 1000000 in
theorem v6 (N:a8) (hN:N.Fits) (hR:N.Right) (A:Option Addr) (c b o:Nat) (hA:N.arcs≠[]→A=some ⟨b,o,none⟩) (f:List Int) (F:Option Addr) (cf bf of:Nat) (hF:f≠[]→F=some ⟨bf,of,none⟩) (hf:∀ x∈f,bN x) (hfl:f.length*8≤140737488351232) (least:Int) (_hl:bN least)
 (n:Nat) (hn:N.nodes=n):Fn 48 [bu N A c,.slice F f.length cf,.int .i64 least] [] [.seg b o (arcs N.arcs),.seg bf of (ap f)] (y7 N f least n):=by
 have hnn:=hR.nodes
 have hl2:=hR.len
 refine aS Tryz.func48 rfl rfl fun w0=>?_
 refine ad (aa ?_)
 refine bw (cs:=bG N A c) rfl rfl rfl (fun _=>rfl) fun p=>?_
 refine ae [] rfl ?_
 refine sY ?_
 refine ad (aa ?_)
 refine ab [] (v:=bu N A c) (af 0 rfl rfl rfl rfl) rfl ?_
 refine ah [] rfl ?_
 refine ax [] (kq N hN hR A c b o hA f F cf bf of hF hf hfl) rfl rfl rfl rfl (by kernel_rfl) ⟨⟨1,_,by simp,rfl,aq _ _ _,ay⟩,⟨2,_,by simp,rfl,aq _ _ _,ay⟩,trivial⟩ (fun _=>rfl) ?_
 rintro v H' (⟨hW,A1,c1,rfl,rfl⟩|⟨hW,rfl,rfl⟩)
 case inr=>
  refine⟨rfl,?_⟩
  refine ae [] rfl ?_
  refine ad (au (ad (aa (ae [] rfl ?_))))
  refine aC rfl (fun h=>?_) (fun h=>absurd (cK.1 (Classical.not_not.1 h)) hW)
  refine ad (aa (ae [] rfl ?_))
  refine aE [] (by decide) rfl (aB ⟨_,rfl,.inr (.inl ⟨hW,rfl,rfl⟩)⟩)
 refine⟨rfl,?_⟩
 refine ae [] rfl ?_
 refine ad (au (ad (aa (ae [] rfl ?_))))
 refine aC rfl (fun h=>absurd rfl h) (fun _=>?_)
 refine ad (aa (ae [] rfl ?_))
 refine aC rfl (fun h=>?_) (fun hle=>av ?_)
 ·refine ad (aa (ae [] rfl ?_))
  refine aE [] (by decide) rfl (aB ⟨_,rfl,.inr (.inr ⟨hW,h,rfl,rfl⟩)⟩)
 obtain⟨rm,hrm⟩:∃ rm,rm=aM (N.arcs.zip f):=⟨_,rfl⟩
 have hrl:rm.length=2*N.arcs.length:=by rw[hrm,cv,List.length_zip,hW.len,Nat.min_self]
 rw[← hrm]
 refine ad (aa (ah [] rfl ?_))
 refine ab [] (af 1 rfl rfl rfl rfl) rfl ?_
 refine ah [] rfl ?_
 refine aw 36 (v':=.int .i64 ((n+1:Nat):Int)) rfl (congrArg (Value.int .i64) ((bU (n:=N.nodes+1) (by omega)).trans (by omega))) ?_
 refine dv (n:=n+1) (c:=n+1) rfl rfl rfl rfl rfl rfl (by omega) (by omega) (by omega) (fun _=>rfl) fun g=>?_
 refine ae [] rfl ?_
 refine ad (ad (aa (ae [] rfl ?_)))
 refine au ?_
 rw[show made [Value.slice none 0 0] ((n+1)*1)=(List.replicate (n+1) dg).map cH by rw[dn,Nat.mul_one,List.map_replicate];rfl]
 refine bA (aK.nils 3 (n+1)) ?_
 refine cN (σ:=Nat×List eu) (fun s=>[(40,.int .i64 s.1),(39,.int .i64 ((2*N.arcs.length:Nat):Int)),(38,.slice A1 (2*N.arcs.length) c1),(10,.slice (some ⟨g,0,none⟩) (n+1) (n+1)),(8,.slice A1 (2*N.arcs.length) c1),(3,.pointer (some ⟨p,0,none⟩)),(2,.int .i64 least)])
  (fun s=>[.own (.slice (some ⟨g,0,none⟩) (n+1) (n+1)) 23 1 (n+1) (s.2.map cH),.own (.slice A1 (2*N.arcs.length) c1) 2 1 (2*N.arcs.length) (ap rm),blk p 27 (bG N A c),.seg b o (arcs N.arcs),.seg bf of (ap f)]++s.2.map (bH 3))
  (fun s=>s.1≤2*N.arcs.length∧s.2.length=n+1∧∀ (v:Nat) (r:eu),s.2[v]?=some r→r.l=tr N s.1 v) (fun s=>2*N.arcs.length-s.1)
  (0,List.replicate (n+1) dg) ⟨rfl,rfl,rfl,rfl,rfl,rfl,rfl,trivial⟩ aK.refl ⟨Nat.zero_le _,by simp,fun v r h=>?_⟩ ?_
 ·rw[List.getElem?_replicate] at h
  split at h
  ·simp only[Option.some.injEq] at h;subst h;rfl
  ·cases h
 rintro⟨k,rows⟩ ⟨hk,hrows,htr⟩
 simp only at hk hrows htr ⊢
 refine ad (aa (ae [] rfl ?_))
 refine ad (aC rfl (fun hlt=>av ?_) (fun hge=>aV ?_))
 ·have hlt:k<2*N.arcs.length:=by omega
  have he:=ff hR hlt
  obtain⟨v,hv⟩:∃ v:Nat,(bP N k).1=v:=⟨(bP N k).1.toNat,by omega⟩
  have hvn:v<rows.length:=by omega
  obtain⟨row,hrow⟩:∃ r,rows[v]?=some r:=⟨rows[v],List.getElem?_eq_getElem hvn⟩
  have hrl':=htr v row hrow
  have hlen:=jk N k v
  rw[← hrl'] at hlen
  refine ad (au ?_)
  refine ad (aa (ae [] rfl ?_))
  refine ad (aa ?_)
  refine ab [] (v:=bu N A c) (af 2 rfl rfl rfl rfl) rfl ?_
  refine ah [] rfl ?_
  refine ax [] (e6 N A c b o hA hl2 k hlt) rfl rfl rfl rfl (by kernel_rfl) ⟨⟨3,_,by simp,rfl,aq _ _ _,ay⟩,trivial⟩ (fun _=>rfl) ?_
  rintro v' H' ⟨rfl,rfl⟩
  refine⟨rfl,?_⟩
  refine ae [] rfl ?_
  refine aP 12 (v':=.int .i64 (v:Int)) rfl (congrArg (Value.int .i64) hv) ?_
  refine aa (ah [] rfl ?_)
  refine ab [] (aJ rfl rfl rfl rfl rfl (by omega)) rfl ?_
  refine ab [] (aD (v:=cH row) 0 rfl rfl rfl (show (rows.map cH)[v]?=some (cH row) by rw[List.getElem?_map,hrow];rfl)) rfl ?_
  refine ah [] rfl ?_
  refine bK rfl rfl rfl rfl rfl rfl rfl (fun _=>rfl) fun g2=>?_
  show JL _ _ _ _ _ ([_,_,_,_,_,_]++rows.map (bH 3))
  refine bY (aK.front (i:=v) (c:=bH 3 row) (by rw[List.getElem?_map,hrow];rfl)) ?_
  refine be (n:=row.l.length) (m:=1) (off:=0) (news:=ap [(k:Int)]) 0 1 rfl rfl rfl rfl rfl rfl (by decide) rfl rfl (aL g2 _ _ (0,0)) (fun _=>rfl) rfl rfl (by omega) (by omega) (fun _ _=>rfl) fun A2 c2=>?_
  rw[show row.l.length+1=(row.l++[(k:Int)]).length by simp,show ap row.l++ap [(k:Int)]=ap (row.l++[(k:Int)]) by simp[ap]]
  refine ab [] (aJ rfl rfl rfl rfl rfl (by omega)) rfl ?_
  refine aQ 2 rfl rfl rfl rfl (dk rfl rfl rfl (by rw[List.length_map];omega)) [] rfl ?_
  refine ai ?_
  refine aa (ae [] rfl ?_)
  refine⟨(k+1,rows.set v ⟨A2,c2,row.l++[(k:Int)]⟩),⟨?_,rfl,rfl,rfl,rfl,rfl,rfl,trivial⟩,?_,⟨by simp only;omega,by simp only[List.length_set];omega,fun u r hu=>?_⟩,by simp only;omega⟩
  ·show some (Value.int .i64 (IntKind.i64.wrap ((k:Int)+1)))=_
   rw[bU (by omega)];rfl
  ·simp only[List.map_set]
   refine aK.trans (aK.sub (List.Sublist.cons_cons _ (List.sublist_cons_self _ _))) (aK.back (A:=[_,_,_,_,_]) (by rw[List.length_map];exact hvn))
  ·rw[sM]
   by_cases huv:v=u
   ·subst huv
    rw[List.getElem?_set_self hvn] at hu
    simp only[Option.some.injEq] at hu
    rw[← hu,if_pos hv,hrl']
   ·rw[List.getElem?_set_ne huv] at hu
    rw[if_neg (by omega),List.append_nil]
    exact htr u r hu
 ·have hk':k=2*N.arcs.length:=by omega
  subst hk'
  have hrowA0:∀ w,cm w0 [] w ([.own (.slice (some ⟨g,0,none⟩) (n+1) (n+1)) 23 1 (n+1) (rows.map cH),.own (.slice A1 (2*N.arcs.length) c1) 2 1 (2*N.arcs.length) (ap rm),blk p 27 (bG N A c),.seg b o (arcs N.arcs),.seg bf of (ap f)]++rows.map (bH 3))→
   ∀ v:Nat,∃ gv:Nat,∀ row,rows[v]?=some row→row.l.length≤row.c∧(ap row.l≠[]→row.A=some ⟨gv,0,none⟩):=by
   intro w hw v
   cases hv:rows[v]? with
   |none=>exact⟨0,fun row h=>by cases h⟩
   |some row=>
    obtain⟨_,h2,h3,h4⟩:=bh (X:=⟨w0,[],⟨0,[]⟩⟩) (v+5) (show _=some (bH 3 row) by show (rows.map (bH 3))[v]?=_;rw[List.getElem?_map,hv];rfl) w hw
    obtain⟨gv,hgv⟩:=cB h3 h4
    exact⟨gv,fun row' h=>by simp only[Option.some.injEq] at h;subst h;exact⟨h2,hgv⟩⟩
  refine bO hrowA0 fun hrowA=>?_
  obtain⟨gv,hgv⟩:∃ gv:Nat→Nat,∀ (v:Nat) (row:eu),rows[v]?=some row→row.l.length≤row.c∧(ap row.l≠[]→row.A=some ⟨gv v,0,none⟩):=⟨fun v=>Classical.choose (hrowA v),fun v=>Classical.choose_spec (hrowA v)⟩
  refine bO (bh 1 rfl) fun ⟨_,_,hA1,_⟩=>?_
  clear hrowA hrowA0
  have hsrc:=hR.src
  obtain⟨s0,hs0⟩:∃ s:Nat,N.src=s:=⟨N.src.toNat,by omega⟩
  refine ad (aa (ah [] rfl ?_))
  refine ab [] (af 2 rfl rfl rfl rfl) rfl ?_
  refine ah [] rfl ?_
  refine aw 62 (v':=.int .i64 ((n+1:Nat):Int)) rfl (congrArg (Value.int .i64) ((bU (n:=N.nodes+1) (by omega)).trans (by omega))) ?_
  refine dv (n:=n+1) (c:=n+1) rfl rfl rfl rfl rfl rfl (by omega) (by omega) (by omega) (fun _=>rfl) fun gm=>?_
  refine ae [] rfl ?_
  rw[mR]
  refine ad (aa (ah [] rfl ?_))
  refine ab [] (af 3 rfl rfl rfl rfl) rfl ?_
  refine aw 66 (v':=.int .i64 (s0:Int)) rfl (congrArg (Value.int .i64) hs0) ?_
  refine ab [] (aJ rfl rfl rfl rfl rfl (by omega)) rfl ?_
  refine aQ 0 rfl rfl rfl rfl (jz rfl (by simp;omega)) [] rfl ?_
  refine ai ?_
  refine ad (aa (ah [] rfl ?_))
  refine ab [] (af 3 rfl rfl rfl rfl) rfl ?_
  refine aw 69 (v':=.int .i64 (s0:Int)) rfl (congrArg (Value.int .i64) hs0) ?_
  refine bK rfl rfl rfl rfl rfl rfl rfl (fun _=>rfl) fun gw=>?_
  refine ae [] rfl ?_
  refine ad ?_
  refine sj ?_
  refine bA (fun w h=>h.blkOwn (sz:=1) (n:=1) rfl (by decide)) ?_
  refine ad (au ?_)
  have hgl:∀ (v:Nat) (row:eu),rows[v]?=some row→row.l=tr N rm.length v:=fun v row h=>by rw[hrl];exact htr v row h
  refine cN (σ:=DS) (fun s=>[(15,.slice s.Aw s.wait.length s.cw),(14,.slice (some ⟨gm,0,none⟩) (n+1) (n+1)),(10,.slice (some ⟨g,0,none⟩) (n+1) (n+1)),(8,.slice A1 (2*N.arcs.length) c1),(3,.pointer (some ⟨p,0,none⟩)),(2,.int .i64 least)])
   (fun s=>[.own (.slice s.Aw s.wait.length s.cw) 3 1 s.wait.length (ap s.wait),.own (.slice (some ⟨gm,0,none⟩) (n+1) (n+1)) 4 1 (n+1) (dP s.met),.own (.slice (some ⟨g,0,none⟩) (n+1) (n+1)) 23 1 (n+1) s.vals,
    .own (.slice A1 (2*N.arcs.length) c1) 2 1 (2*N.arcs.length) (ap rm),blk p 27 (bG N A c),.seg b o (arcs N.arcs),.seg bf of (ap f)]++rows.map (bH 3))
   (fun s=>oT N rm least rows n s0 gv s) (fun s=>2*s.met.count false+s.wait.length)
   ⟨(List.replicate (n+1) false).set s0 true,some ⟨gw,0,none⟩,1,[(s0:Int)],List.replicate (n+1) 0,rows.map cH⟩ ⟨rfl,rfl,rfl,rfl,rfl,rfl,trivial⟩ aK.refl ?_ ?_
  ·have hget:∀ v:Nat,((List.replicate (n+1) false).set s0 true)[v]?=some true→v=s0:=by
    intro v hv
    by_cases e:s0=v
    ·exact e.symm
    ·rw[List.getElem?_set_ne e,List.getElem?_replicate] at hv
     split at hv<;>simp at hv
   have hs0m:((List.replicate (n+1) false).set s0 true)[s0]?=some true:=List.getElem?_set_self (by simp;omega)
   refine⟨by simp,by simp[hrows],by simp,fun v hv=>?_,hs0m,fun x hx=>⟨s0,List.mem_singleton.1 hx,by omega,hs0m⟩,fun v row q hr hq=>?_,fun v hv hnot row hr=>?_,?_,fun v row q hr hq=>?_⟩
   ·obtain rfl:=hget v hv
    exact⟨by omega,hs0▸nv.src⟩
   ·have:q=0:=by
     simp only[List.getElem?_replicate] at hq
     split at hq<;>simp at hq
     exact hq.symm
    subst this
    exact⟨Nat.zero_le _,fun j r hj=>absurd hj (by omega)⟩
   ·obtain rfl:=hget v hv
    exact absurd (by simp) hnot
   ·have:=fN (List.replicate (n+1) false) s0 (by rw[List.getElem?_replicate,if_pos (by omega)])
    have h2:(List.replicate (n+1) false).count false=n+1:=by simp
    simp only[List.length_singleton]
    omega
   ·have:q=0:=by
     simp only[List.getElem?_replicate] at hq
     split at hq<;>simp at hq
     exact hq.symm
    subst this
    refine⟨row.A,row.c,by simp only[List.getElem?_map,hr];rfl,by have:=(hgv v row hr).1;omega,fun hp=>(hgv v row hr).2 (fun h0=>?_)⟩
    have:row.l.length=0:=by rw[← bB,h0];rfl
    omega
  intro s hI
  refine ad (ad (aa (ae [] rfl ?_)))
  refine aC rfl (fun hwp=>av ?_) (fun hwp=>aV ?_)
  ·have hwl:0<s.wait.length:=by omega
   obtain⟨x,hx⟩:∃ x,s.wait[s.wait.length-1]?=some x:=⟨s.wait[s.wait.length-1]'(by omega),List.getElem?_eq_getElem (by omega)⟩
   obtain⟨v,rfl,hvn,hvm⟩:=hI.wait x (List.mem_of_getElem? hx)
   have hwsplit:s.wait=s.wait.take (s.wait.length-1)++[(v:Int)]:=by
    have:=List.take_append_drop (s.wait.length-1) s.wait
    have hd:s.wait.drop (s.wait.length-1)=[(v:Int)]:=by
     obtain⟨h1,h2⟩:=List.getElem?_eq_some_iff.1 hx
     rw[List.drop_eq_getElem_cons h1,h2,List.drop_of_length_le (by omega)]
    rw[hd] at this
    exact this.symm
   obtain⟨row,hrow⟩:∃ row,rows[v]?=some row:=⟨rows[v]'(by omega),List.getElem?_eq_getElem (by omega)⟩
   have hrowlen:=jk N rm.length v
   rw[← hgl v row hrow] at hrowlen
   obtain⟨q,hq⟩:∃ q,s.pos[v]?=some q:=⟨s.pos[v]'(by have:=hI.pl;omega),List.getElem?_eq_getElem (by have:=hI.pl;omega)⟩
   obtain⟨A',c',hval,hcc,hAv⟩:=hI.val v row q hrow hq
   obtain⟨hqle,hdone⟩:=hI.done v row q hrow hq
   refine bO (bh 0 rfl) fun ⟨_,hwc,hAw,_⟩=>?_
   obtain⟨gww,hAw⟩:=hAw hwl
   have hwb:=hI.wl
   refine au (ad (aa (ah [] rfl ?_)))
   refine aw 77 (v':=.int .i64 ((s.wait.length-1:Nat):Int)) rfl (congrArg (Value.int .i64) ((bU (n:=(s.wait.length:Int)-1) (by omega)).trans (by omega))) ?_
   refine ab [] (aJ (b:=gww) (by rfl) (by rw[hAw];rfl) rfl rfl rfl (by omega)) rfl ?_
   refine ab [] (dD (b:=gww) (off:=0) (i:=s.wait.length-1) (cs:=ap s.wait) (v:=.int .i64 (v:Int)) 0 rfl (by rw[Nat.zero_add];rfl) rfl (aY (fun _=>hAw)) (b8 hx)) rfl ?_
   refine ae [] rfl ?_
   refine ad (ad (aa (ah [] rfl ?_)))
   refine ab [] (aJ rfl rfl rfl rfl rfl (by omega)) rfl ?_
   refine ab [] (aD (v:=.slice A' (row.l.length-q) c') 2 rfl rfl rfl hval) rfl ?_
   refine ae [] rfl ?_
   refine au ?_
   refine cN (σ:=Nat) (fun i=>[(85,.int .i64 i),(84,.int .i64 ((row.l.length-q:Nat):Int)),(83,.slice A' (row.l.length-q) c'),(16,.int .i64 (v:Int)),(15,.slice s.Aw s.wait.length s.cw),(14,.slice (some ⟨gm,0,none⟩) (n+1) (n+1)),(10,.slice (some ⟨g,0,none⟩) (n+1) (n+1)),(8,.slice A1 (2*N.arcs.length) c1),(3,.pointer (some ⟨p,0,none⟩)),(2,.int .i64 least)])
    (fun _=>[.own (.slice s.Aw s.wait.length s.cw) 3 1 s.wait.length (ap s.wait),.own (.slice (some ⟨gm,0,none⟩) (n+1) (n+1)) 4 1 (n+1) (dP s.met),.own (.slice (some ⟨g,0,none⟩) (n+1) (n+1)) 23 1 (n+1) s.vals,
     .own (.slice A1 (2*N.arcs.length) c1) 2 1 (2*N.arcs.length) (ap rm),blk p 27 (bG N A c),.seg b o (arcs N.arcs),.seg bf of (ap f)]++rows.map (bH 3))
    (fun i=>i≤row.l.length-q∧∀ (j:Nat) (r:Int),j<q+i→row.l[j]?=some r→u5 N rm least s.met r) (fun i=>row.l.length-q-i)
    0 ⟨rfl,rfl,rfl,rfl,rfl,rfl,rfl,rfl,rfl,rfl,trivial⟩ aK.refl ⟨Nat.zero_le _,fun j r hj=>hdone j r (by omega)⟩ ?_
   rintro i ⟨hi,hscan⟩
   refine ad (aa (ae [] rfl ?_))
   refine ad (aC rfl (fun hlt=>av ?_) (fun hge=>aV ?_))
   ·have hlt:i<row.l.length-q:=by omega
    obtain rfl:=hAv (by omega)
    obtain⟨y,hy⟩:∃ y,row.l[q+i]?=some y:=⟨row.l[q+i]'(by omega),List.getElem?_eq_getElem (by omega)⟩
    have hymem:=List.mem_of_getElem? hy
    rw[hgl v row hrow] at hymem
    obtain⟨r,hr,hru,rfl⟩:=oI.1 hymem
    have hr2:r<2*N.arcs.length:=by omega
    have hin:=ff hR hr2
    obtain⟨t,ht⟩:∃ t:Nat,(bP N r).2=t:=⟨(bP N r).2.toNat,by omega⟩
    have htn:t≤n:=by omega
    obtain⟨x,hxr⟩:∃ x,rm[r]?=some x:=⟨rm[r],List.getElem?_eq_getElem hr⟩
    have hxd:rm.getD r 0=x:=by rw[List.getD_eq_getElem?_getD,hxr];rfl
    obtain⟨bt,hbt⟩:∃ bt,s.met[t]?=some bt:=⟨s.met[t]'(by have:=hI.ml;omega),List.getElem?_eq_getElem (by have:=hI.ml;omega)⟩
    obtain⟨gr,rfl⟩:=hA1 (by omega)
    have hrowne:ap row.l≠[]:=by
     intro h0
     have:row.l.length=0:=by rw[← bB,h0];rfl
     omega
    have hrA:=(hgv v row hrow).2 hrowne
    refine ad (au ?_)
    refine ad (aa (ah [] rfl ?_))
    refine ab [] (f9 rfl rfl rfl rfl rfl hlt) rfl ?_
    refine ab [] (dD (b:=gv v) (off:=q) (i:=i) (cs:=(ap row.l).drop q) (v:=.int .i64 (r:Int)) (c:=bH 3 row) (v+7) rfl rfl (show (rows.map (bH 3))[v]?=_ by rw[List.getElem?_map,hrow];rfl)
     (by have:=ik (aY (e:=3) (sz:=1) (n:=row.l.length) (cap:=row.c) (fun _=>hrA:ap row.l≠[]→row.A=some ⟨gv v,0,none⟩)) q;rw[Nat.zero_add] at this;exact this)
     (by show ((ap row.l).drop q)[i]?=_;rw[List.getElem?_drop];exact b8 hy)) rfl ?_
    refine ae [] rfl ?_
    refine ad (aa ?_)
    refine ab [] (v:=bu N A c) (af 4 rfl rfl rfl rfl) rfl ?_
    refine ah [] rfl ?_
    refine ax [] (e6 N A c b o hA hl2 r hr2) rfl rfl rfl rfl (by kernel_rfl) ⟨⟨5,_,by simp,rfl,aq _ _ _,ay⟩,trivial⟩ (fun _=>rfl) ?_
    rintro v' H' ⟨rfl,rfl⟩
    refine⟨rfl,?_⟩
    refine ae [] rfl ?_
    refine aP 20 (v':=.int .i64 (t:Int)) rfl (congrArg (Value.int .i64) ht) ?_
    refine ad (aa (ah [] rfl ?_))
    refine ab [] (aJ rfl rfl rfl rfl rfl (by omega)) rfl ?_
    refine ab [] (aD 3 rfl rfl rfl (a9 hxr)) rfl ?_
    refine ah [] rfl ?_
    have hnext:u5 N rm least s.met (r:Int)→∀ (j:Nat) (z:Int),j<q+(i+1)→row.l[j]?=some z→u5 N rm least s.met z:=by
     intro hok j z hj hz
     by_cases e:j=q+i
     ·subst e;rw[hy] at hz;simp only[Option.some.injEq] at hz;rw[← hz];exact hok
     ·exact hscan j z (by omega) hz
    by_cases hge:least≤x
    ·refine aw 102 (v':=.bool true) rfl (congrArg Value.bool (az hge)) ?_
     refine ah [6] rfl ?_
     refine ab [6] (aJ rfl rfl rfl rfl rfl (by omega)) rfl ?_
     refine ab [6] (aD 1 rfl rfl rfl (show (dP s.met)[t]?=some (.bool bt) from jn hbt)) rfl ?_
     refine ae [6] rfl ?_
     cases bt with
     |true=>
      refine bI rfl (av ?_)
      refine aa (ae [] rfl ?_)
      refine⟨i+1,⟨?_,rfl,rfl,rfl,rfl,rfl,rfl,rfl,rfl,rfl,trivial⟩,aK.refl,⟨by omega,hnext (.inr ⟨t,by rw[Int.toNat_natCast];exact ht,hbt⟩)⟩,by omega⟩
      show some (Value.int .i64 (IntKind.i64.wrap ((i:Int)+1)))=_
      rw[bU (by omega)];rfl
     |false=>
      refine bo rfl ?_
      refine ad (aa (ah [] rfl ?_))
      refine ab [] (aJ rfl rfl rfl rfl rfl (by omega)) rfl ?_
      refine aQ 1 rfl rfl rfl rfl (jz rfl (by have:=hI.ml;omega)) [] rfl ?_
      refine ai ?_
      refine ad ?_
      refine bp 15 [(0,true),(1,true),(2,true),(3,true),(6,true),(7,true),(8,true),(9,true),(10,true),(11,true),(12,true),(4,false),(5,false),(13,true),(14,true)] [2] (by kernel_rfl) (by decide) rfl ?_
      refine aF [] rfl ?_
      refine aj [] rfl (aJ rfl rfl rfl rfl rfl (by omega)) rfl ?_
      refine aj [] rfl (aD (v:=.slice (some ⟨gv v,q,none⟩) (row.l.length-q) c') 0 rfl rfl rfl hval) rfl ?_
      refine aF [] rfl ?_
      refine cE 123 (v':=.int .i64 ((i+1:Nat):Int)) rfl (congrArg (Value.int .i64) (bU (by omega))) ?_
      refine aj [] rfl (eL rfl rfl rfl rfl rfl (by omega)) rfl ?_
      refine cE 124 (v':=.slice (ij (some ⟨gv v,q,none⟩) c' (i+1) 1) (row.l.length-(q+i+1)) (c'-(i+1))) rfl (by congr 1;omega) ?_
      refine a6 rfl ?_
      refine bK rfl rfl rfl rfl rfl rfl rfl (fun _=>rfl) fun gx=>?_
      refine ai ⟨⟨[3],by decide,rfl⟩,?_⟩
      refine a6 rfl ?_
      refine be (n:=s.wait.length) (m:=1) (off:=0) (news:=ap [(t:Int)]) 1 0 rfl rfl rfl rfl rfl rfl (by decide) rfl rfl (aL gx _ _ (0,0)) (fun _=>rfl) rfl rfl (by omega) (by omega) (fun _ _=>rfl) fun A2 c2=>?_
      refine ai ⟨⟨[3],by decide,rfl⟩,?_⟩
      rw[show s.wait.length+1=(s.wait++[(t:Int)]).length by simp,show ap s.wait++ap [(t:Int)]=ap (s.wait++[(t:Int)]) by simp[ap]]
      refine aF [] rfl ?_
      refine aj [] rfl (aJ rfl rfl rfl rfl rfl (by omega)) rfl ?_
      refine bv ?_
      refine aQ 3 rfl rfl rfl rfl (dk rfl rfl rfl (by have:=hI.vl;omega)) [] rfl ?_
      refine ai ?_
      refine aV ?_
      refine⟨⟨s.met.set t true,A2,c2,s.wait++[(t:Int)],s.pos.set v (q+i+1),s.vals.set v (.slice (ij (some ⟨gv v,q,none⟩) c' (i+1) 1) (row.l.length-(q+i+1)) (c'-(i+1)))⟩,⟨rfl,rfl,rfl,rfl,rfl,rfl,trivial⟩,aK.sub (List.sublist_cons_self _ _),?_,?_⟩
      ·refine hI.push hvm hrow hscan hy hru ht htn hr (by rw[hxd];exact hge) hbt (by omega) (fun hp=>?_) A2 c2
       have:=jc (A:=some ⟨gv v,q,none⟩) (c:=c') (l:=i+1) (n:=row.l.length-q) (sz:=1) (fun _=>rfl) hcc (by omega)
       rw[this];simp[Nat.add_assoc]
      ·have:=fN s.met t hbt
       simp only[List.length_append,List.length_singleton]
       omega
    ·refine aw 102 (v':=.bool false) rfl (congrArg Value.bool (aA hge)) ?_
     refine ae [6] rfl ?_
     refine bI rfl (av ?_)
     refine aa (ae [] rfl ?_)
     refine⟨i+1,⟨?_,rfl,rfl,rfl,rfl,rfl,rfl,rfl,rfl,rfl,trivial⟩,aK.refl,⟨by omega,hnext (.inl (by rw[Int.toNat_natCast,hxd];omega))⟩,by omega⟩
     show some (Value.int .i64 (IntKind.i64.wrap ((i:Int)+1)))=_
     rw[bU (by omega)];rfl
   ·have hall:∀ z∈row.l,u5 N rm least s.met z:=by
     intro z hz
     obtain⟨j,hj,rfl⟩:=List.mem_iff_getElem.1 hz
     exact hscan j _ (by omega) (List.getElem?_eq_getElem hj)
    refine aa (ah [] rfl ?_)
    refine aw 130 (v':=.int .i64 ((s.wait.length-1:Nat):Int)) rfl (congrArg (Value.int .i64) ((bU (n:=(s.wait.length:Int)-1) (by omega)).trans (by omega))) ?_
    refine ab [] (fg rfl rfl rfl rfl rfl (by omega)) rfl ?_
    refine t9 (m:=s.wait.length-1) 0 rfl (by omega) ?_
    rw[Nat.mul_one,show (ap s.wait).take (s.wait.length-1)=ap (s.wait.take (s.wait.length-1)) by simp[ap]]
    refine ae [] rfl ?_
    have hlw:(s.wait.take (s.wait.length-1)).length=s.wait.length-1:=by rw[List.length_take];omega
    refine⟨⟨s.met,s.Aw,s.cw,s.wait.take (s.wait.length-1),s.pos,s.vals⟩,⟨by simp only[hlw];rfl,rfl,rfl,rfl,rfl,rfl,trivial⟩,by simp only[hlw];exact aK.refl,hI.pop hwsplit hrow hall _ _,by simp only[hlw];omega⟩
  ·have hw0:s.wait=[]:=List.length_eq_zero_iff.1 (by omega)
   refine ad (aa (ae [] rfl ?_))
   refine aE [1] (by decide) rfl (aB ⟨_,rfl,.inl ⟨hW,by omega,s.met,gm,hI.ml,fun v=>?_,rfl,rfl⟩⟩)
   rw[← hrm]
   exact hI.final hw0 hs0 hrows hgl (fun r hr=>⟨(bP N r).1.toNat,by have:=ff hR (show r<2*N.arcs.length by omega);omega⟩) v
end Go.Proofs.YtpbmihpjgjbndaaGreatDoor
