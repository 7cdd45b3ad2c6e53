/- Covers: nodes that meet all edges. -/
import Derived.Test.YtpbmihpjgjbndaaGreatRightN
import Derived.Test.YtpbmihpjgjbndaaGreatQF
set_option linter.unusedVariables false
set_option linter.unusedSimpArgs false
namespace Go.Proofs.YtpbmihpjgjbndaaGreat
open Go.RowKit
theorem nm (A:Option Addr) (c b o:Nat) (l:List Bool) (hA:l≠[]→A=some ⟨b,o,none⟩) (hl:l.length≤100000) (is:Bool):
 Fn 31 [.slice A l.length c,.bool is] [] [.seg b o (aY l)] fun v H'=>∃ A' c',v=.slice A' (be l is l.length).length c'∧H'=[.own v 3 1 (be l is l.length).length (aw (be l is l.length))]:=by
 refine aM Tryz.func31 rfl rfl fun w0=>?_
 refine ae (aa (af [] rfl ?_))
 refine ae (aa (af [] rfl ?_))
 refine ae (ae (aa (af [] rfl ?_)))
 refine au ?_
 refine bO 3 1 ?_
 refine bu (σ:=Nat×Option Addr×Nat) (fun s=>[(10,.int .i64 s.1),(9,.int .i64 l.length),(8,.slice A l.length c),(5,.slice s.2.1 (be l is s.1).length s.2.2),(1,.bool is)])
  (fun s=>[.own (.slice s.2.1 (be l is s.1).length s.2.2) 3 1 (be l is s.1).length (aw (be l is s.1)),.seg b o (aY l)]) (fun s=>s.1≤l.length) (fun s=>l.length-s.1)
  (0,none,0) [0,1] ⟨rfl,rfl,rfl,rfl,rfl,trivial⟩ (by decide) rfl (Nat.zero_le _) ?_
 rintro⟨k,A1,c1⟩ hk
 simp only at hk ⊢
 have hwl:=gN l is k
 refine ae (aa (af [] rfl ?_))
 refine ae (aC rfl (fun hlt=>aq ?_) (fun hge=>aO ?_))
 ·have hlt:k<l.length:=by omega
  obtain rfl:=hA (by rintro rfl;simp at hlt)
  obtain⟨m,hm⟩:∃ m,l[k]?=some m:=⟨l[k],List.getElem?_eq_getElem hlt⟩
  have hws:=gE l is k
  refine ae (au ?_)
  refine ae (aa (ah [] rfl ?_))
  refine ab [] (cW rfl rfl rfl rfl rfl hlt) rfl ?_
  refine ab [] (aU 1 rfl rfl rfl rfl (show (aY l)[k]?=some (.bool m) from cD hm)) rfl ?_
  refine af [] rfl ?_
  by_cases hgo:0<k∧m=is
  ·rw[if_pos ⟨hgo.1,by rw[hm,hgo.2]⟩] at hws
   refine ae (aa (ah [] rfl ?_))
   refine av 17 (v':=.bool true) rfl (congrArg Value.bool (az (by omega))) ?_
   refine ah [2] rfl ?_
   refine av 21 (v':=.bool true) rfl (congrArg Value.bool (by rw[hgo.2];simp)) ?_
   refine aj ?_
   refine bz rfl ?_
   refine aa (ah [] rfl ?_)
   refine b8 rfl rfl rfl rfl rfl rfl rfl (fun _=>rfl) fun g2=>?_
   refine a9 (n:=(be l is k).length) (m:=1) (off:=0) (news:=aw [(k:Int)]) 1 0 rfl rfl rfl rfl rfl rfl (by decide) rfl rfl (aR g2 _ _ (0,0)) (fun _=>rfl) rfl rfl (by omega) (by omega) (fun _ _=>rfl) fun A2 c2=>?_
   rw[show (be l is k).length+1=(be l is (k+1)).length by rw[hws];simp,show aw (be l is k)++aw [(k:Int)]=aw (be l is (k+1)) by rw[hws];simp[aw]]
   refine af [] rfl ?_
   refine aa (af [] rfl ?_)
   refine⟨(k+1,A2,c2),[1,2],⟨?_,rfl,rfl,rfl,rfl,trivial⟩,by decide,rfl,by simp only;omega,by simp only;omega⟩
   show some (Value.int .i64 (IntKind.i64.wrap ((k:Int)+1)))=_
   rw[bK (by omega)];rfl
  ·rw[if_neg (fun h=>hgo ⟨h.1,by rw[hm] at h;simpa using h.2⟩),List.append_nil] at hws
   refine dg [(21,.bool false),(10,.int .i64 k),(9,.int .i64 l.length),(8,.slice (some ⟨b,o,none⟩) l.length c),(5,.slice A1 (be l is k).length c1),(1,.bool is)]
    [.own (.slice A1 (be l is k).length c1) 3 1 (be l is k).length (aw (be l is k)),.seg b o (aY l)] ?_ ?_
   ·skip
    refine aa (ah [] rfl ?_)
    by_cases h0:0<k
    ·refine av 17 (v':=.bool true) rfl (congrArg Value.bool (az (by omega))) ?_
     refine ah [2] rfl ?_
     refine av 21 (v':=.bool false) rfl (congrArg Value.bool (by have:m≠is:=fun e=>hgo ⟨h0,e⟩;simpa using this)) ?_
     refine aj ?_
     exact⟨[0,1],⟨rfl,rfl,rfl,rfl,rfl,rfl,trivial⟩,by decide,rfl⟩
    ·refine av 17 (v':=.bool false) rfl (congrArg Value.bool (aA (by omega))) ?_
     refine af [2] rfl ?_
     exact⟨[0,1],⟨rfl,rfl,rfl,rfl,rfl,rfl,trivial⟩,by decide,rfl⟩
   ·refine bP rfl (aq ?_)
    refine aa (af [] rfl ?_)
    refine⟨(k+1,A1,c1),[0,1],⟨?_,rfl,rfl,by simp only[hws];rfl,rfl,trivial⟩,by decide,by simp only[hws];rfl,by simp only;omega,by simp only;omega⟩
    show some (Value.int .i64 (IntKind.i64.wrap ((k:Int)+1)))=_
    rw[bK (by omega)];rfl
 ·have hk':k=l.length:=by omega
  subst hk'
  refine ae (aa (af [] rfl ?_))
  refine aE [0] (by decide) rfl (aB ⟨_,rfl,A1,c1,rfl,rfl⟩)
structure cF (m:Int) (l:List Int):Prop where
 rise:l.Pairwise (·<·)
 rng:∀ x∈l,1≤x∧x≤m
theorem cF.snoc {m:Int} {l:List Int} {x:Int}:cF m (l++[x])↔cF m l∧(∀ y∈l,y<x)∧1≤x∧x≤m:=by
 constructor
 ·intro h
  obtain⟨h1,_,h3⟩:=List.pairwise_append.1 h.rise
  have hx:=h.rng x (by simp)
  exact⟨⟨h1,fun y hy=>h.rng y (by simp[hy])⟩,fun y hy=>h3 y hy x (by simp),hx.1,hx.2⟩
 ·rintro⟨h,h1,h2,h3⟩
  refine⟨kj h.rise h1,fun y hy=>?_⟩
  rcases List.mem_append.1 hy with hy|hy
  ·exact h.rng y hy
  ·rw[List.mem_singleton.1 hy];exact⟨h2,h3⟩
theorem cF.pre {m:Int} {l r:List Int} (h:cF m (l++r)):cF m l:=⟨(List.pairwise_append.1 h.rise).1,fun y hy=>h.rng y (by simp[hy])⟩
def lz (l:List Int) (k:Nat):Int:=((0:Int)::l)[k]?.getD 0
theorem jR {l:List Int} {k:Nat} {x:Int} (hx:l[k]?=some x):lz l (k+1)=x:=by
 unfold lz
 rw[List.getElem?_cons_succ,hx];rfl
theorem mZ {l:List Int} {k:Nat} (hk:k<l.length):l[k]∈l.take (k+1):=by
 rw[List.take_add_one,List.getElem?_eq_getElem hk]
 exact List.mem_append_right _ (List.mem_singleton.2 rfl)
theorem ut {m:Int} {l:List Int} {k:Nat} (h:cF m (l.take k)) (hk:k≤l.length):0≤lz l k∧(lz l k≤0∨lz l k∈l.take k):=by
 cases k with
 |zero=>exact⟨Int.le_refl _,.inl (Int.le_refl _)⟩
 |succ k=>
  rw[jR (List.getElem?_eq_getElem hk)]
  have:=h.rng _ (mZ hk)
  exact⟨by omega,.inr (mZ hk)⟩
theorem qm {m:Int} {l:List Int} {k:Nat} (h:cF m (l.take k)) (hk:k≤l.length):∀ y∈l.take k,y≤lz l k:=by
 intro y hy
 cases k with
 |zero=>simp at hy
 |succ k=>
  have hx:l[k]?=some l[k]:=List.getElem?_eq_getElem hk
  rw[jR hx]
  have h':=h.rise
  rw[List.take_add_one,hx] at hy h'
  rcases List.mem_append.1 hy with hy|hy
  ·have:=(List.pairwise_append.1 h').2.2 y hy l[k] (by simp);omega
  ·have:y=l[k]:=by simpa using hy
   omega
def eX (n:Nat) (l:List Int):List Bool:=l.foldl (fun m x=>m.set x.toNat true) (List.replicate n false)
theorem qB (n:Nat) (l:List Int) (x:Int):eX n (l++[x])=(eX n l).set x.toNat true:=by
 unfold eX
 rw[List.foldl_append,List.foldl_cons,List.foldl_nil]
theorem lD (n v:Nat) (hv:v<n):∀ (l:List Int) (m:List Bool),m.length=n→(∀ x∈l,0≤x)→((l.foldl (fun m x=>m.set x.toNat true) m)[v]?=some true↔m[v]?=some true∨(v:Int)∈l)∧(l.foldl (fun m x=>m.set x.toNat true) m).length=n
 |[],m,hm,_=>⟨by simp,hm⟩
 |x::l,m,hm,h0=>by
  have hx:=h0 x (by simp)
  have ih:=lD n v hv l (m.set x.toNat true) (by rw[List.length_set];exact hm) fun y hy=>h0 y (by simp[hy])
  rw[List.foldl_cons]
  refine⟨?_,ih.2⟩
  rw[ih.1]
  by_cases e:x.toNat=v
  ·rw[e,List.getElem?_set_self (by omega)]
   exact⟨fun _=>.inr (by simp;left;omega),fun _=>.inl rfl⟩
  ·rw[List.getElem?_set_ne e,List.mem_cons]
   constructor
   ·rintro (h|h)
    ·exact .inl h
    ·exact .inr (.inr h)
   ·rintro (h|h|h)
    ·exact .inl h
    ·omega
    ·exact .inr h
theorem l8 {n v:Nat} (hv:v<n) {l:List Int} (h0:∀ x∈l,0≤x):(eX n l)[v]?=some true↔(v:Int)∈l:=by
 unfold eX
 rw[(lD n v hv l _ (by simp) h0).1,List.getElem?_replicate,if_pos hv]
 simp
theorem gJ {n:Nat} (l:List Int):(eX n l).length=n:=by
 unfold eX
 have key:∀ (l:List Int) (m:List Bool),m.length=n→(l.foldl (fun m x=>m.set x.toNat true) m).length=n:=by
  intro l
  induction l with
  |nil=>exact fun m h=>h
  |cons x l ih=>intro m h;rw[List.foldl_cons];exact ih _ (by rw[List.length_set];exact h)
 exact key l _ (by simp)
set_option maxHeartbeats 1000000 in
theorem kQ (A:Option Addr) (c b o:Nat) (l:List Int) (hA:l≠[]→A=some ⟨b,o,none⟩) (hl:l.length≤100000) (m:Nat) (hm:m≤200):
 Fn 37 [.slice A l.length c,.int .i64 (m:Int)] [] [.seg b o (aw l)] fun v H'=>(cF m l∧∃ g:Nat,v=.tuple #[.slice (some ⟨g,0,none⟩) (m+1) (m+1),.bool true]∧H'=[.own (.slice (some ⟨g,0,none⟩) (m+1) (m+1)) 4 1 (m+1) (aY (eX (m+1) l))])∨
  (¬ cF m l∧v=.tuple #[.slice none 0 0,.bool false]∧H'=[]):=by
 refine aM Tryz.func37 rfl rfl fun w0=>?_
 refine ae (aa (af [] rfl ?_))
 refine ae (aa (ah [] rfl ?_))
 refine av 11 (v':=.int .i64 ((m+1:Nat):Int)) rfl (congrArg (Value.int .i64) ((bK (n:=(m:Int)+1) (by omega)).trans (by omega))) ?_
 refine cv (n:=m+1) (c:=m+1) rfl rfl rfl rfl rfl rfl (by omega) (by omega) (by omega) (fun _=>rfl) fun g=>?_
 refine af [] rfl ?_
 rw[show made [Value.bool false] ((m+1)*1)=aY (List.replicate (m+1) false) by rw[ce,Nat.mul_one];simp[aY]]
 refine ae (aa (af [] rfl ?_))
 refine ae (ae (aa (af [] rfl ?_)))
 refine au ?_
 refine bu (σ:=Nat) (fun k=>[(15,.int .i64 k),(14,.int .i64 l.length),(13,.slice A l.length c),(7,.int .i64 (lz l k)),(6,.slice (some ⟨g,0,none⟩) (m+1) (m+1)),(1,.int .i64 (m:Int))])
  (fun k=>[.own (.slice (some ⟨g,0,none⟩) (m+1) (m+1)) 4 1 (m+1) (aY (eX (m+1) (l.take k))),.seg b o (aw l)])
  (fun k=>k≤l.length∧cF m (l.take k)) (fun k=>l.length-k) 0 [0,1] ⟨rfl,rfl,rfl,rfl,rfl,rfl,trivial⟩ (by decide) rfl ⟨Nat.zero_le _,⟨by simp,by simp⟩⟩ ?_
 rintro k ⟨hk,hM⟩
 refine ae (aa (af [] rfl ?_))
 refine ae (aC rfl (fun hlt=>aq ?_) (fun hge=>aO ?_))
 ·have hlt:k<l.length:=by omega
  obtain rfl:=hA (by intro h0;rw[h0] at hlt;simp at hlt)
  obtain⟨x,hx⟩:∃ x,l[k]?=some x:=⟨l[k],List.getElem?_eq_getElem hlt⟩
  have htk:l.take (k+1)=l.take k++[x]:=by rw[List.take_add_one,hx];rfl
  have hpre:cF m l→cF m (l.take k++[x]):=fun h=>by rw[← htk];exact cF.pre (r:=l.drop (k+1)) (by rw[List.take_append_drop];exact h)
  have hge:=ut hM hk
  refine ae (au ?_)
  refine ae (aa (ah [] rfl ?_))
  refine ab [] (cW rfl rfl rfl rfl rfl hlt) rfl ?_
  refine ab [] (aU 1 rfl rfl rfl rfl (aN hx)) rfl ?_
  refine af [] rfl ?_
  refine ae (ae (aa (ah [] rfl ?_)))
  by_cases hle:x≤lz l k
  ·refine av 22 (v':=.bool true) rfl (congrArg Value.bool (az hle)) ?_
   refine af [3] rfl ?_
   refine bz rfl ?_
   refine ae (aa (af [] rfl ?_))
   refine aE [] (by decide) rfl (aB ⟨_,rfl,.inr ⟨fun h=>?_,rfl,rfl⟩⟩)
   have h5:=cF.snoc.1 (hpre h)
   rcases hge.2 with h6|h6
   ·omega
   ·have:=h5.2.1 _ h6;omega
  refine av 22 (v':=.bool false) rfl (congrArg Value.bool (aA hle)) ?_
  refine af [3] rfl ?_
  refine aC rfl (fun hbig=>?_) (fun hsm=>aq ?_)
  ·refine ae (aa (af [] rfl ?_))
   refine aE [] (by decide) rfl (aB ⟨_,rfl,.inr ⟨fun h=>?_,rfl,rfl⟩⟩)
   have h5:=cF.snoc.1 (hpre h)
   omega
  obtain⟨v,rfl⟩:∃ v:Nat,x=v:=⟨x.toNat,by omega⟩
  refine aa (ah [] rfl ?_)
  refine ab [] (aI rfl rfl rfl rfl rfl (by omega)) rfl ?_
  refine aG 0 rfl rfl rfl rfl (dn rfl (by rw[gJ];omega)) [] rfl ?_
  refine af [] rfl ?_
  refine aa (af [] rfl ?_)
  refine⟨k+1,[0,1],⟨?_,rfl,rfl,?_,rfl,rfl,trivial⟩,by decide,?_,⟨by omega,?_⟩,by omega⟩
  ·show some (Value.int .i64 (IntKind.i64.wrap ((k:Int)+1)))=_
   rw[bK (by omega)];rfl
  ·show some (Value.int .i64 _)=_
   rw[jR hx]
  ·rw[htk,qB,Int.toNat_natCast];rfl
  ·rw[htk]
   exact cF.snoc.2 ⟨hM,fun y hy=>by have:=qm hM hk y hy;omega,by omega,by omega⟩
 ·refine ae (aa (af [] rfl ?_))
  obtain rfl:k=l.length:=by omega
  rw[List.take_length] at hM ⊢
  exact aE [0] (by decide) rfl (aB ⟨_,rfl,.inl ⟨hM,g,rfl,rfl⟩⟩)
/-! ### Whether nodes are a cover -/
structure gt (g:Gr) (sl sr:List Int):Prop where
 left:cF g.left sl
 right:cF g.right sr
 meet:∀ e∈g.edges,e.l∈sl∨e.r∈sr
def lF (sl sr:List Int) (Al Ar:Option Addr) (cl cr:Nat):List Value:=[.slice Al sl.length cl,.slice Ar sr.length cr]
def lE (sl sr:List Int) (Al Ar:Option Addr) (cl cr:Nat):Value:=.agg #[.slice Al sl.length cl,.slice Ar sr.length cr]
set_option maxHeartbeats 1000000 in
theorem sE (g:Gr) (hg:g.Right) (A:Option Addr) (c b o:Nat) (hA:g.edges≠[]→A=some ⟨b,o,none⟩) (sl:List Int) (hsl:sl.length≤100000) (Al:Option Addr) (cl bl ol:Nat) (hAl:sl≠[]→Al=some ⟨bl,ol,none⟩) (sr:List Int) (hsr:sr.length≤100000) (Ar:Option Addr) (cr br or_:Nat) (hAr:sr≠[]→Ar=some ⟨br,or_,none⟩):
 Fn 20 [j7 g A c,lE sl sr Al Ar cl cr] [] [.seg b o (cd g.edges),.seg bl ol (aw sl),.seg br or_ (aw sr)] fun v H'=>v=.bool (cU (gt g sl sr))∧H'=[]:=by
 have h1:=hg.left
 have h2:=hg.right
 have h3:=hg.len
 obtain⟨nl,hnl⟩:∃ n:Nat,g.left=n:=⟨g.left.toNat,by omega⟩
 obtain⟨nr,hnr⟩:∃ n:Nat,g.right=n:=⟨g.right.toNat,by omega⟩
 refine aM Tryz.func20 rfl rfl fun w0=>?_
 refine ae (aa ?_)
 refine a6 (cs:=eE g A c) rfl rfl rfl (fun _=>rfl) fun p=>?_
 refine a6 (cs:=lF sl sr Al Ar cl cr) rfl rfl rfl (fun _=>rfl) fun ps=>?_
 refine af [] rfl ?_
 refine ae (ae (aa ?_))
 refine ab [] (v:=j7 g A c) (ad 1 rfl rfl rfl rfl) rfl ?_
 refine ax [] (gR g hg A c b o hA) rfl rfl rfl rfl (by kernel_rfl) ⟨⟨2,_,by simp,rfl,ak _ _ _,ap⟩,trivial⟩ (fun _=>rfl) ?_
 rintro v H' ⟨rfl,rfl⟩
 refine⟨rfl,?_⟩
 refine af [] rfl ?_
 refine aC rfl (fun h=>absurd rfl h) (fun _=>aq ?_)
 refine ae (aa (ah [] rfl ?_))
 (first|refine ab [] (ad 0 rfl rfl rfl rfl) rfl ?_|refine ab [] (ad 1 rfl rfl rfl rfl) rfl ?_|refine ab [] (ad 2 rfl rfl rfl rfl) rfl ?_|refine ab [] (ad 3 rfl rfl rfl rfl) rfl ?_|refine ab [] (ad 4 rfl rfl rfl rfl) rfl ?_|refine ab [] (ad 5 rfl rfl rfl rfl) rfl ?_|refine ab [] (ad 6 rfl rfl rfl rfl) rfl ?_|refine ab [] (ad 7 rfl rfl rfl rfl) rfl ?_)
 refine ah [] rfl ?_
 refine ab [] (ad 1 rfl rfl rfl rfl) rfl ?_
 refine av 18 (v':=.int .i64 (nl:Int)) rfl (congrArg (Value.int .i64) hnl) ?_
 refine ax [] (kQ Al cl bl ol sl hAl hsl nl (by omega)) rfl rfl rfl rfl (by kernel_rfl) ⟨⟨3,_,by simp,rfl,ak _ _ _,ap⟩,trivial⟩ (fun _=>rfl) ?_
 rintro v H' (⟨hS1,g1,rfl,rfl⟩|⟨hS1,rfl,rfl⟩)
 rotate_left
 ·refine⟨rfl,?_⟩
  refine af [] rfl ?_
  refine ae (aa (ah [] rfl ?_))
  (first|refine ab [] (ad 0 rfl rfl rfl rfl) rfl ?_|refine ab [] (ad 1 rfl rfl rfl rfl) rfl ?_|refine ab [] (ad 2 rfl rfl rfl rfl) rfl ?_|refine ab [] (ad 3 rfl rfl rfl rfl) rfl ?_|refine ab [] (ad 4 rfl rfl rfl rfl) rfl ?_|refine ab [] (ad 5 rfl rfl rfl rfl) rfl ?_|refine ab [] (ad 6 rfl rfl rfl rfl) rfl ?_|refine ab [] (ad 7 rfl rfl rfl rfl) rfl ?_)
  refine ah [] rfl ?_
  refine ab [] (ad 1 rfl rfl rfl rfl) rfl ?_
  refine av 26 (v':=.int .i64 (nr:Int)) rfl (congrArg (Value.int .i64) hnr) ?_
  refine ax [] (kQ Ar cr br or_ sr hAr hsr nr (by omega)) rfl rfl rfl rfl (by kernel_rfl) ⟨⟨4,_,by simp,rfl,ak _ _ _,ap⟩,trivial⟩ (fun _=>rfl) ?_
  have hno:¬ gt g sl sr:=fun h=>hS1 (by have:=h.left;rwa [hnl] at this)
  rintro v H' (⟨hS2,g2,rfl,rfl⟩|⟨hS2,rfl,rfl⟩)
  ·refine⟨rfl,?_⟩
   refine af [] rfl ?_
   refine ae (ae (aa (ah [] rfl ?_)))
   refine af [2] rfl ?_
   refine bz rfl ?_
   refine ae (aa (af [] rfl ?_))
   exact aE [] (by decide) rfl (aB ⟨_,rfl,(congrArg Value.bool (aA hno)).symm,rfl⟩)
  ·refine⟨rfl,?_⟩
   refine af [] rfl ?_
   refine ae (ae (aa (ah [] rfl ?_)))
   refine af [2] rfl ?_
   refine bz rfl ?_
   refine ae (aa (af [] rfl ?_))
   exact aE [] (by decide) rfl (aB ⟨_,rfl,(congrArg Value.bool (aA hno)).symm,rfl⟩)
 ·refine⟨rfl,?_⟩
  refine af [] rfl ?_
  refine ae (aa (ah [] rfl ?_))
  refine ab [] (ad 1 rfl rfl rfl rfl) rfl ?_
  refine ah [] rfl ?_
  refine ab [] (ad 2 rfl rfl rfl rfl) rfl ?_
  refine av 26 (v':=.int .i64 (nr:Int)) rfl (congrArg (Value.int .i64) hnr) ?_
  refine ax [] (kQ Ar cr br or_ sr hAr hsr nr (by omega)) rfl rfl rfl rfl (by kernel_rfl) ⟨⟨5,_,by simp,rfl,ak _ _ _,ap⟩,trivial⟩ (fun _=>rfl) ?_
  rintro v H' (⟨hS2,g2,rfl,rfl⟩|⟨hS2,rfl,rfl⟩)
  rotate_left
  ·refine⟨rfl,?_⟩
   refine af [] rfl ?_
   refine ae (ae (aa (ah [] rfl ?_)))
   refine af [2] rfl ?_
   refine bz rfl ?_
   refine ae (aa (af [] rfl ?_))
   exact aE [] (by decide) rfl (aB ⟨_,rfl,(congrArg Value.bool (aA fun h=>hS2 (by have:=h.right;rwa [hnr] at this))).symm,rfl⟩)
  refine⟨rfl,?_⟩
  refine af [] rfl ?_
  refine ae (ae (aa (ah [] rfl ?_)))
  refine af [2] rfl ?_
  refine bP rfl (aq ?_)
  refine ae (ae (aa (ah [] rfl ?_)))
  refine ab [] (ad 3 rfl rfl rfl rfl) rfl ?_
  refine af [] rfl ?_
  refine au ?_
  have hsl0:∀ x∈sl,0≤x:=fun x hx=>by have:=hS1.rng x hx;omega
  have hsr0:∀ x∈sr,0≤x:=fun x hx=>by have:=hS2.rng x hx;omega
  refine bu (σ:=Nat) (fun k=>[(39,.int .i64 k),(38,.int .i64 g.edges.length),(37,.slice A g.edges.length c),(5,.slice (some ⟨g1,0,none⟩) (nl+1) (nl+1)),(7,.slice (some ⟨g2,0,none⟩) (nr+1) (nr+1))])
   (fun k=>[.own (.slice (some ⟨g2,0,none⟩) (nr+1) (nr+1)) 4 1 (nr+1) (aY (eX (nr+1) sr)),.own (.slice (some ⟨g1,0,none⟩) (nl+1) (nl+1)) 4 1 (nl+1) (aY (eX (nl+1) sl)),.seg b o (cd g.edges)])
   (fun k=>k≤g.edges.length∧∀ j e,j<k→g.edges[j]?=some e→e.l∈sl∨e.r∈sr) (fun k=>g.edges.length-k) 0 [0,1,4] ⟨rfl,rfl,rfl,rfl,rfl,trivial⟩ (by decide) rfl ⟨Nat.zero_le _,fun j e hj=>by omega⟩ ?_
  rintro k ⟨hk,hall⟩
  refine ae (aa (af [] rfl ?_))
  refine ae (aC rfl (fun hlt=>aq ?_) (fun hge=>aO ?_))
  ·have hlt:k<g.edges.length:=by omega
   obtain rfl:=hA (by intro h0;rw[h0] at hlt;simp at hlt)
   obtain⟨e,he⟩:∃ e,g.edges[k]?=some e:=⟨g.edges[k],List.getElem?_eq_getElem hlt⟩
   have her:=hg.edge e (List.mem_of_getElem? he)
   obtain⟨el,hel⟩:∃ n:Nat,e.l=n:=⟨e.l.toNat,by omega⟩
   obtain⟨er,her2⟩:∃ n:Nat,e.r=n:=⟨e.r.toNat,by omega⟩
   have hln:el<nl+1:=by omega
   have hrn:er<nr+1:=by omega
   obtain⟨bL,hbL⟩:∃ bl,(eX (nl+1) sl)[el]?=some bl:=⟨_,List.getElem?_eq_getElem (by rw[gJ];exact hln)⟩
   obtain⟨bR,hbR⟩:∃ br,(eX (nr+1) sr)[er]?=some br:=⟨_,List.getElem?_eq_getElem (by rw[gJ];exact hrn)⟩
   have hLg:=l8 hln hsl0
   have hRg:=l8 hrn hsr0
   rw[← hel,hbL] at hLg
   rw[← her2,hbR] at hRg
   refine ae (au ?_)
   refine ae (aa (ah [] rfl ?_))
   refine ab [] (eH rfl rfl rfl rfl rfl hlt) rfl ?_
   refine ab [] (aU 2 rfl rfl rfl rfl (eF he)) rfl ?_
   refine aQ rfl rfl rfl (fun _=>rfl) fun p4=>?_
   refine ah [] rfl ?_
   refine aD 0 rfl rfl rfl rfl rfl [] rfl ?_
   refine aj ?_
   refine ae (aa (ah [] rfl ?_))
   (first|refine ab [] (ad 0 rfl rfl rfl rfl) rfl ?_|refine ab [] (ad 1 rfl rfl rfl rfl) rfl ?_|refine ab [] (ad 2 rfl rfl rfl rfl) rfl ?_|refine ab [] (ad 3 rfl rfl rfl rfl) rfl ?_|refine ab [] (ad 4 rfl rfl rfl rfl) rfl ?_|refine ab [] (ad 5 rfl rfl rfl rfl) rfl ?_|refine ab [] (ad 6 rfl rfl rfl rfl) rfl ?_|refine ab [] (ad 7 rfl rfl rfl rfl) rfl ?_)
   refine av 45 (v':=.int .i64 (el:Int)) rfl (congrArg (Value.int .i64) hel) ?_
   refine ab [] (aI rfl rfl rfl rfl rfl hln) rfl ?_
   refine ab [] (aF 2 rfl rfl rfl (show (aY _)[el]?=some (.bool bL) from cD hbL)) rfl ?_
   refine ah [] rfl ?_
   have next:e.l∈sl∨e.r∈sr→∀ j e,j<k+1→g.edges[j]?=some e→e.l∈sl∨e.r∈sr:=fun hm j e' hj he'=>by
    by_cases h:j=k
    ·subst h;rw[he] at he';simp only[Option.some.injEq] at he';rw[← he'];exact hm
    ·exact hall j e' (by omega) he'
   cases bL with
   |true=>
    refine af [6] rfl ?_
    refine bP rfl (aq ?_)
    refine aa (af [] rfl ?_)
    refine⟨k+1,[1,2,3],⟨?_,rfl,rfl,rfl,rfl,trivial⟩,by decide,rfl,⟨by omega,next (.inl (hLg.1 rfl))⟩,by omega⟩
    show some (Value.int .i64 (IntKind.i64.wrap ((k:Int)+1)))=_
    rw[bK (by omega)];rfl
   |false=>
   refine ah [6] rfl ?_
   (first|refine ab [6] (ad 0 rfl rfl rfl rfl) rfl ?_|refine ab [6] (ad 1 rfl rfl rfl rfl) rfl ?_|refine ab [6] (ad 2 rfl rfl rfl rfl) rfl ?_|refine ab [6] (ad 3 rfl rfl rfl rfl) rfl ?_|refine ab [6] (ad 4 rfl rfl rfl rfl) rfl ?_|refine ab [6] (ad 5 rfl rfl rfl rfl) rfl ?_|refine ab [6] (ad 6 rfl rfl rfl rfl) rfl ?_|refine ab [6] (ad 7 rfl rfl rfl rfl) rfl ?_)
   refine av 52 (v':=.int .i64 (er:Int)) rfl (congrArg (Value.int .i64) her2) ?_
   refine ab [6] (aI rfl rfl rfl rfl rfl hrn) rfl ?_
   refine ab [6] (aF 1 rfl rfl rfl (show (aY _)[er]?=some (.bool bR) from cD hbR)) rfl ?_
   refine af [6] rfl ?_
   cases bR with
   |true=>
    refine bP rfl (aq ?_)
    refine aa (af [] rfl ?_)
    refine⟨k+1,[1,2,3],⟨?_,rfl,rfl,rfl,rfl,trivial⟩,by decide,rfl,⟨by omega,next (.inr (hRg.1 rfl))⟩,by omega⟩
    show some (Value.int .i64 (IntKind.i64.wrap ((k:Int)+1)))=_
    rw[bK (by omega)];rfl
   |false=>
    refine bz rfl ?_
    refine ae (aa (af [] rfl ?_))
    refine aE [] (by decide) rfl (aB ⟨_,rfl,(congrArg Value.bool (aA fun h=>?_)).symm,rfl⟩)
    rcases h.meet e (List.mem_of_getElem? he) with h|h
    ·exact absurd (hLg.2 h) (by decide)
    ·exact absurd (hRg.2 h) (by decide)
  ·refine ae (aa (af [] rfl ?_))
   refine aE [] (by decide) rfl (aB ⟨_,rfl,(congrArg Value.bool (az ?_)).symm,rfl⟩)
   refine⟨by rw[hnl];exact hS1,by rw[hnr];exact hS2,fun e he=>?_⟩
   obtain⟨j,hj,rfl⟩:=List.mem_iff_getElem.1 he
   exact hall j _ (by omega) (List.getElem?_eq_getElem hj)
noncomputable def gG (g:Gr) (l sl sr:List Int):Int:=if cU (bC g l∧gt g sl sr)=true then (if sl.length+sr.length=l.length then 0 else 8) else 1
set_option maxHeartbeats 1000000 in
theorem sG (g:Gr) (hg:g.Right) (A:Option Addr) (c b o:Nat) (hA:g.edges≠[]→A=some ⟨b,o,none⟩) (l:List Int) (hl:l.length≤100000) (hin:∀ x∈l,dw x) (L:Option Addr) (cm bm om:Nat) (hL:l≠[]→L=some ⟨bm,om,none⟩)
 (sl:List Int) (hsl:sl.length≤100000) (Al:Option Addr) (cl bl ol:Nat) (hAl:sl≠[]→Al=some ⟨bl,ol,none⟩) (sr:List Int) (hsr:sr.length≤100000) (Ar:Option Addr) (cr br or_:Nat) (hAr:sr≠[]→Ar=some ⟨br,or_,none⟩):
 Fn 11 [j7 g A c,.slice L l.length cm,lE sl sr Al Ar cl cr] [] [.seg b o (cd g.edges),.seg bm om (aw l),.seg bl ol (aw sl),.seg br or_ (aw sr)] fun v H'=>v=.int .i64 (gG g l sl sr)∧H'=[]:=by
 refine aM Tryz.func11 rfl rfl fun w0=>?_
 refine ae (aa ?_)
 refine a6 (cs:=eE g A c) rfl rfl rfl (fun _=>rfl) fun p=>?_
 refine a6 (cs:=lF sl sr Al Ar cl cr) rfl rfl rfl (fun _=>rfl) fun ps=>?_
 refine af [] rfl ?_
 refine ae (aa ?_)
 refine ab [] (v:=j7 g A c) (ad 1 rfl rfl rfl rfl) rfl ?_
 refine ax [] (gR g hg A c b o hA) rfl rfl rfl rfl (by kernel_rfl) ⟨⟨2,_,by simp,rfl,ak _ _ _,ap⟩,trivial⟩ (fun _=>rfl) ?_
 rintro v H' ⟨rfl,rfl⟩
 refine⟨rfl,?_⟩
 refine af [] rfl ?_
 refine ae (au (ae (aa (af [] rfl ?_))))
 refine aC rfl (fun h=>absurd rfl h) (fun _=>?_)
 refine ae (aa ?_)
 refine ab [] (v:=j7 g A c) (ad 1 rfl rfl rfl rfl) rfl ?_
 refine ah [] rfl ?_
 refine ax [] (nc g hg A c b o hA l hl hin L cm bm om hL) rfl rfl rfl rfl (by kernel_rfl) ⟨⟨2,_,by simp,rfl,ak _ _ _,ap⟩,⟨3,_,by simp,rfl,ak _ _ _,ap⟩,trivial⟩ (fun _=>rfl) ?_
 rintro v H' ⟨rfl,rfl⟩
 refine⟨rfl,?_⟩
 refine ah [] rfl ?_
 by_cases hM:bC g l
 rotate_left
 ·have hz:gG g l sl sr=1:=by unfold gG;rw[aA (fun h=>hM h.1)];rfl
  refine av 19 (v':=.bool true) rfl (congrArg Value.bool (by rw[aA hM];rfl)) ?_
  refine af [4] rfl ?_
  refine bz rfl ?_
  refine ae (aa (af [] rfl ?_))
  exact aE [] (by decide) rfl (aB ⟨_,rfl,congrArg (Value.int .i64) hz.symm,rfl⟩)
 refine av 19 (v':=.bool false) rfl (congrArg Value.bool (by rw[az hM];rfl)) ?_
 refine ab [4] (v:=j7 g A c) (ad 1 rfl rfl rfl rfl) rfl ?_
 refine ab [4] (v:=lE sl sr Al Ar cl cr) (ad 0 rfl rfl rfl rfl) rfl ?_
 refine ax [4] (sE g hg A c b o hA sl hsl Al cl bl ol hAl sr hsr Ar cr br or_ hAr) rfl rfl rfl rfl (by kernel_rfl) ⟨⟨2,_,by simp,rfl,ak _ _ _,ap⟩,⟨4,_,by simp,rfl,ak _ _ _,ap⟩,⟨5,_,by simp,rfl,ak _ _ _,ap⟩,trivial⟩ (fun _=>rfl) ?_
 rintro v H' ⟨rfl,rfl⟩
 refine⟨rfl,?_⟩
 refine ah [4] rfl ?_
 by_cases hC:gt g sl sr
 rotate_left
 ·have hz:gG g l sl sr=1:=by unfold gG;rw[aA (fun h=>hC h.2)];rfl
  refine av 14 (v':=.bool true) rfl (congrArg Value.bool (by rw[aA hC];rfl)) ?_
  refine aj ?_
  refine bz rfl ?_
  refine ae (aa (af [] rfl ?_))
  exact aE [] (by decide) rfl (aB ⟨_,rfl,congrArg (Value.int .i64) hz.symm,rfl⟩)
 refine av 14 (v':=.bool false) rfl (congrArg Value.bool (by rw[az hC];rfl)) ?_
 refine aj ?_
 refine bP rfl ?_
 refine ae (aa (ah [] rfl ?_))
 (first|refine ab [] (ad 0 rfl rfl rfl rfl) rfl ?_|refine ab [] (ad 1 rfl rfl rfl rfl) rfl ?_|refine ab [] (ad 2 rfl rfl rfl rfl) rfl ?_|refine ab [] (ad 3 rfl rfl rfl rfl) rfl ?_|refine ab [] (ad 4 rfl rfl rfl rfl) rfl ?_|refine ab [] (ad 5 rfl rfl rfl rfl) rfl ?_|refine ab [] (ad 6 rfl rfl rfl rfl) rfl ?_|refine ab [] (ad 7 rfl rfl rfl rfl) rfl ?_)
 refine ah [] rfl ?_
 (first|refine ab [] (ad 0 rfl rfl rfl rfl) rfl ?_|refine ab [] (ad 1 rfl rfl rfl rfl) rfl ?_|refine ab [] (ad 2 rfl rfl rfl rfl) rfl ?_|refine ab [] (ad 3 rfl rfl rfl rfl) rfl ?_|refine ab [] (ad 4 rfl rfl rfl rfl) rfl ?_|refine ab [] (ad 5 rfl rfl rfl rfl) rfl ?_|refine ab [] (ad 6 rfl rfl rfl rfl) rfl ?_|refine ab [] (ad 7 rfl rfl rfl rfl) rfl ?_)
 refine af [] rfl ?_
 refine aC rfl (fun h=>?_) (fun h=>aq ?_)
 ·rw[bK (by omega)] at h
  have hz:gG g l sl sr=8:=by unfold gG;rw[az ⟨hM,hC⟩,if_pos rfl,if_neg (fun e=>h (by omega))]
  refine ae (aa (af [] rfl ?_))
  exact aE [] (by decide) rfl (aB ⟨_,rfl,congrArg (Value.int .i64) hz.symm,rfl⟩)
 ·rw[bK (by omega)] at h
  have hz:gG g l sl sr=0:=by unfold gG;rw[az ⟨hM,hC⟩,if_pos rfl,if_pos (by omega)]
  refine ae (aa (af [] rfl ?_))
  exact aE [] (by decide) rfl (aB ⟨_,rfl,congrArg (Value.int .i64) hz.symm,rfl⟩)
end Go.Proofs.YtpbmihpjgjbndaaGreat
