import Derived.Test.YtmcnpaelaieniaaGreatDoorQX129
import Derived.Test.YtmcnpaelaieniaaGreatDoorQD
/- A part of the proof. -/
set_option linter.unusedVariables false
set_option linter.unusedSimpArgs false
set_option maxHeartbeats 8000000
namespace Go.Proofs.YtmcnpaelaieniaaGreatDoor
open Go.RowKit
theorem oY(l:LI_)(k:Nat):aj (l.drop k)=(aj l).drop k:=by unfold aj;rw[List.map_drop]
theorem y8{l:LI_}{k:Nat}(f:k<=l.length)(h:∀ j x,j<k->l[j]?=some x->i5 x=false):bW l=k+(l.drop k).findIdx i5:=by
 have e:l=l.take k++l.drop k:=(Oh k l).symm;unfold bW
 conv=>lhs;rw[e,List.findIdx_append]
 have c:(l.take k).findIdx i5=(l.take k).length:=PA.2 λ x d=>by
  obtain⟨j,b⟩:=Oo.1 d;have a:j<k:=by have:=(Nb.1 b).1;rw[ND] at this;omega
  rw[Pw,if_pos a] at b;exact h j x a b
 rw[c,if_neg aa,ND];omega
theorem zw(N:aR)(A:OA_)(c:Nat)(left:LI_)(u:left.length<=2000)(d:OA_)(a bl:Nat)(m:left.length<=a)(p:left≠[]->d=some ⟨bl,0,none⟩)(val:Int)(Ao:OA_)(no co:Nat)(k:Nat)(s:k<=left.length)(e:∀ j x,j<k->left[j]?=some x->i5 x=false)(g:Nat):
 Fn 178 [.pointer (some ⟨g,0,none⟩)] (ay [blk g 256 (pz N A c d left.length a val Ao no co (k:Int))]) ([.seg bl 0 (aj left)]++[blk g 256 (pz N A c d left.length a val Ao no co (k:Int))]) λ v H'=>v=.bool (dU (bW left<left.length))/\H'=[blk g 256 (pz N A c d left.length a val Ao no co (bW left:Nat))]:=by
 generalize hM:ay _=M
 refine aT Tryz.func178 λ w0=>?_;have w:=y8 s e;have y:bW left<=left.length:=by unfold bW;exact List.findIdx_le_length
 refine iN ?_;refine bK 17 (dS [0,1,2,3,4,5,6,7,8,9,10,11,12]++[(13,false)]++dS [14,15,16]) [0,1] aW ab rfl<|a6 ?_;refine bc (v:=af (k:Int)) rfl (ad 1 rfl) ?_;refine a6 ?_;refine bc (v:=.slice d left.length a) rfl (ad 1 rfl) ?_;refine a6 ?_;refine bc (v:=af (k:Int)) rfl (ad 1 rfl) ?_;refine bc rfl (f0 (i:=k) rfl rfl rfl rfl rfl s) ?_;refine jM ?_;have q:(left.drop k).length=left.length-k:=N5
 have t:=BQ (fT d a k 1) (a-k) bl k (left.drop k) (λ r=>by
  have f:k<left.length:=by
   refine NE λ h=>r (List.drop_eq_nil_iff.2 aa)
  have:=e8 (A:=d) (c:=a) (l:=k) (n:=left.length) (sz:=1) (b:=bl) (o:=0) (λ _=>p (by rintro rfl;simp at f)) m f;rw[this];simp) aa
 rw[q,oY] at t;refine cH (fst:=[]) (cap:=[]) t rfl ⟨gC 0 rfl (by have:=dI (bn bl 0 (aj left)) k;rw[NO] at this;exact this) ((show aj left=[]\/(aU.seg bl 0 (aj left)).at_=some bl from cC).imp (λ h=>by rw[h,List.drop_nil]) id),be⟩ ?_;refine bZ [0,1]<|ib [] rfl<|aB 17 (v':=af ((bW left:Nat):Int)) rfl (M8 (Value.int .i64) (by rw[cv aa];omega))<|dz 1 ?_;refine fw ?_;refine bK 11 (dS [0,1,2,3,4,5,6,7,8,9,10]) [0,1] aW ab rfl<|a6 ?_;refine bc (v:=af ((bW left:Nat):Int)) rfl (ad 1 rfl) ?_;refine a6 ?_;refine bc (v:=.slice d left.length a) rfl (ad 1 rfl) ?_;refine ib [] rfl<|fw ?_;refine aL [1] ⟨_,rfl,M8 Value.bool (eB aa),rfl⟩
theorem J0(a b:Nat)(Ax An:OA_)(c cx d cn:Nat):Fn 132 [.pointer (some ⟨a,0,none⟩),.pointer (some ⟨b,0,none⟩)] (ay [blk a 23 [.slice Ax c cx],blk b 23 [.slice An d cn]])
 ([]++[blk a 23 [.slice Ax c cx],blk b 23 [.slice An d cn]]) λ v H'=>v=.bool (dU (0<c))/\H'=[blk a 23 [.slice An 0 cn],blk b 23 [.slice Ax c cx]]:=by
 refine aT Tryz.func132 λ w0=>?_;refine ao ?_;refine gj [(0,ap a 0),(1,ap b 0)] [blk a 23 [.slice An 0 cn],blk b 23 [.slice Ax c cx]] ?_ ?_
 ·refine Mv ?_
  (repeat' (first|exact be|refine Kc bC ⟨[0,1],a8,ab,rfl⟩|refine kY 0 [1] bC ?_|refine kY 0 [2] bC ?_|refine kY 2 [3] bC ?_|refine kY 0 [] bC ?_|refine kY 1 [] bC ?_|refine kY 2 [] bC ?_|refine kY 3 [] bC ?_|refine kY 4 [] bC ?_|refine⟨⟨_,rfl,?_⟩,?_⟩|refine ae [] (ad 0 rfl) rfl ?_|refine ae [] (ad 1 rfl) rfl ?_|refine ae [] (jO (i:=0) rfl rfl rfl rfl rfl (Nk _)) rfl ?_|refine fG 1 rfl [] rfl ?_|refine fG 0 rfl [] rfl ?_|refine ah ?_))
 refine aI ?_;refine bh 1 ?_;refine aN ?_;refine aL [0,1] ⟨_,rfl,M8 Value.bool (eB aa),rfl⟩
def MT(N:aR)(f:LI_)(least:Int)(n:Nat)(v:Value)(H':Heap):Prop:=
 (aD N f/\1<=least/\∃ (lv:LI_) (g:Nat),fu N (a9 (N.arcs.zip f)) least lv/\v=.tuple #[.slice (some ⟨g,0,none⟩) (n+1) (n+1),.int .i64 0]/\
  H'=[.own (.slice (some ⟨g,0,none⟩) (n+1) (n+1)) 3 1 (n+1) (aj lv)])\/
 (¬ aD N f/\v=.tuple #[.slice none 0 0,.int .i64 (eQ N f)]/\H'=[])\/(aD N f/\least<1/\v=.tuple #[.slice none 0 0,.int .i64 3]/\H'=[])
structure LS where
 k:Nat
 fr:LN_
 Ax:OA_
 cx:Nat
 nw:LI_
 An:OA_
 cn:Nat
 lv:LI_
theorem Fb(N:aR)(hN:N.Fits)(Z:N.Right)(A:OA_)(c b o:Nat)(hA:N.arcs≠[]->A=some ⟨b,o,none⟩)(f:LI_)(F:OA_)(cf bf of:Nat)(hF:f≠[]->F=some ⟨bf,of,none⟩)(hf:∀ x∈f,b9 x)(n1:f.length*8<=140737488351232)(least:Int)
 (n:Nat) (hn:N.nodes=n):Fn 109 [cd N A c,.slice F f.length cf,.int .i64 least] [] [.seg b o (arcs N.arcs),.seg bf of (aj f)] (MT N f least n):=by
 have b1:=Z.nodes;have hd:=Z.len;refine aT Tryz.func109 λ w0=>?_;refine bA ?_;refine dh (cs:=bY N A c) λ p=>?_;refine ip ?_;refine dB (w8 N hN Z A c b o hA f F cf bf of hF hf n1) rfl ⟨bx 1 rfl,bx 2 rfl,be⟩ ?_;rintro v H' (⟨hW,A1,I,rfl,rfl⟩|⟨hW,rfl,rfl⟩)
 case inr=>
  refine se ?_;refine ak rfl (λ h=>?_) (λ h=>absurd (de.1 (Nn.1 h)) hW);refine ao ?_;refine aL [] ⟨_,rfl,.inr (.inl ⟨hW,rfl,rfl⟩)⟩
 refine se ?_;refine ak rfl (λ h=>absurd rfl h) (λ _=>?_);refine ao ?_;refine ak rfl (λ h=>?_) (λ hle=>ag ?_)
 ·refine ao ?_;refine aL [] ⟨_,rfl,.inr (.inr ⟨hW,h,rfl,rfl⟩)⟩
 obtain⟨rm,hs⟩:∃ rm,rm=a9 (N.arcs.zip f):=⟨_,rfl⟩;have a1:rm.length=2*N.arcs.length:=by rw[hs,ee,O0,hW.len,Pm]
 rw[<- hs];refine qn ?_;refine aB 41 (v':=af ((n+1:Nat):Int)) rfl (M8 (Value.int .i64) ((cv (n:=N.nodes+1) aa).trans aa))<|cY (n:=n+1) (c:=n+1) rfl rfl rfl rfl rfl rfl aa aa aa aE λ g=>ew ?_;refine bh 2 ?_;refine az ?_;refine aB 45 (v':=af ((n+1:Nat):Int)) rfl (M8 (Value.int .i64) ((cv (n:=N.nodes+1) aa).trans aa))<|cY (n:=n+1) (c:=n+1) rfl rfl rfl rfl rfl rfl aa aa aa aE λ go=>aN ?_;rw[show made [Value.slice none 0 0] ((n+1)*1)=(List.replicate (n+1) ek).map cT by rw[db,NR,OH];rfl];rw[show made [af 0] ((n+1)*1)=aj (List.replicate (n+1) 0) by rw[db,NR];simp[aj]];refine jX ?_
 refine bS (σ:=Nat) (λ k=>[(49,af k),(48,af ((n+1:Nat):Int)),(11,ax go 0 (n+1) (n+1)),(10,ax g 0 (n+1) (n+1)),(8,.slice A1 (2*N.arcs.length) I),(3,ap p 0),(2,af least)])
  (λ k=>[.own (ax go 0 (n+1) (n+1)) 3 1 (n+1) (aj (List.replicate k (-1)++List.replicate (n+1-k) 0)),.own (ax g 0 (n+1) (n+1)) 23 1 (n+1) ((List.replicate (n+1) ek).map cT),.own (.slice A1 (2*N.arcs.length) I) 2 1 (2*N.arcs.length) (aj rm),blk p 33 (bY N A c),.seg b o (arcs N.arcs),.seg bf of (aj f)])
  (λ k=>k<=n+1) (λ k=>n+1-k) 0 [0,1,2,3,4,5] a8 ab rfl (Nk _) ?_
 ·intro k hk;refine ao ?_;refine am (ak rfl (λ hlt=>ag ?_) (λ H=>aO ?_))
  ·have hlt:k<n+1:=by omega
   refine am (au ?_);refine cW ?_;refine aG (bG rfl hlt) ?_;refine aY 0 rfl rfl rfl rfl (fF rfl eS) [] rfl<|dw ?_;refine⟨k+1,[0,1,2,3,4,5],⟨?_,rfl,rfl,rfl,rfl,rfl,rfl,be⟩,ab,?_,aa,aa⟩
   ·refine fJ ?_;rw[cv aa];rfl
   ·rw[show List.replicate (k+1) (-1:Int)++List.replicate (n+1-(k+1)) 0=(List.replicate k (-1)++List.replicate (n+1-k) 0).set k (-1) by
     rw[OC _ _ ai,NN,OB,show n+1-k=(n+1-(k+1))+1 by omega,Ol (n:=n+1-(k+1)),OT,List.replicate_succ' (n:=k),NI];rfl]
    rfl
  ·obtain rfl:k=n+1:=by omega
   rw[OB,List.replicate_zero,NL];refine jX ?_;refine bQ (aw.nils 3 (n+1)) ?_
   refine cN (σ:=Nat×List ff) (λ s=>[(58,af s.1),(57,af ((2*N.arcs.length:Nat):Int)),(56,.slice A1 (2*N.arcs.length) I),(11,ax go 0 (n+1) (n+1)),(10,ax g 0 (n+1) (n+1)),(8,.slice A1 (2*N.arcs.length) I),(3,ap p 0),(2,af least)])
    (λ s=>[.own (ax go 0 (n+1) (n+1)) 3 1 (n+1) (aj (List.replicate (n+1) (-1))),.own (ax g 0 (n+1) (n+1)) 23 1 (n+1) (s.2.map cT),.own (.slice A1 (2*N.arcs.length) I) 2 1 (2*N.arcs.length) (aj rm),blk p 33 (bY N A c),.seg b o (arcs N.arcs),.seg bf of (aj f)]++s.2.map (bg 3))
    (λ s=>s.1<=2*N.arcs.length/\s.2.length=n+1/\∀ (v:Nat) (r:ff),s.2[v]?=some r->r.l=tr N s.1 v) (λ s=>2*N.arcs.length-s.1)
    (0,List.replicate (n+1) ek) a8 aw.refl ⟨Nk _,ai,λ v r h=>?_⟩ ?_
   ·rw[Nt] at h;split at h
    ·simp only[Na] at h;subst h;rfl
    ·cases h
   rintro⟨k,rows⟩ ⟨hk,ha,h1⟩;simp only at hk ha h1 ⊢;refine ao ?_;refine am (ak rfl (λ hlt=>ag ?_) (λ H=>aO ?_))
   ·have hlt:k<2*N.arcs.length:=by omega
    have he:=jG Z hlt;obtain⟨v,Y⟩:∃ v:Nat,(dg N k).1=v:=⟨(dg N k).1.toNat,aa⟩;have K:v<rows.length:=aa;obtain⟨row,d⟩:∃ r,rows[v]?=some r:=⟨rows[v],an K⟩;have hq:=h1 v row d;have hlen:=oL N k v;rw[<- hq] at hlen;refine am (au ?_);refine mz ?_;refine sy ?_;refine cH (jw N A c b o hA hd k hlt) rfl ⟨bx 4 rfl,be⟩ ?_;refine aN ?_;refine bB 14 (v':=af (v:Int)) rfl (M8 (Value.int .i64) Y)<|aI ?_;refine io ?_;refine aG (aA (v:=cT row) 1 rfl rfl rfl (show (rows.map cT)[v]?=some (cT row) by rw[Ni,d];rfl)) ?_;refine az ?_;refine dp λ g2=>?_;show JL _ _ _ _ _ ([_,_,_,_,_,_,_]++rows.map (bg 3));refine cK (aw.front (i:=v) (c:=bg 3 row) (by rw[Ni,d];rfl)) ?_;refine bp (n:=row.l.length) (m:=1) (off:=0) (news:=aj [(k:Int)]) 0 1 rfl rfl rfl rfl rfl rfl ab rfl rfl (aQ g2 _ _ (0,0)) aE rfl rfl aa aa (λ _ _=>rfl) λ A2 c2=>BE ?_;refine io ?_;refine aY 3 rfl rfl rfl rfl (fz rfl rfl rfl (by rw[Nj];omega)) [] rfl<|dw ?_;refine⟨(k+1,rows.set v ⟨A2,c2,row.l++[(k:Int)]⟩),⟨?_,rfl,rfl,rfl,rfl,rfl,rfl,rfl,be⟩,?_,⟨by simp only;omega,by simp only[NQ];omega,λ u r hu=>?_⟩,by simp only;omega⟩
    ·refine fJ ?_;rw[cv aa];rfl
    ·simp only[O1];refine aw.trans (aw.sub (List.Sublist.cons_cons _ (NU _ _))) (aw.back (A:=[_,_,_,_,_,_]) (by rw[Nj];exact K))
    ·rw[CS];by_cases e2:v=u
     ·subst e2;rw[No K] at hu;simp only[Na] at hu;rw[<- hu,if_pos Y,hq]
     ·rw[Nq e2] at hu;rw[if_neg aa,NL];exact h1 u r hu
   ·have h5:k=2*N.arcs.length:=by omega
    subst h5
    have D:∀ w,dL w0 [] w ([.own (ax go 0 (n+1) (n+1)) 3 1 (n+1) (aj (List.replicate (n+1) (-1))),.own (ax g 0 (n+1) (n+1)) 23 1 (n+1) (rows.map cT),.own (.slice A1 (2*N.arcs.length) I) 2 1 (2*N.arcs.length) (aj rm),blk p 33 (bY N A c),.seg b o (arcs N.arcs),.seg bf of (aj f)]++rows.map (bg 3))->
     ∀ v:Nat,∃ gv:Nat,∀ row,rows[v]?=some row->row.l.length<=row.c/\(aj row.l≠[]->row.A=aJ gv 0):=by
     intro w hw v
     cases Y:rows[v]? with
     |none=>exact⟨0,λ row h=>by cases h⟩
     |some row=>
      obtain⟨_,h2,h3,h4⟩:=aH (X:=⟨w0,[],⟨0,[]⟩⟩) (v+6) (show _=some (bg 3 row) by show (rows.map (bg 3))[v]?=_;rw[Ni,Y];rfl) w hw;obtain⟨gv,hj⟩:=bo h3 h4;exact⟨gv,λ l1 h=>by simp only[Na] at h;subst h;exact⟨h2,hj⟩⟩
    refine aP D λ B=>?_;obtain⟨gv,hj⟩:∃ gv:Nat->Nat,∀ (v:Nat) (row:ff),rows[v]?=some row->row.l.length<=row.c/\(aj row.l≠[]->row.A=aJ (gv v) 0):=⟨λ v=>Classical.choose (B v),λ v=>Pf (B v)⟩;refine aP (aH 2 rfl) λ ⟨_,_,hG,_⟩=>?_
    clear B D
    have h6:=Z.src;obtain⟨s0,k2⟩:∃ s:Nat,N.src=s:=⟨N.src.toNat,aa⟩;refine bA ?_;refine dM λ L=>?_;refine dM λ M=>?_;refine ew ?_
    (first|refine ae [] (ad 0 rfl) rfl ?_|refine ae [] (ad 1 rfl) rfl ?_|refine ae [] (ad 2 rfl) rfl ?_|refine ae [] (ad 3 rfl) rfl ?_|refine ae [] (ad 4 rfl) rfl ?_|refine ae [] (ad 5 rfl) rfl ?_|refine ae [] (ad 6 rfl) rfl ?_|refine ae [] (ad 7 rfl) rfl ?_)
    refine aB 80 (v':=af (s0:Int)) rfl (M8 (Value.int .i64) k2)<|io ?_;refine aY 2 rfl rfl rfl rfl (fF rfl eS) [] rfl<|ah<|b6 3 1<|aI ?_;refine bh (v:=.slice none 0 0) 1 ?_;refine az ?_
    (first|refine ae [] (ad 0 rfl) rfl ?_|refine ae [] (ad 1 rfl) rfl ?_|refine ae [] (ad 2 rfl) rfl ?_|refine ae [] (ad 3 rfl) rfl ?_|refine ae [] (ad 4 rfl) rfl ?_|refine ae [] (ad 5 rfl) rfl ?_|refine ae [] (ad 6 rfl) rfl ?_|refine ae [] (ad 7 rfl) rfl ?_)
    refine aB 84 (v':=af (s0:Int)) rfl (M8 (Value.int .i64) k2)<|dp λ g3=>?_;refine bp (n:=0) (m:=1) (off:=0) (news:=aj [(s0:Int)]) 1 0 rfl rfl rfl rfl rfl rfl ab rfl rfl (aQ g3 _ _ (0,0)) aE rfl rfl aa aa (λ _ _=>rfl) λ A3 c3=>dz 2 ?_;refine dw ?_;refine iN ?_;refine b6 3 1<|au<|?_;have s3:∀ (v:Nat) (row:ff),rows[v]?=some row->row.l=tr N (2*N.arcs.length) v:=λ v row h=>h1 v row h;show J _ _ _ _ ([_,_,_,_,_,_,_,_,_,_,_]++rows.map (bg 3))
    refine cN (σ:=LS) (λ s=>[(19,af s.k),(18,.func (.func 132) #[] #[ap M 0,ap L 0]),(17,ap M 0),(16,ap L 0),(11,ax go 0 (n+1) (n+1)),(10,ax g 0 (n+1) (n+1)),(8,.slice A1 (2*N.arcs.length) I),(3,ap p 0),(2,af least)])
     (λ s=>[blk M 23 [.slice s.Ax s.fr.length s.cx],blk L 23 [.slice s.An s.nw.length s.cn],.own (.slice s.Ax s.fr.length s.cx) 3 1 s.fr.length (aj (s.fr.map λ (i:Nat)=>(i:Int))),.own (.slice s.An s.nw.length s.cn) 3 1 s.nw.length (aj s.nw),
      .own (ax go 0 (n+1) (n+1)) 3 1 (n+1) (aj s.lv),.own (ax g 0 (n+1) (n+1)) 23 1 (n+1) (rows.map cT),.own (.slice A1 (2*N.arcs.length) I) 2 1 (2*N.arcs.length) (aj rm),blk p 33 (bY N A c),.seg b o (arcs N.arcs),.seg bf of (aj f)]++rows.map (bg 3))
     (λ s=>LH N rm least s.k s.fr s.lv) (λ s=>2*s.lv.count (-1)+s.fr.length)
     ⟨1,[s0],A3,c3,[],none,0,(List.replicate (n+1) (-1)).set s0 0⟩ a8 (aw.re [3,4,2,0,5,6,7,8,9,10] rfl ab) ?_ ?_
    ·have:=LH.init (rm:=rm) (least:=least) Z;rw[k2,hn,Nz,Nz] at this;exact this
    rintro⟨k,fr,Ax,cx,nw,An,cn,lv⟩ hI;simp only at hI ⊢;have e1:=hI.cnt;have n2:=hI.k1;rw[hn,Nz] at e1;refine aI ?_;show JL _ _ _ _ _ ([_,_]++([_,_,_,_,_,_,_,_]++rows.map (bg 3)));refine bJ (fst:=[]) (vs:=[]) (cap:=[ap M 0,ap L 0]) [] (J0 M L Ax An fr.length cx nw.length cn) rfl rfl rfl rfl aW aw.refl be aE<|jP ?_;refine ah<|ak rfl (λ ho=>ag ?_) (λ ho=>aO ?_)
    ·have O:fr≠[]:=by rintro rfl;simp at ho
     refine bQ (aw.shrink (m:=0) 3 rfl (Nk _)) ?_;show J _ _ _ _ ([_,_,_,_,_,_,_,_,_,_]++rows.map (bg 3));refine aP (aH 2 rfl) λ ⟨_,_,q2,_⟩=>?_;obtain⟨gx,rfl⟩:=q2 (NP.2 O);refine am (au ?_);refine aI ?_
     (first|refine ae [] (ad 0 rfl) rfl ?_|refine ae [] (ad 1 rfl) rfl ?_|refine ae [] (ad 2 rfl) rfl ?_|refine ae [] (ad 3 rfl) rfl ?_|refine ae [] (ad 4 rfl) rfl ?_|refine ae [] (ad 5 rfl) rfl ?_|refine ae [] (ad 6 rfl) rfl ?_|refine ae [] (ad 7 rfl) rfl ?_)
     refine jb ?_
     refine cN (σ:=Nat×LN_×OA_×Nat×LI_) (λ s=>[(94,af s.1),(93,af fr.length),(92,ax gx 0 fr.length cx),(19,af k),(18,.func (.func 132) #[] #[ap M 0,ap L 0]),(17,ap M 0),(16,ap L 0),(11,ax go 0 (n+1) (n+1)),(10,ax g 0 (n+1) (n+1)),(8,.slice A1 (2*N.arcs.length) I),(3,ap p 0),(2,af least)])
      (λ s=>[blk M 23 [.slice s.2.2.1 s.2.1.length s.2.2.2.1],blk L 23 [ax gx 0 fr.length cx],.own (ax gx 0 fr.length cx) 3 1 fr.length (aj (fr.map λ (i:Nat)=>(i:Int))),.own (.slice s.2.2.1 s.2.1.length s.2.2.2.1) 3 1 s.2.1.length (aj (s.2.1.map λ (i:Nat)=>(i:Int))),
       .own (ax go 0 (n+1) (n+1)) 3 1 (n+1) (aj s.2.2.2.2),.own (ax g 0 (n+1) (n+1)) 23 1 (n+1) (rows.map cT),.own (.slice A1 (2*N.arcs.length) I) 2 1 (2*N.arcs.length) (aj rm),blk p 33 (bY N A c),.seg b o (arcs N.arcs),.seg bf of (aj f)]++rows.map (bg 3))
      (λ s=>s.1<=fr.length/\LV N rm least k fr s.1 0 s.2.1 s.2.2.2.2/\2*s.2.2.2.2.count (-1)+2*s.2.1.length=2*lv.count (-1)) (λ s=>fr.length-s.1)
      (0,[],An,cn,lv) a8 (aw.re [0,1,2,3,4,5,6,7,8,9] rfl ab) ⟨Nk _,hI.turn O,rfl⟩ ?_
     rintro⟨i,a,Ay,cy,lw⟩ ⟨p2,E,z⟩;simp only at p2 E z ⊢;have hx:=E.cnt;rw[hn,Nz] at hx;have hb:=E.len;rw[hn,Nz] at hb;refine ao ?_;refine am (ak rfl (λ hlt=>ag ?_) (λ H=>aO ?_))
     ·have hlt:i<fr.length:=by omega
      obtain⟨v,Y⟩:∃ v,fr[i]?=some v:=⟨fr[i],an hlt⟩;have k0:(fr.map λ (i:Nat)=>(i:Int))[i]?=some (v:Int):=by rw[Ni,Y];rfl
      have p8:=(E.old v).2 (M9 Y)
      have K:v<rows.length:=by
       refine Nat.lt_of_not_le λ h=>?_;rw[Ci aa] at p8;omega
      obtain⟨row,d⟩:∃ row,rows[v]?=some row:=⟨rows[v],an K⟩;have q:=s3 v row d;have P:=oL N (2*N.arcs.length) v;rw[<- q] at P;refine am (au ?_);refine vf ?_;refine aG (aA (v:=af (v:Int)) 2 rfl rfl rfl (ep k0)) ?_;refine ew ?_;refine io ?_;refine aG (aA (v:=.slice row.A row.l.length row.c) 5 rfl rfl rfl (show (rows.map cT)[v]?=some (cT row) by rw[Ni,d];rfl)) ?_;refine jb ?_
      refine cN (σ:=Nat×LN_×OA_×Nat×LI_) (λ s=>[(103,af s.1),(102,af row.l.length),(101,.slice row.A row.l.length row.c),(94,af i),(93,af fr.length),(92,ax gx 0 fr.length cx),(19,af k),(18,.func (.func 132) #[] #[ap M 0,ap L 0]),(17,ap M 0),(16,ap L 0),(11,ax go 0 (n+1) (n+1)),(10,ax g 0 (n+1) (n+1)),(8,.slice A1 (2*N.arcs.length) I),(3,ap p 0),(2,af least)])
       (λ s=>[blk M 23 [.slice s.2.2.1 s.2.1.length s.2.2.2.1],blk L 23 [ax gx 0 fr.length cx],.own (ax gx 0 fr.length cx) 3 1 fr.length (aj (fr.map λ (i:Nat)=>(i:Int))),.own (.slice s.2.2.1 s.2.1.length s.2.2.2.1) 3 1 s.2.1.length (aj (s.2.1.map λ (i:Nat)=>(i:Int))),
        .own (ax go 0 (n+1) (n+1)) 3 1 (n+1) (aj s.2.2.2.2),.own (ax g 0 (n+1) (n+1)) 23 1 (n+1) (rows.map cT),.own (.slice A1 (2*N.arcs.length) I) 2 1 (2*N.arcs.length) (aj rm),blk p 33 (bY N A c),.seg b o (arcs N.arcs),.seg bf of (aj f)]++rows.map (bg 3))
       (λ s=>s.1<=row.l.length/\LV N rm least k fr i s.1 s.2.1 s.2.2.2.2/\2*s.2.2.2.2.count (-1)+2*s.2.1.length=2*lv.count (-1)) (λ s=>row.l.length-s.1)
       (0,a,Ay,cy,lw) a8 aw.refl ⟨Nk _,E,z⟩ ?_
      clear hx hb E z
      rintro⟨j,a,Ay,cy,lw⟩ ⟨k4,E,z⟩;simp only at k4 E z ⊢;have hx:=E.cnt;rw[hn,Nz] at hx;have hb:=E.len;rw[hn,Nz] at hb;refine ao ?_;refine am (ak rfl (λ Q=>ag ?_) (λ H=>aO ?_))
      ·have Q:j<row.l.length:=by omega
       obtain⟨y,hy⟩:∃ y,row.l[j]?=some y:=⟨row.l[j],an Q⟩;have R:=M9 hy;rw[q] at R;obtain⟨r,hr,p4,rfl⟩:=xi.1 R;have hin:=jG Z hr;obtain⟨te,hS,k3⟩:=j1 Z hr;obtain⟨t,ht⟩:∃ t,gQ N r=t:=⟨_,rfl⟩;rw[ht] at te hS k3;have hL:eL N r=v:=by unfold eL;omega
       obtain⟨x,hB⟩:∃ x,rm[r]?=some x:=⟨rm[r]'aa,an aa⟩;have hxd:rm.getD r 0=x:=by rw[Nc,hB];rfl
       have S:t<lw.length:=aa;obtain⟨gr,rfl⟩:=hG aa
       have hz:aj row.l≠[]:=by
        intro h0;have:row.l.length=0:=by rw[<- bU,h0];rfl
        omega
       have q1:=(hj v row d).2 hz;have b2:∃ u,fr[i]?=some u/\(tr N (2*N.arcs.length) u)[j]?=some (r:Int):=⟨v,Y,q▸hy⟩;have C:IntKind.i64.wrap ((j:Int)+1)=((j+1:Nat):Int):=cv aa;refine am (au ?_);refine aI ?_;refine aG (tC (b:=gv v) (off:=0) rfl (by rw[q1];rfl) rfl rfl rfl Q) ?_
       refine ae [] (dW (b:=gv v) (off:=0) (i:=j) (cs:=aj row.l) (v:=af (r:Int)) (c:=bg 3 row) (v+10) rfl rfl (show (rows.map (bg 3))[v]?=_ by rw[List.getElem?_map,d];rfl)
        (bi (e:=3) (sz:=1) (n:=row.l.length) (cap:=row.c) (λ _=>q1)) (ep hy)) rfl ?_
       refine fR ?_;refine bh (v:=cd N A c) 7 ?_;refine az ?_;refine cH (jw N A c b o hA hd r hr) rfl ⟨bx 8 rfl,be⟩ ?_;refine aN ?_;refine bB 25 (v':=af (t:Int)) rfl (M8 (Value.int .i64) te)<|aI ?_;refine io ?_;refine aG (aA 6 rfl rfl rfl (b7 hB)) ?_;refine az ?_;have r2:∀ E2:Env,True:=λ _=>trivial;have U:rm.getD r 0<least\/dF lw (gQ N r)≠-1->LV N rm least k fr i (j+1) a lw:=λ h=>E.pass b2 h;by_cases H:least<=x
       ·refine d7 119 rfl H<|bX [6] ?_;refine ae [6] (bG rfl aa) rfl<|ae [6] (aA 4 rfl rfl rfl (bq (qk S))) rfl<|cX [6] ?_;refine ak rfl (λ V=>?_) (λ hg=>ag ?_)
        ·have hc:=E.put (r:=r) ⟨v,Y,hL,q▸hy⟩ hr ⟨aa,aa⟩ aa (by rw[ht];exact V);have hcs:=jB lw t (k:Int) (by rw[qk S,V]) aa;rw[ht] at hc;refine aI ?_;refine io ?_;refine aY 4 rfl rfl rfl rfl (fF rfl S) [] rfl<|ah<|aI ?_;refine bh (v:=.slice Ay a.length cy) 0 ?_;refine az ?_;refine dp λ g4=>?_;refine bp (n:=a.length) (m:=1) (off:=0) (news:=aj [(t:Int)]) 4 0 rfl rfl rfl rfl rfl rfl ab rfl rfl (aQ g4 _ _ (0,0)) aE rfl rfl aa aa (λ _ _=>rfl) λ A4 c4=>?_;rw[show a.length+1=(a++[t]).length by simp,show aj (a.map λ (i:Nat)=>(i:Int))++aj [(t:Int)]=aj ((a++[t]).map λ (i:Nat)=>(i:Int)) by simp[aj]];refine dz 1 ?_;refine dw ?_;show ∃ s',_/\aw _ ([_,_,_,_,_,_,_,_,_,_,_]++rows.map (bg 3)) _/\_;exact⟨(j+1,a++[t],A4,c4,lw.set t (k:Int)),⟨M8 some (M8 (Value.int .i64) C),rfl,rfl,rfl,rfl,rfl,rfl,rfl,rfl,rfl,rfl,rfl,rfl,rfl,rfl,be⟩,aw.re [1,2,3,4,5,6,7,8,9,10] rfl ab,⟨by simp only;omega,hc,by simp only[Ng,NF];omega⟩,by simp only;omega⟩
        ·refine ao ?_;exact⟨(j+1,a,Ay,cy,lw),⟨M8 some (M8 (Value.int .i64) C),rfl,rfl,rfl,rfl,rfl,rfl,rfl,rfl,rfl,rfl,rfl,rfl,rfl,rfl,be⟩,aw.refl,⟨by simp only;omega,U (.inr (by rw[ht];exact hg)),z⟩,by simp only;omega⟩
       ·refine dD 119 rfl H<|cX [6] ?_;refine bu rfl (ag ?_);refine ao ?_;exact⟨(j+1,a,Ay,cy,lw),⟨M8 some (M8 (Value.int .i64) C),rfl,rfl,rfl,rfl,rfl,rfl,rfl,rfl,rfl,rfl,rfl,rfl,rfl,rfl,be⟩,aw.refl,⟨by simp only;omega,U (.inl aa),z⟩,by simp only;omega⟩
      ·have l2:=E.row (λ u hu=>by
        rw[Y] at hu;simp only[Na] at hu;rw[<- hu,<- q];omega)
       refine ao ?_;exact⟨(i+1,a,Ay,cy,lw),⟨M8 some (M8 (Value.int .i64) (cv aa)),rfl,rfl,rfl,rfl,rfl,rfl,rfl,rfl,rfl,rfl,rfl,be⟩,aw.refl,⟨by simp only;omega,l2,z⟩,by simp only;omega⟩
     ·have hH:=E.final aa;refine ao ?_
      exact⟨⟨k+1,a,Ay,cy,fr.map λ (i:Nat)=>(i:Int),aJ gx 0,cx,lw⟩,⟨M8 some (M8 (Value.int .i64) (cv aa)),rfl,rfl,rfl,rfl,rfl,rfl,rfl,rfl,be⟩,by
       simp only[Nj];exact aw.re [0,1,3,2,4,5,6,7,8,9] rfl ab,hH,by simp only;have:=NP.2 O;omega⟩
    ·have r1:fr=[]:=Nw.1 aa;subst r1;refine ao ?_;refine aL [4] ⟨_,rfl,.inl ⟨hW,aa,lv,go,?_,rfl,rfl⟩⟩;rw[<- hs];exact hI.lev Z
def KW(N:aR)(f:LI_)(least:Int)(v:Value)(H':Heap):Prop:=
 (aD N f/\1<=least/\∃ (lv:LI_) (A':OA_) (c':Nat),fu N (a9 (N.arcs.zip f)) least lv/\v=.tuple #[.slice A' (dj N (a9 (N.arcs.zip f)) least lv (2*N.arcs.length)).length c',.int .i64 0]/\
  H'=[.own (.slice A' (dj N (a9 (N.arcs.zip f)) least lv (2*N.arcs.length)).length c') 3 1 (dj N (a9 (N.arcs.zip f)) least lv (2*N.arcs.length)).length (aj ((dj N (a9 (N.arcs.zip f)) least lv (2*N.arcs.length)).map λ (i:Nat)=>(i:Int)))])\/
 (¬ aD N f/\v=.tuple #[.slice none 0 0,.int .i64 (eQ N f)]/\H'=[])\/(aD N f/\least<1/\v=.tuple #[.slice none 0 0,.int .i64 3]/\H'=[])
def Mh(N:aR)(f:LI_)(least:Int)(v:Value)(H':Heap):Prop:=
 (aD N f/\1<=least/\∃ (lv:LI_),fu N (a9 (N.arcs.zip f)) least lv/\v=td (dF lv N.snk.toNat,0)/\H'=[])\/
 (¬ aD N f/\v=td (0,eQ N f)/\H'=[])\/(aD N f/\least<1/\v=td (0,3)/\H'=[])
theorem yX{N:aR}{rm:LI_}{least:Int}{lv:LI_}(k:Nat):dj N rm least lv (k+1)=dj N rm least lv k++(if least<=rm.getD k 0/\dF lv (eL N k)≠-1/\dF lv (gQ N k)=dF lv (eL N k)+1 then [k] else []):=by
 unfold dj;rw[OY,Pr]
 congr 1
 by_cases h:least<=rm.getD k 0/\dF lv (eL N k)≠-1/\dF lv (gQ N k)=dF lv (eL N k)+1
 ·rw[if_pos h,OJ,if_pos (OU h)];rfl
 ·rw[if_neg h,OJ,if_neg (by simpa using h)];rfl
theorem lB(N:aR)(rm:LI_)(least:Int)(lv:LI_)(k:Nat):(dj N rm least lv k).length<=k:=by
 unfold dj;exact Ot (OA _ _) ai
theorem tn(N:aR)(hN:N.Fits)(hR:N.Right)(A:OA_)(c b o:Nat)(hA:N.arcs≠[]->A=some ⟨b,o,none⟩)(f:LI_)(F:OA_)(cf bf of:Nat)(hF:f≠[]->F=some ⟨bf,of,none⟩)(hf:∀ x∈f,b9 x)(hfl:f.length*8<=140737488351232)(least:Int):
 Fn 74 [cd N A c,.slice F f.length cf,.int .i64 least] [] [.seg b o (arcs N.arcs),.seg bf of (aj f)] (Mh N f least):=by
 have e:=hR.nodes;have i:=hR.snk;obtain⟨n,hn⟩:∃ n:Nat,N.nodes=n:=⟨N.nodes.toNat,aa⟩;refine aT Tryz.func74 λ w0=>?_;refine bA ?_;refine dh (cs:=bY N A c) λ p=>?_;refine G7 ?_;rintro v H' (⟨a,hle,lv,g,d,rfl,rfl⟩|⟨a,rfl,rfl⟩|⟨a,hle,rfl,rfl⟩)
 case inr.inl=>
  refine fO ?_;refine ak rfl (λ h=>?_) (λ h=>absurd (de.1 (Nn.1 h)) a);refine ao ?_;refine aL [] ⟨_,rfl,.inr (.inl ⟨a,rfl,rfl⟩)⟩
 case inr.inr=>
  refine fO ?_;refine ak rfl (λ h=>?_) (λ h=>absurd h ab);refine ao ?_;refine aL [] ⟨_,rfl,.inr (.inr ⟨a,hle,rfl,rfl⟩)⟩
 refine fO ?_;refine ak rfl (λ h=>absurd rfl h) (λ _=>ag ?_);have j:=d.len;refine aI ?_
 (first|refine ae [] (ad 0 rfl) rfl ?_|refine ae [] (ad 1 rfl) rfl ?_|refine ae [] (ad 2 rfl) rfl ?_|refine ae [] (ad 3 rfl) rfl ?_|refine ae [] (ad 4 rfl) rfl ?_|refine ae [] (ad 5 rfl) rfl ?_|refine ae [] (ad 6 rfl) rfl ?_|refine ae [] (ad 7 rfl) rfl ?_)
 refine aB 22 (v':=af ((N.snk.toNat:Nat):Int)) rfl (M8 (Value.int .i64) aa)<|io ?_;refine aG (aA 0 rfl rfl rfl (bq (qk aa))) ?_;refine aN ?_;refine aL [] ⟨_,rfl,.inl ⟨a,hle,lv,d,rfl,rfl⟩⟩
theorem ye(N:aR)(hN:N.Fits)(hR:N.Right)(A:OA_)(c b o:Nat)(hA:N.arcs≠[]->A=some ⟨b,o,none⟩)(f:LI_)(F:OA_)(cf bf of:Nat)(hF:f≠[]->F=some ⟨bf,of,none⟩)(hf:∀ x∈f,b9 x)(hfl:f.length*8<=140737488351232)(least:Int):
 Fn 224 [cd N A c,.slice F f.length cf,.int .i64 least] [] [.seg b o (arcs N.arcs),.seg bf of (aj f)] (KW N f least):=by
 have P:=hR.nodes;have Q:=hR.snk;have E:=hR.len;obtain⟨n,hn⟩:∃ n:Nat,N.nodes=n:=⟨N.nodes.toNat,aa⟩;refine aT Tryz.func224 λ w0=>?_;refine bA ?_;refine dh (cs:=bY N A c) λ p=>?_;refine G7 ?_;rintro v H' (⟨j,hle,lv,g,e,rfl,rfl⟩|⟨j,rfl,rfl⟩|⟨j,hle,rfl,rfl⟩)
 case inr.inl=>
  refine fO ?_;refine ak rfl (λ h=>?_) (λ h=>absurd (de.1 (Nn.1 h)) j);refine ao ?_;refine aL [] ⟨_,rfl,.inr (.inl ⟨j,rfl,rfl⟩)⟩
 case inr.inr=>
  refine fO ?_;refine ak rfl (λ h=>?_) (λ h=>absurd h ab);refine ao ?_;refine aL [] ⟨_,rfl,.inr (.inr ⟨j,hle,rfl,rfl⟩)⟩
 refine fO ?_;refine ak rfl (λ h=>absurd rfl h) (λ _=>ag ?_);have R:=e.len;refine Id ?_;rintro v H' (⟨_,A1,B,rfl,rfl⟩|⟨h,_,_⟩)
 case inr=>exact absurd j h
 refine ef ?_;unfold KW;obtain⟨rm,l⟩:∃ rm,rm=a9 (N.arcs.zip f):=⟨_,rfl⟩;have S:rm.length=2*N.arcs.length:=by rw[l,ee,O0,j.len,Pm]
 rw[<- l] at e ⊢;refine i6 ?_;refine b6 3 1<|au<|?_
 refine bS (σ:=Nat×OA_×Nat) (λ s=>[(35,af s.1),(34,af ((2*N.arcs.length:Nat):Int)),(33,.slice A1 (2*N.arcs.length) B),(12,.slice s.2.1 (dj N rm least lv s.1).length s.2.2),(8,ax g 0 (n+1) (n+1)),(3,ap p 0),(2,af least)])
  (λ s=>[.own (.slice s.2.1 (dj N rm least lv s.1).length s.2.2) 3 1 (dj N rm least lv s.1).length (aj ((dj N rm least lv s.1).map λ (i:Nat)=>(i:Int))),.own (.slice A1 (2*N.arcs.length) B) 2 1 (2*N.arcs.length) (aj rm),.own (ax g 0 (n+1) (n+1)) 3 1 (n+1) (aj lv),blk p 33 (bY N A c),.seg b o (arcs N.arcs)])
  (λ s=>s.1<=2*N.arcs.length) (λ s=>2*N.arcs.length-s.1) (0,none,0) [0,1,2,3,4] a8 ab rfl (Nk _) ?_
 rintro⟨k,C,c2⟩ U;simp only at U ⊢;have V:=lB N rm least lv k;refine aP (aH 1 rfl) λ ⟨_,_,H,_⟩=>ao ?_;refine am (ak rfl (λ hlt=>ag ?_) (λ X=>aO ?_))
 ·have hlt:k<2*N.arcs.length:=by omega
  obtain⟨g1,rfl⟩:=H aa;obtain⟨M,q,r⟩:=j1 hR hlt;obtain⟨O,w,y⟩:=nA hR hlt;obtain⟨x,z⟩:∃ x,rm[k]?=some x:=⟨rm[k]'aa,an aa⟩;have Y:rm.getD k 0=x:=by rw[Nc,z];rfl
  have a:=yX (N:=N) (rm:=rm) (least:=least) (lv:=lv) k;obtain⟨t,Z⟩:∃ t,gQ N k=t:=⟨_,rfl⟩;obtain⟨u,hu⟩:∃ u,eL N k=u:=⟨_,rfl⟩;rw[Z] at M q r a;rw[hu] at O w y a;have hx:=e.rng u;have d:IntKind.i64.wrap ((k:Int)+1)=((k+1:Nat):Int):=cv aa;refine am (au ?_);refine vf ?_;refine aG (aA 1 rfl rfl rfl (b7 z)) ?_;refine fR ?_;refine sy ?_;refine cH (jw N A c b o hA E k hlt) rfl ⟨bx 4 rfl,be⟩ ?_;refine aN ?_;refine bB 15 (v':=af (u:Int)) rfl (M8 (Value.int .i64) O)<|bB 16 (v':=af (t:Int)) rfl (M8 (Value.int .i64) M)<|?_
  refine gj [(67,.bool (dU (least<=rm.getD k 0/\dF lv u≠-1/\dF lv t=dF lv u+1))),(35,af k),(34,af ((2*N.arcs.length:Nat):Int)),(33,ax g1 0 (2*N.arcs.length) B),(13,af k),(12,.slice C (dj N rm least lv k).length c2),(8,ax g 0 (n+1) (n+1)),(3,ap p 0),(2,af least)]
   [.own (.slice C (dj N rm least lv k).length c2) 3 1 (dj N rm least lv k).length (aj ((dj N rm least lv k).map λ (i:Nat)=>(i:Int))),.own (ax g1 0 (2*N.arcs.length) B) 2 1 (2*N.arcs.length) (aj rm),.own (ax g 0 (n+1) (n+1)) 3 1 (n+1) (aj lv),blk p 33 (bY N A c),.seg b o (arcs N.arcs)] ?_ ?_
  ·refine cA ?_;refine bK 22 (dS [0,1,2,3,4,5,6,7,8,9,10,11,12,13,14,15,16,17,18,19,20,21]) [2] aW ab rfl<|a6 ?_;by_cases I:least<=x
   ·refine dG 49 (v':=.bool true) rfl (M8 Value.bool (aV I))<|mu [3] rfl<|aF [3] rfl (bG rfl aa) rfl<|aF [3] rfl (aA 0 rfl rfl rfl (bq (qk aa))) rfl<|mu [3] rfl<|?_;by_cases D:dF lv u=-1
    ·refine dG 56 (v':=.bool false) rfl (M8 Value.bool (aZ (λ h=>h D)))<|ib [10] rfl<|ah ⟨[0,1,2,3,4],⟨M8 some (M8 Value.bool (aZ (λ h=>h.2.1 D)).symm),rfl,rfl,rfl,rfl,rfl,rfl,rfl,rfl,be⟩,ab,rfl⟩
    ·refine dG 56 (v':=.bool true) rfl (M8 Value.bool (aV D))<|IQ ?_;refine IQ ?_;refine mu [10] rfl<|ib [10] rfl<|?_;have hw:IntKind.i64.wrap (dF lv u+1)=dF lv u+1:=cv aa;refine ah ⟨[0,1,2,3,4],⟨M8 some (M8 Value.bool (eB ⟨λ h=>⟨aa,D,by rw[hw] at h;exact h⟩,λ h=>by rw[hw];exact h.2.2⟩)),rfl,rfl,rfl,rfl,rfl,rfl,rfl,rfl,be⟩,ab,rfl⟩
   ·refine dG 49 (v':=.bool false) rfl (M8 Value.bool (aZ I))<|ib [3,10] rfl<|ah ⟨[0,1,2,3,4],⟨M8 some (M8 Value.bool (aZ (λ h=>I aa)).symm),rfl,rfl,rfl,rfl,rfl,rfl,rfl,rfl,be⟩,ab,rfl⟩
  ·refine ak rfl (λ K=>?_) (λ L=>ag ?_)
   ·rw[if_pos K] at a;refine aC (fS [] rfl ?_);refine dp λ g4=>?_;refine bp (n:=(dj N rm least lv k).length) (m:=1) (off:=0) (news:=aj [(k:Int)]) 1 0 rfl rfl rfl rfl rfl rfl ab rfl rfl (aQ g4 _ _ (0,0)) aE rfl rfl aa aa (λ _ _=>rfl) λ A4 c4=>?_;rw[show (dj N rm least lv k).length+1=(dj N rm least lv (k+1)).length by rw[a];simp,show aj ((dj N rm least lv k).map λ (i:Nat)=>(i:Int))++aj [(k:Int)]=aj ((dj N rm least lv (k+1)).map λ (i:Nat)=>(i:Int)) by rw[a];simp[aj]];refine cS ?_;exact⟨(k+1,A4,c4),[1,2,3,4,5],⟨M8 some (M8 (Value.int .i64) d),rfl,rfl,rfl,rfl,rfl,rfl,be⟩,ab,rfl,by simp only;omega,by simp only;omega⟩
   ·rw[if_neg L,NL] at a;refine ao ?_;refine⟨(k+1,C,c2),[0,1,2,3,4],⟨M8 some (M8 (Value.int .i64) d),rfl,rfl,by simp only[a];rfl,rfl,rfl,rfl,be⟩,ab,by simp only[a];rfl,by simp only;omega,by simp only;omega⟩
 ·obtain rfl:k=2*N.arcs.length:=by omega
  refine ao ?_;exact aL [0] ⟨_,rfl,.inl ⟨j,hle,lv,C,c2,e,rfl,rfl⟩⟩
def xr(N:aR)(A:OA_)(c:Nat)(Ar:OA_)(cr:Nat)(least:Int)(gl n:Nat)(Aw:OA_)(nw cw:Nat):LV_:=
 [.int .i64 N.nodes,.int .i64 N.src,.int .i64 N.snk,.slice A N.arcs.length c,.slice Ar (2*N.arcs.length) cr,.int .i64 least,.slice (some ⟨gl,0,none⟩) (n+1) (n+1),.slice Aw nw cw]
def cJ(W:LN_):LV_:=aj (W.map λ (i:Nat)=>(i:Int))
theorem eE{W:LN_}{k r:Nat}(h:W[k]?=some r):(cJ W)[k]?=some (.int .i64 (r:Int)):=ep (by rw[Ni,h];rfl)
theorem fV(W:LN_):(cJ W).length=W.length:=by unfold cJ;rw[bU,Nj]
theorem l6{W:LN_}(h:W≠[]):cJ W≠[]:=λ a=>h (Nw.1 (by have:=fV W;rw[a] at this;exact this.symm))
theorem oz(W:LN_)(r:Nat):cJ W++aj [(r:Int)]=cJ (W++[r]):=by simp[cJ,aj]
theorem z9(N:aR)(g:N.Right)(A:OA_)(c b o:Nat)(p:N.arcs≠[]->A=some ⟨b,o,none⟩)(m:Nat)(Ar:OA_)(cr:Nat)(least:Int)(gl n:Nat)(W:LN_)(q:∀ r∈W,r<2*N.arcs.length)(s:W.length<=1000)(Aw:OA_)(cw f:Nat)(j:W≠[]->Aw=some ⟨f,0,none⟩):
 Fn 228 [.pointer (some ⟨m,0,none⟩)] [] [.seg m 0 (xr N A c Ar cr least gl n Aw W.length cw),.seg b o (arcs N.arcs),.seg f 0 (cJ W)] λ v H'=>v=.int .i64 (dQ N W:Nat)/\H'=[]:=by
 have t:=g.src;refine aT Tryz.func228 λ w0=>?_;refine cW ?_;refine aG (a7 (i:=7) (v:=.slice Aw W.length cw) 0 rfl rfl rfl) ?_;refine aN ?_;refine ak rfl (λ u=>?_) (λ u=>ag ?_)
 ·obtain rfl:W=[]:=Nw.1 aa;refine aI ?_;refine aG (a7 (i:=1) (v:=af N.src) 0 rfl rfl rfl) ?_;refine aN ?_;refine aL [] ⟨_,rfl,M8 (Value.int .i64) ?_,rfl⟩;show N.src=((N.src.toNat:Nat):Int);omega
 ·have d:0<W.length:=by omega
  obtain⟨r,k⟩:∃ r,W[W.length-1]?=some r:=⟨W[W.length-1]'aa,an aa⟩;obtain rfl:=j (by rintro rfl;simp at d);have e:=q r (M9 k);have a:W.getLast?=some r:=by rw[List.getLast?_eq_getElem?];exact k
  have l:=j1 g e;refine cA ?_;refine bK 22 (dS [0,1,2,3,4,5,6,7,8,9,10,11,12,13,14,15]++[(16,false)]++dS [17,18,19,20,21]) [0,1,2] aW ab rfl<|a6 ?_;refine bc rfl (a7 (i:=0) (v:=cd N A c) 0 rfl rfl rfl) ?_;refine a6 ?_;refine bc rfl (a7 (i:=7) (v:=ax f 0 W.length cw) 0 rfl rfl rfl) ?_;refine a6 ?_;refine bc rfl (a7 (i:=7) (v:=ax f 0 W.length cw) 0 rfl rfl rfl) ?_;refine a6 ?_;refine dG 30 (v':=af ((W.length-1:Nat):Int)) rfl (M8 (Value.int .i64) ((cv aa).trans aa))<|nJ ?_;refine bc rfl (fA (i:=W.length-1) 2 rfl rfl rfl (NO _).symm (eE k)) ?_;refine cz ?_;refine dB (jw N A c b o p g.len r e) rfl ⟨bx 1 rfl,be⟩ ?_;refine jH ?_;refine⟨rfl,bZ [0,1,2] ?_⟩;refine ib [] rfl<|dw ?_;refine aL [] ⟨_,rfl,M8 (Value.int .i64) ?_,rfl⟩;rw[l.1];unfold dQ;rw[a]
structure tv (rows:List ff) (gv:Nat->Nat) (pos:LN_) (vals:LV_):Prop where
 len:vals.length=rows.length
 at_:∀ (v:Nat) (row:ff) (q:Nat),rows[v]?=some row->pos[v]?=some q->∃ A' c',vals[v]?=some (.slice A' (row.l.length-q) c')/\row.l.length-q<=c'/\(q<row.l.length->A'=some ⟨gv v,q,none⟩)
theorem tv.bump{rows:List ff}{d:Nat->Nat}{pos:LN_}{vals:LV_}(h:tv rows d pos vals){v q b:Nat}{row:ff}(g:rows[v]?=some row)(hp:pos[v]?=some q)(k:q<row.l.length)(i:row.l.length-q<=b):
 tv rows d (pos.set v (q+1)) (vals.set v (.slice (fT (some ⟨d v,q,none⟩) b 1 1) (row.l.length-q-1) (b-1))):=by
 have f:v<vals.length:=by rw[h.len];exact (Nb.1 g).1
 refine⟨by rw[NQ];exact h.len,λ u ro p hu a=>?_⟩;by_cases e:v=u
 ·subst e;rw[g] at hu;simp only[Na] at hu;subst hu;rw[No (Nb.1 hp).1] at a;simp only[Na] at a;subst a;refine⟨_,b-1,by rw[No f,Nat.sub_sub],aa,λ j=>?_⟩;have:=e8 (A:=aJ (d v) q) (c:=b) (l:=1) (n:=row.l.length-q) (sz:=1) aE i aa;rw[this]
 ·rw[Nq e] at a ⊢;exact h.at_ u ro p hu a
def dv(L:Nat->LN_)(n:Nat)(pos:LN_):Nat:=((List.range (n+1)).map λ v=>(L v).length-pos.getD v 0).sum
theorem la{f g:Nat->Nat}{v:Nat}:∀ {l:LN_},l.Nodup->v∈l->(∀ u∈l,u≠v->f u=g u)->f v+1=g v->(l.map f).sum+1=(l.map g).sum
 |[],_,h,_,_=>by cases h
 |u::l,c,a,he,d=>by
  obtain⟨b,i⟩:=NG.1 c;refine tU ?_
  rcases Nl.1 a with rfl|a
  ·have:(l.map f)=l.map g:=Oq λ w hw=>he w (by simp[hw]) (λ e=>b (e▸hw));rw[this];omega
  ·have:=la i a (λ w hw=>he w (by simp[hw])) d;have:=he u ai (λ e=>b (e▸a));omega
theorem jg{L:Nat->LN_}{n:Nat}{pos:LN_}{v q:Nat}(hp:pos[v]?=some q)(b:v<=n)(c:q<(L v).length):dv L n (pos.set v (q+1))+1=dv L n pos:=by
 have a:=(Nb.1 hp).1;unfold dv;refine la (v:=v) OS (N4.2 aa) (λ u _ hu=>?_) ?_
 ·simp only[Nc];rw[Nq hu.symm]
 ·simp only[Nc];rw[No a,hp];simp only[NK];omega
structure NS where
 pos:LN_
 W:LN_
 vals:LV_
 Aw:OA_
 cw:Nat
def MC(N:aR)(L:Nat->LN_)(least:Int)(rm:LI_)(rows:List ff)(gv:Nat->Nat)(A:OA_)(c:Nat)(Ar:OA_)(cr pw gl n:Nat)(pos W:LN_)(v:Value)(H':Heap):Prop:=
 ∃ (bb:Bool) (s:NS),v=.bool bb/\Nx N L least rm pos W bb s.pos s.W/\PI N L least rm s.pos s.W/\tv rows gv s.pos s.vals/\
   H'=[blk pw 303 (xr N A c Ar cr least gl n s.Aw s.W.length s.cw),.own (.slice (some ⟨gl,0,none⟩) (n+1) (n+1)) 23 1 (n+1) s.vals,.own (.slice s.Aw s.W.length s.cw) 3 1 s.W.length (cJ s.W)]++rows.map (bg 3)
theorem Js(N:aR)(hR:N.Right)(A:OA_)(c b o:Nat)(hA:N.arcs≠[]->A=some ⟨b,o,none⟩)(pw:Nat)(Ar:OA_)(cr gr:Nat)(least:Int)(gl n:Nat)(hn:N.nodes=n)(L:Nat->LN_)(lv:Nat->Int)(Y:gh N L lv)(hc:∀ v,(L v).length<=4000)
 (rm:LI_) (s3:rm.length=2*N.arcs.length) (k2:rm≠[]->Ar=some ⟨gr,0,none⟩) (rows:List ff) (hN:rows.length=n+1) (hL:∀ (v:Nat) (row:ff),rows[v]?=some row->row.l=(L v).map λ (i:Nat)=>(i:Int))
 (I:Nat->Nat) (hg:∀ (v:Nat) (row:ff),rows[v]?=some row->aj row.l≠[]->row.A=some ⟨I v,0,none⟩) (s:NS) (K:PI N L least rm s.pos s.W) (hV:tv rows I s.pos s.vals):
 Fn 226 [.pointer (some ⟨pw,0,none⟩)] (ay ([blk pw 303 (xr N A c Ar cr least gl n s.Aw s.W.length s.cw),.own (.slice (some ⟨gl,0,none⟩) (n+1) (n+1)) 23 1 (n+1) s.vals,.own (.slice s.Aw s.W.length s.cw) 3 1 s.W.length (cJ s.W)]++rows.map (bg 3)))
  ([.seg b o (arcs N.arcs),.seg gr 0 (aj rm)]++([blk pw 303 (xr N A c Ar cr least gl n s.Aw s.W.length s.cw),.own (.slice (some ⟨gl,0,none⟩) (n+1) (n+1)) 23 1 (n+1) s.vals,.own (.slice s.Aw s.W.length s.cw) 3 1 s.W.length (cJ s.W)]++rows.map (bg 3)))
  (MC N L least rm rows I A c Ar cr pw gl n s.pos s.W):=by
 have q2:=hR.nodes;have p2:=hR.src;have k0:=hR.snk;have p8:=hR.diff;have k4:=hR.len
 have g:∀ (pos W:LN_),PI N L least rm pos W->W.length<=n/\dQ N W<=n/\(∀ r∈W,r<2*N.arcs.length):=by
  intro pos W K;have h1:=(qP Y K.on K.mem).1;have h2:=Y.hi (dQ N W);have h3:=Y.hi N.src.toNat;have hs:∀ r∈W,r<2*N.arcs.length:=λ r Z=>(Y.ok _ _ (K.mem r Z)).1;refine⟨aa,?_,hs⟩
  rcases N9 W with rfl|⟨W0,r,rfl⟩
  ·show N.src.toNat<=n;omega
  ·rw[Oa,qY];have:=(j1 hR (hs r ai)).2.2;omega
 generalize hM:ay _=M
 refine aT Tryz.func226 λ w0=>?_;refine rJ ?_;refine ao ?_;refine CK<|cA ?_;refine CD<|cA ?_;refine aP (aH 4 rfl) λ ⟨_,_,y,ha⟩=>?_;obtain⟨hd,y⟩:=bo y ha;obtain⟨m1,m2,m3⟩:=g _ _ K;refine aI ?_;refine cH (z9 N hR A c b o hA pw Ar cr least gl n s.W m3 aa s.Aw s.cw hd (λ h=>y (l6 h))) rfl ⟨en 2 rfl,bx 0 rfl,gy 4 rfl y,be⟩ ?_;refine jb ?_
 clear m1 m2 m3 y ha
 refine cN (σ:=NS) (λ t=>[(3,af (dQ N t.W:Nat)),(0,ap pw 0)])
  (λ t=>[.seg b o (arcs N.arcs),.seg gr 0 (aj rm),blk pw 303 (xr N A c Ar cr least gl n t.Aw t.W.length t.cw),.own (ax gl 0 (n+1) (n+1)) 23 1 (n+1) t.vals,.own (.slice t.Aw t.W.length t.cw) 3 1 t.W.length (cJ t.W)]++rows.map (bg 3))
  (λ t=>PI N L least rm t.pos t.W/\tv rows I t.pos t.vals/\∀ bb p w,Nx N L least rm t.pos t.W bb p w->Nx N L least rm s.pos s.W bb p w)
  (λ t=>(n+2)*dv L n t.pos+(n+1-t.W.length)) s a8 aw.refl ⟨K,hV,λ _ _ _ h=>h⟩ ?_
 rintro⟨pos,W,vals,Aw,cw⟩ ⟨K,hV,hX⟩;simp only at K hV hX ⊢;obtain⟨m1,m2,m3⟩:=g _ _ K;refine aI ?_;refine bh (v:=af N.snk) 2 ?_;refine aN ?_;refine ak rfl (λ e2=>ag ?_) (λ heq=>aO ?_)
 ·have z:dQ N W≠N.snk.toNat:=λ e=>e2 aa;refine am (au ?_);refine gz ?_
  refine cN (σ:=LN_×LV_) (λ t=>[(3,af (dQ N W:Nat)),(0,ap pw 0)])
   (λ t=>[.seg b o (arcs N.arcs),.seg gr 0 (aj rm),blk pw 303 (xr N A c Ar cr least gl n Aw W.length cw),.own (ax gl 0 (n+1) (n+1)) 23 1 (n+1) t.2,.own (.slice Aw W.length cw) 3 1 W.length (cJ W)]++rows.map (bg 3))
   (λ t=>PI N L least rm t.1 W/\tv rows I t.1 t.2/\(∀ bb p w,Nx N L least rm t.1 W bb p w->Nx N L least rm s.pos s.W bb p w)/\dv L n t.1<=dv L n pos)
   (λ t=>dv L n t.1) (pos,vals) a8 aw.refl ⟨K,hV,hX,Np _⟩ ?_
  rintro⟨a,j⟩ ⟨k,hV2,O,D⟩;simp only at k hV2 O D ⊢;obtain⟨v,d⟩:∃ v,dQ N W=v:=⟨_,rfl⟩;rw[d] at m2 z ⊢;obtain⟨row,B⟩:∃ row,rows[v]?=some row:=⟨rows[v]'aa,an aa⟩;obtain⟨q,U⟩:∃ q,a[v]?=some q:=⟨a[v]'(by have:=k.pl;omega),an (by have:=k.pl;omega)⟩;obtain⟨A',c',P,e1,hW⟩:=hV2.at_ v row q B U;have hy:=hL v row B;have hB:row.l.length=(L v).length:=by rw[hy,Nj]
  have b2:=hc v;refine aI ?_;refine bh (v:=ax gl 0 (n+1) (n+1)) 2 ?_;refine az ?_;refine io ?_;refine aG (aA (v:=.slice A' (row.l.length-q) c') 3 rfl rfl rfl P) ?_;refine aN ?_;refine ak rfl (λ q1=>ag ?_) (λ n1=>aO ?_)
  ·have hb:q<row.l.length:=by omega
   obtain rfl:=hW hb;obtain⟨r,Z⟩:∃ r,(L v)[q]?=some r:=⟨(L v)[q]'aa,an aa⟩;have ho:row.l[q]?=some (r:Int):=by rw[hy,Ni,Z];rfl
   have hk:=(Y.ok _ _ (M9 Z)).1;obtain⟨x,V⟩:∃ x,rm[r]?=some x:=⟨rm[r]'aa,an aa⟩;have l2:rm.getD r 0=x:=by rw[Nc,V];rfl
   obtain rfl:=k2 (by intro h0;rw[h0] at V;simp at V)
   have X:aj row.l≠[]:=by
    intro h0;have:row.l.length=0:=by rw[<- bU,h0];rfl
    omega
   have c1:=hg v row B X;refine au<|aI ?_;refine bh (v:=ax gl 0 (n+1) (n+1)) 2 ?_;refine az ?_;refine io ?_;refine aG (aA (v:=ax (I v) q (row.l.length-q) c') 3 rfl rfl rfl P) ?_;refine aG (hU (m:=0) rfl aa) ?_
   refine ae [] (dW (b:=I v) (off:=q) (i:=0) (cs:=(aj row.l).drop q) (v:=af (r:Int)) (c:=bg 3 row) (v+5) rfl rfl (show (rows.map (bg 3))[v]?=_ by rw[List.getElem?_map,B];rfl)
    (by have:=dI (bi (e:=3) (sz:=1) (n:=row.l.length) (cap:=row.c) (λ _=>c1:aj row.l≠[]->row.A=aJ (I v) 0)) q;rw[NO] at this;exact this)
    (by show ((aj row.l).drop q)[0]?=_;rw[Og];exact ep ho)) rfl ?_
   refine iH ?_;refine bK 12 (dS [0,1,2,3,4,5,6,7,8,9,10,11]) [1,2] aW ab rfl<|a6 ?_;refine bc rfl (ad (v:=ax gr 0 (2*N.arcs.length) cr) 1 rfl) ?_;refine a6 ?_;refine bc rfl (bG rfl hk) ?_;refine bc rfl (fA (i:=r) 0 rfl rfl rfl (NO _).symm (b7 V)) ?_;refine a6 ?_;refine bc rfl (ad (v:=af least) 1 rfl) ?_;refine lh ?_;refine ak rfl (λ r1=>?_) (λ l1=>ag ?_)
   ·have C:=k.go Y (by rw[d];exact U) (by rw[d];exact Z) (by omega:least≤rm.getD r 0);obtain⟨w1,w2,w3⟩:=g _ _ C;rw[List.length_append,List.length_singleton] at w1;refine aI ?_;refine bh (v:=.slice Aw W.length cw) 2 ?_;refine az ?_;refine dp fun g4=>?_;refine bp (n:=W.length) (m:=1) (off:=0) (news:=aj [(r:Int)]) 5 0 rfl rfl rfl rfl rfl rfl ab rfl rfl (aQ g4 _ _ (0,0)) aE rfl rfl aa aa (fun _ _=>rfl) fun A4 c4=>?_;rw[show W.length+1=(W++[r]).length by simp,oz];refine az ?_;refine dz 3 ?_;refine ah ?_;show J _ _ _ _ ([_,_,_,_,_,_]++rows.map (bg 3));refine bQ (aw.re [1,2,3,4,5] rfl ab)<|aO<|aP (aH 4 rfl) fun ⟨_,_,hAwx,Q⟩=>?_;obtain⟨gwx,hAwx⟩:=bo hAwx Q;refine aI ?_;refine cH (z9 N hR A c b o hA pw _ cr least gl n (W++[r]) w3 (by rw[List.length_append,List.length_singleton];omega) _ _ gwx (fun h=>hAwx (l6 h))) rfl ⟨en 2 rfl,bx 0 rfl,gy 4 rfl hAwx,trivial⟩ ?_;refine aN ?_
    exact⟨⟨a,W++[r],j,A4,c4⟩,a8,aw.refl,⟨C,hV2,λ bb p w hx=>O _ _ _ (.go (by rw[d];exact z) (by rw[d];exact U) (by rw[d];exact Z) aa hx)⟩,by
     refine z8 ?_;have:(n+2)*dv L n a<=(n+2)*dv L n pos:=O7 _ D;omega⟩
   ·have C:=k.skip Y (by rw[d];exact U) (by rw[d];exact Z) (by omega:rm.getD r 0<least);rw[d] at C;have R:=jg (L:=L) (n:=n) U m2 aa;refine Ir ?_;refine bc rfl (aA (v:=ax (I v) q (row.l.length-q) c') 1 rfl rfl rfl P) ?_;refine GK ?_;exact⟨(a.set v (q+1),j.set v (.slice (fT (aJ (I v) q) c' 1 1) (row.l.length-q-1) (c'-1))),a8,aw.refl,⟨C,hV2.bump B U hb e1,λ bb p w hx=>O _ _ _ (.skip (by rw[d];exact z) (by rw[d];exact U) (by rw[d];exact Z) aa (by rw[d];exact hx)),by simp only;omega⟩,by simp only;omega⟩
  ·have E:(L v).length≤q:=by omega
   refine aI ?_;refine bh (v:=.slice Aw W.length cw) 2 ?_;refine aN ?_;refine bB 5 (v':=af ((W.length:Int)-1)) rfl (M8 (Value.int .i64) (cv aa))<|ao ?_;refine ak rfl (λ hz=>?_) (λ hz=>ag ?_)
   ·obtain rfl:W=[]:=Nw.1 aa;refine ao ?_;refine bQ (aw.re [2,3,4] rfl ab) (bM ⟨_,rfl,false,⟨a,[],j,Aw,cw⟩,rfl,O _ _ _ (.stop aa (p:=q) ?_ ?_),k,hV2,rfl⟩)
    ·rw[show N.src.toNat=v from d];exact U
    ·rw[show N.src.toNat=v from d];exact E
   ·rcases N9 W with rfl|⟨W0,r,rfl⟩
    ·simp at hz
    rw[Oa] at*;obtain⟨qu,H,h4,hF⟩:=k.back_at;have C:=k.back Y (by rw[d];exact z) (by rw[d];exact U) (by rw[d];exact E) H;have hS:=k.drop;obtain⟨y1,y2,y3⟩:=g _ _ hS;have k3:(W0++[r]).length=W0.length+1:=ai;obtain⟨u,hu⟩:∃ u,dQ N W0=u:=⟨_,rfl⟩;rw[hu] at H h4 hF C y2;obtain⟨f,F⟩:∃ row,rows[u]?=some row:=⟨rows[u]'aa,an aa⟩;obtain⟨Au,cu,hf,hH,ht⟩:=hV2.at_ u f qu F H;have hj:f.l.length=(L u).length:=by rw[hL u f F,Nj]
    have S:qu<f.l.length:=by rw[hj];exact (Nb.1 h4).1
    obtain rfl:=ht S;have h6:=hc u;have R:=jg (L:=L) (n:=n) H y2 aa;refine aP (aH 4 rfl) λ ⟨_,h5,_,_⟩=>aI ?_;refine bh (v:=.slice Aw (W0++[r]).length cw) 2 ?_;refine az ?_;refine aB 85 (v':=af (W0.length:Int)) rfl (M8 (Value.int .i64) aa)<|aG (jO (i:=W0.length) rfl rfl rfl rfl rfl aa) ?_;refine lJ ?_;refine ah<|bQ (aw.shrink (m:=W0.length) 4 rfl aa)<|?_;rw[NR,show (cJ (W0++[r])).take W0.length=cJ W0 by rw[<- oz,List.take_append_of_le_length (by rw[fV];omega),Of (by rw[fV];omega)]];refine rJ ?_;refine aP (aH 4 rfl) λ ⟨_,_,hAwx,Q⟩=>?_;obtain⟨gwx,hAwx⟩:=bo hAwx Q;refine FE ?_;refine rJ ?_;refine bB 6 (v':=af (u:Int)) rfl (M8 (Value.int .i64) (by rw[hu]))<|Ir ?_;refine bc rfl (aA (v:=ax (I u) qu (f.l.length-qu) cu) 1 rfl rfl rfl hf) ?_;refine GK ?_;refine rJ ?_;refine aP (aH 4 rfl) λ ⟨_,_,hAwx,Q⟩=>?_;obtain⟨gwx,hAwx⟩:=bo hAwx Q;refine FE ?_
    exact⟨⟨a.set u (qu+1),W0,j.set u (.slice (fT (aJ (I u) qu) cu 1 1) (f.l.length-qu-1) (cu-1)),Aw,cw⟩,a8,aw.refl,⟨C,hV2.bump F H S hH,λ bb p w hx=>O _ _ _ (.back (by rw[d];exact z) (by rw[d];exact U) (by rw[d];exact E) (by rw[hu];exact H) (by rw[hu];exact hx))⟩,by
     simp only;have h1:(n+2)*dv L n a<=(n+2)*dv L n pos:=O7 _ D;have h2:(n+2)*dv L n a=(n+2)*dv L n (a.set u (qu+1))+(n+2):=by rw[<- R,Ow];omega
     omega⟩
 ·refine ao ?_;refine bQ (aw.re [2,3,4] rfl ab) (bM ⟨_,rfl,true,⟨pos,W,vals,Aw,cw⟩,rfl,hX _ _ _ (.hit aa),K,hV,rfl⟩)
end Go.Proofs.YtmcnpaelaieniaaGreatDoor
