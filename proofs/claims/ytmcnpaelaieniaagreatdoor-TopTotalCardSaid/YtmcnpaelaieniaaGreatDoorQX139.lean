import Derived.Test.YtmcnpaelaieniaaGreatDoorQX128
/- A part of the proof. -/
set_option linter.unusedVariables false
set_option linter.unusedSimpArgs false
set_option maxHeartbeats 8000000
namespace Go.Proofs.YtmcnpaelaieniaaGreatDoor
open Go.RowKit
theorem AM(N:aV)(g:N.Fits)(i:N.Right)(A:OA_)(c b o:Nat)(j:N.arcs≠[]->A=some ⟨b,o,none⟩)(f:LI_)(F:OA_)(cf d of:Nat)(k:f≠[]->F=some ⟨d,of,none⟩)(l:∀ x∈f,b7 x)(e:f.length*8<=140737488351232)(a:¬ aD N f):
 Fn 157 [bZ N A c,.slice F f.length cf] [] [.seg b o (arcs N.arcs),.seg d of (aj f)] λ v H'=>v=.tuple #[.slice none 0 0,.int .i64 (eP N f)]/\H'=[]:=by
 refine aT Tryz.func157 λ w0=>?_;refine bu ?_;refine cY (cs:=bU N A c) λ p=>?_;refine ie ?_;refine dG (f9 N g i A c b o j f F cf d of k l e) rfl ⟨bz 1 rfl,bz 2 rfl,an⟩ ?_;rintro v H' ⟨⟨_,h⟩|⟨rfl,_⟩,rfl⟩
 case inl=>exact absurd h a
 refine fD ?_;refine ak rfl (λ _=>?_) (λ h=>absurd (cZ.1 (No.1 h)) a);exact jS
theorem z7(N:aV)(q:N.Fits)(m:N.Right)(A:OA_)(c b o:Nat)(he:N.arcs=[])(F:OA_)(cf i of:Nat)(f:aD N []):
 Fn 157 [bZ N A c,.slice F ([]:LI_).length cf] [] [.seg b o (arcs N.arcs),.seg i of (aj [])] (z9 N []):=by
 have r:=m.nodes;have s:N.arcs.length=0:=by rw[he];rfl
 obtain⟨n,B⟩:∃ n:Nat,N.nodes=n:=⟨N.nodes.toNat,aa⟩;have g:dH (N.arcs.zip []) N.snk=0:=by rw[he];rfl
 refine aT Tryz.func157 λ w0=>?_;refine bu ?_;refine cY (cs:=bU N A c) λ p=>?_;refine ie ?_;refine dG (f9 N q m A c b o (λ h=>absurd he h) [] F cf i of (λ h=>absurd rfl h) (λ _ h=>absurd h Nt) ai) rfl ⟨bz 1 rfl,bz 2 rfl,an⟩ ?_;rintro v H' ⟨⟨rfl,_⟩|⟨_,k⟩,rfl⟩
 case inr=>exact absurd f k
 refine dw ?_;rw[g];refine cR ?_;refine ak rfl (λ h=>absurd rfl h) (λ _=>ag ?_)
 refine iv (σ:=Nat×OA_×Nat×Nat) (λ t=>[(8,ap t.1 0),(2,ap p 0)])
  (λ t=>[blk t.1 256 (pH N A c t.2.1 0 t.2.2.1 0 (aL t.2.2.2 0) (n+1) (n+1) 0),blk p 33 (bU N A c),.own (.slice t.2.1 0 t.2.2.1) 2 1 0 (aj [])]) ?_ ?_
 ·refine ly (Sf:=[blk p 33 (bU N A c)])<|jU [0,1,3,4,5,6] bG [0] ab rfl<|?_
  (repeat' (first|refine eJ (gs:=[999]) rfl rfl ?_|refine aG [999] (v:=bZ N A c) rfl (ad 0 rfl) rfl ?_|refine aG [999] (v:=af N.nodes) rfl (ad 0 rfl) rfl ?_))
  refine II ?_;refine av 2 [7] bG ab ⟨⟨_,rfl,?_⟩,⟨_,rfl,?_⟩,an⟩
  ·refine eW (fst:=[]) (cap:=[]) (gW F cf i of [] (λ h=>absurd rfl h) ai) rfl ⟨bz 2 rfl,an⟩ ?_;rintro u H' ⟨a,d,rfl,rfl⟩;refine ah ⟨⟨[1],by decide,rfl⟩,?_⟩;refine av 7 [] bG ab ⟨⟨_,rfl,?_⟩,an⟩;refine cX (n:=n+1) (c:=n+1) rfl rfl rfl rfl rfl rfl aa aa aa aK λ go=>ah ⟨⟨[2],by decide,rfl⟩,?_⟩;refine av 8 [] bG ab ⟨⟨_,rfl,?_⟩,an⟩;refine fv ?_;refine ah ⟨⟨[2],by decide,rfl⟩,?_⟩;refine av 9 [] bG ab ⟨⟨_,rfl,?_⟩,an⟩;refine cY (cs:=pH N A c a 0 d 0 (aL go 0) (n+1) (n+1) 0) λ e=>?_;refine ah ⟨⟨[3],by decide,rfl⟩,?_⟩;refine av 10 [] bG ab ⟨⟨_,rfl,?_⟩,an⟩;refine aN ?_;refine⟨⟨[3],ab,rfl⟩,?_⟩;exact fd bG ⟨(e,a,d,go),a7,ay.picks [0,3,2] ab rfl⟩
  ·refine cX (n:=n+1) (c:=n+1) rfl rfl rfl rfl rfl rfl aa aa aa aK λ go=>ah ⟨⟨[1],by decide,rfl⟩,?_⟩;refine av 2 [] bG ab ⟨⟨_,rfl,?_⟩,an⟩;refine eW (fst:=[]) (cap:=[]) (gW F cf i of [] (λ h=>absurd rfl h) ai) rfl ⟨bz 3 rfl,an⟩ ?_;rintro u H' ⟨a,d,rfl,rfl⟩;refine ah ⟨⟨[2],by decide,rfl⟩,?_⟩;refine av 8 [] bG ab ⟨⟨_,rfl,?_⟩,an⟩;refine fv ?_;refine ah ⟨⟨[2],by decide,rfl⟩,?_⟩;refine av 9 [] bG ab ⟨⟨_,rfl,?_⟩,an⟩;refine cY (cs:=pH N A c a 0 d 0 (aL go 0) (n+1) (n+1) 0) λ e=>?_;refine ah ⟨⟨[3],by decide,rfl⟩,?_⟩;refine av 10 [] bG ab ⟨⟨_,rfl,?_⟩,an⟩;refine aN ?_;refine⟨⟨[3],ab,rfl⟩,?_⟩;exact fd bG ⟨(e,a,d,go),a7,ay.picks [0,3,1] ab rfl⟩
 rintro⟨e,a,d,go⟩;refine aR (aH 2 rfl) λ ⟨_,w,_,_⟩=>aI ?_;refine bj (v:=.slice A N.arcs.length c) 1 ?_;refine im ?_;refine bP (σ:=Unit) (λ _=>[(34,af 0),(33,af (N.arcs.length:Int)),(8,ap e 0),(2,ap p 0)]) (λ _=>[blk e 256 (pH N A c a 0 d 0 (aL go 0) (n+1) (n+1) 0),.own (.slice a 0 d) 2 1 0 (aj [])]) (λ _=>True) (λ _=>0) () [0,2] a7 ab rfl an ?_;rintro⟨⟩-;refine ao ?_;refine am (ak rfl (λ l=>absurd l aa) (λ y=>aO ?_));refine jN ?_;refine bP (σ:=Unit) (λ _=>[(11,.slice none 0 0),(8,ap e 0)]) (λ _=>[blk e 256 (pH N A c a 0 d 0 (aL go 0) (n+1) (n+1) 0),.own (.slice a 0 d) 2 1 0 (aj [])]) (λ _=>True) (λ _=>0) () [0,1] a7 ab rfl an ?_;rintro⟨⟩-;refine aI ?_;refine bK (fst:=[]) (cap:=[]) [] (xX N A c [] ai a d 0 (Nl _) (λ h=>absurd rfl h) 0 (aL go 0) (n+1) (n+1) 0 (Nr _) (λ j x _ z=>by simp at z) e) rfl rfl rfl rfl aX (K:=[.own (.slice a 0 d) 2 1 0 (aj [])]) (ay.picks [0,1] ab rfl) ⟨fX 0 rfl fE (.inl rfl),an⟩ aK ?_;rintro u H' ⟨rfl,rfl⟩;refine ec ?_;refine ak rfl (λ hp=>absurd hp ab) (λ _=>aO ?_);refine ao ?_;refine bX 235 3<|aM [0] ⟨_,rfl,[],none,0,?_,rfl,rfl⟩;rw[g];rfl
theorem Fn.mono0{f:FuncId}{args:LV_}{M:LN_}{H:Heap}{P:Value->Prop}{R:Value->Heap->Prop}(h:Fn f args M H λ v H'=>P v/\H'=[])(e sz:Nat)(b:∀ v,P v->R v [.own (.slice none 0 0) e sz 0 []]):Fn f args M H R:=λ w hw=>
 (h w hw).mono λ x w' ⟨v,H',he,c,hP,a⟩=>⟨v,_,he,(by subst a;exact c.addnil e sz),b v hP⟩
def CR(N:aV)(f:LI_)(v:Value)(H':Heap):Prop:=∃ (its:List Fh) (A':OA_) (c':Nat),(aD N f->its.map fu=pP N f)/\(¬ aD N f->its=[])/\v=.tuple #[.slice A' its.length c',.int .i64 (eP N f)]/\H'=pG A' c' its
theorem Aa(N:aV)(g:N.Fits)(i:N.Right)(A:OA_)(c b o:Nat)(k:N.arcs≠[]->A=some ⟨b,o,none⟩)(f:LI_)(F:OA_)(cf d of:Nat)(l:f≠[]->F=some ⟨d,of,none⟩)(m:∀ x∈f,b7 x)(e:f.length*8<=140737488351232):
 Fn 157 [bZ N A c,.slice F f.length cf] [] [.seg b o (arcs N.arcs),.seg d of (aj f)] (CR N f):=by
 by_cases a:aD N f
 ·have n:eP N f=0:=cZ.2 a;have key:∀ v H',z9 N f v H'→CR N f v H':=fun v H' ⟨its,p,q,r,s,t⟩=>⟨its,p,q,fun _=>r,fun h=>absurd a h,by rw[n];exact s,t⟩;by_cases he:N.arcs=[]
  ·have j:f=[]:=Ny.1 (by have:=a.len;rw[he] at this;exact this);subst j;exact (z7 N g i A c b o he F cf d of a).mono key
  ·exact (Dw N g i A c b o k f F cf d of l m e a he).mono key
 ·refine (AM N g i A c b o k f F cf d of l m e a).mono0 235 3 λ v u=>?_;subst u;exact⟨[],none,0,λ h=>absurd h a,λ _=>rfl,rfl,rfl⟩
theorem Dc(m:cO)(hm:m.sta.OK)(p c d l:Nat)(b:m.At c d l):Fn 104 [.pointer (some ⟨p,0,none⟩)] [] (eD p m c d l) λ v H'=>v=tg m.sta.valZ/\H'=[]:=by
 have e:=hm.flen;have o:m.f.length<=100000:=e;refine aT Tryz.func104 λ w0=>?_;refine c9 ?_;refine dp λ g=>?_;refine Hr ?_;refine ak rfl (λ j=>?_) (λ j=>ag ?_)
 ·refine ao ?_;refine aM [] ⟨_,rfl,?_,rfl⟩;unfold du.valZ;rw[if_pos (show m.sta.lack [false]≠0 from j)];rfl
 have a:m.sta.lack [false]=0:=No.1 j;have q:m.N.Right:=hm.net (iT a);refine cq ?_;refine bM 13 (dT [0,1,2,3,4,5,6,7]++[(8,false)]++dT [9,10,11,12]) [1,2,3,4] aX ab rfl<|FM ?_;refine cz ?_;refine dG (f9 m.N q.fits' q m.An m.cn c 0 b.n m.f m.Af m.cf d 0 b.f hm.fin aa) rfl ⟨⟨2,_,by simp[eD],rfl,bq _ _ _,cC⟩,⟨3,_,by simp[eD],rfl,bq _ _ _,cC⟩,an⟩ ?_;rintro v H' ⟨⟨rfl,k⟩|⟨rfl,k⟩,rfl⟩
 ·refine dw ?_;refine b6 [1,2,3,4]<|ir ?_;refine aM [] ⟨_,rfl,?_,rfl⟩;unfold du.valZ;rw[if_neg (λ h=>h a),if_pos (show aD m.sta.N m.sta.f from k)];rfl
 ·refine dw ?_;refine b6 [1,2,3,4]<|ir ?_;refine aM [] ⟨_,rfl,?_,rfl⟩;unfold du.valZ;rw[if_neg (λ h=>h a),if_neg (show ¬ aD m.sta.N m.sta.f from k)];rfl
def JJ(q:du)(v:Value)(H':Heap):Prop:=∃ (its:List Fh) (A':OA_) (c':Nat),its.map fu=q.itemsZ.1/\v=.tuple #[.slice A' its.length c',.int .i64 q.itemsZ.2]/\H'=pG A' c' its
theorem Ed(m:cO)(hm:m.sta.OK)(p j k o:Nat)(a:m.At j k o):Fn 130 [.pointer (some ⟨p,0,none⟩)] [] (eD p m j k o) (JJ m.sta):=by
 have l:=hm.flen;have q:m.f.length<=100000:=l;refine aT Tryz.func130 λ w0=>?_;refine c9 ?_;refine dp λ g=>?_;refine Hr ?_;refine ak rfl (λ e=>?_) (λ e=>ag ?_)
 ·refine ao ?_;refine bX 235 3<|aM [0] ⟨_,rfl,[],none,0,?_,?_,rfl⟩
  ·unfold du.itemsZ;rw[if_pos (show m.sta.lack [false]≠0 from e)];rfl
  ·unfold du.itemsZ;rw[if_pos (show m.sta.lack [false]≠0 from e)];rfl
 have b:m.sta.lack [false]=0:=No.1 e;have r:m.N.Right:=hm.net (iT b);refine cq ?_;refine fZ 13 [0,1,2,3,4,5,6,7] 8 (dT [9,10,11,12]) aX ?_
 (repeat' (first|refine js (gs:=[999]) rfl rfl ?_|refine cV [999] (v:=bZ m.N m.An m.cn) rfl rfl (aZ (i:=0) 1 rfl rfl rfl) rfl ?_|refine cV [999] (v:=.slice m.Af m.f.length m.cf) rfl rfl (aZ (i:=4) 1 rfl rfl rfl) rfl ?_))
 refine il rfl<|dG (Aa m.N r.fits' r m.An m.cn j 0 a.n m.f m.Af m.cf k 0 a.f hm.fin aa) rfl ⟨⟨2,_,by simp[eD],rfl,bq _ _ _,cC⟩,⟨3,_,by simp[eD],rfl,bq _ _ _,cC⟩,an⟩ ?_;rintro v H' ⟨its,s,t,u,w,rfl,rfl⟩;refine⟨oC _ _ _,?_⟩;refine b6 []<|ir ?_;refine bS (ay.sub (List.sublist_append_left _ _)) ?_
 have c:m.sta.itemsZ=(its.map fu,eP m.N m.f):=by
  unfold du.itemsZ;rw[if_neg (λ h=>h b)];by_cases d:aD m.N m.f
  ·rw[if_pos (show aD m.sta.N m.sta.f from d),u d,cZ.2 d];rfl
  ·rw[if_neg (show ¬ aD m.sta.N m.sta.f from d),w d];rfl
 refine bN ⟨_,rfl,its,s,t,by rw[c],by rw[c];rfl,rfl⟩
theorem AN(V:LibV)(m:cO)(hm:m.sta.OK)(p j k l:Nat)(a:m.At j k l):Fn 106 [.pointer (some ⟨p,0,none⟩)] [] (eD p m j k l++V.heap) λ v H'=>v=.tuple #[dk m.sta.repZ.1,.int .i64 m.sta.repZ.2]/\H'=[]:=by
 have o:=hm.flen;have t:m.f.length<=100000:=o;have b:m.s.length<=100000:=hm.slen;refine aT Tryz.func106 λ w0=>?_;refine c9 ?_;refine dp λ g=>?_;refine cj (fst:=[]) (cap:=[]) (kt m p ([false,true]) ab (aL g 0) 2 2 g 0 aK rfl) rfl ⟨⟨1,_,by simp[eD],rfl,bq _ _ _,cC⟩,ew 0 rfl,an⟩ ?_;refine cR ?_;refine ak rfl (λ q=>?_) (λ q=>ag ?_)
 ·refine ao ?_;refine aM [] ⟨_,rfl,?_,rfl⟩;unfold du.repZ;rw[if_pos (show m.sta.lack [false,true]≠0 from q)];rfl
 have c:m.sta.lack [false,true]=0:=No.1 q;have u:m.N.Right:=hm.net (iT c);refine cq ?_;refine fZ 17 [0,1,2,3,4,5,6,7,8,9,10,11] 12 (dT [13,14,15,16]) aX ?_
 (repeat' (first|refine js (gs:=[999]) rfl rfl ?_|refine cV [999] (v:=bZ m.N m.An m.cn) rfl rfl (aZ (i:=0) 1 rfl rfl rfl) rfl ?_|refine cV [999] (v:=.slice m.Af m.f.length m.cf) rfl rfl (aZ (i:=4) 1 rfl rfl rfl) rfl ?_|refine cV [999] (v:=.slice m.As m.s.length m.cs) rfl rfl (aZ (i:=5) 1 rfl rfl rfl) rfl ?_))
 refine il rfl<|cj (oL V m.N u.fits' u m.An m.cn j 0 a.n m.f hm.fin aa m.Af m.cf k 0 a.f m.s hm.sin b m.As m.cs l 0 a.s) rfl ⟨⟨2,_,by simp[eD],rfl,bq _ _ _,cC⟩,⟨3,_,by simp[eD],rfl,bq _ _ _,cC⟩,⟨4,_,by simp[eD],rfl,bq _ _ _,cC⟩,⟨5,ai,rfl⟩,⟨6,ai,rfl⟩,⟨7,ai,rfl⟩,an⟩ ?_
 have r:n8 m.N m.f m.s=.tuple #[dk m.sta.repZ.1,af m.sta.repZ.2]:=by
  unfold n8 du.repZ;rw[if_neg (show ¬ m.sta.lack [false,true]≠0 from λ h=>h c)];by_cases d:aD m.N m.f
  ·rw[if_pos d,if_pos (show aD m.sta.N m.sta.f from d)];by_cases e:fm m.N m.s
   ·rw[if_pos e,if_pos (show fm m.sta.N m.sta.s from e)];rfl
   ·rw[if_neg e,if_neg (show ¬ fm m.sta.N m.sta.s from e)];rfl
  ·rw[if_neg d,if_neg (show ¬ aD m.sta.N m.sta.f from d)];rfl
 rw[r];refine b6 []<|ir ?_;exact nU
theorem rU(V:LibV)(m:cO)(hm:m.sta.OK)(p b g j:Nat)(c:m.At b g j):Fn 107 [.pointer (some ⟨p,0,none⟩)] [] (eD p m b g j++V.heap) λ v H'=>v=.tuple #[dk m.sta.printZ.1,.int .i64 m.sta.printZ.2]/\H'=[]:=by
 refine aT Tryz.func107 λ w0=>?_;refine c9 ?_;refine cj (fst:=[]) (cap:=[]) (kt m p [] ab none 0 0 0 0 (λ h=>absurd rfl h) rfl) rfl ⟨⟨0,_,by simp[eD],rfl,bq _ _ _,cC⟩,⟨0,_,by simp[eD],rfl,fE,.inl rfl⟩,an⟩ ?_;refine cR ?_;refine ak rfl (λ d=>?_) (λ d=>ag ?_)
 ·refine ao ?_;refine aM [] ⟨_,rfl,?_,rfl⟩;unfold du.printZ;rw[if_pos (show m.sta.lack []≠0 from d)];rfl
 have a:m.sta.lack []=0:=No.1 d;have e:m.N.Right:=hm.net (iT a);refine aI ?_;refine aF (v:=bZ m.N m.An m.cn) (aZ (i:=0) 0 rfl rfl rfl) ?_;refine cj (yW V m.N e.fits4 m.An m.cn b 0 c.n) rfl ⟨⟨1,_,by simp[eD],rfl,bq _ _ _,cC⟩,⟨4,ai,rfl⟩,⟨5,ai,rfl⟩,⟨6,ai,rfl⟩,an⟩ ?_
 have f:sn m.N=.tuple #[dk m.sta.printZ.1,af m.sta.printZ.2]:=by
  unfold sn du.printZ;rw[if_pos e.check,if_pos e.check,if_neg (λ h=>h a)];rfl
 rw[f];exact lG
theorem Fq(p:Nat)(m:cO)(l:LI_)(hl:l.length<=100000)(B:OA_)(n j g i:Nat)(o:l≠[]->B=some ⟨g,i,none⟩)(q:n=l.length):
 Fn 66 [.pointer (some ⟨p,0,none⟩),.slice B n j] (aC (dq p m)) ([.seg g i (aj l)]++dq p m) λ v H'=>∃ (k:cO) (e:Int),v=.int .i64 e/\H'=dq p k/\nC m.sta l (cG e nj) k.sta/\e9 e:=by
 subst q
 generalize hM:aC _=M
 refine aT Tryz.func66 λ w0=>?_;refine Gw ?_;refine ak rfl (λ c=>?_) (λ c=>ag ?_)
 ·have c:m.sta.lack []≠0:=c;refine ao ?_;refine aM [1,2,3,4] ⟨_,rfl,m,m.sta.lack [],rfl,rfl,?_,gg _ _⟩;unfold nC cG;rw[if_pos c,if_pos c];exact ji
 have d:¬ m.sta.lack []≠0:=c;refine aI ?_;refine bj (v:=.slice m.An m.N.arcs.length m.cn) 1 ?_;refine aN ?_;refine ak rfl (λ a=>?_) (λ a=>ag ?_)
 ·have a:l.length≠m.sta.N.arcs.length:=λ h=>a (by show (l.length:Int)=(m.N.arcs.length:Int);exact Na Nat.cast h);refine ao ?_;refine aM [1,2,3,4] ⟨_,rfl,m,6,rfl,rfl,?_,by unfold e9;decide⟩;unfold nC cG;rw[if_neg d,if_pos a,if_pos ab];exact ji
 have a:¬ l.length≠m.sta.N.arcs.length:=λ h=>a (λ h'=>h (by have h':(l.length:Int)=(m.N.arcs.length:Int):=h';exact Int.ofNat.inj h'));refine aI ?_;refine eW (fst:=[]) (cap:=[]) (gW B j g i l o hl) rfl ⟨bz 0 rfl,an⟩ ?_;rintro v H' ⟨r,s,rfl,rfl⟩;refine lI ?_;refine lI ?_;refine dv ?_;refine aM [2,3,0,5] ⟨_,rfl,{ m with f:=l,Af:=r,cf:=s,b:=true },0,rfl,rfl,?_,by unfold e9;decide⟩;unfold nC cG;rw[if_neg d,if_neg a,if_neg ab];exact ji
theorem wP(p:Nat)(m:cO)(l:LI_)(hl:l.length<=100000)(B:OA_)(n g b c:Nat)(j:l≠[]->B=some ⟨b,c,none⟩)(k:n=l.length):
 Fn 67 [.pointer (some ⟨p,0,none⟩),.slice B n g] (aC (dq p m)) ([.seg b c (aj l)]++dq p m) λ v H'=>∃ (i:cO) (e:Int),v=.int .i64 e/\H'=dq p i/\pL m.sta l (cG e nj) i.sta/\e9 e:=by
 subst k
 generalize hM:aC _=M
 refine aT Tryz.func67 λ w0=>?_;refine Gw ?_;refine ak rfl (λ a=>?_) (λ a=>ag ?_)
 ·have a:m.sta.lack []≠0:=a;refine ao ?_;refine aM [1,2,3,4] ⟨_,rfl,m,m.sta.lack [],rfl,rfl,?_,gg _ _⟩;unfold pL cG;rw[if_pos a,if_pos a];exact ji
 have f:¬ m.sta.lack []≠0:=a;refine aI ?_;refine eW (fst:=[]) (cap:=[]) (oN B g b c l j hl) rfl ⟨bz 0 rfl,an⟩ ?_;rintro v H' ⟨o,q,rfl,rfl⟩;refine lI ?_;refine lI ?_;refine dv ?_;refine aM [2,3,4,0] ⟨_,rfl,{ m with s:=l,As:=o,cs:=q,d:=true },0,rfl,rfl,?_,by unfold e9;decide⟩;unfold pL cG;rw[if_neg f,if_neg ab];exact ji
open Lib
section
variable {X:Cx} {E:Env} {H:Heap}
theorem Jp{o:Oper}{x:Operand}{n c:Nat}{ts:Array TypeId}(a:o.op=.call ⟨.builtin .unsafeSliceData,#[x],ts⟩)(b:val E x=some (.slice none n c)):i8 X o E H (.pointer none):=by
 intro ac w d e;have:=run_unsafeSliceData_nil (P:=Tryz.prog) (w:=w) ts o.type n c;simp[execOp,a,resolve,invoke,builtin,d.val b,this]
theorem I5{o:Oper}{x y:Operand}{p:OA_}{pt it:Nat}(b:o.op=.call ⟨.builtin .unsafeString,#[x,y],#[pt,it]⟩)(c:val E x=some (.pointer p))(d:val E y=some (.int .i64 0)):i8 X o E H (dk []):=by
 intro ac w a e;have:(Builtin.unsafeString_ #[pt,it] o.type #[.pointer p,af 0]).run Tryz.prog w=.ok (dk []) w:=run_unsafeString_none (P:=Tryz.prog) (w:=w) pt it o.type p;simp[execOp,b,resolve,invoke,builtin,a.val c,a.val d,this]
end
theorem HA(e b:Nat)(p:Value):Fn 55 [.pointer (some ⟨b,0,none⟩)] (aC (nf e b p none 0 [])) ([]++nf e b p none 0 []) λ v H'=>v=dk []/\H'=[]:=by
 refine aT Tryz.func55 λ w0=>?_;refine iL ?_;refine Gu ?_;refine bh (v:=.slice none 0 0) rfl (ad 0 rfl) ?_;refine a9 ?_;refine bh (v:=.slice none 0 0) rfl (ad 0 rfl) ?_;refine jI ?_;refine aF (Jp rfl rfl) ?_;refine b6 [0]<|cz ?_;refine aF (I5 rfl rfl rfl) ?_;refine b6 [0]<|ir ?_;exact nU
theorem uG{l:LI_}:aj l=[]↔l=[]:=by unfold aj;exact List.map_eq_nil_iff
theorem Em(N:aV){l:List It}(h:l≠[]):dU N l≠[]:=by
 cases l with
 |nil=>exact absurd rfl h
 |cons x r=>
  unfold dU;rw[Nv,OA];unfold me;exact λ a=>ze _ _ (List.append_eq_nil_iff.1 a).1
theorem xd{l:LI_}{t:Nat}{e:Int}(h:l[t]?=some e):(l.take (t+1)).getLastD 0=e:=by
 rw[Nu,h,List.getLastD_eq_getLast?,N1];rfl
theorem EU(V:LibV)(N:aV)(hN:N.Fits)(hR:N.Right)(A:OA_)(c b o:Nat)(hA:N.arcs≠[]->A=some ⟨b,o,none⟩)(its:List Fh)(C:∀ x∈its.map fu,lM N x)(hl:its.length<=2001)(I:OA_)(ci:Nat):
 Fn 131 [bZ N A c,.slice I its.length ci] (aC (pG I ci its)) (([.seg b o (arcs N.arcs)]++V.heap)++pG I ci its) λ v H'=>v=uQ N (its.map fu)/\H'=pG I ci its:=by
 have hd:=hR.len
 generalize hM:aC _=M
 refine aT Tryz.func131 λ w0=>?_;refine bu ?_;refine cY (cs:=bU N A c) λ p=>?_;refine aN ?_;show J _ _ _ _ ([blk p 33 (bU N A c),.seg b o (arcs N.arcs),.tab 0 V.oM,.tab 3 V.oP,.tab 5 V.oE,.own (.slice I its.length ci) 235 3 its.length (rE its)]++its.map λ x=>bd 3 x.2.1);refine rR ?_;refine bK (fst:=[]) (cap:=[]) [] (Jf N hN hR A c b o hA its C hl I ci) rfl rfl rfl rfl aX (K:=[blk p 33 (bU N A c),.seg b o (arcs N.arcs),.tab 0 V.oM,.tab 3 V.oP,.tab 5 V.oE]) (ay.mid [5] [0,1,2,3,4] rfl rfl ab) ⟨bz 1 rfl,an⟩ aK ?_;rintro v H' ⟨⟨F,n,cf,rfl⟩,rfl⟩;refine⟨oC I ci its,?_⟩;refine cD ay.swap<|aN ?_;by_cases D:qp N (its.map fu)=0
 case neg=>
  refine ao ?_;refine ak rfl (λ _=>?_) (λ h=>absurd D h);refine ao ?_;refine bS (ay.re (A:=[_,_,_,_,_,_]) [0] rfl ab)<|bN ⟨_,rfl,?_,rfl⟩;unfold uQ;rw[if_neg D];rfl
 rw[D];refine ao ?_;refine ak rfl (λ h=>absurd rfl h) (λ _=>ag ?_)
 have hlen:∀ j,j<=its.length->(dU N ((its.take j).map fu)).length<=100000000:=λ j hj=>by
  have:=sp hR (its:=(its.take j).map fu) (λ x Q=>by
   obtain⟨y,hy,rfl⟩:=NF.1 Q;exact C _ (OM (Oi hy)))
  rw[Nm,NE] at this;omega
 refine bu ?_;refine dD λ k=>?_;refine aN ?_;refine bX 5 1<|jN ?_
 refine cA (σ:=Nat×Value×OA_×Nat) (λ s=>[(26,af s.1),(25,af its.length),(24,.slice I its.length ci),(8,ap k 0),(2,ap p 0)])
  (λ s=>(nf 129 k s.2.1 s.2.2.1 s.2.2.2 (dU N ((its.take s.1).map fu))++[.own (.slice I its.length ci) 235 3 its.length (rE its),blk p 33 (bU N A c),.seg b o (arcs N.arcs),.tab 0 V.oM,.tab 3 V.oP,.tab 5 V.oE])++its.map λ x=>bd 3 x.2.1)
  (λ s=>s.1<=its.length/\Kp k s.2.1/\(s.1=0->s.2.2.1=none/\s.2.2.2=0)) (λ s=>its.length-s.1) (0,.pointer none,none,0) a7 (ay.re (A:=[_,_,_,_,_,_,_,_]) [1,0,2,3,4,5,6,7] rfl ab) ⟨Nl _,.inl rfl,λ _=>⟨rfl,rfl⟩⟩ ?_
 rintro⟨j,R,S,U⟩ ⟨hj,w,h1⟩;simp only at hj w h1 ⊢;refine aR (aH 2 rfl) λ ⟨_,_,hb,_⟩=>ao ?_;refine am (ak rfl (λ hlt=>ag ?_) (λ e2=>aO ?_))
 ·have hlt:j<its.length:=by omega
  obtain⟨x,Q⟩:∃ x,its[j]?=some x:=⟨its[j],be hlt⟩;obtain⟨gI,rfl⟩:=hb aa;have q:lM N (fu x):=C _ (OM (Nb Q));have e1:x.2.1.l.length<=2000:=q.len;have hW:0<x.2.2/\x.2.2<=4611686018427387903:=q.amt;have hq:∀ e∈x.2.1.l,0<=e/\e<N.arcs.length:=q.rng;have B:x.2.1.l≠[]:=q.ne;have ho:x.1=112\/x.1=98\/x.1=99:=q.kind;have L:dU N ((its.take (j+1)).map fu)=dU N ((its.take j).map fu)++me N (fu x):=by rw[Nu,Q,NI];exact yl N _ _
  have c1:=hlen j hj;have hrow:(its.map λ x=>bd 3 x.2.1)[j]?=some (bd 3 x.2.1):=by rw[Nk,Q];rfl
  obtain⟨O,hH⟩:=CX hR q;refine bS (ay.front (i:=j) (c:=bd 3 x.2.1) hrow)<|aR (aH 0 (show _=some (bd 3 x.2.1) from rfl)) λ ⟨_,_,hf,hn⟩=>?_;obtain⟨gr,h2⟩:=bg hf hn;have hc:x.2.1.A=some ⟨gr,0,none⟩:=h2 (by intro Y;have:=bY x.2.1.l;rw[Y] at this;exact B (Ny.1 (by simpa using this.symm)));refine am (aq ?_);refine BI ?_;refine aF (aw 3 rfl rfl rfl (pT Q)) ?_;refine dD λ h3=>?_;refine iA ?_;refine aI ?_;refine bj (v:=.int .i64 x.2.2) 0 ?_;refine dp λ g0=>?_;refine jg ?_;refine cR ?_;refine aI ?_;refine bj (v:=.slice x.2.1.A x.2.1.l.length x.2.1.c) 1 ?_;refine im ?_
  refine cA (σ:=Nat×Int×OA_×Nat) (λ s=>[(36,.int .i64 s.1),(35,.int .i64 x.2.1.l.length),(34,.slice x.2.1.A x.2.1.l.length x.2.1.c),(12,.int .i64 s.2.1),(11,.slice s.2.2.1 (x.2.2::(x.2.1.l.take s.1).map (j4 N)).length s.2.2.2),(10,.pointer (some ⟨h3,0,none⟩)),(26,.int .i64 j),(25,.int .i64 its.length),(24,.slice (some ⟨gI,0,none⟩) its.length ci),(8,.pointer (some ⟨k,0,none⟩)),(2,.pointer (some ⟨p,0,none⟩))])
   (λ s=>[.own (.slice s.2.2.1 (x.2.2::(x.2.1.l.take s.1).map (j4 N)).length s.2.2.2) 2 1 (x.2.2::(x.2.1.l.take s.1).map (j4 N)).length (aj (x.2.2::(x.2.1.l.take s.1).map (j4 N))),blk h3 235 [.int .u8 x.1,.slice x.2.1.A x.2.1.l.length x.2.1.c,.int .i64 x.2.2],bd 3 x.2.1,blk k 129 [R,.slice S (dU N ((its.take j).map fu)).length U],.own (.slice S (dU N ((its.take j).map fu)).length U) 5 1 (dU N ((its.take j).map fu)).length (byteCells (dU N ((its.take j).map fu))),.own (.slice (some ⟨gI,0,none⟩) its.length ci) 235 3 its.length (rE its),blk p 33 (bU N A c),.seg b o (arcs N.arcs),.tab 0 V.oM,.tab 3 V.oP,.tab 5 V.oE]++(its.map λ x=>bd 3 x.2.1).eraseIdx j)
   (λ s=>s.1<=x.2.1.l.length/\(0<s.1->s.2.1=Ez N ((x.2.1.l.take s.1).getLastD 0))) (λ s=>x.2.1.l.length-s.1) (0,0,some ⟨g0,0,none⟩,1) a7 ay.refl ⟨Nl _,λ h=>absurd h (Nat.lt_irrefl _)⟩ ?_
  rintro⟨t,last,An,cn⟩ ⟨ht,d⟩;simp only at ht d ⊢;have hs:(x.2.2::(x.2.1.l.take t).map (j4 N)).length=t+1:=by rw[Nh,Nm,NE];omega
  refine ao ?_;refine am (ak rfl (λ r=>ag ?_) (λ hg=>aO ?_))
  ·have r:t<x.2.1.l.length:=by omega
   obtain⟨e,he⟩:∃ e,x.2.1.l[t]?=some e:=⟨x.2.1.l[t],be r⟩;obtain⟨i,a,rfl,ha,hil,hk,h4,_⟩:=Kd (hq e (Nb he));obtain rfl:=hA (by rintro Y;rw[Y] at hil;simp at hil);obtain⟨q0,q1,q2⟩:=gF ha;have hv:=xd he;refine am (aq ?_);refine aI ?_;refine aF (ic (b:=gr) rfl (by rw[<- hc];rfl) rfl rfl rfl r) ?_;refine aF (v:=af (i:Int)) (dY 2 rfl (show _=some (ap gr (0+t)) by rw[NR];rfl) rfl (bC (A:=x.2.1.A) h2) (bI he)) ?_;refine ii ?_;refine bM 17 (dT [0,1,2,3,4,5,6,9,10,11,12,13,14]++[(7,false),(8,false)]++dT [15,16]) [1,2,3,4,5,6,7,8,9,10] aX ab rfl<|Gd ?_;refine bh (v:=af a.fr) rfl (fJ 6 rfl rfl rfl (N7 _ _ _) q0) ?_;refine Gd ?_;refine bh (v:=af a.to) rfl (fJ 6 rfl rfl rfl (N7 _ _ _) q1) ?_;refine cz ?_;refine dp λ g2=>?_;refine b6 [2,3,4,5,6,7,8,9,10,11]<|cz ?_;refine bx (n:=(x.2.2::(x.2.1.l.take t).map (j4 N)).length) (m:=1) (off:=0) (news:=aj [a.fr]) 1 0 rfl rfl rfl rfl rfl rfl ab rfl rfl (aS g2 _ _ (0,0)) aK rfl rfl aa aa (λ _ _=>rfl) λ A3 c3=>b6 [2,3,4,5,6,7,8,9,10,11]<|a9 ?_;refine cM<|dv ?_;have hr:x.2.2::(x.2.1.l.take (t+1)).map (j4 N)=(x.2.2::(x.2.1.l.take t).map (j4 N))++[a.fr]:=by rw[Nu,he];simp[hk]
   refine⟨(t+1,a.to,A3,c3),⟨Na (λ z=>some (af z)) (cp aa),rfl,rfl,rfl,?_,rfl,rfl,rfl,rfl,rfl,rfl,an⟩,?_,⟨by simp only;omega,λ _=>by simp only;rw[hv,h4]⟩,by simp only;omega⟩
   ·simp only[hr];rw[Nj];rfl
   ·simp only[hr];rw[Nj,show aj ((x.2.2::(x.2.1.l.take t).map (j4 N))++[a.fr])=aj (x.2.2::(x.2.1.l.take t).map (j4 N))++aj [a.fr] by simp[aj]];exact ay.sub (NW _ _)
  obtain rfl:t=x.2.1.l.length:=aa;have d:=d (NM.2 B);rw[NH] at*;have hF:(x.2.2::x.2.1.l.map (j4 N)).length=x.2.1.l.length+1:=hs;refine aI ?_;refine bj (v:=.int .u8 x.1) 1 ?_;refine im ?_;refine ao ?_;by_cases k1:x.1=112
  ·refine nd 60 rfl k1<|dr ?_;have P:fe N (fu x)=(x.2.2::x.2.1.l.map (j4 N))++[last]:=by unfold fe fu;simp only;rw[if_pos (.inl k1),d]
   have eT:me N (fu x)=hU [112,97,116,104] (fe N (fu x)):=by unfold me;rw[show nt (fu x).1=[112,97,116,104] by unfold nt fu;simp only;rw[if_pos k1]]
   refine aI ?_;refine dp λ g5=>?_;refine bx (n:=(x.2.2::x.2.1.l.map (j4 N)).length) (m:=1) (off:=0) (news:=aj [last]) 1 0 rfl rfl rfl rfl rfl rfl ab rfl rfl (aS g5 _ _ (0,0)) aK rfl rfl aa aa (λ _ _=>rfl) λ A5 c5=>?_;rw[show (x.2.2::x.2.1.l.map (j4 N)).length+1=(fe N (fu x)).length by rw[P,Nj];rfl,show aj (x.2.2::x.2.1.l.map (j4 N))++aj [last]=aj (fe N (fu x)) by rw[P];simp[aj]];refine eF (aH 1 rfl) λ ⟨_,_,u,f⟩=>?_;obtain⟨gn,g⟩:=bg u f
   refine bK (fst:=[]) (cap:=[]) [] (iO V k R w S U (dU N ((its.take j).map fu)) [112,97,116,104] ab (fe N (fu x)) O aa aa A5 _ c5 gn 0 (fun h=>g (by rw[ne_eq,uG];exact h)) rfl) rfl rfl rfl rfl aX
    (K:=[.own (.slice A5 (fe N (fu x)).length c5) 2 1 (fe N (fu x)).length (aj (fe N (fu x))),bd 3 x.2.1,.own (ax gI 0 its.length ci) 235 3 its.length (rE its),blk p 33 (bU N A c),.seg b o (arcs N.arcs),.tab 0 V.oM,.tab 3 V.oP,.tab 5 V.oE]++(its.map λ x=>bd 3 x.2.1).eraseIdx j)
    (ay.re (A:=[_,_,_,_,_,_,_,_,_,_,_,_]) [4,5,1,3,6,7,8,9,10,11] rfl ab) ⟨ff 0 rfl g,⟨5,ai,rfl⟩,⟨6,ai,rfl⟩,⟨7,ai,rfl⟩,an⟩ aK ?_
   rintro v H' ⟨A6,c6,rfl⟩;refine dw ?_;rw[<- eT,<- L];refine dv ?_;refine⟨(j+1,ap k 0,A6,c6),⟨Na (λ z=>some (af z)) (cp aa),rfl,rfl,rfl,rfl,an⟩,?_,⟨by simp only;omega,.inr rfl,λ h=>absurd h (by simp only;omega)⟩,by simp only;omega⟩;exact BY
  refine lQ 60 rfl k1<|fL ?_;by_cases Z:x.1=98
  ·refine nd 67 rfl Z<|dr ?_;have P:fe N (fu x)=(x.2.2::x.2.1.l.map (j4 N))++[last]:=by unfold fe fu;simp only;rw[if_pos (.inr Z),d]
   have eT:me N (fu x)=hU [98,97,99,107] (fe N (fu x)):=by unfold me;rw[show nt (fu x).1=[98,97,99,107] by unfold nt fu;simp only;rw[if_neg k1,if_pos Z]]
   refine aI ?_;refine dp λ g5=>?_;refine bx (n:=(x.2.2::x.2.1.l.map (j4 N)).length) (m:=1) (off:=0) (news:=aj [last]) 1 0 rfl rfl rfl rfl rfl rfl ab rfl rfl (aS g5 _ _ (0,0)) aK rfl rfl aa aa (λ _ _=>rfl) λ A5 c5=>?_;rw[show (x.2.2::x.2.1.l.map (j4 N)).length+1=(fe N (fu x)).length by rw[P,Nj];rfl,show aj (x.2.2::x.2.1.l.map (j4 N))++aj [last]=aj (fe N (fu x)) by rw[P];simp[aj]];refine eF (aH 1 rfl) λ ⟨_,_,u,f⟩=>?_;obtain⟨gn,g⟩:=bg u f
   refine bK (fst:=[]) (cap:=[]) [] (iO V k R w S U (dU N ((its.take j).map fu)) [98,97,99,107] ab (fe N (fu x)) O aa aa A5 _ c5 gn 0 (fun h=>g (by rw[ne_eq,uG];exact h)) rfl) rfl rfl rfl rfl aX
    (K:=[.own (.slice A5 (fe N (fu x)).length c5) 2 1 (fe N (fu x)).length (aj (fe N (fu x))),bd 3 x.2.1,.own (ax gI 0 its.length ci) 235 3 its.length (rE its),blk p 33 (bU N A c),.seg b o (arcs N.arcs),.tab 0 V.oM,.tab 3 V.oP,.tab 5 V.oE]++(its.map λ x=>bd 3 x.2.1).eraseIdx j)
    (ay.re (A:=[_,_,_,_,_,_,_,_,_,_,_,_]) [4,5,1,3,6,7,8,9,10,11] rfl ab) ⟨ff 0 rfl g,⟨5,ai,rfl⟩,⟨6,ai,rfl⟩,⟨7,ai,rfl⟩,an⟩ aK ?_
   rintro v H' ⟨A6,c6,rfl⟩;refine dw ?_;rw[<- eT,<- L];refine dv ?_;refine⟨(j+1,ap k 0,A6,c6),⟨Na (λ z=>some (af z)) (cp aa),rfl,rfl,rfl,rfl,an⟩,?_,⟨by simp only;omega,.inr rfl,λ h=>absurd h (by simp only;omega)⟩,by simp only;omega⟩;exact BY
  refine lQ 67 rfl Z<|bo rfl<|?_;have P:fe N (fu x)=x.2.2::x.2.1.l.map (j4 N):=by unfold fe fu;simp only;rw[if_neg (not_or.2 ⟨k1,Z⟩),NN]
  have eT:me N (fu x)=hU [99,121,99,108,101] (fe N (fu x)):=by unfold me;rw[show nt (fu x).1=[99,121,99,108,101] by unfold nt fu;simp only;rw[if_neg k1,if_neg Z]]
  rw[<- P];refine aI ?_;refine eF (aH 0 rfl) λ ⟨_,_,u,f⟩=>?_;obtain⟨gn,g⟩:=bg u f
  refine bK (fst:=[]) (cap:=[]) [] (iO V k R w S U (dU N ((its.take j).map fu)) [99,121,99,108,101] ab (fe N (fu x)) O aa aa An _ cn gn 0 (fun h=>g (by rw[ne_eq,uG];exact h)) rfl) rfl rfl rfl rfl aX
   (K:=[.own (.slice An (fe N (fu x)).length cn) 2 1 (fe N (fu x)).length (aj (fe N (fu x))),bd 3 x.2.1,.own (ax gI 0 its.length ci) 235 3 its.length (rE its),blk p 33 (bU N A c),.seg b o (arcs N.arcs),.tab 0 V.oM,.tab 3 V.oP,.tab 5 V.oE]++(its.map λ x=>bd 3 x.2.1).eraseIdx j)
   (ay.re (A:=[_,_,_,_,_,_,_,_,_,_,_]) [3,4,0,2,5,6,7,8,9,10] rfl ab) ⟨ff 0 rfl g,⟨5,ai,rfl⟩,⟨6,ai,rfl⟩,⟨7,ai,rfl⟩,an⟩ aK ?_
  rintro v H' ⟨A6,c6,rfl⟩;refine dw ?_;rw[<- eT,<- L];refine dv ?_;refine⟨(j+1,ap k 0,A6,c6),⟨Na (λ z=>some (af z)) (cp aa),rfl,rfl,rfl,rfl,an⟩,?_,⟨by simp only;omega,.inr rfl,λ h=>absurd h (by simp only;omega)⟩,by simp only;omega⟩;exact BY
 obtain rfl:j=its.length:=aa;rw[NH];refine aI ?_;by_cases Y:its=[]
 ·subst Y;obtain⟨rfl,rfl⟩:=h1 rfl;refine bK (fst:=[]) (cap:=[]) [] (HA 129 k R) rfl rfl rfl rfl aX (K:=[.own (.slice I 0 ci) 235 3 0 (rE [])]) (ay.picks [0,1,2] ab rfl) an aK<|j2 ?_;refine ec ?_;refine bN ⟨_,rfl,?_,rfl⟩;unfold uQ;rw[if_pos D,D];rfl
 ·refine bK (fst:=[]) (cap:=[]) [] (zh 129 k R S U (dU N (its.map fu)) (Em N (by simpa using Y))) rfl rfl rfl rfl aX (K:=pG I ci its) (ay.re (A:=[_,_,_,_,_,_,_,_]) [0,1,2] rfl ab) an aK<|j2 ?_;refine ec ?_;refine bN ⟨_,rfl,?_,rfl⟩;unfold uQ;rw[if_pos D,D];rfl
open Lib
def bO(pp p:Nat)(m:cO)(t:cP):Heap:=[blk pp 80 [.pointer (some ⟨p,0,none⟩),dk t]]++dq p m
def eR(pp p:Nat)(m:cO)(t:cP)(ba bf bs:Nat):Heap:=[.seg pp 0 [.pointer (some ⟨p,0,none⟩),dk t]]++eD p m ba bf bs
def vx(pp p:Nat)(R:List cP->du->cP->Prop)(v:Value)(H':Heap):Prop:=∃ (o:List cP) (m':cO) (t':cP) (A:OA_) (c:Nat),R o m'.sta t'/\v=.slice A o.length c/\H'=[Lp A c o]++bO pp p m' t'
def HC:cP:=[108,111,97,100]
theorem HS(V:LibV)(pp p:Nat)(m:cO)(t:cP)(d:t.length<=9999999):
 Fn 102 [.pointer (some ⟨pp,0,none⟩)] (aC (bO pp p m t)) (V.heap++bO pp p m t) (vx pp p (fU m.sta t HC)):=by
 have a:=u5 t
 generalize hM:aC _=M
 refine aT Tryz.func102 λ w0=>?_;refine iL ?_;refine fZ 14 [0,1,2,3,4,5,6,7] 8 (dT [9,10,11,12,13]) aX ?_
 (repeat' (first|refine js (gs:=[999]) rfl rfl ?_|refine cV [999] (v:=ap p 0) rfl rfl (ad 3 rfl) rfl ?_|refine cV [999] (v:=dk t) rfl rfl (ad 3 rfl) rfl ?_))
 refine il rfl<|bK (fst:=[]) (cap:=[]) [] (JC V p m t d) rfl rfl rfl rfl aX (K:=V.heap++[blk pp 80 [ap p 0,dk t]]) (ay.picks [4,5,6,7,0,1,2,3] ab rfl) ⟨⟨0,ai,rfl⟩,⟨1,ai,rfl⟩,⟨2,ai,rfl⟩,an⟩ aK<|?_;rintro v H' (⟨b,rfl,rfl⟩|⟨b,e,c2,rfl,rfl⟩)
 ·refine dw ?_;refine b6 []<|ir ?_;refine aI ?_;refine dE 7 ?_;refine dv ?_;refine ak rfl (λ _=>?_) (λ h=>absurd b h);obtain⟨_,f,i⟩:=sF b;have j:=nK t;have k:=kX [108,105,110,101] ab (n:=((cN t).2.1:Int)) (by unfold b7;omega);have o:=xq a;refine aI ?_;refine dp λ g=>?_;refine cj (ft V [108,105,110,101] ab [((cN t).2.1:Int)] (λ x c=>by rw[Ni.1 c];unfold b7;omega) ai (aL g 0) 1 1 g 0 aK rfl) rfl ⟨ew 0 rfl,⟨5,ai,rfl⟩,⟨6,ai,rfl⟩,⟨7,ai,rfl⟩,an⟩ ?_;refine aF (iW (l:=gD [108,105,110,101] [((cN t).2.1:Int)]) (m:=[32]) rfl rfl rfl eK) ?_;refine az ?_;refine dp λ g2=>?_;refine cj (ft V xc ab [(cN t).2.2] (λ x c=>by rw[Ni.1 c];exact a.inB) ai (aL g2 0) 1 1 g2 0 aK rfl) rfl ⟨ew 0 rfl,⟨6,ai,rfl⟩,⟨7,ai,rfl⟩,⟨8,ai,rfl⟩,an⟩ ?_;refine aF (iW (l:=gD [108,105,110,101] [((cN t).2.1:Int)]++[32]) (m:=gD xc [(cN t).2.2]) rfl rfl rfl eK) ?_;refine dp λ g3=>?_;refine jg ?_;refine aN ?_;refine aM [0,10,3,4,5,6] ⟨_,rfl,[gD [108,105,110,101] [((cN t).2.1:Int)]++[32]++gD xc [(cN t).2.2]],m,[],aL g3 0,1,?_,rfl,rfl⟩;unfold fU;rw[if_pos (show HC=[108,111,97,100] from rfl)];exact⟨rfl,.inl ⟨b,rfl,rfl⟩⟩
 ·refine dw ?_;refine b6 []<|ir ?_;refine aI ?_;refine dE 7 ?_;refine dv ?_;refine ak rfl (λ h=>absurd rfl h) (λ _=>ag ?_);refine aI ?_;refine dp λ g3=>?_;refine jg ?_;refine aN ?_;refine aM [0,8,1,2,3,4] ⟨_,rfl,nj,m.load (cN t).1 e c2,[],aL g3 0,1,?_,rfl,rfl⟩;unfold fU;rw[if_pos (show HC=[108,111,97,100] from rfl)];exact⟨rfl,.inr ⟨b,rfl,rfl⟩⟩
open Lib
theorem mB:∀ (l cur:LU_),∀ x∈da cur l,x≠[]
 |[],cur,x,a=>by
  unfold da at a;split at a
  ·exact absurd a Nt
  ·rename_i h;rw[Ni.1 a];exact h
 |b::l,cur,x,a=>by
  unfold da at a;split at a
  ·split at a
   ·exact mB l [] x a
   ·rename_i h
    rcases Nn.1 a with rfl|a
    ·exact h
    ·exact mB l [] x a
  ·exact mB l _ x a
structure ub where
 A:OA_
 c:Nat
 l:List cP
def DJ(r:ub):Value:=.slice r.A r.l.length r.c
def vw(r:ub):aY:=Lp r.A r.c r.l
def BF:ub:=⟨none,0,[]⟩
theorem ay.nilsT{X:Cx}{H:Heap}:∀ n:Nat,ay X H (H++(List.replicate n BF).map vw)
 |0=>by simp;exact ay.refl
 |n+1=>λ w h=>by
  have a:=(ay.nilsT n w h).addnil 9 1;refine a.perm ?_;rw[Oo,Nv];exact List.perm_middle.symm
def B4(A:OA_)(c:Nat)(rows:List ub):Heap:=[.own (.slice A rows.length c) 22 1 rows.length (rows.map DJ)]++rows.map vw
theorem EV(V:LibV)(l:cP)(hl:l.length<4294967281):Fn 34 [dk l] [] V.heap λ v H'=>∃ (A:OA_),v=.tuple #[.slice A (aB l).length (aB l).length,.bool (dR (l.length<=20000/\(aB l).length<=300))]/\H'=[.own (.slice A (aB l).length (aB l).length) 9 1 (aB l).length (cv (aB l))]:=by
 refine aT Tryz.func34 λ w0=>?_;refine c9 ?_;refine dG (kJ V l hl) rfl ⟨⟨0,by simp[LibV.heap],rfl⟩,⟨1,by simp[LibV.heap],rfl⟩,⟨2,by simp[LibV.heap],rfl⟩,an⟩ ?_;rintro v H' ⟨A,n,b,rfl,rfl⟩;subst b;refine ec ?_;refine aI ?_;by_cases a:l.length<=20000
 ·refine dt 11 rfl (by rw[cS];omega)<|bp [4] ?_;refine ah (i5 [0] ab rfl (bN ⟨_,rfl,A,?_,rfl⟩));exact Na (λ z=>Value.tuple #[.slice A (aB l).length (aB l).length,.bool z]) (ey ⟨λ h=>⟨a,aa⟩,λ h=>by have:=h.2;omega⟩)
 ·refine dc 11 rfl (by rw[cS];omega)<|bp [4] ?_;refine ah (i5 [0] ab rfl (bN ⟨_,rfl,A,?_,rfl⟩));exact Na (λ z=>Value.tuple #[.slice A (aB l).length (aB l).length,.bool z]) (aU (λ h=>a h.1)).symm
def Le(V:LibV)(Lk:cP->Prop):Prop:=∀ (pp p:Nat) (m:cO) (t line w:cP) (T:Ws) (cb bb ob:Nat),m.sta.OK->Lk line->line.length<=3000->t.length<=9999999->bB line=w::T->w.head?≠some 35->T.length+1<=cb->
 Fn 36 [.pointer (some ⟨pp,0,none⟩),dk line,.slice (some ⟨bb,ob,none⟩) (T.length+1) cb] (aC (bO pp p m t)) ([.seg bb ob (cv (w::T))]++V.heap++bO pp p m t) (vx pp p (th m.sta t line w T))
def KK(s:cP)(v:Value)(H':Heap):Prop:=∃ (rows:List ub) (A:OA_) (c:Nat),(s.length<=20000->(aB s).length<=300->∃ q t,jY D5 [] (aB s) (rows.map (·.l)) q t)/\(¬ (s.length<=20000/\(aB s).length<=300)->rows=[])/\v=.slice A rows.length c/\H'=B4 A c rows
theorem yg(V:LibV){Lk:cP->Prop}(Q:Le V Lk)(s:cP)(hs:s.length<4294967281)(hL:s.length<=20000->(aB s).length<=300->∀ l∈aB s,Lk l/\l.length<=3000):Fn 9 [dk s] [] V.heap (KK s):=by
 refine aT Tryz.func9 λ w0=>?_;refine Hd ?_;rintro v H' ⟨R,rfl,rfl⟩;refine aN ?_;by_cases d:s.length<=20000/\(aB s).length<=300
 case neg=>
  rw[aU d];refine ao ?_;refine eu ?_;exact bX 22 1<|aM [0] ⟨_,rfl,[],none,0,λ h1 h2=>absurd ⟨h1,h2⟩ d,λ _=>rfl,rfl,rfl⟩
 rw[aQ d];have D:=hL d.1 d.2;obtain⟨B,hB⟩:∃ B,B=3001:=⟨_,rfl⟩;obtain⟨ls,r⟩:∃ ls,ls=aB s:=⟨_,rfl⟩;have S:ls.length<=300:=by rw[r];exact d.2
 rw[<- r] at D ⊢;refine ao ?_;refine bo rfl (ag ?_);refine aI ?_;refine eW JH rfl an ?_;rintro v H' ⟨p,rfl,rfl⟩;refine fv ?_;refine cY (cs:=[ap p 0,dk []]) λ pp=>?_;refine aN ?_;refine aR (aH 2 rfl) λ ⟨_,_,E,hA⟩=>aI ?_;refine cX (n:=ls.length) (c:=ls.length) rfl rfl rfl rfl rfl rfl aa aa aa aK λ go=>?_;rw[show made [Value.slice none 0 0] (ls.length*1)=(List.replicate ls.length BF).map DJ by rw[c8,NT,OI];rfl];refine qg ?_;refine bX 3 1<|bX 2 1<|bX 37 3<|bS (K:=[.own (ax go 0 ls.length ls.length) 22 1 ls.length ((List.replicate ls.length BF).map DJ),.own (.slice R ls.length ls.length) 9 1 ls.length (cv ls)]++(V.heap++bO pp p I6 [])) (ay.picks [3,6,7,8,9,4,5,0,1,2] ab rfl)<|bS (ay.nilsT ls.length)<|?_
 refine cA (σ:=Nat×List ub×cO×cP) (λ q=>[(25,af q.1),(24,af ls.length),(23,.slice R ls.length ls.length),(6,ax go 0 ls.length ls.length),(5,ap pp 0)])
  (λ q=>([.own (ax go 0 ls.length ls.length) 22 1 ls.length (q.2.1.map DJ),.own (.slice R ls.length ls.length) 9 1 ls.length (cv ls)]++(V.heap++bO pp p q.2.2.1 q.2.2.2))++q.2.1.map vw)
  (λ q=>q.1<=ls.length/\q.2.1.length=ls.length/\(∀ j,q.1<=j->j<ls.length->q.2.1[j]?=some BF)/\jY D5 [] (ls.take q.1) ((q.2.1.take q.1).map (·.l)) q.2.2.1.sta q.2.2.2/\q.2.2.1.sta.OK/\q.2.2.2.length<=q.1*B) (λ q=>ls.length-q.1)
  (0,List.replicate ls.length BF,I6,[]) a7 ay.refl ⟨Nl _,ai,λ j _ u=>by rw[Nw,if_pos u],⟨rfl,rfl,rfl⟩,Cy,ai⟩ ?_
 rintro⟨k,rows,m,t⟩ ⟨hk,f,a,e,hm,ht⟩;simp only at hk f a e hm ht ⊢;refine ao ?_;refine am (ak rfl (λ hlt=>ag ?_) (λ hv=>aO ?_))
 ·have hlt:k<ls.length:=by omega
  obtain⟨x,U⟩:∃ x,ls[k]?=some x:=⟨ls[k],be hlt⟩;obtain⟨X,F⟩:=D x (Nb U);obtain⟨gl,rfl⟩:=E aa;have H:=a k (Nr _) hlt;have I:=kB x;have hr:(k+1)*B=k*B+B:=Nat.succ_mul k B;have L:t.length<=(k+1)*B:=aa;have hz:k*B<=300*B:=Ow B aa;have M:ls.take (k+1)=ls.take k++[x]:=by rw[Nu,U];rfl
  have N:k<rows.length:=aa;refine am (aq ?_);refine qQ ?_;refine aF (aw 1 rfl rfl rfl (eg U)) ?_;refine dQ ?_;refine dG (uU x aa) rfl an ?_;rintro v H' ⟨Aw,n,hn,rfl,rfl⟩;subst hn;refine ec ?_;have Y:(rows.take (k+1)).map (·.l)=(rows.take k).map (·.l)++[[]]:=by rw[Nu,H,NI];rfl
  have g:ez m.sta t x [] m.sta t->jY D5 [] (ls.take (k+1)) ((rows.take (k+1)).map (·.l)) m.sta t:=λ h=>by
   rw[M,Y];exact ul e h
  cases hw:bB x with
  |nil=>
   refine aI ?_;refine dc 35 rfl ab<|ek ?_;refine ah<|bo rfl (ag ?_);refine ao ?_;refine⟨(k+1,rows,m,t),⟨Na (λ z=>some (af z)) (cp aa),rfl,rfl,rfl,rfl,an⟩,ay.sub (NW _ _),⟨by simp only;omega,f,λ j u=>a j (by simp only at u;omega),g ?_,hm,L⟩,by simp only;omega⟩;unfold ez;rw[hw];exact ji
  |cons w T=>
   have Z:=mB x [] w (by show w∈bB x;rw[hw];simp);have h3:=kM x;rw[hw] at h3 I;simp only[Nh] at I
   obtain⟨b,w',rfl⟩:∃ b w',w=b::w':=by
    cases w with
    |nil=>exact absurd rfl Z
    |cons b w'=>exact⟨b,w',rfl⟩
   refine aR (aH 0 rfl) λ ⟨_,_,O,_⟩=>?_;obtain⟨gw,rfl⟩:=O ai;refine aI ?_;refine dt 35 rfl (by simp only[Nh];omega)<|ek ?_;refine ae [3] (v:=ap gw 0) (bn (m:=0) rfl ai) rfl<|ae [3] (v:=dk (b::w')) (aw 0 rfl rfl rfl rfl) rfl<|ae [3] (v:=.int .u8 (b.toNat:Int)) (tx (i:=0) rfl rfl rfl rfl rfl) rfl<|ek ?_;by_cases y:b=35
   ·subst y;refine dc 41 rfl ab<|ah<|bo rfl (ag ?_);refine ao ?_;refine⟨(k+1,rows,m,t),⟨Na (λ z=>some (af z)) (cp aa),rfl,rfl,rfl,rfl,an⟩,ay.sub (NW _ _),⟨by simp only;omega,f,λ j u=>a j (by simp only at u;omega),g ?_,hm,L⟩,by simp only;omega⟩;unfold ez;rw[hw];show (if _ then _ else _);rw[if_pos (by rfl)];exact ji
   have hb:(b.toNat:Int)≠35:=λ h=>y (UInt8.toNat_inj.1 (show b.toNat=35 by omega));refine dt 41 rfl hb<|ah<|dr ?_;have hh:(b::w').head?≠some 35:=λ h=>y (NK h);have P:(rows.map vw)[k]?=some (vw BF):=by rw[Nk,H];rfl
   show J _ _ _ _ ([_,_,_,_,_,_,_,_,_,_,_]++rows.map vw);refine bS (ay.front (i:=k) (c:=vw BF) P)<|aI ?_
   refine bK (fst:=[]) (cap:=[]) [] (Q pp p m t x (b::w') T (T.length+1) gw 0 hm X F aa hw hh (Nr _)) rfl rfl rfl rfl aX
    (K:=[.own (ax gw 0 ((b::w')::T).length ((b::w')::T).length) 9 1 ((b::w')::T).length (cv ((b::w')::T)),.tab 0 V.oM,.tab 3 V.oP,.tab 5 V.oE,.own (ax go 0 ls.length ls.length) 22 1 ls.length (rows.map DJ),.own (ax gl 0 ls.length ls.length) 9 1 ls.length (cv ls)]++(rows.map vw).eraseIdx k)
    (ay.re (A:=[_,_,_,_,_,_,_,_,_,_,_,_]) [7,8,9,10,11,1,4,5,6,2,3] rfl ab) ⟨fX 0 rfl ca (.inr rfl),⟨1,ai,rfl⟩,⟨2,ai,rfl⟩,⟨3,ai,rfl⟩,an⟩ aK ?_
   rintro v H' ⟨o,m',t',A2,c2,hR,rfl,rfl⟩;refine dw ?_
   have C:ez m.sta t x o m'.sta t':=by
    unfold ez;rw[hw];simp only;rw[if_neg hh];exact hR
   have hq:=ez.txt C;refine aF (bn rfl hlt) ?_;refine aW 10 rfl rfl rfl rfl (fz rfl rfl rfl (by rw[Nm];omega)) [] rfl<|dv ?_;refine⟨(k+1,rows.set k ⟨A2,c2,o⟩,m',t'),⟨Na (λ z=>some (af z)) (cp aa),rfl,rfl,rfl,rfl,an⟩,?_,⟨by simp only;omega,by simp only[NO];exact f,λ j u hy=>?_,?_,ez.ok hm F C,(by show t'.length<=(k+1)*B;omega)⟩,by simp only;omega⟩
   ·simp only[O1];refine ay.trans (ay.re (A:=[_,_,_,_,_,_,_,_,_,_,_,_]) [0,10,11,7,8,9,1,2,3,4,5] rfl ab) (ay.back (A:=[_,_,_,_,_,_,_,_,_,_]) (c:=vw ⟨A2,c2,o⟩) (by rw[Nm];exact N))
   ·simp only at u ⊢;rw[Ns aa];exact a j aa hy
   ·simp only;rw[M,Nu,Nq N,List.take_set_of_le (Nr _)];rw[NI];exact ul e C
 obtain rfl:k=ls.length:=aa;rw[NH] at e;rw[Oh aa] at e;refine ao ?_;show J _ _ _ _ ([_,_,_,_,_,_,_,_,_,_]++rows.map vw);refine bS (ay.re [0] rfl ab) ?_;rw[r] at e;refine bN ⟨_,rfl,rows,aL go 0,ls.length,λ _ _=>⟨_,_,e⟩,λ h=>absurd d h,by rw[f];rfl,?_⟩;unfold B4;rw[f]
open Lib
theorem DT(V:LibV)(pp p:Nat)(m:cO)(hm:m.sta.OK)(t:cP)(q r s:Nat)(g:m.At q r s):
 Fn 105 [.pointer (some ⟨pp,0,none⟩)] [] (eR pp p m t q r s++V.heap) (GL m.sta.itemsT):=by
 refine aT Tryz.func105 λ w0=>?_;refine c9 ?_;refine aF (v:=ap p 0) (aZ (i:=0) 0 rfl rfl rfl) ?_;refine dG (Ed m hm p q r s g) rfl ⟨⟨1,_,by simp[eR,eD],rfl,bq _ _ _,cC⟩,⟨2,_,by simp[eR,eD],rfl,bq _ _ _,cC⟩,⟨3,_,by simp[eR,eD],rfl,bq _ _ _,cC⟩,⟨4,_,by simp[eR,eD],rfl,bq _ _ _,cC⟩,an⟩ ?_;rintro v H' ⟨its,L,M,a,rfl,rfl⟩;refine⟨oC _ _ _,?_⟩;refine cD ay.swap<|cR ?_;refine ak rfl (λ j=>?_) (λ j=>ag ?_)
 ·refine aI ?_;refine dG (jA V m.sta.itemsZ.2 (m.sta.items_code).inB none 0 0) rfl ⟨⟨6,by simp[eR,eD],rfl⟩,⟨7,by simp[eR,eD],rfl⟩,⟨8,by simp[eR,eD],rfl⟩,trivial⟩ ?_;rintro v H' (⟨f,_⟩|⟨_,w,c2,rfl,rfl⟩)
  case inl=>exact absurd f j
  refine ec ?_;refine aM [0] ⟨_,rfl,?_⟩;unfold du.itemsT;rw[if_pos j];exact⟨w,c2,rfl,rfl⟩
 have d:m.sta.itemsZ.2=0:=No.1 j
 have y:m.sta.lack [false]=0:=NG λ h=>by
  unfold du.itemsZ at d;rw[if_pos h] at d;exact h d
 have F:=iT y;have u:m.N.Right:=hm.net F;have k:m.sta.lack []=0:=by unfold du.lack;rw[if_neg (by rw[F];decide),if_pos (λ c O=>absurd O Nt)]
 have z:m.sta.printZ=(iu m.N,0):=by unfold du.printZ;rw[if_neg (λ h=>h k)];rfl
 have P:=sG u;obtain⟨l,e,o⟩:=m.sta.items_len hm;rw[<- a] at l e o;rw[Nm] at e;refine aI ?_;refine aF (v:=ap p 0) (aZ (i:=0) 1 rfl rfl rfl) ?_;refine cj (rU V m hm p q r s g) rfl ⟨⟨2,_,by simp[eR,eD],rfl,bq _ _ _,cC⟩,⟨3,_,by simp[eR,eD],rfl,bq _ _ _,cC⟩,⟨4,_,by simp[eR,eD],rfl,bq _ _ _,cC⟩,⟨5,_,by simp[eR,eD],rfl,bq _ _ _,cC⟩,⟨6,by simp[eR,eD],rfl⟩,⟨7,by simp[eR,eD],rfl⟩,⟨8,by simp[eR,eD],rfl⟩,an⟩ ?_;rw[z];refine dQ ?_;have H:=nR V (iu m.N) aa;rw[nI u] at H;refine eW H rfl ⟨⟨6,by simp[eR,eD],rfl⟩,⟨7,by simp[eR,eD],rfl⟩,⟨8,by simp[eR,eD],rfl⟩,an⟩ ?_;rintro v H' ⟨B,c3,rfl,rfl⟩;refine az ?_;refine dD λ p7=>?_;refine dE 0 ?_;refine eF (aH 1 rfl) λ ⟨_,_,b,C⟩=>?_;obtain⟨g3,b⟩:=bg b C;refine fP ?_;refine bj (v:=bZ m.N B c3) 0 ?_;refine az ?_
 refine bK (fst:=[]) (cap:=[]) [] (EU V m.N u.fits4 u B c3 g3 0 (e7 b) its (fun x Q=>l x (by rw[← a] at*;exact Q)) e L M) rfl rfl rfl rfl aX
  (K:=[.own (.slice B m.N.arcs.length c3) 37 3 m.N.arcs.length (arcs m.N.arcs),.tab 0 V.oM,.tab 3 V.oP,.tab 5 V.oE]) ?_ ⟨ff 0 rfl b,⟨1,ai,rfl⟩,⟨2,ai,rfl⟩,⟨3,ai,rfl⟩,an⟩ aK ?_
 ·exact ay.mid (A:=[_,_,_,_,_,_,_,_,_,_,_]) [2] [1,8,9,10] rfl rfl ab
 refine j2 ?_;refine⟨oC _ _ _,?_⟩;refine cD ay.swap ?_;unfold uQ;refine aN ?_;have D:=y6 m.N (its.map fu)
 have E:(if qp m.N (its.map fu)=0 then dU m.N (its.map fu) else []).length<4294967281:=by
  split
  ·have:(dU m.N (its.map fu)).length<=85000000:=o;omega
  ·simp
 refine bu ?_;refine lB ?_;refine dG (kJ V (if qp m.N (its.map fu)=0 then dU m.N (its.map fu) else []) E) rfl ⟨⟨2,ai,rfl⟩,⟨3,ai,rfl⟩,⟨4,ai,rfl⟩,an⟩ ?_;rintro v H' ⟨I,n,R,rfl,rfl⟩;subst R;refine dw ?_;refine dG (jA V (qp m.N (its.map fu)) D.inB I _ _) rfl ⟨⟨3,ai,rfl⟩,⟨4,ai,rfl⟩,⟨5,ai,rfl⟩,an⟩ ?_
 have hit:m.sta.itemsT=cG (qp m.N (its.map fu)) (aB (dU m.N (its.map fu))):=by
  unfold du.itemsT;rw[if_neg j,<- a];rfl
 rw[hit];rintro v H' (⟨f,rfl,rfl⟩|⟨f,w,c2,rfl,rfl⟩)
 ·refine dw ?_;rw[if_pos f];refine aN ?_;refine aM [0] ⟨_,rfl,?_⟩;unfold cG;rw[if_neg (λ h=>h f)];exact⟨I,_,rfl,rfl⟩
 ·refine ec ?_;refine aM [0] ⟨_,rfl,?_⟩;unfold cG;rw[if_pos f];exact⟨w,c2,rfl,rfl⟩
open Lib
def zW:Nat->cP
 |0=>kz
 |1=>[112,104,97,115,101,115]
 |2=>[119,97,108,107,115]
 |_=>[98,111,117,110,100]
def wN(v p k b:Int):Nat->Int
 |0=>v
 |1=>p
 |2=>k
 |_=>b
def qz(v p k b:Int)(p8:Nat)(s:Nat)(B:LN_)(g:Nat->Nat):Env:=
 [(32,.int .i64 0),(34,.int .i64 v),(38,.int .i64 p),(42,.int .i64 k),(46,.int .i64 b),(8,.pointer (some ⟨p8,0,none⟩))]++((List.range s).map λ i=>(36+4*i,dk (gD (zW i) [wN v p k b i])))++B.map λ i=>(35+4*i,.slice (some ⟨g i,0,none⟩) 1 1)
def qB(V:LibV)(v p k b s:Int)(p8:Nat)(B:LN_)(g:Nat->Nat):Heap:=
 [blk p8 39 [.int .i64 v,.int .i64 p,.int .i64 k,.int .i64 s,.int .i64 b],.tab 0 V.oM,.tab 3 V.oP,.tab 5 V.oE]++B.map λ i=>blk (g i) 2 [.int .i64 (wN v p k b i)]
def qA(s:Nat)(B:LN_):Array Bool:=((List.range 22).map λ i=>[0,1,2,5,6,9,10,13,14].contains i||(B.map λ j=>3+4*j).contains i||((List.range s).map λ j=>4+4*j).contains i).toArray
section
variable {X:Cx} {ops:List Oper} {Q:fb} {Sf:Heap}
theorem dj{α:Type}{fuel:Nat}{listed:Array Bool}{E:Env}{H:Heap}(n:Nat)(L:Array Bool)(Fs:α->Env)(Ks:α->Heap)(key:∀ a,JA X ops Q Sf n L (Fs a) (Ks a))(h:(∀ a,JA X ops Q Sf n L (Fs a) (Ks a))->JA X ops Q Sf fuel listed E H):JA X ops Q Sf fuel listed E H:=h key
theorem cF{n:Nat}{listed L:Array Bool}{E F:Env}{H K:Heap}(ix:LN_)(hi:ix.Nodup)(hp:cK H ix=some Sf)(S:JA X ops Q Sf n L F K)(e:listed=L)(hE:nn E F)(jx:LN_)(hj:jx.Nodup)(hk:cK H jx=some K):JL X ops [] (M4 X ops Q Sf n listed) E H:=
 ah ⟨⟨ix,hi,hp⟩,λ a w inv hA hH=>S a w (e▸inv) (hA.ents _ hE) (hH.picks jx hj hk)|>λ h=>e▸h⟩
end
theorem D9(V:LibV)(pp p:Nat)(m:cO)(hm:m.sta.OK)(t:cP)(ba bf bs:Nat)(hat:m.At ba bf bs):
 Fn 108 [.pointer (some ⟨pp,0,none⟩)] [] (eR pp p m t ba bf bs++V.heap) λ v H'=>∃ o,m.sta.countR o/\GL o v H':=by
 refine aT Tryz.func108 λ w0=>?_;refine c9 ?_;refine aF (v:=ap p 0) (aZ (i:=0) 0 rfl rfl rfl) ?_;refine cj (rU V m hm p ba bf bs hat) rfl ⟨⟨1,_,by simp[eR,eD],rfl,bq _ _ _,cC⟩,⟨2,_,by simp[eR,eD],rfl,bq _ _ _,cC⟩,⟨3,_,by simp[eR,eD],rfl,bq _ _ _,cC⟩,⟨4,_,by simp[eR,eD],rfl,bq _ _ _,cC⟩,⟨5,by simp[eR,eD],rfl⟩,⟨6,by simp[eR,eD],rfl⟩,⟨7,by simp[eR,eD],rfl⟩,an⟩ ?_;refine cR ?_;by_cases hz:m.sta.lack []≠0
 ·have hpz:m.sta.printZ=([],m.sta.lack []):=by unfold du.printZ;rw[if_pos hz]
  rw[hpz];refine ak rfl (λ _=>?_) (λ h=>absurd hz h);refine aI ?_;refine dG (jA V (m.sta.lack []) (gg _ _).inB none 0 0) rfl ⟨⟨5,by simp[eR,eD],rfl⟩,⟨6,by simp[eR,eD],rfl⟩,⟨7,by simp[eR,eD],rfl⟩,an⟩ ?_;rintro v H' (⟨h0,_⟩|⟨_,A2,c2,rfl,rfl⟩)
  case inl=>exact absurd h0 hz
  refine ec ?_;exact aM [0] ⟨_,rfl,_,.inl ⟨hz,rfl⟩,A2,c2,rfl,rfl⟩
 have hl00:m.sta.lack []=0:=No.1 hz;have hR:m.N.Right:=hm.net (iT hl00);have hpz:m.sta.printZ=(iu m.N,0):=by unfold du.printZ;rw[if_neg hz];rfl
 have hpl:=sG hR;rw[hpz];refine ak rfl (λ h=>absurd rfl h) (λ _=>ag ?_);refine aI ?_;have TP:=nR V (iu m.N) aa;rw[nI hR] at TP;refine eW TP rfl ⟨⟨5,by simp[eR,eD],rfl⟩,⟨6,by simp[eR,eD],rfl⟩,⟨7,by simp[eR,eD],rfl⟩,an⟩ ?_;rintro v H' ⟨A3,c3,rfl,rfl⟩;refine az ?_;refine dD λ p5=>?_;refine dE 0 ?_;refine eF (aH 1 rfl) λ ⟨_,_,hA3,hla⟩=>?_;obtain⟨g3,hA3⟩:=bg hA3 hla;refine fP ?_;refine bj (v:=bZ m.N A3 c3) 0 ?_;refine eW (IW m.N hR.fits4 hR A3 c3 g3 0 (e7 hA3)) rfl ⟨ff 1 rfl hA3,an⟩ ?_;rintro v H' ⟨f,ph,k,s,hd,hp1,_,_,rfl,rfl⟩;refine az ?_;refine dD λ p8=>?_;refine nZ ?_;obtain⟨hk,hph,hf⟩:=y9 hR hd;have hv:=dm hR hf.toRanged m.N.snk;have hbz:=r3 hR.nodes.1 hR.nodes.2 (by have:=hR.len;omega);have hout:m.sta.countR (uM m.N (dH (m.N.arcs.zip f) m.N.snk) ph k):=.inr ⟨hl00,f,ph,k,hd,rfl⟩
 generalize dH (m.N.arcs.zip f) m.N.snk=vv at hv hout ⊢
 generalize hbb:lq m.N=bb at hbz ⊢
 refine bS (K:=[blk p8 39 [af vv,af ph,af k,af s,af bb]]++([.tab 0 V.oM,.tab 3 V.oP,.tab 5 V.oE]++[])) (ay.picks [0,8,9,10] ab rfl) ?_;have hcs:ee 69=true:=by kernel_rfl
 have hcl:=wG hR (v:=vv) (p:=ph) (k:=k) (by unfold b7;omega) (by unfold b7;omega) (by unfold b7;omega);unfold uM at hcl hout;rw[hbb,rZ] at hcl;rw[hbb] at hout
 have hN:∀ i,∀ n∈[wN vv ph k bb i],b7 n:=λ i n hn=>by
  rw[Ni.1 hn];unfold wN b7;split<;>omega
 refine IJ [(8,ap p8 0),(4,af 0)] _ [0,1,2,3] a7 ab rfl<|cq ?_;refine ly (Sf:=[blk p8 39 [af vv,af ph,af k,af s,af bb]])<|jU [0,1,2,5,6,9,10,13,14] bG [0] ab rfl<|q6 ?_;refine cM<|dj (α:=Nat->Nat) 5 (qA 4 [0,1,2,3]) (qz vv ph k bb p8 4 [0,1,2,3]) (qB V vv ph k bb s p8 [0,1,2,3]) (λ g=>?_) λ S4_0123=>?_
 ·refine av 17 [] bG ab ⟨⟨_,rfl,?_⟩,trivial⟩;refine b8 rfl rfl rfl rfl rfl rfl rfl (fun _=>rfl) fun x=>ah ⟨⟨[1],by decide,rfl⟩,?_⟩;refine av 18 [] bG ab ⟨⟨_,rfl,?_⟩,trivial⟩;refine dG (tW (aL x 0) 4 4 x 0 [gD kz [vv],gD [112,104,97,115,101,115] [(ph:Int)],gD [119,97,108,107,115] [(k:Int)],gD [98,111,117,110,100] [bb]] rfl aK ab aa ai) rfl ⟨ew 0 rfl,trivial⟩ ?_;refine j2 ?_;refine⟨rfl,ah ⟨⟨[1],by decide,rfl⟩,?_⟩⟩;refine av 19 [] bG ab ⟨⟨_,rfl,?_⟩,trivial⟩;refine dp fun x2=>?_;refine lx 1 1 (by rfl) (by decide) (ah ⟨⟨[2],by decide,rfl⟩,?_⟩);refine av 20 [] bG ab ⟨⟨_,rfl,?_⟩,trivial⟩;refine dG (jA V 0 (by unfold b7;omega) (aL x2 0) 1 1) rfl ⟨⟨3,ai,rfl⟩,⟨4,ai,rfl⟩,⟨5,ai,rfl⟩,trivial⟩ ?_;rintro v H' (⟨_,rfl,rfl⟩|⟨h0,_⟩)
  case inr=>exact absurd rfl h0
  refine⟨rfl,ah ⟨⟨[2],by decide,rfl⟩,?_⟩⟩;refine av 21 [] bG ab ⟨⟨_,rfl,?_⟩,an⟩;refine db [] rfl ⟨⟨[2],ab,rfl⟩,?_⟩;exact fd bG<|aM [0] ⟨_,rfl,_,hout,aL x2 0,1,rfl,rfl⟩
 refine dj (α:=Nat->Nat) 6 (qA 3 [0,1,2,3]) (qz vv ph k bb p8 3 [0,1,2,3]) (qB V vv ph k bb s p8 [0,1,2,3]) (λ g=>?_) λ S3_0123=>?_
 ·refine av 16 [] bG ab ⟨⟨_,rfl,?_⟩,an⟩
  ·refine bA [] (ft V (zW 3) ab [wN vv ph k bb 3] (hN 3) ai (aL ((g) 3) 0) 1 1 ((g) 3) 0 aK rfl) rfl rfl rfl rfl hcs ⟨ew 7 rfl,⟨1,ai,rfl⟩,⟨2,ai,rfl⟩,⟨3,ai,rfl⟩,an⟩ aK λ v H' hq=>?_;obtain⟨rfl,rfl⟩:=hq;exact⟨rfl,cF [0] ab rfl (S4_0123 g) bG a7 [0,1,2,3,4,5,6,7] ab rfl⟩
 refine dj (α:=Nat->Nat) 7 (qA 3 [0,1,2]) (qz vv ph k bb p8 3 [0,1,2]) (qB V vv ph k bb s p8 [0,1,2]) (λ g=>?_) λ S3_012=>?_
 ·refine av 15 [] bG ab ⟨⟨_,rfl,?_⟩,an⟩
  ·refine b8 rfl rfl rfl rfl rfl rfl rfl (λ _=>rfl) λ x=>cF [1] (by decide) rfl (S3_0123 (λ j=>if j=3 then x else (g) j)) (by decide+kernel) ⟨rfl,rfl,rfl,rfl,rfl,rfl,rfl,rfl,rfl,rfl,rfl,rfl,rfl,an⟩ [1,2,3,4,5,6,7,0] (by decide) rfl
 refine dj (α:=Nat->Nat) 7 (qA 2 [0,1,2,3]) (qz vv ph k bb p8 2 [0,1,2,3]) (qB V vv ph k bb s p8 [0,1,2,3]) (λ g=>?_) λ S2_0123=>?_
 ·refine av 12 [] bG ab ⟨⟨_,rfl,?_⟩,an⟩
  ·refine bA [] (ft V (zW 2) ab [wN vv ph k bb 2] (hN 2) ai (aL ((g) 2) 0) 1 1 ((g) 2) 0 aK rfl) rfl rfl rfl rfl hcs ⟨ew 6 rfl,⟨1,ai,rfl⟩,⟨2,ai,rfl⟩,⟨3,ai,rfl⟩,an⟩ aK λ v H' hq=>?_;obtain⟨rfl,rfl⟩:=hq;exact⟨rfl,cF [0] ab rfl (S3_0123 g) bG a7 [0,1,2,3,4,5,6,7] ab rfl⟩
 refine dj (α:=Nat->Nat) 8 (qA 2 [0,1,3]) (qz vv ph k bb p8 2 [0,1,3]) (qB V vv ph k bb s p8 [0,1,3]) (λ g=>?_) λ S2_013=>?_
 ·refine av 11 [] bG ab ⟨⟨_,rfl,?_⟩,an⟩
  ·refine b8 rfl rfl rfl rfl rfl rfl rfl (λ _=>rfl) λ x=>cF [1] (by decide) rfl (S2_0123 (λ j=>if j=2 then x else (g) j)) (by decide+kernel) ⟨rfl,rfl,rfl,rfl,rfl,rfl,rfl,rfl,rfl,rfl,rfl,rfl,an⟩ [1,2,3,4,5,6,0,7] (by decide) rfl
 refine dj (α:=Nat->Nat) 8 (qA 2 [0,1,2]) (qz vv ph k bb p8 2 [0,1,2]) (qB V vv ph k bb s p8 [0,1,2]) (λ g=>?_) λ S2_012=>?_
 ·refine av 12 [15] bG ab ⟨⟨_,rfl,?_⟩,⟨_,rfl,?_⟩,an⟩
  ·refine bA [] (ft V (zW 2) ab [wN vv ph k bb 2] (hN 2) ai (aL ((g) 2) 0) 1 1 ((g) 2) 0 aK rfl) rfl rfl rfl rfl hcs ⟨ew 6 rfl,⟨1,ai,rfl⟩,⟨2,ai,rfl⟩,⟨3,ai,rfl⟩,an⟩ aK λ v H' hq=>?_;obtain⟨rfl,rfl⟩:=hq;exact⟨rfl,cF [0] ab rfl (S3_012 g) bG a7 [0,1,2,3,4,5,6] ab rfl⟩
  ·refine b8 rfl rfl rfl rfl rfl rfl rfl (λ _=>rfl) λ x=>cF [1] (by decide) rfl (S2_0123 (λ j=>if j=3 then x else (g) j)) (by decide+kernel) ⟨rfl,rfl,rfl,rfl,rfl,rfl,rfl,rfl,rfl,rfl,rfl,rfl,an⟩ [1,2,3,4,5,6,7,0] (by decide) rfl
 refine dj (α:=Nat->Nat) 9 (qA 2 [0,1]) (qz vv ph k bb p8 2 [0,1]) (qB V vv ph k bb s p8 [0,1]) (λ g=>?_) λ S2_01=>?_
 ·refine av 11 [15] bG ab ⟨⟨_,rfl,?_⟩,⟨_,rfl,?_⟩,an⟩
  ·refine b8 rfl rfl rfl rfl rfl rfl rfl (λ _=>rfl) λ x=>cF [1] (by decide) rfl (S2_012 (λ j=>if j=2 then x else (g) j)) (by decide+kernel) ⟨rfl,rfl,rfl,rfl,rfl,rfl,rfl,rfl,rfl,rfl,rfl,an⟩ [1,2,3,4,5,6,0] (by decide) rfl
  ·refine b8 rfl rfl rfl rfl rfl rfl rfl (λ _=>rfl) λ x=>cF [1] (by decide) rfl (S2_013 (λ j=>if j=3 then x else (g) j)) (by decide+kernel) ⟨rfl,rfl,rfl,rfl,rfl,rfl,rfl,rfl,rfl,rfl,rfl,an⟩ [1,2,3,4,5,6,0] (by decide) rfl
 refine dj (α:=Nat->Nat) 8 (qA 1 [0,1,2,3]) (qz vv ph k bb p8 1 [0,1,2,3]) (qB V vv ph k bb s p8 [0,1,2,3]) (λ g=>?_) λ S1_0123=>?_
 ·refine av 8 [] bG ab ⟨⟨_,rfl,?_⟩,an⟩
  ·refine bA [] (ft V (zW 1) ab [wN vv ph k bb 1] (hN 1) ai (aL ((g) 1) 0) 1 1 ((g) 1) 0 aK rfl) rfl rfl rfl rfl hcs ⟨ew 5 rfl,⟨1,ai,rfl⟩,⟨2,ai,rfl⟩,⟨3,ai,rfl⟩,an⟩ aK λ v H' hq=>?_;obtain⟨rfl,rfl⟩:=hq;exact⟨rfl,cF [0] ab rfl (S2_0123 g) bG a7 [0,1,2,3,4,5,6,7] ab rfl⟩
 refine dj (α:=Nat->Nat) 9 (qA 1 [0,2,3]) (qz vv ph k bb p8 1 [0,2,3]) (qB V vv ph k bb s p8 [0,2,3]) (λ g=>?_) λ S1_023=>?_
 ·refine av 7 [] bG ab ⟨⟨_,rfl,?_⟩,an⟩
  ·refine b8 rfl rfl rfl rfl rfl rfl rfl (λ _=>rfl) λ x=>cF [1] (by decide) rfl (S1_0123 (λ j=>if j=1 then x else (g) j)) (by decide+kernel) ⟨rfl,rfl,rfl,rfl,rfl,rfl,rfl,rfl,rfl,rfl,rfl,an⟩ [1,2,3,4,5,0,6,7] (by decide) rfl
 refine dj (α:=Nat->Nat) 9 (qA 1 [0,1,3]) (qz vv ph k bb p8 1 [0,1,3]) (qB V vv ph k bb s p8 [0,1,3]) (λ g=>?_) λ S1_013=>?_
 ·refine av 8 [11] bG ab ⟨⟨_,rfl,?_⟩,⟨_,rfl,?_⟩,an⟩
  ·refine bA [] (ft V (zW 1) ab [wN vv ph k bb 1] (hN 1) ai (aL ((g) 1) 0) 1 1 ((g) 1) 0 aK rfl) rfl rfl rfl rfl hcs ⟨ew 5 rfl,⟨1,ai,rfl⟩,⟨2,ai,rfl⟩,⟨3,ai,rfl⟩,an⟩ aK λ v H' hq=>?_;obtain⟨rfl,rfl⟩:=hq;exact⟨rfl,cF [0] ab rfl (S2_013 g) bG a7 [0,1,2,3,4,5,6] ab rfl⟩
  ·refine b8 rfl rfl rfl rfl rfl rfl rfl (λ _=>rfl) λ x=>cF [1] (by decide) rfl (S1_0123 (λ j=>if j=2 then x else (g) j)) (by decide+kernel) ⟨rfl,rfl,rfl,rfl,rfl,rfl,rfl,rfl,rfl,rfl,rfl,an⟩ [1,2,3,4,5,6,0,7] (by decide) rfl
 refine dj (α:=Nat->Nat) 9 (qA 1 [0,1,2]) (qz vv ph k bb p8 1 [0,1,2]) (qB V vv ph k bb s p8 [0,1,2]) (λ g=>?_) λ S1_012=>?_
 ·refine av 8 [15] bG ab ⟨⟨_,rfl,?_⟩,⟨_,rfl,?_⟩,an⟩
  ·refine bA [] (ft V (zW 1) ab [wN vv ph k bb 1] (hN 1) ai (aL ((g) 1) 0) 1 1 ((g) 1) 0 aK rfl) rfl rfl rfl rfl hcs ⟨ew 5 rfl,⟨1,ai,rfl⟩,⟨2,ai,rfl⟩,⟨3,ai,rfl⟩,an⟩ aK λ v H' hq=>?_;obtain⟨rfl,rfl⟩:=hq;exact⟨rfl,cF [0] ab rfl (S2_012 g) bG a7 [0,1,2,3,4,5,6] ab rfl⟩
  ·refine b8 rfl rfl rfl rfl rfl rfl rfl (λ _=>rfl) λ x=>cF [1] (by decide) rfl (S1_0123 (λ j=>if j=3 then x else (g) j)) (by decide+kernel) ⟨rfl,rfl,rfl,rfl,rfl,rfl,rfl,rfl,rfl,rfl,rfl,an⟩ [1,2,3,4,5,6,7,0] (by decide) rfl
 refine dj (α:=Nat->Nat) 10 (qA 1 [0,3]) (qz vv ph k bb p8 1 [0,3]) (qB V vv ph k bb s p8 [0,3]) (λ g=>?_) λ S1_03=>?_
 ·refine av 7 [11] bG ab ⟨⟨_,rfl,?_⟩,⟨_,rfl,?_⟩,an⟩
  ·refine b8 rfl rfl rfl rfl rfl rfl rfl (λ _=>rfl) λ x=>cF [1] (by decide) rfl (S1_013 (λ j=>if j=1 then x else (g) j)) (by decide+kernel) ⟨rfl,rfl,rfl,rfl,rfl,rfl,rfl,rfl,rfl,rfl,an⟩ [1,2,3,4,5,0,6] (by decide) rfl
  ·refine b8 rfl rfl rfl rfl rfl rfl rfl (λ _=>rfl) λ x=>cF [1] (by decide) rfl (S1_023 (λ j=>if j=2 then x else (g) j)) (by decide+kernel) ⟨rfl,rfl,rfl,rfl,rfl,rfl,rfl,rfl,rfl,rfl,an⟩ [1,2,3,4,5,0,6] (by decide) rfl
 refine dj (α:=Nat->Nat) 10 (qA 1 [0,2]) (qz vv ph k bb p8 1 [0,2]) (qB V vv ph k bb s p8 [0,2]) (λ g=>?_) λ S1_02=>?_
 ·refine av 7 [15] bG ab ⟨⟨_,rfl,?_⟩,⟨_,rfl,?_⟩,an⟩
  ·refine b8 rfl rfl rfl rfl rfl rfl rfl (λ _=>rfl) λ x=>cF [1] (by decide) rfl (S1_012 (λ j=>if j=1 then x else (g) j)) (by decide+kernel) ⟨rfl,rfl,rfl,rfl,rfl,rfl,rfl,rfl,rfl,rfl,an⟩ [1,2,3,4,5,0,6] (by decide) rfl
  ·refine b8 rfl rfl rfl rfl rfl rfl rfl (λ _=>rfl) λ x=>cF [1] (by decide) rfl (S1_023 (λ j=>if j=3 then x else (g) j)) (by decide+kernel) ⟨rfl,rfl,rfl,rfl,rfl,rfl,rfl,rfl,rfl,rfl,an⟩ [1,2,3,4,5,6,0] (by decide) rfl
 refine dj (α:=Nat->Nat) 10 (qA 1 [0,1]) (qz vv ph k bb p8 1 [0,1]) (qB V vv ph k bb s p8 [0,1]) (λ g=>?_) λ S1_01=>?_
 ·refine av 8 [11,15] bG ab ⟨⟨_,rfl,?_⟩,⟨_,rfl,?_⟩,⟨_,rfl,?_⟩,an⟩
  ·refine bA [] (ft V (zW 1) ab [wN vv ph k bb 1] (hN 1) ai (aL ((g) 1) 0) 1 1 ((g) 1) 0 aK rfl) rfl rfl rfl rfl hcs ⟨ew 5 rfl,⟨1,ai,rfl⟩,⟨2,ai,rfl⟩,⟨3,ai,rfl⟩,an⟩ aK λ v H' hq=>?_;obtain⟨rfl,rfl⟩:=hq;exact⟨rfl,cF [0] ab rfl (S2_01 g) bG a7 [0,1,2,3,4,5] ab rfl⟩
  ·refine b8 rfl rfl rfl rfl rfl rfl rfl (λ _=>rfl) λ x=>cF [1] (by decide) rfl (S1_012 (λ j=>if j=2 then x else (g) j)) (by decide+kernel) ⟨rfl,rfl,rfl,rfl,rfl,rfl,rfl,rfl,rfl,rfl,an⟩ [1,2,3,4,5,6,0] (by decide) rfl
  ·refine b8 rfl rfl rfl rfl rfl rfl rfl (λ _=>rfl) λ x=>cF [1] (by decide) rfl (S1_013 (λ j=>if j=3 then x else (g) j)) (by decide+kernel) ⟨rfl,rfl,rfl,rfl,rfl,rfl,rfl,rfl,rfl,rfl,an⟩ [1,2,3,4,5,6,0] (by decide) rfl
 refine dj (α:=Nat->Nat) 11 (qA 1 [0]) (qz vv ph k bb p8 1 [0]) (qB V vv ph k bb s p8 [0]) (λ g=>?_) λ S1_0=>?_
 ·refine av 7 [11,15] bG ab ⟨⟨_,rfl,?_⟩,⟨_,rfl,?_⟩,⟨_,rfl,?_⟩,an⟩
  ·refine b8 rfl rfl rfl rfl rfl rfl rfl (λ _=>rfl) λ x=>cF [1] (by decide) rfl (S1_01 (λ j=>if j=1 then x else (g) j)) (by decide+kernel) ⟨rfl,rfl,rfl,rfl,rfl,rfl,rfl,rfl,rfl,an⟩ [1,2,3,4,5,0] (by decide) rfl
  ·refine b8 rfl rfl rfl rfl rfl rfl rfl (λ _=>rfl) λ x=>cF [1] (by decide) rfl (S1_02 (λ j=>if j=2 then x else (g) j)) (by decide+kernel) ⟨rfl,rfl,rfl,rfl,rfl,rfl,rfl,rfl,rfl,an⟩ [1,2,3,4,5,0] (by decide) rfl
  ·refine b8 rfl rfl rfl rfl rfl rfl rfl (λ _=>rfl) λ x=>cF [1] (by decide) rfl (S1_03 (λ j=>if j=3 then x else (g) j)) (by decide+kernel) ⟨rfl,rfl,rfl,rfl,rfl,rfl,rfl,rfl,rfl,an⟩ [1,2,3,4,5,0] (by decide) rfl
 refine dj (α:=Nat->Nat) 9 (qA 0 [0,1,2,3]) (qz vv ph k bb p8 0 [0,1,2,3]) (qB V vv ph k bb s p8 [0,1,2,3]) (λ g=>?_) λ S0_0123=>?_
 ·refine av 4 [] bG ab ⟨⟨_,rfl,?_⟩,an⟩
  ·refine bA [] (ft V (zW 0) ab [wN vv ph k bb 0] (hN 0) ai (aL ((g) 0) 0) 1 1 ((g) 0) 0 aK rfl) rfl rfl rfl rfl hcs ⟨ew 4 rfl,⟨1,ai,rfl⟩,⟨2,ai,rfl⟩,⟨3,ai,rfl⟩,an⟩ aK λ v H' hq=>?_;obtain⟨rfl,rfl⟩:=hq;exact⟨rfl,cF [0] ab rfl (S1_0123 g) bG a7 [0,1,2,3,4,5,6,7] ab rfl⟩
 refine dj (α:=Nat->Nat) 10 (qA 0 [1,2,3]) (qz vv ph k bb p8 0 [1,2,3]) (qB V vv ph k bb s p8 [1,2,3]) (λ g=>?_) λ S0_123=>?_
 ·refine av 3 [] bG ab ⟨⟨_,rfl,?_⟩,an⟩
  ·refine b8 rfl rfl rfl rfl rfl rfl rfl (λ _=>rfl) λ x=>cF [1] (by decide) rfl (S0_0123 (λ j=>if j=0 then x else (g) j)) (by decide+kernel) ⟨rfl,rfl,rfl,rfl,rfl,rfl,rfl,rfl,rfl,rfl,an⟩ [1,2,3,4,0,5,6,7] (by decide) rfl
 refine dj (α:=Nat->Nat) 10 (qA 0 [0,2,3]) (qz vv ph k bb p8 0 [0,2,3]) (qB V vv ph k bb s p8 [0,2,3]) (λ g=>?_) λ S0_023=>?_
 ·refine av 4 [7] bG ab ⟨⟨_,rfl,?_⟩,⟨_,rfl,?_⟩,an⟩
  ·refine bA [] (ft V (zW 0) ab [wN vv ph k bb 0] (hN 0) ai (aL ((g) 0) 0) 1 1 ((g) 0) 0 aK rfl) rfl rfl rfl rfl hcs ⟨ew 4 rfl,⟨1,ai,rfl⟩,⟨2,ai,rfl⟩,⟨3,ai,rfl⟩,an⟩ aK λ v H' hq=>?_;obtain⟨rfl,rfl⟩:=hq;exact⟨rfl,cF [0] ab rfl (S1_023 g) bG a7 [0,1,2,3,4,5,6] ab rfl⟩
  ·refine b8 rfl rfl rfl rfl rfl rfl rfl (λ _=>rfl) λ x=>cF [1] (by decide) rfl (S0_0123 (λ j=>if j=1 then x else (g) j)) (by decide+kernel) ⟨rfl,rfl,rfl,rfl,rfl,rfl,rfl,rfl,rfl,rfl,an⟩ [1,2,3,4,5,0,6,7] (by decide) rfl
 refine dj (α:=Nat->Nat) 10 (qA 0 [0,1,3]) (qz vv ph k bb p8 0 [0,1,3]) (qB V vv ph k bb s p8 [0,1,3]) (λ g=>?_) λ S0_013=>?_
 ·refine av 4 [11] bG ab ⟨⟨_,rfl,?_⟩,⟨_,rfl,?_⟩,an⟩
  ·refine bA [] (ft V (zW 0) ab [wN vv ph k bb 0] (hN 0) ai (aL ((g) 0) 0) 1 1 ((g) 0) 0 aK rfl) rfl rfl rfl rfl hcs ⟨ew 4 rfl,⟨1,ai,rfl⟩,⟨2,ai,rfl⟩,⟨3,ai,rfl⟩,an⟩ aK λ v H' hq=>?_;obtain⟨rfl,rfl⟩:=hq;exact⟨rfl,cF [0] ab rfl (S1_013 g) bG a7 [0,1,2,3,4,5,6] ab rfl⟩
  ·refine b8 rfl rfl rfl rfl rfl rfl rfl (λ _=>rfl) λ x=>cF [1] (by decide) rfl (S0_0123 (λ j=>if j=2 then x else (g) j)) (by decide+kernel) ⟨rfl,rfl,rfl,rfl,rfl,rfl,rfl,rfl,rfl,rfl,an⟩ [1,2,3,4,5,6,0,7] (by decide) rfl
 refine dj (α:=Nat->Nat) 10 (qA 0 [0,1,2]) (qz vv ph k bb p8 0 [0,1,2]) (qB V vv ph k bb s p8 [0,1,2]) (λ g=>?_) λ S0_012=>?_
 ·refine av 4 [15] bG ab ⟨⟨_,rfl,?_⟩,⟨_,rfl,?_⟩,an⟩
  ·refine bA [] (ft V (zW 0) ab [wN vv ph k bb 0] (hN 0) ai (aL ((g) 0) 0) 1 1 ((g) 0) 0 aK rfl) rfl rfl rfl rfl hcs ⟨ew 4 rfl,⟨1,ai,rfl⟩,⟨2,ai,rfl⟩,⟨3,ai,rfl⟩,an⟩ aK λ v H' hq=>?_;obtain⟨rfl,rfl⟩:=hq;exact⟨rfl,cF [0] ab rfl (S1_012 g) bG a7 [0,1,2,3,4,5,6] ab rfl⟩
  ·refine b8 rfl rfl rfl rfl rfl rfl rfl (λ _=>rfl) λ x=>cF [1] (by decide) rfl (S0_0123 (λ j=>if j=3 then x else (g) j)) (by decide+kernel) ⟨rfl,rfl,rfl,rfl,rfl,rfl,rfl,rfl,rfl,rfl,an⟩ [1,2,3,4,5,6,7,0] (by decide) rfl
 refine dj (α:=Nat->Nat) 11 (qA 0 [2,3]) (qz vv ph k bb p8 0 [2,3]) (qB V vv ph k bb s p8 [2,3]) (λ g=>?_) λ S0_23=>?_
 ·refine av 3 [7] bG ab ⟨⟨_,rfl,?_⟩,⟨_,rfl,?_⟩,an⟩
  ·refine b8 rfl rfl rfl rfl rfl rfl rfl (λ _=>rfl) λ x=>cF [1] (by decide) rfl (S0_023 (λ j=>if j=0 then x else (g) j)) (by decide+kernel) ⟨rfl,rfl,rfl,rfl,rfl,rfl,rfl,rfl,rfl,an⟩ [1,2,3,4,0,5,6] (by decide) rfl
  ·refine b8 rfl rfl rfl rfl rfl rfl rfl (λ _=>rfl) λ x=>cF [1] (by decide) rfl (S0_123 (λ j=>if j=1 then x else (g) j)) (by decide+kernel) ⟨rfl,rfl,rfl,rfl,rfl,rfl,rfl,rfl,rfl,an⟩ [1,2,3,4,0,5,6] (by decide) rfl
 refine dj (α:=Nat->Nat) 11 (qA 0 [1,3]) (qz vv ph k bb p8 0 [1,3]) (qB V vv ph k bb s p8 [1,3]) (λ g=>?_) λ S0_13=>?_
 ·refine av 3 [11] bG ab ⟨⟨_,rfl,?_⟩,⟨_,rfl,?_⟩,an⟩
  ·refine b8 rfl rfl rfl rfl rfl rfl rfl (λ _=>rfl) λ x=>cF [1] (by decide) rfl (S0_013 (λ j=>if j=0 then x else (g) j)) (by decide+kernel) ⟨rfl,rfl,rfl,rfl,rfl,rfl,rfl,rfl,rfl,an⟩ [1,2,3,4,0,5,6] (by decide) rfl
  ·refine b8 rfl rfl rfl rfl rfl rfl rfl (λ _=>rfl) λ x=>cF [1] (by decide) rfl (S0_123 (λ j=>if j=2 then x else (g) j)) (by decide+kernel) ⟨rfl,rfl,rfl,rfl,rfl,rfl,rfl,rfl,rfl,an⟩ [1,2,3,4,5,0,6] (by decide) rfl
 refine dj (α:=Nat->Nat) 11 (qA 0 [1,2]) (qz vv ph k bb p8 0 [1,2]) (qB V vv ph k bb s p8 [1,2]) (λ g=>?_) λ S0_12=>?_
 ·refine av 3 [15] bG ab ⟨⟨_,rfl,?_⟩,⟨_,rfl,?_⟩,an⟩
  ·refine b8 rfl rfl rfl rfl rfl rfl rfl (λ _=>rfl) λ x=>cF [1] (by decide) rfl (S0_012 (λ j=>if j=0 then x else (g) j)) (by decide+kernel) ⟨rfl,rfl,rfl,rfl,rfl,rfl,rfl,rfl,rfl,an⟩ [1,2,3,4,0,5,6] (by decide) rfl
  ·refine b8 rfl rfl rfl rfl rfl rfl rfl (λ _=>rfl) λ x=>cF [1] (by decide) rfl (S0_123 (λ j=>if j=3 then x else (g) j)) (by decide+kernel) ⟨rfl,rfl,rfl,rfl,rfl,rfl,rfl,rfl,rfl,an⟩ [1,2,3,4,5,6,0] (by decide) rfl
 refine dj (α:=Nat->Nat) 11 (qA 0 [0,3]) (qz vv ph k bb p8 0 [0,3]) (qB V vv ph k bb s p8 [0,3]) (λ g=>?_) λ S0_03=>?_
 ·refine av 4 [7,11] bG ab ⟨⟨_,rfl,?_⟩,⟨_,rfl,?_⟩,⟨_,rfl,?_⟩,an⟩
  ·refine bA [] (ft V (zW 0) ab [wN vv ph k bb 0] (hN 0) ai (aL ((g) 0) 0) 1 1 ((g) 0) 0 aK rfl) rfl rfl rfl rfl hcs ⟨ew 4 rfl,⟨1,ai,rfl⟩,⟨2,ai,rfl⟩,⟨3,ai,rfl⟩,an⟩ aK λ v H' hq=>?_;obtain⟨rfl,rfl⟩:=hq;exact⟨rfl,cF [0] ab rfl (S1_03 g) bG a7 [0,1,2,3,4,5] ab rfl⟩
  ·refine b8 rfl rfl rfl rfl rfl rfl rfl (λ _=>rfl) λ x=>cF [1] (by decide) rfl (S0_013 (λ j=>if j=1 then x else (g) j)) (by decide+kernel) ⟨rfl,rfl,rfl,rfl,rfl,rfl,rfl,rfl,rfl,an⟩ [1,2,3,4,5,0,6] (by decide) rfl
  ·refine b8 rfl rfl rfl rfl rfl rfl rfl (λ _=>rfl) λ x=>cF [1] (by decide) rfl (S0_023 (λ j=>if j=2 then x else (g) j)) (by decide+kernel) ⟨rfl,rfl,rfl,rfl,rfl,rfl,rfl,rfl,rfl,an⟩ [1,2,3,4,5,0,6] (by decide) rfl
 refine dj (α:=Nat->Nat) 11 (qA 0 [0,2]) (qz vv ph k bb p8 0 [0,2]) (qB V vv ph k bb s p8 [0,2]) (λ g=>?_) λ S0_02=>?_
 ·refine av 4 [7,15] bG ab ⟨⟨_,rfl,?_⟩,⟨_,rfl,?_⟩,⟨_,rfl,?_⟩,an⟩
  ·refine bA [] (ft V (zW 0) ab [wN vv ph k bb 0] (hN 0) ai (aL ((g) 0) 0) 1 1 ((g) 0) 0 aK rfl) rfl rfl rfl rfl hcs ⟨ew 4 rfl,⟨1,ai,rfl⟩,⟨2,ai,rfl⟩,⟨3,ai,rfl⟩,an⟩ aK λ v H' hq=>?_;obtain⟨rfl,rfl⟩:=hq;exact⟨rfl,cF [0] ab rfl (S1_02 g) bG a7 [0,1,2,3,4,5] ab rfl⟩
  ·refine b8 rfl rfl rfl rfl rfl rfl rfl (λ _=>rfl) λ x=>cF [1] (by decide) rfl (S0_012 (λ j=>if j=1 then x else (g) j)) (by decide+kernel) ⟨rfl,rfl,rfl,rfl,rfl,rfl,rfl,rfl,rfl,an⟩ [1,2,3,4,5,0,6] (by decide) rfl
  ·refine b8 rfl rfl rfl rfl rfl rfl rfl (λ _=>rfl) λ x=>cF [1] (by decide) rfl (S0_023 (λ j=>if j=3 then x else (g) j)) (by decide+kernel) ⟨rfl,rfl,rfl,rfl,rfl,rfl,rfl,rfl,rfl,an⟩ [1,2,3,4,5,6,0] (by decide) rfl
 refine dj (α:=Nat->Nat) 11 (qA 0 [0,1]) (qz vv ph k bb p8 0 [0,1]) (qB V vv ph k bb s p8 [0,1]) (λ g=>?_) λ S0_01=>?_
 ·refine av 4 [11,15] bG ab ⟨⟨_,rfl,?_⟩,⟨_,rfl,?_⟩,⟨_,rfl,?_⟩,an⟩
  ·refine bA [] (ft V (zW 0) ab [wN vv ph k bb 0] (hN 0) ai (aL ((g) 0) 0) 1 1 ((g) 0) 0 aK rfl) rfl rfl rfl rfl hcs ⟨ew 4 rfl,⟨1,ai,rfl⟩,⟨2,ai,rfl⟩,⟨3,ai,rfl⟩,an⟩ aK λ v H' hq=>?_;obtain⟨rfl,rfl⟩:=hq;exact⟨rfl,cF [0] ab rfl (S1_01 g) bG a7 [0,1,2,3,4,5] ab rfl⟩
  ·refine b8 rfl rfl rfl rfl rfl rfl rfl (λ _=>rfl) λ x=>cF [1] (by decide) rfl (S0_012 (λ j=>if j=2 then x else (g) j)) (by decide+kernel) ⟨rfl,rfl,rfl,rfl,rfl,rfl,rfl,rfl,rfl,an⟩ [1,2,3,4,5,6,0] (by decide) rfl
  ·refine b8 rfl rfl rfl rfl rfl rfl rfl (λ _=>rfl) λ x=>cF [1] (by decide) rfl (S0_013 (λ j=>if j=3 then x else (g) j)) (by decide+kernel) ⟨rfl,rfl,rfl,rfl,rfl,rfl,rfl,rfl,rfl,an⟩ [1,2,3,4,5,6,0] (by decide) rfl
 refine dj (α:=Nat->Nat) 12 (qA 0 [3]) (qz vv ph k bb p8 0 [3]) (qB V vv ph k bb s p8 [3]) (λ g=>?_) λ S0_3=>?_
 ·refine av 3 [7,11] bG ab ⟨⟨_,rfl,?_⟩,⟨_,rfl,?_⟩,⟨_,rfl,?_⟩,an⟩
  ·refine b8 rfl rfl rfl rfl rfl rfl rfl (λ _=>rfl) λ x=>cF [1] (by decide) rfl (S0_03 (λ j=>if j=0 then x else (g) j)) (by decide+kernel) ⟨rfl,rfl,rfl,rfl,rfl,rfl,rfl,rfl,an⟩ [1,2,3,4,0,5] (by decide) rfl
  ·refine b8 rfl rfl rfl rfl rfl rfl rfl (λ _=>rfl) λ x=>cF [1] (by decide) rfl (S0_13 (λ j=>if j=1 then x else (g) j)) (by decide+kernel) ⟨rfl,rfl,rfl,rfl,rfl,rfl,rfl,rfl,an⟩ [1,2,3,4,0,5] (by decide) rfl
  ·refine b8 rfl rfl rfl rfl rfl rfl rfl (λ _=>rfl) λ x=>cF [1] (by decide) rfl (S0_23 (λ j=>if j=2 then x else (g) j)) (by decide+kernel) ⟨rfl,rfl,rfl,rfl,rfl,rfl,rfl,rfl,an⟩ [1,2,3,4,0,5] (by decide) rfl
 refine dj (α:=Nat->Nat) 12 (qA 0 [2]) (qz vv ph k bb p8 0 [2]) (qB V vv ph k bb s p8 [2]) (λ g=>?_) λ S0_2=>?_
 ·refine av 3 [7,15] bG ab ⟨⟨_,rfl,?_⟩,⟨_,rfl,?_⟩,⟨_,rfl,?_⟩,an⟩
  ·refine b8 rfl rfl rfl rfl rfl rfl rfl (λ _=>rfl) λ x=>cF [1] (by decide) rfl (S0_02 (λ j=>if j=0 then x else (g) j)) (by decide+kernel) ⟨rfl,rfl,rfl,rfl,rfl,rfl,rfl,rfl,an⟩ [1,2,3,4,0,5] (by decide) rfl
  ·refine b8 rfl rfl rfl rfl rfl rfl rfl (λ _=>rfl) λ x=>cF [1] (by decide) rfl (S0_12 (λ j=>if j=1 then x else (g) j)) (by decide+kernel) ⟨rfl,rfl,rfl,rfl,rfl,rfl,rfl,rfl,an⟩ [1,2,3,4,0,5] (by decide) rfl
  ·refine b8 rfl rfl rfl rfl rfl rfl rfl (λ _=>rfl) λ x=>cF [1] (by decide) rfl (S0_23 (λ j=>if j=3 then x else (g) j)) (by decide+kernel) ⟨rfl,rfl,rfl,rfl,rfl,rfl,rfl,rfl,an⟩ [1,2,3,4,5,0] (by decide) rfl
 refine dj (α:=Nat->Nat) 12 (qA 0 [1]) (qz vv ph k bb p8 0 [1]) (qB V vv ph k bb s p8 [1]) (λ g=>?_) λ S0_1=>?_
 ·refine av 3 [11,15] bG ab ⟨⟨_,rfl,?_⟩,⟨_,rfl,?_⟩,⟨_,rfl,?_⟩,an⟩
  ·refine b8 rfl rfl rfl rfl rfl rfl rfl (λ _=>rfl) λ x=>cF [1] (by decide) rfl (S0_01 (λ j=>if j=0 then x else (g) j)) (by decide+kernel) ⟨rfl,rfl,rfl,rfl,rfl,rfl,rfl,rfl,an⟩ [1,2,3,4,0,5] (by decide) rfl
  ·refine b8 rfl rfl rfl rfl rfl rfl rfl (λ _=>rfl) λ x=>cF [1] (by decide) rfl (S0_12 (λ j=>if j=2 then x else (g) j)) (by decide+kernel) ⟨rfl,rfl,rfl,rfl,rfl,rfl,rfl,rfl,an⟩ [1,2,3,4,5,0] (by decide) rfl
  ·refine b8 rfl rfl rfl rfl rfl rfl rfl (λ _=>rfl) λ x=>cF [1] (by decide) rfl (S0_13 (λ j=>if j=3 then x else (g) j)) (by decide+kernel) ⟨rfl,rfl,rfl,rfl,rfl,rfl,rfl,rfl,an⟩ [1,2,3,4,5,0] (by decide) rfl
 refine dj (α:=Nat->Nat) 12 (qA 0 [0]) (qz vv ph k bb p8 0 [0]) (qB V vv ph k bb s p8 [0]) (λ g=>?_) λ S0_0=>?_
 ·refine av 4 [7,11,15] bG ab ⟨⟨_,rfl,?_⟩,⟨_,rfl,?_⟩,⟨_,rfl,?_⟩,⟨_,rfl,?_⟩,an⟩
  ·refine bA [] (ft V (zW 0) ab [wN vv ph k bb 0] (hN 0) ai (aL ((g) 0) 0) 1 1 ((g) 0) 0 aK rfl) rfl rfl rfl rfl hcs ⟨ew 4 rfl,⟨1,ai,rfl⟩,⟨2,ai,rfl⟩,⟨3,ai,rfl⟩,an⟩ aK λ v H' hq=>?_;obtain⟨rfl,rfl⟩:=hq;exact⟨rfl,cF [0] ab rfl (S1_0 g) bG a7 [0,1,2,3,4] ab rfl⟩
  ·refine b8 rfl rfl rfl rfl rfl rfl rfl (λ _=>rfl) λ x=>cF [1] (by decide) rfl (S0_01 (λ j=>if j=1 then x else (g) j)) (by decide+kernel) ⟨rfl,rfl,rfl,rfl,rfl,rfl,rfl,rfl,an⟩ [1,2,3,4,5,0] (by decide) rfl
  ·refine b8 rfl rfl rfl rfl rfl rfl rfl (λ _=>rfl) λ x=>cF [1] (by decide) rfl (S0_02 (λ j=>if j=2 then x else (g) j)) (by decide+kernel) ⟨rfl,rfl,rfl,rfl,rfl,rfl,rfl,rfl,an⟩ [1,2,3,4,5,0] (by decide) rfl
  ·refine b8 rfl rfl rfl rfl rfl rfl rfl (λ _=>rfl) λ x=>cF [1] (by decide) rfl (S0_03 (λ j=>if j=3 then x else (g) j)) (by decide+kernel) ⟨rfl,rfl,rfl,rfl,rfl,rfl,rfl,rfl,an⟩ [1,2,3,4,5,0] (by decide) rfl
 refine av 3 [7,11,15] bG ab ⟨⟨_,rfl,?_⟩,⟨_,rfl,?_⟩,⟨_,rfl,?_⟩,⟨_,rfl,?_⟩,an⟩
 ·refine b8 rfl rfl rfl rfl rfl rfl rfl (λ _=>rfl) λ x=>cF [1] (by decide) rfl (S0_0 (λ j=>if j=0 then x else (λ _=>0) j)) (by decide+kernel) ⟨rfl,rfl,rfl,rfl,rfl,rfl,rfl,an⟩ [1,2,3,4,0] (by decide) rfl
 ·refine b8 rfl rfl rfl rfl rfl rfl rfl (λ _=>rfl) λ x=>cF [1] (by decide) rfl (S0_1 (λ j=>if j=1 then x else (λ _=>0) j)) (by decide+kernel) ⟨rfl,rfl,rfl,rfl,rfl,rfl,rfl,an⟩ [1,2,3,4,0] (by decide) rfl
 ·refine b8 rfl rfl rfl rfl rfl rfl rfl (λ _=>rfl) λ x=>cF [1] (by decide) rfl (S0_2 (λ j=>if j=2 then x else (λ _=>0) j)) (by decide+kernel) ⟨rfl,rfl,rfl,rfl,rfl,rfl,rfl,an⟩ [1,2,3,4,0] (by decide) rfl
 ·refine b8 rfl rfl rfl rfl rfl rfl rfl (λ _=>rfl) λ x=>cF [1] (by decide) rfl (S0_3 (λ j=>if j=3 then x else (λ _=>0) j)) (by decide+kernel) ⟨rfl,rfl,rfl,rfl,rfl,rfl,rfl,an⟩ [1,2,3,4,0] (by decide) rfl
end Go.Proofs.YtmcnpaelaieniaaGreatDoor
