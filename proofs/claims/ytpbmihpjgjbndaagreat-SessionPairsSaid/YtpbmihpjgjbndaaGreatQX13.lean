/- The engine and the words that all chapters share: several texts in one. -/
import Derived.Test.YtpbmihpjgjbndaaGreatSesF
import Derived.Test.YtpbmihpjgjbndaaGreatSesC
import Derived.Test.YtpbmihpjgjbndaaGreatSesE
import Derived.Test.YtpbmihpjgjbndaaGreatCovQ
import Derived.Laws.Pointers
/- SessionPairs: the pairs of a graph, and their cover, or what is wrong. No condition but what the row lists. -/
set_option linter.unusedVariables false
set_option linter.unusedSimpArgs false
namespace Go.Proofs.YtpbmihpjgjbndaaGreat
open Go.RowKit
structure vG (g:Gr) (l sl sr:List Int):Prop where
 isl:cF g.left sl
 isr:cF g.right sr
 inl:∀ v:Nat,1≤v→(v:Int)≤g.left→((v:Int)∈sl↔¬ gI g l v)
 inr:∀ w:Nat,1≤w→(w:Int)≤g.right→((w:Int)∈sr↔gP g l w)
theorem rT {m:Int} {P:Nat→Prop} {s t:List Int} (hs:cF m s) (ht:cF m t) (h1:∀ v:Nat,1≤v→(v:Int)≤m→((v:Int)∈s↔P v)) (h2:∀ v:Nat,1≤v→(v:Int)≤m→((v:Int)∈t↔P v)):s=t:=by
 refine ru hs.rise ht.rise fun x=>?_
 constructor
 ·intro hx
  have:=hs.rng x hx
  have e:((x.toNat:Nat):Int)=x:=by omega
  have:=(h1 x.toNat (by omega) (by omega)).1 (by rw[e];exact hx)
  have:=(h2 x.toNat (by omega) (by omega)).2 this
  rwa [e] at this
 ·intro hx
  have:=ht.rng x hx
  have e:((x.toNat:Nat):Int)=x:=by omega
  have:=(h2 x.toNat (by omega) (by omega)).1 (by rw[e];exact hx)
  have:=(h1 x.toNat (by omega) (by omega)).2 this
  rwa [e] at this
theorem vG.uniq {g:Gr} {l sl sr sl' sr':List Int} (h:vG g l sl sr) (h':vG g l sl' sr'):sl=sl'∧sr=sr':=
 ⟨rT h.isl h'.isl h.inl h'.inl,rT h.isr h'.isr h.inr h'.inr⟩
theorem ku {m:Int} {n:Nat} (hm:m=n) {s:List Int} (h:cF m s):s.length≤n:=by
 have:=fL s ((List.range n).map fun (i:Nat)=>((i:Int)+1)) h.nodup (fun x hx=>by
  have:=h.rng x hx
  rw[List.mem_map]
  exact⟨(x-1).toNat,List.mem_range.2 (by omega),by omega⟩)
 simpa using this
def wN (g:Gr) (sg:Int) (v:Value) (H':Heap):Prop:=∃ (e:Int) (l sl sr:List Int) (A Al Ar:Option Addr) (c cl cr:Nat),mR g sg e l∧(e=0→bC g l∧(∀ w,gP g l w→j6 g (·.r) l w)∧vG g l sl sr)∧(e≠0→sl=[]∧sr=[])∧sl.length≤200∧sr.length≤200∧l.length≤1500∧
 v=.tuple #[.slice A l.length c,lE sl sr Al Ar cl cr,.int .i64 e]∧H'=[.own (.slice A l.length c) 3 1 l.length (aw l),.own (.slice Al sl.length cl) 3 1 sl.length (aw sl),.own (.slice Ar sr.length cr) 3 1 sr.length (aw sr)]
theorem mR.good {g:Gr} (hg:g.Fits) {sg e:Int} {l:List Int} (h:mR g sg e l):l.length≤g.edges.length∧(e≠0→l=[])∧(e=0→g.Right∧bC g l∧∀ w,gP g l w→j6 g (·.r) l w):=by
 rcases h with ⟨h1,h2,rfl,f,ph,wk,h3,h4,rfl⟩|⟨h1,h2,rfl,rfl⟩|⟨h1,rfl,rfl⟩
 ·have hR:=(da hg).1 h1
  have a:=hR.left
  have b:=hR.right
  have hl:g.left=(g.left.toNat:Nat):=by omega
  have hr:g.right=(g.right.toNat:Nat):=by omega
  exact⟨gO _ _ _,fun h=>absurd rfl h,fun _=>⟨hR,mN hR h3.1 hl hr,n9 hR h3 hl hr⟩⟩
 ·exact⟨Nat.zero_le _,fun _=>rfl,fun h=>absurd h (by decide)⟩
 ·exact⟨Nat.zero_le _,fun _=>rfl,fun h=>absurd h h1⟩
theorem pj {g:Gr} (hg:g.Fits) {l:List Int} (hM:bC g l):∀ x∈l,dw x:=fun x hx=>by
 have:=hM.rng x hx
 have:=hg.len
 unfold dw;omega
set_option maxHeartbeats 1000000 in
theorem sW (sg:Int) (g:Gr) (hg:g.Fits) (A:Option Addr) (c b o:Nat) (hA:g.edges≠[]→A=some ⟨b,o,none⟩) (ps:Value):Fn 8 [ps,j7 g A c,.int .u8 sg] [] [.seg b o (cd g.edges)] (wN g sg):=by
 have hgl:=hg.len
 refine em Tryz.func8 rfl rfl fun w0=>?_
 refine ae (aa ?_)
 refine a6 (cs:=eE g A c) rfl rfl rfl (fun _=>rfl) fun p4=>?_
 (repeat' (first
  |refine aj ?_
  |refine ao (gs:=[999]) rfl ?_
  |refine ab [999] (ad 0 rfl rfl rfl rfl) rfl ?_
  |refine ab [999] (a7 rfl rfl rfl rfl rfl (by first|assumption|omega)) rfl ?_
  |refine ab [999] (OpV_arr (m:=0) rfl rfl rfl rfl rfl (by decide)) rfl ?_
  |refine ab [999] (OpV_arr (m:=1) rfl rfl rfl rfl rfl (by decide)) rfl ?_
  |refine ab [999] (OpV_dn 1 rfl rfl rfl rfl (by first|assumption|omega) (by first|assumption|omega)) rfl ?_
  |refine ab [999] (OpV_nd 1 rfl rfl rfl rfl rfl (by first|assumption|omega) rfl rfl) rfl ?_))
 refine aQ rfl rfl rfl (fun _=>rfl) fun p7=>?_
 refine af [] rfl ?_
 refine ae (aa ?_)
 refine ab [] (v:=j7 g A c) (ad 1 rfl rfl rfl rfl) rfl ?_
 refine ah [] rfl ?_
 refine ax [] (si sg g hg A c b o hA) rfl rfl rfl rfl (by kernel_rfl) ⟨⟨2,_,by simp,rfl,ak _ _ _,ap⟩,trivial⟩ (fun _=>rfl) ?_
 rintro v H' ⟨e,l,Al0,cl0,hP,rfl,rfl⟩
 refine⟨rfl,?_⟩
 obtain⟨hll,hnil,hgood⟩:=hP.good hg
 refine af [] rfl ?_
 refine ae (ae (aa (af [] rfl ?_)))
 refine aC rfl (fun hz=>?_) (fun hz=>aq ?_)
 ·obtain rfl:=hnil hz
  refine bO 3 1 ?_
  refine bO 3 1 ?_
  refine bO 3 1 ?_
  refine ae (aa ?_)
  refine ab [] (bg rfl rfl rfl rfl rfl rfl) rfl ?_
  (repeat' (first
   |refine aj ?_
   |refine ao (gs:=[999]) rfl ?_
   |refine ab [999] (ad 0 rfl rfl rfl rfl) rfl ?_
   |refine ab [999] (a7 rfl rfl rfl rfl rfl (by first|assumption|omega)) rfl ?_
   |refine ab [999] (OpV_arr (m:=0) rfl rfl rfl rfl rfl (by decide)) rfl ?_
   |refine ab [999] (OpV_arr (m:=1) rfl rfl rfl rfl rfl (by decide)) rfl ?_
   |refine ab [999] (OpV_dn 1 rfl rfl rfl rfl (by first|assumption|omega) (by first|assumption|omega)) rfl ?_
   |refine ab [999] (OpV_nd 1 rfl rfl rfl rfl rfl (by first|assumption|omega) rfl rfl) rfl ?_))
  refine aD 4 rfl rfl rfl rfl rfl [] rfl ?_
  refine af [] rfl ?_
  refine aB ?_
  refine⟨[_,_,_],[0,1,2],_,⟨rfl,⟨p7,4,_,_,rfl,rfl,rfl⟩,rfl,trivial⟩,by decide,rfl,e,[],[],[],none,none,none,0,0,0,hP,fun h=>absurd h hz,fun _=>⟨rfl,rfl⟩,by simp,by simp,by omega,rfl,rfl⟩
 have hz:e=0:=Classical.not_not.1 hz
 subst hz
 obtain⟨hR,hM,hno⟩:=hgood rfl
 refine bG (bp 0 rfl) fun ⟨_,_,hA1,hl1⟩=>?_
 obtain⟨g1,hA1⟩:=bQ hA1 hl1
 refine ae (aa ?_)
 refine ab [] (v:=j7 g A c) (ad 2 rfl rfl rfl rfl) rfl ?_
 refine ah [] rfl ?_
 refine ax [] (xh g hR A c b o hA l (by omega) (pj hg hM) Al0 cl0 g1 0 (dh hA1)) rfl rfl rfl rfl (by kernel_rfl) ⟨⟨3,_,by simp,rfl,ak _ _ _,ap⟩,⟨0,_,by simp,rfl,aS hA1,aZ hA1⟩,trivial⟩ (fun _=>rfl) ?_
 rintro v H' (⟨_,_,sl,sr,Al,Ar,cl,cr,c1,c2,c3,c4,rfl,rfl⟩|⟨_,⟨w,k1,k2⟩,rfl,rfl⟩|⟨k1,rfl,rfl⟩)
 case inr.inl=>exact absurd (hno w k1) k2
 case inr.inr=>exact absurd hM k1
 refine⟨rfl,?_⟩
 refine ah [] rfl ?_
 refine aQ rfl rfl rfl (fun _=>rfl) fun p11=>?_
 refine aD 0 rfl rfl rfl rfl rfl [] rfl ?_
 refine af [] rfl ?_
 refine ae ?_
 refine bq 5 [(0,true),(1,true),(2,true),(3,false),(4,true)] [0] (by kernel_rfl) (by decide) rfl ?_
 refine aJ [] rfl ?_
 refine ai [] (v:=lE sl sr Al Ar cl cr) rfl (ad 0 rfl rfl rfl rfl) rfl ?_
 refine aJ [] rfl ?_
 refine bc rfl ?_
 refine aD 4 rfl rfl rfl rfl rfl [] rfl ?_
 refine aj ⟨⟨[0],by decide,rfl⟩,?_⟩
 refine aJ [] rfl ?_
 refine bB ?_
 refine aj ?_
 have h1:=hR.left
 have h2:=hR.right
 have e1:=ku (m:=g.left) (n:=g.left.toNat) (by omega) c1
 have e2:=ku (m:=g.right) (n:=g.right.toNat) (by omega) c2
 refine aB ?_
 refine⟨[_,_,_],[3,2,1],_,⟨rfl,⟨p7,4,_,_,rfl,rfl,rfl⟩,rfl,trivial⟩,by decide,rfl,0,l,sl,sr,Al0,Al,Ar,cl0,cl,cr,hP,fun _=>⟨hM,hno,⟨c1,c2,c3,c4⟩⟩,fun h=>absurd rfl h,by omega,by omega,by omega,rfl,rfl⟩
set_option maxHeartbeats 1000000 in
theorem qS (sg:Int) (g:Gr) (hg:g.Fits) (A:Option Addr) (c b o:Nat) (hA:g.edges≠[]→A=some ⟨b,o,none⟩):Fn 9 [jG g A c,.int .u8 sg] [] [.seg b o (cd g.edges)] (wN g sg):=by
 have hgl:=hg.len
 refine em Tryz.func9 rfl rfl fun w0=>?_
 refine ae (aa ?_)
 refine a6 (cs:=eE g A c) rfl rfl rfl (fun _=>rfl) fun p4=>?_
 (repeat' (first
  |refine aj ?_
  |refine ao (gs:=[999]) rfl ?_
  |refine ab [999] (ad 0 rfl rfl rfl rfl) rfl ?_
  |refine ab [999] (a7 rfl rfl rfl rfl rfl (by first|assumption|omega)) rfl ?_
  |refine ab [999] (OpV_arr (m:=0) rfl rfl rfl rfl rfl (by decide)) rfl ?_
  |refine ab [999] (OpV_arr (m:=1) rfl rfl rfl rfl rfl (by decide)) rfl ?_
  |refine ab [999] (OpV_dn 1 rfl rfl rfl rfl (by first|assumption|omega) (by first|assumption|omega)) rfl ?_
  |refine ab [999] (OpV_nd 1 rfl rfl rfl rfl rfl (by first|assumption|omega) rfl rfl) rfl ?_))
 refine aQ rfl rfl rfl (fun _=>rfl) fun p7=>?_
 refine af [] rfl ?_
 refine ae (aa ?_)
 refine ab [] (v:=jG g A c) (ad 1 rfl rfl rfl rfl) rfl ?_
 refine ah [] rfl ?_
 refine ax [] (sq sg g hg A c b o hA) rfl rfl rfl rfl (by kernel_rfl) ⟨⟨2,_,by simp,rfl,ak _ _ _,ap⟩,trivial⟩ (fun _=>rfl) ?_
 rintro v H' ⟨e,l,Al0,cl0,hP,rfl,rfl⟩
 refine⟨rfl,?_⟩
 obtain⟨hll,hnil,hgood⟩:=hP.good hg
 refine af [] rfl ?_
 refine ae (ae (aa (af [] rfl ?_)))
 refine aC rfl (fun hz=>?_) (fun hz=>aq ?_)
 ·obtain rfl:=hnil hz
  refine bO 3 1 ?_
  refine bO 3 1 ?_
  refine bO 3 1 ?_
  refine ae (aa ?_)
  refine ab [] (bg rfl rfl rfl rfl rfl rfl) rfl ?_
  (repeat' (first
   |refine aj ?_
   |refine ao (gs:=[999]) rfl ?_
   |refine ab [999] (ad 0 rfl rfl rfl rfl) rfl ?_
   |refine ab [999] (a7 rfl rfl rfl rfl rfl (by first|assumption|omega)) rfl ?_
   |refine ab [999] (OpV_arr (m:=0) rfl rfl rfl rfl rfl (by decide)) rfl ?_
   |refine ab [999] (OpV_arr (m:=1) rfl rfl rfl rfl rfl (by decide)) rfl ?_
   |refine ab [999] (OpV_dn 1 rfl rfl rfl rfl (by first|assumption|omega) (by first|assumption|omega)) rfl ?_
   |refine ab [999] (OpV_nd 1 rfl rfl rfl rfl rfl (by first|assumption|omega) rfl rfl) rfl ?_))
  refine aD 4 rfl rfl rfl rfl rfl [] rfl ?_
  refine af [] rfl ?_
  refine aB ?_
  refine⟨[_,_,_],[0,1,2],_,⟨rfl,⟨p7,4,_,_,rfl,rfl,rfl⟩,rfl,trivial⟩,by decide,rfl,e,[],[],[],none,none,none,0,0,0,hP,fun h=>absurd h hz,fun _=>⟨rfl,rfl⟩,by simp,by simp,by simp,rfl,rfl⟩
 have hz:e=0:=Classical.not_not.1 hz
 subst hz
 obtain⟨hR,hM,hno⟩:=hgood rfl
 refine bG (bp 0 rfl) fun ⟨_,_,hA1,hl1⟩=>?_
 obtain⟨g1,hA1⟩:=bQ hA1 hl1
 refine ae (aa ?_)
 refine ab [] (v:=jG g A c) (ad 2 rfl rfl rfl rfl) rfl ?_
 refine ah [] rfl ?_
 refine ax [] (xa g hR hg A c b o hA l (by omega) hM hno Al0 cl0 g1 0 (dh hA1)) rfl rfl rfl rfl (by kernel_rfl) ⟨⟨3,_,by simp,rfl,ak _ _ _,ap⟩,⟨0,_,by simp,rfl,aS hA1,aZ hA1⟩,trivial⟩ (fun _=>rfl) ?_
 rintro v H' ⟨sl,sr,Al,Ar,cl,cr,c1,c2,c3,c4,rfl,rfl⟩
 refine⟨rfl,?_⟩
 refine ah [] rfl ?_
 refine aQ rfl rfl rfl (fun _=>rfl) fun p11=>?_
 refine aD 0 rfl rfl rfl rfl rfl [] rfl ?_
 refine af [] rfl ?_
 refine ae ?_
 refine bq 5 [(0,true),(1,true),(2,true),(3,false),(4,true)] [0] (by kernel_rfl) (by decide) rfl ?_
 refine aJ [] rfl ?_
 refine ai [] (v:=lE sl sr Al Ar cl cr) rfl (ad 0 rfl rfl rfl rfl) rfl ?_
 refine aJ [] rfl ?_
 refine bc rfl ?_
 refine aD 4 rfl rfl rfl rfl rfl [] rfl ?_
 refine aj ⟨⟨[0],by decide,rfl⟩,?_⟩
 refine aJ [] rfl ?_
 refine bB ?_
 refine aj ?_
 have h1:=hR.left
 have h2:=hR.right
 have e1:=ku (m:=g.left) (n:=g.left.toNat) (by omega) c1
 have e2:=ku (m:=g.right) (n:=g.right.toNat) (by omega) c2
 refine aB ?_
 refine⟨[_,_,_],[3,1,2],_,⟨rfl,⟨p7,4,_,_,rfl,rfl,rfl⟩,rfl,trivial⟩,by decide,rfl,0,l,sl,sr,Al0,Al,Ar,cl0,cl,cr,hP,fun _=>⟨hM,hno,⟨c1,c2,c3,c4⟩⟩,fun h=>absurd rfl h,by omega,by omega,by omega,rfl,rfl⟩
end Go.Proofs.YtpbmihpjgjbndaaGreat
/- A session that has no network yet. -/
set_option linter.unusedVariables false
set_option linter.unusedSimpArgs false
namespace Go.Proofs.YtpbmihpjgjbndaaGreat
open Go.RowKit
section
variable {X:Cx} {E:Env} {H:Heap}
theorem pT {o:Oper} {t t':Nat} {x y:Operand} {p:Addr} (ho:o.op=.binOp .eql t x y t') (hx:val E x=some (.pointer (some p))) (hy:val E y=some (.pointer none)) (h:Tryz.prog.underlying t=some (.pointer (Tryz.prog.pointee t))):jC X o E H (.bool false):=by
 intro a w hA hH
 have hg:(eqGuard .eql t x y (.pointer (some p)) (.pointer none)).run Tryz.prog w=.ok () w:=by simp[eqGuard]
 have hb:(binOp .eql t (.pointer (some p)) (.pointer none)).run Tryz.prog w=.ok (.bool false) w:=run_eql_pointer_nil w t (some p) h
 simp only[execOp,ho,hA.val hx,hA.val hy,Sem.run_bind,hg,hb,Result.andThen_ok]
 rfl
theorem vn {o:Oper} {t t':Nat} {x y:Operand} {p:Addr} (ho:o.op=.binOp .neq t x y t') (hx:val E x=some (.pointer (some p))) (hy:val E y=some (.pointer none)) (h:Tryz.prog.underlying t=some (.pointer (Tryz.prog.pointee t))):jC X o E H (.bool true):=by
 intro a w hA hH
 have hg:(eqGuard .neq t x y (.pointer (some p)) (.pointer none)).run Tryz.prog w=.ok () w:=by simp[eqGuard]
 have hb:(binOp .neq t (.pointer (some p)) (.pointer none)).run Tryz.prog w=.ok (.bool true) w:=run_neq_pointer_nil w t (some p) h
 simp only[execOp,ho,hA.val hx,hA.val hy,Sem.run_bind,hg,hb,Result.andThen_ok]
 rfl
end
theorem wK {m:g7} (h:m.a=false) (l:List Bool):m.lack l=9:=by unfold g7.lack;rw[if_pos h]
theorem sO (m:g7) (ha:m.a=false) (p:Nat) (sg:Int):Fn 12 [.pointer (some ⟨p,0,none⟩),.int .u8 sg] [] [.seg p 0 m.cells] fun v H'=>v=pZ (0,9)∧H'=[]:=by
 refine aM Tryz.func12 rfl rfl fun w0=>?_
 refine ae (aa (af [] rfl ?_))
 refine ae (ae (aa (ah [] rfl ?_)))
 refine ax (fst:=[]) (cap:=[]) [] (oW m p [] (by decide) none 0 0 0 0 (fun h=>absurd rfl h) rfl) rfl rfl rfl rfl (by kernel_rfl) ⟨⟨0,_,by simp,rfl,ak _ _ _,ap⟩,⟨0,_,by simp,rfl,nn,.inl rfl⟩,trivial⟩ (fun _=>rfl) ?_
 rintro v H' ⟨rfl,rfl⟩
 refine⟨rfl,?_⟩
 rw[wK ha]
 refine af [] rfl ?_
 refine ae (aa (af [] rfl ?_))
 refine aC rfl (fun _=>?_) (fun h=>absurd (by decide) h)
 refine ae (aa (af [] rfl ?_))
 exact aE [] (by decide) rfl (aB ⟨_,rfl,rfl,rfl⟩)
theorem sA (m:g7) (ha:m.a=false) (p:Nat):Fn 13 [.pointer (some ⟨p,0,none⟩)] [] [.seg p 0 m.cells] fun v H'=>v=.int .i64 9∧H'=[]:=by
 refine aM Tryz.func13 rfl rfl fun w0=>?_
 refine ae (aa (af [] rfl ?_))
 refine ae (ae (aa (ah [] rfl ?_)))
 refine b8 rfl rfl rfl rfl rfl rfl rfl (fun _=>rfl) fun g=>?_
 refine ax (fst:=[]) (cap:=[]) [] (oW m p [false,true] (by decide) (some ⟨g,0,none⟩) 2 2 g 0 (fun _=>rfl) rfl) rfl rfl rfl rfl (by kernel_rfl) ⟨⟨1,_,by simp,rfl,ak _ _ _,ap⟩,⟨0,_,by simp,rfl,aR _ _ _ (0,0),.inr rfl⟩,trivial⟩ (fun _=>rfl) ?_
 rintro v H' ⟨rfl,rfl⟩
 refine⟨rfl,?_⟩
 rw[wK ha]
 refine af [] rfl ?_
 refine ae (aa (af [] rfl ?_))
 refine aC rfl (fun _=>?_) (fun h=>absurd (by decide) h)
 refine ae (aa (af [] rfl ?_))
 exact aE [] (by decide) rfl (aB ⟨_,rfl,rfl,rfl⟩)
theorem rd:Fn 4 [] [] [] fun v H'=>v=.bool true∧H'=[]:=by
 refine aM Tryz.func4 rfl rfl fun w0=>?_
 refine ae (aa (af [] rfl ?_))
 refine ae (aa (ah [] rfl ?_))
 refine ax [] rB rfl rfl rfl rfl (by kernel_rfl) trivial (fun _=>rfl) ?_
 rintro v H' ⟨p,rfl,rfl⟩
 refine⟨rfl,?_⟩
 refine af [] rfl ?_
 refine ae (ae (aa (ah [] rfl ?_)))
 refine ab [] (v:=.bool false) (pT rfl rfl rfl (by kernel_rfl)) rfl ?_
 refine af [] rfl ?_
 refine bP rfl (aq ?_)
 refine ae (aa (ah [] rfl ?_))
 refine ax [] (sO tZ rfl p 112) rfl rfl rfl rfl (by kernel_rfl) ⟨⟨0,_,by simp,rfl,aR _ _ _ (0,0),.inr rfl⟩,trivial⟩ (fun _=>rfl) ?_
 rintro v H' ⟨rfl,rfl⟩
 refine⟨rfl,?_⟩
 refine af [] rfl ?_
 refine ae (aa (ah [] rfl ?_))
 refine av 14 (v':=.bool true) rfl (congrArg Value.bool (az rfl)) ?_
 refine ah [2] rfl ?_
 refine ax [2] (sA tZ rfl p) rfl rfl rfl rfl (by kernel_rfl) ⟨⟨0,_,by simp,rfl,aR _ _ _ (0,0),.inr rfl⟩,trivial⟩ (fun _=>rfl) ?_
 rintro v H' ⟨rfl,rfl⟩
 refine⟨rfl,?_⟩
 refine ah [2] rfl ?_
 refine aj ?_
 exact aE [] (by decide) rfl (aB ⟨_,rfl,congrArg Value.bool (az rfl),rfl⟩)
end Go.Proofs.YtpbmihpjgjbndaaGreat
