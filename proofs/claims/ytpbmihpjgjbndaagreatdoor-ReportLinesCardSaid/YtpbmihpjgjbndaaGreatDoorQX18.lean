/- The engine and the words that all chapters share: several texts in one. -/
import Derived.Test.YtpbmihpjgjbndaaGreatDoorQX45
/- The engine by trees: a node is taken out of a list. -/
set_option linter.unusedVariables false
set_option linter.unusedSimpArgs false
namespace Go.Proofs.YtpbmihpjgjbndaaGreatDoor
open Go.RowKit
def xR (bE bV:Nat):Value:=.func (.func 285) #[] #[.pointer (some ⟨bE,0,none⟩),.pointer (some ⟨bV,0,none⟩)]
abbrev EP.box (P:EP) (bE:Nat):aO:=.seg bE 0 [.pointer (some ⟨P.pe,0,none⟩)]
abbrev nB (bV v:Nat):aO:=.seg bV 0 [.int .i64 (v:Int)]
theorem sy (P:EP) (k w bE bV v u:Nat):Fn 285 [.int .i64 (u:Int),.pointer (some ⟨bE,0,none⟩),.pointer (some ⟨bV,0,none⟩)] (aR [P.pc k w]) ([P.box bE,nB bV v]++[P.pc k w])
 fun r H'=>r=.bool (dI ((u:Int)=v))∧H'=[P.pc (k+1) w]:=by
 generalize hM:aR _=M
 refine aS Tryz.func285 rfl rfl fun w0=>?_
 refine ad (aa (ae [] rfl ?_))
 refine ad (aa ?_)
 refine ab [] (bz (i:=0) 0 rfl rfl rfl rfl rfl) rfl ?_
 refine bY (aK.re (A:=[P.box bE,nB bV v,P.pc k w]) (R:=[]) [2,0,1] rfl (by decide)) ?_
 refine ao [] (ir P k w) rfl rfl rfl rfl (by kernel_rfl) aK.refl trivial (fun _=>rfl) ?_
 rintro v0 H' rfl
 refine⟨rfl,?_⟩
 refine ae [] rfl ?_
 refine ad (aa ?_)
 refine ak (gs:=[999]) rfl ?_
 refine ab [] (bz (i:=0) 2 rfl rfl rfl rfl rfl) rfl ?_
 refine ae [] rfl ?_
 exact aE [0] (by decide) rfl (aB ⟨_,rfl,rfl,rfl⟩)
theorem tM {pre post:List Nat} {v i:Nat} (h:i≤pre.length) (hv:v∉pre):∃ u,(pre++v::post)[i]?=some u∧(i<pre.length→u≠v)∧(i=pre.length→u=v):=by
 by_cases e:i<pre.length
 ·refine⟨pre[i],by rw[List.getElem?_append_left e];exact List.getElem?_eq_getElem e,fun _ he=>hv (he▸List.getElem_mem _),fun h=>by omega⟩
 ·obtain rfl:i=pre.length:=by omega
  exact⟨v,by rw[List.getElem?_append_right (Nat.le_refl _),Nat.sub_self];rfl,fun h=>by omega,fun _=>rfl⟩
theorem u3 (P:EP) (k w bE bV v:Nat) (pre post:List Nat) (hv:v∉pre) (g c:Nat) (hl:(pre++v::post).length≤20000):
 Fn 242 [.slice (some ⟨g,0,none⟩) (pre++v::post).length c,xR bE bV] (aR [P.pc k w]) ([P.box bE,nB bV v,.seg g 0 (bL (pre++v::post))]++[P.pc k w])
  fun r H'=>r=.int .i64 (pre.length:Int)∧H'=[P.pc (k+pre.length+1) w]:=by
 generalize hM:aR _=M
 refine aS Tryz.func242 rfl rfl fun w0=>?_
 refine ad (aa (ae [] rfl ?_))
 refine ad (ad (aa (ae [] rfl ?_)))
 refine au ?_
 refine bq (σ:=Nat) (fun i=>[(8,.int .i64 (i:Int)),(7,.int .i64 ((pre++v::post).length:Int)),(1,xR bE bV),(0,.slice (some ⟨g,0,none⟩) (pre++v::post).length c)]) (fun i=>[P.box bE,nB bV v,.seg g 0 (bL (pre++v::post)),P.pc (k+i) w]) (fun i=>i≤pre.length) (fun i=>pre.length+1-i) 0 [0,1,2,3] ⟨rfl,rfl,rfl,rfl,trivial⟩ (by decide) rfl (Nat.zero_le _) ?_
 intro i hi
 have hlen:(pre++v::post).length=pre.length+post.length+1:=by simp;omega
 obtain⟨u,hu,hu1,hu2⟩:=tM (post:=post) hi hv
 refine ad (aa (ae [] rfl ?_))
 have hc:((i:Nat):Int)<((pre++v::post).length:Int):=by omega
 refine ad ?_
 refine aC rfl (fun _=>av ?_) (fun h=>absurd hc h)
 refine ad (au ?_)
 refine ad (aa (ae [] rfl ?_))
 refine ad (aa ?_)
 refine ak (gs:=[999]) rfl ?_
 refine ak (gs:=[999]) rfl ?_
 refine ak (gs:=[999]) rfl ?_
 refine ab [] (aJ rfl rfl rfl rfl rfl (by omega)) rfl ?_
 refine ab [] (bz 2 rfl rfl rfl (Nat.zero_add _).symm (dh hu)) rfl ?_
 refine bY (aK.re (A:=[P.box bE,nB bV v,.seg g 0 (bL (pre++v::post)),P.pc (k+i) w]) (R:=[]) [3,0,1,2] rfl (by decide)) ?_
 refine ao [] (sy P (k+i) w bE bV v u) rfl rfl rfl rfl (by kernel_rfl) aK.refl ⟨⟨0,_,by simp,rfl,aq _ _ _,ay⟩,⟨1,_,by simp,rfl,aq _ _ _,ay⟩,trivial⟩ (fun _=>rfl) ?_
 rintro v0 H' ⟨rfl,rfl⟩
 refine⟨rfl,?_⟩
 refine ae [] rfl ?_
 refine aC rfl (fun h=>?_) (fun h=>av ?_)
 ·have:i=pre.length:=by
   rcases Nat.lt_or_ge i pre.length with h1|h1
   ·exact absurd (by omega) (hu1 h1)
   ·omega
  subst this
  refine ad (aa (ae [] rfl ?_))
  refine aE [0] (by decide) rfl (aB ⟨_,rfl,rfl,rfl⟩)
 ·have hlt:i<pre.length:=by
   rcases Nat.lt_or_ge i pre.length with h1|h1
   ·exact h1
   ·exact absurd (by rw[hu2 (by omega)]) h
  refine aa (ae [] rfl ?_)
  refine⟨i+1,[1,2,3,0],⟨?_,rfl,rfl,rfl,trivial⟩,by decide,rfl,hlt,by omega⟩
  show some (Value.int .i64 (IntKind.i64.wrap ((i:Int)+1)))=_
  rw[bU (by omega)];rfl
def ft (pre post:List Nat) (v q:Nat):List Nat:=pre++(post.take q++(v::post).drop q)
theorem jF {pre post:List Nat} {v q:Nat} (h:q≤post.length):(ft pre post v q).length=(pre++v::post).length:=by
 simp[ft];omega
theorem q9 {pre post:List Nat} {v q u:Nat} (h:post[q]?=some u):(ft pre post v q)[pre.length+(q+1)]?=some u:=by
 have hq:=(List.getElem?_eq_some_iff.1 h).1
 unfold ft
 rw[List.getElem?_append_right (by omega),Nat.add_sub_cancel_left,List.getElem?_append_right (by simp;omega),List.length_take,Nat.min_eq_left (by omega),List.getElem?_drop]
 show (v::post)[q+(q+1-q)]?=_
 rw[show q+(q+1-q)=q+1 by omega,List.getElem?_cons_succ];exact h
theorem rA {pre post:List Nat} {v q u:Nat} (h:post[q]?=some u):(ft pre post v q).set (pre.length+q) u=ft pre post v (q+1):=by
 have hq:=(List.getElem?_eq_some_iff.1 h).1
 unfold ft
 rw[List.set_append_right _ _ (by omega),Nat.add_sub_cancel_left,List.set_append_right _ _ (by simp;omega),List.length_take,Nat.min_eq_left (by omega),Nat.sub_self]
 have hd:(v::post).drop q=(v::post)[q]'(by simp;omega)::(v::post).drop (q+1):=List.drop_eq_getElem_cons (by simp;omega)
 rw[hd,List.set_cons_zero,List.take_add_one,h]
 simp
theorem rJ {pre post:List Nat} {v:Nat}:(ft pre post v post.length).take (pre.length+post.length)=pre++post:=by
 unfold ft
 rw[List.take_length,← List.append_assoc,List.take_append_of_le_length (by simp)]
 exact List.take_of_length_le (by simp)
theorem uy {W:List Nat} {i u:Nat}:(bL W).set i (.int .i64 (u:Int))=bL (W.set i u):=by simp[bL,ap]
theorem nm {W:List Nat} {m:Nat}:(bL W).take m=bL (W.take m):=by simp[bL,ap]
abbrev jA (g n c:Nat) (W:List Nat):aO:=.own (.slice (some ⟨g,0,none⟩) n c) 3 1 n (bL W)
theorem uM (P:EP) (k w bE bV v:Nat) (pre post:List Nat) (hv:v∉pre) (hv2:v∉post) (g n c:Nat) (hn:n=(pre++v::post).length) (hl:n≤20000) (hc:n≤c):
 Fn 284 [.slice (some ⟨g,0,none⟩) n c,xR bE bV] (aR [P.pc k w,jA g n c (pre++v::post)]) ([P.box bE,nB bV v]++[P.pc k w,jA g n c (pre++v::post)])
  fun r H'=>r=.slice (some ⟨g,0,none⟩) (pre.length+post.length) c∧H'=[P.pc (k+n) w,jA g (pre.length+post.length) c (pre++post)]:=by
 have hlen:n=pre.length+post.length+1:=by rw[hn];simp;omega
 generalize hM:aR _=M
 refine aS Tryz.func284 rfl rfl fun w0=>?_
 refine ad (aa (ae [] rfl ?_))
 refine ad (aa ?_)
 refine ak (gs:=[999]) rfl ?_
 refine ak (gs:=[999]) rfl ?_
 refine bY (aK.re (A:=[P.box bE,nB bV v,P.pc k w,jA g n c (pre++v::post)]) (R:=[]) [2,0,1,3] rfl (by decide)) ?_
 have T:=u3 P k w bE bV v pre post hv g c (by omega)
 rw[← hn] at T
 refine ao [] T rfl rfl rfl rfl (by kernel_rfl) aK.refl ⟨⟨0,_,by simp,rfl,aq _ _ _,ay⟩,⟨1,_,by simp,rfl,aq _ _ _,ay⟩,⟨2,_,by simp,rfl,bX,.inr rfl⟩,trivial⟩ (fun _=>rfl) ?_
 rintro v0 H' ⟨rfl,rfl⟩
 refine⟨rfl,?_⟩
 refine ae [] rfl ?_
 refine ad (ad (aa (ae [] rfl ?_)))
 refine aP 12 (v':=.bool false) rfl (congrArg Value.bool (aA (by omega))) (bI rfl (av ?_))
 refine ad (ad (aa (ae [] rfl ?_)))
 refine aP 6 (v':=.int .i64 ((pre.length+(0+1):Nat):Int)) rfl (congrArg (Value.int .i64) ((bU (by omega)).trans (by omega))) ?_
 refine aP 5 (v':=.int .i64 ((pre.length+0:Nat):Int)) rfl rfl ?_
 refine au ?_
 refine bq (σ:=Nat) (fun q=>[(6,.int .i64 ((pre.length+(q+1):Nat):Int)),(5,.int .i64 ((pre.length+q:Nat):Int)),(1,xR bE bV),(0,.slice (some ⟨g,0,none⟩) n c)]) (fun q=>[P.box bE,nB bV v,jA g n c (ft pre post v q),P.pc (k+pre.length+1+q) w]) (fun q=>q≤post.length) (fun q=>post.length-q) 0 [1,2,3,0] ⟨rfl,rfl,rfl,rfl,trivial⟩ (by decide) rfl (Nat.zero_le _) ?_
 intro q hq
 refine ad (ad (aa (ae [] rfl ?_)))
 refine aC rfl (fun hlt=>av ?_) (fun hge=>?_)
 ·have hqp:q<post.length:=by omega
  obtain⟨u,hu⟩:∃ u,post[q]?=some u:=⟨post[q],List.getElem?_eq_getElem hqp⟩
  have huv:u≠v:=fun e=>hv2 (e▸List.mem_of_getElem? hu)
  refine ad (au ?_)
  refine ad (aa ?_)
  refine ak (gs:=[999]) rfl ?_
  refine ak (gs:=[999]) rfl ?_
  refine ab [] (aJ rfl rfl rfl rfl rfl (by omega)) rfl ?_
  refine ab [] (aD 2 rfl rfl rfl (dh (q9 hu))) rfl ?_
  refine ae [] rfl ?_
  refine ad (aa ?_)
  refine ak (gs:=[999]) rfl ?_
  refine ak (gs:=[999]) rfl ?_
  refine bY (aK.re (A:=[P.box bE,nB bV v,jA g n c (ft pre post v q),P.pc (k+pre.length+1+q) w]) (R:=[]) [3,0,1,2] rfl (by decide)) ?_
  refine ao [] (sy P _ w bE bV v u) rfl rfl rfl rfl (by kernel_rfl) aK.refl ⟨⟨0,_,by simp,rfl,aq _ _ _,ay⟩,⟨1,_,by simp,rfl,aq _ _ _,ay⟩,trivial⟩ (fun _=>rfl) ?_
  rintro v0 H' ⟨rfl,rfl⟩
  refine⟨rfl,?_⟩
  refine aw 28 (v':=.bool false) rfl (congrArg Value.bool (aA (by omega))) ?_
  refine ae [] rfl ?_
  refine bo rfl ?_
  refine ad (aa ?_)
  refine ak (gs:=[999]) rfl ?_
  refine ak (gs:=[999]) rfl ?_
  refine ak (gs:=[999]) rfl ?_
  refine ab [] (aJ rfl rfl rfl rfl rfl (by omega)) rfl ?_
  refine aQ 3 rfl rfl rfl rfl (dk rfl rfl rfl (by rw[dF,jF hq];omega)) [] rfl ?_
  rw[uy,rA hu]
  refine ai ?_
  refine aa (ae [] rfl ?_)
  refine aa (ae [] rfl ?_)
  refine⟨q+1,[1,2,3,0],⟨?_,?_,rfl,rfl,trivial⟩,by decide,rfl,hqp,by omega⟩
  ·show some (Value.int .i64 (IntKind.i64.wrap (((pre.length+(q+1):Nat):Int)+1)))=_
   rw[bU (by omega)];rfl
  ·show some (Value.int .i64 (IntKind.i64.wrap (((pre.length+q:Nat):Int)+1)))=_
   rw[bU (by omega)];rfl
 ·obtain rfl:q=post.length:=by omega
  refine aV ?_
  refine ad (aa ?_)
  refine ak (gs:=[999]) rfl ?_
  refine ak (gs:=[999]) rfl ?_
  refine ab [] (eL (i:=pre.length+post.length) rfl rfl rfl rfl rfl (by omega)) rfl ?_
  refine aw 38 (v':=.slice (some ⟨g,pre.length+post.length,none⟩) 1 (c-(pre.length+post.length))) rfl ?_ ?_
  ·have:=jc (A:=some ⟨g,0,none⟩) (c:=c) (l:=pre.length+post.length) (n:=n) (sz:=1) (b:=g) (o:=0) (fun _=>rfl) hc (by omega)
   rw[Nat.mul_one,Nat.zero_add] at this
   show Value.slice (ij _ _ _ 1) _ _=_
   rw[this,show n-(pre.length+post.length)=1 by omega]
  refine ug 2 rfl rfl rfl rfl rfl rfl rfl (by rw[dF,jF (Nat.le_refl _)];omega) [] rfl ?_
  refine ai ?_
  refine ad (aa ?_)
  refine ak (gs:=[999]) rfl ?_
  refine ak (gs:=[999]) rfl ?_
  refine ab [] (fg (i:=pre.length+post.length) rfl rfl rfl rfl rfl (by omega)) rfl ?_
  refine ae [] rfl ?_
  have e0:((bL (ft pre post v post.length)).set (pre.length+post.length) (.int .i64 0)).take ((pre.length+post.length)*1)=bL (pre++post):=by
   rw[Nat.mul_one,List.take_set_of_le (Nat.le_refl _),nm,rJ]
  refine bA (aK.shrink (m:=pre.length+post.length) 2 rfl (by omega)) ?_
  show J _ _ _ _ [_,_,.own _ _ _ _ (List.take _ _),_]
  rw[e0]
  refine bA (aK.re (A:=[P.box bE,nB bV v,jA g (pre.length+post.length) c (pre++post),P.pc (k+pre.length+1+post.length) w]) (R:=[]) [3,2] rfl (by decide)) (aB ⟨_,rfl,rfl,?_⟩)
  rw[show k+n=k+pre.length+1+post.length by omega]
  rfl
end Go.Proofs.YtpbmihpjgjbndaaGreatDoor
/- The engine by trees: what it keeps, all together. -/
set_option linter.unusedVariables false
set_option linter.unusedSimpArgs false
namespace Go.Proofs.YtpbmihpjgjbndaaGreatDoor
open Go.RowKit
theorem j6:∀ (l m:List Nat),l.Nodup→(∀ x∈l,x∈m)→l.length≤m.length
 |[],_,_,_=>Nat.zero_le _
 |x::l,m,h,hs=>by
  obtain⟨h1,h2⟩:=List.nodup_cons.1 h
  have hx:=hs x (by simp)
  have ih:=j6 l (m.erase x) h2 fun y hy=>(List.mem_erase_of_ne (fun e=>h1 (by rw[← e];exact hy))).2 (hs y (by simp[hy]))
  rw[List.length_erase_of_mem hx] at ih
  have:0<m.length:=List.length_pos_of_mem hx
  simp only[List.length_cons];omega
def gb (W:List Nat):List Int:=W.map fun (i:Nat)=>(i:Int)
theorem da (W:List Nat):(gb W).length=W.length:=by simp[gb]
structure TB (n:Nat) (par:OV) (un:List eu):Prop where
 len:un.length=n+1
 at_:∀ (w:Nat) (row:eu),un[w]?=some row→∃ W:List Nat,row.l=gb W∧W.Nodup∧∀ v,v∈W↔v≤n∧par v=some w
theorem TB.get {n:Nat} {par:OV} {un:List eu} (h:TB n par un) {w:Nat} (hw:w≤n):∃ (A:Option Addr) (c:Nat) (W:List Nat),un[w]?=some ⟨A,c,gb W⟩∧W.Nodup∧(∀ v,v∈W↔v≤n∧par v=some w)∧W.length≤n+1:=by
 have hl:=h.len
 obtain⟨row,hr⟩:∃ row,un[w]?=some row:=⟨un[w]'(by omega),List.getElem?_eq_getElem (by omega)⟩
 obtain⟨W,h1,h2,h3⟩:=h.at_ w row hr
 obtain⟨A,c,l⟩:=row
 simp only at h1
 subst h1
 refine⟨A,c,W,hr,h2,h3,?_⟩
 have:=j6 W (List.range (n+1)) h2 fun x hx=>List.mem_range.2 (by have:=((h3 x).1 hx).1;omega)
 rwa [List.length_range] at this
theorem TB.del {n:Nat} {par:OV} {un:List eu} (h:TB n par un) {v w:Nat} {A:Option Addr} {c:Nat} {pre post:List Nat} (hr:un[w]?=some ⟨A,c,gb (pre++v::post)⟩) (hd:(pre++v::post).Nodup) (hm:∀ u,u∈pre++v::post↔u≤n∧par u=some w) (hw:par v=some w) {A':Option Addr} {c':Nat}:TB n (aT par v none) (un.set w ⟨A',c',gb (pre++post)⟩):=by
 have hwl:=(List.getElem?_eq_some_iff.1 hr).1
 obtain⟨d1,d2,d3⟩:=List.nodup_append.1 hd
 obtain⟨d4,d5⟩:=List.nodup_cons.1 d2
 have hvpre:v∉pre:=fun hx=>d3 v hx v (by simp) rfl
 refine⟨by rw[List.length_set];exact h.len,fun z row hz=>?_⟩
 by_cases e:w=z
 ·subst e
  rw[List.getElem?_set_self hwl] at hz
  simp only[Option.some.injEq] at hz
  subst hz
  refine⟨pre++post,rfl,List.nodup_append.2 ⟨d1,d5,fun x hx y hy=>d3 x hx y (by simp[hy])⟩,fun u=>?_⟩
  have:=hm u
  simp only[List.mem_append,List.mem_cons] at this ⊢
  by_cases e:u=v
  ·subst e
   simp[aT,hvpre,d4]
  ·simp only[aT,e,if_false,false_or] at this ⊢
   exact this
 ·rw[List.getElem?_set_ne e] at hz
  obtain⟨W,h1,h2,h3⟩:=h.at_ z row hz
  refine⟨W,h1,h2,fun u=>?_⟩
  rw[h3 u]
  by_cases e2:u=v
  ·subst e2
   simp[aT,hw,e]
  ·simp[aT,e2]
theorem TB.add {n:Nat} {par:OV} {un:List eu} (h:TB n par un) {v w:Nat} {A:Option Addr} {c:Nat} {W:List Nat} (hr:un[w]?=some ⟨A,c,gb W⟩) (hd:W.Nodup) (hm:∀ u,u∈W↔u≤n∧par u=some w) (hv:v≤n) (hn:par v=none) {A':Option Addr} {c':Nat}:TB n (aT par v (some w)) (un.set w ⟨A',c',gb (W++[v])⟩):=by
 have hwl:=(List.getElem?_eq_some_iff.1 hr).1
 have hvW:v∉W:=fun hx=>by have:=((hm v).1 hx).2;rw[hn] at this;cases this
 refine⟨by rw[List.length_set];exact h.len,fun z row hz=>?_⟩
 by_cases e:w=z
 ·subst e
  rw[List.getElem?_set_self hwl] at hz
  simp only[Option.some.injEq] at hz
  subst hz
  refine⟨W++[v],rfl,List.nodup_append.2 ⟨hd,by simp,fun x hx y hy=>by rw[List.mem_singleton.1 hy];rintro rfl;exact hvW hx⟩,fun u=>?_⟩
  simp only[List.mem_append,List.mem_singleton,hm u]
  by_cases e:u=v
  ·subst e
   simp[aT,hv]
  ·simp[aT,e]
 ·rw[List.getElem?_set_ne e] at hz
  obtain⟨W,h1,h2,h3⟩:=h.at_ z row hz
  refine⟨W,h1,h2,fun u=>?_⟩
  rw[h3 u]
  by_cases e2:u=v
  ·subst e2
   simp[aT,hn,e]
  ·simp[aT,e2]
structure gO (P:EP) (L:Nat→List Nat) (gv:Nat→Nat) (rm0 tr:List Int) (pos:List Nat) (par:OV) (val:Nat→Int) (s:ES):Prop where
 fa:∃ row,eC (P.n+1) s.fs par val row
 ta:TA P L rm0 tr pos par val s.rm
 vo:u7 P.rowsL gv pos s.vals
 tb:TB P.n par s.un
def ES.cost (s:ES):Nat:=s.k+s.fs.k
end Go.Proofs.YtpbmihpjgjbndaaGreatDoor
