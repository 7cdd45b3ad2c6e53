/- The engine and the words that all chapters share: several texts in one. -/
import Derived.Test.YtpbmihpjgjbndaaGreatDoorTextN
import Derived.Test.YtpbmihpjgjbndaaGreatDoorQB
import Derived.Test.YtpbmihpjgjbndaaGreatDoorQX43
/- The laws of chapter 2: what stands at their heads, and rows of texts compared. -/
set_option linter.unusedVariables false
set_option linter.unusedSimpArgs false
namespace Go.Proofs.YtpbmihpjgjbndaaGreatDoor
open Go.RowKit
theorem fM {l:List (List UInt8)} {i:Nat} {x:List UInt8} (h:l[i]?=some x):em 9 (du l) i=some (eN x):=qA h
theorem vi (l:List UInt8):(aY l).length≤l.length+1:=by
 rw[ui]
 have:=List.count_le_length (a:=(10:UInt8)) (l:=l)
 split<;>omega
theorem iu:∀ l cur:List UInt8,(bP cur l).length≤l.length+(if cur=[] then 0 else 1)
 |[],cur=>by unfold bP;split<;>simp
 |b::l,cur=>by
  unfold bP
  split
  ·split
   ·have:=iu l []
    simp at this ⊢;omega
   ·have:=iu l []
    simp at this ⊢;omega
  ·have:=iu l (cur++[b])
   simp at this
   simp only[List.length_cons]
   split<;>omega
theorem wQ (l:List UInt8):(bx l).length≤l.length:=by
 have:=iu l []
 simpa [bx] using this
end Go.Proofs.YtpbmihpjgjbndaaGreatDoor
/- Networks read line by line: the program's words. -/
set_option linter.unusedVariables false
set_option linter.unusedSimpArgs false
namespace Go.Proofs.YtpbmihpjgjbndaaGreatDoor
open Go.RowKit
def zn (A:Option Addr) (n c:Nat) (e:Int):Value:=.tuple #[.slice A n c,.int .i64 e]
theorem jN (V:eb) (ws:List (List UInt8)) (hw:∀ x∈ws,x.length≤10000000) (hn:ws.length≤10000000) (B:Option Addr) (n cb bb ob:Nat) (hB:ws≠[]→B=some ⟨bb,ob,none⟩) (hnl:n=ws.length):
 Fn 142 [.slice B n cb] [] ([.seg bb ob (du ws)]++V.heap) fun v H'=>∃ (A:Option Addr) (c:Nat),v=zn A (bd ws).1.length c (bd ws).2∧H'=[.own (.slice A (bd ws).1.length c) 2 1 (bd ws).1.length (az (bd ws).1)]:=by
 subst hnl
 refine aK Tryz.func142 rfl rfl fun w0=>?_
 refine ad (aa (ae [] rfl ?_))
 refine ad (aa (ah [] rfl ?_))
 refine dI (n:=ws.length) (c:=ws.length) rfl rfl rfl rfl rfl rfl (by omega) (by omega) (by omega) (fun _=>rfl) fun g=>?_
 rw[show made [Value.int .i64 0] (ws.length*1)=az (List.replicate ws.length 0) by rw[dp,Nat.mul_one];simp[az]]
 refine ae [] rfl ?_
 refine ad (ad (aa (ae [] rfl ?_)))
 refine ax ?_
 refine bN (σ:=Nat) (fun k=>[(14,.int .i64 k),(13,.int .i64 ws.length),(12,.slice B ws.length cb),(4,.slice (some ⟨g,0,none⟩) ws.length ws.length)]) (fun k=>[.own (.slice (some ⟨g,0,none⟩) ws.length ws.length) 2 1 ws.length (az ((ws.take k).map (fun w=>(dj w).1)++List.replicate (ws.length-k) 0)),.seg bb ob (du ws)]++V.heap)
  (fun k=>k≤ws.length∧∀ j x,j<k→ws[j]?=some x→(dj x).2=0) (fun k=>ws.length-k) 0 [0,1,2,3,4] ⟨rfl,rfl,rfl,rfl,trivial⟩ (by decide) rfl ⟨Nat.zero_le _,fun j x h=>by omega⟩ ?_
 rintro k ⟨hk,hall⟩
 refine ad (aa (ae [] rfl ?_))
 refine ad (aD rfl (fun hlt=>aq ?_) (fun hge=>a6 ?_))
 ·have hlt':k<ws.length:=by omega
  obtain⟨x,hx⟩:∃ x,ws[k]?=some x:=⟨ws[k],List.getElem?_eq_getElem hlt'⟩
  obtain rfl:=hB (by rintro rfl;simp at hlt')
  have hxl:=hw x (List.mem_of_getElem? hx)
  refine ad (ax ?_)
  refine ad (aa (ah [] rfl ?_))
  refine ab [] (dD rfl rfl rfl rfl rfl hlt') rfl ?_
  refine ab [] (bw 1 rfl rfl rfl rfl (fM hx)) rfl ?_
  refine ae [] rfl ?_
  refine ad (aa ?_)
  refine ak (gs:=[999]) rfl ?_
  refine ap [] (t9 V x (by omega)) rfl rfl rfl rfl (by kernel_rfl) ⟨⟨2,by simp,rfl⟩,⟨3,by simp,rfl⟩,⟨4,by simp,rfl⟩,trivial⟩ (fun _=>rfl) ?_
  rintro v H' ⟨rfl,rfl⟩
  refine⟨rfl,?_⟩
  refine ae [] rfl ?_
  refine ad (ad (aa (ae [] rfl ?_)))
  refine aD rfl (fun he=>?_) (fun he=>aq ?_)
  ·have hne:=nY hx hall he
   refine ad (aa (ae [] rfl ?_))
   refine df 2 1 ?_
   refine aC [0] (by decide) rfl (ay ⟨_,rfl,none,0,?_,?_⟩)
   ·rw[hne];rfl
   ·rw[hne];rfl
  ·have he0:(dj x).2=0:=Classical.not_not.1 he
   refine aa (ah [] rfl ?_)
   refine ab [] (dD rfl rfl rfl rfl rfl hlt') rfl ?_
   refine aT 0 rfl rfl rfl rfl (ey rfl (by rw[List.length_append,List.length_map,List.length_take,List.length_replicate];omega)) [] rfl ?_
   refine ae [] rfl ?_
   refine aa (ae [] rfl ?_)
   refine⟨k+1,[0,1,2,3,4],⟨?_,rfl,rfl,rfl,trivial⟩,by decide,?_,⟨by omega,fun j y hj hy=>?_⟩,by omega⟩
   ·show some (Value.int .i64 (IntKind.i64.wrap ((k:Int)+1)))=_
    rw[cj (by omega)];rfl
   ·have:((ws.take k).map (fun w=>(dj w).1)++List.replicate (ws.length-k) 0).set k (dj x).1=(ws.take (k+1)).map (fun w=>(dj w).1)++List.replicate (ws.length-(k+1)) 0:=by
     have hl:((ws.take k).map (fun w=>(dj w).1)).length=k:=by rw[List.length_map,List.length_take];omega
     rw[List.set_append_right _ _ (by omega),hl,Nat.sub_self,List.take_add_one,hx,show ws.length-k=(ws.length-(k+1))+1 by omega,List.replicate_succ,List.set_cons_zero]
     simp
    rw[← this];simp only[Nat.zero_add];rfl
   ·by_cases e:j=k
    ·subst e;rw[hx] at hy;obtain rfl:=Option.some.inj hy;exact he0
    ·exact hall j y (by omega) hy
 have hkl:k=ws.length:=by omega
 subst hkl
 have hok:=p5 (ws:=ws) fun w hw'=>by
  obtain⟨j,hj,e⟩:=List.getElem_of_mem hw'
  exact hall j w hj (by rw[List.getElem?_eq_getElem hj,e])
 rw[List.take_length,Nat.sub_self,List.replicate_zero,List.append_nil]
 refine ad (aa (ae [] rfl ?_))
 refine aC [0] (by decide) rfl (ay ⟨_,rfl,some ⟨g,0,none⟩,ws.length,?_,?_⟩)
 ·rw[hok];simp only[List.length_map];rfl
 ·rw[hok];simp only[List.length_map]
def yN (r:Rd) (A:Option Addr) (c:Nat):List Value:=[.int .i64 r.nodes,.int .i64 r.src,.int .i64 r.snk,.slice A r.arcs.length c,.int .i64 r.most,.int .i64 r.sum]
def kT (p:Nat) (A:Option Addr) (c:Nat) (r:Rd):Heap:=[blk p 134 (yN r A c),.own (.slice A r.arcs.length c) 70 3 r.arcs.length (arcs r.arcs)]
theorem kW (p:Nat) (r:Rd) (A:Option Addr) (c:Nat) (v:Int):Fn 143 [.pointer (some ⟨p,0,none⟩),.int .i64 v] [] [.seg p 0 (yN r A c)] fun u H'=>u=.bool (dv (1≤v∧v≤r.nodes))∧H'=[]:=by
 refine aK Tryz.func143 rfl rfl fun w0=>?_
 refine ad (aa (ae [] rfl ?_))
 refine ad (aa ?_)
 refine ak (gs:=[999]) rfl ?_
 refine ak (gs:=[999]) rfl ?_
 refine ak (gs:=[999]) rfl ?_
 by_cases h:1≤v
 ·refine av 7 (v':=.bool true) rfl (congrArg Value.bool (aA h)) ?_
  refine ah [2] rfl ?_
  refine ab [2] (bw (i:=0) (v:=.int .i64 r.nodes) 0 rfl rfl rfl rfl rfl) rfl ?_
  refine ae [2] rfl ?_
  exact aC [] (by decide) rfl (ay ⟨_,rfl,congrArg Value.bool (eI ⟨fun k=>⟨h,k⟩,fun k=>k.2⟩),rfl⟩)
 ·refine av 7 (v':=.bool false) rfl (congrArg Value.bool (aB h)) ?_
  refine ae [2] rfl ?_
  exact aC [] (by decide) rfl (ay ⟨_,rfl,congrArg Value.bool (aB (fun k=>h k.1)).symm,rfl⟩)
end Go.Proofs.YtpbmihpjgjbndaaGreatDoor
/- Networks read line by line: a line of the problem, of an end, of an arc. -/
set_option linter.unusedVariables false
set_option linter.unusedSimpArgs false
namespace Go.Proofs.YtpbmihpjgjbndaaGreatDoor
open Go.RowKit
def gN (p:Nat) (q:Rd×Int) (v:Value) (H':Heap):Prop:=v=.int .i64 q.2∧∃ (A':Option Addr) (c':Nat),H'=kT p A' c' q.1
theorem mE {b off:Nat} (k:Nat) {l m:List (List UInt8)} (h:∀ i:Nat,l[k+i]?=m[i]?):(aQ.seg b off (du l)).shows b (off+k) (du m):=fun w hw i v hv=>by
 have h1:(du l)[k+i]?=some v:=by
  unfold du at hv ⊢
  rw[List.getElem?_map] at hv ⊢
  rw[h i];exact hv
 have h2:=hw (k+i) v h1
 rw[← Nat.add_assoc] at h2
 exact h2
theorem zx {w:Ws} (h:w.length=4):∃ a b c d,w=[a,b,c,d]:=by
 match w,h with
 |[a,b,c,d],_=>exact⟨a,b,c,d,rfl⟩
theorem ri (V:eb) (w:Ws) (hw:∀ x∈w,x.length≤10000000) (hn:w.length≤10000000) (B:Option Addr) (n bb ob:Nat) (hB:w≠[]→B=some ⟨bb,ob,none⟩) (hnl:n=w.length) (p:Nat) (r:Rd) (ok:r.OK) (A:Option Addr) (c:Nat):
 Fn 110 [.pointer (some ⟨p,0,none⟩),.slice B n n] (aO (kT p A c r)) ([.seg bb ob (du w)]++V.heap++kT p A c r) (gN p (r.problem w)):=by
 subst hnl
 have bad:(w.length≠4∨w[1]?≠some [109,97,120]∨r.most≠-1)→gN p (r.problem w) (.int .i64 2) (kT p A c r):=fun h=>by
  unfold Rd.problem;rw[if_pos h];exact⟨rfl,A,c,rfl⟩
 refine aK Tryz.func110 rfl rfl fun w0=>?_
 refine ad (aa (ae [] rfl ?_))
 refine ad (ad (aa (ah [] rfl ?_)))
 by_cases h1:w.length=4
 ·obtain⟨x0,x1,x2,x3,rfl⟩:=zx h1
  obtain rfl:=hB (by simp)
  refine av 10 (v':=.bool false) rfl (congrArg Value.bool (aB (by simp))) ?_
  refine ah [3] rfl ?_
  refine ab [3] (dD rfl rfl rfl rfl rfl (by simp)) rfl ?_
  refine ab [3] (bw 0 rfl rfl rfl rfl (fM (x:=x1) rfl)) rfl ?_
  refine ab [3] (sr (m:=[109,97,120]) rfl rfl rfl) rfl ?_
  refine ah [3] rfl ?_
  by_cases h2:x1=[109,97,120]
  ·subst h2
   refine av 16 (v':=.bool false) rfl (congrArg Value.bool (aB (by simp))) ?_
   refine ah [9] rfl ?_
   refine ab [9] (af (i:=4) (v:=.int .i64 r.most) 4 rfl rfl rfl rfl) rfl ?_
   refine ae [9] rfl ?_
   refine aD rfl (fun h3=>?_) (fun h3=>aq ?_)
   ·refine ad (aa (ae [] rfl ?_))
    exact aC [4,5] (by decide) rfl (ay ⟨_,rfl,bad (.inr (.inr h3))⟩)
   have h3':r.most=-1:=Classical.not_not.1 h3
   refine ad (aa (ah [] rfl ?_))
   refine ab [] (el (i:=2) rfl rfl rfl rfl rfl (by simp)) rfl ?_
   refine ap [] (jN V [x2,x3] (fun x hx=>hw x (List.mem_cons_of_mem _ (List.mem_cons_of_mem _ hx))) (by simp) _ 2 _ bb (ob+2) (fun _=>rfl) rfl) rfl rfl rfl rfl (by kernel_rfl) ⟨⟨0,_,by simp,rfl,mE 2 (fun i=>by rw[Nat.add_comm];rfl),.inr rfl⟩,⟨1,by simp,rfl⟩,⟨2,by simp,rfl⟩,⟨3,by simp,rfl⟩,trivial⟩ (fun _=>rfl) ?_
   rintro v H' ⟨An,cn,rfl,rfl⟩
   refine⟨rfl,?_⟩
   generalize hq:bd [x2,x3]=q
   have hql:=fun h=>(kU (ws:=[x2,x3]) h).1
   have hqi:=oH (ws:=[x2,x3])
   rw[hq] at hql hqi
   obtain⟨L,e⟩:=q
   have good:∀ z:Rd×Int,(if e≠0 then (r,e) else if L.getD 0 0<2∨500<L.getD 0 0∨L.getD 1 0<0∨2000<L.getD 1 0 then (r,3) else ({ r with nodes:=L.getD 0 0,most:=L.getD 1 0 },0))=z→r.problem [x0,[109,97,120],x2,x3]=z:=fun z hz=>by
    unfold Rd.problem
    rw[if_neg (by simp[h3']),show List.drop 2 [x0,[109,97,120],x2,x3]=[x2,x3] from rfl,hq]
    exact hz
   refine ae [] rfl ?_
   refine ad (ax ?_)
   refine ad (aa (ae [] rfl ?_))
   refine aD rfl (fun he=>?_) (fun he=>?_)
   ·refine ad (aa (ae [] rfl ?_))
    exact aC [5,6] (by decide) rfl (ay ⟨_,rfl,by rw[good _ (if_pos he)];exact⟨rfl,A,c,rfl⟩⟩)
   have he0:e=0:=Classical.not_not.1 he
   have hL:=hql he0
   obtain⟨a,b,rfl⟩:∃ a b,L=[a,b]:=by
    match L,hL with
    |[a,b],_=>exact⟨a,b,rfl⟩
   refine bB (bg 0 rfl) (fun ho=>?_)
   obtain⟨g,rfl⟩:=ho.2.2.1 (by simp)
   have ha:cL a:=hqi a (by simp)
   have hb:cL b:=hqi b (by simp)
   simp only[List.getD_cons_zero,List.getD_cons_succ] at good
   rw[if_neg he] at good
   refine ad (aa (ah [] rfl ?_))
   refine ab [] (dD rfl rfl rfl rfl rfl (by simp)) rfl ?_
   refine ab [] (aG (i:=0) 0 rfl rfl rfl (bh rfl)) rfl ?_
   refine ah [] rfl ?_
   have h3bad:(a<2∨500<a∨b<0∨2000<b)→gN p (r.problem [x0,[109,97,120],x2,x3]) (.int .i64 3) (kT p A c r):=fun h=>by
    rw[good _ (if_pos h)];exact⟨rfl,A,c,rfl⟩
   by_cases ha2:a<2
   ·refine av 38 (v':=.bool true) rfl (congrArg Value.bool (aA ha2)) ?_
    refine ah [4] rfl ?_
    refine av 44 (v':=.bool true) rfl rfl ?_
    refine ah [4,10] rfl ?_
    refine av 50 (v':=.bool true) rfl rfl ?_
    refine ae [4,10,16] rfl ?_
    refine a8 rfl ?_
    refine ad (aa (ae [] rfl ?_))
    exact aC [5,6] (by decide) rfl (ay ⟨_,rfl,h3bad (.inl ha2)⟩)
   refine av 38 (v':=.bool false) rfl (congrArg Value.bool (aB ha2)) ?_
   refine ah [4] rfl ?_
   refine ab [4] (dD rfl rfl rfl rfl rfl (by simp)) rfl ?_
   refine ab [4] (aG (i:=0) 0 rfl rfl rfl (bh rfl)) rfl ?_
   refine ah [4] rfl ?_
   by_cases ha5:500<a
   ·refine av 44 (v':=.bool true) rfl (congrArg Value.bool (aA ha5)) ?_
    refine ah [4,10] rfl ?_
    refine av 50 (v':=.bool true) rfl rfl ?_
    refine ae [4,10,16] rfl ?_
    refine a8 rfl ?_
    refine ad (aa (ae [] rfl ?_))
    exact aC [5,6] (by decide) rfl (ay ⟨_,rfl,h3bad (.inr (.inl ha5))⟩)
   refine av 44 (v':=.bool false) rfl (congrArg Value.bool (aB ha5)) ?_
   refine ah [4,10] rfl ?_
   refine ab [4,10] (dD rfl rfl rfl rfl rfl (by simp)) rfl ?_
   refine ab [4,10] (aG (i:=1) 0 rfl rfl rfl (bh rfl)) rfl ?_
   refine ah [4,10] rfl ?_
   by_cases hb0:b<0
   ·refine av 50 (v':=.bool true) rfl (congrArg Value.bool (aA hb0)) ?_
    refine ae [4,10,16] rfl ?_
    refine a8 rfl ?_
    refine ad (aa (ae [] rfl ?_))
    exact aC [5,6] (by decide) rfl (ay ⟨_,rfl,h3bad (.inr (.inr (.inl hb0)))⟩)
   refine av 50 (v':=.bool false) rfl (congrArg Value.bool (aB hb0)) ?_
   refine ah [4,10,16] rfl ?_
   refine ab [4,10,16] (dD rfl rfl rfl rfl rfl (by simp)) rfl ?_
   refine ab [4,10,16] (aG (i:=1) 0 rfl rfl rfl (bh rfl)) rfl ?_
   refine ae [4,10,16] rfl ?_
   refine aD rfl (fun hb2=>?_) (fun hb2=>aq ?_)
   ·refine ad (aa (ae [] rfl ?_))
    exact aC [5,6] (by decide) rfl (ay ⟨_,rfl,h3bad (.inr (.inr (.inr hb2)))⟩)
   refine ad ?_
   refine bz 15 [(0,true),(1,true),(2,true),(3,true),(4,true),(5,true),(6,true),(7,true),(8,true),(9,true),(10,true),(11,false),(12,true),(13,true),(14,false)] [0] (by kernel_rfl) (by decide) rfl ?_
   refine aH [] rfl ?_
   refine aj [] rfl (dD rfl rfl rfl rfl rfl (by simp)) rfl ?_
   refine aj [] rfl (aG (i:=0) 0 rfl rfl rfl (bh rfl)) rfl ?_
   refine aH [] rfl ?_
   refine aj [] rfl (dD rfl rfl rfl rfl rfl (by simp)) rfl ?_
   refine aj [] rfl (aG (i:=1) 0 rfl rfl rfl (bh rfl)) rfl ?_
   refine aH [] rfl ?_
   refine a7 rfl ?_
   refine aE 5 rfl rfl rfl rfl rfl [] rfl ?_
   refine ai ⟨⟨[0],by decide,rfl⟩,?_⟩
   refine aH [] rfl ?_
   refine a7 rfl ?_
   refine aE 5 rfl rfl rfl rfl rfl [] rfl ?_
   refine ai ⟨⟨[0],by decide,rfl⟩,?_⟩
   refine bC (ai ?_)
   refine ad (aa (ae [] rfl ?_))
   exact aC [5,6] (by decide) rfl (ay ⟨_,rfl,by rw[good _ (if_neg (by omega))];exact⟨rfl,A,c,rfl⟩⟩)
  ·refine av 16 (v':=.bool true) rfl (congrArg Value.bool (aA h2)) ?_
   refine ae [9] rfl ?_
   refine a8 rfl ?_
   refine ad (aa (ae [] rfl ?_))
   exact aC [4,5] (by decide) rfl (ay ⟨_,rfl,bad (.inr (.inl (by simpa using h2)))⟩)
 ·refine av 10 (v':=.bool true) rfl (congrArg Value.bool (aA (by simp;omega))) ?_
  refine ah [3] rfl ?_
  refine av 16 (v':=.bool true) rfl rfl ?_
  refine ae [3,9] rfl ?_
  refine a8 rfl ?_
  refine ad (aa (ae [] rfl ?_))
  exact aC [4,5] (by decide) rfl (ay ⟨_,rfl,bad (.inl h1)⟩)
end Go.Proofs.YtpbmihpjgjbndaaGreatDoor
/- Networks read line by line: a line of an end. -/
set_option linter.unusedVariables false
set_option linter.unusedSimpArgs false
namespace Go.Proofs.YtpbmihpjgjbndaaGreatDoor
open Go.RowKit
theorem zE {w:Ws} (h:w.length=3):∃ a b c,w=[a,b,c]:=by
 match w,h with
 |[a,b,c],_=>exact⟨a,b,c,rfl⟩
def Rd.at_ (r:Rd) (q:Nat):Int:=if q=1 then r.src else r.snk
def Rd.put (r:Rd) (q:Nat) (v:Int):Rd:=if q=1 then { r with src:=v } else { r with snk:=v }
def Rd.endAt (r:Rd) (q:Nat) (n:List Int×Int):Rd×Int:=
 if r.at_ q≠0 then (r,2) else if n.2≠0 then (r,n.2) else
 if ¬ (1≤n.1.getD 0 0∧n.1.getD 0 0≤r.nodes) then (r,4) else
 if n.1.getD 0 0=r.src∨n.1.getD 0 0=r.snk then (r,5) else (r.put q (n.1.getD 0 0),0)
def zw (x:List UInt8) (q:Nat):Prop:=q=1∧x=[115]∨q=2∧x=[116]
theorem Rd.end_at {r:Rd} {x0 x1 x2:List UInt8} {q:Nat} (hm:r.most≠-1) (ha:r.arcs=[]) (hq:zw x2 q):r.end_ [x0,x1,x2]=r.endAt q (bd [x1]):=by
 unfold Rd.end_ Rd.endAt
 rw[if_neg (by simp[hm,ha])]
 rcases hq with ⟨rfl,rfl⟩|⟨rfl,rfl⟩
 ·rw[if_pos (show [x0,x1,[115]][2]?=some [115] from rfl)];rfl
 ·rw[if_neg (show ¬ [x0,x1,[116]][2]?=some [115] by simp),if_pos (show [x0,x1,[116]][2]?=some [116] from rfl)];rfl
theorem x9 (V:eb) (w:Ws) (hw:∀ x∈w,x.length≤10000000) (hn:w.length≤10000000) (B:Option Addr) (n bb ob:Nat) (hB:w≠[]→B=some ⟨bb,ob,none⟩) (hnl:n=w.length) (p:Nat) (r:Rd) (ok:r.OK) (A:Option Addr) (c:Nat):
 Fn 111 [.pointer (some ⟨p,0,none⟩),.slice B n n] (aO (kT p A c r)) ([.seg bb ob (du w)]++V.heap++kT p A c r) (gN p (r.end_ w)):=by
 subst hnl
 have bad:(w.length≠3∨r.most=-1∨r.arcs≠[])→gN p (r.end_ w) (.int .i64 2) (kT p A c r):=fun h=>by
  unfold Rd.end_;rw[if_pos h];exact⟨rfl,A,c,rfl⟩
 have hlen:=ok.len
 refine aK Tryz.func111 rfl rfl fun w0=>?_
 refine ad (aa (ae [] rfl ?_))
 refine ad (ad (aa (ah [] rfl ?_)))
 by_cases h1:w.length=3
 case neg=>
  refine av 11 (v':=.bool true) rfl (congrArg Value.bool (aA (by simp;omega))) ?_
  refine ah [3] rfl ?_
  refine av 18 (v':=.bool true) rfl rfl ?_
  refine ae [3,10] rfl ?_
  refine a8 rfl ?_
  refine ad (aa (ae [] rfl ?_))
  exact aC [4,5] (by decide) rfl (ay ⟨_,rfl,bad (.inl h1)⟩)
 obtain⟨x0,x1,x2,rfl⟩:=zE h1
 obtain rfl:=hB (by simp)
 refine av 11 (v':=.bool false) rfl (congrArg Value.bool (aB (by simp))) ?_
 refine ah [3] rfl ?_
 refine ab [3] (af (i:=4) (v:=.int .i64 r.most) 4 rfl rfl rfl rfl) rfl ?_
 refine ah [3] rfl ?_
 by_cases h2:r.most=-1
 ·refine av 18 (v':=.bool true) rfl (congrArg Value.bool (aA h2)) ?_
  refine ae [3,10] rfl ?_
  refine a8 rfl ?_
  refine ad (aa (ae [] rfl ?_))
  exact aC [4,5] (by decide) rfl (ay ⟨_,rfl,bad (.inr (.inl h2))⟩)
 refine av 18 (v':=.bool false) rfl (congrArg Value.bool (aB h2)) ?_
 refine ah [3,10] rfl ?_
 refine ab [3,10] (af (i:=3) (v:=.slice A r.arcs.length c) 4 rfl rfl rfl rfl) rfl ?_
 refine ae [3,10] rfl ?_
 refine aD rfl (fun h3=>?_) (fun h3=>aq ?_)
 ·refine ad (aa (ae [] rfl ?_))
  exact aC [4,5] (by decide) rfl (ay ⟨_,rfl,bad (.inr (.inr (by rintro e;rw[e] at h3;simp at h3)))⟩)
 have h3':r.arcs=[]:=List.eq_nil_of_length_eq_zero (by omega)
 refine ad (aa (ae [] rfl ?_))
 refine nk (σ:={ q:Nat//zw x2 q }) (fun q=>[(5,.pointer (some ⟨p,q.1,none⟩)),(0,.pointer (some ⟨p,0,none⟩)),(1,.slice (some ⟨bb,ob,none⟩) 3 3)]) (fun _=>[.seg bb ob (du [x0,x1,x2])]++V.heap++kT p A c r) ?_ ?_
 ·refine ad (aa (ah [] rfl ?_))
  refine ab [] (dD rfl rfl rfl rfl rfl (by simp)) rfl ?_
  refine ab [] (bw 0 rfl rfl rfl rfl (fM (x:=x2) rfl)) rfl ?_
  refine ae [] rfl ?_
  refine ax (ad (aa (ah [] rfl ?_)))
  refine ae [] rfl ?_
  refine aM 34 (v':=.bool (dv (x2=[115]))) rfl (congrArg Value.bool (iO x2 [115])) ?_
  refine aD rfl (fun hs=>aq ?_) (fun hs=>?_)
  ·exact⟨⟨1,.inl ⟨rfl,hs⟩⟩,⟨rfl,rfl,rfl,trivial⟩,aL.refl⟩
  refine ad (aa (ah [] rfl ?_))
  refine ae [] rfl ?_
  refine aM 36 (v':=.bool (dv (x2=[116]))) rfl (congrArg Value.bool (iO x2 [116])) ?_
  refine aD rfl (fun ht=>?_) (fun ht=>?_)
  ·skip
   refine aa (ae [] rfl ?_)
   exact⟨⟨2,.inr ⟨rfl,ht⟩⟩,⟨rfl,rfl,rfl,trivial⟩,aL.refl⟩
  ·refine ad (aa (ae [] rfl ?_))
   refine aC [4,5] (by decide) rfl (ay ⟨_,rfl,?_⟩)
   unfold Rd.end_
   rw[if_neg (by simp[h2,h3']),if_neg (by simpa using hs),if_neg (by simpa using ht)]
   exact⟨rfl,A,c,rfl⟩
 rintro⟨q,hq⟩
 have hget:em 3 (yN r A c) q=some (.int .i64 (r.at_ q)):=by
  rcases hq with ⟨rfl,_⟩|⟨rfl,_⟩<;>rfl
 have hput:∀ v:Int,lZ 3 (yN r A c) q (Value.int .i64 v).cells.toList=some (yN (r.put q v) A c):=by
  intro v
  rcases hq with ⟨rfl,_⟩|⟨rfl,_⟩<;>rfl
 rw[Rd.end_at h2 h3' hq]
 refine ad (ad (aa (ah [] rfl ?_)))
 refine ab [] (af 4 rfl rfl rfl hget) rfl ?_
 refine ae [] rfl ?_
 refine aD rfl (fun hz=>?_) (fun hz=>aq ?_)
 ·refine ad (aa (ae [] rfl ?_))
  refine aC [4,5] (by decide) rfl (ay ⟨_,rfl,?_⟩)
  unfold Rd.endAt
  rw[if_pos hz]
  exact⟨rfl,A,c,rfl⟩
 refine ad (aa (ah [] rfl ?_))
 refine ab [] (dD rfl rfl rfl rfl rfl (by simp)) rfl ?_
 refine ab [] (bw 0 rfl rfl rfl rfl (fM (x:=x1) rfl)) rfl ?_
 refine bS rfl rfl rfl rfl rfl rfl rfl (fun _=>rfl) fun g=>?_
 refine ap [] (jN V [x1] (fun x hx=>hw x (by simp only[List.mem_cons,List.not_mem_nil,or_false] at hx ⊢;exact .inr (.inl hx))) (by simp) _ 1 _ g 0 (fun _=>rfl) rfl) rfl rfl rfl rfl (by kernel_rfl) ⟨⟨0,_,by simp,rfl,aF _ _ _ (0,0),.inr rfl⟩,⟨2,by simp,rfl⟩,⟨3,by simp,rfl⟩,⟨4,by simp,rfl⟩,trivial⟩ (fun _=>rfl) ?_
 rintro v H' ⟨An,cn,rfl,rfl⟩
 refine⟨rfl,?_⟩
 generalize hqq:bd [x1]=Q
 have hql:=fun h=>(kU (ws:=[x1]) h).1
 have hqi:=oH (ws:=[x1])
 rw[hqq] at hql hqi
 obtain⟨L,e⟩:=Q
 refine ae [] rfl ?_
 refine ad (ax ?_)
 have z0:¬ r.at_ q≠0:=hz
 have fold:∀ u:Rd×Int,(if e≠0 then (r,e) else if ¬ (1≤L.getD 0 0∧L.getD 0 0≤r.nodes) then (r,4) else if L.getD 0 0=r.src∨L.getD 0 0=r.snk then (r,5) else (r.put q (L.getD 0 0),0))=u→r.endAt q (L,e)=u:=fun u hu=>by
  unfold Rd.endAt
  rw[if_neg z0]
  exact hu
 refine ad (aa (ae [] rfl ?_))
 refine aD rfl (fun he=>?_) (fun he=>?_)
 ·refine ad (aa (ae [] rfl ?_))
  exact aC [6,7] (by decide) rfl (ay ⟨_,rfl,by rw[fold _ (if_pos he)];exact⟨rfl,A,c,rfl⟩⟩)
 have he0:e=0:=Classical.not_not.1 he
 obtain⟨a,rfl⟩:∃ a,L=[a]:=by
  match L,hql he0 with
  |[a],_=>exact⟨a,rfl⟩
 refine bB (bg 0 rfl) (fun ho=>?_)
 obtain⟨g',rfl⟩:=ho.2.2.1 (by simp)
 simp only[List.getD_cons_zero] at fold
 rw[if_neg he] at fold
 refine ad (aa (ah [] rfl ?_))
 refine ab [] (dD rfl rfl rfl rfl rfl (by simp)) rfl ?_
 refine ab [] (aG (i:=0) 0 rfl rfl rfl (bh rfl)) rfl ?_
 refine ap [] (kW p r A c a) rfl rfl rfl rfl (by kernel_rfl) ⟨⟨6,_,by simp,rfl,aF _ _ _ (0,0),.inr rfl⟩,trivial⟩ (fun _=>rfl) ?_
 rintro v H' ⟨rfl,rfl⟩
 refine⟨rfl,?_⟩
 refine ae [] rfl ?_
 by_cases h4:1≤a∧a≤r.nodes
 case neg=>
  refine aM 58 (v':=.bool true) rfl (by rw[aB h4];rfl) ?_
  refine a8 rfl ?_
  refine ad (aa (ae [] rfl ?_))
  exact aC [6,7] (by decide) rfl (ay ⟨_,rfl,by rw[fold _ (if_pos h4)];exact⟨rfl,A,c,rfl⟩⟩)
 refine aM 58 (v':=.bool false) rfl (by rw[aA h4];rfl) ?_
 refine bq rfl ?_
 rw[if_neg (fun k=>k h4)] at fold
 refine ad ?_
 have h5bad:(a=r.src∨a=r.snk)→gN p (r.endAt q ([a],e)) (.int .i64 5) (kT p A c r):=fun h=>by
  rw[fold _ (if_pos h)];exact⟨rfl,A,c,rfl⟩
 refine bz 21 [(0,true),(1,true),(2,true),(3,true),(4,true),(5,true),(6,true),(7,true),(8,true),(9,true),(10,true),(11,true),(12,true),(13,true),(14,true),(15,true),(16,true),(17,true),(18,true),(19,true),(20,true)] [0,6] (by kernel_rfl) (by decide) rfl ?_
 refine aH [] rfl ?_
 refine aj [] rfl (dD rfl rfl rfl rfl rfl (by simp)) rfl ?_
 refine aj [] rfl (aG (i:=0) 0 rfl rfl rfl (bh rfl)) rfl ?_
 refine aH [] rfl ?_
 refine aj [] rfl (af (i:=1) (v:=.int .i64 r.src) 1 rfl rfl rfl rfl) rfl ?_
 refine aH [] rfl ?_
 by_cases h6:a=r.src
 ·refine cZ 75 (v':=.bool true) rfl (congrArg Value.bool (aA h6)) ?_
  refine dH [9] rfl ?_
  refine ai ?_
  refine a8 rfl ?_
  refine ad (aa (ae [] rfl ?_))
  exact aC [6,7] (by decide) rfl (ay ⟨_,rfl,h5bad (.inl h6)⟩)
 refine cZ 75 (v':=.bool false) rfl (congrArg Value.bool (aB h6)) ?_
 refine aH [9] rfl ?_
 refine aj [9] rfl (dD rfl rfl rfl rfl rfl (by simp)) rfl ?_
 refine aj [9] rfl (aG (i:=0) 0 rfl rfl rfl (bh rfl)) rfl ?_
 refine aH [9] rfl ?_
 refine aj [9] rfl (af (i:=2) (v:=.int .i64 r.snk) 1 rfl rfl rfl rfl) rfl ?_
 refine dH [9] rfl ?_
 refine ai ?_
 refine aD rfl (fun h7=>?_) (fun h7=>aq ?_)
 ·refine ad (aa (ae [] rfl ?_))
  exact aC [6,7] (by decide) rfl (ay ⟨_,rfl,h5bad (.inr h7)⟩)
 refine ad (aa (ah [] rfl ?_))
 refine ab [] (dD rfl rfl rfl rfl rfl (by simp)) rfl ?_
 refine ab [] (aG (i:=0) 0 rfl rfl rfl (bh rfl)) rfl ?_
 refine ah [] rfl ?_
 refine aE 6 rfl rfl rfl rfl (hput a) [] rfl ?_
 refine ae [] rfl ?_
 refine ad (aa (ae [] rfl ?_))
 refine aC [6,7] (by decide) rfl (ay ⟨_,rfl,?_⟩)
 rw[fold _ (if_neg (by omega))]
 refine⟨rfl,A,c,?_⟩
 rcases hq with ⟨rfl,_⟩|⟨rfl,_⟩<;>rfl
end Go.Proofs.YtpbmihpjgjbndaaGreatDoor
