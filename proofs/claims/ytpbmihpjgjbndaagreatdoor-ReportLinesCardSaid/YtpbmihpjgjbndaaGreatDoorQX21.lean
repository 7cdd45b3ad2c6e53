/- The engine and the words that all chapters share: several texts in one. -/
import Derived.Test.YtpbmihpjgjbndaaGreatDoorQX35
/- Chapter 19's words: two rows that are the same, and the example. -/
set_option linter.unusedVariables false
set_option linter.unusedSimpArgs false
namespace Go.Proofs.YtpbmihpjgjbndaaGreatDoor
open Go.RowKit
open Lib
def lW:a8:=⟨2,1,2,[⟨1,2,5⟩]⟩
theorem mi:lW.Right:=⟨by decide,by decide,by decide,by decide,by decide,fun a ha=>(by
 have h:a=⟨1,2,5⟩:=by simpa [lW] using ha
 subst h;decide),by decide⟩
theorem uL:lW.Fits:=mi.fits2
theorem tU:aH lW [5]:=by
 refine⟨⟨rfl,fun p hp=>?_⟩,fun v h1 h2 h3=>?_⟩
 ·have h:p=(⟨1,2,5⟩,5):=by simpa [lW] using hp
  subst h;decide
 ·have h1':1≤v∧v≤2:=h1
  have h2':v≠1:=h2
  have h3':v≠2:=h3
  omega
theorem wF:eq lW [1]:=⟨by decide,by decide,by decide,by decide⟩
theorem wx:cY (lW.arcs.zip [5]) 2=5:=by decide
theorem wJ:ec [1] lW.arcs=5:=by decide
theorem wM:ev [5] [1] 5 5=[118,97,108,117,101,32,53,10,99,117,116,32,53,10,102,32,49,32,53,10,120,32,49,10,112,114,111,118,101,100,10]:=by
 have h5:itoa 5=[53]:=(mM (by decide)).trans (decDigits_one (by decide))
 have h1:itoa 1=[49]:=(mM (by decide)).trans (decDigits_one (by decide))
 have hf:fK [5] 1=dJ [102] [1,5]:=by rw[mc];unfold fK lN;rfl
 have hx:xK [1] 1=dJ [120] [1]:=by rw[o9 (x:=1) rfl];rfl
 unfold ev fR kr
 show ((dJ _ _++dJ _ _)++fK [5] 1)++xK [1] 1++_=_
 rw[hf,hx,if_pos rfl]
 simp[dJ,jW,h5,h1]
theorem rd (V:f8):Fn 10 [] [] V.heap fun v H'=>v=.bool true∧H'=[]:=by
 refine aS Tryz.func10 rfl rfl fun w0=>?_
 refine ad (aa (ae [] rfl ?_))
 refine ad (aa ?_)
 refine ab [] (cj rfl rfl rfl rfl rfl rfl) rfl ?_
 refine bK rfl rfl rfl rfl rfl rfl rfl (fun _=>rfl) fun g=>?_
 refine ab [] (cj rfl rfl rfl rfl rfl rfl) rfl ?_
 refine bK rfl rfl rfl rfl rfl rfl rfl (fun _=>rfl) fun g2=>?_
 refine bK rfl rfl rfl rfl rfl rfl rfl (fun _=>rfl) fun g3=>?_
 refine ax [] (jo V lW uL mi (some ⟨g,0,none⟩) 1 g 0 (fun _=>rfl) [5] (fun x hx=>by simp at hx;rw[hx];decide) (by decide) (some ⟨g2,0,none⟩) 1 g2 0 (fun _=>rfl) [1] (fun x hx=>by simp at hx;rw[hx];decide) (by decide) (some ⟨g3,0,none⟩) 1 g3 0 (fun _=>rfl)) rfl rfl rfl rfl (by kernel_rfl) ⟨⟨2,_,by simp,rfl,aL _ _ _ (0,0),.inr rfl⟩,⟨1,_,by simp,rfl,aL _ _ _ (0,0),.inr rfl⟩,⟨0,_,by simp,rfl,aL _ _ _ (0,0),.inr rfl⟩,⟨3,by simp,rfl⟩,⟨4,by simp,rfl⟩,⟨5,by simp,rfl⟩,trivial⟩ (fun _=>rfl) ?_
 rintro v H' ⟨rfl,rfl⟩
 refine⟨rfl,?_⟩
 have hv:i8 lW [5] [1]=.tuple #[dy [118,97,108,117,101,32,53,10,99,117,116,32,53,10,102,32,49,32,53,10,120,32,49,10,112,114,111,118,101,100,10],.int .i64 0]:=by
  unfold i8
  rw[if_pos tU,if_pos wF,show cY (lW.arcs.zip [5]) lW.snk=5 from wx,wJ,wM]
 rw[hv]
 refine ae [] rfl ?_
 refine ad (aa (ah [] rfl ?_))
 refine aw 14 (v':=.bool true) rfl (congrArg Value.bool ((jZ _ _).trans (az rfl))) ?_
 refine ae [2] rfl ?_
 refine aE [] (by decide) rfl (aB ⟨_,rfl,congrArg Value.bool (az rfl),rfl⟩)
end Go.Proofs.YtpbmihpjgjbndaaGreatDoor
/- The lines of a report stand in one order only. -/
set_option linter.unusedVariables false
set_option linter.unusedSimpArgs false
namespace Go.Proofs.YtpbmihpjgjbndaaGreatDoor
open Go.RowKit
open Lib
def hZ (x:List UInt8):Int:=match bx x with
 |[]=>0
 |h::t=>if h=[118,97,108,117,101] then 0 else if h=[99,117,116] then 1 else if h=[102] then 2+(bD t).1.getD 0 0 else if h=[120] then 1000000+(bD t).1.getD 0 0 else 1000000000
theorem jy {x h:List UInt8} {t:Ws} (hx:bx x=h::t):hZ x=if h=[118,97,108,117,101] then 0 else if h=[99,117,116] then 1 else if h=[102] then 2+(bD t).1.getD 0 0 else if h=[120] then 1000000+(bD t).1.getD 0 0 else 1000000000:=by
 unfold hZ
 rw[hx]
def xi (f:List Int) (k:Nat):List Nat:=(List.range k).filter fun i=>decide (0<f.getD i 0)
theorem kY (f:List Int):∀ k,gy f k=(xi f k).map fun i=>nu [102] [((i+1:Nat):Int),f.getD i 0]
 |0=>rfl
 |k+1=>by
  rw[f6,kY f k]
  unfold xi oO
  rw[List.range_succ,List.filter_append,List.map_append]
  congr 1
  by_cases h:0<f.getD k 0
  ·rw[if_pos h,List.filter_cons,if_pos (by simpa using h)];rfl
  ·rw[if_neg h,List.filter_cons,if_neg (by simpa using h)];rfl
theorem yY (v:Int):hZ (nu [118,97,108,117,101] [v])=0:=by
 rw[jy (h:=[118,97,108,117,101]) (t:=[itoa v]) (by rw[ex];rfl),if_pos rfl]
theorem yN (c:Int):hZ (nu [99,117,116] [c])=1:=by
 rw[jy (h:=[99,117,116]) (t:=[itoa c]) (by rw[ex];rfl),if_neg (by decide),if_pos rfl]
theorem yR {a x:Int} (ha:bN a) (hx:bN x):hZ (nu [102] [a,x])=2+a:=by
 have hn:=jf (l:=[a,x]) (fun n hn=>by
  simp only[List.mem_cons,List.not_mem_nil,or_false] at hn
  rcases hn with rfl|rfl
  ·exact ha
  ·exact hx)
 rw[jy (h:=[102]) (t:=[a,x].map itoa) (by rw[ex];rfl),if_neg (by decide),if_neg (by decide),if_pos rfl,hn]
 rfl
theorem yO {a:Int} (ha:bN a):hZ (nu [120] [a])=1000000+a:=by
 have hn:=jf (l:=[a]) (fun n hn=>by rw[List.mem_singleton.1 hn];exact ha)
 rw[jy (h:=[120]) (t:=[a].map itoa) (by rw[ex];rfl),if_neg (by decide),if_neg (by decide),if_neg (by decide),if_pos rfl,hn]
 rfl
theorem t7 (v c:Int):hZ (kj v c)=1000000000:=by
 unfold kj
 split
 ·rw[jy (h:=[112,114,111,118,101,100]) (t:=[]) rfl,if_neg (by decide),if_neg (by decide),if_neg (by decide),if_neg (by decide)]
 ·rw[jy (h:=[110,111,116]) (t:=[[112,114,111,118,101,100]]) rfl,if_neg (by decide),if_neg (by decide),if_neg (by decide),if_neg (by decide)]
theorem rV (f s:List Int) (v c:Int) (hn:f.length≤100000) (hf:∀ i,bN (f.getD i 0)) (hs:∀ x∈s,bN x):(f7 f s v c).map hZ=0::1::(((xi f f.length).map (fun i=>2+((i+1:Nat):Int))++s.map (fun x=>1000000+x))++[1000000000]):=by
 unfold f7
 rw[kY]
 simp only[List.map_cons,List.map_append,List.map_map,List.map_nil,yY,yN,t7]
 congr 4
 ·refine List.map_congr_left fun i hi=>?_
  have:=List.mem_range.1 (List.mem_filter.1 hi).1
  exact yR (by unfold bN;omega) (hf i)
 ·exact List.map_congr_left fun x hx=>yO (hs x hx)
theorem uU (f s:List Int) (v c:Int) (hn:f.length≤100000) (hf:∀ i,bN (f.getD i 0)) (hs:∀ x∈s,1≤x∧x≤500) (hr:s.Pairwise (·<·)):(f7 f s v c).Pairwise fun x y=>hZ x<hZ y:=by
 have h:=rV f s v c hn hf (fun x hx=>by have:=hs x hx;unfold bN;omega)
 have key:((f7 f s v c).map hZ).Pairwise (·<·):=by
  rw[h]
  have hF:∀ y∈(xi f f.length).map (fun i=>2+((i+1:Nat):Int)),2<y∧y≤100002:=fun y hy=>by
   obtain⟨i,hi,rfl⟩:=List.mem_map.1 hy
   have:=List.mem_range.1 (List.mem_filter.1 hi).1
   omega
  have hX:∀ y∈s.map (fun x=>1000000+x),1000000<y∧y≤1000500:=fun y hy=>by
   obtain⟨x,hx,rfl⟩:=List.mem_map.1 hy
   have:=hs x hx
   omega
  refine List.pairwise_cons.2 ⟨fun y hy=>?_,List.pairwise_cons.2 ⟨fun y hy=>?_,List.pairwise_append.2 ⟨List.pairwise_append.2 ⟨?_,?_,fun a ha b hb=>?_⟩,List.pairwise_singleton _ _,fun a ha b hb=>?_⟩⟩⟩
  ·rcases List.mem_cons.1 hy with rfl|hy
   ·decide
   rcases List.mem_append.1 hy with hy|hy
   ·rcases List.mem_append.1 hy with hy|hy
    ·have:=hF y hy;omega
    ·have:=hX y hy;omega
   ·rw[List.mem_singleton.1 hy];decide
  ·rcases List.mem_append.1 hy with hy|hy
   ·rcases List.mem_append.1 hy with hy|hy
    ·have:=hF y hy;omega
    ·have:=hX y hy;omega
   ·rw[List.mem_singleton.1 hy];decide
  ·refine List.pairwise_map.2 ?_
   exact (List.Pairwise.sublist List.filter_sublist (List.pairwise_lt_range (n:=f.length))).imp fun h=>by omega
  ·exact List.pairwise_map.2 (hr.imp fun h=>by omega)
  ·have:=hF a ha;have:=hX b hb;omega
  ·rw[List.mem_singleton.1 hb]
   rcases List.mem_append.1 ha with ha|ha
   ·have:=hF a ha;omega
   ·have:=hX a ha;omega
 exact List.pairwise_map.1 key
theorem mG.rise {N:a8} (hR:N.Right) {l:List UInt8} {f s:List Int} (h:mG N l f s):(bc l).Pairwise fun x y=>hZ x<hZ y:=by
 obtain⟨_,hf,hs,rfl⟩:=h
 have h1:=hf.len
 have h2:=hR.len
 have h3:=hR.nodes
 rw[js]
 exact uU f s _ _ (by omega) (fun i=>(lH hR hf i).2) (fun x hx=>by have:=hs.rng x hx;omega) hs.rise
def lF (n sk i:Nat):Nat:=if i=sk∧sk+1<n then sk+1 else if i=sk+1 then sk else i
def eV (L:List (List UInt8)) (sk k:Nat):List (List UInt8):=(List.range k).map fun i=>L.getD (lF L.length sk i) []
def oZ (L:List (List UInt8)) (sk k:Nat):List UInt8:=((eV L sk k).map fun x=>x++[10]).flatten
def tj (L:List (List UInt8)) (sk k:Nat):List UInt8:=((List.range k).map fun i=>if i=sk then [] else L.getD i []++[10]).flatten
theorem qz (L:List (List UInt8)) (sk k:Nat):oZ L sk (k+1)=oZ L sk k++(L.getD (lF L.length sk k) []++[10]):=by unfold oZ eV;rw[List.range_succ];simp
theorem qH (L:List (List UInt8)) (sk k:Nat):tj L sk (k+1)=tj L sk k++(if k=sk then [] else L.getD k []++[10]):=by unfold tj;rw[List.range_succ];simp
theorem mL {L:List (List UInt8)} {B:Nat} (h:∀ x∈L,x.length≤B) (i:Nat):(L.getD i []).length≤B:=by
 rw[List.getD_eq_getElem?_getD]
 cases hx:L[i]? with
 |none=>exact Nat.zero_le _
 |some x=>exact h x (List.mem_of_getElem? hx)
theorem su {L:List (List UInt8)} {B:Nat} (h:∀ x∈L,x.length≤B) (sk:Nat):∀ k,(oZ L sk k).length≤k*(B+1)
 |0=>by simp[oZ,eV]
 |k+1=>by
  have:=su h sk k
  have:=mL h (lF L.length sk k)
  rw[qz,List.length_append,List.length_append,Nat.succ_mul]
  simp only[List.length_cons,List.length_nil]
  omega
theorem sF {L:List (List UInt8)} {B:Nat} (h:∀ x∈L,x.length≤B) (sk:Nat):∀ k,(tj L sk k).length≤k*(B+1)
 |0=>by simp[tj]
 |k+1=>by
  have:=sF h sk k
  have:=mL h k
  rw[qH,List.length_append,Nat.succ_mul]
  split
  ·simp only[List.length_nil];omega
  ·simp only[List.length_append,List.length_cons,List.length_nil];omega
theorem wH {L:List (List UInt8)} (h:∀ x∈L,∀ b∈x,b≠10) (i:Nat):∀ b∈L.getD i [],b≠10:=by
 rw[List.getD_eq_getElem?_getD]
 cases hx:L[i]? with
 |none=>intro b hb;exact absurd hb List.not_mem_nil
 |some x=>exact h x (List.mem_of_getElem? hx)
theorem ve {L:List (List UInt8)} (h:∀ x∈L,∀ b∈x,b≠10) (sk k:Nat):bc (oZ L sk k)=eV L sk k:=by
 unfold oZ
 refine mP _ fun x hx=>?_
 obtain⟨i,_,rfl⟩:=List.mem_map.1 hx
 exact wH h _
theorem qU {N:a8} (hR:N.Right) {f s:List Int} (hf:aH N f) (hs:eq N s) {sk:Nat} {f2 s2:List Int} (h:mG N (oZ (f7 f s (cY (N.arcs.zip f) N.snk) (ec s N.arcs)) sk (f7 f s (cY (N.arcs.zip f) N.snk) (ec s N.arcs)).length) f2 s2):oZ (f7 f s (cY (N.arcs.zip f) N.snk) (ec s N.arcs)) sk (f7 f s (cY (N.arcs.zip f) N.snk) (ec s N.arcs)).length=ev f s (cY (N.arcs.zip f) N.snk) (ec s N.arcs):=by
 have h1:=(qJ hR hf hs).rise hR
 have h2:=h.rise hR
 rw[ve ni] at h2
 rw[js] at h1
 rw[sn]
 generalize f7 f s (cY (N.arcs.zip f) N.snk) (ec s N.arcs)=L at*
 have hget:∀ i (hi:i<L.length),L.getD i []=L[i]:=fun i hi=>by rw[List.getD_eq_getElem?_getD,List.getElem?_eq_getElem hi];rfl
 by_cases hsk:sk+1<L.length
 ·exfalso
  have a:=(List.pairwise_iff_getElem.1 h1) sk (sk+1) (by omega) hsk (by omega)
  have hl:(eV L sk L.length).length=L.length:=by simp[eV]
  have b:=(List.pairwise_iff_getElem.1 h2) sk (sk+1) (by omega) (by omega) (by omega)
  have e1:(eV L sk L.length)[sk]'(by omega)=L[sk+1]:=by
   simp only[eV,List.getElem_map,List.getElem_range]
   rw[show lF L.length sk sk=sk+1 from if_pos ⟨rfl,hsk⟩,hget _ hsk]
  have e2:(eV L sk L.length)[sk+1]'(by omega)=L[sk]:=by
   simp only[eV,List.getElem_map,List.getElem_range]
   rw[show lF L.length sk (sk+1)=sk from (if_neg (by omega)).trans (if_pos rfl),hget _ (by omega)]
  rw[e1,e2] at b
  omega
 ·have e:eV L sk L.length=L:=by
   refine List.ext_getElem (by simp[eV]) fun i h3 h4=>?_
   simp only[eV,List.getElem_map,List.getElem_range]
   rw[show lF L.length sk i=i by unfold lF;rw[if_neg (by omega),if_neg (by omega)],hget _ h4]
  unfold oZ
  rw[e]
theorem uT (f s:List Int) (v c:Int) (hn:f.length≤100000) (hf:∀ i,bN (f.getD i 0)) (hs:∀ x∈s,bN x) (hv:bN v) (hc:bN c):∀ x∈f7 f s v c,x.length≤60:=by
 intro x hx
 unfold f7 at hx
 rw[kY] at hx
 have one:∀ {w:List UInt8} {a:Int},bN a→w.length≤5→(nu w [a]).length≤60:=fun {w a} ha hw=>by
  have:=l6 w [a] (fun n hn=>by rw[List.mem_singleton.1 hn];exact ha)
  simp only[List.length_cons,List.length_nil] at this
  omega
 rcases List.mem_cons.1 hx with rfl|hx
 ·exact one hv (by decide)
 rcases List.mem_cons.1 hx with rfl|hx
 ·exact one hc (by decide)
 rcases List.mem_append.1 hx with hx|hx
 ·rcases List.mem_append.1 hx with hx|hx
  ·obtain⟨i,hi,rfl⟩:=List.mem_map.1 hx
   have hi2:=List.mem_range.1 (List.mem_filter.1 hi).1
   have:=l6 [102] [((i+1:Nat):Int),f.getD i 0] (fun n hn=>by
    simp only[List.mem_cons,List.not_mem_nil,or_false] at hn
    rcases hn with rfl|rfl
    ·unfold bN;omega
    ·exact hf i)
   simp only[List.length_cons,List.length_nil] at this
   omega
  ·obtain⟨y,hy,rfl⟩:=List.mem_map.1 hx
   exact one (hs y hy) (by decide)
 ·rw[List.mem_singleton.1 hx]
  unfold kj
  split<;>decide
theorem qF (f s:List Int) (v c:Int):(f7 f s v c).length=3+s.length+(gy f f.length).length:=by
 unfold f7
 simp only[List.length_cons,List.length_append,List.length_map,List.length_nil]
 omega
theorem qy (f:List Int) (i:Nat):(oO f i).length=if 0<f.getD i 0 then 1 else 0:=by unfold oO;split<;>rfl
theorem lf (f:List Int):∀ k,(gy f k).length≤k
 |0=>Nat.le_refl _
 |k+1=>by
  have:=lf f k
  rw[f6,List.length_append,qy]
  split<;>omega
end Go.Proofs.YtpbmihpjgjbndaaGreatDoor
