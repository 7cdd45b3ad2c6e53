/- The engine and the words that all chapters share: several texts in one. -/
import Derived.Test.YtpbmihpjgjbndaaGreatDoorQX39
import Derived.Test.YtpbmihpjgjbndaaGreatDoorQX49
import Derived.Test.YtpbmihpjgjbndaaGreatDoorSesS
import Derived.Test.YtpbmihpjgjbndaaGreatDoorQB
/- What a report says. -/
set_option linter.unusedVariables false
set_option linter.unusedSimpArgs false
namespace Go.Proofs.YtpbmihpjgjbndaaGreatDoor
open Go.RowKit
open Lib
theorem nR (n:Int):∀ b∈itoa n,b≠10∧lq b=false:=by
 by_cases h:0≤n
 ·exact vg h
 ·intro b hb
  unfold itoa at hb
  rw[if_pos (by omega)] at hb
  rcases List.mem_cons.1 hb with rfl|hb
  ·decide
  ·exact sN (List.all_eq_true.1 (mS _) b hb)
theorem vn (n:Int):itoa n≠[]:=by
 unfold itoa;split
 ·simp
 ·exact pF _
theorem ex (f:List UInt8) (l:List Int):bx (nu f l)=bx f++l.map itoa:=by
 induction l generalizing f with
 |nil=>simp[jW]
 |cons n l ih=>
  rw[wL,ih,tY rfl,tw (fun b hb=>(nR n b hb).2) (vn n)]
  simp
theorem lZ {f:List UInt8} {l:List Int} (hf:∀ b∈f,b≠10):∀ b∈nu f l,b≠10:=by
 intro b hb
 rw[jW] at hb
 rcases List.mem_append.1 hb with hb|hb
 ·exact hf b hb
 ·obtain⟨x,hx,hbx⟩:=List.mem_flatten.1 hb
  obtain⟨n,hn,rfl⟩:=List.mem_map.1 hx
  rcases List.mem_cons.1 hbx with rfl|hbx
  ·decide
  ·exact (nR n b hbx).1
theorem jf {l:List Int} (h:∀ n∈l,bN n):bD (l.map itoa)=(l,0):=by
 have hk:∀ n∈l,dE (itoa n)=(n,0):=fun n hn=>wj n (by have:=h n hn;unfold bN at this;omega)
 rw[mu (fun w hw=>by obtain⟨n,hn,rfl⟩:=List.mem_map.1 hw;rw[hk n hn])]
 congr 1
 rw[List.map_map]
 exact (List.map_congr_left (fun n hn=>by show (dE (itoa n)).1=id n;rw[hk n hn];rfl)).trans (List.map_id l)
def oO (f:List Int) (i:Nat):List (List UInt8):=if 0<f.getD i 0 then [nu [102] [((i+1:Nat):Int),f.getD i 0]] else []
def gy (f:List Int) (k:Nat):List (List UInt8):=((List.range k).map (oO f)).flatten
def kj (v c:Int):List UInt8:=if v=c then [112,114,111,118,101,100] else [110,111,116,32,112,114,111,118,101,100]
def f7 (f s:List Int) (v c:Int):List (List UInt8):=nu [118,97,108,117,101] [v]::nu [99,117,116] [c]::((gy f f.length++s.map fun x=>nu [120] [x])++[kj v c])
theorem f6 (f:List Int) (k:Nat):gy f (k+1)=gy f k++oO f k:=by unfold gy;rw[List.range_succ];simp
theorem tl (f:List Int):∀ k,fK f k=((gy f k).map fun x=>x++[10]).flatten
 |0=>rfl
 |k+1=>by
  rw[mc,tl f k,f6,List.map_append,List.flatten_append]
  congr 1
  unfold lN oO
  split
  ·simp[dJ]
  ·rfl
theorem sn (f s:List Int) (v c:Int):ev f s v c=((f7 f s v c).map fun x=>x++[10]).flatten:=by
 unfold ev f7 fR xK
 rw[List.take_length,tl,show kr v c=kj v c++[10] by unfold kr kj;split<;>simp[dJ,jW]]
 simp[dJ,Function.comp_def]
theorem ni {f s:List Int} {v c:Int}:∀ x∈f7 f s v c,∀ b∈x,b≠10:=by
 intro x hx
 unfold f7 at hx
 rcases List.mem_cons.1 hx with rfl|hx
 ·exact lZ (by decide)
 rcases List.mem_cons.1 hx with rfl|hx
 ·exact lZ (by decide)
 rcases List.mem_append.1 hx with hx|hx
 ·rcases List.mem_append.1 hx with hx|hx
  ·obtain⟨r,hr,hxr⟩:=List.mem_flatten.1 hx
   obtain⟨i,_,rfl⟩:=List.mem_map.1 hr
   unfold oO at hxr
   split at hxr
   ·rw[List.mem_singleton.1 hxr];exact lZ (by decide)
   ·cases hxr
  ·obtain⟨y,_,rfl⟩:=List.mem_map.1 hx
   exact lZ (by decide)
 ·rw[List.mem_singleton.1 hx]
  unfold kj
  split<;>decide
theorem js (f s:List Int) (v c:Int):bc (ev f s v c)=f7 f s v c:=by rw[sn,mP _ ni]
theorem tA {n:Nat} {q:List Int×List Int} {h:List UInt8} {t:Ws} (h1:h≠[102]) (h2:h≠[120]):ef n q h t=q:=by
 unfold ef
 rw[if_neg (fun k=>h1 k.1),if_neg (fun k=>h2 k.1)]
def j8 (f:List Int) (n k:Nat):List Int:=(List.range n).map fun i=>if i<k then f.getD i 0 else 0
theorem uX (f:List Int) (n:Nat):j8 f n 0=List.replicate n 0:=by
 unfold j8
 refine List.ext_getElem (by simp) fun i h1 h2=>by simp
theorem we (f:List Int):j8 f f.length f.length=f:=by
 unfold j8
 refine List.ext_getElem (by simp) fun i h1 h2=>by
  simp only[List.getElem_map,List.getElem_range]
  rw[if_pos h2,List.getD_eq_getElem?_getD,List.getElem?_eq_getElem h2];rfl
theorem wN (f:List Int) {n k:Nat} (h:k<n):(j8 f n k).set k (f.getD k 0)=j8 f n (k+1):=by
 unfold j8
 refine List.ext_getElem (by simp) fun i h1 h2=>by
  simp only[List.getElem_set,List.getElem_map,List.getElem_range]
  by_cases e:k=i
  ·subst e;rw[if_pos rfl,if_pos (by omega)]
  ·rw[if_neg e]
   by_cases h3:i<k
   ·rw[if_pos h3,if_pos (by omega)]
   ·rw[if_neg h3,if_neg (by omega)]
theorem uo (f:List Int) {n k:Nat} (h:f.getD k 0=0):j8 f n k=j8 f n (k+1):=by
 unfold j8
 refine List.map_congr_left fun i _=>?_
 by_cases e:i=k
 ·subst e;rw[if_neg (by omega),if_pos (by omega),h]
 ·by_cases h3:i<k
  ·rw[if_pos h3,if_pos (by omega)]
  ·rw[if_neg h3,if_neg (by omega)]
theorem th (f:List Int) (n:Nat) (hn:n≤100000) (hf:∀ i,0≤f.getD i 0∧bN (f.getD i 0)):∀ k,k≤n→el n (List.replicate n 0,[]) ((gy f k).map bx)=some (j8 f n k,[])
 |0,_=>by rw[uX];rfl
 |k+1,h=>by
  have hfk:=hf k
  rw[f6,List.map_append,fH,th f n hn hf k (by omega)]
  show el n (j8 f n k,[]) ((oO f k).map bx)=_
  unfold oO
  by_cases h0:0<f.getD k 0
  ·rw[if_pos h0,← wN f (by omega)]
   have hnum:bD ([((k+1:Nat):Int),f.getD k 0].map itoa)=([((k+1:Nat):Int),f.getD k 0],0):=jf (fun m hm=>by
    simp only[List.mem_cons,List.not_mem_nil,or_false] at hm
    rcases hm with rfl|rfl
    ·unfold bN;omega
    ·exact hfk.2)
   rw[List.map_cons,List.map_nil,ex,show bx [102]=[[102]] from rfl]
   show some (ef n (j8 f n k,[]) [102] ([((k+1:Nat):Int),f.getD k 0].map itoa))=_
   unfold ef
   rw[if_pos ⟨rfl,by unfold gV;rw[hnum];rfl,by rw[hnum];rfl,by rw[hnum];show (1:Int)≤((k+1:Nat):Int);omega,by rw[hnum];show ((k+1:Nat):Int)≤n;omega⟩,hnum]
   show some ((j8 f n k).set (((k+1:Nat):Int)-1).toNat (f.getD k 0),[])=_
   rw[show (((k+1:Nat):Int)-1).toNat=k by omega]
  ·rw[if_neg h0,← uo f (by omega)]
   rfl
theorem sr {n:Nat} {f:List Int}:∀ {s:List Int} (_:∀ x∈s,bN x) (t:List Int),el n (f,t) ((s.map fun x=>nu [120] [x]).map bx)=some (f,t++s)
 |[],_,t=>by simp[el]
 |x::s,h,t=>by
  have hnum:bD ([x].map itoa)=([x],0):=jf (fun m hm=>h m (by simp at hm;simp[hm]))
  rw[List.map_cons,List.map_cons,ex,show bx [120]=[[120]] from rfl]
  show el n (ef n (f,t) [120] ([x].map itoa)) _=_
  rw[show ef n (f,t) [120] ([x].map itoa)=(f,t++[x]) by
   unfold ef
   rw[if_neg (fun k=>absurd k.1 (by decide)),if_pos ⟨rfl,by unfold gV;rw[hnum];rfl,by rw[hnum];rfl⟩,hnum]
   rfl,sr (fun y hy=>h y (by simp[hy])) (t++[x])]
  simp
theorem jp {n:Nat} {q:List Int×List Int} {h:List UInt8} {t:Ws} {r:List Ws} (h1:h≠[102]) (h2:h≠[120]):el n q ((h::t)::r)=el n q r:=by
 show el n (ef n q h t) r=_
 rw[tA h1 h2]
theorem wq (f s:List Int) (v c:Int) (hn:f.length≤100000) (hf:∀ i,0≤f.getD i 0∧bN (f.getD i 0)) (hs:∀ x∈s,bN x):el f.length (List.replicate f.length 0,[]) ((f7 f s v c).map bx)=some (f,s):=by
 unfold f7
 rw[List.map_cons,List.map_cons,ex,ex,show bx [118,97,108,117,101]=[[118,97,108,117,101]] from rfl,show bx [99,117,116]=[[99,117,116]] from rfl]
 rw[List.cons_append,jp (by decide) (by decide),List.cons_append,jp (by decide) (by decide)]
 rw[List.map_append,List.map_append,fH,fH,th f f.length hn hf _ (Nat.le_refl _),we]
 simp only[]
 rw[sr hs]
 show el f.length (f,s) [bx (kj v c)]=_
 unfold kj
 split
 ·rw[show bx [112,114,111,118,101,100]=[[112,114,111,118,101,100]] from rfl,jp (by decide) (by decide)];rfl
 ·rw[show bx [110,111,116,32,112,114,111,118,101,100]=[[110,111,116],[112,114,111,118,101,100]] from rfl,jp (by decide) (by decide)];rfl
theorem lH {N:a8} (hR:N.Right) {f:List Int} (hf:aH N f) (i:Nat):0≤f.getD i 0∧bN (f.getD i 0):=by
 rw[List.getD_eq_getElem?_getD]
 cases h:f[i]? with
 |none=>exact⟨by simp,by unfold bN;simp⟩
 |some x=>
  have hi:=(List.getElem?_eq_some_iff.1 h).1
  have hl:=hf.len
  obtain⟨a,ha⟩:∃ a,N.arcs[i]?=some a:=⟨_,List.getElem?_eq_getElem (by omega)⟩
  have h2:=hf.all (a,x) (List.mem_of_getElem? (List.getElem?_zip_eq_some.2 ⟨ha,h⟩))
  have h3:=yE hR (List.mem_of_getElem? ha)
  simp only[Option.getD_some] at h2 ⊢
  exact⟨h2.1,by unfold bN;omega⟩
theorem qJ {N:a8} (hR:N.Right) {f s:List Int} (hf:aH N f) (hs:eq N s):mG N (ev f s (cY (N.arcs.zip f) N.snk) (ec s N.arcs)) f s:=by
 have hl:=hR.len
 have hfl:=hf.len
 have hn:=hR.nodes
 refine⟨?_,hf,hs,rfl⟩
 rw[js,← hfl]
 exact wq f s _ _ (by omega) (lH hR hf) fun x hx=>by have:=hs.rng x hx;unfold bN;omega
theorem vW {f s:List Int} {v c:Int} (hs:s≠[]):4≤(f7 f s v c).length:=by
 unfold f7
 have:0<s.length:=List.length_pos_iff.2 hs
 simp only[List.length_cons,List.length_append,List.length_map,List.length_nil]
 omega
theorem tT {N:a8} (hR:N.Right) {f s:List Int} (hm:kb N f) (h:rW N f s):eq N s∧ec s N.arcs=cY (N.arcs.zip f) N.snk:=by
 obtain⟨hc,hcl,_⟩:=h.cut hR hm
 exact⟨hc,(se hR hm.1 hc).2 hcl⟩
end Go.Proofs.YtpbmihpjgjbndaaGreatDoor
/- Chapter 4's networks of raw numbers. -/
set_option linter.unusedVariables false
set_option linter.unusedSimpArgs false
namespace Go.Proofs.YtpbmihpjgjbndaaGreatDoor
open Go.RowKit
theorem dA {c n:Int} (hc:bN c) (hn:0<n):Fn 22 [.int .i64 c,.int .i64 n] [] [] fun v H'=>v=.int .i64 (dq c n)∧H'=[]:=by
 unfold bN at hc
 refine aS Tryz.func22 rfl rfl fun w0=>?_
 refine ad (aa (ae [] rfl ?_))
 refine d7 [(0,.int .i64 (if c<0 then-(c+1) else c)),(1,.int .i64 n)] [] ?_ ?_
 ·refine ad (aa (ae [] rfl ?_))
  refine aC rfl (fun h=>?_) (fun h=>av ?_)
  ·refine aa (ae [] rfl ?_)
   refine⟨[],⟨?_,rfl,trivial⟩,by decide,rfl⟩
   show some (Value.int .i64 (IntKind.i64.wrap (0-IntKind.i64.wrap (c+1))))=_
   rw[if_pos h,bU (n:=c+1) (by omega),bU (by omega),Int.zero_sub]
  ·exact⟨[],⟨by rw[if_neg h];rfl,rfl,trivial⟩,by decide,rfl⟩
 refine ad (aa (ah [] rfl ?_))
 refine ab [] (sP rfl rfl rfl (by omega)) rfl ?_
 refine ae [] rfl ?_
 refine aB ⟨_,rfl,congrArg (Value.int .i64) ?_,rfl⟩
 unfold dq
 rw[Int.tmod_eq_emod_of_nonneg (by split<;>omega)]
theorem ub (nodes ends:Int) (hn:bN nodes) (he:bN ends) (A:Option Addr) (c b o:Nat) (l:List dK) (hA:l≠[]→A=some ⟨b,o,none⟩) (hl:∀ x∈l,bN x.fr∧bN x.to∧bN x.cap) (hs:l.length≤9223372036854775807):
 Fn 11 [.int .i64 nodes,.int .i64 ends,.slice A l.length c] [] [.seg b o (arcs l)] fun v H'=>∃ (N:a8) (A':Option Addr) (c':Nat),N.Right∧N.nodes≤9∧N.arcs.length≤24∧(∀ a∈N.arcs,a.cap≤1000000)∧v=bu N A' c'∧
  H'=[.own (.slice A' N.arcs.length c') 70 3 N.arcs.length (arcs N.arcs)]:=by
 refine kV Tryz.func11 rfl rfl fun w0=>?_
 refine ad (aa ?_)
 refine ci rfl rfl rfl (fun _=>rfl) fun b6=>?_
 refine ai ?_
 have hp1:=dT (c:=nodes) (n:=8) (by decide)
 refine ad (aa (ah [] rfl ?_))
 refine ax [] (dA hn (by decide)) rfl rfl rfl rfl (by kernel_rfl) trivial (fun _=>rfl) ?_
 rintro v H' ⟨rfl,rfl⟩
 refine⟨rfl,?_⟩
 refine ah [] rfl ?_
 obtain⟨nn,hnn⟩:∃ x,x=2+dq nodes 8:=⟨_,rfl⟩
 refine aw 12 (v':=.int .i64 nn) rfl (congrArg (Value.int .i64) ((bU (by omega)).trans hnn.symm)) ?_
 refine ah [] rfl ?_
 refine ab [] (cj rfl rfl rfl rfl rfl rfl) rfl ?_
 refine ci rfl rfl rfl (fun _=>rfl) fun b7=>?_
 refine aX 0 rfl rfl rfl rfl rfl [] rfl ?_
 refine ai ?_
 refine ad (aa (ah [] rfl ?_))
 refine ab [] (af 0 rfl rfl rfl rfl) rfl ?_
 refine ah [] rfl ?_
 have hp2:=dT (c:=ends) (n:=nn) (by omega)
 refine ax [] (dA he (by omega:0<nn)) rfl rfl rfl rfl (by kernel_rfl) trivial (fun _=>rfl) ?_
 rintro v H' ⟨rfl,rfl⟩
 refine⟨rfl,?_⟩
 refine ah [] rfl ?_
 obtain⟨src,hsrc⟩:∃ x,x=1+dq ends nn:=⟨_,rfl⟩
 refine aw 18 (v':=.int .i64 src) rfl (congrArg (Value.int .i64) ((bU (by omega)).trans hsrc.symm)) ?_
 refine ah [] rfl ?_
 refine aX 0 rfl rfl rfl rfl rfl [] rfl ?_
 refine ai ?_
 refine ad ?_
 refine bp 14 [(0,true),(1,true),(2,true),(3,true),(4,true),(5,true),(6,true),(9,true),(10,true),(7,false),(8,true),(11,true),(12,true),(13,true)] [0] (by kernel_rfl) (by decide) rfl ?_
 refine aF [] rfl ?_
 refine aj [] rfl (af 0 rfl rfl rfl rfl) rfl ?_
 refine aF [] rfl ?_
 refine aj [] rfl (af 0 rfl rfl rfl rfl) rfl ?_
 refine aF [] rfl ?_
 refine aj [] rfl (af 0 rfl rfl rfl rfl) rfl ?_
 have hp3:=dT (c:=ends.tdiv 16) (n:=nn-1) (by omega)
 have ht:=np ends (m:=16) (by decide)
 have hq:bN (ends.tdiv 16):=by unfold bN at*;omega
 refine aF [] rfl ?_
 refine cE 23 (v':=.int .i64 (ends.tdiv 16)) rfl (congrArg (Value.int .i64) (bU hq)) ?_
 refine cE 26 (v':=.int .i64 (nn-1)) rfl (congrArg (Value.int .i64) (bU (by omega))) ?_
 refine a6 rfl ?_
 refine ax [] (dA hq (by omega:0<nn-1)) rfl rfl rfl rfl (by kernel_rfl) trivial (fun _=>rfl) ?_
 rintro v H' ⟨rfl,rfl⟩
 refine⟨rfl,ai ⟨⟨[0],by decide,rfl⟩,?_⟩⟩
 refine aF [] rfl ?_
 refine cE 28 (v':=.int .i64 (src+dq (ends.tdiv 16) (nn-1))) rfl (congrArg (Value.int .i64) (bU (by omega))) ?_
 refine aj [] rfl (sP rfl rfl rfl (by omega)) rfl ?_
 obtain⟨snk,hsnk⟩:∃ x,x=1+(src+dq (ends.tdiv 16) (nn-1))%nn:=⟨_,rfl⟩
 have hm1:=Int.emod_nonneg (src+dq (ends.tdiv 16) (nn-1)) (show nn≠0 by omega)
 have hm2:=Int.emod_lt_of_pos (src+dq (ends.tdiv 16) (nn-1)) (show 0<nn by omega)
 have hdiff:src≠snk:=by
  intro e
  by_cases hlt:src+dq (ends.tdiv 16) (nn-1)<nn
  ·rw[Int.emod_eq_of_lt (by omega) hlt] at hsnk;omega
  ·have:(src+dq (ends.tdiv 16) (nn-1))%nn=src+dq (ends.tdiv 16) (nn-1)-nn:=by
    rw[← Int.sub_emod_right,Int.emod_eq_of_lt (by omega) (by omega)]
   rw[this] at hsnk;omega
 refine aF [] rfl ?_
 refine cE 32 (v':=.int .i64 snk) rfl (congrArg (Value.int .i64) ?_) ?_
 ·rw[Int.tmod_eq_emod_of_nonneg (by omega),bU (by omega),hsnk]
 refine bv ?_
 refine aX 0 rfl rfl rfl rfl rfl [] rfl ?_
 refine ai ?_
 refine ad (ad (aa (ae [] rfl ?_)))
 refine au ?_
 refine cC 70 3 ?_
 refine bq (σ:=Nat×Option Addr×Nat×List dK) (fun s=>[(8,.int .i64 s.1),(7,.pointer (some ⟨b7,0,none⟩)),(2,.slice A l.length c),(6,.pointer (some ⟨b6,0,none⟩))])
  (fun s=>[.own (.slice s.2.1 s.2.2.2.length s.2.2.1) 70 3 s.2.2.2.length (arcs s.2.2.2),blk b7 27 [.int .i64 nn,.int .i64 src,.int .i64 snk,.slice s.2.1 s.2.2.2.length s.2.2.1],
   blk b6 27 [.int .i64 0,.int .i64 0,.int .i64 0,.slice none 0 0],.seg b o (arcs l)])
  (fun s=>s.1≤l.length∧s.1≤24∧s.2.2.2.length=s.1∧∀ a∈s.2.2.2,(1≤a.fr∧a.fr≤nn)∧(1≤a.to∧a.to≤nn)∧0≤a.cap∧a.cap≤1000000) (fun s=>l.length-s.1)
  (0,none,0,[]) [0,1,2,3] ⟨rfl,rfl,rfl,rfl,trivial⟩ (by decide) rfl ⟨Nat.zero_le _,Nat.zero_le _,rfl,fun a ha=>by cases ha⟩ ?_
 rintro⟨k,A1,c1,r⟩ ⟨hk,hk24,hrk,hr⟩
 simp only at hk hk24 hrk hr ⊢
 refine ad ?_
 refine d7 [(41,.bool (dI (k<l.length∧k<24))),(8,.int .i64 k),(7,.pointer (some ⟨b7,0,none⟩)),(2,.slice A l.length c),(6,.pointer (some ⟨b6,0,none⟩))]
  [.own (.slice A1 r.length c1) 70 3 r.length (arcs r),blk b7 27 [.int .i64 nn,.int .i64 src,.int .i64 snk,.slice A1 r.length c1],blk b6 27 [.int .i64 0,.int .i64 0,.int .i64 0,.slice none 0 0],.seg b o (arcs l)] ?_ ?_
 ·skip
  refine aa (ah [] rfl ?_)
  by_cases h1:k<l.length
  ·refine aw 38 (v':=.bool true) rfl (congrArg Value.bool (az (by omega))) ?_
   refine ae [4] rfl ?_
   refine⟨[0,1,2,3],⟨?_,rfl,rfl,rfl,rfl,trivial⟩,by decide,rfl⟩
   exact congrArg some (congrArg Value.bool (d8 (by omega)))
  ·refine aw 38 (v':=.bool false) rfl (congrArg Value.bool (aA (by omega))) ?_
   refine ae [4] rfl ?_
   refine⟨[0,1,2,3],⟨?_,rfl,rfl,rfl,rfl,trivial⟩,by decide,rfl⟩
   exact congrArg some (congrArg Value.bool (aA (by omega)).symm)
 refine aC rfl (fun hlt=>av ?_) (fun hge=>aV ?_)
 ·obtain⟨hlt,hlt24⟩:=hlt
  obtain rfl:=hA (by rintro rfl;simp at hlt)
  obtain⟨⟨fr,tz,cap⟩,hx⟩:∃ x,l[k]?=some x:=⟨l[k],List.getElem?_eq_getElem hlt⟩
  have hB:=hl _ (List.mem_of_getElem? hx)
  simp only at hB
  obtain⟨hx0,hx1,hx2⟩:=em hx
  refine ad (au ?_)
  refine ad (aa (ah [] rfl ?_))
  refine ab [] (iR rfl rfl rfl rfl rfl hlt) rfl ?_
  refine ah [] rfl ?_
  refine ab [] (bz 3 rfl rfl rfl rfl hx2) rfl ?_
  refine ax [] (dA hB.2.2 (by decide)) rfl rfl rfl rfl (by kernel_rfl) trivial (fun _=>rfl) ?_
  rintro v H' ⟨rfl,rfl⟩
  refine⟨rfl,?_⟩
  refine ae [] rfl ?_
  have c1':=dT (c:=cap) (n:=21) (by decide)
  have c2':=dT (c:=cap) (n:=1000000) (by decide)
  have htd:=np cap (m:=21) (by decide)
  have hq3:bN (cap.tdiv 21):=by have:=hB.2.2;unfold bN at*;omega
  obtain⟨cp,hcp⟩:∃ x,x=if dq (cap.tdiv 21) 9=0 then dq cap 1000000 else dq cap 21:=⟨_,rfl⟩
  refine d7 [(9,.int .i64 cp),(8,.int .i64 k),(7,.pointer (some ⟨b7,0,none⟩)),(2,.slice (some ⟨b,o,none⟩) l.length c),(6,.pointer (some ⟨b6,0,none⟩))]
   [.own (.slice A1 r.length c1) 70 3 r.length (arcs r),blk b7 27 [.int .i64 nn,.int .i64 src,.int .i64 snk,.slice A1 r.length c1],blk b6 27 [.int .i64 0,.int .i64 0,.int .i64 0,.slice none 0 0],.seg b o (arcs l)] ?_ ?_
  ·refine ad (aa (ah [] rfl ?_))
   refine ab [] (iR rfl rfl rfl rfl rfl hlt) rfl ?_
   refine ah [] rfl ?_
   refine ab [] (bz 3 rfl rfl rfl rfl hx2) rfl ?_
   refine ah [] rfl ?_
   refine aw 55 (v':=.int .i64 (cap.tdiv 21)) rfl (congrArg (Value.int .i64) (bU hq3)) ?_
   refine ax [] (dA hq3 (by decide)) rfl rfl rfl rfl (by kernel_rfl) trivial (fun _=>rfl) ?_
   rintro v H' ⟨rfl,rfl⟩
   refine⟨rfl,?_⟩
   refine ae [] rfl ?_
   refine aC rfl (fun h=>?_) (fun h=>av ?_)
   ·refine aa (ah [] rfl ?_)
    refine ab [] (iR rfl rfl rfl rfl rfl hlt) rfl ?_
    refine ah [] rfl ?_
    refine ab [] (bz 3 rfl rfl rfl rfl hx2) rfl ?_
    refine ax [] (dA hB.2.2 (by decide)) rfl rfl rfl rfl (by kernel_rfl) trivial (fun _=>rfl) ?_
    rintro v H' ⟨rfl,rfl⟩
    refine⟨rfl,?_⟩
    refine ae [] rfl ?_
    exact⟨[0,1,2,3],⟨by rw[hcp,if_pos h];rfl,rfl,rfl,rfl,rfl,trivial⟩,by decide,rfl⟩
   ·exact⟨[0,1,2,3],⟨by rw[hcp,if_neg h];rfl,rfl,rfl,rfl,rfl,trivial⟩,by decide,rfl⟩
  have hcp0:0≤cp∧cp≤1000000:=by split at hcp<;>omega
  have f1:=dT (c:=fr) (n:=nn) (by omega)
  have f2:=dT (c:=tz) (n:=nn) (by omega)
  refine bp 25 [(0,true),(1,true),(2,true),(3,true),(4,true),(5,true),(6,true),(7,true),(8,true),(11,true),(12,true),(13,true),(14,true),(15,true),(16,true),(17,true),(20,true),(9,false),(10,true),(18,false),(19,true),(21,true),(22,false),(23,false),(24,true)] [1,3] (by kernel_rfl) (by decide) rfl ?_
  refine aF [] rfl ?_
  refine aj [] rfl (af 0 rfl rfl rfl rfl) rfl ?_
  refine aF [] rfl ?_
  refine aj [] rfl (iR rfl rfl rfl rfl rfl hlt) rfl ?_
  refine aF [] rfl ?_
  refine aj [] rfl (bz 1 rfl rfl rfl rfl hx0) rfl ?_
  refine aF [] rfl ?_
  refine aj [] rfl (af 0 rfl rfl rfl rfl) rfl ?_
  refine aF [] rfl ?_
  refine aj [] rfl (iR rfl rfl rfl rfl rfl hlt) rfl ?_
  refine aF [] rfl ?_
  refine aj [] rfl (bz 1 rfl rfl rfl rfl hx1) rfl ?_
  refine aF [] rfl ?_
  refine aj [] rfl (af 0 rfl rfl rfl rfl) rfl ?_
  refine aF [] rfl ?_
  refine a6 rfl ?_
  refine ax [] (dA hB.1 (by omega:0<nn)) rfl rfl rfl rfl (by kernel_rfl) trivial (fun _=>rfl) ?_
  rintro v H' ⟨rfl,rfl⟩
  refine⟨rfl,ai ⟨⟨[1,3],by decide,rfl⟩,?_⟩⟩
  refine aF [] rfl ?_
  refine cE 74 (v':=.int .i64 (1+dq fr nn)) rfl (congrArg (Value.int .i64) (bU (by omega))) ?_
  refine a6 rfl ?_
  refine ax [] (dA hB.2.1 (by omega:0<nn)) rfl rfl rfl rfl (by kernel_rfl) trivial (fun _=>rfl) ?_
  rintro v H' ⟨rfl,rfl⟩
  refine⟨rfl,ai ⟨⟨[1,3],by decide,rfl⟩,?_⟩⟩
  refine aF [] rfl ?_
  refine cE 83 (v':=.int .i64 (1+dq tz nn)) rfl (congrArg (Value.int .i64) (bU (by omega))) ?_
  refine aj [] rfl (cj rfl rfl rfl rfl rfl rfl) rfl ?_
  refine a6 rfl ?_
  refine bK rfl rfl rfl rfl rfl rfl rfl (fun _=>rfl) fun g=>?_
  refine ai ⟨⟨[2,4],by decide,rfl⟩,?_⟩
  refine a6 rfl ?_
  refine be (off:=0) (m:=1) (news:=arcs [⟨1+dq fr nn,1+dq tz nn,cp⟩]) 1 0 rfl rfl rfl rfl rfl rfl (by decide) rfl rfl (aL g _ _ (0,0)) (fun _=>rfl) rfl rfl (by omega) (by omega) (fun _ _=>rfl) fun A2 c2=>?_
  refine ai ⟨⟨[2,4],by decide,rfl⟩,?_⟩
  refine aF [] rfl ?_
  refine bv ?_
  refine aX 2 rfl rfl rfl rfl rfl [] rfl ?_
  refine ai ?_
  refine aa (ae [] rfl ?_)
  refine⟨(k+1,A2,c2,r++[⟨1+dq fr nn,1+dq tz nn,cp⟩]),[1,2,3,4],⟨?_,rfl,rfl,rfl,trivial⟩,by decide,?_,⟨by simp only;omega,by simp only;omega,by simp only[List.length_append];simp;omega,?_⟩,by simp only;omega⟩
  ·show some (Value.int .i64 (IntKind.i64.wrap ((k:Int)+1)))=_
   rw[bU (by omega)];rfl
  ·simp only[wA,List.length_append];rfl
  ·intro a ha
   rcases List.mem_append.1 ha with ha|ha
   ·exact hr a ha
   ·obtain rfl:=List.mem_singleton.1 ha
    simp only;omega
 ·refine ad (aa ?_)
  refine ab [] (af 1 rfl rfl rfl rfl) rfl ?_
  refine aX 2 rfl rfl rfl rfl rfl [] rfl ?_
  refine ai ?_
  refine aB ?_
  refine⟨[bu ⟨nn,src,snk,r⟩ A1 c1],[0],_,⟨⟨b6,2,_,_,rfl,rfl,rfl⟩,trivial⟩,by decide,rfl,⟨nn,src,snk,r⟩,A1,c1,⟨by simp only;omega,by simp only;omega,by simp only;omega,hdiff,by simp only;omega,fun a ha=>⟨(hr a ha).1,(hr a ha).2.1,(hr a ha).2.2.1⟩,?_⟩,by simp only;omega,by simp only;omega,fun a ha=>(hr a ha).2.2.2,rfl,rfl⟩
  have hsum:∀ (l:List dK),(∀ a∈l,a.cap≤1000000)→(l.map (·.cap)).sum≤1000000*l.length:=by
   intro l
   induction l with
   |nil=>intro _;simp
   |cons x l ih=>
    intro h
    have h1:=ih fun a ha=>h a (by simp[ha])
    have h2:=h x (by simp)
    simp only[List.map_cons,List.sum_cons,List.length_cons]
    omega
  have:=hsum r fun a ha=>(hr a ha).2.2.2
  simp only
  omega
end Go.Proofs.YtpbmihpjgjbndaaGreatDoor
