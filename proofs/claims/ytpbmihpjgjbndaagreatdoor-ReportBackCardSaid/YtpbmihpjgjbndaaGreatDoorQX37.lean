/- The engine and the words that all chapters share: several texts in one. -/
import Derived.Test.YtpbmihpjgjbndaaGreatDoorQX12
import Derived.Test.YtpbmihpjgjbndaaGreatDoorQX34
import Derived.Test.YtpbmihpjgjbndaaGreatDoorQX38
import Derived.Test.YtpbmihpjgjbndaaGreatDoorMatchP
import Derived.Test.YtpbmihpjgjbndaaGreatDoorQX39
import Derived.Test.YtpbmihpjgjbndaaGreatDoorQX7
/- A session's Solve: what is found, by which engine, and what stays. -/
set_option linter.unusedVariables false
set_option linter.unusedSimpArgs false
namespace Go.Proofs.YtpbmihpjgjbndaaGreatDoor
open Go.RowKit
def rz (N:a8) (sg:Int) (f:List Int):Prop:=
 ((sg=112∨sg=116)∧∃ p k:Nat,Dn N 1 (List.replicate N.arcs.length 0) p k f)∨
 (sg=115∧∃ (nr:Nat) (ts:List nf),nr≤62∧lS (mI N.arcs)=eb nr 0∧(nr=0→∀ a∈N.arcs,a.cap=0)∧Sc N nr nr f ts)
theorem tU {N:a8} {f:List Int} (h:∀ r,r<(aM (N.arcs.zip f)).length→(aM (N.arcs.zip f)).getD r 0<1) {x:Int} (hx:nc N (aM (N.arcs.zip f)) 1 x):x=N.src:=by
 induction hx with
 |src=>rfl
 |step r q h1 h2 h3 h4 ih=>
  have:=h q h2
  omega
theorem Sc.max {N:a8} (hR:N.Right) {nr:Nat} {f:List Int} {ts:List nf} (h:Sc N nr nr f ts) (hcap:nr=0→∀ a∈N.arcs,a.cap=0):ky N f:=by
 obtain⟨_,hf,_,_,_,_,hlast⟩:=h.all hR
 refine⟨hf,?_⟩
 rcases Nat.eq_zero_or_pos nr with h0|h0
 ·intro hr
  refine hR.diff (tU (fun r hr=>?_) hr).symm
  rw[cD,List.length_zip,hf.len,Nat.min_self] at hr
  obtain⟨a,ha⟩:∃ a,N.arcs[r/2]?=some a:=⟨N.arcs[r/2],List.getElem?_eq_getElem (by omega)⟩
  obtain⟨x,hx⟩:∃ x,f[r/2]?=some x:=⟨f[r/2]'(by rw[hf.len];omega),List.getElem?_eq_getElem _⟩
  have hz:=ef ha hx
  obtain⟨g1,g2⟩:=cS hz
  have hr2:=hf.all _ (List.mem_of_getElem? hz)
  have hc:=hcap h0 a (List.mem_of_getElem? ha)
  simp only at g1 g2 hr2
  rcases Nat.mod_two_eq_zero_or_one r with e|e
  ·rw[show 2*(r/2)=r by omega] at g1
   rw[List.getD_eq_getElem?_getD,g1,Option.getD_some];omega
  ·rw[show 2*(r/2)+1=r by omega] at g2
   rw[List.getD_eq_getElem?_getD,g2,Option.getD_some];omega
 ·obtain⟨lv2,g1,g2⟩:=hlast h0
  obtain⟨j,rfl⟩:∃ j,nr=j+1:=⟨nr-1,by omega⟩
  rw[show j+1-1=j by omega,qJ] at g1
  exact pN hf.toRanged g1 g2
theorem rz.max {N:a8} (hR:N.Right) {sg:Int} {f:List Int} (h:rz N sg f):ky N f:=by
 rcases h with ⟨_,p,k,hd⟩|⟨_,nr,ts,_,_,hc,hs⟩
 ·obtain⟨hf,_,_,lv,hlv,hlt⟩:=hd.keeps hR (by decide) (gT _ hR)
  exact⟨hf,pN hf.toRanged hlv hlt⟩
 ·exact hs.max hR hc
theorem rooms {N:a8} (hR:N.Right):∃ nr,nr≤62∧lS (mI N.arcs)=eb nr 0∧(nr=0→∀ a∈N.arcs,a.cap=0):=by
 have hb:=wI hR N.arcs.length
 rw[List.take_of_length_le (Nat.le_refl _)] at hb
 obtain⟨h1,h2,h3⟩:=mL N.arcs 0 fun a ha=>(hR.arc a ha).2.2
 change 0≤mI N.arcs at h1
 change ∀ a∈N.arcs,a.cap≤mI N.arcs at h2
 obtain⟨nr,g1,g2,g3⟩:=qR hb.1 (by omega)
 refine⟨nr,g1,g2,fun h0 a ha=>?_⟩
 have e:=g3.1 h0
 have:=h2 a ha
 have:=(hR.arc a ha).2.2
 omega
def rC (N:a8) (f s:List Int):Prop:=∃ (l:List Bool) (n:Nat),N.nodes=n∧l.length=n+1∧(∀ v:Nat,l[v]?=some true↔v≤n∧nc N (aM (N.arcs.zip f)) 1 v)∧s=bQ l true (n+1)
theorem rC.cut {N:a8} (hR:N.Right) {f s:List Int} (hm:ky N f) (h:rC N f s):eu N s∧oQ N f s∧s.length≤501:=by
 obtain⟨l,n,h1,h2,h3,rfl⟩:=h
 have hc:=ud hR hm.1 h1 hm.2 h3
 have hl:=gD l true (n+1)
 have:=hR.nodes
 exact⟨hc.1,hc.2,by omega⟩
theorem eE {l:List dH} {A B:Option Addr} (h:arcs l≠[]→A=B) (hl:l≠[]):A=B:=h fun h0=>hl (List.length_eq_zero_iff.1 (by have:=pz l;rw[h0] at this;simp at this;omega))
theorem fb {l:List Int} {A B:Option Addr} (h:ao l≠[]→A=B) (hl:l≠[]):A=B:=h fun h0=>hl (by simpa [ao] using h0)
end Go.Proofs.YtpbmihpjgjbndaaGreatDoor
/- What a report says. -/
set_option linter.unusedVariables false
set_option linter.unusedSimpArgs false
namespace Go.Proofs.YtpbmihpjgjbndaaGreatDoor
open Go.RowKit
open Lib
theorem nF (n:Int):∀ b∈itoa n,b≠10∧kX b=false:=by
 by_cases h:0≤n
 ·exact u7 h
 ·intro b hb
  unfold itoa at hb
  rw[if_pos (by omega)] at hb
  rcases List.mem_cons.1 hb with rfl|hb
  ·decide
  ·exact rW (List.all_eq_true.1 (ma _) b hb)
theorem vG (n:Int):itoa n≠[]:=by
 unfold itoa;split
 ·simp
 ·exact pF _
theorem jj (f:List UInt8) (l:List Int):bB (pd f l)=bB f++l.map itoa:=by
 induction l generalizing f with
 |nil=>simp[ie]
 |cons n l ih=>
  rw[wD,ih,uw rfl,uB (fun b hb=>(nF n b hb).2) (vG n)]
  simp
theorem lO {f:List UInt8} {l:List Int} (hf:∀ b∈f,b≠10):∀ b∈pd f l,b≠10:=by
 intro b hb
 rw[ie] at hb
 rcases List.mem_append.1 hb with hb|hb
 ·exact hf b hb
 ·obtain⟨x,hx,hbx⟩:=List.mem_flatten.1 hb
  obtain⟨n,hn,rfl⟩:=List.mem_map.1 hx
  rcases List.mem_cons.1 hbx with rfl|hbx
  ·decide
  ·exact (nF n b hbx).1
theorem nE {l:List Int} (h:∀ n∈l,bT n):bO (l.map itoa)=(l,0):=by
 have hk:∀ n∈l,dG (itoa n)=(n,0):=fun n hn=>vq n (by have:=h n hn;unfold bT at this;omega)
 rw[mW (fun w hw=>by obtain⟨n,hn,rfl⟩:=List.mem_map.1 hw;rw[hk n hn])]
 congr 1
 rw[List.map_map]
 exact (List.map_congr_left (fun n hn=>by show (dG (itoa n)).1=id n;rw[hk n hn];rfl)).trans (List.map_id l)
def tD (f:List Int) (i:Nat):List (List UInt8):=if 0<f.getD i 0 then [pd [102] [((i+1:Nat):Int),f.getD i 0]] else []
def nq (f:List Int) (k:Nat):List (List UInt8):=((List.range k).map (tD f)).flatten
def iB (v c:Int):List UInt8:=if v=c then [112,114,111,118,101,100] else [110,111,116,32,112,114,111,118,101,100]
def j8 (f s:List Int) (v c:Int):List (List UInt8):=pd [118,97,108,117,101] [v]::pd [99,117,116] [c]::((nq f f.length++s.map fun x=>pd [120] [x])++[iB v c])
theorem mz (f:List Int) (k:Nat):nq f (k+1)=nq f k++tD f k:=by unfold nq;rw[List.range_succ];simp
theorem r6 (f:List Int):∀ k,fK f k=((nq f k).map fun x=>x++[10]).flatten
 |0=>rfl
 |k+1=>by
  rw[lP,r6 f k,mz,List.map_append,List.flatten_append]
  congr 1
  unfold lF tD
  split
  ·simp[dJ]
  ·rfl
theorem xh (f s:List Int) (v c:Int):ft f s v c=((j8 f s v c).map fun x=>x++[10]).flatten:=by
 unfold ft j8 fX xK
 rw[List.take_length,r6,show kn v c=iB v c++[10] by unfold kn iB;split<;>simp[dJ,ie]]
 simp[dJ,Function.comp_def]
theorem v8 {f s:List Int} {v c:Int}:∀ x∈j8 f s v c,∀ b∈x,b≠10:=by
 intro x hx
 unfold j8 at hx
 rcases List.mem_cons.1 hx with rfl|hx
 ·exact lO (by decide)
 rcases List.mem_cons.1 hx with rfl|hx
 ·exact lO (by decide)
 rcases List.mem_append.1 hx with hx|hx
 ·rcases List.mem_append.1 hx with hx|hx
  ·obtain⟨r,hr,hxr⟩:=List.mem_flatten.1 hx
   obtain⟨i,_,rfl⟩:=List.mem_map.1 hr
   unfold tD at hxr
   split at hxr
   ·rw[List.mem_singleton.1 hxr];exact lO (by decide)
   ·cases hxr
  ·obtain⟨y,_,rfl⟩:=List.mem_map.1 hx
   exact lO (by decide)
 ·rw[List.mem_singleton.1 hx]
  unfold iB
  split<;>decide
theorem kT (f s:List Int) (v c:Int):bg (ft f s v c)=j8 f s v c:=by rw[xh,pZ _ v8]
theorem uf {n:Nat} {q:List Int×List Int} {h:List UInt8} {t:Ws} (h1:h≠[102]) (h2:h≠[120]):d9 n q h t=q:=by
 unfold d9
 rw[if_neg (fun k=>h1 k.1),if_neg (fun k=>h2 k.1)]
def jX (f:List Int) (n k:Nat):List Int:=(List.range n).map fun i=>if i<k then f.getD i 0 else 0
theorem tl (f:List Int) (n:Nat):jX f n 0=List.replicate n 0:=by
 unfold jX
 refine List.ext_getElem (by simp) fun i h1 h2=>by simp
theorem u3 (f:List Int):jX f f.length f.length=f:=by
 unfold jX
 refine List.ext_getElem (by simp) fun i h1 h2=>by
  simp only[List.getElem_map,List.getElem_range]
  rw[if_pos h2,List.getD_eq_getElem?_getD,List.getElem?_eq_getElem h2];rfl
theorem wo (f:List Int) {n k:Nat} (h:k<n):(jX f n k).set k (f.getD k 0)=jX f n (k+1):=by
 unfold jX
 refine List.ext_getElem (by simp) fun i h1 h2=>by
  simp only[List.getElem_set,List.getElem_map,List.getElem_range]
  by_cases e:k=i
  ·subst e;rw[if_pos rfl,if_pos (by omega)]
  ·rw[if_neg e]
   by_cases h3:i<k
   ·rw[if_pos h3,if_pos (by omega)]
   ·rw[if_neg h3,if_neg (by omega)]
theorem t9 (f:List Int) {n k:Nat} (h:f.getD k 0=0):jX f n k=jX f n (k+1):=by
 unfold jX
 refine List.map_congr_left fun i _=>?_
 by_cases e:i=k
 ·subst e;rw[if_neg (by omega),if_pos (by omega),h]
 ·by_cases h3:i<k
  ·rw[if_pos h3,if_pos (by omega)]
  ·rw[if_neg h3,if_neg (by omega)]
theorem sb (f:List Int) (n:Nat) (hn:n≤100000) (hf:∀ i,0≤f.getD i 0∧bT (f.getD i 0)):∀ k,k≤n→ee n (List.replicate n 0,[]) ((nq f k).map bB)=some (jX f n k,[])
 |0,_=>by rw[tl];rfl
 |k+1,h=>by
  have hfk:=hf k
  rw[mz,List.map_append,fH,sb f n hn hf k (by omega)]
  show ee n (jX f n k,[]) ((tD f k).map bB)=_
  unfold tD
  by_cases h0:0<f.getD k 0
  ·rw[if_pos h0,← wo f (by omega)]
   have hnum:bO ([((k+1:Nat):Int),f.getD k 0].map itoa)=([((k+1:Nat):Int),f.getD k 0],0):=nE (fun m hm=>by
    simp only[List.mem_cons,List.not_mem_nil,or_false] at hm
    rcases hm with rfl|rfl
    ·unfold bT;omega
    ·exact hfk.2)
   rw[List.map_cons,List.map_nil,jj,show bB [102]=[[102]] from rfl]
   show some (d9 n (jX f n k,[]) [102] ([((k+1:Nat):Int),f.getD k 0].map itoa))=_
   unfold d9
   rw[if_pos ⟨rfl,by unfold gO;rw[hnum];rfl,by rw[hnum];rfl,by rw[hnum];show (1:Int)≤((k+1:Nat):Int);omega,by rw[hnum];show ((k+1:Nat):Int)≤n;omega⟩,hnum]
   show some ((jX f n k).set (((k+1:Nat):Int)-1).toNat (f.getD k 0),[])=_
   rw[show (((k+1:Nat):Int)-1).toNat=k by omega]
  ·rw[if_neg h0,← t9 f (by omega)]
   rfl
theorem sE {n:Nat} {f:List Int}:∀ {s:List Int} (_:∀ x∈s,bT x) (t:List Int),ee n (f,t) ((s.map fun x=>pd [120] [x]).map bB)=some (f,t++s)
 |[],_,t=>by simp[ee]
 |x::s,h,t=>by
  have hnum:bO ([x].map itoa)=([x],0):=nE (fun m hm=>h m (by simp at hm;simp[hm]))
  rw[List.map_cons,List.map_cons,jj,show bB [120]=[[120]] from rfl]
  show ee n (d9 n (f,t) [120] ([x].map itoa)) _=_
  rw[show d9 n (f,t) [120] ([x].map itoa)=(f,t++[x]) by
   unfold d9
   rw[if_neg (fun k=>absurd k.1 (by decide)),if_pos ⟨rfl,by unfold gO;rw[hnum];rfl,by rw[hnum];rfl⟩,hnum]
   rfl,sE (fun y hy=>h y (by simp[hy])) (t++[x])]
  simp
theorem jc {n:Nat} {q:List Int×List Int} {h:List UInt8} {t:Ws} {r:List Ws} (h1:h≠[102]) (h2:h≠[120]):ee n q ((h::t)::r)=ee n q r:=by
 show ee n (d9 n q h t) r=_
 rw[uf h1 h2]
theorem wB (f s:List Int) (v c:Int) (hn:f.length≤100000) (hf:∀ i,0≤f.getD i 0∧bT (f.getD i 0)) (hs:∀ x∈s,bT x):ee f.length (List.replicate f.length 0,[]) ((j8 f s v c).map bB)=some (f,s):=by
 unfold j8
 rw[List.map_cons,List.map_cons,jj,jj,show bB [118,97,108,117,101]=[[118,97,108,117,101]] from rfl,show bB [99,117,116]=[[99,117,116]] from rfl]
 rw[List.cons_append,jc (by decide) (by decide),List.cons_append,jc (by decide) (by decide)]
 rw[List.map_append,List.map_append,fH,fH,sb f f.length hn hf _ (Nat.le_refl _),u3]
 simp only[]
 rw[sE hs]
 show ee f.length (f,s) [bB (iB v c)]=_
 unfold iB
 split
 ·rw[show bB [112,114,111,118,101,100]=[[112,114,111,118,101,100]] from rfl,jc (by decide) (by decide)];rfl
 ·rw[show bB [110,111,116,32,112,114,111,118,101,100]=[[110,111,116],[112,114,111,118,101,100]] from rfl,jc (by decide) (by decide)];rfl
theorem uH {N:a8} (hR:N.Right) {f:List Int} (hf:aI N f) (i:Nat):0≤f.getD i 0∧bT (f.getD i 0):=by
 rw[List.getD_eq_getElem?_getD]
 cases h:f[i]? with
 |none=>exact⟨by simp,by unfold bT;simp⟩
 |some x=>
  have hi:=(List.getElem?_eq_some_iff.1 h).1
  have hl:=hf.len
  obtain⟨a,ha⟩:∃ a,N.arcs[i]?=some a:=⟨_,List.getElem?_eq_getElem (by omega)⟩
  have h2:=hf.all (a,x) (List.mem_of_getElem? (List.getElem?_zip_eq_some.2 ⟨ha,h⟩))
  have h3:=yx hR (List.mem_of_getElem? ha)
  simp only[Option.getD_some] at h2 ⊢
  exact⟨h2.1,by unfold bT;omega⟩
theorem uO {N:a8} (hR:N.Right) {f s:List Int} (hf:aI N f) (hs:eu N s):l8 N (ft f s (df (N.arcs.zip f) N.snk) (eR s N.arcs)) f s:=by
 have hl:=hR.len
 have hfl:=hf.len
 have hn:=hR.nodes
 refine⟨?_,hf,hs,rfl⟩
 rw[kT,← hfl]
 exact wB f s _ _ (by omega) (uH hR hf) fun x hx=>by have:=hs.rng x hx;unfold bT;omega
theorem l8.uniq {N:a8} {l:List UInt8} {f s f' s':List Int} (h:l8 N l f s) (k:l8 N l f' s'):f=f'∧s=s':=by
 have:=h.1.symm.trans k.1
 simp only[Option.some.injEq,Prod.mk.injEq] at this
 exact this
theorem uS {f s:List Int} {v c:Int} (hs:s≠[]):4≤(j8 f s v c).length:=by
 unfold j8
 have:0<s.length:=List.length_pos_iff.2 hs
 simp only[List.length_cons,List.length_append,List.length_map,List.length_nil]
 omega
theorem uo (f s:List Int) (v c:Int):(j8 f s v c)[(j8 f s v c).length-1]?=some (iB v c):=by
 rw[← List.getLast?_eq_getElem?]
 unfold j8
 rw[List.getLast?_cons_cons,← List.cons_append,List.getLast?_append]
 rfl
theorem tu (v c:Int):iB v c=[112,114,111,118,101,100]↔v=c:=by
 unfold iB
 split
 ·exact⟨fun _=>by assumption,fun _=>rfl⟩
 ·exact⟨fun h=>absurd h (by decide),fun h=>absurd h (by assumption)⟩
theorem td {N:a8} (hR:N.Right) {f s:List Int} (hm:ky N f) (h:rC N f s):eu N s∧eR s N.arcs=df (N.arcs.zip f) N.snk:=by
 obtain⟨hc,hcl,_⟩:=h.cut hR hm
 exact⟨hc,(rh hR hm.1 hc).2 hcl⟩
end Go.Proofs.YtpbmihpjgjbndaaGreatDoor
