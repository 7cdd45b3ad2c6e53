/- The engine and the words that all chapters share: several texts in one. -/
import Derived.Test.YtpbmihpjgjbndaaGreatDoorQX39
import Derived.Test.YtpbmihpjgjbndaaGreatDoorQF
/- A search's record, made. -/
set_option linter.unusedVariables false
set_option linter.unusedSimpArgs false
namespace Go.Proofs.YtpbmihpjgjbndaaGreatDoor
open Go.RowKit
theorem qX (N:bc) (ls:List Nat) (r v:Nat):dA N (ls++[r]) v=dA N ls v++(if cV N r=v then [r] else []):=by
 unfold dA
 rw[List.filter_append]
 congr 1
 by_cases h:cV N r=v
 ·rw[if_pos h,List.filter_cons,if_pos (decide_eq_true h)];rfl
 ·rw[if_neg h,List.filter_cons,if_neg (by simpa using h)];rfl
theorem gy (N:bc) (ls:List Nat) (v:Nat):(dA N ls v).length≤ls.length:=List.length_filter_le _ _
set_option maxHeartbeats 1000000 in
theorem zt (N:bc) (hR:N.Right) (A:Option Addr) (c b o:Nat) (hA:N.arcs≠[]→A=some ⟨b,o,none⟩) (Ar:Option Addr) (cr:Nat) (ls:List Nat) (hls:∀ r∈ls,r<2*N.arcs.length) (hlsl:ls.length≤4000) (B:Option Addr) (cb bb ob:Nat) (hB:ls≠[]→B=some ⟨bb,ob,none⟩)
 (least:Int) (n:Nat) (hn:N.nodes=n):Fn 238 [bn N A c,.slice Ar (2*N.arcs.length) cr,.slice B ls.length cb,.int .i64 least] [] [.seg b o (arcs N.arcs),.seg bb ob (bM ls)] fun v H'=>∃ (pw gl:Nat) (rows:List er),v=.pointer (some ⟨pw,0,none⟩)∧rows.length=n+1∧
  (∀ (v:Nat) (row:er),rows[v]?=some row→row.l=(dA N ls v).map fun (i:Nat)=>(i:Int))∧
  H'=[blk pw 316 (pu N A c Ar cr least gl n none 0 0),.own (.slice (some ⟨gl,0,none⟩) (n+1) (n+1)) 23 1 (n+1) (rows.map cD)]++rows.map (bJ 3):=by
 have hnn:=hR.nodes
 have hl2:=hR.len
 refine aK Tryz.func238 rfl rfl fun w0=>?_
 refine ad (aa ?_)
 refine br (cs:=bQ N A c) rfl rfl rfl (fun _=>rfl) fun p=>?_
 refine ae [] rfl ?_
 refine ad ?_
 refine bz 10 [(0,true),(1,true),(2,true),(3,true),(4,true),(5,true),(6,false),(7,true),(8,false),(9,true)] [0] (by kernel_rfl) (by decide) rfl ?_
 refine aj [] rfl (af (v:=bn N A c) 0 rfl rfl rfl rfl) rfl ?_
 refine aH [] rfl ?_
 refine aj [] rfl (af (v:=.int .i64 N.nodes) 0 rfl rfl rfl rfl) rfl ?_
 refine aH [] rfl ?_
 refine cZ 19 (v':=.int .i64 ((n+1:Nat):Int)) rfl (congrArg (Value.int .i64) ((cj (n:=N.nodes+1) (by omega)).trans (by omega))) ?_
 refine a7 rfl ?_
 refine dI (n:=n+1) (c:=n+1) rfl rfl rfl rfl rfl rfl (by omega) (by omega) (by omega) (fun _=>rfl) fun gl=>?_
 refine ai ⟨⟨[1],by decide,rfl⟩,?_⟩
 refine aj [] rfl (be rfl rfl rfl rfl rfl rfl) rfl ?_
 refine a7 rfl ?_
 refine br (cs:=pu N A c Ar cr least gl n none 0 0) rfl rfl rfl (fun _=>rfl) fun pw=>?_
 refine ai ⟨⟨[2],by decide,rfl⟩,?_⟩
 refine dH [] rfl ?_
 refine ai ?_
 rw[show made [Value.slice none 0 0] ((n+1)*1)=(List.replicate (n+1) dk).map cD by rw[dp,Nat.mul_one,List.map_replicate];rfl]
 refine ad (ad (aa (ae [] rfl ?_)))
 refine ax ?_
 refine bG (aL.nils 3 (n+1)) ?_
 refine cF (σ:=Nat×List er) (fun s=>[(25,.int .i64 s.1),(24,.int .i64 ls.length),(23,.slice B ls.length cb),(9,.pointer (some ⟨pw,0,none⟩)),(4,.pointer (some ⟨p,0,none⟩))])
  (fun s=>[blk pw 316 (pu N A c Ar cr least gl n none 0 0),.own (.slice (some ⟨gl,0,none⟩) (n+1) (n+1)) 23 1 (n+1) (s.2.map cD),blk p 27 (bQ N A c),.seg b o (arcs N.arcs),.seg bb ob (bM ls)]++s.2.map (bJ 3))
  (fun s=>s.1≤ls.length∧s.2.length=n+1∧∀ (v:Nat) (r:er),s.2[v]?=some r→r.l=(dA N (ls.take s.1) v).map fun (i:Nat)=>(i:Int)) (fun s=>ls.length-s.1)
  (0,List.replicate (n+1) dk) ⟨rfl,rfl,rfl,rfl,rfl,trivial⟩ aL.refl ⟨Nat.zero_le _,by simp,fun v r h=>?_⟩ ?_
 ·rw[List.getElem?_replicate] at h
  split at h
  ·simp only[Option.some.injEq] at h;subst h;rfl
  ·cases h
 rintro⟨k,rows⟩ ⟨hk,hrows,htr⟩
 simp only at hk hrows htr ⊢
 refine ad (aa (ae [] rfl ?_))
 refine ad (aD rfl (fun hlt=>aq ?_) (fun hge=>a6 ?_))
 ·have hlt:k<ls.length:=by omega
  obtain⟨r,hr⟩:∃ r,ls[k]?=some r:=⟨ls[k],List.getElem?_eq_getElem hlt⟩
  have hrl:=hls r (List.mem_of_getElem? hr)
  obtain⟨he,hf1,hf2⟩:=iW hR hrl
  obtain⟨v,hv⟩:∃ v,cV N r=v:=⟨_,rfl⟩
  rw[hv] at he hf1 hf2
  obtain rfl:=hB (by rintro rfl;simp at hlt)
  have hvn:v<rows.length:=by omega
  obtain⟨row,hrow⟩:∃ r,rows[v]?=some r:=⟨rows[v],List.getElem?_eq_getElem hvn⟩
  have hrl':=htr v row hrow
  have hlen:=gy N (ls.take k) v
  have htake:(ls.take k).length≤ls.length:=by rw[List.length_take];omega
  have hrowl:row.l.length=(dA N (ls.take k) v).length:=by rw[hrl',List.length_map]
  have htk:ls.take (k+1)=ls.take k++[r]:=by rw[List.take_add_one,hr];rfl
  refine ad (ax ?_)
  refine ad (aa (ah [] rfl ?_))
  refine ab [] (dD rfl rfl rfl rfl rfl hlt) rfl ?_
  refine ab [] (bw 4 rfl rfl rfl rfl (dl hr)) rfl ?_
  refine ae [] rfl ?_
  refine ad (aa ?_)
  refine ab [] (v:=bn N A c) (af 2 rfl rfl rfl rfl) rfl ?_
  refine ah [] rfl ?_
  refine ap [] (e6 N A c b o hA hl2 r hrl) rfl rfl rfl rfl (by kernel_rfl) ⟨⟨3,_,by simp,rfl,am _ _ _,aw⟩,trivial⟩ (fun _=>rfl) ?_
  rintro v' H' ⟨rfl,rfl⟩
  refine⟨rfl,?_⟩
  refine ae [] rfl ?_
  refine aM 12 (v':=.int .i64 (v:Int)) rfl (congrArg (Value.int .i64) he) ?_
  show J _ _ _ _ ([_,_,_,_,_]++rows.map (bJ 3))
  refine bG (aL.front (i:=v) (c:=bJ 3 row) (by rw[List.getElem?_map,hrow];rfl)) ?_
  refine bz 16 [(0,true),(1,true),(2,true),(3,true),(4,true),(5,true),(6,true),(7,true),(8,true),(9,true),(10,true),(11,true),(12,true),(13,false),(14,false),(15,true)] [1,2] (by kernel_rfl) (by decide) rfl ?_
  refine aH [] rfl ?_
  refine aj [] rfl (af (v:=.slice (some ⟨gl,0,none⟩) (n+1) (n+1)) 0 rfl rfl rfl rfl) rfl ?_
  refine aH [] rfl ?_
  refine aj [] rfl (af (v:=.slice (some ⟨gl,0,none⟩) (n+1) (n+1)) 0 rfl rfl rfl rfl) rfl ?_
  refine aH [] rfl ?_
  refine aj [] rfl (aU rfl rfl rfl rfl rfl (by omega)) rfl ?_
  refine aj [] rfl (aG (v:=cD row) 1 rfl rfl rfl (show (rows.map cD)[v]?=some (cD row) by rw[List.getElem?_map,hrow];rfl)) rfl ?_
  refine aH [] rfl ?_
  refine a7 rfl ?_
  refine bS rfl rfl rfl rfl rfl rfl rfl (fun _=>rfl) fun g2=>?_
  refine ai ⟨⟨[2,3],by decide,rfl⟩,?_⟩
  refine a7 rfl ?_
  refine bu (n:=row.l.length) (m:=1) (off:=0) (news:=az [(r:Int)]) 1 0 rfl rfl rfl rfl rfl rfl (by decide) rfl rfl (aF g2 _ _ (0,0)) (fun _=>rfl) rfl rfl (by omega) (by omega) (fun _ _=>rfl) fun A2 c2=>?_
  rw[show row.l.length+1=(row.l++[(r:Int)]).length by simp,show az row.l++az [(r:Int)]=az (row.l++[(r:Int)]) by simp[az]]
  refine ai ⟨⟨[2,3],by decide,rfl⟩,?_⟩
  refine aj [] rfl (aU rfl rfl rfl rfl rfl (by omega)) rfl ?_
  refine bC ?_
  refine aT 3 rfl rfl rfl rfl (dm rfl rfl rfl (by rw[List.length_map];omega)) [] rfl ?_
  refine ai ?_
  refine aa (ae [] rfl ?_)
  refine⟨(k+1,rows.set v ⟨A2,c2,row.l++[(r:Int)]⟩),⟨?_,rfl,rfl,rfl,rfl,trivial⟩,?_,⟨by simp only;omega,by simp only[List.length_set];omega,fun u q hu=>?_⟩,by simp only;omega⟩
  ·show some (Value.int .i64 (IntKind.i64.wrap ((k:Int)+1)))=_
   rw[cj (by omega)];rfl
  ·simp only[List.map_set]
   refine aL.trans (aL.sub (List.sublist_cons_self _ _)) (aL.back (A:=[_,_,_,_,_]) (by rw[List.length_map];exact hvn))
  ·simp only at hu ⊢
   rw[htk,qX,List.map_append]
   by_cases huv:v=u
   ·subst huv
    rw[List.getElem?_set_self hvn] at hu
    simp only[Option.some.injEq] at hu
    rw[← hu,if_pos hv,hrl'];rfl
   ·rw[List.getElem?_set_ne huv] at hu
    rw[if_neg (fun e=>huv (hv.symm.trans e)),List.map_nil,List.append_nil]
    exact htr u q hu
 ·obtain rfl:k=ls.length:=by omega
  rw[List.take_length] at htr
  refine ad (aa (ae [] rfl ?_))
  refine bG (aL.re [0,1] rfl (by decide)) (ay ⟨_,rfl,pw,gl,rows,rfl,hrows,htr,rfl⟩)
end Go.Proofs.YtpbmihpjgjbndaaGreatDoor
/- One walk that is led, in plain terms. -/
set_option linter.unusedVariables false
set_option linter.unusedSimpArgs false
namespace Go.Proofs.YtpbmihpjgjbndaaGreatDoor
open Go.RowKit
theorem fK {N:bc} {f:List Int} (hf:f.length=N.arcs.length):(aP (N.arcs.zip f)).length=2*N.arcs.length:=by
 rw[cA,List.length_zip,hf,Nat.min_self]
theorem dV {N:bc} (hR:N.Right) {f:List Int} (hf:Ranged N f) (q:Nat):0≤(aP (N.arcs.zip f)).getD q 0∧(aP (N.arcs.zip f)).getD q 0≤4611686018427387903:=by
 by_cases hq:q<2*N.arcs.length
 ·have h0:=(ir hf.len).1 hf
  obtain⟨ar,har⟩:∃ x,N.arcs[q/2]?=some x:=⟨N.arcs[q/2]'(by omega),List.getElem?_eq_getElem (by omega)⟩
  have hx:f[q/2]?=some (f.getD (q/2) 0):=by rw[List.getD_eq_getElem?_getD,List.getElem?_eq_getElem (by have:=hf.len;omega)];rfl
  obtain⟨g1,g2⟩:=cQ (ek har hx)
  have hc:=hR.cap (List.mem_of_getElem? har)
  have k1:=h0 (2*(q/2)) (by omega)
  have k2:=h0 (2*(q/2)+1) (by omega)
  have k3:=h0 q hq
  rw[List.getD_eq_getElem?_getD,g1,Option.getD_some] at k1
  rw[List.getD_eq_getElem?_getD,g2,Option.getD_some] at k2
  refine⟨k3,?_⟩
  simp only at k1 k2
  rcases Nat.mod_two_eq_zero_or_one q with hm|hm
  ·rw[show 2*(q/2)=q by omega] at g1
   rw[List.getD_eq_getElem?_getD,g1,Option.getD_some];simp only;omega
  ·rw[show 2*(q/2)+1=q by omega] at g2
   rw[List.getD_eq_getElem?_getD,g2,Option.getD_some];simp only;omega
 ·rw[List.getD_eq_getElem?_getD,List.getElem?_eq_none (by rw[fK hf.len];omega)]
  exact⟨Int.le_refl _,by decide⟩
theorem f0 {N:bc} (hR:N.Right) {L:Nat→List Nat} {lv:Nat→Int} {least:Int} (hG:dP N L lv) (hle:1≤least) {rm:List Int} {pos W:List Nat} {f:List Int} (hf:aN N f) (he:rm=aP (N.arcs.zip f)) (hI:PI N L least rm pos W) (hend:cv N W=N.snk.toNat):
 W≠[]∧(∀ r∈W,r<2*N.arcs.length)∧W.Nodup∧(∀ r∈W,∀ q∈W,bo r≠q)∧W.length≤N.nodes.toNat∧least≤bX rm W∧
 (∃ f',aN N f'∧bH (bX rm W) W rm=aP (N.arcs.zip f'))∧PI N L least (bH (bX rm W) W rm) pos (W.take (kb least (bH (bX rm W) W rm) W))∧
 (∀ v r,r∈L v→(bH (bX rm W) W rm).getD r 0≤rm.getD r 0)∧∃ r v,r∈L v∧least≤rm.getD r 0∧(bH (bX rm W) W rm).getD r 0<least:=by
 have hon:=hI.on
 have hlvl:=(kj hG hon hI.mem).1
 have hh1:=hG.hi (cv N W)
 have hh2:=hG.hi N.src.toNat
 rw[hend] at hon
 have hnd:=mU hG hon hI.mem
 have hlt:∀ r∈W,r<2*N.arcs.length:=fun r hr=>(hG.ok _ _ (hI.mem r hr)).1
 have hroom:∀ r∈W,least≤rm.getD r 0:=fun r hr=>by obtain⟨_,_,_,h⟩:=hI.head r hr;exact h
 have hWne:W≠[]:=by
  intro h0
  have hsr:=hR.src
  have hsk:=hR.snk
  have hdf:=hR.diff
  rw[h0] at hend
  simp only[cv,List.getLast?_nil] at hend
  omega
 obtain⟨r0,hr0,hmo⟩:=ji (rm:=rm) hWne
 have hma:=hroom r0 hr0
 rw[← hmo] at hma
 obtain⟨a,haeq⟩:∃ a,a=bX rm W:=⟨_,rfl⟩
 rw[← haeq] at hma hmo ⊢
 have hmle:∀ r∈W,a≤rm.getD r 0:=fun r hr=>haeq▸kf r hr
 obtain⟨k1,k2,k3⟩:=nT hR hf hlt hnd.1 hon (by omega:0≤a) (he▸hmle)
 rw[← he] at k2
 have hzl:rm.length=2*N.arcs.length:=by rw[he];exact fK hf.len
 have hget:=eX (a:=a) hzl hlt hnd.1
 have hmono:∀ v r,r∈L v→(bH a W rm).getD r 0≤rm.getD r 0:=by
  intro v r hr
  rw[hget]
  have:bo r∉W:=by
   intro hin
   have g1:=(hG.ok _ _ hr)
   have g2:=(hG.ok _ _ (hI.mem _ hin)).2.2
   have g3:=g1.2.2
   rw[f6,eJ] at g2
   rw[← g1.2.1] at g3
   omega
  rw[if_neg this]
  split<;>omega
 refine⟨hWne,hlt,hnd.1,hnd.2,by omega,hma,⟨_,k1,k2⟩,?_,hmono,r0,_,hI.mem r0 hr0,hroom r0 hr0,?_⟩
 ·refine⟨hI.pl,oI _ hon,fun r hr=>?_,fun v p hp j r hj hjr=>?_⟩
  ·obtain⟨p,g1,g2,_⟩:=hI.head r (List.mem_of_mem_take hr)
   refine⟨p,g1,g2,?_⟩
   obtain⟨i,hi,hir⟩:=List.mem_iff_getElem.1 hr
   have hi':i<kb least (bH a W rm) W:=by rw[List.length_take] at hi;omega
   rw[List.getElem_take] at hir
   have:=List.not_of_lt_findIdx hi'
   rw[hir] at this
   simpa using this
  ·rcases hI.pass v p hp j r hj hjr with k|k
   ·exact .inl (by have:=hmono v r (List.mem_of_getElem? hjr);omega)
   ·exact .inr k
 ·rw[hget,if_neg (fun hin=>hnd.2 r0 hr0 _ hin rfl),if_pos hr0];omega
theorem PI.start {N:bc} {L:Nat→List Nat} {least:Int} {rm:List Int}:PI N L least rm (List.replicate (N.nodes.toNat+1) 0) []:=by
 refine⟨by simp,⟨_,rfl⟩,fun r hr=>(by cases hr),fun v p hp j r hj=>?_⟩
 rw[List.getElem?_replicate] at hp
 split at hp
 ·simp only[Option.some.injEq] at hp;omega
 ·cases hp
def ki (ls:List Nat) (least:Int) (rm:List Int):Nat:=(ls.filter fun r=>decide (least≤rm.getD r 0)).length
theorem sl {least:Int} {rm rm':List Int}:∀ {ls:List Nat},(∀ r∈ls,rm'.getD r 0≤rm.getD r 0)→ki ls least rm'≤ki ls least rm
 |[],_=>Nat.le_refl _
 |r::ls,h=>by
  have ih:=sl (ls:=ls) (least:=least) fun q hq=>h q (by simp[hq])
  have h1:=h r (by simp)
  unfold ki at*
  simp only[List.filter_cons,decide_eq_true_eq]
  split
  ·rw[if_pos (by omega)];simp only[List.length_cons];omega
  ·split
   ·simp only[List.length_cons];omega
   ·exact ih
theorem o6 {least:Int} {rm rm':List Int}:∀ {ls:List Nat},(∀ r∈ls,rm'.getD r 0≤rm.getD r 0)→∀ r∈ls,least≤rm.getD r 0→rm'.getD r 0<least→ki ls least rm'<ki ls least rm
 |[],_,_,h,_,_=>by cases h
 |q::ls,h,r,hr,h1,h2=>by
  have hle:=sl (ls:=ls) (least:=least) fun q hq=>h q (by simp[hq])
  have hq:=h q (by simp)
  unfold ki at*
  simp only[List.filter_cons,decide_eq_true_eq]
  rcases List.mem_cons.1 hr with rfl|hr
  ·rw[if_neg (by omega),if_pos h1];simp only[List.length_cons];omega
  ·have ih:=o6 (ls:=ls) (fun q hq=>h q (by simp[hq])) r hr h1 h2
   unfold ki at ih
   split
   ·rw[if_pos (by omega)];simp only[List.length_cons];omega
   ·split
    ·simp only[List.length_cons];omega
    ·exact ih
end Go.Proofs.YtpbmihpjgjbndaaGreatDoor
/- Phases, in plain terms. -/
set_option linter.unusedVariables false
set_option linter.unusedSimpArgs false
namespace Go.Proofs.YtpbmihpjgjbndaaGreatDoor
open Go.RowKit
def ko (N:bc) (least:Int) (f:List Int) (ws:List (List Nat×Int)) (f':List Int):Prop:=
 ∃ lv,dw N (aP (N.arcs.zip f)) least lv∧aN N f'∧
   Bl N (dA N (bK N (aP (N.arcs.zip f)) least lv (2*N.arcs.length))) least (aP (N.arcs.zip f)) (List.replicate (N.nodes.toNat+1) 0) [] ws (aP (N.arcs.zip f'))
theorem qy:∀ (ps:List (dG×Int)) (v:Int),(∀ p∈ps,0≤p.2∧p.2≤p.1.cap)→-((ps.map (·.1.cap)).sum)≤dg ps v∧dg ps v≤(ps.map (·.1.cap)).sum
 |[],_,_=>by simp[dg]
 |p::ps,v,h=>by
  have ih:=qy ps v fun q hq=>h q (by simp[hq])
  have hp:=h p (by simp)
  simp only[dg] at ih
  simp only[dg,List.map_cons,List.sum_cons]
  split<;>split<;>omega
theorem vM {l:List dG} {f:List Int} (h:f.length=l.length):(l.zip f).map (·.1.cap)=l.map (·.cap):=by
 have hzm:(l.zip f).map (·.1)=l:=List.map_fst_zip (by omega)
 have e:(l.zip f).map (·.1.cap)=((l.zip f).map (·.1)).map (·.cap):=by rw[List.map_map];rfl
 rw[e,hzm]
theorem dF {N:bc} (hR:N.Right) {f:List Int} (hf:Ranged N f) (v:Int):-4611686018427387903≤dg (N.arcs.zip f) v∧dg (N.arcs.zip f) v≤4611686018427387903:=by
 have h:=qy (N.arcs.zip f) v hf.all
 rw[vM hf.len] at h
 have:=hR.sum
 omega
theorem po {N:bc} {rm:List Int} {least:Int} {lv lv':List Int} (h:dw N rm least lv) (h':dw N rm least lv'):∀ (k v:Nat),b8 lv v=k→0≤b8 lv' v∧b8 lv' v≤k
 |0,v,hv=>by rw[h.zero v (by simpa using hv),h'.src];simp
 |k+1,v,hv=>by
  obtain⟨r,h1,h2,h3,h4⟩:=h.back v (by omega)
  have ih:=po h h' k (cV N r) (by omega)
  have:=h'.step r h1 h2 ih.1
  rw[h3] at this
  omega
theorem kz {N:bc} {rm:List Int} {least:Int} {lv lv':List Int} (h:dw N rm least lv) (h':dw N rm least lv') (v:Nat):b8 lv v=b8 lv' v:=by
 have r1:=h.rng v
 have r2:=h'.rng v
 by_cases e:0≤b8 lv v
 ·have k1:=po h h' (b8 lv v).toNat v (by omega)
  have k2:=po h' h (b8 lv' v).toNat v (by omega)
  omega
 ·by_cases e2:0≤b8 lv' v
  ·have k2:=po h' h (b8 lv' v).toNat v (by omega)
   omega
  ·omega
theorem yM {N:bc} {rm:List Int} {least:Int} {lv lv':List Int} (h:dw N rm least lv) (h':dw N rm least lv'):lv=lv':=by
 refine List.ext_getElem (by rw[h.len,h'.len]) fun i h1 h2=>?_
 have e1:=o4 (List.getElem?_eq_getElem h1)
 have e2:=o4 (List.getElem?_eq_getElem h2)
 rw[← e1,← e2];exact kz h h' i
theorem yI {N:bc} {L:Nat→List Nat} {least:Int} {rm rm':List Int} {pos W:List Nat} (h:Bl N L least rm pos W [] rm'):rm'=rm:=by
 cases h;rfl
theorem u6 {N:bc} {f g:List Int} (hf:f.length=N.arcs.length) (hg:g.length=N.arcs.length) (h:aP (N.arcs.zip f)=aP (N.arcs.zip g)):f=g:=by
 refine List.ext_getElem (by omega) fun i hi hi2=>?_
 have har:N.arcs[i]?=some (N.arcs[i]'(by omega)):=List.getElem?_eq_getElem _
 have g1:=(cQ (ek har (List.getElem?_eq_getElem hi))).2
 have g2:=(cQ (ek har (List.getElem?_eq_getElem hi2))).2
 rw[h] at g1
 rw[g1] at g2
 simpa using g2
theorem ko.keeps {N:bc} (hR:N.Right) {least:Int} (hle:1≤least) {f f':List Int} {ws:List (List Nat×Int)} (hf:aN N f) (h:ko N least f ws f') {lv:List Int} (hlv:dw N (aP (N.arcs.zip f)) least lv):
 aN N f'∧dg (N.arcs.zip f) N.snk+least*ws.length≤dg (N.arcs.zip f') N.snk∧(0≤b8 lv N.snk.toNat→ws≠[]):=by
 obtain⟨lv',hlv',hf',hb⟩:=h
 obtain⟨f2,h1,h2,h3,h4,_⟩:=hb.keeps hR (fC hlv') hle f hf rfl PI.start
 have hz:f'=f2:=u6 hf'.len h1.len h2
 subst hz
 refine⟨hf',h3,fun hd hw=>?_⟩
 subst hw
 have hrm:=yI hb
 rw[hrm] at h4
 rw[kz hlv hlv'] at hd
 exact h4 _ (wV hlv' (b8 lv' N.snk.toNat).toNat _ (by omega)) rfl
inductive Dn (N:bc) (least:Int):List Int→Nat→Nat→List Int→Prop
 |stop {f lv:List Int}:dw N (aP (N.arcs.zip f)) least lv→b8 lv N.snk.toNat<0→Dn N least f 0 0 f
 |step {f f1 f' lv:List Int} {ws:List (List Nat×Int)} {p k:Nat}:dw N (aP (N.arcs.zip f)) least lv→0≤b8 lv N.snk.toNat→ko N least f ws f1→Dn N least f1 p k f'→Dn N least f (p+1) (ws.length+k) f'
theorem Dn.keeps {N:bc} (hR:N.Right) {least:Int} (hle:1≤least) {f f':List Int} {p k:Nat} (h:Dn N least f p k f'):aN N f→
 aN N f'∧dg (N.arcs.zip f) N.snk+least*k≤dg (N.arcs.zip f') N.snk∧p≤k∧∃ lv,dw N (aP (N.arcs.zip f')) least lv∧b8 lv N.snk.toNat<0:=by
 induction h with
 |stop h1 h2=>exact fun hf=>⟨hf,by simp,Nat.le_refl _,_,h1,h2⟩
 |@step f f1 f' lv ws p k h1 h2 h3 _ ih=>
  intro hf
  obtain⟨k1,k2,k3⟩:=h3.keeps hR hle hf h1
  obtain⟨g1,g2,g3,g4⟩:=ih k1
  have hw:=List.length_pos_iff.2 (k3 h2)
  refine⟨g1,?_,by omega,g4⟩
  have:least*((ws.length+k:Nat):Int)=least*ws.length+least*k:=by
   rw[Int.natCast_add,Int.mul_add]
  omega
theorem pN {N:bc} {least:Int} {f lv:List Int} (hf:Ranged N f) (h:dw N (aP (N.arcs.zip f)) least lv) (hs:b8 lv N.snk.toNat<0):¬ l0 N (aP (N.arcs.zip f)) least N.snk:=fun hr=>by
 have:=xr h (by rw[cA,List.length_zip,hf.len,Nat.min_self]) hr
 omega
end Go.Proofs.YtpbmihpjgjbndaaGreatDoor
