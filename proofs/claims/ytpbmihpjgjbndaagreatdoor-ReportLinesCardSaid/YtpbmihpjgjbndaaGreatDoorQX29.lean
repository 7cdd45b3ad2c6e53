/- The engine and the words that all chapters share: several texts in one. -/
import Derived.Test.YtpbmihpjgjbndaaGreatDoorQX37
import Derived.Test.YtpbmihpjgjbndaaGreatDoorQF
/- A search's record, made. -/
set_option linter.unusedVariables false
set_option linter.unusedSimpArgs false
namespace Go.Proofs.YtpbmihpjgjbndaaGreatDoor
open Go.RowKit
theorem qV (N:a8) (ls:List Nat) (r v:Nat):dz N (ls++[r]) v=dz N ls v++(if cU N r=v then [r] else []):=by
 unfold dz
 rw[List.filter_append]
 congr 1
 by_cases h:cU N r=v
 ·rw[if_pos h,List.filter_cons,if_pos (decide_eq_true h)];rfl
 ·rw[if_neg h,List.filter_cons,if_neg (by simpa using h)];rfl
theorem gg (N:a8) (ls:List Nat) (v:Nat):(dz N ls v).length≤ls.length:=List.length_filter_le _ _
set_option maxHeartbeats 1000000 in
theorem zr (N:a8) (hR:N.Right) (A:Option Addr) (c b o:Nat) (hA:N.arcs≠[]→A=some ⟨b,o,none⟩) (Ar:Option Addr) (cr:Nat) (ls:List Nat) (hls:∀ r∈ls,r<2*N.arcs.length) (hlsl:ls.length≤4000) (B:Option Addr) (cb bb ob:Nat) (hB:ls≠[]→B=some ⟨bb,ob,none⟩)
 (least:Int) (n:Nat) (hn:N.nodes=n):Fn 238 [bu N A c,.slice Ar (2*N.arcs.length) cr,.slice B ls.length cb,.int .i64 least] [] [.seg b o (arcs N.arcs),.seg bb ob (bL ls)] fun v H'=>∃ (pw gl:Nat) (rows:List eu),v=.pointer (some ⟨pw,0,none⟩)∧rows.length=n+1∧
  (∀ (v:Nat) (row:eu),rows[v]?=some row→row.l=(dz N ls v).map fun (i:Nat)=>(i:Int))∧
  H'=[blk pw 316 (pu N A c Ar cr least gl n none 0 0),.own (.slice (some ⟨gl,0,none⟩) (n+1) (n+1)) 23 1 (n+1) (rows.map cH)]++rows.map (bH 3):=by
 have hnn:=hR.nodes
 have hl2:=hR.len
 refine aS Tryz.func238 rfl rfl fun w0=>?_
 refine ad (aa ?_)
 refine bw (cs:=bG N A c) rfl rfl rfl (fun _=>rfl) fun p=>?_
 refine ae [] rfl ?_
 refine ad ?_
 refine bp 10 [(0,true),(1,true),(2,true),(3,true),(4,true),(5,true),(6,false),(7,true),(8,false),(9,true)] [0] (by kernel_rfl) (by decide) rfl ?_
 refine aj [] rfl (af (v:=bu N A c) 0 rfl rfl rfl rfl) rfl ?_
 refine aF [] rfl ?_
 refine aj [] rfl (af (v:=.int .i64 N.nodes) 0 rfl rfl rfl rfl) rfl ?_
 refine aF [] rfl ?_
 refine cE 19 (v':=.int .i64 ((n+1:Nat):Int)) rfl (congrArg (Value.int .i64) ((bU (n:=N.nodes+1) (by omega)).trans (by omega))) ?_
 refine a6 rfl ?_
 refine dv (n:=n+1) (c:=n+1) rfl rfl rfl rfl rfl rfl (by omega) (by omega) (by omega) (fun _=>rfl) fun gl=>?_
 refine ai ⟨⟨[1],by decide,rfl⟩,?_⟩
 refine aj [] rfl (cj rfl rfl rfl rfl rfl rfl) rfl ?_
 refine a6 rfl ?_
 refine bw (cs:=pu N A c Ar cr least gl n none 0 0) rfl rfl rfl (fun _=>rfl) fun pw=>?_
 refine ai ⟨⟨[2],by decide,rfl⟩,?_⟩
 refine dW [] rfl ?_
 refine ai ?_
 rw[show made [Value.slice none 0 0] ((n+1)*1)=(List.replicate (n+1) dg).map cH by rw[dn,Nat.mul_one,List.map_replicate];rfl]
 refine ad (ad (aa (ae [] rfl ?_)))
 refine au ?_
 refine bA (aK.nils 3 (n+1)) ?_
 refine cN (σ:=Nat×List eu) (fun s=>[(25,.int .i64 s.1),(24,.int .i64 ls.length),(23,.slice B ls.length cb),(9,.pointer (some ⟨pw,0,none⟩)),(4,.pointer (some ⟨p,0,none⟩))])
  (fun s=>[blk pw 316 (pu N A c Ar cr least gl n none 0 0),.own (.slice (some ⟨gl,0,none⟩) (n+1) (n+1)) 23 1 (n+1) (s.2.map cH),blk p 27 (bG N A c),.seg b o (arcs N.arcs),.seg bb ob (bL ls)]++s.2.map (bH 3))
  (fun s=>s.1≤ls.length∧s.2.length=n+1∧∀ (v:Nat) (r:eu),s.2[v]?=some r→r.l=(dz N (ls.take s.1) v).map fun (i:Nat)=>(i:Int)) (fun s=>ls.length-s.1)
  (0,List.replicate (n+1) dg) ⟨rfl,rfl,rfl,rfl,rfl,trivial⟩ aK.refl ⟨Nat.zero_le _,by simp,fun v r h=>?_⟩ ?_
 ·rw[List.getElem?_replicate] at h
  split at h
  ·simp only[Option.some.injEq] at h;subst h;rfl
  ·cases h
 rintro⟨k,rows⟩ ⟨hk,hrows,htr⟩
 simp only at hk hrows htr ⊢
 refine ad (aa (ae [] rfl ?_))
 refine ad (aC rfl (fun hlt=>av ?_) (fun hge=>aV ?_))
 ·have hlt:k<ls.length:=by omega
  obtain⟨r,hr⟩:∃ r,ls[k]?=some r:=⟨ls[k],List.getElem?_eq_getElem hlt⟩
  have hrl:=hls r (List.mem_of_getElem? hr)
  obtain⟨he,hf1,hf2⟩:=i7 hR hrl
  obtain⟨v,hv⟩:∃ v,cU N r=v:=⟨_,rfl⟩
  rw[hv] at he hf1 hf2
  obtain rfl:=hB (by rintro rfl;simp at hlt)
  have hvn:v<rows.length:=by omega
  obtain⟨row,hrow⟩:∃ r,rows[v]?=some r:=⟨rows[v],List.getElem?_eq_getElem hvn⟩
  have hrl':=htr v row hrow
  have hlen:=gg N (ls.take k) v
  have htake:(ls.take k).length≤ls.length:=by rw[List.length_take];omega
  have hrowl:row.l.length=(dz N (ls.take k) v).length:=by rw[hrl',List.length_map]
  have htk:ls.take (k+1)=ls.take k++[r]:=by rw[List.take_add_one,hr];rfl
  refine ad (au ?_)
  refine ad (aa (ah [] rfl ?_))
  refine ab [] (f9 rfl rfl rfl rfl rfl hlt) rfl ?_
  refine ab [] (bz 4 rfl rfl rfl rfl (dh hr)) rfl ?_
  refine ae [] rfl ?_
  refine ad (aa ?_)
  refine ab [] (v:=bu N A c) (af 2 rfl rfl rfl rfl) rfl ?_
  refine ah [] rfl ?_
  refine ax [] (e6 N A c b o hA hl2 r hrl) rfl rfl rfl rfl (by kernel_rfl) ⟨⟨3,_,by simp,rfl,aq _ _ _,ay⟩,trivial⟩ (fun _=>rfl) ?_
  rintro v' H' ⟨rfl,rfl⟩
  refine⟨rfl,?_⟩
  refine ae [] rfl ?_
  refine aP 12 (v':=.int .i64 (v:Int)) rfl (congrArg (Value.int .i64) he) ?_
  show J _ _ _ _ ([_,_,_,_,_]++rows.map (bH 3))
  refine bA (aK.front (i:=v) (c:=bH 3 row) (by rw[List.getElem?_map,hrow];rfl)) ?_
  refine bp 16 [(0,true),(1,true),(2,true),(3,true),(4,true),(5,true),(6,true),(7,true),(8,true),(9,true),(10,true),(11,true),(12,true),(13,false),(14,false),(15,true)] [1,2] (by kernel_rfl) (by decide) rfl ?_
  refine aF [] rfl ?_
  refine aj [] rfl (af (v:=.slice (some ⟨gl,0,none⟩) (n+1) (n+1)) 0 rfl rfl rfl rfl) rfl ?_
  refine aF [] rfl ?_
  refine aj [] rfl (af (v:=.slice (some ⟨gl,0,none⟩) (n+1) (n+1)) 0 rfl rfl rfl rfl) rfl ?_
  refine aF [] rfl ?_
  refine aj [] rfl (aJ rfl rfl rfl rfl rfl (by omega)) rfl ?_
  refine aj [] rfl (aD (v:=cH row) 1 rfl rfl rfl (show (rows.map cH)[v]?=some (cH row) by rw[List.getElem?_map,hrow];rfl)) rfl ?_
  refine aF [] rfl ?_
  refine a6 rfl ?_
  refine bK rfl rfl rfl rfl rfl rfl rfl (fun _=>rfl) fun g2=>?_
  refine ai ⟨⟨[2,3],by decide,rfl⟩,?_⟩
  refine a6 rfl ?_
  refine be (n:=row.l.length) (m:=1) (off:=0) (news:=ap [(r:Int)]) 1 0 rfl rfl rfl rfl rfl rfl (by decide) rfl rfl (aL g2 _ _ (0,0)) (fun _=>rfl) rfl rfl (by omega) (by omega) (fun _ _=>rfl) fun A2 c2=>?_
  rw[show row.l.length+1=(row.l++[(r:Int)]).length by simp,show ap row.l++ap [(r:Int)]=ap (row.l++[(r:Int)]) by simp[ap]]
  refine ai ⟨⟨[2,3],by decide,rfl⟩,?_⟩
  refine aj [] rfl (aJ rfl rfl rfl rfl rfl (by omega)) rfl ?_
  refine bv ?_
  refine aQ 3 rfl rfl rfl rfl (dk rfl rfl rfl (by rw[List.length_map];omega)) [] rfl ?_
  refine ai ?_
  refine aa (ae [] rfl ?_)
  refine⟨(k+1,rows.set v ⟨A2,c2,row.l++[(r:Int)]⟩),⟨?_,rfl,rfl,rfl,rfl,trivial⟩,?_,⟨by simp only;omega,by simp only[List.length_set];omega,fun u q hu=>?_⟩,by simp only;omega⟩
  ·show some (Value.int .i64 (IntKind.i64.wrap ((k:Int)+1)))=_
   rw[bU (by omega)];rfl
  ·simp only[List.map_set]
   refine aK.trans (aK.sub (List.sublist_cons_self _ _)) (aK.back (A:=[_,_,_,_,_]) (by rw[List.length_map];exact hvn))
  ·simp only at hu ⊢
   rw[htk,qV,List.map_append]
   by_cases huv:v=u
   ·subst huv
    rw[List.getElem?_set_self hvn] at hu
    simp only[Option.some.injEq] at hu
    rw[← hu,if_pos hv,hrl'];rfl
   ·rw[List.getElem?_set_ne huv] at hu
    rw[if_neg (fun e=>huv (hv.symm.trans e)),List.map_nil,List.append_nil]
    exact htr u q hu
 ·obtain rfl:k=ls.length:=by omega
  rw[List.take_length] at htr
  refine ad (aa (ae [] rfl ?_))
  refine bA (aK.re [0,1] rfl (by decide)) (aB ⟨_,rfl,pw,gl,rows,rfl,hrows,htr,rfl⟩)
end Go.Proofs.YtpbmihpjgjbndaaGreatDoor
/- One walk that is led, in plain terms. -/
set_option linter.unusedVariables false
set_option linter.unusedSimpArgs false
namespace Go.Proofs.YtpbmihpjgjbndaaGreatDoor
open Go.RowKit
theorem fM {N:a8} {f:List Int} (hf:f.length=N.arcs.length):(aM (N.arcs.zip f)).length=2*N.arcs.length:=by
 rw[cv,List.length_zip,hf,Nat.min_self]
theorem dX {N:a8} (hR:N.Right) {f:List Int} (hf:Ranged N f) (q:Nat):0≤(aM (N.arcs.zip f)).getD q 0∧(aM (N.arcs.zip f)).getD q 0≤4611686018427387903:=by
 by_cases hq:q<2*N.arcs.length
 ·have h0:=(il hf.len).1 hf
  obtain⟨ar,har⟩:∃ x,N.arcs[q/2]?=some x:=⟨N.arcs[q/2]'(by omega),List.getElem?_eq_getElem (by omega)⟩
  have hx:f[q/2]?=some (f.getD (q/2) 0):=by rw[List.getD_eq_getElem?_getD,List.getElem?_eq_getElem (by have:=hf.len;omega)];rfl
  obtain⟨g1,g2⟩:=cT (eo har hx)
  have hc:=hR.cap (List.mem_of_getElem? har)
  have k1:=h0 (2*(q/2)) (by omega)
  have k2:=h0 (2*(q/2)+1) (by omega)
  have k3:=h0 q hq
  rw[List.getD_eq_getElem?_getD,g1,Option.getD_some] at k1
  rw[List.getD_eq_getElem?_getD,g2,Option.getD_some] at k2
  refine⟨k3,?_⟩
  simp only at k1 k2
  rcases Nat.mod_two_eq_zero_or_one q with hm|hm
  ·rw[show 2*(q/2)=q by omega] at g1
   rw[List.getD_eq_getElem?_getD,g1,Option.getD_some];simp only;omega
  ·rw[show 2*(q/2)+1=q by omega] at g2
   rw[List.getD_eq_getElem?_getD,g2,Option.getD_some];simp only;omega
 ·rw[List.getD_eq_getElem?_getD,List.getElem?_eq_none (by rw[fM hf.len];omega)]
  exact⟨Int.le_refl _,by decide⟩
theorem fW {N:a8} (hR:N.Right) {L:Nat→List Nat} {lv:Nat→Int} {least:Int} (hG:dN N L lv) (hle:1≤least) {rm:List Int} {pos W:List Nat} {f:List Int} (hf:aH N f) (he:rm=aM (N.arcs.zip f)) (hI:PI N L least rm pos W) (hend:cq N W=N.snk.toNat):
 W≠[]∧(∀ r∈W,r<2*N.arcs.length)∧W.Nodup∧(∀ r∈W,∀ q∈W,bi r≠q)∧W.length≤N.nodes.toNat∧least≤bS rm W∧
 (∃ f',aH N f'∧bC (bS rm W) W rm=aM (N.arcs.zip f'))∧PI N L least (bC (bS rm W) W rm) pos (W.take (kH least (bC (bS rm W) W rm) W))∧
 (∀ v r,r∈L v→(bC (bS rm W) W rm).getD r 0≤rm.getD r 0)∧∃ r v,r∈L v∧least≤rm.getD r 0∧(bC (bS rm W) W rm).getD r 0<least:=by
 have hon:=hI.on
 have hlvl:=(km hG hon hI.mem).1
 have hh1:=hG.hi (cq N W)
 have hh2:=hG.hi N.src.toNat
 rw[hend] at hon
 have hnd:=m8 hG hon hI.mem
 have hlt:∀ r∈W,r<2*N.arcs.length:=fun r hr=>(hG.ok _ _ (hI.mem r hr)).1
 have hroom:∀ r∈W,least≤rm.getD r 0:=fun r hr=>by obtain⟨_,_,_,h⟩:=hI.head r hr;exact h
 have hWne:W≠[]:=by
  intro h0
  have hsr:=hR.src
  have hsk:=hR.snk
  have hdf:=hR.diff
  rw[h0] at hend
  simp only[cq,List.getLast?_nil] at hend
  omega
 obtain⟨r0,hr0,hmo⟩:=iU (rm:=rm) hWne
 have hma:=hroom r0 hr0
 rw[← hmo] at hma
 obtain⟨a,haeq⟩:∃ a,a=bS rm W:=⟨_,rfl⟩
 rw[← haeq] at hma hmo ⊢
 have hmle:∀ r∈W,a≤rm.getD r 0:=fun r hr=>haeq▸kO r hr
 obtain⟨k1,k2,k3⟩:=nJ hR hf hlt hnd.1 hon (by omega:0≤a) (he▸hmle)
 rw[← he] at k2
 have hzl:rm.length=2*N.arcs.length:=by rw[he];exact fM hf.len
 have hget:=eU (a:=a) hzl hlt hnd.1
 have hmono:∀ v r,r∈L v→(bC a W rm).getD r 0≤rm.getD r 0:=by
  intro v r hr
  rw[hget]
  have:bi r∉W:=by
   intro hin
   have g1:=(hG.ok _ _ hr)
   have g2:=(hG.ok _ _ (hI.mem _ hin)).2.2
   have g3:=g1.2.2
   rw[f0,eJ] at g2
   rw[← g1.2.1] at g3
   omega
  rw[if_neg this]
  split<;>omega
 refine⟨hWne,hlt,hnd.1,hnd.2,by omega,hma,⟨_,k1,k2⟩,?_,hmono,r0,_,hI.mem r0 hr0,hroom r0 hr0,?_⟩
 ·refine⟨hI.pl,oL _ hon,fun r hr=>?_,fun v p hp j r hj hjr=>?_⟩
  ·obtain⟨p,g1,g2,_⟩:=hI.head r (List.mem_of_mem_take hr)
   refine⟨p,g1,g2,?_⟩
   obtain⟨i,hi,hir⟩:=List.mem_iff_getElem.1 hr
   have hi':i<kH least (bC a W rm) W:=by rw[List.length_take] at hi;omega
   rw[List.getElem_take] at hir
   have:=List.not_of_lt_findIdx hi'
   rw[hir] at this
   simpa using this
  ·rcases hI.pass v p hp j r hj hjr with k|k
   ·exact .inl (by have:=hmono v r (List.mem_of_getElem? hjr);omega)
   ·exact .inr k
 ·rw[hget,if_neg (fun hin=>hnd.2 r0 hr0 _ hin rfl),if_pos hr0];omega
theorem PI.start {N:a8} {L:Nat→List Nat} {least:Int} {rm:List Int}:PI N L least rm (List.replicate (N.nodes.toNat+1) 0) []:=by
 refine⟨by simp,⟨_,rfl⟩,fun r hr=>(by cases hr),fun v p hp j r hj=>?_⟩
 rw[List.getElem?_replicate] at hp
 split at hp
 ·simp only[Option.some.injEq] at hp;omega
 ·cases hp
def kD (ls:List Nat) (least:Int) (rm:List Int):Nat:=(ls.filter fun r=>decide (least≤rm.getD r 0)).length
theorem sw {least:Int} {rm rm':List Int}:∀ {ls:List Nat},(∀ r∈ls,rm'.getD r 0≤rm.getD r 0)→kD ls least rm'≤kD ls least rm
 |[],_=>Nat.le_refl _
 |r::ls,h=>by
  have ih:=sw (ls:=ls) (least:=least) fun q hq=>h q (by simp[hq])
  have h1:=h r (by simp)
  unfold kD at*
  simp only[List.filter_cons,decide_eq_true_eq]
  split
  ·rw[if_pos (by omega)];simp only[List.length_cons];omega
  ·split
   ·simp only[List.length_cons];omega
   ·exact ih
theorem oW {least:Int} {rm rm':List Int}:∀ {ls:List Nat},(∀ r∈ls,rm'.getD r 0≤rm.getD r 0)→∀ r∈ls,least≤rm.getD r 0→rm'.getD r 0<least→kD ls least rm'<kD ls least rm
 |[],_,_,h,_,_=>by cases h
 |q::ls,h,r,hr,h1,h2=>by
  have hle:=sw (ls:=ls) (least:=least) fun q hq=>h q (by simp[hq])
  have hq:=h q (by simp)
  unfold kD at*
  simp only[List.filter_cons,decide_eq_true_eq]
  rcases List.mem_cons.1 hr with rfl|hr
  ·rw[if_neg (by omega),if_pos h1];simp only[List.length_cons];omega
  ·have ih:=oW (ls:=ls) (fun q hq=>h q (by simp[hq])) r hr h1 h2
   unfold kD at ih
   split
   ·rw[if_pos (by omega)];simp only[List.length_cons];omega
   ·split
    ·simp only[List.length_cons];omega
    ·exact ih
end Go.Proofs.YtpbmihpjgjbndaaGreatDoor
/- Phases, in plain terms. -/
set_option linter.unusedVariables false
set_option linter.unusedSimpArgs false
namespace Go.Proofs.YtpbmihpjgjbndaaGreatDoor
open Go.RowKit
def kI (N:a8) (least:Int) (f:List Int) (ws:List (List Nat×Int)) (f':List Int):Prop:=
 ∃ lv,dr N (aM (N.arcs.zip f)) least lv∧aH N f'∧
   Bl N (dz N (bJ N (aM (N.arcs.zip f)) least lv (2*N.arcs.length))) least (aM (N.arcs.zip f)) (List.replicate (N.nodes.toNat+1) 0) [] ws (aM (N.arcs.zip f'))
theorem pE:∀ (ps:List (dK×Int)) (v:Int),(∀ p∈ps,0≤p.2∧p.2≤p.1.cap)→-((ps.map (·.1.cap)).sum)≤cY ps v∧cY ps v≤(ps.map (·.1.cap)).sum
 |[],_,_=>by simp[cY]
 |p::ps,v,h=>by
  have ih:=pE ps v fun q hq=>h q (by simp[hq])
  have hp:=h p (by simp)
  simp only[cY] at ih
  simp only[cY,List.map_cons,List.sum_cons]
  split<;>split<;>omega
theorem w8 {l:List dK} {f:List Int} (h:f.length=l.length):(l.zip f).map (·.1.cap)=l.map (·.cap):=by
 have hzm:(l.zip f).map (·.1)=l:=List.map_fst_zip (by omega)
 have e:(l.zip f).map (·.1.cap)=((l.zip f).map (·.1)).map (·.cap):=by rw[List.map_map];rfl
 rw[e,hzm]
theorem dm {N:a8} (hR:N.Right) {f:List Int} (hf:Ranged N f) (v:Int):-4611686018427387903≤cY (N.arcs.zip f) v∧cY (N.arcs.zip f) v≤4611686018427387903:=by
 have h:=pE (N.arcs.zip f) v hf.all
 rw[w8 hf.len] at h
 have:=hR.sum
 omega
theorem pp {N:a8} {rm:List Int} {least:Int} {lv lv':List Int} (h:dr N rm least lv) (h':dr N rm least lv'):∀ (k v:Nat),bZ lv v=k→0≤bZ lv' v∧bZ lv' v≤k
 |0,v,hv=>by rw[h.zero v (by simpa using hv),h'.src];simp
 |k+1,v,hv=>by
  obtain⟨r,h1,h2,h3,h4⟩:=h.back v (by omega)
  have ih:=pp h h' k (cU N r) (by omega)
  have:=h'.step r h1 h2 ih.1
  rw[h3] at this
  omega
theorem kh {N:a8} {rm:List Int} {least:Int} {lv lv':List Int} (h:dr N rm least lv) (h':dr N rm least lv') (v:Nat):bZ lv v=bZ lv' v:=by
 have r1:=h.rng v
 have r2:=h'.rng v
 by_cases e:0≤bZ lv v
 ·have k1:=pp h h' (bZ lv v).toNat v (by omega)
  have k2:=pp h' h (bZ lv' v).toNat v (by omega)
  omega
 ·by_cases e2:0≤bZ lv' v
  ·have k2:=pp h' h (bZ lv' v).toNat v (by omega)
   omega
  ·omega
theorem yC {N:a8} {rm:List Int} {least:Int} {lv lv':List Int} (h:dr N rm least lv) (h':dr N rm least lv'):lv=lv':=by
 refine List.ext_getElem (by rw[h.len,h'.len]) fun i h1 h2=>?_
 have e1:=pk (List.getElem?_eq_getElem h1)
 have e2:=pk (List.getElem?_eq_getElem h2)
 rw[← e1,← e2];exact kh h h' i
theorem y5 {N:a8} {L:Nat→List Nat} {least:Int} {rm rm':List Int} {pos W:List Nat} (h:Bl N L least rm pos W [] rm'):rm'=rm:=by
 cases h;rfl
theorem ww {N:a8} {f g:List Int} (hf:f.length=N.arcs.length) (hg:g.length=N.arcs.length) (h:aM (N.arcs.zip f)=aM (N.arcs.zip g)):f=g:=by
 refine List.ext_getElem (by omega) fun i hi hi2=>?_
 have har:N.arcs[i]?=some (N.arcs[i]'(by omega)):=List.getElem?_eq_getElem _
 have g1:=(cT (eo har (List.getElem?_eq_getElem hi))).2
 have g2:=(cT (eo har (List.getElem?_eq_getElem hi2))).2
 rw[h] at g1
 rw[g1] at g2
 simpa using g2
theorem kI.keeps {N:a8} (hR:N.Right) {least:Int} (hle:1≤least) {f f':List Int} {ws:List (List Nat×Int)} (hf:aH N f) (h:kI N least f ws f') {lv:List Int} (hlv:dr N (aM (N.arcs.zip f)) least lv):
 aH N f'∧cY (N.arcs.zip f) N.snk+least*ws.length≤cY (N.arcs.zip f') N.snk∧(0≤bZ lv N.snk.toNat→ws≠[]):=by
 obtain⟨lv',hlv',hf',hb⟩:=h
 obtain⟨f2,h1,h2,h3,h4,_⟩:=hb.keeps hR (fE hlv') hle f hf rfl PI.start
 have hz:f'=f2:=ww hf'.len h1.len h2
 subst hz
 refine⟨hf',h3,fun hd hw=>?_⟩
 subst hw
 have hrm:=y5 hb
 rw[hrm] at h4
 rw[kh hlv hlv'] at hd
 exact h4 _ (v5 hlv' (bZ lv' N.snk.toNat).toNat _ (by omega)) rfl
inductive Dn (N:a8) (least:Int):List Int→Nat→Nat→List Int→Prop
 |stop {f lv:List Int}:dr N (aM (N.arcs.zip f)) least lv→bZ lv N.snk.toNat<0→Dn N least f 0 0 f
 |step {f f1 f' lv:List Int} {ws:List (List Nat×Int)} {p k:Nat}:dr N (aM (N.arcs.zip f)) least lv→0≤bZ lv N.snk.toNat→kI N least f ws f1→Dn N least f1 p k f'→Dn N least f (p+1) (ws.length+k) f'
theorem Dn.keeps {N:a8} (hR:N.Right) {least:Int} (hle:1≤least) {f f':List Int} {p k:Nat} (h:Dn N least f p k f'):aH N f→
 aH N f'∧cY (N.arcs.zip f) N.snk+least*k≤cY (N.arcs.zip f') N.snk∧p≤k∧∃ lv,dr N (aM (N.arcs.zip f')) least lv∧bZ lv N.snk.toNat<0:=by
 induction h with
 |stop h1 h2=>exact fun hf=>⟨hf,by simp,Nat.le_refl _,_,h1,h2⟩
 |@step f f1 f' lv ws p k h1 h2 h3 _ ih=>
  intro hf
  obtain⟨k1,k2,k3⟩:=h3.keeps hR hle hf h1
  obtain⟨g1,g2,g3,g4⟩:=ih k1
  have hw:=List.length_pos_iff.2 (k3 h2)
  refine⟨g1,?_,by omega,g4⟩
  have:least*((ws.length+k:Nat):Int)=least*ws.length+least*k:=by
   rw[Int.natCast_add,Int.mul_add]
  omega
theorem pD {N:a8} {least:Int} {f lv:List Int} (hf:Ranged N f) (h:dr N (aM (N.arcs.zip f)) least lv) (hs:bZ lv N.snk.toNat<0):¬ nv N (aM (N.arcs.zip f)) least N.snk:=fun hr=>by
 have:=xj h (by rw[cv,List.length_zip,hf.len,Nat.min_self]) hr
 omega
end Go.Proofs.YtpbmihpjgjbndaaGreatDoor
