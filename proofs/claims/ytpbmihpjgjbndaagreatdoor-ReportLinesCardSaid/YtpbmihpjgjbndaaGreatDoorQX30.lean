/- The engine and the words that all chapters share: several texts in one. -/
import Derived.Test.YtpbmihpjgjbndaaGreatDoorQE
import Derived.Test.YtpbmihpjgjbndaaGreatDoorRepN
import Derived.Test.YtpbmihpjgjbndaaGreatDoorQX33
import Derived.Test.YtpbmihpjgjbndaaGreatDoorQX29
/- New rows and trees, step by step. -/
set_option linter.unusedVariables false
set_option linter.unusedSimpArgs false
namespace Go.Proofs.YtpbmihpjgjbndaaGreatDoor
open Go.RowKit
def gZ (v:Int):Nd:=⟨none,none,none,1,v,v,v,0,false⟩
def zq (A:Option Addr) (cap k:Nat) (pf:Nat) (v:Int):Heap:=
 [blk pf 344 [.slice A k cap,.int .i64 0],.own (.slice A k cap) 347 9 k (ey k fun _=>gZ v)]
set_option maxHeartbeats 1000000 in
theorem xq (v:Int) (hv:-4611686018427387904≤v∧v≤4611686018427387904) (N:Nat) (h1:1≤N) (hN:N≤3000) (g c:Nat):
 Fn 259 [.slice (some ⟨g,0,none⟩) N c] [] [.seg g 0 (ap (List.replicate N v))] fun r H'=>∃ ps gn cap,r=.tuple #[.pointer (some ⟨ps,0,none⟩),.int .i64 0]∧H'=zq (some ⟨gn,0,none⟩) cap N ps v:=by
 refine aS Tryz.func259 rfl rfl fun w0=>?_
 refine ad (aa (ae [] rfl ?_))
 refine ad (ad (aa (ae [] rfl ?_)))
 refine aC rfl (fun h=>absurd h (by omega)) (fun _=>av ?_)
 refine ad (aa ?_)
 refine ab [] (cj rfl rfl rfl rfl rfl rfl) rfl ?_
 refine bw rfl rfl rfl (fun _=>rfl) fun ps=>?_
 refine ae [] rfl ?_
 refine ad (ad (aa (ae [] rfl ?_)))
 refine au ?_
 refine cC 347 9 ?_
 refine cN (σ:=Nat×Option Addr×Nat) (fun t=>[(14,.int .i64 (t.1:Int)),(13,.int .i64 (N:Int)),(12,.slice (some ⟨g,0,none⟩) N c),(4,.pointer (some ⟨ps,0,none⟩))]) (fun t=>zq t.2.1 t.2.2 t.1 ps v++[.seg g 0 (ap (List.replicate N v))])
  (fun t=>t.1≤N) (fun t=>N-t.1) (0,none,0) ⟨rfl,rfl,rfl,rfl,trivial⟩ ?_ (Nat.zero_le _) ?_
 ·exact aK.re (A:=[.own (.slice none 0 0) 347 9 0 [],blk ps 344 [.slice none 0 0,.int .i64 0],.seg g 0 (ap (List.replicate N v))]) (R:=[]) [1,0,2] rfl (by decide)
 rintro⟨k,A,cap⟩ hk
 simp only at hk ⊢
 refine ad (aa (ae [] rfl ?_))
 refine ad ?_
 refine aC rfl (fun hlt=>av ?_) (fun hge=>?_)
 ·have hkN:k<N:=by omega
  refine ad (au ?_)
  refine ad (aa ?_)
  refine ab [] (aJ rfl rfl rfl rfl rfl hkN) rfl ?_
  refine ab [] (bz (v:=.int .i64 v) 2 rfl rfl rfl (Nat.zero_add _).symm (b8 (by rw[List.getElem?_replicate,if_pos hkN]))) rfl ?_
  refine ae [] rfl ?_
  refine ad (ad (aa ?_))
  refine ak (gs:=[999]) rfl ?_
  refine ak (gs:=[999]) rfl ?_
  refine ak (gs:=[999]) rfl ?_
  refine aw 20 (v':=.bool false) rfl (congrArg Value.bool (aA (by omega))) ?_
  refine ah [2] rfl ?_
  refine ae [] rfl ?_
  refine aC rfl (fun h=>absurd h (by omega)) (fun _=>av ?_)
  refine aa ?_
  refine ak (gs:=[999]) rfl ?_
  refine ak (gs:=[999]) rfl ?_
  refine ak (gs:=[999]) rfl ?_
  refine ak (gs:=[999]) rfl ?_
  refine ab [] (v:=.slice A k cap) (af 0 rfl rfl rfl rfl) rfl ?_
  refine ab [] (sc (fs:=[(0,1,0),(1,1,0)]) rfl rfl rfl rfl (fun i off sz ag h=>by
   match i with
   |0=>simp at h;omega
   |1=>simp at h;omega
   |i+2=>simp at h) rfl rfl) rfl ?_
  refine ak (gs:=[999]) rfl ?_
  refine ak (gs:=[999]) rfl ?_
  refine ak (gs:=[999]) rfl ?_
  refine ab [] (cj rfl rfl rfl rfl rfl rfl) rfl ?_
  refine bK rfl rfl rfl rfl rfl rfl rfl (fun _=>rfl) fun g2=>?_
  refine be (n:=k) (m:=1) (off:=0) (news:=dB (gZ v)) 2 0 rfl rfl rfl rfl rfl rfl (by decide) rfl rfl (aL g2 _ _ (0,0)) (fun _=>rfl) rfl rfl (by omega) (by omega) (fun _ _=>rfl) fun A2 c2=>?_
  refine ak (gs:=[999]) rfl ?_
  refine ak (gs:=[999]) rfl ?_
  refine aX 1 rfl rfl rfl rfl rfl [] rfl ?_
  refine ai ?_
  refine aa (ae [] rfl ?_)
  refine⟨(k+1,A2,c2),⟨?_,rfl,rfl,rfl,trivial⟩,?_,hkN,by show N-(k+1)<N-k;omega⟩
  ·show some (Value.int .i64 (IntKind.i64.wrap ((k:Int)+1)))=_
   rw[bU (by omega)];rfl
  ·refine aK.trans (aK.sub (List.sublist_cons_self _ _)) ?_
   show aK _ ([blk ps 344 [.slice A2 (k+1) c2,.int .i64 0],.own (.slice A2 (k+1) c2) 347 9 (k+1) (ey k (fun _=>gZ v)++dB (gZ v))]++[.seg g 0 (ap (List.replicate N v))]) _
   rw[show ey k (fun _=>gZ v)++dB (gZ v)=ey (k+1) fun _=>gZ v from (oh k _).symm]
   exact aK.refl
 ·obtain rfl:k=N:=by omega
  refine bO (bh 1 rfl) fun ⟨_,_,hA,_⟩=>?_
  obtain⟨gn,rfl⟩:=hA (by omega)
  refine aV ?_
  refine ad (aa (ae [] rfl ?_))
  exact aE [0,1] (by decide) rfl (aB ⟨_,rfl,ps,gn,cap,rfl,rfl⟩)
set_option maxHeartbeats 1000000 in
theorem xp (v:Int) (hv:-4611686018427387904≤v∧v≤4611686018427387904) (N:Nat) (h1:1≤N) (hN:N≤3000) (g c:Nat):
 Fn 251 [.slice (some ⟨g,0,none⟩) N c] [] [.seg g 0 (ap (List.replicate N v))] fun r H'=>∃ pt ps gn go co cap,r=.tuple #[.pointer (some ⟨pt,0,none⟩),.int .i64 0]∧H'=hO pt ps go gn co cap N ⟨fun _=>gZ v,fun _=>none,0⟩:=by
 refine aS Tryz.func251 rfl rfl fun w0=>?_
 refine ad (aa (ae [] rfl ?_))
 refine ad (aa ?_)
 refine ak (gs:=[999]) rfl ?_
 refine ax [] (xq v hv N h1 hN g c) rfl rfl rfl rfl (by kernel_rfl) ⟨⟨0,_,by simp,rfl,aq _ _ _,ay⟩,trivial⟩ (fun _=>rfl) ?_
 rintro _ H' ⟨ps,gn,cap,rfl,rfl⟩
 refine⟨rfl,?_⟩
 refine ae [] rfl ?_
 refine ad (ad (aa (ae [] rfl ?_)))
 refine aC rfl (fun h=>absurd rfl h) (fun _=>av ?_)
 refine ad (aa ?_)
 refine ak (gs:=[999]) rfl ?_
 refine bK rfl rfl rfl rfl rfl rfl rfl (fun _=>rfl) fun g2=>?_
 refine ak (gs:=[999]) rfl ?_
 refine ak (gs:=[999]) rfl ?_
 refine ax [] (xD (-1) g2 1 N h1 (by omega)) rfl rfl rfl rfl (by kernel_rfl) ⟨⟨0,_,by simp,rfl,aL _ _ _ (0,0),.inr rfl⟩,trivial⟩ (fun _=>rfl) ?_
 rintro _ H' ⟨go,rfl,rfl⟩
 refine⟨rfl,?_⟩
 refine ab [] (cj rfl rfl rfl rfl rfl rfl) rfl ?_
 refine ak (gs:=[999]) rfl ?_
 refine ak (gs:=[999]) rfl ?_
 refine ab [] (cj rfl rfl rfl rfl rfl rfl) rfl ?_
 refine bw rfl rfl rfl (fun _=>rfl) fun pt=>?_
 refine ae [] rfl ?_
 refine aE [3,4,0,1] (by decide) rfl (aB ⟨_,rfl,pt,ps,gn,go,N,cap,rfl,?_⟩)
 have e:ap (List.replicate N (-1))=wn N (fun _=>none):=by
  unfold wn
  congr 1
  apply List.ext_getElem?
  intro i
  rw[List.getElem?_replicate,List.getElem?_map]
  by_cases h:i<N
  ·rw[if_pos h,List.getElem?_range h];rfl
  ·rw[if_neg h,List.getElem?_eq_none (by rw[List.length_range];omega)];rfl
 rw[e]
 rfl
theorem eC.new {N:Nat} {v:Int} (hv:-4611686018427387904≤v∧v≤4611686018427387904):eC N ⟨fun _=>gZ v,fun _=>none,0⟩ (fun _=>none) (fun _=>v) (fun x=>[x]):=by
 refine⟨⟨fun x hx=>?_,fun x _=>by simp,fun x hx y hy=>?_,fun x _ y hy=>?_,fun x _=>by simp,fun x _=>hv⟩,?_,?_,?_,?_,?_,?_⟩
 ·exact⟨.node .nil x v 0 false .nil,⟨⟨rfl,rfl,rfl,(bU (n:=v) (by omega)).symm,rfl,rfl,rfl,⟨v,⟨⟨(x,v),by simp[T.flat],rfl⟩,fun e he=>by simp[T.flat,sh] at he;rw[he];exact Int.le_refl _⟩,(bU (n:=v) (by omega)).symm⟩,⟨v,⟨⟨(x,v),by simp[T.flat],rfl⟩,fun e he=>by simp[T.flat,sh] at he;rw[he];exact Int.le_refl _⟩,(bU (n:=v) (by omega)).symm⟩⟩,trivial,trivial⟩,rfl⟩
 ·rw[List.mem_singleton.1 hy];exact hx
 ·rw[List.mem_singleton.1 hy]
 ·exact⟨fun _ _=>trivial,fun _ _=>trivial,fun _ _=>trivial⟩
 ·intro x _ A u w B h
  have:=congrArg List.length h
  simp at this;omega
 ·exact fun _ _ _ _ _=>rfl
 ·exact fun _ _ _ _ _ _ _=>rfl
 ·exact fun x _=>⟨[x],rfl,rfl⟩
 ·exact fun _ _=>trivial
end Go.Proofs.YtpbmihpjgjbndaaGreatDoor
/- The engine by trees is made, step by step. -/
set_option linter.unusedVariables false
set_option linter.unusedSimpArgs false
namespace Go.Proofs.YtpbmihpjgjbndaaGreatDoor
open Go.RowKit
def pX (N:a8) (A:Option Addr) (c:Nat) (Ar:Option Addr) (cr:Nat) (least:Int) (n gl gu:Nat) (fp:Value) (k w:Nat):List Value:=[.int .i64 N.nodes,.int .i64 N.src,.int .i64 N.snk,.slice A N.arcs.length c,.slice Ar (2*N.arcs.length) cr,.int .i64 least,.slice (some ⟨gl,0,none⟩) (n+1) (n+1),.slice (some ⟨gu,0,none⟩) (n+1) (n+1),fp,.int .i64 (cD k),.int .i64 (cD w)]
theorem wc (N:a8) (A:Option Addr) (c:Nat) (Ar:Option Addr) (cr:Nat) (least:Int) (n gl gu:Nat) (fp:Value) (k w pe:Nat):Fn 249 [.pointer (some ⟨pe,0,none⟩)] (aR [blk pe 323 (pX N A c Ar cr least n gl gu fp k w)]) ([]++[blk pe 323 (pX N A c Ar cr least n gl gu fp k w)]) fun _ H'=>H'=[blk pe 323 (pX N A c Ar cr least n gl gu fp (k+1) w)]:=by
 generalize hM:aR _=M
 refine aS Tryz.func249 rfl rfl fun w0=>?_
 refine aa ?_
 (repeat' (first
  |refine ak (gs:=[999]) rfl ?_
  |refine ab [999] (af 0 rfl rfl rfl rfl) rfl ?_))
 refine aw 6 (v':=.int .i64 (cD ((k+1:Nat):Int))) rfl (congrArg (Value.int .i64) (kK _ _)) ?_
 (repeat' (refine ak (gs:=[999]) rfl ?_))
 refine aX 0 rfl rfl rfl rfl rfl [] rfl ?_
 exact ai ⟨_,rfl,rfl⟩
set_option maxHeartbeats 2000000 in
theorem yu (N:a8) (hR:N.Right) (A:Option Addr) (c b o:Nat) (hA:N.arcs≠[]→A=some ⟨b,o,none⟩) (Ar:Option Addr) (cr:Nat) (ls:List Nat) (hls:∀ r∈ls,r<2*N.arcs.length) (hll:ls.length≤4000) (B:Option Addr) (cb bb ob:Nat) (hB:ls≠[]→B=some ⟨bb,ob,none⟩) (least:Int) (n:Nat) (hn:N.nodes=n):
 Fn 246 [bu N A c,.slice Ar (2*N.arcs.length) cr,.slice B ls.length cb,.int .i64 least] [] [.seg b o (arcs N.arcs),.seg bb ob (bL ls)]
  fun r H'=>∃ (pe gl gu pt ps gn go co cap:Nat) (rows:List eu),r=.pointer (some ⟨pe,0,none⟩)∧rows.length=n+1∧(∀ (v:Nat) (row:eu),rows[v]?=some row→row.l=(dz N ls v).map fun (i:Nat)=>(i:Int))∧
   H'=(hO pt ps go gn co cap (n+1) ⟨fun _=>gZ 4611686018427387904,fun _=>none,0⟩++[blk pe 323 (pX N A c Ar cr least n gl gu (.pointer (some ⟨pt,0,none⟩)) ls.length 0),.own (.slice (some ⟨gl,0,none⟩) (n+1) (n+1)) 23 1 (n+1) (rows.map cH),.own (.slice (some ⟨gu,0,none⟩) (n+1) (n+1)) 23 1 (n+1) ((List.replicate (n+1) dg).map cH)])++(rows++List.replicate (n+1) dg).map (bH 3):=by
 have hnn:=hR.nodes
 have hl2:=hR.len
 refine aS Tryz.func246 rfl rfl fun w0=>?_
 refine ad (aa ?_)
 refine bw (cs:=bG N A c) rfl rfl rfl (fun _=>rfl) fun p=>?_
 refine ae [] rfl ?_
 refine rX (σ:=Nat×Nat×Nat) (fun t=>[(9,.pointer (some ⟨t.1,0,none⟩)),(21,.slice (some ⟨t.2.1,0,none⟩) (n+1) (n+1)),(25,.slice (some ⟨t.2.2,0,none⟩) (n+1) (n+1)),(2,.slice B ls.length cb),(4,.pointer (some ⟨p,0,none⟩))]) (fun t=>[blk t.1 323 (pX N A c Ar cr least n t.2.1 t.2.2 (.pointer none) 0 0),.own (.slice (some ⟨t.2.1,0,none⟩) (n+1) (n+1)) 23 1 (n+1) ((List.replicate (n+1) dg).map cH),.own (.slice (some ⟨t.2.2,0,none⟩) (n+1) (n+1)) 23 1 (n+1) ((List.replicate (n+1) dg).map cH),blk p 27 (bG N A c),.seg b o (arcs N.arcs),.seg bb ob (bL ls)]) ?_ ?_
 ·refine yw (Sf:=[blk p 27 (bG N A c)]) ?_
  refine yr [0,1,2,3,4,5,7,8,9] (by decide+kernel) [0] (by decide) rfl ?_
  (repeat' (first
   |refine aZ (gs:=[999]) rfl rfl ?_
   |refine aj [999] rfl (af 0 rfl rfl rfl rfl) rfl ?_))
  refine bv ?_
  refine wT 20 (v':=.int .i64 ((n+1:Nat):Int)) rfl (congrArg (Value.int .i64) ((bU (n:=N.nodes+1) (by omega)).trans (by omega))) ?_
  refine wT 24 (v':=.int .i64 ((n+1:Nat):Int)) rfl (congrArg (Value.int .i64) ((bU (n:=N.nodes+1) (by omega)).trans (by omega))) ?_
  refine jw 6 [10] (by decide+kernel) (by decide) ?_
  (repeat' (first
   |exact trivial
   |refine jw 10 [] (by decide+kernel) (by decide) ?_
   |refine jw 6 [] (by decide+kernel) (by decide) ?_
   |refine jw 11 [] (by decide+kernel) (by decide) ?_
   |refine jw 12 [] (by decide+kernel) (by decide) ?_
   |refine jw 13 [] (by decide+kernel) (by decide) ?_
   |refine⟨⟨_,rfl,?_⟩,?_⟩
   |refine dv (n:=n+1) (c:=n+1) rfl rfl rfl rfl rfl rfl (by omega) (by omega) (by omega) (fun _=>rfl) fun go=>?_
   |refine bw rfl rfl rfl (fun _=>rfl) fun pe=>?_
   |refine ab [] (cj rfl rfl rfl rfl rfl rfl) rfl ?_
   |refine ai ⟨⟨[1],by decide,rfl⟩,?_⟩
   |refine ai ⟨⟨[2],by decide,rfl⟩,?_⟩
   |refine ai ⟨⟨[3],by decide,rfl⟩,?_⟩
   |refine ae [] rfl ⟨⟨[3],by decide,rfl⟩,?_⟩))
  all_goals refine xB (by decide+kernel) ⟨(_,_,_),⟨rfl,rfl,rfl,rfl,rfl,trivial⟩,?_⟩
  all_goals rw[show made [Value.slice none 0 0] ((n+1)*1)=(List.replicate (n+1) dg).map cH by rw[dn,Nat.mul_one,List.map_replicate];rfl]
  all_goals (first|exact aK.re (A:=[_,_,_,_,_,_]) (R:=[]) [0,2,1,3,4,5] rfl (by decide)|exact aK.re (A:=[_,_,_,_,_,_]) (R:=[]) [0,1,2,3,4,5] rfl (by decide))
 rintro⟨pe,gl,gu⟩
 simp only
 refine ad (aa (ae [] rfl ?_))
 refine ad (ad (aa (ae [] rfl ?_)))
 refine au ?_
 refine bA (aK.nils 3 (n+1)) ?_
 refine cN (σ:=Nat×List eu) (fun s=>[(32,.int .i64 (s.1:Int)),(31,.int .i64 (ls.length:Int)),(30,.slice B ls.length cb),(10,.func (.func 249) #[.pointer (some ⟨pe,0,none⟩)] #[]),(9,.pointer (some ⟨pe,0,none⟩)),(4,.pointer (some ⟨p,0,none⟩))])
  (fun s=>[blk pe 323 (pX N A c Ar cr least n gl gu (.pointer none) s.1 0),.own (.slice (some ⟨gl,0,none⟩) (n+1) (n+1)) 23 1 (n+1) (s.2.map cH),.own (.slice (some ⟨gu,0,none⟩) (n+1) (n+1)) 23 1 (n+1) ((List.replicate (n+1) dg).map cH),blk p 27 (bG N A c),.seg b o (arcs N.arcs),.seg bb ob (bL ls)]++s.2.map (bH 3))
  (fun s=>s.1≤ls.length∧s.2.length=n+1∧∀ (v:Nat) (r:eu),s.2[v]?=some r→r.l=(dz N (ls.take s.1) v).map fun (i:Nat)=>(i:Int)) (fun s=>ls.length-s.1)
  (0,List.replicate (n+1) dg) ⟨rfl,rfl,rfl,rfl,rfl,rfl,trivial⟩ aK.refl ⟨Nat.zero_le _,by simp,fun v r h=>?_⟩ ?_
 ·rw[List.getElem?_replicate] at h
  split at h
  ·simp only[Option.some.injEq] at h;subst h;rfl
  ·cases h
 rintro⟨k,rows⟩ ⟨hk,hrows,htr⟩
 simp only at hk hrows htr ⊢
 refine ad (aa (ae [] rfl ?_))
 refine ad (aC rfl (fun hlt=>av ?_) (fun hge=>aV ?_))
 ·have hlt:k<ls.length:=by omega
  obtain⟨r,hr⟩:∃ r,ls[k]?=some r:=⟨ls[k],List.getElem?_eq_getElem hlt⟩
  have hrl:=hls r (List.mem_of_getElem? hr)
  obtain⟨he,hf1,hf2⟩:=i7 hR hrl
  obtain⟨v,hv⟩:∃ v,cU N r=v:=⟨_,rfl⟩
  rw[hv] at he hf1 hf2
  obtain rfl:=hB (by rintro rfl;simp at hlt)
  have hvn:v<rows.length:=by omega
  obtain⟨row,hrow⟩:∃ r,rows[v]?=some r:=⟨rows[v],List.getElem?_eq_getElem hvn⟩
  have hrl':=htr v row hrow
  have hlen:=gg N (ls.take k) v
  have htake:(ls.take k).length≤ls.length:=by rw[List.length_take];omega
  have hrowl:row.l.length=(dz N (ls.take k) v).length:=by rw[hrl',List.length_map]
  have htk:ls.take (k+1)=ls.take k++[r]:=by rw[List.take_add_one,hr];rfl
  refine ad (au ?_)
  refine ad (aa (ah [] rfl ?_))
  refine ab [] (f9 rfl rfl rfl rfl rfl hlt) rfl ?_
  refine ab [] (bz 5 rfl rfl rfl rfl (dh hr)) rfl ?_
  refine ae [] rfl ?_
  refine ad (aa ?_)
  refine ak (gs:=[999]) rfl ?_
  refine ao (fst:=[.pointer (some ⟨pe,0,none⟩)]) (cap:=[]) [999] (wc N A c Ar cr least n gl gu (.pointer none) k 0 pe) rfl rfl rfl rfl (by kernel_rfl) aK.refl trivial (fun _=>rfl) ?_
  rintro v0 H' rfl
  refine⟨rfl,?_⟩
  refine ai ?_
  refine ad (aa ?_)
  refine ab [] (v:=bu N A c) (af 3 rfl rfl rfl rfl) rfl ?_
  refine ah [] rfl ?_
  refine ax [] (e6 N A c b o hA hl2 r hrl) rfl rfl rfl rfl (by kernel_rfl) ⟨⟨4,_,by simp,rfl,aq _ _ _,ay⟩,trivial⟩ (fun _=>rfl) ?_
  rintro v' H' ⟨rfl,rfl⟩
  refine⟨rfl,?_⟩
  refine ae [] rfl ?_
  refine aP 13 (v':=.int .i64 (v:Int)) rfl (congrArg (Value.int .i64) he) ?_
  show J _ _ _ _ ([_,_,_,_,_,_]++rows.map (bH 3))
  refine bA (aK.front (i:=v) (c:=bH 3 row) (by rw[List.getElem?_map,hrow];rfl)) ?_
  refine bp 16 [(0,true),(1,true),(2,true),(3,true),(4,true),(5,true),(6,true),(7,true),(8,true),(9,true),(10,true),(11,true),(12,true),(13,false),(14,false),(15,true)] [1,2] (by kernel_rfl) (by decide) rfl ?_
  refine aF [] rfl ?_
  refine aj [] rfl (af (v:=.slice (some ⟨gl,0,none⟩) (n+1) (n+1)) 0 rfl rfl rfl rfl) rfl ?_
  refine aF [] rfl ?_
  refine aj [] rfl (af (v:=.slice (some ⟨gl,0,none⟩) (n+1) (n+1)) 0 rfl rfl rfl rfl) rfl ?_
  refine aF [] rfl ?_
  refine aj [] rfl (aJ rfl rfl rfl rfl rfl (by omega)) rfl ?_
  refine aj [] rfl (aD (v:=cH row) 1 rfl rfl rfl (show (rows.map cH)[v]?=some (cH row) by rw[List.getElem?_map,hrow];rfl)) rfl ?_
  refine aF [] rfl ?_
  refine a6 rfl ?_
  refine bK rfl rfl rfl rfl rfl rfl rfl (fun _=>rfl) fun g2=>?_
  refine ai ⟨⟨[2,3],by decide,rfl⟩,?_⟩
  refine a6 rfl ?_
  refine be (n:=row.l.length) (m:=1) (off:=0) (news:=ap [(r:Int)]) 1 0 rfl rfl rfl rfl rfl rfl (by decide) rfl rfl (aL g2 _ _ (0,0)) (fun _=>rfl) rfl rfl (by omega) (by omega) (fun _ _=>rfl) fun A2 c2=>?_
  rw[show row.l.length+1=(row.l++[(r:Int)]).length by simp,show ap row.l++ap [(r:Int)]=ap (row.l++[(r:Int)]) by simp[ap]]
  refine ai ⟨⟨[2,3],by decide,rfl⟩,?_⟩
  refine aj [] rfl (aJ rfl rfl rfl rfl rfl (by omega)) rfl ?_
  refine bv ?_
  refine aQ 3 rfl rfl rfl rfl (dk rfl rfl rfl (by rw[List.length_map];omega)) [] rfl ?_
  refine ai ?_
  refine aa (ae [] rfl ?_)
  refine⟨(k+1,rows.set v ⟨A2,c2,row.l++[(r:Int)]⟩),⟨?_,rfl,rfl,rfl,rfl,rfl,trivial⟩,?_,⟨by simp only;omega,by simp only[List.length_set];omega,fun u q hu=>?_⟩,by simp only;omega⟩
  ·show some (Value.int .i64 (IntKind.i64.wrap ((k:Int)+1)))=_
   rw[bU (by omega)];rfl
  ·simp only[List.map_set]
   refine aK.trans (aK.sub (List.sublist_cons_self _ _)) (aK.back (A:=[_,_,_,_,_,_]) (by rw[List.length_map];exact hvn))
  ·simp only at hu ⊢
   rw[htk,qV,List.map_append]
   by_cases huv:v=u
   ·subst huv
    rw[List.getElem?_set_self hvn] at hu
    simp only[Option.some.injEq] at hu
    rw[← hu,if_pos hv,hrl'];rfl
   ·rw[List.getElem?_set_ne huv] at hu
    rw[if_neg (fun e=>huv (hv.symm.trans e)),List.map_nil,List.append_nil]
    exact htr u q hu
 ·obtain rfl:k=ls.length:=by omega
  rw[List.take_length] at htr
  refine bA (aK.nils 3 (n+1)) ?_
  rw[List.append_assoc,← List.map_append]
  obtain⟨R,hR2⟩:∃ R,R=(rows++List.replicate (n+1) dg).map (bH 3):=⟨_,rfl⟩
  rw[← hR2]
  refine ad (aa ?_)
  refine ak (gs:=[999]) rfl ?_
  refine bK rfl rfl rfl rfl rfl rfl rfl (fun _=>rfl) fun g2=>?_
  refine ak (gs:=[999]) rfl ?_
  refine ab [] (v:=.int .i64 N.nodes) (af 4 rfl rfl rfl rfl) rfl ?_
  refine ak (gs:=[999]) rfl ?_
  refine aw 66 (v':=.int .i64 ((n+1:Nat):Int)) rfl (congrArg (Value.int .i64) ((bU (n:=N.nodes+1) (by omega)).trans (by omega))) ?_
  refine ax [] (x3 4611686018427387904 g2 1 (n+1) (by omega) (by omega)) rfl rfl rfl rfl (by kernel_rfl) ⟨⟨0,_,by simp,rfl,aL _ _ _ (0,0),.inr rfl⟩,trivial⟩ (fun _=>rfl) ?_
  rintro _ H' ⟨g3,rfl,rfl⟩
  refine⟨rfl,?_⟩
  refine ax [] (xp 4611686018427387904 (by decide) (n+1) (by omega) (by omega) g3 (n+1)) rfl rfl rfl rfl (by kernel_rfl) ⟨⟨0,_,by simp,rfl,bX,.inr rfl⟩,trivial⟩ (fun _=>rfl) ?_
  rintro _ H' ⟨pt,ps,gn,go,co,cap,rfl,rfl⟩
  refine⟨rfl,?_⟩
  refine ak (gs:=[999]) rfl ?_
  refine ak (gs:=[999]) rfl ?_
  refine ak (gs:=[999]) rfl ?_
  refine ak (gs:=[999]) rfl ?_
  refine ak (gs:=[999]) rfl ?_
  refine aX 6 rfl rfl rfl rfl rfl [] rfl ?_
  refine ai ?_
  refine ad (aa (ae [] rfl ?_))
  refine bA (aK.re (A:=hO pt ps go gn co cap (n+1) ⟨fun _=>gZ 4611686018427387904,fun _=>none,0⟩++[.own (.slice (some ⟨g3,0,none⟩) (n+1) (n+1)) 2 1 (n+1) (ap (List.replicate (n+1) 4611686018427387904)),blk g2 2 [.int .i64 4611686018427387904],blk pe 323 (pX N A c Ar cr least n gl gu (.pointer (some ⟨pt,0,none⟩)) ls.length 0),
   .own (.slice (some ⟨gl,0,none⟩) (n+1) (n+1)) 23 1 (n+1) (rows.map cH),.own (.slice (some ⟨gu,0,none⟩) (n+1) (n+1)) 23 1 (n+1) ((List.replicate (n+1) dg).map cH),blk p 27 (bG N A c),.seg b o (arcs N.arcs),.seg bb ob (bL ls)]) (R:=R) [0,1,2,3,6,7,8] rfl (by decide)) ?_
  exact aB ⟨_,rfl,pe,gl,gu,pt,ps,gn,go,co,cap,rows,rfl,hrows,htr,by rw[hR2];rfl⟩
end Go.Proofs.YtpbmihpjgjbndaaGreatDoor
