/- The engine and the words that all chapters share: several texts in one. -/
import Derived.Test.YtpbmihpjgjbndaaGreatQX15
import Derived.Test.YtpbmihpjgjbndaaGreatQX17
import Derived.Test.YtpbmihpjgjbndaaGreatQX20
import Derived.Test.YtpbmihpjgjbndaaGreatQF
/- The references' words: a flow that blocks, each walk looked for anew. -/
set_option linter.unusedVariables false
set_option linter.unusedSimpArgs false
namespace Go.Proofs.YtpbmihpjgjbndaaGreat
open Go.RowKit
def v5 (N:bt) (f:List Int) (least:Int) (v:Value) (H':Heap):Prop:=
 (dM N f least=0∧∃ (f':List Int) (ws:List (List Nat×Int)) (Ao:Option Addr) (co:Nat) (Ak:Option Addr) (ck:Nat),gi N least f ws f'∧
  v=.tuple #[.slice Ao f.length co,.slice Ak ws.length ck,.int .i64 0]∧H'=[.own (.slice Ao f.length co) 2 1 f.length (aw f')])∨
 (dM N f least≠0∧v=.tuple #[.slice none 0 0,.slice none 0 0,.int .i64 (dM N f least)]∧H'=[])
theorem oI {l:List Nat} {A B:Option Addr} (h:bs l≠[]→A=B) (hl:l≠[]):A=B:=h fun h0=>hl (by
 have h5:(bs l).length=0:=by rw[h0];rfl
 unfold bs at h5
 rw[bh,List.length_map] at h5
 exact List.length_eq_zero_iff.1 h5)
theorem dh {l:List Int} {A B:Option Addr} (h:aw l≠[]→A=B) (hl:l≠[]):A=B:=h fun h0=>hl (by
 have h5:(aw l).length=0:=by rw[h0];rfl
 rw[bh] at h5
 exact List.length_eq_zero_iff.1 h5)
structure KS where
 g:List Int
 acc:List (List Nat×Int)
 Ao:Option Addr
 co:Nat
 Ak:Option Addr
 ck:Nat
 xs:List Value
set_option maxHeartbeats 4000000 in
theorem sm (N:bt) (hN:N.Fits) (A:Option Addr) (c b o:Nat) (hA:N.arcs≠[]→A=some ⟨b,o,none⟩) (f:List Int) (F:Option Addr) (cf bf of:Nat) (hF:f≠[]→F=some ⟨bf,of,none⟩) (hf:∀ x∈f,dw x) (hfl:f.length*8≤140737488351232) (least:Int):
 Fn 64 [bi N A c,.slice F f.length cf,.int .i64 least] [] [.seg b o (arcs N.arcs),.seg bf of (aw f)] (v5 N f least):=by
 refine aM Tryz.func64 rfl rfl fun w0=>?_
 refine ae (aa ?_)
 refine a6 (cs:=bJ N A c) rfl rfl rfl (fun _=>rfl) fun p=>?_
 refine af [] rfl ?_
 refine ae (aa ?_)
 refine ab [] (v:=bi N A c) (ad 0 rfl rfl rfl rfl) rfl ?_
 refine ah [] rfl ?_
 refine ax [] (sU N hN A c b o hA f F cf bf of hF hf hfl least) rfl rfl rfl rfl (by kernel_rfl) ⟨⟨1,_,by simp,rfl,ak _ _ _,ap⟩,⟨2,_,by simp,rfl,ak _ _ _,ap⟩,trivial⟩ (fun _=>rfl) ?_
 rintro v H' (⟨he0,lv,Al,cl,hlv,rfl,rfl⟩|⟨he,rfl,rfl⟩)
 case inr=>
  refine⟨rfl,?_⟩
  refine af [] rfl ?_
  refine ae (ae (aa (af [] rfl ?_)))
  refine aC rfl (fun h=>?_) (fun h=>absurd he h)
  refine ae (aa (af [] rfl ?_))
  exact aE [] (by decide) rfl (aB ⟨_,rfl,.inr ⟨he,rfl,rfl⟩⟩)
 obtain⟨hR,hW,hle⟩:=dB.1 he0
 have hnn:=hR.nodes
 have hsr:=hR.src
 have hsk:=hR.snk
 have hdf:=hR.diff
 have hl2:=hR.len
 have hfl2:=hW.len
 refine⟨rfl,?_⟩
 have hG:=eJ hlv
 have hll:=eA N (aK (N.arcs.zip f)) least lv (2*N.arcs.length)
 have hlm:∀ r∈bo N (aK (N.arcs.zip f)) least lv (2*N.arcs.length),r<2*N.arcs.length∧bT lv (cH N r)=bT lv (bU N r)+1:=fun r hr=>⟨(dm.1 hr).1,(dm.1 hr).2.2.2⟩
 have hsort:(bo N (aK (N.arcs.zip f)) least lv (2*N.arcs.length)).Pairwise (·<·):=List.pairwise_lt_range.filter _
 have hbl:∀ (g:List Int) (ws:List (List Nat×Int)),aT N g→TR N (cP N (bo N (aK (N.arcs.zip f)) least lv (2*N.arcs.length))) least (aK (N.arcs.zip f)) ws (aK (N.arcs.zip g))→gi N least f ws g:=fun g ws hg hT=>⟨lv,hlv,hg,hT.bl hR hG hle hW rfl PI.start⟩
 obtain⟨ls,hls⟩:∃ ls,ls=bo N (aK (N.arcs.zip f)) least lv (2*N.arcs.length):=⟨_,rfl⟩
 rw[← hls] at hG hll hlm hsort hbl ⊢
 show JL _ _ _ _ _ ([.own (.slice Al ls.length cl) 3 1 ls.length (bs ls)]++_)
 refine af [] rfl ?_
 refine ae (ae (aa (af [] rfl ?_)))
 refine aC rfl (fun h=>absurd rfl h) (fun _=>aq ?_)
 refine ae (aa ?_)
 refine b8 rfl rfl rfl rfl rfl rfl rfl (fun _=>rfl) fun gx=>?_
 refine b6 (fun w h=>h.blkOwn (sz:=1) (n:=0) rfl (by decide)) ?_
 refine ao (gs:=[999]) rfl ?_
 refine a9 (n:=0) (m:=f.length) (off:=of) (news:=aw f) 0 4 rfl rfl rfl rfl rfl rfl (by decide) rfl rfl (ak _ _ _) (fun hne=>hF (by rintro rfl;exact hne rfl)) (by rw[bh];simp) (fK _) (by omega) (by omega) (fun _ _=>rfl) fun A3 c3=>?_
 refine af [] rfl ?_
 rw[show ([]:List Value)++aw f=aw f from rfl,Nat.zero_add]
 refine ae (aa (af [] rfl ?_))
 refine au ?_
 refine bO 148 2 ?_
 refine bM (σ:=KS) (fun s=>[(11,.slice s.Ao f.length s.co),(12,.slice s.Ak s.acc.length s.ck),(9,.slice Al ls.length cl),(2,.int .i64 least),(3,.pointer (some ⟨p,0,none⟩))])
  (fun s=>[.own (.slice s.Ao f.length s.co) 2 1 f.length (aw s.g),.own (.slice s.Ak s.acc.length s.ck) 148 2 s.acc.length s.xs,.own (.slice Al ls.length cl) 3 1 ls.length (bs ls),blk p 50 (bJ N A c),.seg b o (arcs N.arcs)])
  (fun s=>aT N s.g∧s.acc.length+jy ls least (aK (N.arcs.zip s.g))≤ls.length∧∀ ws rm',TR N (cP N ls) least (aK (N.arcs.zip s.g)) ws rm'→TR N (cP N ls) least (aK (N.arcs.zip f)) (s.acc++ws) rm') (fun s=>jy ls least (aK (N.arcs.zip s.g))) ⟨f,[],A3,c3,none,0,[]⟩ ⟨rfl,rfl,rfl,rfl,rfl,trivial⟩ (aH.picks [1,0,2,3,4] (by decide) rfl) ⟨hW,by simp only[List.length_nil,Nat.zero_add];exact List.length_filter_le _ _,fun _ _ h=>h⟩ ?_
 rintro⟨g,acc,Ao,co,Ak,ck,xs⟩ ⟨hg,hacc,hTR⟩
 simp only at hg hacc hTR ⊢
 have hgl:=hg.len
 have hgin:=aT.inB hR hg.toRanged
 refine bG (bp 0 rfl) fun ⟨_,_,hAo,hlo⟩=>?_
 obtain⟨go,hAo⟩:=bQ hAo hlo
 have hAo':g≠[]→Ao=some ⟨go,0,none⟩:=dh hAo
 refine bG (bp 2 rfl) fun ⟨_,_,hAl,hla⟩=>?_
 obtain⟨gl,hAl⟩:=bQ hAl hla
 have hAl':ls≠[]→Al=some ⟨gl,0,none⟩:=oI hAl
 refine au ?_
 have TN:=uD N hN hR A c b o hA g hg Ao co go 0 hAo' ls (fun r hr=>(hlm r hr).1) hsort (by omega) Al cl gl 0 hAl' least (bT lv) (fun r hr=>(hlm r hr).2) hlv.rng
 rw[show g.length=f.length by omega] at TN
 refine ae (aa ?_)
 refine ab [] (v:=bi N A c) (ad 3 rfl rfl rfl rfl) rfl ?_
 refine ah [] rfl ?_
 refine ax [] TN rfl rfl rfl rfl (by kernel_rfl) ⟨⟨4,_,by simp,rfl,ak _ _ _,ap⟩,⟨0,_,by simp,rfl,aS hAo,aZ hAo⟩,⟨2,_,by simp,rfl,aS hAl,aZ hAl⟩,trivial⟩ (fun _=>rfl) ?_
 rintro v H' (⟨pos,W,Aw,cw,hPI,hend,hT,hWm,rfl,rfl⟩|⟨pos,hPI,hdead,rfl,rfl⟩)
 case inr=>
  refine⟨rfl,?_⟩
  refine af [] rfl ?_
  refine ae (ae (aa (af [] rfl ?_)))
  refine bz rfl ?_
  refine ae (aa (af [] rfl ?_))
  refine bN (K:=[.own (.slice Ao f.length co) 2 1 f.length (aw g)]) (aH.picks [0] (by decide) rfl) ?_
  have h9:=hTR [] _ (.stop hPI hdead)
  rw[List.append_nil] at h9
  exact aE [0] (by decide) rfl (aB ⟨_,rfl,.inl ⟨he0,g,acc,Ao,co,Ak,ck,hbl g acc hg h9,rfl,rfl⟩⟩)
 refine⟨rfl,?_⟩
 obtain⟨rm,hrm⟩:∃ rm,rm=aK (N.arcs.zip g):=⟨_,rfl⟩
 rw[← hrm] at hPI hWm hacc hTR
 have hrl:rm.length=2*N.arcs.length:=by rw[hrm,b7,List.length_zip,hg.len,Nat.min_self]
 obtain⟨k1,k2,k3,k4,k5,k6,_,_,k9,r0,v0,k10,k11,k12⟩:=e9 hR hG hle hg hrm hPI hend
 have hbnd:∀ r,0≤rm.getD r 0∧rm.getD r 0≤4611686018427387903:=fun r=>by rw[hrm];exact dX hR hg.toRanged r
 obtain⟨am,ham⟩:∃ am,am=ci rm W:=⟨_,rfl⟩
 have hamb:dw am:=by
  obtain⟨r,hr,he⟩:=ic (rm:=rm) k1
  have:=hbnd r
  unfold dw;rw[ham,he];omega
 obtain⟨p1,p2,p3⟩:=kV hR hg k2 k3 hT (a:=am) (by omega) (fun r hr=>by rw[ham,hrm];exact g9 r hr)
 rw[← hrm] at p2
 have hdi:W.Pairwise fun r q=>r/2≠q/2:=by
  rw[List.pairwise_iff_getElem]
  intro i j hi hj hij he
  have h1:=k4 W[i] (List.getElem_mem hi) W[j] (List.getElem_mem hj)
  have h2:W[i]≠W[j]:=fun h3=>by
   have:=List.pairwise_iff_getElem.1 k3 i j hi hj hij
   exact this h3
  unfold bF at h1
  split at h1<;>omega
 have hcnt:=lP (least:=least) (rm:=rm) (rm':=bZ (ci rm W) W rm) (ls:=ls) (fun r hr=>k9 (bU N r) r (dU.2 ⟨hr,rfl⟩)) r0 (dU.1 k10).1 k11 k12
 refine af [] rfl ?_
 refine ae (ae (aa (af [] rfl ?_)))
 refine bP rfl ?_
 refine aq (ae ?_)
 refine bG (bp 0 rfl) fun ⟨_,_,hAw,hlw⟩=>?_
 obtain⟨gw,hAw⟩:=bQ hAw hlw
 have hpos:0<W.length:=List.length_pos_iff.2 k1
 obtain rfl:=oI hAw k1
 have TRm:=iZ N hN A c b o hA g Ao co go 0 hAo' hgin (by omega)
 rw[show g.length=f.length by omega] at TRm
 refine aa ?_
 refine ab [] (v:=bi N A c) (ad 4 rfl rfl rfl rfl) rfl ?_
 refine ah [] rfl ?_
 refine ax [] TRm rfl rfl rfl rfl (by kernel_rfl) ⟨⟨5,_,by simp,rfl,ak _ _ _,ap⟩,⟨1,_,by simp,rfl,aS hAo,aZ hAo⟩,trivial⟩ (fun _=>rfl) ?_
 rintro v H' (⟨_,_,A1,c1,rfl,rfl⟩|⟨hw,rfl,rfl⟩)
 case inr=>exact absurd (dH.2 ⟨hR,hg⟩) hw
 refine⟨rfl,?_⟩
 refine af [] rfl ?_
 rw[← hrm]
 obtain⟨r1,hr1⟩:∃ r1,W[0]?=some r1:=⟨W[0],List.getElem?_eq_getElem hpos⟩
 have hhd:W.headD 0=r1:=by
  cases W with
  |nil=>exact absurd rfl k1
  |cons q W=>simpa using hr1
 have hr1l:=k2 r1 (List.mem_of_getElem? hr1)
 have hget:∀ r,r<2*N.arcs.length→rm[r]?=some (rm.getD r 0):=fun r hr=>by rw[List.getD_eq_getElem?_getD,List.getElem?_eq_getElem (by omega)];rfl
 have hnat:∀ {i r:Nat},W[i]?=some r→eq 3 (bs W) i=some (.int .i64 (r:Int)):=fun {i r} h=>cR (l:=W.map fun (i:Nat)=>(i:Int)) (by rw[List.getElem?_map,h];rfl)
 refine bG (bp 0 rfl) fun ⟨_,_,hA1,hl1⟩=>?_
 obtain⟨gr,hA1⟩:=bQ hA1 hl1
 obtain rfl:=dh hA1 (by rintro rfl;simp at hrl;omega)
 refine ae (aa (ah [] rfl ?_))
 refine ab [] (aI (m:=0) rfl rfl rfl rfl rfl hpos) rfl ?_
 refine ab [] (aF 1 rfl rfl rfl (hnat hr1)) rfl ?_
 refine ab [] (aI rfl rfl rfl rfl rfl hr1l) rfl ?_
 refine ab [] (aF 0 rfl rfl rfl (bn (hget r1 hr1l))) rfl ?_
 refine af [] rfl ?_
 refine aV 17 (v':=.int .i64 (rm.getD (W.headD 0) 0)) rfl (by rw[hhd]) ?_
 refine ae (ae (aa (af [] rfl ?_)))
 refine au ?_
 refine bM (σ:=Nat) (fun i=>[(18,.int .i64 (i:Int)),(17,.int .i64 ((W.take i).foldl (fun m q=>if rm.getD q 0<m then rm.getD q 0 else m) (rm.getD (W.headD 0) 0))),(15,.slice (some ⟨gr,0,none⟩) (2*N.arcs.length) c1),(13,.slice (some ⟨gw,0,none⟩) W.length cw),(11,.slice Ao f.length co),(12,.slice Ak acc.length ck),(9,.slice Al ls.length cl),(2,.int .i64 least),(3,.pointer (some ⟨p,0,none⟩))])
  (fun _=>[.own (.slice (some ⟨gr,0,none⟩) (2*N.arcs.length) c1) 2 1 (2*N.arcs.length) (aw rm),.own (.slice (some ⟨gw,0,none⟩) W.length cw) 3 1 W.length (bs W),.own (.slice Ao f.length co) 2 1 f.length (aw g),.own (.slice Ak acc.length ck) 148 2 acc.length xs,.own (.slice Al ls.length cl) 3 1 ls.length (bs ls),blk p 50 (bJ N A c),.seg b o (arcs N.arcs)])
  (fun i=>i≤W.length) (fun i=>W.length-i) 0 ⟨rfl,rfl,rfl,rfl,rfl,rfl,rfl,rfl,rfl,trivial⟩ aH.refl (Nat.zero_le _) ?_
 intro i hi
 refine ae (ae (aa (af [] rfl ?_)))
 refine aC rfl (fun hlt=>aq ?_) (fun hge=>aO ?_)
 ·have hil:i<W.length:=by omega
  obtain⟨r,hr⟩:∃ r,W[i]?=some r:=⟨W[i],List.getElem?_eq_getElem hil⟩
  have hrl2:=k2 r (List.mem_of_getElem? hr)
  refine ae (au ?_)
  refine aa (ah [] rfl ?_)
  refine ab [] (aI rfl rfl rfl rfl rfl hil) rfl ?_
  refine ab [] (aF 1 rfl rfl rfl (hnat hr)) rfl ?_
  refine ab [] (aI rfl rfl rfl rfl rfl hrl2) rfl ?_
  refine ab [] (aF 0 rfl rfl rfl (bn (hget r hrl2))) rfl ?_
  refine af [] rfl ?_
  refine aa (af [] rfl ?_)
  refine⟨i+1,⟨congrArg some (congrArg (Value.int .i64) (bK (n:=(i:Int)+1) (by omega))),?_,rfl,rfl,rfl,rfl,rfl,rfl,rfl,trivial⟩,aH.refl,hil,by omega⟩
  rw[List.take_add_one,hr,Option.toList_some,List.foldl_append]
  rfl
 obtain rfl:i=W.length:=by omega
 rw[List.take_of_length_le (Nat.le_refl _)]
 rw[show W.foldl (fun m q=>if rm.getD q 0<m then rm.getD q 0 else m) (rm.getD (W.headD 0) 0)=am from ham.symm]
 have TP:=uq N hN hR A c b o hA g hg Ao co go 0 hAo' W k2 k1 hT hdi (some ⟨gw,0,none⟩) cw gw 0 (fun _=>rfl) (by omega) am (by omega) hamb (fun r hr=>by rw[ham,← hrm];exact g9 r hr)
 rw[show g.length=f.length by omega] at TP
 refine ae (aa ?_)
 refine ab [] (v:=bi N A c) (ad 5 rfl rfl rfl rfl) rfl ?_
 refine ah [] rfl ?_
 refine ax [] TP rfl rfl rfl rfl (by kernel_rfl) ⟨⟨6,_,by simp,rfl,ak _ _ _,ap⟩,⟨2,_,by simp,rfl,aS hAo,aZ hAo⟩,⟨1,_,by simp,rfl,cp,aZ (fun _=>rfl)⟩,trivial⟩ (fun _=>rfl) ?_
 rintro v H' ⟨An,cn,rfl,rfl⟩
 refine⟨rfl,?_⟩
 refine af [] rfl ?_
 refine ae (aa (af [] rfl ?_))
 refine aa (ah [] rfl ?_)
 refine ab [] (v:=.agg #[.slice (some ⟨gw,0,none⟩) W.length cw,.int .i64 am]) (bg rfl rfl rfl rfl rfl rfl) rfl ?_
 refine b8 rfl rfl rfl rfl rfl rfl rfl (fun _=>rfl) fun gy=>?_
 refine a9 (n:=acc.length) (m:=1) (off:=0) (news:=[.slice (some ⟨gw,0,none⟩) W.length cw,.int .i64 am]) 5 0 rfl rfl rfl rfl rfl rfl (by decide) rfl rfl (aR gy _ _ (0,0)) (fun _=>rfl) rfl rfl (by omega) (by omega) (fun _ _=>rfl) fun Az cz=>?_
 refine af [] rfl ?_
 have hq2:acc.length+1=(acc++[(W,am)]).length:=by simp
 rw[hq2]
 rw[← ham] at hcnt
 refine⟨⟨fQ am W g,acc++[(W,am)],An,cn,Az,cz,xs++[.slice (some ⟨gw,0,none⟩) W.length cw,.int .i64 am]⟩,⟨rfl,rfl,rfl,rfl,rfl,trivial⟩,aH.picks [1,5,6,7,8] (by decide) rfl,⟨p1,?_,fun ws rm' h=>?_⟩,?_⟩
 ·simp only
  rw[← hq2,← p2];omega
 ·simp only at h ⊢
  rw[List.append_assoc]
  refine hTR _ _ ?_
  rw[← p2] at h
  have h8:=TR.walk hPI hend (by rw[← ham];exact h)
  rw[← ham] at h8
  exact h8
 ·simp only
  rw[← p2];exact hcnt
end Go.Proofs.YtpbmihpjgjbndaaGreat
/- The references' words: phases. -/
set_option linter.unusedVariables false
set_option linter.unusedSimpArgs false
namespace Go.Proofs.YtpbmihpjgjbndaaGreat
open Go.RowKit
def mb (A:Option Addr) (n c:Nat) (p k:Int):Value:=.agg #[.slice A n c,.int .i64 p,.int .i64 k]
def qN (N:bt) (f:List Int) (least sg:Int) (v:Value) (H':Heap):Prop:=
 (dM N f least=0∧(sg=112∨sg=116)∧∃ (f':List Int) (p k:Nat) (A':Option Addr) (c':Nat),Dn N least f p k f'∧v=.tuple #[mb A' f'.length c' p k,.int .i64 0]∧H'=[.own (.slice A' f'.length c') 2 1 f'.length (aw f')])∨
 (dM N f least=0∧sg≠112∧sg≠116∧v=.tuple #[mb none 0 0 0 0,.int .i64 1]∧H'=[])∨
 (dM N f least≠0∧v=.tuple #[mb none 0 0 0 0,.int .i64 (dM N f least)]∧H'=[])
structure RZ where
 g:List Int
 A:Option Addr
 c:Nat
 p:Nat
 k:Nat
 lv:List Int
set_option maxHeartbeats 2000000 in
theorem uJ (N:bt) (hN:N.Fits) (A:Option Addr) (c b o:Nat) (hA:N.arcs≠[]→A=some ⟨b,o,none⟩) (f:List Int) (F:Option Addr) (cf bf of:Nat) (hF:f≠[]→F=some ⟨bf,of,none⟩) (hf:∀ x∈f,dw x) (hfl:f.length*8≤140737488351232) (least sg:Int):
 Fn 50 [bi N A c,.slice F f.length cf,.int .i64 least,.int .u8 sg] [] [.seg b o (arcs N.arcs),.seg bf of (aw f)] (qN N f least sg):=by
 refine em Tryz.func50 rfl rfl fun w0=>?_
 refine ae (aa ?_)
 refine a6 (cs:=bJ N A c) rfl rfl rfl (fun _=>rfl) fun p4=>?_
 refine aQ rfl rfl rfl (fun _=>rfl) fun p8=>?_
 refine af [] rfl ?_
 refine ae (aa ?_)
 refine ab [] (v:=bi N A c) (ad 1 rfl rfl rfl rfl) rfl ?_
 refine ah [] rfl ?_
 refine ax [] (oF N hN A c b o hA f F cf bf of hF hf hfl least) rfl rfl rfl rfl (by kernel_rfl) ⟨⟨2,_,by simp,rfl,ak _ _ _,ap⟩,⟨3,_,by simp,rfl,ak _ _ _,ap⟩,trivial⟩ (fun _=>rfl) ?_
 rintro v H' (⟨he0,lv,hlv,rfl,rfl⟩|⟨he,rfl,rfl⟩)
 case inr=>
  refine⟨rfl,?_⟩
  refine af [] rfl ?_
  refine ae (ae (aa (af [] rfl ?_)))
  refine aC rfl (fun _=>?_) (fun h=>absurd he h)
  refine ae (aa ?_)
  refine ab [] (v:=mb none 0 0 0 0) (bg rfl rfl rfl rfl rfl rfl) rfl ?_
  refine ah [] rfl ?_
  refine aD 0 rfl rfl rfl rfl rfl [] rfl ?_
  refine af [] rfl ?_
  refine aB ?_
  exact⟨[_,_],[],_,⟨⟨p8,0,_,_,rfl,rfl,rfl⟩,rfl,trivial⟩,by decide,rfl,.inr (.inr ⟨he,rfl,rfl⟩)⟩
 obtain⟨hR,hW,hle⟩:=dB.1 he0
 have hl:=hW.len
 have hl2:=hR.len
 refine⟨rfl,?_⟩
 refine af [] rfl ?_
 refine ae (ae (aa (af [] rfl ?_)))
 refine aC rfl (fun h=>absurd rfl h) (fun _=>aq ?_)
 refine ae ?_
 refine dg [(32,.bool (cU (sg≠112∧sg≠116))),(10,.int .i64 (bT lv N.snk.toNat)),(8,.pointer (some ⟨p8,0,none⟩)),(4,.pointer (some ⟨p4,0,none⟩)),(2,.int .i64 least),(1,.slice F f.length cf)] [blk p8 87 [.slice none 0 0,.int .i64 0,.int .i64 0],blk p4 50 (bJ N A c),.seg b o (arcs N.arcs),.seg bf of (aw f)] ?_ ?_
 ·skip
  refine aa ?_
  refine ao (gs:=[999]) rfl ?_
  refine ao (gs:=[999]) rfl ?_
  refine ao (gs:=[999]) rfl ?_
  by_cases h1:sg≠112
  ·refine av 29 (v':=.bool true) rfl (congrArg Value.bool (az h1)) ?_
   refine af [2] rfl ?_
   exact⟨[0,1,2,3],⟨congrArg some (congrArg Value.bool (db ⟨fun h=>⟨h1,h⟩,fun h=>h.2⟩)),rfl,rfl,rfl,rfl,rfl,trivial⟩,by decide,rfl⟩
  ·refine av 29 (v':=.bool false) rfl (congrArg Value.bool (aA h1)) ?_
   refine af [2] rfl ?_
   exact⟨[0,1,2,3],⟨congrArg some (congrArg Value.bool (aA (fun h=>h1 h.1)).symm),rfl,rfl,rfl,rfl,rfl,trivial⟩,by decide,rfl⟩
 refine aC rfl (fun hbad=>?_) (fun hgood=>aq ?_)
 ·refine ae (aa ?_)
  refine ab [] (v:=mb none 0 0 0 0) (bg rfl rfl rfl rfl rfl rfl) rfl ?_
  refine aD 0 rfl rfl rfl rfl rfl [] rfl ?_
  refine af [] rfl ?_
  refine aB ?_
  exact⟨[_,_],[],_,⟨⟨p8,0,_,_,rfl,rfl,rfl⟩,rfl,trivial⟩,by decide,rfl,.inr (.inl ⟨he0,hbad.1,hbad.2,rfl,rfl⟩)⟩
 have hsg:sg=112∨sg=116:=by omega
 refine ae (aa ?_)
 refine b8 rfl rfl rfl rfl rfl rfl rfl (fun _=>rfl) fun gx=>?_
 refine b6 (fun w h=>h.blkOwn (sz:=1) (n:=0) rfl (by decide)) ?_
 refine ao (gs:=[999]) rfl ?_
 refine a9 (n:=0) (m:=f.length) (off:=of) (news:=aw f) 0 4 rfl rfl rfl rfl rfl rfl (by decide) rfl rfl (ak _ _ _) (fun hne=>hF (by rintro rfl;exact hne rfl)) (by rw[bh];simp) (fK _) (by omega) (by omega) (fun _ _=>rfl) fun A0 c0=>?_
 refine ab [] (bg rfl rfl rfl rfl rfl rfl) rfl ?_
 refine aQ rfl rfl rfl (fun _=>rfl) fun p12=>?_
 refine aD 0 rfl rfl rfl rfl rfl [] rfl ?_
 refine aj ?_
 rw[show ([]:List Value)++aw f=aw f from rfl,Nat.zero_add]
 refine ae (au ?_)
 have hvb:=dC hR hW.toRanged N.snk
 have hsk:=hR.snk
 refine bM (σ:=RZ) (fun s=>[(10,.int .i64 (bT s.lv N.snk.toNat)),(12,.pointer (some ⟨p12,0,none⟩)),(8,.pointer (some ⟨p8,0,none⟩)),(4,.pointer (some ⟨p4,0,none⟩)),(2,.int .i64 least)])
  (fun s=>[blk p12 87 [.slice s.A f.length s.c,.int .i64 (s.p:Int),.int .i64 (s.k:Int)],.own (.slice s.A f.length s.c) 2 1 f.length (aw s.g),blk p8 87 [.slice none 0 0,.int .i64 0,.int .i64 0],blk p4 50 (bJ N A c),.seg b o (arcs N.arcs)])
  (fun s=>aT N s.g∧dx N (aK (N.arcs.zip s.g)) least s.lv∧s.p≤s.k∧ex (N.arcs.zip f) N.snk+s.k≤ex (N.arcs.zip s.g) N.snk∧∀ p k f',Dn N least s.g p k f'→Dn N least f (s.p+p) (s.k+k) f')
  (fun s=>(4611686018427387903-ex (N.arcs.zip s.g) N.snk).toNat) ⟨f,A0,c0,0,0,lv⟩ ⟨rfl,rfl,rfl,rfl,rfl,trivial⟩ (aH.picks [0,1,2,3,4] (by decide) rfl) ⟨hW,hlv,Nat.le_refl _,by simp,fun p k f' h=>by simpa using h⟩ ?_
 rintro⟨g,Ac,cc,p,k,lvc⟩ ⟨hg,hlvc,hpk,hval,hX⟩
 simp only at hg hlvc hpk hval hX ⊢
 have hvc:=dC hR hg.toRanged N.snk
 have hgl:=hg.len
 have hgin:=aT.inB hR hg.toRanged
 refine ae (ae (aa (af [] rfl ?_)))
 refine aC rfl (fun hge=>aq ?_) (fun hlt=>aO ?_)
 ·refine au ?_
  refine bG (bp 1 rfl) fun ⟨_,_,hAc,hlAc⟩=>?_
  obtain⟨gc,hAc⟩:=bQ hAc hlAc
  have TB:=sm N hN A c b o hA g Ac cc gc 0 (dh hAc) hgin (by omega) least
  rw[show g.length=f.length by omega] at TB
  refine ae (aa (ah [] rfl ?_))
  refine ab [] (v:=bi N A c) (ad 3 rfl rfl rfl rfl) rfl ?_
  refine ah [] rfl ?_
  refine ab [] (ad (v:=.slice Ac f.length cc) 0 rfl rfl rfl rfl) rfl ?_
  refine ah [] rfl ?_
  refine ax [] TB rfl rfl rfl rfl (by kernel_rfl) ⟨⟨4,_,by simp,rfl,ak _ _ _,ap⟩,⟨1,_,by simp,rfl,aS hAc,aZ hAc⟩,trivial⟩ (fun _=>rfl) ?_
  rintro v H' (⟨_,f1,ws,Ao,co,Ak,ck,hb,rfl,rfl⟩|⟨he,_,_⟩)
  case inr=>exact absurd (dB.2 ⟨hR,hg,hle⟩) he
  refine⟨rfl,?_⟩
  refine af [] rfl ?_
  obtain⟨hf1,hv1,hw1⟩:=hb.keeps hR hle hg hlvc
  have hwpos:=List.length_pos_iff.2 (hw1 hge)
  have hf1l:=hf1.len
  have hvc1:=dC hR hf1.toRanged N.snk
  have hlw:(ws.length:Int)≤least*ws.length:=by
   have:=Int.mul_le_mul_of_nonneg_right hle (show (0:Int)≤ws.length by omega)
   omega
  have hgf:g.length=f.length:=by omega
  rw[hgf]
  refine ae (aa (ah [] rfl ?_))
  refine aD 1 rfl rfl rfl rfl rfl [] rfl ?_
  refine aj ?_
  refine ae (aa (ah [] rfl ?_))
  refine ab [] (ad (v:=.int .i64 (p:Int)) 1 rfl rfl rfl rfl) rfl ?_
  refine ao (gs:=[999]) rfl ?_
  refine av 53 (v':=.int .i64 ((p+1:Nat):Int)) rfl (congrArg (Value.int .i64) (bK (by omega))) ?_
  refine ah [] rfl ?_
  refine aD 1 rfl rfl rfl rfl rfl [] rfl ?_
  refine aj ?_
  refine ae (aa (ah [] rfl ?_))
  refine ab [] (ad (v:=.int .i64 (k:Int)) 1 rfl rfl rfl rfl) rfl ?_
  refine ao (gs:=[999]) rfl ?_
  refine ao (gs:=[999]) rfl ?_
  refine ao (gs:=[999]) rfl ?_
  refine av 59 (v':=.int .i64 ((k+ws.length:Nat):Int)) rfl (congrArg (Value.int .i64) ((bK (by omega)).trans (by omega))) ?_
  refine ah [] rfl ?_
  refine aD 1 rfl rfl rfl rfl rfl [] rfl ?_
  refine aj ?_
  refine bG (bp 0 rfl) fun ⟨_,_,hAo,hlAo⟩=>?_
  obtain⟨go,hAo⟩:=bQ hAo hlAo
  have TD:=oF N hN A c b o hA f1 Ao co go 0 (dh hAo) (aT.inB hR hf1.toRanged) (by omega) least
  rw[show f1.length=f.length by omega] at TD
  refine aa (ah [] rfl ?_)
  refine ab [] (v:=bi N A c) (ad 4 rfl rfl rfl rfl) rfl ?_
  refine ah [] rfl ?_
  refine ab [] (ad (v:=.slice Ao f.length co) 1 rfl rfl rfl rfl) rfl ?_
  refine ah [] rfl ?_
  refine ax [] TD rfl rfl rfl rfl (by kernel_rfl) ⟨⟨5,_,by simp,rfl,ak _ _ _,ap⟩,⟨0,_,by simp,rfl,aS hAo,aZ hAo⟩,trivial⟩ (fun _=>rfl) ?_
  rintro v H' (⟨_,lv1,hlv1,rfl,rfl⟩|⟨he,_,_⟩)
  case inr=>exact absurd (dB.2 ⟨hR,hf1,hle⟩) he
  refine⟨rfl,?_⟩
  refine af [] rfl ?_
  refine⟨⟨f1,Ao,co,p+1,k+ws.length,lv1⟩,⟨rfl,rfl,rfl,rfl,rfl,trivial⟩,aH.picks [1,0,3,4,5] (by decide) rfl,⟨hf1,hlv1,by simp only;omega,by simp only;omega,fun p' k' f' h=>?_⟩,by simp only;omega⟩
  have:=hX _ _ _ (.step hlvc hge hb h)
  simp only
  rw[show p+1+p'=p+(p'+1) by omega,show k+ws.length+k'=k+(ws.length+k') by omega]
  exact this
 ·have hdn:=hX _ _ _ (.stop hlvc (by omega))
  rw[Nat.add_zero,Nat.add_zero] at hdn
  have hgf:g.length=f.length:=by omega
  refine ae (aa ?_)
  refine ab [] (v:=mb Ac f.length cc p k) (ad 0 rfl rfl rfl rfl) rfl ?_
  refine aD 2 rfl rfl rfl rfl rfl [] rfl ?_
  refine af [] rfl ?_
  refine aB ?_
  refine⟨[_,_],[1],_,⟨⟨p8,2,_,_,rfl,rfl,rfl⟩,rfl,trivial⟩,by decide,rfl,.inl ⟨he0,hsg,g,p,k,Ac,cc,hdn,?_,?_⟩⟩
  ·rw[hgf];rfl
  ·rw[hgf]
end Go.Proofs.YtpbmihpjgjbndaaGreat
/- The references' words: phases from nothing. -/
set_option linter.unusedVariables false
set_option linter.unusedSimpArgs false
namespace Go.Proofs.YtpbmihpjgjbndaaGreat
open Go.RowKit
set_option maxHeartbeats 1000000 in
theorem wd (N:bt) (hN:N.Fits) (hl2:N.arcs.length≤2000) (A:Option Addr) (c b o:Nat) (hA:N.arcs≠[]→A=some ⟨b,o,none⟩) (sg:Int):
 Fn 33 [bi N A c,.int .u8 sg] [] [.seg b o (arcs N.arcs)] (qN N (List.replicate N.arcs.length 0) 1 sg):=by
 refine em Tryz.func33 rfl rfl fun w0=>?_
 refine ae (aa ?_)
 refine a6 (cs:=bJ N A c) rfl rfl rfl (fun _=>rfl) fun p2=>?_
 refine aQ rfl rfl rfl (fun _=>rfl) fun p4=>?_
 refine af [] rfl ?_
 refine ae ?_
 refine bq 9 [(0,true),(1,true),(2,true),(3,true),(5,true),(4,false),(6,false),(7,true),(8,true)] [1,2] (by kernel_rfl) (by decide) rfl ?_
 refine ai [] rfl (ad (v:=bi N A c) 0 rfl rfl rfl rfl) rfl ?_
 refine aJ [] rfl ?_
 (first|refine ai [] rfl (ad 0 rfl rfl rfl rfl) rfl ?_|refine ai [] rfl (ad 1 rfl rfl rfl rfl) rfl ?_|refine ai [] rfl (ad 2 rfl rfl rfl rfl) rfl ?_|refine ai [] rfl (ad 3 rfl rfl rfl rfl) rfl ?_|refine ai [] rfl (ad 4 rfl rfl rfl rfl) rfl ?_|refine ai [] rfl (ad 5 rfl rfl rfl rfl) rfl ?_)
 refine aJ [] rfl ?_
 refine bc rfl ?_
 refine cv (n:=N.arcs.length) (c:=N.arcs.length) rfl rfl rfl rfl rfl rfl (by omega) (by omega) (by omega) (fun _=>rfl) fun g=>?_
 refine aj ⟨⟨[2,3],by decide,rfl⟩,?_⟩
 rw[show made [Value.int .i64 0] (N.arcs.length*1)=aw (List.replicate N.arcs.length 0) by rw[ce,Nat.mul_one];simp[aw]]
 refine bc rfl ?_
 refine ax [] (uJ N hN A c b o hA (List.replicate N.arcs.length 0) (some ⟨g,0,none⟩) N.arcs.length g 0 (fun _=>rfl) (fun x hx=>by rw[List.eq_of_mem_replicate hx];decide) (by rw[List.length_replicate];omega) 1 sg) rfl rfl rfl (by rw[List.length_replicate];rfl) (by kernel_rfl) ⟨⟨3,_,by simp,rfl,ak _ _ _,ap⟩,⟨0,_,by simp,rfl,cp,aZ (fun _=>rfl)⟩,trivial⟩ (fun _=>rfl) ?_
 rintro v H' (⟨he0,hsg,f',p,k,A',c',hd,rfl,rfl⟩|⟨he0,h1,h2,rfl,rfl⟩|⟨he,rfl,rfl⟩)
 ·refine⟨rfl,aj ⟨⟨[3,4],by decide,rfl⟩,?_⟩⟩
  refine cA [] rfl ?_
  refine aD 2 rfl rfl rfl rfl rfl [] rfl ?_
  refine af [] rfl ?_
  refine aB ?_
  exact⟨[_,_],[0],_,⟨⟨p4,2,_,_,rfl,rfl,rfl⟩,rfl,trivial⟩,by decide,rfl,.inl ⟨he0,hsg,f',p,k,A',c',hd,rfl,rfl⟩⟩
 ·refine⟨rfl,aj ⟨⟨[2,3],by decide,rfl⟩,?_⟩⟩
  refine cA [] rfl ?_
  refine aD 1 rfl rfl rfl rfl rfl [] rfl ?_
  refine af [] rfl ?_
  refine aB ?_
  exact⟨[_,_],[],_,⟨⟨p4,1,_,_,rfl,rfl,rfl⟩,rfl,trivial⟩,by decide,rfl,.inr (.inl ⟨he0,h1,h2,rfl,rfl⟩)⟩
 ·refine⟨rfl,aj ⟨⟨[2,3],by decide,rfl⟩,?_⟩⟩
  refine cA [] rfl ?_
  refine aD 1 rfl rfl rfl rfl rfl [] rfl ?_
  refine af [] rfl ?_
  refine aB ?_
  exact⟨[_,_],[],_,⟨⟨p4,1,_,_,rfl,rfl,rfl⟩,rfl,trivial⟩,by decide,rfl,.inr (.inr ⟨he,rfl,rfl⟩)⟩
end Go.Proofs.YtpbmihpjgjbndaaGreat
/- Two rows that are the same. -/
set_option linter.unusedVariables false
set_option linter.unusedSimpArgs false
namespace Go.Proofs.YtpbmihpjgjbndaaGreat
open Go.RowKit
end Go.Proofs.YtpbmihpjgjbndaaGreat
