/- The engine: a range over a function whose own cell, a number, changes from round to round. -/
import Derived.Test.YtpbmihpjgjbndaaGreatDoorQD
set_option linter.unusedVariables false
set_option linter.unusedSimpArgs false
namespace Go.Proofs.YtpbmihpjgjbndaaGreatDoor
open Go.RowKit
def vI (gf:FuncId) (lb:List Value) (p ty:Nat) (n0:Int) (nr:Nat) (x:Nat→List Value):Prop:=
 ∀ (l:Nat) (J:Nat→Int→World→Prop) (W:World),(∀ k a W,J k a W→(blk p ty [.int .i64 a]).holds W)→
   (∀ k a b W W',J k a W→ci W [p] W' [blk p ty [.int .i64 b]]→J k b W')→
   (∀ k a W,k<nr→J k a W→YieldAt Fence.wide 0 Tryz.prog l (x k).toArray W fun e W'=>e=.returned (.bool true)∧J (k+1) a W')→
   J 0 n0 W→Calls Tryz.prog gf (#[.func (.yield l) #[] #[]]++lb.toArray) W fun e W'=>(∃ v,e=.returned v)∧∃ a,J nr a W'
section
variable {w0:World} {M:List Nat} {n:Nat} {E:Env} {R:Exit→Act→World→Prop}
theorem wv {σ:Type} {g:Operand} {ps:List Nat} {assign body:Code} {gf:FuncId} {lb:List Value} {p ty:Nat} {n0:Int} {nr:Nat} {x:Nat→List Value} (Hk:σ→Heap) (Inv:Nat→σ→Prop) (s0:σ) (hg:val E g=some (.func (.func gf) #[] lb.toArray)) (hc:dX gf=true)
 (hit:vI gf lb p ty n0 nr x) (hps:∀ k,k<nr→(x k).length=ps.length) (hpn:(ps.all fun p=>Nat.blt p n)=true) (h0:Inv 0 s0)
 (hbody:∀ r D k (s:σ) (y:Int) (rdy bsy:Obj),k<nr→Inv k s→JR ⟨w0,M,⟨n,[]⟩⟩ r assign (fun E1 H1=>H1=(.obj r rdy::.obj D mD::blk p ty [.int .i64 y]::Hk s)∧
  JR ⟨w0,M,⟨n,[]⟩⟩ r body (fun _ H2=>∃ (s':σ),Inv (k+1) s'∧aL ⟨w0,M,⟨n,[]⟩⟩ H2 (.obj r bsy::.obj D mD::blk p ty [.int .i64 y]::Hk s')) E1 (.obj r bsy::.obj D mD::blk p ty [.int .i64 y]::Hk s)) (od ps (x k) E) (.obj r rdy::.obj D mD::blk p ty [.int .i64 y]::Hk s))
 (hrest:∀ D a w (s:σ) (y:Int),Inv nr s→d6 ⟨n,[lM D]⟩ a E→ci w0 M w (.obj D mD::blk p ty [.int .i64 y]::Hk s)→R .normal a w):W ⟨w0,M,⟨n,[]⟩⟩ (.rangeFunc g ps.toArray assign body) R E (blk p ty [.int .i64 n0]::Hk s0):=by
 intro a w hA hH
 refine (wpIn_wide (n:=0)).1 (wpIn_rangeFunc ?_)
 intro fn _
 obtain⟨rec,hrec⟩:∃ rec:LoopState→Option Code→Loop,rec=fun st pe=>{ state:=st,pending:=pe,fn,tmps:=a.tmps,params:=ps.toArray,assign,body,defers:=w.heap.size }:=⟨_,rfl⟩
 obtain⟨W1,hW1⟩:∃ W1,(w.alloc (.deferred (some []))).alloc (.loop (rec .ready none))=W1:=⟨_,rfl⟩
 have hH1:ci w0 M W1 (.obj (w.heap.size+1) (.loop (rec .ready none))::.obj w.heap.size mD::blk p ty [.int .i64 n0]::Hk s0):=by
  have:=(hH.alloc mD).alloc (.loop (rec .ready none))
  rw[World.size_alloc] at this
  rw[← hW1];exact this
 have hev:a.eval g=.func (.func gf) #[] lb.toArray:=hA.val hg
 refine⟨w.heap.size+1,[lM w.heap.size],W1,{ target:=.fn (.func gf) lb.toArray,args:=#[.func (.yield (w.heap.size+1)) #[] #[]] },W1,gf,#[.func (.yield (w.heap.size+1)) #[] #[]]++lb.toArray,W1,?_,?_,fun _ _=>trivial,?_,fun hd=>(by simp[Fence.wide] at hd),?_⟩
 ·rw[← hW1,hrec];exact run_enterLoop_outer _ _ _ _ _
 ·simp only[resolve,hev]
  simp[go_sem]
 ·simp[invoke,eA hc]
 ·refine (callsIn_wide.2 (hit (w.heap.size+1) (fun k y W=>∃ s,Inv k s∧ci w0 M W (.obj (w.heap.size+1) (.loop (rec .ready none))::.obj w.heap.size mD::blk p ty [.int .i64 y]::Hk s)) W1 (fun k y W h=>h.elim fun s h=>h.2.holds (blk p ty [.int .i64 y]) (by simp)) ?_ ?_ ⟨s0,h0,hH1⟩)).mono ?_
  ·rintro k y z W W' ⟨s,hs,h⟩ h'
   refine⟨s,hs,?_⟩
   exact h.step (d:=blk p ty [.int .i64 z]) 2 rfl h'.os h'.tape h'.output h'.size (fun q hq hm=>h'.keep q hq (fun e=>hm (by rw[List.mem_singleton.1 e];rfl))) (h'.holds _ (by simp)) (fun b hb=>.inl hb)
  ·rintro k y W hk ⟨s,hs,h⟩
   have hl:W.heap[w.heap.size+1]?=some (.loop (rec .ready none)):=h.holds (.obj _ _) (by simp)
   have hy:=run_yield (P:=Tryz.prog) (args:=(x k).toArray) hl (by rw[hrec];simp[hps k hk])
   rw[hrec] at hy
   refine⟨fn,_,assign,body,hy,roundIn_of_wpIn trivial ?_⟩
   have hA1:d6 ⟨n,[]⟩ { tmps:=((ps.toArray.zip (x k).toArray).foldl (fun t (p,v)=>t.setIfInBounds p v) a.tmps),defers:=[] } (od ps (x k) E):=by
    have:=d6.bind ps (x k) a.tmps E hpn ⟨hA.size,rfl,hA.get⟩
    have e:(ps.toArray.zip (x k).toArray).foldl (fun t (p,v)=>t.setIfInBounds p v) a.tmps=(ps.zip (x k)).foldl (fun t (p,v)=>t.setIfInBounds p v) a.tmps:=by
     rw[← Array.foldl_toList];simp
    rw[e];exact this
   refine wpIn_mono (hbody (w.heap.size+1) w.heap.size k s y (.loop (rec .ready none)) (.loop { rec .ready none with state:=.busy }) hk hs _ W hA1 h) ?_
   rintro e a1 W2 ⟨E1,H1,hA2,hH2,hq⟩
   cases e with
   |normal=>
    obtain⟨rfl,hb⟩:=hq
    have hl2:W2.heap[w.heap.size+1]?=some (.loop (rec .ready none)):=hH2.holds (.obj _ _) (by simp)
    refine⟨_,run_beginRound hl2 (by rw[hrec]),?_⟩
    refine wpIn_mono (hb a1 _ hA2 hH2.turn) ?_
    rintro e a3 W3 ⟨E3,H3,hA3,hH3,hq3⟩
    cases e with
    |normal=>
     obtain⟨s',hs',hfit⟩:=hq3
     have h3:=hfit W3 hH3
     have hl3:W3.heap[w.heap.size+1]?=some (.loop { rec .ready none with state:=.busy }):=h3.holds (.obj _ _) (by simp)
     refine⟨_,_,run_endRound none hl3,rfl,?_⟩
     have:=h3.turn (o':=.loop (rec .ready none))
     rw[hrec] at this ⊢
     exact⟨s',hs',this⟩
    |_=>exact hq3.elim
   |_=>exact hq.elim
  ·rintro e W2 ⟨⟨v,rfl⟩,y,s,hs,h⟩
   have hl:W2.heap[w.heap.size+1]?=some (.loop (rec .ready none)):=h.holds (.obj _ _) (by simp)
   refine⟨none,_,by have:=run_endLoop (P:=Tryz.prog) hl (by rw[hrec];simp);rw[hrec] at this;exact this,?_⟩
   have h3:=h.turn (o':=.loop (rec .exhausted none))
   rw[hrec] at h3
   exact hrest w.heap.size _ _ s y hs ⟨hA.size,by show [_]++a.defers=_;rw[hA.defers];rfl,hA.get⟩ h3.tail
end
section
variable {G:Nat→World→Prop} {n:Nat} {S:Heap} {E:Env} {k:Nat} {M:List Nat} {R:Exit→Act→World→Prop}
theorem uP {c:Code} {Q:dr} (hS:∀ W,G k W→ci W M W S) (h:∀ w,J ⟨w,M,⟨n,[]⟩⟩ c Q E S)
 (hq:∀ e E' a w',d6 ⟨n,[]⟩ a E'→(∃ w H',G k w∧ci w M w' H'∧Q e E' H')→R e a w'):WG G n c R E k:=by
 intro a w hA hJ
 refine wp_mono (h w a w hA (hS w hJ)) ?_
 rintro e a' w' ⟨E',H',hA',hH',hq'⟩
 exact hq e E' a' w' hA' ⟨w,H',hJ,hH',hq'⟩
theorem wx {w:World} {p ty:Nat} {vs:List Value} (h:(blk p ty vs).holds w):ci w [p] w [blk p ty vs]:=
 ⟨rfl,rfl,rfl,Nat.le_refl _,fun _ _ _=>rfl,fun c hc=>(List.mem_singleton.1 hc)▸h,fun c hc b hb=>.inr (by rw[List.mem_singleton.1 hc] at hb;simp[aQ.mine] at hb;simp[hb]),List.pairwise_singleton _ _⟩
end
end Go.Proofs.YtpbmihpjgjbndaaGreatDoor
