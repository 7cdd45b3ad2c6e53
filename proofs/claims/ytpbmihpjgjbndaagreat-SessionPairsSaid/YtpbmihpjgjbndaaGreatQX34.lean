/- The engine and the words that all chapters share: several texts in one. -/
import Derived.Test.YtpbmihpjgjbndaaGreatQX12
/- The engine by trees: a linked node is cut off, step by step. -/
set_option linter.unusedVariables false
set_option linter.unusedSimpArgs false
namespace Go.Proofs.YtpbmihpjgjbndaaGreat
open Go.RowKit
theorem pd {g c:Nat} {W:List Nat}:bY 3 ⟨some ⟨g,0,none⟩,c,ga W⟩=jw g W.length c W:=by
 unfold bY cN
 simp only[dj]
 rfl
section
variable {P:EP} {L:Nat→List Nat} {lv:Nat→Int} {gv:Nat→Nat} {rm0 tr:List Int} {pos:List Nat} {par:OV} {val:Nat→Int}
def nu (P:EP) (s:ES) (bE bV v:Nat):Heap:=(P.fo s.fs++[P.sg,P.pc s.k s.w,P.rc s.rm,P.lc s.vals,P.uc s.un,blk bE 181 [.pointer (some ⟨P.pe,0,none⟩)],blk bV 3 [.int .i64 (v:Int)]])++P.rows s.un
theorem vh {X:Cx} {s:ES} {bE bV v:Nat}:aH X (blk bV 3 [.int .i64 (v:Int)]::blk bE 181 [.pointer (some ⟨P.pe,0,none⟩)]::([P.sg]++ep P s)) (nu P s bE bV v):=
 aH.re (A:=[blk bV 3 [.int .i64 (v:Int)],blk bE 181 [.pointer (some ⟨P.pe,0,none⟩)],P.sg]++(P.fo s.fs++[P.pc s.k s.w,P.rc s.rm,P.lc s.vals,P.uc s.un])) (R:=P.rows s.un) [3,4,5,6,2,7,8,9,10,1,0] rfl (by decide)
theorem qK {X:Cx} {s:ES} {bE bV v:Nat}:aH X (nu P s bE bV v) (ep P s++[P.sg,blk bE 181 [.pointer (some ⟨P.pe,0,none⟩)],blk bV 3 [.int .i64 (v:Int)]]):=
 aH.mid (A:=P.fo s.fs++[P.sg,P.pc s.k s.w,P.rc s.rm,P.lc s.vals,P.uc s.un,blk bE 181 [.pointer (some ⟨P.pe,0,none⟩)],blk bV 3 [.int .i64 (v:Int)]]) (R:=P.rows s.un) [0,1,2,3,5,6,7,8] [4,9,10] rfl rfl (by decide)
theorem qk {X:Cx} {s:ES} {bE bV v:Nat}:aH X (ep P s++[P.sg,blk bE 181 [.pointer (some ⟨P.pe,0,none⟩)],blk bV 3 [.int .i64 (v:Int)]]) (nu P s bE bV v):=by
 refine aH.trans (aH.swap (A:=P.fo s.fs++[P.pc s.k s.w,P.rc s.rm,P.lc s.vals,P.uc s.un]) (R:=P.rows s.un) (B:=[P.sg,blk bE 181 [.pointer (some ⟨P.pe,0,none⟩)],blk bV 3 [.int .i64 (v:Int)]])) ?_
 exact aH.re (A:=(P.fo s.fs++[P.pc s.k s.w,P.rc s.rm,P.lc s.vals,P.uc s.un])++[P.sg,blk bE 181 [.pointer (some ⟨P.pe,0,none⟩)],blk bV 3 [.int .i64 (v:Int)]]) (R:=P.rows s.un) [0,1,2,3,8,4,5,6,7,9,10] rfl (by decide)
theorem xZ {A:Heap} {un:List fb} {v:Nat} {rw_:fb} (h:P.rowsL[v]?=some rw_):(A++P.rows un)[A.length+v]?=some (bY 3 rw_):=by
 rw[List.getElem?_append_right (by omega),Nat.add_sub_cancel_left]
 unfold EP.rows
 rw[List.getElem?_map,List.getElem?_append_left (List.getElem?_eq_some_iff.1 h).1,h]
 rfl
theorem oZ {un:List fb} {w:Nat} {x:fb}:(P.rows un).set (P.rowsL.length+w) (bY 3 x)=P.rows (un.set w x):=by
 unfold EP.rows
 rw[← List.map_set,List.set_append_right _ _ (by omega),Nat.add_sub_cancel_left]
theorem tk {A A1:Heap} {un:List fb} {v:Nat} {rw_:fb} (ix:List Nat) (h:Proofs.YtpbmihpjgjbndaaGreat.b9 A ix=some A1) (hr:P.rowsL[v]?=some rw_):Proofs.YtpbmihpjgjbndaaGreat.b9 (A++P.rows un) (ix++[A.length+v])=some (A1++[bY 3 rw_]):=
 jr (fP.2 ⟨_,[],xZ hr,rfl,rfl⟩) (gV h).1
theorem sw {A A1:Heap} {v:Nat} (ix:List Nat) (h:Proofs.YtpbmihpjgjbndaaGreat.b9 A ix=some A1) (hn:ix.Nodup):(ix++[A.length+v]).Nodup:=
 List.nodup_append.2 ⟨hn,by simp,fun x hx y hy=>by have:=(gV (R:=[]) h).2 x hx;rw[List.mem_singleton.1 hy];omega⟩
theorem nG (hP:iF P L lv gv) (s:ES) (hI:gM P L gv rm0 tr pos par val s) {v w q r:Nat} (hv:v≤P.n) (hw:par v=some w) (hq:pos[v]?=some q) (hr:(L v)[q]?=some r) (hto:cH P.N r=w) (hval:val v=tr.getD r 0):
 Fn 132 [.pointer (some ⟨P.pe,0,none⟩),.int .i64 (v:Int)] (aX (ep P s)) ([P.sg]++ep P s)
  fun _ H'=>∃ s',H'=ep P s'∧gM P L gv rm0 tr (pos.set v (q+1)) (a8 par v none) (eP val v (4611686018427387904-val v)) s'∧s'.w=s.w∧s'.cost≤s.cost+2*cX (P.n+1)+12*(P.n+1)+1:=by
 have hN:=hP.small
 have hvN:v<P.n+1:=by omega
 obtain⟨row,hF⟩:=hI.fa
 obtain⟨rw_,c',hrow,hvv,hlc,hql,hrl,hrA,hrlen⟩:=rL hP hI.vo hv hq hr
 have hvl:v<s.vals.length:=(List.getElem?_eq_some_iff.1 hvv).1
 have hrm:=List.mem_of_getElem? hr
 have hr2:=(eO hP hrm).1
 have hte:=d6 hP.right hr2
 rw[hto] at hte
 have hwn:w≤P.n:=by have:=hP.nodes;omega
 obtain⟨Aw,cw,W,hun,hWd,hWm,hWl⟩:=hI.tb.get hwn
 obtain⟨pre,post,rfl⟩:=List.append_of_mem ((hWm v).2 ⟨hv,hw⟩)
 generalize hM:aX _=M
 refine aM Tryz.func132 rfl rfl fun w0=>?_
 refine ae (aa ?_)
 refine a6 rfl rfl rfl (fun _=>rfl) fun bE=>?_
 refine a6 rfl rfl rfl (fun _=>rfl) fun bV=>?_
 refine aj ?_
 refine bN vh ?_
 refine ae ?_
 have hpk:=tk (A:=P.fo s.fs++[P.sg,P.pc s.k s.w,P.rc s.rm,P.lc s.vals,P.uc s.un,blk bE 181 [.pointer (some ⟨P.pe,0,none⟩)],blk bV 3 [.int .i64 (v:Int)]]) (un:=s.un) [4,5,7,9,10] rfl hrow
 have hnd:=sw (A:=P.fo s.fs++[P.sg,P.pc s.k s.w,P.rc s.rm,P.lc s.vals,P.uc s.un,blk bE 181 [.pointer (some ⟨P.pe,0,none⟩)],blk bV 3 [.int .i64 (v:Int)]]) (v:=v) [4,5,7,9,10] rfl (by decide)
 refine bq 19 [(0,true),(1,true),(2,true),(3,true),(4,true),(5,true),(6,true),(7,true),(8,true),(9,true),(10,true),(11,true),(12,true),(13,false),(14,true),(15,true),(16,true),(17,true),(18,true)] _ (by kernel_rfl) hnd hpk ?_
 (repeat' (first
  |refine aL (gs:=[999]) rfl rfl ?_
  |refine ai [999] rfl (ad 1 rfl rfl rfl rfl) rfl ?_
  |refine ai [999] rfl (ad 3 rfl rfl rfl rfl) rfl ?_
  |refine ai [999] rfl (ad 4 rfl rfl rfl rfl) rfl ?_))
 refine ai [999] rfl (aI rfl rfl rfl rfl rfl hvN) rfl ?_
 refine ai [999] rfl (aF 2 rfl rfl rfl hvv) rfl ?_
 refine ai [999] rfl (cW rfl rfl rfl rfl rfl (m:=0) (by omega)) rfl ?_
 refine ai [999] rfl (mK rfl rfl (i:=5) rfl rfl hrA hrl) rfl ?_
 refine bc rfl ?_
 refine ax [] (gg P.N P.A P.c P.b P.o hP.arcs hP.right.len r hr2) rfl rfl rfl rfl (by kernel_rfl) ⟨⟨4,_,by simp[nu],rfl,ak _ _ _,ap⟩,trivial⟩ (fun _=>rfl) ?_
 rintro _ H' ⟨rfl,rfl⟩
 refine⟨rfl,?_⟩
 refine aj ⟨⟨_,hnd,hpk⟩,?_⟩
 (repeat' (first
  |refine aL (gs:=[999]) rfl rfl ?_
  |refine ai [999] rfl (ad 1 rfl rfl rfl rfl) rfl ?_
  |refine ai [999] rfl (ad 3 rfl rfl rfl rfl) rfl ?_
  |refine ai [999] rfl (ad 4 rfl rfl rfl rfl) rfl ?_))
 refine bB ?_
 refine aj ?_
 refine aV 5 (v':=.int .i64 (w:Int)) rfl (congrArg (Value.int .i64) hte.1) ?_
 show J _ _ _ _ (nu P s bE bV v)
 refine ae (aa ?_)
 (repeat' (first
  |refine ao (gs:=[999]) rfl ?_
  |refine ab [999] (ad 5 rfl rfl rfl rfl) rfl ?_
  |refine ab [999] (ad 9 rfl rfl rfl rfl) rfl ?_
  |refine ab [999] (ad 10 rfl rfl rfl rfl) rfl ?_))
 refine ay [] (m7 hP s hI.ta hF hI.vo hv hw hq hr hval) rfl rfl rfl rfl (by kernel_rfl) qK ⟨⟨0,_,by simp,rfl,ak _ _ _,ap⟩,trivial⟩ (fun _=>rfl) ?_
 rintro _ H' ⟨fs',row',rfl,hF',hk'⟩
 refine⟨cT rfl (cJ _ _),?_⟩
 refine b6 qk ?_
 refine aj ?_
 refine ae ?_
 refine fH 15 [0,1,2,3,4,5,6,7,8,9,10,11,12,13] 14 [] (by kernel_rfl) ?_
 (repeat' (first
  |refine f5 (gs:=[999]) rfl rfl ?_
  |refine bS [999] rfl rfl (ad 5 rfl rfl rfl rfl) rfl ?_
  |refine bS [999] rfl rfl (ad 9 rfl rfl rfl rfl) rfl ?_
  |refine bS [999] rfl rfl (ad 10 rfl rfl rfl rfl) rfl ?_))
 refine cB [999] rfl (aI rfl rfl rfl rfl rfl hvN) rfl ?_
 refine bS [999] rfl rfl (aF 7 rfl rfl rfl hvv) rfl ?_
 refine cB [999] rfl (fW (i:=1) rfl rfl rfl rfl rfl (by omega)) rfl ?_
 refine cB [999] rfl (aI rfl rfl rfl rfl rfl hvN) rfl ?_
 refine eW rfl ?_
 refine aG 7 rfl rfl rfl rfl (dO rfl rfl rfl hvl) [] rfl ?_
 refine aj ⟨⟨[],by decide,rfl⟩,?_⟩
 refine bB ?_
 refine aj ?_
 obtain⟨vals',hvals'⟩:∃ x,x=s.vals.set v (.slice (hZ (some ⟨gv v,q,none⟩) c' 1 1) (rw_.l.length-q-1) (c'-1)):=⟨_,rfl⟩
 refine bN (K:=nu P { s with fs:=fs',rm:=s.rm.set r (val v),k:=s.k+1,vals:=vals' } bE bV v) (by rw[hvals'];exact aH.refl) ?_
 have hrl2:=hP.rl
 have hul:=hI.tb.len
 have hwu:w<s.un.length:=by omega
 refine bN (aH.front (A:=P.fo fs'++[P.sg,P.pc (s.k+1) s.w,P.rc (s.rm.set r (val v)),P.lc vals',P.uc s.un,blk bE 181 [.pointer (some ⟨P.pe,0,none⟩)],blk bV 3 [.int .i64 (v:Int)]]) (R:=P.rows s.un) (i:=P.rowsL.length+w) (c:=bY 3 ⟨Aw,cw,ga (pre++v::post)⟩) (by unfold EP.rows;rw[List.getElem?_map,List.getElem?_append_right (by omega),Nat.add_sub_cancel_left,hun];rfl)) ?_
 refine bG (bp 0 rfl) fun ⟨_,hcw,hAw,_⟩=>?_
 obtain⟨gw,rfl⟩:=hAw (by rw[dj];simp;omega)
 rw[pd]
 rw[dj] at hcw
 obtain⟨R,hR⟩:∃ R,R=(P.rows s.un).eraseIdx (P.rowsL.length+w):=⟨_,rfl⟩
 rw[← hR]
 refine bN (K:=(P.fo fs'++[P.sg,P.pc (s.k+1) s.w,P.rc (s.rm.set r (val v)),P.lc vals',P.uc s.un,blk bE 181 [.pointer (some ⟨P.pe,0,none⟩)],blk bV 3 [.int .i64 (v:Int)],jw gw (pre++v::post).length cw (pre++v::post)])++R) (aH.re (A:=jw gw (pre++v::post).length cw (pre++v::post)::(P.fo fs'++[P.sg,P.pc (s.k+1) s.w,P.rc (s.rm.set r (val v)),P.lc vals',P.uc s.un,blk bE 181 [.pointer (some ⟨P.pe,0,none⟩)],blk bV 3 [.int .i64 (v:Int)]])) (R:=R) [1,2,3,4,5,6,7,8,9,10,11,0] rfl (by decide)) ?_
 have hfs:∀ {kk:Nat} {W:List Nat} {X:Cx},aH X ((P.fo fs'++[P.sg,P.pc kk s.w,P.rc (s.rm.set r (val v)),P.lc vals',P.uc s.un,blk bE 181 [.pointer (some ⟨P.pe,0,none⟩)],blk bV 3 [.int .i64 (v:Int)],jw gw W.length cw W])++R)
  ([.seg P.pe 0 ((xw P 0 0).take 9),P.uc s.un,blk bE 181 [.pointer (some ⟨P.pe,0,none⟩)],blk bV 3 [.int .i64 (v:Int)]]++R):=by
  intro kk W X
  refine aH.trans (aH.re (A1:=[P.pc kk s.w,P.uc s.un,blk bE 181 [.pointer (some ⟨P.pe,0,none⟩)],blk bV 3 [.int .i64 (v:Int)]]) [5,8,9,10] rfl (by decide)) ?_
  refine aH.seg (off:=0) 0 rfl fun i v hi=>?_
  rw[Nat.zero_add]
  have hi9:i<9:=by have:=(List.getElem?_eq_some_iff.1 hi).1;simpa [xw] using this
  rw[List.getElem?_take,if_pos hi9] at hi
  rw[← hi]
  match i,hi9 with
  |0,_=>rfl
  |1,_=>rfl
  |2,_=>rfl
  |3,_=>rfl
  |4,_=>rfl
  |5,_=>rfl
  |6,_=>rfl
  |7,_=>rfl
  |8,_=>rfl
 refine wg 15 [(0,true),(1,true),(2,true),(3,true),(4,true),(5,true),(6,true),(7,true),(8,true),(9,true),(10,true),(11,true),(12,true),(13,false),(14,true)] (by kernel_rfl) (hfs (W:=pre++v::post)) ?_
 (repeat' (first
  |refine aL (gs:=[999]) rfl rfl ?_
  |refine ai [999] rfl (aU (i:=7) 0 rfl rfl rfl rfl rfl) rfl ?_
  |refine ai [999] rfl (ad 2 rfl rfl rfl rfl) rfl ?_
  |refine ai [999] rfl (aI rfl rfl rfl rfl rfl (show w<P.n+1 by omega)) rfl ?_))
 have hunv:(s.un.map cN)[w]?=some (.slice (some ⟨gw,0,none⟩) (pre++v::post).length cw):=by
  rw[List.getElem?_map,hun]
  show some (Value.slice _ (ga (pre++v::post)).length _)=_
  rw[dj]
 refine ai [999] rfl (aF 1 rfl rfl rfl hunv) rfl ?_
 refine aL (gs:=[999]) rfl rfl ?_
 refine wb rfl ?_
 have hvp:v∉pre∧v∉post:=by
  obtain⟨_,d2,d3⟩:=List.nodup_append.1 hWd
  exact⟨fun hx=>d3 v hx v (by simp) rfl,(List.nodup_cons.1 d2).1⟩
 refine ay (K:=P.fo fs'++[P.sg,P.rc (s.rm.set r (val v)),P.lc vals',P.uc s.un,blk bE 181 [.pointer (some ⟨P.pe,0,none⟩)],blk bV 3 [.int .i64 (v:Int)]]++R) [999] (sJ P (s.k+1) s.w bE bV v pre post hvp.1 hvp.2 gw (pre++v::post).length cw rfl (by omega) hcw) rfl rfl rfl rfl (by kernel_rfl)
  (aH.re (A:=P.fo fs'++[P.sg,P.pc (s.k+1) s.w,P.rc (s.rm.set r (val v)),P.lc vals',P.uc s.un,blk bE 181 [.pointer (some ⟨P.pe,0,none⟩)],blk bV 3 [.int .i64 (v:Int)],jw gw (pre++v::post).length cw (pre++v::post)]) (R:=R) [5,11,0,1,2,3,4,6,7,8,9,10] rfl (by decide)) ⟨⟨8,_,by simp,rfl,aR _ _ _ (0,0),.inr rfl⟩,⟨9,_,by simp,rfl,aR _ _ _ (0,0),.inr rfl⟩,trivial⟩ (fun _=>rfl) ?_
 rintro _ H' ⟨rfl,rfl⟩
 refine⟨rfl,?_⟩
 obtain⟨k2,hk2⟩:∃ x,x=s.k+1+(pre++v::post).length:=⟨_,rfl⟩
 rw[← hk2]
 refine b6 (K:=(P.fo fs'++[P.sg,P.pc k2 s.w,P.rc (s.rm.set r (val v)),P.lc vals',P.uc s.un,blk bE 181 [.pointer (some ⟨P.pe,0,none⟩)],blk bV 3 [.int .i64 (v:Int)],jw gw (pre.length+post.length) cw (pre++post)])++R)
  (aH.re (A:=[P.pc k2 s.w,jw gw (pre.length+post.length) cw (pre++post)]++(P.fo fs'++[P.sg,P.rc (s.rm.set r (val v)),P.lc vals',P.uc s.un,blk bE 181 [.pointer (some ⟨P.pe,0,none⟩)],blk bV 3 [.int .i64 (v:Int)]])) (R:=R) [2,3,4,5,6,0,7,8,9,10,11,1] rfl (by decide)) ?_
 rw[show pre.length+post.length=(pre++post).length by simp]
 refine aj ⟨hfs (W:=pre++post),?_⟩
 refine ai [999] rfl (aI rfl rfl rfl rfl rfl (show w<P.n+1 by omega)) rfl ?_
 refine bB ?_
 refine aG 8 rfl rfl rfl rfl (dO rfl rfl rfl (by rw[List.length_map];exact hwu)) [] rfl ?_
 obtain⟨un',hun'⟩:∃ x,x=s.un.set w ⟨some ⟨gw,0,none⟩,cw,ga (pre++post)⟩:=⟨_,rfl⟩
 rw[show (s.un.map cN).set w (.slice (some ⟨gw,0,none⟩) (pre++post).length cw)=un'.map cN from by
  rw[hun',List.map_set];unfold cN;simp only[dj]]
 have hfin:∀ {X:Cx},aH X ((P.fo fs'++[P.sg,P.pc k2 s.w,P.rc (s.rm.set r (val v)),P.lc vals',P.uc un',blk bE 181 [.pointer (some ⟨P.pe,0,none⟩)],blk bV 3 [.int .i64 (v:Int)],jw gw (pre++post).length cw (pre++post)])++R)
  (ep P ⟨vals',un',fs',s.rm.set r (val v),k2,s.w⟩):=by
  intro X
  refine aH.trans (aH.re (A1:=jw gw (pre++post).length cw (pre++post)::(P.fo fs'++[P.pc k2 s.w,P.rc (s.rm.set r (val v)),P.lc vals',P.uc un'])) [11,0,1,2,3,5,6,7,8] rfl (by decide)) ?_
  rw[hR,← pd]
  refine aH.trans (aH.back (A:=P.fo fs'++[P.pc k2 s.w,P.rc (s.rm.set r (val v)),P.lc vals',P.uc un']) (by unfold EP.rows;rw[List.length_map,List.length_append];omega)) ?_
  rw[oZ,← hun']
  exact aH.refl
 refine b6 hfin ?_
 refine aj ?_
 refine⟨_,rfl,⟨vals',un',fs',s.rm.set r (val v),k2,s.w⟩,rfl,⟨⟨row',hF'⟩,(hI.ta.settle hP hv hw hq hr hval).bump (by simp[a8]),?_,?_⟩,rfl,?_⟩
 ·rw[hvals']
  exact hI.vo.bump hrow hq hql hlc
 ·rw[hun']
  exact hI.tb.del hun hWd hWm hw
 ·show k2+fs'.k≤s.k+s.fs.k+_+_+1
  omega
end
end Go.Proofs.YtpbmihpjgjbndaaGreat
/- The engine by trees: a root is linked, step by step. -/
set_option linter.unusedVariables false
set_option linter.unusedSimpArgs false
namespace Go.Proofs.YtpbmihpjgjbndaaGreat
open Go.RowKit
section
variable {P:EP} {L:Nat→List Nat} {lv:Nat→Int} {gv:Nat→Nat} {rm0 tr:List Int} {pos:List Nat} {par:OV} {val:Nat→Int}
def xW (P:EP) (L:Nat→List Nat) (gv:Nat→Nat) (rm0 tr:List Int) (pos:List Nat) (par:OV) (val:Nat→Int) (s:ES) (v:Nat) (b:Bool) (s':ES):Prop:=
 ∃ pos',PI P.N L P.least tr pos' []∧s'.w=s.w∧cj L P.n pos'≤cj L P.n pos∧
   ((b=true∧∃ q r,pos'[v]?=some q∧(L v)[q]?=some r∧P.least≤tr.getD r 0∧gM P L gv rm0 tr pos' (a8 par v (some (cH P.N r))) (eP val v (tr.getD r 0-4611686018427387904)) s'∧s'.cost+cj L P.n pos'≤s.cost+cj L P.n pos+4*cX (P.n+1)+12*(P.n+1)+1)∨
    (b=false∧jc L pos' v∧gM P L gv rm0 tr pos' par val s'∧s'.cost+cj L P.n pos'≤s.cost+cj L P.n pos))
theorem wB (hP:iF P L lv gv) (s:ES) (hI:gM P L gv rm0 tr pos par val s) (hPI:PI P.N L P.least tr pos []) {v:Nat} (hv:v≤P.n) (hvn:par v=none):
 Fn 118 [.pointer (some ⟨P.pe,0,none⟩),.int .i64 (v:Int)] (aX (ep P s)) ([P.sg]++ep P s)
  fun x H'=>∃ b s',x=.bool b∧H'=ep P s'∧xW P L gv rm0 tr pos par val s v b s':=by
 have hN:=hP.small
 have hvN:v<P.n+1:=by omega
 generalize hM:aX _=M
 refine aM Tryz.func118 rfl rfl fun w0=>?_
 refine ae (aa (af [] rfl ?_))
 refine bN jk ?_
 refine ae (au ?_)
 refine bM (σ:=List Nat×ES) (fun _=>[(1,.int .i64 (v:Int)),(0,.pointer (some ⟨P.pe,0,none⟩))]) (fun t=>kw P t.2) (fun t=>gM P L gv rm0 tr t.1 par val t.2∧PI P.N L P.least tr t.1 []∧t.2.w=s.w∧cj L P.n t.1≤cj L P.n pos∧t.2.cost+cj L P.n t.1≤s.cost+cj L P.n pos) (fun t=>cj L P.n t.1) (pos,s) ⟨rfl,rfl,trivial⟩ aH.refl ⟨hI,hPI,rfl,Nat.le_refl _,Nat.le_refl _⟩ ?_
 rintro⟨pos1,s1⟩ ⟨hI1,hPI1,hw1,hr1,hk1⟩
 simp only at hI1 hPI1 hw1 hr1 hk1 ⊢
 obtain⟨q,hq⟩:=hI1.ta.pos_at hv
 have hrl0:=hP.rl
 obtain⟨rw_,hrow⟩:∃ rw_,P.rowsL[v]?=some rw_:=⟨P.rowsL[v]'(by omega),List.getElem?_eq_getElem (by omega)⟩
 obtain⟨A',c',hvv,hlc,hA'⟩:=hI1.vo.at_ v rw_ q hrow hq
 have hvl:v<s1.vals.length:=(List.getElem?_eq_some_iff.1 hvv).1
 have hrwl:=hP.rows v rw_ hrow
 have hrlen:rw_.l.length≤4000:=by rw[hrwl,List.length_map];exact hP.len v
 refine ae (ae (aa ?_))
 (repeat' (first
  |refine ao (gs:=[999]) rfl ?_
  |refine ab [999] (ad 5 rfl rfl rfl rfl) rfl ?_))
 refine ab [999] (aI rfl rfl rfl rfl rfl hvN) rfl ?_
 refine ab [999] (aF 7 rfl rfl rfl hvv) rfl ?_
 (repeat' (first
  |refine ao (gs:=[999]) rfl ?_
  |refine ab [999] (ad 5 rfl rfl rfl rfl) rfl ?_))
 refine aj ?_
 refine aC rfl (fun hlt=>aq ?_) (fun hge=>aO ?_)
 ·have hql:q<rw_.l.length:=by omega
  obtain rfl:=hA' hql
  obtain⟨r,hr⟩:∃ r,(L v)[q]?=some r:=⟨(L v)[q]'(by rw[hrwl,List.length_map] at hql;exact hql),List.getElem?_eq_getElem _⟩
  have hrl:rw_.l[q]?=some (r:Int):=by rw[hrwl,List.getElem?_map,hr];rfl
  have hrA:=hP.at_ v rw_ hrow (fun e=>by have:rw_.l.length=0:=by rw[← bh,e];rfl
                                         omega)
  have hrm:=List.mem_of_getElem? hr
  have hr2:=(eO hP hrm).1
  have hte:=d6 hP.right hr2
  have htn:cH P.N r≤P.n:=by have:=hP.nodes;omega
  have hrr:s1.rm.getD r 0=tr.getD r 0:=hI1.ta.lead v r hrm (fun _ h=>absurd hvn h)
  have htb:=hI1.ta.trb r
  have hAr:=hP.room hr2
  have hri:(aw s1.rm)[r]?=some (.int .i64 (tr.getD r 0)):=by
   have hl:r<s1.rm.length:=by rw[hI1.ta.rml];exact hr2
   refine cR ?_
   rw[← hrr,List.getD_eq_getElem?_getD,List.getElem?_eq_getElem hl];rfl
  refine au (ae (aa ?_))
  (repeat' (first
   |refine ao (gs:=[999]) rfl ?_
   |refine ab [999] (ad 5 rfl rfl rfl rfl) rfl ?_))
  refine b6 (aH.re (A:=P.fo s1.fs++[P.sg,P.pc s1.k s1.w,P.rc s1.rm,P.lc s1.vals,P.uc s1.un]) (R:=P.rows s1.un) [5,0,1,2,3,4,6,7,8] rfl (by decide)) ?_
  refine ay [999] (iJ P s1.k s1.w) rfl rfl rfl rfl (by kernel_rfl) aH.refl trivial (fun _=>rfl) ?_
  rintro v0 H' rfl
  refine⟨rfl,?_⟩
  refine b6 (aH.re (A:=[P.pc (s1.k+1) s1.w]++(P.fo s1.fs++[P.sg,P.rc s1.rm,P.lc s1.vals,P.uc s1.un])) (R:=P.rows s1.un) [1,2,3,4,5,0,6,7,8] rfl (by decide)) ?_
  refine aj ?_
  obtain⟨s2,hs2⟩:∃ x:ES,x={ s1 with k:=s1.k+1 }:=⟨_,rfl⟩
  refine bN (K:=kw P s2) (by rw[hs2];exact aH.refl) ?_
  have hI2:gM P L gv rm0 tr pos1 par val s2:=by rw[hs2];exact⟨hI1.fa,hI1.ta,hI1.vo,hI1.tb⟩
  have hk2:s2.cost=s1.cost+1:=by rw[hs2];show s1.k+1+s1.fs.k=s1.k+s1.fs.k+1;omega
  have hw2:s2.w=s.w:=by rw[hs2];exact hw1
  have hrm2:s2.rm=s1.rm:=by rw[hs2]
  have hva2:s2.vals=s1.vals:=by rw[hs2]
  rw[← hrm2] at hri
  rw[← hva2] at hvv hvl
  clear hs2
  refine ae (aa ?_)
  (repeat' (first
   |refine ao (gs:=[999]) rfl ?_
   |refine ab [999] (ad 5 rfl rfl rfl rfl) rfl ?_))
  refine ab [999] (aI rfl rfl rfl rfl rfl hvN) rfl ?_
  refine ab [999] (aF 7 rfl rfl rfl hvv) rfl ?_
  refine ab [999] (cW rfl rfl rfl rfl rfl (m:=0) (by omega)) rfl ?_
  refine ab [999] (mK rfl rfl (tH hrow) rfl hrA hrl) rfl ?_
  (repeat' (first
   |refine ao (gs:=[999]) rfl ?_
   |refine ab [999] (ad 5 rfl rfl rfl rfl) rfl ?_))
  refine aj ?_
  refine ae (ae ?_)
  refine bq 12 [(0,true),(1,true),(2,true),(3,true),(4,true),(5,true),(6,true),(7,true),(8,true),(9,true),(10,true),(11,true)] [5,6] (by kernel_rfl) (by decide) rfl ?_
  (repeat' (first
   |refine aL (gs:=[999]) rfl rfl ?_
   |refine ai [999] rfl (ad 0 rfl rfl rfl rfl) rfl ?_
   |refine ai [999] rfl (aI (b:=P.gr) (n:=2*P.N.arcs.length) (c:=P.cr) rfl (congrArg (fun A=>some (Value.slice A (2*P.N.arcs.length) P.cr)) hAr) rfl rfl rfl hr2) rfl ?_
   |refine ai [999] rfl (aF (g:=P.gr) (n:=2*P.N.arcs.length) (cap:=P.cr) 1 rfl rfl (congrArg (fun A=>some (aW.own (.slice A (2*P.N.arcs.length) P.cr) 2 1 (2*P.N.arcs.length) (aw s2.rm))) hAr) hri) rfl ?_))
  refine bB ?_
  refine aj ?_
  refine aC rfl (fun hsm=>?_) (fun hbig=>aq ?_)
  ·refine ae ?_
   refine fH 15 [0,1,2,3,4,5,6,7,8,9,10,11,12,13] 14 [] (by kernel_rfl) ?_
   (repeat' (first
    |refine f5 (gs:=[999]) rfl rfl ?_
    |refine bS [999] rfl rfl (ad 5 rfl rfl rfl rfl) rfl ?_))
   refine cB [999] rfl (aI rfl rfl rfl rfl rfl hvN) rfl ?_
   refine bS [999] rfl rfl (aF 7 rfl rfl rfl hvv) rfl ?_
   refine cB [999] rfl (fW (i:=1) rfl rfl rfl rfl rfl (by omega)) rfl ?_
   refine cB [999] rfl (aI rfl rfl rfl rfl rfl hvN) rfl ?_
   refine eW rfl ?_
   refine aG 7 rfl rfl rfl rfl (dO rfl rfl rfl hvl) [] rfl ?_
   refine aj ⟨⟨[],by decide,rfl⟩,?_⟩
   refine bB ?_
   refine aj ?_
   obtain⟨vals',hvals'⟩:∃ x,x=s2.vals.set v (.slice (hZ (some ⟨gv v,q,none⟩) c' 1 1) (rw_.l.length-q-1) (c'-1)):=⟨_,rfl⟩
   have hrem:=eZ (L:=L) hq hv (by rw[hrwl,List.length_map] at hql;exact hql)
   refine aO ?_
   refine⟨(pos1.set v (q+1),{ s2 with vals:=vals' }),⟨rfl,rfl,trivial⟩,by rw[hvals'];exact aH.refl,⟨⟨hI2.fa,hI2.ta.bump hvn,by rw[hvals'];exact hI2.vo.bump hrow hq hql hlc,hI2.tb⟩,hPI1.bump (fun _ h=>by cases h) hq hr (.inl hsm),hw2,?_,?_⟩,?_⟩
   ·show cj L P.n (pos1.set v (q+1))≤_
    omega
   ·show s2.cost+_≤_
    simp only
    omega
   ·show cj L P.n (pos1.set v (q+1))<cj L P.n pos1
    omega
  ·refine ae (aa ?_)
   (repeat' (first
    |refine ao (gs:=[999]) rfl ?_
    |refine ab [999] (ad 5 rfl rfl rfl rfl) rfl ?_))
   refine ax [] (gg P.N P.A P.c P.b P.o hP.arcs hP.right.len r hr2) rfl rfl rfl rfl (by kernel_rfl) ⟨⟨4,_,by simp[kw],rfl,ak _ _ _,ap⟩,trivial⟩ (fun _=>rfl) ?_
   rintro _ H' ⟨rfl,rfl⟩
   refine⟨rfl,?_⟩
   (repeat' (first
    |refine ao (gs:=[999]) rfl ?_
    |refine ab [999] (ad 5 rfl rfl rfl rfl) rfl ?_))
   refine aj ?_
   refine aV 7 (v':=.int .i64 (cH P.N r:Int)) rfl (congrArg (Value.int .i64) hte.1) ?_
   refine ae ?_
   refine bq 14 [(0,true),(1,true),(2,true),(3,true),(4,true),(5,true),(6,true),(7,true),(8,true),(9,true),(10,true),(11,true),(12,true),(13,false)] [5,6] (by kernel_rfl) (by decide) rfl ?_
   (repeat' (first
    |refine aL (gs:=[999]) rfl rfl ?_
    |refine ai [999] rfl (ad 0 rfl rfl rfl rfl) rfl ?_
    |refine ai [999] rfl (aI (b:=P.gr) (n:=2*P.N.arcs.length) (c:=P.cr) rfl (congrArg (fun A=>some (Value.slice A (2*P.N.arcs.length) P.cr)) hAr) rfl rfl rfl hr2) rfl ?_
    |refine ai [999] rfl (aF (g:=P.gr) (n:=2*P.N.arcs.length) (cap:=P.cr) 1 rfl rfl (congrArg (fun A=>some (aW.own (.slice A (2*P.N.arcs.length) P.cr) 2 1 (2*P.N.arcs.length) (aw s2.rm))) hAr) hri) rfl ?_))
   refine bH 75 (v':=.int .i64 (tr.getD r 0-4611686018427387904)) rfl (congrArg (Value.int .i64) (bK (by omega))) ?_
   refine bc rfl ?_
   obtain⟨row2,hF2⟩:=hI2.fa
   have hvfr:=hI2.ta.free v hv hvn
   refine ay [] (rK hF2 hN hvN (p:=[v]) ⟨rfl,hvn⟩ (d:=tr.getD r 0-4611686018427387904) (by omega) (by intro y hy;rw[List.mem_singleton.1 hy];omega)) rfl rfl rfl rfl (by kernel_rfl) aH.refl trivial (fun _=>rfl) ?_
   rintro _ H' ⟨fs3,row3,rfl,hF3,hk3⟩
   refine⟨rfl,aj ⟨⟨[5,6],by decide,rfl⟩,?_⟩⟩
   refine bB ?_
   refine aj ?_
   obtain⟨p,hp⟩:=hF3.path (cH P.N r) (by omega)
   have hvp:v∉p:=fun hin=>by
    have h1:=(hI2.ta.path_lv hP hp htn v hin).1
    have h2:=(eO hP hrm).2.2
    omega
   refine ae (aa ?_)
   (repeat' (first
    |refine ao (gs:=[999]) rfl ?_
    |refine ab [999] (ad 5 rfl rfl rfl rfl) rfl ?_))
   refine ay [] (xv hF3 hN hvN (show cH P.N r<P.n+1 by omega) hvn hp hvp) rfl rfl rfl rfl (by kernel_rfl) aH.refl trivial (fun _=>rfl) ?_
   rintro _ H' ⟨fs4,row4,rfl,hF4,hk4⟩
   refine⟨rfl,?_⟩
   (repeat' (first
    |refine ao (gs:=[999]) rfl ?_
    |refine ab [999] (ad 5 rfl rfl rfl rfl) rfl ?_))
   refine aj ?_
   obtain⟨w,hw⟩:∃ w,cH P.N r=w:=⟨_,rfl⟩
   rw[hw] at hF4 htn
   rw[hw]
   obtain⟨Aw,cw,W,hun,hWd,hWm,hWl⟩:=hI2.tb.get htn
   have hul:=hI2.tb.len
   have hwu:w<s2.un.length:=by omega
   obtain⟨rw2,hrw2⟩:∃ x:fb,x=⟨Aw,cw,ga W⟩:=⟨_,rfl⟩
   have hrw2l:rw2.l=ga W:=by rw[hrw2]
   have hrw2n:rw2.l.length≤10000:=by rw[hrw2l,dj];omega
   have hun2:s2.un[w]?=some rw2:=by rw[hrw2];exact hun
   obtain⟨R,hR⟩:∃ R,R=(P.rows s2.un).eraseIdx (P.rowsL.length+w):=⟨_,rfl⟩
   refine bN (K:=bY 3 rw2::((P.fo fs4++[P.sg,P.pc s2.k s2.w,P.rc s2.rm,P.lc s2.vals,P.uc s2.un])++R)) (by
    rw[hR]
    exact aH.front (A:=P.fo fs4++[P.sg,P.pc s2.k s2.w,P.rc s2.rm,P.lc s2.vals,P.uc s2.un]) (R:=P.rows s2.un) (i:=P.rowsL.length+w) (c:=bY 3 rw2) (by unfold EP.rows;rw[List.getElem?_map,List.getElem?_append_right (by omega),Nat.add_sub_cancel_left,hun2];rfl)) ?_
   refine ae ?_
   refine bq 16 [(0,true),(1,true),(2,true),(3,true),(4,true),(5,true),(6,true),(7,true),(8,true),(9,true),(10,true),(11,true),(12,true),(13,false),(14,false),(15,true)] [6,9] (by kernel_rfl) (by decide) rfl ?_
   (repeat' (first
    |refine aL (gs:=[999]) rfl rfl ?_
    |refine ai [999] rfl (ad 0 rfl rfl rfl rfl) rfl ?_
    |refine ai [999] rfl (aI rfl rfl rfl rfl rfl (show w<P.n+1 by omega)) rfl ?_
    |refine ai [999] rfl (aF (v:=cN rw2) 1 rfl rfl rfl (show (s2.un.map cN)[w]?=some (cN rw2) by rw[List.getElem?_map,hun2];rfl)) rfl ?_))
   refine bc rfl ?_
   refine b8 rfl rfl rfl rfl rfl rfl rfl (fun _=>rfl) fun g2=>?_
   refine aj ⟨⟨[7,10],by decide,rfl⟩,?_⟩
   refine bc rfl ?_
   refine a9 (n:=rw2.l.length) (m:=1) (off:=0) (news:=aw [(v:Int)]) 1 0 rfl rfl rfl rfl rfl rfl (by decide) rfl rfl (aR g2 _ _ (0,0)) (fun _=>rfl) rfl rfl (by omega) (by omega) (fun _ _=>rfl) fun A2 c2=>?_
   rw[show rw2.l.length+1=(rw2.l++[(v:Int)]).length by simp,show aw rw2.l++aw [(v:Int)]=aw (rw2.l++[(v:Int)]) by simp[aw]]
   refine aj ⟨⟨[7,10],by decide,rfl⟩,?_⟩
   refine ai [] rfl (aI rfl rfl rfl rfl rfl (show w<P.n+1 by omega)) rfl ?_
   refine bB ?_
   refine aG 10 rfl rfl rfl rfl (dO rfl rfl rfl (by rw[List.length_map];exact hwu)) [] rfl ?_
   refine aj ?_
   obtain⟨un',hun'⟩:∃ x,x=s2.un.set w ⟨A2,c2,rw2.l++[(v:Int)]⟩:=⟨_,rfl⟩
   have hfin:∀ {X:Cx} {c0:aW},aH X (c0::bY 3 ⟨A2,c2,rw2.l++[(v:Int)]⟩::((P.fo fs4++[P.sg,P.pc s2.k s2.w,P.rc s2.rm,P.lc s2.vals,P.uc un'])++R)) (ep P ⟨s2.vals,un',fs4,s2.rm,s2.k,s2.w⟩):=by
    intro X c0
    refine aH.trans (aH.re (A:=c0::bY 3 ⟨A2,c2,rw2.l++[(v:Int)]⟩::(P.fo fs4++[P.sg,P.pc s2.k s2.w,P.rc s2.rm,P.lc s2.vals,P.uc un'])) (A1:=bY 3 ⟨A2,c2,rw2.l++[(v:Int)]⟩::(P.fo fs4++[P.pc s2.k s2.w,P.rc s2.rm,P.lc s2.vals,P.uc un'])) [1,2,3,4,5,7,8,9,10] rfl (by decide)) ?_
    rw[hR]
    refine aH.trans (aH.back (A:=P.fo fs4++[P.pc s2.k s2.w,P.rc s2.rm,P.lc s2.vals,P.uc un']) (by unfold EP.rows;rw[List.length_map,List.length_append];omega)) ?_
    rw[oZ,← hun']
    exact aH.refl
   rw[show (s2.un.map cN).set w (.slice A2 (rw2.l++[(v:Int)]).length c2)=un'.map cN from by rw[hun',List.map_set];rfl]
   refine bN hfin ?_
   refine ae (aa (af [] rfl ?_))
   refine aB ⟨_,rfl,true,⟨s2.vals,un',fs4,s2.rm,s2.k,s2.w⟩,rfl,rfl,pos1,hPI1,hw2,hr1,.inl ⟨rfl,q,r,hq,hr,by omega,?_,?_⟩⟩
   ·have hh:=hI2.ta.hook hP hv hvn hq hr
    have hrr2:s2.rm.getD r 0=tr.getD r 0:=hI2.ta.lead v r hrm (fun _ h=>absurd hvn h)
    rw[hrr2,hw] at hh
    rw[hw]
    exact⟨⟨row4,hF4⟩,hh,hI2.vo,by rw[hun',hrw2l,show ga W++[(v:Int)]=ga (W++[v]) by simp[ga]];exact hI2.tb.add hun hWd hWm hv hvn⟩
   ·show s2.k+fs4.k+_≤_
    have:s2.cost=s2.k+s2.fs.k:=rfl
    omega
 ·refine ae (aa (af [] rfl ?_))
  refine bN kC (aB ⟨_,rfl,false,s1,rfl,rfl,pos1,hPI1,hw1,hr1,.inr ⟨rfl,fun p hp=>?_,hI1,hk1⟩⟩)
  rw[hq] at hp
  simp only[Option.some.injEq] at hp
  subst hp
  rw[hrwl,List.length_map] at hge
  omega
end
end Go.Proofs.YtpbmihpjgjbndaaGreat
