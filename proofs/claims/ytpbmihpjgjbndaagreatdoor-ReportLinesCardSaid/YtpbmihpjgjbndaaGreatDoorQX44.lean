/- The engine and the words that all chapters share: several texts in one. -/
import Derived.Test.YtpbmihpjgjbndaaGreatDoorQX18
/- The engine by trees: a linked node is cut off, step by step. -/
set_option linter.unusedVariables false
set_option linter.unusedSimpArgs false
namespace Go.Proofs.YtpbmihpjgjbndaaGreatDoor
open Go.RowKit
theorem qL {g c:Nat} {W:List Nat}:bH 3 ⟨some ⟨g,0,none⟩,c,gb W⟩=jA g W.length c W:=by
 unfold bH cH
 simp only[da]
 rfl
section
variable {P:EP} {L:Nat→List Nat} {lv:Nat→Int} {gv:Nat→Nat} {rm0 tr:List Int} {pos:List Nat} {par:OV} {val:Nat→Int}
def nK (P:EP) (s:ES) (bE bV v:Nat):Heap:=(P.fo s.fs++[P.sg,P.pc s.k s.w,P.rc s.rm,P.lc s.vals,P.uc s.un,blk bE 319 [.pointer (some ⟨P.pe,0,none⟩)],blk bV 3 [.int .i64 (v:Int)]])++P.rows s.un
theorem wR {X:Cx} {s:ES} {bE bV v:Nat}:aK X (blk bV 3 [.int .i64 (v:Int)]::blk bE 319 [.pointer (some ⟨P.pe,0,none⟩)]::([P.sg]++eb P s)) (nK P s bE bV v):=
 aK.re (A:=[blk bV 3 [.int .i64 (v:Int)],blk bE 319 [.pointer (some ⟨P.pe,0,none⟩)],P.sg]++(P.fo s.fs++[P.pc s.k s.w,P.rc s.rm,P.lc s.vals,P.uc s.un])) (R:=P.rows s.un) [3,4,5,6,2,7,8,9,10,1,0] rfl (by decide)
theorem rB {X:Cx} {s:ES} {bE bV v:Nat}:aK X (nK P s bE bV v) (eb P s++[P.sg,blk bE 319 [.pointer (some ⟨P.pe,0,none⟩)],blk bV 3 [.int .i64 (v:Int)]]):=
 aK.mid (A:=P.fo s.fs++[P.sg,P.pc s.k s.w,P.rc s.rm,P.lc s.vals,P.uc s.un,blk bE 319 [.pointer (some ⟨P.pe,0,none⟩)],blk bV 3 [.int .i64 (v:Int)]]) (R:=P.rows s.un) [0,1,2,3,5,6,7,8] [4,9,10] rfl rfl (by decide)
theorem sb {X:Cx} {s:ES} {bE bV v:Nat}:aK X (eb P s++[P.sg,blk bE 319 [.pointer (some ⟨P.pe,0,none⟩)],blk bV 3 [.int .i64 (v:Int)]]) (nK P s bE bV v):=by
 refine aK.trans (aK.swap (A:=P.fo s.fs++[P.pc s.k s.w,P.rc s.rm,P.lc s.vals,P.uc s.un]) (R:=P.rows s.un) (B:=[P.sg,blk bE 319 [.pointer (some ⟨P.pe,0,none⟩)],blk bV 3 [.int .i64 (v:Int)]])) ?_
 exact aK.re (A:=(P.fo s.fs++[P.pc s.k s.w,P.rc s.rm,P.lc s.vals,P.uc s.un])++[P.sg,blk bE 319 [.pointer (some ⟨P.pe,0,none⟩)],blk bV 3 [.int .i64 (v:Int)]]) (R:=P.rows s.un) [0,1,2,3,8,4,5,6,7,9,10] rfl (by decide)
theorem zI {A:Heap} {un:List eu} {v:Nat} {rw_:eu} (h:P.rowsL[v]?=some rw_):(A++P.rows un)[A.length+v]?=some (bH 3 rw_):=by
 rw[List.getElem?_append_right (by omega),Nat.add_sub_cancel_left]
 unfold EP.rows
 rw[List.getElem?_map,List.getElem?_append_left (List.getElem?_eq_some_iff.1 h).1,h]
 rfl
theorem pG {un:List eu} {w:Nat} {x:eu}:(P.rows un).set (P.rowsL.length+w) (bH 3 x)=P.rows (un.set w x):=by
 unfold EP.rows
 rw[← List.map_set,List.set_append_right _ _ (by omega),Nat.add_sub_cancel_left]
theorem uh {A A1:Heap} {un:List eu} {v:Nat} {rw_:eu} (ix:List Nat) (h:Proofs.YtpbmihpjgjbndaaGreatDoor.bF A ix=some A1) (hr:P.rowsL[v]?=some rw_):Proofs.YtpbmihpjgjbndaaGreatDoor.bF (A++P.rows un) (ix++[A.length+v])=some (A1++[bH 3 rw_]):=
 je (fQ.2 ⟨_,[],zI hr,rfl,rfl⟩) (gU h).1
theorem uK {A A1:Heap} {v:Nat} (ix:List Nat) (h:Proofs.YtpbmihpjgjbndaaGreatDoor.bF A ix=some A1) (hn:ix.Nodup):(ix++[A.length+v]).Nodup:=
 List.nodup_append.2 ⟨hn,by simp,fun x hx y hy=>by have:=(gU (R:=[]) h).2 x hx;rw[List.mem_singleton.1 hy];omega⟩
theorem nW (hP:iB P L lv gv) (s:ES) (hI:gO P L gv rm0 tr pos par val s) {v w q r:Nat} (hv:v≤P.n) (hw:par v=some w) (hq:pos[v]?=some q) (hr:(L v)[q]?=some r) (hto:d9 P.N r=w) (hval:val v=tr.getD r 0):
 Fn 269 [.pointer (some ⟨P.pe,0,none⟩),.int .i64 (v:Int)] (aR (eb P s)) ([P.sg]++eb P s)
  fun _ H'=>∃ s',H'=eb P s'∧gO P L gv rm0 tr (pos.set v (q+1)) (aT par v none) (eE val v (4611686018427387904-val v)) s'∧s'.w=s.w∧s'.cost≤s.cost+2*cG (P.n+1)+12*(P.n+1)+1:=by
 have hN:=hP.small
 have hvN:v<P.n+1:=by omega
 obtain⟨row,hF⟩:=hI.fa
 obtain⟨rw_,c',hrow,hvv,hlc,hql,hrl,hrA,hrlen⟩:=tg hP hI.vo hv hq hr
 have hvl:v<s.vals.length:=(List.getElem?_eq_some_iff.1 hvv).1
 have hrm:=List.mem_of_getElem? hr
 have hr2:=(ez hP hrm).1
 have hte:=fu hP.right hr2
 rw[hto] at hte
 have hwn:w≤P.n:=by have:=hP.nodes;omega
 obtain⟨Aw,cw,W,hun,hWd,hWm,hWl⟩:=hI.tb.get hwn
 obtain⟨pre,post,rfl⟩:=List.append_of_mem ((hWm v).2 ⟨hv,hw⟩)
 generalize hM:aR _=M
 refine aS Tryz.func269 rfl rfl fun w0=>?_
 refine ad (aa ?_)
 refine bw rfl rfl rfl (fun _=>rfl) fun bE=>?_
 refine bw rfl rfl rfl (fun _=>rfl) fun bV=>?_
 refine ai ?_
 refine bA wR ?_
 refine ad ?_
 have hpk:=uh (A:=P.fo s.fs++[P.sg,P.pc s.k s.w,P.rc s.rm,P.lc s.vals,P.uc s.un,blk bE 319 [.pointer (some ⟨P.pe,0,none⟩)],blk bV 3 [.int .i64 (v:Int)]]) (un:=s.un) [4,5,7,9,10] rfl hrow
 have hnd:=uK (A:=P.fo s.fs++[P.sg,P.pc s.k s.w,P.rc s.rm,P.lc s.vals,P.uc s.un,blk bE 319 [.pointer (some ⟨P.pe,0,none⟩)],blk bV 3 [.int .i64 (v:Int)]]) (v:=v) [4,5,7,9,10] rfl (by decide)
 refine bp 19 [(0,true),(1,true),(2,true),(3,true),(4,true),(5,true),(6,true),(7,true),(8,true),(9,true),(10,true),(11,true),(12,true),(13,false),(14,true),(15,true),(16,true),(17,true),(18,true)] _ (by kernel_rfl) hnd hpk ?_
 (repeat' (first
  |refine aZ (gs:=[999]) rfl rfl ?_
  |refine aj [999] rfl (af 1 rfl rfl rfl rfl) rfl ?_
  |refine aj [999] rfl (af 3 rfl rfl rfl rfl) rfl ?_
  |refine aj [999] rfl (af 4 rfl rfl rfl rfl) rfl ?_))
 refine aj [999] rfl (aJ rfl rfl rfl rfl rfl hvN) rfl ?_
 refine aj [999] rfl (aD 2 rfl rfl rfl hvv) rfl ?_
 refine aj [999] rfl (f9 rfl rfl rfl rfl rfl (m:=0) (by omega)) rfl ?_
 refine aj [999] rfl (mO rfl rfl (i:=5) rfl rfl hrA hrl) rfl ?_
 refine a6 rfl ?_
 refine ax [] (e6 P.N P.A P.c P.b P.o hP.arcs hP.right.len r hr2) rfl rfl rfl rfl (by kernel_rfl) ⟨⟨4,_,by simp[nK],rfl,aq _ _ _,ay⟩,trivial⟩ (fun _=>rfl) ?_
 rintro _ H' ⟨rfl,rfl⟩
 refine⟨rfl,?_⟩
 refine ai ⟨⟨_,hnd,hpk⟩,?_⟩
 (repeat' (first
  |refine aZ (gs:=[999]) rfl rfl ?_
  |refine aj [999] rfl (af 1 rfl rfl rfl rfl) rfl ?_
  |refine aj [999] rfl (af 3 rfl rfl rfl rfl) rfl ?_
  |refine aj [999] rfl (af 4 rfl rfl rfl rfl) rfl ?_))
 refine bv ?_
 refine ai ?_
 refine aP 5 (v':=.int .i64 (w:Int)) rfl (congrArg (Value.int .i64) hte.1) ?_
 show J _ _ _ _ (nK P s bE bV v)
 refine ad (aa ?_)
 (repeat' (first
  |refine ak (gs:=[999]) rfl ?_
  |refine ab [999] (af 5 rfl rfl rfl rfl) rfl ?_
  |refine ab [999] (af 9 rfl rfl rfl rfl) rfl ?_
  |refine ab [999] (af 10 rfl rfl rfl rfl) rfl ?_))
 refine ao [] (nV hP s hI.ta hF hI.vo hv hw hq hr hval) rfl rfl rfl rfl (by kernel_rfl) rB ⟨⟨0,_,by simp,rfl,aq _ _ _,ay⟩,trivial⟩ (fun _=>rfl) ?_
 rintro _ H' ⟨fs',row',rfl,hF',hk'⟩
 refine⟨cR rfl (cJ _ _),?_⟩
 refine bY sb ?_
 refine ai ?_
 refine ad ?_
 refine fF 15 [0,1,2,3,4,5,6,7,8,9,10,11,12,13] 14 [] (by kernel_rfl) ?_
 (repeat' (first
  |refine f5 (gs:=[999]) rfl rfl ?_
  |refine bn [999] rfl rfl (af 5 rfl rfl rfl rfl) rfl ?_
  |refine bn [999] rfl rfl (af 9 rfl rfl rfl rfl) rfl ?_
  |refine bn [999] rfl rfl (af 10 rfl rfl rfl rfl) rfl ?_))
 refine b5 [999] rfl (aJ rfl rfl rfl rfl rfl hvN) rfl ?_
 refine bn [999] rfl rfl (aD 7 rfl rfl rfl hvv) rfl ?_
 refine b5 [999] rfl (eL (i:=1) rfl rfl rfl rfl rfl (by omega)) rfl ?_
 refine b5 [999] rfl (aJ rfl rfl rfl rfl rfl hvN) rfl ?_
 refine eH rfl ?_
 refine aQ 7 rfl rfl rfl rfl (dk rfl rfl rfl hvl) [] rfl ?_
 refine ai ⟨⟨[],by decide,rfl⟩,?_⟩
 refine bv ?_
 refine ai ?_
 obtain⟨vals',hvals'⟩:∃ x,x=s.vals.set v (.slice (ij (some ⟨gv v,q,none⟩) c' 1 1) (rw_.l.length-q-1) (c'-1)):=⟨_,rfl⟩
 refine bA (K:=nK P { s with fs:=fs',rm:=s.rm.set r (val v),k:=s.k+1,vals:=vals' } bE bV v) (by rw[hvals'];exact aK.refl) ?_
 have hrl2:=hP.rl
 have hul:=hI.tb.len
 have hwu:w<s.un.length:=by omega
 refine bA (aK.front (A:=P.fo fs'++[P.sg,P.pc (s.k+1) s.w,P.rc (s.rm.set r (val v)),P.lc vals',P.uc s.un,blk bE 319 [.pointer (some ⟨P.pe,0,none⟩)],blk bV 3 [.int .i64 (v:Int)]]) (R:=P.rows s.un) (i:=P.rowsL.length+w) (c:=bH 3 ⟨Aw,cw,gb (pre++v::post)⟩) (by unfold EP.rows;rw[List.getElem?_map,List.getElem?_append_right (by omega),Nat.add_sub_cancel_left,hun];rfl)) ?_
 refine bO (bh 0 rfl) fun ⟨_,hcw,hAw,_⟩=>?_
 obtain⟨gw,rfl⟩:=hAw (by rw[da];simp;omega)
 rw[qL]
 rw[da] at hcw
 obtain⟨R,hR⟩:∃ R,R=(P.rows s.un).eraseIdx (P.rowsL.length+w):=⟨_,rfl⟩
 rw[← hR]
 refine bA (K:=(P.fo fs'++[P.sg,P.pc (s.k+1) s.w,P.rc (s.rm.set r (val v)),P.lc vals',P.uc s.un,blk bE 319 [.pointer (some ⟨P.pe,0,none⟩)],blk bV 3 [.int .i64 (v:Int)],jA gw (pre++v::post).length cw (pre++v::post)])++R) (aK.re (A:=jA gw (pre++v::post).length cw (pre++v::post)::(P.fo fs'++[P.sg,P.pc (s.k+1) s.w,P.rc (s.rm.set r (val v)),P.lc vals',P.uc s.un,blk bE 319 [.pointer (some ⟨P.pe,0,none⟩)],blk bV 3 [.int .i64 (v:Int)]])) (R:=R) [1,2,3,4,5,6,7,8,9,10,11,0] rfl (by decide)) ?_
 have hfs:∀ {kk:Nat} {W:List Nat} {X:Cx},aK X ((P.fo fs'++[P.sg,P.pc kk s.w,P.rc (s.rm.set r (val v)),P.lc vals',P.uc s.un,blk bE 319 [.pointer (some ⟨P.pe,0,none⟩)],blk bV 3 [.int .i64 (v:Int)],jA gw W.length cw W])++R)
  ([.seg P.pe 0 ((yv P 0 0).take 9),P.uc s.un,blk bE 319 [.pointer (some ⟨P.pe,0,none⟩)],blk bV 3 [.int .i64 (v:Int)]]++R):=by
  intro kk W X
  refine aK.trans (aK.re (A1:=[P.pc kk s.w,P.uc s.un,blk bE 319 [.pointer (some ⟨P.pe,0,none⟩)],blk bV 3 [.int .i64 (v:Int)]]) [5,8,9,10] rfl (by decide)) ?_
  refine aK.seg (off:=0) 0 rfl fun i v hi=>?_
  rw[Nat.zero_add]
  have hi9:i<9:=by have:=(List.getElem?_eq_some_iff.1 hi).1;simpa [yv] using this
  rw[List.getElem?_take,if_pos hi9] at hi
  rw[← hi]
  match i,hi9 with
  |0,_=>rfl
  |1,_=>rfl
  |2,_=>rfl
  |3,_=>rfl
  |4,_=>rfl
  |5,_=>rfl
  |6,_=>rfl
  |7,_=>rfl
  |8,_=>rfl
 refine xW 15 [(0,true),(1,true),(2,true),(3,true),(4,true),(5,true),(6,true),(7,true),(8,true),(9,true),(10,true),(11,true),(12,true),(13,false),(14,true)] (by kernel_rfl) (hfs (W:=pre++v::post)) ?_
 (repeat' (first
  |refine aZ (gs:=[999]) rfl rfl ?_
  |refine aj [999] rfl (bz (i:=7) 0 rfl rfl rfl rfl rfl) rfl ?_
  |refine aj [999] rfl (af 2 rfl rfl rfl rfl) rfl ?_
  |refine aj [999] rfl (aJ rfl rfl rfl rfl rfl (show w<P.n+1 by omega)) rfl ?_))
 have hunv:(s.un.map cH)[w]?=some (.slice (some ⟨gw,0,none⟩) (pre++v::post).length cw):=by
  rw[List.getElem?_map,hun]
  show some (Value.slice _ (gb (pre++v::post)).length _)=_
  rw[da]
 refine aj [999] rfl (aD 1 rfl rfl rfl hunv) rfl ?_
 refine aZ (gs:=[999]) rfl rfl ?_
 refine xd rfl ?_
 have hvp:v∉pre∧v∉post:=by
  obtain⟨_,d2,d3⟩:=List.nodup_append.1 hWd
  exact⟨fun hx=>d3 v hx v (by simp) rfl,(List.nodup_cons.1 d2).1⟩
 refine ao (K:=P.fo fs'++[P.sg,P.rc (s.rm.set r (val v)),P.lc vals',P.uc s.un,blk bE 319 [.pointer (some ⟨P.pe,0,none⟩)],blk bV 3 [.int .i64 (v:Int)]]++R) [999] (uM P (s.k+1) s.w bE bV v pre post hvp.1 hvp.2 gw (pre++v::post).length cw rfl (by omega) hcw) rfl rfl rfl rfl (by kernel_rfl)
  (aK.re (A:=P.fo fs'++[P.sg,P.pc (s.k+1) s.w,P.rc (s.rm.set r (val v)),P.lc vals',P.uc s.un,blk bE 319 [.pointer (some ⟨P.pe,0,none⟩)],blk bV 3 [.int .i64 (v:Int)],jA gw (pre++v::post).length cw (pre++v::post)]) (R:=R) [5,11,0,1,2,3,4,6,7,8,9,10] rfl (by decide)) ⟨⟨8,_,by simp,rfl,aL _ _ _ (0,0),.inr rfl⟩,⟨9,_,by simp,rfl,aL _ _ _ (0,0),.inr rfl⟩,trivial⟩ (fun _=>rfl) ?_
 rintro _ H' ⟨rfl,rfl⟩
 refine⟨rfl,?_⟩
 obtain⟨k2,hk2⟩:∃ x,x=s.k+1+(pre++v::post).length:=⟨_,rfl⟩
 rw[← hk2]
 refine bY (K:=(P.fo fs'++[P.sg,P.pc k2 s.w,P.rc (s.rm.set r (val v)),P.lc vals',P.uc s.un,blk bE 319 [.pointer (some ⟨P.pe,0,none⟩)],blk bV 3 [.int .i64 (v:Int)],jA gw (pre.length+post.length) cw (pre++post)])++R)
  (aK.re (A:=[P.pc k2 s.w,jA gw (pre.length+post.length) cw (pre++post)]++(P.fo fs'++[P.sg,P.rc (s.rm.set r (val v)),P.lc vals',P.uc s.un,blk bE 319 [.pointer (some ⟨P.pe,0,none⟩)],blk bV 3 [.int .i64 (v:Int)]])) (R:=R) [2,3,4,5,6,0,7,8,9,10,11,1] rfl (by decide)) ?_
 rw[show pre.length+post.length=(pre++post).length by simp]
 refine ai ⟨hfs (W:=pre++post),?_⟩
 refine aj [999] rfl (aJ rfl rfl rfl rfl rfl (show w<P.n+1 by omega)) rfl ?_
 refine bv ?_
 refine aQ 8 rfl rfl rfl rfl (dk rfl rfl rfl (by rw[List.length_map];exact hwu)) [] rfl ?_
 obtain⟨un',hun'⟩:∃ x,x=s.un.set w ⟨some ⟨gw,0,none⟩,cw,gb (pre++post)⟩:=⟨_,rfl⟩
 rw[show (s.un.map cH).set w (.slice (some ⟨gw,0,none⟩) (pre++post).length cw)=un'.map cH from by
  rw[hun',List.map_set];unfold cH;simp only[da]]
 have hfin:∀ {X:Cx},aK X ((P.fo fs'++[P.sg,P.pc k2 s.w,P.rc (s.rm.set r (val v)),P.lc vals',P.uc un',blk bE 319 [.pointer (some ⟨P.pe,0,none⟩)],blk bV 3 [.int .i64 (v:Int)],jA gw (pre++post).length cw (pre++post)])++R)
  (eb P ⟨vals',un',fs',s.rm.set r (val v),k2,s.w⟩):=by
  intro X
  refine aK.trans (aK.re (A1:=jA gw (pre++post).length cw (pre++post)::(P.fo fs'++[P.pc k2 s.w,P.rc (s.rm.set r (val v)),P.lc vals',P.uc un'])) [11,0,1,2,3,5,6,7,8] rfl (by decide)) ?_
  rw[hR,← qL]
  refine aK.trans (aK.back (A:=P.fo fs'++[P.pc k2 s.w,P.rc (s.rm.set r (val v)),P.lc vals',P.uc un']) (by unfold EP.rows;rw[List.length_map,List.length_append];omega)) ?_
  rw[pG,← hun']
  exact aK.refl
 refine bY hfin ?_
 refine ai ?_
 refine⟨_,rfl,⟨vals',un',fs',s.rm.set r (val v),k2,s.w⟩,rfl,⟨⟨row',hF'⟩,(hI.ta.settle hP hv hw hq hr hval).bump (by simp[aT]),?_,?_⟩,rfl,?_⟩
 ·rw[hvals']
  exact hI.vo.bump hrow hq hql hlc
 ·rw[hun']
  exact hI.tb.del hun hWd hWm hw
 ·show k2+fs'.k≤s.k+s.fs.k+_+_+1
  omega
end
end Go.Proofs.YtpbmihpjgjbndaaGreatDoor
/- The engine by trees: a root is linked, step by step. -/
set_option linter.unusedVariables false
set_option linter.unusedSimpArgs false
namespace Go.Proofs.YtpbmihpjgjbndaaGreatDoor
open Go.RowKit
section
variable {P:EP} {L:Nat→List Nat} {lv:Nat→Int} {gv:Nat→Nat} {rm0 tr:List Int} {pos:List Nat} {par:OV} {val:Nat→Int}
def zc (P:EP) (L:Nat→List Nat) (gv:Nat→Nat) (rm0 tr:List Int) (pos:List Nat) (par:OV) (val:Nat→Int) (s:ES) (v:Nat) (b:Bool) (s':ES):Prop:=
 ∃ pos',PI P.N L P.least tr pos' []∧s'.w=s.w∧bT L P.n pos'≤bT L P.n pos∧
   ((b=true∧∃ q r,pos'[v]?=some q∧(L v)[q]?=some r∧P.least≤tr.getD r 0∧gO P L gv rm0 tr pos' (aT par v (some (d9 P.N r))) (eE val v (tr.getD r 0-4611686018427387904)) s'∧s'.cost+bT L P.n pos'≤s.cost+bT L P.n pos+4*cG (P.n+1)+12*(P.n+1)+1)∨
    (b=false∧ke L pos' v∧gO P L gv rm0 tr pos' par val s'∧s'.cost+bT L P.n pos'≤s.cost+bT L P.n pos))
theorem xh (hP:iB P L lv gv) (s:ES) (hI:gO P L gv rm0 tr pos par val s) (hPI:PI P.N L P.least tr pos []) {v:Nat} (hv:v≤P.n) (hvn:par v=none):
 Fn 255 [.pointer (some ⟨P.pe,0,none⟩),.int .i64 (v:Int)] (aR (eb P s)) ([P.sg]++eb P s)
  fun x H'=>∃ b s',x=.bool b∧H'=eb P s'∧zc P L gv rm0 tr pos par val s v b s':=by
 have hN:=hP.small
 have hvN:v<P.n+1:=by omega
 generalize hM:aR _=M
 refine aS Tryz.func255 rfl rfl fun w0=>?_
 refine ad (aa (ae [] rfl ?_))
 refine bA ju ?_
 refine ad (au ?_)
 refine cN (σ:=List Nat×ES) (fun _=>[(1,.int .i64 (v:Int)),(0,.pointer (some ⟨P.pe,0,none⟩))]) (fun t=>kJ P t.2) (fun t=>gO P L gv rm0 tr t.1 par val t.2∧PI P.N L P.least tr t.1 []∧t.2.w=s.w∧bT L P.n t.1≤bT L P.n pos∧t.2.cost+bT L P.n t.1≤s.cost+bT L P.n pos) (fun t=>bT L P.n t.1) (pos,s) ⟨rfl,rfl,trivial⟩ aK.refl ⟨hI,hPI,rfl,Nat.le_refl _,Nat.le_refl _⟩ ?_
 rintro⟨pos1,s1⟩ ⟨hI1,hPI1,hw1,hr1,hk1⟩
 simp only at hI1 hPI1 hw1 hr1 hk1 ⊢
 obtain⟨q,hq⟩:=hI1.ta.pos_at hv
 have hrl0:=hP.rl
 obtain⟨rw_,hrow⟩:∃ rw_,P.rowsL[v]?=some rw_:=⟨P.rowsL[v]'(by omega),List.getElem?_eq_getElem (by omega)⟩
 obtain⟨A',c',hvv,hlc,hA'⟩:=hI1.vo.at_ v rw_ q hrow hq
 have hvl:v<s1.vals.length:=(List.getElem?_eq_some_iff.1 hvv).1
 have hrwl:=hP.rows v rw_ hrow
 have hrlen:rw_.l.length≤4000:=by rw[hrwl,List.length_map];exact hP.len v
 refine ad (ad (aa ?_))
 (repeat' (first
  |refine ak (gs:=[999]) rfl ?_
  |refine ab [999] (af 5 rfl rfl rfl rfl) rfl ?_))
 refine ab [999] (aJ rfl rfl rfl rfl rfl hvN) rfl ?_
 refine ab [999] (aD 7 rfl rfl rfl hvv) rfl ?_
 (repeat' (first
  |refine ak (gs:=[999]) rfl ?_
  |refine ab [999] (af 5 rfl rfl rfl rfl) rfl ?_))
 refine ai ?_
 refine aC rfl (fun hlt=>av ?_) (fun hge=>aV ?_)
 ·have hql:q<rw_.l.length:=by omega
  obtain rfl:=hA' hql
  obtain⟨r,hr⟩:∃ r,(L v)[q]?=some r:=⟨(L v)[q]'(by rw[hrwl,List.length_map] at hql;exact hql),List.getElem?_eq_getElem _⟩
  have hrl:rw_.l[q]?=some (r:Int):=by rw[hrwl,List.getElem?_map,hr];rfl
  have hrA:=hP.at_ v rw_ hrow (fun e=>by have:rw_.l.length=0:=by rw[← bB,e];rfl
                                         omega)
  have hrm:=List.mem_of_getElem? hr
  have hr2:=(ez hP hrm).1
  have hte:=fu hP.right hr2
  have htn:d9 P.N r≤P.n:=by have:=hP.nodes;omega
  have hrr:s1.rm.getD r 0=tr.getD r 0:=hI1.ta.lead v r hrm (fun _ h=>absurd hvn h)
  have htb:=hI1.ta.trb r
  have hAr:=hP.room hr2
  have hri:(ap s1.rm)[r]?=some (.int .i64 (tr.getD r 0)):=by
   have hl:r<s1.rm.length:=by rw[hI1.ta.rml];exact hr2
   refine b8 ?_
   rw[← hrr,List.getD_eq_getElem?_getD,List.getElem?_eq_getElem hl];rfl
  refine au (ad (aa ?_))
  (repeat' (first
   |refine ak (gs:=[999]) rfl ?_
   |refine ab [999] (af 5 rfl rfl rfl rfl) rfl ?_))
  refine bY (aK.re (A:=P.fo s1.fs++[P.sg,P.pc s1.k s1.w,P.rc s1.rm,P.lc s1.vals,P.uc s1.un]) (R:=P.rows s1.un) [5,0,1,2,3,4,6,7,8] rfl (by decide)) ?_
  refine ao [999] (ir P s1.k s1.w) rfl rfl rfl rfl (by kernel_rfl) aK.refl trivial (fun _=>rfl) ?_
  rintro v0 H' rfl
  refine⟨rfl,?_⟩
  refine bY (aK.re (A:=[P.pc (s1.k+1) s1.w]++(P.fo s1.fs++[P.sg,P.rc s1.rm,P.lc s1.vals,P.uc s1.un])) (R:=P.rows s1.un) [1,2,3,4,5,0,6,7,8] rfl (by decide)) ?_
  refine ai ?_
  obtain⟨s2,hs2⟩:∃ x:ES,x={ s1 with k:=s1.k+1 }:=⟨_,rfl⟩
  refine bA (K:=kJ P s2) (by rw[hs2];exact aK.refl) ?_
  have hI2:gO P L gv rm0 tr pos1 par val s2:=by rw[hs2];exact⟨hI1.fa,hI1.ta,hI1.vo,hI1.tb⟩
  have hk2:s2.cost=s1.cost+1:=by rw[hs2];show s1.k+1+s1.fs.k=s1.k+s1.fs.k+1;omega
  have hw2:s2.w=s.w:=by rw[hs2];exact hw1
  have hrm2:s2.rm=s1.rm:=by rw[hs2]
  have hva2:s2.vals=s1.vals:=by rw[hs2]
  rw[← hrm2] at hri
  rw[← hva2] at hvv hvl
  clear hs2
  refine ad (aa ?_)
  (repeat' (first
   |refine ak (gs:=[999]) rfl ?_
   |refine ab [999] (af 5 rfl rfl rfl rfl) rfl ?_))
  refine ab [999] (aJ rfl rfl rfl rfl rfl hvN) rfl ?_
  refine ab [999] (aD 7 rfl rfl rfl hvv) rfl ?_
  refine ab [999] (f9 rfl rfl rfl rfl rfl (m:=0) (by omega)) rfl ?_
  refine ab [999] (mO rfl rfl (wQ hrow) rfl hrA hrl) rfl ?_
  (repeat' (first
   |refine ak (gs:=[999]) rfl ?_
   |refine ab [999] (af 5 rfl rfl rfl rfl) rfl ?_))
  refine ai ?_
  refine ad (ad ?_)
  refine bp 12 [(0,true),(1,true),(2,true),(3,true),(4,true),(5,true),(6,true),(7,true),(8,true),(9,true),(10,true),(11,true)] [5,6] (by kernel_rfl) (by decide) rfl ?_
  (repeat' (first
   |refine aZ (gs:=[999]) rfl rfl ?_
   |refine aj [999] rfl (af 0 rfl rfl rfl rfl) rfl ?_
   |refine aj [999] rfl (aJ (b:=P.gr) (n:=2*P.N.arcs.length) (c:=P.cr) rfl (congrArg (fun A=>some (Value.slice A (2*P.N.arcs.length) P.cr)) hAr) rfl rfl rfl hr2) rfl ?_
   |refine aj [999] rfl (aD (g:=P.gr) (n:=2*P.N.arcs.length) (cap:=P.cr) 1 rfl rfl (congrArg (fun A=>some (aO.own (.slice A (2*P.N.arcs.length) P.cr) 2 1 (2*P.N.arcs.length) (ap s2.rm))) hAr) hri) rfl ?_))
  refine bv ?_
  refine ai ?_
  refine aC rfl (fun hsm=>?_) (fun hbig=>av ?_)
  ·refine ad ?_
   refine fF 15 [0,1,2,3,4,5,6,7,8,9,10,11,12,13] 14 [] (by kernel_rfl) ?_
   (repeat' (first
    |refine f5 (gs:=[999]) rfl rfl ?_
    |refine bn [999] rfl rfl (af 5 rfl rfl rfl rfl) rfl ?_))
   refine b5 [999] rfl (aJ rfl rfl rfl rfl rfl hvN) rfl ?_
   refine bn [999] rfl rfl (aD 7 rfl rfl rfl hvv) rfl ?_
   refine b5 [999] rfl (eL (i:=1) rfl rfl rfl rfl rfl (by omega)) rfl ?_
   refine b5 [999] rfl (aJ rfl rfl rfl rfl rfl hvN) rfl ?_
   refine eH rfl ?_
   refine aQ 7 rfl rfl rfl rfl (dk rfl rfl rfl hvl) [] rfl ?_
   refine ai ⟨⟨[],by decide,rfl⟩,?_⟩
   refine bv ?_
   refine ai ?_
   obtain⟨vals',hvals'⟩:∃ x,x=s2.vals.set v (.slice (ij (some ⟨gv v,q,none⟩) c' 1 1) (rw_.l.length-q-1) (c'-1)):=⟨_,rfl⟩
   have hrem:=eY (L:=L) hq hv (by rw[hrwl,List.length_map] at hql;exact hql)
   refine aV ?_
   refine⟨(pos1.set v (q+1),{ s2 with vals:=vals' }),⟨rfl,rfl,trivial⟩,by rw[hvals'];exact aK.refl,⟨⟨hI2.fa,hI2.ta.bump hvn,by rw[hvals'];exact hI2.vo.bump hrow hq hql hlc,hI2.tb⟩,hPI1.bump (fun _ h=>by cases h) hq hr (.inl hsm),hw2,?_,?_⟩,?_⟩
   ·show bT L P.n (pos1.set v (q+1))≤_
    omega
   ·show s2.cost+_≤_
    simp only
    omega
   ·show bT L P.n (pos1.set v (q+1))<bT L P.n pos1
    omega
  ·refine ad (aa ?_)
   (repeat' (first
    |refine ak (gs:=[999]) rfl ?_
    |refine ab [999] (af 5 rfl rfl rfl rfl) rfl ?_))
   refine ax [] (e6 P.N P.A P.c P.b P.o hP.arcs hP.right.len r hr2) rfl rfl rfl rfl (by kernel_rfl) ⟨⟨4,_,by simp[kJ],rfl,aq _ _ _,ay⟩,trivial⟩ (fun _=>rfl) ?_
   rintro _ H' ⟨rfl,rfl⟩
   refine⟨rfl,?_⟩
   (repeat' (first
    |refine ak (gs:=[999]) rfl ?_
    |refine ab [999] (af 5 rfl rfl rfl rfl) rfl ?_))
   refine ai ?_
   refine aP 7 (v':=.int .i64 (d9 P.N r:Int)) rfl (congrArg (Value.int .i64) hte.1) ?_
   refine ad ?_
   refine bp 14 [(0,true),(1,true),(2,true),(3,true),(4,true),(5,true),(6,true),(7,true),(8,true),(9,true),(10,true),(11,true),(12,true),(13,false)] [5,6] (by kernel_rfl) (by decide) rfl ?_
   (repeat' (first
    |refine aZ (gs:=[999]) rfl rfl ?_
    |refine aj [999] rfl (af 0 rfl rfl rfl rfl) rfl ?_
    |refine aj [999] rfl (aJ (b:=P.gr) (n:=2*P.N.arcs.length) (c:=P.cr) rfl (congrArg (fun A=>some (Value.slice A (2*P.N.arcs.length) P.cr)) hAr) rfl rfl rfl hr2) rfl ?_
    |refine aj [999] rfl (aD (g:=P.gr) (n:=2*P.N.arcs.length) (cap:=P.cr) 1 rfl rfl (congrArg (fun A=>some (aO.own (.slice A (2*P.N.arcs.length) P.cr) 2 1 (2*P.N.arcs.length) (ap s2.rm))) hAr) hri) rfl ?_))
   refine cE 75 (v':=.int .i64 (tr.getD r 0-4611686018427387904)) rfl (congrArg (Value.int .i64) (bU (by omega))) ?_
   refine a6 rfl ?_
   obtain⟨row2,hF2⟩:=hI2.fa
   have hvfr:=hI2.ta.free v hv hvn
   refine ao [] (sv hF2 hN hvN (p:=[v]) ⟨rfl,hvn⟩ (d:=tr.getD r 0-4611686018427387904) (by omega) (by intro y hy;rw[List.mem_singleton.1 hy];omega)) rfl rfl rfl rfl (by kernel_rfl) aK.refl trivial (fun _=>rfl) ?_
   rintro _ H' ⟨fs3,row3,rfl,hF3,hk3⟩
   refine⟨rfl,ai ⟨⟨[5,6],by decide,rfl⟩,?_⟩⟩
   refine bv ?_
   refine ai ?_
   obtain⟨p,hp⟩:=hF3.path (d9 P.N r) (by omega)
   have hvp:v∉p:=fun hin=>by
    have h1:=(hI2.ta.path_lv hP hp htn v hin).1
    have h2:=(ez hP hrm).2.2
    omega
   refine ad (aa ?_)
   (repeat' (first
    |refine ak (gs:=[999]) rfl ?_
    |refine ab [999] (af 5 rfl rfl rfl rfl) rfl ?_))
   refine ao [] (yz hF3 hN hvN (show d9 P.N r<P.n+1 by omega) hvn hp hvp) rfl rfl rfl rfl (by kernel_rfl) aK.refl trivial (fun _=>rfl) ?_
   rintro _ H' ⟨fs4,row4,rfl,hF4,hk4⟩
   refine⟨rfl,?_⟩
   (repeat' (first
    |refine ak (gs:=[999]) rfl ?_
    |refine ab [999] (af 5 rfl rfl rfl rfl) rfl ?_))
   refine ai ?_
   obtain⟨w,hw⟩:∃ w,d9 P.N r=w:=⟨_,rfl⟩
   rw[hw] at hF4 htn
   rw[hw]
   obtain⟨Aw,cw,W,hun,hWd,hWm,hWl⟩:=hI2.tb.get htn
   have hul:=hI2.tb.len
   have hwu:w<s2.un.length:=by omega
   obtain⟨rw2,hrw2⟩:∃ x:eu,x=⟨Aw,cw,gb W⟩:=⟨_,rfl⟩
   have hrw2l:rw2.l=gb W:=by rw[hrw2]
   have hrw2n:rw2.l.length≤10000:=by rw[hrw2l,da];omega
   have hun2:s2.un[w]?=some rw2:=by rw[hrw2];exact hun
   obtain⟨R,hR⟩:∃ R,R=(P.rows s2.un).eraseIdx (P.rowsL.length+w):=⟨_,rfl⟩
   refine bA (K:=bH 3 rw2::((P.fo fs4++[P.sg,P.pc s2.k s2.w,P.rc s2.rm,P.lc s2.vals,P.uc s2.un])++R)) (by
    rw[hR]
    exact aK.front (A:=P.fo fs4++[P.sg,P.pc s2.k s2.w,P.rc s2.rm,P.lc s2.vals,P.uc s2.un]) (R:=P.rows s2.un) (i:=P.rowsL.length+w) (c:=bH 3 rw2) (by unfold EP.rows;rw[List.getElem?_map,List.getElem?_append_right (by omega),Nat.add_sub_cancel_left,hun2];rfl)) ?_
   refine ad ?_
   refine bp 16 [(0,true),(1,true),(2,true),(3,true),(4,true),(5,true),(6,true),(7,true),(8,true),(9,true),(10,true),(11,true),(12,true),(13,false),(14,false),(15,true)] [6,9] (by kernel_rfl) (by decide) rfl ?_
   (repeat' (first
    |refine aZ (gs:=[999]) rfl rfl ?_
    |refine aj [999] rfl (af 0 rfl rfl rfl rfl) rfl ?_
    |refine aj [999] rfl (aJ rfl rfl rfl rfl rfl (show w<P.n+1 by omega)) rfl ?_
    |refine aj [999] rfl (aD (v:=cH rw2) 1 rfl rfl rfl (show (s2.un.map cH)[w]?=some (cH rw2) by rw[List.getElem?_map,hun2];rfl)) rfl ?_))
   refine a6 rfl ?_
   refine bK rfl rfl rfl rfl rfl rfl rfl (fun _=>rfl) fun g2=>?_
   refine ai ⟨⟨[7,10],by decide,rfl⟩,?_⟩
   refine a6 rfl ?_
   refine be (n:=rw2.l.length) (m:=1) (off:=0) (news:=ap [(v:Int)]) 1 0 rfl rfl rfl rfl rfl rfl (by decide) rfl rfl (aL g2 _ _ (0,0)) (fun _=>rfl) rfl rfl (by omega) (by omega) (fun _ _=>rfl) fun A2 c2=>?_
   rw[show rw2.l.length+1=(rw2.l++[(v:Int)]).length by simp,show ap rw2.l++ap [(v:Int)]=ap (rw2.l++[(v:Int)]) by simp[ap]]
   refine ai ⟨⟨[7,10],by decide,rfl⟩,?_⟩
   refine aj [] rfl (aJ rfl rfl rfl rfl rfl (show w<P.n+1 by omega)) rfl ?_
   refine bv ?_
   refine aQ 10 rfl rfl rfl rfl (dk rfl rfl rfl (by rw[List.length_map];exact hwu)) [] rfl ?_
   refine ai ?_
   obtain⟨un',hun'⟩:∃ x,x=s2.un.set w ⟨A2,c2,rw2.l++[(v:Int)]⟩:=⟨_,rfl⟩
   have hfin:∀ {X:Cx} {c0:aO},aK X (c0::bH 3 ⟨A2,c2,rw2.l++[(v:Int)]⟩::((P.fo fs4++[P.sg,P.pc s2.k s2.w,P.rc s2.rm,P.lc s2.vals,P.uc un'])++R)) (eb P ⟨s2.vals,un',fs4,s2.rm,s2.k,s2.w⟩):=by
    intro X c0
    refine aK.trans (aK.re (A:=c0::bH 3 ⟨A2,c2,rw2.l++[(v:Int)]⟩::(P.fo fs4++[P.sg,P.pc s2.k s2.w,P.rc s2.rm,P.lc s2.vals,P.uc un'])) (A1:=bH 3 ⟨A2,c2,rw2.l++[(v:Int)]⟩::(P.fo fs4++[P.pc s2.k s2.w,P.rc s2.rm,P.lc s2.vals,P.uc un'])) [1,2,3,4,5,7,8,9,10] rfl (by decide)) ?_
    rw[hR]
    refine aK.trans (aK.back (A:=P.fo fs4++[P.pc s2.k s2.w,P.rc s2.rm,P.lc s2.vals,P.uc un']) (by unfold EP.rows;rw[List.length_map,List.length_append];omega)) ?_
    rw[pG,← hun']
    exact aK.refl
   rw[show (s2.un.map cH).set w (.slice A2 (rw2.l++[(v:Int)]).length c2)=un'.map cH from by rw[hun',List.map_set];rfl]
   refine bA hfin ?_
   refine ad (aa (ae [] rfl ?_))
   refine aB ⟨_,rfl,true,⟨s2.vals,un',fs4,s2.rm,s2.k,s2.w⟩,rfl,rfl,pos1,hPI1,hw2,hr1,.inl ⟨rfl,q,r,hq,hr,by omega,?_,?_⟩⟩
   ·have hh:=hI2.ta.hook hP hv hvn hq hr
    have hrr2:s2.rm.getD r 0=tr.getD r 0:=hI2.ta.lead v r hrm (fun _ h=>absurd hvn h)
    rw[hrr2,hw] at hh
    rw[hw]
    exact⟨⟨row4,hF4⟩,hh,hI2.vo,by rw[hun',hrw2l,show gb W++[(v:Int)]=gb (W++[v]) by simp[gb]];exact hI2.tb.add hun hWd hWm hv hvn⟩
   ·show s2.k+fs4.k+_≤_
    have:s2.cost=s2.k+s2.fs.k:=rfl
    omega
 ·refine ad (aa (ae [] rfl ?_))
  refine bA kn (aB ⟨_,rfl,false,s1,rfl,rfl,pos1,hPI1,hw1,hr1,.inr ⟨rfl,fun p hp=>?_,hI1,hk1⟩⟩)
  rw[hq] at hp
  simp only[Option.some.injEq] at hp
  subst hp
  rw[hrwl,List.length_map] at hge
  omega
end
end Go.Proofs.YtpbmihpjgjbndaaGreatDoor
