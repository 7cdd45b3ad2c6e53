import Derived.WalkSpells
import Derived.WalkLawsBesides
import Derived.Test.YtmcnpaelaieniaaGreatDoorQB
import Derived.Recover
/- A part of the proof. -/
set_option linter.unusedVariables false
set_option linter.unusedSimpArgs false
set_option maxHeartbeats 8000000
namespace Go.Proofs.YtmcnpaelaieniaaGreatDoor
open Go.RowKit
def b9(n:Int):Prop:=-9223372036854775808<=n/\n<=9223372036854775807
instance (n:Int):Decidable (b9 n):=inferInstanceAs (Decidable (_/\_))
def jL(n:Int):Int×Int:=if b9 n then (n,0) else (0,3)
def td(r:Int×Int):Value:=.tuple #[.int .i64 r.1,.int .i64 r.2]
theorem rM{a b:Int}{r:Int×Int}(h:(a,b)=r):Ending.returned (.tuple #[.int .i64 a,.int .i64 b])=.returned (td r):=by
 subst h;rfl
theorem ow{n m:Int}(h:b9 n)(e:m=n):(m,0)=jL n:=by
 unfold jL;rw[if_pos h,e]
theorem uq{n:Int}(h:¬ b9 n):((0:Int),(3:Int))=jL n:=by
 unfold jL;rw[if_neg h]
theorem Jg(a b:Int)(w:World)(ha:b9 a)(hb:b9 b):
 Calls Tryz.prog 50 #[.int .i64 a,.int .i64 b] w λ e w'=>e=.returned (td (jL (a+b)))/\w'=w:=by
 cases h1:decide (a<wrap64 (a+b))<;>cases h2:decide (0<b)<;>cases h3:(b !=0)<;>
  (go_enter Tryz.func50,Tryz.ntmps50
   go_wp2
   go_ret2
   refine⟨rM ?_,rfl⟩;simp only[NW,decide_eq_false_iff_not,bne_iff_ne,bne_eq_false_iff_eq,ne_eq] at h1 h2 h3;unfold wrap64 at*;unfold b9 at ha hb
   first
    |exact ow (by unfold b9;omega) aa
    |exact uq (by unfold b9;omega))
theorem yv{a b:Int}(d:b9 b)(c:a≠0)(h:b9 (a*b)):wrap64 (a*b)=a*b/\wrap64 (Int.tdiv (wrap64 (a*b)) a)=b:=by
 have e:wrap64 (a*b)=a*b:=by unfold b9 wrap64 at*;omega
 refine⟨e,?_⟩;rw[e,Int.mul_tdiv_cancel_left b c];unfold b9 wrap64 at*;omega
theorem Ke{a b:Int}(w:b9 a)(x:a≠0)(h:¬ b9 (a*b))(hm:¬ (a=-1/\b=-9223372036854775808)):
 wrap64 (Int.tdiv (wrap64 (a*b)) a)≠b:=by
 intro d;have hp:b9 (wrap64 (a*b)):=by unfold b9 wrap64;omega
 have l:wrap64 (a*b)≠a*b:=λ e=>h (e▸hp);have f:∃ k,wrap64 (a*b)=a*b+18446744073709551616*k:=⟨-((a*b+9223372036854775808)/18446744073709551616),by unfold wrap64;omega⟩;obtain⟨k,f⟩:=f;have j:=Int.tmod_add_mul_tdiv (wrap64 (a*b)) a
 have m:(Int.tmod (wrap64 (a*b)) a).natAbs<a.natAbs:=by
  rw[Int.natAbs_tmod];exact Nat.mod_lt _ aa
 have c:b9 (Int.tdiv (wrap64 (a*b)) a)\/(a=-1/\b=-9223372036854775808):=by
  have g:=Int.natAbs_tdiv_le_natAbs (wrap64 (a*b)) a;by_cases n:b9 (Int.tdiv (wrap64 (a*b)) a)
  ·exact .inl n
  ·right
   have:Int.tdiv (wrap64 (a*b)) a=9223372036854775808:=by unfold b9 at*;omega
   rw[this] at d j;have i:b=-9223372036854775808:=by rw[<- d];unfold wrap64;omega
   refine⟨?_,i⟩;have o:(9223372036854775808:Int).natAbs=9223372036854775808:=rfl;rw[this,o] at g;have p:(wrap64 (a*b))=-9223372036854775808:=by unfold b9 at hp;omega
   rw[p] at this;have r:=Int.tmod_add_mul_tdiv (-9223372036854775808) a;rw[this] at r;have y:(Int.tmod (-9223372036854775808) a).natAbs<a.natAbs:=by rw[Int.natAbs_tmod];exact Nat.mod_lt _ aa
   unfold b9 at*;omega
 rcases c with c|c
 ·have s:Int.tdiv (wrap64 (a*b)) a=b:=by
   have u:wrap64 (Int.tdiv (wrap64 (a*b)) a)=Int.tdiv (wrap64 (a*b)) a:=by
    generalize Int.tdiv (wrap64 (a*b)) a=q at*
    unfold b9 at c;unfold wrap64;omega
   rw[<- u];exact d
  rw[s] at j;have v:k≠0:=λ e=>l (by rw[f,e];omega);unfold b9 at*
  generalize a*b=t at*
  omega
 ·exact hm c
theorem J2(a b:Int)(w:World)(ha:b9 a)(hb:b9 b):
 Calls Tryz.prog 73 #[.int .i64 a,.int .i64 b] w λ e w'=>e=.returned (td (jL (a*b)))/\w'=w:=by
 by_cases h0:a=0
 ·subst h0
  go_enter Tryz.func73,Tryz.ntmps73
  go_wp2
  go_ret2
  exact⟨rM (ow (by unfold b9;omega) aa),rfl⟩
 have hz:(a !=0)=true:=by simpa using h0
 have key:b9 (a*b)↔(wrap64 (Int.tdiv (wrap64 (a*b)) a)=b/\¬ (a=-1/\b=-9223372036854775808)):=
  ⟨fun h=>⟨(yv hb h0 h).2,fun ⟨x,y⟩=>by subst x;subst y;unfold b9 at h;omega⟩,
   λ ⟨h,hm⟩=>NE λ hi=>Ke ha h0 hi hm h⟩
 have hy:=λ h=>(yv hb h0 h).1;by_cases h1:wrap64 (Int.tdiv (wrap64 (a*b)) a)=b
 ·have n1:(wrap64 (Int.tdiv (wrap64 (a*b)) a) !=b)=false:=by simpa using h1
  have n2:(wrap64 (Int.tdiv (wrap64 (a*b)) a)==b)=true:=by simpa using h1
  by_cases hm:a=-1
  ·subst hm
   clear key hy h1 n1 n2 hz h0
   unfold b9 at ha hb;by_cases hb1:b=-9223372036854775808
   ·subst hb1;have e1:wrap64 9223372036854775808=-9223372036854775808:=by unfold wrap64;omega
    go_enter Tryz.func73,Tryz.ntmps73
    go_wp2
    go_ret2
    exact⟨rM (uq ab),rfl⟩
   ·have hb2:-9223372036854775807≤b:=by omega
    have m2:(b==-9223372036854775808)=false:=by simpa using hb1
    go_enter Tryz.func73,Tryz.ntmps73
    go_wp2
    go_ret2
    exact⟨rM (ow (by unfold b9;omega) aa),rfl⟩
  ·have m1:(a==-1)=false:=by simpa using hm
   have hi0:b9 (a*b):=key.2 ⟨h1,λ x=>hm x.1⟩;have hi:=hi0;have he:=hy hi0
   clear key hy h1 n1 n2 hi0
   unfold b9 at hb
   go_enter Tryz.func73,Tryz.ntmps73
   go_wp2
   go_ret2
   exact⟨rM (ow hi (by first|rfl|exact he)),rfl⟩
 ·have n1:(wrap64 (Int.tdiv (wrap64 (a*b)) a) !=b)=true:=by simpa using h1
  have n2:(wrap64 (Int.tdiv (wrap64 (a*b)) a)==b)=false:=by simpa using h1
  have hi:¬ b9 (a*b):=λ h=>h1 (key.1 h).1
  clear key hy
  go_enter Tryz.func73,Tryz.ntmps73
  go_wp2
  go_ret2
  exact⟨rM (uq hi),rfl⟩
theorem zI{f:FuncId}{args:LV_}{v:Value}(h:∀ w,Calls Tryz.prog f args.toArray w λ e w'=>e=.returned v/\w'=w):Fn f args [] [] λ u H'=>u=v/\H'=[]:=
 λ w hw=>(h w).mono λ e w' ⟨he,a⟩=>⟨v,[],he,by rw[a];exact hw,rfl,rfl⟩
theorem Iw{a b:Int}(c:b9 a)(d:b9 b):Fn 50 [.int .i64 a,.int .i64 b] [] [] λ v H'=>v=td (jL (a+b))/\H'=[]:=zI λ w=>Jg a b w c d
theorem Lo{a b:Int}(c:b9 a)(d:b9 b):Fn 73 [.int .i64 a,.int .i64 b] [] [] λ v H'=>v=td (jL (a*b))/\H'=[]:=zI λ w=>J2 a b w c d
theorem zS{n:Int}(h:b9 n):jL n=(n,0):=by unfold jL;rw[if_pos h]
theorem ED{n:Int}(h:¬ b9 n):jL n=(0,3):=by unfold jL;rw[if_neg h]
variable {X:Cx} {Q:e6} {E E':Env} {H:Heap}
def sq(fs:List (Nat×Nat×Nat))(cs:LV_):List (Nat×Value)->Option (LV_)
 |[]=>some cs
 |(i,v)::l=>match fs[i]? with
  |some (off,sz,_)=>match Nat.beq v.cells.toList.length sz with
   |true=>match Nat.ble (off+v.cells.toList.length) cs.length with
    |true=>sq fs (wr cs off v.cells.toList) l
    |false=>none
   |false=>none
  |none=>none
theorem Ct(off:Nat):∀ (l:LV_) (k:Nat) (cs:LV_),(l.zipIdx k).foldl (λ (cs:Array Value) (p:Value×Nat)=>cs.setIfInBounds (off+p.2) p.1) cs.toArray=(wr cs (off+k) l).toArray
 |[],k,cs=>rfl
 |v::l,k,cs=>by
  simp only[List.zipIdx_cons,OF];have:cs.toArray.setIfInBounds (off+k) v=(cs.set (off+k) v).toArray:=ai;rw[this,Ct off l (k+1)];rfl
theorem qm{fs:List (Nat×Nat×Nat)}{pl:Nat->Option (Nat×Nat)}(b:∀ i off sz f,fs[i]?=some (off,sz,f)->pl i=some (off,sz)):∀ (ps:List (Nat×Value)) (cs a:LV_),sq fs cs ps=some a->
 Instr.fill pl cs.toArray ps=some a.toArray
 |[],cs,a,h=>by simp only[sq,Na] at h;subst h;rfl
 |(i,v)::l,cs,a,h=>by
  unfold sq at h;split at h
  ·rename_i off sz f hi;split at h
   ·rename_i k;split at h
    ·rename_i m;unfold Instr.fill;rw[b i off sz f hi];have d:=Nat.eq_of_beq_eq_true k;have g:=Nat.le_of_ble_eq_true m;simp only[];rw[if_neg (by simp only[Array.length_toList] at d g;simp[d];omega)]
     have e:v.cells.zipIdx.foldl (λ (cs:Array Value) (p:Value×Nat)=>cs.setIfInBounds (off+p.2) p.1) cs.toArray=(wr cs off v.cells.toList).toArray:=by
      have:=Ct off v.cells.toList 0 cs;rw[<- PX]
      simpa using this
     have n:(v.cells.zipIdx.foldl (λ cs (x:Value×Nat)=>match x with|(c,j)=>cs.setIfInBounds (off+j) c) cs.toArray)=(wr cs off v.cells.toList).toArray:=e;rw[n];exact qm b l _ _ h
    ·cases h
   ·cases h
  ·cases h
def Ki(f:Field):Sem (Nat×Nat):=do pure (f.offset,<- sizeOf f.type)
theorem F6{f:Field}{i:TypeInfo}(h:Tryz.prog.info? f.type=some i)(w:World):(Ki f).run Tryz.prog w=.ok (f.offset,Tryz.prog.cellsOf f.type) w:=by
 simp[Ki,sizeOf,typeInfo,h,Program.cellsOf]
theorem uZ(w:World):∀ (F:List Field),(∀ f∈F,∃ i,Tryz.prog.info? f.type=some i)->
 (F.mapM (m:=Sem) Ki).run Tryz.prog w=.ok (F.map λ f=>(f.offset,Tryz.prog.cellsOf f.type)) w
 |[],_=>by simp
 |f::F,h=>by
  obtain⟨i,hi⟩:=h f ai;have a:=uZ w F (λ g b=>h g (by simp[b]));rw[List.mapM_cons];simp only[Sem.run_bind,F6 hi,Result.andThen_ok,a];rfl
theorem eF{o:Oper}{t s k:Nat}{fs:List (Nat×Nat×Nat)}{z:Value}{zs cs:LV_}{ps:Array (Nat×Operand)}{vs:List (Nat×Value)}(v:o.op=.build t ps)(u:tab t=some ⟨.struct fs,s,k,some z⟩)(y:z.cells=zs.toArray)
 (l:(fs.all λ f=>!(Nat.beq f.2.2 2))=true) (hp:rA E ps.toList=some vs) (A:sq fs zs vs=some cs):i7 X o E H (.agg cs.toArray):=by
 intro a w B K;obtain⟨j,hi,n,_,_⟩:=kv u;obtain⟨F,C,rfl⟩:=mt u;have D:=B.valsP _ _ hp;have G:(ps.map λ (i,x)=>(i,a.eval x)).toList=vs:=by rw[<- D];simp
 have b:∀ f∈F.toList,∃ i,Tryz.prog.info? f.type=some i:=by
  intro f p;have e:=PL.1 l (f.offset,Tryz.prog.cellsOf f.type,qg Tryz.prog f.type) (NB.2 ⟨f,p,rfl⟩);simp only[Bool.not_eq_true'] at e;unfold qg at e
  cases hu:Tryz.prog.info? f.type with
  |some i=>exact⟨i,rfl⟩
  |none=>simp[Program.underlying,hu] at e
 have hm:(F.mapM (m:=Sem) Ki).run Tryz.prog w=.ok (F.toList.map λ f=>(f.offset,Tryz.prog.cellsOf f.type)).toArray w:=by
  rw[PS];simp only[map_eq_pure_bind,Sem.run_bind,uZ w F.toList b,Result.andThen_ok];rfl
 have c:=qm (pl:=λ i=>((F.toList.map λ f=>(f.offset,Tryz.prog.cellsOf f.type)).toArray)[i]?) (λ i off sz L h=>by
  simp only[Ni,OM,N1] at h;obtain⟨f,p,e,I,_⟩:=h;simp[p,e,I]) vs zs cs A
 have g:(Instr.build t (ps.map λ (i,x)=>(i,a.eval x))).run Tryz.prog w=.ok (.agg cs.toArray) w:=by
  unfold Instr.build;rw[G];have q:(zeroValue t).run Tryz.prog w=.ok z w:=by simp[zeroValue,typeInfo,hi,n]
  simp only[Sem.run_bind,q,run_underlying C,Result.andThen_ok];have r:(F.mapM (m:=Sem) λ f=>do pure (f.offset,<- sizeOf f.type)).run Tryz.prog w=.ok (F.toList.map λ f=>(f.offset,Tryz.prog.cellsOf f.type)).toArray w:=hm;simp only[r,Result.andThen_ok,y];rw[c];rfl
 have d:(Instr.build t (ps.map λ x=>match x with|(i,x)=>(i,a.eval x))).run Tryz.prog w=.ok (.agg cs.toArray) w:=g;simp[execOp,v,d]
def W(X:Cx)(c:Code)(R:Exit->Act->World->Prop)(E:Env)(H:Heap):Prop:=∀ a w,gt X.n a E->dL X.w0 X.M w H->c.wp Tryz.prog R a w
def IV(K:Env->Heap->Prop):e6:=λ e E H=>match e with
 |.normal=>K E H
 |_=>False
theorem pn{x y:Code}{R:Exit->Act->World->Prop}(h:J X x (IV λ E H=>W X y R E H) E H):W X (.seq x y) R E H:=by
 intro a w f g;refine wp_seq (wp_mono (h a w f g) ?_);rintro e i w' ⟨E',H',b,c,d⟩
 cases e with
 |normal=>exact d i w' b c
 |_=>exact d.elim
theorem n7(l:List eq):(arcs l).length=l.length*3:=by
 induction l with
 |nil=>rfl
 |cons a l b=>
  have e:arcs (a::l)=[af a.fr,af a.to,af a.cap]++arcs l:=by simp[arcs]
  rw[e,Ng,b];simp;omega
theorem yu(l r:List eq):arcs (l++r)=arcs l++arcs r:=by simp[arcs]
structure aR where
 nodes:Int
 src:Int
 snk:Int
 arcs:List eq
structure aR.Right (N:aR):Prop where
 nodes:2<=N.nodes/\N.nodes<=500
 src:1<=N.src/\N.src<=N.nodes
 snk:1<=N.snk/\N.snk<=N.nodes
 diff:N.src≠N.snk
 len:N.arcs.length<=2000
 arc:∀ a∈N.arcs,(1<=a.fr/\a.fr<=N.nodes)/\(1<=a.to/\a.to<=N.nodes)/\0<=a.cap
 sum:(N.arcs.map (·.cap)).sum<=4611686018427387903
def cd(N:aR)(A:OA_)(c:Nat):Value:=.agg #[.int .i64 N.nodes,.int .i64 N.src,.int .i64 N.snk,.slice A N.arcs.length c]
def j4(N:aR)(v:Int):Prop:=1<=v/\v<=N.nodes
open Classical in
noncomputable def kA(N:aR):Int->List eq->Int
 |_,[]=>0
 |s,a::l=>if ¬ (j4 N a.fr/\j4 N a.to) then 4 else if a.cap<0 then 3 else if ¬ b9 (s+a.cap)\/4611686018427387903<s+a.cap then 7 else kA N (s+a.cap) l
open Classical in
noncomputable def dt(N:aR):Int:=if N.nodes<2\/500<N.nodes then 3 else if ¬ (j4 N N.src/\j4 N N.snk) then 4 else if N.src=N.snk then 5 else if 2000<N.arcs.length then 6 else kA N 0 N.arcs
theorem rg(N:aR):∀ (l:List eq) (s:Int),0<=s->(∀ a∈l,(1<=a.fr/\a.fr<=N.nodes)/\(1<=a.to/\a.to<=N.nodes)/\0<=a.cap)->s+(l.map (·.cap)).sum<=4611686018427387903->kA N s l=0
 |[],_,_,_,_=>rfl
 |a::l,s,g,h,d=>by
  have c:=h a ai
  have hp:0<=(l.map (·.cap)).sum:=by
   have:∀ (l:List eq),(∀ a∈l,0<=a.cap)->0<=(l.map (·.cap)).sum:=by
    intro l
    induction l with
    |nil=>intro _;simp
    |cons x l e=>intro h;have:=e λ a b=>h a (by simp[b]);have:=h x ai;simp only[Ns,NC];omega
   exact this l λ a b=>(h a (by simp[b])).2.2
  simp only[Ns,NC] at d;unfold kA;rw[if_neg (by unfold j4;intro f;exact f ⟨c.1,c.2.1⟩),if_neg aa,if_neg (by unfold b9;omega)];exact rg N l (s+a.cap) aa (λ a b=>h a (by simp[b])) aa
theorem aR.Right.check{N:aR}(h:N.Right):dt N=0:=by
 unfold dt;have b:=h.nodes;rw[if_neg aa,if_neg (by intro a;exact a ⟨h.src,h.snk⟩),if_neg h.diff,if_neg (by have:=h.len;omega)];exact rg N N.arcs 0 aa h.arc (by have:=h.sum;omega)
def bY(N:aR)(A:OA_)(c:Nat):LV_:=[.int .i64 N.nodes,.int .i64 N.src,.int .i64 N.snk,.slice A N.arcs.length c]
theorem rj(N:aR)(A:OA_)(c p:Nat)(v:Int):Fn 49 [.int .i64 v,.pointer (some ⟨p,0,none⟩)] [] [.seg p 0 (bY N A c)] λ u H'=>u=.bool (dU (j4 N v))/\H'=[]:=by
 refine aT Tryz.func49 λ w0=>?_;refine cW ?_;by_cases h:1<=v
 ·refine d7 6 rfl h<|ic ?_;refine ae [2] (fA 0 (i:=0) rfl rfl rfl rfl rfl) rfl<|cX [2] ?_;exact hZ [] ab rfl<|bM ⟨_,rfl,M8 Value.bool (eB (by unfold j4;omega)),rfl⟩
 ·refine dD 6 rfl h<|cX [2] ?_;exact hZ [] ab rfl<|bM ⟨_,rfl,M8 Value.bool (aZ (by unfold j4;omega)).symm,rfl⟩
end Go.Proofs.YtmcnpaelaieniaaGreatDoor
