/- The engine and the words that all chapters share: several texts in one. -/
import Derived.Test.YtpbmihpjgjbndaaGreatQX18
import Derived.Test.YtpbmihpjgjbndaaGreatQX17
import Derived.Test.YtpbmihpjgjbndaaGreatQX9
import Derived.Test.YtpbmihpjgjbndaaGreatQX32
/- A path of arcs, in plain terms. -/
set_option linter.unusedVariables false
set_option linter.unusedSimpArgs false
namespace Go.Proofs.YtpbmihpjgjbndaaGreat
open Go.RowKit
section
variable {cs:List Int} {mo:Int}
end
end Go.Proofs.YtpbmihpjgjbndaaGreat
/- Chapter 12's example, in plain terms; phases find but one thing. -/
set_option linter.unusedVariables false
set_option linter.unusedSimpArgs false
namespace Go.Proofs.YtpbmihpjgjbndaaGreat
open Go.RowKit
theorem Dn.uniq {N:bt} (hR:N.Right) {least:Int} (hle:1≤least) {f f1:List Int} {p1 k1:Nat} (h:Dn N least f p1 k1 f1):∀ {f2:List Int} {p2 k2:Nat},Dn N least f p2 k2 f2→f1=f2∧p1=p2∧k1=k2:=by
 induction h with
 |stop h1 h2=>
  intro f2 p2 k2 h
  cases h with
  |stop _ _=>exact⟨rfl,rfl,rfl⟩
  |step j1 j2 _ _=>rw[qH j1 h1] at j2;omega
 |step h1 h2 h3 _ ih=>
  intro f2 p2 k2 h
  cases h with
  |stop j1 j2=>rw[qH j1 h1] at j2;omega
  |step j1 j2 j3 j4=>
   obtain⟨rfl,rfl⟩:=h3.uniq hR j3
   obtain⟨e1,e2,e3⟩:=ih j4
   exact⟨e1,by omega,by omega⟩
end Go.Proofs.YtpbmihpjgjbndaaGreat
/- What comes of phases, as one word: of any network, by either engine or none. -/
set_option linter.unusedVariables false
set_option linter.unusedSimpArgs false
namespace Go.Proofs.YtpbmihpjgjbndaaGreat
open Go.RowKit
def yd (N:bt) (f:List Int) (least sg e:Int) (p k:Nat) (f':List Int):Prop:=
 (dM N f least=0∧(sg=112∨sg=116)∧e=0∧Dn N least f p k f')∨
 (dM N f least=0∧¬ (sg=112∨sg=116)∧e=1∧p=0∧k=0∧f'=[])∨
 (dM N f least≠0∧e=dM N f least∧p=0∧k=0∧f'=[])
def w9 (N:bt) (f:List Int) (least sg:Int) (v:Value) (H':Heap):Prop:=
 ∃ (e:Int) (f':List Int) (p k s:Nat) (A':Option Addr) (c':Nat),yd N f least sg e p k f'∧(sg=116∨s=0)∧v=.tuple #[kD A' f'.length c' p k s,.int .i64 e]∧H'=[.own (.slice A' f'.length c') 2 1 f'.length (aw f')]
def u7 (N:bt) (f:List Int) (least sg:Int) (v:Value) (H':Heap):Prop:=
 ∃ (e:Int) (f':List Int) (p k:Nat) (A':Option Addr) (c':Nat),yd N f least sg e p k f'∧v=.tuple #[mb A' f'.length c' p k,.int .i64 e]∧H'=[.own (.slice A' f'.length c') 2 1 f'.length (aw f')]
theorem Fn.addnil {g:FuncId} {args:List Value} {H:Heap} {R R':Value→Heap→Prop} (e sz:Nat) (h:Fn g args [] H R) (hr:∀ v H',R v H'→R' v H'∨R' v (.own (.slice none 0 0) e sz 0 []::H')):Fn g args [] H R':=fun w hw=>
 (h w hw).mono fun _ _ ⟨v,H',h1,h2,h3⟩=>(hr v H' h3).elim (fun h=>⟨v,H',h1,h2,h⟩) (fun h=>⟨v,_,h1,h2.addnil e sz,h⟩)
theorem v8 {N:bt} {f:List Int} {least sg:Int} {v:Value} {H':Heap} (h:r5 N f least sg v H'):w9 N f least sg v H'∨w9 N f least sg v (.own (.slice none 0 0) 2 1 0 []::H'):=by
 rcases h with ⟨he,hs,f',p,k,s,A',c',hd,h0,rfl,rfl⟩|⟨he,h1,h2,rfl,rfl⟩|⟨he,rfl,rfl⟩
 ·exact .inl ⟨0,f',p,k,s,A',c',.inl ⟨he,hs,rfl,hd⟩,by omega,rfl,rfl⟩
 ·exact .inr ⟨1,[],0,0,0,none,0,.inr (.inl ⟨he,by omega,rfl,rfl,rfl,rfl⟩),.inr rfl,rfl,rfl⟩
 ·exact .inr ⟨_,[],0,0,0,none,0,.inr (.inr ⟨he,rfl,rfl,rfl,rfl⟩),.inr rfl,rfl,rfl⟩
theorem tT {N:bt} {f:List Int} {least sg:Int} {v:Value} {H':Heap} (h:qN N f least sg v H'):u7 N f least sg v H'∨u7 N f least sg v (.own (.slice none 0 0) 2 1 0 []::H'):=by
 rcases h with ⟨he,hs,f',p,k,A',c',hd,rfl,rfl⟩|⟨he,h1,h2,rfl,rfl⟩|⟨he,rfl,rfl⟩
 ·exact .inl ⟨0,f',p,k,A',c',.inl ⟨he,hs,rfl,hd⟩,rfl,rfl⟩
 ·exact .inr ⟨1,[],0,0,none,0,.inr (.inl ⟨he,by omega,rfl,rfl,rfl,rfl⟩),rfl,rfl⟩
 ·exact .inr ⟨_,[],0,0,none,0,.inr (.inr ⟨he,rfl,rfl,rfl,rfl⟩),rfl,rfl⟩
theorem vV (N:bt) (hN:N.Fits) (hl2:N.arcs.length≤2000) (A:Option Addr) (c b o:Nat) (hA:N.arcs≠[]→A=some ⟨b,o,none⟩) (sg:Int):
 Fn 22 [bi N A c,.int .u8 sg] [] [.seg b o (arcs N.arcs)] (w9 N (List.replicate N.arcs.length 0) 1 sg):=
 (v4 N hN hl2 A c b o hA sg).addnil 2 1 fun _ _=>v8
theorem uf (N:bt) (hN:N.Fits) (hl2:N.arcs.length≤2000) (A:Option Addr) (c b o:Nat) (hA:N.arcs≠[]→A=some ⟨b,o,none⟩) (sg:Int):
 Fn 33 [bi N A c,.int .u8 sg] [] [.seg b o (arcs N.arcs)] (u7 N (List.replicate N.arcs.length 0) 1 sg):=
 (wd N hN hl2 A c b o hA sg).addnil 2 1 fun _ _=>tT
end Go.Proofs.YtpbmihpjgjbndaaGreat
