/- The engine and the words that all chapters share: several texts in one. -/
import Derived.Test.YtpbmihpjgjbndaaGreatDoorQX27
/- Phases by either engine: From and Max with the sign as a number. -/
set_option linter.unusedVariables false
set_option linter.unusedSimpArgs false
namespace Go.Proofs.YtpbmihpjgjbndaaGreatDoor
open Go.RowKit
theorem Dn.lev {N:a8} {least:Int} {f f':List Int} {p k:Nat} (h:Dn N least f p k f'):∃ lv,dr N (aM (N.arcs.zip f)) least lv:=by
 cases h with
 |stop h1 _=>exact⟨_,h1⟩
 |step h1 _ _ _=>exact⟨_,h1⟩
theorem Dn.few0 {N:a8} (hR:N.Right) {least:Int} (hle:1≤least) {f f':List Int} {p k:Nat} (h:Dn N least f p k f'):aH N f→∀ lv,dr N (aM (N.arcs.zip f)) least lv→
 (bZ lv N.snk.toNat<0→p=0)∧(0≤bZ lv N.snk.toNat→(p:Int)+bZ lv N.snk.toNat≤N.nodes):=by
 induction h with
 |stop h1 h2=>
  intro hf lv hlv
  have:=kh hlv h1 N.snk.toNat
  exact⟨fun _=>rfl,fun h=>by omega⟩
 |@step f f1 f' lv0 ws p k h1 h2 h3 h4 ih=>
  intro hf lv hlv
  have e:=kh hlv h1 N.snk.toNat
  obtain⟨k1,_,_⟩:=h3.keeps hR hle hf h1
  obtain⟨lv1,hl1⟩:=h4.lev
  obtain⟨i1,i2⟩:=ih k1 lv1 hl1
  have hr:=h1.rng N.snk.toNat
  have hnn:=hR.nodes
  refine⟨fun h=>by omega,fun h=>?_⟩
  by_cases hz:0≤bZ lv1 N.snk.toNat
  ·have h5:=(h3.rise hR hle hf h1 hl1 hz).2
   have h6:=i2 hz
   omega
  ·have:=i1 (by omega)
   omega
theorem Dn.few {N:a8} (hR:N.Right) {least:Int} (hle:1≤least) {f f':List Int} {p k:Nat} (h:Dn N least f p k f') (hf:aH N f):(p:Int)+1≤N.nodes:=by
 obtain⟨lv,hlv⟩:=h.lev
 obtain⟨h1,h2⟩:=h.few0 hR hle hf lv hlv
 have hnn:=hR.nodes
 have hd:=hR.diff
 have hs:=hR.src
 have hk:=hR.snk
 by_cases hz:0≤bZ lv N.snk.toNat
 ·have h3:=h2 hz
  have:bZ lv N.snk.toNat≠0:=fun h0=>by
   have:=hlv.zero _ h0
   omega
  omega
 ·have:=h1 (by omega)
  omega
theorem xf (N:a8) (hN:N.Fits) (hR:N.Right) (A:Option Addr) (c b o:Nat) (hA:N.arcs≠[]→A=some ⟨b,o,none⟩) (sg:Int) (hsg:sg=112∨sg=116):
 Fn 12 [bu N A c,.int .u8 sg] [] [.seg b o (arcs N.arcs)] fun v H'=>∃ (f':List Int) (p k s:Nat) (A':Option Addr) (c':Nat),Dn N 1 (List.replicate N.arcs.length 0) p k f'∧(k:Int)≤9223372036854775806∧(p:Int)+1≤N.nodes∧(sg=112→s=0)∧(sg=116→2*N.arcs.length*p≤s)∧s≤fw N.nodes.toNat N.arcs.length*p∧
  v=.tuple #[rk A' f'.length c' p k s,.int .i64 0]∧H'=[.own (.slice A' f'.length c') 2 1 f'.length (ap f')]:=by
 rcases hsg with rfl|rfl
 ·refine (yJ N hN hR A c b o hA).mono ?_
  rintro v H' ⟨f',p,k,A',c',hd,hk,rfl,rfl⟩
  exact⟨f',p,k,0,A',c',hd,hk,hd.few hR (by decide) (g9 N hR),fun _=>rfl,fun h=>absurd h (by decide),Nat.zero_le _,rfl,rfl⟩
 ·refine (x6 N hN hR A c b o hA).mono ?_
  rintro v H' ⟨f',p,k,s,A',c',hd,hk,hp,hs1,hs2,rfl,rfl⟩
  exact⟨f',p,k,s,A',c',hd,hk,hp,fun h=>absurd h (by decide),fun _=>hs1,hs2,rfl,rfl⟩
end Go.Proofs.YtpbmihpjgjbndaaGreatDoor
/- A path of arcs, in plain terms. -/
set_option linter.unusedVariables false
set_option linter.unusedSimpArgs false
namespace Go.Proofs.YtpbmihpjgjbndaaGreatDoor
open Go.RowKit
section
variable {cs:List Int} {mo:Int}
end
end Go.Proofs.YtpbmihpjgjbndaaGreatDoor
