/- Joined. -/
import Derived.Test.YtmpddimhleianaaGreatT4
import Derived.Test.YtmpddimhleianaaGreatU2
set_option linter.unusedVariables false
set_option linter.unusedSimpArgs false
set_option maxRecDepth 8000
set_option maxHeartbeats 4000000
namespace Go.FH
open Go Go.RowKit
def orN(p:Nat->Bool):Nat->Bool
 |0=>false
 |k+1=>orN p k || p k
end Go.FH
namespace Go.Proofs.YtmpddimhleianaaGreat
open Go Go.FH Go.RowKit
end Go.Proofs.YtmpddimhleianaaGreat
namespace Go.Proofs.YtmpddimhleianaaGreat
open Go Go.FH Go.RowKit
def tn(t:List Nod):List Rt:=t.map (·.blk.root)
def eaE(s:ap)(i:Nat):Int:=cE (gO s.early i).vals s.cfg.bals.length
def qt(s:ap)(i:Nat):Int:=
 if (dn s.orph i).root=rt0 then 1 else if (dn s.orph i).root∈tn s.nodes then 1 else if (dn s.orph i).root∈(s.orph.take i).map (·.root)then 1 else if (dn s.orph i).parent∈tn s.nodes then 1
 else if (dn s.orph i).timely=true then 1 else if s.now<(dn s.orph i).slot then 1 else if (dn s.orph i).slot<=(dk s.f.ep s.cfg.spe).1 then 1 else 0
def zV(s:ap):Bool:=decide (frE (eaE s) (s.early.length-0) 0=0)&&decide (frE (qt s) (s.orph.length-0) 0=0)
def oL(s:ap):Int:=
 if ib s.cfg≠0 then ib s.cfg else if statV s.nodes≠0 then statV s.nodes
 else if s.cfg.lim.node<s.nodes.length then 11 else if s.cfg.lim.orph<s.orph.length then 11 else if s.cfg.lim.early<s.early.length then 11 else if s.cfg.lim.table<s.tabs.length then 11
 else if KK s=false then 2 else if (decide (frE (pR s) (s.tabs.length-0) 0=0)&&orN (fun i=>decide ((tab s.tabs i).cp=s.j)) s.tabs.length)=false then 2
 else if nF s=false then 2 else if wy s=false then 2 else if zV s=false then 2 else 0
structure Qw(s:ap):Prop where
 bn:s.nodes.length<=2097152
 bl:s.latest.length<=2097152
 be:s.eqv.length<=2097152
 bt:s.tabs.length<=2097152
 bb:∀t∈s.tabs,t.bals.length<=2097152
 bu:∀t∈s.tabs,∀x∈t.bals,0<=x/\x<18446744073709551616
 bo:s.orph.length<=2097152
 ba:s.early.length<=2097152
 bv:∀a∈s.early,a.vals.length<=2097152
 bc:s.cfg.bals.length<=2097152
 cu:∀x∈s.cfg.bals,0<=x/\x<18446744073709551616
 uf:U64 s.f.ep
theorem Qb{c:cU}(h:ib c=0):(1<=c.spe/\c.spe<=64)/\(1<=c.lim.node/\0<=c.lim.orph/\0<=c.lim.early/\1<=c.lim.table)/\c.gen≠rt0/\gh ⟨⟨0,c.gen⟩,c.bals⟩ c.bals.length=0/\c.bals.length<=1024:=by
 unfold ib at h;by_cases q0:c.spe<1
 ·rw[al7 q0]at h;cases h
 rw[al5 q0]at h;by_cases q1:64<c.spe
 ·rw[al7 q1]at h;cases h
 rw[al5 q1]at h;by_cases q2:100<c.boost
 ·rw[al7 q2]at h;cases h
 rw[al5 q2]at h;by_cases q3:1024<(c.bals.length:Int)
 ·rw[al7 q3]at h;cases h
 rw[al5 q3]at h;by_cases q4:wit c.lim.node 1 4096=false
 ·rw[al7 q4]at h;cases h
 rw[al5 q4]at h;by_cases q5:wit c.lim.orph 0 64=false
 ·rw[al7 q5]at h;cases h
 rw[al5 q5]at h;by_cases q6:wit c.lim.early 0 256=false
 ·rw[al7 q6]at h;cases h
 rw[al5 q6]at h;by_cases q7:wit c.lim.table 1 64=false
 ·rw[al7 q7]at h;cases h
 rw[al5 q7]at h;by_cases q8:wit c.lim.retry 0 256=false
 ·rw[al7 q8]at h;cases h
 rw[al5 q8]at h;by_cases q9:c.lim.backoff<1
 ·rw[al7 q9]at h;cases h
 rw[al5 q9]at h;by_cases q10:1048576<c.lim.backoff
 ·rw[al7 q10]at h;cases h
 rw[al5 q10]at h;by_cases q11:c.gen=rt0
 ·rw[al7 q11]at h;cases h
 rw[al5 q11]at h;simp only[wit,akc,amk,amg]at q4 q5 q6 q7;exact⟨⟨WL,WL⟩,⟨q4.1,q5.1,q6.1,q7.1⟩,q11,h,WL⟩
def tk(c:cU):ap:=⟨c,List.replicate c.bals.length dL,[],⟨0,c.gen⟩,⟨0,c.gen⟩,[],[],[⟨adM c.gen,-1,1⟩],1,rt0,[⟨⟨0,c.gen⟩,c.bals⟩]⟩
theorem OU(c:cU):tickA (kO c)=tk c:=rfl
theorem Qn(c:cU):sQ (tk c)=⟨⟨0,c.gen⟩,⟨0,c.gen⟩⟩:=rfl
theorem Rd(c:cU):fX (tk c).tabs 0=(tk c).tabs:=by
 unfold fX;show bg _ [] 1=_
 rw[cX,ac3];rfl
theorem Sa(c:cU):dK (tk c) ⟨0,c.gen⟩ ⟨0,c.gen⟩=tk c:=by
 have m1:fh (tk c).j ⟨0,c.gen⟩=⟨0,c.gen⟩:=by unfold fh;split<;>rfl
 have m2:fh (tk c).f ⟨0,c.gen⟩=⟨0,c.gen⟩:=by unfold fh;split<;>rfl
 unfold dK;rw[m1,m2];split
 ·rfl
 ·rw[al7 (show (⟨0,c.gen⟩:Cp)=(tk c).f from rfl)];simp only[Rd];rfl
theorem QI(c:cU):tickB (tk c)=tk c:=by
 unfold tickB;rw[Qn,Sa];split<;>rfl
theorem rS(c:cU):gp (kO c)=(tk c,0):=by
 unfold gp;rw[al5 (show ¬ (1099511627776:Int)<=(kO c).now from by show ¬ (1099511627776:Int)<=0;decide),OU,QI];rfl
end Go.Proofs.YtmpddimhleianaaGreat
