/-
 My texts Ep, Eq, Fd, Fe, joined.
-/
import Derived.Test.YtnjdpnfglgcjcaaGreatW7
import Derived.Test.YtnjdpnfglgcjcaaGreatW3
import Derived.Test.YtnjdpnfglgcjcaaGreatChecked
import Derived.KernelRfl
import Derived.Test.YtnjdpnfglgcjcaaGreatW9
import Derived.Test.YtnjdpnfglgcjcaaGreatW8
set_option linter.unusedVariables false
set_option linter.unusedSimpArgs false
set_option maxRecDepth 8000
set_option maxHeartbeats 4000000
namespace Go.Proofs.YtnjdpnfglgcjcaaGreat
open Go Go.FH Go.RowKit
theorem PF(x:Tv)(ρ:Nat->Nat):(qT x).map (ren ρ)=qT x:=by simp only[qT,Tab.map,ren,ei]
theorem TF(x:Tv)(σ:St)(zs:List Nat):(qT x).map (fz σ zs)=qT x:=by simp only[qT,Tab.map,fz,fy]
theorem Wl(x:Tv):(qT x).good=true:=rfl
attribute [go_sem] PF TF Wl
theorem aag(x:Bool):B0 true (.bool x) (.tup [])=.bool x:=rfl
theorem aaf(y:Bool):B0 false (.tup []) (.bool y)=.bool y:=rfl
attribute [go_sem] aag aaf
theorem pz(l m:List Int)(c d:Bool)(hl:l.length<=140737488355328)(hm:m.length<=140737488355328):PC Tryz.prog 133 [.sl 1 c (ax .i64 l),.sl 1 d (ax .i64 m)] (.bool (decide (l=m))):=by
 refine PC.fact 6 CK (by simp) ⟨bj _ _,bj _ _,trivial⟩ trivial ?_;unfold rr;refine bd ?_;by_cases hlen:l.length=m.length
 ·have h0:((l.length:Int) != (m.length:Int))=false:=by rw[hlen];exact bne_self_eq_false _
  refine gon ?_;refine aB ?_ (by(try simp only[go_sem,h0]);try exact evd);refine gon ?_;refine li (fun i:Nat=>⟨6,[.sl 1 c (ax .i64 l),.sl 1 d (ax .i64 m),.dead,.dead,.bool false,.int .i64 i],[]⟩) (fun _=>[]) (fun i=>l.length-i) (fun i=>i<=l.length/\l.take i=m.take i) [] 0 ⟨by omega,rfl⟩ evd rfl ?_;rintro i ⟨hi,hv⟩;try dsimp only
  refine gon ?_;refine du evd (fun h=>?_) (fun h=>?_)
  ·have h1:i<l.length:=by simpa using h
   have h2:i<m.length:=by omega
   have hw:=ah h1 (by omega);have g1:=fZ (k:=.i64) h1;have g2:=fZ (k:=.i64) h2;by_cases he:l.getD i 0=m.getD i 0
   ·rw[he]at g1;refine dD g1 g2 ?_;refine ap hw ?_;refine⟨i+1,⟨h1,?_⟩,by omega,rfl⟩;rw[List.take_add_one,List.take_add_one,hv,List.getElem?_eq_getElem h1,List.getElem?_eq_getElem h2];rw[List.getD_eq_getElem?_getD,List.getD_eq_getElem?_getD,List.getElem?_eq_getElem h1,List.getElem?_eq_getElem h2]at he;simp only[Option.getD_some]at he;rw[he]
   ·have he':(l.getD i 0 != m.getD i 0)=true:=by simpa using he
    have hne:decide (l=m)=false:=by rw[decide_eq_false_iff_not];intro hh;rw[hh]at he;exact he rfl
    rw[hne];refine aO g1 g2 ?_;refine aF ?_ (by(try simp only[go_sem,he']);try exact evd);refine gon ?_;exact af
  ·have h1:i=l.length:=by simp at h;omega
   subst h1
   have he:l=m:=by
    rw[List.take_length,hlen,List.take_length]at hv;exact hv
   subst he;rw[ak rfl];refine gon ?_;exact af
 ·have h0:((l.length:Int) != (m.length:Int))=true:=by simp;omega
  have hne:decide (l=m)=false:=by rw[decide_eq_false_iff_not];intro hh;rw[hh]at hlen;exact hlen rfl
  rw[hne];refine gon ?_;refine aF ?_ (by(try simp only[go_sem,h0]);try exact evd);refine gon ?_;exact af
theorem we(l m:List Int)(c d:Bool)(hl:l.length<=140737488355328)(hm:m.length<=140737488355328):PC Tryz.prog 131 [.sl 1 c (ax .u64 l),.sl 1 d (ax .u64 m)] (.bool (decide (l=m))):=by
 refine PC.fact 6 xm (by simp) ⟨bj _ _,bj _ _,trivial⟩ trivial ?_;unfold nH;refine bd ?_;by_cases hlen:l.length=m.length
 ·have h0:((l.length:Int) != (m.length:Int))=false:=by rw[hlen];exact bne_self_eq_false _
  refine gon ?_;refine aB ?_ (by(try simp only[go_sem,h0]);try exact evd);refine gon ?_;refine li (fun i:Nat=>⟨6,[.sl 1 c (ax .u64 l),.sl 1 d (ax .u64 m),.dead,.dead,.bool false,.int .i64 i],[]⟩) (fun _=>[]) (fun i=>l.length-i) (fun i=>i<=l.length/\l.take i=m.take i) [] 0 ⟨by omega,rfl⟩ evd rfl ?_;rintro i ⟨hi,hv⟩;try dsimp only
  refine gon ?_;refine du evd (fun h=>?_) (fun h=>?_)
  ·have h1:i<l.length:=by simpa using h
   have h2:i<m.length:=by omega
   have hw:=ah h1 (by omega);have g1:=fZ (k:=.u64) h1;have g2:=fZ (k:=.u64) h2;by_cases he:l.getD i 0=m.getD i 0
   ·rw[he]at g1;refine dD g1 g2 ?_;refine ap hw ?_;refine⟨i+1,⟨h1,?_⟩,by omega,rfl⟩;rw[List.take_add_one,List.take_add_one,hv,List.getElem?_eq_getElem h1,List.getElem?_eq_getElem h2];rw[List.getD_eq_getElem?_getD,List.getD_eq_getElem?_getD,List.getElem?_eq_getElem h1,List.getElem?_eq_getElem h2]at he;simp only[Option.getD_some]at he;rw[he]
   ·have he':(l.getD i 0 != m.getD i 0)=true:=by simpa using he
    have hne:decide (l=m)=false:=by rw[decide_eq_false_iff_not];intro hh;rw[hh]at he;exact he rfl
    rw[hne];refine aO g1 g2 ?_;refine aF ?_ (by(try simp only[go_sem,he']);try exact evd);refine gon ?_;exact af
  ·have h1:i=l.length:=by simp at h;omega
   subst h1
   have he:l=m:=by
    rw[List.take_length,hlen,List.take_length]at hv;exact hv
   subst he;rw[ak rfl];refine gon ?_;exact af
 ·have h0:((l.length:Int) != (m.length:Int))=true:=by simp;omega
  have hne:decide (l=m)=false:=by rw[decide_eq_false_iff_not];intro hh;rw[hh]at hlen;exact hlen rfl
  rw[hne];refine gon ?_;refine aF ?_ (by(try simp only[go_sem,h0]);try exact evd);refine gon ?_;exact af
theorem Ph(x y:Att)(l m:List Int)(c d:Bool)(hx:x.vals=.sl 1 c (ax .i64 l))(hy:y.vals=.sl 1 d (ax .i64 m))(hl:l.length<=140737488355328)(hm:m.length<=140737488355328):
 PC Tryz.prog 136 [.agg (bZ x),.agg (bZ y)] (.bool (decide (x.slot=y.slot/\x.root=y.root/\x.target=y.target/\l=m))):=by
 refine PC.fact 5 qK (by simp) ⟨(hZ x).2 (by rw[Att.Pure,hx];exact bj _ _),(hZ y).2 (by rw[Att.Pure,hy];exact bj _ _),trivial⟩ trivial ?_;unfold kf;refine bd ?_;have gx:x.good=true:=by rw[Att.good,hx];rfl
 have gy:y.good=true:=by rw[Att.good,hy];rfl
 by_cases h1:x.slot=y.slot
 ·have e1:(x.slot==y.slot)=true:=by simp[h1]
  by_cases h2:x.root=y.root
  ·have e2:decide (x.root=y.root)=true:=by simp[h2]
   by_cases h3:x.target=y.target
   ·have e3:decide (x.target=y.target)=true:=by simp[h3]
    refine jN gx gy hx hy e1 e2 e3 ?_;refine acT (pz l m c d hl hm) ?_;refine⟨_,(by first|rfl|exact evd),.inl ?_⟩;refine evg ?_;try simp[h1,h2,h3]
   ·have e3:decide (x.target=y.target)=false:=by simp[h3]
    refine jN gx gy hx hy e1 e2 e3 ?_;refine⟨_,(by first|rfl|exact evd),.inl ?_⟩;refine evg ?_;try simp[h1,h2,h3]
  ·have e2:decide (x.root=y.root)=false:=by simp[h2]
   refine eI gx gy hx hy e1 e2 ?_;refine⟨_,(by first|rfl|exact evd),.inl ?_⟩;refine evg ?_;try simp[h1,h2]
 ·have e1:(x.slot==y.slot)=false:=by simp[h1]
  refine eO gx gy hx hy e1 ?_;refine⟨_,(by first|rfl|exact evd),.inl ?_⟩;refine evg ?_;try simp[h1]
theorem Pi(x y:Clm)(l m:List Int)(c d:Bool)(hx:x.vals=.sl 1 c (ax .i64 l))(hy:y.vals=.sl 1 d (ax .i64 m))(hl:l.length<=140737488355328)(hm:m.length<=140737488355328):
 PC Tryz.prog 359 [.agg (de x),.agg (de y)] (.bool (decide (x.src=y.src/\x.tgt=y.tgt/\x.root=y.root/\l=m))):=by
 refine PC.fact 5 zY (by simp) ⟨(i5 x).2 (by rw[Clm.Pure,hx];exact bj _ _),(i5 y).2 (by rw[Clm.Pure,hy];exact bj _ _),trivial⟩ trivial ?_;unfold pQ;refine bd ?_;have gx:x.good=true:=by rw[Clm.good,hx];rfl
 have gy:y.good=true:=by rw[Clm.good,hy];rfl
 by_cases h1:x.src=y.src
 ·have e1:(x.src==y.src)=true:=by simp[h1]
  by_cases h2:x.tgt=y.tgt
  ·have e2:(x.tgt==y.tgt)=true:=by simp[h2]
   by_cases h3:x.root=y.root
   ·have e3:decide (x.root=y.root)=true:=by simp[h3]
    refine jN gx gy hx hy e1 e2 e3 ?_;refine acT (pz l m c d hl hm) ?_;refine⟨_,(by first|rfl|exact evd),.inl ?_⟩;refine evg ?_;try simp[h1,h2,h3]
   ·have e3:decide (x.root=y.root)=false:=by simp[h3]
    refine jN gx gy hx hy e1 e2 e3 ?_;refine⟨_,(by first|rfl|exact evd),.inl ?_⟩;refine evg ?_;try simp[h1,h2,h3]
  ·have e2:(x.tgt==y.tgt)=false:=by simp[h2]
   refine eI gx gy hx hy e1 e2 ?_;refine⟨_,(by first|rfl|exact evd),.inl ?_⟩;refine evg ?_;try simp[h1,h2]
 ·have e1:(x.src==y.src)=false:=by simp[h1]
  refine eO gx gy hx hy e1 ?_;refine⟨_,(by first|rfl|exact evd),.inl ?_⟩;refine evg ?_;try simp[h1]
theorem Pj(x y:Tab)(l m:List Int)(c d:Bool)(hx:x.bals=.sl 1 c (ax .u64 l))(hy:y.bals=.sl 1 d (ax .u64 m))(hl:l.length<=140737488355328)(hm:m.length<=140737488355328):
 PC Tryz.prog 259 [.agg (bE x),.agg (bE y)] (.bool (decide (x.cp=y.cp/\l=m))):=by
 refine PC.fact 5 zZ (by simp) ⟨(gB x).2 (by rw[Tab.Pure,hx];exact bj _ _),(gB y).2 (by rw[Tab.Pure,hy];exact bj _ _),trivial⟩ trivial ?_;unfold pR;refine bd ?_;have gx:x.good=true:=by rw[Tab.good,hx];rfl
 have gy:y.good=true:=by rw[Tab.good,hy];rfl
 by_cases h1:x.cp=y.cp
 ·have e1:decide (x.cp=y.cp)=true:=by simp[h1]
  refine eO gx gy hx hy e1 ?_;refine acT (we l m c d hl hm) ?_;refine⟨_,(by first|rfl|exact evd),.inl ?_⟩;refine evg ?_;try simp[h1]
 ·have e1:decide (x.cp=y.cp)=false:=by simp[h1]
  refine eO gx gy hx hy e1 ?_;refine⟨_,(by first|rfl|exact evd),.inl ?_⟩;refine evg ?_;try simp[h1]
theorem Yz(x y:Slg)(l1 l2 m1 m2:List Int)(c1 c2 d1 d2:Bool)(hx1:x.fst.vals=.sl 1 c1 (ax .i64 l1))(hx2:x.snd.vals=.sl 1 c2 (ax .i64 l2))(hy1:y.fst.vals=.sl 1 d1 (ax .i64 m1))(hy2:y.snd.vals=.sl 1 d2 (ax .i64 m2))
 (hl1:l1.length<=140737488355328) (hl2:l2.length<=140737488355328) (hm1:m1.length<=140737488355328) (hm2:m2.length<=140737488355328):
 PC Tryz.prog 298 [.agg (dq x),.agg (dq y)] (.bool (decide (x.fst.src=y.fst.src/\x.fst.tgt=y.fst.tgt/\x.fst.root=y.fst.root/\l1=m1)&&decide (x.snd.src=y.snd.src/\x.snd.tgt=y.snd.tgt/\x.snd.root=y.snd.root/\l2=m2))):=by
 have px1:x.fst.Pure:=by rw[Clm.Pure,hx1];exact bj _ _
 have px2:x.snd.Pure:=by rw[Clm.Pure,hx2];exact bj _ _
 have py1:y.fst.Pure:=by rw[Clm.Pure,hy1];exact bj _ _
 have py2:y.snd.Pure:=by rw[Clm.Pure,hy2];exact bj _ _
 have gx1:x.fst.good=true:=by rw[Clm.good,hx1];rfl
 have gx2:x.snd.good=true:=by rw[Clm.good,hx2];rfl
 have gy1:y.fst.good=true:=by rw[Clm.good,hy1];rfl
 have gy2:y.snd.good=true:=by rw[Clm.good,hy2];rfl
 have gx:x.good=true:=by rw[Slg.good,gx1,gx2];rfl
 have gy:y.good=true:=by rw[Slg.good,gy1,gy2];rfl
 refine PC.fact 5 uI (by simp) ⟨(ia x).2 ⟨px1,px2⟩,(ia y).2 ⟨py1,py2⟩,trivial⟩ trivial ?_;unfold my;refine bd ?_;have k1:=Pi x.fst y.fst l1 m1 c1 d1 hx1 hy1 hl1 hm1;have k2:=Pi x.snd y.snd l2 m2 c2 d2 hx2 hy2 hl2 hm2;generalize decide (x.fst.src=y.fst.src/\x.fst.tgt=y.fst.tgt/\x.fst.root=y.fst.root/\l1=m1)=b1 at *;generalize decide (x.snd.src=y.snd.src/\x.snd.tgt=y.snd.tgt/\x.snd.root=y.snd.root/\l2=m2)=b2 at *;cases b1
 ·refine eI gx gy gx1 gx2 gy1 gy2 ?_;refine ai k1 ?_;refine eI gx gy gx1 gx2 gy1 gy2 ?_;exact af
 ·refine eI gx gy gx1 gx2 gy1 gy2 ?_;refine ai k1 ?_;refine eI gx gy gx1 gx2 gy1 gy2 ?_;refine acT k2 ?_;exact af
theorem Nx(x:Int×Rt×Cp×List Int)(ρ:Nat->Nat):(rX x).map (ren ρ)=rX x:=by simp only[rX,Att.map,ren,ei]
theorem SB(x:Int×Rt×Cp×List Int)(σ:St)(zs:List Nat):(rX x).map (fz σ zs)=rX x:=by simp only[rX,Att.map,fz,fy]
theorem T6(x:Int×Rt×Cp×List Int):(rX x).good=true:=rfl
theorem Po(x:Sv)(ρ:Nat->Nat):(rQ x).map (ren ρ)=rQ x:=by simp only[rQ,Slg.map,NK]
theorem Tx(x:Sv)(σ:St)(zs:List Nat):(rQ x).map (fz σ zs)=rQ x:=by simp only[rQ,Slg.map,SD]
theorem VY(x:Sv):(rQ x).good=true:=rfl
attribute [go_sem] Nx SB T6 Po Tx VY
theorem U64.of{n:Int}(h:(Lit.int .u64 n).wf=true):U64 n:=⟨(bounds_u64 h).1,by have:=(bounds_u64 h).2;omega⟩
end Go.Proofs.YtnjdpnfglgcjcaaGreat
