/- Joined. -/
import Derived.Test.YtmpddimhleianaaGreatW7v
import Derived.Test.YtmpddimhleianaaGreatW3v
import Derived.Test.YtmpddimhleianaaGreatChecked
import Derived.KernelRfl
import Derived.Test.YtmpddimhleianaaGreatW9v
import Derived.Test.YtmpddimhleianaaGreatW8v
set_option linter.unusedVariables false
set_option linter.unusedSimpArgs false
set_option maxRecDepth 8000
set_option maxHeartbeats 4000000
namespace Go.Proofs.YtmpddimhleianaaGreat
open Go Go.FH Go.RowKit
theorem Lf(x:Tv)(ρ:Nat->Nat):(pq x).map (ren ρ)=pq x:=by simp only[pq,Tab.map,ren,fp]
theorem O7(x:Tv)(σ:St)(zs:List Nat):(pq x).map (fz σ zs)=pq x:=by simp only[pq,Tab.map,fz,gN]
theorem Sb(x:Tv):(pq x).good=true:=rfl
attribute [go_sem] Lf O7 Sb
theorem X4(x:Bool):zc true (.bool x) (.tup [])=.bool x:=rfl
theorem X3(y:Bool):zc false (.tup []) (.bool y)=.bool y:=rfl
attribute [go_sem] X4 X3
theorem po(l m:List Int)(c d:Bool)(hl:l.length<=140737488355328)(hm:m.length<=140737488355328):PC Tryz.prog 93 [.sl 1 c (ah .i64 l),.sl 1 d (ah .i64 m)] (.bool (decide (l=m))):=by
 refine PC.fact 6 zB af1 ⟨aY _ _,aY _ _,trivial⟩ trivial ?_;unfold qV;refine bd ?_;by_cases hlen:l.length=m.length
 ·have h0:((l.length:Int) != (m.length:Int))=false:=by rw[hlen];exact bne_self_eq_false _
  refine gon ?_;refine aI ?_ (by(try simp only[go_sem,h0]);try exact evd);refine gon ?_;refine kh (fun i:Nat=>⟨6,[.sl 1 c (ah .i64 l),.sl 1 d (ah .i64 m),.dead,.dead,.bool false,.int .i64 i],[]⟩) (fun _=>[]) (fun i=>l.length-i) (fun i=>i<=l.length/\l.take i=m.take i) [] 0 ⟨af0,rfl⟩ evd rfl ?_;rintro i ⟨hi,hv⟩;try dsimp only
  refine gon ?_;refine bM evd (fun h=>?_) (fun h=>?_)
  ·have h1:i<l.length:=by simpa using h
   have h2:i<m.length:=af0
   have hw:=ae h1 af0;have g1:=fC (k:=.i64) h1;have g2:=fC (k:=.i64) h2;by_cases he:l.getD i 0=m.getD i 0
   ·rw[he]at g1;refine iJ g1 g2 ?_;refine aA hw ?_;refine⟨i+1,⟨h1,?_⟩,af0,rfl⟩;rw[acB,acB,hv,afz h1,afz h2];rw[afy,afy,afz h1,afz h2]at he;simp only[ac7]at he;rw[he]
   ·have he':(l.getD i 0 != m.getD i 0)=true:=by simpa using he
    have hne:decide (l=m)=false:=by rw[afQ];intro hh;rw[hh]at he;exact he rfl
    rw[hne];refine bm g1 g2 ?_;refine aq ?_ (by(try simp only[go_sem,he']);try exact evd);refine gon ?_;exact aj
  ·have h1:i=l.length:=by simp at h;omega
   subst h1
   have he:l=m:=by
    rw[acL,hlen,acL]at hv;exact hv
   subst he;rw[ax rfl];refine gon ?_;exact aj
 ·have h0:((l.length:Int) != (m.length:Int))=true:=by simp;omega
  have hne:decide (l=m)=false:=by rw[afQ];intro hh;rw[hh]at hlen;exact hlen rfl
  rw[hne];refine gon ?_;refine aq ?_ (by(try simp only[go_sem,h0]);try exact evd);refine gon ?_;exact aj
theorem uF(l m:List Int)(c d:Bool)(hl:l.length<=140737488355328)(hm:m.length<=140737488355328):PC Tryz.prog 91 [.sl 1 c (ah .u64 l),.sl 1 d (ah .u64 m)] (.bool (decide (l=m))):=by
 refine PC.fact 6 uV af1 ⟨aY _ _,aY _ _,trivial⟩ trivial ?_;unfold nO;refine bd ?_;by_cases hlen:l.length=m.length
 ·have h0:((l.length:Int) != (m.length:Int))=false:=by rw[hlen];exact bne_self_eq_false _
  refine gon ?_;refine aI ?_ (by(try simp only[go_sem,h0]);try exact evd);refine gon ?_;refine kh (fun i:Nat=>⟨6,[.sl 1 c (ah .u64 l),.sl 1 d (ah .u64 m),.dead,.dead,.bool false,.int .i64 i],[]⟩) (fun _=>[]) (fun i=>l.length-i) (fun i=>i<=l.length/\l.take i=m.take i) [] 0 ⟨af0,rfl⟩ evd rfl ?_;rintro i ⟨hi,hv⟩;try dsimp only
  refine gon ?_;refine bM evd (fun h=>?_) (fun h=>?_)
  ·have h1:i<l.length:=by simpa using h
   have h2:i<m.length:=af0
   have hw:=ae h1 af0;have g1:=fC (k:=.u64) h1;have g2:=fC (k:=.u64) h2;by_cases he:l.getD i 0=m.getD i 0
   ·rw[he]at g1;refine iJ g1 g2 ?_;refine aA hw ?_;refine⟨i+1,⟨h1,?_⟩,af0,rfl⟩;rw[acB,acB,hv,afz h1,afz h2];rw[afy,afy,afz h1,afz h2]at he;simp only[ac7]at he;rw[he]
   ·have he':(l.getD i 0 != m.getD i 0)=true:=by simpa using he
    have hne:decide (l=m)=false:=by rw[afQ];intro hh;rw[hh]at he;exact he rfl
    rw[hne];refine bm g1 g2 ?_;refine aq ?_ (by(try simp only[go_sem,he']);try exact evd);refine gon ?_;exact aj
  ·have h1:i=l.length:=by simp at h;omega
   subst h1
   have he:l=m:=by
    rw[acL,hlen,acL]at hv;exact hv
   subst he;rw[ax rfl];refine gon ?_;exact aj
 ·have h0:((l.length:Int) != (m.length:Int))=true:=by simp;omega
  have hne:decide (l=m)=false:=by rw[afQ];intro hh;rw[hh]at hlen;exact hlen rfl
  rw[hne];refine gon ?_;refine aq ?_ (by(try simp only[go_sem,h0]);try exact evd);refine gon ?_;exact aj
theorem KU(x y:Att)(l m:List Int)(c d:Bool)(hx:x.vals=.sl 1 c (ah .i64 l))(hy:y.vals=.sl 1 d (ah .i64 m))(hl:l.length<=140737488355328)(hm:m.length<=140737488355328):
 PC Tryz.prog 96 [.agg (cK x),.agg (cK y)] (.bool (decide (x.slot=y.slot/\x.root=y.root/\x.target=y.target/\l=m))):=by
 refine PC.fact 5 qu af1 ⟨(gI x).2 (by rw[Att.Pure,hx];exact aY _ _),(gI y).2 (by rw[Att.Pure,hy];exact aY _ _),trivial⟩ trivial ?_;unfold kN;refine bd ?_;have gx:x.good=true:=by rw[Att.good,hx];rfl
 have gy:y.good=true:=by rw[Att.good,hy];rfl
 by_cases h1:x.slot=y.slot
 ·have e1:(x.slot==y.slot)=true:=by simp[h1]
  by_cases h2:x.root=y.root
  ·have e2:decide (x.root=y.root)=true:=by simp[h2]
   by_cases h3:x.target=y.target
   ·have e3:decide (x.target=y.target)=true:=by simp[h3]
    refine lx gx gy hx hy e1 e2 e3 ?_;refine abl (po l m c d hl hm) ?_;refine⟨_,(by first|rfl|exact evd),.inl ?_⟩;refine evg ?_;try simp[h1,h2,h3]
   ·have e3:decide (x.target=y.target)=false:=by simp[h3]
    refine lx gx gy hx hy e1 e2 e3 ?_;refine⟨_,(by first|rfl|exact evd),.inl ?_⟩;refine evg ?_;try simp[h1,h2,h3]
  ·have e2:decide (x.root=y.root)=false:=by simp[h2]
   refine gO gx gy hx hy e1 e2 ?_;refine⟨_,(by first|rfl|exact evd),.inl ?_⟩;refine evg ?_;try simp[h1,h2]
 ·have e1:(x.slot==y.slot)=false:=by simp[h1]
  refine ec gx gy hx hy e1 ?_;refine⟨_,(by first|rfl|exact evd),.inl ?_⟩;refine evg ?_;try simp[h1]
theorem KV(x y:Clm)(l m:List Int)(c d:Bool)(hx:x.vals=.sl 1 c (ah .i64 l))(hy:y.vals=.sl 1 d (ah .i64 m))(hl:l.length<=140737488355328)(hm:m.length<=140737488355328):
 PC Tryz.prog 285 [.agg (dB x),.agg (dB y)] (.bool (decide (x.src=y.src/\x.tgt=y.tgt/\x.root=y.root/\l=m))):=by
 refine PC.fact 5 xN af1 ⟨(iN x).2 (by rw[Clm.Pure,hx];exact aY _ _),(iN y).2 (by rw[Clm.Pure,hy];exact aY _ _),trivial⟩ trivial ?_;unfold px;refine bd ?_;have gx:x.good=true:=by rw[Clm.good,hx];rfl
 have gy:y.good=true:=by rw[Clm.good,hy];rfl
 by_cases h1:x.src=y.src
 ·have e1:(x.src==y.src)=true:=by simp[h1]
  by_cases h2:x.tgt=y.tgt
  ·have e2:(x.tgt==y.tgt)=true:=by simp[h2]
   by_cases h3:x.root=y.root
   ·have e3:decide (x.root=y.root)=true:=by simp[h3]
    refine lx gx gy hx hy e1 e2 e3 ?_;refine abl (po l m c d hl hm) ?_;refine⟨_,(by first|rfl|exact evd),.inl ?_⟩;refine evg ?_;try simp[h1,h2,h3]
   ·have e3:decide (x.root=y.root)=false:=by simp[h3]
    refine lx gx gy hx hy e1 e2 e3 ?_;refine⟨_,(by first|rfl|exact evd),.inl ?_⟩;refine evg ?_;try simp[h1,h2,h3]
  ·have e2:(x.tgt==y.tgt)=false:=by simp[h2]
   refine gO gx gy hx hy e1 e2 ?_;refine⟨_,(by first|rfl|exact evd),.inl ?_⟩;refine evg ?_;try simp[h1,h2]
 ·have e1:(x.src==y.src)=false:=by simp[h1]
  refine ec gx gy hx hy e1 ?_;refine⟨_,(by first|rfl|exact evd),.inl ?_⟩;refine evg ?_;try simp[h1]
theorem KW(x y:Tab)(l m:List Int)(c d:Bool)(hx:x.bals=.sl 1 c (ah .u64 l))(hy:y.bals=.sl 1 d (ah .u64 m))(hl:l.length<=140737488355328)(hm:m.length<=140737488355328):
 PC Tryz.prog 156 [.agg (bE x),.agg (bE y)] (.bool (decide (x.cp=y.cp/\l=m))):=by
 refine PC.fact 5 xO af1 ⟨(gJ x).2 (by rw[Tab.Pure,hx];exact aY _ _),(gJ y).2 (by rw[Tab.Pure,hy];exact aY _ _),trivial⟩ trivial ?_;unfold pz;refine bd ?_;have gx:x.good=true:=by rw[Tab.good,hx];rfl
 have gy:y.good=true:=by rw[Tab.good,hy];rfl
 by_cases h1:x.cp=y.cp
 ·have e1:decide (x.cp=y.cp)=true:=by simp[h1]
  refine ec gx gy hx hy e1 ?_;refine abl (uF l m c d hl hm) ?_;refine⟨_,(by first|rfl|exact evd),.inl ?_⟩;refine evg ?_;try simp[h1]
 ·have e1:decide (x.cp=y.cp)=false:=by simp[h1]
  refine ec gx gy hx hy e1 ?_;refine⟨_,(by first|rfl|exact evd),.inl ?_⟩;refine evg ?_;try simp[h1]
theorem VA(x y:Slg)(l1 l2 m1 m2:List Int)(c1 c2 d1 d2:Bool)(hx1:x.fst.vals=.sl 1 c1 (ah .i64 l1))(hx2:x.snd.vals=.sl 1 c2 (ah .i64 l2))(hy1:y.fst.vals=.sl 1 d1 (ah .i64 m1))(hy2:y.snd.vals=.sl 1 d2 (ah .i64 m2))
 (hl1:l1.length<=140737488355328) (hl2:l2.length<=140737488355328) (hm1:m1.length<=140737488355328) (hm2:m2.length<=140737488355328):
 PC Tryz.prog 200 [.agg (dU x),.agg (dU y)] (.bool (decide (x.fst.src=y.fst.src/\x.fst.tgt=y.fst.tgt/\x.fst.root=y.fst.root/\l1=m1)&&decide (x.snd.src=y.snd.src/\x.snd.tgt=y.snd.tgt/\x.snd.root=y.snd.root/\l2=m2))):=by
 have px1:x.fst.Pure:=by rw[Clm.Pure,hx1];exact aY _ _
 have px2:x.snd.Pure:=by rw[Clm.Pure,hx2];exact aY _ _
 have py1:y.fst.Pure:=by rw[Clm.Pure,hy1];exact aY _ _
 have py2:y.snd.Pure:=by rw[Clm.Pure,hy2];exact aY _ _
 have gx1:x.fst.good=true:=by rw[Clm.good,hx1];rfl
 have gx2:x.snd.good=true:=by rw[Clm.good,hx2];rfl
 have gy1:y.fst.good=true:=by rw[Clm.good,hy1];rfl
 have gy2:y.snd.good=true:=by rw[Clm.good,hy2];rfl
 have gx:x.good=true:=by rw[Slg.good,gx1,gx2];rfl
 have gy:y.good=true:=by rw[Slg.good,gy1,gy2];rfl
 refine PC.fact 5 tL af1 ⟨(ij x).2 ⟨px1,px2⟩,(ij y).2 ⟨py1,py2⟩,trivial⟩ trivial ?_;unfold mQ;refine bd ?_;have k1:=KV x.fst y.fst l1 m1 c1 d1 hx1 hy1 hl1 hm1;have k2:=KV x.snd y.snd l2 m2 c2 d2 hx2 hy2 hl2 hm2;generalize decide (x.fst.src=y.fst.src/\x.fst.tgt=y.fst.tgt/\x.fst.root=y.fst.root/\l1=m1)=b1 at *;generalize decide (x.snd.src=y.snd.src/\x.snd.tgt=y.snd.tgt/\x.snd.root=y.snd.root/\l2=m2)=b2 at *;cases b1
 ·refine gO gx gy gx1 gx2 gy1 gy2 ?_;refine ap k1 ?_;refine gO gx gy gx1 gx2 gy1 gy2 ?_;exact aj
 ·refine gO gx gy gx1 gx2 gy1 gy2 ?_;refine ap k1 ?_;refine gO gx gy gx1 gx2 gy1 gy2 ?_;refine abl k2 ?_;exact aj
theorem Jg(x:Int×Rt×Cp×List Int)(ρ:Nat->Nat):(mG x).map (ren ρ)=mG x:=by simp only[mG,Att.map,ren,fp]
theorem N9(x:Int×Rt×Cp×List Int)(σ:St)(zs:List Nat):(mG x).map (fz σ zs)=mG x:=by simp only[mG,Att.map,fz,gN]
theorem Pv(x:Int×Rt×Cp×List Int):(mG x).good=true:=rfl
theorem K1(x:Sv)(ρ:Nat->Nat):(qa x).map (ren ρ)=qa x:=by simp only[qa,Slg.map,Jp]
theorem OV(x:Sv)(σ:St)(zs:List Nat):(qa x).map (fz σ zs)=qa x:=by simp only[qa,Slg.map,Oa]
theorem RT(x:Sv):(qa x).good=true:=rfl
attribute [go_sem] Jg N9 Pv K1 OV RT
end Go.Proofs.YtmpddimhleianaaGreat
