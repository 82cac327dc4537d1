/- Joined. -/
import Derived.Test.YtmpddimhleianaaGreatW7
import Derived.Test.YtmpddimhleianaaGreatW3
import Derived.Test.YtmpddimhleianaaGreatChecked
import Derived.KernelRfl
import Derived.Test.YtmpddimhleianaaGreatW9
import Derived.Test.YtmpddimhleianaaGreatW8
set_option linter.unusedVariables false
set_option linter.unusedSimpArgs false
set_option maxRecDepth 8000
set_option maxHeartbeats 4000000
namespace Go.Proofs.YtmpddimhleianaaGreat
open Go Go.FH Go.RowKit
theorem Kk(x:Tv)(ρ:Nat->Nat):(EU x).map (ren ρ)=EU x:=by simp only[EU,Tab.map,ren,dG]
theorem FM(x:Tv)(σ:St)(zs:List Nat):(EU x).map (fz σ zs)=EU x:=by simp only[EU,Tab.map,fz,dM]
theorem jW(x:Tv):(EU x).good=true:=rfl
attribute [go_sem] Kk FM jW
theorem KD(x:Bool):I3 true (.bool x) (.tup [])=.bool x:=rfl
theorem KC(y:Bool):I3 false (.tup []) (.bool y)=.bool y:=rfl
attribute [go_sem] KD KC
theorem jp(l m:List Int)(c d:Bool)(hl:l.length<=140737488355328)(hm:m.length<=140737488355328):PC Tryz.prog 93 [.sl 1 c (aH .i64 l),.sl 1 d (aH .i64 m)] (.bool (decide (l=m))):=by
 refine PC.fact 6 FZ WM ⟨bE _ _,bE _ _,trivial⟩ trivial ?_;unfold tP;refine bd ?_;by_cases hlen:l.length=m.length
 ·have h0:((l.length:Int) != (m.length:Int))=false:=by rw[hlen];exact bne_self_eq_false _
  refine gon ?_;refine aB ?_ (by(try simp only[go_sem,h0]);try exact evd);refine gon ?_;refine gM (fun i:Nat=>⟨6,[.sl 1 c (aH .i64 l),.sl 1 d (aH .i64 m),.dead,.dead,.bool false,.int .i64 i],[]⟩) (fun _=>[]) (fun i=>l.length-i) (fun i=>i<=l.length/\l.take i=m.take i) [] 0 ⟨WL,rfl⟩ evd rfl ?_;rintro i ⟨hi,hv⟩;try dsimp only
  refine gon ?_;refine aY evd (fun h=>?_) (fun h=>?_)
  ·have h1:i<l.length:=by simpa using h
   have h2:i<m.length:=WL
   have hw:=af h1 WL;have g1:=fF (k:=.i64) h1;have g2:=fF (k:=.i64) h2;by_cases he:l.getD i 0=m.getD i 0
   ·rw[he]at g1;refine fp g1 g2 ?_;refine ah hw ?_;refine⟨i+1,⟨h1,?_⟩,WL,rfl⟩;rw[amY,amY,hv,al6 h1,al6 h2];rw[alt,alt,al6 h1,al6 h2]at he;simp only[amT]at he;rw[he]
   ·have he':(l.getD i 0 != m.getD i 0)=true:=by simpa using he
    have hne:decide (l=m)=false:=by rw[ami];intro hh;rw[hh]at he;exact he rfl
    rw[hne];refine aZ g1 g2 ?_;refine ax ?_ (by(try simp only[go_sem,he']);try exact evd);refine gon ?_;exact ai
  ·have h1:i=l.length:=by simp at h;omega
   subst h1
   have he:l=m:=by
    rw[ajp,hlen,ajp]at hv;exact hv
   subst he;rw[au rfl];refine gon ?_;exact ai
 ·have h0:((l.length:Int) != (m.length:Int))=true:=by simp;omega
  have hne:decide (l=m)=false:=by rw[ami];intro hh;rw[hh]at hlen;exact hlen rfl
  rw[hne];refine gon ?_;refine ax ?_ (by(try simp only[go_sem,h0]);try exact evd);refine gon ?_;exact ai
theorem zn(l m:List Int)(c d:Bool)(hl:l.length<=140737488355328)(hm:m.length<=140737488355328):PC Tryz.prog 91 [.sl 1 c (aH .u64 l),.sl 1 d (aH .u64 m)] (.bool (decide (l=m))):=by
 refine PC.fact 6 zO WM ⟨bE _ _,bE _ _,trivial⟩ trivial ?_;unfold ph;refine bd ?_;by_cases hlen:l.length=m.length
 ·have h0:((l.length:Int) != (m.length:Int))=false:=by rw[hlen];exact bne_self_eq_false _
  refine gon ?_;refine aB ?_ (by(try simp only[go_sem,h0]);try exact evd);refine gon ?_;refine gM (fun i:Nat=>⟨6,[.sl 1 c (aH .u64 l),.sl 1 d (aH .u64 m),.dead,.dead,.bool false,.int .i64 i],[]⟩) (fun _=>[]) (fun i=>l.length-i) (fun i=>i<=l.length/\l.take i=m.take i) [] 0 ⟨WL,rfl⟩ evd rfl ?_;rintro i ⟨hi,hv⟩;try dsimp only
  refine gon ?_;refine aY evd (fun h=>?_) (fun h=>?_)
  ·have h1:i<l.length:=by simpa using h
   have h2:i<m.length:=WL
   have hw:=af h1 WL;have g1:=fF (k:=.u64) h1;have g2:=fF (k:=.u64) h2;by_cases he:l.getD i 0=m.getD i 0
   ·rw[he]at g1;refine fp g1 g2 ?_;refine ah hw ?_;refine⟨i+1,⟨h1,?_⟩,WL,rfl⟩;rw[amY,amY,hv,al6 h1,al6 h2];rw[alt,alt,al6 h1,al6 h2]at he;simp only[amT]at he;rw[he]
   ·have he':(l.getD i 0 != m.getD i 0)=true:=by simpa using he
    have hne:decide (l=m)=false:=by rw[ami];intro hh;rw[hh]at he;exact he rfl
    rw[hne];refine aZ g1 g2 ?_;refine ax ?_ (by(try simp only[go_sem,he']);try exact evd);refine gon ?_;exact ai
  ·have h1:i=l.length:=by simp at h;omega
   subst h1
   have he:l=m:=by
    rw[ajp,hlen,ajp]at hv;exact hv
   subst he;rw[au rfl];refine gon ?_;exact ai
 ·have h0:((l.length:Int) != (m.length:Int))=true:=by simp;omega
  have hne:decide (l=m)=false:=by rw[ami];intro hh;rw[hh]at hlen;exact hlen rfl
  rw[hne];refine gon ?_;refine ax ?_ (by(try simp only[go_sem,h0]);try exact evd);refine gon ?_;exact ai
theorem SE(x y:Att)(l m:List Int)(c d:Bool)(hx:x.vals=.sl 1 c (aH .i64 l))(hy:y.vals=.sl 1 d (aH .i64 m))(hl:l.length<=140737488355328)(hm:m.length<=140737488355328):
 PC Tryz.prog 96 [.agg (cy x),.agg (cy y)] (.bool (decide (x.slot=y.slot/\x.root=y.root/\x.target=y.target/\l=m))):=by
 refine PC.fact 5 sU WM ⟨(fB x).2 (by rw[Att.Pure,hx];exact bE _ _),(fB y).2 (by rw[Att.Pure,hy];exact bE _ _),trivial⟩ trivial ?_;unfold kE;refine bd ?_;have gx:x.good=true:=by rw[Att.good,hx];rfl
 have gy:y.good=true:=by rw[Att.good,hy];rfl
 by_cases h1:x.slot=y.slot
 ·have e1:(x.slot==y.slot)=true:=by simp[h1]
  by_cases h2:x.root=y.root
  ·have e2:decide (x.root=y.root)=true:=by simp[h2]
   by_cases h3:x.target=y.target
   ·have e3:decide (x.target=y.target)=true:=by simp[h3]
    refine jj gx gy hx hy e1 e2 e3 ?_;refine ahG (jp l m c d hl hm) ?_;refine⟨_,(by first|rfl|exact evd),.inl ?_⟩;refine evg ?_;try simp[h1,h2,h3]
   ·have e3:decide (x.target=y.target)=false:=by simp[h3]
    refine jj gx gy hx hy e1 e2 e3 ?_;refine⟨_,(by first|rfl|exact evd),.inl ?_⟩;refine evg ?_;try simp[h1,h2,h3]
  ·have e2:decide (x.root=y.root)=false:=by simp[h2]
   refine fG gx gy hx hy e1 e2 ?_;refine⟨_,(by first|rfl|exact evd),.inl ?_⟩;refine evg ?_;try simp[h1,h2]
 ·have e1:(x.slot==y.slot)=false:=by simp[h1]
  refine eU gx gy hx hy e1 ?_;refine⟨_,(by first|rfl|exact evd),.inl ?_⟩;refine evg ?_;try simp[h1]
theorem C0(x y:Clm)(l m:List Int)(c d:Bool)(hx:x.vals=.sl 1 c (aH .i64 l))(hy:y.vals=.sl 1 d (aH .i64 m))(hl:l.length<=140737488355328)(hm:m.length<=140737488355328):
 PC Tryz.prog 285 [.agg (du x),.agg (du y)] (.bool (decide (x.src=y.src/\x.tgt=y.tgt/\x.root=y.root/\l=m))):=by
 refine PC.fact 5 tO WM ⟨(re x).2 (by rw[Clm.Pure,hx];exact bE _ _),(re y).2 (by rw[Clm.Pure,hy];exact bE _ _),trivial⟩ trivial ?_;unfold mI;refine bd ?_;have gx:x.good=true:=by rw[Clm.good,hx];rfl
 have gy:y.good=true:=by rw[Clm.good,hy];rfl
 by_cases h1:x.src=y.src
 ·have e1:(x.src==y.src)=true:=by simp[h1]
  by_cases h2:x.tgt=y.tgt
  ·have e2:(x.tgt==y.tgt)=true:=by simp[h2]
   by_cases h3:x.root=y.root
   ·have e3:decide (x.root=y.root)=true:=by simp[h3]
    refine jj gx gy hx hy e1 e2 e3 ?_;refine ahG (jp l m c d hl hm) ?_;refine⟨_,(by first|rfl|exact evd),.inl ?_⟩;refine evg ?_;try simp[h1,h2,h3]
   ·have e3:decide (x.root=y.root)=false:=by simp[h3]
    refine jj gx gy hx hy e1 e2 e3 ?_;refine⟨_,(by first|rfl|exact evd),.inl ?_⟩;refine evg ?_;try simp[h1,h2,h3]
  ·have e2:(x.tgt==y.tgt)=false:=by simp[h2]
   refine fG gx gy hx hy e1 e2 ?_;refine⟨_,(by first|rfl|exact evd),.inl ?_⟩;refine evg ?_;try simp[h1,h2]
 ·have e1:(x.src==y.src)=false:=by simp[h1]
  refine eU gx gy hx hy e1 ?_;refine⟨_,(by first|rfl|exact evd),.inl ?_⟩;refine evg ?_;try simp[h1]
theorem SG(x y:Tab)(l m:List Int)(c d:Bool)(hx:x.bals=.sl 1 c (aH .u64 l))(hy:y.bals=.sl 1 d (aH .u64 m))(hl:l.length<=140737488355328)(hm:m.length<=140737488355328):
 PC Tryz.prog 156 [.agg (ar x),.agg (ar y)] (.bool (decide (x.cp=y.cp/\l=m))):=by
 refine PC.fact 5 DK WM ⟨(eP x).2 (by rw[Tab.Pure,hx];exact bE _ _),(eP y).2 (by rw[Tab.Pure,hy];exact bE _ _),trivial⟩ trivial ?_;unfold rE;refine bd ?_;have gx:x.good=true:=by rw[Tab.good,hx];rfl
 have gy:y.good=true:=by rw[Tab.good,hy];rfl
 by_cases h1:x.cp=y.cp
 ·have e1:decide (x.cp=y.cp)=true:=by simp[h1]
  refine eU gx gy hx hy e1 ?_;refine ahG (zn l m c d hl hm) ?_;refine⟨_,(by first|rfl|exact evd),.inl ?_⟩;refine evg ?_;try simp[h1]
 ·have e1:decide (x.cp=y.cp)=false:=by simp[h1]
  refine eU gx gy hx hy e1 ?_;refine⟨_,(by first|rfl|exact evd),.inl ?_⟩;refine evg ?_;try simp[h1]
theorem Ko(x y:Slg)(l1 l2 m1 m2:List Int)(c1 c2 d1 d2:Bool)(hx1:x.fst.vals=.sl 1 c1 (aH .i64 l1))(hx2:x.snd.vals=.sl 1 c2 (aH .i64 l2))(hy1:y.fst.vals=.sl 1 d1 (aH .i64 m1))(hy2:y.snd.vals=.sl 1 d2 (aH .i64 m2))
 (hl1:l1.length<=140737488355328) (hl2:l2.length<=140737488355328) (hm1:m1.length<=140737488355328) (hm2:m2.length<=140737488355328):
 PC Tryz.prog 200 [.agg (d7 x),.agg (d7 y)] (.bool (decide (x.fst.src=y.fst.src/\x.fst.tgt=y.fst.tgt/\x.fst.root=y.fst.root/\l1=m1)&&decide (x.snd.src=y.snd.src/\x.snd.tgt=y.snd.tgt/\x.snd.root=y.snd.root/\l2=m2))):=by
 have px1:x.fst.Pure:=by rw[Clm.Pure,hx1];exact bE _ _
 have px2:x.snd.Pure:=by rw[Clm.Pure,hx2];exact bE _ _
 have py1:y.fst.Pure:=by rw[Clm.Pure,hy1];exact bE _ _
 have py2:y.snd.Pure:=by rw[Clm.Pure,hy2];exact bE _ _
 have gx1:x.fst.good=true:=by rw[Clm.good,hx1];rfl
 have gx2:x.snd.good=true:=by rw[Clm.good,hx2];rfl
 have gy1:y.fst.good=true:=by rw[Clm.good,hy1];rfl
 have gy2:y.snd.good=true:=by rw[Clm.good,hy2];rfl
 have gx:x.good=true:=by rw[Slg.good,gx1,gx2];rfl
 have gy:y.good=true:=by rw[Slg.good,gy1,gy2];rfl
 refine PC.fact 5 qm WM ⟨(j7 x).2 ⟨px1,px2⟩,(j7 y).2 ⟨py1,py2⟩,trivial⟩ trivial ?_;unfold mo;refine bd ?_;have k1:=C0 x.fst y.fst l1 m1 c1 d1 hx1 hy1 hl1 hm1;have k2:=C0 x.snd y.snd l2 m2 c2 d2 hx2 hy2 hl2 hm2;generalize decide (x.fst.src=y.fst.src/\x.fst.tgt=y.fst.tgt/\x.fst.root=y.fst.root/\l1=m1)=b1 at *;generalize decide (x.snd.src=y.snd.src/\x.snd.tgt=y.snd.tgt/\x.snd.root=y.snd.root/\l2=m2)=b2 at *;cases b1
 ·refine fG gx gy gx1 gx2 gy1 gy2 ?_;refine am k1 ?_;refine fG gx gy gx1 gx2 gy1 gy2 ?_;exact ai
 ·refine fG gx gy gx1 gx2 gy1 gy2 ?_;refine am k1 ?_;refine fG gx gy gx1 gx2 gy1 gy2 ?_;refine ahG k2 ?_;exact ai
theorem BK(x:Int×Rt×Cp×List Int)(ρ:Nat->Nat):(rj x).map (ren ρ)=rj x:=by simp only[rj,Att.map,ren,dG]
theorem EY(x:Int×Rt×Cp×List Int)(σ:St)(zs:List Nat):(rj x).map (fz σ zs)=rj x:=by simp only[rj,Att.map,fz,dM]
theorem eW(x:Int×Rt×Cp×List Int):(rj x).good=true:=rfl
theorem Dc(x:Sv)(ρ:Nat->Nat):(nO x).map (ren ρ)=nO x:=by simp only[nO,Slg.map,BS]
theorem Fw(x:Sv)(σ:St)(zs:List Nat):(nO x).map (fz σ zs)=nO x:=by simp only[nO,Slg.map,EZ]
theorem HE(x:Sv):(nO x).good=true:=rfl
attribute [go_sem] BK EY eW Dc Fw HE
end Go.Proofs.YtmpddimhleianaaGreat
