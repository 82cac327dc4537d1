/- Joined. -/
import Derived.Test.YtnjdpnfglgcjcaaGreatW8
import Derived.Test.YtnjdpnfglgcjcaaGreatW9
import Derived.Test.YtnjdpnfglgcjcaaGreatW3
set_option linter.unusedVariables false
set_option linter.unusedSimpArgs false
set_option maxRecDepth 8000
set_option maxHeartbeats 4000000
namespace Go.Proofs.YtnjdpnfglgcjcaaGreat
open Go Go.FH Go.RowKit
theorem xL(b:List UInt8)(e:Int):(fE b e).2.1 <:+ b:=by
 unfold fE;split
 ·exact amP _
 ·split
  ·exact amP _
  ·split
   ·exact amP _
   ·exact List.suffix_cons _ _
theorem sf(b:List UInt8)(e:Int):(gE b e).2.1 <:+ b:=eY b e
theorem xN(b:List UInt8)(e:Int):(rCp b e).2.1 <:+ b:=by
 unfold rCp;split
 ·exact amP _
 ·exact(eY _ _).trans (se _ _ _)
theorem Er:∀ (n:Nat) (acc:List Int) (bs:List UInt8) (e:Int),(f9 n acc bs e).2.1 <:+ bs
 |0,_,bs,_=>amP _
 | n + 1, acc, bs, e => by
   rw[f9];split
   ·exact amP _
   ·exact(Er _ _ _ _).trans (se bs e bU)
theorem CK(b:List UInt8)(e:Int):U64 (aR b e bU).1:=⟨gw b e bU,alA (mW b e bU (by decide)) (by decide)⟩
theorem jW(x:Tv):(EU x).good=true:=rfl
attribute [go_sem] jW
theorem qD(x:Bool):I3 true (.bool x) (.tup [])=.bool x:=rfl
theorem qc(y:Bool):I3 false (.tup []) (.bool y)=.bool y:=rfl
attribute [go_sem] qD qc
theorem ra(l m:List Int)(c d:Bool)(hl:l.length<=140737488355328)(hm:m.length<=140737488355328):PC Tryz.prog 133 [.sl 1 c (aH .i64 l),.sl 1 d (aH .i64 m)] (.bool (decide (l=m))):=by
 refine PC.fact 6 FZ (by simp) ⟨bE _ _,bE _ _,trivial⟩ trivial ?_;unfold tP;refine bd ?_;by_cases hlen:l.length=m.length
 ·have h0:((l.length:Int) != (m.length:Int))=false:=by rw[hlen];exact alD _
  refine gon ?_;refine aB ?_ (by(try simp only[go_sem,h0]);try exact evd);refine gon ?_;refine gM (fun i:Nat=>⟨6,[.sl 1 c (aH .i64 l),.sl 1 d (aH .i64 m),.dead,.dead,.bool false,.int .i64 i],[]⟩) (fun _=>[]) (fun i=>l.length-i) (fun i=>i<=l.length/\l.take i=m.take i) [] 0 ⟨by omega,rfl⟩ evd rfl ?_;rintro i ⟨hi,hv⟩;try dsimp only
  refine gon ?_;refine aY evd (fun h=>?_) (fun h=>?_)
  ·have h1:i<l.length:=by simpa using h
   have h2:i<m.length:=by omega
   have hw:=af h1 (by omega);have g1:=fF (k:=.i64) h1;have g2:=fF (k:=.i64) h2;by_cases he:l.getD i 0=m.getD i 0
   ·rw[he]at g1;refine fp g1 g2 ?_;refine ah hw ?_;refine⟨i+1,⟨h1,?_⟩,by omega,rfl⟩;rw[amY,amY,hv,al6 h1,al6 h2];rw[alt,alt,al6 h1,al6 h2]at he;simp only[amT]at he;rw[he]
   ·have he':(l.getD i 0 != m.getD i 0)=true:=by simpa using he
    have hne:decide (l=m)=false:=by rw[ami];intro hh;rw[hh]at he;exact he rfl
    rw[hne];refine aZ g1 g2 ?_;refine ax ?_ (by(try simp only[go_sem,he']);try exact evd);refine gon ?_;exact ai
  ·have h1:i=l.length:=by simp at h;omega
   subst h1
   have he:l=m:=by
    rw[ajp,hlen,ajp]at hv;exact hv
   subst he;rw[au rfl];refine gon ?_;exact ai
 ·have h0:((l.length:Int) != (m.length:Int))=true:=by simp;omega
  have hne:decide (l=m)=false:=by rw[ami];intro hh;rw[hh]at hlen;exact hlen rfl
  rw[hne];refine gon ?_;refine ax ?_ (by(try simp only[go_sem,h0]);try exact evd);refine gon ?_;exact ai
theorem zn(l m:List Int)(c d:Bool)(hl:l.length<=140737488355328)(hm:m.length<=140737488355328):PC Tryz.prog 131 [.sl 1 c (aH .u64 l),.sl 1 d (aH .u64 m)] (.bool (decide (l=m))):=by
 refine PC.fact 6 zO (by simp) ⟨bE _ _,bE _ _,trivial⟩ trivial ?_;unfold ph;refine bd ?_;by_cases hlen:l.length=m.length
 ·have h0:((l.length:Int) != (m.length:Int))=false:=by rw[hlen];exact alD _
  refine gon ?_;refine aB ?_ (by(try simp only[go_sem,h0]);try exact evd);refine gon ?_;refine gM (fun i:Nat=>⟨6,[.sl 1 c (aH .u64 l),.sl 1 d (aH .u64 m),.dead,.dead,.bool false,.int .i64 i],[]⟩) (fun _=>[]) (fun i=>l.length-i) (fun i=>i<=l.length/\l.take i=m.take i) [] 0 ⟨by omega,rfl⟩ evd rfl ?_;rintro i ⟨hi,hv⟩;try dsimp only
  refine gon ?_;refine aY evd (fun h=>?_) (fun h=>?_)
  ·have h1:i<l.length:=by simpa using h
   have h2:i<m.length:=by omega
   have hw:=af h1 (by omega);have g1:=fF (k:=.u64) h1;have g2:=fF (k:=.u64) h2;by_cases he:l.getD i 0=m.getD i 0
   ·rw[he]at g1;refine fp g1 g2 ?_;refine ah hw ?_;refine⟨i+1,⟨h1,?_⟩,by omega,rfl⟩;rw[amY,amY,hv,al6 h1,al6 h2];rw[alt,alt,al6 h1,al6 h2]at he;simp only[amT]at he;rw[he]
   ·have he':(l.getD i 0 != m.getD i 0)=true:=by simpa using he
    have hne:decide (l=m)=false:=by rw[ami];intro hh;rw[hh]at he;exact he rfl
    rw[hne];refine aZ g1 g2 ?_;refine ax ?_ (by(try simp only[go_sem,he']);try exact evd);refine gon ?_;exact ai
  ·have h1:i=l.length:=by simp at h;omega
   subst h1
   have he:l=m:=by
    rw[ajp,hlen,ajp]at hv;exact hv
   subst he;rw[au rfl];refine gon ?_;exact ai
 ·have h0:((l.length:Int) != (m.length:Int))=true:=by simp;omega
  have hne:decide (l=m)=false:=by rw[ami];intro hh;rw[hh]at hlen;exact hlen rfl
  rw[hne];refine gon ?_;refine ax ?_ (by(try simp only[go_sem,h0]);try exact evd);refine gon ?_;exact ai
theorem SE(x y:Att)(l m:List Int)(c d:Bool)(hx:x.vals=.sl 1 c (aH .i64 l))(hy:y.vals=.sl 1 d (aH .i64 m))(hl:l.length<=140737488355328)(hm:m.length<=140737488355328):
 PC Tryz.prog 136 [.agg (cy x),.agg (cy y)] (.bool (decide (x.slot=y.slot/\x.root=y.root/\x.target=y.target/\l=m))):=by
 refine PC.fact 5 sU (by simp) ⟨(fB x).2 (by rw[Att.Pure,hx];exact bE _ _),(fB y).2 (by rw[Att.Pure,hy];exact bE _ _),trivial⟩ trivial ?_;unfold kE;refine bd ?_;have gx:x.good=true:=by rw[Att.good,hx];rfl
 have gy:y.good=true:=by rw[Att.good,hy];rfl
 by_cases h1:x.slot=y.slot
 ·have e1:(x.slot==y.slot)=true:=by simp[h1]
  by_cases h2:x.root=y.root
  ·have e2:decide (x.root=y.root)=true:=by simp[h2]
   by_cases h3:x.target=y.target
   ·have e3:decide (x.target=y.target)=true:=by simp[h3]
    refine jO gx gy hx hy e1 e2 e3 ?_;refine ahG (ra l m c d hl hm) ?_;refine⟨_,(by first|rfl|exact evd),.inl ?_⟩;refine evg ?_;try simp[h1,h2,h3]
   ·have e3:decide (x.target=y.target)=false:=by simp[h3]
    refine jO gx gy hx hy e1 e2 e3 ?_;refine⟨_,(by first|rfl|exact evd),.inl ?_⟩;refine evg ?_;try simp[h1,h2,h3]
  ·have e2:decide (x.root=y.root)=false:=by simp[h2]
   refine eV gx gy hx hy e1 e2 ?_;refine⟨_,(by first|rfl|exact evd),.inl ?_⟩;refine evg ?_;try simp[h1,h2]
 ·have e1:(x.slot==y.slot)=false:=by simp[h1]
  refine eU gx gy hx hy e1 ?_;refine⟨_,(by first|rfl|exact evd),.inl ?_⟩;refine evg ?_;try simp[h1]
theorem aba(x y:Clm)(l m:List Int)(c d:Bool)(hx:x.vals=.sl 1 c (aH .i64 l))(hy:y.vals=.sl 1 d (aH .i64 m))(hl:l.length<=140737488355328)(hm:m.length<=140737488355328):
 PC Tryz.prog 359 [.agg (du x),.agg (du y)] (.bool (decide (x.src=y.src/\x.tgt=y.tgt/\x.root=y.root/\l=m))):=by
 refine PC.fact 5 Py (by simp) ⟨(re x).2 (by rw[Clm.Pure,hx];exact bE _ _),(re y).2 (by rw[Clm.Pure,hy];exact bE _ _),trivial⟩ trivial ?_;unfold Hz;refine bd ?_;have gx:x.good=true:=by rw[Clm.good,hx];rfl
 have gy:y.good=true:=by rw[Clm.good,hy];rfl
 by_cases h1:x.src=y.src
 ·have e1:(x.src==y.src)=true:=by simp[h1]
  by_cases h2:x.tgt=y.tgt
  ·have e2:(x.tgt==y.tgt)=true:=by simp[h2]
   by_cases h3:x.root=y.root
   ·have e3:decide (x.root=y.root)=true:=by simp[h3]
    refine jO gx gy hx hy e1 e2 e3 ?_;refine ahG (ra l m c d hl hm) ?_;refine⟨_,(by first|rfl|exact evd),.inl ?_⟩;refine evg ?_;try simp[h1,h2,h3]
   ·have e3:decide (x.root=y.root)=false:=by simp[h3]
    refine jO gx gy hx hy e1 e2 e3 ?_;refine⟨_,(by first|rfl|exact evd),.inl ?_⟩;refine evg ?_;try simp[h1,h2,h3]
  ·have e2:(x.tgt==y.tgt)=false:=by simp[h2]
   refine eV gx gy hx hy e1 e2 ?_;refine⟨_,(by first|rfl|exact evd),.inl ?_⟩;refine evg ?_;try simp[h1,h2]
 ·have e1:(x.src==y.src)=false:=by simp[h1]
  refine eU gx gy hx hy e1 ?_;refine⟨_,(by first|rfl|exact evd),.inl ?_⟩;refine evg ?_;try simp[h1]
theorem SG(x y:Tab)(l m:List Int)(c d:Bool)(hx:x.bals=.sl 1 c (aH .u64 l))(hy:y.bals=.sl 1 d (aH .u64 m))(hl:l.length<=140737488355328)(hm:m.length<=140737488355328):
 PC Tryz.prog 259 [.agg (bS x),.agg (bS y)] (.bool (decide (x.cp=y.cp/\l=m))):=by
 refine PC.fact 5 DK (by simp) ⟨(eP x).2 (by rw[Tab.Pure,hx];exact bE _ _),(eP y).2 (by rw[Tab.Pure,hy];exact bE _ _),trivial⟩ trivial ?_;unfold rE;refine bd ?_;have gx:x.good=true:=by rw[Tab.good,hx];rfl
 have gy:y.good=true:=by rw[Tab.good,hy];rfl
 by_cases h1:x.cp=y.cp
 ·have e1:decide (x.cp=y.cp)=true:=by simp[h1]
  refine eU gx gy hx hy e1 ?_;refine ahG (zn l m c d hl hm) ?_;refine⟨_,(by first|rfl|exact evd),.inl ?_⟩;refine evg ?_;try simp[h1]
 ·have e1:decide (x.cp=y.cp)=false:=by simp[h1]
  refine eU gx gy hx hy e1 ?_;refine⟨_,(by first|rfl|exact evd),.inl ?_⟩;refine evg ?_;try simp[h1]
theorem ahR(x y:Slg)(l1 l2 m1 m2:List Int)(c1 c2 d1 d2:Bool)(hx1:x.fst.vals=.sl 1 c1 (aH .i64 l1))(hx2:x.snd.vals=.sl 1 c2 (aH .i64 l2))(hy1:y.fst.vals=.sl 1 d1 (aH .i64 m1))(hy2:y.snd.vals=.sl 1 d2 (aH .i64 m2))
 (hl1:l1.length<=140737488355328) (hl2:l2.length<=140737488355328) (hm1:m1.length<=140737488355328) (hm2:m2.length<=140737488355328):
 PC Tryz.prog 298 [.agg (d7 x),.agg (d7 y)] (.bool (decide (x.fst.src=y.fst.src/\x.fst.tgt=y.fst.tgt/\x.fst.root=y.fst.root/\l1=m1)&&decide (x.snd.src=y.snd.src/\x.snd.tgt=y.snd.tgt/\x.snd.root=y.snd.root/\l2=m2))):=by
 have px1:x.fst.Pure:=by rw[Clm.Pure,hx1];exact bE _ _
 have px2:x.snd.Pure:=by rw[Clm.Pure,hx2];exact bE _ _
 have py1:y.fst.Pure:=by rw[Clm.Pure,hy1];exact bE _ _
 have py2:y.snd.Pure:=by rw[Clm.Pure,hy2];exact bE _ _
 have gx1:x.fst.good=true:=by rw[Clm.good,hx1];rfl
 have gx2:x.snd.good=true:=by rw[Clm.good,hx2];rfl
 have gy1:y.fst.good=true:=by rw[Clm.good,hy1];rfl
 have gy2:y.snd.good=true:=by rw[Clm.good,hy2];rfl
 have gx:x.good=true:=by rw[Slg.good,gx1,gx2];rfl
 have gy:y.good=true:=by rw[Slg.good,gy1,gy2];rfl
 refine PC.fact 5 LS (by simp) ⟨(j7 x).2 ⟨px1,px2⟩,(j7 y).2 ⟨py1,py2⟩,trivial⟩ trivial ?_;unfold Fy;refine bd ?_;have k1:=aba x.fst y.fst l1 m1 c1 d1 hx1 hy1 hl1 hm1;have k2:=aba x.snd y.snd l2 m2 c2 d2 hx2 hy2 hl2 hm2;generalize decide (x.fst.src=y.fst.src/\x.fst.tgt=y.fst.tgt/\x.fst.root=y.fst.root/\l1=m1)=b1 at *;generalize decide (x.snd.src=y.snd.src/\x.snd.tgt=y.snd.tgt/\x.snd.root=y.snd.root/\l2=m2)=b2 at *;cases b1
 ·refine eV gx gy gx1 gx2 gy1 gy2 ?_;refine am k1 ?_;refine eV gx gy gx1 gx2 gy1 gy2 ?_;exact ai
 ·refine eV gx gy gx1 gx2 gy1 gy2 ?_;refine am k1 ?_;refine eV gx gy gx1 gx2 gy1 gy2 ?_;refine ahG k2 ?_;exact ai
theorem CJ{n:Int}(h:U64 n)(t:List UInt8):aR (bF n.toNat++t) 0 bU=(n,t,0):=by
 have h0:=h.lo;have h1:=h.hi;have:=(th (n:=n.toNat) (m:=bU) (by omega) (by simp only[bU];omega)).full t;(try simp only at this)
 rw[this,show ((n.toNat:Nat):Int)=n by omega]
theorem GA{n m:Int}(h0:0<=n)(h1:n<=m)(h2:m<18446744073709551616)(t:List UInt8):aR (bF n.toNat++t) 0 m=(n,t,0):=by
 have:=(th (n:=n.toNat) (m:=m) (by omega) (by omega)).full t;(try simp only at this)
 rw[this,show ((n.toNat:Nat):Int)=n by omega]
theorem xM{c:Cp}(h:U64 c.ep)(t:List UInt8):rCp (dt c++t) 0=(c,t,0):=(ab9 c h.lo h.hi).full t
theorem Gz(r:Rt)(t:List UInt8):pp (r.1++t) 0=(r,t,0):=(zZ r).full t
theorem M8{l:List Int}(hv:cE l 1024=0)(t:List UInt8):∀ (k i:Nat),l.length-i=k->i<=l.length->CG k (if i=0 then -1 else l.getD (i-1) 0) (l.take i) (kM l i++t) 0=(l,t,0)
 | 0, i, hk, hi => by
   have:i=l.length:=by omega
   subst this;rw[xF (by omega),CG,ajp,amD]
 | k + 1, i, hk, hi => by
   have hlt:i<l.length:=by omega
   have hd:=xU hv hlt;rw[pB hlt,CG,al5 (by simp),amd,GA hd.1 (by omega) (by omega)]
   have e:(if i=0 then -1 else l.getD (i-1) 0)+1+fY l i=l.getD i 0:=by
    unfold fY;split
    ·subst_vars;omega
    ·omega
   have e2:l.take i++[l.getD i 0]=l.take (i+1):=by
    rw[amY,alt,al6 hlt];rfl
   simp only;rw[e,e2];have:=M8 hv t k (i+1) (by omega) (by omega);rw[al5 (by omega),alz]at this;exact this
theorem aeq{l:List Int}(hv:cE l 1024=0)(t:List UInt8):xf (sW l++t) 0=(l,t,0):=by
 have hl:=C5 (n:=1024) hv;have h1:=GA (n:=l.length) (m:=1024) (by omega) (by omega) (by omega) (kM l 0++t);rw[amw]at h1;unfold xf;rw[sW,amd,h1];have:=M8 hv t _ 0 rfl (by omega);simpa using this
theorem IG:∀ (l acc:List Int) (t:List UInt8),(∀n∈l,U64 n)->f9 l.length acc (wx l++t) 0=(acc++l,t,0)
 | [],acc,t,_=>by simp[f9,wx]
 | n :: l, acc, t, h => by
   rw[al8,f9,al5 (by simp),wx,amd,CJ (h n (by simp))];simp only;rw[IG l (acc++[n]) t (fun m hm=>h m (by simp[hm]))];simp
theorem Y3(x:Att)(l:List Int)(h1:U64 x.slot)(h2:U64 x.target.ep)(hv:cE l 1024=0):D9 (oW x l) 0=((x.slot,x.root,x.target,l),[],0):=by
 have e:=aeq hv [];rw[amo]at e;unfold D9;simp only[oW,amd,CJ h1,Gz,xM h2,e]
theorem Zb{x:Tab}{l:List Int}{cl:Bool}(h:GR x l cl)(hl:l.length<=1024):mV (oK x l) 0=((x.cp,l),[],0):=by
 have h1:=GA (n:=l.length) (m:=1024) (by omega) (by omega) (by omega) (wx l);rw[amw]at h1;have e:=IG l [] [] h.all;rw[amo]at e;unfold mV;simp only[oK,dt,amd,CJ h.ep,Gz,h1,amw,e];rfl
theorem Y4(x:Blk)(h:NQ x)(hd:∀n∈x.diff.1,0<=n/\n<18446744073709551616)(hp:∀n∈x.pdiff.1,0<=n/\n<18446744073709551616)(t:List UInt8):zW (i9 x++t) 0=(x,t,0):=by
 have w1:=fun t=>(Aa x.diff hd).full t
 have w2:=fun t=>(Aa x.pdiff hp).full t
 have b1:=fun t=>(IE x.timely).full t
 unfold zW;simp only[i9,amd,CJ h.slot,Gz,w1,w2,xM h.just,xM h.fin,xM h.j,xM h.f,b1]
theorem M9:∀ (n:Nat) (acc:List Int) (bs:List UInt8) (e:Int),(f9 n acc bs e).1.length<=acc.length+n
 |0,_,_,_=>amb _
 | n + 1, acc, bs, e => by
   rw[f9];split
   ·simp only;omega
   ·have:=M9 n (acc++[(aR bs e bU).1]) (aR bs e bU).2.1 (aR bs e bU).2.2;simp only[akC,al8,ama]at this;omega
theorem acb(b:List UInt8)(e:Int):(mV b e).1.2.length<=1024:=by
 unfold mV;simp only;have h1:=M9 (aR (pp (aR b e bU).2.1 (aR b e bU).2.2).2.1 (pp (aR b e bU).2.1 (aR b e bU).2.2).2.2 1024).1.toNat [] (aR (pp (aR b e bU).2.1 (aR b e bU).2.2).2.1 (pp (aR b e bU).2.1 (aR b e bU).2.2).2.2 1024).2.1 (aR (pp (aR b e bU).2.1 (aR b e bU).2.2).2.1 (pp (aR b e bU).2.1 (aR b e bU).2.2).2.2 1024).2.2;have h2:=mW (pp (aR b e bU).2.1 (aR b e bU).2.2).2.1 (pp (aR b e bU).2.1 (aR b e bU).2.2).2.2 1024 (by omega);simp only[ama]at h1;omega
theorem aaT(b:List UInt8):(Ds b.length (D9 b 0)).1.2.2.2.length<=1024:=by
 unfold Ds;have h:(D9 b 0).1.2.2.2.length<=1024:=M7 _ _;(repeat' split)<;>first|exact h|simp[oX]
theorem eW(x:Int×Rt×Cp×List Int):(rj x).good=true:=rfl
theorem jo(x:Sv):(abn x).good=true:=rfl
attribute [go_sem] eW jo
end Go.Proofs.YtnjdpnfglgcjcaaGreat
