/- Joined. -/
import Derived.Test.YtmpddimhleianaaGreatW7v
import Derived.Test.YtmpddimhleianaaGreatW4v
import Derived.Test.YtmpddimhleianaaGreatW3v
set_option linter.unusedVariables false
set_option linter.unusedSimpArgs false
set_option maxRecDepth 8000
set_option maxHeartbeats 4000000
namespace Go.Proofs.YtmpddimhleianaaGreat
open Go Go.FH
def mX(l:List Int)(n:Int)(i:Nat):Int:=
 if i<l.length then (if l.getD i 0<0\/n<=l.getD i 0 then 3 else if 0<i/\l.getD i 0<=l.getD (i-1) 0 then 8 else mX l n (i+1))else 0
termination_by l.length-i
def cM(l:List Int)(n:Int):Int:=if l=[]then 2 else mX l n 0
theorem lU{l:List Int}{n:Int}{i:Nat}(h:i<l.length):mX l n i=if l.getD i 0<0\/n<=l.getD i 0 then 3 else if 0<i/\l.getD i 0<=l.getD (i-1) 0 then 8 else mX l n (i+1):=by
 rw[mX,afA h]
theorem nH{l:List Int}{n:Int}{i:Nat}(h:¬i<l.length):mX l n i=0:=by rw[mX,afx h]
def ik(l:List Int)(i:Nat):Int:=if i=0 then l.getD 0 0 else l.getD i 0-(l.getD (i-1) 0+1)
def mq(l:List Int)(i:Nat):List UInt8:=if i<l.length then br (ik l i).toNat++mq l (i+1)else []
termination_by l.length-i
theorem qz{l:List Int}{i:Nat}(h:i<l.length):mq l i=br (ik l i).toNat++mq l (i+1):=by rw[mq,afA h]
theorem ya{l:List Int}{i:Nat}(h:¬i<l.length):mq l i=[]:=by rw[mq,afx h]
theorem yb(l:List Int)(i:Nat)(hi:i<=l.length):l.length-i<=(mq l i).length:=by
 by_cases h:i<l.length
 ·rw[qz h,afB];have:=yb l (i+1) h;have:=Wh (ik l i).toNat
  omega
 ·omega
termination_by l.length-i
def pm(l:List Int):List UInt8:=br l.length++mq l 0
theorem Ln{l:List Int}{n:Int}:∀ (k i:Nat),l.length-i=k->mX l n i=0->∀j,i<=j->j<l.length->0<=l.getD j 0/\l.getD j 0<n/\(0<j->l.getD (j-1) 0<l.getD j 0)
 |0,i,hk,h,j,h1,h2=>by omega
 | k + 1, i, hk, h, j, h1, h2 => by
   rw[lU af0]at h;split at h
   ·cases h
   ·rename_i ha
    split at h
    ·cases h
    ·rename_i hb
     by_cases hj:j=i
     ·subst hj;refine⟨af0,af0,fun h0=>?_⟩;have:=not_and.1 hb h0;omega
     ·exact Ln k (i+1) af0 h j af0 h2
theorem ie{l:List Int}{n:Int}(h:cM l n=0):l≠[]/\∀j,j<l.length->0<=l.getD j 0/\l.getD j 0<n/\(0<j->l.getD (j-1) 0<l.getD j 0):=by
 unfold cM at h;split at h
 ·cases h
 ·rename_i h0;exact⟨h0,fun j hj=>Ln _ 0 rfl h j af0 hj⟩
theorem yH{l:List Int}{n:Int}(h:cM l n=0){j:Nat}(hj:j<l.length):0<=ik l j/\ik l j<n:=by
 have h1:=(ie h).2 j hj;unfold ik;split
 ·subst_vars;exact⟨h1.1,h1.2.1⟩
 ·have h2:=h1.2.2 af0;have h3:=(ie h).2 (j-1) af0;omega
def yh:List Int->List UInt8
 | []=>[]
 |x::l=>br x.toNat++yh l
theorem fC{k:IntKind}{ns:List Int}{i:Nat}(h:i<ns.length):(ah k ns).getD i []=[.int k (ns.getD i 0)]:=by
 rw[Qm h,afy,afz h];rfl
theorem jV(l:List Int)(cl:Bool)(n:Int)(hb:l.length<=140737488355328):PC Tryz.prog 234 [.sl 1 cl (ah .i64 l),.int .i64 n] (.int .i64 (cM l n)):=by
 refine PC.fact 13 qt af1 ⟨aY .i64 l,trivial,trivial⟩ trivial ?_;unfold kL cM;refine bd ?_;by_cases h0:l=[]
 ·subst h0;rw[afA rfl];refine bD ?_;exact aj
 rw[afx h0];have hl:0<l.length:=adE.2 h0;have hl':((l.length:Int)==0)=false:=by simp;omega
 refine aA hl' ?_;refine aI ?_ (by(try simp only[go_sem,hl']);try exact evd);refine gon ?_;refine kh (fun i:Nat=>⟨13,[.sl 1 cl (ah .i64 l),.int .i64 n,.dead,.dead,.int .i64 0,.dead,.dead,.dead,.dead,.dead,.sl 1 cl (ah .i64 l),.int .i64 l.length,.int .i64 i],[]⟩) (fun _=>[]) (fun i=>l.length-i) (fun i=>i<=l.length/\mX l n i=mX l n 0) [5,6,7,8,9] 0 ⟨af0,rfl⟩ evd rfl ?_;rintro i ⟨hi,hv⟩;try dsimp only
 refine gon ?_;refine bM evd (fun h=>?_) (fun h=>?_)
 ·have h1:i<l.length:=by simp at h;omega
  have hg:=fC (k:=.i64) h1;have hi':((i:Int)+1)=((i+1:Nat):Int):=af0
  have hw:=ae h1 af0;rw[lU h1]at hv;generalize hx:l.getD i 0=x at *;by_cases hA:x<0\/n<=x
  ·rw[afA hA]at hv
   rw[<-hv];by_cases hx0:x<0
   ·have hx0':decide (x<0)=true:=by simpa using hx0
    refine dV hg hx0' ?_;exact aj
   ·have hx0':decide (x<0)=false:=by simpa using hx0
    have hx1:decide (n<=x)=true:=by rw[afJ];omega
    refine kU hg hx0' hx1 ?_;exact aj
  ·rw [afx hA] at hv
   have hx0':decide (x<0)=false:=by rw[afQ];omega
   have hx1:decide (n<=x)=false:=by rw[afQ];omega
   refine uA hg hx0' hx1 ?_;by_cases hp:0<i
   ·have hp':decide ((0:Int)<(i:Int))=true:=by rw[afJ];omega
    have hw1:IntKind.i64.wrap ((i:Int)-1)=((i-1:Nat):Int):=by rw[ar af0 af0];omega
    have hg2:=fC (k:=.i64) (show i-1<l.length by omega);by_cases hB:x<=l.getD (i-1) 0
    ·have hB':decide (x<=l.getD (i-1) 0)=true:=by simpa using hB
     rw[afA ⟨hp,hB⟩]at hv;rw[<-hv];refine ec hg hp' hw1 hg2 hB' ?_;refine aac ?_;exact aj
    ·have hB':decide (x<=l.getD (i-1) 0)=false:=by simpa using hB
     rw[afx (fun hh=>hB hh.2)]at hv;refine ec hg hp' hw1 hg2 hB' ?_;refine aI ?_;refine aA hw ?_;exact⟨i+1,⟨h1,hv⟩,af0,rfl⟩
   ·have hp':decide ((0:Int)<(i:Int))=false:=by rw[afQ];omega
    rw[afx (fun hh=>hp hh.1)]at hv;refine da hp' ?_;refine aA hw ?_;exact⟨i+1,⟨h1,hv⟩,af0,rfl⟩
 ·have h1:i=l.length:=by simp at h;omega
  subst h1;rw[<-hv,nH af0];refine gon ?_;exact aj
theorem gV(l:List Int)(cl:Bool)(n:Int)(hb:l.length<=140737488355328):PC Tryz.prog 132 [.sl 1 cl (ah .i64 l),.int .i64 n] (.int .i64 (cM l n)):=by
 refine PC.fact 6 tM af1 ⟨aY .i64 l,trivial,trivial⟩ trivial ?_;unfold mR cM;refine bd ?_;by_cases h0:l=[]
 ·subst h0;rw[afA rfl];refine bD ?_;exact aj
 rw[afx h0];have hl:0<l.length:=adE.2 h0;have hl':((l.length:Int)==0)=false:=by simp;omega
 refine aA hl' ?_;refine aI ?_ (by(try simp only[go_sem,hl']);try exact evd);refine gon ?_;refine kh (fun i:Nat=>⟨6,[.sl 1 cl (ah .i64 l),.int .i64 n,.dead,.dead,.int .i64 0,.int .i64 i],[]⟩) (fun _=>[]) (fun i=>l.length-i) (fun i=>i<=l.length/\mX l n i=mX l n 0) [] 0 ⟨af0,rfl⟩ evd rfl ?_;rintro i ⟨hi,hv⟩;try dsimp only
 refine gon ?_;refine bM evd (fun h=>?_) (fun h=>?_)
 ·have h1:i<l.length:=by simp at h;omega
  have hg:=fC (k:=.i64) h1;have hi':((i:Int)+1)=((i+1:Nat):Int):=af0
  have hw:=ae h1 af0;rw[lU h1]at hv;generalize hx:l.getD i 0=x at *;by_cases hA:x<0\/n<=x
  ·rw[afA hA]at hv
   rw[<-hv];by_cases hx0:x<0
   ·have hx0':decide (x<0)=true:=by simpa using hx0
    refine dV hg hx0' ?_;exact aj
   ·have hx0':decide (x<0)=false:=by simpa using hx0
    have hx1:decide (n<=x)=true:=by rw[afJ];omega
    refine kU hg hx0' hx1 ?_;exact aj
  ·rw [afx hA] at hv
   have hx0':decide (x<0)=false:=by rw[afQ];omega
   have hx1:decide (n<=x)=false:=by rw[afQ];omega
   refine uA hg hx0' hx1 ?_;by_cases hp:0<i
   ·have hp':decide ((0:Int)<(i:Int))=true:=by rw[afJ];omega
    have hw1:IntKind.i64.wrap ((i:Int)-1)=((i-1:Nat):Int):=by rw[ar af0 af0];omega
    have hg2:=fC (k:=.i64) (show i-1<l.length by omega);by_cases hB:x<=l.getD (i-1) 0
    ·have hB':decide (x<=l.getD (i-1) 0)=true:=by simpa using hB
     rw[afA ⟨hp,hB⟩]at hv;rw[<-hv];refine ec hg hp' hw1 hg2 hB' ?_;refine aac ?_;exact aj
    ·have hB':decide (x<=l.getD (i-1) 0)=false:=by simpa using hB
     rw[afx (fun hh=>hB hh.2)]at hv;refine ec hg hp' hw1 hg2 hB' ?_;refine aI ?_;refine aA hw ?_;exact⟨i+1,⟨h1,hv⟩,af0,rfl⟩
   ·have hp':decide ((0:Int)<(i:Int))=false:=by rw[afQ];omega
    rw[afx (fun hh=>hp hh.1)]at hv;refine da hp' ?_;refine aA hw ?_;exact⟨i+1,⟨h1,hv⟩,af0,rfl⟩
 ·have h1:i=l.length:=by simp at h;omega
  subst h1;rw[<-hv,nH af0];refine gon ?_;exact aj
def Zb(f:FuncId)(xs:List AV)(e:List UInt8):Prop:=∀bs:List UInt8,bs.length+e.length<=140737488355328->aJ Tryz.prog f (.hs 1 0 0 bs.length::xs) [.vec 1 (bts bs)] (.hs 1 1 0 (bs.length+e.length)) [.gone,.vec 1 (bts (bs++e))]
theorem yw(l:List Int)(cl:Bool)(hv:cM l 1024=0):Zb 247 [.sl 1 cl (ah .i64 l)] (pm l):=by
 intro bs hb;refine cZ 15 ?_;have hl:(pm l).length=(br l.length).length+(mq l 0).length:=by rw[pm,afB]
 have hll:l.length<=(mq l 0).length:=yb l 0 af0;have hu:=(eI (l.length:Int) af0 af0).own bs (by rw[afH];omega);rw[afH]at hu;have hw0:IntKind.u64.wrap (l.length:Int)=(l.length:Int):=aC af0 af0;refine aA hw0 ?_;refine ocg [0] hu ?_
 refine eR (fun x:List UInt8×Nat=>⟨15,[.hs 1 1 0 x.1.length,.sl 1 cl (ah .i64 l),.dead,.dead,.sl 0 true [],.dead,.dead,.dead,.dead,.dead,.dead,.dead,.sl 1 cl (ah .i64 l),.int .i64 l.length,.int .i64 x.2],[]⟩)
  (fun x=>[.gone,.vec 1 (bts x.1)]) (fun x=>l.length-x.2) (fun x=>x.2<=l.length/\x.1++mq l x.2=bs++pm l) (bs++br l.length,0) ⟨af1,by simp[pm]⟩ ?_ ?_
 ·simp only[afB];exact abS [] [0,1]
 rintro⟨acc,i⟩ ⟨h1,h2⟩;dsimp only at h1 h2 ⊢;have hal:acc.length+(mq l i).length=bs.length+(pm l).length:=by simpa using acM List.length h2
 refine gon ?_;refine bM evd (fun h=>?_) (fun h=>?_)
 ·have hi:i<l.length:=by simpa using h
  have hg:=fC (k:=.i64) hi;have hd:=yH hv hi;have hi0:=(ie hv).2 i hi;rw[qz hi]at h2 hal;rw[afB]at hal;have ha:=(eI (ik l i) hd.1 af0).own acc af0;have hw:=ae hi af0;have hwd:IntKind.u64.wrap (ik l i)=ik l i:=aC af0 af0;by_cases hp:0<i
  ·have hp':decide ((0:Int)<(i:Int))=true:=by rw[afJ];omega
   have hi1:=(ie hv).2 (i-1) af0;have hw1:IntKind.i64.wrap ((i:Int)-1)=((i-1:Nat):Int):=by rw[ar af0 af0];omega
   have hg2:=fC (k:=.i64) (show i-1<l.length by omega);have hw2:IntKind.i64.wrap (l.getD (i-1) 0+1)=l.getD (i-1) 0+1:=ar af0 af0;have hw3:IntKind.i64.wrap (l.getD i 0-(l.getD (i-1) 0+1))=ik l i:=by rw[ik,afx af0,ar af0 af0]
   refine bm hg hp' ?_;refine aq ?_ (by(try simp only[go_sem,hp']);try exact evd);refine ec hw1 hg2 hw2 hw3 hwd ?_;refine oce [1] ha ?_;refine aA hw ?_;refine⟨(acc++br (ik l i).toNat,i+1),⟨hi,by simpa using h2⟩,by dsimp only;omega,?_⟩;simp only[afB];exact abS [] [0,2]
  ·have hp':decide ((0:Int)<(i:Int))=false:=by rw[afQ];omega
   have h0:i=0:=af0
   subst h0;have e0:l.getD 0 0=ik l 0:=by rw[ik,afA rfl]
   have hz:IntKind.i64.wrap ((0:Int)+1)=1:=af2
   rw[e0]at hg;refine bm hg hp' ?_;refine aI ?_ (by(try simp only[go_sem,hp']);try exact evd);refine aA hwd ?_;refine oce [1] ha ?_;refine aA hz ?_;refine⟨(acc++br (ik l 0).toNat,0+1),⟨hi,by simpa using h2⟩,by dsimp only;omega,?_⟩;simp only[afB];exact abS [] [0,2]
 ·have hi:i=l.length:=by simp at h;omega
  subst hi;rw[ya af0,acH]at h2;rw[<-h2];have h3:=acM List.length h2;rw[afB]at h3;rw[<-h3];refine gon ?_;exact abF [] [0,1]
theorem yA(l:List Int)(cl:Bool)(hv:cM l 1024=0):Zb 283 [.sl 1 cl (ah .i64 l)] (pm l):=by
 intro bs hb;refine cZ 6 ?_;have hl:(pm l).length=(br l.length).length+(mq l 0).length:=by rw[pm,afB]
 have hll:l.length<=(mq l 0).length:=yb l 0 af0;have hu:=(ef (l.length:Int) af0 af0).own bs (by rw[afH];omega);rw[afH]at hu;have hw0:IntKind.u64.wrap (l.length:Int)=(l.length:Int):=aC af0 af0;refine aA hw0 ?_;refine ocg [0] hu ?_
 refine eR (fun x:List UInt8×Nat=>⟨6,[.hs 1 1 0 x.1.length,.sl 1 cl (ah .i64 l),.dead,.dead,.sl 0 true [],.int .i64 x.2],[]⟩)
  (fun x=>[.gone,.vec 1 (bts x.1)]) (fun x=>l.length-x.2) (fun x=>x.2<=l.length/\x.1++mq l x.2=bs++pm l) (bs++br l.length,0) ⟨af1,by simp[pm]⟩ ?_ ?_
 ·simp only[afB];exact abS [] [0,1]
 rintro⟨acc,i⟩ ⟨h1,h2⟩;dsimp only at h1 h2 ⊢;have hal:acc.length+(mq l i).length=bs.length+(pm l).length:=by simpa using acM List.length h2
 refine gon ?_;refine bM evd (fun h=>?_) (fun h=>?_)
 ·have hi:i<l.length:=by simpa using h
  have hg:=fC (k:=.i64) hi;have hd:=yH hv hi;have hi0:=(ie hv).2 i hi;rw[qz hi]at h2 hal;rw[afB]at hal;have ha:=(ef (ik l i) hd.1 af0).own acc af0;have hw:=ae hi af0;have hwd:IntKind.u64.wrap (ik l i)=ik l i:=aC af0 af0;by_cases hp:0<i
  ·have hp':((i:Int)==0)=false:=by simp;omega
   have hi1:=(ie hv).2 (i-1) af0;have hw1:IntKind.i64.wrap ((i:Int)-1)=((i-1:Nat):Int):=by rw[ar af0 af0];omega
   have hg2:=fC (k:=.i64) (show i-1<l.length by omega);have hw2:IntKind.i64.wrap (l.getD i 0-l.getD (i-1) 0)=l.getD i 0-l.getD (i-1) 0:=ar af0 af0;have hw3:IntKind.i64.wrap (l.getD i 0-l.getD (i-1) 0-1)=ik l i:=by rw[ik,afx af0,ar af0 af0];omega
   refine aA hp' ?_;refine aI ?_ (by(try simp only[go_sem,hp']);try exact evd);refine gO hg hw1 hg2 hw2 hw3 hwd ?_;refine dse [1] ha ?_;refine aA hw ?_;refine⟨(acc++br (ik l i).toNat,i+1),⟨hi,by simpa using h2⟩,by dsimp only;omega,?_⟩;simp only[afB];exact abS [] [0,2]
  ·have h0:i=0:=af0
   subst h0;have e0:l.getD 0 0=ik l 0:=by rw[ik,afA rfl]
   have hz:IntKind.i64.wrap ((0:Int)+1)=1:=af2
   rw[e0]at hg;refine kT ?_;refine bm hg hwd ?_;refine oce [1] ha ?_;refine aA hz ?_;refine⟨(acc++br (ik l 0).toNat,0+1),⟨hi,by simpa using h2⟩,by dsimp only;omega,?_⟩;simp only[afB];exact abS [] [0,2]
 ·have hi:i=l.length:=by simp at h;omega
  subst hi;rw[ya af0,acH]at h2;rw[<-h2];have h3:=acM List.length h2;rw[afB]at h3;rw[<-h3];refine gon ?_;exact abF [] [0,1]
end Go.Proofs.YtmpddimhleianaaGreat
namespace Go.Proofs.YtmpddimhleianaaGreat
open Go Go.FH Go.RowKit
theorem Pd{l:List Int}{n:Int}(h:cM l n=0):∀j,j<l.length->(j:Int)<=l.getD j 0
 |0,hj=>by have:=((ie h).2 0 hj).1;omega
 | j + 1, hj => by
   have h1:=Pd h j af0;have h2:=((ie h).2 (j+1) hj).2.2 af0;simp only[Nat.add_sub_cancel]at h2;omega
theorem Wj{l:List Int}{n:Nat}(h:cM l n=0):l.length<=n:=by
 by_cases h0:l.length=0
 ·omega
 ·have h1:=Pd h (l.length-1) af0;have h2:=((ie h).2 (l.length-1) af0).2.1;omega
theorem J6{l:List Int}(hv:cM l 1024=0):∀ (k i:Nat),l.length-i=k->(mq l i).length<=10*k
 |0,i,hk=>by rw[ya af0];simp
 | k + 1, i, hk => by
   rw[qz af0,afB];have h1:=J6 hv k (i+1) af0;have h2:=yH hv (j:=i) af0;have h3:=d8 (n:=(ik l i).toNat) af0;omega
theorem Ai{l:List Int}(hv:cM l 1024=0):(pm l).length<=10250:=by
 have h1:=Wj (n:=1024) hv;have h2:=J6 hv _ 0 rfl;have h3:=d8 (n:=l.length) af0;rw[pm,afB];omega
def LA(x:Att)(l:List Int):List UInt8:=br x.slot.toNat++x.root.1++eM x.target++pm l
structure U64(n:Int):Prop where
 lo:0<=n
 hi:n<18446744073709551616
theorem U64.len{n:Int}(h:U64 n):(br n.toNat).length<=10:=d8 (by have:=h.lo;have:=h.hi;omega)
theorem fe{c:Cp}(h:U64 c.ep):(eM c).length<=42:=by
 have:=h.len;have:=c.rt.2;rw[eM,afB];omega
theorem Vn(x:Att)(l:List Int)(cl:Bool)(hx:x.vals=.sl 1 cl (ah .i64 l))(hl:l.length<=140737488355328)(h1:U64 x.slot)(h2:U64 x.target.ep):
 PC Tryz.prog 159 [.agg (cK x)] (.tup [.sl 1 false (bts (if cM l 1024=0 then LA x l else [])),.int .i64 (cM l 1024)]):=by
 refine PC.fact 6 nf af1 ⟨(gI x).2 (by rw[Att.Pure,hx];exact aY _ _),trivial⟩ ⟨iP _,trivial,trivial⟩ ?_;unfold iI;refine bd ?_;have hc:=jV l cl 1024 hl;have hg:x.good=true:=by rw[Att.good,hx];rfl
 by_cases hv:cM l 1024=0
 ·have hr:=x.root.2;have q1:=h1.len;have q2:=fe h2;have q3:=Ai hv;have p1:=(eI x.slot h1.lo h1.hi).nil af0;have p2:=(jj x.root).own (br x.slot.toNat) af0;have p3:=(tu x.target h2.lo h2.hi).own (br x.slot.toNat++x.root.1) (by rw[afB];omega);have p4:=yw l cl hv (br x.slot.toNat++x.root.1++eM x.target) (by simp only[afB];omega);rw[afA hv];rw[hv]at hc ⊢;refine bm hx hg ?_;refine ap hc ?_;refine bY ?_;refine dsg [] p1 ?_;refine dsg [1] p2 ?_;refine dse [2] p3 ?_;refine aA hx ?_;refine dsg [3] p4 ?_;exact aj
 ·have hv':(cM l 1024 != 0)=true:=by simpa using hv
  rw[afx hv];refine bm hx hg ?_;refine abl hc ?_;refine aq ?_ (by(try simp only[go_sem,hv']);try exact evd);refine gon ?_;refine⟨_,rfl,.inr ⟨.tup [.sl 0 true [],.int .i64 (cM l 1024)],evd,⟨trivial,trivial,trivial⟩,Wk.tup ⟨Wk.empty _ _ _,Wk.refl _,trivial⟩⟩⟩
theorem VC(x:Att)(l:List Int)(cl:Bool)(hx:x.vals=.sl 1 cl (ah .i64 l))(hl:l.length<=140737488355328)(h1:U64 x.slot)(h2:U64 x.target.ep):
 PC Tryz.prog 195 [.agg (cK x)] (.tup [.sl 1 false (bts (if cM l 1024=0 then LA x l else [])),.int .i64 (cM l 1024)]):=by
 refine PC.fact 5 ph af1 ⟨(gI x).2 (by rw[Att.Pure,hx];exact aY _ _),trivial⟩ ⟨iP _,trivial,trivial⟩ ?_;unfold jA;refine bd ?_;have hc:=gV l cl 1024 hl;have hg:x.good=true:=by rw[Att.good,hx];rfl
 by_cases hv:cM l 1024=0
 ·have hr:=x.root.2;have q1:=h1.len;have q2:=fe h2;have q3:=Ai hv;have p1:=(ef x.slot h1.lo h1.hi).nil af0;have p2:=(iw x.root).own (br x.slot.toNat) af0;have p3:=(xm x.target h2.lo h2.hi).own (br x.slot.toNat++x.root.1) (by rw[afB];omega);have p4:=yA l cl hv (br x.slot.toNat++x.root.1++eM x.target) (by simp only[afB];omega);rw[afA hv];rw[hv]at hc ⊢;refine bm hx hg ?_;refine ap hc ?_;refine d6 ?_;refine aA hx ?_;refine dsg [] p1 ?_;refine dsg [1] p2 ?_;refine dse [2] p3 ?_;refine aA hx ?_;refine dsg [3] p4 ?_;exact aj
 ·have hv':(cM l 1024 != 0)=true:=by simpa using hv
  rw[afx hv];refine bm hx hg ?_;refine abl hc ?_;refine aq ?_ (by(try simp only[go_sem,hv']);try exact evd);refine gon ?_;refine⟨_,rfl,.inr ⟨.tup [.sl 0 true [],.int .i64 (cM l 1024)],evd,⟨trivial,trivial,trivial⟩,Wk.tup ⟨Wk.empty _ _ _,Wk.refl _,trivial⟩⟩⟩
def pE(x:Clm)(l:List Int):List UInt8:=br x.src.toNat++br x.tgt.toNat++x.root.1++pm l
structure uM(x:Clm)(l:List Int)(cl:Bool):Prop where
 src:U64 x.src
 tgt:U64 x.tgt
 vals:x.vals=.sl 1 cl (ah .i64 l)
 len:l.length<=140737488355328
theorem rP{x:Clm}{l:List Int}{cl:Bool}(h:uM x l cl)(hv:cM l 1024=0):(pE x l).length<=10302:=by
 have:=h.src.len;have:=h.tgt.len;have:=Ai hv;have:=x.root.2;simp only[pE,afB];omega
theorem uM.good{x:Clm}{l:List Int}{cl:Bool}(h:uM x l cl):x.good=true:=by rw[Clm.good,h.vals];rfl
theorem uM.pu{x:Clm}{l:List Int}{cl:Bool}(h:uM x l cl):x.Pure:=by rw[Clm.Pure,h.vals];exact aY _ _
theorem uM.map{x:Clm}{l:List Int}{cl:Bool}(h:uM x l cl)(ρ:Nat->Nat):x.map (ren ρ)=x:=by
 have hv:=h.vals;obtain⟨s,t,r,v⟩:=x;simp only at hv;subst hv;simp only[Clm.map,ren,fp]
theorem NC(x:Clm)(l:List Int)(cl:Bool)(hx:uM x l cl)(hv:cM l 1024=0):Zb 284 [.agg (dB x)] (pE x l):=by
 intro bs hb;refine afn 5 vV ?_;unfold qk;refine bd ?_;simp only[pE,afB,<-afZ,<-acZ]at hb ⊢;have hg:=hx.good;have hvs:=hx.vals;have p1:=(ef x.src hx.src.lo hx.src.hi).own bs af0;have p2:=(ef x.tgt hx.tgt.lo hx.tgt.hi).own (bs++br x.src.toNat) (by simp only[afB];omega);have p3:=(iw x.root).own (bs++br x.src.toNat++br x.tgt.toNat) (by simp only[afB];omega);have p4:=yA l cl hv (bs++br x.src.toNat++br x.tgt.toNat++x.root.1) (by simp only[afB];omega);refine aA hg ?_;refine dsg [0] p1 ?_;refine dsg [2] p2 ?_;refine dse [3] p3 ?_;refine aA hvs ?_;refine dsg [4] p4 ?_;exact abF [] [0,5]
theorem NB(x:Clm)(l:List Int)(cl:Bool)(hx:uM x l cl)(hv:cM l 1024=0):aJ Tryz.prog 284 [.sl 0 true [],.agg (dB x)] [] (.hs 1 0 0 (pE x l).length) [.vec 1 (bts (pE x l))]:=by
 refine afn 5 vV ?_;have hb:=rP hx hv;unfold qk;refine bd ?_;simp only[pE,afB,<-afZ,<-acZ]at hb ⊢;have hg:=hx.good;have hvs:=hx.vals;have p1:=(ef x.src hx.src.lo hx.src.hi).nil af0;have p2:=(ef x.tgt hx.tgt.lo hx.tgt.hi).own (br x.src.toNat) af0;have p3:=(iw x.root).own (br x.src.toNat++br x.tgt.toNat) (by simp only[afB];omega);have p4:=yA l cl hv (br x.src.toNat++br x.tgt.toNat++x.root.1) (by simp only[afB];omega);refine aA hg ?_;refine dsg [] p1 ?_;refine dsg [1] p2 ?_;refine dse [2] p3 ?_;refine aA hvs ?_;refine dsg [3] p4 ?_;exact abF [] [4]
def ze(l1 l2:List Int):Int:=if cM l1 1024=0 then cM l2 1024 else cM l1 1024
def OU(x:Slg)(l1 l2:List Int):List UInt8:=pE x.fst l1++pE x.snd l2
theorem VE(x:Slg)(l1 l2:List Int)(c1 c2:Bool)(h1:uM x.fst l1 c1)(h2:uM x.snd l2 c2):
 PC Tryz.prog 196 [.agg (dU x)] (.tup [.sl 1 false (bts (if ze l1 l2=0 then OU x l1 l2 else [])),.int .i64 (ze l1 l2)]):=by
 refine PC.fact 6 ru af1 ⟨(ij x).2 ⟨h1.pu,h2.pu⟩,trivial⟩ ⟨iP _,trivial,trivial⟩ ?_;unfold lu;refine bd ?_;have hg:x.good=true:=by rw[Slg.good,h1.good,h2.good];rfl
 have hv1:=h1.vals;have hv2:=h2.vals;have m1:=h1.map;have m2:=h2.map;have k1:=gV l1 c1 1024 h1.len;have k2:=gV l2 c2 1024 h2.len;unfold ze;by_cases e1:cM l1 1024=0
 ·simp only[e1,aco]
  rw[e1]at k1;by_cases e2:cM l2 1024=0
  ·simp only[e2,aco];rw[e2]at k2;have q1:=rP h1 e1;have q2:=rP h2 e2;have p1:=NB x.fst l1 c1 h1 e1;have p2:=NC x.snd l2 c2 h2 e2 (pE x.fst l1) af0;refine eS hg hv1 hv2 ?_;refine ap k1 ?_;refine d6 ?_;refine eS hg hv1 hv2 ?_;refine ap k2 ?_;refine bY ?_;refine Bv [] (p1) af1 (by(try simp only[go_sem,m1]);try exact evd) (qP.mk' af1 af1 (by(try simp only[go_sem,m1]);try exact evd)) ?_;refine evg ?_;refine gon ?_;refine Bv [1] (p2) af1 (by(try simp only[go_sem,m2]);try exact evd) (qP.mk' af1 af1 (by(try simp only[go_sem,m2]);try exact evd)) ?_;refine evg ?_;refine gon ?_;exact aj
  ·have e2':(cM l2 1024 != 0)=true:=by simpa using e2
   simp only[e2,acq];refine eS hg hv1 hv2 ?_;refine ap k1 ?_;refine d6 ?_;refine eS hg hv1 hv2 ?_;refine abl k2 ?_;refine aq ?_ (by(try simp only[go_sem,e2']);try exact evd);refine gon ?_;refine⟨_,rfl,.inr ⟨.tup [.sl 0 true [],.int .i64 (cM l2 1024)],evd,⟨trivial,trivial,trivial⟩,Wk.tup ⟨Wk.empty _ _ _,Wk.refl _,trivial⟩⟩⟩
 ·have e1':(cM l1 1024 != 0)=true:=by simpa using e1
  simp only[e1,acq];refine eS hg hv1 hv2 ?_;refine abl k1 ?_;refine aq ?_ (by(try simp only[go_sem,e1']);try exact evd);refine gon ?_;refine⟨_,rfl,.inr ⟨.tup [.sl 0 true [],.int .i64 (cM l1 1024)],evd,⟨trivial,trivial,trivial⟩,Wk.tup ⟨Wk.empty _ _ _,Wk.refl _,trivial⟩⟩⟩
theorem Vp(x:Slg)(l1 l2:List Int)(c1 c2:Bool)(h1:uM x.fst l1 c1)(h2:uM x.snd l2 c2):
 PC Tryz.prog 160 [.agg (dU x)] (.tup [.sl 1 false (bts (if ze l1 l2=0 then OU x l1 l2 else [])),.int .i64 (ze l1 l2)]):=by
 refine PC.fact 8 pd af1 ⟨(ij x).2 ⟨h1.pu,h2.pu⟩,trivial⟩ ⟨iP _,trivial,trivial⟩ ?_;unfold jz;refine bd ?_;have hg:x.good=true:=by rw[Slg.good,h1.good,h2.good];rfl
 have g1:=h1.good;have g2:=h2.good;have hv1:=h1.vals;have hv2:=h2.vals;have k1:=jV l1 c1 1024 h1.len;have k2:=jV l2 c2 1024 h2.len;unfold ze;by_cases e1:cM l1 1024=0
 ·simp only[e1,aco]
  rw[e1]at k1;have q1:=rP h1 e1;simp only[pE,afB]at q1;have p1:=(eI x.fst.src h1.src.lo h1.src.hi).nil af0;have p2:=(eI x.fst.tgt h1.tgt.lo h1.tgt.hi).own (br x.fst.src.toNat) af0;have p3:=(jj x.fst.root).own (br x.fst.src.toNat++br x.fst.tgt.toNat) (by simp only[afB];omega);have p4:=yw l1 c1 e1 (br x.fst.src.toNat++br x.fst.tgt.toNat++x.fst.root.1) (by simp only[afB];omega);refine ec hg g1 g2 hv1 hv2 ?_;refine jU 3 (lC ?_);refine kT ?_;refine ec hg g1 g2 hv1 hv2 ?_;refine ap k1 ?_;refine d6 ?_;refine ec hg g1 g2 hv1 hv2 ?_;refine dsg [] p1 ?_;refine dsg [2] p2 ?_;refine dse [3] p3 ?_;refine aA hv1 ?_;refine ocg [4] p4 ?_;refine lC ?_;refine kT ?_;refine ec hg g1 g2 hv1 hv2 ?_;by_cases e2:cM l2 1024=0
  ·rw[e2]at k2;simp only[e2,aco];have q2:=rP h2 e2;simp only[pE,afB]at q2;have s1:=(eI x.snd.src h2.src.lo h2.src.hi).own (br x.fst.src.toNat++br x.fst.tgt.toNat++x.fst.root.1++pm l1) (by simp only[afB];omega);have s2:=(eI x.snd.tgt h2.tgt.lo h2.tgt.hi).own (br x.fst.src.toNat++br x.fst.tgt.toNat++x.fst.root.1++pm l1++br x.snd.src.toNat) (by simp only[afB];omega);have s3:=(jj x.snd.root).own (br x.fst.src.toNat++br x.fst.tgt.toNat++x.fst.root.1++pm l1++br x.snd.src.toNat++br x.snd.tgt.toNat) (by simp only[afB];omega);have s4:=yw l2 c2 e2 (br x.fst.src.toNat++br x.fst.tgt.toNat++x.fst.root.1++pm l1++br x.snd.src.toNat++br x.snd.tgt.toNat++x.snd.root.1) (by simp only[afB];omega);refine ap k2 ?_;refine d6 ?_;refine ec hg g1 g2 hv1 hv2 ?_;refine dsg [5] s1 ?_;refine dsg [7] s2 ?_;refine dse [8] s3 ?_;refine aA hv2 ?_;refine ocg [9] s4 ?_;refine lC ?_;refine bY ?_;refine⟨_,(by first|rfl|exact evd),.inl ?_⟩;refine evg ?_;simp only[OU,pE,afZ]
  ·have e2':(cM l2 1024 != 0)=true:=by simpa using e2
   rw[afx e2];refine abl k2 ?_;refine aq ?_ (by(try simp only[go_sem,e2']);try exact evd);refine gon ?_;refine⟨_,rfl,.inr ⟨.tup [.sl 0 true [],.int .i64 (cM l2 1024)],evd,⟨trivial,trivial,trivial⟩,Wk.tup ⟨Wk.empty _ _ _,Wk.refl _,trivial⟩⟩⟩
 ·have e1':(cM l1 1024 != 0)=true:=by simpa using e1
  simp only[e1,acq];refine ec hg g1 g2 hv1 hv2 ?_;refine jU 3 (lC ?_);refine kT ?_;refine ec hg g1 g2 hv1 hv2 ?_;refine abl k1 ?_;refine aq ?_ (by(try simp only[go_sem,e1']);try exact evd);refine gon ?_;refine⟨_,rfl,.inr ⟨.tup [.sl 0 true [],.int .i64 (cM l1 1024)],evd,⟨trivial,trivial,trivial⟩,Wk.tup ⟨Wk.empty _ _ _,Wk.refl _,trivial⟩⟩⟩
def aaf(x:Vdt):List UInt8:=br x.tag.toNat++br x.kind.toNat++x.latest.1
def rx(x:Vdt):Prop:=x.kind<1\/4<x.kind
instance (x:Vdt):Decidable (rx x):=inferInstanceAs (Decidable (_\/_))
theorem Vr(x:Vdt)(h1:U64 x.tag):
 PC Tryz.prog 162 [.agg (dZ x)] (.tup [.sl 1 false (bts (if rx x then []else aaf x)),.int .i64 (if rx x then 3 else 0)]):=by
 refine PC.fact 4 pJ af1 ⟨ma x,trivial⟩ ⟨iP _,trivial,trivial⟩ ?_;unfold jZ;refine bd ?_;by_cases hv:rx x
 ·rw[afA hv,afA hv]
  unfold rx at hv;by_cases ha:x.kind<1
  ·have ha':decide (x.kind<1)=true:=by simpa using ha
   refine aW ha' ?_;refine⟨_,rfl,.inr ⟨.tup [.sl 0 true [],.int .i64 3],evd,⟨trivial,trivial,trivial⟩,Wk.tup ⟨Wk.empty _ _ _,Wk.refl _,trivial⟩⟩⟩
  ·have ha':decide (x.kind<1)=false:=by simpa using ha
   have hb':decide (4<x.kind)=true:=by rw[afJ];omega
   refine dV ha' hb' ?_;refine⟨_,rfl,.inr ⟨.tup [.sl 0 true [],.int .i64 3],evd,⟨trivial,trivial,trivial⟩,Wk.tup ⟨Wk.empty _ _ _,Wk.refl _,trivial⟩⟩⟩
 ·rw[afx hv,afx hv];unfold rx at hv;have ha':decide (x.kind<1)=false:=by rw[afQ];omega
  have hb':decide (4<x.kind)=false:=by rw[afQ];omega
  have hw:IntKind.u64.wrap x.kind=x.kind:=aC af0 af0;have hr:=x.latest.2;have q1:=h1.len;have q2:=d8 (n:=x.kind.toNat) af0;have p1:=(eI x.tag h1.lo h1.hi).nil af0;have p2:=(eI x.kind af0 af0).own (br x.tag.toNat) af0;have p3:=(jj x.latest).own (br x.tag.toNat++br x.kind.toNat) (by rw[afB];omega);refine iJ ha' hb' ?_;refine aA hw ?_;refine dse [] p1 ?_;refine aA hw ?_;refine dsg [1] p2 ?_;refine dsg [2] p3 ?_;exact aj
theorem VG(x:Vdt)(h1:U64 x.tag):
 PC Tryz.prog 198 [.agg (dZ x)] (.tup [.sl 1 false (bts (if rx x then []else aaf x)),.int .i64 (if rx x then 3 else 0)]):=by
 refine PC.fact 4 rX af1 ⟨ma x,trivial⟩ ⟨iP _,trivial,trivial⟩ ?_;unfold mi;refine bd ?_;by_cases hv:rx x
 ·rw[afA hv,afA hv]
  unfold rx at hv;by_cases ha:x.kind<1
  ·have ha':decide (x.kind<1)=true:=by simpa using ha
   refine aW ha' ?_;refine⟨_,rfl,.inr ⟨.tup [.sl 0 true [],.int .i64 3],evd,⟨trivial,trivial,trivial⟩,Wk.tup ⟨Wk.empty _ _ _,Wk.refl _,trivial⟩⟩⟩
  ·have ha':decide (x.kind<1)=false:=by simpa using ha
   have hb':decide (4<x.kind)=true:=by rw[afJ];omega
   refine dV ha' hb' ?_;refine⟨_,rfl,.inr ⟨.tup [.sl 0 true [],.int .i64 3],evd,⟨trivial,trivial,trivial⟩,Wk.tup ⟨Wk.empty _ _ _,Wk.refl _,trivial⟩⟩⟩
 ·rw[afx hv,afx hv];unfold rx at hv;have ha':decide (x.kind<1)=false:=by rw[afQ];omega
  have hb':decide (4<x.kind)=false:=by rw[afQ];omega
  have hw:IntKind.u64.wrap x.kind=x.kind:=aC af0 af0;have hr:=x.latest.2;have q1:=h1.len;have q2:=d8 (n:=x.kind.toNat) af0;have p1:=(ef x.tag h1.lo h1.hi).nil af0;have p2:=(ef x.kind af0 af0).own (br x.tag.toNat) af0;have p3:=(iw x.latest).own (br x.tag.toNat++br x.kind.toNat) (by rw[afB];omega);refine iJ ha' hb' ?_;refine aA hw ?_;refine dse [] p1 ?_;refine aA hw ?_;refine dsg [1] p2 ?_;refine dsg [2] p3 ?_;exact aj
def Es(x:Blk):List UInt8:=br x.slot.toNat++x.root.1++x.parent.1++x.payload.1++(cQ x.diff).1++(cQ x.pdiff).1++eM x.just++eM x.fin++eM x.pul.j++eM x.pul.f++oC x.timely
structure I1(x:Blk):Prop where
 slot:U64 x.slot
 just:U64 x.just.ep
 fin:U64 x.fin.ep
 j:U64 x.pul.j.ep
 f:U64 x.pul.f.ep
theorem Vo(x:Blk)(hx:I1 x):PC Tryz.prog 158 [.agg (au x)] (.sl 1 false (bts (Es x))):=by
 refine PC.fact 8 rp af1 ⟨gf x,trivial⟩ (iP _) ?_;unfold lq;refine bd ?_;have r1:=x.root.2;have r2:=x.parent.2;have r3:=x.payload.2;have r4:=(cQ x.diff).2;have r5:=(cQ x.pdiff).2;have q1:=hx.slot.len;have q2:=fe hx.just;have q3:=fe hx.fin;have q4:=fe hx.j;have q5:=fe hx.f;have q6:(oC x.timely).length<=1:=by cases x.timely<;>simp[oC]
 have p1:=(eI x.slot hx.slot.lo hx.slot.hi).nil af0;have p2:=(jj x.root).own (br x.slot.toNat) af0;have p3:=(jj x.parent).own _ (by simp only[afB];omega:(br x.slot.toNat++x.root.1).length+x.parent.1.length<=140737488355328);have p4:=(jj x.payload).own _ (by simp only[afB];omega:(br x.slot.toNat++x.root.1++x.parent.1).length+x.payload.1.length<=140737488355328);have p5:=(GF x.diff).own _ (by simp only[afB];omega:(br x.slot.toNat++x.root.1++x.parent.1++x.payload.1).length+(cQ x.diff).1.length<=140737488355328);have p6:=(GF x.pdiff).own _ (by simp only[afB];omega:(br x.slot.toNat++x.root.1++x.parent.1++x.payload.1++(cQ x.diff).1).length+(cQ x.pdiff).1.length<=140737488355328);have p7:=(tu x.just hx.just.lo hx.just.hi).own _ (by simp only[afB];omega:(br x.slot.toNat++x.root.1++x.parent.1++x.payload.1++(cQ x.diff).1++(cQ x.pdiff).1).length+(eM x.just).length<=140737488355328);have p8:=(tu x.fin hx.fin.lo hx.fin.hi).own _ (by simp only[afB];omega:(br x.slot.toNat++x.root.1++x.parent.1++x.payload.1++(cQ x.diff).1++(cQ x.pdiff).1++eM x.just).length+(eM x.fin).length<=140737488355328);have p9:=(tu x.pul.j hx.j.lo hx.j.hi).own _ (by simp only[afB];omega:(br x.slot.toNat++x.root.1++x.parent.1++x.payload.1++(cQ x.diff).1++(cQ x.pdiff).1++eM x.just++eM x.fin).length+(eM x.pul.j).length<=140737488355328);have p10:=(tu x.pul.f hx.f.lo hx.f.hi).own _ (by simp only[afB];omega:(br x.slot.toNat++x.root.1++x.parent.1++x.payload.1++(cQ x.diff).1++(cQ x.pdiff).1++eM x.just++eM x.fin++eM x.pul.j).length+(eM x.pul.f).length<=140737488355328);have p11:=(Rj x.timely).own _ (by simp only[afB];omega:(br x.slot.toNat++x.root.1++x.parent.1++x.payload.1++(cQ x.diff).1++(cQ x.pdiff).1++eM x.just++eM x.fin++eM x.pul.j++eM x.pul.f).length+(oC x.timely).length<=140737488355328);refine gon ?_;refine ocg [] p1 ?_;refine jU 4 (lC ?_);refine bD ?_;refine ocg [1] p2 ?_;refine lC ?_;refine bD ?_;refine ocg [3] p3 ?_;refine lC ?_;refine bD ?_;refine ocg [5] p4 ?_;refine lC ?_;refine bY ?_;refine dsg [7] p5 ?_;refine dsg [8] p6 ?_;refine jU 5 (lC ?_);refine bD ?_;refine ocg [9] p7 ?_;refine lC ?_;refine bD ?_;refine ocg [11] p8 ?_;refine lC ?_;refine bD ?_;refine ocg [13] p9 ?_;refine lC ?_;refine bD ?_;refine ocg [15] p10 ?_;refine lC ?_;refine bY ?_;refine ocg [17] p11 ?_;exact aj
theorem VD(x:Blk)(hx:I1 x):PC Tryz.prog 194 [.sl 0 true [],.agg (au x)] (.sl 1 false (bts (Es x))):=by
 refine PC.fact 5 HL af1 ⟨trivial,gf x,trivial⟩ (iP _) ?_;unfold vH;refine bd ?_;have r1:=x.root.2;have r2:=x.parent.2;have r3:=x.payload.2;have r4:=(cQ x.diff).2;have r5:=(cQ x.pdiff).2;have q1:=hx.slot.len;have q2:=fe hx.just;have q3:=fe hx.fin;have q4:=fe hx.j;have q5:=fe hx.f;have q6:(oC x.timely).length<=1:=by cases x.timely<;>simp[oC]
 have p1:=(ef x.slot hx.slot.lo hx.slot.hi).nil af0;have p2:=(iw x.root).own (br x.slot.toNat) af0;have p3:=(iw x.parent).own _ (by simp only[afB];omega:(br x.slot.toNat++x.root.1).length+x.parent.1.length<=140737488355328);have p4:=(iw x.payload).own _ (by simp only[afB];omega:(br x.slot.toNat++x.root.1++x.parent.1).length+x.payload.1.length<=140737488355328);have p5:=(GQ x.diff).own _ (by simp only[afB];omega:(br x.slot.toNat++x.root.1++x.parent.1++x.payload.1).length+(cQ x.diff).1.length<=140737488355328);have p6:=(GQ x.pdiff).own _ (by simp only[afB];omega:(br x.slot.toNat++x.root.1++x.parent.1++x.payload.1++(cQ x.diff).1).length+(cQ x.pdiff).1.length<=140737488355328);have p7:=(xm x.just hx.just.lo hx.just.hi).own _ (by simp only[afB];omega:(br x.slot.toNat++x.root.1++x.parent.1++x.payload.1++(cQ x.diff).1++(cQ x.pdiff).1).length+(eM x.just).length<=140737488355328);have p8:=(xm x.fin hx.fin.lo hx.fin.hi).own _ (by simp only[afB];omega:(br x.slot.toNat++x.root.1++x.parent.1++x.payload.1++(cQ x.diff).1++(cQ x.pdiff).1++eM x.just).length+(eM x.fin).length<=140737488355328);have p9:=(xm x.pul.j hx.j.lo hx.j.hi).own _ (by simp only[afB];omega:(br x.slot.toNat++x.root.1++x.parent.1++x.payload.1++(cQ x.diff).1++(cQ x.pdiff).1++eM x.just++eM x.fin).length+(eM x.pul.j).length<=140737488355328);have p10:=(xm x.pul.f hx.f.lo hx.f.hi).own _ (by simp only[afB];omega:(br x.slot.toNat++x.root.1++x.parent.1++x.payload.1++(cQ x.diff).1++(cQ x.pdiff).1++eM x.just++eM x.fin++eM x.pul.j).length+(eM x.pul.f).length<=140737488355328);have p11:=(RN x.timely).own _ (by simp only[afB];omega:(br x.slot.toNat++x.root.1++x.parent.1++x.payload.1++(cQ x.diff).1++(cQ x.pdiff).1++eM x.just++eM x.fin++eM x.pul.j++eM x.pul.f).length+(oC x.timely).length<=140737488355328);refine gon ?_;refine dsg [] p1 ?_;refine dsg [1] p2 ?_;refine dsg [2] p3 ?_;refine dsg [3] p4 ?_;refine dsg [4] p5 ?_;refine dsg [5] p6 ?_;refine dsg [6] p7 ?_;refine dsg [7] p8 ?_;refine dsg [8] p9 ?_;refine dsg [9] p10 ?_;refine dsg [10] p11 ?_;exact aj
structure G3(x:Tab)(l:List Int)(cl:Bool):Prop where
 ep:U64 x.cp.ep
 bals:x.bals=.sl 1 cl (ah .u64 l)
 all:∀n∈l,U64 n
 len:l.length<=140737488355328
def Dr(x:Tab)(l:List Int):List UInt8:=eM x.cp++br l.length++yh l
theorem Aj:∀ {l:List Int},(∀n∈l,U64 n)->(yh l).length<=10*l.length
 | [],_=>by simp[yh]
 | n :: l, h => by
   have h1:=Aj (l:=l) (fun m hm=>h m (by simp[hm]));have h2:=(h n af1).len;simp only[yh,afB,afG];omega
theorem F6{l:List Int}{i:Nat}(h:i<l.length):yh (l.drop i)=br (l.getD i 0).toNat++yh (l.drop (i+1)):=by
 rw[acG h,yh,afy,afz h];rfl
theorem G3.good{x:Tab}{l:List Int}{cl:Bool}(h:G3 x l cl):x.good=true:=by rw[Tab.good,h.bals];rfl
theorem G3.pu{x:Tab}{l:List Int}{cl:Bool}(h:G3 x l cl):x.Pure:=by rw[Tab.Pure,h.bals];exact aY _ _
theorem G3.getD{x:Tab}{l:List Int}{cl:Bool}(h:G3 x l cl){i:Nat}(hi:i<l.length):U64 (l.getD i 0):=by
 rw[afy,afz hi];exact h.all _ (afY hi)
theorem Vq(x:Tab)(l:List Int)(cl:Bool)(hx:G3 x l cl):
 PC Tryz.prog 161 [.agg (bE x)] (.tup [.sl 1 false (bts (if 1024<l.length then []else Dr x l)),.int .i64 (if 1024<l.length then 3 else 0)]):=by
 refine PC.fact 23 rr af1 ⟨(gJ x).2 hx.pu,trivial⟩ ⟨iP _,trivial,trivial⟩ ?_;unfold ls;refine bd ?_;have hg:=hx.good;have hv:=hx.bals;by_cases h0:1024<l.length
 ·have h0':decide ((1024:Int)<(l.length:Int))=true:=by rw[afJ];omega
  rw[afA h0,afA h0];refine bm hg hv ?_;refine aq ?_ (by(try simp only[go_sem,h0']);try exact evd);refine gon ?_;refine⟨_,rfl,.inr ⟨.tup [.sl 0 true [],.int .i64 3],evd,⟨trivial,trivial,trivial⟩,Wk.tup ⟨Wk.empty _ _ _,Wk.refl _,trivial⟩⟩⟩
 have h0':decide ((1024:Int)<(l.length:Int))=false:=by rw[afQ];omega
 rw[afx h0,afx h0];have q1:=fe hx.ep;have q2:=d8 (n:=l.length) af0;have q3:=Aj hx.all;have hw:IntKind.u64.wrap (l.length:Int)=l.length:=aC af0 af0
 have hm:∀ρ:Nat->Nat,x.map (ren ρ)=x:=by
  intro ρ;obtain⟨c,v⟩:=x;simp only at hv;subst hv;simp only[Tab.map,ren,fp]
 have hmf:∀ (σ:St) (zs:List Nat),x.map (fz σ zs)=x:=by
  intro σ zs;obtain⟨c,v⟩:=x;simp only at hv;subst hv;simp only[Tab.map,fz,gN]
 have p1:=(tu x.cp hx.ep.lo hx.ep.hi).nil af0;have p2:=(eI (l.length:Int) af0 af0).own (eM x.cp) (by rw[afH];omega);rw[afH]at p2;refine bm hg hv ?_;refine aI ?_ (by(try simp only[go_sem,h0']);try exact evd);refine eS hg hv hw ?_;refine dse [] p1 ?_;refine eS hg hv hw ?_;refine dse [1] p2 ?_;refine bm hg hv ?_
 refine eR (fun x':List UInt8×Nat=>⟨23,[.agg (bE x),.ptr 0 0,.sl 0 true [],.int .i64 0,.hs 1 1 0 x'.1.length,.dead,.dead,.dead,.dead,.dead,.dead,.dead,.dead,.dead,.dead,.dead,.dead,.dead,.dead,.dead,.sl 1 cl (ah .u64 l),.int .i64 l.length,.int .i64 x'.2],[]⟩)
  (fun x'=>[.var (bE x),.vec 1 (bts x'.1)]) (fun x'=>l.length-x'.2) (fun x'=>x'.2<=l.length/\x'.1++yh (l.drop x'.2)=Dr x l) (eM x.cp++br l.length,0) ⟨af1,by simp[Dr]⟩ ?_ ?_
 ·simp only[afB,eM,<-afZ];refine GC.mk' [] [0,2] af1 rfl af1 af1 (by(try simp only[go_sem,hm,hmf]);try exact evd) (by(try simp only[go_sem,hm,hmf]);try exact evd)
 rintro⟨acc,i⟩ ⟨h1,h2⟩;dsimp only at h1 h2 ⊢;have hal:=acM List.length h2;simp only[Dr,afB]at hal;refine bm hg hv ?_;refine bM evd (fun h=>?_) (fun h=>?_)
 ·have hi:i<l.length:=by simpa using h
  have hgd:=fC (k:=.u64) hi;have hu:=hx.getD hi;rw[F6 hi]at h2 hal;rw[afB]at hal;have ha:=(eI (l.getD i 0) hu.lo hu.hi).own acc af0;have hwi:=ae hi af0;refine eS hgd hg hv ?_;refine oce [1] ha ?_;refine aA hwi ?_;refine⟨(acc++br (l.getD i 0).toNat,i+1),⟨hi,by simpa using h2⟩,by dsimp only;omega,?_⟩;simp only[afB];refine GC.mk' [] [0,2] af1 rfl af1 af1 (by(try simp only[go_sem,hm,hmf]);try exact evd) (by(try simp only[go_sem,hm,hmf]);try exact evd)
 ·have hi:i=l.length:=by simp at h;omega
  subst hi;rw[adR,yh,acH]at h2;rw[<-h2];refine gon ?_;exact aj
theorem VF(x:Tab)(l:List Int)(cl:Bool)(hx:G3 x l cl):
 PC Tryz.prog 197 [.agg (bE x)] (.tup [.sl 1 false (bts (if 1024<l.length then []else Dr x l)),.int .i64 (if 1024<l.length then 3 else 0)]):=by
 refine PC.fact 6 uU af1 ⟨(gJ x).2 hx.pu,trivial⟩ ⟨iP _,trivial,trivial⟩ ?_;unfold nN;refine bd ?_;have hg:=hx.good;have hv:=hx.bals;by_cases h0:1024<l.length
 ·have h0':decide ((1024:Int)<(l.length:Int))=true:=by rw[afJ];omega
  rw[afA h0,afA h0];refine bm hg hv ?_;refine aq ?_ (by(try simp only[go_sem,h0']);try exact evd);refine gon ?_;refine⟨_,rfl,.inr ⟨.tup [.sl 0 true [],.int .i64 3],evd,⟨trivial,trivial,trivial⟩,Wk.tup ⟨Wk.empty _ _ _,Wk.refl _,trivial⟩⟩⟩
 have h0':decide ((1024:Int)<(l.length:Int))=false:=by rw[afQ];omega
 rw[afx h0,afx h0];have q1:=fe hx.ep;have q2:=d8 (n:=l.length) af0;have q3:=Aj hx.all;have hw:IntKind.u64.wrap (l.length:Int)=l.length:=aC af0 af0
 have hm:∀ρ:Nat->Nat,x.map (ren ρ)=x:=by
  intro ρ;obtain⟨c,v⟩:=x;simp only at hv;subst hv;simp only[Tab.map,ren,fp]
 have hmf:∀ (σ:St) (zs:List Nat),x.map (fz σ zs)=x:=by
  intro σ zs;obtain⟨c,v⟩:=x;simp only at hv;subst hv;simp only[Tab.map,fz,gN]
 have hr:=x.cp.rt.2;have q4:=hx.ep.len;have p1:=(ef x.cp.ep hx.ep.lo hx.ep.hi).nil af0;have p2:=(iw x.cp.rt).own (br x.cp.ep.toNat) af0;have p3:=(ef (l.length:Int) af0 af0).own (br x.cp.ep.toNat++x.cp.rt.1) (by rw[afH,afB];omega);rw[afH]at p3;refine bm hg hv ?_;refine aI ?_ (by(try simp only[go_sem,h0']);try exact evd);refine eS hg hv hw ?_;refine dse [] p1 ?_;refine eS hg hv hw ?_;refine dse [1] p2 ?_;refine eS hg hv hw ?_;refine dse [2] p3 ?_;refine bm hg hv ?_
 refine eR (fun x':List UInt8×Nat=>⟨6,[.agg (bE x),.ptr 0 0,.sl 0 true [],.int .i64 0,.hs 1 1 0 x'.1.length,.int .i64 x'.2],[]⟩)
  (fun x'=>[.var (bE x),.vec 1 (bts x'.1)]) (fun x'=>l.length-x'.2) (fun x'=>x'.2<=l.length/\x'.1++yh (l.drop x'.2)=Dr x l) (eM x.cp++br l.length,0) ⟨af1,by simp[Dr]⟩ ?_ ?_
 ·simp only[afB,eM,<-afZ];refine GC.mk' [] [0,3] af1 rfl af1 af1 (by(try simp only[go_sem,hm,hmf]);try exact evd) (by(try simp only[go_sem,hm,hmf]);try exact evd)
 rintro⟨acc,i⟩ ⟨h1,h2⟩;dsimp only at h1 h2 ⊢;have hal:=acM List.length h2;simp only[Dr,afB]at hal;refine bm hg hv ?_;refine bM evd (fun h=>?_) (fun h=>?_)
 ·have hi:i<l.length:=by simpa using h
  have hgd:=fC (k:=.u64) hi;have hu:=hx.getD hi;rw[F6 hi]at h2 hal;rw[afB]at hal;have ha:=(ef (l.getD i 0) hu.lo hu.hi).own acc af0;have hwi:=ae hi af0;refine eS hgd hg hv ?_;refine oce [1] ha ?_;refine aA hwi ?_;refine⟨(acc++br (l.getD i 0).toNat,i+1),⟨hi,by simpa using h2⟩,by dsimp only;omega,?_⟩;simp only[afB];refine GC.mk' [] [0,2] af1 rfl af1 af1 (by(try simp only[go_sem,hm,hmf]);try exact evd) (by(try simp only[go_sem,hm,hmf]);try exact evd)
 ·have hi:i=l.length:=by simp at h;omega
  subst hi;rw[adR,yh,acH]at h2;rw[<-h2];refine gon ?_;exact aj
end Go.Proofs.YtmpddimhleianaaGreat
