/- Joined. -/
import Derived.Test.YtmpddimhleianaaGreatW7
import Derived.Test.YtmpddimhleianaaGreatW4
import Derived.Test.YtmpddimhleianaaGreatW3
set_option linter.unusedVariables false
set_option linter.unusedSimpArgs false
set_option maxRecDepth 8000
set_option maxHeartbeats 4000000
namespace Go.Proofs.YtmpddimhleianaaGreat
open Go Go.FH
def nV(l:List Int)(n:Int)(i:Nat):Int:=
 if i<l.length then (if l.getD i 0<0\/n<=l.getD i 0 then 3 else if 0<i/\l.getD i 0<=l.getD (i-1) 0 then 8 else nV l n (i+1))else 0
termination_by l.length-i
def cE(l:List Int)(n:Int):Int:=if l=[]then 2 else nV l n 0
theorem lY{l:List Int}{n:Int}{i:Nat}(h:i<l.length):nV l n i=if l.getD i 0<0\/n<=l.getD i 0 then 3 else if 0<i/\l.getD i 0<=l.getD (i-1) 0 then 8 else nV l n (i+1):=by
 rw[nV,al7 h]
theorem oQ{l:List Int}{n:Int}{i:Nat}(h:¬i<l.length):nV l n i=0:=by rw[nV,al5 h]
def fY(l:List Int)(i:Nat):Int:=if i=0 then l.getD 0 0 else l.getD i 0-(l.getD (i-1) 0+1)
def kM(l:List Int)(i:Nat):List UInt8:=if i<l.length then br (fY l i).toNat++kM l (i+1)else []
termination_by l.length-i
theorem pB{l:List Int}{i:Nat}(h:i<l.length):kM l i=br (fY l i).toNat++kM l (i+1):=by rw[kM,al7 h]
theorem xF{l:List Int}{i:Nat}(h:¬i<l.length):kM l i=[]:=by rw[kM,al5 h]
theorem DW(l:List Int)(i:Nat)(hi:i<=l.length):l.length-i<=(kM l i).length:=by
 by_cases h:i<l.length
 ·rw[pB h,akC];have:=DW l (i+1) h;have:=QM (fY l i).toNat
  omega
 ·omega
termination_by l.length-i
def sW(l:List Int):List UInt8:=br l.length++kM l 0
theorem Tq{l:List Int}{n:Int}:∀ (k i:Nat),l.length-i=k->nV l n i=0->∀j,i<=j->j<l.length->0<=l.getD j 0/\l.getD j 0<n/\(0<j->l.getD (j-1) 0<l.getD j 0)
 |0,i,hk,h,j,h1,h2=>by omega
 | k + 1, i, hk, h, j, h1, h2 => by
   rw[lY WL]at h;split at h
   ·cases h
   ·rename_i ha
    split at h
    ·cases h
    ·rename_i hb
     by_cases hj:j=i
     ·subst hj;refine⟨WL,WL,fun h0=>?_⟩;have:=not_and.1 hb h0;omega
     ·exact Tq k (i+1) WL h j WL h2
theorem iS{l:List Int}{n:Int}(h:cE l n=0):l≠[]/\∀j,j<l.length->0<=l.getD j 0/\l.getD j 0<n/\(0<j->l.getD (j-1) 0<l.getD j 0):=by
 unfold cE at h;split at h
 ·cases h
 ·rename_i h0;exact⟨h0,fun j hj=>Tq _ 0 rfl h j WL hj⟩
theorem xU{l:List Int}{n:Int}(h:cE l n=0){j:Nat}(hj:j<l.length):0<=fY l j/\fY l j<n:=by
 have h1:=(iS h).2 j hj;unfold fY;split
 ·subst_vars;exact⟨h1.1,h1.2.1⟩
 ·have h2:=h1.2.2 WL;have h3:=(iS h).2 (j-1) WL;omega
def wx:List Int->List UInt8
 | []=>[]
 |x::l=>br x.toNat++wx l
theorem fF{k:IntKind}{ns:List Int}{i:Nat}(h:i<ns.length):(aH k ns).getD i []=[.int k (ns.getD i 0)]:=by
 rw[Yt h,alt,al6 h];rfl
theorem tq(l:List Int)(cl:Bool)(n:Int)(hb:l.length<=140737488355328):PC Tryz.prog 234 [.sl 1 cl (aH .i64 l),.int .i64 n] (.int .i64 (cE l n)):=by
 refine PC.fact 13 sT WM ⟨bE .i64 l,trivial,trivial⟩ trivial ?_;unfold kx cE;refine bd ?_;by_cases h0:l=[]
 ·subst h0;rw[al7 rfl];refine aX ?_;exact ai
 rw[al5 h0];have hl:0<l.length:=ajX.2 h0;have hl':((l.length:Int)==0)=false:=by simp;omega
 refine ah hl' ?_;refine aB ?_ (by(try simp only[go_sem,hl']);try exact evd);refine gon ?_;refine gM (fun i:Nat=>⟨13,[.sl 1 cl (aH .i64 l),.int .i64 n,.dead,.dead,.int .i64 0,.dead,.dead,.dead,.dead,.dead,.sl 1 cl (aH .i64 l),.int .i64 l.length,.int .i64 i],[]⟩) (fun _=>[]) (fun i=>l.length-i) (fun i=>i<=l.length/\nV l n i=nV l n 0) [5,6,7,8,9] 0 ⟨WL,rfl⟩ evd rfl ?_;rintro i ⟨hi,hv⟩;try dsimp only
 refine gon ?_;refine aY evd (fun h=>?_) (fun h=>?_)
 ·have h1:i<l.length:=by simp at h;omega
  have hg:=fF (k:=.i64) h1;have hi':((i:Int)+1)=((i+1:Nat):Int):=WL
  have hw:=af h1 WL;rw[lY h1]at hv;generalize hx:l.getD i 0=x at *;by_cases hA:x<0\/n<=x
  ·rw[al7 hA]at hv
   rw[<-hv];by_cases hx0:x<0
   ·have hx0':decide (x<0)=true:=by simpa using hx0
    refine cH hg hx0' ?_;exact ai
   ·have hx0':decide (x<0)=false:=by simpa using hx0
    have hx1:decide (n<=x)=true:=by rw[amg];omega
    refine fI hg hx0' hx1 ?_;exact ai
  ·rw [al5 hA] at hv
   have hx0':decide (x<0)=false:=by rw[ami];omega
   have hx1:decide (n<=x)=false:=by rw[ami];omega
   refine zh hg hx0' hx1 ?_;by_cases hp:0<i
   ·have hp':decide ((0:Int)<(i:Int))=true:=by rw[amg];omega
    have hw1:IntKind.i64.wrap ((i:Int)-1)=((i-1:Nat):Int):=by rw[aL WL WL];omega
    have hg2:=fF (k:=.i64) (show i-1<l.length by omega);by_cases hB:x<=l.getD (i-1) 0
    ·have hB':decide (x<=l.getD (i-1) 0)=true:=by simpa using hB
     rw[al7 ⟨hp,hB⟩]at hv;rw[<-hv];refine eU hg hp' hw1 hg2 hB' ?_;refine agF ?_;exact ai
    ·have hB':decide (x<=l.getD (i-1) 0)=false:=by simpa using hB
     rw[al5 (fun hh=>hB hh.2)]at hv;refine eU hg hp' hw1 hg2 hB' ?_;refine aB ?_;refine ah hw ?_;exact⟨i+1,⟨h1,hv⟩,WL,rfl⟩
   ·have hp':decide ((0:Int)<(i:Int))=false:=by rw[ami];omega
    rw[al5 (fun hh=>hp hh.1)]at hv;refine bJ hp' ?_;refine ah hw ?_;exact⟨i+1,⟨h1,hv⟩,WL,rfl⟩
 ·have h1:i=l.length:=by simp at h;omega
  subst h1;rw[<-hv,oQ WL];refine gon ?_;exact ai
theorem gl(l:List Int)(cl:Bool)(n:Int)(hb:l.length<=140737488355328):PC Tryz.prog 132 [.sl 1 cl (aH .i64 l),.int .i64 n] (.int .i64 (cE l n)):=by
 refine PC.fact 6 ye WM ⟨bE .i64 l,trivial,trivial⟩ trivial ?_;unfold nM cE;refine bd ?_;by_cases h0:l=[]
 ·subst h0;rw[al7 rfl];refine aX ?_;exact ai
 rw[al5 h0];have hl:0<l.length:=ajX.2 h0;have hl':((l.length:Int)==0)=false:=by simp;omega
 refine ah hl' ?_;refine aB ?_ (by(try simp only[go_sem,hl']);try exact evd);refine gon ?_;refine gM (fun i:Nat=>⟨6,[.sl 1 cl (aH .i64 l),.int .i64 n,.dead,.dead,.int .i64 0,.int .i64 i],[]⟩) (fun _=>[]) (fun i=>l.length-i) (fun i=>i<=l.length/\nV l n i=nV l n 0) [] 0 ⟨WL,rfl⟩ evd rfl ?_;rintro i ⟨hi,hv⟩;try dsimp only
 refine gon ?_;refine aY evd (fun h=>?_) (fun h=>?_)
 ·have h1:i<l.length:=by simp at h;omega
  have hg:=fF (k:=.i64) h1;have hi':((i:Int)+1)=((i+1:Nat):Int):=WL
  have hw:=af h1 WL;rw[lY h1]at hv;generalize hx:l.getD i 0=x at *;by_cases hA:x<0\/n<=x
  ·rw[al7 hA]at hv
   rw[<-hv];by_cases hx0:x<0
   ·have hx0':decide (x<0)=true:=by simpa using hx0
    refine cH hg hx0' ?_;exact ai
   ·have hx0':decide (x<0)=false:=by simpa using hx0
    have hx1:decide (n<=x)=true:=by rw[amg];omega
    refine fI hg hx0' hx1 ?_;exact ai
  ·rw [al5 hA] at hv
   have hx0':decide (x<0)=false:=by rw[ami];omega
   have hx1:decide (n<=x)=false:=by rw[ami];omega
   refine zh hg hx0' hx1 ?_;by_cases hp:0<i
   ·have hp':decide ((0:Int)<(i:Int))=true:=by rw[amg];omega
    have hw1:IntKind.i64.wrap ((i:Int)-1)=((i-1:Nat):Int):=by rw[aL WL WL];omega
    have hg2:=fF (k:=.i64) (show i-1<l.length by omega);by_cases hB:x<=l.getD (i-1) 0
    ·have hB':decide (x<=l.getD (i-1) 0)=true:=by simpa using hB
     rw[al7 ⟨hp,hB⟩]at hv;rw[<-hv];refine eU hg hp' hw1 hg2 hB' ?_;refine agF ?_;exact ai
    ·have hB':decide (x<=l.getD (i-1) 0)=false:=by simpa using hB
     rw[al5 (fun hh=>hB hh.2)]at hv;refine eU hg hp' hw1 hg2 hB' ?_;refine aB ?_;refine ah hw ?_;exact⟨i+1,⟨h1,hv⟩,WL,rfl⟩
   ·have hp':decide ((0:Int)<(i:Int))=false:=by rw[ami];omega
    rw[al5 (fun hh=>hp hh.1)]at hv;refine bJ hp' ?_;refine ah hw ?_;exact⟨i+1,⟨h1,hv⟩,WL,rfl⟩
 ·have h1:i=l.length:=by simp at h;omega
  subst h1;rw[<-hv,oQ WL];refine gon ?_;exact ai
def Jv(f:FuncId)(xs:List AV)(e:List UInt8):Prop:=∀bs:List UInt8,bs.length+e.length<=140737488355328->ay Tryz.prog f (.hs 1 0 0 bs.length::xs) [.vec 1 (bts bs)] (.hs 1 1 0 (bs.length+e.length)) [.gone,.vec 1 (bts (bs++e))]
theorem Zu(l:List Int)(cl:Bool)(hv:cE l 1024=0):Jv 247 [.sl 1 cl (aH .i64 l)] (sW l):=by
 intro bs hb;refine dS 15 ?_;have hl:(sW l).length=(br l.length).length+(kM l 0).length:=by rw[sW,akC]
 have hll:l.length<=(kM l 0).length:=DW l 0 WL;have hu:=(gL (l.length:Int) WL WL).own bs (by rw[amw];omega);rw[amw]at hu;have hw0:IntKind.u64.wrap (l.length:Int)=(l.length:Int):=aN WL WL;refine ah hw0 ?_;refine ocg [0] hu ?_
 refine eZ (fun x:List UInt8×Nat=>⟨15,[.hs 1 1 0 x.1.length,.sl 1 cl (aH .i64 l),.dead,.dead,.sl 0 true [],.dead,.dead,.dead,.dead,.dead,.dead,.dead,.sl 1 cl (aH .i64 l),.int .i64 l.length,.int .i64 x.2],[]⟩)
  (fun x=>[.gone,.vec 1 (bts x.1)]) (fun x=>l.length-x.2) (fun x=>x.2<=l.length/\x.1++kM l x.2=bs++sW l) (bs++br l.length,0) ⟨WM,by simp[sW]⟩ ?_ ?_
 ·simp only[akC];exact ais [] [0,1]
 rintro⟨acc,i⟩ ⟨h1,h2⟩;dsimp only at h1 h2 ⊢;have hal:acc.length+(kM l i).length=bs.length+(sW l).length:=by simpa using ajG List.length h2
 refine gon ?_;refine aY evd (fun h=>?_) (fun h=>?_)
 ·have hi:i<l.length:=by simpa using h
  have hg:=fF (k:=.i64) hi;have hd:=xU hv hi;have hi0:=(iS hv).2 i hi;rw[pB hi]at h2 hal;rw[akC]at hal;have ha:=(gL (fY l i) hd.1 WL).own acc WL;have hw:=af hi WL;have hwd:IntKind.u64.wrap (fY l i)=fY l i:=aN WL WL;by_cases hp:0<i
  ·have hp':decide ((0:Int)<(i:Int))=true:=by rw[amg];omega
   have hi1:=(iS hv).2 (i-1) WL;have hw1:IntKind.i64.wrap ((i:Int)-1)=((i-1:Nat):Int):=by rw[aL WL WL];omega
   have hg2:=fF (k:=.i64) (show i-1<l.length by omega);have hw2:IntKind.i64.wrap (l.getD (i-1) 0+1)=l.getD (i-1) 0+1:=aL WL WL;have hw3:IntKind.i64.wrap (l.getD i 0-(l.getD (i-1) 0+1))=fY l i:=by rw[fY,al5 WL,aL WL WL]
   refine aZ hg hp' ?_;refine ax ?_ (by(try simp only[go_sem,hp']);try exact evd);refine eU hw1 hg2 hw2 hw3 hwd ?_;refine oce [1] ha ?_;refine ah hw ?_;refine⟨(acc++br (fY l i).toNat,i+1),⟨hi,by simpa using h2⟩,by dsimp only;omega,?_⟩;simp only[akC];exact ais [] [0,2]
  ·have hp':decide ((0:Int)<(i:Int))=false:=by rw[ami];omega
   have h0:i=0:=WL
   subst h0;have e0:l.getD 0 0=fY l 0:=by rw[fY,al7 rfl]
   have hz:IntKind.i64.wrap ((0:Int)+1)=1:=WN
   rw[e0]at hg;refine aZ hg hp' ?_;refine aB ?_ (by(try simp only[go_sem,hp']);try exact evd);refine ah hwd ?_;refine oce [1] ha ?_;refine ah hz ?_;refine⟨(acc++br (fY l 0).toNat,0+1),⟨hi,by simpa using h2⟩,by dsimp only;omega,?_⟩;simp only[akC];exact ais [] [0,2]
 ·have hi:i=l.length:=by simp at h;omega
  subst hi;rw[xF WL,amo]at h2;rw[<-h2];have h3:=ajG List.length h2;rw[akC]at h3;rw[<-h3];refine gon ?_;exact ahY [] [0,1]
theorem EE(l:List Int)(cl:Bool)(hv:cE l 1024=0):Jv 283 [.sl 1 cl (aH .i64 l)] (sW l):=by
 intro bs hb;refine dS 6 ?_;have hl:(sW l).length=(br l.length).length+(kM l 0).length:=by rw[sW,akC]
 have hll:l.length<=(kM l 0).length:=DW l 0 WL;have hu:=(cV (l.length:Int) WL WL).own bs (by rw[amw];omega);rw[amw]at hu;have hw0:IntKind.u64.wrap (l.length:Int)=(l.length:Int):=aN WL WL;refine ah hw0 ?_;refine ocg [0] hu ?_
 refine eZ (fun x:List UInt8×Nat=>⟨6,[.hs 1 1 0 x.1.length,.sl 1 cl (aH .i64 l),.dead,.dead,.sl 0 true [],.int .i64 x.2],[]⟩)
  (fun x=>[.gone,.vec 1 (bts x.1)]) (fun x=>l.length-x.2) (fun x=>x.2<=l.length/\x.1++kM l x.2=bs++sW l) (bs++br l.length,0) ⟨WM,by simp[sW]⟩ ?_ ?_
 ·simp only[akC];exact ais [] [0,1]
 rintro⟨acc,i⟩ ⟨h1,h2⟩;dsimp only at h1 h2 ⊢;have hal:acc.length+(kM l i).length=bs.length+(sW l).length:=by simpa using ajG List.length h2
 refine gon ?_;refine aY evd (fun h=>?_) (fun h=>?_)
 ·have hi:i<l.length:=by simpa using h
  have hg:=fF (k:=.i64) hi;have hd:=xU hv hi;have hi0:=(iS hv).2 i hi;rw[pB hi]at h2 hal;rw[akC]at hal;have ha:=(cV (fY l i) hd.1 WL).own acc WL;have hw:=af hi WL;have hwd:IntKind.u64.wrap (fY l i)=fY l i:=aN WL WL;by_cases hp:0<i
  ·have hp':((i:Int)==0)=false:=by simp;omega
   have hi1:=(iS hv).2 (i-1) WL;have hw1:IntKind.i64.wrap ((i:Int)-1)=((i-1:Nat):Int):=by rw[aL WL WL];omega
   have hg2:=fF (k:=.i64) (show i-1<l.length by omega);have hw2:IntKind.i64.wrap (l.getD i 0-l.getD (i-1) 0)=l.getD i 0-l.getD (i-1) 0:=aL WL WL;have hw3:IntKind.i64.wrap (l.getD i 0-l.getD (i-1) 0-1)=fY l i:=by rw[fY,al5 WL,aL WL WL];omega
   refine ah hp' ?_;refine aB ?_ (by(try simp only[go_sem,hp']);try exact evd);refine fG hg hw1 hg2 hw2 hw3 hwd ?_;refine dse [1] ha ?_;refine ah hw ?_;refine⟨(acc++br (fY l i).toNat,i+1),⟨hi,by simpa using h2⟩,by dsimp only;omega,?_⟩;simp only[akC];exact ais [] [0,2]
  ·have h0:i=0:=WL
   subst h0;have e0:l.getD 0 0=fY l 0:=by rw[fY,al7 rfl]
   have hz:IntKind.i64.wrap ((0:Int)+1)=1:=WN
   rw[e0]at hg;refine Ff ?_;refine aZ hg hwd ?_;refine oce [1] ha ?_;refine ah hz ?_;refine⟨(acc++br (fY l 0).toNat,0+1),⟨hi,by simpa using h2⟩,by dsimp only;omega,?_⟩;simp only[akC];exact ais [] [0,2]
 ·have hi:i=l.length:=by simp at h;omega
  subst hi;rw[xF WL,amo]at h2;rw[<-h2];have h3:=ajG List.length h2;rw[akC]at h3;rw[<-h3];refine gon ?_;exact ahY [] [0,1]
end Go.Proofs.YtmpddimhleianaaGreat
namespace Go.Proofs.YtmpddimhleianaaGreat
open Go Go.FH Go.RowKit
theorem Xg{l:List Int}{n:Int}(h:cE l n=0):∀j,j<l.length->(j:Int)<=l.getD j 0
 |0,hj=>by have:=((iS h).2 0 hj).1;omega
 | j + 1, hj => by
   have h1:=Xg h j WL;have h2:=((iS h).2 (j+1) hj).2.2 WL;simp only[Nat.add_sub_cancel]at h2;omega
theorem C5{l:List Int}{n:Nat}(h:cE l n=0):l.length<=n:=by
 by_cases h0:l.length=0
 ·omega
 ·have h1:=Xg h (l.length-1) WL;have h2:=((iS h).2 (l.length-1) WL).2.1;omega
theorem RG{l:List Int}(hv:cE l 1024=0):∀ (k i:Nat),l.length-i=k->(kM l i).length<=10*k
 |0,i,hk=>by rw[xF WL];simp
 | k + 1, i, hk => by
   rw[pB WL,akC];have h1:=RG hv k (i+1) WL;have h2:=xU hv (j:=i) WL;have h3:=dT (n:=(fY l i).toNat) WL;omega
theorem Cr{l:List Int}(hv:cE l 1024=0):(sW l).length<=10250:=by
 have h1:=C5 (n:=1024) hv;have h2:=RG hv _ 0 rfl;have h3:=dT (n:=l.length) WL;rw[sW,akC];omega
def oW(x:Att)(l:List Int):List UInt8:=br x.slot.toNat++x.root.1++dt x.target++sW l
structure U64(n:Int):Prop where
 lo:0<=n
 hi:n<18446744073709551616
theorem U64.len{n:Int}(h:U64 n):(br n.toNat).length<=10:=dT (by have:=h.lo;have:=h.hi;omega)
theorem eK{c:Cp}(h:U64 c.ep):(dt c).length<=42:=by
 have:=h.len;have:=c.rt.2;rw[dt,akC];omega
theorem acm(x:Att)(l:List Int)(cl:Bool)(hx:x.vals=.sl 1 cl (aH .i64 l))(hl:l.length<=140737488355328)(h1:U64 x.slot)(h2:U64 x.target.ep):
 PC Tryz.prog 159 [.agg (cy x)] (.tup [.sl 1 false (bts (if cE l 1024=0 then oW x l else [])),.int .i64 (cE l 1024)]):=by
 refine PC.fact 6 ot WM ⟨(fB x).2 (by rw[Att.Pure,hx];exact bE _ _),trivial⟩ ⟨iV _,trivial,trivial⟩ ?_;unfold gX;refine bd ?_;have hc:=tq l cl 1024 hl;have hg:x.good=true:=by rw[Att.good,hx];rfl
 by_cases hv:cE l 1024=0
 ·have hr:=x.root.2;have q1:=h1.len;have q2:=eK h2;have q3:=Cr hv;have p1:=(gL x.slot h1.lo h1.hi).nil WL;have p2:=(lS x.root).own (br x.slot.toNat) WL;have p3:=(qI x.target h2.lo h2.hi).own (br x.slot.toNat++x.root.1) (by rw[akC];omega);have p4:=Zu l cl hv (br x.slot.toNat++x.root.1++dt x.target) (by simp only[akC];omega);rw[al7 hv];rw[hv]at hc ⊢;refine aZ hx hg ?_;refine am hc ?_;refine bk ?_;refine dsg [] p1 ?_;refine dsg [1] p2 ?_;refine dse [2] p3 ?_;refine ah hx ?_;refine dsg [3] p4 ?_;exact ai
 ·have hv':(cE l 1024 != 0)=true:=by simpa using hv
  rw[al5 hv];refine aZ hx hg ?_;refine ahG hc ?_;refine ax ?_ (by(try simp only[go_sem,hv']);try exact evd);refine gon ?_;refine⟨_,rfl,.inr ⟨.tup [.sl 0 true [],.int .i64 (cE l 1024)],evd,⟨trivial,trivial,trivial⟩,Wk.tup ⟨Wk.empty _ _ _,Wk.refl _,trivial⟩⟩⟩
theorem SI(x:Att)(l:List Int)(cl:Bool)(hx:x.vals=.sl 1 cl (aH .i64 l))(hl:l.length<=140737488355328)(h1:U64 x.slot)(h2:U64 x.target.ep):
 PC Tryz.prog 195 [.agg (cy x)] (.tup [.sl 1 false (bts (if cE l 1024=0 then oW x l else [])),.int .i64 (cE l 1024)]):=by
 refine PC.fact 5 qW WM ⟨(fB x).2 (by rw[Att.Pure,hx];exact bE _ _),trivial⟩ ⟨iV _,trivial,trivial⟩ ?_;unfold jk;refine bd ?_;have hc:=gl l cl 1024 hl;have hg:x.good=true:=by rw[Att.good,hx];rfl
 by_cases hv:cE l 1024=0
 ·have hr:=x.root.2;have q1:=h1.len;have q2:=eK h2;have q3:=Cr hv;have p1:=(cV x.slot h1.lo h1.hi).nil WL;have p2:=(dx x.root).own (br x.slot.toNat) WL;have p3:=(qx x.target h2.lo h2.hi).own (br x.slot.toNat++x.root.1) (by rw[akC];omega);have p4:=EE l cl hv (br x.slot.toNat++x.root.1++dt x.target) (by simp only[akC];omega);rw[al7 hv];rw[hv]at hc ⊢;refine aZ hx hg ?_;refine am hc ?_;refine dQ ?_;refine ah hx ?_;refine dsg [] p1 ?_;refine dsg [1] p2 ?_;refine dse [2] p3 ?_;refine ah hx ?_;refine dsg [3] p4 ?_;exact ai
 ·have hv':(cE l 1024 != 0)=true:=by simpa using hv
  rw[al5 hv];refine aZ hx hg ?_;refine ahG hc ?_;refine ax ?_ (by(try simp only[go_sem,hv']);try exact evd);refine gon ?_;refine⟨_,rfl,.inr ⟨.tup [.sl 0 true [],.int .i64 (cE l 1024)],evd,⟨trivial,trivial,trivial⟩,Wk.tup ⟨Wk.empty _ _ _,Wk.refl _,trivial⟩⟩⟩
def mO(x:Clm)(l:List Int):List UInt8:=br x.src.toNat++br x.tgt.toNat++x.root.1++sW l
structure Dj(x:Clm)(l:List Int)(cl:Bool):Prop where
 src:U64 x.src
 tgt:U64 x.tgt
 vals:x.vals=.sl 1 cl (aH .i64 l)
 len:l.length<=140737488355328
theorem pi{x:Clm}{l:List Int}{cl:Bool}(h:Dj x l cl)(hv:cE l 1024=0):(mO x l).length<=10302:=by
 have:=h.src.len;have:=h.tgt.len;have:=Cr hv;have:=x.root.2;simp only[mO,akC];omega
theorem Dj.good{x:Clm}{l:List Int}{cl:Bool}(h:Dj x l cl):x.good=true:=by rw[Clm.good,h.vals];rfl
theorem Dj.pu{x:Clm}{l:List Int}{cl:Bool}(h:Dj x l cl):x.Pure:=by rw[Clm.Pure,h.vals];exact bE _ _
theorem Dj.map{x:Clm}{l:List Int}{cl:Bool}(h:Dj x l cl)(ρ:Nat->Nat):x.map (ren ρ)=x:=by
 have hv:=h.vals;obtain⟨s,t,r,v⟩:=x;simp only at hv;subst hv;simp only[Clm.map,ren,dG]
theorem EH(x:Clm)(l:List Int)(cl:Bool)(hx:Dj x l cl)(hv:cE l 1024=0):Jv 284 [.agg (du x)] (mO x l):=by
 intro bs hb;refine afn 5 sF ?_;unfold nI;refine bd ?_;simp only[mO,akC,<-amd,<-am1]at hb ⊢;have hg:=hx.good;have hvs:=hx.vals;have p1:=(cV x.src hx.src.lo hx.src.hi).own bs WL;have p2:=(cV x.tgt hx.tgt.lo hx.tgt.hi).own (bs++br x.src.toNat) (by simp only[akC];omega);have p3:=(dx x.root).own (bs++br x.src.toNat++br x.tgt.toNat) (by simp only[akC];omega);have p4:=EE l cl hv (bs++br x.src.toNat++br x.tgt.toNat++x.root.1) (by simp only[akC];omega);refine ah hg ?_;refine dsg [0] p1 ?_;refine dsg [2] p2 ?_;refine dse [3] p3 ?_;refine ah hvs ?_;refine dsg [4] p4 ?_;exact ahY [] [0,5]
theorem EF(x:Clm)(l:List Int)(cl:Bool)(hx:Dj x l cl)(hv:cE l 1024=0):ay Tryz.prog 284 [.sl 0 true [],.agg (du x)] [] (.hs 1 0 0 (mO x l).length) [.vec 1 (bts (mO x l))]:=by
 refine afn 5 sF ?_;have hb:=pi hx hv;unfold nI;refine bd ?_;simp only[mO,akC,<-amd,<-am1]at hb ⊢;have hg:=hx.good;have hvs:=hx.vals;have p1:=(cV x.src hx.src.lo hx.src.hi).nil WL;have p2:=(cV x.tgt hx.tgt.lo hx.tgt.hi).own (br x.src.toNat) WL;have p3:=(dx x.root).own (br x.src.toNat++br x.tgt.toNat) (by simp only[akC];omega);have p4:=EE l cl hv (br x.src.toNat++br x.tgt.toNat++x.root.1) (by simp only[akC];omega);refine ah hg ?_;refine dsg [] p1 ?_;refine dsg [1] p2 ?_;refine dse [2] p3 ?_;refine ah hvs ?_;refine dsg [3] p4 ?_;exact ahY [] [4]
def uT(l1 l2:List Int):Int:=if cE l1 1024=0 then cE l2 1024 else cE l1 1024
def Fh(x:Slg)(l1 l2:List Int):List UInt8:=mO x.fst l1++mO x.snd l2
theorem Kq(x:Slg)(l1 l2:List Int)(c1 c2:Bool)(h1:Dj x.fst l1 c1)(h2:Dj x.snd l2 c2):
 PC Tryz.prog 196 [.agg (d7 x)] (.tup [.sl 1 false (bts (if uT l1 l2=0 then Fh x l1 l2 else [])),.int .i64 (uT l1 l2)]):=by
 refine PC.fact 6 o0 WM ⟨(j7 x).2 ⟨h1.pu,h2.pu⟩,trivial⟩ ⟨iV _,trivial,trivial⟩ ?_;unfold kX;refine bd ?_;have hg:x.good=true:=by rw[Slg.good,h1.good,h2.good];rfl
 have hv1:=h1.vals;have hv2:=h2.vals;have m1:=h1.map;have m2:=h2.map;have k1:=gl l1 c1 1024 h1.len;have k2:=gl l2 c2 1024 h2.len;unfold uT;by_cases e1:cE l1 1024=0
 ·simp only[e1,amt]
  rw[e1]at k1;by_cases e2:cE l2 1024=0
  ·simp only[e2,amt];rw[e2]at k2;have q1:=pi h1 e1;have q2:=pi h2 e2;have p1:=EF x.fst l1 c1 h1 e1;have p2:=EH x.snd l2 c2 h2 e2 (mO x.fst l1) WL;refine dC hg hv1 hv2 ?_;refine am k1 ?_;refine dQ ?_;refine dC hg hv1 hv2 ?_;refine am k2 ?_;refine bk ?_;refine aQ [] (p1) WM (by(try simp only[go_sem,m1]);try exact evd) (bj.mk' WM WM (by(try simp only[go_sem,m1]);try exact evd)) ?_;refine evg ?_;refine gon ?_;refine aQ [1] (p2) WM (by(try simp only[go_sem,m2]);try exact evd) (bj.mk' WM WM (by(try simp only[go_sem,m2]);try exact evd)) ?_;refine evg ?_;refine gon ?_;exact ai
  ·have e2':(cE l2 1024 != 0)=true:=by simpa using e2
   simp only[e2,amj];refine dC hg hv1 hv2 ?_;refine am k1 ?_;refine dQ ?_;refine dC hg hv1 hv2 ?_;refine ahG k2 ?_;refine ax ?_ (by(try simp only[go_sem,e2']);try exact evd);refine gon ?_;refine⟨_,rfl,.inr ⟨.tup [.sl 0 true [],.int .i64 (cE l2 1024)],evd,⟨trivial,trivial,trivial⟩,Wk.tup ⟨Wk.empty _ _ _,Wk.refl _,trivial⟩⟩⟩
 ·have e1':(cE l1 1024 != 0)=true:=by simpa using e1
  simp only[e1,amj];refine dC hg hv1 hv2 ?_;refine ahG k1 ?_;refine ax ?_ (by(try simp only[go_sem,e1']);try exact evd);refine gon ?_;refine⟨_,rfl,.inr ⟨.tup [.sl 0 true [],.int .i64 (cE l1 1024)],evd,⟨trivial,trivial,trivial⟩,Wk.tup ⟨Wk.empty _ _ _,Wk.refl _,trivial⟩⟩⟩
theorem Kd(x:Slg)(l1 l2:List Int)(c1 c2:Bool)(h1:Dj x.fst l1 c1)(h2:Dj x.snd l2 c2):
 PC Tryz.prog 160 [.agg (d7 x)] (.tup [.sl 1 false (bts (if uT l1 l2=0 then Fh x l1 l2 else [])),.int .i64 (uT l1 l2)]):=by
 refine PC.fact 8 mF WM ⟨(j7 x).2 ⟨h1.pu,h2.pu⟩,trivial⟩ ⟨iV _,trivial,trivial⟩ ?_;unfold kh;refine bd ?_;have hg:x.good=true:=by rw[Slg.good,h1.good,h2.good];rfl
 have g1:=h1.good;have g2:=h2.good;have hv1:=h1.vals;have hv2:=h2.vals;have k1:=tq l1 c1 1024 h1.len;have k2:=tq l2 c2 1024 h2.len;unfold uT;by_cases e1:cE l1 1024=0
 ·simp only[e1,amt]
  rw[e1]at k1;have q1:=pi h1 e1;simp only[mO,akC]at q1;have p1:=(gL x.fst.src h1.src.lo h1.src.hi).nil WL;have p2:=(gL x.fst.tgt h1.tgt.lo h1.tgt.hi).own (br x.fst.src.toNat) WL;have p3:=(lS x.fst.root).own (br x.fst.src.toNat++br x.fst.tgt.toNat) (by simp only[akC];omega);have p4:=Zu l1 c1 e1 (br x.fst.src.toNat++br x.fst.tgt.toNat++x.fst.root.1) (by simp only[akC];omega);refine eU hg g1 g2 hv1 hv2 ?_;refine lV 3 (gY ?_);refine Ff ?_;refine eU hg g1 g2 hv1 hv2 ?_;refine am k1 ?_;refine dQ ?_;refine eU hg g1 g2 hv1 hv2 ?_;refine dsg [] p1 ?_;refine dsg [2] p2 ?_;refine dse [3] p3 ?_;refine ah hv1 ?_;refine ocg [4] p4 ?_;refine gY ?_;refine Ff ?_;refine eU hg g1 g2 hv1 hv2 ?_;by_cases e2:cE l2 1024=0
  ·rw[e2]at k2;simp only[e2,amt];have q2:=pi h2 e2;simp only[mO,akC]at q2;have s1:=(gL x.snd.src h2.src.lo h2.src.hi).own (br x.fst.src.toNat++br x.fst.tgt.toNat++x.fst.root.1++sW l1) (by simp only[akC];omega);have s2:=(gL x.snd.tgt h2.tgt.lo h2.tgt.hi).own (br x.fst.src.toNat++br x.fst.tgt.toNat++x.fst.root.1++sW l1++br x.snd.src.toNat) (by simp only[akC];omega);have s3:=(lS x.snd.root).own (br x.fst.src.toNat++br x.fst.tgt.toNat++x.fst.root.1++sW l1++br x.snd.src.toNat++br x.snd.tgt.toNat) (by simp only[akC];omega);have s4:=Zu l2 c2 e2 (br x.fst.src.toNat++br x.fst.tgt.toNat++x.fst.root.1++sW l1++br x.snd.src.toNat++br x.snd.tgt.toNat++x.snd.root.1) (by simp only[akC];omega);refine am k2 ?_;refine dQ ?_;refine eU hg g1 g2 hv1 hv2 ?_;refine dsg [5] s1 ?_;refine dsg [7] s2 ?_;refine dse [8] s3 ?_;refine ah hv2 ?_;refine ocg [9] s4 ?_;refine gY ?_;refine bk ?_;refine⟨_,(by first|rfl|exact evd),.inl ?_⟩;refine evg ?_;simp only[Fh,mO,amd]
  ·have e2':(cE l2 1024 != 0)=true:=by simpa using e2
   rw[al5 e2];refine ahG k2 ?_;refine ax ?_ (by(try simp only[go_sem,e2']);try exact evd);refine gon ?_;refine⟨_,rfl,.inr ⟨.tup [.sl 0 true [],.int .i64 (cE l2 1024)],evd,⟨trivial,trivial,trivial⟩,Wk.tup ⟨Wk.empty _ _ _,Wk.refl _,trivial⟩⟩⟩
 ·have e1':(cE l1 1024 != 0)=true:=by simpa using e1
  simp only[e1,amj];refine eU hg g1 g2 hv1 hv2 ?_;refine lV 3 (gY ?_);refine Ff ?_;refine eU hg g1 g2 hv1 hv2 ?_;refine ahG k1 ?_;refine ax ?_ (by(try simp only[go_sem,e1']);try exact evd);refine gon ?_;refine⟨_,rfl,.inr ⟨.tup [.sl 0 true [],.int .i64 (cE l1 1024)],evd,⟨trivial,trivial,trivial⟩,Wk.tup ⟨Wk.empty _ _ _,Wk.refl _,trivial⟩⟩⟩
def Nd(x:Vdt):List UInt8:=br x.tag.toNat++br x.kind.toNat++x.latest.1
def uC(x:Vdt):Prop:=x.kind<1\/4<x.kind
instance (x:Vdt):Decidable (uC x):=inferInstanceAs (Decidable (_\/_))
theorem Kh(x:Vdt)(h1:U64 x.tag):
 PC Tryz.prog 162 [.agg (cA x)] (.tup [.sl 1 false (bts (if uC x then []else Nd x)),.int .i64 (if uC x then 3 else 0)]):=by
 refine PC.fact 4 m0 WM ⟨uI x,trivial⟩ ⟨iV _,trivial,trivial⟩ ?_;unfold ku;refine bd ?_;by_cases hv:uC x
 ·rw[al7 hv,al7 hv]
  unfold uC at hv;by_cases ha:x.kind<1
  ·have ha':decide (x.kind<1)=true:=by simpa using ha
   refine aM ha' ?_;refine⟨_,rfl,.inr ⟨.tup [.sl 0 true [],.int .i64 3],evd,⟨trivial,trivial,trivial⟩,Wk.tup ⟨Wk.empty _ _ _,Wk.refl _,trivial⟩⟩⟩
  ·have ha':decide (x.kind<1)=false:=by simpa using ha
   have hb':decide (4<x.kind)=true:=by rw[amg];omega
   refine cH ha' hb' ?_;refine⟨_,rfl,.inr ⟨.tup [.sl 0 true [],.int .i64 3],evd,⟨trivial,trivial,trivial⟩,Wk.tup ⟨Wk.empty _ _ _,Wk.refl _,trivial⟩⟩⟩
 ·rw[al5 hv,al5 hv];unfold uC at hv;have ha':decide (x.kind<1)=false:=by rw[ami];omega
  have hb':decide (4<x.kind)=false:=by rw[ami];omega
  have hw:IntKind.u64.wrap x.kind=x.kind:=aN WL WL;have hr:=x.latest.2;have q1:=h1.len;have q2:=dT (n:=x.kind.toNat) WL;have p1:=(gL x.tag h1.lo h1.hi).nil WL;have p2:=(gL x.kind WL WL).own (br x.tag.toNat) WL;have p3:=(lS x.latest).own (br x.tag.toNat++br x.kind.toNat) (by rw[akC];omega);refine fp ha' hb' ?_;refine ah hw ?_;refine dse [] p1 ?_;refine ah hw ?_;refine dsg [1] p2 ?_;refine dsg [2] p3 ?_;exact ai
theorem Kr(x:Vdt)(h1:U64 x.tag):
 PC Tryz.prog 198 [.agg (cA x)] (.tup [.sl 1 false (bts (if uC x then []else Nd x)),.int .i64 (if uC x then 3 else 0)]):=by
 refine PC.fact 4 px WM ⟨uI x,trivial⟩ ⟨iV _,trivial,trivial⟩ ?_;unfold lC;refine bd ?_;by_cases hv:uC x
 ·rw[al7 hv,al7 hv]
  unfold uC at hv;by_cases ha:x.kind<1
  ·have ha':decide (x.kind<1)=true:=by simpa using ha
   refine aM ha' ?_;refine⟨_,rfl,.inr ⟨.tup [.sl 0 true [],.int .i64 3],evd,⟨trivial,trivial,trivial⟩,Wk.tup ⟨Wk.empty _ _ _,Wk.refl _,trivial⟩⟩⟩
  ·have ha':decide (x.kind<1)=false:=by simpa using ha
   have hb':decide (4<x.kind)=true:=by rw[amg];omega
   refine cH ha' hb' ?_;refine⟨_,rfl,.inr ⟨.tup [.sl 0 true [],.int .i64 3],evd,⟨trivial,trivial,trivial⟩,Wk.tup ⟨Wk.empty _ _ _,Wk.refl _,trivial⟩⟩⟩
 ·rw[al5 hv,al5 hv];unfold uC at hv;have ha':decide (x.kind<1)=false:=by rw[ami];omega
  have hb':decide (4<x.kind)=false:=by rw[ami];omega
  have hw:IntKind.u64.wrap x.kind=x.kind:=aN WL WL;have hr:=x.latest.2;have q1:=h1.len;have q2:=dT (n:=x.kind.toNat) WL;have p1:=(cV x.tag h1.lo h1.hi).nil WL;have p2:=(cV x.kind WL WL).own (br x.tag.toNat) WL;have p3:=(dx x.latest).own (br x.tag.toNat++br x.kind.toNat) (by rw[akC];omega);refine fp ha' hb' ?_;refine ah hw ?_;refine dse [] p1 ?_;refine ah hw ?_;refine dsg [1] p2 ?_;refine dsg [2] p3 ?_;exact ai
def i9(x:Blk):List UInt8:=br x.slot.toNat++x.root.1++x.parent.1++x.payload.1++(cK x.diff).1++(cK x.pdiff).1++dt x.just++dt x.fin++dt x.pul.j++dt x.pul.f++fW x.timely
structure NQ(x:Blk):Prop where
 slot:U64 x.slot
 just:U64 x.just.ep
 fin:U64 x.fin.ep
 j:U64 x.pul.j.ep
 f:U64 x.pul.f.ep
theorem Sq(x:Blk)(hx:NQ x):PC Tryz.prog 158 [.agg (aO x)] (.sl 1 false (bts (i9 x))):=by
 refine PC.fact 8 ux WM ⟨gA x,trivial⟩ (iV _) ?_;unfold lk;refine bd ?_;have r1:=x.root.2;have r2:=x.parent.2;have r3:=x.payload.2;have r4:=(cK x.diff).2;have r5:=(cK x.pdiff).2;have q1:=hx.slot.len;have q2:=eK hx.just;have q3:=eK hx.fin;have q4:=eK hx.j;have q5:=eK hx.f;have q6:(fW x.timely).length<=1:=by cases x.timely<;>simp[fW]
 have p1:=(gL x.slot hx.slot.lo hx.slot.hi).nil WL;have p2:=(lS x.root).own (br x.slot.toNat) WL;have p3:=(lS x.parent).own _ (by simp only[akC];omega:(br x.slot.toNat++x.root.1).length+x.parent.1.length<=140737488355328);have p4:=(lS x.payload).own _ (by simp only[akC];omega:(br x.slot.toNat++x.root.1++x.parent.1).length+x.payload.1.length<=140737488355328);have p5:=(ED x.diff).own _ (by simp only[akC];omega:(br x.slot.toNat++x.root.1++x.parent.1++x.payload.1).length+(cK x.diff).1.length<=140737488355328);have p6:=(ED x.pdiff).own _ (by simp only[akC];omega:(br x.slot.toNat++x.root.1++x.parent.1++x.payload.1++(cK x.diff).1).length+(cK x.pdiff).1.length<=140737488355328);have p7:=(qI x.just hx.just.lo hx.just.hi).own _ (by simp only[akC];omega:(br x.slot.toNat++x.root.1++x.parent.1++x.payload.1++(cK x.diff).1++(cK x.pdiff).1).length+(dt x.just).length<=140737488355328);have p8:=(qI x.fin hx.fin.lo hx.fin.hi).own _ (by simp only[akC];omega:(br x.slot.toNat++x.root.1++x.parent.1++x.payload.1++(cK x.diff).1++(cK x.pdiff).1++dt x.just).length+(dt x.fin).length<=140737488355328);have p9:=(qI x.pul.j hx.j.lo hx.j.hi).own _ (by simp only[akC];omega:(br x.slot.toNat++x.root.1++x.parent.1++x.payload.1++(cK x.diff).1++(cK x.pdiff).1++dt x.just++dt x.fin).length+(dt x.pul.j).length<=140737488355328);have p10:=(qI x.pul.f hx.f.lo hx.f.hi).own _ (by simp only[akC];omega:(br x.slot.toNat++x.root.1++x.parent.1++x.payload.1++(cK x.diff).1++(cK x.pdiff).1++dt x.just++dt x.fin++dt x.pul.j).length+(dt x.pul.f).length<=140737488355328);have p11:=(Ni x.timely).own _ (by simp only[akC];omega:(br x.slot.toNat++x.root.1++x.parent.1++x.payload.1++(cK x.diff).1++(cK x.pdiff).1++dt x.just++dt x.fin++dt x.pul.j++dt x.pul.f).length+(fW x.timely).length<=140737488355328);refine gon ?_;refine ocg [] p1 ?_;refine lV 4 (gY ?_);refine aX ?_;refine ocg [1] p2 ?_;refine gY ?_;refine aX ?_;refine ocg [3] p3 ?_;refine gY ?_;refine aX ?_;refine ocg [5] p4 ?_;refine gY ?_;refine bk ?_;refine dsg [7] p5 ?_;refine dsg [8] p6 ?_;refine lV 5 (gY ?_);refine aX ?_;refine ocg [9] p7 ?_;refine gY ?_;refine aX ?_;refine ocg [11] p8 ?_;refine gY ?_;refine aX ?_;refine ocg [13] p9 ?_;refine gY ?_;refine aX ?_;refine ocg [15] p10 ?_;refine gY ?_;refine bk ?_;refine ocg [17] p11 ?_;exact ai
theorem Kp(x:Blk)(hx:NQ x):PC Tryz.prog 194 [.sl 0 true [],.agg (aO x)] (.sl 1 false (bts (i9 x))):=by
 refine PC.fact 5 BR WM ⟨trivial,gA x,trivial⟩ (iV _) ?_;unfold sE;refine bd ?_;have r1:=x.root.2;have r2:=x.parent.2;have r3:=x.payload.2;have r4:=(cK x.diff).2;have r5:=(cK x.pdiff).2;have q1:=hx.slot.len;have q2:=eK hx.just;have q3:=eK hx.fin;have q4:=eK hx.j;have q5:=eK hx.f;have q6:(fW x.timely).length<=1:=by cases x.timely<;>simp[fW]
 have p1:=(cV x.slot hx.slot.lo hx.slot.hi).nil WL;have p2:=(dx x.root).own (br x.slot.toNat) WL;have p3:=(dx x.parent).own _ (by simp only[akC];omega:(br x.slot.toNat++x.root.1).length+x.parent.1.length<=140737488355328);have p4:=(dx x.payload).own _ (by simp only[akC];omega:(br x.slot.toNat++x.root.1++x.parent.1).length+x.payload.1.length<=140737488355328);have p5:=(sj x.diff).own _ (by simp only[akC];omega:(br x.slot.toNat++x.root.1++x.parent.1++x.payload.1).length+(cK x.diff).1.length<=140737488355328);have p6:=(sj x.pdiff).own _ (by simp only[akC];omega:(br x.slot.toNat++x.root.1++x.parent.1++x.payload.1++(cK x.diff).1).length+(cK x.pdiff).1.length<=140737488355328);have p7:=(qx x.just hx.just.lo hx.just.hi).own _ (by simp only[akC];omega:(br x.slot.toNat++x.root.1++x.parent.1++x.payload.1++(cK x.diff).1++(cK x.pdiff).1).length+(dt x.just).length<=140737488355328);have p8:=(qx x.fin hx.fin.lo hx.fin.hi).own _ (by simp only[akC];omega:(br x.slot.toNat++x.root.1++x.parent.1++x.payload.1++(cK x.diff).1++(cK x.pdiff).1++dt x.just).length+(dt x.fin).length<=140737488355328);have p9:=(qx x.pul.j hx.j.lo hx.j.hi).own _ (by simp only[akC];omega:(br x.slot.toNat++x.root.1++x.parent.1++x.payload.1++(cK x.diff).1++(cK x.pdiff).1++dt x.just++dt x.fin).length+(dt x.pul.j).length<=140737488355328);have p10:=(qx x.pul.f hx.f.lo hx.f.hi).own _ (by simp only[akC];omega:(br x.slot.toNat++x.root.1++x.parent.1++x.payload.1++(cK x.diff).1++(cK x.pdiff).1++dt x.just++dt x.fin++dt x.pul.j).length+(dt x.pul.f).length<=140737488355328);have p11:=(jT x.timely).own _ (by simp only[akC];omega:(br x.slot.toNat++x.root.1++x.parent.1++x.payload.1++(cK x.diff).1++(cK x.pdiff).1++dt x.just++dt x.fin++dt x.pul.j++dt x.pul.f).length+(fW x.timely).length<=140737488355328);refine gon ?_;refine dsg [] p1 ?_;refine dsg [1] p2 ?_;refine dsg [2] p3 ?_;refine dsg [3] p4 ?_;refine dsg [4] p5 ?_;refine dsg [5] p6 ?_;refine dsg [6] p7 ?_;refine dsg [7] p8 ?_;refine dsg [8] p9 ?_;refine dsg [9] p10 ?_;refine dsg [10] p11 ?_;exact ai
structure GR(x:Tab)(l:List Int)(cl:Bool):Prop where
 ep:U64 x.cp.ep
 bals:x.bals=.sl 1 cl (aH .u64 l)
 all:∀n∈l,U64 n
 len:l.length<=140737488355328
def oK(x:Tab)(l:List Int):List UInt8:=dt x.cp++br l.length++wx l
theorem Gy:∀ {l:List Int},(∀n∈l,U64 n)->(wx l).length<=10*l.length
 | [],_=>by simp[wx]
 | n :: l, h => by
   have h1:=Gy (l:=l) (fun m hm=>h m (by simp[hm]));have h2:=(h n WM).len;simp only[wx,akC,al8];omega
theorem MR{l:List Int}{i:Nat}(h:i<l.length):wx (l.drop i)=br (l.getD i 0).toNat++wx (l.drop (i+1)):=by
 rw[amG h,wx,alt,al6 h];rfl
theorem GR.good{x:Tab}{l:List Int}{cl:Bool}(h:GR x l cl):x.good=true:=by rw[Tab.good,h.bals];rfl
theorem GR.pu{x:Tab}{l:List Int}{cl:Bool}(h:GR x l cl):x.Pure:=by rw[Tab.Pure,h.bals];exact bE _ _
theorem GR.getD{x:Tab}{l:List Int}{cl:Bool}(h:GR x l cl){i:Nat}(hi:i<l.length):U64 (l.getD i 0):=by
 rw[alt,al6 hi];exact h.all _ (amS hi)
theorem acn(x:Tab)(l:List Int)(cl:Bool)(hx:GR x l cl):
 PC Tryz.prog 161 [.agg (ar x)] (.tup [.sl 1 false (bts (if 1024<l.length then []else oK x l)),.int .i64 (if 1024<l.length then 3 else 0)]):=by
 refine PC.fact 23 uy WM ⟨(eP x).2 hx.pu,trivial⟩ ⟨iV _,trivial,trivial⟩ ?_;unfold lm;refine bd ?_;have hg:=hx.good;have hv:=hx.bals;by_cases h0:1024<l.length
 ·have h0':decide ((1024:Int)<(l.length:Int))=true:=by rw[amg];omega
  rw[al7 h0,al7 h0];refine aZ hg hv ?_;refine ax ?_ (by(try simp only[go_sem,h0']);try exact evd);refine gon ?_;refine⟨_,rfl,.inr ⟨.tup [.sl 0 true [],.int .i64 3],evd,⟨trivial,trivial,trivial⟩,Wk.tup ⟨Wk.empty _ _ _,Wk.refl _,trivial⟩⟩⟩
 have h0':decide ((1024:Int)<(l.length:Int))=false:=by rw[ami];omega
 rw[al5 h0,al5 h0];have q1:=eK hx.ep;have q2:=dT (n:=l.length) WL;have q3:=Gy hx.all;have hw:IntKind.u64.wrap (l.length:Int)=l.length:=aN WL WL
 have hm:∀ρ:Nat->Nat,x.map (ren ρ)=x:=by
  intro ρ;obtain⟨c,v⟩:=x;simp only at hv;subst hv;simp only[Tab.map,ren,dG]
 have hmf:∀ (σ:St) (zs:List Nat),x.map (fz σ zs)=x:=by
  intro σ zs;obtain⟨c,v⟩:=x;simp only at hv;subst hv;simp only[Tab.map,fz,dM]
 have p1:=(qI x.cp hx.ep.lo hx.ep.hi).nil WL;have p2:=(gL (l.length:Int) WL WL).own (dt x.cp) (by rw[amw];omega);rw[amw]at p2;refine aZ hg hv ?_;refine aB ?_ (by(try simp only[go_sem,h0']);try exact evd);refine dC hg hv hw ?_;refine dse [] p1 ?_;refine dC hg hv hw ?_;refine dse [1] p2 ?_;refine aZ hg hv ?_
 refine eZ (fun x':List UInt8×Nat=>⟨23,[.agg (ar x),.ptr 0 0,.sl 0 true [],.int .i64 0,.hs 1 1 0 x'.1.length,.dead,.dead,.dead,.dead,.dead,.dead,.dead,.dead,.dead,.dead,.dead,.dead,.dead,.dead,.dead,.sl 1 cl (aH .u64 l),.int .i64 l.length,.int .i64 x'.2],[]⟩)
  (fun x'=>[.var (ar x),.vec 1 (bts x'.1)]) (fun x'=>l.length-x'.2) (fun x'=>x'.2<=l.length/\x'.1++wx (l.drop x'.2)=oK x l) (dt x.cp++br l.length,0) ⟨WM,by simp[oK]⟩ ?_ ?_
 ·simp only[akC,dt,<-amd];refine GC.mk' [] [0,2] WM rfl WM WM (by(try simp only[go_sem,hm,hmf]);try exact evd) (by(try simp only[go_sem,hm,hmf]);try exact evd)
 rintro⟨acc,i⟩ ⟨h1,h2⟩;dsimp only at h1 h2 ⊢;have hal:=ajG List.length h2;simp only[oK,akC]at hal;refine aZ hg hv ?_;refine aY evd (fun h=>?_) (fun h=>?_)
 ·have hi:i<l.length:=by simpa using h
  have hgd:=fF (k:=.u64) hi;have hu:=hx.getD hi;rw[MR hi]at h2 hal;rw[akC]at hal;have ha:=(gL (l.getD i 0) hu.lo hu.hi).own acc WL;have hwi:=af hi WL;refine dC hgd hg hv ?_;refine oce [1] ha ?_;refine ah hwi ?_;refine⟨(acc++br (l.getD i 0).toNat,i+1),⟨hi,by simpa using h2⟩,by dsimp only;omega,?_⟩;simp only[akC];refine GC.mk' [] [0,2] WM rfl WM WM (by(try simp only[go_sem,hm,hmf]);try exact evd) (by(try simp only[go_sem,hm,hmf]);try exact evd)
 ·have hi:i=l.length:=by simp at h;omega
  subst hi;rw[amB,wx,amo]at h2;rw[<-h2];refine gon ?_;exact ai
theorem SJ(x:Tab)(l:List Int)(cl:Bool)(hx:GR x l cl):
 PC Tryz.prog 197 [.agg (ar x)] (.tup [.sl 1 false (bts (if 1024<l.length then []else oK x l)),.int .i64 (if 1024<l.length then 3 else 0)]):=by
 refine PC.fact 6 zN WM ⟨(eP x).2 hx.pu,trivial⟩ ⟨iV _,trivial,trivial⟩ ?_;unfold iU;refine bd ?_;have hg:=hx.good;have hv:=hx.bals;by_cases h0:1024<l.length
 ·have h0':decide ((1024:Int)<(l.length:Int))=true:=by rw[amg];omega
  rw[al7 h0,al7 h0];refine aZ hg hv ?_;refine ax ?_ (by(try simp only[go_sem,h0']);try exact evd);refine gon ?_;refine⟨_,rfl,.inr ⟨.tup [.sl 0 true [],.int .i64 3],evd,⟨trivial,trivial,trivial⟩,Wk.tup ⟨Wk.empty _ _ _,Wk.refl _,trivial⟩⟩⟩
 have h0':decide ((1024:Int)<(l.length:Int))=false:=by rw[ami];omega
 rw[al5 h0,al5 h0];have q1:=eK hx.ep;have q2:=dT (n:=l.length) WL;have q3:=Gy hx.all;have hw:IntKind.u64.wrap (l.length:Int)=l.length:=aN WL WL
 have hm:∀ρ:Nat->Nat,x.map (ren ρ)=x:=by
  intro ρ;obtain⟨c,v⟩:=x;simp only at hv;subst hv;simp only[Tab.map,ren,dG]
 have hmf:∀ (σ:St) (zs:List Nat),x.map (fz σ zs)=x:=by
  intro σ zs;obtain⟨c,v⟩:=x;simp only at hv;subst hv;simp only[Tab.map,fz,dM]
 have hr:=x.cp.rt.2;have q4:=hx.ep.len;have p1:=(cV x.cp.ep hx.ep.lo hx.ep.hi).nil WL;have p2:=(dx x.cp.rt).own (br x.cp.ep.toNat) WL;have p3:=(cV (l.length:Int) WL WL).own (br x.cp.ep.toNat++x.cp.rt.1) (by rw[amw,akC];omega);rw[amw]at p3;refine aZ hg hv ?_;refine aB ?_ (by(try simp only[go_sem,h0']);try exact evd);refine dC hg hv hw ?_;refine dse [] p1 ?_;refine dC hg hv hw ?_;refine dse [1] p2 ?_;refine dC hg hv hw ?_;refine dse [2] p3 ?_;refine aZ hg hv ?_
 refine eZ (fun x':List UInt8×Nat=>⟨6,[.agg (ar x),.ptr 0 0,.sl 0 true [],.int .i64 0,.hs 1 1 0 x'.1.length,.int .i64 x'.2],[]⟩)
  (fun x'=>[.var (ar x),.vec 1 (bts x'.1)]) (fun x'=>l.length-x'.2) (fun x'=>x'.2<=l.length/\x'.1++wx (l.drop x'.2)=oK x l) (dt x.cp++br l.length,0) ⟨WM,by simp[oK]⟩ ?_ ?_
 ·simp only[akC,dt,<-amd];refine GC.mk' [] [0,3] WM rfl WM WM (by(try simp only[go_sem,hm,hmf]);try exact evd) (by(try simp only[go_sem,hm,hmf]);try exact evd)
 rintro⟨acc,i⟩ ⟨h1,h2⟩;dsimp only at h1 h2 ⊢;have hal:=ajG List.length h2;simp only[oK,akC]at hal;refine aZ hg hv ?_;refine aY evd (fun h=>?_) (fun h=>?_)
 ·have hi:i<l.length:=by simpa using h
  have hgd:=fF (k:=.u64) hi;have hu:=hx.getD hi;rw[MR hi]at h2 hal;rw[akC]at hal;have ha:=(cV (l.getD i 0) hu.lo hu.hi).own acc WL;have hwi:=af hi WL;refine dC hgd hg hv ?_;refine oce [1] ha ?_;refine ah hwi ?_;refine⟨(acc++br (l.getD i 0).toNat,i+1),⟨hi,by simpa using h2⟩,by dsimp only;omega,?_⟩;simp only[akC];refine GC.mk' [] [0,2] WM rfl WM WM (by(try simp only[go_sem,hm,hmf]);try exact evd) (by(try simp only[go_sem,hm,hmf]);try exact evd)
 ·have hi:i=l.length:=by simp at h;omega
  subst hi;rw[amB,wx,amo]at h2;rw[<-h2];refine gon ?_;exact ai
end Go.Proofs.YtmpddimhleianaaGreat
