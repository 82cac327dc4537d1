/- Joined. -/
import Derived.Test.YtnjdpnfglgcjcaaGreatW7
import Derived.Test.YtnjdpnfglgcjcaaGreatW3
import Derived.Test.YtnjdpnfglgcjcaaGreatChecked
import Derived.KernelRfl
import Derived.Test.YtnjdpnfglgcjcaaGreatW4
set_option linter.unusedVariables false
set_option linter.unusedSimpArgs false
set_option maxRecDepth 8000
set_option maxHeartbeats 4000000
namespace Go.Proofs.YtnjdpnfglgcjcaaGreat
open Go Go.FH
theorem se(bs:List UInt8)(e m:Int):(aR bs e m).2.1 <:+ bs:=by
 unfold aR;(repeat' split)<;>first|exact amP _|exact alK _ _
theorem eY(bs:List UInt8)(e:Int):(pp bs e).2.1 <:+ bs:=by
 unfold pp;(repeat' split)<;>first|exact amP _|exact alK _ _
def nV(l:List Int)(n:Int)(i:Nat):Int:=
 if i<l.length then (if l.getD i 0<0\/n<=l.getD i 0 then 3 else if 0<i/\l.getD i 0<=l.getD (i-1) 0 then 8 else nV l n (i+1))else 0
termination_by l.length-i
def cE(l:List Int)(n:Int):Int:=if l=[]then 2 else nV l n 0
theorem lY{l:List Int}{n:Int}{i:Nat}(h:i<l.length):nV l n i=if l.getD i 0<0\/n<=l.getD i 0 then 3 else if 0<i/\l.getD i 0<=l.getD (i-1) 0 then 8 else nV l n (i+1):=by
 rw[nV,al7 h]
theorem oQ{l:List Int}{n:Int}{i:Nat}(h:¬i<l.length):nV l n i=0:=by rw[nV,al5 h]
def fY(l:List Int)(i:Nat):Int:=if i=0 then l.getD 0 0 else l.getD i 0-(l.getD (i-1) 0+1)
def kM(l:List Int)(i:Nat):List UInt8:=if i<l.length then bF (fY l i).toNat++kM l (i+1)else []
termination_by l.length-i
theorem pB{l:List Int}{i:Nat}(h:i<l.length):kM l i=bF (fY l i).toNat++kM l (i+1):=by rw[kM,al7 h]
theorem xF{l:List Int}{i:Nat}(h:¬i<l.length):kM l i=[]:=by rw[kM,al5 h]
theorem DW(l:List Int)(i:Nat)(hi:i<=l.length):l.length-i<=(kM l i).length:=by
 by_cases h:i<l.length
 ·rw[pB h,akC];have:=DW l (i+1) h;have:=sp (fY l i).toNat
  omega
 ·omega
termination_by l.length-i
def sW(l:List Int):List UInt8:=bF l.length++kM l 0
theorem Tq{l:List Int}{n:Int}:∀ (k i:Nat),l.length-i=k->nV l n i=0->∀j,i<=j->j<l.length->0<=l.getD j 0/\l.getD j 0<n/\(0<j->l.getD (j-1) 0<l.getD j 0)
 |0,i,hk,h,j,h1,h2=>by omega
 | k + 1, i, hk, h, j, h1, h2 => by
   rw[lY (by omega)]at h;split at h
   ·cases h
   ·rename_i ha
    split at h
    ·cases h
    ·rename_i hb
     by_cases hj:j=i
     ·subst hj;refine⟨by omega,by omega,fun h0=>?_⟩;have:=not_and.1 hb h0;omega
     ·exact Tq k (i+1) (by omega) h j (by omega) h2
theorem iS{l:List Int}{n:Int}(h:cE l n=0):l≠[]/\∀j,j<l.length->0<=l.getD j 0/\l.getD j 0<n/\(0<j->l.getD (j-1) 0<l.getD j 0):=by
 unfold cE at h;split at h
 ·cases h
 ·rename_i h0;exact⟨h0,fun j hj=>Tq _ 0 rfl h j (by omega) hj⟩
theorem xU{l:List Int}{n:Int}(h:cE l n=0){j:Nat}(hj:j<l.length):0<=fY l j/\fY l j<n:=by
 have h1:=(iS h).2 j hj;unfold fY;split
 ·subst_vars;exact⟨h1.1,h1.2.1⟩
 ·have h2:=h1.2.2 (by omega);have h3:=(iS h).2 (j-1) (by omega);omega
def CG:Nat->Int->List Int->List UInt8->Int->List Int×List UInt8×Int
 |0,_,acc,bs,e=>(acc,bs,e)
 |n+1,last,acc,bs,e=>if e≠0 then (acc,bs,e)else CG n (last+1+(aR bs e 1024).1) (acc++[last+1+(aR bs e 1024).1]) (aR bs e 1024).2.1 (aR bs e 1024).2.2
def xf(bs:List UInt8)(e:Int):List Int×List UInt8×Int:=CG (aR bs e 1024).1.toNat (-1) [] (aR bs e 1024).2.1 (aR bs e 1024).2.2
theorem Sj:∀ (n:Nat) (last:Int) (acc:List Int) (bs:List UInt8) (e:Int),(CG n last acc bs e).2.1.length<=bs.length
 |0,_,_,bs,_=>amb _
 | n + 1, last, acc, bs, e => by
   rw[CG];split
   ·exact amb _
   ·exact ams (Sj _ _ _ _ _) (cV bs e 1024)
theorem Y7(bs:List UInt8)(e:Int):(xf bs e).2.1.length<=bs.length:=ams (Sj _ _ _ _ _) (cV bs e 1024)
def wx:List Int->List UInt8
 | []=>[]
 |x::l=>bF x.toNat++wx l
def f9:Nat->List Int->List UInt8->Int->List Int×List UInt8×Int
 |0,acc,bs,e=>(acc,bs,e)
 |n+1,acc,bs,e=>if e≠0 then (acc,bs,e)else f9 n (acc++[(aR bs e bU).1]) (aR bs e bU).2.1 (aR bs e bU).2.2
theorem fF{k:IntKind}{ns:List Int}{i:Nat}(h:i<ns.length):(aH k ns).getD i []=[.int k (ns.getD i 0)]:=by
 rw[Yt h,alt,al6 h];rfl
theorem tq(l:List Int)(cl:Bool)(n:Int)(hb:l.length<=140737488355328):PC Tryz.prog 215 [.sl 1 cl (aH .i64 l),.int .i64 n] (.int .i64 (cE l n)):=by
 refine PC.fact 13 sT (by simp) ⟨bE .i64 l,trivial,trivial⟩ trivial ?_;unfold kx cE;refine bd ?_;by_cases h0:l=[]
 ·subst h0;rw[al7 rfl];refine aX ?_;exact ai
 rw[al5 h0];have hl:0<l.length:=ajX.2 h0;have hl':((l.length:Int)==0)=false:=by simp;omega
 refine ah hl' ?_;refine aB ?_ (by(try simp only[go_sem,hl']);try exact evd);refine gon ?_;refine gM (fun i:Nat=>⟨13,[.sl 1 cl (aH .i64 l),.int .i64 n,.dead,.dead,.int .i64 0,.dead,.dead,.dead,.dead,.dead,.sl 1 cl (aH .i64 l),.int .i64 l.length,.int .i64 i],[]⟩) (fun _=>[]) (fun i=>l.length-i) (fun i=>i<=l.length/\nV l n i=nV l n 0) [5,6,7,8,9] 0 ⟨by omega,rfl⟩ evd rfl ?_;rintro i ⟨hi,hv⟩;try dsimp only
 refine gon ?_;refine aY evd (fun h=>?_) (fun h=>?_)
 ·have h1:i<l.length:=by simp at h;omega
  have hg:=fF (k:=.i64) h1;have hi':((i:Int)+1)=((i+1:Nat):Int):=by omega
  have hw:=af h1 (by omega);rw[lY h1]at hv;generalize hx:l.getD i 0=x at *;by_cases hA:x<0\/n<=x
  ·rw[al7 hA]at hv
   rw[<-hv];by_cases hx0:x<0
   ·have hx0':decide (x<0)=true:=by simpa using hx0
    refine cH hg hx0' ?_;exact ai
   ·have hx0':decide (x<0)=false:=by simpa using hx0
    have hx1:decide (n<=x)=true:=by rw[amg];omega
    refine fI hg hx0' hx1 ?_;exact ai
  ·rw [al5 hA] at hv
   have hx0':decide (x<0)=false:=by rw[ami];omega
   have hx1:decide (n<=x)=false:=by rw[ami];omega
   refine zh hg hx0' hx1 ?_;by_cases hp:0<i
   ·have hp':decide ((0:Int)<(i:Int))=true:=by rw[amg];omega
    have hw1:IntKind.i64.wrap ((i:Int)-1)=((i-1:Nat):Int):=by rw[aL (by omega) (by omega)];omega
    have hg2:=fF (k:=.i64) (show i-1<l.length by omega);by_cases hB:x<=l.getD (i-1) 0
    ·have hB':decide (x<=l.getD (i-1) 0)=true:=by simpa using hB
     rw[al7 ⟨hp,hB⟩]at hv;rw[<-hv];refine eU hg hp' hw1 hg2 hB' ?_;refine agF ?_;exact ai
    ·have hB':decide (x<=l.getD (i-1) 0)=false:=by simpa using hB
     rw[al5 (fun hh=>hB hh.2)]at hv;refine eU hg hp' hw1 hg2 hB' ?_;refine aB ?_;refine ah hw ?_;exact⟨i+1,⟨h1,hv⟩,by omega,rfl⟩
   ·have hp':decide ((0:Int)<(i:Int))=false:=by rw[ami];omega
    rw[al5 (fun hh=>hp hh.1)]at hv;refine bJ hp' ?_;refine ah hw ?_;exact⟨i+1,⟨h1,hv⟩,by omega,rfl⟩
 ·have h1:i=l.length:=by simp at h;omega
  subst h1;rw[<-hv,oQ (by omega)];refine gon ?_;exact ai
theorem gl(l:List Int)(cl:Bool)(n:Int)(hb:l.length<=140737488355328):PC Tryz.prog 242 [.sl 1 cl (aH .i64 l),.int .i64 n] (.int .i64 (cE l n)):=by
 refine PC.fact 6 ye (by simp) ⟨bE .i64 l,trivial,trivial⟩ trivial ?_;unfold nM cE;refine bd ?_;by_cases h0:l=[]
 ·subst h0;rw[al7 rfl];refine aX ?_;exact ai
 rw[al5 h0];have hl:0<l.length:=ajX.2 h0;have hl':((l.length:Int)==0)=false:=by simp;omega
 refine ah hl' ?_;refine aB ?_ (by(try simp only[go_sem,hl']);try exact evd);refine gon ?_;refine gM (fun i:Nat=>⟨6,[.sl 1 cl (aH .i64 l),.int .i64 n,.dead,.dead,.int .i64 0,.int .i64 i],[]⟩) (fun _=>[]) (fun i=>l.length-i) (fun i=>i<=l.length/\nV l n i=nV l n 0) [] 0 ⟨by omega,rfl⟩ evd rfl ?_;rintro i ⟨hi,hv⟩;try dsimp only
 refine gon ?_;refine aY evd (fun h=>?_) (fun h=>?_)
 ·have h1:i<l.length:=by simp at h;omega
  have hg:=fF (k:=.i64) h1;have hi':((i:Int)+1)=((i+1:Nat):Int):=by omega
  have hw:=af h1 (by omega);rw[lY h1]at hv;generalize hx:l.getD i 0=x at *;by_cases hA:x<0\/n<=x
  ·rw[al7 hA]at hv
   rw[<-hv];by_cases hx0:x<0
   ·have hx0':decide (x<0)=true:=by simpa using hx0
    refine cH hg hx0' ?_;exact ai
   ·have hx0':decide (x<0)=false:=by simpa using hx0
    have hx1:decide (n<=x)=true:=by rw[amg];omega
    refine fI hg hx0' hx1 ?_;exact ai
  ·rw [al5 hA] at hv
   have hx0':decide (x<0)=false:=by rw[ami];omega
   have hx1:decide (n<=x)=false:=by rw[ami];omega
   refine zh hg hx0' hx1 ?_;by_cases hp:0<i
   ·have hp':decide ((0:Int)<(i:Int))=true:=by rw[amg];omega
    have hw1:IntKind.i64.wrap ((i:Int)-1)=((i-1:Nat):Int):=by rw[aL (by omega) (by omega)];omega
    have hg2:=fF (k:=.i64) (show i-1<l.length by omega);by_cases hB:x<=l.getD (i-1) 0
    ·have hB':decide (x<=l.getD (i-1) 0)=true:=by simpa using hB
     rw[al7 ⟨hp,hB⟩]at hv;rw[<-hv];refine eU hg hp' hw1 hg2 hB' ?_;refine agF ?_;exact ai
    ·have hB':decide (x<=l.getD (i-1) 0)=false:=by simpa using hB
     rw[al5 (fun hh=>hB hh.2)]at hv;refine eU hg hp' hw1 hg2 hB' ?_;refine aB ?_;refine ah hw ?_;exact⟨i+1,⟨h1,hv⟩,by omega,rfl⟩
   ·have hp':decide ((0:Int)<(i:Int))=false:=by rw[ami];omega
    rw[al5 (fun hh=>hp hh.1)]at hv;refine bJ hp' ?_;refine ah hw ?_;exact⟨i+1,⟨h1,hv⟩,by omega,rfl⟩
 ·have h1:i=l.length:=by simp at h;omega
  subst h1;rw[<-hv,oQ (by omega)];refine gon ?_;exact ai
def Jv(f:FuncId)(xs:List AV)(e:List UInt8):Prop:=∀bs:List UInt8,bs.length+e.length<=140737488355328->ay Tryz.prog f (.hs 1 0 0 bs.length::xs) [.vec 1 (bts bs)] (.hs 1 1 0 (bs.length+e.length)) [.gone,.vec 1 (bts (bs++e))]
theorem Zu(l:List Int)(cl:Bool)(hv:cE l 1024=0):Jv 276 [.sl 1 cl (aH .i64 l)] (sW l):=by
 intro bs hb;refine ay.fact 15 vN (by simp) ?_ (by simp);unfold mD;refine bd ?_;have hl:(sW l).length=(bF l.length).length+(kM l 0).length:=by rw[sW,akC]
 have hll:l.length<=(kM l 0).length:=DW l 0 (by omega);have hu:=(gL (l.length:Int) (by omega) (by omega)).own bs (by rw[amw];omega);rw[amw]at hu;have hw0:IntKind.u64.wrap (l.length:Int)=(l.length:Int):=aN (by omega) (by omega);refine ah hw0 ?_;refine aG [0] (hu) evd (aq.mk' (by simp) evd) ?_;refine evg ?_;refine gon ?_
 refine eZ (fun x:List UInt8×Nat=>⟨15,[.hs 1 1 0 x.1.length,.sl 1 cl (aH .i64 l),.dead,.dead,.sl 0 true [],.dead,.dead,.dead,.dead,.dead,.dead,.dead,.sl 1 cl (aH .i64 l),.int .i64 l.length,.int .i64 x.2],[]⟩)
  (fun x=>[.gone,.vec 1 (bts x.1)]) (fun x=>l.length-x.2) (fun x=>x.2<=l.length/\x.1++kM l x.2=bs++sW l) (bs++bF l.length,0) ⟨by simp,by simp[sW]⟩ ?_ ?_
 ·simp only[akC];exact ais [] [0,1]
 rintro⟨acc,i⟩ ⟨h1,h2⟩;dsimp only at h1 h2 ⊢;have hal:acc.length+(kM l i).length=bs.length+(sW l).length:=by simpa using ajG List.length h2
 refine gon ?_;refine aY evd (fun h=>?_) (fun h=>?_)
 ·have hi:i<l.length:=by simpa using h
  have hg:=fF (k:=.i64) hi;have hd:=xU hv hi;have hi0:=(iS hv).2 i hi;rw[pB hi]at h2 hal;rw[akC]at hal;have ha:=(gL (fY l i) hd.1 (by omega)).own acc (by omega);have hw:=af hi (by omega);have hwd:IntKind.u64.wrap (fY l i)=fY l i:=aN (by omega) (by omega);by_cases hp:0<i
  ·have hp':decide ((0:Int)<(i:Int))=true:=by rw[amg];omega
   have hi1:=(iS hv).2 (i-1) (by omega);have hw1:IntKind.i64.wrap ((i:Int)-1)=((i-1:Nat):Int):=by rw[aL (by omega) (by omega)];omega
   have hg2:=fF (k:=.i64) (show i-1<l.length by omega);have hw2:IntKind.i64.wrap (l.getD (i-1) 0+1)=l.getD (i-1) 0+1:=aL (by omega) (by omega);have hw3:IntKind.i64.wrap (l.getD i 0-(l.getD (i-1) 0+1))=fY l i:=by rw[fY,al5 (by omega),aL (by omega) (by omega)]
   refine aZ hg hp' ?_;refine ax ?_ (by(try simp only[go_sem,hp']);try exact evd);refine eU hw1 hg2 hw2 hw3 hwd ?_;refine aG [1] (ha) evd (aq.mk' (by simp) evd) ?_;refine evg ?_;refine ah hw ?_;refine⟨(acc++bF (fY l i).toNat,i+1),⟨hi,by simpa using h2⟩,by dsimp only;omega,?_⟩;simp only[akC];exact ais [] [0,2]
  ·have hp':decide ((0:Int)<(i:Int))=false:=by rw[ami];omega
   have h0:i=0:=by omega
   subst h0;have e0:l.getD 0 0=fY l 0:=by rw[fY,al7 rfl]
   have hz:IntKind.i64.wrap ((0:Int)+1)=1:=by decide
   rw[e0]at hg;refine aZ hg hp' ?_;refine aB ?_ (by(try simp only[go_sem,hp']);try exact evd);refine ah hwd ?_;refine aG [1] (ha) evd (aq.mk' (by simp) evd) ?_;refine evg ?_;refine ah hz ?_;refine⟨(acc++bF (fY l 0).toNat,0+1),⟨hi,by simpa using h2⟩,by dsimp only;omega,?_⟩;simp only[akC];exact ais [] [0,2]
 ·have hi:i=l.length:=by simp at h;omega
  subst hi;rw[xF (by omega),amo]at h2;rw[<-h2];have h3:=ajG List.length h2;rw[akC]at h3;rw[<-h3];refine gon ?_;exact ahY [] [0,1]
theorem EE(l:List Int)(cl:Bool)(hv:cE l 1024=0):Jv 278 [.sl 1 cl (aH .i64 l)] (sW l):=by
 intro bs hb;refine ay.fact 6 Q7 (by simp) ?_ (by simp);unfold EX;refine bd ?_;have hl:(sW l).length=(bF l.length).length+(kM l 0).length:=by rw[sW,akC]
 have hll:l.length<=(kM l 0).length:=DW l 0 (by omega);have hu:=(dd (l.length:Int) (by omega) (by omega)).own bs (by rw[amw];omega);rw[amw]at hu;have hw0:IntKind.u64.wrap (l.length:Int)=(l.length:Int):=aN (by omega) (by omega);refine ah hw0 ?_;refine aG [0] (hu) evd (aq.mk' (by simp) evd) ?_;refine evg ?_;refine gon ?_
 refine eZ (fun x:List UInt8×Nat=>⟨6,[.hs 1 1 0 x.1.length,.sl 1 cl (aH .i64 l),.dead,.dead,.sl 0 true [],.int .i64 x.2],[]⟩)
  (fun x=>[.gone,.vec 1 (bts x.1)]) (fun x=>l.length-x.2) (fun x=>x.2<=l.length/\x.1++kM l x.2=bs++sW l) (bs++bF l.length,0) ⟨by simp,by simp[sW]⟩ ?_ ?_
 ·simp only[akC];exact ais [] [0,1]
 rintro⟨acc,i⟩ ⟨h1,h2⟩;dsimp only at h1 h2 ⊢;have hal:acc.length+(kM l i).length=bs.length+(sW l).length:=by simpa using ajG List.length h2
 refine gon ?_;refine aY evd (fun h=>?_) (fun h=>?_)
 ·have hi:i<l.length:=by simpa using h
  have hg:=fF (k:=.i64) hi;have hd:=xU hv hi;have hi0:=(iS hv).2 i hi;rw[pB hi]at h2 hal;rw[akC]at hal;have ha:=(dd (fY l i) hd.1 (by omega)).own acc (by omega);have hw:=af hi (by omega);have hwd:IntKind.u64.wrap (fY l i)=fY l i:=aN (by omega) (by omega);by_cases hp:0<i
  ·have hp':((i:Int)==0)=false:=by simp;omega
   have hi1:=(iS hv).2 (i-1) (by omega);have hw1:IntKind.i64.wrap ((i:Int)-1)=((i-1:Nat):Int):=by rw[aL (by omega) (by omega)];omega
   have hg2:=fF (k:=.i64) (show i-1<l.length by omega);have hw2:IntKind.i64.wrap (l.getD i 0-l.getD (i-1) 0)=l.getD i 0-l.getD (i-1) 0:=aL (by omega) (by omega);have hw3:IntKind.i64.wrap (l.getD i 0-l.getD (i-1) 0-1)=fY l i:=by rw[fY,al5 (by omega),aL (by omega) (by omega)];omega
   refine ah hp' ?_;refine aB ?_ (by(try simp only[go_sem,hp']);try exact evd);refine eV hg hw1 hg2 hw2 hw3 hwd ?_;refine aQ [1] (ha) (by simp) evd (bj.mk' (by simp) (by simp) evd) ?_;refine evg ?_;refine ah hw ?_;refine⟨(acc++bF (fY l i).toNat,i+1),⟨hi,by simpa using h2⟩,by dsimp only;omega,?_⟩;simp only[akC];exact ais [] [0,2]
  ·have h0:i=0:=by omega
   subst h0;have e0:l.getD 0 0=fY l 0:=by rw[fY,al7 rfl]
   have hz:IntKind.i64.wrap ((0:Int)+1)=1:=by decide
   rw[e0]at hg;refine Ff ?_;refine aZ hg hwd ?_;refine aG [1] (ha) evd (aq.mk' (by simp) evd) ?_;refine evg ?_;refine ah hz ?_;refine⟨(acc++bF (fY l 0).toNat,0+1),⟨hi,by simpa using h2⟩,by dsimp only;omega,?_⟩;simp only[akC];exact ais [] [0,2]
 ·have hi:i=l.length:=by simp at h;omega
  subst hi;rw[xF (by omega),amo]at h2;rw[<-h2];have h3:=ajG List.length h2;rw[akC]at h3;rw[<-h3];refine gon ?_;exact ahY [] [0,1]
end Go.Proofs.YtnjdpnfglgcjcaaGreat
namespace Go.Proofs.YtnjdpnfglgcjcaaGreat
open Go Go.FH Go.RowKit
theorem Xg{l:List Int}{n:Int}(h:cE l n=0):∀j,j<l.length->(j:Int)<=l.getD j 0
 |0,hj=>by have:=((iS h).2 0 hj).1;omega
 | j + 1, hj => by
   have h1:=Xg h j (by omega);have h2:=((iS h).2 (j+1) hj).2.2 (by omega);simp only[alz]at h2;omega
theorem C5{l:List Int}{n:Nat}(h:cE l n=0):l.length<=n:=by
 by_cases h0:l.length=0
 ·omega
 ·have h1:=Xg h (l.length-1) (by omega);have h2:=((iS h).2 (l.length-1) (by omega)).2.1;omega
theorem RG{l:List Int}(hv:cE l 1024=0):∀ (k i:Nat),l.length-i=k->(kM l i).length<=10*k
 |0,i,hk=>by rw[xF (by omega)];simp
 | k + 1, i, hk => by
   rw[pB (by omega),akC];have h1:=RG hv k (i+1) (by omega);have h2:=xU hv (j:=i) (by omega);have h3:=dT (n:=(fY l i).toNat) (by omega);omega
theorem Cr{l:List Int}(hv:cE l 1024=0):(sW l).length<=10250:=by
 have h1:=C5 (n:=1024) hv;have h2:=RG hv _ 0 rfl;have h3:=dT (n:=l.length) (by omega);rw[sW,akC];omega
def oW(x:Att)(l:List Int):List UInt8:=bF x.slot.toNat++x.root.1++dt x.target++sW l
structure U64(n:Int):Prop where
 lo:0<=n
 hi:n<18446744073709551616
theorem U64.len{n:Int}(h:U64 n):(bF n.toNat).length<=10:=dT (by have:=h.lo;have:=h.hi;omega)
theorem eK{c:Cp}(h:U64 c.ep):(dt c).length<=42:=by
 have:=h.len;have:=c.rt.2;rw[dt,akC];omega
theorem acm(x:Att)(l:List Int)(cl:Bool)(hx:x.vals=.sl 1 cl (aH .i64 l))(hl:l.length<=140737488355328)(h1:U64 x.slot)(h2:U64 x.target.ep):
 PC Tryz.prog 159 [.agg (cy x)] (.tup [.sl 1 false (bts (if cE l 1024=0 then oW x l else [])),.int .i64 (cE l 1024)]):=by
 refine PC.fact 6 ot (by simp) ⟨(fB x).2 (by rw[Att.Pure,hx];exact bE _ _),trivial⟩ ⟨iV _,trivial,trivial⟩ ?_;unfold gX;refine bd ?_;have hc:=tq l cl 1024 hl;have hg:x.good=true:=by rw[Att.good,hx];rfl
 by_cases hv:cE l 1024=0
 ·have hr:=x.root.2;have q1:=h1.len;have q2:=eK h2;have q3:=Cr hv;have p1:=(gL x.slot h1.lo h1.hi).nil (by omega);have p2:=(lS x.root).own (bF x.slot.toNat) (by omega);have p3:=(qI x.target h2.lo h2.hi).own (bF x.slot.toNat++x.root.1) (by rw[akC];omega);have p4:=Zu l cl hv (bF x.slot.toNat++x.root.1++dt x.target) (by simp only[akC];omega);rw[al7 hv];rw[hv]at hc ⊢;refine aZ hx hg ?_;refine am hc ?_;refine bk ?_;refine aQ [] (p1) (by simp) evd (bj.mk' (by simp) (by simp) evd) ?_;refine evg ?_;refine gon ?_;refine aQ [1] (p2) (by simp) evd (bj.mk' (by simp) (by simp) evd) ?_;refine evg ?_;refine gon ?_;refine aQ [2] (p3) (by simp) evd (bj.mk' (by simp) (by simp) evd) ?_;refine evg ?_;refine ah hx ?_;refine aQ [3] (p4) (by simp) evd (bj.mk' (by simp) (by simp) evd) ?_;refine evg ?_;refine gon ?_;exact ai
 ·have hv':(cE l 1024 != 0)=true:=by simpa using hv
  rw[al5 hv];refine aZ hx hg ?_;refine ahG hc ?_;refine ax ?_ (by(try simp only[go_sem,hv']);try exact evd);refine gon ?_;refine⟨_,rfl,.inr ⟨.tup [.sl 0 true [],.int .i64 (cE l 1024)],evd,⟨trivial,trivial,trivial⟩,Wk.tup ⟨Wk.empty _ _ _,Wk.refl _,trivial⟩⟩⟩
theorem SI(x:Att)(l:List Int)(cl:Bool)(hx:x.vals=.sl 1 cl (aH .i64 l))(hl:l.length<=140737488355328)(h1:U64 x.slot)(h2:U64 x.target.ep):
 PC Tryz.prog 171 [.agg (cy x)] (.tup [.sl 1 false (bts (if cE l 1024=0 then oW x l else [])),.int .i64 (cE l 1024)]):=by
 refine PC.fact 5 qW (by simp) ⟨(fB x).2 (by rw[Att.Pure,hx];exact bE _ _),trivial⟩ ⟨iV _,trivial,trivial⟩ ?_;unfold jk;refine bd ?_;have hc:=gl l cl 1024 hl;have hg:x.good=true:=by rw[Att.good,hx];rfl
 by_cases hv:cE l 1024=0
 ·have hr:=x.root.2;have q1:=h1.len;have q2:=eK h2;have q3:=Cr hv;have p1:=(dd x.slot h1.lo h1.hi).nil (by omega);have p2:=(dx x.root).own (bF x.slot.toNat) (by omega);have p3:=(kS x.target h2.lo h2.hi).own (bF x.slot.toNat++x.root.1) (by rw[akC];omega);have p4:=EE l cl hv (bF x.slot.toNat++x.root.1++dt x.target) (by simp only[akC];omega);rw[al7 hv];rw[hv]at hc ⊢;refine aZ hx hg ?_;refine am hc ?_;refine dQ ?_;refine ah hx ?_;refine aQ [] (p1) (by simp) evd (bj.mk' (by simp) (by simp) evd) ?_;refine evg ?_;refine gon ?_;refine aQ [1] (p2) (by simp) evd (bj.mk' (by simp) (by simp) evd) ?_;refine evg ?_;refine gon ?_;refine aQ [2] (p3) (by simp) evd (bj.mk' (by simp) (by simp) evd) ?_;refine evg ?_;refine ah hx ?_;refine aQ [3] (p4) (by simp) evd (bj.mk' (by simp) (by simp) evd) ?_;refine evg ?_;refine gon ?_;exact ai
 ·have hv':(cE l 1024 != 0)=true:=by simpa using hv
  rw[al5 hv];refine aZ hx hg ?_;refine ahG hc ?_;refine ax ?_ (by(try simp only[go_sem,hv']);try exact evd);refine gon ?_;refine⟨_,rfl,.inr ⟨.tup [.sl 0 true [],.int .i64 (cE l 1024)],evd,⟨trivial,trivial,trivial⟩,Wk.tup ⟨Wk.empty _ _ _,Wk.refl _,trivial⟩⟩⟩
def MU(x:Clm)(l:List Int):List UInt8:=bF x.src.toNat++bF x.tgt.toNat++x.root.1++sW l
structure Dj(x:Clm)(l:List Int)(cl:Bool):Prop where
 src:U64 x.src
 tgt:U64 x.tgt
 vals:x.vals=.sl 1 cl (aH .i64 l)
 len:l.length<=140737488355328
theorem Tp{x:Clm}{l:List Int}{cl:Bool}(h:Dj x l cl)(hv:cE l 1024=0):(MU x l).length<=10302:=by
 have:=h.src.len;have:=h.tgt.len;have:=Cr hv;have:=x.root.2;simp only[MU,akC];omega
theorem Dj.good{x:Clm}{l:List Int}{cl:Bool}(h:Dj x l cl):x.good=true:=by rw[Clm.good,h.vals];rfl
theorem Dj.pu{x:Clm}{l:List Int}{cl:Bool}(h:Dj x l cl):x.Pure:=by rw[Clm.Pure,h.vals];exact bE _ _
theorem Dj.map{x:Clm}{l:List Int}{cl:Bool}(h:Dj x l cl)(ρ:Nat->Nat):x.map (ren ρ)=x:=by
 have hv:=h.vals;obtain⟨s,t,r,v⟩:=x;simp only at hv;subst hv;simp only[Clm.map,ren,dG]
theorem ac0(x:Clm)(l:List Int)(cl:Bool)(hx:Dj x l cl)(hv:cE l 1024=0):Jv 358 [.agg (du x)] (MU x l):=by
 intro bs hb;refine ay.fact 5 Oz (by simp) ?_ (by simp);unfold IL;refine bd ?_;simp only[MU,akC,<-amd,<-am1]at hb ⊢;have hg:=hx.good;have hvs:=hx.vals;have p1:=(dd x.src hx.src.lo hx.src.hi).own bs (by omega);have p2:=(dd x.tgt hx.tgt.lo hx.tgt.hi).own (bs++bF x.src.toNat) (by simp only[akC];omega);have p3:=(dx x.root).own (bs++bF x.src.toNat++bF x.tgt.toNat) (by simp only[akC];omega);have p4:=EE l cl hv (bs++bF x.src.toNat++bF x.tgt.toNat++x.root.1) (by simp only[akC];omega);refine ah hg ?_;refine aQ [0] (p1) (by simp) evd (bj.mk' (by simp) (by simp) evd) ?_;refine evg ?_;refine gon ?_;refine aQ [2] (p2) (by simp) evd (bj.mk' (by simp) (by simp) evd) ?_;refine evg ?_;refine gon ?_;refine aQ [3] (p3) (by simp) evd (bj.mk' (by simp) (by simp) evd) ?_;refine evg ?_;refine ah hvs ?_;refine aQ [4] (p4) (by simp) evd (bj.mk' (by simp) (by simp) evd) ?_;refine evg ?_;refine gon ?_;exact ahY [] [0,5]
theorem acT(x:Clm)(l:List Int)(cl:Bool)(hx:Dj x l cl)(hv:cE l 1024=0):ay Tryz.prog 358 [.sl 0 true [],.agg (du x)] [] (.hs 1 0 0 (MU x l).length) [.vec 1 (bts (MU x l))]:=by
 refine ay.fact 5 Oz (by simp) ?_ (by simp);have hb:=Tp hx hv;unfold IL;refine bd ?_;simp only[MU,akC,<-amd,<-am1]at hb ⊢;have hg:=hx.good;have hvs:=hx.vals;have p1:=(dd x.src hx.src.lo hx.src.hi).nil (by omega);have p2:=(dd x.tgt hx.tgt.lo hx.tgt.hi).own (bF x.src.toNat) (by omega);have p3:=(dx x.root).own (bF x.src.toNat++bF x.tgt.toNat) (by simp only[akC];omega);have p4:=EE l cl hv (bF x.src.toNat++bF x.tgt.toNat++x.root.1) (by simp only[akC];omega);refine ah hg ?_;refine aQ [] (p1) (by simp) evd (bj.mk' (by simp) (by simp) evd) ?_;refine evg ?_;refine gon ?_;refine aQ [1] (p2) (by simp) evd (bj.mk' (by simp) (by simp) evd) ?_;refine evg ?_;refine gon ?_;refine aQ [2] (p3) (by simp) evd (bj.mk' (by simp) (by simp) evd) ?_;refine evg ?_;refine ah hvs ?_;refine aQ [3] (p4) (by simp) evd (bj.mk' (by simp) (by simp) evd) ?_;refine evg ?_;refine gon ?_;exact ahY [] [4]
def abi(l1 l2:List Int):Int:=if cE l1 1024=0 then cE l2 1024 else cE l1 1024
def aiY(x:Slg)(l1 l2:List Int):List UInt8:=MU x.fst l1++MU x.snd l2
theorem ahW(x:Slg)(l1 l2:List Int)(c1 c2:Bool)(h1:Dj x.fst l1 c1)(h2:Dj x.snd l2 c2):
 PC Tryz.prog 296 [.agg (d7 x)] (.tup [.sl 1 false (bts (if abi l1 l2=0 then aiY x l1 l2 else [])),.int .i64 (abi l1 l2)]):=by
 refine PC.fact 6 JS (by simp) ⟨(j7 x).2 ⟨h1.pu,h2.pu⟩,trivial⟩ ⟨iV _,trivial,trivial⟩ ?_;unfold EG;refine bd ?_;have hg:x.good=true:=by rw[Slg.good,h1.good,h2.good];rfl
 have hv1:=h1.vals;have hv2:=h2.vals;have m1:=h1.map;have m2:=h2.map;have k1:=gl l1 c1 1024 h1.len;have k2:=gl l2 c2 1024 h2.len;unfold abi;by_cases e1:cE l1 1024=0
 ·simp only[e1,amt]
  rw[e1]at k1;by_cases e2:cE l2 1024=0
  ·simp only[e2,amt];rw[e2]at k2;have q1:=Tp h1 e1;have q2:=Tp h2 e2;have p1:=acT x.fst l1 c1 h1 e1;have p2:=ac0 x.snd l2 c2 h2 e2 (MU x.fst l1) (by omega);refine dC hg hv1 hv2 ?_;refine am k1 ?_;refine dQ ?_;refine dC hg hv1 hv2 ?_;refine am k2 ?_;refine bk ?_;refine aQ [] (p1) (by simp) (by(try simp only[go_sem,m1]);try exact evd) (bj.mk' (by simp) (by simp) (by(try simp only[go_sem,m1]);try exact evd)) ?_;refine evg ?_;refine gon ?_;refine aQ [1] (p2) (by simp) (by(try simp only[go_sem,m2]);try exact evd) (bj.mk' (by simp) (by simp) (by(try simp only[go_sem,m2]);try exact evd)) ?_;refine evg ?_;refine gon ?_;exact ai
  ·have e2':(cE l2 1024 != 0)=true:=by simpa using e2
   simp only[e2,amj];refine dC hg hv1 hv2 ?_;refine am k1 ?_;refine dQ ?_;refine dC hg hv1 hv2 ?_;refine ahG k2 ?_;refine ax ?_ (by(try simp only[go_sem,e2']);try exact evd);refine gon ?_;refine⟨_,rfl,.inr ⟨.tup [.sl 0 true [],.int .i64 (cE l2 1024)],evd,⟨trivial,trivial,trivial⟩,Wk.tup ⟨Wk.empty _ _ _,Wk.refl _,trivial⟩⟩⟩
 ·have e1':(cE l1 1024 != 0)=true:=by simpa using e1
  simp only[e1,amj];refine dC hg hv1 hv2 ?_;refine ahG k1 ?_;refine ax ?_ (by(try simp only[go_sem,e1']);try exact evd);refine gon ?_;refine⟨_,rfl,.inr ⟨.tup [.sl 0 true [],.int .i64 (cE l1 1024)],evd,⟨trivial,trivial,trivial⟩,Wk.tup ⟨Wk.empty _ _ _,Wk.refl _,trivial⟩⟩⟩
def ajj(x:Vdt):List UInt8:=bF x.tag.toNat++bF x.kind.toNat++x.latest.1
def abA(x:Vdt):Prop:=x.kind<1\/4<x.kind
instance (x:Vdt):Decidable (abA x):=inferInstanceAs (Decidable (_\/_))
theorem aim(x:Vdt)(h1:U64 x.tag):
 PC Tryz.prog 297 [.agg (ek x)] (.tup [.sl 1 false (bts (if abA x then []else ajj x)),.int .i64 (if abA x then 3 else 0)]):=by
 refine PC.fact 4 KD (by simp) ⟨uI x,trivial⟩ ⟨iV _,trivial,trivial⟩ ?_;unfold Fh;refine bd ?_;by_cases hv:abA x
 ·rw[al7 hv,al7 hv]
  unfold abA at hv;by_cases ha:x.kind<1
  ·have ha':decide (x.kind<1)=true:=by simpa using ha
   refine aM ha' ?_;refine⟨_,rfl,.inr ⟨.tup [.sl 0 true [],.int .i64 3],evd,⟨trivial,trivial,trivial⟩,Wk.tup ⟨Wk.empty _ _ _,Wk.refl _,trivial⟩⟩⟩
  ·have ha':decide (x.kind<1)=false:=by simpa using ha
   have hb':decide (4<x.kind)=true:=by rw[amg];omega
   refine cH ha' hb' ?_;refine⟨_,rfl,.inr ⟨.tup [.sl 0 true [],.int .i64 3],evd,⟨trivial,trivial,trivial⟩,Wk.tup ⟨Wk.empty _ _ _,Wk.refl _,trivial⟩⟩⟩
 ·rw[al5 hv,al5 hv];unfold abA at hv;have ha':decide (x.kind<1)=false:=by rw[ami];omega
  have hb':decide (4<x.kind)=false:=by rw[ami];omega
  have hw:IntKind.u64.wrap x.kind=x.kind:=aN (by omega) (by omega);have hr:=x.latest.2;have q1:=h1.len;have q2:=dT (n:=x.kind.toNat) (by omega);have p1:=(dd x.tag h1.lo h1.hi).nil (by omega);have p2:=(dd x.kind (by omega) (by omega)).own (bF x.tag.toNat) (by omega);have p3:=(dx x.latest).own (bF x.tag.toNat++bF x.kind.toNat) (by rw[akC];omega);refine fp ha' hb' ?_;refine ah hw ?_;refine aQ [] (p1) (by simp) evd (bj.mk' (by simp) (by simp) evd) ?_;refine evg ?_;refine ah hw ?_;refine aQ [1] (p2) (by simp) evd (bj.mk' (by simp) (by simp) evd) ?_;refine evg ?_;refine gon ?_;refine aQ [2] (p3) (by simp) evd (bj.mk' (by simp) (by simp) evd) ?_;refine evg ?_;refine gon ?_;exact ai
def i9(x:Blk):List UInt8:=bF x.slot.toNat++x.root.1++x.parent.1++x.payload.1++(bT x.diff).1++(bT x.pdiff).1++dt x.just++dt x.fin++dt x.pul.j++dt x.pul.f++fW x.timely
structure NQ(x:Blk):Prop where
 slot:U64 x.slot
 just:U64 x.just.ep
 fin:U64 x.fin.ep
 j:U64 x.pul.j.ep
 f:U64 x.pul.f.ep
theorem Sq(x:Blk)(hx:NQ x):PC Tryz.prog 162 [.agg (aO x)] (.sl 1 false (bts (i9 x))):=by
 refine PC.fact 8 ux (by simp) ⟨gA x,trivial⟩ (iV _) ?_;unfold lk;refine bd ?_;have r1:=x.root.2;have r2:=x.parent.2;have r3:=x.payload.2;have r4:=(bT x.diff).2;have r5:=(bT x.pdiff).2;have q1:=hx.slot.len;have q2:=eK hx.just;have q3:=eK hx.fin;have q4:=eK hx.j;have q5:=eK hx.f;have q6:(fW x.timely).length<=1:=by cases x.timely<;>simp[fW]
 have p1:=(gL x.slot hx.slot.lo hx.slot.hi).nil (by omega);have p2:=(lS x.root).own (bF x.slot.toNat) (by omega);have p3:=(lS x.parent).own _ (by simp only[akC];omega:(bF x.slot.toNat++x.root.1).length+x.parent.1.length<=140737488355328);have p4:=(lS x.payload).own _ (by simp only[akC];omega:(bF x.slot.toNat++x.root.1++x.parent.1).length+x.payload.1.length<=140737488355328);have p5:=(ED x.diff).own _ (by simp only[akC];omega:(bF x.slot.toNat++x.root.1++x.parent.1++x.payload.1).length+(bT x.diff).1.length<=140737488355328);have p6:=(ED x.pdiff).own _ (by simp only[akC];omega:(bF x.slot.toNat++x.root.1++x.parent.1++x.payload.1++(bT x.diff).1).length+(bT x.pdiff).1.length<=140737488355328);have p7:=(qI x.just hx.just.lo hx.just.hi).own _ (by simp only[akC];omega:(bF x.slot.toNat++x.root.1++x.parent.1++x.payload.1++(bT x.diff).1++(bT x.pdiff).1).length+(dt x.just).length<=140737488355328);have p8:=(qI x.fin hx.fin.lo hx.fin.hi).own _ (by simp only[akC];omega:(bF x.slot.toNat++x.root.1++x.parent.1++x.payload.1++(bT x.diff).1++(bT x.pdiff).1++dt x.just).length+(dt x.fin).length<=140737488355328);have p9:=(qI x.pul.j hx.j.lo hx.j.hi).own _ (by simp only[akC];omega:(bF x.slot.toNat++x.root.1++x.parent.1++x.payload.1++(bT x.diff).1++(bT x.pdiff).1++dt x.just++dt x.fin).length+(dt x.pul.j).length<=140737488355328);have p10:=(qI x.pul.f hx.f.lo hx.f.hi).own _ (by simp only[akC];omega:(bF x.slot.toNat++x.root.1++x.parent.1++x.payload.1++(bT x.diff).1++(bT x.pdiff).1++dt x.just++dt x.fin++dt x.pul.j).length+(dt x.pul.f).length<=140737488355328);have p11:=(Ni x.timely).own _ (by simp only[akC];omega:(bF x.slot.toNat++x.root.1++x.parent.1++x.payload.1++(bT x.diff).1++(bT x.pdiff).1++dt x.just++dt x.fin++dt x.pul.j++dt x.pul.f).length+(fW x.timely).length<=140737488355328);refine gon ?_;refine aG [] (p1) evd (aq.mk' (by simp) evd) ?_;refine evg ?_;refine gon ?_;refine lV 4 (gY ?_);refine aX ?_;refine aG [1] (p2) evd (aq.mk' (by simp) evd) ?_;refine evg ?_;refine gon ?_;refine gY ?_;refine aX ?_;refine aG [3] (p3) evd (aq.mk' (by simp) evd) ?_;refine evg ?_;refine gon ?_;refine gY ?_;refine aX ?_;refine aG [5] (p4) evd (aq.mk' (by simp) evd) ?_;refine evg ?_;refine gon ?_;refine gY ?_;refine bk ?_;refine aQ [7] (p5) (by simp) evd (bj.mk' (by simp) (by simp) evd) ?_;refine evg ?_;refine gon ?_;refine aQ [8] (p6) (by simp) evd (bj.mk' (by simp) (by simp) evd) ?_;refine evg ?_;refine gon ?_;refine lV 5 (gY ?_);refine aX ?_;refine aG [9] (p7) evd (aq.mk' (by simp) evd) ?_;refine evg ?_;refine gon ?_;refine gY ?_;refine aX ?_;refine aG [11] (p8) evd (aq.mk' (by simp) evd) ?_;refine evg ?_;refine gon ?_;refine gY ?_;refine aX ?_;refine aG [13] (p9) evd (aq.mk' (by simp) evd) ?_;refine evg ?_;refine gon ?_;refine gY ?_;refine aX ?_;refine aG [15] (p10) evd (aq.mk' (by simp) evd) ?_;refine evg ?_;refine gon ?_;refine gY ?_;refine bk ?_;refine aG [17] (p11) evd (aq.mk' (by simp) evd) ?_;refine evg ?_;refine gon ?_;exact ai
theorem ahS(x:Blk)(hx:NQ x):PC Tryz.prog 173 [.sl 0 true [],.agg (aO x)] (.sl 1 false (bts (i9 x))):=by
 refine PC.fact 5 BR (by simp) ⟨trivial,gA x,trivial⟩ (iV _) ?_;unfold sE;refine bd ?_;have r1:=x.root.2;have r2:=x.parent.2;have r3:=x.payload.2;have r4:=(bT x.diff).2;have r5:=(bT x.pdiff).2;have q1:=hx.slot.len;have q2:=eK hx.just;have q3:=eK hx.fin;have q4:=eK hx.j;have q5:=eK hx.f;have q6:(fW x.timely).length<=1:=by cases x.timely<;>simp[fW]
 have p1:=(dd x.slot hx.slot.lo hx.slot.hi).nil (by omega);have p2:=(dx x.root).own (bF x.slot.toNat) (by omega);have p3:=(dx x.parent).own _ (by simp only[akC];omega:(bF x.slot.toNat++x.root.1).length+x.parent.1.length<=140737488355328);have p4:=(dx x.payload).own _ (by simp only[akC];omega:(bF x.slot.toNat++x.root.1++x.parent.1).length+x.payload.1.length<=140737488355328);have p5:=(sj x.diff).own _ (by simp only[akC];omega:(bF x.slot.toNat++x.root.1++x.parent.1++x.payload.1).length+(bT x.diff).1.length<=140737488355328);have p6:=(sj x.pdiff).own _ (by simp only[akC];omega:(bF x.slot.toNat++x.root.1++x.parent.1++x.payload.1++(bT x.diff).1).length+(bT x.pdiff).1.length<=140737488355328);have p7:=(kS x.just hx.just.lo hx.just.hi).own _ (by simp only[akC];omega:(bF x.slot.toNat++x.root.1++x.parent.1++x.payload.1++(bT x.diff).1++(bT x.pdiff).1).length+(dt x.just).length<=140737488355328);have p8:=(kS x.fin hx.fin.lo hx.fin.hi).own _ (by simp only[akC];omega:(bF x.slot.toNat++x.root.1++x.parent.1++x.payload.1++(bT x.diff).1++(bT x.pdiff).1++dt x.just).length+(dt x.fin).length<=140737488355328);have p9:=(kS x.pul.j hx.j.lo hx.j.hi).own _ (by simp only[akC];omega:(bF x.slot.toNat++x.root.1++x.parent.1++x.payload.1++(bT x.diff).1++(bT x.pdiff).1++dt x.just++dt x.fin).length+(dt x.pul.j).length<=140737488355328);have p10:=(kS x.pul.f hx.f.lo hx.f.hi).own _ (by simp only[akC];omega:(bF x.slot.toNat++x.root.1++x.parent.1++x.payload.1++(bT x.diff).1++(bT x.pdiff).1++dt x.just++dt x.fin++dt x.pul.j).length+(dt x.pul.f).length<=140737488355328);have p11:=(jT x.timely).own _ (by simp only[akC];omega:(bF x.slot.toNat++x.root.1++x.parent.1++x.payload.1++(bT x.diff).1++(bT x.pdiff).1++dt x.just++dt x.fin++dt x.pul.j++dt x.pul.f).length+(fW x.timely).length<=140737488355328);refine gon ?_;refine aQ [] (p1) (by simp) evd (bj.mk' (by simp) (by simp) evd) ?_;refine evg ?_;refine gon ?_;refine aQ [1] (p2) (by simp) evd (bj.mk' (by simp) (by simp) evd) ?_;refine evg ?_;refine gon ?_;refine aQ [2] (p3) (by simp) evd (bj.mk' (by simp) (by simp) evd) ?_;refine evg ?_;refine gon ?_;refine aQ [3] (p4) (by simp) evd (bj.mk' (by simp) (by simp) evd) ?_;refine evg ?_;refine gon ?_;refine aQ [4] (p5) (by simp) evd (bj.mk' (by simp) (by simp) evd) ?_;refine evg ?_;refine gon ?_;refine aQ [5] (p6) (by simp) evd (bj.mk' (by simp) (by simp) evd) ?_;refine evg ?_;refine gon ?_;refine aQ [6] (p7) (by simp) evd (bj.mk' (by simp) (by simp) evd) ?_;refine evg ?_;refine gon ?_;refine aQ [7] (p8) (by simp) evd (bj.mk' (by simp) (by simp) evd) ?_;refine evg ?_;refine gon ?_;refine aQ [8] (p9) (by simp) evd (bj.mk' (by simp) (by simp) evd) ?_;refine evg ?_;refine gon ?_;refine aQ [9] (p10) (by simp) evd (bj.mk' (by simp) (by simp) evd) ?_;refine evg ?_;refine gon ?_;refine aQ [10] (p11) (by simp) evd (bj.mk' (by simp) (by simp) evd) ?_;refine evg ?_;refine gon ?_;exact ai
structure GR(x:Tab)(l:List Int)(cl:Bool):Prop where
 ep:U64 x.cp.ep
 bals:x.bals=.sl 1 cl (aH .u64 l)
 all:∀n∈l,U64 n
 len:l.length<=140737488355328
def oK(x:Tab)(l:List Int):List UInt8:=dt x.cp++bF l.length++wx l
theorem Gy:∀ {l:List Int},(∀n∈l,U64 n)->(wx l).length<=10*l.length
 | [],_=>by simp[wx]
 | n :: l, h => by
   have h1:=Gy (l:=l) (fun m hm=>h m (by simp[hm]));have h2:=(h n (by simp)).len;simp only[wx,akC,al8];omega
theorem MR{l:List Int}{i:Nat}(h:i<l.length):wx (l.drop i)=bF (l.getD i 0).toNat++wx (l.drop (i+1)):=by
 rw[amG h,wx,alt,al6 h];rfl
theorem GR.good{x:Tab}{l:List Int}{cl:Bool}(h:GR x l cl):x.good=true:=by rw[Tab.good,h.bals];rfl
theorem GR.pu{x:Tab}{l:List Int}{cl:Bool}(h:GR x l cl):x.Pure:=by rw[Tab.Pure,h.bals];exact bE _ _
theorem GR.getD{x:Tab}{l:List Int}{cl:Bool}(h:GR x l cl){i:Nat}(hi:i<l.length):U64 (l.getD i 0):=by
 rw[alt,al6 hi];exact h.all _ (amS hi)
theorem acn(x:Tab)(l:List Int)(cl:Bool)(hx:GR x l cl):
 PC Tryz.prog 163 [.agg (bS x)] (.tup [.sl 1 false (bts (if 1024<l.length then []else oK x l)),.int .i64 (if 1024<l.length then 3 else 0)]):=by
 refine PC.fact 23 uy (by simp) ⟨(eP x).2 hx.pu,trivial⟩ ⟨iV _,trivial,trivial⟩ ?_;unfold lm;refine bd ?_;have hg:=hx.good;have hv:=hx.bals;by_cases h0:1024<l.length
 ·have h0':decide ((1024:Int)<(l.length:Int))=true:=by rw[amg];omega
  rw[al7 h0,al7 h0];refine aZ hg hv ?_;refine ax ?_ (by(try simp only[go_sem,h0']);try exact evd);refine gon ?_;refine⟨_,rfl,.inr ⟨.tup [.sl 0 true [],.int .i64 3],evd,⟨trivial,trivial,trivial⟩,Wk.tup ⟨Wk.empty _ _ _,Wk.refl _,trivial⟩⟩⟩
 have h0':decide ((1024:Int)<(l.length:Int))=false:=by rw[ami];omega
 rw[al5 h0,al5 h0];have q1:=eK hx.ep;have q2:=dT (n:=l.length) (by omega);have q3:=Gy hx.all;have hw:IntKind.u64.wrap (l.length:Int)=l.length:=aN (by omega) (by omega)
 have hm:∀ρ:Nat->Nat,x.map (ren ρ)=x:=by
  intro ρ;obtain⟨c,v⟩:=x;simp only at hv;subst hv;simp only[Tab.map,ren,dG]
 have hmf:∀ (σ:St) (zs:List Nat),x.map (fz σ zs)=x:=by
  intro σ zs;obtain⟨c,v⟩:=x;simp only at hv;subst hv;simp only[Tab.map,fz,ew]
 have p1:=(qI x.cp hx.ep.lo hx.ep.hi).nil (by omega);have p2:=(gL (l.length:Int) (by omega) (by omega)).own (dt x.cp) (by rw[amw];omega);rw[amw]at p2;refine aZ hg hv ?_;refine aB ?_ (by(try simp only[go_sem,h0']);try exact evd);refine dC hg hv hw ?_;refine aQ [] (p1) (by simp) evd (bj.mk' (by simp) (by simp) evd) ?_;refine evg ?_;refine dC hg hv hw ?_;refine aQ [1] (p2) (by simp) evd (bj.mk' (by simp) (by simp) evd) ?_;refine evg ?_;refine aZ hg hv ?_
 refine eZ (fun x':List UInt8×Nat=>⟨23,[.agg (bS x),.ptr 0 0,.sl 0 true [],.int .i64 0,.hs 1 1 0 x'.1.length,.dead,.dead,.dead,.dead,.dead,.dead,.dead,.dead,.dead,.dead,.dead,.dead,.dead,.dead,.dead,.sl 1 cl (aH .u64 l),.int .i64 l.length,.int .i64 x'.2],[]⟩)
  (fun x'=>[.var (bS x),.vec 1 (bts x'.1)]) (fun x'=>l.length-x'.2) (fun x'=>x'.2<=l.length/\x'.1++wx (l.drop x'.2)=oK x l) (dt x.cp++bF l.length,0) ⟨by simp,by simp[oK]⟩ ?_ ?_
 ·simp only[akC,dt,<-amd];refine GC.mk' [] [0,2] (by simp) rfl (by simp) (by simp) (by(try simp only[go_sem,hm,hmf]);try exact evd) (by(try simp only[go_sem,hm,hmf]);try exact evd)
 rintro⟨acc,i⟩ ⟨h1,h2⟩;dsimp only at h1 h2 ⊢;have hal:=ajG List.length h2;simp only[oK,akC]at hal;refine aZ hg hv ?_;refine aY evd (fun h=>?_) (fun h=>?_)
 ·have hi:i<l.length:=by simpa using h
  have hgd:=fF (k:=.u64) hi;have hu:=hx.getD hi;rw[MR hi]at h2 hal;rw[akC]at hal;have ha:=(gL (l.getD i 0) hu.lo hu.hi).own acc (by omega);have hwi:=af hi (by omega);refine dC hgd hg hv ?_;refine aG [1] (ha) evd (aq.mk' (by simp) evd) ?_;refine evg ?_;refine ah hwi ?_;refine⟨(acc++bF (l.getD i 0).toNat,i+1),⟨hi,by simpa using h2⟩,by dsimp only;omega,?_⟩;simp only[akC];refine GC.mk' [] [0,2] (by simp) rfl (by simp) (by simp) (by(try simp only[go_sem,hm,hmf]);try exact evd) (by(try simp only[go_sem,hm,hmf]);try exact evd)
 ·have hi:i=l.length:=by simp at h;omega
  subst hi;rw[amB,wx,amo]at h2;rw[<-h2];refine gon ?_;exact ai
theorem SJ(x:Tab)(l:List Int)(cl:Bool)(hx:GR x l cl):
 PC Tryz.prog 174 [.agg (bS x)] (.tup [.sl 1 false (bts (if 1024<l.length then []else oK x l)),.int .i64 (if 1024<l.length then 3 else 0)]):=by
 refine PC.fact 6 zN (by simp) ⟨(eP x).2 hx.pu,trivial⟩ ⟨iV _,trivial,trivial⟩ ?_;unfold iU;refine bd ?_;have hg:=hx.good;have hv:=hx.bals;by_cases h0:1024<l.length
 ·have h0':decide ((1024:Int)<(l.length:Int))=true:=by rw[amg];omega
  rw[al7 h0,al7 h0];refine aZ hg hv ?_;refine ax ?_ (by(try simp only[go_sem,h0']);try exact evd);refine gon ?_;refine⟨_,rfl,.inr ⟨.tup [.sl 0 true [],.int .i64 3],evd,⟨trivial,trivial,trivial⟩,Wk.tup ⟨Wk.empty _ _ _,Wk.refl _,trivial⟩⟩⟩
 have h0':decide ((1024:Int)<(l.length:Int))=false:=by rw[ami];omega
 rw[al5 h0,al5 h0];have q1:=eK hx.ep;have q2:=dT (n:=l.length) (by omega);have q3:=Gy hx.all;have hw:IntKind.u64.wrap (l.length:Int)=l.length:=aN (by omega) (by omega)
 have hm:∀ρ:Nat->Nat,x.map (ren ρ)=x:=by
  intro ρ;obtain⟨c,v⟩:=x;simp only at hv;subst hv;simp only[Tab.map,ren,dG]
 have hmf:∀ (σ:St) (zs:List Nat),x.map (fz σ zs)=x:=by
  intro σ zs;obtain⟨c,v⟩:=x;simp only at hv;subst hv;simp only[Tab.map,fz,ew]
 have hr:=x.cp.rt.2;have q4:=hx.ep.len;have p1:=(dd x.cp.ep hx.ep.lo hx.ep.hi).nil (by omega);have p2:=(dx x.cp.rt).own (bF x.cp.ep.toNat) (by omega);have p3:=(dd (l.length:Int) (by omega) (by omega)).own (bF x.cp.ep.toNat++x.cp.rt.1) (by rw[amw,akC];omega);rw[amw]at p3;refine aZ hg hv ?_;refine aB ?_ (by(try simp only[go_sem,h0']);try exact evd);refine dC hg hv hw ?_;refine aQ [] (p1) (by simp) evd (bj.mk' (by simp) (by simp) evd) ?_;refine evg ?_;refine dC hg hv hw ?_;refine aQ [1] (p2) (by simp) evd (bj.mk' (by simp) (by simp) evd) ?_;refine evg ?_;refine dC hg hv hw ?_;refine aQ [2] (p3) (by simp) evd (bj.mk' (by simp) (by simp) evd) ?_;refine evg ?_;refine aZ hg hv ?_
 refine eZ (fun x':List UInt8×Nat=>⟨6,[.agg (bS x),.ptr 0 0,.sl 0 true [],.int .i64 0,.hs 1 1 0 x'.1.length,.int .i64 x'.2],[]⟩)
  (fun x'=>[.var (bS x),.vec 1 (bts x'.1)]) (fun x'=>l.length-x'.2) (fun x'=>x'.2<=l.length/\x'.1++wx (l.drop x'.2)=oK x l) (dt x.cp++bF l.length,0) ⟨by simp,by simp[oK]⟩ ?_ ?_
 ·simp only[akC,dt,<-amd];refine GC.mk' [] [0,3] (by simp) rfl (by simp) (by simp) (by(try simp only[go_sem,hm,hmf]);try exact evd) (by(try simp only[go_sem,hm,hmf]);try exact evd)
 rintro⟨acc,i⟩ ⟨h1,h2⟩;dsimp only at h1 h2 ⊢;have hal:=ajG List.length h2;simp only[oK,akC]at hal;refine aZ hg hv ?_;refine aY evd (fun h=>?_) (fun h=>?_)
 ·have hi:i<l.length:=by simpa using h
  have hgd:=fF (k:=.u64) hi;have hu:=hx.getD hi;rw[MR hi]at h2 hal;rw[akC]at hal;have ha:=(dd (l.getD i 0) hu.lo hu.hi).own acc (by omega);have hwi:=af hi (by omega);refine dC hgd hg hv ?_;refine aG [1] (ha) evd (aq.mk' (by simp) evd) ?_;refine evg ?_;refine ah hwi ?_;refine⟨(acc++bF (l.getD i 0).toNat,i+1),⟨hi,by simpa using h2⟩,by dsimp only;omega,?_⟩;simp only[akC];refine GC.mk' [] [0,2] (by simp) rfl (by simp) (by simp) (by(try simp only[go_sem,hm,hmf]);try exact evd) (by(try simp only[go_sem,hm,hmf]);try exact evd)
 ·have hi:i=l.length:=by simp at h;omega
  subst hi;rw[amB,wx,amo]at h2;rw[<-h2];refine gon ?_;exact ai
end Go.Proofs.YtnjdpnfglgcjcaaGreat
