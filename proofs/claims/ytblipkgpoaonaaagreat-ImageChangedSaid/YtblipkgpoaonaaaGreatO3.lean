/- Joined. -/
import Derived.Test.YtblipkgpoaonaaaGreatO2
import Derived.Test.YtblipkgpoaonaaaGreatR1
import Derived.Test.YtblipkgpoaonaaaGreatO1
import Derived.Test.YtblipkgpoaonaaaGreatV1
import Derived.Test.YtblipkgpoaonaaaGreatV7
set_option linter.unusedVariables false
set_option linter.unusedSimpArgs false
set_option maxRecDepth 8000
set_option maxHeartbeats 4000000
namespace Go.Proofs.YtblipkgpoaonaaaGreat
open Go Go.FH Go.RowKit
def Wr(f:FuncId)(xs:List AV)(e:List UInt8):Prop:=∀bs:List UInt8,bs.length+e.length<=140737488355328->ay Tryz.prog f (.ptr 0 0::xs) [.var [.hs 1 1 0 bs.length],.vec 1 (bts bs)] (.tup []) [.var [.hs 1 2 0 (bs++e).length],.gone,.vec 1 (bts (bs++e))]
theorem Wr.st{f:FuncId}{xs:List AV}{e bs rest W:List UInt8}(h:Wr f xs e)(hB:bs++(e++rest)=W)(hW:W.length<=140737488355328):∃b,b++rest=W/\ay Tryz.prog f (.ptr 0 0::xs) [.var [.hs 1 1 0 bs.length],.vec 1 (bts bs)] (.tup []) [.var [.hs 1 2 0 b.length],.gone,.vec 1 (bts b)]:=
 ⟨bs++e,by rw[amd];exact hB,h bs (by have:=ajG List.length hB;simp only[akC]at this;omega)⟩
def wrS(i:Nat)(b:List UInt8):St:=match i with
 |0=>[.var [.hs 1 1 0 b.length],.vec 1 (bts b)]
 |_+1=>[.var [.hs 1 2 0 b.length],.gone,.vec 1 (bts b)]
theorem WW{n:Int}(h:U64 n):App 132 [.int .u64 n] (iE n):=gL n h.lo h.hi
def bls(l:List Bool):List (List AV):=l.map fun b=>[.bool b]
theorem Uy(l:List Bool):(bls l).length=l.length:=by simp[bls]
theorem agb{l:List Bool}{i:Nat}(h:i<l.length):(bls l).getD i []=[.bool (l.getD i false)]:=by simp[bls,alt,h]
theorem Qr(l:List Bool):fy (bls l):=by
 rw[mf];intro x hx;obtain⟨p,_,rfl⟩:=amV.1 hx;exact⟨trivial,trivial⟩
theorem Zf(ρ:Nat->Nat)(l:List Bool):bH ρ (bls l)=bls l:=(Qr l).ren ρ
theorem aa8(σ:St)(zs:List Nat)(l:List Bool):dh σ zs (bls l)=bls l:=(Qr l).fz σ zs
attribute [local go_sem] Uy Zf aa8
theorem Xl(l:List Int)(cl:Bool)(hl:l≠[])(hu:∀n∈l,U64 n)(hz:l.length<=1099511627776):Wr 94 [.sl 1 cl (aH .u64 l)] (l.flatMap iE):=by
 intro bs hb;rw[<-akC]at hb;obtain⟨W,hW⟩:∃W,W=bs++l.flatMap iE:=⟨_,rfl⟩
 rw[<-hW]at hb ⊢;have h0:bs++(l.drop 0).flatMap iE=W:=hW.symm;clear hW;have hpos:=ajX.2 hl;refine dS 9 ?_;refine gon ?_;refine az (fun x:Nat×List UInt8=>[(8,.int .i64 x.1)]) (fun x=>wrS x.1 x.2) (fun x=>l.length-x.1) (fun x=>x.1<=l.length/\x.2++(l.drop x.1).flatMap iE=W) (0,bs) ⟨amc _,h0⟩ ?_ ?_
 ·unfold wrS;exact ais [] [0,1]
 clear h0;rintro⟨i,b⟩ ⟨hi,hB⟩;dsimp only at hi hB ⊢;refine dp ?_;by_cases h1:i<l.length
 ·have e1:=inT h1
  have hw:=af h1 NB;have hgd:(aH .u64 l).getD i []=[.int .u64 (l.getD i 0)]:=gdn (k:=.u64) h1;have hm:l.getD i 0∈l:=bK _ h1;rw[dM iE l 0 h1]at hB;obtain⟨b1,g1,p1⟩:=(WW (hu _ hm)).st hB hb;generalize l.getD i 0=n at *;clear hB;cases i with
  | zero =>
    have e0:decide ((0:Int)<((l.length:Nat):Int))=true:=au NB;unfold wrS;refine mQ e1 e0 ?_;refine ah hgd ?_;refine oce [1] p1 ?_;refine ah hw ?_;refine⟨(0+1,b1),⟨h1,g1⟩,by dsimp only;omega,?_⟩;exact ais [] [0,1,2]
  | succ i =>
    unfold wrS;refine bw e1 ?_;refine ah hgd ?_;refine oce [2] p1 ?_;refine ah hw ?_;refine⟨((i+1)+1,b1),⟨h1,g1⟩,by dsimp only;omega,?_⟩;exact ais [] [0,1,3]
 ·obtain rfl:i=l.length:=NB
  have e1:=inF (l.length);rw[amB,amU,amo]at hB;subst hB;obtain⟨m,hm⟩:∃m,l.length=m+1:=⟨l.length-1,NB⟩
  unfold wrS;rw[hm];dsimp only;rw[<-hm];refine aF e1 ?_;exact ahY [] [0,1,2]
theorem ac9(l:List Bool)(cl:Bool)(hl:l≠[])(hu:True)(hz:l.length<=1099511627776):Wr 95 [.sl 1 cl (bls l)] (l.flatMap fW):=by
 intro bs hb;rw[<-akC]at hb;obtain⟨W,hW⟩:∃W,W=bs++l.flatMap fW:=⟨_,rfl⟩
 rw[<-hW]at hb ⊢;have h0:bs++(l.drop 0).flatMap fW=W:=hW.symm;clear hW;have hpos:=ajX.2 hl;refine dS 9 ?_;refine gon ?_;refine az (fun x:Nat×List UInt8=>[(8,.int .i64 x.1)]) (fun x=>wrS x.1 x.2) (fun x=>l.length-x.1) (fun x=>x.1<=l.length/\x.2++(l.drop x.1).flatMap fW=W) (0,bs) ⟨amc _,h0⟩ ?_ ?_
 ·unfold wrS;exact ais [] [0,1]
 clear h0;rintro⟨i,b⟩ ⟨hi,hB⟩;dsimp only at hi hB ⊢;refine dp ?_;by_cases h1:i<l.length
 ·have e1:=inT h1
  have hw:=af h1 NB;have hgd:(bls l).getD i []=[.bool (l.getD i false)]:=agb h1;have hm:l.getD i false∈l:=bK _ h1;rw[dM fW l false h1]at hB;obtain⟨b1,g1,p1⟩:=(Ni (l.getD i false)).st hB hb;generalize l.getD i false=n at *;clear hB;cases i with
  | zero =>
    have e0:decide ((0:Int)<((l.length:Nat):Int))=true:=au NB;unfold wrS;refine mQ e1 e0 ?_;refine ah hgd ?_;refine oce [1] p1 ?_;refine ah hw ?_;refine⟨(0+1,b1),⟨h1,g1⟩,by dsimp only;omega,?_⟩;exact ais [] [0,1,2]
  | succ i =>
    unfold wrS;refine bw e1 ?_;refine ah hgd ?_;refine oce [2] p1 ?_;refine ah hw ?_;refine⟨((i+1)+1,b1),⟨h1,g1⟩,by dsimp only;omega,?_⟩;exact ais [] [0,1,3]
 ·obtain rfl:i=l.length:=NB
  have e1:=inF (l.length);rw[amB,amU,amo]at hB;subst hB;obtain⟨m,hm⟩:∃m,l.length=m+1:=⟨l.length-1,NB⟩
  unfold wrS;rw[hm];dsimp only;rw[<-hm];refine aF e1 ?_;exact ahY [] [0,1,2]
theorem adf(l:List Rt)(cl:Bool)(hl:l≠[])(hu:True)(hz:l.length<=1099511627776):Wr 96 [.sl 32 cl (rows rtc l)] (l.flatMap (·.1)):=by
 intro bs hb;rw[<-akC]at hb;obtain⟨W,hW⟩:∃W,W=bs++l.flatMap (·.1):=⟨_,rfl⟩
 rw[<-hW]at hb ⊢;have h0:bs++(l.drop 0).flatMap (·.1)=W:=hW.symm;clear hW;have hpos:=ajX.2 hl;refine dS 9 ?_;refine gon ?_;refine az (fun x:Nat×List UInt8=>[(8,.int .i64 x.1)]) (fun x=>wrS x.1 x.2) (fun x=>l.length-x.1) (fun x=>x.1<=l.length/\x.2++(l.drop x.1).flatMap (·.1)=W) (0,bs) ⟨amc _,h0⟩ ?_ ?_
 ·unfold wrS;exact ais [] [0,1]
 clear h0;rintro⟨i,b⟩ ⟨hi,hB⟩;dsimp only at hi hB ⊢;refine dp ?_;by_cases h1:i<l.length
 ·have e1:=inT h1
  have hw:=af h1 NB;have hgd:(rows rtc l).getD i []=rtc (l.getD i rt0):=aS (f:=rtc) rt0 h1;have hm:l.getD i rt0∈l:=bK _ h1;rw[dM (·.1) l rt0 h1]at hB;obtain⟨b1,g1,p1⟩:=(lS (l.getD i rt0)).st hB hb;generalize l.getD i rt0=n at *;clear hB;cases i with
  | zero =>
    have e0:decide ((0:Int)<((l.length:Nat):Int))=true:=au NB;unfold wrS;refine mQ e1 e0 ?_;refine ah hgd ?_;refine dse [1] p1 ?_;refine ah hw ?_;refine⟨(0+1,b1),⟨h1,g1⟩,by dsimp only;omega,?_⟩;exact ais [] [0,1,3]
  | succ i =>
    unfold wrS;refine bw e1 ?_;refine ah hgd ?_;refine dse [2] p1 ?_;refine ah hw ?_;refine⟨((i+1)+1,b1),⟨h1,g1⟩,by dsimp only;omega,?_⟩;exact ais [] [0,1,4]
 ·obtain rfl:i=l.length:=NB
  have e1:=inF (l.length);rw[amB,amU,amo]at hB;subst hB;obtain⟨m,hm⟩:∃m,l.length=m+1:=⟨l.length-1,NB⟩
  unfold wrS;rw[hm];dsimp only;rw[<-hm];refine aF e1 ?_;exact ahY [] [0,1,2]
theorem agM(e:List UInt8)(cl:Bool)(he:e.length<=140737488355328):Wr 192 [.sl 1 cl (bts e)] e:=by
 intro bs hb;rw[<-akC]at hb;refine dS 2 ?_;obtain⟨W,hW⟩:∃W,bs++e=W:=⟨_,rfl⟩
 have hl:bs.length+e.length=W.length:=by rw[<-hW,akC]
 rw[hW]at hb ⊢;refine aZ hW hl ?_;exact ahY [] [0,1,2]
theorem tu(n:Int)(h:fR n):Wr 187 [.int .i64 n] (iE n):=by
 intro bs hb;have hw:IntKind.u64.wrap n=n:=aN h.1 (by have:=h.2;omega);have p:=Xl [n] true NC (fun m hm=>by rw[amn.1 hm];exact⟨h.1,by have:=h.2;omega⟩) (by simp only[al8,ama];omega);rw[show [n].flatMap iE=iE n by simp,show aH .u64 [n]=[[.int .u64 n]]from rfl]at p;have p1:=p bs hb;refine dS 2 ?_;refine ah hw ?_;refine ocg [0,1] p1 ?_;exact ahY [] [0,1,2]
theorem aai(n:Int)(h:U64 n):ay Tryz.prog 94 [.ptr 0 0,.sl 1 true [[.int .u64 n]]] [.var [.sl 0 true []]] (.tup []) [.var [.hs 1 1 0 (iE n).length],.vec 1 (bts (iE n))]:=by
 have hl:=h.len;have p1:=(WW h).nil (by unfold iE;omega);refine dS 9 ?_;refine gon ?_;refine lV 2 (gY ?_);refine aX ?_;refine ocg [] p1 ?_;refine gY ?_;refine bk ?_;exact ahY [] [0,1]
theorem VC(n:Int)(h:fR n):ay Tryz.prog 187 [.ptr 0 0,.int .i64 n] [.var [.sl 0 true []]] (.tup []) [.var [.hs 1 1 0 (iE n).length],.vec 1 (bts (iE n))]:=by
 have hw:IntKind.u64.wrap n=n:=aN h.1 (by have:=h.2;omega);have p1:=aai n ⟨h.1,by have:=h.2;omega⟩;refine dS 2 ?_;refine ah hw ?_;refine ocg [0] p1 ?_;exact ahY [] [0,1]
theorem nh(n:Nat)(h:n<=1099511627776):Wr 187 [.int .i64 (n:Int)] (br n):=by
 have:=tu (n:Int) ⟨NB,NB⟩;rwa [<-abp]at this
theorem TB(n:Int)(h:U64 n):Wr 94 [.sl 1 true [[.int .u64 n]]] (iE n):=by
 have p:=Xl [n] true NC (fun m hm=>by rw[amn.1 hm];exact h) (by simp only[al8,ama];omega);rwa [show [n].flatMap iE=iE n by simp,show aH .u64 [n]=[[.int .u64 n]]from rfl]at p
theorem ahq(a b c:Int)(h1:U64 a)(h2:U64 b)(h3:U64 c):Wr 94 [.sl 1 true [[.int .u64 a],[.int .u64 b],[.int .u64 c]]] (iE a++(iE b++iE c)):=by
 have p:=Xl [a,b,c] true NC (fun m hm=>by
  rcases ajo.1 hm with rfl|hm
  ·exact h1
  ·rcases ajo.1 hm with rfl|hm
   ·exact h2
   ·rw[amn.1 hm];exact h3) (by simp only[al8,ama];omega)
 rwa [show [a,b,c].flatMap iE=iE a++(iE b++iE c)by simp,show aH .u64 [a,b,c]=[[.int .u64 a],[.int .u64 b],[.int .u64 c]]from rfl]at p
theorem ac7(x:Bool):Wr 95 [.sl 1 true [[.bool x]]] (fW x):=by
 have p:=ac9 [x] true NC trivial (by simp only[al8,ama];omega);rwa [show [x].flatMap fW=fW x by simp,show bls [x]=[[.bool x]]from rfl]at p
theorem ac8(x y:Bool):Wr 95 [.sl 1 true [[.bool x],[.bool y]]] (fW x++fW y):=by
 have p:=ac9 [x,y] true NC trivial (by simp only[al8,ama];omega);rwa [show [x,y].flatMap fW=fW x++fW y by simp,show bls [x,y]=[[.bool x],[.bool y]]from rfl]at p
theorem AO(r:Rt):Wr 96 [.sl 32 true [rtc r]] r.1:=by
 have p:=adf [r] true NC trivial (by simp only[al8,ama];omega);rwa [show [r].flatMap (·.1)=r.1 by simp,show rows rtc [r]=[rtc r]from rfl]at p
theorem agN(a b c:Rt):Wr 96 [.sl 32 true [rtc a,rtc b,rtc c]] (a.1++(b.1++c.1)):=by
 have p:=adf [a,b,c] true NC trivial (by simp only[al8,ama];omega);rwa [show [a,b,c].flatMap (·.1)=a.1++(b.1++c.1)by simp,show rows rtc [a,b,c]=[rtc a,rtc b,rtc c]from rfl]at p
theorem afE(l:List Req)(hl:l.length<=1099511627776)(hu:∀r∈l,U64 r.tag/\fR r.tries/\U64 r.due):Wr 93 [.sl 35 false (rows aP l)] (lsE mZ l):=by
 intro bs hb;rw[<-akC]at hb;obtain⟨W,hW⟩:∃W,W=bs++lsE mZ l:=⟨_,rfl⟩
 rw[<-hW]at hb ⊢;have h0:bs++lsE mZ l=W:=hW.symm;clear hW;unfold lsE at h0;obtain⟨b1,h1,p1⟩:=(nh l.length hl).st h0 hb;refine dS 13 ?_;refine gon ?_;refine ocg [0,1] p1 ?_;refine az (fun x:Nat×List UInt8=>[(12,.int .i64 x.1)]) (fun x=>[.var [.hs 1 2 0 x.2.length],.gone,.vec 1 (bts x.2)]) (fun x=>l.length-x.1) (fun x=>x.1<=l.length/\x.2++(l.drop x.1).flatMap mZ=W) (0,b1) ⟨amc _,h1⟩ ?_ ?_
 ·exact ais [] [0,1,2]
 clear h0 h1 p1;rintro⟨i,b⟩ ⟨hi,hB⟩;dsimp only at hi hB ⊢;refine dp ?_;by_cases h1:i<l.length
 ·have e1:=inT h1;have hw:=af h1 NB;have hgd:(rows aP l).getD i []=aP (bm l i):=aS (f:=aP) gT h1;obtain⟨u1,u2,u3⟩:=hu (bm l i) (bK _ h1);rw[dM mZ l gT h1]at hB;change b++(mZ (bm l i)++_)=W at hB
  generalize bm l i=r at *;unfold mZ at hB;simp only[amd]at hB;obtain⟨b2,g2,p2⟩:=(TB r.tag u1).st hB hb;obtain⟨b3,g3,p3⟩:=(AO r.block).st g2 hb;obtain⟨b4,g4,p4⟩:=(tu r.tries u2).st g3 hb;obtain⟨b5,g5,p5⟩:=(TB r.due u3).st g4 hb;clear hB g2 g3 g4;refine bw e1 ?_;refine ah hgd ?_;refine ocg [0,2] p2 ?_;refine ocg [0,4] p3 ?_;refine ocg [0,5] p4 ?_;refine oce [0,6] p5 ?_;refine ah hw ?_;refine⟨(i+1,b5),⟨h1,g5⟩,by dsimp only;omega,?_⟩;exact ais [] [0,1,7]
 ·obtain rfl:i=l.length:=NB
  have e1:=inF (l.length);rw[amB,amU,amo]at hB;subst hB;refine aF e1 ?_;exact ahY [] [0,1,2]
theorem KU(cl:Bool)(b:List UInt8):ay Tryz.prog 94 [.ptr 0 0,.sl 1 cl []] [.var [.hs 1 1 0 b.length],.vec 1 (bts b)] (.tup []) [.var [.hs 1 1 0 b.length],.vec 1 (bts b)]:=by
 refine dS 9 ?_;refine gon ?_;refine lV 1 (gY ?_);refine bk ?_;exact ahY [] [0,1]
theorem air(c:cU)(h1:fR c.lim.node)(h2:fR c.lim.orph)(h3:fR c.lim.early)(h4:fR c.lim.table)(h5:fR c.lim.retry)(h6:U64 c.lim.backoff)(h7:U64 c.spe)(h8:U64 c.boost)(h9:∀n∈c.bals,U64 n)(hW:(vt c).length<=140737488355328)(hl:c.bals.length<=1099511627776):
 ay Tryz.prog 90 [.ptr 0 0,.agg (bW c.a)] [.var [.sl 0 true []]] (.tup []) [.var [.hs 1 1 0 (vt c).length],.vec 1 (bts (vt c))]:=by
 obtain⟨W,hWd⟩:∃W,W=vt c:=⟨_,rfl⟩
 have hB:vt c=W:=hWd.symm;rw[<-hWd]at hW ⊢;clear hWd;unfold vt YF at hB;simp only[amd]at hB;unfold lsE at hB;have p1:=VC c.lim.node h1;obtain⟨b2,g2,p2⟩:=(tu c.lim.orph h2).st hB hW;obtain⟨b3,g3,p3⟩:=(tu c.lim.early h3).st g2 hW;obtain⟨b4,g4,p4⟩:=(tu c.lim.table h4).st g3 hW;obtain⟨b5,g5,p5⟩:=(tu c.lim.retry h5).st g4 hW;obtain⟨b6,g6,p6⟩:=(ahq c.lim.backoff c.spe c.boost h6 h7 h8).st (by simp only[amd];exact g5) hW;obtain⟨b7,g7,p7⟩:=(ED c.ttd).st g6 hW;obtain⟨b8,g8,p8⟩:=(AO c.gen).st g7 hW;obtain⟨b9,g9,p9⟩:=(nh c.bals.length hl).st g8 hW;clear hB g2 g3 g4 g5 g6 g7 g8;refine dS 24 ?_;refine gon ?_;refine lV 6 (gY ?_);refine aX ?_;refine ocg [0] p1 ?_;refine gY ?_;refine aX ?_;refine ocg [0,2] p2 ?_;refine gY ?_;refine aX ?_;refine ocg [0,3] p3 ?_;refine gY ?_;refine aX ?_;refine ocg [0,4] p4 ?_;refine gY ?_;refine aX ?_;refine ocg [0,5] p5 ?_;refine gY ?_;refine bk ?_;refine ocg [0,6] p6 ?_;refine dsg [7] p7 ?_;refine ocg [0,8] p8 ?_;refine ocg [0,9] p9 ?_;by_cases q:c.bals=[]
 ·rw[q,amU,amo]at g9;subst g9;have p10:=KU false b9;rw[show ([]:List (List AV))=aH .u64 []from rfl,<-q]at p10;refine ocg [0,10] p10 ?_;exact ahY [] [0,10]
 ·obtain⟨b10,g10,p10⟩:=(Xl c.bals false q h9 hl).st (rest:=[]) (by rw[amo];exact g9) hW;rw[amo]at g10;subst g10;refine ocg [0,10] p10 ?_;exact ahY [] [0,11]
theorem agO(latest:List Vot)(eqv:List Int)(hl:latest.length<=1099511627776)(he:eqv.length<=1099511627776)(hv:∀v∈latest,U64 v.ep)(hq:∀n∈eqv,fR n):Wr 91 [.agg [.sl 34 false (rows al latest),.sl 1 false (aH .i64 eqv)]] (lsE rd latest++lsE iE eqv):=by
 intro bs hb;rw[<-akC]at hb;obtain⟨W,hW⟩:∃W,W=bs++(lsE rd latest++lsE iE eqv):=⟨_,rfl⟩
 rw[<-hW]at hb ⊢;have h0:bs++(lsE rd latest++lsE iE eqv)=W:=hW.symm;clear hW;rw[pC]at h0;obtain⟨b1,h1,p1⟩:=(nh latest.length hl).st h0 hb;refine dS 47 ?_;refine gon ?_;refine ocg [0,1] p1 ?_;refine az (fun x:Nat×List UInt8=>[(16,.int .i64 x.1)]) (fun x=>[.var [.hs 1 3 0 x.2.length],.gone,.var [.sl 34 false (rows al latest),.sl 1 false (aH .i64 eqv)],.vec 1 (bts x.2)]) (fun x=>latest.length-x.1) (fun x=>x.1<=latest.length/\x.2++((latest.drop x.1).flatMap rd++lsE iE eqv)=W) (0,b1) ⟨amc _,h1⟩ ?_ ?_
 ·exact ais [] [0,1,2,3]
 clear h0 h1 p1;rintro⟨i,b⟩ ⟨hi,hB⟩;dsimp only at hi hB ⊢;refine dp ?_;by_cases h1:i<latest.length
 ·have e1:=inT h1
  have hw:=af h1 NB;have hgd:(rows al latest).getD i []=al (latest.getD i dL):=aS (f:=al) dL h1;have u1:=hv _ (bK dL h1);rw[dM rd latest dL h1,amd]at hB;generalize latest.getD i dL=v at *;unfold rd at hB;simp only[amd]at hB;obtain⟨b2,g2,p2⟩:=(ac7 v.has).st hB hb;by_cases q:v.has=true
  ·rw[al7 q]at g2;simp only[amd]at g2;obtain⟨b3,g3,p3⟩:=(TB v.ep u1).st g2 hb;obtain⟨b4,g4,p4⟩:=(AO v.root).st g3 hb;clear hB g2 g3;refine bw e1 ?_;refine ah hgd ?_;refine oce [0,3] p2 ?_;refine aM q ?_;refine ocg [0,5] p3 ?_;refine oce [0,6] p4 ?_;refine ah hw ?_;refine⟨(i+1,b4),⟨h1,g4⟩,by dsimp only;omega,?_⟩;exact ais [] [0,1,2,7]
  ·rw[al5 q,amD]at g2;have q':v.has=false:=by simpa using q
   clear hB;refine bw e1 ?_;refine ah hgd ?_;refine oce [0,3] p2 ?_;refine bJ q' ?_;refine ah hw ?_;refine⟨(i+1,b2),⟨h1,g2⟩,by dsimp only;omega,?_⟩;exact ais [] [0,1,2,5]
 ·obtain rfl:i=latest.length:=NB
  have e1:=inF (latest.length);rw[amB,amU,amD]at hB;unfold lsE at hB;obtain⟨b2,g2,p2⟩:=(nh eqv.length he).st hB hb;clear hB h1 hi;refine aF e1 ?_;refine ocg [0,3] p2 ?_;clear e1 p2;refine az (fun x:Nat×List UInt8=>[(46,.int .i64 x.1)]) (fun x=>[.var [.hs 1 3 0 x.2.length],.gone,.var [.sl 34 false (rows al latest),.sl 1 false (aH .i64 eqv)],.vec 1 (bts x.2)]) (fun x=>eqv.length-x.1) (fun x=>x.1<=eqv.length/\x.2++(eqv.drop x.1).flatMap iE=W) (0,b2) ⟨amc _,g2⟩ ?_ ?_
  ·exact ais [] [0,1,2,4]
  clear g2;rintro⟨i,b⟩ ⟨hi,hB⟩;dsimp only at hi hB ⊢;refine dp ?_;by_cases h1:i<eqv.length
  ·have e1:=inT h1;have hw:=af h1 NB;have hgd:(aH .i64 eqv).getD i []=[.int .i64 (eqv.getD i 0)]:=gdn (k:=.i64) h1;have u1:=hq _ (bK 0 h1);rw[dM iE eqv 0 h1]at hB;generalize eqv.getD i 0=n at *;obtain⟨b3,g3,p3⟩:=(tu n u1).st hB hb;clear hB;refine bw e1 ?_;refine ah hgd ?_;refine oce [0,3] p3 ?_;refine ah hw ?_;refine⟨(i+1,b3),⟨h1,g3⟩,by dsimp only;omega,?_⟩;exact ais [] [0,1,2,4]
  ·obtain rfl:i=eqv.length:=NB
   have e1:=inF (eqv.length);rw[amB,amU,amo]at hB;subst hB;refine aF e1 ?_;exact ahY [] [0,1,3]
theorem agI(s:ap)(hj:U64 s.j.ep)(hf:U64 s.f.ep)(ha:∀a∈s.early,U64 a.slot/\U64 a.target.ep/\cE a.vals 1024=0)(ho:∀b∈s.orph,Dh b)(hn:∀n∈s.nodes,Dh n.blk/\fR (n.up+1)/\fR n.status)(hw0:U64 s.now)(ht:∀t∈s.tabs,U64 t.cp.ep/\t.bals.length<=1024/\∀n∈t.bals,U64 n)(l1:s.early.length<=1099511627776)(l2:s.orph.length<=1099511627776)(l3:s.nodes.length<=1099511627776)(l4:s.tabs.length<=1099511627776):
 Wr 92 [.agg (aE s.a)] (dt s.j++(dt s.f++(lsE sC s.early++(lsE i9 s.orph++(lsE rZ s.nodes++(iE s.now++(s.boost.1++lsE pU s.tabs))))))):=by
 intro bs hb;rw[<-akC]at hb;obtain⟨W,hW⟩:∃W,W=bs++(dt s.j++(dt s.f++(lsE sC s.early++(lsE i9 s.orph++(lsE rZ s.nodes++(iE s.now++(s.boost.1++lsE pU s.tabs))))))):=⟨_,rfl⟩
 rw[<-hW]at hb ⊢;have h0:=hW.symm;clear hW;obtain⟨b1,g1,p1⟩:=(qI s.j hj.lo hj.hi).st h0 hb;obtain⟨b2,g2,p2⟩:=(qI s.f hf.lo hf.hi).st g1 hb;rw[pC]at g2;obtain⟨b3,g3,p3⟩:=(nh s.early.length l1).st g2 hb;clear h0 g1 g2;refine dS 127 ?_;refine gon ?_;refine dsg [1] p1 ?_;refine dsg [3] p2 ?_;refine ocg [0,4] p3 ?_;clear p1 p2 p3;refine az (fun x:Nat×List UInt8=>[(41,.int .i64 x.1),(24,.dead),(28,.dead)]) (fun x=>[.var [.hs 1 3 0 x.2.length],.gone,.var (aE s.a),.vec 1 (bts x.2)]) (fun x=>s.early.length-x.1) (fun x=>x.1<=s.early.length/\x.2++((s.early.drop x.1).flatMap sC++(lsE i9 s.orph++(lsE rZ s.nodes++(iE s.now++(s.boost.1++lsE pU s.tabs)))))=W) (0,b3) ⟨amc _,g3⟩ ?_ ?_
 ·exact ais [] [0,1,2,5]
 clear g3;rintro⟨i,b⟩ ⟨hi,hB⟩;dsimp only at hi hB ⊢;refine dp ?_;by_cases h1:i<s.early.length
 ·have e1:=inT h1;have hw:=af h1 NB;have hgd:(rows bp.c s.early).getD i []=cy (s.early.getD i default).a:=aS (f:=bp.c) default h1;have hm:s.early.getD i default∈s.early:=bK _ h1;rw[dM sC s.early default h1,amd]at hB;obtain⟨u1,u2,u3⟩:=ha _ hm;have u4:=C5 (n:=1024) u3;generalize s.early.getD i default=t at *;have p0:=acm t.a t.vals false rfl NB u1 u2;rw[al7 u3,u3]at p0;unfold sC at hB;have hx:(oW t.a t.vals).length<=W.length:=by rw[<-hB];unfold uD;simp only[akC];omega
  obtain⟨bN,hN,p2⟩:=(U4 (oW t.a t.vals) false NB).st hB hb;clear hB;generalize oW t.a t.vals=e at *;refine bw e1 ?_;refine ah hgd ?_;refine ahG p0 ?_;refine oce [3] p2 ?_;refine ah hw ?_;refine⟨(i+1,bN),⟨h1,hN⟩,by dsimp only;omega,?_⟩;exact ais [] [0,1,2,5]
 ·obtain rfl:i=s.early.length:=NB
  have e1:=inF (s.early.length);rw[amB,amU,amD]at hB;clear hi;refine aF e1 ?_;clear e1;rw[pC]at hB;obtain⟨b4,g4,p4⟩:=(nh s.orph.length l2).st hB hb;clear hB;refine ocg [0,3] p4 ?_;clear p4;refine az (fun x:Nat×List UInt8=>[(70,.int .i64 x.1)]) (fun x=>[.var [.hs 1 3 0 x.2.length],.gone,.var (aE s.a),.vec 1 (bts x.2)]) (fun x=>s.orph.length-x.1) (fun x=>x.1<=s.orph.length/\x.2++((s.orph.drop x.1).flatMap i9++(lsE rZ s.nodes++(iE s.now++(s.boost.1++lsE pU s.tabs))))=W) (0,b4) ⟨amc _,g4⟩ ?_ ?_
  ·exact ais [] [0,1,2,4]
  clear g4;rintro⟨i,b⟩ ⟨hi,hB⟩;dsimp only at hi hB ⊢;refine dp ?_;by_cases h1:i<s.orph.length
  ·have e1:=inT h1;have hw:=af h1 NB;have hgd:(rows aO s.orph).getD i []=aO (s.orph.getD i cw):=aS (f:=aO) cw h1;have hm:s.orph.getD i cw∈s.orph:=bK _ h1;rw[dM i9 s.orph cw h1,amd]at hB;have u1:=ho _ hm;generalize s.orph.getD i cw=n at *;have p0:=Sq n u1.u;have hx:(i9 n).length<=W.length:=by rw[<-hB];simp only[akC];omega
   obtain⟨bN,hN,p2⟩:=(agM (i9 n) false NB).st hB hb;clear hB;generalize i9 n=e at *;refine bw e1 ?_;refine ah hgd ?_;refine ahG p0 ?_;refine oce [0,3] p2 ?_;refine ah hw ?_;refine⟨(i+1,bN),⟨h1,hN⟩,by dsimp only;omega,?_⟩;exact ais [] [0,1,2,5]
  ·obtain rfl:i=s.orph.length:=NB
   have e1:=inF (s.orph.length);rw[amB,amU,amD]at hB;clear hi;refine aF e1 ?_;clear e1;rw[pC]at hB;obtain⟨b5,g5,p5⟩:=(nh s.nodes.length l3).st hB hb;clear hB;refine ocg [0,3] p5 ?_;clear p5;refine az (fun x:Nat×List UInt8=>[(89,.int .i64 x.1)]) (fun x=>[.var [.hs 1 3 0 x.2.length],.gone,.var (aE s.a),.vec 1 (bts x.2)]) (fun x=>s.nodes.length-x.1) (fun x=>x.1<=s.nodes.length/\x.2++((s.nodes.drop x.1).flatMap rZ++(iE s.now++(s.boost.1++lsE pU s.tabs)))=W) (0,b5) ⟨amc _,g5⟩ ?_ ?_
   ·exact ais [] [0,1,2,4]
   clear g5;rintro⟨i,b⟩ ⟨hi,hB⟩;dsimp only at hi hB ⊢;refine dp ?_;by_cases h1:i<s.nodes.length
   ·have e1:=inT h1;have hw:=af h1 NB;have hgd:(rows bB s.nodes).getD i []=bB (s.nodes.getD i gr):=aS (f:=bB) gr h1;have hm:s.nodes.getD i gr∈s.nodes:=bK _ h1;rw[dM rZ s.nodes gr h1,amd]at hB;obtain⟨u1,u2,u3⟩:=hn _ hm;have hup:IntKind.i64.wrap ((s.nodes.getD i gr).up+1)=(s.nodes.getD i gr).up+1:=aL (by have:=u2.1;omega) (by have:=u2.2;omega);generalize s.nodes.getD i gr=n at *;unfold rZ at hB;simp only[amd]at hB;have p0:=Sq n.blk u1.u;have hx:(i9 n.blk).length<=W.length:=by rw[<-hB];simp only[akC];omega
    obtain⟨b2,g2,p2⟩:=(agM (i9 n.blk) false NB).st hB hb;obtain⟨b3,g3,p3⟩:=(tu (n.up+1) u2).st g2 hb;obtain⟨bN,hN,p4⟩:=(tu n.status u3).st g3 hb;clear hB g2 g3 hx;generalize i9 n.blk=e at *;refine bw e1 ?_;refine ah hgd ?_;refine ahG p0 ?_;refine oce [0,3] p2 ?_;refine ah hup ?_;refine ocg [0,5] p3 ?_;refine oce [0,6] p4 ?_;refine ah hw ?_;refine⟨(i+1,bN),⟨h1,hN⟩,by dsimp only;omega,?_⟩;exact ais [] [0,1,2,7]
   ·obtain rfl:i=s.nodes.length:=NB
    have e1:=inF (s.nodes.length);rw[amB,amU,amD]at hB;clear hi;refine aF e1 ?_;clear e1;obtain⟨b6,g6,p6⟩:=(TB s.now hw0).st hB hb;obtain⟨b7,g7,p7⟩:=(AO s.boost).st g6 hb;unfold lsE at g7;obtain⟨b8,g8,p8⟩:=(nh s.tabs.length l4).st g7 hb;rw[<-amo (s.tabs.flatMap pU)]at g8;clear hB g6 g7;refine ocg [0,3] p6 ?_;refine ocg [0,4] p7 ?_;refine ocg [0,5] p8 ?_;clear p6 p7 p8;refine az (fun x:Nat×List UInt8=>[(126,.int .i64 x.1)]) (fun x=>[.var [.hs 1 3 0 x.2.length],.gone,.var (aE s.a),.vec 1 (bts x.2)]) (fun x=>s.tabs.length-x.1) (fun x=>x.1<=s.tabs.length/\x.2++((s.tabs.drop x.1).flatMap pU++[])=W) (0,b8) ⟨amc _,g8⟩ ?_ ?_
    ·exact ais [] [0,1,2,6]
    clear g8;rintro⟨i,b⟩ ⟨hi,hB⟩;dsimp only at hi hB ⊢;refine dp ?_;by_cases h1:i<s.tabs.length
    ·have e1:=inT h1;have hw:=af h1 NB;have hgd:(rows aW.c s.tabs).getD i []=cx (s.tabs.getD i default).a:=aS (f:=aW.c) default h1;have hm:s.tabs.getD i default∈s.tabs:=bK _ h1;rw[dM pU s.tabs default h1,amd]at hB;obtain⟨u1,u2,u3⟩:=ht _ hm;generalize s.tabs.getD i default=t at *;have p0:=acn t.a t.bals false ⟨u1,rfl,u3,NB⟩;rw[al5 NB,al5 NB]at p0;change b++(oK t.a t.bals++_)=W at hB
     have hx:(oK t.a t.bals).length<=W.length:=by rw[<-hB];simp only[akC];omega
     obtain⟨bN,hN,p2⟩:=(agM (oK t.a t.bals) false NB).st hB hb;clear hB;generalize oK t.a t.bals=e at *;refine bw e1 ?_;refine ah hgd ?_;refine ahG p0 ?_;refine oce [0,3] p2 ?_;refine ah hw ?_;rw[amo]at hN;refine⟨(i+1,bN),⟨h1,hN⟩,by dsimp only;omega,?_⟩;exact ais [] [0,1,2,5]
    ·obtain rfl:i=s.tabs.length:=NB
     have e1:=inF (s.tabs.length);rw[amB,amU,amo,amo]at hB;subst hB;refine aF e1 ?_;exact ahY [] [0,1,3]
def pn(s:aI):Int:=if valA s≠0 then valA s else if 1048576<(ej s).length then 11 else 0
def Dt(s:aI):List UInt8:=if pn s=0 then ej s else []
theorem VQ{s:aI}(h:valA s≠0):pn s=valA s/\Dt s=[]:=by
 have h1:pn s=valA s:=by unfold pn;rw[al7 h]
 exact⟨h1,by unfold Dt;rw[h1,al5 h]⟩
theorem aaZ{s:aI}(h:valA s=0)(h2:1048576<(ej s).length):pn s=11/\Dt s=[]:=by
 have h1:pn s=11:=by unfold pn;rw[al5 (by rw[h];decide),al7 h2]
 exact⟨h1,by unfold Dt;rw[h1,al5 NE]⟩
theorem aa0{s:aI}(h:valA s=0)(h2:¬1048576<(ej s).length):pn s=0/\Dt s=ej s:=by
 have h1:pn s=0:=by unfold pn;rw[al5 (by rw[h];decide),al5 h2]
 exact⟨h1,by unfold Dt;rw[h1,al7 rfl]⟩
structure afK(s:aI):Prop where
 hr:Qw s.sto
 nw:U64 s.sto.now
 q:s.reqs.length<=2097152
 y:s.rets.length<=2097152
 d:∀r∈s.reqs,0<=r.due
 w:valA s=0->AB s/\Dk s
theorem Zp(s:aI)(h:afK s):PC Tryz.prog 7 [.agg (aV s.a)] (.tup [.sl 1 false (bts (Dt s)),.int .i64 (pn s)]):=by
 refine cD 6 ?_;have c1:=Ve s h.hr h.nw h.q h.y h.d;have c2:=fun h0:valA s=0=>VF s (h.w h0).1 (h.w h0).2
 by_cases q1:valA s=0
 case neg=>
  have e1:(valA s != 0)=true:=by simp[q1]
  rw[(VQ q1).1,(VQ q1).2];generalize valA s=V at *;refine gon ?_;refine am c1 ?_;refine aM e1 ?_;exact rW
 have c2:=c2 q1;rw[q1]at c1;by_cases q2:1048576<(ej s).length
 ·have e2:decide ((((ej s).length:Nat):Int) > 1048576)=true:=au NB;have e2':decide ((1048576:Int)<(((ej s).length:Nat):Int))=true:=au NB;rw[(aaZ q1 q2).1,(aaZ q1 q2).2];refine gon ?_;refine am c1 ?_;refine bk ?_;refine am c2 ?_;refine cH e2 e2' ?_;exact rW
 ·have e2:decide ((((ej s).length:Nat):Int) > 1048576)=false:=aA NB;have e2':decide ((1048576:Int)<(((ej s).length:Nat):Int))=false:=aA NB;rw[(aa0 q1 q2).1,(aa0 q1 q2).2];refine gon ?_;refine am c1 ?_;refine bk ?_;refine am c2 ?_;refine fU e2 e2' ?_;exact ai
theorem D7(s:aI)(h:afK s):PC Tryz.prog 33 [.agg (aV s.a)] (.tup [.sl 1 false (bts (Dt s)),.int .i64 (pn s)]):=by
 refine cD 13 ?_;have c1:=UX s h.hr h.q h.y;have hw:=h.w;by_cases q1:valA s=0
 case neg=>
  have e1:(valA s != 0)=true:=by simp[q1]
  rw[(VQ q1).1,(VQ q1).2];generalize valA s=V at *;refine gon ?_;refine am c1 ?_;refine aM e1 ?_;exact rW
 obtain⟨w,hl⟩:=hw q1;rw[q1]at c1;obtain⟨l1,l2,l3,l4,l5,l6,l7,l8,l9⟩:=hl.ls;have k2:=aaZ q1;have k3:=aa0 q1;have hW:(ej s).length<=140737488355328:=by have:=hl.w;omega
 obtain⟨W,hWd⟩:∃W,W=ej s:=⟨_,rfl⟩
 rw[<-hWd]at hW k2 k3;have h0:vt s.sto.cfg++e4 s=W:=by rw[hWd];rfl
 clear hWd;have hcl:(vt s.sto.cfg).length<=140737488355328:=by have:=ajG List.length h0;rw[akC]at this;omega
 have p1:=air s.sto.cfg w.l1 w.l2 w.l3 w.l4 w.l5 w.l6 w.c1 w.c2 w.c4 hcl l1;unfold e4 e5 at h0;generalize vt s.sto.cfg=b1 at *;have h1:b1++((lsE rd s.sto.latest++lsE iE s.sto.eqv)++e6 s)=W:=by rw[<-h0,amd (lsE rd s.sto.latest)]
 obtain⟨b2,g2,p2⟩:=(agO s.sto.latest s.sto.eqv l2 l3 (fun v hv=>(w.v1 v hv).1) w.v2).st h1 hW;obtain⟨b3,g3,p3⟩:=(agI s.sto w.j w.f w.a w.o w.n w.w w.t l4 l5 l6 l7).st (rest:=eB s) (by simp only[e6,e7,e8,e9,eA,amd]at g2 ⊢;exact g2) hW;unfold eB at g3;obtain⟨b4,g4,p4⟩:=(afE s.reqs l8 w.q).st g3 hW;obtain⟨b5,g5,p5⟩:=(afE s.rets l9 w.y).st g4 hW;unfold eC at g5;obtain⟨b6,g6,p6⟩:=(TB s.tag w.g).st g5 hW;obtain⟨b7,g7,p7⟩:=(ac7 s.sent).st g6 hW;clear h0 h1 g2 g3 g4 g5 g6;unfold eD eE at g7;have htl:∀b:List UInt8,W=b->((b.length > 1048576)->decide (((b.length:Nat):Int) > 1048576)=true/\decide ((1048576:Int)<((b.length:Nat):Int))=true)/\((¬1048576<b.length)->decide (((b.length:Nat):Int) > 1048576)=false/\decide ((1048576:Int)<((b.length:Nat):Int))=false):=fun b _=>⟨fun h=>⟨au NB,au NB⟩,fun h=>⟨aA NB,aA NB⟩⟩
 refine gon ?_;refine am c1 ?_;refine bk ?_;refine ocg [1] p1 ?_;refine ocg [1,2] p2 ?_;refine ocg [1,3] p3 ?_;refine ocg [1,4] p4 ?_;refine ocg [1,5] p5 ?_;refine ocg [1,6] p6 ?_;refine oce [1,7] p7 ?_;clear p1 p2 p3 p4 p5 p6 p7;by_cases q:s.sent=true
 ·rw[al7 q]at g7
  unfold QO at g7;obtain⟨b8,g8,p8⟩:=(agN s.last.head s.last.safe s.last.fin).st g7 hW;obtain⟨b9,g9,p9⟩:=(ac8 s.over s.halt).st (rest:=[]) (by rw[amo];exact g8) hW;rw[amo]at g9;subst g9;clear g7 g8;refine aM q ?_;refine ocg [1,8] p8 ?_;refine ocg [1,9] p9 ?_;by_cases q2:1048576<b9.length
  ·obtain⟨e2,e2'⟩:=(htl b9 rfl).1 q2;rw[(k2 q2).1,(k2 q2).2];refine cH e2 e2' ?_;exact rW
  ·obtain⟨e2,e2'⟩:=(htl b9 rfl).2 q2;rw[(k3 q2).1,(k3 q2).2];refine fU e2 e2' ?_;exact ai
 ·rw[al5 q,amD]at g7
  have q':s.sent=false:=by simpa using q
  obtain⟨b9,g9,p9⟩:=(ac8 s.over s.halt).st (rest:=[]) (by rw[amo];exact g7) hW;rw[amo]at g9;subst g9;clear g7;refine aF q' ?_;refine ocg [1,8] p9 ?_;by_cases q2:1048576<b9.length
  ·obtain⟨e2,e2'⟩:=(htl b9 rfl).1 q2;rw[(k2 q2).1,(k2 q2).2];refine cH e2 e2' ?_;exact rW
  ·obtain⟨e2,e2'⟩:=(htl b9 rfl).2 q2;rw[(k3 q2).1,(k3 q2).2];refine fU e2 e2' ?_;exact ai
def Rd{α:Type}(f:FuncId)(xs:List AV)(c:α->AV)(r:RR α):Prop:=∀ (B b:List UInt8) (e:Int),b <:+ B->B.length<=140737488355328->(r b e).2.1 <:+ B/\ay Tryz.prog f (.ptr 0 0::xs) [sro false B b e] (c (r b e).1) [sro false B (r b e).2.1 (r b e).2.2]
theorem Rd.st{α:Type}{f:FuncId}{xs:List AV}{c:α->AV}{r:RR α}(h:Rd f xs c r){B b:List UInt8}(e:Int)(hs:b <:+ B)(hb:B.length<=140737488355328):∃v b' e',r b e=(v,b',e')/\b' <:+ B/\ay Tryz.prog f (.ptr 0 0::xs) [sro false B b e] (c v) [sro false B b' e']:=
 ⟨_,_,_,rfl,(h B b e hs hb).1,(h B b e hs hb).2⟩
theorem Eh(m:Int):Rd 209 [.int .u64 m] (fun v=>.int .u64 v) (fun bs e=>aR bs e m):=fun B b e hs hb=>⟨(se b e m).trans hs,iC B b false e m hs hb⟩
theorem Cd:Rd 122 [] (fun v=>.bool v) fE:=fun B b e hs hb=>⟨(xL b e).trans hs,Ed B b e hs hb⟩
theorem tR:Rd 119 [] (fun v=>.agg (rtc v)) pp:=fun B b e hs hb=>⟨(eY b e).trans hs,jo B b e hs hb⟩
theorem Kj:Rd 208 [] (fun v=>.agg (wdc v)) gE:=fun B b e hs hb=>⟨(sf b e).trans hs,BO B b e hs hb⟩
theorem Kf:Rd 113 [] (fun v=>.agg (cpC v)) rCp:=fun B b e hs hb=>⟨(xN b e).trans hs,yk B b e hs hb⟩
def rU(m:Int):RR Int:=fun bs e=>aR bs e m
theorem WN(m:Int)(hm:0<=m){b:List UInt8}{e:Int}{v:Int}{b':List UInt8}{e':Int}(h:rU m b e=(v,b',e')):0<=v/\v<=m:=by
 have h1:=gw b e m;have h2:=mW b e m hm;unfold rU at h;rw[h]at h1 h2;exact⟨h1,h2⟩
theorem ka:Rd 115 [] (fun v=>.int .i64 v) (rU 1048576):=fun B b e hs hb=>by
 obtain⟨v,b',e',q,s,p⟩:=(Eh 1048576).st e hs hb;have hv:=WN 1048576 NE q;have hw:IntKind.i64.wrap v=v:=aL NB NB;change rU 1048576 b e=_ at q
 rw[q];refine⟨s,?_⟩;refine dS 3 ?_;refine gon ?_;refine oce [0] p ?_;refine ah hw ?_;exact ahY [] [0]
theorem fk:Rd 117 [] (fun v=>.int .i64 v) (rU 4611686018427387904):=fun B b e hs hb=>by
 obtain⟨v,b',e',q,s,p⟩:=(Eh 4611686018427387904).st e hs hb;have hv:=WN 4611686018427387904 NE q;have hw:IntKind.i64.wrap v=v:=aL NB NB;change rU 4611686018427387904 b e=_ at q
 rw[q];refine⟨s,?_⟩;refine dS 3 ?_;refine gon ?_;refine oce [0] p ?_;refine ah hw ?_;exact ahY [] [0]
theorem er:Rd 118 [] (fun v=>.int .u64 v) rN:=fun B b e hs hb=>by
 obtain⟨v,b',e',q,s,p⟩:=(Eh bU).st e hs hb;change rN b e=_ at q
 rw[q];refine⟨s,?_⟩;refine dS 3 ?_;refine gon ?_;refine ocg [0] p ?_;exact ahY [] [0]
def XC(x:Int×Rt×Cp×List Int):bp:=⟨x.1,x.2.1,x.2.2.1,x.2.2.2⟩
def S8(x:Tv):aW:=⟨x.1,x.2⟩
def Zi:RR bp:=fun bs e=>
 let x:=gv bs e 1048576
 let d:=Ds x.1.length (D9 x.1 0)
 (XC d.1,x.2.1,if x.2.2=0/\(d.2.2≠0\/d.2.1≠x.1.length)then 2 else x.2.2)
def dR:Rdr:=⟨rU 1048576,rU 4611686018427387904,Zi,zW,fun bs e=>(S8 (mV bs e).1,(mV bs e).2)⟩
theorem ahe{α:Type}(one:RR α)(acc:List α)(b:List UInt8)(e:Int):rLp one 0 acc b e=(acc,b,e):=rfl
theorem afv{α:Type}(one:RR α)(n:Nat)(acc:List α)(b:List UInt8){v:α}{b':List UInt8}{e':Int}(h:one b 0=(v,b',e')):rLp one (n+1) acc b 0=rLp one n (acc++[v]) b' e':=by
 show (if (0:Int)≠0 then (acc,b,(0:Int))else rLp one n (acc++[(one b 0).1]) (one b 0).2.1 (one b 0).2.2)=_
 rw[al5 NE,h]
theorem afu{α:Type}(one:RR α)(n:Nat)(acc:List α)(b:List UInt8){e:Int}(h:e≠0):rLp one n acc b e=(acc,b,e):=by
 cases n with
 |zero=>rfl
 | succ n =>
   show (if e≠0 then (acc,b,e)else _)=_
   rw[al7 h]
def dN{α:Type}(r:RR α):Prop:=∀b e,(r b e).2.1 <:+ b
theorem dN.rt1{α:Type}(v:α):dN (Go.Proofs.YtblipkgpoaonaaaGreat.rt1 v):=fun b e=>amP b
theorem dN.rb{α β:Type}{r:RR α}{f:α->RR β}(h:dN r)(k:∀v,dN (f v)):dN (Go.Proofs.YtblipkgpoaonaaaGreat.rb r f):=fun b e=>(k _ _ _).trans (h b e)
theorem dN.rLp{α:Type}{one:RR α}(h:dN one):∀n acc,dN (Go.Proofs.YtblipkgpoaonaaaGreat.rLp one n acc)
 |0,acc=>dN.rt1 acc
 | n + 1, acc => fun b e => by
   show (if e≠0 then (acc,b,e)else Go.Proofs.YtblipkgpoaonaaaGreat.rLp one n (acc++[(one b e).1]) (one b e).2.1 (one b e).2.2).2.1 <:+ b
   split
   ·exact amP b
   ·exact(dN.rLp h n _ _ _).trans (h b e)
theorem dN.rLs{α:Type}{cnt:RR Int}{one:RR α}(hc:dN cnt)(h:dN one):dN (Go.Proofs.YtblipkgpoaonaaaGreat.rLs cnt one):=hc.rb fun n=>dN.rLp h _ _
theorem IH(m:Int):dN (rU m):=fun b e=>se b e m
theorem IF:dN rN:=fun b e=>se b e bU
theorem Kw:dN (zY dR):=dN.rb IF fun _=>dN.rb eY fun _=>dN.rb (IH _) fun _=>dN.rb IF fun _=>dN.rt1 _
theorem GS:Rd 121 [] (fun l=>.sl 35 false (rows aP l)) (rLs (rU 1048576) (zY dR)):=fun B b e hs hb=>by
 obtain⟨v,b1,e1,q0,s0,p0⟩:=ka.st e hs hb;obtain⟨hv1,hv2⟩:=WN 1048576 NE q0;obtain⟨n,rfl⟩:∃n:Nat,v=n:=⟨v.toNat,NB⟩
 have hR:rLs (rU 1048576) (zY dR) b e=rLp (zY dR) n [] b1 e1:=by unfold rLs rb;rw[q0];rfl
 rw[hR];obtain⟨L,bL,eL,hL⟩:∃L bL eL,rLp (zY dR) n [] b1 e1=(L,bL,eL):=⟨_,_,_,rfl⟩
 rw[hL];dsimp only;suffices hh:(bL <:+ B)/\(bL <:+ B->ay Tryz.prog 121 [.ptr 0 0] [sro false B b e] (.sl 35 false (rows aP L)) [sro false B bL eL])from ⟨hh.1,hh.2 hh.1⟩
 constructor
 ·have:=dN.rLp Kw n [] b1 e1;rw[hL]at this;exact this.trans s0
 intro hbl;refine dS 6 ?_;refine gon ?_;refine ocg [0] p0 ?_;refine jx 3 35 ?_;simp only[go_sem];refine az (fun x:Nat×List Req×List UInt8×Int=>[(5,.int .i64 x.1),(3,.hs 35 1 0 x.2.1.length)]) (fun x=>[sro false B x.2.2.1 x.2.2.2,.vec 35 (rows aP x.2.1)]) (fun x=>n-x.1) (fun x=>x.1<=n/\x.2.2.1 <:+ B/\x.2.1.length=x.1/\rLp (zY dR) (n-x.1) x.2.1 x.2.2.1 x.2.2.2=(L,bL,eL)) (0,[],b1,e1) ⟨amc _,s0,rfl,hL⟩ ?_ ?_
 ·exact ais [] [0,1]
 clear hL s0 p0 q0 hR;rintro⟨i,acc,b,e⟩ ⟨hi,hs,hla,hB⟩;dsimp only at hi hs hla hB ⊢;refine dp ?_;by_cases h1:i<n
 ·have e1:=inT h1
  have hw:=af h1 NB;by_cases q:e=0
  ·subst q
   obtain⟨k,hk⟩:∃k,n-i=k+1:=⟨n-i-1,NB⟩
   obtain⟨v1,b1,e1',q1,s1,p1⟩:=er.st 0 hs hb;obtain⟨v2,b2,e2,q2,s2,p2⟩:=tR.st e1' s1 hb;obtain⟨v3,b3,e3,q3,s3,p3⟩:=fk.st e2 s2 hb;obtain⟨v4,b4,e4,q4,s4,p4⟩:=er.st e3 s3 hb
   have hone:zY dR b 0=(⟨v1,v2,v3,v4⟩,b4,e4):=by
    unfold zY rb rt1;rw[q1];dsimp only;rw[q2];dsimp only;rw[show dR.W b2 e2=_ from q3];dsimp only;rw[q4]
   rw[hk,afv _ _ _ _ hone]at hB;have hsn:rows aP acc++[aP ⟨v1,v2,v3,v4⟩]=rows aP (acc++[⟨v1,v2,v3,v4⟩]):=cR aP _ _;have hln:acc.length+1=(acc++[(⟨v1,v2,v3,v4⟩:Req)]).length:=NC
   refine aM e1 ?_;refine ocg [0] p1 ?_;refine ocg [0] p2 ?_;refine ocg [0] p3 ?_;refine oce [0] p4 ?_;refine aZ hsn hw ?_;refine⟨(i+1,acc++[⟨v1,v2,v3,v4⟩],b4,e4),⟨h1,s4,by simp;omega,by rw[show n-(i+1)=k by omega];exact hB⟩,by dsimp only;omega,?_⟩;rw[<-hln];exact ais [] [0,2]
  ·rw[afu _ _ _ _ q]at hB;obtain⟨rfl,rfl,rfl⟩:acc=L/\b=bL/\e=eL:=by simpa using hB
   have k0:(e==0)=false:=by simp[q]
   refine fU e1 k0 ?_;exact ahY [1] [0]
 ·obtain rfl:i=n:=NB
  have e1:=inF i;rw[akQ,ahe]at hB;obtain⟨rfl,rfl,rfl⟩:acc=L/\b=bL/\e=eL:=by simpa using hB
  refine aF e1 ?_;exact ahY [1] [0]
end Go.Proofs.YtblipkgpoaonaaaGreat
