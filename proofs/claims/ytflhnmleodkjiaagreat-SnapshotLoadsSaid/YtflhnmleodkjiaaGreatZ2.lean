/- Joined. -/
import Derived.Test.YtflhnmleodkjiaaGreatZ1
set_option linter.unusedVariables false
set_option linter.unusedSimpArgs false
set_option maxRecDepth 8000
set_option maxHeartbeats 4000000
namespace Go.Proofs.YtflhnmleodkjiaaGreat
open Go Go.FH Go.RowKit
theorem HC{n:Nat}(hn:n<=32768):slS n<=16384:=by unfold slS;omega
theorem Da{B:List UInt8}(hB:B.length<=2097152)(p:Bool)(w kk:Int)(k:Nat)(hk:k<=1):ay Tryz.prog 68 [.ptr 1 0,.int .i64 k] (dvs B false p w kk) (.int .i64 ((2+k*slS (B.length / 64):Nat):Int)) (dvs B false p w kk):=by
 have hs:=HC (n:=B.length / 64) (by omega);have h1:=amz (slS (B.length / 64)) hk;have e1:IntKind.i64.wrap ((k:Int)*((slS (B.length / 64):Nat):Int))=((k*slS (B.length / 64):Nat):Int):=by rw[<-Int.natCast_mul];exact aL (by omega) (by omega)
 have e2:IntKind.i64.wrap (2+((k*slS (B.length / 64):Nat):Int))=((2+k*slS (B.length / 64):Nat):Int):=by rw[aL (by omega) (by omega)];omega
 have c1:=rp B false p w kk (by omega);have c2:=Bz (B.length / 64) (by omega);generalize slS (B.length / 64)=s at *;refine afn 5 C0 ?_;unfold wm;refine bd ?_;refine gon ?_;refine ocg [0,1] c1 ?_;refine am c2 ?_;refine aZ e1 e2 ?_;exact ahY [] [0,1]
theorem Cl{B:List UInt8}{k:Nat}(h:¬FX B k (hdR 4611686018427387904 (br B) (slH B k)).1 (hdR 4611686018427387904 (br B) (slH B k)).2.1 (hdR 4611686018427387904 (br B) (slH B k)).2.2):ae B k=(Fx,0,false):=by
 unfold ae Db;rw[al5 h]
theorem GG{B:List UInt8}{k:Nat}{n m e:Int}(hR:hdR 4611686018427387904 (br B) (slH B k)=(n,m,e))(h:FX B k n m e):ae B k=((FJ dP (slB B k m.toNat)).1,n,decide ((FJ dP (slB B k m.toNat)).2=0)):=by
 unfold ae Db;rw[hR];dsimp only;rw[al7 h]
theorem Fh:Wk (.tup [.agg (aV rD),.int .u64 0,.bool false]) (.tup [.agg (aV Fx.a),.int .u64 0,.bool false]):=Wk.tup ⟨C9,Wk.refl _,Wk.refl _,trivial⟩
theorem I0(X:List UInt8)(h1:1<=X.length)(h2:X.length<=64):X.take (min X.length 64)++(zr 64).drop (min X.length 64)=full X:=by
 rw[akA h2,ajp,full];have:fD X.length=1:=by unfold fD;omega
 rw[this];unfold zr;rw[List.drop_replicate,Le]
theorem Jf(X:List UInt8)(h1:1<=X.length)(h2:X.length<=64):bts (X.take (min X.length 64))++List.drop (min X.length 64) [[AV.int .u8 0],[AV.int .u8 0],[AV.int .u8 0],[AV.int .u8 0],[AV.int .u8 0],[AV.int .u8 0],[AV.int .u8 0],[AV.int .u8 0],[AV.int .u8 0],[AV.int .u8 0],[AV.int .u8 0],[AV.int .u8 0],[AV.int .u8 0],[AV.int .u8 0],[AV.int .u8 0],[AV.int .u8 0],[AV.int .u8 0],[AV.int .u8 0],[AV.int .u8 0],[AV.int .u8 0],[AV.int .u8 0],[AV.int .u8 0],[AV.int .u8 0],[AV.int .u8 0],[AV.int .u8 0],[AV.int .u8 0],[AV.int .u8 0],[AV.int .u8 0],[AV.int .u8 0],[AV.int .u8 0],[AV.int .u8 0],[AV.int .u8 0],[AV.int .u8 0],[AV.int .u8 0],[AV.int .u8 0],[AV.int .u8 0],[AV.int .u8 0],[AV.int .u8 0],[AV.int .u8 0],[AV.int .u8 0],[AV.int .u8 0],[AV.int .u8 0],[AV.int .u8 0],[AV.int .u8 0],[AV.int .u8 0],[AV.int .u8 0],[AV.int .u8 0],[AV.int .u8 0],[AV.int .u8 0],[AV.int .u8 0],[AV.int .u8 0],[AV.int .u8 0],[AV.int .u8 0],[AV.int .u8 0],[AV.int .u8 0],[AV.int .u8 0],[AV.int .u8 0],[AV.int .u8 0],[AV.int .u8 0],[AV.int .u8 0],[AV.int .u8 0],[AV.int .u8 0],[AV.int .u8 0],[AV.int .u8 0]]=bts (full X):=by
 show bts _++List.drop _ (bts (zr 64))=_
 rw[<-I0 X h1 h2];simp only[bts,amN,akG]
theorem Eb{B:List UInt8}(hB:B.length<=2097152)(h64:64<=B.length)(p:Bool)(w kk:Int)(k:Nat)(hk:k<=1):
 ay Tryz.prog 142 [.ptr 1 0,.int .i64 k] (dvs B false p w kk) (.tup [.agg (aV (ae B k).1.a),.int .u64 (ae B k).2.1,.bool (ae B k).2.2]) (dvs B false p w kk):=by
 have hs:=HC (n:=B.length / 64) (by omega);have hcap:=Ag B hB;by_cases q0:k+1<=B.length / 64
 case neg=>
  have hv:ae B k=(Fx,0,false):=Cl (fun h=>by have:=h.1;omega)
  have hx:exB (k:Int) 1 ((B.length / 64:Nat):Int)=false:=by
   unfold exB;rw[aA (p:=(1:Int)<=_) (by omega),alB]
  have c1:=Gj B p w kk k 1 (by omega) hx;rw[hv];try dsimp only
  refine afn 13 cm ?_;unfold bQ;refine bd ?_;refine gon ?_;refine oce [0,1] c1 ?_;refine aX ?_;refine HM [] [0,1] _ (by simp) (by first|rfl|exact evd) (by simp) rfl (by simp) (by simp) evd evd (Fh)
 have r1:ay Tryz.prog 225 [.ptr 1 0,.int .i64 k,.int .i64 1] (dvs B false p w kk) (.tup [.sl 1 false (bts (slH B k)),.int .i64 0]) (dvs B false p w kk):=Iy B p w kk k 1 (by omega) (by omega);have hL:(slH B k).length=64:=by unfold slH;rw[amA,ajJ];omega
 obtain⟨n,b1,e1,q1⟩:∃n b1 e1,aR (slH B k) 0 4611686018427387904=(n,b1,e1):=⟨_,_,_,rfl⟩
 obtain⟨m,b2,e2,q2⟩:∃m b2 e2,aR b1 e1 (br B)=(m,b2,e2):=⟨_,_,_,rfl⟩
 have hR:hdR 4611686018427387904 (br B) (slH B k)=(n,m,e2):=by unfold hdR;rw[q1];dsimp only;rw[q2]
 have hl1:b1.length<=64:=by have:=cV (slH B k) 0 4611686018427387904;rw[q1]at this;dsimp only at this;omega
 have u1:=lX (slH B k) false 0 4611686018427387904 (by omega);rw[q1]at u1;have u2:=lX b1 false e1 (br B) (by omega);rw[q2]at u2;dsimp only at u1 u2;have hb:=D8 (slH B k) (n:=4611686018427387904) (m:=br B) (by decide) hcap.1;have hno:=Cl (B:=B) (k:=k);have hyes:=GG hR;rw[hR]at hb hno;dsimp only at hb hno;obtain⟨n0,n1,m0,m1⟩:=hb;obtain⟨mn,rfl⟩:=ajO m0;rw[amw]at hyes;have f1:=Da hB p w kk k hk;have c1:=rp B false p w kk (by omega);have c2:=Bz (B.length / 64) (by omega);have c3:PC Tryz.prog 19 [.int .i64 ((B.length / 64:Nat):Int)] (.int .i64 (br B)):=C1 (B.length / 64) (by omega);have d2:=po b2 false e2;have w1:IntKind.u64.wrap (br B)=br B:=aN (by omega) (by omega);have w2:IntKind.i64.wrap (mn:Int)=mn:=aL (by omega) (by omega);have w3:n.tmod 2=n%2:=aly n0;have w4:IntKind.u64.wrap (k:Int)=k:=aN (by omega) (by omega);have hcm:mn<=slS (B.length / 64)*64:=by unfold br at m1;omega
 have hslB:slB B k mn=((B.drop ((2+k*slS (B.length / 64))*64)).take (slS (B.length / 64)*64)).take mn:=by unfold slB;rw[ak7,akA hcm]
 by_cases g1:e2=0
 case neg=>
  have hv:=hno (fun h=>g1 h.2.1);have g1':(e2 != 0)=true:=by simp[g1]
  rw[hv];try dsimp only
  clear hyes;generalize slH B k=H at *;generalize br B=C at *;refine afn 13 cm ?_;unfold bQ;refine bd ?_;refine gon ?_;refine oce [0,1] r1 ?_;refine bk ?_;refine ocg [] (Fo H) ?_;refine ocg [3] u1 ?_;refine ocg [0,1] c1 ?_;refine am c3 ?_;refine ah w1 ?_;refine oce [3] u2 ?_;refine ah w2 ?_;refine aG [3] (d2) (by(try simp only[go_sem,g1']);try exact evd) (aq.mk' (by simp) (by(try simp only[go_sem,g1']);try exact evd)) ?_;refine evg ?_;refine aM g1' ?_;refine HM [] [0,1] _ (by simp) (by first|rfl|exact evd) (by simp) rfl (by simp) (by simp) evd evd (Fh)
 subst g1;by_cases g2:n<1
 ·have hv:=hno (fun h=>by have:=h.2.2.1;omega);have g2':decide (n<1)=true:=au g2;rw[hv];try dsimp only
  clear hyes;generalize slH B k=H at *;generalize br B=C at *;refine afn 13 cm ?_;unfold bQ;refine bd ?_;refine gon ?_;refine oce [0,1] r1 ?_;refine bk ?_;refine ocg [] (Fo H) ?_;refine ocg [3] u1 ?_;refine ocg [0,1] c1 ?_;refine am c3 ?_;refine ah w1 ?_;refine oce [3] u2 ?_;refine ah w2 ?_;refine aG [3] (d2) (by(try simp only[go_sem,g2']);try exact evd) (aq.mk' (by simp) (by(try simp only[go_sem,g2']);try exact evd)) ?_;refine evg ?_;refine aM g2' ?_;refine HM [] [0,1] _ (by simp) (by first|rfl|exact evd) (by simp) rfl (by simp) (by simp) evd evd (Fh)
 have g2':decide (n<1)=false:=aA g2;by_cases g3:n%2=k
 case neg=>
  have hv:=hno (fun h=>g3 h.2.2.2.1);have g3':(n%2 != (k:Int))=true:=by simp[g3]
  rw[hv];try dsimp only
  clear hyes;generalize slH B k=H at *;generalize br B=C at *;refine afn 13 cm ?_;unfold bQ;refine bd ?_;refine gon ?_;refine oce [0,1] r1 ?_;refine bk ?_;refine ocg [] (Fo H) ?_;refine ocg [3] u1 ?_;refine ocg [0,1] c1 ?_;refine am c3 ?_;refine ah w1 ?_;refine oce [3] u2 ?_;refine ah w2 ?_;refine aG [3] (d2) (by(try simp only[go_sem,g2',w3,w4,g3']);try exact evd) (aq.mk' (by simp) (by(try simp only[go_sem,g2',w3,w4,g3']);try exact evd)) ?_;refine evg ?_;refine nC g2' w3 w4 g3' ?_;refine HM [] [0,1] _ (by simp) (by first|rfl|exact evd) (by simp) rfl (by simp) (by simp) evd evd (Fh)
 have g3':(n%2 != (k:Int))=false:=by simp[g3]
 by_cases g4:2<=B.length / 64
 case neg=>
  have hv:=hno (fun h=>g4 h.1)
  have hx:exB ((2+k*slS (B.length / 64):Nat):Int) ((slS (B.length / 64):Nat):Int) ((B.length / 64:Nat):Int)=false:=by
   unfold exB;rw[aA (p:=((2+k*slS (B.length / 64):Nat):Int)<=_) (by omega),alB,ajq]
  have r2:=Gj B p w kk _ _ (by omega) hx;rw[hv];try dsimp only
  clear hyes hcm hslB hx;generalize slH B k=H at *;generalize br B=C at *;generalize 2+k*slS (B.length / 64)=fi at *;generalize slS (B.length / 64)=sl at *;refine afn 13 cm ?_;unfold bQ;refine bd ?_;refine gon ?_;refine oce [0,1] r1 ?_;refine bk ?_;refine ocg [] (Fo H) ?_;refine ocg [3] u1 ?_;refine ocg [0,1] c1 ?_;refine am c3 ?_;refine ah w1 ?_;refine oce [3] u2 ?_;refine ah w2 ?_;refine aG [3] (d2) (by(try simp only[go_sem,g2',w3,w4,g3']);try exact evd) (aq.mk' (by simp) (by(try simp only[go_sem,g2',w3,w4,g3']);try exact evd)) ?_;refine evg ?_;refine HW g2' w3 w4 g3' ?_;refine ocg [0,1] f1 ?_;refine ocg [0,1] c1 ?_;refine ahG c2 ?_;refine oce [0,1] r2 ?_;refine aX ?_;refine HM [] [0,1] _ (by simp) (by first|rfl|exact evd) (by simp) rfl (by simp) (by simp) evd evd (Fh)
 have h1:=amz (slS (B.length / 64)) hk
 have hfit:2+k*slS (B.length / 64)+slS (B.length / 64)<=B.length / 64:=by
  have:2+2*slS (B.length / 64)<=B.length / 64:=by unfold slS;omega
  omega
 have r2:=Iy B p w kk (2+k*slS (B.length / 64)) (slS (B.length / 64)) (by omega) hfit;have hXl:((B.drop ((2+k*slS (B.length / 64))*64)).take (slS (B.length / 64)*64)).length=slS (B.length / 64)*64:=by rw[amA,ajJ];omega
 generalize hX:(B.drop ((2+k*slS (B.length / 64))*64)).take (slS (B.length / 64)*64)=X at *;have hbl:(slB B k mn).length<=1048576:=by rw[hslB,amA];omega
 have hnu:U64 n:=⟨n0,by omega⟩;have p1:=C2 hnu (slB B k mn) false (by omega);have hhl:=DF hnu (b:=slB B k mn) (by omega);have hcf:=Jf (hdr n (slB B k mn)) (by omega) (by omega);have p2:=D6 (slB B k mn) (by omega);have hfl:(full (hdr n (slB B k mn))).length=64:=by rw[cD,Cc hnu (by omega)]
 have hno':=fun h:slH B k≠full (hdr n (slB B k mn))=>hno (fun hh=>h (by have:=hh.2.2.2.2;rw[amw]at this;exact this))
 have hyes':=fun h:slH B k=full (hdr n (slB B k mn))=>hyes ⟨g4,rfl,by omega,g3,by rw[amw];exact h⟩
 have cL:=ay.lend (P:=Tryz.prog) (f:=52) (σ:=[.vec 1 (bts (full (hdr n (slB B k mn))))]) (args:=[.sl 1 false (bts (slH B k)),.hs 1 0 0 64]) (r:=.bool (slH B k==full (hdr n (slB B k mn)))) rfl (by
  have ht2:List.take 64 (bts (full (hdr n (slB B k mn))))=bts (full (hdr n (slB B k mn))):=amf (by simp[hfl]);(try simp only[go_sem,ht2,hfl,amb,al8,ama,ake,ako])
  exact YP _ _ _ _)
 have hsl2:List.take mn X=slB B k mn:=hslB.symm;clear hno hyes hslB hX h1;generalize slB B k mn=body at *;generalize ae B k=V at *;generalize slH B k=H at *;generalize hdr n body=Y at *;generalize full Y=F at *;generalize br B=C at *;generalize 2+k*slS (B.length / 64)=fi at *;generalize slS (B.length / 64)=sl at *;have tl:∀ ⦃Q:Prop⦄,(H==F)=true->Q->Q:=fun _ _ h=>h
 by_cases g5:H=F
 ·have g5':(H==F)=true:=by simp[g5]
  rw[hyes' g5];rw[g5']at cL;generalize FJ dP body=D at *;refine afn 13 cm ?_;unfold bQ;refine bd ?_;refine gon ?_;refine oce [0,1] r1 ?_;refine bk ?_;refine ocg [] (Fo H) ?_;refine ocg [3] u1 ?_;refine ocg [0,1] c1 ?_;refine am c3 ?_;refine ah w1 ?_;refine oce [3] u2 ?_;refine ah w2 ?_;refine aG [3] (d2) (by(try simp only[go_sem,g2',w3,w4,g3']);try exact evd) (aq.mk' (by simp) (by(try simp only[go_sem,g2',w3,w4,g3']);try exact evd)) ?_;refine evg ?_;refine HW g2' w3 w4 g3' ?_;refine ocg [0,1] f1 ?_;refine ocg [0,1] c1 ?_;refine ahG c2 ?_;refine oce [0,1] r2 ?_;refine dQ ?_;refine dC hXl hcm hsl2 ?_;refine am p1 ?_;refine ah hcf ?_;refine oce [4] cL ?_;refine bk ?_;refine ahG p2 ?_;exact ahY [] [0,1]
 ·have g5':(H==F)=false:=by simp[g5]
  rw[hno' g5];try dsimp only
  rw[g5']at cL;refine afn 13 cm ?_;unfold bQ;refine bd ?_;refine gon ?_;refine oce [0,1] r1 ?_;refine bk ?_;refine ocg [] (Fo H) ?_;refine ocg [3] u1 ?_;refine ocg [0,1] c1 ?_;refine am c3 ?_;refine ah w1 ?_;refine oce [3] u2 ?_;refine ah w2 ?_;refine aG [3] (d2) (by(try simp only[go_sem,g2',w3,w4,g3']);try exact evd) (aq.mk' (by simp) (by(try simp only[go_sem,g2',w3,w4,g3']);try exact evd)) ?_;refine evg ?_;refine HW g2' w3 w4 g3' ?_;refine ocg [0,1] f1 ?_;refine ocg [0,1] c1 ?_;refine ahG c2 ?_;refine oce [0,1] r2 ?_;refine dQ ?_;refine dC hXl hcm hsl2 ?_;refine am p1 ?_;refine ah hcf ?_;refine oce [4] cL ?_;refine aX ?_;refine HM [] [0,1] _ (by simp) (by first|rfl|exact evd) (by simp) rfl (by simp) (by simp) evd evd (Fh)
theorem zS:Wk (.tup [.int .u64 0,.agg (aV rD),.bool false]) (.tup [.int .u64 0,.agg (aV Fx.a),.bool false]):=Wk.tup ⟨Wk.refl _,C9,Wk.refl _,trivial⟩
theorem zK:Pu (.tup [.int .u64 0,.agg (aV rD),.bool false]):=⟨trivial,uG,trivial,trivial⟩
theorem Jt(X:List UInt8)(h1:1<=X.length)(h2:X.length<=64)(i:Nat):(full X).getD i 0=if i<X.length then X.getD i 0 else 0:=by
 unfold full;split
 ·rename_i h;rw[alt,amH h,<-alt]
 ·rename_i h;rw[alt,amX (by omega)];unfold zr;rw[ak3];split<;>rfl
theorem Kn{X Y:List UInt8}{n:Nat}(hX:X.length=n)(hY:Y.length=n)(h:∀j,j<n->X.getD j 0=Y.getD j 0):X=Y:=by
 apply alJ (by omega)
 intro i h1 h2;have:=h i (by omega);rwa [alt,alt,al6 h1,al6 h2]at this
theorem H9{a b:UInt8}:((a.toNat:Int) != (b.toNat:Int))=!(a==b):=by
 by_cases h:a=b
 ·subst h;simp
 ·have:¬ (a.toNat:Int)=(b.toNat:Int):=fun h2=>h (UInt8.toNat_inj.1 (by omega))
  have h1:((a.toNat:Int) != (b.toNat:Int))=true:=by rw[alf];exact this
  rw[h1,show (a==b)=false by simp[h]];rfl
theorem Ee {B : List UInt8} (hB : B.length <= 2097152) (k : Nat) (hk : k <= 1) :
 PC Tryz.prog 144 [.sl 1 false (bts B),.int .i64 k] (.tup [.int .u64 (ae B k).2.1,.agg (aV (ae B k).1.a),.bool (ae B k).2.2]):=by
 have hs:=HC (n:=B.length / 64) (by omega);have hcap:=Ag B hB;have q64:=Gf (n:=B.length) (by omega);by_cases q0:B.length / 64<2
 ·have hv:ae B k=(Fx,0,false):=Cl (fun h=>by have:=h.1;omega);have e1:decide (((B.length / 64:Nat):Int)<2)=true:=au (by omega);rw[hv];try dsimp only
  refine pfn 35 tQ ?_;unfold mF;refine bd ?_;refine cH q64 e1 ?_;refine⟨_,(by first|rfl|exact evd),.inr ⟨_,evd,zK,zS⟩⟩
 have e1:decide (((B.length / 64:Nat):Int)<2)=false:=aA (by omega);have v1:IntKind.i64.wrap ((k:Int)*64)=((k*64:Nat):Int):=by rw[aL (by omega) (by omega)];omega
 have v2:IntKind.i64.wrap ((k:Int)+1)=((k+1:Nat):Int):=by rw[aL (by omega) (by omega)];omega
 have v3:IntKind.i64.wrap (((k+1:Nat):Int)*64)=(((k+1)*64:Nat):Int):=by rw[aL (by omega) (by omega)];omega
 have v4:(k+1)*64-k*64=64:=by omega
 have v5:(k+1)*64<=B.length:=by omega
 have v6:k*64<=(k+1)*64:=by omega
 have v7:(B.drop (k*64)).take 64=slH B k:=rfl;have hL:(slH B k).length=64:=by unfold slH;rw[amA,ajJ];omega
 have hlim:=Kp (slH B k) (n:=4611686018427387904) (m:=br B) (by decide) (by unfold bU;omega) (by decide) hcap.1;obtain⟨n,b1,x1,q1⟩:∃n b1 x1,rN (slH B k) 0=(n,b1,x1):=⟨_,_,_,rfl⟩
 obtain⟨m,b2,x2,q2⟩:∃m b2 x2,rN b1 x1=(m,b2,x2):=⟨_,_,_,rfl⟩
 have hR:hdR bU bU (slH B k)=(n,m,x2):=by
  unfold hdR;rw[show aR (slH B k) 0 bU=_ from q1];dsimp only;rw[show aR b1 x1 bU=_ from q2]
 rw[hR]at hlim;dsimp only at hlim;obtain⟨hl1,hl2⟩:=hlim;have hm0:=D8 (slH B k) (n:=bU) (m:=bU) (by decide) (by decide);rw[hR]at hm0;dsimp only at hm0;obtain⟨n0,n1,m0,m1⟩:=hm0;have s0:slH B k <:+ slH B k:=amP _;have r1:=er (slH B k) (slH B k) 0 s0 (by omega);rw[q1]at r1;dsimp only at r1;have r2:=er (slH B k) b1 x1 r1.1 (by omega);rw[q2]at r2;dsimp only at r2;obtain⟨s1,r1⟩:=r1;obtain⟨s2,r2⟩:=r2;have hr0:sro false (slH B k) (slH B k) 0=.var [.sl 1 false (bts (slH B k)),.int .i64 0,.int .i64 0]:=by unfold sro;simp
 rw[hr0]at r1
 have hno:¬ (x2=0/\1<=n/\n<=4611686018427387904/\n%2=k/\m<=br B)->ae B k=(Fx,0,false):=fun h=>Cl (fun g=>h (by
  have g1:=hl1.1 g.2.1;have g2:=hl2 g.2.1;rw[g2]at g;exact⟨g1.1,g.2.2.1,g1.2.1,g.2.2.2.1,g1.2.2⟩))
 have hco:hdR 4611686018427387904 (br B) (slH B k)=(n,m,x2)\/¬ (x2=0/\n<=4611686018427387904/\m<=br B):=by
  by_cases g:x2=0/\n<=4611686018427387904/\m<=br B
  ·exact .inl (hl2 (hl1.2 g))
  ·exact .inr g
 have hyes:=fun h=>GG (B:=B) (k:=k) (n:=n) (m:=m) (e:=x2) h
 have hno5:=Cl (B:=B) (k:=k);have w3:n.tmod 2=n%2:=aly n0;have w4:IntKind.u64.wrap (k:Int)=k:=aN (by omega) (by omega);have w1:IntKind.u64.wrap (br B)=br B:=aN (by omega) (by omega);have c3:PC Tryz.prog 20 [.int .i64 ((B.length / 64:Nat):Int)] (.int .i64 (br B)):=ER (B.length / 64) (by omega);have hsr:sro false (slH B k) b2 x2=.var [.sl 1 false (bts (slH B k)),.int .i64 (((slH B k).length-b2.length:Nat):Int),.int .i64 x2]:=rfl;by_cases g:x2=0/\1<=n/\n<=4611686018427387904/\n%2=k/\m<=br B
 case neg=>
  rw[hno g];try dsimp only
  have hf : ∃ f1 f2 f3 f4 f5 : Bool, (x2 != 0) = f1 /\ decide (n < 1) = f2 /\ decide (4611686018427387904 < n) = f3 /\ (n % 2 != (k : Int)) = f4 /\ decide (br B < m) = f5 /\ (f1 || f2 || f3 || f4 || f5) = true := ⟨_, _, _, _, _, rfl, rfl, rfl, rfl, rfl, by
   by_cases a1:x2=0
   ·by_cases a2:n<1
    ·simp[a2]
    ·by_cases a3:4611686018427387904<n
     ·simp[a3]
     ·by_cases a4:n%2=k
      ·have a5:br B<m:=by
        by_cases a5:br B<m
        ·exact a5
        ·exact absurd ⟨a1,by omega,by omega,a4,by omega⟩ g
       simp[a5]
      ·simp[a4]
   ·simp[a1]⟩
  clear hno hno5 hyes hco hl1 hl2 g;obtain⟨f1,f2,f3,f4,f5,t1,t2,t3,t4,t5,ht⟩:=hf;rw[hsr]at r2;generalize slH B k=H at *;generalize br B=C at *;refine pfn 35 tQ ?_;unfold mF;refine bd ?_;refine fp q64 e1 ?_;refine jO v1 v2 v3 v4 v5 v6 v7 ?_;refine ocg [1] r1 ?_;refine oce [1] r2 ?_;cases f1 with
  | true =>
    refine aM t1 ?_;refine⟨_,(by first|rfl|exact evd),.inr ⟨_,evd,zK,zS⟩⟩
  |false=>
  cases f2 with
  | true =>
    refine cH t1 t2 ?_;refine⟨_,(by first|rfl|exact evd),.inr ⟨_,evd,zK,zS⟩⟩
  |false=>
  cases f3 with
  | true =>
    refine fI t1 t2 t3 ?_;refine⟨_,(by first|rfl|exact evd),.inr ⟨_,evd,zK,zS⟩⟩
  |false=>
  cases f4 with
  | true =>
    refine eV t1 t2 t3 w3 w4 t4 ?_;refine agF ?_;refine⟨_,(by first|rfl|exact evd),.inr ⟨_,evd,zK,zS⟩⟩
  | false =>
    have h5:f5=true:=by simpa using ht
    subst h5;refine eV t1 t2 t3 w3 w4 t4 ?_;refine am c3 ?_;refine cH w1 t5 ?_;refine⟨_,(by first|rfl|exact evd),.inr ⟨_,evd,zK,zS⟩⟩
 obtain⟨rfl,g1,g2,g3,g4⟩:=g;have hR2:hdR 4611686018427387904 (br B) (slH B k)=(n,m,0):=hco.resolve_right fun h=>h ⟨rfl,g2,g4⟩
 replace hyes:=hyes hR2
 rw[hR2]at hno5;dsimp only at hno5;obtain⟨mn,rfl⟩:=ajO m0;rw[amw]at hyes;have t2:decide (n<1)=false:=aA (by omega);have t3:decide (4611686018427387904<n)=false:=aA (by omega);have t4:(n%2 != (k:Int))=false:=by simp[g3]
 have t5:decide (br B<(mn:Int))=false:=aA (by omega);have hcm:mn<=slS (B.length / 64)*64:=by unfold br at g4;omega
 have h1:=amz (slS (B.length / 64)) hk
 have hfit:2+k*slS (B.length / 64)+slS (B.length / 64)<=B.length / 64:=by
  have:2+2*slS (B.length / 64)<=B.length / 64:=by unfold slS;omega
  omega
 have y1:IntKind.i64.wrap (((B.length / 64:Nat):Int)-2)=((B.length / 64-2:Nat):Int):=by rw[aL (by omega) (by omega)];omega
 have y2:IntKind.i64.wrap (Int.tdiv ((B.length / 64-2:Nat):Int) 2)=((slS (B.length / 64):Nat):Int):=by
  have h3:Int.tdiv ((B.length / 64-2:Nat):Int) 2=((slS (B.length / 64):Nat):Int):=by unfold slS;rw[ajC (by omega)];omega
  rw[h3];exact aL (by omega) (by omega)
 have y3:IntKind.i64.wrap ((k:Int)*((slS (B.length / 64):Nat):Int))=((k*slS (B.length / 64):Nat):Int):=by rw[<-Int.natCast_mul];exact aL (by omega) (by omega)
 have y4:IntKind.i64.wrap (2+((k*slS (B.length / 64):Nat):Int))=((2+k*slS (B.length / 64):Nat):Int):=by rw[aL (by omega) (by omega)];omega
 have y5:IntKind.i64.wrap (((2+k*slS (B.length / 64):Nat):Int)*64)=(((2+k*slS (B.length / 64))*64:Nat):Int):=by rw[aL (by omega) (by omega)];omega
 have y6:IntKind.i64.wrap (mn:Int)=(mn:Int):=aL (by omega) (by omega);have y7:IntKind.i64.wrap ((((2+k*slS (B.length / 64))*64:Nat):Int)+(mn:Int))=(((2+k*slS (B.length / 64))*64+mn:Nat):Int):=by rw[aL (by omega) (by omega)];omega
 have y8:(2+k*slS (B.length / 64))*64+mn-(2+k*slS (B.length / 64))*64=mn:=by omega
 have y9:(2+k*slS (B.length / 64))*64+mn<=B.length:=by omega
 have yA:(B.drop ((2+k*slS (B.length / 64))*64)).take mn=slB B k mn:=rfl;have yB:(2+k*slS (B.length / 64))*64<=(2+k*slS (B.length / 64))*64+mn:=ajI _ _;have hbl:(slB B k mn).length<=1048576:=by unfold slB;rw[amA];omega
 have hnu:U64 n:=⟨n0,by omega⟩;have p1:=E3 hnu (slB B k mn) false (by omega);have hhl:=DF hnu (b:=slB B k mn) (by omega);have p2:=Ja (slB B k mn) (by omega);rw[<-Js (by omega)]at p2;have hfl:(full (hdr n (slB B k mn))).length=64:=by rw[cD,Cc hnu (by omega)]
 have hno':=fun h:slH B k≠full (hdr n (slB B k mn))=>hno5 (fun hh=>h (by have:=hh.2.2.2.2;rw[amw]at this;exact this))
 have hyes':=fun h:slH B k=full (hdr n (slB B k mn))=>hyes ⟨by omega,rfl,by omega,g3,by rw[amw];exact h⟩
 have hfg:=Jt (hdr n (slB B k mn)) (by omega) (by omega);clear hno hno5 hyes hco hl1 hl2 h1 hR hR2;rw[hsr]at r2;generalize slB B k mn=body at *;generalize ae B k=V at *;generalize hH:slH B k=H at *;generalize hdr n body=Y at *;generalize full Y=F at *;generalize br B=C at *;generalize slS (B.length / 64)=sl at *;refine pfn 35 tQ ?_;unfold mF;refine bd ?_;refine fp q64 e1 ?_;refine mP v1 v2 v3 v4 v5 v6 v7 hH ?_;refine ocg [1] r1 ?_;refine oce [1] r2 ?_;refine eU t2 t3 w3 w4 t4 ?_;refine am c3 ?_;refine fp w1 t5 ?_;repeat(first|refine bY ?_|simp only[go_sem,y1,y2,y3,y4,y5,y6,y7,y8,y9,yA,yB])
 refine ahG p1 ?_;refine az (fun i:Nat=>[(9,.dead),(34,.dead),(15,.int .i64 i)]) (fun _=>[.var (aV rD)]) (fun i=>64-i) (fun i=>i<=64/\∀j,j<i->H.getD j 0=F.getD j 0) 0 ⟨amc _,fun j h=>absurd h (aju _)⟩ ?_ ?_
 ·exact ais [] [0]
 rintro i ⟨hi,hall⟩;refine dp ?_;by_cases hi1:i<64
 ·have z1:decide ((i:Int)<64)=true:=au (by omega)
  have hw:=af hi1 (by omega);have hgd:(bts H).getD i []=[.int .u8 ((H.getD i 0).toNat:Int)]:=by rw[HT (by omega),alt,al6 (by omega)];rfl
  have hii:i<H.length:=by omega
  have hF:=hfg i;by_cases hi2:i<Y.length
  ·have z2:decide ((i:Int)<(Y.length:Int))=true:=au (by omega)
   have hgy:(bts Y).getD i []=[.int .u8 ((Y.getD i 0).toNat:Int)]:=by rw[HT (by omega),alt,al6 (by omega)];rfl
   rw[al7 hi2]at hF;rw[<-hF]at hgy;by_cases hc:H.getD i 0=F.getD i 0
   ·have z3:(((H.getD i 0).toNat:Int) != ((F.getD i 0).toNat:Int))=false:=by rw[H9,hc];simp
    have hst:∀j,j<i+1->H.getD j 0=F.getD j 0:=fun j hj=>by
     by_cases hji:j=i
     ·rw[hji];exact hc
     ·exact hall j (by omega)
    generalize H.getD i 0=x at *;generalize F.getD i 0=y at *;refine bw z1 ?_;refine bw z2 ?_;refine eU hgd hgy hi2 hii z3 ?_;refine aB ?_;refine ah hw ?_;refine⟨i+1,⟨hi1,hst⟩,by omega,?_⟩;exact ais [] [0]
   ·have z3:(((H.getD i 0).toNat:Int) != ((F.getD i 0).toNat:Int))=true:=by rw[H9,beq_false_of_ne hc];rfl
    rw[hno' fun h=>hc (by rw[h])];try dsimp only
    generalize H.getD i 0=x at *;generalize F.getD i 0=y at *;refine bw z1 ?_;refine bw z2 ?_;refine eU hgd hgy hi2 hii z3 ?_;refine agF ?_;refine⟨_,(by first|rfl|exact evd),.inr ⟨_,evd,zK,zS⟩⟩
  ·have z2:decide ((i:Int)<(Y.length:Int))=false:=aA (by omega)
   rw[al5 hi2]at hF;by_cases hc:H.getD i 0=F.getD i 0
   ·have z3:(((H.getD i 0).toNat:Int) != 0)=false:=by rw[hc,hF];rfl
    have hst:∀j,j<i+1->H.getD j 0=F.getD j 0:=fun j hj=>by
     by_cases hji:j=i
     ·rw[hji];exact hc
     ·exact hall j (by omega)
    generalize H.getD i 0=x at *;refine bw z1 ?_;refine bJ z2 ?_;refine zh hgd hii z3 ?_;refine ah hw ?_;refine⟨i+1,⟨hi1,hst⟩,by omega,?_⟩;exact ais [] [0]
   ·have z3:(((H.getD i 0).toNat:Int) != 0)=true:=by
     have:=H9 (a:=H.getD i 0) (b:=0);rw[hF]at hc;rw[beq_false_of_ne hc]at this;exact this
    rw[hno' fun h=>hc (by rw[h])];try dsimp only
    generalize H.getD i 0=x at *;refine bw z1 ?_;refine bJ z2 ?_;refine fI hgd hii z3 ?_;refine⟨_,(by first|rfl|exact evd),.inr ⟨_,evd,zK,zS⟩⟩
 ·obtain rfl:i=64:=by omega
  have hHF:H=F:=Kn hL hfl hall;rw[hyes' hHF];generalize FJ dP body=D at *;refine bk ?_;refine ahG p2 ?_;exact ai
theorem Gp(B:List UInt8)(k:Nat)(hB:B.length<=2097152):PC Tryz.prog 15 [.agg (aV (ae B k).1.a),.agg (aV (ae B k).1.a)] (.bool true):=by
 unfold ae Db;split
 ·refine Jn Hk (b:=slB B k _) ?_;unfold slB;rw[amA];have:=(Ag B hB).2;have h:=(D8 (slH B k) (n:=4611686018427387904) (m:=br B) (by decide) (Ag B hB).1).2.2.2;omega
 ·exact Fq _ Kc (amc _) (amc _)
theorem JU(B:List UInt8)(hB:B.length<=2097152):PC Tryz.prog 15 [.agg (aV (cr B).1.a),.agg (aV (cr B).1.a)] (.bool true):=by
 unfold cr;split
 ·exact Gp B 1 hB
 ·split
  ·exact Gp B 0 hB
  ·exact Fq _ Kc (amc _) (amc _)
theorem Ib{B:List UInt8}(h0:(ae B 0).2.2=false)(h1:(ae B 1).2.2=false):cr B=(Fx,0,25):=by
 unfold cr;rw[al5 (fun h=>by rw[h1]at h;cases h.1),al5 (fun h=>by rw[h0]at h;cases h)]
theorem Jy{B:List UInt8}(h0:(ae B 0).2.2=true)(h:(ae B 1).2.2=true->¬ (ae B 0).2.1<(ae B 1).2.1):cr B=((ae B 0).1,(ae B 0).2.1,0):=by
 unfold cr;rw[al5 (fun q=>h q.1 (q.2 h0)),al7 h0]
theorem JS{B:List UInt8}(h1:(ae B 1).2.2=true)(h:(ae B 0).2.2=true->(ae B 0).2.1<(ae B 1).2.1):cr B=((ae B 1).1,(ae B 1).2.1,0):=by
 unfold cr;rw[al7 ⟨h1,h⟩]
theorem Kl:Wk (.tup [.agg (aV rD),.int .u64 0,.int .i64 25]) (.tup [.agg (aV Fx.a),.int .u64 0,.int .i64 25]):=Wk.tup ⟨C9,Wk.refl _,Wk.refl _,trivial⟩
theorem K2:Pu (.tup [.agg (aV rD),.int .u64 0,.int .i64 25]):=⟨uG,trivial,trivial,trivial⟩
theorem yx{B:List UInt8}(hB:B.length<=2097152)(h64:64<=B.length)(p:Bool)(w kk:Int):
 ay Tryz.prog 57 [.ptr 1 0] (dvs B false p w kk) (.tup [.agg (aV (cr B).1.a),.int .u64 (cr B).2.1,.int .i64 (cr B).2.2]) (dvs B false p w kk):=by
 have l0:=Eb hB h64 p w kk 0 (by decide);have l1:=Eb hB h64 p w kk 1 (by decide);have h0:=Cm (B:=B) (k:=0);have h1:=Cm (B:=B) (k:=1);have kf:=Ib (B:=B);have k0:=Jy (B:=B);have k1:=JS (B:=B);generalize cr B=V at *;generalize ae B 0=V0 at *;generalize ae B 1=V1 at *;obtain⟨S0,n0,o0⟩:=V0;obtain⟨S1,n1,o1⟩:=V1;dsimp only at *;have cc:=B6 B false p w kk;have wl:IntKind.i64.wrap (0+1)=1:=by decide
 have wl2:IntKind.i64.wrap (1+1)=2:=by decide
 refine afn 13 De ?_;unfold yJ;refine bd ?_;refine gon ?_;refine oce [0,1] cc ?_;refine bk ?_;refine lV 3 (gY ?_);refine aX ?_;refine oce [0,1] l0 ?_;cases o0 with
 | false =>
   refine dQ ?_;refine ah wl ?_;refine gY ?_;refine aX ?_;refine oce [0,1] l1 ?_;cases o1 with
   | false =>
     rw[kf rfl rfl];refine dQ ?_;refine ah wl2 ?_;refine gY ?_;refine bk ?_;refine HM [] [0,1] _ (by simp) (by first|rfl|exact evd) (by simp) rfl (by simp) (by simp) evd evd (Kl)
   | true =>
     have h2:decide (n1 > 0)=true:=au (by have:=(h1 rfl).1;omega);rw[k1 rfl (fun h=>by cases h)];refine bw h2 ?_;refine ah wl2 ?_;refine gY ?_;refine bk ?_;exact ahY [] [0,1]
 | true =>
   have h2:decide (n0 > 0)=true:=au (by have:=(h0 rfl).1;omega);refine bw h2 ?_;refine ah wl ?_;refine gY ?_;refine aX ?_;refine oce [0,1] l1 ?_;cases o1 with
   | false =>
     rw[k0 rfl (fun h=>by cases h)];refine dQ ?_;refine ah wl2 ?_;refine gY ?_;refine bk ?_;exact ahY [] [0,1]
   | true =>
     by_cases h3:n0<n1
     ·have h4:decide (n1 > n0)=true:=au h3;rw[k1 rfl (fun _=>h3)];refine bw h4 ?_;refine ah wl2 ?_;refine gY ?_;refine bk ?_;exact ahY [] [0,1]
     ·have h4:decide (n1 > n0)=false:=aA h3;rw[k0 rfl (fun _=>h3)];refine bJ h4 ?_;refine ah wl2 ?_;refine gY ?_;refine bk ?_;exact ahY [] [0,1]
theorem I1{B:List UInt8}(hB:B.length<=2097152):PC Tryz.prog 69 [.sl 1 false (bts B)] (.tup [.agg (aV (cr B).1.a),.int .u64 (cr B).2.1,.int .i64 (cr B).2.2]):=by
 have l0:=Ee hB 0 (by decide);have l1:=Ee hB 1 (by decide);have h0:=Cm (B:=B) (k:=0);have h1:=Cm (B:=B) (k:=1);have kf:=Ib (B:=B);have k0:=Jy (B:=B);have k1:=JS (B:=B);generalize cr B=V at *;generalize ae B 0=V0 at *;generalize ae B 1=V1 at *;obtain⟨S0,n0,o0⟩:=V0;obtain⟨S1,n1,o1⟩:=V1;dsimp only at *;refine pfn 37 Fy ?_;unfold BT;refine bd ?_;refine gon ?_;refine ahG l0 ?_;refine am l1 ?_;cases o0 with
 | false =>
   cases o1 with
   | false =>
     rw[kf rfl rfl];refine bk ?_;refine agE ?_;refine⟨_,(by first|rfl|exact evd),.inr ⟨_,evd,K2,Kl⟩⟩
   | true =>
     rw[k1 rfl (fun h=>by cases h)];refine bk ?_;refine agF ?_;exact ai
 | true =>
   cases o1 with
   | false =>
     rw[k0 rfl (fun h=>by cases h)];refine aX ?_;exact ai
   | true =>
     have a0:=(h0 rfl).2.2;have a1:=(h1 rfl).2.2;by_cases h3:n0<n1
     ·have h4:decide (n0 > n1)=false:=aA (by omega);rw[k1 rfl (fun _=>h3)];refine aF h4 ?_;refine agF ?_;exact ai
     ·have h4:decide (n0 > n1)=true:=au (by omega);rw[k0 rfl (fun _=>h3)];refine aM h4 ?_;exact ai
theorem Ho{B:List UInt8}(hB:B.length<=2097152)(h64:64<=B.length):ay Tryz.prog 23 [.ptr 1 0] (dvs B false false 0 0) (.bool true) (dvs B false false 0 0):=by
 have c1:=yx hB h64 false 0 0;have c2:=I1 hB;have c3:=JU B hB;have ci:=Hg B false false 0 0 (by omega);have e1:∀n:Int,(n==n)=true:=fun n=>by simp
 generalize cr B=V at *;refine afn 9 Ej ?_;unfold AS;refine bd ?_;refine gon ?_;refine ocg [0,1] c1 ?_;refine ocg [0,1] ci ?_;refine am c2 ?_;refine ah e1 ?_;refine ahG c3 ?_;exact ahY [] [0,1]
theorem Iz{B:List UInt8}{s:aI}(h:afK s)(hv:pn s=0){n:Int}(hn:n=(cr B).2.1+1)(G:yL B n (ej s)):
 ay Tryz.prog 22 [.ptr 1 0,.agg (aV s.a)] (dvs B false false 0 0) (.tup [.int .u64 n,.int .i64 0]) (dvs (dS B n (ej s)) false false 0 0):=by
 have hB:=G.B1;have h64:64<=B.length:=by have:=G.at2.2;omega
 have c1:=D7 s h;have hb:Dt s=ej s:=by unfold Dt;rw[al7 hv]
 rw[hv,hb]at c1;have cc:=B6 B false false 0 0;have c2:=yx hB h64 false 0 0;have c3:=rp B false false 0 0 (by omega);have c4:PC Tryz.prog 19 [.int .i64 ((B.length / 64:Nat):Int)] (.int .i64 (br B)):=C1 (B.length / 64) (by omega);have hcap:=Ag B hB;have hk:(n%2).toNat<=1:=by omega
 have f1:=Da hB false 0 0 (n%2).toNat hk;obtain⟨k1,k2⟩:=G.at1 hk;obtain⟨k3,k4⟩:=G.at2;have g0:=G.b0;have g1:=G.b1;have g2:=G.n0;have g3:=G.n1;have hne:ej s≠[]:=fun h=>by rw[h]at g0;exact absurd g0 (by decide)
 have p1:=C2 G.u (ej s) false (by unfold slS at g1;omega);have hhl:=DF G.u (b:=ej s) (by unfold slS at g1;omega);have hnh:=Cc G.u (b:=ej s) (by unfold slS at g1;omega);rw[cD]at k1;have w1:ay Tryz.prog 67 [.ptr 1 0,.int .i64 ((2+(n%2).toNat*slS (B.length / 64):Nat):Int),.sl 1 false (bts (ej s))] (dvs B false false 0 0) (.int .i64 0) (dvs (over B ((2+(n%2).toNat*slS (B.length / 64))*64) (full (ej s))) false false 0 0):=G0 B false 0 0 _ (ej s) false (by omega) hne (by decide) (by decide) (by omega);have hl1:(over B ((2+(n%2).toNat*slS (B.length / 64))*64) (full (ej s))).length=B.length:=cK _ _ _ (by rw[cD];omega);have w2:ay Tryz.prog 67 [.ptr 1 0,.int .i64 (((n%2).toNat:Nat):Int),.sl 1 false (bts (hdr n (ej s)))] (dvs (over B ((2+(n%2).toNat*slS (B.length / 64))*64) (full (ej s))) false false 0 0) (.int .i64 0) (dvs (dS B n (ej s)) false false 0 0):=G0 _ false 0 0 _ _ false (by rw[hl1];omega) (fun h=>by rw[h]at hhl;simp at hhl) (by decide) (by decide) (by rw[hnh,hl1];omega);have q1:decide (((ej s).length:Int) > br B)=false:=aA (by unfold br;omega);have q2:decide ((cr B).2.1 ≥ 4611686018427387904)=false:=aA (by omega);have u1:IntKind.u64.wrap ((cr B).2.1+1)=n:=by rw[<-hn];exact aN (by omega) (by omega)
 have u2:n.tmod 2=(((n%2).toNat:Nat):Int):=by rw[aly (by omega)];omega
 have u3:IntKind.i64.wrap (((n%2).toNat:Nat):Int)=(((n%2).toNat:Nat):Int):=aL (by omega) (by omega);clear hne hhl hnh hl1 hn k1 k2 k3 g0 g1;generalize dS B n (ej s)=B2 at *;generalize over B ((2+(n%2).toNat*slS (B.length / 64))*64) (full (ej s))=B1 at *;generalize 2+(n%2).toNat*slS (B.length / 64)=fi at *;generalize (n%2).toNat=sl at *;generalize hdr n (ej s)=H at *;generalize ej s=b at *;generalize cr B=V at *;generalize br B=C at *;refine afn 13 Df ?_;unfold yK;refine bd ?_;refine gon ?_;refine oce [0,1] cc ?_;refine bk ?_;refine am c1 ?_;refine bk ?_;refine ocg [0,1] c2 ?_;refine ocg [0,1] c3 ?_;refine am c4 ?_;refine fp q1 q2 ?_;refine dC u1 u2 u3 ?_;refine ocg [0,1] f1 ?_;refine oce [0,1] w1 ?_;refine bk ?_;refine ahG p1 ?_;refine oce [0,1] w2 ?_;refine bk ?_;exact ahY [] [0,1]
end Go.Proofs.YtflhnmleodkjiaaGreat
