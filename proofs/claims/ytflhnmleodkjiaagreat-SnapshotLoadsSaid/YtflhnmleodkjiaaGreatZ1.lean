/- Joined. -/
import Derived.Test.YtflhnmleodkjiaaGreatW3
import Derived.Test.YtflhnmleodkjiaaGreatChecked
import Derived.KernelRfl
import Derived.Test.YtflhnmleodkjiaaGreatO7
import Derived.Test.YtflhnmleodkjiaaGreatH1
set_option maxRecDepth 100000
set_option maxHeartbeats 4000000
set_option linter.unusedVariables false
set_option linter.unusedSimpArgs false
namespace Go.Proofs.YtflhnmleodkjiaaGreat
open Go Go.FH
def DX:ab:=nfO (P:=Tryz.prog) 59
theorem Hf:aJ Tryz.prog 59=some (18,[.tmp 4],DX):=by kernel_rfl
def vz:ab:=nfO (P:=Tryz.prog) 20
theorem CR:aJ Tryz.prog 20=some (9,[.tmp 2],vz):=by kernel_rfl
def yZ:ab:=nfO (P:=Tryz.prog) 18
theorem D5:aJ Tryz.prog 18=some (20,[.tmp 4],yZ):=by kernel_rfl
def BT:ab:=nfO (P:=Tryz.prog) 69
theorem Fy:aJ Tryz.prog 69=some (41,[.cell 2 true 252,.tmp 3,.tmp 4],BT):=by kernel_rfl
def mF:ab:=nfO (P:=Tryz.prog) 144
theorem tQ:aJ Tryz.prog 144=some (112,[.tmp 4,.cell 5 true 252,.tmp 6],mF):=by kernel_rfl
def B4:ab:=nfO (P:=Tryz.prog) 62
theorem FQ:aJ Tryz.prog 62=some (20,[.tmp 4],B4):=by kernel_rfl
def qj:ab:=nfO (P:=Tryz.prog) 19
theorem AE:aJ Tryz.prog 19=some (6,[.tmp 2],qj):=by kernel_rfl
def uL:ab:=nfO (P:=Tryz.prog) 17
theorem Cb:aJ Tryz.prog 17=some (20,[.tmp 4],uL):=by kernel_rfl
def yJ:ab:=nfO (P:=Tryz.prog) 57
theorem De:aJ Tryz.prog 57=some (34,[.cell 2 true 252,.tmp 3,.tmp 4],yJ):=by kernel_rfl
def yK:ab:=nfO (P:=Tryz.prog) 22
theorem Df:aJ Tryz.prog 22=some (63,[.tmp 4,.tmp 5],yK):=by kernel_rfl
def wm:ab:=nfO (P:=Tryz.prog) 68
theorem C0:aJ Tryz.prog 68=some (11,[.tmp 4],wm):=by kernel_rfl
def bQ:ab:=nfO (P:=Tryz.prog) 142
theorem cm:aJ Tryz.prog 142=some (85,[.cell 4 true 252,.tmp 5,.tmp 6],bQ):=by kernel_rfl
def ni:ab:=nfO (P:=Tryz.prog) 64
theorem yn:aJ Tryz.prog 64=some (7,[.tmp 2],ni):=by kernel_rfl
def j0:ab:=nfO (P:=Tryz.prog) 4
theorem xo:aJ Tryz.prog 4=some (33,[.tmp 6],j0):=by kernel_rfl
def pd:ab:=nfO (P:=Tryz.prog) 6
theorem yP:aJ Tryz.prog 6=some (34,[.tmp 2],pd):=by kernel_rfl
def AM:ab:=nfO (P:=Tryz.prog) 16
theorem Ei:aJ Tryz.prog 16=some (95,[.tmp 0],AM):=by kernel_rfl
def AS:ab:=nfO (P:=Tryz.prog) 23
theorem Ej:aJ Tryz.prog 23=some (35,[.tmp 2],AS):=by kernel_rfl
end Go.Proofs.YtflhnmleodkjiaaGreat
namespace Go.Proofs.YtflhnmleodkjiaaGreat
open Go Go.FH Go.RowKit
def wd8(n:Int):List UInt8:=[LM (fJ .u64 n 56),LM (fJ .u64 n 48),LM (fJ .u64 n 40),LM (fJ .u64 n 32),LM (fJ .u64 n 24),LM (fJ .u64 n 16),LM (fJ .u64 n 8),LM (fJ .u64 n 0)]
theorem aAs(a b c:Nat):a+b+c=a+(b+c):=am1 a b c
theorem EY(n:Int):Jv 59 [.int .u64 n] (wd8 n):=by
 intro bs hb;refine afn 6 Hf ?_;unfold DX;refine bd ?_;refine gon ?_;have hb':bs.length+8<=140737488355328:=hb;have e1:∀u:UInt8,[[AV.int .u8 (u.toNat:Int)]]=bts [u]:=fun u=>rfl
 have e2:bs++wd8 n=bs++[LM (fJ .u64 n 56)]++[LM (fJ .u64 n 48)]++[LM (fJ .u64 n 40)]++[LM (fJ .u64 n 32)]++[LM (fJ .u64 n 24)]++[LM (fJ .u64 n 16)]++[LM (fJ .u64 n 8)]++[LM (fJ .u64 n 0)]:=by simp[wd8]
 have e3:(wd8 n).length=8:=rfl;rw[e2,e3];have ws:IntKind.i64.wrap (56-8)=48/\IntKind.i64.wrap (48-8)=40/\IntKind.i64.wrap (40-8)=32/\IntKind.i64.wrap (32-8)=24/\IntKind.i64.wrap (24-8)=16/\IntKind.i64.wrap (16-8)=8/\IntKind.i64.wrap (8-8)=0/\IntKind.i64.wrap (0-8)=-8:=by decide
 refine lV 9 (gY ?_);refine U6 vQ e1 ws aAs ?_;refine pz vQ e1 ws aAs ?_;refine gY ?_;refine U6 vQ e1 ws aAs ?_;refine pz vQ e1 ws aAs ?_;refine gY ?_;refine U6 vQ e1 ws aAs ?_;refine pz vQ e1 ws aAs ?_;refine gY ?_;refine U6 vQ e1 ws aAs ?_;refine pz vQ e1 ws aAs ?_;refine gY ?_;refine U6 vQ e1 ws aAs ?_;refine pz vQ e1 ws aAs ?_;refine gY ?_;refine U6 vQ e1 ws aAs ?_;refine pz vQ e1 ws aAs ?_;refine gY ?_;refine U6 vQ e1 ws aAs ?_;refine pz vQ e1 ws aAs ?_;refine gY ?_;refine U6 vQ e1 ws aAs ?_;refine pz vQ e1 ws aAs ?_;refine gY ?_;refine bk ?_;exact ahY [] [0,8]
theorem Fg(n:Int):Jv 62 [.int .u64 n] (wd8 n):=by
 intro bs hb;refine afn 6 FQ ?_;unfold B4;refine bd ?_;refine gon ?_;have hb':bs.length+8<=140737488355328:=hb;have e1:∀u:UInt8,[[AV.int .u8 (u.toNat:Int)]]=bts [u]:=fun u=>rfl
 have e2:bs++wd8 n=bs++[LM (fJ .u64 n 56)]++[LM (fJ .u64 n 48)]++[LM (fJ .u64 n 40)]++[LM (fJ .u64 n 32)]++[LM (fJ .u64 n 24)]++[LM (fJ .u64 n 16)]++[LM (fJ .u64 n 8)]++[LM (fJ .u64 n 0)]:=by simp[wd8]
 have e3:(wd8 n).length=8:=rfl;rw[e2,e3]
 have ws:IntKind.i64.wrap (7-1)=6/\IntKind.i64.wrap (8*7)=56/\IntKind.u64.wrap 56=56/\IntKind.i64.wrap (6-1)=5/\IntKind.i64.wrap (8*6)=48/\IntKind.u64.wrap 48=48/\IntKind.i64.wrap (5-1)=4/\IntKind.i64.wrap (8*5)=40/\IntKind.u64.wrap 40=40/\IntKind.i64.wrap (4-1)=3/\IntKind.i64.wrap (8*4)=32/\IntKind.u64.wrap 32=32/\IntKind.i64.wrap (3-1)=2/\IntKind.i64.wrap (8*3)=24/\IntKind.u64.wrap 24=24/\IntKind.i64.wrap (2-1)=1/\IntKind.i64.wrap (8*2)=16/\IntKind.u64.wrap 16=16/\IntKind.i64.wrap (1-1)=0/\IntKind.i64.wrap (8*1)=8/\IntKind.u64.wrap 8=8/\IntKind.i64.wrap (0-1)=-1/\IntKind.i64.wrap (8*0)=0:=by decide
 refine lV 9 (gY ?_);refine U6 vQ e1 ws aAs ?_;refine pz vQ e1 ws aAs ?_;refine gY ?_;refine U6 vQ e1 ws aAs ?_;refine pz vQ e1 ws aAs ?_;refine gY ?_;refine U6 vQ e1 ws aAs ?_;refine pz vQ e1 ws aAs ?_;refine gY ?_;refine U6 vQ e1 ws aAs ?_;refine pz vQ e1 ws aAs ?_;refine gY ?_;refine U6 vQ e1 ws aAs ?_;refine pz vQ e1 ws aAs ?_;refine gY ?_;refine U6 vQ e1 ws aAs ?_;refine pz vQ e1 ws aAs ?_;refine gY ?_;refine U6 vQ e1 ws aAs ?_;refine pz vQ e1 ws aAs ?_;refine gY ?_;refine U6 vQ e1 ws aAs ?_;refine pz vQ e1 ws aAs ?_;refine gY ?_;refine bk ?_;exact ahY [] [0,8]
def cx(n:Int)(b:List UInt8):List UInt8:=bF n.toNat++bF b.length++wd8 (yX b)
def hdr(n:Int)(b:List UInt8):List UInt8:=cx n b++wd8 (yX (cx n b))
theorem ar(n:Int):(wd8 n).length=8:=rfl
theorem C2{n:Int}(hn:U64 n)(b:List UInt8)(cl:Bool)(hb:b.length<=2097152):PC Tryz.prog 17 [.int .u64 n,.sl 1 cl (bts b)] (.sl 1 false (bts (hdr n b))):=by
 refine pfn 6 Cb ?_;unfold uL;refine bd ?_;have l1:=hn.len;have l2:=dT (n:=b.length) (by omega);have p1:=(gL n hn.lo hn.hi).nil (by omega);have p2:=(gL (b.length:Int) (by omega) (by omega)).own (bF n.toNat) (by rw[amw];omega);rw[amw]at p2;have c1:=GX b cl (by omega);have p3:=EY (yX b) (bF n.toNat++bF b.length) (by simp only[akC,ar];omega);have hl:(cx n b).length=(bF n.toNat).length+(bF b.length).length+8:=by unfold cx;simp only[akC,ar]
 have c2:=GX (cx n b) false (by omega);have p4:=EY (yX (cx n b)) (cx n b) (by rw[hl,ar];omega);have hw:IntKind.u64.wrap (b.length:Int)=b.length:=aN (by omega) (by omega)
 have cL:=ay.lend (σ:=[.vec 1 (bts (cx n b))]) (args:=[.hs 1 0 0 (cx n b).length]) (r:=.int .u64 (yX (cx n b))) rfl (by
  have ht2:List.take (cx n b).length (bts (cx n b))=bts (cx n b):=amf (by simp);(try simp only[go_sem,ht2,al8,ama,ake,ako])
  exact c2)
 have h0:bts (bF n.toNat++bF b.length++wd8 (yX b))=bts (cx n b):=rfl;rw[h0,akC,ar]at p3;rw[show cx n b++wd8 (yX (cx n b))=hdr n b from rfl,hl,ar]at p4;rw[hl]at cL;have ht:List.take ((bF n.toNat).length+(bF b.length).length+8+8) (hdr n b)=hdr n b:=amf (by unfold hdr;simp[ar,hl]);have hle:(bF n.toNat).length+(bF b.length).length+8+8<=(hdr n b).length:=by unfold hdr;simp[ar,hl]
 generalize yX (cx n b)=S at *;generalize hdr n b=H at *;generalize cx n b=H0 at *;refine gon ?_;refine oce [] p1 ?_;refine ah hw ?_;refine ocg [0] p2 ?_;refine ahG c1 ?_;refine ocg [1] p3 ?_;refine ocg [2] cL ?_;refine oce [2] p4 ?_;refine aZ ht hle ?_;refine⟨_,(by first|rfl|exact evd),.inl ?_⟩;(try simp only[go_sem,Nat.reduceAdd,Nat.reduceSub,Nat.reduceMul,Nat.reduceLT,Nat.reduceLeDiff,Nat.reduceEqDiff,reduceIte,Int.reduceToNat,Int.reduceLT,Int.reduceLE,Int.reduceEq,Int.reduceNeg,reduceCtorEq,Int.reduceBEq,Int.reduceBNe,ht,hle])
theorem E3{n:Int}(hn:U64 n)(b:List UInt8)(cl:Bool)(hb:b.length<=2097152):PC Tryz.prog 18 [.int .u64 n,.sl 1 cl (bts b)] (.sl 1 false (bts (hdr n b))):=by
 refine pfn 6 D5 ?_;unfold yZ;refine bd ?_;have l1:=hn.len;have l2:=dT (n:=b.length) (by omega);have p1:=(dd n hn.lo hn.hi).nil (by omega);have p2:=(dd (b.length:Int) (by omega) (by omega)).own (bF n.toNat) (by rw[amw];omega);rw[amw]at p2;have c1:=EW b cl (by omega);have p3:=Fg (yX b) (bF n.toNat++bF b.length) (by simp only[akC,ar];omega);have hl:(cx n b).length=(bF n.toNat).length+(bF b.length).length+8:=by unfold cx;simp only[akC,ar]
 have c2:=EW (cx n b) false (by omega);have p4:=Fg (yX (cx n b)) (cx n b) (by rw[hl,ar];omega);have hw:IntKind.u64.wrap (b.length:Int)=b.length:=aN (by omega) (by omega)
 have cL:=ay.lend (σ:=[.vec 1 (bts (cx n b))]) (args:=[.hs 1 0 0 (cx n b).length]) (r:=.int .u64 (yX (cx n b))) rfl (by
  have ht2:List.take (cx n b).length (bts (cx n b))=bts (cx n b):=amf (by simp);(try simp only[go_sem,ht2,al8,ama,ake,ako])
  exact c2)
 have h0:bts (bF n.toNat++bF b.length++wd8 (yX b))=bts (cx n b):=rfl;rw[h0,akC,ar]at p3;rw[show cx n b++wd8 (yX (cx n b))=hdr n b from rfl,hl,ar]at p4;rw[hl]at cL;have ht:List.take ((bF n.toNat).length+(bF b.length).length+8+8) (hdr n b)=hdr n b:=amf (by unfold hdr;simp[ar,hl]);have hle:(bF n.toNat).length+(bF b.length).length+8+8<=(hdr n b).length:=by unfold hdr;simp[ar,hl]
 generalize yX (cx n b)=S at *;generalize hdr n b=H at *;generalize cx n b=H0 at *;refine gon ?_;refine oce [] p1 ?_;refine ah hw ?_;refine ocg [0] p2 ?_;refine ahG c1 ?_;refine ocg [1] p3 ?_;refine ocg [2] cL ?_;refine oce [2] p4 ?_;refine aZ ht hle ?_;refine⟨_,(by first|rfl|exact evd),.inl ?_⟩;(try simp only[go_sem,Nat.reduceAdd,Nat.reduceSub,Nat.reduceMul,Nat.reduceLT,Nat.reduceLeDiff,Nat.reduceEqDiff,reduceIte,Int.reduceToNat,Int.reduceLT,Int.reduceLE,Int.reduceEq,Int.reduceNeg,reduceCtorEq,Int.reduceBEq,Int.reduceBNe,ht,hle])
def slS(n:Nat):Nat:=(n-2) / 2
theorem Bz(n:Nat)(hn:n<=100000):PC Tryz.prog 64 [.int .i64 n] (.int .i64 (slS n:Nat)):=by
 refine pfn 3 yn ?_;unfold ni;refine bd ?_;have h1:IntKind.i64.wrap ((n:Int)-2)=(n:Int)-2:=aL (by omega) (by omega);have h2:(if 0 > (n:Int)-2 then 0 else (n:Int)-2)=((n-2:Nat):Int):=by split<;>omega
 have h3:Int.tdiv ((n-2:Nat):Int) 2=((slS n:Nat):Int):=by unfold slS;rw[ajC (by omega)];omega
 have h4:IntKind.i64.wrap ((slS n:Nat):Int)=(slS n:Nat):=by unfold slS;exact aL (by omega) (by omega)
 refine pz h1 h2 h3 h4 ?_;exact ai
theorem C1(n:Nat)(hn:n<=100000):PC Tryz.prog 19 [.int .i64 n] (.int .i64 (slS n*64:Nat)):=by
 refine pfn 3 AE ?_;unfold qj;refine bd ?_;have h1:IntKind.i64.wrap (((slS n:Nat):Int)*64)=((slS n*64:Nat):Int):=by rw[aL (by unfold slS;omega) (by unfold slS;omega)];omega
 refine gon ?_;refine am (Bz n hn) ?_;refine ah h1 ?_;exact ai
theorem ER(n:Nat)(hn:n<=100000):PC Tryz.prog 20 [.int .i64 n] (.int .i64 (slS n*64:Nat)):=by
 refine pfn 3 CR ?_;unfold vz;refine bd ?_;by_cases h:n<2
 ·have e:decide ((n:Int)<2)=true:=au (by omega);have h0:slS n=0:=by unfold slS;omega
  rw[h0];refine aM e ?_;exact ai
 ·have e:decide ((n:Int)<2)=false:=aA (by omega);have h1:IntKind.i64.wrap ((n:Int)-2)=((n-2:Nat):Int):=by rw[aL (by omega) (by omega)];omega
  have h3:Int.tdiv ((n-2:Nat):Int) 2=((slS n:Nat):Int):=by unfold slS;rw[ajC (by omega)];omega
  have h4:IntKind.i64.wrap ((slS n:Nat):Int)=(slS n:Nat):=by unfold slS;exact aL (by omega) (by omega)
  have h5:IntKind.i64.wrap (((slS n:Nat):Int)*64)=((slS n*64:Nat):Int):=by rw[aL (by unfold slS;omega) (by unfold slS;omega)];omega
  refine bJ e ?_;refine pz h1 h3 h4 h5 ?_;exact ai
def slH(B:List UInt8)(k:Nat):List UInt8:=(B.drop (k*64)).take 64
def slB(B:List UInt8)(k m:Nat):List UInt8:=(B.drop ((2+k*slS (B.length / 64))*64)).take m
def hdR(n m:Int)(h:List UInt8):Int×Int×Int:=((aR h 0 n).1,(aR (aR h 0 n).2.1 (aR h 0 n).2.2 m).1,(aR (aR h 0 n).2.1 (aR h 0 n).2.2 m).2.2)
def FX(B:List UInt8)(k:Nat)(n m e:Int):Prop:=2<=B.length / 64/\e=0/\1<=n/\n%2=k/\slH B k=full (hdr n (slB B k m.toNat))
instance (B:List UInt8) (k:Nat) (n m e:Int):Decidable (FX B k n m e):=by unfold FX;infer_instance
def Db(B:List UInt8)(k:Nat)(n m e:Int):aI×Int×Bool:=if FX B k n m e then ((FJ dP (slB B k m.toNat)).1,n,decide ((FJ dP (slB B k m.toNat)).2=0))else (Fx,0,false)
def br(B:List UInt8):Int:=((slS (B.length / 64)*64:Nat):Int)
def ae(B:List UInt8)(k:Nat):aI×Int×Bool:=
 Db B k (hdR 4611686018427387904 (br B) (slH B k)).1 (hdR 4611686018427387904 (br B) (slH B k)).2.1 (hdR 4611686018427387904 (br B) (slH B k)).2.2
def cr(B:List UInt8):aI×Int×Int:=
 if (ae B 1).2.2=true/\((ae B 0).2.2=true->(ae B 0).2.1<(ae B 1).2.1)then ((ae B 1).1,(ae B 1).2.1,0)
 else if (ae B 0).2.2=true then ((ae B 0).1,(ae B 0).2.1,0)else (Fx,0,25)
theorem Ah(b:List UInt8)(e:Int){m:Int}(d:m<=bU):((aR b e m).2.2=0↔(aR b e bU).2.2=0/\(aR b e bU).1<=m)/\((aR b e m).2.2=0->aR b e m=aR b e bU):=by
 unfold aR;by_cases c:e≠0
 ·grind
 grind
theorem Ec{b:List UInt8}{e m:Int}(h:(aR b e m).2.2=0):e=0:=by
 by_cases c:e=0
 ·omega
 ·unfold aR at h;grind
theorem Kp(h:List UInt8){n m:Int}(j:n<=bU)(d:m<=bU)(e:0<=n)(f:0<=m):
 ((hdR n m h).2.2=0↔(hdR bU bU h).2.2=0/\(hdR bU bU h).1<=n/\(hdR bU bU h).2.1<=m)/\((hdR n m h).2.2=0->hdR n m h=hdR bU bU h):=by
 obtain⟨g,c⟩:=Ah h 0 j;unfold hdR;dsimp only;constructor
 ·constructor
  ·intro q;have a:=Ec q;rw[c a]at q;obtain⟨p,o⟩:=Ah (aR h 0 bU).2.1 (aR h 0 bU).2.2 d;omega
  ·rintro⟨a,l,k⟩;have i:=g.2 ⟨Ec a,l⟩;rw[c i];exact(Ah (aR h 0 bU).2.1 (aR h 0 bU).2.2 d).1.2 ⟨a,k⟩
 ·intro q;have a:=Ec q;rw[c a]at q ⊢;rw[(Ah (aR h 0 bU).2.1 (aR h 0 bU).2.2 d).2 q]
theorem D8(h:List UInt8){n m:Int}(hn:0<=n)(hm:0<=m):0<=(hdR n m h).1/\(hdR n m h).1<=n/\0<=(hdR n m h).2.1/\(hdR n m h).2.1<=m:=
 ⟨gw _ _ _,mW _ _ _ hn,gw _ _ _,mW _ _ _ hm⟩
theorem Ag(B:List UInt8)(b:B.length<=2097152):0<=br B/\br B<=1048576:=by unfold br slS;omega
theorem Cm{B:List UInt8}{k:Nat}(h:(ae B k).2.2=true):1<=(ae B k).2.1/\(ae B k).2.1<=4611686018427387904/\(ae B k).2.1%2=k:=by
 have b:=D8 (slH B k) (n:=4611686018427387904) (m:=br B) (by simp) (by unfold br;omega);unfold ae Db at h ⊢;split at h
 ·rename_i q;rw[al7 q];exact⟨q.2.2.1,b.2.1,q.2.2.2.1⟩
 grind
theorem Ge(B:List UInt8){off:Nat}{xs:List UInt8}(h:off+xs.length<=B.length)(i:Nat):(over B off xs)[i]?=if i<off then B[i]? else if i<off+xs.length then xs[i-off]? else B[i]?:=by
 unfold over;by_cases b:i<off
 ·grind
 grind
theorem Iv(B:List UInt8){off:Nat}{xs:List UInt8}(h:off+xs.length<=B.length){m:Nat}(d:m<=xs.length):((over B off xs).drop off).take m=xs.take m:=by
 apply akb
 intro i;rw[akx,akx];split
 ·rw[ak0,Ge B h,al5 (by omega),al7 (by omega)];congr 1;omega
 simp
theorem zD(B:List UInt8){off:Nat}{xs:List UInt8}(h:off+xs.length<=B.length){a m:Nat}(d:a+m<=off\/off+xs.length<=a):((over B off xs).drop a).take m=(B.drop a).take m:=by
 apply akb
 intro i;rw[akx,akx];split
 ·rw[ak0,ak0,Ge B h];rcases d with d|d
  ·grind
  grind
 simp
theorem DF{n:Int}(d:U64 n){b:List UInt8}(f:b.length<=2097152):16<=(hdr n b).length/\(hdr n b).length<=36:=by
 have g:=d.len;have e:=dT (n:=b.length) (by omega);unfold hdr cx;simp only[akC,ar];omega
theorem Cc{n:Int}(d:U64 n){b:List UInt8}(e:b.length<=2097152):fD (hdr n b).length=1:=by
 have:=DF d e;unfold fD;omega
theorem Ko{n m M:Int}(g:1<=n)(e:n<=M)(f:M<18446744073709551616){b:List UInt8}(d:(b.length:Int)<=m)(h:m<=2097152):hdR M m (full (hdr n b))=(n,(b.length:Int),0):=by
 have c:∃t,full (hdr n b)=bF n.toNat++(bF b.length++t):=by
  unfold full;unfold hdr cx;simp
 obtain⟨t,c⟩:=c;rw[c];unfold hdR;rw[(th (n:=n.toNat) (m:=M) (by omega) (by omega)).full,(th (n:=b.length) (m:=m) (by omega) d).full];grind
def dS(B:List UInt8)(n:Int)(b:List UInt8):List UInt8:=over (over B ((2+(n%2).toNat*slS (B.length / 64))*64) (full b)) ((n%2).toNat*64) (full (hdr n b))
structure yL(B:List UInt8)(n:Int)(b:List UInt8):Prop where
 s:64∣B.length
 n0:1<=n
 n1:n<=4611686018427387904
 b0:0<b.length
 b1:b.length<=slS (B.length / 64)*64
 B1:B.length<=2097152
theorem yL.u{B:List UInt8}{n:Int}{b:List UInt8}(h:yL B n b):U64 n:=⟨by have:=h.n0;omega,by have:=h.n1;omega⟩
theorem yL.at1{B:List UInt8}{n:Int}{b:List UInt8}(h:yL B n b){k:Nat}(d:k<=1):(2+k*slS (B.length / 64))*64+(full b).length<=B.length/\(full b).length<=slS (B.length / 64)*64:=by
 have e:=h.b1;have c:fD b.length<=slS (B.length / 64):=by unfold fD;omega
 rw[cD];have g:=h.b0;have i:2+2*slS (B.length / 64)<=B.length / 64:=by unfold slS at e c ⊢;omega
 have f:k*slS (B.length / 64)<=slS (B.length / 64):=by
  have:=amz (slS (B.length / 64)) d;omega
 omega
theorem yL.at2{B:List UInt8}{n:Int}{b:List UInt8}(h:yL B n b):(full (hdr n b)).length=64/\2<=B.length / 64:=by
 have c:=h.b1;have e:=h.b0;have d:=h.B1;refine⟨by rw[cD,Cc h.u (by unfold slS at c;omega)],by unfold slS at c;omega⟩
theorem yL.len{B:List UInt8}{n:Int}{b:List UInt8}(h:yL B n b):(dS B n b).length=B.length:=by
 have f:=h.at2;have e:(n%2).toNat<=1:=by omega
 unfold dS;have d:(over B ((2+(n%2).toNat*slS (B.length / 64))*64) (full b)).length=B.length:=cK _ _ _ (h.at1 e).1;rw[cK _ _ _ (by omega),d]
theorem BC{B:List UInt8}{n:Int}{b:List UInt8}(h:yL B n b):ae (dS B n b) (n%2).toNat=((FJ dP b).1,n,decide ((FJ dP b).2=0)):=by
 have hk:(n%2).toNat<=1:=by omega
 have hl:=h.len;obtain⟨g1,g2⟩:=h.at2;obtain⟨f1,f2⟩:=h.at1 hk;have hB:=h.B1;have h1:(over B ((2+(n%2).toNat*slS (B.length / 64))*64) (full b)).length=B.length:=cK _ _ _ f1
 have e1:slH (dS B n b) (n%2).toNat=full (hdr n b):=by
  unfold slH dS;rw[Iv _ (by omega) (by omega),amf (by omega)]
 have hfb:b.length<=(full b).length:=by unfold full;rw[akC];omega
 have e2:slB (dS B n b) (n%2).toNat b.length=b:=by
  unfold slB;rw[hl];unfold dS;rw[zD _ (by omega) (.inr (by omega)),Iv _ f1 hfb];unfold full;simp
 have hc:=Ag B hB;have e3:br (dS B n b)=br B:=by unfold br;grind
 have hb1:=h.b1;have e4:hdR 4611686018427387904 (br B) (full (hdr n b))=(n,(b.length:Int),0):=Ko h.n0 h.n1 (by simp) (by unfold br;omega) (by omega);unfold ae;rw[e3,e1,e4];unfold Db;rw[amw,e2,al7];refine⟨by omega,rfl,h.n0,by omega,?_⟩;grind
theorem Ef{B:List UInt8}{n:Int}{b:List UInt8}(h:yL B n b){k:Nat}(hk:k<=1)(hn:k≠(n%2).toNat):ae (dS B n b) k=ae B k:=by
 have hl:=h.len;have hk':(n%2).toNat<=1:=by omega
 obtain⟨g1,g2⟩:=h.at2;obtain⟨f1,f2⟩:=h.at1 hk';have h1:(over B ((2+(n%2).toNat*slS (B.length / 64))*64) (full b)).length=B.length:=cK _ _ _ f1
 have e1:slH (dS B n b) k=slH B k:=by
  unfold slH dS;rw[zD _ (by omega) (by omega),zD _ f1 (by omega)]
 have e2:∀m,m<=slS (B.length / 64)*64->slB (dS B n b) k m=slB B k m:=fun m hm=>by
  unfold slB;rw[hl];unfold dS;rw[zD _ (by omega) (.inr (by omega)),zD _ f1 ?_];generalize slS (B.length / 64)=s at *;have:k=0/\(n%2).toNat=1\/k=1/\(n%2).toNat=0:=by omega
  rcases this with⟨q1,q2⟩|⟨q1,q2⟩
  ·grind
  grind
 have e3:br (dS B n b)=br B:=by unfold br;grind
 have hc:(0:Int)<=br B:=by unfold br;omega
 have hm:=D8 (slH B k) (n:=4611686018427387904) (m:=br B) (by decide) hc;unfold ae;rw[e3,e1];generalize hdR 4611686018427387904 (br B) (slH B k)=R at *;have e4:=e2 R.2.1.toNat (by unfold br at hm;omega);have hiff:FX (dS B n b) k R.1 R.2.1 R.2.2↔FX B k R.1 R.2.1 R.2.2:=by unfold FX;rw[e1,e4,hl]
 unfold Db;by_cases q:FX B k R.1 R.2.1 R.2.2
 ·rw[al7 (hiff.2 q),al7 q,e4]
 grind
theorem C8(n k:Nat)(e:k<=1):ae (zr (n*64)) k=(Fx,0,false):=by
 have h:(zr (n*64)).length=n*64:=xt _;unfold ae Db;rw[al5];rintro⟨f,g,c,_⟩
 have i:slH (zr (n*64)) k=zr 64:=by
  unfold slH zr;grind
 have j:zr 64=bF 0++zr 63:=by
  have:bF 0=[0]:=by rw[bF];rfl
  rw[this];rfl
 unfold hdR at c;have d:=(th (n:=0) (m:=4611686018427387904) (by simp) (by simp)).full (zr 63);grind
theorem EH(n:Nat):cr (zr (n*64))=(Fx,0,25):=by
 unfold cr;rw[C8 n 1 (by simp),C8 n 0 (by simp)];simp
theorem JT{n:Nat}{b:List UInt8}(h:yL (zr (n*64)) 1 b)(d:(FJ dP b).2=0):cr (dS (zr (n*64)) 1 b)=((FJ dP b).1,1,0):=by
 have c:ae (dS (zr (n*64)) 1 b) 1=((FJ dP b).1,1,true):=by have:=BC h;grind
 have e0:ae (dS (zr (n*64)) 1 b) 0=(Fx,0,false):=by rw[Ef h (k:=0) (by simp) (by simp)];exact C8 n 0 (by simp)
 unfold cr;grind
theorem JV{n:Nat}{b:List UInt8}(h:yL (zr (n*64)) 1 b)(c:yL (dS (zr (n*64)) 1 b) 2 b)(e:(FJ dP b).2=0):cr (dS (dS (zr (n*64)) 1 b) 2 b)=((FJ dP b).1,2,0):=by
 have f:ae (dS (zr (n*64)) 1 b) 1=((FJ dP b).1,1,true):=by have:=BC h;grind
 have g:ae (dS (dS (zr (n*64)) 1 b) 2 b) 0=((FJ dP b).1,2,true):=by have:=BC c;grind
 have d:ae (dS (dS (zr (n*64)) 1 b) 2 b) 1=((FJ dP b).1,1,true):=by rw[Ef c (k:=1) (by simp) (by simp)];omega
 unfold cr;grind
end Go.Proofs.YtflhnmleodkjiaaGreat
