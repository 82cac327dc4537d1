/- Joined. -/
import Derived.Test.YtmpddimhleianaaGreatV1v
import Derived.Test.YtmpddimhleianaaGreatW5v
import Derived.Test.YtmpddimhleianaaGreatW3v
import Derived.Test.YtmpddimhleianaaGreatW8v
set_option linter.unusedVariables false
set_option linter.unusedSimpArgs false
set_option maxRecDepth 8000
set_option maxHeartbeats 4000000
namespace Go.Proofs.YtmpddimhleianaaGreat
open Go Go.FH Go.RowKit
structure OpV where
 kind:Int
 blk:Blk
 att:Int×Rt×Cp×List Int
 slg:Sv
 tab:Tv
 vdt:Vdt
 write:Int
 keep:Int
def opL(x:OpV):SOp:=⟨x.kind,x.blk,mG x.att,qa x.slg,pq x.tab,x.vdt,x.write,x.keep⟩
theorem U3(x:OpV):(opL x).kind=x.kind:=rfl
theorem XB(x:OpV):(opL x).blk=x.blk:=rfl
theorem XA(x:OpV):(opL x).att=mG x.att:=rfl
theorem XD(x:OpV):(opL x).slg=qa x.slg:=rfl
theorem XE(x:OpV):(opL x).tab=pq x.tab:=rfl
theorem XG(x:OpV):(opL x).vdt=x.vdt:=rfl
theorem QM(x:OpV):(opL x).write=x.write:=rfl
theorem U0(x:OpV):(opL x).keep=x.keep:=rfl
theorem UZ(x:OpV):(opL x).good=true:=rfl
theorem ZN(x:OpV):(opL x).Pure:=⟨aY _ _,⟨Ht _,Ht _⟩,aY _ _⟩
theorem oF(x:OpV):PuL (cG (opL x)):=(iO _).2 (ZN x)
theorem XC(x:OpV)(ρ:Nat->Nat):(opL x).map (ren ρ)=opL x:=by simp only[opL,SOp.map,Jg,K1,Lf]
theorem ZM(x:OpV)(σ:St)(zs:List Nat):(opL x).map (fz σ zs)=opL x:=by simp only[opL,SOp.map,N9,OV,O7]
theorem VJ(x:Sv):(qa x).fst=pF x.1:=rfl
theorem VK(x:Sv):(qa x).snd=pF x.2:=rfl
theorem Pw(x:Int×Rt×Cp×List Int):(mG x).vals=.sl 1 false (ah .i64 x.2.2.2):=rfl
theorem Sa(x:Tv):(pq x).bals=.sl 1 false (ah .u64 x.2):=rfl
theorem YC(x:Tv):(pq x).cp=x.1:=rfl
attribute [go_sem] U3 XB XA XD XE XG QM U0 UZ XC ZM VJ VK Pw Sa YC
theorem zb(n:Int):PC Tryz.prog 163 [.int .i64 n] (.bool (decide (0<=n/\n<=32768))):=by
 refine PC.fact 5 zE af1 ⟨trivial,trivial⟩ trivial ?_;unfold qX;refine bd ?_;by_cases h:0<=n
 ·have e:decide (0<=n)=true:=by simpa using h
  refine aA e ?_;refine⟨_,(by first|rfl|exact evd),.inl ?_⟩;refine evg ?_;try simp[h]
 ·have e:decide (0<=n)=false:=by simpa using h
  refine aA e ?_;refine⟨_,(by first|rfl|exact evd),.inl ?_⟩;refine evg ?_;try simp[h]
theorem ZC{α:Type}(l:List α):((l.length:Int)==0)=decide (l=[]):=by cases l<;>simp<;>omega
theorem ML(a:Int×Rt×Cp×List Int):PC Tryz.prog 165 [.agg (cK (mG a))] (.bool (decide (a=o7))):=by
 refine PC.fact 5 qw af1 ⟨WB a,trivial⟩ trivial ?_;unfold kO;refine bd ?_;obtain⟨s,r,c,l⟩:=a;have e4:=ZC l;by_cases h1:s=0
 ·subst h1
  by_cases h2:r=rt0
  ·have e2:decide (r=rt0)=true:=by simpa using h2
   by_cases h3:c=⟨0,rt0⟩
   ·have e3:decide (c=⟨0,rt0⟩)=true:=by simpa using h3
    repeat(first|refine aM ?_|simp only[go_sem,e2,e3,e4,mG])
    refine⟨_,(by first|rfl|exact evd),.inl ?_⟩;refine evg ?_;simp[o7,cp0,h2,h3]
   ·have e3:decide (c=⟨0,rt0⟩)=false:=by simpa using h3
    repeat(first|refine aM ?_|simp only[go_sem,e2,e3,e4,mG])
    refine⟨_,(by first|rfl|exact evd),.inl ?_⟩;refine evg ?_;simp[o7,cp0,h2,h3]
  ·have e2:decide (r=rt0)=false:=by simpa using h2
   repeat(first|refine aM ?_|simp only[go_sem,e2,e4,mG])
   refine⟨_,(by first|rfl|exact evd),.inl ?_⟩;refine evg ?_;simp[o7,h2]
 ·have e1:(s==0)=false:=by simpa using h1
  repeat(first|refine aM ?_|simp only[go_sem,e1,e4,mG])
  refine⟨_,(by first|rfl|exact evd),.inl ?_⟩;refine evg ?_;simp[o7,h1]
theorem Cu(a:Cv):PC Tryz.prog 166 [.agg (dB (pF a))] (.bool (decide (a=rm))):=by
 refine PC.fact 5 xS af1 ⟨(iN _).2 (Ht a),trivial⟩ trivial ?_;unfold pC;refine bd ?_;obtain⟨s,t,r,l⟩:=a;have e4:=ZC l;by_cases h1:s=0
 ·subst h1
  by_cases h2:t=0
  ·subst h2
   by_cases h3:r=rt0
   ·have e3:decide (r=rt0)=true:=by simpa using h3
    repeat(first|refine aM ?_|simp only[go_sem,e3,e4,pF])
    refine⟨_,(by first|rfl|exact evd),.inl ?_⟩;refine evg ?_;simp[rm,h3]
   ·have e3:decide (r=rt0)=false:=by simpa using h3
    repeat(first|refine aM ?_|simp only[go_sem,e3,e4,pF])
    refine⟨_,(by first|rfl|exact evd),.inl ?_⟩;refine evg ?_;simp[rm,h3]
  ·have e2:(t==0)=false:=by simpa using h2
   repeat(first|refine aM ?_|simp only[go_sem,e2,e4,pF])
   refine⟨_,(by first|rfl|exact evd),.inl ?_⟩;refine evg ?_;simp[rm,h2]
 ·have e1:(s==0)=false:=by simpa using h1
  repeat(first|refine aM ?_|simp only[go_sem,e1,e4,pF])
  refine⟨_,(by first|rfl|exact evd),.inl ?_⟩;refine evg ?_;simp[rm,h1]
def prs(fs:List (Int×Bool)):List (List AV):=fs.map fun f=>[.int .i64 f.1,.bool f.2]
theorem ME(fs:List (Int×Bool)):(prs fs).length=fs.length:=by simp[prs]
theorem TT{fs:List (Int×Bool)}{i:Nat}(h:i<fs.length):(prs fs).getD i []=[.int .i64 fs[i].1,.bool fs[i].2]:=by
 simp[prs,h]
theorem SK(fs:List (Int×Bool)):fU (prs fs):=by
 induction fs with
 |nil=>trivial
 |cons f fs ih=>exact⟨⟨trivial,trivial,trivial⟩,ih⟩
theorem Rs(ρ:Nat->Nat)(fs:List (Int×Bool)):dm ρ (prs fs)=prs fs:=(SK fs).ren ρ
theorem TK(σ:St)(zs:List Nat)(fs:List (Int×Bool)):gm σ zs (prs fs)=prs fs:=(SK fs).fz σ zs
attribute [go_sem] ME Rs TK
def okF(k:Int)(fs:List (Int×Bool))(i:Nat):Bool:=if h:i<fs.length then ((fs[i].1==k) || fs[i].2)&&okF k fs (i+1)else true
termination_by fs.length-i
theorem Cz{k:Int}{fs:List (Int×Bool)}{i:Nat}(h:i<fs.length):okF k fs i=(((fs[i].1==k) || fs[i].2)&&okF k fs (i+1)):=by rw[okF,dif_pos h]
theorem OG{k:Int}{fs:List (Int×Bool)}{i:Nat}(h:¬i<fs.length):okF k fs i=true:=by rw[okF,dif_neg h]
def Pi(x:OpV):List (Int×Bool):=
 [(2,decide (x.blk=dx)),(3,decide (x.att=o7)),(4,decide (x.slg.1=rm)&&decide (x.slg.2=rm)),(5,decide (x.tab.1=cp0)&&decide (x.tab.2=[])),(6,decide (x.vdt=jn)),(8,(x.write==0)&&(x.keep==0))]
def HO(x:OpV):Bool:=okF x.kind (Pi x) 0
set_option maxHeartbeats 4000000 in
theorem Qo(x:OpV):PC Tryz.prog 102 [.agg (cG (opL x))] (.bool (HO x)):=by
 refine PC.fact 6 El af1 ⟨oF x,trivial⟩ trivial ?_;unfold uu;refine bd ?_;have k1:=ML x.att;have k2:=Cu x.slg.1;have k3:=Cu x.slg.2;have e5:=ZC x.tab.2;have hz:HO x=okF x.kind (Pi x) 0:=rfl;unfold Pi at hz;have z0:dx=⟨⟨⟨0,rt0⟩,⟨0,rt0⟩⟩,0,rt0,rt0,rt0,wd0,wd0,⟨0,rt0⟩,⟨0,rt0⟩,false⟩:=rfl;rw[z0]at hz;generalize hB1:decide (x.blk=⟨⟨⟨0,rt0⟩,⟨0,rt0⟩⟩,0,rt0,rt0,rt0,wd0,wd0,⟨0,rt0⟩,⟨0,rt0⟩,false⟩)=B1 at *;generalize hB2:decide (x.att=o7)=B2 at *;generalize hB3:decide (x.slg.1=rm)=B3 at *;generalize hB4:decide (x.slg.2=rm)=B4 at *;generalize hB6:decide (x.tab.2=[])=B6 at *;rw[show cp0=⟨0,rt0⟩from rfl,show jn=⟨0,0,rt0⟩from rfl]at hz;generalize hB5:decide (x.tab.1=⟨0,rt0⟩)=B5 at *;generalize hB7:decide (x.vdt=⟨0,0,rt0⟩)=B7 at *;generalize hB8:(x.write==0)=B8 at *;generalize hB9:(x.keep==0)=B9 at *;rw[hz];generalize hf:[((2:Int),B1),(3,B2),(4,B3&&B4),(5,B5&&B6),(6,B7),(8,B8&&B9)]=fs;have hlen:fs.length=6:=by rw[<-hf];rfl
 have hp:[[.int .i64 2,.bool B1],[.int .i64 3,.bool B2],[.int .i64 4,.bool (B3&&B4)],[.int .i64 5,.bool (B5&&B6)],[.int .i64 6,.bool B7],[.int .i64 8,.bool (B8&&B9)]]=prs fs:=by rw[<-hf];rfl
 clear hz;cases B3<;>cases B5<;>cases B8<;>simp only[acI,acD]at hp <;>
 (
  repeat(first|refine aM ?_|simp only[go_sem,hB1,hB5,hB7,hB8,hB9,e5,hp])
  refine aP (k1) ?_;repeat(first|refine aM ?_|simp only[go_sem,hB1,hB5,hB7,hB8,hB9,e5,hp])
  refine aP (k2) ?_;repeat(first|refine aM ?_|simp only[go_sem,hB1,hB5,hB7,hB8,hB9,e5,hp])
  try refine aP (k3) ?_
  repeat(first|refine aM ?_|simp only[go_sem,hB1,hB5,hB7,hB8,hB9,e5,hp])
  refine eR (fun i:Nat=>⟨6,[.dead,.ptr 0 0,.bool false,.dead,.dead,.dead],[(56,.int .i64 i),(55,.int .i64 6),(54,.sl 2 true (prs fs))]⟩) (fun _=>[.var (cG (opL x))]) (fun i=>6-i)
   (fun i=>i<=6/\okF x.kind fs i=okF x.kind fs 0) 0 ⟨af0,rfl⟩ ?_ ?_
  ·refine GC.mkT [] [0] af1 rfl af1 af1 evd evd evd
  rintro i ⟨i1,i2⟩;try dsimp only
  refine gon ?_;refine bM evd (fun h=>?_) (fun h=>?_)
  ·have hi:i<6:=by simp at h;omega
   have hg:=TT (fs:=fs) (i:=i) af0;have hw:=ae hi af0;rw[Cz af0]at i2;by_cases hk:fs[i].1=x.kind
   ·have hk1:(fs[i].1 != x.kind)=false:=by simp[hk]
    have hk2:(fs[i].1==x.kind)=true:=by simp[hk]
    rw[hk2]at i2;refine BQ hg hk1 hw hlen ?_;refine fk hg hk1 hw hlen ?_;exact⟨i+1,⟨af0,by simpa using i2⟩,af0,by refine GC.mkT [] [0] af1 rfl af1 af1 evd evd evd⟩
   ·have hk1:(fs[i].1 != x.kind)=true:=by simp[hk]
    have hk2:(fs[i].1==x.kind)=false:=by simp[hk]
    rw[hk2]at i2;refine fk hg hk1 hw hlen ?_;cases hb:fs[i].2
    ·rw[hb,ac9,acI]at i2;rw[<-i2];refine aq ?_ (by(try simp only[go_sem,hb]);try exact evd);refine gon ?_;exact aj
    ·refine aI ?_ (by(try simp only[go_sem,hb]);try exact evd);refine fk hg hk1 hw hlen ?_;exact⟨i+1,⟨af0,by simpa[hb]using i2⟩,af0,by refine GC.mkT [] [0] af1 rfl af1 af1 evd evd evd⟩
  ·have hi:i=6:=by simp at h;omega
   subst hi;rw[<-i2,OG af0];refine gon ?_;exact aj
 )
structure E8(x:OpV):Prop where
 att:x.att.2.2.2.length<=140737488355328
 fst:x.slg.1.2.2.2.length<=140737488355328
 snd:x.slg.2.2.2.2.length<=140737488355328
 tab:x.tab.2.length<=140737488355328
def Ny(a b:Int×Rt×Cp×List Int):Bool:=decide (a.1=b.1/\a.2.1=b.2.1/\a.2.2.1=b.2.2.1/\a.2.2.2=b.2.2.2)
def C4(a b:Cv):Bool:=decide (a.1=b.1/\a.2.1=b.2.1/\a.2.2.1=b.2.2.1/\a.2.2.2=b.2.2.2)
def Nz(a b:Tv):Bool:=decide (a.1=b.1/\a.2=b.2)
def Ih(x y:OpV):Bool:=(x.kind==y.kind)&&(decide (x.blk=y.blk)&&(Ny x.att y.att&&((C4 x.slg.1 y.slg.1&&C4 x.slg.2 y.slg.2)&&(Nz x.tab y.tab&&(decide (x.vdt=y.vdt)&&((x.write==y.write)&&(x.keep==y.keep)))))))
set_option maxHeartbeats 4000000 in
theorem X1(x y:OpV)(hx:E8 x)(hy:E8 y):PC Tryz.prog 113 [.agg (cG (opL x)),.agg (cG (opL y))] (.bool (Ih x y)):=by
 refine PC.fact 5 Ej af1 ⟨oF x,oF y,trivial⟩ trivial ?_;unfold uq Ih;refine bd ?_;have k1:PC Tryz.prog 96 [.agg (cK (mG x.att)),.agg (cK (mG y.att))] (.bool (Ny x.att y.att)):=KU (mG x.att) (mG y.att) _ _ false false rfl rfl hx.att hy.att;have k2:PC Tryz.prog 200 [.agg (dU (qa x.slg)),.agg (dU (qa y.slg))] (.bool (C4 x.slg.1 y.slg.1&&C4 x.slg.2 y.slg.2)):=VA (qa x.slg) (qa y.slg) _ _ _ _ false false false false rfl rfl rfl rfl hx.fst hx.snd hy.fst hy.snd;have k3:PC Tryz.prog 156 [.agg (bE (pq x.tab)),.agg (bE (pq y.tab))] (.bool (Nz x.tab y.tab)):=KW (pq x.tab) (pq y.tab) _ _ false false rfl rfl hx.tab hy.tab;generalize h1:(x.kind==y.kind)=B1 at *;generalize h2:decide (x.blk=y.blk)=B2 at *;generalize Ny x.att y.att=B3 at *;generalize (C4 x.slg.1 y.slg.1&&C4 x.slg.2 y.slg.2)=B4 at *;generalize Nz x.tab y.tab=B5 at *;generalize h6:decide (x.vdt=y.vdt)=B6 at *;generalize h7:(x.write==y.write)=B7 at *;generalize h8:(x.keep==y.keep)=B8 at *;cases B1
 ·refine aA h1 ?_;exact aj
 cases B2
 ·refine bm h1 h2 ?_;exact aj
 refine bm h1 h2 ?_;refine ap k1 ?_;cases B3
 ·refine bm h1 h2 ?_;exact aj
 refine bm h1 h2 ?_;refine ap k2 ?_;cases B4
 ·refine bm h1 h2 ?_;exact aj
 refine bm h1 h2 ?_;refine ap k3 ?_;cases B5
 ·refine eS h1 h2 h6 ?_;exact aj
 cases B6
 ·refine eS h1 h2 h6 ?_;exact aj
 cases B7
 ·refine fk h1 h2 h6 h7 ?_;exact aj
 ·refine ec h1 h2 h6 h7 h8 ?_;exact aj
structure OpU(x:OpV):Prop where
 blk:I1 x.blk
 slot:U64 x.att.1
 ep:U64 x.att.2.2.1.ep
 att:x.att.2.2.2.length<=140737488355328
 fst:uM (pF x.slg.1) x.slg.1.2.2.2 false
 snd:uM (pF x.slg.2) x.slg.2.2.2.2 false
 tab:G3 (pq x.tab) x.tab.2 false
 tag:U64 x.vdt.tag
theorem OpU.len{x:OpV}(h:OpU x):E8 x:=⟨h.att,h.fst.len,h.snd.len,h.tab.len⟩
def Ha(x:OpV):Bool:=!(decide (0<=x.write/\x.write<=32768)&&decide (0<=x.keep/\x.keep<=32768))
def fld(x:OpV):List UInt8×Int:=
 if x.kind=2 then (Es x.blk,0)
 else if x.kind=3 then (if cM x.att.2.2.2 1024=0 then LA (mG x.att) x.att.2.2.2 else [],cM x.att.2.2.2 1024)
 else if x.kind=4 then (if ze x.slg.1.2.2.2 x.slg.2.2.2.2=0 then OU (qa x.slg) x.slg.1.2.2.2 x.slg.2.2.2.2 else [],ze x.slg.1.2.2.2 x.slg.2.2.2.2)
 else if x.kind=5 then (if 1024<x.tab.2.length then []else Dr (pq x.tab) x.tab.2,if 1024<x.tab.2.length then 3 else 0)
 else if x.kind=6 then (if rx x.vdt then []else aaf x.vdt,if rx x.vdt then 3 else 0)
 else if x.kind=8 then (if Ha x then ([],3)else (br x.write.toNat++br x.keep.toNat,0))
 else ([],0)
set_option maxHeartbeats 4000000 in
theorem KO(x:OpV)(hx:OpU x):PC Tryz.prog 101 [.agg (cG (opL x))] (.tup [.sl 1 false (bts (fld x).1),.int .i64 (fld x).2]):=by
 refine PC.fact 4 BD af1 ⟨oF x,trivial⟩ ⟨iP _,trivial,trivial⟩ ?_;unfold rN;refine bd ?_;have k2:=Vo x.blk hx.blk;have k3:=Vn (mG x.att) x.att.2.2.2 false rfl hx.att hx.slot hx.ep;have k4:=Vp (qa x.slg) x.slg.1.2.2.2 x.slg.2.2.2.2 false false hx.fst hx.snd;have k5:=Vq (pq x.tab) x.tab.2 false hx.tab;have k6:=Vr x.vdt hx.tag;unfold fld;by_cases h8:x.kind=8
 ·clear k2 k3 k4 k5 k6
  rw[afx af0,afx af0,afx af0,afx af0,afx af0,afA h8];have s1:=zb x.write;have s2:=zb x.keep;by_cases hg:0<=x.write/\x.write<=32768/\0<=x.keep/\x.keep<=32768
  ·have hb:Ha x=false:=by simp[Ha];omega
   have w1:IntKind.u64.wrap x.write=x.write:=aC af0 af0;have w2:IntKind.u64.wrap x.keep=x.keep:=aC af0 af0;have q1:=d8 (n:=x.write.toNat) af0;have q2:=d8 (n:=x.keep.toNat) af0;have p1:=(eI x.write af0 af0).nil af0;have p2:=(eI x.keep af0 af0).own (br x.write.toNat) af0;rw[ax (show 0<=x.write/\x.write<=32768 by omega)]at s1;rw[ax (show 0<=x.keep/\x.keep<=32768 by omega)]at s2;have g1:¬x.write<0:=af0
   have g2:¬32768<x.write:=af0
   have g3:¬x.keep<0:=af0
   have g4:¬32768<x.keep:=af0
   rw[hb,afx af1];clear hb hg;refine nx fun _=>?_
   refine dse [] p1 ?_;refine nx fun _=>?_
   refine dse [1] p2 ?_;exact aw
  ·have hb:Ha x=true:=by simp[Ha];omega
   rw[hb,afA rfl];exact aw
 ·exact aw
set_option maxHeartbeats 4000000 in
theorem KZ(x:OpV)(hx:OpU x):PC Tryz.prog 112 [.agg (cG (opL x))] (.tup [.sl 1 false (bts (fld x).1),.int .i64 (fld x).2]):=by
 refine PC.fact 4 HM af1 ⟨oF x,trivial⟩ ⟨iP _,trivial,trivial⟩ ?_;unfold vI;refine bd ?_;have k2:=VD x.blk hx.blk;have k3:=VC (mG x.att) x.att.2.2.2 false rfl hx.att hx.slot hx.ep;have k4:=VE (qa x.slg) x.slg.1.2.2.2 x.slg.2.2.2.2 false false hx.fst hx.snd;have k5:=VF (pq x.tab) x.tab.2 false hx.tab;have k6:=VG x.vdt hx.tag;unfold fld;by_cases h8:x.kind=8
 ·clear k2 k3 k4 k5 k6
  rw[afx af0,afx af0,afx af0,afx af0,afx af0,afA h8];by_cases hg:0<=x.write/\x.write<=32768/\0<=x.keep/\x.keep<=32768
  ·have hb:Ha x=false:=by simp[Ha];omega
   have w1:IntKind.u64.wrap x.write=x.write:=aC af0 af0;have w2:IntKind.u64.wrap x.keep=x.keep:=aC af0 af0;have q1:=d8 (n:=x.write.toNat) af0;have q2:=d8 (n:=x.keep.toNat) af0;have p1:=(ef x.write af0 af0).nil af0;have p2:=(ef x.keep af0 af0).own (br x.write.toNat) af0;have g1:¬x.write<0:=af0
   have g2:¬32768<x.write:=af0
   have g3:¬x.keep<0:=af0
   have g4:¬32768<x.keep:=af0
   rw[hb,afx af1];clear hb hg;refine nx fun _=>?_
   refine dse [] p1 ?_;refine nx fun _=>?_
   refine dse [1] p2 ?_;exact aw
  ·have hb:Ha x=true:=by simp[Ha];omega
   rw[hb,afA rfl];exact aw
 ·exact aw
def vOp(x:OpV):Int:=if x.kind<1\/8<x.kind then 2 else if (fld x).2≠0 then (fld x).2 else if HO x then 0 else 2
theorem Af(x:OpV):HO x=(((((2:Int)==x.kind) || decide (x.blk=dx)))&&((((3:Int)==x.kind) || decide (x.att=o7))&&((((4:Int)==x.kind) || (decide (x.slg.1=rm)&&decide (x.slg.2=rm)))&&((((5:Int)==x.kind) || (decide (x.tab.1=cp0)&&decide (x.tab.2=[])))&&((((6:Int)==x.kind) || decide (x.vdt=jn))&&(((8:Int)==x.kind) || ((x.write==0)&&(x.keep==0)))))))):=by
 unfold HO Pi;rw[Cz af1,Cz af1,Cz af1,Cz af1,Cz af1,Cz af1,OG af1];simp
theorem vg(a:Int×Rt×Cp×List Int):Ny a o7=decide (a=o7):=by
 obtain⟨s,r,c,l⟩:=a;show decide (s=0/\r=rt0/\c=cp0/\l=[])=_
 rw[acU];simp[o7]
theorem vh(a:Cv):C4 a rm=decide (a=rm):=by
 obtain⟨s,r,c,l⟩:=a;show decide (s=0/\r=0/\c=rt0/\l=[])=_
 rw[acU];simp[rm]
theorem vk(a:Tv):Nz a Dp=(decide (a.1=cp0)&&decide (a.2=[])):=by show decide (a.1=cp0/\a.2=[])=_;rw[acU];simp
theorem RB(a:Int×Rt×Cp×List Int):Ny a a=true:=by simp[Ny]
theorem RC(a:Cv):C4 a a=true:=by simp[C4]
theorem RF(a:Tv):Nz a a=true:=by simp[Nz]
def mask(x:OpV):OpV:=
 if x.kind=2 then ⟨x.kind,x.blk,o7,rv,Dp,jn,0,0⟩
 else if x.kind=3 then ⟨x.kind,dx,x.att,rv,Dp,jn,0,0⟩
 else if x.kind=4 then ⟨x.kind,dx,o7,x.slg,Dp,jn,0,0⟩
 else if x.kind=5 then ⟨x.kind,dx,o7,rv,x.tab,jn,0,0⟩
 else if x.kind=6 then ⟨x.kind,dx,o7,rv,Dp,x.vdt,0,0⟩
 else if x.kind=8 then ⟨x.kind,dx,o7,rv,Dp,jn,x.write,x.keep⟩
 else ⟨x.kind,dx,o7,rv,Dp,jn,0,0⟩
theorem lQ(x:OpV)(k:Int)(b:Blk)(a:Int×Rt×Cp×List Int)(s:Sv)(t:Tv)(v:Vdt)(w p:Int):Ih x ⟨k,b,a,s,t,v,w,p⟩=((x.kind==k)&&(decide (x.blk=b)&&(Ny x.att a&&((C4 x.slg.1 s.1&&C4 x.slg.2 s.2)&&(Nz x.tab t&&(decide (x.vdt=v)&&((x.write==w)&&(x.keep==p)))))))):=rfl
theorem QE(x:OpV):Ih x (mask x)=HO x:=by
 rw[Af,acU];unfold mask;split
 ·rename_i h;rw[lQ];simp[rv,vg,vh,vk,h]
 split
 ·rename_i h;rw[lQ];simp[rv,vg,vh,vk,RB,h]
 split
 ·rename_i h;rw[lQ];simp[rv,vg,vh,vk,RC,h]
 split
 ·rename_i h;rw[lQ];simp[rv,vg,vh,vk,RF,h]
 split
 ·rename_i h;rw[lQ];simp[rv,vg,vh,vk,h]
 split
 ·rename_i h;rw[lQ];simp[rv,vg,vh,vk,h]
 ·rename_i h2 h3 h4 h5 h6 h8;have n2:((2:Int)==x.kind)=false:=by simp;omega
  have n3:((3:Int)==x.kind)=false:=by simp;omega
  have n4:((4:Int)==x.kind)=false:=by simp;omega
  have n5:((5:Int)==x.kind)=false:=by simp;omega
  have n6:((6:Int)==x.kind)=false:=by simp;omega
  have n8:((8:Int)==x.kind)=false:=by simp;omega
  rw[lQ];simp[rv,vg,vh,vk,n2,n3,n4,n5,n6,n8]
theorem E8.mask{x:OpV}(h:E8 x):E8 (mask x):=by
 unfold Go.Proofs.YtmpddimhleianaaGreat.mask;(repeat' split)<;>exact⟨by first|exact h.att|simp[o7],by first|exact h.fst|simp[rv,rm],by first|exact h.snd|simp[rv,rm],by first|exact h.tab|simp[Dp]⟩
theorem jv{x y:SOp}(h1:x.kind=y.kind)(h2:x.blk=y.blk)(h3:WkC (cK x.att) (cK y.att))(h4:WkC (dU x.slg) (dU y.slg))(h5:WkC (bE x.tab) (bE y.tab))(h6:x.vdt=y.vdt)(h7:x.write=y.write)(h8:x.keep=y.keep):WkC (cG x) (cG y):=by
 obtain⟨a1,a2,a3,a4,a5,a6,a7,a8⟩:=x;obtain⟨b1,b2,b3,b4,b5,b6,b7,b8⟩:=y;simp only at h1 h2 h3 h4 h5 h6 h7 h8;subst h1 h2 h6 h7 h8;exact WkC.same _ ((WkC.refl _).app (h3.app (h4.app (h5.app ((WkC.refl _).app (WkC.refl _))))))
theorem gw:WkC (cK qj) (cK (mG o7)):=WkC.same _ ((WkC.refl (rtc rt0)).app ((WkC.refl (cpC cp0)).app (WkC.one (Wk.empty 0 1 false) fun h=>h)))
theorem gz:WkC (dU qL) (dU (qa rv)):=(Pg 0 0 rt0 (Wk.empty 0 1 false) fun h=>h).app (Pg 0 0 rt0 (Wk.empty 0 1 false) fun h=>h)
theorem gA:WkC (bE ot) (bE (pq Dp)):=(WkC.refl (cpC cp0)).app (WkC.one (Wk.empty 0 1 false) fun h=>h)
set_option maxHeartbeats 4000000 in
theorem NU(x:OpV)(hx:OpU x):PC Tryz.prog 55 [.agg (cG (opL x))] (.int .i64 (vOp x)):=by
 refine PC.fact 5 vY af1 ⟨oF x,trivial⟩ trivial ?_;unfold oK;refine bd ?_;unfold vOp;have k1:=KO x hx;have k2:=Qo x;generalize fld x=F at *;generalize HO x=I at *;obtain⟨f,e⟩:=F;cases I<;>exact aw
theorem Lc(x:OpV)(hx:OpU x):PC Tryz.prog 57 [.agg (cG (opL x))] (.int .i64 (vOp x)):=by
 refine PC.fact 6 vU af1 ⟨oF x,trivial⟩ trivial ?_;unfold oH;refine bd ?_;unfold vOp;have k1:=KZ x hx;have k2:=X1 x (mask x) hx.len hx.len.mask;rw[QE]at k2;have key:∀y:SOp,WkC (cG y) (cG (opL (mask x)))->PuL (cG y)->PC Tryz.prog 113 [.agg (cG (opL x)),.agg (cG y)] (.bool (HO x)):=fun y h1 h2=>⟨k2.call.wk ⟨Wk.refl _,Wk.agg h1,trivial⟩,⟨oF x,h2,trivial⟩,k2.pr⟩
 unfold mask at key;generalize fld x=F at *;generalize HO x=I at *;obtain⟨f,e⟩:=F;clear k2 hx;obtain⟨kd,xb,xa,xs,xt,xv,xw,xp⟩:=x;dsimp only at *;by_cases h2:kd=2
 ·subst h2;have k:=key ⟨2,xb,qj,qL,ot,jn,0,0⟩ (by simp only[Int.reduceEq,aco,acq];exact jv rfl rfl gw gz gA rfl rfl rfl) ((iO _).2 ⟨trivial,⟨trivial,trivial⟩,trivial⟩);clear key;cases I<;>exact aw
 by_cases h3:kd=3
 ·subst h3;have k:=key ⟨3,dx,mG xa,qL,ot,jn,0,0⟩ (by simp only[Int.reduceEq,aco,acq];exact jv rfl rfl (WkC.refl _) gz gA rfl rfl rfl) ((iO _).2 ⟨aY _ _,⟨trivial,trivial⟩,trivial⟩);clear key;cases I<;>exact aw
 by_cases h4:kd=4
 ·subst h4;have k:=key ⟨4,dx,qj,qa xs,ot,jn,0,0⟩ (by simp only[Int.reduceEq,aco,acq];exact jv rfl rfl gw (WkC.refl _) gA rfl rfl rfl) ((iO _).2 ⟨trivial,⟨aY _ _,aY _ _⟩,trivial⟩);clear key;cases I<;>exact aw
 by_cases h5:kd=5
 ·subst h5;have k:=key ⟨5,dx,qj,qL,pq xt,jn,0,0⟩ (by simp only[Int.reduceEq,aco,acq];exact jv rfl rfl gw gz (WkC.refl _) rfl rfl rfl) ((iO _).2 ⟨trivial,⟨trivial,trivial⟩,aY _ _⟩);clear key;cases I<;>exact aw
 by_cases h6:kd=6
 ·subst h6;have k:=key ⟨6,dx,qj,qL,ot,xv,0,0⟩ (by simp only[Int.reduceEq,aco,acq];exact jv rfl rfl gw gz gA rfl rfl rfl) ((iO _).2 ⟨trivial,⟨trivial,trivial⟩,trivial⟩);clear key;cases I<;>exact aw
 by_cases h8:kd=8
 ·subst h8;have k:=key ⟨8,dx,qj,qL,ot,jn,xw,xp⟩ (by simp only[Int.reduceEq,aco,acq];exact jv rfl rfl gw gz gA rfl rfl rfl) ((iO _).2 ⟨trivial,⟨trivial,trivial⟩,trivial⟩);clear key;cases I<;>exact aw
 have k:=key ⟨kd,dx,qj,qL,ot,jn,0,0⟩ (by simp only[h2,h3,h4,h5,h6,h8,acq];exact jv rfl rfl gw gz gA rfl rfl rfl) ((iO _).2 ⟨trivial,⟨trivial,trivial⟩,trivial⟩);clear key;cases I<;>exact aw
def ops(l:List OpV):List (List AV):=l.map fun x=>cG (opL x)
theorem Ow{x:Blk}(u:I1 x):(Es x).length<=1000:=by
 have r1:=x.root.2;have r2:=x.parent.2;have r3:=x.payload.2;have r4:=(cQ x.diff).2;have r5:=(cQ x.pdiff).2;have q1:=u.slot.len;have q2:=fe u.just;have q3:=fe u.fin;have q4:=fe u.j;have q5:=fe u.f;have q6:(oC x.timely).length<=1:=by cases x.timely<;>simp[oC]
 simp only[Es,afB];omega
theorem XJ(x:OpV):ops [x]=[cG (opL x)]:=rfl
attribute [go_sem] XJ
def WkE:List (List AV)->List (List AV)->Prop
 | [],[]=>True
 |x::xs,y::ys=>WkC x y/\WkE xs ys
 |_,_=>False
theorem WkE.length:∀ {xs ys:List (List AV)},WkE xs ys->xs.length=ys.length
 | [],[],_=>rfl
 |_::_,_::_,h=>by simp[WkE.length h.2]
 | [],_::_,h|_::_,[],h=>h.elim
theorem WkE.rle{E:Env}{e:Nat}:∀ {xs ys:List (List AV)} {us:List Value},WkE xs ys->RlE E e xs us->RlE E e ys us
 | [],[],_,_,h=>h
 |_::_,_::_,_,hw,⟨us,ws,q1,q2,q3,q4⟩=>⟨us,ws,q1,q2,hw.1.rlc q3,WkE.rle hw.2 q4⟩
 | [],_::_,_,h,_|_::_,[],_,h,_=>h.elim
theorem Wk.sl{e:Nat}{cl:Bool}{xs ys:List (List AV)}(h:WkE xs ys):Wk (.sl e cl xs) (.sl e false ys):=by
 rintro E u ⟨a,n,cap,rfl,h1,h2,h3,h4,h5,h6⟩;refine⟨a,n,cap,rfl,by rw[h1,h.length],h2,h3,(fun h=>Bool.noConfusion h),h5,h6.imp id ?_⟩;rintro⟨b,off,vs,g1,g2,g3,g4,g5⟩;exact⟨b,off,vs,g1,g2,g3,g4,h.rle g5⟩
def t1:OpV:=⟨1,dx,o7,rv,Dp,jn,0,0⟩
def t8:OpV:=⟨8,dx,o7,rv,Dp,jn,2,5⟩
end Go.Proofs.YtmpddimhleianaaGreat
