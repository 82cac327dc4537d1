/- Joined. -/
import Derived.Test.YtmpddimhleianaaGreatV1
import Derived.Test.YtmpddimhleianaaGreatW5
import Derived.Test.YtmpddimhleianaaGreatW3
import Derived.Test.YtmpddimhleianaaGreatW8
set_option linter.unusedVariables false
set_option linter.unusedSimpArgs false
set_option maxRecDepth 8000
set_option maxHeartbeats 4000000
namespace Go.Proofs.YtmpddimhleianaaGreat
open Go Go.FH Go.RowKit
structure OpV where
 kind:Int
 blk:Blk
 att:Int×Rt×Cp×List Int
 slg:Sv
 tab:Tv
 vdt:Vdt
 write:Int
 keep:Int
def opL(x:OpV):SOp:=⟨x.kind,x.blk,rj x.att,nO x.slg,EU x.tab,x.vdt,x.write,x.keep⟩
theorem JV(x:OpV):(opL x).kind=x.kind:=rfl
theorem Lq(x:OpV):(opL x).blk=x.blk:=rfl
theorem Lp(x:OpV):(opL x).att=rj x.att:=rfl
theorem Ls(x:OpV):(opL x).slg=nO x.slg:=rfl
theorem Lt(x:OpV):(opL x).tab=EU x.tab:=rfl
theorem Lu(x:OpV):(opL x).vdt=x.vdt:=rfl
theorem Hf(x:OpV):(opL x).write=x.write:=rfl
theorem JU(x:OpV):(opL x).keep=x.keep:=rfl
theorem JT(x:OpV):(opL x).good=true:=rfl
theorem Na(x:OpV):(opL x).Pure:=⟨bE _ _,⟨zL _,zL _⟩,bE _ _⟩
theorem i8(x:OpV):PuL (dj (opL x)):=(jd _).2 (Na x)
theorem Lr(x:OpV)(ρ:Nat->Nat):(opL x).map (ren ρ)=opL x:=by simp only[opL,SOp.map,BK,Dc,Kk]
theorem M4(x:OpV)(σ:St)(zs:List Nat):(opL x).map (fz σ zs)=opL x:=by simp only[opL,SOp.map,EY,Fw,FM]
theorem Ks(x:Sv):(nO x).fst=ahc x.1:=rfl
theorem Ku(x:Sv):(nO x).snd=ahc x.2:=rfl
theorem fw(x:Int×Rt×Cp×List Int):(rj x).vals=.sl 1 false (aH .i64 x.2.2.2):=rfl
theorem jN(x:Tv):(EU x).bals=.sl 1 false (aH .u64 x.2):=rfl
theorem qT(x:Tv):(EU x).cp=x.1:=rfl
attribute [go_sem] JV Lq Lp Ls Lt Lu Hf JU JT Lr M4 Ks Ku fw jN qT
theorem sD(n:Int):PC Tryz.prog 163 [.int .i64 n] (.bool (decide (0<=n/\n<=32768))):=by
 refine PC.fact 5 vf WM ⟨trivial,trivial⟩ trivial ?_;unfold oM;refine bd ?_;by_cases h:0<=n
 ·have e:decide (0<=n)=true:=by simpa using h
  refine ah e ?_;refine⟨_,(by first|rfl|exact evd),.inl ?_⟩;refine evg ?_;try simp[h]
 ·have e:decide (0<=n)=false:=by simpa using h
  refine ah e ?_;refine⟨_,(by first|rfl|exact evd),.inl ?_⟩;refine evg ?_;try simp[h]
theorem MS{α:Type}(l:List α):((l.length:Int)==0)=decide (l=[]):=by cases l<;>simp<;>omega
theorem Ec(a:Int×Rt×Cp×List Int):PC Tryz.prog 165 [.agg (cy (rj a))] (.bool (decide (a=oX))):=by
 refine PC.fact 5 nJ WM ⟨adl a,trivial⟩ trivial ?_;unfold kD;refine bd ?_;obtain⟨s,r,c,l⟩:=a;have e4:=MS l;by_cases h1:s=0
 ·subst h1
  by_cases h2:r=rt0
  ·have e2:decide (r=rt0)=true:=by simpa using h2
   by_cases h3:c=⟨0,rt0⟩
   ·have e3:decide (c=⟨0,rt0⟩)=true:=by simpa using h3
    repeat(first|refine bY ?_|simp only[go_sem,e2,e3,e4,rj])
    refine⟨_,(by first|rfl|exact evd),.inl ?_⟩;refine evg ?_;simp[oX,cp0,h2,h3]
   ·have e3:decide (c=⟨0,rt0⟩)=false:=by simpa using h3
    repeat(first|refine bY ?_|simp only[go_sem,e2,e3,e4,rj])
    refine⟨_,(by first|rfl|exact evd),.inl ?_⟩;refine evg ?_;simp[oX,cp0,h2,h3]
  ·have e2:decide (r=rt0)=false:=by simpa using h2
   repeat(first|refine bY ?_|simp only[go_sem,e2,e4,rj])
   refine⟨_,(by first|rfl|exact evd),.inl ?_⟩;refine evg ?_;simp[oX,h2]
 ·have e1:(s==0)=false:=by simpa using h1
  repeat(first|refine bY ?_|simp only[go_sem,e1,e4,rj])
  refine⟨_,(by first|rfl|exact evd),.inl ?_⟩;refine evg ?_;simp[oX,h1]
theorem vK(a:Cv):PC Tryz.prog 166 [.agg (du (ahc a))] (.bool (decide (a=oV))):=by
 refine PC.fact 5 qL WM ⟨(re _).2 (zL a),trivial⟩ trivial ?_;unfold mJ;refine bd ?_;obtain⟨s,t,r,l⟩:=a;have e4:=MS l;by_cases h1:s=0
 ·subst h1
  by_cases h2:t=0
  ·subst h2
   by_cases h3:r=rt0
   ·have e3:decide (r=rt0)=true:=by simpa using h3
    repeat(first|refine bY ?_|simp only[go_sem,e3,e4,ahc])
    refine⟨_,(by first|rfl|exact evd),.inl ?_⟩;refine evg ?_;simp[oV,h3]
   ·have e3:decide (r=rt0)=false:=by simpa using h3
    repeat(first|refine bY ?_|simp only[go_sem,e3,e4,ahc])
    refine⟨_,(by first|rfl|exact evd),.inl ?_⟩;refine evg ?_;simp[oV,h3]
  ·have e2:(t==0)=false:=by simpa using h2
   repeat(first|refine bY ?_|simp only[go_sem,e2,e4,ahc])
   refine⟨_,(by first|rfl|exact evd),.inl ?_⟩;refine evg ?_;simp[oV,h2]
 ·have e1:(s==0)=false:=by simpa using h1
  repeat(first|refine bY ?_|simp only[go_sem,e1,e4,ahc])
  refine⟨_,(by first|rfl|exact evd),.inl ?_⟩;refine evg ?_;simp[oV,h1]
def prs(fs:List (Int×Bool)):List (List AV):=fs.map fun f=>[.int .i64 f.1,.bool f.2]
theorem D8(fs:List (Int×Bool)):(prs fs).length=fs.length:=by simp[prs]
theorem Jb{fs:List (Int×Bool)}{i:Nat}(h:i<fs.length):(prs fs).getD i []=[.int .i64 fs[i].1,.bool fs[i].2]:=by
 simp[prs,h]
theorem H9(fs:List (Int×Bool)):fy (prs fs):=by
 induction fs with
 |nil=>trivial
 |cons f fs ih=>exact⟨⟨trivial,trivial,trivial⟩,ih⟩
theorem Hs(ρ:Nat->Nat)(fs:List (Int×Bool)):bH ρ (prs fs)=prs fs:=(H9 fs).ren ρ
theorem IX(σ:St)(zs:List Nat)(fs:List (Int×Bool)):dh σ zs (prs fs)=prs fs:=(H9 fs).fz σ zs
attribute [go_sem] D8 Hs IX
def okF(k:Int)(fs:List (Int×Bool))(i:Nat):Bool:=if h:i<fs.length then ((fs[i].1==k) || fs[i].2)&&okF k fs (i+1)else true
termination_by fs.length-i
theorem vL{k:Int}{fs:List (Int×Bool)}{i:Nat}(h:i<fs.length):okF k fs i=(((fs[i].1==k) || fs[i].2)&&okF k fs (i+1)):=by rw[okF,dif_pos h]
theorem E7{k:Int}{fs:List (Int×Bool)}{i:Nat}(h:¬i<fs.length):okF k fs i=true:=by rw[okF,dif_neg h]
def FS(x:OpV):List (Int×Bool):=
 [(2,decide (x.blk=cw)),(3,decide (x.att=oX)),(4,decide (x.slg.1=oV)&&decide (x.slg.2=oV)),(5,decide (x.tab.1=cp0)&&decide (x.tab.2=[])),(6,decide (x.vdt=lZ)),(8,(x.write==0)&&(x.keep==0))]
def Cc(x:OpV):Bool:=okF x.kind (FS x) 0
set_option maxHeartbeats 4000000 in
theorem G7(x:OpV):PC Tryz.prog 102 [.agg (dj (opL x))] (.bool (Cc x)):=by
 refine PC.fact 6 yx WM ⟨i8 x,trivial⟩ trivial ?_;unfold qy;refine bd ?_;have k1:=Ec x.att;have k2:=vK x.slg.1;have k3:=vK x.slg.2;have e5:=MS x.tab.2;have hz:Cc x=okF x.kind (FS x) 0:=rfl;unfold FS at hz;have z0:cw=⟨⟨⟨0,rt0⟩,⟨0,rt0⟩⟩,0,rt0,rt0,rt0,wd0,wd0,⟨0,rt0⟩,⟨0,rt0⟩,false⟩:=rfl;rw[z0]at hz;generalize hB1:decide (x.blk=⟨⟨⟨0,rt0⟩,⟨0,rt0⟩⟩,0,rt0,rt0,rt0,wd0,wd0,⟨0,rt0⟩,⟨0,rt0⟩,false⟩)=B1 at *;generalize hB2:decide (x.att=oX)=B2 at *;generalize hB3:decide (x.slg.1=oV)=B3 at *;generalize hB4:decide (x.slg.2=oV)=B4 at *;generalize hB6:decide (x.tab.2=[])=B6 at *;rw[show cp0=⟨0,rt0⟩from rfl,show lZ=⟨0,0,rt0⟩from rfl]at hz;generalize hB5:decide (x.tab.1=⟨0,rt0⟩)=B5 at *;generalize hB7:decide (x.vdt=⟨0,0,rt0⟩)=B7 at *;generalize hB8:(x.write==0)=B8 at *;generalize hB9:(x.keep==0)=B9 at *;rw[hz];generalize hf:[((2:Int),B1),(3,B2),(4,B3&&B4),(5,B5&&B6),(6,B7),(8,B8&&B9)]=fs;have hlen:fs.length=6:=by rw[<-hf];rfl
 have hp:[[.int .i64 2,.bool B1],[.int .i64 3,.bool B2],[.int .i64 4,.bool (B3&&B4)],[.int .i64 5,.bool (B5&&B6)],[.int .i64 6,.bool B7],[.int .i64 8,.bool (B8&&B9)]]=prs fs:=by rw[<-hf];rfl
 clear hz;cases B3<;>cases B5<;>cases B8<;>simp only[ajq,am2]at hp <;>
 (
  repeat(first|refine bY ?_|simp only[go_sem,hB1,hB5,hB7,hB8,hB9,e5,hp])
  refine aK (k1) ?_;repeat(first|refine bY ?_|simp only[go_sem,hB1,hB5,hB7,hB8,hB9,e5,hp])
  refine aK (k2) ?_;repeat(first|refine bY ?_|simp only[go_sem,hB1,hB5,hB7,hB8,hB9,e5,hp])
  try refine aK (k3) ?_
  repeat(first|refine bY ?_|simp only[go_sem,hB1,hB5,hB7,hB8,hB9,e5,hp])
  refine eZ (fun i:Nat=>⟨6,[.dead,.ptr 0 0,.bool false,.dead,.dead,.dead],[(56,.int .i64 i),(55,.int .i64 6),(54,.sl 2 true (prs fs))]⟩) (fun _=>[.var (dj (opL x))]) (fun i=>6-i)
   (fun i=>i<=6/\okF x.kind fs i=okF x.kind fs 0) 0 ⟨WL,rfl⟩ ?_ ?_
  ·refine GC.mkT [] [0] WM rfl WM WM evd evd evd
  rintro i ⟨i1,i2⟩;try dsimp only
  refine gon ?_;refine aY evd (fun h=>?_) (fun h=>?_)
  ·have hi:i<6:=by simp at h;omega
   have hg:=Jb (fs:=fs) (i:=i) WL;have hw:=af hi WL;rw[vL WL]at i2;by_cases hk:fs[i].1=x.kind
   ·have hk1:(fs[i].1 != x.kind)=false:=by simp[hk]
    have hk2:(fs[i].1==x.kind)=true:=by simp[hk]
    rw[hk2]at i2;refine OA hg hk1 hw hlen ?_;refine pz hg hk1 hw hlen ?_;exact⟨i+1,⟨WL,by simpa using i2⟩,WL,by refine GC.mkT [] [0] WM rfl WM WM evd evd evd⟩
   ·have hk1:(fs[i].1 != x.kind)=true:=by simp[hk]
    have hk2:(fs[i].1==x.kind)=false:=by simp[hk]
    rw[hk2]at i2;refine pz hg hk1 hw hlen ?_;cases hb:fs[i].2
    ·rw[hb,aj9,ajq]at i2;rw[<-i2];refine ax ?_ (by(try simp only[go_sem,hb]);try exact evd);refine gon ?_;exact ai
    ·refine aB ?_ (by(try simp only[go_sem,hb]);try exact evd);refine pz hg hk1 hw hlen ?_;exact⟨i+1,⟨WL,by simpa[hb]using i2⟩,WL,by refine GC.mkT [] [0] WM rfl WM WM evd evd evd⟩
  ·have hi:i=6:=by simp at h;omega
   subst hi;rw[<-i2,E7 WL];refine gon ?_;exact ai
 )
structure yL(x:OpV):Prop where
 att:x.att.2.2.2.length<=140737488355328
 fst:x.slg.1.2.2.2.length<=140737488355328
 snd:x.slg.2.2.2.2.length<=140737488355328
 tab:x.tab.2.length<=140737488355328
def Ek(a b:Int×Rt×Cp×List Int):Bool:=decide (a.1=b.1/\a.2.1=b.2.1/\a.2.2.1=b.2.2.1/\a.2.2.2=b.2.2.2)
def vU(a b:Cv):Bool:=decide (a.1=b.1/\a.2.1=b.2.1/\a.2.2.1=b.2.2.1/\a.2.2.2=b.2.2.2)
def El(a b:Tv):Bool:=decide (a.1=b.1/\a.2=b.2)
def Wf(x y:OpV):Bool:=(x.kind==y.kind)&&(decide (x.blk=y.blk)&&(Ek x.att y.att&&((vU x.slg.1 y.slg.1&&vU x.slg.2 y.slg.2)&&(El x.tab y.tab&&(decide (x.vdt=y.vdt)&&((x.write==y.write)&&(x.keep==y.keep)))))))
set_option maxHeartbeats 4000000 in
theorem LU(x y:OpV)(hx:yL x)(hy:yL y):PC Tryz.prog 113 [.agg (dj (opL x)),.agg (dj (opL y))] (.bool (Wf x y)):=by
 refine PC.fact 5 yn WM ⟨i8 x,i8 y,trivial⟩ trivial ?_;unfold qw Wf;refine bd ?_;have k1:PC Tryz.prog 96 [.agg (cy (rj x.att)),.agg (cy (rj y.att))] (.bool (Ek x.att y.att)):=SE (rj x.att) (rj y.att) _ _ false false rfl rfl hx.att hy.att;have k2:PC Tryz.prog 200 [.agg (d7 (nO x.slg)),.agg (d7 (nO y.slg))] (.bool (vU x.slg.1 y.slg.1&&vU x.slg.2 y.slg.2)):=Ko (nO x.slg) (nO y.slg) _ _ _ _ false false false false rfl rfl rfl rfl hx.fst hx.snd hy.fst hy.snd;have k3:PC Tryz.prog 156 [.agg (ar (EU x.tab)),.agg (ar (EU y.tab))] (.bool (El x.tab y.tab)):=SG (EU x.tab) (EU y.tab) _ _ false false rfl rfl hx.tab hy.tab;generalize h1:(x.kind==y.kind)=B1 at *;generalize h2:decide (x.blk=y.blk)=B2 at *;generalize Ek x.att y.att=B3 at *;generalize (vU x.slg.1 y.slg.1&&vU x.slg.2 y.slg.2)=B4 at *;generalize El x.tab y.tab=B5 at *;generalize h6:decide (x.vdt=y.vdt)=B6 at *;generalize h7:(x.write==y.write)=B7 at *;generalize h8:(x.keep==y.keep)=B8 at *;cases B1
 ·refine ah h1 ?_;exact ai
 cases B2
 ·refine aZ h1 h2 ?_;exact ai
 refine aZ h1 h2 ?_;refine am k1 ?_;cases B3
 ·refine aZ h1 h2 ?_;exact ai
 refine aZ h1 h2 ?_;refine am k2 ?_;cases B4
 ·refine aZ h1 h2 ?_;exact ai
 refine aZ h1 h2 ?_;refine am k3 ?_;cases B5
 ·refine dC h1 h2 h6 ?_;exact ai
 cases B6
 ·refine dC h1 h2 h6 ?_;exact ai
 cases B7
 ·refine pz h1 h2 h6 h7 ?_;exact ai
 ·refine eU h1 h2 h6 h7 h8 ?_;exact ai
structure OpU(x:OpV):Prop where
 blk:NQ x.blk
 slot:U64 x.att.1
 ep:U64 x.att.2.2.1.ep
 att:x.att.2.2.2.length<=140737488355328
 fst:Dj (ahc x.slg.1) x.slg.1.2.2.2 false
 snd:Dj (ahc x.slg.2) x.slg.2.2.2.2 false
 tab:GR (EU x.tab) x.tab.2 false
 tag:U64 x.vdt.tag
theorem OpU.len{x:OpV}(h:OpU x):yL x:=⟨h.att,h.fst.len,h.snd.len,h.tab.len⟩
def lj(x:OpV):Bool:=!(decide (0<=x.write/\x.write<=32768)&&decide (0<=x.keep/\x.keep<=32768))
def fld(x:OpV):List UInt8×Int:=
 if x.kind=2 then (i9 x.blk,0)
 else if x.kind=3 then (if cE x.att.2.2.2 1024=0 then oW (rj x.att) x.att.2.2.2 else [],cE x.att.2.2.2 1024)
 else if x.kind=4 then (if uT x.slg.1.2.2.2 x.slg.2.2.2.2=0 then Fh (nO x.slg) x.slg.1.2.2.2 x.slg.2.2.2.2 else [],uT x.slg.1.2.2.2 x.slg.2.2.2.2)
 else if x.kind=5 then (if 1024<x.tab.2.length then []else oK (EU x.tab) x.tab.2,if 1024<x.tab.2.length then 3 else 0)
 else if x.kind=6 then (if uC x.vdt then []else Nd x.vdt,if uC x.vdt then 3 else 0)
 else if x.kind=8 then (if lj x then ([],3)else (br x.write.toNat++br x.keep.toNat,0))
 else ([],0)
set_option maxHeartbeats 4000000 in
theorem CS(x:OpV)(hx:OpU x):PC Tryz.prog 101 [.agg (dj (opL x))] (.tup [.sl 1 false (bts (fld x).1),.int .i64 (fld x).2]):=by
 refine PC.fact 4 vJ WM ⟨i8 x,trivial⟩ ⟨iV _,trivial,trivial⟩ ?_;unfold o9;refine bd ?_;have k2:=Sq x.blk hx.blk;have k3:=acm (rj x.att) x.att.2.2.2 false rfl hx.att hx.slot hx.ep;have k4:=Kd (nO x.slg) x.slg.1.2.2.2 x.slg.2.2.2.2 false false hx.fst hx.snd;have k5:=acn (EU x.tab) x.tab.2 false hx.tab;have k6:=Kh x.vdt hx.tag;unfold fld;by_cases h8:x.kind=8
 ·clear k2 k3 k4 k5 k6
  rw[al5 WL,al5 WL,al5 WL,al5 WL,al5 WL,al7 h8];have s1:=sD x.write;have s2:=sD x.keep;by_cases hg:0<=x.write/\x.write<=32768/\0<=x.keep/\x.keep<=32768
  ·have hb:lj x=false:=by simp[lj];omega
   have w1:IntKind.u64.wrap x.write=x.write:=aN WL WL;have w2:IntKind.u64.wrap x.keep=x.keep:=aN WL WL;have q1:=dT (n:=x.write.toNat) WL;have q2:=dT (n:=x.keep.toNat) WL;have p1:=(gL x.write WL WL).nil WL;have p2:=(gL x.keep WL WL).own (br x.write.toNat) WL;rw[au (show 0<=x.write/\x.write<=32768 by omega)]at s1;rw[au (show 0<=x.keep/\x.keep<=32768 by omega)]at s2;have g1:¬x.write<0:=WL
   have g2:¬32768<x.write:=WL
   have g3:¬x.keep<0:=WL
   have g4:¬32768<x.keep:=WL
   rw[hb,al5 WM];clear hb hg;refine nx fun _=>?_
   refine dse [] p1 ?_;refine nx fun _=>?_
   refine dse [1] p2 ?_;exact aw
  ·have hb:lj x=true:=by simp[lj];omega
   rw[hb,al7 rfl];exact aw
 ·exact aw
set_option maxHeartbeats 4000000 in
theorem Da(x:OpV)(hx:OpU x):PC Tryz.prog 112 [.agg (dj (opL x))] (.tup [.sl 1 false (bts (fld x).1),.int .i64 (fld x).2]):=by
 refine PC.fact 4 AE WM ⟨i8 x,trivial⟩ ⟨iV _,trivial,trivial⟩ ?_;unfold rI;refine bd ?_;have k2:=Kp x.blk hx.blk;have k3:=SI (rj x.att) x.att.2.2.2 false rfl hx.att hx.slot hx.ep;have k4:=Kq (nO x.slg) x.slg.1.2.2.2 x.slg.2.2.2.2 false false hx.fst hx.snd;have k5:=SJ (EU x.tab) x.tab.2 false hx.tab;have k6:=Kr x.vdt hx.tag;unfold fld;by_cases h8:x.kind=8
 ·clear k2 k3 k4 k5 k6
  rw[al5 WL,al5 WL,al5 WL,al5 WL,al5 WL,al7 h8];by_cases hg:0<=x.write/\x.write<=32768/\0<=x.keep/\x.keep<=32768
  ·have hb:lj x=false:=by simp[lj];omega
   have w1:IntKind.u64.wrap x.write=x.write:=aN WL WL;have w2:IntKind.u64.wrap x.keep=x.keep:=aN WL WL;have q1:=dT (n:=x.write.toNat) WL;have q2:=dT (n:=x.keep.toNat) WL;have p1:=(cV x.write WL WL).nil WL;have p2:=(cV x.keep WL WL).own (br x.write.toNat) WL;have g1:¬x.write<0:=WL
   have g2:¬32768<x.write:=WL
   have g3:¬x.keep<0:=WL
   have g4:¬32768<x.keep:=WL
   rw[hb,al5 WM];clear hb hg;refine nx fun _=>?_
   refine dse [] p1 ?_;refine nx fun _=>?_
   refine dse [1] p2 ?_;exact aw
  ·have hb:lj x=true:=by simp[lj];omega
   rw[hb,al7 rfl];exact aw
 ·exact aw
def vOp(x:OpV):Int:=if x.kind<1\/8<x.kind then 2 else if (fld x).2≠0 then (fld x).2 else if Cc x then 0 else 2
theorem Ll(x:OpV):Cc x=(((((2:Int)==x.kind) || decide (x.blk=cw)))&&((((3:Int)==x.kind) || decide (x.att=oX))&&((((4:Int)==x.kind) || (decide (x.slg.1=oV)&&decide (x.slg.2=oV)))&&((((5:Int)==x.kind) || (decide (x.tab.1=cp0)&&decide (x.tab.2=[])))&&((((6:Int)==x.kind) || decide (x.vdt=lZ))&&(((8:Int)==x.kind) || ((x.write==0)&&(x.keep==0)))))))):=by
 unfold Cc FS;rw[vL WM,vL WM,vL WM,vL WM,vL WM,vL WM,E7 WM];simp
theorem rl(a:Int×Rt×Cp×List Int):Ek a oX=decide (a=oX):=by
 obtain⟨s,r,c,l⟩:=a;show decide (s=0/\r=rt0/\c=cp0/\l=[])=_
 rw[ajZ];simp[oX]
theorem rm(a:Cv):vU a oV=decide (a=oV):=by
 obtain⟨s,r,c,l⟩:=a;show decide (s=0/\r=0/\c=rt0/\l=[])=_
 rw[ajZ];simp[oV]
theorem ro(a:Tv):El a j4=(decide (a.1=cp0)&&decide (a.2=[])):=by show decide (a.1=cp0/\a.2=[])=_;rw[ajZ];simp
theorem Hv(a:Int×Rt×Cp×List Int):Ek a a=true:=by simp[Ek]
theorem Hw(a:Cv):vU a a=true:=by simp[vU]
theorem HA(a:Tv):El a a=true:=by simp[El]
def mask(x:OpV):OpV:=
 if x.kind=2 then ⟨x.kind,x.blk,oX,mB,j4,lZ,0,0⟩
 else if x.kind=3 then ⟨x.kind,cw,x.att,mB,j4,lZ,0,0⟩
 else if x.kind=4 then ⟨x.kind,cw,oX,x.slg,j4,lZ,0,0⟩
 else if x.kind=5 then ⟨x.kind,cw,oX,mB,x.tab,lZ,0,0⟩
 else if x.kind=6 then ⟨x.kind,cw,oX,mB,j4,x.vdt,0,0⟩
 else if x.kind=8 then ⟨x.kind,cw,oX,mB,j4,lZ,x.write,x.keep⟩
 else ⟨x.kind,cw,oX,mB,j4,lZ,0,0⟩
theorem kZ(x:OpV)(k:Int)(b:Blk)(a:Int×Rt×Cp×List Int)(s:Sv)(t:Tv)(v:Vdt)(w p:Int):Wf x ⟨k,b,a,s,t,v,w,p⟩=((x.kind==k)&&(decide (x.blk=b)&&(Ek x.att a&&((vU x.slg.1 s.1&&vU x.slg.2 s.2)&&(El x.tab t&&(decide (x.vdt=v)&&((x.write==w)&&(x.keep==p)))))))):=rfl
theorem Ha(x:OpV):Wf x (mask x)=Cc x:=by
 rw[Ll,ajZ];unfold mask;split
 ·rename_i h;rw[kZ];simp[mB,rl,rm,ro,h]
 split
 ·rename_i h;rw[kZ];simp[mB,rl,rm,ro,Hv,h]
 split
 ·rename_i h;rw[kZ];simp[mB,rl,rm,ro,Hw,h]
 split
 ·rename_i h;rw[kZ];simp[mB,rl,rm,ro,HA,h]
 split
 ·rename_i h;rw[kZ];simp[mB,rl,rm,ro,h]
 split
 ·rename_i h;rw[kZ];simp[mB,rl,rm,ro,h]
 ·rename_i h2 h3 h4 h5 h6 h8;have n2:((2:Int)==x.kind)=false:=by simp;omega
  have n3:((3:Int)==x.kind)=false:=by simp;omega
  have n4:((4:Int)==x.kind)=false:=by simp;omega
  have n5:((5:Int)==x.kind)=false:=by simp;omega
  have n6:((6:Int)==x.kind)=false:=by simp;omega
  have n8:((8:Int)==x.kind)=false:=by simp;omega
  rw[kZ];simp[mB,rl,rm,ro,n2,n3,n4,n5,n6,n8]
theorem yL.mask{x:OpV}(h:yL x):yL (mask x):=by
 unfold Go.Proofs.YtmpddimhleianaaGreat.mask;(repeat' split)<;>exact⟨by first|exact h.att|simp[oX],by first|exact h.fst|simp[mB,oV],by first|exact h.snd|simp[mB,oV],by first|exact h.tab|simp[j4]⟩
theorem lw{x y:SOp}(h1:x.kind=y.kind)(h2:x.blk=y.blk)(h3:WkC (cy x.att) (cy y.att))(h4:WkC (d7 x.slg) (d7 y.slg))(h5:WkC (ar x.tab) (ar y.tab))(h6:x.vdt=y.vdt)(h7:x.write=y.write)(h8:x.keep=y.keep):WkC (dj x) (dj y):=by
 obtain⟨a1,a2,a3,a4,a5,a6,a7,a8⟩:=x;obtain⟨b1,b2,b3,b4,b5,b6,b7,b8⟩:=y;simp only at h1 h2 h3 h4 h5 h6 h7 h8;subst h1 h2 h6 h7 h8;exact WkC.same _ ((WkC.refl _).app (h3.app (h4.app (h5.app ((WkC.refl _).app (WkC.refl _))))))
theorem jI:WkC (cy Do) (cy (rj oX)):=WkC.same _ ((WkC.refl (rtc rt0)).app ((WkC.refl (cpC cp0)).app (WkC.one (Wk.empty 0 1 false) fun h=>h)))
theorem jJ:WkC (d7 KY) (d7 (nO mB)):=(FR 0 0 rt0 (Wk.empty 0 1 false) fun h=>h).app (FR 0 0 rt0 (Wk.empty 0 1 false) fun h=>h)
theorem jL:WkC (ar yp) (ar (EU j4)):=(WkC.refl (cpC cp0)).app (WkC.one (Wk.empty 0 1 false) fun h=>h)
set_option maxHeartbeats 4000000 in
theorem Nc(x:OpV)(hx:OpU x):PC Tryz.prog 55 [.agg (dj (opL x))] (.int .i64 (vOp x)):=by
 refine PC.fact 5 sG WM ⟨i8 x,trivial⟩ trivial ?_;unfold mD;refine bd ?_;unfold vOp;have k1:=CS x hx;have k2:=G7 x;generalize fld x=F at *;generalize Cc x=I at *;obtain⟨f,e⟩:=F;cases I<;>exact aw
theorem De(x:OpV)(hx:OpU x):PC Tryz.prog 57 [.agg (dj (opL x))] (.int .i64 (vOp x)):=by
 refine PC.fact 6 rR WM ⟨i8 x,trivial⟩ trivial ?_;unfold mC;refine bd ?_;unfold vOp;have k1:=Da x hx;have k2:=LU x (mask x) hx.len hx.len.mask;rw[Ha]at k2;have key:∀y:SOp,WkC (dj y) (dj (opL (mask x)))->PuL (dj y)->PC Tryz.prog 113 [.agg (dj (opL x)),.agg (dj y)] (.bool (Cc x)):=fun y h1 h2=>⟨k2.call.wk ⟨Wk.refl _,Wk.agg h1,trivial⟩,⟨i8 x,h2,trivial⟩,k2.pr⟩
 unfold mask at key;generalize fld x=F at *;generalize Cc x=I at *;obtain⟨f,e⟩:=F;clear k2 hx;obtain⟨kd,xb,xa,xs,xt,xv,xw,xp⟩:=x;dsimp only at *;by_cases h2:kd=2
 ·subst h2;have k:=key ⟨2,xb,Do,KY,yp,lZ,0,0⟩ (by simp only[Int.reduceEq,amt,amj];exact lw rfl rfl jI jJ jL rfl rfl rfl) ((jd _).2 ⟨trivial,⟨trivial,trivial⟩,trivial⟩);clear key;cases I<;>exact aw
 by_cases h3:kd=3
 ·subst h3;have k:=key ⟨3,cw,rj xa,KY,yp,lZ,0,0⟩ (by simp only[Int.reduceEq,amt,amj];exact lw rfl rfl (WkC.refl _) jJ jL rfl rfl rfl) ((jd _).2 ⟨bE _ _,⟨trivial,trivial⟩,trivial⟩);clear key;cases I<;>exact aw
 by_cases h4:kd=4
 ·subst h4;have k:=key ⟨4,cw,Do,nO xs,yp,lZ,0,0⟩ (by simp only[Int.reduceEq,amt,amj];exact lw rfl rfl jI (WkC.refl _) jL rfl rfl rfl) ((jd _).2 ⟨trivial,⟨bE _ _,bE _ _⟩,trivial⟩);clear key;cases I<;>exact aw
 by_cases h5:kd=5
 ·subst h5;have k:=key ⟨5,cw,Do,KY,EU xt,lZ,0,0⟩ (by simp only[Int.reduceEq,amt,amj];exact lw rfl rfl jI jJ (WkC.refl _) rfl rfl rfl) ((jd _).2 ⟨trivial,⟨trivial,trivial⟩,bE _ _⟩);clear key;cases I<;>exact aw
 by_cases h6:kd=6
 ·subst h6;have k:=key ⟨6,cw,Do,KY,yp,xv,0,0⟩ (by simp only[Int.reduceEq,amt,amj];exact lw rfl rfl jI jJ jL rfl rfl rfl) ((jd _).2 ⟨trivial,⟨trivial,trivial⟩,trivial⟩);clear key;cases I<;>exact aw
 by_cases h8:kd=8
 ·subst h8;have k:=key ⟨8,cw,Do,KY,yp,lZ,xw,xp⟩ (by simp only[Int.reduceEq,amt,amj];exact lw rfl rfl jI jJ jL rfl rfl rfl) ((jd _).2 ⟨trivial,⟨trivial,trivial⟩,trivial⟩);clear key;cases I<;>exact aw
 have k:=key ⟨kd,cw,Do,KY,yp,lZ,0,0⟩ (by simp only[h2,h3,h4,h5,h6,h8,amj];exact lw rfl rfl jI jJ jL rfl rfl rfl) ((jd _).2 ⟨trivial,⟨trivial,trivial⟩,trivial⟩);clear key;cases I<;>exact aw
def ops(l:List OpV):List (List AV):=l.map fun x=>dj (opL x)
theorem VY{x:Blk}(u:NQ x):(i9 x).length<=1000:=by
 have r1:=x.root.2;have r2:=x.parent.2;have r3:=x.payload.2;have r4:=(cK x.diff).2;have r5:=(cK x.pdiff).2;have q1:=u.slot.len;have q2:=eK u.just;have q3:=eK u.fin;have q4:=eK u.j;have q5:=eK u.f;have q6:(fW x.timely).length<=1:=by cases x.timely<;>simp[fW]
 simp only[i9,akC];omega
theorem RS(x:OpV):ops [x]=[dj (opL x)]:=rfl
attribute [go_sem] RS
def WkE:List (List AV)->List (List AV)->Prop
 | [],[]=>True
 |x::xs,y::ys=>WkC x y/\WkE xs ys
 |_,_=>False
theorem WkE.length:∀ {xs ys:List (List AV)},WkE xs ys->xs.length=ys.length
 | [],[],_=>rfl
 |_::_,_::_,h=>by simp[WkE.length h.2]
 | [],_::_,h|_::_,[],h=>h.elim
theorem WkE.rle{E:Env}{e:Nat}:∀ {xs ys:List (List AV)} {us:List Value},WkE xs ys->RlE E e xs us->RlE E e ys us
 | [],[],_,_,h=>h
 |_::_,_::_,_,hw,⟨us,ws,q1,q2,q3,q4⟩=>⟨us,ws,q1,q2,hw.1.rlc q3,WkE.rle hw.2 q4⟩
 | [],_::_,_,h,_|_::_,[],_,h,_=>h.elim
theorem Wk.sl{e:Nat}{cl:Bool}{xs ys:List (List AV)}(h:WkE xs ys):Wk (.sl e cl xs) (.sl e false ys):=by
 rintro E u ⟨a,n,cap,rfl,h1,h2,h3,h4,h5,h6⟩;refine⟨a,n,cap,rfl,by rw[h1,h.length],h2,h3,(fun h=>Bool.noConfusion h),h5,h6.imp id ?_⟩;rintro⟨b,off,vs,g1,g2,g3,g4,g5⟩;exact⟨b,off,vs,g1,g2,g3,g4,h.rle g5⟩
def t1:OpV:=⟨1,cw,oX,mB,j4,lZ,0,0⟩
def t8:OpV:=⟨8,cw,oX,mB,j4,lZ,2,5⟩
end Go.Proofs.YtmpddimhleianaaGreat
