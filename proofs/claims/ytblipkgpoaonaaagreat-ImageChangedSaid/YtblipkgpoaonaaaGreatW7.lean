/- Joined. -/
import Derived.Test.YtblipkgpoaonaaaGreatW4
import Derived.Test.YtblipkgpoaonaaaGreatW3
set_option linter.unusedVariables false
set_option linter.unusedSimpArgs false
set_option maxRecDepth 8000
set_option maxHeartbeats 4000000
namespace Go.Proofs.YtblipkgpoaonaaaGreat
open Go Go.FH
def br(n:Nat):List UInt8:=if h:n<128 then [UInt8.ofNat n]else UInt8.ofNat (n%128+128)::br (n / 128)
termination_by n
decreasing_by omega
theorem gF{n:Nat}(h:128<=n):br n=UInt8.ofNat (n%128+128)::br (n / 128):=by rw[br,dif_neg NB]
theorem eG{n:Nat}(h:n<128):br n=[UInt8.ofNat n]:=by rw[br,am5 h]
theorem afe:∀k:Fin 256,ior .u8 ((k.val:Nat):Int) 128=((k.val%128+128:Nat):Int):=by decide +kernel
theorem uhi(m:Nat):ior .u8 (IntKind.u8.wrap (m:Int)) 128=((UInt8.ofNat (m%128+128)).toNat:Int):=by
 have h:=afe ⟨m%256,NB⟩;simp only at h;rw[show IntKind.u8.wrap (m:Int)=((m%256:Nat):Int)by rw[IntKind.wrap_u8];omega,h];simp only[aj1];omega
theorem ulo{m:Nat}(h:m<128):IntKind.u8.wrap (m:Int)=((UInt8.ofNat m).toNat:Int):=by
 rw[IntKind.wrap_u8];simp only[aj1];omega
theorem Tn(m:Nat):fJ .u64 (m:Int) 7=((m / 128:Nat):Int):=by
 unfold fJ;rw[show ((2:Int) ^ (min 7 IntKind.u64.bits))=((128:Nat):Int)by decide];rw[aj4 _ NB];rfl
theorem Fo(bs:List UInt8):ay Tryz.prog 34 [.sl 1 false (bts bs)] [] (.ptr 0 0) [.var [.sl 1 false (bts bs),.int .i64 0]]:=by
 refine dS 3 ?_;refine gon ?_;exact ahY [] [0]
def xi(v:Int)(b:UInt8)(i:Nat):Int:=ior .u64 v (OY .u64 (IntKind.u64.wrap (lI .u8 (b.toNat:Int) 127)) (7*i))
def fO:List UInt8->Nat->Int->Int×Nat×Int
 | [],_,_=>(0,0,5)
 | b :: bs, i, v =>
   if i=9/\1<b.toNat then (0,0,2)
   else if b.toNat<128 then (if b.toNat=0/\0<i then (0,0,2)else (xi v b i,i+1,0))
   else fO bs (i+1) (xi v b i)
def iN(bs:List UInt8):Int×Nat×Int:=fO (bs.take 10) 0 0
theorem Va{bs:List UInt8}{i:Nat}(h:i<bs.length)(v:Int):fO (bs.drop i) i v=if i=9/\1<bs[i].toNat then (0,0,2)
 else if bs[i].toNat<128 then (if bs[i].toNat=0/\0<i then (0,0,2)else (xi v bs[i] i,i+1,0))
 else fO (bs.drop (i+1)) (i+1) (xi v bs[i] i):=by
 rw[amG h,fO]
theorem RS (bs : List UInt8) (cl : Bool) (e : Int) (hb : bs.length <= 140737488355328) :
 ay Tryz.prog 207 [.ptr 0 0] [.var [.sl 1 cl (bts bs),.int .i64 e]] (.tup [.int .u64 (iN bs).1,.int .i64 (iN bs).2.1,.int .i64 (iN bs).2.2]) [.var [.sl 1 cl (bts bs),.int .i64 e]]:=by
 refine dS 21 ?_;refine gon ?_
 have e1:List.take (if (10:Int)<bs.length then (10:Int)else bs.length).toNat bs=bs.take 10:=by
  split
  ·rfl
  ·rw[amf NB,amf NB]
 have e2:min (if (10:Int)<bs.length then (10:Int)else bs.length).toNat bs.length=(bs.take 10).length:=by
  rw[amA];split<;>omega
 have hq:(bs.take 10).length<=10:=by rw[amA];omega
 have hr:iN bs=fO (bs.take 10) 0 0:=rfl;simp only[aaE,Nat.sub_zero,amA,QH];simp only[e1,e2];generalize iN bs=r at *;generalize bs.take 10=q at *
 refine eZ (fun x:Nat×Int=>⟨21,[.ptr 0 0,.dead,.int .u64 0,.int .i64 0,.int .i64 0,.int .u64 x.2,.dead,.dead,.dead,.dead,.dead,.dead,.dead,.dead,.dead,.dead,.dead,.dead,.sl 1 false (bts q),.int .i64 q.length,.int .i64 x.1],[]⟩) (fun _=>[.var [.sl 1 cl (bts bs),.int .i64 e]]) (fun x=>q.length-x.1)
  (fun x=>x.1<=q.length/\fO (q.drop x.1) x.1 x.2=r) (0,0) ⟨NC,hr.symm⟩ ?_ ?_
 ·exact ais [] [0]
 rintro⟨i,v⟩ ⟨h1,h2⟩;dsimp only at h1 h2 ⊢;refine gon ?_;refine aY evd (fun h=>?_) (fun h=>?_)
 ·have hi : i < q.length := by simpa using h
  refine gon ?_;rw[HT hi];have hi10:i<10:=NB
  rw[Va hi]at h2;by_cases hA:i=9/\1<q[i].toNat
  ·have h9':(((i:Nat):Int)==9)=true:=by simp[hA.1]
   have hb':decide ((1:Int)<(q[i].toNat:Int))=true:=by have:=hA.2;simp;omega
   rw[al7 hA]at h2;subst h2;refine aZ h9' hb' ?_;refine aY rfl (fun h=>?_) (fun h=>by cases h);refine gon ?_;exact ahY [] [0]
  ·rw [al5 hA] at h2
   have hc:(i=9/\¬1<q[i].toNat)\/i≠9:=NB
   have hw1:IntKind.i64.wrap (7*(i:Int))=((7*i:Nat):Int):=by rw[aL NB NB];omega
   have hw2:IntKind.i64.wrap ((i:Int)+1)=((i+1:Nat):Int):=af hi NB;rcases hc with⟨h9,hb0⟩|h9
   all_goals
    first
     | (have h9' : (((i : Nat) : Int) == 9) = true := (by simp [h9])
        have hb':decide ((1:Int)<(q[i].toNat:Int))=false:=(by simp;omega);refine aZ h9' hb' ?_)
     | (have h9' : (((i : Nat) : Int) == 9) = false := (by simp; omega)
        refine ah h9' ?_)
    refine aY rfl (fun h=>by cases h) (fun h=>?_);refine ah hw1 ?_;refine aY evd (fun h=>?_) (fun h=>?_)
    ·have hb8:q[i].toNat<128:=by simp at h;omega
     rw[al7 hb8]at h2;by_cases hz:q[i].toNat=0
     ·have hz':((q[i].toNat:Int)==0)=true:=by simp[hz]
      refine ah hz' ?_;refine aY evd (fun h=>?_) (fun h=>?_)
      ·rw[al7 ⟨hz,by simpa using h⟩]at h2;subst h2;refine gon ?_;exact ahY [] [0]
      ·rw[al5 (fun hh=>by have:=hh.2;simp at h;omega)]at h2;subst h2;refine ah hw2 ?_;exact ahY [] [0]
     ·have hz':((q[i].toNat:Int)==0)=false:=by simp;omega
      rw[al5 (fun hh=>hz hh.1)]at h2;subst h2;refine ah hz' ?_;refine aY rfl (fun h=>by cases h) (fun h=>?_);refine ah hw2 ?_;exact ahY [] [0]
    ·have hb8:¬q[i].toNat<128:=by simp at h;omega
     rw[al5 hb8]at h2;refine ah hw2 ?_;refine⟨(i+1,xi v q[i] i),⟨hi,h2⟩,by dsimp only;omega,?_⟩;exact ais [] [0]
 ·have hi:i=q.length:=by simp at h;omega
  subst hi;rw[amB,fO]at h2;subst h2;refine gon ?_;exact ahY [] [0]
abbrev rdr(cl:Bool)(bs:List UInt8)(e:Int):cn:=.var [.sl 1 cl (bts bs),.int .i64 e]
theorem iJ(bs:List UInt8)(cl:Bool)(e x:Int):ay Tryz.prog 110 [.ptr 0 0,.int .i64 x] [rdr cl bs e] (.tup []) [rdr cl bs x]:=by
 refine dS 4 ?_;unfold rdr;refine gon ?_;exact ahY [] [0]
def aR(bs:List UInt8)(e m:Int):Int×List UInt8×Int:=
 if e≠0 then (0,bs,e)
 else if (iN bs).2.2=0 then (if m<(iN bs).1 then (0,bs,3)else ((iN bs).1,bs.drop (iN bs).2.1,0))else (0,bs,(iN bs).2.2)
theorem Sy:∀ (l:List UInt8) (i:Nat) (v:Int),(fO l i v).2.1<=i+l.length
 | [],i,v=>by simp[fO]
 | b :: l, i, v => by
   rw[fO];have:=Sy l (i+1) (xi v b i);simp only[al8];(repeat' split)<;>first|omega|(simp only;omega)
theorem WU(bs:List UInt8):(iN bs).2.1<=bs.length:=by
 have:=Sy (bs.take 10) 0 0;simp only[iN,amA]at this ⊢;omega
theorem lX(bs:List UInt8)(cl:Bool)(e m:Int)(hb:bs.length<=140737488355328):
 ay Tryz.prog 109 [.ptr 0 0,.int .u64 m] [rdr cl bs e] (.int .u64 (aR bs e m).1) [rdr cl (aR bs e m).2.1 (aR bs e m).2.2]:=by
 refine dS 8 ?_;unfold rdr aR;refine gon ?_;refine aY evd (fun h=>?_) (fun h=>?_)
 ·have he:e≠0:=by simpa using h
  simp only[al7 he];refine gon ?_;exact ahY [] [0]
 ·have he:e=0:=by simpa using h
  subst he;simp only[ajT,amp,amj];refine gon ?_;refine ocg [0] (RS bs cl 0 hb) ?_;by_cases hc:(iN bs).2.2=0
  ·have hc':((iN bs).2.2==0)=true:=by simp[hc]
   simp only[al7 hc];refine ah hc' ?_;refine aY evd (fun h=>?_) (fun h=>?_)
   ·have hm:m<(iN bs).1:=by simpa using h
    simp only[al7 hm];refine gon ?_;refine aY evd (fun h=>?_) (fun h=>?_)
    ·refine gon ?_;refine ocg [0] (iJ bs cl 0 3) ?_;exact ahY [] [0]
    ·simp at h
   ·have hm:¬m<(iN bs).1:=by simpa using h
    simp only[al5 hm];refine ah hc ?_;refine aY rfl (fun h=>by cases h) (fun h=>?_);refine gon ?_;have:=WU bs;have e3:List.take (bs.length-(iN bs).2.1) (List.drop (iN bs).2.1 bs)=List.drop (iN bs).2.1 bs:=amf NC;simp only[e3];refine gon ?_;exact ahY [] [0]
  ·have hc':((iN bs).2.2==0)=false:=by simpa using hc
   have hc2:((iN bs).2.2 != 0)=true:=by simpa using hc
   simp only[al5 hc];refine ah hc' ?_;refine aY rfl (fun h=>by cases h) (fun h=>?_);refine ah hc2 ?_;refine aY rfl (fun h=>?_) (fun h=>by cases h);refine gon ?_;refine ocg [0] (iJ bs cl 0 (iN bs).2.2) ?_;exact ahY [] [0]
theorem TS(bs:List UInt8)(cl:Bool)(e:Int):
 ay Tryz.prog 43 [.ptr 0 0] [rdr cl bs e] (.int .i64 (if e=0/\bs≠[]then 2 else e)) [rdr cl bs e]:=by
 refine dS 3 ?_;unfold rdr;refine gon ?_;by_cases he:e=0
 ·have he':(e==0)=true:=by simp[he]
  refine ah he' ?_;refine aY evd (fun h=>?_) (fun h=>?_)
  ·have hn:bs≠[]:=by simp at h;intro hh;simp[hh]at h
   rw[al7 ⟨he,hn⟩];refine gon ?_;exact ahY [] [0]
  ·have hn:bs=[]:=by(cases bs with|nil=>rfl|cons b bs=>first|(simp at h;done)|(simp at h;omega))
   rw[al5 (fun hh=>hh.2 hn)];refine gon ?_;exact ahY [] [0]
 ·have he':(e==0)=false:=by simpa using he
  rw[al5 (fun hh=>he hh.1)];refine ah he' ?_;refine aY rfl (fun h=>by cases h) (fun h=>?_);refine gon ?_;exact ahY [] [0]
theorem Tk:∀ (k n:Nat),n<128 ^ (k+1)->(br n).length<=k+1
 |0,n,h=>by rw[eG (by simpa using h)];simp
 | k + 1, n, h => by
   by_cases hn:n<128
   ·rw[eG hn];simp
   ·rw[gF NB,al8]
    have:n / 128<128 ^ (k+1):=by
     rw[Nat.div_lt_iff_lt_mul NB];rw[Nat.pow_succ]at h;exact h
    have:=Tk k (n / 128) this;omega
theorem dT{n:Nat}(h:n<18446744073709551616):(br n).length<=10:=Tk 9 n NB
theorem sp(n:Nat):0<(br n).length:=by
 by_cases hn:n<128
 ·rw[eG hn];simp
 ·rw[gF NB];simp
theorem adW:∀k:Fin 256,lI .u8 ((k.val:Nat):Int) 127=((k.val%128:Nat):Int):=by decide +kernel
theorem abY{v c k:Nat}(hv:v<2 ^ k)(hc:v+c*2 ^ k<18446744073709551616):
 ior .u64 (v:Int) ((c*2 ^ k:Nat):Int)=((v+c*2 ^ k:Nat):Int):=by
 have e:(BitVec.ofInt IntKind.u64.bits (v:Int) ||| BitVec.ofInt IntKind.u64.bits ((c*2 ^ k:Nat):Int)).toNat=v+c*2 ^ k:=by
  rw[BitVec.toNat_or,akL,akL,akl,akl];rw[aki (show v<2 ^ IntKind.u64.bits from alx (ajI _ _) hc),aki (show c*2 ^ k<2 ^ IntKind.u64.bits from alx (Nat.le_add_left _ _) hc)];rw[Nat.or_comm,al2 c,<-Nat.two_pow_add_eq_or_of_lt hv];omega
 unfold ior;rw[e,aN NB NB]
theorem Sz{v i:Nat}{b:UInt8}(hi:i<=9)(hv:v<2 ^ (7*i))(hb:v+b.toNat%128*2 ^ (7*i)<18446744073709551616):xi v b i=((v+b.toNat%128*2 ^ (7*i):Nat):Int):=by
 unfold xi;have h1:=adW ⟨b.toNat,b.toNat_lt⟩;simp only at h1;rw[h1,aN (n:=((b.toNat%128:Nat):Int)) NB NB];unfold OY;have h2:min (7*i) IntKind.u64.bits=7*i:=by simp only[IntKind.bits];omega
 rw[h2,show (((b.toNat%128:Nat):Int)*2 ^ (7*i))=((b.toNat%128*2 ^ (7*i):Nat):Int)by push_cast;rfl];rw[aN (n:=((b.toNat%128*2 ^ (7*i):Nat):Int)) NB NB];exact abY hv hb
theorem Vb(tail:List UInt8):∀ (m i v:Nat),i+(br m).length<=10->v<2 ^ (7*i)->v+m*2 ^ (7*i)<18446744073709551616->(0<m\/i=0)->
 fO ((br m++tail).take (10-i)) i v=(((v+m*2 ^ (7*i):Nat):Int),i+(br m).length,0):=by
 intro m;induction m using Nat.strongRecOn with
 | _ m ih =>
   intro i v hl hv hs hp;by_cases hm:m<128
   ·rw[eG hm]at hl ⊢;simp only[al8,ama]at hl ⊢;have hb:(UInt8.ofNat m).toNat=m:=by simp only[aj1];omega
    rw[show 10-i=(9-i)+1 by omega,amI,akV,fO,hb];rw[al5,al7 hm,al5 NB,Sz NB hv (by rw[hb,aki hm];exact hs),hb,aki hm];rintro⟨rfl,h1⟩;have:2*2 ^ (7*9)<=m*2 ^ (7*9):=amz _ h1;omega
   ·rw[gF NB]at hl ⊢
    simp only[al8]at hl ⊢;have hb:(UInt8.ofNat (m%128+128)).toNat=m%128+128:=by simp only[aj1];omega
    have hpos:=sp (m / 128);rw[show 10-i=(10-(i+1))+1 by omega,amI,akV,fO,hb];have e:2 ^ (7*(i+1))=128*2 ^ (7*i):=by rw[Nat.mul_add,Nat.pow_add,al2]
    have em:m*2 ^ (7*i)=m%128*2 ^ (7*i)+m / 128*2 ^ (7*(i+1)):=by
     rw[e,<-Nat.mul_assoc,<-amW];congr 1;omega
    have h2:m%128*2 ^ (7*i)<=127*2 ^ (7*i):=amz _ NB;rw[al5 NB,al5 NB,Sz NB hv (by rw[hb,show (m%128+128)%128=m%128 by omega];omega),hb,show (m%128+128)%128=m%128 by omega];rw[ih (m / 128) NB (i+1) _ NB (by rw[e];omega) NB NB];simp only[ajR,alq];exact⟨NB,NB⟩
theorem Zx{n:Nat}(h:n<18446744073709551616)(tail:List UInt8):iN (br n++tail)=((n:Int),(br n).length,0):=by
 have:=Vb tail n 0 0 (by have:=dT h;omega) NC (by simpa using h) (.inr rfl);simpa[iN]using this
theorem Zv:∀ (m i:Nat) (v:Int) (k:Nat),i+(br m).length<=10->k<(br m).length->fO ((br m).take k) i v=(0,0,5):=by
 intro m;induction m using Nat.strongRecOn with
 | _ m ih =>
   intro i v k hl hk;by_cases hm:m<128
   ·rw[eG hm]at hl hk ⊢;simp only[al8,ama]at hk;rw[show k=0 by omega];rfl
   ·rw[gF NB]at hl hk ⊢
    simp only[al8]at hk hl;cases k with
    |zero=>rfl
    | succ k =>
      have hb:(UInt8.ofNat (m%128+128)).toNat=m%128+128:=by simp only[aj1];omega
      have hpos:=sp (m / 128);rw[akV,fO,hb,al5 NB,al5 NB];exact ih (m / 128) NB (i+1) _ k NB NB
theorem acq{n k:Nat}(h:n<18446744073709551616)(hk:k<(br n).length):iN ((br n).take k)=(0,0,5):=by
 have:=dT h;unfold iN;rw[ak7,show min 10 k=k by omega];exact Zv n 0 0 k NB hk
structure App(f:FuncId)(xs:List AV)(e:List UInt8):Prop where
 clip:∀bs:List UInt8,bs.length+e.length<=140737488355328->ay Tryz.prog f (.sl 1 true (bts bs)::xs) [] (.hs 1 0 0 (bs.length+e.length)) [.vec 1 (bts (bs++e))]
 own:∀bs:List UInt8,bs.length+e.length<=140737488355328->ay Tryz.prog f (.hs 1 0 0 bs.length::xs) [.vec 1 (bts bs)] (.hs 1 1 0 (bs.length+e.length)) [.gone,.vec 1 (bts (bs++e))]
theorem adN(m:Nat):lI .u64 (m:Int) 127=((m%128:Nat):Int):=by
 unfold lI
 have:(BitVec.ofInt IntKind.u64.bits (m:Int) &&& BitVec.ofInt IntKind.u64.bits 127).toNat=m%128:=by
  rw[alc,akL,show BitVec.ofInt IntKind.u64.bits 127=BitVec.ofNat IntKind.u64.bits (2 ^ 7-1)by decide,akl,akl];rw[show (2 ^ 7-1)%2 ^ IntKind.u64.bits=2 ^ 7-1 by decide,Nat.and_two_pow_sub_one_eq_mod];rw[Nat.mod_mod_of_dvd _ NE]
 rw[this,aN NB NB]
theorem afd(m:Nat):ior .u8 (IntKind.u8.wrap (lI .u64 (m:Int) 127)) 128=((UInt8.ofNat (m%128+128)).toNat:Int):=by
 rw[adN,uhi,Nat.mod_mod]
theorem gL(n:Int)(h0:0<=n)(h1:n<18446744073709551616):App 132 [.int .u64 n] (br n.toNat):=by
 constructor
 ·intro bs hb
  refine dS 5 ?_;refine gon ?_
  refine eZ (fun x:Bool×List UInt8×Nat=>⟨5,[if x.1 then .hs 1 0 0 x.2.1.length else .sl 1 true (bts x.2.1),.int .u64 x.2.2,.dead,.dead,.dead],[]⟩) (fun x=>if x.1 then [.vec 1 (bts x.2.1)]else []) (fun x=>x.2.2)
   (fun x=>x.2.1++br x.2.2=bs++br n.toNat/\x.2.2<18446744073709551616) (false,bs,n.toNat) ⟨rfl,by dsimp only;omega⟩ ?_ ?_
  ·refine GC.mk' [] [] NC rfl NC NC (by simp[iu]) ?_;simp[iP,fz,pw,ren,lR,rn,dh,bH];try omega
  rintro⟨st,acc,m⟩ ⟨h2,h3⟩;dsimp only at h2 h3 ⊢;have hl:acc.length+(br m).length=bs.length+(br n.toNat).length:=by simpa using ajG List.length h2
  cases st
  ·refine gon ?_
   refine aY evd (fun h=>?_) (fun h=>?_)
   ·have hm:128<=m:=by simp at h;omega
    rw[gF hm]at h2 hl;simp only[al8]at hl;refine gon ?_;simp only[Tn,uhi];refine evg ?_
    refine⟨(true,acc++[UInt8.ofNat (m%128+128)],m / 128),⟨by simpa using h2,by dsimp only;omega⟩,by dsimp only;omega,?_⟩;exact ais [] [0]
   ·have hm:m<128:=by simp at h;omega
    rw[eG hm]at h2 hl;simp only[al8,ama,amO]at hl;refine gon ?_;rw[<-h2,<-hl];simp only[ulo hm];refine evg ?_
    exact ahY [] [0]
  ·refine gon ?_
   refine aY evd (fun h=>?_) (fun h=>?_)
   ·have hm:128<=m:=by simp at h;omega
    rw[gF hm]at h2 hl;simp only[al8]at hl;refine gon ?_;simp only[Tn,uhi];refine evg ?_
    refine⟨(true,acc++[UInt8.ofNat (m%128+128)],m / 128),⟨by simpa using h2,by dsimp only;omega⟩,by dsimp only;omega,?_⟩;exact ais [] [1]
   ·have hm:m<128:=by simp at h;omega
    rw[eG hm]at h2 hl;simp only[al8,ama,amO]at hl;refine gon ?_;rw[<-h2,<-hl];simp only[ulo hm];refine evg ?_
    exact ahY [] [1]
 ·intro bs hb
  refine dS 5 ?_;refine gon ?_
  refine eZ (fun x:Bool×List UInt8×Nat=>⟨5,[if x.1 then .hs 1 1 0 x.2.1.length else .hs 1 0 0 x.2.1.length,.int .u64 x.2.2,.dead,.dead,.dead],[]⟩) (fun x=>if x.1 then [.gone,.vec 1 (bts x.2.1)]else [.vec 1 (bts x.2.1)]) (fun x=>x.2.2)
   (fun x=>x.2.1++br x.2.2=bs++br n.toNat/\x.2.2<18446744073709551616) (false,bs,n.toNat) ⟨rfl,by dsimp only;omega⟩ ?_ ?_
  ·refine GC.mk' [] [0] NC rfl NC NC (by simp[iu,iM,lR,rn,fzO,pw]) ?_;simp[iP,fz,pw,ren,lR,rn,dh,bH];try omega
  rintro⟨st,acc,m⟩ ⟨h2,h3⟩;dsimp only at h2 h3 ⊢;have hl:acc.length+(br m).length=bs.length+(br n.toNat).length:=by simpa using ajG List.length h2
  cases st
  ·refine gon ?_
   refine aY evd (fun h=>?_) (fun h=>?_)
   ·have hm:128<=m:=by simp at h;omega
    rw[gF hm]at h2 hl;simp only[al8]at hl;refine gon ?_;simp only[Tn,uhi];refine evg ?_
    refine⟨(true,acc++[UInt8.ofNat (m%128+128)],m / 128),⟨by simpa using h2,by dsimp only;omega⟩,by dsimp only;omega,?_⟩;exact ais [] [0,1]
   ·have hm:m<128:=by simp at h;omega
    rw[eG hm]at h2 hl;simp only[al8,ama,amO]at hl;refine gon ?_;rw[<-h2,<-hl];simp only[ulo hm];refine evg ?_
    exact ahY [] [0,1]
  ·refine gon ?_
   refine aY evd (fun h=>?_) (fun h=>?_)
   ·have hm:128<=m:=by simp at h;omega
    rw[gF hm]at h2 hl;simp only[al8]at hl;refine gon ?_;simp only[Tn,uhi];refine evg ?_
    refine⟨(true,acc++[UInt8.ofNat (m%128+128)],m / 128),⟨by simpa using h2,by dsimp only;omega⟩,by dsimp only;omega,?_⟩;exact ais [] [0,2]
   ·have hm:m<128:=by simp at h;omega
    rw[eG hm]at h2 hl;simp only[al8,ama,amO]at hl;refine gon ?_;rw[<-h2,<-hl];simp only[ulo hm];refine evg ?_
    exact ahY [] [0,2]
theorem dd(n:Int)(h0:0<=n)(h1:n<18446744073709551616):App 78 [.int .u64 n] (br n.toNat):=by
 constructor
 ·intro bs hb
  refine dS 5 ?_;refine gon ?_
  refine eZ (fun x:Bool×List UInt8×Nat=>⟨5,[if x.1 then .hs 1 0 0 x.2.1.length else .sl 1 true (bts x.2.1),.int .u64 x.2.2,.dead,.dead,.sl 0 true []],[]⟩) (fun x=>if x.1 then [.vec 1 (bts x.2.1)]else []) (fun x=>x.2.2)
   (fun x=>x.2.1++br x.2.2=bs++br n.toNat/\x.2.2<18446744073709551616) (false,bs,n.toNat) ⟨rfl,by dsimp only;omega⟩ ?_ ?_
  ·refine GC.mk' [] [] NC rfl NC NC (by simp[iu]) ?_;simp[iP,fz,pw,ren,lR,rn,dh,bH];try omega
  rintro⟨st,acc,m⟩ ⟨h2,h3⟩;dsimp only at h2 h3 ⊢;have hl:acc.length+(br m).length=bs.length+(br n.toNat).length:=by simpa using ajG List.length h2
  cases st
  ·refine gon ?_
   refine aY evd (fun h=>?_) (fun h=>?_)
   ·have hm:128<=m:=by simp at h;omega
    rw[gF hm]at h2 hl;simp only[al8]at hl;refine gon ?_;simp only[Tn,afd];refine evg ?_
    refine⟨(true,acc++[UInt8.ofNat (m%128+128)],m / 128),⟨by simpa using h2,by dsimp only;omega⟩,by dsimp only;omega,?_⟩;exact ais [] [0]
   ·have hm:m<128:=by simp at h;omega
    rw[eG hm]at h2 hl;simp only[al8,ama,amO]at hl;refine gon ?_;rw[<-h2,<-hl];simp only[ulo hm];refine evg ?_
    exact ahY [] [0]
  ·refine gon ?_
   refine aY evd (fun h=>?_) (fun h=>?_)
   ·have hm:128<=m:=by simp at h;omega
    rw[gF hm]at h2 hl;simp only[al8]at hl;refine gon ?_;simp only[Tn,afd];refine evg ?_
    refine⟨(true,acc++[UInt8.ofNat (m%128+128)],m / 128),⟨by simpa using h2,by dsimp only;omega⟩,by dsimp only;omega,?_⟩;exact ais [] [1]
   ·have hm:m<128:=by simp at h;omega
    rw[eG hm]at h2 hl;simp only[al8,ama,amO]at hl;refine gon ?_;rw[<-h2,<-hl];simp only[ulo hm];refine evg ?_
    exact ahY [] [1]
 ·intro bs hb
  refine dS 5 ?_;refine gon ?_
  refine eZ (fun x:Bool×List UInt8×Nat=>⟨5,[if x.1 then .hs 1 1 0 x.2.1.length else .hs 1 0 0 x.2.1.length,.int .u64 x.2.2,.dead,.dead,.sl 0 true []],[]⟩) (fun x=>if x.1 then [.gone,.vec 1 (bts x.2.1)]else [.vec 1 (bts x.2.1)]) (fun x=>x.2.2)
   (fun x=>x.2.1++br x.2.2=bs++br n.toNat/\x.2.2<18446744073709551616) (false,bs,n.toNat) ⟨rfl,by dsimp only;omega⟩ ?_ ?_
  ·refine GC.mk' [] [0] NC rfl NC NC (by simp[iu,iM,lR,rn,fzO,pw]) ?_;simp[iP,fz,pw,ren,lR,rn,dh,bH];try omega
  rintro⟨st,acc,m⟩ ⟨h2,h3⟩;dsimp only at h2 h3 ⊢;have hl:acc.length+(br m).length=bs.length+(br n.toNat).length:=by simpa using ajG List.length h2
  cases st
  ·refine gon ?_
   refine aY evd (fun h=>?_) (fun h=>?_)
   ·have hm:128<=m:=by simp at h;omega
    rw[gF hm]at h2 hl;simp only[al8]at hl;refine gon ?_;simp only[Tn,afd];refine evg ?_
    refine⟨(true,acc++[UInt8.ofNat (m%128+128)],m / 128),⟨by simpa using h2,by dsimp only;omega⟩,by dsimp only;omega,?_⟩;exact ais [] [0,1]
   ·have hm:m<128:=by simp at h;omega
    rw[eG hm]at h2 hl;simp only[al8,ama,amO]at hl;refine gon ?_;rw[<-h2,<-hl];simp only[ulo hm];refine evg ?_
    exact ahY [] [0,1]
  ·refine gon ?_
   refine aY evd (fun h=>?_) (fun h=>?_)
   ·have hm:128<=m:=by simp at h;omega
    rw[gF hm]at h2 hl;simp only[al8]at hl;refine gon ?_;simp only[Tn,afd];refine evg ?_
    refine⟨(true,acc++[UInt8.ofNat (m%128+128)],m / 128),⟨by simpa using h2,by dsimp only;omega⟩,by dsimp only;omega,?_⟩;exact ais [] [0,2]
   ·have hm:m<128:=by simp at h;omega
    rw[eG hm]at h2 hl;simp only[al8,ama,amO]at hl;refine gon ?_;rw[<-h2,<-hl];simp only[ulo hm];refine evg ?_
    exact ahY [] [0,2]
theorem Fl:[[AV.int .u8 0]]=bts [0]:=rfl
theorem Fm:[[AV.int .u8 1]]=bts [1]:=rfl
def fW(x:Bool):List UInt8:=if x then [1]else [0]
theorem Ni(x:Bool):App 195 [.bool x] (fW x):=by
 constructor<;>intro bs hb<;>cases x<;>simp only[fW,ame,amj,amt,al8,ama]at hb ⊢
 ·refine dS 5 ?_;refine gon ?_;refine aY rfl (fun h=>by cases h) (fun h=>?_);refine gon ?_;(try simp only[Fl,Fm,kg])
  exact ahY [] [0]
 ·refine dS 5 ?_;refine gon ?_;refine aY rfl (fun h=>?_) (fun h=>by cases h);refine gon ?_;(try simp only[Fl,Fm,kg])
  exact ahY [] [0]
 ·refine dS 5 ?_;refine gon ?_;refine aY rfl (fun h=>by cases h) (fun h=>?_);refine gon ?_;(try simp only[Fl,Fm,kg])
  exact ahY [] [0,1]
 ·refine dS 5 ?_;refine gon ?_;refine aY rfl (fun h=>?_) (fun h=>by cases h);refine gon ?_;(try simp only[Fl,Fm,kg])
  exact ahY [] [0,1]
theorem jT(x:Bool):App 81 [.bool x] (fW x):=by
 constructor<;>intro bs hb<;>cases x<;>simp only[fW,ame,amj,amt,al8,ama]at hb ⊢
 ·refine dS 5 ?_;refine gon ?_;refine aY rfl (fun h=>by cases h) (fun h=>?_);refine gon ?_;(try simp only[Fl,Fm,kg])
  exact ahY [] [0]
 ·refine dS 5 ?_;refine gon ?_;refine aY rfl (fun h=>?_) (fun h=>by cases h);refine gon ?_;(try simp only[Fl,Fm,kg])
  exact ahY [] [0]
 ·refine dS 5 ?_;refine gon ?_;refine aY rfl (fun h=>by cases h) (fun h=>?_);refine gon ?_;(try simp only[Fl,Fm,kg])
  exact ahY [] [0,1]
 ·refine dS 5 ?_;refine gon ?_;refine aY rfl (fun h=>?_) (fun h=>by cases h);refine gon ?_;(try simp only[Fl,Fm,kg])
  exact ahY [] [0,1]
theorem lS(r:Rt):App 196 [.agg (rtc r)] r.1:=by
 have hr:=r.2;constructor<;>intro bs hb
 ·refine dS 5 ?_;repeat(first|refine bY ?_|simp only[go_sem,jH r,hr])
  exact ahY [] [1]
 ·refine dS 5 ?_;repeat(first|refine bY ?_|simp only[go_sem,jH r,hr])
  exact ahY [] [0,2]
theorem dx(r:Rt):App 79 [.agg (rtc r)] r.1:=by
 have hr:=r.2;constructor<;>intro bs hb
 ·refine dS 5 ?_;repeat(first|refine bY ?_|simp only[go_sem,jH r,hr])
  exact ahY [] [1]
 ·refine dS 5 ?_;repeat(first|refine bY ?_|simp only[go_sem,jH r,hr])
  exact ahY [] [0,2]
def Ty(a:Wd)(i:Nat):UInt8:=byt (fJ .u64 (a.1.getD (i / 8) 0) (8*(i%8)))
def jD(a:Wd)(k:Nat):Rt:=if h:k=0 then rt0 else (jD a (k-1)).set (31-(k-1)) (Ty a (k-1))
termination_by k
decreasing_by omega
theorem RX(a:Wd):jD a 0=rt0:=by rw[jD,am5 rfl]
theorem Ix(a:Wd)(i:Nat):jD a (i+1)=(jD a i).set (31-i) (Ty a i):=by rw[jD,dif_neg NB];rfl
theorem TE{cs:List AV}(h:PuL cs):Pu (.agg cs):=h
def cK(a:Wd):Rt:=jD a 32
def TD(b:Rt)(w:Wd)(i:Nat):Wd:=w.set (i / 8) (ior .u64 (w.1.getD (i / 8) 0) (OY .u64 ((b.1.getD (31-i) 0).toNat:Int) (8*(i%8))))
def pV(b:Rt)(k:Nat):Wd:=if h:k=0 then wd0 else TD b (pV b (k-1)) (k-1)
termination_by k
decreasing_by omega
theorem GJ(b:Rt):pV b 0=wd0:=by rw[pV,am5 rfl]
theorem GK(b:Rt)(i:Nat):pV b (i+1)=TD b (pV b i) i:=by rw[pV,dif_neg NB];rfl
def wof(b:Rt):Wd:=pV b 32
theorem ix1{i:Nat}(h:i<32):IntKind.i64.wrap (31-(i:Int))=((31-i:Nat):Int):=by rw[aL NB NB];omega
theorem ix2{i:Nat}(h:i<32):IntKind.i64.wrap ((i:Int).tdiv 8)=((i / 8:Nat):Int):=by
 rw[ajC NB,aL NB NB];rfl
theorem ix3(i:Nat):(i:Int).tmod 8=((i%8:Nat):Int):=by rw[aly NB];rfl
theorem ix4(i:Nat):IntKind.i64.wrap (8*((i%8:Nat):Int))=((8*(i%8):Nat):Int):=by rw[aL NB NB];omega
theorem ix5{i:Nat}(h:i<32):IntKind.i64.wrap ((i:Int)+1)=((i+1:Nat):Int):=by rw[aL NB NB];omega
theorem ix6(i:Nat):IntKind.u64.wrap ((8*(i%8):Nat):Int)=((8*(i%8):Nat):Int):=aN NB NB
theorem ix7(b:UInt8):IntKind.u64.wrap (b.toNat:Int)=(b.toNat:Int):=aN NB (by have:=b.toNat_lt;omega)
theorem Fz(n:Int):IntKind.u8.wrap n=((byt n).toNat:Int):=(TC n).symm
theorem C3(a:Wd):PC Tryz.prog 302 [.agg (wdc a)] (.agg (rtc (cK a))):=by
 refine PC.fact 6 HL NC ⟨ju a,trivial⟩ (TE (dI _)) ?_;unfold vn;refine bd ?_;refine gon ?_
 refine gM (fun i:Nat=>⟨6,[.agg (wdc a),.ptr 0 0,.ptr 1 0,.ptr 2 0,.dead,.int .i64 i],[]⟩) (fun i=>[.var (wdc a),.var (rtc rt0),.var (rtc (jD a i))]) (fun i=>32-i) (fun i=>i<=32) [4] 0 NB (by first|((try simp only[go_sem,Nat.reduceAdd,Nat.reduceSub,Nat.reduceMul,Nat.reduceLT,Nat.reduceLeDiff,Nat.reduceEqDiff,reduceIte,Int.reduceToNat,Int.reduceLT,Int.reduceLE,Int.reduceEq,Int.reduceNeg,reduceCtorEq,Int.reduceBEq,Int.reduceBNe]);done)|((try simp only[go_sem,Nat.reduceAdd,Nat.reduceSub,Nat.reduceMul,Nat.reduceLT,Nat.reduceLeDiff,Nat.reduceEqDiff,reduceIte,Int.reduceToNat,Int.reduceLT,Int.reduceLE,Int.reduceEq,Int.reduceNeg,reduceCtorEq,Int.reduceBEq,Int.reduceBNe]);rfl)) (by rw[RX]) ?_;intro i hi;try dsimp only
 refine gon ?_;refine aY evd (fun h=>?_) (fun h=>?_)
 ·have h1:i<32:=by simp at h;omega
  have s1:∀b:UInt8,spl (rtc (jD a i)) (31-i) [.int .u8 b.toNat]=rtc ((jD a i).set (31-i) b):=fun b=>CU _ NB b
  repeat(first|refine bY ?_|simp only[go_sem,amv,ix1 h1,ix2 h1,ix3 i,ix4 i,ix5 h1,ix6 i,Hj a (show i / 8<4 by omega),Fz,s1])
  exact⟨i+1,h1,NB,rfl,by rw[Ix];rfl⟩
 ·have h1:i=32:=by simp at h;omega
  subst h1;refine gon ?_;exact ai
theorem qB(a:Wd):PC Tryz.prog 181 [.agg (wdc a)] (.agg (rtc (cK a))):=by
 refine PC.fact 5 HH NC ⟨ju a,trivial⟩ (TE (dI _)) ?_;unfold vd;refine bd ?_;refine gon ?_
 refine gM (fun i:Nat=>⟨5,[.agg (wdc a),.ptr 0 0,.ptr 1 0,.ptr 2 0,.int .i64 i],[]⟩) (fun i=>[.var (wdc a),.var (rtc rt0),.var (rtc (jD a i))]) (fun i=>32-i) (fun i=>i<=32) [] 0 NB (by first|((try simp only[go_sem,Nat.reduceAdd,Nat.reduceSub,Nat.reduceMul,Nat.reduceLT,Nat.reduceLeDiff,Nat.reduceEqDiff,reduceIte,Int.reduceToNat,Int.reduceLT,Int.reduceLE,Int.reduceEq,Int.reduceNeg,reduceCtorEq,Int.reduceBEq,Int.reduceBNe]);done)|((try simp only[go_sem,Nat.reduceAdd,Nat.reduceSub,Nat.reduceMul,Nat.reduceLT,Nat.reduceLeDiff,Nat.reduceEqDiff,reduceIte,Int.reduceToNat,Int.reduceLT,Int.reduceLE,Int.reduceEq,Int.reduceNeg,reduceCtorEq,Int.reduceBEq,Int.reduceBNe]);rfl)) (by rw[RX]) ?_;intro i hi;try dsimp only
 refine gon ?_;refine aY evd (fun h=>?_) (fun h=>?_)
 ·have h1:i<32:=by simp at h;omega
  have s1:∀b:UInt8,spl (rtc (jD a i)) (31-i) [.int .u8 b.toNat]=rtc ((jD a i).set (31-i) b):=fun b=>CU _ NB b
  repeat(first|refine bY ?_|simp only[go_sem,amv,ix1 h1,ix2 h1,ix3 i,ix4 i,ix5 h1,ix6 i,Hj a (show i / 8<4 by omega),Fz,s1])
  exact⟨i+1,h1,NB,rfl,by rw[Ix];rfl⟩
 ·have h1:i=32:=by simp at h;omega
  subst h1;refine gon ?_;exact ai
theorem HR(b:Rt):PC Tryz.prog 305 [.agg (rtc b)] (.agg (wdc (wof b))):=by
 refine PC.fact 6 DQ NC ⟨dI b,trivial⟩ (TE (ju _)) ?_;unfold rJ;refine bd ?_;refine gon ?_
 refine gM (fun i:Nat=>⟨6,[.agg (rtc b),.ptr 0 0,.ptr 1 0,.ptr 2 0,.dead,.int .i64 i],[]⟩) (fun i=>[.var (rtc b),.var (wdc wd0),.var (wdc (pV b i))]) (fun i=>32-i) (fun i=>i<=32) [4] 0 NB (by first|((try simp only[go_sem,Nat.reduceAdd,Nat.reduceSub,Nat.reduceMul,Nat.reduceLT,Nat.reduceLeDiff,Nat.reduceEqDiff,reduceIte,Int.reduceToNat,Int.reduceLT,Int.reduceLE,Int.reduceEq,Int.reduceNeg,reduceCtorEq,Int.reduceBEq,Int.reduceBNe]);done)|((try simp only[go_sem,Nat.reduceAdd,Nat.reduceSub,Nat.reduceMul,Nat.reduceLT,Nat.reduceLeDiff,Nat.reduceEqDiff,reduceIte,Int.reduceToNat,Int.reduceLT,Int.reduceLE,Int.reduceEq,Int.reduceNeg,reduceCtorEq,Int.reduceBEq,Int.reduceBNe]);rfl)) (by rw[GJ]) ?_;intro i hi;try dsimp only
 refine gon ?_;refine aY evd (fun h=>?_) (fun h=>?_)
 ·have h1:i<32:=by simp at h;omega
  have s1:∀x:Int,spl (wdc (pV b i)) (i / 8) [.int .u64 x]=wdc ((pV b i).set (i / 8) x):=fun x=>oI _ NB x
  repeat(first|refine bY ?_|simp only[go_sem,amv,ix1 h1,ix2 h1,ix3 i,ix4 i,ix5 h1,ix6 i,ix7,Hj (pV b i) (show i / 8<4 by omega),aaR b (show 31-i<32 by omega),s1])
  exact⟨i+1,h1,NB,rfl,by rw[GK];rfl⟩
 ·have h1:i=32:=by simp at h;omega
  subst h1;refine gon ?_;exact ai
theorem ED(a:Wd):App 188 [.agg (wdc a)] (cK a).1:=by
 have hr:=(cK a).2;constructor<;>intro bs hb
 ·refine dS 6 ?_;refine gon ?_;refine am (C3 a) ?_;repeat(first|refine bY ?_|simp only[go_sem,jH (cK a),hr])
  exact ahY [] [2]
 ·refine dS 6 ?_;refine gon ?_;refine am (C3 a) ?_;repeat(first|refine bY ?_|simp only[go_sem,jH (cK a),hr])
  exact ahY [] [0,3]
theorem sj(a:Wd):App 80 [.agg (wdc a)] (cK a).1:=by
 have hr:=(cK a).2;constructor<;>intro bs hb
 ·refine dS 6 ?_;refine gon ?_;refine am (qB a) ?_;repeat(first|refine bY ?_|simp only[go_sem,jH (cK a),hr])
  exact ahY [] [2]
 ·refine dS 6 ?_;refine gon ?_;refine am (qB a) ?_;repeat(first|refine bY ?_|simp only[go_sem,jH (cK a),hr])
  exact ahY [] [0,3]
def dt(c:Cp):List UInt8:=br c.ep.toNat++c.rt.1
def uD(x:List UInt8):List UInt8:=br x.length++x
theorem qI(c:Cp)(h0:0<=c.ep)(h1:c.ep<18446744073709551616):App 189 [.agg (cpC c)] (dt c):=by
 have hr:=c.rt.2;constructor<;>intro bs hb<;>(simp only[dt,akC,hr]at hb)<;>(simp only[dt,akC,<-amd,<-am1])
 ·refine dS 5 ?_;refine gon ?_;refine dsg [] ((gL c.ep h0 h1).clip bs NB) ?_;refine dsg [1] ((lS c.rt).own (bs++br c.ep.toNat) (by rw[akC,hr];omega)) ?_;exact ahY [] [2]
 ·refine dS 5 ?_;refine gon ?_;refine dsg [0] ((gL c.ep h0 h1).own bs NB) ?_;refine dsg [2] ((lS c.rt).own (bs++br c.ep.toNat) (by rw[akC,hr];omega)) ?_;exact ahY [] [0,3]
theorem kS(c:Cp)(h0:0<=c.ep)(h1:c.ep<18446744073709551616):App 82 [.agg (cpC c)] (dt c):=by
 have hr:=c.rt.2;constructor<;>intro bs hb<;>(simp only[dt,akC,hr]at hb)<;>(simp only[dt,akC,<-amd,<-am1])
 ·refine dS 5 ?_;refine gon ?_;refine dsg [] ((dd c.ep h0 h1).clip bs NB) ?_;refine dsg [1] ((dx c.rt).own (bs++br c.ep.toNat) (by rw[akC,hr];omega)) ?_;exact ahY [] [2]
 ·refine dS 5 ?_;refine gon ?_;refine dsg [0] ((dd c.ep h0 h1).own bs NB) ?_;refine dsg [2] ((dx c.rt).own (bs++br c.ep.toNat) (by rw[akC,hr];omega)) ?_;exact ahY [] [0,3]
theorem U4(x:List UInt8)(cl:Bool)(hx:x.length<=140737488355328):App 191 [.sl 1 cl (bts x)] (uD x):=by
 have hu:=gL (x.length:Int) NB NB;simp only[amw]at hu;have e1:IntKind.u64.wrap (x.length:Int)=(x.length:Int):=aN NB NB;constructor<;>intro bs hb<;>(simp only[uD,akC]at hb)<;>(simp only[uD,akC,<-amd,<-am1])
 ·refine dS 5 ?_;refine ah e1 ?_;refine ocg [] (hu.clip bs NB) ?_;exact ahY [] [1]
 ·refine dS 5 ?_;refine ah e1 ?_;refine ocg [0] (hu.own bs NB) ?_;exact ahY [] [0,2]
theorem Vi(x:List UInt8)(cl:Bool)(hx:x.length<=140737488355328):App 84 [.sl 1 cl (bts x)] (uD x):=by
 have hu:=dd (x.length:Int) NB NB;simp only[amw]at hu;have e1:IntKind.u64.wrap (x.length:Int)=(x.length:Int):=aN NB NB;constructor<;>intro bs hb<;>(simp only[uD,akC]at hb)<;>(simp only[uD,akC,<-amd,<-am1])
 ·refine dS 5 ?_;refine ah e1 ?_;refine ocg [] (hu.clip bs NB) ?_;exact ahY [] [1]
 ·refine dS 5 ?_;refine ah e1 ?_;refine ocg [0] (hu.own bs NB) ?_;exact ahY [] [0,2]
theorem po(bs:List UInt8)(cl:Bool)(e:Int):ay Tryz.prog 108 [.ptr 0 0] [rdr cl bs e] (.int .i64 e) [rdr cl bs e]:=by
 refine dS 3 ?_;unfold rdr;refine gon ?_;exact ahY [] [0]
theorem Zt(bs:List UInt8)(cl:Bool)(e:Int):ay Tryz.prog 394 [.ptr 0 0] [rdr cl bs e] (.int .i64 bs.length) [rdr cl bs e]:=by
 refine dS 3 ?_;unfold rdr;refine gon ?_;exact ahY [] [0]
def fE(bs:List UInt8)(e:Int):Bool×List UInt8×Int:=
 if e≠0 then (false,bs,e)else match bs with
  | []=>(false,[],5)
  |b::r=>if 1<b.toNat then (false,b::r,2)else ((b.toNat:Int)==1,r,0)
theorem Mi(bs:List UInt8)(cl:Bool)(e:Int)(hb:bs.length<=140737488355328):
 ay Tryz.prog 41 [.ptr 0 0] [rdr cl bs e] (.bool (fE bs e).1) [rdr cl (fE bs e).2.1 (fE bs e).2.2]:=by
 refine dS 4 ?_;unfold rdr fE;by_cases he:e=0
 ·subst he
  simp only[ajT,amp,amj];refine gon ?_;refine aY rfl (fun h=>by cases h) (fun h=>?_);cases bs with
  | nil =>
    refine aX ?_;refine ocg [0] (iJ [] cl 0 5) ?_;exact ahY [] [0]
  | cons b r =>
    have hl0:(((r.length+1:Nat):Int)==0)=false:=by simp;omega
    simp only[al8]at hb;refine ah hl0 ?_;refine aY rfl (fun h=>by cases h) (fun h=>?_);have h0:0<(b::r).length:=NC
    repeat(first|refine bY ?_|simp only[go_sem,HT h0,alP])
    refine aY evd (fun h=>?_) (fun h=>?_)
    ·have h1:1<b.toNat:=by simp at h;omega
     rw[al7 h1];refine gon ?_;refine ocg [0] (iJ (b::r) cl 0 2) ?_;exact ahY [] [0]
    ·have h1:¬1<b.toNat:=by simp at h;omega
     rw[al5 h1];repeat(first|refine bY ?_|simp only[go_sem,HT h0,alP,alz])
     exact ahY [] [0]
 ·have he':(e != 0)=true:=by simpa using he
  simp only[ajT,he,amu,amt];refine ah he' ?_;refine aY rfl (fun h=>?_) (fun h=>by cases h);refine gon ?_;exact ahY [] [0]
def adZ(l:List UInt8):Rt:=if h:l.length=32 then ⟨l,h⟩else rt0
theorem RK{l:List UInt8}(h:l.length=32):(adZ l).1=l:=by rw[adZ,am5 h]
def pp(bs:List UInt8)(e:Int):Rt×List UInt8×Int:=
 if e≠0 then (rt0,bs,e)else if bs.length<32 then (rt0,bs,5)else (adZ (bs.take 32),bs.drop 32,0)
theorem jS(bs:List UInt8)(cl:Bool)(e:Int)(hb:bs.length<=140737488355328):
 ay Tryz.prog 42 [.ptr 0 0] [rdr cl bs e] (.agg (rtc (pp bs e).1)) [rdr cl (pp bs e).2.1 (pp bs e).2.2]:=by
 refine dS 4 ?_;unfold rdr pp;by_cases he:e=0
 ·subst he
  simp only[ajT,amp,amj];refine gon ?_;refine aY rfl (fun h=>by cases h) (fun h=>?_);refine gon ?_;refine aY evd (fun h=>?_) (fun h=>?_)
  ·have h1:bs.length<32:=by simp at h;omega
   simp only[al7 h1];refine gon ?_;refine ocg [0] (iJ bs cl 0 5) ?_;exact ahY [] [0]
  ·have h1:¬bs.length<32:=by simp at h;omega
   simp only[al5 h1];have hmin:min bs.length 32=32:=NB
   have hrt:byc (List.take 32 bs)=rtc (adZ (List.take 32 bs)):=by rw[rtc,RK (by rw[amA];omega)]
   have hd:List.take (bs.length-32) (List.drop 32 bs)=List.drop 32 bs:=amf NC;refine dC hmin hrt hd ?_;exact ahY [] [0]
 ·have he':(e != 0)=true:=by simpa using he
  simp only[ajT,he,amu,amt];refine ah he' ?_;refine aY rfl (fun h=>?_) (fun h=>by cases h);refine gon ?_;exact ahY [] [0]
def gE(bs:List UInt8)(e:Int):Wd×List UInt8×Int:=(wof (pp bs e).1,(pp bs e).2)
theorem EM(bs:List UInt8)(cl:Bool)(e:Int)(hb:bs.length<=140737488355328):
 ay Tryz.prog 197 [.ptr 0 0] [rdr cl bs e] (.agg (wdc (gE bs e).1)) [rdr cl (gE bs e).2.1 (gE bs e).2.2]:=by
 refine dS 4 ?_;unfold gE;refine gon ?_;refine ocg [0] (jS bs cl e hb) ?_;refine ahG (HR _) ?_;exact ahY [] [0]
abbrev bU:Int:=18446744073709551615
def rCp(bs:List UInt8)(e:Int):Cp×List UInt8×Int:=
 if (pp (aR bs e bU).2.1 (aR bs e bU).2.2).2.2≠0 then (cp0,bs,(pp (aR bs e bU).2.1 (aR bs e bU).2.2).2.2)
 else (⟨(aR bs e bU).1,(pp (aR bs e bU).2.1 (aR bs e bU).2.2).1⟩,(pp (aR bs e bU).2.1 (aR bs e bU).2.2).2)
theorem cV(bs:List UInt8)(e m:Int):(aR bs e m).2.1.length<=bs.length:=by
 unfold aR;(repeat' split)<;>simp
theorem lP(bs:List UInt8)(e:Int):(pp bs e).2.1.length<=bs.length:=by
 unfold pp;(repeat' split)<;>simp
theorem xB(bs:List UInt8)(cl:Bool)(e:Int)(hb:bs.length<=140737488355328):
 ay Tryz.prog 99 [.ptr 0 0] [rdr cl bs e] (.agg (cpC (rCp bs e).1)) [rdr cl (rCp bs e).2.1 (rCp bs e).2.2]:=by
 refine afn 12 rQ ?_;have hl:=cV bs e bU;have hu:=lX bs cl e bU hb;unfold jK rCp;refine bd ?_;generalize aR bs e bU=U at *;obtain⟨u,b1,e1⟩:=U;dsimp only at hl hu ⊢;have hr:=jS b1 cl e1 NB;generalize pp b1 e1=R at *;obtain⟨r,b2,e2⟩:=R;dsimp only at hr ⊢;refine gon ?_;refine ocg [0] hu ?_;refine ocg [0] hr ?_;by_cases he:e2=0
 ·subst he;simp only[ajT,amp,amj];refine agE ?_;exact ahY [] [0]
 ·have he':(e2 != 0)=true:=by simpa using he
  simp only[ajT,he,amu,amt];refine ax ?_ (by(try simp only[go_sem,he']);try exact evd);refine gon ?_;exact ahY [] [0]
theorem Pk(v:Int)(b:UInt8)(i:Nat):0<=xi v b i:=by unfold xi ior;rw[Dg];omega
theorem CO:∀ (l:List UInt8) (i:Nat) (v:Int),0<=(fO l i v).1
 | [],i,v=>by simp[fO]
 | b :: l, i, v => by
   rw[fO];have:=CO l (i+1) (xi v b i);have:=Pk v b i;(repeat' split)<;>first|omega|(simp only;omega)
theorem gw(bs:List UInt8)(e m:Int):0<=(aR bs e m).1:=by
 have:=CO (bs.take 10) 0 0;unfold aR iN;(repeat' split)<;>first|omega|(simp only;omega)|(simp only;exact this)
def gv(bs:List UInt8)(e m:Int):List UInt8×List UInt8×Int:=
 if (aR bs e bU).2.2≠0 then ([],bs,(aR bs e bU).2.2)
 else if m<0\/IntKind.u64.wrap m<(aR bs e bU).1 then ([],bs,3)
 else if ((aR bs e bU).2.1.length:Int)<(aR bs e bU).1 then ([],bs,5)
 else ((aR bs e bU).2.1.take (aR bs e bU).1.toNat,(aR bs e bU).2.1.drop (aR bs e bU).1.toNat,0)
theorem TP(bs:List UInt8)(cl:Bool)(e m:Int)(hb:bs.length<=140737488355328):
 ay Tryz.prog 201 [.ptr 0 0,.int .i64 m] [rdr cl bs e] (.sl 1 false (bts (gv bs e m).1)) [rdr cl (gv bs e m).2.1 (gv bs e m).2.2]:=by
 refine afn 12 zH ?_;have hl:=cV bs e bU;have hu:=lX bs cl e bU hb;have hu0:=gw bs e bU;unfold o4 gv;refine bd ?_;generalize aR bs e bU=U at *;obtain⟨u,b1,e1⟩:=U;dsimp only at hl hu hu0 ⊢;refine gon ?_;refine ocg [0] hu ?_;by_cases he:e1=0
 ·subst he
  simp only[ajT,amp,amj];refine aB ?_;by_cases hm:m<0\/IntKind.u64.wrap m<u
  ·simp only[al7 hm]
   by_cases hm0:m<0
   ·have hm':decide (m<0)=true:=by simpa using hm0
    refine aM hm' ?_;refine ocg [0] (iJ b1 cl 0 3) ?_;refine HM [] [0] _ NC (by first|rfl|exact evd) NC rfl NC NC evd evd (Wk.empty 0 1 _)
   ·have hm':decide (m<0)=false:=by simpa using hm0
    have hu':decide (IntKind.u64.wrap m<u)=true:=by rw[amg];omega
    refine cH hm' hu' ?_;refine ocg [0] (iJ b1 cl 0 3) ?_;refine HM [] [0] _ NC (by first|rfl|exact evd) NC rfl NC NC evd evd (Wk.empty 0 1 _)
  ·simp only[al5 hm]
   have hm':decide (m<0)=false:=by rw[ami];omega
   have hu':decide (IntKind.u64.wrap m<u)=false:=by rw[ami];omega
   have hw:IntKind.u64.wrap (b1.length:Int)=b1.length:=aN NB NB;refine fp hm' hu' ?_;refine ah hw ?_;refine aY evd (fun h=>?_) (fun h=>?_)
   ·have h1:(b1.length:Int)<u:=by simpa using h
    simp only[al7 h1];refine gon ?_;refine ocg [0] (iJ b1 cl 0 5) ?_;refine HM [] [0] _ NC (by first|rfl|exact evd) NC rfl NC NC evd evd (Wk.empty 0 1 _)
   ·have h1:¬ (b1.length:Int)<u:=by simpa using h
    simp only[al5 h1];have e3:List.take (b1.length-u.toNat) (List.drop u.toNat b1)=List.drop u.toNat b1:=amf NC;refine ah e3 ?_;exact ahY [1] [0]
 ·have he':(e1 != 0)=true:=by simpa using he
  simp only[ajT,he,amu,amt];refine ax ?_ (by(try simp only[go_sem,he']);try exact evd);refine gon ?_;refine HM [] [0] _ NC (by first|rfl|exact evd) NC rfl NC NC evd evd (Wk.empty 0 1 _)
abbrev RR(α:Type):=List UInt8->Int->α×List UInt8×Int
structure Xo{α:Type}(z v:α)(enc:List UInt8)(r:RR α):Prop where
 full:∀t,r (enc++t) 0=(v,t,0)
 cut:∀k,k<enc.length->r (enc.take k) 0=(z,enc.take k,5)
 sticky:∀bs e,e≠0->r bs e=(z,bs,e)
theorem th{n:Nat}{m:Int}(h:n<18446744073709551616)(d:(n:Int)<=m):Xo 0 (n:Int) (br n) (fun bs e=>aR bs e m):=by
 refine⟨fun t=>?_,fun k c=>?_,fun bs e b=>?_⟩
 ·simp only[aR,Zx h];grind
 ·simp only[aR,acq h c];simp
 ·simp only[aR,ajT,b,amu,amt]
theorem IE(x:Bool):Xo false x (fW x) fE:=by
 refine⟨fun t=>?_,fun k c=>?_,fun bs e d=>?_⟩
 ·cases x<;>simp[fE,fW]
 ·have b:k=0:=by cases x<;>simp[fW]at c<;>omega
  subst b;simp[fE]
 ·simp only[fE,ajT,d,amu,amt]
theorem zZ(r:Rt):Xo rt0 r r.1 pp:=by
 have b:=r.2;refine⟨fun t=>?_,fun k i=>?_,fun bs e f=>?_⟩
 ·simp only[pp,ajT,amp,amj];rw[al5 NF];have g:(r.1++t).take 32=r.1:=List.take_left' b;have h:(r.1++t).drop 32=t:=List.drop_left' b;rw[g,h];congr 1;exact am4 (RK b)
 ·simp only[pp];grind
 ·simp only[pp,ajT,f,amu,amt]
theorem abu(m s:Nat)(c:s<64):fJ .u64 (m:Int) s=((m / 2 ^ s:Nat):Int):=by
 unfold fJ;rw[show min s IntKind.u64.bits=s by simp only[IntKind.bits];omega,show ((2:Int) ^ s)=((2 ^ s:Nat):Int)by simp];grind
theorem abt{c s:Nat}(d:s<64)(h:c*2 ^ s<18446744073709551616):OY .u64 (c:Int) s=((c*2 ^ s:Nat):Int):=by
 unfold OY;rw[show min s IntKind.u64.bits=s by simp only[IntKind.bits];omega,show ((c:Int)*2 ^ s)=((c*2 ^ s:Nat):Int)by simp];exact aN NB NB
theorem ady(m:Nat):(byt (m:Int)).toNat=m%256:=by
 have:=TC (m:Int);rw[IntKind.wrap_u8]at this;omega
theorem Iw(a:Wd):∀ (k i:Nat),k<=32->i<k->(jD a k).1.getD (31-i) 0=Ty a i
 |0,i,_,h=>by omega
 | k + 1, i, e, h => by
   simp only[Ix,Rt.set];by_cases d:i=k
   ·grind
   ·have:=Iw a k i NB NB;grind
theorem NO(a:Wd)(ha:∀n∈a.1,0<=n/\n<18446744073709551616):∀ (k j:Nat),k<=32->j<4->(pV (cK a) k).1.getD j 0=(((a.1.getD j 0).toNat%2 ^ (8*(min (k-8*j) 8)):Nat):Int)
 | 0, j, _, hj => by
   have:(8*min (0-8*j) 8)=0:=NB
   rw[this,Nat.pow_zero,Nat.mod_one];have hj':j=0\/j=1\/j=2\/j=3:=NB
   rw[GJ];rcases hj' with rfl|rfl|rfl|rfl<;>rfl
 | k + 1, j, hk, hj => by
   have ih:=NO a ha k;have hl:=(pV (cK a) k).2;have hal:=a.2;simp only[GK,TD,Wd.set,alt,List.getElem?_set];by_cases hjk:j=k / 8
   ·subst hjk
    rw[al7 rfl,al7 NB];have e1:=ih (k / 8) NB NB;rw[alt]at e1
    have e2:(cK a).1[31-k]?.getD 0=Ty a k:=by
     have:=Iw a 32 k NB NB;rwa [alt]at this
    rw[e1,e2];have hmem:a.1.getD (k / 8) 0∈a.1:=by rw[alt,al6 NB];exact amS _
    have hb:=ha _ hmem;obtain⟨x,hx⟩:∃x:Nat,a.1.getD (k / 8) 0=(x:Int):=⟨(a.1.getD (k / 8) 0).toNat,NB⟩
    simp only[Ty,hx,amw];rw[hx]at hb;have hs:8*(k%8)<64:=NB
    rw[abu _ _ hs,ady];simp only[amT];have m1:min (k-8*(k / 8)) 8=k%8:=NB
    have m2:min (k+1-8*(k / 8)) 8=k%8+1:=NB
    rw[m1,m2]
    have e3:x%2 ^ (8*(k%8+1))=x%2 ^ (8*(k%8))+x / 2 ^ (8*(k%8))%256*2 ^ (8*(k%8)):=by
     rw[Nat.mul_add,amv,Nat.pow_add,Nat.mod_mul,al2 (2 ^ (8*(k%8)))]
    have hlt:x%2 ^ (8*(k%8))+x / 2 ^ (8*(k%8))%256*2 ^ (8*(k%8))<18446744073709551616:=by
     rw[<-e3];exact alx (Nat.mod_le _ _) NB
    have hx2:a.1[k / 8]?.getD 0=(x:Int):=by rw[<-alt];exact hx
    rw[abt hs NB,abY (alZ _ (Nat.two_pow_pos _)) hlt,hx2,amw,e3]
   grind
theorem VD(a:Wd)(f:∀n∈a.1,0<=n/\n<18446744073709551616):wof (cK a)=a:=by
 apply am4
 have i:=(wof (cK a)).2;apply alJ NB
 intro j g d;have:=NO a f 32 j NB NB;have e:(wof (cK a)).1.getD j 0=(wof (cK a)).1[j]:=NF
 have h:a.1.getD j 0=a.1[j]:=NF
 rw[<-e];refine this.trans ?_;rw[h,show min (32-8*j) 8=8 by omega];have k:=f _ (amS d);omega
theorem aaj:∀k:Fin 32,TD rt0 wd0 k.val=wd0:=by decide +kernel
theorem NP:∀k,k<=32->pV rt0 k=wd0
 |0,_=>GJ _
 |k+1,h=>by rw[GK,NP k NB];exact aaj ⟨k,NB⟩
theorem Xm:wof rt0=wd0:=NP 32 (amb _)
theorem Aa(a:Wd)(d:∀n∈a.1,0<=n/\n<18446744073709551616):Xo wd0 a (cK a).1 gE:=by
 have h:=zZ (cK a);refine⟨fun t=>?_,fun k f=>?_,fun bs e c=>?_⟩
 ·simp only[gE,h.full,VD a d]
 ·simp only[gE,h.cut k f,Xm]
 ·simp only[gE,h.sticky bs e c,Xm]
theorem ab9(c:Cp)(h0:0<=c.ep)(h1:c.ep<18446744073709551616):Xo cp0 c (dt c) rCp:=by
 have hu:=th (n:=c.ep.toNat) (m:=bU) NB NF;have hr:=zZ c.rt;refine⟨fun t=>?_,fun k hk=>?_,fun bs e he=>?_⟩
 ·have e1:=hu.full (c.rt.1++t);simp only[rCp,dt,amd,e1,hr.full,ajT,amp,amj];rw[show ((c.ep.toNat:Nat):Int)=c.ep by omega]
 ·by_cases hk1:k<(br c.ep.toNat).length
  ·have e1:=hu.cut k hk1;have e2:(dt c).take k=(br c.ep.toNat).take k:=by rw[dt,ajs NB]
   simp only[rCp,e2,e1];rw[hr.sticky _ 5 NC];simp
  ·have e1:=hu.full (c.rt.1.take (k-(br c.ep.toNat).length));(simp_all)
   have e2:(dt c).take k=br c.ep.toNat++c.rt.1.take (k-(br c.ep.toNat).length):=by rw[dt,ajU,amf NB]
   have e3:=hr.cut (k-(br c.ep.toNat).length) (by rw[dt,akC]at hk;omega);simp only[rCp,e2,e1,e3];simp
 ·have e1:=hu.sticky bs e he;(simp_all)
  simp only[rCp,e1,hr.sticky bs e he,ajT,he,amu,amt]
theorem Se(x:List UInt8)(m:Int)(h0:(x.length:Int)<=m)(h1:x.length<=140737488355328)(h2:m<9223372036854775808):Xo [] x (uD x) (fun bs e=>gv bs e m):=by
 have hu:=th (n:=x.length) (m:=bU) NB NF;have hm:¬m<0:=NB
 have hw:IntKind.u64.wrap m=m:=aN NB NB;refine⟨fun t=>?_,fun k hk=>?_,fun bs e he=>?_⟩
 ·have e1:=hu.full (x++t);(simp_all)
  simp only[gv,uD,amd,e1,ajT,amp,amj,hw];rw[al5 NB,al5 NF];simp
 ·by_cases hk1:k<(br x.length).length
  ·have e1:=hu.cut k hk1;(simp_all)
   have e2:(uD x).take k=(br x.length).take k:=by rw[uD,ajs NB]
   simp only[gv,e2,e1];simp
  ·have e1:=hu.full (x.take (k-(br x.length).length));(simp_all)
   have e2:(uD x).take k=br x.length++x.take (k-(br x.length).length):=by rw[uD,ajU,amf NB]
   have hk2:k-(br x.length).length<x.length:=by rw[uD,akC]at hk;omega
   simp only[gv,e2,e1,ajT,amp,amj,hw];grind
 ·have e1:=hu.sticky bs e he;(try simp only at e1)
  simp only[gv,e1,ajT,he,amu,amt]
end Go.Proofs.YtblipkgpoaonaaaGreat
namespace Go.Proofs.YtblipkgpoaonaaaGreat
open Go Go.FH Go.RowKit
theorem App.nil{f:FuncId}{xs:List AV}{e:List UInt8}(h:App f xs e)(he:e.length<=140737488355328):ay Tryz.prog f (.sl 0 true []::xs) [] (.hs 1 0 0 e.length) [.vec 1 (bts e)]:=by
 have:=h.clip [] (by simpa using he);simp only[ama,amO,amD]at this;exact this.wk ⟨Wk.empty 0 1 _,WkL.refl _⟩
end Go.Proofs.YtblipkgpoaonaaaGreat
