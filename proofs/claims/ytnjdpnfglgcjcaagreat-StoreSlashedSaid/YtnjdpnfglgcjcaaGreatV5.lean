/-
 My texts Jf, Lk, Ll, Lm, Ln, Jg, Lo, Lp, Pa, Pc, joined.
-/
import Derived.Test.YtnjdpnfglgcjcaaGreatW3
import Derived.Test.YtnjdpnfglgcjcaaGreatV4
import Derived.Test.YtnjdpnfglgcjcaaGreatW6
import Derived.Test.YtnjdpnfglgcjcaaGreatW9
set_option linter.unusedVariables false
set_option linter.unusedSimpArgs false
set_option maxRecDepth 8000
set_option maxHeartbeats 4000000
namespace Go.FH
open Go Go.RowKit
structure dc(t:List Nod):Prop where
 ok:eL t
 pos:0<t.length
 root:(nod t 0).up<0
theorem gL{t:List Nod}(ht:dc t){i x:Int}(hx:x∈kP t i):i<x/\0<=x/\x<t.length/\(nod t x.toNat).up=i:=by
 unfold kP at hx;split at hx
 ·rename_i hi
  simp[isN]at hi
  have:=fE (f:=fun k l=>if (nod t k).up=i then l++[(k:Int)]else l) (a:=([]:List Int)) (fun k l=>∀x∈l,0<=x/\x<k/\(nod t x.toNat).up=i) (by simp) t.length (fun k l hk h x hx=>by
   split at hx
   ·rename_i he;rw[List.mem_append,List.mem_singleton]at hx;rcases hx with hx|hx
    ·obtain⟨h1,h2,h3⟩:=h x hx;exact⟨h1,by omega,h3⟩
    ·subst hx;exact⟨by omega,by omega,by simpa using he⟩
   ·obtain⟨h1,h2,h3⟩:=h x hx;exact⟨h1,by omega,h3⟩) t.length (Nat.le_refl _) x hx
  obtain⟨h1,h2,h3⟩:=this;refine⟨?_,h1,h2,h3⟩;obtain⟨u,rfl⟩:∃u:Nat,x=u:=⟨_,(Int.toNat_of_nonneg h1).symm⟩
  simp only[Int.toNat_natCast]at h3;by_cases h0:u=0
  ·subst h0;have:=ht.root;omega
  ·obtain⟨h4,h5⟩:=ht.ok u (by omega) (by omega);omega
 ·simp at hx
theorem Jj(t:List Nod)(i:Int):(kP t i).length<=t.length:=by
 unfold kP;split
 ·have:=mb (f:=fun k l=>if (nod t k).up=i then l++[(k:Int)]else l) (a:=([]:List Int)) (fun k l=>by split<;>simp) t.length;simpa using this
 ·simp
def bY(s:am)(slot:Int):Int:=IntKind.u64.wrap (Int.tdiv slot s.cfg.spe)
def uy(s:am)(i:Int):Cp:=if isN s.nodes i=true then (if bY s (nod s.nodes i.toNat).blk.slot<bY s s.now then (nod s.nodes i.toNat).blk.pul.j else (nod s.nodes i.toNat).blk.just)else cp0
def FL(s:am)(i:Int):Bool:=isN s.nodes i&&decide ((nod s.nodes i.toNat).status≠2)&&(decide (s.j.ep=0) || decide ((uy s i).ep=s.j.ep) || decide (bY s s.now<=(uy s i).ep) || decide (IntKind.u64.wrap (bY s s.now-(uy s i).ep)<=2))
def BX(s:am):Nat->Int->Bool
 |0,_=>false
 |f+1,i=>FL s i || (kP s.nodes i).any (BX s f)
theorem yZ{s:am}(ht:dc s.nodes):∀ (n f g:Nat) (i:Int),(s.nodes.length:Int)-i<n->n<=f->n<=g->BX s f i=BX s g i
 | 0, f, g, i, h, _, _ => by
   have hn:isN s.nodes i=false:=by simp[isN];omega
   have hk:∀f,BX s f i=false:=fun f=>by
    cases f with
    |zero=>rfl
    |succ f=>simp[BX,FL,kP,hn]
   rw[hk,hk]
 | n + 1, f + 1, g + 1, i, h, h1, h2 => by
   simp only[BX];congr 1;rw[Bool.eq_iff_iff,List.any_eq_true,List.any_eq_true];constructor
   ·rintro⟨x,hx,h3⟩;have:=gL ht hx;exact⟨x,hx,by rw[<-yZ ht n f g x (by omega) (by omega) (by omega)];exact h3⟩
   ·rintro⟨x,hx,h3⟩;have:=gL ht hx;exact⟨x,hx,by rw[yZ ht n f g x (by omega) (by omega) (by omega)];exact h3⟩
def ml(s:am)(i:Int):Bool:=BX s (s.nodes.length+2) i
theorem XP{s:am}(ht:dc s.nodes)(i:Int)(h0:-1<=i):ml s i=(FL s i || (kP s.nodes i).any (ml s)):=by
 show (FL s i || (kP s.nodes i).any (BX s (s.nodes.length+1)))=_
 congr 1;rw[Bool.eq_iff_iff,List.any_eq_true,List.any_eq_true];constructor
 ·rintro⟨x,hx,h3⟩;have:=gL ht hx;exact⟨x,hx,by unfold ml;rw[<-yZ ht (s.nodes.length+1) (s.nodes.length+1) (s.nodes.length+2) x (by omega) (by omega) (by omega)];exact h3⟩
 ·rintro⟨x,hx,h3⟩;have:=gL ht hx;exact⟨x,hx,by unfold ml at h3;rw[yZ ht (s.nodes.length+1) (s.nodes.length+1) (s.nodes.length+2) x (by omega) (by omega) (by omega)];exact h3⟩
def Ft(s:am)(i:Nat)(l:List Bool):List Bool:=l++[ml s i]
def Fu(s:am):List Bool:=aL (Ft s) [] s.nodes.length
theorem ui(s:am):∀n,(aL (Ft s) [] n).length=n
 |0=>rfl
 |n+1=>by rw[bH];unfold Ft;simp;exact ui s n
def rY(s:am):List Int:=if cS s.tabs s.j<0 then []else (tab s.tabs (cS s.tabs s.j).toNat).bals
def mc(s:am):List Int:=acA s.nodes (pH s.nodes (eV s.nodes s.latest s.eqv (rY s)) s.boost (xS s.cfg.spe s.cfg.boost (xK (rY s)).1).1)
def qW(t:List Nod)(w:List Int)(a:List Bool)(l:List Int)(k:Nat)(best:Int):Int:=
 if a.getD (l.getD k 0).toNat false=true/\(best<0\/w.getD best.toNat 0<w.getD (l.getD k 0).toNat 0\/(w.getD (l.getD k 0).toNat 0=w.getD best.toNat 0/\0<rI (nod t (l.getD k 0).toNat).blk.root (nod t best.toNat).blk.root))then l.getD k 0 else best
def nh(t:List Nod)(w:List Int)(a:List Bool)(i:Int):Int:=aL (qW t w a (kP t i)) (-1) (kP t i).length
theorem xX(t:List Nod)(w:List Int)(a:List Bool)(l:List Int):∀n,n<=l.length->aL (qW t w a l) (-1) n=-1\/aL (qW t w a l) (-1) n∈l
 |0,_=>.inl rfl
 | n + 1, h => by
   rw[bH];have:=xX t w a l n (by omega);generalize aL (qW t w a l) (-1) n=b at *;unfold qW;split
   ·right;rw[List.getD_eq_getElem?_getD,List.getElem?_eq_getElem (show n<l.length by omega)];exact List.getElem_mem _
   ·exact this
def yT(t:List Nod)(w:List Int)(a:List Bool):Nat->Int->Int
 |0,i=>i
 |f+1,i=>if nh t w a i<0 then i else yT t w a f (nh t w a i)
theorem Oo{t:List Nod}(ht:dc t)(w:List Int)(a:List Bool):∀ (f:Nat) (i:Int),i<t.length->i<=yT t w a f i/\yT t w a f i<t.length
 |0,i,h=>⟨Int.le_refl _,h⟩
 | f + 1, i, h => by
   unfold yT;split
   ·exact⟨Int.le_refl _,h⟩
   ·rename_i hb
    rcases xX t w a (kP t i) _ (Nat.le_refl _)with h1|h1
    ·exact absurd (show nh t w a i<0 by unfold nh;rw[h1];decide) hb
    ·have h2:=gL ht h1;have h3:=Oo ht w a f (nh t w a i) h2.2.2.1;have h4:i<nh t w a i:=h2.1;exact⟨by omega,h3.2⟩
theorem WU{t:List Nod}(ht:dc t)(w:List Int)(a:List Bool)(i:Int):nh t w a i=-1\/(i<nh t w a i/\0<=nh t w a i/\nh t w a i<t.length):=by
 rcases xX t w a (kP t i) _ (Nat.le_refl _)with h1|h1
 ·exact .inl h1
 ·have h2:=gL ht h1;exact .inr ⟨h2.1,h2.2.1,h2.2.2.1⟩
def E4(s:am):Int:=yT s.nodes (mc s) (Fu s) (s.nodes.length+1) (aj s.nodes s.j.rt)
def cR(s:am)(e:Int):Int×Bool:=((bD e s.cfg.spe).1,decide ((bD e s.cfg.spe).2=0))
def lX(s:am)(b:Blk):Bool:=decide (b.fin.ep<=b.just.ep)&&decide (b.just.ep<=b.pul.j.ep)&&decide (b.fin.ep<=b.pul.f.ep)&&decide (b.pul.f.ep<=b.pul.j.ep)&&decide (b.pul.j.ep<=bY s b.slot)
def nP(s:am)(b:Blk)(p:Int)(c:Cp):Bool:=decide (c.ep<=s.f.ep) || (if (cR s c.ep).1<b.slot then decide (0<=atT s.nodes p (cR s c.ep).1)&&decide ((nod s.nodes (atT s.nodes p (cR s c.ep).1).toNat).blk.root=c.rt)else decide (b.root=c.rt))
def cps(b:Blk):List Cp:=[b.just,b.fin,b.pul.j,b.pul.f]
def rD(s:am)(b:Blk):Bool:=decide (0<=aj s.nodes b.parent)&&(lX s b&&(cE (fun k=>!nP s b (aj s.nodes b.parent) ((cps b).getD k cp0)) 4).isNone)
def jz(s:am)(i e:Int):Bool:=!(cR s e).2 || decide ((nod s.nodes i.toNat).blk.slot<=(cR s e).1)
def dK(a b:Cp):Cp:=if a.ep<b.ep then b else a
def qP(s:am)(a b:Cp):Bool:=
 decide (0<=aj s.nodes a.rt)&&decide (0<=aj s.nodes b.rt)&&decide ((nod s.nodes (aj s.nodes a.rt).toNat).status≠2)&&decide ((nod s.nodes (aj s.nodes b.rt).toNat).status≠2)
 && jz s (aj s.nodes a.rt) a.ep&&jz s (aj s.nodes b.rt) b.ep&&dv s.nodes (aj s.nodes b.rt) (aj s.nodes a.rt)&&decide (b.ep<=a.ep)&&decide (a.ep<=bY s s.now)&&decide (0<=cS s.tabs a)
def nS(l:List Blk)(a:Int)(i:Nat)(o:List Blk):List Blk:=if a<(l.getD i dO).slot then o++[l.getD i dO]else o
def dl(s:am)(j f:Cp):am:=
 if qP s (dK s.j j) (dK s.f f)=false then s
 else if dK s.f f=s.f then ⟨s.cfg,s.latest,s.eqv,dK s.j j,dK s.f f,s.early,s.orph,s.nodes,s.now,s.boost,eM s.tabs (dK s.j j).ep⟩
 else ⟨s.cfg,s.latest,s.eqv,dK s.j j,dK s.f f,s.early,aL (nS s.orph (cR s (dK s.f f).ep).1) [] s.orph.length,(dL s.nodes (aj s.nodes (dK s.f f).rt)).1,s.now,
  if aj (dL s.nodes (aj s.nodes (dK s.f f).rt)).1 s.boost<0 then rt0 else s.boost,eM s.tabs (dK s.j j).ep⟩
def FG(t:List Nod)(i:Nat)(p:Pul×Bool):Pul×Bool:=
 if (nod t i).status=2 then p else (⟨if p.2=false\/p.1.j.ep<(nod t i).blk.pul.j.ep then (nod t i).blk.pul.j else p.1.j,if p.2=false\/p.1.f.ep<(nod t i).blk.pul.f.ep then (nod t i).blk.pul.f else p.1.f⟩,true)
def jp(s:am):Pul:=(aL (FG s.nodes) (HP,false) s.nodes.length).1
def cF(l:List Blk)(i:Nat):Blk:=l.getD i dO
def iW(s:am)(r:Rt):Bool:=(cE (fun i=>decide ((cF s.orph i).root=r)) s.orph.length).isSome || decide (0<=aj s.nodes r)
end Go.FH
namespace Go.Proofs.YtnjdpnfglgcjcaaGreat
open Go Go.FH Go.RowKit
theorem fV(s:am)(n:Int)(h0:s.cfg.spe≠0):PC Tryz.prog 116 [.agg (aw s.a),.int .u64 n] (.int .u64 (bY s n)):=by
 refine PC.fact 5 Ho (by simp) puA puA ?_;unfold vz;refine bd ?_;have e0:(s.cfg.spe==0)=false:=by simpa using h0
 unfold bY;refine aO e0 h0 ?_;exact af
theorem Ox(s:am)(n:Int):PC Tryz.prog 411 [.agg (aw s.a),.int .i64 n] (.bool (isN s.nodes n)):=by
 refine PC.fact 5 QM (by simp) puA puA ?_;unfold DS;refine bd ?_;unfold isN;by_cases h0:0<=n
 ·have e0:decide (n ≥ 0)=true:=ak h0;have e1:=ak h0;refine aO e0 e1 ?_;exact af
 ·have e0:decide (n ≥ 0)=false:=au h0;have e1:=au h0;refine aO e0 e1 ?_;exact af
theorem Ps(s:am)(n:Int)(h0:s.cfg.spe≠0):PC Tryz.prog 412 [.agg (aw s.a),.int .i64 n] (.agg (cpC (uy s n))):=by
 refine PC.fact 6 EE (by simp) puA puA ?_;unfold sx;refine bd ?_;have c1:=Ox s n;have c2:=fV s (nod s.nodes n.toNat).blk.slot h0;have c3:=fV s s.now h0;unfold uy;refine gon ?_;refine ai c1 ?_;cases h1:isN s.nodes n with
 | false =>
   rw[if_neg (by simp)];refine aV ?_;exact af
 | true =>
   rw[if_pos rfl];have h2:=h1;simp[isN]at h2;have hgd:=dy (t:=s.nodes) (i:=n.toNat) (by omega);refine dk ?_;refine ap hgd ?_;refine aC (c2) ?_;refine gon ?_;refine aC (c3) ?_;refine gon ?_;by_cases h3:bY s (nod s.nodes n.toNat).blk.slot<bY s s.now
   ·rw[if_pos h3];have e3:=ak h3;refine aE e3 ?_;exact af
   ·rw[if_neg h3];have e3:=au h3;refine aD e3 ?_;exact af
theorem Vx(s:am)(n:Int)(h0:s.cfg.spe≠0):PC Tryz.prog 409 [.agg (aw s.a),.int .i64 n] (.bool (FL s n)):=by
 refine PC.fact 6 yH (by simp) puA puA ?_;unfold oG;refine bd ?_;have c1:=Ox s n;have c2:=Ps s n h0;have c3:=fV s s.now h0;unfold FL;refine gon ?_;refine ai c1 ?_;cases h1:isN s.nodes n with
 | false =>
   refine aV ?_;exact af
 | true =>
   have h2:=h1;simp[isN]at h2;have hgd:=dy (t:=s.nodes) (i:=n.toNat) (by omega);generalize uy s n=S at *;by_cases h3:(nod s.nodes n.toNat).status=2
   ·have e3:((nod s.nodes n.toNat).status==2)=true:=by simp[h3]
    have e4:decide ((nod s.nodes n.toNat).status≠2)=false:=by simp[h3]
    rw[e4];refine cn hgd e3 ?_;exact af
   ·have e3:((nod s.nodes n.toNat).status==2)=false:=by simp[h3]
    have e4:decide ((nod s.nodes n.toNat).status≠2)=true:=by simp[h3]
    rw[e4];refine dD hgd e3 ?_;refine ap hgd ?_;refine acT c2 ?_;by_cases k1:s.j.ep=0
    ·have e5:(s.j.ep==0)=true:=by simp[k1]
     rw[ak k1];refine ap e5 ?_;exact af
    have e5:(s.j.ep==0)=false:=by simp[k1]
    rw[au k1];by_cases k2:S.ep=s.j.ep
    ·have e6:(S.ep==s.j.ep)=true:=by simp[k2]
     rw[ak k2];refine aO e5 e6 ?_;exact af
    have e6:(S.ep==s.j.ep)=false:=by simp[k2]
    rw[au k2];refine aO e5 e6 ?_;refine ai c3 ?_;by_cases k3:bY s s.now<=S.ep
    ·have e7:=ak k3;rw[ak k3];refine ap e7 ?_;exact af
    have e7:=au k3;rw[au k3];refine ap e7 ?_;refine acT c3 ?_;exact af
theorem WO{α:Type}(p:α->Bool)(d:α)(l:List α){i:Nat}(h:i<l.length):(l.drop i).any p=(p (l.getD i d) || (l.drop (i+1)).any p):=by
 rw[List.drop_eq_getElem_cons h,List.any_cons,List.getD_eq_getElem?_getD,List.getElem?_eq_getElem h];rfl
theorem Jq(s:am)(i0:Int)(ih:∀x∈kP s.nodes i0,PC Tryz.prog 401 [.agg (aw s.a),.int .i64 x] (.bool (ml s x)))(h0:s.cfg.spe≠0)(ht:dc s.nodes)(hb:s.nodes.length<=1000000)(hi0:0<=i0):PC Tryz.prog 401 [.agg (aw s.a),.int .i64 i0] (.bool (ml s i0)):=by
 refine PC.fact 7 LJ (by simp) puA puA ?_;unfold yn;refine bd ?_;have c1:=Vx s i0 h0;have c2:=Jl s.nodes i0 hb;have hl:=Jj s.nodes i0;rw[XP ht i0 (by omega)];generalize kP s.nodes i0=l at *;generalize ml s=L at *;refine gon ?_;refine ai c1 ?_;cases h1:FL s i0 with
 | true =>
   refine aV ?_;exact af
 | false =>
   refine bh ?_;refine acT c2 ?_;generalize hR:l.any L=R;refine ay (fun i:Nat=>[(6,.int .i64 i)]) (fun _=>[.var (aw s.a)]) (fun i=>l.length-i) (fun i=>i<=l.length/\R=(l.drop i).any L) 0 ⟨Nat.zero_le _,hR.symm⟩ ?_ ?_
   ·exact adk [] [0]
   clear hR;rintro i ⟨hi,hn⟩;rw[hn];refine dM ?_;by_cases h1:i<l.length
   ·have e1:=inT h1
    have hw:=ah h1 (by omega);have hgp:=gdn (k:=.i64) h1;have c3:=ih (l.getD i 0) (by rw[List.getD_eq_getElem?_getD,List.getElem?_eq_getElem h1];exact List.getElem_mem h1);have hd:=WO L 0 l h1;refine bg e1 ?_;refine aO hgp Nat.mul_one ?_;refine aC (c3) ?_;cases h2:L (l.getD i 0)with
    | true =>
      rw[hd,h2];refine aV ?_;exact af
    | false =>
      rw[hd,h2];refine dk ?_;refine ap hw ?_;refine⟨i+1,⟨h1,rfl⟩,by omega,?_⟩;exact adk [] [0]
   ·obtain rfl:i=l.length:=by omega
    have e1:=inF (l.length);rw[List.drop_length];refine aD e1 ?_;exact af
theorem Jr(s:am)(h0:s.cfg.spe≠0)(ht:dc s.nodes)(hb:s.nodes.length<=1000000):∀ (n:Nat) (i:Int),0<=i->(s.nodes.length:Int)-i<n->PC Tryz.prog 401 [.agg (aw s.a),.int .i64 i] (.bool (ml s i))
 | 0, i, _, hn => by
   exact Jq s i (fun x hx=>by have:=gL ht hx;omega) h0 ht hb (by omega)
 | n + 1, i, hi, hn => by
   exact Jq s i (fun x hx=>Jr s h0 ht hb n x (by have:=gL ht hx;omega) (by have:=gL ht hx;omega)) h0 ht hb hi
structure StR(s:am):Prop where
 tree:dc s.nodes
 spe:s.cfg.spe≠0
 bn:s.nodes.length<=1000000
 bl:s.latest.length<=1000000
 be:s.eqv.length<=1000000
 bt:s.tabs.length<=1000000
 bb:∀t∈s.tabs,t.bals.length<=1000000
 bo:s.orph.length<=1000000
 ba:s.early.length<=1000000
 nl:s.cfg.lim.node<=4096
 ll:s.latest.length=s.cfg.bals.length
 jf:0<=aj s.nodes s.j.rt
theorem xq(l:List aH)(c:Cp):-1<=cS l c/\cS l c<l.length:=by
 unfold cS;cases h:cE (fun i=>decide ((tab l i).cp=c)) l.length with
 |none=>simp[rP];omega
 |some k=>have:=dY h;simp[rP];omega
theorem NB{s:am}(h:StR s):(rY s).length<=1000000:=by
 unfold rY;split
 ·simp
 ·rename_i h1;have h2:=xq s.tabs s.j;refine h.bb _ ?_;unfold tab;rw[List.getD_eq_getElem?_getD,List.getElem?_eq_getElem (show (cS s.tabs s.j).toNat<s.tabs.length by omega)];exact List.getElem_mem _
theorem Ro(s:am)(h:StR s):PC Tryz.prog 374 [.agg (aw s.a)] (.sl 1 false (rows lz (Fu s))):=by
 refine PC.fact 5 LG (by simp) puA puA ?_;unfold yj;refine bd ?_;unfold Fu;have hb:=h.bn;refine gon ?_;refine eY 3 1 ?_;simp only[go_sem];refine ay (fun i:Nat=>[(4,.int .i64 i),(3,.hs 1 1 0 i)]) (fun i=>[.var (aw s.a),.vec 1 (rows lz (aL (Ft s) [] i))]) (fun i=>s.nodes.length-i) (fun i=>i<=s.nodes.length) 0 (Nat.zero_le _) ?_ ?_
 ·exact adk [] [0,1]
 intro i hi;refine dM ?_;by_cases h1:i<s.nodes.length
 ·have e1:=inT h1;have hw:=ah h1 (by omega);have c1:=Jr s h.spe h.tree h.bn (s.nodes.length+1) i (by omega) (by omega);have hs:=bH (Ft s) [] i;have hl:=ui s i;generalize aL (Ft s) [] i=acc at *;have hr:rows lz acc++[[AV.bool (ml s i)]]=rows lz (acc++[ml s i]):=da lz acc _;refine aE e1 ?_;refine ai c1 ?_;have ht:List.take i (rows lz acc)=rows lz acc:=List.take_of_length_le (by simp[hl]);refine eW hr hw hl ht ?_;refine⟨i+1,h1,by omega,?_⟩;rw[hs,show Ft s i acc=acc++[ml s i]from rfl];exact adk [] [0,2]
 ·obtain rfl:i=s.nodes.length:=by omega
  have e1:=inF (s.nodes.length);have hl:=ui s s.nodes.length;refine aQ e1 ?_;refine ap hl ?_;refine⟨_,(by first|rfl|exact evd),.inl ?_⟩;refine evg ?_;rw[hl,if_pos (Nat.le_refl _),List.take_of_length_le (by simp[hl])]
theorem NC(s:am)(h:StR s):PC Tryz.prog 42 [.agg (aw s.a)] (.sl 1 false (ax .u64 (rY s))):=by
 refine PC.fact 4 zV (by simp) puA puA ?_;unfold pN;refine bd ?_;have c1:=mQ s.tabs s.j h.bt;have h2:=xq s.tabs s.j;unfold rY;refine gon ?_;refine acT c1 ?_;by_cases h1:cS s.tabs s.j<0
 ·have e1:=ak h1;rw[if_pos h1];refine aE e1 ?_;exact qg
 ·have e1:=au h1;have hgd:(rows aH.c s.tabs).getD (cS s.tabs s.j).toNat []=bE (tab s.tabs (cS s.tabs s.j).toNat).a:=aM (f:=aH.c) default (by omega);rw[if_neg h1];refine aQ e1 ?_;refine ap hgd ?_;exact af
theorem Nh(s:am)(h:StR s):PC Tryz.prog 373 [.agg (aw s.a)] (.sl 1 false (ax .u64 (mc s))):=by
 refine PC.fact 9 CD (by simp) puA puA ?_;unfold ri;refine bd ?_;have c1:=NC s h;have hl:=NB h;unfold mc;generalize rY s=B at *;have c2:=J2 B false hl;generalize xK B=S at *;obtain⟨S1,S2⟩:=S;have c3:=Nt s.cfg S1;have c4:=BN s.nodes s.latest s.eqv B h.bn h.bl h.be hl;have hd:=oO s.nodes s.latest s.eqv B s.nodes.length;rw[show aL (zP s.nodes s.latest s.eqv B) [] s.nodes.length=eV s.nodes s.latest s.eqv B from rfl]at hd;generalize eV s.nodes s.latest s.eqv B=D at *;dsimp only at c2 ⊢;generalize xS s.cfg.spe s.cfg.boost S1=M at *;obtain⟨M1,M2⟩:=M;have c5:=KK s.nodes D s.boost M1 h.bn hd;have hd2:(pH s.nodes D s.boost M1).length=s.nodes.length:=by unfold pH;split<;>simp[hd]
 dsimp only at c3 ⊢;generalize pH s.nodes D s.boost M1=D2 at *;have c6:=MW s.nodes h.tree.ok D2 h.bn hd2;refine gon ?_;refine acT c1 ?_;refine acT c2 ?_;refine acT c3 ?_;refine acT c4 ?_;refine aC (c5) ?_;refine gon ?_;refine aC (c6) ?_;refine gon ?_;exact af
theorem gdb{l:List Bool}{i:Nat}(h:i<l.length):(rows lz l).getD i []=[.bool (l.getD i false)]:=aM (f:=lz) false h
theorem Ug(t:List Nod)(ht:dc t)(hb:t.length<=1000000)(w:List Int)(hwl:w.length=t.length)(a:List Bool)(ha:a.length=t.length)(i0:Int):
 PC Tryz.prog 375 [.agg [nA t],.sl 1 false (ax .u64 w),.sl 1 false (rows lz a),.int .i64 i0] (.int .i64 (nh t w a i0)):=by
 refine PC.fact 13 ED (by simp) puA puA ?_;unfold sv;refine bd ?_;have c1:=Jl t i0 hb;have hl:=Jj t i0;have hm:∀x∈kP t i0,0<=x/\x<t.length:=fun x hx=>by have:=gL ht hx;omega
 unfold nh;generalize kP t i0=l at *;refine gon ?_;refine acT c1 ?_;refine ay (fun i:Nat=>[(11,.int .i64 i),(9,.int .i64 (aL (qW t w a l) (-1) i))]) (fun _=>[.var [nA t]]) (fun i=>l.length-i) (fun i=>i<=l.length) 0 (Nat.zero_le _) ?_ ?_
 ·exact adk [] [0]
 intro i hi;refine dM ?_;by_cases h1:i<l.length
 ·have e1:=inT h1
  have hw:=ah h1 (by omega);have hgp:=gdn (k:=.i64) h1;have hx:=hm (l.getD i 0) (by rw[List.getD_eq_getElem?_getD,List.getElem?_eq_getElem h1];exact List.getElem_mem h1);have hs:=bH (qW t w a l) (-1) i;have hbi:=xX t w a l i hi;have hbd:aL (qW t w a l) (-1) i=-1\/(0<=aL (qW t w a l) (-1) i/\aL (qW t w a l) (-1) i<t.length):=hbi.imp id (fun h=>hm _ h);clear hbi;generalize hB:aL (qW t w a l) (-1) i=B at *;have hc:qW t w a l i B=if a.getD (l.getD i 0).toNat false=true/\(B<0\/w.getD B.toNat 0<w.getD (l.getD i 0).toNat 0\/(w.getD (l.getD i 0).toNat 0=w.getD B.toNat 0/\0<rI (nod t (l.getD i 0).toNat).blk.root (nod t B.toNat).blk.root))then l.getD i 0 else B:=rfl
  rw[hc]at hs;clear hc;generalize l.getD i 0=c at *;have hga:=gdb (l:=a) (i:=c.toNat) (by omega);have hgw:=gdn (k:=.u64) (ns:=w) (i:=c.toNat) (by omega);have hgd:=dy (t:=t) (i:=c.toNat) (by omega);refine bg e1 ?_;refine cZ hgp Nat.mul_one hga ?_;cases h2:a.getD c.toNat false with
  | false =>
    rw[if_neg (fun h=>Bool.noConfusion (h2.symm.trans h.1))]at hs;refine dk ?_;refine ap hw ?_;refine⟨i+1,h1,by omega,?_⟩;rw[hs];exact adk [] [0]
  | true =>
    by_cases h3:B<0
    ·have e3:=ak h3;rw[if_pos ⟨h2,.inl h3⟩]at hs;refine bg e3 ?_;refine ap hw ?_;refine⟨i+1,h1,by omega,?_⟩;rw[hs];exact adk [] [0]
    have e3:=au h3;have hgB:=gdn (k:=.u64) (ns:=w) (i:=B.toNat) (by omega);have hgE:=dy (t:=t) (i:=B.toNat) (by omega);by_cases h4:w.getD B.toNat 0<w.getD c.toNat 0
    ·have e4:decide (w.getD c.toNat 0 > w.getD B.toNat 0)=true:=ak h4;have e5:=ak h4;rw[if_pos ⟨h2,.inr (.inl h4)⟩]at hs;refine eI e3 hgB hgw Nat.mul_one e4 e5 ?_;refine aF ?_;refine ap hw ?_;refine⟨i+1,h1,by omega,?_⟩;rw[hs];exact adk [] [0]
    have e4:decide (w.getD c.toNat 0 > w.getD B.toNat 0)=false:=au h4;have e5:=au h4;by_cases h5:w.getD c.toNat 0=w.getD B.toNat 0
    ·have e6:(w.getD c.toNat 0==w.getD B.toNat 0)=true:=by rw[beq_iff_eq];exact h5
     have c2:=IL (nod t c.toNat).blk.root (nod t B.toNat).blk.root;generalize rI (nod t c.toNat).blk.root (nod t B.toNat).blk.root=M at *;refine XF e3 hgB hgw Nat.mul_one e4 e5 e6 hgd hgE ?_;refine aC (c2) ?_;by_cases h6:0<M
     ·have e7:decide (M > 0)=true:=ak h6;have e8:=ak h6;rw[if_pos ⟨h2,.inr (.inr ⟨h5,h6⟩)⟩]at hs;refine im e7 e8 ?_;refine ap hw ?_;refine⟨i+1,h1,by omega,?_⟩;rw[hs];exact adk [] [0]
     ·have e7:decide (M > 0)=false:=au h6;have e8:=au h6;rw[if_neg (by rintro⟨_,h|h|h⟩;exact h3 h;exact h4 h;exact h6 h.2)]at hs;refine dD e7 e8 ?_;refine ap hw ?_;refine⟨i+1,h1,by omega,?_⟩;rw[hs];exact adk [] [0]
    ·have e6:(w.getD c.toNat 0==w.getD B.toNat 0)=false:=by rw[<-Bool.not_eq_true,beq_iff_eq];exact h5
     rw[if_neg (by rintro⟨_,h|h|h⟩;exact h3 h;exact h4 h;exact h5 h.1)]at hs;refine jN e3 hgB hgw Nat.mul_one e4 e5 e6 ?_;refine aB ?_;refine ap hw ?_;refine⟨i+1,h1,by omega,?_⟩;rw[hs];exact adk [] [0]
 ·obtain rfl:i=l.length:=by omega
  have e1:=inF (l.length);refine aD e1 ?_;exact af
theorem M9(s:am):(mc s).length=s.nodes.length:=Dx s.nodes _ s.nodes.length
theorem UT(s:am)(h:StR s):PC Tryz.prog 310 [.agg (aw s.a)] (.int .i64 (E4 s)):=by
 refine PC.fact 7 LF (by simp) puA puA ?_;unfold yi;refine bd ?_;have c1:=Nh s h;have c2:=Ro s h;have c3:=cm s.nodes s.j.rt h.bn;have c4:=Ug s.nodes h.tree h.bn (mc s) (M9 s) (Fu s) (ui s s.nodes.length);have hbd:=WU h.tree (mc s) (Fu s);have hF:=dX s.nodes s.j.rt;unfold E4;generalize mc s=W at *;generalize Fu s=L at *;generalize aj s.nodes s.j.rt=F at *;refine gon ?_;refine aC (c1) ?_;refine gon ?_;refine aC (c2) ?_;refine gon ?_;refine acT c3 ?_;generalize hR:yT s.nodes W L (s.nodes.length+1) F=R;refine ay (fun p:Nat×Int=>[(5,.int .i64 p.2)]) (fun _=>[.var (aw s.a)]) (fun p=>p.1) (fun p=>-1<=p.2/\p.2<s.nodes.length/\(s.nodes.length:Int)-p.2<=p.1/\R=yT s.nodes W L p.1 p.2) (s.nodes.length+1,F) ⟨hF.1,hF.2,by dsimp only;omega,hR.symm⟩ ?_ ?_
 ·exact adk [] [0]
 clear hR;rintro⟨f,i⟩ ⟨h0,h1,h2,hn⟩;dsimp only at h0 h1 h2 hn;rw[hn];obtain⟨g,rfl⟩:∃g,f=g+1:=⟨f-1,by omega⟩
 have c5:=c4 i;have hb:=hbd i;have hs:yT s.nodes W L (g+1) i=if nh s.nodes W L i<0 then i else yT s.nodes W L g (nh s.nodes W L i):=rfl
 generalize nh s.nodes W L i=B at *;dsimp only;refine gon ?_;refine acT c5 ?_;by_cases h3:B<0
 ·have e3:=ak h3;rw[if_pos h3]at hs;rw[hs];refine aE e3 ?_;exact af
 ·have e3:=au h3;rw[if_neg h3]at hs;rw[hs];refine aD e3 ?_;refine⟨(g,B),⟨by omega,by omega,by dsimp only;omega,rfl⟩,by dsimp only;omega,?_⟩;exact adk [] [0]
theorem jR(s:am)(e:Int):PC Tryz.prog 243 [.agg (aw s.a),.int .u64 e] (.tup [.int .u64 (cR s e).1,.bool (cR s e).2]):=by
 refine PC.fact 8 Hq (by simp) puA puA ?_;unfold vB;refine bd ?_;have c1:=R9 e s.cfg.spe;unfold cR;generalize bD e s.cfg.spe=p at *;refine gon ?_;refine ai c1 ?_;have hz:(p.2==0)=decide (p.2=0):=rfl;refine ap hz ?_;exact af
theorem wz(s:am)(i e:Int)(h0:0<=i)(h1:i<s.nodes.length):PC Tryz.prog 117 [.agg (aw s.a),.int .i64 i,.int .u64 e] (.bool (jz s i e)):=by
 refine PC.fact 9 Hn (by simp) puA puA ?_;unfold vy;refine bd ?_;have c1:=jR s e;unfold jz;have hgd:=dy (t:=s.nodes) (i:=i.toNat) (by omega);generalize cR s e=p at *;obtain⟨p1,p2⟩:=p;dsimp only at c1 ⊢;refine gon ?_;refine ai c1 ?_;cases p2 with
 | false =>
   refine gon ?_;exact af
 | true =>
   refine ap hgd ?_;exact af
theorem zc(s:am)(b:Blk)(h0:s.cfg.spe≠0):PC Tryz.prog 244 [.agg (aw s.a),.agg (aA b)] (.bool (lX s b)):=by
 refine PC.fact 9 CE (by simp) puA puA ?_;unfold rj;refine bd ?_;have c1:=fV s b.slot h0;unfold lX;by_cases q1:b.fin.ep<=b.just.ep
 case neg=>
  rw[au q1];have e1:=au q1;refine ap e1 ?_;exact af
 rw[ak q1];have e1:=ak q1;by_cases q2:b.just.ep<=b.pul.j.ep
 case neg=>
  rw[au q2];have e2:=au q2;refine aO e1 e2 ?_;exact af
 rw[ak q2];have e2:=ak q2;by_cases q3:b.fin.ep<=b.pul.f.ep
 case neg=>
  rw[au q3];have e3:=au q3;refine cZ e1 e2 e3 ?_;exact af
 rw[ak q3];have e3:=ak q3;by_cases q4:b.pul.f.ep<=b.pul.j.ep
 case neg=>
  rw[au q4];have e4:=au q4;refine eW e1 e2 e3 e4 ?_;exact af
 rw[ak q4];have e4:=ak q4;refine eW e1 e2 e3 e4 ?_;refine acT c1 ?_;exact af
end Go.Proofs.YtnjdpnfglgcjcaaGreat
namespace Go.FH
open Go Go.RowKit
def takeO(l:List Blk)(i:Nat):List Blk:=l.take i++l.drop (i+1)
theorem J4(l:List Blk){i:Nat}(h:i<l.length):(takeO l i).length+1=l.length:=by
 unfold takeO;rw[List.length_append,List.length_take,List.length_drop];omega
def bR(s:am):Int:=rP (cE (fun i=>decide (0<=aj s.nodes (cF s.orph i).parent)) s.orph.length)
theorem qr(s:am):-1<=bR s/\bR s<s.orph.length:=by
 unfold bR;cases h:cE (fun i=>decide (0<=aj s.nodes (cF s.orph i).parent)) s.orph.length with
 |none=>rw[jO];omega
 |some k=>have:=dY h;rw[gc];omega
def dh(s:am)(t:List Nod):am:=⟨s.cfg,s.latest,s.eqv,s.j,s.f,s.early,s.orph,t,s.now,s.boost,s.tabs⟩
def withO(s:am)(l:List Blk):am:=⟨s.cfg,s.latest,s.eqv,s.j,s.f,s.early,l,s.nodes,s.now,s.boost,s.tabs⟩
def withE(s:am)(l:List aW):am:=⟨s.cfg,s.latest,s.eqv,s.j,s.f,l,s.orph,s.nodes,s.now,s.boost,s.tabs⟩
def withB(s:am)(r:Rt):am:=⟨s.cfg,s.latest,s.eqv,s.j,s.f,s.early,s.orph,s.nodes,s.now,r,s.tabs⟩
def withL(s:am)(l:List Vot):am:=⟨s.cfg,l,s.eqv,s.j,s.f,s.early,s.orph,s.nodes,s.now,s.boost,s.tabs⟩
def PT(s:am)(l:List Int):am:=⟨s.cfg,s.latest,l,s.j,s.f,s.early,s.orph,s.nodes,s.now,s.boost,s.tabs⟩
def withT(s:am)(l:List aH):am:=⟨s.cfg,s.latest,s.eqv,s.j,s.f,s.early,s.orph,s.nodes,s.now,s.boost,l⟩
def d9:am:=⟨⟨ZP,0,0,wd0,rt0,[]⟩,[],[],cp0,cp0,[],[],[],0,rt0,[]⟩
theorem eK{t:List Nod}{n:Nod}{i:Nat}:nod (t++[n]) i=if i<t.length then nod t i else if i=t.length then n else jm:=by
 unfold nod;simp only[List.getD_eq_getElem?_getD];by_cases h:i<t.length
 ·rw[if_pos h,List.getElem?_append_left h]
 ·rw[if_neg h,List.getElem?_append_right (by omega)];by_cases h2:i=t.length
  ·subst h2;simp
  ·rw[if_neg h2,List.getElem?_eq_none (by simp;omega)];rfl
theorem jL{t:List Nod}{r:Rt}{k:Nat}(hk:k<t.length)(h:(nod t k).blk.root=r):0<=aj t r:=by
 unfold aj;cases h1:cE (fun i=>decide ((nod t i).blk.root=r)) t.length with
 |none=>have:=gI h1 k hk;simp[h]at this
 |some i=>rw[gc];omega
theorem dU{t:List Nod}{r:Rt}(h:0<=aj t r):(aj t r).toNat<t.length/\(nod t (aj t r).toNat).blk.root=r:=by
 unfold aj at *;cases h1:cE (fun i=>decide ((nod t i).blk.root=r)) t.length with
 |none=>rw[h1,jO]at h;omega
 |some i=>rw[gc];have:=dY h1;exact⟨by simpa using this.1,by simpa using this.2.1⟩
theorem dc.snoc{t:List Nod}(ht:dc t){n:Nod}(h0:0<=n.up)(h1:n.up<t.length):dc (t++[n]):=by
 refine⟨fun i hi hl=>?_,by simp,?_⟩
 ·rw[eK];by_cases h:i<t.length
  ·rw[if_pos h];exact ht.ok i hi h
  ·rw[if_neg h,if_pos (by simp at hl;omega)];simp at hl;omega
 ·rw[eK,if_pos ht.pos];exact ht.root
theorem LW {t : List Nod} {b : Blk} {st : Int} (h : (eP t b st).2 = 0) : (eP t b st).1 = t ++ [⟨b, aj t b.parent, st⟩] /\ 0 <= aj t b.parent := by
 unfold eP at *;split at h
 ·simp at h
 ·rename_i h1
  rw[if_neg h1];split at h
  ·simp at h
  ·rename_i h2
   rw[if_neg h2];split at h
   ·simp at h
   ·rename_i h3
    rw[if_neg h3];split at h
    ·simp at h
    ·rename_i h4
     rw[if_neg h4];split at h
     ·simp at h
     ·rename_i h5;rw[if_neg h5];exact⟨rfl,by omega⟩
theorem dc.ins{t:List Nod}(ht:dc t){b:Blk}{st:Int}(h:(eP t b st).2=0):dc (eP t b st).1:=by
 obtain⟨h1,h2⟩:=LW h;rw[h1];have h3:=dU h2;exact ht.snoc (n:=⟨b,aj t b.parent,st⟩) h2 (show aj t b.parent<t.length by omega)
theorem m0{t:List Nod}(ht:dc t){i:Nat}(hi:i<t.length):dv t i i=true:=by
 unfold dv;rcases Nat.eq_zero_or_pos i with h|h
 ·subst h;rw[show ((0:Nat):Int)=0 from rfl,iI hi];simp
 ·rw[iJ ht.ok h hi];simp
theorem Dm{t:List Nod}(ht:dc t){a b:Int}(h:dv t a b=true):0<=a/\a<=b/\a<t.length:=by
 unfold dv at h;exact fD ht.ok (by simpa using h)
theorem KB{t:List Nod}(ht:dc t){a:Int}{k:Nat}(hk:k<t.length)(h:dv t a k=true)(hne:(k:Int)≠a):0<k/\dv t a (nod t k).up=true:=by
 unfold dv at *;rcases Nat.eq_zero_or_pos k with h0|h0
 ·subst h0;rw[show ((0:Nat):Int)=0 from rfl,iI hk]at h;simp at h;exact absurd h.symm hne
 ·rw[iJ ht.ok h0 hk]at h;simp at h;refine⟨h0,?_⟩;rcases h with h|h
  ·simpa using h
  ·exact absurd h.symm hne
structure acW(t:List Nod)(i0:Int)(k:Nat)(p:List Nod×List Int):Prop where
 len:p.2.length=k
 kept:∀m:Nat,m<k->dv t i0 m=true->0<=p.2.getD m 0/\p.2.getD m 0<p.1.length/\(nod p.1 (p.2.getD m 0).toNat).blk=(nod t m).blk
 up:∀u:Nat,0<u->u<p.1.length->0<=(nod p.1 u).up/\(nod p.1 u).up<u
 root:0<p.1.length->(nod p.1 0).up<0
 some:0<p.1.length->∃m:Nat,m<k/\dv t i0 m=true
 blks:∀u:Nat,u<p.1.length->∃m:Nat,m<t.length/\(nod p.1 u).blk=(nod t m).blk
 le:p.1.length<=k
theorem kv{l:List Int}{x:Int}{m:Nat}:(l++[x]).getD m 0=if m<l.length then l.getD m 0 else if m=l.length then x else 0:=by
 simp only[List.getD_eq_getElem?_getD];by_cases h:m<l.length
 ·rw[if_pos h,List.getElem?_append_left h]
 ·rw[if_neg h,List.getElem?_append_right (by omega)];by_cases h2:m=l.length
  ·subst h2;simp
  ·rw[if_neg h2,List.getElem?_eq_none (by simp;omega)];rfl
theorem RJ{t:List Nod}(ht:dc t)(i0:Int):∀k,k<=t.length->acW t i0 k (aL (cX t i0) ([],[]) k)
 |0,_=>⟨rfl,fun m h=>absurd h (Nat.not_lt_zero _),fun u _ h=>absurd h (Nat.not_lt_zero _),fun h=>absurd h (Nat.lt_irrefl _),fun h=>absurd h (Nat.lt_irrefl _),fun u h=>absurd h (Nat.not_lt_zero _),Nat.le_refl _⟩
 | k + 1, hk => by
   have ih:=RJ ht i0 k (by omega);rw[bH];generalize aL (cX t i0) ([],[]) k=p at *;obtain⟨kp,ix⟩:=p;obtain⟨l1,l2,l3,l4,l5,l6,l7⟩:=ih;dsimp only at l1 l2 l3 l4 l5 l6 l7;unfold cX;by_cases ha:dv t i0 k=true
   ·rw [if_pos ha]
    dsimp only
    have hup:0<kp.length->(k:Int)≠i0:=by
     intro h he;obtain⟨m,h1,h2⟩:=l5 h;have:=Dm ht h2;omega
    have hu:(k:Int)≠i0->0<=ix.getD (nod t k).up.toNat 0/\ix.getD (nod t k).up.toNat 0<kp.length:=by
     intro h;obtain⟨h0,h1⟩:=KB ht (by omega) ha h;obtain⟨h2,h3⟩:=ht.ok k h0 (by omega);have:=l2 (nod t k).up.toNat (by omega) (by rw[Int.toNat_of_nonneg h2];exact h1);exact⟨this.1,this.2.1⟩
    refine⟨by simp[l1],fun m hm hm2=>?_,fun u h0 h1=>?_,fun h=>?_,fun _=>⟨k,by omega,ha⟩,fun u h=>?_,by simp;omega⟩
    ·rw[kv]
     by_cases hmk:m<k
     ·rw[if_pos (by omega)];obtain⟨a1,a2,a3⟩:=l2 m hmk hm2;refine⟨a1,by simp only[List.length_append,List.length_cons,List.length_nil];omega,?_⟩;rw[eK,if_pos (by omega)];exact a3
     ·obtain rfl:m=k:=by omega
      rw[if_neg (by omega),if_pos (by omega)];refine⟨by omega,by simp only[List.length_append,List.length_cons,List.length_nil];omega,?_⟩;rw[eK,if_neg (by simp),if_pos (by simp)]
    ·rw[eK]
     by_cases hu2:u<kp.length
     ·rw[if_pos hu2];exact l3 u h0 hu2
     ·simp at h1;obtain rfl:u=kp.length:=by omega
      rw[if_neg hu2,if_pos rfl];dsimp only;have hne:=hup h0;rw[if_neg hne];exact hu hne
    ·rw[eK]
     by_cases hz:0<kp.length
     ·rw[if_pos hz];exact l4 hz
     ·rw[if_neg hz,if_pos (by omega)];dsimp only;by_cases hne:(k:Int)=i0
      ·rw[if_pos hne];omega
      ·have:=hu hne;omega
    ·rw[eK]
     by_cases hu2:u<kp.length
     ·rw[if_pos hu2];exact l6 u hu2
     ·simp at h;rw[if_neg hu2,if_pos (by omega)];exact⟨k,by omega,rfl⟩
   ·rw [if_neg ha]
    dsimp only;refine⟨by simp[l1],fun m hm hm2=>?_,l3,l4,fun h=>?_,l6,show kp.length<=k+1 by omega⟩
    ·by_cases hmk:m<k
     ·rw[kv,if_pos (by omega)];exact l2 m hmk hm2
     ·obtain rfl:m=k:=by omega
      exact absurd hm2 ha
    ·obtain⟨m,h1,h2⟩:=l5 h;exact⟨m,by omega,h2⟩
theorem dc.prune{t:List Nod}(ht:dc t){i0:Int}(h0:0<=i0)(h1:i0<t.length):dc (dL t i0).1:=by
 have h:=RJ ht i0 t.length (Nat.le_refl _);have hs:=h.kept i0.toNat (by omega) (by rw[Int.toNat_of_nonneg h0];have:=m0 ht (i:=i0.toNat) (by omega);rwa [Int.toNat_of_nonneg h0]at this);exact⟨h.up,by show 0<(aL (cX t i0) ([],[]) t.length).1.length;omega,h.root (by omega)⟩
theorem tM{t:List Nod}(ht:dc t){i0:Int}{r:Rt}(h:0<=aj t r)(ha:dv t i0 (aj t r)=true):0<=aj (dL t i0).1 r:=by
 have h1:=RJ ht i0 t.length (Nat.le_refl _);obtain⟨h2,h3⟩:=dU h;obtain⟨h4,h5,h6⟩:=h1.kept (aj t r).toNat h2 (by rw[Int.toNat_of_nonneg h];exact ha);exact jL (k:=((aL (cX t i0) ([],[]) t.length).2.getD (aj t r).toNat 0).toNat) (by show _<(aL (cX t i0) ([],[]) t.length).1.length;omega) (by show (nod (aL (cX t i0) ([],[]) t.length).1 _).blk.root=r;rw[h6];exact h3)
theorem RL{t:List Nod}(ht:dc t)(i0:Int):∀u:Nat,u<(dL t i0).1.length->∃m:Nat,m<t.length/\(nod (dL t i0).1 u).blk=(nod t m).blk:=(RJ ht i0 t.length (Nat.le_refl _)).blks
theorem qR{t:List Nod}(ht:dc t)(i0:Int):(dL t i0).1.length<=t.length:=(RJ ht i0 t.length (Nat.le_refl _)).le
end Go.FH
namespace Go.Proofs.YtnjdpnfglgcjcaaGreat
open Go Go.FH Go.RowKit
theorem DC:Wk (.agg (aw gY)) (.agg (aw d9.a)):=by
 refine Wk.agg ?_;unfold gY d9 am.a aw;dsimp only;refine WkC.app ?_ ?_
 ·unfold qD cU.a cD;dsimp only;exact(WkC.refl _).app (.same _ (.same _ ((WkC.refl _).app ((WkC.refl _).app (.one (Wk.empty _ _ _) fun h=>h)))))
 ·exact .cons (Wk.empty _ _ _) (fun h=>h) (.cons (Wk.empty _ _ _) (fun h=>h) ((WkC.refl _).app ((WkC.refl _).app (.cons (Wk.empty _ _ _) (fun h=>h) (.cons (Wk.empty _ _ _) (fun h=>h) (.cons (Wk.empty _ _ _) (fun h=>h) (.same _ ((WkC.refl _).app (.one (Wk.empty _ _ _) fun h=>h)))))))))
def bG(s:am)(b:Blk):Int:=
 if b.root=rt0 then 2 else if iW s b.root=true then 9 else if s.now<b.slot then 12 else if b.slot<=(cR s s.f.ep).1 then 13
 else if aj s.nodes b.parent<0 then 10 else if b.slot<=(nod s.nodes (aj s.nodes b.parent).toNat).blk.slot then 14
 else if (nod s.nodes (aj s.nodes b.parent).toNat).status=2 then 15 else if rD s b=false then 16
 else if vR s.cfg.ttd (nod s.nodes (aj s.nodes b.parent).toNat).blk b=false then 17 else if s.cfg.lim.node<=s.nodes.length then 11 else 0
def dB(s:am)(a:aW):Bool×Int:=
 if dr a.vals s.cfg.bals.length≠0 then (false,dr a.vals s.cfg.bals.length)
 else if a.target.ep≠bY s a.slot\/(a.target.ep≠bY s s.now/\(bY s s.now=0\/a.target.ep≠IntKind.u64.wrap (bY s s.now-1)))then (false,18)
 else if aj s.nodes a.root<0\/aj s.nodes a.target.rt<0 then (false,10)
 else if a.slot<(nod s.nodes (aj s.nodes a.root).toNat).blk.slot then (false,14)
 else if atT s.nodes (aj s.nodes a.root) (cR s a.target.ep).1≠aj s.nodes a.target.rt then (false,19)
 else (decide (s.now<=a.slot),0)
def castIn(s:am)(a:aW):am:=withL s (BI s.latest a.target.ep a.root a.vals).1
def wit(n lo hi:Int):Bool:=decide (lo<=n)&&decide (n<=hi)
def iH(c:cU):Int:=
 if c.spe<1 then 3 else if 64<c.spe then 3 else if 100<c.boost then 3 else if 1024<(c.bals.length:Int)then 3 else if wit c.lim.node 1 4096=false then 3 else if wit c.lim.orph 0 64=false then 3
 else if wit c.lim.early 0 256=false then 3 else if wit c.lim.table 1 64=false then 3 else if wit c.lim.retry 0 256=false then 3 else if c.lim.backoff<1 then 3 else if 1048576<c.lim.backoff then 3
 else if c.gen=rt0 then 2 else fJ ⟨⟨0,c.gen⟩,c.bals⟩ c.bals.length
def HH(r:Rt):Blk:=⟨⟨⟨0,r⟩,⟨0,r⟩⟩,0,r,rt0,rt0,wd0,wd0,⟨0,r⟩,⟨0,r⟩,false⟩
def fm(c:cU):am:=⟨c,List.replicate c.bals.length fg,[],⟨0,c.gen⟩,⟨0,c.gen⟩,[],[],[⟨HH c.gen,-1,1⟩],0,rt0,[⟨⟨0,c.gen⟩,c.bals⟩]⟩
def y9(c:cU):am×Int:=if iH c=0 then (fm c,0)else (d9,iH c)
def fk(l:List aW)(i:Nat):aW:=l.getD i default
def tickA(s:am):am:=⟨s.cfg,s.latest,s.eqv,s.j,s.f,s.early,s.orph,s.nodes,IntKind.u64.wrap (s.now+1),rt0,s.tabs⟩
def tickB(s:am):am:=if IntKind.u64.wrap (Int.tmod s.now s.cfg.spe)=0 then dl s (jp s).j (jp s).f else s
def tickR(l:List aW)(i:Nat)(s:am):am:=if s.now<=(fk l i).slot then withE s (s.early++[fk l i])else if (dB s (fk l i)).2=0 then castIn s (fk l i)else s
def tickC(s:am)(l:List aW):am:=aL (tickR l) (withE s []) l.length
def dH(s:am):am×Int:=if 1099511627776<=s.now then (d9,3)else (tickC (tickB (tickA s)) (tickB (tickA s)).early,0)
def gi(s:am)(b:Blk):am:=
 if bY (dl (dh s (eP s.nodes b (ck b)).1) b.just b.fin) b.slot<bY (dl (dh s (eP s.nodes b (ck b)).1) b.just b.fin) (dl (dh s (eP s.nodes b (ck b)).1) b.just b.fin).now
 then dl (dl (dh s (eP s.nodes b (ck b)).1) b.just b.fin) b.pul.j b.pul.f else dl (dh s (eP s.nodes b (ck b)).1) b.just b.fin
def waitR(p:am×List Rt):am×List Rt:=
 if bG (withO p.1 (takeO p.1.orph (bR p.1).toNat)) (cF p.1.orph (bR p.1).toNat)=0
 then (gi (withO p.1 (takeO p.1.orph (bR p.1).toNat)) (cF p.1.orph (bR p.1).toNat),p.2++[(cF p.1.orph (bR p.1).toNat).root])
 else (withO p.1 (takeO p.1.orph (bR p.1).toNat),p.2)
def waitG:Nat->am×List Rt->am×List Rt
 |0,p=>p
 |f+1,p=>if bR p.1<0 then p else waitG f (waitR p)
def noT(b:Blk):Blk:=⟨b.pul,b.slot,b.root,b.parent,b.payload,b.diff,b.pdiff,b.just,b.fin,false⟩
def blockI(s:am)(b:Blk):am:=if b.timely=true/\b.slot=s.now/\s.boost=rt0 then withB (gi s b) b.root else gi s b
def cq(s:am)(b:Blk):am×List Rt×Int:=
 if bG s b=10 then (if s.cfg.lim.orph<=s.orph.length then (d9,[],11)else (withO s (s.orph++[noT b]),[],0))
 else if bG s b≠0 then (d9,[],bG s b)
 else ((waitG ((blockI s b).orph.length+1) (blockI s b,[b.root])).1,(waitG ((blockI s b).orph.length+1) (blockI s b,[b.root])).2,0)
def i9(s:am)(a:aW):am×Int:=
 if (dB s a).2≠0 then (d9,(dB s a).2)else if (dB s a).1=false then (castIn s a,0)
 else if s.cfg.lim.early<=s.early.length then (d9,11)else (withE s (s.early++[a]),0)
def iu(s:am)(t:aH):am×Int:=
 if fJ t s.cfg.bals.length≠0 then (d9,fJ t s.cfg.bals.length)else if t.cp.ep<s.j.ep then (d9,13)
 else if (gu s.tabs t s.cfg.bals.length s.cfg.lim.table).2≠0 then (d9,(gu s.tabs t s.cfg.bals.length s.cfg.lim.table).2)
 else (withT s (gu s.tabs t s.cfg.bals.length s.cfg.lim.table).1,0)
theorem qp(s:am):PC Tryz.prog 113 [.agg (aw s.a)] (.int .i64 s.cfg.bals.length):=by
 refine PC.fact 3 xj (by simp) puA puA ?_;unfold nE;refine bd ?_;refine gon ?_;exact af
def rF(t:List Nod)(k:Nat):Pul×Bool:=aL (FG t) (HP,false) k
theorem Tk(t:List Nod)(k:Nat):rF t (k+1)=FG t k (rF t k):=rfl
theorem Vn (s : am) (hb : s.nodes.length <= 1000000) : PC Tryz.prog 299 [.agg (aw s.a)] (.agg (fd (jp s))) := by
 refine PC.fact 7 CC (by simp) puA puA ?_;unfold rh;refine bd ?_;show Tri _ _ _ _ (PQ _ (.agg (fd (rF s.nodes s.nodes.length).1))) _ _
 have hz:rF s.nodes 0=(HP,false):=rfl;refine gon ?_;refine ay (fun i:Nat=>[(4,.bool (rF s.nodes i).2),(5,.int .i64 i)]) (fun i=>[.var (aw s.a),.var (fd HP),.var (fd (rF s.nodes i).1)]) (fun i=>s.nodes.length-i) (fun i=>i<=s.nodes.length) 0 (Nat.zero_le _) ?_ ?_
 ·rw[hz];exact adk [] [0,1,2]
 intro i hi;refine dM ?_;by_cases h1:i<s.nodes.length
 ·have e1 := inT h1
  have hw:=ah h1 (by omega);have hgd:=dy h1;have hs:=Tk s.nodes i;generalize rF s.nodes i=p at *;obtain⟨⟨pj,pf⟩,sm⟩:=p;have hc:FG s.nodes i (⟨pj,pf⟩,sm)=if (nod s.nodes i).status=2 then (⟨pj,pf⟩,sm)else (⟨if sm=false\/pj.ep<(nod s.nodes i).blk.pul.j.ep then (nod s.nodes i).blk.pul.j else pj,if sm=false\/pf.ep<(nod s.nodes i).blk.pul.f.ep then (nod s.nodes i).blk.pul.f else pf⟩,true):=rfl
  by_cases h2:(nod s.nodes i).status=2
  ·have e2:((nod s.nodes i).status==2)=true:=by simp[h2]
   rw[if_pos h2]at hc;refine bg e1 ?_;refine im hgd e2 ?_;refine ap hw ?_;refine⟨i+1,h1,by omega,?_⟩;rw[hs,hc];exact adk [] [0,1,2]
  ·have e2:((nod s.nodes i).status==2)=false:=by simp[h2]
   rw[if_neg h2]at hc;refine bg e1 ?_;refine dD hgd e2 ?_;cases sm with
   | false =>
     rw[if_pos (.inl rfl),if_pos (.inl rfl)]at hc;refine aV ?_;refine aF ?_;refine ap hw ?_;refine⟨i+1,h1,by omega,?_⟩;rw[hs,hc];exact adk [] [0,1,2]
   | true =>
     by_cases q1:pj.ep<(nod s.nodes i).blk.pul.j.ep
     ·have k1:decide ((nod s.nodes i).blk.pul.j.ep > pj.ep)=true:=ak q1
      have k1':decide (pj.ep<(nod s.nodes i).blk.pul.j.ep)=true:=ak q1;rw[if_pos (.inr q1)]at hc;by_cases q2:pf.ep<(nod s.nodes i).blk.pul.f.ep
      ·have k2:decide ((nod s.nodes i).blk.pul.f.ep > pf.ep)=true:=ak q2;have k2':decide (pf.ep<(nod s.nodes i).blk.pul.f.ep)=true:=ak q2;rw[if_pos (.inr q2)]at hc;refine im k1 k1' ?_;refine im k2 k2' ?_;refine ap hw ?_;refine⟨i+1,h1,by omega,?_⟩;rw[hs,hc];exact adk [] [0,1,2]
      ·have k2:decide ((nod s.nodes i).blk.pul.f.ep > pf.ep)=false:=au q2;have k2':decide (pf.ep<(nod s.nodes i).blk.pul.f.ep)=false:=au q2;rw[if_neg (by simp[q2])]at hc;refine im k1 k1' ?_;refine dD k2 k2' ?_;refine ap hw ?_;refine⟨i+1,h1,by omega,?_⟩;rw[hs,hc];exact adk [] [0,1,2]
     ·have k1:decide ((nod s.nodes i).blk.pul.j.ep > pj.ep)=false:=au q1
      have k1':decide (pj.ep<(nod s.nodes i).blk.pul.j.ep)=false:=au q1;rw[if_neg (by simp[q1])]at hc;by_cases q2:pf.ep<(nod s.nodes i).blk.pul.f.ep
      ·have k2:decide ((nod s.nodes i).blk.pul.f.ep > pf.ep)=true:=ak q2;have k2':decide (pf.ep<(nod s.nodes i).blk.pul.f.ep)=true:=ak q2;rw[if_pos (.inr q2)]at hc;refine dD k1 k1' ?_;refine im k2 k2' ?_;refine ap hw ?_;refine⟨i+1,h1,by omega,?_⟩;rw[hs,hc];exact adk [] [0,1,2]
      ·have k2:decide ((nod s.nodes i).blk.pul.f.ep > pf.ep)=false:=au q2;have k2':decide (pf.ep<(nod s.nodes i).blk.pul.f.ep)=false:=au q2;rw[if_neg (by simp[q2])]at hc;refine dD k1 k1' ?_;refine dD k2 k2' ?_;refine ap hw ?_;refine⟨i+1,h1,by omega,?_⟩;rw[hs,hc];exact adk [] [0,1,2]
 ·obtain rfl:i=s.nodes.length:=by omega
  have e1:=inF (s.nodes.length);refine aD e1 ?_;exact af
theorem Q8(s:am)(r:Rt)(h:StR s):PC Tryz.prog 363 [.agg (aw s.a),.agg (rtc r)] (.bool (iW s r)):=by
 refine PC.fact 6 Hl (by simp) puA puA ?_;unfold vw;refine bd ?_;have c1:=cm s.nodes r h.bn;have hb:=h.bo;unfold iW;refine gon ?_;generalize hR:((cE (fun i=>decide ((cF s.orph i).root=r)) s.orph.length).isSome || decide (0<=aj s.nodes r))=R;refine ay (fun i:Nat=>[(5,.int .i64 i)]) (fun _=>[.var (aw s.a),.var (rtc r)]) (fun i=>s.orph.length-i) (fun i=>i<=s.orph.length/\R=((fw (fun i=>decide ((cF s.orph i).root=r)) (s.orph.length-i) i).isSome || decide (0<=aj s.nodes r))) 0 ⟨Nat.zero_le _,hR.symm⟩ ?_ ?_
 ·exact adk [] [0,1]
 clear hR;rintro i ⟨hi,hn⟩;rw[hn];refine dM ?_;by_cases h1:i<s.orph.length
 ·have e1:=inT h1
  have hw:=ah h1 (by omega);have hgd:(rows aA s.orph).getD i []=aA (cF s.orph i):=aM (f:=aA) dO h1;refine bg e1 ?_;refine ap hgd ?_;refine bw (fun h=>?_) (fun h=>?_)
  ·rw[f9 h1 h];refine gon ?_;exact af
  ·rw[fW h1 h];refine ap hw ?_;refine⟨i+1,⟨h1,rfl⟩,by omega,?_⟩;exact adk [] [0,1]
 ·obtain rfl:i=s.orph.length:=by omega
  have e1:=inF (s.orph.length);rw[gQ];refine aD e1 ?_;refine acT c1 ?_;exact af
end Go.Proofs.YtnjdpnfglgcjcaaGreat
namespace Go.FH
open Go Go.RowKit
theorem oR{t:List Nod}{i:Int}:isN t i=true↔0<=i/\i<t.length:=by simp[isN]
theorem E9{t:List Nod}{i:Int}:isN t i=false↔¬ (0<=i/\i<t.length):=by rw[<-oR];simp
theorem xU{t:List Nod}{i:Int}(slot:Int)(h:isN t i=false):atT t i slot=-1:=by unfold atT;rw[lq h];rfl
theorem OR{t:List Nod}(ht:dc t){i:Nat}(hi:i<t.length):bW t i=bW t (nod t i).up++[(i:Int)]:=by
 rcases Nat.eq_zero_or_pos i with h|h
 ·subst h;have:=ht.root;rw[lq (i:=(nod t 0).up) (by rw[E9];omega)];exact iI hi
 ·exact iJ ht.ok h hi
theorem P3{t:List Nod}(ht:dc t){i:Nat}(hi:i<t.length)(slot:Int):atT t i slot=if (nod t i).blk.slot<=slot then (i:Int)else atT t (nod t i).up slot:=by
 unfold atT;rw[OR ht hi];generalize bW t (nod t i).up=p;have hg:(p++[(i:Int)]).getD p.length 0=i:=by rw[kv,if_neg (Nat.lt_irrefl _),if_pos rfl]
 rw[List.length_append,List.length_singleton,bH];simp only[hg,Int.toNat_natCast];split
 ·rfl
 ·refine qU fun k x hk=>?_
  rw[kv,if_pos hk]
theorem KA{t:List Nod}(ht:dc t){a b:Int}(h:isN t a=false\/isN t b=false):dv t a b=false:=by
 unfold dv;rw[decide_eq_false_iff_not];intro hm;rcases h with h|h
 ·have:=fD ht.ok hm;rw[E9]at h;omega
 ·rw[lq h]at hm;cases hm
theorem Nu{t:List Nod}(ht:dc t){a:Int}{b:Nat}(hb:b<t.length)(hab:a≠b):dv t a b=dv t a (nod t b).up:=by
 unfold dv;rw[OR ht hb];simp[hab]
theorem WN{t:List Nod}(ht:dc t){a:Int}{b:Nat}(hb:b<t.length)(hab:(b:Int)<=a):dv t a b=decide (a=b):=by
 by_cases h:a=b
 ·rw[ak h,h];exact m0 ht hb
 ·rw[au h];unfold dv;rw[decide_eq_false_iff_not];intro hm;have:=fD ht.ok hm;omega
theorem Tl{t:List Nod}(ht:dc t)(i0:Int):∀k,k<=t.length->∀m:Nat,m<k->dv t i0 m=false->(aL (cX t i0) ([],[]) k).2.getD m 0=-1
 |0,_,m,hm,_=>by omega
 | k + 1, hk, m, hm, ha => by
   have ih:=Tl ht i0 k (by omega);have hl:=(RJ ht i0 k (by omega)).len;rw[bH];generalize aL (cX t i0) ([],[]) k=p at *;unfold cX;by_cases hmk:m<k
   ·split
    ·rw[kv,if_pos (by omega)];exact ih m hmk ha
    ·rw[kv,if_pos (by omega)];exact ih m hmk ha
   ·obtain rfl:m=k:=by omega
    rw[if_neg (by rw[ha];simp)];rw[kv,if_neg (by omega),if_pos (by omega)]
def upP(t:List Nod)(i0:Int)(k:Nat)(ix:List Int):Int:=if (k:Int)≠i0/\0<=(nod t k).up then ix.getD (nod t k).up.toNat 0 else -1
theorem abY{t:List Nod}(ht:dc t)(i0:Int){k:Nat}(hk:k<t.length):dv t i0 k=decide ((k:Int)=i0\/0<=upP t i0 k (aL (cX t i0) ([],[]) k).2)/\
 (dv t i0 k=true->upP t i0 k (aL (cX t i0) ([],[]) k).2=if (k:Int)=i0 then -1 else (aL (cX t i0) ([],[]) k).2.getD (nod t k).up.toNat 0):=by
 have h1:=RJ ht i0 k (by omega);have h2:=Tl ht i0 k (by omega);generalize aL (cX t i0) ([],[]) k=p at *;unfold upP;by_cases hki:(k:Int)=i0
 ·have hs:=m0 ht hk;rw[hki]at hs;simp[hki,hs]
 ·rw [Nu ht hk (fun h => hki h.symm)]
  by_cases hu:0<=(nod t k).up
  ·have hlt:(nod t k).up<k:=by
    rcases Nat.eq_zero_or_pos k with h|h
    ·subst h;have:=ht.root;omega
    ·exact(ht.ok k h hk).2
   have hc:((nod t k).up.toNat:Int)=(nod t k).up:=Int.toNat_of_nonneg hu;have hn:=h2 (nod t k).up.toNat (by omega);have hy:=h1.kept (nod t k).up.toNat (by omega);rw[hc]at hn hy;have hy1:=fun h=>(hy h).1
   clear hy;generalize p.2.getD (nod t k).up.toNat 0=q at *;cases ha:dv t i0 (nod t k).up with
   |true=>have:=hy1 ha;simp[hki,hu,this]
   |false=>have:=hn ha;simp[hki,hu,this]
  ·rw[KA ht (.inr (by rw[E9];omega))];simp[hki,hu]
end Go.FH
namespace Go.FH
open Go Go.RowKit
def mrt(l:List Rt):List (List AV):=l.map fun r=>[.agg (rtc r),.bool true]
theorem Rn(l:List Rt):(mrt l).length=l.length:=by simp[mrt]
theorem OA(r:Rt):pp (some 32) (.agg (rtc r))=true:=by
 simp only[pp];exact N8 r
theorem Fv(r:Rt):∀l:List Rt,qj (some 32) (.agg (rtc r)) (mrt l)=some (l.findIdx? fun x=>decide (r=x))
 | []=>rfl
 | a :: m => by
   have ih:=Fv r m;simp only[mrt,List.map_cons,qj,OA,if_true,keq,lx]at ih ⊢;rw[ih,List.findIdx?_cons];by_cases h:r=a
   ·simp[h]
   ·simp[h]
theorem AA{r:Rt}{l:List Rt}(h:r∉l):qj (some 32) (.agg (rtc r)) (mrt l)=some none:=by
 rw[Fv,List.findIdx?_eq_none_iff.2 fun x hx=>by simp;rintro rfl;exact h hx]
theorem uk{r:Rt}{l:List Rt}(h:r∈l):∃j,qj (some 32) (.agg (rtc r)) (mrt l)=some (some j)/\((mrt l).getD j []).getD 1 .dead=.bool true/\(mrt l).set j [.agg (rtc r),.bool true]=mrt l:=by
 rw[Fv];cases hf:l.findIdx? fun x=>decide (r=x)with
 | none =>
   rw[List.findIdx?_eq_none_iff]at hf;have:=hf r h;simp at this
 | some j =>
   obtain⟨hj,h1,_⟩:=List.findIdx?_eq_some_iff_getElem.1 hf;have h1:r=l[j]:=by simpa using h1
   refine⟨j,rfl,?_,?_⟩
   ·simp[mrt,List.getD_eq_getElem?_getD,hj]
   ·apply List.ext_getElem
    ·simp
    ·intro i h2 h3;rw[List.getElem_set];split
     ·rename_i h4;subst h4;simp[mrt,<-h1]
     ·rfl
theorem XY(l:List Rt)(r:Rt):mrt l++[[.agg (rtc r),.bool true]]=mrt (l++[r]):=by simp[mrt]
theorem Nk(l:List Rt):fG (mrt l):=by
 rw[pC];intro x hx;obtain⟨p,_,rfl⟩:=List.mem_map.1 hx;exact⟨dS p,trivial,trivial⟩
theorem VD(ρ:Nat->Nat)(l:List Rt):dF ρ (mrt l)=mrt l:=(Nk l).ren ρ
theorem Xw(σ:St)(zs:List Nat)(l:List Rt):gX σ zs (mrt l)=mrt l:=(Nk l).fz σ zs
attribute [go_sem] Rn OA VD Xw XY
def frE(f:Nat->Int):Nat->Nat->Int
 |0,_=>0
 |k+1,i=>if f i≠0 then f i else frE f k (i+1)
theorem vV{f:Nat->Int}{n i:Nat}(hi:i<n)(h:f i≠0):frE f (n-i) i=f i:=by
 obtain⟨k,hk⟩:∃k,n-i=k+1:=⟨n-i-1,by omega⟩
 rw[hk,frE,if_pos h]
theorem vU{f:Nat->Int}{n i:Nat}(hi:i<n)(h:f i=0):frE f (n-i) i=frE f (n-(i+1)) (i+1):=by
 obtain⟨k,hk⟩:∃k,n-i=k+1:=⟨n-i-1,by omega⟩
 rw[hk,frE,if_neg (by simp[h]),show n-(i+1)=k by omega]
theorem vT(f:Nat->Int)(n:Nat):frE f (n-n) n=0:=by rw[Nat.sub_self];rfl
theorem vS{f:Nat->Int}:∀ {k i:Nat},frE f k i=0↔∀j,i<=j->j<i+k->f j=0
 |0,i=>by simp[frE];intro j h1 h2;omega
 | k + 1, i => by
   rw[frE];by_cases h:f i=0
   ·rw[if_neg (by simp[h]),vS]
    constructor
    ·intro h2 j h3 h4;by_cases hj:j=i
     ·rw[hj,h]
     ·exact h2 j (by omega) (by omega)
    ·exact fun h2 j h3 h4=>h2 j (by omega) (by omega)
   ·rw[if_pos h];exact⟨fun h2=>absurd h2 h,fun h2=>h2 i (Nat.le_refl _) (by omega)⟩
def xN(t:List Nod)(i:Nat):Int:=
 if ¬ (0<=(nod t i).status/\(nod t i).status<=2)then 2 else if i=0/\(nod t i).up≠-1 then 2 else if 0<i/\((nod t i).up<0\/(i:Int)<=(nod t i).up)then 2
 else if (nod t i).blk.root∈(t.take i).map (·.blk.root)then 9 else if i=0 then 0
 else if (nod t i).blk.parent≠(nod t (nod t i).up.toNat).blk.root then 10 else if (nod t i).blk.slot<=(nod t (nod t i).up.toNat).blk.slot then 14 else 0
def mG(t:List Nod):Int:=if t.length=0\/4096<t.length then 11 else frE (xN t) (t.length-0) 0
def C9(t:List Nod)(i:Nat):Int:=
 if ((nod t (i+1)).status=1/\(nod t (nod t (i+1)).up.toNat).status≠1)\/((nod t (nod t (i+1)).up.toNat).status=2/\(nod t (i+1)).status≠2)then 15 else 0
def statV(t:List Nod):Int:=if mG t≠0 then mG t else frE (C9 t) (t.length-1-0) 0
theorem zy{t:List Nod}(h:mG t=0):dc t/\t.length<=4096:=by
 unfold mG at h;split at h
 ·cases h
 rename_i h1;have h2:=vS.1 h
 have key:∀i,i<t.length->¬ (i=0/\(nod t i).up≠-1)/\¬ (0<i/\((nod t i).up<0\/(i:Int)<=(nod t i).up)):=fun i hi=>by
  have:=h2 i (Nat.zero_le _) (by omega);unfold xN at this;split at this
  ·cases this
  ·split at this
   ·cases this
   ·split at this
    ·cases this
    ·rename_i h3 h4;exact⟨h3,h4⟩
 refine⟨⟨fun i h0 hi=>?_,by omega,?_⟩,by omega⟩
 ·have:=(key i hi).2;omega
 ·have:=(key 0 (by omega)).1;omega
end Go.FH
