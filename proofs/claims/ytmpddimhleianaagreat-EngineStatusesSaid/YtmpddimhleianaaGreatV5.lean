/- Joined. -/
import Derived.Test.YtmpddimhleianaaGreatW3
import Derived.Test.YtmpddimhleianaaGreatV4
import Derived.Test.YtmpddimhleianaaGreatW6
import Derived.Test.YtmpddimhleianaaGreatW9
set_option linter.unusedVariables false
set_option linter.unusedSimpArgs false
set_option maxRecDepth 8000
set_option maxHeartbeats 4000000
namespace Go.FH
open Go Go.RowKit
structure dU(t:List Nod):Prop where
 ok:eQ t
 pos:0<t.length
 root:(nod t 0).up<0
theorem gK{t:List Nod}(e:dU t){i x:Int}(c:x∈ly t i):i<x/\0<=x/\x<t.length/\(nod t x.toNat).up=i:=by
 unfold ly at c;split at c
 ·have:=Yy (f:=fun k l=>if (nod t k).up=i then l++[(k:Int)]else l) (a:=([]:List Int)) (fun k l=>∀x∈l,0<=x/\x<k/\(nod t x.toNat).up=i) WM t.length (fun k l p h x c=>by
   grind) t.length (amb _) x c
  obtain⟨d,n,j⟩:=this;refine⟨?_,d,n,j⟩;obtain⟨u,rfl⟩:∃u:Nat,x=u:=⟨_,(amC d).symm⟩
  simp only[amw]at j;by_cases o:u=0
  ·subst o;have:=e.root;omega
  ·obtain⟨r,q⟩:=e.ok u WL WL;omega
 grind
theorem ML(t:List Nod)(i:Int):(ly t i).length<=t.length:=by
 unfold ly;split
 ·have:=ng (f:=fun k l=>if (nod t k).up=i then l++[(k:Int)]else l) (a:=([]:List Int)) (fun k l=>WO) t.length;grind
 simp
def dg(s:ap)(slot:Int):Int:=IntKind.u64.wrap (Int.tdiv slot s.cfg.spe)
def xS(s:ap)(i:Int):Cp:=if isN s.nodes i=true then (if dg s (nod s.nodes i.toNat).blk.slot<dg s s.now then (nod s.nodes i.toNat).blk.pul.j else (nod s.nodes i.toNat).blk.just)else cp0
def IC(s:ap)(i:Int):Bool:=isN s.nodes i&&decide ((nod s.nodes i.toNat).status≠2)&&(decide (s.j.ep=0) || decide ((xS s i).ep=s.j.ep) || decide (dg s s.now<=(xS s i).ep) || decide (IntKind.u64.wrap (dg s s.now-(xS s i).ep)<=2))
def Fk(s:ap):Nat->Int->Bool
 |0,_=>false
 |f+1,i=>IC s i || (ly s.nodes i).any (Fk s f)
theorem Cs{s:ap}(c:dU s.nodes):∀ (n f g:Nat) (i:Int),(s.nodes.length:Int)-i<n->n<=f->n<=g->Fk s f i=Fk s g i
 | 0, f, g, i, h, _, _ => by
   have e:isN s.nodes i=false:=by simp[isN];omega
   have j:∀f,Fk s f i=false:=fun f=>by
    cases f with
    |zero=>rfl
    |succ f=>simp[Fk,IC,ly,e]
   grind
 | n + 1, f + 1, g + 1, i, h, l, k => by
   simp only[Fk];congr 1;rw[ajZ,alg,alg];constructor
   ·rintro⟨x,b,d⟩;have:=gK c b;exact⟨x,b,by rw[<-Cs c n f g x WL WL WL];omega⟩
   ·rintro⟨x,b,d⟩;have:=gK c b;exact⟨x,b,by rw[Cs c n f g x WL WL WL];omega⟩
def nE(s:ap)(i:Int):Bool:=Fk s (s.nodes.length+2) i
theorem abx{s:ap}(c:dU s.nodes)(i:Int)(f:-1<=i):nE s i=(IC s i || (ly s.nodes i).any (nE s)):=by
 show (IC s i || (ly s.nodes i).any (Fk s (s.nodes.length+1)))=_
 congr 1;rw[ajZ,alg,alg];constructor
 ·rintro⟨x,b,e⟩;have:=gK c b;exact⟨x,b,by unfold nE;rw[<-Cs c (s.nodes.length+1) (s.nodes.length+1) (s.nodes.length+2) x WL WL WL];omega⟩
 ·rintro⟨x,b,e⟩;have:=gK c b;exact⟨x,b,by unfold nE at e;rw[Cs c (s.nodes.length+1) (s.nodes.length+1) (s.nodes.length+2) x WL WL WL];omega⟩
def Ik(s:ap)(i:Nat)(l:List Bool):List Bool:=l++[nE s i]
def Il(s:ap):List Bool:=bg (Ik s) [] s.nodes.length
theorem xG(s:ap):∀n,(bg (Ik s) [] n).length=n
 |0=>rfl
 |n+1=>by rw[cX];unfold Ik;simp;exact xG s n
def TK(s:ap):List Int:=if dJ s.tabs s.j<0 then []else (tab s.tabs (dJ s.tabs s.j).toNat).bals
def nk(s:ap):List Int:=ahl s.nodes (rk s.nodes (Gw s.nodes s.latest s.eqv (TK s)) s.boost (AC s.cfg.spe s.cfg.boost (EI (TK s)).1).1)
def tw(t:List Nod)(w:List Int)(a:List Bool)(l:List Int)(k:Nat)(best:Int):Int:=
 if a.getD (l.getD k 0).toNat false=true/\(best<0\/w.getD best.toNat 0<w.getD (l.getD k 0).toNat 0\/(w.getD (l.getD k 0).toNat 0=w.getD best.toNat 0/\0<uk (nod t (l.getD k 0).toNat).blk.root (nod t best.toNat).blk.root))then l.getD k 0 else best
def oY(t:List Nod)(w:List Int)(a:List Bool)(i:Int):Int:=bg (tw t w a (ly t i)) (-1) (ly t i).length
theorem AG(t:List Nod)(w:List Int)(a:List Bool)(l:List Int):∀n,n<=l.length->bg (tw t w a l) (-1) n=-1\/bg (tw t w a l) (-1) n∈l
 |0,_=>.inl rfl
 | n + 1, h => by
   rw[cX];have:=AG t w a l n WL;generalize bg (tw t w a l) (-1) n=b at *;unfold tw;grind
def Ch(t:List Nod)(w:List Int)(a:List Bool):Nat->Int->Int
 |0,i=>i
 |f+1,i=>if oY t w a i<0 then i else Ch t w a f (oY t w a i)
theorem Rx{t:List Nod}(d:dU t)(w:List Int)(a:List Bool):∀ (f:Nat) (i:Int),i<t.length->i<=Ch t w a f i/\Ch t w a f i<t.length
 |0,i,h=>⟨amr _,h⟩
 | f + 1, i, h => by
   unfold Ch;split
   ·omega
   ·rename_i g
    rcases AG t w a (ly t i) _ (amb _)with c|c
    ·exact absurd (show oY t w a i<0 by unfold oY;omega) g
    ·have e:=gK d c;have k:=Rx d w a f (oY t w a i) e.2.2.1;have j:i<oY t w a i:=e.1;omega
theorem aaC{t:List Nod}(e:dU t)(w:List Int)(a:List Bool)(i:Int):oY t w a i=-1\/(i<oY t w a i/\0<=oY t w a i/\oY t w a i<t.length):=by
 rcases AG t w a (ly t i) _ (amb _)with c|c
 ·exact .inl c
 ·have d:=gK e c;exact .inr ⟨d.1,d.2.1,d.2.2.1⟩
def HY(s:ap):Int:=Ch s.nodes (nk s) (Il s) (s.nodes.length+1) (aj s.nodes s.j.rt)
def da(s:ap)(e:Int):Int×Bool:=((dk e s.cfg.spe).1,decide ((dk e s.cfg.spe).2=0))
def pY(s:ap)(b:Blk):Bool:=decide (b.fin.ep<=b.just.ep)&&decide (b.just.ep<=b.pul.j.ep)&&decide (b.fin.ep<=b.pul.f.ep)&&decide (b.pul.f.ep<=b.pul.j.ep)&&decide (b.pul.j.ep<=dg s b.slot)
def rV(s:ap)(b:Blk)(p:Int)(c:Cp):Bool:=decide (c.ep<=s.f.ep) || (if (da s c.ep).1<b.slot then decide (0<=atT s.nodes p (da s c.ep).1)&&decide ((nod s.nodes (atT s.nodes p (da s c.ep).1).toNat).blk.root=c.rt)else decide (b.root=c.rt))
def cps(b:Blk):List Cp:=[b.just,b.fin,b.pul.j,b.pul.f]
def EG(s:ap)(b:Blk):Bool:=decide (0<=aj s.nodes b.parent)&&(pY s b&&(dW (fun k=>!rV s b (aj s.nodes b.parent) ((cps b).getD k cp0)) 4).isNone)
def jA(s:ap)(i e:Int):Bool:=!(da s e).2 || decide ((nod s.nodes i.toNat).blk.slot<=(da s e).1)
def fh(a b:Cp):Cp:=if a.ep<b.ep then b else a
def wv(s:ap)(a b:Cp):Bool:=
 decide (0<=aj s.nodes a.rt)&&decide (0<=aj s.nodes b.rt)&&decide ((nod s.nodes (aj s.nodes a.rt).toNat).status≠2)&&decide ((nod s.nodes (aj s.nodes b.rt).toNat).status≠2)
 && jA s (aj s.nodes a.rt) a.ep&&jA s (aj s.nodes b.rt) b.ep&&eh s.nodes (aj s.nodes b.rt) (aj s.nodes a.rt)&&decide (b.ep<=a.ep)&&decide (a.ep<=dg s s.now)&&decide (0<=dJ s.tabs a)
def tW(l:List Blk)(a:Int)(i:Nat)(o:List Blk):List Blk:=if a<(l.getD i cw).slot then o++[l.getD i cw]else o
def dK(s:ap)(j f:Cp):ap:=
 if wv s (fh s.j j) (fh s.f f)=false then s
 else if fh s.f f=s.f then ⟨s.cfg,s.latest,s.eqv,fh s.j j,fh s.f f,s.early,s.orph,s.nodes,s.now,s.boost,fX s.tabs (fh s.j j).ep⟩
 else ⟨s.cfg,s.latest,s.eqv,fh s.j j,fh s.f f,s.early,bg (tW s.orph (da s (fh s.f f).ep).1) [] s.orph.length,(eF s.nodes (aj s.nodes (fh s.f f).rt)).1,s.now,
  if aj (eF s.nodes (aj s.nodes (fh s.f f).rt)).1 s.boost<0 then rt0 else s.boost,fX s.tabs (fh s.j j).ep⟩
def yV(t:List Nod)(i:Nat)(p:Pul×Bool):Pul×Bool:=
 if (nod t i).status=2 then p else (⟨if p.2=false\/p.1.j.ep<(nod t i).blk.pul.j.ep then (nod t i).blk.pul.j else p.1.j,if p.2=false\/p.1.f.ep<(nod t i).blk.pul.f.ep then (nod t i).blk.pul.f else p.1.f⟩,true)
def sQ(s:ap):Pul:=(bg (yV s.nodes) (R4,false) s.nodes.length).1
def dn(l:List Blk)(i:Nat):Blk:=l.getD i cw
def nL(s:ap)(r:Rt):Bool:=(dW (fun i=>decide ((dn s.orph i).root=r)) s.orph.length).isSome || decide (0<=aj s.nodes r)
def takeO(l:List Blk)(i:Nat):List Blk:=l.take i++l.drop (i+1)
theorem NI(l:List Blk){i:Nat}(h:i<l.length):(takeO l i).length+1=l.length:=by
 unfold takeO;rw[akC,amA,ajJ];omega
def cY(s:ap):Int:=Cj (dW (fun i=>decide (0<=aj s.nodes (dn s.orph i).parent)) s.orph.length)
theorem i6(s:ap):-1<=cY s/\cY s<s.orph.length:=by
 unfold cY;cases h:dW (fun i=>decide (0<=aj s.nodes (dn s.orph i).parent)) s.orph.length with
 |none=>rw[jP];omega
 |some k=>have:=fZ h;rw[Ck];omega
def dD(s:ap)(t:List Nod):ap:=⟨s.cfg,s.latest,s.eqv,s.j,s.f,s.early,s.orph,t,s.now,s.boost,s.tabs⟩
def withO(s:ap)(l:List Blk):ap:=⟨s.cfg,s.latest,s.eqv,s.j,s.f,s.early,l,s.nodes,s.now,s.boost,s.tabs⟩
def withE(s:ap)(l:List bp):ap:=⟨s.cfg,s.latest,s.eqv,s.j,s.f,l,s.orph,s.nodes,s.now,s.boost,s.tabs⟩
def withB(s:ap)(r:Rt):ap:=⟨s.cfg,s.latest,s.eqv,s.j,s.f,s.early,s.orph,s.nodes,s.now,r,s.tabs⟩
def withL(s:ap)(l:List Vot):ap:=⟨s.cfg,l,s.eqv,s.j,s.f,s.early,s.orph,s.nodes,s.now,s.boost,s.tabs⟩
def Nq(s:ap)(l:List Int):ap:=⟨s.cfg,s.latest,l,s.j,s.f,s.early,s.orph,s.nodes,s.now,s.boost,s.tabs⟩
def withT(s:ap)(l:List aW):ap:=⟨s.cfg,s.latest,s.eqv,s.j,s.f,s.early,s.orph,s.nodes,s.now,s.boost,l⟩
def jX:ap:=⟨⟨adU,0,0,wd0,rt0,[]⟩,[],[],cp0,cp0,[],[],[],0,rt0,[]⟩
theorem eO{t:List Nod}{n:Nod}{i:Nat}:nod (t++[n]) i=if i<t.length then nod t i else if i=t.length then n else gr:=by
 unfold nod;by_cases h:i<t.length
 ·grind
 grind
theorem lH{t:List Nod}{r:Rt}{k:Nat}(d:k<t.length)(h:(nod t k).blk.root=r):0<=aj t r:=by
 unfold aj;cases c:dW (fun i=>decide ((nod t i).blk.root=r)) t.length with
 |none=>have:=iL c k d;grind
 |some i=>rw[Ck];omega
theorem dO{t:List Nod}{r:Rt}(h:0<=aj t r):(aj t r).toNat<t.length/\(nod t (aj t r).toNat).blk.root=r:=by
 unfold aj at *;cases d:dW (fun i=>decide ((nod t i).blk.root=r)) t.length with
 |none=>rw[d,jP]at h;omega
 |some i=>rw[Ck];have:=fZ d;grind
theorem dU.snoc{t:List Nod}(a:dU t){n:Nod}(e:0<=n.up)(d:n.up<t.length):dU (t++[n]):=by
 refine⟨fun i b c=>?_,WM,?_⟩
 ·rw[eO];by_cases h:i<t.length
  ·rw[al7 h];exact a.ok i b h
  grind
 ·rw[eO,al7 a.pos];exact a.root
theorem OX{t:List Nod}{b:Blk}{c:Int}(h:(BV t b c).2=0):(BV t b c).1=t++[⟨b,aj t b.parent,c⟩]/\0<=aj t b.parent:=by
 unfold BV at *;split at h
 ·omega
 grind
theorem dU.ins{t:List Nod}(e:dU t){b:Blk}{a:Int}(h:(BV t b a).2=0):dU (BV t b a).1:=by
 obtain⟨d,c⟩:=OX h;rw[d];have f:=dO c;exact e.snoc (n:=⟨b,aj t b.parent,a⟩) c (show aj t b.parent<t.length by omega)
theorem xz{t:List Nod}(c:dU t){i:Nat}(b:i<t.length):eh t i i=true:=by
 unfold eh;rcases ajQ i with h|h
 ·subst h;rw[show ((0:Nat):Int)=0 from rfl,jv b];simp
 ·rw[jw c.ok h b];simp
theorem Gt{t:List Nod}(d:dU t){a b:Int}(h:eh t a b=true):0<=a/\a<=b/\a<t.length:=by
 unfold eh at h;exact gu d.ok WO
theorem NY{t:List Nod}(e:dU t){a:Int}{k:Nat}(d:k<t.length)(h:eh t a k=true)(f:(k:Int)≠a):0<k/\eh t a (nod t k).up=true:=by
 unfold eh at *;rcases ajQ k with c|c
 ·subst c;rw[show ((0:Nat):Int)=0 from rfl,jv d]at h;grind
 ·rw[jw e.ok c d]at h;grind
structure ahJ(t:List Nod)(i0:Int)(k:Nat)(p:List Nod×List Int):Prop where
 len:p.2.length=k
 kept:∀m:Nat,m<k->eh t i0 m=true->0<=p.2.getD m 0/\p.2.getD m 0<p.1.length/\(nod p.1 (p.2.getD m 0).toNat).blk=(nod t m).blk
 up:∀u:Nat,0<u->u<p.1.length->0<=(nod p.1 u).up/\(nod p.1 u).up<u
 root:0<p.1.length->(nod p.1 0).up<0
 some:0<p.1.length->∃m:Nat,m<k/\eh t i0 m=true
 blks:∀u:Nat,u<p.1.length->∃m:Nat,m<t.length/\(nod p.1 u).blk=(nod t m).blk
 le:p.1.length<=k
theorem Ce{l:List Int}{x:Int}{m:Nat}:(l++[x]).getD m 0=if m<l.length then l.getD m 0 else if m=l.length then x else 0:=by
 grind
theorem ab4{t:List Nod}(ht:dU t)(i0:Int):∀k,k<=t.length->ahJ t i0 k (bg (ei t i0) ([],[]) k)
 |0,_=>⟨rfl,fun m h=>absurd h (aju _),fun u _ h=>absurd h (aju _),fun h=>absurd h (aj3 _),fun h=>absurd h (aj3 _),fun u h=>absurd h (aju _),amb _⟩
 | k + 1, hk => by
   have ih:=ab4 ht i0 k WL;rw[cX];generalize bg (ei t i0) ([],[]) k=p at *;obtain⟨kp,ix⟩:=p;obtain⟨l1,l2,l3,l4,l5,l6,l7⟩:=ih;dsimp only at l1 l2 l3 l4 l5 l6 l7;unfold ei;by_cases ha:eh t i0 k=true
   ·rw [al7 ha]
    dsimp only
    have hup:0<kp.length->(k:Int)≠i0:=by
     intro h he;obtain⟨m,h1,h2⟩:=l5 h;have:=Gt ht h2;omega
    have hu:(k:Int)≠i0->0<=ix.getD (nod t k).up.toNat 0/\ix.getD (nod t k).up.toNat 0<kp.length:=by
     intro h;obtain⟨h0,h1⟩:=NY ht WL ha h;obtain⟨h2,h3⟩:=ht.ok k h0 WL;have:=l2 (nod t k).up.toNat WL (by rw[amC h2];omega);omega
    refine⟨WO,fun m hm hm2=>?_,fun u h0 h1=>?_,fun h=>?_,fun _=>⟨k,WL,ha⟩,fun u h=>?_,WO⟩
    ·rw[Ce]
     by_cases hmk:m<k
     ·rw[al7 WL];obtain⟨a1,a2,a3⟩:=l2 m hmk hm2;refine⟨a1,by simp only[akC,al8,ama];omega,?_⟩;rw[eO,al7 WL];exact a3
     ·obtain rfl:m=k:=WL
      rw[al5 WL,al7 WL];refine⟨WL,by simp only[akC,al8,ama];omega,?_⟩;rw[eO,al5 WM,al7 WM]
    ·rw[eO]
     by_cases hu2:u<kp.length
     ·rw[al7 hu2];exact l3 u h0 hu2
     ·simp at h1;obtain rfl:u=kp.length:=WL
      rw[al5 hu2,al7 rfl];dsimp only;have hne:=hup h0;rw[al5 hne];exact hu hne
    ·rw[eO]
     by_cases hz:0<kp.length
     ·rw[al7 hz];exact l4 hz
     ·rw[al5 hz,al7 WL];dsimp only;by_cases hne:(k:Int)=i0
      ·rw[al7 hne];omega
      ·have:=hu hne;omega
    ·rw[eO]
     by_cases hu2:u<kp.length
     ·rw[al7 hu2];exact l6 u hu2
     ·simp at h;rw[al5 hu2,al7 WL];exact⟨k,WL,rfl⟩
   ·rw [al5 ha]
    dsimp only;refine⟨by simp[l1],fun m hm hm2=>?_,l3,l4,fun h=>?_,l6,show kp.length<=k+1 by omega⟩
    ·by_cases hmk:m<k
     ·rw[Ce,al7 WL];exact l2 m hmk hm2
     ·obtain rfl:m=k:=WL
      exact absurd hm2 ha
    ·obtain⟨m,h1,h2⟩:=l5 h;exact⟨m,WL,h2⟩
theorem dU.prune{t:List Nod}(b:dU t){i0:Int}(c:0<=i0)(d:i0<t.length):dU (eF t i0).1:=by
 have h:=ab4 b i0 t.length (amb _);have e:=h.kept i0.toNat WL (by have:=xz b (i:=i0.toNat) WL;grind);exact⟨h.up,by show 0<(bg (ei t i0) ([],[]) t.length).1.length;omega,h.root WL⟩
theorem xd{t:List Nod}(f:dU t){i0:Int}{r:Rt}(h:0<=aj t r)(n:eh t i0 (aj t r)=true):0<=aj (eF t i0).1 r:=by
 have i:=ab4 f i0 t.length (amb _);obtain⟨g,j⟩:=dO h;obtain⟨m,o,l⟩:=i.kept (aj t r).toNat g WO;exact lH (k:=((bg (ei t i0) ([],[]) t.length).2.getD (aj t r).toNat 0).toNat) (by show _<(bg (ei t i0) ([],[]) t.length).1.length;omega) (by show (nod (bg (ei t i0) ([],[]) t.length).1 _).blk.root=r;grind)
theorem UP{t:List Nod}(ht:dU t)(i0:Int):∀u:Nat,u<(eF t i0).1.length->∃m:Nat,m<t.length/\(nod (eF t i0).1 u).blk=(nod t m).blk:=(ab4 ht i0 t.length (amb _)).blks
theorem tf{t:List Nod}(ht:dU t)(i0:Int):(eF t i0).1.length<=t.length:=(ab4 ht i0 t.length (amb _)).le
end Go.FH
namespace Go.FH
open Go Go.RowKit
theorem dR{t:List Nod}{i:Int}:isN t i=true↔0<=i/\i<t.length:=by simp[isN]
theorem uV{t:List Nod}{i:Int}:isN t i=false↔¬ (0<=i/\i<t.length):=by rw[<-dR];simp
theorem pp{t:List Nod}{i:Int}(b:Int)(h:isN t i=false):atT t i b=-1:=by unfold atT;rw[te h];rfl
theorem D6{t:List Nod}(b:dU t){i:Nat}(c:i<t.length):AI t i=AI t (nod t i).up++[(i:Int)]:=by
 rcases ajQ i with h|h
 ·subst h;have:=b.root;rw[te (i:=(nod t 0).up) (by rw[uV];omega)];exact jv c
 ·exact jw b.ok h c
theorem TQ{t:List Nod}(e:dU t){i:Nat}(h:i<t.length)(a:Int):atT t i a=if (nod t i).blk.slot<=a then (i:Int)else atT t (nod t i).up a:=by
 unfold atT;rw[D6 e h];generalize AI t (nod t i).up=p;have f:(p++[(i:Int)]).getD p.length 0=i:=WM
 rw[akC,ajr,cX];simp only[f,amw];split
 ·rfl
 ·refine iC fun k x j=>?_
  grind
theorem po{t:List Nod}(e:dU t){a b:Int}(h:isN t a=false\/isN t b=false):eh t a b=false:=by
 unfold eh;rw[ami];intro d;rcases h with h|h
 ·have:=gu e.ok d;rw[uV]at h;omega
 ·rw[te h]at d;grind
theorem CJ{t:List Nod}(e:dU t){a:Int}{b:Nat}(d:b<t.length)(f:a≠b):eh t a b=eh t a (nod t b).up:=by
 unfold eh;rw[D6 e d];grind
theorem Pd{t:List Nod}(d:dU t){a:Int}{b:Nat}(f:b<t.length)(g:(b:Int)<=a):eh t a b=decide (a=b):=by
 by_cases h:a=b
 ·rw[au h,h];exact xz d f
 ·rw[aA h];unfold eh;rw[ami];intro e;have:=gu d.ok e;omega
theorem KR{t:List Nod}(b:dU t)(i0:Int):∀k,k<=t.length->∀m:Nat,m<k->eh t i0 m=false->(bg (ei t i0) ([],[]) k).2.getD m 0=-1
 |0,_,m,f,_=>by omega
 | k + 1, g, m, f, j => by
   have h:=KR b i0 k WL;have i:=(ab4 b i0 k WL).len;rw[cX];generalize bg (ei t i0) ([],[]) k=p at *;unfold ei;by_cases d:m<k
   ·grind
   grind
def upP(t:List Nod)(i0:Int)(k:Nat)(ix:List Int):Int:=if (k:Int)≠i0/\0<=(nod t k).up then ix.getD (nod t k).up.toNat 0 else -1
theorem S0{t:List Nod}(a:dU t)(i0:Int){k:Nat}(c:k<t.length):eh t i0 k=decide ((k:Int)=i0\/0<=upP t i0 k (bg (ei t i0) ([],[]) k).2)/\
 (eh t i0 k=true->upP t i0 k (bg (ei t i0) ([],[]) k).2=if (k:Int)=i0 then -1 else (bg (ei t i0) ([],[]) k).2.getD (nod t k).up.toNat 0):=by
 have j:=ab4 a i0 k WL;have l:=KR a i0 k WL;unfold upP;by_cases d:(k:Int)=i0
 ·have n:=xz a c;grind
 ·rw [CJ a c (fun h => d h.symm)]
  by_cases m:0<=(nod t k).up
  ·have i:(nod t k).up<k:=by
    rcases ajQ k with h|h
    ·subst h;have:=a.root;omega
    ·exact(a.ok k h c).2
   have o:=j.kept (nod t k).up.toNat WL;grind
  ·rw[po a (.inr (by rw[uV];omega))];grind
end Go.FH
namespace Go.Proofs.YtmpddimhleianaaGreat
open Go Go.FH Go.RowKit
theorem fT(s:ap)(n:Int)(h0:s.cfg.spe≠0):PC Tryz.prog 71 [.agg (aE s.a),.int .u64 n] (.int .u64 (dg s n)):=by
 refine ae 5 ?_;unfold dg;exact aw
theorem RB(s:ap)(n:Int):PC Tryz.prog 350 [.agg (aE s.a),.int .i64 n] (.bool (isN s.nodes n)):=by
 refine ae 5 ?_;unfold isN;exact aw
theorem SU(s:ap)(n:Int)(h0:s.cfg.spe≠0):PC Tryz.prog 351 [.agg (aE s.a),.int .i64 n] (.agg (cpC (xS s n))):=by
 refine ae 6 ?_;have c1:=RB s n;have c3:=fT s s.now h0;unfold xS;cases hj:isN s.nodes n with
 | false =>
   rw[hj]at c1;exact aw
 | true =>
   rw[hj]at c1;have h2:=hj;simp[isN]at h2;obtain⟨k,rfl⟩:=ajO h2.1;have hgd:=dy (t:=s.nodes) (i:=k) WL;rw[amw];have c2:=fT s (nod s.nodes k).blk.slot h0;clear hj;exact aw
theorem Y0(s:ap)(n:Int)(h0:s.cfg.spe≠0):PC Tryz.prog 311 [.agg (aE s.a),.int .i64 n] (.bool (IC s n)):=by
 refine ae 6 ?_;have c1:=RB s n;have c2:=SU s n h0;have c3:=fT s s.now h0;unfold IC;cases hj:isN s.nodes n with
 | false =>
   rw[hj]at c1;exact aw
 | true =>
   rw[hj]at c1;have h2:=hj;simp[isN]at h2;obtain⟨k,rfl⟩:=ajO h2.1;have hgd:=dy (t:=s.nodes) (i:=k) WL;rw[amw];generalize xS s k=S at *;generalize dg s s.now=E at *;clear hj;exact aw
theorem aat{α:Type}(p:α->Bool)(d:α)(l:List α){i:Nat}(h:i<l.length):(l.drop i).any p=(p (l.getD i d) || (l.drop (i+1)).any p):=by
 rw[amG h,List.any_cons,alt,al6 h];rfl
theorem MO(s:ap)(i0:Int)(ih:∀x∈ly s.nodes i0,PC Tryz.prog 225 [.agg (aE s.a),.int .i64 x] (.bool (nE s x)))(h0:s.cfg.spe≠0)(ht:dU s.nodes)(hb:s.nodes.length<=2097152)(hi0:0<=i0):PC Tryz.prog 225 [.agg (aE s.a),.int .i64 i0] (.bool (nE s i0)):=by
 refine ae 7 ?_;have c1:=Y0 s i0 h0;have c2:=MM s.nodes i0 hb;have hl:=ML s.nodes i0;rw[abx ht i0 WL];generalize ly s.nodes i0=l at *;generalize nE s=L at *;generalize IC s i0=q at *;cases q with
 |true=>exact aw
 | false =>
   rw[aj9];generalize hR:l.any L=R;refine nx fun _=>?_
   refine FO l.length (fun i=>R=(l.drop i).any L) (fun i=>[(6,.int .i64 i)]) (fun _=>[.var (aE s.a)]) hR.symm (fun i h1 hn hw h2=>?_) (fun hn h=>?_)
   ·have hgp:=gdn (k:=.i64) h1
    have c3:=ih (l.getD i 0) (by rw[alt,al6 h1];exact amS h1);rw[aat L 0 l h1]at hn;clear hR ih;generalize L (l.getD i 0)=b at *;cases b with
    | true =>
      rw[alp]at hn;subst hn;exact aw
    | false =>
      rw[aj9]at hn;exact aw
   ·rw[amB]at hn;subst hn;clear ih;exact aw
theorem MP(s:ap)(h0:s.cfg.spe≠0)(ht:dU s.nodes)(hb:s.nodes.length<=2097152):∀ (n:Nat) (i:Int),0<=i->(s.nodes.length:Int)-i<n->PC Tryz.prog 225 [.agg (aE s.a),.int .i64 i] (.bool (nE s i))
 | 0, i, _, hn => by
   exact MO s i (fun x hx=>by have:=gK ht hx;omega) h0 ht hb WL
 | n + 1, i, hi, hn => by
   exact MO s i (fun x hx=>MP s h0 ht hb n x (by have:=gK ht hx;omega) (by have:=gK ht hx;omega)) h0 ht hb hi
structure StR(s:ap):Prop where
 tree:dU s.nodes
 spe:s.cfg.spe≠0
 bn:s.nodes.length<=2097152
 bl:s.latest.length<=2097152
 be:s.eqv.length<=2097152
 bt:s.tabs.length<=2097152
 bb:∀t∈s.tabs,t.bals.length<=2097152
 bo:s.orph.length<=2097152
 ba:s.early.length<=2097152
 nl:s.cfg.lim.node<=4096
 ll:s.latest.length=s.cfg.bals.length
 jf:0<=aj s.nodes s.j.rt
theorem HN(l:List aW)(c:Cp):-1<=dJ l c/\dJ l c<l.length:=by
 unfold dJ;cases h:dW (fun i=>decide ((tab l i).cp=c)) l.length with
 |none=>simp[Cj];omega
 |some k=>have:=fZ h;simp[Cj];omega
theorem aay{s:ap}(h:StR s):(TK s).length<=2097152:=by
 unfold TK;split
 ·simp
 ·rename_i h1;have h2:=HN s.tabs s.j;refine h.bb _ ?_;unfold tab;rw[alt,al6 (show (dJ s.tabs s.j).toNat<s.tabs.length by omega)];exact amS _
theorem UF(s:ap)(h:StR s):PC Tryz.prog 127 [.agg (aE s.a)] (.sl 1 false (rows mj (Il s))):=by
 refine ae 5 ?_;unfold Il;have hb:=h.bn;refine gon ?_;refine jx 3 1 ?_;simp only[go_sem];refine BA s.nodes.length (fun i=>[(4,.int .i64 i),(3,.hs 1 1 0 i)]) (fun i=>[.var (aE s.a),.vec 1 (rows mj (bg (Ik s) [] i))]) (fun i h1 hw h2=>?_) (fun _=>?_)
 ·have c1:=MP s h.spe h.tree h.bn (s.nodes.length+1) i WL WL;have hs:=cX (Ik s) [] i;change _=_++[nE s i]at hs
  have hl:=xG s i;generalize bg (Ik s) [] i=acc at *;have hr:rows mj acc++[[AV.bool (nE s i)]]=rows mj (acc++[nE s i]):=cR mj acc _;have ht:List.take i (rows mj acc)=rows mj acc:=amf (by simp[hl]);exact aw
 ·have hl:=xG s s.nodes.length;generalize bg (Ik s) [] s.nodes.length=acc at *;have ht:List.take s.nodes.length (rows mj acc)=rows mj acc:=amf (by simp[hl]);exact aw
theorem aaz(s:ap)(h:StR s):PC Tryz.prog 75 [.agg (aE s.a)] (.sl 1 false (aH .u64 (TK s))):=by
 refine ae 4 ?_;have c1:=ow s.tabs s.j h.bt;have h2:=HN s.tabs s.j;unfold TK;generalize dJ s.tabs s.j=F at *;by_cases h1:F<0
 ·exact aw
 ·obtain⟨k,rfl⟩:=ajO (alY.1 h1);have hgd:(rows aW.c s.tabs).getD k []=ar (tab s.tabs k).a:=aS (f:=aW.c) default WL;rw[al5 h1,amw];exact aw
theorem P9(s:ap)(h:StR s):PC Tryz.prog 36 [.agg (aE s.a)] (.sl 1 false (aH .u64 (nk s))):=by
 refine ae 9 ?_;have c1:=aaz s h;have hl:=aay h;unfold nk;generalize TK s=B at *;have c2:=NG B false hl;generalize EI B=S at *;obtain⟨S1,S2⟩:=S;have c3:=QA s.cfg S1;have c4:=QT s.nodes s.latest s.eqv B h.bn h.bl h.be hl;have hd:(Gw s.nodes s.latest s.eqv B).length=s.nodes.length:=Gv s.nodes s.latest s.eqv B s.nodes.length;generalize Gw s.nodes s.latest s.eqv B=D at *;dsimp only at c2 ⊢;generalize AC s.cfg.spe s.cfg.boost S1=M at *;have c5:=N8 s.nodes D s.boost M.1 h.bn hd;have hd2:(rk s.nodes D s.boost M.1).length=s.nodes.length:=by unfold rk;split<;>simp[hd]
 generalize rk s.nodes D s.boost M.1=D2 at *;have c6:=PZ s.nodes h.tree.ok D2 h.bn hd2;exact aw
theorem gdb{l:List Bool}{i:Nat}(h:i<l.length):(rows mj l).getD i []=[.bool (l.getD i false)]:=aS (f:=mj) false h
theorem XG(t:List Nod)(ht:dU t)(hb:t.length<=2097152)(w:List Int)(hwl:w.length=t.length)(a:List Bool)(ha:a.length=t.length)(i0:Int):
 PC Tryz.prog 128 [.agg [nA t],.sl 1 false (aH .u64 w),.sl 1 false (rows mj a),.int .i64 i0] (.int .i64 (oY t w a i0)):=by
 refine ae 13 ?_;have c1:=MM t i0 hb;have hl:=ML t i0;have hm:∀x∈ly t i0,0<=x/\x<t.length:=fun x hx=>by have:=gK ht hx;omega
 unfold oY;generalize ly t i0=l at *;refine nx fun _=>?_
 refine BA l.length (fun i=>[(11,.int .i64 i),(9,.int .i64 (bg (tw t w a l) (-1) i))]) (fun _=>[.var [nA t]]) (fun i h1 hw h2=>?_) (fun _=>?_)
 ·have hgp:=gdn (k:=.i64) h1
  obtain⟨c,hc⟩:=ajO (hm (l.getD i 0) (by rw[alt,al6 h1];exact amS h1)).1;have hcl:=(hm (l.getD i 0) (by rw[alt,al6 h1];exact amS h1)).2;have hs:=cX (tw t w a l) (-1) i;have hbd:=(AG t w a l i WL).imp id (fun h=>hm _ h);generalize bg (tw t w a l) (-1) i=B at *;change _=ite _ _ _ at hs
  rw[hc]at hs hgp hcl;simp only[amw]at hs;have hga:=gdb (l:=a) (i:=c) WL;have hgw:=gdn (k:=.u64) (ns:=w) (i:=c) WL;have hgd:=dy (t:=t) (i:=c) WL;clear hm hc;by_cases h3:B<0
  ·clear hbd;cases hq:a.getD c false<;>simp only[hq,h3,ame,al3,alh,WJ,amt,amj]at hs<;>exact aw
  ·obtain⟨k,rfl⟩:=ajO (alY.1 h3);rw[amw]at hs;have hgB:=gdn (k:=.u64) (ns:=w) (i:=k) WL;have hgE:=dy (t:=t) (i:=k) WL;have c2:=Ms (nod t c).blk.root (nod t k).blk.root;have hkl:k<t.length:=WL
   have hkl2:(k:Int)<t.length:=WL
   clear hbd;cases hq:a.getD c false<;>by_cases h4:w.getD k 0<w.getD c 0<;>by_cases h5:w.getD c 0=w.getD k 0<;>by_cases h6:0<uk (nod t c).blk.root (nod t k).blk.root<;>simp only[hq,h3,h4,h5,h6,ame,al3,alh,alq,al4,or_true,WJ,al0,am6,amt,amj]at hs<;>exact aw
 ·clear hm;exact aw
theorem P8(s:ap):(nk s).length=s.nodes.length:=GF s.nodes _ s.nodes.length
theorem Yu(s:ap)(h:StR s):PC Tryz.prog 61 [.agg (aE s.a)] (.int .i64 (HY s)):=by
 refine ae 7 ?_;have c1:=P9 s h;have c2:=UF s h;have c3:=cC s.nodes s.j.rt h.bn;have c4:=XG s.nodes h.tree h.bn (nk s) (P8 s) (Il s) (xG s s.nodes.length);have hbd:=aaC h.tree (nk s) (Il s);have hF:=fM s.nodes s.j.rt;unfold HY;generalize nk s=W at *;generalize Il s=L at *;generalize aj s.nodes s.j.rt=F at *;generalize hR:Ch s.nodes W L (s.nodes.length+1) F=R;refine nx fun _=>?_
 refine az (fun p:Nat×Int=>[(5,.int .i64 p.2)]) (fun _=>[.var (aE s.a)]) (fun p=>p.1) (fun p=>-1<=p.2/\p.2<s.nodes.length/\(s.nodes.length:Int)-p.2<=p.1/\R=Ch s.nodes W L p.1 p.2) (s.nodes.length+1,F) ⟨hF.1,hF.2,by dsimp only;omega,hR.symm⟩ ?_ ?_
 ·exact aw
 clear hR;rintro⟨f,i⟩ ⟨h0,h1,h2,hn⟩;dsimp only at h0 h1 h2 hn;obtain⟨g,rfl⟩:∃g,f=g+1:=⟨f-1,WL⟩
 have c5:=c4 i;have hb:=hbd i;change R=ite _ _ _ at hn
 clear c4 hbd c1 c2 c3;generalize oY s.nodes W L i=B at *;by_cases h3:B<0
 ·rw[al7 h3]at hn;subst hn;clear hb;exact aw
 ·rw[al5 h3]at hn;refine nx fun _=>?_
  exact⟨(g,B),⟨WL,WL,by dsimp only;omega,rfl⟩,by dsimp only;omega,aw⟩
theorem jU(s:ap)(e:Int):PC Tryz.prog 133 [.agg (aE s.a),.int .u64 e] (.tup [.int .u64 (da s e).1,.bool (da s e).2]):=by
 refine ae 8 ?_;have c1:=Vn e s.cfg.spe;unfold da;generalize dk e s.cfg.spe=p at *;exact aw
theorem zE(s:ap)(i e:Int)(h0:0<=i)(h1:i<s.nodes.length):PC Tryz.prog 72 [.agg (aE s.a),.int .i64 i,.int .u64 e] (.bool (jA s i e)):=by
 refine ae 9 ?_;have c1:=jU s e;unfold jA;obtain⟨k,rfl⟩:=ajO h0;rw[amw];have hgd:=dy (t:=s.nodes) (i:=k) WL;generalize da s e=p at *;obtain⟨p1,p2⟩:=p;cases p2<;>exact aw
theorem CA(s:ap)(b:Blk)(h0:s.cfg.spe≠0):PC Tryz.prog 134 [.agg (aE s.a),.agg (aO b)] (.bool (pY s b)):=by
 refine ae 9 ?_;have c1:=fT s b.slot h0;unfold pY;exact aw
theorem Qg:Wk (.agg (aE kU)) (.agg (aE jX.a)):=by
 refine Wk.agg ?_;unfold kU jX ap.a aE;dsimp only;refine WkC.app ?_ ?_
 ·unfold ui cU.a bW;dsimp only;exact(WkC.refl _).app (.same _ (.same _ ((WkC.refl _).app ((WkC.refl _).app (.one (Wk.empty _ _ _) fun h=>h)))))
 ·exact .cons (Wk.empty _ _ _) (fun h=>h) (.cons (Wk.empty _ _ _) (fun h=>h) ((WkC.refl _).app ((WkC.refl _).app (.cons (Wk.empty _ _ _) (fun h=>h) (.cons (Wk.empty _ _ _) (fun h=>h) (.cons (Wk.empty _ _ _) (fun h=>h) (.same _ ((WkC.refl _).app (.one (Wk.empty _ _ _) fun h=>h)))))))))
def de(s:ap)(b:Blk):Int:=
 if b.root=rt0 then 2 else if nL s b.root=true then 9 else if s.now<b.slot then 12 else if b.slot<=(da s s.f.ep).1 then 13
 else if aj s.nodes b.parent<0 then 10 else if b.slot<=(nod s.nodes (aj s.nodes b.parent).toNat).blk.slot then 14
 else if (nod s.nodes (aj s.nodes b.parent).toNat).status=2 then 15 else if EG s b=false then 16
 else if HP s.cfg.ttd (nod s.nodes (aj s.nodes b.parent).toNat).blk b=false then 17 else if s.cfg.lim.node<=s.nodes.length then 11 else 0
def cm(s:ap)(a:bp):Bool×Int:=
 if cE a.vals s.cfg.bals.length≠0 then (false,cE a.vals s.cfg.bals.length)
 else if a.target.ep≠dg s a.slot\/(a.target.ep≠dg s s.now/\(dg s s.now=0\/a.target.ep≠IntKind.u64.wrap (dg s s.now-1)))then (false,18)
 else if aj s.nodes a.root<0\/aj s.nodes a.target.rt<0 then (false,10)
 else if a.slot<(nod s.nodes (aj s.nodes a.root).toNat).blk.slot then (false,14)
 else if atT s.nodes (aj s.nodes a.root) (da s a.target.ep).1≠aj s.nodes a.target.rt then (false,19)
 else (decide (s.now<=a.slot),0)
def castIn(s:ap)(a:bp):ap:=withL s (uM s.latest a.target.ep a.root a.vals).1
def wit(n lo hi:Int):Bool:=decide (lo<=n)&&decide (n<=hi)
def ib(c:cU):Int:=
 if c.spe<1 then 3 else if 64<c.spe then 3 else if 100<c.boost then 3 else if 1024<(c.bals.length:Int)then 3 else if wit c.lim.node 1 4096=false then 3 else if wit c.lim.orph 0 64=false then 3
 else if wit c.lim.early 0 256=false then 3 else if wit c.lim.table 1 64=false then 3 else if wit c.lim.retry 0 256=false then 3 else if c.lim.backoff<1 then 3 else if 1048576<c.lim.backoff then 3
 else if c.gen=rt0 then 2 else gh ⟨⟨0,c.gen⟩,c.bals⟩ c.bals.length
def adM(r:Rt):Blk:=⟨⟨⟨0,r⟩,⟨0,r⟩⟩,0,r,rt0,rt0,wd0,wd0,⟨0,r⟩,⟨0,r⟩,false⟩
def kO(c:cU):ap:=⟨c,List.replicate c.bals.length dL,[],⟨0,c.gen⟩,⟨0,c.gen⟩,[],[],[⟨adM c.gen,-1,1⟩],0,rt0,[⟨⟨0,c.gen⟩,c.bals⟩]⟩
def O0(c:cU):ap×Int:=if ib c=0 then (kO c,0)else (jX,ib c)
def gO(l:List bp)(i:Nat):bp:=l.getD i default
def tickA(s:ap):ap:=⟨s.cfg,s.latest,s.eqv,s.j,s.f,s.early,s.orph,s.nodes,IntKind.u64.wrap (s.now+1),rt0,s.tabs⟩
def tickB(s:ap):ap:=if IntKind.u64.wrap (Int.tmod s.now s.cfg.spe)=0 then dK s (sQ s).j (sQ s).f else s
def tickR(l:List bp)(i:Nat)(s:ap):ap:=if s.now<=(gO l i).slot then withE s (s.early++[gO l i])else if (cm s (gO l i)).2=0 then castIn s (gO l i)else s
def tickC(s:ap)(l:List bp):ap:=bg (tickR l) (withE s []) l.length
def gp(s:ap):ap×Int:=if 1099511627776<=s.now then (jX,3)else (tickC (tickB (tickA s)) (tickB (tickA s)).early,0)
def kL(s:ap)(b:Blk):ap:=
 if dg (dK (dD s (BV s.nodes b (dc b)).1) b.just b.fin) b.slot<dg (dK (dD s (BV s.nodes b (dc b)).1) b.just b.fin) (dK (dD s (BV s.nodes b (dc b)).1) b.just b.fin).now
 then dK (dK (dD s (BV s.nodes b (dc b)).1) b.just b.fin) b.pul.j b.pul.f else dK (dD s (BV s.nodes b (dc b)).1) b.just b.fin
def waitR(p:ap×List Rt):ap×List Rt:=
 if de (withO p.1 (takeO p.1.orph (cY p.1).toNat)) (dn p.1.orph (cY p.1).toNat)=0
 then (kL (withO p.1 (takeO p.1.orph (cY p.1).toNat)) (dn p.1.orph (cY p.1).toNat),p.2++[(dn p.1.orph (cY p.1).toNat).root])
 else (withO p.1 (takeO p.1.orph (cY p.1).toNat),p.2)
def waitG:Nat->ap×List Rt->ap×List Rt
 |0,p=>p
 |f+1,p=>if cY p.1<0 then p else waitG f (waitR p)
def noT(b:Blk):Blk:=⟨b.pul,b.slot,b.root,b.parent,b.payload,b.diff,b.pdiff,b.just,b.fin,false⟩
def blockI(s:ap)(b:Blk):ap:=if b.timely=true/\b.slot=s.now/\s.boost=rt0 then withB (kL s b) b.root else kL s b
def di(s:ap)(b:Blk):ap×List Rt×Int:=
 if de s b=10 then (if s.cfg.lim.orph<=s.orph.length then (jX,[],11)else (withO s (s.orph++[noT b]),[],0))
 else if de s b≠0 then (jX,[],de s b)
 else ((waitG ((blockI s b).orph.length+1) (blockI s b,[b.root])).1,(waitG ((blockI s b).orph.length+1) (blockI s b,[b.root])).2,0)
def mA(s:ap)(a:bp):ap×Int:=
 if (cm s a).2≠0 then (jX,(cm s a).2)else if (cm s a).1=false then (castIn s a,0)
 else if s.cfg.lim.early<=s.early.length then (jX,11)else (withE s (s.early++[a]),0)
def kY(s:ap)(t:aW):ap×Int:=
 if gh t s.cfg.bals.length≠0 then (jX,gh t s.cfg.bals.length)else if t.cp.ep<s.j.ep then (jX,13)
 else if (iZ s.tabs t s.cfg.bals.length s.cfg.lim.table).2≠0 then (jX,(iZ s.tabs t s.cfg.bals.length s.cfg.lim.table).2)
 else (withT s (iZ s.tabs t s.cfg.bals.length s.cfg.lim.table).1,0)
theorem sq(s:ap):PC Tryz.prog 68 [.agg (aE s.a)] (.int .i64 s.cfg.bals.length):=by
 refine ae 3 ?_;exact aw
def vM(t:List Nod)(k:Nat):Pul×Bool:=bg (yV t) (R4,false) k
theorem Ly(t:List Nod)(k:Nat):vM t (k+1)=yV t k (vM t k):=rfl
theorem Hn(s:ap)(hb:s.nodes.length<=2097152):PC Tryz.prog 201 [.agg (aE s.a)] (.agg (dB (sQ s))):=by
 refine ae 7 ?_;show Tri _ _ _ _ (PQ _ (.agg (dB (vM s.nodes s.nodes.length).1))) _ _
 have hz:vM s.nodes 0=(R4,false):=rfl;refine nx fun _=>?_
 refine BA s.nodes.length (fun i=>[(4,.bool (vM s.nodes i).2),(5,.int .i64 i)]) (fun i=>[.var (aE s.a),.var (dB R4),.var (dB (vM s.nodes i).1)]) (fun i h1 hw h2=>?_) (fun _=>?_)
 ·have hgd:=dy h1;have hs:=Ly s.nodes i;clear hz;generalize vM s.nodes i=p at *;obtain⟨⟨pj,pf⟩,sm⟩:=p;change _=ite _ _ _ at hs
  generalize nod s.nodes i=B at *;dsimp only at hs;cases sm<;>simp only[ak2,WJ,am6,amt]at hs<;>exact aw
 ·clear hz;exact aw
theorem D5(s:ap)(r:Rt)(h:StR s):PC Tryz.prog 290 [.agg (aE s.a),.agg (rtc r)] (.bool (nL s r)):=by
 refine ae 6 ?_;have c1:=cC s.nodes r h.bn;have hb:=h.bo;unfold nL;refine nx fun _=>?_
 refine Mg (fun i=>decide ((dn s.orph i).root=r)) s.orph.length (fun i=>[(5,.int .i64 i)]) (fun _=>[.var (aE s.a),.var (rtc r)]) (fun i h1 hp hf hw h2=>?_) (fun i h1 hp hw h2=>?_) (fun hf _=>?_)
 ·have hgd:(rows aO s.orph).getD i []=aO (dn s.orph i):=aS (f:=aO) cw h1;have hp:=aks hp;rw[hf,WG,alp];exact aw
 ·have hgd:(rows aO s.orph).getD i []=aO (dn s.orph i):=aS (f:=aO) cw h1;have hp:=aky hp;exact aw
 ·rw[hf,alu,aj9];exact aw
end Go.Proofs.YtmpddimhleianaaGreat
namespace Go.FH
open Go Go.RowKit
theorem RE(r:Rt):qX (some 32) (.agg (rtc r))=true:=by
 exact Rc r
attribute [go_sem] RE
def frE(f:Nat->Int):Nat->Nat->Int
 |0,_=>0
 |k+1,i=>if f i≠0 then f i else frE f k (i+1)
theorem xH{f:Nat->Int}{n i:Nat}(c:i<n)(h:f i≠0):frE f (n-i) i=f i:=by
 obtain⟨k,b⟩:∃k,n-i=k+1:=⟨n-i-1,WL⟩
 rw[b,frE,al7 h]
theorem xi{f:Nat->Int}{n i:Nat}(c:i<n)(h:f i=0):frE f (n-i) i=frE f (n-(i+1)) (i+1):=by
 obtain⟨k,b⟩:∃k,n-i=k+1:=⟨n-i-1,WL⟩
 rw[b,frE,al5 WL,show n-(i+1)=k by omega]
theorem wd(f:Nat->Int)(n:Nat):frE f (n-n) n=0:=by rw[akQ];rfl
theorem sJ{f:Nat->Int}:∀ {k i:Nat},frE f k i=0↔∀j,i<=j->j<i+k->f j=0
 |0,i=>by simp[frE];omega
 | k + 1, i => by
   rw[frE];by_cases h:f i=0
   ·rw[al5 WL,sJ];constructor
    ·grind
    grind
   grind
def An(t:List Nod)(i:Nat):Int:=
 if ¬ (0<=(nod t i).status/\(nod t i).status<=2)then 2 else if i=0/\(nod t i).up≠-1 then 2 else if 0<i/\((nod t i).up<0\/(i:Int)<=(nod t i).up)then 2
 else if (nod t i).blk.root∈(t.take i).map (·.blk.root)then 9 else if i=0 then 0
 else if (nod t i).blk.parent≠(nod t (nod t i).up.toNat).blk.root then 10 else if (nod t i).blk.slot<=(nod t (nod t i).up.toNat).blk.slot then 14 else 0
def nU(t:List Nod):Int:=if t.length=0\/4096<t.length then 11 else frE (An t) (t.length-0) 0
def ej(t:List Nod)(i:Nat):Int:=
 if ((nod t (i+1)).status=1/\(nod t (nod t (i+1)).up.toNat).status≠1)\/((nod t (nod t (i+1)).up.toNat).status=2/\(nod t (i+1)).status≠2)then 15 else 0
def statV(t:List Nod):Int:=if nU t≠0 then nU t else frE (ej t) (t.length-1-0) 0
theorem xu{t:List Nod}(h:nU t=0):dU t/\t.length<=4096:=by
 unfold nU at h;split at h
 ·omega
 have e:=sJ.1 h
 have c:∀i,i<t.length->¬ (i=0/\(nod t i).up≠-1)/\¬ (0<i/\((nod t i).up<0\/(i:Int)<=(nod t i).up)):=fun i d=>by
  have:=e i (amc _) WL;unfold An at this;split at this
  ·omega
  omega
 refine⟨⟨fun i f d=>?_,WL,?_⟩,WL⟩
 ·grind
 grind
end Go.FH
