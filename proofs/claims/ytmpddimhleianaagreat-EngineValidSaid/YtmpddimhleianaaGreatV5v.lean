/- Joined. -/
import Derived.Test.YtmpddimhleianaaGreatW3v
import Derived.Test.YtmpddimhleianaaGreatV4v
import Derived.Test.YtmpddimhleianaaGreatW6v
import Derived.Test.YtmpddimhleianaaGreatW9v
set_option linter.unusedVariables false
set_option linter.unusedSimpArgs false
set_option maxRecDepth 8000
set_option maxHeartbeats 4000000
namespace Go.FH
open Go Go.RowKit
structure bk(t:List Nod):Prop where
 ok:eL t
 pos:0<t.length
 root:(nod t 0).up<0
theorem eO{t:List Nod}(e:bk t){i x:Int}(c:x∈gp t i):i<x/\0<=x/\x<t.length/\(nod t x.toNat).up=i:=by
 unfold gp at c;split at c
 ·have:=dp (f:=fun k l=>if (nod t k).up=i then l++[(k:Int)]else l) (a:=([]:List Int)) (fun k l=>∀x∈l,0<=x/\x<k/\(nod t x.toNat).up=i) af1 t.length (fun k l p h x c=>by
   grind) t.length (afE _) x c
  obtain⟨d,n,j⟩:=this;refine⟨?_,d,n,j⟩;obtain⟨u,rfl⟩:∃u:Nat,x=u:=⟨_,(afW d).symm⟩
  simp only[afH]at j;by_cases o:u=0
  ·subst o;have:=e.root;omega
  ·obtain⟨r,q⟩:=e.ok u af0 af0;omega
 grind
theorem FX(t:List Nod)(i:Int):(gp t i).length<=t.length:=by
 unfold gp;split
 ·have:=jI (f:=fun k l=>if (nod t k).up=i then l++[(k:Int)]else l) (a:=([]:List Int)) (fun k l=>af3) t.length;grind
 simp
def dg(s:af)(slot:Int):Int:=IntKind.u64.wrap (Int.tdiv slot s.cfg.spe)
def nr(s:af)(i:Int):Cp:=if isN s.nodes i=true then (if dg s (nod s.nodes i.toNat).blk.slot<dg s s.now then (nod s.nodes i.toNat).blk.pul.j else (nod s.nodes i.toNat).blk.just)else cp0
def rg(s:af)(i:Int):Bool:=isN s.nodes i&&decide ((nod s.nodes i.toNat).status≠2)&&(decide (s.j.ep=0) || decide ((nr s i).ep=s.j.ep) || decide (dg s s.now<=(nr s i).ep) || decide (IntKind.u64.wrap (dg s s.now-(nr s i).ep)<=2))
def yY(s:af):Nat->Int->Bool
 |0,_=>false
 |f+1,i=>rg s i || (gp s.nodes i).any (yY s f)
theorem wn{s:af}(c:bk s.nodes):∀ (n f g:Nat) (i:Int),(s.nodes.length:Int)-i<n->n<=f->n<=g->yY s f i=yY s g i
 | 0, f, g, i, h, _, _ => by
   have e:isN s.nodes i=false:=by simp[isN];omega
   have j:∀f,yY s f i=false:=fun f=>by
    cases f with
    |zero=>rfl
    |succ f=>simp[yY,rg,gp,e]
   grind
 | n + 1, f + 1, g + 1, i, h, l, k => by
   simp only[yY];congr 1;rw[acU,ads,ads];constructor
   ·rintro⟨x,b,d⟩;have:=eO c b;exact⟨x,b,by rw[<-wn c n f g x af0 af0 af0];omega⟩
   ·rintro⟨x,b,d⟩;have:=eO c b;exact⟨x,b,by rw[wn c n f g x af0 af0 af0];omega⟩
def eP(s:af)(i:Int):Bool:=yY s (s.nodes.length+2) i
theorem Cm{s:af}(c:bk s.nodes)(i:Int)(f:-1<=i):eP s i=(rg s i || (gp s.nodes i).any (eP s)):=by
 show (rg s i || (gp s.nodes i).any (yY s (s.nodes.length+1)))=_
 congr 1;rw[acU,ads,ads];constructor
 ·rintro⟨x,b,e⟩;have:=eO c b;exact⟨x,b,by unfold eP;rw[<-wn c (s.nodes.length+1) (s.nodes.length+1) (s.nodes.length+2) x af0 af0 af0];omega⟩
 ·rintro⟨x,b,e⟩;have:=eO c b;exact⟨x,b,by unfold eP at e;rw[wn c (s.nodes.length+1) (s.nodes.length+1) (s.nodes.length+2) x af0 af0 af0];omega⟩
def yZ(s:af)(i:Nat)(l:List Bool):List Bool:=l++[eP s i]
def iK(s:af):List Bool:=aH (yZ s) [] s.nodes.length
theorem pR(s:af):∀n,(aH (yZ s) [] n).length=n
 |0=>rfl
 |n+1=>by rw[bg];unfold yZ;simp;exact pR s n
def jq(s:af):List Int:=if dr s.tabs s.j<0 then []else (tab s.tabs (dr s.tabs s.j).toNat).bals
def du(s:af):List Int:=R6 s.nodes (fu s.nodes (gX s.nodes s.latest s.eqv (jq s)) s.boost (jb s.cfg.spe s.cfg.boost (ku (jq s)).1).1)
def kI(t:List Nod)(w:List Int)(a:List Bool)(l:List Int)(k:Nat)(best:Int):Int:=
 if a.getD (l.getD k 0).toNat false=true/\(best<0\/w.getD best.toNat 0<w.getD (l.getD k 0).toNat 0\/(w.getD (l.getD k 0).toNat 0=w.getD best.toNat 0/\0<qm (nod t (l.getD k 0).toNat).blk.root (nod t best.toNat).blk.root))then l.getD k 0 else best
def lp(t:List Nod)(w:List Int)(a:List Bool)(i:Int):Int:=aH (kI t w a (gp t i)) (-1) (gp t i).length
theorem rI(t:List Nod)(w:List Int)(a:List Bool)(l:List Int):∀n,n<=l.length->aH (kI t w a l) (-1) n=-1\/aH (kI t w a l) (-1) n∈l
 |0,_=>.inl rfl
 | n + 1, h => by
   rw[bg];have:=rI t w a l n af0;generalize aH (kI t w a l) (-1) n=b at *;unfold kI;grind
def rd(t:List Nod)(w:List Int)(a:List Bool):Nat->Int->Int
 |0,i=>i
 |f+1,i=>if lp t w a i<0 then i else rd t w a f (lp t w a i)
theorem pM{t:List Nod}(d:bk t)(w:List Int)(a:List Bool):∀ (f:Nat) (i:Int),i<t.length->i<=rd t w a f i/\rd t w a f i<t.length
 |0,i,h=>⟨afT _,h⟩
 | f + 1, i, h => by
   unfold rd;split
   ·omega
   ·rename_i g
    rcases rI t w a (gp t i) _ (afE _)with c|c
    ·exact absurd (show lp t w a i<0 by unfold lp;omega) g
    ·have e:=eO d c;have k:=pM d w a f (lp t w a i) e.2.2.1;have j:i<lp t w a i:=e.1;omega
theorem AR{t:List Nod}(e:bk t)(w:List Int)(a:List Bool)(i:Int):lp t w a i=-1\/(i<lp t w a i/\0<=lp t w a i/\lp t w a i<t.length):=by
 rcases rI t w a (gp t i) _ (afE _)with c|c
 ·exact .inl c
 ·have d:=eO e c;exact .inr ⟨d.1,d.2.1,d.2.2.1⟩
def gC(s:af):Int:=rd s.nodes (du s) (iK s) (s.nodes.length+1) (ab s.nodes s.j.rt)
def di(s:af)(e:Int):Int×Bool:=((cH e s.cfg.spe).1,decide ((cH e s.cfg.spe).2=0))
def mw(s:af)(b:Blk):Bool:=decide (b.fin.ep<=b.just.ep)&&decide (b.just.ep<=b.pul.j.ep)&&decide (b.fin.ep<=b.pul.f.ep)&&decide (b.pul.f.ep<=b.pul.j.ep)&&decide (b.pul.j.ep<=dg s b.slot)
def nV(s:af)(b:Blk)(p:Int)(c:Cp):Bool:=decide (c.ep<=s.f.ep) || (if (di s c.ep).1<b.slot then decide (0<=atT s.nodes p (di s c.ep).1)&&decide ((nod s.nodes (atT s.nodes p (di s c.ep).1).toNat).blk.root=c.rt)else decide (b.root=c.rt))
def cps(b:Blk):List Cp:=[b.just,b.fin,b.pul.j,b.pul.f]
def rc(s:af)(b:Blk):Bool:=decide (0<=ab s.nodes b.parent)&&(mw s b&&(cm (fun k=>!nV s b (ab s.nodes b.parent) ((cps b).getD k cp0)) 4).isNone)
def lI(s:af)(i e:Int):Bool:=!(di s e).2 || decide ((nod s.nodes i.toNat).blk.slot<=(di s e).1)
def eU(a b:Cp):Cp:=if a.ep<b.ep then b else a
def zG(s:af)(a b:Cp):Bool:=
 decide (0<=ab s.nodes a.rt)&&decide (0<=ab s.nodes b.rt)&&decide ((nod s.nodes (ab s.nodes a.rt).toNat).status≠2)&&decide ((nod s.nodes (ab s.nodes b.rt).toNat).status≠2)
 && lI s (ab s.nodes a.rt) a.ep&&lI s (ab s.nodes b.rt) b.ep&&bw s.nodes (ab s.nodes b.rt) (ab s.nodes a.rt)&&decide (b.ep<=a.ep)&&decide (a.ep<=dg s s.now)&&decide (0<=dr s.tabs a)
def pO(l:List Blk)(a:Int)(i:Nat)(o:List Blk):List Blk:=if a<(l.getD i dx).slot then o++[l.getD i dx]else o
def dw(s:af)(j f:Cp):af:=
 if zG s (eU s.j j) (eU s.f f)=false then s
 else if eU s.f f=s.f then ⟨s.cfg,s.latest,s.eqv,eU s.j j,eU s.f f,s.early,s.orph,s.nodes,s.now,s.boost,eJ s.tabs (eU s.j j).ep⟩
 else ⟨s.cfg,s.latest,s.eqv,eU s.j j,eU s.f f,s.early,aH (pO s.orph (di s (eU s.f f).ep).1) [] s.orph.length,(fo s.nodes (ab s.nodes (eU s.f f).rt)).1,s.now,
  if ab (fo s.nodes (ab s.nodes (eU s.f f).rt)).1 s.boost<0 then rt0 else s.boost,eJ s.tabs (eU s.j j).ep⟩
def Ks(t:List Nod)(i:Nat)(p:Pul×Bool):Pul×Bool:=
 if (nod t i).status=2 then p else (⟨if p.2=false\/p.1.j.ep<(nod t i).blk.pul.j.ep then (nod t i).blk.pul.j else p.1.j,if p.2=false\/p.1.f.ep<(nod t i).blk.pul.f.ep then (nod t i).blk.pul.f else p.1.f⟩,true)
def kc(s:af):Pul:=(aH (Ks s.nodes) (KE,false) s.nodes.length).1
def cU(l:List Blk)(i:Nat):Blk:=l.getD i dx
def ju(s:af)(r:Rt):Bool:=(cm (fun i=>decide ((cU s.orph i).root=r)) s.orph.length).isSome || decide (0<=ab s.nodes r)
def takeO(l:List Blk)(i:Nat):List Blk:=l.take i++l.drop (i+1)
theorem GR(l:List Blk){i:Nat}(h:i<l.length):(takeO l i).length+1=l.length:=by
 unfold takeO;rw[afB,adG,acT];omega
def bW(s:af):Int:=ng (cm (fun i=>decide (0<=ab s.nodes (cU s.orph i).parent)) s.orph.length)
theorem oA(s:af):-1<=bW s/\bW s<s.orph.length:=by
 unfold bW;cases h:cm (fun i=>decide (0<=ab s.nodes (cU s.orph i).parent)) s.orph.length with
 |none=>rw[j7];omega
 |some k=>have:=cJ h;rw[iu];omega
def bQ(s:af)(t:List Nod):af:=⟨s.cfg,s.latest,s.eqv,s.j,s.f,s.early,s.orph,t,s.now,s.boost,s.tabs⟩
def withO(s:af)(l:List Blk):af:=⟨s.cfg,s.latest,s.eqv,s.j,s.f,s.early,l,s.nodes,s.now,s.boost,s.tabs⟩
def withE(s:af)(l:List aX):af:=⟨s.cfg,s.latest,s.eqv,s.j,s.f,l,s.orph,s.nodes,s.now,s.boost,s.tabs⟩
def withB(s:af)(r:Rt):af:=⟨s.cfg,s.latest,s.eqv,s.j,s.f,s.early,s.orph,s.nodes,s.now,r,s.tabs⟩
def withL(s:af)(l:List Vot):af:=⟨s.cfg,l,s.eqv,s.j,s.f,s.early,s.orph,s.nodes,s.now,s.boost,s.tabs⟩
def Za(s:af)(l:List Int):af:=⟨s.cfg,s.latest,l,s.j,s.f,s.early,s.orph,s.nodes,s.now,s.boost,s.tabs⟩
def withT(s:af)(l:List aB):af:=⟨s.cfg,s.latest,s.eqv,s.j,s.f,s.early,s.orph,s.nodes,s.now,s.boost,l⟩
def kj:af:=⟨⟨Xl,0,0,wd0,rt0,[]⟩,[],[],cp0,cp0,[],[],[],0,rt0,[]⟩
theorem eW{t:List Nod}{n:Nod}{i:Nat}:nod (t++[n]) i=if i<t.length then nod t i else if i=t.length then n else kr:=by
 unfold nod;by_cases h:i<t.length
 ·grind
 grind
theorem j5{t:List Nod}{r:Rt}{k:Nat}(d:k<t.length)(h:(nod t k).blk.root=r):0<=ab t r:=by
 unfold ab;cases c:cm (fun i=>decide ((nod t i).blk.root=r)) t.length with
 |none=>have:=fh c k d;grind
 |some i=>rw[iu];omega
theorem dD{t:List Nod}{r:Rt}(h:0<=ab t r):(ab t r).toNat<t.length/\(nod t (ab t r).toNat).blk.root=r:=by
 unfold ab at *;cases d:cm (fun i=>decide ((nod t i).blk.root=r)) t.length with
 |none=>rw[d,j7]at h;omega
 |some i=>rw[iu];have:=cJ d;grind
theorem bk.snoc{t:List Nod}(a:bk t){n:Nod}(e:0<=n.up)(d:n.up<t.length):bk (t++[n]):=by
 refine⟨fun i b c=>?_,af1,?_⟩
 ·rw[eW];by_cases h:i<t.length
  ·rw[afA h];exact a.ok i b h
  grind
 ·rw[eW,afA a.pos];exact a.root
theorem HP{t:List Nod}{b:Blk}{c:Int}(h:(eZ t b c).2=0):(eZ t b c).1=t++[⟨b,ab t b.parent,c⟩]/\0<=ab t b.parent:=by
 unfold eZ at *;split at h
 ·omega
 grind
theorem bk.ins{t:List Nod}(e:bk t){b:Blk}{a:Int}(h:(eZ t b a).2=0):bk (eZ t b a).1:=by
 obtain⟨d,c⟩:=HP h;rw[d];have f:=dD c;exact e.snoc (n:=⟨b,ab t b.parent,a⟩) c (show ab t b.parent<t.length by omega)
theorem lD{t:List Nod}(c:bk t){i:Nat}(b:i<t.length):bw t i i=true:=by
 unfold bw;rcases acF i with h|h
 ·subst h;rw[show ((0:Nat):Int)=0 from rfl,gu b];simp
 ·rw[ia c.ok h b];simp
theorem zY{t:List Nod}(d:bk t){a b:Int}(h:bw t a b=true):0<=a/\a<=b/\a<t.length:=by
 unfold bw at h;exact dL d.ok af3
theorem G5{t:List Nod}(e:bk t){a:Int}{k:Nat}(d:k<t.length)(h:bw t a k=true)(f:(k:Int)≠a):0<k/\bw t a (nod t k).up=true:=by
 unfold bw at *;rcases acF k with c|c
 ·subst c;rw[show ((0:Nat):Int)=0 from rfl,gu d]at h;grind
 ·rw[ia e.ok c d]at h;grind
structure abq(t:List Nod)(i0:Int)(k:Nat)(p:List Nod×List Int):Prop where
 len:p.2.length=k
 kept:∀m:Nat,m<k->bw t i0 m=true->0<=p.2.getD m 0/\p.2.getD m 0<p.1.length/\(nod p.1 (p.2.getD m 0).toNat).blk=(nod t m).blk
 up:∀u:Nat,0<u->u<p.1.length->0<=(nod p.1 u).up/\(nod p.1 u).up<u
 root:0<p.1.length->(nod p.1 0).up<0
 some:0<p.1.length->∃m:Nat,m<k/\bw t i0 m=true
 blks:∀u:Nat,u<p.1.length->∃m:Nat,m<t.length/\(nod p.1 u).blk=(nod t m).blk
 le:p.1.length<=k
theorem wa{l:List Int}{x:Int}{m:Nat}:(l++[x]).getD m 0=if m<l.length then l.getD m 0 else if m=l.length then x else 0:=by
 grind
theorem Na{t:List Nod}(ht:bk t)(i0:Int):∀k,k<=t.length->abq t i0 k (aH (dM t i0) ([],[]) k)
 |0,_=>⟨rfl,fun m h=>absurd h (acJ _),fun u _ h=>absurd h (acJ _),fun h=>absurd h (adJ _),fun h=>absurd h (adJ _),fun u h=>absurd h (acJ _),afE _⟩
 | k + 1, hk => by
   have ih:=Na ht i0 k af0;rw[bg];generalize aH (dM t i0) ([],[]) k=p at *;obtain⟨kp,ix⟩:=p;obtain⟨l1,l2,l3,l4,l5,l6,l7⟩:=ih;dsimp only at l1 l2 l3 l4 l5 l6 l7;unfold dM;by_cases ha:bw t i0 k=true
   ·rw [afA ha]
    dsimp only
    have hup:0<kp.length->(k:Int)≠i0:=by
     intro h he;obtain⟨m,h1,h2⟩:=l5 h;have:=zY ht h2;omega
    have hu:(k:Int)≠i0->0<=ix.getD (nod t k).up.toNat 0/\ix.getD (nod t k).up.toNat 0<kp.length:=by
     intro h;obtain⟨h0,h1⟩:=G5 ht af0 ha h;obtain⟨h2,h3⟩:=ht.ok k h0 af0;have:=l2 (nod t k).up.toNat af0 (by rw[afW h2];omega);omega
    refine⟨af3,fun m hm hm2=>?_,fun u h0 h1=>?_,fun h=>?_,fun _=>⟨k,af0,ha⟩,fun u h=>?_,af3⟩
    ·rw[wa]
     by_cases hmk:m<k
     ·rw[afA af0];obtain⟨a1,a2,a3⟩:=l2 m hmk hm2;refine⟨a1,by simp only[afB,afG,afM];omega,?_⟩;rw[eW,afA af0];exact a3
     ·obtain rfl:m=k:=af0
      rw[afx af0,afA af0];refine⟨af0,by simp only[afB,afG,afM];omega,?_⟩;rw[eW,afx af1,afA af1]
    ·rw[eW]
     by_cases hu2:u<kp.length
     ·rw[afA hu2];exact l3 u h0 hu2
     ·simp at h1;obtain rfl:u=kp.length:=af0
      rw[afx hu2,afA rfl];dsimp only;have hne:=hup h0;rw[afx hne];exact hu hne
    ·rw[eW]
     by_cases hz:0<kp.length
     ·rw[afA hz];exact l4 hz
     ·rw[afx hz,afA af0];dsimp only;by_cases hne:(k:Int)=i0
      ·rw[afA hne];omega
      ·have:=hu hne;omega
    ·rw[eW]
     by_cases hu2:u<kp.length
     ·rw[afA hu2];exact l6 u hu2
     ·simp at h;rw[afx hu2,afA af0];exact⟨k,af0,rfl⟩
   ·rw [afx ha]
    dsimp only;refine⟨by simp[l1],fun m hm hm2=>?_,l3,l4,fun h=>?_,l6,show kp.length<=k+1 by omega⟩
    ·by_cases hmk:m<k
     ·rw[wa,afA af0];exact l2 m hmk hm2
     ·obtain rfl:m=k:=af0
      exact absurd hm2 ha
    ·obtain⟨m,h1,h2⟩:=l5 h;exact⟨m,af0,h2⟩
theorem bk.prune{t:List Nod}(b:bk t){i0:Int}(c:0<=i0)(d:i0<t.length):bk (fo t i0).1:=by
 have h:=Na b i0 t.length (afE _);have e:=h.kept i0.toNat af0 (by have:=lD b (i:=i0.toNat) af0;grind);exact⟨h.up,by show 0<(aH (dM t i0) ([],[]) t.length).1.length;omega,h.root af0⟩
theorem sD{t:List Nod}(f:bk t){i0:Int}{r:Rt}(h:0<=ab t r)(n:bw t i0 (ab t r)=true):0<=ab (fo t i0).1 r:=by
 have i:=Na f i0 t.length (afE _);obtain⟨g,j⟩:=dD h;obtain⟨m,o,l⟩:=i.kept (ab t r).toNat g af3;exact j5 (k:=((aH (dM t i0) ([],[]) t.length).2.getD (ab t r).toNat 0).toNat) (by show _<(aH (dM t i0) ([],[]) t.length).1.length;omega) (by show (nod (aH (dM t i0) ([],[]) t.length).1 _).blk.root=r;grind)
theorem Nc{t:List Nod}(ht:bk t)(i0:Int):∀u:Nat,u<(fo t i0).1.length->∃m:Nat,m<t.length/\(nod (fo t i0).1 u).blk=(nod t m).blk:=(Na ht i0 t.length (afE _)).blks
theorem qI{t:List Nod}(ht:bk t)(i0:Int):(fo t i0).1.length<=t.length:=(Na ht i0 t.length (afE _)).le
end Go.FH
namespace Go.FH
open Go Go.RowKit
theorem ez{t:List Nod}{i:Int}:isN t i=true↔0<=i/\i<t.length:=by simp[isN]
theorem BY{t:List Nod}{i:Int}:isN t i=false↔¬ (0<=i/\i<t.length):=by rw[<-ez];simp
theorem vy{t:List Nod}{i:Int}(b:Int)(h:isN t i=false):atT t i b=-1:=by unfold atT;rw[jg h];rfl
theorem Kl{t:List Nod}(b:bk t){i:Nat}(c:i<t.length):aZ t i=aZ t (nod t i).up++[(i:Int)]:=by
 rcases acF i with h|h
 ·subst h;have:=b.root;rw[jg (i:=(nod t 0).up) (by rw[BY];omega)];exact gu c
 ·exact ia b.ok h c
theorem LI{t:List Nod}(e:bk t){i:Nat}(h:i<t.length)(a:Int):atT t i a=if (nod t i).blk.slot<=a then (i:Int)else atT t (nod t i).up a:=by
 unfold atT;rw[Kl e h];generalize aZ t (nod t i).up=p;have f:(p++[(i:Int)]).getD p.length 0=i:=af1
 rw[afB,ad0,bg];simp only[f,afH];split
 ·rfl
 ·refine ow fun k x j=>?_
  grind
theorem vw{t:List Nod}(e:bk t){a b:Int}(h:isN t a=false\/isN t b=false):bw t a b=false:=by
 unfold bw;rw[afQ];intro d;rcases h with h|h
 ·have:=dL e.ok d;rw[BY]at h;omega
 ·rw[jg h]at d;grind
theorem Jc{t:List Nod}(e:bk t){a:Int}{b:Nat}(d:b<t.length)(f:a≠b):bw t a b=bw t a (nod t b).up:=by
 unfold bw;rw[Kl e d];grind
theorem SQ{t:List Nod}(d:bk t){a:Int}{b:Nat}(f:b<t.length)(g:(b:Int)<=a):bw t a b=decide (a=b):=by
 by_cases h:a=b
 ·rw[ax h,h];exact lD d f
 ·rw[aD h];unfold bw;rw[afQ];intro e;have:=dL d.ok e;omega
theorem ON{t:List Nod}(b:bk t)(i0:Int):∀k,k<=t.length->∀m:Nat,m<k->bw t i0 m=false->(aH (dM t i0) ([],[]) k).2.getD m 0=-1
 |0,_,m,f,_=>by omega
 | k + 1, g, m, f, j => by
   have h:=ON b i0 k af0;have i:=(Na b i0 k af0).len;rw[bg];generalize aH (dM t i0) ([],[]) k=p at *;unfold dM;by_cases d:m<k
   ·grind
   grind
def upP(t:List Nod)(i0:Int)(k:Nat)(ix:List Int):Int:=if (k:Int)≠i0/\0<=(nod t k).up then ix.getD (nod t k).up.toNat 0 else -1
theorem abN{t:List Nod}(a:bk t)(i0:Int){k:Nat}(c:k<t.length):bw t i0 k=decide ((k:Int)=i0\/0<=upP t i0 k (aH (dM t i0) ([],[]) k).2)/\
 (bw t i0 k=true->upP t i0 k (aH (dM t i0) ([],[]) k).2=if (k:Int)=i0 then -1 else (aH (dM t i0) ([],[]) k).2.getD (nod t k).up.toNat 0):=by
 have j:=Na a i0 k af0;have l:=ON a i0 k af0;unfold upP;by_cases d:(k:Int)=i0
 ·have n:=lD a c;grind
 ·rw [Jc a c (fun h => d h.symm)]
  by_cases m:0<=(nod t k).up
  ·have i:(nod t k).up<k:=by
    rcases acF k with h|h
    ·subst h;have:=a.root;omega
    ·exact(a.ok k h c).2
   have o:=j.kept (nod t k).up.toNat af0;grind
  ·rw[vw a (.inr (by rw[BY];omega))];grind
end Go.FH
namespace Go.Proofs.YtmpddimhleianaaGreat
open Go Go.FH Go.RowKit
theorem gY(s:af)(n:Int)(h0:s.cfg.spe≠0):PC Tryz.prog 71 [.agg (ak s.a),.int .u64 n] (.int .u64 (dg s n)):=by
 refine aQ 5 ?_;unfold dg;exact aw
theorem J2(s:af)(n:Int):PC Tryz.prog 350 [.agg (ak s.a),.int .i64 n] (.bool (isN s.nodes n)):=by
 refine aQ 5 ?_;unfold isN;exact aw
theorem K3(s:af)(n:Int)(h0:s.cfg.spe≠0):PC Tryz.prog 351 [.agg (ak s.a),.int .i64 n] (.agg (cpC (nr s n))):=by
 refine aQ 6 ?_;have c1:=J2 s n;have c3:=gY s s.now h0;unfold nr;cases hj:isN s.nodes n with
 | false =>
   rw[hj]at c1;exact aw
 | true =>
   rw[hj]at c1;have h2:=hj;simp[isN]at h2;obtain⟨k,rfl⟩:=afF h2.1;have hgd:=dv (t:=s.nodes) (i:=k) af0;rw[afH];have c2:=gY s (nod s.nodes k).blk.slot h0;clear hj;exact aw
theorem Rh(s:af)(n:Int)(h0:s.cfg.spe≠0):PC Tryz.prog 311 [.agg (ak s.a),.int .i64 n] (.bool (rg s n)):=by
 refine aQ 6 ?_;have c1:=J2 s n;have c2:=K3 s n h0;have c3:=gY s s.now h0;unfold rg;cases hj:isN s.nodes n with
 | false =>
   rw[hj]at c1;exact aw
 | true =>
   rw[hj]at c1;have h2:=hj;simp[isN]at h2;obtain⟨k,rfl⟩:=afF h2.1;have hgd:=dv (t:=s.nodes) (i:=k) af0;rw[afH];generalize nr s k=S at *;generalize dg s s.now=E at *;clear hj;exact aw
theorem SU{α:Type}(p:α->Bool)(d:α)(l:List α){i:Nat}(h:i<l.length):(l.drop i).any p=(p (l.getD i d) || (l.drop (i+1)).any p):=by
 rw[acG h,List.any_cons,afy,afz h];rfl
theorem F3(s:af)(i0:Int)(ih:∀x∈gp s.nodes i0,PC Tryz.prog 225 [.agg (ak s.a),.int .i64 x] (.bool (eP s x)))(h0:s.cfg.spe≠0)(ht:bk s.nodes)(hb:s.nodes.length<=2097152)(hi0:0<=i0):PC Tryz.prog 225 [.agg (ak s.a),.int .i64 i0] (.bool (eP s i0)):=by
 refine aQ 7 ?_;have c1:=Rh s i0 h0;have c2:=FY s.nodes i0 hb;have hl:=FX s.nodes i0;rw[Cm ht i0 af0];generalize gp s.nodes i0=l at *;generalize eP s=L at *;generalize rg s i0=q at *;cases q with
 |true=>exact aw
 | false =>
   rw[ac9];generalize hR:l.any L=R;refine nx fun _=>?_
   refine oU l.length (fun i=>R=(l.drop i).any L) (fun i=>[(6,.int .i64 i)]) (fun _=>[.var (ak s.a)]) hR.symm (fun i h1 hn hw h2=>?_) (fun hn h=>?_)
   ·have hgp:=gdn (k:=.i64) h1
    have c3:=ih (l.getD i 0) (by rw[afy,afz h1];exact afY h1);rw[SU L 0 l h1]at hn;clear hR ih;generalize L (l.getD i 0)=b at *;cases b with
    | true =>
      rw[aeh]at hn;subst hn;exact aw
    | false =>
      rw[ac9]at hn;exact aw
   ·rw[adR]at hn;subst hn;clear ih;exact aw
theorem F4(s:af)(h0:s.cfg.spe≠0)(ht:bk s.nodes)(hb:s.nodes.length<=2097152):∀ (n:Nat) (i:Int),0<=i->(s.nodes.length:Int)-i<n->PC Tryz.prog 225 [.agg (ak s.a),.int .i64 i] (.bool (eP s i))
 | 0, i, _, hn => by
   exact F3 s i (fun x hx=>by have:=eO ht hx;omega) h0 ht hb af0
 | n + 1, i, hi, hn => by
   exact F3 s i (fun x hx=>F4 s h0 ht hb n x (by have:=eO ht hx;omega) (by have:=eO ht hx;omega)) h0 ht hb hi
structure StR(s:af):Prop where
 tree:bk s.nodes
 spe:s.cfg.spe≠0
 bn:s.nodes.length<=2097152
 bl:s.latest.length<=2097152
 be:s.eqv.length<=2097152
 bt:s.tabs.length<=2097152
 bb:∀t∈s.tabs,t.bals.length<=2097152
 bo:s.orph.length<=2097152
 ba:s.early.length<=2097152
 nl:s.cfg.lim.node<=4096
 ll:s.latest.length=s.cfg.bals.length
 jf:0<=ab s.nodes s.j.rt
theorem qx(l:List aB)(c:Cp):-1<=dr l c/\dr l c<l.length:=by
 unfold dr;cases h:cm (fun i=>decide ((tab l i).cp=c)) l.length with
 |none=>simp[ng];omega
 |some k=>have:=cJ h;simp[ng];omega
theorem SZ{s:af}(h:StR s):(jq s).length<=2097152:=by
 unfold jq;split
 ·simp
 ·rename_i h1;have h2:=qx s.tabs s.j;refine h.bb _ ?_;unfold tab;rw[afy,afz (show (dr s.tabs s.j).toNat<s.tabs.length by omega)];exact afY _
theorem MG(s:af)(h:StR s):PC Tryz.prog 127 [.agg (ak s.a)] (.sl 1 false (rows fW (iK s))):=by
 refine aQ 5 ?_;unfold iK;have hb:=h.bn;refine gon ?_;refine dT 3 1 ?_;simp only[go_sem];refine dI s.nodes.length (fun i=>[(4,.int .i64 i),(3,.hs 1 1 0 i)]) (fun i=>[.var (ak s.a),.vec 1 (rows fW (aH (yZ s) [] i))]) (fun i h1 hw h2=>?_) (fun _=>?_)
 ·have c1:=F4 s h.spe h.tree h.bn (s.nodes.length+1) i af0 af0;have hs:=bg (yZ s) [] i;change _=_++[eP s i]at hs
  have hl:=pR s i;generalize aH (yZ s) [] i=acc at *;have hr:rows fW acc++[[AV.bool (eP s i)]]=rows fW (acc++[eP s i]):=dn fW acc _;have ht:List.take i (rows fW acc)=rows fW acc:=afD (by simp[hl]);exact aw
 ·have hl:=pR s s.nodes.length;generalize aH (yZ s) [] s.nodes.length=acc at *;have ht:List.take s.nodes.length (rows fW acc)=rows fW acc:=afD (by simp[hl]);exact aw
theorem S0(s:af)(h:StR s):PC Tryz.prog 75 [.agg (ak s.a)] (.sl 1 false (ah .u64 (jq s))):=by
 refine aQ 4 ?_;have c1:=qy s.tabs s.j h.bt;have h2:=qx s.tabs s.j;unfold jq;generalize dr s.tabs s.j=F at *;by_cases h1:F<0
 ·exact aw
 ·obtain⟨k,rfl⟩:=afF (ac8.1 h1);have hgd:(rows aB.c s.tabs).getD k []=bE (tab s.tabs k).a:=aK (f:=aB.c) default af0;rw[afx h1,afH];exact aw
theorem xA(s:af)(h:StR s):PC Tryz.prog 36 [.agg (ak s.a)] (.sl 1 false (ah .u64 (du s))):=by
 refine aQ 9 ?_;have c1:=S0 s h;have hl:=SZ h;unfold du;generalize jq s=B at *;have c2:=GP B false hl;generalize ku B=S at *;obtain⟨S1,S2⟩:=S;have c3:=Jb s.cfg S1;have c4:=Jx s.nodes s.latest s.eqv B h.bn h.bl h.be hl;have hd:(gX s.nodes s.latest s.eqv B).length=s.nodes.length:=Aa s.nodes s.latest s.eqv B s.nodes.length;generalize gX s.nodes s.latest s.eqv B=D at *;dsimp only at c2 ⊢;generalize jb s.cfg.spe s.cfg.boost S1=M at *;have c5:=Hg s.nodes D s.boost M.1 h.bn hd;have hd2:(fu s.nodes D s.boost M.1).length=s.nodes.length:=by unfold fu;split<;>simp[hd]
 generalize fu s.nodes D s.boost M.1=D2 at *;have c6:=IM s.nodes h.tree.ok D2 h.bn hd2;exact aw
theorem gdb{l:List Bool}{i:Nat}(h:i<l.length):(rows fW l).getD i []=[.bool (l.getD i false)]:=aK (f:=fW) false h
theorem PD(t:List Nod)(ht:bk t)(hb:t.length<=2097152)(w:List Int)(hwl:w.length=t.length)(a:List Bool)(ha:a.length=t.length)(i0:Int):
 PC Tryz.prog 128 [.agg [nA t],.sl 1 false (ah .u64 w),.sl 1 false (rows fW a),.int .i64 i0] (.int .i64 (lp t w a i0)):=by
 refine aQ 13 ?_;have c1:=FY t i0 hb;have hl:=FX t i0;have hm:∀x∈gp t i0,0<=x/\x<t.length:=fun x hx=>by have:=eO ht hx;omega
 unfold lp;generalize gp t i0=l at *;refine nx fun _=>?_
 refine dI l.length (fun i=>[(11,.int .i64 i),(9,.int .i64 (aH (kI t w a l) (-1) i))]) (fun _=>[.var [nA t]]) (fun i h1 hw h2=>?_) (fun _=>?_)
 ·have hgp:=gdn (k:=.i64) h1
  obtain⟨c,hc⟩:=afF (hm (l.getD i 0) (by rw[afy,afz h1];exact afY h1)).1;have hcl:=(hm (l.getD i 0) (by rw[afy,afz h1];exact afY h1)).2;have hs:=bg (kI t w a l) (-1) i;have hbd:=(rI t w a l i af0).imp id (fun h=>hm _ h);generalize aH (kI t w a l) (-1) i=B at *;change _=ite _ _ _ at hs
  rw[hc]at hs hgp hcl;simp only[afH]at hs;have hga:=gdb (l:=a) (i:=c) af0;have hgw:=gdn (k:=.u64) (ns:=w) (i:=c) af0;have hgd:=dv (t:=t) (i:=c) af0;clear hm hc;by_cases h3:B<0
  ·clear hbd;cases hq:a.getD c false<;>simp only[hq,h3,afP,afe,aes,afq,aco,acq]at hs<;>exact aw
  ·obtain⟨k,rfl⟩:=afF (ac8.1 h3);rw[afH]at hs;have hgB:=gdn (k:=.u64) (ns:=w) (i:=k) af0;have hgE:=dv (t:=t) (i:=k) af0;have c2:=Fu (nod t c).blk.root (nod t k).blk.root;have hkl:k<t.length:=af0
   have hkl2:(k:Int)<t.length:=af0
   clear hbd;cases hq:a.getD c false<;>by_cases h4:w.getD k 0<w.getD c 0<;>by_cases h5:w.getD c 0=w.getD k 0<;>by_cases h6:0<qm (nod t c).blk.root (nod t k).blk.root<;>simp only[hq,h3,h4,h5,h6,afP,afe,aes,afo,afr,or_true,afq,aeO,afp,aco,acq]at hs<;>exact aw
 ·clear hm;exact aw
theorem qO(s:af):(du s).length=s.nodes.length:=AB s.nodes _ s.nodes.length
theorem Qn(s:af)(h:StR s):PC Tryz.prog 61 [.agg (ak s.a)] (.int .i64 (gC s)):=by
 refine aQ 7 ?_;have c1:=xA s h;have c2:=MG s h;have c3:=cj s.nodes s.j.rt h.bn;have c4:=PD s.nodes h.tree h.bn (du s) (qO s) (iK s) (pR s s.nodes.length);have hbd:=AR h.tree (du s) (iK s);have hF:=dl s.nodes s.j.rt;unfold gC;generalize du s=W at *;generalize iK s=L at *;generalize ab s.nodes s.j.rt=F at *;generalize hR:rd s.nodes W L (s.nodes.length+1) F=R;refine nx fun _=>?_
 refine aE (fun p:Nat×Int=>[(5,.int .i64 p.2)]) (fun _=>[.var (ak s.a)]) (fun p=>p.1) (fun p=>-1<=p.2/\p.2<s.nodes.length/\(s.nodes.length:Int)-p.2<=p.1/\R=rd s.nodes W L p.1 p.2) (s.nodes.length+1,F) ⟨hF.1,hF.2,by dsimp only;omega,hR.symm⟩ ?_ ?_
 ·exact aw
 clear hR;rintro⟨f,i⟩ ⟨h0,h1,h2,hn⟩;dsimp only at h0 h1 h2 hn;obtain⟨g,rfl⟩:∃g,f=g+1:=⟨f-1,af0⟩
 have c5:=c4 i;have hb:=hbd i;change R=ite _ _ _ at hn
 clear c4 hbd c1 c2 c3;generalize lp s.nodes W L i=B at *;by_cases h3:B<0
 ·rw[afA h3]at hn;subst hn;clear hb;exact aw
 ·rw[afx h3]at hn;refine nx fun _=>?_
  exact⟨(g,B),⟨af0,af0,by dsimp only;omega,rfl⟩,by dsimp only;omega,aw⟩
theorem kg(s:af)(e:Int):PC Tryz.prog 133 [.agg (ak s.a),.int .u64 e] (.tup [.int .u64 (di s e).1,.bool (di s e).2]):=by
 refine aQ 8 ?_;have c1:=NG e s.cfg.spe;unfold di;generalize cH e s.cfg.spe=p at *;exact aw
theorem Mc(s:af)(i e:Int)(h0:0<=i)(h1:i<s.nodes.length):PC Tryz.prog 72 [.agg (ak s.a),.int .i64 i,.int .u64 e] (.bool (lI s i e)):=by
 refine aQ 9 ?_;have c1:=kg s e;unfold lI;obtain⟨k,rfl⟩:=afF h0;rw[afH];have hgd:=dv (t:=s.nodes) (i:=k) af0;generalize di s e=p at *;obtain⟨p1,p2⟩:=p;cases p2<;>exact aw
theorem ww(s:af)(b:Blk)(h0:s.cfg.spe≠0):PC Tryz.prog 134 [.agg (ak s.a),.agg (au b)] (.bool (mw s b)):=by
 refine aQ 9 ?_;have c1:=gY s b.slot h0;unfold mw;exact aw
theorem IZ:Wk (.agg (ak i6)) (.agg (ak kj.a)):=by
 refine Wk.agg ?_;unfold i6 kj af.a ak;dsimp only;refine WkC.app ?_ ?_
 ·unfold rl cI.a cV;dsimp only;exact(WkC.refl _).app (.same _ (.same _ ((WkC.refl _).app ((WkC.refl _).app (.one (Wk.empty _ _ _) fun h=>h)))))
 ·exact .cons (Wk.empty _ _ _) (fun h=>h) (.cons (Wk.empty _ _ _) (fun h=>h) ((WkC.refl _).app ((WkC.refl _).app (.cons (Wk.empty _ _ _) (fun h=>h) (.cons (Wk.empty _ _ _) (fun h=>h) (.cons (Wk.empty _ _ _) (fun h=>h) (.same _ ((WkC.refl _).app (.one (Wk.empty _ _ _) fun h=>h)))))))))
def bG(s:af)(b:Blk):Int:=
 if b.root=rt0 then 2 else if ju s b.root=true then 9 else if s.now<b.slot then 12 else if b.slot<=(di s s.f.ep).1 then 13
 else if ab s.nodes b.parent<0 then 10 else if b.slot<=(nod s.nodes (ab s.nodes b.parent).toNat).blk.slot then 14
 else if (nod s.nodes (ab s.nodes b.parent).toNat).status=2 then 15 else if rc s b=false then 16
 else if uw s.cfg.ttd (nod s.nodes (ab s.nodes b.parent).toNat).blk b=false then 17 else if s.cfg.lim.node<=s.nodes.length then 11 else 0
def ei(s:af)(a:aX):Bool×Int:=
 if cM a.vals s.cfg.bals.length≠0 then (false,cM a.vals s.cfg.bals.length)
 else if a.target.ep≠dg s a.slot\/(a.target.ep≠dg s s.now/\(dg s s.now=0\/a.target.ep≠IntKind.u64.wrap (dg s s.now-1)))then (false,18)
 else if ab s.nodes a.root<0\/ab s.nodes a.target.rt<0 then (false,10)
 else if a.slot<(nod s.nodes (ab s.nodes a.root).toNat).blk.slot then (false,14)
 else if atT s.nodes (ab s.nodes a.root) (di s a.target.ep).1≠ab s.nodes a.target.rt then (false,19)
 else (decide (s.now<=a.slot),0)
def castIn(s:af)(a:aX):af:=withL s (vJ s.latest a.target.ep a.root a.vals).1
def wit(n lo hi:Int):Bool:=decide (lo<=n)&&decide (n<=hi)
def gF(c:cI):Int:=
 if c.spe<1 then 3 else if 64<c.spe then 3 else if 100<c.boost then 3 else if 1024<(c.bals.length:Int)then 3 else if wit c.lim.node 1 4096=false then 3 else if wit c.lim.orph 0 64=false then 3
 else if wit c.lim.early 0 256=false then 3 else if wit c.lim.table 1 64=false then 3 else if wit c.lim.retry 0 256=false then 3 else if c.lim.backoff<1 then 3 else if 1048576<c.lim.backoff then 3
 else if c.gen=rt0 then 2 else fY ⟨⟨0,c.gen⟩,c.bals⟩ c.bals.length
def xV(r:Rt):Blk:=⟨⟨⟨0,r⟩,⟨0,r⟩⟩,0,r,rt0,rt0,wd0,wd0,⟨0,r⟩,⟨0,r⟩,false⟩
def eG(c:cI):af:=⟨c,List.replicate c.bals.length eY,[],⟨0,c.gen⟩,⟨0,c.gen⟩,[],[],[⟨xV c.gen,-1,1⟩],0,rt0,[⟨⟨0,c.gen⟩,c.bals⟩]⟩
def wu(c:cI):af×Int:=if gF c=0 then (eG c,0)else (kj,gF c)
def fB(l:List aX)(i:Nat):aX:=l.getD i default
def tickA(s:af):af:=⟨s.cfg,s.latest,s.eqv,s.j,s.f,s.early,s.orph,s.nodes,IntKind.u64.wrap (s.now+1),rt0,s.tabs⟩
def tickB(s:af):af:=if IntKind.u64.wrap (Int.tmod s.now s.cfg.spe)=0 then dw s (kc s).j (kc s).f else s
def tickR(l:List aX)(i:Nat)(s:af):af:=if s.now<=(fB l i).slot then withE s (s.early++[fB l i])else if (ei s (fB l i)).2=0 then castIn s (fB l i)else s
def tickC(s:af)(l:List aX):af:=aH (tickR l) (withE s []) l.length
def dF(s:af):af×Int:=if 1099511627776<=s.now then (kj,3)else (tickC (tickB (tickA s)) (tickB (tickA s)).early,0)
def gE(s:af)(b:Blk):af:=
 if dg (dw (bQ s (eZ s.nodes b (cC b)).1) b.just b.fin) b.slot<dg (dw (bQ s (eZ s.nodes b (cC b)).1) b.just b.fin) (dw (bQ s (eZ s.nodes b (cC b)).1) b.just b.fin).now
 then dw (dw (bQ s (eZ s.nodes b (cC b)).1) b.just b.fin) b.pul.j b.pul.f else dw (bQ s (eZ s.nodes b (cC b)).1) b.just b.fin
def waitR(p:af×List Rt):af×List Rt:=
 if bG (withO p.1 (takeO p.1.orph (bW p.1).toNat)) (cU p.1.orph (bW p.1).toNat)=0
 then (gE (withO p.1 (takeO p.1.orph (bW p.1).toNat)) (cU p.1.orph (bW p.1).toNat),p.2++[(cU p.1.orph (bW p.1).toNat).root])
 else (withO p.1 (takeO p.1.orph (bW p.1).toNat),p.2)
def waitG:Nat->af×List Rt->af×List Rt
 |0,p=>p
 |f+1,p=>if bW p.1<0 then p else waitG f (waitR p)
def noT(b:Blk):Blk:=⟨b.pul,b.slot,b.root,b.parent,b.payload,b.diff,b.pdiff,b.just,b.fin,false⟩
def blockI(s:af)(b:Blk):af:=if b.timely=true/\b.slot=s.now/\s.boost=rt0 then withB (gE s b) b.root else gE s b
def bR(s:af)(b:Blk):af×List Rt×Int:=
 if bG s b=10 then (if s.cfg.lim.orph<=s.orph.length then (kj,[],11)else (withO s (s.orph++[noT b]),[],0))
 else if bG s b≠0 then (kj,[],bG s b)
 else ((waitG ((blockI s b).orph.length+1) (blockI s b,[b.root])).1,(waitG ((blockI s b).orph.length+1) (blockI s b,[b.root])).2,0)
def kH(s:af)(a:aX):af×Int:=
 if (ei s a).2≠0 then (kj,(ei s a).2)else if (ei s a).1=false then (castIn s a,0)
 else if s.cfg.lim.early<=s.early.length then (kj,11)else (withE s (s.early++[a]),0)
def iL(s:af)(t:aB):af×Int:=
 if fY t s.cfg.bals.length≠0 then (kj,fY t s.cfg.bals.length)else if t.cp.ep<s.j.ep then (kj,13)
 else if (ib s.tabs t s.cfg.bals.length s.cfg.lim.table).2≠0 then (kj,(ib s.tabs t s.cfg.bals.length s.cfg.lim.table).2)
 else (withT s (ib s.tabs t s.cfg.bals.length s.cfg.lim.table).1,0)
theorem qc(s:af):PC Tryz.prog 68 [.agg (ak s.a)] (.int .i64 s.cfg.bals.length):=by
 refine aQ 3 ?_;exact aw
def CJ(t:List Nod)(k:Nat):Pul×Bool:=aH (Ks t) (KE,false) k
theorem XP(t:List Nod)(k:Nat):CJ t (k+1)=Ks t k (CJ t k):=rfl
theorem Q1(s:af)(hb:s.nodes.length<=2097152):PC Tryz.prog 201 [.agg (ak s.a)] (.agg (gc (kc s))):=by
 refine aQ 7 ?_;show Tri _ _ _ _ (PQ _ (.agg (gc (CJ s.nodes s.nodes.length).1))) _ _
 have hz:CJ s.nodes 0=(KE,false):=rfl;refine nx fun _=>?_
 refine dI s.nodes.length (fun i=>[(4,.bool (CJ s.nodes i).2),(5,.int .i64 i)]) (fun i=>[.var (ak s.a),.var (gc KE),.var (gc (CJ s.nodes i).1)]) (fun i h1 hw h2=>?_) (fun _=>?_)
 ·have hgd:=dv h1;have hs:=XP s.nodes i;clear hz;generalize CJ s.nodes i=p at *;obtain⟨⟨pj,pf⟩,sm⟩:=p;change _=ite _ _ _ at hs
  generalize nod s.nodes i=B at *;dsimp only at hs;cases sm<;>simp only[aei,afq,afp,aco]at hs<;>exact aw
 ·clear hz;exact aw
theorem Mx(s:af)(r:Rt)(h:StR s):PC Tryz.prog 290 [.agg (ak s.a),.agg (rtc r)] (.bool (ju s r)):=by
 refine aQ 6 ?_;have c1:=cj s.nodes r h.bn;have hb:=h.bo;unfold ju;refine nx fun _=>?_
 refine tG (fun i=>decide ((cU s.orph i).root=r)) s.orph.length (fun i=>[(5,.int .i64 i)]) (fun _=>[.var (ak s.a),.var (rtc r)]) (fun i h1 hp hf hw h2=>?_) (fun i h1 hp hw h2=>?_) (fun hf _=>?_)
 ·have hgd:(rows au s.orph).getD i []=au (cU s.orph i):=aK (f:=au) dx h1;have hp:=ac3 hp;rw[hf,ae8,aeh];exact aw
 ·have hgd:(rows au s.orph).getD i []=au (cU s.orph i):=aK (f:=au) dx h1;have hp:=adi hp;exact aw
 ·rw[hf,aeJ,ac9];exact aw
end Go.Proofs.YtmpddimhleianaaGreat
namespace Go.FH
open Go Go.RowKit
def mrt(l:List Rt):List (List AV):=l.map fun r=>[.agg (rtc r),.bool true]
theorem Cb(r:Rt):pP (some 32) (.agg (rtc r))=true:=by
 exact JJ r
theorem Co(r:Rt):∀l:List Rt,ko (some 32) (.agg (rtc r)) (mrt l)=some (l.findIdx? fun x=>decide (r=x))
 | []=>rfl
 | a :: m => by
   have c:=Co r m;simp only[mrt,acv,ko,Cb,aco,keq,kF]at c ⊢;grind
theorem yg{r:Rt}{l:List Rt}(h:r∉l):ko (some 32) (.agg (rtc r)) (mrt l)=some none:=by
 rw[Co,List.findIdx?_eq_none_iff.2 fun x c=>af3]
theorem th{r:Rt}{l:List Rt}(h:r∈l):∃j,ko (some 32) (.agg (rtc r)) (mrt l)=some (some j)/\((mrt l).getD j []).getD 1 .dead=.bool true/\(mrt l).set j [.agg (rtc r),.bool true]=mrt l:=by
 rw[Co];cases k:l.findIdx? fun x=>decide (r=x)with
 | none =>
   grind
 | some j =>
   obtain⟨g,d,_⟩:=adn.1 k;have d:r=l[j]:=af3
   refine⟨j,rfl,?_,?_⟩
   ·simp[mrt,afy,g]
   ·apply aeA
    ·simp
    ·intro i m n;rw[List.getElem_set];split
     ·rename_i f;subst f;simp[mrt,<-d]
     simp
theorem UO(l:List Rt)(r:Rt):mrt l++[[.agg (rtc r),.bool true]]=mrt (l++[r]):=by simp[mrt]
theorem I3(l:List Rt):fU (mrt l):=by
 rw[nK];intro x b;obtain⟨p,_,rfl⟩:=acz.1 b;exact⟨dH p,trivial,trivial⟩
theorem Rp(ρ:Nat->Nat)(l:List Rt):dm ρ (mrt l)=mrt l:=(I3 l).ren ρ
theorem TI(σ:St)(zs:List Nat)(l:List Rt):gm σ zs (mrt l)=mrt l:=(I3 l).fz σ zs
attribute [go_sem] Cb Rp TI UO
def frE(f:Nat->Int):Nat->Nat->Int
 |0,_=>0
 |k+1,i=>if f i≠0 then f i else frE f k (i+1)
theorem uz{f:Nat->Int}{n i:Nat}(c:i<n)(h:f i≠0):frE f (n-i) i=f i:=by
 obtain⟨k,b⟩:∃k,n-i=k+1:=⟨n-i-1,af0⟩
 rw[b,frE,afA h]
theorem uy{f:Nat->Int}{n i:Nat}(c:i<n)(h:f i=0):frE f (n-i) i=frE f (n-(i+1)) (i+1):=by
 obtain⟨k,b⟩:∃k,n-i=k+1:=⟨n-i-1,af0⟩
 rw[b,frE,afx af0,show n-(i+1)=k by omega]
theorem ux(f:Nat->Int)(n:Nat):frE f (n-n) n=0:=by rw[aey];rfl
theorem vZ{f:Nat->Int}:∀ {k i:Nat},frE f k i=0↔∀j,i<=j->j<i+k->f j=0
 |0,i=>by simp[frE];omega
 | k + 1, i => by
   rw[frE];by_cases h:f i=0
   ·rw[afx af0,vZ];constructor
    ·grind
    grind
   grind
def vo(t:List Nod)(i:Nat):Int:=
 if ¬ (0<=(nod t i).status/\(nod t i).status<=2)then 2 else if i=0/\(nod t i).up≠-1 then 2 else if 0<i/\((nod t i).up<0\/(i:Int)<=(nod t i).up)then 2
 else if (nod t i).blk.root∈(t.take i).map (·.blk.root)then 9 else if i=0 then 0
 else if (nod t i).blk.parent≠(nod t (nod t i).up.toNat).blk.root then 10 else if (nod t i).blk.slot<=(nod t (nod t i).up.toNat).blk.slot then 14 else 0
def mW(t:List Nod):Int:=if t.length=0\/4096<t.length then 11 else frE (vo t) (t.length-0) 0
def pp(t:List Nod)(i:Nat):Int:=
 if ((nod t (i+1)).status=1/\(nod t (nod t (i+1)).up.toNat).status≠1)\/((nod t (nod t (i+1)).up.toNat).status=2/\(nod t (i+1)).status≠2)then 15 else 0
def statV(t:List Nod):Int:=if mW t≠0 then mW t else frE (pp t) (t.length-1-0) 0
theorem sS{t:List Nod}(h:mW t=0):bk t/\t.length<=4096:=by
 unfold mW at h;split at h
 ·omega
 have e:=vZ.1 h
 have c:∀i,i<t.length->¬ (i=0/\(nod t i).up≠-1)/\¬ (0<i/\((nod t i).up<0\/(i:Int)<=(nod t i).up)):=fun i d=>by
  have:=e i (afK _) af0;unfold vo at this;split at this
  ·omega
  omega
 refine⟨⟨fun i f d=>?_,af0,?_⟩,af0⟩
 ·grind
 grind
end Go.FH
