/- Joined. -/
import Derived.Test.YtmpddimhleianaaGreatW2
import Derived.OpenShut
import Derived.ChangeMaps
set_option linter.unusedVariables false
set_option linter.unusedSimpArgs false
set_option maxRecDepth 100000
namespace Go.FH
open Go Go.RowKit
def adL(σ:St)(zs:List Nat)(fr:Fr):Fr:=⟨fr.nv,fr.vs.map (fz σ zs),[]⟩
def F7(σ:St)(zs:List Nat):St:=(List.range σ.length).map fun i=>if zs.contains i then .gone else fzO σ zs (σ.getD i .gone)
theorem evZ:(∀σ zs nv vs ts,adL σ zs ⟨nv,vs,ts⟩=⟨nv,vs.map (fz σ zs),[]⟩):=fun _ _ _ _ _=>rfl
section
variable{P:Program}{nt k:Nat}{fr:Fr}{σ:St}
theorem J8{E:Env}:∀ {m:Nat} {ws:List Value},ws.length=m->(∀u∈ws,u.oneCell'=true)->RlC E (List.replicate m .any) ws
 | 0, ws, h, _ => by
   obtain rfl:ws=[]:=amK h;rfl
 |m+1,[],h,_=>by grind
 |m+1,u::ws,h,b=>⟨u,ws,rfl,rfl,b u (akj ..),J8 WO fun v c=>b v (amM _ c)⟩
theorem J9{E:Env}{e:Nat}:∀ {m:Nat} {ws:List Value},ws.length=m*e->(∀u∈ws,u.oneCell'=true)->RlE E e (List.replicate m (List.replicate e .any)) ws
 | 0, ws, h, _ => by
   obtain rfl:ws=[]:=amK WL;rfl
 | m + 1, ws, h, d => by
   refine⟨ws.take e,ws.drop e,(amF e ws).symm,WO,J8 WO fun u b=>d u (akq b),J9 WO fun u b=>d u (Wv b)⟩
theorem EK{c:ab}{Q:Ex->Fr->St->Prop}(b:List Nat)(h:Tri P nt k c Q (adL σ b fr) (F7 σ b)):Tri P nt k c Q fr σ:=by
 intro u f s C loc a w l;have x:=l.klen
 have r:oR k σ b (List.range σ.length) (F7 σ b):=by
  refine⟨fun i e=>alm WL,List.nodup_range,fun j q=>List.mem_range.1 q,by simp[F7],fun i o d=>?_⟩
  have e:i<σ.length:=by
   have:=(aml.1 d).1;simpa[F7]using this
  unfold F7 at d;rw[ajv,alm e]at d;simp only[akd]at d;split at d
  ·grind
  ·refine .inr ⟨i,alm e,WO,?_⟩;rw[Sw,aeu,<-d,al6 e,alt,al6 e];rfl
 refine Jp b (List.range σ.length) (adL σ b fr) (F7 σ b) r WO (fun t=>?_) h u f s C loc a w l;rw[Sw,acl];unfold Fr.get adL;split
 ·grind
 ·exact .inl rfl
def Sc(v:AV):Prop:=∀E E' u,Rl E v u->Rl E' v u
theorem ay.borrow{f:FuncId}{args:List AV}{r:AV}(h:PC P f (fzL σ (List.range σ.length) args) r)(G:Sc r):ay P f args σ r σ:=by
 refine⟨h.call.1,amb _,fun X loc w n x k=>?_⟩;obtain⟨d,K,A,M,C⟩:=(pv σ (List.range σ.length)).rel x;have F:=h.pa
 have m:RlS (bh X d [] w) (fzL σ (List.range σ.length) args) n:=by
  have B:∀ {xs:List AV} {j:List Value},PuL (fzL σ (List.range σ.length) xs)->RlS (bh X loc σ w) xs j->RlS (bh X d [] w) (fzL σ (List.range σ.length) xs) j:=by
   intro xs;induction xs with
   |nil=>intro j _ k;exact k
   | cons a xs H =>
     intro j y k;obtain⟨u,l,e,p,D⟩:=k;exact⟨u,l,e,C a u p _ (y.1.ren _).symm,H y.2 D⟩
  grind
 refine(h.call.2.2 X d w n A m).mono ?_;rintro e w' ⟨v,t,rfl,g,_⟩;have c:Ev (fun _=>False) w w':=⟨g.ev.size,fun b i _=>g.ev.blk b i (fun I=>by obtain⟨id,o,L,p,_⟩:=I;grind),g.ev.os,g.ev.tape,g.ev.output⟩;obtain⟨J,N⟩:=x.grow c;exact⟨v,loc,rfl,⟨fun _ _ h=>h,J,G _ _ _ g.val,⟨c.size,fun b i _=>c.blk b i (fun h=>h),c.os,c.tape,c.output⟩,fun b i=>.inl i⟩,fun _ _=>rfl⟩
theorem yX:aq σ (List.range σ.length) σ:=by
 refine⟨WM,List.nodup_range,fun j d=>List.mem_range.1 d,fun i j b=>?_⟩
 have c:i<σ.length:=by
  grind
 rw[alm c]at b;cases b;rw[Sw,al6 c];simp[aeu]
theorem J6{f:FuncId}{args b a:List AV}{r:AV}{K:AV->St->Prop}(h:PC P f b r)(e:fzL σ (List.range σ.length) (args++a)=b)(g:Sc r)(i:K r σ):jl P (.fn (.func f) a) args σ K:=by
 subst e;refine⟨args++a,σ,r,σ,List.range σ.length,ay.borrow h g,?_,yX,?_⟩
 ·rw[Sw,GB]
 ·rw[GU yX,Sw,acl];omega
theorem Sc.int(k:IntKind)(n:Int):Sc (.int k n):=fun _ _ _ h=>h
theorem Sc.bool(b:Bool):Sc (.bool b):=fun _ _ _ h=>h
theorem pe{c:ab}{Q:Ex->Fr->St->Prop}(d:Nat){e id off j:Nat}{xs:List (List AV)}(E:fr.get d=.hs e id off j)(hσ:σ[id]?=some (.vec e xs))(J:0<e)(r:off+j<=xs.length)
 (h:∀m,xs.length+m<=off+maxLen->Tri P nt k c Q fr (σ.set id (.vex e (xs++List.replicate m (List.replicate e .any))))):Tri P nt k c Q fr σ:=by
 intro K i O C loc a w hs;have x:=hs.frm d;rw[E]at x;obtain⟨ad,o,L,g1,W,g3,Z,F,g6,g7,G,g9,H,I⟩:=sV (X:=C.X) hs.rel (ex:=false) (by rw[hσ];rfl) J x r
 have n:Rel C.X loc (σ.set id (.vex e (xs++List.replicate (off+o-xs.length) (List.replicate e .any)))) w:=by
  refine hs.rel.weakL hσ rfl rfl fun L' l M=>?_
  rw[F]at l;cases l;rcases M with⟨p,h2⟩|⟨p,cs,D,ws,t,Y,y,R,z,N⟩
  ·refine .inl ⟨p,?_⟩;simp_all
  ·refine .inr ⟨p,cs,D++ws,t,WO,y,WO,z.app ?_⟩
   have s:=z.length;have hr:=G p
   have v:ws.length=(off+o-xs.length)*e:=by
    rw[akC,akC,s,y]at R;rw[Nat.mul_sub_right_distrib];omega
   exact J9 v N
 refine h _ WL K i O C loc a w ⟨n,fun t=>?_,hs.size,hs.dfr,hs.ev,fun b B=>hs.old b ((Ij hσ rfl rfl b).1 B),hs.pre,by simpa using hs.klen⟩;have:=hs.frm t;rwa [QW hσ rfl rfl]
end
theorem dV{a:List AV}{n:Nat}(h:a.length=n):cut a 0 n=a:=by
 unfold cut;grind
theorem afq(x:AV)(b:List AV)(o n:Nat)(h:1<=o):cut (x::b) o n=cut b (o-1) n:=by
 obtain⟨k,rfl⟩:∃k,o=k+1:=⟨o-1,WL⟩
 rfl
theorem afp(a b:List AV)(o n:Nat)(h:a.length<=o):cut (a++b) o n=cut b (o-a.length) n:=by
 unfold cut;rw[aj6,alO h,amD]
theorem afo(a b:List AV)(o n:Nat)(h:o+n<=a.length):cut (a++b) o n=cut a o n:=by
 unfold cut;grind
theorem ag2(x:AV)(b:List AV)(n:Nat)(h:0<n):cut (x::b) 0 n=x::cut b 0 (n-1):=by
 obtain⟨k,rfl⟩:∃k,n=k+1:=⟨n-1,WL⟩
 rfl
theorem ag1(b:List AV)(o:Nat):cut b o 0=[]:=by simp[cut]
theorem acU{a:List AV}{vs:List AV}(h:vs.length=a.length):spl a 0 vs=vs:=by
 unfold spl;rw[h];simp
theorem afB(x:AV)(b:List AV)(o:Nat)(vs:List AV)(h:1<=o):spl (x::b) o vs=x::spl b (o-1) vs:=by
 obtain⟨k,rfl⟩:∃k,o=k+1:=⟨o-1,WL⟩
 unfold spl;grind
theorem afA(a b:List AV)(o:Nat)(vs:List AV)(h:a.length<=o):spl (a++b) o vs=a++spl b (o-a.length) vs:=by
 unfold spl;rw[ajU,aj6,amf h,alO WL,amD,show o+vs.length-a.length=o-a.length+vs.length by omega];simp
theorem afz(a b:List AV)(o:Nat)(vs:List AV)(h:o+vs.length<=a.length):spl (a++b) o vs=spl a o vs++b:=by
 unfold spl;rw[ajs WL,akw h];simp
theorem cS1{x:AV}{b:List AV}{o n:Nat}(h:1<=o:=by omega):cut (x::b) o n=cut b (o-1) n:=afq x b o n h
theorem cR1{a b:List AV}{k:Nat}(hk:a.length=k){o n:Nat}(h:k<=o:=by omega):cut (a++b) o n=cut b (o-k) n:=by subst hk;exact afp a b o n h
theorem cL1{a b:List AV}{k:Nat}(hk:a.length=k){o n:Nat}(h:o+n<=k:=by omega):cut (a++b) o n=cut a o n:=by subst hk;exact afo a b o n h
theorem pS1{x:AV}{b:List AV}{o:Nat}{vs:List AV}(h:1<=o:=by omega):spl (x::b) o vs=x::spl b (o-1) vs:=afB x b o vs h
theorem pR1{a b:List AV}{k:Nat}(hk:a.length=k){o:Nat}{vs:List AV}(h:k<=o:=by omega):spl (a++b) o vs=a++spl b (o-k) vs:=by subst hk;exact afA a b o vs h
theorem pL1{a b:List AV}{k:Nat}(hk:a.length=k){o:Nat}{vs:List AV}(h:o+vs.length<=k:=by omega):spl (a++b) o vs=spl a o vs++b:=by subst hk;exact afz a b o vs h
theorem ahi(x:AV)(b:List AV)(v:AV)(vs:List AV):spl (x::b) 0 (v::vs)=v::spl b 0 vs:=by
 unfold spl;simp
theorem ahj(b:List AV):spl b 0 []=b:=by simp[spl]
theorem oA(a b:Int):(a==b)=decide (a=b):=by grind
theorem cG:bV []=true:=rfl
theorem bM(x:AV)(b:List AV):bV (x::b)=(x.cell&&bV b):=rfl
theorem cF(a b:List AV):bV (a++b)=(bV a&&bV b):=by simp[bV]
theorem eJ(a b:List AV):PuL (a++b)↔PuL a/\PuL b:=by
 simp only[Gq];grind
theorem mY(ρ:Nat->Nat)(a b:List AV):bZ ρ (a++b)=bZ ρ a++bZ ρ b:=by simp[IQ]
theorem oz(σ:St)(d:List Nat):∀a b,fzL σ d (a++b)=fzL σ d a++fzL σ d b
 | [],b=>rfl
 |x::a,b=>by simp only[amI,fzL,oz σ d a b]
theorem jg:∀ {a b:List AV} (x y:List AV),a.length=b.length->gj (a++x) (b++y)=(match gj a b,gj x y with|some p,some q=>some (p&&q)|_,_=>none)
 | [],[],x,y,_=>by simp only[amD,gj];cases gj x y<;>simp
 | u :: a, v :: b, x, y, h => by
   have d:=jg (a:=a) (b:=b) x y WO;simp only[amI,gj,d];grind
 | [],_::_,_,_,h|_::_,[],_,_,h=>by grind
theorem gD:∀ {c:List (Nat×Nat)} {cs:List AV},cs.map d6=ef c->iq c cs=true
 | [],cs,h=>by simp only[ef,List.map_eq_nil_iff]at h;subst h;rfl
 | (n, k) :: c, cs, h => by
   simp only[ef]at h;have g:n<=cs.length:=by have:=ajG List.length h;simp at this;omega
   have f:(cs.take n).map d6=List.replicate n k:=WP
   have e:(cs.drop n).map d6=ef c:=WP
   simp only[iq,gD e,akF,amk,akO,am0];refine⟨WO,fun x d=>?_⟩;have:d6 x∈(cs.take n).map d6:=List.mem_map_of_mem d;grind
def byc(bs:List UInt8):List AV:=bs.map fun b=>.int .u8 (b.toNat:Int)
@[simp] theorem Uz(bs:List UInt8):(byc bs).length=bs.length:=by simp[byc]
theorem adk(bs:List UInt8):PuL (byc bs):=by
 rw[Gq];intro x c;obtain⟨b,_,rfl⟩:=amV.1 c;trivial
theorem NX(bs:List UInt8):bV (byc bs)=true:=by simp[bV,byc,AV.cell]
theorem Qy:∀ {a b:List UInt8},a.length=b.length->gj (byc a) (byc b)=some (decide (a=b))
 | [],[],_=>rfl
 | x :: a, y :: b, h => by
   have d:=Qy (a:=a) (b:=b) WO
   have e:(((x.toNat:Int))==(y.toNat:Int))=decide (x=y):=by
    rw[ajZ];simp;exact⟨fun h=>UInt8.toNat_inj.1 WL,fun h=>by rw[h]⟩
   simp only[byc,amE,gj,zy,amt]at d ⊢;simp_all
 | [],_::_,h|_::_,[],h=>by grind
theorem Mq:∀ (bs:List UInt8) (n:Nat),bs.length=n->chunk 1 n (byc bs)=bts bs
 | [],_,rfl=>rfl
 | b :: bs, _, rfl => by
   simp only[al8,chunk,byc,amE,bts];have:=Mq bs _ rfl;simp only[byc,bts]at this;grind
theorem adH(bs:List UInt8){j:Nat}(h:j<bs.length):cut (byc bs) j 1=[.int .u8 (bs[j].toNat:Int)]:=by
 unfold cut byc;rw[<-akG,<-akE,amG h];rfl
theorem ae6(bs:List UInt8){j:Nat}(h:j<bs.length)(b:UInt8):spl (byc bs) j [.int .u8 (b.toNat:Int)]=byc (bs.set j b):=by
 unfold spl byc;rw[<-akE,ajr,<-akG,List.set_eq_take_append_cons_drop,al7 h];simp
theorem YB(bs:List UInt8):(byc bs).map d6=List.replicate bs.length 1:=by
 rw[List.eq_replicate_iff];refine⟨WM,fun b g=>?_⟩;obtain⟨c,e,rfl⟩:=amV.1 g;obtain⟨d,_,rfl⟩:=amV.1 e;rfl
theorem Fc(bs:List UInt8):(bts bs).flatten=byc bs:=by
 induction bs with
 |nil=>rfl
 |cons b bs d=>simp only[bts,amE,ak6]at d ⊢;rw[d];rfl
abbrev Rt:={b:List UInt8 // b.length=32}
def rtc(r:Rt):List AV:=byc r.1
@[simp] theorem ak(r:Rt):(rtc r).length=32:=by rw[rtc,Uz,r.2]
theorem act(r:Rt):cut (rtc r) 0 32=rtc r:=dV (ak r)
theorem XV(r:Rt):chunk 1 32 (rtc r)=bts r.1:=Mq _ _ r.2
theorem dI(r:Rt):PuL (rtc r):=adk _
theorem qV(ρ:Nat->Nat)(r:Rt):bZ ρ (rtc r)=rtc r:=(dI r).ren ρ
theorem Ca(σ:St)(zs:List Nat)(r:Rt):fzL σ zs (rtc r)=rtc r:=(dI r).fz σ zs
theorem d8(r:Rt):bV (rtc r)=true:=NX _
theorem mh(r s:Rt):gj (rtc r) (rtc s)=some (decide (r=s)):=by
 rw[rtc,rtc,Qy WL];congr 1;grind
theorem lJ(r:Rt):(rtc r).map d6=List.replicate 32 1:=by rw[rtc,YB,r.2]
theorem Rc(r:Rt):iq [(32,1)] (rtc r)=true:=gD (by rw[lJ];rfl)
theorem Ou(r:Rt){j:Nat}(h:j<32):cut (rtc r) j 1=[.int .u8 ((r.1[j]'(by rw[r.2];exact h)).toNat:Int)]:=adH _ _
def Rt.set(r:Rt)(j:Nat)(b:UInt8):Rt:=⟨r.1.set j b,WO⟩
theorem CU(r:Rt){j:Nat}(h:j<32)(b:UInt8):spl (rtc r) j [.int .u8 (b.toNat:Int)]=rtc (r.set j b):=ae6 _ WL b
theorem jH(r:Rt):(bts r.1=[])=False:=by
 rw[eq_iff_iff,iff_false];intro h;have:=ajG List.length h;rw[H8,r.2]at this;grind
def rt0:Rt:=⟨List.replicate 32 0,rfl⟩
instance:Inhabited Rt:=⟨rt0⟩
abbrev Wd:={l:List Int // l.length=4}
def wdc(a:Wd):List AV:=a.1.map (.int .u64)
@[simp] theorem bq(a:Wd):(wdc a).length=4:=by rw[wdc,List.length_map,a.2]
theorem ac6(a:Wd):cut (wdc a) 0 4=wdc a:=dV (bq a)
theorem ju(a:Wd):PuL (wdc a):=by
 rw[Gq];intro x d;obtain⟨b,_,rfl⟩:=amV.1 d;trivial
theorem Sp(ρ:Nat->Nat)(r:Wd):bZ ρ (wdc r)=wdc r:=(ju r).ren ρ
theorem VS(σ:St)(zs:List Nat)(r:Wd):fzL σ zs (wdc r)=wdc r:=(ju r).fz σ zs
theorem sy(r:Wd):bV (wdc r)=true:=by simp[bV,wdc,AV.cell]
theorem L6:∀ {a b:List Int},a.length=b.length->gj (a.map (.int .u64)) (b.map (.int .u64))=some (decide (a=b))
 | [],[],_=>rfl
 | x :: a, y :: b, h => by
   have g:=L6 (a:=a) (b:=b) WO;have e:(x==y)=decide (x=y):=WO
   simp only[amE,gj,zy,amt]at g ⊢;simp_all
 | [],_::_,h|_::_,[],h=>by grind
theorem Qz(r s:Wd):gj (wdc r) (wdc s)=some (decide (r=s)):=by
 rw[wdc,wdc,L6 WL];congr 1;grind
theorem MN(r:Wd):(wdc r).map d6=List.replicate 4 1:=by
 rw[wdc,alN,List.eq_replicate_iff];refine⟨WO,fun b e=>?_⟩;obtain⟨c,f,rfl⟩:=amV.1 e;rfl
theorem Ov(r:Wd){j:Nat}(h:j<4):cut (wdc r) j 1=[.int .u64 (r.1[j]'(by rw[r.2];exact h))]:=by
 unfold cut wdc;rw[<-akG,<-akE,amG (by rw[r.2];exact h)];rfl
def Wd.set(r:Wd)(j:Nat)(x:Int):Wd:=⟨r.1.set j x,WO⟩
theorem oI(r:Wd){j:Nat}(h:j<4)(x:Int):spl (wdc r) j [.int .u64 x]=wdc (r.set j x):=by
 have e:j<r.1.length:=WL
 unfold spl wdc Wd.set;simp only;rw[<-akE,ajr,<-akG,List.set_eq_take_append_cons_drop,al7 e];simp
theorem Hj(r:Wd){j:Nat}(h:j<4):cut (wdc r) j 1=[.int .u64 (r.1.getD j 0)]:=by
 rw[Ov r h,alt,al6 WL];rfl
def wd0:Wd:=⟨List.replicate 4 0,rfl⟩
instance:Inhabited Wd:=⟨wd0⟩
structure Cp where
 ep:Int
 rt:Rt
 deriving Inhabited,DecidableEq
def cpC(x:Cp):List AV:=.int .u64 x.ep::(rtc x.rt)
@[simp] theorem aD(x:Cp):(cpC x).length=33:=by simp only[cpC,List.length_cons,List.length_append,List.length_nil,ak]
theorem lQ(ep:Int)(rt:Rt):.int .u64 ep::(rtc rt)=cpC ⟨ep,rt⟩:=rfl
theorem aaQ(x:Cp):cut (cpC x) 0 33=cpC x:=dV (aD x)
theorem TY(x:Cp):cut (cpC x) 0 1=[.int .u64 x.ep]:=by unfold cpC;all_goals rfl
theorem T0(x:Cp)(v:Int):spl (cpC x) 0 [.int .u64 v]=cpC { x with ep:=v }:=by unfold cpC;all_goals rfl
theorem TZ(x:Cp)(o n:Nat)(h1:1<=o)(h2:o+n<=33):cut (cpC x) o n=cut (rtc x.rt) (o-1) n:=by unfold cpC;rw[cS1];all_goals rfl
theorem TR(x:Cp)(o:Nat)(vs:List AV)(h1:1<=o)(h2:o+vs.length<=33):spl (cpC x) o vs=.int .u64 x.ep::(spl (rtc x.rt) (o-1) vs):=by unfold cpC;rw[pS1];all_goals rfl
theorem iG(x:Cp):bV (cpC x)=true:=by simp[cpC,bM,cF,cG,AV.cell,d8]
theorem gV(x:Cp):PuL (cpC x):=by simp[cpC,eJ,PuL,Pu,dI]
theorem CM(ρ:Nat->Nat)(x:Cp):bZ ρ (cpC x)=cpC x:=(gV x).ren ρ
theorem Gx(σ:St)(zs:List Nat)(x:Cp):fzL σ zs (cpC x)=cpC x:=(gV x).fz σ zs
theorem DV(x:Cp):(cpC x).map d6=ef [(33,1)]:=by simp only[cpC,amE,amN,amR,d6,lJ];decide +kernel
theorem aa5(x:Cp):iq [(33,1)] (cpC x)=true:=gD (DV x)
theorem GT(x y:Cp):gj (cpC x) (cpC y)=some (decide (x=y)):=by cases x;cases y;simp[cpC,jg,gj,zy,ak,bq,mh,ajx,oA,am3,aj5]
def cp0:Cp:=⟨0,rt0⟩
structure Pul where
 j:Cp
 f:Cp
 deriving Inhabited,DecidableEq
def dB(x:Pul):List AV:=cpC x.j++(cpC x.f)
@[simp] theorem ck(x:Pul):(dB x).length=66:=by simp only[dB,List.length_cons,List.length_append,List.length_nil,aD]
theorem iA(j:Cp)(f:Cp):cpC j++(cpC f)=dB ⟨j,f⟩:=rfl
theorem Hp(x:Pul):cut (dB x) 0 66=dB x:=dV (ck x)
theorem UU(x:Pul)(o n:Nat)(h1:0<=o)(h2:o+n<=33):cut (dB x) o n=cut (cpC x.j) (o-0) n:=by unfold dB;rw[cL1 (aD _)];all_goals rfl
theorem UW(x:Pul)(o:Nat)(vs:List AV)(h1:0<=o)(h2:o+vs.length<=33):spl (dB x) o vs=spl (cpC x.j) (o-0) vs++(cpC x.f):=by unfold dB;rw[pL1 (aD _)];all_goals rfl
theorem UT(x:Pul)(o n:Nat)(h1:33<=o)(h2:o+n<=66):cut (dB x) o n=cut (cpC x.f) (o-33) n:=by unfold dB;rw[cR1 (aD _)];all_goals rfl
theorem UV(x:Pul)(o:Nat)(vs:List AV)(h1:33<=o)(h2:o+vs.length<=66):spl (dB x) o vs=cpC x.j++(spl (cpC x.f) (o-33) vs):=by unfold dB;rw[pR1 (aD _)];all_goals rfl
theorem AJ(x:Pul):bV (dB x)=true:=by simp[dB,bM,cF,cG,AV.cell,iG]
theorem Ar(x:Pul):PuL (dB x):=by simp[dB,eJ,PuL,Pu,gV]
theorem Ht(ρ:Nat->Nat)(x:Pul):bZ ρ (dB x)=dB x:=(Ar x).ren ρ
theorem I0(σ:St)(zs:List Nat)(x:Pul):fzL σ zs (dB x)=dB x:=(Ar x).fz σ zs
theorem H6(x:Pul):(dB x).map d6=ef [(66,1)]:=by simp only[dB,amE,amN,amR,d6,DV];decide +kernel
theorem L7(x y:Pul):gj (dB x) (dB y)=some (decide (x=y)):=by cases x;cases y;simp[dB,jg,gj,zy,ak,bq,GT,ajx,oA,am3,aj5]
def R4:Pul:=⟨cp0,cp0⟩
structure Blk where
 pul:Pul
 slot:Int
 root:Rt
 parent:Rt
 payload:Rt
 diff:Wd
 pdiff:Wd
 just:Cp
 fin:Cp
 timely:Bool
 deriving Inhabited,DecidableEq
def aO(x:Blk):List AV:=dB x.pul++(.int .u64 x.slot::(rtc x.root++(rtc x.parent++(rtc x.payload++(wdc x.diff++(wdc x.pdiff++(cpC x.just++(cpC x.fin++[.bool x.timely]))))))))
@[simp] theorem bX(x:Blk):(aO x).length=238:=by simp only[aO,List.length_cons,List.length_append,List.length_nil,aD,ck,ak,bq]
theorem fC(pul:Pul)(slot:Int)(root:Rt)(parent:Rt)(payload:Rt)(diff:Wd)(pdiff:Wd)(just:Cp)(fin:Cp)(timely:Bool):dB pul++(.int .u64 slot::(rtc root++(rtc parent++(rtc payload++(wdc diff++(wdc pdiff++(cpC just++(cpC fin++[.bool timely]))))))))=aO ⟨pul,slot,root,parent,payload,diff,pdiff,just,fin,timely⟩:=rfl
theorem XI(x:Blk):cut (aO x) 0 238=aO x:=dV (bX x)
theorem N5(x:Blk)(o n:Nat)(h1:0<=o)(h2:o+n<=66):cut (aO x) o n=cut (dB x.pul) (o-0) n:=by unfold aO;rw[cL1 (ck _)];all_goals rfl
theorem N7(x:Blk)(o:Nat)(vs:List AV)(h1:0<=o)(h2:o+vs.length<=66):spl (aO x) o vs=spl (dB x.pul) (o-0) vs++(.int .u64 x.slot::(rtc x.root++(rtc x.parent++(rtc x.payload++(wdc x.diff++(wdc x.pdiff++(cpC x.just++(cpC x.fin++[.bool x.timely])))))))):=by unfold aO;rw[pL1 (ck _)];all_goals rfl
theorem JL(x:Blk):cut (aO x) 66 1=[.int .u64 x.slot]:=by unfold aO;rw[cR1 (ck _)];simp only[Nat.reduceSub];all_goals rfl
theorem JP(x:Blk)(v:Int):spl (aO x) 66 [.int .u64 v]=aO { x with slot:=v }:=by unfold aO;rw[pR1 (ck _)];simp only[Nat.reduceSub];all_goals rfl
theorem JK(x:Blk)(o n:Nat)(h1:67<=o)(h2:o+n<=99):cut (aO x) o n=cut (rtc x.root) (o-67) n:=by unfold aO;rw[cR1 (ck _),cS1,cL1 (ak _)];rw[show o-66-1=o-67 by omega]
theorem JO(x:Blk)(o:Nat)(vs:List AV)(h1:67<=o)(h2:o+vs.length<=99):spl (aO x) o vs=dB x.pul++(.int .u64 x.slot::(spl (rtc x.root) (o-67) vs++(rtc x.parent++(rtc x.payload++(wdc x.diff++(wdc x.pdiff++(cpC x.just++(cpC x.fin++[.bool x.timely])))))))):=by unfold aO;rw[pR1 (ck _),pS1,pL1 (ak _)];rw[show o-66-1=o-67 by omega]
theorem FE(x:Blk)(o n:Nat)(h1:99<=o)(h2:o+n<=131):cut (aO x) o n=cut (rtc x.parent) (o-99) n:=by unfold aO;rw[cR1 (ck _),cS1];rw[cR1 (ak _),cL1 (ak _)];rw[show o-66-1-32=o-99 by omega]
theorem FG(x:Blk)(o:Nat)(vs:List AV)(h1:99<=o)(h2:o+vs.length<=131):spl (aO x) o vs=dB x.pul++(.int .u64 x.slot::(rtc x.root++(spl (rtc x.parent) (o-99) vs++(rtc x.payload++(wdc x.diff++(wdc x.pdiff++(cpC x.just++(cpC x.fin++[.bool x.timely])))))))):=by unfold aO;rw[pR1 (ck _),pS1];rw[pR1 (ak _),pL1 (ak _)];rw[show o-66-1-32=o-99 by omega]
theorem Dp(x:Blk)(o n:Nat)(h1:131<=o)(h2:o+n<=163):cut (aO x) o n=cut (rtc x.payload) (o-131) n:=by unfold aO;rw[cR1 (ck _),cS1];rw[cR1 (ak _),cR1 (ak _),cL1 (ak _)];rw[show o-66-1-32-32=o-131 by omega]
theorem Dq(x:Blk)(o:Nat)(vs:List AV)(h1:131<=o)(h2:o+vs.length<=163):spl (aO x) o vs=dB x.pul++(.int .u64 x.slot::(rtc x.root++(rtc x.parent++(spl (rtc x.payload) (o-131) vs++(wdc x.diff++(wdc x.pdiff++(cpC x.just++(cpC x.fin++[.bool x.timely])))))))):=by unfold aO;rw[pR1 (ck _),pS1];rw[pR1 (ak _),pR1 (ak _),pL1 (ak _)];rw[show o-66-1-32-32=o-131 by omega]
theorem JI(x:Blk)(o n:Nat)(h1:163<=o)(h2:o+n<=167):cut (aO x) o n=cut (wdc x.diff) (o-163) n:=by unfold aO;rw[cR1 (ck _),cS1];rw[cR1 (ak _),cR1 (ak _)];rw[cR1 (ak _),cL1 (bq _)];rw[show o-66-1-32-32-32=o-163 by omega]
theorem JM(x:Blk)(o:Nat)(vs:List AV)(h1:163<=o)(h2:o+vs.length<=167):spl (aO x) o vs=dB x.pul++(.int .u64 x.slot::(rtc x.root++(rtc x.parent++(rtc x.payload++(spl (wdc x.diff) (o-163) vs++(wdc x.pdiff++(cpC x.just++(cpC x.fin++[.bool x.timely])))))))):=by unfold aO;rw[pR1 (ck _),pS1];rw[pR1 (ak _),pR1 (ak _)];rw[pR1 (ak _),pL1 (bq _)];rw[show o-66-1-32-32-32=o-163 by omega]
theorem DO(x:Blk)(o n:Nat)(h1:167<=o)(h2:o+n<=171):cut (aO x) o n=cut (wdc x.pdiff) (o-167) n:=by unfold aO;rw[cR1 (ck _),cS1];rw[cR1 (ak _),cR1 (ak _)];rw[cR1 (ak _),cR1 (bq _),cL1 (bq _)];rw[show o-66-1-32-32-32-4=o-167 by omega]
theorem DS(x:Blk)(o:Nat)(vs:List AV)(h1:167<=o)(h2:o+vs.length<=171):spl (aO x) o vs=dB x.pul++(.int .u64 x.slot::(rtc x.root++(rtc x.parent++(rtc x.payload++(wdc x.diff++(spl (wdc x.pdiff) (o-167) vs++(cpC x.just++(cpC x.fin++[.bool x.timely])))))))):=by unfold aO;rw[pR1 (ck _),pS1];rw[pR1 (ak _),pR1 (ak _)];rw[pR1 (ak _),pR1 (bq _),pL1 (bq _)];rw[show o-66-1-32-32-32-4=o-167 by omega]
theorem JJ(x:Blk)(o n:Nat)(h1:171<=o)(h2:o+n<=204):cut (aO x) o n=cut (cpC x.just) (o-171) n:=by unfold aO;rw[cR1 (ck _),cS1];rw[cR1 (ak _),cR1 (ak _)];rw[cR1 (ak _),cR1 (bq _)];rw[cR1 (bq _),cL1 (aD _)];rw[show o-66-1-32-32-32-4-4=o-171 by omega]
theorem JN(x:Blk)(o:Nat)(vs:List AV)(h1:171<=o)(h2:o+vs.length<=204):spl (aO x) o vs=dB x.pul++(.int .u64 x.slot::(rtc x.root++(rtc x.parent++(rtc x.payload++(wdc x.diff++(wdc x.pdiff++(spl (cpC x.just) (o-171) vs++(cpC x.fin++[.bool x.timely])))))))):=by unfold aO;rw[pR1 (ck _),pS1];rw[pR1 (ak _),pR1 (ak _)];rw[pR1 (ak _),pR1 (bq _)];rw[pR1 (bq _),pL1 (aD _)];rw[show o-66-1-32-32-32-4-4=o-171 by omega]
theorem N4(x:Blk)(o n:Nat)(h1:204<=o)(h2:o+n<=237):cut (aO x) o n=cut (cpC x.fin) (o-204) n:=by unfold aO;rw[cR1 (ck _),cS1];rw[cR1 (ak _),cR1 (ak _)];rw[cR1 (ak _),cR1 (bq _)];rw[cR1 (bq _),cR1 (aD _),cL1 (aD _)];rw[show o-66-1-32-32-32-4-4-33=o-204 by omega]
theorem N6(x:Blk)(o:Nat)(vs:List AV)(h1:204<=o)(h2:o+vs.length<=237):spl (aO x) o vs=dB x.pul++(.int .u64 x.slot::(rtc x.root++(rtc x.parent++(rtc x.payload++(wdc x.diff++(wdc x.pdiff++(cpC x.just++(spl (cpC x.fin) (o-204) vs++[.bool x.timely])))))))):=by unfold aO;rw[pR1 (ck _),pS1];rw[pR1 (ak _),pR1 (ak _)];rw[pR1 (ak _),pR1 (bq _)];rw[pR1 (bq _),pR1 (aD _),pL1 (aD _)];rw[show o-66-1-32-32-32-4-4-33=o-204 by omega]
theorem FF(x:Blk):cut (aO x) 237 1=[.bool x.timely]:=by unfold aO;rw[cR1 (ck _),cS1];rw[cR1 (ak _),cR1 (ak _)];rw[cR1 (ak _),cR1 (bq _)];rw[cR1 (bq _),cR1 (aD _),cR1 (aD _)];simp only[Nat.reduceSub];all_goals rfl
theorem FI(x:Blk)(v:Bool):spl (aO x) 237 [.bool v]=aO { x with timely:=v }:=by unfold aO;rw[pR1 (ck _),pS1];rw[pR1 (ak _),pR1 (ak _)];rw[pR1 (ak _),pR1 (bq _)];rw[pR1 (bq _),pR1 (aD _),pR1 (aD _)];simp only[Nat.reduceSub];all_goals rfl
theorem qR(x:Blk):bV (aO x)=true:=by simp[aO,bM,cF,cG,AV.cell,iG,AJ,d8,sy]
theorem gA(x:Blk):PuL (aO x):=by simp[aO,eJ,PuL,Pu,gV,Ar,dI,ju]
theorem Nm(ρ:Nat->Nat)(x:Blk):bZ ρ (aO x)=aO x:=(gA x).ren ρ
theorem Rh(σ:St)(zs:List Nat)(x:Blk):fzL σ zs (aO x)=aO x:=(gA x).fz σ zs
theorem H5(x:Blk):(aO x).map d6=ef [(237,1),(1,0)]:=by simp only[aO,amE,amN,amR,d6,DV,H6,lJ,MN];decide +kernel
theorem Yk(x:Blk):iq [(237,1),(1,0)] (aO x)=true:=gD (H5 x)
theorem L5(x y:Blk):gj (aO x) (aO y)=some (decide (x=y)):=by cases x;cases y;simp[aO,jg,gj,zy,ak,bq,GT,L7,mh,Qz,ajx,oA,am3,aj5]
def cw:Blk:=⟨R4,0,rt0,rt0,rt0,wd0,wd0,cp0,cp0,false⟩
structure Att where
 slot:Int
 root:Rt
 target:Cp
 vals:AV
 deriving Inhabited
def cy(x:Att):List AV:=.int .u64 x.slot::(rtc x.root++(cpC x.target++[x.vals]))
@[simp] theorem dz(x:Att):(cy x).length=67:=by simp only[cy,List.length_cons,List.length_append,List.length_nil,aD,ak]
theorem IN(slot:Int)(root:Rt)(target:Cp)(vals:AV):.int .u64 slot::(rtc root++(cpC target++[vals]))=cy ⟨slot,root,target,vals⟩:=rfl
theorem Xz(x:Att):cut (cy x) 0 67=cy x:=dV (dz x)
theorem JD(x:Att):cut (cy x) 0 1=[.int .u64 x.slot]:=by unfold cy;all_goals rfl
theorem JG(x:Att)(v:Int):spl (cy x) 0 [.int .u64 v]=cy { x with slot:=v }:=by unfold cy;all_goals rfl
theorem JC(x:Att)(o n:Nat)(h1:1<=o)(h2:o+n<=33):cut (cy x) o n=cut (rtc x.root) (o-1) n:=by unfold cy;rw[cS1,cL1 (ak _)];all_goals rfl
theorem JF(x:Att)(o:Nat)(vs:List AV)(h1:1<=o)(h2:o+vs.length<=33):spl (cy x) o vs=.int .u64 x.slot::(spl (rtc x.root) (o-1) vs++(cpC x.target++[x.vals])):=by unfold cy;rw[pS1,pL1 (ak _)];all_goals rfl
theorem FC(x:Att)(o n:Nat)(h1:33<=o)(h2:o+n<=66):cut (cy x) o n=cut (cpC x.target) (o-33) n:=by unfold cy;rw[cS1,cR1 (ak _),cL1 (aD _)];rw[show o-1-32=o-33 by omega]
theorem FD(x:Att)(o:Nat)(vs:List AV)(h1:33<=o)(h2:o+vs.length<=66):spl (cy x) o vs=.int .u64 x.slot::(rtc x.root++(spl (cpC x.target) (o-33) vs++[x.vals])):=by unfold cy;rw[pS1,pR1 (ak _),pL1 (aD _)];rw[show o-1-32=o-33 by omega]
theorem JE(x:Att):cut (cy x) 66 1=[x.vals]:=by unfold cy;rw[cS1,cR1 (ak _),cR1 (aD _)];simp only[Nat.reduceSub];all_goals rfl
theorem JH(x:Att)(v:AV):spl (cy x) 66 [v]=cy { x with vals:=v }:=by unfold cy;rw[pS1,pR1 (ak _),pR1 (aD _)];simp only[Nat.reduceSub];all_goals rfl
def Att.map(g:AV->AV)(x:Att):Att:={ x with vals:=g x.vals }
theorem Att.map_mk(g:AV->AV)(slot:Int)(root:Rt)(target:Cp)(vals:AV):Att.map g ⟨slot,root,target,vals⟩=⟨slot,root,target,g vals⟩:=rfl
def Att.good(x:Att):Bool:=x.vals.cell
theorem Att.good_mk(slot:Int)(root:Rt)(target:Cp)(vals:AV):Att.good ⟨slot,root,target,vals⟩=(vals.cell):=rfl
def Att.Pure(x:Att):Prop:=Pu x.vals
theorem yv(x:Att):bV (cy x)=x.good:=by simp[cy,Att.good,am3,bM,cF,cG,AV.cell,iG,d8]
theorem fB(x:Att):PuL (cy x)↔x.Pure:=by simp[cy,Att.Pure,eJ,PuL,Pu,gV,dI]
theorem Nl(ρ:Nat->Nat)(x:Att):bZ ρ (cy x)=cy (x.map (ren ρ)):=by simp only[cy,Att.map,mY,bZ,ren,CM,qV]
theorem Rg(σ:St)(zs:List Nat)(x:Att):fzL σ zs (cy x)=cy (x.map (fz σ zs)):=by simp only[cy,Att.map,oz,fzL,fz,Gx,Ca]
def Do:Att:=⟨0,rt0,cp0,.sl 0 true []⟩
structure Clm where
 src:Int
 tgt:Int
 root:Rt
 vals:AV
 deriving Inhabited
def du(x:Clm):List AV:=.int .u64 x.src::(.int .u64 x.tgt::(rtc x.root++[x.vals]))
@[simp] theorem ir(x:Clm):(du x).length=35:=by simp only[du,List.length_cons,List.length_append,List.length_nil,ak]
theorem LQ(src:Int)(tgt:Int)(root:Rt)(vals:AV):.int .u64 src::(.int .u64 tgt::(rtc root++[vals]))=du ⟨src,tgt,root,vals⟩:=rfl
theorem GV(x:Clm):cut (du x) 0 35=du x:=dV (ir x)
theorem zG(x:Clm):cut (du x) 0 1=[.int .u64 x.src]:=by unfold du;all_goals rfl
theorem zJ(x:Clm)(v:Int):spl (du x) 0 [.int .u64 v]=du { x with src:=v }:=by unfold du;all_goals rfl
theorem zI(x:Clm):cut (du x) 1 1=[.int .u64 x.tgt]:=by unfold du;rw[cS1];simp only[Nat.reduceSub];all_goals rfl
theorem zK(x:Clm)(v:Int):spl (du x) 1 [.int .u64 v]=du { x with tgt:=v }:=by unfold du;rw[pS1];simp only[Nat.reduceSub];all_goals rfl
theorem xR(x:Clm)(o n:Nat)(h1:2<=o)(h2:o+n<=34):cut (du x) o n=cut (rtc x.root) (o-2) n:=by unfold du;rw[cS1,cS1,cL1 (ak _)];rw[show o-1-1=o-2 by omega]
theorem xZ(x:Clm)(o:Nat)(vs:List AV)(h1:2<=o)(h2:o+vs.length<=34):spl (du x) o vs=.int .u64 x.src::(.int .u64 x.tgt::(spl (rtc x.root) (o-2) vs++[x.vals])):=by unfold du;rw[pS1,pS1,pL1 (ak _)];rw[show o-1-1=o-2 by omega]
theorem xY(x:Clm):cut (du x) 34 1=[x.vals]:=by unfold du;rw[cS1,cS1,cR1 (ak _)];simp only[Nat.reduceSub];all_goals rfl
theorem ya(x:Clm)(v:AV):spl (du x) 34 [v]=du { x with vals:=v }:=by unfold du;rw[pS1,pS1,pR1 (ak _)];simp only[Nat.reduceSub];all_goals rfl
def Clm.map(g:AV->AV)(x:Clm):Clm:={ x with vals:=g x.vals }
theorem Clm.map_mk(g:AV->AV)(src:Int)(tgt:Int)(root:Rt)(vals:AV):Clm.map g ⟨src,tgt,root,vals⟩=⟨src,tgt,root,g vals⟩:=rfl
def Clm.good(x:Clm):Bool:=x.vals.cell
theorem Clm.good_mk(src:Int)(tgt:Int)(root:Rt)(vals:AV):Clm.good ⟨src,tgt,root,vals⟩=(vals.cell):=rfl
def Clm.Pure(x:Clm):Prop:=Pu x.vals
theorem qn(x:Clm):bV (du x)=x.good:=by simp[du,Clm.good,am3,bM,cF,cG,AV.cell,d8]
theorem re(x:Clm):PuL (du x)↔x.Pure:=by simp[du,Clm.Pure,eJ,PuL,Pu,dI]
theorem y6(ρ:Nat->Nat)(x:Clm):bZ ρ (du x)=du (x.map (ren ρ)):=by simp only[du,Clm.map,mY,bZ,ren,qV]
theorem BY(σ:St)(zs:List Nat)(x:Clm):fzL σ zs (du x)=du (x.map (fz σ zs)):=by simp only[du,Clm.map,oz,fzL,fz,Ca]
def adD:Clm:=⟨0,0,rt0,.sl 0 true []⟩
structure Slg where
 fst:Clm
 snd:Clm
 deriving Inhabited
def d7(x:Slg):List AV:=du x.fst++(du x.snd)
@[simp] theorem dX(x:Slg):(d7 x).length=70:=by simp only[d7,List.length_cons,List.length_append,List.length_nil,ir]
theorem jm(fst:Clm)(snd:Clm):du fst++(du snd)=d7 ⟨fst,snd⟩:=rfl
theorem HC(x:Slg):cut (d7 x) 0 70=d7 x:=dV (dX x)
theorem Bq(x:Slg)(o n:Nat)(h1:0<=o)(h2:o+n<=35):cut (d7 x) o n=cut (du x.fst) (o-0) n:=by unfold d7;rw[cL1 (ir _)];all_goals rfl
theorem Bs(x:Slg)(o:Nat)(vs:List AV)(h1:0<=o)(h2:o+vs.length<=35):spl (d7 x) o vs=spl (du x.fst) (o-0) vs++(du x.snd):=by unfold d7;rw[pL1 (ir _)];all_goals rfl
theorem Br(x:Slg)(o n:Nat)(h1:35<=o)(h2:o+n<=70):cut (d7 x) o n=cut (du x.snd) (o-35) n:=by unfold d7;rw[cR1 (ir _)];all_goals rfl
theorem Bx(x:Slg)(o:Nat)(vs:List AV)(h1:35<=o)(h2:o+vs.length<=70):spl (d7 x) o vs=du x.fst++(spl (du x.snd) (o-35) vs):=by unfold d7;rw[pR1 (ir _)];all_goals rfl
def Slg.map(g:AV->AV)(x:Slg):Slg:={ x with fst:=x.fst.map g,snd:=x.snd.map g }
theorem Slg.map_mk(g:AV->AV)(fst:Clm)(snd:Clm):Slg.map g ⟨fst,snd⟩=⟨fst.map g,snd.map g⟩:=rfl
def Slg.good(x:Slg):Bool:=x.fst.good&&x.snd.good
theorem Slg.good_mk(fst:Clm)(snd:Clm):Slg.good ⟨fst,snd⟩=(fst.good&&snd.good):=rfl
def Slg.Pure(x:Slg):Prop:=x.fst.Pure/\x.snd.Pure
theorem qo(x:Slg):bV (d7 x)=x.good:=by simp[d7,Slg.good,am3,bM,cF,cG,AV.cell,qn]
theorem j7(x:Slg):PuL (d7 x)↔x.Pure:=by simp[d7,Slg.Pure,eJ,PuL,Pu,re]
theorem y7(ρ:Nat->Nat)(x:Slg):bZ ρ (d7 x)=d7 (x.map (ren ρ)):=by simp only[d7,Slg.map,mY,bZ,ren,y6]
theorem Dr(σ:St)(zs:List Nat)(x:Slg):fzL σ zs (d7 x)=d7 (x.map (fz σ zs)):=by simp only[d7,Slg.map,oz,fzL,fz,BY]
def KY:Slg:=⟨adD,adD⟩
structure Tab where
 cp:Cp
 bals:AV
 deriving Inhabited
def ar(x:Tab):List AV:=cpC x.cp++[x.bals]
@[simp] theorem eR(x:Tab):(ar x).length=34:=by simp only[ar,List.length_cons,List.length_append,List.length_nil,aD]
theorem jz(cp:Cp)(bals:AV):cpC cp++[bals]=ar ⟨cp,bals⟩:=rfl
theorem ZV(x:Tab):cut (ar x) 0 34=ar x:=dV (eR x)
theorem S5(x:Tab)(o n:Nat)(h1:0<=o)(h2:o+n<=33):cut (ar x) o n=cut (cpC x.cp) (o-0) n:=by unfold ar;rw[cL1 (aD _)];all_goals rfl
theorem S6(x:Tab)(o:Nat)(vs:List AV)(h1:0<=o)(h2:o+vs.length<=33):spl (ar x) o vs=spl (cpC x.cp) (o-0) vs++[x.bals]:=by unfold ar;rw[pL1 (aD _)];all_goals rfl
theorem LK(x:Tab):cut (ar x) 33 1=[x.bals]:=by unfold ar;rw[cR1 (aD _)];simp only[Nat.reduceSub];all_goals rfl
theorem LL(x:Tab)(v:AV):spl (ar x) 33 [v]=ar { x with bals:=v }:=by unfold ar;rw[pR1 (aD _)];simp only[Nat.reduceSub];all_goals rfl
def Tab.map(g:AV->AV)(x:Tab):Tab:={ x with bals:=g x.bals }
theorem Tab.map_mk(g:AV->AV)(cp:Cp)(bals:AV):Tab.map g ⟨cp,bals⟩=⟨cp,g bals⟩:=rfl
def Tab.good(x:Tab):Bool:=x.bals.cell
theorem Tab.good_mk(cp:Cp)(bals:AV):Tab.good ⟨cp,bals⟩=(bals.cell):=rfl
def Tab.Pure(x:Tab):Prop:=Pu x.bals
theorem yE(x:Tab):bV (ar x)=x.good:=by simp[ar,Tab.good,am3,bM,cF,cG,AV.cell,iG]
theorem eP(x:Tab):PuL (ar x)↔x.Pure:=by simp[ar,Tab.Pure,eJ,PuL,Pu,gV]
theorem Ns(ρ:Nat->Nat)(x:Tab):bZ ρ (ar x)=ar (x.map (ren ρ)):=by simp only[ar,Tab.map,mY,bZ,ren,CM]
theorem Rp(σ:St)(zs:List Nat)(x:Tab):fzL σ zs (ar x)=ar (x.map (fz σ zs)):=by simp only[ar,Tab.map,oz,fzL,fz,Gx]
def yp:Tab:=⟨cp0,.sl 0 true []⟩
structure Vdt where
 tag:Int
 kind:Int
 latest:Rt
 deriving Inhabited,DecidableEq
def cA(x:Vdt):List AV:=.int .u64 x.tag::(.int .i64 x.kind::(rtc x.latest))
@[simp] theorem fN(x:Vdt):(cA x).length=34:=by simp only[cA,List.length_cons,List.length_append,List.length_nil,ak]
theorem lB(tag:Int)(kind:Int)(latest:Rt):.int .u64 tag::(.int .i64 kind::(rtc latest))=cA ⟨tag,kind,latest⟩:=rfl
theorem HK(x:Vdt):cut (cA x) 0 34=cA x:=dV (fN x)
theorem BG(x:Vdt):cut (cA x) 0 1=[.int .u64 x.tag]:=by unfold cA;all_goals rfl
theorem BH(x:Vdt)(v:Int):spl (cA x) 0 [.int .u64 v]=cA { x with tag:=v }:=by unfold cA;all_goals rfl
theorem yJ(x:Vdt):cut (cA x) 1 1=[.int .i64 x.kind]:=by unfold cA;rw[cS1];simp only[Nat.reduceSub];all_goals rfl
theorem yK(x:Vdt)(v:Int):spl (cA x) 1 [.int .i64 v]=cA { x with kind:=v }:=by unfold cA;rw[pS1];simp only[Nat.reduceSub];all_goals rfl
theorem vk(x:Vdt)(o n:Nat)(h1:2<=o)(h2:o+n<=34):cut (cA x) o n=cut (rtc x.latest) (o-2) n:=by unfold cA;rw[cS1,cS1];rw[show o-1-1=o-2 by omega]
theorem vl(x:Vdt)(o:Nat)(vs:List AV)(h1:2<=o)(h2:o+vs.length<=34):spl (cA x) o vs=.int .u64 x.tag::(.int .i64 x.kind::(spl (rtc x.latest) (o-2) vs)):=by unfold cA;rw[pS1,pS1];rw[show o-1-1=o-2 by omega]
theorem qp(x:Vdt):bV (cA x)=true:=by simp[cA,bM,cF,cG,AV.cell,d8]
theorem uI(x:Vdt):PuL (cA x):=by simp[cA,eJ,PuL,Pu,dI]
theorem y8(ρ:Nat->Nat)(x:Vdt):bZ ρ (cA x)=cA x:=(uI x).ren ρ
theorem Cb(σ:St)(zs:List Nat)(x:Vdt):fzL σ zs (cA x)=cA x:=(uI x).fz σ zs
theorem D4(x:Vdt):(cA x).map d6=ef [(34,1)]:=by simp only[cA,amE,amN,amR,d6,lJ];decide +kernel
theorem G2(x:Vdt):iq [(34,1)] (cA x)=true:=gD (D4 x)
theorem FW(x y:Vdt):gj (cA x) (cA y)=some (decide (x=y)):=by cases x;cases y;simp[cA,jg,gj,zy,ak,bq,mh,ajx,oA,am3,aj5]
def lZ:Vdt:=⟨0,0,rt0⟩
structure SOp where
 kind:Int
 blk:Blk
 att:Att
 slg:Slg
 tab:Tab
 vdt:Vdt
 write:Int
 keep:Int
 deriving Inhabited
def dj(x:SOp):List AV:=.int .i64 x.kind::(aO x.blk++(cy x.att++(d7 x.slg++(ar x.tab++(cA x.vdt++(.int .i64 x.write::[.int .i64 x.keep]))))))
@[simp] theorem Fj(x:SOp):(dj x).length=446:=by simp only[dj,List.length_cons,List.length_append,List.length_nil,dz,bX,dX,eR,fN]
theorem jb(kind:Int)(blk:Blk)(att:Att)(slg:Slg)(tab:Tab)(vdt:Vdt)(write:Int)(keep:Int):.int .i64 kind::(aO blk++(cy att++(d7 slg++(ar tab++(cA vdt++(.int .i64 write::[.int .i64 keep]))))))=dj ⟨kind,blk,att,slg,tab,vdt,write,keep⟩:=rfl
theorem Hx(x:SOp):cut (dj x) 0 446=dj x:=dV (Fj x)
theorem yF(x:SOp):cut (dj x) 0 1=[.int .i64 x.kind]:=by unfold dj;all_goals rfl
theorem yI(x:SOp)(v:Int):spl (dj x) 0 [.int .i64 v]=dj { x with kind:=v }:=by unfold dj;all_goals rfl
theorem AL(x:SOp)(o n:Nat)(h1:1<=o)(h2:o+n<=239):cut (dj x) o n=cut (aO x.blk) (o-1) n:=by unfold dj;rw[cS1,cL1 (bX _)];all_goals rfl
theorem AT(x:SOp)(o:Nat)(vs:List AV)(h1:1<=o)(h2:o+vs.length<=239):spl (dj x) o vs=.int .i64 x.kind::(spl (aO x.blk) (o-1) vs++(cy x.att++(d7 x.slg++(ar x.tab++(cA x.vdt++(.int .i64 x.write::[.int .i64 x.keep])))))):=by unfold dj;rw[pS1,pL1 (bX _)];all_goals rfl
theorem AK(x:SOp)(o n:Nat)(h1:239<=o)(h2:o+n<=306):cut (dj x) o n=cut (cy x.att) (o-239) n:=by unfold dj;rw[cS1,cR1 (bX _),cL1 (dz _)];rw[show o-1-238=o-239 by omega]
theorem AS(x:SOp)(o:Nat)(vs:List AV)(h1:239<=o)(h2:o+vs.length<=306):spl (dj x) o vs=.int .i64 x.kind::(aO x.blk++(spl (cy x.att) (o-239) vs++(d7 x.slg++(ar x.tab++(cA x.vdt++(.int .i64 x.write::[.int .i64 x.keep])))))):=by unfold dj;rw[pS1,pR1 (bX _),pL1 (dz _)];rw[show o-1-238=o-239 by omega]
theorem AM(x:SOp)(o n:Nat)(h1:306<=o)(h2:o+n<=376):cut (dj x) o n=cut (d7 x.slg) (o-306) n:=by unfold dj;rw[cS1,cR1 (bX _)];rw[cR1 (dz _),cL1 (dX _)];rw[show o-1-238-67=o-306 by omega]
theorem AU(x:SOp)(o:Nat)(vs:List AV)(h1:306<=o)(h2:o+vs.length<=376):spl (dj x) o vs=.int .i64 x.kind::(aO x.blk++(cy x.att++(spl (d7 x.slg) (o-306) vs++(ar x.tab++(cA x.vdt++(.int .i64 x.write::[.int .i64 x.keep])))))):=by unfold dj;rw[pS1,pR1 (bX _)];rw[pR1 (dz _),pL1 (dX _)];rw[show o-1-238-67=o-306 by omega]
theorem AP(x:SOp)(o n:Nat)(h1:376<=o)(h2:o+n<=410):cut (dj x) o n=cut (ar x.tab) (o-376) n:=by unfold dj;rw[cS1,cR1 (bX _)];rw[cR1 (dz _),cR1 (dX _),cL1 (eR _)];rw[show o-1-238-67-70=o-376 by omega]
theorem AW(x:SOp)(o:Nat)(vs:List AV)(h1:376<=o)(h2:o+vs.length<=410):spl (dj x) o vs=.int .i64 x.kind::(aO x.blk++(cy x.att++(d7 x.slg++(spl (ar x.tab) (o-376) vs++(cA x.vdt++(.int .i64 x.write::[.int .i64 x.keep])))))):=by unfold dj;rw[pS1,pR1 (bX _)];rw[pR1 (dz _),pR1 (dX _),pL1 (eR _)];rw[show o-1-238-67-70=o-376 by omega]
theorem AQ(x:SOp)(o n:Nat)(h1:410<=o)(h2:o+n<=444):cut (dj x) o n=cut (cA x.vdt) (o-410) n:=by unfold dj;rw[cS1,cR1 (bX _)];rw[cR1 (dz _),cR1 (dX _)];rw[cR1 (eR _),cL1 (fN _)];rw[show o-1-238-67-70-34=o-410 by omega]
theorem AX(x:SOp)(o:Nat)(vs:List AV)(h1:410<=o)(h2:o+vs.length<=444):spl (dj x) o vs=.int .i64 x.kind::(aO x.blk++(cy x.att++(d7 x.slg++(ar x.tab++(spl (cA x.vdt) (o-410) vs++(.int .i64 x.write::[.int .i64 x.keep])))))):=by unfold dj;rw[pS1,pR1 (bX _)];rw[pR1 (dz _),pR1 (dX _)];rw[pR1 (eR _),pL1 (fN _)];rw[show o-1-238-67-70-34=o-410 by omega]
theorem wl(x:SOp):cut (dj x) 444 1=[.int .i64 x.write]:=by unfold dj;rw[cS1,cR1 (bX _)];rw[cR1 (dz _),cR1 (dX _)];rw[cR1 (eR _),cR1 (fN _)];simp only[Nat.reduceSub];all_goals rfl
theorem wm(x:SOp)(v:Int):spl (dj x) 444 [.int .i64 v]=dj { x with write:=v }:=by unfold dj;rw[pS1,pR1 (bX _)];rw[pR1 (dz _),pR1 (dX _)];rw[pR1 (eR _),pR1 (fN _)];simp only[Nat.reduceSub];all_goals rfl
theorem yC(x:SOp):cut (dj x) 445 1=[.int .i64 x.keep]:=by unfold dj;rw[cS1,cR1 (bX _)];rw[cR1 (dz _),cR1 (dX _)];rw[cR1 (eR _),cR1 (fN _),cS1];simp only[Nat.reduceSub];all_goals rfl
theorem yH(x:SOp)(v:Int):spl (dj x) 445 [.int .i64 v]=dj { x with keep:=v }:=by unfold dj;rw[pS1,pR1 (bX _)];rw[pR1 (dz _),pR1 (dX _)];rw[pR1 (eR _),pR1 (fN _),pS1];simp only[Nat.reduceSub];all_goals rfl
def SOp.map(g:AV->AV)(x:SOp):SOp:={ x with att:=x.att.map g,slg:=x.slg.map g,tab:=x.tab.map g }
theorem SOp.map_mk(g:AV->AV)(kind:Int)(blk:Blk)(att:Att)(slg:Slg)(tab:Tab)(vdt:Vdt)(write:Int)(keep:Int):SOp.map g ⟨kind,blk,att,slg,tab,vdt,write,keep⟩=⟨kind,blk,att.map g,slg.map g,tab.map g,vdt,write,keep⟩:=rfl
def SOp.good(x:SOp):Bool:=x.att.good&&x.slg.good&&x.tab.good
theorem SOp.good_mk(kind:Int)(blk:Blk)(att:Att)(slg:Slg)(tab:Tab)(vdt:Vdt)(write:Int)(keep:Int):SOp.good ⟨kind,blk,att,slg,tab,vdt,write,keep⟩=(att.good&&slg.good&&tab.good):=rfl
def SOp.Pure(x:SOp):Prop:=x.att.Pure/\x.slg.Pure/\x.tab.Pure
theorem JW(x:SOp):bV (dj x)=x.good:=by simp[dj,SOp.good,am3,bM,cF,cG,AV.cell,yv,qR,qo,yE,qp]
theorem jd(x:SOp):PuL (dj x)↔x.Pure:=by simp[dj,SOp.Pure,eJ,PuL,Pu,fB,gA,j7,eP,uI]
theorem Hu(ρ:Nat->Nat)(x:SOp):bZ ρ (dj x)=dj (x.map (ren ρ)):=by simp only[dj,SOp.map,mY,bZ,ren,Nl,Nm,y7,Ns,y8]
theorem I1(σ:St)(zs:List Nat)(x:SOp):fzL σ zs (dj x)=dj (x.map (fz σ zs)):=by simp only[dj,SOp.map,oz,fzL,fz,Rg,Rh,Dr,Rp,Cb]
def ahf:SOp:=⟨0,cw,Do,KY,yp,lZ,0,0⟩
end Go.FH
namespace Go.FH
open Go Go.RowKit
theorem ahT(P:Program)(nv:Nat)(vs:List AV)(ts:List (Nat×AV))(σ:St)(K:AV->St->Prop):type_of% (evO P ⟨nv,vs,ts⟩ σ K):=evO P ⟨nv,vs,ts⟩ σ K
theorem ahU(P:Program)(nv:Nat)(vs:List AV)(ts:List (Nat×AV))(σ:St)(K:AV->St->Prop):type_of% (evM P ⟨nv,vs,ts⟩ σ K):=evM P ⟨nv,vs,ts⟩ σ K
theorem ahV(P:Program)(nv:Nat)(vs:List AV)(ts:List (Nat×AV))(σ:St)(K:AV->St->Prop):type_of% (evA P ⟨nv,vs,ts⟩ σ K):=evA P ⟨nv,vs,ts⟩ σ K
theorem TF(P:Program)(nv:Nat)(vs:List AV)(ts:List (Nat×AV))(σ:St)(n:Nat)(K:AV->List Nat->List Nat->St->Prop):type_of% (S9 P σ n nv vs ts K):=S9 P σ n nv vs ts K
theorem ahX(P:Program)(nv:Nat)(vs:List AV)(ts:List (Nat×AV))(σ:St)(K:AV->St->Prop):type_of% (ag5 P σ K nv vs ts):=ag5 P σ K nv vs ts
attribute [go_sem] TF ahX TB TD
attribute [go_sem] ahT ahU ahV evF evQ evR evL evD opF evH evK UI UH rX rL Lc TH abB nD xW AOp.allocs H8 mS List.length_set List.length_append List.length_cons List.length_nil List.map_cons List.map_nil List.set_cons_zero List.set_cons_succ List.getElem?_cons_zero List.getElem?_cons_succ List.getElem?_nil List.nil_append List.cons_append List.append_nil if_true if_false true_and and_true true_or or_true Bool.false_eq_true not_false_eq_true not_true_eq_false Int.toNat_natCast Bool.not_true Bool.not_false cond_true cond_false Int.natCast_nonneg forall_const false_implies implies_true Nat.sub_zero Nat.zero_add Nat.add_zero List.drop_zero decide_true decide_false BZ zT Rb xK afq afp afo ag2 ag1 acU afB afA afz ahi ahj act ac6 ak bq d8 sy qV Sp mh Qz Rc XV Fc aaQ aD lQ TY T0 TZ TR iG CM aa5 GT Hp ck iA UU UW UT UV AJ Ht L7 XI bX fC N5 N7 JL JP JK JO FE FG Dp Dq JI JM DO DS JJ JN N4 N6 FF FI qR Nm Yk L5 Xz dz IN JD JG JC JF FC FD JE JH Att.map_mk Att.good_mk yv Nl GV ir LQ zG zJ zI zK xR xZ xY ya Clm.map_mk Clm.good_mk qn y6 HC dX jm Bq Bs Br Bx Slg.map_mk Slg.good_mk qo y7 ZV eR jz S5 S6 LK LL Tab.map_mk Tab.good_mk yE Ns HK fN lB BG BH yJ yK vk vl qp y8 G2 FW Hx Fj jb yF yI AL AT AK AS AM AU AP AW AQ AX wl wm yC yH SOp.map_mk SOp.good_mk JW Hu cp0 R4 cw Do adD KY yp lZ ahf cG bM cF AV.cell List.all_cons List.all_nil Bool.and_true Bool.true_and List.replicate_succ List.replicate_zero beq_self_eq_true ne_eq bZ ren rdS nT List.flatten_cons List.flatten_nil kg oC QH List.take_of_length_le Nat.le_refl pI ri List.isEmpty_nil List.isEmpty_cons List.filter_cons List.filter_nil decide_eq_true_eq bne_self_eq_false Bool.bne_false Bool.bne_true Option.isNone_some Option.isNone_none Bool.and_false Bool.false_and Bool.not_eq_true Bool.not_eq_false eq_self Je Bool.true_eq_false forall_eq
attribute [go_sem] Hz Ss Sr Ac Option.map_some
attribute [go_sem] Ca VS Gx I0 Rh Rg BY Dr Rp Cb I1 qZ iu iP aT kQ rn iM lR dG fz fzL fzO pw dM gk List.getD_cons_zero List.getD_cons_succ List.getD_nil List.take_zero List.take_succ_cons List.take_nil List.drop_succ_cons List.drop_nil List.getElem?_cons_zero List.getElem?_cons_succ List.getElem?_nil Option.map_none and_self List.mem_cons List.not_mem_nil or_false false_or or_self List.range_zero List.range_succ List.mem_append List.mem_singleton List.contains_eq_mem List.mem_range Nat.sub_self dh
structure Hid(q:Prop):Prop where
 out:q
theorem evd{p:Prop}(h:p:=by((try simp only[go_sem,Nat.reduceAdd,Nat.reduceSub,Nat.reduceMul,Nat.reduceLT,Nat.reduceLeDiff,Nat.reduceEqDiff,reduceIte,Int.reduceToNat,Int.reduceLT,Int.reduceLE,Int.reduceEq,Int.reduceNeg,reduceCtorEq,Int.reduceBEq,Int.reduceBNe]);try rfl)):p:=h
theorem evg{p q:Prop}(hq:q)(h:Hid q->p:=by(intro hq;(try simp only[go_sem,Nat.reduceAdd,Nat.reduceSub,Nat.reduceMul,Nat.reduceLT,Nat.reduceLeDiff,Nat.reduceEqDiff,reduceIte,Int.reduceToNat,Int.reduceLT,Int.reduceLE,Int.reduceEq,Int.reduceNeg,reduceCtorEq,Int.reduceBEq,Int.reduceBNe]);exact hq.out)):p:=h ⟨hq⟩
theorem bY{p q:Prop}(hq:q) (h:Hid q->p:=by
 (intro hq
  (first|with_reducible (first|refine tp ?_|refine jV ?_|refine qN ?_|refine na (by simp only[al8,ama]) ?_|refine nf ?_|refine nc ?_|refine qO ?_|refine vA ?_|refine vz ?_)|(simp only[go_sem,Nat.reduceAdd,Nat.reduceSub,Nat.reduceMul,Nat.reduceLT,Nat.reduceLeDiff,Nat.reduceEqDiff,reduceIte,Int.reduceToNat,Int.reduceLT,Int.reduceLE,Int.reduceEq,Int.reduceNeg,reduceCtorEq,Int.reduceBEq,Int.reduceBNe])|with_reducible refine And.intro (pE WN) ?_|(with_reducible refine And.intro ?_ ?_;first|omega|decide|(simp;done)|(simp;omega)))
  repeat(first|with_reducible (first|refine tp ?_|refine jV ?_|refine qN ?_|refine na (by simp only[al8,ama]) ?_|refine nf ?_|refine nc ?_|refine qO ?_|refine vA ?_|refine vz ?_)|(simp only[go_sem,Nat.reduceAdd,Nat.reduceSub,Nat.reduceMul,Nat.reduceLT,Nat.reduceLeDiff,Nat.reduceEqDiff,reduceIte,Int.reduceToNat,Int.reduceLT,Int.reduceLE,Int.reduceEq,Int.reduceNeg,reduceCtorEq,Int.reduceBEq,Int.reduceBNe])|with_reducible refine And.intro (pE WN) ?_|(with_reducible refine And.intro ?_ ?_;first|omega|decide|(simp;done)|(simp;omega)))
  exact hq.out)):p:=h ⟨hq⟩
theorem ue{p q:Prop}(hq:q) (h:Hid q->p:=by
 (intro hq
  repeat(first|(simp only[go_sem,Nat.reduceAdd,Nat.reduceSub,Nat.reduceMul,Nat.reduceLT,Nat.reduceLeDiff,Nat.reduceEqDiff,reduceIte,Int.reduceToNat,Int.reduceLT,Int.reduceLE,Int.reduceEq,Int.reduceNeg,reduceCtorEq,Int.reduceBEq,Int.reduceBNe])|with_reducible refine And.intro (pE WN) ?_|(with_reducible refine And.intro ?_ ?_;first|omega|decide|(simp;done)|(simp;omega)))
  exact hq.out)):p:=h ⟨hq⟩
section
variable{P:Program}{nt k:Nat}{fr:Fr}{σ:St}{c:Opd}{x y:ab}{Q:Ex->Fr->St->Prop}
theorem ax(h:Tri P nt k x Q fr σ)(hb:c.ev fr=.bool true:=by((try simp only[go_sem,Nat.reduceAdd,Nat.reduceSub,Nat.reduceMul,Nat.reduceLT,Nat.reduceLeDiff,Nat.reduceEqDiff,reduceIte,Int.reduceToNat,Int.reduceLT,Int.reduceLE,Int.reduceEq,Int.reduceNeg,reduceCtorEq,Int.reduceBEq,Int.reduceBNe]);try rfl)):Tri P nt k (.cond c x y) Q fr σ:=aY hb (fun _=>h) (fun h=>by cases h)
theorem aB(h:Tri P nt k y Q fr σ)(hb:c.ev fr=.bool false:=by((try simp only[go_sem,Nat.reduceAdd,Nat.reduceSub,Nat.reduceMul,Nat.reduceLT,Nat.reduceLeDiff,Nat.reduceEqDiff,reduceIte,Int.reduceToNat,Int.reduceLT,Int.reduceLE,Int.reduceEq,Int.reduceNeg,reduceCtorEq,Int.reduceBEq,Int.reduceBNe]);try rfl)):Tri P nt k (.cond c x y) Q fr σ:=aY hb (fun h=>by cases h) (fun _=>h)
end
end Go.FH
namespace Go.FH
open Go Go.RowKit
theorem evP:
 (∀n σ K,mU n σ K .mkm []=K (.mp n) [n] true (σ.set n (.map [])))/\
 (∀n σ K kk z ok id k,mU n σ K (.lkp kk z ok) [.mp id,k]=(qX kk k=true/\match σ[id]? with
  | some (.map es) => (match lT kk k es with
    |some (some j)=>K (if ok then .tup [(es.getD j []).getD 1 .dead,.bool true]else (es.getD j []).getD 1 .dead) [id] false σ
    |some none=>K (if ok then .tup [z,.bool false]else z) [id] false σ
    |none=>False)
  |_=>False))/\
 (∀n σ K kk id k v,mU n σ K (.upd kk) [.mp id,k,v]=(qX kk k=true/\match σ[id]? with
  | some (.map es) => (match lT kk k es with
    |some (some j)=>K (.tup []) [id] true (σ.set id (.map (es.set j [k,v])))
    |some none=>K (.tup []) [id] true (σ.set id (.map (es++[[k,v]])))
    |none=>False)
  |_=>False))/\
 (∀n σ K id,mU n σ K .rng [.mp id]=(match σ[id]? with
  |some (.map es)=>K (.ptr n 0) [n,id] true (σ.set n (.iter id es.length []))
  |_=>False))/\
 (∀n σ K id,mU n σ K .ent [.ptr id 0]=(match σ[id]? with
  | some (.iter m N seen) => (match seen.getLast?, σ[m]? with
    |some i,some (.map es)=>es.length=N/\i<N/\K (.tup (es.getD i [])) [id,m] false σ
    |_,_=>False)
  |_=>False))/\
 (∀id σ K,ta (.ptr id 0) σ K=(match σ[id]? with
  | some (.iter m N seen) => (match σ[m]? with
    |some (.map es)=>id≠m/\es.length=N/\(∀i,i<N->i∉seen->K (.tup (.bool true::es.getD i [])) (σ.set id (.iter m N (seen++[i]))))/\((∀i,i<N->i∈seen)->K (.tup [.bool false]) σ)
    |_=>False)
  |_=>False))/\
 (∀k n,qX none (.int k n)=true)/\(∀n cs,qX (some n) (.agg cs)=iq [(n,1)] cs)/\
 (∀id,AV.cellsOf (.mp id)=[.mp id])/\(∀σ zs id,fz σ zs (.mp id)=.mp id)/\(∀ρ id,ren ρ (.mp id)=.mp (ρ id)):=
 ⟨fun _ _ _=>rfl,fun _ _ _ _ _ _ _ _=>rfl,fun _ _ _ _ _ _ _=>rfl,fun _ _ _ _=>rfl,fun _ _ _ _=>rfl,fun _ _ _=>rfl,fun _ _=>rfl,fun _ _=>rfl,fun _=>rfl,fun _ _ _=>rfl,fun _ _=>rfl⟩
attribute [go_sem] evP List.getLast?_concat List.getLast?_singleton
def mns(k:IntKind)(m:List (Int×Bool)):List (List AV):=m.map fun p=>[.int k p.1,.bool p.2]
theorem GL(k:IntKind)(m:List (Int×Bool)):(mns k m).length=m.length:=by simp[mns]
theorem sx(k:IntKind)(x:Int):∀m:List (Int×Bool),lT none (.int k x) (mns k m)=some (m.findIdx? fun p=>p.1==x)
 | []=>rfl
 | (a, b) :: m => by
   have d:=sx k x m;simp only[mns,amE,lT,qX,amt,keq]at d ⊢;grind
theorem RK(k:IntKind)(m:List (Int×Bool))(j:Nat)(x:Int)(b:Bool):(mns k m).set j [.int k x,.bool b]=mns k (m.set j (x,b)):=by simp[mns]
theorem P4(k:IntKind)(m:List (Int×Bool))(x:Int)(b:Bool):mns k m++[[.int k x,.bool b]]=mns k (m++[(x,b)]):=by simp[mns]
theorem ad0(k:IntKind)(m:List (Int×Bool))(j:Nat)(h:j<m.length):(mns k m).getD j []=[.int k m[j].1,.bool m[j].2]:=by simp[mns,alt,h]
theorem GN(k:IntKind)(m:List (Int×Bool)):fy (mns k m):=by
 rw[mf];intro x b;obtain⟨p,_,rfl⟩:=amV.1 b;exact⟨trivial,trivial,trivial⟩
theorem Aj(ρ:Nat->Nat)(k:IntKind)(m:List (Int×Bool)):bH ρ (mns k m)=mns k m:=(GN k m).ren ρ
theorem Dm(σ:St)(zs:List Nat)(k:IntKind)(m:List (Int×Bool)):dh σ zs (mns k m)=mns k m:=(GN k m).fz σ zs
attribute [go_sem] GL Aj Dm sx RK P4
end Go.FH
namespace Go.FH
open Go Go.RowKit
section
variable{P:Program}{C:Cx}{nt k:Nat}{fr:Fr}{σ:St}{loc:Nat->Option Loc}{a:Act}{w:World}
theorem SR.own(h:SR C nt k fr σ loc a w)(e:Nat):SR C nt k fr (σ++[.vec e []]) (ja loc σ.length ⟨false,0,0,0⟩) a w:=by
 have l:loc σ.length=none:=h.rel.beyond _ (amb _);have d:=h.pad 1;obtain⟨j,i⟩:=d.rel.add (n:=σ.length) WM l (.vec e []) ⟨false,0,0,0⟩ w (Ev.refl _ _) (σ++List.replicate 1 .gone) (fun _ _ h _=>h) rfl (fun id o' y _ _ _ _=>⟨(fun h=>WO),rfl⟩) (fun h=>WO) (fun E _ _=>.inl ⟨rfl,rfl⟩);have r:(σ++List.replicate 1 cn.gone).set σ.length (.vec e [])=σ++[.vec e []]:=xQ σ _;rw[r]at j i;have g:=mN (X:=C.X) d.rel (fv l _) (Ev.refl _ _) i;refine⟨j,fun t=>Rl.mono g _ _ (d.frm t),h.size,h.dfr,h.ev,fun b u=>(i b u).elim (d.old b) fun v=>.inr (ams (h.ev.size) v),fun id f=>?_,by simp;have:=h.klen;omega⟩;rw[cj _ _ _ (by have:=h.klen;omega)];exact h.pre id f
theorem ab2{E:Env}{e e0 id:Nat}{v:Value}(g:E.loc id=some ⟨false,0,0,0⟩)(h:Rl E (.sl e0 true []) v):Rl E (.hs e id 0 0) v:=by
 obtain⟨ad,n,b,i,m,q,f,d,o,p⟩:=h;have j:n=0:=WL
 have k:b=n:=d rfl;subst j;subst k;exact⟨ad,0,_,i,amb _,f,fun _=>rfl,g,.inl ⟨rfl,fun h=>WM⟩⟩
theorem jx{c:ab}{Q:Ex->Fr->St->Prop}(t e:Nat){e0:Nat}(hq:Tri P nt k c Q (fr.put t (.hs e σ.length 0 0)) (σ++[.vec e []]))(h0:fr.get t=.sl e0 true []:=by first|rfl|(simp only[go_sem];rfl)):Tri P nt k c Q fr σ:=by
 intro fx code hc C loc a w hs;have h1:=hs.own e;refine hq fx code hc C _ a w (h1.putSame t _ (ab2 (e0:=e0) (dY _ _ _) ?_));have:=h1.frm t;rwa [h0]at this
theorem VG{E:Env}{c:AV}:∀ {cs:List AV} {vs:List Value} (i:Nat),RlC E cs vs->c.cell=true->(∀v,Rl E (cs.getD i .dead) v->Rl E c v)->RlC E (cs.set i c) vs
 | [],_,_,h,_,_=>by grind
 | x :: cs, _, 0, h, d, b => by
   obtain⟨u,e,rfl,k,l,f⟩:=h;exact⟨u,e,rfl,d,b u WO,f⟩
 | x :: cs, _, i + 1, h, d, b => by
   obtain⟨u,e,rfl,k,l,f⟩:=h;exact⟨u,e,rfl,k,l,VG i f d (fun v m=>b v WO)⟩
theorem pS{c:ab}{Q:Ex->Fr->St->Prop}(id i e:Nat){e0:Nat}{cs:List AV}(hq:Tri P nt k c Q fr (σ.set id (.var (cs.set i (.hs e σ.length 0 0)))++[.vec e []]))(ho:σ[id]?=some (.var cs):=by first|rfl|(simp only[go_sem];rfl))(h0:cs.getD i .dead=.sl e0 true []:=by first|rfl|(simp only[go_sem];rfl)):Tri P nt k c Q fr σ:=by
 intro fx code hc C loc a w hs;have h1:=hs.own e;have hid:id<σ.length:=(aml.1 ho).1;have ho2:(σ++[cn.vec e []])[id]?=some (.var cs):=by rw[amH hid];exact ho
 have hset:(σ++[cn.vec e []]).set id (.var (cs.set i (.hs e σ.length 0 0)))=σ.set id (.var (cs.set i (.hs e σ.length 0 0)))++[.vec e []]:=List.set_append_left _ _ hid;refine hq fx code hc C (ja loc σ.length ⟨false,0,0,0⟩) a w ?_;rw[<-hset]
 have hl:∀b,bi ((σ++[cn.vec e []]).set id (.var (cs.set i (.hs e σ.length 0 0)))) (ja loc σ.length ⟨false,0,0,0⟩) b↔bi (σ++[cn.vec e []]) (ja loc σ.length ⟨false,0,0,0⟩) b:=by
  intro b;constructor
  ·rintro⟨j,oj,L,g1,g2,g3,g4⟩;rcases eT _ id j _ g1 with⟨rfl,rfl,_⟩|⟨g5,g6⟩
   ·exact⟨_,_,L,ho2,rfl,g3,g4⟩
   ·exact⟨j,oj,L,g6,g2,g3,g4⟩
  ·rintro⟨j,oj,L,g1,g2,g3,g4⟩
   by_cases hj:j=id
   ·subst hj;refine⟨j,.var (cs.set i (.hs e σ.length 0 0)),L,?_,rfl,g3,g4⟩;rw[List.getElem?_set_self (aml.1 g1).1]
   ·exact⟨j,oj,L,by rw[akp (alU hj)];exact g1,g2,g3,g4⟩
 have hF:gq C.X ((σ++[cn.vec e []]).set id (.var (cs.set i (.hs e σ.length 0 0)))) (ja loc σ.length ⟨false,0,0,0⟩)=gq C.X (σ++[cn.vec e []]) (ja loc σ.length ⟨false,0,0,0⟩):=by
  funext b;unfold gq;rw[hl b]
 have hget:∀ (j:Nat) (o:cn),((σ++[cn.vec e []]).set id (.var (cs.set i (.hs e σ.length 0 0))))[j]?=some o->o.live=true->∃o',(σ++[cn.vec e []])[j]?=some o'/\o'.live=true:=by
  intro j o g1 g2;rcases eT _ id j _ g1 with⟨rfl,rfl,_⟩|⟨g5,g6⟩
  ·exact⟨_,ho2,rfl⟩
  ·exact⟨o,g6,g2⟩
 refine⟨⟨fun j o g1 g2=>?_,fun i' j x y La Lb hij g1 g2 g3 g4=>?_,fun b hb=>?_,fun j hj=>h1.rel.beyond j (by simpa using hj)⟩,fun t=>?_,h1.size,h1.dfr,h1.ev,fun b hb=>h1.old b ((hl b).1 hb),h1.pre,by simp;have:=hs.klen;omega⟩
 ·show ∃L,_/\iF ⟨_,gq C.X _ _,w⟩ L o
  rw[hF];rcases eT _ id j _ g1 with⟨rfl,rfl,_⟩|⟨g5,g6⟩
  ·obtain⟨L,m1,m2,m3,vs,t,m4,m5⟩:=h1.rel.obj _ _ ho2 rfl;exact⟨L,m1,m2,m3,vs,t,m4,VG i m5 rfl fun v hv=>ab2 (e0:=e0) (dY _ _ _) (by rwa [h0]at hv)⟩
  ·exact h1.rel.obj j o g6 g2
 ·obtain⟨x',k1,k2⟩:=hget i' x g1 g3;obtain⟨y',k3,k4⟩:=hget j y g2 g4;exact h1.rel.apart i' j x' y' La Lb hij k1 k3 k2 k4
 ·rw[hl b];exact h1.rel.out b hb
 ·show Rl ⟨_,gq C.X _ _,w⟩ _ _
  rw[hF];exact h1.frm t
theorem PC.weak{f:FuncId}{args:List AV}{r r':AV}(h:PC P f args r)(hw:Wk r r')(hr:Pu r'):PC P f args r':=
 ⟨⟨h.call.1,h.call.2.1,fun X loc w vs hrel hv=>(h.call.2.2 X loc w vs hrel hv).mono fun e w' ⟨v,loc',h1,h2,h3⟩=>⟨v,loc',h1,⟨h2.locs,h2.rel,hw _ _ h2.val,h2.ev,h2.old⟩,h3⟩⟩,h.pa,hr⟩
def jc(us:List (Nat×AV))(vs:List AV):List AV:=us.foldl (fun l p=>l.set p.1 p.2) vs
theorem az{ι:Type}{x:ab}{Q:Ex->Fr->St->Prop}{nv:Nat}{vs:List AV}{ts:List (Nat×AV)}(us:ι->List (Nat×AV))(S:ι->St)(μ:ι->Nat)(ok:ι->Prop)(x0:ι)(h0:ok x0)(hgc:GC k ⟨nv,vs,ts⟩ σ ⟨nv,jc (us x0) vs,[]⟩ (S x0))
 (round:∀i,ok i->Tri P nt k x (gf (fun fr σ=>∃j,ok j/\μ j<μ i/\GC k fr σ ⟨nv,jc (us j) vs,[]⟩ (S j)) Q) ⟨nv,jc (us i) vs,[]⟩ (S i)):Tri P nt k (.loop x) Q ⟨nv,vs,ts⟩ σ:=
 eZ (fun i=>⟨nv,jc (us i) vs,[]⟩) S μ ok x0 h0 hgc round
theorem dr(vs:List AV):jc [] vs=vs:=rfl
theorem dE(p:Nat×AV)(us:List (Nat×AV))(vs:List AV):jc (p::us) vs=jc us (vs.set p.1 p.2):=rfl
attribute [go_sem] dr dE
theorem EB{c:Opd}{x y:ab}{Q:Ex->Fr->St->Prop}{t:Bool}(h1:t=true->Tri P nt k x Q fr σ)(h2:t=false->Tri P nt k y Q fr σ)(hb:c.ev fr=.bool t:=by first|rfl|(simp only[go_sem];rfl)):Tri P nt k (.cond c x y) Q fr σ:=aY hb h1 h2
end
theorem J2{a b c:List AV}(f:a.length=33)(g:b.length=33):cut (a++(b++c)) 0 66=a++b:=by
 unfold cut;rw[ak9,<-amd,show 66=(a++b).length by grind,WF]
theorem KZ{a b c x y:List AV}(e:a.length+b.length=x.length+y.length):spl (a++(b++c)) 0 (x++y)=x++(y++c):=by
 unfold spl;grind
structure Lim where
 node:Int
 orph:Int
 early:Int
 table:Int
 retry:Int
 backoff:Int
 deriving Inhabited,DecidableEq
def en(x:Lim):List AV:=.int .i64 x.node::(.int .i64 x.orph::(.int .i64 x.early::(.int .i64 x.table::(.int .i64 x.retry::[.int .u64 x.backoff]))))
@[simp] theorem cS(x:Lim):(en x).length=6:=by simp only[en,List.length_cons,List.length_nil]
theorem gR(node:Int)(orph:Int)(early:Int)(table:Int)(retry:Int)(backoff:Int):.int .i64 node::(.int .i64 orph::(.int .i64 early::(.int .i64 table::(.int .i64 retry::[.int .u64 backoff]))))=en ⟨node,orph,early,table,retry,backoff⟩:=rfl
theorem KN(x:Lim):cut (en x) 0 1=[.int .i64 x.node]:=by all_goals rfl
theorem KP(x:Lim)(v:Int):spl (en x) 0 [.int .i64 v]=en { x with node:=v }:=by all_goals rfl
theorem KO(x:Lim):cut (en x) 1 1=[.int .i64 x.orph]:=by all_goals rfl
theorem KQ(x:Lim)(v:Int):spl (en x) 1 [.int .i64 v]=en { x with orph:=v }:=by all_goals rfl
theorem Ic(x:Lim):cut (en x) 2 1=[.int .i64 x.early]:=by all_goals rfl
theorem Ig(x:Lim)(v:Int):spl (en x) 2 [.int .i64 v]=en { x with early:=v }:=by all_goals rfl
theorem If(x:Lim):cut (en x) 3 1=[.int .i64 x.table]:=by all_goals rfl
theorem Ii(x:Lim)(v:Int):spl (en x) 3 [.int .i64 v]=en { x with table:=v }:=by all_goals rfl
theorem Ie(x:Lim):cut (en x) 4 1=[.int .i64 x.retry]:=by all_goals rfl
theorem Ih(x:Lim)(v:Int):spl (en x) 4 [.int .i64 v]=en { x with retry:=v }:=by all_goals rfl
theorem DY(x:Lim):cut (en x) 5 1=[.int .u64 x.backoff]:=by all_goals rfl
theorem DZ(x:Lim)(v:Int):spl (en x) 5 [.int .u64 v]=en { x with backoff:=v }:=by all_goals rfl
theorem AH(x:Lim):bV (en x)=true:=by simp[en,bM,cG,AV.cell]
theorem mg(x:Lim):PuL (en x):=by simp[en,PuL,Pu]
theorem Ez(ρ:Nat->Nat)(x:Lim):bZ ρ (en x)=en x:=(mg x).ren ρ
theorem Rm(σ:St)(zs:List Nat)(x:Lim):fzL σ zs (en x)=en x:=(mg x).fz σ zs
def adU:Lim:=⟨0,0,0,0,0,0⟩
structure Cfg where
 lim:Lim
 spe:Int
 boost:Int
 ttd:Wd
 gen:Rt
 bals:AV
 deriving Inhabited
def bW(x:Cfg):List AV:=en x.lim++(.int .u64 x.spe::(.int .u64 x.boost::(wdc x.ttd++(rtc x.gen++[x.bals]))))
@[simp] theorem aU(x:Cfg):(bW x).length=45:=by simp only[bW,List.length_cons,List.length_append,List.length_nil,cS,ak,bq]
theorem fK(lim:Lim)(spe:Int)(boost:Int)(ttd:Wd)(gen:Rt)(bals:AV):en lim++(.int .u64 spe::(.int .u64 boost::(wdc ttd++(rtc gen++[bals]))))=bW ⟨lim,spe,boost,ttd,gen,bals⟩:=rfl
theorem XQ(x:Cfg):cut (bW x) 0 45=bW x:=dV (aU x)
theorem Oa(x:Cfg)(o n:Nat)(c:0<=o)(b:o+n<=6):cut (bW x) o n=cut (en x.lim) (o-0) n:=by unfold bW;rw[cL1 (cS _)];simp
theorem Of(x:Cfg)(o:Nat)(vs:List AV)(d:0<=o)(e:o+vs.length<=6):spl (bW x) o vs=spl (en x.lim) (o-0) vs++(.int .u64 x.spe::(.int .u64 x.boost::(wdc x.ttd++(rtc x.gen++[x.bals])))):=by unfold bW;rw[pL1 (cS _)];simp
theorem Ob(x:Cfg):cut (bW x) 6 1=[.int .u64 x.spe]:=by all_goals rfl
theorem Og(x:Cfg)(v:Int):spl (bW x) 6 [.int .u64 v]=bW { x with spe:=v }:=by all_goals rfl
theorem Hd(x:Cfg):cut (bW x) 7 1=[.int .u64 x.boost]:=by all_goals rfl
theorem He(x:Cfg)(v:Int):spl (bW x) 7 [.int .u64 v]=bW { x with boost:=v }:=by all_goals rfl
theorem Oc(x:Cfg)(o n:Nat)(c:8<=o)(b:o+n<=12):cut (bW x) o n=cut (wdc x.ttd) (o-8) n:=by unfold bW;rw[cR1 (cS _),cS1];rw[cS1,cL1 (bq _)];grind
theorem Oh(x:Cfg)(o:Nat)(vs:List AV)(d:8<=o)(e:o+vs.length<=12):spl (bW x) o vs=en x.lim++(.int .u64 x.spe::(.int .u64 x.boost::(spl (wdc x.ttd) (o-8) vs++(rtc x.gen++[x.bals])))):=by unfold bW;rw[pR1 (cS _),pS1];rw[pS1,pL1 (bq _)];grind
theorem N9(x:Cfg)(o n:Nat)(c:12<=o)(b:o+n<=44):cut (bW x) o n=cut (rtc x.gen) (o-12) n:=by unfold bW;rw[cR1 (cS _),cS1];rw[cS1,cR1 (bq _),cL1 (ak _)];grind
theorem Oe(x:Cfg)(o:Nat)(vs:List AV)(d:12<=o)(e:o+vs.length<=44):spl (bW x) o vs=en x.lim++(.int .u64 x.spe::(.int .u64 x.boost::(wdc x.ttd++(spl (rtc x.gen) (o-12) vs++[x.bals])))):=by unfold bW;rw[pR1 (cS _),pS1];rw[pS1,pR1 (bq _),pL1 (ak _)];grind
theorem JQ(x:Cfg):cut (bW x) 44 1=[x.bals]:=by unfold bW;rw[cR1 (cS _),cS1];rw[cS1,cR1 (bq _),cR1 (ak _)];all_goals rfl
theorem JR(x:Cfg)(v:AV):spl (bW x) 44 [v]=bW { x with bals:=v }:=by unfold bW;rw[pR1 (cS _),pS1];rw[pS1,pR1 (bq _),pR1 (ak _)];all_goals rfl
def Cfg.map(g:AV->AV)(x:Cfg):Cfg:={ x with bals:=g x.bals }
theorem Cfg.map_mk(g:AV->AV)(lim:Lim)(spe:Int)(boost:Int)(ttd:Wd)(gen:Rt)(bals:AV):Cfg.map g ⟨lim,spe,boost,ttd,gen,bals⟩=⟨lim,spe,boost,ttd,gen,g bals⟩:=rfl
def Cfg.good(x:Cfg):Bool:=x.bals.cell
theorem Cfg.good_mk(lim:Lim)(spe:Int)(boost:Int)(ttd:Wd)(gen:Rt)(bals:AV):Cfg.good ⟨lim,spe,boost,ttd,gen,bals⟩=(bals.cell):=rfl
def Cfg.Pure(x:Cfg):Prop:=Pu x.bals
theorem yw(x:Cfg):bV (bW x)=x.good:=by simp[bW,Cfg.good,bM,cF,cG,AV.cell,AH,d8,sy]
theorem Qu(x:Cfg):PuL (bW x)↔x.Pure:=by simp[bW,Cfg.Pure,eJ,PuL,Pu,mg,dI,ju]
theorem Ew(ρ:Nat->Nat)(x:Cfg):bZ ρ (bW x)=bW (x.map (ren ρ)):=by simp only[bW,Cfg.map,mY,bZ,ren,Ez,qV,Sp]
theorem Ri(σ:St)(b:List Nat)(x:Cfg):fzL σ b (bW x)=bW (x.map (fz σ b)):=by simp only[bW,Cfg.map,oz,fzL,fz,Rm,Ca,VS]
def ui:Cfg:=⟨adU,0,0,wd0,rt0,.sl 0 true []⟩
structure Vot where
 has:Bool
 ep:Int
 root:Rt
 deriving Inhabited,DecidableEq
def al(x:Vot):List AV:=.bool x.has::(.int .u64 x.ep::(rtc x.root))
@[simp] theorem wt(x:Vot):(al x).length=34:=by simp only[al,List.length_cons,ak]
theorem lK(has:Bool)(ep:Int)(root:Rt):.bool has::(.int .u64 ep::(rtc root))=al ⟨has,ep,root⟩:=rfl
theorem aad(x:Vot):cut (al x) 0 34=al x:=dV (wt x)
theorem P5(x:Vot):cut (al x) 0 1=[.bool x.has]:=by all_goals rfl
theorem P6(x:Vot)(v:Bool):spl (al x) 0 [.bool v]=al { x with has:=v }:=by all_goals rfl
theorem Ts(x:Vot):cut (al x) 1 1=[.int .u64 x.ep]:=by all_goals rfl
theorem Tt(x:Vot)(v:Int):spl (al x) 1 [.int .u64 v]=al { x with ep:=v }:=by all_goals rfl
theorem LW(x:Vot)(o n:Nat)(c:2<=o)(b:o+n<=34):cut (al x) o n=cut (rtc x.root) (o-2) n:=by unfold al;rw[cS1,cS1];grind
theorem LX(x:Vot)(o:Nat)(vs:List AV)(d:2<=o)(e:o+vs.length<=34):spl (al x) o vs=.bool x.has::(.int .u64 x.ep::(spl (rtc x.root) (o-2) vs)):=by unfold al;rw[pS1,pS1];grind
theorem JA(x:Vot):bV (al x)=true:=by simp[al,bM,AV.cell,d8]
theorem oT(x:Vot):PuL (al x):=by simp[al,PuL,Pu,dI]
theorem AF(ρ:Nat->Nat)(x:Vot):bZ ρ (al x)=al x:=(oT x).ren ρ
theorem abk(σ:St)(zs:List Nat)(x:Vot):fzL σ zs (al x)=al x:=(oT x).fz σ zs
theorem Uu(x:Vot):(al x).map d6=ef [(1,0),(33,1)]:=by simp only[al,amE,d6,lJ];decide +kernel
theorem Yr(x:Vot):iq [(1,0),(33,1)] (al x)=true:=gD (Uu x)
theorem Xx(x y:Vot):gj (al x) (al y)=some (decide (x=y)):=by cases x;cases y;simp[al,gj,zy,mh,ajx]
def dL:Vot:=⟨false,0,rt0⟩
structure Nod where
 blk:Blk
 up:Int
 status:Int
 deriving Inhabited,DecidableEq
def bB(x:Nod):List AV:=aO x.blk++(.int .i64 x.up::[.int .i64 x.status])
@[simp] theorem wn(x:Nod):(bB x).length=240:=by simp only[bB,List.length_cons,List.length_append,List.length_nil,bX]
theorem gS(blk:Blk)(up:Int)(status:Int):aO blk++(.int .i64 up::[.int .i64 status])=bB ⟨blk,up,status⟩:=rfl
theorem YJ(x:Nod):cut (bB x) 0 240=bB x:=dV (wn x)
theorem O1(x:Nod)(o n:Nat)(c:0<=o)(b:o+n<=238):cut (bB x) o n=cut (aO x.blk) (o-0) n:=by unfold bB;rw[cL1 (bX _)];simp
theorem O2(x:Nod)(o:Nat)(vs:List AV)(d:0<=o)(e:o+vs.length<=238):spl (bB x) o vs=spl (aO x.blk) (o-0) vs++(.int .i64 x.up::[.int .i64 x.status]):=by unfold bB;rw[pL1 (bX _)];simp
theorem RM(x:Nod):cut (bB x) 238 1=[.int .i64 x.up]:=by unfold bB;rw[cR1 (bX _)];all_goals rfl
theorem RN(x:Nod)(v:Int):spl (bB x) 238 [.int .i64 v]=bB { x with up:=v }:=by unfold bB;rw[pR1 (bX _)];all_goals rfl
theorem F8(x:Nod):cut (bB x) 239 1=[.int .i64 x.status]:=by unfold bB;rw[cR1 (bX _),cS1];all_goals rfl
theorem F9(x:Nod)(v:Int):spl (bB x) 239 [.int .i64 v]=bB { x with status:=v }:=by unfold bB;rw[pR1 (bX _),pS1];all_goals rfl
theorem Jw(x:Nod):bV (bB x)=true:=by simp[bB,bM,cF,cG,AV.cell,qR]
theorem oS(x:Nod):PuL (bB x):=by simp[bB,eJ,PuL,Pu,gA]
theorem No(ρ:Nat->Nat)(x:Nod):bZ ρ (bB x)=bB x:=(oS x).ren ρ
theorem abf(σ:St)(zs:List Nat)(x:Nod):fzL σ zs (bB x)=bB x:=(oS x).fz σ zs
def gr:Nod:=⟨cw,0,0⟩
structure Sto where
 cfg:Cfg
 latest:AV
 eqv:AV
 j:Cp
 f:Cp
 early:AV
 orph:AV
 nodes:AV
 now:Int
 boost:Rt
 tabs:AV
 deriving Inhabited
def aE(x:Sto):List AV:=bW x.cfg++(x.latest::(x.eqv::(cpC x.j++(cpC x.f++(x.early::(x.orph::(x.nodes::(.int .u64 x.now::(rtc x.boost++[x.tabs])))))))))
@[simp] theorem zM(x:Sto):(aE x).length=150:=by simp only[aE,List.length_cons,List.length_append,List.length_nil,aU,aD,ak]
theorem jt(cfg:Cfg)(latest:AV)(eqv:AV)(j:Cp)(f:Cp)(early:AV)(orph:AV)(nodes:AV)(now:Int)(boost:Rt)(tabs:AV):bW cfg++(latest::(eqv::(cpC j++(cpC f++(early::(orph::(nodes::(.int .u64 now::(rtc boost++[tabs])))))))))=aE ⟨cfg,latest,eqv,j,f,early,orph,nodes,now,boost,tabs⟩:=rfl
theorem ZS(x:Sto):cut (aE x) 0 150=aE x:=dV (zM x)
theorem PL(x:Sto)(o n:Nat)(c:0<=o)(b:o+n<=45):cut (aE x) o n=cut (bW x.cfg) (o-0) n:=by unfold aE;rw[cL1 (aU _)];simp
theorem PP(x:Sto)(o:Nat)(vs:List AV)(d:0<=o)(e:o+vs.length<=45):spl (aE x) o vs=spl (bW x.cfg) (o-0) vs++(x.latest::(x.eqv::(cpC x.j++(cpC x.f++(x.early::(x.orph::(x.nodes::(.int .u64 x.now::(rtc x.boost++[x.tabs]))))))))):=by unfold aE;rw[pL1 (aU _)];simp
theorem Gk(x:Sto):cut (aE x) 45 1=[x.latest]:=by unfold aE;rw[cR1 (aU _)];all_goals rfl
theorem Gl(x:Sto)(v:AV):spl (aE x) 45 [v]=aE { x with latest:=v }:=by unfold aE;rw[pR1 (aU _)];all_goals rfl
theorem PM(x:Sto):cut (aE x) 46 1=[x.eqv]:=by unfold aE;rw[cR1 (aU _),cS1];all_goals rfl
theorem By(x:Sto)(v:AV):spl (aE x) 46 [v]=aE { x with eqv:=v }:=by unfold aE;rw[pR1 (aU _),pS1];all_goals rfl
theorem Vs(x:Sto)(o n:Nat)(c:47<=o)(b:o+n<=80):cut (aE x) o n=cut (cpC x.j) (o-47) n:=by unfold aE;rw[cR1 (aU _),cS1];rw[cS1,cL1 (aD _)];grind
theorem Vu(x:Sto)(o:Nat)(vs:List AV)(d:47<=o)(e:o+vs.length<=80):spl (aE x) o vs=bW x.cfg++(x.latest::(x.eqv::(spl (cpC x.j) (o-47) vs++(cpC x.f++(x.early::(x.orph::(x.nodes::(.int .u64 x.now::(rtc x.boost++[x.tabs]))))))))):=by unfold aE;rw[pR1 (aU _),pS1];rw[pS1,pL1 (aD _)];grind
theorem Vr(x:Sto)(o n:Nat)(c:80<=o)(b:o+n<=113):cut (aE x) o n=cut (cpC x.f) (o-80) n:=by unfold aE;rw[cR1 (aU _),cS1];rw[cS1,cR1 (aD _),cL1 (aD _)];grind
theorem Vt(x:Sto)(o:Nat)(vs:List AV)(d:80<=o)(e:o+vs.length<=113):spl (aE x) o vs=bW x.cfg++(x.latest::(x.eqv::(cpC x.j++(spl (cpC x.f) (o-80) vs++(x.early::(x.orph::(x.nodes::(.int .u64 x.now::(rtc x.boost++[x.tabs]))))))))):=by unfold aE;rw[pR1 (aU _),pS1];rw[pS1,pR1 (aD _),pL1 (aD _)];grind
theorem I8(x:Sto):cut (aE x) 113 1=[x.early]:=by unfold aE;rw[cR1 (aU _),cS1];rw[cS1,cR1 (aD _),cR1 (aD _)];all_goals rfl
theorem Jl(x:Sto)(v:AV):spl (aE x) 113 [v]=aE { x with early:=v }:=by unfold aE;rw[pR1 (aU _),pS1];rw[pS1,pR1 (aD _),pR1 (aD _)];all_goals rfl
theorem LD(x:Sto):cut (aE x) 114 1=[x.orph]:=by unfold aE;rw[cR1 (aU _),cS1];rw[cS1,cR1 (aD _)];rw[cR1 (aD _),cS1];all_goals rfl
theorem LG(x:Sto)(v:AV):spl (aE x) 114 [v]=aE { x with orph:=v }:=by unfold aE;rw[pR1 (aU _),pS1];rw[pS1,pR1 (aD _)];rw[pR1 (aD _),pS1];all_goals rfl
theorem I9(x:Sto):cut (aE x) 115 1=[x.nodes]:=by unfold aE;rw[cR1 (aU _),cS1];rw[cS1,cR1 (aD _)];rw[cR1 (aD _),cS1,cS1];all_goals rfl
theorem Jm(x:Sto)(v:AV):spl (aE x) 115 [v]=aE { x with nodes:=v }:=by unfold aE;rw[pR1 (aU _),pS1];rw[pS1,pR1 (aD _)];rw[pR1 (aD _),pS1,pS1];all_goals rfl
theorem PO(x:Sto):cut (aE x) 116 1=[.int .u64 x.now]:=by unfold aE;rw[cR1 (aU _),cS1];rw[cS1,cR1 (aD _)];rw[cR1 (aD _),cS1];all_goals rfl
theorem PS(x:Sto)(v:Int):spl (aE x) 116 [.int .u64 v]=aE { x with now:=v }:=by unfold aE;rw[pR1 (aU _),pS1];rw[pS1,pR1 (aD _)];rw[pR1 (aD _),pS1];all_goals rfl
theorem I7(x:Sto)(o n:Nat)(c:117<=o)(b:o+n<=149):cut (aE x) o n=cut (rtc x.boost) (o-117) n:=by unfold aE;rw[cR1 (aU _),cS1];rw[cS1,cR1 (aD _)];rw[cR1 (aD _),cS1];rw[cS1,cS1];rw[cS1,cL1 (ak _)];grind
theorem Jj(x:Sto)(o:Nat)(vs:List AV)(d:117<=o)(e:o+vs.length<=149):spl (aE x) o vs=bW x.cfg++(x.latest::(x.eqv::(cpC x.j++(cpC x.f++(x.early::(x.orph::(x.nodes::(.int .u64 x.now::(spl (rtc x.boost) (o-117) vs++[x.tabs]))))))))):=by unfold aE;rw[pR1 (aU _),pS1];rw[pS1,pR1 (aD _)];rw[pR1 (aD _),pS1];rw[pS1,pS1];rw[pS1,pL1 (ak _)];grind
theorem LF(x:Sto):cut (aE x) 149 1=[x.tabs]:=by unfold aE;rw[cR1 (aU _),cS1];rw[cS1,cR1 (aD _)];rw[cR1 (aD _),cS1];rw[cS1,cS1];rw[cS1,cR1 (ak _)];all_goals rfl
theorem LH(x:Sto)(v:AV):spl (aE x) 149 [v]=aE { x with tabs:=v }:=by unfold aE;rw[pR1 (aU _),pS1];rw[pS1,pR1 (aD _)];rw[pR1 (aD _),pS1];rw[pS1,pS1];rw[pS1,pR1 (ak _)];all_goals rfl
theorem ym(x:Sto):cut (aE x) 45 2=x.latest::[x.eqv]:=by unfold aE;rw[cR1 (aU _)];rfl
theorem yo(x:Sto)(y1:AV)(b:AV):spl (aE x) 45 (y1::[b])=aE { x with latest:=y1,eqv:=b }:=by unfold aE;rw[pR1 (aU _)];rfl
theorem PN(x:Sto):cut (aE x) 47 66=cpC x.j++(cpC x.f):=by unfold aE;rw[cR1 (aU _),cS1,cS1];exact J2 WM WM
theorem CZ(x:Sto)(c:Cp)(b:Cp):spl (aE x) 47 (cpC c++(cpC b))=aE { x with j:=c,f:=b }:=by unfold aE;rw[pR1 (aU _),pS1,pS1];rw[KZ];simp
def Sto.map(g:AV->AV)(x:Sto):Sto:={ x with cfg:=x.cfg.map g,latest:=g x.latest,eqv:=g x.eqv,early:=g x.early,orph:=g x.orph,nodes:=g x.nodes,tabs:=g x.tabs }
theorem Sto.map_mk(g:AV->AV)(cfg:Cfg)(latest:AV)(eqv:AV)(j:Cp)(f:Cp)(early:AV)(orph:AV)(nodes:AV)(now:Int)(boost:Rt)(tabs:AV):Sto.map g ⟨cfg,latest,eqv,j,f,early,orph,nodes,now,boost,tabs⟩=⟨cfg.map g,g latest,g eqv,j,f,g early,g orph,g nodes,now,boost,g tabs⟩:=rfl
def Sto.good(x:Sto):Bool:=x.cfg.good&&x.latest.cell&&x.eqv.cell&&x.early.cell&&x.orph.cell&&x.nodes.cell&&x.tabs.cell
theorem Sto.good_mk(cfg:Cfg)(latest:AV)(eqv:AV)(j:Cp)(f:Cp)(early:AV)(orph:AV)(nodes:AV)(now:Int)(boost:Rt)(tabs:AV):Sto.good ⟨cfg,latest,eqv,j,f,early,orph,nodes,now,boost,tabs⟩=(cfg.good&&latest.cell&&eqv.cell&&early.cell&&orph.cell&&nodes.cell&&tabs.cell):=rfl
def Sto.Pure(x:Sto):Prop:=x.cfg.Pure/\Pu x.latest/\Pu x.eqv/\Pu x.early/\Pu x.orph/\Pu x.nodes/\Pu x.tabs
theorem yD(x:Sto):bV (aE x)=x.good:=by simp[aE,Sto.good,am3,bM,cF,cG,AV.cell,yw,iG,d8]
theorem uH(x:Sto):PuL (aE x)↔x.Pure:=by simp[aE,Sto.Pure,eJ,PuL,Pu,Qu,gV,dI]
theorem EA(ρ:Nat->Nat)(x:Sto):bZ ρ (aE x)=aE (x.map (ren ρ)):=by simp only[aE,Sto.map,mY,bZ,ren,Ew,CM,qV]
theorem Ro(σ:St)(b:List Nat)(x:Sto):fzL σ b (aE x)=aE (x.map (fz σ b)):=by simp only[aE,Sto.map,oz,fzL,fz,Ri,Gx,Ca]
def kU:Sto:=⟨ui,.sl 0 true [],.sl 0 true [],cp0,cp0,.sl 0 true [],.sl 0 true [],.sl 0 true [],0,rt0,.sl 0 true []⟩
structure Req where
 tag:Int
 block:Rt
 tries:Int
 due:Int
 deriving Inhabited,DecidableEq
def aP(x:Req):List AV:=.int .u64 x.tag::(rtc x.block++(.int .i64 x.tries::[.int .u64 x.due]))
@[simp] theorem wo(x:Req):(aP x).length=35:=by simp only[aP,List.length_cons,List.length_append,List.length_nil,ak]
theorem iQ(tag:Int)(block:Rt)(tries:Int)(due:Int):.int .u64 tag::(rtc block++(.int .i64 tries::[.int .u64 due]))=aP ⟨tag,block,tries,due⟩:=rfl
theorem Zr(x:Req):cut (aP x) 0 35=aP x:=dV (wo x)
theorem Ph(x:Req):cut (aP x) 0 1=[.int .u64 x.tag]:=by all_goals rfl
theorem Pj(x:Req)(v:Int):spl (aP x) 0 [.int .u64 v]=aP { x with tag:=v }:=by all_goals rfl
theorem IR(x:Req)(o n:Nat)(c:1<=o)(b:o+n<=33):cut (aP x) o n=cut (rtc x.block) (o-1) n:=by unfold aP;rw[cS1,cL1 (ak _)]
theorem IT(x:Req)(o:Nat)(vs:List AV)(e:1<=o)(f:o+vs.length<=33):spl (aP x) o vs=.int .u64 x.tag::(spl (rtc x.block) (o-1) vs++(.int .i64 x.tries::[.int .u64 x.due])):=by unfold aP;rw[pS1,pL1 (ak _)]
theorem IS(x:Req):cut (aP x) 33 1=[.int .i64 x.tries]:=by unfold aP;rw[cS1,cR1 (ak _)];all_goals rfl
theorem IU(x:Req)(v:Int):spl (aP x) 33 [.int .i64 v]=aP { x with tries:=v }:=by unfold aP;rw[pS1,pR1 (ak _)];all_goals rfl
theorem Pg(x:Req):cut (aP x) 34 1=[.int .u64 x.due]:=by unfold aP;rw[cS1,cR1 (ak _),cS1];all_goals rfl
theorem Pi(x:Req)(v:Int):spl (aP x) 34 [.int .u64 v]=aP { x with due:=v }:=by unfold aP;rw[pS1,pR1 (ak _),pS1];all_goals rfl
theorem Jx(x:Req):bV (aP x)=true:=by simp[aP,bM,cF,cG,AV.cell,d8]
theorem gB(x:Req):PuL (aP x):=by simp[aP,eJ,PuL,Pu,dI]
theorem Np(ρ:Nat->Nat)(x:Req):bZ ρ (aP x)=aP x:=(gB x).ren ρ
theorem abh(σ:St)(zs:List Nat)(x:Req):fzL σ zs (aP x)=aP x:=(gB x).fz σ zs
def gT:Req:=⟨0,rt0,0,0⟩
structure Cmd where
 head:Rt
 safe:Rt
 fin:Rt
 deriving Inhabited,DecidableEq
def AZ(x:Cmd):List AV:=rtc x.head++(rtc x.safe++(rtc x.fin))
@[simp] theorem fq(x:Cmd):(AZ x).length=96:=by simp only[AZ,List.length_append,ak]
theorem gQ(head:Rt)(safe:Rt)(fin:Rt):rtc head++(rtc safe++(rtc fin))=AZ ⟨head,safe,fin⟩:=rfl
theorem X1(x:Cmd):cut (AZ x) 0 96=AZ x:=dV (fq x)
theorem JY(x:Cmd)(o:Nat)(vs:List AV)(c:0<=o)(b:o+vs.length<=32):spl (AZ x) o vs=spl (rtc x.head) (o-0) vs++(rtc x.safe++(rtc x.fin)):=by unfold AZ;rw[pL1 (ak _)];simp
theorem JZ(x:Cmd)(o:Nat)(vs:List AV)(c:32<=o)(b:o+vs.length<=64):spl (AZ x) o vs=rtc x.head++(spl (rtc x.safe) (o-32) vs++(rtc x.fin)):=by unfold AZ;rw[pR1 (ak _),pL1 (ak _)]
theorem Oo(x:Cmd)(o:Nat)(vs:List AV)(c:64<=o)(b:o+vs.length<=96):spl (AZ x) o vs=rtc x.head++(rtc x.safe++(spl (rtc x.fin) (o-64) vs)):=by unfold AZ;rw[pR1 (ak _),pR1 (ak _)];grind
theorem yz(x:Cmd):bV (AZ x)=true:=by simp[AZ,cF,d8]
theorem rf(x:Cmd):PuL (AZ x):=by simp[AZ,eJ,dI]
theorem Ey(ρ:Nat->Nat)(x:Cmd):bZ ρ (AZ x)=AZ x:=(rf x).ren ρ
theorem Rk(σ:St)(zs:List Nat)(x:Cmd):fzL σ zs (AZ x)=AZ x:=(rf x).fz σ zs
theorem Up(x:Cmd):(AZ x).map d6=ef [(96,1)]:=by simp only[AZ,amN,lJ];decide +kernel
theorem Yl(x:Cmd):iq [(96,1)] (AZ x)=true:=gD (Up x)
theorem Xr(x y:Cmd):gj (AZ x) (AZ y)=some (decide (x=y)):=by cases x;cases y;simp[AZ,jg,mh]
def fS:Cmd:=⟨rt0,rt0,rt0⟩
structure Sta where
 sto:Sto
 reqs:AV
 rets:AV
 tag:Int
 sent:Bool
 last:Cmd
 over:Bool
 halt:Bool
 deriving Inhabited
def aV(x:Sta):List AV:=aE x.sto++(x.reqs::(x.rets::(.int .u64 x.tag::(.bool x.sent::(AZ x.last++(.bool x.over::[.bool x.halt]))))))
@[simp] theorem wq(x:Sta):(aV x).length=252:=by simp only[aV,List.length_cons,List.length_append,List.length_nil,fq,zM]
theorem jq(sto:Sto)(reqs:AV)(rets:AV)(tag:Int)(sent:Bool)(last:Cmd)(over:Bool)(halt:Bool):aE sto++(reqs::(rets::(.int .u64 tag::(.bool sent::(AZ last++(.bool over::[.bool halt]))))))=aV ⟨sto,reqs,rets,tag,sent,last,over,halt⟩:=rfl
theorem ZP(x:Sta):cut (aV x) 0 252=aV x:=dV (wq x)
theorem PF(x:Sta)(o n:Nat)(c:0<=o)(b:o+n<=150):cut (aV x) o n=cut (aE x.sto) (o-0) n:=by unfold aV;rw[cL1 (zM _)];simp
theorem PH(x:Sta)(o:Nat)(vs:List AV)(d:0<=o)(e:o+vs.length<=150):spl (aV x) o vs=spl (aE x.sto) (o-0) vs++(x.reqs::(x.rets::(.int .u64 x.tag::(.bool x.sent::(AZ x.last++(.bool x.over::[.bool x.halt])))))):=by unfold aV;rw[pL1 (zM _)];simp
theorem K4(x:Sta):cut (aV x) 150 1=[x.reqs]:=by unfold aV;rw[cR1 (zM _)];all_goals rfl
theorem Lv(x:Sta)(v:AV):spl (aV x) 150 [v]=aV { x with reqs:=v }:=by unfold aV;rw[pR1 (zM _)];all_goals rfl
theorem K5(x:Sta):cut (aV x) 151 1=[x.rets]:=by unfold aV;rw[cR1 (zM _),cS1];all_goals rfl
theorem LB(x:Sta)(v:AV):spl (aV x) 151 [v]=aV { x with rets:=v }:=by unfold aV;rw[pR1 (zM _),pS1];all_goals rfl
theorem PG(x:Sta):cut (aV x) 152 1=[.int .u64 x.tag]:=by unfold aV;rw[cR1 (zM _),cS1,cS1];all_goals rfl
theorem PI(x:Sta)(v:Int):spl (aV x) 152 [.int .u64 v]=aV { x with tag:=v }:=by unfold aV;rw[pR1 (zM _),pS1,pS1];all_goals rfl
theorem K6(x:Sta):cut (aV x) 153 1=[.bool x.sent]:=by unfold aV;rw[cR1 (zM _),cS1];all_goals rfl
theorem LC(x:Sta)(v:Bool):spl (aV x) 153 [.bool v]=aV { x with sent:=v }:=by unfold aV;rw[pR1 (zM _),pS1];all_goals rfl
theorem K1(x:Sta)(o n:Nat)(c:154<=o)(b:o+n<=250):cut (aV x) o n=cut (AZ x.last) (o-154) n:=by unfold aV;rw[cR1 (zM _),cS1];rw[cS1,cS1];rw[cS1,cL1 (fq _)];grind
theorem K8(x:Sta)(o:Nat)(vs:List AV)(d:154<=o)(e:o+vs.length<=250):spl (aV x) o vs=aE x.sto++(x.reqs::(x.rets::(.int .u64 x.tag::(.bool x.sent::(spl (AZ x.last) (o-154) vs++(.bool x.over::[.bool x.halt])))))):=by unfold aV;rw[pR1 (zM _),pS1];rw[pS1,pS1];rw[pS1,pL1 (fq _)];grind
theorem K3(x:Sta):cut (aV x) 250 1=[.bool x.over]:=by unfold aV;rw[cR1 (zM _),cS1];rw[cS1,cS1];rw[cS1,cR1 (fq _)];all_goals rfl
theorem K9(x:Sta)(v:Bool):spl (aV x) 250 [.bool v]=aV { x with over:=v }:=by unfold aV;rw[pR1 (zM _),pS1];rw[pS1,pS1];rw[pS1,pR1 (fq _)];all_goals rfl
theorem K0(x:Sta):cut (aV x) 251 1=[.bool x.halt]:=by unfold aV;rw[cR1 (zM _),cS1];rw[cS1,cS1];rw[cS1,cR1 (fq _),cS1];all_goals rfl
theorem K7(x:Sta)(v:Bool):spl (aV x) 251 [.bool v]=aV { x with halt:=v }:=by unfold aV;rw[pR1 (zM _),pS1];rw[pS1,pS1];rw[pS1,pR1 (fq _),pS1];all_goals rfl
def Sta.map(g:AV->AV)(x:Sta):Sta:={ x with sto:=x.sto.map g,reqs:=g x.reqs,rets:=g x.rets }
theorem Sta.map_mk(g:AV->AV)(sto:Sto)(reqs:AV)(rets:AV)(tag:Int)(sent:Bool)(last:Cmd)(over:Bool)(halt:Bool):Sta.map g ⟨sto,reqs,rets,tag,sent,last,over,halt⟩=⟨sto.map g,g reqs,g rets,tag,sent,last,over,halt⟩:=rfl
def Sta.good(x:Sta):Bool:=x.sto.good&&x.reqs.cell&&x.rets.cell
theorem Sta.good_mk(sto:Sto)(reqs:AV)(rets:AV)(tag:Int)(sent:Bool)(last:Cmd)(over:Bool)(halt:Bool):Sta.good ⟨sto,reqs,rets,tag,sent,last,over,halt⟩=(sto.good&&reqs.cell&&rets.cell):=rfl
def Sta.Pure(x:Sta):Prop:=x.sto.Pure/\Pu x.reqs/\Pu x.rets
theorem Jz(x:Sta):bV (aV x)=x.good:=by simp[aV,Sta.good,am3,bM,cF,cG,AV.cell,yz,yD]
theorem Qv(x:Sta):PuL (aV x)↔x.Pure:=by simp[aV,Sta.Pure,eJ,PuL,Pu,rf,uH]
theorem Nr(ρ:Nat->Nat)(x:Sta):bZ ρ (aV x)=aV (x.map (ren ρ)):=by simp only[aV,Sta.map,mY,bZ,ren,Ey,EA]
theorem abj(σ:St)(b:List Nat)(x:Sta):fzL σ b (aV x)=aV (x.map (fz σ b)):=by simp only[aV,Sta.map,oz,fzL,fz,Rk,Ro]
def rD:Sta:=⟨kU,.sl 0 true [],.sl 0 true [],0,false,fS,false,false⟩
attribute [go_sem] cS gR KN KP KO KQ Ic Ig If Ii Ie Ih DY DZ AH Ez XQ aU fK Oa Of Ob Og Hd He Oc Oh N9 Oe JQ JR Cfg.map_mk Cfg.good_mk yw Ew aad wt lK P5 P6 Ts Tt LW LX JA AF Yr Xx YJ wn gS O1 O2 RM RN F8 F9 Jw No ZS zM jt PL PP Gk Gl PM By Vs Vu Vr Vt I8 Jl LD LG I9 Jm PO PS I7 Jj LF LH ym yo PN CZ Sto.map_mk Sto.good_mk yD EA Zr wo iQ Ph Pj IR IT IS IU Pg Pi Jx Np X1 fq gQ JY JZ Oo yz Ey Yl Xr ZP wq jq PF PH K4 Lv K5 LB PG PI K6 LC K1 K8 K3 K9 K0 K7 Sta.map_mk Sta.good_mk Jz Nr adU ui dL gr kU gT fS rD cS Ez Rm aU Cfg.map_mk Ew Ri wt AF abk wn No abf zM Sto.map_mk EA Ro wo Np abh fq Ey Rk wq Sta.map_mk Nr abj
def rows{α:Type}(f:α->List AV)(l:List α):List (List AV):=l.map f
section
variable{α:Type}{f:α->List AV}{l m:List α}
@[simp] theorem RI(f:α->List AV)(l:List α):(rows f l).length=l.length:=by simp[rows]
theorem nj(f:α->List AV):rows f []=[]:=rfl
theorem vT(f:α->List AV)(l m:List α):rows f l++rows f m=rows f (l++m):=by simp[rows]
theorem cR(f:α->List AV)(l:List α)(x:α):rows f l++[f x]=rows f (l++[x]):=by simp[rows]
theorem si(f:α->List AV)(l:List α)(n:Nat):(rows f l).take n=rows f (l.take n):=by simp[rows]
theorem uz(f:α->List AV)(l:List α)(n:Nat):(rows f l).drop n=rows f (l.drop n):=by simp[rows]
theorem F2(f:α->List AV)(l:List α)(n:Nat)(x:α):(rows f l).set n (f x)=rows f (l.set n x):=by simp[rows]
theorem acs(f:α->List AV)(n:Nat)(x:α):List.replicate n (f x)=rows f (List.replicate n x):=by simp[rows]
theorem aS{i:Nat}(d:α)(h:i<l.length):(rows f l).getD i []=f (l.getD i d):=by
 simp[rows,alt,h]
theorem cQ(h:∀x∈l,PuL (f x)):fy (rows f l):=by
 rw[mf];intro x b;obtain⟨y,c,rfl⟩:=amV.1 b;grind
end
theorem gdn{k:IntKind}{ns:List Int}{i:Nat}(h:i<ns.length):(aH k ns).getD i []=[.int k (ns.getD i 0)]:=by
 simp[aH,alt,h]
def mj(b:Bool):List AV:=[.bool b]
theorem Xp(b:Bool):PuL (mj b):=by simp[mj,PuL,Pu]
theorem Ia(h:Bool)(c:Cp):.bool h::cpC c=al ⟨h,c.ep,c.rt⟩:=rfl
attribute [go_sem] Ia
attribute [go_sem] RI nj
structure bp where
 slot:Int
 root:Rt
 target:Cp
 vals:List Int
 deriving Inhabited,DecidableEq
def bp.a(x:bp):Att:=⟨x.slot,x.root,x.target,.sl 1 false (aH .i64 x.vals)⟩
abbrev bp.c(x:bp):List AV:=cy x.a
theorem bp.a_slot(x:bp):x.a.slot=x.slot:=rfl
theorem bp.a_root(x:bp):x.a.root=x.root:=rfl
theorem bp.a_target(x:bp):x.a.target=x.target:=rfl
theorem bp.a_vals(x:bp):x.a.vals=.sl 1 false (aH .i64 x.vals):=rfl
theorem bp.pure(x:bp):x.a.Pure:=by
 exact bE _ _
theorem bp.pul(x:bp):PuL (cy x.a):=(fB _).2 x.pure
theorem bp.map_ren(ρ:Nat->Nat)(x:bp):x.a.map (ren ρ)=x.a:=by
 unfold bp.a Att.map;simp only[ren,dG]
theorem bp.map_fz(σ:St)(a:List Nat)(x:bp):x.a.map (fz σ a)=x.a:=by
 unfold bp.a Att.map;simp only[fz,dM]
theorem bp.good_a(x:bp):x.a.good=true:=by
 simp[bp.a,Att.good,AV.cell]
structure aW where
 cp:Cp
 bals:List Int
 deriving Inhabited,DecidableEq
def aW.a(x:aW):Tab:=⟨x.cp,.sl 1 false (aH .u64 x.bals)⟩
abbrev aW.c(x:aW):List AV:=ar x.a
theorem aW.a_cp(x:aW):x.a.cp=x.cp:=rfl
theorem aW.a_bals(x:aW):x.a.bals=.sl 1 false (aH .u64 x.bals):=rfl
theorem aW.pure(x:aW):x.a.Pure:=by
 exact bE _ _
theorem aW.pul(x:aW):PuL (ar x.a):=(eP _).2 x.pure
theorem aW.map_ren(ρ:Nat->Nat)(x:aW):x.a.map (ren ρ)=x.a:=by
 unfold aW.a Tab.map;simp only[ren,dG]
theorem aW.map_fz(σ:St)(a:List Nat)(x:aW):x.a.map (fz σ a)=x.a:=by
 unfold aW.a Tab.map;simp only[fz,dM]
theorem aW.good_a(x:aW):x.a.good=true:=by
 simp[aW.a,Tab.good,AV.cell]
structure fc where
 src:Int
 tgt:Int
 root:Rt
 vals:List Int
 deriving Inhabited,DecidableEq
def fc.a(x:fc):Clm:=⟨x.src,x.tgt,x.root,.sl 1 false (aH .i64 x.vals)⟩
theorem fc.a_src(x:fc):x.a.src=x.src:=rfl
theorem fc.a_tgt(x:fc):x.a.tgt=x.tgt:=rfl
theorem fc.a_root(x:fc):x.a.root=x.root:=rfl
theorem fc.a_vals(x:fc):x.a.vals=.sl 1 false (aH .i64 x.vals):=rfl
theorem fc.pure(x:fc):x.a.Pure:=by
 exact bE _ _
theorem fc.pul(x:fc):PuL (du x.a):=(re _).2 x.pure
theorem fc.map_ren(ρ:Nat->Nat)(x:fc):x.a.map (ren ρ)=x.a:=by
 unfold fc.a Clm.map;simp only[ren,dG]
theorem fc.map_fz(σ:St)(a:List Nat)(x:fc):x.a.map (fz σ a)=x.a:=by
 unfold fc.a Clm.map;simp only[fz,dM]
theorem fc.good_a(x:fc):x.a.good=true:=by
 simp[fc.a,Clm.good,AV.cell]
structure fe where
 fst:fc
 snd:fc
 deriving Inhabited,DecidableEq
def fe.a(x:fe):Slg:=⟨x.fst.a,x.snd.a⟩
theorem fe.a_fst(x:fe):x.a.fst=x.fst.a:=rfl
theorem fe.a_snd(x:fe):x.a.snd=x.snd.a:=rfl
theorem fe.pure(x:fe):x.a.Pure:=by
 exact⟨fc.pure _,fc.pure _⟩
theorem fe.pul(x:fe):PuL (d7 x.a):=(j7 _).2 x.pure
theorem fe.map_ren(ρ:Nat->Nat)(x:fe):x.a.map (ren ρ)=x.a:=by
 unfold fe.a Slg.map;simp only[fc.map_ren]
theorem fe.map_fz(σ:St)(a:List Nat)(x:fe):x.a.map (fz σ a)=x.a:=by
 unfold fe.a Slg.map;simp only[fc.map_fz]
theorem fe.good_a(x:fe):x.a.good=true:=by
 simp[fe.a,Slg.good,fc.good_a]
structure cU where
 lim:Lim
 spe:Int
 boost:Int
 ttd:Wd
 gen:Rt
 bals:List Int
 deriving Inhabited,DecidableEq
def cU.a(x:cU):Cfg:=⟨x.lim,x.spe,x.boost,x.ttd,x.gen,.sl 1 false (aH .u64 x.bals)⟩
theorem cU.a_lim(x:cU):x.a.lim=x.lim:=rfl
theorem cU.a_spe(x:cU):x.a.spe=x.spe:=rfl
theorem cU.a_boost(x:cU):x.a.boost=x.boost:=rfl
theorem cU.a_ttd(x:cU):x.a.ttd=x.ttd:=rfl
theorem cU.a_gen(x:cU):x.a.gen=x.gen:=rfl
theorem cU.a_bals(x:cU):x.a.bals=.sl 1 false (aH .u64 x.bals):=rfl
theorem cU.pure(x:cU):x.a.Pure:=by
 exact bE _ _
theorem cU.pul(x:cU):PuL (bW x.a):=(Qu _).2 x.pure
theorem cU.map_ren(ρ:Nat->Nat)(x:cU):x.a.map (ren ρ)=x.a:=by
 unfold cU.a Cfg.map;simp only[ren,dG]
theorem cU.map_fz(σ:St)(a:List Nat)(x:cU):x.a.map (fz σ a)=x.a:=by
 unfold cU.a Cfg.map;simp only[fz,dM]
theorem cU.good_a(x:cU):x.a.good=true:=by
 simp[cU.a,Cfg.good,AV.cell]
structure ap where
 cfg:cU
 latest:List Vot
 eqv:List Int
 j:Cp
 f:Cp
 early:List bp
 orph:List Blk
 nodes:List Nod
 now:Int
 boost:Rt
 tabs:List aW
 deriving Inhabited,DecidableEq
def ap.a(x:ap):Sto:=⟨x.cfg.a,.sl 34 false (rows al x.latest),.sl 1 false (aH .i64 x.eqv),x.j,x.f,.sl 67 false (rows bp.c x.early),.sl 238 false (rows aO x.orph),.sl 240 false (rows bB x.nodes),x.now,x.boost,.sl 34 false (rows aW.c x.tabs)⟩
theorem ap.a_cfg(x:ap):x.a.cfg=x.cfg.a:=rfl
theorem ap.a_latest(x:ap):x.a.latest=.sl 34 false (rows al x.latest):=rfl
theorem ap.a_eqv(x:ap):x.a.eqv=.sl 1 false (aH .i64 x.eqv):=rfl
theorem ap.a_j(x:ap):x.a.j=x.j:=rfl
theorem ap.a_f(x:ap):x.a.f=x.f:=rfl
theorem ap.a_early(x:ap):x.a.early=.sl 67 false (rows bp.c x.early):=rfl
theorem ap.a_orph(x:ap):x.a.orph=.sl 238 false (rows aO x.orph):=rfl
theorem ap.a_nodes(x:ap):x.a.nodes=.sl 240 false (rows bB x.nodes):=rfl
theorem ap.a_now(x:ap):x.a.now=x.now:=rfl
theorem ap.a_boost(x:ap):x.a.boost=x.boost:=rfl
theorem ap.a_tabs(x:ap):x.a.tabs=.sl 34 false (rows aW.c x.tabs):=rfl
theorem ap.pure(x:ap):x.a.Pure:=by
 exact⟨cU.pure _,cQ fun x _=>oT x,bE _ _,cQ fun x _=>(fB _).2 (bp.pure x),cQ fun x _=>gA x,cQ fun x _=>oS x,cQ fun x _=>(eP _).2 (aW.pure x)⟩
theorem ap.pul(x:ap):PuL (aE x.a):=(uH _).2 x.pure
theorem ap.map_ren(ρ:Nat->Nat)(x:ap):x.a.map (ren ρ)=x.a:=by
 unfold ap.a Sto.map;simp only[ren,dG,cU.map_ren,(cQ (f:=al) (l:=x.latest) fun y _=>oT y).ren ρ,(cQ (f:=bp.c) (l:=x.early) fun y _=>(fB _).2 (bp.pure y)).ren ρ,(cQ (f:=aO) (l:=x.orph) fun y _=>gA y).ren ρ,(cQ (f:=bB) (l:=x.nodes) fun y _=>oS y).ren ρ,(cQ (f:=aW.c) (l:=x.tabs) fun y _=>(eP _).2 (aW.pure y)).ren ρ]
theorem ap.map_fz(σ:St)(a:List Nat)(x:ap):x.a.map (fz σ a)=x.a:=by
 unfold ap.a Sto.map;simp only[fz,dM,cU.map_fz,(cQ (f:=al) (l:=x.latest) fun y _=>oT y).fz σ a,(cQ (f:=bp.c) (l:=x.early) fun y _=>(fB _).2 (bp.pure y)).fz σ a,(cQ (f:=aO) (l:=x.orph) fun y _=>gA y).fz σ a,(cQ (f:=bB) (l:=x.nodes) fun y _=>oS y).fz σ a,(cQ (f:=aW.c) (l:=x.tabs) fun y _=>(eP _).2 (aW.pure y)).fz σ a]
theorem ap.good_a(x:ap):x.a.good=true:=by
 simp[ap.a,Sto.good,AV.cell,cU.good_a]
structure aI where
 sto:ap
 reqs:List Req
 rets:List Req
 tag:Int
 sent:Bool
 last:Cmd
 over:Bool
 halt:Bool
 deriving Inhabited,DecidableEq
def aI.a(x:aI):Sta:=⟨x.sto.a,.sl 35 false (rows aP x.reqs),.sl 35 false (rows aP x.rets),x.tag,x.sent,x.last,x.over,x.halt⟩
theorem aI.a_sto(x:aI):x.a.sto=x.sto.a:=rfl
theorem aI.a_reqs(x:aI):x.a.reqs=.sl 35 false (rows aP x.reqs):=rfl
theorem aI.a_rets(x:aI):x.a.rets=.sl 35 false (rows aP x.rets):=rfl
theorem aI.a_tag(x:aI):x.a.tag=x.tag:=rfl
theorem aI.a_sent(x:aI):x.a.sent=x.sent:=rfl
theorem aI.a_last(x:aI):x.a.last=x.last:=rfl
theorem aI.a_over(x:aI):x.a.over=x.over:=rfl
theorem aI.a_halt(x:aI):x.a.halt=x.halt:=rfl
theorem aI.pure(x:aI):x.a.Pure:=by
 exact⟨ap.pure _,cQ fun x _=>gB x,cQ fun x _=>gB x⟩
theorem aI.pul(x:aI):PuL (aV x.a):=(Qv _).2 x.pure
theorem aI.map_ren(ρ:Nat->Nat)(x:aI):x.a.map (ren ρ)=x.a:=by
 unfold aI.a Sta.map;simp only[ren,ap.map_ren,(cQ (f:=aP) (l:=x.reqs) fun y _=>gB y).ren ρ,(cQ (f:=aP) (l:=x.rets) fun y _=>gB y).ren ρ]
theorem aI.map_fz(σ:St)(a:List Nat)(x:aI):x.a.map (fz σ a)=x.a:=by
 unfold aI.a Sta.map;simp only[fz,ap.map_fz,(cQ (f:=aP) (l:=x.reqs) fun y _=>gB y).fz σ a,(cQ (f:=aP) (l:=x.rets) fun y _=>gB y).fz σ a]
theorem aI.good_a(x:aI):x.a.good=true:=by
 simp[aI.a,Sta.good,AV.cell,ap.good_a]
structure VOp where
 kind:Int
 blk:Blk
 att:bp
 slg:fe
 tab:aW
 vdt:Vdt
 write:Int
 keep:Int
 deriving Inhabited,DecidableEq
def VOp.a(x:VOp):SOp:=⟨x.kind,x.blk,x.att.a,x.slg.a,x.tab.a,x.vdt,x.write,x.keep⟩
abbrev VOp.c(x:VOp):List AV:=dj x.a
theorem VOp.a_kind(x:VOp):x.a.kind=x.kind:=rfl
theorem VOp.a_blk(x:VOp):x.a.blk=x.blk:=rfl
theorem VOp.a_att(x:VOp):x.a.att=x.att.a:=rfl
theorem VOp.a_slg(x:VOp):x.a.slg=x.slg.a:=rfl
theorem VOp.a_tab(x:VOp):x.a.tab=x.tab.a:=rfl
theorem VOp.a_vdt(x:VOp):x.a.vdt=x.vdt:=rfl
theorem VOp.a_write(x:VOp):x.a.write=x.write:=rfl
theorem VOp.a_keep(x:VOp):x.a.keep=x.keep:=rfl
theorem VOp.pure(x:VOp):x.a.Pure:=by
 exact⟨bp.pure _,fe.pure _,aW.pure _⟩
theorem VOp.pul(x:VOp):PuL (dj x.a):=(jd _).2 x.pure
theorem VOp.good_a(x:VOp):x.a.good=true:=by
 simp[VOp.a,SOp.good,bp.good_a,fe.good_a,aW.good_a]
theorem jF(l:List Rt):fy (rows rtc l):=cQ fun x _=>dI x
theorem IP(ρ:Nat->Nat)(l:List Rt):bH ρ (rows rtc l)=rows rtc l:=(jF l).ren ρ
theorem KM(σ:St)(zs:List Nat)(l:List Rt):dh σ zs (rows rtc l)=rows rtc l:=(jF l).fz σ zs
theorem mb(l:List Bool):fy (rows mj l):=cQ fun x _=>Xp x
theorem Eu(ρ:Nat->Nat)(l:List Bool):bH ρ (rows mj l)=rows mj l:=(mb l).ren ρ
theorem F6(σ:St)(zs:List Nat)(l:List Bool):dh σ zs (rows mj l)=rows mj l:=(mb l).fz σ zs
theorem nZ(l:List Vot):fy (rows al l):=cQ fun x _=>oT x
theorem ud(ρ:Nat->Nat)(l:List Vot):bH ρ (rows al l)=rows al l:=(nZ l).ren ρ
theorem wc(σ:St)(zs:List Nat)(l:List Vot):dh σ zs (rows al l)=rows al l:=(nZ l).fz σ zs
theorem nX(l:List Blk):fy (rows aO l):=cQ fun x _=>gA x
theorem ua(ρ:Nat->Nat)(l:List Blk):bH ρ (rows aO l)=rows aO l:=(nX l).ren ρ
theorem vZ(σ:St)(zs:List Nat)(l:List Blk):dh σ zs (rows aO l)=rows aO l:=(nX l).fz σ zs
theorem j9(l:List Nod):fy (rows bB l):=cQ fun x _=>oS x
theorem ub(ρ:Nat->Nat)(l:List Nod):bH ρ (rows bB l)=rows bB l:=(j9 l).ren ρ
theorem wa(σ:St)(zs:List Nat)(l:List Nod):dh σ zs (rows bB l)=rows bB l:=(j9 l).fz σ zs
theorem nY(l:List Req):fy (rows aP l):=cQ fun x _=>gB x
theorem uc(ρ:Nat->Nat)(l:List Req):bH ρ (rows aP l)=rows aP l:=(nY l).ren ρ
theorem wb(σ:St)(zs:List Nat)(l:List Req):dh σ zs (rows aP l)=rows aP l:=(nY l).fz σ zs
theorem fm(l:List Cmd):fy (rows AZ l):=cQ fun x _=>rf x
theorem vg(ρ:Nat->Nat)(l:List Cmd):bH ρ (rows AZ l)=rows AZ l:=(fm l).ren ρ
theorem HS(σ:St)(zs:List Nat)(l:List Cmd):dh σ zs (rows AZ l)=rows AZ l:=(fm l).fz σ zs
theorem nW(l:List bp):fy (rows bp.c l):=cQ fun x _=>bp.pul x
theorem tY(ρ:Nat->Nat)(l:List bp):bH ρ (rows bp.c l)=rows bp.c l:=(nW l).ren ρ
theorem vX(σ:St)(zs:List Nat)(l:List bp):dh σ zs (rows bp.c l)=rows bp.c l:=(nW l).fz σ zs
theorem j8(l:List aW):fy (rows aW.c l):=cQ fun x _=>aW.pul x
theorem tZ(ρ:Nat->Nat)(l:List aW):bH ρ (rows aW.c l)=rows aW.c l:=(j8 l).ren ρ
theorem vY(σ:St)(zs:List Nat)(l:List aW):dh σ zs (rows aW.c l)=rows aW.c l:=(j8 l).fz σ zs
theorem qd(l:List VOp):fy (rows VOp.c l):=cQ fun x _=>VOp.pul x
theorem vS(ρ:Nat->Nat)(l:List VOp):bH ρ (rows VOp.c l)=rows VOp.c l:=(qd l).ren ρ
theorem yA(σ:St)(zs:List Nat)(l:List VOp):dh σ zs (rows VOp.c l)=rows VOp.c l:=(qd l).fz σ zs
attribute [go_sem] bp.a_slot bp.a_root bp.a_target bp.a_vals bp.pul bp.map_ren bp.map_fz bp.good_a aW.a_cp aW.a_bals aW.pul aW.map_ren aW.map_fz aW.good_a fc.a_src fc.a_tgt fc.a_root fc.a_vals fc.pul fc.map_ren fc.map_fz fc.good_a fe.a_fst fe.a_snd fe.pul fe.map_ren fe.map_fz fe.good_a cU.a_lim cU.a_spe cU.a_boost cU.a_ttd cU.a_gen cU.a_bals cU.pul cU.map_ren cU.map_fz cU.good_a ap.a_cfg ap.a_latest ap.a_eqv ap.a_j ap.a_f ap.a_early ap.a_orph ap.a_nodes ap.a_now ap.a_boost ap.a_tabs ap.pul ap.map_ren ap.map_fz ap.good_a aI.a_sto aI.a_reqs aI.a_rets aI.a_tag aI.a_sent aI.a_last aI.a_over aI.a_halt aI.pul aI.map_ren aI.map_fz aI.good_a VOp.a_kind VOp.a_blk VOp.a_att VOp.a_slg VOp.a_tab VOp.a_vdt VOp.a_write VOp.a_keep VOp.pul VOp.good_a jF IP KM mb Eu F6 nZ ud wc nX ua vZ j9 ub wa nY uc wb fm vg HS nW tY vX j8 tZ vY qd vS yA
def Sm{α:Type}(G F:α->Prop):Prop:=∃r,G r/\F r
section
variable{α:Type}{G:α->Prop}{P:Program}{nt k:Nat}{fr:Fr}{σ:St}
theorem iR{p q:α->Prop}(h:∀r,q r->p r)(hq:Sm G q):Sm G p:=hq.imp fun r h1=>⟨h1.1,h r h1.2⟩
theorem W3{F:α->Prop}(r:α)(h1:G r)(h2:F r):Sm G F:=⟨r,h1,h2⟩
theorem cM{p q:α->Prop}(hq:Sm G q) (h:∀r,Hid (q r)->p r:=by
 (intro r hq
  (first|with_reducible (first|refine tp ?_|refine jV ?_|refine qN ?_|refine na (by simp only[al8,ama]) ?_|refine nf ?_|refine nc ?_|refine qO ?_)|(simp only[go_sem,Nat.reduceAdd,Nat.reduceSub,Nat.reduceMul,Nat.reduceLT,Nat.reduceLeDiff,Nat.reduceEqDiff,reduceIte,Int.reduceToNat,Int.reduceLT,Int.reduceLE,Int.reduceEq,Int.reduceNeg,reduceCtorEq,Int.reduceBEq,Int.reduceBNe])|with_reducible refine And.intro (pE WN) ?_|(with_reducible refine And.intro ?_ ?_;first|omega|decide|(simp;done)|(simp;omega)))
  repeat(first|with_reducible (first|refine tp ?_|refine jV ?_|refine qN ?_|refine na (by simp only[al8,ama]) ?_|refine nf ?_|refine nc ?_|refine qO ?_)|(simp only[go_sem,Nat.reduceAdd,Nat.reduceSub,Nat.reduceMul,Nat.reduceLT,Nat.reduceLeDiff,Nat.reduceEqDiff,reduceIte,Int.reduceToNat,Int.reduceLT,Int.reduceLE,Int.reduceEq,Int.reduceNeg,reduceCtorEq,Int.reduceBEq,Int.reduceBNe])|with_reducible refine And.intro (pE WN) ?_|(with_reducible refine And.intro ?_ ?_;first|omega|decide|(simp;done)|(simp;omega)))
  exact hq.out)):Sm G p:=iR (fun r h1=>h r ⟨h1⟩) hq
theorem dv{x y:ab}{Q:α->Ex->Fr->St->Prop}(h:Sm G fun r=>Tri P nt k x (gf (Tri P nt k y (Q r)) (Q r)) fr σ):Sm G fun r=>Tri P nt k (.seq x y) (Q r) fr σ:=iR (fun r h1=>tp h1) h
theorem gU{p q:α->Prop}(hq:Sm G q) (h:∀r,Hid (q r)->p r:=by
 (intro r hq
  (first|with_reducible (first|refine jV ?_|refine qN ?_|refine na (by simp only[al8,ama]) ?_|refine nf ?_|refine nc ?_|refine qO ?_)|(simp only[go_sem,Nat.reduceAdd,Nat.reduceSub,Nat.reduceMul,Nat.reduceLT,Nat.reduceLeDiff,Nat.reduceEqDiff,reduceIte,Int.reduceToNat,Int.reduceLT,Int.reduceLE,Int.reduceEq,Int.reduceNeg,reduceCtorEq,Int.reduceBEq,Int.reduceBNe])|with_reducible refine And.intro (pE WN) ?_|(with_reducible refine And.intro ?_ ?_;first|omega|decide|(simp;done)|(simp;omega)))
  repeat(first|with_reducible (first|refine jV ?_|refine qN ?_|refine na (by simp only[al8,ama]) ?_|refine nf ?_|refine nc ?_|refine qO ?_)|(simp only[go_sem,Nat.reduceAdd,Nat.reduceSub,Nat.reduceMul,Nat.reduceLT,Nat.reduceLeDiff,Nat.reduceEqDiff,reduceIte,Int.reduceToNat,Int.reduceLT,Int.reduceLE,Int.reduceEq,Int.reduceNeg,reduceCtorEq,Int.reduceBEq,Int.reduceBNe])|with_reducible refine And.intro (pE WN) ?_|(with_reducible refine And.intro ?_ ?_;first|omega|decide|(simp;done)|(simp;omega)))
  exact hq.out)):Sm G p:=iR (fun r h1=>h r ⟨h1⟩) hq
theorem lz{p q:α->Prop}(hq:Sm G q) (h:∀r,Hid (q r)->p r:=by
 (intro r hq
  (first|(simp only[go_sem,Nat.reduceAdd,Nat.reduceSub,Nat.reduceMul,Nat.reduceLT,Nat.reduceLeDiff,Nat.reduceEqDiff,reduceIte,Int.reduceToNat,Int.reduceLT,Int.reduceLE,Int.reduceEq,Int.reduceNeg,reduceCtorEq,Int.reduceBEq,Int.reduceBNe])|with_reducible refine And.intro (pE WN) ?_|(with_reducible refine And.intro ?_ ?_;first|omega|decide|(simp;done)|(simp;omega)))
  repeat(first|(simp only[go_sem,Nat.reduceAdd,Nat.reduceSub,Nat.reduceMul,Nat.reduceLT,Nat.reduceLeDiff,Nat.reduceEqDiff,reduceIte,Int.reduceToNat,Int.reduceLT,Int.reduceLE,Int.reduceEq,Int.reduceNeg,reduceCtorEq,Int.reduceBEq,Int.reduceBNe])|with_reducible refine And.intro (pE WN) ?_|(with_reducible refine And.intro ?_ ?_;first|omega|decide|(simp;done)|(simp;omega)))
  exact hq.out)):Sm G p:=iR (fun r h1=>h r ⟨h1⟩) hq
theorem bR{c:Opd}{x y:ab}{Q:α->Ex->Fr->St->Prop}{t:Bool}(h1:t=true->Sm G fun r=>Tri P nt k x (Q r) fr σ)(h2:t=false->Sm G fun r=>Tri P nt k y (Q r) fr σ)
 (hb:c.ev fr=.bool t:=by first|rfl|(simp only[go_sem];rfl)):Sm G fun r=>Tri P nt k (.cond c x y) (Q r) fr σ:=by
 cases t with
 |true=>exact iR (fun r h=>aY hb (fun _=>h) (fun h=>by cases h)) (h1 rfl)
 |false=>exact iR (fun r h=>aY hb (fun h=>by cases h) (fun _=>h)) (h2 rfl)
theorem eo{p1 p2:Prop}{A B:α->Prop}(h1:p1->Sm G A)(h2:p2->Sm G B)(hx:p1->p2->False:=by intro h1 h2;first|(rw[h1]at h2;cases h2;done)|exact h2 h1|exact h1 h2|(simp_all;done)|omega)
 (ho:p1\/p2:=by first|exact Classical.em _|exact(Classical.em _).symm|exact Bool.eq_false_or_eq_true _|exact(Bool.eq_false_or_eq_true _).symm|(simp;omega)|omega):Sm G fun r=>(p1->A r)/\(p2->B r):=by
 rcases ho with h|h
 ·exact iR (fun r h3=>⟨fun _=>h3,fun h4=>(hx h h4).elim⟩) (h1 h)
 ·exact iR (fun r h3=>⟨fun h4=>(hx h4 h).elim,fun _=>h3⟩) (h2 h)
theorem db{f:FuncId}{args caps:List AV}{r0:AV}{K:α->AV->St->Prop}(h:PC P f (args++caps) r0)(hk:Sm G fun r=>K r r0 σ):Sm G fun r=>jl P (.fn (.func f) caps) args σ (K r):=iR (fun r h1=>am h h1) hk
theorem dZ{n:Nat}{f:FuncId}{args caps:List AV}{r0:AV}{K:α->AV->List Nat->List Nat->St->Prop}(h:PC P f (args++caps) r0)(hk:Sm G fun r=>K r r0 [] [] σ):
 Sm G fun r=>∃v ft ch σ',vo P n (.fn (.func f) caps) args σ v ft ch σ'/\K r v ft ch σ':=iR (fun r h1=>aK h h1) hk
theorem ahh{c:ab}{Q:α->Ex->Fr->St->Prop}{fr2:Fr}{σ2:St}(hg:GC k fr σ fr2 σ2)(h:Sm G fun r=>Tri P nt k c (Q r) fr2 σ2):Sm G fun r=>Tri P nt k c (Q r) fr σ:=iR (fun r h1=>eg hg h1) h
def agW(P:Program)(nt k:Nat)(x:ab)(fr:Fr)(σ:St)(fr2:Fr)(σ2:St):Prop:=∀ (z:ab) (Q0 Q:Ex->Fr->St->Prop),Tri P nt k z Q0 fr2 σ2->Tri P nt k x (gf (Tri P nt k z Q0) Q) fr σ
theorem Cf{x:ab}{fr2:Fr}{σ2:St}(h:Tri P nt k x (fun e fr σ=>e=.normal/\GC k fr σ fr2 σ2) fr σ):agW P nt k x fr σ fr2 σ2:=fun z l Q i=>Tri.mono h fun e g σ3 ⟨j,d⟩=>by
 subst j;exact eg d i
theorem xT{c:Opd}{x y z:ab}{Q0 Q:Ex->Fr->St->Prop}{t:Bool}{nv:Nat}{vs:List AV}{ts:List (Nat×AV)}(us:Bool->List (Nat×AV))(S:Bool->St)
 (hx:t=true->Tri P nt k x (fun e fr σ=>e=.normal/\GC k fr σ ⟨nv,jc (us true) vs,[]⟩ (S true)) ⟨nv,vs,ts⟩ σ) (hy:t=false->Tri P nt k y (fun e fr σ=>e=.normal/\GC k fr σ ⟨nv,jc (us false) vs,[]⟩ (S false)) ⟨nv,vs,ts⟩ σ)
 (hz:Tri P nt k z Q0 ⟨nv,jc (us t) vs,[]⟩ (S t)) (hb:c.ev ⟨nv,vs,ts⟩=.bool t:=by first|rfl|(simp only[go_sem];rfl)):Tri P nt k (.cond c x y) (gf (Tri P nt k z Q0) Q) ⟨nv,vs,ts⟩ σ:=by
 cases t with
 |true=>exact aY hb (fun _=>Cf (hx rfl) z Q0 Q hz) (fun h=>by cases h)
 |false=>exact aY hb (fun h=>by cases h) (fun _=>Cf (hy rfl) z Q0 Q hz)
theorem PB{β:Type}{x z:ab}{g Q:α->Ex->Fr->St->Prop}{H:β->Prop}{F:β->Fr}{S:β->St}(h:Sm H fun b=>Tri P nt k x (fun e fr σ=>e=.normal/\GC k fr σ (F b) (S b)) fr σ)
 (j:∀b,H b->Sm G fun r=>Tri P nt k z (g r) (F b) (S b)):Sm G fun r=>Tri P nt k x (gf (Tri P nt k z (g r)) (Q r)) fr σ:=by
 obtain⟨b,l,m⟩:=h;exact iR (fun r i=>Cf m z _ _ i) (j b l)
theorem kj{β:Type}{x z:ab}{Q0 Q:α->Ex->Fr->St->Prop}{nv:Nat}{vs:List AV}{ts:List (Nat×AV)}(H:β->Prop)(f:β->List AV)(i:Nat)(us:List (Nat×AV))(h:Sm H fun b=>Tri P nt k x (fun e fr' σ'=>e=.normal/\GC k fr' σ' ⟨nv,jc us vs,[]⟩ (σ.set i (.var (f b)))) ⟨nv,vs,ts⟩ σ)
 (hz:∀b,H b->Sm G fun r=>Tri P nt k z (Q0 r) ⟨nv,jc us vs,[]⟩ (σ.set i (.var (f b)))):Sm G fun r=>Tri P nt k x (gf (Tri P nt k z (Q0 r)) (Q r)) ⟨nv,vs,ts⟩ σ:=PB (F:=fun _=>⟨nv,jc us vs,[]⟩) (S:=fun b=>σ.set i (.var (f b))) h hz
theorem tE{β:Type}{x z:ab}{Q0 Q:α->Ex->Fr->St->Prop}{nv:Nat}{vs:List AV}{ts:List (Nat×AV)}(H:β->Prop)(us:β->List (Nat×AV))(h:Sm H fun b=>Tri P nt k x (fun e fr' σ'=>e=.normal/\GC k fr' σ' ⟨nv,jc (us b) vs,[]⟩ σ) ⟨nv,vs,ts⟩ σ)
 (hz:∀b,H b->Sm G fun r=>Tri P nt k z (Q0 r) ⟨nv,jc (us b) vs,[]⟩ σ):Sm G fun r=>Tri P nt k x (gf (Tri P nt k z (Q0 r)) (Q r)) ⟨nv,vs,ts⟩ σ:=PB (F:=fun b=>⟨nv,jc (us b) vs,[]⟩) (S:=fun _=>σ) h hz
theorem I6{β:Type}{x z:ab}{Q0 Q:α->Ex->Fr->St->Prop}{nv:Nat}{vs:List AV}{ts:List (Nat×AV)}(H:β->Prop)(us:β->List (Nat×AV))(S:β->St)(h:Sm H fun b=>Tri P nt k x (fun e fr' σ'=>e=.normal/\GC k fr' σ' ⟨nv,jc (us b) vs,[]⟩ (S b)) ⟨nv,vs,ts⟩ σ)
 (hz:∀b,H b->Sm G fun r=>Tri P nt k z (Q0 r) ⟨nv,jc (us b) vs,[]⟩ (S b)):Sm G fun r=>Tri P nt k x (gf (Tri P nt k z (Q0 r)) (Q r)) ⟨nv,vs,ts⟩ σ:=PB (F:=fun b=>⟨nv,jc (us b) vs,[]⟩) (S:=S) h hz
theorem jM{H:α->Prop}{fr1 fr2:Fr}{σ1:St}{S:α->St}(f:α->List AV)(i:Nat){b:α}(hi:σ1[i]?=some (.var (f b)))(hb:H b)(hg:GC k fr1 σ1 fr2 (S b)):Sm H fun r=>GC k fr1 σ1 fr2 (S r):=⟨b,hb,hg⟩
theorem I5{rs:List gN}{F:α->AV}{l:List AV}{b:α}(hl:dH fr σ rs=some l)(hv:fz σ (List.range σ.length) (gk l)=F b)(hg:G b):Sm G fun r=>PQ rs (F r) .ret fr σ:=⟨b,hg,l,hl,.inl hv⟩
theorem md{f:FuncId}{g:List gN}{d:ab}{args:List AV}{F:α->AV}(b:Nat)(j:aJ P f=some (nt,g,d))(n:args.length<=nt)(k:PuL args)(l:∀r,G r->Pu (F r))
 (h:Sm G fun r=>Tri P nt 0 d (PQ g (F r)) ⟨b,args++List.replicate (b-args.length) .dead,[]⟩ []):Sm G fun r=>PC P f args (F r):=by
 obtain⟨r,i,m⟩:=h;exact⟨r,i,PC.fact b j n k (l r i) m⟩
end
section
variable{P:Program}{σ:St}
theorem tU{n:Nat}{loc:Nat->Option Loc}{b:Nat}:¬bi (List.replicate n .gone) loc b:=by
 rintro⟨id,o,L,c,e,_⟩;rw[ak3]at c;split at c
 ·simp only[al9]at c;subst c;cases e
 grind
theorem ay.give{f:FuncId}{args:List AV}{r:AV}(h:PC P f (fzL σ (List.range σ.length) args) r):ay P f args σ r (List.replicate σ.length .gone):=by
 refine⟨h.call.1,WM,fun X loc w y t n=>?_⟩;obtain⟨c,R,K,W,F⟩:=(pv σ (List.range σ.length)).rel t;have G:=h.pa
 have x:RlS (bh X c [] w) (fzL σ (List.range σ.length) args) y:=by
  have N:∀ {xs:List AV} {p:List Value},PuL (fzL σ (List.range σ.length) xs)->RlS (bh X loc σ w) xs p->RlS (bh X c [] w) (fzL σ (List.range σ.length) xs) p:=by
   intro xs;induction xs with
   |nil=>intro p _ n;exact n
   | cons a xs H =>
     intro p z n;obtain⟨u,q,e,d,s⟩:=n;exact⟨u,q,e,F a u d _ (z.1.ren _).symm,H z.2 s⟩
  grind
 refine(h.call.2.2 X c w y K x).mono ?_;rintro e w' ⟨v,g,rfl,k,_⟩;have U:g=fun _=>none:=funext fun id=>k.rel.beyond id (amc _)
 refine⟨v,loc,rfl,⟨fun _ _ h=>h,⟨fun id o d s=>?_,fun i j a b S T _ d _ M=>?_,fun b l=>⟨aj0 (t.out b l).1 k.ev.size,tU⟩,fun id I=>t.beyond id WO⟩,?_,⟨k.ev.size,fun b l C=>k.ev.blk b l (fun D=>WO),k.ev.os,k.ev.tape,k.ev.output⟩,fun b l=>absurd l tU⟩,fun _ _=>rfl⟩
 ·rw[ak3]at d;split at d
  ·simp only[al9]at d;subst d;cases s
  grind
 ·rw[ak3]at d;split at d
  ·simp only[al9]at d;subst d;cases M
  grind
 ·refine Rl.mono (E:=bh X g [] w') (E':=bh X loc (List.replicate σ.length .gone) w') ⟨fun id L V=>?_,amb _,fun b l C=>⟨fun(Q:X b\/bi _ loc b)=>C (Q.elim .inl fun D=>absurd D tU),rfl⟩⟩ _ _ k.val;grind
end
def HJ(σ:St)(zs:List Nat)(ρ:Nat->Nat)(ts:List (Nat×AV)):List (Nat×AV)->Prop
 | []=>True
 |p::r=>fz σ zs (wu ts p.1)=ren ρ p.2/\HJ σ zs ρ ts r
theorem HJ.get{σ:St}{e:List Nat}{ρ:Nat->Nat}{c:List (Nat×AV)}(t:Nat):∀ {a:List (Nat×AV)},HJ σ e ρ c a->wu a t=.dead\/fz σ e (wu c t)=ren ρ (wu a t)
 | [],_=>.inl rfl
 | (u, v) :: r, h => by
   rw[show wu ((u,v)::r) t=if t=u then v else wu r t from rfl];by_cases d:t=u
   ·subst d;rw[al7 rfl];exact .inr h.1
   ·rw[al5 d];exact HJ.get t h.2
section
variable{k:Nat}{σ:St}
theorem GC.mkT{g:Nat}{vs b:List AV}{h c:List (Nat×AV)}{σ2:St}(d a:List Nat)(o:k<=a.length)(l:a.take k=List.range k)(f:a.Nodup)(e:∀j∈a,j<σ.length)(n:iu σ d (rn a σ.length) a σ2)
 (q:iP σ d (rn a σ.length) vs b) (p:HJ σ d (rn a σ.length) h c):GC k ⟨g,vs,h⟩ σ ⟨g,b,c⟩ σ2:=by
 refine⟨d,a,⟨fun i r=>?_,f,e,n.len,n.get⟩,o,fun t=>?_⟩
 ·have:(a.take k)[i]?=some i:=WO
  grind
 ·unfold Fr.get;split
  ·exact q.get t
  ·exact p.get t
end
attribute [go_sem] HJ wu
def ab.tl:Nat->ab->ab
 |0,c=>c
 |n+1,.seq _ b=>b.tl n
 |_+1,c=>c
def ab.hd:ab->ab
 |.seq a _=>a
 |c=>c
def flat1:AV->Bool
 |.bool _|.int _ _|.str _=>true
 |_=>false
def flat2:AV->Bool
 |.agg cs=>cs.all flat1
 |v=>flat1 v
def flatR:AV->Bool
 |.tup us=>us.all flat2
 |v=>flat2 v
theorem Rl.flat1{E E':Env}{c:AV}{v:Value}(a:flat1 c=true)(h:Rl E c v):Rl E' c v:=by
 cases c<;>first|exact h|cases a
theorem RlC.flat{E E':Env}:∀ {cs:List AV} {vs:List Value},cs.all Go.FH.flat1=true->RlC E cs vs->RlC E' cs vs
 | [],_,_,h=>h
 | c :: cs, _, a, h => by
   obtain⟨u,g,e,f,i,d⟩:=h;rw[akg,amk]at a;exact⟨u,g,e,f,i.flat1 a.1,RlC.flat a.2 d⟩
theorem Rl.flat2{E E':Env}{c:AV}{v:Value}(a:flat2 c=true)(h:Rl E c v):Rl E' c v:=by
 cases c<;>first|exact h|cases a|skip
 obtain⟨d,e,b⟩:=h;exact⟨d,e,b.flat a⟩
theorem RlS.flat{E E':Env}:∀ {cs:List AV} {vs:List Value},cs.all Go.FH.flat2=true->RlS E cs vs->RlS E' cs vs
 | [],_,_,h=>h
 | c :: cs, _, a, h => by
   obtain⟨u,d,e,g,f⟩:=h;rw[akg,amk]at a;exact⟨u,d,e,g.flat2 a.1,RlS.flat a.2 f⟩
theorem Rl.flatR{E E':Env}{c:AV}{v:Value}(a:flatR c=true)(h:Rl E c v):Rl E' c v:=by
 cases c<;>first|exact h|omega|exact Rl.flat2 a h|skip
 obtain⟨d,e,b⟩:=h;exact⟨d,e,b.flat a⟩
theorem qU{p q:Prop}(hq:q) (h:Hid q->p:=by
 (intro hq
  (first|with_reducible (first|refine jV ?_|refine qN ?_|refine na (by simp only[al8,ama]) ?_|refine nf ?_|refine nc ?_|refine qO ?_)|(simp only[go_sem,Nat.reduceAdd,Nat.reduceSub,Nat.reduceMul,Nat.reduceLT,Nat.reduceLeDiff,Nat.reduceEqDiff,reduceIte,Int.reduceToNat,Int.reduceLT,Int.reduceLE,Int.reduceEq,Int.reduceNeg,reduceCtorEq,Int.reduceBEq,Int.reduceBNe])|with_reducible refine And.intro (pE WN) ?_|(with_reducible refine And.intro ?_ ?_;first|omega|decide|(simp;done)|(simp;omega)))
  repeat(first|with_reducible (first|refine jV ?_|refine qN ?_|refine na (by simp only[al8,ama]) ?_|refine nf ?_|refine nc ?_|refine qO ?_)|(simp only[go_sem,Nat.reduceAdd,Nat.reduceSub,Nat.reduceMul,Nat.reduceLT,Nat.reduceLeDiff,Nat.reduceEqDiff,reduceIte,Int.reduceToNat,Int.reduceLT,Int.reduceLE,Int.reduceEq,Int.reduceNeg,reduceCtorEq,Int.reduceBEq,Int.reduceBNe])|with_reducible refine And.intro (pE WN) ?_|(with_reducible refine And.intro ?_ ?_;first|omega|decide|(simp;done)|(simp;omega)))
  exact hq.out)):p:=h ⟨hq⟩
section
variable{P:Program}{σ:St}
theorem ay.lend{f:FuncId}{args:List AV}{r:AV}(F:flatR r=true)(h:PC P f (fzL σ (List.range σ.length) args) r):ay P f args σ r σ:=by
 refine⟨h.call.1,amb _,fun X loc w y g n=>?_⟩;obtain⟨c,N,H,O,J⟩:=(pv σ (List.range σ.length)).rel g;have E:=h.pa
 have s:RlS (bh X c [] w) (fzL σ (List.range σ.length) args) y:=by
  have G:∀ {xs:List AV} {p:List Value},PuL (fzL σ (List.range σ.length) xs)->RlS (bh X loc σ w) xs p->RlS (bh X c [] w) (fzL σ (List.range σ.length) xs) p:=by
   intro xs;induction xs with
   |nil=>intro p _ n;exact n
   | cons a xs I =>
     intro p x n;obtain⟨u,q,e,k,t⟩:=n;exact⟨u,q,e,J a u k _ (x.1.ren _).symm,I x.2 t⟩
  grind
 refine(h.call.2.2 X c w y H s).mono ?_;rintro e w' ⟨v,B,rfl,d,_⟩;have j:∀b,¬bi [] c b:=fun b K=>by obtain⟨id,o,L,k,_⟩:=K;grind
 have i:Ev (bi σ loc) w w':=⟨d.ev.size,fun b l Q=>d.ev.blk b l (j b),d.ev.os,d.ev.tape,d.ev.output⟩
 exact⟨v,loc,rfl,⟨fun _ _ h=>h,g.change (fun _ _ h=>h) i (fun b l=>.inl l) g.beyond (fun id o k t=>.inl ⟨k,fun L M C=>d.ev.blk _ (bi.lt g ⟨id,o,L,k,t,M,C,rfl⟩) (j _)⟩) g.apart,
  d.val.flatR F,i,fun b l=>.inl l⟩,fun _ _=>rfl⟩
end
end Go.FH
namespace Go.FH
def om(d s:Nat):cI:=⟨some d,.mv (.t s),none⟩
def oo(d:Nat)(op:AOp):cI:=⟨some d,op,none⟩
def on(op:AOp):cI:=⟨none,op,none⟩
def omg(d s t:Nat)(b:Bool):cI:=⟨some d,.mv (.t s),some (t,b)⟩
def og(d:Nat)(op:AOp)(t:Nat)(b:Bool):cI:=⟨some d,op,some (t,b)⟩
def ong(op:AOp)(t:Nat)(b:Bool):cI:=⟨none,op,some (t,b)⟩
def ci(n:Int):Opd:=.c (.int .i64 n)
def cu(n:Int):Opd:=.c (.int .u64 n)
def cb(b:Bool):Opd:=.c (.bool b)
def cf(n:Nat):Opd:=.c (.fn (.func n) [])
def fA(d o x:Nat):cI:=⟨some d,.fldA o (.t x),none⟩
def lA(d n x:Nat):cI:=⟨some d,.ld true n (.t x),none⟩
def lF(d n x:Nat):cI:=⟨some d,.ld false n (.t x),none⟩
def bI(d:Nat)(o:BinOp)(x y:Nat):cI:=⟨some d,.bin o (.t x) (.t y),none⟩
def bC(d:Nat)(o:BinOp)(x:Nat)(c:Opd):cI:=⟨some d,.bin o (.t x) c,none⟩
def sO(n x y:Nat):cI:=⟨none,.sto n (.t x) (.t y),none⟩
def eX(d i x:Nat):cI:=⟨some d,.ext i (.t x),none⟩
def lN(d x:Nat):cI:=⟨some d,.len false (.t x),none⟩
def iX(d e x y:Nat):cI:=⟨some d,.idxS e (.t x) (.t y),none⟩
def kA(d f x:Nat):cI:=⟨some d,.call (cf f) [.t x],none⟩
def kB(d f x y:Nat):cI:=⟨some d,.call (cf f) [.t x,.t y],none⟩
def kC(d f x y z:Nat):cI:=⟨some d,.call (cf f) [.t x,.t y,.t z],none⟩
def sR(l:List cI)(x:ab):ab:=.seq (.reg l) x
def cN(c:Nat)(x y:ab):ab:=.cond (.t c) x y
def wA(d o x t:Nat):cI:=⟨some d,.fldA o (.t x),some (t,false)⟩
def wB(d o x t:Nat):cI:=⟨some d,.fldA o (.t x),some (t,true)⟩
def wC(d n x t:Nat):cI:=⟨some d,.ld false n (.t x),some (t,false)⟩
def wD(d n x t:Nat):cI:=⟨some d,.ld false n (.t x),some (t,true)⟩
def wE(d n x t:Nat):cI:=⟨some d,.ld true n (.t x),some (t,false)⟩
def wF(d n x t:Nat):cI:=⟨some d,.ld true n (.t x),some (t,true)⟩
def wG(d s t:Nat):cI:=⟨some d,.mv (.t s),some (t,false)⟩
def wH(d s t:Nat):cI:=⟨some d,.mv (.t s),some (t,true)⟩
def wI(d:Nat)(o:BinOp)(x y t:Nat):cI:=⟨some d,.bin o (.t x) (.t y),some (t,false)⟩
def wJ(d:Nat)(o:BinOp)(x y t:Nat):cI:=⟨some d,.bin o (.t x) (.t y),some (t,true)⟩
def wK(d:Nat)(o:BinOp)(x:Nat)(c:Opd)(t:Nat):cI:=⟨some d,.bin o (.t x) c,some (t,false)⟩
def wL(d:Nat)(o:BinOp)(x:Nat)(c:Opd)(t:Nat):cI:=⟨some d,.bin o (.t x) c,some (t,true)⟩
def wM(d a b:Nat):cI:=⟨some d,.pick (.t a) (cb true) (.t b),none⟩
def wN(d a b:Nat):cI:=⟨some d,.pick (.t a) (.t b) (cb false),none⟩
def wO(d x:Nat):cI:=⟨some d,.un .not (.t x),none⟩
def wP(d x t:Nat):cI:=⟨some d,.un .not (.t x),some (t,false)⟩
def wQ(d x t:Nat):cI:=⟨some d,.un .not (.t x),some (t,true)⟩
def wR(d:Nat)(n:Int):cI:=⟨some d,.mv (ci n),none⟩
def wS(d:Nat)(b:Bool):cI:=⟨some d,.mv (cb b),none⟩
def wT(d n x i t:Nat):cI:=⟨some d,.idxS n (.t x) (.t i),some (t,false)⟩
def wU(d n x i t:Nat):cI:=⟨some d,.idxS n (.t x) (.t i),some (t,true)⟩
def wV(d f x t:Nat):cI:=⟨some d,.call (cf f) [.t x],some (t,false)⟩
def wW(d f x t:Nat):cI:=⟨some d,.call (cf f) [.t x],some (t,true)⟩
def wX(d f x y t:Nat):cI:=⟨some d,.call (cf f) [.t x,.t y],some (t,false)⟩
def wY(d f x y t:Nat):cI:=⟨some d,.call (cf f) [.t x,.t y],some (t,true)⟩
def wZ(d n x:Nat):cI:=⟨some d,.box n (.t x),none⟩
section
def zlO{r:List AV}(l:List AV)(h:r=l:=by(conv=>rhs;reduce)):{x // x=l}:=⟨r,h⟩
def zO1:=zlO (dj ahf)
def zO2:=zlO (aV rD)
def zO3:=zlO (aE kU)
def zO4:=zlO (bB gr)
def zO5:=zlO (aO cw)
def zO6:=zlO (d7 KY)
def zO7:=zlO (cy Do)
def zO8:=zlO (bW ui)
def zO9:=zlO (dB R4)
def ahr:=zlO (aP gT)
def ahs:=zlO (du adD)
def aht:=zlO (ar yp)
def ahu:=zlO (cA lZ)
def ahv:=zlO (al dL)
def ahw:=zlO (cpC cp0)
def ahx:=zlO (en adU)
def ahy:=zlO (rtc rt0)
def ahz:=zlO (wdc wd0)
def ahA:=zlO (AZ fS)
theorem nfT{p:Prop} (h:p:=by
 have z1:=zO1.2;have z2:=zO2.2;have z3:=zO3.2;have z4:=zO4.2;have z5:=zO5.2;have z6:=zO6.2;have z7:=zO7.2;have z8:=zO8.2;have z9:=zO9.2;have z10:=ahr.2;have z11:=ahs.2;have z12:=aht.2;have z13:=ahu.2;have z14:=ahv.2;have z15:=ahw.2;have z16:=ahx.2;have z17:=ahy.2;have z18:=ahz.2;have z19:=ahA.2;unfold zO1 zlO at z1;unfold zO2 zlO at z2;unfold zO3 zlO at z3;unfold zO4 zlO at z4;unfold zO5 zlO at z5;unfold zO6 zlO at z6;unfold zO7 zlO at z7;unfold zO8 zlO at z8;unfold zO9 zlO at z9;unfold ahr zlO at z10;unfold ahs zlO at z11;unfold aht zlO at z12;unfold ahu zlO at z13;unfold ahv zlO at z14;unfold ahw zlO at z15;unfold ahx zlO at z16;unfold ahy zlO at z17;unfold ahz zlO at z18;unfold ahA zlO at z19;dsimp only at z1 z2 z3 z4 z5 z6 z7 z8 z9 z10 z11 z12 z13 z14 z15 z16 z17 z18 z19;(conv=>lhs;reduce;(try simp only[↓z1,↓z2,↓z3,↓z4,↓z5,↓z6,↓z7,↓z8,↓z9,↓z10,↓z11,↓z12,↓z13,↓z14,↓z15,↓z16,↓z17,↓z18,↓z19]))):p:=h
def nfO(f:FuncId){P:Program}{n:Nat}{rs:List gN}{c:ab}(_h:aJ P f=some (n,rs,c):=by exact nfT):ab:=c
end
theorem bd{p q:Prop}(hq:q)(h:Hid q->p:=by(intro hq;dsimp only[nfO,Int.reduceOfNat,Int.reduceNegSucc,wA,wB,wC,wD,wE,wF,wG,wH,wI,wJ,wK,wL,wM,wN,wO,wP,wQ,wR,wS,wT,wU,wV,wW,wX,wY,wZ,om,oo,on,omg,og,ong,ci,cu,cb,cf,fA,lA,lF,bI,bC,sO,eX,lN,iX,kA,kB,kC,sR,cN];exact hq.out)):p:=h ⟨hq⟩
theorem inT{i n:Nat}(h:i<n):decide ((i:Int)<((n:Nat):Int))=true:=Wx WL
theorem inF(n:Nat):decide (((n:Nat):Int)<((n:Nat):Int))=false:=decide_eq_false WL
theorem dp{p q:Prop}(hq:q)(h:Hid q->p:=by(intro hq;(try simp only[dE,dr,amx,amy]);exact hq.out)):p:=h ⟨hq⟩
theorem puA{p:Prop}(h:p:=by simp[PuL,Pu,fy,bE,iV,dI,ju,gV,Ar,gA,oS,oT,gB,rf,mg,uI,ap.pul,aI.pul,bp.pul,aW.pul,fe.pul,fc.pul,cU.pul,VOp.pul,nZ,nX,j9,nY,fm,nW,j8,qd,jF,mb]):p:=h
theorem ai{fr:Fr}{σ:St}{rs:List gN}{r:AV}{l:List AV}(hl:dH fr σ rs=some l:=by first|rfl|exact evd)(hv:fz σ (List.range σ.length) (gk l)=r:=by exact evd):
 ∃l,dH fr σ rs=some l/\(fz σ (List.range σ.length) (gk l)=r\/∃r0,fz σ (List.range σ.length) (gk l)=r0/\Pu r0/\Wk r0 r):=⟨l,hl,.inl hv⟩
section
variable{P:Program}{nt k:Nat}{fr:Fr}{σ:St}{c:Opd}{x y:ab}{Q:Ex->Fr->St->Prop}{q:Prop}
theorem agF(hq:q)(hb:c.ev fr=.bool true:=by exact evd)(h:Hid q->Tri P nt k x Q fr σ:=by(intro hq;(try refine bY ?_);exact hq.out)):Tri P nt k (.cond c x y) Q fr σ:=ax (h ⟨hq⟩) hb
theorem agE(hq:q)(hb:c.ev fr=.bool false:=by exact evd)(h:Hid q->Tri P nt k y Q fr σ:=by(intro hq;(try refine bY ?_);exact hq.out)):Tri P nt k (.cond c x y) Q fr σ:=aB (h ⟨hq⟩) hb
theorem ahG{f:FuncId}{args caps:List AV}{r:AV}{K:AV->St->Prop}(h:PC P f (args++caps) r)(hq:q)(hk:Hid q->K r σ:=by(intro hq;(try refine bY ?_);exact hq.out)):jl P (.fn (.func f) caps) args σ K:=am h (hk ⟨hq⟩)
theorem ais{nv:Nat}{vs vs2:List AV}{ts:List (Nat×AV)}{σ2:St}(zs js:List Nat)(hk:k<=js.length:=by simp)(hfix:js.take k=List.range k:=by rfl)(hnd:js.Nodup:=by simp)(hlt:∀j∈js,j<σ.length:=by simp)(ho:iu σ zs (rn js σ.length) js σ2:=by exact evd)
 (hs:iP σ zs (rn js σ.length) vs vs2:=by exact evd):GC k ⟨nv,vs,ts⟩ σ ⟨nv,vs2,[]⟩ σ2:=GC.mk' zs js hk hfix hnd hlt ho hs
theorem ahY{rs:List gN}{r:AV}{σ':St}{l:List AV}{e:Ex}(zs js:List Nat)(he:∀i,e≠.exit i:=by simp)(hl:dH fr σ rs=some l:=by first|rfl|exact evd)(hk:k<=js.length:=by simp)(hfix:js.take k=List.range k:=by rfl)(hnd:js.Nodup:=by simp)(hlt:∀j∈js,j<σ.length:=by simp)(ho:iu σ zs (rn js σ.length) js σ':=by exact evd)
 (hr:fz σ zs (gk l)=ren (rn js σ.length) r:=by exact evd):Qq rs k σ' r e fr σ:=bA zs js e he hl hk hfix hnd hlt ho hr
end
open Go Go.RowKit
def bg{α:Type}(f:Nat->α->α)(a:α):Nat->α
 |0=>a
 |n+1=>f n (bg f a n)
theorem ac3{α:Type}(f:Nat->α->α)(a:α):bg f a 0=a:=rfl
theorem ma(k:IntKind):aH k []=[]:=rfl
attribute [go_sem] ac3 ma
theorem cX{α:Type}(f:Nat->α->α)(a:α)(n:Nat):bg f a (n+1)=f n (bg f a n):=rfl
theorem Yy{α:Type}{f:Nat->α->α}{a:α}(I:Nat->α->Prop)(h0:I 0 a)(n:Nat)(hs:∀i x,i<n->I i x->I (i+1) (f i x)):∀i,i<=n->I i (bg f a i)
 |0,_=>h0
 |i+1,hi=>hs i _ WL (Yy I h0 n hs i WL)
theorem iC{α:Type}{f g:Nat->α->α}{a:α}:∀ {n:Nat},(∀i x,i<n->f i x=g i x)->bg f a n=bg g a n
 |0,_=>rfl
 |n+1,h=>by rw[cX,cX,iC fun i x hi=>h i x WL,h n _ WL]
theorem ng{β:Type}{f:Nat->List β->List β}{a:List β}(h:∀i l,(f i l).length<=l.length+1):∀n,(bg f a n).length<=a.length+n
 |0=>amb _
 |n+1=>by rw[cX];have:=h n (bg f a n);have:=ng h (a:=a) n;omega
def iK(p:Nat->Bool):Nat->Nat->Option Nat
 |0,_=>none
 |f+1,i=>if p i=true then some i else iK p f (i+1)
def dW(p:Nat->Bool)(n:Nat):Option Nat:=iK p n 0
theorem nB{p:Nat->Bool}{n i:Nat}(hi:i<n)(h:p i=true):iK p (n-i) i=some i:=by
 obtain⟨f,hf⟩:∃f,n-i=f+1:=⟨n-i-1,WL⟩
 rw[hf];show (if p i=true then _ else _)=_;rw[al7 h]
theorem nz{p:Nat->Bool}{n i:Nat}(hi:i<n)(h:p i=false):iK p (n-i) i=iK p (n-(i+1)) (i+1):=by
 obtain⟨f,hf⟩:∃f,n-i=f+1:=⟨n-i-1,WL⟩
 rw[hf,show n-(i+1)=f by omega];show (if p i=true then _ else _)=_;rw[al5 (by simp[h])]
theorem nu(p:Nat->Bool)(n:Nat):iK p (n-n) n=none:=by rw[akQ];rfl
theorem ME{p:Nat->Bool}:∀ {f i j:Nat},iK p f i=some j->i<=j/\j<i+f/\p j=true/\∀k,i<=k->k<j->p k=false
 |0,_,_,h=>by cases h
 | f + 1, i, j, h => by
   unfold iK at h;by_cases hp:p i=true
   ·rw[al7 hp]at h;cases h;exact⟨amb _,WL,hp,fun k h1 h2=>WL⟩
   ·rw[al5 hp]at h;obtain⟨h1,h2,h3,h4⟩:=ME h;refine⟨WL,WL,h3,fun k k1 k2=>?_⟩;by_cases hk:k=i
    ·subst hk;simpa using hp
    ·exact h4 k WL k2
theorem MD{p:Nat->Bool}:∀ {f i:Nat},iK p f i=none->∀k,i<=k->k<i+f->p k=false
 |0,_,_,k,h1,h2=>by omega
 | f + 1, i, h, k, h1, h2 => by
   unfold iK at h;by_cases hp:p i=true
   ·rw[al7 hp]at h;cases h
   ·rw[al5 hp]at h;by_cases hk:k=i
    ·subst hk;simpa using hp
    ·exact MD h k WL WL
theorem fZ{p:Nat->Bool}{n j:Nat}(h:dW p n=some j):j<n/\p j=true/\∀k,k<j->p k=false:=by
 obtain⟨h1,h2,h3,h4⟩:=ME h;exact⟨WL,h3,fun k hk=>h4 k (amc _) hk⟩
theorem iL{p:Nat->Bool}{n:Nat}(h:dW p n=none):∀k,k<n->p k=false:=fun k hk=>MD h k (amc _) WL
def yB(p:Nat->Bool):Nat->Option Nat
 |0=>none
 |n+1=>if p n=true then some n else yB p n
theorem M0(p:Nat->Bool):yB p 0=none:=rfl
theorem MZ{p:Nat->Bool}{n:Nat}(h:p n=true):yB p (n+1)=some n:=by unfold yB;rw[al7 h]
theorem MU{p:Nat->Bool}{n:Nat}(h:p n=false):yB p (n+1)=yB p n:=by rw[yB,al5 (by simp[h])]
theorem rr{p:Nat->Bool}:∀ {n j:Nat},yB p n=some j->j<n/\p j=true/\∀k,j<k->k<n->p k=false
 |0,_,h=>by cases h
 | n + 1, j, h => by
   unfold yB at h;by_cases hp:p n=true
   ·rw[al7 hp]at h;cases h;exact⟨WL,hp,fun k h1 h2=>WL⟩
   ·rw[al5 hp]at h;obtain⟨h1,h2,h3⟩:=rr h;refine⟨WL,h2,fun k k1 k2=>?_⟩;by_cases hk:k=n
    ·subst hk;simpa using hp
    ·exact h3 k k1 WL
def Cj(o:Option Nat):Int:=match o with
 |some i=>(i:Int)
 |none=>-1
theorem Ck(i:Nat):Cj (some i)=(i:Int):=rfl
theorem jP:Cj none=-1:=rfl
attribute [go_sem] Ck jP
theorem ah{p q A0:Prop}(a0:A0)(hq:q)(h:A0->Hid q->p:=by(intro a0 hq;(repeat(first|refine bY ?_|simp only[go_sem,a0]));exact hq.out)):p:=h a0 ⟨hq⟩
theorem aZ{p q A0 A1:Prop}(a0:A0)(a1:A1)(hq:q)(h:A0->A1->Hid q->p:=by(intro a0 a1 hq;(repeat(first|refine bY ?_|simp only[go_sem,a0,a1]));exact hq.out)):p:=h a0 a1 ⟨hq⟩
theorem dC{p q A0 A1 A2:Prop}(a0:A0)(a1:A1)(a2:A2)(hq:q)(h:A0->A1->A2->Hid q->p:=by(intro a0 a1 a2 hq;(repeat(first|refine bY ?_|simp only[go_sem,a0,a1,a2]));exact hq.out)):p:=h a0 a1 a2 ⟨hq⟩
theorem pz{p q A0 A1 A2 A3:Prop}(a0:A0)(a1:A1)(a2:A2)(a3:A3)(hq:q)(h:A0->A1->A2->A3->Hid q->p:=by(intro a0 a1 a2 a3 hq;(repeat(first|refine bY ?_|simp only[go_sem,a0,a1,a2,a3]));exact hq.out)):p:=h a0 a1 a2 a3 ⟨hq⟩
theorem eU{p q A0 A1 A2 A3 A4:Prop}(a0:A0)(a1:A1)(a2:A2)(a3:A3)(a4:A4)(hq:q)(h:A0->A1->A2->A3->A4->Hid q->p:=by(intro a0 a1 a2 a3 a4 hq;(repeat(first|refine bY ?_|simp only[go_sem,a0,a1,a2,a3,a4]));exact hq.out)):p:=h a0 a1 a2 a3 a4 ⟨hq⟩
theorem fG{p q A0 A1 A2 A3 A4 A5:Prop}(a0:A0)(a1:A1)(a2:A2)(a3:A3)(a4:A4)(a5:A5)(hq:q)(h:A0->A1->A2->A3->A4->A5->Hid q->p:=by(intro a0 a1 a2 a3 a4 a5 hq;(repeat(first|refine bY ?_|simp only[go_sem,a0,a1,a2,a3,a4,a5]));exact hq.out)):p:=h a0 a1 a2 a3 a4 a5 ⟨hq⟩
theorem jj{p q A0 A1 A2 A3 A4 A5 A6:Prop}(a0:A0)(a1:A1)(a2:A2)(a3:A3)(a4:A4)(a5:A5)(a6:A6)(hq:q)(h:A0->A1->A2->A3->A4->A5->A6->Hid q->p:=by(intro a0 a1 a2 a3 a4 a5 a6 hq;(repeat(first|refine bY ?_|simp only[go_sem,a0,a1,a2,a3,a4,a5,a6]));exact hq.out)):p:=h a0 a1 a2 a3 a4 a5 a6 ⟨hq⟩
theorem mP{p q A0 A1 A2 A3 A4 A5 A6 A7:Prop}(a0:A0)(a1:A1)(a2:A2)(a3:A3)(a4:A4)(a5:A5)(a6:A6)(a7:A7)(hq:q)(h:A0->A1->A2->A3->A4->A5->A6->A7->Hid q->p:=by(intro a0 a1 a2 a3 a4 a5 a6 a7 hq;(repeat(first|refine bY ?_|simp only[go_sem,a0,a1,a2,a3,a4,a5,a6,a7]));exact hq.out)):p:=h a0 a1 a2 a3 a4 a5 a6 a7 ⟨hq⟩
theorem Vp{p q A0 A1 A2 A3 A4 A5 A6 A7 A8:Prop}(a0:A0)(a1:A1)(a2:A2)(a3:A3)(a4:A4)(a5:A5)(a6:A6)(a7:A7)(a8:A8)(hq:q)(h:A0->A1->A2->A3->A4->A5->A6->A7->A8->Hid q->p:=by(intro a0 a1 a2 a3 a4 a5 a6 a7 a8 hq;(repeat(first|refine bY ?_|simp only[go_sem,a0,a1,a2,a3,a4,a5,a6,a7,a8]));exact hq.out)):p:=h a0 a1 a2 a3 a4 a5 a6 a7 a8 ⟨hq⟩
theorem TS{p q A0 A1 A2 A3 A4 A5 A6 A7 A8 A9:Prop}(a0:A0)(a1:A1)(a2:A2)(a3:A3)(a4:A4)(a5:A5)(a6:A6)(a7:A7)(a8:A8)(a9:A9)(hq:q)(h:A0->A1->A2->A3->A4->A5->A6->A7->A8->A9->Hid q->p:=by(intro a0 a1 a2 a3 a4 a5 a6 a7 a8 a9 hq;(repeat(first|refine bY ?_|simp only[go_sem,a0,a1,a2,a3,a4,a5,a6,a7,a8,a9]));exact hq.out)):p:=h a0 a1 a2 a3 a4 a5 a6 a7 a8 a9 ⟨hq⟩
theorem gon{p q:Prop}(hq:q)(h:Hid q->p:=by(intro hq;(try refine bY ?_);exact hq.out)):p:=h ⟨hq⟩
theorem au{p:Prop}[Decidable p](h:p):decide p=true:=Wx h
theorem aA{p:Prop}[Decidable p](h:¬p):decide p=false:=decide_eq_false h
theorem uZ{p A0:Prop}(a0:A0)(h:A0->p:=by(intro a0;(try simp only[go_sem,Nat.reduceAdd,Nat.reduceSub,Nat.reduceMul,Nat.reduceLT,Nat.reduceLeDiff,Nat.reduceEqDiff,reduceIte,Int.reduceToNat,Int.reduceLT,Int.reduceLE,Int.reduceEq,Int.reduceNeg,reduceCtorEq,Int.reduceBEq,Int.reduceBNe,a0]);all_goals rfl)):p:=h a0
theorem U5{p A0 A1:Prop}(a0:A0)(a1:A1)(h:A0->A1->p:=by(intro a0 a1;(try simp only[go_sem,Nat.reduceAdd,Nat.reduceSub,Nat.reduceMul,Nat.reduceLT,Nat.reduceLeDiff,Nat.reduceEqDiff,reduceIte,Int.reduceToNat,Int.reduceLT,Int.reduceLE,Int.reduceEq,Int.reduceNeg,reduceCtorEq,Int.reduceBEq,Int.reduceBNe,a0,a1]);all_goals rfl)):p:=h a0 a1
theorem oce{P:Program}{f:FuncId}{xs caps args:List AV}{σ σs σs':St}{r:AV}{q:Prop}{K:AV->St->Prop}(js:List Nat)(h:ay P f args σs r σs')(hq:q)(hx:xs++caps=bZ (rn js σ.length) args:=by exact evd)(hp:aq σ js σs:=by exact aq.mk' WM evd)(hk:Hid q->K (ren (rn js σ.length) r) (aT σ js σs'):=by(intro hq;refine evg ?_;exact hq.out)):jl P (.fn (.func f) caps) xs σ K:=aG js h hx hp (hk ⟨hq⟩)
theorem dce{P:Program}{f:FuncId}{xs caps args:List AV}{σ σs σs':St}{r:AV}{q:Prop}{K:AV->List Nat->List Nat->St->Prop}{n:Nat}(js:List Nat)(h:ay P f args σs r σs')(hq:q)(hl:σs'.length=js.length:=by simp)(hx:xs++caps=bZ (rn js σ.length) args:=by exact evd)(hp:aq σ js σs:=by exact aq.mk' WM evd)(hk:Hid q->K (ren (rn js σ.length) r) js js (aT σ js σs'):=by(intro hq;refine evg ?_;exact hq.out)):∃v ft ch σ',vo P n (.fn (.func f) caps) xs σ v ft ch σ'/\K v ft ch σ':=dq js h hl hx hp (hk ⟨hq⟩)
theorem dre{P:Program}{f:FuncId}{xs caps args:List AV}{σ σs:St}{r:AV}{q:Prop}{K:AV->List Nat->List Nat->St->Prop}{n:Nat}(js:List Nat)(h:ay P f args σs r σs)(hq:q)(hx:xs++caps=bZ (rn js σ.length) args:=by exact evd)(hp:aq σ js σs:=by exact aq.mk' WM evd)(hk:Hid q->K (ren (rn js σ.length) r) js [] σ:=by(intro hq;refine evg ?_;exact hq.out)):∃v ft ch σ',vo P n (.fn (.func f) caps) xs σ v ft ch σ'/\K v ft ch σ':=Ox js h hx hp (hk ⟨hq⟩)
theorem dse{P:Program}{f:FuncId}{xs caps args:List AV}{σ σs σs':St}{r:AV}{q:Prop}{K:AV->List Nat->List Nat->St->Prop}{n:Nat}(js:List Nat)(h:ay P f args σs r σs')(hq:q)(hl:σs'.length=js.length+1:=by simp)(hx:xs++caps=bZ (rn (js++[n]) σ.length) args:=by exact evd)(hp:bj σ js (js++[n]) σs:=by exact bj.mk' WM WM evd)(hk:Hid q->K (ren (rn (js++[n]) σ.length) r) (js++[n]) (js++[n]) (aT σ (js++[n]) σs'):=by(intro hq;refine evg ?_;exact hq.out)):∃v ft ch σ',vo P n (.fn (.func f) caps) xs σ v ft ch σ'/\K v ft ch σ':=aQ js h hl hx hp (hk ⟨hq⟩)
theorem ocg{P:Program}{f:FuncId}{xs caps args:List AV}{σ σs σs':St}{r:AV}{q:Prop}{K:AV->St->Prop}(js:List Nat)(h:ay P f args σs r σs')(hq:q)(hx:xs++caps=bZ (rn js σ.length) args:=by exact evd)(hp:aq σ js σs:=by exact aq.mk' WM evd)(hk:Hid q->K (ren (rn js σ.length) r) (aT σ js σs'):=by(intro hq;refine evg ?_;(try refine bY ?_);exact hq.out)):jl P (.fn (.func f) caps) xs σ K:=aG js h hx hp (hk ⟨hq⟩)
theorem drg{P:Program}{f:FuncId}{xs caps args:List AV}{σ σs:St}{r:AV}{q:Prop}{K:AV->List Nat->List Nat->St->Prop}{n:Nat}(js:List Nat)(h:ay P f args σs r σs)(hq:q)(hx:xs++caps=bZ (rn js σ.length) args:=by exact evd)(hp:aq σ js σs:=by exact aq.mk' WM evd)(hk:Hid q->K (ren (rn js σ.length) r) js [] σ:=by(intro hq;refine evg ?_;(try refine bY ?_);exact hq.out)):∃v ft ch σ',vo P n (.fn (.func f) caps) xs σ v ft ch σ'/\K v ft ch σ':=Ox js h hx hp (hk ⟨hq⟩)
theorem dsg{P:Program}{f:FuncId}{xs caps args:List AV}{σ σs σs':St}{r:AV}{q:Prop}{K:AV->List Nat->List Nat->St->Prop}{n:Nat}(js:List Nat)(h:ay P f args σs r σs')(hq:q)(hl:σs'.length=js.length+1:=by simp)(hx:xs++caps=bZ (rn (js++[n]) σ.length) args:=by exact evd)(hp:bj σ js (js++[n]) σs:=by exact bj.mk' WM WM evd)(hk:Hid q->K (ren (rn (js++[n]) σ.length) r) (js++[n]) (js++[n]) (aT σ (js++[n]) σs'):=by(intro hq;refine evg ?_;(try refine bY ?_);exact hq.out)):∃v ft ch σ',vo P n (.fn (.func f) caps) xs σ v ft ch σ'/\K v ft ch σ':=aQ js h hl hx hp (hk ⟨hq⟩)
theorem afn{P:Program}{nt:Nat}{f:FuncId}{rs:List gN}{ac:ab}{args:List AV}{r:AV}{σ σ':St}(nv:Nat)(hf:aJ P f=some (nt,rs,ac))(h:Tri P nt σ.length ac (Qq rs σ.length σ' r) ⟨nv,args++List.replicate (nv-args.length) .dead,[]⟩ σ)(ha:args.length<=nt:=by simp)(hl:σ.length<=σ'.length:=by simp):ay P f args σ r σ':=ay.fact nv hf ha h hl
theorem pfn{P:Program}{nt:Nat}{f:FuncId}{rs:List gN}{ac:ab}{args:List AV}{r:AV}(nv:Nat)(hf:aJ P f=some (nt,rs,ac))(h:Tri P nt 0 ac (PQ rs r) ⟨nv,args++List.replicate (nv-args.length) .dead,[]⟩ [])(ha:args.length<=nt:=by simp)(hp:PuL args:=by exact puA)(hr:Pu r:=by exact puA):PC P f args r:=PC.fact nv hf ha hp hr h
theorem dQ{p q:Prop}(hq:q)(h:Hid q->p:=by(intro hq;(try refine bY ?_);refine aB ?_;exact hq.out)):p:=h ⟨hq⟩
theorem bk{p q:Prop}(hq:q)(h:Hid q->p:=by(intro hq;(try refine bY ?_);refine aB ?_;(try refine bY ?_);exact hq.out)):p:=h ⟨hq⟩
theorem Ff{p q:Prop}(hq:q)(h:Hid q->p:=by(intro hq;(try refine bY ?_);refine ax ?_;exact hq.out)):p:=h ⟨hq⟩
theorem aX{p q:Prop}(hq:q)(h:Hid q->p:=by(intro hq;(try refine bY ?_);refine ax ?_;(try refine bY ?_);exact hq.out)):p:=h ⟨hq⟩
theorem bJ{p q A0:Prop}(a0:A0)(hq:q)(h:A0->Hid q->p:=by(intro a0 hq;(repeat(first|refine bY ?_|simp only[go_sem,a0]));refine aB ?_;exact hq.out)):p:=h a0 ⟨hq⟩
theorem aF{p q A0:Prop}(a0:A0)(hq:q)(h:A0->Hid q->p:=by(intro a0 hq;(repeat(first|refine bY ?_|simp only[go_sem,a0]));refine aB ?_;(try refine bY ?_);exact hq.out)):p:=h a0 ⟨hq⟩
theorem bw{p q A0:Prop}(a0:A0)(hq:q)(h:A0->Hid q->p:=by(intro a0 hq;(repeat(first|refine bY ?_|simp only[go_sem,a0]));refine ax ?_;exact hq.out)):p:=h a0 ⟨hq⟩
theorem aM{p q A0:Prop}(a0:A0)(hq:q)(h:A0->Hid q->p:=by(intro a0 hq;(repeat(first|refine bY ?_|simp only[go_sem,a0]));refine ax ?_;(try refine bY ?_);exact hq.out)):p:=h a0 ⟨hq⟩
theorem fp{p q A0 A1:Prop}(a0:A0)(a1:A1)(hq:q)(h:A0->A1->Hid q->p:=by(intro a0 a1 hq;(repeat(first|refine bY ?_|simp only[go_sem,a0,a1]));refine aB ?_;exact hq.out)):p:=h a0 a1 ⟨hq⟩
theorem fU{p q A0 A1:Prop}(a0:A0)(a1:A1)(hq:q)(h:A0->A1->Hid q->p:=by(intro a0 a1 hq;(repeat(first|refine bY ?_|simp only[go_sem,a0,a1]));refine aB ?_;(try refine bY ?_);exact hq.out)):p:=h a0 a1 ⟨hq⟩
theorem mQ{p q A0 A1:Prop}(a0:A0)(a1:A1)(hq:q)(h:A0->A1->Hid q->p:=by(intro a0 a1 hq;(repeat(first|refine bY ?_|simp only[go_sem,a0,a1]));refine ax ?_;exact hq.out)):p:=h a0 a1 ⟨hq⟩
theorem cH{p q A0 A1:Prop}(a0:A0)(a1:A1)(hq:q)(h:A0->A1->Hid q->p:=by(intro a0 a1 hq;(repeat(first|refine bY ?_|simp only[go_sem,a0,a1]));refine ax ?_;(try refine bY ?_);exact hq.out)):p:=h a0 a1 ⟨hq⟩
theorem zh{p q A0 A1 A2:Prop}(a0:A0)(a1:A1)(a2:A2)(hq:q)(h:A0->A1->A2->Hid q->p:=by(intro a0 a1 a2 hq;(repeat(first|refine bY ?_|simp only[go_sem,a0,a1,a2]));refine aB ?_;exact hq.out)):p:=h a0 a1 a2 ⟨hq⟩
theorem wg{p q A0 A1 A2:Prop}(a0:A0)(a1:A1)(a2:A2)(hq:q)(h:A0->A1->A2->Hid q->p:=by(intro a0 a1 a2 hq;(repeat(first|refine bY ?_|simp only[go_sem,a0,a1,a2]));refine aB ?_;(try refine bY ?_);exact hq.out)):p:=h a0 a1 a2 ⟨hq⟩
theorem HV{p q A0 A1 A2:Prop}(a0:A0)(a1:A1)(a2:A2)(hq:q)(h:A0->A1->A2->Hid q->p:=by(intro a0 a1 a2 hq;(repeat(first|refine bY ?_|simp only[go_sem,a0,a1,a2]));refine ax ?_;exact hq.out)):p:=h a0 a1 a2 ⟨hq⟩
theorem fI{p q A0 A1 A2:Prop}(a0:A0)(a1:A1)(a2:A2)(hq:q)(h:A0->A1->A2->Hid q->p:=by(intro a0 a1 a2 hq;(repeat(first|refine bY ?_|simp only[go_sem,a0,a1,a2]));refine ax ?_;(try refine bY ?_);exact hq.out)):p:=h a0 a1 a2 ⟨hq⟩
theorem OA{p q A0 A1 A2 A3:Prop}(a0:A0)(a1:A1)(a2:A2)(a3:A3)(hq:q)(h:A0->A1->A2->A3->Hid q->p:=by(intro a0 a1 a2 a3 hq;(repeat(first|refine bY ?_|simp only[go_sem,a0,a1,a2,a3]));refine aB ?_;exact hq.out)):p:=h a0 a1 a2 a3 ⟨hq⟩
theorem U6{p q A0 A1 A2 A3:Prop}(a0:A0)(a1:A1)(a2:A2)(a3:A3)(hq:q)(h:A0->A1->A2->A3->Hid q->p:=by(intro a0 a1 a2 a3 hq;(repeat(first|refine bY ?_|simp only[go_sem,a0,a1,a2,a3]));refine ax ?_;exact hq.out)):p:=h a0 a1 a2 a3 ⟨hq⟩
theorem nC{p q A0 A1 A2 A3:Prop}(a0:A0)(a1:A1)(a2:A2)(a3:A3)(hq:q)(h:A0->A1->A2->A3->Hid q->p:=by(intro a0 a1 a2 a3 hq;(repeat(first|refine bY ?_|simp only[go_sem,a0,a1,a2,a3]));refine ax ?_;(try refine bY ?_);exact hq.out)):p:=h a0 a1 a2 a3 ⟨hq⟩
theorem dS{P:Program}{f:FuncId}{args:List AV}{r:AV}{q:Prop}{nt:Nat}{rs:List gN}{ac:ab}{σ σ':St}(nv:Nat)(hq:q)(hf:aJ P f=some (nt,rs,ac):=by exact nfT)(h:Hid q->Tri P nt σ.length ac (Qq rs σ.length σ' r) ⟨nv,args++List.replicate (nv-args.length) .dead,[]⟩ σ:=by(intro hq;(try dsimp only[Int.reduceOfNat,Int.reduceNegSucc,wA,wB,wC,wD,wE,wF,wG,wH,wI,wJ,wK,wL,wM,wN,wO,wP,wQ,wR,wS,wT,wU,wV,wW,wX,wY,wZ,om,oo,on,omg,og,ong,ci,cu,cb,cf,fA,lA,lF,bI,bC,sO,eX,lN,iX,kA,kB,kC,sR,cN]);exact hq.out))(ha:args.length<=nt:=by simp)(hl:σ.length<=σ'.length:=by simp):ay P f args σ r σ':=ay.fact nv hf ha (h ⟨hq⟩) hl
theorem ae{P:Program}{f:FuncId}{args:List AV}{r:AV}{q:Prop}{nt:Nat}{rs:List gN}{ac:ab}(nv:Nat)(hq:q)(hf:aJ P f=some (nt,rs,ac):=by exact nfT)(h:Hid q->Tri P nt 0 ac (PQ rs r) ⟨nv,args++List.replicate (nv-args.length) .dead,[]⟩ []:=by(intro hq;(try dsimp only[Int.reduceOfNat,Int.reduceNegSucc,wA,wB,wC,wD,wE,wF,wG,wH,wI,wJ,wK,wL,wM,wN,wO,wP,wQ,wR,wS,wT,wU,wV,wW,wX,wY,wZ,om,oo,on,omg,og,ong,ci,cu,cb,cf,fA,lA,lF,bI,bC,sO,eX,lN,iX,kA,kB,kC,sR,cN]);exact hq.out))(ha:args.length<=nt:=by simp)(hp:PuL args:=by exact puA)(hr:Pu r:=by exact puA):PC P f args r:=PC.fact nv hf ha hp hr (h ⟨hq⟩)
end Go.FH
namespace Go.FH
open Go Go.RowKit
section
variable{P:Program}
theorem ay.forget{f:FuncId}{args:List AV}{r n:AV}{σ σ' σ2:St}{s j:List Nat}(h:ay P f args σ r σ')(l:oR σ.length σ' s j σ2)(m:fz σ' s r=ren (rn j σ'.length) n):ay P f args σ n σ2:=by
 have i:σ.length<=σ2.length:=by
  rw[l.len];rcases akP j.length σ.length with q|q
  ·have:=l.fix j.length q;grind
  omega
 refine⟨h.1,i,fun X loc w u o t=>(h.2.2 X loc w u o t).mono ?_⟩;rintro e w' ⟨v,g,rfl,k,B⟩;obtain⟨a,x,y,z,A⟩:=l.rel k.rel
 have c:∀id,id<σ.length->a id=g id:=by
  intro id c;rw[x];have:=l.fix id c;simp[rn,this]
 refine⟨v,a,rfl,⟨fun id L C=>?_,y,A _ _ k.val _ m,k.ev,fun b D=>k.old b (z b D)⟩,fun id d=>(c id d).trans (B id d)⟩;rcases akP id σ.length with d|d
 ·grind
 ·rw[o.beyond id d]at C;grind
theorem ay.pc{f:FuncId}{args:List AV}{r r2:AV}{σ':St}(h:ay P f args [] r σ')(pa:PuL args)(pr:Pu r2)(hr2:fz σ' (List.range σ'.length) r=r2:=by exact evd):PC P f args r2:=
 ⟨h.forget (pv σ' (List.range σ'.length)) (by rw[hr2,pr.ren]),pa,pr⟩
end
attribute [go_sem] Option.getD_some Option.getD_none Option.isSome_some Option.isSome_none
structure Bp(t:Bool)(C D:Prop):Prop where
 tt:t=true->C
 ff:t=false->D
theorem Bp.lt(a b:Int):Bp (decide (a<b)) (a<b) (¬a<b):=⟨aks,aky⟩
theorem Bp.le(a b:Int):Bp (decide (a<=b)) (¬b<a) (b<a):=⟨fun h=>alY.2 (aks h),fun h=>Int.not_le.1 (aky h)⟩
theorem Bp.dec(C:Prop)[Decidable C]:Bp (decide C) C (¬C):=⟨aks,aky⟩
theorem Bp.beq(a b:Int):Bp (a==b) (a=b) (¬a=b):=⟨fun h=>by simpa using h,fun h=>by simpa using h⟩
theorem Bp.bne(a b:Int):Bp (a != b) (¬a=b) (a=b):=⟨fun h=>by simpa using h,fun h=>by simpa using h⟩
theorem Bp.not{t:Bool}{C D:Prop}(h:Bp t C D):Bp (!t) D C:=⟨fun k=>h.ff (by simpa using k),fun k=>h.tt (by simpa using k)⟩
theorem Bp.b(t:Bool):Bp t (t=true) (t=false):=⟨id,id⟩
theorem Lj(a b:Int):(a==b)=decide (a=b):=by rw[ajZ];simp
theorem Lk(a b:Int):(a != b)=!decide (a=b):=by rw[ajZ];simp
theorem puC{p:Prop}(h:p:=by(simp[PuL,Pu,fy,bE,iV,dI,ju,gV,Ar,gA,oS,oT,gB,rf,mg,uI,ap.pul,aI.pul,bp.pul,aW.pul,fe.pul,fc.pul,cU.pul,VOp.pul,nZ,nX,j9,nY,fm,nW,j8,qd,jF,mb, *]<;>fail)):p:=h
def Fi(r0 r:AV):Prop:=r0=r\/(Pu r0/\Wk r0 r)
section
variable{P:Program}{nt k:Nat}{fr:Fr}{σ:St}{c:Opd}{x y:ab}{Q:Ex->Fr->St->Prop}{t:Bool}{C D:Prop}
theorem bS(h1:C->Tri P nt k x Q fr σ)(h2:D->Tri P nt k y Q fr σ)
 (hb:c.ev fr=.bool t:=by first|rfl|(simp only[go_sem];rfl))
 (hp:Bp t C D:=by first|exact Bp.lt _ _|exact Bp.le _ _|exact Bp.dec _|exact Bp.beq _ _|exact Bp.bne _ _|exact Bp.not (by first|exact Bp.lt _ _|exact Bp.le _ _|exact Bp.dec _|exact Bp.b _)|exact Bp.b _):
 Tri P nt k (.cond c x y) Q fr σ:=aY hb (fun h=>h1 (hp.tt h)) (fun h=>h2 (hp.ff h))
theorem bT(h:Tri P nt k x Q fr σ)(hb:c.ev fr=.bool true:=by first|rfl|(simp only[go_sem]<;>fail)):Tri P nt k (.cond c x y) Q fr σ:=ax h hb
theorem bF(h:Tri P nt k y Q fr σ)(hb:c.ev fr=.bool false:=by first|rfl|(simp only[go_sem]<;>fail)):Tri P nt k (.cond c x y) Q fr σ:=aB h hb
theorem bN(h:Tri P nt k y Q fr σ)(hb:c.ev fr=.bool false:=by first|rfl|(simp only[go_sem]<;>fail)):Tri P nt k (.cndF c y) Q fr σ:=Ky hb h
theorem gST{yes no:Fr->Prop}{g:Nat}(h1:C->yes (fr.put g (.bool true)))(h2:D->no (fr.put g (.bool false)))(hp:Bp t C D:=by first|exact Bp.lt _ _|exact Bp.le _ _|exact Bp.dec _|exact Bp.beq _ _|exact Bp.bne _ _|exact Bp.not (by first|exact Bp.lt _ _|exact Bp.le _ _|exact Bp.dec _|exact Bp.b _)|exact Bp.b _):gdV (.bool t) true g fr yes no:=⟨fun h=>h1 (hp.tt h),fun h=>h2 (hp.ff h)⟩
theorem gSF{yes no:Fr->Prop}{g:Nat}(h1:C->no (fr.put g (.bool true)))(h2:D->yes (fr.put g (.bool false)))(hp:Bp t C D:=by first|exact Bp.lt _ _|exact Bp.le _ _|exact Bp.dec _|exact Bp.beq _ _|exact Bp.bne _ _|exact Bp.not (by first|exact Bp.lt _ _|exact Bp.le _ _|exact Bp.dec _|exact Bp.b _)|exact Bp.b _):gdV (.bool t) false g fr yes no:=⟨fun h=>h2 (hp.ff h),fun h=>h1 (hp.tt h)⟩
theorem Nx{rs:List gN}{r r0:AV}{l:List AV}(hl:dH fr σ rs=some l:=by first|rfl|exact evd)(hv:fz σ (List.range σ.length) (gk l)=r0:=by exact evd)
 (hr:Fi r0 r:=by first|exact .inl rfl|((try simp only[go_sem,reduceIte,reduceCtorEq,ame,amT,Option.getD_none,WG,alu,<-alY, *]);first|exact .inl rfl|exact .inr ⟨puC,by(repeat'(first|exact Wk.refl _|exact Wk.empty _ _ _|exact Wk.open_ _ _ _|assumption|refine Wk.tup ?_|refine Wk.agg ?_|exact trivial|(intro h;first|exact h|rfl)|constructor))<;>fail⟩)):
 ∃l,dH fr σ rs=some l/\(fz σ (List.range σ.length) (gk l)=r\/∃r0,fz σ (List.range σ.length) (gk l)=r0/\Pu r0/\Wk r0 r):=
 ⟨l,hl,hr.imp (fun h=>hv.trans h) fun h=>⟨r0,hv,h.1,h.2⟩⟩
end
section
variable{nv k:Nat}{vs vs2:List AV}{ts:List (Nat×AV)}{σ σ2:St}
theorem gcJ(js:List Nat)(hk:k<=js.length:=by simp)(hfix:js.take k=List.range k:=by rfl)(hnd:js.Nodup:=by simp)(hlt:∀j∈js,j<σ.length:=by simp)
 (ho:iu σ [] (rn js σ.length) js σ2:=by simp only[go_sem,Nat.reduceAdd,Nat.reduceSub,Nat.reduceMul,Nat.reduceLT,Nat.reduceLeDiff,Nat.reduceEqDiff,reduceIte,reduceCtorEq, *]<;>fail) (hs:iP σ [] (rn js σ.length) vs vs2:=by simp only[go_sem,Nat.reduceAdd,Nat.reduceSub,Nat.reduceMul,Nat.reduceLT,Nat.reduceLeDiff,Nat.reduceEqDiff,reduceIte,reduceCtorEq, *]<;>fail):
 GC k ⟨nv,vs,ts⟩ σ ⟨nv,vs2,[]⟩ σ2:=GC.mk' [] js hk hfix hnd hlt ho hs
def idO:AV->AV->Nat->Option Nat
 |.ptr a _,.ptr b _,i|.hs _ a _ _,.hs _ b _ _,i|.va _ a _ _,.va _ b _ _,i|.vp _ a _ _,.vp _ b _ _,i|.mp a,.mp b,i=>if b=i then some a else none
 |_,_,_=>none
def jO:List AV->List AV->Nat->Nat
 | x :: xs, y :: ys, i => match idO x y i with
   |some a=>a
   |none=>jO xs ys i
 |_,_,i=>i
theorem gcA{js:List Nat}(hj:js=(List.range σ2.length).map (jO vs vs2):=by(conv=>rhs;reduce))(hk:k<=js.length:=by simp)(hfix:js.take k=List.range k:=by rfl)(hnd:js.Nodup:=by simp)(hlt:∀j∈js,j<σ.length:=by simp)
 (ho:iu σ [] (rn js σ.length) js σ2:=by simp only[go_sem,Nat.reduceAdd,Nat.reduceSub,Nat.reduceMul,Nat.reduceLT,Nat.reduceLeDiff,Nat.reduceEqDiff,reduceIte,reduceCtorEq, *]<;>fail) (hs:iP σ [] (rn js σ.length) vs vs2:=by simp only[go_sem,Nat.reduceAdd,Nat.reduceSub,Nat.reduceMul,Nat.reduceLT,Nat.reduceLeDiff,Nat.reduceEqDiff,reduceIte,reduceCtorEq, *]<;>fail):
 GC k ⟨nv,vs,ts⟩ σ ⟨nv,vs2,[]⟩ σ2:=GC.mk' [] js hk hfix hnd hlt ho hs
theorem Nz{ok:Nat->Prop}{G:Nat->Prop}{n i:Nat}(h:i<n)(h1:ok (i+1))(h2:G (i+1)):∃j,ok j/\n-j<n-i/\G j:=⟨i+1,h1,WL,h2⟩
end
theorem Ny{fr:Fr}{σ σ':St}{k:Nat}{rs:List gN}{r:AV}{l:List AV}{e:Ex}(hl:dH fr σ rs=some l:=by first|rfl|exact evd)(he:∀i,e≠.exit i:=by simp)(hk:k<=(List.range σ'.length).length:=by simp)(hfix:(List.range σ'.length).take k=List.range k:=by rfl)
 (hlt:∀j∈List.range σ'.length,j<σ.length:=by simp<;>omega) (ho:iu σ [] (rn (List.range σ'.length) σ.length) (List.range σ'.length) σ':=by simp only[go_sem,Nat.reduceAdd,Nat.reduceSub,Nat.reduceMul,Nat.reduceLT,Nat.reduceLeDiff,Nat.reduceEqDiff,reduceIte,reduceCtorEq,Lj,Lk, *]<;>fail)
 (hr:fz σ [] (gk l)=ren (rn (List.range σ'.length) σ.length) r:=by simp only[go_sem,Nat.reduceAdd,Nat.reduceSub,Nat.reduceMul,Nat.reduceLT,Nat.reduceLeDiff,Nat.reduceEqDiff,reduceIte,reduceCtorEq,Lj,Lk, *]<;>fail):Qq rs k σ' r e fr σ:=bA [] _ e he hl hk hfix List.nodup_range hlt ho hr
theorem Nf{p q:Prop}(h:p)(k:p->q):p/\q:=⟨h,k h⟩
section
variable{P:Program}{nt k:Nat}{fr fr2:Fr}{σ σ2:St}{c:Opd}{x y:ab}{Q:Ex->Fr->St->Prop}{rs:List gN}{r:AV}{e:Ex}
theorem isT(h:Tri P nt k (.cond c x y) Q fr σ):Tri P nt k (.cond c x y) Q fr σ:=h
theorem Nn{z:ab}(h:Tri P nt k (.cndF c z) Q fr σ):Tri P nt k (.cndF c z) Q fr σ:=h
theorem isP(h:PQ rs r e fr σ):PQ rs r e fr σ:=h
theorem isQ{n:Nat}{σ':St}(h:Qq rs n σ' r e fr σ):Qq rs n σ' r e fr σ:=h
theorem isG(h:GC k fr σ fr2 σ2):GC k fr σ fr2 σ2:=h
theorem isC{g:AV}{xs:List AV}{K:AV->St->Prop}(h:jl P g xs σ K):jl P g xs σ K:=h
theorem isD{n:Nat}{g:AV}{xs:List AV}{K:AV->List Nat->List Nat->St->Prop}(h:∃v ft ch σ',vo P n g xs σ v ft ch σ'/\K v ft ch σ'):∃v ft ch σ',vo P n g xs σ v ft ch σ'/\K v ft ch σ':=h
theorem isV{v:AV}{b:Bool}{g:Nat}{yes no:Fr->Prop}(h:gdV v b g fr yes no):gdV v b g fr yes no:=h
end
theorem aw{p:Prop} (h:p:=by
 (repeat' first
  |with_reducible (first|refine tp ?_|refine jV ?_|refine qN ?_|refine nf ?_|refine nc ?_|refine qO ?_|refine vA ?_|refine vz ?_)
  |((with_reducible refine na ?_ ?_);focus (simp only[al8,ama]<;>fail))
  |simp only[go_sem,Nat.reduceAdd,Nat.reduceSub,Nat.reduceMul,Nat.reduceLT,Nat.reduceLeDiff,Nat.reduceEqDiff,reduceIte,Int.reduceToNat,Int.reduceLT,Int.reduceLE,Int.reduceEq,Int.reduceNeg,reduceCtorEq,Int.reduceBEq,Int.reduceBNe,Int.reduceAdd,Int.reduceSub,Lj,Lk, *]
  |with_reducible refine And.intro (pE WN) ?_
  |with_reducible refine And.intro WN ?_
  |(with_reducible refine Nf ?_ (fun h=>?_);first|omega|(simp<;>fail)|(simp;omega))
  |((with_reducible refine isC ?_);refine am (by assumption) ?_)
  |((with_reducible refine isC ?_);refine J6 (by assumption) (by simp only[go_sem,al8,ama,ake,ako,Nat.reduceAdd,Nat.reduceLT,Nat.reduceLeDiff,Nat.reduceEqDiff,reduceIte,reduceCtorEq, *]<;>fail) (by first|exact Sc.bool _|exact Sc.int _ _) ?_)
  |((with_reducible refine isD ?_);refine aK (by assumption) ?_)
  |((with_reducible refine isP ?_);exact Nx)
  |((with_reducible refine isG ?_);exact gcA)
  |((with_reducible refine isQ ?_);exact Ny)
  |((with_reducible refine isT ?_);first|refine bT ?_|refine bF ?_|(refine bS (fun h=>?_) (fun h=>?_)<;>try(exfalso;omega)))
  |((with_reducible refine Nn ?_);refine bN ?_)
  |((with_reducible refine isV ?_);first|(refine gST (fun h=>?_) (fun h=>?_)<;>try(exfalso;omega))|(refine gSF (fun h=>?_) (fun h=>?_)<;>try(exfalso;omega)))
  |with_reducible refine Nz (by assumption) ?_ ?_
  |omega
  |assumption)):p:=h
theorem nx{p q A:Prop}(hq:A->q) (h:Hid (A->q)->p:=by
 (intro hq
  have H:=trivial
  repeat(first
   |with_reducible (first|refine tp ?_|refine jV ?_|refine qN ?_|refine nf ?_|refine nc ?_|refine qO ?_|refine vA ?_|refine vz ?_)
   |((with_reducible refine na ?_ ?_);focus (simp only[al8,ama]<;>fail))
   |simp only[go_sem,Nat.reduceAdd,Nat.reduceSub,Nat.reduceMul,Nat.reduceLT,Nat.reduceLeDiff,Nat.reduceEqDiff,reduceIte,Int.reduceToNat,Int.reduceLT,Int.reduceLE,Int.reduceEq,Int.reduceNeg,reduceCtorEq,Int.reduceBEq,Int.reduceBNe,Int.reduceAdd,Int.reduceSub,Lj,Lk, *]
   |with_reducible refine And.intro (pE WN) ?_
   |with_reducible refine And.intro WN ?_
   |(with_reducible refine Nf ?_ (fun h=>?_);first|omega|(simp<;>fail)|(simp;omega));replace H:=And.intro h H
   |((with_reducible refine isC ?_);refine am (by assumption) ?_)
   |((with_reducible refine isC ?_);refine J6 (by assumption) (by simp only[go_sem,al8,ama,ake,ako,Nat.reduceAdd,Nat.reduceLT,Nat.reduceLeDiff,Nat.reduceEqDiff,reduceIte,reduceCtorEq, *]<;>fail) (by first|exact Sc.bool _|exact Sc.int _ _) ?_)
   |((with_reducible refine isD ?_);refine aK (by assumption) ?_)
   |((with_reducible refine isT ?_);first|refine bT ?_|refine bF ?_)
   |((with_reducible refine Nn ?_);refine bN ?_))
  exact hq.out H)):p:=h ⟨hq⟩
section
variable{P:Program}{nt k:Nat}{σ:St}{x:ab}{Q:Ex->Fr->St->Prop}
theorem FO{nv:Nat}{vs:List AV}{ts:List (Nat×AV)}(n:Nat)(ok:Nat->Prop)(us:Nat->List (Nat×AV))(S:Nat->St)(hk:ok 0)
 (round:∀i,i<n->ok i->IntKind.i64.wrap ((i:Int)+1)=((i+1:Nat):Int)->(i:Int)<((n:Nat):Int)->Tri P nt k x (gf (fun fr σ=>ok (i+1)/\GC k fr σ ⟨nv,jc (us (i+1)) vs,[]⟩ (S (i+1))) Q) ⟨nv,jc (us i) vs,[]⟩ (S i))
 (out:ok n->¬ ((n:Nat):Int)<((n:Nat):Int)->Tri P nt k x (gf (fun _ _=>False) Q) ⟨nv,jc (us n) vs,[]⟩ (S n))
 (hn:n<=4611686018427387904:=by omega) (h0:GC k ⟨nv,vs,ts⟩ σ ⟨nv,jc (us 0) vs,[]⟩ (S 0):=by(simp only[go_sem,Nat.reduceAdd];exact gcA)):Tri P nt k (.loop x) Q ⟨nv,vs,ts⟩ σ:=by
 refine az us S (fun i=>n-i) (fun i=>i<=n/\ok i) 0 ⟨amc _,hk⟩ h0 fun i hi=>?_
 by_cases h:i<n
 ·refine Tri.mono (round i h hi.2 (af h WL) WL) fun e fr σ hq=>?_
  cases e with
  |normal=>exact⟨i+1,⟨h,hq.1⟩,WL,hq.2⟩
  |exit _|ret=>exact hq
 ·obtain rfl:i=n:=WL
  refine Tri.mono (out hi.2 WL) fun e fr σ hq=>?_
  cases e with
  |normal=>exact hq.elim
  |exit _|ret=>exact hq
theorem BA{nv:Nat}{vs:List AV}{ts:List (Nat×AV)}(n:Nat)(us:Nat->List (Nat×AV))(S:Nat->St)
 (round:∀i,i<n->IntKind.i64.wrap ((i:Int)+1)=((i+1:Nat):Int)->(i:Int)<((n:Nat):Int)->Tri P nt k x (gf (fun fr σ=>GC k fr σ ⟨nv,jc (us (i+1)) vs,[]⟩ (S (i+1))) Q) ⟨nv,jc (us i) vs,[]⟩ (S i))
 (out:¬ ((n:Nat):Int)<((n:Nat):Int)->Tri P nt k x (gf (fun _ _=>False) Q) ⟨nv,jc (us n) vs,[]⟩ (S n))
 (hn:n<=4611686018427387904:=by omega) (h0:GC k ⟨nv,vs,ts⟩ σ ⟨nv,jc (us 0) vs,[]⟩ (S 0):=by(simp only[go_sem,Nat.reduceAdd];exact gcA)):Tri P nt k (.loop x) Q ⟨nv,vs,ts⟩ σ:=
 FO n (fun _=>True) us S trivial (fun i h _ h1 h2=>(round i h h1 h2).mono fun e fr σ hq=>by
  cases e with
  |normal=>exact⟨trivial,hq⟩
  |exit _|ret=>exact hq) (fun _ h=>out h) hn h0
theorem Ld{nv:Nat}{vs:List AV}{ts:List (Nat×AV)}(n:Nat)(ok:Nat->Prop)(us:Nat->Int->List (Nat×AV))(S:Nat->St)(hk:ok n)
 (round:∀i:Nat,i<n->ok (i+1)->¬ (i:Int)<0->IntKind.i64.wrap ((i:Int)-1)=(i:Int)-1->Tri P nt k x (gf (fun fr σ=>ok i/\GC k fr σ ⟨nv,jc (us i ((i:Int)-1)) vs,[]⟩ (S i)) Q) ⟨nv,jc (us (i+1) i) vs,[]⟩ (S (i+1)))
 (out:ok 0->Tri P nt k x (gf (fun _ _=>False) Q) ⟨nv,jc (us 0 (-1)) vs,[]⟩ (S 0))
 (hn:n<=4611686018427387904:=by omega) (h0:GC k ⟨nv,vs,ts⟩ σ ⟨nv,jc (us n ((n:Int)-1)) vs,[]⟩ (S n):=by(simp only[go_sem,Nat.reduceAdd];exact gcA)):Tri P nt k (.loop x) Q ⟨nv,vs,ts⟩ σ:=by
 refine az (fun m=>us m ((m:Int)-1)) S (fun m=>m) (fun m=>m<=n/\ok m) n ⟨amb _,hk⟩ h0 fun m hm=>?_
 cases m with
 | zero =>
   refine Tri.mono (out hm.2) fun e fr σ hq=>?_
   cases e with
   |normal=>exact hq.elim
   |exit _|ret=>exact hq
 | succ i =>
   have e:((i+1:Nat):Int)-1=i:=WL
   simp only[e];refine Tri.mono (round i hm.1 hm.2 WL (aL WL WL)) fun e fr σ hq=>?_
   cases e with
   |normal=>exact⟨i,⟨WL,hq.1⟩,WL,hq.2⟩
   |exit _|ret=>exact hq
theorem QL{nv:Nat}{vs:List AV}{ts:List (Nat×AV)}(n:Nat)(us:Nat->Int->List (Nat×AV))(S:Nat->St)
 (round:∀i:Nat,i<n->¬ (i:Int)<0->IntKind.i64.wrap ((i:Int)-1)=(i:Int)-1->Tri P nt k x (gf (fun fr σ=>GC k fr σ ⟨nv,jc (us i ((i:Int)-1)) vs,[]⟩ (S i)) Q) ⟨nv,jc (us (i+1) i) vs,[]⟩ (S (i+1)))
 (out:Tri P nt k x (gf (fun _ _=>False) Q) ⟨nv,jc (us 0 (-1)) vs,[]⟩ (S 0))
 (hn:n<=4611686018427387904:=by omega) (h0:GC k ⟨nv,vs,ts⟩ σ ⟨nv,jc (us n ((n:Int)-1)) vs,[]⟩ (S n):=by(simp only[go_sem,Nat.reduceAdd];exact gcA)):Tri P nt k (.loop x) Q ⟨nv,vs,ts⟩ σ:=
 Ld n (fun _=>True) us S trivial (fun i h _ h1 h2=>(round i h h1 h2).mono fun e fr σ hq=>by
  cases e with
  |normal=>exact⟨trivial,hq⟩
  |exit _|ret=>exact hq) (fun _=>out) hn h0
end
theorem iB(ρ:Nat->Nat):bH ρ []=[]:=rfl
theorem wl0:IntKind.i64.wrap ((0:Int)+1)=1:=by decide
theorem wl1:IntKind.i64.wrap ((1:Int)+1)=2:=by decide
theorem wl2:IntKind.i64.wrap ((2:Int)+1)=3:=by decide
theorem wl3:IntKind.i64.wrap ((3:Int)+1)=4:=by decide
theorem o7(k:IntKind)(ns:List Int)(x:Int):aH k ns++[[.int k x]]=aH k (ns++[x]):=by simp[aH]
attribute [go_sem] o7 iB wl0 wl1 wl2 wl3
def Unr(P:Program)(nt k:Nat)(x:ab)(Q:Ex->Fr->St->Prop):Nat->Fr->St->Prop
 |0,_,_=>False
 |n+1,fr,σ=>Tri P nt k x (gf (Unr P nt k x Q n) Q) fr σ
@[congr] theorem agQ{P:Program}{e k n:Nat}{c:ab}{Q:Ex->Fr->St->Prop}{d b:Fr}{σ σ':St}(g:d=b)(f:σ=σ'):Unr P e k c Q n d σ=Unr P e k c Q n b σ':=by grind
section
variable{P:Program}{nt k:Nat}{fr:Fr}{σ:St}
theorem gY{x:ab}{Q:Ex->Fr->St->Prop}{n:Nat}(h:Tri P nt k x (gf (Unr P nt k x Q n) Q) fr σ):Unr P nt k x Q (n+1) fr σ:=h
theorem lV{x:ab}{Q:Ex->Fr->St->Prop}(n:Nat)(h:Unr P nt k x Q n fr σ):Tri P nt k (.loop x) Q fr σ:=by
 refine Jq (fun m fr σ=>Unr P nt k x Q m fr σ) n h ?_;intro m i σ1 g;cases m with
 |zero=>exact g.elim
 | succ m =>
   refine Tri.mono g fun e fr2 σ2 b=>?_
   cases e with
   |normal=>exact⟨m,akR m,b⟩
   |exit _=>exact b
   |ret=>exact b
end
end Go.FH
namespace Go.FH
open Go Go.RowKit
def FA(a b:Int):Int×Int:=if IntKind.u64.wrap (18446744073709551615-b)<a then (0,4)else (IntKind.u64.wrap (a+b),0)
def Ip(a b:Int):Int×Int:=if b≠0/\IntKind.u64.wrap (Int.tdiv 18446744073709551615 b)<a then (0,4)else (IntKind.u64.wrap (a*b),0)
def dN(l:List Int):Nat->Int×Int
 |0=>(0,0)
 |i+1=>let p:=dN l i;if p.2≠0 then p else FA p.1 (l.getD i 0)
def EI(l:List Int):Int×Int:=dN l l.length
def vy(n:Int):Bool:=decide (1<=n)&&decide (n<=64)
def dk(e per:Int):Int×Int:=if vy per=true then Ip e per else (0,3)
def qz(a b:Rt):Nat->Nat->Int
 |0,_=>0
 |f+1,i=>if a.1.getD i 0<b.1.getD i 0 then -1 else if b.1.getD i 0<a.1.getD i 0 then 1 else qz a b f (i+1)
def uk(a b:Rt):Int:=qz a b 32 0
def QQ(a b:Wd):Nat->Int
 |0=>0
 |f+1=>if a.1.getD f 0<b.1.getD f 0 then -1 else if b.1.getD f 0<a.1.getD f 0 then 1 else QQ a b f
def X5(a b:Wd):Int:=QQ a b 4
def gh(t:aW)(n:Int):Int:=if (t.bals.length:Int)≠n then 2 else if (EI t.bals).2≠0\/4611686018427387904<(EI t.bals).1 then 4 else 0
def kW(a b:Cp):Int:=if a.ep≠b.ep then (if a.ep<b.ep then -1 else 1)else uk a.rt b.rt
def tab(l:List aW)(i:Nat):aW:=l.getD i default
def dJ(l:List aW)(c:Cp):Int:=Cj (dW (fun i=>decide ((tab l i).cp=c)) l.length)
def kf(l:List aW)(c:Cp):Nat->Nat->Nat
 |0,i=>i
 |f+1,i=>if kW (tab l i).cp c<0 then kf l c f (i+1)else i
def my(l:List aW)(t:aW):List aW:=let k:=kf l t.cp l.length 0;l.take k++[t]++l.drop k
def iZ(l:List aW)(t:aW)(n limit:Int):List aW×Int:=
 if gh t n≠0 then (l,gh t n)else if 0<=dJ l t.cp then (l,9)else if limit<=l.length then (l,11)else (my l t,0)
def fX(l:List aW)(e:Int):List aW:=bg (fun i o=>if e<=(tab l i).cp.ep then o++[tab l i]else o) [] l.length
def vot(l:List Vot)(i:Nat):Vot:=l.getD i dL
def mK(ep:Int)(root:Rt)(l:List Int):Nat->List Vot×Int->List Vot×Int:=fun i p=>
 if (vot p.1 (l.getD i 0).toNat).has=false\/(vot p.1 (l.getD i 0).toNat).ep<ep then (p.1.set (l.getD i 0).toNat ⟨true,ep,root⟩,IntKind.i64.wrap (p.2+1))else p
def uM(v:List Vot)(ep:Int)(root:Rt)(l:List Int):List Vot×Int:=bg (mK ep root l) (v,0) l.length
def GI(latest:List Vot)(eqv bals:List Int)(roots:List Rt):Int:=
 bg (fun i n=>if (vot latest i).has=true/\(i:Int)∉eqv/\(vot latest i).root∈roots then IntKind.u64.wrap (n+bals.getD i 0)else n) 0 (min bals.length latest.length)
def nod(t:List Nod)(i:Nat):Nod:=t.getD i gr
def isN(t:List Nod)(i:Int):Bool:=decide (0<=i)&&decide (i<t.length)
def aj(t:List Nod)(r:Rt):Int:=Cj (dW (fun i=>decide ((nod t i).blk.root=r)) t.length)
def BV(t:List Nod)(b:Blk)(status:Int):List Nod×Int:=
 if ¬ (0<=status/\status<=2)then ([],2)else if 0<=aj t b.root then ([],9)else if aj t b.parent<0 then ([],10)
 else if b.slot<=(nod t (aj t b.parent).toNat).blk.slot then ([],14)else if 4096<=t.length then ([],11)else (t++[⟨b,aj t b.parent,status⟩],0)
def ly(t:List Nod)(i:Int):List Int:=if isN t i=true then bg (fun k l=>if (nod t k).up=i then l++[(k:Int)]else l) [] t.length else []
def zi(t:List Nod):Nat->Int->List Int
 |0,_=>[]
 |f+1,i=>if isN t i=true then (if i=0 then [0]else zi t f (nod t i.toNat).up++[i])else []
def eQ(t:List Nod):Prop:=∀i,0<i->i<t.length->0<=(nod t i).up/\(nod t i).up<i
theorem RV{t:List Nod}(d:eQ t):∀ (n i f g:Nat),i<n->i<f->i<g->zi t f i=zi t g i
 |0,_,_,_,h,_,_=>by omega
 | n + 1, i, f + 1, g + 1, k, p, m => by
   unfold zi;by_cases c:isN t (i:Int)=true
   ·by_cases l:(i:Int)=0
    ·grind
    ·simp[isN]at c;obtain⟨e,o⟩:=d i WL c;obtain⟨u,j⟩:∃u:Nat,(nod t i).up=u:=⟨_,(amC e).symm⟩
     simp only[amw];rw[j,RV d n u f g WL WL WL]
   grind
def AI(t:List Nod)(i:Int):List Int:=zi t (t.length+1) i
theorem jv{t:List Nod}(h:0<t.length):AI t 0=[0]:=by
 unfold AI zi;rw[al7 (by simp[isN,h]),al7 rfl]
theorem jw{t:List Nod}(d:eQ t){i:Nat}(f:0<i)(c:i<t.length):AI t i=AI t (nod t i).up++[(i:Int)]:=by
 obtain⟨g,j⟩:=d i f c;obtain⟨u,e⟩:∃u:Nat,(nod t i).up=u:=⟨_,(amC g).symm⟩
 have:=RV d (i+1) u t.length (t.length+1) WL WL WL;unfold AI;rw[e,<-this];show (if isN t (i:Int)=true then _ else _)=_
 rw[al7 (by simp[isN,c]),al5 WL,amw,e]
theorem te{t:List Nod}{i:Int}(h:isN t i=false):AI t i=[]:=by
 unfold AI zi;grind
theorem oN{t:List Nod}(c:eQ t):∀ (n i:Nat),i<n->(AI t i).length<=i+1
 |0,_,h=>by omega
 | n + 1, i, h => by
   by_cases d:i<t.length
   ·by_cases f:i=0
    ·subst f;rw[show ((0:Nat):Int)=0 from rfl,jv d];simp
    ·obtain⟨g,k⟩:=c i WL d;obtain⟨u,j⟩:∃u:Nat,(nod t i).up=u:=⟨_,(amC g).symm⟩
     rw[jw c WL d,j];have:=oN c n u WL;simp;omega
   ·rw[te (by simp[isN];omega)];simp
theorem MW{t:List Nod}(c:eQ t):∀ (n i:Nat),i<n->∀x∈AI t i,0<=x/\x<=i/\x<t.length
 |0,_,h,_,_=>by omega
 | n + 1, i, h, x, b => by
   by_cases d:i<t.length
   ·by_cases f:i=0
    ·subst f;rw[show ((0:Nat):Int)=0 from rfl,jv d]at b;grind
    ·obtain⟨g,k⟩:=c i WL d;obtain⟨u,j⟩:∃u:Nat,(nod t i).up=u:=⟨_,(amC g).symm⟩
     rw[jw c WL d,j,amm,amn]at b;rcases b with b|b
     ·have:=MW c n u WL x b;omega
     omega
   ·rw[te (by simp[isN];omega)]at b;grind
theorem gu{t:List Nod}(d:eQ t){i x:Int}(c:x∈AI t i):0<=x/\x<=i/\x<t.length:=by
 by_cases e:0<=i
 ·obtain⟨u,rfl⟩:∃u:Nat,i=u:=⟨_,(amC e).symm⟩
  exact MW d (u+1) u WL x c
 ·rw[te (by simp[isN];omega)]at c;grind
theorem pF{t:List Nod}(e:eQ t)(i:Int):(AI t i).length<=t.length:=by
 by_cases f:isN t i=true
 ·have c:=f;simp[isN]at c;obtain⟨u,rfl⟩:∃u:Nat,i=u:=⟨_,(amC c.1).symm⟩
  have:=oN e (u+1) u WL;omega
 ·rw[te WO];simp
def eh(t:List Nod)(a b:Int):Bool:=decide (a∈AI t b)
def atT(t:List Nod)(i slot:Int):Int:=bg (fun k at_=>if (nod t ((AI t i).getD k 0).toNat).blk.slot<=slot then (AI t i).getD k 0 else at_) (-1) (AI t i).length
def im(t:List Nod)(i:Int):List Int:=bg (fun k l=>if eh t i k=true then l++[(k:Int)]else l) [] t.length
def Gw(t:List Nod)(latest:List Vot)(eqv bals:List Int):List Int:=
 bg (fun i l=>l++[if (nod t i).status≠2 then GI latest eqv bals [(nod t i).blk.root]else 0]) [] t.length
def ahl(t:List Nod)(direct:List Int):List Int:=
 bg (fun i l=>l++[bg (fun k n=>IntKind.u64.wrap (n+direct.getD ((im t i).getD k 0).toNat 0)) 0 (im t i).length]) [] t.length
def AC(spe boost total:Int):Int×Int:=
 if spe<1\/64<spe\/100<boost\/4611686018427387904<total then (0,3)
 else (IntKind.u64.wrap (IntKind.u64.wrap (IntKind.u64.wrap (Int.tdiv (IntKind.u64.wrap (Int.tdiv total spe)) 100)*boost)+IntKind.u64.wrap (Int.tdiv (IntKind.u64.wrap (Int.tmod (IntKind.u64.wrap (Int.tdiv total spe)) 100*boost)) 100)),0)
def rk(t:List Nod)(direct:List Int)(root:Rt)(amount:Int):List Int:=
 if 0<=aj t root/\(nod t (aj t root).toNat).status≠2/\root≠rt0 then direct.set (aj t root).toNat (IntKind.u64.wrap (direct.getD (aj t root).toNat 0+amount))else direct
def ei(t:List Nod)(i:Int)(k:Nat)(p:List Nod×List Int):List Nod×List Int:=
 if eh t i k=true then (p.1++[⟨(nod t k).blk,if (k:Int)=i then -1 else p.2.getD (nod t k).up.toNat 0,(nod t k).status⟩],p.2++[(p.1.length:Int)])else (p.1,p.2++[-1])
def eF(t:List Nod)(i:Int):List Nod×List Int:=bg (ei t i) ([],[]) t.length
def qf(l:List Int)(status forbidden:Int)(k:Nat)(o:Option (List Nod)):Option (List Nod):=o.bind fun u=>if (nod u (l.getD k 0).toNat).status=forbidden then none else some (u.set (l.getD k 0).toNat { nod u (l.getD k 0).toNat with status:=status })
def tD(t:List Nod)(l:List Int)(status forbidden:Int):Option (List Nod):=bg (qf l status forbidden) (some t) l.length
theorem y9{l:List Int}{c a:Int}{o:Option (List Nod)}{k:Nat}(h:bg (qf l c a) o k=none):∀n,k<=n->bg (qf l c a) o n=none
 |0,d=>by grind
 | n + 1, d => by
   by_cases e:k=n+1
   ·grind
   ·rw[cX,y9 h n WL];rfl
theorem ml{t:List Nod}{l:List Int}{b a:Int}:∀ {k:Nat} {u:List Nod},bg (qf l b a) (some t) k=some u->u.length=t.length
 |0,u,h=>by cases h;rfl
 | k + 1, u, h => by
   rw[cX]at h;cases d:bg (qf l b a) (some t) k with
   |none=>rw[d]at h;cases h
   | some v =>
     rw[d]at h;simp only[qf,ale]at h;split at h
     ·grind
     ·cases h;rw[akB,ml d]
def fD(t:List Nod)(i:Int):List Nod×Int:=if isN t i=true then (match tD t (AI t i) 1 2 with|some u=>(u,0)|none=>([],21))else ([],10)
def kF(t:List Nod)(i:Int):List Nod×Int:=if isN t i=true then (match tD t (im t i) 2 1 with|some u=>(u,0)|none=>([],21))else ([],10)
theorem E6{u:List Nod}{j i:Nat}{n:Nod}:nod (u.set j n) i=if j=i/\i<u.length then n else nod u i:=by
 unfold nod;by_cases h:j=i
 ·grind
 grind
theorem tC{t:List Nod}{l:List Int}{b a:Int}:∀ {k:Nat} {u:List Nod},bg (qf l b a) (some t) k=some u->∀i,(nod u i).up=(nod t i).up/\(nod u i).blk=(nod t i).blk
 |0,u,h,i=>by cases h;simp
 | k + 1, u, h, i => by
   rw[cX]at h;cases d:bg (qf l b a) (some t) k with
   |none=>rw[d]at h;cases h
   | some v =>
     rw[d]at h;simp only[qf,ale]at h;have g:=tC d i;split at h
     ·grind
     ·cases h;rw[E6];split
      ·grind
      omega
theorem eQ.of_up{t u:List Nod}(b:eQ t)(f:u.length=t.length)(a:∀i,(nod u i).up=(nod t i).up):eQ u:=fun i c e=>by rw[a i];exact b i c WL
theorem Hq{t:List Nod}(e:eQ t){i:Int}(h:(fD t i).2=0):eQ (fD t i).1/\(fD t i).1.length=t.length/\∀k,(nod (fD t i).1 k).blk=(nod t k).blk:=by
 unfold fD at *;split at h
 ·rename_i f;rw[al7 f];cases b:tD t (AI t i) 1 2 with
  |none=>grind
  |some u=>exact⟨e.of_up (ml b) (fun i=>(tC b i).1),ml b,fun k=>(tC b k).2⟩
 omega
def iY(t:List Nod)(i:Int)(latest:Rt):Int×Int:=
 if (AI t i).length=0 then (-1,-1)
 else if latest=rt0 then (match dW (fun k=>decide ((nod t ((AI t i).getD k 0).toNat).blk.payload≠rt0)) (AI t i).length with
  |some k=>((nod t ((AI t i).getD k 0).toNat).up,(AI t i).getD k 0)
  |none=>(-1,i))
 else (match yB (fun k=>decide ((nod t ((AI t i).getD k 0).toNat).blk.payload=latest)) ((AI t i).length-1)with
  |some k=>((AI t i).getD k 0,(AI t i).getD (k+1) 0)
  |none=>(-1,i))
def iT(t:List Nod)(i:Int)(v:Vdt)(keep:List Int):List Nod×Int:=
 if isN t i=false then ([],10)else if v.kind=1 then fD t i else if v.kind=3\/v.kind=4 then (t,0)else if v.kind≠2 then ([],2)
 else if (dW (fun k=>eh t (iY t i v.latest).2 (keep.getD k 0)) keep.length).isSome=true then ([],21)
 else if 0<=(iY t i v.latest).1 then (if (fD t (iY t i v.latest).1).2≠0 then ([],(fD t (iY t i v.latest).1).2)else kF (fD t (iY t i v.latest).1).1 (iY t i v.latest).2)
 else kF t (iY t i v.latest).2
end Go.FH
namespace Go.FH
open Go Go.RowKit
def kJ(s p:Int):Int×Int:=if vy p=true then (IntKind.u64.wrap (Int.tdiv s p),0)else (0,3)
theorem lW{n:Int}(h0:0<=n)(h1:n<18446744073709551616):IntKind.u64.wrap n=n:=aN h0 h1
def agl(a b:Int):Int×Int:=if a*b / 18446744073709551616=0 then (IntKind.u64.wrap (a*b),0)else (0,4)
theorem ad3{a b:Int}(j:0<=a)(k:a<18446744073709551616)(f:0<=b)(i:b<18446744073709551616):agl a b=Ip a b:=by
 unfold agl Ip;by_cases o:b=0
 ·grind
 ·have d:0<b:=WL
  have l:Int.tdiv 18446744073709551615 b=18446744073709551615 / b:=ajC WM;have e:0<=18446744073709551615 / b:=akD WM f;have m:18446744073709551615 / b<=18446744073709551615:=akS _ WM;rw[l,lW e WL];have n:0<=a*b:=Wz j f
  have g:(18446744073709551615 / b<a)↔18446744073709551615<a*b:=by
   rw[Int.ediv_lt_iff_lt_mul d]
  by_cases h:18446744073709551615 / b<a
  ·grind
  grind
theorem agm{x0 x1 y0 y1:Int}(h:0<=x0)(e:x0<4294967296)(l:0<=x1)(f:x1<4294967296)(k:0<=y0)(c:y0<4294967296)(j:0<=y1)(d:y1<4294967296):
 (0<=x0*y0/\x0*y0<=18446744065119617025)/\(0<=x1*y0/\x1*y0<=18446744065119617025)/\(0<=x0*y1/\x0*y1<=18446744065119617025)/\(0<=x1*y1/\x1*y1<=18446744065119617025)/\
  (x1*4294967296+x0)*(y1*4294967296+y0)=x1*y1*18446744073709551616+(x1*y0+x0*y1)*4294967296+x0*y0:=by
 have b:∀ {u v:Int},0<=u->u<4294967296->0<=v->v<4294967296->0<=u*v/\u*v<=18446744065119617025:=by
  intro u v i n g m;refine⟨Wz i g,?_⟩;have:=Int.mul_le_mul (show u<=4294967295 by omega) (show v<=4294967295 by omega) g WM;omega
 grind
def xX(a b:Int):Int:=if a<b then -1 else if b<a then 1 else 0
def orI:List Int->Int
 | []=>0
 |x::r=>if x≠0 then x else orI r
theorem aee(a b:Cp):orI [xX a.ep b.ep,uk a.rt b.rt]=kW a b:=by
 unfold kW xX;by_cases e:a.ep<b.ep
 ·simp[orI];omega
 ·by_cases d:b.ep<a.ep
  ·simp[orI];omega
  ·have:a.ep=b.ep:=WL
   simp[orI];omega
theorem adE(a b:Rt):J0 a.1 b.1=uk a b:=by
 have e:∀ (f i:Nat) (x y:List UInt8),x.length=i+f->y.length=i+f->J0 (x.drop i) (y.drop i)=(fun(x y:List UInt8)=>Nat.rec (motive:=fun _=>Nat->Int) (fun _=>0) (fun _ g i=>if x.getD i 0<y.getD i 0 then -1 else if y.getD i 0<x.getD i 0 then 1 else g (i+1)) f i) x y:=by
  intro f;induction f with
  | zero =>
    intro i x y l k;rw[ajF WL,ajF WL];rfl
  | succ f j =>
    intro i x y l k;rw[amG (show i<x.length by omega),amG (show i<y.length by omega)];have m:x.getD i 0=x[i]' WL:=WO
    have n:y.getD i 0=y[i]' WL:=WO
    simp only[J0];grind
 have h:=e 32 0 a.1 b.1 a.2 b.2;unfold uk
 have:∀f i,(Nat.rec (motive:=fun _=>Nat->Int) (fun _=>0) (fun _ g i=>if a.1.getD i 0<b.1.getD i 0 then -1 else if b.1.getD i 0<a.1.getD i 0 then 1 else g (i+1)) f i:Int)=qz a b f i:=by
  intro f;induction f with
  |zero=>intro i;rfl
  |succ f j=>intro i;simp only[qz,j]
 grind
def Gm:List Int->Int->Int×Bool
 | [],n=>(n,true)
 |x::r,n=>if IntKind.u64.wrap (4611686018427387904-n)<x then (0,false)else Gm r (IntKind.u64.wrap (n+x))
def pQ:List Int->Int
 | []=>0
 |x::r=>x+pQ r
theorem P0:∀ {l:List Int},(∀x∈l,0<=x/\x<18446744073709551616)->0<=pQ l
 | [],_=>amr 0
 | x :: r, h => by
   have:=h x (akj ..);have:=P0 (l:=r) fun y b=>h y (amM _ b)
   simp only[pQ];omega
theorem Xa:∀ {l:List Int} {n:Int},(∀x∈l,0<=x/\x<18446744073709551616)->0<=n->n<=4611686018427387904->(Gm l n).2=decide (n+pQ l<=4611686018427387904)
 | [],n,_,f,d=>by simp[Gm,pQ,d]
 | x :: r, n, h, f, d => by
   have j:=h x (akj ..);have c:=fun y g=>h y (amM x g)
   have i:=P0 (l:=r) c;simp only[Gm];rw[lW (n:=4611686018427387904-n) WL WL];by_cases e:4611686018427387904-n<x
   ·rw[al7 e];exact(aA (by simp only[pQ];omega)).symm
   ·rw[al5 e,lW WL WL,Xa c WL WL];exact ald.2 (by simp only[pQ];omega)
theorem GW:∀ (l m:List Int),pQ (l++m)=pQ l+pQ m
 | [],m=>by simp[pQ]
 |x::l,m=>by simp only[amI,pQ,GW l m];omega
theorem W9{l:List Int}(h:∀x∈l,0<=x/\x<18446744073709551616):∀i,i<=l.length->(pQ (l.take i)<18446744073709551616->dN l i=(pQ (l.take i),0))/\(18446744073709551616<=pQ (l.take i)->(dN l i).2≠0)
 |0,_=>⟨fun _=>by simp[dN,pQ],fun h=>by simp[pQ]at h⟩
 | i + 1, g => by
   obtain⟨d,k⟩:=W9 h i WL
   have e:l.take (i+1)=l.take i++[l.getD i 0]:=by
    rw[amY,alt,al6 (show i<l.length by omega)];rfl
   have o:0<=l.getD i 0/\l.getD i 0<18446744073709551616:=by
    rw[alt,al6 (show i<l.length by omega)];simp_all
   have j:=P0 (l:=l.take i) fun y c=>h y (akq c)
   have m:pQ (l.take (i+1))=pQ (l.take i)+l.getD i 0:=by rw[e,GW];simp[pQ]
   simp only[dN];by_cases f:pQ (l.take i)<18446744073709551616
   ·rw[d f]
    unfold FA;rw[lW (n:=18446744073709551615-l.getD i 0) WL WL];by_cases b:18446744073709551615-l.getD i 0<pQ (l.take i)
    ·grind
    ·rw[al5 b,lW WL WL];grind
   grind
theorem aae{l:List Int}(h:∀x∈l,0<=x/\x<18446744073709551616):((EI l).2≠0\/4611686018427387904<(EI l).1)↔(Gm l 0).2=false:=by
 rw[Xa h (amr 0) WM,Int.zero_add];have b:=W9 h l.length (amb _);unfold EI;grind
theorem Lh{p:Nat->Bool}{n k:Nat}(hk:k<n)(h:p k=true)(h2:∀j,j<k->p j=false):dW p n=some k:=by
 cases hf:dW p n with
 |none=>rw[iL hf k hk]at h;cases h
 | some j =>
   obtain⟨g1,g2,g3⟩:=fZ hf;congr 1;rcases alb j k with q|q|q
   ·rw[h2 j q]at g2;cases g2
   ·exact q
   ·rw[g3 k q]at h;cases h
theorem Li{p:Nat->Bool}{n:Nat}(h:∀j,j<n->p j=false):dW p n=none:=by
 cases hf:dW p n with
 |none=>rfl
 |some j=>have:=fZ hf;rw[h j this.1]at this;cases this.2.1
theorem Mg{P:Program}{nt k:Nat}{σ:St}{x:ab}{Q:Ex->Fr->St->Prop}{nv:Nat}{vs:List AV}{ts:List (Nat×AV)}(p:Nat->Bool)(n:Nat)(us:Nat->List (Nat×AV))(S:Nat->St)
 (yes:∀i,i<n->p i=true->dW p n=some i->IntKind.i64.wrap ((i:Int)+1)=((i+1:Nat):Int)->(i:Int)<((n:Nat):Int)->Tri P nt k x (gf (fun _ _=>False) Q) ⟨nv,jc (us i) vs,[]⟩ (S i))
 (no:∀i,i<n->p i=false->IntKind.i64.wrap ((i:Int)+1)=((i+1:Nat):Int)->(i:Int)<((n:Nat):Int)->Tri P nt k x (gf (fun fr σ=>GC k fr σ ⟨nv,jc (us (i+1)) vs,[]⟩ (S (i+1))) Q) ⟨nv,jc (us i) vs,[]⟩ (S i))
 (out:dW p n=none->¬ ((n:Nat):Int)<((n:Nat):Int)->Tri P nt k x (gf (fun _ _=>False) Q) ⟨nv,jc (us n) vs,[]⟩ (S n))
 (hn:n<=4611686018427387904:=by omega) (h0:GC k ⟨nv,vs,ts⟩ σ ⟨nv,jc (us 0) vs,[]⟩ (S 0):=by(simp only[go_sem,Nat.reduceAdd];exact gcA)):Tri P nt k (.loop x) Q ⟨nv,vs,ts⟩ σ:=by
 refine FO n (fun i=>∀j,j<i->p j=false) us S (fun j h=>absurd h (aju _)) (fun i h hk h1 h2=>?_) (fun hk h=>out (Li hk) h) hn h0;cases hp:p i with
 | true =>
   refine(yes i h hp (Lh h hp hk) h1 h2).mono fun e fr σ hq=>?_
   cases e with
   |normal=>exact hq.elim
   |exit _|ret=>exact hq
 | false =>
   refine(no i h hp h1 h2).mono fun e fr σ hq=>?_
   cases e with
   | normal =>
     refine⟨fun j hj=>?_,hq⟩;by_cases hji:j=i
     ·rw[hji];exact hp
     ·exact hk j WL
   |exit _|ret=>exact hq
theorem IJ{w:World}{b o:Nat}{vs:List Value}(v:vs≠[])(h:∀j u,vs[j]?=some u->w.cell? ⟨b,o+j,none⟩=some u):range? w b o vs.length=some vs.toArray:=by
 unfold range?
 have n:∃u,vs[0]?=some u:=by
  cases vs with
  |nil=>grind
  |cons u x=>simp
 obtain⟨s,l⟩:=n;have e:=h 0 s l;unfold World.cell? at e;split at e
 ·rename_i c t f r
  have k:∀j u,vs[j]?=some u->c[o+j]?=some u:=by
   intro j u q;have:=h j u q;unfold World.cell? at this;grind
  rw[r];simp only
  have g:o+vs.length<=c.size:=by
   have m:vs.length-1<vs.length:=by
    grind
   have:=k (vs.length-1) _ (al6 m);grind
  rw[al7 g];congr 1;apply Array.ext
  ·grind
  ·intro i y z;have p:i<vs.length:=WL
   have:=k i _ (al6 p);grind
 grind
abbrev C4(w:World):Env:=⟨fun _=>none,fun _=>False,w⟩
theorem PC.top{P:Program}{f:FuncId}{args:List AV}{r:AV}(h:PC P f args r){w:World}{vs:List Value}(s:RlS (C4 w) args vs):
 Calls P f vs.toArray w fun e w'=>(∃v,e=.returned v/\Rl (C4 w') r v)/\Below w.heap.size w w':=by
 have t:∀w:World,bh (fun _=>False) (fun _=>none) [] w=C4 w:=by
  intro w;unfold bh C4;congr 1;funext b
  apply propext
  constructor
  ·rintro (h|⟨id,o,L,n,_⟩)
   ·omega
   grind
  simp
 have m:Rel (fun _=>False) (fun _=>none) [] w:=⟨fun id o h=>WO,fun i j a b u x _ h=>WM,fun b h=>h.elim,fun _ _=>rfl⟩;refine(h.call.2.2 _ _ w vs m WO).mono ?_;rintro e w' ⟨v,d,rfl,k,_⟩;refine⟨⟨v,rfl,?_⟩,k.ev.below fun b _ p=>?_⟩
 ·have q:d=fun _=>none:=funext fun id=>k.rel.beyond id (amc _)
  have:=k.val;grind
 ·obtain⟨id,o,L,n,_⟩:=p;grind
theorem PC.law{P:Program}{f:FuncId}{args:List AV}(h:PC P f args (.bool true)){w:World}{vs:List Value}(d:RlS (C4 w) args vs):
 Calls P f vs.toArray w fun e w'=>e=.returned (.bool true)/\Below w.heap.size w w':=
 (h.top d).mono fun e w' ⟨⟨v,i,j⟩,g⟩=>⟨by rw[i];exact ajG Ending.returned j,g⟩
inductive Sh where
 |bool
 |int (k:IntKind)
 |arr (n:Nat) (s:Sh)
 |sl (s:Sh)
 |st (ss:List Sh)
mutual
def Sh.size:Sh->Nat
 |.bool=>1
 |.int _=>1
 |.sl _=>1
 |.arr n s=>n*s.size
 |.st ss=>Sh.sizes ss
def Sh.sizes:List Sh->Nat
 | []=>0
 |s::ss=>s.size+Sh.sizes ss
end
mutual
inductive Opn:Sh->List AV->Prop
 |bool (b:Bool):Opn .bool [.bool b]
 |int (k:IntKind) (n:Int) (h:(Lit.int k n).wf=true):Opn (.int k) [.int k n]
 |arr (n:Nat) (s:Sh) (xs:List (List AV)) (hl:xs.length=n) (h:∀x∈xs,Opn s x):Opn (.arr n s) xs.flatten
 |sl (s:Sh) (xs:List (List AV)) (hl:xs.length<=maxLen) (h:∀x∈xs,Opn s x):Opn (.sl s) [.sl s.size false xs]
 |st (ss:List Sh) (cs:List AV) (h:GM ss cs):Opn (.st ss) cs
inductive GM:List Sh->List AV->Prop
 |nil:GM [] []
 |cons (s:Sh) (ss:List Sh) (a b:List AV) (h:Opn s a) (hs:GM ss b):GM (s::ss) (a++b)
end
mutual
def HZ(P:Program):Sh->TypeId->Bool
 | .bool, t => match P.underlying t with
   |some .bool=>true
   |_=>false
 | .int k, t => match P.underlying t with
   |some (.int k')=>k==k'
   |_=>false
 | .arr n s, t => match P.underlying t with
   |some (.array m e)=>m==n&&P.cellsOf e==s.size&&P.cellsOf t==n*s.size&&HZ P s e
   |_=>false
 | .sl s, t => match P.underlying t with
   |some (.slice e)=>P.cellsOf e==s.size&&decide (0<s.size)&&HZ P s e
   |_=>false
 | .st ss, t => match P.underlying t with
   |some (.struct fs)=>P.cellsOf t==Sh.sizes ss&&MJ P ss fs.toList 0
   |_=>false
def MJ(P:Program):List Sh->List Field->Nat->Bool
 | [],[],_=>true
 |s::ss,f::fs,o=>f.offset==o&&P.cellsOf f.type==s.size&&HZ P s f.type&&MJ P ss fs (o+s.size)
 |_,_,_=>false
end
section
variable{H:Type}{enc:TypeId×Value->H}{P:Program}{w:World}
theorem aau{s:Sh}{k:Nat}:∀ (n:Nat) (cs:List Value),cs.length=n*k->(∀i,i<n->∃avs,Opn s avs/\RlC (C4 w) avs ((cs.drop (i*k)).take k))->
 ∃xs:List (List AV),xs.length=n/\(∀x∈xs,Opn s x)/\RlC (C4 w) xs.flatten cs
 |0,cs,hl,_=>⟨[],rfl,WM,by have:cs=[]:=amK WL;subst this;rfl⟩
 | n + 1, cs, hl, h => by
   have hk:(n+1)*k=k+n*k:=by rw[aln];omega
   obtain⟨a,ha,hr⟩:=h 0 WL
   obtain⟨xs,h1,h2,h3⟩:=aau (s:=s) (k:=k) n (cs.drop k) (by rw[ajJ,hl,hk];omega) (fun i hi=>by
    obtain⟨b,hb,hr⟩:=h (i+1) WL;refine⟨b,hb,?_⟩;rw[ajA,show k+i*k=(i+1)*k by rw[aln];omega];exact hr)
   refine⟨a::xs,by simp[h1],fun x hx=>?_,?_⟩
   ·rcases ajo.1 hx with rfl|hx
    ·exact ha
    ·exact h2 x hx
   ·have e:cs=cs.take k++cs.drop k:=(amF k cs).symm;rw[e];simp only[Nat.zero_mul,ak9]at hr;exact RlC.app hr h3
theorem afx{s:Sh}{k:Nat}{b off:Nat}:∀ (n:Nat) (o:Nat),(∀i,i<n->∃avs us,Opn s avs/\RlC (C4 w) avs us/\us.length=k/\∀j,j<k->w.cell? ⟨b,off+(o+i*k+j),none⟩=us[j]?)->
 ∃ (xs:List (List AV)) (vs:List Value),xs.length=n/\(∀x∈xs,Opn s x)/\vs.length=n*k/\RlE (C4 w) k xs vs/\∀j,j<n*k->w.cell? ⟨b,off+(o+j),none⟩=vs[j]?
 |0,o,_=>⟨[],[],rfl,WM,WM,rfl,fun j hj=>WL⟩
 | n + 1, o, h => by
   obtain⟨a,us,ha,hr,hl,hc⟩:=h 0 WL
   obtain⟨xs,vs,h1,h2,h3,h4,h5⟩:=afx n (o+k) (fun i hi=>by
    obtain⟨a,us,ha,hr,hl,hc⟩:=h (i+1) WL;refine⟨a,us,ha,hr,hl,fun j hj=>?_⟩;have:=hc j hj;rwa [show off+(o+(i+1)*k+j)=off+(o+k+i*k+j)by rw[aln];omega]at this)
   refine⟨a::xs,us++vs,by simp[h1],fun x hx=>?_,?_,⟨us,vs,rfl,hl,hr,h4⟩,fun j hj=>?_⟩
   ·rcases ajo.1 hx with rfl|hx
    ·exact ha
    ·exact h2 x hx
   ·rw[akC,hl,h3,aln];omega
   ·by_cases hjk:j<k
    ·have:=hc j hjk;rw[amH WL];simpa using this
    ·have:=h5 (j-k) (by rw[aln]at hj;omega);rw[amX WL,hl,<-this];congr 2;omega
mutual
theorem O3:∀ (s:Sh) (t:TypeId) (fuel:Nat) (cs:List Value) (x:DataW H×List MemPlace),HZ P s t=true->DataW.trod enc P w 0 (fun _=>true) true fuel t cs=some x->∃avs,Opn s avs/\RlC (C4 w) avs cs
 | .bool, t, fuel, cs, x, hs, h => by
   unfold HZ at hs;split at hs<;>try cases hs
   rename_i ht;cases fuel with
   |zero=>simp[DataW.trod]at h
   | succ n =>
     unfold DataW.trod at h;rw[ht]at h;split at h<;>simp_all
     exact⟨_,.bool _,_,[],rfl,rfl,rfl,rfl⟩
 | .int k, t, fuel, cs, x, hs, h => by
   unfold HZ at hs;split at hs<;>try cases hs
   rename_i k' ht;obtain⟨n,rfl,_,hw⟩:=DataW.trod_int ht h;have:k=k':=by simpa using hs
   subst this;exact⟨_,.int _ _ hw,_,[],rfl,rfl,rfl,rfl⟩
 | .arr n s, t, fuel, cs, x, hs, h => by
   unfold HZ at hs;split at hs<;>try cases hs
   rename_i m e ht;simp only[amk,am0]at hs;obtain⟨⟨⟨rfl,hc⟩,hct⟩,hi⟩:=hs;obtain⟨xs,fl,rfl,rfl,hl,hx,he⟩:=DataW.trod_array ht h;rw[hct]at hl
   obtain⟨xs,h1,h2,h3⟩:=aau (s:=s) (w:=w) m cs hl (fun i hin=>by
    have h1:=he i hin;rw[hc,al6 WL]at h1;exact O3 s e _ _ _ hi h1)
   exact⟨_,.arr _ _ _ h1 h2,h3⟩
 | .sl s, t, fuel, cs, x, hs, h => by
   unfold HZ at hs;split at hs<;>try cases hs
   rename_i e ht;simp only[amk,am0,amg]at hs;obtain⟨⟨hc,hp⟩,hi⟩:=hs;rcases DataW.trod_slice ht h with⟨rfl,_⟩|⟨a,len,cap,elems,rest,n,_,rfl,rfl,hb,hl,hm,hlen,hel,hsp,hns⟩
   ·exact⟨_,.sl s [] WM WM,_,[],rfl,rfl,⟨none,0,0,rfl,rfl,amb _,by simp[maxLen],fun _=>rfl,fun _=>rfl,.inl rfl⟩,rfl⟩
   ·by_cases h0:len=0
    ·subst h0;exact⟨_,.sl s [] WM WM,_,[],rfl,rfl,⟨some a,0,cap,rfl,rfl,hl,hm,(fun h=>Bool.noConfusion h),(fun h=>by cases h),.inl rfl⟩,rfl⟩
    have each:∀i,i<len->∃avs us,Opn s avs/\RlC (C4 w) avs us/\us.length=s.size/\∀j,j<s.size->w.cell? ((a.add (i*s.size)).add j)=us[j]?:=by
     intro i hin;have h1:=hel i hin;rw[hc,al6 WL,ajP]at h1;obtain⟨us,h2,h3⟩:=h1;obtain⟨_,h5,h6⟩:=World.cells?_some h2;obtain⟨avs,h7,h8⟩:=O3 s e _ _ _ hi h3;exact⟨avs,us,h7,h8,h5,h6⟩
    obtain⟨b,off,spot⟩:=a;obtain⟨_,us,_,_,hul,hcc⟩:=each 0 WL;have hc0:=hcc 0 hp;rw[al6 WL]at hc0;have hspot:spot=none:=by simpa[Addr.add]using World.cell?_spot hc0
    subst hspot
    obtain⟨xs,vs,h1,h2,h3,h4,h5⟩:=afx (s:=s) (w:=w) (k:=s.size) (b:=b) (off:=off) len 0 (fun i hin=>by
     obtain⟨avs,us,g1,g2,g3,g4⟩:=each i hin;refine⟨avs,us,g1,g2,g3,fun j hj=>?_⟩;rw[<-g4 j hj,WideShapes.add_plain,WideShapes.add_plain];congr 2;omega)
    have hne:vs≠[]:=by
     intro hh;subst hh;simp only[ama]at h3;have:=Nat.mul_pos (Nat.pos_of_ne_zero h0) hp;omega
    have hrange:=IJ (w:=w) (b:=b) (o:=off) hne (fun j u hj=>by
     have hjl:=(aml.1 hj).1;rw[<-hj,<-h5 j WL];congr 2;omega)
    rw[h3]at hrange
    have hblk:b<w.heap.size:=by
     rw[WideShapes.add_plain,WideShapes.add_plain]at hc0;exact World.block_lt_of_cell? w _ hc0
    exact⟨_,.sl s xs WL h2,_,[],rfl,rfl,⟨_,len,cap,rfl,h1.symm,hl,hm,(fun h=>Bool.noConfusion h),(fun h=>by cases h),.inr ⟨b,off,vs,rfl,hblk,fun hf=>hf,hrange,h4⟩⟩,rfl⟩
 | .st ss, t, fuel, cs, x, hs, h => by
   unfold HZ at hs;split at hs<;>try cases hs
   rename_i fs ht;simp only[amk,am0]at hs;obtain⟨hc,hi⟩:=hs;obtain⟨xs,n,rfl,_,hl,hxs,he⟩:=DataW.trod_struct ht h
   obtain⟨avs,h1,h2⟩:=WC ss fs.toList 0 cs hi (fun f hf=>by
    obtain⟨i,hi⟩:=List.getElem?_of_mem hf;have h1:=he i f (by simpa using hi);have hil:=(aml.1 hi).1;rw[alk]at hil;rw[al6 WL]at h1;exact⟨_,_,h1⟩) WL
   exact⟨avs,.st _ _ h1,h2⟩
theorem WC:∀ (ss:List Sh) (fs:List Field) (o:Nat) (cs:List Value),MJ P ss fs o=true->
 (∀f∈fs,∃ (fuel:Nat) (x:DataW H×List MemPlace),DataW.trod enc P w 0 (fun _=>true) true fuel f.type ((cs.drop f.offset).take (P.cellsOf f.type))=some x)->cs.length=o+Sh.sizes ss->∃avs,GM ss avs/\RlC (C4 w) avs (cs.drop o)
 | [],[],o,cs,_,_,hl=>⟨[],.nil,by rw[ajF (by simp[Sh.sizes]at hl;omega)];rfl⟩
 | [],_::_,o,cs,hs,_,_=>by simp[MJ]at hs
 |_::_,[],o,cs,hs,_,_=>by simp[MJ]at hs
 | s :: ss, f :: fs, o, cs, hs, hf, hl => by
   simp only[MJ,amk,am0]at hs;obtain⟨⟨⟨rfl,hc⟩,hi⟩,hr⟩:=hs;simp only[Sh.sizes]at hl;obtain⟨fuel,x,hx⟩:=hf f WM;obtain⟨a,ha,hra⟩:=O3 s f.type fuel _ x hi hx;obtain⟨b,hb,hrb⟩:=WC ss fs (f.offset+s.size) cs hr (fun g hg=>hf g (by simp[hg])) WL;refine⟨a++b,.cons _ _ _ _ ha hb,?_⟩;have e:cs.drop f.offset=(cs.drop f.offset).take s.size++cs.drop (f.offset+s.size):=by rw[<-ajA,amF]
   rw[e];rw[hc]at hra;exact RlC.app hra hrb
end
theorem abU{t e:TypeId}{v:Value}{d:DataW H}{p:List MemPlace}{r:Reach}{base:Nat}(s:Sh)(hs:HZ P (.sl s) t=true)(hv:Value.okWide P w r base t v)(hd:DataW.Trod enc P w 0 (fun _=>true) true t v d p)
 (ht:P.underlying t=some (.slice e)):∃xs,xs.length<=maxLen/\(∀x∈xs,Opn s x)/\Rl (C4 w) (.sl s.size false xs) v:=by
 obtain⟨fuel,hf⟩:=hd;obtain⟨b,l,c,rfl⟩:=WideShapes.okWide_slice ht hv;obtain⟨avs,h1,h2⟩:=O3 _ t fuel _ _ hs hf;cases h1 with
 | sl s xs hl h =>
   obtain⟨u,us,h3,_,h4,h5⟩:=h2;simp only[Value.cells,ajS]at h3;obtain⟨rfl,rfl⟩:=h3;exact⟨xs,hl,h,h4⟩
end
theorem Opn.ints{k:IntKind}:∀ {xs:List (List AV)},(∀x∈xs,Opn (.int k) x)->∃ns:List Int,xs=aH k ns/\∀n∈ns,(Lit.int k n).wf=true
 | [],_=>⟨[],rfl,WM⟩
 | x :: xs, h => by
   obtain⟨ns,rfl,h2⟩:=Opn.ints (xs:=xs) (fun y hy=>h y (by simp[hy]));cases h x WM with
   | int k n hw =>
     refine⟨n::ns,rfl,fun m hm=>?_⟩;rcases ajo.1 hm with rfl|hm
     ·exact hw
     ·exact h2 m hm
section
variable{H:Type}{enc:TypeId×Value->H}{P:Program}{w:World}
theorem YM{t e:TypeId}{v:Value}{d:DataW H}{p:List MemPlace}{r:Reach}{base:Nat}(k:IntKind)(hs:HZ P (.sl (.int k)) t=true)(hv:Value.okWide P w r base t v)(hd:DataW.Trod enc P w 0 (fun _=>true) true t v d p)
 (ht:P.underlying t=some (.slice e)):∃ns:List Int,ns.length<=maxLen/\(∀n∈ns,(Lit.int k n).wf=true)/\Rl (C4 w) (.sl 1 false (aH k ns)) v:=by
 obtain⟨xs,hl,h,hr⟩:=abU (.int k) hs hv hd ht;obtain⟨ns,rfl,hw⟩:=Opn.ints h;exact⟨ns,by rwa [mS]at hl,hw,hr⟩
end
structure Cp.Ok(x:Cp):Prop where
 ep:(Lit.int .u64 x.ep).wf=true
structure Pul.Ok(x:Pul):Prop where
 j:x.j.Ok
 f:x.f.Ok
end Go.FH
