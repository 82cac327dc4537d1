/- Joined. -/
import Derived.Test.YtmpddimhleianaaGreatW2v
import Derived.OpenShut
import Derived.ChangeMaps
set_option linter.unusedVariables false
set_option linter.unusedSimpArgs false
set_option maxRecDepth 100000
namespace Go.FH
open Go Go.RowKit
def Xc(σ:St)(zs:List Nat)(fr:Fr):Fr:=⟨fr.nv,fr.vs.map (fz σ zs),[]⟩
def BO(σ:St)(zs:List Nat):St:=(List.range σ.length).map fun i=>if zs.contains i then .gone else fzO σ zs (σ.getD i .gone)
theorem evZ:(∀σ zs nv vs ts,Xc σ zs ⟨nv,vs,ts⟩=⟨nv,vs.map (fz σ zs),[]⟩):=fun _ _ _ _ _=>rfl
section
variable{P:Program}{nt k:Nat}{fr:Fr}{σ:St}
theorem N3{E:Env}:∀ {m:Nat} {ws:List Value},ws.length=m->(∀u∈ws,u.oneCell'=true)->RlC E (List.replicate m .any) ws
 | 0, ws, h, _ => by
   obtain rfl:ws=[]:=afV h;rfl
 |m+1,[],h,_=>by grind
 |m+1,u::ws,h,b=>⟨u,ws,rfl,rfl,b u (adX ..),N3 af3 fun v c=>b v (acA _ c)⟩
theorem N5{E:Env}{e:Nat}:∀ {m:Nat} {ws:List Value},ws.length=m*e->(∀u∈ws,u.oneCell'=true)->RlE E e (List.replicate m (List.replicate e .any)) ws
 | 0, ws, h, _ => by
   obtain rfl:ws=[]:=afV af0;rfl
 | m + 1, ws, h, d => by
   refine⟨ws.take e,ws.drop e,(afX e ws).symm,af3,N3 af3 fun u b=>d u (adL b),N5 af3 fun u b=>d u (aeu b)⟩
theorem Dt{c:am}{Q:Ex->Fr->St->Prop}(b:List Nat)(h:Tri P nt k c Q (Xc σ b fr) (BO σ b)):Tri P nt k c Q fr σ:=by
 intro u f s C loc a w l;have x:=l.klen
 have r:nJ k σ b (List.range σ.length) (BO σ b):=by
  refine⟨fun i e=>ad9 af0,List.nodup_range,fun j q=>List.mem_range.1 q,by simp[BO],fun i o d=>?_⟩
  have e:i<σ.length:=by
   have:=(afO.1 d).1;simpa[BO]using this
  unfold BO at d;rw[acs,ad9 e]at d;simp only[aeH]at d;split at d
  ·grind
  ·refine .inr ⟨i,ad9 e,af3,?_⟩;rw[sG,OQ,<-d,afz e,afy,afz e];rfl
 refine Ds b (List.range σ.length) (Xc σ b fr) (BO σ b) r af3 (fun t=>?_) h u f s C loc a w l;rw[sG,Nu];unfold Fr.get Xc;split
 ·grind
 ·exact .inl rfl
def Sc(v:AV):Prop:=∀E E' u,Rl E v u->Rl E' v u
theorem aJ.borrow{f:FuncId}{args:List AV}{r:AV}(h:PC P f (fzL σ (List.range σ.length) args) r)(G:Sc r):aJ P f args σ r σ:=by
 refine⟨h.call.1,afE _,fun X loc w n x k=>?_⟩;obtain⟨d,K,A,M,C⟩:=(lJ σ (List.range σ.length)).rel x;have F:=h.pa
 have m:RlS (aR X d [] w) (fzL σ (List.range σ.length) args) n:=by
  have B:∀ {xs:List AV} {j:List Value},PuL (fzL σ (List.range σ.length) xs)->RlS (aR X loc σ w) xs j->RlS (aR X d [] w) (fzL σ (List.range σ.length) xs) j:=by
   intro xs;induction xs with
   |nil=>intro j _ k;exact k
   | cons a xs H =>
     intro j y k;obtain⟨u,l,e,p,D⟩:=k;exact⟨u,l,e,C a u p _ (y.1.ren _).symm,H y.2 D⟩
  grind
 refine(h.call.2.2 X d w n A m).mono ?_;rintro e w' ⟨v,t,rfl,g,_⟩;have c:Ev (fun _=>False) w w':=⟨g.ev.size,fun b i _=>g.ev.blk b i (fun I=>by obtain⟨id,o,L,p,_⟩:=I;grind),g.ev.os,g.ev.tape,g.ev.output⟩;obtain⟨J,N⟩:=x.grow c;exact⟨v,loc,rfl,⟨fun _ _ h=>h,J,G _ _ _ g.val,⟨c.size,fun b i _=>c.blk b i (fun h=>h),c.os,c.tape,c.output⟩,fun b i=>.inl i⟩,fun _ _=>rfl⟩
theorem Gh:iH σ (List.range σ.length) σ:=by
 refine⟨af1,List.nodup_range,fun j d=>List.mem_range.1 d,fun i j b=>?_⟩
 have c:i<σ.length:=by
  grind
 rw[ad9 c]at b;cases b;rw[sG,afz c];simp[OQ]
theorem Vi{f:FuncId}{args b a:List AV}{r:AV}{K:AV->St->Prop}(h:PC P f b r)(e:fzL σ (List.range σ.length) (args++a)=b)(g:Sc r)(i:K r σ):fL P (.fn (.func f) a) args σ K:=by
 subst e;refine⟨args++a,σ,r,σ,List.range σ.length,aJ.borrow h g,?_,Gh,?_⟩
 ·rw[sG,xf]
 ·rw[rE Gh,sG,Nu];omega
theorem Sc.int(k:IntKind)(n:Int):Sc (.int k n):=fun _ _ _ h=>h
theorem Sc.bool(b:Bool):Sc (.bool b):=fun _ _ _ h=>h
theorem vn{c:am}{Q:Ex->Fr->St->Prop}(d:Nat){e id off j:Nat}{xs:List (List AV)}(E:fr.get d=.hs e id off j)(hσ:σ[id]?=some (.vec e xs))(J:0<e)(r:off+j<=xs.length)
 (h:∀m,xs.length+m<=off+maxLen->Tri P nt k c Q fr (σ.set id (.vex e (xs++List.replicate m (List.replicate e .any))))):Tri P nt k c Q fr σ:=by
 intro K i O C loc a w hs;have x:=hs.frm d;rw[E]at x;obtain⟨ad,o,L,g1,W,g3,Z,F,g6,g7,G,g9,H,I⟩:=pl (X:=C.X) hs.rel (ex:=false) (by rw[hσ];rfl) J x r
 have n:Rel C.X loc (σ.set id (.vex e (xs++List.replicate (off+o-xs.length) (List.replicate e .any)))) w:=by
  refine hs.rel.weakL hσ rfl rfl fun L' l M=>?_
  rw[F]at l;cases l;rcases M with⟨p,h2⟩|⟨p,cs,D,ws,t,Y,y,R,z,N⟩
  ·refine .inl ⟨p,?_⟩;simp_all
  ·refine .inr ⟨p,cs,D++ws,t,af3,y,af3,z.app ?_⟩
   have s:=z.length;have hr:=G p
   have v:ws.length=(off+o-xs.length)*e:=by
    rw[afB,afB,s,y]at R;rw[Nat.mul_sub_right_distrib];omega
   exact N5 v N
 refine h _ af0 K i O C loc a w ⟨n,fun t=>?_,hs.size,hs.dfr,hs.ev,fun b B=>hs.old b ((uZ hσ rfl rfl b).1 B),hs.pre,by simpa using hs.klen⟩;have:=hs.frm t;rwa [Bz hσ rfl rfl]
end
theorem eo{a:List AV}{n:Nat}(h:a.length=n):cut a 0 n=a:=by
 unfold cut;grind
theorem YY(x:AV)(b:List AV)(o n:Nat)(h:1<=o):cut (x::b) o n=cut b (o-1) n:=by
 obtain⟨k,rfl⟩:∃k,o=k+1:=⟨o-1,af0⟩
 rfl
theorem YX(a b:List AV)(o n:Nat)(h:a.length<=o):cut (a++b) o n=cut b (o-a.length) n:=by
 unfold cut;rw[adz,afj h,adN]
theorem YW(a b:List AV)(o n:Nat)(h:o+n<=a.length):cut (a++b) o n=cut a o n:=by
 unfold cut;grind
theorem aaA(x:AV)(b:List AV)(n:Nat)(h:0<n):cut (x::b) 0 n=x::cut b 0 (n-1):=by
 obtain⟨k,rfl⟩:∃k,n=k+1:=⟨n-1,af0⟩
 rfl
theorem aaz(b:List AV)(o:Nat):cut b o 0=[]:=by simp[cut]
theorem Dc{a:List AV}{vs:List AV}(h:vs.length=a.length):spl a 0 vs=vs:=by
 unfold spl;rw[h];simp
theorem Y7(x:AV)(b:List AV)(o:Nat)(vs:List AV)(h:1<=o):spl (x::b) o vs=x::spl b (o-1) vs:=by
 obtain⟨k,rfl⟩:∃k,o=k+1:=⟨o-1,af0⟩
 unfold spl;grind
theorem Y6(a b:List AV)(o:Nat)(vs:List AV)(h:a.length<=o):spl (a++b) o vs=a++spl b (o-a.length) vs:=by
 unfold spl;rw[adQ,adz,afD h,afj af0,adN,show o+vs.length-a.length=o-a.length+vs.length by omega];simp
theorem Y5(a b:List AV)(o:Nat)(vs:List AV)(h:o+vs.length<=a.length):spl (a++b) o vs=spl a o vs++b:=by
 unfold spl;rw[afS af0,adg h];simp
theorem cS1{x:AV}{b:List AV}{o n:Nat}(h:1<=o:=by omega):cut (x::b) o n=cut b (o-1) n:=YY x b o n h
theorem cR1{a b:List AV}{k:Nat}(hk:a.length=k){o n:Nat}(h:k<=o:=by omega):cut (a++b) o n=cut b (o-k) n:=by subst hk;exact YX a b o n h
theorem cL1{a b:List AV}{k:Nat}(hk:a.length=k){o n:Nat}(h:o+n<=k:=by omega):cut (a++b) o n=cut a o n:=by subst hk;exact YW a b o n h
theorem pS1{x:AV}{b:List AV}{o:Nat}{vs:List AV}(h:1<=o:=by omega):spl (x::b) o vs=x::spl b (o-1) vs:=Y7 x b o vs h
theorem pR1{a b:List AV}{k:Nat}(hk:a.length=k){o:Nat}{vs:List AV}(h:k<=o:=by omega):spl (a++b) o vs=a++spl b (o-k) vs:=by subst hk;exact Y6 a b o vs h
theorem pL1{a b:List AV}{k:Nat}(hk:a.length=k){o:Nat}{vs:List AV}(h:o+vs.length<=k:=by omega):spl (a++b) o vs=spl a o vs++b:=by subst hk;exact Y5 a b o vs h
theorem aa3(x:AV)(b:List AV)(v:AV)(vs:List AV):spl (x::b) 0 (v::vs)=v::spl b 0 vs:=by
 unfold spl;simp
theorem aa4(b:List AV):spl b 0 []=b:=by simp[spl]
theorem Ah(a b:Int):(a==b)=decide (a=b):=by grind
theorem dk:bK []=true:=rfl
theorem cz(x:AV)(b:List AV):bK (x::b)=(x.cell&&bK b):=rfl
theorem dj(a b:List AV):bK (a++b)=(bK a&&bK b):=by simp[bK]
theorem fy(a b:List AV):PuL (a++b)↔PuL a/\PuL b:=by
 simp only[zV];grind
theorem kZ(ρ:Nat->Nat)(a b:List AV):dN ρ (a++b)=dN ρ a++dN ρ b:=by simp[CV]
theorem lV(σ:St)(d:List Nat):∀a b,fzL σ d (a++b)=fzL σ d a++fzL σ d b
 | [],b=>rfl
 |x::a,b=>by simp only[aea,fzL,lV σ d a b]
theorem me:∀ {a b:List AV} (x y:List AV),a.length=b.length->iB (a++x) (b++y)=(match iB a b,iB x y with|some p,some q=>some (p&&q)|_,_=>none)
 | [],[],x,y,_=>by simp only[adN,iB];cases iB x y<;>simp
 | u :: a, v :: b, x, y, h => by
   have d:=me (a:=a) (b:=b) x y af3;simp only[aea,iB,d];grind
 | [],_::_,_,_,h|_::_,[],_,_,h=>by grind
theorem il:∀ {c:List (Nat×Nat)} {cs:List AV},cs.map eF=I0 c->iU c cs=true
 | [],cs,h=>by simp only[I0,List.map_eq_nil_iff]at h;subst h;rfl
 | (n, k) :: c, cs, h => by
   simp only[I0]at h;have g:n<=cs.length:=by have:=acM List.length h;simp at this;omega
   have f:(cs.take n).map eF=List.replicate n k:=af4
   have e:(cs.drop n).map eF=I0 c:=af4
   simp only[iU,il e,adI,afL,aew,ac0];refine⟨af3,fun x d=>?_⟩;have:eF x∈(cs.take n).map eF:=List.mem_map_of_mem d;grind
def byc(bs:List UInt8):List AV:=bs.map fun b=>.int .u8 (b.toNat:Int)
@[simp] theorem MB(bs:List UInt8):(byc bs).length=bs.length:=by simp[byc]
theorem WA(bs:List UInt8):PuL (byc bs):=by
 rw[zV];intro x c;obtain⟨b,_,rfl⟩:=acz.1 c;trivial
theorem G4(bs:List UInt8):bK (byc bs)=true:=by simp[bK,byc,AV.cell]
theorem I9:∀ {a b:List UInt8},a.length=b.length->iB (byc a) (byc b)=some (decide (a=b))
 | [],[],_=>rfl
 | x :: a, y :: b, h => by
   have d:=I9 (a:=a) (b:=b) af3
   have e:(((x.toNat:Int))==(y.toNat:Int))=decide (x=y):=by
    rw[acU];simp;exact⟨fun h=>UInt8.toNat_inj.1 af0,fun h=>by rw[h]⟩
   simp only[byc,acv,iB,xF,aco]at d ⊢;simp_all
 | [],_::_,h|_::_,[],h=>by grind
theorem Fq:∀ (bs:List UInt8) (n:Nat),bs.length=n->chunk 1 n (byc bs)=bts bs
 | [],_,rfl=>rfl
 | b :: bs, _, rfl => by
   simp only[afG,chunk,byc,acv,bts];have:=Fq bs _ rfl;simp only[byc,bts]at this;grind
theorem W1(bs:List UInt8){j:Nat}(h:j<bs.length):cut (byc bs) j 1=[.int .u8 (bs[j].toNat:Int)]:=by
 unfold cut byc;rw[<-ad7,<-ael,acG h];rfl
theorem Yz(bs:List UInt8){j:Nat}(h:j<bs.length)(b:UInt8):spl (byc bs) j [.int .u8 (b.toNat:Int)]=byc (bs.set j b):=by
 unfold spl byc;rw[<-ael,ad0,<-ad7,List.set_eq_take_append_cons_drop,afA h];simp
theorem Qy(bs:List UInt8):(byc bs).map eF=List.replicate bs.length 1:=by
 rw[List.eq_replicate_iff];refine⟨af1,fun b g=>?_⟩;obtain⟨c,e,rfl⟩:=acz.1 g;obtain⟨d,_,rfl⟩:=acz.1 e;rfl
theorem JK(bs:List UInt8):(bts bs).flatten=byc bs:=by
 induction bs with
 |nil=>rfl
 |cons b bs d=>simp only[bts,acv,afa]at d ⊢;rw[d];rfl
abbrev Rt:={b:List UInt8 // b.length=32}
def rtc(r:Rt):List AV:=byc r.1
@[simp] theorem ai(r:Rt):(rtc r).length=32:=by rw[rtc,MB,r.2]
theorem Vy(r:Rt):cut (rtc r) 0 32=rtc r:=eo (ai r)
theorem PS(r:Rt):chunk 1 32 (rtc r)=bts r.1:=Fq _ _ r.2
theorem dH(r:Rt):PuL (rtc r):=WA _
theorem sE(ρ:Nat->Nat)(r:Rt):dN ρ (rtc r)=rtc r:=(dH r).ren ρ
theorem v8(σ:St)(zs:List Nat)(r:Rt):fzL σ zs (rtc r)=rtc r:=(dH r).fz σ zs
theorem el(r:Rt):bK (rtc r)=true:=G4 _
theorem kF(r s:Rt):iB (rtc r) (rtc s)=some (decide (r=s)):=by
 rw[rtc,rtc,I9 af0];congr 1;grind
theorem lL(r:Rt):(rtc r).map eF=List.replicate 32 1:=by rw[rtc,Qy,r.2]
theorem JJ(r:Rt):iU [(32,1)] (rtc r)=true:=il (by rw[lL];rfl)
theorem Of(r:Rt){j:Nat}(h:j<32):cut (rtc r) j 1=[.int .u8 ((r.1[j]'(by rw[r.2];exact h)).toNat:Int)]:=W1 _ _
def Rt.set(r:Rt)(j:Nat)(b:UInt8):Rt:=⟨r.1.set j b,af3⟩
theorem xo(r:Rt){j:Nat}(h:j<32)(b:UInt8):spl (rtc r) j [.int .u8 (b.toNat:Int)]=rtc (r.set j b):=Yz _ af0 b
theorem jX(r:Rt):(bts r.1=[])=False:=by
 rw[eq_iff_iff,iff_false];intro h;have:=acM List.length h;rw[Cf,r.2]at this;grind
def rt0:Rt:=⟨List.replicate 32 0,rfl⟩
instance:Inhabited Rt:=⟨rt0⟩
abbrev Wd:={l:List Int // l.length=4}
def wdc(a:Wd):List AV:=a.1.map (.int .u64)
@[simp] theorem bj(a:Wd):(wdc a).length=4:=by rw[wdc,List.length_map,a.2]
theorem Wq(a:Wd):cut (wdc a) 0 4=wdc a:=eo (bj a)
theorem jK(a:Wd):PuL (wdc a):=by
 rw[zV];intro x d;obtain⟨b,_,rfl⟩:=acz.1 d;trivial
theorem KJ(ρ:Nat->Nat)(r:Wd):dN ρ (wdc r)=wdc r:=(jK r).ren ρ
theorem Oj(σ:St)(zs:List Nat)(r:Wd):fzL σ zs (wdc r)=wdc r:=(jK r).fz σ zs
theorem qg(r:Wd):bK (wdc r)=true:=by simp[bK,wdc,AV.cell]
theorem Fe:∀ {a b:List Int},a.length=b.length->iB (a.map (.int .u64)) (b.map (.int .u64))=some (decide (a=b))
 | [],[],_=>rfl
 | x :: a, y :: b, h => by
   have g:=Fe (a:=a) (b:=b) af3;have e:(x==y)=decide (x=y):=af3
   simp only[acv,iB,xF,aco]at g ⊢;simp_all
 | [],_::_,h|_::_,[],h=>by grind
theorem Ja(r s:Wd):iB (wdc r) (wdc s)=some (decide (r=s)):=by
 rw[wdc,wdc,Fe af0];congr 1;grind
theorem FZ(r:Wd):(wdc r).map eF=List.replicate 4 1:=by
 rw[wdc,afi,List.eq_replicate_iff];refine⟨af3,fun b e=>?_⟩;obtain⟨c,f,rfl⟩:=acz.1 e;rfl
theorem vO(r:Wd){j:Nat}(h:j<4):cut (wdc r) j 1=[.int .u64 (r.1[j]'(by rw[r.2];exact h))]:=by
 unfold cut wdc;rw[<-ad7,<-ael,acG (by rw[r.2];exact h)];rfl
def Wd.set(r:Wd)(j:Nat)(x:Int):Wd:=⟨r.1.set j x,af3⟩
theorem oS(r:Wd){j:Nat}(h:j<4)(x:Int):spl (wdc r) j [.int .u64 x]=wdc (r.set j x):=by
 have e:j<r.1.length:=af0
 unfold spl wdc Wd.set;simp only;rw[<-ael,ad0,<-ad7,List.set_eq_take_append_cons_drop,afA e];simp
theorem Ju(r:Wd){j:Nat}(h:j<4):cut (wdc r) j 1=[.int .u64 (r.1.getD j 0)]:=by
 rw[vO r h,afy,afz af0];rfl
def wd0:Wd:=⟨List.replicate 4 0,rfl⟩
instance:Inhabited Wd:=⟨wd0⟩
structure Cp where
 ep:Int
 rt:Rt
 deriving Inhabited,DecidableEq
def cpC(x:Cp):List AV:=.int .u64 x.ep::(rtc x.rt)
@[simp] theorem aF(x:Cp):(cpC x).length=33:=by simp only[cpC,List.length_cons,List.length_append,List.length_nil,ai]
theorem Tm(ep:Int)(rt:Rt):.int .u64 ep::(rtc rt)=cpC ⟨ep,rt⟩:=rfl
theorem Tn(x:Cp):cut (cpC x) 0 33=cpC x:=eo (aF x)
theorem LZ(x:Cp):cut (cpC x) 0 1=[.int .u64 x.ep]:=by unfold cpC;all_goals rfl
theorem L3(x:Cp)(v:Int):spl (cpC x) 0 [.int .u64 v]=cpC { x with ep:=v }:=by unfold cpC;all_goals rfl
theorem L0(x:Cp)(o n:Nat)(h1:1<=o)(h2:o+n<=33):cut (cpC x) o n=cut (rtc x.rt) (o-1) n:=by unfold cpC;rw[cS1];all_goals rfl
theorem L4(x:Cp)(o:Nat)(vs:List AV)(h1:1<=o)(h2:o+vs.length<=33):spl (cpC x) o vs=.int .u64 x.ep::(spl (rtc x.rt) (o-1) vs):=by unfold cpC;rw[pS1];all_goals rfl
theorem ja(x:Cp):bK (cpC x)=true:=by simp[cpC,cz,dj,dk,AV.cell,el]
theorem gG(x:Cp):PuL (cpC x):=by simp[cpC,fy,PuL,Pu,dH]
theorem xd(ρ:Nat->Nat)(x:Cp):dN ρ (cpC x)=cpC x:=(gG x).ren ρ
theorem Ac(σ:St)(zs:List Nat)(x:Cp):fzL σ zs (cpC x)=cpC x:=(gG x).fz σ zs
theorem xZ(x:Cp):(cpC x).map eF=I0 [(33,1)]:=by simp only[cpC,acv,acu,acX,eF,lL];decide +kernel
theorem TB(x:Cp):iU [(33,1)] (cpC x)=true:=il (xZ x)
theorem AM(x y:Cp):iB (cpC x) (cpC y)=some (decide (x=y)):=by cases x;cases y;simp[cpC,me,iB,xF,ai,bj,kF,ado,Ah,adv,aeZ]
def cp0:Cp:=⟨0,rt0⟩
structure Pul where
 j:Cp
 f:Cp
 deriving Inhabited,DecidableEq
def gc(x:Pul):List AV:=cpC x.j++(cpC x.f)
@[simp] theorem bX(x:Pul):(gc x).length=66:=by simp only[gc,List.length_cons,List.length_append,List.length_nil,aF]
theorem Rd(j:Cp)(f:Cp):cpC j++(cpC f)=gc ⟨j,f⟩:=rfl
theorem Re(x:Pul):cut (gc x) 0 66=gc x:=eo (bX x)
theorem Nm(x:Pul)(o n:Nat)(h1:0<=o)(h2:o+n<=33):cut (gc x) o n=cut (cpC x.j) (o-0) n:=by unfold gc;rw[cL1 (aF _)];all_goals rfl
theorem No(x:Pul)(o:Nat)(vs:List AV)(h1:0<=o)(h2:o+vs.length<=33):spl (gc x) o vs=spl (cpC x.j) (o-0) vs++(cpC x.f):=by unfold gc;rw[pL1 (aF _)];all_goals rfl
theorem Nl(x:Pul)(o n:Nat)(h1:33<=o)(h2:o+n<=66):cut (gc x) o n=cut (cpC x.f) (o-33) n:=by unfold gc;rw[cR1 (aF _)];all_goals rfl
theorem Nn(x:Pul)(o:Nat)(vs:List AV)(h1:33<=o)(h2:o+vs.length<=66):spl (gc x) o vs=cpC x.j++(spl (cpC x.f) (o-33) vs):=by unfold gc;rw[pR1 (aF _)];all_goals rfl
theorem ud(x:Pul):bK (gc x)=true:=by simp[gc,cz,dj,dk,AV.cell,ja]
theorem rA(x:Pul):PuL (gc x):=by simp[gc,fy,PuL,Pu,gG]
theorem Rv(ρ:Nat->Nat)(x:Pul):dN ρ (gc x)=gc x:=(rA x).ren ρ
theorem TN(σ:St)(zs:List Nat)(x:Pul):fzL σ zs (gc x)=gc x:=(rA x).fz σ zs
theorem Cd(x:Pul):(gc x).map eF=I0 [(66,1)]:=by simp only[gc,acv,acu,acX,eF,xZ];decide +kernel
theorem Ff(x y:Pul):iB (gc x) (gc y)=some (decide (x=y)):=by cases x;cases y;simp[gc,me,iB,xF,ai,bj,AM,ado,Ah,adv,aeZ]
def KE:Pul:=⟨cp0,cp0⟩
structure Blk where
 pul:Pul
 slot:Int
 root:Rt
 parent:Rt
 payload:Rt
 diff:Wd
 pdiff:Wd
 just:Cp
 fin:Cp
 timely:Bool
 deriving Inhabited,DecidableEq
def au(x:Blk):List AV:=gc x.pul++(.int .u64 x.slot::(rtc x.root++(rtc x.parent++(rtc x.payload++(wdc x.diff++(wdc x.pdiff++(cpC x.just++(cpC x.fin++[.bool x.timely]))))))))
@[simp] theorem bP(x:Blk):(au x).length=238:=by simp only[au,List.length_cons,List.length_append,List.length_nil,aF,bX,ai,bj]
theorem PE(pul:Pul)(slot:Int)(root:Rt)(parent:Rt)(payload:Rt)(diff:Wd)(pdiff:Wd)(just:Cp)(fin:Cp)(timely:Bool):gc pul++(.int .u64 slot::(rtc root++(rtc parent++(rtc payload++(wdc diff++(wdc pdiff++(cpC just++(cpC fin++[.bool timely]))))))))=au ⟨pul,slot,root,parent,payload,diff,pdiff,just,fin,timely⟩:=rfl
theorem PF(x:Blk):cut (au x) 0 238=au x:=eo (bP x)
theorem Hd(x:Blk)(o n:Nat)(h1:0<=o)(h2:o+n<=66):cut (au x) o n=cut (gc x.pul) (o-0) n:=by unfold au;rw[cL1 (bX _)];all_goals rfl
theorem Hf(x:Blk)(o:Nat)(vs:List AV)(h1:0<=o)(h2:o+vs.length<=66):spl (au x) o vs=spl (gc x.pul) (o-0) vs++(.int .u64 x.slot::(rtc x.root++(rtc x.parent++(rtc x.payload++(wdc x.diff++(wdc x.pdiff++(cpC x.just++(cpC x.fin++[.bool x.timely])))))))):=by unfold au;rw[pL1 (bX _)];all_goals rfl
theorem DS(x:Blk):cut (au x) 66 1=[.int .u64 x.slot]:=by unfold au;rw[cR1 (bX _)];simp only[Nat.reduceSub];all_goals rfl
theorem DW(x:Blk)(v:Int):spl (au x) 66 [.int .u64 v]=au { x with slot:=v }:=by unfold au;rw[pR1 (bX _)];simp only[Nat.reduceSub];all_goals rfl
theorem DR(x:Blk)(o n:Nat)(h1:67<=o)(h2:o+n<=99):cut (au x) o n=cut (rtc x.root) (o-67) n:=by unfold au;rw[cR1 (bX _),cS1,cL1 (ai _)];rw[show o-66-1=o-67 by omega]
theorem DV(x:Blk)(o:Nat)(vs:List AV)(h1:67<=o)(h2:o+vs.length<=99):spl (au x) o vs=gc x.pul++(.int .u64 x.slot::(spl (rtc x.root) (o-67) vs++(rtc x.parent++(rtc x.payload++(wdc x.diff++(wdc x.pdiff++(cpC x.just++(cpC x.fin++[.bool x.timely])))))))):=by unfold au;rw[pR1 (bX _),pS1,pL1 (ai _)];rw[show o-66-1=o-67 by omega]
theorem ab6(x:Blk)(o n:Nat)(h1:99<=o)(h2:o+n<=131):cut (au x) o n=cut (rtc x.parent) (o-99) n:=by unfold au;rw[cR1 (bX _),cS1];rw[cR1 (ai _),cL1 (ai _)];rw[show o-66-1-32=o-99 by omega]
theorem zq(x:Blk)(o:Nat)(vs:List AV)(h1:99<=o)(h2:o+vs.length<=131):spl (au x) o vs=gc x.pul++(.int .u64 x.slot::(rtc x.root++(spl (rtc x.parent) (o-99) vs++(rtc x.payload++(wdc x.diff++(wdc x.pdiff++(cpC x.just++(cpC x.fin++[.bool x.timely])))))))):=by unfold au;rw[pR1 (bX _),pS1];rw[pR1 (ai _),pL1 (ai _)];rw[show o-66-1-32=o-99 by omega]
theorem xI(x:Blk)(o n:Nat)(h1:131<=o)(h2:o+n<=163):cut (au x) o n=cut (rtc x.payload) (o-131) n:=by unfold au;rw[cR1 (bX _),cS1];rw[cR1 (ai _),cR1 (ai _),cL1 (ai _)];rw[show o-66-1-32-32=o-131 by omega]
theorem xJ(x:Blk)(o:Nat)(vs:List AV)(h1:131<=o)(h2:o+vs.length<=163):spl (au x) o vs=gc x.pul++(.int .u64 x.slot::(rtc x.root++(rtc x.parent++(spl (rtc x.payload) (o-131) vs++(wdc x.diff++(wdc x.pdiff++(cpC x.just++(cpC x.fin++[.bool x.timely])))))))):=by unfold au;rw[pR1 (bX _),pS1];rw[pR1 (ai _),pR1 (ai _),pL1 (ai _)];rw[show o-66-1-32-32=o-131 by omega]
theorem DP(x:Blk)(o n:Nat)(h1:163<=o)(h2:o+n<=167):cut (au x) o n=cut (wdc x.diff) (o-163) n:=by unfold au;rw[cR1 (bX _),cS1];rw[cR1 (ai _),cR1 (ai _)];rw[cR1 (ai _),cL1 (bj _)];rw[show o-66-1-32-32-32=o-163 by omega]
theorem DT(x:Blk)(o:Nat)(vs:List AV)(h1:163<=o)(h2:o+vs.length<=167):spl (au x) o vs=gc x.pul++(.int .u64 x.slot::(rtc x.root++(rtc x.parent++(rtc x.payload++(spl (wdc x.diff) (o-163) vs++(wdc x.pdiff++(cpC x.just++(cpC x.fin++[.bool x.timely])))))))):=by unfold au;rw[pR1 (bX _),pS1];rw[pR1 (ai _),pR1 (ai _)];rw[pR1 (ai _),pL1 (bj _)];rw[show o-66-1-32-32-32=o-163 by omega]
theorem AS(x:Blk)(o n:Nat)(h1:167<=o)(h2:o+n<=171):cut (au x) o n=cut (wdc x.pdiff) (o-167) n:=by unfold au;rw[cR1 (bX _),cS1];rw[cR1 (ai _),cR1 (ai _)];rw[cR1 (ai _),cR1 (bj _),cL1 (bj _)];rw[show o-66-1-32-32-32-4=o-167 by omega]
theorem AT(x:Blk)(o:Nat)(vs:List AV)(h1:167<=o)(h2:o+vs.length<=171):spl (au x) o vs=gc x.pul++(.int .u64 x.slot::(rtc x.root++(rtc x.parent++(rtc x.payload++(wdc x.diff++(spl (wdc x.pdiff) (o-167) vs++(cpC x.just++(cpC x.fin++[.bool x.timely])))))))):=by unfold au;rw[pR1 (bX _),pS1];rw[pR1 (ai _),pR1 (ai _)];rw[pR1 (ai _),pR1 (bj _),pL1 (bj _)];rw[show o-66-1-32-32-32-4=o-167 by omega]
theorem DQ(x:Blk)(o n:Nat)(h1:171<=o)(h2:o+n<=204):cut (au x) o n=cut (cpC x.just) (o-171) n:=by unfold au;rw[cR1 (bX _),cS1];rw[cR1 (ai _),cR1 (ai _)];rw[cR1 (ai _),cR1 (bj _)];rw[cR1 (bj _),cL1 (aF _)];rw[show o-66-1-32-32-32-4-4=o-171 by omega]
theorem DU(x:Blk)(o:Nat)(vs:List AV)(h1:171<=o)(h2:o+vs.length<=204):spl (au x) o vs=gc x.pul++(.int .u64 x.slot::(rtc x.root++(rtc x.parent++(rtc x.payload++(wdc x.diff++(wdc x.pdiff++(spl (cpC x.just) (o-171) vs++(cpC x.fin++[.bool x.timely])))))))):=by unfold au;rw[pR1 (bX _),pS1];rw[pR1 (ai _),pR1 (ai _)];rw[pR1 (ai _),pR1 (bj _)];rw[pR1 (bj _),pL1 (aF _)];rw[show o-66-1-32-32-32-4-4=o-171 by omega]
theorem Hc(x:Blk)(o n:Nat)(h1:204<=o)(h2:o+n<=237):cut (au x) o n=cut (cpC x.fin) (o-204) n:=by unfold au;rw[cR1 (bX _),cS1];rw[cR1 (ai _),cR1 (ai _)];rw[cR1 (ai _),cR1 (bj _)];rw[cR1 (bj _),cR1 (aF _),cL1 (aF _)];rw[show o-66-1-32-32-32-4-4-33=o-204 by omega]
theorem He(x:Blk)(o:Nat)(vs:List AV)(h1:204<=o)(h2:o+vs.length<=237):spl (au x) o vs=gc x.pul++(.int .u64 x.slot::(rtc x.root++(rtc x.parent++(rtc x.payload++(wdc x.diff++(wdc x.pdiff++(cpC x.just++(spl (cpC x.fin) (o-204) vs++[.bool x.timely])))))))):=by unfold au;rw[pR1 (bX _),pS1];rw[pR1 (ai _),pR1 (ai _)];rw[pR1 (ai _),pR1 (bj _)];rw[pR1 (bj _),pR1 (aF _),pL1 (aF _)];rw[show o-66-1-32-32-32-4-4-33=o-204 by omega]
theorem zp(x:Blk):cut (au x) 237 1=[.bool x.timely]:=by unfold au;rw[cR1 (bX _),cS1];rw[cR1 (ai _),cR1 (ai _)];rw[cR1 (ai _),cR1 (bj _)];rw[cR1 (bj _),cR1 (aF _),cR1 (aF _)];simp only[Nat.reduceSub];all_goals rfl
theorem zr(x:Blk)(v:Bool):spl (au x) 237 [.bool v]=au { x with timely:=v }:=by unfold au;rw[pR1 (bX _),pS1];rw[pR1 (ai _),pR1 (ai _)];rw[pR1 (ai _),pR1 (bj _)];rw[pR1 (bj _),pR1 (aF _),pR1 (aF _)];simp only[Nat.reduceSub];all_goals rfl
theorem o6(x:Blk):bK (au x)=true:=by simp[au,cz,dj,dk,AV.cell,ja,ud,el,qg]
theorem gf(x:Blk):PuL (au x):=by simp[au,fy,PuL,Pu,gG,rA,dH,jK]
theorem Gu(ρ:Nat->Nat)(x:Blk):dN ρ (au x)=au x:=(gf x).ren ρ
theorem JO(σ:St)(zs:List Nat)(x:Blk):fzL σ zs (au x)=au x:=(gf x).fz σ zs
theorem Cc(x:Blk):(au x).map eF=I0 [(237,1),(1,0)]:=by simp only[au,acv,acu,acX,eF,xZ,Cd,lL,FZ];decide +kernel
theorem Qd(x:Blk):iU [(237,1),(1,0)] (au x)=true:=il (Cc x)
theorem Fc(x y:Blk):iB (au x) (au y)=some (decide (x=y)):=by cases x;cases y;simp[au,me,iB,xF,ai,bj,AM,Ff,kF,Ja,ado,Ah,adv,aeZ]
def dx:Blk:=⟨KE,0,rt0,rt0,rt0,wd0,wd0,cp0,cp0,false⟩
structure Att where
 slot:Int
 root:Rt
 target:Cp
 vals:AV
 deriving Inhabited
def cK(x:Att):List AV:=.int .u64 x.slot::(rtc x.root++(cpC x.target++[x.vals]))
@[simp] theorem dK(x:Att):(cK x).length=67:=by simp only[cK,List.length_cons,List.length_append,List.length_nil,aF,ai]
theorem Pr(slot:Int)(root:Rt)(target:Cp)(vals:AV):.int .u64 slot::(rtc root++(cpC target++[vals]))=cK ⟨slot,root,target,vals⟩:=rfl
theorem Ps(x:Att):cut (cK x) 0 67=cK x:=eo (dK x)
theorem DK(x:Att):cut (cK x) 0 1=[.int .u64 x.slot]:=by unfold cK;all_goals rfl
theorem DN(x:Att)(v:Int):spl (cK x) 0 [.int .u64 v]=cK { x with slot:=v }:=by unfold cK;all_goals rfl
theorem DJ(x:Att)(o n:Nat)(h1:1<=o)(h2:o+n<=33):cut (cK x) o n=cut (rtc x.root) (o-1) n:=by unfold cK;rw[cS1,cL1 (ai _)];all_goals rfl
theorem DM(x:Att)(o:Nat)(vs:List AV)(h1:1<=o)(h2:o+vs.length<=33):spl (cK x) o vs=.int .u64 x.slot::(spl (rtc x.root) (o-1) vs++(cpC x.target++[x.vals])):=by unfold cK;rw[pS1,pL1 (ai _)];all_goals rfl
theorem zm(x:Att)(o n:Nat)(h1:33<=o)(h2:o+n<=66):cut (cK x) o n=cut (cpC x.target) (o-33) n:=by unfold cK;rw[cS1,cR1 (ai _),cL1 (aF _)];rw[show o-1-32=o-33 by omega]
theorem zn(x:Att)(o:Nat)(vs:List AV)(h1:33<=o)(h2:o+vs.length<=66):spl (cK x) o vs=.int .u64 x.slot::(rtc x.root++(spl (cpC x.target) (o-33) vs++[x.vals])):=by unfold cK;rw[pS1,pR1 (ai _),pL1 (aF _)];rw[show o-1-32=o-33 by omega]
theorem DL(x:Att):cut (cK x) 66 1=[x.vals]:=by unfold cK;rw[cS1,cR1 (ai _),cR1 (aF _)];simp only[Nat.reduceSub];all_goals rfl
theorem DO(x:Att)(v:AV):spl (cK x) 66 [v]=cK { x with vals:=v }:=by unfold cK;rw[pS1,pR1 (ai _),pR1 (aF _)];simp only[Nat.reduceSub];all_goals rfl
def Att.map(g:AV->AV)(x:Att):Att:={ x with vals:=g x.vals }
theorem Att.map_mk(g:AV->AV)(slot:Int)(root:Rt)(target:Cp)(vals:AV):Att.map g ⟨slot,root,target,vals⟩=⟨slot,root,target,g vals⟩:=rfl
def Att.good(x:Att):Bool:=x.vals.cell
theorem Att.good_mk(slot:Int)(root:Rt)(target:Cp)(vals:AV):Att.good ⟨slot,root,target,vals⟩=(vals.cell):=rfl
def Att.Pure(x:Att):Prop:=Pu x.vals
theorem tY(x:Att):bK (cK x)=x.good:=by simp[cK,Att.good,adv,cz,dj,dk,AV.cell,ja,el]
theorem gI(x:Att):PuL (cK x)↔x.Pure:=by simp[cK,Att.Pure,fy,PuL,Pu,gG,dH]
theorem Gt(ρ:Nat->Nat)(x:Att):dN ρ (cK x)=cK (x.map (ren ρ)):=by simp only[cK,Att.map,kZ,dN,ren,xd,sE]
theorem JN(σ:St)(zs:List Nat)(x:Att):fzL σ zs (cK x)=cK (x.map (fz σ zs)):=by simp only[cK,Att.map,lV,fzL,fz,Ac,v8]
def qj:Att:=⟨0,rt0,cp0,.sl 0 true []⟩
structure Clm where
 src:Int
 tgt:Int
 root:Rt
 vals:AV
 deriving Inhabited
def dB(x:Clm):List AV:=.int .u64 x.src::(.int .u64 x.tgt::(rtc x.root++[x.vals]))
@[simp] theorem iV(x:Clm):(dB x).length=35:=by simp only[dB,List.length_cons,List.length_append,List.length_nil,ai]
theorem PT(src:Int)(tgt:Int)(root:Rt)(vals:AV):.int .u64 src::(.int .u64 tgt::(rtc root++[vals]))=dB ⟨src,tgt,root,vals⟩:=rfl
theorem PU(x:Clm):cut (dB x) 0 35=dB x:=eo (iV x)
theorem Hp(x:Clm):cut (dB x) 0 1=[.int .u64 x.src]:=by unfold dB;all_goals rfl
theorem Hr(x:Clm)(v:Int):spl (dB x) 0 [.int .u64 v]=dB { x with src:=v }:=by unfold dB;all_goals rfl
theorem Hq(x:Clm):cut (dB x) 1 1=[.int .u64 x.tgt]:=by unfold dB;rw[cS1];simp only[Nat.reduceSub];all_goals rfl
theorem Hs(x:Clm)(v:Int):spl (dB x) 1 [.int .u64 v]=dB { x with tgt:=v }:=by unfold dB;rw[pS1];simp only[Nat.reduceSub];all_goals rfl
theorem DZ(x:Clm)(o n:Nat)(h1:2<=o)(h2:o+n<=34):cut (dB x) o n=cut (rtc x.root) (o-2) n:=by unfold dB;rw[cS1,cS1,cL1 (ai _)];rw[show o-1-1=o-2 by omega]
theorem D4(x:Clm)(o:Nat)(vs:List AV)(h1:2<=o)(h2:o+vs.length<=34):spl (dB x) o vs=.int .u64 x.src::(.int .u64 x.tgt::(spl (rtc x.root) (o-2) vs++[x.vals])):=by unfold dB;rw[pS1,pS1,pL1 (ai _)];rw[show o-1-1=o-2 by omega]
theorem D3(x:Clm):cut (dB x) 34 1=[x.vals]:=by unfold dB;rw[cS1,cS1,cR1 (ai _)];simp only[Nat.reduceSub];all_goals rfl
theorem D5(x:Clm)(v:AV):spl (dB x) 34 [v]=dB { x with vals:=v }:=by unfold dB;rw[pS1,pS1,pR1 (ai _)];simp only[Nat.reduceSub];all_goals rfl
def Clm.map(g:AV->AV)(x:Clm):Clm:={ x with vals:=g x.vals }
theorem Clm.map_mk(g:AV->AV)(src:Int)(tgt:Int)(root:Rt)(vals:AV):Clm.map g ⟨src,tgt,root,vals⟩=⟨src,tgt,root,g vals⟩:=rfl
def Clm.good(x:Clm):Bool:=x.vals.cell
theorem Clm.good_mk(src:Int)(tgt:Int)(root:Rt)(vals:AV):Clm.good ⟨src,tgt,root,vals⟩=(vals.cell):=rfl
def Clm.Pure(x:Clm):Prop:=Pu x.vals
theorem ua(x:Clm):bK (dB x)=x.good:=by simp[dB,Clm.good,adv,cz,dj,dk,AV.cell,el]
theorem iN(x:Clm):PuL (dB x)↔x.Pure:=by simp[dB,Clm.Pure,fy,PuL,Pu,dH]
theorem Gv(ρ:Nat->Nat)(x:Clm):dN ρ (dB x)=dB (x.map (ren ρ)):=by simp only[dB,Clm.map,kZ,dN,ren,sE]
theorem JQ(σ:St)(zs:List Nat)(x:Clm):fzL σ zs (dB x)=dB (x.map (fz σ zs)):=by simp only[dB,Clm.map,lV,fzL,fz,v8]
def WV:Clm:=⟨0,0,rt0,.sl 0 true []⟩
structure Slg where
 fst:Clm
 snd:Clm
 deriving Inhabited
def dU(x:Slg):List AV:=dB x.fst++(dB x.snd)
@[simp] theorem ed(x:Slg):(dU x).length=70:=by simp only[dU,List.length_cons,List.length_append,List.length_nil,iV]
theorem RQ(fst:Clm)(snd:Clm):dB fst++(dB snd)=dU ⟨fst,snd⟩:=rfl
theorem RS(x:Slg):cut (dU x) 0 70=dU x:=eo (ed x)
theorem Ik(x:Slg)(o n:Nat)(h1:0<=o)(h2:o+n<=35):cut (dU x) o n=cut (dB x.fst) (o-0) n:=by unfold dU;rw[cL1 (iV _)];all_goals rfl
theorem Im(x:Slg)(o:Nat)(vs:List AV)(h1:0<=o)(h2:o+vs.length<=35):spl (dU x) o vs=spl (dB x.fst) (o-0) vs++(dB x.snd):=by unfold dU;rw[pL1 (iV _)];all_goals rfl
theorem Il(x:Slg)(o n:Nat)(h1:35<=o)(h2:o+n<=70):cut (dU x) o n=cut (dB x.snd) (o-35) n:=by unfold dU;rw[cR1 (iV _)];all_goals rfl
theorem Io(x:Slg)(o:Nat)(vs:List AV)(h1:35<=o)(h2:o+vs.length<=70):spl (dU x) o vs=dB x.fst++(spl (dB x.snd) (o-35) vs):=by unfold dU;rw[pR1 (iV _)];all_goals rfl
def Slg.map(g:AV->AV)(x:Slg):Slg:={ x with fst:=x.fst.map g,snd:=x.snd.map g }
theorem Slg.map_mk(g:AV->AV)(fst:Clm)(snd:Clm):Slg.map g ⟨fst,snd⟩=⟨fst.map g,snd.map g⟩:=rfl
def Slg.good(x:Slg):Bool:=x.fst.good&&x.snd.good
theorem Slg.good_mk(fst:Clm)(snd:Clm):Slg.good ⟨fst,snd⟩=(fst.good&&snd.good):=rfl
def Slg.Pure(x:Slg):Prop:=x.fst.Pure/\x.snd.Pure
theorem ue(x:Slg):bK (dU x)=x.good:=by simp[dU,Slg.good,adv,cz,dj,dk,AV.cell,ua]
theorem ij(x:Slg):PuL (dU x)↔x.Pure:=by simp[dU,Slg.Pure,fy,PuL,Pu,iN]
theorem Gy(ρ:Nat->Nat)(x:Slg):dN ρ (dU x)=dU (x.map (ren ρ)):=by simp only[dU,Slg.map,kZ,dN,ren,Gv]
theorem JT(σ:St)(zs:List Nat)(x:Slg):fzL σ zs (dU x)=dU (x.map (fz σ zs)):=by simp only[dU,Slg.map,lV,fzL,fz,JQ]
def qL:Slg:=⟨WV,WV⟩
structure Tab where
 cp:Cp
 bals:AV
 deriving Inhabited
def bE(x:Tab):List AV:=cpC x.cp++[x.bals]
@[simp] theorem fc(x:Tab):(bE x).length=34:=by simp only[bE,List.length_cons,List.length_append,List.length_nil,aF]
theorem R8(cp:Cp)(bals:AV):cpC cp++[bals]=bE ⟨cp,bals⟩:=rfl
theorem R9(x:Tab):cut (bE x) 0 34=bE x:=eo (fc x)
theorem Ld(x:Tab)(o n:Nat)(h1:0<=o)(h2:o+n<=33):cut (bE x) o n=cut (cpC x.cp) (o-0) n:=by unfold bE;rw[cL1 (aF _)];all_goals rfl
theorem Le(x:Tab)(o:Nat)(vs:List AV)(h1:0<=o)(h2:o+vs.length<=33):spl (bE x) o vs=spl (cpC x.cp) (o-0) vs++[x.bals]:=by unfold bE;rw[pL1 (aF _)];all_goals rfl
theorem EY(x:Tab):cut (bE x) 33 1=[x.bals]:=by unfold bE;rw[cR1 (aF _)];simp only[Nat.reduceSub];all_goals rfl
theorem EZ(x:Tab)(v:AV):spl (bE x) 33 [v]=bE { x with bals:=v }:=by unfold bE;rw[pR1 (aF _)];simp only[Nat.reduceSub];all_goals rfl
def Tab.map(g:AV->AV)(x:Tab):Tab:={ x with bals:=g x.bals }
theorem Tab.map_mk(g:AV->AV)(cp:Cp)(bals:AV):Tab.map g ⟨cp,bals⟩=⟨cp,g bals⟩:=rfl
def Tab.good(x:Tab):Bool:=x.bals.cell
theorem Tab.good_mk(cp:Cp)(bals:AV):Tab.good ⟨cp,bals⟩=(bals.cell):=rfl
def Tab.Pure(x:Tab):Prop:=Pu x.bals
theorem uh(x:Tab):bK (bE x)=x.good:=by simp[bE,Tab.good,adv,cz,dj,dk,AV.cell,ja]
theorem gJ(x:Tab):PuL (bE x)↔x.Pure:=by simp[bE,Tab.Pure,fy,PuL,Pu,gG]
theorem GA(ρ:Nat->Nat)(x:Tab):dN ρ (bE x)=bE (x.map (ren ρ)):=by simp only[bE,Tab.map,kZ,dN,ren,xd]
theorem JV(σ:St)(zs:List Nat)(x:Tab):fzL σ zs (bE x)=bE (x.map (fz σ zs)):=by simp only[bE,Tab.map,lV,fzL,fz,Ac]
def ot:Tab:=⟨cp0,.sl 0 true []⟩
structure Vdt where
 tag:Int
 kind:Int
 latest:Rt
 deriving Inhabited,DecidableEq
def dZ(x:Vdt):List AV:=.int .u64 x.tag::(.int .i64 x.kind::(rtc x.latest))
@[simp] theorem gq(x:Vdt):(dZ x).length=34:=by simp only[dZ,List.length_cons,List.length_append,List.length_nil,ai]
theorem Sn(tag:Int)(kind:Int)(latest:Rt):.int .u64 tag::(.int .i64 kind::(rtc latest))=dZ ⟨tag,kind,latest⟩:=rfl
theorem So(x:Vdt):cut (dZ x) 0 34=dZ x:=eo (gq x)
theorem IT(x:Vdt):cut (dZ x) 0 1=[.int .u64 x.tag]:=by unfold dZ;all_goals rfl
theorem IU(x:Vdt)(v:Int):spl (dZ x) 0 [.int .u64 v]=dZ { x with tag:=v }:=by unfold dZ;all_goals rfl
theorem E3(x:Vdt):cut (dZ x) 1 1=[.int .i64 x.kind]:=by unfold dZ;rw[cS1];simp only[Nat.reduceSub];all_goals rfl
theorem E4(x:Vdt)(v:Int):spl (dZ x) 1 [.int .i64 v]=dZ { x with kind:=v }:=by unfold dZ;rw[pS1];simp only[Nat.reduceSub];all_goals rfl
theorem zT(x:Vdt)(o n:Nat)(h1:2<=o)(h2:o+n<=34):cut (dZ x) o n=cut (rtc x.latest) (o-2) n:=by unfold dZ;rw[cS1,cS1];rw[show o-1-1=o-2 by omega]
theorem zU(x:Vdt)(o:Nat)(vs:List AV)(h1:2<=o)(h2:o+vs.length<=34):spl (dZ x) o vs=.int .u64 x.tag::(.int .i64 x.kind::(spl (rtc x.latest) (o-2) vs)):=by unfold dZ;rw[pS1,pS1];rw[show o-1-1=o-2 by omega]
theorem ui(x:Vdt):bK (dZ x)=true:=by simp[dZ,cz,dj,dk,AV.cell,el]
theorem ma(x:Vdt):PuL (dZ x):=by simp[dZ,fy,PuL,Pu,dH]
theorem GB(ρ:Nat->Nat)(x:Vdt):dN ρ (dZ x)=dZ x:=(ma x).ren ρ
theorem JW(σ:St)(zs:List Nat)(x:Vdt):fzL σ zs (dZ x)=dZ x:=(ma x).fz σ zs
theorem Mv(x:Vdt):(dZ x).map eF=I0 [(34,1)]:=by simp only[dZ,acv,acu,acX,eF,lL];decide +kernel
theorem Qj(x:Vdt):iU [(34,1)] (dZ x)=true:=il (Mv x)
theorem Pp(x y:Vdt):iB (dZ x) (dZ y)=some (decide (x=y)):=by cases x;cases y;simp[dZ,me,iB,xF,ai,bj,kF,ado,Ah,adv,aeZ]
def jn:Vdt:=⟨0,0,rt0⟩
structure SOp where
 kind:Int
 blk:Blk
 att:Att
 slg:Slg
 tab:Tab
 vdt:Vdt
 write:Int
 keep:Int
 deriving Inhabited
def cG(x:SOp):List AV:=.int .i64 x.kind::(au x.blk++(cK x.att++(dU x.slg++(bE x.tab++(dZ x.vdt++(.int .i64 x.write::[.int .i64 x.keep]))))))
@[simp] theorem yX(x:SOp):(cG x).length=446:=by simp only[cG,List.length_cons,List.length_append,List.length_nil,dK,bP,ed,fc,gq]
theorem RD(kind:Int)(blk:Blk)(att:Att)(slg:Slg)(tab:Tab)(vdt:Vdt)(write:Int)(keep:Int):.int .i64 kind::(au blk++(cK att++(dU slg++(bE tab++(dZ vdt++(.int .i64 write::[.int .i64 keep]))))))=cG ⟨kind,blk,att,slg,tab,vdt,write,keep⟩:=rfl
theorem RE(x:SOp):cut (cG x) 0 446=cG x:=eo (yX x)
theorem EB(x:SOp):cut (cG x) 0 1=[.int .i64 x.kind]:=by unfold cG;all_goals rfl
theorem ED(x:SOp)(v:Int):spl (cG x) 0 [.int .i64 v]=cG { x with kind:=v }:=by unfold cG;all_goals rfl
theorem H7(x:SOp)(o n:Nat)(h1:1<=o)(h2:o+n<=239):cut (cG x) o n=cut (au x.blk) (o-1) n:=by unfold cG;rw[cS1,cL1 (bP _)];all_goals rfl
theorem Ic(x:SOp)(o:Nat)(vs:List AV)(h1:1<=o)(h2:o+vs.length<=239):spl (cG x) o vs=.int .i64 x.kind::(spl (au x.blk) (o-1) vs++(cK x.att++(dU x.slg++(bE x.tab++(dZ x.vdt++(.int .i64 x.write::[.int .i64 x.keep])))))):=by unfold cG;rw[pS1,pL1 (bP _)];all_goals rfl
theorem H6(x:SOp)(o n:Nat)(h1:239<=o)(h2:o+n<=306):cut (cG x) o n=cut (cK x.att) (o-239) n:=by unfold cG;rw[cS1,cR1 (bP _),cL1 (dK _)];rw[show o-1-238=o-239 by omega]
theorem Ib(x:SOp)(o:Nat)(vs:List AV)(h1:239<=o)(h2:o+vs.length<=306):spl (cG x) o vs=.int .i64 x.kind::(au x.blk++(spl (cK x.att) (o-239) vs++(dU x.slg++(bE x.tab++(dZ x.vdt++(.int .i64 x.write::[.int .i64 x.keep])))))):=by unfold cG;rw[pS1,pR1 (bP _),pL1 (dK _)];rw[show o-1-238=o-239 by omega]
theorem H8(x:SOp)(o n:Nat)(h1:306<=o)(h2:o+n<=376):cut (cG x) o n=cut (dU x.slg) (o-306) n:=by unfold cG;rw[cS1,cR1 (bP _)];rw[cR1 (dK _),cL1 (ed _)];rw[show o-1-238-67=o-306 by omega]
theorem Ie(x:SOp)(o:Nat)(vs:List AV)(h1:306<=o)(h2:o+vs.length<=376):spl (cG x) o vs=.int .i64 x.kind::(au x.blk++(cK x.att++(spl (dU x.slg) (o-306) vs++(bE x.tab++(dZ x.vdt++(.int .i64 x.write::[.int .i64 x.keep])))))):=by unfold cG;rw[pS1,pR1 (bP _)];rw[pR1 (dK _),pL1 (ed _)];rw[show o-1-238-67=o-306 by omega]
theorem H9(x:SOp)(o n:Nat)(h1:376<=o)(h2:o+n<=410):cut (cG x) o n=cut (bE x.tab) (o-376) n:=by unfold cG;rw[cS1,cR1 (bP _)];rw[cR1 (dK _),cR1 (ed _),cL1 (fc _)];rw[show o-1-238-67-70=o-376 by omega]
theorem If(x:SOp)(o:Nat)(vs:List AV)(h1:376<=o)(h2:o+vs.length<=410):spl (cG x) o vs=.int .i64 x.kind::(au x.blk++(cK x.att++(dU x.slg++(spl (bE x.tab) (o-376) vs++(dZ x.vdt++(.int .i64 x.write::[.int .i64 x.keep])))))):=by unfold cG;rw[pS1,pR1 (bP _)];rw[pR1 (dK _),pR1 (ed _),pL1 (fc _)];rw[show o-1-238-67-70=o-376 by omega]
theorem Ia(x:SOp)(o n:Nat)(h1:410<=o)(h2:o+n<=444):cut (cG x) o n=cut (dZ x.vdt) (o-410) n:=by unfold cG;rw[cS1,cR1 (bP _)];rw[cR1 (dK _),cR1 (ed _)];rw[cR1 (fc _),cL1 (gq _)];rw[show o-1-238-67-70-34=o-410 by omega]
theorem Ig(x:SOp)(o:Nat)(vs:List AV)(h1:410<=o)(h2:o+vs.length<=444):spl (cG x) o vs=.int .i64 x.kind::(au x.blk++(cK x.att++(dU x.slg++(bE x.tab++(spl (dZ x.vdt) (o-410) vs++(.int .i64 x.write::[.int .i64 x.keep])))))):=by unfold cG;rw[pS1,pR1 (bP _)];rw[pR1 (dK _),pR1 (ed _)];rw[pR1 (fc _),pL1 (gq _)];rw[show o-1-238-67-70-34=o-410 by omega]
theorem C5(x:SOp):cut (cG x) 444 1=[.int .i64 x.write]:=by unfold cG;rw[cS1,cR1 (bP _)];rw[cR1 (dK _),cR1 (ed _)];rw[cR1 (fc _),cR1 (gq _)];simp only[Nat.reduceSub];all_goals rfl
theorem C6(x:SOp)(v:Int):spl (cG x) 444 [.int .i64 v]=cG { x with write:=v }:=by unfold cG;rw[pS1,pR1 (bP _)];rw[pR1 (dK _),pR1 (ed _)];rw[pR1 (fc _),pR1 (gq _)];simp only[Nat.reduceSub];all_goals rfl
theorem EA(x:SOp):cut (cG x) 445 1=[.int .i64 x.keep]:=by unfold cG;rw[cS1,cR1 (bP _)];rw[cR1 (dK _),cR1 (ed _)];rw[cR1 (fc _),cR1 (gq _),cS1];simp only[Nat.reduceSub];all_goals rfl
theorem EC(x:SOp)(v:Int):spl (cG x) 445 [.int .i64 v]=cG { x with keep:=v }:=by unfold cG;rw[pS1,pR1 (bP _)];rw[pR1 (dK _),pR1 (ed _)];rw[pR1 (fc _),pR1 (gq _),pS1];simp only[Nat.reduceSub];all_goals rfl
def SOp.map(g:AV->AV)(x:SOp):SOp:={ x with att:=x.att.map g,slg:=x.slg.map g,tab:=x.tab.map g }
theorem SOp.map_mk(g:AV->AV)(kind:Int)(blk:Blk)(att:Att)(slg:Slg)(tab:Tab)(vdt:Vdt)(write:Int)(keep:Int):SOp.map g ⟨kind,blk,att,slg,tab,vdt,write,keep⟩=⟨kind,blk,att.map g,slg.map g,tab.map g,vdt,write,keep⟩:=rfl
def SOp.good(x:SOp):Bool:=x.att.good&&x.slg.good&&x.tab.good
theorem SOp.good_mk(kind:Int)(blk:Blk)(att:Att)(slg:Slg)(tab:Tab)(vdt:Vdt)(write:Int)(keep:Int):SOp.good ⟨kind,blk,att,slg,tab,vdt,write,keep⟩=(att.good&&slg.good&&tab.good):=rfl
def SOp.Pure(x:SOp):Prop:=x.att.Pure/\x.slg.Pure/\x.tab.Pure
theorem DF(x:SOp):bK (cG x)=x.good:=by simp[cG,SOp.good,adv,cz,dj,dk,AV.cell,tY,o6,ue,uh,ui]
theorem iO(x:SOp):PuL (cG x)↔x.Pure:=by simp[cG,SOp.Pure,fy,PuL,Pu,gI,gf,ij,gJ,ma]
theorem Rw(ρ:Nat->Nat)(x:SOp):dN ρ (cG x)=cG (x.map (ren ρ)):=by simp only[cG,SOp.map,kZ,dN,ren,Gt,Gu,Gy,GA,GB]
theorem TP(σ:St)(zs:List Nat)(x:SOp):fzL σ zs (cG x)=cG (x.map (fz σ zs)):=by simp only[cG,SOp.map,lV,fzL,fz,JN,JO,JT,JV,JW]
def aaZ:SOp:=⟨0,dx,qj,qL,ot,jn,0,0⟩
end Go.FH
namespace Go.FH
open Go Go.RowKit
theorem aby(P:Program)(nv:Nat)(vs:List AV)(ts:List (Nat×AV))(σ:St)(K:AV->St->Prop):type_of% (evO P ⟨nv,vs,ts⟩ σ K):=evO P ⟨nv,vs,ts⟩ σ K
theorem abz(P:Program)(nv:Nat)(vs:List AV)(ts:List (Nat×AV))(σ:St)(K:AV->St->Prop):type_of% (evM P ⟨nv,vs,ts⟩ σ K):=evM P ⟨nv,vs,ts⟩ σ K
theorem abA(P:Program)(nv:Nat)(vs:List AV)(ts:List (Nat×AV))(σ:St)(K:AV->St->Prop):type_of% (evA P ⟨nv,vs,ts⟩ σ K):=evA P ⟨nv,vs,ts⟩ σ K
theorem abB(P:Program)(nv:Nat)(vs:List AV)(ts:List (Nat×AV))(σ:St)(n:Nat)(K:AV->List Nat->List Nat->St->Prop):type_of% (aaE P σ n nv vs ts K):=aaE P σ n nv vs ts K
theorem abC(P:Program)(nv:Nat)(vs:List AV)(ts:List (Nat×AV))(σ:St)(K:AV->St->Prop):type_of% (aaF P σ K nv vs ts):=aaF P σ K nv vs ts
attribute [go_sem] abB abC abw abx
attribute [go_sem] aby abz abA evF evQ evR evL evD opF evH evK MK MI ZT ZS ZU LC UG mL tI AOp.allocs Cf yW List.length_set List.length_append List.length_cons List.length_nil List.map_cons List.map_nil List.set_cons_zero List.set_cons_succ List.getElem?_cons_zero List.getElem?_cons_succ List.getElem?_nil List.nil_append List.cons_append List.append_nil if_true if_false true_and and_true true_or or_true Bool.false_eq_true not_false_eq_true not_true_eq_false Int.toNat_natCast Bool.not_true Bool.not_false cond_true cond_false Int.natCast_nonneg forall_const false_implies implies_true Nat.sub_zero Nat.zero_add Nat.add_zero List.drop_zero decide_true decide_false nU qH JH tq YY YX YW aaA aaz Dc Y7 Y6 Y5 aa3 aa4 Vy Wq ai bj el qg sE KJ kF Ja JJ PS JK Tn aF Tm LZ L3 L0 L4 ja xd TB AM Re bX Rd Nm No Nl Nn ud Rv Ff PF bP PE Hd Hf DS DW DR DV ab6 zq xI xJ DP DT AS AT DQ DU Hc He zp zr o6 Gu Qd Fc Ps dK Pr DK DN DJ DM zm zn DL DO Att.map_mk Att.good_mk tY Gt PU iV PT Hp Hr Hq Hs DZ D4 D3 D5 Clm.map_mk Clm.good_mk ua Gv RS ed RQ Ik Im Il Io Slg.map_mk Slg.good_mk ue Gy R9 fc R8 Ld Le EY EZ Tab.map_mk Tab.good_mk uh GA So gq Sn IT IU E3 E4 zT zU ui GB Qj Pp RE yX RD EB ED H7 Ic H6 Ib H8 Ie H9 If Ia Ig C5 C6 EA EC SOp.map_mk SOp.good_mk DF Rw cp0 KE dx qj WV qL ot jn aaZ dk cz dj AV.cell List.all_cons List.all_nil Bool.and_true Bool.true_and List.replicate_succ List.replicate_zero beq_self_eq_true ne_eq dN ren rdS mV List.flatten_cons List.flatten_nil kJ WN S7 List.take_of_length_le Nat.le_refl oa rF List.isEmpty_nil List.isEmpty_cons List.filter_cons List.filter_nil decide_eq_true_eq bne_self_eq_false Bool.bne_false Bool.bne_true Option.isNone_some Option.isNone_none Bool.and_false Bool.false_and Bool.not_eq_true Bool.not_eq_false eq_self S9 Bool.true_eq_false forall_eq
attribute [go_sem] Nv KM KL yv Option.map_some
attribute [go_sem] v8 Oj Ac TN JO JN JQ JT JV JW TP pn gB gH aN kY rn jh lP fp fz fzL fzO nW gN fJ List.getD_cons_zero List.getD_cons_succ List.getD_nil List.take_zero List.take_succ_cons List.take_nil List.drop_succ_cons List.drop_nil List.getElem?_cons_zero List.getElem?_cons_succ List.getElem?_nil Option.map_none and_self List.mem_cons List.not_mem_nil or_false false_or or_self List.range_zero List.range_succ List.mem_append List.mem_singleton List.contains_eq_mem List.mem_range Nat.sub_self gm
structure Hid(q:Prop):Prop where
 out:q
theorem evd{p:Prop}(h:p:=by((try simp only[go_sem,Nat.reduceAdd,Nat.reduceSub,Nat.reduceMul,Nat.reduceLT,Nat.reduceLeDiff,Nat.reduceEqDiff,reduceIte,Int.reduceToNat,Int.reduceLT,Int.reduceLE,Int.reduceEq,Int.reduceNeg,reduceCtorEq,Int.reduceBEq,Int.reduceBNe]);try rfl)):p:=h
theorem evg{p q:Prop}(hq:q)(h:Hid q->p:=by(intro hq;(try simp only[go_sem,Nat.reduceAdd,Nat.reduceSub,Nat.reduceMul,Nat.reduceLT,Nat.reduceLeDiff,Nat.reduceEqDiff,reduceIte,Int.reduceToNat,Int.reduceLT,Int.reduceLE,Int.reduceEq,Int.reduceNeg,reduceCtorEq,Int.reduceBEq,Int.reduceBNe]);exact hq.out)):p:=h ⟨hq⟩
theorem aM{p q:Prop}(hq:q) (h:Hid q->p:=by
 (intro hq
  (first|with_reducible (first|refine fR ?_|refine iz ?_|refine fQ ?_|refine jF (by simp only[afG,afM]) ?_|refine jG ?_|refine i7 ?_|refine lY ?_|refine AE ?_|refine AD ?_)|(simp only[go_sem,Nat.reduceAdd,Nat.reduceSub,Nat.reduceMul,Nat.reduceLT,Nat.reduceLeDiff,Nat.reduceEqDiff,reduceIte,Int.reduceToNat,Int.reduceLT,Int.reduceLE,Int.reduceEq,Int.reduceNeg,reduceCtorEq,Int.reduceBEq,Int.reduceBNe])|with_reducible refine And.intro (lM af2) ?_|(with_reducible refine And.intro ?_ ?_;first|omega|decide|(simp;done)|(simp;omega)))
  repeat(first|with_reducible (first|refine fR ?_|refine iz ?_|refine fQ ?_|refine jF (by simp only[afG,afM]) ?_|refine jG ?_|refine i7 ?_|refine lY ?_|refine AE ?_|refine AD ?_)|(simp only[go_sem,Nat.reduceAdd,Nat.reduceSub,Nat.reduceMul,Nat.reduceLT,Nat.reduceLeDiff,Nat.reduceEqDiff,reduceIte,Int.reduceToNat,Int.reduceLT,Int.reduceLE,Int.reduceEq,Int.reduceNeg,reduceCtorEq,Int.reduceBEq,Int.reduceBNe])|with_reducible refine And.intro (lM af2) ?_|(with_reducible refine And.intro ?_ ?_;first|omega|decide|(simp;done)|(simp;omega)))
  exact hq.out)):p:=h ⟨hq⟩
theorem zg{p q:Prop}(hq:q) (h:Hid q->p:=by
 (intro hq
  repeat(first|(simp only[go_sem,Nat.reduceAdd,Nat.reduceSub,Nat.reduceMul,Nat.reduceLT,Nat.reduceLeDiff,Nat.reduceEqDiff,reduceIte,Int.reduceToNat,Int.reduceLT,Int.reduceLE,Int.reduceEq,Int.reduceNeg,reduceCtorEq,Int.reduceBEq,Int.reduceBNe])|with_reducible refine And.intro (lM af2) ?_|(with_reducible refine And.intro ?_ ?_;first|omega|decide|(simp;done)|(simp;omega)))
  exact hq.out)):p:=h ⟨hq⟩
section
variable{P:Program}{nt k:Nat}{fr:Fr}{σ:St}{c:Opd}{x y:am}{Q:Ex->Fr->St->Prop}
theorem aq(h:Tri P nt k x Q fr σ)(hb:c.ev fr=.bool true:=by((try simp only[go_sem,Nat.reduceAdd,Nat.reduceSub,Nat.reduceMul,Nat.reduceLT,Nat.reduceLeDiff,Nat.reduceEqDiff,reduceIte,Int.reduceToNat,Int.reduceLT,Int.reduceLE,Int.reduceEq,Int.reduceNeg,reduceCtorEq,Int.reduceBEq,Int.reduceBNe]);try rfl)):Tri P nt k (.cond c x y) Q fr σ:=bM hb (fun _=>h) (fun h=>by cases h)
theorem aI(h:Tri P nt k y Q fr σ)(hb:c.ev fr=.bool false:=by((try simp only[go_sem,Nat.reduceAdd,Nat.reduceSub,Nat.reduceMul,Nat.reduceLT,Nat.reduceLeDiff,Nat.reduceEqDiff,reduceIte,Int.reduceToNat,Int.reduceLT,Int.reduceLE,Int.reduceEq,Int.reduceNeg,reduceCtorEq,Int.reduceBEq,Int.reduceBNe]);try rfl)):Tri P nt k (.cond c x y) Q fr σ:=bM hb (fun h=>by cases h) (fun _=>h)
end
end Go.FH
namespace Go.FH
open Go Go.RowKit
theorem evP:
 (∀n σ K,mM n σ K .mkm []=K (.mp n) [n] true (σ.set n (.map [])))/\
 (∀n σ K kk z ok id k,mM n σ K (.lkp kk z ok) [.mp id,k]=(pP kk k=true/\match σ[id]? with
  | some (.map es) => (match ko kk k es with
    |some (some j)=>K (if ok then .tup [(es.getD j []).getD 1 .dead,.bool true]else (es.getD j []).getD 1 .dead) [id] false σ
    |some none=>K (if ok then .tup [z,.bool false]else z) [id] false σ
    |none=>False)
  |_=>False))/\
 (∀n σ K kk id k v,mM n σ K (.upd kk) [.mp id,k,v]=(pP kk k=true/\match σ[id]? with
  | some (.map es) => (match ko kk k es with
    |some (some j)=>K (.tup []) [id] true (σ.set id (.map (es.set j [k,v])))
    |some none=>K (.tup []) [id] true (σ.set id (.map (es++[[k,v]])))
    |none=>False)
  |_=>False))/\
 (∀n σ K id,mM n σ K .rng [.mp id]=(match σ[id]? with
  |some (.map es)=>K (.ptr n 0) [n,id] true (σ.set n (.iter id es.length []))
  |_=>False))/\
 (∀n σ K id,mM n σ K .ent [.ptr id 0]=(match σ[id]? with
  | some (.iter m N seen) => (match seen.getLast?, σ[m]? with
    |some i,some (.map es)=>es.length=N/\i<N/\K (.tup (es.getD i [])) [id,m] false σ
    |_,_=>False)
  |_=>False))/\
 (∀id σ K,qF (.ptr id 0) σ K=(match σ[id]? with
  | some (.iter m N seen) => (match σ[m]? with
    |some (.map es)=>id≠m/\es.length=N/\(∀i,i<N->i∉seen->K (.tup (.bool true::es.getD i [])) (σ.set id (.iter m N (seen++[i]))))/\((∀i,i<N->i∈seen)->K (.tup [.bool false]) σ)
    |_=>False)
  |_=>False))/\
 (∀k n,pP none (.int k n)=true)/\(∀n cs,pP (some n) (.agg cs)=iU [(n,1)] cs)/\
 (∀id,AV.cellsOf (.mp id)=[.mp id])/\(∀σ zs id,fz σ zs (.mp id)=.mp id)/\(∀ρ id,ren ρ (.mp id)=.mp (ρ id)):=
 ⟨fun _ _ _=>rfl,fun _ _ _ _ _ _ _ _=>rfl,fun _ _ _ _ _ _ _=>rfl,fun _ _ _ _=>rfl,fun _ _ _ _=>rfl,fun _ _ _=>rfl,fun _ _=>rfl,fun _ _=>rfl,fun _=>rfl,fun _ _ _=>rfl,fun _ _=>rfl⟩
attribute [go_sem] evP List.getLast?_concat List.getLast?_singleton
def mns(k:IntKind)(m:List (Int×Bool)):List (List AV):=m.map fun p=>[.int k p.1,.bool p.2]
theorem MD(k:IntKind)(m:List (Int×Bool)):(mns k m).length=m.length:=by simp[mns]
theorem sq(k:IntKind)(x:Int):∀m:List (Int×Bool),ko none (.int k x) (mns k m)=some (m.findIdx? fun p=>p.1==x)
 | []=>rfl
 | (a, b) :: m => by
   have d:=sq k x m;simp only[mns,acv,ko,pP,aco,keq]at d ⊢;grind
theorem Xt(k:IntKind)(m:List (Int×Bool))(j:Nat)(x:Int)(b:Bool):(mns k m).set j [.int k x,.bool b]=mns k (m.set j (x,b)):=by simp[mns]
theorem UK(k:IntKind)(m:List (Int×Bool))(x:Int)(b:Bool):mns k m++[[.int k x,.bool b]]=mns k (m++[(x,b)]):=by simp[mns]
theorem wq(k:IntKind)(m:List (Int×Bool))(j:Nat)(h:j<m.length):(mns k m).getD j []=[.int k m[j].1,.bool m[j].2]:=by simp[mns,afy,h]
theorem AH(k:IntKind)(m:List (Int×Bool)):fU (mns k m):=by
 rw[nK];intro x b;obtain⟨p,_,rfl⟩:=acz.1 b;exact⟨trivial,trivial,trivial⟩
theorem Gs(ρ:Nat->Nat)(k:IntKind)(m:List (Int×Bool)):dm ρ (mns k m)=mns k m:=(AH k m).ren ρ
theorem JM(σ:St)(zs:List Nat)(k:IntKind)(m:List (Int×Bool)):gm σ zs (mns k m)=mns k m:=(AH k m).fz σ zs
attribute [go_sem] MD Gs JM sq Xt UK
end Go.FH
namespace Go.FH
open Go Go.RowKit
section
variable{P:Program}{C:Cx}{nt k:Nat}{fr:Fr}{σ:St}{loc:Nat->Option Loc}{a:Act}{w:World}
theorem SR.own(h:SR C nt k fr σ loc a w)(e:Nat):SR C nt k fr (σ++[.vec e []]) (iY loc σ.length ⟨false,0,0,0⟩) a w:=by
 have l:loc σ.length=none:=h.rel.beyond _ (afE _);have d:=h.pad 1;obtain⟨j,i⟩:=d.rel.add (n:=σ.length) af1 l (.vec e []) ⟨false,0,0,0⟩ w (Ev.refl _ _) (σ++List.replicate 1 .gone) (fun _ _ h _=>h) rfl (fun id o' y _ _ _ _=>⟨(fun h=>af3),rfl⟩) (fun h=>af3) (fun E _ _=>.inl ⟨rfl,rfl⟩);have r:(σ++List.replicate 1 bZ.gone).set σ.length (.vec e [])=σ++[.vec e []]:=Aq σ _;rw[r]at j i;have g:=mm (X:=C.X) d.rel (fI l _) (Ev.refl _ _) i;refine⟨j,fun t=>Rl.mono g _ _ (d.frm t),h.size,h.dfr,h.ev,fun b u=>(i b u).elim (d.old b) fun v=>.inr (acn (h.ev.size) v),fun id f=>?_,by simp;have:=h.klen;omega⟩;rw[eH _ _ _ (by have:=h.klen;omega)];exact h.pre id f
theorem Vb{E:Env}{e e0 id:Nat}{v:Value}(g:E.loc id=some ⟨false,0,0,0⟩)(h:Rl E (.sl e0 true []) v):Rl E (.hs e id 0 0) v:=by
 obtain⟨ad,n,b,i,m,q,f,d,o,p⟩:=h;have j:n=0:=af0
 have k:b=n:=d rfl;subst j;subst k;exact⟨ad,0,_,i,afE _,f,fun _=>rfl,g,.inl ⟨rfl,fun h=>af1⟩⟩
theorem dT{c:am}{Q:Ex->Fr->St->Prop}(t e:Nat){e0:Nat}(hq:Tri P nt k c Q (fr.put t (.hs e σ.length 0 0)) (σ++[.vec e []]))(h0:fr.get t=.sl e0 true []:=by first|rfl|(simp only[go_sem];rfl)):Tri P nt k c Q fr σ:=by
 intro fx code hc C loc a w hs;have h1:=hs.own e;refine hq fx code hc C _ a w (h1.putSame t _ (Vb (e0:=e0) (dY _ _ _) ?_));have:=h1.frm t;rwa [h0]at this
theorem N4{E:Env}{c:AV}:∀ {cs:List AV} {vs:List Value} (i:Nat),RlC E cs vs->c.cell=true->(∀v,Rl E (cs.getD i .dead) v->Rl E c v)->RlC E (cs.set i c) vs
 | [],_,_,h,_,_=>by grind
 | x :: cs, _, 0, h, d, b => by
   obtain⟨u,e,rfl,k,l,f⟩:=h;exact⟨u,e,rfl,d,b u af3,f⟩
 | x :: cs, _, i + 1, h, d, b => by
   obtain⟨u,e,rfl,k,l,f⟩:=h;exact⟨u,e,rfl,k,l,N4 i f d (fun v m=>b v af3)⟩
theorem ou{c:am}{Q:Ex->Fr->St->Prop}(id i e:Nat){e0:Nat}{cs:List AV}(hq:Tri P nt k c Q fr (σ.set id (.var (cs.set i (.hs e σ.length 0 0)))++[.vec e []]))(ho:σ[id]?=some (.var cs):=by first|rfl|(simp only[go_sem];rfl))(h0:cs.getD i .dead=.sl e0 true []:=by first|rfl|(simp only[go_sem];rfl)):Tri P nt k c Q fr σ:=by
 intro fx code hc C loc a w hs;have h1:=hs.own e;have hid:id<σ.length:=(afO.1 ho).1;have ho2:(σ++[bZ.vec e []])[id]?=some (.var cs):=by rw[afU hid];exact ho
 have hset:(σ++[bZ.vec e []]).set id (.var (cs.set i (.hs e σ.length 0 0)))=σ.set id (.var (cs.set i (.hs e σ.length 0 0)))++[.vec e []]:=List.set_append_left _ _ hid;refine hq fx code hc C (iY loc σ.length ⟨false,0,0,0⟩) a w ?_;rw[<-hset]
 have hl:∀b,aV ((σ++[bZ.vec e []]).set id (.var (cs.set i (.hs e σ.length 0 0)))) (iY loc σ.length ⟨false,0,0,0⟩) b↔aV (σ++[bZ.vec e []]) (iY loc σ.length ⟨false,0,0,0⟩) b:=by
  intro b;constructor
  ·rintro⟨j,oj,L,g1,g2,g3,g4⟩;rcases fD _ id j _ g1 with⟨rfl,rfl,_⟩|⟨g5,g6⟩
   ·exact⟨_,_,L,ho2,rfl,g3,g4⟩
   ·exact⟨j,oj,L,g6,g2,g3,g4⟩
  ·rintro⟨j,oj,L,g1,g2,g3,g4⟩
   by_cases hj:j=id
   ·subst hj;refine⟨j,.var (cs.set i (.hs e σ.length 0 0)),L,?_,rfl,g3,g4⟩;rw[List.getElem?_set_self (afO.1 g1).1]
   ·exact⟨j,oj,L,by rw[aet (afv hj)];exact g1,g2,g3,g4⟩
 have hF:im C.X ((σ++[bZ.vec e []]).set id (.var (cs.set i (.hs e σ.length 0 0)))) (iY loc σ.length ⟨false,0,0,0⟩)=im C.X (σ++[bZ.vec e []]) (iY loc σ.length ⟨false,0,0,0⟩):=by
  funext b;unfold im;rw[hl b]
 have hget:∀ (j:Nat) (o:bZ),((σ++[bZ.vec e []]).set id (.var (cs.set i (.hs e σ.length 0 0))))[j]?=some o->o.live=true->∃o',(σ++[bZ.vec e []])[j]?=some o'/\o'.live=true:=by
  intro j o g1 g2;rcases fD _ id j _ g1 with⟨rfl,rfl,_⟩|⟨g5,g6⟩
  ·exact⟨_,ho2,rfl⟩
  ·exact⟨o,g6,g2⟩
 refine⟨⟨fun j o g1 g2=>?_,fun i' j x y La Lb hij g1 g2 g3 g4=>?_,fun b hb=>?_,fun j hj=>h1.rel.beyond j (by simpa using hj)⟩,fun t=>?_,h1.size,h1.dfr,h1.ev,fun b hb=>h1.old b ((hl b).1 hb),h1.pre,by simp;have:=hs.klen;omega⟩
 ·show ∃L,_/\iA ⟨_,im C.X _ _,w⟩ L o
  rw[hF];rcases fD _ id j _ g1 with⟨rfl,rfl,_⟩|⟨g5,g6⟩
  ·obtain⟨L,m1,m2,m3,vs,t,m4,m5⟩:=h1.rel.obj _ _ ho2 rfl;exact⟨L,m1,m2,m3,vs,t,m4,N4 i m5 rfl fun v hv=>Vb (e0:=e0) (dY _ _ _) (by rwa [h0]at hv)⟩
  ·exact h1.rel.obj j o g6 g2
 ·obtain⟨x',k1,k2⟩:=hget i' x g1 g3;obtain⟨y',k3,k4⟩:=hget j y g2 g4;exact h1.rel.apart i' j x' y' La Lb hij k1 k3 k2 k4
 ·rw[hl b];exact h1.rel.out b hb
 ·show Rl ⟨_,im C.X _ _,w⟩ _ _
  rw[hF];exact h1.frm t
theorem PC.weak{f:FuncId}{args:List AV}{r r':AV}(h:PC P f args r)(hw:Wk r r')(hr:Pu r'):PC P f args r':=
 ⟨⟨h.call.1,h.call.2.1,fun X loc w vs hrel hv=>(h.call.2.2 X loc w vs hrel hv).mono fun e w' ⟨v,loc',h1,h2,h3⟩=>⟨v,loc',h1,⟨h2.locs,h2.rel,hw _ _ h2.val,h2.ev,h2.old⟩,h3⟩⟩,h.pa,hr⟩
def fq(us:List (Nat×AV))(vs:List AV):List AV:=us.foldl (fun l p=>l.set p.1 p.2) vs
theorem aE{ι:Type}{x:am}{Q:Ex->Fr->St->Prop}{nv:Nat}{vs:List AV}{ts:List (Nat×AV)}(us:ι->List (Nat×AV))(S:ι->St)(μ:ι->Nat)(ok:ι->Prop)(x0:ι)(h0:ok x0)(hgc:GC k ⟨nv,vs,ts⟩ σ ⟨nv,fq (us x0) vs,[]⟩ (S x0))
 (round:∀i,ok i->Tri P nt k x (fK (fun fr σ=>∃j,ok j/\μ j<μ i/\GC k fr σ ⟨nv,fq (us j) vs,[]⟩ (S j)) Q) ⟨nv,fq (us i) vs,[]⟩ (S i)):Tri P nt k (.loop x) Q ⟨nv,vs,ts⟩ σ:=
 eR (fun i=>⟨nv,fq (us i) vs,[]⟩) S μ ok x0 h0 hgc round
theorem dE(vs:List AV):fq [] vs=vs:=rfl
theorem dS(p:Nat×AV)(us:List (Nat×AV))(vs:List AV):fq (p::us) vs=fq us (vs.set p.1 p.2):=rfl
attribute [go_sem] dE dS
theorem eQ{c:Opd}{x y:am}{Q:Ex->Fr->St->Prop}{t:Bool}(h1:t=true->Tri P nt k x Q fr σ)(h2:t=false->Tri P nt k y Q fr σ)(hb:c.ev fr=.bool t:=by first|rfl|(simp only[go_sem];rfl)):Tri P nt k (.cond c x y) Q fr σ:=bM hb h1 h2
end
theorem Ec{a b c:List AV}(f:a.length=33)(g:b.length=33):cut (a++(b++c)) 0 66=a++b:=by
 unfold cut;rw[aeP,<-afZ,show 66=(a++b).length by grind,ae7]
theorem EE{a b c x y:List AV}(e:a.length+b.length=x.length+y.length):spl (a++(b++c)) 0 (x++y)=x++(y++c):=by
 unfold spl;grind
structure Lim where
 node:Int
 orph:Int
 early:Int
 table:Int
 retry:Int
 backoff:Int
 deriving Inhabited,DecidableEq
def gr(x:Lim):List AV:=.int .i64 x.node::(.int .i64 x.orph::(.int .i64 x.early::(.int .i64 x.table::(.int .i64 x.retry::[.int .u64 x.backoff]))))
@[simp] theorem dX(x:Lim):(gr x).length=6:=by simp only[gr,List.length_cons,List.length_nil]
theorem QB(node:Int)(orph:Int)(early:Int)(table:Int)(retry:Int)(backoff:Int):.int .i64 node::(.int .i64 orph::(.int .i64 early::(.int .i64 table::(.int .i64 retry::[.int .u64 backoff]))))=gr ⟨node,orph,early,table,retry,backoff⟩:=rfl
theorem Et(x:Lim):cut (gr x) 0 1=[.int .i64 x.node]:=by all_goals rfl
theorem Ew(x:Lim)(v:Int):spl (gr x) 0 [.int .i64 v]=gr { x with node:=v }:=by all_goals rfl
theorem Eu(x:Lim):cut (gr x) 1 1=[.int .i64 x.orph]:=by all_goals rfl
theorem Ey(x:Lim)(v:Int):spl (gr x) 1 [.int .i64 v]=gr { x with orph:=v }:=by all_goals rfl
theorem Cg(x:Lim):cut (gr x) 2 1=[.int .i64 x.early]:=by all_goals rfl
theorem Cj(x:Lim)(v:Int):spl (gr x) 2 [.int .i64 v]=gr { x with early:=v }:=by all_goals rfl
theorem Ci(x:Lim):cut (gr x) 3 1=[.int .i64 x.table]:=by all_goals rfl
theorem Cl(x:Lim)(v:Int):spl (gr x) 3 [.int .i64 v]=gr { x with table:=v }:=by all_goals rfl
theorem Ch(x:Lim):cut (gr x) 4 1=[.int .i64 x.retry]:=by all_goals rfl
theorem Ck(x:Lim)(v:Int):spl (gr x) 4 [.int .i64 v]=gr { x with retry:=v }:=by all_goals rfl
theorem yc(x:Lim):cut (gr x) 5 1=[.int .u64 x.backoff]:=by all_goals rfl
theorem yd(x:Lim)(v:Int):spl (gr x) 5 [.int .u64 v]=gr { x with backoff:=v }:=by all_goals rfl
theorem uc(x:Lim):bK (gr x)=true:=by simp[gr,cz,dk,AV.cell]
theorem kv(x:Lim):PuL (gr x):=by simp[gr,PuL,Pu]
theorem yr(ρ:Nat->Nat)(x:Lim):dN ρ (gr x)=gr x:=(kv x).ren ρ
theorem JS(σ:St)(zs:List Nat)(x:Lim):fzL σ zs (gr x)=gr x:=(kv x).fz σ zs
def Xl:Lim:=⟨0,0,0,0,0,0⟩
structure Cfg where
 lim:Lim
 spe:Int
 boost:Int
 ttd:Wd
 gen:Rt
 bals:AV
 deriving Inhabited
def cV(x:Cfg):List AV:=gr x.lim++(.int .u64 x.spe::(.int .u64 x.boost::(wdc x.ttd++(rtc x.gen++[x.bals]))))
@[simp] theorem bh(x:Cfg):(cV x).length=45:=by simp only[cV,List.length_cons,List.length_append,List.length_nil,dX,ai,bj]
theorem PM(lim:Lim)(spe:Int)(boost:Int)(ttd:Wd)(gen:Rt)(bals:AV):gr lim++(.int .u64 spe::(.int .u64 boost::(wdc ttd++(rtc gen++[bals]))))=cV ⟨lim,spe,boost,ttd,gen,bals⟩:=rfl
theorem PN(x:Cfg):cut (cV x) 0 45=cV x:=eo (bh x)
theorem Hi(x:Cfg)(o n:Nat)(c:0<=o)(b:o+n<=6):cut (cV x) o n=cut (gr x.lim) (o-0) n:=by unfold cV;rw[cL1 (dX _)];simp
theorem Hm(x:Cfg)(o:Nat)(vs:List AV)(d:0<=o)(e:o+vs.length<=6):spl (cV x) o vs=spl (gr x.lim) (o-0) vs++(.int .u64 x.spe::(.int .u64 x.boost::(wdc x.ttd++(rtc x.gen++[x.bals])))):=by unfold cV;rw[pL1 (dX _)];simp
theorem Hj(x:Cfg):cut (cV x) 6 1=[.int .u64 x.spe]:=by all_goals rfl
theorem Hn(x:Cfg)(v:Int):spl (cV x) 6 [.int .u64 v]=cV { x with spe:=v }:=by all_goals rfl
theorem AZ(x:Cfg):cut (cV x) 7 1=[.int .u64 x.boost]:=by all_goals rfl
theorem Bq(x:Cfg)(v:Int):spl (cV x) 7 [.int .u64 v]=cV { x with boost:=v }:=by all_goals rfl
theorem Hk(x:Cfg)(o n:Nat)(c:8<=o)(b:o+n<=12):cut (cV x) o n=cut (wdc x.ttd) (o-8) n:=by unfold cV;rw[cR1 (dX _),cS1];rw[cS1,cL1 (bj _)];grind
theorem Ho(x:Cfg)(o:Nat)(vs:List AV)(d:8<=o)(e:o+vs.length<=12):spl (cV x) o vs=gr x.lim++(.int .u64 x.spe::(.int .u64 x.boost::(spl (wdc x.ttd) (o-8) vs++(rtc x.gen++[x.bals])))):=by unfold cV;rw[pR1 (dX _),pS1];rw[pS1,pL1 (bj _)];grind
theorem Hh(x:Cfg)(o n:Nat)(c:12<=o)(b:o+n<=44):cut (cV x) o n=cut (rtc x.gen) (o-12) n:=by unfold cV;rw[cR1 (dX _),cS1];rw[cS1,cR1 (bj _),cL1 (ai _)];grind
theorem Hl(x:Cfg)(o:Nat)(vs:List AV)(d:12<=o)(e:o+vs.length<=44):spl (cV x) o vs=gr x.lim++(.int .u64 x.spe::(.int .u64 x.boost::(wdc x.ttd++(spl (rtc x.gen) (o-12) vs++[x.bals])))):=by unfold cV;rw[pR1 (dX _),pS1];rw[pS1,pR1 (bj _),pL1 (ai _)];grind
theorem DX(x:Cfg):cut (cV x) 44 1=[x.bals]:=by unfold cV;rw[cR1 (dX _),cS1];rw[cS1,cR1 (bj _),cR1 (ai _)];all_goals rfl
theorem DY(x:Cfg)(v:AV):spl (cV x) 44 [v]=cV { x with bals:=v }:=by unfold cV;rw[pR1 (dX _),pS1];rw[pS1,pR1 (bj _),pR1 (ai _)];all_goals rfl
def Cfg.map(g:AV->AV)(x:Cfg):Cfg:={ x with bals:=g x.bals }
theorem Cfg.map_mk(g:AV->AV)(lim:Lim)(spe:Int)(boost:Int)(ttd:Wd)(gen:Rt)(bals:AV):Cfg.map g ⟨lim,spe,boost,ttd,gen,bals⟩=⟨lim,spe,boost,ttd,gen,g bals⟩:=rfl
def Cfg.good(x:Cfg):Bool:=x.bals.cell
theorem Cfg.good_mk(lim:Lim)(spe:Int)(boost:Int)(ttd:Wd)(gen:Rt)(bals:AV):Cfg.good ⟨lim,spe,boost,ttd,gen,bals⟩=(bals.cell):=rfl
def Cfg.Pure(x:Cfg):Prop:=Pu x.bals
theorem tZ(x:Cfg):bK (cV x)=x.good:=by simp[cV,Cfg.good,cz,dj,dk,AV.cell,uc,el,qg]
theorem I5(x:Cfg):PuL (cV x)↔x.Pure:=by simp[cV,Cfg.Pure,fy,PuL,Pu,kv,dH,jK]
theorem yp(ρ:Nat->Nat)(x:Cfg):dN ρ (cV x)=cV (x.map (ren ρ)):=by simp only[cV,Cfg.map,kZ,dN,ren,yr,sE,KJ]
theorem JP(σ:St)(b:List Nat)(x:Cfg):fzL σ b (cV x)=cV (x.map (fz σ b)):=by simp only[cV,Cfg.map,lV,fzL,fz,JS,v8,Oj]
def rl:Cfg:=⟨Xl,0,0,wd0,rt0,.sl 0 true []⟩
structure Vot where
 has:Bool
 ep:Int
 root:Rt
 deriving Inhabited,DecidableEq
def bJ(x:Vot):List AV:=.bool x.has::(.int .u64 x.ep::(rtc x.root))
@[simp] theorem sk(x:Vot):(bJ x).length=34:=by simp only[bJ,List.length_cons,ai]
theorem Sq(has:Bool)(ep:Int)(root:Rt):.bool has::(.int .u64 ep::(rtc root))=bJ ⟨has,ep,root⟩:=rfl
theorem Sr(x:Vot):cut (bJ x) 0 34=bJ x:=eo (sk x)
theorem IW(x:Vot):cut (bJ x) 0 1=[.bool x.has]:=by all_goals rfl
theorem IX(x:Vot)(v:Bool):spl (bJ x) 0 [.bool v]=bJ { x with has:=v }:=by all_goals rfl
theorem Lr(x:Vot):cut (bJ x) 1 1=[.int .u64 x.ep]:=by all_goals rfl
theorem Ls(x:Vot)(v:Int):spl (bJ x) 1 [.int .u64 v]=bJ { x with ep:=v }:=by all_goals rfl
theorem E6(x:Vot)(o n:Nat)(c:2<=o)(b:o+n<=34):cut (bJ x) o n=cut (rtc x.root) (o-2) n:=by unfold bJ;rw[cS1,cS1];grind
theorem E7(x:Vot)(o:Nat)(vs:List AV)(d:2<=o)(e:o+vs.length<=34):spl (bJ x) o vs=.bool x.has::(.int .u64 x.ep::(spl (rtc x.root) (o-2) vs)):=by unfold bJ;rw[pS1,pS1];grind
theorem DH(x:Vot):bK (bJ x)=true:=by simp[bJ,cz,AV.cell,el]
theorem mb(x:Vot):PuL (bJ x):=by simp[bJ,PuL,Pu,dH]
theorem GD(ρ:Nat->Nat)(x:Vot):dN ρ (bJ x)=bJ x:=(mb x).ren ρ
theorem TR(σ:St)(zs:List Nat)(x:Vot):fzL σ zs (bJ x)=bJ x:=(mb x).fz σ zs
theorem Mw(x:Vot):(bJ x).map eF=I0 [(1,0),(33,1)]:=by simp only[bJ,acv,eF,lL];decide +kernel
theorem Qk(x:Vot):iU [(1,0),(33,1)] (bJ x)=true:=il (Mw x)
theorem Pq(x y:Vot):iB (bJ x) (bJ y)=some (decide (x=y)):=by cases x;cases y;simp[bJ,iB,xF,kF,ado]
def eY:Vot:=⟨false,0,rt0⟩
structure Nod where
 blk:Blk
 up:Int
 status:Int
 deriving Inhabited,DecidableEq
def aT(x:Nod):List AV:=au x.blk++(.int .i64 x.up::[.int .i64 x.status])
@[simp] theorem si(x:Nod):(aT x).length=240:=by simp only[aT,List.length_cons,List.length_append,List.length_nil,bP]
theorem QJ(blk:Blk)(up:Int)(status:Int):au blk++(.int .i64 up::[.int .i64 status])=aT ⟨blk,up,status⟩:=rfl
theorem QK(x:Nod):cut (aT x) 0 240=aT x:=eo (si x)
theorem HS(x:Nod)(o n:Nat)(c:0<=o)(b:o+n<=238):cut (aT x) o n=cut (au x.blk) (o-0) n:=by unfold aT;rw[cL1 (bP _)];simp
theorem HT(x:Nod)(o:Nat)(vs:List AV)(d:0<=o)(e:o+vs.length<=238):spl (aT x) o vs=spl (au x.blk) (o-0) vs++(.int .i64 x.up::[.int .i64 x.status]):=by unfold aT;rw[pL1 (bP _)];simp
theorem Kc(x:Nod):cut (aT x) 238 1=[.int .i64 x.up]:=by unfold aT;rw[cR1 (bP _)];all_goals rfl
theorem Kd(x:Nod)(v:Int):spl (aT x) 238 [.int .i64 v]=aT { x with up:=v }:=by unfold aT;rw[pR1 (bP _)];all_goals rfl
theorem zH(x:Nod):cut (aT x) 239 1=[.int .i64 x.status]:=by unfold aT;rw[cR1 (bP _),cS1];all_goals rfl
theorem zI(x:Nod)(v:Int):spl (aT x) 239 [.int .i64 v]=aT { x with status:=v }:=by unfold aT;rw[pR1 (bP _),pS1];all_goals rfl
theorem DD(x:Nod):bK (aT x)=true:=by simp[aT,cz,dj,dk,AV.cell,o6]
theorem lZ(x:Nod):PuL (aT x):=by simp[aT,fy,PuL,Pu,gf]
theorem Gw(ρ:Nat->Nat)(x:Nod):dN ρ (aT x)=aT x:=(lZ x).ren ρ
theorem TM(σ:St)(zs:List Nat)(x:Nod):fzL σ zs (aT x)=aT x:=(lZ x).fz σ zs
def kr:Nod:=⟨dx,0,0⟩
structure Sto where
 cfg:Cfg
 latest:AV
 eqv:AV
 j:Cp
 f:Cp
 early:AV
 orph:AV
 nodes:AV
 now:Int
 boost:Rt
 tabs:AV
 deriving Inhabited
def ak(x:Sto):List AV:=cV x.cfg++(x.latest::(x.eqv::(cpC x.j++(cpC x.f++(x.early::(x.orph::(x.nodes::(.int .u64 x.now::(rtc x.boost++[x.tabs])))))))))
@[simp] theorem cn(x:Sto):(ak x).length=150:=by simp only[ak,List.length_cons,List.length_append,List.length_nil,bh,aF,ai]
theorem Bo(cfg:Cfg)(latest:AV)(eqv:AV)(j:Cp)(f:Cp)(early:AV)(orph:AV)(nodes:AV)(now:Int)(boost:Rt)(tabs:AV):cV cfg++(latest::(eqv::(cpC j++(cpC f++(early::(orph::(nodes::(.int .u64 now::(rtc boost++[tabs])))))))))=ak ⟨cfg,latest,eqv,j,f,early,orph,nodes,now,boost,tabs⟩:=rfl
theorem R3(x:Sto):cut (ak x) 0 150=ak x:=eo (cn x)
theorem IB(x:Sto)(o n:Nat)(c:0<=o)(b:o+n<=45):cut (ak x) o n=cut (cV x.cfg) (o-0) n:=by unfold ak;rw[cL1 (bh _)];simp
theorem IF(x:Sto)(o:Nat)(vs:List AV)(d:0<=o)(e:o+vs.length<=45):spl (ak x) o vs=spl (cV x.cfg) (o-0) vs++(x.latest::(x.eqv::(cpC x.j++(cpC x.f++(x.early::(x.orph::(x.nodes::(.int .u64 x.now::(rtc x.boost++[x.tabs]))))))))):=by unfold ak;rw[pL1 (bh _)];simp
theorem zQ(x:Sto):cut (ak x) 45 1=[x.latest]:=by unfold ak;rw[cR1 (bh _)];all_goals rfl
theorem zR(x:Sto)(v:AV):spl (ak x) 45 [v]=ak { x with latest:=v }:=by unfold ak;rw[pR1 (bh _)];all_goals rfl
theorem IC(x:Sto):cut (ak x) 46 1=[x.eqv]:=by unfold ak;rw[cR1 (bh _),cS1];all_goals rfl
theorem IG(x:Sto)(v:AV):spl (ak x) 46 [v]=ak { x with eqv:=v }:=by unfold ak;rw[pR1 (bh _),pS1];all_goals rfl
theorem NM(x:Sto)(o n:Nat)(c:47<=o)(b:o+n<=80):cut (ak x) o n=cut (cpC x.j) (o-47) n:=by unfold ak;rw[cR1 (bh _),cS1];rw[cS1,cL1 (aF _)];grind
theorem NO(x:Sto)(o:Nat)(vs:List AV)(d:47<=o)(e:o+vs.length<=80):spl (ak x) o vs=cV x.cfg++(x.latest::(x.eqv::(spl (cpC x.j) (o-47) vs++(cpC x.f++(x.early::(x.orph::(x.nodes::(.int .u64 x.now::(rtc x.boost++[x.tabs]))))))))):=by unfold ak;rw[pR1 (bh _),pS1];rw[pS1,pL1 (aF _)];grind
theorem NL(x:Sto)(o n:Nat)(c:80<=o)(b:o+n<=113):cut (ak x) o n=cut (cpC x.f) (o-80) n:=by unfold ak;rw[cR1 (bh _),cS1];rw[cS1,cR1 (aF _),cL1 (aF _)];grind
theorem NN(x:Sto)(o:Nat)(vs:List AV)(d:80<=o)(e:o+vs.length<=113):spl (ak x) o vs=cV x.cfg++(x.latest::(x.eqv::(cpC x.j++(spl (cpC x.f) (o-80) vs++(x.early::(x.orph::(x.nodes::(.int .u64 x.now::(rtc x.boost++[x.tabs]))))))))):=by unfold ak;rw[pR1 (bh _),pS1];rw[pS1,pR1 (aF _),pL1 (aF _)];grind
theorem Df(x:Sto):cut (ak x) 113 1=[x.early]:=by unfold ak;rw[cR1 (bh _),cS1];rw[cS1,cR1 (aF _),cR1 (aF _)];all_goals rfl
theorem Di(x:Sto)(v:AV):spl (ak x) 113 [v]=ak { x with early:=v }:=by unfold ak;rw[pR1 (bh _),pS1];rw[pS1,pR1 (aF _),pR1 (aF _)];all_goals rfl
theorem EU(x:Sto):cut (ak x) 114 1=[x.orph]:=by unfold ak;rw[cR1 (bh _),cS1];rw[cS1,cR1 (aF _)];rw[cR1 (aF _),cS1];all_goals rfl
theorem EW(x:Sto)(v:AV):spl (ak x) 114 [v]=ak { x with orph:=v }:=by unfold ak;rw[pR1 (bh _),pS1];rw[pS1,pR1 (aF _)];rw[pR1 (aF _),pS1];all_goals rfl
theorem Dg(x:Sto):cut (ak x) 115 1=[x.nodes]:=by unfold ak;rw[cR1 (bh _),cS1];rw[cS1,cR1 (aF _)];rw[cR1 (aF _),cS1,cS1];all_goals rfl
theorem Dj(x:Sto)(v:AV):spl (ak x) 115 [v]=ak { x with nodes:=v }:=by unfold ak;rw[pR1 (bh _),pS1];rw[pS1,pR1 (aF _)];rw[pR1 (aF _),pS1,pS1];all_goals rfl
theorem IE(x:Sto):cut (ak x) 116 1=[.int .u64 x.now]:=by unfold ak;rw[cR1 (bh _),cS1];rw[cS1,cR1 (aF _)];rw[cR1 (aF _),cS1];all_goals rfl
theorem IH(x:Sto)(v:Int):spl (ak x) 116 [.int .u64 v]=ak { x with now:=v }:=by unfold ak;rw[pR1 (bh _),pS1];rw[pS1,pR1 (aF _)];rw[pR1 (aF _),pS1];all_goals rfl
theorem De(x:Sto)(o n:Nat)(c:117<=o)(b:o+n<=149):cut (ak x) o n=cut (rtc x.boost) (o-117) n:=by unfold ak;rw[cR1 (bh _),cS1];rw[cS1,cR1 (aF _)];rw[cR1 (aF _),cS1];rw[cS1,cS1];rw[cS1,cL1 (ai _)];grind
theorem Dh(x:Sto)(o:Nat)(vs:List AV)(d:117<=o)(e:o+vs.length<=149):spl (ak x) o vs=cV x.cfg++(x.latest::(x.eqv::(cpC x.j++(cpC x.f++(x.early::(x.orph::(x.nodes::(.int .u64 x.now::(spl (rtc x.boost) (o-117) vs++[x.tabs]))))))))):=by unfold ak;rw[pR1 (bh _),pS1];rw[pS1,pR1 (aF _)];rw[pR1 (aF _),pS1];rw[pS1,pS1];rw[pS1,pL1 (ai _)];grind
theorem EV(x:Sto):cut (ak x) 149 1=[x.tabs]:=by unfold ak;rw[cR1 (bh _),cS1];rw[cS1,cR1 (aF _)];rw[cR1 (aF _),cS1];rw[cS1,cS1];rw[cS1,cR1 (ai _)];all_goals rfl
theorem EX(x:Sto)(v:AV):spl (ak x) 149 [v]=ak { x with tabs:=v }:=by unfold ak;rw[pR1 (bh _),pS1];rw[pS1,pR1 (aF _)];rw[pR1 (aF _),pS1];rw[pS1,pS1];rw[pS1,pR1 (ai _)];all_goals rfl
theorem tR(x:Sto):cut (ak x) 45 2=x.latest::[x.eqv]:=by unfold ak;rw[cR1 (bh _)];rfl
theorem tT(x:Sto)(y1:AV)(b:AV):spl (ak x) 45 (y1::[b])=ak { x with latest:=y1,eqv:=b }:=by unfold ak;rw[pR1 (bh _)];rfl
theorem ID(x:Sto):cut (ak x) 47 66=cpC x.j++(cpC x.f):=by unfold ak;rw[cR1 (bh _),cS1,cS1];exact Ec af1 af1
theorem xx(x:Sto)(c:Cp)(b:Cp):spl (ak x) 47 (cpC c++(cpC b))=ak { x with j:=c,f:=b }:=by unfold ak;rw[pR1 (bh _),pS1,pS1];rw[EE];simp
def Sto.map(g:AV->AV)(x:Sto):Sto:={ x with cfg:=x.cfg.map g,latest:=g x.latest,eqv:=g x.eqv,early:=g x.early,orph:=g x.orph,nodes:=g x.nodes,tabs:=g x.tabs }
theorem Sto.map_mk(g:AV->AV)(cfg:Cfg)(latest:AV)(eqv:AV)(j:Cp)(f:Cp)(early:AV)(orph:AV)(nodes:AV)(now:Int)(boost:Rt)(tabs:AV):Sto.map g ⟨cfg,latest,eqv,j,f,early,orph,nodes,now,boost,tabs⟩=⟨cfg.map g,g latest,g eqv,j,f,g early,g orph,g nodes,now,boost,g tabs⟩:=rfl
def Sto.good(x:Sto):Bool:=x.cfg.good&&x.latest.cell&&x.eqv.cell&&x.early.cell&&x.orph.cell&&x.nodes.cell&&x.tabs.cell
theorem Sto.good_mk(cfg:Cfg)(latest:AV)(eqv:AV)(j:Cp)(f:Cp)(early:AV)(orph:AV)(nodes:AV)(now:Int)(boost:Rt)(tabs:AV):Sto.good ⟨cfg,latest,eqv,j,f,early,orph,nodes,now,boost,tabs⟩=(cfg.good&&latest.cell&&eqv.cell&&early.cell&&orph.cell&&nodes.cell&&tabs.cell):=rfl
def Sto.Pure(x:Sto):Prop:=x.cfg.Pure/\Pu x.latest/\Pu x.eqv/\Pu x.early/\Pu x.orph/\Pu x.nodes/\Pu x.tabs
theorem ug(x:Sto):bK (ak x)=x.good:=by simp[ak,Sto.good,adv,cz,dj,dk,AV.cell,tZ,ja,el]
theorem rB(x:Sto):PuL (ak x)↔x.Pure:=by simp[ak,Sto.Pure,fy,PuL,Pu,I5,gG,dH]
theorem yu(ρ:Nat->Nat)(x:Sto):dN ρ (ak x)=ak (x.map (ren ρ)):=by simp only[ak,Sto.map,kZ,dN,ren,yp,xd,sE]
theorem JU(σ:St)(b:List Nat)(x:Sto):fzL σ b (ak x)=ak (x.map (fz σ b)):=by simp only[ak,Sto.map,lV,fzL,fz,JP,Ac,v8]
def i6:Sto:=⟨rl,.sl 0 true [],.sl 0 true [],cp0,cp0,.sl 0 true [],.sl 0 true [],.sl 0 true [],0,rt0,.sl 0 true []⟩
structure Req where
 tag:Int
 block:Rt
 tries:Int
 due:Int
 deriving Inhabited,DecidableEq
def ay(x:Req):List AV:=.int .u64 x.tag::(rtc x.block++(.int .i64 x.tries::[.int .u64 x.due]))
@[simp] theorem sj(x:Req):(ay x).length=35:=by simp only[ay,List.length_cons,List.length_append,List.length_nil,ai]
theorem Rx(tag:Int)(block:Rt)(tries:Int)(due:Int):.int .u64 tag::(rtc block++(.int .i64 tries::[.int .u64 due]))=ay ⟨tag,block,tries,due⟩:=rfl
theorem Ry(x:Req):cut (ay x) 0 35=ay x:=eo (sj x)
theorem H3(x:Req):cut (ay x) 0 1=[.int .u64 x.tag]:=by all_goals rfl
theorem H5(x:Req)(v:Int):spl (ay x) 0 [.int .u64 v]=ay { x with tag:=v }:=by all_goals rfl
theorem CW(x:Req)(o n:Nat)(c:1<=o)(b:o+n<=33):cut (ay x) o n=cut (rtc x.block) (o-1) n:=by unfold ay;rw[cS1,cL1 (ai _)]
theorem CY(x:Req)(o:Nat)(vs:List AV)(e:1<=o)(f:o+vs.length<=33):spl (ay x) o vs=.int .u64 x.tag::(spl (rtc x.block) (o-1) vs++(.int .i64 x.tries::[.int .u64 x.due])):=by unfold ay;rw[pS1,pL1 (ai _)]
theorem CX(x:Req):cut (ay x) 33 1=[.int .i64 x.tries]:=by unfold ay;rw[cS1,cR1 (ai _)];all_goals rfl
theorem CZ(x:Req)(v:Int):spl (ay x) 33 [.int .i64 v]=ay { x with tries:=v }:=by unfold ay;rw[pS1,pR1 (ai _)];all_goals rfl
theorem H2(x:Req):cut (ay x) 34 1=[.int .u64 x.due]:=by unfold ay;rw[cS1,cR1 (ai _),cS1];all_goals rfl
theorem H4(x:Req)(v:Int):spl (ay x) 34 [.int .u64 v]=ay { x with due:=v }:=by unfold ay;rw[pS1,pR1 (ai _),pS1];all_goals rfl
theorem DE(x:Req):bK (ay x)=true:=by simp[ay,cz,dj,dk,AV.cell,el]
theorem gg(x:Req):PuL (ay x):=by simp[ay,fy,PuL,Pu,dH]
theorem Gx(ρ:Nat->Nat)(x:Req):dN ρ (ay x)=ay x:=(gg x).ren ρ
theorem TO(σ:St)(zs:List Nat)(x:Req):fzL σ zs (ay x)=ay x:=(gg x).fz σ zs
def gU:Req:=⟨0,rt0,0,0⟩
structure Cmd where
 head:Rt
 safe:Rt
 fin:Rt
 deriving Inhabited,DecidableEq
def bH(x:Cmd):List AV:=rtc x.head++(rtc x.safe++(rtc x.fin))
@[simp] theorem fF(x:Cmd):(bH x).length=96:=by simp only[bH,List.length_append,ai]
theorem PX(head:Rt)(safe:Rt)(fin:Rt):rtc head++(rtc safe++(rtc fin))=bH ⟨head,safe,fin⟩:=rfl
theorem PY(x:Cmd):cut (bH x) 0 96=bH x:=eo (fF x)
theorem D7(x:Cmd)(o:Nat)(vs:List AV)(c:0<=o)(b:o+vs.length<=32):spl (bH x) o vs=spl (rtc x.head) (o-0) vs++(rtc x.safe++(rtc x.fin)):=by unfold bH;rw[pL1 (ai _)];simp
theorem D8(x:Cmd)(o:Nat)(vs:List AV)(c:32<=o)(b:o+vs.length<=64):spl (bH x) o vs=rtc x.head++(spl (rtc x.safe) (o-32) vs++(rtc x.fin)):=by unfold bH;rw[pR1 (ai _),pL1 (ai _)]
theorem Hu(x:Cmd)(o:Nat)(vs:List AV)(c:64<=o)(b:o+vs.length<=96):spl (bH x) o vs=rtc x.head++(rtc x.safe++(spl (rtc x.fin) (o-64) vs)):=by unfold bH;rw[pR1 (ai _),pR1 (ai _)];grind
theorem ub(x:Cmd):bK (bH x)=true:=by simp[bH,dj,el]
theorem nL(x:Cmd):PuL (bH x):=by simp[bH,fy,dH]
theorem yq(ρ:Nat->Nat)(x:Cmd):dN ρ (bH x)=bH x:=(nL x).ren ρ
theorem JR(σ:St)(zs:List Nat)(x:Cmd):fzL σ zs (bH x)=bH x:=(nL x).fz σ zs
theorem Mr(x:Cmd):(bH x).map eF=I0 [(96,1)]:=by simp only[bH,acu,lL];decide +kernel
theorem Qe(x:Cmd):iU [(96,1)] (bH x)=true:=il (Mr x)
theorem Pl(x y:Cmd):iB (bH x) (bH y)=some (decide (x=y)):=by cases x;cases y;simp[bH,me,kF]
def jB:Cmd:=⟨rt0,rt0,rt0⟩
structure Sta where
 sto:Sto
 reqs:AV
 rets:AV
 tag:Int
 sent:Bool
 last:Cmd
 over:Bool
 halt:Bool
 deriving Inhabited
def aG(x:Sta):List AV:=ak x.sto++(x.reqs::(x.rets::(.int .u64 x.tag::(.bool x.sent::(bH x.last++(.bool x.over::[.bool x.halt]))))))
@[simp] theorem iW(x:Sta):(aG x).length=252:=by simp only[aG,List.length_cons,List.length_append,List.length_nil,fF,cn]
theorem RY(sto:Sto)(reqs:AV)(rets:AV)(tag:Int)(sent:Bool)(last:Cmd)(over:Bool)(halt:Bool):ak sto++(reqs::(rets::(.int .u64 tag::(.bool sent::(bH last++(.bool over::[.bool halt]))))))=aG ⟨sto,reqs,rets,tag,sent,last,over,halt⟩:=rfl
theorem RZ(x:Sta):cut (aG x) 0 252=aG x:=eo (iW x)
theorem Iu(x:Sta)(o n:Nat)(c:0<=o)(b:o+n<=150):cut (aG x) o n=cut (ak x.sto) (o-0) n:=by unfold aG;rw[cL1 (cn _)];simp
theorem Iw(x:Sta)(o:Nat)(vs:List AV)(d:0<=o)(e:o+vs.length<=150):spl (aG x) o vs=spl (ak x.sto) (o-0) vs++(x.reqs::(x.rets::(.int .u64 x.tag::(.bool x.sent::(bH x.last++(.bool x.over::[.bool x.halt])))))):=by unfold aG;rw[pL1 (cn _)];simp
theorem EI(x:Sta):cut (aG x) 150 1=[x.reqs]:=by unfold aG;rw[cR1 (cn _)];all_goals rfl
theorem EQ(x:Sta)(v:AV):spl (aG x) 150 [v]=aG { x with reqs:=v }:=by unfold aG;rw[pR1 (cn _)];all_goals rfl
theorem EJ(x:Sta):cut (aG x) 151 1=[x.rets]:=by unfold aG;rw[cR1 (cn _),cS1];all_goals rfl
theorem ER(x:Sta)(v:AV):spl (aG x) 151 [v]=aG { x with rets:=v }:=by unfold aG;rw[pR1 (cn _),pS1];all_goals rfl
theorem Iv(x:Sta):cut (aG x) 152 1=[.int .u64 x.tag]:=by unfold aG;rw[cR1 (cn _),cS1,cS1];all_goals rfl
theorem Ix(x:Sta)(v:Int):spl (aG x) 152 [.int .u64 v]=aG { x with tag:=v }:=by unfold aG;rw[pR1 (cn _),pS1,pS1];all_goals rfl
theorem EK(x:Sta):cut (aG x) 153 1=[.bool x.sent]:=by unfold aG;rw[cR1 (cn _),cS1];all_goals rfl
theorem ET(x:Sta)(v:Bool):spl (aG x) 153 [.bool v]=aG { x with sent:=v }:=by unfold aG;rw[pR1 (cn _),pS1];all_goals rfl
theorem EG(x:Sta)(o n:Nat)(c:154<=o)(b:o+n<=250):cut (aG x) o n=cut (bH x.last) (o-154) n:=by unfold aG;rw[cR1 (cn _),cS1];rw[cS1,cS1];rw[cS1,cL1 (fF _)];grind
theorem EM(x:Sta)(o:Nat)(vs:List AV)(d:154<=o)(e:o+vs.length<=250):spl (aG x) o vs=ak x.sto++(x.reqs::(x.rets::(.int .u64 x.tag::(.bool x.sent::(spl (bH x.last) (o-154) vs++(.bool x.over::[.bool x.halt])))))):=by unfold aG;rw[pR1 (cn _),pS1];rw[pS1,pS1];rw[pS1,pL1 (fF _)];grind
theorem EH(x:Sta):cut (aG x) 250 1=[.bool x.over]:=by unfold aG;rw[cR1 (cn _),cS1];rw[cS1,cS1];rw[cS1,cR1 (fF _)];all_goals rfl
theorem EO(x:Sta)(v:Bool):spl (aG x) 250 [.bool v]=aG { x with over:=v }:=by unfold aG;rw[pR1 (cn _),pS1];rw[pS1,pS1];rw[pS1,pR1 (fF _)];all_goals rfl
theorem EF(x:Sta):cut (aG x) 251 1=[.bool x.halt]:=by unfold aG;rw[cR1 (cn _),cS1];rw[cS1,cS1];rw[cS1,cR1 (fF _),cS1];all_goals rfl
theorem EL(x:Sta)(v:Bool):spl (aG x) 251 [.bool v]=aG { x with halt:=v }:=by unfold aG;rw[pR1 (cn _),pS1];rw[pS1,pS1];rw[pS1,pR1 (fF _),pS1];all_goals rfl
def Sta.map(g:AV->AV)(x:Sta):Sta:={ x with sto:=x.sto.map g,reqs:=g x.reqs,rets:=g x.rets }
theorem Sta.map_mk(g:AV->AV)(sto:Sto)(reqs:AV)(rets:AV)(tag:Int)(sent:Bool)(last:Cmd)(over:Bool)(halt:Bool):Sta.map g ⟨sto,reqs,rets,tag,sent,last,over,halt⟩=⟨sto.map g,g reqs,g rets,tag,sent,last,over,halt⟩:=rfl
def Sta.good(x:Sta):Bool:=x.sto.good&&x.reqs.cell&&x.rets.cell
theorem Sta.good_mk(sto:Sto)(reqs:AV)(rets:AV)(tag:Int)(sent:Bool)(last:Cmd)(over:Bool)(halt:Bool):Sta.good ⟨sto,reqs,rets,tag,sent,last,over,halt⟩=(sto.good&&reqs.cell&&rets.cell):=rfl
def Sta.Pure(x:Sta):Prop:=x.sto.Pure/\Pu x.reqs/\Pu x.rets
theorem DG(x:Sta):bK (aG x)=x.good:=by simp[aG,Sta.good,adv,cz,dj,dk,AV.cell,ub,ug]
theorem I6(x:Sta):PuL (aG x)↔x.Pure:=by simp[aG,Sta.Pure,fy,PuL,Pu,nL,rB]
theorem Gz(ρ:Nat->Nat)(x:Sta):dN ρ (aG x)=aG (x.map (ren ρ)):=by simp only[aG,Sta.map,kZ,dN,ren,yq,yu]
theorem TQ(σ:St)(b:List Nat)(x:Sta):fzL σ b (aG x)=aG (x.map (fz σ b)):=by simp only[aG,Sta.map,lV,fzL,fz,JR,JU]
def mB:Sta:=⟨i6,.sl 0 true [],.sl 0 true [],0,false,jB,false,false⟩
attribute [go_sem] dX QB Et Ew Eu Ey Cg Cj Ci Cl Ch Ck yc yd uc yr PN bh PM Hi Hm Hj Hn AZ Bq Hk Ho Hh Hl DX DY Cfg.map_mk Cfg.good_mk tZ yp Sr sk Sq IW IX Lr Ls E6 E7 DH GD Qk Pq QK si QJ HS HT Kc Kd zH zI DD Gw R3 cn Bo IB IF zQ zR IC IG NM NO NL NN Df Di EU EW Dg Dj IE IH De Dh EV EX tR tT ID xx Sto.map_mk Sto.good_mk ug yu Ry sj Rx H3 H5 CW CY CX CZ H2 H4 DE Gx PY fF PX D7 D8 Hu ub yq Qe Pl RZ iW RY Iu Iw EI EQ EJ ER Iv Ix EK ET EG EM EH EO EF EL Sta.map_mk Sta.good_mk DG Gz Xl rl eY kr i6 gU jB mB dX yr JS bh Cfg.map_mk yp JP sk GD TR si Gw TM cn Sto.map_mk yu JU sj Gx TO fF yq JR iW Sta.map_mk Gz TQ
def rows{α:Type}(f:α->List AV)(l:List α):List (List AV):=l.map f
section
variable{α:Type}{f:α->List AV}{l m:List α}
@[simp] theorem J8(f:α->List AV)(l:List α):(rows f l).length=l.length:=by simp[rows]
theorem Vw(f:α->List AV):rows f []=[]:=rfl
theorem xj(f:α->List AV)(l m:List α):rows f l++rows f m=rows f (l++m):=by simp[rows]
theorem dn(f:α->List AV)(l:List α)(x:α):rows f l++[f x]=rows f (l++[x]):=by simp[rows]
theorem pZ(f:α->List AV)(l:List α)(n:Nat):(rows f l).take n=rows f (l.take n):=by simp[rows]
theorem yx(f:α->List AV)(l:List α)(n:Nat):(rows f l).drop n=rows f (l.drop n):=by simp[rows]
theorem pY(f:α->List AV)(l:List α)(n:Nat)(x:α):(rows f l).set n (f x)=rows f (l.set n x):=by simp[rows]
theorem Vx(f:α->List AV)(n:Nat)(x:α):List.replicate n (f x)=rows f (List.replicate n x):=by simp[rows]
theorem aK{i:Nat}(d:α)(h:i<l.length):(rows f l).getD i []=f (l.getD i d):=by
 simp[rows,afy,h]
theorem cY(h:∀x∈l,PuL (f x)):fU (rows f l):=by
 rw[nK];intro x b;obtain⟨y,c,rfl⟩:=acz.1 b;grind
end
theorem gdn{k:IntKind}{ns:List Int}{i:Nat}(h:i<ns.length):(ah k ns).getD i []=[.int k (ns.getD i 0)]:=by
 simp[ah,afy,h]
def fW(b:Bool):List AV:=[.bool b]
theorem Pj(b:Bool):PuL (fW b):=by simp[fW,PuL,Pu]
theorem NX(h:Bool)(c:Cp):.bool h::cpC c=bJ ⟨h,c.ep,c.rt⟩:=rfl
attribute [go_sem] NX
attribute [go_sem] J8 Vw
structure aX where
 slot:Int
 root:Rt
 target:Cp
 vals:List Int
 deriving Inhabited,DecidableEq
def aX.a(x:aX):Att:=⟨x.slot,x.root,x.target,.sl 1 false (ah .i64 x.vals)⟩
abbrev aX.c(x:aX):List AV:=cK x.a
theorem aX.a_slot(x:aX):x.a.slot=x.slot:=rfl
theorem aX.a_root(x:aX):x.a.root=x.root:=rfl
theorem aX.a_target(x:aX):x.a.target=x.target:=rfl
theorem aX.a_vals(x:aX):x.a.vals=.sl 1 false (ah .i64 x.vals):=rfl
theorem aX.pure(x:aX):x.a.Pure:=by
 exact aY _ _
theorem aX.pul(x:aX):PuL (cK x.a):=(gI _).2 x.pure
theorem aX.map_ren(ρ:Nat->Nat)(x:aX):x.a.map (ren ρ)=x.a:=by
 unfold aX.a Att.map;simp only[ren,fp]
theorem aX.map_fz(σ:St)(a:List Nat)(x:aX):x.a.map (fz σ a)=x.a:=by
 unfold aX.a Att.map;simp only[fz,gN]
theorem aX.good_a(x:aX):x.a.good=true:=by
 simp[aX.a,Att.good,AV.cell]
structure aB where
 cp:Cp
 bals:List Int
 deriving Inhabited,DecidableEq
def aB.a(x:aB):Tab:=⟨x.cp,.sl 1 false (ah .u64 x.bals)⟩
abbrev aB.c(x:aB):List AV:=bE x.a
theorem aB.a_cp(x:aB):x.a.cp=x.cp:=rfl
theorem aB.a_bals(x:aB):x.a.bals=.sl 1 false (ah .u64 x.bals):=rfl
theorem aB.pure(x:aB):x.a.Pure:=by
 exact aY _ _
theorem aB.pul(x:aB):PuL (bE x.a):=(gJ _).2 x.pure
theorem aB.map_ren(ρ:Nat->Nat)(x:aB):x.a.map (ren ρ)=x.a:=by
 unfold aB.a Tab.map;simp only[ren,fp]
theorem aB.map_fz(σ:St)(a:List Nat)(x:aB):x.a.map (fz σ a)=x.a:=by
 unfold aB.a Tab.map;simp only[fz,gN]
theorem aB.good_a(x:aB):x.a.good=true:=by
 simp[aB.a,Tab.good,AV.cell]
structure gK where
 src:Int
 tgt:Int
 root:Rt
 vals:List Int
 deriving Inhabited,DecidableEq
def gK.a(x:gK):Clm:=⟨x.src,x.tgt,x.root,.sl 1 false (ah .i64 x.vals)⟩
theorem gK.a_src(x:gK):x.a.src=x.src:=rfl
theorem gK.a_tgt(x:gK):x.a.tgt=x.tgt:=rfl
theorem gK.a_root(x:gK):x.a.root=x.root:=rfl
theorem gK.a_vals(x:gK):x.a.vals=.sl 1 false (ah .i64 x.vals):=rfl
theorem gK.pure(x:gK):x.a.Pure:=by
 exact aY _ _
theorem gK.pul(x:gK):PuL (dB x.a):=(iN _).2 x.pure
theorem gK.map_ren(ρ:Nat->Nat)(x:gK):x.a.map (ren ρ)=x.a:=by
 unfold gK.a Clm.map;simp only[ren,fp]
theorem gK.map_fz(σ:St)(a:List Nat)(x:gK):x.a.map (fz σ a)=x.a:=by
 unfold gK.a Clm.map;simp only[fz,gN]
theorem gK.good_a(x:gK):x.a.good=true:=by
 simp[gK.a,Clm.good,AV.cell]
structure gi where
 fst:gK
 snd:gK
 deriving Inhabited,DecidableEq
def gi.a(x:gi):Slg:=⟨x.fst.a,x.snd.a⟩
theorem gi.a_fst(x:gi):x.a.fst=x.fst.a:=rfl
theorem gi.a_snd(x:gi):x.a.snd=x.snd.a:=rfl
theorem gi.pure(x:gi):x.a.Pure:=by
 exact⟨gK.pure _,gK.pure _⟩
theorem gi.pul(x:gi):PuL (dU x.a):=(ij _).2 x.pure
theorem gi.map_ren(ρ:Nat->Nat)(x:gi):x.a.map (ren ρ)=x.a:=by
 unfold gi.a Slg.map;simp only[gK.map_ren]
theorem gi.map_fz(σ:St)(a:List Nat)(x:gi):x.a.map (fz σ a)=x.a:=by
 unfold gi.a Slg.map;simp only[gK.map_fz]
theorem gi.good_a(x:gi):x.a.good=true:=by
 simp[gi.a,Slg.good,gK.good_a]
structure cI where
 lim:Lim
 spe:Int
 boost:Int
 ttd:Wd
 gen:Rt
 bals:List Int
 deriving Inhabited,DecidableEq
def cI.a(x:cI):Cfg:=⟨x.lim,x.spe,x.boost,x.ttd,x.gen,.sl 1 false (ah .u64 x.bals)⟩
theorem cI.a_lim(x:cI):x.a.lim=x.lim:=rfl
theorem cI.a_spe(x:cI):x.a.spe=x.spe:=rfl
theorem cI.a_boost(x:cI):x.a.boost=x.boost:=rfl
theorem cI.a_ttd(x:cI):x.a.ttd=x.ttd:=rfl
theorem cI.a_gen(x:cI):x.a.gen=x.gen:=rfl
theorem cI.a_bals(x:cI):x.a.bals=.sl 1 false (ah .u64 x.bals):=rfl
theorem cI.pure(x:cI):x.a.Pure:=by
 exact aY _ _
theorem cI.pul(x:cI):PuL (cV x.a):=(I5 _).2 x.pure
theorem cI.map_ren(ρ:Nat->Nat)(x:cI):x.a.map (ren ρ)=x.a:=by
 unfold cI.a Cfg.map;simp only[ren,fp]
theorem cI.map_fz(σ:St)(a:List Nat)(x:cI):x.a.map (fz σ a)=x.a:=by
 unfold cI.a Cfg.map;simp only[fz,gN]
theorem cI.good_a(x:cI):x.a.good=true:=by
 simp[cI.a,Cfg.good,AV.cell]
structure af where
 cfg:cI
 latest:List Vot
 eqv:List Int
 j:Cp
 f:Cp
 early:List aX
 orph:List Blk
 nodes:List Nod
 now:Int
 boost:Rt
 tabs:List aB
 deriving Inhabited,DecidableEq
def af.a(x:af):Sto:=⟨x.cfg.a,.sl 34 false (rows bJ x.latest),.sl 1 false (ah .i64 x.eqv),x.j,x.f,.sl 67 false (rows aX.c x.early),.sl 238 false (rows au x.orph),.sl 240 false (rows aT x.nodes),x.now,x.boost,.sl 34 false (rows aB.c x.tabs)⟩
theorem af.a_cfg(x:af):x.a.cfg=x.cfg.a:=rfl
theorem af.a_latest(x:af):x.a.latest=.sl 34 false (rows bJ x.latest):=rfl
theorem af.a_eqv(x:af):x.a.eqv=.sl 1 false (ah .i64 x.eqv):=rfl
theorem af.a_j(x:af):x.a.j=x.j:=rfl
theorem af.a_f(x:af):x.a.f=x.f:=rfl
theorem af.a_early(x:af):x.a.early=.sl 67 false (rows aX.c x.early):=rfl
theorem af.a_orph(x:af):x.a.orph=.sl 238 false (rows au x.orph):=rfl
theorem af.a_nodes(x:af):x.a.nodes=.sl 240 false (rows aT x.nodes):=rfl
theorem af.a_now(x:af):x.a.now=x.now:=rfl
theorem af.a_boost(x:af):x.a.boost=x.boost:=rfl
theorem af.a_tabs(x:af):x.a.tabs=.sl 34 false (rows aB.c x.tabs):=rfl
theorem af.pure(x:af):x.a.Pure:=by
 exact⟨cI.pure _,cY fun x _=>mb x,aY _ _,cY fun x _=>(gI _).2 (aX.pure x),cY fun x _=>gf x,cY fun x _=>lZ x,cY fun x _=>(gJ _).2 (aB.pure x)⟩
theorem af.pul(x:af):PuL (ak x.a):=(rB _).2 x.pure
theorem af.map_ren(ρ:Nat->Nat)(x:af):x.a.map (ren ρ)=x.a:=by
 unfold af.a Sto.map;simp only[ren,fp,cI.map_ren,(cY (f:=bJ) (l:=x.latest) fun y _=>mb y).ren ρ,(cY (f:=aX.c) (l:=x.early) fun y _=>(gI _).2 (aX.pure y)).ren ρ,(cY (f:=au) (l:=x.orph) fun y _=>gf y).ren ρ,(cY (f:=aT) (l:=x.nodes) fun y _=>lZ y).ren ρ,(cY (f:=aB.c) (l:=x.tabs) fun y _=>(gJ _).2 (aB.pure y)).ren ρ]
theorem af.map_fz(σ:St)(a:List Nat)(x:af):x.a.map (fz σ a)=x.a:=by
 unfold af.a Sto.map;simp only[fz,gN,cI.map_fz,(cY (f:=bJ) (l:=x.latest) fun y _=>mb y).fz σ a,(cY (f:=aX.c) (l:=x.early) fun y _=>(gI _).2 (aX.pure y)).fz σ a,(cY (f:=au) (l:=x.orph) fun y _=>gf y).fz σ a,(cY (f:=aT) (l:=x.nodes) fun y _=>lZ y).fz σ a,(cY (f:=aB.c) (l:=x.tabs) fun y _=>(gJ _).2 (aB.pure y)).fz σ a]
theorem af.good_a(x:af):x.a.good=true:=by
 simp[af.a,Sto.good,AV.cell,cI.good_a]
structure al where
 sto:af
 reqs:List Req
 rets:List Req
 tag:Int
 sent:Bool
 last:Cmd
 over:Bool
 halt:Bool
 deriving Inhabited,DecidableEq
def al.a(x:al):Sta:=⟨x.sto.a,.sl 35 false (rows ay x.reqs),.sl 35 false (rows ay x.rets),x.tag,x.sent,x.last,x.over,x.halt⟩
theorem al.a_sto(x:al):x.a.sto=x.sto.a:=rfl
theorem al.a_reqs(x:al):x.a.reqs=.sl 35 false (rows ay x.reqs):=rfl
theorem al.a_rets(x:al):x.a.rets=.sl 35 false (rows ay x.rets):=rfl
theorem al.a_tag(x:al):x.a.tag=x.tag:=rfl
theorem al.a_sent(x:al):x.a.sent=x.sent:=rfl
theorem al.a_last(x:al):x.a.last=x.last:=rfl
theorem al.a_over(x:al):x.a.over=x.over:=rfl
theorem al.a_halt(x:al):x.a.halt=x.halt:=rfl
theorem al.pure(x:al):x.a.Pure:=by
 exact⟨af.pure _,cY fun x _=>gg x,cY fun x _=>gg x⟩
theorem al.pul(x:al):PuL (aG x.a):=(I6 _).2 x.pure
theorem al.map_ren(ρ:Nat->Nat)(x:al):x.a.map (ren ρ)=x.a:=by
 unfold al.a Sta.map;simp only[ren,af.map_ren,(cY (f:=ay) (l:=x.reqs) fun y _=>gg y).ren ρ,(cY (f:=ay) (l:=x.rets) fun y _=>gg y).ren ρ]
theorem al.map_fz(σ:St)(a:List Nat)(x:al):x.a.map (fz σ a)=x.a:=by
 unfold al.a Sta.map;simp only[fz,af.map_fz,(cY (f:=ay) (l:=x.reqs) fun y _=>gg y).fz σ a,(cY (f:=ay) (l:=x.rets) fun y _=>gg y).fz σ a]
theorem al.good_a(x:al):x.a.good=true:=by
 simp[al.a,Sta.good,AV.cell,af.good_a]
structure VOp where
 kind:Int
 blk:Blk
 att:aX
 slg:gi
 tab:aB
 vdt:Vdt
 write:Int
 keep:Int
 deriving Inhabited,DecidableEq
def VOp.a(x:VOp):SOp:=⟨x.kind,x.blk,x.att.a,x.slg.a,x.tab.a,x.vdt,x.write,x.keep⟩
abbrev VOp.c(x:VOp):List AV:=cG x.a
theorem VOp.a_kind(x:VOp):x.a.kind=x.kind:=rfl
theorem VOp.a_blk(x:VOp):x.a.blk=x.blk:=rfl
theorem VOp.a_att(x:VOp):x.a.att=x.att.a:=rfl
theorem VOp.a_slg(x:VOp):x.a.slg=x.slg.a:=rfl
theorem VOp.a_tab(x:VOp):x.a.tab=x.tab.a:=rfl
theorem VOp.a_vdt(x:VOp):x.a.vdt=x.vdt:=rfl
theorem VOp.a_write(x:VOp):x.a.write=x.write:=rfl
theorem VOp.a_keep(x:VOp):x.a.keep=x.keep:=rfl
theorem VOp.pure(x:VOp):x.a.Pure:=by
 exact⟨aX.pure _,gi.pure _,aB.pure _⟩
theorem VOp.pul(x:VOp):PuL (cG x.a):=(iO _).2 x.pure
theorem VOp.good_a(x:VOp):x.a.good=true:=by
 simp[VOp.a,SOp.good,aX.good_a,gi.good_a,aB.good_a]
theorem gh(l:List Rt):fU (rows rtc l):=cY fun x _=>dH x
theorem CU(ρ:Nat->Nat)(l:List Rt):dm ρ (rows rtc l)=rows rtc l:=(gh l).ren ρ
theorem Ep(σ:St)(zs:List Nat)(l:List Rt):gm σ zs (rows rtc l)=rows rtc l:=(gh l).fz σ zs
theorem jw(l:List Bool):fU (rows fW l):=cY fun x _=>Pj x
theorem yo(ρ:Nat->Nat)(l:List Bool):dm ρ (rows fW l)=rows fW l:=(jw l).ren ρ
theorem zF(σ:St)(zs:List Nat)(l:List Bool):gm σ zs (rows fW l)=rows fW l:=(jw l).fz σ zs
theorem kE(l:List Vot):fU (rows bJ l):=cY fun x _=>mb x
theorem zO(ρ:Nat->Nat)(l:List Vot):dm ρ (rows bJ l)=rows bJ l:=(kE l).ren ρ
theorem BN(σ:St)(zs:List Nat)(l:List Vot):gm σ zs (rows bJ l)=rows bJ l:=(kE l).fz σ zs
theorem ky(l:List Blk):fU (rows au l):=cY fun x _=>gf x
theorem zL(ρ:Nat->Nat)(l:List Blk):dm ρ (rows au l)=rows au l:=(ky l).ren ρ
theorem BK(σ:St)(zs:List Nat)(l:List Blk):gm σ zs (rows au l)=rows au l:=(ky l).fz σ zs
theorem gW(l:List Nod):fU (rows aT l):=cY fun x _=>lZ x
theorem zN(ρ:Nat->Nat)(l:List Nod):dm ρ (rows aT l)=rows aT l:=(gW l).ren ρ
theorem BM(σ:St)(zs:List Nat)(l:List Nod):gm σ zs (rows aT l)=rows aT l:=(gW l).fz σ zs
theorem kD(l:List Req):fU (rows ay l):=cY fun x _=>gg x
theorem mN(ρ:Nat->Nat)(l:List Req):dm ρ (rows ay l)=rows ay l:=(kD l).ren ρ
theorem nX(σ:St)(zs:List Nat)(l:List Req):gm σ zs (rows ay l)=rows ay l:=(kD l).fz σ zs
theorem eT(l:List Cmd):fU (rows bH l):=cY fun x _=>nL x
theorem zM(ρ:Nat->Nat)(l:List Cmd):dm ρ (rows bH l)=rows bH l:=(eT l).ren ρ
theorem BL(σ:St)(zs:List Nat)(l:List Cmd):gm σ zs (rows bH l)=rows bH l:=(eT l).fz σ zs
theorem kx(l:List aX):fU (rows aX.c l):=cY fun x _=>aX.pul x
theorem zJ(ρ:Nat->Nat)(l:List aX):dm ρ (rows aX.c l)=rows aX.c l:=(kx l).ren ρ
theorem BI(σ:St)(zs:List Nat)(l:List aX):gm σ zs (rows aX.c l)=rows aX.c l:=(kx l).fz σ zs
theorem i9(l:List aB):fU (rows aB.c l):=cY fun x _=>aB.pul x
theorem zK(ρ:Nat->Nat)(l:List aB):dm ρ (rows aB.c l)=rows aB.c l:=(i9 l).ren ρ
theorem BJ(σ:St)(zs:List Nat)(l:List aB):gm σ zs (rows aB.c l)=rows aB.c l:=(i9 l).fz σ zs
theorem mc(l:List VOp):fU (rows VOp.c l):=cY fun x _=>VOp.pul x
theorem CT(ρ:Nat->Nat)(l:List VOp):dm ρ (rows VOp.c l)=rows VOp.c l:=(mc l).ren ρ
theorem Eo(σ:St)(zs:List Nat)(l:List VOp):gm σ zs (rows VOp.c l)=rows VOp.c l:=(mc l).fz σ zs
attribute [go_sem] aX.a_slot aX.a_root aX.a_target aX.a_vals aX.pul aX.map_ren aX.map_fz aX.good_a aB.a_cp aB.a_bals aB.pul aB.map_ren aB.map_fz aB.good_a gK.a_src gK.a_tgt gK.a_root gK.a_vals gK.pul gK.map_ren gK.map_fz gK.good_a gi.a_fst gi.a_snd gi.pul gi.map_ren gi.map_fz gi.good_a cI.a_lim cI.a_spe cI.a_boost cI.a_ttd cI.a_gen cI.a_bals cI.pul cI.map_ren cI.map_fz cI.good_a af.a_cfg af.a_latest af.a_eqv af.a_j af.a_f af.a_early af.a_orph af.a_nodes af.a_now af.a_boost af.a_tabs af.pul af.map_ren af.map_fz af.good_a al.a_sto al.a_reqs al.a_rets al.a_tag al.a_sent al.a_last al.a_over al.a_halt al.pul al.map_ren al.map_fz al.good_a VOp.a_kind VOp.a_blk VOp.a_att VOp.a_slg VOp.a_tab VOp.a_vdt VOp.a_write VOp.a_keep VOp.pul VOp.good_a gh CU Ep jw yo zF kE zO BN ky zL BK gW zN BM kD mN nX eT zM BL kx zJ BI i9 zK BJ mc CT Eo
def Sm{α:Type}(G F:α->Prop):Prop:=∃r,G r/\F r
section
variable{α:Type}{G:α->Prop}{P:Program}{nt k:Nat}{fr:Fr}{σ:St}
theorem jm{p q:α->Prop}(h:∀r,q r->p r)(hq:Sm G q):Sm G p:=hq.imp fun r h1=>⟨h1.1,h r h1.2⟩
theorem OX{F:α->Prop}(r:α)(h1:G r)(h2:F r):Sm G F:=⟨r,h1,h2⟩
theorem db{p q:α->Prop}(hq:Sm G q) (h:∀r,Hid (q r)->p r:=by
 (intro r hq
  (first|with_reducible (first|refine fR ?_|refine iz ?_|refine fQ ?_|refine jF (by simp only[afG,afM]) ?_|refine jG ?_|refine i7 ?_|refine lY ?_)|(simp only[go_sem,Nat.reduceAdd,Nat.reduceSub,Nat.reduceMul,Nat.reduceLT,Nat.reduceLeDiff,Nat.reduceEqDiff,reduceIte,Int.reduceToNat,Int.reduceLT,Int.reduceLE,Int.reduceEq,Int.reduceNeg,reduceCtorEq,Int.reduceBEq,Int.reduceBNe])|with_reducible refine And.intro (lM af2) ?_|(with_reducible refine And.intro ?_ ?_;first|omega|decide|(simp;done)|(simp;omega)))
  repeat(first|with_reducible (first|refine fR ?_|refine iz ?_|refine fQ ?_|refine jF (by simp only[afG,afM]) ?_|refine jG ?_|refine i7 ?_|refine lY ?_)|(simp only[go_sem,Nat.reduceAdd,Nat.reduceSub,Nat.reduceMul,Nat.reduceLT,Nat.reduceLeDiff,Nat.reduceEqDiff,reduceIte,Int.reduceToNat,Int.reduceLT,Int.reduceLE,Int.reduceEq,Int.reduceNeg,reduceCtorEq,Int.reduceBEq,Int.reduceBNe])|with_reducible refine And.intro (lM af2) ?_|(with_reducible refine And.intro ?_ ?_;first|omega|decide|(simp;done)|(simp;omega)))
  exact hq.out)):Sm G p:=jm (fun r h1=>h r ⟨h1⟩) hq
theorem dG{x y:am}{Q:α->Ex->Fr->St->Prop}(h:Sm G fun r=>Tri P nt k x (fK (Tri P nt k y (Q r)) (Q r)) fr σ):Sm G fun r=>Tri P nt k (.seq x y) (Q r) fr σ:=jm (fun r h1=>fR h1) h
theorem gR{p q:α->Prop}(hq:Sm G q) (h:∀r,Hid (q r)->p r:=by
 (intro r hq
  (first|with_reducible (first|refine iz ?_|refine fQ ?_|refine jF (by simp only[afG,afM]) ?_|refine jG ?_|refine i7 ?_|refine lY ?_)|(simp only[go_sem,Nat.reduceAdd,Nat.reduceSub,Nat.reduceMul,Nat.reduceLT,Nat.reduceLeDiff,Nat.reduceEqDiff,reduceIte,Int.reduceToNat,Int.reduceLT,Int.reduceLE,Int.reduceEq,Int.reduceNeg,reduceCtorEq,Int.reduceBEq,Int.reduceBNe])|with_reducible refine And.intro (lM af2) ?_|(with_reducible refine And.intro ?_ ?_;first|omega|decide|(simp;done)|(simp;omega)))
  repeat(first|with_reducible (first|refine iz ?_|refine fQ ?_|refine jF (by simp only[afG,afM]) ?_|refine jG ?_|refine i7 ?_|refine lY ?_)|(simp only[go_sem,Nat.reduceAdd,Nat.reduceSub,Nat.reduceMul,Nat.reduceLT,Nat.reduceLeDiff,Nat.reduceEqDiff,reduceIte,Int.reduceToNat,Int.reduceLT,Int.reduceLE,Int.reduceEq,Int.reduceNeg,reduceCtorEq,Int.reduceBEq,Int.reduceBNe])|with_reducible refine And.intro (lM af2) ?_|(with_reducible refine And.intro ?_ ?_;first|omega|decide|(simp;done)|(simp;omega)))
  exact hq.out)):Sm G p:=jm (fun r h1=>h r ⟨h1⟩) hq
theorem lB{p q:α->Prop}(hq:Sm G q) (h:∀r,Hid (q r)->p r:=by
 (intro r hq
  (first|(simp only[go_sem,Nat.reduceAdd,Nat.reduceSub,Nat.reduceMul,Nat.reduceLT,Nat.reduceLeDiff,Nat.reduceEqDiff,reduceIte,Int.reduceToNat,Int.reduceLT,Int.reduceLE,Int.reduceEq,Int.reduceNeg,reduceCtorEq,Int.reduceBEq,Int.reduceBNe])|with_reducible refine And.intro (lM af2) ?_|(with_reducible refine And.intro ?_ ?_;first|omega|decide|(simp;done)|(simp;omega)))
  repeat(first|(simp only[go_sem,Nat.reduceAdd,Nat.reduceSub,Nat.reduceMul,Nat.reduceLT,Nat.reduceLeDiff,Nat.reduceEqDiff,reduceIte,Int.reduceToNat,Int.reduceLT,Int.reduceLE,Int.reduceEq,Int.reduceNeg,reduceCtorEq,Int.reduceBEq,Int.reduceBNe])|with_reducible refine And.intro (lM af2) ?_|(with_reducible refine And.intro ?_ ?_;first|omega|decide|(simp;done)|(simp;omega)))
  exact hq.out)):Sm G p:=jm (fun r h1=>h r ⟨h1⟩) hq
theorem bB{c:Opd}{x y:am}{Q:α->Ex->Fr->St->Prop}{t:Bool}(h1:t=true->Sm G fun r=>Tri P nt k x (Q r) fr σ)(h2:t=false->Sm G fun r=>Tri P nt k y (Q r) fr σ)
 (hb:c.ev fr=.bool t:=by first|rfl|(simp only[go_sem];rfl)):Sm G fun r=>Tri P nt k (.cond c x y) (Q r) fr σ:=by
 cases t with
 |true=>exact jm (fun r h=>bM hb (fun _=>h) (fun h=>by cases h)) (h1 rfl)
 |false=>exact jm (fun r h=>bM hb (fun h=>by cases h) (fun _=>h)) (h2 rfl)
theorem eK{p1 p2:Prop}{A B:α->Prop}(h1:p1->Sm G A)(h2:p2->Sm G B)(hx:p1->p2->False:=by intro h1 h2;first|(rw[h1]at h2;cases h2;done)|exact h2 h1|exact h1 h2|(simp_all;done)|omega)
 (ho:p1\/p2:=by first|exact Classical.em _|exact(Classical.em _).symm|exact Bool.eq_false_or_eq_true _|exact(Bool.eq_false_or_eq_true _).symm|(simp;omega)|omega):Sm G fun r=>(p1->A r)/\(p2->B r):=by
 rcases ho with h|h
 ·exact jm (fun r h3=>⟨fun _=>h3,fun h4=>(hx h h4).elim⟩) (h1 h)
 ·exact jm (fun r h3=>⟨fun h4=>(hx h4 h).elim,fun _=>h3⟩) (h2 h)
theorem dt{f:FuncId}{args caps:List AV}{r0:AV}{K:α->AV->St->Prop}(h:PC P f (args++caps) r0)(hk:Sm G fun r=>K r r0 σ):Sm G fun r=>fL P (.fn (.func f) caps) args σ (K r):=jm (fun r h1=>ap h h1) hk
theorem ee{n:Nat}{f:FuncId}{args caps:List AV}{r0:AV}{K:α->AV->List Nat->List Nat->St->Prop}(h:PC P f (args++caps) r0)(hk:Sm G fun r=>K r r0 [] [] σ):
 Sm G fun r=>∃v ft ch σ',lw P n (.fn (.func f) caps) args σ v ft ch σ'/\K r v ft ch σ':=jm (fun r h1=>aP h h1) hk
theorem aa1{c:am}{Q:α->Ex->Fr->St->Prop}{fr2:Fr}{σ2:St}(hg:GC k fr σ fr2 σ2)(h:Sm G fun r=>Tri P nt k c (Q r) fr2 σ2):Sm G fun r=>Tri P nt k c (Q r) fr σ:=jm (fun r h1=>fN hg h1) h
def aar(P:Program)(nt k:Nat)(x:am)(fr:Fr)(σ:St)(fr2:Fr)(σ2:St):Prop:=∀ (z:am) (Q0 Q:Ex->Fr->St->Prop),Tri P nt k z Q0 fr2 σ2->Tri P nt k x (fK (Tri P nt k z Q0) Q) fr σ
theorem Ad{x:am}{fr2:Fr}{σ2:St}(h:Tri P nt k x (fun e fr σ=>e=.normal/\GC k fr σ fr2 σ2) fr σ):aar P nt k x fr σ fr2 σ2:=fun z l Q i=>Tri.mono h fun e g σ3 ⟨j,d⟩=>by
 subst j;exact fN d i
theorem tF{c:Opd}{x y z:am}{Q0 Q:Ex->Fr->St->Prop}{t:Bool}{nv:Nat}{vs:List AV}{ts:List (Nat×AV)}(us:Bool->List (Nat×AV))(S:Bool->St)
 (hx:t=true->Tri P nt k x (fun e fr σ=>e=.normal/\GC k fr σ ⟨nv,fq (us true) vs,[]⟩ (S true)) ⟨nv,vs,ts⟩ σ) (hy:t=false->Tri P nt k y (fun e fr σ=>e=.normal/\GC k fr σ ⟨nv,fq (us false) vs,[]⟩ (S false)) ⟨nv,vs,ts⟩ σ)
 (hz:Tri P nt k z Q0 ⟨nv,fq (us t) vs,[]⟩ (S t)) (hb:c.ev ⟨nv,vs,ts⟩=.bool t:=by first|rfl|(simp only[go_sem];rfl)):Tri P nt k (.cond c x y) (fK (Tri P nt k z Q0) Q) ⟨nv,vs,ts⟩ σ:=by
 cases t with
 |true=>exact bM hb (fun _=>Ad (hx rfl) z Q0 Q hz) (fun h=>by cases h)
 |false=>exact bM hb (fun h=>by cases h) (fun _=>Ad (hy rfl) z Q0 Q hz)
theorem Ip{β:Type}{x z:am}{g Q:α->Ex->Fr->St->Prop}{H:β->Prop}{F:β->Fr}{S:β->St}(h:Sm H fun b=>Tri P nt k x (fun e fr σ=>e=.normal/\GC k fr σ (F b) (S b)) fr σ)
 (j:∀b,H b->Sm G fun r=>Tri P nt k z (g r) (F b) (S b)):Sm G fun r=>Tri P nt k x (fK (Tri P nt k z (g r)) (Q r)) fr σ:=by
 obtain⟨b,l,m⟩:=h;exact jm (fun r i=>Ad m z _ _ i) (j b l)
theorem jE{β:Type}{x z:am}{Q0 Q:α->Ex->Fr->St->Prop}{nv:Nat}{vs:List AV}{ts:List (Nat×AV)}(H:β->Prop)(f:β->List AV)(i:Nat)(us:List (Nat×AV))(h:Sm H fun b=>Tri P nt k x (fun e fr' σ'=>e=.normal/\GC k fr' σ' ⟨nv,fq us vs,[]⟩ (σ.set i (.var (f b)))) ⟨nv,vs,ts⟩ σ)
 (hz:∀b,H b->Sm G fun r=>Tri P nt k z (Q0 r) ⟨nv,fq us vs,[]⟩ (σ.set i (.var (f b)))):Sm G fun r=>Tri P nt k x (fK (Tri P nt k z (Q0 r)) (Q r)) ⟨nv,vs,ts⟩ σ:=Ip (F:=fun _=>⟨nv,fq us vs,[]⟩) (S:=fun b=>σ.set i (.var (f b))) h hz
theorem xn{β:Type}{x z:am}{Q0 Q:α->Ex->Fr->St->Prop}{nv:Nat}{vs:List AV}{ts:List (Nat×AV)}(H:β->Prop)(us:β->List (Nat×AV))(h:Sm H fun b=>Tri P nt k x (fun e fr' σ'=>e=.normal/\GC k fr' σ' ⟨nv,fq (us b) vs,[]⟩ σ) ⟨nv,vs,ts⟩ σ)
 (hz:∀b,H b->Sm G fun r=>Tri P nt k z (Q0 r) ⟨nv,fq (us b) vs,[]⟩ σ):Sm G fun r=>Tri P nt k x (fK (Tri P nt k z (Q0 r)) (Q r)) ⟨nv,vs,ts⟩ σ:=Ip (F:=fun b=>⟨nv,fq (us b) vs,[]⟩) (S:=fun _=>σ) h hz
theorem Da{β:Type}{x z:am}{Q0 Q:α->Ex->Fr->St->Prop}{nv:Nat}{vs:List AV}{ts:List (Nat×AV)}(H:β->Prop)(us:β->List (Nat×AV))(S:β->St)(h:Sm H fun b=>Tri P nt k x (fun e fr' σ'=>e=.normal/\GC k fr' σ' ⟨nv,fq (us b) vs,[]⟩ (S b)) ⟨nv,vs,ts⟩ σ)
 (hz:∀b,H b->Sm G fun r=>Tri P nt k z (Q0 r) ⟨nv,fq (us b) vs,[]⟩ (S b)):Sm G fun r=>Tri P nt k x (fK (Tri P nt k z (Q0 r)) (Q r)) ⟨nv,vs,ts⟩ σ:=Ip (F:=fun b=>⟨nv,fq (us b) vs,[]⟩) (S:=S) h hz
theorem jl{H:α->Prop}{fr1 fr2:Fr}{σ1:St}{S:α->St}(f:α->List AV)(i:Nat){b:α}(hi:σ1[i]?=some (.var (f b)))(hb:H b)(hg:GC k fr1 σ1 fr2 (S b)):Sm H fun r=>GC k fr1 σ1 fr2 (S r):=⟨b,hb,hg⟩
theorem C9{rs:List fS}{F:α->AV}{l:List AV}{b:α}(hl:dy fr σ rs=some l)(hv:fz σ (List.range σ.length) (fJ l)=F b)(hg:G b):Sm G fun r=>PQ rs (F r) .ret fr σ:=⟨b,hg,l,hl,.inl hv⟩
theorem lX{f:FuncId}{g:List fS}{d:am}{args:List AV}{F:α->AV}(b:Nat)(j:cE P f=some (nt,g,d))(n:args.length<=nt)(k:PuL args)(l:∀r,G r->Pu (F r))
 (h:Sm G fun r=>Tri P nt 0 d (PQ g (F r)) ⟨b,args++List.replicate (b-args.length) .dead,[]⟩ []):Sm G fun r=>PC P f args (F r):=by
 obtain⟨r,i,m⟩:=h;exact⟨r,i,PC.fact b j n k (l r i) m⟩
end
section
variable{P:Program}{σ:St}
theorem xW{n:Nat}{loc:Nat->Option Loc}{b:Nat}:¬aV (List.replicate n .gone) loc b:=by
 rintro⟨id,o,L,c,e,_⟩;rw[aec]at c;split at c
 ·simp only[afC]at c;subst c;cases e
 grind
theorem aJ.give{f:FuncId}{args:List AV}{r:AV}(h:PC P f (fzL σ (List.range σ.length) args) r):aJ P f args σ r (List.replicate σ.length .gone):=by
 refine⟨h.call.1,af1,fun X loc w y t n=>?_⟩;obtain⟨c,R,K,W,F⟩:=(lJ σ (List.range σ.length)).rel t;have G:=h.pa
 have x:RlS (aR X c [] w) (fzL σ (List.range σ.length) args) y:=by
  have N:∀ {xs:List AV} {p:List Value},PuL (fzL σ (List.range σ.length) xs)->RlS (aR X loc σ w) xs p->RlS (aR X c [] w) (fzL σ (List.range σ.length) xs) p:=by
   intro xs;induction xs with
   |nil=>intro p _ n;exact n
   | cons a xs H =>
     intro p z n;obtain⟨u,q,e,d,s⟩:=n;exact⟨u,q,e,F a u d _ (z.1.ren _).symm,H z.2 s⟩
  grind
 refine(h.call.2.2 X c w y K x).mono ?_;rintro e w' ⟨v,g,rfl,k,_⟩;have U:g=fun _=>none:=funext fun id=>k.rel.beyond id (afK _)
 refine⟨v,loc,rfl,⟨fun _ _ h=>h,⟨fun id o d s=>?_,fun i j a b S T _ d _ M=>?_,fun b l=>⟨ady (t.out b l).1 k.ev.size,xW⟩,fun id I=>t.beyond id af3⟩,?_,⟨k.ev.size,fun b l C=>k.ev.blk b l (fun D=>af3),k.ev.os,k.ev.tape,k.ev.output⟩,fun b l=>absurd l xW⟩,fun _ _=>rfl⟩
 ·rw[aec]at d;split at d
  ·simp only[afC]at d;subst d;cases s
  grind
 ·rw[aec]at d;split at d
  ·simp only[afC]at d;subst d;cases M
  grind
 ·refine Rl.mono (E:=aR X g [] w') (E':=aR X loc (List.replicate σ.length .gone) w') ⟨fun id L V=>?_,afE _,fun b l C=>⟨fun(Q:X b\/aV _ loc b)=>C (Q.elim .inl fun D=>absurd D xW),rfl⟩⟩ _ _ k.val;grind
end
def Si(σ:St)(zs:List Nat)(ρ:Nat->Nat)(ts:List (Nat×AV)):List (Nat×AV)->Prop
 | []=>True
 |p::r=>fz σ zs (qB ts p.1)=ren ρ p.2/\Si σ zs ρ ts r
theorem Si.get{σ:St}{e:List Nat}{ρ:Nat->Nat}{c:List (Nat×AV)}(t:Nat):∀ {a:List (Nat×AV)},Si σ e ρ c a->qB a t=.dead\/fz σ e (qB c t)=ren ρ (qB a t)
 | [],_=>.inl rfl
 | (u, v) :: r, h => by
   rw[show qB ((u,v)::r) t=if t=u then v else qB r t from rfl];by_cases d:t=u
   ·subst d;rw[afA rfl];exact .inr h.1
   ·rw[afx d];exact Si.get t h.2
section
variable{k:Nat}{σ:St}
theorem GC.mkT{g:Nat}{vs b:List AV}{h c:List (Nat×AV)}{σ2:St}(d a:List Nat)(o:k<=a.length)(l:a.take k=List.range k)(f:a.Nodup)(e:∀j∈a,j<σ.length)(n:gB σ d (rn a σ.length) a σ2)
 (q:gH σ d (rn a σ.length) vs b) (p:Si σ d (rn a σ.length) h c):GC k ⟨g,vs,h⟩ σ ⟨g,b,c⟩ σ2:=by
 refine⟨d,a,⟨fun i r=>?_,f,e,n.len,n.get⟩,o,fun t=>?_⟩
 ·have:(a.take k)[i]?=some i:=af3
  grind
 ·unfold Fr.get;split
  ·exact q.get t
  ·exact p.get t
end
attribute [go_sem] Si qB
def am.tl:Nat->am->am
 |0,c=>c
 |n+1,.seq _ b=>b.tl n
 |_+1,c=>c
def am.hd:am->am
 |.seq a _=>a
 |c=>c
def flat1:AV->Bool
 |.bool _|.int _ _|.str _=>true
 |_=>false
def flat2:AV->Bool
 |.agg cs=>cs.all flat1
 |v=>flat1 v
def flatR:AV->Bool
 |.tup us=>us.all flat2
 |v=>flat2 v
theorem Rl.flat1{E E':Env}{c:AV}{v:Value}(a:flat1 c=true)(h:Rl E c v):Rl E' c v:=by
 cases c<;>first|exact h|cases a
theorem RlC.flat{E E':Env}:∀ {cs:List AV} {vs:List Value},cs.all Go.FH.flat1=true->RlC E cs vs->RlC E' cs vs
 | [],_,_,h=>h
 | c :: cs, _, a, h => by
   obtain⟨u,g,e,f,i,d⟩:=h;rw[ad6,afL]at a;exact⟨u,g,e,f,i.flat1 a.1,RlC.flat a.2 d⟩
theorem Rl.flat2{E E':Env}{c:AV}{v:Value}(a:flat2 c=true)(h:Rl E c v):Rl E' c v:=by
 cases c<;>first|exact h|cases a|skip
 obtain⟨d,e,b⟩:=h;exact⟨d,e,b.flat a⟩
theorem RlS.flat{E E':Env}:∀ {cs:List AV} {vs:List Value},cs.all Go.FH.flat2=true->RlS E cs vs->RlS E' cs vs
 | [],_,_,h=>h
 | c :: cs, _, a, h => by
   obtain⟨u,d,e,g,f⟩:=h;rw[ad6,afL]at a;exact⟨u,d,e,g.flat2 a.1,RlS.flat a.2 f⟩
theorem Rl.flatR{E E':Env}{c:AV}{v:Value}(a:flatR c=true)(h:Rl E c v):Rl E' c v:=by
 cases c<;>first|exact h|omega|exact Rl.flat2 a h|skip
 obtain⟨d,e,b⟩:=h;exact⟨d,e,b.flat a⟩
theorem jQ{p q:Prop}(hq:q) (h:Hid q->p:=by
 (intro hq
  (first|with_reducible (first|refine iz ?_|refine fQ ?_|refine jF (by simp only[afG,afM]) ?_|refine jG ?_|refine i7 ?_|refine lY ?_)|(simp only[go_sem,Nat.reduceAdd,Nat.reduceSub,Nat.reduceMul,Nat.reduceLT,Nat.reduceLeDiff,Nat.reduceEqDiff,reduceIte,Int.reduceToNat,Int.reduceLT,Int.reduceLE,Int.reduceEq,Int.reduceNeg,reduceCtorEq,Int.reduceBEq,Int.reduceBNe])|with_reducible refine And.intro (lM af2) ?_|(with_reducible refine And.intro ?_ ?_;first|omega|decide|(simp;done)|(simp;omega)))
  repeat(first|with_reducible (first|refine iz ?_|refine fQ ?_|refine jF (by simp only[afG,afM]) ?_|refine jG ?_|refine i7 ?_|refine lY ?_)|(simp only[go_sem,Nat.reduceAdd,Nat.reduceSub,Nat.reduceMul,Nat.reduceLT,Nat.reduceLeDiff,Nat.reduceEqDiff,reduceIte,Int.reduceToNat,Int.reduceLT,Int.reduceLE,Int.reduceEq,Int.reduceNeg,reduceCtorEq,Int.reduceBEq,Int.reduceBNe])|with_reducible refine And.intro (lM af2) ?_|(with_reducible refine And.intro ?_ ?_;first|omega|decide|(simp;done)|(simp;omega)))
  exact hq.out)):p:=h ⟨hq⟩
section
variable{P:Program}{σ:St}
theorem aJ.lend{f:FuncId}{args:List AV}{r:AV}(F:flatR r=true)(h:PC P f (fzL σ (List.range σ.length) args) r):aJ P f args σ r σ:=by
 refine⟨h.call.1,afE _,fun X loc w y g n=>?_⟩;obtain⟨c,N,H,O,J⟩:=(lJ σ (List.range σ.length)).rel g;have E:=h.pa
 have s:RlS (aR X c [] w) (fzL σ (List.range σ.length) args) y:=by
  have G:∀ {xs:List AV} {p:List Value},PuL (fzL σ (List.range σ.length) xs)->RlS (aR X loc σ w) xs p->RlS (aR X c [] w) (fzL σ (List.range σ.length) xs) p:=by
   intro xs;induction xs with
   |nil=>intro p _ n;exact n
   | cons a xs I =>
     intro p x n;obtain⟨u,q,e,k,t⟩:=n;exact⟨u,q,e,J a u k _ (x.1.ren _).symm,I x.2 t⟩
  grind
 refine(h.call.2.2 X c w y H s).mono ?_;rintro e w' ⟨v,B,rfl,d,_⟩;have j:∀b,¬aV [] c b:=fun b K=>by obtain⟨id,o,L,k,_⟩:=K;grind
 have i:Ev (aV σ loc) w w':=⟨d.ev.size,fun b l Q=>d.ev.blk b l (j b),d.ev.os,d.ev.tape,d.ev.output⟩
 exact⟨v,loc,rfl,⟨fun _ _ h=>h,g.change (fun _ _ h=>h) i (fun b l=>.inl l) g.beyond (fun id o k t=>.inl ⟨k,fun L M C=>d.ev.blk _ (aV.lt g ⟨id,o,L,k,t,M,C,rfl⟩) (j _)⟩) g.apart,
  d.val.flatR F,i,fun b l=>.inl l⟩,fun _ _=>rfl⟩
end
end Go.FH
namespace Go.FH
def om(d s:Nat):cS:=⟨some d,.mv (.t s),none⟩
def oo(d:Nat)(op:AOp):cS:=⟨some d,op,none⟩
def on(op:AOp):cS:=⟨none,op,none⟩
def omg(d s t:Nat)(b:Bool):cS:=⟨some d,.mv (.t s),some (t,b)⟩
def og(d:Nat)(op:AOp)(t:Nat)(b:Bool):cS:=⟨some d,op,some (t,b)⟩
def ong(op:AOp)(t:Nat)(b:Bool):cS:=⟨none,op,some (t,b)⟩
def ci(n:Int):Opd:=.c (.int .i64 n)
def cu(n:Int):Opd:=.c (.int .u64 n)
def cb(b:Bool):Opd:=.c (.bool b)
def cf(n:Nat):Opd:=.c (.fn (.func n) [])
def fA(d o x:Nat):cS:=⟨some d,.fldA o (.t x),none⟩
def lA(d n x:Nat):cS:=⟨some d,.ld true n (.t x),none⟩
def lF(d n x:Nat):cS:=⟨some d,.ld false n (.t x),none⟩
def bI(d:Nat)(o:BinOp)(x y:Nat):cS:=⟨some d,.bin o (.t x) (.t y),none⟩
def bC(d:Nat)(o:BinOp)(x:Nat)(c:Opd):cS:=⟨some d,.bin o (.t x) c,none⟩
def sO(n x y:Nat):cS:=⟨none,.sto n (.t x) (.t y),none⟩
def eX(d i x:Nat):cS:=⟨some d,.ext i (.t x),none⟩
def lN(d x:Nat):cS:=⟨some d,.len false (.t x),none⟩
def iX(d e x y:Nat):cS:=⟨some d,.idxS e (.t x) (.t y),none⟩
def kA(d f x:Nat):cS:=⟨some d,.call (cf f) [.t x],none⟩
def kB(d f x y:Nat):cS:=⟨some d,.call (cf f) [.t x,.t y],none⟩
def kC(d f x y z:Nat):cS:=⟨some d,.call (cf f) [.t x,.t y,.t z],none⟩
def sR(l:List cS)(x:am):am:=.seq (.reg l) x
def cN(c:Nat)(x y:am):am:=.cond (.t c) x y
def wA(d o x t:Nat):cS:=⟨some d,.fldA o (.t x),some (t,false)⟩
def wB(d o x t:Nat):cS:=⟨some d,.fldA o (.t x),some (t,true)⟩
def wC(d n x t:Nat):cS:=⟨some d,.ld false n (.t x),some (t,false)⟩
def wD(d n x t:Nat):cS:=⟨some d,.ld false n (.t x),some (t,true)⟩
def wE(d n x t:Nat):cS:=⟨some d,.ld true n (.t x),some (t,false)⟩
def wF(d n x t:Nat):cS:=⟨some d,.ld true n (.t x),some (t,true)⟩
def wG(d s t:Nat):cS:=⟨some d,.mv (.t s),some (t,false)⟩
def wH(d s t:Nat):cS:=⟨some d,.mv (.t s),some (t,true)⟩
def wI(d:Nat)(o:BinOp)(x y t:Nat):cS:=⟨some d,.bin o (.t x) (.t y),some (t,false)⟩
def wJ(d:Nat)(o:BinOp)(x y t:Nat):cS:=⟨some d,.bin o (.t x) (.t y),some (t,true)⟩
def wK(d:Nat)(o:BinOp)(x:Nat)(c:Opd)(t:Nat):cS:=⟨some d,.bin o (.t x) c,some (t,false)⟩
def wL(d:Nat)(o:BinOp)(x:Nat)(c:Opd)(t:Nat):cS:=⟨some d,.bin o (.t x) c,some (t,true)⟩
def wM(d a b:Nat):cS:=⟨some d,.pick (.t a) (cb true) (.t b),none⟩
def wN(d a b:Nat):cS:=⟨some d,.pick (.t a) (.t b) (cb false),none⟩
def wO(d x:Nat):cS:=⟨some d,.un .not (.t x),none⟩
def wP(d x t:Nat):cS:=⟨some d,.un .not (.t x),some (t,false)⟩
def wQ(d x t:Nat):cS:=⟨some d,.un .not (.t x),some (t,true)⟩
def wR(d:Nat)(n:Int):cS:=⟨some d,.mv (ci n),none⟩
def wS(d:Nat)(b:Bool):cS:=⟨some d,.mv (cb b),none⟩
def wT(d n x i t:Nat):cS:=⟨some d,.idxS n (.t x) (.t i),some (t,false)⟩
def wU(d n x i t:Nat):cS:=⟨some d,.idxS n (.t x) (.t i),some (t,true)⟩
def wV(d f x t:Nat):cS:=⟨some d,.call (cf f) [.t x],some (t,false)⟩
def wW(d f x t:Nat):cS:=⟨some d,.call (cf f) [.t x],some (t,true)⟩
def wX(d f x y t:Nat):cS:=⟨some d,.call (cf f) [.t x,.t y],some (t,false)⟩
def wY(d f x y t:Nat):cS:=⟨some d,.call (cf f) [.t x,.t y],some (t,true)⟩
def wZ(d n x:Nat):cS:=⟨some d,.box n (.t x),none⟩
section
def zlO{r:List AV}(l:List AV)(h:r=l:=by(conv=>rhs;reduce)):{x // x=l}:=⟨r,h⟩
def zO1:=zlO (cG aaZ)
def zO2:=zlO (aG mB)
def zO3:=zlO (ak i6)
def zO4:=zlO (aT kr)
def zO5:=zlO (au dx)
def zO6:=zlO (dU qL)
def zO7:=zlO (cK qj)
def zO8:=zlO (cV rl)
def zO9:=zlO (gc KE)
def aa9:=zlO (ay gU)
def aba:=zlO (dB WV)
def abb:=zlO (bE ot)
def abc:=zlO (dZ jn)
def abd:=zlO (bJ eY)
def abe:=zlO (cpC cp0)
def abf:=zlO (gr Xl)
def abg:=zlO (rtc rt0)
def abh:=zlO (wdc wd0)
def abi:=zlO (bH jB)
theorem nfT{p:Prop} (h:p:=by
 have z1:=zO1.2;have z2:=zO2.2;have z3:=zO3.2;have z4:=zO4.2;have z5:=zO5.2;have z6:=zO6.2;have z7:=zO7.2;have z8:=zO8.2;have z9:=zO9.2;have z10:=aa9.2;have z11:=aba.2;have z12:=abb.2;have z13:=abc.2;have z14:=abd.2;have z15:=abe.2;have z16:=abf.2;have z17:=abg.2;have z18:=abh.2;have z19:=abi.2;unfold zO1 zlO at z1;unfold zO2 zlO at z2;unfold zO3 zlO at z3;unfold zO4 zlO at z4;unfold zO5 zlO at z5;unfold zO6 zlO at z6;unfold zO7 zlO at z7;unfold zO8 zlO at z8;unfold zO9 zlO at z9;unfold aa9 zlO at z10;unfold aba zlO at z11;unfold abb zlO at z12;unfold abc zlO at z13;unfold abd zlO at z14;unfold abe zlO at z15;unfold abf zlO at z16;unfold abg zlO at z17;unfold abh zlO at z18;unfold abi zlO at z19;dsimp only at z1 z2 z3 z4 z5 z6 z7 z8 z9 z10 z11 z12 z13 z14 z15 z16 z17 z18 z19;(conv=>lhs;reduce;(try simp only[↓z1,↓z2,↓z3,↓z4,↓z5,↓z6,↓z7,↓z8,↓z9,↓z10,↓z11,↓z12,↓z13,↓z14,↓z15,↓z16,↓z17,↓z18,↓z19]))):p:=h
def nfO(f:FuncId){P:Program}{n:Nat}{rs:List fS}{c:am}(_h:cE P f=some (n,rs,c):=by exact nfT):am:=c
end
theorem bd{p q:Prop}(hq:q)(h:Hid q->p:=by(intro hq;dsimp only[nfO,Int.reduceOfNat,Int.reduceNegSucc,wA,wB,wC,wD,wE,wF,wG,wH,wI,wJ,wK,wL,wM,wN,wO,wP,wQ,wR,wS,wT,wU,wV,wW,wX,wY,wZ,om,oo,on,omg,og,ong,ci,cu,cb,cf,fA,lA,lF,bI,bC,sO,eX,lN,iX,kA,kB,kC,sR,cN];exact hq.out)):p:=h ⟨hq⟩
theorem inT{i n:Nat}(h:i<n):decide ((i:Int)<((n:Nat):Int))=true:=aeQ af0
theorem inF(n:Nat):decide (((n:Nat):Int)<((n:Nat):Int))=false:=decide_eq_false af0
theorem fM{p q:Prop}(hq:q)(h:Hid q->p:=by(intro hq;(try simp only[dS,dE,act,acx]);exact hq.out)):p:=h ⟨hq⟩
theorem puA{p:Prop}(h:p:=by simp[PuL,Pu,fU,aY,iP,dH,jK,gG,rA,gf,lZ,mb,gg,nL,kv,ma,af.pul,al.pul,aX.pul,aB.pul,gi.pul,gK.pul,cI.pul,VOp.pul,kE,ky,gW,kD,eT,kx,i9,mc,gh,jw]):p:=h
theorem aj{fr:Fr}{σ:St}{rs:List fS}{r:AV}{l:List AV}(hl:dy fr σ rs=some l:=by first|rfl|exact evd)(hv:fz σ (List.range σ.length) (fJ l)=r:=by exact evd):
 ∃l,dy fr σ rs=some l/\(fz σ (List.range σ.length) (fJ l)=r\/∃r0,fz σ (List.range σ.length) (fJ l)=r0/\Pu r0/\Wk r0 r):=⟨l,hl,.inl hv⟩
section
variable{P:Program}{nt k:Nat}{fr:Fr}{σ:St}{c:Opd}{x y:am}{Q:Ex->Fr->St->Prop}{q:Prop}
theorem aac(hq:q)(hb:c.ev fr=.bool true:=by exact evd)(h:Hid q->Tri P nt k x Q fr σ:=by(intro hq;(try refine aM ?_);exact hq.out)):Tri P nt k (.cond c x y) Q fr σ:=aq (h ⟨hq⟩) hb
theorem aab(hq:q)(hb:c.ev fr=.bool false:=by exact evd)(h:Hid q->Tri P nt k y Q fr σ:=by(intro hq;(try refine aM ?_);exact hq.out)):Tri P nt k (.cond c x y) Q fr σ:=aI (h ⟨hq⟩) hb
theorem abl{f:FuncId}{args caps:List AV}{r:AV}{K:AV->St->Prop}(h:PC P f (args++caps) r)(hq:q)(hk:Hid q->K r σ:=by(intro hq;(try refine aM ?_);exact hq.out)):fL P (.fn (.func f) caps) args σ K:=ap h (hk ⟨hq⟩)
theorem abS{nv:Nat}{vs vs2:List AV}{ts:List (Nat×AV)}{σ2:St}(zs js:List Nat)(hk:k<=js.length:=by simp)(hfix:js.take k=List.range k:=by rfl)(hnd:js.Nodup:=by simp)(hlt:∀j∈js,j<σ.length:=by simp)(ho:gB σ zs (rn js σ.length) js σ2:=by exact evd)
 (hs:gH σ zs (rn js σ.length) vs vs2:=by exact evd):GC k ⟨nv,vs,ts⟩ σ ⟨nv,vs2,[]⟩ σ2:=GC.mk' zs js hk hfix hnd hlt ho hs
theorem abF{rs:List fS}{r:AV}{σ':St}{l:List AV}{e:Ex}(zs js:List Nat)(he:∀i,e≠.exit i:=by simp)(hl:dy fr σ rs=some l:=by first|rfl|exact evd)(hk:k<=js.length:=by simp)(hfix:js.take k=List.range k:=by rfl)(hnd:js.Nodup:=by simp)(hlt:∀j∈js,j<σ.length:=by simp)(ho:gB σ zs (rn js σ.length) js σ':=by exact evd)
 (hr:fz σ zs (fJ l)=ren (rn js σ.length) r:=by exact evd):xC rs k σ' r e fr σ:=bp zs js e he hl hk hfix hnd hlt ho hr
end
open Go Go.RowKit
def aH{α:Type}(f:Nat->α->α)(a:α):Nat->α
 |0=>a
 |n+1=>f n (aH f a n)
theorem Dy{α:Type}(f:Nat->α->α)(a:α):aH f a 0=a:=rfl
theorem UV(k:IntKind):ah k []=[]:=rfl
attribute [go_sem] Dy UV
theorem bg{α:Type}(f:Nat->α->α)(a:α)(n:Nat):aH f a (n+1)=f n (aH f a n):=rfl
theorem dp{α:Type}{f:Nat->α->α}{a:α}(I:Nat->α->Prop)(h0:I 0 a)(n:Nat)(hs:∀i x,i<n->I i x->I (i+1) (f i x)):∀i,i<=n->I i (aH f a i)
 |0,_=>h0
 |i+1,hi=>hs i _ af0 (dp I h0 n hs i af0)
theorem ow{α:Type}{f g:Nat->α->α}{a:α}:∀ {n:Nat},(∀i x,i<n->f i x=g i x)->aH f a n=aH g a n
 |0,_=>rfl
 |n+1,h=>by rw[bg,bg,ow fun i x hi=>h i x af0,h n _ af0]
theorem jI{β:Type}{f:Nat->List β->List β}{a:List β}(h:∀i l,(f i l).length<=l.length+1):∀n,(aH f a n).length<=a.length+n
 |0=>afE _
 |n+1=>by rw[bg];have:=h n (aH f a n);have:=jI h (a:=a) n;omega
def gl(p:Nat->Bool):Nat->Nat->Option Nat
 |0,_=>none
 |f+1,i=>if p i=true then some i else gl p f (i+1)
def cm(p:Nat->Bool)(n:Nat):Option Nat:=gl p n 0
theorem jP{p:Nat->Bool}{n i:Nat}(hi:i<n)(h:p i=true):gl p (n-i) i=some i:=by
 obtain⟨f,hf⟩:∃f,n-i=f+1:=⟨n-i-1,af0⟩
 rw[hf];show (if p i=true then _ else _)=_;rw[afA h]
theorem jt{p:Nat->Bool}{n i:Nat}(hi:i<n)(h:p i=false):gl p (n-i) i=gl p (n-(i+1)) (i+1):=by
 obtain⟨f,hf⟩:∃f,n-i=f+1:=⟨n-i-1,af0⟩
 rw[hf,show n-(i+1)=f by omega];show (if p i=true then _ else _)=_;rw[afx (by simp[h])]
theorem lK(p:Nat->Bool)(n:Nat):gl p (n-n) n=none:=by rw[aey];rfl
theorem FO{p:Nat->Bool}:∀ {f i j:Nat},gl p f i=some j->i<=j/\j<i+f/\p j=true/\∀k,i<=k->k<j->p k=false
 |0,_,_,h=>by cases h
 | f + 1, i, j, h => by
   unfold gl at h;by_cases hp:p i=true
   ·rw[afA hp]at h;cases h;exact⟨afE _,af0,hp,fun k h1 h2=>af0⟩
   ·rw[afx hp]at h;obtain⟨h1,h2,h3,h4⟩:=FO h;refine⟨af0,af0,h3,fun k k1 k2=>?_⟩;by_cases hk:k=i
    ·subst hk;simpa using hp
    ·exact h4 k af0 k2
theorem FN{p:Nat->Bool}:∀ {f i:Nat},gl p f i=none->∀k,i<=k->k<i+f->p k=false
 |0,_,_,k,h1,h2=>by omega
 | f + 1, i, h, k, h1, h2 => by
   unfold gl at h;by_cases hp:p i=true
   ·rw[afA hp]at h;cases h
   ·rw[afx hp]at h;by_cases hk:k=i
    ·subst hk;simpa using hp
    ·exact FN h k af0 af0
theorem cJ{p:Nat->Bool}{n j:Nat}(h:cm p n=some j):j<n/\p j=true/\∀k,k<j->p k=false:=by
 obtain⟨h1,h2,h3,h4⟩:=FO h;exact⟨af0,h3,fun k hk=>h4 k (afK _) hk⟩
theorem fh{p:Nat->Bool}{n:Nat}(h:cm p n=none):∀k,k<n->p k=false:=fun k hk=>FN h k (afK _) af0
def wo(p:Nat->Bool):Nat->Option Nat
 |0=>none
 |n+1=>if p n=true then some n else wo p n
theorem UE(p:Nat->Bool):wo p 0=none:=rfl
theorem UD{p:Nat->Bool}{n:Nat}(h:p n=true):wo p (n+1)=some n:=by unfold wo;rw[afA h]
theorem UC{p:Nat->Bool}{n:Nat}(h:p n=false):wo p (n+1)=wo p n:=by rw[wo,afx (by simp[h])]
theorem ye{p:Nat->Bool}:∀ {n j:Nat},wo p n=some j->j<n/\p j=true/\∀k,j<k->k<n->p k=false
 |0,_,h=>by cases h
 | n + 1, j, h => by
   unfold wo at h;by_cases hp:p n=true
   ·rw[afA hp]at h;cases h;exact⟨af0,hp,fun k h1 h2=>af0⟩
   ·rw[afx hp]at h;obtain⟨h1,h2,h3⟩:=ye h;refine⟨af0,h2,fun k k1 k2=>?_⟩;by_cases hk:k=n
    ·subst hk;simpa using hp
    ·exact h3 k k1 af0
def ng(o:Option Nat):Int:=match o with
 |some i=>(i:Int)
 |none=>-1
theorem iu(i:Nat):ng (some i)=(i:Int):=rfl
theorem j7:ng none=-1:=rfl
attribute [go_sem] iu j7
theorem aA{p q A0:Prop}(a0:A0)(hq:q)(h:A0->Hid q->p:=by(intro a0 hq;(repeat(first|refine aM ?_|simp only[go_sem,a0]));exact hq.out)):p:=h a0 ⟨hq⟩
theorem bm{p q A0 A1:Prop}(a0:A0)(a1:A1)(hq:q)(h:A0->A1->Hid q->p:=by(intro a0 a1 hq;(repeat(first|refine aM ?_|simp only[go_sem,a0,a1]));exact hq.out)):p:=h a0 a1 ⟨hq⟩
theorem eS{p q A0 A1 A2:Prop}(a0:A0)(a1:A1)(a2:A2)(hq:q)(h:A0->A1->A2->Hid q->p:=by(intro a0 a1 a2 hq;(repeat(first|refine aM ?_|simp only[go_sem,a0,a1,a2]));exact hq.out)):p:=h a0 a1 a2 ⟨hq⟩
theorem fk{p q A0 A1 A2 A3:Prop}(a0:A0)(a1:A1)(a2:A2)(a3:A3)(hq:q)(h:A0->A1->A2->A3->Hid q->p:=by(intro a0 a1 a2 a3 hq;(repeat(first|refine aM ?_|simp only[go_sem,a0,a1,a2,a3]));exact hq.out)):p:=h a0 a1 a2 a3 ⟨hq⟩
theorem ec{p q A0 A1 A2 A3 A4:Prop}(a0:A0)(a1:A1)(a2:A2)(a3:A3)(a4:A4)(hq:q)(h:A0->A1->A2->A3->A4->Hid q->p:=by(intro a0 a1 a2 a3 a4 hq;(repeat(first|refine aM ?_|simp only[go_sem,a0,a1,a2,a3,a4]));exact hq.out)):p:=h a0 a1 a2 a3 a4 ⟨hq⟩
theorem gO{p q A0 A1 A2 A3 A4 A5:Prop}(a0:A0)(a1:A1)(a2:A2)(a3:A3)(a4:A4)(a5:A5)(hq:q)(h:A0->A1->A2->A3->A4->A5->Hid q->p:=by(intro a0 a1 a2 a3 a4 a5 hq;(repeat(first|refine aM ?_|simp only[go_sem,a0,a1,a2,a3,a4,a5]));exact hq.out)):p:=h a0 a1 a2 a3 a4 a5 ⟨hq⟩
theorem lx{p q A0 A1 A2 A3 A4 A5 A6:Prop}(a0:A0)(a1:A1)(a2:A2)(a3:A3)(a4:A4)(a5:A5)(a6:A6)(hq:q)(h:A0->A1->A2->A3->A4->A5->A6->Hid q->p:=by(intro a0 a1 a2 a3 a4 a5 a6 hq;(repeat(first|refine aM ?_|simp only[go_sem,a0,a1,a2,a3,a4,a5,a6]));exact hq.out)):p:=h a0 a1 a2 a3 a4 a5 a6 ⟨hq⟩
theorem pL{p q A0 A1 A2 A3 A4 A5 A6 A7:Prop}(a0:A0)(a1:A1)(a2:A2)(a3:A3)(a4:A4)(a5:A5)(a6:A6)(a7:A7)(hq:q)(h:A0->A1->A2->A3->A4->A5->A6->A7->Hid q->p:=by(intro a0 a1 a2 a3 a4 a5 a6 a7 hq;(repeat(first|refine aM ?_|simp only[go_sem,a0,a1,a2,a3,a4,a5,a6,a7]));exact hq.out)):p:=h a0 a1 a2 a3 a4 a5 a6 a7 ⟨hq⟩
theorem gon{p q:Prop}(hq:q)(h:Hid q->p:=by(intro hq;(try refine aM ?_);exact hq.out)):p:=h ⟨hq⟩
theorem ax{p:Prop}[Decidable p](h:p):decide p=true:=aeQ h
theorem aD{p:Prop}[Decidable p](h:¬p):decide p=false:=decide_eq_false h
theorem uv{p A0:Prop}(a0:A0)(h:A0->p:=by(intro a0;(try simp only[go_sem,Nat.reduceAdd,Nat.reduceSub,Nat.reduceMul,Nat.reduceLT,Nat.reduceLeDiff,Nat.reduceEqDiff,reduceIte,Int.reduceToNat,Int.reduceLT,Int.reduceLE,Int.reduceEq,Int.reduceNeg,reduceCtorEq,Int.reduceBEq,Int.reduceBNe,a0]);all_goals rfl)):p:=h a0
theorem Tx{p A0 A1:Prop}(a0:A0)(a1:A1)(h:A0->A1->p:=by(intro a0 a1;(try simp only[go_sem,Nat.reduceAdd,Nat.reduceSub,Nat.reduceMul,Nat.reduceLT,Nat.reduceLeDiff,Nat.reduceEqDiff,reduceIte,Int.reduceToNat,Int.reduceLT,Int.reduceLE,Int.reduceEq,Int.reduceNeg,reduceCtorEq,Int.reduceBEq,Int.reduceBNe,a0,a1]);all_goals rfl)):p:=h a0 a1
theorem oce{P:Program}{f:FuncId}{xs caps args:List AV}{σ σs σs':St}{r:AV}{q:Prop}{K:AV->St->Prop}(js:List Nat)(h:aJ P f args σs r σs')(hq:q)(hx:xs++caps=dN (rn js σ.length) args:=by exact evd)(hp:iH σ js σs:=by exact iH.mk' af1 evd)(hk:Hid q->K (ren (rn js σ.length) r) (aN σ js σs'):=by(intro hq;refine evg ?_;exact hq.out)):fL P (.fn (.func f) caps) xs σ K:=F9 js h hx hp (hk ⟨hq⟩)
theorem dce{P:Program}{f:FuncId}{xs caps args:List AV}{σ σs σs':St}{r:AV}{q:Prop}{K:AV->List Nat->List Nat->St->Prop}{n:Nat}(js:List Nat)(h:aJ P f args σs r σs')(hq:q)(hl:σs'.length=js.length:=by simp)(hx:xs++caps=dN (rn js σ.length) args:=by exact evd)(hp:iH σ js σs:=by exact iH.mk' af1 evd)(hk:Hid q->K (ren (rn js σ.length) r) js js (aN σ js σs'):=by(intro hq;refine evg ?_;exact hq.out)):∃v ft ch σ',lw P n (.fn (.func f) caps) xs σ v ft ch σ'/\K v ft ch σ':=aaB js h hl hx hp (hk ⟨hq⟩)
theorem dre{P:Program}{f:FuncId}{xs caps args:List AV}{σ σs:St}{r:AV}{q:Prop}{K:AV->List Nat->List Nat->St->Prop}{n:Nat}(js:List Nat)(h:aJ P f args σs r σs)(hq:q)(hx:xs++caps=dN (rn js σ.length) args:=by exact evd)(hp:iH σ js σs:=by exact iH.mk' af1 evd)(hk:Hid q->K (ren (rn js σ.length) r) js [] σ:=by(intro hq;refine evg ?_;exact hq.out)):∃v ft ch σ',lw P n (.fn (.func f) caps) xs σ v ft ch σ'/\K v ft ch σ':=To js h hx hp (hk ⟨hq⟩)
theorem dse{P:Program}{f:FuncId}{xs caps args:List AV}{σ σs σs':St}{r:AV}{q:Prop}{K:AV->List Nat->List Nat->St->Prop}{n:Nat}(js:List Nat)(h:aJ P f args σs r σs')(hq:q)(hl:σs'.length=js.length+1:=by simp)(hx:xs++caps=dN (rn (js++[n]) σ.length) args:=by exact evd)(hp:qP σ js (js++[n]) σs:=by exact qP.mk' af1 af1 evd)(hk:Hid q->K (ren (rn (js++[n]) σ.length) r) (js++[n]) (js++[n]) (aN σ (js++[n]) σs'):=by(intro hq;refine evg ?_;exact hq.out)):∃v ft ch σ',lw P n (.fn (.func f) caps) xs σ v ft ch σ'/\K v ft ch σ':=Bv js h hl hx hp (hk ⟨hq⟩)
theorem ocg{P:Program}{f:FuncId}{xs caps args:List AV}{σ σs σs':St}{r:AV}{q:Prop}{K:AV->St->Prop}(js:List Nat)(h:aJ P f args σs r σs')(hq:q)(hx:xs++caps=dN (rn js σ.length) args:=by exact evd)(hp:iH σ js σs:=by exact iH.mk' af1 evd)(hk:Hid q->K (ren (rn js σ.length) r) (aN σ js σs'):=by(intro hq;refine evg ?_;(try refine aM ?_);exact hq.out)):fL P (.fn (.func f) caps) xs σ K:=F9 js h hx hp (hk ⟨hq⟩)
theorem drg{P:Program}{f:FuncId}{xs caps args:List AV}{σ σs:St}{r:AV}{q:Prop}{K:AV->List Nat->List Nat->St->Prop}{n:Nat}(js:List Nat)(h:aJ P f args σs r σs)(hq:q)(hx:xs++caps=dN (rn js σ.length) args:=by exact evd)(hp:iH σ js σs:=by exact iH.mk' af1 evd)(hk:Hid q->K (ren (rn js σ.length) r) js [] σ:=by(intro hq;refine evg ?_;(try refine aM ?_);exact hq.out)):∃v ft ch σ',lw P n (.fn (.func f) caps) xs σ v ft ch σ'/\K v ft ch σ':=To js h hx hp (hk ⟨hq⟩)
theorem dsg{P:Program}{f:FuncId}{xs caps args:List AV}{σ σs σs':St}{r:AV}{q:Prop}{K:AV->List Nat->List Nat->St->Prop}{n:Nat}(js:List Nat)(h:aJ P f args σs r σs')(hq:q)(hl:σs'.length=js.length+1:=by simp)(hx:xs++caps=dN (rn (js++[n]) σ.length) args:=by exact evd)(hp:qP σ js (js++[n]) σs:=by exact qP.mk' af1 af1 evd)(hk:Hid q->K (ren (rn (js++[n]) σ.length) r) (js++[n]) (js++[n]) (aN σ (js++[n]) σs'):=by(intro hq;refine evg ?_;(try refine aM ?_);exact hq.out)):∃v ft ch σ',lw P n (.fn (.func f) caps) xs σ v ft ch σ'/\K v ft ch σ':=Bv js h hl hx hp (hk ⟨hq⟩)
theorem afn{P:Program}{nt:Nat}{f:FuncId}{rs:List fS}{ac:am}{args:List AV}{r:AV}{σ σ':St}(nv:Nat)(hf:cE P f=some (nt,rs,ac))(h:Tri P nt σ.length ac (xC rs σ.length σ' r) ⟨nv,args++List.replicate (nv-args.length) .dead,[]⟩ σ)(ha:args.length<=nt:=by simp)(hl:σ.length<=σ'.length:=by simp):aJ P f args σ r σ':=aJ.fact nv hf ha h hl
theorem pfn{P:Program}{nt:Nat}{f:FuncId}{rs:List fS}{ac:am}{args:List AV}{r:AV}(nv:Nat)(hf:cE P f=some (nt,rs,ac))(h:Tri P nt 0 ac (PQ rs r) ⟨nv,args++List.replicate (nv-args.length) .dead,[]⟩ [])(ha:args.length<=nt:=by simp)(hp:PuL args:=by exact puA)(hr:Pu r:=by exact puA):PC P f args r:=PC.fact nv hf ha hp hr h
theorem d6{p q:Prop}(hq:q)(h:Hid q->p:=by(intro hq;(try refine aM ?_);refine aI ?_;exact hq.out)):p:=h ⟨hq⟩
theorem bY{p q:Prop}(hq:q)(h:Hid q->p:=by(intro hq;(try refine aM ?_);refine aI ?_;(try refine aM ?_);exact hq.out)):p:=h ⟨hq⟩
theorem kT{p q:Prop}(hq:q)(h:Hid q->p:=by(intro hq;(try refine aM ?_);refine aq ?_;exact hq.out)):p:=h ⟨hq⟩
theorem bD{p q:Prop}(hq:q)(h:Hid q->p:=by(intro hq;(try refine aM ?_);refine aq ?_;(try refine aM ?_);exact hq.out)):p:=h ⟨hq⟩
theorem da{p q A0:Prop}(a0:A0)(hq:q)(h:A0->Hid q->p:=by(intro a0 hq;(repeat(first|refine aM ?_|simp only[go_sem,a0]));refine aI ?_;exact hq.out)):p:=h a0 ⟨hq⟩
theorem aS{p q A0:Prop}(a0:A0)(hq:q)(h:A0->Hid q->p:=by(intro a0 hq;(repeat(first|refine aM ?_|simp only[go_sem,a0]));refine aI ?_;(try refine aM ?_);exact hq.out)):p:=h a0 ⟨hq⟩
theorem bO{p q A0:Prop}(a0:A0)(hq:q)(h:A0->Hid q->p:=by(intro a0 hq;(repeat(first|refine aM ?_|simp only[go_sem,a0]));refine aq ?_;exact hq.out)):p:=h a0 ⟨hq⟩
theorem aW{p q A0:Prop}(a0:A0)(hq:q)(h:A0->Hid q->p:=by(intro a0 hq;(repeat(first|refine aM ?_|simp only[go_sem,a0]));refine aq ?_;(try refine aM ?_);exact hq.out)):p:=h a0 ⟨hq⟩
theorem iJ{p q A0 A1:Prop}(a0:A0)(a1:A1)(hq:q)(h:A0->A1->Hid q->p:=by(intro a0 a1 hq;(repeat(first|refine aM ?_|simp only[go_sem,a0,a1]));refine aI ?_;exact hq.out)):p:=h a0 a1 ⟨hq⟩
theorem pi{p q A0 A1:Prop}(a0:A0)(a1:A1)(hq:q)(h:A0->A1->Hid q->p:=by(intro a0 a1 hq;(repeat(first|refine aM ?_|simp only[go_sem,a0,a1]));refine aI ?_;(try refine aM ?_);exact hq.out)):p:=h a0 a1 ⟨hq⟩
theorem Om{p q A0 A1:Prop}(a0:A0)(a1:A1)(hq:q)(h:A0->A1->Hid q->p:=by(intro a0 a1 hq;(repeat(first|refine aM ?_|simp only[go_sem,a0,a1]));refine aq ?_;exact hq.out)):p:=h a0 a1 ⟨hq⟩
theorem dV{p q A0 A1:Prop}(a0:A0)(a1:A1)(hq:q)(h:A0->A1->Hid q->p:=by(intro a0 a1 hq;(repeat(first|refine aM ?_|simp only[go_sem,a0,a1]));refine aq ?_;(try refine aM ?_);exact hq.out)):p:=h a0 a1 ⟨hq⟩
theorem uA{p q A0 A1 A2:Prop}(a0:A0)(a1:A1)(a2:A2)(hq:q)(h:A0->A1->A2->Hid q->p:=by(intro a0 a1 a2 hq;(repeat(first|refine aM ?_|simp only[go_sem,a0,a1,a2]));refine aI ?_;exact hq.out)):p:=h a0 a1 a2 ⟨hq⟩
theorem xX{p q A0 A1 A2:Prop}(a0:A0)(a1:A1)(a2:A2)(hq:q)(h:A0->A1->A2->Hid q->p:=by(intro a0 a1 a2 hq;(repeat(first|refine aM ?_|simp only[go_sem,a0,a1,a2]));refine aI ?_;(try refine aM ?_);exact hq.out)):p:=h a0 a1 a2 ⟨hq⟩
theorem BP{p q A0 A1 A2:Prop}(a0:A0)(a1:A1)(a2:A2)(hq:q)(h:A0->A1->A2->Hid q->p:=by(intro a0 a1 a2 hq;(repeat(first|refine aM ?_|simp only[go_sem,a0,a1,a2]));refine aq ?_;exact hq.out)):p:=h a0 a1 a2 ⟨hq⟩
theorem kU{p q A0 A1 A2:Prop}(a0:A0)(a1:A1)(a2:A2)(hq:q)(h:A0->A1->A2->Hid q->p:=by(intro a0 a1 a2 hq;(repeat(first|refine aM ?_|simp only[go_sem,a0,a1,a2]));refine aq ?_;(try refine aM ?_);exact hq.out)):p:=h a0 a1 a2 ⟨hq⟩
theorem BQ{p q A0 A1 A2 A3:Prop}(a0:A0)(a1:A1)(a2:A2)(a3:A3)(hq:q)(h:A0->A1->A2->A3->Hid q->p:=by(intro a0 a1 a2 a3 hq;(repeat(first|refine aM ?_|simp only[go_sem,a0,a1,a2,a3]));refine aI ?_;exact hq.out)):p:=h a0 a1 a2 a3 ⟨hq⟩
theorem On{p q A0 A1 A2 A3:Prop}(a0:A0)(a1:A1)(a2:A2)(a3:A3)(hq:q)(h:A0->A1->A2->A3->Hid q->p:=by(intro a0 a1 a2 a3 hq;(repeat(first|refine aM ?_|simp only[go_sem,a0,a1,a2,a3]));refine aq ?_;exact hq.out)):p:=h a0 a1 a2 a3 ⟨hq⟩
theorem BR{p q A0 A1 A2 A3:Prop}(a0:A0)(a1:A1)(a2:A2)(a3:A3)(hq:q)(h:A0->A1->A2->A3->Hid q->p:=by(intro a0 a1 a2 a3 hq;(repeat(first|refine aM ?_|simp only[go_sem,a0,a1,a2,a3]));refine aq ?_;(try refine aM ?_);exact hq.out)):p:=h a0 a1 a2 a3 ⟨hq⟩
theorem cZ{P:Program}{f:FuncId}{args:List AV}{r:AV}{q:Prop}{nt:Nat}{rs:List fS}{ac:am}{σ σ':St}(nv:Nat)(hq:q)(hf:cE P f=some (nt,rs,ac):=by exact nfT)(h:Hid q->Tri P nt σ.length ac (xC rs σ.length σ' r) ⟨nv,args++List.replicate (nv-args.length) .dead,[]⟩ σ:=by(intro hq;(try dsimp only[Int.reduceOfNat,Int.reduceNegSucc,wA,wB,wC,wD,wE,wF,wG,wH,wI,wJ,wK,wL,wM,wN,wO,wP,wQ,wR,wS,wT,wU,wV,wW,wX,wY,wZ,om,oo,on,omg,og,ong,ci,cu,cb,cf,fA,lA,lF,bI,bC,sO,eX,lN,iX,kA,kB,kC,sR,cN]);exact hq.out))(ha:args.length<=nt:=by simp)(hl:σ.length<=σ'.length:=by simp):aJ P f args σ r σ':=aJ.fact nv hf ha (h ⟨hq⟩) hl
theorem aQ{P:Program}{f:FuncId}{args:List AV}{r:AV}{q:Prop}{nt:Nat}{rs:List fS}{ac:am}(nv:Nat)(hq:q)(hf:cE P f=some (nt,rs,ac):=by exact nfT)(h:Hid q->Tri P nt 0 ac (PQ rs r) ⟨nv,args++List.replicate (nv-args.length) .dead,[]⟩ []:=by(intro hq;(try dsimp only[Int.reduceOfNat,Int.reduceNegSucc,wA,wB,wC,wD,wE,wF,wG,wH,wI,wJ,wK,wL,wM,wN,wO,wP,wQ,wR,wS,wT,wU,wV,wW,wX,wY,wZ,om,oo,on,omg,og,ong,ci,cu,cb,cf,fA,lA,lF,bI,bC,sO,eX,lN,iX,kA,kB,kC,sR,cN]);exact hq.out))(ha:args.length<=nt:=by simp)(hp:PuL args:=by exact puA)(hr:Pu r:=by exact puA):PC P f args r:=PC.fact nv hf ha hp hr (h ⟨hq⟩)
end Go.FH
namespace Go.FH
open Go Go.RowKit
section
variable{P:Program}
theorem aJ.forget{f:FuncId}{args:List AV}{r n:AV}{σ σ' σ2:St}{s j:List Nat}(h:aJ P f args σ r σ')(l:nJ σ.length σ' s j σ2)(m:fz σ' s r=ren (rn j σ'.length) n):aJ P f args σ n σ2:=by
 have i:σ.length<=σ2.length:=by
  rw[l.len];rcases aeg j.length σ.length with q|q
  ·have:=l.fix j.length q;grind
  omega
 refine⟨h.1,i,fun X loc w u o t=>(h.2.2 X loc w u o t).mono ?_⟩;rintro e w' ⟨v,g,rfl,k,B⟩;obtain⟨a,x,y,z,A⟩:=l.rel k.rel
 have c:∀id,id<σ.length->a id=g id:=by
  intro id c;rw[x];have:=l.fix id c;simp[rn,this]
 refine⟨v,a,rfl,⟨fun id L C=>?_,y,A _ _ k.val _ m,k.ev,fun b D=>k.old b (z b D)⟩,fun id d=>(c id d).trans (B id d)⟩;rcases aeg id σ.length with d|d
 ·grind
 ·rw[o.beyond id d]at C;grind
theorem aJ.pc{f:FuncId}{args:List AV}{r r2:AV}{σ':St}(h:aJ P f args [] r σ')(pa:PuL args)(pr:Pu r2)(hr2:fz σ' (List.range σ'.length) r=r2:=by exact evd):PC P f args r2:=
 ⟨h.forget (lJ σ' (List.range σ'.length)) (by rw[hr2,pr.ren]),pa,pr⟩
end
attribute [go_sem] Option.getD_some Option.getD_none Option.isSome_some Option.isSome_none
structure Bp(t:Bool)(C D:Prop):Prop where
 tt:t=true->C
 ff:t=false->D
theorem Bp.lt(a b:Int):Bp (decide (a<b)) (a<b) (¬a<b):=⟨ac3,adi⟩
theorem Bp.le(a b:Int):Bp (decide (a<=b)) (¬b<a) (b<a):=⟨fun h=>ac8.2 (ac3 h),fun h=>Int.not_le.1 (adi h)⟩
theorem Bp.dec(C:Prop)[Decidable C]:Bp (decide C) C (¬C):=⟨ac3,adi⟩
theorem Bp.beq(a b:Int):Bp (a==b) (a=b) (¬a=b):=⟨fun h=>by simpa using h,fun h=>by simpa using h⟩
theorem Bp.bne(a b:Int):Bp (a != b) (¬a=b) (a=b):=⟨fun h=>by simpa using h,fun h=>by simpa using h⟩
theorem Bp.not{t:Bool}{C D:Prop}(h:Bp t C D):Bp (!t) D C:=⟨fun k=>h.ff (by simpa using k),fun k=>h.tt (by simpa using k)⟩
theorem Bp.b(t:Bool):Bp t (t=true) (t=false):=⟨id,id⟩
theorem Xh(a b:Int):(a==b)=decide (a=b):=by rw[acU];simp
theorem Xi(a b:Int):(a != b)=!decide (a=b):=by rw[acU];simp
theorem puC{p:Prop}(h:p:=by(simp[PuL,Pu,fU,aY,iP,dH,jK,gG,rA,gf,lZ,mb,gg,nL,kv,ma,af.pul,al.pul,aX.pul,aB.pul,gi.pul,gK.pul,cI.pul,VOp.pul,kE,ky,gW,kD,eT,kx,i9,mc,gh,jw, *]<;>fail)):p:=h
def Fi(r0 r:AV):Prop:=r0=r\/(Pu r0/\Wk r0 r)
section
variable{P:Program}{nt k:Nat}{fr:Fr}{σ:St}{c:Opd}{x y:am}{Q:Ex->Fr->St->Prop}{t:Bool}{C D:Prop}
theorem bS(h1:C->Tri P nt k x Q fr σ)(h2:D->Tri P nt k y Q fr σ)
 (hb:c.ev fr=.bool t:=by first|rfl|(simp only[go_sem];rfl))
 (hp:Bp t C D:=by first|exact Bp.lt _ _|exact Bp.le _ _|exact Bp.dec _|exact Bp.beq _ _|exact Bp.bne _ _|exact Bp.not (by first|exact Bp.lt _ _|exact Bp.le _ _|exact Bp.dec _|exact Bp.b _)|exact Bp.b _):
 Tri P nt k (.cond c x y) Q fr σ:=bM hb (fun h=>h1 (hp.tt h)) (fun h=>h2 (hp.ff h))
theorem bT(h:Tri P nt k x Q fr σ)(hb:c.ev fr=.bool true:=by first|rfl|(simp only[go_sem]<;>fail)):Tri P nt k (.cond c x y) Q fr σ:=aq h hb
theorem bF(h:Tri P nt k y Q fr σ)(hb:c.ev fr=.bool false:=by first|rfl|(simp only[go_sem]<;>fail)):Tri P nt k (.cond c x y) Q fr σ:=aI h hb
theorem bN(h:Tri P nt k y Q fr σ)(hb:c.ev fr=.bool false:=by first|rfl|(simp only[go_sem]<;>fail)):Tri P nt k (.cndF c y) Q fr σ:=Wf hb h
theorem gST{yes no:Fr->Prop}{g:Nat}(h1:C->yes (fr.put g (.bool true)))(h2:D->no (fr.put g (.bool false)))(hp:Bp t C D:=by first|exact Bp.lt _ _|exact Bp.le _ _|exact Bp.dec _|exact Bp.beq _ _|exact Bp.bne _ _|exact Bp.not (by first|exact Bp.lt _ _|exact Bp.le _ _|exact Bp.dec _|exact Bp.b _)|exact Bp.b _):gdV (.bool t) true g fr yes no:=⟨fun h=>h1 (hp.tt h),fun h=>h2 (hp.ff h)⟩
theorem gSF{yes no:Fr->Prop}{g:Nat}(h1:C->no (fr.put g (.bool true)))(h2:D->yes (fr.put g (.bool false)))(hp:Bp t C D:=by first|exact Bp.lt _ _|exact Bp.le _ _|exact Bp.dec _|exact Bp.beq _ _|exact Bp.bne _ _|exact Bp.not (by first|exact Bp.lt _ _|exact Bp.le _ _|exact Bp.dec _|exact Bp.b _)|exact Bp.b _):gdV (.bool t) false g fr yes no:=⟨fun h=>h2 (hp.ff h),fun h=>h1 (hp.tt h)⟩
theorem abD{rs:List fS}{r r0:AV}{l:List AV}(hl:dy fr σ rs=some l:=by first|rfl|exact evd)(hv:fz σ (List.range σ.length) (fJ l)=r0:=by exact evd)
 (hr:Fi r0 r:=by first|exact .inl rfl|((try simp only[go_sem,reduceIte,reduceCtorEq,afP,ac7,Option.getD_none,ae8,aeJ,<-ac8, *]);first|exact .inl rfl|exact .inr ⟨puC,by(repeat'(first|exact Wk.refl _|exact Wk.empty _ _ _|exact Wk.open_ _ _ _|assumption|refine Wk.tup ?_|refine Wk.agg ?_|exact trivial|(intro h;first|exact h|rfl)|constructor))<;>fail⟩)):
 ∃l,dy fr σ rs=some l/\(fz σ (List.range σ.length) (fJ l)=r\/∃r0,fz σ (List.range σ.length) (fJ l)=r0/\Pu r0/\Wk r0 r):=
 ⟨l,hl,hr.imp (fun h=>hv.trans h) fun h=>⟨r0,hv,h.1,h.2⟩⟩
end
section
variable{nv k:Nat}{vs vs2:List AV}{ts:List (Nat×AV)}{σ σ2:St}
theorem gcJ(js:List Nat)(hk:k<=js.length:=by simp)(hfix:js.take k=List.range k:=by rfl)(hnd:js.Nodup:=by simp)(hlt:∀j∈js,j<σ.length:=by simp)
 (ho:gB σ [] (rn js σ.length) js σ2:=by simp only[go_sem,Nat.reduceAdd,Nat.reduceSub,Nat.reduceMul,Nat.reduceLT,Nat.reduceLeDiff,Nat.reduceEqDiff,reduceIte,reduceCtorEq, *]<;>fail) (hs:gH σ [] (rn js σ.length) vs vs2:=by simp only[go_sem,Nat.reduceAdd,Nat.reduceSub,Nat.reduceMul,Nat.reduceLT,Nat.reduceLeDiff,Nat.reduceEqDiff,reduceIte,reduceCtorEq, *]<;>fail):
 GC k ⟨nv,vs,ts⟩ σ ⟨nv,vs2,[]⟩ σ2:=GC.mk' [] js hk hfix hnd hlt ho hs
def idO:AV->AV->Nat->Option Nat
 |.ptr a _,.ptr b _,i|.hs _ a _ _,.hs _ b _ _,i|.va _ a _ _,.va _ b _ _,i|.vp _ a _ _,.vp _ b _ _,i|.mp a,.mp b,i=>if b=i then some a else none
 |_,_,_=>none
def jO:List AV->List AV->Nat->Nat
 | x :: xs, y :: ys, i => match idO x y i with
   |some a=>a
   |none=>jO xs ys i
 |_,_,i=>i
theorem gcA{js:List Nat}(hj:js=(List.range σ2.length).map (jO vs vs2):=by(conv=>rhs;reduce))(hk:k<=js.length:=by simp)(hfix:js.take k=List.range k:=by rfl)(hnd:js.Nodup:=by simp)(hlt:∀j∈js,j<σ.length:=by simp)
 (ho:gB σ [] (rn js σ.length) js σ2:=by simp only[go_sem,Nat.reduceAdd,Nat.reduceSub,Nat.reduceMul,Nat.reduceLT,Nat.reduceLeDiff,Nat.reduceEqDiff,reduceIte,reduceCtorEq, *]<;>fail) (hs:gH σ [] (rn js σ.length) vs vs2:=by simp only[go_sem,Nat.reduceAdd,Nat.reduceSub,Nat.reduceMul,Nat.reduceLT,Nat.reduceLeDiff,Nat.reduceEqDiff,reduceIte,reduceCtorEq, *]<;>fail):
 GC k ⟨nv,vs,ts⟩ σ ⟨nv,vs2,[]⟩ σ2:=GC.mk' [] js hk hfix hnd hlt ho hs
theorem abL{ok:Nat->Prop}{G:Nat->Prop}{n i:Nat}(h:i<n)(h1:ok (i+1))(h2:G (i+1)):∃j,ok j/\n-j<n-i/\G j:=⟨i+1,h1,af0,h2⟩
end
theorem abE{fr:Fr}{σ σ':St}{k:Nat}{rs:List fS}{r:AV}{l:List AV}{e:Ex}(hl:dy fr σ rs=some l:=by first|rfl|exact evd)(he:∀i,e≠.exit i:=by simp)(hk:k<=(List.range σ'.length).length:=by simp)(hfix:(List.range σ'.length).take k=List.range k:=by rfl)
 (hlt:∀j∈List.range σ'.length,j<σ.length:=by simp<;>omega) (ho:gB σ [] (rn (List.range σ'.length) σ.length) (List.range σ'.length) σ':=by simp only[go_sem,Nat.reduceAdd,Nat.reduceSub,Nat.reduceMul,Nat.reduceLT,Nat.reduceLeDiff,Nat.reduceEqDiff,reduceIte,reduceCtorEq,Xh,Xi, *]<;>fail)
 (hr:fz σ [] (fJ l)=ren (rn (List.range σ'.length) σ.length) r:=by simp only[go_sem,Nat.reduceAdd,Nat.reduceSub,Nat.reduceMul,Nat.reduceLT,Nat.reduceLeDiff,Nat.reduceEqDiff,reduceIte,reduceCtorEq,Xh,Xi, *]<;>fail):xC rs k σ' r e fr σ:=bp [] _ e he hl hk hfix List.nodup_range hlt ho hr
theorem aax{p q:Prop}(h:p)(k:p->q):p/\q:=⟨h,k h⟩
section
variable{P:Program}{nt k:Nat}{fr fr2:Fr}{σ σ2:St}{c:Opd}{x y:am}{Q:Ex->Fr->St->Prop}{rs:List fS}{r:AV}{e:Ex}
theorem isT(h:Tri P nt k (.cond c x y) Q fr σ):Tri P nt k (.cond c x y) Q fr σ:=h
theorem aaL{z:am}(h:Tri P nt k (.cndF c z) Q fr σ):Tri P nt k (.cndF c z) Q fr σ:=h
theorem isP(h:PQ rs r e fr σ):PQ rs r e fr σ:=h
theorem isQ{n:Nat}{σ':St}(h:xC rs n σ' r e fr σ):xC rs n σ' r e fr σ:=h
theorem isG(h:GC k fr σ fr2 σ2):GC k fr σ fr2 σ2:=h
theorem isC{g:AV}{xs:List AV}{K:AV->St->Prop}(h:fL P g xs σ K):fL P g xs σ K:=h
theorem isD{n:Nat}{g:AV}{xs:List AV}{K:AV->List Nat->List Nat->St->Prop}(h:∃v ft ch σ',lw P n g xs σ v ft ch σ'/\K v ft ch σ'):∃v ft ch σ',lw P n g xs σ v ft ch σ'/\K v ft ch σ':=h
theorem isV{v:AV}{b:Bool}{g:Nat}{yes no:Fr->Prop}(h:gdV v b g fr yes no):gdV v b g fr yes no:=h
end
theorem aw{p:Prop} (h:p:=by
 (repeat' first
  |with_reducible (first|refine fR ?_|refine iz ?_|refine fQ ?_|refine jG ?_|refine i7 ?_|refine lY ?_|refine AE ?_|refine AD ?_)
  |((with_reducible refine jF ?_ ?_);focus (simp only[afG,afM]<;>fail))
  |simp only[go_sem,Nat.reduceAdd,Nat.reduceSub,Nat.reduceMul,Nat.reduceLT,Nat.reduceLeDiff,Nat.reduceEqDiff,reduceIte,Int.reduceToNat,Int.reduceLT,Int.reduceLE,Int.reduceEq,Int.reduceNeg,reduceCtorEq,Int.reduceBEq,Int.reduceBNe,Int.reduceAdd,Int.reduceSub,Xh,Xi, *]
  |with_reducible refine And.intro (lM af2) ?_
  |with_reducible refine And.intro af2 ?_
  |(with_reducible refine aax ?_ (fun h=>?_);first|omega|(simp<;>fail)|(simp;omega))
  |((with_reducible refine isC ?_);refine ap (by assumption) ?_)
  |((with_reducible refine isC ?_);refine Vi (by assumption) (by simp only[go_sem,afG,afM,acV,adl,Nat.reduceAdd,Nat.reduceLT,Nat.reduceLeDiff,Nat.reduceEqDiff,reduceIte,reduceCtorEq, *]<;>fail) (by first|exact Sc.bool _|exact Sc.int _ _) ?_)
  |((with_reducible refine isD ?_);refine aP (by assumption) ?_)
  |((with_reducible refine isP ?_);exact abD)
  |((with_reducible refine isG ?_);exact gcA)
  |((with_reducible refine isQ ?_);exact abE)
  |((with_reducible refine isT ?_);first|refine bT ?_|refine bF ?_|(refine bS (fun h=>?_) (fun h=>?_)<;>try(exfalso;omega)))
  |((with_reducible refine aaL ?_);refine bN ?_)
  |((with_reducible refine isV ?_);first|(refine gST (fun h=>?_) (fun h=>?_)<;>try(exfalso;omega))|(refine gSF (fun h=>?_) (fun h=>?_)<;>try(exfalso;omega)))
  |with_reducible refine abL (by assumption) ?_ ?_
  |omega
  |assumption)):p:=h
theorem nx{p q A:Prop}(hq:A->q) (h:Hid (A->q)->p:=by
 (intro hq
  have H:=trivial
  repeat(first
   |with_reducible (first|refine fR ?_|refine iz ?_|refine fQ ?_|refine jG ?_|refine i7 ?_|refine lY ?_|refine AE ?_|refine AD ?_)
   |((with_reducible refine jF ?_ ?_);focus (simp only[afG,afM]<;>fail))
   |simp only[go_sem,Nat.reduceAdd,Nat.reduceSub,Nat.reduceMul,Nat.reduceLT,Nat.reduceLeDiff,Nat.reduceEqDiff,reduceIte,Int.reduceToNat,Int.reduceLT,Int.reduceLE,Int.reduceEq,Int.reduceNeg,reduceCtorEq,Int.reduceBEq,Int.reduceBNe,Int.reduceAdd,Int.reduceSub,Xh,Xi, *]
   |with_reducible refine And.intro (lM af2) ?_
   |with_reducible refine And.intro af2 ?_
   |(with_reducible refine aax ?_ (fun h=>?_);first|omega|(simp<;>fail)|(simp;omega));replace H:=And.intro h H
   |((with_reducible refine isC ?_);refine ap (by assumption) ?_)
   |((with_reducible refine isC ?_);refine Vi (by assumption) (by simp only[go_sem,afG,afM,acV,adl,Nat.reduceAdd,Nat.reduceLT,Nat.reduceLeDiff,Nat.reduceEqDiff,reduceIte,reduceCtorEq, *]<;>fail) (by first|exact Sc.bool _|exact Sc.int _ _) ?_)
   |((with_reducible refine isD ?_);refine aP (by assumption) ?_)
   |((with_reducible refine isT ?_);first|refine bT ?_|refine bF ?_)
   |((with_reducible refine aaL ?_);refine bN ?_))
  exact hq.out H)):p:=h ⟨hq⟩
section
variable{P:Program}{nt k:Nat}{σ:St}{x:am}{Q:Ex->Fr->St->Prop}
theorem oU{nv:Nat}{vs:List AV}{ts:List (Nat×AV)}(n:Nat)(ok:Nat->Prop)(us:Nat->List (Nat×AV))(S:Nat->St)(hk:ok 0)
 (round:∀i,i<n->ok i->IntKind.i64.wrap ((i:Int)+1)=((i+1:Nat):Int)->(i:Int)<((n:Nat):Int)->Tri P nt k x (fK (fun fr σ=>ok (i+1)/\GC k fr σ ⟨nv,fq (us (i+1)) vs,[]⟩ (S (i+1))) Q) ⟨nv,fq (us i) vs,[]⟩ (S i))
 (out:ok n->¬ ((n:Nat):Int)<((n:Nat):Int)->Tri P nt k x (fK (fun _ _=>False) Q) ⟨nv,fq (us n) vs,[]⟩ (S n))
 (hn:n<=4611686018427387904:=by omega) (h0:GC k ⟨nv,vs,ts⟩ σ ⟨nv,fq (us 0) vs,[]⟩ (S 0):=by(simp only[go_sem,Nat.reduceAdd];exact gcA)):Tri P nt k (.loop x) Q ⟨nv,vs,ts⟩ σ:=by
 refine aE us S (fun i=>n-i) (fun i=>i<=n/\ok i) 0 ⟨afK _,hk⟩ h0 fun i hi=>?_
 by_cases h:i<n
 ·refine Tri.mono (round i h hi.2 (ae h af0) af0) fun e fr σ hq=>?_
  cases e with
  |normal=>exact⟨i+1,⟨h,hq.1⟩,af0,hq.2⟩
  |exit _|ret=>exact hq
 ·obtain rfl:i=n:=af0
  refine Tri.mono (out hi.2 af0) fun e fr σ hq=>?_
  cases e with
  |normal=>exact hq.elim
  |exit _|ret=>exact hq
theorem dI{nv:Nat}{vs:List AV}{ts:List (Nat×AV)}(n:Nat)(us:Nat->List (Nat×AV))(S:Nat->St)
 (round:∀i,i<n->IntKind.i64.wrap ((i:Int)+1)=((i+1:Nat):Int)->(i:Int)<((n:Nat):Int)->Tri P nt k x (fK (fun fr σ=>GC k fr σ ⟨nv,fq (us (i+1)) vs,[]⟩ (S (i+1))) Q) ⟨nv,fq (us i) vs,[]⟩ (S i))
 (out:¬ ((n:Nat):Int)<((n:Nat):Int)->Tri P nt k x (fK (fun _ _=>False) Q) ⟨nv,fq (us n) vs,[]⟩ (S n))
 (hn:n<=4611686018427387904:=by omega) (h0:GC k ⟨nv,vs,ts⟩ σ ⟨nv,fq (us 0) vs,[]⟩ (S 0):=by(simp only[go_sem,Nat.reduceAdd];exact gcA)):Tri P nt k (.loop x) Q ⟨nv,vs,ts⟩ σ:=
 oU n (fun _=>True) us S trivial (fun i h _ h1 h2=>(round i h h1 h2).mono fun e fr σ hq=>by
  cases e with
  |normal=>exact⟨trivial,hq⟩
  |exit _|ret=>exact hq) (fun _ h=>out h) hn h0
theorem IQ{nv:Nat}{vs:List AV}{ts:List (Nat×AV)}(n:Nat)(ok:Nat->Prop)(us:Nat->Int->List (Nat×AV))(S:Nat->St)(hk:ok n)
 (round:∀i:Nat,i<n->ok (i+1)->¬ (i:Int)<0->IntKind.i64.wrap ((i:Int)-1)=(i:Int)-1->Tri P nt k x (fK (fun fr σ=>ok i/\GC k fr σ ⟨nv,fq (us i ((i:Int)-1)) vs,[]⟩ (S i)) Q) ⟨nv,fq (us (i+1) i) vs,[]⟩ (S (i+1)))
 (out:ok 0->Tri P nt k x (fK (fun _ _=>False) Q) ⟨nv,fq (us 0 (-1)) vs,[]⟩ (S 0))
 (hn:n<=4611686018427387904:=by omega) (h0:GC k ⟨nv,vs,ts⟩ σ ⟨nv,fq (us n ((n:Int)-1)) vs,[]⟩ (S n):=by(simp only[go_sem,Nat.reduceAdd];exact gcA)):Tri P nt k (.loop x) Q ⟨nv,vs,ts⟩ σ:=by
 refine aE (fun m=>us m ((m:Int)-1)) S (fun m=>m) (fun m=>m<=n/\ok m) n ⟨afE _,hk⟩ h0 fun m hm=>?_
 cases m with
 | zero =>
   refine Tri.mono (out hm.2) fun e fr σ hq=>?_
   cases e with
   |normal=>exact hq.elim
   |exit _|ret=>exact hq
 | succ i =>
   have e:((i+1:Nat):Int)-1=i:=af0
   simp only[e];refine Tri.mono (round i hm.1 hm.2 af0 (ar af0 af0)) fun e fr σ hq=>?_
   cases e with
   |normal=>exact⟨i,⟨af0,hq.1⟩,af0,hq.2⟩
   |exit _|ret=>exact hq
theorem Wg{nv:Nat}{vs:List AV}{ts:List (Nat×AV)}(n:Nat)(us:Nat->Int->List (Nat×AV))(S:Nat->St)
 (round:∀i:Nat,i<n->¬ (i:Int)<0->IntKind.i64.wrap ((i:Int)-1)=(i:Int)-1->Tri P nt k x (fK (fun fr σ=>GC k fr σ ⟨nv,fq (us i ((i:Int)-1)) vs,[]⟩ (S i)) Q) ⟨nv,fq (us (i+1) i) vs,[]⟩ (S (i+1)))
 (out:Tri P nt k x (fK (fun _ _=>False) Q) ⟨nv,fq (us 0 (-1)) vs,[]⟩ (S 0))
 (hn:n<=4611686018427387904:=by omega) (h0:GC k ⟨nv,vs,ts⟩ σ ⟨nv,fq (us n ((n:Int)-1)) vs,[]⟩ (S n):=by(simp only[go_sem,Nat.reduceAdd];exact gcA)):Tri P nt k (.loop x) Q ⟨nv,vs,ts⟩ σ:=
 IQ n (fun _=>True) us S trivial (fun i h _ h1 h2=>(round i h h1 h2).mono fun e fr σ hq=>by
  cases e with
  |normal=>exact⟨trivial,hq⟩
  |exit _|ret=>exact hq) (fun _=>out) hn h0
end
theorem Rr(ρ:Nat->Nat):dm ρ []=[]:=rfl
theorem wl0:IntKind.i64.wrap ((0:Int)+1)=1:=by decide
theorem wl1:IntKind.i64.wrap ((1:Int)+1)=2:=by decide
theorem wl2:IntKind.i64.wrap ((2:Int)+1)=3:=by decide
theorem wl3:IntKind.i64.wrap ((3:Int)+1)=4:=by decide
theorem yi(k:IntKind)(ns:List Int)(x:Int):ah k ns++[[.int k x]]=ah k (ns++[x]):=by simp[ah]
attribute [go_sem] yi Rr wl0 wl1 wl2 wl3
def Unr(P:Program)(nt k:Nat)(x:am)(Q:Ex->Fr->St->Prop):Nat->Fr->St->Prop
 |0,_,_=>False
 |n+1,fr,σ=>Tri P nt k x (fK (Unr P nt k x Q n) Q) fr σ
@[congr] theorem aai{P:Program}{e k n:Nat}{c:am}{Q:Ex->Fr->St->Prop}{d b:Fr}{σ σ':St}(g:d=b)(f:σ=σ'):Unr P e k c Q n d σ=Unr P e k c Q n b σ':=by grind
section
variable{P:Program}{nt k:Nat}{fr:Fr}{σ:St}
theorem lC{x:am}{Q:Ex->Fr->St->Prop}{n:Nat}(h:Tri P nt k x (fK (Unr P nt k x Q n) Q) fr σ):Unr P nt k x Q (n+1) fr σ:=h
theorem jU{x:am}{Q:Ex->Fr->St->Prop}(n:Nat)(h:Unr P nt k x Q n fr σ):Tri P nt k (.loop x) Q fr σ:=by
 refine rW (fun m fr σ=>Unr P nt k x Q m fr σ) n h ?_;intro m i σ1 g;cases m with
 |zero=>exact g.elim
 | succ m =>
   refine Tri.mono g fun e fr2 σ2 b=>?_
   cases e with
   |normal=>exact⟨m,adS m,b⟩
   |exit _=>exact b
   |ret=>exact b
end
end Go.FH
namespace Go.FH
open Go Go.RowKit
def uP(a b:Int):Int×Int:=if IntKind.u64.wrap (18446744073709551615-b)<a then (0,4)else (IntKind.u64.wrap (a+b),0)
def Cs(a b:Int):Int×Int:=if b≠0/\IntKind.u64.wrap (Int.tdiv 18446744073709551615 b)<a then (0,4)else (IntKind.u64.wrap (a*b),0)
def gS(l:List Int):Nat->Int×Int
 |0=>(0,0)
 |i+1=>let p:=gS l i;if p.2≠0 then p else uP p.1 (l.getD i 0)
def ku(l:List Int):Int×Int:=gS l l.length
def nS(n:Int):Bool:=decide (1<=n)&&decide (n<=64)
def cH(e per:Int):Int×Int:=if nS per=true then Cs e per else (0,3)
def oL(a b:Rt):Nat->Nat->Int
 |0,_=>0
 |f+1,i=>if a.1.getD i 0<b.1.getD i 0 then -1 else if b.1.getD i 0<a.1.getD i 0 then 1 else oL a b f (i+1)
def qm(a b:Rt):Int:=oL a b 32 0
def yR(a b:Wd):Nat->Int
 |0=>0
 |f+1=>if a.1.getD f 0<b.1.getD f 0 then -1 else if b.1.getD f 0<a.1.getD f 0 then 1 else yR a b f
def Ea(a b:Wd):Int:=yR a b 4
def fY(t:aB)(n:Int):Int:=if (t.bals.length:Int)≠n then 2 else if (ku t.bals).2≠0\/4611686018427387904<(ku t.bals).1 then 4 else 0
def gT(a b:Cp):Int:=if a.ep≠b.ep then (if a.ep<b.ep then -1 else 1)else qm a.rt b.rt
def tab(l:List aB)(i:Nat):aB:=l.getD i default
def dr(l:List aB)(c:Cp):Int:=ng (cm (fun i=>decide ((tab l i).cp=c)) l.length)
def iF(l:List aB)(c:Cp):Nat->Nat->Nat
 |0,i=>i
 |f+1,i=>if gT (tab l i).cp c<0 then iF l c f (i+1)else i
def mF(l:List aB)(t:aB):List aB:=let k:=iF l t.cp l.length 0;l.take k++[t]++l.drop k
def ib(l:List aB)(t:aB)(n limit:Int):List aB×Int:=
 if fY t n≠0 then (l,fY t n)else if 0<=dr l t.cp then (l,9)else if limit<=l.length then (l,11)else (mF l t,0)
def eJ(l:List aB)(e:Int):List aB:=aH (fun i o=>if e<=(tab l i).cp.ep then o++[tab l i]else o) [] l.length
def vot(l:List Vot)(i:Nat):Vot:=l.getD i eY
def kP(ep:Int)(root:Rt)(l:List Int):Nat->List Vot×Int->List Vot×Int:=fun i p=>
 if (vot p.1 (l.getD i 0).toNat).has=false\/(vot p.1 (l.getD i 0).toNat).ep<ep then (p.1.set (l.getD i 0).toNat ⟨true,ep,root⟩,IntKind.i64.wrap (p.2+1))else p
def vJ(v:List Vot)(ep:Int)(root:Rt)(l:List Int):List Vot×Int:=aH (kP ep root l) (v,0) l.length
def oZ(latest:List Vot)(eqv bals:List Int)(roots:List Rt):Int:=
 aH (fun i n=>if (vot latest i).has=true/\(i:Int)∉eqv/\(vot latest i).root∈roots then IntKind.u64.wrap (n+bals.getD i 0)else n) 0 (min bals.length latest.length)
def nod(t:List Nod)(i:Nat):Nod:=t.getD i kr
def isN(t:List Nod)(i:Int):Bool:=decide (0<=i)&&decide (i<t.length)
def ab(t:List Nod)(r:Rt):Int:=ng (cm (fun i=>decide ((nod t i).blk.root=r)) t.length)
def eZ(t:List Nod)(b:Blk)(status:Int):List Nod×Int:=
 if ¬ (0<=status/\status<=2)then ([],2)else if 0<=ab t b.root then ([],9)else if ab t b.parent<0 then ([],10)
 else if b.slot<=(nod t (ab t b.parent).toNat).blk.slot then ([],14)else if 4096<=t.length then ([],11)else (t++[⟨b,ab t b.parent,status⟩],0)
def gp(t:List Nod)(i:Int):List Int:=if isN t i=true then aH (fun k l=>if (nod t k).up=i then l++[(k:Int)]else l) [] t.length else []
def uB(t:List Nod):Nat->Int->List Int
 |0,_=>[]
 |f+1,i=>if isN t i=true then (if i=0 then [0]else uB t f (nod t i.toNat).up++[i])else []
def eL(t:List Nod):Prop:=∀i,0<i->i<t.length->0<=(nod t i).up/\(nod t i).up<i
theorem Kk{t:List Nod}(d:eL t):∀ (n i f g:Nat),i<n->i<f->i<g->uB t f i=uB t g i
 |0,_,_,_,h,_,_=>by omega
 | n + 1, i, f + 1, g + 1, k, p, m => by
   unfold uB;by_cases c:isN t (i:Int)=true
   ·by_cases l:(i:Int)=0
    ·grind
    ·simp[isN]at c;obtain⟨e,o⟩:=d i af0 c;obtain⟨u,j⟩:∃u:Nat,(nod t i).up=u:=⟨_,(afW e).symm⟩
     simp only[afH];rw[j,Kk d n u f g af0 af0 af0]
   grind
def aZ(t:List Nod)(i:Int):List Int:=uB t (t.length+1) i
theorem gu{t:List Nod}(h:0<t.length):aZ t 0=[0]:=by
 unfold aZ uB;rw[afA (by simp[isN,h]),afA rfl]
theorem ia{t:List Nod}(d:eL t){i:Nat}(f:0<i)(c:i<t.length):aZ t i=aZ t (nod t i).up++[(i:Int)]:=by
 obtain⟨g,j⟩:=d i f c;obtain⟨u,e⟩:∃u:Nat,(nod t i).up=u:=⟨_,(afW g).symm⟩
 have:=Kk d (i+1) u t.length (t.length+1) af0 af0 af0;unfold aZ;rw[e,<-this];show (if isN t (i:Int)=true then _ else _)=_
 rw[afA (by simp[isN,c]),afx af0,afH,e]
theorem jg{t:List Nod}{i:Int}(h:isN t i=false):aZ t i=[]:=by
 unfold aZ uB;grind
theorem nD{t:List Nod}(c:eL t):∀ (n i:Nat),i<n->(aZ t i).length<=i+1
 |0,_,h=>by omega
 | n + 1, i, h => by
   by_cases d:i<t.length
   ·by_cases f:i=0
    ·subst f;rw[show ((0:Nat):Int)=0 from rfl,gu d];simp
    ·obtain⟨g,k⟩:=c i af0 d;obtain⟨u,j⟩:∃u:Nat,(nod t i).up=u:=⟨_,(afW g).symm⟩
     rw[ia c af0 d,j];have:=nD c n u af0;simp;omega
   ·rw[jg (by simp[isN];omega)];simp
theorem Gc{t:List Nod}(c:eL t):∀ (n i:Nat),i<n->∀x∈aZ t i,0<=x/\x<=i/\x<t.length
 |0,_,h,_,_=>by omega
 | n + 1, i, h, x, b => by
   by_cases d:i<t.length
   ·by_cases f:i=0
    ·subst f;rw[show ((0:Nat):Int)=0 from rfl,gu d]at b;grind
    ·obtain⟨g,k⟩:=c i af0 d;obtain⟨u,j⟩:∃u:Nat,(nod t i).up=u:=⟨_,(afW g).symm⟩
     rw[ia c af0 d,j,afR,afN]at b;rcases b with b|b
     ·have:=Gc c n u af0 x b;omega
     omega
   ·rw[jg (by simp[isN];omega)]at b;grind
theorem dL{t:List Nod}(d:eL t){i x:Int}(c:x∈aZ t i):0<=x/\x<=i/\x<t.length:=by
 by_cases e:0<=i
 ·obtain⟨u,rfl⟩:∃u:Nat,i=u:=⟨_,(afW e).symm⟩
  exact Gc d (u+1) u af0 x c
 ·rw[jg (by simp[isN];omega)]at c;grind
theorem iZ{t:List Nod}(e:eL t)(i:Int):(aZ t i).length<=t.length:=by
 by_cases f:isN t i=true
 ·have c:=f;simp[isN]at c;obtain⟨u,rfl⟩:∃u:Nat,i=u:=⟨_,(afW c.1).symm⟩
  have:=nD e (u+1) u af0;omega
 ·rw[jg af3];simp
def bw(t:List Nod)(a b:Int):Bool:=decide (a∈aZ t b)
def atT(t:List Nod)(i slot:Int):Int:=aH (fun k at_=>if (nod t ((aZ t i).getD k 0).toNat).blk.slot<=slot then (aZ t i).getD k 0 else at_) (-1) (aZ t i).length
def ej(t:List Nod)(i:Int):List Int:=aH (fun k l=>if bw t i k=true then l++[(k:Int)]else l) [] t.length
def gX(t:List Nod)(latest:List Vot)(eqv bals:List Int):List Int:=
 aH (fun i l=>l++[if (nod t i).status≠2 then oZ latest eqv bals [(nod t i).blk.root]else 0]) [] t.length
def R6(t:List Nod)(direct:List Int):List Int:=
 aH (fun i l=>l++[aH (fun k n=>IntKind.u64.wrap (n+direct.getD ((ej t i).getD k 0).toNat 0)) 0 (ej t i).length]) [] t.length
def jb(spe boost total:Int):Int×Int:=
 if spe<1\/64<spe\/100<boost\/4611686018427387904<total then (0,3)
 else (IntKind.u64.wrap (IntKind.u64.wrap (IntKind.u64.wrap (Int.tdiv (IntKind.u64.wrap (Int.tdiv total spe)) 100)*boost)+IntKind.u64.wrap (Int.tdiv (IntKind.u64.wrap (Int.tmod (IntKind.u64.wrap (Int.tdiv total spe)) 100*boost)) 100)),0)
def fu(t:List Nod)(direct:List Int)(root:Rt)(amount:Int):List Int:=
 if 0<=ab t root/\(nod t (ab t root).toNat).status≠2/\root≠rt0 then direct.set (ab t root).toNat (IntKind.u64.wrap (direct.getD (ab t root).toNat 0+amount))else direct
def dM(t:List Nod)(i:Int)(k:Nat)(p:List Nod×List Int):List Nod×List Int:=
 if bw t i k=true then (p.1++[⟨(nod t k).blk,if (k:Int)=i then -1 else p.2.getD (nod t k).up.toNat 0,(nod t k).status⟩],p.2++[(p.1.length:Int)])else (p.1,p.2++[-1])
def fo(t:List Nod)(i:Int):List Nod×List Int:=aH (dM t i) ([],[]) t.length
def lR(l:List Int)(status forbidden:Int)(k:Nat)(o:Option (List Nod)):Option (List Nod):=o.bind fun u=>if (nod u (l.getD k 0).toNat).status=forbidden then none else some (u.set (l.getD k 0).toNat { nod u (l.getD k 0).toNat with status:=status })
def qK(t:List Nod)(l:List Int)(status forbidden:Int):Option (List Nod):=aH (lR l status forbidden) (some t) l.length
theorem tz{l:List Int}{c a:Int}{o:Option (List Nod)}{k:Nat}(h:aH (lR l c a) o k=none):∀n,k<=n->aH (lR l c a) o n=none
 |0,d=>by grind
 | n + 1, d => by
   by_cases e:k=n+1
   ·grind
   ·rw[bg,tz h n af0];rfl
theorem jD{t:List Nod}{l:List Int}{b a:Int}:∀ {k:Nat} {u:List Nod},aH (lR l b a) (some t) k=some u->u.length=t.length
 |0,u,h=>by cases h;rfl
 | k + 1, u, h => by
   rw[bg]at h;cases d:aH (lR l b a) (some t) k with
   |none=>rw[d]at h;cases h
   | some v =>
     rw[d]at h;simp only[lR,adT]at h;split at h
     ·grind
     ·cases h;rw[adO,jD d]
def bL(t:List Nod)(i:Int):List Nod×Int:=if isN t i=true then (match qK t (aZ t i) 1 2 with|some u=>(u,0)|none=>([],21))else ([],10)
def fg(t:List Nod)(i:Int):List Nod×Int:=if isN t i=true then (match qK t (ej t i) 2 1 with|some u=>(u,0)|none=>([],21))else ([],10)
theorem HU{u:List Nod}{j i:Nat}{n:Nod}:nod (u.set j n) i=if j=i/\i<u.length then n else nod u i:=by
 unfold nod;by_cases h:j=i
 ·grind
 grind
theorem tw{t:List Nod}{l:List Int}{b a:Int}:∀ {k:Nat} {u:List Nod},aH (lR l b a) (some t) k=some u->∀i,(nod u i).up=(nod t i).up/\(nod u i).blk=(nod t i).blk
 |0,u,h,i=>by cases h;simp
 | k + 1, u, h, i => by
   rw[bg]at h;cases d:aH (lR l b a) (some t) k with
   |none=>rw[d]at h;cases h
   | some v =>
     rw[d]at h;simp only[lR,adT]at h;have g:=tw d i;split at h
     ·grind
     ·cases h;rw[HU];split
      ·grind
      omega
theorem eL.of_up{t u:List Nod}(b:eL t)(f:u.length=t.length)(a:∀i,(nod u i).up=(nod t i).up):eL u:=fun i c e=>by rw[a i];exact b i c af0
theorem Gm{t:List Nod}(e:eL t){i:Int}(h:(bL t i).2=0):eL (bL t i).1/\(bL t i).1.length=t.length/\∀k,(nod (bL t i).1 k).blk=(nod t k).blk:=by
 unfold bL at *;split at h
 ·rename_i f;rw[afA f];cases b:qK t (aZ t i) 1 2 with
  |none=>grind
  |some u=>exact⟨e.of_up (jD b) (fun i=>(tw b i).1),jD b,fun k=>(tw b k).2⟩
 omega
def dh(t:List Nod)(i:Int)(latest:Rt):Int×Int:=
 if (aZ t i).length=0 then (-1,-1)
 else if latest=rt0 then (match cm (fun k=>decide ((nod t ((aZ t i).getD k 0).toNat).blk.payload≠rt0)) (aZ t i).length with
  |some k=>((nod t ((aZ t i).getD k 0).toNat).up,(aZ t i).getD k 0)
  |none=>(-1,i))
 else (match wo (fun k=>decide ((nod t ((aZ t i).getD k 0).toNat).blk.payload=latest)) ((aZ t i).length-1)with
  |some k=>((aZ t i).getD k 0,(aZ t i).getD (k+1) 0)
  |none=>(-1,i))
def dR(t:List Nod)(i:Int)(v:Vdt)(keep:List Int):List Nod×Int:=
 if isN t i=false then ([],10)else if v.kind=1 then bL t i else if v.kind=3\/v.kind=4 then (t,0)else if v.kind≠2 then ([],2)
 else if (cm (fun k=>bw t (dh t i v.latest).2 (keep.getD k 0)) keep.length).isSome=true then ([],21)
 else if 0<=(dh t i v.latest).1 then (if (bL t (dh t i v.latest).1).2≠0 then ([],(bL t (dh t i v.latest).1).2)else fg (bL t (dh t i v.latest).1).1 (dh t i v.latest).2)
 else fg t (dh t i v.latest).2
end Go.FH
namespace Go.FH
open Go Go.RowKit
def iC(s p:Int):Int×Int:=if nS p=true then (IntKind.u64.wrap (Int.tdiv s p),0)else (0,3)
theorem lT{n:Int}(h0:0<=n)(h1:n<18446744073709551616):IntKind.u64.wrap n=n:=aC h0 h1
def ZG(a b:Int):Int×Int:=if a*b / 18446744073709551616=0 then (IntKind.u64.wrap (a*b),0)else (0,4)
theorem Xv{a b:Int}(j:0<=a)(k:a<18446744073709551616)(f:0<=b)(i:b<18446744073709551616):ZG a b=Cs a b:=by
 unfold ZG Cs;by_cases o:b=0
 ·grind
 ·have d:0<b:=af0
  have l:Int.tdiv 18446744073709551615 b=18446744073709551615 / b:=acy af1;have e:0<=18446744073709551615 / b:=adx af1 f;have m:18446744073709551615 / b<=18446744073709551615:=adB _ af1;rw[l,lT e af0];have n:0<=a*b:=aeR j f
  have g:(18446744073709551615 / b<a)↔18446744073709551615<a*b:=by
   rw[Int.ediv_lt_iff_lt_mul d]
  by_cases h:18446744073709551615 / b<a
  ·grind
  grind
theorem ZH{x0 x1 y0 y1:Int}(h:0<=x0)(e:x0<4294967296)(l:0<=x1)(f:x1<4294967296)(k:0<=y0)(c:y0<4294967296)(j:0<=y1)(d:y1<4294967296):
 (0<=x0*y0/\x0*y0<=18446744065119617025)/\(0<=x1*y0/\x1*y0<=18446744065119617025)/\(0<=x0*y1/\x0*y1<=18446744065119617025)/\(0<=x1*y1/\x1*y1<=18446744065119617025)/\
  (x1*4294967296+x0)*(y1*4294967296+y0)=x1*y1*18446744073709551616+(x1*y0+x0*y1)*4294967296+x0*y0:=by
 have b:∀ {u v:Int},0<=u->u<4294967296->0<=v->v<4294967296->0<=u*v/\u*v<=18446744065119617025:=by
  intro u v i n g m;refine⟨aeR i g,?_⟩;have:=Int.mul_le_mul (show u<=4294967295 by omega) (show v<=4294967295 by omega) g af1;omega
 grind
def m0(a b:Int):Int:=if a<b then -1 else if b<a then 1 else 0
def orI:List Int->Int
 | []=>0
 |x::r=>if x≠0 then x else orI r
theorem XK(a b:Cp):orI [m0 a.ep b.ep,qm a.rt b.rt]=gT a b:=by
 unfold gT m0;by_cases e:a.ep<b.ep
 ·simp[orI];omega
 ·by_cases d:b.ep<a.ep
  ·simp[orI];omega
  ·have:a.ep=b.ep:=af0
   simp[orI];omega
theorem WY(a b:Rt):D9 a.1 b.1=qm a b:=by
 have e:∀ (f i:Nat) (x y:List UInt8),x.length=i+f->y.length=i+f->D9 (x.drop i) (y.drop i)=(fun(x y:List UInt8)=>Nat.rec (motive:=fun _=>Nat->Int) (fun _=>0) (fun _ g i=>if x.getD i 0<y.getD i 0 then -1 else if y.getD i 0<x.getD i 0 then 1 else g (i+1)) f i) x y:=by
  intro f;induction f with
  | zero =>
    intro i x y l k;rw[acK af0,acK af0];rfl
  | succ f j =>
    intro i x y l k;rw[acG (show i<x.length by omega),acG (show i<y.length by omega)];have m:x.getD i 0=x[i]' af0:=af3
    have n:y.getD i 0=y[i]' af0:=af3
    simp only[D9];grind
 have h:=e 32 0 a.1 b.1 a.2 b.2;unfold qm
 have:∀f i,(Nat.rec (motive:=fun _=>Nat->Int) (fun _=>0) (fun _ g i=>if a.1.getD i 0<b.1.getD i 0 then -1 else if b.1.getD i 0<a.1.getD i 0 then 1 else g (i+1)) f i:Int)=oL a b f i:=by
  intro f;induction f with
  |zero=>intro i;rfl
  |succ f j=>intro i;simp only[oL,j]
 grind
def zS:List Int->Int->Int×Bool
 | [],n=>(n,true)
 |x::r,n=>if IntKind.u64.wrap (4611686018427387904-n)<x then (0,false)else zS r (IntKind.u64.wrap (n+x))
def oE:List Int->Int
 | []=>0
 |x::r=>x+oE r
theorem IN:∀ {l:List Int},(∀x∈l,0<=x/\x<18446744073709551616)->0<=oE l
 | [],_=>afT 0
 | x :: r, h => by
   have:=h x (adX ..);have:=IN (l:=r) fun y b=>h y (acA _ b)
   simp only[oE];omega
theorem O5:∀ {l:List Int} {n:Int},(∀x∈l,0<=x/\x<18446744073709551616)->0<=n->n<=4611686018427387904->(zS l n).2=decide (n+oE l<=4611686018427387904)
 | [],n,_,f,d=>by simp[zS,oE,d]
 | x :: r, n, h, f, d => by
   have j:=h x (adX ..);have c:=fun y g=>h y (acA x g)
   have i:=IN (l:=r) c;simp only[zS];rw[lT (n:=4611686018427387904-n) af0 af0];by_cases e:4611686018427387904-n<x
   ·rw[afA e];exact(aD (by simp only[oE];omega)).symm
   ·rw[afx e,lT af0 af0,O5 c af0 af0];exact adU.2 (by simp only[oE];omega)
theorem K9:∀ (l m:List Int),oE (l++m)=oE l+oE m
 | [],m=>by simp[oE]
 |x::l,m=>by simp only[aea,oE,K9 l m];omega
theorem O4{l:List Int}(h:∀x∈l,0<=x/\x<18446744073709551616):∀i,i<=l.length->(oE (l.take i)<18446744073709551616->gS l i=(oE (l.take i),0))/\(18446744073709551616<=oE (l.take i)->(gS l i).2≠0)
 |0,_=>⟨fun _=>by simp[gS,oE],fun h=>by simp[oE]at h⟩
 | i + 1, g => by
   obtain⟨d,k⟩:=O4 h i af0
   have e:l.take (i+1)=l.take i++[l.getD i 0]:=by
    rw[acB,afy,afz (show i<l.length by omega)];rfl
   have o:0<=l.getD i 0/\l.getD i 0<18446744073709551616:=by
    rw[afy,afz (show i<l.length by omega)];simp_all
   have j:=IN (l:=l.take i) fun y c=>h y (adL c)
   have m:oE (l.take (i+1))=oE (l.take i)+l.getD i 0:=by rw[e,K9];simp[oE]
   simp only[gS];by_cases f:oE (l.take i)<18446744073709551616
   ·rw[d f]
    unfold uP;rw[lT (n:=18446744073709551615-l.getD i 0) af0 af0];by_cases b:18446744073709551615-l.getD i 0<oE (l.take i)
    ·grind
    ·rw[afx b,lT af0 af0];grind
   grind
theorem Sw{l:List Int}(h:∀x∈l,0<=x/\x<18446744073709551616):((ku l).2≠0\/4611686018427387904<(ku l).1)↔(zS l 0).2=false:=by
 rw[O5 h (afT 0) af1,Int.zero_add];have b:=O4 h l.length (afE _);unfold ku;grind
theorem v7{p:Nat->Bool}{n k:Nat}(hk:k<n)(h:p k=true)(h2:∀j,j<k->p j=false):cm p n=some k:=by
 cases hf:cm p n with
 |none=>rw[fh hf k hk]at h;cases h
 | some j =>
   obtain⟨g1,g2,g3⟩:=cJ hf;congr 1;rcases aeo j k with q|q|q
   ·rw[h2 j q]at g2;cases g2
   ·exact q
   ·rw[g3 k q]at h;cases h
theorem Xb{p:Nat->Bool}{n:Nat}(h:∀j,j<n->p j=false):cm p n=none:=by
 cases hf:cm p n with
 |none=>rfl
 |some j=>have:=cJ hf;rw[h j this.1]at this;cases this.2.1
theorem tG{P:Program}{nt k:Nat}{σ:St}{x:am}{Q:Ex->Fr->St->Prop}{nv:Nat}{vs:List AV}{ts:List (Nat×AV)}(p:Nat->Bool)(n:Nat)(us:Nat->List (Nat×AV))(S:Nat->St)
 (yes:∀i,i<n->p i=true->cm p n=some i->IntKind.i64.wrap ((i:Int)+1)=((i+1:Nat):Int)->(i:Int)<((n:Nat):Int)->Tri P nt k x (fK (fun _ _=>False) Q) ⟨nv,fq (us i) vs,[]⟩ (S i))
 (no:∀i,i<n->p i=false->IntKind.i64.wrap ((i:Int)+1)=((i+1:Nat):Int)->(i:Int)<((n:Nat):Int)->Tri P nt k x (fK (fun fr σ=>GC k fr σ ⟨nv,fq (us (i+1)) vs,[]⟩ (S (i+1))) Q) ⟨nv,fq (us i) vs,[]⟩ (S i))
 (out:cm p n=none->¬ ((n:Nat):Int)<((n:Nat):Int)->Tri P nt k x (fK (fun _ _=>False) Q) ⟨nv,fq (us n) vs,[]⟩ (S n))
 (hn:n<=4611686018427387904:=by omega) (h0:GC k ⟨nv,vs,ts⟩ σ ⟨nv,fq (us 0) vs,[]⟩ (S 0):=by(simp only[go_sem,Nat.reduceAdd];exact gcA)):Tri P nt k (.loop x) Q ⟨nv,vs,ts⟩ σ:=by
 refine oU n (fun i=>∀j,j<i->p j=false) us S (fun j h=>absurd h (acJ _)) (fun i h hk h1 h2=>?_) (fun hk h=>out (Xb hk) h) hn h0;cases hp:p i with
 | true =>
   refine(yes i h hp (v7 h hp hk) h1 h2).mono fun e fr σ hq=>?_
   cases e with
   |normal=>exact hq.elim
   |exit _|ret=>exact hq
 | false =>
   refine(no i h hp h1 h2).mono fun e fr σ hq=>?_
   cases e with
   | normal =>
     refine⟨fun j hj=>?_,hq⟩;by_cases hji:j=i
     ·rw[hji];exact hp
     ·exact hk j af0
   |exit _|ret=>exact hq
theorem CQ{w:World}{b o:Nat}{vs:List Value}(v:vs≠[])(h:∀j u,vs[j]?=some u->w.cell? ⟨b,o+j,none⟩=some u):range? w b o vs.length=some vs.toArray:=by
 unfold range?
 have n:∃u,vs[0]?=some u:=by
  cases vs with
  |nil=>grind
  |cons u x=>simp
 obtain⟨s,l⟩:=n;have e:=h 0 s l;unfold World.cell? at e;split at e
 ·rename_i c t f r
  have k:∀j u,vs[j]?=some u->c[o+j]?=some u:=by
   intro j u q;have:=h j u q;unfold World.cell? at this;grind
  rw[r];simp only
  have g:o+vs.length<=c.size:=by
   have m:vs.length-1<vs.length:=by
    grind
   have:=k (vs.length-1) _ (afz m);grind
  rw[afA g];congr 1;apply Array.ext
  ·grind
  ·intro i y z;have p:i<vs.length:=af0
   have:=k i _ (afz p);grind
 grind
abbrev vm(w:World):Env:=⟨fun _=>none,fun _=>False,w⟩
theorem PC.top{P:Program}{f:FuncId}{args:List AV}{r:AV}(h:PC P f args r){w:World}{vs:List Value}(s:RlS (vm w) args vs):
 Calls P f vs.toArray w fun e w'=>(∃v,e=.returned v/\Rl (vm w') r v)/\Below w.heap.size w w':=by
 have t:∀w:World,aR (fun _=>False) (fun _=>none) [] w=vm w:=by
  intro w;unfold aR vm;congr 1;funext b
  apply propext
  constructor
  ·rintro (h|⟨id,o,L,n,_⟩)
   ·omega
   grind
  simp
 have m:Rel (fun _=>False) (fun _=>none) [] w:=⟨fun id o h=>af3,fun i j a b u x _ h=>af1,fun b h=>h.elim,fun _ _=>rfl⟩;refine(h.call.2.2 _ _ w vs m af3).mono ?_;rintro e w' ⟨v,d,rfl,k,_⟩;refine⟨⟨v,rfl,?_⟩,k.ev.below fun b _ p=>?_⟩
 ·have q:d=fun _=>none:=funext fun id=>k.rel.beyond id (afK _)
  have:=k.val;grind
 ·obtain⟨id,o,L,n,_⟩:=p;grind
theorem PC.law{P:Program}{f:FuncId}{args:List AV}(h:PC P f args (.bool true)){w:World}{vs:List Value}(d:RlS (vm w) args vs):
 Calls P f vs.toArray w fun e w'=>e=.returned (.bool true)/\Below w.heap.size w w':=
 (h.top d).mono fun e w' ⟨⟨v,i,j⟩,g⟩=>⟨by rw[i];exact acM Ending.returned j,g⟩
inductive Sh where
 |bool
 |int (k:IntKind)
 |arr (n:Nat) (s:Sh)
 |sl (s:Sh)
 |st (ss:List Sh)
mutual
def Sh.size:Sh->Nat
 |.bool=>1
 |.int _=>1
 |.sl _=>1
 |.arr n s=>n*s.size
 |.st ss=>Sh.sizes ss
def Sh.sizes:List Sh->Nat
 | []=>0
 |s::ss=>s.size+Sh.sizes ss
end
mutual
inductive Opn:Sh->List AV->Prop
 |bool (b:Bool):Opn .bool [.bool b]
 |int (k:IntKind) (n:Int) (h:(Lit.int k n).wf=true):Opn (.int k) [.int k n]
 |arr (n:Nat) (s:Sh) (xs:List (List AV)) (hl:xs.length=n) (h:∀x∈xs,Opn s x):Opn (.arr n s) xs.flatten
 |sl (s:Sh) (xs:List (List AV)) (hl:xs.length<=maxLen) (h:∀x∈xs,Opn s x):Opn (.sl s) [.sl s.size false xs]
 |st (ss:List Sh) (cs:List AV) (h:SI ss cs):Opn (.st ss) cs
inductive SI:List Sh->List AV->Prop
 |nil:SI [] []
 |cons (s:Sh) (ss:List Sh) (a b:List AV) (h:Opn s a) (hs:SI ss b):SI (s::ss) (a++b)
end
mutual
def BZ(P:Program):Sh->TypeId->Bool
 | .bool, t => match P.underlying t with
   |some .bool=>true
   |_=>false
 | .int k, t => match P.underlying t with
   |some (.int k')=>k==k'
   |_=>false
 | .arr n s, t => match P.underlying t with
   |some (.array m e)=>m==n&&P.cellsOf e==s.size&&P.cellsOf t==n*s.size&&BZ P s e
   |_=>false
 | .sl s, t => match P.underlying t with
   |some (.slice e)=>P.cellsOf e==s.size&&decide (0<s.size)&&BZ P s e
   |_=>false
 | .st ss, t => match P.underlying t with
   |some (.struct fs)=>P.cellsOf t==Sh.sizes ss&&FV P ss fs.toList 0
   |_=>false
def FV(P:Program):List Sh->List Field->Nat->Bool
 | [],[],_=>true
 |s::ss,f::fs,o=>f.offset==o&&P.cellsOf f.type==s.size&&BZ P s f.type&&FV P ss fs (o+s.size)
 |_,_,_=>false
end
section
variable{H:Type}{enc:TypeId×Value->H}{P:Program}{w:World}
theorem D6{s:Sh}{k:Nat}:∀ (n:Nat) (cs:List Value),cs.length=n*k->(∀i,i<n->∃avs,Opn s avs/\RlC (vm w) avs ((cs.drop (i*k)).take k))->
 ∃xs:List (List AV),xs.length=n/\(∀x∈xs,Opn s x)/\RlC (vm w) xs.flatten cs
 |0,cs,hl,_=>⟨[],rfl,af1,by have:cs=[]:=afV af0;subst this;rfl⟩
 | n + 1, cs, hl, h => by
   have hk:(n+1)*k=k+n*k:=by rw[ae1];omega
   obtain⟨a,ha,hr⟩:=h 0 af0
   obtain⟨xs,h1,h2,h3⟩:=D6 (s:=s) (k:=k) n (cs.drop k) (by rw[acT,hl,hk];omega) (fun i hi=>by
    obtain⟨b,hb,hr⟩:=h (i+1) af0;refine⟨b,hb,?_⟩;rw[adj,show k+i*k=(i+1)*k by rw[ae1];omega];exact hr)
   refine⟨a::xs,by simp[h1],fun x hx=>?_,?_⟩
   ·rcases acW.1 hx with rfl|hx
    ·exact ha
    ·exact h2 x hx
   ·have e:cs=cs.take k++cs.drop k:=(afX k cs).symm;rw[e];simp only[Nat.zero_mul,aeP]at hr;exact RlC.app hr h3
theorem Y4{s:Sh}{k:Nat}{b off:Nat}:∀ (n:Nat) (o:Nat),(∀i,i<n->∃avs us,Opn s avs/\RlC (vm w) avs us/\us.length=k/\∀j,j<k->w.cell? ⟨b,off+(o+i*k+j),none⟩=us[j]?)->
 ∃ (xs:List (List AV)) (vs:List Value),xs.length=n/\(∀x∈xs,Opn s x)/\vs.length=n*k/\RlE (vm w) k xs vs/\∀j,j<n*k->w.cell? ⟨b,off+(o+j),none⟩=vs[j]?
 |0,o,_=>⟨[],[],rfl,af1,af1,rfl,fun j hj=>af0⟩
 | n + 1, o, h => by
   obtain⟨a,us,ha,hr,hl,hc⟩:=h 0 af0
   obtain⟨xs,vs,h1,h2,h3,h4,h5⟩:=Y4 n (o+k) (fun i hi=>by
    obtain⟨a,us,ha,hr,hl,hc⟩:=h (i+1) af0;refine⟨a,us,ha,hr,hl,fun j hj=>?_⟩;have:=hc j hj;rwa [show off+(o+(i+1)*k+j)=off+(o+k+i*k+j)by rw[ae1];omega]at this)
   refine⟨a::xs,us++vs,by simp[h1],fun x hx=>?_,?_,⟨us,vs,rfl,hl,hr,h4⟩,fun j hj=>?_⟩
   ·rcases acW.1 hx with rfl|hx
    ·exact ha
    ·exact h2 x hx
   ·rw[afB,hl,h3,ae1];omega
   ·by_cases hjk:j<k
    ·have:=hc j hjk;rw[afU af0];simpa using this
    ·have:=h5 (j-k) (by rw[ae1]at hj;omega);rw[acS af0,hl,<-this];congr 2;omega
mutual
theorem HV:∀ (s:Sh) (t:TypeId) (fuel:Nat) (cs:List Value) (x:DataW H×List MemPlace),BZ P s t=true->DataW.trod enc P w 0 (fun _=>true) true fuel t cs=some x->∃avs,Opn s avs/\RlC (vm w) avs cs
 | .bool, t, fuel, cs, x, hs, h => by
   unfold BZ at hs;split at hs<;>try cases hs
   rename_i ht;cases fuel with
   |zero=>simp[DataW.trod]at h
   | succ n =>
     unfold DataW.trod at h;rw[ht]at h;split at h<;>simp_all
     exact⟨_,.bool _,_,[],rfl,rfl,rfl,rfl⟩
 | .int k, t, fuel, cs, x, hs, h => by
   unfold BZ at hs;split at hs<;>try cases hs
   rename_i k' ht;obtain⟨n,rfl,_,hw⟩:=DataW.trod_int ht h;have:k=k':=by simpa using hs
   subst this;exact⟨_,.int _ _ hw,_,[],rfl,rfl,rfl,rfl⟩
 | .arr n s, t, fuel, cs, x, hs, h => by
   unfold BZ at hs;split at hs<;>try cases hs
   rename_i m e ht;simp only[afL,ac0]at hs;obtain⟨⟨⟨rfl,hc⟩,hct⟩,hi⟩:=hs;obtain⟨xs,fl,rfl,rfl,hl,hx,he⟩:=DataW.trod_array ht h;rw[hct]at hl
   obtain⟨xs,h1,h2,h3⟩:=D6 (s:=s) (w:=w) m cs hl (fun i hin=>by
    have h1:=he i hin;rw[hc,afz af0]at h1;exact HV s e _ _ _ hi h1)
   exact⟨_,.arr _ _ _ h1 h2,h3⟩
 | .sl s, t, fuel, cs, x, hs, h => by
   unfold BZ at hs;split at hs<;>try cases hs
   rename_i e ht;simp only[afL,ac0,afJ]at hs;obtain⟨⟨hc,hp⟩,hi⟩:=hs;rcases DataW.trod_slice ht h with⟨rfl,_⟩|⟨a,len,cap,elems,rest,n,_,rfl,rfl,hb,hl,hm,hlen,hel,hsp,hns⟩
   ·exact⟨_,.sl s [] af1 af1,_,[],rfl,rfl,⟨none,0,0,rfl,rfl,afE _,by simp[maxLen],fun _=>rfl,fun _=>rfl,.inl rfl⟩,rfl⟩
   ·by_cases h0:len=0
    ·subst h0;exact⟨_,.sl s [] af1 af1,_,[],rfl,rfl,⟨some a,0,cap,rfl,rfl,hl,hm,(fun h=>Bool.noConfusion h),(fun h=>by cases h),.inl rfl⟩,rfl⟩
    have each:∀i,i<len->∃avs us,Opn s avs/\RlC (vm w) avs us/\us.length=s.size/\∀j,j<s.size->w.cell? ((a.add (i*s.size)).add j)=us[j]?:=by
     intro i hin;have h1:=hel i hin;rw[hc,afz af0,ac2]at h1;obtain⟨us,h2,h3⟩:=h1;obtain⟨_,h5,h6⟩:=World.cells?_some h2;obtain⟨avs,h7,h8⟩:=HV s e _ _ _ hi h3;exact⟨avs,us,h7,h8,h5,h6⟩
    obtain⟨b,off,spot⟩:=a;obtain⟨_,us,_,_,hul,hcc⟩:=each 0 af0;have hc0:=hcc 0 hp;rw[afz af0]at hc0;have hspot:spot=none:=by simpa[Addr.add]using World.cell?_spot hc0
    subst hspot
    obtain⟨xs,vs,h1,h2,h3,h4,h5⟩:=Y4 (s:=s) (w:=w) (k:=s.size) (b:=b) (off:=off) len 0 (fun i hin=>by
     obtain⟨avs,us,g1,g2,g3,g4⟩:=each i hin;refine⟨avs,us,g1,g2,g3,fun j hj=>?_⟩;rw[<-g4 j hj,WideShapes.add_plain,WideShapes.add_plain];congr 2;omega)
    have hne:vs≠[]:=by
     intro hh;subst hh;simp only[afM]at h3;have:=Nat.mul_pos (Nat.pos_of_ne_zero h0) hp;omega
    have hrange:=CQ (w:=w) (b:=b) (o:=off) hne (fun j u hj=>by
     have hjl:=(afO.1 hj).1;rw[<-hj,<-h5 j af0];congr 2;omega)
    rw[h3]at hrange
    have hblk:b<w.heap.size:=by
     rw[WideShapes.add_plain,WideShapes.add_plain]at hc0;exact World.block_lt_of_cell? w _ hc0
    exact⟨_,.sl s xs af0 h2,_,[],rfl,rfl,⟨_,len,cap,rfl,h1.symm,hl,hm,(fun h=>Bool.noConfusion h),(fun h=>by cases h),.inr ⟨b,off,vs,rfl,hblk,fun hf=>hf,hrange,h4⟩⟩,rfl⟩
 | .st ss, t, fuel, cs, x, hs, h => by
   unfold BZ at hs;split at hs<;>try cases hs
   rename_i fs ht;simp only[afL,ac0]at hs;obtain⟨hc,hi⟩:=hs;obtain⟨xs,n,rfl,_,hl,hxs,he⟩:=DataW.trod_struct ht h
   obtain⟨avs,h1,h2⟩:=OJ ss fs.toList 0 cs hi (fun f hf=>by
    obtain⟨i,hi⟩:=List.getElem?_of_mem hf;have h1:=he i f (by simpa using hi);have hil:=(afO.1 hi).1;rw[ae0]at hil;rw[afz af0]at h1;exact⟨_,_,h1⟩) af0
   exact⟨avs,.st _ _ h1,h2⟩
theorem OJ:∀ (ss:List Sh) (fs:List Field) (o:Nat) (cs:List Value),FV P ss fs o=true->
 (∀f∈fs,∃ (fuel:Nat) (x:DataW H×List MemPlace),DataW.trod enc P w 0 (fun _=>true) true fuel f.type ((cs.drop f.offset).take (P.cellsOf f.type))=some x)->cs.length=o+Sh.sizes ss->∃avs,SI ss avs/\RlC (vm w) avs (cs.drop o)
 | [],[],o,cs,_,_,hl=>⟨[],.nil,by rw[acK (by simp[Sh.sizes]at hl;omega)];rfl⟩
 | [],_::_,o,cs,hs,_,_=>by simp[FV]at hs
 |_::_,[],o,cs,hs,_,_=>by simp[FV]at hs
 | s :: ss, f :: fs, o, cs, hs, hf, hl => by
   simp only[FV,afL,ac0]at hs;obtain⟨⟨⟨rfl,hc⟩,hi⟩,hr⟩:=hs;simp only[Sh.sizes]at hl;obtain⟨fuel,x,hx⟩:=hf f af1;obtain⟨a,ha,hra⟩:=HV s f.type fuel _ x hi hx;obtain⟨b,hb,hrb⟩:=OJ ss fs (f.offset+s.size) cs hr (fun g hg=>hf g (by simp[hg])) af0;refine⟨a++b,.cons _ _ _ _ ha hb,?_⟩;have e:cs.drop f.offset=(cs.drop f.offset).take s.size++cs.drop (f.offset+s.size):=by rw[<-adj,afX]
   rw[e];rw[hc]at hra;exact RlC.app hra hrb
end
theorem U5{t e:TypeId}{v:Value}{d:DataW H}{p:List MemPlace}{r:Reach}{base:Nat}(s:Sh)(hs:BZ P (.sl s) t=true)(hv:Value.okWide P w r base t v)(hd:DataW.Trod enc P w 0 (fun _=>true) true t v d p)
 (ht:P.underlying t=some (.slice e)):∃xs,xs.length<=maxLen/\(∀x∈xs,Opn s x)/\Rl (vm w) (.sl s.size false xs) v:=by
 obtain⟨fuel,hf⟩:=hd;obtain⟨b,l,c,rfl⟩:=WideShapes.okWide_slice ht hv;obtain⟨avs,h1,h2⟩:=HV _ t fuel _ _ hs hf;cases h1 with
 | sl s xs hl h =>
   obtain⟨u,us,h3,_,h4,h5⟩:=h2;simp only[Value.cells,aeG]at h3;obtain⟨rfl,rfl⟩:=h3;exact⟨xs,hl,h,h4⟩
theorem Gb{t:TypeId}{v:Value}{d:DataW H}{p:List MemPlace}{r:Reach}{base:Nat}(k:IntKind)(ht:P.underlying t=some (.int k))(hv:Value.okWide P w r base t v)(hd:DataW.Trod enc P w 0 (fun _=>true) true t v d p):
 ∃n,(Lit.int k n).wf=true/\Rl (vm w) (.int k n) v:=by
 obtain⟨n,rfl,_,_,hw⟩:=ChangeShapes.open_int ht hv hd;exact⟨n,hw,rfl⟩
end
theorem Opn.ints{k:IntKind}:∀ {xs:List (List AV)},(∀x∈xs,Opn (.int k) x)->∃ns:List Int,xs=ah k ns/\∀n∈ns,(Lit.int k n).wf=true
 | [],_=>⟨[],rfl,af1⟩
 | x :: xs, h => by
   obtain⟨ns,rfl,h2⟩:=Opn.ints (xs:=xs) (fun y hy=>h y (by simp[hy]));cases h x af1 with
   | int k n hw =>
     refine⟨n::ns,rfl,fun m hm=>?_⟩;rcases acW.1 hm with rfl|hm
     ·exact hw
     ·exact h2 m hm
section
variable{H:Type}{enc:TypeId×Value->H}{P:Program}{w:World}
theorem tn{t e:TypeId}{v:Value}{d:DataW H}{p:List MemPlace}{r:Reach}{base:Nat}(k:IntKind)(hs:BZ P (.sl (.int k)) t=true)(hv:Value.okWide P w r base t v)(hd:DataW.Trod enc P w 0 (fun _=>true) true t v d p)
 (ht:P.underlying t=some (.slice e)):∃ns:List Int,ns.length<=maxLen/\(∀n∈ns,(Lit.int k n).wf=true)/\Rl (vm w) (.sl 1 false (ah k ns)) v:=by
 obtain⟨xs,hl,h,hr⟩:=U5 (.int k) hs hv hd ht;obtain⟨ns,rfl,hw⟩:=Opn.ints h;exact⟨ns,by rwa [yW]at hl,hw,hr⟩
end
structure Cp.Ok(x:Cp):Prop where
 ep:(Lit.int .u64 x.ep).wf=true
structure Pul.Ok(x:Pul):Prop where
 j:x.j.Ok
 f:x.f.Ok
end Go.FH
