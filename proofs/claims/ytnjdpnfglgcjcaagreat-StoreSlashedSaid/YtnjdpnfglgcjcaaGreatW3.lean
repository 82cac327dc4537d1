/-
 My texts Bp, Bq, Br, Bs, By, Ja, Jb, Jc, Jh, Bw, Bx, Ji, Jd, Jk, Je, Pb, Bv, Bo, Bt, Bu, joined.
-/
import Derived.Test.YtnjdpnfglgcjcaaGreatW2
import Derived.OpenShut
import Derived.ChangeMaps
set_option linter.unusedVariables false
set_option linter.unusedSimpArgs false
set_option maxRecDepth 100000
namespace Go.FH
open Go Go.RowKit
def ZG(σ:St)(zs:List Nat)(fr:Fr):Fr:=⟨fr.nv,fr.vs.map (fz σ zs),[]⟩
def E0(σ:St)(zs:List Nat):St:=(List.range σ.length).map fun i=>if zs.contains i then .gone else fzO σ zs (σ.getD i .gone)
theorem evZ:(∀σ zs nv vs ts,ZG σ zs ⟨nv,vs,ts⟩=⟨nv,vs.map (fz σ zs),[]⟩):=fun _ _ _ _ _=>rfl
section
variable{P:Program}{nt k:Nat}{fr:Fr}{σ:St}
theorem Sx{E:Env}:∀ {m:Nat} {ws:List Value},ws.length=m->(∀u∈ws,u.oneCell'=true)->RlC E (List.replicate m .any) ws
 | 0, ws, h, _ => by
   obtain rfl:ws=[]:=List.eq_nil_of_length_eq_zero h;rfl
 |m+1,[],h,_=>by cases h
 |m+1,u::ws,h,h1=>⟨u,ws,rfl,rfl,h1 u (List.mem_cons_self ..),Sx (by simpa using h) fun v hv=>h1 v (List.mem_cons_of_mem _ hv)⟩
theorem Sz{E:Env}{e:Nat}:∀ {m:Nat} {ws:List Value},ws.length=m*e->(∀u∈ws,u.oneCell'=true)->RlE E e (List.replicate m (List.replicate e .any)) ws
 | 0, ws, h, _ => by
   obtain rfl:ws=[]:=List.eq_nil_of_length_eq_zero (by simpa using h);rfl
 | m + 1, ws, h, h1 => by
   have hl:e<=ws.length:=by rw[h,Nat.add_mul];omega
   refine⟨ws.take e,ws.drop e,(List.take_append_drop e ws).symm,by simp;omega,Sx (by simp;omega) fun u hu=>h1 u (List.mem_of_mem_take hu),Sz (by rw[List.length_drop,h,Nat.add_mul];omega) fun u hu=>h1 u (List.mem_of_mem_drop hu)⟩
theorem Gp{c:ab}{Q:Ex->Fr->St->Prop}(zs:List Nat)(h:Tri P nt k c Q (ZG σ zs fr) (E0 σ zs)):Tri P nt k c Q fr σ:=by
 intro fx code hc C loc a w hs;have hk:=hs.klen
 have hf:nc k σ zs (List.range σ.length) (E0 σ zs):=by
  refine⟨fun i hi=>List.getElem?_range (by omega),List.nodup_range,fun j hj=>List.mem_range.1 hj,by simp[E0],fun i o ho=>?_⟩
  have hi:i<σ.length:=by
   have:=(List.getElem?_eq_some_iff.1 ho).1;simpa[E0]using this
  unfold E0 at ho;rw[List.getElem?_map,List.getElem?_range hi]at ho;simp only[Option.map_some,Option.some.injEq]at ho;split at ho
  ·exact .inl ho.symm
  ·rename_i hz;refine .inr ⟨i,List.getElem?_range hi,by simpa using hz,?_⟩;rw[O9,aab,<-ho,List.getElem?_eq_getElem hi,List.getD_eq_getElem?_getD,List.getElem?_eq_getElem hi];rfl
 refine Gn zs (List.range σ.length) (ZG σ zs fr) (E0 σ zs) hf (by simpa using hk) (fun t=>?_) h fx code hc C loc a w hs;rw[O9,Yo];unfold Fr.get ZG;simp only;split
 ·right
  rw[List.getD_eq_getElem?_getD,List.getD_eq_getElem?_getD,List.getElem?_map];cases fr.vs[t]?<;>rfl
 ·exact .inl rfl
def Sc(v:AV):Prop:=∀E E' u,Rl E v u->Rl E' v u
theorem Sc.int(k:IntKind)(n:Int):Sc (.int k n):=fun _ _ _ h=>h
theorem Sc.bool(b:Bool):Sc (.bool b):=fun _ _ _ h=>h
theorem Sc.str(s:List UInt8):Sc (.str s):=fun _ _ _ h=>h
theorem Gr{c:ab}{Q:Ex->Fr->St->Prop}(d:Nat){e id off len:Nat}{xs:List (List AV)}(hd:fr.get d=.hs e id off len)(hσ:σ[id]?=some (.vec e xs))(he:0<e)(hle:off+len<=xs.length)
 (h:∀m,xs.length+m<=off+maxLen->Tri P nt k c Q fr (σ.set id (.vex e (xs++List.replicate m (List.replicate e .any))))):Tri P nt k c Q fr σ:=by
 intro fx code hc C loc a w hs;have hv:=hs.frm d;rw[hd]at hv;obtain⟨ad,cap,L,g1,g2,g3,g4,g5,g6,g7,g8,g9,g10,g11⟩:=po (X:=C.X) hs.rel (ex:=false) (by rw[hσ];rfl) he hv hle;have hid:id<σ.length:=(List.getElem?_eq_some_iff.1 hσ).1
 have hrel:Rel C.X loc (σ.set id (.vex e (xs++List.replicate (off+cap-xs.length) (List.replicate e .any)))) w:=by
  refine hs.rel.weakL hσ rfl rfl fun L' hL' ho=>?_
  rw[g5]at hL';cases hL'
  rcases ho with⟨h1,h2⟩|⟨h1,cs,vs,ws,t,h3,h4,h5,h6,h7⟩
  ·have:=g9 h1;subst h2;refine .inl ⟨h1,?_⟩;have:off+cap-([]:List (List AV)).length=0:=by simp at hle ⊢;omega
   rw[this];rfl
  ·refine .inr ⟨h1,cs,vs++ws,t,by rw[<-List.append_assoc];exact h3,h4,by rw[<-List.append_assoc];exact h5,h6.app ?_⟩
   have hvl:=h6.length;have hr:=g8 h1
   have hwl:ws.length=(off+cap-xs.length)*e:=by
    rw[List.length_append,List.length_append,hvl,h4]at h5;rw[Nat.mul_sub_right_distrib];omega
   exact Sz hwl h7
 refine h _ (by omega) fx code hc C loc a w ⟨hrel,fun t=>?_,hs.size,hs.dfr,hs.ev,fun b hb=>hs.old b ((xv hσ rfl rfl b).1 hb),hs.pre,by simpa using hs.klen⟩;have:=hs.frm t;rwa [D9 hσ rfl rfl]
end
theorem ef{a:List AV}{n:Nat}(h:a.length=n):cut a 0 n=a:=by
 unfold cut;rw[List.drop_zero,<-h,List.take_length]
theorem aa0(x:AV)(b:List AV)(o n:Nat)(h:1<=o):cut (x::b) o n=cut b (o-1) n:=by
 obtain⟨k,rfl⟩:∃k,o=k+1:=⟨o-1,by omega⟩
 rfl
theorem aaZ(a b:List AV)(o n:Nat)(h:a.length<=o):cut (a++b) o n=cut b (o-a.length) n:=by
 unfold cut;rw[List.drop_append,List.drop_eq_nil_of_le h,List.nil_append]
theorem aaY(a b:List AV)(o n:Nat)(h:o+n<=a.length):cut (a++b) o n=cut a o n:=by
 unfold cut;rw[List.drop_append,List.take_append_of_le_length (by rw[List.length_drop];omega)]
theorem acf(x:AV)(b:List AV)(n:Nat)(h:0<n):cut (x::b) 0 n=x::cut b 0 (n-1):=by
 obtain⟨k,rfl⟩:∃k,n=k+1:=⟨n-1,by omega⟩
 rfl
theorem ace(b:List AV)(o:Nat):cut b o 0=[]:=by simp[cut]
theorem Pt{a:List AV}{vs:List AV}(h:vs.length=a.length):spl a 0 vs=vs:=by
 unfold spl;rw[h];simp
theorem aa9(x:AV)(b:List AV)(o:Nat)(vs:List AV)(h:1<=o):spl (x::b) o vs=x::spl b (o-1) vs:=by
 obtain⟨k,rfl⟩:∃k,o=k+1:=⟨o-1,by omega⟩
 unfold spl;simp[Nat.add_right_comm]
theorem aa8(a b:List AV)(o:Nat)(vs:List AV)(h:a.length<=o):spl (a++b) o vs=a++spl b (o-a.length) vs:=by
 unfold spl;rw[List.take_append,List.drop_append,List.take_of_length_le h,List.drop_eq_nil_of_le (by omega),List.nil_append,show o+vs.length-a.length=o-a.length+vs.length by omega];simp
theorem aa7(a b:List AV)(o:Nat)(vs:List AV)(h:o+vs.length<=a.length):spl (a++b) o vs=spl a o vs++b:=by
 unfold spl;rw[List.take_append_of_le_length (by omega),List.drop_append_of_le_length h];simp
theorem cS1{x:AV}{b:List AV}{o n:Nat}(h:1<=o:=by omega):cut (x::b) o n=cut b (o-1) n:=aa0 x b o n h
theorem cR1{a b:List AV}{k:Nat}(hk:a.length=k){o n:Nat}(h:k<=o:=by omega):cut (a++b) o n=cut b (o-k) n:=by subst hk;exact aaZ a b o n h
theorem cL1{a b:List AV}{k:Nat}(hk:a.length=k){o n:Nat}(h:o+n<=k:=by omega):cut (a++b) o n=cut a o n:=by subst hk;exact aaY a b o n h
theorem pS1{x:AV}{b:List AV}{o:Nat}{vs:List AV}(h:1<=o:=by omega):spl (x::b) o vs=x::spl b (o-1) vs:=aa9 x b o vs h
theorem pR1{a b:List AV}{k:Nat}(hk:a.length=k){o:Nat}{vs:List AV}(h:k<=o:=by omega):spl (a++b) o vs=a++spl b (o-k) vs:=by subst hk;exact aa8 a b o vs h
theorem pL1{a b:List AV}{k:Nat}(hk:a.length=k){o:Nat}{vs:List AV}(h:o+vs.length<=k:=by omega):spl (a++b) o vs=spl a o vs++b:=by subst hk;exact aa7 a b o vs h
theorem acx(x:AV)(b:List AV)(v:AV)(vs:List AV):spl (x::b) 0 (v::vs)=v::spl b 0 vs:=by
 unfold spl;simp
theorem acy(b:List AV):spl b 0 []=b:=by simp[spl]
theorem mS(a b:Int):(a==b)=decide (a=b):=by rw[Bool.eq_iff_iff];simp
theorem cC:bF []=true:=rfl
theorem bS(x:AV)(b:List AV):bF (x::b)=(x.cell&&bF b):=rfl
theorem cA(a b:List AV):bF (a++b)=(bF a&&bF b):=by simp[bF]
theorem eo(a b:List AV):PuL (a++b)↔PuL a/\PuL b:=by
 simp only[Dj,List.mem_append];exact⟨fun h=>⟨fun c hc=>h c (.inl hc),fun c hc=>h c (.inr hc)⟩,fun h c hc=>hc.elim (h.1 c) (h.2 c)⟩
theorem lZ(ρ:Nat->Nat)(a b:List AV):dP ρ (a++b)=dP ρ a++dP ρ b:=by simp[FR]
theorem mR(σ:St)(zs:List Nat):∀a b,fzL σ zs (a++b)=fzL σ zs a++fzL σ zs b
 | [],b=>rfl
 |x::a,b=>by simp only[List.cons_append,fzL,mR σ zs a b]
theorem i7:∀ {a b:List AV} (x y:List AV),a.length=b.length->gg (a++x) (b++y)=(match gg a b,gg x y with|some p,some q=>some (p&&q)|_,_=>none)
 | [],[],x,y,_=>by simp only[List.nil_append,gg];cases gg x y<;>simp
 | u :: a, v :: b, x, y, h => by
   have ih:=i7 (a:=a) (b:=b) x y (by simpa using h);simp only[List.cons_append,gg,ih];cases wu u v<;>cases gg a b<;>cases gg x y<;>simp[Bool.and_assoc]
 | [],_::_,_,_,h|_::_,[],_,_,h=>by simp at h
theorem gF:∀ {ks:List (Nat×Nat)} {cs:List AV},cs.map d8=eh ks->il ks cs=true
 | [],cs,h=>by simp only[eh,List.map_eq_nil_iff]at h;subst h;rfl
 | (n, k) :: ks, cs, h => by
   simp only[eh]at h;have hl:n<=cs.length:=by have:=congrArg List.length h;simp at this;omega
   have h1:(cs.take n).map d8=List.replicate n k:=by rw[List.map_take,h];simp
   have h2:(cs.drop n).map d8=eh ks:=by rw[List.map_drop,h];simp
   simp only[il,gF h2,Bool.and_true,Bool.and_eq_true,List.all_eq_true,beq_iff_eq];refine⟨by rw[List.length_take];omega,fun x hx=>?_⟩;have:d8 x∈(cs.take n).map d8:=List.mem_map_of_mem hx;rw[h1]at this;exact(List.mem_replicate.1 this).2
def byc(bs:List UInt8):List AV:=bs.map fun b=>.int .u8 (b.toNat:Int)
@[simp] theorem Rj(bs:List UInt8):(byc bs).length=bs.length:=by simp[byc]
theorem Zl(bs:List UInt8):PuL (byc bs):=by
 rw[Dj];intro x hx;obtain⟨b,_,rfl⟩:=List.mem_map.1 hx;trivial
theorem Kz(bs:List UInt8):bF (byc bs)=true:=by simp[bF,byc,AV.cell]
theorem Nr:∀ {a b:List UInt8},a.length=b.length->gg (byc a) (byc b)=some (decide (a=b))
 | [],[],_=>rfl
 | x :: a, y :: b, h => by
   have ih:=Nr (a:=a) (b:=b) (by simpa using h)
   have e:(((x.toNat:Int))==(y.toNat:Int))=decide (x=y):=by
    rw[Bool.eq_iff_iff];simp;exact⟨fun h=>UInt8.toNat_inj.1 (by omega),fun h=>by rw[h]⟩
   simp only[byc,List.map_cons,gg,wu,if_true]at ih ⊢;rw[ih,e];simp[List.cons.injEq]
 | [],_::_,h|_::_,[],h=>by simp at h
theorem II:∀ (bs:List UInt8) (n:Nat),bs.length=n->chunk 1 n (byc bs)=bts bs
 | [],_,rfl=>rfl
 | b :: bs, _, rfl => by
   simp only[List.length_cons,chunk,byc,List.map_cons,bts];have:=II bs _ rfl;simp only[byc,bts]at this;simp[this]
theorem ZC(bs:List UInt8){j:Nat}(h:j<bs.length):cut (byc bs) j 1=[.int .u8 (bs[j].toNat:Int)]:=by
 unfold cut byc;rw[<-List.map_drop,<-List.map_take,List.drop_eq_getElem_cons h];rfl
theorem aaL(bs:List UInt8){j:Nat}(h:j<bs.length)(b:UInt8):spl (byc bs) j [.int .u8 (b.toNat:Int)]=byc (bs.set j b):=by
 unfold spl byc;rw[<-List.map_take,List.length_singleton,<-List.map_drop,List.set_eq_take_append_cons_drop,if_pos h];simp
theorem U6(bs:List UInt8):(byc bs).map d8=List.replicate bs.length 1:=by
 rw[List.eq_replicate_iff];refine⟨by simp,fun b hb=>?_⟩;obtain⟨c,hc,rfl⟩:=List.mem_map.1 hb;obtain⟨d,_,rfl⟩:=List.mem_map.1 hc;rfl
theorem BR(bs:List UInt8):(bts bs).flatten=byc bs:=by
 induction bs with
 |nil=>rfl
 |cons b bs ih=>simp only[bts,byc,List.map_cons,List.flatten_cons]at ih ⊢;rw[ih];rfl
abbrev Rt:={b:List UInt8 // b.length=32}
def rtc(r:Rt):List AV:=byc r.1
@[simp] theorem aq(r:Rt):(rtc r).length=32:=by rw[rtc,Rj,r.2]
theorem Yv(r:Rt):cut (rtc r) 0 32=rtc r:=ef (aq r)
theorem Uu(r:Rt):chunk 1 32 (rtc r)=bts r.1:=II _ _ r.2
theorem dS(r:Rt):PuL (rtc r):=Zl _
theorem tN(ρ:Nat->Nat)(r:Rt):dP ρ (rtc r)=rtc r:=(dS r).ren ρ
theorem yR(σ:St)(zs:List Nat)(r:Rt):fzL σ zs (rtc r)=rtc r:=(dS r).fz σ zs
theorem ec(r:Rt):bF (rtc r)=true:=Kz _
theorem lx(r s:Rt):gg (rtc r) (rtc s)=some (decide (r=s)):=by
 rw[rtc,rtc,Nr (by rw[r.2,s.2])];congr 1;rw[decide_eq_decide];exact Subtype.ext_iff.symm
theorem kY(r:Rt):(rtc r).map d8=List.replicate 32 1:=by rw[rtc,U6,r.2]
theorem N8(r:Rt):il [(32,1)] (rtc r)=true:=gF (by rw[kY];rfl)
theorem SI(r:Rt){j:Nat}(h:j<32):cut (rtc r) j 1=[.int .u8 ((r.1[j]'(by rw[r.2];exact h)).toNat:Int)]:=ZC _ _
def Rt.set(r:Rt)(j:Nat)(b:UInt8):Rt:=⟨r.1.set j b,by rw[List.length_set,r.2]⟩
theorem Dv(r:Rt){j:Nat}(h:j<32)(b:UInt8):spl (rtc r) j [.int .u8 (b.toNat:Int)]=rtc (r.set j b):=aaL _ (by rw[r.2];exact h) b
theorem ua(r:Rt):(bts r.1=[])=False:=by
 rw[eq_iff_iff,iff_false];intro h;have:=congrArg List.length h;rw[Fj,r.2]at this;cases this
def rt0:Rt:=⟨List.replicate 32 0,rfl⟩
instance:Inhabited Rt:=⟨rt0⟩
abbrev Wd:={l:List Int // l.length=4}
def wdc(a:Wd):List AV:=a.1.map (.int .u64)
@[simp] theorem aY(a:Wd):(wdc a).length=4:=by rw[wdc,List.length_map,a.2]
theorem Zb(a:Wd):cut (wdc a) 0 4=wdc a:=ef (aY a)
theorem jY(a:Wd):PuL (wdc a):=by
 rw[Dj];intro x hx;obtain⟨b,_,rfl⟩:=List.mem_map.1 hx;trivial
theorem O4(ρ:Nat->Nat)(r:Wd):dP ρ (wdc r)=wdc r:=(jY r).ren ρ
theorem SM(σ:St)(zs:List Nat)(r:Wd):fzL σ zs (wdc r)=wdc r:=(jY r).fz σ zs
theorem qx(r:Wd):bF (wdc r)=true:=by simp[bF,wdc,AV.cell]
theorem Ix:∀ {a b:List Int},a.length=b.length->gg (a.map (.int .u64)) (b.map (.int .u64))=some (decide (a=b))
 | [],[],_=>rfl
 | x :: a, y :: b, h => by
   have ih:=Ix (a:=a) (b:=b) (by simpa using h);have e:(x==y)=decide (x=y):=by rw[Bool.eq_iff_iff];simp
   simp only[List.map_cons,gg,wu,if_true]at ih ⊢;rw[ih,e];simp[List.cons.injEq]
 | [],_::_,h|_::_,[],h=>by simp at h
theorem Ns(r s:Wd):gg (wdc r) (wdc s)=some (decide (r=s)):=by
 rw[wdc,wdc,Ix (by rw[r.2,s.2])];congr 1;rw[decide_eq_decide];exact Subtype.ext_iff.symm
theorem Jm(r:Wd):(wdc r).map d8=List.replicate 4 1:=by
 rw[wdc,List.map_map,List.eq_replicate_iff];refine⟨by rw[List.length_map,r.2],fun b hb=>?_⟩;obtain⟨c,hc,rfl⟩:=List.mem_map.1 hb;rfl
theorem Xr(r:Wd):il [(4,1)] (wdc r)=true:=gF (by rw[Jm];rfl)
theorem yB(r:Wd){j:Nat}(h:j<4):cut (wdc r) j 1=[.int .u64 (r.1[j]'(by rw[r.2];exact h))]:=by
 unfold cut wdc;rw[<-List.map_drop,<-List.map_take,List.drop_eq_getElem_cons (by rw[r.2];exact h)];rfl
def Wd.set(r:Wd)(j:Nat)(x:Int):Wd:=⟨r.1.set j x,by rw[List.length_set,r.2]⟩
theorem oZ(r:Wd){j:Nat}(h:j<4)(x:Int):spl (wdc r) j [.int .u64 x]=wdc (r.set j x):=by
 have h2:j<r.1.length:=by rw[r.2];exact h
 unfold spl wdc Wd.set;simp only;rw[<-List.map_take,List.length_singleton,<-List.map_drop,List.set_eq_take_append_cons_drop,if_pos h2];simp
theorem Xh(r:Wd){j:Nat}(h:j<4):cut (wdc r) j 1=[.int .u64 (r.1.getD j 0)]:=by
 rw[yB r h,List.getD_eq_getElem?_getD,List.getElem?_eq_getElem (by rw[r.2];exact h)];rfl
def wd0:Wd:=⟨List.replicate 4 0,rfl⟩
instance:Inhabited Wd:=⟨wd0⟩
structure Cp where
 ep:Int
 rt:Rt
 deriving Inhabited,DecidableEq
def cpC(x:Cp):List AV:=.int .u64 x.ep::(rtc x.rt)
@[simp] theorem aG(x:Cp):(cpC x).length=33:=by simp only[cpC,List.length_cons,List.length_append,List.length_nil,aq]
theorem Xe(ep:Int)(rt:Rt):.int .u64 ep::(rtc rt)=cpC ⟨ep,rt⟩:=rfl
theorem Xf(x:Cp):cut (cpC x) 0 33=cpC x:=ef (aG x)
theorem Qv(x:Cp):cut (cpC x) 0 1=[.int .u64 x.ep]:=by unfold cpC;all_goals rfl
theorem Qx(x:Cp)(v:Int):spl (cpC x) 0 [.int .u64 v]=cpC { x with ep:=v }:=by unfold cpC;all_goals rfl
theorem Qw(x:Cp)(o n:Nat)(h1:1<=o)(h2:o+n<=33):cut (cpC x) o n=cut (rtc x.rt) (o-1) n:=by unfold cpC;rw[cS1];all_goals rfl
theorem Qy(x:Cp)(o:Nat)(vs:List AV)(h1:1<=o)(h2:o+vs.length<=33):spl (cpC x) o vs=.int .u64 x.ep::(spl (rtc x.rt) (o-1) vs):=by unfold cpC;rw[pS1];all_goals rfl
theorem iE(x:Cp):bF (cpC x)=true:=by simp[cpC,bS,cA,cC,AV.cell,ec]
theorem fF(x:Cp):PuL (cpC x):=by simp[cpC,eo,PuL,Pu,dS]
theorem zi(ρ:Nat->Nat)(x:Cp):dP ρ (cpC x)=cpC x:=(fF x).ren ρ
theorem Do(σ:St)(zs:List Nat)(x:Cp):fzL σ zs (cpC x)=cpC x:=(fF x).fz σ zs
theorem Aj(x:Cp):(cpC x).map d8=eh [(33,1)]:=by simp only[cpC,List.map_cons,List.map_append,List.map_nil,d8,kY];decide +kernel
theorem Xq(x:Cp):il [(33,1)] (cpC x)=true:=gF (Aj x)
theorem DH(x y:Cp):gg (cpC x) (cpC y)=some (decide (x=y)):=by cases x;cases y;simp[cpC,i7,gg,wu,aq,aY,lx,Bool.beq_eq_decide_eq,mS,Bool.and_assoc,Bool.decide_and]
def cp0:Cp:=⟨0,rt0⟩
structure Pul where
 j:Cp
 f:Cp
 deriving Inhabited,DecidableEq
def fd(x:Pul):List AV:=cpC x.j++(cpC x.f)
@[simp] theorem bN(x:Pul):(fd x).length=66:=by simp only[fd,List.length_cons,List.length_append,List.length_nil,aG]
theorem Vu(j:Cp)(f:Cp):cpC j++(cpC f)=fd ⟨j,f⟩:=rfl
theorem Vv(x:Pul):cut (fd x) 0 66=fd x:=ef (bN x)
theorem RR(x:Pul)(o n:Nat)(h1:0<=o)(h2:o+n<=33):cut (fd x) o n=cut (cpC x.j) (o-0) n:=by unfold fd;rw[cL1 (aG _)];all_goals rfl
theorem RT(x:Pul)(o:Nat)(vs:List AV)(h1:0<=o)(h2:o+vs.length<=33):spl (fd x) o vs=spl (cpC x.j) (o-0) vs++(cpC x.f):=by unfold fd;rw[pL1 (aG _)];all_goals rfl
theorem RQ(x:Pul)(o n:Nat)(h1:33<=o)(h2:o+n<=66):cut (fd x) o n=cut (cpC x.f) (o-33) n:=by unfold fd;rw[cR1 (aG _)];all_goals rfl
theorem RS(x:Pul)(o:Nat)(vs:List AV)(h1:33<=o)(h2:o+vs.length<=66):spl (fd x) o vs=cpC x.j++(spl (cpC x.f) (o-33) vs):=by unfold fd;rw[pR1 (aG _)];all_goals rfl
theorem vd(x:Pul):bF (fd x)=true:=by simp[fd,bS,cA,cC,AV.cell,iE]
theorem xQ(x:Pul):PuL (fd x):=by simp[fd,eo,PuL,Pu,fF]
theorem VG(ρ:Nat->Nat)(x:Pul):dP ρ (fd x)=fd x:=(xQ x).ren ρ
theorem Xz(σ:St)(zs:List Nat)(x:Pul):fzL σ zs (fd x)=fd x:=(xQ x).fz σ zs
theorem Fh(x:Pul):(fd x).map d8=eh [(66,1)]:=by simp only[fd,List.map_cons,List.map_append,List.map_nil,d8,Aj];decide +kernel
theorem UN(x:Pul):il [(66,1)] (fd x)=true:=gF (Fh x)
theorem Iy(x y:Pul):gg (fd x) (fd y)=some (decide (x=y)):=by cases x;cases y;simp[fd,i7,gg,wu,aq,aY,DH,Bool.beq_eq_decide_eq,mS,Bool.and_assoc,Bool.decide_and]
def HP:Pul:=⟨cp0,cp0⟩
structure Blk where
 pul:Pul
 slot:Int
 root:Rt
 parent:Rt
 payload:Rt
 diff:Wd
 pdiff:Wd
 just:Cp
 fin:Cp
 timely:Bool
 deriving Inhabited,DecidableEq
def aA(x:Blk):List AV:=fd x.pul++(.int .u64 x.slot::(rtc x.root++(rtc x.parent++(rtc x.payload++(wdc x.diff++(wdc x.pdiff++(cpC x.just++(cpC x.fin++[.bool x.timely]))))))))
@[simp] theorem bJ(x:Blk):(aA x).length=238:=by simp only[aA,List.length_cons,List.length_append,List.length_nil,aG,bN,aq,aY]
theorem Uh(pul:Pul)(slot:Int)(root:Rt)(parent:Rt)(payload:Rt)(diff:Wd)(pdiff:Wd)(just:Cp)(fin:Cp)(timely:Bool):fd pul++(.int .u64 slot::(rtc root++(rtc parent++(rtc payload++(wdc diff++(wdc pdiff++(cpC just++(cpC fin++[.bool timely]))))))))=aA ⟨pul,slot,root,parent,payload,diff,pdiff,just,fin,timely⟩:=rfl
theorem Ui(x:Blk):cut (aA x) 0 238=aA x:=ef (bJ x)
theorem KH(x:Blk)(o n:Nat)(h1:0<=o)(h2:o+n<=66):cut (aA x) o n=cut (fd x.pul) (o-0) n:=by unfold aA;rw[cL1 (bN _)];all_goals rfl
theorem KJ(x:Blk)(o:Nat)(vs:List AV)(h1:0<=o)(h2:o+vs.length<=66):spl (aA x) o vs=spl (fd x.pul) (o-0) vs++(.int .u64 x.slot::(rtc x.root++(rtc x.parent++(rtc x.payload++(wdc x.diff++(wdc x.pdiff++(cpC x.just++(cpC x.fin++[.bool x.timely])))))))):=by unfold aA;rw[pL1 (bN _)];all_goals rfl
theorem GQ(x:Blk):cut (aA x) 66 1=[.int .u64 x.slot]:=by unfold aA;rw[cR1 (bN _)];simp only[Nat.reduceSub];all_goals rfl
theorem GU(x:Blk)(v:Int):spl (aA x) 66 [.int .u64 v]=aA { x with slot:=v }:=by unfold aA;rw[pR1 (bN _)];simp only[Nat.reduceSub];all_goals rfl
theorem GP(x:Blk)(o n:Nat)(h1:67<=o)(h2:o+n<=99):cut (aA x) o n=cut (rtc x.root) (o-67) n:=by unfold aA;rw[cR1 (bN _),cS1,cL1 (aq _)];rw[show o-66-1=o-67 by omega]
theorem GT(x:Blk)(o:Nat)(vs:List AV)(h1:67<=o)(h2:o+vs.length<=99):spl (aA x) o vs=fd x.pul++(.int .u64 x.slot::(spl (rtc x.root) (o-67) vs++(rtc x.parent++(rtc x.payload++(wdc x.diff++(wdc x.pdiff++(cpC x.just++(cpC x.fin++[.bool x.timely])))))))):=by unfold aA;rw[pR1 (bN _),pS1,pL1 (aq _)];rw[show o-66-1=o-67 by omega]
theorem Cl(x:Blk)(o n:Nat)(h1:99<=o)(h2:o+n<=131):cut (aA x) o n=cut (rtc x.parent) (o-99) n:=by unfold aA;rw[cR1 (bN _),cS1];rw[cR1 (aq _),cL1 (aq _)];rw[show o-66-1-32=o-99 by omega]
theorem Cn(x:Blk)(o:Nat)(vs:List AV)(h1:99<=o)(h2:o+vs.length<=131):spl (aA x) o vs=fd x.pul++(.int .u64 x.slot::(rtc x.root++(spl (rtc x.parent) (o-99) vs++(rtc x.payload++(wdc x.diff++(wdc x.pdiff++(cpC x.just++(cpC x.fin++[.bool x.timely])))))))):=by unfold aA;rw[pR1 (bN _),pS1];rw[pR1 (aq _),pL1 (aq _)];rw[show o-66-1-32=o-99 by omega]
theorem zJ(x:Blk)(o n:Nat)(h1:131<=o)(h2:o+n<=163):cut (aA x) o n=cut (rtc x.payload) (o-131) n:=by unfold aA;rw[cR1 (bN _),cS1];rw[cR1 (aq _),cR1 (aq _),cL1 (aq _)];rw[show o-66-1-32-32=o-131 by omega]
theorem zK(x:Blk)(o:Nat)(vs:List AV)(h1:131<=o)(h2:o+vs.length<=163):spl (aA x) o vs=fd x.pul++(.int .u64 x.slot::(rtc x.root++(rtc x.parent++(spl (rtc x.payload) (o-131) vs++(wdc x.diff++(wdc x.pdiff++(cpC x.just++(cpC x.fin++[.bool x.timely])))))))):=by unfold aA;rw[pR1 (bN _),pS1];rw[pR1 (aq _),pR1 (aq _),pL1 (aq _)];rw[show o-66-1-32-32=o-131 by omega]
theorem GN(x:Blk)(o n:Nat)(h1:163<=o)(h2:o+n<=167):cut (aA x) o n=cut (wdc x.diff) (o-163) n:=by unfold aA;rw[cR1 (bN _),cS1];rw[cR1 (aq _),cR1 (aq _)];rw[cR1 (aq _),cL1 (aY _)];rw[show o-66-1-32-32-32=o-163 by omega]
theorem GR(x:Blk)(o:Nat)(vs:List AV)(h1:163<=o)(h2:o+vs.length<=167):spl (aA x) o vs=fd x.pul++(.int .u64 x.slot::(rtc x.root++(rtc x.parent++(rtc x.payload++(spl (wdc x.diff) (o-163) vs++(wdc x.pdiff++(cpC x.just++(cpC x.fin++[.bool x.timely])))))))):=by unfold aA;rw[pR1 (bN _),pS1];rw[pR1 (aq _),pR1 (aq _)];rw[pR1 (aq _),pL1 (aY _)];rw[show o-66-1-32-32-32=o-163 by omega]
theorem DN(x:Blk)(o n:Nat)(h1:167<=o)(h2:o+n<=171):cut (aA x) o n=cut (wdc x.pdiff) (o-167) n:=by unfold aA;rw[cR1 (bN _),cS1];rw[cR1 (aq _),cR1 (aq _)];rw[cR1 (aq _),cR1 (aY _),cL1 (aY _)];rw[show o-66-1-32-32-32-4=o-167 by omega]
theorem DO(x:Blk)(o:Nat)(vs:List AV)(h1:167<=o)(h2:o+vs.length<=171):spl (aA x) o vs=fd x.pul++(.int .u64 x.slot::(rtc x.root++(rtc x.parent++(rtc x.payload++(wdc x.diff++(spl (wdc x.pdiff) (o-167) vs++(cpC x.just++(cpC x.fin++[.bool x.timely])))))))):=by unfold aA;rw[pR1 (bN _),pS1];rw[pR1 (aq _),pR1 (aq _)];rw[pR1 (aq _),pR1 (aY _),pL1 (aY _)];rw[show o-66-1-32-32-32-4=o-167 by omega]
theorem GO(x:Blk)(o n:Nat)(h1:171<=o)(h2:o+n<=204):cut (aA x) o n=cut (cpC x.just) (o-171) n:=by unfold aA;rw[cR1 (bN _),cS1];rw[cR1 (aq _),cR1 (aq _)];rw[cR1 (aq _),cR1 (aY _)];rw[cR1 (aY _),cL1 (aG _)];rw[show o-66-1-32-32-32-4-4=o-171 by omega]
theorem GS(x:Blk)(o:Nat)(vs:List AV)(h1:171<=o)(h2:o+vs.length<=204):spl (aA x) o vs=fd x.pul++(.int .u64 x.slot::(rtc x.root++(rtc x.parent++(rtc x.payload++(wdc x.diff++(wdc x.pdiff++(spl (cpC x.just) (o-171) vs++(cpC x.fin++[.bool x.timely])))))))):=by unfold aA;rw[pR1 (bN _),pS1];rw[pR1 (aq _),pR1 (aq _)];rw[pR1 (aq _),pR1 (aY _)];rw[pR1 (aY _),pL1 (aG _)];rw[show o-66-1-32-32-32-4-4=o-171 by omega]
theorem KG(x:Blk)(o n:Nat)(h1:204<=o)(h2:o+n<=237):cut (aA x) o n=cut (cpC x.fin) (o-204) n:=by unfold aA;rw[cR1 (bN _),cS1];rw[cR1 (aq _),cR1 (aq _)];rw[cR1 (aq _),cR1 (aY _)];rw[cR1 (aY _),cR1 (aG _),cL1 (aG _)];rw[show o-66-1-32-32-32-4-4-33=o-204 by omega]
theorem KI(x:Blk)(o:Nat)(vs:List AV)(h1:204<=o)(h2:o+vs.length<=237):spl (aA x) o vs=fd x.pul++(.int .u64 x.slot::(rtc x.root++(rtc x.parent++(rtc x.payload++(wdc x.diff++(wdc x.pdiff++(cpC x.just++(spl (cpC x.fin) (o-204) vs++[.bool x.timely])))))))):=by unfold aA;rw[pR1 (bN _),pS1];rw[pR1 (aq _),pR1 (aq _)];rw[pR1 (aq _),pR1 (aY _)];rw[pR1 (aY _),pR1 (aG _),pL1 (aG _)];rw[show o-66-1-32-32-32-4-4-33=o-204 by omega]
theorem Cm(x:Blk):cut (aA x) 237 1=[.bool x.timely]:=by unfold aA;rw[cR1 (bN _),cS1];rw[cR1 (aq _),cR1 (aq _)];rw[cR1 (aq _),cR1 (aY _)];rw[cR1 (aY _),cR1 (aG _),cR1 (aG _)];simp only[Nat.reduceSub];all_goals rfl
theorem Co(x:Blk)(v:Bool):spl (aA x) 237 [.bool v]=aA { x with timely:=v }:=by unfold aA;rw[pR1 (bN _),pS1];rw[pR1 (aq _),pR1 (aq _)];rw[pR1 (aq _),pR1 (aY _)];rw[pR1 (aY _),pR1 (aG _),pR1 (aG _)];simp only[Nat.reduceSub];all_goals rfl
theorem pe(x:Blk):bF (aA x)=true:=by simp[aA,bS,cA,cC,AV.cell,iE,vd,ec,qx]
theorem gz(x:Blk):PuL (aA x):=by simp[aA,eo,PuL,Pu,fF,xQ,dS,jY]
theorem JJ(ρ:Nat->Nat)(x:Blk):dP ρ (aA x)=aA x:=(gz x).ren ρ
theorem Ob(σ:St)(zs:List Nat)(x:Blk):fzL σ zs (aA x)=aA x:=(gz x).fz σ zs
theorem Fg(x:Blk):(aA x).map d8=eh [(237,1),(1,0)]:=by simp only[aA,List.map_cons,List.map_append,List.map_nil,d8,Aj,Fh,kY,Jm];decide +kernel
theorem UJ(x:Blk):il [(237,1),(1,0)] (aA x)=true:=gF (Fg x)
theorem Iw(x y:Blk):gg (aA x) (aA y)=some (decide (x=y)):=by cases x;cases y;simp[aA,i7,gg,wu,aq,aY,DH,Iy,lx,Ns,Bool.beq_eq_decide_eq,mS,Bool.and_assoc,Bool.decide_and]
def dO:Blk:=⟨HP,0,rt0,rt0,rt0,wd0,wd0,cp0,cp0,false⟩
structure Att where
 slot:Int
 root:Rt
 target:Cp
 vals:AV
 deriving Inhabited
def bZ(x:Att):List AV:=.int .u64 x.slot::(rtc x.root++(cpC x.target++[x.vals]))
@[simp] theorem dE(x:Att):(bZ x).length=67:=by simp only[bZ,List.length_cons,List.length_append,List.length_nil,aG,aq]
theorem TZ(slot:Int)(root:Rt)(target:Cp)(vals:AV):.int .u64 slot::(rtc root++(cpC target++[vals]))=bZ ⟨slot,root,target,vals⟩:=rfl
theorem T5(x:Att):cut (bZ x) 0 67=bZ x:=ef (dE x)
theorem GI(x:Att):cut (bZ x) 0 1=[.int .u64 x.slot]:=by unfold bZ;all_goals rfl
theorem GL(x:Att)(v:Int):spl (bZ x) 0 [.int .u64 v]=bZ { x with slot:=v }:=by unfold bZ;all_goals rfl
theorem GH(x:Att)(o n:Nat)(h1:1<=o)(h2:o+n<=33):cut (bZ x) o n=cut (rtc x.root) (o-1) n:=by unfold bZ;rw[cS1,cL1 (aq _)];all_goals rfl
theorem GK(x:Att)(o:Nat)(vs:List AV)(h1:1<=o)(h2:o+vs.length<=33):spl (bZ x) o vs=.int .u64 x.slot::(spl (rtc x.root) (o-1) vs++(cpC x.target++[x.vals])):=by unfold bZ;rw[pS1,pL1 (aq _)];all_goals rfl
theorem Cj(x:Att)(o n:Nat)(h1:33<=o)(h2:o+n<=66):cut (bZ x) o n=cut (cpC x.target) (o-33) n:=by unfold bZ;rw[cS1,cR1 (aq _),cL1 (aG _)];rw[show o-1-32=o-33 by omega]
theorem Ck(x:Att)(o:Nat)(vs:List AV)(h1:33<=o)(h2:o+vs.length<=66):spl (bZ x) o vs=.int .u64 x.slot::(rtc x.root++(spl (cpC x.target) (o-33) vs++[x.vals])):=by unfold bZ;rw[pS1,pR1 (aq _),pL1 (aG _)];rw[show o-1-32=o-33 by omega]
theorem GJ(x:Att):cut (bZ x) 66 1=[x.vals]:=by unfold bZ;rw[cS1,cR1 (aq _),cR1 (aG _)];simp only[Nat.reduceSub];all_goals rfl
theorem GM(x:Att)(v:AV):spl (bZ x) 66 [v]=bZ { x with vals:=v }:=by unfold bZ;rw[pS1,pR1 (aq _),pR1 (aG _)];simp only[Nat.reduceSub];all_goals rfl
def Att.map(g:AV->AV)(x:Att):Att:={ x with vals:=g x.vals }
theorem Att.map_mk(g:AV->AV)(slot:Int)(root:Rt)(target:Cp)(vals:AV):Att.map g ⟨slot,root,target,vals⟩=⟨slot,root,target,g vals⟩:=rfl
def Att.good(x:Att):Bool:=x.vals.cell
theorem Att.good_mk(slot:Int)(root:Rt)(target:Cp)(vals:AV):Att.good ⟨slot,root,target,vals⟩=(vals.cell):=rfl
def Att.Pure(x:Att):Prop:=Pu x.vals
theorem uZ(x:Att):bF (bZ x)=x.good:=by simp[bZ,Att.good,Bool.and_assoc,bS,cA,cC,AV.cell,iE,ec]
theorem hZ(x:Att):PuL (bZ x)↔x.Pure:=by simp[bZ,Att.Pure,eo,PuL,Pu,fF,dS]
theorem JI(ρ:Nat->Nat)(x:Att):dP ρ (bZ x)=bZ (x.map (ren ρ)):=by simp only[bZ,Att.map,lZ,dP,ren,zi,tN]
theorem Oa(σ:St)(zs:List Nat)(x:Att):fzL σ zs (bZ x)=bZ (x.map (fz σ zs)):=by simp only[bZ,Att.map,mR,fzL,fz,Do,yR]
def GG:Att:=⟨0,rt0,cp0,.sl 0 true []⟩
structure Clm where
 src:Int
 tgt:Int
 root:Rt
 vals:AV
 deriving Inhabited
def de(x:Clm):List AV:=.int .u64 x.src::(.int .u64 x.tgt::(rtc x.root++[x.vals]))
@[simp] theorem io(x:Clm):(de x).length=35:=by simp only[de,List.length_cons,List.length_append,List.length_nil,aq]
theorem Uv(src:Int)(tgt:Int)(root:Rt)(vals:AV):.int .u64 src::(.int .u64 tgt::(rtc root++[vals]))=de ⟨src,tgt,root,vals⟩:=rfl
theorem Uw(x:Clm):cut (de x) 0 35=de x:=ef (io x)
theorem KT(x:Clm):cut (de x) 0 1=[.int .u64 x.src]:=by unfold de;all_goals rfl
theorem KV(x:Clm)(v:Int):spl (de x) 0 [.int .u64 v]=de { x with src:=v }:=by unfold de;all_goals rfl
theorem KU(x:Clm):cut (de x) 1 1=[.int .u64 x.tgt]:=by unfold de;rw[cS1];simp only[Nat.reduceSub];all_goals rfl
theorem KW(x:Clm)(v:Int):spl (de x) 1 [.int .u64 v]=de { x with tgt:=v }:=by unfold de;rw[pS1];simp only[Nat.reduceSub];all_goals rfl
theorem GX(x:Clm)(o n:Nat)(h1:2<=o)(h2:o+n<=34):cut (de x) o n=cut (rtc x.root) (o-2) n:=by unfold de;rw[cS1,cS1,cL1 (aq _)];rw[show o-1-1=o-2 by omega]
theorem GZ(x:Clm)(o:Nat)(vs:List AV)(h1:2<=o)(h2:o+vs.length<=34):spl (de x) o vs=.int .u64 x.src::(.int .u64 x.tgt::(spl (rtc x.root) (o-2) vs++[x.vals])):=by unfold de;rw[pS1,pS1,pL1 (aq _)];rw[show o-1-1=o-2 by omega]
theorem GY(x:Clm):cut (de x) 34 1=[x.vals]:=by unfold de;rw[cS1,cS1,cR1 (aq _)];simp only[Nat.reduceSub];all_goals rfl
theorem G0(x:Clm)(v:AV):spl (de x) 34 [v]=de { x with vals:=v }:=by unfold de;rw[pS1,pS1,pR1 (aq _)];simp only[Nat.reduceSub];all_goals rfl
def Clm.map(g:AV->AV)(x:Clm):Clm:={ x with vals:=g x.vals }
theorem Clm.map_mk(g:AV->AV)(src:Int)(tgt:Int)(root:Rt)(vals:AV):Clm.map g ⟨src,tgt,root,vals⟩=⟨src,tgt,root,g vals⟩:=rfl
def Clm.good(x:Clm):Bool:=x.vals.cell
theorem Clm.good_mk(src:Int)(tgt:Int)(root:Rt)(vals:AV):Clm.good ⟨src,tgt,root,vals⟩=(vals.cell):=rfl
def Clm.Pure(x:Clm):Prop:=Pu x.vals
theorem u7(x:Clm):bF (de x)=x.good:=by simp[de,Clm.good,Bool.and_assoc,bS,cA,cC,AV.cell,ec]
theorem i5(x:Clm):PuL (de x)↔x.Pure:=by simp[de,Clm.Pure,eo,PuL,Pu,dS]
theorem JK(ρ:Nat->Nat)(x:Clm):dP ρ (de x)=de (x.map (ren ρ)):=by simp only[de,Clm.map,lZ,dP,ren,tN]
theorem Od(σ:St)(zs:List Nat)(x:Clm):fzL σ zs (de x)=de (x.map (fz σ zs)):=by simp only[de,Clm.map,mR,fzL,fz,yR]
def Zy:Clm:=⟨0,0,rt0,.sl 0 true []⟩
structure Slg where
 fst:Clm
 snd:Clm
 deriving Inhabited
def dq(x:Slg):List AV:=de x.fst++(de x.snd)
@[simp] theorem dZ(x:Slg):(dq x).length=70:=by simp only[dq,List.length_cons,List.length_append,List.length_nil,io]
theorem VW(fst:Clm)(snd:Clm):de fst++(de snd)=dq ⟨fst,snd⟩:=rfl
theorem VX(x:Slg):cut (dq x) 0 70=dq x:=ef (dZ x)
theorem Mz(x:Slg)(o n:Nat)(h1:0<=o)(h2:o+n<=35):cut (dq x) o n=cut (de x.fst) (o-0) n:=by unfold dq;rw[cL1 (io _)];all_goals rfl
theorem MB(x:Slg)(o:Nat)(vs:List AV)(h1:0<=o)(h2:o+vs.length<=35):spl (dq x) o vs=spl (de x.fst) (o-0) vs++(de x.snd):=by unfold dq;rw[pL1 (io _)];all_goals rfl
theorem MA(x:Slg)(o n:Nat)(h1:35<=o)(h2:o+n<=70):cut (dq x) o n=cut (de x.snd) (o-35) n:=by unfold dq;rw[cR1 (io _)];all_goals rfl
theorem MC(x:Slg)(o:Nat)(vs:List AV)(h1:35<=o)(h2:o+vs.length<=70):spl (dq x) o vs=de x.fst++(spl (de x.snd) (o-35) vs):=by unfold dq;rw[pR1 (io _)];all_goals rfl
def Slg.map(g:AV->AV)(x:Slg):Slg:={ x with fst:=x.fst.map g,snd:=x.snd.map g }
theorem Slg.map_mk(g:AV->AV)(fst:Clm)(snd:Clm):Slg.map g ⟨fst,snd⟩=⟨fst.map g,snd.map g⟩:=rfl
def Slg.good(x:Slg):Bool:=x.fst.good&&x.snd.good
theorem Slg.good_mk(fst:Clm)(snd:Clm):Slg.good ⟨fst,snd⟩=(fst.good&&snd.good):=rfl
def Slg.Pure(x:Slg):Prop:=x.fst.Pure/\x.snd.Pure
theorem ve(x:Slg):bF (dq x)=x.good:=by simp[dq,Slg.good,Bool.and_assoc,bS,cA,cC,AV.cell,u7]
theorem ia(x:Slg):PuL (dq x)↔x.Pure:=by simp[dq,Slg.Pure,eo,PuL,Pu,i5]
theorem JN(ρ:Nat->Nat)(x:Slg):dP ρ (dq x)=dq (x.map (ren ρ)):=by simp only[dq,Slg.map,lZ,dP,ren,JK]
theorem Og(σ:St)(zs:List Nat)(x:Slg):fzL σ zs (dq x)=dq (x.map (fz σ zs)):=by simp only[dq,Slg.map,mR,fzL,fz,Od]
def HV:Slg:=⟨Zy,Zy⟩
structure Tab where
 cp:Cp
 bals:AV
 deriving Inhabited
def bE(x:Tab):List AV:=cpC x.cp++[x.bals]
@[simp] theorem eQ(x:Tab):(bE x).length=34:=by simp only[bE,List.length_cons,List.length_append,List.length_nil,aG]
theorem Wh(cp:Cp)(bals:AV):cpC cp++[bals]=bE ⟨cp,bals⟩:=rfl
theorem Wi(x:Tab):cut (bE x) 0 34=bE x:=ef (eQ x)
theorem PD(x:Tab)(o n:Nat)(h1:0<=o)(h2:o+n<=33):cut (bE x) o n=cut (cpC x.cp) (o-0) n:=by unfold bE;rw[cL1 (aG _)];all_goals rfl
theorem PE(x:Tab)(o:Nat)(vs:List AV)(h1:0<=o)(h2:o+vs.length<=33):spl (bE x) o vs=spl (cpC x.cp) (o-0) vs++[x.bals]:=by unfold bE;rw[pL1 (aG _)];all_goals rfl
theorem Ij(x:Tab):cut (bE x) 33 1=[x.bals]:=by unfold bE;rw[cR1 (aG _)];simp only[Nat.reduceSub];all_goals rfl
theorem Ik(x:Tab)(v:AV):spl (bE x) 33 [v]=bE { x with bals:=v }:=by unfold bE;rw[pR1 (aG _)];simp only[Nat.reduceSub];all_goals rfl
def Tab.map(g:AV->AV)(x:Tab):Tab:={ x with bals:=g x.bals }
theorem Tab.map_mk(g:AV->AV)(cp:Cp)(bals:AV):Tab.map g ⟨cp,bals⟩=⟨cp,g bals⟩:=rfl
def Tab.good(x:Tab):Bool:=x.bals.cell
theorem Tab.good_mk(cp:Cp)(bals:AV):Tab.good ⟨cp,bals⟩=(bals.cell):=rfl
def Tab.Pure(x:Tab):Prop:=Pu x.bals
theorem vg(x:Tab):bF (bE x)=x.good:=by simp[bE,Tab.good,Bool.and_assoc,bS,cA,cC,AV.cell,iE]
theorem gB(x:Tab):PuL (bE x)↔x.Pure:=by simp[bE,Tab.Pure,eo,PuL,Pu,fF]
theorem JP(ρ:Nat->Nat)(x:Tab):dP ρ (bE x)=bE (x.map (ren ρ)):=by simp only[bE,Tab.map,lZ,dP,ren,zi]
theorem Oi(σ:St)(zs:List Nat)(x:Tab):fzL σ zs (bE x)=bE (x.map (fz σ zs)):=by simp only[bE,Tab.map,mR,fzL,fz,Do]
def zw:Tab:=⟨cp0,.sl 0 true []⟩
structure Vdt where
 tag:Int
 kind:Int
 latest:Rt
 deriving Inhabited,DecidableEq
def en(x:Vdt):List AV:=.int .u64 x.tag::(.int .i64 x.kind::(rtc x.latest))
@[simp] theorem fR(x:Vdt):(en x).length=34:=by simp only[en,List.length_cons,List.length_append,List.length_nil,aq]
theorem Wy(tag:Int)(kind:Int)(latest:Rt):.int .u64 tag::(.int .i64 kind::(rtc latest))=en ⟨tag,kind,latest⟩:=rfl
theorem Wz(x:Vdt):cut (en x) 0 34=en x:=ef (fR x)
theorem M4(x:Vdt):cut (en x) 0 1=[.int .u64 x.tag]:=by unfold en;all_goals rfl
theorem M5(x:Vdt)(v:Int):spl (en x) 0 [.int .u64 v]=en { x with tag:=v }:=by unfold en;all_goals rfl
theorem Im(x:Vdt):cut (en x) 1 1=[.int .i64 x.kind]:=by unfold en;rw[cS1];simp only[Nat.reduceSub];all_goals rfl
theorem In(x:Vdt)(v:Int):spl (en x) 1 [.int .i64 v]=en { x with kind:=v }:=by unfold en;rw[pS1];simp only[Nat.reduceSub];all_goals rfl
theorem Dh(x:Vdt)(o n:Nat)(h1:2<=o)(h2:o+n<=34):cut (en x) o n=cut (rtc x.latest) (o-2) n:=by unfold en;rw[cS1,cS1];rw[show o-1-1=o-2 by omega]
theorem Di(x:Vdt)(o:Nat)(vs:List AV)(h1:2<=o)(h2:o+vs.length<=34):spl (en x) o vs=.int .u64 x.tag::(.int .i64 x.kind::(spl (rtc x.latest) (o-2) vs)):=by unfold en;rw[pS1,pS1];rw[show o-1-1=o-2 by omega]
theorem vh(x:Vdt):bF (en x)=true:=by simp[en,bS,cA,cC,AV.cell,ec]
theorem rV(x:Vdt):PuL (en x):=by simp[en,eo,PuL,Pu,dS]
theorem JQ(ρ:Nat->Nat)(x:Vdt):dP ρ (en x)=en x:=(rV x).ren ρ
theorem Oj(σ:St)(zs:List Nat)(x:Vdt):fzL σ zs (en x)=en x:=(rV x).fz σ zs
theorem Q6(x:Vdt):(en x).map d8=eh [(34,1)]:=by simp only[en,List.map_cons,List.map_append,List.map_nil,d8,kY];decide +kernel
theorem UP(x:Vdt):il [(34,1)] (en x)=true:=gF (Q6 x)
theorem TX(x y:Vdt):gg (en x) (en y)=some (decide (x=y)):=by cases x;cases y;simp[en,i7,gg,wu,aq,aY,lx,Bool.beq_eq_decide_eq,mS,Bool.and_assoc,Bool.decide_and]
def lk:Vdt:=⟨0,0,rt0⟩
structure SOp where
 kind:Int
 blk:Blk
 att:Att
 slg:Slg
 tab:Tab
 vdt:Vdt
 write:Int
 keep:Int
 deriving Inhabited
def dp(x:SOp):List AV:=.int .i64 x.kind::(aA x.blk++(bZ x.att++(dq x.slg++(bE x.tab++(en x.vdt++(.int .i64 x.write::[.int .i64 x.keep]))))))
@[simp] theorem BW(x:SOp):(dp x).length=446:=by simp only[dp,List.length_cons,List.length_append,List.length_nil,dE,bJ,dZ,eQ,fR]
theorem VN(kind:Int)(blk:Blk)(att:Att)(slg:Slg)(tab:Tab)(vdt:Vdt)(write:Int)(keep:Int):.int .i64 kind::(aA blk++(bZ att++(dq slg++(bE tab++(en vdt++(.int .i64 write::[.int .i64 keep]))))))=dp ⟨kind,blk,att,slg,tab,vdt,write,keep⟩:=rfl
theorem VO(x:SOp):cut (dp x) 0 446=dp x:=ef (BW x)
theorem HS(x:SOp):cut (dp x) 0 1=[.int .i64 x.kind]:=by unfold dp;all_goals rfl
theorem HU(x:SOp)(v:Int):spl (dp x) 0 [.int .i64 v]=dp { x with kind:=v }:=by unfold dp;all_goals rfl
theorem Mo(x:SOp)(o n:Nat)(h1:1<=o)(h2:o+n<=239):cut (dp x) o n=cut (aA x.blk) (o-1) n:=by unfold dp;rw[cS1,cL1 (bJ _)];all_goals rfl
theorem Mt(x:SOp)(o:Nat)(vs:List AV)(h1:1<=o)(h2:o+vs.length<=239):spl (dp x) o vs=.int .i64 x.kind::(spl (aA x.blk) (o-1) vs++(bZ x.att++(dq x.slg++(bE x.tab++(en x.vdt++(.int .i64 x.write::[.int .i64 x.keep])))))):=by unfold dp;rw[pS1,pL1 (bJ _)];all_goals rfl
theorem Mn(x:SOp)(o n:Nat)(h1:239<=o)(h2:o+n<=306):cut (dp x) o n=cut (bZ x.att) (o-239) n:=by unfold dp;rw[cS1,cR1 (bJ _),cL1 (dE _)];rw[show o-1-238=o-239 by omega]
theorem Ms(x:SOp)(o:Nat)(vs:List AV)(h1:239<=o)(h2:o+vs.length<=306):spl (dp x) o vs=.int .i64 x.kind::(aA x.blk++(spl (bZ x.att) (o-239) vs++(dq x.slg++(bE x.tab++(en x.vdt++(.int .i64 x.write::[.int .i64 x.keep])))))):=by unfold dp;rw[pS1,pR1 (bJ _),pL1 (dE _)];rw[show o-1-238=o-239 by omega]
theorem Mp(x:SOp)(o n:Nat)(h1:306<=o)(h2:o+n<=376):cut (dp x) o n=cut (dq x.slg) (o-306) n:=by unfold dp;rw[cS1,cR1 (bJ _)];rw[cR1 (dE _),cL1 (dZ _)];rw[show o-1-238-67=o-306 by omega]
theorem Mu(x:SOp)(o:Nat)(vs:List AV)(h1:306<=o)(h2:o+vs.length<=376):spl (dp x) o vs=.int .i64 x.kind::(aA x.blk++(bZ x.att++(spl (dq x.slg) (o-306) vs++(bE x.tab++(en x.vdt++(.int .i64 x.write::[.int .i64 x.keep])))))):=by unfold dp;rw[pS1,pR1 (bJ _)];rw[pR1 (dE _),pL1 (dZ _)];rw[show o-1-238-67=o-306 by omega]
theorem Mq(x:SOp)(o n:Nat)(h1:376<=o)(h2:o+n<=410):cut (dp x) o n=cut (bE x.tab) (o-376) n:=by unfold dp;rw[cS1,cR1 (bJ _)];rw[cR1 (dE _),cR1 (dZ _),cL1 (eQ _)];rw[show o-1-238-67-70=o-376 by omega]
theorem Mv(x:SOp)(o:Nat)(vs:List AV)(h1:376<=o)(h2:o+vs.length<=410):spl (dp x) o vs=.int .i64 x.kind::(aA x.blk++(bZ x.att++(dq x.slg++(spl (bE x.tab) (o-376) vs++(en x.vdt++(.int .i64 x.write::[.int .i64 x.keep])))))):=by unfold dp;rw[pS1,pR1 (bJ _)];rw[pR1 (dE _),pR1 (dZ _),pL1 (eQ _)];rw[show o-1-238-67-70=o-376 by omega]
theorem Mr(x:SOp)(o n:Nat)(h1:410<=o)(h2:o+n<=444):cut (dp x) o n=cut (en x.vdt) (o-410) n:=by unfold dp;rw[cS1,cR1 (bJ _)];rw[cR1 (dE _),cR1 (dZ _)];rw[cR1 (eQ _),cL1 (fR _)];rw[show o-1-238-67-70-34=o-410 by omega]
theorem Mw(x:SOp)(o:Nat)(vs:List AV)(h1:410<=o)(h2:o+vs.length<=444):spl (dp x) o vs=.int .i64 x.kind::(aA x.blk++(bZ x.att++(dq x.slg++(bE x.tab++(spl (en x.vdt) (o-410) vs++(.int .i64 x.write::[.int .i64 x.keep])))))):=by unfold dp;rw[pS1,pR1 (bJ _)];rw[pR1 (dE _),pR1 (dZ _)];rw[pR1 (eQ _),pL1 (fR _)];rw[show o-1-238-67-70-34=o-410 by omega]
theorem F1(x:SOp):cut (dp x) 444 1=[.int .i64 x.write]:=by unfold dp;rw[cS1,cR1 (bJ _)];rw[cR1 (dE _),cR1 (dZ _)];rw[cR1 (eQ _),cR1 (fR _)];simp only[Nat.reduceSub];all_goals rfl
theorem F2(x:SOp)(v:Int):spl (dp x) 444 [.int .i64 v]=dp { x with write:=v }:=by unfold dp;rw[pS1,pR1 (bJ _)];rw[pR1 (dE _),pR1 (dZ _)];rw[pR1 (eQ _),pR1 (fR _)];simp only[Nat.reduceSub];all_goals rfl
theorem HR(x:SOp):cut (dp x) 445 1=[.int .i64 x.keep]:=by unfold dp;rw[cS1,cR1 (bJ _)];rw[cR1 (dE _),cR1 (dZ _)];rw[cR1 (eQ _),cR1 (fR _),cS1];simp only[Nat.reduceSub];all_goals rfl
theorem HT(x:SOp)(v:Int):spl (dp x) 445 [.int .i64 v]=dp { x with keep:=v }:=by unfold dp;rw[pS1,pR1 (bJ _)];rw[pR1 (dE _),pR1 (dZ _)];rw[pR1 (eQ _),pR1 (fR _),pS1];simp only[Nat.reduceSub];all_goals rfl
def SOp.map(g:AV->AV)(x:SOp):SOp:={ x with att:=x.att.map g,slg:=x.slg.map g,tab:=x.tab.map g }
theorem SOp.map_mk(g:AV->AV)(kind:Int)(blk:Blk)(att:Att)(slg:Slg)(tab:Tab)(vdt:Vdt)(write:Int)(keep:Int):SOp.map g ⟨kind,blk,att,slg,tab,vdt,write,keep⟩=⟨kind,blk,att.map g,slg.map g,tab.map g,vdt,write,keep⟩:=rfl
def SOp.good(x:SOp):Bool:=x.att.good&&x.slg.good&&x.tab.good
theorem SOp.good_mk(kind:Int)(blk:Blk)(att:Att)(slg:Slg)(tab:Tab)(vdt:Vdt)(write:Int)(keep:Int):SOp.good ⟨kind,blk,att,slg,tab,vdt,write,keep⟩=(att.good&&slg.good&&tab.good):=rfl
def SOp.Pure(x:SOp):Prop:=x.att.Pure/\x.slg.Pure/\x.tab.Pure
theorem GB(x:SOp):bF (dp x)=x.good:=by simp[dp,SOp.good,Bool.and_assoc,bS,cA,cC,AV.cell,uZ,pe,ve,vg,vh]
theorem i6(x:SOp):PuL (dp x)↔x.Pure:=by simp[dp,SOp.Pure,eo,PuL,Pu,hZ,gz,ia,gB,rV]
theorem VH(ρ:Nat->Nat)(x:SOp):dP ρ (dp x)=dp (x.map (ren ρ)):=by simp only[dp,SOp.map,lZ,dP,ren,JI,JJ,JN,JP,JQ]
theorem XB(σ:St)(zs:List Nat)(x:SOp):fzL σ zs (dp x)=dp (x.map (fz σ zs)):=by simp only[dp,SOp.map,mR,fzL,fz,Oa,Ob,Og,Oi,Oj]
def acu:SOp:=⟨0,dO,GG,HV,zw,lk,0,0⟩
end Go.FH
namespace Go.FH
open Go Go.RowKit
theorem ac6(P:Program)(nv:Nat)(vs:List AV)(ts:List (Nat×AV))(σ:St)(K:AV->St->Prop):type_of% (evO P ⟨nv,vs,ts⟩ σ K):=evO P ⟨nv,vs,ts⟩ σ K
theorem ac7(P:Program)(nv:Nat)(vs:List AV)(ts:List (Nat×AV))(σ:St)(K:AV->St->Prop):type_of% (evM P ⟨nv,vs,ts⟩ σ K):=evM P ⟨nv,vs,ts⟩ σ K
theorem ac8(P:Program)(nv:Nat)(vs:List AV)(ts:List (Nat×AV))(σ:St)(K:AV->St->Prop):type_of% (evA P ⟨nv,vs,ts⟩ σ K):=evA P ⟨nv,vs,ts⟩ σ K
theorem ac9(P:Program)(nv:Nat)(vs:List AV)(ts:List (Nat×AV))(σ:St)(n:Nat)(K:AV->List Nat->List Nat->St->Prop):type_of% (acg P σ n nv vs ts K):=acg P σ n nv vs ts K
theorem ada(P:Program)(nv:Nat)(vs:List AV)(ts:List (Nat×AV))(σ:St)(K:AV->St->Prop):type_of% (ach P σ K nv vs ts):=ach P σ K nv vs ts
attribute [go_sem] ac9 ada ac4 ac5
attribute [go_sem] ac6 ac7 ac8 evF evQ evR evL evD opF evH evK Rr Rq abO abN abP PZ XS mj uC AOp.allocs Fj lU List.length_set List.length_append List.length_cons List.length_nil List.map_cons List.map_nil List.set_cons_zero List.set_cons_succ List.getElem?_cons_zero List.getElem?_cons_succ List.getElem?_nil List.nil_append List.cons_append List.append_nil if_true if_false true_and and_true true_or or_true Bool.false_eq_true not_false_eq_true not_true_eq_false Int.toNat_natCast Bool.not_true Bool.not_false cond_true cond_false Int.natCast_nonneg forall_const false_implies implies_true Nat.sub_zero Nat.zero_add Nat.add_zero List.drop_zero decide_true decide_false yP xx N6 um aa0 aaZ aaY acf ace Pt aa9 aa8 aa7 acx acy Yv Zb aq aY ec qx tN O4 lx Ns N8 Xr Uu BR Xf aG Xe Qv Qx Qw Qy iE zi Xq DH Vv bN Vu RR RT RQ RS vd VG UN Iy Ui bJ Uh KH KJ GQ GU GP GT Cl Cn zJ zK GN GR DN DO GO GS KG KI Cm Co pe JJ UJ Iw T5 dE TZ GI GL GH GK Cj Ck GJ GM Att.map_mk Att.good_mk uZ JI Uw io Uv KT KV KU KW GX GZ GY G0 Clm.map_mk Clm.good_mk u7 JK VX dZ VW Mz MB MA MC Slg.map_mk Slg.good_mk ve JN Wi eQ Wh PD PE Ij Ik Tab.map_mk Tab.good_mk vg JP Wz fR Wy M4 M5 Im In Dh Di vh JQ UP TX VO BW VN HS HU Mo Mt Mn Ms Mp Mu Mq Mv Mr Mw F1 F2 HR HT SOp.map_mk SOp.good_mk GB VH cp0 HP dO GG Zy HV zw lk acu cC bS cA AV.cell List.all_cons List.all_nil Bool.and_true Bool.true_and List.replicate_succ List.replicate_zero beq_self_eq_true ne_eq dP ren rdS mF List.flatten_cons List.flatten_nil rZ Zs WZ WY List.take_of_length_le Nat.le_refl nY pG List.isEmpty_nil List.isEmpty_cons List.filter_cons List.filter_nil decide_eq_true_eq bne_self_eq_false Bool.bne_false Bool.bne_true Option.isNone_some Option.isNone_none Bool.and_false Bool.false_and Bool.not_eq_true Bool.not_eq_false eq_self W2 Bool.true_eq_false forall_eq
attribute [go_sem] RZ O7 O6 xD Option.map_some
attribute [go_sem] yR SM Do Xz Ob Oa Od Og Oi Oj XB px iY jv aN ky rn iZ uq ei fz fzL fzO yQ fy gm List.getD_cons_zero List.getD_cons_succ List.getD_nil List.take_zero List.take_succ_cons List.take_nil List.drop_succ_cons List.drop_nil List.getElem?_cons_zero List.getElem?_cons_succ List.getElem?_nil Option.map_none and_self List.mem_cons List.not_mem_nil or_false false_or or_self List.range_zero List.range_succ List.mem_append List.mem_singleton List.contains_eq_mem List.mem_range Nat.sub_self gX
structure Hid(q:Prop):Prop where
 out:q
theorem evd{p:Prop}(h:p:=by((try simp only[go_sem,Nat.reduceAdd,Nat.reduceSub,Nat.reduceMul,Nat.reduceLT,Nat.reduceLeDiff,Nat.reduceEqDiff,reduceIte,Int.reduceToNat,Int.reduceLT,Int.reduceLE,Int.reduceEq,Int.reduceNeg,reduceCtorEq,Int.reduceBEq,Int.reduceBNe]);try rfl)):p:=h
theorem evg{p q:Prop}(hq:q)(h:Hid q->p:=by(intro hq;(try simp only[go_sem,Nat.reduceAdd,Nat.reduceSub,Nat.reduceMul,Nat.reduceLT,Nat.reduceLeDiff,Nat.reduceEqDiff,reduceIte,Int.reduceToNat,Int.reduceLT,Int.reduceLE,Int.reduceEq,Int.reduceNeg,reduceCtorEq,Int.reduceBEq,Int.reduceBNe]);exact hq.out)):p:=h ⟨hq⟩
theorem bU{p q:Prop}(hq:q) (h:Hid q->p:=by
 (intro hq
  (first|with_reducible (first|refine iO ?_|refine jS ?_|refine iN ?_|refine l9 (by simp only[List.length_cons,List.length_nil]) ?_|refine ma ?_|refine kE ?_|refine o6 ?_)|(simp only[go_sem,Nat.reduceAdd,Nat.reduceSub,Nat.reduceMul,Nat.reduceLT,Nat.reduceLeDiff,Nat.reduceEqDiff,reduceIte,Int.reduceToNat,Int.reduceLT,Int.reduceLE,Int.reduceEq,Int.reduceNeg,reduceCtorEq,Int.reduceBEq,Int.reduceBNe])|with_reducible refine And.intro (nW (by decide)) ?_|(with_reducible refine And.intro ?_ ?_;first|omega|decide|(simp;done)|(simp;omega)))
  repeat(first|with_reducible (first|refine iO ?_|refine jS ?_|refine iN ?_|refine l9 (by simp only[List.length_cons,List.length_nil]) ?_|refine ma ?_|refine kE ?_|refine o6 ?_)|(simp only[go_sem,Nat.reduceAdd,Nat.reduceSub,Nat.reduceMul,Nat.reduceLT,Nat.reduceLeDiff,Nat.reduceEqDiff,reduceIte,Int.reduceToNat,Int.reduceLT,Int.reduceLE,Int.reduceEq,Int.reduceNeg,reduceCtorEq,Int.reduceBEq,Int.reduceBNe])|with_reducible refine And.intro (nW (by decide)) ?_|(with_reducible refine And.intro ?_ ?_;first|omega|decide|(simp;done)|(simp;omega)))
  exact hq.out)):p:=h ⟨hq⟩
theorem Pv{p q:Prop}(hq:q) (h:Hid q->p:=by
 (intro hq
  repeat(first|(simp only[go_sem,Nat.reduceAdd,Nat.reduceSub,Nat.reduceMul,Nat.reduceLT,Nat.reduceLeDiff,Nat.reduceEqDiff,reduceIte,Int.reduceToNat,Int.reduceLT,Int.reduceLE,Int.reduceEq,Int.reduceNeg,reduceCtorEq,Int.reduceBEq,Int.reduceBNe])|with_reducible refine And.intro (nW (by decide)) ?_|(with_reducible refine And.intro ?_ ?_;first|omega|decide|(simp;done)|(simp;omega)))
  exact hq.out)):p:=h ⟨hq⟩
section
variable{P:Program}{nt k:Nat}{fr:Fr}{σ:St}{c:Opd}{x y:ab}{Q:Ex->Fr->St->Prop}
theorem aF(h:Tri P nt k x Q fr σ)(hb:c.ev fr=.bool true:=by((try simp only[go_sem,Nat.reduceAdd,Nat.reduceSub,Nat.reduceMul,Nat.reduceLT,Nat.reduceLeDiff,Nat.reduceEqDiff,reduceIte,Int.reduceToNat,Int.reduceLT,Int.reduceLE,Int.reduceEq,Int.reduceNeg,reduceCtorEq,Int.reduceBEq,Int.reduceBNe]);try rfl)):Tri P nt k (.cond c x y) Q fr σ:=du hb (fun _=>h) (fun h=>by cases h)
theorem aB(h:Tri P nt k y Q fr σ)(hb:c.ev fr=.bool false:=by((try simp only[go_sem,Nat.reduceAdd,Nat.reduceSub,Nat.reduceMul,Nat.reduceLT,Nat.reduceLeDiff,Nat.reduceEqDiff,reduceIte,Int.reduceToNat,Int.reduceLT,Int.reduceLE,Int.reduceEq,Int.reduceNeg,reduceCtorEq,Int.reduceBEq,Int.reduceBNe]);try rfl)):Tri P nt k (.cond c x y) Q fr σ:=du hb (fun h=>by cases h) (fun _=>h)
end
end Go.FH
namespace Go.FH
open Go Go.RowKit
theorem evP:
 (∀n σ K,lW n σ K .mkm []=K (.mp n) [n] true (σ.set n (.map [])))/\
 (∀n σ K kk z ok id k,lW n σ K (.lkp kk z ok) [.mp id,k]=(pp kk k=true/\match σ[id]? with
  | some (.map es) => (match qj kk k es with
    |some (some j)=>K (if ok then .tup [(es.getD j []).getD 1 .dead,.bool true]else (es.getD j []).getD 1 .dead) [id] false σ
    |some none=>K (if ok then .tup [z,.bool false]else z) [id] false σ
    |none=>False)
  |_=>False))/\
 (∀n σ K kk id k v,lW n σ K (.upd kk) [.mp id,k,v]=(pp kk k=true/\match σ[id]? with
  | some (.map es) => (match qj kk k es with
    |some (some j)=>K (.tup []) [id] true (σ.set id (.map (es.set j [k,v])))
    |some none=>K (.tup []) [id] true (σ.set id (.map (es++[[k,v]])))
    |none=>False)
  |_=>False))/\
 (∀n σ K id,lW n σ K .rng [.mp id]=(match σ[id]? with
  |some (.map es)=>K (.ptr n 0) [n,id] true (σ.set n (.iter id es.length []))
  |_=>False))/\
 (∀n σ K id,lW n σ K .ent [.ptr id 0]=(match σ[id]? with
  | some (.iter m N seen) => (match seen.getLast?, σ[m]? with
    |some i,some (.map es)=>es.length=N/\i<N/\K (.tup (es.getD i [])) [id,m] false σ
    |_,_=>False)
  |_=>False))/\
 (∀id σ K,qQ (.ptr id 0) σ K=(match σ[id]? with
  | some (.iter m N seen) => (match σ[m]? with
    |some (.map es)=>id≠m/\es.length=N/\(∀i,i<N->i∉seen->K (.tup (.bool true::es.getD i [])) (σ.set id (.iter m N (seen++[i]))))/\((∀i,i<N->i∈seen)->K (.tup [.bool false]) σ)
    |_=>False)
  |_=>False))/\
 (∀k n,pp none (.int k n)=true)/\(∀n cs,pp (some n) (.agg cs)=il [(n,1)] cs)/\
 (∀id,AV.cellsOf (.mp id)=[.mp id])/\(∀σ zs id,fz σ zs (.mp id)=.mp id)/\(∀ρ id,ren ρ (.mp id)=.mp (ρ id)):=
 ⟨fun _ _ _=>rfl,fun _ _ _ _ _ _ _ _=>rfl,fun _ _ _ _ _ _ _=>rfl,fun _ _ _ _=>rfl,fun _ _ _ _=>rfl,fun _ _ _=>rfl,fun _ _=>rfl,fun _ _=>rfl,fun _=>rfl,fun _ _ _=>rfl,fun _ _=>rfl⟩
attribute [go_sem] evP List.getLast?_concat List.getLast?_singleton
def mns(k:IntKind)(m:List (Int×Bool)):List (List AV):=m.map fun p=>[.int k p.1,.bool p.2]
theorem Rm(k:IntKind)(m:List (Int×Bool)):(mns k m).length=m.length:=by simp[mns]
theorem OH(k:IntKind)(x:Int):∀m:List (Int×Bool),qj none (.int k x) (mns k m)=some (m.findIdx? fun p=>p.1==x)
 | []=>rfl
 | (a, b) :: m => by
   have ih:=OH k x m;simp only[mns,List.map_cons,qj,pp,if_true,keq]at ih ⊢;rw[ih,List.findIdx?_cons];by_cases h:a=x
   ·subst h;simp
   ·have h':¬x=a:=fun e=>h e.symm
    simp only[beq_eq_false_iff_ne.2 h',beq_eq_false_iff_ne.2 h,Option.map_some,Bool.false_eq_true,if_false]
theorem ZS(k:IntKind)(m:List (Int×Bool))(j:Nat)(x:Int)(b:Bool):(mns k m).set j [.int k x,.bool b]=mns k (m.set j (x,b)):=by simp[mns,List.map_set]
theorem XV(k:IntKind)(m:List (Int×Bool))(x:Int)(b:Bool):mns k m++[[.int k x,.bool b]]=mns k (m++[(x,b)]):=by simp[mns]
theorem LZ(k:IntKind)(m:List (Int×Bool))(j:Nat)(h:j<m.length):(mns k m).getD j []=[.int k m[j].1,.bool m[j].2]:=by simp[mns,List.getD_eq_getElem?_getD,h]
theorem Nj(k:IntKind)(m:List (Int×Bool)):fG (mns k m):=by
 rw[pC];intro x hx;obtain⟨p,_,rfl⟩:=List.mem_map.1 hx;exact⟨trivial,trivial,trivial⟩
theorem VC(ρ:Nat->Nat)(k:IntKind)(m:List (Int×Bool)):dF ρ (mns k m)=mns k m:=(Nj k m).ren ρ
theorem Xv(σ:St)(zs:List Nat)(k:IntKind)(m:List (Int×Bool)):gX σ zs (mns k m)=mns k m:=(Nj k m).fz σ zs
attribute [go_sem] Rm VC Xv OH ZS XV
end Go.FH
namespace Go.FH
open Go Go.RowKit
section
variable{P:Program}{C:Cx}{nt k:Nat}{fr:Fr}{σ:St}{loc:Nat->Option Loc}{a:Act}{w:World}
theorem SR.own(h:SR C nt k fr σ loc a w)(e:Nat):SR C nt k fr (σ++[.vec e []]) (iq loc σ.length ⟨false,0,0,0⟩) a w:=by
 have hg:loc σ.length=none:=h.rel.beyond _ (Nat.le_refl _);have hp:=h.pad 1;obtain⟨k1,k2⟩:=hp.rel.add (n:=σ.length) (by simp) hg (.vec e []) ⟨false,0,0,0⟩ w (Ev.refl _ _) (σ++List.replicate 1 .gone) (fun _ _ h _=>h) rfl (fun id o' L' _ _ _ _=>⟨(fun h=>by cases h),rfl⟩) (fun h=>by cases h) (fun E _ _=>.inl ⟨rfl,rfl⟩);have hs:(σ++List.replicate 1 bO.gone).set σ.length (.vec e [])=σ++[.vec e []]:=uv σ _;rw[hs]at k1 k2;have hle:=lQ (X:=C.X) hp.rel (fv hg _) (Ev.refl _ _) k2;refine⟨k1,fun t=>Rl.mono hle _ _ (hp.frm t),h.size,h.dfr,h.ev,fun b hb=>(k2 b hb).elim (hp.old b) fun h1=>.inr (Nat.le_trans (h.ev.size) h1),fun id hid=>?_,by simp;have:=h.klen;omega⟩;rw[ej _ _ _ (by have:=h.klen;omega)];exact h.pre id hid
theorem Yg{E:Env}{e e0 id:Nat}{v:Value}(hl:E.loc id=some ⟨false,0,0,0⟩)(h:Rl E (.sl e0 true []) v):Rl E (.hs e id 0 0) v:=by
 obtain⟨ad,n,cap,h1,h2,h3,h4,h5,h6,h7⟩:=h;have hn:n=0:=by simpa using h2
 have hc:cap=n:=h5 rfl;subst hn;subst hc;exact⟨ad,0,_,h1,Nat.le_refl _,h4,fun _=>rfl,hl,.inl ⟨rfl,fun h=>(by cases h)⟩⟩
theorem eY{c:ab}{Q:Ex->Fr->St->Prop}(t e:Nat){e0:Nat}(hq:Tri P nt k c Q (fr.put t (.hs e σ.length 0 0)) (σ++[.vec e []]))(h0:fr.get t=.sl e0 true []:=by first|rfl|(simp only[go_sem];rfl)):Tri P nt k c Q fr σ:=by
 intro fx code hc C loc a w hs;have h1:=hs.own e;refine hq fx code hc C _ a w (h1.putSame t _ (Yg (e0:=e0) (dT _ _ _) ?_));have:=h1.frm t;rwa [h0]at this
theorem Sy{E:Env}{c:AV}:∀ {cs:List AV} {vs:List Value} (i:Nat),RlC E cs vs->c.cell=true->(∀v,Rl E (cs.getD i .dead) v->Rl E c v)->RlC E (cs.set i c) vs
 | [],_,_,h,_,_=>by simpa using h
 | x :: cs, _, 0, h, hc, hi => by
   obtain⟨u,us,rfl,h2,h3,h4⟩:=h;exact⟨u,us,rfl,hc,hi u (by simpa using h3),h4⟩
 | x :: cs, _, i + 1, h, hc, hi => by
   obtain⟨u,us,rfl,h2,h3,h4⟩:=h;exact⟨u,us,rfl,h2,h3,Sy i h4 hc (fun v hv=>hi v (by simpa using hv))⟩
theorem oe{c:ab}{Q:Ex->Fr->St->Prop}(id i e:Nat){e0:Nat}{cs:List AV}(hq:Tri P nt k c Q fr (σ.set id (.var (cs.set i (.hs e σ.length 0 0)))++[.vec e []]))(ho:σ[id]?=some (.var cs):=by first|rfl|(simp only[go_sem];rfl))(h0:cs.getD i .dead=.sl e0 true []:=by first|rfl|(simp only[go_sem];rfl)):Tri P nt k c Q fr σ:=by
 intro fx code hc C loc a w hs;have h1:=hs.own e;have hid:id<σ.length:=(List.getElem?_eq_some_iff.1 ho).1;have ho2:(σ++[bO.vec e []])[id]?=some (.var cs):=by rw[List.getElem?_append_left hid];exact ho
 have hset:(σ++[bO.vec e []]).set id (.var (cs.set i (.hs e σ.length 0 0)))=σ.set id (.var (cs.set i (.hs e σ.length 0 0)))++[.vec e []]:=List.set_append_left _ _ hid;refine hq fx code hc C (iq loc σ.length ⟨false,0,0,0⟩) a w ?_;rw[<-hset]
 have hl:∀b,aS ((σ++[bO.vec e []]).set id (.var (cs.set i (.hs e σ.length 0 0)))) (iq loc σ.length ⟨false,0,0,0⟩) b↔aS (σ++[bO.vec e []]) (iq loc σ.length ⟨false,0,0,0⟩) b:=by
  intro b;constructor
  ·rintro⟨j,oj,L,g1,g2,g3,g4⟩;rcases er _ id j _ g1 with⟨rfl,rfl,_⟩|⟨g5,g6⟩
   ·exact⟨_,_,L,ho2,rfl,g3,g4⟩
   ·exact⟨j,oj,L,g6,g2,g3,g4⟩
  ·rintro⟨j,oj,L,g1,g2,g3,g4⟩
   by_cases hj:j=id
   ·subst hj;refine⟨j,.var (cs.set i (.hs e σ.length 0 0)),L,?_,rfl,g3,g4⟩;rw[List.getElem?_set_self (List.getElem?_eq_some_iff.1 g1).1]
   ·exact⟨j,oj,L,by rw[List.getElem?_set_ne (Ne.symm hj)];exact g1,g2,g3,g4⟩
 have hF:gq C.X ((σ++[bO.vec e []]).set id (.var (cs.set i (.hs e σ.length 0 0)))) (iq loc σ.length ⟨false,0,0,0⟩)=gq C.X (σ++[bO.vec e []]) (iq loc σ.length ⟨false,0,0,0⟩):=by
  funext b;unfold gq;rw[hl b]
 have hget:∀ (j:Nat) (o:bO),((σ++[bO.vec e []]).set id (.var (cs.set i (.hs e σ.length 0 0))))[j]?=some o->o.live=true->∃o',(σ++[bO.vec e []])[j]?=some o'/\o'.live=true:=by
  intro j o g1 g2;rcases er _ id j _ g1 with⟨rfl,rfl,_⟩|⟨g5,g6⟩
  ·exact⟨_,ho2,rfl⟩
  ·exact⟨o,g6,g2⟩
 refine⟨⟨fun j o g1 g2=>?_,fun i' j x y La Lb hij g1 g2 g3 g4=>?_,fun b hb=>?_,fun j hj=>h1.rel.beyond j (by simpa using hj)⟩,fun t=>?_,h1.size,h1.dfr,h1.ev,fun b hb=>h1.old b ((hl b).1 hb),h1.pre,by simp;have:=hs.klen;omega⟩
 ·show ∃L,_/\gw ⟨_,gq C.X _ _,w⟩ L o
  rw[hF];rcases er _ id j _ g1 with⟨rfl,rfl,_⟩|⟨g5,g6⟩
  ·obtain⟨L,m1,m2,m3,vs,t,m4,m5⟩:=h1.rel.obj _ _ ho2 rfl;exact⟨L,m1,m2,m3,vs,t,m4,Sy i m5 rfl fun v hv=>Yg (e0:=e0) (dT _ _ _) (by rwa [h0]at hv)⟩
  ·exact h1.rel.obj j o g6 g2
 ·obtain⟨x',k1,k2⟩:=hget i' x g1 g3;obtain⟨y',k3,k4⟩:=hget j y g2 g4;exact h1.rel.apart i' j x' y' La Lb hij k1 k3 k2 k4
 ·rw[hl b];exact h1.rel.out b hb
 ·show Rl ⟨_,gq C.X _ _,w⟩ _ _
  rw[hF];exact h1.frm t
theorem PC.weak{f:FuncId}{args:List AV}{r r':AV}(h:PC P f args r)(hw:Wk r r')(hr:Pu r'):PC P f args r':=
 ⟨⟨h.call.1,h.call.2.1,fun X loc w vs hrel hv=>(h.call.2.2 X loc w vs hrel hv).mono fun e w' ⟨v,loc',h1,h2,h3⟩=>⟨v,loc',h1,⟨h2.locs,h2.rel,hw _ _ h2.val,h2.ev,h2.old⟩,h3⟩⟩,h.pa,hr⟩
def jU(us:List (Nat×AV))(vs:List AV):List AV:=us.foldl (fun l p=>l.set p.1 p.2) vs
theorem ay{ι:Type}{x:ab}{Q:Ex->Fr->St->Prop}{nv:Nat}{vs:List AV}{ts:List (Nat×AV)}(us:ι->List (Nat×AV))(S:ι->St)(μ:ι->Nat)(ok:ι->Prop)(x0:ι)(h0:ok x0)(hgc:GC k ⟨nv,vs,ts⟩ σ ⟨nv,jU (us x0) vs,[]⟩ (S x0))
 (round:∀i,ok i->Tri P nt k x (jt (fun fr σ=>∃j,ok j/\μ j<μ i/\GC k fr σ ⟨nv,jU (us j) vs,[]⟩ (S j)) Q) ⟨nv,jU (us i) vs,[]⟩ (S i)):Tri P nt k (.loop x) Q ⟨nv,vs,ts⟩ σ:=
 gN (fun i=>⟨nv,jU (us i) vs,[]⟩) S μ ok x0 h0 hgc round
theorem cV(vs:List AV):jU [] vs=vs:=rfl
theorem db(p:Nat×AV)(us:List (Nat×AV))(vs:List AV):jU (p::us) vs=jU us (vs.set p.1 p.2):=rfl
attribute [go_sem] cV db
theorem bw{c:Opd}{x y:ab}{Q:Ex->Fr->St->Prop}{t:Bool}(h1:t=true->Tri P nt k x Q fr σ)(h2:t=false->Tri P nt k y Q fr σ)(hb:c.ev fr=.bool t:=by first|rfl|(simp only[go_sem];rfl)):Tri P nt k (.cond c x y) Q fr σ:=du hb h1 h2
end
theorem G8{a b c:List AV}(ha:a.length=33)(hb:b.length=33):cut (a++(b++c)) 0 66=a++b:=by
 unfold cut;rw[List.drop_zero,<-List.append_assoc,show 66=(a++b).length by simp[ha,hb],List.take_left]
theorem HW{a b c x y:List AV}(ha:a.length+b.length=x.length+y.length):spl (a++(b++c)) 0 (x++y)=x++(y++c):=by
 unfold spl;simp only[List.take_zero,List.nil_append,Nat.zero_add,List.append_assoc];rw[<-List.append_assoc a b c,List.drop_left' (by simp;omega)]
structure Lim where
 node:Int
 orph:Int
 early:Int
 table:Int
 retry:Int
 backoff:Int
 deriving Inhabited,DecidableEq
def ez(x:Lim):List AV:=.int .i64 x.node::(.int .i64 x.orph::(.int .i64 x.early::(.int .i64 x.table::(.int .i64 x.retry::[.int .u64 x.backoff]))))
@[simp] theorem cY(x:Lim):(ez x).length=6:=by simp only[ez,List.length_cons,List.length_append,List.length_nil]
theorem U8(node:Int)(orph:Int)(early:Int)(table:Int)(retry:Int)(backoff:Int):.int .i64 node::(.int .i64 orph::(.int .i64 early::(.int .i64 table::(.int .i64 retry::[.int .u64 backoff]))))=ez ⟨node,orph,early,table,retry,backoff⟩:=rfl
theorem U9(x:Lim):cut (ez x) 0 6=ez x:=ef (cY x)
theorem HJ(x:Lim):cut (ez x) 0 1=[.int .i64 x.node]:=by unfold ez;all_goals rfl
theorem HL(x:Lim)(v:Int):spl (ez x) 0 [.int .i64 v]=ez { x with node:=v }:=by unfold ez;all_goals rfl
theorem HK(x:Lim):cut (ez x) 1 1=[.int .i64 x.orph]:=by unfold ez;rw[cS1];simp only[Nat.reduceSub];all_goals rfl
theorem HM(x:Lim)(v:Int):spl (ez x) 1 [.int .i64 v]=ez { x with orph:=v }:=by unfold ez;rw[pS1];simp only[Nat.reduceSub];all_goals rfl
theorem Fl(x:Lim):cut (ez x) 2 1=[.int .i64 x.early]:=by unfold ez;rw[cS1,cS1];simp only[Nat.reduceSub];all_goals rfl
theorem Fp(x:Lim)(v:Int):spl (ez x) 2 [.int .i64 v]=ez { x with early:=v }:=by unfold ez;rw[pS1,pS1];simp only[Nat.reduceSub];all_goals rfl
theorem Fo(x:Lim):cut (ez x) 3 1=[.int .i64 x.table]:=by unfold ez;rw[cS1,cS1,cS1];simp only[Nat.reduceSub];all_goals rfl
theorem Fs(x:Lim)(v:Int):spl (ez x) 3 [.int .i64 v]=ez { x with table:=v }:=by unfold ez;rw[pS1,pS1,pS1];simp only[Nat.reduceSub];all_goals rfl
theorem Fm(x:Lim):cut (ez x) 4 1=[.int .i64 x.retry]:=by unfold ez;rw[cS1,cS1];rw[cS1,cS1];simp only[Nat.reduceSub];all_goals rfl
theorem Fq(x:Lim)(v:Int):spl (ez x) 4 [.int .i64 v]=ez { x with retry:=v }:=by unfold ez;rw[pS1,pS1];rw[pS1,pS1];simp only[Nat.reduceSub];all_goals rfl
theorem Ap(x:Lim):cut (ez x) 5 1=[.int .u64 x.backoff]:=by unfold ez;rw[cS1,cS1];rw[cS1,cS1,cS1];simp only[Nat.reduceSub];all_goals rfl
theorem Aq(x:Lim)(v:Int):spl (ez x) 5 [.int .u64 v]=ez { x with backoff:=v }:=by unfold ez;rw[pS1,pS1];rw[pS1,pS1,pS1];simp only[Nat.reduceSub];all_goals rfl
theorem vc(x:Lim):bF (ez x)=true:=by simp[ez,bS,cA,cC,AV.cell]
theorem jW(x:Lim):PuL (ez x):=by simp[ez,eo,PuL,Pu]
theorem AM(ρ:Nat->Nat)(x:Lim):dP ρ (ez x)=ez x:=(jW x).ren ρ
theorem Of(σ:St)(zs:List Nat)(x:Lim):fzL σ zs (ez x)=ez x:=(jW x).fz σ zs
theorem Q3(x:Lim):(ez x).map d8=eh [(6,1)]:=by simp only[ez,List.map_cons,List.map_append,List.map_nil,d8];decide +kernel
theorem UL(x:Lim):il [(6,1)] (ez x)=true:=gF (Q3 x)
theorem TU(x y:Lim):gg (ez x) (ez y)=some (decide (x=y)):=by cases x;cases y;simp[ez,i7,gg,wu,aq,aY,Bool.beq_eq_decide_eq,mS,Bool.and_assoc,Bool.decide_and]
def ZP:Lim:=⟨0,0,0,0,0,0⟩
structure Cfg where
 lim:Lim
 spe:Int
 boost:Int
 ttd:Wd
 gen:Rt
 bals:AV
 deriving Inhabited
def cD(x:Cfg):List AV:=ez x.lim++(.int .u64 x.spe::(.int .u64 x.boost::(wdc x.ttd++(rtc x.gen++[x.bals]))))
@[simp] theorem aZ(x:Cfg):(cD x).length=45:=by simp only[cD,List.length_cons,List.length_append,List.length_nil,cY,aq,aY]
theorem Uo(lim:Lim)(spe:Int)(boost:Int)(ttd:Wd)(gen:Rt)(bals:AV):ez lim++(.int .u64 spe::(.int .u64 boost::(wdc ttd++(rtc gen++[bals]))))=cD ⟨lim,spe,boost,ttd,gen,bals⟩:=rfl
theorem Up(x:Cfg):cut (cD x) 0 45=cD x:=ef (aZ x)
theorem KM(x:Cfg)(o n:Nat)(h1:0<=o)(h2:o+n<=6):cut (cD x) o n=cut (ez x.lim) (o-0) n:=by unfold cD;rw[cL1 (cY _)];all_goals rfl
theorem KQ(x:Cfg)(o:Nat)(vs:List AV)(h1:0<=o)(h2:o+vs.length<=6):spl (cD x) o vs=spl (ez x.lim) (o-0) vs++(.int .u64 x.spe::(.int .u64 x.boost::(wdc x.ttd++(rtc x.gen++[x.bals])))):=by unfold cD;rw[pL1 (cY _)];all_goals rfl
theorem KN(x:Cfg):cut (cD x) 6 1=[.int .u64 x.spe]:=by unfold cD;rw[cR1 (cY _)];simp only[Nat.reduceSub];all_goals rfl
theorem KR(x:Cfg)(v:Int):spl (cD x) 6 [.int .u64 v]=cD { x with spe:=v }:=by unfold cD;rw[pR1 (cY _)];simp only[Nat.reduceSub];all_goals rfl
theorem DY(x:Cfg):cut (cD x) 7 1=[.int .u64 x.boost]:=by unfold cD;rw[cR1 (cY _),cS1];simp only[Nat.reduceSub];all_goals rfl
theorem DZ(x:Cfg)(v:Int):spl (cD x) 7 [.int .u64 v]=cD { x with boost:=v }:=by unfold cD;rw[pR1 (cY _),pS1];simp only[Nat.reduceSub];all_goals rfl
theorem KO(x:Cfg)(o n:Nat)(h1:8<=o)(h2:o+n<=12):cut (cD x) o n=cut (wdc x.ttd) (o-8) n:=by unfold cD;rw[cR1 (cY _),cS1];rw[cS1,cL1 (aY _)];rw[show o-6-1-1=o-8 by omega]
theorem KS(x:Cfg)(o:Nat)(vs:List AV)(h1:8<=o)(h2:o+vs.length<=12):spl (cD x) o vs=ez x.lim++(.int .u64 x.spe::(.int .u64 x.boost::(spl (wdc x.ttd) (o-8) vs++(rtc x.gen++[x.bals])))):=by unfold cD;rw[pR1 (cY _),pS1];rw[pS1,pL1 (aY _)];rw[show o-6-1-1=o-8 by omega]
theorem KL(x:Cfg)(o n:Nat)(h1:12<=o)(h2:o+n<=44):cut (cD x) o n=cut (rtc x.gen) (o-12) n:=by unfold cD;rw[cR1 (cY _),cS1];rw[cS1,cR1 (aY _),cL1 (aq _)];rw[show o-6-1-1-4=o-12 by omega]
theorem KP(x:Cfg)(o:Nat)(vs:List AV)(h1:12<=o)(h2:o+vs.length<=44):spl (cD x) o vs=ez x.lim++(.int .u64 x.spe::(.int .u64 x.boost::(wdc x.ttd++(spl (rtc x.gen) (o-12) vs++[x.bals])))):=by unfold cD;rw[pR1 (cY _),pS1];rw[pS1,pR1 (aY _),pL1 (aq _)];rw[show o-6-1-1-4=o-12 by omega]
theorem GV(x:Cfg):cut (cD x) 44 1=[x.bals]:=by unfold cD;rw[cR1 (cY _),cS1];rw[cS1,cR1 (aY _),cR1 (aq _)];simp only[Nat.reduceSub];all_goals rfl
theorem GW(x:Cfg)(v:AV):spl (cD x) 44 [v]=cD { x with bals:=v }:=by unfold cD;rw[pR1 (cY _),pS1];rw[pS1,pR1 (aY _),pR1 (aq _)];simp only[Nat.reduceSub];all_goals rfl
def Cfg.map(g:AV->AV)(x:Cfg):Cfg:={ x with bals:=g x.bals }
theorem Cfg.map_mk(g:AV->AV)(lim:Lim)(spe:Int)(boost:Int)(ttd:Wd)(gen:Rt)(bals:AV):Cfg.map g ⟨lim,spe,boost,ttd,gen,bals⟩=⟨lim,spe,boost,ttd,gen,g bals⟩:=rfl
def Cfg.good(x:Cfg):Bool:=x.bals.cell
theorem Cfg.good_mk(lim:Lim)(spe:Int)(boost:Int)(ttd:Wd)(gen:Rt)(bals:AV):Cfg.good ⟨lim,spe,boost,ttd,gen,bals⟩=(bals.cell):=rfl
def Cfg.Pure(x:Cfg):Prop:=Pu x.bals
theorem u3(x:Cfg):bF (cD x)=x.good:=by simp[cD,Cfg.good,Bool.and_assoc,bS,cA,cC,AV.cell,vc,ec,qx]
theorem Nl(x:Cfg):PuL (cD x)↔x.Pure:=by simp[cD,Cfg.Pure,eo,PuL,Pu,jW,dS,jY]
theorem AK(ρ:Nat->Nat)(x:Cfg):dP ρ (cD x)=cD (x.map (ren ρ)):=by simp only[cD,Cfg.map,lZ,dP,ren,AM,tN,O4]
theorem Oc(σ:St)(zs:List Nat)(x:Cfg):fzL σ zs (cD x)=cD (x.map (fz σ zs)):=by simp only[cD,Cfg.map,mR,fzL,fz,Of,yR,SM]
def qD:Cfg:=⟨ZP,0,0,wd0,rt0,.sl 0 true []⟩
structure Vot where
 has:Bool
 ep:Int
 root:Rt
 deriving Inhabited,DecidableEq
def bM(x:Vot):List AV:=.bool x.has::(.int .u64 x.ep::(rtc x.root))
@[simp] theorem tE(x:Vot):(bM x).length=34:=by simp only[bM,List.length_cons,List.length_append,List.length_nil,aq]
theorem WB(has:Bool)(ep:Int)(root:Rt):.bool has::(.int .u64 ep::(rtc root))=bM ⟨has,ep,root⟩:=rfl
theorem WC(x:Vot):cut (bM x) 0 34=bM x:=ef (tE x)
theorem M6(x:Vot):cut (bM x) 0 1=[.bool x.has]:=by unfold bM;all_goals rfl
theorem M7(x:Vot)(v:Bool):spl (bM x) 0 [.bool v]=bM { x with has:=v }:=by unfold bM;all_goals rfl
theorem PN(x:Vot):cut (bM x) 1 1=[.int .u64 x.ep]:=by unfold bM;rw[cS1];simp only[Nat.reduceSub];all_goals rfl
theorem PO(x:Vot)(v:Int):spl (bM x) 1 [.int .u64 v]=bM { x with ep:=v }:=by unfold bM;rw[pS1];simp only[Nat.reduceSub];all_goals rfl
theorem Ip(x:Vot)(o n:Nat)(h1:2<=o)(h2:o+n<=34):cut (bM x) o n=cut (rtc x.root) (o-2) n:=by unfold bM;rw[cS1,cS1];rw[show o-1-1=o-2 by omega]
theorem Iq(x:Vot)(o:Nat)(vs:List AV)(h1:2<=o)(h2:o+vs.length<=34):spl (bM x) o vs=.bool x.has::(.int .u64 x.ep::(spl (rtc x.root) (o-2) vs)):=by unfold bM;rw[pS1,pS1];rw[show o-1-1=o-2 by omega]
theorem GE(x:Vot):bF (bM x)=true:=by simp[bM,bS,cA,cC,AV.cell,ec]
theorem ng(x:Vot):PuL (bM x):=by simp[bM,eo,PuL,Pu,dS]
theorem JR(ρ:Nat->Nat)(x:Vot):dP ρ (bM x)=bM x:=(ng x).ren ρ
theorem XD(σ:St)(zs:List Nat)(x:Vot):fzL σ zs (bM x)=bM x:=(ng x).fz σ zs
theorem Q7(x:Vot):(bM x).map d8=eh [(1,0),(33,1)]:=by simp only[bM,List.map_cons,List.map_append,List.map_nil,d8,kY];decide +kernel
theorem UQ(x:Vot):il [(1,0),(33,1)] (bM x)=true:=gF (Q7 x)
theorem TY(x y:Vot):gg (bM x) (bM y)=some (decide (x=y)):=by cases x;cases y;simp[bM,i7,gg,wu,aq,aY,lx,Bool.beq_eq_decide_eq,mS,Bool.and_assoc,Bool.decide_and]
def fg:Vot:=⟨false,0,rt0⟩
structure Nod where
 blk:Blk
 up:Int
 status:Int
 deriving Inhabited,DecidableEq
def aP(x:Nod):List AV:=aA x.blk++(.int .i64 x.up::[.int .i64 x.status])
@[simp] theorem tz(x:Nod):(aP x).length=240:=by simp only[aP,List.length_cons,List.length_append,List.length_nil,bJ]
theorem Vf(blk:Blk)(up:Int)(status:Int):aA blk++(.int .i64 up::[.int .i64 status])=aP ⟨blk,up,status⟩:=rfl
theorem Vg(x:Nod):cut (aP x) 0 240=aP x:=ef (tz x)
theorem L0(x:Nod)(o n:Nat)(h1:0<=o)(h2:o+n<=238):cut (aP x) o n=cut (aA x.blk) (o-0) n:=by unfold aP;rw[cL1 (bJ _)];all_goals rfl
theorem L1(x:Nod)(o:Nat)(vs:List AV)(h1:0<=o)(h2:o+vs.length<=238):spl (aP x) o vs=spl (aA x.blk) (o-0) vs++(.int .i64 x.up::[.int .i64 x.status]):=by unfold aP;rw[pL1 (bJ _)];all_goals rfl
theorem OJ(x:Nod):cut (aP x) 238 1=[.int .i64 x.up]:=by unfold aP;rw[cR1 (bJ _)];simp only[Nat.reduceSub];all_goals rfl
theorem OK(x:Nod)(v:Int):spl (aP x) 238 [.int .i64 v]=aP { x with up:=v }:=by unfold aP;rw[pR1 (bJ _)];simp only[Nat.reduceSub];all_goals rfl
theorem CW(x:Nod):cut (aP x) 239 1=[.int .i64 x.status]:=by unfold aP;rw[cR1 (bJ _),cS1];simp only[Nat.reduceSub];all_goals rfl
theorem CX(x:Nod)(v:Int):spl (aP x) 239 [.int .i64 v]=aP { x with status:=v }:=by unfold aP;rw[pR1 (bJ _),pS1];simp only[Nat.reduceSub];all_goals rfl
theorem Gz(x:Nod):bF (aP x)=true:=by simp[aP,bS,cA,cC,AV.cell,pe]
theorem nf(x:Nod):PuL (aP x):=by simp[aP,eo,PuL,Pu,gz]
theorem JL(ρ:Nat->Nat)(x:Nod):dP ρ (aP x)=aP x:=(nf x).ren ρ
theorem Xy(σ:St)(zs:List Nat)(x:Nod):fzL σ zs (aP x)=aP x:=(nf x).fz σ zs
theorem Q4(x:Nod):(aP x).map d8=eh [(237,1),(1,0),(2,1)]:=by simp only[aP,List.map_cons,List.map_append,List.map_nil,d8,Fg];decide +kernel
theorem UM(x:Nod):il [(237,1),(1,0),(2,1)] (aP x)=true:=gF (Q4 x)
theorem TV(x y:Nod):gg (aP x) (aP y)=some (decide (x=y)):=by cases x;cases y;simp[aP,i7,gg,wu,aq,aY,Iw,Bool.beq_eq_decide_eq,mS,Bool.and_assoc,Bool.decide_and]
def jm:Nod:=⟨dO,0,0⟩
structure Sto where
 cfg:Cfg
 latest:AV
 eqv:AV
 j:Cp
 f:Cp
 early:AV
 orph:AV
 nodes:AV
 now:Int
 boost:Rt
 tabs:AV
 deriving Inhabited
def aw(x:Sto):List AV:=cD x.cfg++(x.latest::(x.eqv::(cpC x.j++(cpC x.f++(x.early::(x.orph::(x.nodes::(.int .u64 x.now::(rtc x.boost++[x.tabs])))))))))
@[simp] theorem bV(x:Sto):(aw x).length=150:=by simp only[aw,List.length_cons,List.length_append,List.length_nil,aZ,aG,aq]
theorem We(cfg:Cfg)(latest:AV)(eqv:AV)(j:Cp)(f:Cp)(early:AV)(orph:AV)(nodes:AV)(now:Int)(boost:Rt)(tabs:AV):cD cfg++(latest::(eqv::(cpC j++(cpC f++(early::(orph::(nodes::(.int .u64 now::(rtc boost++[tabs])))))))))=aw ⟨cfg,latest,eqv,j,f,early,orph,nodes,now,boost,tabs⟩:=rfl
theorem Wf(x:Sto):cut (aw x) 0 150=aw x:=ef (bV x)
theorem MM(x:Sto)(o n:Nat)(h1:0<=o)(h2:o+n<=45):cut (aw x) o n=cut (cD x.cfg) (o-0) n:=by unfold aw;rw[cL1 (aZ _)];all_goals rfl
theorem MQ(x:Sto)(o:Nat)(vs:List AV)(h1:0<=o)(h2:o+vs.length<=45):spl (aw x) o vs=spl (cD x.cfg) (o-0) vs++(x.latest::(x.eqv::(cpC x.j++(cpC x.f++(x.early::(x.orph::(x.nodes::(.int .u64 x.now::(rtc x.boost++[x.tabs]))))))))):=by unfold aw;rw[pL1 (aZ _)];all_goals rfl
theorem De(x:Sto):cut (aw x) 45 1=[x.latest]:=by unfold aw;rw[cR1 (aZ _)];simp only[Nat.reduceSub];all_goals rfl
theorem Df(x:Sto)(v:AV):spl (aw x) 45 [v]=aw { x with latest:=v }:=by unfold aw;rw[pR1 (aZ _)];simp only[Nat.reduceSub];all_goals rfl
theorem MN(x:Sto):cut (aw x) 46 1=[x.eqv]:=by unfold aw;rw[cR1 (aZ _),cS1];simp only[Nat.reduceSub];all_goals rfl
theorem MR(x:Sto)(v:AV):spl (aw x) 46 [v]=aw { x with eqv:=v }:=by unfold aw;rw[pR1 (aZ _),pS1];simp only[Nat.reduceSub];all_goals rfl
theorem Sj(x:Sto)(o n:Nat)(h1:47<=o)(h2:o+n<=80):cut (aw x) o n=cut (cpC x.j) (o-47) n:=by unfold aw;rw[cR1 (aZ _),cS1];rw[cS1,cL1 (aG _)];rw[show o-45-1-1=o-47 by omega]
theorem Sn(x:Sto)(o:Nat)(vs:List AV)(h1:47<=o)(h2:o+vs.length<=80):spl (aw x) o vs=cD x.cfg++(x.latest::(x.eqv::(spl (cpC x.j) (o-47) vs++(cpC x.f++(x.early::(x.orph::(x.nodes::(.int .u64 x.now::(rtc x.boost++[x.tabs]))))))))):=by unfold aw;rw[pR1 (aZ _),pS1];rw[pS1,pL1 (aG _)];rw[show o-45-1-1=o-47 by omega]
theorem Si(x:Sto)(o n:Nat)(h1:80<=o)(h2:o+n<=113):cut (aw x) o n=cut (cpC x.f) (o-80) n:=by unfold aw;rw[cR1 (aZ _),cS1];rw[cS1,cR1 (aG _),cL1 (aG _)];rw[show o-45-1-1-33=o-80 by omega]
theorem Sk(x:Sto)(o:Nat)(vs:List AV)(h1:80<=o)(h2:o+vs.length<=113):spl (aw x) o vs=cD x.cfg++(x.latest::(x.eqv::(cpC x.j++(spl (cpC x.f) (o-80) vs++(x.early::(x.orph::(x.nodes::(.int .u64 x.now::(rtc x.boost++[x.tabs]))))))))):=by unfold aw;rw[pR1 (aZ _),pS1];rw[pS1,pR1 (aG _),pL1 (aG _)];rw[show o-45-1-1-33=o-80 by omega]
theorem Gf(x:Sto):cut (aw x) 113 1=[x.early]:=by unfold aw;rw[cR1 (aZ _),cS1];rw[cS1,cR1 (aG _),cR1 (aG _)];simp only[Nat.reduceSub];all_goals rfl
theorem Gi(x:Sto)(v:AV):spl (aw x) 113 [v]=aw { x with early:=v }:=by unfold aw;rw[pR1 (aZ _),pS1];rw[pS1,pR1 (aG _),pR1 (aG _)];simp only[Nat.reduceSub];all_goals rfl
theorem If(x:Sto):cut (aw x) 114 1=[x.orph]:=by unfold aw;rw[cR1 (aZ _),cS1];rw[cS1,cR1 (aG _)];rw[cR1 (aG _),cS1];simp only[Nat.reduceSub];all_goals rfl
theorem Ih(x:Sto)(v:AV):spl (aw x) 114 [v]=aw { x with orph:=v }:=by unfold aw;rw[pR1 (aZ _),pS1];rw[pS1,pR1 (aG _)];rw[pR1 (aG _),pS1];simp only[Nat.reduceSub];all_goals rfl
theorem Gg(x:Sto):cut (aw x) 115 1=[x.nodes]:=by unfold aw;rw[cR1 (aZ _),cS1];rw[cS1,cR1 (aG _)];rw[cR1 (aG _),cS1,cS1];simp only[Nat.reduceSub];all_goals rfl
theorem Gj(x:Sto)(v:AV):spl (aw x) 115 [v]=aw { x with nodes:=v }:=by unfold aw;rw[pR1 (aZ _),pS1];rw[pS1,pR1 (aG _)];rw[pR1 (aG _),pS1,pS1];simp only[Nat.reduceSub];all_goals rfl
theorem MP(x:Sto):cut (aw x) 116 1=[.int .u64 x.now]:=by unfold aw;rw[cR1 (aZ _),cS1];rw[cS1,cR1 (aG _)];rw[cR1 (aG _),cS1];rw[cS1,cS1];simp only[Nat.reduceSub];all_goals rfl
theorem MS(x:Sto)(v:Int):spl (aw x) 116 [.int .u64 v]=aw { x with now:=v }:=by unfold aw;rw[pR1 (aZ _),pS1];rw[pS1,pR1 (aG _)];rw[pR1 (aG _),pS1];rw[pS1,pS1];simp only[Nat.reduceSub];all_goals rfl
theorem Gb(x:Sto)(o n:Nat)(h1:117<=o)(h2:o+n<=149):cut (aw x) o n=cut (rtc x.boost) (o-117) n:=by unfold aw;rw[cR1 (aZ _),cS1];rw[cS1,cR1 (aG _)];rw[cR1 (aG _),cS1];rw[cS1,cS1];rw[cS1,cL1 (aq _)];rw[show o-45-1-1-33-33-1-1-1-1=o-117 by omega]
theorem Gh(x:Sto)(o:Nat)(vs:List AV)(h1:117<=o)(h2:o+vs.length<=149):spl (aw x) o vs=cD x.cfg++(x.latest::(x.eqv::(cpC x.j++(cpC x.f++(x.early::(x.orph::(x.nodes::(.int .u64 x.now::(spl (rtc x.boost) (o-117) vs++[x.tabs]))))))))):=by unfold aw;rw[pR1 (aZ _),pS1];rw[pS1,pR1 (aG _)];rw[pR1 (aG _),pS1];rw[pS1,pS1];rw[pS1,pL1 (aq _)];rw[show o-45-1-1-33-33-1-1-1-1=o-117 by omega]
theorem Ig(x:Sto):cut (aw x) 149 1=[x.tabs]:=by unfold aw;rw[cR1 (aZ _),cS1];rw[cS1,cR1 (aG _)];rw[cR1 (aG _),cS1];rw[cS1,cS1];rw[cS1,cR1 (aq _)];simp only[Nat.reduceSub];all_goals rfl
theorem Ii(x:Sto)(v:AV):spl (aw x) 149 [v]=aw { x with tabs:=v }:=by unfold aw;rw[pR1 (aZ _),pS1];rw[pS1,pR1 (aG _)];rw[pR1 (aG _),pS1];rw[pS1,pS1];rw[pS1,pR1 (aq _)];simp only[Nat.reduceSub];all_goals rfl
theorem uR(x:Sto):cut (aw x) 45 2=x.latest::[x.eqv]:=by unfold aw;rw[cR1 (aZ _)];(try simp only[Nat.reduceSub]);rfl
theorem uU(x:Sto)(y1:AV)(y2:AV):spl (aw x) 45 (y1::[y2])=aw { x with latest:=y1,eqv:=y2 }:=by unfold aw;rw[pR1 (aZ _)];(try simp only[Nat.reduceSub]);rfl
theorem MO(x:Sto):cut (aw x) 47 66=cpC x.j++(cpC x.f):=by unfold aw;rw[cR1 (aZ _),cS1,cS1];(try simp only[Nat.reduceSub]);exact G8 (by simp) (by simp)
theorem zu(x:Sto)(y3:Cp)(y4:Cp):spl (aw x) 47 (cpC y3++(cpC y4))=aw { x with j:=y3,f:=y4 }:=by unfold aw;rw[pR1 (aZ _),pS1,pS1];(try simp only[Nat.reduceSub]);rw[HW];all_goals first|rfl|simp
theorem uQ(x:Sto):cut (aw x) 113 2=x.early::[x.orph]:=by unfold aw;rw[cR1 (aZ _),cS1];rw[cS1,cR1 (aG _),cR1 (aG _)];(try simp only[Nat.reduceSub]);rfl
theorem uT(x:Sto)(y5:AV)(y6:AV):spl (aw x) 113 (y5::[y6])=aw { x with early:=y5,orph:=y6 }:=by unfold aw;rw[pR1 (aZ _),pS1];rw[pS1,pR1 (aG _),pR1 (aG _)];(try simp only[Nat.reduceSub]);rfl
def Sto.map(g:AV->AV)(x:Sto):Sto:={ x with cfg:=x.cfg.map g,latest:=g x.latest,eqv:=g x.eqv,early:=g x.early,orph:=g x.orph,nodes:=g x.nodes,tabs:=g x.tabs }
theorem Sto.map_mk(g:AV->AV)(cfg:Cfg)(latest:AV)(eqv:AV)(j:Cp)(f:Cp)(early:AV)(orph:AV)(nodes:AV)(now:Int)(boost:Rt)(tabs:AV):Sto.map g ⟨cfg,latest,eqv,j,f,early,orph,nodes,now,boost,tabs⟩=⟨cfg.map g,g latest,g eqv,j,f,g early,g orph,g nodes,now,boost,g tabs⟩:=rfl
def Sto.good(x:Sto):Bool:=x.cfg.good&&x.latest.cell&&x.eqv.cell&&x.early.cell&&x.orph.cell&&x.nodes.cell&&x.tabs.cell
theorem Sto.good_mk(cfg:Cfg)(latest:AV)(eqv:AV)(j:Cp)(f:Cp)(early:AV)(orph:AV)(nodes:AV)(now:Int)(boost:Rt)(tabs:AV):Sto.good ⟨cfg,latest,eqv,j,f,early,orph,nodes,now,boost,tabs⟩=(cfg.good&&latest.cell&&eqv.cell&&early.cell&&orph.cell&&nodes.cell&&tabs.cell):=rfl
def Sto.Pure(x:Sto):Prop:=x.cfg.Pure/\Pu x.latest/\Pu x.eqv/\Pu x.early/\Pu x.orph/\Pu x.nodes/\Pu x.tabs
theorem vf(x:Sto):bF (aw x)=x.good:=by simp[aw,Sto.good,Bool.and_assoc,bS,cA,cC,AV.cell,u3,iE,ec]
theorem rU(x:Sto):PuL (aw x)↔x.Pure:=by simp[aw,Sto.Pure,eo,PuL,Pu,Nl,fF,dS]
theorem AN(ρ:Nat->Nat)(x:Sto):dP ρ (aw x)=aw (x.map (ren ρ)):=by simp only[aw,Sto.map,lZ,dP,ren,AK,zi,tN]
theorem Oh(σ:St)(zs:List Nat)(x:Sto):fzL σ zs (aw x)=aw (x.map (fz σ zs)):=by simp only[aw,Sto.map,mR,fzL,fz,Oc,Do,yR]
def gY:Sto:=⟨qD,.sl 0 true [],.sl 0 true [],cp0,cp0,.sl 0 true [],.sl 0 true [],.sl 0 true [],0,rt0,.sl 0 true []⟩
structure Req where
 tag:Int
 block:Rt
 tries:Int
 due:Int
 deriving Inhabited,DecidableEq
def bp(x:Req):List AV:=.int .u64 x.tag::(rtc x.block++(.int .i64 x.tries::[.int .u64 x.due]))
@[simp] theorem tC(x:Req):(bp x).length=35:=by simp only[bp,List.length_cons,List.length_append,List.length_nil,aq]
theorem VI(tag:Int)(block:Rt)(tries:Int)(due:Int):.int .u64 tag::(rtc block++(.int .i64 tries::[.int .u64 due]))=bp ⟨tag,block,tries,due⟩:=rfl
theorem VJ(x:Req):cut (bp x) 0 35=bp x:=ef (tC x)
theorem Mk(x:Req):cut (bp x) 0 1=[.int .u64 x.tag]:=by unfold bp;all_goals rfl
theorem Mm(x:Req)(v:Int):spl (bp x) 0 [.int .u64 v]=bp { x with tag:=v }:=by unfold bp;all_goals rfl
theorem FS(x:Req)(o n:Nat)(h1:1<=o)(h2:o+n<=33):cut (bp x) o n=cut (rtc x.block) (o-1) n:=by unfold bp;rw[cS1,cL1 (aq _)];all_goals rfl
theorem FV(x:Req)(o:Nat)(vs:List AV)(h1:1<=o)(h2:o+vs.length<=33):spl (bp x) o vs=.int .u64 x.tag::(spl (rtc x.block) (o-1) vs++(.int .i64 x.tries::[.int .u64 x.due])):=by unfold bp;rw[pS1,pL1 (aq _)];all_goals rfl
theorem FU(x:Req):cut (bp x) 33 1=[.int .i64 x.tries]:=by unfold bp;rw[cS1,cR1 (aq _)];simp only[Nat.reduceSub];all_goals rfl
theorem FW(x:Req)(v:Int):spl (bp x) 33 [.int .i64 v]=bp { x with tries:=v }:=by unfold bp;rw[pS1,pR1 (aq _)];simp only[Nat.reduceSub];all_goals rfl
theorem Mj(x:Req):cut (bp x) 34 1=[.int .u64 x.due]:=by unfold bp;rw[cS1,cR1 (aq _),cS1];simp only[Nat.reduceSub];all_goals rfl
theorem Ml(x:Req)(v:Int):spl (bp x) 34 [.int .u64 v]=bp { x with due:=v }:=by unfold bp;rw[pS1,pR1 (aq _),pS1];simp only[Nat.reduceSub];all_goals rfl
theorem GA(x:Req):bF (bp x)=true:=by simp[bp,bS,cA,cC,AV.cell,ec]
theorem gA(x:Req):PuL (bp x):=by simp[bp,eo,PuL,Pu,dS]
theorem JM(ρ:Nat->Nat)(x:Req):dP ρ (bp x)=bp x:=(gA x).ren ρ
theorem XA(σ:St)(zs:List Nat)(x:Req):fzL σ zs (bp x)=bp x:=(gA x).fz σ zs
theorem Q5(x:Req):(bp x).map d8=eh [(35,1)]:=by simp only[bp,List.map_cons,List.map_append,List.map_nil,d8,kY];decide +kernel
theorem UO(x:Req):il [(35,1)] (bp x)=true:=gF (Q5 x)
theorem TW(x y:Req):gg (bp x) (bp y)=some (decide (x=y)):=by cases x;cases y;simp[bp,i7,gg,wu,aq,aY,lx,Bool.beq_eq_decide_eq,mS,Bool.and_assoc,Bool.decide_and]
def xC:Req:=⟨0,rt0,0,0⟩
structure Cmd where
 head:Rt
 safe:Rt
 fin:Rt
 deriving Inhabited,DecidableEq
def eS(x:Cmd):List AV:=rtc x.head++(rtc x.safe++(rtc x.fin))
@[simp] theorem fq(x:Cmd):(eS x).length=96:=by simp only[eS,List.length_cons,List.length_append,List.length_nil,aq]
theorem Uz(head:Rt)(safe:Rt)(fin:Rt):rtc head++(rtc safe++(rtc fin))=eS ⟨head,safe,fin⟩:=rfl
theorem UA(x:Cmd):cut (eS x) 0 96=eS x:=ef (fq x)
theorem G1(x:Cmd)(o n:Nat)(h1:0<=o)(h2:o+n<=32):cut (eS x) o n=cut (rtc x.head) (o-0) n:=by unfold eS;rw[cL1 (aq _)];all_goals rfl
theorem G3(x:Cmd)(o:Nat)(vs:List AV)(h1:0<=o)(h2:o+vs.length<=32):spl (eS x) o vs=spl (rtc x.head) (o-0) vs++(rtc x.safe++(rtc x.fin)):=by unfold eS;rw[pL1 (aq _)];all_goals rfl
theorem G2(x:Cmd)(o n:Nat)(h1:32<=o)(h2:o+n<=64):cut (eS x) o n=cut (rtc x.safe) (o-32) n:=by unfold eS;rw[cR1 (aq _),cL1 (aq _)];all_goals rfl
theorem G4(x:Cmd)(o:Nat)(vs:List AV)(h1:32<=o)(h2:o+vs.length<=64):spl (eS x) o vs=rtc x.head++(spl (rtc x.safe) (o-32) vs++(rtc x.fin)):=by unfold eS;rw[pR1 (aq _),pL1 (aq _)];all_goals rfl
theorem KX(x:Cmd)(o n:Nat)(h1:64<=o)(h2:o+n<=96):cut (eS x) o n=cut (rtc x.fin) (o-64) n:=by unfold eS;rw[cR1 (aq _),cR1 (aq _)];rw[show o-32-32=o-64 by omega]
theorem KY(x:Cmd)(o:Nat)(vs:List AV)(h1:64<=o)(h2:o+vs.length<=96):spl (eS x) o vs=rtc x.head++(rtc x.safe++(spl (rtc x.fin) (o-64) vs)):=by unfold eS;rw[pR1 (aq _),pR1 (aq _)];rw[show o-32-32=o-64 by omega]
theorem u9(x:Cmd):bF (eS x)=true:=by simp[eS,bS,cA,cC,AV.cell,ec]
theorem pD(x:Cmd):PuL (eS x):=by simp[eS,eo,PuL,Pu,dS]
theorem AL(ρ:Nat->Nat)(x:Cmd):dP ρ (eS x)=eS x:=(pD x).ren ρ
theorem Oe(σ:St)(zs:List Nat)(x:Cmd):fzL σ zs (eS x)=eS x:=(pD x).fz σ zs
theorem Q1(x:Cmd):(eS x).map d8=eh [(96,1)]:=by simp only[eS,List.map_cons,List.map_append,List.map_nil,d8,kY];decide +kernel
theorem UK(x:Cmd):il [(96,1)] (eS x)=true:=gF (Q1 x)
theorem TT(x y:Cmd):gg (eS x) (eS y)=some (decide (x=y)):=by cases x;cases y;simp[eS,i7,gg,wu,aq,aY,lx,Bool.beq_eq_decide_eq,mS,Bool.and_assoc,Bool.decide_and]
def zM:Cmd:=⟨rt0,rt0,rt0⟩
structure Sta where
 sto:Sto
 reqs:AV
 rets:AV
 tag:Int
 sent:Bool
 last:Cmd
 over:Bool
 halt:Bool
 deriving Inhabited
def bk(x:Sta):List AV:=aw x.sto++(x.reqs::(x.rets::(.int .u64 x.tag::(.bool x.sent::(eS x.last++(.bool x.over::[.bool x.halt]))))))
@[simp] theorem tD(x:Sta):(bk x).length=252:=by simp only[bk,List.length_cons,List.length_append,List.length_nil,fq,bV]
theorem Wa(sto:Sto)(reqs:AV)(rets:AV)(tag:Int)(sent:Bool)(last:Cmd)(over:Bool)(halt:Bool):aw sto++(reqs::(rets::(.int .u64 tag::(.bool sent::(eS last++(.bool over::[.bool halt]))))))=bk ⟨sto,reqs,rets,tag,sent,last,over,halt⟩:=rfl
theorem Wb(x:Sta):cut (bk x) 0 252=bk x:=ef (tD x)
theorem MG(x:Sta)(o n:Nat)(h1:0<=o)(h2:o+n<=150):cut (bk x) o n=cut (aw x.sto) (o-0) n:=by unfold bk;rw[cL1 (bV _)];all_goals rfl
theorem MI(x:Sta)(o:Nat)(vs:List AV)(h1:0<=o)(h2:o+vs.length<=150):spl (bk x) o vs=spl (aw x.sto) (o-0) vs++(x.reqs::(x.rets::(.int .u64 x.tag::(.bool x.sent::(eS x.last++(.bool x.over::[.bool x.halt])))))):=by unfold bk;rw[pL1 (bV _)];all_goals rfl
theorem H0(x:Sta):cut (bk x) 150 1=[x.reqs]:=by unfold bk;rw[cR1 (bV _)];simp only[Nat.reduceSub];all_goals rfl
theorem H7(x:Sta)(v:AV):spl (bk x) 150 [v]=bk { x with reqs:=v }:=by unfold bk;rw[pR1 (bV _)];simp only[Nat.reduceSub];all_goals rfl
theorem H1(x:Sta):cut (bk x) 151 1=[x.rets]:=by unfold bk;rw[cR1 (bV _),cS1];simp only[Nat.reduceSub];all_goals rfl
theorem H8(x:Sta)(v:AV):spl (bk x) 151 [v]=bk { x with rets:=v }:=by unfold bk;rw[pR1 (bV _),pS1];simp only[Nat.reduceSub];all_goals rfl
theorem MH(x:Sta):cut (bk x) 152 1=[.int .u64 x.tag]:=by unfold bk;rw[cR1 (bV _),cS1,cS1];simp only[Nat.reduceSub];all_goals rfl
theorem MJ(x:Sta)(v:Int):spl (bk x) 152 [.int .u64 v]=bk { x with tag:=v }:=by unfold bk;rw[pR1 (bV _),pS1,pS1];simp only[Nat.reduceSub];all_goals rfl
theorem H3(x:Sta):cut (bk x) 153 1=[.bool x.sent]:=by unfold bk;rw[cR1 (bV _),cS1];rw[cS1,cS1];simp only[Nat.reduceSub];all_goals rfl
theorem H9(x:Sta)(v:Bool):spl (bk x) 153 [.bool v]=bk { x with sent:=v }:=by unfold bk;rw[pR1 (bV _),pS1];rw[pS1,pS1];simp only[Nat.reduceSub];all_goals rfl
theorem HY(x:Sta)(o n:Nat)(h1:154<=o)(h2:o+n<=250):cut (bk x) o n=cut (eS x.last) (o-154) n:=by unfold bk;rw[cR1 (bV _),cS1];rw[cS1,cS1];rw[cS1,cL1 (fq _)];rw[show o-150-1-1-1-1=o-154 by omega]
theorem H5(x:Sta)(o:Nat)(vs:List AV)(h1:154<=o)(h2:o+vs.length<=250):spl (bk x) o vs=aw x.sto++(x.reqs::(x.rets::(.int .u64 x.tag::(.bool x.sent::(spl (eS x.last) (o-154) vs++(.bool x.over::[.bool x.halt])))))):=by unfold bk;rw[pR1 (bV _),pS1];rw[pS1,pS1];rw[pS1,pL1 (fq _)];rw[show o-150-1-1-1-1=o-154 by omega]
theorem HZ(x:Sta):cut (bk x) 250 1=[.bool x.over]:=by unfold bk;rw[cR1 (bV _),cS1];rw[cS1,cS1];rw[cS1,cR1 (fq _)];simp only[Nat.reduceSub];all_goals rfl
theorem H6(x:Sta)(v:Bool):spl (bk x) 250 [.bool v]=bk { x with over:=v }:=by unfold bk;rw[pR1 (bV _),pS1];rw[pS1,pS1];rw[pS1,pR1 (fq _)];simp only[Nat.reduceSub];all_goals rfl
theorem HX(x:Sta):cut (bk x) 251 1=[.bool x.halt]:=by unfold bk;rw[cR1 (bV _),cS1];rw[cS1,cS1];rw[cS1,cR1 (fq _),cS1];simp only[Nat.reduceSub];all_goals rfl
theorem H4(x:Sta)(v:Bool):spl (bk x) 251 [.bool v]=bk { x with halt:=v }:=by unfold bk;rw[pR1 (bV _),pS1];rw[pS1,pS1];rw[pS1,pR1 (fq _),pS1];simp only[Nat.reduceSub];all_goals rfl
def Sta.map(g:AV->AV)(x:Sta):Sta:={ x with sto:=x.sto.map g,reqs:=g x.reqs,rets:=g x.rets }
theorem Sta.map_mk(g:AV->AV)(sto:Sto)(reqs:AV)(rets:AV)(tag:Int)(sent:Bool)(last:Cmd)(over:Bool)(halt:Bool):Sta.map g ⟨sto,reqs,rets,tag,sent,last,over,halt⟩=⟨sto.map g,g reqs,g rets,tag,sent,last,over,halt⟩:=rfl
def Sta.good(x:Sta):Bool:=x.sto.good&&x.reqs.cell&&x.rets.cell
theorem Sta.good_mk(sto:Sto)(reqs:AV)(rets:AV)(tag:Int)(sent:Bool)(last:Cmd)(over:Bool)(halt:Bool):Sta.good ⟨sto,reqs,rets,tag,sent,last,over,halt⟩=(sto.good&&reqs.cell&&rets.cell):=rfl
def Sta.Pure(x:Sta):Prop:=x.sto.Pure/\Pu x.reqs/\Pu x.rets
theorem GD(x:Sta):bF (bk x)=x.good:=by simp[bk,Sta.good,Bool.and_assoc,bS,cA,cC,AV.cell,u9,vf]
theorem Nn(x:Sta):PuL (bk x)↔x.Pure:=by simp[bk,Sta.Pure,eo,PuL,Pu,pD,rU]
theorem JO(ρ:Nat->Nat)(x:Sta):dP ρ (bk x)=bk (x.map (ren ρ)):=by simp only[bk,Sta.map,lZ,dP,ren,AL,AN]
theorem XC(σ:St)(zs:List Nat)(x:Sta):fzL σ zs (bk x)=bk (x.map (fz σ zs)):=by simp only[bk,Sta.map,mR,fzL,fz,Oe,Oh]
def rR:Sta:=⟨gY,.sl 0 true [],.sl 0 true [],0,false,zM,false,false⟩
attribute [go_sem] U9 cY U8 HJ HL HK HM Fl Fp Fo Fs Fm Fq Ap Aq vc AM UL TU Up aZ Uo KM KQ KN KR DY DZ KO KS KL KP GV GW Cfg.map_mk Cfg.good_mk u3 AK WC tE WB M6 M7 PN PO Ip Iq GE JR UQ TY Vg tz Vf L0 L1 OJ OK CW CX Gz JL UM TV Wf bV We MM MQ De Df MN MR Sj Sn Si Sk Gf Gi If Ih Gg Gj MP MS Gb Gh Ig Ii uR uU MO zu uQ uT Sto.map_mk Sto.good_mk vf AN VJ tC VI Mk Mm FS FV FU FW Mj Ml GA JM UO TW UA fq Uz G1 G3 G2 G4 KX KY u9 AL UK TT Wb tD Wa MG MI H0 H7 H1 H8 MH MJ H3 H9 HY H5 HZ H6 HX H4 Sta.map_mk Sta.good_mk GD JO ZP qD fg jm gY xC zM rR cY AM Of aZ Cfg.map_mk AK Oc tE JR XD tz JL Xy bV Sto.map_mk AN Oh tC JM XA fq AL Oe tD Sta.map_mk JO XC
def rows{α:Type}(f:α->List AV)(l:List α):List (List AV):=l.map f
section
variable{α:Type}{f:α->List AV}{l m:List α}
@[simp] theorem OF(f:α->List AV)(l:List α):(rows f l).length=l.length:=by simp[rows]
theorem Yt(f:α->List AV):rows f []=[]:=rfl
theorem FX(f:α->List AV)(l m:List α):rows f l++rows f m=rows f (l++m):=by simp[rows]
theorem da(f:α->List AV)(l:List α)(x:α):rows f l++[f x]=rows f (l++[x]):=by simp[rows]
theorem qm(f:α->List AV)(l:List α)(n:Nat):(rows f l).take n=rows f (l.take n):=by simp[rows]
theorem ur(f:α->List AV)(l:List α)(n:Nat):(rows f l).drop n=rows f (l.drop n):=by simp[rows]
theorem zj(f:α->List AV)(l:List α)(n:Nat)(x:α):(rows f l).set n (f x)=rows f (l.set n x):=by simp[rows,List.map_set]
theorem Yu(f:α->List AV)(n:Nat)(x:α):List.replicate n (f x)=rows f (List.replicate n x):=by simp[rows]
theorem aM{i:Nat}(d:α)(h:i<l.length):(rows f l).getD i []=f (l.getD i d):=by
 simp[rows,List.getD_eq_getElem?_getD,h]
theorem cK(h:∀x∈l,PuL (f x)):fG (rows f l):=by
 rw[pC];intro x hx;obtain⟨y,hy,rfl⟩:=List.mem_map.1 hx;exact h y hy
end
theorem gdn{k:IntKind}{ns:List Int}{i:Nat}(h:i<ns.length):(ax k ns).getD i []=[.int k (ns.getD i 0)]:=by
 simp[ax,List.getD_eq_getElem?_getD,h]
def lz(b:Bool):List AV:=[.bool b]
theorem TS(b:Bool):PuL (lz b):=by simp[lz,PuL,Pu]
theorem Su(h:Bool)(c:Cp):.bool h::cpC c=bM ⟨h,c.ep,c.rt⟩:=rfl
attribute [go_sem] Su
attribute [go_sem] OF Yt
structure aW where
 slot:Int
 root:Rt
 target:Cp
 vals:List Int
 deriving Inhabited,DecidableEq
def aW.a(x:aW):Att:=⟨x.slot,x.root,x.target,.sl 1 false (ax .i64 x.vals)⟩
abbrev aW.c(x:aW):List AV:=bZ x.a
theorem aW.a_slot(x:aW):x.a.slot=x.slot:=rfl
theorem aW.a_root(x:aW):x.a.root=x.root:=rfl
theorem aW.a_target(x:aW):x.a.target=x.target:=rfl
theorem aW.a_vals(x:aW):x.a.vals=.sl 1 false (ax .i64 x.vals):=rfl
theorem aW.pure(x:aW):x.a.Pure:=by
 exact bj _ _
theorem aW.pul(x:aW):PuL (bZ x.a):=(hZ _).2 x.pure
theorem aW.ren_a(ρ:Nat->Nat)(x:aW):dP ρ (bZ x.a)=bZ x.a:=x.pul.ren ρ
theorem aW.fz_a(σ:St)(zs:List Nat)(x:aW):fzL σ zs (bZ x.a)=bZ x.a:=x.pul.fz σ zs
theorem aW.map_ren(ρ:Nat->Nat)(x:aW):x.a.map (ren ρ)=x.a:=by
 unfold aW.a Att.map;simp only[ren,ei]
theorem aW.map_fz(σ:St)(zs:List Nat)(x:aW):x.a.map (fz σ zs)=x.a:=by
 unfold aW.a Att.map;simp only[fz,fy]
theorem aW.good_a(x:aW):x.a.good=true:=by
 simp[aW.a,Att.good,AV.cell]
structure aH where
 cp:Cp
 bals:List Int
 deriving Inhabited,DecidableEq
def aH.a(x:aH):Tab:=⟨x.cp,.sl 1 false (ax .u64 x.bals)⟩
abbrev aH.c(x:aH):List AV:=bE x.a
theorem aH.a_cp(x:aH):x.a.cp=x.cp:=rfl
theorem aH.a_bals(x:aH):x.a.bals=.sl 1 false (ax .u64 x.bals):=rfl
theorem aH.pure(x:aH):x.a.Pure:=by
 exact bj _ _
theorem aH.pul(x:aH):PuL (bE x.a):=(gB _).2 x.pure
theorem aH.ren_a(ρ:Nat->Nat)(x:aH):dP ρ (bE x.a)=bE x.a:=x.pul.ren ρ
theorem aH.fz_a(σ:St)(zs:List Nat)(x:aH):fzL σ zs (bE x.a)=bE x.a:=x.pul.fz σ zs
theorem aH.map_ren(ρ:Nat->Nat)(x:aH):x.a.map (ren ρ)=x.a:=by
 unfold aH.a Tab.map;simp only[ren,ei]
theorem aH.map_fz(σ:St)(zs:List Nat)(x:aH):x.a.map (fz σ zs)=x.a:=by
 unfold aH.a Tab.map;simp only[fz,fy]
theorem aH.good_a(x:aH):x.a.good=true:=by
 simp[aH.a,Tab.good,AV.cell]
structure eZ where
 src:Int
 tgt:Int
 root:Rt
 vals:List Int
 deriving Inhabited,DecidableEq
def eZ.a(x:eZ):Clm:=⟨x.src,x.tgt,x.root,.sl 1 false (ax .i64 x.vals)⟩
abbrev eZ.c(x:eZ):List AV:=de x.a
theorem eZ.a_src(x:eZ):x.a.src=x.src:=rfl
theorem eZ.a_tgt(x:eZ):x.a.tgt=x.tgt:=rfl
theorem eZ.a_root(x:eZ):x.a.root=x.root:=rfl
theorem eZ.a_vals(x:eZ):x.a.vals=.sl 1 false (ax .i64 x.vals):=rfl
theorem eZ.pure(x:eZ):x.a.Pure:=by
 exact bj _ _
theorem eZ.pul(x:eZ):PuL (de x.a):=(i5 _).2 x.pure
theorem eZ.ren_a(ρ:Nat->Nat)(x:eZ):dP ρ (de x.a)=de x.a:=x.pul.ren ρ
theorem eZ.fz_a(σ:St)(zs:List Nat)(x:eZ):fzL σ zs (de x.a)=de x.a:=x.pul.fz σ zs
theorem eZ.map_ren(ρ:Nat->Nat)(x:eZ):x.a.map (ren ρ)=x.a:=by
 unfold eZ.a Clm.map;simp only[ren,ei]
theorem eZ.map_fz(σ:St)(zs:List Nat)(x:eZ):x.a.map (fz σ zs)=x.a:=by
 unfold eZ.a Clm.map;simp only[fz,fy]
theorem eZ.good_a(x:eZ):x.a.good=true:=by
 simp[eZ.a,Clm.good,AV.cell]
structure eR where
 fst:eZ
 snd:eZ
 deriving Inhabited,DecidableEq
def eR.a(x:eR):Slg:=⟨x.fst.a,x.snd.a⟩
abbrev eR.c(x:eR):List AV:=dq x.a
theorem eR.a_fst(x:eR):x.a.fst=x.fst.a:=rfl
theorem eR.a_snd(x:eR):x.a.snd=x.snd.a:=rfl
theorem eR.pure(x:eR):x.a.Pure:=by
 exact⟨eZ.pure _,eZ.pure _⟩
theorem eR.pul(x:eR):PuL (dq x.a):=(ia _).2 x.pure
theorem eR.ren_a(ρ:Nat->Nat)(x:eR):dP ρ (dq x.a)=dq x.a:=x.pul.ren ρ
theorem eR.fz_a(σ:St)(zs:List Nat)(x:eR):fzL σ zs (dq x.a)=dq x.a:=x.pul.fz σ zs
theorem eR.map_ren(ρ:Nat->Nat)(x:eR):x.a.map (ren ρ)=x.a:=by
 unfold eR.a Slg.map;simp only[ren,ei,eZ.map_ren,eZ.map_ren]
theorem eR.map_fz(σ:St)(zs:List Nat)(x:eR):x.a.map (fz σ zs)=x.a:=by
 unfold eR.a Slg.map;simp only[fz,fy,eZ.map_fz,eZ.map_fz]
theorem eR.good_a(x:eR):x.a.good=true:=by
 simp[eR.a,Slg.good,AV.cell,eZ.good_a,eZ.good_a]
structure cU where
 lim:Lim
 spe:Int
 boost:Int
 ttd:Wd
 gen:Rt
 bals:List Int
 deriving Inhabited,DecidableEq
def cU.a(x:cU):Cfg:=⟨x.lim,x.spe,x.boost,x.ttd,x.gen,.sl 1 false (ax .u64 x.bals)⟩
abbrev cU.c(x:cU):List AV:=cD x.a
theorem cU.a_lim(x:cU):x.a.lim=x.lim:=rfl
theorem cU.a_spe(x:cU):x.a.spe=x.spe:=rfl
theorem cU.a_boost(x:cU):x.a.boost=x.boost:=rfl
theorem cU.a_ttd(x:cU):x.a.ttd=x.ttd:=rfl
theorem cU.a_gen(x:cU):x.a.gen=x.gen:=rfl
theorem cU.a_bals(x:cU):x.a.bals=.sl 1 false (ax .u64 x.bals):=rfl
theorem cU.pure(x:cU):x.a.Pure:=by
 exact bj _ _
theorem cU.pul(x:cU):PuL (cD x.a):=(Nl _).2 x.pure
theorem cU.ren_a(ρ:Nat->Nat)(x:cU):dP ρ (cD x.a)=cD x.a:=x.pul.ren ρ
theorem cU.fz_a(σ:St)(zs:List Nat)(x:cU):fzL σ zs (cD x.a)=cD x.a:=x.pul.fz σ zs
theorem cU.map_ren(ρ:Nat->Nat)(x:cU):x.a.map (ren ρ)=x.a:=by
 unfold cU.a Cfg.map;simp only[ren,ei]
theorem cU.map_fz(σ:St)(zs:List Nat)(x:cU):x.a.map (fz σ zs)=x.a:=by
 unfold cU.a Cfg.map;simp only[fz,fy]
theorem cU.good_a(x:cU):x.a.good=true:=by
 simp[cU.a,Cfg.good,AV.cell]
structure am where
 cfg:cU
 latest:List Vot
 eqv:List Int
 j:Cp
 f:Cp
 early:List aW
 orph:List Blk
 nodes:List Nod
 now:Int
 boost:Rt
 tabs:List aH
 deriving Inhabited,DecidableEq
def am.a(x:am):Sto:=⟨x.cfg.a,.sl 34 false (rows bM x.latest),.sl 1 false (ax .i64 x.eqv),x.j,x.f,.sl 67 false (rows aW.c x.early),.sl 238 false (rows aA x.orph),.sl 240 false (rows aP x.nodes),x.now,x.boost,.sl 34 false (rows aH.c x.tabs)⟩
abbrev am.c(x:am):List AV:=aw x.a
theorem am.a_cfg(x:am):x.a.cfg=x.cfg.a:=rfl
theorem am.a_latest(x:am):x.a.latest=.sl 34 false (rows bM x.latest):=rfl
theorem am.a_eqv(x:am):x.a.eqv=.sl 1 false (ax .i64 x.eqv):=rfl
theorem am.a_j(x:am):x.a.j=x.j:=rfl
theorem am.a_f(x:am):x.a.f=x.f:=rfl
theorem am.a_early(x:am):x.a.early=.sl 67 false (rows aW.c x.early):=rfl
theorem am.a_orph(x:am):x.a.orph=.sl 238 false (rows aA x.orph):=rfl
theorem am.a_nodes(x:am):x.a.nodes=.sl 240 false (rows aP x.nodes):=rfl
theorem am.a_now(x:am):x.a.now=x.now:=rfl
theorem am.a_boost(x:am):x.a.boost=x.boost:=rfl
theorem am.a_tabs(x:am):x.a.tabs=.sl 34 false (rows aH.c x.tabs):=rfl
theorem am.pure(x:am):x.a.Pure:=by
 exact⟨cU.pure _,cK fun x _=>ng x,bj _ _,cK fun x _=>(hZ _).2 (aW.pure x),cK fun x _=>gz x,cK fun x _=>nf x,cK fun x _=>(gB _).2 (aH.pure x)⟩
theorem am.pul(x:am):PuL (aw x.a):=(rU _).2 x.pure
theorem am.ren_a(ρ:Nat->Nat)(x:am):dP ρ (aw x.a)=aw x.a:=x.pul.ren ρ
theorem am.fz_a(σ:St)(zs:List Nat)(x:am):fzL σ zs (aw x.a)=aw x.a:=x.pul.fz σ zs
theorem am.map_ren(ρ:Nat->Nat)(x:am):x.a.map (ren ρ)=x.a:=by
 unfold am.a Sto.map;simp only[ren,ei,cU.map_ren,(cK (f:=bM) (l:=x.latest) fun y _=>ng y).ren ρ,(cK (f:=aW.c) (l:=x.early) fun y _=>(hZ _).2 (aW.pure y)).ren ρ,(cK (f:=aA) (l:=x.orph) fun y _=>gz y).ren ρ,(cK (f:=aP) (l:=x.nodes) fun y _=>nf y).ren ρ,(cK (f:=aH.c) (l:=x.tabs) fun y _=>(gB _).2 (aH.pure y)).ren ρ]
theorem am.map_fz(σ:St)(zs:List Nat)(x:am):x.a.map (fz σ zs)=x.a:=by
 unfold am.a Sto.map;simp only[fz,fy,cU.map_fz,(cK (f:=bM) (l:=x.latest) fun y _=>ng y).fz σ zs,(cK (f:=aW.c) (l:=x.early) fun y _=>(hZ _).2 (aW.pure y)).fz σ zs,(cK (f:=aA) (l:=x.orph) fun y _=>gz y).fz σ zs,(cK (f:=aP) (l:=x.nodes) fun y _=>nf y).fz σ zs,(cK (f:=aH.c) (l:=x.tabs) fun y _=>(gB _).2 (aH.pure y)).fz σ zs]
theorem am.good_a(x:am):x.a.good=true:=by
 simp[am.a,Sto.good,AV.cell,cU.good_a]
structure aX where
 sto:am
 reqs:List Req
 rets:List Req
 tag:Int
 sent:Bool
 last:Cmd
 over:Bool
 halt:Bool
 deriving Inhabited,DecidableEq
def aX.a(x:aX):Sta:=⟨x.sto.a,.sl 35 false (rows bp x.reqs),.sl 35 false (rows bp x.rets),x.tag,x.sent,x.last,x.over,x.halt⟩
abbrev aX.c(x:aX):List AV:=bk x.a
theorem aX.a_sto(x:aX):x.a.sto=x.sto.a:=rfl
theorem aX.a_reqs(x:aX):x.a.reqs=.sl 35 false (rows bp x.reqs):=rfl
theorem aX.a_rets(x:aX):x.a.rets=.sl 35 false (rows bp x.rets):=rfl
theorem aX.a_tag(x:aX):x.a.tag=x.tag:=rfl
theorem aX.a_sent(x:aX):x.a.sent=x.sent:=rfl
theorem aX.a_last(x:aX):x.a.last=x.last:=rfl
theorem aX.a_over(x:aX):x.a.over=x.over:=rfl
theorem aX.a_halt(x:aX):x.a.halt=x.halt:=rfl
theorem aX.pure(x:aX):x.a.Pure:=by
 exact⟨am.pure _,cK fun x _=>gA x,cK fun x _=>gA x⟩
theorem aX.pul(x:aX):PuL (bk x.a):=(Nn _).2 x.pure
theorem aX.ren_a(ρ:Nat->Nat)(x:aX):dP ρ (bk x.a)=bk x.a:=x.pul.ren ρ
theorem aX.fz_a(σ:St)(zs:List Nat)(x:aX):fzL σ zs (bk x.a)=bk x.a:=x.pul.fz σ zs
theorem aX.map_ren(ρ:Nat->Nat)(x:aX):x.a.map (ren ρ)=x.a:=by
 unfold aX.a Sta.map;simp only[ren,ei,am.map_ren,(cK (f:=bp) (l:=x.reqs) fun y _=>gA y).ren ρ,(cK (f:=bp) (l:=x.rets) fun y _=>gA y).ren ρ]
theorem aX.map_fz(σ:St)(zs:List Nat)(x:aX):x.a.map (fz σ zs)=x.a:=by
 unfold aX.a Sta.map;simp only[fz,fy,am.map_fz,(cK (f:=bp) (l:=x.reqs) fun y _=>gA y).fz σ zs,(cK (f:=bp) (l:=x.rets) fun y _=>gA y).fz σ zs]
theorem aX.good_a(x:aX):x.a.good=true:=by
 simp[aX.a,Sta.good,AV.cell,am.good_a]
structure VOp where
 kind:Int
 blk:Blk
 att:aW
 slg:eR
 tab:aH
 vdt:Vdt
 write:Int
 keep:Int
 deriving Inhabited,DecidableEq
def VOp.a(x:VOp):SOp:=⟨x.kind,x.blk,x.att.a,x.slg.a,x.tab.a,x.vdt,x.write,x.keep⟩
abbrev VOp.c(x:VOp):List AV:=dp x.a
theorem VOp.a_kind(x:VOp):x.a.kind=x.kind:=rfl
theorem VOp.a_blk(x:VOp):x.a.blk=x.blk:=rfl
theorem VOp.a_att(x:VOp):x.a.att=x.att.a:=rfl
theorem VOp.a_slg(x:VOp):x.a.slg=x.slg.a:=rfl
theorem VOp.a_tab(x:VOp):x.a.tab=x.tab.a:=rfl
theorem VOp.a_vdt(x:VOp):x.a.vdt=x.vdt:=rfl
theorem VOp.a_write(x:VOp):x.a.write=x.write:=rfl
theorem VOp.a_keep(x:VOp):x.a.keep=x.keep:=rfl
theorem VOp.pure(x:VOp):x.a.Pure:=by
 exact⟨aW.pure _,eR.pure _,aH.pure _⟩
theorem VOp.pul(x:VOp):PuL (dp x.a):=(i6 _).2 x.pure
theorem VOp.ren_a(ρ:Nat->Nat)(x:VOp):dP ρ (dp x.a)=dp x.a:=x.pul.ren ρ
theorem VOp.fz_a(σ:St)(zs:List Nat)(x:VOp):fzL σ zs (dp x.a)=dp x.a:=x.pul.fz σ zs
theorem VOp.map_ren(ρ:Nat->Nat)(x:VOp):x.a.map (ren ρ)=x.a:=by
 unfold VOp.a SOp.map;simp only[ren,ei,aW.map_ren,eR.map_ren,aH.map_ren]
theorem VOp.map_fz(σ:St)(zs:List Nat)(x:VOp):x.a.map (fz σ zs)=x.a:=by
 unfold VOp.a SOp.map;simp only[fz,fy,aW.map_fz,eR.map_fz,aH.map_fz]
theorem VOp.good_a(x:VOp):x.a.good=true:=by
 simp[VOp.a,SOp.good,AV.cell,aW.good_a,eR.good_a,aH.good_a]
theorem gj(l:List Rt):fG (rows rtc l):=cK fun x _=>dS x
theorem FQ(ρ:Nat->Nat)(l:List Rt):dF ρ (rows rtc l)=rows rtc l:=(gj l).ren ρ
theorem HG(σ:St)(zs:List Nat)(l:List Rt):gX σ zs (rows rtc l)=rows rtc l:=(gj l).fz σ zs
theorem lp(l:List Bool):fG (rows lz l):=cK fun x _=>TS x
theorem AJ(ρ:Nat->Nat)(l:List Bool):dF ρ (rows lz l)=rows lz l:=(lp l).ren ρ
theorem CU(σ:St)(zs:List Nat)(l:List Bool):gX σ zs (rows lz l)=rows lz l:=(lp l).fz σ zs
theorem mK(l:List Vot):fG (rows bM l):=cK fun x _=>ng x
theorem C7(ρ:Nat->Nat)(l:List Vot):dF ρ (rows bM l)=rows bM l:=(mK l).ren ρ
theorem EZ(σ:St)(zs:List Nat)(l:List Vot):gX σ zs (rows bM l)=rows bM l:=(mK l).fz σ zs
theorem mI(l:List Blk):fG (rows aA l):=cK fun x _=>gz x
theorem C3(ρ:Nat->Nat)(l:List Blk):dF ρ (rows aA l)=rows aA l:=(mI l).ren ρ
theorem EV(σ:St)(zs:List Nat)(l:List Blk):gX σ zs (rows aA l)=rows aA l:=(mI l).fz σ zs
theorem iD(l:List Nod):fG (rows aP l):=cK fun x _=>nf x
theorem C5(ρ:Nat->Nat)(l:List Nod):dF ρ (rows aP l)=rows aP l:=(iD l).ren ρ
theorem EX(σ:St)(zs:List Nat)(l:List Nod):gX σ zs (rows aP l)=rows aP l:=(iD l).fz σ zs
theorem mJ(l:List Req):fG (rows bp l):=cK fun x _=>gA x
theorem C6(ρ:Nat->Nat)(l:List Req):dF ρ (rows bp l)=rows bp l:=(mJ l).ren ρ
theorem EY(σ:St)(zs:List Nat)(l:List Req):gX σ zs (rows bp l)=rows bp l:=(mJ l).fz σ zs
theorem fh(l:List Cmd):fG (rows eS l):=cK fun x _=>pD x
theorem C4(ρ:Nat->Nat)(l:List Cmd):dF ρ (rows eS l)=rows eS l:=(fh l).ren ρ
theorem EW(σ:St)(zs:List Nat)(l:List Cmd):gX σ zs (rows eS l)=rows eS l:=(fh l).fz σ zs
theorem mH(l:List aW):fG (rows aW.c l):=cK fun x _=>aW.pul x
theorem CZ(ρ:Nat->Nat)(l:List aW):dF ρ (rows aW.c l)=rows aW.c l:=(mH l).ren ρ
theorem ET(σ:St)(zs:List Nat)(l:List aW):gX σ zs (rows aW.c l)=rows aW.c l:=(mH l).fz σ zs
theorem jZ(l:List aH):fG (rows aH.c l):=cK fun x _=>aH.pul x
theorem C0(ρ:Nat->Nat)(l:List aH):dF ρ (rows aH.c l)=rows aH.c l:=(jZ l).ren ρ
theorem EU(σ:St)(zs:List Nat)(l:List aH):gX σ zs (rows aH.c l)=rows aH.c l:=(jZ l).fz σ zs
theorem oB(l:List VOp):fG (rows VOp.c l):=cK fun x _=>VOp.pul x
theorem FP(ρ:Nat->Nat)(l:List VOp):dF ρ (rows VOp.c l)=rows VOp.c l:=(oB l).ren ρ
theorem HF(σ:St)(zs:List Nat)(l:List VOp):gX σ zs (rows VOp.c l)=rows VOp.c l:=(oB l).fz σ zs
attribute [go_sem] aW.a_slot aW.a_root aW.a_target aW.a_vals aW.pul aW.ren_a aW.fz_a aW.map_ren aW.map_fz aW.good_a aH.a_cp aH.a_bals aH.pul aH.ren_a aH.fz_a aH.map_ren aH.map_fz aH.good_a eZ.a_src eZ.a_tgt eZ.a_root eZ.a_vals eZ.pul eZ.ren_a eZ.fz_a eZ.map_ren eZ.map_fz eZ.good_a eR.a_fst eR.a_snd eR.pul eR.ren_a eR.fz_a eR.map_ren eR.map_fz eR.good_a cU.a_lim cU.a_spe cU.a_boost cU.a_ttd cU.a_gen cU.a_bals cU.pul cU.ren_a cU.fz_a cU.map_ren cU.map_fz cU.good_a am.a_cfg am.a_latest am.a_eqv am.a_j am.a_f am.a_early am.a_orph am.a_nodes am.a_now am.a_boost am.a_tabs am.pul am.ren_a am.fz_a am.map_ren am.map_fz am.good_a aX.a_sto aX.a_reqs aX.a_rets aX.a_tag aX.a_sent aX.a_last aX.a_over aX.a_halt aX.pul aX.ren_a aX.fz_a aX.map_ren aX.map_fz aX.good_a VOp.a_kind VOp.a_blk VOp.a_att VOp.a_slg VOp.a_tab VOp.a_vdt VOp.a_write VOp.a_keep VOp.pul VOp.ren_a VOp.fz_a VOp.map_ren VOp.map_fz VOp.good_a gj FQ HG lp AJ CU mK C7 EZ mI C3 EV iD C5 EX mJ C6 EY fh C4 EW mH CZ ET jZ C0 EU oB FP HF
def Sm{α:Type}(G F:α->Prop):Prop:=∃r,G r/\F r
section
variable{α:Type}{G:α->Prop}{P:Program}{nt k:Nat}{fr:Fr}{σ:St}
theorem iM{p q:α->Prop}(h:∀r,q r->p r)(hq:Sm G q):Sm G p:=hq.imp fun r h1=>⟨h1.1,h r h1.2⟩
theorem Tz{F:α->Prop}(r:α)(h1:G r)(h2:F r):Sm G F:=⟨r,h1,h2⟩
theorem cQ{p q:α->Prop}(hq:Sm G q) (h:∀r,Hid (q r)->p r:=by
 (intro r hq
  (first|with_reducible (first|refine iO ?_|refine jS ?_|refine iN ?_|refine l9 (by simp only[List.length_cons,List.length_nil]) ?_|refine ma ?_|refine kE ?_|refine o6 ?_)|(simp only[go_sem,Nat.reduceAdd,Nat.reduceSub,Nat.reduceMul,Nat.reduceLT,Nat.reduceLeDiff,Nat.reduceEqDiff,reduceIte,Int.reduceToNat,Int.reduceLT,Int.reduceLE,Int.reduceEq,Int.reduceNeg,reduceCtorEq,Int.reduceBEq,Int.reduceBNe])|with_reducible refine And.intro (nW (by decide)) ?_|(with_reducible refine And.intro ?_ ?_;first|omega|decide|(simp;done)|(simp;omega)))
  repeat(first|with_reducible (first|refine iO ?_|refine jS ?_|refine iN ?_|refine l9 (by simp only[List.length_cons,List.length_nil]) ?_|refine ma ?_|refine kE ?_|refine o6 ?_)|(simp only[go_sem,Nat.reduceAdd,Nat.reduceSub,Nat.reduceMul,Nat.reduceLT,Nat.reduceLeDiff,Nat.reduceEqDiff,reduceIte,Int.reduceToNat,Int.reduceLT,Int.reduceLE,Int.reduceEq,Int.reduceNeg,reduceCtorEq,Int.reduceBEq,Int.reduceBNe])|with_reducible refine And.intro (nW (by decide)) ?_|(with_reducible refine And.intro ?_ ?_;first|omega|decide|(simp;done)|(simp;omega)))
  exact hq.out)):Sm G p:=iM (fun r h1=>h r ⟨h1⟩) hq
theorem dz{x y:ab}{Q:α->Ex->Fr->St->Prop}(h:Sm G fun r=>Tri P nt k x (jt (Tri P nt k y (Q r)) (Q r)) fr σ):Sm G fun r=>Tri P nt k (.seq x y) (Q r) fr σ:=iM (fun r h1=>iO h1) h
theorem fX{p q:α->Prop}(hq:Sm G q) (h:∀r,Hid (q r)->p r:=by
 (intro r hq
  (first|with_reducible (first|refine jS ?_|refine iN ?_|refine l9 (by simp only[List.length_cons,List.length_nil]) ?_|refine ma ?_|refine kE ?_|refine o6 ?_)|(simp only[go_sem,Nat.reduceAdd,Nat.reduceSub,Nat.reduceMul,Nat.reduceLT,Nat.reduceLeDiff,Nat.reduceEqDiff,reduceIte,Int.reduceToNat,Int.reduceLT,Int.reduceLE,Int.reduceEq,Int.reduceNeg,reduceCtorEq,Int.reduceBEq,Int.reduceBNe])|with_reducible refine And.intro (nW (by decide)) ?_|(with_reducible refine And.intro ?_ ?_;first|omega|decide|(simp;done)|(simp;omega)))
  repeat(first|with_reducible (first|refine jS ?_|refine iN ?_|refine l9 (by simp only[List.length_cons,List.length_nil]) ?_|refine ma ?_|refine kE ?_|refine o6 ?_)|(simp only[go_sem,Nat.reduceAdd,Nat.reduceSub,Nat.reduceMul,Nat.reduceLT,Nat.reduceLeDiff,Nat.reduceEqDiff,reduceIte,Int.reduceToNat,Int.reduceLT,Int.reduceLE,Int.reduceEq,Int.reduceNeg,reduceCtorEq,Int.reduceBEq,Int.reduceBNe])|with_reducible refine And.intro (nW (by decide)) ?_|(with_reducible refine And.intro ?_ ?_;first|omega|decide|(simp;done)|(simp;omega)))
  exact hq.out)):Sm G p:=iM (fun r h1=>h r ⟨h1⟩) hq
theorem kQ{p q:α->Prop}(hq:Sm G q) (h:∀r,Hid (q r)->p r:=by
 (intro r hq
  (first|(simp only[go_sem,Nat.reduceAdd,Nat.reduceSub,Nat.reduceMul,Nat.reduceLT,Nat.reduceLeDiff,Nat.reduceEqDiff,reduceIte,Int.reduceToNat,Int.reduceLT,Int.reduceLE,Int.reduceEq,Int.reduceNeg,reduceCtorEq,Int.reduceBEq,Int.reduceBNe])|with_reducible refine And.intro (nW (by decide)) ?_|(with_reducible refine And.intro ?_ ?_;first|omega|decide|(simp;done)|(simp;omega)))
  repeat(first|(simp only[go_sem,Nat.reduceAdd,Nat.reduceSub,Nat.reduceMul,Nat.reduceLT,Nat.reduceLeDiff,Nat.reduceEqDiff,reduceIte,Int.reduceToNat,Int.reduceLT,Int.reduceLE,Int.reduceEq,Int.reduceNeg,reduceCtorEq,Int.reduceBEq,Int.reduceBNe])|with_reducible refine And.intro (nW (by decide)) ?_|(with_reducible refine And.intro ?_ ?_;first|omega|decide|(simp;done)|(simp;omega)))
  exact hq.out)):Sm G p:=iM (fun r h1=>h r ⟨h1⟩) hq
theorem bB{c:Opd}{x y:ab}{Q:α->Ex->Fr->St->Prop}{t:Bool}(h1:t=true->Sm G fun r=>Tri P nt k x (Q r) fr σ)(h2:t=false->Sm G fun r=>Tri P nt k y (Q r) fr σ)
 (hb:c.ev fr=.bool t:=by first|rfl|(simp only[go_sem];rfl)):Sm G fun r=>Tri P nt k (.cond c x y) (Q r) fr σ:=by
 cases t with
 |true=>exact iM (fun r h=>du hb (fun _=>h) (fun h=>by cases h)) (h1 rfl)
 |false=>exact iM (fun r h=>du hb (fun h=>by cases h) (fun _=>h)) (h2 rfl)
theorem eA{p1 p2:Prop}{A B:α->Prop}(h1:p1->Sm G A)(h2:p2->Sm G B)(hx:p1->p2->False:=by intro h1 h2;first|(rw[h1]at h2;cases h2;done)|exact h2 h1|exact h1 h2|(simp_all;done)|omega)
 (ho:p1\/p2:=by first|exact Classical.em _|exact(Classical.em _).symm|exact Bool.eq_false_or_eq_true _|exact(Bool.eq_false_or_eq_true _).symm|(simp;omega)|omega):Sm G fun r=>(p1->A r)/\(p2->B r):=by
 rcases ho with h|h
 ·exact iM (fun r h3=>⟨fun _=>h3,fun h4=>(hx h h4).elim⟩) (h1 h)
 ·exact iM (fun r h3=>⟨fun h4=>(hx h4 h).elim,fun _=>h3⟩) (h2 h)
theorem dg{f:FuncId}{args caps:List AV}{r0:AV}{K:α->AV->St->Prop}(h:PC P f (args++caps) r0)(hk:Sm G fun r=>K r r0 σ):Sm G fun r=>jd P (.fn (.func f) caps) args σ (K r):=iM (fun r h1=>ai h h1) hk
theorem d6{n:Nat}{f:FuncId}{args caps:List AV}{r0:AV}{K:α->AV->List Nat->List Nat->St->Prop}(h:PC P f (args++caps) r0)(hk:Sm G fun r=>K r r0 [] [] σ):
 Sm G fun r=>∃v ft ch σ',vO P n (.fn (.func f) caps) args σ v ft ch σ'/\K r v ft ch σ':=iM (fun r h1=>aC h h1) hk
theorem acw{c:ab}{Q:α->Ex->Fr->St->Prop}{fr2:Fr}{σ2:St}(hg:GC k fr σ fr2 σ2)(h:Sm G fun r=>Tri P nt k c (Q r) fr2 σ2):Sm G fun r=>Tri P nt k c (Q r) fr σ:=iM (fun r h1=>dR hg h1) h
def ab9(P:Program)(nt k:Nat)(x:ab)(fr:Fr)(σ:St)(fr2:Fr)(σ2:St):Prop:=∀ (z:ab) (Q0 Q:Ex->Fr->St->Prop),Tri P nt k z Q0 fr2 σ2->Tri P nt k x (jt (Tri P nt k z Q0) Q) fr σ
theorem Dp{x:ab}{fr2:Fr}{σ2:St}(h:Tri P nt k x (fun e fr σ=>e=.normal/\GC k fr σ fr2 σ2) fr σ):ab9 P nt k x fr σ fr2 σ2:=fun z Q0 Q hz=>Tri.mono h fun e fr3 σ3 ⟨h1,h2⟩=>by
 subst h1;exact dR h2 hz
theorem uz{c:Opd}{x y z:ab}{Q0 Q:Ex->Fr->St->Prop}{t:Bool}{nv:Nat}{vs:List AV}{ts:List (Nat×AV)}(us:Bool->List (Nat×AV))(S:Bool->St)
 (hx:t=true->Tri P nt k x (fun e fr σ=>e=.normal/\GC k fr σ ⟨nv,jU (us true) vs,[]⟩ (S true)) ⟨nv,vs,ts⟩ σ) (hy:t=false->Tri P nt k y (fun e fr σ=>e=.normal/\GC k fr σ ⟨nv,jU (us false) vs,[]⟩ (S false)) ⟨nv,vs,ts⟩ σ)
 (hz:Tri P nt k z Q0 ⟨nv,jU (us t) vs,[]⟩ (S t)) (hb:c.ev ⟨nv,vs,ts⟩=.bool t:=by first|rfl|(simp only[go_sem];rfl)):Tri P nt k (.cond c x y) (jt (Tri P nt k z Q0) Q) ⟨nv,vs,ts⟩ σ:=by
 cases t with
 |true=>exact du hb (fun _=>Dp (hx rfl) z Q0 Q hz) (fun h=>by cases h)
 |false=>exact du hb (fun h=>by cases h) (fun _=>Dp (hy rfl) z Q0 Q hz)
theorem MD{β:Type}{x z:ab}{Q0 Q:α->Ex->Fr->St->Prop}{H:β->Prop}{F:β->Fr}{S:β->St}(h:Sm H fun b=>Tri P nt k x (fun e fr σ=>e=.normal/\GC k fr σ (F b) (S b)) fr σ)
 (hz:∀b,H b->Sm G fun r=>Tri P nt k z (Q0 r) (F b) (S b)):Sm G fun r=>Tri P nt k x (jt (Tri P nt k z (Q0 r)) (Q r)) fr σ:=by
 obtain⟨b,h1,h2⟩:=h;exact iM (fun r h3=>Dp h2 z _ _ h3) (hz b h1)
theorem jq{β:Type}{x z:ab}{Q0 Q:α->Ex->Fr->St->Prop}{nv:Nat}{vs:List AV}{ts:List (Nat×AV)}(H:β->Prop)(f:β->List AV)(i:Nat)(us:List (Nat×AV))(h:Sm H fun b=>Tri P nt k x (fun e fr' σ'=>e=.normal/\GC k fr' σ' ⟨nv,jU us vs,[]⟩ (σ.set i (.var (f b)))) ⟨nv,vs,ts⟩ σ)
 (hz:∀b,H b->Sm G fun r=>Tri P nt k z (Q0 r) ⟨nv,jU us vs,[]⟩ (σ.set i (.var (f b)))):Sm G fun r=>Tri P nt k x (jt (Tri P nt k z (Q0 r)) (Q r)) ⟨nv,vs,ts⟩ σ:=MD (F:=fun _=>⟨nv,jU us vs,[]⟩) (S:=fun b=>σ.set i (.var (f b))) h hz
theorem zq{β:Type}{x z:ab}{Q0 Q:α->Ex->Fr->St->Prop}{nv:Nat}{vs:List AV}{ts:List (Nat×AV)}(H:β->Prop)(us:β->List (Nat×AV))(h:Sm H fun b=>Tri P nt k x (fun e fr' σ'=>e=.normal/\GC k fr' σ' ⟨nv,jU (us b) vs,[]⟩ σ) ⟨nv,vs,ts⟩ σ)
 (hz:∀b,H b->Sm G fun r=>Tri P nt k z (Q0 r) ⟨nv,jU (us b) vs,[]⟩ σ):Sm G fun r=>Tri P nt k x (jt (Tri P nt k z (Q0 r)) (Q r)) ⟨nv,vs,ts⟩ σ:=MD (F:=fun b=>⟨nv,jU (us b) vs,[]⟩) (S:=fun _=>σ) h hz
theorem F8{β:Type}{x z:ab}{Q0 Q:α->Ex->Fr->St->Prop}{nv:Nat}{vs:List AV}{ts:List (Nat×AV)}(H:β->Prop)(us:β->List (Nat×AV))(S:β->St)(h:Sm H fun b=>Tri P nt k x (fun e fr' σ'=>e=.normal/\GC k fr' σ' ⟨nv,jU (us b) vs,[]⟩ (S b)) ⟨nv,vs,ts⟩ σ)
 (hz:∀b,H b->Sm G fun r=>Tri P nt k z (Q0 r) ⟨nv,jU (us b) vs,[]⟩ (S b)):Sm G fun r=>Tri P nt k x (jt (Tri P nt k z (Q0 r)) (Q r)) ⟨nv,vs,ts⟩ σ:=MD (F:=fun b=>⟨nv,jU (us b) vs,[]⟩) (S:=S) h hz
theorem iL{H:α->Prop}{fr1 fr2:Fr}{σ1:St}{S:α->St}(f:α->List AV)(i:Nat){b:α}(hi:σ1[i]?=some (.var (f b)))(hb:H b)(hg:GC k fr1 σ1 fr2 (S b)):Sm H fun r=>GC k fr1 σ1 fr2 (S r):=⟨b,hb,hg⟩
theorem F7{rs:List gO}{F:α->AV}{l:List AV}{b:α}(hl:dQ fr σ rs=some l)(hv:fz σ (List.range σ.length) (gm l)=F b)(hg:G b):Sm G fun r=>PQ rs (F r) .ret fr σ:=⟨b,hg,l,hl,.inl hv⟩
theorem lu{f:FuncId}{rs:List gO}{ac:ab}{args:List AV}{F:α->AV}(nv:Nat)(hf:aJ P f=some (nt,rs,ac))(ha:args.length<=nt)(hp:PuL args)(hr:∀r,G r->Pu (F r))
 (h:Sm G fun r=>Tri P nt 0 ac (PQ rs (F r)) ⟨nv,args++List.replicate (nv-args.length) .dead,[]⟩ []):Sm G fun r=>PC P f args (F r):=by
 obtain⟨r,h1,h2⟩:=h;exact⟨r,h1,PC.fact nv hf ha hp (hr r h1) h2⟩
end
section
variable{P:Program}{σ:St}
theorem Ai{n:Nat}{loc:Nat->Option Loc}{b:Nat}:¬aS (List.replicate n .gone) loc b:=by
 rintro⟨id,o,L,h1,h2,_⟩;rw[List.getElem?_replicate]at h1;split at h1
 ·simp only[Option.some.injEq]at h1;subst h1;cases h2
 ·cases h1
theorem aI.give{f:FuncId}{args:List AV}{r:AV}(h:PC P f (fzL σ (List.range σ.length) args) r):aI P f args σ r (List.replicate σ.length .gone):=by
 refine⟨h.call.1,by simp,fun X loc w vs hr hv=>?_⟩;obtain⟨loc2,g1,g2,g3,g4⟩:=(nQ σ (List.range σ.length)).rel hr;have hpu:=h.pa
 have hv2:RlS (aR X loc2 [] w) (fzL σ (List.range σ.length) args) vs:=by
  have key:∀ {xs:List AV} {us:List Value},PuL (fzL σ (List.range σ.length) xs)->RlS (aR X loc σ w) xs us->RlS (aR X loc2 [] w) (fzL σ (List.range σ.length) xs) us:=by
   intro xs;induction xs with
   |nil=>intro us _ hv;exact hv
   | cons a xs ih =>
     intro us hp hv;obtain⟨u,us',e,h1,h2⟩:=hv;exact⟨u,us',e,g4 a u h1 _ (hp.1.ren _).symm,ih hp.2 h2⟩
  exact key hpu hv
 refine(h.call.2.2 X loc2 w vs g2 hv2).mono ?_;rintro e w' ⟨v,loc',rfl,ho,_⟩;have hl:loc'=fun _=>none:=funext fun id=>ho.rel.beyond id (Nat.zero_le _)
 have hnl:∀b,¬aS [] loc' b:=fun b hd=>by obtain⟨id,o,L,h1,_⟩:=hd;simp at h1
 refine⟨v,loc,rfl,⟨fun _ _ h=>h,⟨fun id o h1 h2=>?_,fun i j a b La Lb _ h1 _ h3=>?_,fun b hb=>⟨Nat.lt_of_lt_of_le (hr.out b hb).1 ho.ev.size,Ai⟩,fun id hid=>hr.beyond id (by simpa using hid)⟩,?_,⟨ho.ev.size,fun b hb hn=>ho.ev.blk b hb (fun hd=>by obtain⟨id,o,L,h1,_⟩:=hd;simp at h1),ho.ev.os,ho.ev.tape,ho.ev.output⟩,fun b hb=>absurd hb Ai⟩,fun _ _=>rfl⟩
 ·rw[List.getElem?_replicate]at h1;split at h1
  ·simp only[Option.some.injEq]at h1;subst h1;cases h2
  ·cases h1
 ·rw[List.getElem?_replicate]at h1;split at h1
  ·simp only[Option.some.injEq]at h1;subst h1;cases h3
  ·cases h1
 ·refine Rl.mono (E:=aR X loc' [] w') (E':=aR X loc (List.replicate σ.length .gone) w') ⟨fun id L hL=>?_,Nat.le_refl _,fun b hb hn=>⟨fun(hf:X b\/aS _ loc b)=>hn (hf.elim .inl fun hd=>absurd hd Ai),rfl⟩⟩ _ _ ho.val;have hL2:loc' id=some L:=hL;rw[hl]at hL2;cases hL2
end
def Wt(σ:St)(zs:List Nat)(ρ:Nat->Nat)(ts:List (Nat×AV)):List (Nat×AV)->Prop
 | []=>True
 |p::r=>fz σ zs (qO ts p.1)=ren ρ p.2/\Wt σ zs ρ ts r
theorem Wt.get{σ:St}{zs:List Nat}{ρ:Nat->Nat}{ts:List (Nat×AV)}(t:Nat):∀ {ts2:List (Nat×AV)},Wt σ zs ρ ts ts2->qO ts2 t=.dead\/fz σ zs (qO ts t)=ren ρ (qO ts2 t)
 | [],_=>.inl rfl
 | (u, v) :: r, h => by
   rw[show qO ((u,v)::r) t=if t=u then v else qO r t from rfl];by_cases hu:t=u
   ·subst hu;rw[if_pos rfl];exact .inr h.1
   ·rw[if_neg hu];exact Wt.get t h.2
section
variable{k:Nat}{σ:St}
theorem GC.mkT{nv:Nat}{vs vs2:List AV}{ts ts2:List (Nat×AV)}{σ2:St}(zs js:List Nat)(hk:k<=js.length)(hfix:js.take k=List.range k)(hnd:js.Nodup)(hlt:∀j∈js,j<σ.length)(ho:iY σ zs (rn js σ.length) js σ2)
 (hs:jv σ zs (rn js σ.length) vs vs2) (ht:Wt σ zs (rn js σ.length) ts ts2):GC k ⟨nv,vs,ts⟩ σ ⟨nv,vs2,ts2⟩ σ2:=by
 refine⟨zs,js,⟨fun i hi=>?_,hnd,hlt,ho.len,ho.get⟩,hk,fun t=>?_⟩
 ·have:(js.take k)[i]?=some i:=by rw[hfix];simp[hi]
  rwa [List.getElem?_take,if_pos hi]at this
 ·unfold Fr.get;simp only;split
  ·exact hs.get t
  ·exact ht.get t
end
attribute [go_sem] Wt qO
def ab.tl:Nat->ab->ab
 |0,c=>c
 |n+1,.seq _ b=>b.tl n
 |_+1,c=>c
def ab.hd:ab->ab
 |.seq a _=>a
 |c=>c
def flat1:AV->Bool
 |.bool _|.int _ _|.str _=>true
 |_=>false
def flat2:AV->Bool
 |.agg cs=>cs.all flat1
 |v=>flat1 v
def flatR:AV->Bool
 |.tup us=>us.all flat2
 |v=>flat2 v
theorem Rl.flat1{E E':Env}{c:AV}{v:Value}(hc:flat1 c=true)(h:Rl E c v):Rl E' c v:=by
 cases c<;>first|exact h|cases hc
theorem RlC.flat{E E':Env}:∀ {cs:List AV} {vs:List Value},cs.all Go.FH.flat1=true->RlC E cs vs->RlC E' cs vs
 | [],_,_,h=>h
 | c :: cs, _, hc, h => by
   obtain⟨u,us,e,h1,h2,h3⟩:=h;rw[List.all_cons,Bool.and_eq_true]at hc;exact⟨u,us,e,h1,h2.flat1 hc.1,RlC.flat hc.2 h3⟩
theorem Rl.flat2{E E':Env}{c:AV}{v:Value}(hc:flat2 c=true)(h:Rl E c v):Rl E' c v:=by
 cases c<;>first|exact h|cases hc|skip
 obtain⟨vs,e,h1⟩:=h;exact⟨vs,e,h1.flat hc⟩
theorem RlS.flat{E E':Env}:∀ {cs:List AV} {vs:List Value},cs.all Go.FH.flat2=true->RlS E cs vs->RlS E' cs vs
 | [],_,_,h=>h
 | c :: cs, _, hc, h => by
   obtain⟨u,us,e,h2,h3⟩:=h;rw[List.all_cons,Bool.and_eq_true]at hc;exact⟨u,us,e,h2.flat2 hc.1,RlS.flat hc.2 h3⟩
theorem Rl.flatR{E E':Env}{c:AV}{v:Value}(hc:flatR c=true)(h:Rl E c v):Rl E' c v:=by
 cases c<;>first|exact h|cases hc|exact Rl.flat2 hc h|skip
 obtain⟨vs,e,h1⟩:=h;exact⟨vs,e,h1.flat hc⟩
theorem jB{p q:Prop}(hq:q) (h:Hid q->p:=by
 (intro hq
  (first|with_reducible (first|refine jS ?_|refine iN ?_|refine l9 (by simp only[List.length_cons,List.length_nil]) ?_|refine ma ?_|refine kE ?_|refine o6 ?_)|(simp only[go_sem,Nat.reduceAdd,Nat.reduceSub,Nat.reduceMul,Nat.reduceLT,Nat.reduceLeDiff,Nat.reduceEqDiff,reduceIte,Int.reduceToNat,Int.reduceLT,Int.reduceLE,Int.reduceEq,Int.reduceNeg,reduceCtorEq,Int.reduceBEq,Int.reduceBNe])|with_reducible refine And.intro (nW (by decide)) ?_|(with_reducible refine And.intro ?_ ?_;first|omega|decide|(simp;done)|(simp;omega)))
  repeat(first|with_reducible (first|refine jS ?_|refine iN ?_|refine l9 (by simp only[List.length_cons,List.length_nil]) ?_|refine ma ?_|refine kE ?_|refine o6 ?_)|(simp only[go_sem,Nat.reduceAdd,Nat.reduceSub,Nat.reduceMul,Nat.reduceLT,Nat.reduceLeDiff,Nat.reduceEqDiff,reduceIte,Int.reduceToNat,Int.reduceLT,Int.reduceLE,Int.reduceEq,Int.reduceNeg,reduceCtorEq,Int.reduceBEq,Int.reduceBNe])|with_reducible refine And.intro (nW (by decide)) ?_|(with_reducible refine And.intro ?_ ?_;first|omega|decide|(simp;done)|(simp;omega)))
  exact hq.out)):p:=h ⟨hq⟩
section
variable{P:Program}{σ:St}
theorem aI.lend{f:FuncId}{args:List AV}{r:AV}(hf:flatR r=true)(h:PC P f (fzL σ (List.range σ.length) args) r):aI P f args σ r σ:=by
 refine⟨h.call.1,Nat.le_refl _,fun X loc w vs hr hv=>?_⟩;obtain⟨loc2,g1,g2,g3,g4⟩:=(nQ σ (List.range σ.length)).rel hr;have hpu:=h.pa
 have hv2:RlS (aR X loc2 [] w) (fzL σ (List.range σ.length) args) vs:=by
  have key:∀ {xs:List AV} {us:List Value},PuL (fzL σ (List.range σ.length) xs)->RlS (aR X loc σ w) xs us->RlS (aR X loc2 [] w) (fzL σ (List.range σ.length) xs) us:=by
   intro xs;induction xs with
   |nil=>intro us _ hv;exact hv
   | cons a xs ih =>
     intro us hp hv;obtain⟨u,us',e,h1,h2⟩:=hv;exact⟨u,us',e,g4 a u h1 _ (hp.1.ren _).symm,ih hp.2 h2⟩
  exact key hpu hv
 refine(h.call.2.2 X loc2 w vs g2 hv2).mono ?_;rintro e w' ⟨v,loc',rfl,ho,_⟩;have hnl:∀b,¬aS [] loc2 b:=fun b hd=>by obtain⟨id,o,L,h1,_⟩:=hd;simp at h1
 have hev:Ev (aS σ loc) w w':=⟨ho.ev.size,fun b hb hn=>ho.ev.blk b hb (hnl b),ho.ev.os,ho.ev.tape,ho.ev.output⟩
 exact⟨v,loc,rfl,⟨fun _ _ h=>h,hr.change (fun _ _ h=>h) hev (fun b hb=>.inl hb) hr.beyond (fun id o h1 h2=>.inl ⟨h1,fun L hL hh=>ho.ev.blk _ (aS.lt hr ⟨id,o,L,h1,h2,hL,hh,rfl⟩) (hnl _)⟩) hr.apart,
  ho.val.flatR hf,hev,fun b hb=>.inl hb⟩,fun _ _=>rfl⟩
end
end Go.FH
namespace Go.FH
def om(d s:Nat):cI:=⟨some d,.mv (.t s),none⟩
def oo(d:Nat)(op:AOp):cI:=⟨some d,op,none⟩
def on(op:AOp):cI:=⟨none,op,none⟩
def omg(d s t:Nat)(b:Bool):cI:=⟨some d,.mv (.t s),some (t,b)⟩
def og(d:Nat)(op:AOp)(t:Nat)(b:Bool):cI:=⟨some d,op,some (t,b)⟩
def ong(op:AOp)(t:Nat)(b:Bool):cI:=⟨none,op,some (t,b)⟩
def ci(n:Int):Opd:=.c (.int .i64 n)
def cu(n:Int):Opd:=.c (.int .u64 n)
def cb(b:Bool):Opd:=.c (.bool b)
def cf(n:Nat):Opd:=.c (.fn (.func n) [])
def fA(d o x:Nat):cI:=⟨some d,.fldA o (.t x),none⟩
def lA(d n x:Nat):cI:=⟨some d,.ld true n (.t x),none⟩
def lF(d n x:Nat):cI:=⟨some d,.ld false n (.t x),none⟩
def bI(d:Nat)(o:BinOp)(x y:Nat):cI:=⟨some d,.bin o (.t x) (.t y),none⟩
def bC(d:Nat)(o:BinOp)(x:Nat)(c:Opd):cI:=⟨some d,.bin o (.t x) c,none⟩
def sO(n x y:Nat):cI:=⟨none,.sto n (.t x) (.t y),none⟩
def eX(d i x:Nat):cI:=⟨some d,.ext i (.t x),none⟩
def lN(d x:Nat):cI:=⟨some d,.len false (.t x),none⟩
def iX(d e x y:Nat):cI:=⟨some d,.idxS e (.t x) (.t y),none⟩
def kA(d f x:Nat):cI:=⟨some d,.call (cf f) [.t x],none⟩
def kB(d f x y:Nat):cI:=⟨some d,.call (cf f) [.t x,.t y],none⟩
def kC(d f x y z:Nat):cI:=⟨some d,.call (cf f) [.t x,.t y,.t z],none⟩
def sR(l:List cI)(x:ab):ab:=.seq (.reg l) x
def cN(c:Nat)(x y:ab):ab:=.cond (.t c) x y
def wA(d o x t:Nat):cI:=⟨some d,.fldA o (.t x),some (t,false)⟩
def wB(d o x t:Nat):cI:=⟨some d,.fldA o (.t x),some (t,true)⟩
def wC(d n x t:Nat):cI:=⟨some d,.ld false n (.t x),some (t,false)⟩
def wD(d n x t:Nat):cI:=⟨some d,.ld false n (.t x),some (t,true)⟩
def wE(d n x t:Nat):cI:=⟨some d,.ld true n (.t x),some (t,false)⟩
def wF(d n x t:Nat):cI:=⟨some d,.ld true n (.t x),some (t,true)⟩
def wG(d s t:Nat):cI:=⟨some d,.mv (.t s),some (t,false)⟩
def wH(d s t:Nat):cI:=⟨some d,.mv (.t s),some (t,true)⟩
def wI(d:Nat)(o:BinOp)(x y t:Nat):cI:=⟨some d,.bin o (.t x) (.t y),some (t,false)⟩
def wJ(d:Nat)(o:BinOp)(x y t:Nat):cI:=⟨some d,.bin o (.t x) (.t y),some (t,true)⟩
def wK(d:Nat)(o:BinOp)(x:Nat)(c:Opd)(t:Nat):cI:=⟨some d,.bin o (.t x) c,some (t,false)⟩
def wL(d:Nat)(o:BinOp)(x:Nat)(c:Opd)(t:Nat):cI:=⟨some d,.bin o (.t x) c,some (t,true)⟩
def wM(d a b:Nat):cI:=⟨some d,.pick (.t a) (cb true) (.t b),none⟩
def wN(d a b:Nat):cI:=⟨some d,.pick (.t a) (.t b) (cb false),none⟩
def wO(d x:Nat):cI:=⟨some d,.un .not (.t x),none⟩
def wP(d x t:Nat):cI:=⟨some d,.un .not (.t x),some (t,false)⟩
def wQ(d x t:Nat):cI:=⟨some d,.un .not (.t x),some (t,true)⟩
def wR(d:Nat)(n:Int):cI:=⟨some d,.mv (ci n),none⟩
def wS(d:Nat)(b:Bool):cI:=⟨some d,.mv (cb b),none⟩
def wT(d n x i t:Nat):cI:=⟨some d,.idxS n (.t x) (.t i),some (t,false)⟩
def wU(d n x i t:Nat):cI:=⟨some d,.idxS n (.t x) (.t i),some (t,true)⟩
def wV(d f x t:Nat):cI:=⟨some d,.call (cf f) [.t x],some (t,false)⟩
def wW(d f x t:Nat):cI:=⟨some d,.call (cf f) [.t x],some (t,true)⟩
def wX(d f x y t:Nat):cI:=⟨some d,.call (cf f) [.t x,.t y],some (t,false)⟩
def wY(d f x y t:Nat):cI:=⟨some d,.call (cf f) [.t x,.t y],some (t,true)⟩
def wZ(d n x:Nat):cI:=⟨some d,.box n (.t x),none⟩
section
def zlO{r:List AV}(l:List AV)(h:r=l:=by(conv=>rhs;reduce)):{x // x=l}:=⟨r,h⟩
def zO1:=zlO (dp acu)
def zO2:=zlO (bk rR)
def zO3:=zlO (aw gY)
def zO4:=zlO (aP jm)
def zO5:=zlO (aA dO)
def zO6:=zlO (dq HV)
def zO7:=zlO (bZ GG)
def zO8:=zlO (cD qD)
def zO9:=zlO (fd HP)
def acE:=zlO (bp xC)
def acF:=zlO (de Zy)
def acG:=zlO (bE zw)
def acH:=zlO (en lk)
def acI:=zlO (bM fg)
def acJ:=zlO (cpC cp0)
def acK:=zlO (ez ZP)
def acL:=zlO (rtc rt0)
def acM:=zlO (wdc wd0)
def acN:=zlO (eS zM)
def nfO(f:FuncId){P:Program}{n:Nat}{rs:List gO}{c:ab} (_h:aJ P f=some (n,rs,c):=by
 have z1:=zO1.2;have z2:=zO2.2;have z3:=zO3.2;have z4:=zO4.2;have z5:=zO5.2;have z6:=zO6.2;have z7:=zO7.2;have z8:=zO8.2;have z9:=zO9.2;have z10:=acE.2;have z11:=acF.2;have z12:=acG.2;have z13:=acH.2;have z14:=acI.2;have z15:=acJ.2;have z16:=acK.2;have z17:=acL.2;have z18:=acM.2;have z19:=acN.2;unfold zO1 zlO at z1;unfold zO2 zlO at z2;unfold zO3 zlO at z3;unfold zO4 zlO at z4;unfold zO5 zlO at z5;unfold zO6 zlO at z6;unfold zO7 zlO at z7;unfold zO8 zlO at z8;unfold zO9 zlO at z9;unfold acE zlO at z10;unfold acF zlO at z11;unfold acG zlO at z12;unfold acH zlO at z13;unfold acI zlO at z14;unfold acJ zlO at z15;unfold acK zlO at z16;unfold acL zlO at z17;unfold acM zlO at z18;unfold acN zlO at z19;dsimp only at z1 z2 z3 z4 z5 z6 z7 z8 z9 z10 z11 z12 z13 z14 z15 z16 z17 z18 z19;(conv=>lhs;reduce;(try simp only[↓z1,↓z2,↓z3,↓z4,↓z5,↓z6,↓z7,↓z8,↓z9,↓z10,↓z11,↓z12,↓z13,↓z14,↓z15,↓z16,↓z17,↓z18,↓z19]))):ab:=c
end
theorem bd{p q:Prop}(hq:q)(h:Hid q->p:=by(intro hq;dsimp only[nfO,Int.reduceOfNat,Int.reduceNegSucc,wA,wB,wC,wD,wE,wF,wG,wH,wI,wJ,wK,wL,wM,wN,wO,wP,wQ,wR,wS,wT,wU,wV,wW,wX,wY,wZ,om,oo,on,omg,og,ong,ci,cu,cb,cf,fA,lA,lF,bI,bC,sO,eX,lN,iX,kA,kB,kC,sR,cN];exact hq.out)):p:=h ⟨hq⟩
theorem inT{i n:Nat}(h:i<n):decide ((i:Int)<((n:Nat):Int))=true:=decide_eq_true (by omega)
theorem inF(n:Nat):decide (((n:Nat):Int)<((n:Nat):Int))=false:=decide_eq_false (by omega)
theorem dM{p q:Prop}(hq:q)(h:Hid q->p:=by(intro hq;(try simp only[db,cV,List.set_cons_zero,List.set_cons_succ]);exact hq.out)):p:=h ⟨hq⟩
theorem puA{p:Prop}(h:p:=by simp[PuL,Pu,fG,bj,pd,dS,jY,fF,xQ,gz,nf,ng,gA,pD,jW,rV,am.pul,aX.pul,aW.pul,aH.pul,eR.pul,eZ.pul,cU.pul,VOp.pul,mK,mI,iD,mJ,fh,mH,jZ,oB,gj,lp]):p:=h
theorem af{fr:Fr}{σ:St}{rs:List gO}{r:AV}{l:List AV}(hl:dQ fr σ rs=some l:=by first|rfl|exact evd)(hv:fz σ (List.range σ.length) (gm l)=r:=by exact evd):
 ∃l,dQ fr σ rs=some l/\(fz σ (List.range σ.length) (gm l)=r\/∃r0,fz σ (List.range σ.length) (gm l)=r0/\Pu r0/\Wk r0 r):=⟨l,hl,.inl hv⟩
section
variable{P:Program}{nt k:Nat}{fr:Fr}{σ:St}{c:Opd}{x y:ab}{Q:Ex->Fr->St->Prop}{q:Prop}
theorem abX(hq:q)(hb:c.ev fr=.bool true:=by exact evd)(h:Hid q->Tri P nt k x Q fr σ:=by(intro hq;(try refine bU ?_);exact hq.out)):Tri P nt k (.cond c x y) Q fr σ:=aF (h ⟨hq⟩) hb
theorem abW(hq:q)(hb:c.ev fr=.bool false:=by exact evd)(h:Hid q->Tri P nt k y Q fr σ:=by(intro hq;(try refine bU ?_);exact hq.out)):Tri P nt k (.cond c x y) Q fr σ:=aB (h ⟨hq⟩) hb
theorem acT{f:FuncId}{args caps:List AV}{r:AV}{K:AV->St->Prop}(h:PC P f (args++caps) r)(hq:q)(hk:Hid q->K r σ:=by(intro hq;(try refine bU ?_);exact hq.out)):jd P (.fn (.func f) caps) args σ K:=ai h (hk ⟨hq⟩)
theorem adk{nv:Nat}{vs vs2:List AV}{ts:List (Nat×AV)}{σ2:St}(zs js:List Nat)(hk:k<=js.length:=by simp)(hfix:js.take k=List.range k:=by rfl)(hnd:js.Nodup:=by simp)(hlt:∀j∈js,j<σ.length:=by simp)(ho:iY σ zs (rn js σ.length) js σ2:=by exact evd)
 (hs:jv σ zs (rn js σ.length) vs vs2:=by exact evd):GC k ⟨nv,vs,ts⟩ σ ⟨nv,vs2,[]⟩ σ2:=GC.mk' zs js hk hfix hnd hlt ho hs
theorem adb{rs:List gO}{r:AV}{σ':St}{l:List AV}{e:Ex}(zs js:List Nat)(he:∀i,e≠.exit i:=by simp)(hl:dQ fr σ rs=some l:=by first|rfl|exact evd)(hk:k<=js.length:=by simp)(hfix:js.take k=List.range k:=by rfl)(hnd:js.Nodup:=by simp)(hlt:∀j∈js,j<σ.length:=by simp)(ho:iY σ zs (rn js σ.length) js σ':=by exact evd)
 (hr:fz σ zs (gm l)=ren (rn js σ.length) r:=by exact evd):Ni rs k σ' r e fr σ:=cw zs js e he hl hk hfix hnd hlt ho hr
end
open Go Go.RowKit
def aL{α:Type}(f:Nat->α->α)(a:α):Nat->α
 |0=>a
 |n+1=>f n (aL f a n)
theorem Ss{α:Type}(f:Nat->α->α)(a:α):aL f a 0=a:=rfl
theorem X3(k:IntKind):ax k []=[]:=rfl
attribute [go_sem] Ss X3
theorem bH{α:Type}(f:Nat->α->α)(a:α)(n:Nat):aL f a (n+1)=f n (aL f a n):=rfl
theorem fE{α:Type}{f:Nat->α->α}{a:α}(I:Nat->α->Prop)(h0:I 0 a)(n:Nat)(hs:∀i x,i<n->I i x->I (i+1) (f i x)):∀i,i<=n->I i (aL f a i)
 |0,_=>h0
 |i+1,hi=>hs i _ (by omega) (fE I h0 n hs i (by omega))
theorem qU{α:Type}{f g:Nat->α->α}{a:α}:∀ {n:Nat},(∀i x,i<n->f i x=g i x)->aL f a n=aL g a n
 |0,_=>rfl
 |n+1,h=>by rw[bH,bH,qU fun i x hi=>h i x (by omega),h n _ (by omega)]
theorem mb{β:Type}{f:Nat->List β->List β}{a:List β}(h:∀i l,(f i l).length<=l.length+1):∀n,(aL f a n).length<=a.length+n
 |0=>Nat.le_refl _
 |n+1=>by rw[bH];have:=h n (aL f a n);have:=mb h (a:=a) n;omega
def fw(p:Nat->Bool):Nat->Nat->Option Nat
 |0,_=>none
 |f+1,i=>if p i=true then some i else fw p f (i+1)
def cE(p:Nat->Bool)(n:Nat):Option Nat:=fw p n 0
theorem f9{p:Nat->Bool}{n i:Nat}(hi:i<n)(h:p i=true):fw p (n-i) i=some i:=by
 obtain⟨f,hf⟩:∃f,n-i=f+1:=⟨n-i-1,by omega⟩
 rw[hf];show (if p i=true then _ else _)=_;rw[if_pos h]
theorem fW{p:Nat->Bool}{n i:Nat}(hi:i<n)(h:p i=false):fw p (n-i) i=fw p (n-(i+1)) (i+1):=by
 obtain⟨f,hf⟩:∃f,n-i=f+1:=⟨n-i-1,by omega⟩
 rw[hf,show n-(i+1)=f by omega];show (if p i=true then _ else _)=_;rw[if_neg (by simp[h])]
theorem gQ(p:Nat->Bool)(n:Nat):fw p (n-n) n=none:=by rw[Nat.sub_self];rfl
theorem I2{p:Nat->Bool}:∀ {f i j:Nat},fw p f i=some j->i<=j/\j<i+f/\p j=true/\∀k,i<=k->k<j->p k=false
 |0,_,_,h=>by cases h
 | f + 1, i, j, h => by
   unfold fw at h;by_cases hp:p i=true
   ·rw[if_pos hp]at h;cases h;exact⟨Nat.le_refl _,by omega,hp,fun k h1 h2=>by omega⟩
   ·rw[if_neg hp]at h;obtain⟨h1,h2,h3,h4⟩:=I2 h;refine⟨by omega,by omega,h3,fun k k1 k2=>?_⟩;by_cases hk:k=i
    ·subst hk;simpa using hp
    ·exact h4 k (by omega) k2
theorem I1{p:Nat->Bool}:∀ {f i:Nat},fw p f i=none->∀k,i<=k->k<i+f->p k=false
 |0,_,_,k,h1,h2=>by omega
 | f + 1, i, h, k, h1, h2 => by
   unfold fw at h;by_cases hp:p i=true
   ·rw[if_pos hp]at h;cases h
   ·rw[if_neg hp]at h;by_cases hk:k=i
    ·subst hk;simpa using hp
    ·exact I1 h k (by omega) (by omega)
theorem dY{p:Nat->Bool}{n j:Nat}(h:cE p n=some j):j<n/\p j=true/\∀k,k<j->p k=false:=by
 obtain⟨h1,h2,h3,h4⟩:=I2 h;exact⟨by omega,h3,fun k hk=>h4 k (Nat.zero_le _) hk⟩
theorem gI{p:Nat->Bool}{n:Nat}(h:cE p n=none):∀k,k<n->p k=false:=fun k hk=>I1 h k (Nat.zero_le _) (by omega)
def HN(p:Nat->Bool):Nat->Option Nat
 |0=>none
 |n+1=>if p n=true then some n else HN p n
theorem abE(p:Nat->Bool):HN p 0=none:=rfl
theorem abD{p:Nat->Bool}{n:Nat}(h:p n=true):HN p (n+1)=some n:=by unfold HN;rw[if_pos h]
theorem abC{p:Nat->Bool}{n:Nat}(h:p n=false):HN p (n+1)=HN p n:=by rw[HN,if_neg (by simp[h])]
def rP(o:Option Nat):Int:=match o with
 |some i=>(i:Int)
 |none=>-1
theorem gc(i:Nat):rP (some i)=(i:Int):=rfl
theorem jO:rP none=-1:=rfl
attribute [go_sem] gc jO
theorem ap{p q A0:Prop}(a0:A0)(hq:q)(h:A0->Hid q->p:=by(intro a0 hq;(repeat(first|refine bU ?_|simp only[go_sem,a0]));exact hq.out)):p:=h a0 ⟨hq⟩
theorem aO{p q A0 A1:Prop}(a0:A0)(a1:A1)(hq:q)(h:A0->A1->Hid q->p:=by(intro a0 a1 hq;(repeat(first|refine bU ?_|simp only[go_sem,a0,a1]));exact hq.out)):p:=h a0 a1 ⟨hq⟩
theorem cZ{p q A0 A1 A2:Prop}(a0:A0)(a1:A1)(a2:A2)(hq:q)(h:A0->A1->A2->Hid q->p:=by(intro a0 a1 a2 hq;(repeat(first|refine bU ?_|simp only[go_sem,a0,a1,a2]));exact hq.out)):p:=h a0 a1 a2 ⟨hq⟩
theorem eW{p q A0 A1 A2 A3:Prop}(a0:A0)(a1:A1)(a2:A2)(a3:A3)(hq:q)(h:A0->A1->A2->A3->Hid q->p:=by(intro a0 a1 a2 a3 hq;(repeat(first|refine bU ?_|simp only[go_sem,a0,a1,a2,a3]));exact hq.out)):p:=h a0 a1 a2 a3 ⟨hq⟩
theorem eO{p q A0 A1 A2 A3 A4:Prop}(a0:A0)(a1:A1)(a2:A2)(a3:A3)(a4:A4)(hq:q)(h:A0->A1->A2->A3->A4->Hid q->p:=by(intro a0 a1 a2 a3 a4 hq;(repeat(first|refine bU ?_|simp only[go_sem,a0,a1,a2,a3,a4]));exact hq.out)):p:=h a0 a1 a2 a3 a4 ⟨hq⟩
theorem eI{p q A0 A1 A2 A3 A4 A5:Prop}(a0:A0)(a1:A1)(a2:A2)(a3:A3)(a4:A4)(a5:A5)(hq:q)(h:A0->A1->A2->A3->A4->A5->Hid q->p:=by(intro a0 a1 a2 a3 a4 a5 hq;(repeat(first|refine bU ?_|simp only[go_sem,a0,a1,a2,a3,a4,a5]));exact hq.out)):p:=h a0 a1 a2 a3 a4 a5 ⟨hq⟩
theorem jN{p q A0 A1 A2 A3 A4 A5 A6:Prop}(a0:A0)(a1:A1)(a2:A2)(a3:A3)(a4:A4)(a5:A5)(a6:A6)(hq:q)(h:A0->A1->A2->A3->A4->A5->A6->Hid q->p:=by(intro a0 a1 a2 a3 a4 a5 a6 hq;(repeat(first|refine bU ?_|simp only[go_sem,a0,a1,a2,a3,a4,a5,a6]));exact hq.out)):p:=h a0 a1 a2 a3 a4 a5 a6 ⟨hq⟩
theorem th{p q A0 A1 A2 A3 A4 A5 A6 A7:Prop}(a0:A0)(a1:A1)(a2:A2)(a3:A3)(a4:A4)(a5:A5)(a6:A6)(a7:A7)(hq:q)(h:A0->A1->A2->A3->A4->A5->A6->A7->Hid q->p:=by(intro a0 a1 a2 a3 a4 a5 a6 a7 hq;(repeat(first|refine bU ?_|simp only[go_sem,a0,a1,a2,a3,a4,a5,a6,a7]));exact hq.out)):p:=h a0 a1 a2 a3 a4 a5 a6 a7 ⟨hq⟩
theorem XF{p q A0 A1 A2 A3 A4 A5 A6 A7 A8:Prop}(a0:A0)(a1:A1)(a2:A2)(a3:A3)(a4:A4)(a5:A5)(a6:A6)(a7:A7)(a8:A8)(hq:q)(h:A0->A1->A2->A3->A4->A5->A6->A7->A8->Hid q->p:=by(intro a0 a1 a2 a3 a4 a5 a6 a7 a8 hq;(repeat(first|refine bU ?_|simp only[go_sem,a0,a1,a2,a3,a4,a5,a6,a7,a8]));exact hq.out)):p:=h a0 a1 a2 a3 a4 a5 a6 a7 a8 ⟨hq⟩
theorem gon{p q:Prop}(hq:q)(h:Hid q->p:=by(intro hq;(try refine bU ?_);exact hq.out)):p:=h ⟨hq⟩
theorem ak{p:Prop}[Decidable p](h:p):decide p=true:=decide_eq_true h
theorem au{p:Prop}[Decidable p](h:¬p):decide p=false:=decide_eq_false h
theorem nN{p A0:Prop}(a0:A0)(h:A0->p:=by(intro a0;(try simp only[go_sem,Nat.reduceAdd,Nat.reduceSub,Nat.reduceMul,Nat.reduceLT,Nat.reduceLeDiff,Nat.reduceEqDiff,reduceIte,Int.reduceToNat,Int.reduceLT,Int.reduceLE,Int.reduceEq,Int.reduceNeg,reduceCtorEq,Int.reduceBEq,Int.reduceBNe,a0]);all_goals rfl)):p:=h a0
theorem Xm{p A0 A1:Prop}(a0:A0)(a1:A1)(h:A0->A1->p:=by(intro a0 a1;(try simp only[go_sem,Nat.reduceAdd,Nat.reduceSub,Nat.reduceMul,Nat.reduceLT,Nat.reduceLeDiff,Nat.reduceEqDiff,reduceIte,Int.reduceToNat,Int.reduceLT,Int.reduceLE,Int.reduceEq,Int.reduceNeg,reduceCtorEq,Int.reduceBEq,Int.reduceBNe,a0,a1]);all_goals rfl)):p:=h a0 a1
theorem dk{p q:Prop}(hq:q)(h:Hid q->p:=by(intro hq;(try refine bU ?_);refine aB ?_;exact hq.out)):p:=h ⟨hq⟩
theorem bh{p q:Prop}(hq:q)(h:Hid q->p:=by(intro hq;(try refine bU ?_);refine aB ?_;(try refine bU ?_);exact hq.out)):p:=h ⟨hq⟩
theorem kO{p q:Prop}(hq:q)(h:Hid q->p:=by(intro hq;(try refine bU ?_);refine aF ?_;exact hq.out)):p:=h ⟨hq⟩
theorem aV{p q:Prop}(hq:q)(h:Hid q->p:=by(intro hq;(try refine bU ?_);refine aF ?_;(try refine bU ?_);exact hq.out)):p:=h ⟨hq⟩
theorem aQ{p q A0:Prop}(a0:A0)(hq:q)(h:A0->Hid q->p:=by(intro a0 hq;(repeat(first|refine bU ?_|simp only[go_sem,a0]));refine aB ?_;exact hq.out)):p:=h a0 ⟨hq⟩
theorem aD{p q A0:Prop}(a0:A0)(hq:q)(h:A0->Hid q->p:=by(intro a0 hq;(repeat(first|refine bU ?_|simp only[go_sem,a0]));refine aB ?_;(try refine bU ?_);exact hq.out)):p:=h a0 ⟨hq⟩
theorem bg{p q A0:Prop}(a0:A0)(hq:q)(h:A0->Hid q->p:=by(intro a0 hq;(repeat(first|refine bU ?_|simp only[go_sem,a0]));refine aF ?_;exact hq.out)):p:=h a0 ⟨hq⟩
theorem aE{p q A0:Prop}(a0:A0)(hq:q)(h:A0->Hid q->p:=by(intro a0 hq;(repeat(first|refine bU ?_|simp only[go_sem,a0]));refine aF ?_;(try refine bU ?_);exact hq.out)):p:=h a0 ⟨hq⟩
theorem dD{p q A0 A1:Prop}(a0:A0)(a1:A1)(hq:q)(h:A0->A1->Hid q->p:=by(intro a0 a1 hq;(repeat(first|refine bU ?_|simp only[go_sem,a0,a1]));refine aB ?_;exact hq.out)):p:=h a0 a1 ⟨hq⟩
theorem eC{p q A0 A1:Prop}(a0:A0)(a1:A1)(hq:q)(h:A0->A1->Hid q->p:=by(intro a0 a1 hq;(repeat(first|refine bU ?_|simp only[go_sem,a0,a1]));refine aB ?_;(try refine bU ?_);exact hq.out)):p:=h a0 a1 ⟨hq⟩
theorem im{p q A0 A1:Prop}(a0:A0)(a1:A1)(hq:q)(h:A0->A1->Hid q->p:=by(intro a0 a1 hq;(repeat(first|refine bU ?_|simp only[go_sem,a0,a1]));refine aF ?_;exact hq.out)):p:=h a0 a1 ⟨hq⟩
theorem cn{p q A0 A1:Prop}(a0:A0)(a1:A1)(hq:q)(h:A0->A1->Hid q->p:=by(intro a0 a1 hq;(repeat(first|refine bU ?_|simp only[go_sem,a0,a1]));refine aF ?_;(try refine bU ?_);exact hq.out)):p:=h a0 a1 ⟨hq⟩
theorem vW{p q A0 A1 A2:Prop}(a0:A0)(a1:A1)(a2:A2)(hq:q)(h:A0->A1->A2->Hid q->p:=by(intro a0 a1 a2 hq;(repeat(first|refine bU ?_|simp only[go_sem,a0,a1,a2]));refine aB ?_;exact hq.out)):p:=h a0 a1 a2 ⟨hq⟩
theorem xt{p q A0 A1 A2:Prop}(a0:A0)(a1:A1)(a2:A2)(hq:q)(h:A0->A1->A2->Hid q->p:=by(intro a0 a1 a2 hq;(repeat(first|refine bU ?_|simp only[go_sem,a0,a1,a2]));refine aB ?_;(try refine bU ?_);exact hq.out)):p:=h a0 a1 a2 ⟨hq⟩
theorem vX{p q A0 A1 A2:Prop}(a0:A0)(a1:A1)(a2:A2)(hq:q)(h:A0->A1->A2->Hid q->p:=by(intro a0 a1 a2 hq;(repeat(first|refine bU ?_|simp only[go_sem,a0,a1,a2]));refine aF ?_;exact hq.out)):p:=h a0 a1 a2 ⟨hq⟩
theorem fK{p q A0 A1 A2:Prop}(a0:A0)(a1:A1)(a2:A2)(hq:q)(h:A0->A1->A2->Hid q->p:=by(intro a0 a1 a2 hq;(repeat(first|refine bU ?_|simp only[go_sem,a0,a1,a2]));refine aF ?_;(try refine bU ?_);exact hq.out)):p:=h a0 a1 a2 ⟨hq⟩
theorem BS{p q A0 A1 A2 A3:Prop}(a0:A0)(a1:A1)(a2:A2)(a3:A3)(hq:q)(h:A0->A1->A2->A3->Hid q->p:=by(intro a0 a1 a2 a3 hq;(repeat(first|refine bU ?_|simp only[go_sem,a0,a1,a2,a3]));refine aB ?_;exact hq.out)):p:=h a0 a1 a2 a3 ⟨hq⟩
theorem LV{p q A0 A1 A2 A3:Prop}(a0:A0)(a1:A1)(a2:A2)(a3:A3)(hq:q)(h:A0->A1->A2->A3->Hid q->p:=by(intro a0 a1 a2 a3 hq;(repeat(first|refine bU ?_|simp only[go_sem,a0,a1,a2,a3]));refine aB ?_;(try refine bU ?_);exact hq.out)):p:=h a0 a1 a2 a3 ⟨hq⟩
theorem I4{p q A0 A1 A2 A3:Prop}(a0:A0)(a1:A1)(a2:A2)(a3:A3)(hq:q)(h:A0->A1->A2->A3->Hid q->p:=by(intro a0 a1 a2 a3 hq;(repeat(first|refine bU ?_|simp only[go_sem,a0,a1,a2,a3]));refine aF ?_;exact hq.out)):p:=h a0 a1 a2 a3 ⟨hq⟩
theorem qM{p q A0 A1 A2 A3:Prop}(a0:A0)(a1:A1)(a2:A2)(a3:A3)(hq:q)(h:A0->A1->A2->A3->Hid q->p:=by(intro a0 a1 a2 a3 hq;(repeat(first|refine bU ?_|simp only[go_sem,a0,a1,a2,a3]));refine aF ?_;(try refine bU ?_);exact hq.out)):p:=h a0 a1 a2 a3 ⟨hq⟩
end Go.FH
namespace Go.FH
open Go Go.RowKit
section
variable{P:Program}
theorem aI.forget{f:FuncId}{args:List AV}{r r2:AV}{σ σ' σ2:St}{zs js:List Nat}(h:aI P f args σ r σ')(hf:nc σ.length σ' zs js σ2)(hr2:fz σ' zs r=ren (rn js σ'.length) r2):aI P f args σ r2 σ2:=by
 have hlen:σ.length<=σ2.length:=by
  rw[hf.len];rcases Nat.lt_or_ge js.length σ.length with h1|h1
  ·have:=hf.fix js.length h1;rw[List.getElem?_eq_none (Nat.le_refl _)]at this;cases this
  ·exact h1
 refine⟨h.1,hlen,fun X loc w vs hr hv=>(h.2.2 X loc w vs hr hv).mono ?_⟩;rintro e w' ⟨v,loc',rfl,ho,hk⟩;obtain⟨loc2,g1,g2,g3,g4⟩:=hf.rel ho.rel
 have hid:∀id,id<σ.length->loc2 id=loc' id:=by
  intro id hid;rw[g1];congr 1;have:=hf.fix id hid;simp[rn,List.getD,this]
 refine⟨v,loc2,rfl,⟨fun id L hL=>?_,g2,g4 _ _ ho.val _ hr2,ho.ev,fun b hb=>ho.old b (g3 b hb)⟩,fun id h2=>(hid id h2).trans (hk id h2)⟩;rcases Nat.lt_or_ge id σ.length with h2|h2
 ·rw[hid id h2];exact ho.locs id L hL
 ·rw[hr.beyond id h2]at hL;cases hL
theorem aI.pc{f:FuncId}{args:List AV}{r r2:AV}{σ':St}(h:aI P f args [] r σ')(pa:PuL args)(pr:Pu r2)(hr2:fz σ' (List.range σ'.length) r=r2:=by exact evd):PC P f args r2:=
 ⟨h.forget (nQ σ' (List.range σ'.length)) (by rw[hr2,pr.ren]),pa,pr⟩
end
end Go.FH
namespace Go.FH
open Go Go.RowKit
def Ci(a b:Int):Int×Int:=if IntKind.u64.wrap (18446744073709551615-b)<a then (0,4)else (IntKind.u64.wrap (a+b),0)
def CV(a b:Int):Int×Int:=if b≠0/\IntKind.u64.wrap (Int.tdiv 18446744073709551615 b)<a then (0,4)else (IntKind.u64.wrap (a*b),0)
def jr(l:List Int):Nat->Int×Int
 |0=>(0,0)
 |i+1=>let p:=jr l i;if p.2≠0 then p else Ci p.1 (l.getD i 0)
def xK(l:List Int):Int×Int:=jr l l.length
def mO(n:Int):Bool:=decide (1<=n)&&decide (n<=64)
def bD(e per:Int):Int×Int:=if mO per=true then CV e per else (0,3)
def oM(a b:Rt):Nat->Nat->Int
 |0,_=>0
 |f+1,i=>if a.1.getD i 0<b.1.getD i 0 then -1 else if b.1.getD i 0<a.1.getD i 0 then 1 else oM a b f (i+1)
def rI(a b:Rt):Int:=oM a b 32 0
def BL(a b:Wd):Nat->Int
 |0=>0
 |f+1=>if a.1.getD f 0<b.1.getD f 0 then -1 else if b.1.getD f 0<a.1.getD f 0 then 1 else BL a b f
def G6(a b:Wd):Int:=BL a b 4
def fJ(t:aH)(n:Int):Int:=if (t.bals.length:Int)≠n then 2 else if (xK t.bals).2≠0\/4611686018427387904<(xK t.bals).1 then 4 else 0
def gh(a b:Cp):Int:=if a.ep≠b.ep then (if a.ep<b.ep then -1 else 1)else rI a.rt b.rt
def tab(l:List aH)(i:Nat):aH:=l.getD i default
def cS(l:List aH)(c:Cp):Int:=rP (cE (fun i=>decide ((tab l i).cp=c)) l.length)
def gR(l:List aH)(c:Cp):Nat->Nat->Nat
 |0,i=>i
 |f+1,i=>if gh (tab l i).cp c<0 then gR l c f (i+1)else i
def mg(l:List aH)(t:aH):List aH:=let k:=gR l t.cp l.length 0;l.take k++[t]++l.drop k
def gu(l:List aH)(t:aH)(n limit:Int):List aH×Int:=
 if fJ t n≠0 then (l,fJ t n)else if 0<=cS l t.cp then (l,9)else if limit<=l.length then (l,11)else (mg l t,0)
def eM(l:List aH)(e:Int):List aH:=aL (fun i o=>if e<=(tab l i).cp.ep then o++[tab l i]else o) [] l.length
def vot(l:List Vot)(i:Nat):Vot:=l.getD i fg
def mD(ep:Int)(root:Rt)(l:List Int):Nat->List Vot×Int->List Vot×Int:=fun i p=>
 if (vot p.1 (l.getD i 0).toNat).has=false\/(vot p.1 (l.getD i 0).toNat).ep<ep then (p.1.set (l.getD i 0).toNat ⟨true,ep,root⟩,IntKind.i64.wrap (p.2+1))else p
def BI(v:List Vot)(ep:Int)(root:Rt)(l:List Int):List Vot×Int:=aL (mD ep root l) (v,0) l.length
def o8(latest:List Vot)(eqv bals:List Int)(roots:List Rt):Int:=
 aL (fun i n=>if (vot latest i).has=true/\(i:Int)∉eqv/\(vot latest i).root∈roots then IntKind.u64.wrap (n+bals.getD i 0)else n) 0 (min bals.length latest.length)
def nod(t:List Nod)(i:Nat):Nod:=t.getD i jm
def isN(t:List Nod)(i:Int):Bool:=decide (0<=i)&&decide (i<t.length)
def aj(t:List Nod)(r:Rt):Int:=rP (cE (fun i=>decide ((nod t i).blk.root=r)) t.length)
def eP(t:List Nod)(b:Blk)(status:Int):List Nod×Int:=
 if ¬ (0<=status/\status<=2)then ([],2)else if 0<=aj t b.root then ([],9)else if aj t b.parent<0 then ([],10)
 else if b.slot<=(nod t (aj t b.parent).toNat).blk.slot then ([],14)else if 4096<=t.length then ([],11)else (t++[⟨b,aj t b.parent,status⟩],0)
def kP(t:List Nod)(i:Int):List Int:=if isN t i=true then aL (fun k l=>if (nod t k).up=i then l++[(k:Int)]else l) [] t.length else []
def vZ(t:List Nod):Nat->Int->List Int
 |0,_=>[]
 |f+1,i=>if isN t i=true then (if i=0 then [0]else vZ t f (nod t i.toNat).up++[i])else []
def eL(t:List Nod):Prop:=∀i,0<i->i<t.length->0<=(nod t i).up/\(nod t i).up<i
theorem OQ{t:List Nod}(ht:eL t):∀ (n i f g:Nat),i<n->i<f->i<g->vZ t f i=vZ t g i
 |0,_,_,_,h,_,_=>by omega
 | n + 1, i, f + 1, g + 1, hn, hf, hg => by
   unfold vZ;by_cases hi:isN t (i:Int)=true
   ·rw[if_pos hi,if_pos hi]
    by_cases h0:(i:Int)=0
    ·rw[if_pos h0,if_pos h0]
    ·rw[if_neg h0,if_neg h0];simp[isN]at hi;obtain⟨u0,u1⟩:=ht i (by omega) hi;obtain⟨u,hu⟩:∃u:Nat,(nod t i).up=u:=⟨_,(Int.toNat_of_nonneg u0).symm⟩
     simp only[Int.toNat_natCast];rw[hu,OQ ht n u f g (by omega) (by omega) (by omega)]
   ·rw[if_neg hi,if_neg hi]
def bW(t:List Nod)(i:Int):List Int:=vZ t (t.length+1) i
theorem iI{t:List Nod}(h:0<t.length):bW t 0=[0]:=by
 unfold bW vZ;rw[if_pos (by simp[isN,h]),if_pos rfl]
theorem iJ{t:List Nod}(ht:eL t){i:Nat}(h0:0<i)(hi:i<t.length):bW t i=bW t (nod t i).up++[(i:Int)]:=by
 obtain⟨u0,u1⟩:=ht i h0 hi;obtain⟨u,hu⟩:∃u:Nat,(nod t i).up=u:=⟨_,(Int.toNat_of_nonneg u0).symm⟩
 have:=OQ ht (i+1) u t.length (t.length+1) (by omega) (by omega) (by omega);unfold bW;rw[hu,<-this];show (if isN t (i:Int)=true then _ else _)=_
 rw[if_pos (by simp[isN,hi]),if_neg (by omega),Int.toNat_natCast,hu]
theorem lq{t:List Nod}{i:Int}(h:isN t i=false):bW t i=[]:=by
 unfold bW vZ;rw[if_neg (by simp[h])]
theorem m7{t:List Nod}(ht:eL t):∀ (n i:Nat),i<n->(bW t i).length<=i+1
 |0,_,h=>by omega
 | n + 1, i, h => by
   by_cases hi:i<t.length
   ·by_cases h0:i=0
    ·subst h0;rw[show ((0:Nat):Int)=0 from rfl,iI hi];simp
    ·obtain⟨u0,u1⟩:=ht i (by omega) hi;obtain⟨u,hu⟩:∃u:Nat,(nod t i).up=u:=⟨_,(Int.toNat_of_nonneg u0).symm⟩
     rw[iJ ht (by omega) hi,hu];have:=m7 ht n u (by omega);simp;omega
   ·rw[lq (by simp[isN];omega)];simp
theorem Jx{t:List Nod}(ht:eL t):∀ (n i:Nat),i<n->∀x∈bW t i,0<=x/\x<=i/\x<t.length
 |0,_,h,_,_=>by omega
 | n + 1, i, h, x, hx => by
   by_cases hi:i<t.length
   ·by_cases h0:i=0
    ·subst h0;rw[show ((0:Nat):Int)=0 from rfl,iI hi]at hx;simp at hx;omega
    ·obtain⟨u0,u1⟩:=ht i (by omega) hi;obtain⟨u,hu⟩:∃u:Nat,(nod t i).up=u:=⟨_,(Int.toNat_of_nonneg u0).symm⟩
     rw[iJ ht (by omega) hi,hu,List.mem_append,List.mem_singleton]at hx;rcases hx with hx|hx
     ·have:=Jx ht n u (by omega) x hx;omega
     ·omega
   ·rw[lq (by simp[isN];omega)]at hx;simp at hx
theorem fD{t:List Nod}(ht:eL t){i x:Int}(hx:x∈bW t i):0<=x/\x<=i/\x<t.length:=by
 by_cases h0:0<=i
 ·obtain⟨u,rfl⟩:∃u:Nat,i=u:=⟨_,(Int.toNat_of_nonneg h0).symm⟩
  exact Jx ht (u+1) u (by omega) x hx
 ·rw[lq (by simp[isN];omega)]at hx;simp at hx
theorem nX{t:List Nod}(ht:eL t)(i:Int):(bW t i).length<=t.length:=by
 by_cases h0:isN t i=true
 ·have h1:=h0;simp[isN]at h1;obtain⟨u,rfl⟩:∃u:Nat,i=u:=⟨_,(Int.toNat_of_nonneg h1.1).symm⟩
  have:=m7 ht (u+1) u (by omega);omega
 ·rw[lq (by simpa using h0)];simp
def dv(t:List Nod)(a b:Int):Bool:=decide (a∈bW t b)
def atT(t:List Nod)(i slot:Int):Int:=aL (fun k at_=>if (nod t ((bW t i).getD k 0).toNat).blk.slot<=slot then (bW t i).getD k 0 else at_) (-1) (bW t i).length
def ij(t:List Nod)(i:Int):List Int:=aL (fun k l=>if dv t i k=true then l++[(k:Int)]else l) [] t.length
def eV(t:List Nod)(latest:List Vot)(eqv bals:List Int):List Int:=
 aL (fun i l=>l++[if (nod t i).status≠2 then o8 latest eqv bals [(nod t i).blk.root]else 0]) [] t.length
def acA(t:List Nod)(direct:List Int):List Int:=
 aL (fun i l=>l++[aL (fun k n=>IntKind.u64.wrap (n+direct.getD ((ij t i).getD k 0).toNat 0)) 0 (ij t i).length]) [] t.length
def xS(spe boost total:Int):Int×Int:=
 if spe<1\/64<spe\/100<boost\/4611686018427387904<total then (0,3)
 else (IntKind.u64.wrap (IntKind.u64.wrap (IntKind.u64.wrap (Int.tdiv (IntKind.u64.wrap (Int.tdiv total spe)) 100)*boost)+IntKind.u64.wrap (Int.tdiv (IntKind.u64.wrap (Int.tmod (IntKind.u64.wrap (Int.tdiv total spe)) 100*boost)) 100)),0)
def pH(t:List Nod)(direct:List Int)(root:Rt)(amount:Int):List Int:=
 if 0<=aj t root/\(nod t (aj t root).toNat).status≠2/\root≠rt0 then direct.set (aj t root).toNat (IntKind.u64.wrap (direct.getD (aj t root).toNat 0+amount))else direct
def cX(t:List Nod)(i:Int)(k:Nat)(p:List Nod×List Int):List Nod×List Int:=
 if dv t i k=true then (p.1++[⟨(nod t k).blk,if (k:Int)=i then -1 else p.2.getD (nod t k).up.toNat 0,(nod t k).status⟩],p.2++[(p.1.length:Int)])else (p.1,p.2++[-1])
def dL(t:List Nod)(i:Int):List Nod×List Int:=aL (cX t i) ([],[]) t.length
def tS(l:List Int)(status forbidden:Int)(k:Nat)(o:Option (List Nod)):Option (List Nod):=o.bind fun u=>if (nod u (l.getD k 0).toNat).status=forbidden then none else some (u.set (l.getD k 0).toNat { nod u (l.getD k 0).toNat with status:=status })
def zn(t:List Nod)(l:List Int)(status forbidden:Int):Option (List Nod):=aL (tS l status forbidden) (some t) l.length
theorem JS{l:List Int}{status forbidden:Int}{o:Option (List Nod)}{k:Nat}(h:aL (tS l status forbidden) o k=none):∀n,k<=n->aL (tS l status forbidden) o n=none
 |0,hn=>by rw[show 0=k by omega];exact h
 | n + 1, hn => by
   by_cases he:k=n+1
   ·rw[<-he];exact h
   ·rw[bH,JS h n (by omega)];rfl
theorem l8{t:List Nod}{l:List Int}{status forbidden:Int}:∀ {k:Nat} {u:List Nod},aL (tS l status forbidden) (some t) k=some u->u.length=t.length
 |0,u,h=>by cases h;rfl
 | k + 1, u, h => by
   rw[bH]at h;cases h2:aL (tS l status forbidden) (some t) k with
   |none=>rw[h2]at h;cases h
   | some v =>
     rw[h2]at h;simp only[tS,Option.bind_some]at h;split at h
     ·cases h
     ·cases h;rw[List.length_set,l8 h2]
def dV(t:List Nod)(i:Int):List Nod×Int:=if isN t i=true then (match zn t (bW t i) 1 2 with|some u=>(u,0)|none=>([],21))else ([],10)
def kh(t:List Nod)(i:Int):List Nod×Int:=if isN t i=true then (match zn t (ij t i) 2 1 with|some u=>(u,0)|none=>([],21))else ([],10)
theorem S0{u:List Nod}{j i:Nat}{n:Nod}:nod (u.set j n) i=if j=i/\i<u.length then n else nod u i:=by
 unfold nod;simp only[List.getD_eq_getElem?_getD,List.getElem?_set];by_cases h:j=i
 ·subst h;by_cases h2:j<u.length
  ·simp[h2]
  ·simp[h2]
 ·simp[h]
theorem zm{t:List Nod}{l:List Int}{status forbidden:Int}:∀ {k:Nat} {u:List Nod},aL (tS l status forbidden) (some t) k=some u->∀i,(nod u i).up=(nod t i).up/\(nod u i).blk=(nod t i).blk
 |0,u,h,i=>by cases h;exact⟨rfl,rfl⟩
 | k + 1, u, h, i => by
   rw[bH]at h;cases h2:aL (tS l status forbidden) (some t) k with
   |none=>rw[h2]at h;cases h
   | some v =>
     rw[h2]at h;simp only[tS,Option.bind_some]at h;have ih:=zm h2 i;split at h
     ·cases h
     ·cases h;rw[S0];split
      ·rename_i hq;rw[<-hq.1]at ih ⊢;exact ih
      ·exact ih
theorem eL.of_up{t u:List Nod}(ht:eL t)(hl:u.length=t.length)(hu:∀i,(nod u i).up=(nod t i).up):eL u:=fun i h1 h2=>by rw[hu i];exact ht i h1 (by omega)
theorem Vz{t:List Nod}(ht:eL t){i:Int}(h:(dV t i).2=0):eL (dV t i).1/\(dV t i).1.length=t.length/\∀k,(nod (dV t i).1 k).blk=(nod t k).blk:=by
 unfold dV at *;split at h
 ·rename_i h1;rw[if_pos h1];cases h2:zn t (bW t i) 1 2 with
  |none=>rw[h2]at h;simp at h
  |some u=>exact⟨ht.of_up (l8 h2) (fun i=>(zm h2 i).1),l8 h2,fun k=>(zm h2 k).2⟩
 ·simp at h
def gT(t:List Nod)(i:Int)(latest:Rt):Int×Int:=
 if (bW t i).length=0 then (-1,-1)
 else if latest=rt0 then (match cE (fun k=>decide ((nod t ((bW t i).getD k 0).toNat).blk.payload≠rt0)) (bW t i).length with
  |some k=>((nod t ((bW t i).getD k 0).toNat).up,(bW t i).getD k 0)
  |none=>(-1,i))
 else (match HN (fun k=>decide ((nod t ((bW t i).getD k 0).toNat).blk.payload=latest)) ((bW t i).length-1)with
  |some k=>((bW t i).getD k 0,(bW t i).getD (k+1) 0)
  |none=>(-1,i))
def iU(t:List Nod)(i:Int)(v:Vdt)(keep:List Int):List Nod×Int:=
 if isN t i=false then ([],10)else if v.kind=1 then dV t i else if v.kind=3\/v.kind=4 then (t,0)else if v.kind≠2 then ([],2)
 else if (cE (fun k=>dv t (gT t i v.latest).2 (keep.getD k 0)) keep.length).isSome=true then ([],21)
 else if 0<=(gT t i v.latest).1 then (if (dV t (gT t i v.latest).1).2≠0 then ([],(dV t (gT t i v.latest).1).2)else kh (dV t (gT t i v.latest).1).1 (gT t i v.latest).2)
 else kh t (gT t i v.latest).2
end Go.FH
namespace Go.FH
open Go Go.RowKit
def fC(s p:Int):Int×Int:=if mO p=true then (IntKind.u64.wrap (Int.tdiv s p),0)else (0,3)
theorem lj{n:Int}(h0:0<=n)(h1:n<18446744073709551616):IntKind.u64.wrap n=n:=aU h0 h1
def abF(a b:Int):Int×Int:=if a*b / 18446744073709551616=0 then (IntKind.u64.wrap (a*b),0)else (0,4)
theorem ZT{a b:Int}(ha:0<=a)(ha2:a<18446744073709551616)(hb:0<=b)(hb2:b<18446744073709551616):abF a b=CV a b:=by
 unfold abF CV;by_cases h0:b=0
 ·subst h0;simp
 ·have hb1:0<b:=by omega
  have hd:Int.tdiv 18446744073709551615 b=18446744073709551615 / b:=Int.tdiv_eq_ediv_of_nonneg (by decide);have hq0:0<=18446744073709551615 / b:=Int.ediv_nonneg (by decide) hb;have hq1:18446744073709551615 / b<=18446744073709551615:=Int.ediv_le_self _ (by decide);rw[hd,lj hq0 (by omega)];have hab:0<=a*b:=Int.mul_nonneg ha hb
  have key:(18446744073709551615 / b<a)↔18446744073709551615<a*b:=by
   rw[Int.ediv_lt_iff_lt_mul hb1]
  by_cases h:18446744073709551615 / b<a
  ·have h2:=key.1 h;rw[if_neg (by omega),if_pos ⟨h0,h⟩]
  ·have h2:¬18446744073709551615<a*b:=fun h3=>h (key.2 h3)
   rw[if_pos (by omega),if_neg (fun h3=>h h3.2)]
theorem abG{x0 x1 y0 y1:Int}(hx0:0<=x0)(hx0':x0<4294967296)(hx1:0<=x1)(hx1':x1<4294967296)(hy0:0<=y0)(hy0':y0<4294967296)(hy1:0<=y1)(hy1':y1<4294967296):
 (0<=x0*y0/\x0*y0<=18446744065119617025)/\(0<=x1*y0/\x1*y0<=18446744065119617025)/\(0<=x0*y1/\x0*y1<=18446744065119617025)/\(0<=x1*y1/\x1*y1<=18446744065119617025)/\
  (x1*4294967296+x0)*(y1*4294967296+y0)=x1*y1*18446744073709551616+(x1*y0+x0*y1)*4294967296+x0*y0:=by
 have b:∀ {u v:Int},0<=u->u<4294967296->0<=v->v<4294967296->0<=u*v/\u*v<=18446744065119617025:=by
  intro u v h1 h2 h3 h4;refine⟨Int.mul_nonneg h1 h3,?_⟩;have:=Int.mul_le_mul (show u<=4294967295 by omega) (show v<=4294967295 by omega) h3 (by decide);simpa using this
 refine⟨b hx0 hx0' hy0 hy0',b hx1 hx1' hy0 hy0',b hx0 hx0' hy1 hy1',b hx1 hx1' hy1 hy1',?_⟩;simp only[Int.add_mul,Int.mul_add]
 have e1:x1*4294967296*(y1*4294967296)=x1*y1*18446744073709551616:=by
  rw[Int.mul_comm y1,<-Int.mul_assoc,Int.mul_assoc x1 4294967296 4294967296,Int.mul_right_comm];rfl
 have e2:x1*4294967296*y0=x1*y0*4294967296:=Int.mul_right_comm _ _ _;have e3:x0*(y1*4294967296)=x0*y1*4294967296:=(Int.mul_assoc _ _ _).symm;rw[e1,e2,e3];omega
def W9(a b:Int):Int:=if a<b then -1 else if b<a then 1 else 0
def orI:List Int->Int
 | []=>0
 |x::r=>if x≠0 then x else orI r
theorem Z2(a b:Cp):orI [W9 a.ep b.ep,rI a.rt b.rt]=gh a b:=by
 unfold gh W9;by_cases h1:a.ep<b.ep
 ·simp[orI,h1];omega
 ·by_cases h2:b.ep<a.ep
  ·simp[orI,h1,h2];omega
  ·have:a.ep=b.ep:=by omega
   simp[orI,this];intro h;exact h.symm
theorem Zz(a b:Rt):G5 a.1 b.1=rI a b:=by
 have key:∀ (f i:Nat) (x y:List UInt8),x.length=i+f->y.length=i+f->G5 (x.drop i) (y.drop i)=(fun(x y:List UInt8)=>Nat.rec (motive:=fun _=>Nat->Int) (fun _=>0) (fun _ g i=>if x.getD i 0<y.getD i 0 then -1 else if y.getD i 0<x.getD i 0 then 1 else g (i+1)) f i) x y:=by
  intro f;induction f with
  | zero =>
    intro i x y hx hy;rw[List.drop_of_length_le (by omega),List.drop_of_length_le (by omega)];rfl
  | succ f ih =>
    intro i x y hx hy;rw[List.drop_eq_getElem_cons (show i<x.length by omega),List.drop_eq_getElem_cons (show i<y.length by omega)];have e1:x.getD i 0=x[i]'(by omega):=by simp[List.getD,show i<x.length by omega]
    have e2:y.getD i 0=y[i]'(by omega):=by simp[List.getD,show i<y.length by omega]
    simp only[G5,e1,e2];rw[ih (i+1) x y (by omega) (by omega)]
 have h:=key 32 0 a.1 b.1 a.2 b.2;simp only[List.drop_zero]at h;rw[h];unfold rI
 have:∀f i,(Nat.rec (motive:=fun _=>Nat->Int) (fun _=>0) (fun _ g i=>if a.1.getD i 0<b.1.getD i 0 then -1 else if b.1.getD i 0<a.1.getD i 0 then 1 else g (i+1)) f i:Int)=oM a b f i:=by
  intro f;induction f with
  |zero=>intro i;rfl
  |succ f ih=>intro i;simp only[oM,ih]
 exact this 32 0
def Dg:List Int->Int->Int×Bool
 | [],n=>(n,true)
 |x::r,n=>if IntKind.u64.wrap (4611686018427387904-n)<x then (0,false)else Dg r (IntKind.u64.wrap (n+x))
def kH:List Int->Int
 | []=>0
 |x::r=>x+kH r
theorem MY:∀ {l:List Int},(∀x∈l,0<=x/\x<18446744073709551616)->0<=kH l
 | [],_=>Int.le_refl 0
 | x :: r, h => by
   have:=h x (List.mem_cons_self ..);have:=MY (l:=r) fun y hy=>h y (List.mem_cons_of_mem _ hy)
   simp only[kH];omega
theorem MX:∀ {l:List Int} {n:Int},(∀x∈l,0<=x/\x<18446744073709551616)->0<=n->n<=4611686018427387904->(Dg l n).2=decide (n+kH l<=4611686018427387904)
 | [],n,_,h0,h1=>by simp[Dg,kH,h1]
 | x :: r, n, h, h0, h1 => by
   have hx:=h x (List.mem_cons_self ..);have hr:=fun y hy=>h y (List.mem_cons_of_mem x hy)
   have hn:=MY (l:=r) hr;simp only[Dg];rw[lj (n:=4611686018427387904-n) (by omega) (by omega)];by_cases hc:4611686018427387904-n<x
   ·rw[if_pos hc];exact(au (by simp only[kH];omega)).symm
   ·rw[if_neg hc,lj (by omega) (by omega),MX hr (by omega) (by omega)];exact decide_eq_decide.2 (by simp only[kH];constructor<;>intro<;>omega)
theorem Gm:∀ (l m:List Int),kH (l++m)=kH l+kH m
 | [],m=>by simp[kH]
 |x::l,m=>by simp only[List.cons_append,kH,Gm l m];omega
theorem TE{l:List Int}(h:∀x∈l,0<=x/\x<18446744073709551616):∀i,i<=l.length->(kH (l.take i)<18446744073709551616->jr l i=(kH (l.take i),0))/\(18446744073709551616<=kH (l.take i)->(jr l i).2≠0)
 |0,_=>⟨fun _=>by simp[jr,kH],fun h=>by simp[kH]at h⟩
 | i + 1, hi => by
   obtain⟨h1,h2⟩:=TE h i (by omega)
   have ht:l.take (i+1)=l.take i++[l.getD i 0]:=by
    rw[List.take_add_one,List.getD_eq_getElem?_getD,List.getElem?_eq_getElem (show i<l.length by omega)];rfl
   have hx:0<=l.getD i 0/\l.getD i 0<18446744073709551616:=by
    rw[List.getD_eq_getElem?_getD,List.getElem?_eq_getElem (show i<l.length by omega)];exact h _ (List.getElem_mem _)
   have hn:=MY (l:=l.take i) fun y hy=>h y (List.mem_of_mem_take hy)
   have hs:kH (l.take (i+1))=kH (l.take i)+l.getD i 0:=by rw[ht,Gm];simp[kH]
   rw[hs];simp only[jr];by_cases hc:kH (l.take i)<18446744073709551616
   ·rw[h1 hc]
    simp only[ne_eq,not_true_eq_false,if_false];unfold Ci;rw[lj (n:=18446744073709551615-l.getD i 0) (by omega) (by omega)];by_cases hov:18446744073709551615-l.getD i 0<kH (l.take i)
    ·rw[if_pos hov];exact⟨fun h=>by omega,fun _=>by decide⟩
    ·rw[if_neg hov,lj (by omega) (by omega)];exact⟨fun _=>rfl,fun h=>by omega⟩
   ·have h3:=h2 (by omega);rw[if_pos h3];exact⟨fun h=>by omega,fun _=>h3⟩
theorem Kb{l:List Int}(h:∀x∈l,0<=x/\x<18446744073709551616):((xK l).2≠0\/4611686018427387904<(xK l).1)↔(Dg l 0).2=false:=by
 rw[MX h (Int.le_refl 0) (by decide),Int.zero_add];have h1:=TE h l.length (Nat.le_refl _);rw[List.take_length]at h1;unfold xK;by_cases hc:kH l<18446744073709551616
 ·rw[h1.1 hc];simp
 ·have:=h1.2 (by omega);simp only[decide_eq_false_iff_not];exact⟨fun _=>by omega,fun _=>.inl this⟩
theorem VE(ρ:Nat->Nat):dF ρ []=[]:=rfl
theorem wl0:IntKind.i64.wrap ((0:Int)+1)=1:=by decide
theorem wl1:IntKind.i64.wrap ((1:Int)+1)=2:=by decide
theorem wl2:IntKind.i64.wrap ((2:Int)+1)=3:=by decide
theorem wl3:IntKind.i64.wrap ((3:Int)+1)=4:=by decide
theorem wl4:IntKind.i64.wrap ((4:Int)+1)=5:=by decide
theorem wl5:IntKind.i64.wrap ((5:Int)+1)=6:=by decide
theorem wl6:IntKind.i64.wrap ((6:Int)+1)=7:=by decide
theorem AB(k:IntKind)(ns:List Int)(x:Int):ax k ns++[[.int k x]]=ax k (ns++[x]):=by simp[ax]
attribute [go_sem] AB VE wl0 wl1 wl2 wl3 wl4 wl5 wl6
def Unr(P:Program)(nt k:Nat)(x:ab)(Q:Ex->Fr->St->Prop):Nat->Fr->St->Prop
 |0,_,_=>False
 |n+1,fr,σ=>Tri P nt k x (jt (Unr P nt k x Q n) Q) fr σ
@[congr] theorem ab2{P:Program}{nt k n:Nat}{c:ab}{Q:Ex->Fr->St->Prop}{fr fr':Fr}{σ σ':St}(h1:fr=fr')(h2:σ=σ'):Unr P nt k c Q n fr σ=Unr P nt k c Q n fr' σ':=by rw[h1,h2]
section
variable{P:Program}{nt k:Nat}{fr:Fr}{σ:St}
theorem Y7{x:ab}{Q:Ex->Fr->St->Prop}{n:Nat}(h:Tri P nt k x (jt (Unr P nt k x Q n) Q) fr σ):Unr P nt k x Q (n+1) fr σ:=h
theorem Sr{x:ab}{Q:Ex->Fr->St->Prop}(n:Nat)(h:Unr P nt k x Q n fr σ):Tri P nt k (.loop x) Q fr σ:=by
 refine Gq (fun m fr σ=>Unr P nt k x Q m fr σ) n h ?_;intro m fr1 σ1 h1;cases m with
 |zero=>exact h1.elim
 | succ m =>
   refine Tri.mono h1 fun e fr2 σ2 hq=>?_
   cases e with
   |normal=>exact⟨m,Nat.lt_succ_self m,hq⟩
   |exit _=>exact hq
   |ret=>exact hq
end
theorem FN{w:World}{b o:Nat}{vs:List Value}(hn:vs≠[])(h:∀j u,vs[j]?=some u->w.cell? ⟨b,o+j,none⟩=some u):range? w b o vs.length=some vs.toArray:=by
 unfold range?
 have h0:∃u,vs[0]?=some u:=by
  cases vs with
  |nil=>exact absurd rfl hn
  |cons u us=>exact⟨u,rfl⟩
 obtain⟨u0,hu0⟩:=h0;have hc0:=h 0 u0 hu0;unfold World.cell? at hc0;split at hc0
 ·rename_i c t f hb
  simp only at hb
  have key:∀j u,vs[j]?=some u->c[o+j]?=some u:=by
   intro j u hj;have:=h j u hj;unfold World.cell? at this;simp only[hb]at this;simpa using this
  rw[hb];simp only
  have hlen:o+vs.length<=c.size:=by
   have hlt:vs.length-1<vs.length:=by
    have:vs.length≠0:=fun hh=>hn (List.eq_nil_of_length_eq_zero hh)
    omega
   have:=key (vs.length-1) _ (List.getElem?_eq_getElem hlt);have:=(Array.getElem?_eq_some_iff.1 this).1;omega
  rw[if_pos hlen];congr 1;apply Array.ext
  ·simp;omega
  ·intro i h1 h2;have hi:i<vs.length:=by simpa using h2
   have:=key i _ (List.getElem?_eq_getElem hi);rw[Array.getElem?_eq_some_iff]at this;obtain⟨h3,h4⟩:=this;simp[h4]
 ·cases hc0
abbrev xM(w:World):Env:=⟨fun _=>none,fun _=>False,w⟩
theorem PC.top{P:Program}{f:FuncId}{args:List AV}{r:AV}(h:PC P f args r){w:World}{vs:List Value}(hv:RlS (xM w) args vs):
 Calls P f vs.toArray w fun e w'=>(∃v,e=.returned v/\Rl (xM w') r v)/\Below w.heap.size w w':=by
 have hF:∀w:World,aR (fun _=>False) (fun _=>none) [] w=xM w:=by
  intro w;unfold aR xM;congr 1;funext b
  apply propext
  constructor
  ·rintro (h|⟨id,o,L,h1,_⟩)
   ·exact h
   ·simp at h1
  ·exact fun h=>h.elim
 have hr:Rel (fun _=>False) (fun _=>none) [] w:=⟨fun id o h=>by simp at h,fun i j a b La Lb _ h=>by simp at h,fun b h=>h.elim,fun _ _=>rfl⟩;refine(h.call.2.2 _ _ w vs hr (by rw[hF];exact hv)).mono ?_;rintro e w' ⟨v,loc',rfl,ho,_⟩;refine⟨⟨v,rfl,?_⟩,ho.ev.below fun b _ hb=>?_⟩
 ·have hl:loc'=fun _=>none:=funext fun id=>ho.rel.beyond id (Nat.zero_le _)
  have:=ho.val;rw[hl,hF]at this;exact this
 ·obtain⟨id,o,L,h1,_⟩:=hb;simp at h1
theorem PC.law{P:Program}{f:FuncId}{args:List AV}(h:PC P f args (.bool true)){w:World}{vs:List Value}(hv:RlS (xM w) args vs):
 Calls P f vs.toArray w fun e w'=>e=.returned (.bool true)/\Below w.heap.size w w':=
 (h.top hv).mono fun e w' ⟨⟨v,h1,h2⟩,h3⟩=>⟨by rw[h1];exact congrArg Ending.returned h2,h3⟩
inductive Sh where
 |bool
 |int (k:IntKind)
 |arr (n:Nat) (s:Sh)
 |sl (s:Sh)
 |st (ss:List Sh)
mutual
def Sh.size:Sh->Nat
 |.bool=>1
 |.int _=>1
 |.sl _=>1
 |.arr n s=>n*s.size
 |.st ss=>Sh.sizes ss
def Sh.sizes:List Sh->Nat
 | []=>0
 |s::ss=>s.size+Sh.sizes ss
end
mutual
inductive Opn:Sh->List AV->Prop
 |bool (b:Bool):Opn .bool [.bool b]
 |int (k:IntKind) (n:Int) (h:(Lit.int k n).wf=true):Opn (.int k) [.int k n]
 |arr (n:Nat) (s:Sh) (xs:List (List AV)) (hl:xs.length=n) (h:∀x∈xs,Opn s x):Opn (.arr n s) xs.flatten
 |sl (s:Sh) (xs:List (List AV)) (hl:xs.length<=maxLen) (h:∀x∈xs,Opn s x):Opn (.sl s) [.sl s.size false xs]
 |st (ss:List Sh) (cs:List AV) (h:DD ss cs):Opn (.st ss) cs
inductive DD:List Sh->List AV->Prop
 |nil:DD [] []
 |cons (s:Sh) (ss:List Sh) (a b:List AV) (h:Opn s a) (hs:DD ss b):DD (s::ss) (a++b)
end
mutual
def Fa(P:Program):Sh->TypeId->Bool
 | .bool, t => match P.underlying t with
   |some .bool=>true
   |_=>false
 | .int k, t => match P.underlying t with
   |some (.int k')=>k==k'
   |_=>false
 | .arr n s, t => match P.underlying t with
   |some (.array m e)=>m==n&&P.cellsOf e==s.size&&P.cellsOf t==n*s.size&&Fa P s e
   |_=>false
 | .sl s, t => match P.underlying t with
   |some (.slice e)=>P.cellsOf e==s.size&&decide (0<s.size)&&Fa P s e
   |_=>false
 | .st ss, t => match P.underlying t with
   |some (.struct fs)=>P.cellsOf t==Sh.sizes ss&&I8 P ss fs.toList 0
   |_=>false
def I8(P:Program):List Sh->List Field->Nat->Bool
 | [],[],_=>true
 |s::ss,f::fs,o=>f.offset==o&&P.cellsOf f.type==s.size&&Fa P s f.type&&I8 P ss fs (o+s.size)
 |_,_,_=>false
end
section
variable{H:Type}{enc:TypeId×Value->H}{P:Program}{w:World}
theorem WP{s:Sh}{k:Nat}:∀ (n:Nat) (cs:List Value),cs.length=n*k->(∀i,i<n->∃avs,Opn s avs/\RlC (xM w) avs ((cs.drop (i*k)).take k))->
 ∃xs:List (List AV),xs.length=n/\(∀x∈xs,Opn s x)/\RlC (xM w) xs.flatten cs
 |0,cs,hl,_=>⟨[],rfl,by simp,by have:cs=[]:=List.eq_nil_of_length_eq_zero (by omega);subst this;rfl⟩
 | n + 1, cs, hl, h => by
   have hk:(n+1)*k=k+n*k:=by rw[Nat.succ_mul];omega
   obtain⟨a,ha,hr⟩:=h 0 (by omega)
   obtain⟨xs,h1,h2,h3⟩:=WP (s:=s) (k:=k) n (cs.drop k) (by rw[List.length_drop,hl,hk];omega) (fun i hi=>by
    obtain⟨b,hb,hr⟩:=h (i+1) (by omega);refine⟨b,hb,?_⟩;rw[List.drop_drop,show k+i*k=(i+1)*k by rw[Nat.succ_mul];omega];exact hr)
   refine⟨a::xs,by simp[h1],fun x hx=>?_,?_⟩
   ·rcases List.mem_cons.1 hx with rfl|hx
    ·exact ha
    ·exact h2 x hx
   ·have e:cs=cs.take k++cs.drop k:=(List.take_append_drop k cs).symm;rw[e];simp only[Nat.zero_mul,List.drop_zero]at hr;exact RlC.app hr h3
theorem aa5{s:Sh}{k:Nat}{b off:Nat}:∀ (n:Nat) (o:Nat),(∀i,i<n->∃avs us,Opn s avs/\RlC (xM w) avs us/\us.length=k/\∀j,j<k->w.cell? ⟨b,off+(o+i*k+j),none⟩=us[j]?)->
 ∃ (xs:List (List AV)) (vs:List Value),xs.length=n/\(∀x∈xs,Opn s x)/\vs.length=n*k/\RlE (xM w) k xs vs/\∀j,j<n*k->w.cell? ⟨b,off+(o+j),none⟩=vs[j]?
 |0,o,_=>⟨[],[],rfl,by simp,by simp,rfl,fun j hj=>by omega⟩
 | n + 1, o, h => by
   obtain⟨a,us,ha,hr,hl,hc⟩:=h 0 (by omega)
   obtain⟨xs,vs,h1,h2,h3,h4,h5⟩:=aa5 n (o+k) (fun i hi=>by
    obtain⟨a,us,ha,hr,hl,hc⟩:=h (i+1) (by omega);refine⟨a,us,ha,hr,hl,fun j hj=>?_⟩;have:=hc j hj;rwa [show off+(o+(i+1)*k+j)=off+(o+k+i*k+j)by rw[Nat.succ_mul];omega]at this)
   refine⟨a::xs,us++vs,by simp[h1],fun x hx=>?_,?_,⟨us,vs,rfl,hl,hr,h4⟩,fun j hj=>?_⟩
   ·rcases List.mem_cons.1 hx with rfl|hx
    ·exact ha
    ·exact h2 x hx
   ·rw[List.length_append,hl,h3,Nat.succ_mul];omega
   ·by_cases hjk:j<k
    ·have:=hc j hjk;rw[List.getElem?_append_left (by omega)];simpa using this
    ·have:=h5 (j-k) (by rw[Nat.succ_mul]at hj;omega);rw[List.getElem?_append_right (by omega),hl,<-this];congr 2;omega
mutual
theorem L3:∀ (s:Sh) (t:TypeId) (fuel:Nat) (cs:List Value) (x:DataW H×List MemPlace),Fa P s t=true->DataW.trod enc P w 0 (fun _=>true) true fuel t cs=some x->∃avs,Opn s avs/\RlC (xM w) avs cs
 | .bool, t, fuel, cs, x, hs, h => by
   unfold Fa at hs;split at hs<;>try cases hs
   rename_i ht;cases fuel with
   |zero=>simp[DataW.trod]at h
   | succ n =>
     unfold DataW.trod at h;rw[ht]at h;split at h<;>simp_all
     exact⟨_,.bool _,_,[],rfl,rfl,rfl,rfl⟩
 | .int k, t, fuel, cs, x, hs, h => by
   unfold Fa at hs;split at hs<;>try cases hs
   rename_i k' ht;obtain⟨n,rfl,_,hw⟩:=DataW.trod_int ht h;have:k=k':=by simpa using hs
   subst this;exact⟨_,.int _ _ hw,_,[],rfl,rfl,rfl,rfl⟩
 | .arr n s, t, fuel, cs, x, hs, h => by
   unfold Fa at hs;split at hs<;>try cases hs
   rename_i m e ht;simp only[Bool.and_eq_true,beq_iff_eq]at hs;obtain⟨⟨⟨rfl,hc⟩,hct⟩,hi⟩:=hs;obtain⟨xs,fl,rfl,rfl,hl,hx,he⟩:=DataW.trod_array ht h;rw[hct]at hl
   obtain⟨xs,h1,h2,h3⟩:=WP (s:=s) (w:=w) m cs hl (fun i hin=>by
    have h1:=he i hin;rw[hc,List.getElem?_eq_getElem (by omega)]at h1;exact L3 s e _ _ _ hi h1)
   exact⟨_,.arr _ _ _ h1 h2,h3⟩
 | .sl s, t, fuel, cs, x, hs, h => by
   unfold Fa at hs;split at hs<;>try cases hs
   rename_i e ht;simp only[Bool.and_eq_true,beq_iff_eq,decide_eq_true_eq]at hs;obtain⟨⟨hc,hp⟩,hi⟩:=hs;rcases DataW.trod_slice ht h with⟨rfl,_⟩|⟨a,len,cap,elems,rest,n,_,rfl,rfl,hb,hl,hm,hlen,hel,hsp,hns⟩
   ·exact⟨_,.sl s [] (by simp) (by simp),_,[],rfl,rfl,⟨none,0,0,rfl,rfl,Nat.le_refl _,by simp[maxLen],fun _=>rfl,fun _=>rfl,.inl rfl⟩,rfl⟩
   ·by_cases h0:len=0
    ·subst h0;exact⟨_,.sl s [] (by simp) (by simp),_,[],rfl,rfl,⟨some a,0,cap,rfl,rfl,hl,hm,(fun h=>Bool.noConfusion h),(fun h=>by cases h),.inl rfl⟩,rfl⟩
    have each:∀i,i<len->∃avs us,Opn s avs/\RlC (xM w) avs us/\us.length=s.size/\∀j,j<s.size->w.cell? ((a.add (i*s.size)).add j)=us[j]?:=by
     intro i hin;have h1:=hel i hin;rw[hc,List.getElem?_eq_getElem (by omega),Option.bind_eq_some_iff]at h1;obtain⟨us,h2,h3⟩:=h1;obtain⟨_,h5,h6⟩:=World.cells?_some h2;obtain⟨avs,h7,h8⟩:=L3 s e _ _ _ hi h3;exact⟨avs,us,h7,h8,h5,h6⟩
    obtain⟨b,off,spot⟩:=a;obtain⟨_,us,_,_,hul,hcc⟩:=each 0 (by omega);have hc0:=hcc 0 hp;rw[List.getElem?_eq_getElem (by omega)]at hc0;have hspot:spot=none:=by simpa[Addr.add]using World.cell?_spot hc0
    subst hspot
    obtain⟨xs,vs,h1,h2,h3,h4,h5⟩:=aa5 (s:=s) (w:=w) (k:=s.size) (b:=b) (off:=off) len 0 (fun i hin=>by
     obtain⟨avs,us,g1,g2,g3,g4⟩:=each i hin;refine⟨avs,us,g1,g2,g3,fun j hj=>?_⟩;rw[<-g4 j hj,WideShapes.add_plain,WideShapes.add_plain];congr 2;omega)
    have hne:vs≠[]:=by
     intro hh;subst hh;simp only[List.length_nil]at h3;have:=Nat.mul_pos (Nat.pos_of_ne_zero h0) hp;omega
    have hrange:=FN (w:=w) (b:=b) (o:=off) hne (fun j u hj=>by
     have hjl:=(List.getElem?_eq_some_iff.1 hj).1;rw[<-hj,<-h5 j (by omega)];congr 2;omega)
    rw[h3]at hrange
    have hblk:b<w.heap.size:=by
     rw[WideShapes.add_plain,WideShapes.add_plain]at hc0;exact World.block_lt_of_cell? w _ hc0
    exact⟨_,.sl s xs (by omega) h2,_,[],rfl,rfl,⟨_,len,cap,rfl,h1.symm,hl,hm,(fun h=>Bool.noConfusion h),(fun h=>by cases h),.inr ⟨b,off,vs,rfl,hblk,fun hf=>hf,hrange,h4⟩⟩,rfl⟩
 | .st ss, t, fuel, cs, x, hs, h => by
   unfold Fa at hs;split at hs<;>try cases hs
   rename_i fs ht;simp only[Bool.and_eq_true,beq_iff_eq]at hs;obtain⟨hc,hi⟩:=hs;obtain⟨xs,n,rfl,_,hl,hxs,he⟩:=DataW.trod_struct ht h
   obtain⟨avs,h1,h2⟩:=S9 ss fs.toList 0 cs hi (fun f hf=>by
    obtain⟨i,hi⟩:=List.getElem?_of_mem hf;have h1:=he i f (by simpa using hi);have hil:=(List.getElem?_eq_some_iff.1 hi).1;rw[Array.length_toList]at hil;rw[List.getElem?_eq_getElem (by omega)]at h1;exact⟨_,_,h1⟩) (by omega)
   exact⟨avs,.st _ _ h1,h2⟩
theorem S9:∀ (ss:List Sh) (fs:List Field) (o:Nat) (cs:List Value),I8 P ss fs o=true->
 (∀f∈fs,∃ (fuel:Nat) (x:DataW H×List MemPlace),DataW.trod enc P w 0 (fun _=>true) true fuel f.type ((cs.drop f.offset).take (P.cellsOf f.type))=some x)->cs.length=o+Sh.sizes ss->∃avs,DD ss avs/\RlC (xM w) avs (cs.drop o)
 | [],[],o,cs,_,_,hl=>⟨[],.nil,by rw[List.drop_of_length_le (by simp[Sh.sizes]at hl;omega)];rfl⟩
 | [],_::_,o,cs,hs,_,_=>by simp[I8]at hs
 |_::_,[],o,cs,hs,_,_=>by simp[I8]at hs
 | s :: ss, f :: fs, o, cs, hs, hf, hl => by
   simp only[I8,Bool.and_eq_true,beq_iff_eq]at hs;obtain⟨⟨⟨rfl,hc⟩,hi⟩,hr⟩:=hs;simp only[Sh.sizes]at hl;obtain⟨fuel,x,hx⟩:=hf f (by simp);obtain⟨a,ha,hra⟩:=L3 s f.type fuel _ x hi hx;obtain⟨b,hb,hrb⟩:=S9 ss fs (f.offset+s.size) cs hr (fun g hg=>hf g (by simp[hg])) (by omega);refine⟨a++b,.cons _ _ _ _ ha hb,?_⟩;have e:cs.drop f.offset=(cs.drop f.offset).take s.size++cs.drop (f.offset+s.size):=by rw[<-List.drop_drop,List.take_append_drop]
   rw[e];rw[hc]at hra;exact RlC.app hra hrb
end
theorem Ya{t e:TypeId}{v:Value}{d:DataW H}{p:List MemPlace}{r:Reach}{base:Nat}(s:Sh)(hs:Fa P (.sl s) t=true)(hv:Value.okWide P w r base t v)(hd:DataW.Trod enc P w 0 (fun _=>true) true t v d p)
 (ht:P.underlying t=some (.slice e)):∃xs,xs.length<=maxLen/\(∀x∈xs,Opn s x)/\Rl (xM w) (.sl s.size false xs) v:=by
 obtain⟨fuel,hf⟩:=hd;obtain⟨b,l,c,rfl⟩:=WideShapes.okWide_slice ht hv;obtain⟨avs,h1,h2⟩:=L3 _ t fuel _ _ hs hf;cases h1 with
 | sl s xs hl h =>
   obtain⟨u,us,h3,_,h4,h5⟩:=h2;simp only[Value.cells,List.cons.injEq]at h3;obtain⟨rfl,rfl⟩:=h3;exact⟨xs,hl,h,h4⟩
theorem kZ{t:TypeId}{v:Value}{d:DataW H}{p:List MemPlace}{r:Reach}{base:Nat}(k:IntKind)(ht:P.underlying t=some (.int k))(hv:Value.okWide P w r base t v)(hd:DataW.Trod enc P w 0 (fun _=>true) true t v d p):
 ∃n,(Lit.int k n).wf=true/\Rl (xM w) (.int k n) v:=by
 obtain⟨n,rfl,_,_,hw⟩:=ChangeShapes.open_int ht hv hd;exact⟨n,hw,rfl⟩
end
theorem Opn.ints{k:IntKind}:∀ {xs:List (List AV)},(∀x∈xs,Opn (.int k) x)->∃ns:List Int,xs=ax k ns/\∀n∈ns,(Lit.int k n).wf=true
 | [],_=>⟨[],rfl,by simp⟩
 | x :: xs, h => by
   obtain⟨ns,rfl,h2⟩:=Opn.ints (xs:=xs) (fun y hy=>h y (by simp[hy]));cases h x (by simp)with
   | int k n hw =>
     refine⟨n::ns,rfl,fun m hm=>?_⟩;rcases List.mem_cons.1 hm with rfl|hm
     ·exact hw
     ·exact h2 m hm
theorem S5:∀ {ns:List Int},(∀n∈ns,(Lit.int .u8 n).wf=true)->∃bs:List UInt8,ax .u8 ns=bts bs/\bs.length=ns.length
 | [],_=>⟨[],rfl,rfl⟩
 | n :: ns, h => by
   obtain⟨bs,h1,h2⟩:=S5 (ns:=ns) (fun m hm=>h m (by simp[hm]));have hb:=bounds_u8 (h n (by simp));refine⟨UInt8.ofNat n.toNat::bs,?_,by simp[h2]⟩;have e:((UInt8.ofNat n.toNat).toNat:Int)=n:=by rw[UInt8.toNat_ofNat'];omega
   rw[WX,e,<-h1];rfl
theorem Opn.rt{cs:List AV}(h:Opn (.arr 32 (.int .u8)) cs):∃r:Rt,cs=rtc r:=by
 cases h with
 | arr n s xs hl h =>
   obtain⟨ns,rfl,hw⟩:=Opn.ints h;obtain⟨bs,h1,h2⟩:=S5 hw;rw[lU]at hl;exact⟨⟨bs,by omega⟩,by rw[h1,BR];rfl⟩
theorem Opn.wd{cs:List AV}(h:Opn (.arr 4 (.int .u64)) cs):∃a:Wd,cs=wdc a/\∀n∈a.1,0<=n/\n<18446744073709551616:=by
 cases h with
 | arr n s xs hl h =>
   obtain⟨ns,rfl,hw⟩:=Opn.ints h;rw[lU]at hl;refine⟨⟨ns,hl⟩,?_,fun n hn=>?_⟩
   ·show _=ns.map _
    clear hl hw h;induction ns with
    |nil=>rfl
    |cons n ns ih=>simp only[ax,List.map_cons,List.flatten_cons]at ih ⊢;rw[ih];rfl
   ·have:=bounds_u64 (hw n hn);omega
theorem Opn.inv_st{ss:List Sh}{cs:List AV}(h:Opn (.st ss) cs):DD ss cs:=by
 cases h with
 |st _ _ h=>exact h
theorem DD.inv_cons{s:Sh}{ss:List Sh}{cs:List AV}(h:DD (s::ss) cs):∃a b,cs=a++b/\Opn s a/\DD ss b:=by
 cases h with
 |cons _ _ a b h hs=>exact⟨a,b,rfl,h,hs⟩
theorem DD.inv_nil{cs:List AV}(h:DD [] cs):cs=[]:=by
 cases h;rfl
theorem Opn.inv_int{k:IntKind}{cs:List AV}(h:Opn (.int k) cs):∃n,(Lit.int k n).wf=true/\cs=[.int k n]:=by
 cases h with
 |int _ n h=>exact⟨n,h,rfl⟩
theorem Opn.inv_bool{cs:List AV}(h:Opn .bool cs):∃b,cs=[.bool b]:=by
 cases h with
 |bool b=>exact⟨b,rfl⟩
theorem Opn.inv_nums{k:IntKind}{cs:List AV}(h:Opn (.sl (.int k)) cs):∃ns:List Int,ns.length<=maxLen/\(∀n∈ns,(Lit.int k n).wf=true)/\cs=[.sl 1 false (ax k ns)]:=by
 cases h with
 | sl _ xs hl h =>
   obtain⟨ns,rfl,hw⟩:=Opn.ints h;exact⟨ns,by rwa [lU]at hl,hw,rfl⟩
section
variable{H:Type}{enc:TypeId×Value->H}{P:Program}{w:World}
theorem AD{t e:TypeId}{v:Value}{d:DataW H}{p:List MemPlace}{r:Reach}{base:Nat}(k:IntKind)(hs:Fa P (.sl (.int k)) t=true)(hv:Value.okWide P w r base t v)(hd:DataW.Trod enc P w 0 (fun _=>true) true t v d p)
 (ht:P.underlying t=some (.slice e)):∃ns:List Int,ns.length<=maxLen/\(∀n∈ns,(Lit.int k n).wf=true)/\Rl (xM w) (.sl 1 false (ax k ns)) v:=by
 obtain⟨xs,hl,h,hr⟩:=Ya (.int k) hs hv hd ht;obtain⟨ns,rfl,hw⟩:=Opn.ints h;exact⟨ns,by rwa [lU]at hl,hw,hr⟩
end
structure Cp.Ok(x:Cp):Prop where
 ep:(Lit.int .u64 x.ep).wf=true
abbrev cpS:Sh:=.st [.int .u64,.arr 32 (.int .u8)]
theorem Opn.cp{cs:List AV}(h:Opn cpS cs):∃x:Cp,cs=cpC x/\x.Ok:=by
 have h:=h.inv_st;obtain⟨a0,b0,rfl,h0,h⟩:=h.inv_cons;obtain⟨a1,b1,rfl,h1,h⟩:=h.inv_cons;have h:=h.inv_nil;subst h;obtain⟨n0,w0,rfl⟩:=h0.inv_int;obtain⟨n1,rfl⟩:=h1.rt;exact⟨⟨n0,n1⟩,by simp only[cpC,List.cons_append,List.nil_append,List.append_nil,List.append_assoc],⟨w0⟩⟩
structure Pul.Ok(x:Pul):Prop where
 j:x.j.Ok
 f:x.f.Ok
abbrev acs:Sh:=.st [cpS,cpS]
theorem Opn.pul{cs:List AV}(h:Opn acs cs):∃x:Pul,cs=fd x/\x.Ok:=by
 have h:=h.inv_st;obtain⟨a0,b0,rfl,h0,h⟩:=h.inv_cons;obtain⟨a1,b1,rfl,h1,h⟩:=h.inv_cons;have h:=h.inv_nil;subst h;obtain⟨n0,rfl,w0⟩:=h0.cp;obtain⟨n1,rfl,w1⟩:=h1.cp;exact⟨⟨n0,n1⟩,by simp only[fd,List.cons_append,List.nil_append,List.append_nil,List.append_assoc],⟨w0,w1⟩⟩
structure Blk.Ok(x:Blk):Prop where
 pul:x.pul.Ok
 slot:(Lit.int .u64 x.slot).wf=true
 diff:∀n∈x.diff.1,0<=n/\n<18446744073709551616
 pdiff:∀n∈x.pdiff.1,0<=n/\n<18446744073709551616
 just:x.just.Ok
 fin:x.fin.Ok
abbrev ac3:Sh:=.st [acs,.int .u64,.arr 32 (.int .u8),.arr 32 (.int .u8),.arr 32 (.int .u8),.arr 4 (.int .u64),.arr 4 (.int .u64),cpS,cpS,.bool]
theorem Opn.blk{cs:List AV}(h:Opn ac3 cs):∃x:Blk,cs=aA x/\x.Ok:=by
 have h:=h.inv_st;obtain⟨a0,b0,rfl,h0,h⟩:=h.inv_cons;obtain⟨a1,b1,rfl,h1,h⟩:=h.inv_cons;obtain⟨a2,b2,rfl,h2,h⟩:=h.inv_cons;obtain⟨a3,b3,rfl,h3,h⟩:=h.inv_cons;obtain⟨a4,b4,rfl,h4,h⟩:=h.inv_cons;obtain⟨a5,b5,rfl,h5,h⟩:=h.inv_cons;obtain⟨a6,b6,rfl,h6,h⟩:=h.inv_cons;obtain⟨a7,b7,rfl,h7,h⟩:=h.inv_cons;obtain⟨a8,b8,rfl,h8,h⟩:=h.inv_cons;obtain⟨a9,b9,rfl,h9,h⟩:=h.inv_cons;have h:=h.inv_nil;subst h;obtain⟨n0,rfl,w0⟩:=h0.pul;obtain⟨n1,w1,rfl⟩:=h1.inv_int;obtain⟨n2,rfl⟩:=h2.rt;obtain⟨n3,rfl⟩:=h3.rt;obtain⟨n4,rfl⟩:=h4.rt;obtain⟨n5,rfl,w5⟩:=h5.wd;obtain⟨n6,rfl,w6⟩:=h6.wd;obtain⟨n7,rfl,w7⟩:=h7.cp;obtain⟨n8,rfl,w8⟩:=h8.cp;obtain⟨n9,rfl⟩:=h9.inv_bool;exact⟨⟨n0,n1,n2,n3,n4,n5,n6,n7,n8,n9⟩,by simp only[aA,List.cons_append,List.nil_append,List.append_nil,List.append_assoc],⟨w0,w1,w5,w6,w7,w8⟩⟩
structure Att.Ok(x:Att):Prop where
 slot:(Lit.int .u64 x.slot).wf=true
 target:x.target.Ok
 vals:∃ns:List Int,x.vals=.sl 1 false (ax .i64 ns)/\ns.length<=maxLen/\∀n∈ns,(Lit.int .i64 n).wf=true
abbrev i9:Sh:=.st [.int .u64,.arr 32 (.int .u8),cpS,.sl (.int .i64)]
theorem Opn.att{cs:List AV}(h:Opn i9 cs):∃x:Att,cs=bZ x/\x.Ok:=by
 have h:=h.inv_st;obtain⟨a0,b0,rfl,h0,h⟩:=h.inv_cons;obtain⟨a1,b1,rfl,h1,h⟩:=h.inv_cons;obtain⟨a2,b2,rfl,h2,h⟩:=h.inv_cons;obtain⟨a3,b3,rfl,h3,h⟩:=h.inv_cons;have h:=h.inv_nil;subst h;obtain⟨n0,w0,rfl⟩:=h0.inv_int;obtain⟨n1,rfl⟩:=h1.rt;obtain⟨n2,rfl,w2⟩:=h2.cp;obtain⟨n3,l3,w3,rfl⟩:=h3.inv_nums;exact⟨⟨n0,n1,n2,_⟩,by simp only[bZ,List.cons_append,List.nil_append,List.append_nil,List.append_assoc],⟨w0,w2,⟨n3,rfl,l3,w3⟩⟩⟩
structure Clm.Ok(x:Clm):Prop where
 src:(Lit.int .u64 x.src).wf=true
 tgt:(Lit.int .u64 x.tgt).wf=true
 vals:∃ns:List Int,x.vals=.sl 1 false (ax .i64 ns)/\ns.length<=maxLen/\∀n∈ns,(Lit.int .i64 n).wf=true
abbrev abv:Sh:=.st [.int .u64,.int .u64,.arr 32 (.int .u8),.sl (.int .i64)]
theorem Opn.clm{cs:List AV}(h:Opn abv cs):∃x:Clm,cs=de x/\x.Ok:=by
 have h:=h.inv_st;obtain⟨a0,b0,rfl,h0,h⟩:=h.inv_cons;obtain⟨a1,b1,rfl,h1,h⟩:=h.inv_cons;obtain⟨a2,b2,rfl,h2,h⟩:=h.inv_cons;obtain⟨a3,b3,rfl,h3,h⟩:=h.inv_cons;have h:=h.inv_nil;subst h;obtain⟨n0,w0,rfl⟩:=h0.inv_int;obtain⟨n1,w1,rfl⟩:=h1.inv_int;obtain⟨n2,rfl⟩:=h2.rt;obtain⟨n3,l3,w3,rfl⟩:=h3.inv_nums;exact⟨⟨n0,n1,n2,_⟩,by simp only[de,List.cons_append,List.nil_append,List.append_nil,List.append_assoc],⟨w0,w1,⟨n3,rfl,l3,w3⟩⟩⟩
structure Slg.Ok(x:Slg):Prop where
 fst:x.fst.Ok
 snd:x.snd.Ok
abbrev adf:Sh:=.st [abv,abv]
theorem Opn.slg{cs:List AV}(h:Opn adf cs):∃x:Slg,cs=dq x/\x.Ok:=by
 have h:=h.inv_st;obtain⟨a0,b0,rfl,h0,h⟩:=h.inv_cons;obtain⟨a1,b1,rfl,h1,h⟩:=h.inv_cons;have h:=h.inv_nil;subst h;obtain⟨n0,rfl,w0⟩:=h0.clm;obtain⟨n1,rfl,w1⟩:=h1.clm;exact⟨⟨n0,n1⟩,by simp only[dq,List.cons_append,List.nil_append,List.append_nil,List.append_assoc],⟨w0,w1⟩⟩
structure Tab.Ok(x:Tab):Prop where
 cp:x.cp.Ok
 bals:∃ns:List Int,x.bals=.sl 1 false (ax .u64 ns)/\ns.length<=maxLen/\∀n∈ns,(Lit.int .u64 n).wf=true
abbrev adi:Sh:=.st [cpS,.sl (.int .u64)]
theorem Opn.tab{cs:List AV}(h:Opn adi cs):∃x:Tab,cs=bE x/\x.Ok:=by
 have h:=h.inv_st;obtain⟨a0,b0,rfl,h0,h⟩:=h.inv_cons;obtain⟨a1,b1,rfl,h1,h⟩:=h.inv_cons;have h:=h.inv_nil;subst h;obtain⟨n0,rfl,w0⟩:=h0.cp;obtain⟨n1,l1,w1,rfl⟩:=h1.inv_nums;exact⟨⟨n0,_⟩,by simp only[bE,List.cons_append,List.nil_append,List.append_nil,List.append_assoc],⟨w0,⟨n1,rfl,l1,w1⟩⟩⟩
structure Vdt.Ok(x:Vdt):Prop where
 tag:(Lit.int .u64 x.tag).wf=true
 kind:(Lit.int .i64 x.kind).wf=true
abbrev adj:Sh:=.st [.st [.int .u64],.int .i64,.arr 32 (.int .u8)]
theorem Opn.vdt{cs:List AV}(h:Opn adj cs):∃x:Vdt,cs=en x/\x.Ok:=by
 have h:=h.inv_st;obtain⟨a0,b0,rfl,h0,h⟩:=h.inv_cons;obtain⟨a1,b1,rfl,h1,h⟩:=h.inv_cons;obtain⟨a2,b2,rfl,h2,h⟩:=h.inv_cons;have h:=h.inv_nil;subst h;obtain⟨y0,z0,rfl,g0,q0⟩:=h0.inv_st.inv_cons;have q0:=q0.inv_nil;subst q0;obtain⟨n0,w0,rfl⟩:=g0.inv_int;obtain⟨n1,w1,rfl⟩:=h1.inv_int;obtain⟨n2,rfl⟩:=h2.rt;exact⟨⟨n0,n1,n2⟩,by simp only[en,List.cons_append,List.nil_append,List.append_nil,List.append_assoc],⟨w0,w1⟩⟩
structure SOp.Ok(x:SOp):Prop where
 kind:(Lit.int .i64 x.kind).wf=true
 blk:x.blk.Ok
 att:x.att.Ok
 slg:x.slg.Ok
 tab:x.tab.Ok
 vdt:x.vdt.Ok
 write:(Lit.int .i64 x.write).wf=true
 keep:(Lit.int .i64 x.keep).wf=true
end Go.FH
