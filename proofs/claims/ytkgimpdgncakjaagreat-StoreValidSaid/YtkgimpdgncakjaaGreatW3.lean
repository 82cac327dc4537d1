/-
 My texts Bp, Bq, Br, Bs, By, Ja, Jb, Jc, Jd, Bv, Bo, Bt, Bu, Bw, Bx, Je, Pb, Jh, Ji, Jk, joined.
-/
import Derived.Test.YtkgimpdgncakjaaGreatW2
import Derived.OpenShut
import Derived.ChangeMaps
namespace Go.FH
set_option linter.unusedVariables false
set_option linter.unusedSimpArgs false
open Go Go.RowKit
def OG_(σ:St)(zs:List Nat)(fr:Fr):Fr:=⟨fr.nv,fr.vs.map (fz σ zs),[]⟩
def pw_(σ:St)(zs:List Nat):St:=(List.range σ.length).map fun i=>if zs.contains i then .gone else fzO σ zs (σ.getD i .gone)
theorem evZ:(∀σ zs nv vs ts,OG_ σ zs ⟨nv,vs,ts⟩=⟨nv,vs.map (fz σ zs),[]⟩):=fun _ _ _ _ _=>rfl
section
variable{P:Program}{nt k:Nat}{fr:Fr}{σ:St}
theorem la_{c:ad_}{Q:Ex→Fr→St→Prop}(zs:List Nat)(h:Tri P nt k c Q (OG_ σ zs fr) (pw_ σ zs)):Tri P nt k c Q fr σ:=by
 intro fx code hc C loc a w hs;have hk:=hs.klen
 have hf:iv_ k σ zs (List.range σ.length) (pw_ σ zs):=by
  refine⟨fun i hi=>List.getElem?_range (by omega),List.nodup_range,fun j hj=>List.mem_range.1 hj,by simp[pw_],fun i o ho=>?_⟩
  have hi:i<σ.length:=by
   have:=(List.getElem?_eq_some_iff.1 ho).1;simpa[pw_]using this
  unfold pw_ at ho;rw[List.getElem?_map,List.getElem?_range hi]at ho;simp only[Option.map_some,Option.some.injEq]at ho;split at ho
  ·exact .inl ho.symm
  ·rename_i hz;refine .inr ⟨i,List.getElem?_range hi,by simpa using hz,?_⟩;rw[EA_,Pj_,←ho,List.getElem?_eq_getElem hi,List.getD_eq_getElem?_getD,List.getElem?_eq_getElem hi];rfl
 refine wB_ zs (List.range σ.length) (OG_ σ zs fr) (pw_ σ zs) hf (by simpa using hk) (fun t=>?_) h fx code hc C loc a w hs;rw[EA_,Nk_];unfold Fr.get OG_;simp only;split
 ·right
  rw[List.getD_eq_getElem?_getD,List.getD_eq_getElem?_getD,List.getElem?_map];cases fr.vs[t]?<;>rfl
 ·exact .inl rfl
def Sc(v:AV):Prop:=∀E E' u,Rl E v u→Rl E' v u
theorem Sc.int(k:IntKind)(n:Int):Sc (.int k n):=fun _ _ _ h=>h
theorem Sc.bool(b:Bool):Sc (.bool b):=fun _ _ _ h=>h
theorem Sc.str(s:List UInt8):Sc (.str s):=fun _ _ _ h=>h
end
theorem cA_{a:List AV}{n:Nat}(h:a.length=n):cut a 0 n=a:=by
 unfold cut;rw[List.drop_zero,←h,List.take_length]
theorem Qg_(x:AV)(b:List AV)(o n:Nat)(h:1≤o):cut (x::b) o n=cut b (o-1) n:=by
 obtain⟨k,rfl⟩:∃k,o=k+1:=⟨o-1,by omega⟩
 rfl
theorem Qf_(a b:List AV)(o n:Nat)(h:a.length≤o):cut (a++b) o n=cut b (o-a.length) n:=by
 unfold cut;rw[List.drop_append,List.drop_eq_nil_of_le h,List.nil_append]
theorem Qe_(a b:List AV)(o n:Nat)(h:o+n≤a.length):cut (a++b) o n=cut a o n:=by
 unfold cut;rw[List.drop_append,List.take_append_of_le_length (by rw[List.length_drop];omega)]
theorem Rz_(x:AV)(b:List AV)(n:Nat)(h:0<n):cut (x::b) 0 n=x::cut b 0 (n-1):=by
 obtain⟨k,rfl⟩:∃k,n=k+1:=⟨n-1,by omega⟩
 rfl
theorem Ry_(b:List AV)(o:Nat):cut b o 0=[]:=by simp[cut]
theorem EO_{a:List AV}{vs:List AV}(h:vs.length=a.length):spl a 0 vs=vs:=by
 unfold spl;rw[h];simp
theorem Qo_(x:AV)(b:List AV)(o:Nat)(vs:List AV)(h:1≤o):spl (x::b) o vs=x::spl b (o-1) vs:=by
 obtain⟨k,rfl⟩:∃k,o=k+1:=⟨o-1,by omega⟩
 unfold spl;simp[Nat.add_right_comm]
theorem Qn_(a b:List AV)(o:Nat)(vs:List AV)(h:a.length≤o):spl (a++b) o vs=a++spl b (o-a.length) vs:=by
 unfold spl;rw[List.take_append,List.drop_append,List.take_of_length_le h,List.drop_eq_nil_of_le (by omega),List.nil_append,show o+vs.length-a.length=o-a.length+vs.length by omega];simp
theorem Qm_(a b:List AV)(o:Nat)(vs:List AV)(h:o+vs.length≤a.length):spl (a++b) o vs=spl a o vs++b:=by
 unfold spl;rw[List.take_append_of_le_length (by omega),List.drop_append_of_le_length h];simp
theorem cS1{x:AV}{b:List AV}{o n:Nat}(h:1≤o:=by omega):cut (x::b) o n=cut b (o-1) n:=Qg_ x b o n h
theorem cR1{a b:List AV}{k:Nat}(hk:a.length=k){o n:Nat}(h:k≤o:=by omega):cut (a++b) o n=cut b (o-k) n:=by subst hk;exact Qf_ a b o n h
theorem cL1{a b:List AV}{k:Nat}(hk:a.length=k){o n:Nat}(h:o+n≤k:=by omega):cut (a++b) o n=cut a o n:=by subst hk;exact Qe_ a b o n h
theorem pS1{x:AV}{b:List AV}{o:Nat}{vs:List AV}(h:1≤o:=by omega):spl (x::b) o vs=x::spl b (o-1) vs:=Qo_ x b o vs h
theorem pR1{a b:List AV}{k:Nat}(hk:a.length=k){o:Nat}{vs:List AV}(h:k≤o:=by omega):spl (a++b) o vs=a++spl b (o-k) vs:=by subst hk;exact Qn_ a b o vs h
theorem pL1{a b:List AV}{k:Nat}(hk:a.length=k){o:Nat}{vs:List AV}(h:o+vs.length≤k:=by omega):spl (a++b) o vs=spl a o vs++b:=by subst hk;exact Qm_ a b o vs h
theorem RR_(x:AV)(b:List AV)(v:AV)(vs:List AV):spl (x::b) 0 (v::vs)=v::spl b 0 vs:=by
 unfold spl;simp
theorem RS_(b:List AV):spl b 0 []=b:=by simp[spl]
theorem ij_(a b:Int):(a==b)=decide (a=b):=by rw[Bool.eq_iff_iff];simp
theorem bk_:aS_ []=true:=rfl
theorem aZ_(x:AV)(b:List AV):aS_ (x::b)=(x.cell&&aS_ b):=rfl
theorem bj_(a b:List AV):aS_ (a++b)=(aS_ a&&aS_ b):=by simp[aS_]
theorem cR_(a b:List AV):PuL (a++b)↔PuL a∧PuL b:=by
 simp only[tP_,List.mem_append];exact⟨fun h=>⟨fun c hc=>h c (.inl hc),fun c hc=>h c (.inr hc)⟩,fun h c hc=>hc.elim (h.1 c) (h.2 c)⟩
theorem hx_(ρ:Nat→Nat)(a b:List AV):ci_ ρ (a++b)=ci_ ρ a++ci_ ρ b:=by simp[we_]
theorem ii_(σ:St)(zs:List Nat):∀a b,fzL σ zs (a++b)=fzL σ zs a++fzL σ zs b
 | [],b=>rfl
 |x::a,b=>by simp only[List.cons_append,fzL,ii_ σ zs a b]
theorem fk_:∀ {a b:List AV} (x y:List AV),a.length=b.length→dU_ (a++x) (b++y)=(match dU_ a b,dU_ x y with|some p,some q=>some (p&&q)|_,_=>none)
 | [],[],x,y,_=>by simp only[List.nil_append,dU_];cases dU_ x y<;>simp
 | u :: a, v :: b, x, y, h => by
   have ih:=fk_ (a:=a) (b:=b) x y (by simpa using h);simp only[List.cons_append,dU_,ih];cases pg_ u v<;>cases dU_ a b<;>cases dU_ x y<;>simp[Bool.and_assoc]
 | [],_::_,_,_,h|_::_,[],_,_,h=>by simp at h
theorem ef_:∀ {ks:List (Nat×Nat)} {cs:List AV},cs.map cx_=cB_ ks→eE_ ks cs=true
 | [],cs,h=>by simp only[cB_,List.map_eq_nil_iff]at h;subst h;rfl
 | (n, k) :: ks, cs, h => by
   simp only[cB_]at h;have hl:n≤cs.length:=by have:=congrArg List.length h;simp at this;omega
   have h1:(cs.take n).map cx_=List.replicate n k:=by rw[List.map_take,h];simp
   have h2:(cs.drop n).map cx_=cB_ ks:=by rw[List.map_drop,h];simp
   simp only[eE_,ef_ h2,Bool.and_true,Bool.and_eq_true,List.all_eq_true,beq_iff_eq];refine⟨by rw[List.length_take];omega,fun x hx=>?_⟩;have:cx_ x∈(cs.take n).map cx_:=List.mem_map_of_mem hx;rw[h1]at this;exact(List.mem_replicate.1 this).2
def byc(bs:List UInt8):List AV:=bs.map fun b=>.int .u8 (b.toNat:Int)
@[simp] theorem Gv_(bs:List UInt8):(byc bs).length=bs.length:=by simp[byc]
theorem On_(bs:List UInt8):PuL (byc bs):=by
 rw[tP_];intro x hx;obtain⟨b,_,rfl⟩:=List.mem_map.1 hx;trivial
theorem Aw_(bs:List UInt8):aS_ (byc bs)=true:=by simp[aS_,byc,AV.cell]
theorem CP_:∀ {a b:List UInt8},a.length=b.length→dU_ (byc a) (byc b)=some (decide (a=b))
 | [],[],_=>rfl
 | x :: a, y :: b, h => by
   have ih:=CP_ (a:=a) (b:=b) (by simpa using h)
   have e:(((x.toNat:Int))==(y.toNat:Int))=decide (x=y):=by
    rw[Bool.eq_iff_iff];simp;exact⟨fun h=>UInt8.toNat_inj.1 (by omega),fun h=>by rw[h]⟩
   simp only[byc,List.map_cons,dU_,pg_,if_true]at ih ⊢;rw[ih,e];simp[List.cons.injEq]
 | [],_::_,h|_::_,[],h=>by simp at h
theorem yZ_:∀ (bs:List UInt8) (n:Nat),bs.length=n→chunk 1 n (byc bs)=bts bs
 | [],_,rfl=>rfl
 | b :: bs, _, rfl => by
   simp only[List.length_cons,chunk,byc,List.map_cons,bts];have:=yZ_ bs _ rfl;simp only[byc,bts]at this;simp[this]
theorem OC_(bs:List UInt8){j:Nat}(h:j<bs.length):cut (byc bs) j 1=[.int .u8 (bs[j].toNat:Int)]:=by
 unfold cut byc;rw[←List.map_drop,←List.map_take,List.drop_eq_getElem_cons h];rfl
theorem PQ_(bs:List UInt8){j:Nat}(h:j<bs.length)(b:UInt8):spl (byc bs) j [.int .u8 (b.toNat:Int)]=byc (bs.set j b):=by
 unfold spl byc;rw[←List.map_take,List.length_singleton,←List.map_drop,List.set_eq_take_append_cons_drop,if_pos h];simp
theorem JX_(bs:List UInt8):(byc bs).map cx_=List.replicate bs.length 1:=by
 rw[List.eq_replicate_iff];refine⟨by simp,fun b hb=>?_⟩;obtain⟨c,hc,rfl⟩:=List.mem_map.1 hb;obtain⟨d,_,rfl⟩:=List.mem_map.1 hc;rfl
theorem sB_(bs:List UInt8):(bts bs).flatten=byc bs:=by
 induction bs with
 |nil=>rfl
 |cons b bs ih=>simp only[bts,byc,List.map_cons,List.flatten_cons]at ih ⊢;rw[ih];rfl
abbrev Rt:={b:List UInt8 // b.length=32}
def rtc(r:Rt):List AV:=byc r.1
@[simp] theorem ai_(r:Rt):(rtc r).length=32:=by rw[rtc,Gv_,r.2]
theorem Np_(r:Rt):cut (rtc r) 0 32=rtc r:=cA_ (ai_ r)
theorem Jl_(r:Rt):chunk 1 32 (rtc r)=bts r.1:=yZ_ _ _ r.2
theorem cw_(r:Rt):PuL (rtc r):=On_ _
theorem nf_(ρ:Nat→Nat)(r:Rt):ci_ ρ (rtc r)=rtc r:=(cw_ r).ren ρ
theorem qF_(σ:St)(zs:List Nat)(r:Rt):fzL σ zs (rtc r)=rtc r:=(cw_ r).fz σ zs
theorem cz_(r:Rt):aS_ (rtc r)=true:=Aw_ _
theorem hc_(r s:Rt):dU_ (rtc r) (rtc s)=some (decide (r=s)):=by
 rw[rtc,rtc,CP_ (by rw[r.2,s.2])];congr 1;rw[decide_eq_decide];exact Subtype.ext_iff.symm
theorem gK_(r:Rt):(rtc r).map cx_=List.replicate 32 1:=by rw[rtc,JX_,r.2]
theorem DC_(r:Rt):eE_ [(32,1)] (rtc r)=true:=ef_ (by rw[gK_];rfl)
theorem HH_(r:Rt){j:Nat}(h:j<32):cut (rtc r) j 1=[.int .u8 ((r.1[j]'(by rw[r.2];exact h)).toNat:Int)]:=OC_ _ _
def Rt.set(r:Rt)(j:Nat)(b:UInt8):Rt:=⟨r.1.set j b,by rw[List.length_set,r.2]⟩
theorem ua_(r:Rt){j:Nat}(h:j<32)(b:UInt8):spl (rtc r) j [.int .u8 (b.toNat:Int)]=rtc (r.set j b):=PQ_ _ (by rw[r.2];exact h) b
theorem nq_(r:Rt):(bts r.1=[])=False:=by
 rw[eq_iff_iff,iff_false];intro h;have:=congrArg List.length h;rw[vD_,r.2]at this;cases this
def rt0:Rt:=⟨List.replicate 32 0,rfl⟩
instance:Inhabited Rt:=⟨rt0⟩
abbrev Wd:={l:List Int // l.length=4}
def wdc(a:Wd):List AV:=a.1.map (.int .u64)
@[simp] theorem aE_(a:Wd):(wdc a).length=4:=by rw[wdc,List.length_map,a.2]
theorem Od_(a:Wd):cut (wdc a) 0 4=wdc a:=cA_ (aE_ a)
theorem gT_(a:Wd):PuL (wdc a):=by
 rw[tP_];intro x hx;obtain⟨b,_,rfl⟩:=List.mem_map.1 hx;trivial
theorem Ev_(ρ:Nat→Nat)(r:Wd):ci_ ρ (wdc r)=wdc r:=(gT_ r).ren ρ
theorem HM_(σ:St)(zs:List Nat)(r:Wd):fzL σ zs (wdc r)=wdc r:=(gT_ r).fz σ zs
theorem kF_(r:Wd):aS_ (wdc r)=true:=by simp[aS_,wdc,AV.cell]
theorem yO_:∀ {a b:List Int},a.length=b.length→dU_ (a.map (.int .u64)) (b.map (.int .u64))=some (decide (a=b))
 | [],[],_=>rfl
 | x :: a, y :: b, h => by
   have ih:=yO_ (a:=a) (b:=b) (by simpa using h);have e:(x==y)=decide (x=y):=by rw[Bool.eq_iff_iff];simp
   simp only[List.map_cons,dU_,pg_,if_true]at ih ⊢;rw[ih,e];simp[List.cons.injEq]
 | [],_::_,h|_::_,[],h=>by simp at h
theorem CQ_(r s:Wd):dU_ (wdc r) (wdc s)=some (decide (r=s)):=by
 rw[wdc,wdc,yO_ (by rw[r.2,s.2])];congr 1;rw[decide_eq_decide];exact Subtype.ext_iff.symm
theorem zv_(r:Wd):(wdc r).map cx_=List.replicate 4 1:=by
 rw[wdc,List.map_map,List.eq_replicate_iff];refine⟨by rw[List.length_map,r.2],fun b hb=>?_⟩;obtain⟨c,hc,rfl⟩:=List.mem_map.1 hb;rfl
theorem Mq_(r:Wd):eE_ [(4,1)] (wdc r)=true:=ef_ (by rw[zv_];rfl)
theorem AY_(r:Wd){j:Nat}(h:j<4):cut (wdc r) j 1=[.int .u64 (r.1[j]'(by rw[r.2];exact h))]:=by
 unfold cut wdc;rw[←List.map_drop,←List.map_take,List.drop_eq_getElem_cons (by rw[r.2];exact h)];rfl
def Wd.set(r:Wd)(j:Nat)(x:Int):Wd:=⟨r.1.set j x,by rw[List.length_set,r.2]⟩
theorem jC_(r:Wd){j:Nat}(h:j<4)(x:Int):spl (wdc r) j [.int .u64 x]=wdc (r.set j x):=by
 have h2:j<r.1.length:=by rw[r.2];exact h
 unfold spl wdc Wd.set;simp only;rw[←List.map_take,List.length_singleton,←List.map_drop,List.set_eq_take_append_cons_drop,if_pos h2];simp
theorem Mj_(r:Wd){j:Nat}(h:j<4):cut (wdc r) j 1=[.int .u64 (r.1.getD j 0)]:=by
 rw[AY_ r h,List.getD_eq_getElem?_getD,List.getElem?_eq_getElem (by rw[r.2];exact h)];rfl
def wd0:Wd:=⟨List.replicate 4 0,rfl⟩
instance:Inhabited Wd:=⟨wd0⟩
structure Cp where
 ep:Int
 rt:Rt
 deriving Inhabited,DecidableEq
def cpC(x:Cp):List AV:=.int .u64 x.ep::(rtc x.rt)
@[simp] theorem am_(x:Cp):(cpC x).length=33:=by simp only[cpC,List.length_cons,List.length_append,List.length_nil,ai_]
theorem Mh_(ep:Int)(rt:Rt):.int .u64 ep::(rtc rt)=cpC ⟨ep,rt⟩:=rfl
theorem Mi_(x:Cp):cut (cpC x) 0 33=cpC x:=cA_ (am_ x)
theorem FJ_(x:Cp):cut (cpC x) 0 1=[.int .u64 x.ep]:=by unfold cpC;all_goals rfl
theorem FL_(x:Cp)(v:Int):spl (cpC x) 0 [.int .u64 v]=cpC { x with ep:=v }:=by unfold cpC;all_goals rfl
theorem FK_(x:Cp)(o n:Nat)(h1:1≤o)(h2:o+n≤33):cut (cpC x) o n=cut (rtc x.rt) (o-1) n:=by unfold cpC;rw[cS1];all_goals rfl
theorem FM_(x:Cp)(o:Nat)(vs:List AV)(h1:1≤o)(h2:o+vs.length≤33):spl (cpC x) o vs=.int .u64 x.ep::(spl (rtc x.rt) (o-1) vs):=by unfold cpC;rw[pS1];all_goals rfl
theorem eN_(x:Cp):aS_ (cpC x)=true:=by simp[cpC,aZ_,bj_,bk_,AV.cell,cz_]
theorem dK_(x:Cp):PuL (cpC x):=by simp[cpC,cR_,PuL,Pu,cw_]
theorem qW_(ρ:Nat→Nat)(x:Cp):ci_ ρ (cpC x)=cpC x:=(dK_ x).ren ρ
theorem tW_(σ:St)(zs:List Nat)(x:Cp):fzL σ zs (cpC x)=cpC x:=(dK_ x).fz σ zs
theorem rN_(x:Cp):(cpC x).map cx_=cB_ [(33,1)]:=by simp only[cpC,List.map_cons,List.map_append,List.map_nil,cx_,gK_];decide +kernel
theorem Mp_(x:Cp):eE_ [(33,1)] (cpC x)=true:=ef_ (rN_ x)
theorem uj_(x y:Cp):dU_ (cpC x) (cpC y)=some (decide (x=y)):=by cases x;cases y;simp[cpC,fk_,dU_,pg_,ai_,aE_,hc_,Bool.beq_eq_decide_eq,ij_,Bool.and_assoc,Bool.decide_and]
def cp0:Cp:=⟨0,rt0⟩
structure Pul where
 j:Cp
 f:Cp
 deriving Inhabited,DecidableEq
def dh_(x:Pul):List AV:=cpC x.j++(cpC x.f)
@[simp] theorem aX_(x:Pul):(dh_ x).length=66:=by simp only[dh_,List.length_cons,List.length_append,List.length_nil,am_]
theorem Ks_(j:Cp)(f:Cp):cpC j++(cpC f)=dh_ ⟨j,f⟩:=rfl
theorem Kt_(x:Pul):cut (dh_ x) 0 66=dh_ x:=cA_ (aX_ x)
theorem GT_(x:Pul)(o n:Nat)(h1:0≤o)(h2:o+n≤33):cut (dh_ x) o n=cut (cpC x.j) (o-0) n:=by unfold dh_;rw[cL1 (am_ _)];all_goals rfl
theorem GV_(x:Pul)(o:Nat)(vs:List AV)(h1:0≤o)(h2:o+vs.length≤33):spl (dh_ x) o vs=spl (cpC x.j) (o-0) vs++(cpC x.f):=by unfold dh_;rw[pL1 (am_ _)];all_goals rfl
theorem GS_(x:Pul)(o n:Nat)(h1:33≤o)(h2:o+n≤66):cut (dh_ x) o n=cut (cpC x.f) (o-33) n:=by unfold dh_;rw[cR1 (am_ _)];all_goals rfl
theorem GU_(x:Pul)(o:Nat)(vs:List AV)(h1:33≤o)(h2:o+vs.length≤66):spl (dh_ x) o vs=cpC x.j++(spl (cpC x.f) (o-33) vs):=by unfold dh_;rw[pR1 (am_ _)];all_goals rfl
theorem oi_(x:Pul):aS_ (dh_ x)=true:=by simp[dh_,aZ_,bj_,bk_,AV.cell,eN_]
theorem pP_(x:Pul):PuL (dh_ x):=by simp[dh_,cR_,PuL,Pu,dK_]
theorem KC_(ρ:Nat→Nat)(x:Pul):ci_ ρ (dh_ x)=dh_ x:=(pP_ x).ren ρ
theorem Mv_(σ:St)(zs:List Nat)(x:Pul):fzL σ zs (dh_ x)=dh_ x:=(pP_ x).fz σ zs
theorem vB_(x:Pul):(dh_ x).map cx_=cB_ [(66,1)]:=by simp only[dh_,List.map_cons,List.map_append,List.map_nil,cx_,rN_];decide +kernel
theorem JI_(x:Pul):eE_ [(66,1)] (dh_ x)=true:=ef_ (vB_ x)
theorem yP_(x y:Pul):dU_ (dh_ x) (dh_ y)=some (decide (x=y)):=by cases x;cases y;simp[dh_,fk_,dU_,pg_,ai_,aE_,uj_,Bool.beq_eq_decide_eq,ij_,Bool.and_assoc,Bool.decide_and]
def yb_:Pul:=⟨cp0,cp0⟩
structure Blk where
 pul:Pul
 slot:Int
 root:Rt
 parent:Rt
 payload:Rt
 diff:Wd
 pdiff:Wd
 just:Cp
 fin:Cp
 timely:Bool
 deriving Inhabited,DecidableEq
def ap_(x:Blk):List AV:=dh_ x.pul++(.int .u64 x.slot::(rtc x.root++(rtc x.parent++(rtc x.payload++(wdc x.diff++(wdc x.pdiff++(cpC x.just++(cpC x.fin++[.bool x.timely]))))))))
@[simp] theorem aU_(x:Blk):(ap_ x).length=238:=by simp only[ap_,List.length_cons,List.length_append,List.length_nil,am_,aX_,ai_,aE_]
theorem IW_(pul:Pul)(slot:Int)(root:Rt)(parent:Rt)(payload:Rt)(diff:Wd)(pdiff:Wd)(just:Cp)(fin:Cp)(timely:Bool):dh_ pul++(.int .u64 slot::(rtc root++(rtc parent++(rtc payload++(wdc diff++(wdc pdiff++(cpC just++(cpC fin++[.bool timely]))))))))=ap_ ⟨pul,slot,root,parent,payload,diff,pdiff,just,fin,timely⟩:=rfl
theorem IX_(x:Blk):cut (ap_ x) 0 238=ap_ x:=cA_ (aU_ x)
theorem AE_(x:Blk)(o n:Nat)(h1:0≤o)(h2:o+n≤66):cut (ap_ x) o n=cut (dh_ x.pul) (o-0) n:=by unfold ap_;rw[cL1 (aX_ _)];all_goals rfl
theorem AG_(x:Blk)(o:Nat)(vs:List AV)(h1:0≤o)(h2:o+vs.length≤66):spl (ap_ x) o vs=spl (dh_ x.pul) (o-0) vs++(.int .u64 x.slot::(rtc x.root++(rtc x.parent++(rtc x.payload++(wdc x.diff++(wdc x.pdiff++(cpC x.just++(cpC x.fin++[.bool x.timely])))))))):=by unfold ap_;rw[pL1 (aX_ _)];all_goals rfl
theorem wW_(x:Blk):cut (ap_ x) 66 1=[.int .u64 x.slot]:=by unfold ap_;rw[cR1 (aX_ _)];simp only[Nat.reduceSub];all_goals rfl
theorem xa_(x:Blk)(v:Int):spl (ap_ x) 66 [.int .u64 v]=ap_ { x with slot:=v }:=by unfold ap_;rw[pR1 (aX_ _)];simp only[Nat.reduceSub];all_goals rfl
theorem wV_(x:Blk)(o n:Nat)(h1:67≤o)(h2:o+n≤99):cut (ap_ x) o n=cut (rtc x.root) (o-67) n:=by unfold ap_;rw[cR1 (aX_ _),cS1,cL1 (ai_ _)];rw[show o-66-1=o-67 by omega]
theorem wZ_(x:Blk)(o:Nat)(vs:List AV)(h1:67≤o)(h2:o+vs.length≤99):spl (ap_ x) o vs=dh_ x.pul++(.int .u64 x.slot::(spl (rtc x.root) (o-67) vs++(rtc x.parent++(rtc x.payload++(wdc x.diff++(wdc x.pdiff++(cpC x.just++(cpC x.fin++[.bool x.timely])))))))):=by unfold ap_;rw[pR1 (aX_ _),pS1,pL1 (ai_ _)];rw[show o-66-1=o-67 by omega]
theorem sR_(x:Blk)(o n:Nat)(h1:99≤o)(h2:o+n≤131):cut (ap_ x) o n=cut (rtc x.parent) (o-99) n:=by unfold ap_;rw[cR1 (aX_ _),cS1];rw[cR1 (ai_ _),cL1 (ai_ _)];rw[show o-66-1-32=o-99 by omega]
theorem sT_(x:Blk)(o:Nat)(vs:List AV)(h1:99≤o)(h2:o+vs.length≤131):spl (ap_ x) o vs=dh_ x.pul++(.int .u64 x.slot::(rtc x.root++(spl (rtc x.parent) (o-99) vs++(rtc x.payload++(wdc x.diff++(wdc x.pdiff++(cpC x.just++(cpC x.fin++[.bool x.timely])))))))):=by unfold ap_;rw[pR1 (aX_ _),pS1];rw[pR1 (ai_ _),pL1 (ai_ _)];rw[show o-66-1-32=o-99 by omega]
theorem rq_(x:Blk)(o n:Nat)(h1:131≤o)(h2:o+n≤163):cut (ap_ x) o n=cut (rtc x.payload) (o-131) n:=by unfold ap_;rw[cR1 (aX_ _),cS1];rw[cR1 (ai_ _),cR1 (ai_ _),cL1 (ai_ _)];rw[show o-66-1-32-32=o-131 by omega]
theorem rr_(x:Blk)(o:Nat)(vs:List AV)(h1:131≤o)(h2:o+vs.length≤163):spl (ap_ x) o vs=dh_ x.pul++(.int .u64 x.slot::(rtc x.root++(rtc x.parent++(spl (rtc x.payload) (o-131) vs++(wdc x.diff++(wdc x.pdiff++(cpC x.just++(cpC x.fin++[.bool x.timely])))))))):=by unfold ap_;rw[pR1 (aX_ _),pS1];rw[pR1 (ai_ _),pR1 (ai_ _),pL1 (ai_ _)];rw[show o-66-1-32-32=o-131 by omega]
theorem wT_(x:Blk)(o n:Nat)(h1:163≤o)(h2:o+n≤167):cut (ap_ x) o n=cut (wdc x.diff) (o-163) n:=by unfold ap_;rw[cR1 (aX_ _),cS1];rw[cR1 (ai_ _),cR1 (ai_ _)];rw[cR1 (ai_ _),cL1 (aE_ _)];rw[show o-66-1-32-32-32=o-163 by omega]
theorem wX_(x:Blk)(o:Nat)(vs:List AV)(h1:163≤o)(h2:o+vs.length≤167):spl (ap_ x) o vs=dh_ x.pul++(.int .u64 x.slot::(rtc x.root++(rtc x.parent++(rtc x.payload++(spl (wdc x.diff) (o-163) vs++(wdc x.pdiff++(cpC x.just++(cpC x.fin++[.bool x.timely])))))))):=by unfold ap_;rw[pR1 (aX_ _),pS1];rw[pR1 (ai_ _),pR1 (ai_ _)];rw[pR1 (ai_ _),pL1 (aE_ _)];rw[show o-66-1-32-32-32=o-163 by omega]
theorem up_(x:Blk)(o n:Nat)(h1:167≤o)(h2:o+n≤171):cut (ap_ x) o n=cut (wdc x.pdiff) (o-167) n:=by unfold ap_;rw[cR1 (aX_ _),cS1];rw[cR1 (ai_ _),cR1 (ai_ _)];rw[cR1 (ai_ _),cR1 (aE_ _),cL1 (aE_ _)];rw[show o-66-1-32-32-32-4=o-167 by omega]
theorem uq_(x:Blk)(o:Nat)(vs:List AV)(h1:167≤o)(h2:o+vs.length≤171):spl (ap_ x) o vs=dh_ x.pul++(.int .u64 x.slot::(rtc x.root++(rtc x.parent++(rtc x.payload++(wdc x.diff++(spl (wdc x.pdiff) (o-167) vs++(cpC x.just++(cpC x.fin++[.bool x.timely])))))))):=by unfold ap_;rw[pR1 (aX_ _),pS1];rw[pR1 (ai_ _),pR1 (ai_ _)];rw[pR1 (ai_ _),pR1 (aE_ _),pL1 (aE_ _)];rw[show o-66-1-32-32-32-4=o-167 by omega]
theorem wU_(x:Blk)(o n:Nat)(h1:171≤o)(h2:o+n≤204):cut (ap_ x) o n=cut (cpC x.just) (o-171) n:=by unfold ap_;rw[cR1 (aX_ _),cS1];rw[cR1 (ai_ _),cR1 (ai_ _)];rw[cR1 (ai_ _),cR1 (aE_ _)];rw[cR1 (aE_ _),cL1 (am_ _)];rw[show o-66-1-32-32-32-4-4=o-171 by omega]
theorem wY_(x:Blk)(o:Nat)(vs:List AV)(h1:171≤o)(h2:o+vs.length≤204):spl (ap_ x) o vs=dh_ x.pul++(.int .u64 x.slot::(rtc x.root++(rtc x.parent++(rtc x.payload++(wdc x.diff++(wdc x.pdiff++(spl (cpC x.just) (o-171) vs++(cpC x.fin++[.bool x.timely])))))))):=by unfold ap_;rw[pR1 (aX_ _),pS1];rw[pR1 (ai_ _),pR1 (ai_ _)];rw[pR1 (ai_ _),pR1 (aE_ _)];rw[pR1 (aE_ _),pL1 (am_ _)];rw[show o-66-1-32-32-32-4-4=o-171 by omega]
theorem AD_(x:Blk)(o n:Nat)(h1:204≤o)(h2:o+n≤237):cut (ap_ x) o n=cut (cpC x.fin) (o-204) n:=by unfold ap_;rw[cR1 (aX_ _),cS1];rw[cR1 (ai_ _),cR1 (ai_ _)];rw[cR1 (ai_ _),cR1 (aE_ _)];rw[cR1 (aE_ _),cR1 (am_ _),cL1 (am_ _)];rw[show o-66-1-32-32-32-4-4-33=o-204 by omega]
theorem AF_(x:Blk)(o:Nat)(vs:List AV)(h1:204≤o)(h2:o+vs.length≤237):spl (ap_ x) o vs=dh_ x.pul++(.int .u64 x.slot::(rtc x.root++(rtc x.parent++(rtc x.payload++(wdc x.diff++(wdc x.pdiff++(cpC x.just++(spl (cpC x.fin) (o-204) vs++[.bool x.timely])))))))):=by unfold ap_;rw[pR1 (aX_ _),pS1];rw[pR1 (ai_ _),pR1 (ai_ _)];rw[pR1 (ai_ _),pR1 (aE_ _)];rw[pR1 (aE_ _),pR1 (am_ _),pL1 (am_ _)];rw[show o-66-1-32-32-32-4-4-33=o-204 by omega]
theorem sS_(x:Blk):cut (ap_ x) 237 1=[.bool x.timely]:=by unfold ap_;rw[cR1 (aX_ _),cS1];rw[cR1 (ai_ _),cR1 (ai_ _)];rw[cR1 (ai_ _),cR1 (aE_ _)];rw[cR1 (aE_ _),cR1 (am_ _),cR1 (am_ _)];simp only[Nat.reduceSub];all_goals rfl
theorem sU_(x:Blk)(v:Bool):spl (ap_ x) 237 [.bool v]=ap_ { x with timely:=v }:=by unfold ap_;rw[pR1 (aX_ _),pS1];rw[pR1 (ai_ _),pR1 (ai_ _)];rw[pR1 (ai_ _),pR1 (aE_ _)];rw[pR1 (aE_ _),pR1 (am_ _),pR1 (am_ _)];simp only[Nat.reduceSub];all_goals rfl
theorem jJ_(x:Blk):aS_ (ap_ x)=true:=by simp[ap_,aZ_,bj_,bk_,AV.cell,eN_,oi_,cz_,kF_]
theorem ea_(x:Blk):PuL (ap_ x):=by simp[ap_,cR_,PuL,Pu,dK_,pP_,cw_,gT_]
theorem zS_(ρ:Nat→Nat)(x:Blk):ci_ ρ (ap_ x)=ap_ x:=(ea_ x).ren ρ
theorem DF_(σ:St)(zs:List Nat)(x:Blk):fzL σ zs (ap_ x)=ap_ x:=(ea_ x).fz σ zs
theorem vA_(x:Blk):(ap_ x).map cx_=cB_ [(237,1),(1,0)]:=by simp only[ap_,List.map_cons,List.map_append,List.map_nil,cx_,rN_,vB_,gK_,zv_];decide +kernel
theorem JE_(x:Blk):eE_ [(237,1),(1,0)] (ap_ x)=true:=ef_ (vA_ x)
theorem yN_(x y:Blk):dU_ (ap_ x) (ap_ y)=some (decide (x=y)):=by cases x;cases y;simp[ap_,fk_,dU_,pg_,ai_,aE_,uj_,yP_,hc_,CQ_,Bool.beq_eq_decide_eq,ij_,Bool.and_assoc,Bool.decide_and]
def cF_:Blk:=⟨yb_,0,rt0,rt0,rt0,wd0,wd0,cp0,cp0,false⟩
structure Att where
 slot:Int
 root:Rt
 target:Cp
 vals:AV
 deriving Inhabited
def bl_(x:Att):List AV:=.int .u64 x.slot::(rtc x.root++(cpC x.target++[x.vals]))
@[simp] theorem bW_(x:Att):(bl_ x).length=67:=by simp only[bl_,List.length_cons,List.length_append,List.length_nil,am_,ai_]
theorem IO_(slot:Int)(root:Rt)(target:Cp)(vals:AV):.int .u64 slot::(rtc root++(cpC target++[vals]))=bl_ ⟨slot,root,target,vals⟩:=rfl
theorem IP_(x:Att):cut (bl_ x) 0 67=bl_ x:=cA_ (bW_ x)
theorem wO_(x:Att):cut (bl_ x) 0 1=[.int .u64 x.slot]:=by unfold bl_;all_goals rfl
theorem wR_(x:Att)(v:Int):spl (bl_ x) 0 [.int .u64 v]=bl_ { x with slot:=v }:=by unfold bl_;all_goals rfl
theorem wN_(x:Att)(o n:Nat)(h1:1≤o)(h2:o+n≤33):cut (bl_ x) o n=cut (rtc x.root) (o-1) n:=by unfold bl_;rw[cS1,cL1 (ai_ _)];all_goals rfl
theorem wQ_(x:Att)(o:Nat)(vs:List AV)(h1:1≤o)(h2:o+vs.length≤33):spl (bl_ x) o vs=.int .u64 x.slot::(spl (rtc x.root) (o-1) vs++(cpC x.target++[x.vals])):=by unfold bl_;rw[pS1,pL1 (ai_ _)];all_goals rfl
theorem sP_(x:Att)(o n:Nat)(h1:33≤o)(h2:o+n≤66):cut (bl_ x) o n=cut (cpC x.target) (o-33) n:=by unfold bl_;rw[cS1,cR1 (ai_ _),cL1 (am_ _)];rw[show o-1-32=o-33 by omega]
theorem sQ_(x:Att)(o:Nat)(vs:List AV)(h1:33≤o)(h2:o+vs.length≤66):spl (bl_ x) o vs=.int .u64 x.slot::(rtc x.root++(spl (cpC x.target) (o-33) vs++[x.vals])):=by unfold bl_;rw[pS1,pR1 (ai_ _),pL1 (am_ _)];rw[show o-1-32=o-33 by omega]
theorem wP_(x:Att):cut (bl_ x) 66 1=[x.vals]:=by unfold bl_;rw[cS1,cR1 (ai_ _),cR1 (am_ _)];simp only[Nat.reduceSub];all_goals rfl
theorem wS_(x:Att)(v:AV):spl (bl_ x) 66 [v]=bl_ { x with vals:=v }:=by unfold bl_;rw[pS1,pR1 (ai_ _),pR1 (am_ _)];simp only[Nat.reduceSub];all_goals rfl
def Att.map(g:AV→AV)(x:Att):Att:={ x with vals:=g x.vals }
theorem Att.map_mk(g:AV→AV)(slot:Int)(root:Rt)(target:Cp)(vals:AV):Att.map g ⟨slot,root,target,vals⟩=⟨slot,root,target,g vals⟩:=rfl
def Att.good(x:Att):Bool:=x.vals.cell
theorem Att.good_mk(slot:Int)(root:Rt)(target:Cp)(vals:AV):Att.good ⟨slot,root,target,vals⟩=(vals.cell):=rfl
def Att.Pure(x:Att):Prop:=Pu x.vals
theorem od_(x:Att):aS_ (bl_ x)=x.good:=by simp[bl_,Att.good,Bool.and_assoc,aZ_,bj_,bk_,AV.cell,eN_,cz_]
theorem ex_(x:Att):PuL (bl_ x)↔x.Pure:=by simp[bl_,Att.Pure,cR_,PuL,Pu,dK_,cw_]
theorem zR_(ρ:Nat→Nat)(x:Att):ci_ ρ (bl_ x)=bl_ (x.map (ren ρ)):=by simp only[bl_,Att.map,hx_,ci_,ren,qW_,nf_]
theorem DE_(σ:St)(zs:List Nat)(x:Att):fzL σ zs (bl_ x)=bl_ (x.map (fz σ zs)):=by simp only[bl_,Att.map,ii_,fzL,fz,tW_,qF_]
def wM_:Att:=⟨0,rt0,cp0,.sl 0 true []⟩
structure Clm where
 src:Int
 tgt:Int
 root:Rt
 vals:AV
 deriving Inhabited
def bQ_(x:Clm):List AV:=.int .u64 x.src::(.int .u64 x.tgt::(rtc x.root++[x.vals]))
@[simp] theorem eF_(x:Clm):(bQ_ x).length=35:=by simp only[bQ_,List.length_cons,List.length_append,List.length_nil,ai_]
theorem Jm_(src:Int)(tgt:Int)(root:Rt)(vals:AV):.int .u64 src::(.int .u64 tgt::(rtc root++[vals]))=bQ_ ⟨src,tgt,root,vals⟩:=rfl
theorem Jn_(x:Clm):cut (bQ_ x) 0 35=bQ_ x:=cA_ (eF_ x)
theorem AQ_(x:Clm):cut (bQ_ x) 0 1=[.int .u64 x.src]:=by unfold bQ_;all_goals rfl
theorem AS_(x:Clm)(v:Int):spl (bQ_ x) 0 [.int .u64 v]=bQ_ { x with src:=v }:=by unfold bQ_;all_goals rfl
theorem AR_(x:Clm):cut (bQ_ x) 1 1=[.int .u64 x.tgt]:=by unfold bQ_;rw[cS1];simp only[Nat.reduceSub];all_goals rfl
theorem AT_(x:Clm)(v:Int):spl (bQ_ x) 1 [.int .u64 v]=bQ_ { x with tgt:=v }:=by unfold bQ_;rw[pS1];simp only[Nat.reduceSub];all_goals rfl
theorem xd_(x:Clm)(o n:Nat)(h1:2≤o)(h2:o+n≤34):cut (bQ_ x) o n=cut (rtc x.root) (o-2) n:=by unfold bQ_;rw[cS1,cS1,cL1 (ai_ _)];rw[show o-1-1=o-2 by omega]
theorem xf_(x:Clm)(o:Nat)(vs:List AV)(h1:2≤o)(h2:o+vs.length≤34):spl (bQ_ x) o vs=.int .u64 x.src::(.int .u64 x.tgt::(spl (rtc x.root) (o-2) vs++[x.vals])):=by unfold bQ_;rw[pS1,pS1,pL1 (ai_ _)];rw[show o-1-1=o-2 by omega]
theorem xe_(x:Clm):cut (bQ_ x) 34 1=[x.vals]:=by unfold bQ_;rw[cS1,cS1,cR1 (ai_ _)];simp only[Nat.reduceSub];all_goals rfl
theorem xg_(x:Clm)(v:AV):spl (bQ_ x) 34 [v]=bQ_ { x with vals:=v }:=by unfold bQ_;rw[pS1,pS1,pR1 (ai_ _)];simp only[Nat.reduceSub];all_goals rfl
def Clm.map(g:AV→AV)(x:Clm):Clm:={ x with vals:=g x.vals }
theorem Clm.map_mk(g:AV→AV)(src:Int)(tgt:Int)(root:Rt)(vals:AV):Clm.map g ⟨src,tgt,root,vals⟩=⟨src,tgt,root,g vals⟩:=rfl
def Clm.good(x:Clm):Bool:=x.vals.cell
theorem Clm.good_mk(src:Int)(tgt:Int)(root:Rt)(vals:AV):Clm.good ⟨src,tgt,root,vals⟩=(vals.cell):=rfl
def Clm.Pure(x:Clm):Prop:=Pu x.vals
theorem of_(x:Clm):aS_ (bQ_ x)=x.good:=by simp[bQ_,Clm.good,Bool.and_assoc,aZ_,bj_,bk_,AV.cell,cz_]
theorem jV_(x:Clm):PuL (bQ_ x)↔x.Pure:=by simp[bQ_,Clm.Pure,cR_,PuL,Pu,cw_]
theorem zT_(ρ:Nat→Nat)(x:Clm):ci_ ρ (bQ_ x)=bQ_ (x.map (ren ρ)):=by simp only[bQ_,Clm.map,hx_,ci_,ren,nf_]
theorem DH_(σ:St)(zs:List Nat)(x:Clm):fzL σ zs (bQ_ x)=bQ_ (x.map (fz σ zs)):=by simp only[bQ_,Clm.map,ii_,fzL,fz,qF_]
def Oy_:Clm:=⟨0,0,rt0,.sl 0 true []⟩
structure Slg where
 fst:Clm
 snd:Clm
 deriving Inhabited
def cy_(x:Slg):List AV:=bQ_ x.fst++(bQ_ x.snd)
@[simp] theorem cs_(x:Slg):(cy_ x).length=70:=by simp only[cy_,List.length_cons,List.length_append,List.length_nil,eF_]
theorem KO_(fst:Clm)(snd:Clm):bQ_ fst++(bQ_ snd)=cy_ ⟨fst,snd⟩:=rfl
theorem KP_(x:Slg):cut (cy_ x) 0 70=cy_ x:=cA_ (cs_ x)
theorem BY_(x:Slg)(o n:Nat)(h1:0≤o)(h2:o+n≤35):cut (cy_ x) o n=cut (bQ_ x.fst) (o-0) n:=by unfold cy_;rw[cL1 (eF_ _)];all_goals rfl
theorem Ca_(x:Slg)(o:Nat)(vs:List AV)(h1:0≤o)(h2:o+vs.length≤35):spl (cy_ x) o vs=spl (bQ_ x.fst) (o-0) vs++(bQ_ x.snd):=by unfold cy_;rw[pL1 (eF_ _)];all_goals rfl
theorem BZ_(x:Slg)(o n:Nat)(h1:35≤o)(h2:o+n≤70):cut (cy_ x) o n=cut (bQ_ x.snd) (o-35) n:=by unfold cy_;rw[cR1 (eF_ _)];all_goals rfl
theorem Cb_(x:Slg)(o:Nat)(vs:List AV)(h1:35≤o)(h2:o+vs.length≤70):spl (cy_ x) o vs=bQ_ x.fst++(spl (bQ_ x.snd) (o-35) vs):=by unfold cy_;rw[pR1 (eF_ _)];all_goals rfl
def Slg.map(g:AV→AV)(x:Slg):Slg:={ x with fst:=x.fst.map g,snd:=x.snd.map g }
theorem Slg.map_mk(g:AV→AV)(fst:Clm)(snd:Clm):Slg.map g ⟨fst,snd⟩=⟨fst.map g,snd.map g⟩:=rfl
def Slg.good(x:Slg):Bool:=x.fst.good&&x.snd.good
theorem Slg.good_mk(fst:Clm)(snd:Clm):Slg.good ⟨fst,snd⟩=(fst.good&&snd.good):=rfl
def Slg.Pure(x:Slg):Prop:=x.fst.Pure∧x.snd.Pure
theorem oj_(x:Slg):aS_ (cy_ x)=x.good:=by simp[cy_,Slg.good,Bool.and_assoc,aZ_,bj_,bk_,AV.cell,of_]
theorem fY_(x:Slg):PuL (cy_ x)↔x.Pure:=by simp[cy_,Slg.Pure,cR_,PuL,Pu,jV_]
theorem zW_(ρ:Nat→Nat)(x:Slg):ci_ ρ (cy_ x)=cy_ (x.map (ren ρ)):=by simp only[cy_,Slg.map,hx_,ci_,ren,zT_]
theorem DK_(σ:St)(zs:List Nat)(x:Slg):fzL σ zs (cy_ x)=cy_ (x.map (fz σ zs)):=by simp only[cy_,Slg.map,ii_,fzL,fz,DH_]
def yi_:Slg:=⟨Oy_,Oy_⟩
structure Tab where
 cp:Cp
 bals:AV
 deriving Inhabited
def aY_(x:Tab):List AV:=cpC x.cp++[x.bals]
@[simp] theorem da_(x:Tab):(aY_ x).length=34:=by simp only[aY_,List.length_cons,List.length_append,List.length_nil,am_]
theorem La_(cp:Cp)(bals:AV):cpC cp++[bals]=aY_ ⟨cp,bals⟩:=rfl
theorem Lb_(x:Tab):cut (aY_ x) 0 34=aY_ x:=cA_ (da_ x)
theorem EW_(x:Tab)(o n:Nat)(h1:0≤o)(h2:o+n≤33):cut (aY_ x) o n=cut (cpC x.cp) (o-0) n:=by unfold aY_;rw[cL1 (am_ _)];all_goals rfl
theorem EX_(x:Tab)(o:Nat)(vs:List AV)(h1:0≤o)(h2:o+vs.length≤33):spl (aY_ x) o vs=spl (cpC x.cp) (o-0) vs++[x.bals]:=by unfold aY_;rw[pL1 (am_ _)];all_goals rfl
theorem yA_(x:Tab):cut (aY_ x) 33 1=[x.bals]:=by unfold aY_;rw[cR1 (am_ _)];simp only[Nat.reduceSub];all_goals rfl
theorem yB_(x:Tab)(v:AV):spl (aY_ x) 33 [v]=aY_ { x with bals:=v }:=by unfold aY_;rw[pR1 (am_ _)];simp only[Nat.reduceSub];all_goals rfl
def Tab.map(g:AV→AV)(x:Tab):Tab:={ x with bals:=g x.bals }
theorem Tab.map_mk(g:AV→AV)(cp:Cp)(bals:AV):Tab.map g ⟨cp,bals⟩=⟨cp,g bals⟩:=rfl
def Tab.good(x:Tab):Bool:=x.bals.cell
theorem Tab.good_mk(cp:Cp)(bals:AV):Tab.good ⟨cp,bals⟩=(bals.cell):=rfl
def Tab.Pure(x:Tab):Prop:=Pu x.bals
theorem ol_(x:Tab):aS_ (aY_ x)=x.good:=by simp[aY_,Tab.good,Bool.and_assoc,aZ_,bj_,bk_,AV.cell,eN_]
theorem ec_(x:Tab):PuL (aY_ x)↔x.Pure:=by simp[aY_,Tab.Pure,cR_,PuL,Pu,dK_]
theorem zY_(ρ:Nat→Nat)(x:Tab):ci_ ρ (aY_ x)=aY_ (x.map (ren ρ)):=by simp only[aY_,Tab.map,hx_,ci_,ren,qW_]
theorem DM_(σ:St)(zs:List Nat)(x:Tab):fzL σ zs (aY_ x)=aY_ (x.map (fz σ zs)):=by simp only[aY_,Tab.map,ii_,fzL,fz,tW_]
def rg_:Tab:=⟨cp0,.sl 0 true []⟩
structure Vdt where
 tag:Int
 kind:Int
 latest:Rt
 deriving Inhabited,DecidableEq
def cG_(x:Vdt):List AV:=.int .u64 x.tag::(.int .i64 x.kind::(rtc x.latest))
@[simp] theorem dD_(x:Vdt):(cG_ x).length=34:=by simp only[cG_,List.length_cons,List.length_append,List.length_nil,ai_]
theorem Lq_(tag:Int)(kind:Int)(latest:Rt):.int .u64 tag::(.int .i64 kind::(rtc latest))=cG_ ⟨tag,kind,latest⟩:=rfl
theorem Lr_(x:Vdt):cut (cG_ x) 0 34=cG_ x:=cA_ (dD_ x)
theorem CA_(x:Vdt):cut (cG_ x) 0 1=[.int .u64 x.tag]:=by unfold cG_;all_goals rfl
theorem CB_(x:Vdt)(v:Int):spl (cG_ x) 0 [.int .u64 v]=cG_ { x with tag:=v }:=by unfold cG_;all_goals rfl
theorem yD_(x:Vdt):cut (cG_ x) 1 1=[.int .i64 x.kind]:=by unfold cG_;rw[cS1];simp only[Nat.reduceSub];all_goals rfl
theorem yE_(x:Vdt)(v:Int):spl (cG_ x) 1 [.int .i64 v]=cG_ { x with kind:=v }:=by unfold cG_;rw[pS1];simp only[Nat.reduceSub];all_goals rfl
theorem tN_(x:Vdt)(o n:Nat)(h1:2≤o)(h2:o+n≤34):cut (cG_ x) o n=cut (rtc x.latest) (o-2) n:=by unfold cG_;rw[cS1,cS1];rw[show o-1-1=o-2 by omega]
theorem tO_(x:Vdt)(o:Nat)(vs:List AV)(h1:2≤o)(h2:o+vs.length≤34):spl (cG_ x) o vs=.int .u64 x.tag::(.int .i64 x.kind::(spl (rtc x.latest) (o-2) vs)):=by unfold cG_;rw[pS1,pS1];rw[show o-1-1=o-2 by omega]
theorem om_(x:Vdt):aS_ (cG_ x)=true:=by simp[cG_,aZ_,bj_,bk_,AV.cell,cz_]
theorem lR_(x:Vdt):PuL (cG_ x):=by simp[cG_,cR_,PuL,Pu,cw_]
theorem zZ_(ρ:Nat→Nat)(x:Vdt):ci_ ρ (cG_ x)=cG_ x:=(lR_ x).ren ρ
theorem DN_(σ:St)(zs:List Nat)(x:Vdt):fzL σ zs (cG_ x)=cG_ x:=(lR_ x).fz σ zs
theorem Gq_(x:Vdt):(cG_ x).map cx_=cB_ [(34,1)]:=by simp only[cG_,List.map_cons,List.map_append,List.map_nil,cx_,gK_];decide +kernel
theorem JK_(x:Vdt):eE_ [(34,1)] (cG_ x)=true:=ef_ (Gq_ x)
theorem IM_(x y:Vdt):dU_ (cG_ x) (cG_ y)=some (decide (x=y)):=by cases x;cases y;simp[cG_,fk_,dU_,pg_,ai_,aE_,hc_,Bool.beq_eq_decide_eq,ij_,Bool.and_assoc,Bool.decide_and]
def gR_:Vdt:=⟨0,0,rt0⟩
structure SOp where
 kind:Int
 blk:Blk
 att:Att
 slg:Slg
 tab:Tab
 vdt:Vdt
 write:Int
 keep:Int
 deriving Inhabited
def bL_(x:SOp):List AV:=.int .i64 x.kind::(ap_ x.blk++(bl_ x.att++(cy_ x.slg++(aY_ x.tab++(cG_ x.vdt++(.int .i64 x.write::[.int .i64 x.keep]))))))
@[simp] theorem sF_(x:SOp):(bL_ x).length=446:=by simp only[bL_,List.length_cons,List.length_append,List.length_nil,bW_,aU_,cs_,da_,dD_]
theorem KJ_(kind:Int)(blk:Blk)(att:Att)(slg:Slg)(tab:Tab)(vdt:Vdt)(write:Int)(keep:Int):.int .i64 kind::(ap_ blk++(bl_ att++(cy_ slg++(aY_ tab++(cG_ vdt++(.int .i64 write::[.int .i64 keep]))))))=bL_ ⟨kind,blk,att,slg,tab,vdt,write,keep⟩:=rfl
theorem KK_(x:SOp):cut (bL_ x) 0 446=bL_ x:=cA_ (sF_ x)
theorem ye_(x:SOp):cut (bL_ x) 0 1=[.int .i64 x.kind]:=by unfold bL_;all_goals rfl
theorem yg_(x:SOp)(v:Int):spl (bL_ x) 0 [.int .i64 v]=bL_ { x with kind:=v }:=by unfold bL_;all_goals rfl
theorem BO_(x:SOp)(o n:Nat)(h1:1≤o)(h2:o+n≤239):cut (bL_ x) o n=cut (ap_ x.blk) (o-1) n:=by unfold bL_;rw[cS1,cL1 (aU_ _)];all_goals rfl
theorem BT_(x:SOp)(o:Nat)(vs:List AV)(h1:1≤o)(h2:o+vs.length≤239):spl (bL_ x) o vs=.int .i64 x.kind::(spl (ap_ x.blk) (o-1) vs++(bl_ x.att++(cy_ x.slg++(aY_ x.tab++(cG_ x.vdt++(.int .i64 x.write::[.int .i64 x.keep])))))):=by unfold bL_;rw[pS1,pL1 (aU_ _)];all_goals rfl
theorem BN_(x:SOp)(o n:Nat)(h1:239≤o)(h2:o+n≤306):cut (bL_ x) o n=cut (bl_ x.att) (o-239) n:=by unfold bL_;rw[cS1,cR1 (aU_ _),cL1 (bW_ _)];rw[show o-1-238=o-239 by omega]
theorem BS_(x:SOp)(o:Nat)(vs:List AV)(h1:239≤o)(h2:o+vs.length≤306):spl (bL_ x) o vs=.int .i64 x.kind::(ap_ x.blk++(spl (bl_ x.att) (o-239) vs++(cy_ x.slg++(aY_ x.tab++(cG_ x.vdt++(.int .i64 x.write::[.int .i64 x.keep])))))):=by unfold bL_;rw[pS1,pR1 (aU_ _),pL1 (bW_ _)];rw[show o-1-238=o-239 by omega]
theorem BP_(x:SOp)(o n:Nat)(h1:306≤o)(h2:o+n≤376):cut (bL_ x) o n=cut (cy_ x.slg) (o-306) n:=by unfold bL_;rw[cS1,cR1 (aU_ _)];rw[cR1 (bW_ _),cL1 (cs_ _)];rw[show o-1-238-67=o-306 by omega]
theorem BU_(x:SOp)(o:Nat)(vs:List AV)(h1:306≤o)(h2:o+vs.length≤376):spl (bL_ x) o vs=.int .i64 x.kind::(ap_ x.blk++(bl_ x.att++(spl (cy_ x.slg) (o-306) vs++(aY_ x.tab++(cG_ x.vdt++(.int .i64 x.write::[.int .i64 x.keep])))))):=by unfold bL_;rw[pS1,pR1 (aU_ _)];rw[pR1 (bW_ _),pL1 (cs_ _)];rw[show o-1-238-67=o-306 by omega]
theorem BQ_(x:SOp)(o n:Nat)(h1:376≤o)(h2:o+n≤410):cut (bL_ x) o n=cut (aY_ x.tab) (o-376) n:=by unfold bL_;rw[cS1,cR1 (aU_ _)];rw[cR1 (bW_ _),cR1 (cs_ _),cL1 (da_ _)];rw[show o-1-238-67-70=o-376 by omega]
theorem BV_(x:SOp)(o:Nat)(vs:List AV)(h1:376≤o)(h2:o+vs.length≤410):spl (bL_ x) o vs=.int .i64 x.kind::(ap_ x.blk++(bl_ x.att++(cy_ x.slg++(spl (aY_ x.tab) (o-376) vs++(cG_ x.vdt++(.int .i64 x.write::[.int .i64 x.keep])))))):=by unfold bL_;rw[pS1,pR1 (aU_ _)];rw[pR1 (bW_ _),pR1 (cs_ _),pL1 (da_ _)];rw[show o-1-238-67-70=o-376 by omega]
theorem BR_(x:SOp)(o n:Nat)(h1:410≤o)(h2:o+n≤444):cut (bL_ x) o n=cut (cG_ x.vdt) (o-410) n:=by unfold bL_;rw[cS1,cR1 (aU_ _)];rw[cR1 (bW_ _),cR1 (cs_ _)];rw[cR1 (da_ _),cL1 (dD_ _)];rw[show o-1-238-67-70-34=o-410 by omega]
theorem BW_(x:SOp)(o:Nat)(vs:List AV)(h1:410≤o)(h2:o+vs.length≤444):spl (bL_ x) o vs=.int .i64 x.kind::(ap_ x.blk++(bl_ x.att++(cy_ x.slg++(aY_ x.tab++(spl (cG_ x.vdt) (o-410) vs++(.int .i64 x.write::[.int .i64 x.keep])))))):=by unfold bL_;rw[pS1,pR1 (aU_ _)];rw[pR1 (bW_ _),pR1 (cs_ _)];rw[pR1 (da_ _),pL1 (dD_ _)];rw[show o-1-238-67-70-34=o-410 by omega]
theorem wn_(x:SOp):cut (bL_ x) 444 1=[.int .i64 x.write]:=by unfold bL_;rw[cS1,cR1 (aU_ _)];rw[cR1 (bW_ _),cR1 (cs_ _)];rw[cR1 (da_ _),cR1 (dD_ _)];simp only[Nat.reduceSub];all_goals rfl
theorem wo_(x:SOp)(v:Int):spl (bL_ x) 444 [.int .i64 v]=bL_ { x with write:=v }:=by unfold bL_;rw[pS1,pR1 (aU_ _)];rw[pR1 (bW_ _),pR1 (cs_ _)];rw[pR1 (da_ _),pR1 (dD_ _)];simp only[Nat.reduceSub];all_goals rfl
theorem yd_(x:SOp):cut (bL_ x) 445 1=[.int .i64 x.keep]:=by unfold bL_;rw[cS1,cR1 (aU_ _)];rw[cR1 (bW_ _),cR1 (cs_ _)];rw[cR1 (da_ _),cR1 (dD_ _),cS1];simp only[Nat.reduceSub];all_goals rfl
theorem yf_(x:SOp)(v:Int):spl (bL_ x) 445 [.int .i64 v]=bL_ { x with keep:=v }:=by unfold bL_;rw[pS1,pR1 (aU_ _)];rw[pR1 (bW_ _),pR1 (cs_ _)];rw[pR1 (da_ _),pR1 (dD_ _),pS1];simp only[Nat.reduceSub];all_goals rfl
def SOp.map(g:AV→AV)(x:SOp):SOp:={ x with att:=x.att.map g,slg:=x.slg.map g,tab:=x.tab.map g }
theorem SOp.map_mk(g:AV→AV)(kind:Int)(blk:Blk)(att:Att)(slg:Slg)(tab:Tab)(vdt:Vdt)(write:Int)(keep:Int):SOp.map g ⟨kind,blk,att,slg,tab,vdt,write,keep⟩=⟨kind,blk,att.map g,slg.map g,tab.map g,vdt,write,keep⟩:=rfl
def SOp.good(x:SOp):Bool:=x.att.good&&x.slg.good&&x.tab.good
theorem SOp.good_mk(kind:Int)(blk:Blk)(att:Att)(slg:Slg)(tab:Tab)(vdt:Vdt)(write:Int)(keep:Int):SOp.good ⟨kind,blk,att,slg,tab,vdt,write,keep⟩=(att.good&&slg.good&&tab.good):=rfl
def SOp.Pure(x:SOp):Prop:=x.att.Pure∧x.slg.Pure∧x.tab.Pure
theorem wI_(x:SOp):aS_ (bL_ x)=x.good:=by simp[bL_,SOp.good,Bool.and_assoc,aZ_,bj_,bk_,AV.cell,od_,jJ_,oj_,ol_,om_]
theorem fj_(x:SOp):PuL (bL_ x)↔x.Pure:=by simp[bL_,SOp.Pure,cR_,PuL,Pu,ex_,ea_,fY_,ec_,lR_]
theorem KD_(ρ:Nat→Nat)(x:SOp):ci_ ρ (bL_ x)=bL_ (x.map (ren ρ)):=by simp only[bL_,SOp.map,hx_,ci_,ren,zR_,zS_,zW_,zY_,zZ_]
theorem Mx_(σ:St)(zs:List Nat)(x:SOp):fzL σ zs (bL_ x)=bL_ (x.map (fz σ zs)):=by simp only[bL_,SOp.map,ii_,fzL,fz,DE_,DF_,DK_,DM_,DN_]
def RO_:SOp:=⟨0,cF_,wM_,yi_,rg_,gR_,0,0⟩
end Go.FH
namespace Go.FH
open Go Go.RowKit
set_option linter.unusedVariables false
theorem SB_(P:Program)(nv:Nat)(vs:List AV)(ts:List (Nat×AV))(σ:St)(K:AV→St→Prop):type_of% (evO P ⟨nv,vs,ts⟩ σ K):=evO P ⟨nv,vs,ts⟩ σ K
theorem SC_(P:Program)(nv:Nat)(vs:List AV)(ts:List (Nat×AV))(σ:St)(K:AV→St→Prop):type_of% (evM P ⟨nv,vs,ts⟩ σ K):=evM P ⟨nv,vs,ts⟩ σ K
theorem SD_(P:Program)(nv:Nat)(vs:List AV)(ts:List (Nat×AV))(σ:St)(K:AV→St→Prop):type_of% (evA P ⟨nv,vs,ts⟩ σ K):=evA P ⟨nv,vs,ts⟩ σ K
theorem SE_(P:Program)(nv:Nat)(vs:List AV)(ts:List (Nat×AV))(σ:St)(n:Nat)(K:AV→List Nat→List Nat→St→Prop):type_of% (RA_ P σ n nv vs ts K):=RA_ P σ n nv vs ts K
theorem SF_(P:Program)(nv:Nat)(vs:List AV)(ts:List (Nat×AV))(σ:St)(K:AV→St→Prop):type_of% (RB_ P σ K nv vs ts):=RB_ P σ K nv vs ts
attribute [go_sem] SE_ SF_ Sz_ SA_
attribute [go_sem] SB_ SC_ SD_ evF evQ evR evL evD opF evH evK GB_ GA_ Ra_ QZ_ Rb_ Fr_ MM_ hI_ nJ_ AOp.allocs vD_ hu_ List.length_set List.length_append List.length_cons List.length_nil List.map_cons List.map_nil List.set_cons_zero List.set_cons_succ List.getElem?_cons_zero List.getElem?_cons_succ List.getElem?_nil List.nil_append List.cons_append List.append_nil if_true if_false true_and and_true true_or or_true Bool.false_eq_true not_false_eq_true not_true_eq_false Int.toNat_natCast Bool.not_true Bool.not_false cond_true cond_false Int.natCast_nonneg forall_const false_implies implies_true Nat.sub_zero Nat.zero_add Nat.add_zero List.drop_zero decide_true decide_false qC_ py_ DB_ nA_ Qg_ Qf_ Qe_ Rz_ Ry_ EO_ Qo_ Qn_ Qm_ RR_ RS_ Np_ Od_ ai_ aE_ cz_ kF_ nf_ Ev_ hc_ CQ_ DC_ Mq_ Jl_ sB_ Mi_ am_ Mh_ FJ_ FL_ FK_ FM_ eN_ qW_ Mp_ uj_ Kt_ aX_ Ks_ GT_ GV_ GS_ GU_ oi_ KC_ JI_ yP_ IX_ aU_ IW_ AE_ AG_ wW_ xa_ wV_ wZ_ sR_ sT_ rq_ rr_ wT_ wX_ up_ uq_ wU_ wY_ AD_ AF_ sS_ sU_ jJ_ zS_ JE_ yN_ IP_ bW_ IO_ wO_ wR_ wN_ wQ_ sP_ sQ_ wP_ wS_ Att.map_mk Att.good_mk od_ zR_ Jn_ eF_ Jm_ AQ_ AS_ AR_ AT_ xd_ xf_ xe_ xg_ Clm.map_mk Clm.good_mk of_ zT_ KP_ cs_ KO_ BY_ Ca_ BZ_ Cb_ Slg.map_mk Slg.good_mk oj_ zW_ Lb_ da_ La_ EW_ EX_ yA_ yB_ Tab.map_mk Tab.good_mk ol_ zY_ Lr_ dD_ Lq_ CA_ CB_ yD_ yE_ tN_ tO_ om_ zZ_ JK_ IM_ KK_ sF_ KJ_ ye_ yg_ BO_ BT_ BN_ BS_ BP_ BU_ BQ_ BV_ BR_ BW_ wn_ wo_ yd_ yf_ SOp.map_mk SOp.good_mk wI_ KD_ cp0 yb_ cF_ wM_ Oy_ yi_ rg_ gR_ RO_ bk_ aZ_ bj_ AV.cell List.all_cons List.all_nil Bool.and_true Bool.true_and List.replicate_succ List.replicate_zero beq_self_eq_true ne_eq ci_ ren rdS hW_ List.flatten_cons List.flatten_nil lV_ Ot_ LU_ LT_ List.take_of_length_le Nat.le_refl iX_ jZ_ List.isEmpty_nil List.isEmpty_cons List.filter_cons List.filter_nil decide_eq_true_eq bne_self_eq_false Bool.bne_false Bool.bne_true Option.isNone_some Option.isNone_none Bool.and_false Bool.false_and Bool.not_eq_true Bool.not_eq_false eq_self LX_ Bool.true_eq_false forall_eq
attribute [go_sem] Hb_ Ey_ Ex_ pB_ Option.map_some
attribute [go_sem] qF_ HM_ tW_ Mv_ DF_ DE_ DH_ DK_ DM_ DN_ Mx_ jQ_ fF_ gu_ aw_ gt_ rn fh_ nB_ cC_ fz fzL fzO qE_ ds_ eH_ List.getD_cons_zero List.getD_cons_succ List.getD_nil List.take_zero List.take_succ_cons List.take_nil List.drop_succ_cons List.drop_nil List.getElem?_cons_zero List.getElem?_cons_succ List.getElem?_nil Option.map_none and_self List.mem_cons List.not_mem_nil or_false false_or or_self List.range_zero List.range_succ List.mem_append List.mem_singleton List.contains_eq_mem List.mem_range Nat.sub_self eQ_
structure Hid(q:Prop):Prop where
 out:q
theorem evd{p:Prop}(h:p:=by((try simp only[go_sem,Nat.reduceAdd,Nat.reduceSub,Nat.reduceMul,Nat.reduceLT,Nat.reduceLeDiff,Nat.reduceEqDiff,reduceIte,Int.reduceToNat,Int.reduceLT,Int.reduceLE,Int.reduceEq,Int.reduceNeg,reduceCtorEq,Int.reduceBEq,Int.reduceBNe]);try rfl)):p:=h
theorem evg{p q:Prop}(hq:q)(h:Hid q→p:=by(intro hq;(try simp only[go_sem,Nat.reduceAdd,Nat.reduceSub,Nat.reduceMul,Nat.reduceLT,Nat.reduceLeDiff,Nat.reduceEqDiff,reduceIte,Int.reduceToNat,Int.reduceLT,Int.reduceLE,Int.reduceEq,Int.reduceNeg,reduceCtorEq,Int.reduceBEq,Int.reduceBNe]);exact hq.out)):p:=h ⟨hq⟩
theorem aa_{p q:Prop}(hq:q) (h:Hid q→p:=by
 (intro hq
  (first|with_reducible (first|refine fw_ ?_|refine fU_ ?_|refine eX_ ?_|refine hz_ (by simp only[List.length_cons,List.length_nil]) ?_|refine hB_ ?_|refine hA_ ?_|refine jE_ ?_)|(simp only[go_sem,Nat.reduceAdd,Nat.reduceSub,Nat.reduceMul,Nat.reduceLT,Nat.reduceLeDiff,Nat.reduceEqDiff,reduceIte,Int.reduceToNat,Int.reduceLT,Int.reduceLE,Int.reduceEq,Int.reduceNeg,reduceCtorEq,Int.reduceBEq,Int.reduceBNe])|with_reducible refine And.intro (iU_ (by decide)) ?_|(with_reducible refine And.intro ?_ ?_;first|omega|decide|(simp;done)|(simp;omega)))
  repeat(first|with_reducible (first|refine fw_ ?_|refine fU_ ?_|refine eX_ ?_|refine hz_ (by simp only[List.length_cons,List.length_nil]) ?_|refine hB_ ?_|refine hA_ ?_|refine jE_ ?_)|(simp only[go_sem,Nat.reduceAdd,Nat.reduceSub,Nat.reduceMul,Nat.reduceLT,Nat.reduceLeDiff,Nat.reduceEqDiff,reduceIte,Int.reduceToNat,Int.reduceLT,Int.reduceLE,Int.reduceEq,Int.reduceNeg,reduceCtorEq,Int.reduceBEq,Int.reduceBNe])|with_reducible refine And.intro (iU_ (by decide)) ?_|(with_reducible refine And.intro ?_ ?_;first|omega|decide|(simp;done)|(simp;omega)))
  exact hq.out)):p:=h ⟨hq⟩
theorem EP_{p q:Prop}(hq:q) (h:Hid q→p:=by
 (intro hq
  repeat(first|(simp only[go_sem,Nat.reduceAdd,Nat.reduceSub,Nat.reduceMul,Nat.reduceLT,Nat.reduceLeDiff,Nat.reduceEqDiff,reduceIte,Int.reduceToNat,Int.reduceLT,Int.reduceLE,Int.reduceEq,Int.reduceNeg,reduceCtorEq,Int.reduceBEq,Int.reduceBNe])|with_reducible refine And.intro (iU_ (by decide)) ?_|(with_reducible refine And.intro ?_ ?_;first|omega|decide|(simp;done)|(simp;omega)))
  exact hq.out)):p:=h ⟨hq⟩
section
variable{P:Program}{nt k:Nat}{fr:Fr}{σ:St}{c:Opd}{x y:ad_}{Q:Ex→Fr→St→Prop}
theorem ac_(h:Tri P nt k x Q fr σ)(hb:c.ev fr=.bool true:=by((try simp only[go_sem,Nat.reduceAdd,Nat.reduceSub,Nat.reduceMul,Nat.reduceLT,Nat.reduceLeDiff,Nat.reduceEqDiff,reduceIte,Int.reduceToNat,Int.reduceLT,Int.reduceLE,Int.reduceEq,Int.reduceNeg,reduceCtorEq,Int.reduceBEq,Int.reduceBNe]);try rfl)):Tri P nt k (.cond c x y) Q fr σ:=bM_ hb (fun _=>h) (fun h=>by cases h)
theorem ab_(h:Tri P nt k y Q fr σ)(hb:c.ev fr=.bool false:=by((try simp only[go_sem,Nat.reduceAdd,Nat.reduceSub,Nat.reduceMul,Nat.reduceLT,Nat.reduceLeDiff,Nat.reduceEqDiff,reduceIte,Int.reduceToNat,Int.reduceLT,Int.reduceLE,Int.reduceEq,Int.reduceNeg,reduceCtorEq,Int.reduceBEq,Int.reduceBNe]);try rfl)):Tri P nt k (.cond c x y) Q fr σ:=bM_ hb (fun h=>by cases h) (fun _=>h)
end
end Go.FH
namespace Go.FH
open Go Go.RowKit
set_option linter.unusedVariables false
set_option linter.unusedSimpArgs false
theorem evP:
 (∀n σ K,hv_ n σ K .mkm []=K (.mp n) [n] true (σ.set n (.map [])))∧
 (∀n σ K kk z ok id k,hv_ n σ K (.lkp kk z ok) [.mp id,k]=(kt_ kk k=true∧match σ[id]? with
  | some (.map es) => (match lM_ kk k es with
    |some (some j)=>K (if ok then .tup [(es.getD j []).getD 1 .dead,.bool true]else (es.getD j []).getD 1 .dead) [id] false σ
    |some none=>K (if ok then .tup [z,.bool false]else z) [id] false σ
    |none=>False)
  |_=>False))∧
 (∀n σ K kk id k v,hv_ n σ K (.upd kk) [.mp id,k,v]=(kt_ kk k=true∧match σ[id]? with
  | some (.map es) => (match lM_ kk k es with
    |some (some j)=>K (.tup []) [id] true (σ.set id (.map (es.set j [k,v])))
    |some none=>K (.tup []) [id] true (σ.set id (.map (es++[[k,v]])))
    |none=>False)
  |_=>False))∧
 (∀n σ K id,hv_ n σ K .rng [.mp id]=(match σ[id]? with
  |some (.map es)=>K (.ptr n 0) [n,id] true (σ.set n (.iter id es.length []))
  |_=>False))∧
 (∀n σ K id,hv_ n σ K .ent [.ptr id 0]=(match σ[id]? with
  | some (.iter m N seen) => (match seen.getLast?, σ[m]? with
    |some i,some (.map es)=>es.length=N∧i<N∧K (.tup (es.getD i [])) [id,m] false σ
    |_,_=>False)
  |_=>False))∧
 (∀id σ K,kW_ (.ptr id 0) σ K=(match σ[id]? with
  | some (.iter m N seen) => (match σ[m]? with
    |some (.map es)=>id≠m∧es.length=N∧(∀i,i<N→i∉seen→K (.tup (.bool true::es.getD i [])) (σ.set id (.iter m N (seen++[i]))))∧((∀i,i<N→i∈seen)→K (.tup [.bool false]) σ)
    |_=>False)
  |_=>False))∧
 (∀k n,kt_ none (.int k n)=true)∧(∀n cs,kt_ (some n) (.agg cs)=eE_ [(n,1)] cs)∧
 (∀id,AV.cellsOf (.mp id)=[.mp id])∧(∀σ zs id,fz σ zs (.mp id)=.mp id)∧(∀ρ id,ren ρ (.mp id)=.mp (ρ id)):=
 ⟨fun _ _ _=>rfl,fun _ _ _ _ _ _ _ _=>rfl,fun _ _ _ _ _ _ _=>rfl,fun _ _ _ _=>rfl,fun _ _ _ _=>rfl,fun _ _ _=>rfl,fun _ _=>rfl,fun _ _=>rfl,fun _=>rfl,fun _ _ _=>rfl,fun _ _=>rfl⟩
attribute [go_sem] evP List.getLast?_concat List.getLast?_singleton
end Go.FH
namespace Go.FH
set_option linter.unusedVariables false
set_option linter.unusedSimpArgs false
open Go Go.RowKit
section
variable{P:Program}{C:Cx}{nt k:Nat}{fr:Fr}{σ:St}{loc:Nat→Option Loc}{a:Act}{w:World}
theorem SR.own(h:SR C nt k fr σ loc a w)(e:Nat):SR C nt k fr (σ++[.vec e []]) (ff_ loc σ.length ⟨false,0,0,0⟩) a w:=by
 have hg:loc σ.length=none:=h.rel.beyond _ (Nat.le_refl _);have hp:=h.pad 1;obtain⟨k1,k2⟩:=hp.rel.add (n:=σ.length) (by simp) hg (.vec e []) ⟨false,0,0,0⟩ w (Ev.refl _ _) (σ++List.replicate 1 .gone) (fun _ _ h _=>h) rfl (fun id o' L' _ _ _ _=>⟨(fun h=>by cases h),rfl⟩) (fun h=>by cases h) (fun E _ _=>.inl ⟨rfl,rfl⟩);have hs:(σ++List.replicate 1 bf_.gone).set σ.length (.vec e [])=σ++[.vec e []]:=nD_ σ _;rw[hs]at k1 k2;have hle:=hr_ (X:=C.X) hp.rel (dr_ hg _) (Ev.refl _ _) k2;refine⟨k1,fun t=>Rl.mono hle _ _ (hp.frm t),h.size,h.dfr,h.ev,fun b hb=>(k2 b hb).elim (hp.old b) fun h1=>.inr (Nat.le_trans (h.ev.size) h1),fun id hid=>?_,by simp;have:=h.klen;omega⟩;rw[cM_ _ _ _ (by have:=h.klen;omega)];exact h.pre id hid
theorem Nd_{E:Env}{e e0 id:Nat}{v:Value}(hl:E.loc id=some ⟨false,0,0,0⟩)(h:Rl E (.sl e0 true []) v):Rl E (.hs e id 0 0) v:=by
 obtain⟨ad,n,cap,h1,h2,h3,h4,h5,h6,h7⟩:=h;have hn:n=0:=by simpa using h2
 have hc:cap=n:=h5 rfl;subst hn;subst hc;exact⟨ad,0,_,h1,Nat.le_refl _,h4,fun _=>rfl,hl,.inl ⟨rfl,fun h=>(by cases h)⟩⟩
theorem de_{c:ad_}{Q:Ex→Fr→St→Prop}(t e:Nat){e0:Nat}(hq:Tri P nt k c Q (fr.put t (.hs e σ.length 0 0)) (σ++[.vec e []]))(h0:fr.get t=.sl e0 true []:=by first|rfl|(simp only[go_sem];rfl)):Tri P nt k c Q fr σ:=by
 intro fx code hc C loc a w hs;have h1:=hs.own e;refine hq fx code hc C _ a w (h1.putSame t _ (Nd_ (e0:=e0) (ct_ _ _ _) ?_));have:=h1.frm t;rwa [h0]at this
theorem Hy_{E:Env}{c:AV}:∀ {cs:List AV} {vs:List Value} (i:Nat),RlC E cs vs→c.cell=true→(∀v,Rl E (cs.getD i .dead) v→Rl E c v)→RlC E (cs.set i c) vs
 | [],_,_,h,_,_=>by simpa using h
 | x :: cs, _, 0, h, hc, hi => by
   obtain⟨u,us,rfl,h2,h3,h4⟩:=h;exact⟨u,us,rfl,hc,hi u (by simpa using h3),h4⟩
 | x :: cs, _, i + 1, h, hc, hi => by
   obtain⟨u,us,rfl,h2,h3,h4⟩:=h;exact⟨u,us,rfl,h2,h3,Hy_ i h4 hc (fun v hv=>hi v (by simpa using hv))⟩
theorem jd_{c:ad_}{Q:Ex→Fr→St→Prop}(id i e:Nat){e0:Nat}{cs:List AV}(hq:Tri P nt k c Q fr (σ.set id (.var (cs.set i (.hs e σ.length 0 0)))++[.vec e []]))(ho:σ[id]?=some (.var cs):=by first|rfl|(simp only[go_sem];rfl))(h0:cs.getD i .dead=.sl e0 true []:=by first|rfl|(simp only[go_sem];rfl)):Tri P nt k c Q fr σ:=by
 intro fx code hc C loc a w hs;have h1:=hs.own e;have hid:id<σ.length:=(List.getElem?_eq_some_iff.1 ho).1;have ho2:(σ++[bf_.vec e []])[id]?=some (.var cs):=by rw[List.getElem?_append_left hid];exact ho
 have hset:(σ++[bf_.vec e []]).set id (.var (cs.set i (.hs e σ.length 0 0)))=σ.set id (.var (cs.set i (.hs e σ.length 0 0)))++[.vec e []]:=List.set_append_left _ _ hid;refine hq fx code hc C (ff_ loc σ.length ⟨false,0,0,0⟩) a w ?_;rw[←hset]
 have hl:∀b,aB_ ((σ++[bf_.vec e []]).set id (.var (cs.set i (.hs e σ.length 0 0)))) (ff_ loc σ.length ⟨false,0,0,0⟩) b↔aB_ (σ++[bf_.vec e []]) (ff_ loc σ.length ⟨false,0,0,0⟩) b:=by
  intro b;constructor
  ·rintro⟨j,oj,L,g1,g2,g3,g4⟩;rcases dd_ _ id j _ g1 with⟨rfl,rfl,_⟩|⟨g5,g6⟩
   ·exact⟨_,_,L,ho2,rfl,g3,g4⟩
   ·exact⟨j,oj,L,g6,g2,g3,g4⟩
  ·rintro⟨j,oj,L,g1,g2,g3,g4⟩
   by_cases hj:j=id
   ·subst hj;refine⟨j,.var (cs.set i (.hs e σ.length 0 0)),L,?_,rfl,g3,g4⟩;rw[List.getElem?_set_self (List.getElem?_eq_some_iff.1 g1).1]
   ·exact⟨j,oj,L,by rw[List.getElem?_set_ne (Ne.symm hj)];exact g1,g2,g3,g4⟩
 have hF:dY_ C.X ((σ++[bf_.vec e []]).set id (.var (cs.set i (.hs e σ.length 0 0)))) (ff_ loc σ.length ⟨false,0,0,0⟩)=dY_ C.X (σ++[bf_.vec e []]) (ff_ loc σ.length ⟨false,0,0,0⟩):=by
  funext b;unfold dY_;rw[hl b]
 have hget:∀ (j:Nat) (o:bf_),((σ++[bf_.vec e []]).set id (.var (cs.set i (.hs e σ.length 0 0))))[j]?=some o→o.live=true→∃o',(σ++[bf_.vec e []])[j]?=some o'∧o'.live=true:=by
  intro j o g1 g2;rcases dd_ _ id j _ g1 with⟨rfl,rfl,_⟩|⟨g5,g6⟩
  ·exact⟨_,ho2,rfl⟩
  ·exact⟨o,g6,g2⟩
 refine⟨⟨fun j o g1 g2=>?_,fun i' j x y La Lb hij g1 g2 g3 g4=>?_,fun b hb=>?_,fun j hj=>h1.rel.beyond j (by simpa using hj)⟩,fun t=>?_,h1.size,h1.dfr,h1.ev,fun b hb=>h1.old b ((hl b).1 hb),h1.pre,by simp;have:=hs.klen;omega⟩
 ·show ∃L,_∧fi_ ⟨_,dY_ C.X _ _,w⟩ L o
  rw[hF];rcases dd_ _ id j _ g1 with⟨rfl,rfl,_⟩|⟨g5,g6⟩
  ·obtain⟨L,m1,m2,m3,vs,t,m4,m5⟩:=h1.rel.obj _ _ ho2 rfl;exact⟨L,m1,m2,m3,vs,t,m4,Hy_ i m5 rfl fun v hv=>Nd_ (e0:=e0) (ct_ _ _ _) (by rwa [h0]at hv)⟩
  ·exact h1.rel.obj j o g6 g2
 ·obtain⟨x',k1,k2⟩:=hget i' x g1 g3;obtain⟨y',k3,k4⟩:=hget j y g2 g4;exact h1.rel.apart i' j x' y' La Lb hij k1 k3 k2 k4
 ·rw[hl b];exact h1.rel.out b hb
 ·show Rl ⟨_,dY_ C.X _ _,w⟩ _ _
  rw[hF];exact h1.frm t
theorem PC.weak{f:FuncId}{args:List AV}{r r':AV}(h:PC P f args r)(hw:Wk r r')(hr:Pu r'):PC P f args r':=
 ⟨⟨h.call.1,h.call.2.1,fun X loc w vs hrel hv=>(h.call.2.2 X loc w vs hrel hv).mono fun e w' ⟨v,loc',h1,h2,h3⟩=>⟨v,loc',h1,⟨h2.locs,h2.rel,hw _ _ h2.val,h2.ev,h2.old⟩,h3⟩⟩,h.pa,hr⟩
def hK_(us:List (Nat×AV))(vs:List AV):List AV:=us.foldl (fun l p=>l.set p.1 p.2) vs
theorem an_{ι:Type}{x:ad_}{Q:Ex→Fr→St→Prop}{nv:Nat}{vs:List AV}{ts:List (Nat×AV)}(us:ι→List (Nat×AV))(S:ι→St)(μ:ι→Nat)(ok:ι→Prop)(x0:ι)(h0:ok x0)(hgc:GC k ⟨nv,vs,ts⟩ σ ⟨nv,hK_ (us x0) vs,[]⟩ (S x0))
 (round:∀i,ok i→Tri P nt k x (fT_ (fun fr σ=>∃j,ok j∧μ j<μ i∧GC k fr σ ⟨nv,hK_ (us j) vs,[]⟩ (S j)) Q) ⟨nv,hK_ (us i) vs,[]⟩ (S i)):Tri P nt k (.loop x) Q ⟨nv,vs,ts⟩ σ:=
 gP_ (fun i=>⟨nv,hK_ (us i) vs,[]⟩) S μ ok x0 h0 hgc round
theorem bZ_(vs:List AV):hK_ [] vs=vs:=rfl
theorem cl_(p:Nat×AV)(us:List (Nat×AV))(vs:List AV):hK_ (p::us) vs=hK_ us (vs.set p.1 p.2):=rfl
attribute [go_sem] bZ_ cl_
theorem aW_{c:Opd}{x y:ad_}{Q:Ex→Fr→St→Prop}{t:Bool}(h1:t=true→Tri P nt k x Q fr σ)(h2:t=false→Tri P nt k y Q fr σ)(hb:c.ev fr=.bool t:=by first|rfl|(simp only[go_sem];rfl)):Tri P nt k (.cond c x y) Q fr σ:=bM_ hb h1 h2
end
theorem xn_{a b c:List AV}(ha:a.length=33)(hb:b.length=33):cut (a++(b++c)) 0 66=a++b:=by
 unfold cut;rw[List.drop_zero,←List.append_assoc,show 66=(a++b).length by simp[ha,hb],List.take_left]
theorem yj_{a b c x y:List AV}(ha:a.length+b.length=x.length+y.length):spl (a++(b++c)) 0 (x++y)=x++(y++c):=by
 unfold spl;simp only[List.take_zero,List.nil_append,Nat.zero_add,List.append_assoc];rw[←List.append_assoc a b c,List.drop_left' (by simp;omega)]
structure Lim where
 node:Int
 orph:Int
 early:Int
 table:Int
 retry:Int
 backoff:Int
 deriving Inhabited,DecidableEq
def cI_(x:Lim):List AV:=.int .i64 x.node::(.int .i64 x.orph::(.int .i64 x.early::(.int .i64 x.table::(.int .i64 x.retry::[.int .u64 x.backoff]))))
@[simp] theorem bx_(x:Lim):(cI_ x).length=6:=by simp only[cI_,List.length_cons,List.length_append,List.length_nil]
theorem JZ_(node:Int)(orph:Int)(early:Int)(table:Int)(retry:Int)(backoff:Int):.int .i64 node::(.int .i64 orph::(.int .i64 early::(.int .i64 table::(.int .i64 retry::[.int .u64 backoff]))))=cI_ ⟨node,orph,early,table,retry,backoff⟩:=rfl
theorem Ka_(x:Lim):cut (cI_ x) 0 6=cI_ x:=cA_ (bx_ x)
theorem xV_(x:Lim):cut (cI_ x) 0 1=[.int .i64 x.node]:=by unfold cI_;all_goals rfl
theorem xX_(x:Lim)(v:Int):spl (cI_ x) 0 [.int .i64 v]=cI_ { x with node:=v }:=by unfold cI_;all_goals rfl
theorem xW_(x:Lim):cut (cI_ x) 1 1=[.int .i64 x.orph]:=by unfold cI_;rw[cS1];simp only[Nat.reduceSub];all_goals rfl
theorem xY_(x:Lim)(v:Int):spl (cI_ x) 1 [.int .i64 v]=cI_ { x with orph:=v }:=by unfold cI_;rw[pS1];simp only[Nat.reduceSub];all_goals rfl
theorem vE_(x:Lim):cut (cI_ x) 2 1=[.int .i64 x.early]:=by unfold cI_;rw[cS1,cS1];simp only[Nat.reduceSub];all_goals rfl
theorem vH_(x:Lim)(v:Int):spl (cI_ x) 2 [.int .i64 v]=cI_ { x with early:=v }:=by unfold cI_;rw[pS1,pS1];simp only[Nat.reduceSub];all_goals rfl
theorem vG_(x:Lim):cut (cI_ x) 3 1=[.int .i64 x.table]:=by unfold cI_;rw[cS1,cS1,cS1];simp only[Nat.reduceSub];all_goals rfl
theorem vJ_(x:Lim)(v:Int):spl (cI_ x) 3 [.int .i64 v]=cI_ { x with table:=v }:=by unfold cI_;rw[pS1,pS1,pS1];simp only[Nat.reduceSub];all_goals rfl
theorem vF_(x:Lim):cut (cI_ x) 4 1=[.int .i64 x.retry]:=by unfold cI_;rw[cS1,cS1];rw[cS1,cS1];simp only[Nat.reduceSub];all_goals rfl
theorem vI_(x:Lim)(v:Int):spl (cI_ x) 4 [.int .i64 v]=cI_ { x with retry:=v }:=by unfold cI_;rw[pS1,pS1];rw[pS1,pS1];simp only[Nat.reduceSub];all_goals rfl
theorem rP_(x:Lim):cut (cI_ x) 5 1=[.int .u64 x.backoff]:=by unfold cI_;rw[cS1,cS1];rw[cS1,cS1,cS1];simp only[Nat.reduceSub];all_goals rfl
theorem rQ_(x:Lim)(v:Int):spl (cI_ x) 5 [.int .u64 v]=cI_ { x with backoff:=v }:=by unfold cI_;rw[pS1,pS1];rw[pS1,pS1,pS1];simp only[Nat.reduceSub];all_goals rfl
theorem oh_(x:Lim):aS_ (cI_ x)=true:=by simp[cI_,aZ_,bj_,bk_,AV.cell]
theorem gZ_(x:Lim):PuL (cI_ x):=by simp[cI_,cR_,PuL,Pu]
theorem sb_(ρ:Nat→Nat)(x:Lim):ci_ ρ (cI_ x)=cI_ x:=(gZ_ x).ren ρ
theorem DJ_(σ:St)(zs:List Nat)(x:Lim):fzL σ zs (cI_ x)=cI_ x:=(gZ_ x).fz σ zs
theorem Gn_(x:Lim):(cI_ x).map cx_=cB_ [(6,1)]:=by simp only[cI_,List.map_cons,List.map_append,List.map_nil,cx_];decide +kernel
theorem JG_(x:Lim):eE_ [(6,1)] (cI_ x)=true:=ef_ (Gn_ x)
theorem IJ_(x y:Lim):dU_ (cI_ x) (cI_ y)=some (decide (x=y)):=by cases x;cases y;simp[cI_,fk_,dU_,pg_,ai_,aE_,Bool.beq_eq_decide_eq,ij_,Bool.and_assoc,Bool.decide_and]
def OP_:Lim:=⟨0,0,0,0,0,0⟩
structure Cfg where
 lim:Lim
 spe:Int
 boost:Int
 ttd:Wd
 gen:Rt
 bals:AV
 deriving Inhabited
def bn_(x:Cfg):List AV:=cI_ x.lim++(.int .u64 x.spe::(.int .u64 x.boost::(wdc x.ttd++(rtc x.gen++[x.bals]))))
@[simp] theorem aF_(x:Cfg):(bn_ x).length=45:=by simp only[bn_,List.length_cons,List.length_append,List.length_nil,bx_,ai_,aE_]
theorem Jf_(lim:Lim)(spe:Int)(boost:Int)(ttd:Wd)(gen:Rt)(bals:AV):cI_ lim++(.int .u64 spe::(.int .u64 boost::(wdc ttd++(rtc gen++[bals]))))=bn_ ⟨lim,spe,boost,ttd,gen,bals⟩:=rfl
theorem Jg_(x:Cfg):cut (bn_ x) 0 45=bn_ x:=cA_ (aF_ x)
theorem AJ_(x:Cfg)(o n:Nat)(h1:0≤o)(h2:o+n≤6):cut (bn_ x) o n=cut (cI_ x.lim) (o-0) n:=by unfold bn_;rw[cL1 (bx_ _)];all_goals rfl
theorem AN_(x:Cfg)(o:Nat)(vs:List AV)(h1:0≤o)(h2:o+vs.length≤6):spl (bn_ x) o vs=spl (cI_ x.lim) (o-0) vs++(.int .u64 x.spe::(.int .u64 x.boost::(wdc x.ttd++(rtc x.gen++[x.bals])))):=by unfold bn_;rw[pL1 (bx_ _)];all_goals rfl
theorem AK_(x:Cfg):cut (bn_ x) 6 1=[.int .u64 x.spe]:=by unfold bn_;rw[cR1 (bx_ _)];simp only[Nat.reduceSub];all_goals rfl
theorem AO_(x:Cfg)(v:Int):spl (bn_ x) 6 [.int .u64 v]=bn_ { x with spe:=v }:=by unfold bn_;rw[pR1 (bx_ _)];simp only[Nat.reduceSub];all_goals rfl
theorem uB_(x:Cfg):cut (bn_ x) 7 1=[.int .u64 x.boost]:=by unfold bn_;rw[cR1 (bx_ _),cS1];simp only[Nat.reduceSub];all_goals rfl
theorem uC_(x:Cfg)(v:Int):spl (bn_ x) 7 [.int .u64 v]=bn_ { x with boost:=v }:=by unfold bn_;rw[pR1 (bx_ _),pS1];simp only[Nat.reduceSub];all_goals rfl
theorem AL_(x:Cfg)(o n:Nat)(h1:8≤o)(h2:o+n≤12):cut (bn_ x) o n=cut (wdc x.ttd) (o-8) n:=by unfold bn_;rw[cR1 (bx_ _),cS1];rw[cS1,cL1 (aE_ _)];rw[show o-6-1-1=o-8 by omega]
theorem AP_(x:Cfg)(o:Nat)(vs:List AV)(h1:8≤o)(h2:o+vs.length≤12):spl (bn_ x) o vs=cI_ x.lim++(.int .u64 x.spe::(.int .u64 x.boost::(spl (wdc x.ttd) (o-8) vs++(rtc x.gen++[x.bals])))):=by unfold bn_;rw[pR1 (bx_ _),pS1];rw[pS1,pL1 (aE_ _)];rw[show o-6-1-1=o-8 by omega]
theorem AI_(x:Cfg)(o n:Nat)(h1:12≤o)(h2:o+n≤44):cut (bn_ x) o n=cut (rtc x.gen) (o-12) n:=by unfold bn_;rw[cR1 (bx_ _),cS1];rw[cS1,cR1 (aE_ _),cL1 (ai_ _)];rw[show o-6-1-1-4=o-12 by omega]
theorem AM_(x:Cfg)(o:Nat)(vs:List AV)(h1:12≤o)(h2:o+vs.length≤44):spl (bn_ x) o vs=cI_ x.lim++(.int .u64 x.spe::(.int .u64 x.boost::(wdc x.ttd++(spl (rtc x.gen) (o-12) vs++[x.bals])))):=by unfold bn_;rw[pR1 (bx_ _),pS1];rw[pS1,pR1 (aE_ _),pL1 (ai_ _)];rw[show o-6-1-1-4=o-12 by omega]
theorem xb_(x:Cfg):cut (bn_ x) 44 1=[x.bals]:=by unfold bn_;rw[cR1 (bx_ _),cS1];rw[cS1,cR1 (aE_ _),cR1 (ai_ _)];simp only[Nat.reduceSub];all_goals rfl
theorem xc_(x:Cfg)(v:AV):spl (bn_ x) 44 [v]=bn_ { x with bals:=v }:=by unfold bn_;rw[pR1 (bx_ _),pS1];rw[pS1,pR1 (aE_ _),pR1 (ai_ _)];simp only[Nat.reduceSub];all_goals rfl
def Cfg.map(g:AV→AV)(x:Cfg):Cfg:={ x with bals:=g x.bals }
theorem Cfg.map_mk(g:AV→AV)(lim:Lim)(spe:Int)(boost:Int)(ttd:Wd)(gen:Rt)(bals:AV):Cfg.map g ⟨lim,spe,boost,ttd,gen,bals⟩=⟨lim,spe,boost,ttd,gen,g bals⟩:=rfl
def Cfg.good(x:Cfg):Bool:=x.bals.cell
theorem Cfg.good_mk(lim:Lim)(spe:Int)(boost:Int)(ttd:Wd)(gen:Rt)(bals:AV):Cfg.good ⟨lim,spe,boost,ttd,gen,bals⟩=(bals.cell):=rfl
def Cfg.Pure(x:Cfg):Prop:=Pu x.bals
theorem oe_(x:Cfg):aS_ (bn_ x)=x.good:=by simp[bn_,Cfg.good,Bool.and_assoc,aZ_,bj_,bk_,AV.cell,oh_,cz_,kF_]
theorem CK_(x:Cfg):PuL (bn_ x)↔x.Pure:=by simp[bn_,Cfg.Pure,cR_,PuL,Pu,gZ_,cw_,gT_]
theorem rZ_(ρ:Nat→Nat)(x:Cfg):ci_ ρ (bn_ x)=bn_ (x.map (ren ρ)):=by simp only[bn_,Cfg.map,hx_,ci_,ren,sb_,nf_,Ev_]
theorem DG_(σ:St)(zs:List Nat)(x:Cfg):fzL σ zs (bn_ x)=bn_ (x.map (fz σ zs)):=by simp only[bn_,Cfg.map,ii_,fzL,fz,DJ_,qF_,HM_]
def nK_:Cfg:=⟨OP_,0,0,wd0,rt0,.sl 0 true []⟩
structure Vot where
 has:Bool
 ep:Int
 root:Rt
 deriving Inhabited,DecidableEq
def aV_(x:Vot):List AV:=.bool x.has::(.int .u64 x.ep::(rtc x.root))
@[simp] theorem mV_(x:Vot):(aV_ x).length=34:=by simp only[aV_,List.length_cons,List.length_append,List.length_nil,ai_]
theorem Lt_(has:Bool)(ep:Int)(root:Rt):.bool has::(.int .u64 ep::(rtc root))=aV_ ⟨has,ep,root⟩:=rfl
theorem Lu_(x:Vot):cut (aV_ x) 0 34=aV_ x:=cA_ (mV_ x)
theorem CC_(x:Vot):cut (aV_ x) 0 1=[.bool x.has]:=by unfold aV_;all_goals rfl
theorem CD_(x:Vot)(v:Bool):spl (aV_ x) 0 [.bool v]=aV_ { x with has:=v }:=by unfold aV_;all_goals rfl
theorem Fi_(x:Vot):cut (aV_ x) 1 1=[.int .u64 x.ep]:=by unfold aV_;rw[cS1];simp only[Nat.reduceSub];all_goals rfl
theorem Fj_(x:Vot)(v:Int):spl (aV_ x) 1 [.int .u64 v]=aV_ { x with ep:=v }:=by unfold aV_;rw[pS1];simp only[Nat.reduceSub];all_goals rfl
theorem yG_(x:Vot)(o n:Nat)(h1:2≤o)(h2:o+n≤34):cut (aV_ x) o n=cut (rtc x.root) (o-2) n:=by unfold aV_;rw[cS1,cS1];rw[show o-1-1=o-2 by omega]
theorem yH_(x:Vot)(o:Nat)(vs:List AV)(h1:2≤o)(h2:o+vs.length≤34):spl (aV_ x) o vs=.bool x.has::(.int .u64 x.ep::(spl (rtc x.root) (o-2) vs)):=by unfold aV_;rw[pS1,pS1];rw[show o-1-1=o-2 by omega]
theorem wK_(x:Vot):aS_ (aV_ x)=true:=by simp[aV_,aZ_,bj_,bk_,AV.cell,cz_]
theorem ix_(x:Vot):PuL (aV_ x):=by simp[aV_,cR_,PuL,Pu,cw_]
theorem Aa_(ρ:Nat→Nat)(x:Vot):ci_ ρ (aV_ x)=aV_ x:=(ix_ x).ren ρ
theorem Mz_(σ:St)(zs:List Nat)(x:Vot):fzL σ zs (aV_ x)=aV_ x:=(ix_ x).fz σ zs
theorem Gr_(x:Vot):(aV_ x).map cx_=cB_ [(1,0),(33,1)]:=by simp only[aV_,List.map_cons,List.map_append,List.map_nil,cx_,gK_];decide +kernel
theorem JL_(x:Vot):eE_ [(1,0),(33,1)] (aV_ x)=true:=ef_ (Gr_ x)
theorem IN_(x y:Vot):dU_ (aV_ x) (aV_ y)=some (decide (x=y)):=by cases x;cases y;simp[aV_,fk_,dU_,pg_,ai_,aE_,hc_,Bool.beq_eq_decide_eq,ij_,Bool.and_assoc,Bool.decide_and]
def do_:Vot:=⟨false,0,rt0⟩
structure Nod where
 blk:Blk
 up:Int
 status:Int
 deriving Inhabited,DecidableEq
def ax_(x:Nod):List AV:=ap_ x.blk++(.int .i64 x.up::[.int .i64 x.status])
@[simp] theorem mS_(x:Nod):(ax_ x).length=240:=by simp only[ax_,List.length_cons,List.length_append,List.length_nil,aU_]
theorem Ke_(blk:Blk)(up:Int)(status:Int):ap_ blk++(.int .i64 up::[.int .i64 status])=ax_ ⟨blk,up,status⟩:=rfl
theorem Kf_(x:Nod):cut (ax_ x) 0 240=ax_ x:=cA_ (mS_ x)
theorem BA_(x:Nod)(o n:Nat)(h1:0≤o)(h2:o+n≤238):cut (ax_ x) o n=cut (ap_ x.blk) (o-0) n:=by unfold ax_;rw[cL1 (aU_ _)];all_goals rfl
theorem BB_(x:Nod)(o:Nat)(vs:List AV)(h1:0≤o)(h2:o+vs.length≤238):spl (ax_ x) o vs=spl (ap_ x.blk) (o-0) vs++(.int .i64 x.up::[.int .i64 x.status]):=by unfold ax_;rw[pL1 (aU_ _)];all_goals rfl
theorem Ef_(x:Nod):cut (ax_ x) 238 1=[.int .i64 x.up]:=by unfold ax_;rw[cR1 (aU_ _)];simp only[Nat.reduceSub];all_goals rfl
theorem Eg_(x:Nod)(v:Int):spl (ax_ x) 238 [.int .i64 v]=ax_ { x with up:=v }:=by unfold ax_;rw[pR1 (aU_ _)];simp only[Nat.reduceSub];all_goals rfl
theorem tx_(x:Nod):cut (ax_ x) 239 1=[.int .i64 x.status]:=by unfold ax_;rw[cR1 (aU_ _),cS1];simp only[Nat.reduceSub];all_goals rfl
theorem ty_(x:Nod)(v:Int):spl (ax_ x) 239 [.int .i64 v]=ax_ { x with status:=v }:=by unfold ax_;rw[pR1 (aU_ _),pS1];simp only[Nat.reduceSub];all_goals rfl
theorem wG_(x:Nod):aS_ (ax_ x)=true:=by simp[ax_,aZ_,bj_,bk_,AV.cell,jJ_]
theorem iw_(x:Nod):PuL (ax_ x):=by simp[ax_,cR_,PuL,Pu,ea_]
theorem zU_(ρ:Nat→Nat)(x:Nod):ci_ ρ (ax_ x)=ax_ x:=(iw_ x).ren ρ
theorem Mu_(σ:St)(zs:List Nat)(x:Nod):fzL σ zs (ax_ x)=ax_ x:=(iw_ x).fz σ zs
theorem Go_(x:Nod):(ax_ x).map cx_=cB_ [(237,1),(1,0),(2,1)]:=by simp only[ax_,List.map_cons,List.map_append,List.map_nil,cx_,vA_];decide +kernel
theorem JH_(x:Nod):eE_ [(237,1),(1,0),(2,1)] (ax_ x)=true:=ef_ (Go_ x)
theorem IK_(x y:Nod):dU_ (ax_ x) (ax_ y)=some (decide (x=y)):=by cases x;cases y;simp[ax_,fk_,dU_,pg_,ai_,aE_,yN_,Bool.beq_eq_decide_eq,ij_,Bool.and_assoc,Bool.decide_and]
def gs_:Nod:=⟨cF_,0,0⟩
structure Sto where
 cfg:Cfg
 latest:AV
 eqv:AV
 j:Cp
 f:Cp
 early:AV
 orph:AV
 nodes:AV
 now:Int
 boost:Rt
 tabs:AV
 deriving Inhabited
def ak_(x:Sto):List AV:=bn_ x.cfg++(x.latest::(x.eqv::(cpC x.j++(cpC x.f++(x.early::(x.orph::(x.nodes::(.int .u64 x.now::(rtc x.boost++[x.tabs])))))))))
@[simp] theorem bb_(x:Sto):(ak_ x).length=150:=by simp only[ak_,List.length_cons,List.length_append,List.length_nil,aF_,am_,ai_]
theorem KV_(cfg:Cfg)(latest:AV)(eqv:AV)(j:Cp)(f:Cp)(early:AV)(orph:AV)(nodes:AV)(now:Int)(boost:Rt)(tabs:AV):bn_ cfg++(latest::(eqv::(cpC j++(cpC f++(early::(orph::(nodes::(.int .u64 now::(rtc boost++[tabs])))))))))=ak_ ⟨cfg,latest,eqv,j,f,early,orph,nodes,now,boost,tabs⟩:=rfl
theorem KW_(x:Sto):cut (ak_ x) 0 150=ak_ x:=cA_ (bb_ x)
theorem Cm_(x:Sto)(o n:Nat)(h1:0≤o)(h2:o+n≤45):cut (ak_ x) o n=cut (bn_ x.cfg) (o-0) n:=by unfold ak_;rw[cL1 (aF_ _)];all_goals rfl
theorem Cq_(x:Sto)(o:Nat)(vs:List AV)(h1:0≤o)(h2:o+vs.length≤45):spl (ak_ x) o vs=spl (bn_ x.cfg) (o-0) vs++(x.latest::(x.eqv::(cpC x.j++(cpC x.f++(x.early::(x.orph::(x.nodes::(.int .u64 x.now::(rtc x.boost++[x.tabs]))))))))):=by unfold ak_;rw[pL1 (aF_ _)];all_goals rfl
theorem tK_(x:Sto):cut (ak_ x) 45 1=[x.latest]:=by unfold ak_;rw[cR1 (aF_ _)];simp only[Nat.reduceSub];all_goals rfl
theorem tL_(x:Sto)(v:AV):spl (ak_ x) 45 [v]=ak_ { x with latest:=v }:=by unfold ak_;rw[pR1 (aF_ _)];simp only[Nat.reduceSub];all_goals rfl
theorem Cn_(x:Sto):cut (ak_ x) 46 1=[x.eqv]:=by unfold ak_;rw[cR1 (aF_ _),cS1];simp only[Nat.reduceSub];all_goals rfl
theorem Cr_(x:Sto)(v:AV):spl (ak_ x) 46 [v]=ak_ { x with eqv:=v }:=by unfold ak_;rw[pR1 (aF_ _),pS1];simp only[Nat.reduceSub];all_goals rfl
theorem Hp_(x:Sto)(o n:Nat)(h1:47≤o)(h2:o+n≤80):cut (ak_ x) o n=cut (cpC x.j) (o-47) n:=by unfold ak_;rw[cR1 (aF_ _),cS1];rw[cS1,cL1 (am_ _)];rw[show o-45-1-1=o-47 by omega]
theorem Hr_(x:Sto)(o:Nat)(vs:List AV)(h1:47≤o)(h2:o+vs.length≤80):spl (ak_ x) o vs=bn_ x.cfg++(x.latest::(x.eqv::(spl (cpC x.j) (o-47) vs++(cpC x.f++(x.early::(x.orph::(x.nodes::(.int .u64 x.now::(rtc x.boost++[x.tabs]))))))))):=by unfold ak_;rw[pR1 (aF_ _),pS1];rw[pS1,pL1 (am_ _)];rw[show o-45-1-1=o-47 by omega]
theorem Ho_(x:Sto)(o n:Nat)(h1:80≤o)(h2:o+n≤113):cut (ak_ x) o n=cut (cpC x.f) (o-80) n:=by unfold ak_;rw[cR1 (aF_ _),cS1];rw[cS1,cR1 (am_ _),cL1 (am_ _)];rw[show o-45-1-1-33=o-80 by omega]
theorem Hq_(x:Sto)(o:Nat)(vs:List AV)(h1:80≤o)(h2:o+vs.length≤113):spl (ak_ x) o vs=bn_ x.cfg++(x.latest::(x.eqv::(cpC x.j++(spl (cpC x.f) (o-80) vs++(x.early::(x.orph::(x.nodes::(.int .u64 x.now::(rtc x.boost++[x.tabs]))))))))):=by unfold ak_;rw[pR1 (aF_ _),pS1];rw[pS1,pR1 (am_ _),pL1 (am_ _)];rw[show o-45-1-1-33=o-80 by omega]
theorem wv_(x:Sto):cut (ak_ x) 113 1=[x.early]:=by unfold ak_;rw[cR1 (aF_ _),cS1];rw[cS1,cR1 (am_ _),cR1 (am_ _)];simp only[Nat.reduceSub];all_goals rfl
theorem wy_(x:Sto)(v:AV):spl (ak_ x) 113 [v]=ak_ { x with early:=v }:=by unfold ak_;rw[pR1 (aF_ _),pS1];rw[pS1,pR1 (am_ _),pR1 (am_ _)];simp only[Nat.reduceSub];all_goals rfl
theorem yw_(x:Sto):cut (ak_ x) 114 1=[x.orph]:=by unfold ak_;rw[cR1 (aF_ _),cS1];rw[cS1,cR1 (am_ _)];rw[cR1 (am_ _),cS1];simp only[Nat.reduceSub];all_goals rfl
theorem yy_(x:Sto)(v:AV):spl (ak_ x) 114 [v]=ak_ { x with orph:=v }:=by unfold ak_;rw[pR1 (aF_ _),pS1];rw[pS1,pR1 (am_ _)];rw[pR1 (am_ _),pS1];simp only[Nat.reduceSub];all_goals rfl
theorem ww_(x:Sto):cut (ak_ x) 115 1=[x.nodes]:=by unfold ak_;rw[cR1 (aF_ _),cS1];rw[cS1,cR1 (am_ _)];rw[cR1 (am_ _),cS1,cS1];simp only[Nat.reduceSub];all_goals rfl
theorem wz_(x:Sto)(v:AV):spl (ak_ x) 115 [v]=ak_ { x with nodes:=v }:=by unfold ak_;rw[pR1 (aF_ _),pS1];rw[pS1,pR1 (am_ _)];rw[pR1 (am_ _),pS1,pS1];simp only[Nat.reduceSub];all_goals rfl
theorem Cp_(x:Sto):cut (ak_ x) 116 1=[.int .u64 x.now]:=by unfold ak_;rw[cR1 (aF_ _),cS1];rw[cS1,cR1 (am_ _)];rw[cR1 (am_ _),cS1];rw[cS1,cS1];simp only[Nat.reduceSub];all_goals rfl
theorem Cs_(x:Sto)(v:Int):spl (ak_ x) 116 [.int .u64 v]=ak_ { x with now:=v }:=by unfold ak_;rw[pR1 (aF_ _),pS1];rw[pS1,pR1 (am_ _)];rw[pR1 (am_ _),pS1];rw[pS1,pS1];simp only[Nat.reduceSub];all_goals rfl
theorem wu_(x:Sto)(o n:Nat)(h1:117≤o)(h2:o+n≤149):cut (ak_ x) o n=cut (rtc x.boost) (o-117) n:=by unfold ak_;rw[cR1 (aF_ _),cS1];rw[cS1,cR1 (am_ _)];rw[cR1 (am_ _),cS1];rw[cS1,cS1];rw[cS1,cL1 (ai_ _)];rw[show o-45-1-1-33-33-1-1-1-1=o-117 by omega]
theorem wx_(x:Sto)(o:Nat)(vs:List AV)(h1:117≤o)(h2:o+vs.length≤149):spl (ak_ x) o vs=bn_ x.cfg++(x.latest::(x.eqv::(cpC x.j++(cpC x.f++(x.early::(x.orph::(x.nodes::(.int .u64 x.now::(spl (rtc x.boost) (o-117) vs++[x.tabs]))))))))):=by unfold ak_;rw[pR1 (aF_ _),pS1];rw[pS1,pR1 (am_ _)];rw[pR1 (am_ _),pS1];rw[pS1,pS1];rw[pS1,pL1 (ai_ _)];rw[show o-45-1-1-33-33-1-1-1-1=o-117 by omega]
theorem yx_(x:Sto):cut (ak_ x) 149 1=[x.tabs]:=by unfold ak_;rw[cR1 (aF_ _),cS1];rw[cS1,cR1 (am_ _)];rw[cR1 (am_ _),cS1];rw[cS1,cS1];rw[cS1,cR1 (ai_ _)];simp only[Nat.reduceSub];all_goals rfl
theorem yz_(x:Sto)(v:AV):spl (ak_ x) 149 [v]=ak_ { x with tabs:=v }:=by unfold ak_;rw[pR1 (aF_ _),pS1];rw[pS1,pR1 (am_ _)];rw[pR1 (am_ _),pS1];rw[pS1,pS1];rw[pS1,pR1 (ai_ _)];simp only[Nat.reduceSub];all_goals rfl
theorem nW_(x:Sto):cut (ak_ x) 45 2=x.latest::[x.eqv]:=by unfold ak_;rw[cR1 (aF_ _)];(try simp only[Nat.reduceSub]);rfl
theorem nY_(x:Sto)(y1:AV)(y2:AV):spl (ak_ x) 45 (y1::[y2])=ak_ { x with latest:=y1,eqv:=y2 }:=by unfold ak_;rw[pR1 (aF_ _)];(try simp only[Nat.reduceSub]);rfl
theorem Co_(x:Sto):cut (ak_ x) 47 66=cpC x.j++(cpC x.f):=by unfold ak_;rw[cR1 (aF_ _),cS1,cS1];(try simp only[Nat.reduceSub]);exact xn_ (by simp) (by simp)
theorem rf_(x:Sto)(y3:Cp)(y4:Cp):spl (ak_ x) 47 (cpC y3++(cpC y4))=ak_ { x with j:=y3,f:=y4 }:=by unfold ak_;rw[pR1 (aF_ _),pS1,pS1];(try simp only[Nat.reduceSub]);rw[yj_];all_goals first|rfl|simp
theorem nV_(x:Sto):cut (ak_ x) 113 2=x.early::[x.orph]:=by unfold ak_;rw[cR1 (aF_ _),cS1];rw[cS1,cR1 (am_ _),cR1 (am_ _)];(try simp only[Nat.reduceSub]);rfl
theorem nX_(x:Sto)(y5:AV)(y6:AV):spl (ak_ x) 113 (y5::[y6])=ak_ { x with early:=y5,orph:=y6 }:=by unfold ak_;rw[pR1 (aF_ _),pS1];rw[pS1,pR1 (am_ _),pR1 (am_ _)];(try simp only[Nat.reduceSub]);rfl
def Sto.map(g:AV→AV)(x:Sto):Sto:={ x with cfg:=x.cfg.map g,latest:=g x.latest,eqv:=g x.eqv,early:=g x.early,orph:=g x.orph,nodes:=g x.nodes,tabs:=g x.tabs }
theorem Sto.map_mk(g:AV→AV)(cfg:Cfg)(latest:AV)(eqv:AV)(j:Cp)(f:Cp)(early:AV)(orph:AV)(nodes:AV)(now:Int)(boost:Rt)(tabs:AV):Sto.map g ⟨cfg,latest,eqv,j,f,early,orph,nodes,now,boost,tabs⟩=⟨cfg.map g,g latest,g eqv,j,f,g early,g orph,g nodes,now,boost,g tabs⟩:=rfl
def Sto.good(x:Sto):Bool:=x.cfg.good&&x.latest.cell&&x.eqv.cell&&x.early.cell&&x.orph.cell&&x.nodes.cell&&x.tabs.cell
theorem Sto.good_mk(cfg:Cfg)(latest:AV)(eqv:AV)(j:Cp)(f:Cp)(early:AV)(orph:AV)(nodes:AV)(now:Int)(boost:Rt)(tabs:AV):Sto.good ⟨cfg,latest,eqv,j,f,early,orph,nodes,now,boost,tabs⟩=(cfg.good&&latest.cell&&eqv.cell&&early.cell&&orph.cell&&nodes.cell&&tabs.cell):=rfl
def Sto.Pure(x:Sto):Prop:=x.cfg.Pure∧Pu x.latest∧Pu x.eqv∧Pu x.early∧Pu x.orph∧Pu x.nodes∧Pu x.tabs
theorem ok_(x:Sto):aS_ (ak_ x)=x.good:=by simp[ak_,Sto.good,Bool.and_assoc,aZ_,bj_,bk_,AV.cell,oe_,eN_,cz_]
theorem ha_(x:Sto):PuL (ak_ x)↔x.Pure:=by simp[ak_,Sto.Pure,cR_,PuL,Pu,CK_,dK_,cw_]
theorem sc_(ρ:Nat→Nat)(x:Sto):ci_ ρ (ak_ x)=ak_ (x.map (ren ρ)):=by simp only[ak_,Sto.map,hx_,ci_,ren,rZ_,qW_,nf_]
theorem DL_(σ:St)(zs:List Nat)(x:Sto):fzL σ zs (ak_ x)=ak_ (x.map (fz σ zs)):=by simp only[ak_,Sto.map,ii_,fzL,fz,DG_,tW_,qF_]
def eW_:Sto:=⟨nK_,.sl 0 true [],.sl 0 true [],cp0,cp0,.sl 0 true [],.sl 0 true [],.sl 0 true [],0,rt0,.sl 0 true []⟩
structure Req where
 tag:Int
 block:Rt
 tries:Int
 due:Int
 deriving Inhabited,DecidableEq
def aJ_(x:Req):List AV:=.int .u64 x.tag::(rtc x.block++(.int .i64 x.tries::[.int .u64 x.due]))
@[simp] theorem mT_(x:Req):(aJ_ x).length=35:=by simp only[aJ_,List.length_cons,List.length_append,List.length_nil,ai_]
theorem KE_(tag:Int)(block:Rt)(tries:Int)(due:Int):.int .u64 tag::(rtc block++(.int .i64 tries::[.int .u64 due]))=aJ_ ⟨tag,block,tries,due⟩:=rfl
theorem KF_(x:Req):cut (aJ_ x) 0 35=aJ_ x:=cA_ (mT_ x)
theorem BK_(x:Req):cut (aJ_ x) 0 1=[.int .u64 x.tag]:=by unfold aJ_;all_goals rfl
theorem BM_(x:Req)(v:Int):spl (aJ_ x) 0 [.int .u64 v]=aJ_ { x with tag:=v }:=by unfold aJ_;all_goals rfl
theorem wf_(x:Req)(o n:Nat)(h1:1≤o)(h2:o+n≤33):cut (aJ_ x) o n=cut (rtc x.block) (o-1) n:=by unfold aJ_;rw[cS1,cL1 (ai_ _)];all_goals rfl
theorem wh_(x:Req)(o:Nat)(vs:List AV)(h1:1≤o)(h2:o+vs.length≤33):spl (aJ_ x) o vs=.int .u64 x.tag::(spl (rtc x.block) (o-1) vs++(.int .i64 x.tries::[.int .u64 x.due])):=by unfold aJ_;rw[pS1,pL1 (ai_ _)];all_goals rfl
theorem wg_(x:Req):cut (aJ_ x) 33 1=[.int .i64 x.tries]:=by unfold aJ_;rw[cS1,cR1 (ai_ _)];simp only[Nat.reduceSub];all_goals rfl
theorem wi_(x:Req)(v:Int):spl (aJ_ x) 33 [.int .i64 v]=aJ_ { x with tries:=v }:=by unfold aJ_;rw[pS1,pR1 (ai_ _)];simp only[Nat.reduceSub];all_goals rfl
theorem BJ_(x:Req):cut (aJ_ x) 34 1=[.int .u64 x.due]:=by unfold aJ_;rw[cS1,cR1 (ai_ _),cS1];simp only[Nat.reduceSub];all_goals rfl
theorem BL_(x:Req)(v:Int):spl (aJ_ x) 34 [.int .u64 v]=aJ_ { x with due:=v }:=by unfold aJ_;rw[pS1,pR1 (ai_ _),pS1];simp only[Nat.reduceSub];all_goals rfl
theorem wH_(x:Req):aS_ (aJ_ x)=true:=by simp[aJ_,aZ_,bj_,bk_,AV.cell,cz_]
theorem eb_(x:Req):PuL (aJ_ x):=by simp[aJ_,cR_,PuL,Pu,cw_]
theorem zV_(ρ:Nat→Nat)(x:Req):ci_ ρ (aJ_ x)=aJ_ x:=(eb_ x).ren ρ
theorem Mw_(σ:St)(zs:List Nat)(x:Req):fzL σ zs (aJ_ x)=aJ_ x:=(eb_ x).fz σ zs
theorem Gp_(x:Req):(aJ_ x).map cx_=cB_ [(35,1)]:=by simp only[aJ_,List.map_cons,List.map_append,List.map_nil,cx_,gK_];decide +kernel
theorem JJ_(x:Req):eE_ [(35,1)] (aJ_ x)=true:=ef_ (Gp_ x)
theorem IL_(x y:Req):dU_ (aJ_ x) (aJ_ y)=some (decide (x=y)):=by cases x;cases y;simp[aJ_,fk_,dU_,pg_,ai_,aE_,hc_,Bool.beq_eq_decide_eq,ij_,Bool.and_assoc,Bool.decide_and]
def pA_:Req:=⟨0,rt0,0,0⟩
structure Cmd where
 head:Rt
 safe:Rt
 fin:Rt
 deriving Inhabited,DecidableEq
def db_(x:Cmd):List AV:=rtc x.head++(rtc x.safe++(rtc x.fin))
@[simp] theorem dp_(x:Cmd):(db_ x).length=96:=by simp only[db_,List.length_cons,List.length_append,List.length_nil,ai_]
theorem Jq_(head:Rt)(safe:Rt)(fin:Rt):rtc head++(rtc safe++(rtc fin))=db_ ⟨head,safe,fin⟩:=rfl
theorem Jr_(x:Cmd):cut (db_ x) 0 96=db_ x:=cA_ (dp_ x)
theorem xh_(x:Cmd)(o n:Nat)(h1:0≤o)(h2:o+n≤32):cut (db_ x) o n=cut (rtc x.head) (o-0) n:=by unfold db_;rw[cL1 (ai_ _)];all_goals rfl
theorem xj_(x:Cmd)(o:Nat)(vs:List AV)(h1:0≤o)(h2:o+vs.length≤32):spl (db_ x) o vs=spl (rtc x.head) (o-0) vs++(rtc x.safe++(rtc x.fin)):=by unfold db_;rw[pL1 (ai_ _)];all_goals rfl
theorem xi_(x:Cmd)(o n:Nat)(h1:32≤o)(h2:o+n≤64):cut (db_ x) o n=cut (rtc x.safe) (o-32) n:=by unfold db_;rw[cR1 (ai_ _),cL1 (ai_ _)];all_goals rfl
theorem xk_(x:Cmd)(o:Nat)(vs:List AV)(h1:32≤o)(h2:o+vs.length≤64):spl (db_ x) o vs=rtc x.head++(spl (rtc x.safe) (o-32) vs++(rtc x.fin)):=by unfold db_;rw[pR1 (ai_ _),pL1 (ai_ _)];all_goals rfl
theorem AU_(x:Cmd)(o n:Nat)(h1:64≤o)(h2:o+n≤96):cut (db_ x) o n=cut (rtc x.fin) (o-64) n:=by unfold db_;rw[cR1 (ai_ _),cR1 (ai_ _)];rw[show o-32-32=o-64 by omega]
theorem AV_(x:Cmd)(o:Nat)(vs:List AV)(h1:64≤o)(h2:o+vs.length≤96):spl (db_ x) o vs=rtc x.head++(rtc x.safe++(spl (rtc x.fin) (o-64) vs)):=by unfold db_;rw[pR1 (ai_ _),pR1 (ai_ _)];rw[show o-32-32=o-64 by omega]
theorem og_(x:Cmd):aS_ (db_ x)=true:=by simp[db_,aZ_,bj_,bk_,AV.cell,cz_]
theorem jW_(x:Cmd):PuL (db_ x):=by simp[db_,cR_,PuL,Pu,cw_]
theorem sa_(ρ:Nat→Nat)(x:Cmd):ci_ ρ (db_ x)=db_ x:=(jW_ x).ren ρ
theorem DI_(σ:St)(zs:List Nat)(x:Cmd):fzL σ zs (db_ x)=db_ x:=(jW_ x).fz σ zs
theorem Gm_(x:Cmd):(db_ x).map cx_=cB_ [(96,1)]:=by simp only[db_,List.map_cons,List.map_append,List.map_nil,cx_,gK_];decide +kernel
theorem JF_(x:Cmd):eE_ [(96,1)] (db_ x)=true:=ef_ (Gm_ x)
theorem II_(x y:Cmd):dU_ (db_ x) (db_ y)=some (decide (x=y)):=by cases x;cases y;simp[db_,fk_,dU_,pg_,ai_,aE_,hc_,Bool.beq_eq_decide_eq,ij_,Bool.and_assoc,Bool.decide_and]
def rs_:Cmd:=⟨rt0,rt0,rt0⟩
structure Sta where
 sto:Sto
 reqs:AV
 rets:AV
 tag:Int
 sent:Bool
 last:Cmd
 over:Bool
 halt:Bool
 deriving Inhabited
def aI_(x:Sta):List AV:=ak_ x.sto++(x.reqs::(x.rets::(.int .u64 x.tag::(.bool x.sent::(db_ x.last++(.bool x.over::[.bool x.halt]))))))
@[simp] theorem mU_(x:Sta):(aI_ x).length=252:=by simp only[aI_,List.length_cons,List.length_append,List.length_nil,dp_,bb_]
theorem KS_(sto:Sto)(reqs:AV)(rets:AV)(tag:Int)(sent:Bool)(last:Cmd)(over:Bool)(halt:Bool):ak_ sto++(reqs::(rets::(.int .u64 tag::(.bool sent::(db_ last++(.bool over::[.bool halt]))))))=aI_ ⟨sto,reqs,rets,tag,sent,last,over,halt⟩:=rfl
theorem KT_(x:Sta):cut (aI_ x) 0 252=aI_ x:=cA_ (mU_ x)
theorem Cg_(x:Sta)(o n:Nat)(h1:0≤o)(h2:o+n≤150):cut (aI_ x) o n=cut (ak_ x.sto) (o-0) n:=by unfold aI_;rw[cL1 (bb_ _)];all_goals rfl
theorem Ci_(x:Sta)(o:Nat)(vs:List AV)(h1:0≤o)(h2:o+vs.length≤150):spl (aI_ x) o vs=spl (ak_ x.sto) (o-0) vs++(x.reqs::(x.rets::(.int .u64 x.tag::(.bool x.sent::(db_ x.last++(.bool x.over::[.bool x.halt])))))):=by unfold aI_;rw[pL1 (bb_ _)];all_goals rfl
theorem yn_(x:Sta):cut (aI_ x) 150 1=[x.reqs]:=by unfold aI_;rw[cR1 (bb_ _)];simp only[Nat.reduceSub];all_goals rfl
theorem yt_(x:Sta)(v:AV):spl (aI_ x) 150 [v]=aI_ { x with reqs:=v }:=by unfold aI_;rw[pR1 (bb_ _)];simp only[Nat.reduceSub];all_goals rfl
theorem yo_(x:Sta):cut (aI_ x) 151 1=[x.rets]:=by unfold aI_;rw[cR1 (bb_ _),cS1];simp only[Nat.reduceSub];all_goals rfl
theorem yu_(x:Sta)(v:AV):spl (aI_ x) 151 [v]=aI_ { x with rets:=v }:=by unfold aI_;rw[pR1 (bb_ _),pS1];simp only[Nat.reduceSub];all_goals rfl
theorem Ch_(x:Sta):cut (aI_ x) 152 1=[.int .u64 x.tag]:=by unfold aI_;rw[cR1 (bb_ _),cS1,cS1];simp only[Nat.reduceSub];all_goals rfl
theorem Cj_(x:Sta)(v:Int):spl (aI_ x) 152 [.int .u64 v]=aI_ { x with tag:=v }:=by unfold aI_;rw[pR1 (bb_ _),pS1,pS1];simp only[Nat.reduceSub];all_goals rfl
theorem yp_(x:Sta):cut (aI_ x) 153 1=[.bool x.sent]:=by unfold aI_;rw[cR1 (bb_ _),cS1];rw[cS1,cS1];simp only[Nat.reduceSub];all_goals rfl
theorem yv_(x:Sta)(v:Bool):spl (aI_ x) 153 [.bool v]=aI_ { x with sent:=v }:=by unfold aI_;rw[pR1 (bb_ _),pS1];rw[pS1,pS1];simp only[Nat.reduceSub];all_goals rfl
theorem yl_(x:Sta)(o n:Nat)(h1:154≤o)(h2:o+n≤250):cut (aI_ x) o n=cut (db_ x.last) (o-154) n:=by unfold aI_;rw[cR1 (bb_ _),cS1];rw[cS1,cS1];rw[cS1,cL1 (dp_ _)];rw[show o-150-1-1-1-1=o-154 by omega]
theorem yr_(x:Sta)(o:Nat)(vs:List AV)(h1:154≤o)(h2:o+vs.length≤250):spl (aI_ x) o vs=ak_ x.sto++(x.reqs::(x.rets::(.int .u64 x.tag::(.bool x.sent::(spl (db_ x.last) (o-154) vs++(.bool x.over::[.bool x.halt])))))):=by unfold aI_;rw[pR1 (bb_ _),pS1];rw[pS1,pS1];rw[pS1,pL1 (dp_ _)];rw[show o-150-1-1-1-1=o-154 by omega]
theorem ym_(x:Sta):cut (aI_ x) 250 1=[.bool x.over]:=by unfold aI_;rw[cR1 (bb_ _),cS1];rw[cS1,cS1];rw[cS1,cR1 (dp_ _)];simp only[Nat.reduceSub];all_goals rfl
theorem ys_(x:Sta)(v:Bool):spl (aI_ x) 250 [.bool v]=aI_ { x with over:=v }:=by unfold aI_;rw[pR1 (bb_ _),pS1];rw[pS1,pS1];rw[pS1,pR1 (dp_ _)];simp only[Nat.reduceSub];all_goals rfl
theorem yk_(x:Sta):cut (aI_ x) 251 1=[.bool x.halt]:=by unfold aI_;rw[cR1 (bb_ _),cS1];rw[cS1,cS1];rw[cS1,cR1 (dp_ _),cS1];simp only[Nat.reduceSub];all_goals rfl
theorem yq_(x:Sta)(v:Bool):spl (aI_ x) 251 [.bool v]=aI_ { x with halt:=v }:=by unfold aI_;rw[pR1 (bb_ _),pS1];rw[pS1,pS1];rw[pS1,pR1 (dp_ _),pS1];simp only[Nat.reduceSub];all_goals rfl
def Sta.map(g:AV→AV)(x:Sta):Sta:={ x with sto:=x.sto.map g,reqs:=g x.reqs,rets:=g x.rets }
theorem Sta.map_mk(g:AV→AV)(sto:Sto)(reqs:AV)(rets:AV)(tag:Int)(sent:Bool)(last:Cmd)(over:Bool)(halt:Bool):Sta.map g ⟨sto,reqs,rets,tag,sent,last,over,halt⟩=⟨sto.map g,g reqs,g rets,tag,sent,last,over,halt⟩:=rfl
def Sta.good(x:Sta):Bool:=x.sto.good&&x.reqs.cell&&x.rets.cell
theorem Sta.good_mk(sto:Sto)(reqs:AV)(rets:AV)(tag:Int)(sent:Bool)(last:Cmd)(over:Bool)(halt:Bool):Sta.good ⟨sto,reqs,rets,tag,sent,last,over,halt⟩=(sto.good&&reqs.cell&&rets.cell):=rfl
def Sta.Pure(x:Sta):Prop:=x.sto.Pure∧Pu x.reqs∧Pu x.rets
theorem wJ_(x:Sta):aS_ (aI_ x)=x.good:=by simp[aI_,Sta.good,Bool.and_assoc,aZ_,bj_,bk_,AV.cell,og_,ok_]
theorem CM_(x:Sta):PuL (aI_ x)↔x.Pure:=by simp[aI_,Sta.Pure,cR_,PuL,Pu,jW_,ha_]
theorem zX_(ρ:Nat→Nat)(x:Sta):ci_ ρ (aI_ x)=aI_ (x.map (ren ρ)):=by simp only[aI_,Sta.map,hx_,ci_,ren,sa_,sc_]
theorem My_(σ:St)(zs:List Nat)(x:Sta):fzL σ zs (aI_ x)=aI_ (x.map (fz σ zs)):=by simp only[aI_,Sta.map,ii_,fzL,fz,DI_,DL_]
def lO_:Sta:=⟨eW_,.sl 0 true [],.sl 0 true [],0,false,rs_,false,false⟩
attribute [go_sem] Ka_ bx_ JZ_ xV_ xX_ xW_ xY_ vE_ vH_ vG_ vJ_ vF_ vI_ rP_ rQ_ oh_ sb_ JG_ IJ_ Jg_ aF_ Jf_ AJ_ AN_ AK_ AO_ uB_ uC_ AL_ AP_ AI_ AM_ xb_ xc_ Cfg.map_mk Cfg.good_mk oe_ rZ_ Lu_ mV_ Lt_ CC_ CD_ Fi_ Fj_ yG_ yH_ wK_ Aa_ JL_ IN_ Kf_ mS_ Ke_ BA_ BB_ Ef_ Eg_ tx_ ty_ wG_ zU_ JH_ IK_ KW_ bb_ KV_ Cm_ Cq_ tK_ tL_ Cn_ Cr_ Hp_ Hr_ Ho_ Hq_ wv_ wy_ yw_ yy_ ww_ wz_ Cp_ Cs_ wu_ wx_ yx_ yz_ nW_ nY_ Co_ rf_ nV_ nX_ Sto.map_mk Sto.good_mk ok_ sc_ KF_ mT_ KE_ BK_ BM_ wf_ wh_ wg_ wi_ BJ_ BL_ wH_ zV_ JJ_ IL_ Jr_ dp_ Jq_ xh_ xj_ xi_ xk_ AU_ AV_ og_ sa_ JF_ II_ KT_ mU_ KS_ Cg_ Ci_ yn_ yt_ yo_ yu_ Ch_ Cj_ yp_ yv_ yl_ yr_ ym_ ys_ yk_ yq_ Sta.map_mk Sta.good_mk wJ_ zX_ OP_ nK_ do_ gs_ eW_ pA_ rs_ lO_ bx_ sb_ DJ_ aF_ Cfg.map_mk rZ_ DG_ mV_ Aa_ Mz_ mS_ zU_ Mu_ bb_ Sto.map_mk sc_ DL_ mT_ zV_ Mw_ dp_ sa_ DI_ mU_ Sta.map_mk zX_ My_
def rows{α:Type}(f:α→List AV)(l:List α):List (List AV):=l.map f
section
variable{α:Type}{f:α→List AV}{l m:List α}
@[simp] theorem Ec_(f:α→List AV)(l:List α):(rows f l).length=l.length:=by simp[rows]
theorem Nn_(f:α→List AV):rows f []=[]:=rfl
theorem wj_(f:α→List AV)(l m:List α):rows f l++rows f m=rows f (l++m):=by simp[rows]
theorem bB_(f:α→List AV)(l:List α)(x:α):rows f l++[f x]=rows f (l++[x]):=by simp[rows]
theorem ky_(f:α→List AV)(l:List α)(n:Nat):(rows f l).take n=rows f (l.take n):=by simp[rows]
theorem nC_(f:α→List AV)(l:List α)(n:Nat):(rows f l).drop n=rows f (l.drop n):=by simp[rows]
theorem qX_(f:α→List AV)(l:List α)(n:Nat)(x:α):(rows f l).set n (f x)=rows f (l.set n x):=by simp[rows,List.map_set]
theorem No_(f:α→List AV)(n:Nat)(x:α):List.replicate n (f x)=rows f (List.replicate n x):=by simp[rows]
theorem aA_{i:Nat}(d:α)(h:i<l.length):(rows f l).getD i []=f (l.getD i d):=by
 simp[rows,List.getD_eq_getElem?_getD,h]
theorem bt_(h:∀x∈l,PuL (f x)):dH_ (rows f l):=by
 rw[lQ_];intro x hx;obtain⟨y,hy,rfl⟩:=List.mem_map.1 hx;exact h y hy
end
theorem gdn{k:IntKind}{ns:List Int}{i:Nat}(h:i<ns.length):(aq_ k ns).getD i []=[.int k (ns.getD i 0)]:=by
 simp[aq_,List.getD_eq_getElem?_getD,h]
def he_(b:Bool):List AV:=[.bool b]
theorem IH_(b:Bool):PuL (he_ b):=by simp[he_,PuL,Pu]
theorem Hv_(h:Bool)(c:Cp):.bool h::cpC c=aV_ ⟨h,c.ep,c.rt⟩:=rfl
attribute [go_sem] Hv_
attribute [go_sem] Ec_ Nn_
structure aD_ where
 slot:Int
 root:Rt
 target:Cp
 vals:List Int
 deriving Inhabited,DecidableEq
def aD_.a(x:aD_):Att:=⟨x.slot,x.root,x.target,.sl 1 false (aq_ .i64 x.vals)⟩
abbrev aD_.c(x:aD_):List AV:=bl_ x.a
theorem aD_.a_slot(x:aD_):x.a.slot=x.slot:=rfl
theorem aD_.a_root(x:aD_):x.a.root=x.root:=rfl
theorem aD_.a_target(x:aD_):x.a.target=x.target:=rfl
theorem aD_.a_vals(x:aD_):x.a.vals=.sl 1 false (aq_ .i64 x.vals):=rfl
theorem aD_.pure(x:aD_):x.a.Pure:=by
 exact aM_ _ _
theorem aD_.pul(x:aD_):PuL (bl_ x.a):=(ex_ _).2 x.pure
theorem aD_.ren_a(ρ:Nat→Nat)(x:aD_):ci_ ρ (bl_ x.a)=bl_ x.a:=x.pul.ren ρ
theorem aD_.fz_a(σ:St)(zs:List Nat)(x:aD_):fzL σ zs (bl_ x.a)=bl_ x.a:=x.pul.fz σ zs
theorem aD_.map_ren(ρ:Nat→Nat)(x:aD_):x.a.map (ren ρ)=x.a:=by
 unfold aD_.a Att.map;simp only[ren,cC_]
theorem aD_.map_fz(σ:St)(zs:List Nat)(x:aD_):x.a.map (fz σ zs)=x.a:=by
 unfold aD_.a Att.map;simp only[fz,ds_]
theorem aD_.good_a(x:aD_):x.a.good=true:=by
 simp[aD_.a,Att.good,AV.cell]
structure au_ where
 cp:Cp
 bals:List Int
 deriving Inhabited,DecidableEq
def au_.a(x:au_):Tab:=⟨x.cp,.sl 1 false (aq_ .u64 x.bals)⟩
abbrev au_.c(x:au_):List AV:=aY_ x.a
theorem au_.a_cp(x:au_):x.a.cp=x.cp:=rfl
theorem au_.a_bals(x:au_):x.a.bals=.sl 1 false (aq_ .u64 x.bals):=rfl
theorem au_.pure(x:au_):x.a.Pure:=by
 exact aM_ _ _
theorem au_.pul(x:au_):PuL (aY_ x.a):=(ec_ _).2 x.pure
theorem au_.ren_a(ρ:Nat→Nat)(x:au_):ci_ ρ (aY_ x.a)=aY_ x.a:=x.pul.ren ρ
theorem au_.fz_a(σ:St)(zs:List Nat)(x:au_):fzL σ zs (aY_ x.a)=aY_ x.a:=x.pul.fz σ zs
theorem au_.map_ren(ρ:Nat→Nat)(x:au_):x.a.map (ren ρ)=x.a:=by
 unfold au_.a Tab.map;simp only[ren,cC_]
theorem au_.map_fz(σ:St)(zs:List Nat)(x:au_):x.a.map (fz σ zs)=x.a:=by
 unfold au_.a Tab.map;simp only[fz,ds_]
theorem au_.good_a(x:au_):x.a.good=true:=by
 simp[au_.a,Tab.good,AV.cell]
structure df_ where
 src:Int
 tgt:Int
 root:Rt
 vals:List Int
 deriving Inhabited,DecidableEq
def df_.a(x:df_):Clm:=⟨x.src,x.tgt,x.root,.sl 1 false (aq_ .i64 x.vals)⟩
abbrev df_.c(x:df_):List AV:=bQ_ x.a
theorem df_.a_src(x:df_):x.a.src=x.src:=rfl
theorem df_.a_tgt(x:df_):x.a.tgt=x.tgt:=rfl
theorem df_.a_root(x:df_):x.a.root=x.root:=rfl
theorem df_.a_vals(x:df_):x.a.vals=.sl 1 false (aq_ .i64 x.vals):=rfl
theorem df_.pure(x:df_):x.a.Pure:=by
 exact aM_ _ _
theorem df_.pul(x:df_):PuL (bQ_ x.a):=(jV_ _).2 x.pure
theorem df_.ren_a(ρ:Nat→Nat)(x:df_):ci_ ρ (bQ_ x.a)=bQ_ x.a:=x.pul.ren ρ
theorem df_.fz_a(σ:St)(zs:List Nat)(x:df_):fzL σ zs (bQ_ x.a)=bQ_ x.a:=x.pul.fz σ zs
theorem df_.map_ren(ρ:Nat→Nat)(x:df_):x.a.map (ren ρ)=x.a:=by
 unfold df_.a Clm.map;simp only[ren,cC_]
theorem df_.map_fz(σ:St)(zs:List Nat)(x:df_):x.a.map (fz σ zs)=x.a:=by
 unfold df_.a Clm.map;simp only[fz,ds_]
theorem df_.good_a(x:df_):x.a.good=true:=by
 simp[df_.a,Clm.good,AV.cell]
structure dl_ where
 fst:df_
 snd:df_
 deriving Inhabited,DecidableEq
def dl_.a(x:dl_):Slg:=⟨x.fst.a,x.snd.a⟩
abbrev dl_.c(x:dl_):List AV:=cy_ x.a
theorem dl_.a_fst(x:dl_):x.a.fst=x.fst.a:=rfl
theorem dl_.a_snd(x:dl_):x.a.snd=x.snd.a:=rfl
theorem dl_.pure(x:dl_):x.a.Pure:=by
 exact⟨df_.pure _,df_.pure _⟩
theorem dl_.pul(x:dl_):PuL (cy_ x.a):=(fY_ _).2 x.pure
theorem dl_.ren_a(ρ:Nat→Nat)(x:dl_):ci_ ρ (cy_ x.a)=cy_ x.a:=x.pul.ren ρ
theorem dl_.fz_a(σ:St)(zs:List Nat)(x:dl_):fzL σ zs (cy_ x.a)=cy_ x.a:=x.pul.fz σ zs
theorem dl_.map_ren(ρ:Nat→Nat)(x:dl_):x.a.map (ren ρ)=x.a:=by
 unfold dl_.a Slg.map;simp only[ren,cC_,df_.map_ren,df_.map_ren]
theorem dl_.map_fz(σ:St)(zs:List Nat)(x:dl_):x.a.map (fz σ zs)=x.a:=by
 unfold dl_.a Slg.map;simp only[fz,ds_,df_.map_fz,df_.map_fz]
theorem dl_.good_a(x:dl_):x.a.good=true:=by
 simp[dl_.a,Slg.good,AV.cell,df_.good_a,df_.good_a]
structure bu_ where
 lim:Lim
 spe:Int
 boost:Int
 ttd:Wd
 gen:Rt
 bals:List Int
 deriving Inhabited,DecidableEq
def bu_.a(x:bu_):Cfg:=⟨x.lim,x.spe,x.boost,x.ttd,x.gen,.sl 1 false (aq_ .u64 x.bals)⟩
abbrev bu_.c(x:bu_):List AV:=bn_ x.a
theorem bu_.a_lim(x:bu_):x.a.lim=x.lim:=rfl
theorem bu_.a_spe(x:bu_):x.a.spe=x.spe:=rfl
theorem bu_.a_boost(x:bu_):x.a.boost=x.boost:=rfl
theorem bu_.a_ttd(x:bu_):x.a.ttd=x.ttd:=rfl
theorem bu_.a_gen(x:bu_):x.a.gen=x.gen:=rfl
theorem bu_.a_bals(x:bu_):x.a.bals=.sl 1 false (aq_ .u64 x.bals):=rfl
theorem bu_.pure(x:bu_):x.a.Pure:=by
 exact aM_ _ _
theorem bu_.pul(x:bu_):PuL (bn_ x.a):=(CK_ _).2 x.pure
theorem bu_.ren_a(ρ:Nat→Nat)(x:bu_):ci_ ρ (bn_ x.a)=bn_ x.a:=x.pul.ren ρ
theorem bu_.fz_a(σ:St)(zs:List Nat)(x:bu_):fzL σ zs (bn_ x.a)=bn_ x.a:=x.pul.fz σ zs
theorem bu_.map_ren(ρ:Nat→Nat)(x:bu_):x.a.map (ren ρ)=x.a:=by
 unfold bu_.a Cfg.map;simp only[ren,cC_]
theorem bu_.map_fz(σ:St)(zs:List Nat)(x:bu_):x.a.map (fz σ zs)=x.a:=by
 unfold bu_.a Cfg.map;simp only[fz,ds_]
theorem bu_.good_a(x:bu_):x.a.good=true:=by
 simp[bu_.a,Cfg.good,AV.cell]
structure ah_ where
 cfg:bu_
 latest:List Vot
 eqv:List Int
 j:Cp
 f:Cp
 early:List aD_
 orph:List Blk
 nodes:List Nod
 now:Int
 boost:Rt
 tabs:List au_
 deriving Inhabited,DecidableEq
def ah_.a(x:ah_):Sto:=⟨x.cfg.a,.sl 34 false (rows aV_ x.latest),.sl 1 false (aq_ .i64 x.eqv),x.j,x.f,.sl 67 false (rows aD_.c x.early),.sl 238 false (rows ap_ x.orph),.sl 240 false (rows ax_ x.nodes),x.now,x.boost,.sl 34 false (rows au_.c x.tabs)⟩
abbrev ah_.c(x:ah_):List AV:=ak_ x.a
theorem ah_.a_cfg(x:ah_):x.a.cfg=x.cfg.a:=rfl
theorem ah_.a_latest(x:ah_):x.a.latest=.sl 34 false (rows aV_ x.latest):=rfl
theorem ah_.a_eqv(x:ah_):x.a.eqv=.sl 1 false (aq_ .i64 x.eqv):=rfl
theorem ah_.a_j(x:ah_):x.a.j=x.j:=rfl
theorem ah_.a_f(x:ah_):x.a.f=x.f:=rfl
theorem ah_.a_early(x:ah_):x.a.early=.sl 67 false (rows aD_.c x.early):=rfl
theorem ah_.a_orph(x:ah_):x.a.orph=.sl 238 false (rows ap_ x.orph):=rfl
theorem ah_.a_nodes(x:ah_):x.a.nodes=.sl 240 false (rows ax_ x.nodes):=rfl
theorem ah_.a_now(x:ah_):x.a.now=x.now:=rfl
theorem ah_.a_boost(x:ah_):x.a.boost=x.boost:=rfl
theorem ah_.a_tabs(x:ah_):x.a.tabs=.sl 34 false (rows au_.c x.tabs):=rfl
theorem ah_.pure(x:ah_):x.a.Pure:=by
 exact⟨bu_.pure _,bt_ fun x _=>ix_ x,aM_ _ _,bt_ fun x _=>(ex_ _).2 (aD_.pure x),bt_ fun x _=>ea_ x,bt_ fun x _=>iw_ x,bt_ fun x _=>(ec_ _).2 (au_.pure x)⟩
theorem ah_.pul(x:ah_):PuL (ak_ x.a):=(ha_ _).2 x.pure
theorem ah_.ren_a(ρ:Nat→Nat)(x:ah_):ci_ ρ (ak_ x.a)=ak_ x.a:=x.pul.ren ρ
theorem ah_.fz_a(σ:St)(zs:List Nat)(x:ah_):fzL σ zs (ak_ x.a)=ak_ x.a:=x.pul.fz σ zs
theorem ah_.map_ren(ρ:Nat→Nat)(x:ah_):x.a.map (ren ρ)=x.a:=by
 unfold ah_.a Sto.map;simp only[ren,cC_,bu_.map_ren,(bt_ (f:=aV_) (l:=x.latest) fun y _=>ix_ y).ren ρ,(bt_ (f:=aD_.c) (l:=x.early) fun y _=>(ex_ _).2 (aD_.pure y)).ren ρ,(bt_ (f:=ap_) (l:=x.orph) fun y _=>ea_ y).ren ρ,(bt_ (f:=ax_) (l:=x.nodes) fun y _=>iw_ y).ren ρ,(bt_ (f:=au_.c) (l:=x.tabs) fun y _=>(ec_ _).2 (au_.pure y)).ren ρ]
theorem ah_.map_fz(σ:St)(zs:List Nat)(x:ah_):x.a.map (fz σ zs)=x.a:=by
 unfold ah_.a Sto.map;simp only[fz,ds_,bu_.map_fz,(bt_ (f:=aV_) (l:=x.latest) fun y _=>ix_ y).fz σ zs,(bt_ (f:=aD_.c) (l:=x.early) fun y _=>(ex_ _).2 (aD_.pure y)).fz σ zs,(bt_ (f:=ap_) (l:=x.orph) fun y _=>ea_ y).fz σ zs,(bt_ (f:=ax_) (l:=x.nodes) fun y _=>iw_ y).fz σ zs,(bt_ (f:=au_.c) (l:=x.tabs) fun y _=>(ec_ _).2 (au_.pure y)).fz σ zs]
theorem ah_.good_a(x:ah_):x.a.good=true:=by
 simp[ah_.a,Sto.good,AV.cell,bu_.good_a]
structure aG_ where
 sto:ah_
 reqs:List Req
 rets:List Req
 tag:Int
 sent:Bool
 last:Cmd
 over:Bool
 halt:Bool
 deriving Inhabited,DecidableEq
def aG_.a(x:aG_):Sta:=⟨x.sto.a,.sl 35 false (rows aJ_ x.reqs),.sl 35 false (rows aJ_ x.rets),x.tag,x.sent,x.last,x.over,x.halt⟩
abbrev aG_.c(x:aG_):List AV:=aI_ x.a
theorem aG_.a_sto(x:aG_):x.a.sto=x.sto.a:=rfl
theorem aG_.a_reqs(x:aG_):x.a.reqs=.sl 35 false (rows aJ_ x.reqs):=rfl
theorem aG_.a_rets(x:aG_):x.a.rets=.sl 35 false (rows aJ_ x.rets):=rfl
theorem aG_.a_tag(x:aG_):x.a.tag=x.tag:=rfl
theorem aG_.a_sent(x:aG_):x.a.sent=x.sent:=rfl
theorem aG_.a_last(x:aG_):x.a.last=x.last:=rfl
theorem aG_.a_over(x:aG_):x.a.over=x.over:=rfl
theorem aG_.a_halt(x:aG_):x.a.halt=x.halt:=rfl
theorem aG_.pure(x:aG_):x.a.Pure:=by
 exact⟨ah_.pure _,bt_ fun x _=>eb_ x,bt_ fun x _=>eb_ x⟩
theorem aG_.pul(x:aG_):PuL (aI_ x.a):=(CM_ _).2 x.pure
theorem aG_.ren_a(ρ:Nat→Nat)(x:aG_):ci_ ρ (aI_ x.a)=aI_ x.a:=x.pul.ren ρ
theorem aG_.fz_a(σ:St)(zs:List Nat)(x:aG_):fzL σ zs (aI_ x.a)=aI_ x.a:=x.pul.fz σ zs
theorem aG_.map_ren(ρ:Nat→Nat)(x:aG_):x.a.map (ren ρ)=x.a:=by
 unfold aG_.a Sta.map;simp only[ren,cC_,ah_.map_ren,(bt_ (f:=aJ_) (l:=x.reqs) fun y _=>eb_ y).ren ρ,(bt_ (f:=aJ_) (l:=x.rets) fun y _=>eb_ y).ren ρ]
theorem aG_.map_fz(σ:St)(zs:List Nat)(x:aG_):x.a.map (fz σ zs)=x.a:=by
 unfold aG_.a Sta.map;simp only[fz,ds_,ah_.map_fz,(bt_ (f:=aJ_) (l:=x.reqs) fun y _=>eb_ y).fz σ zs,(bt_ (f:=aJ_) (l:=x.rets) fun y _=>eb_ y).fz σ zs]
theorem aG_.good_a(x:aG_):x.a.good=true:=by
 simp[aG_.a,Sta.good,AV.cell,ah_.good_a]
structure VOp where
 kind:Int
 blk:Blk
 att:aD_
 slg:dl_
 tab:au_
 vdt:Vdt
 write:Int
 keep:Int
 deriving Inhabited,DecidableEq
def VOp.a(x:VOp):SOp:=⟨x.kind,x.blk,x.att.a,x.slg.a,x.tab.a,x.vdt,x.write,x.keep⟩
abbrev VOp.c(x:VOp):List AV:=bL_ x.a
theorem VOp.a_kind(x:VOp):x.a.kind=x.kind:=rfl
theorem VOp.a_blk(x:VOp):x.a.blk=x.blk:=rfl
theorem VOp.a_att(x:VOp):x.a.att=x.att.a:=rfl
theorem VOp.a_slg(x:VOp):x.a.slg=x.slg.a:=rfl
theorem VOp.a_tab(x:VOp):x.a.tab=x.tab.a:=rfl
theorem VOp.a_vdt(x:VOp):x.a.vdt=x.vdt:=rfl
theorem VOp.a_write(x:VOp):x.a.write=x.write:=rfl
theorem VOp.a_keep(x:VOp):x.a.keep=x.keep:=rfl
theorem VOp.pure(x:VOp):x.a.Pure:=by
 exact⟨aD_.pure _,dl_.pure _,au_.pure _⟩
theorem VOp.pul(x:VOp):PuL (bL_ x.a):=(fj_ _).2 x.pure
theorem VOp.ren_a(ρ:Nat→Nat)(x:VOp):ci_ ρ (bL_ x.a)=bL_ x.a:=x.pul.ren ρ
theorem VOp.fz_a(σ:St)(zs:List Nat)(x:VOp):fzL σ zs (bL_ x.a)=bL_ x.a:=x.pul.fz σ zs
theorem VOp.map_ren(ρ:Nat→Nat)(x:VOp):x.a.map (ren ρ)=x.a:=by
 unfold VOp.a SOp.map;simp only[ren,cC_,aD_.map_ren,dl_.map_ren,au_.map_ren]
theorem VOp.map_fz(σ:St)(zs:List Nat)(x:VOp):x.a.map (fz σ zs)=x.a:=by
 unfold VOp.a SOp.map;simp only[fz,ds_,aD_.map_fz,dl_.map_fz,au_.map_fz]
theorem VOp.good_a(x:VOp):x.a.good=true:=by
 simp[VOp.a,SOp.good,AV.cell,aD_.good_a,dl_.good_a,au_.good_a]
theorem fK_(l:List Rt):dH_ (rows rtc l):=bt_ fun x _=>cw_ x
theorem wd_(ρ:Nat→Nat)(l:List Rt):cg_ ρ (rows rtc l)=rows rtc l:=(fK_ l).ren ρ
theorem xS_(σ:St)(zs:List Nat)(l:List Rt):eQ_ σ zs (rows rtc l)=rows rtc l:=(fK_ l).fz σ zs
theorem gU_(l:List Bool):dH_ (rows he_ l):=bt_ fun x _=>IH_ x
theorem rY_(ρ:Nat→Nat)(l:List Bool):cg_ ρ (rows he_ l)=rows he_ l:=(gU_ l).ren ρ
theorem tv_(σ:St)(zs:List Nat)(l:List Bool):eQ_ σ zs (rows he_ l)=rows he_ l:=(gU_ l).fz σ zs
theorem ib_(l:List Vot):dH_ (rows aV_ l):=bt_ fun x _=>ix_ x
theorem tH_(ρ:Nat→Nat)(l:List Vot):cg_ ρ (rows aV_ l)=rows aV_ l:=(ib_ l).ren ρ
theorem vr_(σ:St)(zs:List Nat)(l:List Vot):eQ_ σ zs (rows aV_ l)=rows aV_ l:=(ib_ l).fz σ zs
theorem hZ_(l:List Blk):dH_ (rows ap_ l):=bt_ fun x _=>ea_ x
theorem tD_(ρ:Nat→Nat)(l:List Blk):cg_ ρ (rows ap_ l)=rows ap_ l:=(hZ_ l).ren ρ
theorem vn_(σ:St)(zs:List Nat)(l:List Blk):eQ_ σ zs (rows ap_ l)=rows ap_ l:=(hZ_ l).fz σ zs
theorem eM_(l:List Nod):dH_ (rows ax_ l):=bt_ fun x _=>iw_ x
theorem tF_(ρ:Nat→Nat)(l:List Nod):cg_ ρ (rows ax_ l)=rows ax_ l:=(eM_ l).ren ρ
theorem vp_(σ:St)(zs:List Nat)(l:List Nod):eQ_ σ zs (rows ax_ l)=rows ax_ l:=(eM_ l).fz σ zs
theorem ia_(l:List Req):dH_ (rows aJ_ l):=bt_ fun x _=>eb_ x
theorem tG_(ρ:Nat→Nat)(l:List Req):cg_ ρ (rows aJ_ l)=rows aJ_ l:=(ia_ l).ren ρ
theorem vq_(σ:St)(zs:List Nat)(l:List Req):eQ_ σ zs (rows aJ_ l)=rows aJ_ l:=(ia_ l).fz σ zs
theorem dk_(l:List Cmd):dH_ (rows db_ l):=bt_ fun x _=>jW_ x
theorem tE_(ρ:Nat→Nat)(l:List Cmd):cg_ ρ (rows db_ l)=rows db_ l:=(dk_ l).ren ρ
theorem vo_(σ:St)(zs:List Nat)(l:List Cmd):eQ_ σ zs (rows db_ l)=rows db_ l:=(dk_ l).fz σ zs
theorem hY_(l:List aD_):dH_ (rows aD_.c l):=bt_ fun x _=>aD_.pul x
theorem tB_(ρ:Nat→Nat)(l:List aD_):cg_ ρ (rows aD_.c l)=rows aD_.c l:=(hY_ l).ren ρ
theorem vl_(σ:St)(zs:List Nat)(l:List aD_):eQ_ σ zs (rows aD_.c l)=rows aD_.c l:=(hY_ l).fz σ zs
theorem fZ_(l:List au_):dH_ (rows au_.c l):=bt_ fun x _=>au_.pul x
theorem tC_(ρ:Nat→Nat)(l:List au_):cg_ ρ (rows au_.c l)=rows au_.c l:=(fZ_ l).ren ρ
theorem vm_(σ:St)(zs:List Nat)(l:List au_):eQ_ σ zs (rows au_.c l)=rows au_.c l:=(fZ_ l).fz σ zs
theorem jl_(l:List VOp):dH_ (rows VOp.c l):=bt_ fun x _=>VOp.pul x
theorem wc_(ρ:Nat→Nat)(l:List VOp):cg_ ρ (rows VOp.c l)=rows VOp.c l:=(jl_ l).ren ρ
theorem xR_(σ:St)(zs:List Nat)(l:List VOp):eQ_ σ zs (rows VOp.c l)=rows VOp.c l:=(jl_ l).fz σ zs
attribute [go_sem] aD_.a_slot aD_.a_root aD_.a_target aD_.a_vals aD_.pul aD_.ren_a aD_.fz_a aD_.map_ren aD_.map_fz aD_.good_a au_.a_cp au_.a_bals au_.pul au_.ren_a au_.fz_a au_.map_ren au_.map_fz au_.good_a df_.a_src df_.a_tgt df_.a_root df_.a_vals df_.pul df_.ren_a df_.fz_a df_.map_ren df_.map_fz df_.good_a dl_.a_fst dl_.a_snd dl_.pul dl_.ren_a dl_.fz_a dl_.map_ren dl_.map_fz dl_.good_a bu_.a_lim bu_.a_spe bu_.a_boost bu_.a_ttd bu_.a_gen bu_.a_bals bu_.pul bu_.ren_a bu_.fz_a bu_.map_ren bu_.map_fz bu_.good_a ah_.a_cfg ah_.a_latest ah_.a_eqv ah_.a_j ah_.a_f ah_.a_early ah_.a_orph ah_.a_nodes ah_.a_now ah_.a_boost ah_.a_tabs ah_.pul ah_.ren_a ah_.fz_a ah_.map_ren ah_.map_fz ah_.good_a aG_.a_sto aG_.a_reqs aG_.a_rets aG_.a_tag aG_.a_sent aG_.a_last aG_.a_over aG_.a_halt aG_.pul aG_.ren_a aG_.fz_a aG_.map_ren aG_.map_fz aG_.good_a VOp.a_kind VOp.a_blk VOp.a_att VOp.a_slg VOp.a_tab VOp.a_vdt VOp.a_write VOp.a_keep VOp.pul VOp.ren_a VOp.fz_a VOp.map_ren VOp.map_fz VOp.good_a fK_ wd_ xS_ gU_ rY_ tv_ ib_ tH_ vr_ hZ_ tD_ vn_ eM_ tF_ vp_ ia_ tG_ vq_ dk_ tE_ vo_ hY_ tB_ vl_ fZ_ tC_ vm_ jl_ wc_ xR_
end Go.FH
namespace Go.FH
def om(d s:Nat):bm_:=⟨some d,.mv (.t s),none⟩
def oo(d:Nat)(op:AOp):bm_:=⟨some d,op,none⟩
def on(op:AOp):bm_:=⟨none,op,none⟩
def omg(d s t:Nat)(b:Bool):bm_:=⟨some d,.mv (.t s),some (t,b)⟩
def og(d:Nat)(op:AOp)(t:Nat)(b:Bool):bm_:=⟨some d,op,some (t,b)⟩
def ong(op:AOp)(t:Nat)(b:Bool):bm_:=⟨none,op,some (t,b)⟩
def ci(n:Int):Opd:=.c (.int .i64 n)
def cu(n:Int):Opd:=.c (.int .u64 n)
def cb(b:Bool):Opd:=.c (.bool b)
def cf(n:Nat):Opd:=.c (.fn (.func n) [])
def fA(d o x:Nat):bm_:=⟨some d,.fldA o (.t x),none⟩
def lA(d n x:Nat):bm_:=⟨some d,.ld true n (.t x),none⟩
def lF(d n x:Nat):bm_:=⟨some d,.ld false n (.t x),none⟩
def bI(d:Nat)(o:BinOp)(x y:Nat):bm_:=⟨some d,.bin o (.t x) (.t y),none⟩
def bC(d:Nat)(o:BinOp)(x:Nat)(c:Opd):bm_:=⟨some d,.bin o (.t x) c,none⟩
def sO(n x y:Nat):bm_:=⟨none,.sto n (.t x) (.t y),none⟩
def eX(d i x:Nat):bm_:=⟨some d,.ext i (.t x),none⟩
def lN(d x:Nat):bm_:=⟨some d,.len false (.t x),none⟩
def iX(d e x y:Nat):bm_:=⟨some d,.idxS e (.t x) (.t y),none⟩
def kA(d f x:Nat):bm_:=⟨some d,.call (cf f) [.t x],none⟩
def kB(d f x y:Nat):bm_:=⟨some d,.call (cf f) [.t x,.t y],none⟩
def kC(d f x y z:Nat):bm_:=⟨some d,.call (cf f) [.t x,.t y,.t z],none⟩
def sR(l:List bm_)(x:ad_):ad_:=.seq (.reg l) x
def cN(c:Nat)(x y:ad_):ad_:=.cond (.t c) x y
def wA(d o x t:Nat):bm_:=⟨some d,.fldA o (.t x),some (t,false)⟩
def wB(d o x t:Nat):bm_:=⟨some d,.fldA o (.t x),some (t,true)⟩
def wC(d n x t:Nat):bm_:=⟨some d,.ld false n (.t x),some (t,false)⟩
def wD(d n x t:Nat):bm_:=⟨some d,.ld false n (.t x),some (t,true)⟩
def wE(d n x t:Nat):bm_:=⟨some d,.ld true n (.t x),some (t,false)⟩
def wF(d n x t:Nat):bm_:=⟨some d,.ld true n (.t x),some (t,true)⟩
def wG(d s t:Nat):bm_:=⟨some d,.mv (.t s),some (t,false)⟩
def wH(d s t:Nat):bm_:=⟨some d,.mv (.t s),some (t,true)⟩
def wI(d:Nat)(o:BinOp)(x y t:Nat):bm_:=⟨some d,.bin o (.t x) (.t y),some (t,false)⟩
def wJ(d:Nat)(o:BinOp)(x y t:Nat):bm_:=⟨some d,.bin o (.t x) (.t y),some (t,true)⟩
def wK(d:Nat)(o:BinOp)(x:Nat)(c:Opd)(t:Nat):bm_:=⟨some d,.bin o (.t x) c,some (t,false)⟩
def wL(d:Nat)(o:BinOp)(x:Nat)(c:Opd)(t:Nat):bm_:=⟨some d,.bin o (.t x) c,some (t,true)⟩
def wM(d a b:Nat):bm_:=⟨some d,.pick (.t a) (cb true) (.t b),none⟩
def wN(d a b:Nat):bm_:=⟨some d,.pick (.t a) (.t b) (cb false),none⟩
def wO(d x:Nat):bm_:=⟨some d,.un .not (.t x),none⟩
def wP(d x t:Nat):bm_:=⟨some d,.un .not (.t x),some (t,false)⟩
def wQ(d x t:Nat):bm_:=⟨some d,.un .not (.t x),some (t,true)⟩
def wR(d:Nat)(n:Int):bm_:=⟨some d,.mv (ci n),none⟩
def wS(d:Nat)(b:Bool):bm_:=⟨some d,.mv (cb b),none⟩
def wT(d n x i t:Nat):bm_:=⟨some d,.idxS n (.t x) (.t i),some (t,false)⟩
def wU(d n x i t:Nat):bm_:=⟨some d,.idxS n (.t x) (.t i),some (t,true)⟩
def wV(d f x t:Nat):bm_:=⟨some d,.call (cf f) [.t x],some (t,false)⟩
def wW(d f x t:Nat):bm_:=⟨some d,.call (cf f) [.t x],some (t,true)⟩
def wX(d f x y t:Nat):bm_:=⟨some d,.call (cf f) [.t x,.t y],some (t,false)⟩
def wY(d f x y t:Nat):bm_:=⟨some d,.call (cf f) [.t x,.t y],some (t,true)⟩
def wZ(d n x:Nat):bm_:=⟨some d,.box n (.t x),none⟩
section
set_option maxRecDepth 100000
def zlO{r:List AV}(l:List AV)(h:r=l:=by(conv=>rhs;reduce)):{x // x=l}:=⟨r,h⟩
def zO1:=zlO (bL_ RO_)
def zO2:=zlO (aI_ lO_)
def zO3:=zlO (ak_ eW_)
def zO4:=zlO (ax_ gs_)
def zO5:=zlO (ap_ cF_)
def zO6:=zlO (cy_ yi_)
def zO7:=zlO (bl_ wM_)
def zO8:=zlO (bn_ nK_)
def zO9:=zlO (dh_ yb_)
def RZ_:=zlO (aJ_ pA_)
def Sa_:=zlO (bQ_ Oy_)
def Sb_:=zlO (aY_ rg_)
def Sc_:=zlO (cG_ gR_)
def Sd_:=zlO (aV_ do_)
def Se_:=zlO (cpC cp0)
def Sf_:=zlO (cI_ OP_)
def Sg_:=zlO (rtc rt0)
def Sh_:=zlO (wdc wd0)
def Si_:=zlO (db_ rs_)
def nfO(f:FuncId){P:Program}{n:Nat}{rs:List eu_}{c:ad_} (_h:as_ P f=some (n,rs,c):=by
 have z1:=zO1.2;have z2:=zO2.2;have z3:=zO3.2;have z4:=zO4.2;have z5:=zO5.2;have z6:=zO6.2;have z7:=zO7.2;have z8:=zO8.2;have z9:=zO9.2;have z10:=RZ_.2;have z11:=Sa_.2;have z12:=Sb_.2;have z13:=Sc_.2;have z14:=Sd_.2;have z15:=Se_.2;have z16:=Sf_.2;have z17:=Sg_.2;have z18:=Sh_.2;have z19:=Si_.2;unfold zO1 zlO at z1;unfold zO2 zlO at z2;unfold zO3 zlO at z3;unfold zO4 zlO at z4;unfold zO5 zlO at z5;unfold zO6 zlO at z6;unfold zO7 zlO at z7;unfold zO8 zlO at z8;unfold zO9 zlO at z9;unfold RZ_ zlO at z10;unfold Sa_ zlO at z11;unfold Sb_ zlO at z12;unfold Sc_ zlO at z13;unfold Sd_ zlO at z14;unfold Se_ zlO at z15;unfold Sf_ zlO at z16;unfold Sg_ zlO at z17;unfold Sh_ zlO at z18;unfold Si_ zlO at z19;dsimp only at z1 z2 z3 z4 z5 z6 z7 z8 z9 z10 z11 z12 z13 z14 z15 z16 z17 z18 z19;(conv=>lhs;reduce;(try simp only[↓z1,↓z2,↓z3,↓z4,↓z5,↓z6,↓z7,↓z8,↓z9,↓z10,↓z11,↓z12,↓z13,↓z14,↓z15,↓z16,↓z17,↓z18,↓z19]))):ad_:=c
end
theorem bd{p q:Prop}(hq:q)(h:Hid q→p:=by(intro hq;dsimp only[nfO,Int.reduceOfNat,Int.reduceNegSucc,wA,wB,wC,wD,wE,wF,wG,wH,wI,wJ,wK,wL,wM,wN,wO,wP,wQ,wR,wS,wT,wU,wV,wW,wX,wY,wZ,om,oo,on,omg,og,ong,ci,cu,cb,cf,fA,lA,lF,bI,bC,sO,eX,lN,iX,kA,kB,kC,sR,cN];exact hq.out)):p:=h ⟨hq⟩
theorem inT{i n:Nat}(h:i<n):decide ((i:Int)<((n:Nat):Int))=true:=decide_eq_true (by omega)
theorem inF(n:Nat):decide (((n:Nat):Int)<((n:Nat):Int))=false:=decide_eq_false (by omega)
theorem cJ_{p q:Prop}(hq:q)(h:Hid q→p:=by(intro hq;(try simp only[cl_,bZ_,List.set_cons_zero,List.set_cons_succ]);exact hq.out)):p:=h ⟨hq⟩
theorem puA{p:Prop}(h:p:=by simp[PuL,Pu,dH_,aM_,jI_,cw_,gT_,dK_,pP_,ea_,iw_,ix_,eb_,jW_,gZ_,lR_,ah_.pul,aG_.pul,aD_.pul,au_.pul,dl_.pul,df_.pul,bu_.pul,VOp.pul,ib_,hZ_,eM_,ia_,dk_,hY_,fZ_,jl_,fK_,gU_]):p:=h
theorem ae_{fr:Fr}{σ:St}{rs:List eu_}{r:AV}{l:List AV}(hl:cq_ fr σ rs=some l:=by first|rfl|exact evd)(hv:fz σ (List.range σ.length) (eH_ l)=r:=by exact evd):
 ∃l,cq_ fr σ rs=some l∧(fz σ (List.range σ.length) (eH_ l)=r∨∃r0,fz σ (List.range σ.length) (eH_ l)=r0∧Pu r0∧Wk r0 r):=⟨l,hl,.inl hv⟩
section
variable{P:Program}{nt k:Nat}{fr:Fr}{σ:St}{c:Opd}{x y:ad_}{Q:Ex→Fr→St→Prop}{q:Prop}
theorem Ri_(hq:q)(hb:c.ev fr=.bool true:=by exact evd)(h:Hid q→Tri P nt k x Q fr σ:=by(intro hq;(try refine aa_ ?_);exact hq.out)):Tri P nt k (.cond c x y) Q fr σ:=ac_ (h ⟨hq⟩) hb
theorem Rh_(hq:q)(hb:c.ev fr=.bool false:=by exact evd)(h:Hid q→Tri P nt k y Q fr σ:=by(intro hq;(try refine aa_ ?_);exact hq.out)):Tri P nt k (.cond c x y) Q fr σ:=ab_ (h ⟨hq⟩) hb
theorem So_{f:FuncId}{args caps:List AV}{r:AV}{K:AV→St→Prop}(h:PC P f (args++caps) r)(hq:q)(hk:Hid q→K r σ:=by(intro hq;(try refine aa_ ?_);exact hq.out)):fo_ P (.fn (.func f) caps) args σ K:=aj_ h (hk ⟨hq⟩)
theorem SN_{nv:Nat}{vs vs2:List AV}{ts:List (Nat×AV)}{σ2:St}(zs js:List Nat)(hk:k≤js.length:=by simp)(hfix:js.take k=List.range k:=by rfl)(hnd:js.Nodup:=by simp)(hlt:∀j∈js,j<σ.length:=by simp)(ho:fF_ σ zs (rn js σ.length) js σ2:=by exact evd)
 (hs:gu_ σ zs (rn js σ.length) vs vs2:=by exact evd):GC k ⟨nv,vs,ts⟩ σ ⟨nv,vs2,[]⟩ σ2:=GC.mk' zs js hk hfix hnd hlt ho hs
theorem SG_{rs:List eu_}{r:AV}{σ':St}{l:List AV}{e:Ex}(zs js:List Nat)(he:∀i,e≠.exit i:=by simp)(hl:cq_ fr σ rs=some l:=by first|rfl|exact evd)(hk:k≤js.length:=by simp)(hfix:js.take k=List.range k:=by rfl)(hnd:js.Nodup:=by simp)(hlt:∀j∈js,j<σ.length:=by simp)(ho:fF_ σ zs (rn js σ.length) js σ':=by exact evd)
 (hr:fz σ zs (eH_ l)=ren (rn js σ.length) r:=by exact evd):CI_ rs k σ' r e fr σ:=bJ_ zs js e he hl hk hfix hnd hlt ho hr
end
set_option linter.unusedVariables false
open Go Go.RowKit
def av_{α:Type}(f:Nat→α→α)(a:α):Nat→α
 |0=>a
 |n+1=>f n (av_ f a n)
theorem Hu_{α:Type}(f:Nat→α→α)(a:α):av_ f a 0=a:=rfl
theorem MS_(k:IntKind):aq_ k []=[]:=rfl
attribute [go_sem] Hu_ MS_
theorem bi_{α:Type}(f:Nat→α→α)(a:α)(n:Nat):av_ f a (n+1)=f n (av_ f a n):=rfl
theorem dG_{α:Type}{f:Nat→α→α}{a:α}(I:Nat→α→Prop)(h0:I 0 a)(n:Nat)(hs:∀i x,i<n→I i x→I (i+1) (f i x)):∀i,i≤n→I i (av_ f a i)
 |0,_=>h0
 |i+1,hi=>hs i _ (by omega) (dG_ I h0 n hs i (by omega))
theorem lb_{α:Type}{f g:Nat→α→α}{a:α}:∀ {n:Nat},(∀i x,i<n→f i x=g i x)→av_ f a n=av_ g a n
 |0,_=>rfl
 |n+1,h=>by rw[bi_,bi_,lb_ fun i x hi=>h i x (by omega),h n _ (by omega)]
theorem hC_{β:Type}{f:Nat→List β→List β}{a:List β}(h:∀i l,(f i l).length≤l.length+1):∀n,(av_ f a n).length≤a.length+n
 |0=>Nat.le_refl _
 |n+1=>by rw[bi_];have:=h n (av_ f a n);have:=hC_ h (a:=a) n;omega
def dV_(p:Nat→Bool):Nat→Nat→Option Nat
 |0,_=>none
 |f+1,i=>if p i=true then some i else dV_ p f (i+1)
def bD_(p:Nat→Bool)(n:Nat):Option Nat:=dV_ p n 0
theorem fD_{p:Nat→Bool}{n i:Nat}(hi:i<n)(h:p i=true):dV_ p (n-i) i=some i:=by
 obtain⟨f,hf⟩:∃f,n-i=f+1:=⟨n-i-1,by omega⟩
 rw[hf];show (if p i=true then _ else _)=_;rw[if_pos h]
theorem fC_{p:Nat→Bool}{n i:Nat}(hi:i<n)(h:p i=false):dV_ p (n-i) i=dV_ p (n-(i+1)) (i+1):=by
 obtain⟨f,hf⟩:∃f,n-i=f+1:=⟨n-i-1,by omega⟩
 rw[hf,show n-(i+1)=f by omega];show (if p i=true then _ else _)=_;rw[if_neg (by simp[h])]
theorem fB_(p:Nat→Bool)(n:Nat):dV_ p (n-n) n=none:=by rw[Nat.sub_self];rfl
theorem zm_{p:Nat→Bool}:∀ {f i j:Nat},dV_ p f i=some j→i≤j∧j<i+f∧p j=true∧∀k,i≤k→k<j→p k=false
 |0,_,_,h=>by cases h
 | f + 1, i, j, h => by
   unfold dV_ at h;by_cases hp:p i=true
   ·rw[if_pos hp]at h;cases h;exact⟨Nat.le_refl _,by omega,hp,fun k h1 h2=>by omega⟩
   ·rw[if_neg hp]at h;obtain⟨h1,h2,h3,h4⟩:=zm_ h;refine⟨by omega,by omega,h3,fun k k1 k2=>?_⟩;by_cases hk:k=i
    ·subst hk;simpa using hp
    ·exact h4 k (by omega) k2
theorem zl_{p:Nat→Bool}:∀ {f i:Nat},dV_ p f i=none→∀k,i≤k→k<i+f→p k=false
 |0,_,_,k,h1,h2=>by omega
 | f + 1, i, h, k, h1, h2 => by
   unfold dV_ at h;by_cases hp:p i=true
   ·rw[if_pos hp]at h;cases h
   ·rw[if_neg hp]at h;by_cases hk:k=i
    ·subst hk;simpa using hp
    ·exact zl_ h k (by omega) (by omega)
theorem cD_{p:Nat→Bool}{n j:Nat}(h:bD_ p n=some j):j<n∧p j=true∧∀k,k<j→p k=false:=by
 obtain⟨h1,h2,h3,h4⟩:=zm_ h;exact⟨by omega,h3,fun k hk=>h4 k (Nat.zero_le _) hk⟩
theorem ei_{p:Nat→Bool}{n:Nat}(h:bD_ p n=none):∀k,k<n→p k=false:=fun k hk=>zl_ h k (Nat.zero_le _) (by omega)
def xZ_(p:Nat→Bool):Nat→Option Nat
 |0=>none
 |n+1=>if p n=true then some n else xZ_ p n
theorem QQ_(p:Nat→Bool):xZ_ p 0=none:=rfl
theorem QP_{p:Nat→Bool}{n:Nat}(h:p n=true):xZ_ p (n+1)=some n:=by unfold xZ_;rw[if_pos h]
theorem QO_{p:Nat→Bool}{n:Nat}(h:p n=false):xZ_ p (n+1)=xZ_ p n:=by rw[xZ_,if_neg (by simp[h])]
def mO_(o:Option Nat):Int:=match o with
 |some i=>(i:Int)
 |none=>-1
theorem dP_(i:Nat):mO_ (some i)=(i:Int):=rfl
theorem fQ_:mO_ none=-1:=rfl
attribute [go_sem] dP_ fQ_
end Go.FH
namespace Go.FH
set_option linter.unusedVariables false
set_option linter.unusedSimpArgs false
open Go Go.RowKit
theorem KB_(ρ:Nat→Nat):cg_ ρ []=[]:=rfl
theorem wl0:IntKind.i64.wrap ((0:Int)+1)=1:=by decide
theorem wl1:IntKind.i64.wrap ((1:Int)+1)=2:=by decide
theorem wl2:IntKind.i64.wrap ((2:Int)+1)=3:=by decide
theorem wl3:IntKind.i64.wrap ((3:Int)+1)=4:=by decide
theorem wl4:IntKind.i64.wrap ((4:Int)+1)=5:=by decide
theorem wl5:IntKind.i64.wrap ((5:Int)+1)=6:=by decide
theorem wl6:IntKind.i64.wrap ((6:Int)+1)=7:=by decide
theorem rS_(k:IntKind)(ns:List Int)(x:Int):aq_ k ns++[[.int k x]]=aq_ k (ns++[x]):=by simp[aq_]
attribute [go_sem] rS_ KB_ wl0 wl1 wl2 wl3 wl4 wl5 wl6
def Unr(P:Program)(nt k:Nat)(x:ad_)(Q:Ex→Fr→St→Prop):Nat→Fr→St→Prop
 |0,_,_=>False
 |n+1,fr,σ=>Tri P nt k x (fT_ (Unr P nt k x Q n) Q) fr σ
@[congr] theorem Rn_{P:Program}{nt k n:Nat}{c:ad_}{Q:Ex→Fr→St→Prop}{fr fr':Fr}{σ σ':St}(h1:fr=fr')(h2:σ=σ'):Unr P nt k c Q n fr σ=Unr P nt k c Q n fr' σ':=by rw[h1,h2]
section
variable{P:Program}{nt k:Nat}{fr:Fr}{σ:St}
end
theorem vZ_{w:World}{b o:Nat}{vs:List Value}(hn:vs≠[])(h:∀j u,vs[j]?=some u→w.cell? ⟨b,o+j,none⟩=some u):range? w b o vs.length=some vs.toArray:=by
 unfold range?
 have h0:∃u,vs[0]?=some u:=by
  cases vs with
  |nil=>exact absurd rfl hn
  |cons u us=>exact⟨u,rfl⟩
 obtain⟨u0,hu0⟩:=h0;have hc0:=h 0 u0 hu0;unfold World.cell? at hc0;split at hc0
 ·rename_i c t f hb
  simp only at hb
  have key:∀j u,vs[j]?=some u→c[o+j]?=some u:=by
   intro j u hj;have:=h j u hj;unfold World.cell? at this;simp only[hb]at this;simpa using this
  rw[hb];simp only
  have hlen:o+vs.length≤c.size:=by
   have hlt:vs.length-1<vs.length:=by
    have:vs.length≠0:=fun hh=>hn (List.eq_nil_of_length_eq_zero hh)
    omega
   have:=key (vs.length-1) _ (List.getElem?_eq_getElem hlt);have:=(Array.getElem?_eq_some_iff.1 this).1;omega
  rw[if_pos hlen];congr 1;apply Array.ext
  ·simp;omega
  ·intro i h1 h2;have hi:i<vs.length:=by simpa using h2
   have:=key i _ (List.getElem?_eq_getElem hi);rw[Array.getElem?_eq_some_iff]at this;obtain⟨h3,h4⟩:=this;simp[h4]
 ·cases hc0
abbrev pJ_(w:World):Env:=⟨fun _=>none,fun _=>False,w⟩
theorem PC.top{P:Program}{f:FuncId}{args:List AV}{r:AV}(h:PC P f args r){w:World}{vs:List Value}(hv:RlS (pJ_ w) args vs):
 Calls P f vs.toArray w fun e w'=>(∃v,e=.returned v∧Rl (pJ_ w') r v)∧Below w.heap.size w w':=by
 have hF:∀w:World,az_ (fun _=>False) (fun _=>none) [] w=pJ_ w:=by
  intro w;unfold az_ pJ_;congr 1;funext b
  apply propext
  constructor
  ·rintro (h|⟨id,o,L,h1,_⟩)
   ·exact h
   ·simp at h1
  ·exact fun h=>h.elim
 have hr:Rel (fun _=>False) (fun _=>none) [] w:=⟨fun id o h=>by simp at h,fun i j a b La Lb _ h=>by simp at h,fun b h=>h.elim,fun _ _=>rfl⟩;refine(h.call.2.2 _ _ w vs hr (by rw[hF];exact hv)).mono ?_;rintro e w' ⟨v,loc',rfl,ho,_⟩;refine⟨⟨v,rfl,?_⟩,ho.ev.below fun b _ hb=>?_⟩
 ·have hl:loc'=fun _=>none:=funext fun id=>ho.rel.beyond id (Nat.zero_le _)
  have:=ho.val;rw[hl,hF]at this;exact this
 ·obtain⟨id,o,L,h1,_⟩:=hb;simp at h1
theorem PC.law{P:Program}{f:FuncId}{args:List AV}(h:PC P f args (.bool true)){w:World}{vs:List Value}(hv:RlS (pJ_ w) args vs):
 Calls P f vs.toArray w fun e w'=>e=.returned (.bool true)∧Below w.heap.size w w':=
 (h.top hv).mono fun e w' ⟨⟨v,h1,h2⟩,h3⟩=>⟨by rw[h1];exact congrArg Ending.returned h2,h3⟩
inductive Sh where
 |bool
 |int (k:IntKind)
 |arr (n:Nat) (s:Sh)
 |sl (s:Sh)
 |st (ss:List Sh)
mutual
def Sh.size:Sh→Nat
 |.bool=>1
 |.int _=>1
 |.sl _=>1
 |.arr n s=>n*s.size
 |.st ss=>Sh.sizes ss
def Sh.sizes:List Sh→Nat
 | []=>0
 |s::ss=>s.size+Sh.sizes ss
end
mutual
inductive Opn:Sh→List AV→Prop
 |bool (b:Bool):Opn .bool [.bool b]
 |int (k:IntKind) (n:Int) (h:(Lit.int k n).wf=true):Opn (.int k) [.int k n]
 |arr (n:Nat) (s:Sh) (xs:List (List AV)) (hl:xs.length=n) (h:∀x∈xs,Opn s x):Opn (.arr n s) xs.flatten
 |sl (s:Sh) (xs:List (List AV)) (hl:xs.length≤maxLen) (h:∀x∈xs,Opn s x):Opn (.sl s) [.sl s.size false xs]
 |st (ss:List Sh) (cs:List AV) (h:uf_ ss cs):Opn (.st ss) cs
inductive uf_:List Sh→List AV→Prop
 |nil:uf_ [] []
 |cons (s:Sh) (ss:List Sh) (a b:List AV) (h:Opn s a) (hs:uf_ ss b):uf_ (s::ss) (a++b)
end
mutual
def vv_(P:Program):Sh→TypeId→Bool
 | .bool, t => match P.underlying t with
   |some .bool=>true
   |_=>false
 | .int k, t => match P.underlying t with
   |some (.int k')=>k==k'
   |_=>false
 | .arr n s, t => match P.underlying t with
   |some (.array m e)=>m==n&&P.cellsOf e==s.size&&P.cellsOf t==n*s.size&&vv_ P s e
   |_=>false
 | .sl s, t => match P.underlying t with
   |some (.slice e)=>P.cellsOf e==s.size&&decide (0<s.size)&&vv_ P s e
   |_=>false
 | .st ss, t => match P.underlying t with
   |some (.struct fs)=>P.cellsOf t==Sh.sizes ss&&zr_ P ss fs.toList 0
   |_=>false
def zr_(P:Program):List Sh→List Field→Nat→Bool
 | [],[],_=>true
 |s::ss,f::fs,o=>f.offset==o&&P.cellsOf f.type==s.size&&vv_ P s f.type&&zr_ P ss fs (o+s.size)
 |_,_,_=>false
end
section
variable{H:Type}{enc:TypeId×Value→H}{P:Program}{w:World}
theorem LH_{s:Sh}{k:Nat}:∀ (n:Nat) (cs:List Value),cs.length=n*k→(∀i,i<n→∃avs,Opn s avs∧RlC (pJ_ w) avs ((cs.drop (i*k)).take k))→
 ∃xs:List (List AV),xs.length=n∧(∀x∈xs,Opn s x)∧RlC (pJ_ w) xs.flatten cs
 |0,cs,hl,_=>⟨[],rfl,by simp,by have:cs=[]:=List.eq_nil_of_length_eq_zero (by omega);subst this;rfl⟩
 | n + 1, cs, hl, h => by
   have hk:(n+1)*k=k+n*k:=by rw[Nat.succ_mul];omega
   obtain⟨a,ha,hr⟩:=h 0 (by omega)
   obtain⟨xs,h1,h2,h3⟩:=LH_ (s:=s) (k:=k) n (cs.drop k) (by rw[List.length_drop,hl,hk];omega) (fun i hi=>by
    obtain⟨b,hb,hr⟩:=h (i+1) (by omega);refine⟨b,hb,?_⟩;rw[List.drop_drop,show k+i*k=(i+1)*k by rw[Nat.succ_mul];omega];exact hr)
   refine⟨a::xs,by simp[h1],fun x hx=>?_,?_⟩
   ·rcases List.mem_cons.1 hx with rfl|hx
    ·exact ha
    ·exact h2 x hx
   ·have e:cs=cs.take k++cs.drop k:=(List.take_append_drop k cs).symm;rw[e];simp only[Nat.zero_mul,List.drop_zero]at hr;exact RlC.app hr h3
theorem Qk_{s:Sh}{k:Nat}{b off:Nat}:∀ (n:Nat) (o:Nat),(∀i,i<n→∃avs us,Opn s avs∧RlC (pJ_ w) avs us∧us.length=k∧∀j,j<k→w.cell? ⟨b,off+(o+i*k+j),none⟩=us[j]?)→
 ∃ (xs:List (List AV)) (vs:List Value),xs.length=n∧(∀x∈xs,Opn s x)∧vs.length=n*k∧RlE (pJ_ w) k xs vs∧∀j,j<n*k→w.cell? ⟨b,off+(o+j),none⟩=vs[j]?
 |0,o,_=>⟨[],[],rfl,by simp,by simp,rfl,fun j hj=>by omega⟩
 | n + 1, o, h => by
   obtain⟨a,us,ha,hr,hl,hc⟩:=h 0 (by omega)
   obtain⟨xs,vs,h1,h2,h3,h4,h5⟩:=Qk_ n (o+k) (fun i hi=>by
    obtain⟨a,us,ha,hr,hl,hc⟩:=h (i+1) (by omega);refine⟨a,us,ha,hr,hl,fun j hj=>?_⟩;have:=hc j hj;rwa [show off+(o+(i+1)*k+j)=off+(o+k+i*k+j)by rw[Nat.succ_mul];omega]at this)
   refine⟨a::xs,us++vs,by simp[h1],fun x hx=>?_,?_,⟨us,vs,rfl,hl,hr,h4⟩,fun j hj=>?_⟩
   ·rcases List.mem_cons.1 hx with rfl|hx
    ·exact ha
    ·exact h2 x hx
   ·rw[List.length_append,hl,h3,Nat.succ_mul];omega
   ·by_cases hjk:j<k
    ·have:=hc j hjk;rw[List.getElem?_append_left (by omega)];simpa using this
    ·have:=h5 (j-k) (by rw[Nat.succ_mul]at hj;omega);rw[List.getElem?_append_right (by omega),hl,←this];congr 2;omega
mutual
theorem BC_:∀ (s:Sh) (t:TypeId) (fuel:Nat) (cs:List Value) (x:DataW H×List MemPlace),vv_ P s t=true→DataW.trod enc P w 0 (fun _=>true) true fuel t cs=some x→∃avs,Opn s avs∧RlC (pJ_ w) avs cs
 | .bool, t, fuel, cs, x, hs, h => by
   unfold vv_ at hs;split at hs<;>try cases hs
   rename_i ht;cases fuel with
   |zero=>simp[DataW.trod]at h
   | succ n =>
     unfold DataW.trod at h;rw[ht]at h;split at h<;>simp_all
     exact⟨_,.bool _,_,[],rfl,rfl,rfl,rfl⟩
 | .int k, t, fuel, cs, x, hs, h => by
   unfold vv_ at hs;split at hs<;>try cases hs
   rename_i k' ht;obtain⟨n,rfl,_,hw⟩:=DataW.trod_int ht h;have:k=k':=by simpa using hs
   subst this;exact⟨_,.int _ _ hw,_,[],rfl,rfl,rfl,rfl⟩
 | .arr n s, t, fuel, cs, x, hs, h => by
   unfold vv_ at hs;split at hs<;>try cases hs
   rename_i m e ht;simp only[Bool.and_eq_true,beq_iff_eq]at hs;obtain⟨⟨⟨rfl,hc⟩,hct⟩,hi⟩:=hs;obtain⟨xs,fl,rfl,rfl,hl,hx,he⟩:=DataW.trod_array ht h;rw[hct]at hl
   obtain⟨xs,h1,h2,h3⟩:=LH_ (s:=s) (w:=w) m cs hl (fun i hin=>by
    have h1:=he i hin;rw[hc,List.getElem?_eq_getElem (by omega)]at h1;exact BC_ s e _ _ _ hi h1)
   exact⟨_,.arr _ _ _ h1 h2,h3⟩
 | .sl s, t, fuel, cs, x, hs, h => by
   unfold vv_ at hs;split at hs<;>try cases hs
   rename_i e ht;simp only[Bool.and_eq_true,beq_iff_eq,decide_eq_true_eq]at hs;obtain⟨⟨hc,hp⟩,hi⟩:=hs;rcases DataW.trod_slice ht h with⟨rfl,_⟩|⟨a,len,cap,elems,rest,n,_,rfl,rfl,hb,hl,hm,hlen,hel,hsp,hns⟩
   ·exact⟨_,.sl s [] (by simp) (by simp),_,[],rfl,rfl,⟨none,0,0,rfl,rfl,Nat.le_refl _,by simp[maxLen],fun _=>rfl,fun _=>rfl,.inl rfl⟩,rfl⟩
   ·by_cases h0:len=0
    ·subst h0;exact⟨_,.sl s [] (by simp) (by simp),_,[],rfl,rfl,⟨some a,0,cap,rfl,rfl,hl,hm,(fun h=>Bool.noConfusion h),(fun h=>by cases h),.inl rfl⟩,rfl⟩
    have each:∀i,i<len→∃avs us,Opn s avs∧RlC (pJ_ w) avs us∧us.length=s.size∧∀j,j<s.size→w.cell? ((a.add (i*s.size)).add j)=us[j]?:=by
     intro i hin;have h1:=hel i hin;rw[hc,List.getElem?_eq_getElem (by omega),Option.bind_eq_some_iff]at h1;obtain⟨us,h2,h3⟩:=h1;obtain⟨_,h5,h6⟩:=World.cells?_some h2;obtain⟨avs,h7,h8⟩:=BC_ s e _ _ _ hi h3;exact⟨avs,us,h7,h8,h5,h6⟩
    obtain⟨b,off,spot⟩:=a;obtain⟨_,us,_,_,hul,hcc⟩:=each 0 (by omega);have hc0:=hcc 0 hp;rw[List.getElem?_eq_getElem (by omega)]at hc0;have hspot:spot=none:=by simpa[Addr.add]using World.cell?_spot hc0
    subst hspot
    obtain⟨xs,vs,h1,h2,h3,h4,h5⟩:=Qk_ (s:=s) (w:=w) (k:=s.size) (b:=b) (off:=off) len 0 (fun i hin=>by
     obtain⟨avs,us,g1,g2,g3,g4⟩:=each i hin;refine⟨avs,us,g1,g2,g3,fun j hj=>?_⟩;rw[←g4 j hj,WideShapes.add_plain,WideShapes.add_plain];congr 2;omega)
    have hne:vs≠[]:=by
     intro hh;subst hh;simp only[List.length_nil]at h3;have:=Nat.mul_pos (Nat.pos_of_ne_zero h0) hp;omega
    have hrange:=vZ_ (w:=w) (b:=b) (o:=off) hne (fun j u hj=>by
     have hjl:=(List.getElem?_eq_some_iff.1 hj).1;rw[←hj,←h5 j (by omega)];congr 2;omega)
    rw[h3]at hrange
    have hblk:b<w.heap.size:=by
     rw[WideShapes.add_plain,WideShapes.add_plain]at hc0;exact World.block_lt_of_cell? w _ hc0
    exact⟨_,.sl s xs (by omega) h2,_,[],rfl,rfl,⟨_,len,cap,rfl,h1.symm,hl,hm,(fun h=>Bool.noConfusion h),(fun h=>by cases h),.inr ⟨b,off,vs,rfl,hblk,fun hf=>hf,hrange,h4⟩⟩,rfl⟩
 | .st ss, t, fuel, cs, x, hs, h => by
   unfold vv_ at hs;split at hs<;>try cases hs
   rename_i fs ht;simp only[Bool.and_eq_true,beq_iff_eq]at hs;obtain⟨hc,hi⟩:=hs;obtain⟨xs,n,rfl,_,hl,hxs,he⟩:=DataW.trod_struct ht h
   obtain⟨avs,h1,h2⟩:=Ia_ ss fs.toList 0 cs hi (fun f hf=>by
    obtain⟨i,hi⟩:=List.getElem?_of_mem hf;have h1:=he i f (by simpa using hi);have hil:=(List.getElem?_eq_some_iff.1 hi).1;rw[Array.length_toList]at hil;rw[List.getElem?_eq_getElem (by omega)]at h1;exact⟨_,_,h1⟩) (by omega)
   exact⟨avs,.st _ _ h1,h2⟩
theorem Ia_:∀ (ss:List Sh) (fs:List Field) (o:Nat) (cs:List Value),zr_ P ss fs o=true→
 (∀f∈fs,∃ (fuel:Nat) (x:DataW H×List MemPlace),DataW.trod enc P w 0 (fun _=>true) true fuel f.type ((cs.drop f.offset).take (P.cellsOf f.type))=some x)→cs.length=o+Sh.sizes ss→∃avs,uf_ ss avs∧RlC (pJ_ w) avs (cs.drop o)
 | [],[],o,cs,_,_,hl=>⟨[],.nil,by rw[List.drop_of_length_le (by simp[Sh.sizes]at hl;omega)];rfl⟩
 | [],_::_,o,cs,hs,_,_=>by simp[zr_]at hs
 |_::_,[],o,cs,hs,_,_=>by simp[zr_]at hs
 | s :: ss, f :: fs, o, cs, hs, hf, hl => by
   simp only[zr_,Bool.and_eq_true,beq_iff_eq]at hs;obtain⟨⟨⟨rfl,hc⟩,hi⟩,hr⟩:=hs;simp only[Sh.sizes]at hl;obtain⟨fuel,x,hx⟩:=hf f (by simp);obtain⟨a,ha,hra⟩:=BC_ s f.type fuel _ x hi hx;obtain⟨b,hb,hrb⟩:=Ia_ ss fs (f.offset+s.size) cs hr (fun g hg=>hf g (by simp[hg])) (by omega);refine⟨a++b,.cons _ _ _ _ ha hb,?_⟩;have e:cs.drop f.offset=(cs.drop f.offset).take s.size++cs.drop (f.offset+s.size):=by rw[←List.drop_drop,List.take_append_drop]
   rw[e];rw[hc]at hra;exact RlC.app hra hrb
end
theorem MZ_{t e:TypeId}{v:Value}{d:DataW H}{p:List MemPlace}{r:Reach}{base:Nat}(s:Sh)(hs:vv_ P (.sl s) t=true)(hv:Value.okWide P w r base t v)(hd:DataW.Trod enc P w 0 (fun _=>true) true t v d p)
 (ht:P.underlying t=some (.slice e)):∃xs,xs.length≤maxLen∧(∀x∈xs,Opn s x)∧Rl (pJ_ w) (.sl s.size false xs) v:=by
 obtain⟨fuel,hf⟩:=hd;obtain⟨b,l,c,rfl⟩:=WideShapes.okWide_slice ht hv;obtain⟨avs,h1,h2⟩:=BC_ _ t fuel _ _ hs hf;cases h1 with
 | sl s xs hl h =>
   obtain⟨u,us,h3,_,h4,h5⟩:=h2;simp only[Value.cells,List.cons.injEq]at h3;obtain⟨rfl,rfl⟩:=h3;exact⟨xs,hl,h,h4⟩
theorem zH_{t:TypeId}{v:Value}{d:DataW H}{p:List MemPlace}{r:Reach}{base:Nat}(k:IntKind)(ht:P.underlying t=some (.int k))(hv:Value.okWide P w r base t v)(hd:DataW.Trod enc P w 0 (fun _=>true) true t v d p):
 ∃n,(Lit.int k n).wf=true∧Rl (pJ_ w) (.int k n) v:=by
 obtain⟨n,rfl,_,_,hw⟩:=ChangeShapes.open_int ht hv hd;exact⟨n,hw,rfl⟩
end
theorem Opn.ints{k:IntKind}:∀ {xs:List (List AV)},(∀x∈xs,Opn (.int k) x)→∃ns:List Int,xs=aq_ k ns∧∀n∈ns,(Lit.int k n).wf=true
 | [],_=>⟨[],rfl,by simp⟩
 | x :: xs, h => by
   obtain⟨ns,rfl,h2⟩:=Opn.ints (xs:=xs) (fun y hy=>h y (by simp[hy]));cases h x (by simp)with
   | int k n hw =>
     refine⟨n::ns,rfl,fun m hm=>?_⟩;rcases List.mem_cons.1 hm with rfl|hm
     ·exact hw
     ·exact h2 m hm
theorem HW_:∀ {ns:List Int},(∀n∈ns,(Lit.int .u8 n).wf=true)→∃bs:List UInt8,aq_ .u8 ns=bts bs∧bs.length=ns.length
 | [],_=>⟨[],rfl,rfl⟩
 | n :: ns, h => by
   obtain⟨bs,h1,h2⟩:=HW_ (ns:=ns) (fun m hm=>h m (by simp[hm]));have hb:=bounds_u8 (h n (by simp));refine⟨UInt8.ofNat n.toNat::bs,?_,by simp[h2]⟩;have e:((UInt8.ofNat n.toNat).toNat:Int)=n:=by rw[UInt8.toNat_ofNat'];omega
   rw[LS_,e,←h1];rfl
theorem Opn.rt{cs:List AV}(h:Opn (.arr 32 (.int .u8)) cs):∃r:Rt,cs=rtc r:=by
 cases h with
 | arr n s xs hl h =>
   obtain⟨ns,rfl,hw⟩:=Opn.ints h;obtain⟨bs,h1,h2⟩:=HW_ hw;rw[hu_]at hl;exact⟨⟨bs,by omega⟩,by rw[h1,sB_];rfl⟩
theorem Opn.wd{cs:List AV}(h:Opn (.arr 4 (.int .u64)) cs):∃a:Wd,cs=wdc a∧∀n∈a.1,0≤n∧n<18446744073709551616:=by
 cases h with
 | arr n s xs hl h =>
   obtain⟨ns,rfl,hw⟩:=Opn.ints h;rw[hu_]at hl;refine⟨⟨ns,hl⟩,?_,fun n hn=>?_⟩
   ·show _=ns.map _
    clear hl hw h;induction ns with
    |nil=>rfl
    |cons n ns ih=>simp only[aq_,List.map_cons,List.flatten_cons]at ih ⊢;rw[ih];rfl
   ·have:=bounds_u64 (hw n hn);omega
theorem Opn.inv_st{ss:List Sh}{cs:List AV}(h:Opn (.st ss) cs):uf_ ss cs:=by
 cases h with
 |st _ _ h=>exact h
theorem uf_.inv_cons{s:Sh}{ss:List Sh}{cs:List AV}(h:uf_ (s::ss) cs):∃a b,cs=a++b∧Opn s a∧uf_ ss b:=by
 cases h with
 |cons _ _ a b h hs=>exact⟨a,b,rfl,h,hs⟩
theorem uf_.inv_nil{cs:List AV}(h:uf_ [] cs):cs=[]:=by
 cases h;rfl
theorem Opn.inv_int{k:IntKind}{cs:List AV}(h:Opn (.int k) cs):∃n,(Lit.int k n).wf=true∧cs=[.int k n]:=by
 cases h with
 |int _ n h=>exact⟨n,h,rfl⟩
theorem Opn.inv_bool{cs:List AV}(h:Opn .bool cs):∃b,cs=[.bool b]:=by
 cases h with
 |bool b=>exact⟨b,rfl⟩
theorem Opn.inv_nums{k:IntKind}{cs:List AV}(h:Opn (.sl (.int k)) cs):∃ns:List Int,ns.length≤maxLen∧(∀n∈ns,(Lit.int k n).wf=true)∧cs=[.sl 1 false (aq_ k ns)]:=by
 cases h with
 | sl _ xs hl h =>
   obtain⟨ns,rfl,hw⟩:=Opn.ints h;exact⟨ns,by rwa [hu_]at hl,hw,rfl⟩
section
variable{H:Type}{enc:TypeId×Value→H}{P:Program}{w:World}
theorem Ki_{t e:TypeId}{v:Value}{d:DataW H}{p:List MemPlace}{r:Reach}{base:Nat}(k:IntKind)(hs:vv_ P (.sl (.int k)) t=true)(hv:Value.okWide P w r base t v)(hd:DataW.Trod enc P w 0 (fun _=>true) true t v d p)
 (ht:P.underlying t=some (.slice e)):∃ns:List Int,ns.length≤maxLen∧(∀n∈ns,(Lit.int k n).wf=true)∧Rl (pJ_ w) (.sl 1 false (aq_ k ns)) v:=by
 obtain⟨xs,hl,h,hr⟩:=MZ_ (.int k) hs hv hd ht;obtain⟨ns,rfl,hw⟩:=Opn.ints h;exact⟨ns,by rwa [hu_]at hl,hw,hr⟩
end
structure Cp.Ok(x:Cp):Prop where
 ep:(Lit.int .u64 x.ep).wf=true
abbrev cpS:Sh:=.st [.int .u64,.arr 32 (.int .u8)]
theorem Opn.cp{cs:List AV}(h:Opn cpS cs):∃x:Cp,cs=cpC x∧x.Ok:=by
 have h:=h.inv_st;obtain⟨a0,b0,rfl,h0,h⟩:=h.inv_cons;obtain⟨a1,b1,rfl,h1,h⟩:=h.inv_cons;have h:=h.inv_nil;subst h;obtain⟨n0,w0,rfl⟩:=h0.inv_int;obtain⟨n1,rfl⟩:=h1.rt;exact⟨⟨n0,n1⟩,by simp only[cpC,List.cons_append,List.nil_append,List.append_nil,List.append_assoc],⟨w0⟩⟩
structure Pul.Ok(x:Pul):Prop where
 j:x.j.Ok
 f:x.f.Ok
abbrev RM_:Sh:=.st [cpS,cpS]
theorem Opn.pul{cs:List AV}(h:Opn RM_ cs):∃x:Pul,cs=dh_ x∧x.Ok:=by
 have h:=h.inv_st;obtain⟨a0,b0,rfl,h0,h⟩:=h.inv_cons;obtain⟨a1,b1,rfl,h1,h⟩:=h.inv_cons;have h:=h.inv_nil;subst h;obtain⟨n0,rfl,w0⟩:=h0.cp;obtain⟨n1,rfl,w1⟩:=h1.cp;exact⟨⟨n0,n1⟩,by simp only[dh_,List.cons_append,List.nil_append,List.append_nil,List.append_assoc],⟨w0,w1⟩⟩
structure Blk.Ok(x:Blk):Prop where
 pul:x.pul.Ok
 slot:(Lit.int .u64 x.slot).wf=true
 diff:∀n∈x.diff.1,0≤n∧n<18446744073709551616
 pdiff:∀n∈x.pdiff.1,0≤n∧n<18446744073709551616
 just:x.just.Ok
 fin:x.fin.Ok
abbrev Sy_:Sh:=.st [RM_,.int .u64,.arr 32 (.int .u8),.arr 32 (.int .u8),.arr 32 (.int .u8),.arr 4 (.int .u64),.arr 4 (.int .u64),cpS,cpS,.bool]
theorem Opn.blk{cs:List AV}(h:Opn Sy_ cs):∃x:Blk,cs=ap_ x∧x.Ok:=by
 have h:=h.inv_st;obtain⟨a0,b0,rfl,h0,h⟩:=h.inv_cons;obtain⟨a1,b1,rfl,h1,h⟩:=h.inv_cons;obtain⟨a2,b2,rfl,h2,h⟩:=h.inv_cons;obtain⟨a3,b3,rfl,h3,h⟩:=h.inv_cons;obtain⟨a4,b4,rfl,h4,h⟩:=h.inv_cons;obtain⟨a5,b5,rfl,h5,h⟩:=h.inv_cons;obtain⟨a6,b6,rfl,h6,h⟩:=h.inv_cons;obtain⟨a7,b7,rfl,h7,h⟩:=h.inv_cons;obtain⟨a8,b8,rfl,h8,h⟩:=h.inv_cons;obtain⟨a9,b9,rfl,h9,h⟩:=h.inv_cons;have h:=h.inv_nil;subst h;obtain⟨n0,rfl,w0⟩:=h0.pul;obtain⟨n1,w1,rfl⟩:=h1.inv_int;obtain⟨n2,rfl⟩:=h2.rt;obtain⟨n3,rfl⟩:=h3.rt;obtain⟨n4,rfl⟩:=h4.rt;obtain⟨n5,rfl,w5⟩:=h5.wd;obtain⟨n6,rfl,w6⟩:=h6.wd;obtain⟨n7,rfl,w7⟩:=h7.cp;obtain⟨n8,rfl,w8⟩:=h8.cp;obtain⟨n9,rfl⟩:=h9.inv_bool;exact⟨⟨n0,n1,n2,n3,n4,n5,n6,n7,n8,n9⟩,by simp only[ap_,List.cons_append,List.nil_append,List.append_nil,List.append_assoc],⟨w0,w1,w5,w6,w7,w8⟩⟩
structure Att.Ok(x:Att):Prop where
 slot:(Lit.int .u64 x.slot).wf=true
 target:x.target.Ok
 vals:∃ns:List Int,x.vals=.sl 1 false (aq_ .i64 ns)∧ns.length≤maxLen∧∀n∈ns,(Lit.int .i64 n).wf=true
abbrev kH_:Sh:=.st [.int .u64,.arr 32 (.int .u8),cpS,.sl (.int .i64)]
theorem Opn.att{cs:List AV}(h:Opn kH_ cs):∃x:Att,cs=bl_ x∧x.Ok:=by
 have h:=h.inv_st;obtain⟨a0,b0,rfl,h0,h⟩:=h.inv_cons;obtain⟨a1,b1,rfl,h1,h⟩:=h.inv_cons;obtain⟨a2,b2,rfl,h2,h⟩:=h.inv_cons;obtain⟨a3,b3,rfl,h3,h⟩:=h.inv_cons;have h:=h.inv_nil;subst h;obtain⟨n0,w0,rfl⟩:=h0.inv_int;obtain⟨n1,rfl⟩:=h1.rt;obtain⟨n2,rfl,w2⟩:=h2.cp;obtain⟨n3,l3,w3,rfl⟩:=h3.inv_nums;exact⟨⟨n0,n1,n2,_⟩,by simp only[bl_,List.cons_append,List.nil_append,List.append_nil,List.append_assoc],⟨w0,w2,⟨n3,rfl,l3,w3⟩⟩⟩
structure Clm.Ok(x:Clm):Prop where
 src:(Lit.int .u64 x.src).wf=true
 tgt:(Lit.int .u64 x.tgt).wf=true
 vals:∃ns:List Int,x.vals=.sl 1 false (aq_ .i64 ns)∧ns.length≤maxLen∧∀n∈ns,(Lit.int .i64 n).wf=true
abbrev QI_:Sh:=.st [.int .u64,.int .u64,.arr 32 (.int .u8),.sl (.int .i64)]
theorem Opn.clm{cs:List AV}(h:Opn QI_ cs):∃x:Clm,cs=bQ_ x∧x.Ok:=by
 have h:=h.inv_st;obtain⟨a0,b0,rfl,h0,h⟩:=h.inv_cons;obtain⟨a1,b1,rfl,h1,h⟩:=h.inv_cons;obtain⟨a2,b2,rfl,h2,h⟩:=h.inv_cons;obtain⟨a3,b3,rfl,h3,h⟩:=h.inv_cons;have h:=h.inv_nil;subst h;obtain⟨n0,w0,rfl⟩:=h0.inv_int;obtain⟨n1,w1,rfl⟩:=h1.inv_int;obtain⟨n2,rfl⟩:=h2.rt;obtain⟨n3,l3,w3,rfl⟩:=h3.inv_nums;exact⟨⟨n0,n1,n2,_⟩,by simp only[bQ_,List.cons_append,List.nil_append,List.append_nil,List.append_assoc],⟨w0,w1,⟨n3,rfl,l3,w3⟩⟩⟩
structure Slg.Ok(x:Slg):Prop where
 fst:x.fst.Ok
 snd:x.snd.Ok
abbrev SI_:Sh:=.st [QI_,QI_]
theorem Opn.slg{cs:List AV}(h:Opn SI_ cs):∃x:Slg,cs=cy_ x∧x.Ok:=by
 have h:=h.inv_st;obtain⟨a0,b0,rfl,h0,h⟩:=h.inv_cons;obtain⟨a1,b1,rfl,h1,h⟩:=h.inv_cons;have h:=h.inv_nil;subst h;obtain⟨n0,rfl,w0⟩:=h0.clm;obtain⟨n1,rfl,w1⟩:=h1.clm;exact⟨⟨n0,n1⟩,by simp only[cy_,List.cons_append,List.nil_append,List.append_nil,List.append_assoc],⟨w0,w1⟩⟩
structure Tab.Ok(x:Tab):Prop where
 cp:x.cp.Ok
 bals:∃ns:List Int,x.bals=.sl 1 false (aq_ .u64 ns)∧ns.length≤maxLen∧∀n∈ns,(Lit.int .u64 n).wf=true
abbrev SL_:Sh:=.st [cpS,.sl (.int .u64)]
theorem Opn.tab{cs:List AV}(h:Opn SL_ cs):∃x:Tab,cs=aY_ x∧x.Ok:=by
 have h:=h.inv_st;obtain⟨a0,b0,rfl,h0,h⟩:=h.inv_cons;obtain⟨a1,b1,rfl,h1,h⟩:=h.inv_cons;have h:=h.inv_nil;subst h;obtain⟨n0,rfl,w0⟩:=h0.cp;obtain⟨n1,l1,w1,rfl⟩:=h1.inv_nums;exact⟨⟨n0,_⟩,by simp only[aY_,List.cons_append,List.nil_append,List.append_nil,List.append_assoc],⟨w0,⟨n1,rfl,l1,w1⟩⟩⟩
structure Vdt.Ok(x:Vdt):Prop where
 tag:(Lit.int .u64 x.tag).wf=true
 kind:(Lit.int .i64 x.kind).wf=true
abbrev SM_:Sh:=.st [.st [.int .u64],.int .i64,.arr 32 (.int .u8)]
theorem Opn.vdt{cs:List AV}(h:Opn SM_ cs):∃x:Vdt,cs=cG_ x∧x.Ok:=by
 have h:=h.inv_st;obtain⟨a0,b0,rfl,h0,h⟩:=h.inv_cons;obtain⟨a1,b1,rfl,h1,h⟩:=h.inv_cons;obtain⟨a2,b2,rfl,h2,h⟩:=h.inv_cons;have h:=h.inv_nil;subst h;obtain⟨y0,z0,rfl,g0,q0⟩:=h0.inv_st.inv_cons;have q0:=q0.inv_nil;subst q0;obtain⟨n0,w0,rfl⟩:=g0.inv_int;obtain⟨n1,w1,rfl⟩:=h1.inv_int;obtain⟨n2,rfl⟩:=h2.rt;exact⟨⟨n0,n1,n2⟩,by simp only[cG_,List.cons_append,List.nil_append,List.append_nil,List.append_assoc],⟨w0,w1⟩⟩
structure SOp.Ok(x:SOp):Prop where
 kind:(Lit.int .i64 x.kind).wf=true
 blk:x.blk.Ok
 att:x.att.Ok
 slg:x.slg.Ok
 tab:x.tab.Ok
 vdt:x.vdt.Ok
 write:(Lit.int .i64 x.write).wf=true
 keep:(Lit.int .i64 x.keep).wf=true
section
variable{P:Program}{σ:St}
theorem rM_{n:Nat}{loc:Nat→Option Loc}{b:Nat}:¬aB_ (List.replicate n .gone) loc b:=by
 rintro⟨id,o,L,h1,h2,_⟩;rw[List.getElem?_replicate]at h1;split at h1
 ·simp only[Option.some.injEq]at h1;subst h1;cases h2
 ·cases h1
theorem ar_.give{f:FuncId}{args:List AV}{r:AV}(h:PC P f (fzL σ (List.range σ.length) args) r):ar_ P f args σ r (List.replicate σ.length .gone):=by
 refine⟨h.call.1,by simp,fun X loc w vs hr hv=>?_⟩;obtain⟨loc2,g1,g2,g3,g4⟩:=(iO_ σ (List.range σ.length)).rel hr;have hpu:=h.pa
 have hv2:RlS (az_ X loc2 [] w) (fzL σ (List.range σ.length) args) vs:=by
  have key:∀ {xs:List AV} {us:List Value},PuL (fzL σ (List.range σ.length) xs)→RlS (az_ X loc σ w) xs us→RlS (az_ X loc2 [] w) (fzL σ (List.range σ.length) xs) us:=by
   intro xs;induction xs with
   |nil=>intro us _ hv;exact hv
   | cons a xs ih =>
     intro us hp hv;obtain⟨u,us',e,h1,h2⟩:=hv;exact⟨u,us',e,g4 a u h1 _ (hp.1.ren _).symm,ih hp.2 h2⟩
  exact key hpu hv
 refine(h.call.2.2 X loc2 w vs g2 hv2).mono ?_;rintro e w' ⟨v,loc',rfl,ho,_⟩;have hl:loc'=fun _=>none:=funext fun id=>ho.rel.beyond id (Nat.zero_le _)
 have hnl:∀b,¬aB_ [] loc' b:=fun b hd=>by obtain⟨id,o,L,h1,_⟩:=hd;simp at h1
 refine⟨v,loc,rfl,⟨fun _ _ h=>h,⟨fun id o h1 h2=>?_,fun i j a b La Lb _ h1 _ h3=>?_,fun b hb=>⟨Nat.lt_of_lt_of_le (hr.out b hb).1 ho.ev.size,rM_⟩,fun id hid=>hr.beyond id (by simpa using hid)⟩,?_,⟨ho.ev.size,fun b hb hn=>ho.ev.blk b hb (fun hd=>by obtain⟨id,o,L,h1,_⟩:=hd;simp at h1),ho.ev.os,ho.ev.tape,ho.ev.output⟩,fun b hb=>absurd hb rM_⟩,fun _ _=>rfl⟩
 ·rw[List.getElem?_replicate]at h1;split at h1
  ·simp only[Option.some.injEq]at h1;subst h1;cases h2
  ·cases h1
 ·rw[List.getElem?_replicate]at h1;split at h1
  ·simp only[Option.some.injEq]at h1;subst h1;cases h3
  ·cases h1
 ·refine Rl.mono (E:=az_ X loc' [] w') (E':=az_ X loc (List.replicate σ.length .gone) w') ⟨fun id L hL=>?_,Nat.le_refl _,fun b hb hn=>⟨fun(hf:X b∨aB_ _ loc b)=>hn (hf.elim .inl fun hd=>absurd hd rM_),rfl⟩⟩ _ _ ho.val;have hL2:loc' id=some L:=hL;rw[hl]at hL2;cases hL2
end
def NX_(σ:St)(zs:List Nat)(ρ:Nat→Nat)(ts:List (Nat×AV)):List (Nat×AV)→Prop
 | []=>True
 |p::r=>fz σ zs (mX_ ts p.1)=ren ρ p.2∧NX_ σ zs ρ ts r
theorem NX_.get{σ:St}{zs:List Nat}{ρ:Nat→Nat}{ts:List (Nat×AV)}(t:Nat):∀ {ts2:List (Nat×AV)},NX_ σ zs ρ ts ts2→mX_ ts2 t=.dead∨fz σ zs (mX_ ts t)=ren ρ (mX_ ts2 t)
 | [],_=>.inl rfl
 | (u, v) :: r, h => by
   rw[show mX_ ((u,v)::r) t=if t=u then v else mX_ r t from rfl];by_cases hu:t=u
   ·subst hu;rw[if_pos rfl];exact .inr h.1
   ·rw[if_neg hu];exact NX_.get t h.2
section
variable{k:Nat}{σ:St}
end
attribute [go_sem] NX_ mX_
def ad_.tl:Nat→ad_→ad_
 |0,c=>c
 |n+1,.seq _ b=>b.tl n
 |_+1,c=>c
def ad_.hd:ad_→ad_
 |.seq a _=>a
 |c=>c
end Go.FH
namespace Go.FH
set_option linter.unusedVariables false
open Go Go.RowKit
def sO_(a b:Int):Int×Int:=if IntKind.u64.wrap (18446744073709551615-b)<a then (0,4)else (IntKind.u64.wrap (a+b),0)
def tw_(a b:Int):Int×Int:=if b≠0∧IntKind.u64.wrap (Int.tdiv 18446744073709551615 b)<a then (0,4)else (IntKind.u64.wrap (a*b),0)
def fv_(l:List Int):Nat→Int×Int
 |0=>(0,0)
 |i+1=>let p:=fv_ l i;if p.2≠0 then p else sO_ p.1 (l.getD i 0)
def sh_(l:List Int):Int×Int:=fv_ l l.length
def if_(n:Int):Bool:=decide (1≤n)&&decide (n≤64)
def bh_(e per:Int):Int×Int:=if if_ per=true then tw_ e per else (0,3)
def js_(a b:Rt):Nat→Nat→Int
 |0,_=>0
 |f+1,i=>if a.1.getD i 0<b.1.getD i 0 then -1 else if b.1.getD i 0<a.1.getD i 0 then 1 else js_ a b f (i+1)
def lG_(a b:Rt):Int:=js_ a b 32 0
def Dh_(a b:Wd):Nat→Int
 |0=>0
 |f+1=>if a.1.getD f 0<b.1.getD f 0 then -1 else if b.1.getD f 0<a.1.getD f 0 then 1 else Dh_ a b f
def Ju_(a b:Wd):Int:=Dh_ a b 4
def dJ_(t:au_)(n:Int):Int:=if (t.bals.length:Int)≠n then 2 else if (sh_ t.bals).2≠0∨4611686018427387904<(sh_ t.bals).1 then 4 else 0
def gy_(a b:Cp):Int:=if a.ep≠b.ep then (if a.ep<b.ep then -1 else 1)else lG_ a.rt b.rt
def tab(l:List au_)(i:Nat):au_:=l.getD i default
def bU_(l:List au_)(c:Cp):Int:=mO_ (bD_ (fun i=>decide ((tab l i).cp=c)) l.length)
def fg_(l:List au_)(c:Cp):Nat→Nat→Nat
 |0,i=>i
 |f+1,i=>if gy_ (tab l i).cp c<0 then fg_ l c f (i+1)else i
def iy_(l:List au_)(t:au_):List au_:=let k:=fg_ l t.cp l.length 0;l.take k++[t]++l.drop k
def ep_(l:List au_)(t:au_)(n limit:Int):List au_×Int:=
 if dJ_ t n≠0 then (l,dJ_ t n)else if 0≤bU_ l t.cp then (l,9)else if limit≤l.length then (l,11)else (iy_ l t,0)
def cY_(l:List au_)(e:Int):List au_:=av_ (fun i o=>if e≤(tab l i).cp.ep then o++[tab l i]else o) [] l.length
def vot(l:List Vot)(i:Nat):Vot:=l.getD i do_
def hU_(ep:Int)(root:Rt)(l:List Int):Nat→List Vot×Int→List Vot×Int:=fun i p=>
 if (vot p.1 (l.getD i 0).toNat).has=false∨(vot p.1 (l.getD i 0).toNat).ep<ep then (p.1.set (l.getD i 0).toNat ⟨true,ep,root⟩,IntKind.i64.wrap (p.2+1))else p
def su_(v:List Vot)(ep:Int)(root:Rt)(l:List Int):List Vot×Int:=av_ (hU_ ep root l) (v,0) l.length
def ue_(latest:List Vot)(eqv bals:List Int)(roots:List Rt):Int:=
 av_ (fun i n=>if (vot latest i).has=true∧(i:Int)∉eqv∧(vot latest i).root∈roots then IntKind.u64.wrap (n+bals.getD i 0)else n) 0 (min bals.length latest.length)
def nod(t:List Nod)(i:Nat):Nod:=t.getD i gs_
def isN(t:List Nod)(i:Int):Bool:=decide (0≤i)&&decide (i<t.length)
def af_(t:List Nod)(r:Rt):Int:=mO_ (bD_ (fun i=>decide ((nod t i).blk.root=r)) t.length)
def dQ_(t:List Nod)(b:Blk)(status:Int):List Nod×Int:=
 if ¬ (0≤status∧status≤2)then ([],2)else if 0≤af_ t b.root then ([],9)else if af_ t b.parent<0 then ([],10)
 else if b.slot≤(nod t (af_ t b.parent).toNat).blk.slot then ([],14)else if 4096≤t.length then ([],11)else (t++[⟨b,af_ t b.parent,status⟩],0)
def gD_(t:List Nod)(i:Int):List Int:=if isN t i=true then av_ (fun k l=>if (nod t k).up=i then l++[(k:Int)]else l) [] t.length else []
def oU_(t:List Nod):Nat→Int→List Int
 |0,_=>[]
 |f+1,i=>if isN t i=true then (if i=0 then [0]else oU_ t f (nod t i.toNat).up++[i])else []
def cV_(t:List Nod):Prop:=∀i,0<i→i<t.length→0≤(nod t i).up∧(nod t i).up<i
theorem Ej_{t:List Nod}(ht:cV_ t):∀ (n i f g:Nat),i<n→i<f→i<g→oU_ t f i=oU_ t g i
 |0,_,_,_,h,_,_=>by omega
 | n + 1, i, f + 1, g + 1, hn, hf, hg => by
   unfold oU_;by_cases hi:isN t (i:Int)=true
   ·rw[if_pos hi,if_pos hi]
    by_cases h0:(i:Int)=0
    ·rw[if_pos h0,if_pos h0]
    ·rw[if_neg h0,if_neg h0];simp[isN]at hi;obtain⟨u0,u1⟩:=ht i (by omega) hi;obtain⟨u,hu⟩:∃u:Nat,(nod t i).up=u:=⟨_,(Int.toNat_of_nonneg u0).symm⟩
     simp only[Int.toNat_natCast];rw[hu,Ej_ ht n u f g (by omega) (by omega) (by omega)]
   ·rw[if_neg hi,if_neg hi]
def bc_(t:List Nod)(i:Int):List Int:=oU_ t (t.length+1) i
theorem eS_{t:List Nod}(h:0<t.length):bc_ t 0=[0]:=by
 unfold bc_ oU_;rw[if_pos (by simp[isN,h]),if_pos rfl]
theorem eT_{t:List Nod}(ht:cV_ t){i:Nat}(h0:0<i)(hi:i<t.length):bc_ t i=bc_ t (nod t i).up++[(i:Int)]:=by
 obtain⟨u0,u1⟩:=ht i h0 hi;obtain⟨u,hu⟩:∃u:Nat,(nod t i).up=u:=⟨_,(Int.toNat_of_nonneg u0).symm⟩
 have:=Ej_ ht (i+1) u t.length (t.length+1) (by omega) (by omega) (by omega);unfold bc_;rw[hu,←this];show (if isN t (i:Int)=true then _ else _)=_
 rw[if_pos (by simp[isN,hi]),if_neg (by omega),Int.toNat_natCast,hu]
theorem gV_{t:List Nod}{i:Int}(h:isN t i=false):bc_ t i=[]:=by
 unfold bc_ oU_;rw[if_neg (by simp[h])]
theorem ir_{t:List Nod}(ht:cV_ t):∀ (n i:Nat),i<n→(bc_ t i).length≤i+1
 |0,_,h=>by omega
 | n + 1, i, h => by
   by_cases hi:i<t.length
   ·by_cases h0:i=0
    ·subst h0;rw[show ((0:Nat):Int)=0 from rfl,eS_ hi];simp
    ·obtain⟨u0,u1⟩:=ht i (by omega) hi;obtain⟨u,hu⟩:∃u:Nat,(nod t i).up=u:=⟨_,(Int.toNat_of_nonneg u0).symm⟩
     rw[eT_ ht (by omega) hi,hu];have:=ir_ ht n u (by omega);simp;omega
   ·rw[gV_ (by simp[isN];omega)];simp
theorem zJ_{t:List Nod}(ht:cV_ t):∀ (n i:Nat),i<n→∀x∈bc_ t i,0≤x∧x≤i∧x<t.length
 |0,_,h,_,_=>by omega
 | n + 1, i, h, x, hx => by
   by_cases hi:i<t.length
   ·by_cases h0:i=0
    ·subst h0;rw[show ((0:Nat):Int)=0 from rfl,eS_ hi]at hx;simp at hx;omega
    ·obtain⟨u0,u1⟩:=ht i (by omega) hi;obtain⟨u,hu⟩:∃u:Nat,(nod t i).up=u:=⟨_,(Int.toNat_of_nonneg u0).symm⟩
     rw[eT_ ht (by omega) hi,hu,List.mem_append,List.mem_singleton]at hx;rcases hx with hx|hx
     ·have:=zJ_ ht n u (by omega) x hx;omega
     ·omega
   ·rw[gV_ (by simp[isN];omega)]at hx;simp at hx
theorem dv_{t:List Nod}(ht:cV_ t){i x:Int}(hx:x∈bc_ t i):0≤x∧x≤i∧x<t.length:=by
 by_cases h0:0≤i
 ·obtain⟨u,rfl⟩:∃u:Nat,i=u:=⟨_,(Int.toNat_of_nonneg h0).symm⟩
  exact zJ_ ht (u+1) u (by omega) x hx
 ·rw[gV_ (by simp[isN];omega)]at hx;simp at hx
theorem iV_{t:List Nod}(ht:cV_ t)(i:Int):(bc_ t i).length≤t.length:=by
 by_cases h0:isN t i=true
 ·have h1:=h0;simp[isN]at h1;obtain⟨u,rfl⟩:∃u:Nat,i=u:=⟨_,(Int.toNat_of_nonneg h1.1).symm⟩
  have:=ir_ ht (u+1) u (by omega);omega
 ·rw[gV_ (by simpa using h0)];simp
def bN_(t:List Nod)(a b:Int):Bool:=decide (a∈bc_ t b)
def atT(t:List Nod)(i slot:Int):Int:=av_ (fun k at_=>if (nod t ((bc_ t i).getD k 0).toNat).blk.slot≤slot then (bc_ t i).getD k 0 else at_) (-1) (bc_ t i).length
def eB_(t:List Nod)(i:Int):List Int:=av_ (fun k l=>if bN_ t i k=true then l++[(k:Int)]else l) [] t.length
def tV_(t:List Nod)(latest:List Vot)(eqv bals:List Int):List Int:=
 av_ (fun i l=>l++[if (nod t i).status≠2 then ue_ latest eqv bals [(nod t i).blk.root]else 0]) [] t.length
def RU_(t:List Nod)(direct:List Int):List Int:=
 av_ (fun i l=>l++[av_ (fun k n=>IntKind.u64.wrap (n+direct.getD ((eB_ t i).getD k 0).toNat 0)) 0 (eB_ t i).length]) [] t.length
def pR_(spe boost total:Int):Int×Int:=
 if spe<1∨64<spe∨100<boost∨4611686018427387904<total then (0,3)
 else (IntKind.u64.wrap (IntKind.u64.wrap (IntKind.u64.wrap (Int.tdiv (IntKind.u64.wrap (Int.tdiv total spe)) 100)*boost)+IntKind.u64.wrap (Int.tdiv (IntKind.u64.wrap (Int.tmod (IntKind.u64.wrap (Int.tdiv total spe)) 100*boost)) 100)),0)
def ka_(t:List Nod)(direct:List Int)(root:Rt)(amount:Int):List Int:=
 if 0≤af_ t root∧(nod t (af_ t root).toNat).status≠2∧root≠rt0 then direct.set (af_ t root).toNat (IntKind.u64.wrap (direct.getD (af_ t root).toNat 0+amount))else direct
def bv_(t:List Nod)(i:Int)(k:Nat)(p:List Nod×List Int):List Nod×List Int:=
 if bN_ t i k=true then (p.1++[⟨(nod t k).blk,if (k:Int)=i then -1 else p.2.getD (nod t k).up.toNat 0,(nod t k).status⟩],p.2++[(p.1.length:Int)])else (p.1,p.2++[-1])
def ce_(t:List Nod)(i:Int):List Nod×List Int:=av_ (bv_ t i) ([],[]) t.length
def nk_(l:List Int)(status forbidden:Int)(k:Nat)(o:Option (List Nod)):Option (List Nod):=o.bind fun u=>if (nod u (l.getD k 0).toNat).status=forbidden then none else some (u.set (l.getD k 0).toNat { nod u (l.getD k 0).toNat with status:=status })
def rb_(t:List Nod)(l:List Int)(status forbidden:Int):Option (List Nod):=av_ (nk_ l status forbidden) (some t) l.length
theorem Ab_{l:List Int}{status forbidden:Int}{o:Option (List Nod)}{k:Nat}(h:av_ (nk_ l status forbidden) o k=none):∀n,k≤n→av_ (nk_ l status forbidden) o n=none
 |0,hn=>by rw[show 0=k by omega];exact h
 | n + 1, hn => by
   by_cases he:k=n+1
   ·rw[←he];exact h
   ·rw[bi_,Ab_ h n (by omega)];rfl
theorem hy_{t:List Nod}{l:List Int}{status forbidden:Int}:∀ {k:Nat} {u:List Nod},av_ (nk_ l status forbidden) (some t) k=some u→u.length=t.length
 |0,u,h=>by cases h;rfl
 | k + 1, u, h => by
   rw[bi_]at h;cases h2:av_ (nk_ l status forbidden) (some t) k with
   |none=>rw[h2]at h;cases h
   | some v =>
     rw[h2]at h;simp only[nk_,Option.bind_some]at h;split at h
     ·cases h
     ·cases h;rw[List.length_set,hy_ h2]
def cp_(t:List Nod)(i:Int):List Nod×Int:=if isN t i=true then (match rb_ t (bc_ t i) 1 2 with|some u=>(u,0)|none=>([],21))else ([],10)
def gj_(t:List Nod)(i:Int):List Nod×Int:=if isN t i=true then (match rb_ t (eB_ t i) 2 1 with|some u=>(u,0)|none=>([],21))else ([],10)
theorem HV_{u:List Nod}{j i:Nat}{n:Nod}:nod (u.set j n) i=if j=i∧i<u.length then n else nod u i:=by
 unfold nod;simp only[List.getD_eq_getElem?_getD,List.getElem?_set];by_cases h:j=i
 ·subst h;by_cases h2:j<u.length
  ·simp[h2]
  ·simp[h2]
 ·simp[h]
theorem ra_{t:List Nod}{l:List Int}{status forbidden:Int}:∀ {k:Nat} {u:List Nod},av_ (nk_ l status forbidden) (some t) k=some u→∀i,(nod u i).up=(nod t i).up∧(nod u i).blk=(nod t i).blk
 |0,u,h,i=>by cases h;exact⟨rfl,rfl⟩
 | k + 1, u, h, i => by
   rw[bi_]at h;cases h2:av_ (nk_ l status forbidden) (some t) k with
   |none=>rw[h2]at h;cases h
   | some v =>
     rw[h2]at h;simp only[nk_,Option.bind_some]at h;have ih:=ra_ h2 i;split at h
     ·cases h
     ·cases h;rw[HV_];split
      ·rename_i hq;rw[←hq.1]at ih ⊢;exact ih
      ·exact ih
theorem cV_.of_up{t u:List Nod}(ht:cV_ t)(hl:u.length=t.length)(hu:∀i,(nod u i).up=(nod t i).up):cV_ u:=fun i h1 h2=>by rw[hu i];exact ht i h1 (by omega)
theorem Kx_{t:List Nod}(ht:cV_ t){i:Int}(h:(cp_ t i).2=0):cV_ (cp_ t i).1∧(cp_ t i).1.length=t.length∧∀k,(nod (cp_ t i).1 k).blk=(nod t k).blk:=by
 unfold cp_ at *;split at h
 ·rename_i h1;rw[if_pos h1];cases h2:rb_ t (bc_ t i) 1 2 with
  |none=>rw[h2]at h;simp at h
  |some u=>exact⟨ht.of_up (hy_ h2) (fun i=>(ra_ h2 i).1),hy_ h2,fun k=>(ra_ h2 k).2⟩
 ·simp at h
def eo_(t:List Nod)(i:Int)(latest:Rt):Int×Int:=
 if (bc_ t i).length=0 then (-1,-1)
 else if latest=rt0 then (match bD_ (fun k=>decide ((nod t ((bc_ t i).getD k 0).toNat).blk.payload≠rt0)) (bc_ t i).length with
  |some k=>((nod t ((bc_ t i).getD k 0).toNat).up,(bc_ t i).getD k 0)
  |none=>(-1,i))
 else (match xZ_ (fun k=>decide ((nod t ((bc_ t i).getD k 0).toNat).blk.payload=latest)) ((bc_ t i).length-1)with
  |some k=>((bc_ t i).getD k 0,(bc_ t i).getD (k+1) 0)
  |none=>(-1,i))
def fd_(t:List Nod)(i:Int)(v:Vdt)(keep:List Int):List Nod×Int:=
 if isN t i=false then ([],10)else if v.kind=1 then cp_ t i else if v.kind=3∨v.kind=4 then (t,0)else if v.kind≠2 then ([],2)
 else if (bD_ (fun k=>bN_ t (eo_ t i v.latest).2 (keep.getD k 0)) keep.length).isSome=true then ([],21)
 else if 0≤(eo_ t i v.latest).1 then (if (cp_ t (eo_ t i v.latest).1).2≠0 then ([],(cp_ t (eo_ t i v.latest).1).2)else gj_ (cp_ t (eo_ t i v.latest).1).1 (eo_ t i v.latest).2)
 else gj_ t (eo_ t i v.latest).2
end Go.FH
namespace Go.FH
set_option linter.unusedVariables false
set_option linter.unusedSimpArgs false
open Go Go.RowKit
def dO_(s p:Int):Int×Int:=if if_ p=true then (IntKind.u64.wrap (Int.tdiv s p),0)else (0,3)
theorem gQ_{n:Int}(h0:0≤n)(h1:n<18446744073709551616):IntKind.u64.wrap n=n:=aH_ h0 h1
def QR_(a b:Int):Int×Int:=if a*b / 18446744073709551616=0 then (IntKind.u64.wrap (a*b),0)else (0,4)
theorem OS_{a b:Int}(ha:0≤a)(ha2:a<18446744073709551616)(hb:0≤b)(hb2:b<18446744073709551616):QR_ a b=tw_ a b:=by
 unfold QR_ tw_;by_cases h0:b=0
 ·subst h0;simp
 ·have hb1:0<b:=by omega
  have hd:Int.tdiv 18446744073709551615 b=18446744073709551615 / b:=Int.tdiv_eq_ediv_of_nonneg (by decide);have hq0:0≤18446744073709551615 / b:=Int.ediv_nonneg (by decide) hb;have hq1:18446744073709551615 / b≤18446744073709551615:=Int.ediv_le_self _ (by decide);rw[hd,gQ_ hq0 (by omega)];have hab:0≤a*b:=Int.mul_nonneg ha hb
  have key:(18446744073709551615 / b<a)↔18446744073709551615<a*b:=by
   rw[Int.ediv_lt_iff_lt_mul hb1]
  by_cases h:18446744073709551615 / b<a
  ·have h2:=key.1 h;rw[if_neg (by omega),if_pos ⟨h0,h⟩]
  ·have h2:¬18446744073709551615<a*b:=fun h3=>h (key.2 h3)
   rw[if_pos (by omega),if_neg (fun h3=>h h3.2)]
theorem QS_{x0 x1 y0 y1:Int}(hx0:0≤x0)(hx0':x0<4294967296)(hx1:0≤x1)(hx1':x1<4294967296)(hy0:0≤y0)(hy0':y0<4294967296)(hy1:0≤y1)(hy1':y1<4294967296):
 (0≤x0*y0∧x0*y0≤18446744065119617025)∧(0≤x1*y0∧x1*y0≤18446744065119617025)∧(0≤x0*y1∧x0*y1≤18446744065119617025)∧(0≤x1*y1∧x1*y1≤18446744065119617025)∧
  (x1*4294967296+x0)*(y1*4294967296+y0)=x1*y1*18446744073709551616+(x1*y0+x0*y1)*4294967296+x0*y0:=by
 have b:∀ {u v:Int},0≤u→u<4294967296→0≤v→v<4294967296→0≤u*v∧u*v≤18446744065119617025:=by
  intro u v h1 h2 h3 h4;refine⟨Int.mul_nonneg h1 h3,?_⟩;have:=Int.mul_le_mul (show u≤4294967295 by omega) (show v≤4294967295 by omega) h3 (by decide);simpa using this
 refine⟨b hx0 hx0' hy0 hy0',b hx1 hx1' hy0 hy0',b hx0 hx0' hy1 hy1',b hx1 hx1' hy1 hy1',?_⟩;simp only[Int.add_mul,Int.mul_add]
 have e1:x1*4294967296*(y1*4294967296)=x1*y1*18446744073709551616:=by
  rw[Int.mul_comm y1,←Int.mul_assoc,Int.mul_assoc x1 4294967296 4294967296,Int.mul_right_comm];rfl
 have e2:x1*4294967296*y0=x1*y0*4294967296:=Int.mul_right_comm _ _ _;have e3:x0*(y1*4294967296)=x0*y1*4294967296:=(Int.mul_assoc _ _ _).symm;rw[e1,e2,e3];omega
def Md_(a b:Int):Int:=if a<b then -1 else if b<a then 1 else 0
def orI:List Int→Int
 | []=>0
 |x::r=>if x≠0 then x else orI r
theorem Pb_(a b:Cp):orI [Md_ a.ep b.ep,lG_ a.rt b.rt]=gy_ a b:=by
 unfold gy_ Md_;by_cases h1:a.ep<b.ep
 ·simp[orI,h1];omega
 ·by_cases h2:b.ep<a.ep
  ·simp[orI,h1,h2];omega
  ·have:a.ep=b.ep:=by omega
   simp[orI,this];intro h;exact h.symm
theorem Oz_(a b:Rt):xl_ a.1 b.1=lG_ a b:=by
 have key:∀ (f i:Nat) (x y:List UInt8),x.length=i+f→y.length=i+f→xl_ (x.drop i) (y.drop i)=(fun(x y:List UInt8)=>Nat.rec (motive:=fun _=>Nat→Int) (fun _=>0) (fun _ g i=>if x.getD i 0<y.getD i 0 then -1 else if y.getD i 0<x.getD i 0 then 1 else g (i+1)) f i) x y:=by
  intro f;induction f with
  | zero =>
    intro i x y hx hy;rw[List.drop_of_length_le (by omega),List.drop_of_length_le (by omega)];rfl
  | succ f ih =>
    intro i x y hx hy;rw[List.drop_eq_getElem_cons (show i<x.length by omega),List.drop_eq_getElem_cons (show i<y.length by omega)];have e1:x.getD i 0=x[i]'(by omega):=by simp[List.getD,show i<x.length by omega]
    have e2:y.getD i 0=y[i]'(by omega):=by simp[List.getD,show i<y.length by omega]
    simp only[xl_,e1,e2];rw[ih (i+1) x y (by omega) (by omega)]
 have h:=key 32 0 a.1 b.1 a.2 b.2;simp only[List.drop_zero]at h;rw[h];unfold lG_
 have:∀f i,(Nat.rec (motive:=fun _=>Nat→Int) (fun _=>0) (fun _ g i=>if a.1.getD i 0<b.1.getD i 0 then -1 else if b.1.getD i 0<a.1.getD i 0 then 1 else g (i+1)) f i:Int)=js_ a b f i:=by
  intro f;induction f with
  |zero=>intro i;rfl
  |succ f ih=>intro i;simp only[js_,ih]
 exact this 32 0
def tM_:List Int→Int→Int×Bool
 | [],n=>(n,true)
 |x::r,n=>if IntKind.u64.wrap (4611686018427387904-n)<x then (0,false)else tM_ r (IntKind.u64.wrap (n+x))
def jc_:List Int→Int
 | []=>0
 |x::r=>x+jc_ r
theorem Cw_:∀ {l:List Int},(∀x∈l,0≤x∧x<18446744073709551616)→0≤jc_ l
 | [],_=>Int.le_refl 0
 | x :: r, h => by
   have:=h x (List.mem_cons_self ..);have:=Cw_ (l:=r) fun y hy=>h y (List.mem_cons_of_mem _ hy)
   simp only[jc_];omega
theorem Iv_:∀ {l:List Int} {n:Int},(∀x∈l,0≤x∧x<18446744073709551616)→0≤n→n≤4611686018427387904→(tM_ l n).2=decide (n+jc_ l≤4611686018427387904)
 | [],n,_,h0,h1=>by simp[tM_,jc_,h1]
 | x :: r, n, h, h0, h1 => by
   have hx:=h x (List.mem_cons_self ..);have hr:=fun y hy=>h y (List.mem_cons_of_mem x hy)
   have hn:=Cw_ (l:=r) hr;simp only[tM_];rw[gQ_ (n:=4611686018427387904-n) (by omega) (by omega)];by_cases hc:4611686018427387904-n<x
   ·rw[if_pos hc];exact(decide_eq_false (by simp only[jc_];omega)).symm
   ·rw[if_neg hc,gQ_ (by omega) (by omega),Iv_ hr (by omega) (by omega)];exact decide_eq_decide.2 (by simp only[jc_];constructor<;>intro<;>omega)
theorem EU_:∀ (l m:List Int),jc_ (l++m)=jc_ l+jc_ m
 | [],m=>by simp[jc_]
 |x::l,m=>by simp only[List.cons_append,jc_,EU_ l m];omega
theorem Iu_{l:List Int}(h:∀x∈l,0≤x∧x<18446744073709551616):∀i,i≤l.length→(jc_ (l.take i)<18446744073709551616→fv_ l i=(jc_ (l.take i),0))∧(18446744073709551616≤jc_ (l.take i)→(fv_ l i).2≠0)
 |0,_=>⟨fun _=>by simp[fv_,jc_],fun h=>by simp[jc_]at h⟩
 | i + 1, hi => by
   obtain⟨h1,h2⟩:=Iu_ h i (by omega)
   have ht:l.take (i+1)=l.take i++[l.getD i 0]:=by
    rw[List.take_add_one,List.getD_eq_getElem?_getD,List.getElem?_eq_getElem (show i<l.length by omega)];rfl
   have hx:0≤l.getD i 0∧l.getD i 0<18446744073709551616:=by
    rw[List.getD_eq_getElem?_getD,List.getElem?_eq_getElem (show i<l.length by omega)];exact h _ (List.getElem_mem _)
   have hn:=Cw_ (l:=l.take i) fun y hy=>h y (List.mem_of_mem_take hy)
   have hs:jc_ (l.take (i+1))=jc_ (l.take i)+l.getD i 0:=by rw[ht,EU_];simp[jc_]
   rw[hs];simp only[fv_];by_cases hc:jc_ (l.take i)<18446744073709551616
   ·rw[h1 hc]
    simp only[ne_eq,not_true_eq_false,if_false];unfold sO_;rw[gQ_ (n:=18446744073709551615-l.getD i 0) (by omega) (by omega)];by_cases hov:18446744073709551615-l.getD i 0<jc_ (l.take i)
    ·rw[if_pos hov];exact⟨fun h=>by omega,fun _=>by decide⟩
    ·rw[if_neg hov,gQ_ (by omega) (by omega)];exact⟨fun _=>rfl,fun h=>by omega⟩
   ·have h3:=h2 (by omega);rw[if_pos h3];exact⟨fun h=>by omega,fun _=>h3⟩
theorem Lv_{l:List Int}(h:∀x∈l,0≤x∧x<18446744073709551616):((sh_ l).2≠0∨4611686018427387904<(sh_ l).1)↔(tM_ l 0).2=false:=by
 rw[Iv_ h (Int.le_refl 0) (by decide),Int.zero_add];have h1:=Iu_ h l.length (Nat.le_refl _);rw[List.take_length]at h1;unfold sh_;by_cases hc:jc_ l<18446744073709551616
 ·rw[h1.1 hc];simp
 ·have:=h1.2 (by omega);simp only[decide_eq_false_iff_not];exact⟨fun _=>by omega,fun _=>.inl this⟩
def Sm{α:Type}(G F:α→Prop):Prop:=∃r,G r∧F r
section
variable{α:Type}{G:α→Prop}{P:Program}{nt k:Nat}{fr:Fr}{σ:St}
theorem eV_{p q:α→Prop}(h:∀r,q r→p r)(hq:Sm G q):Sm G p:=hq.imp fun r h1=>⟨h1.1,h r h1.2⟩
theorem Ip_{F:α→Prop}(r:α)(h1:G r)(h2:F r):Sm G F:=⟨r,h1,h2⟩
theorem bq_{p q:α→Prop}(hq:Sm G q) (h:∀r,Hid (q r)→p r:=by
 (intro r hq
  (first|with_reducible (first|refine fw_ ?_|refine fU_ ?_|refine eX_ ?_|refine hz_ (by simp only[List.length_cons,List.length_nil]) ?_|refine hB_ ?_|refine hA_ ?_|refine jE_ ?_)|(simp only[go_sem,Nat.reduceAdd,Nat.reduceSub,Nat.reduceMul,Nat.reduceLT,Nat.reduceLeDiff,Nat.reduceEqDiff,reduceIte,Int.reduceToNat,Int.reduceLT,Int.reduceLE,Int.reduceEq,Int.reduceNeg,reduceCtorEq,Int.reduceBEq,Int.reduceBNe])|with_reducible refine And.intro (iU_ (by decide)) ?_|(with_reducible refine And.intro ?_ ?_;first|omega|decide|(simp;done)|(simp;omega)))
  repeat(first|with_reducible (first|refine fw_ ?_|refine fU_ ?_|refine eX_ ?_|refine hz_ (by simp only[List.length_cons,List.length_nil]) ?_|refine hB_ ?_|refine hA_ ?_|refine jE_ ?_)|(simp only[go_sem,Nat.reduceAdd,Nat.reduceSub,Nat.reduceMul,Nat.reduceLT,Nat.reduceLeDiff,Nat.reduceEqDiff,reduceIte,Int.reduceToNat,Int.reduceLT,Int.reduceLE,Int.reduceEq,Int.reduceNeg,reduceCtorEq,Int.reduceBEq,Int.reduceBNe])|with_reducible refine And.intro (iU_ (by decide)) ?_|(with_reducible refine And.intro ?_ ?_;first|omega|decide|(simp;done)|(simp;omega)))
  exact hq.out)):Sm G p:=eV_ (fun r h1=>h r ⟨h1⟩) hq
theorem bS_{x y:ad_}{Q:α→Ex→Fr→St→Prop}(h:Sm G fun r=>Tri P nt k x (fT_ (Tri P nt k y (Q r)) (Q r)) fr σ):Sm G fun r=>Tri P nt k (.seq x y) (Q r) fr σ:=eV_ (fun r h1=>fw_ h1) h
theorem eq_{p q:α→Prop}(hq:Sm G q) (h:∀r,Hid (q r)→p r:=by
 (intro r hq
  (first|with_reducible (first|refine fU_ ?_|refine eX_ ?_|refine hz_ (by simp only[List.length_cons,List.length_nil]) ?_|refine hB_ ?_|refine hA_ ?_|refine jE_ ?_)|(simp only[go_sem,Nat.reduceAdd,Nat.reduceSub,Nat.reduceMul,Nat.reduceLT,Nat.reduceLeDiff,Nat.reduceEqDiff,reduceIte,Int.reduceToNat,Int.reduceLT,Int.reduceLE,Int.reduceEq,Int.reduceNeg,reduceCtorEq,Int.reduceBEq,Int.reduceBNe])|with_reducible refine And.intro (iU_ (by decide)) ?_|(with_reducible refine And.intro ?_ ?_;first|omega|decide|(simp;done)|(simp;omega)))
  repeat(first|with_reducible (first|refine fU_ ?_|refine eX_ ?_|refine hz_ (by simp only[List.length_cons,List.length_nil]) ?_|refine hB_ ?_|refine hA_ ?_|refine jE_ ?_)|(simp only[go_sem,Nat.reduceAdd,Nat.reduceSub,Nat.reduceMul,Nat.reduceLT,Nat.reduceLeDiff,Nat.reduceEqDiff,reduceIte,Int.reduceToNat,Int.reduceLT,Int.reduceLE,Int.reduceEq,Int.reduceNeg,reduceCtorEq,Int.reduceBEq,Int.reduceBNe])|with_reducible refine And.intro (iU_ (by decide)) ?_|(with_reducible refine And.intro ?_ ?_;first|omega|decide|(simp;done)|(simp;omega)))
  exact hq.out)):Sm G p:=eV_ (fun r h1=>h r ⟨h1⟩) hq
theorem gE_{p q:α→Prop}(hq:Sm G q) (h:∀r,Hid (q r)→p r:=by
 (intro r hq
  (first|(simp only[go_sem,Nat.reduceAdd,Nat.reduceSub,Nat.reduceMul,Nat.reduceLT,Nat.reduceLeDiff,Nat.reduceEqDiff,reduceIte,Int.reduceToNat,Int.reduceLT,Int.reduceLE,Int.reduceEq,Int.reduceNeg,reduceCtorEq,Int.reduceBEq,Int.reduceBNe])|with_reducible refine And.intro (iU_ (by decide)) ?_|(with_reducible refine And.intro ?_ ?_;first|omega|decide|(simp;done)|(simp;omega)))
  repeat(first|(simp only[go_sem,Nat.reduceAdd,Nat.reduceSub,Nat.reduceMul,Nat.reduceLT,Nat.reduceLeDiff,Nat.reduceEqDiff,reduceIte,Int.reduceToNat,Int.reduceLT,Int.reduceLE,Int.reduceEq,Int.reduceNeg,reduceCtorEq,Int.reduceBEq,Int.reduceBNe])|with_reducible refine And.intro (iU_ (by decide)) ?_|(with_reducible refine And.intro ?_ ?_;first|omega|decide|(simp;done)|(simp;omega)))
  exact hq.out)):Sm G p:=eV_ (fun r h1=>h r ⟨h1⟩) hq
theorem aQ_{c:Opd}{x y:ad_}{Q:α→Ex→Fr→St→Prop}{t:Bool}(h1:t=true→Sm G fun r=>Tri P nt k x (Q r) fr σ)(h2:t=false→Sm G fun r=>Tri P nt k y (Q r) fr σ)
 (hb:c.ev fr=.bool t:=by first|rfl|(simp only[go_sem];rfl)):Sm G fun r=>Tri P nt k (.cond c x y) (Q r) fr σ:=by
 cases t with
 |true=>exact eV_ (fun r h=>bM_ hb (fun _=>h) (fun h=>by cases h)) (h1 rfl)
 |false=>exact eV_ (fun r h=>bM_ hb (fun h=>by cases h) (fun _=>h)) (h2 rfl)
theorem cK_{p1 p2:Prop}{A B:α→Prop}(h1:p1→Sm G A)(h2:p2→Sm G B)(hx:p1→p2→False:=by intro h1 h2;first|(rw[h1]at h2;cases h2;done)|exact h2 h1|exact h1 h2|(simp_all;done)|omega)
 (ho:p1∨p2:=by first|exact Classical.em _|exact(Classical.em _).symm|exact Bool.eq_false_or_eq_true _|exact(Bool.eq_false_or_eq_true _).symm|(simp;omega)|omega):Sm G fun r=>(p1→A r)∧(p2→B r):=by
 rcases ho with h|h
 ·exact eV_ (fun r h3=>⟨fun _=>h3,fun h4=>(hx h h4).elim⟩) (h1 h)
 ·exact eV_ (fun r h3=>⟨fun h4=>(hx h4 h).elim,fun _=>h3⟩) (h2 h)
theorem bz_{f:FuncId}{args caps:List AV}{r0:AV}{K:α→AV→St→Prop}(h:PC P f (args++caps) r0)(hk:Sm G fun r=>K r r0 σ):Sm G fun r=>fo_ P (.fn (.func f) caps) args σ (K r):=eV_ (fun r h1=>aj_ h h1) hk
theorem cu_{n:Nat}{f:FuncId}{args caps:List AV}{r0:AV}{K:α→AV→List Nat→List Nat→St→Prop}(h:PC P f (args++caps) r0)(hk:Sm G fun r=>K r r0 [] [] σ):
 Sm G fun r=>∃v ft ch σ',oM_ P n (.fn (.func f) caps) args σ v ft ch σ'∧K r v ft ch σ':=eV_ (fun r h1=>ao_ h h1) hk
theorem RQ_{c:ad_}{Q:α→Ex→Fr→St→Prop}{fr2:Fr}{σ2:St}(hg:GC k fr σ fr2 σ2)(h:Sm G fun r=>Tri P nt k c (Q r) fr2 σ2):Sm G fun r=>Tri P nt k c (Q r) fr σ:=eV_ (fun r h1=>bE_ hg h1) h
def Ru_(P:Program)(nt k:Nat)(x:ad_)(fr:Fr)(σ:St)(fr2:Fr)(σ2:St):Prop:=∀ (z:ad_) (Q0 Q:Ex→Fr→St→Prop),Tri P nt k z Q0 fr2 σ2→Tri P nt k x (fT_ (Tri P nt k z Q0) Q) fr σ
theorem tX_{x:ad_}{fr2:Fr}{σ2:St}(h:Tri P nt k x (fun e fr σ=>e=.normal∧GC k fr σ fr2 σ2) fr σ):Ru_ P nt k x fr σ fr2 σ2:=fun z Q0 Q hz=>Tri.mono h fun e fr3 σ3 ⟨h1,h2⟩=>by
 subst h1;exact bE_ h2 hz
theorem nG_{c:Opd}{x y z:ad_}{Q0 Q:Ex→Fr→St→Prop}{t:Bool}{nv:Nat}{vs:List AV}{ts:List (Nat×AV)}(us:Bool→List (Nat×AV))(S:Bool→St)
 (hx:t=true→Tri P nt k x (fun e fr σ=>e=.normal∧GC k fr σ ⟨nv,hK_ (us true) vs,[]⟩ (S true)) ⟨nv,vs,ts⟩ σ) (hy:t=false→Tri P nt k y (fun e fr σ=>e=.normal∧GC k fr σ ⟨nv,hK_ (us false) vs,[]⟩ (S false)) ⟨nv,vs,ts⟩ σ)
 (hz:Tri P nt k z Q0 ⟨nv,hK_ (us t) vs,[]⟩ (S t)) (hb:c.ev ⟨nv,vs,ts⟩=.bool t:=by first|rfl|(simp only[go_sem];rfl)):Tri P nt k (.cond c x y) (fT_ (Tri P nt k z Q0) Q) ⟨nv,vs,ts⟩ σ:=by
 cases t with
 |true=>exact bM_ hb (fun _=>tX_ (hx rfl) z Q0 Q hz) (fun h=>by cases h)
 |false=>exact bM_ hb (fun h=>by cases h) (fun _=>tX_ (hy rfl) z Q0 Q hz)
theorem Cc_{β:Type}{x z:ad_}{Q0 Q:α→Ex→Fr→St→Prop}{H:β→Prop}{F:β→Fr}{S:β→St}(h:Sm H fun b=>Tri P nt k x (fun e fr σ=>e=.normal∧GC k fr σ (F b) (S b)) fr σ)
 (hz:∀b,H b→Sm G fun r=>Tri P nt k z (Q0 r) (F b) (S b)):Sm G fun r=>Tri P nt k x (fT_ (Tri P nt k z (Q0 r)) (Q r)) fr σ:=by
 obtain⟨b,h1,h2⟩:=h;exact eV_ (fun r h3=>tX_ h2 z _ _ h3) (hz b h1)
theorem fu_{β:Type}{x z:ad_}{Q0 Q:α→Ex→Fr→St→Prop}{nv:Nat}{vs:List AV}{ts:List (Nat×AV)}(H:β→Prop)(f:β→List AV)(i:Nat)(us:List (Nat×AV))(h:Sm H fun b=>Tri P nt k x (fun e fr' σ'=>e=.normal∧GC k fr' σ' ⟨nv,hK_ us vs,[]⟩ (σ.set i (.var (f b)))) ⟨nv,vs,ts⟩ σ)
 (hz:∀b,H b→Sm G fun r=>Tri P nt k z (Q0 r) ⟨nv,hK_ us vs,[]⟩ (σ.set i (.var (f b)))):Sm G fun r=>Tri P nt k x (fT_ (Tri P nt k z (Q0 r)) (Q r)) ⟨nv,vs,ts⟩ σ:=Cc_ (F:=fun _=>⟨nv,hK_ us vs,[]⟩) (S:=fun b=>σ.set i (.var (f b))) h hz
theorem rc_{β:Type}{x z:ad_}{Q0 Q:α→Ex→Fr→St→Prop}{nv:Nat}{vs:List AV}{ts:List (Nat×AV)}(H:β→Prop)(us:β→List (Nat×AV))(h:Sm H fun b=>Tri P nt k x (fun e fr' σ'=>e=.normal∧GC k fr' σ' ⟨nv,hK_ (us b) vs,[]⟩ σ) ⟨nv,vs,ts⟩ σ)
 (hz:∀b,H b→Sm G fun r=>Tri P nt k z (Q0 r) ⟨nv,hK_ (us b) vs,[]⟩ σ):Sm G fun r=>Tri P nt k x (fT_ (Tri P nt k z (Q0 r)) (Q r)) ⟨nv,vs,ts⟩ σ:=Cc_ (F:=fun b=>⟨nv,hK_ (us b) vs,[]⟩) (S:=fun _=>σ) h hz
theorem wt_{β:Type}{x z:ad_}{Q0 Q:α→Ex→Fr→St→Prop}{nv:Nat}{vs:List AV}{ts:List (Nat×AV)}(H:β→Prop)(us:β→List (Nat×AV))(S:β→St)(h:Sm H fun b=>Tri P nt k x (fun e fr' σ'=>e=.normal∧GC k fr' σ' ⟨nv,hK_ (us b) vs,[]⟩ (S b)) ⟨nv,vs,ts⟩ σ)
 (hz:∀b,H b→Sm G fun r=>Tri P nt k z (Q0 r) ⟨nv,hK_ (us b) vs,[]⟩ (S b)):Sm G fun r=>Tri P nt k x (fT_ (Tri P nt k z (Q0 r)) (Q r)) ⟨nv,vs,ts⟩ σ:=Cc_ (F:=fun b=>⟨nv,hK_ (us b) vs,[]⟩) (S:=S) h hz
theorem eU_{H:α→Prop}{fr1 fr2:Fr}{σ1:St}{S:α→St}(f:α→List AV)(i:Nat){b:α}(hi:σ1[i]?=some (.var (f b)))(hb:H b)(hg:GC k fr1 σ1 fr2 (S b)):Sm H fun r=>GC k fr1 σ1 fr2 (S r):=⟨b,hb,hg⟩
theorem ws_{rs:List eu_}{F:α→AV}{l:List AV}{b:α}(hl:cq_ fr σ rs=some l)(hv:fz σ (List.range σ.length) (eH_ l)=F b)(hg:G b):Sm G fun r=>PQ rs (F r) .ret fr σ:=⟨b,hg,l,hl,.inl hv⟩
theorem gX_{f:FuncId}{rs:List eu_}{ac:ad_}{args:List AV}{F:α→AV}(nv:Nat)(hf:as_ P f=some (nt,rs,ac))(ha:args.length≤nt)(hp:PuL args)(hr:∀r,G r→Pu (F r))
 (h:Sm G fun r=>Tri P nt 0 ac (PQ rs (F r)) ⟨nv,args++List.replicate (nv-args.length) .dead,[]⟩ []):Sm G fun r=>PC P f args (F r):=by
 obtain⟨r,h1,h2⟩:=h;exact⟨r,h1,PC.fact nv hf ha hp (hr r h1) h2⟩
end
def flat1:AV→Bool
 |.bool _|.int _ _|.str _=>true
 |_=>false
def flat2:AV→Bool
 |.agg cs=>cs.all flat1
 |v=>flat1 v
def flatR:AV→Bool
 |.tup us=>us.all flat2
 |v=>flat2 v
theorem Rl.flat1{E E':Env}{c:AV}{v:Value}(hc:flat1 c=true)(h:Rl E c v):Rl E' c v:=by
 cases c<;>first|exact h|cases hc
theorem RlC.flat{E E':Env}:∀ {cs:List AV} {vs:List Value},cs.all Go.FH.flat1=true→RlC E cs vs→RlC E' cs vs
 | [],_,_,h=>h
 | c :: cs, _, hc, h => by
   obtain⟨u,us,e,h1,h2,h3⟩:=h;rw[List.all_cons,Bool.and_eq_true]at hc;exact⟨u,us,e,h1,h2.flat1 hc.1,RlC.flat hc.2 h3⟩
theorem Rl.flat2{E E':Env}{c:AV}{v:Value}(hc:flat2 c=true)(h:Rl E c v):Rl E' c v:=by
 cases c<;>first|exact h|cases hc|skip
 obtain⟨vs,e,h1⟩:=h;exact⟨vs,e,h1.flat hc⟩
theorem RlS.flat{E E':Env}:∀ {cs:List AV} {vs:List Value},cs.all Go.FH.flat2=true→RlS E cs vs→RlS E' cs vs
 | [],_,_,h=>h
 | c :: cs, _, hc, h => by
   obtain⟨u,us,e,h2,h3⟩:=h;rw[List.all_cons,Bool.and_eq_true]at hc;exact⟨u,us,e,h2.flat2 hc.1,RlS.flat hc.2 h3⟩
theorem Rl.flatR{E E':Env}{c:AV}{v:Value}(hc:flatR c=true)(h:Rl E c v):Rl E' c v:=by
 cases c<;>first|exact h|cases hc|exact Rl.flat2 hc h|skip
 obtain⟨vs,e,h1⟩:=h;exact⟨vs,e,h1.flat hc⟩
theorem mN_{p q:Prop}(hq:q) (h:Hid q→p:=by
 (intro hq
  (first|with_reducible (first|refine fU_ ?_|refine eX_ ?_|refine hz_ (by simp only[List.length_cons,List.length_nil]) ?_|refine hB_ ?_|refine hA_ ?_|refine jE_ ?_)|(simp only[go_sem,Nat.reduceAdd,Nat.reduceSub,Nat.reduceMul,Nat.reduceLT,Nat.reduceLeDiff,Nat.reduceEqDiff,reduceIte,Int.reduceToNat,Int.reduceLT,Int.reduceLE,Int.reduceEq,Int.reduceNeg,reduceCtorEq,Int.reduceBEq,Int.reduceBNe])|with_reducible refine And.intro (iU_ (by decide)) ?_|(with_reducible refine And.intro ?_ ?_;first|omega|decide|(simp;done)|(simp;omega)))
  repeat(first|with_reducible (first|refine fU_ ?_|refine eX_ ?_|refine hz_ (by simp only[List.length_cons,List.length_nil]) ?_|refine hB_ ?_|refine hA_ ?_|refine jE_ ?_)|(simp only[go_sem,Nat.reduceAdd,Nat.reduceSub,Nat.reduceMul,Nat.reduceLT,Nat.reduceLeDiff,Nat.reduceEqDiff,reduceIte,Int.reduceToNat,Int.reduceLT,Int.reduceLE,Int.reduceEq,Int.reduceNeg,reduceCtorEq,Int.reduceBEq,Int.reduceBNe])|with_reducible refine And.intro (iU_ (by decide)) ?_|(with_reducible refine And.intro ?_ ?_;first|omega|decide|(simp;done)|(simp;omega)))
  exact hq.out)):p:=h ⟨hq⟩
section
variable{P:Program}{σ:St}
theorem ar_.lend{f:FuncId}{args:List AV}{r:AV}(hf:flatR r=true)(h:PC P f (fzL σ (List.range σ.length) args) r):ar_ P f args σ r σ:=by
 refine⟨h.call.1,Nat.le_refl _,fun X loc w vs hr hv=>?_⟩;obtain⟨loc2,g1,g2,g3,g4⟩:=(iO_ σ (List.range σ.length)).rel hr;have hpu:=h.pa
 have hv2:RlS (az_ X loc2 [] w) (fzL σ (List.range σ.length) args) vs:=by
  have key:∀ {xs:List AV} {us:List Value},PuL (fzL σ (List.range σ.length) xs)→RlS (az_ X loc σ w) xs us→RlS (az_ X loc2 [] w) (fzL σ (List.range σ.length) xs) us:=by
   intro xs;induction xs with
   |nil=>intro us _ hv;exact hv
   | cons a xs ih =>
     intro us hp hv;obtain⟨u,us',e,h1,h2⟩:=hv;exact⟨u,us',e,g4 a u h1 _ (hp.1.ren _).symm,ih hp.2 h2⟩
  exact key hpu hv
 refine(h.call.2.2 X loc2 w vs g2 hv2).mono ?_;rintro e w' ⟨v,loc',rfl,ho,_⟩;have hnl:∀b,¬aB_ [] loc2 b:=fun b hd=>by obtain⟨id,o,L,h1,_⟩:=hd;simp at h1
 have hev:Ev (aB_ σ loc) w w':=⟨ho.ev.size,fun b hb hn=>ho.ev.blk b hb (hnl b),ho.ev.os,ho.ev.tape,ho.ev.output⟩
 exact⟨v,loc,rfl,⟨fun _ _ h=>h,hr.change (fun _ _ h=>h) hev (fun b hb=>.inl hb) hr.beyond (fun id o h1 h2=>.inl ⟨h1,fun L hL hh=>ho.ev.blk _ (aB_.lt hr ⟨id,o,L,h1,h2,hL,hh,rfl⟩) (hnl _)⟩) hr.apart,
  ho.val.flatR hf,hev,fun b hb=>.inl hb⟩,fun _ _=>rfl⟩
end
section
variable{P:Program}
theorem ar_.forget{f:FuncId}{args:List AV}{r r2:AV}{σ σ' σ2:St}{zs js:List Nat}(h:ar_ P f args σ r σ')(hf:iv_ σ.length σ' zs js σ2)(hr2:fz σ' zs r=ren (rn js σ'.length) r2):ar_ P f args σ r2 σ2:=by
 have hlen:σ.length≤σ2.length:=by
  rw[hf.len];rcases Nat.lt_or_ge js.length σ.length with h1|h1
  ·have:=hf.fix js.length h1;rw[List.getElem?_eq_none (Nat.le_refl _)]at this;cases this
  ·exact h1
 refine⟨h.1,hlen,fun X loc w vs hr hv=>(h.2.2 X loc w vs hr hv).mono ?_⟩;rintro e w' ⟨v,loc',rfl,ho,hk⟩;obtain⟨loc2,g1,g2,g3,g4⟩:=hf.rel ho.rel
 have hid:∀id,id<σ.length→loc2 id=loc' id:=by
  intro id hid;rw[g1];congr 1;have:=hf.fix id hid;simp[rn,List.getD,this]
 refine⟨v,loc2,rfl,⟨fun id L hL=>?_,g2,g4 _ _ ho.val _ hr2,ho.ev,fun b hb=>ho.old b (g3 b hb)⟩,fun id h2=>(hid id h2).trans (hk id h2)⟩;rcases Nat.lt_or_ge id σ.length with h2|h2
 ·rw[hid id h2];exact ho.locs id L hL
 ·rw[hr.beyond id h2]at hL;cases hL
theorem ar_.pc{f:FuncId}{args:List AV}{r r2:AV}{σ':St}(h:ar_ P f args [] r σ')(pa:PuL args)(pr:Pu r2)(hr2:fz σ' (List.range σ'.length) r=r2:=by exact evd):PC P f args r2:=
 ⟨h.forget (iO_ σ' (List.range σ'.length)) (by rw[hr2,pr.ren]),pa,pr⟩
end
end Go.FH
