/-
 My texts Bp, Bq, Br, Bs, By, Ja, Jb, Jc, Jd, Bv, Bo, Bt, Bu, Bw, Bx, Je, Jh, Ji, joined.
-/
import Derived.Test.YtipiipgpnkpejaaGreatW2
import Derived.OpenShut
import Derived.ChangeMaps
namespace Go.FH
set_option linter.unusedVariables false
set_option linter.unusedSimpArgs false
open Go Go.RowKit
section
variable{P:Program}{nt k:Nat}{fr:Fr}{σ:St}
def Sc(v:AV):Prop:=∀E E' u,Rl E v u→Rl E' v u
theorem Sc.int(k:IntKind)(n:Int):Sc (.int k n):=fun _ _ _ h=>h
theorem Sc.bool(b:Bool):Sc (.bool b):=fun _ _ _ h=>h
theorem Sc.str(s:List UInt8):Sc (.str s):=fun _ _ _ h=>h
end
theorem cu_{a:List AV}{n:Nat}(h:a.length=n):cut a 0 n=a:=by
 unfold cut;rw[List.drop_zero,←h,List.take_length]
theorem Ql_(x:AV)(b:List AV)(o n:Nat)(h:1≤o):cut (x::b) o n=cut b (o-1) n:=by
 obtain⟨k,rfl⟩:∃k,o=k+1:=⟨o-1,by omega⟩
 rfl
theorem Qk_(a b:List AV)(o n:Nat)(h:a.length≤o):cut (a++b) o n=cut b (o-a.length) n:=by
 unfold cut;rw[List.drop_append,List.drop_eq_nil_of_le h,List.nil_append]
theorem Qj_(a b:List AV)(o n:Nat)(h:o+n≤a.length):cut (a++b) o n=cut a o n:=by
 unfold cut;rw[List.drop_append,List.take_append_of_le_length (by rw[List.length_drop];omega)]
theorem Rx_(x:AV)(b:List AV)(n:Nat)(h:0<n):cut (x::b) 0 n=x::cut b 0 (n-1):=by
 obtain⟨k,rfl⟩:∃k,n=k+1:=⟨n-1,by omega⟩
 rfl
theorem Rw_(b:List AV)(o:Nat):cut b o 0=[]:=by simp[cut]
theorem Oi_{a:List AV}{vs:List AV}(h:vs.length=a.length):spl a 0 vs=vs:=by
 unfold spl;rw[h];simp
theorem Qr_(x:AV)(b:List AV)(o:Nat)(vs:List AV)(h:1≤o):spl (x::b) o vs=x::spl b (o-1) vs:=by
 obtain⟨k,rfl⟩:∃k,o=k+1:=⟨o-1,by omega⟩
 unfold spl;simp[Nat.add_right_comm]
theorem Qq_(a b:List AV)(o:Nat)(vs:List AV)(h:a.length≤o):spl (a++b) o vs=a++spl b (o-a.length) vs:=by
 unfold spl;rw[List.take_append,List.drop_append,List.take_of_length_le h,List.drop_eq_nil_of_le (by omega),List.nil_append,show o+vs.length-a.length=o-a.length+vs.length by omega];simp
theorem Qp_(a b:List AV)(o:Nat)(vs:List AV)(h:o+vs.length≤a.length):spl (a++b) o vs=spl a o vs++b:=by
 unfold spl;rw[List.take_append_of_le_length (by omega),List.drop_append_of_le_length h];simp
theorem cS1{x:AV}{b:List AV}{o n:Nat}(h:1≤o:=by omega):cut (x::b) o n=cut b (o-1) n:=Ql_ x b o n h
theorem cR1{a b:List AV}{k:Nat}(hk:a.length=k){o n:Nat}(h:k≤o:=by omega):cut (a++b) o n=cut b (o-k) n:=by subst hk;exact Qk_ a b o n h
theorem cL1{a b:List AV}{k:Nat}(hk:a.length=k){o n:Nat}(h:o+n≤k:=by omega):cut (a++b) o n=cut a o n:=by subst hk;exact Qj_ a b o n h
theorem pS1{x:AV}{b:List AV}{o:Nat}{vs:List AV}(h:1≤o:=by omega):spl (x::b) o vs=x::spl b (o-1) vs:=Qr_ x b o vs h
theorem pR1{a b:List AV}{k:Nat}(hk:a.length=k){o:Nat}{vs:List AV}(h:k≤o:=by omega):spl (a++b) o vs=a++spl b (o-k) vs:=by subst hk;exact Qq_ a b o vs h
theorem pL1{a b:List AV}{k:Nat}(hk:a.length=k){o:Nat}{vs:List AV}(h:o+vs.length≤k:=by omega):spl (a++b) o vs=spl a o vs++b:=by subst hk;exact Qp_ a b o vs h
theorem RJ_(x:AV)(b:List AV)(v:AV)(vs:List AV):spl (x::b) 0 (v::vs)=v::spl b 0 vs:=by
 unfold spl;simp
theorem RK_(b:List AV):spl b 0 []=b:=by simp[spl]
theorem hN_(a b:Int):(a==b)=decide (a=b):=by rw[Bool.eq_iff_iff];simp
theorem bp_:aU_ []=true:=rfl
theorem be_(x:AV)(b:List AV):aU_ (x::b)=(x.cell&&aU_ b):=rfl
theorem bo_(a b:List AV):aU_ (a++b)=(aU_ a&&aU_ b):=by simp[aU_]
theorem cH_(a b:List AV):PuL (a++b)↔PuL a∧PuL b:=by
 simp only[uw_,List.mem_append];exact⟨fun h=>⟨fun c hc=>h c (.inl hc),fun c hc=>h c (.inr hc)⟩,fun h c hc=>hc.elim (h.1 c) (h.2 c)⟩
theorem gZ_(ρ:Nat→Nat)(a b:List AV):cf_ ρ (a++b)=cf_ ρ a++cf_ ρ b:=by simp[wK_]
theorem hM_(σ:St)(zs:List Nat):∀a b,fzL σ zs (a++b)=fzL σ zs a++fzL σ zs b
 | [],b=>rfl
 |x::a,b=>by simp only[List.cons_append,fzL,hM_ σ zs a b]
theorem eW_:∀ {a b:List AV} (x y:List AV),a.length=b.length→dI_ (a++x) (b++y)=(match dI_ a b,dI_ x y with|some p,some q=>some (p&&q)|_,_=>none)
 | [],[],x,y,_=>by simp only[List.nil_append,dI_];cases dI_ x y<;>simp
 | u :: a, v :: b, x, y, h => by
   have ih:=eW_ (a:=a) (b:=b) x y (by simpa using h);simp only[List.cons_append,dI_,ih];cases pc_ u v<;>cases dI_ a b<;>cases dI_ x y<;>simp[Bool.and_assoc]
 | [],_::_,_,_,h|_::_,[],_,_,h=>by simp at h
theorem dV_:∀ {ks:List (Nat×Nat)} {cs:List AV},cs.map cq_=cv_ ks→ey_ ks cs=true
 | [],cs,h=>by simp only[cv_,List.map_eq_nil_iff]at h;subst h;rfl
 | (n, k) :: ks, cs, h => by
   simp only[cv_]at h;have hl:n≤cs.length:=by have:=congrArg List.length h;simp at this;omega
   have h1:(cs.take n).map cq_=List.replicate n k:=by rw[List.map_take,h];simp
   have h2:(cs.drop n).map cq_=cv_ ks:=by rw[List.map_drop,h];simp
   simp only[ey_,dV_ h2,Bool.and_true,Bool.and_eq_true,List.all_eq_true,beq_iff_eq];refine⟨by rw[List.length_take];omega,fun x hx=>?_⟩;have:cq_ x∈(cs.take n).map cq_:=List.mem_map_of_mem hx;rw[h1]at this;exact(List.mem_replicate.1 this).2
def byc(bs:List UInt8):List AV:=bs.map fun b=>.int .u8 (b.toNat:Int)
@[simp] theorem GT_(bs:List UInt8):(byc bs).length=bs.length:=by simp[byc]
theorem Ow_(bs:List UInt8):PuL (byc bs):=by
 rw[uw_];intro x hx;obtain⟨b,_,rfl⟩:=List.mem_map.1 hx;trivial
theorem Bn_(bs:List UInt8):aU_ (byc bs)=true:=by simp[aU_,byc,AV.cell]
theorem DA_:∀ {a b:List UInt8},a.length=b.length→dI_ (byc a) (byc b)=some (decide (a=b))
 | [],[],_=>rfl
 | x :: a, y :: b, h => by
   have ih:=DA_ (a:=a) (b:=b) (by simpa using h)
   have e:(((x.toNat:Int))==(y.toNat:Int))=decide (x=y):=by
    rw[Bool.eq_iff_iff];simp;exact⟨fun h=>UInt8.toNat_inj.1 (by omega),fun h=>by rw[h]⟩
   simp only[byc,List.map_cons,dI_,pc_,if_true]at ih ⊢;rw[ih,e];simp[List.cons.injEq]
 | [],_::_,h|_::_,[],h=>by simp at h
theorem zK_:∀ (bs:List UInt8) (n:Nat),bs.length=n→chunk 1 n (byc bs)=bts bs
 | [],_,rfl=>rfl
 | b :: bs, _, rfl => by
   simp only[List.length_cons,chunk,byc,List.map_cons,bts];have:=zK_ bs _ rfl;simp only[byc,bts]at this;simp[this]
theorem OI_(bs:List UInt8){j:Nat}(h:j<bs.length):cut (byc bs) j 1=[.int .u8 (bs[j].toNat:Int)]:=by
 unfold cut byc;rw[←List.map_drop,←List.map_take,List.drop_eq_getElem_cons h];rfl
theorem PU_(bs:List UInt8){j:Nat}(h:j<bs.length)(b:UInt8):spl (byc bs) j [.int .u8 (b.toNat:Int)]=byc (bs.set j b):=by
 unfold spl byc;rw[←List.map_take,List.length_singleton,←List.map_drop,List.set_eq_take_append_cons_drop,if_pos h];simp
theorem Kc_(bs:List UInt8):(byc bs).map cq_=List.replicate bs.length 1:=by
 rw[List.eq_replicate_iff];refine⟨by simp,fun b hb=>?_⟩;obtain⟨c,hc,rfl⟩:=List.mem_map.1 hb;obtain⟨d,_,rfl⟩:=List.mem_map.1 hc;rfl
theorem tj_(bs:List UInt8):(bts bs).flatten=byc bs:=by
 induction bs with
 |nil=>rfl
 |cons b bs ih=>simp only[bts,byc,List.map_cons,List.flatten_cons]at ih ⊢;rw[ih];rfl
abbrev Rt:={b:List UInt8 // b.length=32}
def rtc(r:Rt):List AV:=byc r.1
@[simp] theorem af_(r:Rt):(rtc r).length=32:=by rw[rtc,GT_,r.2]
theorem NC_(r:Rt):cut (rtc r) 0 32=rtc r:=cu_ (af_ r)
theorem Js_(r:Rt):chunk 1 32 (rtc r)=bts r.1:=zK_ _ _ r.2
theorem ci_(r:Rt):PuL (rtc r):=Ow_ _
theorem nj_(ρ:Nat→Nat)(r:Rt):cf_ ρ (rtc r)=rtc r:=(ci_ r).ren ρ
theorem qV_(σ:St)(zs:List Nat)(r:Rt):fzL σ zs (rtc r)=rtc r:=(ci_ r).fz σ zs
theorem ct_(r:Rt):aU_ (rtc r)=true:=Bn_ _
theorem ie_(r s:Rt):dI_ (rtc r) (rtc s)=some (decide (r=s)):=by
 rw[rtc,rtc,DA_ (by rw[r.2,s.2])];congr 1;rw[decide_eq_decide];exact Subtype.ext_iff.symm
theorem gv_(r:Rt):(rtc r).map cq_=List.replicate 32 1:=by rw[rtc,Kc_,r.2]
theorem Mj_(r:Rt):ey_ [(32,1)] (rtc r)=true:=dV_ (by rw[gv_];rfl)
theorem BM_(r:Rt){j:Nat}(h:j<32):cut (rtc r) j 1=[.int .u8 ((r.1[j]'(by rw[r.2];exact h)).toNat:Int)]:=OI_ _ _
def Rt.set(r:Rt)(j:Nat)(b:UInt8):Rt:=⟨r.1.set j b,by rw[List.length_set,r.2]⟩
theorem nQ_(r:Rt){j:Nat}(h:j<32)(b:UInt8):spl (rtc r) j [.int .u8 (b.toNat:Int)]=rtc (r.set j b):=PU_ _ (by rw[r.2];exact h) b
theorem DR_(r:Rt){j:Nat}(h:j<32):cut (rtc r) j 1=[.int .u8 ((r.1.getD j 0).toNat:Int)]:=by
 rw[BM_ r h,List.getD_eq_getElem?_getD,List.getElem?_eq_getElem (by rw[r.2];exact h)];rfl
theorem fr_(r:Rt):(bts r.1=[])=False:=by
 rw[eq_iff_iff,iff_false];intro h;have:=congrArg List.length h;rw[wc_,r.2]at this;cases this
def rt0:Rt:=⟨List.replicate 32 0,rfl⟩
instance:Inhabited Rt:=⟨rt0⟩
abbrev Wd:={l:List Int // l.length=4}
def wdc(a:Wd):List AV:=a.1.map (.int .u64)
@[simp] theorem aC_(a:Wd):(wdc a).length=4:=by rw[wdc,List.length_map,a.2]
theorem Oo_(a:Wd):cut (wdc a) 0 4=wdc a:=cu_ (aC_ a)
theorem eH_(a:Wd):PuL (wdc a):=by
 rw[uw_];intro x hx;obtain⟨b,_,rfl⟩:=List.mem_map.1 hx;trivial
theorem Fc_(ρ:Nat→Nat)(r:Wd):cf_ ρ (wdc r)=wdc r:=(eH_ r).ren ρ
theorem Ia_(σ:St)(zs:List Nat)(r:Wd):fzL σ zs (wdc r)=wdc r:=(eH_ r).fz σ zs
theorem kW_(r:Wd):aU_ (wdc r)=true:=by simp[aU_,wdc,AV.cell]
theorem zy_:∀ {a b:List Int},a.length=b.length→dI_ (a.map (.int .u64)) (b.map (.int .u64))=some (decide (a=b))
 | [],[],_=>rfl
 | x :: a, y :: b, h => by
   have ih:=zy_ (a:=a) (b:=b) (by simpa using h);have e:(x==y)=decide (x=y):=by rw[Bool.eq_iff_iff];simp
   simp only[List.map_cons,dI_,pc_,if_true]at ih ⊢;rw[ih,e];simp[List.cons.injEq]
 | [],_::_,h|_::_,[],h=>by simp at h
theorem DB_(r s:Wd):dI_ (wdc r) (wdc s)=some (decide (r=s)):=by
 rw[wdc,wdc,zy_ (by rw[r.2,s.2])];congr 1;rw[decide_eq_decide];exact Subtype.ext_iff.symm
theorem Ah_(r:Wd):(wdc r).map cq_=List.replicate 4 1:=by
 rw[wdc,List.map_map,List.eq_replicate_iff];refine⟨by rw[List.length_map,r.2],fun b hb=>?_⟩;obtain⟨c,hc,rfl⟩:=List.mem_map.1 hb;rfl
theorem Mk_(r:Wd):ey_ [(4,1)] (wdc r)=true:=dV_ (by rw[Ah_];rfl)
theorem BN_(r:Wd){j:Nat}(h:j<4):cut (wdc r) j 1=[.int .u64 (r.1[j]'(by rw[r.2];exact h))]:=by
 unfold cut wdc;rw[←List.map_drop,←List.map_take,List.drop_eq_getElem_cons (by rw[r.2];exact h)];rfl
def Wd.set(r:Wd)(j:Nat)(x:Int):Wd:=⟨r.1.set j x,by rw[List.length_set,r.2]⟩
theorem gE_(r:Wd){j:Nat}(h:j<4)(x:Int):spl (wdc r) j [.int .u64 x]=wdc (r.set j x):=by
 have h2:j<r.1.length:=by rw[r.2];exact h
 unfold spl wdc Wd.set;simp only;rw[←List.map_take,List.length_singleton,←List.map_drop,List.set_eq_take_append_cons_drop,if_pos h2];simp
theorem qy_(r:Wd){j:Nat}(h:j<4):cut (wdc r) j 1=[.int .u64 (r.1.getD j 0)]:=by
 rw[BN_ r h,List.getD_eq_getElem?_getD,List.getElem?_eq_getElem (by rw[r.2];exact h)];rfl
def wd0:Wd:=⟨List.replicate 4 0,rfl⟩
instance:Inhabited Wd:=⟨wd0⟩
structure Cp where
 ep:Int
 rt:Rt
 deriving Inhabited,DecidableEq
def cpC(x:Cp):List AV:=.int .u64 x.ep::(rtc x.rt)
@[simp] theorem ak_(x:Cp):(cpC x).length=33:=by simp only[cpC,List.length_cons,List.length_append,List.length_nil,af_]
theorem LU_(ep:Int)(rt:Rt):.int .u64 ep::(rtc rt)=cpC ⟨ep,rt⟩:=rfl
theorem LV_(x:Cp):cut (cpC x) 0 33=cpC x:=cu_ (ak_ x)
theorem Gp_(x:Cp):cut (cpC x) 0 1=[.int .u64 x.ep]:=by unfold cpC;all_goals rfl
theorem Gr_(x:Cp)(v:Int):spl (cpC x) 0 [.int .u64 v]=cpC { x with ep:=v }:=by unfold cpC;all_goals rfl
theorem Gq_(x:Cp)(o n:Nat)(h1:1≤o)(h2:o+n≤33):cut (cpC x) o n=cut (rtc x.rt) (o-1) n:=by unfold cpC;rw[cS1];all_goals rfl
theorem Gs_(x:Cp)(o:Nat)(vs:List AV)(h1:1≤o)(h2:o+vs.length≤33):spl (cpC x) o vs=.int .u64 x.ep::(spl (rtc x.rt) (o-1) vs):=by unfold cpC;rw[pS1];all_goals rfl
theorem eI_(x:Cp):aU_ (cpC x)=true:=by simp[cpC,be_,bo_,bp_,AV.cell,ct_]
theorem el_(x:Cp):PuL (cpC x):=by simp[cpC,cH_,PuL,Pu,ci_]
theorem rp_(ρ:Nat→Nat)(x:Cp):cf_ ρ (cpC x)=cpC x:=(el_ x).ren ρ
theorem uD_(σ:St)(zs:List Nat)(x:Cp):fzL σ zs (cpC x)=cpC x:=(el_ x).fz σ zs
theorem sq_(x:Cp):(cpC x).map cq_=cv_ [(33,1)]:=by simp only[cpC,List.map_cons,List.map_append,List.map_nil,cq_,gv_];decide +kernel
theorem Mi_(x:Cp):ey_ [(33,1)] (cpC x)=true:=dV_ (sq_ x)
theorem uU_(x y:Cp):dI_ (cpC x) (cpC y)=some (decide (x=y)):=by cases x;cases y;simp[cpC,eW_,dI_,pc_,af_,aC_,ie_,Bool.beq_eq_decide_eq,hN_,Bool.and_assoc,Bool.decide_and]
def cp0:Cp:=⟨0,rt0⟩
structure Pul where
 j:Cp
 f:Cp
 deriving Inhabited,DecidableEq
def cT_(x:Pul):List AV:=cpC x.j++(cpC x.f)
@[simp] theorem ba_(x:Pul):(cT_ x).length=66:=by simp only[cT_,List.length_cons,List.length_append,List.length_nil,ak_]
theorem Kp_(j:Cp)(f:Cp):cpC j++(cpC f)=cT_ ⟨j,f⟩:=rfl
theorem Kq_(x:Pul):cut (cT_ x) 0 66=cT_ x:=cu_ (ba_ x)
theorem Hm_(x:Pul)(o n:Nat)(h1:0≤o)(h2:o+n≤33):cut (cT_ x) o n=cut (cpC x.j) (o-0) n:=by unfold cT_;rw[cL1 (ak_ _)];all_goals rfl
theorem Ho_(x:Pul)(o:Nat)(vs:List AV)(h1:0≤o)(h2:o+vs.length≤33):spl (cT_ x) o vs=spl (cpC x.j) (o-0) vs++(cpC x.f):=by unfold cT_;rw[pL1 (ak_ _)];all_goals rfl
theorem Hl_(x:Pul)(o n:Nat)(h1:33≤o)(h2:o+n≤66):cut (cT_ x) o n=cut (cpC x.f) (o-33) n:=by unfold cT_;rw[cR1 (ak_ _)];all_goals rfl
theorem Hn_(x:Pul)(o:Nat)(vs:List AV)(h1:33≤o)(h2:o+vs.length≤66):spl (cT_ x) o vs=cpC x.j++(spl (cpC x.f) (o-33) vs):=by unfold cT_;rw[pR1 (ak_ _)];all_goals rfl
theorem or_(x:Pul):aU_ (cT_ x)=true:=by simp[cT_,be_,bo_,bp_,AV.cell,eI_]
theorem pU_(x:Pul):PuL (cT_ x):=by simp[cT_,cH_,PuL,Pu,el_]
theorem KB_(ρ:Nat→Nat)(x:Pul):cf_ ρ (cT_ x)=cT_ x:=(pU_ x).ren ρ
theorem Mu_(σ:St)(zs:List Nat)(x:Pul):fzL σ zs (cT_ x)=cT_ x:=(pU_ x).fz σ zs
theorem vZ_(x:Pul):(cT_ x).map cq_=cv_ [(66,1)]:=by simp only[cT_,List.map_cons,List.map_append,List.map_nil,cq_,sq_];decide +kernel
theorem JP_(x:Pul):ey_ [(66,1)] (cT_ x)=true:=dV_ (vZ_ x)
theorem zz_(x y:Pul):dI_ (cT_ x) (cT_ y)=some (decide (x=y)):=by cases x;cases y;simp[cT_,eW_,dI_,pc_,af_,aC_,uU_,Bool.beq_eq_decide_eq,hN_,Bool.and_assoc,Bool.decide_and]
def ug_:Pul:=⟨cp0,cp0⟩
structure Blk where
 pul:Pul
 slot:Int
 root:Rt
 parent:Rt
 payload:Rt
 diff:Wd
 pdiff:Wd
 just:Cp
 fin:Cp
 timely:Bool
 deriving Inhabited,DecidableEq
def aw_(x:Blk):List AV:=cT_ x.pul++(.int .u64 x.slot::(rtc x.root++(rtc x.parent++(rtc x.payload++(wdc x.diff++(wdc x.pdiff++(cpC x.just++(cpC x.fin++[.bool x.timely]))))))))
@[simp] theorem aV_(x:Blk):(aw_ x).length=238:=by simp only[aw_,List.length_cons,List.length_append,List.length_nil,ak_,ba_,af_,aC_]
theorem Jg_(pul:Pul)(slot:Int)(root:Rt)(parent:Rt)(payload:Rt)(diff:Wd)(pdiff:Wd)(just:Cp)(fin:Cp)(timely:Bool):cT_ pul++(.int .u64 slot::(rtc root++(rtc parent++(rtc payload++(wdc diff++(wdc pdiff++(cpC just++(cpC fin++[.bool timely]))))))))=aw_ ⟨pul,slot,root,parent,payload,diff,pdiff,just,fin,timely⟩:=rfl
theorem Jh_(x:Blk):cut (aw_ x) 0 238=aw_ x:=cu_ (aV_ x)
theorem Bs_(x:Blk)(o n:Nat)(h1:0≤o)(h2:o+n≤66):cut (aw_ x) o n=cut (cT_ x.pul) (o-0) n:=by unfold aw_;rw[cL1 (ba_ _)];all_goals rfl
theorem Bu_(x:Blk)(o:Nat)(vs:List AV)(h1:0≤o)(h2:o+vs.length≤66):spl (aw_ x) o vs=spl (cT_ x.pul) (o-0) vs++(.int .u64 x.slot::(rtc x.root++(rtc x.parent++(rtc x.payload++(wdc x.diff++(wdc x.pdiff++(cpC x.just++(cpC x.fin++[.bool x.timely])))))))):=by unfold aw_;rw[pL1 (ba_ _)];all_goals rfl
theorem xK_(x:Blk):cut (aw_ x) 66 1=[.int .u64 x.slot]:=by unfold aw_;rw[cR1 (ba_ _)];simp only[Nat.reduceSub];all_goals rfl
theorem xO_(x:Blk)(v:Int):spl (aw_ x) 66 [.int .u64 v]=aw_ { x with slot:=v }:=by unfold aw_;rw[pR1 (ba_ _)];simp only[Nat.reduceSub];all_goals rfl
theorem xJ_(x:Blk)(o n:Nat)(h1:67≤o)(h2:o+n≤99):cut (aw_ x) o n=cut (rtc x.root) (o-67) n:=by unfold aw_;rw[cR1 (ba_ _),cS1,cL1 (af_ _)];rw[show o-66-1=o-67 by omega]
theorem xN_(x:Blk)(o:Nat)(vs:List AV)(h1:67≤o)(h2:o+vs.length≤99):spl (aw_ x) o vs=cT_ x.pul++(.int .u64 x.slot::(spl (rtc x.root) (o-67) vs++(rtc x.parent++(rtc x.payload++(wdc x.diff++(wdc x.pdiff++(cpC x.just++(cpC x.fin++[.bool x.timely])))))))):=by unfold aw_;rw[pR1 (ba_ _),pS1,pL1 (af_ _)];rw[show o-66-1=o-67 by omega]
theorem tC_(x:Blk)(o n:Nat)(h1:99≤o)(h2:o+n≤131):cut (aw_ x) o n=cut (rtc x.parent) (o-99) n:=by unfold aw_;rw[cR1 (ba_ _),cS1];rw[cR1 (af_ _),cL1 (af_ _)];rw[show o-66-1-32=o-99 by omega]
theorem tE_(x:Blk)(o:Nat)(vs:List AV)(h1:99≤o)(h2:o+vs.length≤131):spl (aw_ x) o vs=cT_ x.pul++(.int .u64 x.slot::(rtc x.root++(spl (rtc x.parent) (o-99) vs++(rtc x.payload++(wdc x.diff++(wdc x.pdiff++(cpC x.just++(cpC x.fin++[.bool x.timely])))))))):=by unfold aw_;rw[pR1 (ba_ _),pS1];rw[pR1 (af_ _),pL1 (af_ _)];rw[show o-66-1-32=o-99 by omega]
theorem rQ_(x:Blk)(o n:Nat)(h1:131≤o)(h2:o+n≤163):cut (aw_ x) o n=cut (rtc x.payload) (o-131) n:=by unfold aw_;rw[cR1 (ba_ _),cS1];rw[cR1 (af_ _),cR1 (af_ _),cL1 (af_ _)];rw[show o-66-1-32-32=o-131 by omega]
theorem rR_(x:Blk)(o:Nat)(vs:List AV)(h1:131≤o)(h2:o+vs.length≤163):spl (aw_ x) o vs=cT_ x.pul++(.int .u64 x.slot::(rtc x.root++(rtc x.parent++(spl (rtc x.payload) (o-131) vs++(wdc x.diff++(wdc x.pdiff++(cpC x.just++(cpC x.fin++[.bool x.timely])))))))):=by unfold aw_;rw[pR1 (ba_ _),pS1];rw[pR1 (af_ _),pR1 (af_ _),pL1 (af_ _)];rw[show o-66-1-32-32=o-131 by omega]
theorem xH_(x:Blk)(o n:Nat)(h1:163≤o)(h2:o+n≤167):cut (aw_ x) o n=cut (wdc x.diff) (o-163) n:=by unfold aw_;rw[cR1 (ba_ _),cS1];rw[cR1 (af_ _),cR1 (af_ _)];rw[cR1 (af_ _),cL1 (aC_ _)];rw[show o-66-1-32-32-32=o-163 by omega]
theorem xL_(x:Blk)(o:Nat)(vs:List AV)(h1:163≤o)(h2:o+vs.length≤167):spl (aw_ x) o vs=cT_ x.pul++(.int .u64 x.slot::(rtc x.root++(rtc x.parent++(rtc x.payload++(spl (wdc x.diff) (o-163) vs++(wdc x.pdiff++(cpC x.just++(cpC x.fin++[.bool x.timely])))))))):=by unfold aw_;rw[pR1 (ba_ _),pS1];rw[pR1 (af_ _),pR1 (af_ _)];rw[pR1 (af_ _),pL1 (aC_ _)];rw[show o-66-1-32-32-32=o-163 by omega]
theorem uY_(x:Blk)(o n:Nat)(h1:167≤o)(h2:o+n≤171):cut (aw_ x) o n=cut (wdc x.pdiff) (o-167) n:=by unfold aw_;rw[cR1 (ba_ _),cS1];rw[cR1 (af_ _),cR1 (af_ _)];rw[cR1 (af_ _),cR1 (aC_ _),cL1 (aC_ _)];rw[show o-66-1-32-32-32-4=o-167 by omega]
theorem uZ_(x:Blk)(o:Nat)(vs:List AV)(h1:167≤o)(h2:o+vs.length≤171):spl (aw_ x) o vs=cT_ x.pul++(.int .u64 x.slot::(rtc x.root++(rtc x.parent++(rtc x.payload++(wdc x.diff++(spl (wdc x.pdiff) (o-167) vs++(cpC x.just++(cpC x.fin++[.bool x.timely])))))))):=by unfold aw_;rw[pR1 (ba_ _),pS1];rw[pR1 (af_ _),pR1 (af_ _)];rw[pR1 (af_ _),pR1 (aC_ _),pL1 (aC_ _)];rw[show o-66-1-32-32-32-4=o-167 by omega]
theorem xI_(x:Blk)(o n:Nat)(h1:171≤o)(h2:o+n≤204):cut (aw_ x) o n=cut (cpC x.just) (o-171) n:=by unfold aw_;rw[cR1 (ba_ _),cS1];rw[cR1 (af_ _),cR1 (af_ _)];rw[cR1 (af_ _),cR1 (aC_ _)];rw[cR1 (aC_ _),cL1 (ak_ _)];rw[show o-66-1-32-32-32-4-4=o-171 by omega]
theorem xM_(x:Blk)(o:Nat)(vs:List AV)(h1:171≤o)(h2:o+vs.length≤204):spl (aw_ x) o vs=cT_ x.pul++(.int .u64 x.slot::(rtc x.root++(rtc x.parent++(rtc x.payload++(wdc x.diff++(wdc x.pdiff++(spl (cpC x.just) (o-171) vs++(cpC x.fin++[.bool x.timely])))))))):=by unfold aw_;rw[pR1 (ba_ _),pS1];rw[pR1 (af_ _),pR1 (af_ _)];rw[pR1 (af_ _),pR1 (aC_ _)];rw[pR1 (aC_ _),pL1 (ak_ _)];rw[show o-66-1-32-32-32-4-4=o-171 by omega]
theorem Br_(x:Blk)(o n:Nat)(h1:204≤o)(h2:o+n≤237):cut (aw_ x) o n=cut (cpC x.fin) (o-204) n:=by unfold aw_;rw[cR1 (ba_ _),cS1];rw[cR1 (af_ _),cR1 (af_ _)];rw[cR1 (af_ _),cR1 (aC_ _)];rw[cR1 (aC_ _),cR1 (ak_ _),cL1 (ak_ _)];rw[show o-66-1-32-32-32-4-4-33=o-204 by omega]
theorem Bt_(x:Blk)(o:Nat)(vs:List AV)(h1:204≤o)(h2:o+vs.length≤237):spl (aw_ x) o vs=cT_ x.pul++(.int .u64 x.slot::(rtc x.root++(rtc x.parent++(rtc x.payload++(wdc x.diff++(wdc x.pdiff++(cpC x.just++(spl (cpC x.fin) (o-204) vs++[.bool x.timely])))))))):=by unfold aw_;rw[pR1 (ba_ _),pS1];rw[pR1 (af_ _),pR1 (af_ _)];rw[pR1 (af_ _),pR1 (aC_ _)];rw[pR1 (aC_ _),pR1 (ak_ _),pL1 (ak_ _)];rw[show o-66-1-32-32-32-4-4-33=o-204 by omega]
theorem tD_(x:Blk):cut (aw_ x) 237 1=[.bool x.timely]:=by unfold aw_;rw[cR1 (ba_ _),cS1];rw[cR1 (af_ _),cR1 (af_ _)];rw[cR1 (af_ _),cR1 (aC_ _)];rw[cR1 (aC_ _),cR1 (ak_ _),cR1 (ak_ _)];simp only[Nat.reduceSub];all_goals rfl
theorem tF_(x:Blk)(v:Bool):spl (aw_ x) 237 [.bool v]=aw_ { x with timely:=v }:=by unfold aw_;rw[pR1 (ba_ _),pS1];rw[pR1 (af_ _),pR1 (af_ _)];rw[pR1 (af_ _),pR1 (aC_ _)];rw[pR1 (aC_ _),pR1 (ak_ _),pR1 (ak_ _)];simp only[Nat.reduceSub];all_goals rfl
theorem jN_(x:Blk):aU_ (aw_ x)=true:=by simp[aw_,be_,bo_,bp_,AV.cell,eI_,or_,ct_,kW_]
theorem dA_(x:Blk):PuL (aw_ x):=by simp[aw_,cH_,PuL,Pu,el_,pU_,ci_,eH_]
theorem AI_(ρ:Nat→Nat)(x:Blk):cf_ ρ (aw_ x)=aw_ x:=(dA_ x).ren ρ
theorem El_(σ:St)(zs:List Nat)(x:Blk):fzL σ zs (aw_ x)=aw_ x:=(dA_ x).fz σ zs
theorem vY_(x:Blk):(aw_ x).map cq_=cv_ [(237,1),(1,0)]:=by simp only[aw_,List.map_cons,List.map_append,List.map_nil,cq_,sq_,vZ_,gv_,Ah_];decide +kernel
theorem JL_(x:Blk):ey_ [(237,1),(1,0)] (aw_ x)=true:=dV_ (vY_ x)
theorem zx_(x y:Blk):dI_ (aw_ x) (aw_ y)=some (decide (x=y)):=by cases x;cases y;simp[aw_,eW_,dI_,pc_,af_,aC_,uU_,zz_,ie_,DB_,Bool.beq_eq_decide_eq,hN_,Bool.and_assoc,Bool.decide_and]
def bj_:Blk:=⟨ug_,0,rt0,rt0,rt0,wd0,wd0,cp0,cp0,false⟩
structure Att where
 slot:Int
 root:Rt
 target:Cp
 vals:AV
 deriving Inhabited
def aX_(x:Att):List AV:=.int .u64 x.slot::(rtc x.root++(cpC x.target++[x.vals]))
@[simp] theorem bR_(x:Att):(aX_ x).length=67:=by simp only[aX_,List.length_cons,List.length_append,List.length_nil,ak_,af_]
theorem IZ_(slot:Int)(root:Rt)(target:Cp)(vals:AV):.int .u64 slot::(rtc root++(cpC target++[vals]))=aX_ ⟨slot,root,target,vals⟩:=rfl
theorem Ja_(x:Att):cut (aX_ x) 0 67=aX_ x:=cu_ (bR_ x)
theorem xC_(x:Att):cut (aX_ x) 0 1=[.int .u64 x.slot]:=by unfold aX_;all_goals rfl
theorem xF_(x:Att)(v:Int):spl (aX_ x) 0 [.int .u64 v]=aX_ { x with slot:=v }:=by unfold aX_;all_goals rfl
theorem xB_(x:Att)(o n:Nat)(h1:1≤o)(h2:o+n≤33):cut (aX_ x) o n=cut (rtc x.root) (o-1) n:=by unfold aX_;rw[cS1,cL1 (af_ _)];all_goals rfl
theorem xE_(x:Att)(o:Nat)(vs:List AV)(h1:1≤o)(h2:o+vs.length≤33):spl (aX_ x) o vs=.int .u64 x.slot::(spl (rtc x.root) (o-1) vs++(cpC x.target++[x.vals])):=by unfold aX_;rw[pS1,pL1 (af_ _)];all_goals rfl
theorem tA_(x:Att)(o n:Nat)(h1:33≤o)(h2:o+n≤66):cut (aX_ x) o n=cut (cpC x.target) (o-33) n:=by unfold aX_;rw[cS1,cR1 (af_ _),cL1 (ak_ _)];rw[show o-1-32=o-33 by omega]
theorem tB_(x:Att)(o:Nat)(vs:List AV)(h1:33≤o)(h2:o+vs.length≤66):spl (aX_ x) o vs=.int .u64 x.slot::(rtc x.root++(spl (cpC x.target) (o-33) vs++[x.vals])):=by unfold aX_;rw[pS1,pR1 (af_ _),pL1 (ak_ _)];rw[show o-1-32=o-33 by omega]
theorem xD_(x:Att):cut (aX_ x) 66 1=[x.vals]:=by unfold aX_;rw[cS1,cR1 (af_ _),cR1 (ak_ _)];simp only[Nat.reduceSub];all_goals rfl
theorem xG_(x:Att)(v:AV):spl (aX_ x) 66 [v]=aX_ { x with vals:=v }:=by unfold aX_;rw[pS1,pR1 (af_ _),pR1 (ak_ _)];simp only[Nat.reduceSub];all_goals rfl
def Att.map(g:AV→AV)(x:Att):Att:={ x with vals:=g x.vals }
theorem Att.map_mk(g:AV→AV)(slot:Int)(root:Rt)(target:Cp)(vals:AV):Att.map g ⟨slot,root,target,vals⟩=⟨slot,root,target,g vals⟩:=rfl
def Att.good(x:Att):Bool:=x.vals.cell
theorem Att.good_mk(slot:Int)(root:Rt)(target:Cp)(vals:AV):Att.good ⟨slot,root,target,vals⟩=(vals.cell):=rfl
def Att.Pure(x:Att):Prop:=Pu x.vals
theorem om_(x:Att):aU_ (aX_ x)=x.good:=by simp[aX_,Att.good,Bool.and_assoc,be_,bo_,bp_,AV.cell,eI_,ct_]
theorem cB_(x:Att):PuL (aX_ x)↔x.Pure:=by simp[aX_,Att.Pure,cH_,PuL,Pu,el_,ci_]
theorem AH_(ρ:Nat→Nat)(x:Att):cf_ ρ (aX_ x)=aX_ (x.map (ren ρ)):=by simp only[aX_,Att.map,gZ_,cf_,ren,rp_,nj_]
theorem Ek_(σ:St)(zs:List Nat)(x:Att):fzL σ zs (aX_ x)=aX_ (x.map (fz σ zs)):=by simp only[aX_,Att.map,hM_,fzL,fz,uD_,qV_]
def cI_:Att:=⟨0,rt0,cp0,.sl 0 true []⟩
structure Clm where
 src:Int
 tgt:Int
 root:Rt
 vals:AV
 deriving Inhabited
def bC_(x:Clm):List AV:=.int .u64 x.src::(.int .u64 x.tgt::(rtc x.root++[x.vals]))
@[simp] theorem ez_(x:Clm):(bC_ x).length=35:=by simp only[bC_,List.length_cons,List.length_append,List.length_nil,af_]
theorem Jt_(src:Int)(tgt:Int)(root:Rt)(vals:AV):.int .u64 src::(.int .u64 tgt::(rtc root++[vals]))=bC_ ⟨src,tgt,root,vals⟩:=rfl
theorem Ju_(x:Clm):cut (bC_ x) 0 35=bC_ x:=cu_ (ez_ x)
theorem BF_(x:Clm):cut (bC_ x) 0 1=[.int .u64 x.src]:=by unfold bC_;all_goals rfl
theorem BH_(x:Clm)(v:Int):spl (bC_ x) 0 [.int .u64 v]=bC_ { x with src:=v }:=by unfold bC_;all_goals rfl
theorem BG_(x:Clm):cut (bC_ x) 1 1=[.int .u64 x.tgt]:=by unfold bC_;rw[cS1];simp only[Nat.reduceSub];all_goals rfl
theorem BI_(x:Clm)(v:Int):spl (bC_ x) 1 [.int .u64 v]=bC_ { x with tgt:=v }:=by unfold bC_;rw[pS1];simp only[Nat.reduceSub];all_goals rfl
theorem xR_(x:Clm)(o n:Nat)(h1:2≤o)(h2:o+n≤34):cut (bC_ x) o n=cut (rtc x.root) (o-2) n:=by unfold bC_;rw[cS1,cS1,cL1 (af_ _)];rw[show o-1-1=o-2 by omega]
theorem xT_(x:Clm)(o:Nat)(vs:List AV)(h1:2≤o)(h2:o+vs.length≤34):spl (bC_ x) o vs=.int .u64 x.src::(.int .u64 x.tgt::(spl (rtc x.root) (o-2) vs++[x.vals])):=by unfold bC_;rw[pS1,pS1,pL1 (af_ _)];rw[show o-1-1=o-2 by omega]
theorem xS_(x:Clm):cut (bC_ x) 34 1=[x.vals]:=by unfold bC_;rw[cS1,cS1,cR1 (af_ _)];simp only[Nat.reduceSub];all_goals rfl
theorem xU_(x:Clm)(v:AV):spl (bC_ x) 34 [v]=bC_ { x with vals:=v }:=by unfold bC_;rw[pS1,pS1,pR1 (af_ _)];simp only[Nat.reduceSub];all_goals rfl
def Clm.map(g:AV→AV)(x:Clm):Clm:={ x with vals:=g x.vals }
theorem Clm.map_mk(g:AV→AV)(src:Int)(tgt:Int)(root:Rt)(vals:AV):Clm.map g ⟨src,tgt,root,vals⟩=⟨src,tgt,root,g vals⟩:=rfl
def Clm.good(x:Clm):Bool:=x.vals.cell
theorem Clm.good_mk(src:Int)(tgt:Int)(root:Rt)(vals:AV):Clm.good ⟨src,tgt,root,vals⟩=(vals.cell):=rfl
def Clm.Pure(x:Clm):Prop:=Pu x.vals
theorem oo_(x:Clm):aU_ (bC_ x)=x.good:=by simp[bC_,Clm.good,Bool.and_assoc,be_,bo_,bp_,AV.cell,ct_]
theorem ib_(x:Clm):PuL (bC_ x)↔x.Pure:=by simp[bC_,Clm.Pure,cH_,PuL,Pu,ci_]
theorem AJ_(ρ:Nat→Nat)(x:Clm):cf_ ρ (bC_ x)=bC_ (x.map (ren ρ)):=by simp only[bC_,Clm.map,gZ_,cf_,ren,nj_]
theorem En_(σ:St)(zs:List Nat)(x:Clm):fzL σ zs (bC_ x)=bC_ (x.map (fz σ zs)):=by simp only[bC_,Clm.map,hM_,fzL,fz,qV_]
def rS_:Clm:=⟨0,0,rt0,.sl 0 true []⟩
structure Slg where
 fst:Clm
 snd:Clm
 deriving Inhabited
def bI_(x:Slg):List AV:=bC_ x.fst++(bC_ x.snd)
@[simp] theorem co_(x:Slg):(bI_ x).length=70:=by simp only[bI_,List.length_cons,List.length_append,List.length_nil,ez_]
theorem KQ_(fst:Clm)(snd:Clm):bC_ fst++(bC_ snd)=bI_ ⟨fst,snd⟩:=rfl
theorem KR_(x:Slg):cut (bI_ x) 0 70=bI_ x:=cu_ (co_ x)
theorem CO_(x:Slg)(o n:Nat)(h1:0≤o)(h2:o+n≤35):cut (bI_ x) o n=cut (bC_ x.fst) (o-0) n:=by unfold bI_;rw[cL1 (ez_ _)];all_goals rfl
theorem CQ_(x:Slg)(o:Nat)(vs:List AV)(h1:0≤o)(h2:o+vs.length≤35):spl (bI_ x) o vs=spl (bC_ x.fst) (o-0) vs++(bC_ x.snd):=by unfold bI_;rw[pL1 (ez_ _)];all_goals rfl
theorem CP_(x:Slg)(o n:Nat)(h1:35≤o)(h2:o+n≤70):cut (bI_ x) o n=cut (bC_ x.snd) (o-35) n:=by unfold bI_;rw[cR1 (ez_ _)];all_goals rfl
theorem CR_(x:Slg)(o:Nat)(vs:List AV)(h1:35≤o)(h2:o+vs.length≤70):spl (bI_ x) o vs=bC_ x.fst++(spl (bC_ x.snd) (o-35) vs):=by unfold bI_;rw[pR1 (ez_ _)];all_goals rfl
def Slg.map(g:AV→AV)(x:Slg):Slg:={ x with fst:=x.fst.map g,snd:=x.snd.map g }
theorem Slg.map_mk(g:AV→AV)(fst:Clm)(snd:Clm):Slg.map g ⟨fst,snd⟩=⟨fst.map g,snd.map g⟩:=rfl
def Slg.good(x:Slg):Bool:=x.fst.good&&x.snd.good
theorem Slg.good_mk(fst:Clm)(snd:Clm):Slg.good ⟨fst,snd⟩=(fst.good&&snd.good):=rfl
def Slg.Pure(x:Slg):Prop:=x.fst.Pure∧x.snd.Pure
theorem os_(x:Slg):aU_ (bI_ x)=x.good:=by simp[bI_,Slg.good,Bool.and_assoc,be_,bo_,bp_,AV.cell,oo_]
theorem cU_(x:Slg):PuL (bI_ x)↔x.Pure:=by simp[bI_,Slg.Pure,cH_,PuL,Pu,ib_]
theorem AM_(ρ:Nat→Nat)(x:Slg):cf_ ρ (bI_ x)=bI_ (x.map (ren ρ)):=by simp only[bI_,Slg.map,gZ_,cf_,ren,AJ_]
theorem Eq_(σ:St)(zs:List Nat)(x:Slg):fzL σ zs (bI_ x)=bI_ (x.map (fz σ zs)):=by simp only[bI_,Slg.map,hM_,fzL,fz,En_]
def cz_:Slg:=⟨rS_,rS_⟩
structure Tab where
 cp:Cp
 bals:AV
 deriving Inhabited
def aS_(x:Tab):List AV:=cpC x.cp++[x.bals]
@[simp] theorem cM_(x:Tab):(aS_ x).length=34:=by simp only[aS_,List.length_cons,List.length_append,List.length_nil,ak_]
theorem La_(cp:Cp)(bals:AV):cpC cp++[bals]=aS_ ⟨cp,bals⟩:=rfl
theorem Lb_(x:Tab):cut (aS_ x) 0 34=aS_ x:=cu_ (cM_ x)
theorem FE_(x:Tab)(o n:Nat)(h1:0≤o)(h2:o+n≤33):cut (aS_ x) o n=cut (cpC x.cp) (o-0) n:=by unfold aS_;rw[cL1 (ak_ _)];all_goals rfl
theorem FF_(x:Tab)(o:Nat)(vs:List AV)(h1:0≤o)(h2:o+vs.length≤33):spl (aS_ x) o vs=spl (cpC x.cp) (o-0) vs++[x.bals]:=by unfold aS_;rw[pL1 (ak_ _)];all_goals rfl
theorem zn_(x:Tab):cut (aS_ x) 33 1=[x.bals]:=by unfold aS_;rw[cR1 (ak_ _)];simp only[Nat.reduceSub];all_goals rfl
theorem zo_(x:Tab)(v:AV):spl (aS_ x) 33 [v]=aS_ { x with bals:=v }:=by unfold aS_;rw[pR1 (ak_ _)];simp only[Nat.reduceSub];all_goals rfl
def Tab.map(g:AV→AV)(x:Tab):Tab:={ x with bals:=g x.bals }
theorem Tab.map_mk(g:AV→AV)(cp:Cp)(bals:AV):Tab.map g ⟨cp,bals⟩=⟨cp,g bals⟩:=rfl
def Tab.good(x:Tab):Bool:=x.bals.cell
theorem Tab.good_mk(cp:Cp)(bals:AV):Tab.good ⟨cp,bals⟩=(bals.cell):=rfl
def Tab.Pure(x:Tab):Prop:=Pu x.bals
theorem ou_(x:Tab):aU_ (aS_ x)=x.good:=by simp[aS_,Tab.good,Bool.and_assoc,be_,bo_,bp_,AV.cell,eI_]
theorem cs_(x:Tab):PuL (aS_ x)↔x.Pure:=by simp[aS_,Tab.Pure,cH_,PuL,Pu,el_]
theorem AO_(ρ:Nat→Nat)(x:Tab):cf_ ρ (aS_ x)=aS_ (x.map (ren ρ)):=by simp only[aS_,Tab.map,gZ_,cf_,ren,rp_]
theorem Es_(σ:St)(zs:List Nat)(x:Tab):fzL σ zs (aS_ x)=aS_ (x.map (fz σ zs)):=by simp only[aS_,Tab.map,hM_,fzL,fz,uD_]
def ca_:Tab:=⟨cp0,.sl 0 true []⟩
structure Vdt where
 tag:Int
 kind:Int
 latest:Rt
 deriving Inhabited,DecidableEq
def bW_(x:Vdt):List AV:=.int .u64 x.tag::(.int .i64 x.kind::(rtc x.latest))
@[simp] theorem dq_(x:Vdt):(bW_ x).length=34:=by simp only[bW_,List.length_cons,List.length_append,List.length_nil,af_]
theorem Lk_(tag:Int)(kind:Int)(latest:Rt):.int .u64 tag::(.int .i64 kind::(rtc latest))=bW_ ⟨tag,kind,latest⟩:=rfl
theorem Ll_(x:Vdt):cut (bW_ x) 0 34=bW_ x:=cu_ (dq_ x)
theorem Dl_(x:Vdt):cut (bW_ x) 0 1=[.int .u64 x.tag]:=by unfold bW_;all_goals rfl
theorem Dm_(x:Vdt)(v:Int):spl (bW_ x) 0 [.int .u64 v]=bW_ { x with tag:=v }:=by unfold bW_;all_goals rfl
theorem zp_(x:Vdt):cut (bW_ x) 1 1=[.int .i64 x.kind]:=by unfold bW_;rw[cS1];simp only[Nat.reduceSub];all_goals rfl
theorem zq_(x:Vdt)(v:Int):spl (bW_ x) 1 [.int .i64 v]=bW_ { x with kind:=v }:=by unfold bW_;rw[pS1];simp only[Nat.reduceSub];all_goals rfl
theorem us_(x:Vdt)(o n:Nat)(h1:2≤o)(h2:o+n≤34):cut (bW_ x) o n=cut (rtc x.latest) (o-2) n:=by unfold bW_;rw[cS1,cS1];rw[show o-1-1=o-2 by omega]
theorem ut_(x:Vdt)(o:Nat)(vs:List AV)(h1:2≤o)(h2:o+vs.length≤34):spl (bW_ x) o vs=.int .u64 x.tag::(.int .i64 x.kind::(spl (rtc x.latest) (o-2) vs)):=by unfold bW_;rw[pS1,pS1];rw[show o-1-1=o-2 by omega]
theorem ov_(x:Vdt):aU_ (bW_ x)=true:=by simp[bW_,be_,bo_,bp_,AV.cell,ct_]
theorem gG_(x:Vdt):PuL (bW_ x):=by simp[bW_,cH_,PuL,Pu,ci_]
theorem AP_(ρ:Nat→Nat)(x:Vdt):cf_ ρ (bW_ x)=bW_ x:=(gG_ x).ren ρ
theorem Et_(σ:St)(zs:List Nat)(x:Vdt):fzL σ zs (bW_ x)=bW_ x:=(gG_ x).fz σ zs
theorem GO_(x:Vdt):(bW_ x).map cq_=cv_ [(34,1)]:=by simp only[bW_,List.map_cons,List.map_append,List.map_nil,cq_,gv_];decide +kernel
theorem JR_(x:Vdt):ey_ [(34,1)] (bW_ x)=true:=dV_ (GO_ x)
theorem IW_(x y:Vdt):dI_ (bW_ x) (bW_ y)=some (decide (x=y)):=by cases x;cases y;simp[bW_,eW_,dI_,pc_,af_,aC_,ie_,Bool.beq_eq_decide_eq,hN_,Bool.and_assoc,Bool.decide_and]
def bL_:Vdt:=⟨0,0,rt0⟩
structure SOp where
 kind:Int
 blk:Blk
 att:Att
 slg:Slg
 tab:Tab
 vdt:Vdt
 write:Int
 keep:Int
 deriving Inhabited
def aI_(x:SOp):List AV:=.int .i64 x.kind::(aw_ x.blk++(aX_ x.att++(bI_ x.slg++(aS_ x.tab++(bW_ x.vdt++(.int .i64 x.write::[.int .i64 x.keep]))))))
@[simp] theorem tm_(x:SOp):(aI_ x).length=446:=by simp only[aI_,List.length_cons,List.length_append,List.length_nil,bR_,aV_,co_,cM_,dq_]
theorem KK_(kind:Int)(blk:Blk)(att:Att)(slg:Slg)(tab:Tab)(vdt:Vdt)(write:Int)(keep:Int):.int .i64 kind::(aw_ blk++(aX_ att++(bI_ slg++(aS_ tab++(bW_ vdt++(.int .i64 write::[.int .i64 keep]))))))=aI_ ⟨kind,blk,att,slg,tab,vdt,write,keep⟩:=rfl
theorem KL_(x:SOp):cut (aI_ x) 0 446=aI_ x:=cu_ (tm_ x)
theorem yN_(x:SOp):cut (aI_ x) 0 1=[.int .i64 x.kind]:=by unfold aI_;all_goals rfl
theorem yP_(x:SOp)(v:Int):spl (aI_ x) 0 [.int .i64 v]=aI_ { x with kind:=v }:=by unfold aI_;all_goals rfl
theorem CE_(x:SOp)(o n:Nat)(h1:1≤o)(h2:o+n≤239):cut (aI_ x) o n=cut (aw_ x.blk) (o-1) n:=by unfold aI_;rw[cS1,cL1 (aV_ _)];all_goals rfl
theorem CJ_(x:SOp)(o:Nat)(vs:List AV)(h1:1≤o)(h2:o+vs.length≤239):spl (aI_ x) o vs=.int .i64 x.kind::(spl (aw_ x.blk) (o-1) vs++(aX_ x.att++(bI_ x.slg++(aS_ x.tab++(bW_ x.vdt++(.int .i64 x.write::[.int .i64 x.keep])))))):=by unfold aI_;rw[pS1,pL1 (aV_ _)];all_goals rfl
theorem CD_(x:SOp)(o n:Nat)(h1:239≤o)(h2:o+n≤306):cut (aI_ x) o n=cut (aX_ x.att) (o-239) n:=by unfold aI_;rw[cS1,cR1 (aV_ _),cL1 (bR_ _)];rw[show o-1-238=o-239 by omega]
theorem CI_(x:SOp)(o:Nat)(vs:List AV)(h1:239≤o)(h2:o+vs.length≤306):spl (aI_ x) o vs=.int .i64 x.kind::(aw_ x.blk++(spl (aX_ x.att) (o-239) vs++(bI_ x.slg++(aS_ x.tab++(bW_ x.vdt++(.int .i64 x.write::[.int .i64 x.keep])))))):=by unfold aI_;rw[pS1,pR1 (aV_ _),pL1 (bR_ _)];rw[show o-1-238=o-239 by omega]
theorem CF_(x:SOp)(o n:Nat)(h1:306≤o)(h2:o+n≤376):cut (aI_ x) o n=cut (bI_ x.slg) (o-306) n:=by unfold aI_;rw[cS1,cR1 (aV_ _)];rw[cR1 (bR_ _),cL1 (co_ _)];rw[show o-1-238-67=o-306 by omega]
theorem CK_(x:SOp)(o:Nat)(vs:List AV)(h1:306≤o)(h2:o+vs.length≤376):spl (aI_ x) o vs=.int .i64 x.kind::(aw_ x.blk++(aX_ x.att++(spl (bI_ x.slg) (o-306) vs++(aS_ x.tab++(bW_ x.vdt++(.int .i64 x.write::[.int .i64 x.keep])))))):=by unfold aI_;rw[pS1,pR1 (aV_ _)];rw[pR1 (bR_ _),pL1 (co_ _)];rw[show o-1-238-67=o-306 by omega]
theorem CG_(x:SOp)(o n:Nat)(h1:376≤o)(h2:o+n≤410):cut (aI_ x) o n=cut (aS_ x.tab) (o-376) n:=by unfold aI_;rw[cS1,cR1 (aV_ _)];rw[cR1 (bR_ _),cR1 (co_ _),cL1 (cM_ _)];rw[show o-1-238-67-70=o-376 by omega]
theorem CL_(x:SOp)(o:Nat)(vs:List AV)(h1:376≤o)(h2:o+vs.length≤410):spl (aI_ x) o vs=.int .i64 x.kind::(aw_ x.blk++(aX_ x.att++(bI_ x.slg++(spl (aS_ x.tab) (o-376) vs++(bW_ x.vdt++(.int .i64 x.write::[.int .i64 x.keep])))))):=by unfold aI_;rw[pS1,pR1 (aV_ _)];rw[pR1 (bR_ _),pR1 (co_ _),pL1 (cM_ _)];rw[show o-1-238-67-70=o-376 by omega]
theorem CH_(x:SOp)(o n:Nat)(h1:410≤o)(h2:o+n≤444):cut (aI_ x) o n=cut (bW_ x.vdt) (o-410) n:=by unfold aI_;rw[cS1,cR1 (aV_ _)];rw[cR1 (bR_ _),cR1 (co_ _)];rw[cR1 (cM_ _),cL1 (dq_ _)];rw[show o-1-238-67-70-34=o-410 by omega]
theorem CM_(x:SOp)(o:Nat)(vs:List AV)(h1:410≤o)(h2:o+vs.length≤444):spl (aI_ x) o vs=.int .i64 x.kind::(aw_ x.blk++(aX_ x.att++(bI_ x.slg++(aS_ x.tab++(spl (bW_ x.vdt) (o-410) vs++(.int .i64 x.write::[.int .i64 x.keep])))))):=by unfold aI_;rw[pS1,pR1 (aV_ _)];rw[pR1 (bR_ _),pR1 (co_ _)];rw[pR1 (cM_ _),pL1 (dq_ _)];rw[show o-1-238-67-70-34=o-410 by omega]
theorem wW_(x:SOp):cut (aI_ x) 444 1=[.int .i64 x.write]:=by unfold aI_;rw[cS1,cR1 (aV_ _)];rw[cR1 (bR_ _),cR1 (co_ _)];rw[cR1 (cM_ _),cR1 (dq_ _)];simp only[Nat.reduceSub];all_goals rfl
theorem wX_(x:SOp)(v:Int):spl (aI_ x) 444 [.int .i64 v]=aI_ { x with write:=v }:=by unfold aI_;rw[pS1,pR1 (aV_ _)];rw[pR1 (bR_ _),pR1 (co_ _)];rw[pR1 (cM_ _),pR1 (dq_ _)];simp only[Nat.reduceSub];all_goals rfl
theorem yM_(x:SOp):cut (aI_ x) 445 1=[.int .i64 x.keep]:=by unfold aI_;rw[cS1,cR1 (aV_ _)];rw[cR1 (bR_ _),cR1 (co_ _)];rw[cR1 (cM_ _),cR1 (dq_ _),cS1];simp only[Nat.reduceSub];all_goals rfl
theorem yO_(x:SOp)(v:Int):spl (aI_ x) 445 [.int .i64 v]=aI_ { x with keep:=v }:=by unfold aI_;rw[pS1,pR1 (aV_ _)];rw[pR1 (bR_ _),pR1 (co_ _)];rw[pR1 (cM_ _),pR1 (dq_ _),pS1];simp only[Nat.reduceSub];all_goals rfl
def SOp.map(g:AV→AV)(x:SOp):SOp:={ x with att:=x.att.map g,slg:=x.slg.map g,tab:=x.tab.map g }
theorem SOp.map_mk(g:AV→AV)(kind:Int)(blk:Blk)(att:Att)(slg:Slg)(tab:Tab)(vdt:Vdt)(write:Int)(keep:Int):SOp.map g ⟨kind,blk,att,slg,tab,vdt,write,keep⟩=⟨kind,blk,att.map g,slg.map g,tab.map g,vdt,write,keep⟩:=rfl
def SOp.good(x:SOp):Bool:=x.att.good&&x.slg.good&&x.tab.good
theorem SOp.good_mk(kind:Int)(blk:Blk)(att:Att)(slg:Slg)(tab:Tab)(vdt:Vdt)(write:Int)(keep:Int):SOp.good ⟨kind,blk,att,slg,tab,vdt,write,keep⟩=(att.good&&slg.good&&tab.good):=rfl
def SOp.Pure(x:SOp):Prop:=x.att.Pure∧x.slg.Pure∧x.tab.Pure
theorem xx_(x:SOp):aU_ (aI_ x)=x.good:=by simp[aI_,SOp.good,Bool.and_assoc,be_,bo_,bp_,AV.cell,om_,jN_,os_,ou_,ov_]
theorem cm_(x:SOp):PuL (aI_ x)↔x.Pure:=by simp[aI_,SOp.Pure,cH_,PuL,Pu,cB_,dA_,cU_,cs_,gG_]
theorem KC_(ρ:Nat→Nat)(x:SOp):cf_ ρ (aI_ x)=aI_ (x.map (ren ρ)):=by simp only[aI_,SOp.map,gZ_,cf_,ren,AH_,AI_,AM_,AO_,AP_]
theorem Mw_(σ:St)(zs:List Nat)(x:SOp):fzL σ zs (aI_ x)=aI_ (x.map (fz σ zs)):=by simp only[aI_,SOp.map,hM_,fzL,fz,Ek_,El_,Eq_,Es_,Et_]
def dy_:SOp:=⟨0,bj_,cI_,cz_,ca_,bL_,0,0⟩
end Go.FH
namespace Go.FH
open Go Go.RowKit
set_option linter.unusedVariables false
theorem Sd_(P:Program)(nv:Nat)(vs:List AV)(ts:List (Nat×AV))(σ:St)(K:AV→St→Prop):type_of% (evO P ⟨nv,vs,ts⟩ σ K):=evO P ⟨nv,vs,ts⟩ σ K
theorem Se_(P:Program)(nv:Nat)(vs:List AV)(ts:List (Nat×AV))(σ:St)(K:AV→St→Prop):type_of% (evM P ⟨nv,vs,ts⟩ σ K):=evM P ⟨nv,vs,ts⟩ σ K
theorem Sf_(P:Program)(nv:Nat)(vs:List AV)(ts:List (Nat×AV))(σ:St)(K:AV→St→Prop):type_of% (evA P ⟨nv,vs,ts⟩ σ K):=evA P ⟨nv,vs,ts⟩ σ K
attribute [go_sem] Sd_ Se_ Sf_ evF evQ evR evL evD opF evH evK Hc_ Hb_ QW_ QV_ QX_ Gc_ MK_ pB_ Bw_ AOp.allocs wc_ gV_ List.length_set List.length_append List.length_cons List.length_nil List.map_cons List.map_nil List.set_cons_zero List.set_cons_succ List.getElem?_cons_zero List.getElem?_cons_succ List.getElem?_nil List.nil_append List.cons_append List.append_nil if_true if_false true_and and_true true_or or_true Bool.false_eq_true not_false_eq_true not_true_eq_false Int.toNat_natCast Bool.not_true Bool.not_false cond_true cond_false Int.natCast_nonneg forall_const false_implies implies_true Nat.sub_zero Nat.zero_add Nat.add_zero List.drop_zero decide_true decide_false qT_ pF_ Ej_ nF_ Ql_ Qk_ Qj_ Rx_ Rw_ Oi_ Qr_ Qq_ Qp_ RJ_ RK_ NC_ Oo_ af_ aC_ ct_ kW_ nj_ Fc_ ie_ DB_ Mj_ Mk_ Js_ tj_ LV_ ak_ LU_ Gp_ Gr_ Gq_ Gs_ eI_ rp_ Mi_ uU_ Kq_ ba_ Kp_ Hm_ Ho_ Hl_ Hn_ or_ KB_ JP_ zz_ Jh_ aV_ Jg_ Bs_ Bu_ xK_ xO_ xJ_ xN_ tC_ tE_ rQ_ rR_ xH_ xL_ uY_ uZ_ xI_ xM_ Br_ Bt_ tD_ tF_ jN_ AI_ JL_ zx_ Ja_ bR_ IZ_ xC_ xF_ xB_ xE_ tA_ tB_ xD_ xG_ Att.map_mk Att.good_mk om_ AH_ Ju_ ez_ Jt_ BF_ BH_ BG_ BI_ xR_ xT_ xS_ xU_ Clm.map_mk Clm.good_mk oo_ AJ_ KR_ co_ KQ_ CO_ CQ_ CP_ CR_ Slg.map_mk Slg.good_mk os_ AM_ Lb_ cM_ La_ FE_ FF_ zn_ zo_ Tab.map_mk Tab.good_mk ou_ AO_ Ll_ dq_ Lk_ Dl_ Dm_ zp_ zq_ us_ ut_ ov_ AP_ JR_ IW_ KL_ tm_ KK_ yN_ yP_ CE_ CJ_ CD_ CI_ CF_ CK_ CG_ CL_ CH_ CM_ wW_ wX_ yM_ yO_ SOp.map_mk SOp.good_mk xx_ KC_ cp0 ug_ bj_ cI_ rS_ cz_ ca_ bL_ dy_ bp_ be_ bo_ AV.cell List.all_cons List.all_nil Bool.and_true Bool.true_and List.replicate_succ List.replicate_zero beq_self_eq_true ne_eq cf_ ren rdS rA_ List.flatten_cons List.flatten_nil fG_ OB_ DI_ LO_ List.take_of_length_le Nat.le_refl iR_ kh_ List.isEmpty_nil List.isEmpty_cons List.filter_cons List.filter_nil decide_eq_true_eq bne_self_eq_false Bool.bne_false Bool.bne_true Option.isNone_some Option.isNone_none Bool.and_false Bool.false_and Bool.not_eq_true Bool.not_eq_false eq_self LR_ Bool.true_eq_false forall_eq
attribute [go_sem] Ht_ Fg_ Ff_ pJ_ Option.map_some
attribute [go_sem] qV_ Ia_ uD_ Mu_ El_ Ek_ En_ Eq_ Es_ Et_ Mw_ jZ_ ek_ et_ ax_ fW_ rn fm_ gx_ ck_ fz fzL fzO iH_ cR_ es_ List.getD_cons_zero List.getD_cons_succ List.getD_nil List.take_zero List.take_succ_cons List.take_nil List.drop_succ_cons List.drop_nil List.getElem?_cons_zero List.getElem?_cons_succ List.getElem?_nil Option.map_none and_self List.mem_cons List.not_mem_nil or_false false_or or_self List.range_zero List.range_succ List.mem_append List.mem_singleton List.contains_eq_mem List.mem_range Nat.sub_self eL_
structure Hid(q:Prop):Prop where
 out:q
theorem evd{p:Prop}(h:p:=by((try simp only[go_sem,Nat.reduceAdd,Nat.reduceSub,Nat.reduceMul,Nat.reduceLT,Nat.reduceLeDiff,Nat.reduceEqDiff,reduceIte,Int.reduceToNat,Int.reduceLT,Int.reduceLE,Int.reduceEq,Int.reduceNeg,reduceCtorEq,Int.reduceBEq,Int.reduceBNe]);try rfl)):p:=h
theorem evg{p q:Prop}(hq:q)(h:Hid q→p:=by(intro hq;(try simp only[go_sem,Nat.reduceAdd,Nat.reduceSub,Nat.reduceMul,Nat.reduceLT,Nat.reduceLeDiff,Nat.reduceEqDiff,reduceIte,Int.reduceToNat,Int.reduceLT,Int.reduceLE,Int.reduceEq,Int.reduceNeg,reduceCtorEq,Int.reduceBEq,Int.reduceBNe]);exact hq.out)):p:=h ⟨hq⟩
theorem aa_{p q:Prop}(hq:q) (h:Hid q→p:=by
 (intro hq
  (first|with_reducible (first|refine ls_ ?_|refine fz_ ?_|refine jJ_ ?_|refine hc_ (by simp only[List.length_cons,List.length_nil]) ?_|refine he_ ?_|refine hd_ ?_|refine jK_ ?_)|(simp only[go_sem,Nat.reduceAdd,Nat.reduceSub,Nat.reduceMul,Nat.reduceLT,Nat.reduceLeDiff,Nat.reduceEqDiff,reduceIte,Int.reduceToNat,Int.reduceLT,Int.reduceLE,Int.reduceEq,Int.reduceNeg,reduceCtorEq,Int.reduceBEq,Int.reduceBNe])|with_reducible refine And.intro (jX_ (by decide)) ?_|(with_reducible refine And.intro ?_ ?_;first|omega|decide|(simp;done)|(simp;omega)))
  repeat(first|with_reducible (first|refine ls_ ?_|refine fz_ ?_|refine jJ_ ?_|refine hc_ (by simp only[List.length_cons,List.length_nil]) ?_|refine he_ ?_|refine hd_ ?_|refine jK_ ?_)|(simp only[go_sem,Nat.reduceAdd,Nat.reduceSub,Nat.reduceMul,Nat.reduceLT,Nat.reduceLeDiff,Nat.reduceEqDiff,reduceIte,Int.reduceToNat,Int.reduceLT,Int.reduceLE,Int.reduceEq,Int.reduceNeg,reduceCtorEq,Int.reduceBEq,Int.reduceBNe])|with_reducible refine And.intro (jX_ (by decide)) ?_|(with_reducible refine And.intro ?_ ?_;first|omega|decide|(simp;done)|(simp;omega)))
  exact hq.out)):p:=h ⟨hq⟩
section
variable{P:Program}{nt k:Nat}{fr:Fr}{σ:St}{c:Opd}{x y:ad_}{Q:Ex→Fr→St→Prop}
theorem ac_(h:Tri P nt k x Q fr σ)(hb:c.ev fr=.bool true:=by((try simp only[go_sem,Nat.reduceAdd,Nat.reduceSub,Nat.reduceMul,Nat.reduceLT,Nat.reduceLeDiff,Nat.reduceEqDiff,reduceIte,Int.reduceToNat,Int.reduceLT,Int.reduceLE,Int.reduceEq,Int.reduceNeg,reduceCtorEq,Int.reduceBEq,Int.reduceBNe]);try rfl)):Tri P nt k (.cond c x y) Q fr σ:=au_ hb (fun _=>h) (fun h=>by cases h)
theorem ab_(h:Tri P nt k y Q fr σ)(hb:c.ev fr=.bool false:=by((try simp only[go_sem,Nat.reduceAdd,Nat.reduceSub,Nat.reduceMul,Nat.reduceLT,Nat.reduceLeDiff,Nat.reduceEqDiff,reduceIte,Int.reduceToNat,Int.reduceLT,Int.reduceLE,Int.reduceEq,Int.reduceNeg,reduceCtorEq,Int.reduceBEq,Int.reduceBNe]);try rfl)):Tri P nt k (.cond c x y) Q fr σ:=au_ hb (fun h=>by cases h) (fun _=>h)
end
end Go.FH
namespace Go.FH
open Go Go.RowKit
set_option linter.unusedVariables false
set_option linter.unusedSimpArgs false
theorem evP:
 (∀n σ K,gW_ n σ K .mkm []=K (.mp n) [n] true (σ.set n (.map [])))∧
 (∀n σ K kk z ok id k,gW_ n σ K (.lkp kk z ok) [.mp id,k]=(lk_ kk k=true∧match σ[id]? with
  | some (.map es) => (match ob_ kk k es with
    |some (some j)=>K (if ok then .tup [(es.getD j []).getD 1 .dead,.bool true]else (es.getD j []).getD 1 .dead) [id] false σ
    |some none=>K (if ok then .tup [z,.bool false]else z) [id] false σ
    |none=>False)
  |_=>False))∧
 (∀n σ K kk id k v,gW_ n σ K (.upd kk) [.mp id,k,v]=(lk_ kk k=true∧match σ[id]? with
  | some (.map es) => (match ob_ kk k es with
    |some (some j)=>K (.tup []) [id] true (σ.set id (.map (es.set j [k,v])))
    |some none=>K (.tup []) [id] true (σ.set id (.map (es++[[k,v]])))
    |none=>False)
  |_=>False))∧
 (∀n σ K id,gW_ n σ K .rng [.mp id]=(match σ[id]? with
  |some (.map es)=>K (.ptr n 0) [n,id] true (σ.set n (.iter id es.length []))
  |_=>False))∧
 (∀n σ K id,gW_ n σ K .ent [.ptr id 0]=(match σ[id]? with
  | some (.iter m N seen) => (match seen.getLast?, σ[m]? with
    |some i,some (.map es)=>es.length=N∧i<N∧K (.tup (es.getD i [])) [id,m] false σ
    |_,_=>False)
  |_=>False))∧
 (∀id σ K,lm_ (.ptr id 0) σ K=(match σ[id]? with
  | some (.iter m N seen) => (match σ[m]? with
    |some (.map es)=>id≠m∧es.length=N∧(∀i,i<N→i∉seen→K (.tup (.bool true::es.getD i [])) (σ.set id (.iter m N (seen++[i]))))∧((∀i,i<N→i∈seen)→K (.tup [.bool false]) σ)
    |_=>False)
  |_=>False))∧
 (∀k n,lk_ none (.int k n)=true)∧(∀n cs,lk_ (some n) (.agg cs)=ey_ [(n,1)] cs)∧
 (∀id,AV.cellsOf (.mp id)=[.mp id])∧(∀σ zs id,fz σ zs (.mp id)=.mp id)∧(∀ρ id,ren ρ (.mp id)=.mp (ρ id)):=
 ⟨fun _ _ _=>rfl,fun _ _ _ _ _ _ _ _=>rfl,fun _ _ _ _ _ _ _=>rfl,fun _ _ _ _=>rfl,fun _ _ _ _=>rfl,fun _ _ _=>rfl,fun _ _=>rfl,fun _ _=>rfl,fun _=>rfl,fun _ _ _=>rfl,fun _ _=>rfl⟩
attribute [go_sem] evP List.getLast?_concat List.getLast?_singleton
def mns(k:IntKind)(m:List (Int×Bool)):List (List AV):=m.map fun p=>[.int k p.1,.bool p.2]
theorem GW_(k:IntKind)(m:List (Int×Bool)):(mns k m).length=m.length:=by simp[mns]
theorem EH_(k:IntKind)(x:Int):∀m:List (Int×Bool),ob_ none (.int k x) (mns k m)=some (m.findIdx? fun p=>p.1==x)
 | []=>rfl
 | (a, b) :: m => by
   have ih:=EH_ k x m;simp only[mns,List.map_cons,ob_,lk_,if_true,keq]at ih ⊢;rw[ih,List.findIdx?_cons];by_cases h:a=x
   ·subst h;simp
   ·have h':¬x=a:=fun e=>h e.symm
    simp only[beq_eq_false_iff_ne.2 h',beq_eq_false_iff_ne.2 h,Option.map_some,Bool.false_eq_true,if_false]
theorem OW_(k:IntKind)(m:List (Int×Bool))(j:Nat)(x:Int)(b:Bool):(mns k m).set j [.int k x,.bool b]=mns k (m.set j (x,b)):=by simp[mns,List.map_set]
theorem MN_(k:IntKind)(m:List (Int×Bool))(x:Int)(b:Bool):mns k m++[[.int k x,.bool b]]=mns k (m++[(x,b)]):=by simp[mns]
theorem Du_(k:IntKind)(m:List (Int×Bool)):dx_ (mns k m):=by
 rw[kd_];intro x hx;obtain⟨p,_,rfl⟩:=List.mem_map.1 hx;exact⟨trivial,trivial,trivial⟩
theorem Ky_(ρ:Nat→Nat)(k:IntKind)(m:List (Int×Bool)):cj_ ρ (mns k m)=mns k m:=(Du_ k m).ren ρ
theorem Mq_(σ:St)(zs:List Nat)(k:IntKind)(m:List (Int×Bool)):eL_ σ zs (mns k m)=mns k m:=(Du_ k m).fz σ zs
attribute [go_sem] GW_ Ky_ Mq_ EH_ OW_ MN_
end Go.FH
namespace Go.FH
set_option linter.unusedVariables false
set_option linter.unusedSimpArgs false
open Go Go.RowKit
section
variable{P:Program}{C:Cx}{nt k:Nat}{fr:Fr}{σ:St}{loc:Nat→Option Loc}{a:Act}{w:World}
theorem SR.own(h:SR C nt k fr σ loc a w)(e:Nat):SR C nt k fr (σ++[.vec e []]) (eU_ loc σ.length ⟨false,0,0,0⟩) a w:=by
 have hg:loc σ.length=none:=h.rel.beyond _ (Nat.le_refl _);have hp:=h.pad 1;obtain⟨k1,k2⟩:=hp.rel.add (n:=σ.length) (by simp) hg (.vec e []) ⟨false,0,0,0⟩ w (Ev.refl _ _) (σ++List.replicate 1 .gone) (fun _ _ h _=>h) rfl (fun id o' L' _ _ _ _=>⟨(fun h=>by cases h),rfl⟩) (fun h=>by cases h) (fun E _ _=>.inl ⟨rfl,rfl⟩);have hs:(σ++List.replicate 1 br_.gone).set σ.length (.vec e [])=σ++[.vec e []]:=nN_ σ _;rw[hs]at k1 k2;have hle:=gS_ (X:=C.X) hp.rel (dK_ hg _) (Ev.refl _ _) k2;refine⟨k1,fun t=>Rl.mono hle _ _ (hp.frm t),h.size,h.dfr,h.ev,fun b hb=>(k2 b hb).elim (hp.old b) fun h1=>.inr (Nat.le_trans (h.ev.size) h1),fun id hid=>?_,by simp;have:=h.klen;omega⟩;rw[de_ _ _ _ (by have:=h.klen;omega)];exact h.pre id hid
theorem Ne_{E:Env}{e e0 id:Nat}{v:Value}(hl:E.loc id=some ⟨false,0,0,0⟩)(h:Rl E (.sl e0 true []) v):Rl E (.hs e id 0 0) v:=by
 obtain⟨ad,n,cap,h1,h2,h3,h4,h5,h6,h7⟩:=h;have hn:n=0:=by simpa using h2
 have hc:cap=n:=h5 rfl;subst hn;subst hc;exact⟨ad,0,_,h1,Nat.le_refl _,h4,fun _=>rfl,hl,.inl rfl⟩
theorem fh_{c:ad_}{Q:Ex→Fr→St→Prop}(t e:Nat){e0:Nat}(hq:Tri P nt k c Q (fr.put t (.hs e σ.length 0 0)) (σ++[.vec e []]))(h0:fr.get t=.sl e0 true []:=by first|rfl|(simp only[go_sem];rfl)):Tri P nt k c Q fr σ:=by
 intro code hc C loc a w hs;have h1:=hs.own e;refine hq code hc C _ a w (h1.putSame t _ (Ne_ (e0:=e0) (cN_ _ _ _) ?_));have:=h1.frm t;rwa [h0]at this
theorem HQ_{E:Env}{c:AV}:∀ {cs:List AV} {vs:List Value} (i:Nat),RlC E cs vs→c.cell=true→(∀v,Rl E (cs.getD i .dead) v→Rl E c v)→RlC E (cs.set i c) vs
 | [],_,_,h,_,_=>by simpa using h
 | x :: cs, _, 0, h, hc, hi => by
   obtain⟨u,us,rfl,h2,h3,h4⟩:=h;exact⟨u,us,rfl,hc,hi u (by simpa using h3),h4⟩
 | x :: cs, _, i + 1, h, hc, hi => by
   obtain⟨u,us,rfl,h2,h3,h4⟩:=h;exact⟨u,us,rfl,h2,h3,HQ_ i h4 hc (fun v hv=>hi v (by simpa using hv))⟩
theorem nt_{c:ad_}{Q:Ex→Fr→St→Prop}(id i e:Nat){e0:Nat}{cs:List AV}(hq:Tri P nt k c Q fr (σ.set id (.var (cs.set i (.hs e σ.length 0 0)))++[.vec e []]))(ho:σ[id]?=some (.var cs):=by first|rfl|(simp only[go_sem];rfl))(h0:cs.getD i .dead=.sl e0 true []:=by first|rfl|(simp only[go_sem];rfl)):Tri P nt k c Q fr σ:=by
 intro code hc C loc a w hs;have h1:=hs.own e;have hid:id<σ.length:=(List.getElem?_eq_some_iff.1 ho).1;have ho2:(σ++[br_.vec e []])[id]?=some (.var cs):=by rw[List.getElem?_append_left hid];exact ho
 have hset:(σ++[br_.vec e []]).set id (.var (cs.set i (.hs e σ.length 0 0)))=σ.set id (.var (cs.set i (.hs e σ.length 0 0)))++[.vec e []]:=List.set_append_left _ _ hid;refine hq code hc C (eU_ loc σ.length ⟨false,0,0,0⟩) a w ?_;rw[←hset]
 have hl:∀b,aE_ ((σ++[br_.vec e []]).set id (.var (cs.set i (.hs e σ.length 0 0)))) (eU_ loc σ.length ⟨false,0,0,0⟩) b↔aE_ (σ++[br_.vec e []]) (eU_ loc σ.length ⟨false,0,0,0⟩) b:=by
  intro b;constructor
  ·rintro⟨j,oj,L,g1,g2,g3,g4⟩;rcases dN_ _ id j _ g1 with⟨rfl,rfl,_⟩|⟨g5,g6⟩
   ·exact⟨_,_,L,ho2,rfl,g3,g4⟩
   ·exact⟨j,oj,L,g6,g2,g3,g4⟩
  ·rintro⟨j,oj,L,g1,g2,g3,g4⟩
   by_cases hj:j=id
   ·subst hj;refine⟨j,.var (cs.set i (.hs e σ.length 0 0)),L,?_,rfl,g3,g4⟩;rw[List.getElem?_set_self (List.getElem?_eq_some_iff.1 g1).1]
   ·exact⟨j,oj,L,by rw[List.getElem?_set_ne (Ne.symm hj)];exact g1,g2,g3,g4⟩
 have hF:eu_ C.X ((σ++[br_.vec e []]).set id (.var (cs.set i (.hs e σ.length 0 0)))) (eU_ loc σ.length ⟨false,0,0,0⟩)=eu_ C.X (σ++[br_.vec e []]) (eU_ loc σ.length ⟨false,0,0,0⟩):=by
  funext b;unfold eu_;rw[hl b]
 have hget:∀ (j:Nat) (o:br_),((σ++[br_.vec e []]).set id (.var (cs.set i (.hs e σ.length 0 0))))[j]?=some o→o.live=true→∃o',(σ++[br_.vec e []])[j]?=some o'∧o'.live=true:=by
  intro j o g1 g2;rcases dN_ _ id j _ g1 with⟨rfl,rfl,_⟩|⟨g5,g6⟩
  ·exact⟨_,ho2,rfl⟩
  ·exact⟨o,g6,g2⟩
 refine⟨⟨fun j o g1 g2=>?_,fun i' j x y La Lb hij g1 g2 g3 g4=>?_,fun b hb=>?_,fun j hj=>h1.rel.beyond j (by simpa using hj)⟩,fun t=>?_,h1.size,h1.dfr,h1.ev,fun b hb=>h1.old b ((hl b).1 hb),h1.pre,by simp;have:=hs.klen;omega⟩
 ·show ∃L,_∧jM_ ⟨_,eu_ C.X _ _,w⟩ L o
  rw[hF];rcases dN_ _ id j _ g1 with⟨rfl,rfl,_⟩|⟨g5,g6⟩
  ·obtain⟨L,m1,m2,m3,vs,t,m4,m5⟩:=h1.rel.obj _ _ ho2 rfl;exact⟨L,m1,m2,m3,vs,t,m4,HQ_ i m5 rfl fun v hv=>Ne_ (e0:=e0) (cN_ _ _ _) (by rwa [h0]at hv)⟩
  ·exact h1.rel.obj j o g6 g2
 ·obtain⟨x',k1,k2⟩:=hget i' x g1 g3;obtain⟨y',k3,k4⟩:=hget j y g2 g4;exact h1.rel.apart i' j x' y' La Lb hij k1 k3 k2 k4
 ·rw[hl b];exact h1.rel.out b hb
 ·show Rl ⟨_,eu_ C.X _ _,w⟩ _ _
  rw[hF];exact h1.frm t
theorem PC.weak{f:FuncId}{args:List AV}{r r':AV}(h:PC P f args r)(hw:Wk r r')(hr:Pu r'):PC P f args r':=
 ⟨⟨h.call.1,h.call.2.1,fun X loc w vs hrel hv=>(h.call.2.2 X loc w vs hrel hv).mono fun e w' ⟨v,loc',h1,h2,h3⟩=>⟨v,loc',h1,⟨h2.locs,h2.rel,hw _ _ h2.val,h2.ev,h2.old⟩,h3⟩⟩,h.pa,hr⟩
def hs_(us:List (Nat×AV))(vs:List AV):List AV:=us.foldl (fun l p=>l.set p.1 p.2) vs
theorem aG_{ι:Type}{x:ad_}{Q:Ex→Fr→St→Prop}{nv:Nat}{vs:List AV}{ts:List (Nat×AV)}(us:ι→List (Nat×AV))(S:ι→St)(μ:ι→Nat)(ok:ι→Prop)(x0:ι)(h0:ok x0)(hgc:GC k ⟨nv,vs,ts⟩ σ ⟨nv,hs_ (us x0) vs,[]⟩ (S x0))
 (round:∀i,ok i→Tri P nt k x (fg_ (fun fr σ=>∃j,ok j∧μ j<μ i∧GC k fr σ ⟨nv,hs_ (us j) vs,[]⟩ (S j)) Q) ⟨nv,hs_ (us i) vs,[]⟩ (S i)):Tri P nt k (.loop x) Q ⟨nv,vs,ts⟩ σ:=
 bF_ (fun i=>⟨nv,hs_ (us i) vs,[]⟩) S μ ok x0 h0 hgc round
theorem aA_(vs:List AV):hs_ [] vs=vs:=rfl
theorem aF_(p:Nat×AV)(us:List (Nat×AV))(vs:List AV):hs_ (p::us) vs=hs_ us (vs.set p.1 p.2):=rfl
attribute [go_sem] aA_ aF_
theorem aZ_{c:Opd}{x y:ad_}{Q:Ex→Fr→St→Prop}{t:Bool}(h1:t=true→Tri P nt k x Q fr σ)(h2:t=false→Tri P nt k y Q fr σ)(hb:c.ev fr=.bool t:=by first|rfl|(simp only[go_sem];rfl)):Tri P nt k (.cond c x y) Q fr σ:=au_ hb h1 h2
end
theorem ya_{a b c:List AV}(ha:a.length=33)(hb:b.length=33):cut (a++(b++c)) 0 66=a++b:=by
 unfold cut;rw[List.drop_zero,←List.append_assoc,show 66=(a++b).length by simp[ha,hb],List.take_left]
theorem yR_{a b c x y:List AV}(ha:a.length+b.length=x.length+y.length):spl (a++(b++c)) 0 (x++y)=x++(y++c):=by
 unfold spl;simp only[List.take_zero,List.nil_append,Nat.zero_add,List.append_assoc];rw[←List.append_assoc a b c,List.drop_left' (by simp;omega)]
structure Lim where
 node:Int
 orph:Int
 early:Int
 table:Int
 retry:Int
 backoff:Int
 deriving Inhabited,DecidableEq
def cG_(x:Lim):List AV:=.int .i64 x.node::(.int .i64 x.orph::(.int .i64 x.early::(.int .i64 x.table::(.int .i64 x.retry::[.int .u64 x.backoff]))))
@[simp] theorem bD_(x:Lim):(cG_ x).length=6:=by simp only[cG_,List.length_cons,List.length_append,List.length_nil]
theorem Ke_(node:Int)(orph:Int)(early:Int)(table:Int)(retry:Int)(backoff:Int):.int .i64 node::(.int .i64 orph::(.int .i64 early::(.int .i64 table::(.int .i64 retry::[.int .u64 backoff]))))=cG_ ⟨node,orph,early,table,retry,backoff⟩:=rfl
theorem Kf_(x:Lim):cut (cG_ x) 0 6=cG_ x:=cu_ (bD_ x)
theorem yE_(x:Lim):cut (cG_ x) 0 1=[.int .i64 x.node]:=by unfold cG_;all_goals rfl
theorem yG_(x:Lim)(v:Int):spl (cG_ x) 0 [.int .i64 v]=cG_ { x with node:=v }:=by unfold cG_;all_goals rfl
theorem yF_(x:Lim):cut (cG_ x) 1 1=[.int .i64 x.orph]:=by unfold cG_;rw[cS1];simp only[Nat.reduceSub];all_goals rfl
theorem yH_(x:Lim)(v:Int):spl (cG_ x) 1 [.int .i64 v]=cG_ { x with orph:=v }:=by unfold cG_;rw[pS1];simp only[Nat.reduceSub];all_goals rfl
theorem we_(x:Lim):cut (cG_ x) 2 1=[.int .i64 x.early]:=by unfold cG_;rw[cS1,cS1];simp only[Nat.reduceSub];all_goals rfl
theorem wh_(x:Lim)(v:Int):spl (cG_ x) 2 [.int .i64 v]=cG_ { x with early:=v }:=by unfold cG_;rw[pS1,pS1];simp only[Nat.reduceSub];all_goals rfl
theorem wg_(x:Lim):cut (cG_ x) 3 1=[.int .i64 x.table]:=by unfold cG_;rw[cS1,cS1,cS1];simp only[Nat.reduceSub];all_goals rfl
theorem wj_(x:Lim)(v:Int):spl (cG_ x) 3 [.int .i64 v]=cG_ { x with table:=v }:=by unfold cG_;rw[pS1,pS1,pS1];simp only[Nat.reduceSub];all_goals rfl
theorem wf_(x:Lim):cut (cG_ x) 4 1=[.int .i64 x.retry]:=by unfold cG_;rw[cS1,cS1];rw[cS1,cS1];simp only[Nat.reduceSub];all_goals rfl
theorem wi_(x:Lim)(v:Int):spl (cG_ x) 4 [.int .i64 v]=cG_ { x with retry:=v }:=by unfold cG_;rw[pS1,pS1];rw[pS1,pS1];simp only[Nat.reduceSub];all_goals rfl
theorem st_(x:Lim):cut (cG_ x) 5 1=[.int .u64 x.backoff]:=by unfold cG_;rw[cS1,cS1];rw[cS1,cS1,cS1];simp only[Nat.reduceSub];all_goals rfl
theorem su_(x:Lim)(v:Int):spl (cG_ x) 5 [.int .u64 v]=cG_ { x with backoff:=v }:=by unfold cG_;rw[pS1,pS1];rw[pS1,pS1,pS1];simp only[Nat.reduceSub];all_goals rfl
theorem oq_(x:Lim):aU_ (cG_ x)=true:=by simp[cG_,be_,bo_,bp_,AV.cell]
theorem gF_(x:Lim):PuL (cG_ x):=by simp[cG_,cH_,PuL,Pu]
theorem sE_(ρ:Nat→Nat)(x:Lim):cf_ ρ (cG_ x)=cG_ x:=(gF_ x).ren ρ
theorem Ep_(σ:St)(zs:List Nat)(x:Lim):fzL σ zs (cG_ x)=cG_ x:=(gF_ x).fz σ zs
theorem GL_(x:Lim):(cG_ x).map cq_=cv_ [(6,1)]:=by simp only[cG_,List.map_cons,List.map_append,List.map_nil,cq_];decide +kernel
theorem JN_(x:Lim):ey_ [(6,1)] (cG_ x)=true:=dV_ (GL_ x)
theorem IT_(x y:Lim):dI_ (cG_ x) (cG_ y)=some (decide (x=y)):=by cases x;cases y;simp[cG_,eW_,dI_,pc_,af_,aC_,Bool.beq_eq_decide_eq,hN_,Bool.and_assoc,Bool.decide_and]
def QN_:Lim:=⟨0,0,0,0,0,0⟩
structure Cfg where
 lim:Lim
 spe:Int
 boost:Int
 ttd:Wd
 gen:Rt
 bals:AV
 deriving Inhabited
def bm_(x:Cfg):List AV:=cG_ x.lim++(.int .u64 x.spe::(.int .u64 x.boost::(wdc x.ttd++(rtc x.gen++[x.bals]))))
@[simp] theorem aD_(x:Cfg):(bm_ x).length=45:=by simp only[bm_,List.length_cons,List.length_append,List.length_nil,bD_,af_,aC_]
theorem Jn_(lim:Lim)(spe:Int)(boost:Int)(ttd:Wd)(gen:Rt)(bals:AV):cG_ lim++(.int .u64 spe::(.int .u64 boost::(wdc ttd++(rtc gen++[bals]))))=bm_ ⟨lim,spe,boost,ttd,gen,bals⟩:=rfl
theorem Jo_(x:Cfg):cut (bm_ x) 0 45=bm_ x:=cu_ (aD_ x)
theorem By_(x:Cfg)(o n:Nat)(h1:0≤o)(h2:o+n≤6):cut (bm_ x) o n=cut (cG_ x.lim) (o-0) n:=by unfold bm_;rw[cL1 (bD_ _)];all_goals rfl
theorem BC_(x:Cfg)(o:Nat)(vs:List AV)(h1:0≤o)(h2:o+vs.length≤6):spl (bm_ x) o vs=spl (cG_ x.lim) (o-0) vs++(.int .u64 x.spe::(.int .u64 x.boost::(wdc x.ttd++(rtc x.gen++[x.bals])))):=by unfold bm_;rw[pL1 (bD_ _)];all_goals rfl
theorem Bz_(x:Cfg):cut (bm_ x) 6 1=[.int .u64 x.spe]:=by unfold bm_;rw[cR1 (bD_ _)];simp only[Nat.reduceSub];all_goals rfl
theorem BD_(x:Cfg)(v:Int):spl (bm_ x) 6 [.int .u64 v]=bm_ { x with spe:=v }:=by unfold bm_;rw[pR1 (bD_ _)];simp only[Nat.reduceSub];all_goals rfl
theorem vi_(x:Cfg):cut (bm_ x) 7 1=[.int .u64 x.boost]:=by unfold bm_;rw[cR1 (bD_ _),cS1];simp only[Nat.reduceSub];all_goals rfl
theorem vj_(x:Cfg)(v:Int):spl (bm_ x) 7 [.int .u64 v]=bm_ { x with boost:=v }:=by unfold bm_;rw[pR1 (bD_ _),pS1];simp only[Nat.reduceSub];all_goals rfl
theorem BA_(x:Cfg)(o n:Nat)(h1:8≤o)(h2:o+n≤12):cut (bm_ x) o n=cut (wdc x.ttd) (o-8) n:=by unfold bm_;rw[cR1 (bD_ _),cS1];rw[cS1,cL1 (aC_ _)];rw[show o-6-1-1=o-8 by omega]
theorem BE_(x:Cfg)(o:Nat)(vs:List AV)(h1:8≤o)(h2:o+vs.length≤12):spl (bm_ x) o vs=cG_ x.lim++(.int .u64 x.spe::(.int .u64 x.boost::(spl (wdc x.ttd) (o-8) vs++(rtc x.gen++[x.bals])))):=by unfold bm_;rw[pR1 (bD_ _),pS1];rw[pS1,pL1 (aC_ _)];rw[show o-6-1-1=o-8 by omega]
theorem Bx_(x:Cfg)(o n:Nat)(h1:12≤o)(h2:o+n≤44):cut (bm_ x) o n=cut (rtc x.gen) (o-12) n:=by unfold bm_;rw[cR1 (bD_ _),cS1];rw[cS1,cR1 (aC_ _),cL1 (af_ _)];rw[show o-6-1-1-4=o-12 by omega]
theorem BB_(x:Cfg)(o:Nat)(vs:List AV)(h1:12≤o)(h2:o+vs.length≤44):spl (bm_ x) o vs=cG_ x.lim++(.int .u64 x.spe::(.int .u64 x.boost::(wdc x.ttd++(spl (rtc x.gen) (o-12) vs++[x.bals])))):=by unfold bm_;rw[pR1 (bD_ _),pS1];rw[pS1,pR1 (aC_ _),pL1 (af_ _)];rw[show o-6-1-1-4=o-12 by omega]
theorem xP_(x:Cfg):cut (bm_ x) 44 1=[x.bals]:=by unfold bm_;rw[cR1 (bD_ _),cS1];rw[cS1,cR1 (aC_ _),cR1 (af_ _)];simp only[Nat.reduceSub];all_goals rfl
theorem xQ_(x:Cfg)(v:AV):spl (bm_ x) 44 [v]=bm_ { x with bals:=v }:=by unfold bm_;rw[pR1 (bD_ _),pS1];rw[pS1,pR1 (aC_ _),pR1 (af_ _)];simp only[Nat.reduceSub];all_goals rfl
def Cfg.map(g:AV→AV)(x:Cfg):Cfg:={ x with bals:=g x.bals }
theorem Cfg.map_mk(g:AV→AV)(lim:Lim)(spe:Int)(boost:Int)(ttd:Wd)(gen:Rt)(bals:AV):Cfg.map g ⟨lim,spe,boost,ttd,gen,bals⟩=⟨lim,spe,boost,ttd,gen,g bals⟩:=rfl
def Cfg.good(x:Cfg):Bool:=x.bals.cell
theorem Cfg.good_mk(lim:Lim)(spe:Int)(boost:Int)(ttd:Wd)(gen:Rt)(bals:AV):Cfg.good ⟨lim,spe,boost,ttd,gen,bals⟩=(bals.cell):=rfl
def Cfg.Pure(x:Cfg):Prop:=Pu x.bals
theorem on_(x:Cfg):aU_ (bm_ x)=x.good:=by simp[bm_,Cfg.good,Bool.and_assoc,be_,bo_,bp_,AV.cell,oq_,ct_,kW_]
theorem Dv_(x:Cfg):PuL (bm_ x)↔x.Pure:=by simp[bm_,Cfg.Pure,cH_,PuL,Pu,gF_,ci_,eH_]
theorem sC_(ρ:Nat→Nat)(x:Cfg):cf_ ρ (bm_ x)=bm_ (x.map (ren ρ)):=by simp only[bm_,Cfg.map,gZ_,cf_,ren,sE_,nj_,Fc_]
theorem Em_(σ:St)(zs:List Nat)(x:Cfg):fzL σ zs (bm_ x)=bm_ (x.map (fz σ zs)):=by simp only[bm_,Cfg.map,hM_,fzL,fz,Ep_,qV_,Ia_]
def hl_:Cfg:=⟨QN_,0,0,wd0,rt0,.sl 0 true []⟩
structure Vot where
 has:Bool
 ep:Int
 root:Rt
 deriving Inhabited,DecidableEq
def cc_(x:Vot):List AV:=.bool x.has::(.int .u64 x.ep::(rtc x.root))
@[simp] theorem na_(x:Vot):(cc_ x).length=34:=by simp only[cc_,List.length_cons,List.length_append,List.length_nil,af_]
theorem Lo_(has:Bool)(ep:Int)(root:Rt):.bool has::(.int .u64 ep::(rtc root))=cc_ ⟨has,ep,root⟩:=rfl
theorem Lp_(x:Vot):cut (cc_ x) 0 34=cc_ x:=cu_ (na_ x)
theorem Dn_(x:Vot):cut (cc_ x) 0 1=[.bool x.has]:=by unfold cc_;all_goals rfl
theorem Do_(x:Vot)(v:Bool):spl (cc_ x) 0 [.bool v]=cc_ { x with has:=v }:=by unfold cc_;all_goals rfl
theorem FP_(x:Vot):cut (cc_ x) 1 1=[.int .u64 x.ep]:=by unfold cc_;rw[cS1];simp only[Nat.reduceSub];all_goals rfl
theorem FQ_(x:Vot)(v:Int):spl (cc_ x) 1 [.int .u64 v]=cc_ { x with ep:=v }:=by unfold cc_;rw[pS1];simp only[Nat.reduceSub];all_goals rfl
theorem zs_(x:Vot)(o n:Nat)(h1:2≤o)(h2:o+n≤34):cut (cc_ x) o n=cut (rtc x.root) (o-2) n:=by unfold cc_;rw[cS1,cS1];rw[show o-1-1=o-2 by omega]
theorem zt_(x:Vot)(o:Nat)(vs:List AV)(h1:2≤o)(h2:o+vs.length≤34):spl (cc_ x) o vs=.bool x.has::(.int .u64 x.ep::(spl (rtc x.root) (o-2) vs)):=by unfold cc_;rw[pS1,pS1];rw[show o-1-1=o-2 by omega]
theorem xz_(x:Vot):aU_ (cc_ x)=true:=by simp[cc_,be_,bo_,bp_,AV.cell,ct_]
theorem id_(x:Vot):PuL (cc_ x):=by simp[cc_,cH_,PuL,Pu,ci_]
theorem AQ_(ρ:Nat→Nat)(x:Vot):cf_ ρ (cc_ x)=cc_ x:=(id_ x).ren ρ
theorem My_(σ:St)(zs:List Nat)(x:Vot):fzL σ zs (cc_ x)=cc_ x:=(id_ x).fz σ zs
theorem GP_(x:Vot):(cc_ x).map cq_=cv_ [(1,0),(33,1)]:=by simp only[cc_,List.map_cons,List.map_append,List.map_nil,cq_,gv_];decide +kernel
theorem JS_(x:Vot):ey_ [(1,0),(33,1)] (cc_ x)=true:=dV_ (GP_ x)
theorem IX_(x y:Vot):dI_ (cc_ x) (cc_ y)=some (decide (x=y)):=by cases x;cases y;simp[cc_,eW_,dI_,pc_,af_,aC_,ie_,Bool.beq_eq_decide_eq,hN_,Bool.and_assoc,Bool.decide_and]
def uu_:Vot:=⟨false,0,rt0⟩
structure Nod where
 blk:Blk
 up:Int
 status:Int
 deriving Inhabited,DecidableEq
def cr_(x:Nod):List AV:=aw_ x.blk++(.int .i64 x.up::[.int .i64 x.status])
@[simp] theorem mX_(x:Nod):(cr_ x).length=240:=by simp only[cr_,List.length_cons,List.length_append,List.length_nil,aV_]
theorem Ki_(blk:Blk)(up:Int)(status:Int):aw_ blk++(.int .i64 up::[.int .i64 status])=cr_ ⟨blk,up,status⟩:=rfl
theorem Kj_(x:Nod):cut (cr_ x) 0 240=cr_ x:=cu_ (mX_ x)
theorem Cq_(x:Nod)(o n:Nat)(h1:0≤o)(h2:o+n≤238):cut (cr_ x) o n=cut (aw_ x.blk) (o-0) n:=by unfold cr_;rw[cL1 (aV_ _)];all_goals rfl
theorem Cr_(x:Nod)(o:Nat)(vs:List AV)(h1:0≤o)(h2:o+vs.length≤238):spl (cr_ x) o vs=spl (aw_ x.blk) (o-0) vs++(.int .i64 x.up::[.int .i64 x.status]):=by unfold cr_;rw[pL1 (aV_ _)];all_goals rfl
theorem EI_(x:Nod):cut (cr_ x) 238 1=[.int .i64 x.up]:=by unfold cr_;rw[cR1 (aV_ _)];simp only[Nat.reduceSub];all_goals rfl
theorem EJ_(x:Nod)(v:Int):spl (cr_ x) 238 [.int .i64 v]=cr_ { x with up:=v }:=by unfold cr_;rw[pR1 (aV_ _)];simp only[Nat.reduceSub];all_goals rfl
theorem ue_(x:Nod):cut (cr_ x) 239 1=[.int .i64 x.status]:=by unfold cr_;rw[cR1 (aV_ _),cS1];simp only[Nat.reduceSub];all_goals rfl
theorem uf_(x:Nod)(v:Int):spl (cr_ x) 239 [.int .i64 v]=cr_ { x with status:=v }:=by unfold cr_;rw[pR1 (aV_ _),pS1];simp only[Nat.reduceSub];all_goals rfl
theorem xv_(x:Nod):aU_ (cr_ x)=true:=by simp[cr_,be_,bo_,bp_,AV.cell,jN_]
theorem ic_(x:Nod):PuL (cr_ x):=by simp[cr_,cH_,PuL,Pu,dA_]
theorem AK_(ρ:Nat→Nat)(x:Nod):cf_ ρ (cr_ x)=cr_ x:=(ic_ x).ren ρ
theorem Mt_(σ:St)(zs:List Nat)(x:Nod):fzL σ zs (cr_ x)=cr_ x:=(ic_ x).fz σ zs
theorem GM_(x:Nod):(cr_ x).map cq_=cv_ [(237,1),(1,0),(2,1)]:=by simp only[cr_,List.map_cons,List.map_append,List.map_nil,cq_,vY_];decide +kernel
theorem JO_(x:Nod):ey_ [(237,1),(1,0),(2,1)] (cr_ x)=true:=dV_ (GM_ x)
theorem IU_(x y:Nod):dI_ (cr_ x) (cr_ y)=some (decide (x=y)):=by cases x;cases y;simp[cr_,eW_,dI_,pc_,af_,aC_,zx_,Bool.beq_eq_decide_eq,hN_,Bool.and_assoc,Bool.decide_and]
def sv_:Nod:=⟨bj_,0,0⟩
structure Sto where
 cfg:Cfg
 latest:AV
 eqv:AV
 j:Cp
 f:Cp
 early:AV
 orph:AV
 nodes:AV
 now:Int
 boost:Rt
 tabs:AV
 deriving Inhabited
def ao_(x:Sto):List AV:=bm_ x.cfg++(x.latest::(x.eqv::(cpC x.j++(cpC x.f++(x.early::(x.orph::(x.nodes::(.int .u64 x.now::(rtc x.boost++[x.tabs])))))))))
@[simp] theorem bi_(x:Sto):(ao_ x).length=150:=by simp only[ao_,List.length_cons,List.length_append,List.length_nil,aD_,ak_,af_]
theorem KY_(cfg:Cfg)(latest:AV)(eqv:AV)(j:Cp)(f:Cp)(early:AV)(orph:AV)(nodes:AV)(now:Int)(boost:Rt)(tabs:AV):bm_ cfg++(latest::(eqv::(cpC j++(cpC f++(early::(orph::(nodes::(.int .u64 now::(rtc boost++[tabs])))))))))=ao_ ⟨cfg,latest,eqv,j,f,early,orph,nodes,now,boost,tabs⟩:=rfl
theorem KZ_(x:Sto):cut (ao_ x) 0 150=ao_ x:=cu_ (bi_ x)
theorem Db_(x:Sto)(o n:Nat)(h1:0≤o)(h2:o+n≤45):cut (ao_ x) o n=cut (bm_ x.cfg) (o-0) n:=by unfold ao_;rw[cL1 (aD_ _)];all_goals rfl
theorem Df_(x:Sto)(o:Nat)(vs:List AV)(h1:0≤o)(h2:o+vs.length≤45):spl (ao_ x) o vs=spl (bm_ x.cfg) (o-0) vs++(x.latest::(x.eqv::(cpC x.j++(cpC x.f++(x.early::(x.orph::(x.nodes::(.int .u64 x.now::(rtc x.boost++[x.tabs]))))))))):=by unfold ao_;rw[pL1 (aD_ _)];all_goals rfl
theorem uq_(x:Sto):cut (ao_ x) 45 1=[x.latest]:=by unfold ao_;rw[cR1 (aD_ _)];simp only[Nat.reduceSub];all_goals rfl
theorem ur_(x:Sto)(v:AV):spl (ao_ x) 45 [v]=ao_ { x with latest:=v }:=by unfold ao_;rw[pR1 (aD_ _)];simp only[Nat.reduceSub];all_goals rfl
theorem Dc_(x:Sto):cut (ao_ x) 46 1=[x.eqv]:=by unfold ao_;rw[cR1 (aD_ _),cS1];simp only[Nat.reduceSub];all_goals rfl
theorem Dg_(x:Sto)(v:AV):spl (ao_ x) 46 [v]=ao_ { x with eqv:=v }:=by unfold ao_;rw[pR1 (aD_ _),pS1];simp only[Nat.reduceSub];all_goals rfl
theorem HG_(x:Sto)(o n:Nat)(h1:47≤o)(h2:o+n≤80):cut (ao_ x) o n=cut (cpC x.j) (o-47) n:=by unfold ao_;rw[cR1 (aD_ _),cS1];rw[cS1,cL1 (ak_ _)];rw[show o-45-1-1=o-47 by omega]
theorem HI_(x:Sto)(o:Nat)(vs:List AV)(h1:47≤o)(h2:o+vs.length≤80):spl (ao_ x) o vs=bm_ x.cfg++(x.latest::(x.eqv::(spl (cpC x.j) (o-47) vs++(cpC x.f++(x.early::(x.orph::(x.nodes::(.int .u64 x.now::(rtc x.boost++[x.tabs]))))))))):=by unfold ao_;rw[pR1 (aD_ _),pS1];rw[pS1,pL1 (ak_ _)];rw[show o-45-1-1=o-47 by omega]
theorem HF_(x:Sto)(o n:Nat)(h1:80≤o)(h2:o+n≤113):cut (ao_ x) o n=cut (cpC x.f) (o-80) n:=by unfold ao_;rw[cR1 (aD_ _),cS1];rw[cS1,cR1 (ak_ _),cL1 (ak_ _)];rw[show o-45-1-1-33=o-80 by omega]
theorem HH_(x:Sto)(o:Nat)(vs:List AV)(h1:80≤o)(h2:o+vs.length≤113):spl (ao_ x) o vs=bm_ x.cfg++(x.latest::(x.eqv::(cpC x.j++(spl (cpC x.f) (o-80) vs++(x.early::(x.orph::(x.nodes::(.int .u64 x.now::(rtc x.boost++[x.tabs]))))))))):=by unfold ao_;rw[pR1 (aD_ _),pS1];rw[pS1,pR1 (ak_ _),pL1 (ak_ _)];rw[show o-45-1-1-33=o-80 by omega]
theorem xg_(x:Sto):cut (ao_ x) 113 1=[x.early]:=by unfold ao_;rw[cR1 (aD_ _),cS1];rw[cS1,cR1 (ak_ _),cR1 (ak_ _)];simp only[Nat.reduceSub];all_goals rfl
theorem xj_(x:Sto)(v:AV):spl (ao_ x) 113 [v]=ao_ { x with early:=v }:=by unfold ao_;rw[pR1 (aD_ _),pS1];rw[pS1,pR1 (ak_ _),pR1 (ak_ _)];simp only[Nat.reduceSub];all_goals rfl
theorem zg_(x:Sto):cut (ao_ x) 114 1=[x.orph]:=by unfold ao_;rw[cR1 (aD_ _),cS1];rw[cS1,cR1 (ak_ _)];rw[cR1 (ak_ _),cS1];simp only[Nat.reduceSub];all_goals rfl
theorem zi_(x:Sto)(v:AV):spl (ao_ x) 114 [v]=ao_ { x with orph:=v }:=by unfold ao_;rw[pR1 (aD_ _),pS1];rw[pS1,pR1 (ak_ _)];rw[pR1 (ak_ _),pS1];simp only[Nat.reduceSub];all_goals rfl
theorem xh_(x:Sto):cut (ao_ x) 115 1=[x.nodes]:=by unfold ao_;rw[cR1 (aD_ _),cS1];rw[cS1,cR1 (ak_ _)];rw[cR1 (ak_ _),cS1,cS1];simp only[Nat.reduceSub];all_goals rfl
theorem xk_(x:Sto)(v:AV):spl (ao_ x) 115 [v]=ao_ { x with nodes:=v }:=by unfold ao_;rw[pR1 (aD_ _),pS1];rw[pS1,pR1 (ak_ _)];rw[pR1 (ak_ _),pS1,pS1];simp only[Nat.reduceSub];all_goals rfl
theorem De_(x:Sto):cut (ao_ x) 116 1=[.int .u64 x.now]:=by unfold ao_;rw[cR1 (aD_ _),cS1];rw[cS1,cR1 (ak_ _)];rw[cR1 (ak_ _),cS1];rw[cS1,cS1];simp only[Nat.reduceSub];all_goals rfl
theorem Dh_(x:Sto)(v:Int):spl (ao_ x) 116 [.int .u64 v]=ao_ { x with now:=v }:=by unfold ao_;rw[pR1 (aD_ _),pS1];rw[pS1,pR1 (ak_ _)];rw[pR1 (ak_ _),pS1];rw[pS1,pS1];simp only[Nat.reduceSub];all_goals rfl
theorem xf_(x:Sto)(o n:Nat)(h1:117≤o)(h2:o+n≤149):cut (ao_ x) o n=cut (rtc x.boost) (o-117) n:=by unfold ao_;rw[cR1 (aD_ _),cS1];rw[cS1,cR1 (ak_ _)];rw[cR1 (ak_ _),cS1];rw[cS1,cS1];rw[cS1,cL1 (af_ _)];rw[show o-45-1-1-33-33-1-1-1-1=o-117 by omega]
theorem xi_(x:Sto)(o:Nat)(vs:List AV)(h1:117≤o)(h2:o+vs.length≤149):spl (ao_ x) o vs=bm_ x.cfg++(x.latest::(x.eqv::(cpC x.j++(cpC x.f++(x.early::(x.orph::(x.nodes::(.int .u64 x.now::(spl (rtc x.boost) (o-117) vs++[x.tabs]))))))))):=by unfold ao_;rw[pR1 (aD_ _),pS1];rw[pS1,pR1 (ak_ _)];rw[pR1 (ak_ _),pS1];rw[pS1,pS1];rw[pS1,pL1 (af_ _)];rw[show o-45-1-1-33-33-1-1-1-1=o-117 by omega]
theorem zh_(x:Sto):cut (ao_ x) 149 1=[x.tabs]:=by unfold ao_;rw[cR1 (aD_ _),cS1];rw[cS1,cR1 (ak_ _)];rw[cR1 (ak_ _),cS1];rw[cS1,cS1];rw[cS1,cR1 (af_ _)];simp only[Nat.reduceSub];all_goals rfl
theorem zj_(x:Sto)(v:AV):spl (ao_ x) 149 [v]=ao_ { x with tabs:=v }:=by unfold ao_;rw[pR1 (aD_ _),pS1];rw[pS1,pR1 (ak_ _)];rw[pR1 (ak_ _),pS1];rw[pS1,pS1];rw[pS1,pR1 (af_ _)];simp only[Nat.reduceSub];all_goals rfl
theorem og_(x:Sto):cut (ao_ x) 45 2=x.latest::[x.eqv]:=by unfold ao_;rw[cR1 (aD_ _)];(try simp only[Nat.reduceSub]);rfl
theorem oi_(x:Sto)(y1:AV)(y2:AV):spl (ao_ x) 45 (y1::[y2])=ao_ { x with latest:=y1,eqv:=y2 }:=by unfold ao_;rw[pR1 (aD_ _)];(try simp only[Nat.reduceSub]);rfl
theorem Dd_(x:Sto):cut (ao_ x) 47 66=cpC x.j++(cpC x.f):=by unfold ao_;rw[cR1 (aD_ _),cS1,cS1];(try simp only[Nat.reduceSub]);exact ya_ (by simp) (by simp)
theorem rC_(x:Sto)(y3:Cp)(y4:Cp):spl (ao_ x) 47 (cpC y3++(cpC y4))=ao_ { x with j:=y3,f:=y4 }:=by unfold ao_;rw[pR1 (aD_ _),pS1,pS1];(try simp only[Nat.reduceSub]);rw[yR_];all_goals first|rfl|simp
theorem of_(x:Sto):cut (ao_ x) 113 2=x.early::[x.orph]:=by unfold ao_;rw[cR1 (aD_ _),cS1];rw[cS1,cR1 (ak_ _),cR1 (ak_ _)];(try simp only[Nat.reduceSub]);rfl
theorem oh_(x:Sto)(y5:AV)(y6:AV):spl (ao_ x) 113 (y5::[y6])=ao_ { x with early:=y5,orph:=y6 }:=by unfold ao_;rw[pR1 (aD_ _),pS1];rw[pS1,pR1 (ak_ _),pR1 (ak_ _)];(try simp only[Nat.reduceSub]);rfl
def Sto.map(g:AV→AV)(x:Sto):Sto:={ x with cfg:=x.cfg.map g,latest:=g x.latest,eqv:=g x.eqv,early:=g x.early,orph:=g x.orph,nodes:=g x.nodes,tabs:=g x.tabs }
theorem Sto.map_mk(g:AV→AV)(cfg:Cfg)(latest:AV)(eqv:AV)(j:Cp)(f:Cp)(early:AV)(orph:AV)(nodes:AV)(now:Int)(boost:Rt)(tabs:AV):Sto.map g ⟨cfg,latest,eqv,j,f,early,orph,nodes,now,boost,tabs⟩=⟨cfg.map g,g latest,g eqv,j,f,g early,g orph,g nodes,now,boost,g tabs⟩:=rfl
def Sto.good(x:Sto):Bool:=x.cfg.good&&x.latest.cell&&x.eqv.cell&&x.early.cell&&x.orph.cell&&x.nodes.cell&&x.tabs.cell
theorem Sto.good_mk(cfg:Cfg)(latest:AV)(eqv:AV)(j:Cp)(f:Cp)(early:AV)(orph:AV)(nodes:AV)(now:Int)(boost:Rt)(tabs:AV):Sto.good ⟨cfg,latest,eqv,j,f,early,orph,nodes,now,boost,tabs⟩=(cfg.good&&latest.cell&&eqv.cell&&early.cell&&orph.cell&&nodes.cell&&tabs.cell):=rfl
def Sto.Pure(x:Sto):Prop:=x.cfg.Pure∧Pu x.latest∧Pu x.eqv∧Pu x.early∧Pu x.orph∧Pu x.nodes∧Pu x.tabs
theorem ot_(x:Sto):aU_ (ao_ x)=x.good:=by simp[ao_,Sto.good,Bool.and_assoc,be_,bo_,bp_,AV.cell,on_,eI_,ct_]
theorem mi_(x:Sto):PuL (ao_ x)↔x.Pure:=by simp[ao_,Sto.Pure,cH_,PuL,Pu,Dv_,el_,ci_]
theorem sF_(ρ:Nat→Nat)(x:Sto):cf_ ρ (ao_ x)=ao_ (x.map (ren ρ)):=by simp only[ao_,Sto.map,gZ_,cf_,ren,sC_,rp_,nj_]
theorem Er_(σ:St)(zs:List Nat)(x:Sto):fzL σ zs (ao_ x)=ao_ (x.map (fz σ zs)):=by simp only[ao_,Sto.map,hM_,fzL,fz,Em_,uD_,qV_]
def cQ_:Sto:=⟨hl_,.sl 0 true [],.sl 0 true [],cp0,cp0,.sl 0 true [],.sl 0 true [],.sl 0 true [],0,rt0,.sl 0 true []⟩
structure Req where
 tag:Int
 block:Rt
 tries:Int
 due:Int
 deriving Inhabited,DecidableEq
def aO_(x:Req):List AV:=.int .u64 x.tag::(rtc x.block++(.int .i64 x.tries::[.int .u64 x.due]))
@[simp] theorem mY_(x:Req):(aO_ x).length=35:=by simp only[aO_,List.length_cons,List.length_append,List.length_nil,af_]
theorem KD_(tag:Int)(block:Rt)(tries:Int)(due:Int):.int .u64 tag::(rtc block++(.int .i64 tries::[.int .u64 due]))=aO_ ⟨tag,block,tries,due⟩:=rfl
theorem KE_(x:Req):cut (aO_ x) 0 35=aO_ x:=cu_ (mY_ x)
theorem Cy_(x:Req):cut (aO_ x) 0 1=[.int .u64 x.tag]:=by unfold aO_;all_goals rfl
theorem CA_(x:Req)(v:Int):spl (aO_ x) 0 [.int .u64 v]=aO_ { x with tag:=v }:=by unfold aO_;all_goals rfl
theorem wL_(x:Req)(o n:Nat)(h1:1≤o)(h2:o+n≤33):cut (aO_ x) o n=cut (rtc x.block) (o-1) n:=by unfold aO_;rw[cS1,cL1 (af_ _)];all_goals rfl
theorem wN_(x:Req)(o:Nat)(vs:List AV)(h1:1≤o)(h2:o+vs.length≤33):spl (aO_ x) o vs=.int .u64 x.tag::(spl (rtc x.block) (o-1) vs++(.int .i64 x.tries::[.int .u64 x.due])):=by unfold aO_;rw[pS1,pL1 (af_ _)];all_goals rfl
theorem wM_(x:Req):cut (aO_ x) 33 1=[.int .i64 x.tries]:=by unfold aO_;rw[cS1,cR1 (af_ _)];simp only[Nat.reduceSub];all_goals rfl
theorem wO_(x:Req)(v:Int):spl (aO_ x) 33 [.int .i64 v]=aO_ { x with tries:=v }:=by unfold aO_;rw[pS1,pR1 (af_ _)];simp only[Nat.reduceSub];all_goals rfl
theorem Cx_(x:Req):cut (aO_ x) 34 1=[.int .u64 x.due]:=by unfold aO_;rw[cS1,cR1 (af_ _),cS1];simp only[Nat.reduceSub];all_goals rfl
theorem Cz_(x:Req)(v:Int):spl (aO_ x) 34 [.int .u64 v]=aO_ { x with due:=v }:=by unfold aO_;rw[pS1,pR1 (af_ _),pS1];simp only[Nat.reduceSub];all_goals rfl
theorem xw_(x:Req):aU_ (aO_ x)=true:=by simp[aO_,be_,bo_,bp_,AV.cell,ct_]
theorem dS_(x:Req):PuL (aO_ x):=by simp[aO_,cH_,PuL,Pu,ci_]
theorem AL_(ρ:Nat→Nat)(x:Req):cf_ ρ (aO_ x)=aO_ x:=(dS_ x).ren ρ
theorem Mv_(σ:St)(zs:List Nat)(x:Req):fzL σ zs (aO_ x)=aO_ x:=(dS_ x).fz σ zs
theorem GN_(x:Req):(aO_ x).map cq_=cv_ [(35,1)]:=by simp only[aO_,List.map_cons,List.map_append,List.map_nil,cq_,gv_];decide +kernel
theorem JQ_(x:Req):ey_ [(35,1)] (aO_ x)=true:=dV_ (GN_ x)
theorem IV_(x y:Req):dI_ (aO_ x) (aO_ y)=some (decide (x=y)):=by cases x;cases y;simp[aO_,eW_,dI_,pc_,af_,aC_,ie_,Bool.beq_eq_decide_eq,hN_,Bool.and_assoc,Bool.decide_and]
def hr_:Req:=⟨0,rt0,0,0⟩
structure Cmd where
 head:Rt
 safe:Rt
 fin:Rt
 deriving Inhabited,DecidableEq
def cL_(x:Cmd):List AV:=rtc x.head++(rtc x.safe++(rtc x.fin))
@[simp] theorem dc_(x:Cmd):(cL_ x).length=96:=by simp only[cL_,List.length_cons,List.length_append,List.length_nil,af_]
theorem Jx_(head:Rt)(safe:Rt)(fin:Rt):rtc head++(rtc safe++(rtc fin))=cL_ ⟨head,safe,fin⟩:=rfl
theorem Jy_(x:Cmd):cut (cL_ x) 0 96=cL_ x:=cu_ (dc_ x)
theorem xV_(x:Cmd)(o n:Nat)(h1:0≤o)(h2:o+n≤32):cut (cL_ x) o n=cut (rtc x.head) (o-0) n:=by unfold cL_;rw[cL1 (af_ _)];all_goals rfl
theorem xX_(x:Cmd)(o:Nat)(vs:List AV)(h1:0≤o)(h2:o+vs.length≤32):spl (cL_ x) o vs=spl (rtc x.head) (o-0) vs++(rtc x.safe++(rtc x.fin)):=by unfold cL_;rw[pL1 (af_ _)];all_goals rfl
theorem xW_(x:Cmd)(o n:Nat)(h1:32≤o)(h2:o+n≤64):cut (cL_ x) o n=cut (rtc x.safe) (o-32) n:=by unfold cL_;rw[cR1 (af_ _),cL1 (af_ _)];all_goals rfl
theorem xY_(x:Cmd)(o:Nat)(vs:List AV)(h1:32≤o)(h2:o+vs.length≤64):spl (cL_ x) o vs=rtc x.head++(spl (rtc x.safe) (o-32) vs++(rtc x.fin)):=by unfold cL_;rw[pR1 (af_ _),pL1 (af_ _)];all_goals rfl
theorem BJ_(x:Cmd)(o n:Nat)(h1:64≤o)(h2:o+n≤96):cut (cL_ x) o n=cut (rtc x.fin) (o-64) n:=by unfold cL_;rw[cR1 (af_ _),cR1 (af_ _)];rw[show o-32-32=o-64 by omega]
theorem BK_(x:Cmd)(o:Nat)(vs:List AV)(h1:64≤o)(h2:o+vs.length≤96):spl (cL_ x) o vs=rtc x.head++(rtc x.safe++(spl (rtc x.fin) (o-64) vs)):=by unfold cL_;rw[pR1 (af_ _),pR1 (af_ _)];rw[show o-32-32=o-64 by omega]
theorem op_(x:Cmd):aU_ (cL_ x)=true:=by simp[cL_,be_,bo_,bp_,AV.cell,ct_]
theorem ke_(x:Cmd):PuL (cL_ x):=by simp[cL_,cH_,PuL,Pu,ci_]
theorem sD_(ρ:Nat→Nat)(x:Cmd):cf_ ρ (cL_ x)=cL_ x:=(ke_ x).ren ρ
theorem Eo_(σ:St)(zs:List Nat)(x:Cmd):fzL σ zs (cL_ x)=cL_ x:=(ke_ x).fz σ zs
theorem GK_(x:Cmd):(cL_ x).map cq_=cv_ [(96,1)]:=by simp only[cL_,List.map_cons,List.map_append,List.map_nil,cq_,gv_];decide +kernel
theorem JM_(x:Cmd):ey_ [(96,1)] (cL_ x)=true:=dV_ (GK_ x)
theorem IS_(x y:Cmd):dI_ (cL_ x) (cL_ y)=some (decide (x=y)):=by cases x;cases y;simp[cL_,eW_,dI_,pc_,af_,aC_,ie_,Bool.beq_eq_decide_eq,hN_,Bool.and_assoc,Bool.decide_and]
def qt_:Cmd:=⟨rt0,rt0,rt0⟩
structure Sta where
 sto:Sto
 reqs:AV
 rets:AV
 tag:Int
 sent:Bool
 last:Cmd
 over:Bool
 halt:Bool
 deriving Inhabited
def aB_(x:Sta):List AV:=ao_ x.sto++(x.reqs::(x.rets::(.int .u64 x.tag::(.bool x.sent::(cL_ x.last++(.bool x.over::[.bool x.halt]))))))
@[simp] theorem mZ_(x:Sta):(aB_ x).length=252:=by simp only[aB_,List.length_cons,List.length_append,List.length_nil,dc_,bi_]
theorem KV_(sto:Sto)(reqs:AV)(rets:AV)(tag:Int)(sent:Bool)(last:Cmd)(over:Bool)(halt:Bool):ao_ sto++(reqs::(rets::(.int .u64 tag::(.bool sent::(cL_ last++(.bool over::[.bool halt]))))))=aB_ ⟨sto,reqs,rets,tag,sent,last,over,halt⟩:=rfl
theorem KW_(x:Sta):cut (aB_ x) 0 252=aB_ x:=cu_ (mZ_ x)
theorem CV_(x:Sta)(o n:Nat)(h1:0≤o)(h2:o+n≤150):cut (aB_ x) o n=cut (ao_ x.sto) (o-0) n:=by unfold aB_;rw[cL1 (bi_ _)];all_goals rfl
theorem CX_(x:Sta)(o:Nat)(vs:List AV)(h1:0≤o)(h2:o+vs.length≤150):spl (aB_ x) o vs=spl (ao_ x.sto) (o-0) vs++(x.reqs::(x.rets::(.int .u64 x.tag::(.bool x.sent::(cL_ x.last++(.bool x.over::[.bool x.halt])))))):=by unfold aB_;rw[pL1 (bi_ _)];all_goals rfl
theorem yX_(x:Sta):cut (aB_ x) 150 1=[x.reqs]:=by unfold aB_;rw[cR1 (bi_ _)];simp only[Nat.reduceSub];all_goals rfl
theorem zd_(x:Sta)(v:AV):spl (aB_ x) 150 [v]=aB_ { x with reqs:=v }:=by unfold aB_;rw[pR1 (bi_ _)];simp only[Nat.reduceSub];all_goals rfl
theorem yY_(x:Sta):cut (aB_ x) 151 1=[x.rets]:=by unfold aB_;rw[cR1 (bi_ _),cS1];simp only[Nat.reduceSub];all_goals rfl
theorem ze_(x:Sta)(v:AV):spl (aB_ x) 151 [v]=aB_ { x with rets:=v }:=by unfold aB_;rw[pR1 (bi_ _),pS1];simp only[Nat.reduceSub];all_goals rfl
theorem CW_(x:Sta):cut (aB_ x) 152 1=[.int .u64 x.tag]:=by unfold aB_;rw[cR1 (bi_ _),cS1,cS1];simp only[Nat.reduceSub];all_goals rfl
theorem CY_(x:Sta)(v:Int):spl (aB_ x) 152 [.int .u64 v]=aB_ { x with tag:=v }:=by unfold aB_;rw[pR1 (bi_ _),pS1,pS1];simp only[Nat.reduceSub];all_goals rfl
theorem yZ_(x:Sta):cut (aB_ x) 153 1=[.bool x.sent]:=by unfold aB_;rw[cR1 (bi_ _),cS1];rw[cS1,cS1];simp only[Nat.reduceSub];all_goals rfl
theorem zf_(x:Sta)(v:Bool):spl (aB_ x) 153 [.bool v]=aB_ { x with sent:=v }:=by unfold aB_;rw[pR1 (bi_ _),pS1];rw[pS1,pS1];simp only[Nat.reduceSub];all_goals rfl
theorem yV_(x:Sta)(o n:Nat)(h1:154≤o)(h2:o+n≤250):cut (aB_ x) o n=cut (cL_ x.last) (o-154) n:=by unfold aB_;rw[cR1 (bi_ _),cS1];rw[cS1,cS1];rw[cS1,cL1 (dc_ _)];rw[show o-150-1-1-1-1=o-154 by omega]
theorem zb_(x:Sta)(o:Nat)(vs:List AV)(h1:154≤o)(h2:o+vs.length≤250):spl (aB_ x) o vs=ao_ x.sto++(x.reqs::(x.rets::(.int .u64 x.tag::(.bool x.sent::(spl (cL_ x.last) (o-154) vs++(.bool x.over::[.bool x.halt])))))):=by unfold aB_;rw[pR1 (bi_ _),pS1];rw[pS1,pS1];rw[pS1,pL1 (dc_ _)];rw[show o-150-1-1-1-1=o-154 by omega]
theorem yW_(x:Sta):cut (aB_ x) 250 1=[.bool x.over]:=by unfold aB_;rw[cR1 (bi_ _),cS1];rw[cS1,cS1];rw[cS1,cR1 (dc_ _)];simp only[Nat.reduceSub];all_goals rfl
theorem zc_(x:Sta)(v:Bool):spl (aB_ x) 250 [.bool v]=aB_ { x with over:=v }:=by unfold aB_;rw[pR1 (bi_ _),pS1];rw[pS1,pS1];rw[pS1,pR1 (dc_ _)];simp only[Nat.reduceSub];all_goals rfl
theorem yU_(x:Sta):cut (aB_ x) 251 1=[.bool x.halt]:=by unfold aB_;rw[cR1 (bi_ _),cS1];rw[cS1,cS1];rw[cS1,cR1 (dc_ _),cS1];simp only[Nat.reduceSub];all_goals rfl
theorem za_(x:Sta)(v:Bool):spl (aB_ x) 251 [.bool v]=aB_ { x with halt:=v }:=by unfold aB_;rw[pR1 (bi_ _),pS1];rw[pS1,pS1];rw[pS1,pR1 (dc_ _),pS1];simp only[Nat.reduceSub];all_goals rfl
def Sta.map(g:AV→AV)(x:Sta):Sta:={ x with sto:=x.sto.map g,reqs:=g x.reqs,rets:=g x.rets }
theorem Sta.map_mk(g:AV→AV)(sto:Sto)(reqs:AV)(rets:AV)(tag:Int)(sent:Bool)(last:Cmd)(over:Bool)(halt:Bool):Sta.map g ⟨sto,reqs,rets,tag,sent,last,over,halt⟩=⟨sto.map g,g reqs,g rets,tag,sent,last,over,halt⟩:=rfl
def Sta.good(x:Sta):Bool:=x.sto.good&&x.reqs.cell&&x.rets.cell
theorem Sta.good_mk(sto:Sto)(reqs:AV)(rets:AV)(tag:Int)(sent:Bool)(last:Cmd)(over:Bool)(halt:Bool):Sta.good ⟨sto,reqs,rets,tag,sent,last,over,halt⟩=(sto.good&&reqs.cell&&rets.cell):=rfl
def Sta.Pure(x:Sta):Prop:=x.sto.Pure∧Pu x.reqs∧Pu x.rets
theorem xy_(x:Sta):aU_ (aB_ x)=x.good:=by simp[aB_,Sta.good,Bool.and_assoc,be_,bo_,bp_,AV.cell,op_,ot_]
theorem Dx_(x:Sta):PuL (aB_ x)↔x.Pure:=by simp[aB_,Sta.Pure,cH_,PuL,Pu,ke_,mi_]
theorem AN_(ρ:Nat→Nat)(x:Sta):cf_ ρ (aB_ x)=aB_ (x.map (ren ρ)):=by simp only[aB_,Sta.map,gZ_,cf_,ren,sD_,sF_]
theorem Mx_(σ:St)(zs:List Nat)(x:Sta):fzL σ zs (aB_ x)=aB_ (x.map (fz σ zs)):=by simp only[aB_,Sta.map,hM_,fzL,fz,Eo_,Er_]
def dG_:Sta:=⟨cQ_,.sl 0 true [],.sl 0 true [],0,false,qt_,false,false⟩
attribute [go_sem] Kf_ bD_ Ke_ yE_ yG_ yF_ yH_ we_ wh_ wg_ wj_ wf_ wi_ st_ su_ oq_ sE_ JN_ IT_ Jo_ aD_ Jn_ By_ BC_ Bz_ BD_ vi_ vj_ BA_ BE_ Bx_ BB_ xP_ xQ_ Cfg.map_mk Cfg.good_mk on_ sC_ Lp_ na_ Lo_ Dn_ Do_ FP_ FQ_ zs_ zt_ xz_ AQ_ JS_ IX_ Kj_ mX_ Ki_ Cq_ Cr_ EI_ EJ_ ue_ uf_ xv_ AK_ JO_ IU_ KZ_ bi_ KY_ Db_ Df_ uq_ ur_ Dc_ Dg_ HG_ HI_ HF_ HH_ xg_ xj_ zg_ zi_ xh_ xk_ De_ Dh_ xf_ xi_ zh_ zj_ og_ oi_ Dd_ rC_ of_ oh_ Sto.map_mk Sto.good_mk ot_ sF_ KE_ mY_ KD_ Cy_ CA_ wL_ wN_ wM_ wO_ Cx_ Cz_ xw_ AL_ JQ_ IV_ Jy_ dc_ Jx_ xV_ xX_ xW_ xY_ BJ_ BK_ op_ sD_ JM_ IS_ KW_ mZ_ KV_ CV_ CX_ yX_ zd_ yY_ ze_ CW_ CY_ yZ_ zf_ yV_ zb_ yW_ zc_ yU_ za_ Sta.map_mk Sta.good_mk xy_ AN_ QN_ hl_ uu_ sv_ cQ_ hr_ qt_ dG_ bD_ sE_ Ep_ aD_ Cfg.map_mk sC_ Em_ na_ AQ_ My_ mX_ AK_ Mt_ bi_ Sto.map_mk sF_ Er_ mY_ AL_ Mv_ dc_ sD_ Eo_ mZ_ Sta.map_mk AN_ Mx_
def rows{α:Type}(f:α→List AV)(l:List α):List (List AV):=l.map f
section
variable{α:Type}{f:α→List AV}{l m:List α}
@[simp] theorem EG_(f:α→List AV)(l:List α):(rows f l).length=l.length:=by simp[rows]
theorem NA_(f:α→List AV):rows f []=[]:=rfl
theorem wS_(f:α→List AV)(l m:List α):rows f l++rows f m=rows f (l++m):=by simp[rows]
theorem cx_(f:α→List AV)(l:List α)(x:α):rows f l++[f x]=rows f (l++[x]):=by simp[rows]
theorem nM_(f:α→List AV)(l:List α)(n:Nat):(rows f l).take n=rows f (l.take n):=by simp[rows]
theorem nL_(f:α→List AV)(l:List α)(n:Nat):(rows f l).drop n=rows f (l.drop n):=by simp[rows]
theorem wT_(f:α→List AV)(l:List α)(n:Nat)(x:α):(rows f l).set n (f x)=rows f (l.set n x):=by simp[rows,List.map_set]
theorem NB_(f:α→List AV)(n:Nat)(x:α):List.replicate n (f x)=rows f (List.replicate n x):=by simp[rows]
theorem cw_{i:Nat}(d:α)(h:i<l.length):(rows f l).getD i []=f (l.getD i d):=by
 simp[rows,List.getD_eq_getElem?_getD,h]
theorem bw_(h:∀x∈l,PuL (f x)):dx_ (rows f l):=by
 rw[kd_];intro x hx;obtain⟨y,hy,rfl⟩:=List.mem_map.1 hx;exact h y hy
end
theorem gdn{k:IntKind}{ns:List Int}{i:Nat}(h:i<ns.length):(aq_ k ns).getD i []=[.int k (ns.getD i 0)]:=by
 simp[aq_,List.getD_eq_getElem?_getD,h]
def gH_(b:Bool):List AV:=[.bool b]
theorem IR_(b:Bool):PuL (gH_ b):=by simp[gH_,PuL,Pu]
theorem HK_(h:Bool)(c:Cp):.bool h::cpC c=cc_ ⟨h,c.ep,c.rt⟩:=rfl
attribute [go_sem] HK_
attribute [go_sem] EG_ NA_
structure aW_ where
 slot:Int
 root:Rt
 target:Cp
 vals:List Int
 deriving Inhabited,DecidableEq
def aW_.a(x:aW_):Att:=⟨x.slot,x.root,x.target,.sl 1 false (aq_ .i64 x.vals)⟩
abbrev aW_.c(x:aW_):List AV:=aX_ x.a
theorem aW_.a_slot(x:aW_):x.a.slot=x.slot:=rfl
theorem aW_.a_root(x:aW_):x.a.root=x.root:=rfl
theorem aW_.a_target(x:aW_):x.a.target=x.target:=rfl
theorem aW_.a_vals(x:aW_):x.a.vals=.sl 1 false (aq_ .i64 x.vals):=rfl
theorem aW_.pure(x:aW_):x.a.Pure:=by
 exact aL_ _ _
theorem aW_.pul(x:aW_):PuL (aX_ x.a):=(cB_ _).2 x.pure
theorem aW_.ren_a(ρ:Nat→Nat)(x:aW_):cf_ ρ (aX_ x.a)=aX_ x.a:=x.pul.ren ρ
theorem aW_.fz_a(σ:St)(zs:List Nat)(x:aW_):fzL σ zs (aX_ x.a)=aX_ x.a:=x.pul.fz σ zs
theorem aW_.map_ren(ρ:Nat→Nat)(x:aW_):x.a.map (ren ρ)=x.a:=by
 unfold aW_.a Att.map;simp only[ren,ck_]
theorem aW_.map_fz(σ:St)(zs:List Nat)(x:aW_):x.a.map (fz σ zs)=x.a:=by
 unfold aW_.a Att.map;simp only[fz,cR_]
theorem aW_.good_a(x:aW_):x.a.good=true:=by
 simp[aW_.a,Att.good,AV.cell]
structure aR_ where
 cp:Cp
 bals:List Int
 deriving Inhabited,DecidableEq
def aR_.a(x:aR_):Tab:=⟨x.cp,.sl 1 false (aq_ .u64 x.bals)⟩
abbrev aR_.c(x:aR_):List AV:=aS_ x.a
theorem aR_.a_cp(x:aR_):x.a.cp=x.cp:=rfl
theorem aR_.a_bals(x:aR_):x.a.bals=.sl 1 false (aq_ .u64 x.bals):=rfl
theorem aR_.pure(x:aR_):x.a.Pure:=by
 exact aL_ _ _
theorem aR_.pul(x:aR_):PuL (aS_ x.a):=(cs_ _).2 x.pure
theorem aR_.ren_a(ρ:Nat→Nat)(x:aR_):cf_ ρ (aS_ x.a)=aS_ x.a:=x.pul.ren ρ
theorem aR_.fz_a(σ:St)(zs:List Nat)(x:aR_):fzL σ zs (aS_ x.a)=aS_ x.a:=x.pul.fz σ zs
theorem aR_.map_ren(ρ:Nat→Nat)(x:aR_):x.a.map (ren ρ)=x.a:=by
 unfold aR_.a Tab.map;simp only[ren,ck_]
theorem aR_.map_fz(σ:St)(zs:List Nat)(x:aR_):x.a.map (fz σ zs)=x.a:=by
 unfold aR_.a Tab.map;simp only[fz,cR_]
theorem aR_.good_a(x:aR_):x.a.good=true:=by
 simp[aR_.a,Tab.good,AV.cell]
structure cS_ where
 src:Int
 tgt:Int
 root:Rt
 vals:List Int
 deriving Inhabited,DecidableEq
def cS_.a(x:cS_):Clm:=⟨x.src,x.tgt,x.root,.sl 1 false (aq_ .i64 x.vals)⟩
abbrev cS_.c(x:cS_):List AV:=bC_ x.a
theorem cS_.a_src(x:cS_):x.a.src=x.src:=rfl
theorem cS_.a_tgt(x:cS_):x.a.tgt=x.tgt:=rfl
theorem cS_.a_root(x:cS_):x.a.root=x.root:=rfl
theorem cS_.a_vals(x:cS_):x.a.vals=.sl 1 false (aq_ .i64 x.vals):=rfl
theorem cS_.pure(x:cS_):x.a.Pure:=by
 exact aL_ _ _
theorem cS_.pul(x:cS_):PuL (bC_ x.a):=(ib_ _).2 x.pure
theorem cS_.ren_a(ρ:Nat→Nat)(x:cS_):cf_ ρ (bC_ x.a)=bC_ x.a:=x.pul.ren ρ
theorem cS_.fz_a(σ:St)(zs:List Nat)(x:cS_):fzL σ zs (bC_ x.a)=bC_ x.a:=x.pul.fz σ zs
theorem cS_.map_ren(ρ:Nat→Nat)(x:cS_):x.a.map (ren ρ)=x.a:=by
 unfold cS_.a Clm.map;simp only[ren,ck_]
theorem cS_.map_fz(σ:St)(zs:List Nat)(x:cS_):x.a.map (fz σ zs)=x.a:=by
 unfold cS_.a Clm.map;simp only[fz,cR_]
theorem cS_.good_a(x:cS_):x.a.good=true:=by
 simp[cS_.a,Clm.good,AV.cell]
structure df_ where
 fst:cS_
 snd:cS_
 deriving Inhabited,DecidableEq
def df_.a(x:df_):Slg:=⟨x.fst.a,x.snd.a⟩
abbrev df_.c(x:df_):List AV:=bI_ x.a
theorem df_.a_fst(x:df_):x.a.fst=x.fst.a:=rfl
theorem df_.a_snd(x:df_):x.a.snd=x.snd.a:=rfl
theorem df_.pure(x:df_):x.a.Pure:=by
 exact⟨cS_.pure _,cS_.pure _⟩
theorem df_.pul(x:df_):PuL (bI_ x.a):=(cU_ _).2 x.pure
theorem df_.ren_a(ρ:Nat→Nat)(x:df_):cf_ ρ (bI_ x.a)=bI_ x.a:=x.pul.ren ρ
theorem df_.fz_a(σ:St)(zs:List Nat)(x:df_):fzL σ zs (bI_ x.a)=bI_ x.a:=x.pul.fz σ zs
theorem df_.map_ren(ρ:Nat→Nat)(x:df_):x.a.map (ren ρ)=x.a:=by
 unfold df_.a Slg.map;simp only[ren,ck_,cS_.map_ren,cS_.map_ren]
theorem df_.map_fz(σ:St)(zs:List Nat)(x:df_):x.a.map (fz σ zs)=x.a:=by
 unfold df_.a Slg.map;simp only[fz,cR_,cS_.map_fz,cS_.map_fz]
theorem df_.good_a(x:df_):x.a.good=true:=by
 simp[df_.a,Slg.good,AV.cell,cS_.good_a,cS_.good_a]
structure bV_ where
 lim:Lim
 spe:Int
 boost:Int
 ttd:Wd
 gen:Rt
 bals:List Int
 deriving Inhabited,DecidableEq
def bV_.a(x:bV_):Cfg:=⟨x.lim,x.spe,x.boost,x.ttd,x.gen,.sl 1 false (aq_ .u64 x.bals)⟩
abbrev bV_.c(x:bV_):List AV:=bm_ x.a
theorem bV_.a_lim(x:bV_):x.a.lim=x.lim:=rfl
theorem bV_.a_spe(x:bV_):x.a.spe=x.spe:=rfl
theorem bV_.a_boost(x:bV_):x.a.boost=x.boost:=rfl
theorem bV_.a_ttd(x:bV_):x.a.ttd=x.ttd:=rfl
theorem bV_.a_gen(x:bV_):x.a.gen=x.gen:=rfl
theorem bV_.a_bals(x:bV_):x.a.bals=.sl 1 false (aq_ .u64 x.bals):=rfl
theorem bV_.pure(x:bV_):x.a.Pure:=by
 exact aL_ _ _
theorem bV_.pul(x:bV_):PuL (bm_ x.a):=(Dv_ _).2 x.pure
theorem bV_.ren_a(ρ:Nat→Nat)(x:bV_):cf_ ρ (bm_ x.a)=bm_ x.a:=x.pul.ren ρ
theorem bV_.fz_a(σ:St)(zs:List Nat)(x:bV_):fzL σ zs (bm_ x.a)=bm_ x.a:=x.pul.fz σ zs
theorem bV_.map_ren(ρ:Nat→Nat)(x:bV_):x.a.map (ren ρ)=x.a:=by
 unfold bV_.a Cfg.map;simp only[ren,ck_]
theorem bV_.map_fz(σ:St)(zs:List Nat)(x:bV_):x.a.map (fz σ zs)=x.a:=by
 unfold bV_.a Cfg.map;simp only[fz,cR_]
theorem bV_.good_a(x:bV_):x.a.good=true:=by
 simp[bV_.a,Cfg.good,AV.cell]
structure al_ where
 cfg:bV_
 latest:List Vot
 eqv:List Int
 j:Cp
 f:Cp
 early:List aW_
 orph:List Blk
 nodes:List Nod
 now:Int
 boost:Rt
 tabs:List aR_
 deriving Inhabited,DecidableEq
def al_.a(x:al_):Sto:=⟨x.cfg.a,.sl 34 false (rows cc_ x.latest),.sl 1 false (aq_ .i64 x.eqv),x.j,x.f,.sl 67 false (rows aW_.c x.early),.sl 238 false (rows aw_ x.orph),.sl 240 false (rows cr_ x.nodes),x.now,x.boost,.sl 34 false (rows aR_.c x.tabs)⟩
abbrev al_.c(x:al_):List AV:=ao_ x.a
theorem al_.a_cfg(x:al_):x.a.cfg=x.cfg.a:=rfl
theorem al_.a_latest(x:al_):x.a.latest=.sl 34 false (rows cc_ x.latest):=rfl
theorem al_.a_eqv(x:al_):x.a.eqv=.sl 1 false (aq_ .i64 x.eqv):=rfl
theorem al_.a_j(x:al_):x.a.j=x.j:=rfl
theorem al_.a_f(x:al_):x.a.f=x.f:=rfl
theorem al_.a_early(x:al_):x.a.early=.sl 67 false (rows aW_.c x.early):=rfl
theorem al_.a_orph(x:al_):x.a.orph=.sl 238 false (rows aw_ x.orph):=rfl
theorem al_.a_nodes(x:al_):x.a.nodes=.sl 240 false (rows cr_ x.nodes):=rfl
theorem al_.a_now(x:al_):x.a.now=x.now:=rfl
theorem al_.a_boost(x:al_):x.a.boost=x.boost:=rfl
theorem al_.a_tabs(x:al_):x.a.tabs=.sl 34 false (rows aR_.c x.tabs):=rfl
theorem al_.pure(x:al_):x.a.Pure:=by
 exact⟨bV_.pure _,bw_ fun x _=>id_ x,aL_ _ _,bw_ fun x _=>(cB_ _).2 (aW_.pure x),bw_ fun x _=>dA_ x,bw_ fun x _=>ic_ x,bw_ fun x _=>(cs_ _).2 (aR_.pure x)⟩
theorem al_.pul(x:al_):PuL (ao_ x.a):=(mi_ _).2 x.pure
theorem al_.ren_a(ρ:Nat→Nat)(x:al_):cf_ ρ (ao_ x.a)=ao_ x.a:=x.pul.ren ρ
theorem al_.fz_a(σ:St)(zs:List Nat)(x:al_):fzL σ zs (ao_ x.a)=ao_ x.a:=x.pul.fz σ zs
theorem al_.map_ren(ρ:Nat→Nat)(x:al_):x.a.map (ren ρ)=x.a:=by
 unfold al_.a Sto.map;simp only[ren,ck_,bV_.map_ren,(bw_ (f:=cc_) (l:=x.latest) fun y _=>id_ y).ren ρ,(bw_ (f:=aW_.c) (l:=x.early) fun y _=>(cB_ _).2 (aW_.pure y)).ren ρ,(bw_ (f:=aw_) (l:=x.orph) fun y _=>dA_ y).ren ρ,(bw_ (f:=cr_) (l:=x.nodes) fun y _=>ic_ y).ren ρ,(bw_ (f:=aR_.c) (l:=x.tabs) fun y _=>(cs_ _).2 (aR_.pure y)).ren ρ]
theorem al_.map_fz(σ:St)(zs:List Nat)(x:al_):x.a.map (fz σ zs)=x.a:=by
 unfold al_.a Sto.map;simp only[fz,cR_,bV_.map_fz,(bw_ (f:=cc_) (l:=x.latest) fun y _=>id_ y).fz σ zs,(bw_ (f:=aW_.c) (l:=x.early) fun y _=>(cB_ _).2 (aW_.pure y)).fz σ zs,(bw_ (f:=aw_) (l:=x.orph) fun y _=>dA_ y).fz σ zs,(bw_ (f:=cr_) (l:=x.nodes) fun y _=>ic_ y).fz σ zs,(bw_ (f:=aR_.c) (l:=x.tabs) fun y _=>(cs_ _).2 (aR_.pure y)).fz σ zs]
theorem al_.good_a(x:al_):x.a.good=true:=by
 simp[al_.a,Sto.good,AV.cell,bV_.good_a]
structure aN_ where
 sto:al_
 reqs:List Req
 rets:List Req
 tag:Int
 sent:Bool
 last:Cmd
 over:Bool
 halt:Bool
 deriving Inhabited,DecidableEq
def aN_.a(x:aN_):Sta:=⟨x.sto.a,.sl 35 false (rows aO_ x.reqs),.sl 35 false (rows aO_ x.rets),x.tag,x.sent,x.last,x.over,x.halt⟩
abbrev aN_.c(x:aN_):List AV:=aB_ x.a
theorem aN_.a_sto(x:aN_):x.a.sto=x.sto.a:=rfl
theorem aN_.a_reqs(x:aN_):x.a.reqs=.sl 35 false (rows aO_ x.reqs):=rfl
theorem aN_.a_rets(x:aN_):x.a.rets=.sl 35 false (rows aO_ x.rets):=rfl
theorem aN_.a_tag(x:aN_):x.a.tag=x.tag:=rfl
theorem aN_.a_sent(x:aN_):x.a.sent=x.sent:=rfl
theorem aN_.a_last(x:aN_):x.a.last=x.last:=rfl
theorem aN_.a_over(x:aN_):x.a.over=x.over:=rfl
theorem aN_.a_halt(x:aN_):x.a.halt=x.halt:=rfl
theorem aN_.pure(x:aN_):x.a.Pure:=by
 exact⟨al_.pure _,bw_ fun x _=>dS_ x,bw_ fun x _=>dS_ x⟩
theorem aN_.pul(x:aN_):PuL (aB_ x.a):=(Dx_ _).2 x.pure
theorem aN_.ren_a(ρ:Nat→Nat)(x:aN_):cf_ ρ (aB_ x.a)=aB_ x.a:=x.pul.ren ρ
theorem aN_.fz_a(σ:St)(zs:List Nat)(x:aN_):fzL σ zs (aB_ x.a)=aB_ x.a:=x.pul.fz σ zs
theorem aN_.map_ren(ρ:Nat→Nat)(x:aN_):x.a.map (ren ρ)=x.a:=by
 unfold aN_.a Sta.map;simp only[ren,ck_,al_.map_ren,(bw_ (f:=aO_) (l:=x.reqs) fun y _=>dS_ y).ren ρ,(bw_ (f:=aO_) (l:=x.rets) fun y _=>dS_ y).ren ρ]
theorem aN_.map_fz(σ:St)(zs:List Nat)(x:aN_):x.a.map (fz σ zs)=x.a:=by
 unfold aN_.a Sta.map;simp only[fz,cR_,al_.map_fz,(bw_ (f:=aO_) (l:=x.reqs) fun y _=>dS_ y).fz σ zs,(bw_ (f:=aO_) (l:=x.rets) fun y _=>dS_ y).fz σ zs]
theorem aN_.good_a(x:aN_):x.a.good=true:=by
 simp[aN_.a,Sta.good,AV.cell,al_.good_a]
structure VOp where
 kind:Int
 blk:Blk
 att:aW_
 slg:df_
 tab:aR_
 vdt:Vdt
 write:Int
 keep:Int
 deriving Inhabited,DecidableEq
def VOp.a(x:VOp):SOp:=⟨x.kind,x.blk,x.att.a,x.slg.a,x.tab.a,x.vdt,x.write,x.keep⟩
abbrev VOp.c(x:VOp):List AV:=aI_ x.a
theorem VOp.a_kind(x:VOp):x.a.kind=x.kind:=rfl
theorem VOp.a_blk(x:VOp):x.a.blk=x.blk:=rfl
theorem VOp.a_att(x:VOp):x.a.att=x.att.a:=rfl
theorem VOp.a_slg(x:VOp):x.a.slg=x.slg.a:=rfl
theorem VOp.a_tab(x:VOp):x.a.tab=x.tab.a:=rfl
theorem VOp.a_vdt(x:VOp):x.a.vdt=x.vdt:=rfl
theorem VOp.a_write(x:VOp):x.a.write=x.write:=rfl
theorem VOp.a_keep(x:VOp):x.a.keep=x.keep:=rfl
theorem VOp.pure(x:VOp):x.a.Pure:=by
 exact⟨aW_.pure _,df_.pure _,aR_.pure _⟩
theorem VOp.pul(x:VOp):PuL (aI_ x.a):=(cm_ _).2 x.pure
theorem VOp.ren_a(ρ:Nat→Nat)(x:VOp):cf_ ρ (aI_ x.a)=aI_ x.a:=x.pul.ren ρ
theorem VOp.fz_a(σ:St)(zs:List Nat)(x:VOp):fzL σ zs (aI_ x.a)=aI_ x.a:=x.pul.fz σ zs
theorem VOp.map_ren(ρ:Nat→Nat)(x:VOp):x.a.map (ren ρ)=x.a:=by
 unfold VOp.a SOp.map;simp only[ren,ck_,aW_.map_ren,df_.map_ren,aR_.map_ren]
theorem VOp.map_fz(σ:St)(zs:List Nat)(x:VOp):x.a.map (fz σ zs)=x.a:=by
 unfold VOp.a SOp.map;simp only[fz,cR_,aW_.map_fz,df_.map_fz,aR_.map_fz]
theorem VOp.good_a(x:VOp):x.a.good=true:=by
 simp[VOp.a,SOp.good,AV.cell,aW_.good_a,df_.good_a,aR_.good_a]
theorem fp_(l:List Rt):dx_ (rows rtc l):=bw_ fun x _=>ci_ x
theorem wJ_(ρ:Nat→Nat)(l:List Rt):cj_ ρ (rows rtc l)=rows rtc l:=(fp_ l).ren ρ
theorem yC_(σ:St)(zs:List Nat)(l:List Rt):eL_ σ zs (rows rtc l)=rows rtc l:=(fp_ l).fz σ zs
theorem gA_(l:List Bool):dx_ (rows gH_ l):=bw_ fun x _=>IR_ x
theorem sB_(ρ:Nat→Nat)(l:List Bool):cj_ ρ (rows gH_ l)=rows gH_ l:=(gA_ l).ren ρ
theorem uc_(σ:St)(zs:List Nat)(l:List Bool):eL_ σ zs (rows gH_ l)=rows gH_ l:=(gA_ l).fz σ zs
theorem hE_(l:List Vot):dx_ (rows cc_ l):=bw_ fun x _=>id_ x
theorem un_(ρ:Nat→Nat)(l:List Vot):cj_ ρ (rows cc_ l)=rows cc_ l:=(hE_ l).ren ρ
theorem vS_(σ:St)(zs:List Nat)(l:List Vot):eL_ σ zs (rows cc_ l)=rows cc_ l:=(hE_ l).fz σ zs
theorem hC_(l:List Blk):dx_ (rows aw_ l):=bw_ fun x _=>dA_ x
theorem uj_(ρ:Nat→Nat)(l:List Blk):cj_ ρ (rows aw_ l)=rows aw_ l:=(hC_ l).ren ρ
theorem vO_(σ:St)(zs:List Nat)(l:List Blk):eL_ σ zs (rows aw_ l)=rows aw_ l:=(hC_ l).fz σ zs
theorem fD_(l:List Nod):dx_ (rows cr_ l):=bw_ fun x _=>ic_ x
theorem ul_(ρ:Nat→Nat)(l:List Nod):cj_ ρ (rows cr_ l)=rows cr_ l:=(fD_ l).ren ρ
theorem vQ_(σ:St)(zs:List Nat)(l:List Nod):eL_ σ zs (rows cr_ l)=rows cr_ l:=(fD_ l).fz σ zs
theorem hD_(l:List Req):dx_ (rows aO_ l):=bw_ fun x _=>dS_ x
theorem um_(ρ:Nat→Nat)(l:List Req):cj_ ρ (rows aO_ l)=rows aO_ l:=(hD_ l).ren ρ
theorem vR_(σ:St)(zs:List Nat)(l:List Req):eL_ σ zs (rows aO_ l)=rows aO_ l:=(hD_ l).fz σ zs
theorem cX_(l:List Cmd):dx_ (rows cL_ l):=bw_ fun x _=>ke_ x
theorem uk_(ρ:Nat→Nat)(l:List Cmd):cj_ ρ (rows cL_ l)=rows cL_ l:=(cX_ l).ren ρ
theorem vP_(σ:St)(zs:List Nat)(l:List Cmd):eL_ σ zs (rows cL_ l)=rows cL_ l:=(cX_ l).fz σ zs
theorem hB_(l:List aW_):dx_ (rows aW_.c l):=bw_ fun x _=>aW_.pul x
theorem uh_(ρ:Nat→Nat)(l:List aW_):cj_ ρ (rows aW_.c l)=rows aW_.c l:=(hB_ l).ren ρ
theorem vM_(σ:St)(zs:List Nat)(l:List aW_):eL_ σ zs (rows aW_.c l)=rows aW_.c l:=(hB_ l).fz σ zs
theorem fC_(l:List aR_):dx_ (rows aR_.c l):=bw_ fun x _=>aR_.pul x
theorem ui_(ρ:Nat→Nat)(l:List aR_):cj_ ρ (rows aR_.c l)=rows aR_.c l:=(fC_ l).ren ρ
theorem vN_(σ:St)(zs:List Nat)(l:List aR_):eL_ σ zs (rows aR_.c l)=rows aR_.c l:=(fC_ l).fz σ zs
theorem jg_(l:List VOp):dx_ (rows VOp.c l):=bw_ fun x _=>VOp.pul x
theorem wI_(ρ:Nat→Nat)(l:List VOp):cj_ ρ (rows VOp.c l)=rows VOp.c l:=(jg_ l).ren ρ
theorem yB_(σ:St)(zs:List Nat)(l:List VOp):eL_ σ zs (rows VOp.c l)=rows VOp.c l:=(jg_ l).fz σ zs
attribute [go_sem] aW_.a_slot aW_.a_root aW_.a_target aW_.a_vals aW_.pul aW_.ren_a aW_.fz_a aW_.map_ren aW_.map_fz aW_.good_a aR_.a_cp aR_.a_bals aR_.pul aR_.ren_a aR_.fz_a aR_.map_ren aR_.map_fz aR_.good_a cS_.a_src cS_.a_tgt cS_.a_root cS_.a_vals cS_.pul cS_.ren_a cS_.fz_a cS_.map_ren cS_.map_fz cS_.good_a df_.a_fst df_.a_snd df_.pul df_.ren_a df_.fz_a df_.map_ren df_.map_fz df_.good_a bV_.a_lim bV_.a_spe bV_.a_boost bV_.a_ttd bV_.a_gen bV_.a_bals bV_.pul bV_.ren_a bV_.fz_a bV_.map_ren bV_.map_fz bV_.good_a al_.a_cfg al_.a_latest al_.a_eqv al_.a_j al_.a_f al_.a_early al_.a_orph al_.a_nodes al_.a_now al_.a_boost al_.a_tabs al_.pul al_.ren_a al_.fz_a al_.map_ren al_.map_fz al_.good_a aN_.a_sto aN_.a_reqs aN_.a_rets aN_.a_tag aN_.a_sent aN_.a_last aN_.a_over aN_.a_halt aN_.pul aN_.ren_a aN_.fz_a aN_.map_ren aN_.map_fz aN_.good_a VOp.a_kind VOp.a_blk VOp.a_att VOp.a_slg VOp.a_tab VOp.a_vdt VOp.a_write VOp.a_keep VOp.pul VOp.ren_a VOp.fz_a VOp.map_ren VOp.map_fz VOp.good_a fp_ wJ_ yC_ gA_ sB_ uc_ hE_ un_ vS_ hC_ uj_ vO_ fD_ ul_ vQ_ hD_ um_ vR_ cX_ uk_ vP_ hB_ uh_ vM_ fC_ ui_ vN_ jg_ wI_ yB_
end Go.FH
namespace Go.FH
def om(d s:Nat):ce_:=⟨some d,.mv (.t s),none⟩
def oo(d:Nat)(op:AOp):ce_:=⟨some d,op,none⟩
def on(op:AOp):ce_:=⟨none,op,none⟩
def omg(d s t:Nat)(b:Bool):ce_:=⟨some d,.mv (.t s),some (t,b)⟩
def og(d:Nat)(op:AOp)(t:Nat)(b:Bool):ce_:=⟨some d,op,some (t,b)⟩
def ong(op:AOp)(t:Nat)(b:Bool):ce_:=⟨none,op,some (t,b)⟩
def ci(n:Int):Opd:=.c (.int .i64 n)
def cu(n:Int):Opd:=.c (.int .u64 n)
def cb(b:Bool):Opd:=.c (.bool b)
def cf(n:Nat):Opd:=.c (.fn (.func n) [])
def fA(d o x:Nat):ce_:=⟨some d,.fldA o (.t x),none⟩
def lA(d n x:Nat):ce_:=⟨some d,.ld true n (.t x),none⟩
def lF(d n x:Nat):ce_:=⟨some d,.ld false n (.t x),none⟩
def bI(d:Nat)(o:BinOp)(x y:Nat):ce_:=⟨some d,.bin o (.t x) (.t y),none⟩
def bC(d:Nat)(o:BinOp)(x:Nat)(c:Opd):ce_:=⟨some d,.bin o (.t x) c,none⟩
def sO(n x y:Nat):ce_:=⟨none,.sto n (.t x) (.t y),none⟩
def eX(d i x:Nat):ce_:=⟨some d,.ext i (.t x),none⟩
def lN(d x:Nat):ce_:=⟨some d,.len false (.t x),none⟩
def iX(d e x y:Nat):ce_:=⟨some d,.idxS e (.t x) (.t y),none⟩
def kA(d f x:Nat):ce_:=⟨some d,.call (cf f) [.t x],none⟩
def kB(d f x y:Nat):ce_:=⟨some d,.call (cf f) [.t x,.t y],none⟩
def kC(d f x y z:Nat):ce_:=⟨some d,.call (cf f) [.t x,.t y,.t z],none⟩
def sR(l:List ce_)(x:ad_):ad_:=.seq (.reg l) x
def cN(c:Nat)(x y:ad_):ad_:=.cond (.t c) x y
theorem bd{p q:Prop}(hq:q)(h:Hid q→p:=by(intro hq;dsimp only[om,oo,on,omg,og,ong,ci,cu,cb,cf,fA,lA,lF,bI,bC,sO,eX,lN,iX,kA,kB,kC,sR,cN];exact hq.out)):p:=h ⟨hq⟩
theorem puA{p:Prop}(h:p:=by simp[PuL,Pu,dx_,aL_,bO_,ci_,eH_,el_,pU_,dA_,ic_,id_,dS_,ke_,gF_,gG_,al_.pul,aN_.pul,aW_.pul,aR_.pul,df_.pul,cS_.pul,bV_.pul,VOp.pul,hE_,hC_,fD_,hD_,cX_,hB_,fC_,jg_,fp_,gA_]):p:=h
theorem ah_{fr:Fr}{σ:St}{rs:List eG_}{r:AV}{l:List AV}(hl:cg_ fr σ rs=some l:=by first|rfl|exact evd)(hv:fz σ (List.range σ.length) (es_ l)=r:=by exact evd):
 ∃l,cg_ fr σ rs=some l∧(fz σ (List.range σ.length) (es_ l)=r∨∃r0,fz σ (List.range σ.length) (es_ l)=r0∧Pu r0∧Wk r0 r):=⟨l,hl,.inl hv⟩
section
variable{P:Program}{nt k:Nat}{fr:Fr}{σ:St}{c:Opd}{x y:ad_}{Q:Ex→Fr→St→Prop}{q:Prop}
theorem Rf_(hq:q)(hb:c.ev fr=.bool true:=by exact evd)(h:Hid q→Tri P nt k x Q fr σ:=by(intro hq;(try refine aa_ ?_);exact hq.out)):Tri P nt k (.cond c x y) Q fr σ:=ac_ (h ⟨hq⟩) hb
theorem Re_(hq:q)(hb:c.ev fr=.bool false:=by exact evd)(h:Hid q→Tri P nt k y Q fr σ:=by(intro hq;(try refine aa_ ?_);exact hq.out)):Tri P nt k (.cond c x y) Q fr σ:=ab_ (h ⟨hq⟩) hb
theorem RV_{f:FuncId}{args caps:List AV}{r:AV}{K:AV→St→Prop}(h:PC P f (args++caps) r)(hq:q)(hk:Hid q→K r σ:=by(intro hq;(try refine aa_ ?_);exact hq.out)):fd_ P (.fn (.func f) caps) args σ K:=ae_ h (hk ⟨hq⟩)
theorem Sn_{nv:Nat}{vs vs2:List AV}{ts:List (Nat×AV)}{σ2:St}(zs js:List Nat)(hk:k≤js.length:=by simp)(hfix:js.take k=List.range k:=by rfl)(hnd:js.Nodup:=by simp)(hlt:∀j∈js,j<σ.length:=by simp)(ho:ek_ σ zs (rn js σ.length) js σ2:=by exact evd)
 (hs:et_ σ zs (rn js σ.length) vs vs2:=by exact evd):GC k ⟨nv,vs,ts⟩ σ ⟨nv,vs2,[]⟩ σ2:=GC.mk' zs js hk hfix hnd hlt ho hs
theorem Sg_{rs:List eG_}{r:AV}{σ':St}{l:List AV}{e:Ex}(zs js:List Nat)(he:∀i,e≠.exit i:=by simp)(hl:cg_ fr σ rs=some l:=by first|rfl|exact evd)(hk:k≤js.length:=by simp)(hfix:js.take k=List.range k:=by rfl)(hnd:js.Nodup:=by simp)(hlt:∀j∈js,j<σ.length:=by simp)(ho:ek_ σ zs (rn js σ.length) js σ':=by exact evd)
 (hr:fz σ zs (es_ l)=ren (rn js σ.length) r:=by exact evd):FX_ rs k σ' r e fr σ:=bn_ zs js e he hl hk hfix hnd hlt ho hr
end
set_option linter.unusedVariables false
open Go Go.RowKit
def aK_{α:Type}(f:Nat→α→α)(a:α):Nat→α
 |0=>a
 |n+1=>f n (aK_ f a n)
theorem On_{α:Type}(f:Nat→α→α)(a:α):aK_ f a 0=a:=rfl
theorem MS_(k:IntKind):aq_ k []=[]:=rfl
attribute [go_sem] On_ MS_
theorem bT_{α:Type}(f:Nat→α→α)(a:α)(n:Nat):aK_ f a (n+1)=f n (aK_ f a n):=rfl
theorem hf_{α:Type}{f:Nat→α→α}{a:α}(I:Nat→α→Prop)(h0:I 0 a)(n:Nat)(hs:∀i x,i<n→I i x→I (i+1) (f i x)):∀i,i≤n→I i (aK_ f a i)
 |0,_=>h0
 |i+1,hi=>hs i _ (by omega) (hf_ I h0 n hs i (by omega))
theorem hg_{β:Type}{f:Nat→List β→List β}{a:List β}(h:∀i l,(f i l).length≤l.length+1):∀n,(aK_ f a n).length≤a.length+n
 |0=>Nat.le_refl _
 |n+1=>by rw[bT_];have:=h n (aK_ f a n);have:=hg_ h (a:=a) n;omega
def hL_(p:Nat→Bool):Nat→Nat→Option Nat
 |0,_=>none
 |f+1,i=>if p i=true then some i else hL_ p f (i+1)
def jV_(p:Nat→Bool)(n:Nat):Option Nat:=hL_ p n 0
theorem mT_{p:Nat→Bool}{n i:Nat}(hi:i<n)(h:p i=true):hL_ p (n-i) i=some i:=by
 obtain⟨f,hf⟩:∃f,n-i=f+1:=⟨n-i-1,by omega⟩
 rw[hf];show (if p i=true then _ else _)=_;rw[if_pos h]
theorem mS_{p:Nat→Bool}{n i:Nat}(hi:i<n)(h:p i=false):hL_ p (n-i) i=hL_ p (n-(i+1)) (i+1):=by
 obtain⟨f,hf⟩:∃f,n-i=f+1:=⟨n-i-1,by omega⟩
 rw[hf,show n-(i+1)=f by omega];show (if p i=true then _ else _)=_;rw[if_neg (by simp[h])]
theorem mR_(p:Nat→Bool)(n:Nat):hL_ p (n-n) n=none:=by rw[Nat.sub_self];rfl
theorem zZ_{p:Nat→Bool}:∀ {f i j:Nat},hL_ p f i=some j→i≤j∧j<i+f∧p j=true∧∀k,i≤k→k<j→p k=false
 |0,_,_,h=>by cases h
 | f + 1, i, j, h => by
   unfold hL_ at h;by_cases hp:p i=true
   ·rw[if_pos hp]at h;cases h;exact⟨Nat.le_refl _,by omega,hp,fun k h1 h2=>by omega⟩
   ·rw[if_neg hp]at h;obtain⟨h1,h2,h3,h4⟩:=zZ_ h;refine⟨by omega,by omega,h3,fun k k1 k2=>?_⟩;by_cases hk:k=i
    ·subst hk;simpa using hp
    ·exact h4 k (by omega) k2
theorem zY_{p:Nat→Bool}:∀ {f i:Nat},hL_ p f i=none→∀k,i≤k→k<i+f→p k=false
 |0,_,_,k,h1,h2=>by omega
 | f + 1, i, h, k, h1, h2 => by
   unfold hL_ at h;by_cases hp:p i=true
   ·rw[if_pos hp]at h;cases h
   ·rw[if_neg hp]at h;by_cases hk:k=i
    ·subst hk;simpa using hp
    ·exact zY_ h k (by omega) (by omega)
theorem nz_{p:Nat→Bool}{n j:Nat}(h:jV_ p n=some j):j<n∧p j=true∧∀k,k<j→p k=false:=by
 obtain⟨h1,h2,h3,h4⟩:=zZ_ h;exact⟨by omega,h3,fun k hk=>h4 k (Nat.zero_le _) hk⟩
theorem JU_{p:Nat→Bool}{n:Nat}(h:jV_ p n=none):∀k,k<n→p k=false:=fun k hk=>zY_ h k (Nat.zero_le _) (by omega)
def yI_(p:Nat→Bool):Nat→Option Nat
 |0=>none
 |n+1=>if p n=true then some n else yI_ p n
theorem QQ_(p:Nat→Bool):yI_ p 0=none:=rfl
theorem QP_{p:Nat→Bool}{n:Nat}(h:p n=true):yI_ p (n+1)=some n:=by unfold yI_;rw[if_pos h]
theorem QO_{p:Nat→Bool}{n:Nat}(h:p n=false):yI_ p (n+1)=yI_ p n:=by rw[yI_,if_neg (by simp[h])]
def yD_(o:Option Nat):Int:=match o with
 |some i=>(i:Int)
 |none=>-1
theorem kK_(i:Nat):yD_ (some i)=(i:Int):=rfl
theorem nB_:yD_ none=-1:=rfl
attribute [go_sem] kK_ nB_
end Go.FH
namespace Go.FH
set_option linter.unusedVariables false
set_option linter.unusedSimpArgs false
open Go Go.RowKit
theorem Kz_(ρ:Nat→Nat):cj_ ρ []=[]:=rfl
theorem wl0:IntKind.i64.wrap ((0:Int)+1)=1:=by decide
theorem wl1:IntKind.i64.wrap ((1:Int)+1)=2:=by decide
theorem wl2:IntKind.i64.wrap ((2:Int)+1)=3:=by decide
theorem wl3:IntKind.i64.wrap ((3:Int)+1)=4:=by decide
theorem wl4:IntKind.i64.wrap ((4:Int)+1)=5:=by decide
theorem wl5:IntKind.i64.wrap ((5:Int)+1)=6:=by decide
theorem wl6:IntKind.i64.wrap ((6:Int)+1)=7:=by decide
theorem sw_(k:IntKind)(ns:List Int)(x:Int):aq_ k ns++[[.int k x]]=aq_ k (ns++[x]):=by simp[aq_]
attribute [go_sem] sw_ Kz_ wl0 wl1 wl2 wl3 wl4 wl5 wl6
def Unr(P:Program)(nt k:Nat)(x:ad_)(Q:Ex→Fr→St→Prop):Nat→Fr→St→Prop
 |0,_,_=>False
 |n+1,fr,σ=>Tri P nt k x (fg_ (Unr P nt k x Q n) Q) fr σ
@[congr] theorem Rn_{P:Program}{nt k n:Nat}{c:ad_}{Q:Ex→Fr→St→Prop}{fr fr':Fr}{σ σ':St}(h1:fr=fr')(h2:σ=σ'):Unr P nt k c Q n fr σ=Unr P nt k c Q n fr' σ':=by rw[h1,h2]
section
variable{P:Program}{nt k:Nat}{fr:Fr}{σ:St}
theorem kR_{x:ad_}{Q:Ex→Fr→St→Prop}{n:Nat}(h:Tri P nt k x (fg_ (Unr P nt k x Q n) Q) fr σ):Unr P nt k x Q (n+1) fr σ:=h
theorem lt_{x:ad_}{Q:Ex→Fr→St→Prop}(n:Nat)(h:Unr P nt k x Q n fr σ):Tri P nt k (.loop x) Q fr σ:=by
 refine xn_ (fun m fr σ=>Unr P nt k x Q m fr σ) n h ?_;intro m fr1 σ1 h1;cases m with
 |zero=>exact h1.elim
 | succ m =>
   refine Tri.mono h1 fun e fr2 σ2 hq=>?_
   cases e with
   |normal=>exact⟨m,Nat.lt_succ_self m,hq⟩
   |exit _=>exact hq
   |ret=>exact hq
end
theorem wE_{w:World}{b o:Nat}{vs:List Value}(hn:vs≠[])(h:∀j u,vs[j]?=some u→w.cell? ⟨b,o+j,none⟩=some u):range? w b o vs.length=some vs.toArray:=by
 unfold range?
 have h0:∃u,vs[0]?=some u:=by
  cases vs with
  |nil=>exact absurd rfl hn
  |cons u us=>exact⟨u,rfl⟩
 obtain⟨u0,hu0⟩:=h0;have hc0:=h 0 u0 hu0;unfold World.cell? at hc0;split at hc0
 ·rename_i c t f hb
  simp only at hb
  have key:∀j u,vs[j]?=some u→c[o+j]?=some u:=by
   intro j u hj;have:=h j u hj;unfold World.cell? at this;simp only[hb]at this;simpa using this
  rw[hb];simp only
  have hlen:o+vs.length≤c.size:=by
   have hlt:vs.length-1<vs.length:=by
    have:vs.length≠0:=fun hh=>hn (List.eq_nil_of_length_eq_zero hh)
    omega
   have:=key (vs.length-1) _ (List.getElem?_eq_getElem hlt);have:=(Array.getElem?_eq_some_iff.1 this).1;omega
  rw[if_pos hlen];congr 1;apply Array.ext
  ·simp;omega
  ·intro i h1 h2;have hi:i<vs.length:=by simpa using h2
   have:=key i _ (List.getElem?_eq_getElem hi);rw[Array.getElem?_eq_some_iff]at this;obtain⟨h3,h4⟩:=this;simp[h4]
 ·cases hc0
abbrev pR_(w:World):Env:=⟨fun _=>none,fun _=>False,w⟩
theorem PC.top{P:Program}{f:FuncId}{args:List AV}{r:AV}(h:PC P f args r){w:World}{vs:List Value}(hv:RlS (pR_ w) args vs):
 Calls P f vs.toArray w fun e w'=>(∃v,e=.returned v∧Rl (pR_ w') r v)∧Below w.heap.size w w':=by
 have hF:∀w:World,aM_ (fun _=>False) (fun _=>none) [] w=pR_ w:=by
  intro w;unfold aM_ pR_;congr 1;funext b
  apply propext
  constructor
  ·rintro (h|⟨id,o,L,h1,_⟩)
   ·exact h
   ·simp at h1
  ·exact fun h=>h.elim
 have hr:Rel (fun _=>False) (fun _=>none) [] w:=⟨fun id o h=>by simp at h,fun i j a b La Lb _ h=>by simp at h,fun b h=>h.elim,fun _ _=>rfl⟩;refine(h.call.2.2 _ _ w vs hr (by rw[hF];exact hv)).mono ?_;rintro e w' ⟨v,loc',rfl,ho,_⟩;refine⟨⟨v,rfl,?_⟩,ho.ev.below fun b _ hb=>?_⟩
 ·have hl:loc'=fun _=>none:=funext fun id=>ho.rel.beyond id (Nat.zero_le _)
  have:=ho.val;rw[hl,hF]at this;exact this
 ·obtain⟨id,o,L,h1,_⟩:=hb;simp at h1
theorem PC.law{P:Program}{f:FuncId}{args:List AV}(h:PC P f args (.bool true)){w:World}{vs:List Value}(hv:RlS (pR_ w) args vs):
 Calls P f vs.toArray w fun e w'=>e=.returned (.bool true)∧Below w.heap.size w w':=
 (h.top hv).mono fun e w' ⟨⟨v,h1,h2⟩,h3⟩=>⟨by rw[h1];exact congrArg Ending.returned h2,h3⟩
inductive Sh where
 |bool
 |int (k:IntKind)
 |arr (n:Nat) (s:Sh)
 |sl (s:Sh)
 |st (ss:List Sh)
mutual
def Sh.size:Sh→Nat
 |.bool=>1
 |.int _=>1
 |.sl _=>1
 |.arr n s=>n*s.size
 |.st ss=>Sh.sizes ss
def Sh.sizes:List Sh→Nat
 | []=>0
 |s::ss=>s.size+Sh.sizes ss
end
mutual
inductive Opn:Sh→List AV→Prop
 |bool (b:Bool):Opn .bool [.bool b]
 |int (k:IntKind) (n:Int) (h:(Lit.int k n).wf=true):Opn (.int k) [.int k n]
 |arr (n:Nat) (s:Sh) (xs:List (List AV)) (hl:xs.length=n) (h:∀x∈xs,Opn s x):Opn (.arr n s) xs.flatten
 |sl (s:Sh) (xs:List (List AV)) (hl:xs.length≤maxLen) (h:∀x∈xs,Opn s x):Opn (.sl s) [.sl s.size false xs]
 |st (ss:List Sh) (cs:List AV) (h:uR_ ss cs):Opn (.st ss) cs
inductive uR_:List Sh→List AV→Prop
 |nil:uR_ [] []
 |cons (s:Sh) (ss:List Sh) (a b:List AV) (h:Opn s a) (hs:uR_ ss b):uR_ (s::ss) (a++b)
end
mutual
def vW_(P:Program):Sh→TypeId→Bool
 | .bool, t => match P.underlying t with
   |some .bool=>true
   |_=>false
 | .int k, t => match P.underlying t with
   |some (.int k')=>k==k'
   |_=>false
 | .arr n s, t => match P.underlying t with
   |some (.array m e)=>m==n&&P.cellsOf e==s.size&&P.cellsOf t==n*s.size&&vW_ P s e
   |_=>false
 | .sl s, t => match P.underlying t with
   |some (.slice e)=>P.cellsOf e==s.size&&decide (0<s.size)&&vW_ P s e
   |_=>false
 | .st ss, t => match P.underlying t with
   |some (.struct fs)=>P.cellsOf t==Sh.sizes ss&&Ae_ P ss fs.toList 0
   |_=>false
def Ae_(P:Program):List Sh→List Field→Nat→Bool
 | [],[],_=>true
 |s::ss,f::fs,o=>f.offset==o&&P.cellsOf f.type==s.size&&vW_ P s f.type&&Ae_ P ss fs (o+s.size)
 |_,_,_=>false
end
section
variable{H:Type}{enc:TypeId×Value→H}{P:Program}{w:World}
theorem LD_{s:Sh}{k:Nat}:∀ (n:Nat) (cs:List Value),cs.length=n*k→(∀i,i<n→∃avs,Opn s avs∧RlC (pR_ w) avs ((cs.drop (i*k)).take k))→
 ∃xs:List (List AV),xs.length=n∧(∀x∈xs,Opn s x)∧RlC (pR_ w) xs.flatten cs
 |0,cs,hl,_=>⟨[],rfl,by simp,by have:cs=[]:=List.eq_nil_of_length_eq_zero (by omega);subst this;rfl⟩
 | n + 1, cs, hl, h => by
   have hk:(n+1)*k=k+n*k:=by rw[Nat.succ_mul];omega
   obtain⟨a,ha,hr⟩:=h 0 (by omega)
   obtain⟨xs,h1,h2,h3⟩:=LD_ (s:=s) (k:=k) n (cs.drop k) (by rw[List.length_drop,hl,hk];omega) (fun i hi=>by
    obtain⟨b,hb,hr⟩:=h (i+1) (by omega);refine⟨b,hb,?_⟩;rw[List.drop_drop,show k+i*k=(i+1)*k by rw[Nat.succ_mul];omega];exact hr)
   refine⟨a::xs,by simp[h1],fun x hx=>?_,?_⟩
   ·rcases List.mem_cons.1 hx with rfl|hx
    ·exact ha
    ·exact h2 x hx
   ·have e:cs=cs.take k++cs.drop k:=(List.take_append_drop k cs).symm;rw[e];simp only[Nat.zero_mul,List.drop_zero]at hr;exact RlC.app hr h3
theorem Qo_{s:Sh}{k:Nat}{b off:Nat}:∀ (n:Nat) (o:Nat),(∀i,i<n→∃avs us,Opn s avs∧RlC (pR_ w) avs us∧us.length=k∧∀j,j<k→w.cell? ⟨b,off+(o+i*k+j),none⟩=us[j]?)→
 ∃ (xs:List (List AV)) (vs:List Value),xs.length=n∧(∀x∈xs,Opn s x)∧vs.length=n*k∧RlE (pR_ w) k xs vs∧∀j,j<n*k→w.cell? ⟨b,off+(o+j),none⟩=vs[j]?
 |0,o,_=>⟨[],[],rfl,by simp,by simp,rfl,fun j hj=>by omega⟩
 | n + 1, o, h => by
   obtain⟨a,us,ha,hr,hl,hc⟩:=h 0 (by omega)
   obtain⟨xs,vs,h1,h2,h3,h4,h5⟩:=Qo_ n (o+k) (fun i hi=>by
    obtain⟨a,us,ha,hr,hl,hc⟩:=h (i+1) (by omega);refine⟨a,us,ha,hr,hl,fun j hj=>?_⟩;have:=hc j hj;rwa [show off+(o+(i+1)*k+j)=off+(o+k+i*k+j)by rw[Nat.succ_mul];omega]at this)
   refine⟨a::xs,us++vs,by simp[h1],fun x hx=>?_,?_,⟨us,vs,rfl,hl,hr,h4⟩,fun j hj=>?_⟩
   ·rcases List.mem_cons.1 hx with rfl|hx
    ·exact ha
    ·exact h2 x hx
   ·rw[List.length_append,hl,h3,Nat.succ_mul];omega
   ·by_cases hjk:j<k
    ·have:=hc j hjk;rw[List.getElem?_append_left (by omega)];simpa using this
    ·have:=h5 (j-k) (by rw[Nat.succ_mul]at hj;omega);rw[List.getElem?_append_right (by omega),hl,←this];congr 2;omega
mutual
theorem Cs_:∀ (s:Sh) (t:TypeId) (fuel:Nat) (cs:List Value) (x:DataW H×List MemPlace),vW_ P s t=true→DataW.trod enc P w 0 (fun _=>true) true fuel t cs=some x→∃avs,Opn s avs∧RlC (pR_ w) avs cs
 | .bool, t, fuel, cs, x, hs, h => by
   unfold vW_ at hs;split at hs<;>try cases hs
   rename_i ht;cases fuel with
   |zero=>simp[DataW.trod]at h
   | succ n =>
     unfold DataW.trod at h;rw[ht]at h;split at h<;>simp_all
     exact⟨_,.bool _,_,[],rfl,rfl,rfl,rfl⟩
 | .int k, t, fuel, cs, x, hs, h => by
   unfold vW_ at hs;split at hs<;>try cases hs
   rename_i k' ht;obtain⟨n,rfl,_,hw⟩:=DataW.trod_int ht h;have:k=k':=by simpa using hs
   subst this;exact⟨_,.int _ _ hw,_,[],rfl,rfl,rfl,rfl⟩
 | .arr n s, t, fuel, cs, x, hs, h => by
   unfold vW_ at hs;split at hs<;>try cases hs
   rename_i m e ht;simp only[Bool.and_eq_true,beq_iff_eq]at hs;obtain⟨⟨⟨rfl,hc⟩,hct⟩,hi⟩:=hs;obtain⟨xs,fl,rfl,rfl,hl,hx,he⟩:=DataW.trod_array ht h;rw[hct]at hl
   obtain⟨xs,h1,h2,h3⟩:=LD_ (s:=s) (w:=w) m cs hl (fun i hin=>by
    have h1:=he i hin;rw[hc,List.getElem?_eq_getElem (by omega)]at h1;exact Cs_ s e _ _ _ hi h1)
   exact⟨_,.arr _ _ _ h1 h2,h3⟩
 | .sl s, t, fuel, cs, x, hs, h => by
   unfold vW_ at hs;split at hs<;>try cases hs
   rename_i e ht;simp only[Bool.and_eq_true,beq_iff_eq,decide_eq_true_eq]at hs;obtain⟨⟨hc,hp⟩,hi⟩:=hs;rcases DataW.trod_slice ht h with⟨rfl,_⟩|⟨a,len,cap,elems,rest,n,_,rfl,rfl,hb,hl,hm,hlen,hel,hsp,hns⟩
   ·exact⟨_,.sl s [] (by simp) (by simp),_,[],rfl,rfl,⟨none,0,0,rfl,rfl,Nat.le_refl _,by simp[maxLen],fun _=>rfl,fun _=>rfl,.inl rfl⟩,rfl⟩
   ·by_cases h0:len=0
    ·subst h0;exact⟨_,.sl s [] (by simp) (by simp),_,[],rfl,rfl,⟨some a,0,cap,rfl,rfl,hl,hm,(fun h=>Bool.noConfusion h),(fun h=>by cases h),.inl rfl⟩,rfl⟩
    have each:∀i,i<len→∃avs us,Opn s avs∧RlC (pR_ w) avs us∧us.length=s.size∧∀j,j<s.size→w.cell? ((a.add (i*s.size)).add j)=us[j]?:=by
     intro i hin;have h1:=hel i hin;rw[hc,List.getElem?_eq_getElem (by omega),Option.bind_eq_some_iff]at h1;obtain⟨us,h2,h3⟩:=h1;obtain⟨_,h5,h6⟩:=World.cells?_some h2;obtain⟨avs,h7,h8⟩:=Cs_ s e _ _ _ hi h3;exact⟨avs,us,h7,h8,h5,h6⟩
    obtain⟨b,off,spot⟩:=a;obtain⟨_,us,_,_,hul,hcc⟩:=each 0 (by omega);have hc0:=hcc 0 hp;rw[List.getElem?_eq_getElem (by omega)]at hc0;have hspot:spot=none:=by simpa[Addr.add]using World.cell?_spot hc0
    subst hspot
    obtain⟨xs,vs,h1,h2,h3,h4,h5⟩:=Qo_ (s:=s) (w:=w) (k:=s.size) (b:=b) (off:=off) len 0 (fun i hin=>by
     obtain⟨avs,us,g1,g2,g3,g4⟩:=each i hin;refine⟨avs,us,g1,g2,g3,fun j hj=>?_⟩;rw[←g4 j hj,WideShapes.add_plain,WideShapes.add_plain];congr 2;omega)
    have hne:vs≠[]:=by
     intro hh;subst hh;simp only[List.length_nil]at h3;have:=Nat.mul_pos (Nat.pos_of_ne_zero h0) hp;omega
    have hrange:=wE_ (w:=w) (b:=b) (o:=off) hne (fun j u hj=>by
     have hjl:=(List.getElem?_eq_some_iff.1 hj).1;rw[←hj,←h5 j (by omega)];congr 2;omega)
    rw[h3]at hrange
    have hblk:b<w.heap.size:=by
     rw[WideShapes.add_plain,WideShapes.add_plain]at hc0;exact World.block_lt_of_cell? w _ hc0
    exact⟨_,.sl s xs (by omega) h2,_,[],rfl,rfl,⟨_,len,cap,rfl,h1.symm,hl,hm,(fun h=>Bool.noConfusion h),(fun h=>by cases h),.inr ⟨b,off,vs,rfl,hblk,fun hf=>hf,hrange,h4⟩⟩,rfl⟩
 | .st ss, t, fuel, cs, x, hs, h => by
   unfold vW_ at hs;split at hs<;>try cases hs
   rename_i fs ht;simp only[Bool.and_eq_true,beq_iff_eq]at hs;obtain⟨hc,hi⟩:=hs;obtain⟨xs,n,rfl,_,hl,hxs,he⟩:=DataW.trod_struct ht h
   obtain⟨avs,h1,h2⟩:=Il_ ss fs.toList 0 cs hi (fun f hf=>by
    obtain⟨i,hi⟩:=List.getElem?_of_mem hf;have h1:=he i f (by simpa using hi);have hil:=(List.getElem?_eq_some_iff.1 hi).1;rw[Array.length_toList]at hil;rw[List.getElem?_eq_getElem (by omega)]at h1;exact⟨_,_,h1⟩) (by omega)
   exact⟨avs,.st _ _ h1,h2⟩
theorem Il_:∀ (ss:List Sh) (fs:List Field) (o:Nat) (cs:List Value),Ae_ P ss fs o=true→
 (∀f∈fs,∃ (fuel:Nat) (x:DataW H×List MemPlace),DataW.trod enc P w 0 (fun _=>true) true fuel f.type ((cs.drop f.offset).take (P.cellsOf f.type))=some x)→cs.length=o+Sh.sizes ss→∃avs,uR_ ss avs∧RlC (pR_ w) avs (cs.drop o)
 | [],[],o,cs,_,_,hl=>⟨[],.nil,by rw[List.drop_of_length_le (by simp[Sh.sizes]at hl;omega)];rfl⟩
 | [],_::_,o,cs,hs,_,_=>by simp[Ae_]at hs
 |_::_,[],o,cs,hs,_,_=>by simp[Ae_]at hs
 | s :: ss, f :: fs, o, cs, hs, hf, hl => by
   simp only[Ae_,Bool.and_eq_true,beq_iff_eq]at hs;obtain⟨⟨⟨rfl,hc⟩,hi⟩,hr⟩:=hs;simp only[Sh.sizes]at hl;obtain⟨fuel,x,hx⟩:=hf f (by simp);obtain⟨a,ha,hra⟩:=Cs_ s f.type fuel _ x hi hx;obtain⟨b,hb,hrb⟩:=Il_ ss fs (f.offset+s.size) cs hr (fun g hg=>hf g (by simp[hg])) (by omega);refine⟨a++b,.cons _ _ _ _ ha hb,?_⟩;have e:cs.drop f.offset=(cs.drop f.offset).take s.size++cs.drop (f.offset+s.size):=by rw[←List.drop_drop,List.take_append_drop]
   rw[e];rw[hc]at hra;exact RlC.app hra hrb
end
theorem MZ_{t e:TypeId}{v:Value}{d:DataW H}{p:List MemPlace}{r:Reach}{base:Nat}(s:Sh)(hs:vW_ P (.sl s) t=true)(hv:Value.okWide P w r base t v)(hd:DataW.Trod enc P w 0 (fun _=>true) true t v d p)
 (ht:P.underlying t=some (.slice e)):∃xs,xs.length≤maxLen∧(∀x∈xs,Opn s x)∧Rl (pR_ w) (.sl s.size false xs) v:=by
 obtain⟨fuel,hf⟩:=hd;obtain⟨b,l,c,rfl⟩:=WideShapes.okWide_slice ht hv;obtain⟨avs,h1,h2⟩:=Cs_ _ t fuel _ _ hs hf;cases h1 with
 | sl s xs hl h =>
   obtain⟨u,us,h3,_,h4,h5⟩:=h2;simp only[Value.cells,List.cons.injEq]at h3;obtain⟨rfl,rfl⟩:=h3;exact⟨xs,hl,h,h4⟩
theorem kL_{t:TypeId}{v:Value}{d:DataW H}{p:List MemPlace}{r:Reach}{base:Nat}(k:IntKind)(ht:P.underlying t=some (.int k))(hv:Value.okWide P w r base t v)(hd:DataW.Trod enc P w 0 (fun _=>true) true t v d p):
 ∃n,(Lit.int k n).wf=true∧Rl (pR_ w) (.int k n) v:=by
 obtain⟨n,rfl,_,_,hw⟩:=ChangeShapes.open_int ht hv hd;exact⟨n,hw,rfl⟩
end
theorem Opn.ints{k:IntKind}:∀ {xs:List (List AV)},(∀x∈xs,Opn (.int k) x)→∃ns:List Int,xs=aq_ k ns∧∀n∈ns,(Lit.int k n).wf=true
 | [],_=>⟨[],rfl,by simp⟩
 | x :: xs, h => by
   obtain⟨ns,rfl,h2⟩:=Opn.ints (xs:=xs) (fun y hy=>h y (by simp[hy]));cases h x (by simp)with
   | int k n hw =>
     refine⟨n::ns,rfl,fun m hm=>?_⟩;rcases List.mem_cons.1 hm with rfl|hm
     ·exact hw
     ·exact h2 m hm
theorem Ih_:∀ {ns:List Int},(∀n∈ns,(Lit.int .u8 n).wf=true)→∃bs:List UInt8,aq_ .u8 ns=bts bs∧bs.length=ns.length
 | [],_=>⟨[],rfl,rfl⟩
 | n :: ns, h => by
   obtain⟨bs,h1,h2⟩:=Ih_ (ns:=ns) (fun m hm=>h m (by simp[hm]));have hb:=bounds_u8 (h n (by simp));refine⟨UInt8.ofNat n.toNat::bs,?_,by simp[h2]⟩;have e:((UInt8.ofNat n.toNat).toNat:Int)=n:=by rw[UInt8.toNat_ofNat'];omega
   rw[LN_,e,←h1];rfl
theorem Opn.rt{cs:List AV}(h:Opn (.arr 32 (.int .u8)) cs):∃r:Rt,cs=rtc r:=by
 cases h with
 | arr n s xs hl h =>
   obtain⟨ns,rfl,hw⟩:=Opn.ints h;obtain⟨bs,h1,h2⟩:=Ih_ hw;rw[gV_]at hl;exact⟨⟨bs,by omega⟩,by rw[h1,tj_];rfl⟩
theorem Opn.wd{cs:List AV}(h:Opn (.arr 4 (.int .u64)) cs):∃a:Wd,cs=wdc a∧∀n∈a.1,0≤n∧n<18446744073709551616:=by
 cases h with
 | arr n s xs hl h =>
   obtain⟨ns,rfl,hw⟩:=Opn.ints h;rw[gV_]at hl;refine⟨⟨ns,hl⟩,?_,fun n hn=>?_⟩
   ·show _=ns.map _
    clear hl hw h;induction ns with
    |nil=>rfl
    |cons n ns ih=>simp only[aq_,List.map_cons,List.flatten_cons]at ih ⊢;rw[ih];rfl
   ·have:=bounds_u64 (hw n hn);omega
theorem Opn.inv_st{ss:List Sh}{cs:List AV}(h:Opn (.st ss) cs):uR_ ss cs:=by
 cases h with
 |st _ _ h=>exact h
theorem uR_.inv_cons{s:Sh}{ss:List Sh}{cs:List AV}(h:uR_ (s::ss) cs):∃a b,cs=a++b∧Opn s a∧uR_ ss b:=by
 cases h with
 |cons _ _ a b h hs=>exact⟨a,b,rfl,h,hs⟩
theorem uR_.inv_nil{cs:List AV}(h:uR_ [] cs):cs=[]:=by
 cases h;rfl
theorem Opn.inv_int{k:IntKind}{cs:List AV}(h:Opn (.int k) cs):∃n,(Lit.int k n).wf=true∧cs=[.int k n]:=by
 cases h with
 |int _ n h=>exact⟨n,h,rfl⟩
theorem Opn.inv_bool{cs:List AV}(h:Opn .bool cs):∃b,cs=[.bool b]:=by
 cases h with
 |bool b=>exact⟨b,rfl⟩
theorem Opn.inv_nums{k:IntKind}{cs:List AV}(h:Opn (.sl (.int k)) cs):∃ns:List Int,ns.length≤maxLen∧(∀n∈ns,(Lit.int k n).wf=true)∧cs=[.sl 1 false (aq_ k ns)]:=by
 cases h with
 | sl _ xs hl h =>
   obtain⟨ns,rfl,hw⟩:=Opn.ints h;exact⟨ns,by rwa [gV_]at hl,hw,rfl⟩
section
variable{H:Type}{enc:TypeId×Value→H}{P:Program}{w:World}
theorem sy_{t e:TypeId}{v:Value}{d:DataW H}{p:List MemPlace}{r:Reach}{base:Nat}(k:IntKind)(hs:vW_ P (.sl (.int k)) t=true)(hv:Value.okWide P w r base t v)(hd:DataW.Trod enc P w 0 (fun _=>true) true t v d p)
 (ht:P.underlying t=some (.slice e)):∃ns:List Int,ns.length≤maxLen∧(∀n∈ns,(Lit.int k n).wf=true)∧Rl (pR_ w) (.sl 1 false (aq_ k ns)) v:=by
 obtain⟨xs,hl,h,hr⟩:=MZ_ (.int k) hs hv hd ht;obtain⟨ns,rfl,hw⟩:=Opn.ints h;exact⟨ns,by rwa [gV_]at hl,hw,hr⟩
end
structure Cp.Ok(x:Cp):Prop where
 ep:(Lit.int .u64 x.ep).wf=true
abbrev cpS:Sh:=.st [.int .u64,.arr 32 (.int .u8)]
theorem Opn.cp{cs:List AV}(h:Opn cpS cs):∃x:Cp,cs=cpC x∧x.Ok:=by
 have h:=h.inv_st;obtain⟨a0,b0,rfl,h0,h⟩:=h.inv_cons;obtain⟨a1,b1,rfl,h1,h⟩:=h.inv_cons;have h:=h.inv_nil;subst h;obtain⟨n0,w0,rfl⟩:=h0.inv_int;obtain⟨n1,rfl⟩:=h1.rt;exact⟨⟨n0,n1⟩,by simp only[cpC,List.cons_append,List.nil_append,List.append_nil,List.append_assoc],⟨w0⟩⟩
structure Pul.Ok(x:Pul):Prop where
 j:x.j.Ok
 f:x.f.Ok
abbrev RF_:Sh:=.st [cpS,cpS]
theorem Opn.pul{cs:List AV}(h:Opn RF_ cs):∃x:Pul,cs=cT_ x∧x.Ok:=by
 have h:=h.inv_st;obtain⟨a0,b0,rfl,h0,h⟩:=h.inv_cons;obtain⟨a1,b1,rfl,h1,h⟩:=h.inv_cons;have h:=h.inv_nil;subst h;obtain⟨n0,rfl,w0⟩:=h0.cp;obtain⟨n1,rfl,w1⟩:=h1.cp;exact⟨⟨n0,n1⟩,by simp only[cT_,List.cons_append,List.nil_append,List.append_nil,List.append_assoc],⟨w0,w1⟩⟩
structure Blk.Ok(x:Blk):Prop where
 pul:x.pul.Ok
 slot:(Lit.int .u64 x.slot).wf=true
 diff:∀n∈x.diff.1,0≤n∧n<18446744073709551616
 pdiff:∀n∈x.pdiff.1,0≤n∧n<18446744073709551616
 just:x.just.Ok
 fin:x.fin.Ok
abbrev Sc_:Sh:=.st [RF_,.int .u64,.arr 32 (.int .u8),.arr 32 (.int .u8),.arr 32 (.int .u8),.arr 4 (.int .u64),.arr 4 (.int .u64),cpS,cpS,.bool]
theorem Opn.blk{cs:List AV}(h:Opn Sc_ cs):∃x:Blk,cs=aw_ x∧x.Ok:=by
 have h:=h.inv_st;obtain⟨a0,b0,rfl,h0,h⟩:=h.inv_cons;obtain⟨a1,b1,rfl,h1,h⟩:=h.inv_cons;obtain⟨a2,b2,rfl,h2,h⟩:=h.inv_cons;obtain⟨a3,b3,rfl,h3,h⟩:=h.inv_cons;obtain⟨a4,b4,rfl,h4,h⟩:=h.inv_cons;obtain⟨a5,b5,rfl,h5,h⟩:=h.inv_cons;obtain⟨a6,b6,rfl,h6,h⟩:=h.inv_cons;obtain⟨a7,b7,rfl,h7,h⟩:=h.inv_cons;obtain⟨a8,b8,rfl,h8,h⟩:=h.inv_cons;obtain⟨a9,b9,rfl,h9,h⟩:=h.inv_cons;have h:=h.inv_nil;subst h;obtain⟨n0,rfl,w0⟩:=h0.pul;obtain⟨n1,w1,rfl⟩:=h1.inv_int;obtain⟨n2,rfl⟩:=h2.rt;obtain⟨n3,rfl⟩:=h3.rt;obtain⟨n4,rfl⟩:=h4.rt;obtain⟨n5,rfl,w5⟩:=h5.wd;obtain⟨n6,rfl,w6⟩:=h6.wd;obtain⟨n7,rfl,w7⟩:=h7.cp;obtain⟨n8,rfl,w8⟩:=h8.cp;obtain⟨n9,rfl⟩:=h9.inv_bool;exact⟨⟨n0,n1,n2,n3,n4,n5,n6,n7,n8,n9⟩,by simp only[aw_,List.cons_append,List.nil_append,List.append_nil,List.append_assoc],⟨w0,w1,w5,w6,w7,w8⟩⟩
structure Att.Ok(x:Att):Prop where
 slot:(Lit.int .u64 x.slot).wf=true
 target:x.target.Ok
 vals:∃ns:List Int,x.vals=.sl 1 false (aq_ .i64 ns)∧ns.length≤maxLen∧∀n∈ns,(Lit.int .i64 n).wf=true
abbrev rO_:Sh:=.st [.int .u64,.arr 32 (.int .u8),cpS,.sl (.int .i64)]
theorem Opn.att{cs:List AV}(h:Opn rO_ cs):∃x:Att,cs=aX_ x∧x.Ok:=by
 have h:=h.inv_st;obtain⟨a0,b0,rfl,h0,h⟩:=h.inv_cons;obtain⟨a1,b1,rfl,h1,h⟩:=h.inv_cons;obtain⟨a2,b2,rfl,h2,h⟩:=h.inv_cons;obtain⟨a3,b3,rfl,h3,h⟩:=h.inv_cons;have h:=h.inv_nil;subst h;obtain⟨n0,w0,rfl⟩:=h0.inv_int;obtain⟨n1,rfl⟩:=h1.rt;obtain⟨n2,rfl,w2⟩:=h2.cp;obtain⟨n3,l3,w3,rfl⟩:=h3.inv_nums;exact⟨⟨n0,n1,n2,_⟩,by simp only[aX_,List.cons_append,List.nil_append,List.append_nil,List.append_assoc],⟨w0,w2,⟨n3,rfl,l3,w3⟩⟩⟩
structure Clm.Ok(x:Clm):Prop where
 src:(Lit.int .u64 x.src).wf=true
 tgt:(Lit.int .u64 x.tgt).wf=true
 vals:∃ns:List Int,x.vals=.sl 1 false (aq_ .i64 ns)∧ns.length≤maxLen∧∀n∈ns,(Lit.int .i64 n).wf=true
abbrev QI_:Sh:=.st [.int .u64,.int .u64,.arr 32 (.int .u8),.sl (.int .i64)]
theorem Opn.clm{cs:List AV}(h:Opn QI_ cs):∃x:Clm,cs=bC_ x∧x.Ok:=by
 have h:=h.inv_st;obtain⟨a0,b0,rfl,h0,h⟩:=h.inv_cons;obtain⟨a1,b1,rfl,h1,h⟩:=h.inv_cons;obtain⟨a2,b2,rfl,h2,h⟩:=h.inv_cons;obtain⟨a3,b3,rfl,h3,h⟩:=h.inv_cons;have h:=h.inv_nil;subst h;obtain⟨n0,w0,rfl⟩:=h0.inv_int;obtain⟨n1,w1,rfl⟩:=h1.inv_int;obtain⟨n2,rfl⟩:=h2.rt;obtain⟨n3,l3,w3,rfl⟩:=h3.inv_nums;exact⟨⟨n0,n1,n2,_⟩,by simp only[bC_,List.cons_append,List.nil_append,List.append_nil,List.append_assoc],⟨w0,w1,⟨n3,rfl,l3,w3⟩⟩⟩
structure Slg.Ok(x:Slg):Prop where
 fst:x.fst.Ok
 snd:x.snd.Ok
abbrev Si_:Sh:=.st [QI_,QI_]
theorem Opn.slg{cs:List AV}(h:Opn Si_ cs):∃x:Slg,cs=bI_ x∧x.Ok:=by
 have h:=h.inv_st;obtain⟨a0,b0,rfl,h0,h⟩:=h.inv_cons;obtain⟨a1,b1,rfl,h1,h⟩:=h.inv_cons;have h:=h.inv_nil;subst h;obtain⟨n0,rfl,w0⟩:=h0.clm;obtain⟨n1,rfl,w1⟩:=h1.clm;exact⟨⟨n0,n1⟩,by simp only[bI_,List.cons_append,List.nil_append,List.append_nil,List.append_assoc],⟨w0,w1⟩⟩
structure Tab.Ok(x:Tab):Prop where
 cp:x.cp.Ok
 bals:∃ns:List Int,x.bals=.sl 1 false (aq_ .u64 ns)∧ns.length≤maxLen∧∀n∈ns,(Lit.int .u64 n).wf=true
abbrev Sl_:Sh:=.st [cpS,.sl (.int .u64)]
theorem Opn.tab{cs:List AV}(h:Opn Sl_ cs):∃x:Tab,cs=aS_ x∧x.Ok:=by
 have h:=h.inv_st;obtain⟨a0,b0,rfl,h0,h⟩:=h.inv_cons;obtain⟨a1,b1,rfl,h1,h⟩:=h.inv_cons;have h:=h.inv_nil;subst h;obtain⟨n0,rfl,w0⟩:=h0.cp;obtain⟨n1,l1,w1,rfl⟩:=h1.inv_nums;exact⟨⟨n0,_⟩,by simp only[aS_,List.cons_append,List.nil_append,List.append_nil,List.append_assoc],⟨w0,⟨n1,rfl,l1,w1⟩⟩⟩
structure Vdt.Ok(x:Vdt):Prop where
 tag:(Lit.int .u64 x.tag).wf=true
 kind:(Lit.int .i64 x.kind).wf=true
abbrev Sm_:Sh:=.st [.st [.int .u64],.int .i64,.arr 32 (.int .u8)]
theorem Opn.vdt{cs:List AV}(h:Opn Sm_ cs):∃x:Vdt,cs=bW_ x∧x.Ok:=by
 have h:=h.inv_st;obtain⟨a0,b0,rfl,h0,h⟩:=h.inv_cons;obtain⟨a1,b1,rfl,h1,h⟩:=h.inv_cons;obtain⟨a2,b2,rfl,h2,h⟩:=h.inv_cons;have h:=h.inv_nil;subst h;obtain⟨y0,z0,rfl,g0,q0⟩:=h0.inv_st.inv_cons;have q0:=q0.inv_nil;subst q0;obtain⟨n0,w0,rfl⟩:=g0.inv_int;obtain⟨n1,w1,rfl⟩:=h1.inv_int;obtain⟨n2,rfl⟩:=h2.rt;exact⟨⟨n0,n1,n2⟩,by simp only[bW_,List.cons_append,List.nil_append,List.append_nil,List.append_assoc],⟨w0,w1⟩⟩
structure SOp.Ok(x:SOp):Prop where
 kind:(Lit.int .i64 x.kind).wf=true
 blk:x.blk.Ok
 att:x.att.Ok
 slg:x.slg.Ok
 tab:x.tab.Ok
 vdt:x.vdt.Ok
 write:(Lit.int .i64 x.write).wf=true
 keep:(Lit.int .i64 x.keep).wf=true
section
variable{P:Program}{σ:St}
theorem sp_{n:Nat}{loc:Nat→Option Loc}{b:Nat}:¬aE_ (List.replicate n .gone) loc b:=by
 rintro⟨id,o,L,h1,h2,_⟩;rw[List.getElem?_replicate]at h1;split at h1
 ·simp only[Option.some.injEq]at h1;subst h1;cases h2
 ·cases h1
theorem ar_.give{f:FuncId}{args:List AV}{r:AV}(h:PC P f (fzL σ (List.range σ.length) args) r):ar_ P f args σ r (List.replicate σ.length .gone):=by
 refine⟨h.call.1,by simp,fun X loc w vs hr hv=>?_⟩;obtain⟨loc2,g1,g2,g3,g4⟩:=(lj_ σ (List.range σ.length)).rel hr;have hpu:=h.pa
 have hv2:RlS (aM_ X loc2 [] w) (fzL σ (List.range σ.length) args) vs:=by
  have key:∀ {xs:List AV} {us:List Value},PuL (fzL σ (List.range σ.length) xs)→RlS (aM_ X loc σ w) xs us→RlS (aM_ X loc2 [] w) (fzL σ (List.range σ.length) xs) us:=by
   intro xs;induction xs with
   |nil=>intro us _ hv;exact hv
   | cons a xs ih =>
     intro us hp hv;obtain⟨u,us',e,h1,h2⟩:=hv;exact⟨u,us',e,g4 a u h1 _ (hp.1.ren _).symm,ih hp.2 h2⟩
  exact key hpu hv
 refine(h.call.2.2 X loc2 w vs g2 hv2).mono ?_;rintro e w' ⟨v,loc',rfl,ho,_⟩;have hl:loc'=fun _=>none:=funext fun id=>ho.rel.beyond id (Nat.zero_le _)
 have hnl:∀b,¬aE_ [] loc' b:=fun b hd=>by obtain⟨id,o,L,h1,_⟩:=hd;simp at h1
 refine⟨v,loc,rfl,⟨fun _ _ h=>h,⟨fun id o h1 h2=>?_,fun i j a b La Lb _ h1 _ h3=>?_,fun b hb=>⟨Nat.lt_of_lt_of_le (hr.out b hb).1 ho.ev.size,sp_⟩,fun id hid=>hr.beyond id (by simpa using hid)⟩,?_,⟨ho.ev.size,fun b hb hn=>ho.ev.blk b hb (fun hd=>by obtain⟨id,o,L,h1,_⟩:=hd;simp at h1),ho.ev.os,ho.ev.tape,ho.ev.output⟩,fun b hb=>absurd hb sp_⟩,fun _ _=>rfl⟩
 ·rw[List.getElem?_replicate]at h1;split at h1
  ·simp only[Option.some.injEq]at h1;subst h1;cases h2
  ·cases h1
 ·rw[List.getElem?_replicate]at h1;split at h1
  ·simp only[Option.some.injEq]at h1;subst h1;cases h3
  ·cases h1
 ·refine Rl.mono (E:=aM_ X loc' [] w') (E':=aM_ X loc (List.replicate σ.length .gone) w') ⟨fun id L hL=>?_,Nat.le_refl _,fun b hb hn=>⟨fun(hf:X b∨aE_ _ loc b)=>hn (hf.elim .inl fun hd=>absurd hd sp_),rfl⟩⟩ _ _ ho.val;have hL2:loc' id=some L:=hL;rw[hl]at hL2;cases hL2
end
def Li_(σ:St)(zs:List Nat)(ρ:Nat→Nat)(ts:List (Nat×AV)):List (Nat×AV)→Prop
 | []=>True
 |p::r=>fz σ zs (nb_ ts p.1)=ren ρ p.2∧Li_ σ zs ρ ts r
theorem Li_.get{σ:St}{zs:List Nat}{ρ:Nat→Nat}{ts:List (Nat×AV)}(t:Nat):∀ {ts2:List (Nat×AV)},Li_ σ zs ρ ts ts2→nb_ ts2 t=.dead∨fz σ zs (nb_ ts t)=ren ρ (nb_ ts2 t)
 | [],_=>.inl rfl
 | (u, v) :: r, h => by
   rw[show nb_ ((u,v)::r) t=if t=u then v else nb_ r t from rfl];by_cases hu:t=u
   ·subst hu;rw[if_pos rfl];exact .inr h.1
   ·rw[if_neg hu];exact Li_.get t h.2
section
variable{k:Nat}{σ:St}
theorem GC.mkT{nv:Nat}{vs vs2:List AV}{ts ts2:List (Nat×AV)}{σ2:St}(zs js:List Nat)(hk:k≤js.length)(hfix:js.take k=List.range k)(hnd:js.Nodup)(hlt:∀j∈js,j<σ.length)(ho:ek_ σ zs (rn js σ.length) js σ2)
 (hs:et_ σ zs (rn js σ.length) vs vs2) (ht:Li_ σ zs (rn js σ.length) ts ts2):GC k ⟨nv,vs,ts⟩ σ ⟨nv,vs2,ts2⟩ σ2:=by
 refine⟨zs,js,⟨fun i hi=>?_,hnd,hlt,ho.len,ho.get⟩,hk,fun t=>?_⟩
 ·have:(js.take k)[i]?=some i:=by rw[hfix];simp[hi]
  rwa [List.getElem?_take,if_pos hi]at this
 ·unfold Fr.get;simp only;split
  ·exact hs.get t
  ·exact ht.get t
end
attribute [go_sem] Li_ nb_
def ad_.tl:Nat→ad_→ad_
 |0,c=>c
 |n+1,.seq _ b=>b.tl n
 |_+1,c=>c
def ad_.hd:ad_→ad_
 |.seq a _=>a
 |c=>c
end Go.FH
namespace Go.FH
set_option linter.unusedVariables false
open Go Go.RowKit
def uT_(a b:Int):Int×Int:=if IntKind.u64.wrap (18446744073709551615-b)<a then (0,4)else (IntKind.u64.wrap (a+b),0)
def OX_(a b:Int):Int×Int:=if b≠0∧IntKind.u64.wrap (Int.tdiv 18446744073709551615 b)<a then (0,4)else (IntKind.u64.wrap (a*b),0)
def gc_(l:List Int):Nat→Int×Int
 |0=>(0,0)
 |i+1=>let p:=gc_ l i;if p.2≠0 then p else uT_ p.1 (l.getD i 0)
def zm_(l:List Int):Int×Int:=gc_ l l.length
def OJ_(n:Int):Bool:=decide (1≤n)&&decide (n≤64)
def sN_(e per:Int):Int×Int:=if OJ_ per=true then OX_ e per else (0,3)
def DO_(a b:Rt):Nat→Nat→Int
 |0,_=>0
 |f+1,i=>if a.1.getD i 0<b.1.getD i 0 then -1 else if b.1.getD i 0<a.1.getD i 0 then 1 else DO_ a b f (i+1)
def JA_(a b:Rt):Int:=DO_ a b 32 0
def DP_(a b:Wd):Nat→Int
 |0=>0
 |f+1=>if a.1.getD f 0<b.1.getD f 0 then -1 else if b.1.getD f 0<a.1.getD f 0 then 1 else DP_ a b f
def JB_(a b:Wd):Int:=DP_ a b 4
def hA_(t:aR_)(n:Int):Int:=if (t.bals.length:Int)≠n then 2 else if (zm_ t.bals).2≠0∨4611686018427387904<(zm_ t.bals).1 then 4 else 0
def OH_(a b:Cp):Int:=if a.ep≠b.ep then (if a.ep<b.ep then -1 else 1)else JA_ a.rt b.rt
def tab(l:List aR_)(i:Nat):aR_:=l.getD i default
def dp_(l:List aR_)(c:Cp):Int:=yD_ (jV_ (fun i=>decide ((tab l i).cp=c)) l.length)
def ln_(l:List aR_)(c:Cp):Nat→Nat→Nat
 |0,i=>i
 |f+1,i=>if OH_ (tab l i).cp c<0 then ln_ l c f (i+1)else i
def mj_(l:List aR_)(t:aR_):List aR_:=let k:=ln_ l t.cp l.length 0;l.take k++[t]++l.drop k
def iU_(l:List aR_)(t:aR_)(n limit:Int):List aR_×Int:=
 if hA_ t n≠0 then (l,hA_ t n)else if 0≤dp_ l t.cp then (l,9)else if limit≤l.length then (l,11)else (mj_ l t,0)
def fS_(l:List aR_)(e:Int):List aR_:=aK_ (fun i o=>if e≤(tab l i).cp.ep then o++[tab l i]else o) [] l.length
def vot(l:List Vot)(i:Nat):Vot:=l.getD i uu_
def qq_(ep:Int)(root:Rt)(l:List Int):Nat→List Vot×Int→List Vot×Int:=fun i p=>
 if (vot p.1 (l.getD i 0).toNat).has=false∨(vot p.1 (l.getD i 0).toNat).ep<ep then (p.1.set (l.getD i 0).toNat ⟨true,ep,root⟩,IntKind.i64.wrap (p.2+1))else p
def zI_(v:List Vot)(ep:Int)(root:Rt)(l:List Int):List Vot×Int:=aK_ (qq_ ep root l) (v,0) l.length
def uK_(latest:List Vot)(eqv bals:List Int)(roots:List Rt):Int:=
 aK_ (fun i n=>if (vot latest i).has=true∧(i:Int)∉eqv∧(vot latest i).root∈roots then IntKind.u64.wrap (n+bals.getD i 0)else n) 0 (min bals.length latest.length)
def nod(t:List Nod)(i:Nat):Nod:=t.getD i sv_
def isN(t:List Nod)(i:Int):Bool:=decide (0≤i)&&decide (i<t.length)
def av_(t:List Nod)(r:Rt):Int:=yD_ (jV_ (fun i=>decide ((nod t i).blk.root=r)) t.length)
def ga_(t:List Nod)(b:Blk)(status:Int):List Nod×Int:=
 if ¬ (0≤status∧status≤2)then ([],2)else if 0≤av_ t b.root then ([],9)else if av_ t b.parent<0 then ([],10)
 else if b.slot≤(nod t (av_ t b.parent).toNat).blk.slot then ([],14)else if 4096≤t.length then ([],11)else (t++[⟨b,av_ t b.parent,status⟩],0)
def gl_(t:List Nod)(i:Int):List Int:=if isN t i=true then aK_ (fun k l=>if (nod t k).up=i then l++[(k:Int)]else l) [] t.length else []
def ws_(t:List Nod):Nat→Int→List Int
 |0,_=>[]
 |f+1,i=>if isN t i=true then (if i=0 then [0]else ws_ t f (nod t i.toNat).up++[i])else []
def cK_(t:List Nod):Prop:=∀i,0<i→i<t.length→0≤(nod t i).up∧(nod t i).up<i
theorem EM_{t:List Nod}(ht:cK_ t):∀ (n i f g:Nat),i<n→i<f→i<g→ws_ t f i=ws_ t g i
 |0,_,_,_,h,_,_=>by omega
 | n + 1, i, f + 1, g + 1, hn, hf, hg => by
   unfold ws_;by_cases hi:isN t (i:Int)=true
   ·rw[if_pos hi,if_pos hi]
    by_cases h0:(i:Int)=0
    ·rw[if_pos h0,if_pos h0]
    ·rw[if_neg h0,if_neg h0];simp[isN]at hi;obtain⟨u0,u1⟩:=ht i (by omega) hi;obtain⟨u,hu⟩:∃u:Nat,(nod t i).up=u:=⟨_,(Int.toNat_of_nonneg u0).symm⟩
     simp only[Int.toNat_natCast];rw[hu,EM_ ht n u f g (by omega) (by omega) (by omega)]
   ·rw[if_neg hi,if_neg hi]
def bZ_(t:List Nod)(i:Int):List Int:=ws_ t (t.length+1) i
theorem jB_{t:List Nod}(h:0<t.length):bZ_ t 0=[0]:=by
 unfold bZ_ ws_;rw[if_pos (by simp[isN,h]),if_pos rfl]
theorem nG_{t:List Nod}(ht:cK_ t){i:Nat}(h0:0<i)(hi:i<t.length):bZ_ t i=bZ_ t (nod t i).up++[(i:Int)]:=by
 obtain⟨u0,u1⟩:=ht i h0 hi;obtain⟨u,hu⟩:∃u:Nat,(nod t i).up=u:=⟨_,(Int.toNat_of_nonneg u0).symm⟩
 have:=EM_ ht (i+1) u t.length (t.length+1) (by omega) (by omega) (by omega);unfold bZ_;rw[hu,←this];show (if isN t (i:Int)=true then _ else _)=_
 rw[if_pos (by simp[isN,hi]),if_neg (by omega),Int.toNat_natCast,hu]
theorem rh_{t:List Nod}{i:Int}(h:isN t i=false):bZ_ t i=[]:=by
 unfold bZ_ ws_;rw[if_neg (by simp[h])]
theorem hW_{t:List Nod}(ht:cK_ t):∀ (n i:Nat),i<n→(bZ_ t i).length≤i+1
 |0,_,h=>by omega
 | n + 1, i, h => by
   by_cases hi:i<t.length
   ·by_cases h0:i=0
    ·subst h0;rw[show ((0:Nat):Int)=0 from rfl,jB_ hi];simp
    ·obtain⟨u0,u1⟩:=ht i (by omega) hi;obtain⟨u,hu⟩:∃u:Nat,(nod t i).up=u:=⟨_,(Int.toNat_of_nonneg u0).symm⟩
     rw[nG_ ht (by omega) hi,hu];have:=hW_ ht n u (by omega);simp;omega
   ·rw[rh_ (by simp[isN];omega)];simp
theorem Aq_{t:List Nod}(ht:cK_ t):∀ (n i:Nat),i<n→∀x∈bZ_ t i,0≤x∧x≤i∧x<t.length
 |0,_,h,_,_=>by omega
 | n + 1, i, h, x, hx => by
   by_cases hi:i<t.length
   ·by_cases h0:i=0
    ·subst h0;rw[show ((0:Nat):Int)=0 from rfl,jB_ hi]at hx;simp at hx;omega
    ·obtain⟨u0,u1⟩:=ht i (by omega) hi;obtain⟨u,hu⟩:∃u:Nat,(nod t i).up=u:=⟨_,(Int.toNat_of_nonneg u0).symm⟩
     rw[nG_ ht (by omega) hi,hu,List.mem_append,List.mem_singleton]at hx;rcases hx with hx|hx
     ·have:=Aq_ ht n u (by omega) x hx;omega
     ·omega
   ·rw[rh_ (by simp[isN];omega)]at hx;simp at hx
theorem gw_{t:List Nod}(ht:cK_ t){i x:Int}(hx:x∈bZ_ t i):0≤x∧x≤i∧x<t.length:=by
 by_cases h0:0≤i
 ·obtain⟨u,rfl⟩:∃u:Nat,i=u:=⟨_,(Int.toNat_of_nonneg h0).symm⟩
  exact Aq_ ht (u+1) u (by omega) x hx
 ·rw[rh_ (by simp[isN];omega)]at hx;simp at hx
theorem iP_{t:List Nod}(ht:cK_ t)(i:Int):(bZ_ t i).length≤t.length:=by
 by_cases h0:isN t i=true
 ·have h1:=h0;simp[isN]at h1;obtain⟨u,rfl⟩:∃u:Nat,i=u:=⟨_,(Int.toNat_of_nonneg h1.1).symm⟩
  have:=hW_ ht (u+1) u (by omega);omega
 ·rw[rh_ (by simpa using h0)];simp
def fE_(t:List Nod)(a b:Int):Bool:=decide (a∈bZ_ t b)
def atT(t:List Nod)(i slot:Int):Int:=aK_ (fun k at_=>if (nod t ((bZ_ t i).getD k 0).toNat).blk.slot≤slot then (bZ_ t i).getD k 0 else at_) (-1) (bZ_ t i).length
def iF_(t:List Nod)(i:Int):List Int:=aK_ (fun k l=>if fE_ t i k=true then l++[(k:Int)]else l) [] t.length
def uC_(t:List Nod)(latest:List Vot)(eqv bals:List Int):List Int:=
 aK_ (fun i l=>l++[if (nod t i).status≠2 then uK_ latest eqv bals [(nod t i).blk.root]else 0]) [] t.length
def RM_(t:List Nod)(direct:List Int):List Int:=
 aK_ (fun i l=>l++[aK_ (fun k n=>IntKind.u64.wrap (n+direct.getD ((iF_ t i).getD k 0).toNat 0)) 0 (iF_ t i).length]) [] t.length
def pV_(spe boost total:Int):Int×Int:=
 if spe<1∨64<spe∨100<boost∨4611686018427387904<total then (0,3)
 else (IntKind.u64.wrap (IntKind.u64.wrap (IntKind.u64.wrap (Int.tdiv (IntKind.u64.wrap (Int.tdiv total spe)) 100)*boost)+IntKind.u64.wrap (Int.tdiv (IntKind.u64.wrap (Int.tmod (IntKind.u64.wrap (Int.tdiv total spe)) 100*boost)) 100)),0)
def kj_(t:List Nod)(direct:List Int)(root:Rt)(amount:Int):List Int:=
 if 0≤av_ t root∧(nod t (av_ t root).toNat).status≠2∧root≠rt0 then direct.set (av_ t root).toNat (IntKind.u64.wrap (direct.getD (av_ t root).toNat 0+amount))else direct
def dv_(t:List Nod)(i:Int)(k:Nat)(p:List Nod×List Int):List Nod×List Int:=
 if fE_ t i k=true then (p.1++[⟨(nod t k).blk,if (k:Int)=i then -1 else p.2.getD (nod t k).up.toNat 0,(nod t k).status⟩],p.2++[(p.1.length:Int)])else (p.1,p.2++[-1])
def iQ_(t:List Nod)(i:Int):List Nod×List Int:=aK_ (dv_ t i) ([],[]) t.length
def rw_(l:List Int)(status forbidden:Int)(k:Nat)(o:Option (List Nod)):Option (List Nod):=o.bind fun u=>if (nod u (l.getD k 0).toNat).status=forbidden then none else some (u.set (l.getD k 0).toNat { nod u (l.getD k 0).toNat with status:=status })
def xa_(t:List Nod)(l:List Int)(status forbidden:Int):Option (List Nod):=aK_ (rw_ l status forbidden) (some t) l.length
theorem AT_{l:List Int}{status forbidden:Int}{o:Option (List Nod)}{k:Nat}(h:aK_ (rw_ l status forbidden) o k=none):∀n,k≤n→aK_ (rw_ l status forbidden) o n=none
 |0,hn=>by rw[show 0=k by omega];exact h
 | n + 1, hn => by
   by_cases he:k=n+1
   ·rw[←he];exact h
   ·rw[bT_,AT_ h n (by omega)];rfl
theorem iW_{t:List Nod}{l:List Int}{status forbidden:Int}:∀ {k:Nat} {u:List Nod},aK_ (rw_ l status forbidden) (some t) k=some u→u.length=t.length
 |0,u,h=>by cases h;rfl
 | k + 1, u, h => by
   rw[bT_]at h;cases h2:aK_ (rw_ l status forbidden) (some t) k with
   |none=>rw[h2]at h;cases h
   | some v =>
     rw[h2]at h;simp only[rw_,Option.bind_some]at h;split at h
     ·cases h
     ·cases h;rw[List.length_set,iW_ h2]
def cY_(t:List Nod)(i:Int):List Nod×Int:=if isN t i=true then (match xa_ t (bZ_ t i) 1 2 with|some u=>(u,0)|none=>([],21))else ([],10)
def ju_(t:List Nod)(i:Int):List Nod×Int:=if isN t i=true then (match xa_ t (iF_ t i) 2 1 with|some u=>(u,0)|none=>([],21))else ([],10)
theorem OZ_{u:List Nod}{j i:Nat}{n:Nod}:nod (u.set j n) i=if j=i∧i<u.length then n else nod u i:=by
 unfold nod;simp only[List.getD_eq_getElem?_getD,List.getElem?_set];by_cases h:j=i
 ·subst h;by_cases h2:j<u.length
  ·simp[h2]
  ·simp[h2]
 ·simp[h]
theorem rx_{t:List Nod}{l:List Int}{status forbidden:Int}:∀ {k:Nat} {u:List Nod},aK_ (rw_ l status forbidden) (some t) k=some u→∀i,(nod u i).up=(nod t i).up∧(nod u i).blk=(nod t i).blk
 |0,u,h,i=>by cases h;exact⟨rfl,rfl⟩
 | k + 1, u, h, i => by
   rw[bT_]at h;cases h2:aK_ (rw_ l status forbidden) (some t) k with
   |none=>rw[h2]at h;cases h
   | some v =>
     rw[h2]at h;simp only[rw_,Option.bind_some]at h;have ih:=rx_ h2 i;split at h
     ·cases h
     ·cases h;rw[OZ_];split
      ·rename_i hq;rw[←hq.1]at ih ⊢;exact ih
      ·exact ih
theorem cK_.of_up{t u:List Nod}(ht:cK_ t)(hl:u.length=t.length)(hu:∀i,(nod u i).up=(nod t i).up):cK_ u:=fun i h1 h2=>by rw[hu i];exact ht i h1 (by omega)
theorem Ku_{t:List Nod}(ht:cK_ t){i:Int}(h:(cY_ t i).2=0):cK_ (cY_ t i).1∧(cY_ t i).1.length=t.length∧∀k,(nod (cY_ t i).1 k).blk=(nod t k).blk:=by
 unfold cY_ at *;split at h
 ·rename_i h1;rw[if_pos h1];cases h2:xa_ t (bZ_ t i) 1 2 with
  |none=>rw[h2]at h;simp at h
  |some u=>exact⟨ht.of_up (iW_ h2) (fun i=>(rx_ h2 i).1),iW_ h2,fun k=>(rx_ h2 k).2⟩
 ·simp at h
def hq_(t:List Nod)(i:Int)(latest:Rt):Int×Int:=
 if (bZ_ t i).length=0 then (-1,-1)
 else if latest=rt0 then (match jV_ (fun k=>decide ((nod t ((bZ_ t i).getD k 0).toNat).blk.payload≠rt0)) (bZ_ t i).length with
  |some k=>((nod t ((bZ_ t i).getD k 0).toNat).up,(bZ_ t i).getD k 0)
  |none=>(-1,i))
 else (match yI_ (fun k=>decide ((nod t ((bZ_ t i).getD k 0).toNat).blk.payload=latest)) ((bZ_ t i).length-1)with
  |some k=>((bZ_ t i).getD k 0,(bZ_ t i).getD (k+1) 0)
  |none=>(-1,i))
def gu_(t:List Nod)(i:Int)(v:Vdt)(keep:List Int):List Nod×Int:=
 if isN t i=false then ([],10)else if v.kind=1 then cY_ t i else if v.kind=3∨v.kind=4 then (t,0)else if v.kind≠2 then ([],2)
 else if (jV_ (fun k=>fE_ t (hq_ t i v.latest).2 (keep.getD k 0)) keep.length).isSome=true then ([],21)
 else if 0≤(hq_ t i v.latest).1 then (if (cY_ t (hq_ t i v.latest).1).2≠0 then ([],(cY_ t (hq_ t i v.latest).1).2)else ju_ (cY_ t (hq_ t i v.latest).1).1 (hq_ t i v.latest).2)
 else ju_ t (hq_ t i v.latest).2
end Go.FH
namespace Go.FH
set_option linter.unusedVariables false
set_option linter.unusedSimpArgs false
open Go Go.RowKit
def Sm{α:Type}(G F:α→Prop):Prop:=∃r,G r∧F r
section
variable{α:Type}{G:α→Prop}{P:Program}{nt k:Nat}{fr:Fr}{σ:St}
theorem eO_{p q:α→Prop}(h:∀r,q r→p r)(hq:Sm G q):Sm G p:=hq.imp fun r h1=>⟨h1.1,h r h1.2⟩
theorem ID_{F:α→Prop}(r:α)(h1:G r)(h2:F r):Sm G F:=⟨r,h1,h2⟩
theorem bq_{p q:α→Prop}(hq:Sm G q) (h:∀r,Hid (q r)→p r:=by
 (intro r hq
  (first|with_reducible (first|refine ls_ ?_|refine fz_ ?_|refine jJ_ ?_|refine hc_ (by simp only[List.length_cons,List.length_nil]) ?_|refine he_ ?_|refine hd_ ?_|refine jK_ ?_)|(simp only[go_sem,Nat.reduceAdd,Nat.reduceSub,Nat.reduceMul,Nat.reduceLT,Nat.reduceLeDiff,Nat.reduceEqDiff,reduceIte,Int.reduceToNat,Int.reduceLT,Int.reduceLE,Int.reduceEq,Int.reduceNeg,reduceCtorEq,Int.reduceBEq,Int.reduceBNe])|with_reducible refine And.intro (jX_ (by decide)) ?_|(with_reducible refine And.intro ?_ ?_;first|omega|decide|(simp;done)|(simp;omega)))
  repeat(first|with_reducible (first|refine ls_ ?_|refine fz_ ?_|refine jJ_ ?_|refine hc_ (by simp only[List.length_cons,List.length_nil]) ?_|refine he_ ?_|refine hd_ ?_|refine jK_ ?_)|(simp only[go_sem,Nat.reduceAdd,Nat.reduceSub,Nat.reduceMul,Nat.reduceLT,Nat.reduceLeDiff,Nat.reduceEqDiff,reduceIte,Int.reduceToNat,Int.reduceLT,Int.reduceLE,Int.reduceEq,Int.reduceNeg,reduceCtorEq,Int.reduceBEq,Int.reduceBNe])|with_reducible refine And.intro (jX_ (by decide)) ?_|(with_reducible refine And.intro ?_ ?_;first|omega|decide|(simp;done)|(simp;omega)))
  exact hq.out)):Sm G p:=eO_ (fun r h1=>h r ⟨h1⟩) hq
theorem bv_{x y:ad_}{Q:α→Ex→Fr→St→Prop}(h:Sm G fun r=>Tri P nt k x (fg_ (Tri P nt k y (Q r)) (Q r)) fr σ):Sm G fun r=>Tri P nt k (.seq x y) (Q r) fr σ:=eO_ (fun r h1=>ls_ h1) h
theorem dm_{p q:α→Prop}(hq:Sm G q) (h:∀r,Hid (q r)→p r:=by
 (intro r hq
  (first|with_reducible (first|refine fz_ ?_|refine jJ_ ?_|refine hc_ (by simp only[List.length_cons,List.length_nil]) ?_|refine he_ ?_|refine hd_ ?_|refine jK_ ?_)|(simp only[go_sem,Nat.reduceAdd,Nat.reduceSub,Nat.reduceMul,Nat.reduceLT,Nat.reduceLeDiff,Nat.reduceEqDiff,reduceIte,Int.reduceToNat,Int.reduceLT,Int.reduceLE,Int.reduceEq,Int.reduceNeg,reduceCtorEq,Int.reduceBEq,Int.reduceBNe])|with_reducible refine And.intro (jX_ (by decide)) ?_|(with_reducible refine And.intro ?_ ?_;first|omega|decide|(simp;done)|(simp;omega)))
  repeat(first|with_reducible (first|refine fz_ ?_|refine jJ_ ?_|refine hc_ (by simp only[List.length_cons,List.length_nil]) ?_|refine he_ ?_|refine hd_ ?_|refine jK_ ?_)|(simp only[go_sem,Nat.reduceAdd,Nat.reduceSub,Nat.reduceMul,Nat.reduceLT,Nat.reduceLeDiff,Nat.reduceEqDiff,reduceIte,Int.reduceToNat,Int.reduceLT,Int.reduceLE,Int.reduceEq,Int.reduceNeg,reduceCtorEq,Int.reduceBEq,Int.reduceBNe])|with_reducible refine And.intro (jX_ (by decide)) ?_|(with_reducible refine And.intro ?_ ?_;first|omega|decide|(simp;done)|(simp;omega)))
  exact hq.out)):Sm G p:=eO_ (fun r h1=>h r ⟨h1⟩) hq
theorem fY_{p q:α→Prop}(hq:Sm G q) (h:∀r,Hid (q r)→p r:=by
 (intro r hq
  (first|(simp only[go_sem,Nat.reduceAdd,Nat.reduceSub,Nat.reduceMul,Nat.reduceLT,Nat.reduceLeDiff,Nat.reduceEqDiff,reduceIte,Int.reduceToNat,Int.reduceLT,Int.reduceLE,Int.reduceEq,Int.reduceNeg,reduceCtorEq,Int.reduceBEq,Int.reduceBNe])|with_reducible refine And.intro (jX_ (by decide)) ?_|(with_reducible refine And.intro ?_ ?_;first|omega|decide|(simp;done)|(simp;omega)))
  repeat(first|(simp only[go_sem,Nat.reduceAdd,Nat.reduceSub,Nat.reduceMul,Nat.reduceLT,Nat.reduceLeDiff,Nat.reduceEqDiff,reduceIte,Int.reduceToNat,Int.reduceLT,Int.reduceLE,Int.reduceEq,Int.reduceNeg,reduceCtorEq,Int.reduceBEq,Int.reduceBNe])|with_reducible refine And.intro (jX_ (by decide)) ?_|(with_reducible refine And.intro ?_ ?_;first|omega|decide|(simp;done)|(simp;omega)))
  exact hq.out)):Sm G p:=eO_ (fun r h1=>h r ⟨h1⟩) hq
theorem aT_{c:Opd}{x y:ad_}{Q:α→Ex→Fr→St→Prop}{t:Bool}(h1:t=true→Sm G fun r=>Tri P nt k x (Q r) fr σ)(h2:t=false→Sm G fun r=>Tri P nt k y (Q r) fr σ)
 (hb:c.ev fr=.bool t:=by first|rfl|(simp only[go_sem];rfl)):Sm G fun r=>Tri P nt k (.cond c x y) (Q r) fr σ:=by
 cases t with
 |true=>exact eO_ (fun r h=>au_ hb (fun _=>h) (fun h=>by cases h)) (h1 rfl)
 |false=>exact eO_ (fun r h=>au_ hb (fun h=>by cases h) (fun _=>h)) (h2 rfl)
theorem cD_{p1 p2:Prop}{A B:α→Prop}(h1:p1→Sm G A)(h2:p2→Sm G B)(hx:p1→p2→False:=by intro h1 h2;first|(rw[h1]at h2;cases h2;done)|exact h2 h1|exact h1 h2|(simp_all;done)|omega)
 (ho:p1∨p2:=by first|exact Classical.em _|exact(Classical.em _).symm|exact Bool.eq_false_or_eq_true _|exact(Bool.eq_false_or_eq_true _).symm|(simp;omega)|omega):Sm G fun r=>(p1→A r)∧(p2→B r):=by
 rcases ho with h|h
 ·exact eO_ (fun r h3=>⟨fun _=>h3,fun h4=>(hx h h4).elim⟩) (h1 h)
 ·exact eO_ (fun r h3=>⟨fun h4=>(hx h4 h).elim,fun _=>h3⟩) (h2 h)
theorem bE_{f:FuncId}{args caps:List AV}{r0:AV}{K:α→AV→St→Prop}(h:PC P f (args++caps) r0)(hk:Sm G fun r=>K r r0 σ):Sm G fun r=>fd_ P (.fn (.func f) caps) args σ (K r):=eO_ (fun r h1=>ae_ h h1) hk
theorem cp_{n:Nat}{f:FuncId}{args caps:List AV}{r0:AV}{K:α→AV→List Nat→List Nat→St→Prop}(h:PC P f (args++caps) r0)(hk:Sm G fun r=>K r r0 [] [] σ):
 Sm G fun r=>∃v ft ch σ',lT_ P n (.fn (.func f) caps) args σ v ft ch σ'∧K r v ft ch σ':=eO_ (fun r h1=>ay_ h h1) hk
theorem RI_{c:ad_}{Q:α→Ex→Fr→St→Prop}{fr2:Fr}{σ2:St}(hg:GC k fr σ fr2 σ2)(h:Sm G fun r=>Tri P nt k c (Q r) fr2 σ2):Sm G fun r=>Tri P nt k c (Q r) fr σ:=eO_ (fun r h1=>eD_ hg h1) h
def Rt_(P:Program)(nt k:Nat)(x:ad_)(fr:Fr)(σ:St)(fr2:Fr)(σ2:St):Prop:=∀ (z:ad_) (Q0 Q:Ex→Fr→St→Prop),Tri P nt k z Q0 fr2 σ2→Tri P nt k x (fg_ (Tri P nt k z Q0) Q) fr σ
theorem uE_{x:ad_}{fr2:Fr}{σ2:St}(h:Tri P nt k x (fun e fr σ=>e=.normal∧GC k fr σ fr2 σ2) fr σ):Rt_ P nt k x fr σ fr2 σ2:=fun z Q0 Q hz=>Tri.mono h fun e fr3 σ3 ⟨h1,h2⟩=>by
 subst h1;exact eD_ h2 hz
theorem sO_{c:Opd}{x y z:ad_}{Q0 Q:Ex→Fr→St→Prop}{t:Bool}{nv:Nat}{vs:List AV}{ts:List (Nat×AV)}(us:Bool→List (Nat×AV))(S:Bool→St)
 (hx:t=true→Tri P nt k x (fun e fr σ=>e=.normal∧GC k fr σ ⟨nv,hs_ (us true) vs,[]⟩ (S true)) ⟨nv,vs,ts⟩ σ) (hy:t=false→Tri P nt k y (fun e fr σ=>e=.normal∧GC k fr σ ⟨nv,hs_ (us false) vs,[]⟩ (S false)) ⟨nv,vs,ts⟩ σ)
 (hz:Tri P nt k z Q0 ⟨nv,hs_ (us t) vs,[]⟩ (S t)) (hb:c.ev ⟨nv,vs,ts⟩=.bool t:=by first|rfl|(simp only[go_sem];rfl)):Tri P nt k (.cond c x y) (fg_ (Tri P nt k z Q0) Q) ⟨nv,vs,ts⟩ σ:=by
 cases t with
 |true=>exact au_ hb (fun _=>uE_ (hx rfl) z Q0 Q hz) (fun h=>by cases h)
 |false=>exact au_ hb (fun h=>by cases h) (fun _=>uE_ (hy rfl) z Q0 Q hz)
theorem CT_{β:Type}{x z:ad_}{Q0 Q:α→Ex→Fr→St→Prop}{H:β→Prop}{F:β→Fr}{S:β→St}(h:Sm H fun b=>Tri P nt k x (fun e fr σ=>e=.normal∧GC k fr σ (F b) (S b)) fr σ)
 (hz:∀b,H b→Sm G fun r=>Tri P nt k z (Q0 r) (F b) (S b)):Sm G fun r=>Tri P nt k x (fg_ (Tri P nt k z (Q0 r)) (Q r)) fr σ:=by
 obtain⟨b,h1,h2⟩:=h;exact eO_ (fun r h3=>uE_ h2 z _ _ h3) (hz b h1)
theorem dt_{β:Type}{x z:ad_}{Q0 Q:α→Ex→Fr→St→Prop}{nv:Nat}{vs:List AV}{ts:List (Nat×AV)}(H:β→Prop)(f:β→List AV)(i:Nat)(us:List (Nat×AV))(h:Sm H fun b=>Tri P nt k x (fun e fr' σ'=>e=.normal∧GC k fr' σ' ⟨nv,hs_ us vs,[]⟩ (σ.set i (.var (f b)))) ⟨nv,vs,ts⟩ σ)
 (hz:∀b,H b→Sm G fun r=>Tri P nt k z (Q0 r) ⟨nv,hs_ us vs,[]⟩ (σ.set i (.var (f b)))):Sm G fun r=>Tri P nt k x (fg_ (Tri P nt k z (Q0 r)) (Q r)) ⟨nv,vs,ts⟩ σ:=CT_ (F:=fun _=>⟨nv,hs_ us vs,[]⟩) (S:=fun b=>σ.set i (.var (f b))) h hz
theorem rz_{β:Type}{x z:ad_}{Q0 Q:α→Ex→Fr→St→Prop}{nv:Nat}{vs:List AV}{ts:List (Nat×AV)}(H:β→Prop)(us:β→List (Nat×AV))(h:Sm H fun b=>Tri P nt k x (fun e fr' σ'=>e=.normal∧GC k fr' σ' ⟨nv,hs_ (us b) vs,[]⟩ σ) ⟨nv,vs,ts⟩ σ)
 (hz:∀b,H b→Sm G fun r=>Tri P nt k z (Q0 r) ⟨nv,hs_ (us b) vs,[]⟩ σ):Sm G fun r=>Tri P nt k x (fg_ (Tri P nt k z (Q0 r)) (Q r)) ⟨nv,vs,ts⟩ σ:=CT_ (F:=fun b=>⟨nv,hs_ (us b) vs,[]⟩) (S:=fun _=>σ) h hz
theorem xc_{β:Type}{x z:ad_}{Q0 Q:α→Ex→Fr→St→Prop}{nv:Nat}{vs:List AV}{ts:List (Nat×AV)}(H:β→Prop)(us:β→List (Nat×AV))(S:β→St)(h:Sm H fun b=>Tri P nt k x (fun e fr' σ'=>e=.normal∧GC k fr' σ' ⟨nv,hs_ (us b) vs,[]⟩ (S b)) ⟨nv,vs,ts⟩ σ)
 (hz:∀b,H b→Sm G fun r=>Tri P nt k z (Q0 r) ⟨nv,hs_ (us b) vs,[]⟩ (S b)):Sm G fun r=>Tri P nt k x (fg_ (Tri P nt k z (Q0 r)) (Q r)) ⟨nv,vs,ts⟩ σ:=CT_ (F:=fun b=>⟨nv,hs_ (us b) vs,[]⟩) (S:=S) h hz
theorem cZ_{H:α→Prop}{fr1 fr2:Fr}{σ1:St}{S:α→St}(f:α→List AV)(i:Nat){b:α}(hi:σ1[i]?=some (.var (f b)))(hb:H b)(hg:GC k fr1 σ1 fr2 (S b)):Sm H fun r=>GC k fr1 σ1 fr2 (S r):=⟨b,hb,hg⟩
theorem CS_{rs:List eG_}{F:α→AV}{l:List AV}{b:α}(hl:cg_ fr σ rs=some l)(hv:fz σ (List.range σ.length) (es_ l)=F b)(hg:G b):Sm G fun r=>PQ rs (F r) .ret fr σ:=⟨b,hg,l,hl,.inl hv⟩
theorem fX_{f:FuncId}{rs:List eG_}{ac:ad_}{args:List AV}{F:α→AV}(nv:Nat)(hf:as_ P f=some (nt,rs,ac))(ha:args.length≤nt)(hp:PuL args)(hr:∀r,G r→Pu (F r))
 (h:Sm G fun r=>Tri P nt 0 ac (PQ rs (F r)) ⟨nv,args++List.replicate (nv-args.length) .dead,[]⟩ []):Sm G fun r=>PC P f args (F r):=by
 obtain⟨r,h1,h2⟩:=h;exact⟨r,h1,PC.fact nv hf ha hp (hr r h1) h2⟩
end
def flat1:AV→Bool
 |.bool _|.int _ _|.str _=>true
 |_=>false
def flat2:AV→Bool
 |.agg cs=>cs.all flat1
 |v=>flat1 v
def flatR:AV→Bool
 |.tup us=>us.all flat2
 |v=>flat2 v
theorem Rl.flat1{E E':Env}{c:AV}{v:Value}(hc:flat1 c=true)(h:Rl E c v):Rl E' c v:=by
 cases c<;>first|exact h|cases hc
theorem RlC.flat{E E':Env}:∀ {cs:List AV} {vs:List Value},cs.all Go.FH.flat1=true→RlC E cs vs→RlC E' cs vs
 | [],_,_,h=>h
 | c :: cs, _, hc, h => by
   obtain⟨u,us,e,h1,h2,h3⟩:=h;rw[List.all_cons,Bool.and_eq_true]at hc;exact⟨u,us,e,h1,h2.flat1 hc.1,RlC.flat hc.2 h3⟩
theorem Rl.flat2{E E':Env}{c:AV}{v:Value}(hc:flat2 c=true)(h:Rl E c v):Rl E' c v:=by
 cases c<;>first|exact h|cases hc|skip
 obtain⟨vs,e,h1⟩:=h;exact⟨vs,e,h1.flat hc⟩
theorem RlS.flat{E E':Env}:∀ {cs:List AV} {vs:List Value},cs.all Go.FH.flat2=true→RlS E cs vs→RlS E' cs vs
 | [],_,_,h=>h
 | c :: cs, _, hc, h => by
   obtain⟨u,us,e,h2,h3⟩:=h;rw[List.all_cons,Bool.and_eq_true]at hc;exact⟨u,us,e,h2.flat2 hc.1,RlS.flat hc.2 h3⟩
theorem Rl.flatR{E E':Env}{c:AV}{v:Value}(hc:flatR c=true)(h:Rl E c v):Rl E' c v:=by
 cases c<;>first|exact h|cases hc|exact Rl.flat2 hc h|skip
 obtain⟨vs,e,h1⟩:=h;exact⟨vs,e,h1.flat hc⟩
theorem pA_{p q:Prop}(hq:q) (h:Hid q→p:=by
 (intro hq
  (first|with_reducible (first|refine fz_ ?_|refine jJ_ ?_|refine hc_ (by simp only[List.length_cons,List.length_nil]) ?_|refine he_ ?_|refine hd_ ?_|refine jK_ ?_)|(simp only[go_sem,Nat.reduceAdd,Nat.reduceSub,Nat.reduceMul,Nat.reduceLT,Nat.reduceLeDiff,Nat.reduceEqDiff,reduceIte,Int.reduceToNat,Int.reduceLT,Int.reduceLE,Int.reduceEq,Int.reduceNeg,reduceCtorEq,Int.reduceBEq,Int.reduceBNe])|with_reducible refine And.intro (jX_ (by decide)) ?_|(with_reducible refine And.intro ?_ ?_;first|omega|decide|(simp;done)|(simp;omega)))
  repeat(first|with_reducible (first|refine fz_ ?_|refine jJ_ ?_|refine hc_ (by simp only[List.length_cons,List.length_nil]) ?_|refine he_ ?_|refine hd_ ?_|refine jK_ ?_)|(simp only[go_sem,Nat.reduceAdd,Nat.reduceSub,Nat.reduceMul,Nat.reduceLT,Nat.reduceLeDiff,Nat.reduceEqDiff,reduceIte,Int.reduceToNat,Int.reduceLT,Int.reduceLE,Int.reduceEq,Int.reduceNeg,reduceCtorEq,Int.reduceBEq,Int.reduceBNe])|with_reducible refine And.intro (jX_ (by decide)) ?_|(with_reducible refine And.intro ?_ ?_;first|omega|decide|(simp;done)|(simp;omega)))
  exact hq.out)):p:=h ⟨hq⟩
section
variable{P:Program}{σ:St}
theorem ar_.lend{f:FuncId}{args:List AV}{r:AV}(hf:flatR r=true)(h:PC P f (fzL σ (List.range σ.length) args) r):ar_ P f args σ r σ:=by
 refine⟨h.call.1,Nat.le_refl _,fun X loc w vs hr hv=>?_⟩;obtain⟨loc2,g1,g2,g3,g4⟩:=(lj_ σ (List.range σ.length)).rel hr;have hpu:=h.pa
 have hv2:RlS (aM_ X loc2 [] w) (fzL σ (List.range σ.length) args) vs:=by
  have key:∀ {xs:List AV} {us:List Value},PuL (fzL σ (List.range σ.length) xs)→RlS (aM_ X loc σ w) xs us→RlS (aM_ X loc2 [] w) (fzL σ (List.range σ.length) xs) us:=by
   intro xs;induction xs with
   |nil=>intro us _ hv;exact hv
   | cons a xs ih =>
     intro us hp hv;obtain⟨u,us',e,h1,h2⟩:=hv;exact⟨u,us',e,g4 a u h1 _ (hp.1.ren _).symm,ih hp.2 h2⟩
  exact key hpu hv
 refine(h.call.2.2 X loc2 w vs g2 hv2).mono ?_;rintro e w' ⟨v,loc',rfl,ho,_⟩;have hnl:∀b,¬aE_ [] loc2 b:=fun b hd=>by obtain⟨id,o,L,h1,_⟩:=hd;simp at h1
 have hev:Ev (aE_ σ loc) w w':=⟨ho.ev.size,fun b hb hn=>ho.ev.blk b hb (hnl b),ho.ev.os,ho.ev.tape,ho.ev.output⟩
 exact⟨v,loc,rfl,⟨fun _ _ h=>h,hr.change (fun _ _ h=>h) hev (fun b hb=>.inl hb) hr.beyond (fun id o h1 h2=>.inl ⟨h1,fun L hL hh=>ho.ev.blk _ (aE_.lt hr ⟨id,o,L,h1,h2,hL,hh,rfl⟩) (hnl _)⟩) hr.apart,
  ho.val.flatR hf,hev,fun b hb=>.inl hb⟩,fun _ _=>rfl⟩
end
end Go.FH
