/-
 My texts Bp, Bq, Br, Bs, By, Ja, Jb, Jc, Jd, Bv, Bo, Bt, Bu, Bw, Bx, Je, Jh, Ji, joined.
-/
import Derived.Test.YtipiipgpnkpejaaGreatW2
import Derived.OpenShut
import Derived.ChangeMaps
namespace Go.FH
set_option linter.unusedVariables false
set_option linter.unusedSimpArgs false
open Go Go.RowKit

section
variable {P:Program}{nt k:Nat}{fr:Fr}{σ:St}
def Sc (v:AV):Prop:=∀ E E' u,Rl E v u→Rl E' v u
theorem Sc.int (k:IntKind) (n:Int):Sc (.int k n):=fun _ _ _ h=>h
theorem Sc.bool (b:Bool):Sc (.bool b):=fun _ _ _ h=>h
theorem Sc.str (s:List UInt8):Sc (.str s):=fun _ _ _ h=>h
end

theorem bk_ {a:List AV}{n:Nat}(h:a.length=n):cut a 0 n=a:=by
 unfold cut;rw[List.drop_zero,← h,List.take_length]
theorem ap_ (x:AV) (b:List AV) (o n:Nat) (h:1≤o):cut (x::b) o n=cut b (o-1) n:=by
 obtain⟨k,rfl⟩:∃ k,o=k+1:=⟨o-1,by omega⟩
 rfl
theorem an_ (a b:List AV) (o n:Nat) (h:a.length≤o):cut (a++b) o n=cut b (o-a.length) n:=by
 unfold cut;rw[List.drop_append,List.drop_eq_nil_of_le h,List.nil_append]
theorem bw_ (a b:List AV) (o n:Nat) (h:o+n≤a.length):cut (a++b) o n=cut a o n:=by
 unfold cut;rw[List.drop_append,List.take_append_of_le_length (by rw[List.length_drop];omega)]
theorem FO_ (x:AV) (b:List AV) (n:Nat) (h:0<n):cut (x::b) 0 n=x::cut b 0 (n-1):=by
 obtain⟨k,rfl⟩:∃ k,n=k+1:=⟨n-1,by omega⟩
 rfl
theorem FK_ (b:List AV) (o:Nat):cut b o 0=[]:=by simp[cut]
theorem CW_ {a:List AV}{vs:List AV}(h:vs.length=a.length):spl a 0 vs=vs:=by
 unfold spl;rw[h];simp
theorem ao_ (x:AV) (b:List AV) (o:Nat) (vs:List AV) (h:1≤o):spl (x::b) o vs=x::spl b (o-1) vs:=by
 obtain⟨k,rfl⟩:∃ k,o=k+1:=⟨o-1,by omega⟩
 unfold spl
 simp[Nat.add_right_comm]
theorem am_ (a b:List AV) (o:Nat) (vs:List AV) (h:a.length≤o):spl (a++b) o vs=a++spl b (o-a.length) vs:=by
 unfold spl
 rw[List.take_append,List.drop_append,List.take_of_length_le h,List.drop_eq_nil_of_le (by omega),List.nil_append,show o+vs.length-a.length=o-a.length+vs.length by omega]
 simp
theorem bx_ (a b:List AV) (o:Nat) (vs:List AV) (h:o+vs.length≤a.length):spl (a++b) o vs=spl a o vs++b:=by
 unfold spl
 rw[List.take_append_of_le_length (by omega),List.drop_append_of_le_length h]
 simp
theorem FG_ (x:AV) (b:List AV) (v:AV) (vs:List AV):spl (x::b) 0 (v::vs)=v::spl b 0 vs:=by
 unfold spl
 simp
theorem FM_ (b:List AV):spl b 0 []=b:=by simp[spl]

theorem el_ (a b:Int):(a==b)=decide (a=b):=by rw[Bool.eq_iff_iff];simp
theorem aL_:allCells []=true:=rfl
theorem aF_ (x:AV) (b:List AV):allCells (x::b)=(x.cell&&allCells b):=rfl
theorem aK_ (a b:List AV):allCells (a++b)=(allCells a&&allCells b):=by simp[allCells]
theorem bq_ (a b:List AV):PuL (a++b)↔PuL a∧PuL b:=by
 simp only[mQ_,List.mem_append]
 exact⟨fun h=>⟨fun c hc=>h c (.inl hc),fun c hc=>h c (.inr hc)⟩,fun h c hc=>hc.elim (h.1 c) (h.2 c)⟩
theorem dO_ (ρ:Nat→Nat) (a b:List AV):renL ρ (a++b)=renL ρ a++renL ρ b:=by simp[nQ_]
theorem eh_ (σ:St) (zs:List Nat):∀ a b,fzL σ zs (a++b)=fzL σ zs a++fzL σ zs b
 | [],b=>rfl
 | x::a,b=>by simp only[List.cons_append,fzL,eh_ σ zs a b]
theorem cy_:∀ {a b:List AV}(x y:List AV),a.length=b.length→aeqL (a++x) (b++y)=(match aeqL a b,aeqL x y with | some p,some q=>some (p&&q) | _,_=>none)
 | [],[],x,y,_=>by simp only[List.nil_append,aeqL];cases aeqL x y<;>simp
 | u :: a, v :: b, x, y, h => by
   have ih:=cy_ (a:=a) (b:=b) x y (by simpa using h)
   simp only[List.cons_append,aeqL,ih]
   cases aeq1 u v<;>cases aeqL a b<;>cases aeqL x y<;>simp[Bool.and_assoc]
 | [],_::_,_,_,h | _::_,[],_,_,h=>by simp at h
theorem bT_:∀ {ks:List (Nat × Nat)}{cs:List AV},cs.map kindAV=expandK ks→fitsK ks cs=true
 | [],cs,h=>by simp only[expandK,List.map_eq_nil_iff]at h;subst h;rfl
 | (n, k) :: ks, cs, h => by
   simp only[expandK]at h
   have hl:n≤cs.length:=by have:=congrArg List.length h;simp at this;omega
   have h1:(cs.take n).map kindAV=List.replicate n k:=by rw[List.map_take,h];simp
   have h2:(cs.drop n).map kindAV=expandK ks:=by rw[List.map_drop,h];simp
   simp only[fitsK,bT_ h2,Bool.and_true,Bool.and_eq_true,List.all_eq_true,beq_iff_eq]
   refine⟨by rw[List.length_take];omega,fun x hx=>?_⟩
   have:kindAV x ∈ (cs.take n).map kindAV:=List.mem_map_of_mem hx
   rw[h1]at this
   exact(List.mem_replicate.1 this).2

def byc (bs:List UInt8):List AV:=bs.map fun b=>.int .u8 (b.toNat:Int)
@[simp] theorem wY_ (bs:List UInt8):(byc bs).length=bs.length:=by simp[byc]
theorem DD_ (bs:List UInt8):PuL (byc bs):=by
 rw[mQ_];intro x hx
 obtain⟨b,_,rfl⟩:=List.mem_map.1 hx
 trivial
theorem tp_ (bs:List UInt8):allCells (byc bs)=true:=by simp[allCells,byc,AV.cell]
theorem vZ_:∀ {a b:List UInt8},a.length=b.length→aeqL (byc a) (byc b)=some (decide (a=b))
 | [],[],_=>rfl
 | x :: a, y :: b, h => by
   have ih:=vZ_ (a:=a) (b:=b) (by simpa using h)
   have e:(((x.toNat:Int))==(y.toNat:Int))=decide (x=y):=by
     rw[Bool.eq_iff_iff];simp
     exact⟨fun h=>UInt8.toNat_inj.1 (by omega),fun h=>by rw[h]⟩
   simp only[byc,List.map_cons,aeqL,aeq1,if_true]at ih ⊢
   rw[ih,e]
   simp[List.cons.injEq]
 | [],_::_,h | _::_,[],h=>by simp at h
theorem rJ_:∀ (bs:List UInt8) (n:Nat),bs.length=n→chunk 1 n (byc bs)=bts bs
 | [],_,rfl=>rfl
 | b :: bs, _, rfl => by
   simp only[List.length_cons,chunk,byc,List.map_cons,bts]
   have:=rJ_ bs _ rfl
   simp only[byc,bts]at this
   simp[this]
theorem En_ (bs:List UInt8) {j:Nat}(h:j<bs.length):cut (byc bs) j 1=[.int .u8 (bs[j].toNat:Int)]:=by
 unfold cut byc
 rw[← List.map_drop,← List.map_take,List.drop_eq_getElem_cons h]
 rfl
theorem ED_ (bs:List UInt8) {j:Nat}(h:j<bs.length) (b:UInt8):spl (byc bs) j [.int .u8 (b.toNat:Int)]=byc (bs.set j b):=by
 unfold spl byc
 rw[← List.map_take,List.length_singleton,← List.map_drop,List.set_eq_take_append_cons_drop,if_pos h]
 simp
theorem Ad_ (bs:List UInt8):(byc bs).map kindAV=List.replicate bs.length 1:=by
 rw[List.eq_replicate_iff]
 refine⟨by simp,fun b hb=>?_⟩
 obtain⟨c,hc,rfl⟩:=List.mem_map.1 hb
 obtain⟨d,_,rfl⟩:=List.mem_map.1 hc
 rfl
theorem mc_ (bs:List UInt8):(bts bs).flatten=byc bs:=by
 induction bs with
 | nil=>rfl
 | cons b bs ih=>simp only[bts,byc,List.map_cons,List.flatten_cons]at ih ⊢;rw[ih];rfl

abbrev Rt:={b:List UInt8 // b.length=32}
def rtc (r:Rt):List AV:=byc r.1
@[simp] theorem ad_ (r:Rt):(rtc r).length=32:=by rw[rtc,wY_,r.2]
theorem Bj_ (r:Rt):cut (rtc r) 0 32=rtc r:=bk_ (ad_ r)
theorem yB_ (r:Rt):chunk 1 32 (rtc r)=bts r.1:=rJ_ _ _ r.2
theorem bg_ (r:Rt):PuL (rtc r):=DD_ _
theorem hv_ (ρ:Nat→Nat) (r:Rt):renL ρ (rtc r)=rtc r:=(bg_ r).ren ρ
theorem ke_ (σ:St) (zs:List Nat) (r:Rt):fzL σ zs (rtc r)=rtc r:=(bg_ r).fz σ zs
theorem bj_ (r:Rt):allCells (rtc r)=true:=tp_ _
theorem ew_ (r s:Rt):aeqL (rtc r) (rtc s)=some (decide (r=s)):=by
 rw[rtc,rtc,vZ_ (by rw[r.2,s.2])]
 congr 1
 rw[decide_eq_decide]
 exact Subtype.ext_iff.symm
theorem dv_ (r:Rt):(rtc r).map kindAV=List.replicate 32 1:=by rw[rtc,Ad_,r.2]
theorem Bt_ (r:Rt):fitsK [(32,1)] (rtc r)=true:=bT_ (by rw[dv_];rfl)
theorem tG_ (r:Rt) {j:Nat}(h:j<32):cut (rtc r) j 1=[.int .u8 ((r.1[j]'(by rw[r.2];exact h)).toNat:Int)]:=En_ _ _
def Rt.set (r:Rt) (j:Nat) (b:UInt8):Rt:=⟨r.1.set j b,by rw[List.length_set,r.2]⟩
theorem ki_ (r:Rt) {j:Nat}(h:j<32) (b:UInt8):spl (rtc r) j [.int .u8 (b.toNat:Int)]=rtc (r.set j b):=ED_ _ (by rw[r.2];exact h) b
theorem uW_ (r:Rt) {j:Nat}(h:j<32):cut (rtc r) j 1=[.int .u8 ((r.1.getD j 0).toNat:Int)]:=by
 rw[tG_ r h,List.getD_eq_getElem?_getD,List.getElem?_eq_getElem (by rw[r.2];exact h)];rfl
theorem eq_ (r:Rt):(bts r.1=[])=False:=by
 rw[eq_iff_iff,iff_false]
 intro h
 have:=congrArg List.length h
 rw[nx_,r.2]at this
 cases this
def rt0:Rt:=⟨List.replicate 32 0,rfl⟩
instance:Inhabited Rt:=⟨rt0⟩

abbrev Wd:={l:List Int // l.length=4}
def wdc (a:Wd):List AV:=a.1.map (.int .u64)
@[simp] theorem ai_ (a:Wd):(wdc a).length=4:=by rw[wdc,List.length_map,a.2]
theorem Ba_ (a:Wd):cut (wdc a) 0 4=wdc a:=bk_ (ai_ a)
theorem cI_ (a:Wd):PuL (wdc a):=by
 rw[mQ_];intro x hx
 obtain⟨b,_,rfl⟩:=List.mem_map.1 hx
 trivial
theorem vt_ (ρ:Nat→Nat) (r:Wd):renL ρ (wdc r)=wdc r:=(cI_ r).ren ρ
theorem yi_ (σ:St) (zs:List Nat) (r:Wd):fzL σ zs (wdc r)=wdc r:=(cI_ r).fz σ zs
theorem gg_ (r:Wd):allCells (wdc r)=true:=by simp[allCells,wdc,AV.cell]
theorem rf_:∀ {a b:List Int},a.length=b.length→aeqL (a.map (.int .u64)) (b.map (.int .u64))=some (decide (a=b))
 | [],[],_=>rfl
 | x :: a, y :: b, h => by
   have ih:=rf_ (a:=a) (b:=b) (by simpa using h)
   have e:(x==y)=decide (x=y):=by rw[Bool.eq_iff_iff];simp
   simp only[List.map_cons,aeqL,aeq1,if_true]at ih ⊢
   rw[ih,e]
   simp[List.cons.injEq]
 | [],_::_,h | _::_,[],h=>by simp at h
theorem uo_ (r s:Wd):aeqL (wdc r) (wdc s)=some (decide (r=s)):=by
 rw[wdc,wdc,rf_ (by rw[r.2,s.2])]
 congr 1
 rw[decide_eq_decide]
 exact Subtype.ext_iff.symm
theorem rr_ (r:Wd):(wdc r).map kindAV=List.replicate 4 1:=by
 rw[wdc,List.map_map,List.eq_replicate_iff]
 refine⟨by rw[List.length_map,r.2],fun b hb=>?_⟩
 obtain⟨c,hc,rfl⟩:=List.mem_map.1 hb
 rfl
theorem BO_ (r:Wd):fitsK [(4,1)] (wdc r)=true:=bT_ (by rw[rr_];rfl)
theorem sS_ (r:Wd) {j:Nat}(h:j<4):cut (wdc r) j 1=[.int .u64 (r.1[j]'(by rw[r.2];exact h))]:=by
 unfold cut wdc
 rw[← List.map_drop,← List.map_take,List.drop_eq_getElem_cons (by rw[r.2];exact h)]
 rfl
def Wd.set (r:Wd) (j:Nat) (x:Int):Wd:=⟨r.1.set j x,by rw[List.length_set,r.2]⟩
theorem dy_ (r:Wd) {j:Nat}(h:j<4) (x:Int):spl (wdc r) j [.int .u64 x]=wdc (r.set j x):=by
 have h2:j<r.1.length:=by rw[r.2];exact h
 unfold spl wdc Wd.set
 simp only
 rw[← List.map_take,List.length_singleton,← List.map_drop,List.set_eq_take_append_cons_drop,if_pos h2]
 simp
theorem nk_ (r:Wd) {j:Nat}(h:j<4):cut (wdc r) j 1=[.int .u64 (r.1.getD j 0)]:=by
 rw[sS_ r h,List.getD_eq_getElem?_getD,List.getElem?_eq_getElem (by rw[r.2];exact h)];rfl
def wd0:Wd:=⟨List.replicate 4 0,rfl⟩
instance:Inhabited Wd:=⟨wd0⟩

structure Cp where
 ep:Int
 rt:Rt
 deriving Inhabited,DecidableEq
def cpC (x:Cp):List AV:=.int .u64 x.ep::(rtc x.rt)
@[simp] theorem ae_ (x:Cp):(cpC x).length=33:=by simp only[cpC,List.length_cons,List.length_append,List.length_nil,ad_]
theorem BT_ (ep:Int) (rt:Rt):.int .u64 ep::(rtc rt)=cpC ⟨ep,rt⟩:=rfl
theorem CC_ (x:Cp):cut (cpC x) 0 33=cpC x:=bk_ (ae_ x)
theorem xk_ (x:Cp):cut (cpC x) 0 1=[.int .u64 x.ep]:=by unfold cpC;all_goals rfl
theorem wo_ (x:Cp) (v:Int):spl (cpC x) 0 [.int .u64 v]=cpC { x with ep:=v }:=by unfold cpC;all_goals rfl
theorem ws_ (x:Cp) (o n:Nat) (h1:1≤o) (h2:o+n≤33):cut (cpC x) o n=cut (rtc x.rt) (o-1) n:=by unfold cpC;rw[ap_ _ _ _ _ (by omega)];all_goals rfl
theorem xs_ (x:Cp) (o:Nat) (vs:List AV) (h1:1≤o) (h2:o+vs.length≤33):spl (cpC x) o vs=.int .u64 x.ep::(spl (rtc x.rt) (o-1) vs):=by unfold cpC;rw[ao_ _ _ _ _ (by omega)];all_goals rfl
theorem cq_ (x:Cp):allCells (cpC x)=true:=by simp[cpC,aF_,aK_,aL_,AV.cell,bj_]
theorem cH_ (x:Cp):PuL (cpC x):=by simp[cpC,bq_,PuL,Pu,bg_]
theorem jU_ (ρ:Nat→Nat) (x:Cp):renL ρ (cpC x)=cpC x:=(cH_ x).ren ρ
theorem na_ (σ:St) (zs:List Nat) (x:Cp):fzL σ zs (cpC x)=cpC x:=(cH_ x).fz σ zs
theorem ll_ (x:Cp):(cpC x).map kindAV=expandK [(33,1)]:=by simp only[cpC,List.map_cons,List.map_append,List.map_nil,kindAV,dv_];decide +kernel
theorem BF_ (x:Cp):fitsK [(33,1)] (cpC x)=true:=bT_ (ll_ x)
theorem ob_ (x y:Cp):aeqL (cpC x) (cpC y)=some (decide (x=y)):=by cases x;cases y;simp[cpC,cy_,aeqL,aeq1,ad_,ai_,ew_,Bool.beq_eq_decide_eq,el_,Bool.and_assoc,Bool.decide_and]
def cp0:Cp:=⟨0,rt0⟩
structure Pul where
 j:Cp
 f:Cp
 deriving Inhabited,DecidableEq
def pulC (x:Pul):List AV:=cpC x.j++(cpC x.f)
@[simp] theorem aj_ (x:Pul):(pulC x).length=66:=by simp only[pulC,List.length_cons,List.length_append,List.length_nil,ae_]
theorem zE_ (j:Cp) (f:Cp):cpC j++(cpC f)=pulC ⟨j,f⟩:=rfl
theorem zQ_ (x:Pul):cut (pulC x) 0 66=pulC x:=bk_ (aj_ x)
theorem wi_ (x:Pul) (o n:Nat) (h1:0≤o) (h2:o+n≤33):cut (pulC x) o n=cut (cpC x.j) (o-0) n:=by unfold pulC;rw[bw_ _ _ _ _ (by rw[ae_];omega)];all_goals rfl
theorem wG_ (x:Pul) (o:Nat) (vs:List AV) (h1:0≤o) (h2:o+vs.length≤33):spl (pulC x) o vs=spl (cpC x.j) (o-0) vs++(cpC x.f):=by unfold pulC;rw[bx_ _ _ _ _ (by rw[ae_];omega)];all_goals rfl
theorem xj_ (x:Pul) (o n:Nat) (h1:33≤o) (h2:o+n≤66):cut (pulC x) o n=cut (cpC x.f) (o-33) n:=by unfold pulC;rw[an_ _ _ _ _ (by rw[ae_];omega),ae_];all_goals rfl
theorem xD_ (x:Pul) (o:Nat) (vs:List AV) (h1:33≤o) (h2:o+vs.length≤66):spl (pulC x) o vs=cpC x.j++(spl (cpC x.f) (o-33) vs):=by unfold pulC;rw[am_ _ _ _ _ (by rw[ae_];omega),ae_];all_goals rfl
theorem jf_ (x:Pul):allCells (pulC x)=true:=by simp[pulC,aF_,aK_,aL_,AV.cell,cq_]
theorem kd_ (x:Pul):PuL (pulC x):=by simp[pulC,bq_,PuL,Pu,cH_]
theorem zc_ (ρ:Nat→Nat) (x:Pul):renL ρ (pulC x)=pulC x:=(kd_ x).ren ρ
theorem BD_ (σ:St) (zs:List Nat) (x:Pul):fzL σ zs (pulC x)=pulC x:=(kd_ x).fz σ zs
theorem oG_ (x:Pul):(pulC x).map kindAV=expandK [(66,1)]:=by simp only[pulC,List.map_cons,List.map_append,List.map_nil,kindAV,ll_];decide +kernel
theorem zJ_ (x:Pul):fitsK [(66,1)] (pulC x)=true:=bT_ (oG_ x)
theorem rC_ (x y:Pul):aeqL (pulC x) (pulC y)=some (decide (x=y)):=by cases x;cases y;simp[pulC,cy_,aeqL,aeq1,ad_,ai_,ob_,Bool.beq_eq_decide_eq,el_,Bool.and_assoc,Bool.decide_and]
def pul0:Pul:=⟨cp0,cp0⟩
structure Blk where
 pul:Pul
 slot:Int
 root:Rt
 parent:Rt
 payload:Rt
 diff:Wd
 pdiff:Wd
 just:Cp
 fin:Cp
 timely:Bool
 deriving Inhabited,DecidableEq
def blkC (x:Blk):List AV:=pulC x.pul++(.int .u64 x.slot::(rtc x.root++(rtc x.parent++(rtc x.payload++(wdc x.diff++(wdc x.pdiff++(cpC x.just++(cpC x.fin++[.bool x.timely]))))))))
@[simp] theorem ak_ (x:Blk):(blkC x).length=238:=by simp only[blkC,List.length_cons,List.length_append,List.length_nil,ae_,aj_,ad_,ai_]
theorem yZ_ (pul:Pul) (slot:Int) (root:Rt) (parent:Rt) (payload:Rt) (diff:Wd) (pdiff:Wd) (just:Cp) (fin:Cp) (timely:Bool):pulC pul++(.int .u64 slot::(rtc root++(rtc parent++(rtc payload++(wdc diff++(wdc pdiff++(cpC just++(cpC fin++[.bool timely]))))))))=blkC ⟨pul,slot,root,parent,payload,diff,pdiff,just,fin,timely⟩:=rfl
theorem Az_ (x:Blk):cut (blkC x) 0 238=blkC x:=bk_ (ak_ x)
theorem tX_ (x:Blk) (o n:Nat) (h1:0≤o) (h2:o+n≤66):cut (blkC x) o n=cut (pulC x.pul) (o-0) n:=by unfold blkC;rw[bw_ _ _ _ _ (by rw[aj_];omega)];all_goals rfl
theorem sq_ (x:Blk) (o:Nat) (vs:List AV) (h1:0≤o) (h2:o+vs.length≤66):spl (blkC x) o vs=spl (pulC x.pul) (o-0) vs++(.int .u64 x.slot::(rtc x.root++(rtc x.parent++(rtc x.payload++(wdc x.diff++(wdc x.pdiff++(cpC x.just++(cpC x.fin++[.bool x.timely])))))))):=by unfold blkC;rw[bx_ _ _ _ _ (by rw[aj_];omega)];all_goals rfl
theorem qj_ (x:Blk):cut (blkC x) 66 1=[.int .u64 x.slot]:=by unfold blkC;rw[an_ _ _ _ _ (by rw[aj_];omega),aj_];simp only[Nat.reduceSub];all_goals rfl
theorem qx_ (x:Blk) (v:Int):spl (blkC x) 66 [.int .u64 v]=blkC { x with slot:=v }:=by unfold blkC;rw[am_ _ _ _ _ (by rw[aj_];omega),aj_];simp only[Nat.reduceSub];all_goals rfl
theorem ql_ (x:Blk) (o n:Nat) (h1:67≤o) (h2:o+n≤99):cut (blkC x) o n=cut (rtc x.root) (o-67) n:=by unfold blkC;rw[an_ _ _ _ _ (by rw[aj_];omega),aj_];rw[ap_ _ _ _ _ (by omega)];rw[bw_ _ _ _ _ (by rw[ad_];omega)];rw[show o-66-1=o-67 by omega]
theorem qr_ (x:Blk) (o:Nat) (vs:List AV) (h1:67≤o) (h2:o+vs.length≤99):spl (blkC x) o vs=pulC x.pul++(.int .u64 x.slot::(spl (rtc x.root) (o-67) vs++(rtc x.parent++(rtc x.payload++(wdc x.diff++(wdc x.pdiff++(cpC x.just++(cpC x.fin++[.bool x.timely])))))))):=by unfold blkC;rw[am_ _ _ _ _ (by rw[aj_];omega),aj_];rw[ao_ _ _ _ _ (by omega)];rw[bx_ _ _ _ _ (by rw[ad_];omega)];rw[show o-66-1=o-67 by omega]
theorem mj_ (x:Blk) (o n:Nat) (h1:99≤o) (h2:o+n≤131):cut (blkC x) o n=cut (rtc x.parent) (o-99) n:=by unfold blkC;rw[an_ _ _ _ _ (by rw[aj_];omega),aj_];rw[ap_ _ _ _ _ (by omega)];rw[an_ _ _ _ _ (by rw[ad_];omega),ad_];rw[bw_ _ _ _ _ (by rw[ad_];omega)];rw[show o-66-1-32=o-99 by omega]
theorem mk_ (x:Blk) (o:Nat) (vs:List AV) (h1:99≤o) (h2:o+vs.length≤131):spl (blkC x) o vs=pulC x.pul++(.int .u64 x.slot::(rtc x.root++(spl (rtc x.parent) (o-99) vs++(rtc x.payload++(wdc x.diff++(wdc x.pdiff++(cpC x.just++(cpC x.fin++[.bool x.timely])))))))):=by unfold blkC;rw[am_ _ _ _ _ (by rw[aj_];omega),aj_];rw[ao_ _ _ _ _ (by omega)];rw[am_ _ _ _ _ (by rw[ad_];omega),ad_];rw[bx_ _ _ _ _ (by rw[ad_];omega)];rw[show o-66-1-32=o-99 by omega]
theorem kZ_ (x:Blk) (o n:Nat) (h1:131≤o) (h2:o+n≤163):cut (blkC x) o n=cut (rtc x.payload) (o-131) n:=by unfold blkC;rw[an_ _ _ _ _ (by rw[aj_];omega),aj_];rw[ap_ _ _ _ _ (by omega)];rw[an_ _ _ _ _ (by rw[ad_];omega),ad_];rw[an_ _ _ _ _ (by rw[ad_];omega),ad_];rw[bw_ _ _ _ _ (by rw[ad_];omega)];rw[show o-66-1-32-32=o-131 by omega]
theorem kT_ (x:Blk) (o:Nat) (vs:List AV) (h1:131≤o) (h2:o+vs.length≤163):spl (blkC x) o vs=pulC x.pul++(.int .u64 x.slot::(rtc x.root++(rtc x.parent++(spl (rtc x.payload) (o-131) vs++(wdc x.diff++(wdc x.pdiff++(cpC x.just++(cpC x.fin++[.bool x.timely])))))))):=by unfold blkC;rw[am_ _ _ _ _ (by rw[aj_];omega),aj_];rw[ao_ _ _ _ _ (by omega)];rw[am_ _ _ _ _ (by rw[ad_];omega),ad_];rw[am_ _ _ _ _ (by rw[ad_];omega),ad_];rw[bx_ _ _ _ _ (by rw[ad_];omega)];rw[show o-66-1-32-32=o-131 by omega]
theorem pO_ (x:Blk) (o n:Nat) (h1:163≤o) (h2:o+n≤167):cut (blkC x) o n=cut (wdc x.diff) (o-163) n:=by unfold blkC;rw[an_ _ _ _ _ (by rw[aj_];omega),aj_];rw[ap_ _ _ _ _ (by omega)];rw[an_ _ _ _ _ (by rw[ad_];omega),ad_];rw[an_ _ _ _ _ (by rw[ad_];omega),ad_];rw[an_ _ _ _ _ (by rw[ad_];omega),ad_];rw[bw_ _ _ _ _ (by rw[ai_];omega)];rw[show o-66-1-32-32-32=o-163 by omega]
theorem oZ_ (x:Blk) (o:Nat) (vs:List AV) (h1:163≤o) (h2:o+vs.length≤167):spl (blkC x) o vs=pulC x.pul++(.int .u64 x.slot::(rtc x.root++(rtc x.parent++(rtc x.payload++(spl (wdc x.diff) (o-163) vs++(wdc x.pdiff++(cpC x.just++(cpC x.fin++[.bool x.timely])))))))):=by unfold blkC;rw[am_ _ _ _ _ (by rw[aj_];omega),aj_];rw[ao_ _ _ _ _ (by omega)];rw[am_ _ _ _ _ (by rw[ad_];omega),ad_];rw[am_ _ _ _ _ (by rw[ad_];omega),ad_];rw[am_ _ _ _ _ (by rw[ad_];omega),ad_];rw[bx_ _ _ _ _ (by rw[ai_];omega)];rw[show o-66-1-32-32-32=o-163 by omega]
theorem oK_ (x:Blk) (o n:Nat) (h1:167≤o) (h2:o+n≤171):cut (blkC x) o n=cut (wdc x.pdiff) (o-167) n:=by unfold blkC;rw[an_ _ _ _ _ (by rw[aj_];omega),aj_];rw[ap_ _ _ _ _ (by omega)];rw[an_ _ _ _ _ (by rw[ad_];omega),ad_];rw[an_ _ _ _ _ (by rw[ad_];omega),ad_];rw[an_ _ _ _ _ (by rw[ad_];omega),ad_];rw[an_ _ _ _ _ (by rw[ai_];omega),ai_];rw[bw_ _ _ _ _ (by rw[ai_];omega)];rw[show o-66-1-32-32-32-4=o-167 by omega]
theorem nX_ (x:Blk) (o:Nat) (vs:List AV) (h1:167≤o) (h2:o+vs.length≤171):spl (blkC x) o vs=pulC x.pul++(.int .u64 x.slot::(rtc x.root++(rtc x.parent++(rtc x.payload++(wdc x.diff++(spl (wdc x.pdiff) (o-167) vs++(cpC x.just++(cpC x.fin++[.bool x.timely])))))))):=by unfold blkC;rw[am_ _ _ _ _ (by rw[aj_];omega),aj_];rw[ao_ _ _ _ _ (by omega)];rw[am_ _ _ _ _ (by rw[ad_];omega),ad_];rw[am_ _ _ _ _ (by rw[ad_];omega),ad_];rw[am_ _ _ _ _ (by rw[ad_];omega),ad_];rw[am_ _ _ _ _ (by rw[ai_];omega),ai_];rw[bx_ _ _ _ _ (by rw[ai_];omega)];rw[show o-66-1-32-32-32-4=o-167 by omega]
theorem pQ_ (x:Blk) (o n:Nat) (h1:171≤o) (h2:o+n≤204):cut (blkC x) o n=cut (cpC x.just) (o-171) n:=by unfold blkC;rw[an_ _ _ _ _ (by rw[aj_];omega),aj_];rw[ap_ _ _ _ _ (by omega)];rw[an_ _ _ _ _ (by rw[ad_];omega),ad_];rw[an_ _ _ _ _ (by rw[ad_];omega),ad_];rw[an_ _ _ _ _ (by rw[ad_];omega),ad_];rw[an_ _ _ _ _ (by rw[ai_];omega),ai_];rw[an_ _ _ _ _ (by rw[ai_];omega),ai_];rw[bw_ _ _ _ _ (by rw[ae_];omega)];rw[show o-66-1-32-32-32-4-4=o-171 by omega]
theorem qv_ (x:Blk) (o:Nat) (vs:List AV) (h1:171≤o) (h2:o+vs.length≤204):spl (blkC x) o vs=pulC x.pul++(.int .u64 x.slot::(rtc x.root++(rtc x.parent++(rtc x.payload++(wdc x.diff++(wdc x.pdiff++(spl (cpC x.just) (o-171) vs++(cpC x.fin++[.bool x.timely])))))))):=by unfold blkC;rw[am_ _ _ _ _ (by rw[aj_];omega),aj_];rw[ao_ _ _ _ _ (by omega)];rw[am_ _ _ _ _ (by rw[ad_];omega),ad_];rw[am_ _ _ _ _ (by rw[ad_];omega),ad_];rw[am_ _ _ _ _ (by rw[ad_];omega),ad_];rw[am_ _ _ _ _ (by rw[ai_];omega),ai_];rw[am_ _ _ _ _ (by rw[ai_];omega),ai_];rw[bx_ _ _ _ _ (by rw[ae_];omega)];rw[show o-66-1-32-32-32-4-4=o-171 by omega]
theorem sg_ (x:Blk) (o n:Nat) (h1:204≤o) (h2:o+n≤237):cut (blkC x) o n=cut (cpC x.fin) (o-204) n:=by unfold blkC;rw[an_ _ _ _ _ (by rw[aj_];omega),aj_];rw[ap_ _ _ _ _ (by omega)];rw[an_ _ _ _ _ (by rw[ad_];omega),ad_];rw[an_ _ _ _ _ (by rw[ad_];omega),ad_];rw[an_ _ _ _ _ (by rw[ad_];omega),ad_];rw[an_ _ _ _ _ (by rw[ai_];omega),ai_];rw[an_ _ _ _ _ (by rw[ai_];omega),ai_];rw[an_ _ _ _ _ (by rw[ae_];omega),ae_];rw[bw_ _ _ _ _ (by rw[ae_];omega)];rw[show o-66-1-32-32-32-4-4-33=o-204 by omega]
theorem rZ_ (x:Blk) (o:Nat) (vs:List AV) (h1:204≤o) (h2:o+vs.length≤237):spl (blkC x) o vs=pulC x.pul++(.int .u64 x.slot::(rtc x.root++(rtc x.parent++(rtc x.payload++(wdc x.diff++(wdc x.pdiff++(cpC x.just++(spl (cpC x.fin) (o-204) vs++[.bool x.timely])))))))):=by unfold blkC;rw[am_ _ _ _ _ (by rw[aj_];omega),aj_];rw[ao_ _ _ _ _ (by omega)];rw[am_ _ _ _ _ (by rw[ad_];omega),ad_];rw[am_ _ _ _ _ (by rw[ad_];omega),ad_];rw[am_ _ _ _ _ (by rw[ad_];omega),ad_];rw[am_ _ _ _ _ (by rw[ai_];omega),ai_];rw[am_ _ _ _ _ (by rw[ai_];omega),ai_];rw[am_ _ _ _ _ (by rw[ae_];omega),ae_];rw[bx_ _ _ _ _ (by rw[ae_];omega)];rw[show o-66-1-32-32-32-4-4-33=o-204 by omega]
theorem mt_ (x:Blk):cut (blkC x) 237 1=[.bool x.timely]:=by unfold blkC;rw[an_ _ _ _ _ (by rw[aj_];omega),aj_];rw[ap_ _ _ _ _ (by omega)];rw[an_ _ _ _ _ (by rw[ad_];omega),ad_];rw[an_ _ _ _ _ (by rw[ad_];omega),ad_];rw[an_ _ _ _ _ (by rw[ad_];omega),ad_];rw[an_ _ _ _ _ (by rw[ai_];omega),ai_];rw[an_ _ _ _ _ (by rw[ai_];omega),ai_];rw[an_ _ _ _ _ (by rw[ae_];omega),ae_];rw[an_ _ _ _ _ (by rw[ae_];omega),ae_];simp only[Nat.reduceSub];all_goals rfl
theorem mF_ (x:Blk) (v:Bool):spl (blkC x) 237 [.bool v]=blkC { x with timely:=v }:=by unfold blkC;rw[am_ _ _ _ _ (by rw[aj_];omega),aj_];rw[ao_ _ _ _ _ (by omega)];rw[am_ _ _ _ _ (by rw[ad_];omega),ad_];rw[am_ _ _ _ _ (by rw[ad_];omega),ad_];rw[am_ _ _ _ _ (by rw[ad_];omega),ad_];rw[am_ _ _ _ _ (by rw[ai_];omega),ai_];rw[am_ _ _ _ _ (by rw[ai_];omega),ai_];rw[am_ _ _ _ _ (by rw[ae_];omega),ae_];rw[am_ _ _ _ _ (by rw[ae_];omega),ae_];simp only[Nat.reduceSub];all_goals rfl
theorem fx_ (x:Blk):allCells (blkC x)=true:=by simp[blkC,aF_,aK_,aL_,AV.cell,cq_,jf_,bj_,gg_]
theorem bV_ (x:Blk):PuL (blkC x):=by simp[blkC,bq_,PuL,Pu,cH_,kd_,bg_,cI_]
theorem rg_ (ρ:Nat→Nat) (x:Blk):renL ρ (blkC x)=blkC x:=(bV_ x).ren ρ
theorem uD_ (σ:St) (zs:List Nat) (x:Blk):fzL σ zs (blkC x)=blkC x:=(bV_ x).fz σ zs
theorem ok_ (x:Blk):(blkC x).map kindAV=expandK [(237,1),(1,0)]:=by simp only[blkC,List.map_cons,List.map_append,List.map_nil,kindAV,ll_,oG_,dv_,rr_];decide +kernel
theorem yE_ (x:Blk):fitsK [(237,1),(1,0)] (blkC x)=true:=bT_ (ok_ x)
theorem rT_ (x y:Blk):aeqL (blkC x) (blkC y)=some (decide (x=y)):=by cases x;cases y;simp[blkC,cy_,aeqL,aeq1,ad_,ai_,ob_,rC_,ew_,uo_,Bool.beq_eq_decide_eq,el_,Bool.and_assoc,Bool.decide_and]
def blk0:Blk:=⟨pul0,0,rt0,rt0,rt0,wd0,wd0,cp0,cp0,false⟩
structure Att where
 slot:Int
 root:Rt
 target:Cp
 vals:AV
 deriving Inhabited
def attC (x:Att):List AV:=.int .u64 x.slot::(rtc x.root++(cpC x.target++[x.vals]))
@[simp] theorem az_ (x:Att):(attC x).length=67:=by simp only[attC,List.length_cons,List.length_append,List.length_nil,ae_,ad_]
theorem Aa_ (slot:Int) (root:Rt) (target:Cp) (vals:AV):.int .u64 slot::(rtc root++(cpC target++[vals]))=attC ⟨slot,root,target,vals⟩:=rfl
theorem yJ_ (x:Att):cut (attC x) 0 67=attC x:=bk_ (az_ x)
theorem qk_ (x:Att):cut (attC x) 0 1=[.int .u64 x.slot]:=by unfold attC;all_goals rfl
theorem pF_ (x:Att) (v:Int):spl (attC x) 0 [.int .u64 v]=attC { x with slot:=v }:=by unfold attC;all_goals rfl
theorem qn_ (x:Att) (o n:Nat) (h1:1≤o) (h2:o+n≤33):cut (attC x) o n=cut (rtc x.root) (o-1) n:=by unfold attC;rw[ap_ _ _ _ _ (by omega)];rw[bw_ _ _ _ _ (by rw[ad_];omega)];all_goals rfl
theorem qp_ (x:Att) (o:Nat) (vs:List AV) (h1:1≤o) (h2:o+vs.length≤33):spl (attC x) o vs=.int .u64 x.slot::(spl (rtc x.root) (o-1) vs++(cpC x.target++[x.vals])):=by unfold attC;rw[ao_ _ _ _ _ (by omega)];rw[bx_ _ _ _ _ (by rw[ad_];omega)];all_goals rfl
theorem mH_ (x:Att) (o n:Nat) (h1:33≤o) (h2:o+n≤66):cut (attC x) o n=cut (cpC x.target) (o-33) n:=by unfold attC;rw[ap_ _ _ _ _ (by omega)];rw[an_ _ _ _ _ (by rw[ad_];omega),ad_];rw[bw_ _ _ _ _ (by rw[ae_];omega)];rw[show o-1-32=o-33 by omega]
theorem mG_ (x:Att) (o:Nat) (vs:List AV) (h1:33≤o) (h2:o+vs.length≤66):spl (attC x) o vs=.int .u64 x.slot::(rtc x.root++(spl (cpC x.target) (o-33) vs++[x.vals])):=by unfold attC;rw[ao_ _ _ _ _ (by omega)];rw[am_ _ _ _ _ (by rw[ad_];omega),ad_];rw[bx_ _ _ _ _ (by rw[ae_];omega)];rw[show o-1-32=o-33 by omega]
theorem ph_ (x:Att):cut (attC x) 66 1=[x.vals]:=by unfold attC;rw[ap_ _ _ _ _ (by omega)];rw[an_ _ _ _ _ (by rw[ad_];omega),ad_];rw[an_ _ _ _ _ (by rw[ae_];omega),ae_];simp only[Nat.reduceSub];all_goals rfl
theorem py_ (x:Att) (v:AV):spl (attC x) 66 [v]=attC { x with vals:=v }:=by unfold attC;rw[ao_ _ _ _ _ (by omega)];rw[am_ _ _ _ _ (by rw[ad_];omega),ad_];rw[am_ _ _ _ _ (by rw[ae_];omega),ae_];simp only[Nat.reduceSub];all_goals rfl
def Att.map (g:AV→AV) (x:Att):Att:={ x with vals:=g x.vals }
theorem Att.map_mk (g:AV→AV) (slot:Int) (root:Rt) (target:Cp) (vals:AV):Att.map g ⟨slot,root,target,vals⟩=⟨slot,root,target,g vals⟩:=rfl
def Att.good (x:Att):Bool:=x.vals.cell
theorem Att.good_mk (slot:Int) (root:Rt) (target:Cp) (vals:AV):Att.good ⟨slot,root,target,vals⟩=(vals.cell):=rfl
def Att.Pure (x:Att):Prop:=Pu x.vals
theorem iV_ (x:Att):allCells (attC x)=x.good:=by simp[attC,Att.good,Bool.and_assoc,aF_,aK_,aL_,AV.cell,cq_,bj_]
theorem bt_ (x:Att):PuL (attC x)↔x.Pure:=by simp[attC,Att.Pure,bq_,PuL,Pu,cH_,bg_]
theorem rI_ (ρ:Nat→Nat) (x:Att):renL ρ (attC x)=attC (x.map (ren ρ)):=by simp only[attC,Att.map,dO_,renL,ren,jU_,hv_]
theorem vK_ (σ:St) (zs:List Nat) (x:Att):fzL σ zs (attC x)=attC (x.map (fz σ zs)):=by simp only[attC,Att.map,eh_,fzL,fz,na_,ke_]
def att0:Att:=⟨0,rt0,cp0,.sl 0 true []⟩
structure Clm where
 src:Int
 tgt:Int
 root:Rt
 vals:AV
 deriving Inhabited
def clmC (x:Clm):List AV:=.int .u64 x.src::(.int .u64 x.tgt::(rtc x.root++[x.vals]))
@[simp] theorem bH_ (x:Clm):(clmC x).length=35:=by simp only[clmC,List.length_cons,List.length_append,List.length_nil,ad_]
theorem zV_ (src:Int) (tgt:Int) (root:Rt) (vals:AV):.int .u64 src::(.int .u64 tgt::(rtc root++[vals]))=clmC ⟨src,tgt,root,vals⟩:=rfl
theorem yD_ (x:Clm):cut (clmC x) 0 35=clmC x:=bk_ (bH_ x)
theorem tn_ (x:Clm):cut (clmC x) 0 1=[.int .u64 x.src]:=by unfold clmC;all_goals rfl
theorem sC_ (x:Clm) (v:Int):spl (clmC x) 0 [.int .u64 v]=clmC { x with src:=v }:=by unfold clmC;all_goals rfl
theorem tj_ (x:Clm):cut (clmC x) 1 1=[.int .u64 x.tgt]:=by unfold clmC;rw[ap_ _ _ _ _ (by omega)];simp only[Nat.reduceSub];all_goals rfl
theorem sY_ (x:Clm) (v:Int):spl (clmC x) 1 [.int .u64 v]=clmC { x with tgt:=v }:=by unfold clmC;rw[ao_ _ _ _ _ (by omega)];simp only[Nat.reduceSub];all_goals rfl
theorem qb_ (x:Clm) (o n:Nat) (h1:2≤o) (h2:o+n≤34):cut (clmC x) o n=cut (rtc x.root) (o-2) n:=by unfold clmC;rw[ap_ _ _ _ _ (by omega)];rw[ap_ _ _ _ _ (by omega)];rw[bw_ _ _ _ _ (by rw[ad_];omega)];rw[show o-1-1=o-2 by omega]
theorem qh_ (x:Clm) (o:Nat) (vs:List AV) (h1:2≤o) (h2:o+vs.length≤34):spl (clmC x) o vs=.int .u64 x.src::(.int .u64 x.tgt::(spl (rtc x.root) (o-2) vs++[x.vals])):=by unfold clmC;rw[ao_ _ _ _ _ (by omega)];rw[ao_ _ _ _ _ (by omega)];rw[bx_ _ _ _ _ (by rw[ad_];omega)];rw[show o-1-1=o-2 by omega]
theorem pK_ (x:Clm):cut (clmC x) 34 1=[x.vals]:=by unfold clmC;rw[ap_ _ _ _ _ (by omega)];rw[ap_ _ _ _ _ (by omega)];rw[an_ _ _ _ _ (by rw[ad_];omega),ad_];simp only[Nat.reduceSub];all_goals rfl
theorem pq_ (x:Clm) (v:AV):spl (clmC x) 34 [v]=clmC { x with vals:=v }:=by unfold clmC;rw[ao_ _ _ _ _ (by omega)];rw[ao_ _ _ _ _ (by omega)];rw[am_ _ _ _ _ (by rw[ad_];omega),ad_];simp only[Nat.reduceSub];all_goals rfl
def Clm.map (g:AV→AV) (x:Clm):Clm:={ x with vals:=g x.vals }
theorem Clm.map_mk (g:AV→AV) (src:Int) (tgt:Int) (root:Rt) (vals:AV):Clm.map g ⟨src,tgt,root,vals⟩=⟨src,tgt,root,g vals⟩:=rfl
def Clm.good (x:Clm):Bool:=x.vals.cell
theorem Clm.good_mk (src:Int) (tgt:Int) (root:Rt) (vals:AV):Clm.good ⟨src,tgt,root,vals⟩=(vals.cell):=rfl
def Clm.Pure (x:Clm):Prop:=Pu x.vals
theorem jh_ (x:Clm):allCells (clmC x)=x.good:=by simp[clmC,Clm.good,Bool.and_assoc,aF_,aK_,aL_,AV.cell,bj_]
theorem fO_ (x:Clm):PuL (clmC x)↔x.Pure:=by simp[clmC,Clm.Pure,bq_,PuL,Pu,bg_]
theorem ru_ (ρ:Nat→Nat) (x:Clm):renL ρ (clmC x)=clmC (x.map (ren ρ)):=by simp only[clmC,Clm.map,dO_,renL,ren,hv_]
theorem wb_ (σ:St) (zs:List Nat) (x:Clm):fzL σ zs (clmC x)=clmC (x.map (fz σ zs)):=by simp only[clmC,Clm.map,eh_,fzL,fz,ke_]
def clm0:Clm:=⟨0,0,rt0,.sl 0 true []⟩
structure Slg where
 fst:Clm
 snd:Clm
 deriving Inhabited
def slgC (x:Slg):List AV:=clmC x.fst++(clmC x.snd)
@[simp] theorem aI_ (x:Slg):(slgC x).length=70:=by simp only[slgC,List.length_cons,List.length_append,List.length_nil,bH_]
theorem zH_ (fst:Clm) (snd:Clm):clmC fst++(clmC snd)=slgC ⟨fst,snd⟩:=rfl
theorem zu_ (x:Slg):cut (slgC x) 0 70=slgC x:=bk_ (aI_ x)
theorem sf_ (x:Slg) (o n:Nat) (h1:0≤o) (h2:o+n≤35):cut (slgC x) o n=cut (clmC x.fst) (o-0) n:=by unfold slgC;rw[bw_ _ _ _ _ (by rw[bH_];omega)];all_goals rfl
theorem tg_ (x:Slg) (o:Nat) (vs:List AV) (h1:0≤o) (h2:o+vs.length≤35):spl (slgC x) o vs=spl (clmC x.fst) (o-0) vs++(clmC x.snd):=by unfold slgC;rw[bx_ _ _ _ _ (by rw[bH_];omega)];all_goals rfl
theorem sM_ (x:Slg) (o n:Nat) (h1:35≤o) (h2:o+n≤70):cut (slgC x) o n=cut (clmC x.snd) (o-35) n:=by unfold slgC;rw[an_ _ _ _ _ (by rw[bH_];omega),bH_];all_goals rfl
theorem tz_ (x:Slg) (o:Nat) (vs:List AV) (h1:35≤o) (h2:o+vs.length≤70):spl (slgC x) o vs=clmC x.fst++(spl (clmC x.snd) (o-35) vs):=by unfold slgC;rw[am_ _ _ _ _ (by rw[bH_];omega),bH_];all_goals rfl
def Slg.map (g:AV→AV) (x:Slg):Slg:={ x with fst:=x.fst.map g,snd:=x.snd.map g }
theorem Slg.map_mk (g:AV→AV) (fst:Clm) (snd:Clm):Slg.map g ⟨fst,snd⟩=⟨fst.map g,snd.map g⟩:=rfl
def Slg.good (x:Slg):Bool:=x.fst.good&&x.snd.good
theorem Slg.good_mk (fst:Clm) (snd:Clm):Slg.good ⟨fst,snd⟩=(fst.good&&snd.good):=rfl
def Slg.Pure (x:Slg):Prop:=x.fst.Pure∧x.snd.Pure
theorem iF_ (x:Slg):allCells (slgC x)=x.good:=by simp[slgC,Slg.good,Bool.and_assoc,aF_,aK_,aL_,AV.cell,jh_]
theorem bI_ (x:Slg):PuL (slgC x)↔x.Pure:=by simp[slgC,Slg.Pure,bq_,PuL,Pu,fO_]
theorem rU_ (ρ:Nat→Nat) (x:Slg):renL ρ (slgC x)=slgC (x.map (ren ρ)):=by simp only[slgC,Slg.map,dO_,renL,ren,ru_]
theorem vL_ (σ:St) (zs:List Nat) (x:Slg):fzL σ zs (slgC x)=slgC (x.map (fz σ zs)):=by simp only[slgC,Slg.map,eh_,fzL,fz,wb_]
def slg0:Slg:=⟨clm0,clm0⟩
structure Tab where
 cp:Cp
 bals:AV
 deriving Inhabited
def tabC (x:Tab):List AV:=cpC x.cp++[x.bals]
@[simp] theorem aR_ (x:Tab):(tabC x).length=34:=by simp only[tabC,List.length_cons,List.length_append,List.length_nil,ae_]
theorem zB_ (cp:Cp) (bals:AV):cpC cp++[bals]=tabC ⟨cp,bals⟩:=rfl
theorem yI_ (x:Tab):cut (tabC x) 0 34=tabC x:=bk_ (aR_ x)
theorem vV_ (x:Tab) (o n:Nat) (h1:0≤o) (h2:o+n≤33):cut (tabC x) o n=cut (cpC x.cp) (o-0) n:=by unfold tabC;rw[bw_ _ _ _ _ (by rw[ae_];omega)];all_goals rfl
theorem uG_ (x:Tab) (o:Nat) (vs:List AV) (h1:0≤o) (h2:o+vs.length≤33):spl (tabC x) o vs=spl (cpC x.cp) (o-0) vs++[x.bals]:=by unfold tabC;rw[bx_ _ _ _ _ (by rw[ae_];omega)];all_goals rfl
theorem qd_ (x:Tab):cut (tabC x) 33 1=[x.bals]:=by unfold tabC;rw[an_ _ _ _ _ (by rw[ae_];omega),ae_];simp only[Nat.reduceSub];all_goals rfl
theorem qC_ (x:Tab) (v:AV):spl (tabC x) 33 [v]=tabC { x with bals:=v }:=by unfold tabC;rw[am_ _ _ _ _ (by rw[ae_];omega),ae_];simp only[Nat.reduceSub];all_goals rfl
def Tab.map (g:AV→AV) (x:Tab):Tab:={ x with bals:=g x.bals }
theorem Tab.map_mk (g:AV→AV) (cp:Cp) (bals:AV):Tab.map g ⟨cp,bals⟩=⟨cp,g bals⟩:=rfl
def Tab.good (x:Tab):Bool:=x.bals.cell
theorem Tab.good_mk (cp:Cp) (bals:AV):Tab.good ⟨cp,bals⟩=(bals.cell):=rfl
def Tab.Pure (x:Tab):Prop:=Pu x.bals
theorem iP_ (x:Tab):allCells (tabC x)=x.good:=by simp[tabC,Tab.good,Bool.and_assoc,aF_,aK_,aL_,AV.cell,cq_]
theorem bs_ (x:Tab):PuL (tabC x)↔x.Pure:=by simp[tabC,Tab.Pure,bq_,PuL,Pu,cH_]
theorem ra_ (ρ:Nat→Nat) (x:Tab):renL ρ (tabC x)=tabC (x.map (ren ρ)):=by simp only[tabC,Tab.map,dO_,renL,ren,jU_]
theorem uC_ (σ:St) (zs:List Nat) (x:Tab):fzL σ zs (tabC x)=tabC (x.map (fz σ zs)):=by simp only[tabC,Tab.map,eh_,fzL,fz,na_]
def tab0:Tab:=⟨cp0,.sl 0 true []⟩
structure Vdt where
 tag:Int
 kind:Int
 latest:Rt
 deriving Inhabited,DecidableEq
def vdtC (x:Vdt):List AV:=.int .u64 x.tag::(.int .i64 x.kind::(rtc x.latest))
@[simp] theorem be_ (x:Vdt):(vdtC x).length=34:=by simp only[vdtC,List.length_cons,List.length_append,List.length_nil,ad_]
theorem As_ (tag:Int) (kind:Int) (latest:Rt):.int .u64 tag::(.int .i64 kind::(rtc latest))=vdtC ⟨tag,kind,latest⟩:=rfl
theorem Ag_ (x:Vdt):cut (vdtC x) 0 34=vdtC x:=bk_ (be_ x)
theorem tR_ (x:Vdt):cut (vdtC x) 0 1=[.int .u64 x.tag]:=by unfold vdtC;all_goals rfl
theorem si_ (x:Vdt) (v:Int):spl (vdtC x) 0 [.int .u64 v]=vdtC { x with tag:=v }:=by unfold vdtC;all_goals rfl
theorem pf_ (x:Vdt):cut (vdtC x) 1 1=[.int .i64 x.kind]:=by unfold vdtC;rw[ap_ _ _ _ _ (by omega)];simp only[Nat.reduceSub];all_goals rfl
theorem qB_ (x:Vdt) (v:Int):spl (vdtC x) 1 [.int .i64 v]=vdtC { x with kind:=v }:=by unfold vdtC;rw[ao_ _ _ _ _ (by omega)];simp only[Nat.reduceSub];all_goals rfl
theorem md_ (x:Vdt) (o n:Nat) (h1:2≤o) (h2:o+n≤34):cut (vdtC x) o n=cut (rtc x.latest) (o-2) n:=by unfold vdtC;rw[ap_ _ _ _ _ (by omega)];rw[ap_ _ _ _ _ (by omega)];rw[show o-1-1=o-2 by omega]
theorem mN_ (x:Vdt) (o:Nat) (vs:List AV) (h1:2≤o) (h2:o+vs.length≤34):spl (vdtC x) o vs=.int .u64 x.tag::(.int .i64 x.kind::(spl (rtc x.latest) (o-2) vs)):=by unfold vdtC;rw[ao_ _ _ _ _ (by omega)];rw[ao_ _ _ _ _ (by omega)];rw[show o-1-1=o-2 by omega]
theorem iG_ (x:Vdt):allCells (vdtC x)=true:=by simp[vdtC,aF_,aK_,aL_,AV.cell,bj_]
theorem eI_ (x:Vdt):PuL (vdtC x):=by simp[vdtC,bq_,PuL,Pu,bg_]
theorem qU_ (ρ:Nat→Nat) (x:Vdt):renL ρ (vdtC x)=vdtC x:=(eI_ x).ren ρ
theorem vU_ (σ:St) (zs:List Nat) (x:Vdt):fzL σ zs (vdtC x)=vdtC x:=(eI_ x).fz σ zs
theorem wq_ (x:Vdt):(vdtC x).map kindAV=expandK [(34,1)]:=by simp only[vdtC,List.map_cons,List.map_append,List.map_nil,kindAV,dv_];decide +kernel
theorem yQ_ (x:Vdt):fitsK [(34,1)] (vdtC x)=true:=bT_ (wq_ x)
theorem zr_ (x y:Vdt):aeqL (vdtC x) (vdtC y)=some (decide (x=y)):=by cases x;cases y;simp[vdtC,cy_,aeqL,aeq1,ad_,ai_,ew_,Bool.beq_eq_decide_eq,el_,Bool.and_assoc,Bool.decide_and]
def vdt0:Vdt:=⟨0,0,rt0⟩
structure SOp where
 kind:Int
 blk:Blk
 att:Att
 slg:Slg
 tab:Tab
 vdt:Vdt
 write:Int
 keep:Int
 deriving Inhabited
def sOpC (x:SOp):List AV:=.int .i64 x.kind::(blkC x.blk++(attC x.att++(slgC x.slg++(tabC x.tab++(vdtC x.vdt++(.int .i64 x.write::[.int .i64 x.keep]))))))
@[simp] theorem lL_ (x:SOp):(sOpC x).length=446:=by simp only[sOpC,List.length_cons,List.length_append,List.length_nil,az_,ak_,aI_,aR_,be_]
theorem AN_ (kind:Int) (blk:Blk) (att:Att) (slg:Slg) (tab:Tab) (vdt:Vdt) (write:Int) (keep:Int):.int .i64 kind::(blkC blk++(attC att++(slgC slg++(tabC tab++(vdtC vdt++(.int .i64 write::[.int .i64 keep]))))))=sOpC ⟨kind,blk,att,slg,tab,vdt,write,keep⟩:=rfl
theorem Aq_ (x:SOp):cut (sOpC x) 0 446=sOpC x:=bk_ (lL_ x)
theorem pb_ (x:SOp):cut (sOpC x) 0 1=[.int .i64 x.kind]:=by unfold sOpC;all_goals rfl
theorem pZ_ (x:SOp) (v:Int):spl (sOpC x) 0 [.int .i64 v]=sOpC { x with kind:=v }:=by unfold sOpC;all_goals rfl
theorem tc_ (x:SOp) (o n:Nat) (h1:1≤o) (h2:o+n≤239):cut (sOpC x) o n=cut (blkC x.blk) (o-1) n:=by unfold sOpC;rw[ap_ _ _ _ _ (by omega)];rw[bw_ _ _ _ _ (by rw[ak_];omega)];all_goals rfl
theorem sm_ (x:SOp) (o:Nat) (vs:List AV) (h1:1≤o) (h2:o+vs.length≤239):spl (sOpC x) o vs=.int .i64 x.kind::(spl (blkC x.blk) (o-1) vs++(attC x.att++(slgC x.slg++(tabC x.tab++(vdtC x.vdt++(.int .i64 x.write::[.int .i64 x.keep])))))):=by unfold sOpC;rw[ao_ _ _ _ _ (by omega)];rw[bx_ _ _ _ _ (by rw[ak_];omega)];all_goals rfl
theorem sU_ (x:SOp) (o n:Nat) (h1:239≤o) (h2:o+n≤306):cut (sOpC x) o n=cut (attC x.att) (o-239) n:=by unfold sOpC;rw[ap_ _ _ _ _ (by omega)];rw[an_ _ _ _ _ (by rw[ak_];omega),ak_];rw[bw_ _ _ _ _ (by rw[az_];omega)];rw[show o-1-238=o-239 by omega]
theorem sD_ (x:SOp) (o:Nat) (vs:List AV) (h1:239≤o) (h2:o+vs.length≤306):spl (sOpC x) o vs=.int .i64 x.kind::(blkC x.blk++(spl (attC x.att) (o-239) vs++(slgC x.slg++(tabC x.tab++(vdtC x.vdt++(.int .i64 x.write::[.int .i64 x.keep])))))):=by unfold sOpC;rw[ao_ _ _ _ _ (by omega)];rw[am_ _ _ _ _ (by rw[ak_];omega),ak_];rw[bx_ _ _ _ _ (by rw[az_];omega)];rw[show o-1-238=o-239 by omega]
theorem ti_ (x:SOp) (o n:Nat) (h1:306≤o) (h2:o+n≤376):cut (sOpC x) o n=cut (slgC x.slg) (o-306) n:=by unfold sOpC;rw[ap_ _ _ _ _ (by omega)];rw[an_ _ _ _ _ (by rw[ak_];omega),ak_];rw[an_ _ _ _ _ (by rw[az_];omega),az_];rw[bw_ _ _ _ _ (by rw[aI_];omega)];rw[show o-1-238-67=o-306 by omega]
theorem so_ (x:SOp) (o:Nat) (vs:List AV) (h1:306≤o) (h2:o+vs.length≤376):spl (sOpC x) o vs=.int .i64 x.kind::(blkC x.blk++(attC x.att++(spl (slgC x.slg) (o-306) vs++(tabC x.tab++(vdtC x.vdt++(.int .i64 x.write::[.int .i64 x.keep])))))):=by unfold sOpC;rw[ao_ _ _ _ _ (by omega)];rw[am_ _ _ _ _ (by rw[ak_];omega),ak_];rw[am_ _ _ _ _ (by rw[az_];omega),az_];rw[bx_ _ _ _ _ (by rw[aI_];omega)];rw[show o-1-238-67=o-306 by omega]
theorem tx_ (x:SOp) (o n:Nat) (h1:376≤o) (h2:o+n≤410):cut (sOpC x) o n=cut (tabC x.tab) (o-376) n:=by unfold sOpC;rw[ap_ _ _ _ _ (by omega)];rw[an_ _ _ _ _ (by rw[ak_];omega),ak_];rw[an_ _ _ _ _ (by rw[az_];omega),az_];rw[an_ _ _ _ _ (by rw[aI_];omega),aI_];rw[bw_ _ _ _ _ (by rw[aR_];omega)];rw[show o-1-238-67-70=o-376 by omega]
theorem to_ (x:SOp) (o:Nat) (vs:List AV) (h1:376≤o) (h2:o+vs.length≤410):spl (sOpC x) o vs=.int .i64 x.kind::(blkC x.blk++(attC x.att++(slgC x.slg++(spl (tabC x.tab) (o-376) vs++(vdtC x.vdt++(.int .i64 x.write::[.int .i64 x.keep])))))):=by unfold sOpC;rw[ao_ _ _ _ _ (by omega)];rw[am_ _ _ _ _ (by rw[ak_];omega),ak_];rw[am_ _ _ _ _ (by rw[az_];omega),az_];rw[am_ _ _ _ _ (by rw[aI_];omega),aI_];rw[bx_ _ _ _ _ (by rw[aR_];omega)];rw[show o-1-238-67-70=o-376 by omega]
theorem sJ_ (x:SOp) (o n:Nat) (h1:410≤o) (h2:o+n≤444):cut (sOpC x) o n=cut (vdtC x.vdt) (o-410) n:=by unfold sOpC;rw[ap_ _ _ _ _ (by omega)];rw[an_ _ _ _ _ (by rw[ak_];omega),ak_];rw[an_ _ _ _ _ (by rw[az_];omega),az_];rw[an_ _ _ _ _ (by rw[aI_];omega),aI_];rw[an_ _ _ _ _ (by rw[aR_];omega),aR_];rw[bw_ _ _ _ _ (by rw[be_];omega)];rw[show o-1-238-67-70-34=o-410 by omega]
theorem tH_ (x:SOp) (o:Nat) (vs:List AV) (h1:410≤o) (h2:o+vs.length≤444):spl (sOpC x) o vs=.int .i64 x.kind::(blkC x.blk++(attC x.att++(slgC x.slg++(tabC x.tab++(spl (vdtC x.vdt) (o-410) vs++(.int .i64 x.write::[.int .i64 x.keep])))))):=by unfold sOpC;rw[ao_ _ _ _ _ (by omega)];rw[am_ _ _ _ _ (by rw[ak_];omega),ak_];rw[am_ _ _ _ _ (by rw[az_];omega),az_];rw[am_ _ _ _ _ (by rw[aI_];omega),aI_];rw[am_ _ _ _ _ (by rw[aR_];omega),aR_];rw[bx_ _ _ _ _ (by rw[be_];omega)];rw[show o-1-238-67-70-34=o-410 by omega]
theorem nE_ (x:SOp):cut (sOpC x) 444 1=[.int .i64 x.write]:=by unfold sOpC;rw[ap_ _ _ _ _ (by omega)];rw[an_ _ _ _ _ (by rw[ak_];omega),ak_];rw[an_ _ _ _ _ (by rw[az_];omega),az_];rw[an_ _ _ _ _ (by rw[aI_];omega),aI_];rw[an_ _ _ _ _ (by rw[aR_];omega),aR_];rw[an_ _ _ _ _ (by rw[be_];omega),be_];simp only[Nat.reduceSub];all_goals rfl
theorem nA_ (x:SOp) (v:Int):spl (sOpC x) 444 [.int .i64 v]=sOpC { x with write:=v }:=by unfold sOpC;rw[ao_ _ _ _ _ (by omega)];rw[am_ _ _ _ _ (by rw[ak_];omega),ak_];rw[am_ _ _ _ _ (by rw[az_];omega),az_];rw[am_ _ _ _ _ (by rw[aI_];omega),aI_];rw[am_ _ _ _ _ (by rw[aR_];omega),aR_];rw[am_ _ _ _ _ (by rw[be_];omega),be_];simp only[Nat.reduceSub];all_goals rfl
theorem qo_ (x:SOp):cut (sOpC x) 445 1=[.int .i64 x.keep]:=by unfold sOpC;rw[ap_ _ _ _ _ (by omega)];rw[an_ _ _ _ _ (by rw[ak_];omega),ak_];rw[an_ _ _ _ _ (by rw[az_];omega),az_];rw[an_ _ _ _ _ (by rw[aI_];omega),aI_];rw[an_ _ _ _ _ (by rw[aR_];omega),aR_];rw[an_ _ _ _ _ (by rw[be_];omega),be_];rw[ap_ _ _ _ _ (by omega)];simp only[Nat.reduceSub];all_goals rfl
theorem pI_ (x:SOp) (v:Int):spl (sOpC x) 445 [.int .i64 v]=sOpC { x with keep:=v }:=by unfold sOpC;rw[ao_ _ _ _ _ (by omega)];rw[am_ _ _ _ _ (by rw[ak_];omega),ak_];rw[am_ _ _ _ _ (by rw[az_];omega),az_];rw[am_ _ _ _ _ (by rw[aI_];omega),aI_];rw[am_ _ _ _ _ (by rw[aR_];omega),aR_];rw[am_ _ _ _ _ (by rw[be_];omega),be_];rw[ao_ _ _ _ _ (by omega)];simp only[Nat.reduceSub];all_goals rfl
def SOp.map (g:AV→AV) (x:SOp):SOp:={ x with att:=x.att.map g,slg:=x.slg.map g,tab:=x.tab.map g }
theorem SOp.map_mk (g:AV→AV) (kind:Int) (blk:Blk) (att:Att) (slg:Slg) (tab:Tab) (vdt:Vdt) (write:Int) (keep:Int):SOp.map g ⟨kind,blk,att,slg,tab,vdt,write,keep⟩=⟨kind,blk,att.map g,slg.map g,tab.map g,vdt,write,keep⟩:=rfl
def SOp.good (x:SOp):Bool:=x.att.good&&x.slg.good&&x.tab.good
theorem SOp.good_mk (kind:Int) (blk:Blk) (att:Att) (slg:Slg) (tab:Tab) (vdt:Vdt) (write:Int) (keep:Int):SOp.good ⟨kind,blk,att,slg,tab,vdt,write,keep⟩=(att.good&&slg.good&&tab.good):=rfl
def SOp.Pure (x:SOp):Prop:=x.att.Pure∧x.slg.Pure∧x.tab.Pure
theorem pw_ (x:SOp):allCells (sOpC x)=x.good:=by simp[sOpC,SOp.good,Bool.and_assoc,aF_,aK_,aL_,AV.cell,iV_,fx_,iF_,iP_,iG_]
theorem cA_ (x:SOp):PuL (sOpC x)↔x.Pure:=by simp[sOpC,SOp.Pure,bq_,PuL,Pu,bt_,bV_,bI_,bs_,eI_]
theorem AL_ (ρ:Nat→Nat) (x:SOp):renL ρ (sOpC x)=sOpC (x.map (ren ρ)):=by simp only[sOpC,SOp.map,dO_,renL,ren,rI_,rg_,rU_,ra_,qU_]
theorem CA_ (σ:St) (zs:List Nat) (x:SOp):fzL σ zs (sOpC x)=sOpC (x.map (fz σ zs)):=by simp only[sOpC,SOp.map,eh_,fzL,fz,vK_,uD_,vL_,uC_,vU_]
def sOp0:SOp:=⟨0,blk0,att0,slg0,tab0,vdt0,0,0⟩
end Go.FH
namespace Go.FH
open Go Go.RowKit
set_option linter.unusedVariables false

theorem evX0 (P:Program) (nv:Nat) (vs:List AV) (ts:List (Nat × AV)) (σ:St) (K:AV→St→Prop):type_of% (evO P ⟨nv,vs,ts⟩ σ K):=evO P ⟨nv,vs,ts⟩ σ K
theorem evX1 (P:Program) (nv:Nat) (vs:List AV) (ts:List (Nat × AV)) (σ:St) (K:AV→St→Prop):type_of% (evM P ⟨nv,vs,ts⟩ σ K):=evM P ⟨nv,vs,ts⟩ σ K
theorem evX2 (P:Program) (nv:Nat) (vs:List AV) (ts:List (Nat × AV)) (σ:St) (K:AV→St→Prop):type_of% (evA P ⟨nv,vs,ts⟩ σ K):=evA P ⟨nv,vs,ts⟩ σ K
attribute [go_sem] evX0 evX1 evX2 evF evQ evR evL evD opF evH evK minL maxL Fl_ Fd_ Ff_ xG_ Ca_ isByte byOf AOp.allocs nx_ dN_ List.length_set List.length_append List.length_cons List.length_nil List.map_cons List.map_nil List.set_cons_zero List.set_cons_succ List.getElem?_cons_zero List.getElem?_cons_succ List.getElem?_nil List.nil_append List.cons_append List.append_nil if_true if_false true_and and_true true_or or_true Bool.false_eq_true not_false_eq_true not_true_eq_false Int.toNat_natCast Bool.not_true Bool.not_false cond_true cond_false Int.natCast_nonneg forall_const false_implies implies_true Nat.sub_zero Nat.zero_add Nat.add_zero List.drop_zero decide_true decide_false fillE partsE fillL partsOk ap_ an_ bw_ FO_ FK_ CW_ ao_ am_ bx_ FG_ FM_ Bj_ Ba_ ad_ ai_ bj_ gg_ hv_ vt_ ew_ uo_ Bt_ BO_ yB_ mc_ CC_ ae_ BT_ xk_ wo_ ws_ xs_ cq_ jU_ BF_ ob_ zQ_ aj_ zE_ wi_ wG_ xj_ xD_ jf_ zc_ zJ_ rC_ Az_ ak_ yZ_ tX_ sq_ qj_ qx_ ql_ qr_ mj_ mk_ kZ_ kT_ pO_ oZ_ oK_ nX_ pQ_ qv_ sg_ rZ_ mt_ mF_ fx_ rg_ yE_ rT_ yJ_ az_ Aa_ qk_ pF_ qn_ qp_ mH_ mG_ ph_ py_ Att.map_mk Att.good_mk iV_ rI_ yD_ bH_ zV_ tn_ sC_ tj_ sY_ qb_ qh_ pK_ pq_ Clm.map_mk Clm.good_mk jh_ ru_ zu_ aI_ zH_ sf_ tg_ sM_ tz_ Slg.map_mk Slg.good_mk iF_ rU_ yI_ aR_ zB_ vV_ uG_ qd_ qC_ Tab.map_mk Tab.good_mk iP_ ra_ Ag_ be_ As_ tR_ si_ pf_ qB_ md_ mN_ iG_ qU_ yQ_ zr_ Aq_ lL_ AN_ pb_ pZ_ tc_ sm_ sU_ sD_ ti_ so_ tx_ to_ sJ_ tH_ nE_ nA_ qo_ pI_ SOp.map_mk SOp.good_mk pw_ AL_ cp0 pul0 blk0 att0 clm0 slg0 tab0 vdt0 sOp0 aL_ aF_ aK_ AV.cell List.all_cons List.all_nil Bool.and_true Bool.true_and List.replicate_succ List.replicate_zero beq_self_eq_true ne_eq renL ren rdS srcId List.flatten_cons List.flatten_nil gX_ Dz_ ud_ CF_ List.take_of_length_le Nat.le_refl pushH allocsIn List.isEmpty_nil List.isEmpty_cons List.filter_cons List.filter_nil decide_eq_true_eq bne_self_eq_false Bool.bne_false Bool.bne_true Option.isNone_some Option.isNone_none Bool.and_false Bool.false_and Bool.not_eq_true Bool.not_eq_false eq_self BU_ Bool.true_eq_false forall_eq
attribute [go_sem] wA_ vO_ uB_ resOne Option.map_some
attribute [go_sem] ke_ yi_ na_ BD_ uD_ vK_ wb_ vL_ uC_ vU_ CA_ picksL objsOk slotsOk afterCall putAll rn renO dr_ bh_ fz fzL fzO eD_ bD_ resAV List.getD_cons_zero List.getD_cons_succ List.getD_nil List.take_zero List.take_succ_cons List.take_nil List.drop_succ_cons List.drop_nil List.getElem?_cons_zero List.getElem?_cons_succ List.getElem?_nil Option.map_none and_self List.mem_cons List.not_mem_nil or_false false_or or_self List.range_zero List.range_succ List.mem_append List.mem_singleton List.contains_eq_mem List.mem_range Nat.sub_self fzLL
structure Hid (q:Prop):Prop where
 out:q
theorem evd {p:Prop}(h:p:=by((try simp only[go_sem,Nat.reduceAdd,Nat.reduceSub,Nat.reduceMul,Nat.reduceLT,Nat.reduceLeDiff,Nat.reduceEqDiff,reduceIte,Int.reduceToNat,Int.reduceLT,Int.reduceLE,Int.reduceEq,Int.reduceNeg,reduceCtorEq,Int.reduceBEq,Int.reduceBNe]);try rfl)):p:=h
theorem evg {p q:Prop}(hq:q) (h:Hid q→p:=by(intro hq;(try simp only[go_sem,Nat.reduceAdd,Nat.reduceSub,Nat.reduceMul,Nat.reduceLT,Nat.reduceLeDiff,Nat.reduceEqDiff,reduceIte,Int.reduceToNat,Int.reduceLT,Int.reduceLE,Int.reduceEq,Int.reduceNeg,reduceCtorEq,Int.reduceBEq,Int.reduceBNe]);exact hq.out)):p:=h ⟨hq⟩
theorem aa_ {p q:Prop}(hq:q) (h:Hid q→p:=by
   (intro hq
    (first | with_reducible (first | refine gq_ ?_ | refine cR_ ?_ | refine fj_ ?_ | refine dI_ (by simp only[List.length_cons,List.length_nil]) ?_ | refine dE_ ?_ | refine dR_ ?_ | refine eY_ ?_) | (simp only[go_sem,Nat.reduceAdd,Nat.reduceSub,Nat.reduceMul,Nat.reduceLT,Nat.reduceLeDiff,Nat.reduceEqDiff,reduceIte,Int.reduceToNat,Int.reduceLT,Int.reduceLE,Int.reduceEq,Int.reduceNeg,reduceCtorEq,Int.reduceBEq,Int.reduceBNe]) | with_reducible refine And.intro (fy_ (by decide)) ?_ | (with_reducible refine And.intro ?_ ?_;first | omega | decide | (simp;done) | (simp;omega)))
    repeat(first | with_reducible (first | refine gq_ ?_ | refine cR_ ?_ | refine fj_ ?_ | refine dI_ (by simp only[List.length_cons,List.length_nil]) ?_ | refine dE_ ?_ | refine dR_ ?_ | refine eY_ ?_) | (simp only[go_sem,Nat.reduceAdd,Nat.reduceSub,Nat.reduceMul,Nat.reduceLT,Nat.reduceLeDiff,Nat.reduceEqDiff,reduceIte,Int.reduceToNat,Int.reduceLT,Int.reduceLE,Int.reduceEq,Int.reduceNeg,reduceCtorEq,Int.reduceBEq,Int.reduceBNe]) | with_reducible refine And.intro (fy_ (by decide)) ?_ | (with_reducible refine And.intro ?_ ?_;first | omega | decide | (simp;done) | (simp;omega)))
    exact hq.out)):p:=h ⟨hq⟩
section
variable {P:Program}{nt k:Nat}{fr:Fr}{σ:St}{c:Opd}{x y:ACode}{Q:Ex→Fr→St→Prop}
theorem ac_ (h:Tri P nt k x Q fr σ) (hb:c.ev fr=.bool true:=by((try simp only[go_sem,Nat.reduceAdd,Nat.reduceSub,Nat.reduceMul,Nat.reduceLT,Nat.reduceLeDiff,Nat.reduceEqDiff,reduceIte,Int.reduceToNat,Int.reduceLT,Int.reduceLE,Int.reduceEq,Int.reduceNeg,reduceCtorEq,Int.reduceBEq,Int.reduceBNe]);try rfl)):Tri P nt k (.cond c x y) Q fr σ:=al_ hb (fun _=>h) (fun h=>by cases h)
theorem ab_ (h:Tri P nt k y Q fr σ) (hb:c.ev fr=.bool false:=by((try simp only[go_sem,Nat.reduceAdd,Nat.reduceSub,Nat.reduceMul,Nat.reduceLT,Nat.reduceLeDiff,Nat.reduceEqDiff,reduceIte,Int.reduceToNat,Int.reduceLT,Int.reduceLE,Int.reduceEq,Int.reduceNeg,reduceCtorEq,Int.reduceBEq,Int.reduceBNe]);try rfl)):Tri P nt k (.cond c x y) Q fr σ:=al_ hb (fun h=>by cases h) (fun _=>h)
end
end Go.FH
namespace Go.FH
open Go Go.RowKit
set_option linter.unusedVariables false
set_option linter.unusedSimpArgs false

theorem evP:
   (∀ n σ K,mopF n σ K .mkm []=K (.mp n) [n] true (σ.set n (.map [])))∧
   (∀ n σ K kk z ok id k,mopF n σ K (.lkp kk z ok) [.mp id,k]=(kfit kk k=true∧match σ[id]? with
     | some (.map es) => (match midx kk k es with
       | some (some j)=>K (if ok then .tup [(es.getD j []).getD 1 .dead,.bool true]else (es.getD j []).getD 1 .dead) [id] false σ
       | some none=>K (if ok then .tup [z,.bool false]else z) [id] false σ
       | none=>False)
     | _=>False))∧
   (∀ n σ K kk id k v,mopF n σ K (.upd kk) [.mp id,k,v]=(kfit kk k=true∧match σ[id]? with
     | some (.map es) => (match midx kk k es with
       | some (some j)=>K (.tup []) [id] true (σ.set id (.map (es.set j [k,v])))
       | some none=>K (.tup []) [id] true (σ.set id (.map (es++[[k,v]])))
       | none=>False)
     | _=>False))∧
   (∀ n σ K id,mopF n σ K .rng [.mp id]=(match σ[id]? with
     | some (.map es)=>K (.ptr n 0) [n,id] true (σ.set n (.iter id es.length []))
     | _=>False))∧
   (∀ n σ K id,mopF n σ K .ent [.ptr id 0]=(match σ[id]? with
     | some (.iter m N seen) => (match seen.getLast?, σ[m]? with
       | some i,some (.map es)=>es.length=N∧i<N∧K (.tup (es.getD i [])) [id,m] false σ
       | _,_=>False)
     | _=>False))∧
   (∀ id σ K,nxtStep (.ptr id 0) σ K=(match σ[id]? with
     | some (.iter m N seen) => (match σ[m]? with
       | some (.map es)=>id≠m∧es.length=N∧(∀ i,i<N→i ∉ seen→K (.tup (.bool true::es.getD i [])) (σ.set id (.iter m N (seen++[i]))))∧((∀ i,i<N→i ∈ seen)→K (.tup [.bool false]) σ)
       | _=>False)
     | _=>False))∧
   (∀ k n,kfit none (.int k n)=true)∧(∀ n cs,kfit (some n) (.agg cs)=fitsK [(n,1)] cs)∧
   (∀ id,AV.cellsOf (.mp id)=[.mp id])∧(∀ σ zs id,fz σ zs (.mp id)=.mp id)∧(∀ ρ id,ren ρ (.mp id)=.mp (ρ id)):=
 ⟨fun _ _ _=>rfl,fun _ _ _ _ _ _ _ _=>rfl,fun _ _ _ _ _ _ _=>rfl,fun _ _ _ _=>rfl,fun _ _ _ _=>rfl,fun _ _ _=>rfl,fun _ _=>rfl,fun _ _=>rfl,fun _=>rfl,fun _ _ _=>rfl,fun _ _=>rfl⟩
attribute [go_sem] evP List.getLast?_concat List.getLast?_singleton
def mns (k:IntKind) (m:List (Int × Bool)):List (List AV):=m.map fun p=>[.int k p.1,.bool p.2]
theorem wR_ (k:IntKind) (m:List (Int × Bool)):(mns k m).length=m.length:=by simp[mns]
theorem vx_ (k:IntKind) (x:Int):∀ m:List (Int × Bool),midx none (.int k x) (mns k m)=some (m.findIdx? fun p=>p.1==x)
 | []=>rfl
 | (a, b) :: m => by
   have ih:=vx_ k x m
   simp only[mns,List.map_cons,midx,kfit,if_true,keq]at ih ⊢
   rw[ih,List.findIdx?_cons]
   by_cases h:a=x
   · subst h;simp
   · have h':¬ x=a:=fun e=>h e.symm
     simp only[beq_eq_false_iff_ne.2 h',beq_eq_false_iff_ne.2 h,Option.map_some,Bool.false_eq_true,if_false]
theorem DB_ (k:IntKind) (m:List (Int × Bool)) (j:Nat) (x:Int) (b:Bool):(mns k m).set j [.int k x,.bool b]=mns k (m.set j (x,b)):=by simp[mns,List.map_set]
theorem Cq_ (k:IntKind) (m:List (Int × Bool)) (x:Int) (b:Bool):mns k m++[[.int k x,.bool b]]=mns k (m++[(x,b)]):=by simp[mns]
theorem uF_ (k:IntKind) (m:List (Int × Bool)):PuLL (mns k m):=by
 rw[fR_]
 intro x hx
 obtain⟨p,_,rfl⟩:=List.mem_map.1 hx
 exact⟨trivial,trivial,trivial⟩
theorem AO_ (ρ:Nat→Nat) (k:IntKind) (m:List (Int × Bool)):renLL ρ (mns k m)=mns k m:=(uF_ k m).ren ρ
theorem Bo_ (σ:St) (zs:List Nat) (k:IntKind) (m:List (Int × Bool)):fzLL σ zs (mns k m)=mns k m:=(uF_ k m).fz σ zs
attribute [go_sem] wR_ AO_ Bo_ vx_ DB_ Cq_
end Go.FH
namespace Go.FH
set_option linter.unusedVariables false
set_option linter.unusedSimpArgs false
open Go Go.RowKit

section
variable {P:Program}{C:Cx}{nt k:Nat}{fr:Fr}{σ:St}{loc:Nat→Option Loc}{a:Act}{w:World}

theorem SR.own (h:SR C nt k fr σ loc a w) (e:Nat):SR C nt k fr (σ++[.vec e []]) (locPut loc σ.length ⟨false,0,0,0⟩) a w:=by
 have hg:loc σ.length=none:=h.rel.beyond _ (Nat.le_refl _)
 have hp:=h.pad 1
 obtain⟨k1,k2⟩:=hp.rel.add (n:=σ.length) (by simp) hg (.vec e []) ⟨false,0,0,0⟩ w (Ev.refl _ _) (σ++List.replicate 1 .gone) (fun _ _ h _=>h) rfl (fun id o' L' _ _ _ _=>⟨(fun h=>by cases h),rfl⟩) (fun h=>by cases h) (fun E _ _=>.inl ⟨rfl,rfl⟩)
 have hs:(σ++List.replicate 1 AObj.gone).set σ.length (.vec e [])=σ++[.vec e []]:=ih_ σ _
 rw[hs]at k1 k2
 have hle:=dF_ (X:=C.X) hp.rel (bO_ hg _) (Ev.refl _ _) k2
 refine⟨k1,fun t=>Rl.mono hle _ _ (hp.frm t),h.size,h.dfr,h.ev,fun b hb=>(k2 b hb).elim (hp.old b) fun h1=>.inr (Nat.le_trans (h.ev.size) h1),fun id hid=>?_,by simp;have:=h.klen;omega⟩
 rw[bC_ _ _ _ (by have:=h.klen;omega)]
 exact h.pre id hid
theorem Bf_ {E:Env}{e e0 id:Nat}{v:Value}(hl:E.loc id=some ⟨false,0,0,0⟩) (h:Rl E (.sl e0 true []) v):Rl E (.hs e id 0 0) v:=by
 obtain⟨ad,n,cap,h1,h2,h3,h4,h5,h6,h7⟩:=h
 have hn:n=0:=by simpa using h2
 have hc:cap=n:=h5 rfl
 subst hn
 subst hc
 exact⟨ad,0,_,h1,Nat.le_refl _,h4,fun _=>rfl,hl,.inl rfl⟩
theorem cF_ {c:ACode}{Q:Ex→Fr→St→Prop}(t e:Nat) {e0:Nat}(hq:Tri P nt k c Q (fr.put t (.hs e σ.length 0 0)) (σ++[.vec e []])) (h0:fr.get t=.sl e0 true []:=by first | rfl | (simp only[go_sem];rfl)):Tri P nt k c Q fr σ:=by
 intro code hc C loc a w hs
 have h1:=hs.own e
 refine hq code hc C _ a w (h1.putSame t _ (Bf_ (e0:=e0) (br_ _ _ _) ?_))
 have:=h1.frm t
 rwa [h0]at this
theorem xL_ {E:Env}{c:AV}:∀ {cs:List AV}{vs:List Value}(i:Nat),RlC E cs vs→c.cell=true→(∀ v,Rl E (cs.getD i .dead) v→Rl E c v)→RlC E (cs.set i c) vs
 | [],_,_,h,_,_=>by simpa using h
 | x :: cs, _, 0, h, hc, hi => by
   obtain⟨u,us,rfl,h2,h3,h4⟩:=h
   exact⟨u,us,rfl,hc,hi u (by simpa using h3),h4⟩
 | x :: cs, _, i + 1, h, hc, hi => by
   obtain⟨u,us,rfl,h2,h3,h4⟩:=h
   exact⟨u,us,rfl,h2,h3,xL_ i h4 hc (fun v hv=>hi v (by simpa using hv))⟩
theorem hU_ {c:ACode}{Q:Ex→Fr→St→Prop}(id i e:Nat) {e0:Nat}{cs:List AV}(hq:Tri P nt k c Q fr (σ.set id (.var (cs.set i (.hs e σ.length 0 0)))++[.vec e []])) (ho:σ[id]?=some (.var cs):=by first | rfl | (simp only[go_sem];rfl)) (h0:cs.getD i .dead=.sl e0 true []:=by first | rfl | (simp only[go_sem];rfl)):Tri P nt k c Q fr σ:=by
 intro code hc C loc a w hs
 have h1:=hs.own e
 have hid:id<σ.length:=(List.getElem?_eq_some_iff.1 ho).1
 have ho2:(σ++[AObj.vec e []])[id]?=some (.var cs):=by rw[List.getElem?_append_left hid];exact ho
 have hset:(σ++[AObj.vec e []]).set id (.var (cs.set i (.hs e σ.length 0 0)))=σ.set id (.var (cs.set i (.hs e σ.length 0 0)))++[.vec e []]:=List.set_append_left _ _ hid
 refine hq code hc C (locPut loc σ.length ⟨false,0,0,0⟩) a w ?_
 rw[← hset]
 have hl:∀ b,liveB ((σ++[AObj.vec e []]).set id (.var (cs.set i (.hs e σ.length 0 0)))) (locPut loc σ.length ⟨false,0,0,0⟩) b↔liveB (σ++[AObj.vec e []]) (locPut loc σ.length ⟨false,0,0,0⟩) b:=by
   intro b
   constructor
   · rintro⟨j,oj,L,g1,g2,g3,g4⟩
     rcases bP_ _ id j _ g1 with⟨rfl,rfl,_⟩ | ⟨g5,g6⟩
     · exact⟨_,_,L,ho2,rfl,g3,g4⟩
     · exact⟨j,oj,L,g6,g2,g3,g4⟩
   · rintro⟨j,oj,L,g1,g2,g3,g4⟩
     by_cases hj:j=id
     · subst hj
       refine⟨j,.var (cs.set i (.hs e σ.length 0 0)),L,?_,rfl,g3,g4⟩
       rw[List.getElem?_set_self (List.getElem?_eq_some_iff.1 g1).1]
     · exact⟨j,oj,L,by rw[List.getElem?_set_ne (Ne.symm hj)];exact g1,g2,g3,g4⟩
 have hF:forb C.X ((σ++[AObj.vec e []]).set id (.var (cs.set i (.hs e σ.length 0 0)))) (locPut loc σ.length ⟨false,0,0,0⟩)=forb C.X (σ++[AObj.vec e []]) (locPut loc σ.length ⟨false,0,0,0⟩):=by
   funext b;unfold forb;rw[hl b]
 have hget:∀ (j:Nat) (o:AObj),((σ++[AObj.vec e []]).set id (.var (cs.set i (.hs e σ.length 0 0))))[j]?=some o→o.live=true→∃ o',(σ++[AObj.vec e []])[j]?=some o'∧o'.live=true:=by
   intro j o g1 g2
   rcases bP_ _ id j _ g1 with⟨rfl,rfl,_⟩ | ⟨g5,g6⟩
   · exact⟨_,ho2,rfl⟩
   · exact⟨o,g6,g2⟩
 refine⟨⟨fun j o g1 g2=>?_,fun i' j x y La Lb hij g1 g2 g3 g4=>?_,fun b hb=>?_,fun j hj=>h1.rel.beyond j (by simpa using hj)⟩,fun t=>?_,h1.size,h1.dfr,h1.ev,fun b hb=>h1.old b ((hl b).1 hb),h1.pre,by simp;have:=hs.klen;omega⟩
 · show ∃ L,_∧ObjR ⟨_,forb C.X _ _,w⟩ L o
   rw[hF]
   rcases bP_ _ id j _ g1 with⟨rfl,rfl,_⟩ | ⟨g5,g6⟩
   · obtain⟨L,m1,m2,m3,vs,t,m4,m5⟩:=h1.rel.obj _ _ ho2 rfl
     exact⟨L,m1,m2,m3,vs,t,m4,xL_ i m5 rfl fun v hv=>Bf_ (e0:=e0) (br_ _ _ _) (by rwa [h0]at hv)⟩
   · exact h1.rel.obj j o g6 g2
 · obtain⟨x',k1,k2⟩:=hget i' x g1 g3
   obtain⟨y',k3,k4⟩:=hget j y g2 g4
   exact h1.rel.apart i' j x' y' La Lb hij k1 k3 k2 k4
 · rw[hl b];exact h1.rel.out b hb
 · show Rl ⟨_,forb C.X _ _,w⟩ _ _
   rw[hF];exact h1.frm t

theorem PC.weak {f:FuncId}{args:List AV}{r r':AV}(h:PC P f args r) (hw:Wk r r') (hr:Pu r'):PC P f args r':=
 ⟨⟨h.call.1,h.call.2.1,fun X loc w vs hrel hv=>(h.call.2.2 X loc w vs hrel hv).mono fun e w' ⟨v,loc',h1,h2,h3⟩=>⟨v,loc',h1,⟨h2.locs,h2.rel,hw _ _ h2.val,h2.ev,h2.old⟩,h3⟩⟩,h.pa,hr⟩
def setL (us:List (Nat × AV)) (vs:List AV):List AV:=us.foldl (fun l p=>l.set p.1 p.2) vs
theorem au_ {ι:Type}{x:ACode}{Q:Ex→Fr→St→Prop}{nv:Nat}{vs:List AV}{ts:List (Nat × AV)}(us:ι→List (Nat × AV)) (S:ι→St) (μ:ι→Nat) (ok:ι→Prop) (x0:ι) (h0:ok x0) (hgc:GC k ⟨nv,vs,ts⟩ σ ⟨nv,setL (us x0) vs,[]⟩ (S x0))
   (round:∀ i,ok i→Tri P nt k x (thenQ (fun fr σ=>∃ j,ok j∧μ j<μ i∧GC k fr σ ⟨nv,setL (us j) vs,[]⟩ (S j)) Q) ⟨nv,setL (us i) vs,[]⟩ (S i)):Tri P nt k (.loop x) Q ⟨nv,vs,ts⟩ σ:=
 bm_ (fun i=>⟨nv,setL (us i) vs,[]⟩) S μ ok x0 h0 hgc round
theorem av_ (vs:List AV):setL [] vs=vs:=rfl
theorem as_ (p:Nat × AV) (us:List (Nat × AV)) (vs:List AV):setL (p::us) vs=setL us (vs.set p.1 p.2):=rfl
attribute [go_sem] av_ as_
theorem aD_ {c:Opd}{x y:ACode}{Q:Ex→Fr→St→Prop}{t:Bool}(h1:t=true→Tri P nt k x Q fr σ) (h2:t=false→Tri P nt k y Q fr σ) (hb:c.ev fr=.bool t:=by first | rfl | (simp only[go_sem];rfl)):Tri P nt k (.cond c x y) Q fr σ:=al_ hb h1 h2
end

theorem qf_ {a b c:List AV}(ha:a.length=33) (hb:b.length=33):cut (a++(b++c)) 0 66=a++b:=by
 unfold cut;rw[List.drop_zero,← List.append_assoc,show 66=(a++b).length by simp[ha,hb],List.take_left]
theorem qt_ {a b c x y:List AV}(ha:a.length+b.length=x.length+y.length):spl (a++(b++c)) 0 (x++y)=x++(y++c):=by
 unfold spl
 simp only[List.take_zero,List.nil_append,Nat.zero_add,List.append_assoc]
 rw[← List.append_assoc a b c,List.drop_left' (by simp;omega)]

structure Lim where
 node:Int
 orph:Int
 early:Int
 table:Int
 retry:Int
 backoff:Int
 deriving Inhabited,DecidableEq
def limC (x:Lim):List AV:=.int .i64 x.node::(.int .i64 x.orph::(.int .i64 x.early::(.int .i64 x.table::(.int .i64 x.retry::[.int .u64 x.backoff]))))
@[simp] theorem ay_ (x:Lim):(limC x).length=6:=by simp only[limC,List.length_cons,List.length_append,List.length_nil]
theorem yX_ (node:Int) (orph:Int) (early:Int) (table:Int) (retry:Int) (backoff:Int):.int .i64 node::(.int .i64 orph::(.int .i64 early::(.int .i64 table::(.int .i64 retry::[.int .u64 backoff]))))=limC ⟨node,orph,early,table,retry,backoff⟩:=rfl
theorem zv_ (x:Lim):cut (limC x) 0 6=limC x:=bk_ (ay_ x)
theorem pV_ (x:Lim):cut (limC x) 0 1=[.int .i64 x.node]:=by unfold limC;all_goals rfl
theorem pD_ (x:Lim) (v:Int):spl (limC x) 0 [.int .i64 v]=limC { x with node:=v }:=by unfold limC;all_goals rfl
theorem qa_ (x:Lim):cut (limC x) 1 1=[.int .i64 x.orph]:=by unfold limC;rw[ap_ _ _ _ _ (by omega)];simp only[Nat.reduceSub];all_goals rfl
theorem qi_ (x:Lim) (v:Int):spl (limC x) 1 [.int .i64 v]=limC { x with orph:=v }:=by unfold limC;rw[ao_ _ _ _ _ (by omega)];simp only[Nat.reduceSub];all_goals rfl
theorem oy_ (x:Lim):cut (limC x) 2 1=[.int .i64 x.early]:=by unfold limC;rw[ap_ _ _ _ _ (by omega)];rw[ap_ _ _ _ _ (by omega)];simp only[Nat.reduceSub];all_goals rfl
theorem ot_ (x:Lim) (v:Int):spl (limC x) 2 [.int .i64 v]=limC { x with early:=v }:=by unfold limC;rw[ao_ _ _ _ _ (by omega)];rw[ao_ _ _ _ _ (by omega)];simp only[Nat.reduceSub];all_goals rfl
theorem oA_ (x:Lim):cut (limC x) 3 1=[.int .i64 x.table]:=by unfold limC;rw[ap_ _ _ _ _ (by omega)];rw[ap_ _ _ _ _ (by omega)];rw[ap_ _ _ _ _ (by omega)];simp only[Nat.reduceSub];all_goals rfl
theorem oa_ (x:Lim) (v:Int):spl (limC x) 3 [.int .i64 v]=limC { x with table:=v }:=by unfold limC;rw[ao_ _ _ _ _ (by omega)];rw[ao_ _ _ _ _ (by omega)];rw[ao_ _ _ _ _ (by omega)];simp only[Nat.reduceSub];all_goals rfl
theorem ng_ (x:Lim):cut (limC x) 4 1=[.int .i64 x.retry]:=by unfold limC;rw[ap_ _ _ _ _ (by omega)];rw[ap_ _ _ _ _ (by omega)];rw[ap_ _ _ _ _ (by omega)];rw[ap_ _ _ _ _ (by omega)];simp only[Nat.reduceSub];all_goals rfl
theorem nL_ (x:Lim) (v:Int):spl (limC x) 4 [.int .i64 v]=limC { x with retry:=v }:=by unfold limC;rw[ao_ _ _ _ _ (by omega)];rw[ao_ _ _ _ _ (by omega)];rw[ao_ _ _ _ _ (by omega)];rw[ao_ _ _ _ _ (by omega)];simp only[Nat.reduceSub];all_goals rfl
theorem lF_ (x:Lim):cut (limC x) 5 1=[.int .u64 x.backoff]:=by unfold limC;rw[ap_ _ _ _ _ (by omega)];rw[ap_ _ _ _ _ (by omega)];rw[ap_ _ _ _ _ (by omega)];rw[ap_ _ _ _ _ (by omega)];rw[ap_ _ _ _ _ (by omega)];simp only[Nat.reduceSub];all_goals rfl
theorem lv_ (x:Lim) (v:Int):spl (limC x) 5 [.int .u64 v]=limC { x with backoff:=v }:=by unfold limC;rw[ao_ _ _ _ _ (by omega)];rw[ao_ _ _ _ _ (by omega)];rw[ao_ _ _ _ _ (by omega)];rw[ao_ _ _ _ _ (by omega)];rw[ao_ _ _ _ _ (by omega)];simp only[Nat.reduceSub];all_goals rfl
theorem iJ_ (x:Lim):allCells (limC x)=true:=by simp[limC,aF_,aK_,aL_,AV.cell]
theorem dA_ (x:Lim):PuL (limC x):=by simp[limC,bq_,PuL,Pu]
theorem ln_ (ρ:Nat→Nat) (x:Lim):renL ρ (limC x)=limC x:=(dA_ x).ren ρ
theorem uX_ (σ:St) (zs:List Nat) (x:Lim):fzL σ zs (limC x)=limC x:=(dA_ x).fz σ zs
theorem wE_ (x:Lim):(limC x).map kindAV=expandK [(6,1)]:=by simp only[limC,List.map_cons,List.map_append,List.map_nil,kindAV];decide +kernel
theorem yS_ (x:Lim):fitsK [(6,1)] (limC x)=true:=bT_ (wE_ x)
theorem yw_ (x y:Lim):aeqL (limC x) (limC y)=some (decide (x=y)):=by cases x;cases y;simp[limC,cy_,aeqL,aeq1,ad_,ai_,Bool.beq_eq_decide_eq,el_,Bool.and_assoc,Bool.decide_and]
def lim0:Lim:=⟨0,0,0,0,0,0⟩
structure Cfg where
 lim:Lim
 spe:Int
 boost:Int
 ttd:Wd
 gen:Rt
 bals:AV
 deriving Inhabited
def cfgC (x:Cfg):List AV:=limC x.lim++(.int .u64 x.spe::(.int .u64 x.boost::(wdc x.ttd++(rtc x.gen++[x.bals]))))
@[simp] theorem ag_ (x:Cfg):(cfgC x).length=45:=by simp only[cfgC,List.length_cons,List.length_append,List.length_nil,ay_,ad_,ai_]
theorem Ak_ (lim:Lim) (spe:Int) (boost:Int) (ttd:Wd) (gen:Rt) (bals:AV):limC lim++(.int .u64 spe::(.int .u64 boost::(wdc ttd++(rtc gen++[bals]))))=cfgC ⟨lim,spe,boost,ttd,gen,bals⟩:=rfl
theorem zm_ (x:Cfg):cut (cfgC x) 0 45=cfgC x:=bk_ (ag_ x)
theorem sB_ (x:Cfg) (o n:Nat) (h1:0≤o) (h2:o+n≤6):cut (cfgC x) o n=cut (limC x.lim) (o-0) n:=by unfold cfgC;rw[bw_ _ _ _ _ (by rw[ay_];omega)];all_goals rfl
theorem tN_ (x:Cfg) (o:Nat) (vs:List AV) (h1:0≤o) (h2:o+vs.length≤6):spl (cfgC x) o vs=spl (limC x.lim) (o-0) vs++(.int .u64 x.spe::(.int .u64 x.boost::(wdc x.ttd++(rtc x.gen++[x.bals])))):=by unfold cfgC;rw[bx_ _ _ _ _ (by rw[ay_];omega)];all_goals rfl
theorem sh_ (x:Cfg):cut (cfgC x) 6 1=[.int .u64 x.spe]:=by unfold cfgC;rw[an_ _ _ _ _ (by rw[ay_];omega),ay_];simp only[Nat.reduceSub];all_goals rfl
theorem sG_ (x:Cfg) (v:Int):spl (cfgC x) 6 [.int .u64 v]=cfgC { x with spe:=v }:=by unfold cfgC;rw[am_ _ _ _ _ (by rw[ay_];omega),ay_];simp only[Nat.reduceSub];all_goals rfl
theorem oT_ (x:Cfg):cut (cfgC x) 7 1=[.int .u64 x.boost]:=by unfold cfgC;rw[an_ _ _ _ _ (by rw[ay_];omega),ay_];rw[ap_ _ _ _ _ (by omega)];simp only[Nat.reduceSub];all_goals rfl
theorem nj_ (x:Cfg) (v:Int):spl (cfgC x) 7 [.int .u64 v]=cfgC { x with boost:=v }:=by unfold cfgC;rw[am_ _ _ _ _ (by rw[ay_];omega),ay_];rw[ao_ _ _ _ _ (by omega)];simp only[Nat.reduceSub];all_goals rfl
theorem tO_ (x:Cfg) (o n:Nat) (h1:8≤o) (h2:o+n≤12):cut (cfgC x) o n=cut (wdc x.ttd) (o-8) n:=by unfold cfgC;rw[an_ _ _ _ _ (by rw[ay_];omega),ay_];rw[ap_ _ _ _ _ (by omega)];rw[ap_ _ _ _ _ (by omega)];rw[bw_ _ _ _ _ (by rw[ai_];omega)];rw[show o-6-1-1=o-8 by omega]
theorem tm_ (x:Cfg) (o:Nat) (vs:List AV) (h1:8≤o) (h2:o+vs.length≤12):spl (cfgC x) o vs=limC x.lim++(.int .u64 x.spe::(.int .u64 x.boost::(spl (wdc x.ttd) (o-8) vs++(rtc x.gen++[x.bals])))):=by unfold cfgC;rw[am_ _ _ _ _ (by rw[ay_];omega),ay_];rw[ao_ _ _ _ _ (by omega)];rw[ao_ _ _ _ _ (by omega)];rw[bx_ _ _ _ _ (by rw[ai_];omega)];rw[show o-6-1-1=o-8 by omega]
theorem sE_ (x:Cfg) (o n:Nat) (h1:12≤o) (h2:o+n≤44):cut (cfgC x) o n=cut (rtc x.gen) (o-12) n:=by unfold cfgC;rw[an_ _ _ _ _ (by rw[ay_];omega),ay_];rw[ap_ _ _ _ _ (by omega)];rw[ap_ _ _ _ _ (by omega)];rw[an_ _ _ _ _ (by rw[ai_];omega),ai_];rw[bw_ _ _ _ _ (by rw[ad_];omega)];rw[show o-6-1-1-4=o-12 by omega]
theorem sZ_ (x:Cfg) (o:Nat) (vs:List AV) (h1:12≤o) (h2:o+vs.length≤44):spl (cfgC x) o vs=limC x.lim++(.int .u64 x.spe::(.int .u64 x.boost::(wdc x.ttd++(spl (rtc x.gen) (o-12) vs++[x.bals])))):=by unfold cfgC;rw[am_ _ _ _ _ (by rw[ay_];omega),ay_];rw[ao_ _ _ _ _ (by omega)];rw[ao_ _ _ _ _ (by omega)];rw[am_ _ _ _ _ (by rw[ai_];omega),ai_];rw[bx_ _ _ _ _ (by rw[ad_];omega)];rw[show o-6-1-1-4=o-12 by omega]
theorem qI_ (x:Cfg):cut (cfgC x) 44 1=[x.bals]:=by unfold cfgC;rw[an_ _ _ _ _ (by rw[ay_];omega),ay_];rw[ap_ _ _ _ _ (by omega)];rw[ap_ _ _ _ _ (by omega)];rw[an_ _ _ _ _ (by rw[ai_];omega),ai_];rw[an_ _ _ _ _ (by rw[ad_];omega),ad_];simp only[Nat.reduceSub];all_goals rfl
theorem pe_ (x:Cfg) (v:AV):spl (cfgC x) 44 [v]=cfgC { x with bals:=v }:=by unfold cfgC;rw[am_ _ _ _ _ (by rw[ay_];omega),ay_];rw[ao_ _ _ _ _ (by omega)];rw[ao_ _ _ _ _ (by omega)];rw[am_ _ _ _ _ (by rw[ai_];omega),ai_];rw[am_ _ _ _ _ (by rw[ad_];omega),ad_];simp only[Nat.reduceSub];all_goals rfl
def Cfg.map (g:AV→AV) (x:Cfg):Cfg:={ x with bals:=g x.bals }
theorem Cfg.map_mk (g:AV→AV) (lim:Lim) (spe:Int) (boost:Int) (ttd:Wd) (gen:Rt) (bals:AV):Cfg.map g ⟨lim,spe,boost,ttd,gen,bals⟩=⟨lim,spe,boost,ttd,gen,g bals⟩:=rfl
def Cfg.good (x:Cfg):Bool:=x.bals.cell
theorem Cfg.good_mk (lim:Lim) (spe:Int) (boost:Int) (ttd:Wd) (gen:Rt) (bals:AV):Cfg.good ⟨lim,spe,boost,ttd,gen,bals⟩=(bals.cell):=rfl
def Cfg.Pure (x:Cfg):Prop:=Pu x.bals
theorem iX_ (x:Cfg):allCells (cfgC x)=x.good:=by simp[cfgC,Cfg.good,Bool.and_assoc,aF_,aK_,aL_,AV.cell,iJ_,bj_,gg_]
theorem vM_ (x:Cfg):PuL (cfgC x)↔x.Pure:=by simp[cfgC,Cfg.Pure,bq_,PuL,Pu,dA_,bg_,cI_]
theorem lc_ (ρ:Nat→Nat) (x:Cfg):renL ρ (cfgC x)=cfgC (x.map (ren ρ)):=by simp only[cfgC,Cfg.map,dO_,renL,ren,ln_,hv_,vt_]
theorem vw_ (σ:St) (zs:List Nat) (x:Cfg):fzL σ zs (cfgC x)=cfgC (x.map (fz σ zs)):=by simp only[cfgC,Cfg.map,eh_,fzL,fz,uX_,ke_,yi_]
def cfg0:Cfg:=⟨lim0,0,0,wd0,rt0,.sl 0 true []⟩
structure Vot where
 has:Bool
 ep:Int
 root:Rt
 deriving Inhabited,DecidableEq
def votC (x:Vot):List AV:=.bool x.has::(.int .u64 x.ep::(rtc x.root))
@[simp] theorem hz_ (x:Vot):(votC x).length=34:=by simp only[votC,List.length_cons,List.length_append,List.length_nil,ad_]
theorem zn_ (has:Bool) (ep:Int) (root:Rt):.bool has::(.int .u64 ep::(rtc root))=votC ⟨has,ep,root⟩:=rfl
theorem zq_ (x:Vot):cut (votC x) 0 34=votC x:=bk_ (hz_ x)
theorem se_ (x:Vot):cut (votC x) 0 1=[.bool x.has]:=by unfold votC;all_goals rfl
theorem tT_ (x:Vot) (v:Bool):spl (votC x) 0 [.bool v]=votC { x with has:=v }:=by unfold votC;all_goals rfl
theorem vF_ (x:Vot):cut (votC x) 1 1=[.int .u64 x.ep]:=by unfold votC;rw[ap_ _ _ _ _ (by omega)];simp only[Nat.reduceSub];all_goals rfl
theorem uL_ (x:Vot) (v:Int):spl (votC x) 1 [.int .u64 v]=votC { x with ep:=v }:=by unfold votC;rw[ao_ _ _ _ _ (by omega)];simp only[Nat.reduceSub];all_goals rfl
theorem pu_ (x:Vot) (o n:Nat) (h1:2≤o) (h2:o+n≤34):cut (votC x) o n=cut (rtc x.root) (o-2) n:=by unfold votC;rw[ap_ _ _ _ _ (by omega)];rw[ap_ _ _ _ _ (by omega)];rw[show o-1-1=o-2 by omega]
theorem oY_ (x:Vot) (o:Nat) (vs:List AV) (h1:2≤o) (h2:o+vs.length≤34):spl (votC x) o vs=.bool x.has::(.int .u64 x.ep::(spl (rtc x.root) (o-2) vs)):=by unfold votC;rw[ao_ _ _ _ _ (by omega)];rw[ao_ _ _ _ _ (by omega)];rw[show o-1-1=o-2 by omega]
theorem pg_ (x:Vot):allCells (votC x)=true:=by simp[votC,aF_,aK_,aL_,AV.cell,bj_]
theorem eQ_ (x:Vot):PuL (votC x):=by simp[votC,bq_,PuL,Pu,bg_]
theorem rz_ (ρ:Nat→Nat) (x:Vot):renL ρ (votC x)=votC x:=(eQ_ x).ren ρ
theorem Cs_ (σ:St) (zs:List Nat) (x:Vot):fzL σ zs (votC x)=votC x:=(eQ_ x).fz σ zs
theorem xh_ (x:Vot):(votC x).map kindAV=expandK [(1,0),(33,1)]:=by simp only[votC,List.map_cons,List.map_append,List.map_nil,kindAV,dv_];decide +kernel
theorem Ab_ (x:Vot):fitsK [(1,0),(33,1)] (votC x)=true:=bT_ (xh_ x)
theorem AS_ (x y:Vot):aeqL (votC x) (votC y)=some (decide (x=y)):=by cases x;cases y;simp[votC,cy_,aeqL,aeq1,ad_,ai_,ew_,Bool.beq_eq_decide_eq,el_,Bool.and_assoc,Bool.decide_and]
def vot0:Vot:=⟨false,0,rt0⟩
structure Nod where
 blk:Blk
 up:Int
 status:Int
 deriving Inhabited,DecidableEq
def nodC (x:Nod):List AV:=blkC x.blk++(.int .i64 x.up::[.int .i64 x.status])
@[simp] theorem hu_ (x:Nod):(nodC x).length=240:=by simp only[nodC,List.length_cons,List.length_append,List.length_nil,ak_]
theorem zY_ (blk:Blk) (up:Int) (status:Int):blkC blk++(.int .i64 up::[.int .i64 status])=nodC ⟨blk,up,status⟩:=rfl
theorem yR_ (x:Nod):cut (nodC x) 0 240=nodC x:=bk_ (hu_ x)
theorem tu_ (x:Nod) (o n:Nat) (h1:0≤o) (h2:o+n≤238):cut (nodC x) o n=cut (blkC x.blk) (o-0) n:=by unfold nodC;rw[bw_ _ _ _ _ (by rw[ak_];omega)];all_goals rfl
theorem tW_ (x:Nod) (o:Nat) (vs:List AV) (h1:0≤o) (h2:o+vs.length≤238):spl (nodC x) o vs=spl (blkC x.blk) (o-0) vs++(.int .i64 x.up::[.int .i64 x.status]):=by unfold nodC;rw[bx_ _ _ _ _ (by rw[ak_];omega)];all_goals rfl
theorem uR_ (x:Nod):cut (nodC x) 238 1=[.int .i64 x.up]:=by unfold nodC;rw[an_ _ _ _ _ (by rw[ak_];omega),ak_];simp only[Nat.reduceSub];all_goals rfl
theorem ub_ (x:Nod) (v:Int):spl (nodC x) 238 [.int .i64 v]=nodC { x with up:=v }:=by unfold nodC;rw[am_ _ _ _ _ (by rw[ak_];omega),ak_];simp only[Nat.reduceSub];all_goals rfl
theorem mC_ (x:Nod):cut (nodC x) 239 1=[.int .i64 x.status]:=by unfold nodC;rw[an_ _ _ _ _ (by rw[ak_];omega),ak_];rw[ap_ _ _ _ _ (by omega)];simp only[Nat.reduceSub];all_goals rfl
theorem mg_ (x:Nod) (v:Int):spl (nodC x) 239 [.int .i64 v]=nodC { x with status:=v }:=by unfold nodC;rw[am_ _ _ _ _ (by rw[ak_];omega),ak_];rw[ao_ _ _ _ _ (by omega)];simp only[Nat.reduceSub];all_goals rfl
theorem pA_ (x:Nod):allCells (nodC x)=true:=by simp[nodC,aF_,aK_,aL_,AV.cell,fx_]
theorem ev_ (x:Nod):PuL (nodC x):=by simp[nodC,bq_,PuL,Pu,bV_]
theorem qO_ (ρ:Nat→Nat) (x:Nod):renL ρ (nodC x)=nodC x:=(ev_ x).ren ρ
theorem Dn_ (σ:St) (zs:List Nat) (x:Nod):fzL σ zs (nodC x)=nodC x:=(ev_ x).fz σ zs
theorem wO_ (x:Nod):(nodC x).map kindAV=expandK [(237,1),(1,0),(2,1)]:=by simp only[nodC,List.map_cons,List.map_append,List.map_nil,kindAV,ok_];decide +kernel
theorem AH_ (x:Nod):fitsK [(237,1),(1,0),(2,1)] (nodC x)=true:=bT_ (wO_ x)
theorem AI_ (x y:Nod):aeqL (nodC x) (nodC y)=some (decide (x=y)):=by cases x;cases y;simp[nodC,cy_,aeqL,aeq1,ad_,ai_,rT_,Bool.beq_eq_decide_eq,el_,Bool.and_assoc,Bool.decide_and]
def nod0:Nod:=⟨blk0,0,0⟩
structure Sto where
 cfg:Cfg
 latest:AV
 eqv:AV
 j:Cp
 f:Cp
 early:AV
 orph:AV
 nodes:AV
 now:Int
 boost:Rt
 tabs:AV
 deriving Inhabited
def stoC (x:Sto):List AV:=cfgC x.cfg++(x.latest::(x.eqv::(cpC x.j++(cpC x.f++(x.early::(x.orph::(x.nodes::(.int .u64 x.now::(rtc x.boost++[x.tabs])))))))))
@[simp] theorem ar_ (x:Sto):(stoC x).length=150:=by simp only[stoC,List.length_cons,List.length_append,List.length_nil,ag_,ae_,ad_]
theorem AJ_ (cfg:Cfg) (latest:AV) (eqv:AV) (j:Cp) (f:Cp) (early:AV) (orph:AV) (nodes:AV) (now:Int) (boost:Rt) (tabs:AV):cfgC cfg++(latest::(eqv::(cpC j++(cpC f++(early::(orph::(nodes::(.int .u64 now::(rtc boost++[tabs])))))))))=stoC ⟨cfg,latest,eqv,j,f,early,orph,nodes,now,boost,tabs⟩:=rfl
theorem zt_ (x:Sto):cut (stoC x) 0 150=stoC x:=bk_ (ar_ x)
theorem sb_ (x:Sto) (o n:Nat) (h1:0≤o) (h2:o+n≤45):cut (stoC x) o n=cut (cfgC x.cfg) (o-0) n:=by unfold stoC;rw[bw_ _ _ _ _ (by rw[ag_];omega)];all_goals rfl
theorem sp_ (x:Sto) (o:Nat) (vs:List AV) (h1:0≤o) (h2:o+vs.length≤45):spl (stoC x) o vs=spl (cfgC x.cfg) (o-0) vs++(x.latest::(x.eqv::(cpC x.j++(cpC x.f++(x.early::(x.orph::(x.nodes::(.int .u64 x.now::(rtc x.boost++[x.tabs]))))))))):=by unfold stoC;rw[bx_ _ _ _ _ (by rw[ag_];omega)];all_goals rfl
theorem mK_ (x:Sto):cut (stoC x) 45 1=[x.latest]:=by unfold stoC;rw[an_ _ _ _ _ (by rw[ag_];omega),ag_];simp only[Nat.reduceSub];all_goals rfl
theorem mm_ (x:Sto) (v:AV):spl (stoC x) 45 [v]=stoC { x with latest:=v }:=by unfold stoC;rw[am_ _ _ _ _ (by rw[ag_];omega),ag_];simp only[Nat.reduceSub];all_goals rfl
theorem sK_ (x:Sto):cut (stoC x) 46 1=[x.eqv]:=by unfold stoC;rw[an_ _ _ _ _ (by rw[ag_];omega),ag_];rw[ap_ _ _ _ _ (by omega)];simp only[Nat.reduceSub];all_goals rfl
theorem sI_ (x:Sto) (v:AV):spl (stoC x) 46 [v]=stoC { x with eqv:=v }:=by unfold stoC;rw[am_ _ _ _ _ (by rw[ag_];omega),ag_];rw[ao_ _ _ _ _ (by omega)];simp only[Nat.reduceSub];all_goals rfl
theorem xq_ (x:Sto) (o n:Nat) (h1:47≤o) (h2:o+n≤80):cut (stoC x) o n=cut (cpC x.j) (o-47) n:=by unfold stoC;rw[an_ _ _ _ _ (by rw[ag_];omega),ag_];rw[ap_ _ _ _ _ (by omega)];rw[ap_ _ _ _ _ (by omega)];rw[bw_ _ _ _ _ (by rw[ae_];omega)];rw[show o-45-1-1=o-47 by omega]
theorem wJ_ (x:Sto) (o:Nat) (vs:List AV) (h1:47≤o) (h2:o+vs.length≤80):spl (stoC x) o vs=cfgC x.cfg++(x.latest::(x.eqv::(spl (cpC x.j) (o-47) vs++(cpC x.f++(x.early::(x.orph::(x.nodes::(.int .u64 x.now::(rtc x.boost++[x.tabs]))))))))):=by unfold stoC;rw[am_ _ _ _ _ (by rw[ag_];omega),ag_];rw[ao_ _ _ _ _ (by omega)];rw[ao_ _ _ _ _ (by omega)];rw[bx_ _ _ _ _ (by rw[ae_];omega)];rw[show o-45-1-1=o-47 by omega]
theorem xd_ (x:Sto) (o n:Nat) (h1:80≤o) (h2:o+n≤113):cut (stoC x) o n=cut (cpC x.f) (o-80) n:=by unfold stoC;rw[an_ _ _ _ _ (by rw[ag_];omega),ag_];rw[ap_ _ _ _ _ (by omega)];rw[ap_ _ _ _ _ (by omega)];rw[an_ _ _ _ _ (by rw[ae_];omega),ae_];rw[bw_ _ _ _ _ (by rw[ae_];omega)];rw[show o-45-1-1-33=o-80 by omega]
theorem wK_ (x:Sto) (o:Nat) (vs:List AV) (h1:80≤o) (h2:o+vs.length≤113):spl (stoC x) o vs=cfgC x.cfg++(x.latest::(x.eqv::(cpC x.j++(spl (cpC x.f) (o-80) vs++(x.early::(x.orph::(x.nodes::(.int .u64 x.now::(rtc x.boost++[x.tabs]))))))))):=by unfold stoC;rw[am_ _ _ _ _ (by rw[ag_];omega),ag_];rw[ao_ _ _ _ _ (by omega)];rw[ao_ _ _ _ _ (by omega)];rw[am_ _ _ _ _ (by rw[ae_];omega),ae_];rw[bx_ _ _ _ _ (by rw[ae_];omega)];rw[show o-45-1-1-33=o-80 by omega]
theorem no_ (x:Sto):cut (stoC x) 113 1=[x.early]:=by unfold stoC;rw[an_ _ _ _ _ (by rw[ag_];omega),ag_];rw[ap_ _ _ _ _ (by omega)];rw[ap_ _ _ _ _ (by omega)];rw[an_ _ _ _ _ (by rw[ae_];omega),ae_];rw[an_ _ _ _ _ (by rw[ae_];omega),ae_];simp only[Nat.reduceSub];all_goals rfl
theorem oV_ (x:Sto) (v:AV):spl (stoC x) 113 [v]=stoC { x with early:=v }:=by unfold stoC;rw[am_ _ _ _ _ (by rw[ag_];omega),ag_];rw[ao_ _ _ _ _ (by omega)];rw[ao_ _ _ _ _ (by omega)];rw[am_ _ _ _ _ (by rw[ae_];omega),ae_];rw[am_ _ _ _ _ (by rw[ae_];omega),ae_];simp only[Nat.reduceSub];all_goals rfl
theorem qc_ (x:Sto):cut (stoC x) 114 1=[x.orph]:=by unfold stoC;rw[an_ _ _ _ _ (by rw[ag_];omega),ag_];rw[ap_ _ _ _ _ (by omega)];rw[ap_ _ _ _ _ (by omega)];rw[an_ _ _ _ _ (by rw[ae_];omega),ae_];rw[an_ _ _ _ _ (by rw[ae_];omega),ae_];rw[ap_ _ _ _ _ (by omega)];simp only[Nat.reduceSub];all_goals rfl
theorem pW_ (x:Sto) (v:AV):spl (stoC x) 114 [v]=stoC { x with orph:=v }:=by unfold stoC;rw[am_ _ _ _ _ (by rw[ag_];omega),ag_];rw[ao_ _ _ _ _ (by omega)];rw[ao_ _ _ _ _ (by omega)];rw[am_ _ _ _ _ (by rw[ae_];omega),ae_];rw[am_ _ _ _ _ (by rw[ae_];omega),ae_];rw[ao_ _ _ _ _ (by omega)];simp only[Nat.reduceSub];all_goals rfl
theorem oJ_ (x:Sto):cut (stoC x) 115 1=[x.nodes]:=by unfold stoC;rw[an_ _ _ _ _ (by rw[ag_];omega),ag_];rw[ap_ _ _ _ _ (by omega)];rw[ap_ _ _ _ _ (by omega)];rw[an_ _ _ _ _ (by rw[ae_];omega),ae_];rw[an_ _ _ _ _ (by rw[ae_];omega),ae_];rw[ap_ _ _ _ _ (by omega)];rw[ap_ _ _ _ _ (by omega)];simp only[Nat.reduceSub];all_goals rfl
theorem nP_ (x:Sto) (v:AV):spl (stoC x) 115 [v]=stoC { x with nodes:=v }:=by unfold stoC;rw[am_ _ _ _ _ (by rw[ag_];omega),ag_];rw[ao_ _ _ _ _ (by omega)];rw[ao_ _ _ _ _ (by omega)];rw[am_ _ _ _ _ (by rw[ae_];omega),ae_];rw[am_ _ _ _ _ (by rw[ae_];omega),ae_];rw[ao_ _ _ _ _ (by omega)];rw[ao_ _ _ _ _ (by omega)];simp only[Nat.reduceSub];all_goals rfl
theorem sV_ (x:Sto):cut (stoC x) 116 1=[.int .u64 x.now]:=by unfold stoC;rw[an_ _ _ _ _ (by rw[ag_];omega),ag_];rw[ap_ _ _ _ _ (by omega)];rw[ap_ _ _ _ _ (by omega)];rw[an_ _ _ _ _ (by rw[ae_];omega),ae_];rw[an_ _ _ _ _ (by rw[ae_];omega),ae_];rw[ap_ _ _ _ _ (by omega)];rw[ap_ _ _ _ _ (by omega)];rw[ap_ _ _ _ _ (by omega)];simp only[Nat.reduceSub];all_goals rfl
theorem sX_ (x:Sto) (v:Int):spl (stoC x) 116 [.int .u64 v]=stoC { x with now:=v }:=by unfold stoC;rw[am_ _ _ _ _ (by rw[ag_];omega),ag_];rw[ao_ _ _ _ _ (by omega)];rw[ao_ _ _ _ _ (by omega)];rw[am_ _ _ _ _ (by rw[ae_];omega),ae_];rw[am_ _ _ _ _ (by rw[ae_];omega),ae_];rw[ao_ _ _ _ _ (by omega)];rw[ao_ _ _ _ _ (by omega)];rw[ao_ _ _ _ _ (by omega)];simp only[Nat.reduceSub];all_goals rfl
theorem og_ (x:Sto) (o n:Nat) (h1:117≤o) (h2:o+n≤149):cut (stoC x) o n=cut (rtc x.boost) (o-117) n:=by unfold stoC;rw[an_ _ _ _ _ (by rw[ag_];omega),ag_];rw[ap_ _ _ _ _ (by omega)];rw[ap_ _ _ _ _ (by omega)];rw[an_ _ _ _ _ (by rw[ae_];omega),ae_];rw[an_ _ _ _ _ (by rw[ae_];omega),ae_];rw[ap_ _ _ _ _ (by omega)];rw[ap_ _ _ _ _ (by omega)];rw[ap_ _ _ _ _ (by omega)];rw[ap_ _ _ _ _ (by omega)];rw[bw_ _ _ _ _ (by rw[ad_];omega)];rw[show o-45-1-1-33-33-1-1-1-1=o-117 by omega]
theorem op_ (x:Sto) (o:Nat) (vs:List AV) (h1:117≤o) (h2:o+vs.length≤149):spl (stoC x) o vs=cfgC x.cfg++(x.latest::(x.eqv::(cpC x.j++(cpC x.f++(x.early::(x.orph::(x.nodes::(.int .u64 x.now::(spl (rtc x.boost) (o-117) vs++[x.tabs]))))))))):=by unfold stoC;rw[am_ _ _ _ _ (by rw[ag_];omega),ag_];rw[ao_ _ _ _ _ (by omega)];rw[ao_ _ _ _ _ (by omega)];rw[am_ _ _ _ _ (by rw[ae_];omega),ae_];rw[am_ _ _ _ _ (by rw[ae_];omega),ae_];rw[ao_ _ _ _ _ (by omega)];rw[ao_ _ _ _ _ (by omega)];rw[ao_ _ _ _ _ (by omega)];rw[ao_ _ _ _ _ (by omega)];rw[bx_ _ _ _ _ (by rw[ad_];omega)];rw[show o-45-1-1-33-33-1-1-1-1=o-117 by omega]
theorem pd_ (x:Sto):cut (stoC x) 149 1=[x.tabs]:=by unfold stoC;rw[an_ _ _ _ _ (by rw[ag_];omega),ag_];rw[ap_ _ _ _ _ (by omega)];rw[ap_ _ _ _ _ (by omega)];rw[an_ _ _ _ _ (by rw[ae_];omega),ae_];rw[an_ _ _ _ _ (by rw[ae_];omega),ae_];rw[ap_ _ _ _ _ (by omega)];rw[ap_ _ _ _ _ (by omega)];rw[ap_ _ _ _ _ (by omega)];rw[ap_ _ _ _ _ (by omega)];rw[an_ _ _ _ _ (by rw[ad_];omega),ad_];simp only[Nat.reduceSub];all_goals rfl
theorem oX_ (x:Sto) (v:AV):spl (stoC x) 149 [v]=stoC { x with tabs:=v }:=by unfold stoC;rw[am_ _ _ _ _ (by rw[ag_];omega),ag_];rw[ao_ _ _ _ _ (by omega)];rw[ao_ _ _ _ _ (by omega)];rw[am_ _ _ _ _ (by rw[ae_];omega),ae_];rw[am_ _ _ _ _ (by rw[ae_];omega),ae_];rw[ao_ _ _ _ _ (by omega)];rw[ao_ _ _ _ _ (by omega)];rw[ao_ _ _ _ _ (by omega)];rw[ao_ _ _ _ _ (by omega)];rw[am_ _ _ _ _ (by rw[ad_];omega),ad_];simp only[Nat.reduceSub];all_goals rfl
theorem iu_ (x:Sto):cut (stoC x) 45 2=x.latest::[x.eqv]:=by unfold stoC;rw[an_ _ _ _ _ (by rw[ag_];omega),ag_];(try simp only[Nat.reduceSub]);rfl
theorem iy_ (x:Sto) (y1:AV) (y2:AV):spl (stoC x) 45 (y1::[y2])=stoC { x with latest:=y1,eqv:=y2 }:=by unfold stoC;rw[am_ _ _ _ _ (by rw[ag_];omega),ag_];(try simp only[Nat.reduceSub]);rfl
theorem tJ_ (x:Sto):cut (stoC x) 47 66=cpC x.j++(cpC x.f):=by unfold stoC;rw[an_ _ _ _ _ (by rw[ag_];omega),ag_];rw[ap_ _ _ _ _ (by omega)];rw[ap_ _ _ _ _ (by omega)];(try simp only[Nat.reduceSub]);exact qf_ (by simp) (by simp)
theorem kD_ (x:Sto) (y3:Cp) (y4:Cp):spl (stoC x) 47 (cpC y3++(cpC y4))=stoC { x with j:=y3,f:=y4 }:=by unfold stoC;rw[am_ _ _ _ _ (by rw[ag_];omega),ag_];rw[ao_ _ _ _ _ (by omega)];rw[ao_ _ _ _ _ (by omega)];(try simp only[Nat.reduceSub]);rw[qt_];all_goals first | rfl | simp
theorem iq_ (x:Sto):cut (stoC x) 113 2=x.early::[x.orph]:=by unfold stoC;rw[an_ _ _ _ _ (by rw[ag_];omega),ag_];rw[ap_ _ _ _ _ (by omega)];rw[ap_ _ _ _ _ (by omega)];rw[an_ _ _ _ _ (by rw[ae_];omega),ae_];rw[an_ _ _ _ _ (by rw[ae_];omega),ae_];(try simp only[Nat.reduceSub]);rfl
theorem it_ (x:Sto) (y5:AV) (y6:AV):spl (stoC x) 113 (y5::[y6])=stoC { x with early:=y5,orph:=y6 }:=by unfold stoC;rw[am_ _ _ _ _ (by rw[ag_];omega),ag_];rw[ao_ _ _ _ _ (by omega)];rw[ao_ _ _ _ _ (by omega)];rw[am_ _ _ _ _ (by rw[ae_];omega),ae_];rw[am_ _ _ _ _ (by rw[ae_];omega),ae_];(try simp only[Nat.reduceSub]);rfl
def Sto.map (g:AV→AV) (x:Sto):Sto:={ x with cfg:=x.cfg.map g,latest:=g x.latest,eqv:=g x.eqv,early:=g x.early,orph:=g x.orph,nodes:=g x.nodes,tabs:=g x.tabs }
theorem Sto.map_mk (g:AV→AV) (cfg:Cfg) (latest:AV) (eqv:AV) (j:Cp) (f:Cp) (early:AV) (orph:AV) (nodes:AV) (now:Int) (boost:Rt) (tabs:AV):Sto.map g ⟨cfg,latest,eqv,j,f,early,orph,nodes,now,boost,tabs⟩=⟨cfg.map g,g latest,g eqv,j,f,g early,g orph,g nodes,now,boost,g tabs⟩:=rfl
def Sto.good (x:Sto):Bool:=x.cfg.good&&x.latest.cell&&x.eqv.cell&&x.early.cell&&x.orph.cell&&x.nodes.cell&&x.tabs.cell
theorem Sto.good_mk (cfg:Cfg) (latest:AV) (eqv:AV) (j:Cp) (f:Cp) (early:AV) (orph:AV) (nodes:AV) (now:Int) (boost:Rt) (tabs:AV):Sto.good ⟨cfg,latest,eqv,j,f,early,orph,nodes,now,boost,tabs⟩=(cfg.good&&latest.cell&&eqv.cell&&early.cell&&orph.cell&&nodes.cell&&tabs.cell):=rfl
def Sto.Pure (x:Sto):Prop:=x.cfg.Pure∧Pu x.latest∧Pu x.eqv∧Pu x.early∧Pu x.orph∧Pu x.nodes∧Pu x.tabs
theorem iA_ (x:Sto):allCells (stoC x)=x.good:=by simp[stoC,Sto.good,Bool.and_assoc,aF_,aK_,aL_,AV.cell,iX_,cq_,bj_]
theorem hS_ (x:Sto):PuL (stoC x)↔x.Pure:=by simp[stoC,Sto.Pure,bq_,PuL,Pu,vM_,cH_,bg_]
theorem ls_ (ρ:Nat→Nat) (x:Sto):renL ρ (stoC x)=stoC (x.map (ren ρ)):=by simp only[stoC,Sto.map,dO_,renL,ren,lc_,jU_,hv_]
theorem vD_ (σ:St) (zs:List Nat) (x:Sto):fzL σ zs (stoC x)=stoC (x.map (fz σ zs)):=by simp only[stoC,Sto.map,eh_,fzL,fz,vw_,na_,ke_]
def sto0:Sto:=⟨cfg0,.sl 0 true [],.sl 0 true [],cp0,cp0,.sl 0 true [],.sl 0 true [],.sl 0 true [],0,rt0,.sl 0 true []⟩
structure Req where
 tag:Int
 block:Rt
 tries:Int
 due:Int
 deriving Inhabited,DecidableEq
def reqC (x:Req):List AV:=.int .u64 x.tag::(rtc x.block++(.int .i64 x.tries::[.int .u64 x.due]))
@[simp] theorem hp_ (x:Req):(reqC x).length=35:=by simp only[reqC,List.length_cons,List.length_append,List.length_nil,ad_]
theorem zd_ (tag:Int) (block:Rt) (tries:Int) (due:Int):.int .u64 tag::(rtc block++(.int .i64 tries::[.int .u64 due]))=reqC ⟨tag,block,tries,due⟩:=rfl
theorem zk_ (x:Req):cut (reqC x) 0 35=reqC x:=bk_ (hp_ x)
theorem sQ_ (x:Req):cut (reqC x) 0 1=[.int .u64 x.tag]:=by unfold reqC;all_goals rfl
theorem tA_ (x:Req) (v:Int):spl (reqC x) 0 [.int .u64 v]=reqC { x with tag:=v }:=by unfold reqC;all_goals rfl
theorem nn_ (x:Req) (o n:Nat) (h1:1≤o) (h2:o+n≤33):cut (reqC x) o n=cut (rtc x.block) (o-1) n:=by unfold reqC;rw[ap_ _ _ _ _ (by omega)];rw[bw_ _ _ _ _ (by rw[ad_];omega)];all_goals rfl
theorem nB_ (x:Req) (o:Nat) (vs:List AV) (h1:1≤o) (h2:o+vs.length≤33):spl (reqC x) o vs=.int .u64 x.tag::(spl (rtc x.block) (o-1) vs++(.int .i64 x.tries::[.int .u64 x.due])):=by unfold reqC;rw[ao_ _ _ _ _ (by omega)];rw[bx_ _ _ _ _ (by rw[ad_];omega)];all_goals rfl
theorem ns_ (x:Req):cut (reqC x) 33 1=[.int .i64 x.tries]:=by unfold reqC;rw[ap_ _ _ _ _ (by omega)];rw[an_ _ _ _ _ (by rw[ad_];omega),ad_];simp only[Nat.reduceSub];all_goals rfl
theorem oO_ (x:Req) (v:Int):spl (reqC x) 33 [.int .i64 v]=reqC { x with tries:=v }:=by unfold reqC;rw[ao_ _ _ _ _ (by omega)];rw[am_ _ _ _ _ (by rw[ad_];omega),ad_];simp only[Nat.reduceSub];all_goals rfl
theorem sT_ (x:Req):cut (reqC x) 34 1=[.int .u64 x.due]:=by unfold reqC;rw[ap_ _ _ _ _ (by omega)];rw[an_ _ _ _ _ (by rw[ad_];omega),ad_];rw[ap_ _ _ _ _ (by omega)];simp only[Nat.reduceSub];all_goals rfl
theorem th_ (x:Req) (v:Int):spl (reqC x) 34 [.int .u64 v]=reqC { x with due:=v }:=by unfold reqC;rw[ao_ _ _ _ _ (by omega)];rw[am_ _ _ _ _ (by rw[ad_];omega),ad_];rw[ao_ _ _ _ _ (by omega)];simp only[Nat.reduceSub];all_goals rfl
theorem pt_ (x:Req):allCells (reqC x)=true:=by simp[reqC,aF_,aK_,aL_,AV.cell,bj_]
theorem bU_ (x:Req):PuL (reqC x):=by simp[reqC,bq_,PuL,Pu,bg_]
theorem qZ_ (ρ:Nat→Nat) (x:Req):renL ρ (reqC x)=reqC x:=(bU_ x).ren ρ
theorem CS_ (σ:St) (zs:List Nat) (x:Req):fzL σ zs (reqC x)=reqC x:=(bU_ x).fz σ zs
theorem xf_ (x:Req):(reqC x).map kindAV=expandK [(35,1)]:=by simp only[reqC,List.map_cons,List.map_append,List.map_nil,kindAV,dv_];decide +kernel
theorem zp_ (x:Req):fitsK [(35,1)] (reqC x)=true:=bT_ (xf_ x)
theorem yN_ (x y:Req):aeqL (reqC x) (reqC y)=some (decide (x=y)):=by cases x;cases y;simp[reqC,cy_,aeqL,aeq1,ad_,ai_,ew_,Bool.beq_eq_decide_eq,el_,Bool.and_assoc,Bool.decide_and]
def req0:Req:=⟨0,rt0,0,0⟩
structure Cmd where
 head:Rt
 safe:Rt
 fin:Rt
 deriving Inhabited,DecidableEq
def cmdC (x:Cmd):List AV:=rtc x.head++(rtc x.safe++(rtc x.fin))
@[simp] theorem aZ_ (x:Cmd):(cmdC x).length=96:=by simp only[cmdC,List.length_cons,List.length_append,List.length_nil,ad_]
theorem zF_ (head:Rt) (safe:Rt) (fin:Rt):rtc head++(rtc safe++(rtc fin))=cmdC ⟨head,safe,fin⟩:=rfl
theorem zI_ (x:Cmd):cut (cmdC x) 0 96=cmdC x:=bk_ (aZ_ x)
theorem pj_ (x:Cmd) (o n:Nat) (h1:0≤o) (h2:o+n≤32):cut (cmdC x) o n=cut (rtc x.head) (o-0) n:=by unfold cmdC;rw[bw_ _ _ _ _ (by rw[ad_];omega)];all_goals rfl
theorem qg_ (x:Cmd) (o:Nat) (vs:List AV) (h1:0≤o) (h2:o+vs.length≤32):spl (cmdC x) o vs=spl (rtc x.head) (o-0) vs++(rtc x.safe++(rtc x.fin)):=by unfold cmdC;rw[bx_ _ _ _ _ (by rw[ad_];omega)];all_goals rfl
theorem pz_ (x:Cmd) (o n:Nat) (h1:32≤o) (h2:o+n≤64):cut (cmdC x) o n=cut (rtc x.safe) (o-32) n:=by unfold cmdC;rw[an_ _ _ _ _ (by rw[ad_];omega),ad_];rw[bw_ _ _ _ _ (by rw[ad_];omega)];all_goals rfl
theorem qq_ (x:Cmd) (o:Nat) (vs:List AV) (h1:32≤o) (h2:o+vs.length≤64):spl (cmdC x) o vs=rtc x.head++(spl (rtc x.safe) (o-32) vs++(rtc x.fin)):=by unfold cmdC;rw[am_ _ _ _ _ (by rw[ad_];omega),ad_];rw[bx_ _ _ _ _ (by rw[ad_];omega)];all_goals rfl
theorem ts_ (x:Cmd) (o n:Nat) (h1:64≤o) (h2:o+n≤96):cut (cmdC x) o n=cut (rtc x.fin) (o-64) n:=by unfold cmdC;rw[an_ _ _ _ _ (by rw[ad_];omega),ad_];rw[an_ _ _ _ _ (by rw[ad_];omega),ad_];rw[show o-32-32=o-64 by omega]
theorem sA_ (x:Cmd) (o:Nat) (vs:List AV) (h1:64≤o) (h2:o+vs.length≤96):spl (cmdC x) o vs=rtc x.head++(rtc x.safe++(spl (rtc x.fin) (o-64) vs)):=by unfold cmdC;rw[am_ _ _ _ _ (by rw[ad_];omega),ad_];rw[am_ _ _ _ _ (by rw[ad_];omega),ad_];rw[show o-32-32=o-64 by omega]
theorem iM_ (x:Cmd):allCells (cmdC x)=true:=by simp[cmdC,aF_,aK_,aL_,AV.cell,bj_]
theorem fC_ (x:Cmd):PuL (cmdC x):=by simp[cmdC,bq_,PuL,Pu,bg_]
theorem li_ (ρ:Nat→Nat) (x:Cmd):renL ρ (cmdC x)=cmdC x:=(fC_ x).ren ρ
theorem uO_ (σ:St) (zs:List Nat) (x:Cmd):fzL σ zs (cmdC x)=cmdC x:=(fC_ x).fz σ zs
theorem wj_ (x:Cmd):(cmdC x).map kindAV=expandK [(96,1)]:=by simp only[cmdC,List.map_cons,List.map_append,List.map_nil,kindAV,dv_];decide +kernel
theorem zM_ (x:Cmd):fitsK [(96,1)] (cmdC x)=true:=bT_ (wj_ x)
theorem zK_ (x y:Cmd):aeqL (cmdC x) (cmdC y)=some (decide (x=y)):=by cases x;cases y;simp[cmdC,cy_,aeqL,aeq1,ad_,ai_,ew_,Bool.beq_eq_decide_eq,el_,Bool.and_assoc,Bool.decide_and]
def cmd0:Cmd:=⟨rt0,rt0,rt0⟩
structure Sta where
 sto:Sto
 reqs:AV
 rets:AV
 tag:Int
 sent:Bool
 last:Cmd
 over:Bool
 halt:Bool
 deriving Inhabited
def staC (x:Sta):List AV:=stoC x.sto++(x.reqs::(x.rets::(.int .u64 x.tag::(.bool x.sent::(cmdC x.last++(.bool x.over::[.bool x.halt]))))))
@[simp] theorem hK_ (x:Sta):(staC x).length=252:=by simp only[staC,List.length_cons,List.length_append,List.length_nil,aZ_,ar_]
theorem Af_ (sto:Sto) (reqs:AV) (rets:AV) (tag:Int) (sent:Bool) (last:Cmd) (over:Bool) (halt:Bool):stoC sto++(reqs::(rets::(.int .u64 tag::(.bool sent::(cmdC last++(.bool over::[.bool halt]))))))=staC ⟨sto,reqs,rets,tag,sent,last,over,halt⟩:=rfl
theorem AQ_ (x:Sta):cut (staC x) 0 252=staC x:=bk_ (hK_ x)
theorem sr_ (x:Sta) (o n:Nat) (h1:0≤o) (h2:o+n≤150):cut (staC x) o n=cut (stoC x.sto) (o-0) n:=by unfold staC;rw[bw_ _ _ _ _ (by rw[ar_];omega)];all_goals rfl
theorem ty_ (x:Sta) (o:Nat) (vs:List AV) (h1:0≤o) (h2:o+vs.length≤150):spl (staC x) o vs=spl (stoC x.sto) (o-0) vs++(x.reqs::(x.rets::(.int .u64 x.tag::(.bool x.sent::(cmdC x.last++(.bool x.over::[.bool x.halt])))))):=by unfold staC;rw[bx_ _ _ _ _ (by rw[ar_];omega)];all_goals rfl
theorem pU_ (x:Sta):cut (staC x) 150 1=[x.reqs]:=by unfold staC;rw[an_ _ _ _ _ (by rw[ar_];omega),ar_];simp only[Nat.reduceSub];all_goals rfl
theorem pv_ (x:Sta) (v:AV):spl (staC x) 150 [v]=staC { x with reqs:=v }:=by unfold staC;rw[am_ _ _ _ _ (by rw[ar_];omega),ar_];simp only[Nat.reduceSub];all_goals rfl
theorem pk_ (x:Sta):cut (staC x) 151 1=[x.rets]:=by unfold staC;rw[an_ _ _ _ _ (by rw[ar_];omega),ar_];rw[ap_ _ _ _ _ (by omega)];simp only[Nat.reduceSub];all_goals rfl
theorem qA_ (x:Sta) (v:AV):spl (staC x) 151 [v]=staC { x with rets:=v }:=by unfold staC;rw[am_ _ _ _ _ (by rw[ar_];omega),ar_];rw[ao_ _ _ _ _ (by omega)];simp only[Nat.reduceSub];all_goals rfl
theorem tS_ (x:Sta):cut (staC x) 152 1=[.int .u64 x.tag]:=by unfold staC;rw[an_ _ _ _ _ (by rw[ar_];omega),ar_];rw[ap_ _ _ _ _ (by omega)];rw[ap_ _ _ _ _ (by omega)];simp only[Nat.reduceSub];all_goals rfl
theorem sc_ (x:Sta) (v:Int):spl (staC x) 152 [.int .u64 v]=staC { x with tag:=v }:=by unfold staC;rw[am_ _ _ _ _ (by rw[ar_];omega),ar_];rw[ao_ _ _ _ _ (by omega)];rw[ao_ _ _ _ _ (by omega)];simp only[Nat.reduceSub];all_goals rfl
theorem pp_ (x:Sta):cut (staC x) 153 1=[.bool x.sent]:=by unfold staC;rw[an_ _ _ _ _ (by rw[ar_];omega),ar_];rw[ap_ _ _ _ _ (by omega)];rw[ap_ _ _ _ _ (by omega)];rw[ap_ _ _ _ _ (by omega)];simp only[Nat.reduceSub];all_goals rfl
theorem qG_ (x:Sta) (v:Bool):spl (staC x) 153 [.bool v]=staC { x with sent:=v }:=by unfold staC;rw[am_ _ _ _ _ (by rw[ar_];omega),ar_];rw[ao_ _ _ _ _ (by omega)];rw[ao_ _ _ _ _ (by omega)];rw[ao_ _ _ _ _ (by omega)];simp only[Nat.reduceSub];all_goals rfl
theorem ps_ (x:Sta) (o n:Nat) (h1:154≤o) (h2:o+n≤250):cut (staC x) o n=cut (cmdC x.last) (o-154) n:=by unfold staC;rw[an_ _ _ _ _ (by rw[ar_];omega),ar_];rw[ap_ _ _ _ _ (by omega)];rw[ap_ _ _ _ _ (by omega)];rw[ap_ _ _ _ _ (by omega)];rw[ap_ _ _ _ _ (by omega)];rw[bw_ _ _ _ _ (by rw[aZ_];omega)];rw[show o-150-1-1-1-1=o-154 by omega]
theorem qF_ (x:Sta) (o:Nat) (vs:List AV) (h1:154≤o) (h2:o+vs.length≤250):spl (staC x) o vs=stoC x.sto++(x.reqs::(x.rets::(.int .u64 x.tag::(.bool x.sent::(spl (cmdC x.last) (o-154) vs++(.bool x.over::[.bool x.halt])))))):=by unfold staC;rw[am_ _ _ _ _ (by rw[ar_];omega),ar_];rw[ao_ _ _ _ _ (by omega)];rw[ao_ _ _ _ _ (by omega)];rw[ao_ _ _ _ _ (by omega)];rw[ao_ _ _ _ _ (by omega)];rw[bx_ _ _ _ _ (by rw[aZ_];omega)];rw[show o-150-1-1-1-1=o-154 by omega]
theorem pX_ (x:Sta):cut (staC x) 250 1=[.bool x.over]:=by unfold staC;rw[an_ _ _ _ _ (by rw[ar_];omega),ar_];rw[ap_ _ _ _ _ (by omega)];rw[ap_ _ _ _ _ (by omega)];rw[ap_ _ _ _ _ (by omega)];rw[ap_ _ _ _ _ (by omega)];rw[an_ _ _ _ _ (by rw[aZ_];omega),aZ_];simp only[Nat.reduceSub];all_goals rfl
theorem pJ_ (x:Sta) (v:Bool):spl (staC x) 250 [.bool v]=staC { x with over:=v }:=by unfold staC;rw[am_ _ _ _ _ (by rw[ar_];omega),ar_];rw[ao_ _ _ _ _ (by omega)];rw[ao_ _ _ _ _ (by omega)];rw[ao_ _ _ _ _ (by omega)];rw[ao_ _ _ _ _ (by omega)];rw[am_ _ _ _ _ (by rw[aZ_];omega),aZ_];simp only[Nat.reduceSub];all_goals rfl
theorem px_ (x:Sta):cut (staC x) 251 1=[.bool x.halt]:=by unfold staC;rw[an_ _ _ _ _ (by rw[ar_];omega),ar_];rw[ap_ _ _ _ _ (by omega)];rw[ap_ _ _ _ _ (by omega)];rw[ap_ _ _ _ _ (by omega)];rw[ap_ _ _ _ _ (by omega)];rw[an_ _ _ _ _ (by rw[aZ_];omega),aZ_];rw[ap_ _ _ _ _ (by omega)];simp only[Nat.reduceSub];all_goals rfl
theorem pa_ (x:Sta) (v:Bool):spl (staC x) 251 [.bool v]=staC { x with halt:=v }:=by unfold staC;rw[am_ _ _ _ _ (by rw[ar_];omega),ar_];rw[ao_ _ _ _ _ (by omega)];rw[ao_ _ _ _ _ (by omega)];rw[ao_ _ _ _ _ (by omega)];rw[ao_ _ _ _ _ (by omega)];rw[am_ _ _ _ _ (by rw[aZ_];omega),aZ_];rw[ao_ _ _ _ _ (by omega)];simp only[Nat.reduceSub];all_goals rfl
def Sta.map (g:AV→AV) (x:Sta):Sta:={ x with sto:=x.sto.map g,reqs:=g x.reqs,rets:=g x.rets }
theorem Sta.map_mk (g:AV→AV) (sto:Sto) (reqs:AV) (rets:AV) (tag:Int) (sent:Bool) (last:Cmd) (over:Bool) (halt:Bool):Sta.map g ⟨sto,reqs,rets,tag,sent,last,over,halt⟩=⟨sto.map g,g reqs,g rets,tag,sent,last,over,halt⟩:=rfl
def Sta.good (x:Sta):Bool:=x.sto.good&&x.reqs.cell&&x.rets.cell
theorem Sta.good_mk (sto:Sto) (reqs:AV) (rets:AV) (tag:Int) (sent:Bool) (last:Cmd) (over:Bool) (halt:Bool):Sta.good ⟨sto,reqs,rets,tag,sent,last,over,halt⟩=(sto.good&&reqs.cell&&rets.cell):=rfl
def Sta.Pure (x:Sta):Prop:=x.sto.Pure∧Pu x.reqs∧Pu x.rets
theorem qy_ (x:Sta):allCells (staC x)=x.good:=by simp[staC,Sta.good,Bool.and_assoc,aF_,aK_,aL_,AV.cell,iM_,iA_]
theorem vl_ (x:Sta):PuL (staC x)↔x.Pure:=by simp[staC,Sta.Pure,bq_,PuL,Pu,fC_,hS_]
theorem rw_ (ρ:Nat→Nat) (x:Sta):renL ρ (staC x)=staC (x.map (ren ρ)):=by simp only[staC,Sta.map,dO_,renL,ren,li_,ls_]
theorem CJ_ (σ:St) (zs:List Nat) (x:Sta):fzL σ zs (staC x)=staC (x.map (fz σ zs)):=by simp only[staC,Sta.map,eh_,fzL,fz,uO_,vD_]
def sta0:Sta:=⟨sto0,.sl 0 true [],.sl 0 true [],0,false,cmd0,false,false⟩
attribute [go_sem] zv_ ay_ yX_ pV_ pD_ qa_ qi_ oy_ ot_ oA_ oa_ ng_ nL_ lF_ lv_ iJ_ ln_ yS_ yw_ zm_ ag_ Ak_ sB_ tN_ sh_ sG_ oT_ nj_ tO_ tm_ sE_ sZ_ qI_ pe_ Cfg.map_mk Cfg.good_mk iX_ lc_ zq_ hz_ zn_ se_ tT_ vF_ uL_ pu_ oY_ pg_ rz_ Ab_ AS_ yR_ hu_ zY_ tu_ tW_ uR_ ub_ mC_ mg_ pA_ qO_ AH_ AI_ zt_ ar_ AJ_ sb_ sp_ mK_ mm_ sK_ sI_ xq_ wJ_ xd_ wK_ no_ oV_ qc_ pW_ oJ_ nP_ sV_ sX_ og_ op_ pd_ oX_ iu_ iy_ tJ_ kD_ iq_ it_ Sto.map_mk Sto.good_mk iA_ ls_ zk_ hp_ zd_ sQ_ tA_ nn_ nB_ ns_ oO_ sT_ th_ pt_ qZ_ zp_ yN_ zI_ aZ_ zF_ pj_ qg_ pz_ qq_ ts_ sA_ iM_ li_ zM_ zK_ AQ_ hK_ Af_ sr_ ty_ pU_ pv_ pk_ qA_ tS_ sc_ pp_ qG_ ps_ qF_ pX_ pJ_ px_ pa_ Sta.map_mk Sta.good_mk qy_ rw_ lim0 cfg0 vot0 nod0 sto0 req0 cmd0 sta0 ay_ ln_ uX_ ag_ Cfg.map_mk lc_ vw_ hz_ rz_ Cs_ hu_ qO_ Dn_ ar_ Sto.map_mk ls_ vD_ hp_ qZ_ CS_ aZ_ li_ uO_ hK_ Sta.map_mk rw_ CJ_

def rows {α:Type}(f:α→List AV) (l:List α):List (List AV):=l.map f
section
variable {α:Type}{f:α→List AV}{l m:List α}
@[simp] theorem vR_ (f:α→List AV) (l:List α):(rows f l).length=l.length:=by simp[rows]
theorem Cl_ (f:α→List AV):rows f []=[]:=rfl
theorem oz_ (f:α→List AV) (l m:List α):rows f l++rows f m=rows f (l++m):=by simp[rows]
theorem bn_ (f:α→List AV) (l:List α) (x:α):rows f l++[f x]=rows f (l++[x]):=by simp[rows]
theorem ie_ (f:α→List AV) (l:List α) (n:Nat):(rows f l).take n=rows f (l.take n):=by simp[rows]
theorem if_ (f:α→List AV) (l:List α) (n:Nat):(rows f l).drop n=rows f (l.drop n):=by simp[rows]
theorem nC_ (f:α→List AV) (l:List α) (n:Nat) (x:α):(rows f l).set n (f x)=rows f (l.set n x):=by simp[rows,List.map_set]
theorem BX_ (f:α→List AV) (n:Nat) (x:α):List.replicate n (f x)=rows f (List.replicate n x):=by simp[rows]
theorem bl_ {i:Nat}(d:α) (h:i<l.length):(rows f l).getD i []=f (l.getD i d):=by
 simp[rows,List.getD_eq_getElem?_getD,h]
theorem aQ_ (h:∀ x ∈ l,PuL (f x)):PuLL (rows f l):=by
 rw[fR_]
 intro x hx
 obtain⟨y,hy,rfl⟩:=List.mem_map.1 hx
 exact h y hy
end
theorem gdn {k:IntKind}{ns:List Int}{i:Nat}(h:i<ns.length):(nums k ns).getD i []=[.int k (ns.getD i 0)]:=by
 simp[nums,List.getD_eq_getElem?_getD,h]
def boolC (b:Bool):List AV:=[.bool b]
theorem Ar_ (b:Bool):PuL (boolC b):=by simp[boolC,PuL,Pu]
theorem wC_ (h:Bool) (c:Cp):.bool h::cpC c=votC ⟨h,c.ep,c.rt⟩:=rfl
attribute [go_sem] wC_
attribute [go_sem] vR_ Cl_
structure VAtt where
 slot:Int
 root:Rt
 target:Cp
 vals:List Int
 deriving Inhabited,DecidableEq
def VAtt.a (x:VAtt):Att:=⟨x.slot,x.root,x.target,.sl 1 false (nums .i64 x.vals)⟩
abbrev VAtt.c (x:VAtt):List AV:=attC x.a
theorem VAtt.a_slot (x:VAtt):x.a.slot=x.slot:=rfl
theorem VAtt.a_root (x:VAtt):x.a.root=x.root:=rfl
theorem VAtt.a_target (x:VAtt):x.a.target=x.target:=rfl
theorem VAtt.a_vals (x:VAtt):x.a.vals=.sl 1 false (nums .i64 x.vals):=rfl
theorem VAtt.pure (x:VAtt):x.a.Pure:=by
 exact aw_ _ _
theorem VAtt.pul (x:VAtt):PuL (attC x.a):=(bt_ _).2 x.pure
theorem VAtt.ren_a (ρ:Nat→Nat) (x:VAtt):renL ρ (attC x.a)=attC x.a:=x.pul.ren ρ
theorem VAtt.fz_a (σ:St) (zs:List Nat) (x:VAtt):fzL σ zs (attC x.a)=attC x.a:=x.pul.fz σ zs
theorem VAtt.map_ren (ρ:Nat→Nat) (x:VAtt):x.a.map (ren ρ)=x.a:=by
 unfold VAtt.a Att.map;simp only[ren,bh_]
theorem VAtt.map_fz (σ:St) (zs:List Nat) (x:VAtt):x.a.map (fz σ zs)=x.a:=by
 unfold VAtt.a Att.map;simp only[fz,bD_]
theorem VAtt.good_a (x:VAtt):x.a.good=true:=by
 simp[VAtt.a,Att.good,AV.cell]
structure VTab where
 cp:Cp
 bals:List Int
 deriving Inhabited,DecidableEq
def VTab.a (x:VTab):Tab:=⟨x.cp,.sl 1 false (nums .u64 x.bals)⟩
abbrev VTab.c (x:VTab):List AV:=tabC x.a
theorem VTab.a_cp (x:VTab):x.a.cp=x.cp:=rfl
theorem VTab.a_bals (x:VTab):x.a.bals=.sl 1 false (nums .u64 x.bals):=rfl
theorem VTab.pure (x:VTab):x.a.Pure:=by
 exact aw_ _ _
theorem VTab.pul (x:VTab):PuL (tabC x.a):=(bs_ _).2 x.pure
theorem VTab.ren_a (ρ:Nat→Nat) (x:VTab):renL ρ (tabC x.a)=tabC x.a:=x.pul.ren ρ
theorem VTab.fz_a (σ:St) (zs:List Nat) (x:VTab):fzL σ zs (tabC x.a)=tabC x.a:=x.pul.fz σ zs
theorem VTab.map_ren (ρ:Nat→Nat) (x:VTab):x.a.map (ren ρ)=x.a:=by
 unfold VTab.a Tab.map;simp only[ren,bh_]
theorem VTab.map_fz (σ:St) (zs:List Nat) (x:VTab):x.a.map (fz σ zs)=x.a:=by
 unfold VTab.a Tab.map;simp only[fz,bD_]
theorem VTab.good_a (x:VTab):x.a.good=true:=by
 simp[VTab.a,Tab.good,AV.cell]
structure VClm where
 src:Int
 tgt:Int
 root:Rt
 vals:List Int
 deriving Inhabited,DecidableEq
def VClm.a (x:VClm):Clm:=⟨x.src,x.tgt,x.root,.sl 1 false (nums .i64 x.vals)⟩
abbrev VClm.c (x:VClm):List AV:=clmC x.a
theorem VClm.a_src (x:VClm):x.a.src=x.src:=rfl
theorem VClm.a_tgt (x:VClm):x.a.tgt=x.tgt:=rfl
theorem VClm.a_root (x:VClm):x.a.root=x.root:=rfl
theorem VClm.a_vals (x:VClm):x.a.vals=.sl 1 false (nums .i64 x.vals):=rfl
theorem VClm.pure (x:VClm):x.a.Pure:=by
 exact aw_ _ _
theorem VClm.pul (x:VClm):PuL (clmC x.a):=(fO_ _).2 x.pure
theorem VClm.ren_a (ρ:Nat→Nat) (x:VClm):renL ρ (clmC x.a)=clmC x.a:=x.pul.ren ρ
theorem VClm.fz_a (σ:St) (zs:List Nat) (x:VClm):fzL σ zs (clmC x.a)=clmC x.a:=x.pul.fz σ zs
theorem VClm.map_ren (ρ:Nat→Nat) (x:VClm):x.a.map (ren ρ)=x.a:=by
 unfold VClm.a Clm.map;simp only[ren,bh_]
theorem VClm.map_fz (σ:St) (zs:List Nat) (x:VClm):x.a.map (fz σ zs)=x.a:=by
 unfold VClm.a Clm.map;simp only[fz,bD_]
theorem VClm.good_a (x:VClm):x.a.good=true:=by
 simp[VClm.a,Clm.good,AV.cell]
structure VSlg where
 fst:VClm
 snd:VClm
 deriving Inhabited,DecidableEq
def VSlg.a (x:VSlg):Slg:=⟨x.fst.a,x.snd.a⟩
abbrev VSlg.c (x:VSlg):List AV:=slgC x.a
theorem VSlg.a_fst (x:VSlg):x.a.fst=x.fst.a:=rfl
theorem VSlg.a_snd (x:VSlg):x.a.snd=x.snd.a:=rfl
theorem VSlg.pure (x:VSlg):x.a.Pure:=by
 exact⟨VClm.pure _,VClm.pure _⟩
theorem VSlg.pul (x:VSlg):PuL (slgC x.a):=(bI_ _).2 x.pure
theorem VSlg.ren_a (ρ:Nat→Nat) (x:VSlg):renL ρ (slgC x.a)=slgC x.a:=x.pul.ren ρ
theorem VSlg.fz_a (σ:St) (zs:List Nat) (x:VSlg):fzL σ zs (slgC x.a)=slgC x.a:=x.pul.fz σ zs
theorem VSlg.map_ren (ρ:Nat→Nat) (x:VSlg):x.a.map (ren ρ)=x.a:=by
 unfold VSlg.a Slg.map;simp only[ren,bh_,VClm.map_ren,VClm.map_ren]
theorem VSlg.map_fz (σ:St) (zs:List Nat) (x:VSlg):x.a.map (fz σ zs)=x.a:=by
 unfold VSlg.a Slg.map;simp only[fz,bD_,VClm.map_fz,VClm.map_fz]
theorem VSlg.good_a (x:VSlg):x.a.good=true:=by
 simp[VSlg.a,Slg.good,AV.cell,VClm.good_a,VClm.good_a]
structure VCfg where
 lim:Lim
 spe:Int
 boost:Int
 ttd:Wd
 gen:Rt
 bals:List Int
 deriving Inhabited,DecidableEq
def VCfg.a (x:VCfg):Cfg:=⟨x.lim,x.spe,x.boost,x.ttd,x.gen,.sl 1 false (nums .u64 x.bals)⟩
abbrev VCfg.c (x:VCfg):List AV:=cfgC x.a
theorem VCfg.a_lim (x:VCfg):x.a.lim=x.lim:=rfl
theorem VCfg.a_spe (x:VCfg):x.a.spe=x.spe:=rfl
theorem VCfg.a_boost (x:VCfg):x.a.boost=x.boost:=rfl
theorem VCfg.a_ttd (x:VCfg):x.a.ttd=x.ttd:=rfl
theorem VCfg.a_gen (x:VCfg):x.a.gen=x.gen:=rfl
theorem VCfg.a_bals (x:VCfg):x.a.bals=.sl 1 false (nums .u64 x.bals):=rfl
theorem VCfg.pure (x:VCfg):x.a.Pure:=by
 exact aw_ _ _
theorem VCfg.pul (x:VCfg):PuL (cfgC x.a):=(vM_ _).2 x.pure
theorem VCfg.ren_a (ρ:Nat→Nat) (x:VCfg):renL ρ (cfgC x.a)=cfgC x.a:=x.pul.ren ρ
theorem VCfg.fz_a (σ:St) (zs:List Nat) (x:VCfg):fzL σ zs (cfgC x.a)=cfgC x.a:=x.pul.fz σ zs
theorem VCfg.map_ren (ρ:Nat→Nat) (x:VCfg):x.a.map (ren ρ)=x.a:=by
 unfold VCfg.a Cfg.map;simp only[ren,bh_]
theorem VCfg.map_fz (σ:St) (zs:List Nat) (x:VCfg):x.a.map (fz σ zs)=x.a:=by
 unfold VCfg.a Cfg.map;simp only[fz,bD_]
theorem VCfg.good_a (x:VCfg):x.a.good=true:=by
 simp[VCfg.a,Cfg.good,AV.cell]
structure VSto where
 cfg:VCfg
 latest:List Vot
 eqv:List Int
 j:Cp
 f:Cp
 early:List VAtt
 orph:List Blk
 nodes:List Nod
 now:Int
 boost:Rt
 tabs:List VTab
 deriving Inhabited,DecidableEq
def VSto.a (x:VSto):Sto:=⟨x.cfg.a,.sl 34 false (rows votC x.latest),.sl 1 false (nums .i64 x.eqv),x.j,x.f,.sl 67 false (rows VAtt.c x.early),.sl 238 false (rows blkC x.orph),.sl 240 false (rows nodC x.nodes),x.now,x.boost,.sl 34 false (rows VTab.c x.tabs)⟩
abbrev VSto.c (x:VSto):List AV:=stoC x.a
theorem VSto.a_cfg (x:VSto):x.a.cfg=x.cfg.a:=rfl
theorem VSto.a_latest (x:VSto):x.a.latest=.sl 34 false (rows votC x.latest):=rfl
theorem VSto.a_eqv (x:VSto):x.a.eqv=.sl 1 false (nums .i64 x.eqv):=rfl
theorem VSto.a_j (x:VSto):x.a.j=x.j:=rfl
theorem VSto.a_f (x:VSto):x.a.f=x.f:=rfl
theorem VSto.a_early (x:VSto):x.a.early=.sl 67 false (rows VAtt.c x.early):=rfl
theorem VSto.a_orph (x:VSto):x.a.orph=.sl 238 false (rows blkC x.orph):=rfl
theorem VSto.a_nodes (x:VSto):x.a.nodes=.sl 240 false (rows nodC x.nodes):=rfl
theorem VSto.a_now (x:VSto):x.a.now=x.now:=rfl
theorem VSto.a_boost (x:VSto):x.a.boost=x.boost:=rfl
theorem VSto.a_tabs (x:VSto):x.a.tabs=.sl 34 false (rows VTab.c x.tabs):=rfl
theorem VSto.pure (x:VSto):x.a.Pure:=by
 exact⟨VCfg.pure _,aQ_ fun x _=>eQ_ x,aw_ _ _,aQ_ fun x _=>(bt_ _).2 (VAtt.pure x),aQ_ fun x _=>bV_ x,aQ_ fun x _=>ev_ x,aQ_ fun x _=>(bs_ _).2 (VTab.pure x)⟩
theorem VSto.pul (x:VSto):PuL (stoC x.a):=(hS_ _).2 x.pure
theorem VSto.ren_a (ρ:Nat→Nat) (x:VSto):renL ρ (stoC x.a)=stoC x.a:=x.pul.ren ρ
theorem VSto.fz_a (σ:St) (zs:List Nat) (x:VSto):fzL σ zs (stoC x.a)=stoC x.a:=x.pul.fz σ zs
theorem VSto.map_ren (ρ:Nat→Nat) (x:VSto):x.a.map (ren ρ)=x.a:=by
 unfold VSto.a Sto.map;simp only[ren,bh_,VCfg.map_ren,(aQ_ (f:=votC) (l:=x.latest) fun y _=>eQ_ y).ren ρ,(aQ_ (f:=VAtt.c) (l:=x.early) fun y _=>(bt_ _).2 (VAtt.pure y)).ren ρ,(aQ_ (f:=blkC) (l:=x.orph) fun y _=>bV_ y).ren ρ,(aQ_ (f:=nodC) (l:=x.nodes) fun y _=>ev_ y).ren ρ,(aQ_ (f:=VTab.c) (l:=x.tabs) fun y _=>(bs_ _).2 (VTab.pure y)).ren ρ]
theorem VSto.map_fz (σ:St) (zs:List Nat) (x:VSto):x.a.map (fz σ zs)=x.a:=by
 unfold VSto.a Sto.map;simp only[fz,bD_,VCfg.map_fz,(aQ_ (f:=votC) (l:=x.latest) fun y _=>eQ_ y).fz σ zs,(aQ_ (f:=VAtt.c) (l:=x.early) fun y _=>(bt_ _).2 (VAtt.pure y)).fz σ zs,(aQ_ (f:=blkC) (l:=x.orph) fun y _=>bV_ y).fz σ zs,(aQ_ (f:=nodC) (l:=x.nodes) fun y _=>ev_ y).fz σ zs,(aQ_ (f:=VTab.c) (l:=x.tabs) fun y _=>(bs_ _).2 (VTab.pure y)).fz σ zs]
theorem VSto.good_a (x:VSto):x.a.good=true:=by
 simp[VSto.a,Sto.good,AV.cell,VCfg.good_a]
structure VSta where
 sto:VSto
 reqs:List Req
 rets:List Req
 tag:Int
 sent:Bool
 last:Cmd
 over:Bool
 halt:Bool
 deriving Inhabited,DecidableEq
def VSta.a (x:VSta):Sta:=⟨x.sto.a,.sl 35 false (rows reqC x.reqs),.sl 35 false (rows reqC x.rets),x.tag,x.sent,x.last,x.over,x.halt⟩
abbrev VSta.c (x:VSta):List AV:=staC x.a
theorem VSta.a_sto (x:VSta):x.a.sto=x.sto.a:=rfl
theorem VSta.a_reqs (x:VSta):x.a.reqs=.sl 35 false (rows reqC x.reqs):=rfl
theorem VSta.a_rets (x:VSta):x.a.rets=.sl 35 false (rows reqC x.rets):=rfl
theorem VSta.a_tag (x:VSta):x.a.tag=x.tag:=rfl
theorem VSta.a_sent (x:VSta):x.a.sent=x.sent:=rfl
theorem VSta.a_last (x:VSta):x.a.last=x.last:=rfl
theorem VSta.a_over (x:VSta):x.a.over=x.over:=rfl
theorem VSta.a_halt (x:VSta):x.a.halt=x.halt:=rfl
theorem VSta.pure (x:VSta):x.a.Pure:=by
 exact⟨VSto.pure _,aQ_ fun x _=>bU_ x,aQ_ fun x _=>bU_ x⟩
theorem VSta.pul (x:VSta):PuL (staC x.a):=(vl_ _).2 x.pure
theorem VSta.ren_a (ρ:Nat→Nat) (x:VSta):renL ρ (staC x.a)=staC x.a:=x.pul.ren ρ
theorem VSta.fz_a (σ:St) (zs:List Nat) (x:VSta):fzL σ zs (staC x.a)=staC x.a:=x.pul.fz σ zs
theorem VSta.map_ren (ρ:Nat→Nat) (x:VSta):x.a.map (ren ρ)=x.a:=by
 unfold VSta.a Sta.map;simp only[ren,bh_,VSto.map_ren,(aQ_ (f:=reqC) (l:=x.reqs) fun y _=>bU_ y).ren ρ,(aQ_ (f:=reqC) (l:=x.rets) fun y _=>bU_ y).ren ρ]
theorem VSta.map_fz (σ:St) (zs:List Nat) (x:VSta):x.a.map (fz σ zs)=x.a:=by
 unfold VSta.a Sta.map;simp only[fz,bD_,VSto.map_fz,(aQ_ (f:=reqC) (l:=x.reqs) fun y _=>bU_ y).fz σ zs,(aQ_ (f:=reqC) (l:=x.rets) fun y _=>bU_ y).fz σ zs]
theorem VSta.good_a (x:VSta):x.a.good=true:=by
 simp[VSta.a,Sta.good,AV.cell,VSto.good_a]
structure VOp where
 kind:Int
 blk:Blk
 att:VAtt
 slg:VSlg
 tab:VTab
 vdt:Vdt
 write:Int
 keep:Int
 deriving Inhabited,DecidableEq
def VOp.a (x:VOp):SOp:=⟨x.kind,x.blk,x.att.a,x.slg.a,x.tab.a,x.vdt,x.write,x.keep⟩
abbrev VOp.c (x:VOp):List AV:=sOpC x.a
theorem VOp.a_kind (x:VOp):x.a.kind=x.kind:=rfl
theorem VOp.a_blk (x:VOp):x.a.blk=x.blk:=rfl
theorem VOp.a_att (x:VOp):x.a.att=x.att.a:=rfl
theorem VOp.a_slg (x:VOp):x.a.slg=x.slg.a:=rfl
theorem VOp.a_tab (x:VOp):x.a.tab=x.tab.a:=rfl
theorem VOp.a_vdt (x:VOp):x.a.vdt=x.vdt:=rfl
theorem VOp.a_write (x:VOp):x.a.write=x.write:=rfl
theorem VOp.a_keep (x:VOp):x.a.keep=x.keep:=rfl
theorem VOp.pure (x:VOp):x.a.Pure:=by
 exact⟨VAtt.pure _,VSlg.pure _,VTab.pure _⟩
theorem VOp.pul (x:VOp):PuL (sOpC x.a):=(cA_ _).2 x.pure
theorem VOp.ren_a (ρ:Nat→Nat) (x:VOp):renL ρ (sOpC x.a)=sOpC x.a:=x.pul.ren ρ
theorem VOp.fz_a (σ:St) (zs:List Nat) (x:VOp):fzL σ zs (sOpC x.a)=sOpC x.a:=x.pul.fz σ zs
theorem VOp.map_ren (ρ:Nat→Nat) (x:VOp):x.a.map (ren ρ)=x.a:=by
 unfold VOp.a SOp.map;simp only[ren,bh_,VAtt.map_ren,VSlg.map_ren,VTab.map_ren]
theorem VOp.map_fz (σ:St) (zs:List Nat) (x:VOp):x.a.map (fz σ zs)=x.a:=by
 unfold VOp.a SOp.map;simp only[fz,bD_,VAtt.map_fz,VSlg.map_fz,VTab.map_fz]
theorem VOp.good_a (x:VOp):x.a.good=true:=by
 simp[VOp.a,SOp.good,AV.cell,VAtt.good_a,VSlg.good_a,VTab.good_a]
theorem cQ_ (l:List Rt):PuLL (rows rtc l):=aQ_ fun x _=>bg_ x
theorem oE_ (ρ:Nat→Nat) (l:List Rt):renLL ρ (rows rtc l)=rows rtc l:=(cQ_ l).ren ρ
theorem pl_ (σ:St) (zs:List Nat) (l:List Rt):fzLL σ zs (rows rtc l)=rows rtc l:=(cQ_ l).fz σ zs
theorem dz_ (l:List Bool):PuLL (rows boolC l):=aQ_ fun x _=>Ar_ x
theorem kQ_ (ρ:Nat→Nat) (l:List Bool):renLL ρ (rows boolC l)=rows boolC l:=(dz_ l).ren ρ
theorem mw_ (σ:St) (zs:List Nat) (l:List Bool):fzLL σ zs (rows boolC l)=rows boolC l:=(dz_ l).fz σ zs
theorem ee_ (l:List Vot):PuLL (rows votC l):=aQ_ fun x _=>eQ_ x
theorem mE_ (ρ:Nat→Nat) (l:List Vot):renLL ρ (rows votC l)=rows votC l:=(ee_ l).ren ρ
theorem om_ (σ:St) (zs:List Nat) (l:List Vot):fzLL σ zs (rows votC l)=rows votC l:=(ee_ l).fz σ zs
theorem dZ_ (l:List Blk):PuLL (rows blkC l):=aQ_ fun x _=>bV_ x
theorem mO_ (ρ:Nat→Nat) (l:List Blk):renLL ρ (rows blkC l)=rows blkC l:=(dZ_ l).ren ρ
theorem nw_ (σ:St) (zs:List Nat) (l:List Blk):fzLL σ zs (rows blkC l)=rows blkC l:=(dZ_ l).fz σ zs
theorem dg_ (l:List Nod):PuLL (rows nodC l):=aQ_ fun x _=>ev_ x
theorem ml_ (ρ:Nat→Nat) (l:List Nod):renLL ρ (rows nodC l)=rows nodC l:=(dg_ l).ren ρ
theorem nv_ (σ:St) (zs:List Nat) (l:List Nod):fzLL σ zs (rows nodC l)=rows nodC l:=(dg_ l).fz σ zs
theorem ef_ (l:List Req):PuLL (rows reqC l):=aQ_ fun x _=>bU_ x
theorem mp_ (ρ:Nat→Nat) (l:List Req):renLL ρ (rows reqC l)=rows reqC l:=(ef_ l).ren ρ
theorem nh_ (σ:St) (zs:List Nat) (l:List Req):fzLL σ zs (rows reqC l)=rows reqC l:=(ef_ l).fz σ zs
theorem bA_ (l:List Cmd):PuLL (rows cmdC l):=aQ_ fun x _=>fC_ x
theorem mJ_ (ρ:Nat→Nat) (l:List Cmd):renLL ρ (rows cmdC l)=rows cmdC l:=(bA_ l).ren ρ
theorem oN_ (σ:St) (zs:List Nat) (l:List Cmd):fzLL σ zs (rows cmdC l)=rows cmdC l:=(bA_ l).fz σ zs
theorem ec_ (l:List VAtt):PuLL (rows VAtt.c l):=aQ_ fun x _=>VAtt.pul x
theorem mo_ (ρ:Nat→Nat) (l:List VAtt):renLL ρ (rows VAtt.c l)=rows VAtt.c l:=(ec_ l).ren ρ
theorem ov_ (σ:St) (zs:List Nat) (l:List VAtt):fzLL σ zs (rows VAtt.c l)=rows VAtt.c l:=(ec_ l).fz σ zs
theorem cV_ (l:List VTab):PuLL (rows VTab.c l):=aQ_ fun x _=>VTab.pul x
theorem mr_ (ρ:Nat→Nat) (l:List VTab):renLL ρ (rows VTab.c l)=rows VTab.c l:=(cV_ l).ren ρ
theorem nU_ (σ:St) (zs:List Nat) (l:List VTab):fzLL σ zs (rows VTab.c l)=rows VTab.c l:=(cV_ l).fz σ zs
theorem fi_ (l:List VOp):PuLL (rows VOp.c l):=aQ_ fun x _=>VOp.pul x
theorem ow_ (ρ:Nat→Nat) (l:List VOp):renLL ρ (rows VOp.c l)=rows VOp.c l:=(fi_ l).ren ρ
theorem qH_ (σ:St) (zs:List Nat) (l:List VOp):fzLL σ zs (rows VOp.c l)=rows VOp.c l:=(fi_ l).fz σ zs
attribute [go_sem] VAtt.a_slot VAtt.a_root VAtt.a_target VAtt.a_vals VAtt.pul VAtt.ren_a VAtt.fz_a VAtt.map_ren VAtt.map_fz VAtt.good_a VTab.a_cp VTab.a_bals VTab.pul VTab.ren_a VTab.fz_a VTab.map_ren VTab.map_fz VTab.good_a VClm.a_src VClm.a_tgt VClm.a_root VClm.a_vals VClm.pul VClm.ren_a VClm.fz_a VClm.map_ren VClm.map_fz VClm.good_a VSlg.a_fst VSlg.a_snd VSlg.pul VSlg.ren_a VSlg.fz_a VSlg.map_ren VSlg.map_fz VSlg.good_a VCfg.a_lim VCfg.a_spe VCfg.a_boost VCfg.a_ttd VCfg.a_gen VCfg.a_bals VCfg.pul VCfg.ren_a VCfg.fz_a VCfg.map_ren VCfg.map_fz VCfg.good_a VSto.a_cfg VSto.a_latest VSto.a_eqv VSto.a_j VSto.a_f VSto.a_early VSto.a_orph VSto.a_nodes VSto.a_now VSto.a_boost VSto.a_tabs VSto.pul VSto.ren_a VSto.fz_a VSto.map_ren VSto.map_fz VSto.good_a VSta.a_sto VSta.a_reqs VSta.a_rets VSta.a_tag VSta.a_sent VSta.a_last VSta.a_over VSta.a_halt VSta.pul VSta.ren_a VSta.fz_a VSta.map_ren VSta.map_fz VSta.good_a VOp.a_kind VOp.a_blk VOp.a_att VOp.a_slg VOp.a_tab VOp.a_vdt VOp.a_write VOp.a_keep VOp.pul VOp.ren_a VOp.fz_a VOp.map_ren VOp.map_fz VOp.good_a cQ_ oE_ pl_ dz_ kQ_ mw_ ee_ mE_ om_ dZ_ mO_ nw_ dg_ ml_ nv_ ef_ mp_ nh_ bA_ mJ_ oN_ ec_ mo_ ov_ cV_ mr_ nU_ fi_ ow_ qH_
end Go.FH
namespace Go.FH
def om (d s:Nat):AOpr:=⟨some d,.mv (.t s),none⟩
def oo (d:Nat) (op:AOp):AOpr:=⟨some d,op,none⟩
def on (op:AOp):AOpr:=⟨none,op,none⟩
def omg (d s t:Nat) (b:Bool):AOpr:=⟨some d,.mv (.t s),some (t,b)⟩
def og (d:Nat) (op:AOp) (t:Nat) (b:Bool):AOpr:=⟨some d,op,some (t,b)⟩
def ong (op:AOp) (t:Nat) (b:Bool):AOpr:=⟨none,op,some (t,b)⟩
def ci (n:Int):Opd:=.c (.int .i64 n)
def cu (n:Int):Opd:=.c (.int .u64 n)
def cb (b:Bool):Opd:=.c (.bool b)
def cf (n:Nat):Opd:=.c (.fn (.func n) [])
def fA (d o x:Nat):AOpr:=⟨some d,.fldA o (.t x),none⟩
def lA (d n x:Nat):AOpr:=⟨some d,.ld true n (.t x),none⟩
def lF (d n x:Nat):AOpr:=⟨some d,.ld false n (.t x),none⟩
def bI (d:Nat) (o:BinOp) (x y:Nat):AOpr:=⟨some d,.bin o (.t x) (.t y),none⟩
def bC (d:Nat) (o:BinOp) (x:Nat) (c:Opd):AOpr:=⟨some d,.bin o (.t x) c,none⟩
def sO (n x y:Nat):AOpr:=⟨none,.sto n (.t x) (.t y),none⟩
def eX (d i x:Nat):AOpr:=⟨some d,.ext i (.t x),none⟩
def lN (d x:Nat):AOpr:=⟨some d,.len false (.t x),none⟩
def iX (d e x y:Nat):AOpr:=⟨some d,.idxS e (.t x) (.t y),none⟩
def kA (d f x:Nat):AOpr:=⟨some d,.call (cf f) [.t x],none⟩
def kB (d f x y:Nat):AOpr:=⟨some d,.call (cf f) [.t x,.t y],none⟩
def kC (d f x y z:Nat):AOpr:=⟨some d,.call (cf f) [.t x,.t y,.t z],none⟩
theorem bd {p q:Prop}(hq:q) (h:Hid q→p:=by(intro hq;dsimp only[om,oo,on,omg,og,ong,ci,cu,cb,cf,fA,lA,lF,bI,bC,sO,eX,lN,iX,kA,kB,kC];exact hq.out)):p:=h ⟨hq⟩
theorem puA {p:Prop}(h:p:=by simp[PuL,Pu,PuLL,aw_,bG_,bg_,cI_,cH_,kd_,bV_,ev_,eQ_,bU_,fC_,dA_,eI_,VSto.pul,VSta.pul,VAtt.pul,VTab.pul,VSlg.pul,VClm.pul,VCfg.pul,VOp.pul,ee_,dZ_,dg_,ef_,bA_,ec_,cV_,fi_,cQ_,dz_]):p:=h
theorem fin0 {fr:Fr}{σ:St}{rs:List ARes}{r:AV}{l:List AV}(hl:resVal fr σ rs=some l:=by first | rfl | exact evd) (hv:fz σ (List.range σ.length) (resAV l)=r:=by exact evd):
   ∃ l,resVal fr σ rs=some l∧(fz σ (List.range σ.length) (resAV l)=r∨∃ r0,fz σ (List.range σ.length) (resAV l)=r0∧Pu r0∧Wk r0 r):=⟨l,hl,.inl hv⟩
set_option linter.unusedVariables false
open Go Go.RowKit

def upto {α:Type}(f:Nat→α→α) (a:α):Nat→α
 | 0=>a
 | n+1=>f n (upto f a n)
theorem Bh_ {α:Type}(f:Nat→α→α) (a:α):upto f a 0=a:=rfl
theorem By_ (k:IntKind):nums k []=[]:=rfl
attribute [go_sem] Bh_ By_
theorem aX_ {α:Type}(f:Nat→α→α) (a:α) (n:Nat):upto f a (n+1)=f n (upto f a n):=rfl
theorem dC_ {α:Type}{f:Nat→α→α}{a:α}(I:Nat→α→Prop) (h0:I 0 a) (n:Nat) (hs:∀ i x,i<n→I i x→I (i+1) (f i x)):∀ i,i≤n→I i (upto f a i)
 | 0,_=>h0
 | i+1,hi=>hs i _ (by omega) (dC_ I h0 n hs i (by omega))
theorem dM_ {β:Type}{f:Nat→List β→List β}{a:List β}(h:∀ i l,(f i l).length≤l.length+1):∀ n,(upto f a n).length≤a.length+n
 | 0=>Nat.le_refl _
 | n+1=>by rw[aX_];have:=h n (upto f a n);have:=dM_ h (a:=a) n;omega
def fstG (p:Nat→Bool):Nat→Nat→Option Nat
 | 0,_=>none
 | f+1,i=>if p i=true then some i else fstG p f (i+1)
def fstN (p:Nat→Bool) (n:Nat):Option Nat:=fstG p n 0
theorem hw_ {p:Nat→Bool}{n i:Nat}(hi:i<n) (h:p i=true):fstG p (n-i) i=some i:=by
 obtain⟨f,hf⟩:∃ f,n-i=f+1:=⟨n-i-1,by omega⟩
 rw[hf];show (if p i=true then _ else _)=_;rw[if_pos h]
theorem hm_ {p:Nat→Bool}{n i:Nat}(hi:i<n) (h:p i=false):fstG p (n-i) i=fstG p (n-(i+1)) (i+1):=by
 obtain⟨f,hf⟩:∃ f,n-i=f+1:=⟨n-i-1,by omega⟩
 rw[hf,show n-(i+1)=f by omega];show (if p i=true then _ else _)=_;rw[if_neg (by simp[h])]
theorem hc_ (p:Nat→Bool) (n:Nat):fstG p (n-n) n=none:=by rw[Nat.sub_self];rfl
theorem qW_ {p:Nat→Bool}:∀ {f i j:Nat},fstG p f i=some j→i≤j∧j<i+f∧p j=true∧∀ k,i≤k→k<j→p k=false
 | 0,_,_,h=>by cases h
 | f + 1, i, j, h => by
   unfold fstG at h
   by_cases hp:p i=true
   · rw[if_pos hp]at h
     cases h
     exact⟨Nat.le_refl _,by omega,hp,fun k h1 h2=>by omega⟩
   · rw[if_neg hp]at h
     obtain⟨h1,h2,h3,h4⟩:=qW_ h
     refine⟨by omega,by omega,h3,fun k k1 k2=>?_⟩
     by_cases hk:k=i
     · subst hk;simpa using hp
     · exact h4 k (by omega) k2
theorem rH_ {p:Nat→Bool}:∀ {f i:Nat},fstG p f i=none→∀ k,i≤k→k<i+f→p k=false
 | 0,_,_,k,h1,h2=>by omega
 | f + 1, i, h, k, h1, h2 => by
   unfold fstG at h
   by_cases hp:p i=true
   · rw[if_pos hp]at h;cases h
   · rw[if_neg hp]at h
     by_cases hk:k=i
     · subst hk;simpa using hp
     · exact rH_ h k (by omega) (by omega)
theorem ik_ {p:Nat→Bool}{n j:Nat}(h:fstN p n=some j):j<n∧p j=true∧∀ k,k<j→p k=false:=by
 obtain⟨h1,h2,h3,h4⟩:=qW_ h
 exact⟨by omega,h3,fun k hk=>h4 k (Nat.zero_le _) hk⟩
theorem zG_ {p:Nat→Bool}{n:Nat}(h:fstN p n=none):∀ k,k<n→p k=false:=fun k hk=>rH_ h k (Nat.zero_le _) (by omega)
def lstN (p:Nat→Bool):Nat→Option Nat
 | 0=>none
 | n+1=>if p n=true then some n else lstN p n
theorem Fn_ (p:Nat→Bool):lstN p 0=none:=rfl
theorem Fp_ {p:Nat→Bool}{n:Nat}(h:p n=true):lstN p (n+1)=some n:=by unfold lstN;rw[if_pos h]
theorem Fs_ {p:Nat→Bool}{n:Nat}(h:p n=false):lstN p (n+1)=lstN p n:=by rw[lstN,if_neg (by simp[h])]
def idx1 (o:Option Nat):Int:=match o with
 | some i=>(i:Int)
 | none=>-1
theorem fE_ (i:Nat):idx1 (some i)=(i:Int):=rfl
theorem ic_:idx1 none=-1:=rfl
attribute [go_sem] fE_ ic_
end Go.FH
namespace Go.FH
set_option linter.unusedVariables false
set_option linter.unusedSimpArgs false
open Go Go.RowKit

theorem AM_ (ρ:Nat→Nat):renLL ρ []=[]:=rfl
theorem wl0:IntKind.i64.wrap ((0:Int)+1)=1:=by decide
theorem wl1:IntKind.i64.wrap ((1:Int)+1)=2:=by decide
theorem wl2:IntKind.i64.wrap ((2:Int)+1)=3:=by decide
theorem wl3:IntKind.i64.wrap ((3:Int)+1)=4:=by decide
theorem wl4:IntKind.i64.wrap ((4:Int)+1)=5:=by decide
theorem wl5:IntKind.i64.wrap ((5:Int)+1)=6:=by decide
theorem wl6:IntKind.i64.wrap ((6:Int)+1)=7:=by decide
theorem lD_ (k:IntKind) (ns:List Int) (x:Int):nums k ns++[[.int k x]]=nums k (ns++[x]):=by simp[nums]
attribute [go_sem] lD_ AM_ wl0 wl1 wl2 wl3 wl4 wl5 wl6
def Unr (P:Program) (nt k:Nat) (x:ACode) (Q:Ex→Fr→St→Prop):Nat→Fr→St→Prop
 | 0,_,_=>False
 | n+1,fr,σ=>Tri P nt k x (thenQ (Unr P nt k x Q n) Q) fr σ
@[congr] theorem FE_ {P:Program} {nt k n:Nat} {c:ACode} {Q:Ex→Fr→St→Prop} {fr fr':Fr} {σ σ':St} (h1:fr=fr') (h2:σ=σ'):Unr P nt k c Q n fr σ=Unr P nt k c Q n fr' σ':=by rw[h1,h2]
section
variable {P:Program}{nt k:Nat}{fr:Fr}{σ:St}
end

theorem oI_ {w:World}{b o:Nat}{vs:List Value}(hn:vs≠[]) (h:∀ j u,vs[j]?=some u→w.cell? ⟨b,o+j,none⟩=some u):range? w b o vs.length=some vs.toArray:=by
 unfold range?
 have h0:∃ u,vs[0]?=some u:=by
   cases vs with
   | nil=>exact absurd rfl hn
   | cons u us=>exact⟨u,rfl⟩
 obtain⟨u0,hu0⟩:=h0
 have hc0:=h 0 u0 hu0
 unfold World.cell? at hc0
 split at hc0
 · rename_i c t f hb
   simp only at hb
   have key:∀ j u,vs[j]?=some u→c[o+j]?=some u:=by
     intro j u hj
     have:=h j u hj
     unfold World.cell? at this
     simp only[hb]at this
     simpa using this
   rw[hb]
   simp only
   have hlen:o+vs.length≤c.size:=by
     have hlt:vs.length-1<vs.length:=by
       have:vs.length≠0:=fun hh=>hn (List.eq_nil_of_length_eq_zero hh)
       omega
     have:=key (vs.length-1) _ (List.getElem?_eq_getElem hlt)
     have:=(Array.getElem?_eq_some_iff.1 this).1
     omega
   rw[if_pos hlen]
   congr 1
   apply Array.ext
   · simp;omega
   · intro i h1 h2
     have hi:i<vs.length:=by simpa using h2
     have:=key i _ (List.getElem?_eq_getElem hi)
     rw[Array.getElem?_eq_some_iff]at this
     obtain⟨h3,h4⟩:=this
     simp[h4]
 · cases hc0

abbrev topE (w:World):Env:=⟨fun _=>none,fun _=>False,w⟩
theorem PC.top {P:Program}{f:FuncId}{args:List AV}{r:AV}(h:PC P f args r) {w:World}{vs:List Value}(hv:RlS (topE w) args vs):
   Calls P f vs.toArray w fun e w'=>(∃ v,e=.returned v∧Rl (topE w') r v)∧Below w.heap.size w w':=by
 have hF:∀ w:World,envOf (fun _=>False) (fun _=>none) [] w=topE w:=by
   intro w
   unfold envOf topE
   congr 1
   funext b
   apply propext
   constructor
   · rintro (h | ⟨id,o,L,h1,_⟩)
     · exact h
     · simp at h1
   · exact fun h=>h.elim
 have hr:Rel (fun _=>False) (fun _=>none) [] w:=⟨fun id o h=>by simp at h,fun i j a b La Lb _ h=>by simp at h,fun b h=>h.elim,fun _ _=>rfl⟩
 refine(h.call.2.2 _ _ w vs hr (by rw[hF];exact hv)).mono ?_
 rintro e w' ⟨v,loc',rfl,ho,_⟩
 refine⟨⟨v,rfl,?_⟩,ho.ev.below fun b _ hb=>?_⟩
 · have hl:loc'=fun _=>none:=funext fun id=>ho.rel.beyond id (Nat.zero_le _)
   have:=ho.val
   rw[hl,hF]at this
   exact this
 · obtain⟨id,o,L,h1,_⟩:=hb
   simp at h1
theorem PC.law {P:Program}{f:FuncId}{args:List AV}(h:PC P f args (.bool true)) {w:World}{vs:List Value}(hv:RlS (topE w) args vs):
   Calls P f vs.toArray w fun e w'=>e=.returned (.bool true)∧Below w.heap.size w w':=
 (h.top hv).mono fun e w' ⟨⟨v,h1,h2⟩,h3⟩=>⟨by rw[h1];exact congrArg Ending.returned h2,h3⟩

inductive Sh where
 | bool
 | int (k:IntKind)
 | arr (n:Nat) (s:Sh)
 | sl (s:Sh)
 | st (ss:List Sh)

mutual
def Sh.size:Sh→Nat
 | .bool=>1
 | .int _=>1
 | .sl _=>1
 | .arr n s=>n*s.size
 | .st ss=>Sh.sizes ss
def Sh.sizes:List Sh→Nat
 | []=>0
 | s::ss=>s.size+Sh.sizes ss
end

mutual
inductive Opn:Sh→List AV→Prop
 | bool (b:Bool):Opn .bool [.bool b]
 | int (k:IntKind) (n:Int) (h:(Lit.int k n).wf=true):Opn (.int k) [.int k n]
 | arr (n:Nat) (s:Sh) (xs:List (List AV)) (hl:xs.length=n) (h:∀ x ∈ xs,Opn s x):Opn (.arr n s) xs.flatten
 | sl (s:Sh) (xs:List (List AV)) (hl:xs.length≤maxLen) (h:∀ x ∈ xs,Opn s x):Opn (.sl s) [.sl s.size false xs]
 | st (ss:List Sh) (cs:List AV) (h:OpnL ss cs):Opn (.st ss) cs
inductive OpnL:List Sh→List AV→Prop
 | nil:OpnL [] []
 | cons (s:Sh) (ss:List Sh) (a b:List AV) (h:Opn s a) (hs:OpnL ss b):OpnL (s::ss) (a++b)
end

mutual
def isSh (P:Program):Sh→TypeId→Bool
 | .bool, t => match P.underlying t with
   | some .bool=>true
   | _=>false
 | .int k, t => match P.underlying t with
   | some (.int k')=>k==k'
   | _=>false
 | .arr n s, t => match P.underlying t with
   | some (.array m e)=>m==n&&P.cellsOf e==s.size&&P.cellsOf t==n*s.size&&isSh P s e
   | _=>false
 | .sl s, t => match P.underlying t with
   | some (.slice e)=>P.cellsOf e==s.size&&decide (0<s.size)&&isSh P s e
   | _=>false
 | .st ss, t => match P.underlying t with
   | some (.struct fs)=>P.cellsOf t==Sh.sizes ss&&isShL P ss fs.toList 0
   | _=>false
def isShL (P:Program):List Sh→List Field→Nat→Bool
 | [],[],_=>true
 | s::ss,f::fs,o=>f.offset==o&&P.cellsOf f.type==s.size&&isSh P s f.type&&isShL P ss fs (o+s.size)
 | _,_,_=>false
end

section
variable {H:Type}{enc:TypeId × Value→H}{P:Program}{w:World}

theorem Bg_ {s:Sh}{k:Nat}:∀ (n:Nat) (cs:List Value),cs.length=n*k→(∀ i,i<n→∃ avs,Opn s avs∧RlC (topE w) avs ((cs.drop (i*k)).take k))→
   ∃ xs:List (List AV),xs.length=n∧(∀ x ∈ xs,Opn s x)∧RlC (topE w) xs.flatten cs
 | 0,cs,hl,_=>⟨[],rfl,by simp,by have:cs=[]:=List.eq_nil_of_length_eq_zero (by omega);subst this;rfl⟩
 | n + 1, cs, hl, h => by
   have hk:(n+1)*k=k+n*k:=by rw[Nat.succ_mul];omega
   obtain⟨a,ha,hr⟩:=h 0 (by omega)
   obtain⟨xs,h1,h2,h3⟩:=Bg_ (s:=s) (k:=k) n (cs.drop k) (by rw[List.length_drop,hl,hk];omega) (fun i hi=>by
     obtain⟨b,hb,hr⟩:=h (i+1) (by omega)
     refine⟨b,hb,?_⟩
     rw[List.drop_drop,show k+i*k=(i+1)*k by rw[Nat.succ_mul];omega]
     exact hr)
   refine⟨a::xs,by simp[h1],fun x hx=>?_,?_⟩
   · rcases List.mem_cons.1 hx with rfl | hx
     · exact ha
     · exact h2 x hx
   · have e:cs=cs.take k++cs.drop k:=(List.take_append_drop k cs).symm
     rw[e]
     simp only[Nat.zero_mul,List.drop_zero]at hr
     exact RlC.app hr h3

theorem EV_ {s:Sh}{k:Nat}{b off:Nat}:∀ (n:Nat) (o:Nat),(∀ i,i<n→∃ avs us,Opn s avs∧RlC (topE w) avs us∧us.length=k∧∀ j,j<k→w.cell? ⟨b,off+(o+i*k+j),none⟩=us[j]?)→
   ∃ (xs:List (List AV)) (vs:List Value),xs.length=n∧(∀ x ∈ xs,Opn s x)∧vs.length=n*k∧RlE (topE w) k xs vs∧∀ j,j<n*k→w.cell? ⟨b,off+(o+j),none⟩=vs[j]?
 | 0,o,_=>⟨[],[],rfl,by simp,by simp,rfl,fun j hj=>by omega⟩
 | n + 1, o, h => by
   obtain⟨a,us,ha,hr,hl,hc⟩:=h 0 (by omega)
   obtain⟨xs,vs,h1,h2,h3,h4,h5⟩:=EV_ n (o+k) (fun i hi=>by
     obtain⟨a,us,ha,hr,hl,hc⟩:=h (i+1) (by omega)
     refine⟨a,us,ha,hr,hl,fun j hj=>?_⟩
     have:=hc j hj
     rwa [show off+(o+(i+1)*k+j)=off+(o+k+i*k+j)by rw[Nat.succ_mul];omega]at this)
   refine⟨a::xs,us++vs,by simp[h1],fun x hx=>?_,?_,⟨us,vs,rfl,hl,hr,h4⟩,fun j hj=>?_⟩
   · rcases List.mem_cons.1 hx with rfl | hx
     · exact ha
     · exact h2 x hx
   · rw[List.length_append,hl,h3,Nat.succ_mul];omega
   · by_cases hjk:j<k
     · have:=hc j hjk
       rw[List.getElem?_append_left (by omega)]
       simpa using this
     · have:=h5 (j-k) (by rw[Nat.succ_mul]at hj;omega)
       rw[List.getElem?_append_right (by omega),hl,← this]
       congr 2;omega

mutual
theorem st_:∀ (s:Sh) (t:TypeId) (fuel:Nat) (cs:List Value) (x:DataW H × List MemPlace),isSh P s t=true→DataW.trod enc P w 0 (fun _=>true) true fuel t cs=some x→∃ avs,Opn s avs∧RlC (topE w) avs cs
 | .bool, t, fuel, cs, x, hs, h => by
   unfold isSh at hs
   split at hs<;>try cases hs
   rename_i ht
   cases fuel with
   | zero=>simp[DataW.trod]at h
   | succ n =>
     unfold DataW.trod at h
     rw[ht]at h
     split at h<;>simp_all
     exact⟨_,.bool _,_,[],rfl,rfl,rfl,rfl⟩
 | .int k, t, fuel, cs, x, hs, h => by
   unfold isSh at hs
   split at hs<;>try cases hs
   rename_i k' ht
   obtain⟨n,rfl,_,hw⟩:=DataW.trod_int ht h
   have:k=k':=by simpa using hs
   subst this
   exact⟨_,.int _ _ hw,_,[],rfl,rfl,rfl,rfl⟩
 | .arr n s, t, fuel, cs, x, hs, h => by
   unfold isSh at hs
   split at hs<;>try cases hs
   rename_i m e ht
   simp only[Bool.and_eq_true,beq_iff_eq]at hs
   obtain⟨⟨⟨rfl,hc⟩,hct⟩,hi⟩:=hs
   obtain⟨xs,fl,rfl,rfl,hl,hx,he⟩:=DataW.trod_array ht h
   rw[hct]at hl
   obtain⟨xs,h1,h2,h3⟩:=Bg_ (s:=s) (w:=w) m cs hl (fun i hin=>by
     have h1:=he i hin
     rw[hc,List.getElem?_eq_getElem (by omega)]at h1
     exact st_ s e _ _ _ hi h1)
   exact⟨_,.arr _ _ _ h1 h2,h3⟩
 | .sl s, t, fuel, cs, x, hs, h => by
   unfold isSh at hs
   split at hs<;>try cases hs
   rename_i e ht
   simp only[Bool.and_eq_true,beq_iff_eq,decide_eq_true_eq]at hs
   obtain⟨⟨hc,hp⟩,hi⟩:=hs
   rcases DataW.trod_slice ht h with⟨rfl,_⟩ | ⟨a,len,cap,elems,rest,n,_,rfl,rfl,hb,hl,hm,hlen,hel,hsp,hns⟩
   · exact⟨_,.sl s [] (by simp) (by simp),_,[],rfl,rfl,⟨none,0,0,rfl,rfl,Nat.le_refl _,by simp[maxLen],fun _=>rfl,fun _=>rfl,.inl rfl⟩,rfl⟩
   · by_cases h0:len=0
     · subst h0
       exact⟨_,.sl s [] (by simp) (by simp),_,[],rfl,rfl,⟨some a,0,cap,rfl,rfl,hl,hm,(fun h=>Bool.noConfusion h),(fun h=>by cases h),.inl rfl⟩,rfl⟩
     have each:∀ i,i<len→∃ avs us,Opn s avs∧RlC (topE w) avs us∧us.length=s.size∧∀ j,j<s.size→w.cell? ((a.add (i*s.size)).add j)=us[j]?:=by
       intro i hin
       have h1:=hel i hin
       rw[hc,List.getElem?_eq_getElem (by omega),Option.bind_eq_some_iff]at h1
       obtain⟨us,h2,h3⟩:=h1
       obtain⟨_,h5,h6⟩:=World.cells?_some h2
       obtain⟨avs,h7,h8⟩:=st_ s e _ _ _ hi h3
       exact⟨avs,us,h7,h8,h5,h6⟩
     obtain⟨b,off,spot⟩:=a
     obtain⟨_,us,_,_,hul,hcc⟩:=each 0 (by omega)
     have hc0:=hcc 0 hp
     rw[List.getElem?_eq_getElem (by omega)]at hc0
     have hspot:spot=none:=by simpa[Addr.add]using World.cell?_spot hc0
     subst hspot
     obtain⟨xs,vs,h1,h2,h3,h4,h5⟩:=EV_ (s:=s) (w:=w) (k:=s.size) (b:=b) (off:=off) len 0 (fun i hin=>by
       obtain⟨avs,us,g1,g2,g3,g4⟩:=each i hin
       refine⟨avs,us,g1,g2,g3,fun j hj=>?_⟩
       rw[← g4 j hj,WideShapes.add_plain,WideShapes.add_plain]
       congr 2;omega)
     have hne:vs≠[]:=by
       intro hh;subst hh
       simp only[List.length_nil]at h3
       have:=Nat.mul_pos (Nat.pos_of_ne_zero h0) hp
       omega
     have hrange:=oI_ (w:=w) (b:=b) (o:=off) hne (fun j u hj=>by
       have hjl:=(List.getElem?_eq_some_iff.1 hj).1
       rw[← hj,← h5 j (by omega)]
       congr 2;omega)
     rw[h3]at hrange
     have hblk:b<w.heap.size:=by
       rw[WideShapes.add_plain,WideShapes.add_plain]at hc0
       exact World.block_lt_of_cell? w _ hc0
     exact⟨_,.sl s xs (by omega) h2,_,[],rfl,rfl,⟨_,len,cap,rfl,h1.symm,hl,hm,(fun h=>Bool.noConfusion h),(fun h=>by cases h),.inr ⟨b,off,vs,rfl,hblk,fun hf=>hf,hrange,h4⟩⟩,rfl⟩
 | .st ss, t, fuel, cs, x, hs, h => by
   unfold isSh at hs
   split at hs<;>try cases hs
   rename_i fs ht
   simp only[Bool.and_eq_true,beq_iff_eq]at hs
   obtain⟨hc,hi⟩:=hs
   obtain⟨xs,n,rfl,_,hl,hxs,he⟩:=DataW.trod_struct ht h
   obtain⟨avs,h1,h2⟩:=yq_ ss fs.toList 0 cs hi (fun f hf=>by
     obtain⟨i,hi⟩:=List.getElem?_of_mem hf
     have h1:=he i f (by simpa using hi)
     have hil:=(List.getElem?_eq_some_iff.1 hi).1
     rw[Array.length_toList]at hil
     rw[List.getElem?_eq_getElem (by omega)]at h1
     exact⟨_,_,h1⟩) (by omega)
   exact⟨avs,.st _ _ h1,h2⟩
theorem yq_:∀ (ss:List Sh) (fs:List Field) (o:Nat) (cs:List Value),isShL P ss fs o=true→
   (∀ f ∈ fs,∃ (fuel:Nat) (x:DataW H × List MemPlace),DataW.trod enc P w 0 (fun _=>true) true fuel f.type ((cs.drop f.offset).take (P.cellsOf f.type))=some x)→cs.length=o+Sh.sizes ss→∃ avs,OpnL ss avs∧RlC (topE w) avs (cs.drop o)
 | [],[],o,cs,_,_,hl=>⟨[],.nil,by rw[List.drop_of_length_le (by simp[Sh.sizes]at hl;omega)];rfl⟩
 | [],_::_,o,cs,hs,_,_=>by simp[isShL]at hs
 | _::_,[],o,cs,hs,_,_=>by simp[isShL]at hs
 | s :: ss, f :: fs, o, cs, hs, hf, hl => by
   simp only[isShL,Bool.and_eq_true,beq_iff_eq]at hs
   obtain⟨⟨⟨rfl,hc⟩,hi⟩,hr⟩:=hs
   simp only[Sh.sizes]at hl
   obtain⟨fuel,x,hx⟩:=hf f (by simp)
   obtain⟨a,ha,hra⟩:=st_ s f.type fuel _ x hi hx
   obtain⟨b,hb,hrb⟩:=yq_ ss fs (f.offset+s.size) cs hr (fun g hg=>hf g (by simp[hg])) (by omega)
   refine⟨a++b,.cons _ _ _ _ ha hb,?_⟩
   have e:cs.drop f.offset=(cs.drop f.offset).take s.size++cs.drop (f.offset+s.size):=by rw[← List.drop_drop,List.take_append_drop]
   rw[e]
   rw[hc]at hra
   exact RlC.app hra hrb
end

theorem BC_ {t e:TypeId}{v:Value}{d:DataW H}{p:List MemPlace}{r:Reach}{base:Nat}(s:Sh) (hs:isSh P (.sl s) t=true) (hv:Value.okWide P w r base t v) (hd:DataW.Trod enc P w 0 (fun _=>true) true t v d p)
   (ht:P.underlying t=some (.slice e)):∃ xs,xs.length≤maxLen∧(∀ x ∈ xs,Opn s x)∧Rl (topE w) (.sl s.size false xs) v:=by
 obtain⟨fuel,hf⟩:=hd
 obtain⟨b,l,c,rfl⟩:=WideShapes.okWide_slice ht hv
 obtain⟨avs,h1,h2⟩:=st_ _ t fuel _ _ hs hf
 cases h1 with
 | sl s xs hl h =>
   obtain⟨u,us,h3,_,h4,h5⟩:=h2
   simp only[Value.cells,List.cons.injEq]at h3
   obtain⟨rfl,rfl⟩:=h3
   exact⟨xs,hl,h,h4⟩
theorem lB_ {t:TypeId}{v:Value}{d:DataW H}{p:List MemPlace}{r:Reach}{base:Nat}(k:IntKind) (ht:P.underlying t=some (.int k)) (hv:Value.okWide P w r base t v) (hd:DataW.Trod enc P w 0 (fun _=>true) true t v d p):
   ∃ n,(Lit.int k n).wf=true∧Rl (topE w) (.int k n) v:=by
 obtain⟨n,rfl,_,_,hw⟩:=ChangeShapes.open_int ht hv hd
 exact⟨n,hw,rfl⟩
end

theorem Opn.ints {k:IntKind}:∀ {xs:List (List AV)},(∀ x ∈ xs,Opn (.int k) x)→∃ ns:List Int,xs=nums k ns∧∀ n ∈ ns,(Lit.int k n).wf=true
 | [],_=>⟨[],rfl,by simp⟩
 | x :: xs, h => by
   obtain⟨ns,rfl,h2⟩:=Opn.ints (xs:=xs) (fun y hy=>h y (by simp[hy]))
   cases h x (by simp)with
   | int k n hw =>
     refine⟨n::ns,rfl,fun m hm=>?_⟩
     rcases List.mem_cons.1 hm with rfl | hm
     · exact hw
     · exact h2 m hm
theorem xJ_:∀ {ns:List Int},(∀ n ∈ ns,(Lit.int .u8 n).wf=true)→∃ bs:List UInt8,nums .u8 ns=bts bs∧bs.length=ns.length
 | [],_=>⟨[],rfl,rfl⟩
 | n :: ns, h => by
   obtain⟨bs,h1,h2⟩:=xJ_ (ns:=ns) (fun m hm=>h m (by simp[hm]))
   have hb:=bounds_u8 (h n (by simp))
   refine⟨UInt8.ofNat n.toNat::bs,?_,by simp[h2]⟩
   have e:((UInt8.ofNat n.toNat).toNat:Int)=n:=by rw[UInt8.toNat_ofNat'];omega
   rw[Dd_,e,← h1];rfl
theorem Opn.rt {cs:List AV}(h:Opn (.arr 32 (.int .u8)) cs):∃ r:Rt,cs=rtc r:=by
 cases h with
 | arr n s xs hl h =>
   obtain⟨ns,rfl,hw⟩:=Opn.ints h
   obtain⟨bs,h1,h2⟩:=xJ_ hw
   rw[dN_]at hl
   exact⟨⟨bs,by omega⟩,by rw[h1,mc_];rfl⟩
theorem Opn.wd {cs:List AV}(h:Opn (.arr 4 (.int .u64)) cs):∃ a:Wd,cs=wdc a∧∀ n ∈ a.1,0≤n∧n<18446744073709551616:=by
 cases h with
 | arr n s xs hl h =>
   obtain⟨ns,rfl,hw⟩:=Opn.ints h
   rw[dN_]at hl
   refine⟨⟨ns,hl⟩,?_,fun n hn=>?_⟩
   · show _=ns.map _
     clear hl hw h
     induction ns with
     | nil=>rfl
     | cons n ns ih=>simp only[nums,List.map_cons,List.flatten_cons]at ih ⊢;rw[ih];rfl
   · have:=bounds_u64 (hw n hn);omega
theorem Opn.inv_st {ss:List Sh}{cs:List AV}(h:Opn (.st ss) cs):OpnL ss cs:=by
 cases h with
 | st _ _ h=>exact h
theorem OpnL.inv_cons {s:Sh}{ss:List Sh}{cs:List AV}(h:OpnL (s::ss) cs):∃ a b,cs=a++b∧Opn s a∧OpnL ss b:=by
 cases h with
 | cons _ _ a b h hs=>exact⟨a,b,rfl,h,hs⟩
theorem OpnL.inv_nil {cs:List AV}(h:OpnL [] cs):cs=[]:=by
 cases h;rfl
theorem Opn.inv_int {k:IntKind}{cs:List AV}(h:Opn (.int k) cs):∃ n,(Lit.int k n).wf=true∧cs=[.int k n]:=by
 cases h with
 | int _ n h=>exact⟨n,h,rfl⟩
theorem Opn.inv_bool {cs:List AV}(h:Opn .bool cs):∃ b,cs=[.bool b]:=by
 cases h with
 | bool b=>exact⟨b,rfl⟩
theorem Opn.inv_nums {k:IntKind}{cs:List AV}(h:Opn (.sl (.int k)) cs):∃ ns:List Int,ns.length≤maxLen∧(∀ n ∈ ns,(Lit.int k n).wf=true)∧cs=[.sl 1 false (nums k ns)]:=by
 cases h with
 | sl _ xs hl h =>
   obtain⟨ns,rfl,hw⟩:=Opn.ints h
   exact⟨ns,by rwa [dN_]at hl,hw,rfl⟩

section
variable {H:Type}{enc:TypeId × Value→H}{P:Program}{w:World}
theorem AC_ {t e:TypeId}{v:Value}{d:DataW H}{p:List MemPlace}{r:Reach}{base:Nat}(k:IntKind) (hs:isSh P (.sl (.int k)) t=true) (hv:Value.okWide P w r base t v) (hd:DataW.Trod enc P w 0 (fun _=>true) true t v d p)
   (ht:P.underlying t=some (.slice e)):∃ ns:List Int,ns.length≤maxLen∧(∀ n ∈ ns,(Lit.int k n).wf=true)∧Rl (topE w) (.sl 1 false (nums k ns)) v:=by
 obtain⟨xs,hl,h,hr⟩:=BC_ (.int k) hs hv hd ht
 obtain⟨ns,rfl,hw⟩:=Opn.ints h
 exact⟨ns,by rwa [dN_]at hl,hw,hr⟩
end

structure Cp.Ok (x:Cp):Prop where
 ep:(Lit.int .u64 x.ep).wf=true
abbrev cpS:Sh:=.st [.int .u64,.arr 32 (.int .u8)]
theorem Opn.cp {cs:List AV}(h:Opn cpS cs):∃ x:Cp,cs=cpC x∧x.Ok:=by
 have h:=h.inv_st
 obtain⟨a0,b0,rfl,h0,h⟩:=h.inv_cons
 obtain⟨a1,b1,rfl,h1,h⟩:=h.inv_cons
 have h:=h.inv_nil;subst h
 obtain⟨n0,w0,rfl⟩:=h0.inv_int
 obtain⟨n1,rfl⟩:=h1.rt
 exact⟨⟨n0,n1⟩,by simp only[cpC,List.cons_append,List.nil_append,List.append_nil,List.append_assoc],⟨w0⟩⟩
structure Pul.Ok (x:Pul):Prop where
 j:x.j.Ok
 f:x.f.Ok
abbrev pulS:Sh:=.st [cpS,cpS]
theorem Opn.pul {cs:List AV}(h:Opn pulS cs):∃ x:Pul,cs=pulC x∧x.Ok:=by
 have h:=h.inv_st
 obtain⟨a0,b0,rfl,h0,h⟩:=h.inv_cons
 obtain⟨a1,b1,rfl,h1,h⟩:=h.inv_cons
 have h:=h.inv_nil;subst h
 obtain⟨n0,rfl,w0⟩:=h0.cp
 obtain⟨n1,rfl,w1⟩:=h1.cp
 exact⟨⟨n0,n1⟩,by simp only[pulC,List.cons_append,List.nil_append,List.append_nil,List.append_assoc],⟨w0,w1⟩⟩
structure Blk.Ok (x:Blk):Prop where
 pul:x.pul.Ok
 slot:(Lit.int .u64 x.slot).wf=true
 diff:∀ n ∈ x.diff.1,0≤n∧n<18446744073709551616
 pdiff:∀ n ∈ x.pdiff.1,0≤n∧n<18446744073709551616
 just:x.just.Ok
 fin:x.fin.Ok
abbrev blkS:Sh:=.st [pulS,.int .u64,.arr 32 (.int .u8),.arr 32 (.int .u8),.arr 32 (.int .u8),.arr 4 (.int .u64),.arr 4 (.int .u64),cpS,cpS,.bool]
theorem Opn.blk {cs:List AV}(h:Opn blkS cs):∃ x:Blk,cs=blkC x∧x.Ok:=by
 have h:=h.inv_st
 obtain⟨a0,b0,rfl,h0,h⟩:=h.inv_cons
 obtain⟨a1,b1,rfl,h1,h⟩:=h.inv_cons
 obtain⟨a2,b2,rfl,h2,h⟩:=h.inv_cons
 obtain⟨a3,b3,rfl,h3,h⟩:=h.inv_cons
 obtain⟨a4,b4,rfl,h4,h⟩:=h.inv_cons
 obtain⟨a5,b5,rfl,h5,h⟩:=h.inv_cons
 obtain⟨a6,b6,rfl,h6,h⟩:=h.inv_cons
 obtain⟨a7,b7,rfl,h7,h⟩:=h.inv_cons
 obtain⟨a8,b8,rfl,h8,h⟩:=h.inv_cons
 obtain⟨a9,b9,rfl,h9,h⟩:=h.inv_cons
 have h:=h.inv_nil;subst h
 obtain⟨n0,rfl,w0⟩:=h0.pul
 obtain⟨n1,w1,rfl⟩:=h1.inv_int
 obtain⟨n2,rfl⟩:=h2.rt
 obtain⟨n3,rfl⟩:=h3.rt
 obtain⟨n4,rfl⟩:=h4.rt
 obtain⟨n5,rfl,w5⟩:=h5.wd
 obtain⟨n6,rfl,w6⟩:=h6.wd
 obtain⟨n7,rfl,w7⟩:=h7.cp
 obtain⟨n8,rfl,w8⟩:=h8.cp
 obtain⟨n9,rfl⟩:=h9.inv_bool
 exact⟨⟨n0,n1,n2,n3,n4,n5,n6,n7,n8,n9⟩,by simp only[blkC,List.cons_append,List.nil_append,List.append_nil,List.append_assoc],⟨w0,w1,w5,w6,w7,w8⟩⟩
structure Att.Ok (x:Att):Prop where
 slot:(Lit.int .u64 x.slot).wf=true
 target:x.target.Ok
 vals:∃ ns:List Int,x.vals=.sl 1 false (nums .i64 ns)∧ns.length≤maxLen∧∀ n ∈ ns,(Lit.int .i64 n).wf=true
abbrev attS:Sh:=.st [.int .u64,.arr 32 (.int .u8),cpS,.sl (.int .i64)]
theorem Opn.att {cs:List AV}(h:Opn attS cs):∃ x:Att,cs=attC x∧x.Ok:=by
 have h:=h.inv_st
 obtain⟨a0,b0,rfl,h0,h⟩:=h.inv_cons
 obtain⟨a1,b1,rfl,h1,h⟩:=h.inv_cons
 obtain⟨a2,b2,rfl,h2,h⟩:=h.inv_cons
 obtain⟨a3,b3,rfl,h3,h⟩:=h.inv_cons
 have h:=h.inv_nil;subst h
 obtain⟨n0,w0,rfl⟩:=h0.inv_int
 obtain⟨n1,rfl⟩:=h1.rt
 obtain⟨n2,rfl,w2⟩:=h2.cp
 obtain⟨n3,l3,w3,rfl⟩:=h3.inv_nums
 exact⟨⟨n0,n1,n2,_⟩,by simp only[attC,List.cons_append,List.nil_append,List.append_nil,List.append_assoc],⟨w0,w2,⟨n3,rfl,l3,w3⟩⟩⟩
structure Clm.Ok (x:Clm):Prop where
 src:(Lit.int .u64 x.src).wf=true
 tgt:(Lit.int .u64 x.tgt).wf=true
 vals:∃ ns:List Int,x.vals=.sl 1 false (nums .i64 ns)∧ns.length≤maxLen∧∀ n ∈ ns,(Lit.int .i64 n).wf=true
abbrev clmS:Sh:=.st [.int .u64,.int .u64,.arr 32 (.int .u8),.sl (.int .i64)]
theorem Opn.clm {cs:List AV}(h:Opn clmS cs):∃ x:Clm,cs=clmC x∧x.Ok:=by
 have h:=h.inv_st
 obtain⟨a0,b0,rfl,h0,h⟩:=h.inv_cons
 obtain⟨a1,b1,rfl,h1,h⟩:=h.inv_cons
 obtain⟨a2,b2,rfl,h2,h⟩:=h.inv_cons
 obtain⟨a3,b3,rfl,h3,h⟩:=h.inv_cons
 have h:=h.inv_nil;subst h
 obtain⟨n0,w0,rfl⟩:=h0.inv_int
 obtain⟨n1,w1,rfl⟩:=h1.inv_int
 obtain⟨n2,rfl⟩:=h2.rt
 obtain⟨n3,l3,w3,rfl⟩:=h3.inv_nums
 exact⟨⟨n0,n1,n2,_⟩,by simp only[clmC,List.cons_append,List.nil_append,List.append_nil,List.append_assoc],⟨w0,w1,⟨n3,rfl,l3,w3⟩⟩⟩
structure Slg.Ok (x:Slg):Prop where
 fst:x.fst.Ok
 snd:x.snd.Ok
abbrev slgS:Sh:=.st [clmS,clmS]
theorem Opn.slg {cs:List AV}(h:Opn slgS cs):∃ x:Slg,cs=slgC x∧x.Ok:=by
 have h:=h.inv_st
 obtain⟨a0,b0,rfl,h0,h⟩:=h.inv_cons
 obtain⟨a1,b1,rfl,h1,h⟩:=h.inv_cons
 have h:=h.inv_nil;subst h
 obtain⟨n0,rfl,w0⟩:=h0.clm
 obtain⟨n1,rfl,w1⟩:=h1.clm
 exact⟨⟨n0,n1⟩,by simp only[slgC,List.cons_append,List.nil_append,List.append_nil,List.append_assoc],⟨w0,w1⟩⟩
structure Tab.Ok (x:Tab):Prop where
 cp:x.cp.Ok
 bals:∃ ns:List Int,x.bals=.sl 1 false (nums .u64 ns)∧ns.length≤maxLen∧∀ n ∈ ns,(Lit.int .u64 n).wf=true
abbrev tabS:Sh:=.st [cpS,.sl (.int .u64)]
theorem Opn.tab {cs:List AV}(h:Opn tabS cs):∃ x:Tab,cs=tabC x∧x.Ok:=by
 have h:=h.inv_st
 obtain⟨a0,b0,rfl,h0,h⟩:=h.inv_cons
 obtain⟨a1,b1,rfl,h1,h⟩:=h.inv_cons
 have h:=h.inv_nil;subst h
 obtain⟨n0,rfl,w0⟩:=h0.cp
 obtain⟨n1,l1,w1,rfl⟩:=h1.inv_nums
 exact⟨⟨n0,_⟩,by simp only[tabC,List.cons_append,List.nil_append,List.append_nil,List.append_assoc],⟨w0,⟨n1,rfl,l1,w1⟩⟩⟩
structure Vdt.Ok (x:Vdt):Prop where
 tag:(Lit.int .u64 x.tag).wf=true
 kind:(Lit.int .i64 x.kind).wf=true
abbrev vdtS:Sh:=.st [.st [.int .u64],.int .i64,.arr 32 (.int .u8)]
theorem Opn.vdt {cs:List AV}(h:Opn vdtS cs):∃ x:Vdt,cs=vdtC x∧x.Ok:=by
 have h:=h.inv_st
 obtain⟨a0,b0,rfl,h0,h⟩:=h.inv_cons
 obtain⟨a1,b1,rfl,h1,h⟩:=h.inv_cons
 obtain⟨a2,b2,rfl,h2,h⟩:=h.inv_cons
 have h:=h.inv_nil;subst h
 obtain⟨y0,z0,rfl,g0,q0⟩:=h0.inv_st.inv_cons
 have q0:=q0.inv_nil;subst q0
 obtain⟨n0,w0,rfl⟩:=g0.inv_int
 obtain⟨n1,w1,rfl⟩:=h1.inv_int
 obtain⟨n2,rfl⟩:=h2.rt
 exact⟨⟨n0,n1,n2⟩,by simp only[vdtC,List.cons_append,List.nil_append,List.append_nil,List.append_assoc],⟨w0,w1⟩⟩
structure SOp.Ok (x:SOp):Prop where
 kind:(Lit.int .i64 x.kind).wf=true
 blk:x.blk.Ok
 att:x.att.Ok
 slg:x.slg.Ok
 tab:x.tab.Ok
 vdt:x.vdt.Ok
 write:(Lit.int .i64 x.write).wf=true
 keep:(Lit.int .i64 x.keep).wf=true

section
variable {P:Program}{σ:St}
theorem la_ {n:Nat}{loc:Nat→Option Loc}{b:Nat}:¬ liveB (List.replicate n .gone) loc b:=by
 rintro⟨id,o,L,h1,h2,_⟩
 rw[List.getElem?_replicate]at h1
 split at h1
 · simp only[Option.some.injEq]at h1
   subst h1
   cases h2
 · cases h1
theorem ACall.give {f:FuncId}{args:List AV}{r:AV}(h:PC P f (fzL σ (List.range σ.length) args) r):ACall P f args σ r (List.replicate σ.length .gone):=by
 refine⟨h.call.1,by simp,fun X loc w vs hr hv=>?_⟩
 obtain⟨loc2,g1,g2,g3,g4⟩:=(gl_ σ (List.range σ.length)).rel hr
 have hpu:=h.pa
 have hv2:RlS (envOf X loc2 [] w) (fzL σ (List.range σ.length) args) vs:=by
   have key:∀ {xs:List AV} {us:List Value},PuL (fzL σ (List.range σ.length) xs)→RlS (envOf X loc σ w) xs us→RlS (envOf X loc2 [] w) (fzL σ (List.range σ.length) xs) us:=by
     intro xs
     induction xs with
     | nil=>intro us _ hv;exact hv
     | cons a xs ih =>
       intro us hp hv
       obtain⟨u,us',e,h1,h2⟩:=hv
       exact⟨u,us',e,g4 a u h1 _ (hp.1.ren _).symm,ih hp.2 h2⟩
   exact key hpu hv
 refine(h.call.2.2 X loc2 w vs g2 hv2).mono ?_
 rintro e w' ⟨v,loc',rfl,ho,_⟩
 have hl:loc'=fun _=>none:=funext fun id=>ho.rel.beyond id (Nat.zero_le _)
 have hnl:∀ b,¬ liveB [] loc' b:=fun b hd=>by obtain⟨id,o,L,h1,_⟩:=hd;simp at h1
 refine⟨v,loc,rfl,⟨fun _ _ h=>h,⟨fun id o h1 h2=>?_,fun i j a b La Lb _ h1 _ h3=>?_,fun b hb=>⟨Nat.lt_of_lt_of_le (hr.out b hb).1 ho.ev.size,la_⟩,fun id hid=>hr.beyond id (by simpa using hid)⟩,?_,⟨ho.ev.size,fun b hb hn=>ho.ev.blk b hb (fun hd=>by obtain⟨id,o,L,h1,_⟩:=hd;simp at h1),ho.ev.os,ho.ev.tape,ho.ev.output⟩,fun b hb=>absurd hb la_⟩,fun _ _=>rfl⟩
 · rw[List.getElem?_replicate]at h1
   split at h1
   · simp only[Option.some.injEq]at h1;subst h1;cases h2
   · cases h1
 · rw[List.getElem?_replicate]at h1
   split at h1
   · simp only[Option.some.injEq]at h1;subst h1;cases h3
   · cases h1
 · refine Rl.mono (E:=envOf X loc' [] w') (E':=envOf X loc (List.replicate σ.length .gone) w') ⟨fun id L hL=>?_,Nat.le_refl _,fun b hb hn=>⟨fun(hf:X b∨liveB _ loc b)=>hn (hf.elim .inl fun hd=>absurd hd la_),rfl⟩⟩ _ _ ho.val
   have hL2:loc' id=some L:=hL
   rw[hl]at hL2
   cases hL2
end

def tsOk (σ:St) (zs:List Nat) (ρ:Nat→Nat) (ts:List (Nat × AV)):List (Nat × AV)→Prop
 | []=>True
 | p::r=>fz σ zs (look ts p.1)=ren ρ p.2∧tsOk σ zs ρ ts r
theorem tsOk.get {σ:St}{zs:List Nat}{ρ:Nat→Nat}{ts:List (Nat × AV)}(t:Nat):∀ {ts2:List (Nat × AV)},tsOk σ zs ρ ts ts2→look ts2 t=.dead∨fz σ zs (look ts t)=ren ρ (look ts2 t)
 | [],_=>.inl rfl
 | (u, v) :: r, h => by
   rw[show look ((u,v)::r) t=if t=u then v else look r t from rfl]
   by_cases hu:t=u
   · subst hu
     rw[if_pos rfl]
     exact .inr h.1
   · rw[if_neg hu]
     exact tsOk.get t h.2
section
variable {k:Nat}{σ:St}
end
attribute [go_sem] tsOk look
def ACode.tl:Nat→ACode→ACode
 | 0,c=>c
 | n+1,.seq _ b=>b.tl n
 | _+1,c=>c

def ACode.hd:ACode→ACode
 | .seq a _=>a
 | c=>c
end Go.FH
namespace Go.FH
set_option linter.unusedVariables false
open Go Go.RowKit

def addE (a b:Int):Int × Int:=if IntKind.u64.wrap (18446744073709551615-b)<a then (0,4)else (IntKind.u64.wrap (a+b),0)
def mulE (a b:Int):Int × Int:=if b≠0∧IntKind.u64.wrap (Int.tdiv 18446744073709551615 b)<a then (0,4)else (IntKind.u64.wrap (a*b),0)
def sumG (l:List Int):Nat→Int × Int
 | 0=>(0,0)
 | i+1=>let p:=sumG l i;if p.2≠0 then p else addE p.1 (l.getD i 0)
def sumE (l:List Int):Int × Int:=sumG l l.length
def epsB (n:Int):Bool:=decide (1≤n)&&decide (n≤64)
def startE (e per:Int):Int × Int:=if epsB per=true then mulE e per else (0,3)
def cmpRG (a b:Rt):Nat→Nat→Int
 | 0,_=>0
 | f+1,i=>if a.1.getD i 0<b.1.getD i 0 then -1 else if b.1.getD i 0<a.1.getD i 0 then 1 else cmpRG a b f (i+1)
def cmpR (a b:Rt):Int:=cmpRG a b 32 0
def cmpWG (a b:Wd):Nat→Int
 | 0=>0
 | f+1=>if a.1.getD f 0<b.1.getD f 0 then -1 else if b.1.getD f 0<a.1.getD f 0 then 1 else cmpWG a b f
def cmpW (a b:Wd):Int:=cmpWG a b 4

def vtabE (t:VTab) (n:Int):Int:=if (t.bals.length:Int)≠n then 2 else if (sumE t.bals).2≠0∨4611686018427387904<(sumE t.bals).1 then 4 else 0
def cmpC (a b:Cp):Int:=if a.ep≠b.ep then (if a.ep<b.ep then -1 else 1)else cmpR a.rt b.rt
def tab (l:List VTab) (i:Nat):VTab:=l.getD i default
def findTab (l:List VTab) (c:Cp):Int:=idx1 (fstN (fun i=>decide ((tab l i).cp=c)) l.length)
def placeG (l:List VTab) (c:Cp):Nat→Nat→Nat
 | 0,i=>i
 | f+1,i=>if cmpC (tab l i).cp c<0 then placeG l c f (i+1)else i
def addTab (l:List VTab) (t:VTab):List VTab:=let k:=placeG l t.cp l.length 0;l.take k++[t]++l.drop k
def regTab (l:List VTab) (t:VTab) (n limit:Int):List VTab × Int:=
 if vtabE t n≠0 then (l,vtabE t n)else if 0≤findTab l t.cp then (l,9)else if limit≤l.length then (l,11)else (addTab l t,0)
def dropTabs (l:List VTab) (e:Int):List VTab:=upto (fun i o=>if e≤(tab l i).cp.ep then o++[tab l i]else o) [] l.length
def vot (l:List Vot) (i:Nat):Vot:=l.getD i vot0
def castS (ep:Int) (root:Rt) (l:List Int):Nat→List Vot × Int→List Vot × Int:=fun i p=>
 if (vot p.1 (l.getD i 0).toNat).has=false∨(vot p.1 (l.getD i 0).toNat).ep<ep then (p.1.set (l.getD i 0).toNat ⟨true,ep,root⟩,IntKind.i64.wrap (p.2+1))else p
def castT (v:List Vot) (ep:Int) (root:Rt) (l:List Int):List Vot × Int:=upto (castS ep root l) (v,0) l.length
def weightT (latest:List Vot) (eqv bals:List Int) (roots:List Rt):Int:=
 upto (fun i n=>if (vot latest i).has=true∧(i:Int) ∉ eqv∧(vot latest i).root ∈ roots then IntKind.u64.wrap (n+bals.getD i 0)else n) 0 (min bals.length latest.length)

def nod (t:List Nod) (i:Nat):Nod:=t.getD i nod0
def isN (t:List Nod) (i:Int):Bool:=decide (0≤i)&&decide (i<t.length)
def findT (t:List Nod) (r:Rt):Int:=idx1 (fstN (fun i=>decide ((nod t i).blk.root=r)) t.length)
def insT (t:List Nod) (b:Blk) (status:Int):List Nod × Int:=
 if ¬ (0≤status∧status≤2)then ([],2)else if 0≤findT t b.root then ([],9)else if findT t b.parent<0 then ([],10)
 else if b.slot≤(nod t (findT t b.parent).toNat).blk.slot then ([],14)else if 4096≤t.length then ([],11)else (t++[⟨b,findT t b.parent,status⟩],0)
def kidsT (t:List Nod) (i:Int):List Int:=if isN t i=true then upto (fun k l=>if (nod t k).up=i then l++[(k:Int)]else l) [] t.length else []
def pathG (t:List Nod):Nat→Int→List Int
 | 0,_=>[]
 | f+1,i=>if isN t i=true then (if i=0 then [0]else pathG t f (nod t i.toNat).up++[i])else []
def TreeOk (t:List Nod):Prop:=∀ i,0<i→i<t.length→0≤(nod t i).up∧(nod t i).up<i
theorem uf_ {t:List Nod}(ht:TreeOk t):∀ (n i f g:Nat),i<n→i<f→i<g→pathG t f i=pathG t g i
 | 0,_,_,_,h,_,_=>by omega
 | n + 1, i, f + 1, g + 1, hn, hf, hg => by
   unfold pathG
   by_cases hi:isN t (i:Int)=true
   · rw[if_pos hi,if_pos hi]
     by_cases h0:(i:Int)=0
     · rw[if_pos h0,if_pos h0]
     · rw[if_neg h0,if_neg h0]
       simp[isN]at hi
       obtain⟨u0,u1⟩:=ht i (by omega) hi
       obtain⟨u,hu⟩:∃ u:Nat,(nod t i).up=u:=⟨_,(Int.toNat_of_nonneg u0).symm⟩
       simp only[Int.toNat_natCast]
       rw[hu,uf_ ht n u f g (by omega) (by omega) (by omega)]
   · rw[if_neg hi,if_neg hi]
def pathT (t:List Nod) (i:Int):List Int:=pathG t (t.length+1) i
theorem fc_ {t:List Nod}(h:0<t.length):pathT t 0=[0]:=by
 unfold pathT pathG;rw[if_pos (by simp[isN,h]),if_pos rfl]
theorem ia_ {t:List Nod}(ht:TreeOk t) {i:Nat}(h0:0<i) (hi:i<t.length):pathT t i=pathT t (nod t i).up++[(i:Int)]:=by
 obtain⟨u0,u1⟩:=ht i h0 hi
 obtain⟨u,hu⟩:∃ u:Nat,(nod t i).up=u:=⟨_,(Int.toNat_of_nonneg u0).symm⟩
 have:=uf_ ht (i+1) u t.length (t.length+1) (by omega) (by omega) (by omega)
 unfold pathT
 rw[hu,← this]
 show (if isN t (i:Int)=true then _ else _)=_
 rw[if_pos (by simp[isN,hi]),if_neg (by omega),Int.toNat_natCast,hu]
theorem jS_ {t:List Nod}{i:Int}(h:isN t i=false):pathT t i=[]:=by
 unfold pathT pathG;rw[if_neg (by simp[h])]
theorem ep_ {t:List Nod}(ht:TreeOk t):∀ (n i:Nat),i<n→(pathT t i).length≤i+1
 | 0,_,h=>by omega
 | n + 1, i, h => by
   by_cases hi:i<t.length
   · by_cases h0:i=0
     · subst h0;rw[show ((0:Nat):Int)=0 from rfl,fc_ hi];simp
     · obtain⟨u0,u1⟩:=ht i (by omega) hi
       obtain⟨u,hu⟩:∃ u:Nat,(nod t i).up=u:=⟨_,(Int.toNat_of_nonneg u0).symm⟩
       rw[ia_ ht (by omega) hi,hu]
       have:=ep_ ht n u (by omega)
       simp;omega
   · rw[jS_ (by simp[isN];omega)];simp
theorem rN_ {t:List Nod}(ht:TreeOk t):∀ (n i:Nat),i<n→∀ x ∈ pathT t i,0≤x∧x≤i∧x<t.length
 | 0,_,h,_,_=>by omega
 | n + 1, i, h, x, hx => by
   by_cases hi:i<t.length
   · by_cases h0:i=0
     · subst h0;rw[show ((0:Nat):Int)=0 from rfl,fc_ hi]at hx;simp at hx;omega
     · obtain⟨u0,u1⟩:=ht i (by omega) hi
       obtain⟨u,hu⟩:∃ u:Nat,(nod t i).up=u:=⟨_,(Int.toNat_of_nonneg u0).symm⟩
       rw[ia_ ht (by omega) hi,hu,List.mem_append,List.mem_singleton]at hx
       rcases hx with hx | hx
       · have:=rN_ ht n u (by omega) x hx;omega
       · omega
   · rw[jS_ (by simp[isN];omega)]at hx;simp at hx
theorem dt_ {t:List Nod}(ht:TreeOk t) {i x:Int}(hx:x ∈ pathT t i):0≤x∧x≤i∧x<t.length:=by
 by_cases h0:0≤i
 · obtain⟨u,rfl⟩:∃ u:Nat,i=u:=⟨_,(Int.toNat_of_nonneg h0).symm⟩
   exact rN_ ht (u+1) u (by omega) x hx
 · rw[jS_ (by simp[isN];omega)]at hx;simp at hx
theorem eT_ {t:List Nod}(ht:TreeOk t) (i:Int):(pathT t i).length≤t.length:=by
 by_cases h0:isN t i=true
 · have h1:=h0
   simp[isN]at h1
   obtain⟨u,rfl⟩:∃ u:Nat,i=u:=⟨_,(Int.toNat_of_nonneg h1.1).symm⟩
   have:=ep_ ht (u+1) u (by omega)
   omega
 · rw[jS_ (by simpa using h0)];simp
def ancT (t:List Nod) (a b:Int):Bool:=decide (a ∈ pathT t b)
def atT (t:List Nod) (i slot:Int):Int:=upto (fun k at_=>if (nod t ((pathT t i).getD k 0).toNat).blk.slot≤slot then (pathT t i).getD k 0 else at_) (-1) (pathT t i).length
def descT (t:List Nod) (i:Int):List Int:=upto (fun k l=>if ancT t i k=true then l++[(k:Int)]else l) [] t.length
def directT (t:List Nod) (latest:List Vot) (eqv bals:List Int):List Int:=
 upto (fun i l=>l++[if (nod t i).status≠2 then weightT latest eqv bals [(nod t i).blk.root]else 0]) [] t.length
def subT (t:List Nod) (direct:List Int):List Int:=
 upto (fun i l=>l++[upto (fun k n=>IntKind.u64.wrap (n+direct.getD ((descT t i).getD k 0).toNat 0)) 0 (descT t i).length]) [] t.length
def amountT (spe boost total:Int):Int × Int:=
 if spe<1∨64<spe∨100<boost∨4611686018427387904<total then (0,3)
 else (IntKind.u64.wrap (IntKind.u64.wrap (IntKind.u64.wrap (Int.tdiv (IntKind.u64.wrap (Int.tdiv total spe)) 100)*boost)+IntKind.u64.wrap (Int.tdiv (IntKind.u64.wrap (Int.tmod (IntKind.u64.wrap (Int.tdiv total spe)) 100*boost)) 100)),0)
def boostedT (t:List Nod) (direct:List Int) (root:Rt) (amount:Int):List Int:=
 if 0≤findT t root∧(nod t (findT t root).toNat).status≠2∧root≠rt0 then direct.set (findT t root).toNat (IntKind.u64.wrap (direct.getD (findT t root).toNat 0+amount))else direct
def pruneS (t:List Nod) (i:Int) (k:Nat) (p:List Nod × List Int):List Nod × List Int:=
 if ancT t i k=true then (p.1++[⟨(nod t k).blk,if (k:Int)=i then -1 else p.2.getD (nod t k).up.toNat 0,(nod t k).status⟩],p.2++[(p.1.length:Int)])else (p.1,p.2++[-1])
def pruneT (t:List Nod) (i:Int):List Nod × List Int:=upto (pruneS t i) ([],[]) t.length
def setK (l:List Int) (status forbidden:Int) (k:Nat) (o:Option (List Nod)):Option (List Nod):=o.bind fun u=>if (nod u (l.getD k 0).toNat).status=forbidden then none else some (u.set (l.getD k 0).toNat { nod u (l.getD k 0).toNat with status:=status })
def setT (t:List Nod) (l:List Int) (status forbidden:Int):Option (List Nod):=upto (setK l status forbidden) (some t) l.length
theorem rm_ {l:List Int}{status forbidden:Int}{o:Option (List Nod)}{k:Nat}(h:upto (setK l status forbidden) o k=none):∀ n,k≤n→upto (setK l status forbidden) o n=none
 | 0,hn=>by rw[show 0=k by omega];exact h
 | n + 1, hn => by
   by_cases he:k=n+1
   · rw[← he];exact h
   · rw[aX_,rm_ h n (by omega)];rfl
theorem eU_ {t:List Nod}{l:List Int}{status forbidden:Int}:∀ {k:Nat}{u:List Nod},upto (setK l status forbidden) (some t) k=some u→u.length=t.length
 | 0,u,h=>by cases h;rfl
 | k + 1, u, h => by
   rw[aX_]at h
   cases h2:upto (setK l status forbidden) (some t) k with
   | none=>rw[h2]at h;cases h
   | some v =>
     rw[h2]at h
     simp only[setK,Option.bind_some]at h
     split at h
     · cases h
     · cases h;rw[List.length_set,eU_ h2]
def raiseT (t:List Nod) (i:Int):List Nod × Int:=if isN t i=true then (match setT t (pathT t i) 1 2 with | some u=>(u,0) | none=>([],21))else ([],10)
def condT (t:List Nod) (i:Int):List Nod × Int:=if isN t i=true then (match setT t (descT t i) 2 1 with | some u=>(u,0) | none=>([],21))else ([],10)
theorem El_ {u:List Nod}{j i:Nat}{n:Nod}:nod (u.set j n) i=if j=i∧i<u.length then n else nod u i:=by
 unfold nod
 simp only[List.getD_eq_getElem?_getD,List.getElem?_set]
 by_cases h:j=i
 · subst h
   by_cases h2:j<u.length
   · simp[h2]
   · simp[h2]
 · simp[h]
theorem kH_ {t:List Nod}{l:List Int}{status forbidden:Int}:∀ {k:Nat}{u:List Nod},upto (setK l status forbidden) (some t) k=some u→∀ i,(nod u i).up=(nod t i).up∧(nod u i).blk=(nod t i).blk
 | 0,u,h,i=>by cases h;exact⟨rfl,rfl⟩
 | k + 1, u, h, i => by
   rw[aX_]at h
   cases h2:upto (setK l status forbidden) (some t) k with
   | none=>rw[h2]at h;cases h
   | some v =>
     rw[h2]at h
     simp only[setK,Option.bind_some]at h
     have ih:=kH_ h2 i
     split at h
     · cases h
     · cases h
       rw[El_]
       split
       · rename_i hq;rw[← hq.1]at ih ⊢;exact ih
       · exact ih
theorem TreeOk.of_up {t u:List Nod}(ht:TreeOk t) (hl:u.length=t.length) (hu:∀ i,(nod u i).up=(nod t i).up):TreeOk u:=fun i h1 h2=>by rw[hu i];exact ht i h1 (by omega)
theorem zx_ {t:List Nod}(ht:TreeOk t) {i:Int}(h:(raiseT t i).2=0):TreeOk (raiseT t i).1∧(raiseT t i).1.length=t.length∧∀ k,(nod (raiseT t i).1 k).blk=(nod t k).blk:=by
 unfold raiseT at *
 split at h
 · rename_i h1
   rw[if_pos h1]
   cases h2:setT t (pathT t i) 1 2 with
   | none=>rw[h2]at h;simp at h
   | some u=>exact⟨ht.of_up (eU_ h2) (fun i=>(kH_ h2 i).1),eU_ h2,fun k=>(kH_ h2 k).2⟩
 · simp at h
def reachT (t:List Nod) (i:Int) (latest:Rt):Int × Int:=
 if (pathT t i).length=0 then (-1,-1)
 else if latest=rt0 then (match fstN (fun k=>decide ((nod t ((pathT t i).getD k 0).toNat).blk.payload≠rt0)) (pathT t i).length with
   | some k=>((nod t ((pathT t i).getD k 0).toNat).up,(pathT t i).getD k 0)
   | none=>(-1,i))
 else (match lstN (fun k=>decide ((nod t ((pathT t i).getD k 0).toNat).blk.payload=latest)) ((pathT t i).length-1)with
   | some k=>((pathT t i).getD k 0,(pathT t i).getD (k+1) 0)
   | none=>(-1,i))
def judgeT (t:List Nod) (i:Int) (v:Vdt) (keep:List Int):List Nod × Int:=
 if isN t i=false then ([],10)else if v.kind=1 then raiseT t i else if v.kind=3∨v.kind=4 then (t,0)else if v.kind≠2 then ([],2)
 else if (fstN (fun k=>ancT t (reachT t i v.latest).2 (keep.getD k 0)) keep.length).isSome=true then ([],21)
 else if 0≤(reachT t i v.latest).1 then (if (raiseT t (reachT t i v.latest).1).2≠0 then ([],(raiseT t (reachT t i v.latest).1).2)else condT (raiseT t (reachT t i v.latest).1).1 (reachT t i v.latest).2)
 else condT t (reachT t i v.latest).2
end Go.FH
namespace Go.FH
set_option linter.unusedVariables false
set_option linter.unusedSimpArgs false
open Go Go.RowKit

def Sm {α:Type}(G F:α→Prop):Prop:=∃ r,G r∧F r
section
variable {α:Type}{G:α→Prop}{P:Program}{nt k:Nat}{fr:Fr}{σ:St}
theorem co_ {p q:α→Prop}(h:∀ r,q r→p r) (hq:Sm G q):Sm G p:=hq.imp fun r h1=>⟨h1.1,h r h1.2⟩
theorem xU_ {F:α→Prop}(r:α) (h1:G r) (h2:F r):Sm G F:=⟨r,h1,h2⟩
theorem aJ_ {p q:α→Prop}(hq:Sm G q) (h:∀ r,Hid (q r)→p r:=by
   (intro r hq
    (first | with_reducible (first | refine gq_ ?_ | refine cR_ ?_ | refine fj_ ?_ | refine dI_ (by simp only[List.length_cons,List.length_nil]) ?_ | refine dE_ ?_ | refine dR_ ?_ | refine eY_ ?_) | (simp only[go_sem,Nat.reduceAdd,Nat.reduceSub,Nat.reduceMul,Nat.reduceLT,Nat.reduceLeDiff,Nat.reduceEqDiff,reduceIte,Int.reduceToNat,Int.reduceLT,Int.reduceLE,Int.reduceEq,Int.reduceNeg,reduceCtorEq,Int.reduceBEq,Int.reduceBNe]) | with_reducible refine And.intro (fy_ (by decide)) ?_ | (with_reducible refine And.intro ?_ ?_;first | omega | decide | (simp;done) | (simp;omega)))
    repeat(first | with_reducible (first | refine gq_ ?_ | refine cR_ ?_ | refine fj_ ?_ | refine dI_ (by simp only[List.length_cons,List.length_nil]) ?_ | refine dE_ ?_ | refine dR_ ?_ | refine eY_ ?_) | (simp only[go_sem,Nat.reduceAdd,Nat.reduceSub,Nat.reduceMul,Nat.reduceLT,Nat.reduceLeDiff,Nat.reduceEqDiff,reduceIte,Int.reduceToNat,Int.reduceLT,Int.reduceLE,Int.reduceEq,Int.reduceNeg,reduceCtorEq,Int.reduceBEq,Int.reduceBNe]) | with_reducible refine And.intro (fy_ (by decide)) ?_ | (with_reducible refine And.intro ?_ ?_;first | omega | decide | (simp;done) | (simp;omega)))
    exact hq.out)):Sm G p:=co_ (fun r h1=>h r ⟨h1⟩) hq
theorem aO_ {x y:ACode}{Q:α→Ex→Fr→St→Prop}(h:Sm G fun r=>Tri P nt k x (thenQ (Tri P nt k y (Q r)) (Q r)) fr σ):Sm G fun r=>Tri P nt k (.seq x y) (Q r) fr σ:=co_ (fun r h1=>gq_ h1) h
theorem bF_ {p q:α→Prop}(hq:Sm G q) (h:∀ r,Hid (q r)→p r:=by
   (intro r hq
    (first | with_reducible (first | refine cR_ ?_ | refine fj_ ?_ | refine dI_ (by simp only[List.length_cons,List.length_nil]) ?_ | refine dE_ ?_ | refine dR_ ?_ | refine eY_ ?_) | (simp only[go_sem,Nat.reduceAdd,Nat.reduceSub,Nat.reduceMul,Nat.reduceLT,Nat.reduceLeDiff,Nat.reduceEqDiff,reduceIte,Int.reduceToNat,Int.reduceLT,Int.reduceLE,Int.reduceEq,Int.reduceNeg,reduceCtorEq,Int.reduceBEq,Int.reduceBNe]) | with_reducible refine And.intro (fy_ (by decide)) ?_ | (with_reducible refine And.intro ?_ ?_;first | omega | decide | (simp;done) | (simp;omega)))
    repeat(first | with_reducible (first | refine cR_ ?_ | refine fj_ ?_ | refine dI_ (by simp only[List.length_cons,List.length_nil]) ?_ | refine dE_ ?_ | refine dR_ ?_ | refine eY_ ?_) | (simp only[go_sem,Nat.reduceAdd,Nat.reduceSub,Nat.reduceMul,Nat.reduceLT,Nat.reduceLeDiff,Nat.reduceEqDiff,reduceIte,Int.reduceToNat,Int.reduceLT,Int.reduceLE,Int.reduceEq,Int.reduceNeg,reduceCtorEq,Int.reduceBEq,Int.reduceBNe]) | with_reducible refine And.intro (fy_ (by decide)) ?_ | (with_reducible refine And.intro ?_ ?_;first | omega | decide | (simp;done) | (simp;omega)))
    exact hq.out)):Sm G p:=co_ (fun r h1=>h r ⟨h1⟩) hq
theorem cY_ {p q:α→Prop}(hq:Sm G q) (h:∀ r,Hid (q r)→p r:=by
   (intro r hq
    (first | (simp only[go_sem,Nat.reduceAdd,Nat.reduceSub,Nat.reduceMul,Nat.reduceLT,Nat.reduceLeDiff,Nat.reduceEqDiff,reduceIte,Int.reduceToNat,Int.reduceLT,Int.reduceLE,Int.reduceEq,Int.reduceNeg,reduceCtorEq,Int.reduceBEq,Int.reduceBNe]) | with_reducible refine And.intro (fy_ (by decide)) ?_ | (with_reducible refine And.intro ?_ ?_;first | omega | decide | (simp;done) | (simp;omega)))
    repeat(first | (simp only[go_sem,Nat.reduceAdd,Nat.reduceSub,Nat.reduceMul,Nat.reduceLT,Nat.reduceLeDiff,Nat.reduceEqDiff,reduceIte,Int.reduceToNat,Int.reduceLT,Int.reduceLE,Int.reduceEq,Int.reduceNeg,reduceCtorEq,Int.reduceBEq,Int.reduceBNe]) | with_reducible refine And.intro (fy_ (by decide)) ?_ | (with_reducible refine And.intro ?_ ?_;first | omega | decide | (simp;done) | (simp;omega)))
    exact hq.out)):Sm G p:=co_ (fun r h1=>h r ⟨h1⟩) hq
theorem aA_ {c:Opd}{x y:ACode}{Q:α→Ex→Fr→St→Prop}{t:Bool}(h1:t=true→Sm G fun r=>Tri P nt k x (Q r) fr σ) (h2:t=false→Sm G fun r=>Tri P nt k y (Q r) fr σ)
   (hb:c.ev fr=.bool t:=by first | rfl | (simp only[go_sem];rfl)):Sm G fun r=>Tri P nt k (.cond c x y) (Q r) fr σ:=by
 cases t with
 | true=>exact co_ (fun r h=>al_ hb (fun _=>h) (fun h=>by cases h)) (h1 rfl)
 | false=>exact co_ (fun r h=>al_ hb (fun h=>by cases h) (fun _=>h)) (h2 rfl)
theorem bu_ {p1 p2:Prop}{A B:α→Prop}(h1:p1→Sm G A) (h2:p2→Sm G B) (hx:p1→p2→False:=by intro h1 h2;first | (rw[h1]at h2;cases h2;done) | exact h2 h1 | exact h1 h2 | (simp_all;done) | omega)
   (ho:p1∨p2:=by first | exact Classical.em _ | exact(Classical.em _).symm | exact Bool.eq_false_or_eq_true _ | exact(Bool.eq_false_or_eq_true _).symm | (simp;omega) | omega):Sm G fun r=>(p1→A r)∧(p2→B r):=by
 rcases ho with h | h
 · exact co_ (fun r h3=>⟨fun _=>h3,fun h4=>(hx h h4).elim⟩) (h1 h)
 · exact co_ (fun r h3=>⟨fun h4=>(hx h4 h).elim,fun _=>h3⟩) (h2 h)
theorem aH_ {f:FuncId}{args caps:List AV}{r0:AV}{K:α→AV→St→Prop}(h:PC P f (args++caps) r0) (hk:Sm G fun r=>K r r0 σ):Sm G fun r=>callStep P (.fn (.func f) caps) args σ (K r):=co_ (fun r h1=>pcall h h1) hk
theorem bb_ {n:Nat}{f:FuncId}{args caps:List AV}{r0:AV}{K:α→AV→List Nat→List Nat→St→Prop}(h:PC P f (args++caps) r0) (hk:Sm G fun r=>K r r0 [] [] σ):
   Sm G fun r=>∃ v ft ch σ',callD P n (.fn (.func f) caps) args σ v ft ch σ'∧K r v ft ch σ':=co_ (fun r h1=>dpcall h h1) hk
theorem FP_ {c:ACode}{Q:α→Ex→Fr→St→Prop}{fr2:Fr}{σ2:St}(hg:GC k fr σ fr2 σ2) (h:Sm G fun r=>Tri P nt k c (Q r) fr2 σ2):Sm G fun r=>Tri P nt k c (Q r) fr σ:=co_ (fun r h1=>ck_ hg h1) h
def Goes (P:Program) (nt k:Nat) (x:ACode) (fr:Fr) (σ:St) (fr2:Fr) (σ2:St):Prop:=∀ (z:ACode) (Q0 Q:Ex→Fr→St→Prop),Tri P nt k z Q0 fr2 σ2→Tri P nt k x (thenQ (Tri P nt k z Q0) Q) fr σ
theorem mS_ {x:ACode}{fr2:Fr}{σ2:St}(h:Tri P nt k x (fun e fr σ=>e=.normal∧GC k fr σ fr2 σ2) fr σ):Goes P nt k x fr σ fr2 σ2:=fun z Q0 Q hz=>Tri.mono h fun e fr3 σ3 ⟨h1,h2⟩=>by
 subst h1
 exact ck_ h2 hz
theorem ld_ {c:Opd}{x y z:ACode}{Q0 Q:Ex→Fr→St→Prop}{t:Bool}{nv:Nat}{vs:List AV}{ts:List (Nat × AV)}(us:Bool→List (Nat × AV)) (S:Bool→St)
   (hx:t=true→Tri P nt k x (fun e fr σ=>e=.normal∧GC k fr σ ⟨nv,setL (us true) vs,[]⟩ (S true)) ⟨nv,vs,ts⟩ σ) (hy:t=false→Tri P nt k y (fun e fr σ=>e=.normal∧GC k fr σ ⟨nv,setL (us false) vs,[]⟩ (S false)) ⟨nv,vs,ts⟩ σ)
   (hz:Tri P nt k z Q0 ⟨nv,setL (us t) vs,[]⟩ (S t)) (hb:c.ev ⟨nv,vs,ts⟩=.bool t:=by first | rfl | (simp only[go_sem];rfl)):Tri P nt k (.cond c x y) (thenQ (Tri P nt k z Q0) Q) ⟨nv,vs,ts⟩ σ:=by
 cases t with
 | true=>exact al_ hb (fun _=>mS_ (hx rfl) z Q0 Q hz) (fun h=>by cases h)
 | false=>exact al_ hb (fun h=>by cases h) (fun _=>mS_ (hy rfl) z Q0 Q hz)
theorem sn_ {β:Type}{x z:ACode}{Q0 Q:α→Ex→Fr→St→Prop}{H:β→Prop}{F:β→Fr}{S:β→St}(h:Sm H fun b=>Tri P nt k x (fun e fr σ=>e=.normal∧GC k fr σ (F b) (S b)) fr σ)
   (hz:∀ b,H b→Sm G fun r=>Tri P nt k z (Q0 r) (F b) (S b)):Sm G fun r=>Tri P nt k x (thenQ (Tri P nt k z (Q0 r)) (Q r)) fr σ:=by
 obtain⟨b,h1,h2⟩:=h
 exact co_ (fun r h3=>mS_ h2 z _ _ h3) (hz b h1)
theorem cw_ {β:Type}{x z:ACode}{Q0 Q:α→Ex→Fr→St→Prop}{nv:Nat}{vs:List AV}{ts:List (Nat × AV)}(H:β→Prop) (f:β→List AV) (i:Nat) (us:List (Nat × AV)) (h:Sm H fun b=>Tri P nt k x (fun e fr' σ'=>e=.normal∧GC k fr' σ' ⟨nv,setL us vs,[]⟩ (σ.set i (.var (f b)))) ⟨nv,vs,ts⟩ σ)
   (hz:∀ b,H b→Sm G fun r=>Tri P nt k z (Q0 r) ⟨nv,setL us vs,[]⟩ (σ.set i (.var (f b)))):Sm G fun r=>Tri P nt k x (thenQ (Tri P nt k z (Q0 r)) (Q r)) ⟨nv,vs,ts⟩ σ:=sn_ (F:=fun _=>⟨nv,setL us vs,[]⟩) (S:=fun b=>σ.set i (.var (f b))) h hz
theorem gW_ {β:Type}{x z:ACode}{Q0 Q:α→Ex→Fr→St→Prop}{nv:Nat}{vs:List AV}{ts:List (Nat × AV)}(H:β→Prop) (us:β→List (Nat × AV)) (h:Sm H fun b=>Tri P nt k x (fun e fr' σ'=>e=.normal∧GC k fr' σ' ⟨nv,setL (us b) vs,[]⟩ σ) ⟨nv,vs,ts⟩ σ)
   (hz:∀ b,H b→Sm G fun r=>Tri P nt k z (Q0 r) ⟨nv,setL (us b) vs,[]⟩ σ):Sm G fun r=>Tri P nt k x (thenQ (Tri P nt k z (Q0 r)) (Q r)) ⟨nv,vs,ts⟩ σ:=sn_ (F:=fun b=>⟨nv,setL (us b) vs,[]⟩) (S:=fun _=>σ) h hz
theorem nq_ {β:Type}{x z:ACode}{Q0 Q:α→Ex→Fr→St→Prop}{nv:Nat}{vs:List AV}{ts:List (Nat × AV)}(H:β→Prop) (us:β→List (Nat × AV)) (S:β→St) (h:Sm H fun b=>Tri P nt k x (fun e fr' σ'=>e=.normal∧GC k fr' σ' ⟨nv,setL (us b) vs,[]⟩ (S b)) ⟨nv,vs,ts⟩ σ)
   (hz:∀ b,H b→Sm G fun r=>Tri P nt k z (Q0 r) ⟨nv,setL (us b) vs,[]⟩ (S b)):Sm G fun r=>Tri P nt k x (thenQ (Tri P nt k z (Q0 r)) (Q r)) ⟨nv,vs,ts⟩ σ:=sn_ (F:=fun b=>⟨nv,setL (us b) vs,[]⟩) (S:=S) h hz
theorem cr_ {H:α→Prop}{fr1 fr2:Fr}{σ1:St}{S:α→St}(f:α→List AV) (i:Nat) {b:α}(hi:σ1[i]?=some (.var (f b))) (hb:H b) (hg:GC k fr1 σ1 fr2 (S b)):Sm H fun r=>GC k fr1 σ1 fr2 (S r):=⟨b,hb,hg⟩
theorem sO_ {rs:List ARes}{F:α→AV}{l:List AV}{b:α}(hl:resVal fr σ rs=some l) (hv:fz σ (List.range σ.length) (resAV l)=F b) (hg:G b):Sm G fun r=>PQ rs (F r) .ret fr σ:=⟨b,hg,l,hl,.inl hv⟩
theorem df_ {f:FuncId}{rs:List ARes}{ac:ACode}{args:List AV}{F:α→AV}(nv:Nat) (hf:aFun P f=some (nt,rs,ac)) (ha:args.length≤nt) (hp:PuL args) (hr:∀ r,G r→Pu (F r))
   (h:Sm G fun r=>Tri P nt 0 ac (PQ rs (F r)) ⟨nv,args++List.replicate (nv-args.length) .dead,[]⟩ []):Sm G fun r=>PC P f args (F r):=by
 obtain⟨r,h1,h2⟩:=h
 exact⟨r,h1,PC.fact nv hf ha hp (hr r h1) h2⟩
end

def flat1:AV→Bool
 | .bool _ | .int _ _ | .str _=>true
 | _=>false
def flat2:AV→Bool
 | .agg cs=>cs.all flat1
 | v=>flat1 v
def flatR:AV→Bool
 | .tup us=>us.all flat2
 | v=>flat2 v
theorem Rl.flat1 {E E':Env}{c:AV}{v:Value}(hc:flat1 c=true) (h:Rl E c v):Rl E' c v:=by
 cases c<;>first | exact h | cases hc
theorem RlC.flat {E E':Env}:∀ {cs:List AV}{vs:List Value},cs.all Go.FH.flat1=true→RlC E cs vs→RlC E' cs vs
 | [],_,_,h=>h
 | c :: cs, _, hc, h => by
   obtain⟨u,us,e,h1,h2,h3⟩:=h
   rw[List.all_cons,Bool.and_eq_true]at hc
   exact⟨u,us,e,h1,h2.flat1 hc.1,RlC.flat hc.2 h3⟩
theorem Rl.flat2 {E E':Env}{c:AV}{v:Value}(hc:flat2 c=true) (h:Rl E c v):Rl E' c v:=by
 cases c<;>first | exact h | cases hc | skip
 obtain⟨vs,e,h1⟩:=h
 exact⟨vs,e,h1.flat hc⟩
theorem RlS.flat {E E':Env}:∀ {cs:List AV}{vs:List Value},cs.all Go.FH.flat2=true→RlS E cs vs→RlS E' cs vs
 | [],_,_,h=>h
 | c :: cs, _, hc, h => by
   obtain⟨u,us,e,h2,h3⟩:=h
   rw[List.all_cons,Bool.and_eq_true]at hc
   exact⟨u,us,e,h2.flat2 hc.1,RlS.flat hc.2 h3⟩
theorem Rl.flatR {E E':Env}{c:AV}{v:Value}(hc:flatR c=true) (h:Rl E c v):Rl E' c v:=by
 cases c<;>first | exact h | cases hc | exact Rl.flat2 hc h | skip
 obtain⟨vs,e,h1⟩:=h
 exact⟨vs,e,h1.flat hc⟩
theorem jm_ {p q:Prop}(hq:q) (h:Hid q→p:=by
   (intro hq
    (first | with_reducible (first | refine cR_ ?_ | refine fj_ ?_ | refine dI_ (by simp only[List.length_cons,List.length_nil]) ?_ | refine dE_ ?_ | refine dR_ ?_ | refine eY_ ?_) | (simp only[go_sem,Nat.reduceAdd,Nat.reduceSub,Nat.reduceMul,Nat.reduceLT,Nat.reduceLeDiff,Nat.reduceEqDiff,reduceIte,Int.reduceToNat,Int.reduceLT,Int.reduceLE,Int.reduceEq,Int.reduceNeg,reduceCtorEq,Int.reduceBEq,Int.reduceBNe]) | with_reducible refine And.intro (fy_ (by decide)) ?_ | (with_reducible refine And.intro ?_ ?_;first | omega | decide | (simp;done) | (simp;omega)))
    repeat(first | with_reducible (first | refine cR_ ?_ | refine fj_ ?_ | refine dI_ (by simp only[List.length_cons,List.length_nil]) ?_ | refine dE_ ?_ | refine dR_ ?_ | refine eY_ ?_) | (simp only[go_sem,Nat.reduceAdd,Nat.reduceSub,Nat.reduceMul,Nat.reduceLT,Nat.reduceLeDiff,Nat.reduceEqDiff,reduceIte,Int.reduceToNat,Int.reduceLT,Int.reduceLE,Int.reduceEq,Int.reduceNeg,reduceCtorEq,Int.reduceBEq,Int.reduceBNe]) | with_reducible refine And.intro (fy_ (by decide)) ?_ | (with_reducible refine And.intro ?_ ?_;first | omega | decide | (simp;done) | (simp;omega)))
    exact hq.out)):p:=h ⟨hq⟩
section
variable {P:Program}{σ:St}
theorem ACall.lend {f:FuncId}{args:List AV}{r:AV}(hf:flatR r=true) (h:PC P f (fzL σ (List.range σ.length) args) r):ACall P f args σ r σ:=by
 refine⟨h.call.1,Nat.le_refl _,fun X loc w vs hr hv=>?_⟩
 obtain⟨loc2,g1,g2,g3,g4⟩:=(gl_ σ (List.range σ.length)).rel hr
 have hpu:=h.pa
 have hv2:RlS (envOf X loc2 [] w) (fzL σ (List.range σ.length) args) vs:=by
   have key:∀ {xs:List AV} {us:List Value},PuL (fzL σ (List.range σ.length) xs)→RlS (envOf X loc σ w) xs us→RlS (envOf X loc2 [] w) (fzL σ (List.range σ.length) xs) us:=by
     intro xs
     induction xs with
     | nil=>intro us _ hv;exact hv
     | cons a xs ih =>
       intro us hp hv
       obtain⟨u,us',e,h1,h2⟩:=hv
       exact⟨u,us',e,g4 a u h1 _ (hp.1.ren _).symm,ih hp.2 h2⟩
   exact key hpu hv
 refine(h.call.2.2 X loc2 w vs g2 hv2).mono ?_
 rintro e w' ⟨v,loc',rfl,ho,_⟩
 have hnl:∀ b,¬ liveB [] loc2 b:=fun b hd=>by obtain⟨id,o,L,h1,_⟩:=hd;simp at h1
 have hev:Ev (liveB σ loc) w w':=⟨ho.ev.size,fun b hb hn=>ho.ev.blk b hb (hnl b),ho.ev.os,ho.ev.tape,ho.ev.output⟩
 exact⟨v,loc,rfl,⟨fun _ _ h=>h,hr.change (fun _ _ h=>h) hev (fun b hb=>.inl hb) hr.beyond (fun id o h1 h2=>.inl ⟨h1,fun L hL hh=>ho.ev.blk _ (liveB.lt hr ⟨id,o,L,h1,h2,hL,hh,rfl⟩) (hnl _)⟩) hr.apart,
   ho.val.flatR hf,hev,fun b hb=>.inl hb⟩,fun _ _=>rfl⟩
end
end Go.FH
