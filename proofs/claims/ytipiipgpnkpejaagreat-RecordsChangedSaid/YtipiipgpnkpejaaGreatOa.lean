/-
 The law RecordsChanged.
-/
import Derived.Test.YtipiipgpnkpejaaGreatU4
import Derived.Test.YtipiipgpnkpejaaGreatV1
import Derived.Test.YtipiipgpnkpejaaGreatV2
import Derived.Test.YtipiipgpnkpejaaGreatW5
namespace Go.Proofs.YtipiipgpnkpejaaGreat
open Go Go.FH Go.RowKit
set_option linter.unusedVariables false
set_option linter.unusedSimpArgs false
set_option maxRecDepth 8000
set_option maxHeartbeats 4000000

theorem EF_ (a b:Int):∃ u:UInt8,ixor .u8 a b=(u.toNat:Int):=⟨_,kp_ _⟩
theorem DQ_ {a:VAtt}(ha:AttG a):(if vErr a.vals 1024=0 then aenc a.a a.vals else []).length≤30000:=by
 have:=wS_ (gh_ (k:=3) hx_ ha gm_ gp_ (v:=vdt0) u0 (by decide) (by decide)).u
 simp[fld,toV]at this
 exact this
theorem EB_ {g:VSlg}(hg:SlgG g):(if slErr g.fst.vals g.snd.vals=0 then slenc g.a g.fst.vals g.snd.vals else []).length≤30000:=by
 have:=wS_ (gh_ (k:=4) hx_ gt_ hg gp_ (v:=vdt0) u0 (by decide) (by decide)).u
 simp[fld,toV]at this
 exact this
theorem DV_ {t:VTab}(ht:TabG t):(if 1024<t.bals.length then []else tenc t.a t.bals).length≤30000:=by
 have:=wS_ (gh_ (k:=5) hx_ gt_ gm_ ht (v:=vdt0) u0 (by decide) (by decide)).u
 simp[fld,toV]at this
 exact this
theorem pc_RecordsChanged (l:List Int) (hl:l.length≤maxLen) (hwl:∀ z ∈ l,(Lit.int .i64 z).wf=true) (what:Int) (hwa:(Lit.int .i64 what).wf=true) (at_:Int) (hat:(Lit.int .i64 at_).wf=true) (by_:Int) (hby:(Lit.int .u8 by_).wf=true):
   PC Tryz.prog 3 [.sl 1 false (nums .i64 l),.int .i64 what,.int .i64 at_,.int .u8 by_] (.bool true):=by
 obtain⟨s,hs,cs⟩:=xF_ l
 obtain⟨w1,hw1,_⟩:=gb_ what 16777215 (by decide) (by decide)
 obtain⟨w3,hw3,_⟩:=gb_ at_ 16777215 (by decide) (by decide)
 have hk:=dw_ (k:=(w1:Int)) 3 (by omega)
 refine Sm.val (v:=true) (F:=fun r:Bool=>PC Tryz.prog 3 [.sl 1 false (nums .i64 l),.int .i64 what,.int .i64 at_,.int .u8 by_] (.bool r)) ?_
 refine df_ 14 gQ_ (by simp) puA (fun _ _=>trivial) ?_
 unfold dn_;refine bd ?_
 refine aO_ ?_;refine bF_ ?_
 refine aO_ ?_
 refine bF_ ?_
 refine aH_ (cs) ?_
 refine cY_ ?_
 refine aO_ ?_;repeat(first | refine bF_ ?_ | simp only[go_sem,hw1])
 generalize ishr .i64 (w1:Int) 3=k at *
 obtain⟨b,hb,cb⟩:=qR_ s.sto 24 hs.sto hs.sto.cfg.tt 9 k hk
 obtain⟨a,ha,ca⟩:=rq_ s.sto 24 hs.sto k hk
 obtain⟨g,hg,cg⟩:=qP_ s.sto.cfg.bals.length k (by have:=hs.sto.cfg.b1;omega)
 obtain⟨t,ht,ct⟩:=rR_ s.sto 24 hs.sto k hk
 have e0:=vq_ b hb.u
 have e1:=uZ_ a.a a.vals false rfl (Nat.le_trans ha.len (by decide)) ha.slot ha.ep
 have e2:=nN_ g.a g.fst.vals g.snd.vals false false ⟨hg.a1,hg.a2,rfl,Nat.le_trans hg.l1 (by decide)⟩ ⟨hg.b1,hg.b2,rfl,Nat.le_trans hg.l2 (by decide)⟩
 have e3:=vi_ t.a t.bals false ⟨ht.ep,rfl,ht.bals,Nat.le_trans ht.len (by decide)⟩
 have q0:=yp_ hb.u
 have q1:=DQ_ ha
 have q2:=EB_ hg
 have q3:=DV_ ht
 generalize kenc b=B0 at *
 generalize (if vErr a.vals 1024=0 then aenc a.a a.vals else [])=B1 at *
 generalize (if slErr g.fst.vals g.snd.vals=0 then slenc g.a g.fst.vals g.snd.vals else [])=B2 at *
 generalize (if 1024<t.bals.length then []else tenc t.a t.bals)=B3 at *
 refine aO_ ?_;refine bF_ ?_
 refine aO_ ?_
 refine gW_ (fun b:List UInt8=>b.length≤30000) (fun b=>[(11,.sl 1 false (bts b))]) ?_ (fun bs hbs=>?_)
 · repeat'(first | refine aJ_ ?_ | (refine aA_ (fun h=>?_) (fun h=>?_)<;>try(exact absurd h (by decide))) | refine bu_ (fun h=>?_) (fun h=>?_))
   · refine aH_ cb ?_
     refine aJ_ ?_
     refine aH_ e0 ?_
     refine aJ_ ?_
     exact⟨B0,by omega,by refine GC.mk' [] [0] (by simp) rfl (by simp) (by simp) evd evd⟩
   · refine aH_ ca ?_
     refine aJ_ ?_
     refine aH_ e1 ?_
     refine aJ_ ?_
     exact⟨B1,q1,by refine GC.mk' [] [0] (by simp) rfl (by simp) (by simp) evd evd⟩
   · refine aH_ cg ?_
     refine aJ_ ?_
     refine aH_ e2 ?_
     refine aJ_ ?_
     exact⟨B2,q2,by refine GC.mk' [] [0] (by simp) rfl (by simp) (by simp) evd evd⟩
   · refine aH_ ct ?_
     refine aJ_ ?_
     refine aH_ e3 ?_
     refine aJ_ ?_
     exact⟨B3,q3,by refine GC.mk' [] [0] (by simp) rfl (by simp) (by simp) evd evd⟩
 refine xU_ true rfl ?_
 clear e0 e1 e2 e3 cb ca cg ct
 (try simp only[as_,av_,List.set_cons_zero,List.set_cons_succ])
 by_cases h0:bs.length=0
 · have e0:((bs.length:Int)==0)=true:=by simp[h0]
   repeat(first | refine aa_ ?_ | simp only[go_sem,e0])
   refine ac_ ?_
   try refine aa_ ?_
   refine pcall fl_ ?_
   try refine aa_ ?_
   exact fin0
 · have e0:((bs.length:Int)==0)=false:=by rw[← Bool.not_eq_true,beq_iff_eq];omega
   obtain⟨q,hq,hq'⟩:=aU_ (k:=(w3:Int)) (n:=bs.length) (by omega) (by omega)
   obtain⟨u,hu⟩:=EF_ ((bs[q]'hq').toNat:Int) by_
   have cD:=ACall.lend (σ:=[.vec 1 (bts (bs.set q u))]) (args:=[.hs 1 0 0 bs.length]) (r:=.bool true) rfl (by
     have:=pc_RecordsDecodes (bs.set q u) (by rw[List.length_set];exact Nat.le_trans hbs (by decide))
     have ht2:List.take bs.length (bts (bs.set q u))=bts (bs.set q u):=List.take_of_length_le (by simp)
     (try simp only[go_sem,ht2,List.length_cons,List.length_nil,List.range_succ,List.range_zero,List.length_set])
     exact this)
   have cE:=pc_RecordsDecodes (bs.take q) (by rw[List.length_take];exact Nat.le_trans (Nat.min_le_right _ _) (Nat.le_trans hbs (by decide)))
   repeat(first | refine aa_ ?_ | simp only[go_sem,e0])
   refine ab_ ?_
   repeat(first | refine aa_ ?_ | simp only[go_sem,hw3,hq,eS_ hq',hu,EJ_])
   refine ocall [1] (cD) evd (Picks.mk' (by simp) evd) ?_;refine evg ?_
   repeat(first | refine aa_ ?_ | simp only[go_sem,hq])
   refine pcall cE ?_
   try refine aa_ ?_
   refine pcall fl_ ?_
   try refine aa_ ?_
   exact fin0
end Go.Proofs.YtipiipgpnkpejaaGreat
