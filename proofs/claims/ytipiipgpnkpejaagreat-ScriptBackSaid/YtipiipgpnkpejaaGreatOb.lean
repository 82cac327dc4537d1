/-
 The law ScriptExtra.
-/
import Derived.Test.YtipiipgpnkpejaaGreatU4
import Derived.Test.YtipiipgpnkpejaaGreatV2
import Derived.Test.YtipiipgpnkpejaaGreatW5
namespace Go.Proofs.YtipiipgpnkpejaaGreat
open Go Go.FH Go.RowKit
set_option linter.unusedVariables false
set_option linter.unusedSimpArgs false
set_option maxRecDepth 8000
set_option maxHeartbeats 4000000
theorem pc_ScriptExtra(l:List Int)(hl:l.length≤maxLen)(hwl:∀z∈l,(Lit.int .i64 z).wf=true)(kind:Int)(hwa:(Lit.int .i64 kind).wf=true)(what:Int)(hwt:(Lit.int .i64 what).wf=true):
 PC Tryz.prog 4 [.sl 1 false (aq_ .i64 l),.int .i64 kind,.int .i64 what] (.bool true):=by
 obtain⟨s,hs,cs⟩:=HD_ l;obtain⟨w1,hw1,_⟩:=iK_ what 16777215 (by decide) (by decide);have hk:=gB_ (k:=(w1:Int)) 4 (by omega);refine Sm.val (v:=true) (F:=fun r:Bool=>PC Tryz.prog 4 [.sl 1 false (aq_ .i64 l),.int .i64 kind,.int .i64 what] (.bool r)) ?_;refine fX_ 10 pj_ (by simp) puA (fun _ _=>trivial) ?_;unfold ih_;refine bd ?_;refine bv_ ?_;refine dm_ ?_;refine bv_ ?_;refine dm_ ?_;refine bE_ (cs) ?_;refine fY_ ?_;refine bv_ ?_;refine dm_ ?_;refine bv_ ?_;repeat(first|refine dm_ ?_|simp only[go_sem,hw1])
 generalize dW_ .i64 (w1:Int) 4=k at *;generalize jc_ .i64 kind 15=kd at *;obtain⟨b,hb,cb⟩:=zC_ s.sto 24 hs.sto hs.sto.cfg.tt 9 k hk;obtain⟨a,ha,ca⟩:=zB_ s.sto 24 hs.sto k hk;obtain⟨v,hv,cv⟩:=zD_ s 24 hs k hk;have pa:PuL (aX_ cI_):=(cB_ _).2 trivial;have pg:PuL (bI_ cz_):=(cU_ _).2 ⟨trivial,trivial⟩;have pt:PuL (aS_ ca_):=(cs_ _).2 trivial;refine bv_ ?_;refine dt_ hZ_ (fun B:Blk=>aI_ ⟨kd,B,cI_,cz_,ca_,bL_,0,0⟩) 1 [] ?_ (fun B hB=>?_)
 ·repeat'(first|refine bq_ ?_|(refine aT_ (fun h=>?_) (fun h=>?_)<;>try(exact absurd h (by decide)))|refine cD_ (fun h=>?_) (fun h=>?_))
  ·refine bE_ cb ?_;refine bq_ ?_;refine cZ_ (fun B:Blk=>aI_ ⟨kd,B,cI_,cz_,ca_,bL_,0,0⟩) 1 rfl hb.u (by exact Sn_ [] [0,1])
  ·refine cZ_ (fun B:Blk=>aI_ ⟨kd,B,cI_,cz_,ca_,bL_,0,0⟩) 1 rfl rP_.u (by exact Sn_ [] [0,1])
 (try simp only[aA_])
 refine bv_ ?_;refine dt_ (fun A:Att=>∃va:aW_,Ou_ va∧WkC (aX_ A) (aX_ va.a)∧PuL (aX_ A)∧(A=va.a∨A=cI_)) (fun A:Att=>aI_ ⟨kd,B,A,cz_,ca_,bL_,0,0⟩) 1 [] ?_ (fun A hA=>?_)
 ·repeat'(first|refine bq_ ?_|(refine aT_ (fun h=>?_) (fun h=>?_)<;>try(exact absurd h (by decide)))|refine cD_ (fun h=>?_) (fun h=>?_))
  ·refine bE_ ca ?_;refine bq_ ?_;refine cZ_ (fun A:Att=>aI_ ⟨kd,B,A,cz_,ca_,bL_,0,0⟩) 1 rfl ⟨a,ha,WkC.refl _,a.pul,.inl rfl⟩ (by exact Sn_ [] [0,1])
  ·refine cZ_ (fun A:Att=>aI_ ⟨kd,B,A,cz_,ca_,bL_,0,0⟩) 1 rfl ⟨tx_,nS_,bz_,pa,.inr rfl⟩ (by exact Sn_ [] [0,1])
 obtain⟨va,hva,hwA,hpA,hA⟩:=hA
 have e1:∀ρ,Att.map (ren ρ) A=A:=fun ρ=>by
  rcases hA with rfl|rfl
  ·exact va.map_ren ρ
  ·simp only[cI_,Att.map,ren,cj_]
 have e2:∀σ zs,Att.map (fz σ zs) A=A:=fun σ zs=>by
  rcases hA with rfl|rfl
  ·exact va.map_fz σ zs
  ·simp only[cI_,Att.map,fz,eL_]
 (try simp only[aA_])
 refine bv_ ?_;refine dt_ (fun V:Vdt=>U64 V.tag) (fun V:Vdt=>aI_ ⟨kd,B,A,cz_,ca_,V,0,0⟩) 1 [] ?_ (fun V hV=>?_)
 ·repeat'(first|refine bq_ ?_|(refine aT_ (fun h=>?_) (fun h=>?_)<;>try(exact absurd h (by decide)))|refine cD_ (fun h=>?_) (fun h=>?_))
  ·refine bE_ cv ?_;refine bq_ ?_;refine cZ_ (fun V:Vdt=>aI_ ⟨kd,B,A,cz_,ca_,V,0,0⟩) 1 rfl hv.tag (by refine GC.mk' [] [0,1] (by simp) rfl (by simp) (by simp) ?_ ?_<;>(simp only[go_sem,e1,e2];try exact evd))
  ·refine cZ_ (fun V:Vdt=>aI_ ⟨kd,B,A,cz_,ca_,V,0,0⟩) 1 rfl u0 (by refine GC.mk' [] [0,1] (by simp) rfl (by simp) (by simp) ?_ ?_<;>(simp only[go_sem,e1,e2];try exact evd))
 (try simp only[aA_])
 refine bv_ ?_;refine dt_ (fun _:Int×Int=>True) (fun x:Int×Int=>aI_ ⟨kd,B,A,cz_,ca_,V,x.1,x.2⟩) 1 [] ?_ (fun x _=>?_)
 ·repeat'(first|refine bq_ ?_|(refine aT_ (fun h=>?_) (fun h=>?_)<;>try(exact absurd h (by decide)))|refine cD_ (fun h=>?_) (fun h=>?_))
  ·exact⟨(_,_),trivial,by refine GC.mk' [] [0,1] (by simp) rfl (by simp) (by simp) ?_ ?_<;>(simp only[go_sem,e1,e2];try exact evd)⟩
  ·exact⟨(0,0),trivial,by refine GC.mk' [] [0,1] (by simp) rfl (by simp) (by simp) ?_ ?_<;>(simp only[go_sem,e1,e2];try exact evd)⟩
 obtain⟨w,p⟩:=x;refine ID_ true rfl ?_;(try simp only[aA_])
 have hu:OpU (toV ⟨kd,B,va,nv_,nw_,V,w,p⟩):=⟨hB,hva.slot,hva.ep,Nat.le_trans hva.len (by decide),⟨u0,u0,rfl,Nat.zero_le _⟩,⟨u0,u0,rfl,Nat.zero_le _⟩,⟨u0,rfl,fun n hn=>absurd hn (List.not_mem_nil),Nat.zero_le _⟩,hV⟩;have c1:=xq_ _ hu;have c2:=ns_ _ hu;have hW:WkC (aI_ ⟨kd,B,A,cz_,ca_,V,w,p⟩) (aI_ (opL (toV ⟨kd,B,va,nv_,nw_,V,w,p⟩))):=ch_ rfl rfl hwA bA_ bB_ rfl rfl rfl;have hP:PuL (aI_ ⟨kd,B,A,cz_,ca_,V,w,p⟩):=wx_ hpA pg pt;generalize vOp (toV ⟨kd,B,va,nv_,nw_,V,w,p⟩)=E at *;try refine aa_ ?_
 refine HW_ c1 ⟨Wk.agg hW,trivial⟩ ⟨hP,trivial⟩ ?_;try refine aa_ ?_
 refine HW_ c2 ⟨Wk.agg hW,trivial⟩ ⟨hP,trivial⟩ ?_;try refine aa_ ?_
 refine ay_ (dJ_) ?_;try refine aa_ ?_
 exact ah_
end Go.Proofs.YtipiipgpnkpejaaGreat
