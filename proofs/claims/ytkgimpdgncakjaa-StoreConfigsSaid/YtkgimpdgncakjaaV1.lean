/-
 My texts En, Eo, Ep, Eq, Fd, Fb, Fe, joined.
-/
import Derived.Test.YtkgimpdgncakjaaW8
import Derived.Test.YtkgimpdgncakjaaW9
import Derived.Test.YtkgimpdgncakjaaW3
namespace Go.Proofs.Ytkgimpdgncakjaa
open Go Go.FH Go.RowKit
set_option linter.unusedVariables false
set_option linter.unusedSimpArgs false
theorem Bz_(x:Tv)(ρ:Nat→Nat):(ox_ x).map (ren ρ)=ox_ x:=by simp only[ox_,Tab.map,ren,bx_]
theorem Dm_(x:Tv)(σ:St)(zs:List Nat):(ox_ x).map (fz σ zs)=ox_ x:=by simp only[ox_,Tab.map,fz,cf_]
theorem yU_(x:Tv):(ox_ x).good=true:=rfl
attribute [go_sem] Bz_ Dm_ yU_
theorem CH_(x:Bool):ok_ true (.bool x) (.tup [])=.bool x:=rfl
theorem CG_(y:Bool):ok_ false (.tup []) (.bool y)=.bool y:=rfl
attribute [go_sem] CH_ CG_
theorem jx_(l m:List Int)(c d:Bool)(hl:l.length≤140737488355328)(hm:m.length≤140737488355328):PC Try.prog 21 [.sl 1 c (au_ .i64 l),.sl 1 d (au_ .i64 m)] (.bool (decide (l=m))):=by
 refine PC.fact 6 me_ (by simp) ⟨bU_ _ _,bU_ _ _,trivial⟩ trivial ?_;unfold ho_;refine bd ?_;by_cases hlen:l.length=m.length
 ·have h0:((l.length:Int) != (m.length:Int))=false:=by rw[hlen];exact bne_self_eq_false _
  try refine aa_ ?_
  refine ac_ ?_ (by(try simp only[go_sem,h0]);try exact evd);try refine aa_ ?_
  refine lC_ (fun i:Nat=>⟨6,[.sl 1 c (au_ .i64 l),.sl 1 d (au_ .i64 m),.dead,.dead,.bool false,.int .i64 i],[]⟩) (fun _=>[]) (fun i=>l.length-i) (fun i=>i≤l.length∧l.take i=m.take i) [] 0 ⟨by omega,rfl⟩ evd rfl ?_;rintro i ⟨hi,hv⟩;try dsimp only
  try refine aa_ ?_
  refine dC_ evd (fun h=>?_) (fun h=>?_)
  ·have h1:i<l.length:=by simpa using h
   have h2:i<m.length:=by omega
   have hw:=ai_ h1 (by omega);have g1:=iF_ (k:=.i64) h1;have g2:=iF_ (k:=.i64) h2;by_cases he:l.getD i 0=m.getD i 0
   ·rw[he]at g1;repeat(first|refine aa_ ?_|simp only[go_sem,g1,g2])
    refine ac_ ?_;repeat(first|refine aa_ ?_|simp only[go_sem,hw])
    refine⟨i+1,⟨h1,?_⟩,by omega,rfl⟩;rw[List.take_add_one,List.take_add_one,hv,List.getElem?_eq_getElem h1,List.getElem?_eq_getElem h2];rw[List.getD_eq_getElem?_getD,List.getD_eq_getElem?_getD,List.getElem?_eq_getElem h1,List.getElem?_eq_getElem h2]at he;simp only[Option.getD_some]at he;rw[he]
   ·have he':(l.getD i 0 != m.getD i 0)=true:=by simpa using he
    have hne:decide (l=m)=false:=by rw[decide_eq_false_iff_not];intro hh;rw[hh]at he;exact he rfl
    rw[hne];repeat(first|refine aa_ ?_|simp only[go_sem,g1,g2])
    refine ab_ ?_ (by(try simp only[go_sem,he']);try exact evd);try refine aa_ ?_
    exact am_
  ·have h1:i=l.length:=by simp at h;omega
   subst h1
   have he:l=m:=by
    rw[List.take_length,hlen,List.take_length]at hv;exact hv
   subst he;rw[decide_eq_true rfl];try refine aa_ ?_
   exact am_
 ·have h0:((l.length:Int) != (m.length:Int))=true:=by simp;omega
  have hne:decide (l=m)=false:=by rw[decide_eq_false_iff_not];intro hh;rw[hh]at hlen;exact hlen rfl
  rw[hne];try refine aa_ ?_
  refine ab_ ?_ (by(try simp only[go_sem,h0]);try exact evd);try refine aa_ ?_
  exact am_
theorem jy_(l m:List Int)(c d:Bool)(hl:l.length≤140737488355328)(hm:m.length≤140737488355328):PC Try.prog 19 [.sl 1 c (au_ .u64 l),.sl 1 d (au_ .u64 m)] (.bool (decide (l=m))):=by
 refine PC.fact 6 jN_ (by simp) ⟨bU_ _ _,bU_ _ _,trivial⟩ trivial ?_;unfold fD_;refine bd ?_;by_cases hlen:l.length=m.length
 ·have h0:((l.length:Int) != (m.length:Int))=false:=by rw[hlen];exact bne_self_eq_false _
  try refine aa_ ?_
  refine ac_ ?_ (by(try simp only[go_sem,h0]);try exact evd);try refine aa_ ?_
  refine lC_ (fun i:Nat=>⟨6,[.sl 1 c (au_ .u64 l),.sl 1 d (au_ .u64 m),.dead,.dead,.bool false,.int .i64 i],[]⟩) (fun _=>[]) (fun i=>l.length-i) (fun i=>i≤l.length∧l.take i=m.take i) [] 0 ⟨by omega,rfl⟩ evd rfl ?_;rintro i ⟨hi,hv⟩;try dsimp only
  try refine aa_ ?_
  refine dC_ evd (fun h=>?_) (fun h=>?_)
  ·have h1:i<l.length:=by simpa using h
   have h2:i<m.length:=by omega
   have hw:=ai_ h1 (by omega);have g1:=iF_ (k:=.u64) h1;have g2:=iF_ (k:=.u64) h2;by_cases he:l.getD i 0=m.getD i 0
   ·rw[he]at g1;repeat(first|refine aa_ ?_|simp only[go_sem,g1,g2])
    refine ac_ ?_;repeat(first|refine aa_ ?_|simp only[go_sem,hw])
    refine⟨i+1,⟨h1,?_⟩,by omega,rfl⟩;rw[List.take_add_one,List.take_add_one,hv,List.getElem?_eq_getElem h1,List.getElem?_eq_getElem h2];rw[List.getD_eq_getElem?_getD,List.getD_eq_getElem?_getD,List.getElem?_eq_getElem h1,List.getElem?_eq_getElem h2]at he;simp only[Option.getD_some]at he;rw[he]
   ·have he':(l.getD i 0 != m.getD i 0)=true:=by simpa using he
    have hne:decide (l=m)=false:=by rw[decide_eq_false_iff_not];intro hh;rw[hh]at he;exact he rfl
    rw[hne];repeat(first|refine aa_ ?_|simp only[go_sem,g1,g2])
    refine ab_ ?_ (by(try simp only[go_sem,he']);try exact evd);try refine aa_ ?_
    exact am_
  ·have h1:i=l.length:=by simp at h;omega
   subst h1
   have he:l=m:=by
    rw[List.take_length,hlen,List.take_length]at hv;exact hv
   subst he;rw[decide_eq_true rfl];try refine aa_ ?_
   exact am_
 ·have h0:((l.length:Int) != (m.length:Int))=true:=by simp;omega
  have hne:decide (l=m)=false:=by rw[decide_eq_false_iff_not];intro hh;rw[hh]at hlen;exact hlen rfl
  rw[hne];try refine aa_ ?_
  refine ab_ ?_ (by(try simp only[go_sem,h0]);try exact evd);try refine aa_ ?_
  exact am_
theorem Bb_(x y:Att)(l m:List Int)(c d:Bool)(hx:x.vals=.sl 1 c (au_ .i64 l))(hy:y.vals=.sl 1 d (au_ .i64 m))(hl:l.length≤140737488355328)(hm:m.length≤140737488355328):
 PC Try.prog 24 [.agg (bg_ x),.agg (bg_ y)] (.bool (decide (x.slot=y.slot∧x.root=y.root∧x.target=y.target∧l=m))):=by
 refine PC.fact 5 hb_ (by simp) ⟨(fw_ x).2 (by rw[Att.Pure,hx];exact bU_ _ _),(fw_ y).2 (by rw[Att.Pure,hy];exact bU_ _ _),trivial⟩ trivial ?_;unfold dW_;refine bd ?_;have gx:x.good=true:=by rw[Att.good,hx];rfl
 have gy:y.good=true:=by rw[Att.good,hy];rfl
 by_cases h1:x.slot=y.slot
 ·have e1:(x.slot==y.slot)=true:=by simp[h1]
  by_cases h2:x.root=y.root
  ·have e2:decide (x.root=y.root)=true:=by simp[h2]
   by_cases h3:x.target=y.target
   ·have e3:decide (x.target=y.target)=true:=by simp[h3]
    repeat(first|refine aa_ ?_|simp only[go_sem,gx,gy,hx,hy,e1,e2,e3])
    refine FZ_ (jx_ l m c d hl hm) ?_
    refine⟨_,(by first|rfl|exact evd),.inl ?_⟩;refine evg ?_;try simp[h1,h2,h3]
   ·have e3:decide (x.target=y.target)=false:=by simp[h3]
    repeat(first|refine aa_ ?_|simp only[go_sem,gx,gy,hx,hy,e1,e2,e3])
    refine⟨_,(by first|rfl|exact evd),.inl ?_⟩;refine evg ?_;try simp[h1,h2,h3]
  ·have e2:decide (x.root=y.root)=false:=by simp[h2]
   repeat(first|refine aa_ ?_|simp only[go_sem,gx,gy,hx,hy,e1,e2])
   refine⟨_,(by first|rfl|exact evd),.inl ?_⟩;refine evg ?_;try simp[h1,h2]
 ·have e1:(x.slot==y.slot)=false:=by simp[h1]
  repeat(first|refine aa_ ?_|simp only[go_sem,gx,gy,hx,hy,e1])
  refine⟨_,(by first|rfl|exact evd),.inl ?_⟩;refine evg ?_;try simp[h1]
theorem Bc_(x y:Tab)(l m:List Int)(c d:Bool)(hx:x.bals=.sl 1 c (au_ .u64 l))(hy:y.bals=.sl 1 d (au_ .u64 m))(hl:l.length≤140737488355328)(hm:m.length≤140737488355328):
 PC Try.prog 49 [.agg (bj_ x),.agg (bj_ y)] (.bool (decide (x.cp=y.cp∧l=m))):=by
 refine PC.fact 5 lc_ (by simp) ⟨(dR_ x).2 (by rw[Tab.Pure,hx];exact bU_ _ _),(dR_ y).2 (by rw[Tab.Pure,hy];exact bU_ _ _),trivial⟩ trivial ?_;unfold gB_;refine bd ?_;have gx:x.good=true:=by rw[Tab.good,hx];rfl
 have gy:y.good=true:=by rw[Tab.good,hy];rfl
 by_cases h1:x.cp=y.cp
 ·have e1:decide (x.cp=y.cp)=true:=by simp[h1]
  repeat(first|refine aa_ ?_|simp only[go_sem,gx,gy,hx,hy,e1])
  refine FZ_ (jy_ l m c d hl hm) ?_
  refine⟨_,(by first|rfl|exact evd),.inl ?_⟩;refine evg ?_;try simp[h1]
 ·have e1:decide (x.cp=y.cp)=false:=by simp[h1]
  repeat(first|refine aa_ ?_|simp only[go_sem,gx,gy,hx,hy,e1])
  refine⟨_,(by first|rfl|exact evd),.inl ?_⟩;refine evg ?_;try simp[h1]
theorem zA_(x:Int×Rt×Cp×List Int)(ρ:Nat→Nat):(rd_ x).map (ren ρ)=rd_ x:=by simp only[rd_,Att.map,ren,bx_]
theorem BX_(x:Int×Rt×Cp×List Int)(σ:St)(zs:List Nat):(rd_ x).map (fz σ zs)=rd_ x:=by simp only[rd_,Att.map,fz,cf_]
theorem xj_(x:Int×Rt×Cp×List Int):(rd_ x).good=true:=rfl
theorem Bh_(x:Sv)(ρ:Nat→Nat):(pB_ x).map (ren ρ)=pB_ x:=by simp only[pB_,Slg.map,sR_]
theorem CJ_(x:Sv)(σ:St)(zs:List Nat):(pB_ x).map (fz σ zs)=pB_ x:=by simp only[pB_,Slg.map,wo_]
theorem yJ_(x:Sv):(pB_ x).good=true:=rfl
attribute [go_sem] zA_ BX_ xj_ Bh_ CJ_ yJ_
theorem U64.of{n:Int}(h:(Lit.int .u64 n).wf=true):U64 n:=⟨(bounds_u64 h).1,by have:=(bounds_u64 h).2;omega⟩
end Go.Proofs.Ytkgimpdgncakjaa
