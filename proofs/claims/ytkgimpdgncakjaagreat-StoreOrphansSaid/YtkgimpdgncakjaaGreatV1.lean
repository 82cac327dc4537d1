/-
 My texts En, Eo, Ep, Eq, Fd, Fb, Fe, joined.
-/
import Derived.Test.YtkgimpdgncakjaaGreatW8
import Derived.Test.YtkgimpdgncakjaaGreatW9
import Derived.Test.YtkgimpdgncakjaaGreatW3
namespace Go.Proofs.YtkgimpdgncakjaaGreat
open Go Go.FH Go.RowKit
set_option linter.unusedVariables false
set_option linter.unusedSimpArgs false
theorem Fg_(x:Tv)(ρ:Nat→Nat):(kR_ x).map (ren ρ)=kR_ x:=by simp only[kR_,Tab.map,ren,cw_]
theorem IA_(x:Tv)(σ:St)(zs:List Nat):(kR_ x).map (fz σ zs)=kR_ x:=by simp only[kR_,Tab.map,fz,dl_]
theorem Lk_(x:Tv):(kR_ x).good=true:=rfl
attribute [go_sem] Fg_ IA_ Lk_
theorem Py_(x:Bool):wx_ true (.bool x) (.tup [])=.bool x:=rfl
theorem Px_(y:Bool):wx_ false (.tup []) (.bool y)=.bool y:=rfl
attribute [go_sem] Py_ Px_
theorem jN_(l m:List Int)(c d:Bool)(hl:l.length≤140737488355328)(hm:m.length≤140737488355328):PC Tryz.prog 50 [.sl 1 c (aq_ .i64 l),.sl 1 d (aq_ .i64 m)] (.bool (decide (l=m))):=by
 refine PC.fact 6 tq_ (by simp) ⟨aN_ _ _,aN_ _ _,trivial⟩ trivial ?_;unfold ln_;refine bd ?_;by_cases hlen:l.length=m.length
 ·have h0:((l.length:Int) != (m.length:Int))=false:=by rw[hlen];exact bne_self_eq_false _
  try refine aa_ ?_
  refine ab_ ?_ (by(try simp only[go_sem,h0]);try exact evd);try refine aa_ ?_
  refine gE_ (fun i:Nat=>⟨6,[.sl 1 c (aq_ .i64 l),.sl 1 d (aq_ .i64 m),.dead,.dead,.bool false,.int .i64 i],[]⟩) (fun _=>[]) (fun i=>l.length-i) (fun i=>i≤l.length∧l.take i=m.take i) [] 0 ⟨by omega,rfl⟩ evd rfl ?_;rintro i ⟨hi,hv⟩;try dsimp only
  try refine aa_ ?_
  refine bL_ evd (fun h=>?_) (fun h=>?_)
  ·have h1:i<l.length:=by simpa using h
   have h2:i<m.length:=by omega
   have hw:=af_ h1 (by omega);have g1:=eo_ (k:=.i64) h1;have g2:=eo_ (k:=.i64) h2;by_cases he:l.getD i 0=m.getD i 0
   ·rw[he]at g1;repeat(first|refine aa_ ?_|simp only[go_sem,g1,g2])
    refine ab_ ?_;repeat(first|refine aa_ ?_|simp only[go_sem,hw])
    refine⟨i+1,⟨h1,?_⟩,by omega,rfl⟩;rw[List.take_add_one,List.take_add_one,hv,List.getElem?_eq_getElem h1,List.getElem?_eq_getElem h2];rw[List.getD_eq_getElem?_getD,List.getD_eq_getElem?_getD,List.getElem?_eq_getElem h1,List.getElem?_eq_getElem h2]at he;simp only[Option.getD_some]at he;rw[he]
   ·have he':(l.getD i 0 != m.getD i 0)=true:=by simpa using he
    have hne:decide (l=m)=false:=by rw[decide_eq_false_iff_not];intro hh;rw[hh]at he;exact he rfl
    rw[hne];repeat(first|refine aa_ ?_|simp only[go_sem,g1,g2])
    refine ac_ ?_ (by(try simp only[go_sem,he']);try exact evd);try refine aa_ ?_
    exact ag_
  ·have h1:i=l.length:=by simp at h;omega
   subst h1
   have he:l=m:=by
    rw[List.take_length,hlen,List.take_length]at hv;exact hv
   subst he;rw[decide_eq_true rfl];try refine aa_ ?_
   exact ag_
 ·have h0:((l.length:Int) != (m.length:Int))=true:=by simp;omega
  have hne:decide (l=m)=false:=by rw[decide_eq_false_iff_not];intro hh;rw[hh]at hlen;exact hlen rfl
  rw[hne];try refine aa_ ?_
  refine ac_ ?_ (by(try simp only[go_sem,h0]);try exact evd);try refine aa_ ?_
  exact ag_
theorem oP_(l m:List Int)(c d:Bool)(hl:l.length≤140737488355328)(hm:m.length≤140737488355328):PC Tryz.prog 48 [.sl 1 c (aq_ .u64 l),.sl 1 d (aq_ .u64 m)] (.bool (decide (l=m))):=by
 refine PC.fact 6 po_ (by simp) ⟨aN_ _ _,aN_ _ _,trivial⟩ trivial ?_;unfold iy_;refine bd ?_;by_cases hlen:l.length=m.length
 ·have h0:((l.length:Int) != (m.length:Int))=false:=by rw[hlen];exact bne_self_eq_false _
  try refine aa_ ?_
  refine ab_ ?_ (by(try simp only[go_sem,h0]);try exact evd);try refine aa_ ?_
  refine gE_ (fun i:Nat=>⟨6,[.sl 1 c (aq_ .u64 l),.sl 1 d (aq_ .u64 m),.dead,.dead,.bool false,.int .i64 i],[]⟩) (fun _=>[]) (fun i=>l.length-i) (fun i=>i≤l.length∧l.take i=m.take i) [] 0 ⟨by omega,rfl⟩ evd rfl ?_;rintro i ⟨hi,hv⟩;try dsimp only
  try refine aa_ ?_
  refine bL_ evd (fun h=>?_) (fun h=>?_)
  ·have h1:i<l.length:=by simpa using h
   have h2:i<m.length:=by omega
   have hw:=af_ h1 (by omega);have g1:=eo_ (k:=.u64) h1;have g2:=eo_ (k:=.u64) h2;by_cases he:l.getD i 0=m.getD i 0
   ·rw[he]at g1;repeat(first|refine aa_ ?_|simp only[go_sem,g1,g2])
    refine ab_ ?_;repeat(first|refine aa_ ?_|simp only[go_sem,hw])
    refine⟨i+1,⟨h1,?_⟩,by omega,rfl⟩;rw[List.take_add_one,List.take_add_one,hv,List.getElem?_eq_getElem h1,List.getElem?_eq_getElem h2];rw[List.getD_eq_getElem?_getD,List.getD_eq_getElem?_getD,List.getElem?_eq_getElem h1,List.getElem?_eq_getElem h2]at he;simp only[Option.getD_some]at he;rw[he]
   ·have he':(l.getD i 0 != m.getD i 0)=true:=by simpa using he
    have hne:decide (l=m)=false:=by rw[decide_eq_false_iff_not];intro hh;rw[hh]at he;exact he rfl
    rw[hne];repeat(first|refine aa_ ?_|simp only[go_sem,g1,g2])
    refine ac_ ?_ (by(try simp only[go_sem,he']);try exact evd);try refine aa_ ?_
    exact ag_
  ·have h1:i=l.length:=by simp at h;omega
   subst h1
   have he:l=m:=by
    rw[List.take_length,hlen,List.take_length]at hv;exact hv
   subst he;rw[decide_eq_true rfl];try refine aa_ ?_
   exact ag_
 ·have h0:((l.length:Int) != (m.length:Int))=true:=by simp;omega
  have hne:decide (l=m)=false:=by rw[decide_eq_false_iff_not];intro hh;rw[hh]at hlen;exact hlen rfl
  rw[hne];try refine aa_ ?_
  refine ac_ ?_ (by(try simp only[go_sem,h0]);try exact evd);try refine aa_ ?_
  exact ag_
theorem EM_(x y:Att)(l m:List Int)(c d:Bool)(hx:x.vals=.sl 1 c (aq_ .i64 l))(hy:y.vals=.sl 1 d (aq_ .i64 m))(hl:l.length≤140737488355328)(hm:m.length≤140737488355328):
 PC Tryz.prog 53 [.agg (bi_ x),.agg (bi_ y)] (.bool (decide (x.slot=y.slot∧x.root=y.root∧x.target=y.target∧l=m))):=by
 refine PC.fact 5 kK_ (by simp) ⟨(et_ x).2 (by rw[Att.Pure,hx];exact aN_ _ _),(et_ y).2 (by rw[Att.Pure,hy];exact aN_ _ _),trivial⟩ trivial ?_;unfold fW_;refine bd ?_;have gx:x.good=true:=by rw[Att.good,hx];rfl
 have gy:y.good=true:=by rw[Att.good,hy];rfl
 by_cases h1:x.slot=y.slot
 ·have e1:(x.slot==y.slot)=true:=by simp[h1]
  by_cases h2:x.root=y.root
  ·have e2:decide (x.root=y.root)=true:=by simp[h2]
   by_cases h3:x.target=y.target
   ·have e3:decide (x.target=y.target)=true:=by simp[h3]
    repeat(first|refine aa_ ?_|simp only[go_sem,gx,gy,hx,hy,e1,e2,e3])
    refine Sv_ (jN_ l m c d hl hm) ?_
    refine⟨_,(by first|rfl|exact evd),.inl ?_⟩;refine evg ?_;try simp[h1,h2,h3]
   ·have e3:decide (x.target=y.target)=false:=by simp[h3]
    repeat(first|refine aa_ ?_|simp only[go_sem,gx,gy,hx,hy,e1,e2,e3])
    refine⟨_,(by first|rfl|exact evd),.inl ?_⟩;refine evg ?_;try simp[h1,h2,h3]
  ·have e2:decide (x.root=y.root)=false:=by simp[h2]
   repeat(first|refine aa_ ?_|simp only[go_sem,gx,gy,hx,hy,e1,e2])
   refine⟨_,(by first|rfl|exact evd),.inl ?_⟩;refine evg ?_;try simp[h1,h2]
 ·have e1:(x.slot==y.slot)=false:=by simp[h1]
  repeat(first|refine aa_ ?_|simp only[go_sem,gx,gy,hx,hy,e1])
  refine⟨_,(by first|rfl|exact evd),.inl ?_⟩;refine evg ?_;try simp[h1]
theorem EN_(x y:Clm)(l m:List Int)(c d:Bool)(hx:x.vals=.sl 1 c (aq_ .i64 l))(hy:y.vals=.sl 1 d (aq_ .i64 m))(hl:l.length≤140737488355328)(hm:m.length≤140737488355328):
 PC Tryz.prog 266 [.agg (bO_ x),.agg (bO_ y)] (.bool (decide (x.src=y.src∧x.tgt=y.tgt∧x.root=y.root∧l=m))):=by
 refine PC.fact 5 rD_ (by simp) ⟨(jP_ x).2 (by rw[Clm.Pure,hx];exact aN_ _ _),(jP_ y).2 (by rw[Clm.Pure,hy];exact aN_ _ _),trivial⟩ trivial ?_;unfold kc_;refine bd ?_;have gx:x.good=true:=by rw[Clm.good,hx];rfl
 have gy:y.good=true:=by rw[Clm.good,hy];rfl
 by_cases h1:x.src=y.src
 ·have e1:(x.src==y.src)=true:=by simp[h1]
  by_cases h2:x.tgt=y.tgt
  ·have e2:(x.tgt==y.tgt)=true:=by simp[h2]
   by_cases h3:x.root=y.root
   ·have e3:decide (x.root=y.root)=true:=by simp[h3]
    repeat(first|refine aa_ ?_|simp only[go_sem,gx,gy,hx,hy,e1,e2,e3])
    refine Sv_ (jN_ l m c d hl hm) ?_
    refine⟨_,(by first|rfl|exact evd),.inl ?_⟩;refine evg ?_;try simp[h1,h2,h3]
   ·have e3:decide (x.root=y.root)=false:=by simp[h3]
    repeat(first|refine aa_ ?_|simp only[go_sem,gx,gy,hx,hy,e1,e2,e3])
    refine⟨_,(by first|rfl|exact evd),.inl ?_⟩;refine evg ?_;try simp[h1,h2,h3]
  ·have e2:(x.tgt==y.tgt)=false:=by simp[h2]
   repeat(first|refine aa_ ?_|simp only[go_sem,gx,gy,hx,hy,e1,e2])
   refine⟨_,(by first|rfl|exact evd),.inl ?_⟩;refine evg ?_;try simp[h1,h2]
 ·have e1:(x.src==y.src)=false:=by simp[h1]
  repeat(first|refine aa_ ?_|simp only[go_sem,gx,gy,hx,hy,e1])
  refine⟨_,(by first|rfl|exact evd),.inl ?_⟩;refine evg ?_;try simp[h1]
theorem EO_(x y:Tab)(l m:List Int)(c d:Bool)(hx:x.bals=.sl 1 c (aq_ .u64 l))(hy:y.bals=.sl 1 d (aq_ .u64 m))(hl:l.length≤140737488355328)(hm:m.length≤140737488355328):
 PC Tryz.prog 130 [.agg (bb_ x),.agg (bb_ y)] (.bool (decide (x.cp=y.cp∧l=m))):=by
 refine PC.fact 5 rE_ (by simp) ⟨(dX_ x).2 (by rw[Tab.Pure,hx];exact aN_ _ _),(dX_ y).2 (by rw[Tab.Pure,hy];exact aN_ _ _),trivial⟩ trivial ?_;unfold kd_;refine bd ?_;have gx:x.good=true:=by rw[Tab.good,hx];rfl
 have gy:y.good=true:=by rw[Tab.good,hy];rfl
 by_cases h1:x.cp=y.cp
 ·have e1:decide (x.cp=y.cp)=true:=by simp[h1]
  repeat(first|refine aa_ ?_|simp only[go_sem,gx,gy,hx,hy,e1])
  refine Sv_ (oP_ l m c d hl hm) ?_
  refine⟨_,(by first|rfl|exact evd),.inl ?_⟩;refine evg ?_;try simp[h1]
 ·have e1:decide (x.cp=y.cp)=false:=by simp[h1]
  repeat(first|refine aa_ ?_|simp only[go_sem,gx,gy,hx,hy,e1])
  refine⟨_,(by first|rfl|exact evd),.inl ?_⟩;refine evg ?_;try simp[h1]
theorem NK_(x y:Slg)(l1 l2 m1 m2:List Int)(c1 c2 d1 d2:Bool)(hx1:x.fst.vals=.sl 1 c1 (aq_ .i64 l1))(hx2:x.snd.vals=.sl 1 c2 (aq_ .i64 l2))(hy1:y.fst.vals=.sl 1 d1 (aq_ .i64 m1))(hy2:y.snd.vals=.sl 1 d2 (aq_ .i64 m2))
 (hl1:l1.length≤140737488355328) (hl2:l2.length≤140737488355328) (hm1:m1.length≤140737488355328) (hm2:m2.length≤140737488355328):
 PC Tryz.prog 244 [.agg (cs_ x),.agg (cs_ y)] (.bool (decide (x.fst.src=y.fst.src∧x.fst.tgt=y.fst.tgt∧x.fst.root=y.fst.root∧l1=m1)&&decide (x.snd.src=y.snd.src∧x.snd.tgt=y.snd.tgt∧x.snd.root=y.snd.root∧l2=m2))):=by
 have px1:x.fst.Pure:=by rw[Clm.Pure,hx1];exact aN_ _ _
 have px2:x.snd.Pure:=by rw[Clm.Pure,hx2];exact aN_ _ _
 have py1:y.fst.Pure:=by rw[Clm.Pure,hy1];exact aN_ _ _
 have py2:y.snd.Pure:=by rw[Clm.Pure,hy2];exact aN_ _ _
 have gx1:x.fst.good=true:=by rw[Clm.good,hx1];rfl
 have gx2:x.snd.good=true:=by rw[Clm.good,hx2];rfl
 have gy1:y.fst.good=true:=by rw[Clm.good,hy1];rfl
 have gy2:y.snd.good=true:=by rw[Clm.good,hy2];rfl
 have gx:x.good=true:=by rw[Slg.good,gx1,gx2];rfl
 have gy:y.good=true:=by rw[Slg.good,gy1,gy2];rfl
 refine PC.fact 5 nN_ (by simp) ⟨(fN_ x).2 ⟨px1,px2⟩,(fN_ y).2 ⟨py1,py2⟩,trivial⟩ trivial ?_;unfold hH_;refine bd ?_;have k1:=EN_ x.fst y.fst l1 m1 c1 d1 hx1 hy1 hl1 hm1;have k2:=EN_ x.snd y.snd l2 m2 c2 d2 hx2 hy2 hl2 hm2;generalize decide (x.fst.src=y.fst.src∧x.fst.tgt=y.fst.tgt∧x.fst.root=y.fst.root∧l1=m1)=b1 at *;generalize decide (x.snd.src=y.snd.src∧x.snd.tgt=y.snd.tgt∧x.snd.root=y.snd.root∧l2=m2)=b2 at *;cases b1
 ·repeat(first|refine aa_ ?_|simp only[go_sem,gx,gy,gx1,gx2,gy1,gy2])
  refine ae_ k1 ?_;repeat(first|refine aa_ ?_|simp only[go_sem,gx,gy,gx1,gx2,gy1,gy2])
  exact ag_
 ·repeat(first|refine aa_ ?_|simp only[go_sem,gx,gy,gx1,gx2,gy1,gy2])
  refine ae_ k1 ?_;repeat(first|refine aa_ ?_|simp only[go_sem,gx,gy,gx1,gx2,gy1,gy2])
  refine Sv_ k2 ?_
  exact ag_
theorem Db_(x:Int×Rt×Cp×List Int)(ρ:Nat→Nat):(lQ_ x).map (ren ρ)=lQ_ x:=by simp only[lQ_,Att.map,ren,cw_]
theorem HL_(x:Int×Rt×Cp×List Int)(σ:St)(zs:List Nat):(lQ_ x).map (fz σ zs)=lQ_ x:=by simp only[lQ_,Att.map,fz,dl_]
theorem IU_(x:Int×Rt×Cp×List Int):(lQ_ x).good=true:=rfl
theorem ET_(x:Sv)(ρ:Nat→Nat):(lJ_ x).map (ren ρ)=lJ_ x:=by simp only[lJ_,Slg.map,Dj_]
theorem Ir_(x:Sv)(σ:St)(zs:List Nat):(lJ_ x).map (fz σ zs)=lJ_ x:=by simp only[lJ_,Slg.map,HM_]
theorem KZ_(x:Sv):(lJ_ x).good=true:=rfl
attribute [go_sem] Db_ HL_ IU_ ET_ Ir_ KZ_
theorem U64.of{n:Int}(h:(Lit.int .u64 n).wf=true):U64 n:=⟨(bounds_u64 h).1,by have:=(bounds_u64 h).2;omega⟩
end Go.Proofs.YtkgimpdgncakjaaGreat
