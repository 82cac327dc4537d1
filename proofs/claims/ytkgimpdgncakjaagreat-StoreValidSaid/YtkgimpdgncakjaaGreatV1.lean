/-
 My texts En, Eo, Ep, Eq, Fd, Fb, Fe, joined.
-/
import Derived.Test.YtkgimpdgncakjaaGreatW8
import Derived.Test.YtkgimpdgncakjaaGreatW9
import Derived.Test.YtkgimpdgncakjaaGreatW3
namespace Go.Proofs.YtkgimpdgncakjaaGreat
open Go Go.FH Go.RowKit
set_option linter.unusedVariables false
set_option linter.unusedSimpArgs false
theorem EY_(x:Tv)(ρ:Nat→Nat):(kZ_ x).map (ren ρ)=kZ_ x:=by simp only[kZ_,Tab.map,ren,cC_]
theorem Iw_(x:Tv)(σ:St)(zs:List Nat):(kZ_ x).map (fz σ zs)=kZ_ x:=by simp only[kZ_,Tab.map,fz,ds_]
theorem Ld_(x:Tv):(kZ_ x).good=true:=rfl
attribute [go_sem] EY_ Iw_ Ld_
theorem Pn_(x:Bool):wp_ true (.bool x) (.tup [])=.bool x:=rfl
theorem Pm_(y:Bool):wp_ false (.tup []) (.bool y)=.bool y:=rfl
attribute [go_sem] Pn_ Pm_
theorem oX_(l m:List Int)(c d:Bool)(hl:l.length≤140737488355328)(hm:m.length≤140737488355328):PC Tryz.prog 50 [.sl 1 c (aq_ .i64 l),.sl 1 d (aq_ .i64 m)] (.bool (decide (l=m))):=by
 refine PC.fact 6 tm_ (by simp) ⟨aM_ _ _,aM_ _ _,trivial⟩ trivial ?_;unfold lu_;refine bd ?_;by_cases hlen:l.length=m.length
 ·have h0:((l.length:Int) != (m.length:Int))=false:=by rw[hlen];exact bne_self_eq_false _
  try refine aa_ ?_
  refine ab_ ?_ (by(try simp only[go_sem,h0]);try exact evd);try refine aa_ ?_
  refine gO_ (fun i:Nat=>⟨6,[.sl 1 c (aq_ .i64 l),.sl 1 d (aq_ .i64 m),.dead,.dead,.bool false,.int .i64 i],[]⟩) (fun _=>[]) (fun i=>l.length-i) (fun i=>i≤l.length∧l.take i=m.take i) [] 0 ⟨by omega,rfl⟩ evd rfl ?_;rintro i ⟨hi,hv⟩;try dsimp only
  try refine aa_ ?_
  refine bM_ evd (fun h=>?_) (fun h=>?_)
  ·have h1:i<l.length:=by simpa using h
   have h2:i<m.length:=by omega
   have hw:=ag_ h1 (by omega);have g1:=er_ (k:=.i64) h1;have g2:=er_ (k:=.i64) h2;by_cases he:l.getD i 0=m.getD i 0
   ·rw[he]at g1;repeat(first|refine aa_ ?_|simp only[go_sem,g1,g2])
    refine ab_ ?_;repeat(first|refine aa_ ?_|simp only[go_sem,hw])
    refine⟨i+1,⟨h1,?_⟩,by omega,rfl⟩;rw[List.take_add_one,List.take_add_one,hv,List.getElem?_eq_getElem h1,List.getElem?_eq_getElem h2];rw[List.getD_eq_getElem?_getD,List.getD_eq_getElem?_getD,List.getElem?_eq_getElem h1,List.getElem?_eq_getElem h2]at he;simp only[Option.getD_some]at he;rw[he]
   ·have he':(l.getD i 0 != m.getD i 0)=true:=by simpa using he
    have hne:decide (l=m)=false:=by rw[decide_eq_false_iff_not];intro hh;rw[hh]at he;exact he rfl
    rw[hne];repeat(first|refine aa_ ?_|simp only[go_sem,g1,g2])
    refine ac_ ?_ (by(try simp only[go_sem,he']);try exact evd);try refine aa_ ?_
    exact ae_
  ·have h1:i=l.length:=by simp at h;omega
   subst h1
   have he:l=m:=by
    rw[List.take_length,hlen,List.take_length]at hv;exact hv
   subst he;rw[decide_eq_true rfl];try refine aa_ ?_
   exact ae_
 ·have h0:((l.length:Int) != (m.length:Int))=true:=by simp;omega
  have hne:decide (l=m)=false:=by rw[decide_eq_false_iff_not];intro hh;rw[hh]at hlen;exact hlen rfl
  rw[hne];try refine aa_ ?_
  refine ac_ ?_ (by(try simp only[go_sem,h0]);try exact evd);try refine aa_ ?_
  exact ae_
theorem yh_(l m:List Int)(c d:Bool)(hl:l.length≤140737488355328)(hm:m.length≤140737488355328):PC Tryz.prog 48 [.sl 1 c (aq_ .u64 l),.sl 1 d (aq_ .u64 m)] (.bool (decide (l=m))):=by
 refine PC.fact 6 pt_ (by simp) ⟨aM_ _ _,aM_ _ _,trivial⟩ trivial ?_;unfold iJ_;refine bd ?_;by_cases hlen:l.length=m.length
 ·have h0:((l.length:Int) != (m.length:Int))=false:=by rw[hlen];exact bne_self_eq_false _
  try refine aa_ ?_
  refine ab_ ?_ (by(try simp only[go_sem,h0]);try exact evd);try refine aa_ ?_
  refine gO_ (fun i:Nat=>⟨6,[.sl 1 c (aq_ .u64 l),.sl 1 d (aq_ .u64 m),.dead,.dead,.bool false,.int .i64 i],[]⟩) (fun _=>[]) (fun i=>l.length-i) (fun i=>i≤l.length∧l.take i=m.take i) [] 0 ⟨by omega,rfl⟩ evd rfl ?_;rintro i ⟨hi,hv⟩;try dsimp only
  try refine aa_ ?_
  refine bM_ evd (fun h=>?_) (fun h=>?_)
  ·have h1:i<l.length:=by simpa using h
   have h2:i<m.length:=by omega
   have hw:=ag_ h1 (by omega);have g1:=er_ (k:=.u64) h1;have g2:=er_ (k:=.u64) h2;by_cases he:l.getD i 0=m.getD i 0
   ·rw[he]at g1;repeat(first|refine aa_ ?_|simp only[go_sem,g1,g2])
    refine ab_ ?_;repeat(first|refine aa_ ?_|simp only[go_sem,hw])
    refine⟨i+1,⟨h1,?_⟩,by omega,rfl⟩;rw[List.take_add_one,List.take_add_one,hv,List.getElem?_eq_getElem h1,List.getElem?_eq_getElem h2];rw[List.getD_eq_getElem?_getD,List.getD_eq_getElem?_getD,List.getElem?_eq_getElem h1,List.getElem?_eq_getElem h2]at he;simp only[Option.getD_some]at he;rw[he]
   ·have he':(l.getD i 0 != m.getD i 0)=true:=by simpa using he
    have hne:decide (l=m)=false:=by rw[decide_eq_false_iff_not];intro hh;rw[hh]at he;exact he rfl
    rw[hne];repeat(first|refine aa_ ?_|simp only[go_sem,g1,g2])
    refine ac_ ?_ (by(try simp only[go_sem,he']);try exact evd);try refine aa_ ?_
    exact ae_
  ·have h1:i=l.length:=by simp at h;omega
   subst h1
   have he:l=m:=by
    rw[List.take_length,hlen,List.take_length]at hv;exact hv
   subst he;rw[decide_eq_true rfl];try refine aa_ ?_
   exact ae_
 ·have h0:((l.length:Int) != (m.length:Int))=true:=by simp;omega
  have hne:decide (l=m)=false:=by rw[decide_eq_false_iff_not];intro hh;rw[hh]at hlen;exact hlen rfl
  rw[hne];try refine aa_ ?_
  refine ac_ ?_ (by(try simp only[go_sem,h0]);try exact evd);try refine aa_ ?_
  exact ae_
theorem Nt_(x y:Att)(l m:List Int)(c d:Bool)(hx:x.vals=.sl 1 c (aq_ .i64 l))(hy:y.vals=.sl 1 d (aq_ .i64 m))(hl:l.length≤140737488355328)(hm:m.length≤140737488355328):
 PC Tryz.prog 53 [.agg (bl_ x),.agg (bl_ y)] (.bool (decide (x.slot=y.slot∧x.root=y.root∧x.target=y.target∧l=m))):=by
 refine PC.fact 5 kQ_ (by simp) ⟨(ex_ x).2 (by rw[Att.Pure,hx];exact aM_ _ _),(ex_ y).2 (by rw[Att.Pure,hy];exact aM_ _ _),trivial⟩ trivial ?_;unfold gh_;refine bd ?_;have gx:x.good=true:=by rw[Att.good,hx];rfl
 have gy:y.good=true:=by rw[Att.good,hy];rfl
 by_cases h1:x.slot=y.slot
 ·have e1:(x.slot==y.slot)=true:=by simp[h1]
  by_cases h2:x.root=y.root
  ·have e2:decide (x.root=y.root)=true:=by simp[h2]
   by_cases h3:x.target=y.target
   ·have e3:decide (x.target=y.target)=true:=by simp[h3]
    repeat(first|refine aa_ ?_|simp only[go_sem,gx,gy,hx,hy,e1,e2,e3])
    refine So_ (oX_ l m c d hl hm) ?_
    refine⟨_,(by first|rfl|exact evd),.inl ?_⟩;refine evg ?_;try simp[h1,h2,h3]
   ·have e3:decide (x.target=y.target)=false:=by simp[h3]
    repeat(first|refine aa_ ?_|simp only[go_sem,gx,gy,hx,hy,e1,e2,e3])
    refine⟨_,(by first|rfl|exact evd),.inl ?_⟩;refine evg ?_;try simp[h1,h2,h3]
  ·have e2:decide (x.root=y.root)=false:=by simp[h2]
   repeat(first|refine aa_ ?_|simp only[go_sem,gx,gy,hx,hy,e1,e2])
   refine⟨_,(by first|rfl|exact evd),.inl ?_⟩;refine evg ?_;try simp[h1,h2]
 ·have e1:(x.slot==y.slot)=false:=by simp[h1]
  repeat(first|refine aa_ ?_|simp only[go_sem,gx,gy,hx,hy,e1])
  refine⟨_,(by first|rfl|exact evd),.inl ?_⟩;refine evg ?_;try simp[h1]
theorem EF_(x y:Clm)(l m:List Int)(c d:Bool)(hx:x.vals=.sl 1 c (aq_ .i64 l))(hy:y.vals=.sl 1 d (aq_ .i64 m))(hl:l.length≤140737488355328)(hm:m.length≤140737488355328):
 PC Tryz.prog 266 [.agg (bQ_ x),.agg (bQ_ y)] (.bool (decide (x.src=y.src∧x.tgt=y.tgt∧x.root=y.root∧l=m))):=by
 refine PC.fact 5 rF_ (by simp) ⟨(jV_ x).2 (by rw[Clm.Pure,hx];exact aM_ _ _),(jV_ y).2 (by rw[Clm.Pure,hy];exact aM_ _ _),trivial⟩ trivial ?_;unfold kj_;refine bd ?_;have gx:x.good=true:=by rw[Clm.good,hx];rfl
 have gy:y.good=true:=by rw[Clm.good,hy];rfl
 by_cases h1:x.src=y.src
 ·have e1:(x.src==y.src)=true:=by simp[h1]
  by_cases h2:x.tgt=y.tgt
  ·have e2:(x.tgt==y.tgt)=true:=by simp[h2]
   by_cases h3:x.root=y.root
   ·have e3:decide (x.root=y.root)=true:=by simp[h3]
    repeat(first|refine aa_ ?_|simp only[go_sem,gx,gy,hx,hy,e1,e2,e3])
    refine So_ (oX_ l m c d hl hm) ?_
    refine⟨_,(by first|rfl|exact evd),.inl ?_⟩;refine evg ?_;try simp[h1,h2,h3]
   ·have e3:decide (x.root=y.root)=false:=by simp[h3]
    repeat(first|refine aa_ ?_|simp only[go_sem,gx,gy,hx,hy,e1,e2,e3])
    refine⟨_,(by first|rfl|exact evd),.inl ?_⟩;refine evg ?_;try simp[h1,h2,h3]
  ·have e2:(x.tgt==y.tgt)=false:=by simp[h2]
   repeat(first|refine aa_ ?_|simp only[go_sem,gx,gy,hx,hy,e1,e2])
   refine⟨_,(by first|rfl|exact evd),.inl ?_⟩;refine evg ?_;try simp[h1,h2]
 ·have e1:(x.src==y.src)=false:=by simp[h1]
  repeat(first|refine aa_ ?_|simp only[go_sem,gx,gy,hx,hy,e1])
  refine⟨_,(by first|rfl|exact evd),.inl ?_⟩;refine evg ?_;try simp[h1]
theorem Nv_(x y:Tab)(l m:List Int)(c d:Bool)(hx:x.bals=.sl 1 c (aq_ .u64 l))(hy:y.bals=.sl 1 d (aq_ .u64 m))(hl:l.length≤140737488355328)(hm:m.length≤140737488355328):
 PC Tryz.prog 130 [.agg (aY_ x),.agg (aY_ y)] (.bool (decide (x.cp=y.cp∧l=m))):=by
 refine PC.fact 5 rG_ (by simp) ⟨(ec_ x).2 (by rw[Tab.Pure,hx];exact aM_ _ _),(ec_ y).2 (by rw[Tab.Pure,hy];exact aM_ _ _),trivial⟩ trivial ?_;unfold kk_;refine bd ?_;have gx:x.good=true:=by rw[Tab.good,hx];rfl
 have gy:y.good=true:=by rw[Tab.good,hy];rfl
 by_cases h1:x.cp=y.cp
 ·have e1:decide (x.cp=y.cp)=true:=by simp[h1]
  repeat(first|refine aa_ ?_|simp only[go_sem,gx,gy,hx,hy,e1])
  refine So_ (yh_ l m c d hl hm) ?_
  refine⟨_,(by first|rfl|exact evd),.inl ?_⟩;refine evg ?_;try simp[h1]
 ·have e1:decide (x.cp=y.cp)=false:=by simp[h1]
  repeat(first|refine aa_ ?_|simp only[go_sem,gx,gy,hx,hy,e1])
  refine⟨_,(by first|rfl|exact evd),.inl ?_⟩;refine evg ?_;try simp[h1]
theorem Nu_(x y:Slg)(l1 l2 m1 m2:List Int)(c1 c2 d1 d2:Bool)(hx1:x.fst.vals=.sl 1 c1 (aq_ .i64 l1))(hx2:x.snd.vals=.sl 1 c2 (aq_ .i64 l2))(hy1:y.fst.vals=.sl 1 d1 (aq_ .i64 m1))(hy2:y.snd.vals=.sl 1 d2 (aq_ .i64 m2))
 (hl1:l1.length≤140737488355328) (hl2:l2.length≤140737488355328) (hm1:m1.length≤140737488355328) (hm2:m2.length≤140737488355328):
 PC Tryz.prog 244 [.agg (cy_ x),.agg (cy_ y)] (.bool (decide (x.fst.src=y.fst.src∧x.fst.tgt=y.fst.tgt∧x.fst.root=y.fst.root∧l1=m1)&&decide (x.snd.src=y.snd.src∧x.snd.tgt=y.snd.tgt∧x.snd.root=y.snd.root∧l2=m2))):=by
 have px1:x.fst.Pure:=by rw[Clm.Pure,hx1];exact aM_ _ _
 have px2:x.snd.Pure:=by rw[Clm.Pure,hx2];exact aM_ _ _
 have py1:y.fst.Pure:=by rw[Clm.Pure,hy1];exact aM_ _ _
 have py2:y.snd.Pure:=by rw[Clm.Pure,hy2];exact aM_ _ _
 have gx1:x.fst.good=true:=by rw[Clm.good,hx1];rfl
 have gx2:x.snd.good=true:=by rw[Clm.good,hx2];rfl
 have gy1:y.fst.good=true:=by rw[Clm.good,hy1];rfl
 have gy2:y.snd.good=true:=by rw[Clm.good,hy2];rfl
 have gx:x.good=true:=by rw[Slg.good,gx1,gx2];rfl
 have gy:y.good=true:=by rw[Slg.good,gy1,gy2];rfl
 refine PC.fact 5 nO_ (by simp) ⟨(fY_ x).2 ⟨px1,px2⟩,(fY_ y).2 ⟨py1,py2⟩,trivial⟩ trivial ?_;unfold hP_;refine bd ?_;have k1:=EF_ x.fst y.fst l1 m1 c1 d1 hx1 hy1 hl1 hm1;have k2:=EF_ x.snd y.snd l2 m2 c2 d2 hx2 hy2 hl2 hm2;generalize decide (x.fst.src=y.fst.src∧x.fst.tgt=y.fst.tgt∧x.fst.root=y.fst.root∧l1=m1)=b1 at *;generalize decide (x.snd.src=y.snd.src∧x.snd.tgt=y.snd.tgt∧x.snd.root=y.snd.root∧l2=m2)=b2 at *;cases b1
 ·repeat(first|refine aa_ ?_|simp only[go_sem,gx,gy,gx1,gx2,gy1,gy2])
  refine aj_ k1 ?_;repeat(first|refine aa_ ?_|simp only[go_sem,gx,gy,gx1,gx2,gy1,gy2])
  exact ae_
 ·repeat(first|refine aa_ ?_|simp only[go_sem,gx,gy,gx1,gx2,gy1,gy2])
  refine aj_ k1 ?_;repeat(first|refine aa_ ?_|simp only[go_sem,gx,gy,gx1,gx2,gy1,gy2])
  refine So_ k2 ?_
  exact ae_
theorem CV_(x:Int×Rt×Cp×List Int)(ρ:Nat→Nat):(lU_ x).map (ren ρ)=lU_ x:=by simp only[lU_,Att.map,ren,cC_]
theorem HA_(x:Int×Rt×Cp×List Int)(σ:St)(zs:List Nat):(lU_ x).map (fz σ zs)=lU_ x:=by simp only[lU_,Att.map,fz,ds_]
theorem IQ_(x:Int×Rt×Cp×List Int):(lU_ x).good=true:=rfl
theorem EK_(x:Sv)(ρ:Nat→Nat):(lN_ x).map (ren ρ)=lN_ x:=by simp only[lN_,Slg.map,De_]
theorem In_(x:Sv)(σ:St)(zs:List Nat):(lN_ x).map (fz σ zs)=lN_ x:=by simp only[lN_,Slg.map,HB_]
theorem KQ_(x:Sv):(lN_ x).good=true:=rfl
attribute [go_sem] CV_ HA_ IQ_ EK_ In_ KQ_
theorem U64.of{n:Int}(h:(Lit.int .u64 n).wf=true):U64 n:=⟨(bounds_u64 h).1,by have:=(bounds_u64 h).2;omega⟩
end Go.Proofs.YtkgimpdgncakjaaGreat
