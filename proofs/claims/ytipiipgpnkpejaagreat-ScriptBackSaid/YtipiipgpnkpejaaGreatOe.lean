/-
 Scripts are read back: operations and scripts.
-/
import Derived.Test.YtipiipgpnkpejaaGreatOd
import Derived.Test.YtipiipgpnkpejaaGreatV2
namespace Go.Proofs.YtipiipgpnkpejaaGreat
open Go Go.FH
set_option linter.unusedVariables false
set_option linter.unusedSimpArgs false
theorem KO_{x y:OpV}(h:no_ x y=true):x=y:=by
 obtain⟨a1,a2,⟨p1,p2,p3,p4⟩,⟨⟨q1,q2,q3,q4⟩,⟨q5,q6,q7,q8⟩⟩,⟨t1,t2⟩,a6,a7,a8⟩:=x;obtain⟨b1,b2,⟨r1,r2,r3,r4⟩,⟨⟨s1,s2,s3,s4⟩,⟨s5,s6,s7,s8⟩⟩,⟨u1,u2⟩,b6,b7,b8⟩:=y;simp only[no_,CC_,sJ_,CN_,Bool.and_eq_true,decide_eq_true_eq,beq_iff_eq]at h;obtain⟨h1,h2,⟨h3,h4,h5,h6⟩,⟨⟨h7,h8,h9,h10⟩,⟨h11,h12,h13,h14⟩⟩,⟨h15,h16⟩,h17,h18,h19⟩:=h;subst h1 h2 h3 h4 h5 h6 h7 h8 h9 h10 h11 h12 h13 h14 h15 h16 h17 h18 h19;rfl
theorem OV_{x:OpV}(h:ud_ x=true):mask x=x:=(KO_ (by rw[Ak_];exact h)).symm
theorem iZ_(e t:List UInt8)(n:Nat)(hn:n=(e++t).length-t.length):tkl (e++t) n 0=t:=by
 subst hn;unfold tkl;rw[if_pos rfl,List.length_append,Nat.add_sub_cancel,List.drop_left]
theorem EY_{x:OpV}(hk6:x.kind≤6)(hv:vOp x=0)(hu:OpU x)(hd:∀n∈x.blk.diff.1,0≤n∧n<18446744073709551616)(hp:∀n∈x.blk.pdiff.1,0≤n∧n<18446744073709551616)(t:List UInt8):rOp (hn_ x++t)=(x,t,0):=by
 have hk:=nu_ hv
 have hf:(fld x).2=0∧ud_ x=true:=by
  unfold vOp at hv;rw[if_neg (by omega)]at hv;split at hv
  ·rename_i h;exact absurd hv h
  ·rename_i h;split at hv
   ·rename_i h2;exact⟨by simpa using h,h2⟩
   ·simp at hv
 obtain⟨hf1,hid⟩:=hf;have hm:=OV_ hid;have hku:=nI_ (n:=x.kind) (m:=8) (by omega) (by omega) (by decide) ((fld x).1++t);unfold hn_ rOp;rw[List.append_assoc,hku];dsimp only;rw[if_neg (by simp),if_neg (by omega)];unfold mask at hm;unfold fld at hf1 ⊢;by_cases k2:x.kind=2
 ·rw[if_pos k2]at hm hf1 ⊢;dsimp only at hf1 ⊢;rw[if_pos k2,Au_ x.blk hu.blk hd hp t];simp only[dec,ne_eq,not_true_eq_false,if_false];rw[Int.toNat_natCast,iZ_ _ _ _ rfl,←k2,hm]
 rw[if_neg k2]at hm hf1 ⊢;rw[if_neg k2];by_cases k3:x.kind=3
 ·rw[if_pos k3]at hm hf1 ⊢
  dsimp only at hf1 ⊢;have h1:=At_ (dT_ x.att) x.att.2.2.2 hu.slot hu.ep hf1;have h2:=Io_.m (by rw[h1]) t;rw[h1,List.nil_append]at h2;rw[if_pos k3,if_pos hf1,h2]
  have h3:iE_ (Dz_ (dT_ x.att) x.att.2.2.2++t).length (((dT_ x.att).slot,(dT_ x.att).root,(dT_ x.att).target,x.att.2.2.2),t,0)=(x.att,((((Dz_ (dT_ x.att) x.att.2.2.2++t).length-t.length:Nat)):Int),0):=by
   unfold iE_;dsimp only;rw[if_neg (by simp),if_pos hf1];rfl
  rw[h3];dsimp only;rw[Int.toNat_natCast,iZ_ _ _ _ rfl,←k3,hm]
 rw[if_neg k3]at hm hf1 ⊢;rw[if_neg k3];by_cases k4:x.kind=4
 ·rw[if_pos k4]at hm hf1 ⊢
  dsimp only at hf1 ⊢;rw[if_pos k4];have hs:=hf1;unfold ha_ at hs
  have v1:bt_ x.slg.1.2.2.2 1024=0:=by
   by_cases h:bt_ x.slg.1.2.2.2 1024=0
   ·exact h
   ·rw[if_neg h]at hs;exact hs
  have v2:bt_ x.slg.2.2.2.2 1024=0:=by rw[if_pos v1]at hs;exact hs
  have h1:=Az_ (x:=dP_ x.slg) hu.fst hu.snd v1 v2;have h2:=Is_.m (by rw[h1]) t;rw[h1,List.nil_append]at h2;rw[if_pos hf1,h2]
  have h3:hH_ (ry_ (dP_ x.slg) x.slg.1.2.2.2 x.slg.2.2.2.2++t).length ((((dP_ x.slg).fst.src,(dP_ x.slg).fst.tgt,(dP_ x.slg).fst.root,x.slg.1.2.2.2),((dP_ x.slg).snd.src,(dP_ x.slg).snd.tgt,(dP_ x.slg).snd.root,x.slg.2.2.2.2)),t,0)=(x.slg,((((ry_ (dP_ x.slg) x.slg.1.2.2.2 x.slg.2.2.2.2++t).length-t.length:Nat)):Int),0):=by
   unfold hH_;dsimp only;rw[if_neg (by simp),if_pos ⟨v1,v2⟩];rfl
  rw[h3];dsimp only;rw[Int.toNat_natCast,iZ_ _ _ _ rfl,←k4,hm]
 rw[if_neg k4]at hm hf1 ⊢;rw[if_neg k4];by_cases k5:x.kind=5
 ·rw[if_pos k5]at hm hf1 ⊢
  dsimp only at hf1 ⊢;rw[if_pos k5];have hl:¬1024<x.tab.2.length:=fun h=>by rw[if_pos h]at hf1;cases hf1
  rw[if_neg hl];have h1:=AA_ hu.tab (by omega);have h2:=It_.m (by rw[h1]) t;rw[h1,List.nil_append]at h2;rw[h2]
  have h3:dec cP_ (rE_ (fo_ x.tab) x.tab.2++t).length (((fo_ x.tab).cp,x.tab.2),t,0)=(x.tab,((((rE_ (fo_ x.tab) x.tab.2++t).length-t.length:Nat)):Int),0):=by
   unfold dec;dsimp only;rw[if_neg (by simp)];rfl
  rw[h3];dsimp only;rw[Int.toNat_natCast,iZ_ _ _ _ rfl,←k5,hm]
 rw[if_neg k5]at hm hf1 ⊢;rw[if_neg k5];by_cases k6:x.kind=6
 ·rw[if_pos k6]at hm hf1 ⊢
  dsimp only at hf1 ⊢;rw[if_pos k6];have hl:¬mg_ x.vdt:=fun h=>by rw[if_pos h]at hf1;cases hf1
  rw[if_neg hl];have h1:=AB_ x.vdt hu.tag hl;have h2:=Iv_.m (by rw[h1]) t;rw[h1,List.nil_append]at h2;rw[h2];have hk0:x.vdt.kind≠0:=fun h=>hl (.inl (by omega))
  have h3:jO_ (FN_ x.vdt++t).length (x.vdt,t,0)=(x.vdt,((((FN_ x.vdt++t).length-t.length:Nat)):Int),0):=by
   unfold jO_;dsimp only;rw[if_neg (by simp),if_neg hk0]
  rw[h3];dsimp only;rw[Int.toNat_natCast,iZ_ _ _ _ rfl,←k6,hm]
 rw[if_neg k6]at hm hf1 ⊢;rw[if_neg k6];rw[if_neg (by omega)]at hm hf1 ⊢;rw[if_neg (by omega)];dsimp only;rw[List.nil_append,hm]
theorem LZ_{α:Type}{r:RR α}(hm:Mn r){enc:List UInt8}{v:α}(hf:r enc 0=(v,[],0)){j:Nat}(hj:j<enc.length):(r (enc.take j) 0).2.2≠0:=fun h=>by
 have h1:=hm.m h (enc.drop j);rw[List.take_append_drop,hf]at h1;have h2:([]:List UInt8)=(r (enc.take j) 0).2.1++enc.drop j:=congrArg (fun x=>x.2.1) h1;have h3:=congrArg List.length h2;rw[List.length_append,List.length_drop]at h3;simp at h3;omega
theorem Pr_{x:OpV}(hk6:x.kind≤6)(hv:vOp x=0)(hu:OpU x)(hd:∀n∈x.blk.diff.1,0≤n∧n<18446744073709551616)(hp:∀n∈x.blk.pdiff.1,0≤n∧n<18446744073709551616){k:Nat}(hk:k<(hn_ x).length):(rOp ((hn_ x).take k)).2.2≠0:=by
 have hkd:=nu_ hv
 have hf1:(fld x).2=0:=by
  unfold vOp at hv;rw[if_neg (by omega)]at hv;split at hv
  ·rename_i h;exact absurd hv h
  ·rename_i h;simpa using h
 have hback:=lp_ (n:=x.kind.toNat) (m:=8) (by omega) (by omega);unfold hn_ at hk ⊢;by_cases hlt:k<(aJ_ x.kind.toNat).length
 ·have hc:=hback.cut k hlt;(try simp only at hc)
  rw[List.take_append_of_le_length (by omega)];unfold rOp;rw[hc];dsimp only;rw[if_pos (by decide)];show (5:Int)≠0
  decide
 ·obtain⟨j,rfl⟩:∃j,k=(aJ_ x.kind.toNat).length+j:=⟨k-(aJ_ x.kind.toNat).length,by omega⟩
  have hj:j<(fld x).1.length:=by rw[List.length_append]at hk;omega
  have htk:(aJ_ x.kind.toNat++(fld x).1).take ((aJ_ x.kind.toNat).length+j)=aJ_ x.kind.toNat++(fld x).1.take j:=by rw[List.take_length_add_append]
  have hku:=nI_ (n:=x.kind) (m:=8) (by omega) (by omega) (by decide) ((fld x).1.take j);rw[htk];unfold rOp;rw[hku];dsimp only;rw[if_neg (by simp),if_neg (by omega)];unfold fld at hf1 hj ⊢;by_cases k2:x.kind=2
  ·rw[if_pos k2]at hf1 hj ⊢;dsimp only at hf1 hj ⊢;have hb:=Au_ x.blk hu.blk hd hp [];rw[List.append_nil]at hb;have he:=LZ_ Pp_ hb hj;rw[if_pos k2];unfold dec;rw[if_pos he];exact he
  rw[if_neg k2]at hf1 hj ⊢;rw[if_neg k2];by_cases k3:x.kind=3
  ·rw[if_pos k3]at hf1 hj ⊢;dsimp only at hf1 hj ⊢;rw[if_pos hf1]at hj ⊢;have he:=LZ_ Io_ (At_ (dT_ x.att) x.att.2.2.2 hu.slot hu.ep hf1) hj;rw[if_pos k3];unfold iE_;rw[if_pos he];exact he
  rw[if_neg k3]at hf1 hj ⊢;rw[if_neg k3];by_cases k4:x.kind=4
  ·rw[if_pos k4]at hf1 hj ⊢
   dsimp only at hf1 hj ⊢;rw[if_pos hf1]at hj ⊢;have hs:=hf1;unfold ha_ at hs
   have v1:bt_ x.slg.1.2.2.2 1024=0:=by
    by_cases h:bt_ x.slg.1.2.2.2 1024=0
    ·exact h
    ·rw[if_neg h]at hs;exact hs
   have v2:bt_ x.slg.2.2.2.2 1024=0:=by rw[if_pos v1]at hs;exact hs
   have he:=LZ_ Is_ (Az_ (x:=dP_ x.slg) hu.fst hu.snd v1 v2) hj;rw[if_pos k4];unfold hH_;rw[if_pos he];exact he
  rw[if_neg k4]at hf1 hj ⊢;rw[if_neg k4];by_cases k5:x.kind=5
  ·rw[if_pos k5]at hf1 hj ⊢;dsimp only at hf1 hj ⊢;have hl:¬1024<x.tab.2.length:=fun h=>by rw[if_pos h]at hf1;cases hf1
   rw[if_neg hl]at hj ⊢;have he:=LZ_ It_ (AA_ hu.tab (by omega)) hj;rw[if_pos k5];unfold dec;rw[if_pos he];exact he
  rw[if_neg k5]at hf1 hj ⊢;rw[if_neg k5];by_cases k6:x.kind=6
  ·rw[if_pos k6]at hf1 hj ⊢;dsimp only at hf1 hj ⊢;have hl:¬mg_ x.vdt:=fun h=>by rw[if_pos h]at hf1;cases hf1
   rw[if_neg hl]at hj ⊢;have he:=LZ_ Iv_ (AB_ x.vdt hu.tag hl) hj;rw[if_pos k6];unfold jO_;rw[if_pos he];exact he
  rw[if_neg k6,if_neg (by omega)]at hj;simp at hj
structure OpB(x:OpV):Prop where
 k6:x.kind≤6
 u:OpU x
 d:∀n∈x.blk.diff.1,0≤n∧n<18446744073709551616
 p:∀n∈x.blk.pdiff.1,0≤n∧n<18446744073709551616
theorem Ii_(x:OpV)(t:List UInt8):hn_ x++t≠[]:=fun h=>by
 have h1:=congrArg List.length h;unfold hn_ at h1;have h2:=rH_ x.kind.toNat
 simp only[List.length_append,List.length_nil]at h1;omega
theorem DX_{x:OpV}{l:List OpV}(h:(cC_ (x::l)).2=0):vOp x=0∧(cC_ l).2=0∧(cC_ (x::l)).1=hn_ x++(cC_ l).1:=by
 have hE:cC_ (x::l)=if vOp x≠0 then ([],vOp x)else (hn_ x++(cC_ l).1,(cC_ l).2):=rfl
 rw[hE]at h ⊢;by_cases h1:vOp x≠0
 ·rw[if_pos h1]at h;exact absurd h h1
 ·rw[if_neg h1]at h ⊢;exact⟨by simpa using h1,h,rfl⟩
theorem vm_:∀ (l acc:List OpV),(∀x∈l,OpB x)→(cC_ l).2=0→acc.length+l.length≤4096→db_ acc (cC_ l).1=(acc++l,[],0)
 | [],acc,_,_,_=>by show db_ acc []=_;rw[db_,if_pos rfl,List.append_nil]
 | x :: l, acc, hb, he, hl => by
   obtain⟨h1,h2,h3⟩:=DX_ he;have hx:=hb x (by simp);simp only[List.length_cons]at hl;rw[h3,db_,if_neg (Ii_ x _),if_neg (by omega),EY_ hx.k6 h1 hx.u hx.d hx.p];dsimp only;rw[if_neg (by simp),vm_ l (acc++[x]) (fun y hy=>hb y (by simp[hy])) h2 (by simp only[List.length_append,List.length_cons,List.length_nil];omega)];simp
theorem zP_:∀ (l acc:List OpV) (k:Nat),(∀x∈l,OpB x)→(cC_ l).2=0→acc.length+l.length≤4096→∃j,j≤l.length∧(db_ acc ((cC_ l).1.take k)).1=acc++l.take j
 | [],acc,k,_,_,_=>⟨0,Nat.le_refl _,by show (db_ acc (([]:List UInt8).take k)).1=_;rw[List.take_nil,db_,if_pos rfl];simp⟩
 | x :: l, acc, k, hb, he, hl => by
   obtain⟨h1,h2,h3⟩:=DX_ he;have hx:=hb x (by simp);simp only[List.length_cons]at hl ⊢;rw[h3];by_cases hlt:k<(hn_ x).length
   ·refine⟨0,Nat.zero_le _,?_⟩;rw[List.take_append_of_le_length (by omega),List.take_zero,List.append_nil,db_];split
    ·rfl
    ·rw[if_neg (by omega),if_pos (Pr_ hx.k6 h1 hx.u hx.d hx.p hlt)]
   ·obtain⟨m,rfl⟩:∃m,k=(hn_ x).length+m:=⟨k-(hn_ x).length,by omega⟩
    obtain⟨j,hj,hd⟩:=zP_ l (acc++[x]) m (fun y hy=>hb y (by simp[hy])) h2 (by simp only[List.length_append,List.length_cons,List.length_nil];omega);refine⟨j+1,by omega,?_⟩;rw[List.take_length_add_append,db_,if_neg (Ii_ x _),if_neg (by omega),EY_ hx.k6 h1 hx.u hx.d hx.p];dsimp only;rw[if_neg (by simp),hd];simp
end Go.Proofs.YtipiipgpnkpejaaGreat
