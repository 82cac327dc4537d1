/-
 Scripts are read back: Im_ laws of the readers: what was read of some bytes is read of more; a valid operation's bytes are read as it; a prefix of a script's bytes holds a prefix of it.
-/
import Derived.Test.YtipiipgpnkpejaaGreatV1
namespace Go.Proofs.YtipiipgpnkpejaaGreat
open Go Go.FH
set_option linter.unusedVariables false
set_option linter.unusedSimpArgs false
structure Mn{α:Type}(r:RR α):Prop where
 z:∀ {bs e},(r bs e).2.2=0→e=0
 m:∀ {bs:List UInt8},(r bs 0).2.2=0→∀t,r (bs++t) 0=((r bs 0).1,(r bs 0).2.1++t,0)
def rt1{α:Type}(v:α):RR α:=fun bs e=>(v,bs,e)
def rb{α β:Type}(r:RR α)(f:α→RR β):RR β:=fun bs e=>f (r bs e).1 (r bs e).2.1 (r bs e).2.2
theorem lq_{α:Type}(v:α):Mn (rt1 v):=⟨fun h=>h,fun _ t=>rfl⟩
theorem Mn.rb{α β:Type}{r:RR α}{f:α→RR β}(h1:Mn r)(h2:∀a,Mn (f a)):Mn (rb r f):=by
 refine⟨fun h=>h1.z ((h2 _).z h),fun {bs} h t=>?_⟩;have e1:(r bs 0).2.2=0:=(h2 _).z h;have e2:=h1.m e1 t;unfold Go.Proofs.YtipiipgpnkpejaaGreat.rb at *;rw[e1]at h ⊢;rw[e2];exact(h2 _).m h t
theorem wQ_(t:List UInt8):∀ (l:List UInt8) (i:Nat) (v:Int),(dw_ l i v).2.2=0→dw_ (l++t) i v=dw_ l i v∧(dw_ l i v).2.1≤i+l.length
 | [],_,_,h=>by simp[dw_]at h
 | b :: l, i, v, h => by
   rw[List.cons_append];simp only[dw_]at h ⊢;split
   ·rename_i h1;rw[if_pos h1]at h;simp at h
   ·rename_i h1
    rw[if_neg h1]at h;split
    ·rename_i h2;rw[if_pos h2]at h;split
     ·rename_i h3;rw[if_pos h3]at h;simp at h
     ·exact⟨rfl,by simp only[List.length_cons];omega⟩
    ·rename_i h2;rw[if_neg h2]at h;have:=wQ_ t l (i+1) _ h;exact⟨this.1,by simp only[List.length_cons];omega⟩
theorem KG_{bs:List UInt8}(t:List UInt8)(h:(dY_ bs).2.2=0):dY_ (bs++t)=dY_ bs∧(dY_ bs).2.1≤bs.length:=by
 unfold dY_ at *;rw[List.take_append];have:=wQ_ (t.take (10-bs.length)) (bs.take 10) 0 0 h;refine⟨this.1,Nat.le_trans this.2 ?_⟩;rw[List.length_take];omega
theorem dX_(m:Int):Mn (fun bs e=>ap_ bs e m):=by
 refine⟨fun {bs e} h=>?_,fun {bs} h t=>?_⟩
 ·by_cases he:e=0
  ·exact he
  ·simp only[ap_,ne_eq,he,not_false_eq_true,if_true]at h
 ·simp only[ap_,ne_eq,not_true_eq_false,if_false]at h ⊢
  split at h
  ·rename_i h1
   have hm:=KG_ t h1;rw[hm.1,if_pos h1,if_pos h1];split at h
   ·simp at h
   ·rename_i h2;rw[if_neg h2,if_neg h2];simp only[List.drop_append_of_le_length hm.2]
  ·rename_i h1;exact absurd h h1
theorem Nh_:Mn ep_:=by
 refine⟨fun {bs e} h=>?_,fun {bs} h t=>?_⟩
 ·by_cases he:e=0
  ·exact he
  ·simp only[ep_,ne_eq,he,not_false_eq_true,if_true]at h
 ·cases bs with
  |nil=>simp[ep_]at h
  | cons b r =>
    simp only[ep_,ne_eq,not_true_eq_false,if_false,List.cons_append]at h ⊢;split at h
    ·simp at h
    ·rename_i h1;rw[if_neg h1];simp[if_neg h1]
theorem ff_:Mn bc_:=by
 refine⟨fun {bs e} h=>?_,fun {bs} h t=>?_⟩
 ·by_cases he:e=0
  ·exact he
  ·simp only[bc_,ne_eq,he,not_false_eq_true,if_true]at h
 ·simp only[bc_,ne_eq,not_true_eq_false,if_false]at h ⊢
  split at h
  ·simp at h
  ·rename_i h1;rw[if_neg h1,if_neg (by rw[List.length_append];omega)];rw[List.take_append_of_le_length (by omega),List.drop_append_of_le_length (by omega)]
theorem EZ_:Mn er_:=⟨fun h=>ff_.z h,fun {bs} h t=>by unfold er_ at *;rw[ff_.m h t]⟩
theorem wz_:Mn rCp:=by
 have key:Mn (rb (fun bs e=>ap_ bs e bh_) fun s=>rb bc_ fun r=>rt1 (⟨s,r⟩:Cp)):=(dX_ _).rb fun _=>ff_.rb fun _=>lq_ _
 have he:∀bs e,(rCp bs e).2.2=0→rCp bs e=(rb (fun bs e=>ap_ bs e bh_) fun s=>rb bc_ fun r=>rt1 (⟨s,r⟩:Cp)) bs e:=fun bs e h=>by
  unfold rCp at *;split at h
  ·rename_i h1;exact absurd h h1
  ·rename_i h1;rw[if_neg h1];rfl
 have hb:∀bs e,((rb (fun bs e=>ap_ bs e bh_) fun s=>rb bc_ fun r=>rt1 (⟨s,r⟩:Cp)) bs e).2.2=0→rCp bs e=(rb (fun bs e=>ap_ bs e bh_) fun s=>rb bc_ fun r=>rt1 (⟨s,r⟩:Cp)) bs e:=fun bs e h=>by
  unfold rCp;rw[if_neg (fun h1=>h1 h)];rfl
 refine⟨fun {bs e} h=>key.z (by rw[←he bs e h];exact h),fun {bs} h t=>?_⟩;have h2:=he bs 0 h;rw[h2]at h;have h3:=key.m h t;rw[hb _ _ (by rw[h3]),h3,h2]
theorem Cw_:∀ (n:Nat) (last:Int) (acc:List Int),Mn (gY_ n last acc)
 |0,last,acc=>lq_ acc
 | n + 1, last, acc => by
   refine⟨fun {bs e} h=>?_,fun {bs} h t=>?_⟩
   ·by_cases he:e=0
    ·exact he
    ·rw[gY_,if_pos he]at h;exact h
   ·rw[gY_,if_neg (by simp)]at h;rw[gY_,gY_,if_neg (by simp),if_neg (by simp)];have e1:=(Cw_ n _ _).z h;have e2:=(dX_ 1024).m e1 t;(try simp only at e2)
    rw[e2,e1];rw[e1]at h;exact(Cw_ n _ _).m h t
theorem wB_:∀ (n:Nat) (acc:List Int),Mn (dr_ n acc)
 |0,acc=>lq_ acc
 | n + 1, acc => by
   refine⟨fun {bs e} h=>?_,fun {bs} h t=>?_⟩
   ·by_cases he:e=0
    ·exact he
    ·rw[dr_,if_pos he]at h;exact h
   ·rw[dr_,if_neg (by simp)]at h;rw[dr_,dr_,if_neg (by simp),if_neg (by simp)];have e1:=(wB_ n _).z h;have e2:=(dX_ bh_).m e1 t;(try simp only at e2)
    rw[e2,e1];rw[e1]at h;exact(wB_ n _).m h t
theorem EU_:Mn eq_:=(show Mn (rb (fun bs e=>ap_ bs e 1024) fun n=>gY_ n.toNat (-1) [])from (dX_ _).rb fun _=>Cw_ _ _ _)
theorem Pp_:Mn ho_:=(show Mn (rb (fun bs e=>ap_ bs e bh_) fun s=>rb bc_ fun r=>rb bc_ fun p=>rb bc_ fun y=>rb er_ fun d=>rb er_ fun g=>rb rCp fun j=>rb rCp fun f=>rb rCp fun u=>rb rCp fun v=>rb ep_ fun t=>rt1 (⟨⟨u,v⟩,s,r,p,y,d,g,j,f,t⟩:Blk))from
 (dX_ _).rb fun _=>ff_.rb fun _=>ff_.rb fun _=>ff_.rb fun _=>EZ_.rb fun _=>EZ_.rb fun _=>wz_.rb fun _=>wz_.rb fun _=>wz_.rb fun _=>wz_.rb fun _=>Nh_.rb fun _=>lq_ _)
theorem Io_:Mn iT_:=(show Mn (rb (fun bs e=>ap_ bs e bh_) fun s=>rb bc_ fun r=>rb rCp fun c=>rb eq_ fun l=>rt1 (s,r,c,l))from (dX_ _).rb fun _=>ff_.rb fun _=>wz_.rb fun _=>EU_.rb fun _=>lq_ _)
theorem Ip_:Mn gX_:=(show Mn (rb (fun bs e=>ap_ bs e bh_) fun s=>rb (fun bs e=>ap_ bs e bh_) fun t=>rb bc_ fun r=>rb eq_ fun l=>rt1 (s,t,r,l))from (dX_ _).rb fun _=>(dX_ _).rb fun _=>ff_.rb fun _=>EU_.rb fun _=>lq_ _)
theorem Is_:Mn hp_:=(show Mn (rb gX_ fun s=>rb gX_ fun t=>rt1 (s,t))from Ip_.rb fun _=>Ip_.rb fun _=>lq_ _)
theorem It_:Mn gb_:=(show Mn (rb (fun bs e=>ap_ bs e bh_) fun s=>rb bc_ fun r=>rb (fun bs e=>ap_ bs e 1024) fun n=>rb (dr_ n.toNat []) fun l=>rt1 ((⟨s,r⟩:Cp),l))from (dX_ _).rb fun _=>ff_.rb fun _=>(dX_ _).rb fun _=>(wB_ _ _).rb fun _=>lq_ _)
theorem Iv_:Mn ka_:=(show Mn (rb (fun bs e=>ap_ bs e bh_) fun s=>rb (fun bs e=>ap_ bs e 4) fun k=>rb bc_ fun r=>rt1 (⟨s,k,r⟩:Vdt))from (dX_ _).rb fun _=>(dX_ _).rb fun _=>ff_.rb fun _=>lq_ _)
end Go.Proofs.YtipiipgpnkpejaaGreat
