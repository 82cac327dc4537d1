/-
 The law ScriptBack.
-/
import Derived.Test.YtipiipgpnkpejaaGreatOe
import Derived.Test.YtipiipgpnkpejaaGreatOc
namespace Go.Proofs.YtipiipgpnkpejaaGreat
open Go Go.FH Go.RowKit
set_option linter.unusedVariables false
set_option linter.unusedSimpArgs false
set_option maxRecDepth 8000
set_option maxHeartbeats 4000000
theorem Nb_(l:List OpV)(n:Nat):(ops l).take n=ops (l.take n):=by simp[ops]
theorem pc_ScriptBack(l:List Int)(hl:l.length≤maxLen)(hwl:∀z∈l,(Lit.int .i64 z).wf=true)(cut:Int)(hct:(Lit.int .i64 cut).wf=true):
 PC Tryz.prog 5 [.sl 1 false (aq_ .i64 l),.int .i64 cut] (.bool true):=by
 obtain⟨c,vops,hlen,hops,cs⟩:=tt_ l;rw[Fj_]at cs
 have hB:∀x∈vops.map toV,OpB x:=fun x hx=>by
  obtain⟨y,hy,rfl⟩:=List.mem_map.1 hx;have:=hops y hy;exact⟨this.k6,this.u,this.diff,this.pdiff⟩
 have hu:=fun x hx=>(hB x hx).u
 have hln:(vops.map toV).length≤24:=by rw[List.length_map];exact hlen
 have ce:=Fr_ (vops.map toV) hu (Nat.le_trans hln (by decide));have cr:=Fd_ (vops.map toV) hu (Nat.le_trans hln (by decide));have hbd:=zX_ hu hln;obtain⟨w3,hw3,_⟩:=iK_ cut 16777215 (by decide) (by decide);generalize vops.map toV=L at *
 have hE:(fj_ L).2=0→(cC_ L).2=0∧(fj_ L).1=(cC_ L).1:=fun h=>by
  unfold fj_ at h ⊢;rw[if_neg (by omega)]at h ⊢;split at h
  ·rename_i h1;exact absurd h h1
  ·rename_i h1;rw[if_neg h1];split at h
   ·simp at h
   ·rename_i h2;rw[if_neg h2];exact⟨by simpa using h1,rfl⟩
 generalize fj_ L=E at *;obtain⟨bs,e⟩:=E;dsimp only at ce cr hbd hE;refine PC.fact 18 qD_ (by simp) puA trivial ?_;unfold jh_;refine bd ?_;have eb:∀a:Int,(a != a)=false:=fun a=>by simp
 by_cases q:e=0
 case neg=>
  have e1:(e != 0)=true:=by simp[q]
  try refine aa_ ?_
  refine RV_ cs ?_
  refine RV_ cr ?_
  refine ae_ ce ?_;repeat(first|refine aa_ ?_|simp only[go_sem,eb,bne_self_eq_false])
  refine ab_ ?_;repeat(first|refine aa_ ?_|simp only[go_sem,e1])
  refine Rf_ ?_
  refine RV_ dJ_ ?_
  exact ah_
 subst q;obtain⟨he,hb⟩:=hE rfl;have hfull:=vm_ L [] hB he (by simp only[List.length_nil];omega);rw[←hb,List.nil_append]at hfull
 have hdO:qz_ bs=(L,0):=by
  have h1:¬1048576<bs.length:=by omega
  unfold qz_ iB_;simp[h1,hfull]
 obtain⟨q,hq,hq'⟩:=bN_ (k:=(w3:Int)) (n:=bs.length+1) (by omega) (by omega);obtain⟨j,hj,hcut⟩:=zP_ L [] q hB he (by simp only[List.length_nil];omega);rw[←hb,List.nil_append]at hcut;have hq1:IntKind.i64.wrap ((bs.length:Int)+1)=((bs.length+1:Nat):Int):=by rw[ai_ (by omega) (by omega)];omega
 have hlq:(bs.take q).length≤q:=by rw[List.length_take];omega
 have hA:∃n:Nat,n≤q∧iB_ (bs.take q)=(L.take j,(n:Int),(db_ [] (bs.take q)).2.2):=by
  unfold iB_;rw[if_neg (by omega),hcut];exact⟨_,by omega,rfl⟩
 obtain⟨n,hn,hA⟩:=hA;have cd:=Fq_ bs (by omega);have cd':=wG_ bs (by omega);have cp:=Fz_ (bs.take q) (by omega);have cp':=Fk_ (bs.take q) (by omega);rw[hdO]at cd cd';rw[hA]at cp cp';dsimp only at cd cd' cp cp';have hol:∀x∈L,je_ x:=fun x hx=>(hu x hx).len
 have s1:=rt_ L (by omega) hol;have s2:=rt_ (L.take j) (by rw[List.length_take];omega) (fun x hx=>hol x (List.mem_of_mem_take hx));have d1:decide ((n:Int) > (q:Int))=false:=decide_eq_false (by omega);have d1':decide ((q:Int)<(n:Int))=false:=decide_eq_false (by omega);have hjl:(L.take j).length≤L.length:=by rw[List.length_take];omega
 have d2:decide ((L.length:Int)<((L.take j).length:Int))=false:=decide_eq_false (by omega);have hlo:∀l:List OpV,(ops l).length=l.length:=fun l=>by simp[ops]
 have ht3:(ops L).take (L.take j).length=ops (L.take j):=by
  rw[Nb_,List.length_take,Nat.min_eq_left hj]
 have hq2:(w3:Int).tmod ((bs.length+1:Nat):Int)=(q:Int):=hq;try refine aa_ ?_
 refine RV_ cs ?_
 refine RV_ cr ?_
 refine ae_ ce ?_;repeat(first|refine aa_ ?_|simp only[go_sem,eb,bne_self_eq_false])
 refine Re_ ?_
 refine Re_ ?_
 refine ae_ cd' ?_;repeat(first|refine aa_ ?_|simp only[go_sem,hw3,hq1,hq2])
 refine RV_ cp' ?_
 refine ae_ s1 ?_;repeat(first|refine aa_ ?_|simp only[go_sem,d1,d1',d2,hlo,ht3])
 refine RV_ s2 ?_
 refine Re_ ?_
 refine ae_ cp ?_;repeat(first|refine aa_ ?_|simp only[go_sem,beq_self_eq_true,decide_true])
 refine RV_ s2 ?_
 refine RV_ dJ_ ?_
 exact ah_
end Go.Proofs.YtipiipgpnkpejaaGreat
