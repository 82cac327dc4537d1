/-
 My texts Rd, Re, joined.
-/
import Derived.Test.YtkgimpdgncakjaaGreatT9
namespace Go.Proofs.YtkgimpdgncakjaaGreat
open Go Go.FH Go.RowKit
set_option linter.unusedVariables false
set_option linter.unusedSimpArgs false
set_option maxRecDepth 8000
set_option maxHeartbeats 4000000
theorem BN_(l z:List Blk)(i:Nat)(hi:i<l.length):
 ∃z2:List Blk,z2.length=z.length+1∧ap_ Tryz.prog 83 [.hs 238 0 0 l.length,.int .i64 i,.int .i64 ((i+1:Nat):Int)] [.vec 238 (rows al_ (l++z))] (.hs 238 1 0 (takeO l i).length) [.gone,.vec 238 (rows al_ (takeO l i++z2))]:=by
 obtain⟨z2,hz2,hz3⟩:∃z2:List Blk,z2.length=z.length+1∧∀w,w=cg_→w::z=z2:=⟨cg_::z,rfl,fun w h=>by rw[h]⟩
 refine⟨z2,hz2,?_⟩;refine ap_.fact 8 fl_ (by simp) ?_ (by simp);unfold dh_;refine bd ?_;have e0:((i:Int)==((i+1:Nat):Int))=false:=by simp;omega
 have hnl:l.length=(takeO l i).length+1:=by unfold takeO;simp;omega
 have hys:List.take (l.length-(i+1)) (List.drop (i+1) (rows al_ (l++z)))=rows al_ (l.drop (i+1)):=by
  unfold rows;rw[←List.map_drop,←List.map_take,List.drop_append_of_le_length (by omega),List.take_append_of_le_length (by simp),List.take_of_length_le (by simp)]
 obtain⟨x0,hx0⟩:∃x0:Blk,(l++z).drop (l.length-1)=x0::z:=by
  rw[List.drop_append_of_le_length (by omega),List.drop_eq_getElem_cons (show l.length-1<l.length by omega),List.drop_of_length_le (by omega)];exact⟨_,rfl⟩
 have hsum:i+(l.length-(i+1))=l.length-1:=by omega
 have hcat:List.take i (rows al_ (l++z))++rows al_ (l.drop (i+1))++List.drop (i+(l.length-(i+1))) (rows al_ (l++z))=rows al_ (takeO l i++x0::z):=by
  rw[hsum,←hx0];unfold rows takeO;rw[←List.map_drop,←List.map_take,List.take_append_of_le_length (by omega)];simp
 have hdl:(l.drop (i+1)).length=l.length-(i+1):=List.length_drop;have hXl:(l++z).length=l.length+z.length:=List.length_append;have k1:i+1+(l.length-(i+1))≤l.length+z.length:=by omega
 have k2:i≤l.length+z.length:=by omega
 have k3:i+(l.length-(i+1))≤l.length+z.length:=by omega
 have k4:(i:Int)≤l.length:=by omega
 generalize hm:takeO l i=m at *;generalize hD:l.drop (i+1)=D at *
 have hclr:∀w:Blk,rows al_ m++[al_ w]++List.drop (m.length+1) (rows al_ (m++x0::z))=rows al_ (m++w::z):=fun w=>by
  unfold rows;rw[List.map_append,List.drop_append,List.drop_of_length_le (by simp)];simp
 have k5:m.length+1≤m.length+(z.length+1):=by omega
 have hsm:i+(m.length+1-(i+1))=m.length:=by omega
 have hml:(m++x0::z).length=m.length+(z.length+1):=by simp
 have k6:m.length≤m.length+(z.length+1):=by omega
 have k7:m.length+1-m.length=1:=by omega
 have k8:m.length≤m.length+1+z.length:=by omega
 rw[hnl]at hys hcat hdl hXl k1 k2 k3 k4 ⊢;rw[hsm]at hcat
 repeat(first|refine aa_ ?_|simp only[go_sem,e0,hnl])
 refine ab_ ?_;repeat(first|refine aa_ ?_|simp only[go_sem,e0,hnl,hys,k1,k2,k3,k4,hdl,hsm,hcat,hml,k5,k6,k7,k8])
 rw[hclr,hz3];rotate_left
 ·rfl
 exact SM_ [] [0,1]
theorem GO_(S:ai_)(hb:S.nodes.length≤1000000)(z:List Blk)(x:Blk):ap_ Tryz.prog 81 [.agg (al_ x),.ptr 0 0] [.var (aj_ { S.a with orph:=.hs 238 1 0 S.orph.length }),.vec 238 (rows al_ (S.orph++z))] (.bool (decide (0≤ak_ S.nodes x.parent))) [.var (aj_ { S.a with orph:=.hs 238 1 0 S.orph.length }),.vec 238 (rows al_ (S.orph++z))]:=by
 refine ap_.fact 4 tv_ (by simp) ?_ (by simp);unfold lr_;refine bd ?_;have c1:=cG_ S.nodes x.parent hb;have ge:decide (ak_ S.nodes x.parent ≥ 0)=decide (0≤ak_ S.nodes x.parent):=rfl;generalize ak_ S.nodes x.parent=I at *;try refine aa_ ?_
 refine ae_ c1 ?_;repeat(first|refine aa_ ?_|simp only[go_sem,ge])
 exact SM_ [] [0,1]
theorem Hl_(S:ai_)(hb:S.nodes.length≤1000000)(ho:S.orph.length≤1000000)(z:List Blk):ap_ Tryz.prog 80 [.hs 238 1 0 S.orph.length,.fn (.func 81) [.ptr 0 0]] [.var (aj_ { S.a with orph:=.hs 238 1 0 S.orph.length }),.vec 238 (rows al_ (S.orph++z))] (.int .i64 (bC_ S)) [.var (aj_ { S.a with orph:=.hs 238 1 0 S.orph.length }),.vec 238 (rows al_ (S.orph++z))]:=by
 refine ap_.fact 9 bU_ (by simp) ?_ (by simp);unfold bs_;refine bd ?_;unfold bC_;have hN:ca_ (fun i=>decide (0≤ak_ S.nodes (ce_ S.orph i).parent)) S.orph.length=dH_ (fun i=>decide (0≤ak_ S.nodes (ce_ S.orph i).parent)) (S.orph.length-0) 0:=rfl;generalize hp:(fun i=>decide (0≤ak_ S.nodes (ce_ S.orph i).parent))=p at *;try refine aa_ ?_
 refine ao_ (fun i:Nat=>[(8,.int .i64 i)]) (fun _=>[.var (aj_ { S.a with orph:=.hs 238 1 0 S.orph.length }),.vec 238 (rows al_ (S.orph++z))]) (fun i=>S.orph.length-i) (fun i=>i≤S.orph.length∧ca_ p S.orph.length=dH_ p (S.orph.length-i) i) 0 ⟨Nat.zero_le _,hN⟩ ?_ ?_
 ·exact ST_ [] [0,1]
 clear hN;rintro i ⟨hi,hn⟩;rw[hn];refine cC_ ?_;by_cases h1:i<S.orph.length
 ·have e1:=inT h1
  have hw:=af_ h1 (by omega);have hxi:i<(S.orph++z).length:=by simp;omega
  have hgd:(rows al_ (S.orph++z)).getD i []=al_ (ce_ S.orph i):=by
   unfold ce_;rw[aB_ (f:=al_) cg_ hxi,List.getD_eq_getElem?_getD,List.getElem?_append_left h1,←List.getD_eq_getElem?_getD]
  have c1:=GO_ S hb z (ce_ S.orph i);have hpi:p i=decide (0≤ak_ S.nodes (ce_ S.orph i).parent):=by rw[←hp]
  rw[←hpi]at c1;generalize ce_ S.orph i=x at *;repeat(first|refine aa_ ?_|simp only[go_sem,e1])
  refine ac_ ?_;repeat(first|refine aa_ ?_|simp only[go_sem,hgd,hxi])
  refine bj_ [0,1] (c1) evd (aV_.mk' (by simp) evd) ?_;refine evg ?_;cases h:p i with
  | true =>
    rw[ej_ h1 h];try refine aa_ ?_
    refine Rn_ ?_
    exact SM_ [] [0,1]
  | false =>
    rw[dU_ h1 h];try refine aa_ ?_
    refine ab_ ?_;repeat(first|refine aa_ ?_|simp only[go_sem,hw])
    refine⟨i+1,⟨h1,rfl⟩,by omega,?_⟩;exact ST_ [] [0,1]
 ·obtain rfl:i=S.orph.length:=by omega
  have e1:=inF (S.orph.length);rw[fa_];repeat(first|refine aa_ ?_|simp only[go_sem,e1])
  refine Rm_ ?_
  exact SM_ [] [0,1]
theorem BM_(s:ai_)(i:Nat)(h:aJ_ s i)(b:Blk)(hu:eL_ i b)(z:List Blk):ap_ Tryz.prog 77 [.agg (aj_ { s.a with orph:=.hs 238 0 0 s.orph.length }),.agg (al_ b)] [.vec 238 (rows al_ (s.orph++z))] (.int .i64 (aI_ s b)) [.vec 238 (rows al_ (s.orph++z))]:=by
 refine ap_.lend rfl ?_;(try simp only[go_sem,List.length_cons,List.length_nil,List.range_succ,List.range_zero])
 exact qS_ s i h b hu
end Go.Proofs.YtkgimpdgncakjaaGreat
