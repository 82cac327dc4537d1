/-
 My texts Rd, Re, joined.
-/
import Derived.Test.YtnjdpnfglgcjcaaGreatT9
set_option linter.unusedVariables false
set_option linter.unusedSimpArgs false
set_option maxRecDepth 8000
set_option maxHeartbeats 4000000
namespace Go.Proofs.YtnjdpnfglgcjcaaGreat
open Go Go.FH Go.RowKit
theorem L5(l z:List Blk)(i:Nat)(hi:i<l.length):
 ∃z2:List Blk,z2.length=z.length+1/\aI Tryz.prog 151 [.hs 238 0 0 l.length,.int .i64 i,.int .i64 ((i+1:Nat):Int)] [.vec 238 (rows aA (l++z))] (.hs 238 1 0 (takeO l i).length) [.gone,.vec 238 (rows aA (takeO l i++z2))]:=by
 obtain⟨z2,hz2,hz3⟩:∃z2:List Blk,z2.length=z.length+1/\∀w,w=dO->w::z=z2:=⟨dO::z,rfl,fun w h=>by rw[h]⟩
 refine⟨z2,hz2,?_⟩;refine aI.fact 8 jg (by simp) ?_ (by simp);unfold fo;refine bd ?_;have e0:((i:Int)==((i+1:Nat):Int))=false:=by simp;omega
 have hnl:l.length=(takeO l i).length+1:=by unfold takeO;simp;omega
 have hys:List.take (l.length-(i+1)) (List.drop (i+1) (rows aA (l++z)))=rows aA (l.drop (i+1)):=by
  unfold rows;rw[<-List.map_drop,<-List.map_take,List.drop_append_of_le_length (by omega),List.take_append_of_le_length (by simp),List.take_of_length_le (by simp)]
 obtain⟨x0,hx0⟩:∃x0:Blk,(l++z).drop (l.length-1)=x0::z:=by
  rw[List.drop_append_of_le_length (by omega),List.drop_eq_getElem_cons (show l.length-1<l.length by omega),List.drop_of_length_le (by omega)];exact⟨_,rfl⟩
 have hsum:i+(l.length-(i+1))=l.length-1:=by omega
 have hcat:List.take i (rows aA (l++z))++rows aA (l.drop (i+1))++List.drop (i+(l.length-(i+1))) (rows aA (l++z))=rows aA (takeO l i++x0::z):=by
  rw[hsum,<-hx0];unfold rows takeO;rw[<-List.map_drop,<-List.map_take,List.take_append_of_le_length (by omega)];simp
 have hdl:(l.drop (i+1)).length=l.length-(i+1):=List.length_drop;have hXl:(l++z).length=l.length+z.length:=List.length_append;have k1:i+1+(l.length-(i+1))<=l.length+z.length:=by omega
 have k2:i<=l.length+z.length:=by omega
 have k3:i+(l.length-(i+1))<=l.length+z.length:=by omega
 have k4:(i:Int)<=l.length:=by omega
 generalize hm:takeO l i=m at *;generalize hD:l.drop (i+1)=D at *
 have hclr:∀w:Blk,rows aA m++[aA w]++List.drop (m.length+1) (rows aA (m++x0::z))=rows aA (m++w::z):=fun w=>by
  unfold rows;rw[List.map_append,List.drop_append,List.drop_of_length_le (by simp)];simp
 have k5:m.length+1<=m.length+(z.length+1):=by omega
 have hsm:i+(m.length+1-(i+1))=m.length:=by omega
 have hml:(m++x0::z).length=m.length+(z.length+1):=by simp
 have k6:m.length<=m.length+(z.length+1):=by omega
 have k7:m.length+1-m.length=1:=by omega
 have k8:m.length<=m.length+1+z.length:=by omega
 rw[hnl]at hys hcat hdl hXl k1 k2 k3 k4 ⊢;rw[hsm]at hcat
 refine dD e0 hnl ?_;repeat(first|refine bU ?_|simp only[go_sem,e0,hnl,hys,k1,k2,k3,k4,hdl,hsm,hcat,hml,k5,k6,k7,k8])
 rw[hclr,hz3];rotate_left
 ·rfl
 exact adb [] [0,1]
theorem Rw(S:am)(hb:S.nodes.length<=1000000)(z:List Blk)(x:Blk):aI Tryz.prog 149 [.agg (aA x),.ptr 0 0] [.var (aw { S.a with orph:=.hs 238 1 0 S.orph.length }),.vec 238 (rows aA (S.orph++z))] (.bool (decide (0<=aj S.nodes x.parent))) [.var (aw { S.a with orph:=.hs 238 1 0 S.orph.length }),.vec 238 (rows aA (S.orph++z))]:=by
 refine aI.fact 4 CP (by simp) ?_ (by simp);unfold ry;refine bd ?_;have c1:=eD S.nodes x.parent hb;have ge:decide (aj S.nodes x.parent ≥ 0)=decide (0<=aj S.nodes x.parent):=rfl;generalize aj S.nodes x.parent=I at *;refine gon ?_;refine ai c1 ?_;refine ap ge ?_;exact adb [] [0,1]
theorem RV(S:am)(hb:S.nodes.length<=1000000)(ho:S.orph.length<=1000000)(z:List Blk):aI Tryz.prog 148 [.hs 238 1 0 S.orph.length,.fn (.func 149) [.ptr 0 0]] [.var (aw { S.a with orph:=.hs 238 1 0 S.orph.length }),.vec 238 (rows aA (S.orph++z))] (.int .i64 (bR S)) [.var (aw { S.a with orph:=.hs 238 1 0 S.orph.length }),.vec 238 (rows aA (S.orph++z))]:=by
 refine aI.fact 9 dC (by simp) ?_ (by simp);unfold cM;refine bd ?_;unfold bR;have hN:cE (fun i=>decide (0<=aj S.nodes (cF S.orph i).parent)) S.orph.length=fw (fun i=>decide (0<=aj S.nodes (cF S.orph i).parent)) (S.orph.length-0) 0:=rfl;generalize hp:(fun i=>decide (0<=aj S.nodes (cF S.orph i).parent))=p at *;refine gon ?_;refine ay (fun i:Nat=>[(8,.int .i64 i)]) (fun _=>[.var (aw { S.a with orph:=.hs 238 1 0 S.orph.length }),.vec 238 (rows aA (S.orph++z))]) (fun i=>S.orph.length-i) (fun i=>i<=S.orph.length/\cE p S.orph.length=fw p (S.orph.length-i) i) 0 ⟨Nat.zero_le _,hN⟩ ?_ ?_
 ·exact adk [] [0,1]
 clear hN;rintro i ⟨hi,hn⟩;rw[hn];refine dM ?_;by_cases h1:i<S.orph.length
 ·have e1:=inT h1
  have hw:=ah h1 (by omega);have hxi:i<(S.orph++z).length:=by simp;omega
  have hgd:(rows aA (S.orph++z)).getD i []=aA (cF S.orph i):=by
   unfold cF;rw[aM (f:=aA) dO hxi,List.getD_eq_getElem?_getD,List.getElem?_append_left h1,<-List.getD_eq_getElem?_getD]
  have c1:=Rw S hb z (cF S.orph i);have hpi:p i=decide (0<=aj S.nodes (cF S.orph i).parent):=by rw[<-hp]
  rw[<-hpi]at c1;generalize cF S.orph i=x at *;refine bg e1 ?_;refine aO hgd hxi ?_;refine bP [0,1] (c1) evd (bx.mk' (by simp) evd) ?_;refine evg ?_;cases h:p i with
  | true =>
    rw[f9 h1 h];refine aV ?_;exact adb [] [0,1]
  | false =>
    rw[fW h1 h];refine dk ?_;refine ap hw ?_;refine⟨i+1,⟨h1,rfl⟩,by omega,?_⟩;exact adk [] [0,1]
 ·obtain rfl:i=S.orph.length:=by omega
  have e1:=inF (S.orph.length);rw[gQ];refine aD e1 ?_;exact adb [] [0,1]
theorem L4(s:am)(i:Nat)(h:bi s i)(b:Blk)(hu:jx i b)(z:List Blk):aI Tryz.prog 145 [.agg (aw { s.a with orph:=.hs 238 0 0 s.orph.length }),.agg (aA b)] [.vec 238 (rows aA (s.orph++z))] (.int .i64 (bG s b)) [.vec 238 (rows aA (s.orph++z))]:=by
 refine aI.lend rfl ?_;(try simp only[go_sem,List.length_cons,List.length_nil,List.range_succ,List.range_zero])
 exact ze s i h b hu
end Go.Proofs.YtnjdpnfglgcjcaaGreat
