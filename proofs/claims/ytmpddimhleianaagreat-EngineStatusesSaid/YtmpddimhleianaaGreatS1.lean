/- Joined. -/
import Derived.Test.YtmpddimhleianaaGreatT9
set_option linter.unusedVariables false
set_option linter.unusedSimpArgs false
set_option maxRecDepth 8000
set_option maxHeartbeats 4000000
namespace Go.Proofs.YtmpddimhleianaaGreat
open Go Go.FH Go.RowKit
theorem Cd(l z:List Blk)(i:Nat)(hi:i<l.length):
 ∃z2:List Blk,z2.length=z.length+1/\ay Tryz.prog 180 [.hs 238 0 0 l.length,.int .i64 i,.int .i64 ((i+1:Nat):Int)] [.vec 238 (rows aO (l++z))] (.hs 238 1 0 (takeO l i).length) [.gone,.vec 238 (rows aO (takeO l i++z2))]:=by
 obtain⟨z2,hz2,hz3⟩:∃z2:List Blk,z2.length=z.length+1/\∀w,w=cw->w::z=z2:=⟨cw::z,rfl,fun w h=>by rw[h]⟩
 refine⟨z2,hz2,?_⟩;refine dS 8 ?_;have e0:((i:Int)==((i+1:Nat):Int))=false:=by simp;omega
 have hnl:l.length=(takeO l i).length+1:=by unfold takeO;simp;omega
 have hys:List.take (l.length-(i+1)) (List.drop (i+1) (rows aO (l++z)))=rows aO (l.drop (i+1)):=by
  unfold rows;rw[<-akG,<-akE,akw WL,ajs WM,amf WM]
 obtain⟨x0,hx0⟩:∃x0:Blk,(l++z).drop (l.length-1)=x0::z:=by
  rw[akw WL,amG (show l.length-1<l.length by omega),ajF WL];exact⟨_,rfl⟩
 have hsum:i+(l.length-(i+1))=l.length-1:=WL
 have hcat:List.take i (rows aO (l++z))++rows aO (l.drop (i+1))++List.drop (i+(l.length-(i+1))) (rows aO (l++z))=rows aO (takeO l i++x0::z):=by
  rw[hsum,<-hx0];unfold rows takeO;rw[<-akG,<-akE,ajs WL];simp
 have hdl:(l.drop (i+1)).length=l.length-(i+1):=ajJ;have hXl:(l++z).length=l.length+z.length:=akC;have k1:i+1+(l.length-(i+1))<=l.length+z.length:=WL
 have k2:i<=l.length+z.length:=WL
 have k3:i+(l.length-(i+1))<=l.length+z.length:=WL
 have k4:(i:Int)<=l.length:=WL
 generalize hm:takeO l i=m at *;generalize hD:l.drop (i+1)=D at *
 have hclr:∀w:Blk,rows aO m++[aO w]++List.drop (m.length+1) (rows aO (m++x0::z))=rows aO (m++w::z):=fun w=>by
  unfold rows;rw[amN,aj6,ajF WM];simp
 have k5:m.length+1<=m.length+(z.length+1):=WL
 have hsm:i+(m.length+1-(i+1))=m.length:=WL
 have hml:(m++x0::z).length=m.length+(z.length+1):=WM
 have k6:m.length<=m.length+(z.length+1):=WL
 have k7:m.length+1-m.length=1:=WL
 have k8:m.length<=m.length+1+z.length:=WL
 rw[hnl]at hys hcat hdl hXl k1 k2 k3 k4 ⊢;rw[hsm]at hcat
 refine fp e0 hnl ?_;repeat(first|refine bY ?_|simp only[go_sem,e0,hnl,hys,k1,k2,k3,k4,hdl,hsm,hcat,hml,k5,k6,k7,k8])
 rw[hclr,hz3];rotate_left
 ·rfl
 exact ahY [] [0,1]
theorem Hm(S:ap)(hb:S.nodes.length<=2097152)(z:List Blk)(x:Blk):ay Tryz.prog 179 [.agg (aO x),.ptr 0 0] [.var (aE { S.a with orph:=.hs 238 1 0 S.orph.length }),.vec 238 (rows aO (S.orph++z))] (.bool (decide (0<=aj S.nodes x.parent))) [.var (aE { S.a with orph:=.hs 238 1 0 S.orph.length }),.vec 238 (rows aO (S.orph++z))]:=by
 refine dS 4 ?_;have c1:=zU S.nodes x.parent hb;have ge:decide (aj S.nodes x.parent ≥ 0)=decide (0<=aj S.nodes x.parent):=rfl;generalize aj S.nodes x.parent=I at *;refine gon ?_;refine am c1 ?_;refine ah ge ?_;exact ahY [] [0,1]
theorem Jk(S:ap)(hb:S.nodes.length<=2097152)(ho:S.orph.length<=2097152)(z:List Blk):ay Tryz.prog 178 [.hs 238 1 0 S.orph.length,.fn (.func 179) [.ptr 0 0]] [.var (aE { S.a with orph:=.hs 238 1 0 S.orph.length }),.vec 238 (rows aO (S.orph++z))] (.int .i64 (cY S)) [.var (aE { S.a with orph:=.hs 238 1 0 S.orph.length }),.vec 238 (rows aO (S.orph++z))]:=by
 refine dS 9 ?_;unfold cY;have hN:dW (fun i=>decide (0<=aj S.nodes (dn S.orph i).parent)) S.orph.length=iK (fun i=>decide (0<=aj S.nodes (dn S.orph i).parent)) (S.orph.length-0) 0:=rfl;generalize hp:(fun i=>decide (0<=aj S.nodes (dn S.orph i).parent))=p at *;refine gon ?_;refine az (fun i:Nat=>[(8,.int .i64 i)]) (fun _=>[.var (aE { S.a with orph:=.hs 238 1 0 S.orph.length }),.vec 238 (rows aO (S.orph++z))]) (fun i=>S.orph.length-i) (fun i=>i<=S.orph.length/\dW p S.orph.length=iK p (S.orph.length-i) i) 0 ⟨amc _,hN⟩ ?_ ?_
 ·exact ais [] [0,1]
 clear hN;rintro i ⟨hi,hn⟩;rw[hn];refine dp ?_;by_cases h1:i<S.orph.length
 ·have e1:=inT h1
  have hw:=af h1 WL;have hxi:i<(S.orph++z).length:=by simp;omega
  have hgd:(rows aO (S.orph++z)).getD i []=aO (dn S.orph i):=by
   unfold dn;rw[aS (f:=aO) cw hxi,alt,amH h1,<-alt]
  have c1:=Hm S hb z (dn S.orph i);have hpi:p i=decide (0<=aj S.nodes (dn S.orph i).parent):=by rw[<-hp]
  rw[<-hpi]at c1;generalize dn S.orph i=x at *;refine bw e1 ?_;refine aZ hgd hxi ?_;refine oce [0,1] c1 ?_;cases h:p i with
  | true =>
    rw[nB h1 h];refine aX ?_;exact ahY [] [0,1]
  | false =>
    rw[nz h1 h];refine dQ ?_;refine ah hw ?_;refine⟨i+1,⟨h1,rfl⟩,WL,?_⟩;exact ais [] [0,1]
 ·obtain rfl:i=S.orph.length:=WL
  have e1:=inF (S.orph.length);rw[nu];refine aF e1 ?_;exact ahY [] [0,1]
theorem BX(s:ap)(i:Nat)(h:bP s i)(b:Blk)(hu:np i b)(z:List Blk):ay Tryz.prog 176 [.agg (aE { s.a with orph:=.hs 238 0 0 s.orph.length }),.agg (aO b)] [.vec 238 (rows aO (s.orph++z))] (.int .i64 (de s b)) [.vec 238 (rows aO (s.orph++z))]:=by
 refine ay.lend rfl ?_;(try simp only[go_sem,al8,ama,ake,ako])
 exact qa s i h b hu
end Go.Proofs.YtmpddimhleianaaGreat
