/- Joined. -/
import Derived.Test.YtmpddimhleianaaGreatT9v
set_option linter.unusedVariables false
set_option linter.unusedSimpArgs false
set_option maxRecDepth 8000
set_option maxHeartbeats 4000000
namespace Go.Proofs.YtmpddimhleianaaGreat
open Go Go.FH Go.RowKit
theorem HX(l z:List Blk)(i:Nat)(hi:i<l.length):
 ∃z2:List Blk,z2.length=z.length+1/\aJ Tryz.prog 180 [.hs 238 0 0 l.length,.int .i64 i,.int .i64 ((i+1:Nat):Int)] [.vec 238 (rows au (l++z))] (.hs 238 1 0 (takeO l i).length) [.gone,.vec 238 (rows au (takeO l i++z2))]:=by
 obtain⟨z2,hz2,hz3⟩:∃z2:List Blk,z2.length=z.length+1/\∀w,w=dx->w::z=z2:=⟨dx::z,rfl,fun w h=>by rw[h]⟩
 refine⟨z2,hz2,?_⟩;refine cZ 8 ?_;have e0:((i:Int)==((i+1:Nat):Int))=false:=by simp;omega
 have hnl:l.length=(takeO l i).length+1:=by unfold takeO;simp;omega
 have hys:List.take (l.length-(i+1)) (List.drop (i+1) (rows au (l++z)))=rows au (l.drop (i+1)):=by
  unfold rows;rw[<-ad7,<-ael,adg af0,afS af1,afD af1]
 obtain⟨x0,hx0⟩:∃x0:Blk,(l++z).drop (l.length-1)=x0::z:=by
  rw[adg af0,acG (show l.length-1<l.length by omega),acK af0];exact⟨_,rfl⟩
 have hsum:i+(l.length-(i+1))=l.length-1:=af0
 have hcat:List.take i (rows au (l++z))++rows au (l.drop (i+1))++List.drop (i+(l.length-(i+1))) (rows au (l++z))=rows au (takeO l i++x0::z):=by
  rw[hsum,<-hx0];unfold rows takeO;rw[<-ad7,<-ael,afS af0];simp
 have hdl:(l.drop (i+1)).length=l.length-(i+1):=acT;have hXl:(l++z).length=l.length+z.length:=afB;have k1:i+1+(l.length-(i+1))<=l.length+z.length:=af0
 have k2:i<=l.length+z.length:=af0
 have k3:i+(l.length-(i+1))<=l.length+z.length:=af0
 have k4:(i:Int)<=l.length:=af0
 generalize hm:takeO l i=m at *;generalize hD:l.drop (i+1)=D at *
 have hclr:∀w:Blk,rows au m++[au w]++List.drop (m.length+1) (rows au (m++x0::z))=rows au (m++w::z):=fun w=>by
  unfold rows;rw[acu,adz,acK af1];simp
 have k5:m.length+1<=m.length+(z.length+1):=af0
 have hsm:i+(m.length+1-(i+1))=m.length:=af0
 have hml:(m++x0::z).length=m.length+(z.length+1):=af1
 have k6:m.length<=m.length+(z.length+1):=af0
 have k7:m.length+1-m.length=1:=af0
 have k8:m.length<=m.length+1+z.length:=af0
 rw[hnl]at hys hcat hdl hXl k1 k2 k3 k4 ⊢;rw[hsm]at hcat
 refine iJ e0 hnl ?_;repeat(first|refine aM ?_|simp only[go_sem,e0,hnl,hys,k1,k2,k3,k4,hdl,hsm,hcat,hml,k5,k6,k7,k8])
 rw[hclr,hz3];rotate_left
 ·rfl
 exact abF [] [0,1]
theorem MQ(S:af)(hb:S.nodes.length<=2097152)(z:List Blk)(x:Blk):aJ Tryz.prog 179 [.agg (au x),.ptr 0 0] [.var (ak { S.a with orph:=.hs 238 1 0 S.orph.length }),.vec 238 (rows au (S.orph++z))] (.bool (decide (0<=ab S.nodes x.parent))) [.var (ak { S.a with orph:=.hs 238 1 0 S.orph.length }),.vec 238 (rows au (S.orph++z))]:=by
 refine cZ 4 ?_;have c1:=dW S.nodes x.parent hb;have ge:decide (ab S.nodes x.parent ≥ 0)=decide (0<=ab S.nodes x.parent):=rfl;generalize ab S.nodes x.parent=I at *;refine gon ?_;refine ap c1 ?_;refine aA ge ?_;exact abF [] [0,1]
theorem Nr(S:af)(hb:S.nodes.length<=2097152)(ho:S.orph.length<=2097152)(z:List Blk):aJ Tryz.prog 178 [.hs 238 1 0 S.orph.length,.fn (.func 179) [.ptr 0 0]] [.var (ak { S.a with orph:=.hs 238 1 0 S.orph.length }),.vec 238 (rows au (S.orph++z))] (.int .i64 (bW S)) [.var (ak { S.a with orph:=.hs 238 1 0 S.orph.length }),.vec 238 (rows au (S.orph++z))]:=by
 refine cZ 9 ?_;unfold bW;have hN:cm (fun i=>decide (0<=ab S.nodes (cU S.orph i).parent)) S.orph.length=gl (fun i=>decide (0<=ab S.nodes (cU S.orph i).parent)) (S.orph.length-0) 0:=rfl;generalize hp:(fun i=>decide (0<=ab S.nodes (cU S.orph i).parent))=p at *;refine gon ?_;refine aE (fun i:Nat=>[(8,.int .i64 i)]) (fun _=>[.var (ak { S.a with orph:=.hs 238 1 0 S.orph.length }),.vec 238 (rows au (S.orph++z))]) (fun i=>S.orph.length-i) (fun i=>i<=S.orph.length/\cm p S.orph.length=gl p (S.orph.length-i) i) 0 ⟨afK _,hN⟩ ?_ ?_
 ·exact abS [] [0,1]
 clear hN;rintro i ⟨hi,hn⟩;rw[hn];refine fM ?_;by_cases h1:i<S.orph.length
 ·have e1:=inT h1
  have hw:=ae h1 af0;have hxi:i<(S.orph++z).length:=by simp;omega
  have hgd:(rows au (S.orph++z)).getD i []=au (cU S.orph i):=by
   unfold cU;rw[aK (f:=au) dx hxi,afy,afU h1,<-afy]
  have c1:=MQ S hb z (cU S.orph i);have hpi:p i=decide (0<=ab S.nodes (cU S.orph i).parent):=by rw[<-hp]
  rw[<-hpi]at c1;generalize cU S.orph i=x at *;refine bO e1 ?_;refine bm hgd hxi ?_;refine oce [0,1] c1 ?_;cases h:p i with
  | true =>
    rw[jP h1 h];refine bD ?_;exact abF [] [0,1]
  | false =>
    rw[jt h1 h];refine d6 ?_;refine aA hw ?_;refine⟨i+1,⟨h1,rfl⟩,af0,?_⟩;exact abS [] [0,1]
 ·obtain rfl:i=S.orph.length:=af0
  have e1:=inF (S.orph.length);rw[lK];refine aS e1 ?_;exact abF [] [0,1]
theorem HW(s:af)(i:Nat)(h:bi s i)(b:Blk)(hu:jL i b)(z:List Blk):aJ Tryz.prog 176 [.agg (ak { s.a with orph:=.hs 238 0 0 s.orph.length }),.agg (au b)] [.vec 238 (rows au (s.orph++z))] (.int .i64 (bG s b)) [.vec 238 (rows au (s.orph++z))]:=by
 refine aJ.lend rfl ?_;(try simp only[go_sem,afG,afM,acV,adl])
 exact wy s i h b hu
end Go.Proofs.YtmpddimhleianaaGreat
