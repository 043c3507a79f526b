/- Lemmas. -/
import Derived.Test.YtgicddadddhonaaGreatDoorM37
set_option linter.unusedVariables false
set_option linter.unusedSimpArgs false
set_option maxRecDepth 100000
set_option maxHeartbeats 40000000
namespace Go.Proofs.YtgicddadddhonaaGreatDoor
open Go Go.Vm
theorem aSV(raw:List Int)(pos:Nat)(hp:pos<=raw.length)(hr:raw.length<=9223372036854775807)(i:Nt)(g s w x:Nat)(h:Spo g s w x i)(hg:g<=4)(hs:s<=4)(hw:w<=2)(hx:x<=900)
  (p1:Nat)(hp1:p1<=raw.length)(hn:∀{K:KT},K (.v (.int .i64 (5:Nat))) [iO raw p1]->AC 14 [.op 0 0,.v (.int .i64 14)] [iO raw pos] K){K:KT}
  (hK:∀(j:Nt) (pos':Nat),Spo (g+1) (s+1) (w+1) (x+1) j->pos'<=raw.length->K (jC j) [iO raw pos']):
  AC 11 [.op 0 0,jC i] [iO raw pos] K:=by
 obtain⟨g1,b1,b2,b3,b4,b5,b6,gi,si,wi,pa,ha⟩:=h;have hE:=@pP (g+1) (s+1) (w+1) (x+1) raw K hK;obtain⟨gs,ss,ws,ts,ps,hs'⟩:=i;simp only at g1 b1 b2 b3 b4 b5 b6 gi si wi pa ha;have qG:=iS (enc:=iQ) gi;have qS:=iS (enc:=iQ) si;have qW:=iS (enc:=jZ) wi;have qT:=iS (enc:=kC) (p:=fun _=>True) (l:=ts) fun _ _=>trivial;have qP:=iS (enc:=jU) (p:=PbA) (l:=ps) pa;have qH:=iS (enc:=jY) (p:=HnA) (l:=hs') ha;obtain⟨ga,gr,rfl⟩:∃a r,gs=a::r:=by
  cases gs with
  |nil=>simp at g1
  |cons a r=>exact⟨a,r,rfl⟩
 have hgl:(ga::gr).length=gr.length+1:=rfl;have hcp:=fun {K} h=>@tY ⟨ga::gr,ss,ws,ts,ps,hs'⟩ zs zs zs (fun d hd=>bC (gi d hd) zd) (fun d hd=>bC (si d hd) zd) wi zs zs zs K h;simp only[aR,aB]at hcp;refine hJ (rE rfl rfl ?_)
 all_goals(repeat' ((conv=>whnf);first|(refine Ob.intro zk ?_)|(with_reducible first|refine hcp ?_|refine hn ?_|refine jI raw _ _ zx zw hr fun m1 q1 hm1 hq1=>?_)|(refine nC (by rfl) (by simp only[aB,aI];omega) fun c=>?_)|(refine oJ (by rfl) (by simp only[aB,aI];omega) fun c=>?_)|(with_reducible first|refine iJ (by(try simp only[aA,aB,aI]);omega) ?_|refine c10 raw _ 3 10080 true zd zd zd zd zw hr fun l q2 hl hb hq2=>?_|refine pZ raw _ zw hr fun c q3 hq3=>?_|refine nM raw _ zw hr fun a q4 a0 a1 hq4=>?_|refine sI raw _ 65535 zd zd zw hr fun a q5 a0 a1 hq5=>?_|refine jD fun r r0 r1=>?_|refine kY fun r=>?_|refine iB 0 rfl (by(try simp only[aA,aB]at*);omega) ?_|refine nY zo fun r hx=>?_|refine iF 1 ts.length rfl rfl zo zo ?_)|(refine iC rfl ?_)|(refine iT zx ?_)|(with_reducible refine mQ zo ?_)|refine zG ?_|apply zA|intro h|exact zT));all_goals conv=>whnf
 all_goals first
  |(refine⟨_,gY,hE _ _ _ _ _ _ _ ?_ ?_ ?_ ?_ ?_ ?_ ?_ zw⟩<;>(repeat' first|exact qG|exact qS|exact qW|exact qT|exact qP|exact qH|refine nP ?_ ?_|refine nQ ?_ ?_|refine mS ?_|refine mT ?_|exact iS fun _ _=>trivial)<;>
    first
    |exact oDf _ _ _
    |exact oDs _ _ _ _ zp zp zp zp
    |exact oWn _ _ zo
    |exact oSm _ _ _ _ _ _ _ _ _ _
    |exact oPb _ _ _ _ _ _ zp zp zp zp
    |exact oHn _ _ _ _ _ zp zp zp zp zd zd
    |exact⟨r,rfl,pa r (aG hx)⟩
    |exact⟨r,rfl,ha r (aG hx)⟩
    |(simp only[aC,aA,aB,aI,cL,cH,aV]at*;omega))
  |(refine⟨.agg [.lst (.agg [.v (.string ga.name),.lst []]::gr.map iQ),.lst (ss.map iQ),.lst (ws.map jZ),.lst (ts.map kC),.lst (ps.map jU),.lst (hs'.map jY)],iA ⟨mI,gY,gY,gY,gY,gY,trivial⟩,hE _ _ _ _ _ _ _ (mB ⟨⟨_,[]⟩,rfl,by simp⟩ fun y hy=>qG y (aS _ hy)) qS qW qT qP qH ?_ zw⟩
    simp only[aA,aB]at*;omega)
end Go.Proofs.YtgicddadddhonaaGreatDoor
