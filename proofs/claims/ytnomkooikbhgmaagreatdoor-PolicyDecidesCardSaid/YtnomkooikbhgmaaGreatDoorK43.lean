/- Lemmas. -/
import Derived.Test.YtnomkooikbhgmaaGreatDoorK41
set_option linter.unusedVariables false
set_option linter.unusedSimpArgs false
set_option maxRecDepth 100000
set_option maxHeartbeats 40000000
namespace Go.Proofs.YtnomkooikbhgmaaGreatDoor
open Go Go.Vm
theorem aRt(raw:List Int)(pos:Nat)(hp:pos<=raw.length)(hr:raw.length<=9223372036854775807)(i:Nt)(g s w x:Nat)(h:Spo g s w x i)(hg:g<=4)(hs:s<=4)(hw:w<=2)(hx:x<=900)
  (p1:Nat)(hp1:p1<=raw.length)(hn:∀{K:KT},K (.v (.int .i64 (2:Nat))) [iI raw p1]->AC 11 [.op 0 0,.v (.int .i64 14)] [iI raw pos] K){K:KT}
  (hK:∀(j:Nt) (pos':Nat),Spo (g+1) (s+1) (w+1) (x+1) j->pos'<=raw.length->K (iS j) [iI raw pos']):
  AC 10 [.op 0 0,iS i] [iI raw pos] K:=by
 obtain⟨g1,b1,b2,b3,b4,b5,b6,gi,si,wi⟩:=h;have hE:=@pP (g+1) (s+1) (w+1) (x+1) raw K hK;obtain⟨gs,ss,ws,ts,ps,hs'⟩:=i;simp only at g1 b1 b2 b3 b4 b5 b6 gi si wi;have qG:=iK (enc:=iG) gi;have qS:=iK (enc:=iG) si;have qW:=iK (enc:=jD) wi;have qT:=iK (enc:=jI) (p:=fun _=>True) (l:=ts) fun _ _=>trivial;have qP:=iK (enc:=kG) (p:=fun _=>True) (l:=ps) fun _ _=>trivial;have qH:=iK (enc:=kK) (p:=fun _=>True) (l:=hs') fun _ _=>trivial;obtain⟨ga,gr,rfl⟩:∃a r,gs=a::r:=by
  cases gs with
  |nil=>simp at g1
  |cons a r=>exact⟨a,r,rfl⟩
 have hgl:(ga::gr).length=gr.length+1:=rfl;have hcp:=fun {K} h=>@uC ⟨ga::gr,ss,ws,ts,ps,hs'⟩ zs zs zs (fun d hd=>bA (gi d hd) zd) (fun d hd=>bA (si d hd) zd) wi zs zs zs K h;simp only[aR,aB]at hcp;refine gQ (rI rfl rfl ?_)
 all_goals(repeat' ((conv=>whnf);first|(refine Ob.intro zk ?_)|(with_reducible first|refine hcp ?_|refine hn ?_|refine jF raw _ _ zx zw hr fun m1 q1 hm1 hq1=>?_)|(refine nC (by rfl) (by simp only[aB,aG];omega) fun c=>?_)|(refine oC (by rfl) (by simp only[aB,aG];omega) fun c=>?_)|(with_reducible first|refine iA (by(try simp only[aA,aB,aG]);omega) ?_|refine c10 raw _ 3 10080 true zd zd zd zd zw hr fun l q2 hl hb hq2=>?_|refine pZ raw _ zw hr fun c q3 hq3=>?_|refine oV raw _ zw hr fun a q4 a0 a1 hq4=>?_|refine sI raw _ 65535 zd zd zw hr fun a q5 a0 a1 hq5=>?_|refine iU fun r r0 r1=>?_|refine kT fun r=>?_|refine gU 0 rfl (by(try simp only[aA,aB]at*);omega) ?_|refine oG zo fun r hx=>?_|refine gZ 1 ts.length rfl rfl zo zo ?_)|(refine gV rfl ?_)|(refine iP zx ?_)|(with_reducible refine mQ zo ?_)|refine zG ?_|apply zA|intro h|exact zT));all_goals conv=>whnf
 all_goals first
  |(refine⟨_,gO,hE _ _ _ _ _ _ _ ?_ ?_ ?_ ?_ ?_ ?_ ?_ zw⟩<;>(repeat' first|exact qG|exact qS|exact qW|exact qT|exact qP|exact qH|refine nY ?_ ?_|refine nZ ?_ ?_|refine nF ?_|refine nG ?_|exact iK fun _ _=>trivial)<;>
    first
    |exact oDf _ _ _
    |exact oDs _ _ _ _ zp zp zp zp
    |exact oWn _ _ zo
    |exact oSm _ _ _ _ _ _ _ _ _ _
    |exact oPb _ _ _ _ _ _
    |exact oHn _ _ _ _ _ zp zp zd zd
    |exact⟨r,rfl,trivial⟩
    |(simp only[aD,aA,aB,aG,dB,cQ,aZ]at*;omega))
  |(refine⟨.agg [.lst (.agg [.v (.string ga.name),.lst []]::gr.map iG),.lst (ss.map iG),.lst (ws.map jD),.lst (ts.map jI),.lst (ps.map kG),.lst (hs'.map kK)],gT ⟨mG,gO,gO,gO,gO,gO,trivial⟩,hE _ _ _ _ _ _ _ (lV ⟨⟨_,[]⟩,rfl,by simp⟩ fun y hy=>qG y (aS _ hy)) qS qW qT qP qH ?_ zw⟩
    simp only[aA,aB]at*;omega)
end Go.Proofs.YtnomkooikbhgmaaGreatDoor
