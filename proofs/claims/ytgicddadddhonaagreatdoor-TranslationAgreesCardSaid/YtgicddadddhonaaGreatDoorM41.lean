/- Lemmas. -/
import Derived.Test.YtgicddadddhonaaGreatDoorM37
set_option linter.unusedVariables false
set_option linter.unusedSimpArgs false
set_option maxRecDepth 100000
set_option maxHeartbeats 40000000
noncomputable section
namespace Go.Proofs.YtgicddadddhonaaGreatDoor
open Go Go.Vm
abbrev ops8:Array Oper:=aXb 25 aRE
abbrev pl8:Sched:=aXa gnSpW 25
abbrev fr8:List vT:=Oj 16 (Si ops8 pl8)
theorem p8h:Q9 gnSpW.own ops8 16 (Si ops8 pl8)=true:=by kernel_rfl
theorem p8a:(fr8.take 8).all (okP gnSpW.own ops8)=true:=by kernel_rfl
theorem p8b:((fr8.drop 8).take 2).all (okP gnSpW.own ops8)=true:=by kernel_rfl
theorem p8c:(((fr8.drop 8).drop 2).take 9).all (okP gnSpW.own ops8)=true:=by kernel_rfl
theorem p8d:(((fr8.drop 8).drop 2).drop 9).all (okP gnSpW.own ops8)=true:=by kernel_rfl
theorem p8:Fw gnSpW.own ops8 pl8=true:=Zw 16 zk p8h (Nh 8 p8a (Nh 2 p8b (Nh 9 p8c p8d)))
theorem aVb{Q R:Nat×List AV×Nat->Prop}(p:Nat)(l:List AV)(n:Nat)(hR:R (p,l,n))(hQ:Q (p,l,n)):∃g:Nat×List AV×Nat,Q g/\R g:=⟨_,hQ,hR⟩
theorem aSY(raw:List Int)(pos:Nat)(hp:pos<=raw.length)(hr:raw.length<=9223372036854775807)(i:Nt)(g s w x:Nat)(h:Spo g s w x i)(hg:g<=4)(hs:s<=4)(hw:w<=2)(hx:x<=900)
  (p1:Nat)(hp1:p1<=raw.length)(hn:∀{K:KT},K (.v (.int .i64 (8:Nat))) [iO raw p1]->AC 14 [.op 0 0,.v (.int .i64 14)] [iO raw pos] K){K:KT}
  (hK:∀(j:Nt) (pos':Nat),Spo (g+1) (s+1) (w+1) (x+1) j->pos'<=raw.length->K (jC j) [iO raw pos']):
  AC 11 [.op 0 0,jC i] [iO raw pos] K:=by
 obtain⟨g1,b1,b2,b3,b4,b5,b6,gi,si,wi,pa,ha⟩:=h;have hE:=@pP (g+1) (s+1) (w+1) (x+1) raw K hK;obtain⟨gs,ss,ws,ts,ps,hs'⟩:=i;simp only at g1 b1 b2 b3 b4 b5 b6 gi si wi pa ha;have qG:=iS (enc:=iQ) gi;have qS:=iS (enc:=iQ) si;have qW:=iS (enc:=jZ) wi;have qT:=iS (enc:=kC) (p:=fun _=>True) (l:=ts) fun _ _=>trivial;have qP:=iS (enc:=jU) (p:=PbA) (l:=ps) pa;have qH:=iS (enc:=jY) (p:=HnA) (l:=hs') ha;obtain⟨ga,gr,rfl⟩:∃a r,gs=a::r:=by
  cases gs with
  |nil=>simp at g1
  |cons a r=>exact⟨a,r,rfl⟩
 have hgl:(ga::gr).length=gr.length+1:=rfl;have hcp:=fun {K} h=>@tY ⟨ga::gr,ss,ws,ts,ps,hs'⟩ zs zs zs (fun d hd=>bC (gi d hd) zd) (fun d hd=>bC (si d hd) zd) wi zs zs zs K h;simp only[aR,aB]at hcp;refine aPS rfl rfl ?_;(repeat' ((conv=>whnf);first|(with_reducible first|refine hcp ?_|refine hn ?_)|refine zG ?_|apply zA|intro h|exact zT));all_goals conv=>whnf
 refine iD (Nat×List AV×Nat) (fun q=>⟨10,[(0,iO raw q.1),(2,.box [.nils,.nils,.nils,.nils,.nils,.nils]),(3,.arr 2 (iQ ga::gr.map iQ)),(4,.arr 2 (ss.map iQ)),(5,.arr 2 (ws.map jZ)),(6,.arr 10 (ts.map kC)),(7,.arr 6 q.2.1),(8,.arr 5 (hs'.map jY)),(9,.box [.os 3 2 0 (gr.length+1),.os 4 2 0 ss.length,.os 5 2 0 ws.length,.os 6 10 0 ts.length,.os 7 6 0 q.2.2,.os 8 5 0 hs'.length])],[(4,.op 2 0),(5,.op 9 0)]⟩)
  (fun q=>q.1<=raw.length/\(∀y,y∈q.2.1->∃a:Pb,y=jU a/\PbA a)/\q.2.1.length=q.2.2/\q.2.2<=x+1) ?_ ?_
 ·(repeat' ((conv=>whnf);first|(refine Ob.intro p8 ?_)|(with_reducible first|refine hcp ?_|refine hn ?_|refine jI raw _ _ zx zw hr fun m1 q1 hm1 hq1=>?_)|(refine nC (by rfl) (by simp only[aB,aI];omega) fun c=>?_)|(refine oJ (by rfl) (by simp only[aB,aI];omega) fun c=>?_)|(with_reducible first|refine iJ (by(try simp only[aA,aB,aI]);omega) ?_|refine c10 raw _ 3 10080 true zd zd zd zd zw hr fun l q2 hl hb hq2=>?_|refine pZ raw _ zw hr fun c q3 hq3=>?_|refine nM raw _ zw hr fun a q4 a0 a1 hq4=>?_|refine sI raw _ 65535 zd zd zw hr fun a q5 a0 a1 hq5=>?_|refine jD fun r r0 r1=>?_|refine kY fun r=>?_|refine iB 0 rfl (by(try simp only[aA,aB]at*);omega) ?_|refine nY zo fun r hx=>?_|refine iF 1 ts.length rfl rfl zo zo ?_)|(refine iC rfl ?_)|(refine iT zx ?_)|(with_reducible refine mQ zo ?_)|refine zG ?_|apply zA|intro h|exact zT));all_goals conv=>whnf
  all_goals
   apply aVb
   ·exact leA
   ·refine⟨by with_reducible assumption,nP qP (oPb _ _ _ _ _ _ zp zp zp zp),by(try simp only[aC,aA,aB,aI]),by(try simp only[aC,aA,aB,aI]);omega⟩
 rintro⟨p',P,n⟩ ⟨hp',hP,hPn,hPl⟩
 simp only at hp' hP hPn hPl⊢;subst hPn;(repeat' ((conv=>whnf);first|(refine iT zx ?_)|refine zG ?_|apply zA|intro h|exact zT));all_goals conv=>whnf
 refine hE _ _ _ _ _ _ _ qG qS qW qT hP qH ?_ zw;simp only[aA,aB]at*;omega
end Go.Proofs.YtgicddadddhonaaGreatDoor
