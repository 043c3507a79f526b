/- Lemmas. -/
import Derived.Test.YtnomkooikbhgmaaGreatDoorM35
set_option linter.unusedVariables false
set_option linter.unusedSimpArgs false
set_option maxRecDepth 100000
set_option maxHeartbeats 4000000
noncomputable section
namespace Go.Proofs.YtnomkooikbhgmaaGreatDoor
open Go Go.Vm
theorem enMin(raw:List Int)(pos:Nat)(hp:pos<=raw.length)(hr:raw.length<=9223372036854775807){K:KT}
  (hK:∀(m:Int) (pos':Nat),0<=m->m<10080->pos'<=raw.length->K (.v (.int .i64 m)) [tapeO raw pos']):AC 26 [.op 0 0] [tapeO raw pos] K:=by
 refine ofnMin rfl rfl ?_;(repeat' ((conv=>whnf);first|(with_reducible first|refine nNext raw _ _ zo zw hr fun m1 p1 hm1 hp1=>?_|refine hZ zo ?_|refine ix_intsB [0,479,480,481,1019,1020,1439,700] 8 0 1439 rfl rfl zd zo fun c h0 h1=>?_)|refine zG ?_|apply zA|intro h|exact zT));all_goals conv=>whnf
 all_goals exact hK _ _ zo zo zw
theorem enIntN(ns:Nat)(hns:ns<=4)(raw:List Int)(pos:Nat)(t:Tp)(hg:GTop t)(hp:pos<=raw.length)(hr:raw.length<=9223372036854775807){K:KT}
  (hK:∀(i:Nt) (pos':Nat),ENt i->pos'<=raw.length->K (encNt i) [tapeO raw pos']):
  AC 25 [.op 0 0,encT t,.v (.int .i64 ns)] [tapeO raw pos] K:=enInt raw pos t hg.e5 (by have:=hg.d6;omega) (tpn_top hg) ns hns hp hr hK
theorem coNet(ns:Nat)(hns:ns<=4)(raw:List Int)(pos:Nat)(hp:pos<=raw.length)(hr:raw.length<=9223372036854775807){K:KT}
  (hK:∀(t:Tp) (i:Nt) (m:Int) (pos':Nat),GTop t->t.devs.length<=3->ENt i->0<=m->m<10080->pos'<=raw.length->K (.tup [encT t,encNt i,.v (.int .i64 m)]) [tapeO raw pos']):
  AC 6 [.op 0 0,.v (.int .i64 3),.v (.int .i64 ns)] [tapeO raw pos] K:=by
 refine ofoNet rfl rfl ?_;(repeat' ((conv=>whnf);first|(with_reducible first|refine enTop3f raw _ zw hr fun t p1 ht hd hp1=>?_|refine enIntN ns hns raw _ _ zw zw hr fun i p2 hi hp2=>?_|refine enMin raw _ zw hr fun m p3 m0 m1 hp3=>?_)|refine zG ?_|apply zA|intro h|exact zT));all_goals conv=>whnf
 exact hK t i m p3 ht hd hi m0 m1 hp3
section
variable {t:Tp} {i:Nt} {l:List Sm} {p:Bool} {m:Int}
end
def eS:ByteArray:=⟨#[]⟩
def sshS:ByteArray:=⟨#[115,115,104]⟩
def qsnA:Sm:=⟨true,eS,eS,eS,false,eS,eS,eS,eS,0⟩
def qsnB:Sm:=⟨false,eS,eS,sshS,false,eS,eS,eS,eS,1⟩
def qsnN:Nt:=⟨[],[⟨sshS,[⟨4,eS,⟨0,0,by decide,by decide⟩,6,⟨22,22,by decide,by decide,by decide,by decide⟩⟩]⟩],[],[qsnA,qsnB],[],[]⟩
def qsnH:Hd:=⟨167772161,2886729729,6,1,22⟩
def qsnK:Hd:=⟨167772161,2886729729,6,1,23⟩
theorem qsnH_ok:qsnH.Ok:=⟨by decide,by decide,by decide,by decide,by decide,by decide,by decide,by decide,by decide,by decide⟩
theorem qsnK_ok:qsnK.Ok:=⟨by decide,by decide,by decide,by decide,by decide,by decide,by decide,by decide,by decide,by decide⟩
theorem eS_opt:optB eS=true:=by
 unfold optB;rw[show sEq eS ⟨#[]⟩=true from sEq_iff.2 rfl];rfl
theorem ssh_opt:optB sshS=true:=by
 unfold optB;rw[show nameB sshS=true from nameB_true (nameOk_data zd)];simp
theorem sEq_e:sEq eS ⟨#[]⟩=true:=sEq_iff.2 rfl
theorem qsnN_ok:NtOk qsnN:=by
 refine⟨dfsC_ok (by decide+kernel),dfsC_ok (by decide+kernel),by decide,by decide,by decide,by decide,fun k x h=>by simp[qsnN]at h,fun x hx=>?_,fun x h=>by simp[qsnN]at h,fun x h=>by simp[qsnN]at h⟩;simp only[qsnN,aU,dM,or_false]at hx;rcases hx with rfl|rfl
 ·simp only[smB,qsnA,eS_opt,sEq_e];decide
 ·simp only[smB,qsnB,eS_opt,ssh_opt,sEq_e];decide
theorem qsnN_bnd:Bnd qsnN:=by
 refine⟨by decide,by decide,by decide,by decide,by decide,by decide,fun x h=>by simp[qsnN]at h,fun x h=>?_,fun x h=>by simp[qsnN]at h,by decide,by decide⟩;simp only[qsnN,aU,dM,or_false]at h;subst h;decide
theorem qsn_grp:grpP netR qsnN eS=([pf0.rg,pf4.rg],0):=by
 have e:grpE netR qsnN.grps eS=(0,[pf0.rg,pf4.rg]):=by rw[grpE,aG sEq_e];rfl
 have hc:Canon [pf0.rg,pf4.rg]:=⟨fun r hr=>by
  simp only[aU,dM,or_false]at hr;rcases hr with rfl|rfl<;>decide,by
  refine bT.2 ⟨fun s hs=>?_,List.pairwise_singleton ..⟩;rw[aV.1 hs];decide⟩
 rw[grpP,e,aG rfl,canO_eq hc fun v=>rfl]
def qsnS(nm:ByteArray):List Bx×Int:=bindE (svcP qsnN nm) fun v=>bindE (makeP (btwB [pf0.rg,pf4.rg] [pf0.rg,pf4.rg])) fun b=>combP anB b v
theorem qsn_stm(x:Sm)(h1:x.frm=eS)(h2:x.to=eS)(h3:x.exc=false):stmP netR qsnN x=qsnS x.svc:=by
 unfold stmP qsnS;rw[h1,h2,h3,qsn_grp];rw[bindE_ok rfl,bindE_ok rfl];simp only[cM,if_false]
 congr 1
 funext v
 rw[bindE_ok rfl,bindE_ok rfl]
 congr 1
 funext b
 simp
def qsnR:List Bx:=(realP netR).1
def qsnX:List Bx:=(qsnS sshS).1
def qsnY:List Bx:=(qsnS eS).1
def qsnW:List Bx:=(combP woB qsnR qsnX).1
def qsnP:List Bx:=(combP orB [] (combP anB qsnW qsnY).1).1
theorem qsn_real:(realP netR).2=0:=by decide+kernel
theorem qsn_x:(qsnS sshS).2=0:=by decide+kernel
theorem qsn_y:(qsnS eS).2=0:=by decide+kernel
theorem qsn_1:(combP anB qsnR qsnX).2=0:=by decide+kernel
theorem qsn_2:(combP woB qsnR qsnX).2=0:=by decide+kernel
theorem qsn_3:(combP anB qsnW qsnY).2=0:=by decide+kernel
theorem qsn_4:(combP woB qsnW qsnY).2=0:=by decide+kernel
theorem qsn_5:(combP orB [] (combP anB qsnW qsnY).1).2=0:=by decide+kernel
theorem qsn_h:(qsnP.any fun b=>conB b qsnH)=false:=by decide+kernel
theorem qsn_k:(qsnP.any fun b=>conB b qsnK)=true:=by decide+kernel
theorem qsn_xh:(qsnX.any fun b=>conB b qsnH)=true:=by decide+kernel
theorem qsn_re:realH netR qsnH=true:=by decide+kernel
theorem qsn_ord:ordP qsnN 0=[1,0]:=by decide+kernel
theorem qsn_b:stmP netR qsnN qsnB=qsnS sshS:=qsn_stm qsnB rfl rfl rfl
theorem qsn_a:stmP netR qsnN qsnA=qsnS eS:=qsn_stm qsnA rfl rfl rfl
theorem qsnN_chk:chkP netR qsnN=0:=by
 have n1:namE netR qsnN qsnA=0:=by decide+kernel
 have n2:namE netR qsnN qsnB=0:=by decide+kernel
 have e1:fstE (fun d:Df=>(grpP netR qsnN d.name).2) qsnN.grps=0:=rfl;have e2:fstE (fun d:Df=>(svcP qsnN d.name).2) qsnN.svcs=0:=by decide+kernel
 have e3:fstE (fun s:Sm=>if(stmP netR qsnN s).2≠0 then(stmP netR qsnN s).2 else namE netR qsnN s) qsnN.sts=0:=by
  show fstE (fun s:Sm=>if(stmP netR qsnN s).2≠0 then(stmP netR qsnN s).2 else namE netR qsnN s) [qsnA,qsnB]=0;rw[fstE_cons,aD (by rw[qsn_a,qsn_y,n1];simp),fstE_cons,aD (by rw[qsn_b,qsn_x,n2];simp)];rfl
 rw[chkP_eq,e1,aD zx,e2,aD zx,e3,aD zx];rfl
theorem qsnN_pre:preV netR qsnN 0=0:=by
 rw[preV,aG ⟨comp_netR,ntB_true qsnN_ok⟩,aG zd,qsnN_chk]
theorem qsnN_at:atP netR qsnN 0=(⟨qsnP,[]⟩,0):=by
 have p1:putP [] qsnA.cls (combP anB qsnW qsnY).1=([],0):=by rw[putP,aG (.inl sEq_e)]
 rw[atP,aD (by rw[qsn_real];simp),qsn_ord,atGo];simp only[show qsnN.sts[1]? =some qsnB from rfl,qsn_b];rw[aD (by rw[show(combP anB (realP netR).1 (qsnS sshS).1).2=0 from qsn_1];simp),aD (by rw[show(combP woB (realP netR).1 (qsnS sshS).1).2=0 from qsn_2];simp),aG (show qsnB.permit=false from rfl),atGo];simp only[show qsnN.sts[0]? =some qsnA from rfl,qsn_a];rw[aD (by rw[show(combP anB (combP woB (realP netR).1 (qsnS sshS).1).1 (qsnS eS).1).2=0 from qsn_3];simp),aD (by rw[show(combP woB (combP woB (realP netR).1 (qsnS sshS).1).1 (qsnS eS).1).2=0 from qsn_4];simp),aD zd];rw[aD (by rw[show(combP orB zPol.allow (combP anB (combP woB (realP netR).1 (qsnS sshS).1).1 (qsnS eS).1).1).2=0 from qsn_5];simp)];rw[show putP zPol.insp qsnA.cls (combP anB (combP woB (realP netR).1 (qsnS sshS).1).1 (qsnS eS).1).1=([],0)from p1];rfl
theorem qsnN_dec:decV netR qsnN 0 qsnH=(false,1):=by
 have e:(ordP qsnN 0).find? (hitN netR qsnN (hdQ qsnH))=some 1:=by
  rw[qsn_ord,List.find?_cons];have:hitN netR qsnN (hdQ qsnH) 1=true:=by
   rw[<-hit_con (show qsnN.sts[1]? =some qsnB from rfl) qsnH_ok,qsn_b];exact qsn_xh
  rw[this]
 rw[decV,aD (by rw[qsnN_pre];simp),decH,aG qsn_re,e];rfl
theorem qsnN_pol:PolOk netR ⟨qsnP,[]⟩:=by
 have:=atP_ok (m:=0) comp_netR (ntB_true qsnN_ok) (by rw[qsnN_at])
 rwa[qsnN_at]at this
abbrev celA(fl:Bool)(a:List Bx):AV:=match fl with
 |true=>.nils
 |false=>encXs a
theorem cxUn0(b:List Bx)(hb:b.length<1000000000){K:KT}(hK:K (.tup [encXs (combP orB [] b).1,.v (.int .i64 (combP orB [] b).2)]) []):AC 80 [.lst [],encXs b] [] K:=cxUn [] b zx hb hK
theorem coTry(fl:Bool)(g:ByteArray->Option (List Bx))(rest allow:List Bx)(x:Sm)(S:List Bx)(h0:fl=true->allow=[])(hr:setB rest=true)(ha:setB allow=true)(hS:setB S=true)(hg:∀c s,g c=some s->setB s=true){K:KT}
  (hK:∀fl':Bool,(fl'=true->(tryP g rest allow x S).2.2.1=[])->K (.v (.int .i64 (tryP g rest allow x S).1)) [.box [encXs (tryP g rest allow x S).2.1,celA fl' (tryP g rest allow x S).2.2.1,.mp 1],.map (mapS (tryP g rest allow x S).2.2.2)]):
  AC 30 [.op 0 0,encSm x,encXs S] [.box [encXs rest,celA fl allow,.mp 1],.map (mapS g)] K:=by
 have lr:=setBlen hr;have la:=setBlen ha;have lS:=setBlen hS;have lA:(combP anB rest S).1.length<1000000000:=setBlen (setB_combP ..);unfold tryP at hK;refine ofoTry rfl rfl ?_;cases fl with
 |true=>
  obtain rfl:=h0 rfl;cases hgc:g x.cls with
  |none=>
   (repeat' ((conv=>whnf);first|(with_reducible first|refine cxInt rest S lr lS ?_|refine cxSub rest S lr lS ?_|refine cxUn0 _ lA ?_|refine mg_none (by simp only[mapS,hgc,Option.map_none]) ?_|refine gZ (mapS_upd g x.cls _) ?_)|refine zG ?_|apply zA|intro h|exact zT));all_goals conv=>whnf
   all_goals first
    |(rw[aG zw]at hK;exact hK true (fun _=>rfl))
    |(rw[aD (by simpa using(by with_reducible assumption:(combP anB rest S).2=0)),aG zw]at hK;exact hK true (fun _=>rfl))
    |(rw[aD (by simpa using(by with_reducible assumption:(combP anB rest S).2=0)),aD (by simpa using(by with_reducible assumption:(combP woB rest S).2=0)),aG zw]at hK
      have hz:(combP woB rest S).2=0:=by with_reducible assumption
      rw[hz];exact hK true (fun _=>rfl))
    |(rw[aD (by simpa using(by with_reducible assumption:(combP anB rest S).2=0)),aD (by simpa using(by with_reducible assumption:(combP woB rest S).2=0)),aD (by simp_all)]at hK
      first
       |(rw[aG zw]at hK;exact hK false (fun h=>by cases h))
       |(have hz:(combP orB [] (combP anB rest S).1).2=0:=by with_reducible assumption
         rw[aD (by simpa using hz)]at hK;first
          |(rw[aG (by unfold sEq;with_reducible assumption)]at hK
            rw[hz];exact hK false (fun h=>by cases h))
          |(rw[aD (by unfold sEq;simp_all)]at hK
            simp only[hgc,gK,cG]at hK;exact hK false (fun h=>by cases h))))
  |some u=>
   have lu:=setBlen (hg _ _ hgc);(repeat' ((conv=>whnf);first|(with_reducible first|refine cxInt rest S lr lS ?_|refine cxSub rest S lr lS ?_|refine cxUn0 _ lA ?_|refine cxUn u _ lu lA ?_|refine mg_some (x:=encXs u) (by simp only[mapS,hgc,cS]) ?_|refine gZ (mapS_upd g x.cls _) ?_)|refine zG ?_|apply zA|intro h|exact zT));all_goals conv=>whnf
   all_goals first
    |(rw[aG zw]at hK;exact hK true (fun _=>rfl))
    |(rw[aD (by simpa using(by with_reducible assumption:(combP anB rest S).2=0)),aG zw]at hK;exact hK true (fun _=>rfl))
    |(rw[aD (by simpa using(by with_reducible assumption:(combP anB rest S).2=0)),aD (by simpa using(by with_reducible assumption:(combP woB rest S).2=0)),aG zw]at hK
      have hz:(combP woB rest S).2=0:=by with_reducible assumption
      rw[hz];exact hK true (fun _=>rfl))
    |(rw[aD (by simpa using(by with_reducible assumption:(combP anB rest S).2=0)),aD (by simpa using(by with_reducible assumption:(combP woB rest S).2=0)),aD (by simp_all)]at hK
      first
       |(rw[aG zw]at hK;exact hK false (fun h=>by cases h))
       |(have hz:(combP orB [] (combP anB rest S).1).2=0:=by with_reducible assumption
         rw[aD (by simpa using hz)]at hK;first
          |(rw[aG (by unfold sEq;with_reducible assumption)]at hK
            rw[hz];exact hK false (fun h=>by cases h))
          |(rw[aD (by unfold sEq;simp_all)]at hK
            simp only[hgc,gK,cG]at hK;exact hK false (fun h=>by cases h))))
 |false=>
  cases hgc:g x.cls with
  |none=>
   (repeat' ((conv=>whnf);first|(with_reducible first|refine cxInt rest S lr lS ?_|refine cxSub rest S lr lS ?_|refine cxUn0 _ lA ?_|refine cxUn allow _ la lA ?_|refine mg_none (by simp only[mapS,hgc,Option.map_none]) ?_|refine gZ (mapS_upd g x.cls _) ?_)|refine zG ?_|apply zA|intro h|exact zT));all_goals conv=>whnf
   all_goals first
    |(rw[aG zw]at hK;exact hK false (fun h=>by cases h))
    |(rw[aD (by simpa using(by with_reducible assumption:(combP anB rest S).2=0)),aG zw]at hK;exact hK false (fun h=>by cases h))
    |(rw[aD (by simpa using(by with_reducible assumption:(combP anB rest S).2=0)),aD (by simpa using(by with_reducible assumption:(combP woB rest S).2=0)),aG zw]at hK
      have hz:(combP woB rest S).2=0:=by with_reducible assumption
      rw[hz];exact hK false (fun h=>by cases h))
    |(rw[aD (by simpa using(by with_reducible assumption:(combP anB rest S).2=0)),aD (by simpa using(by with_reducible assumption:(combP woB rest S).2=0)),aD (by simp_all)]at hK
      first
       |(rw[aG zw]at hK;exact hK false (fun h=>by cases h))
       |(have hz:(combP orB allow (combP anB rest S).1).2=0:=by with_reducible assumption
         rw[aD (by simpa using hz)]at hK;first
          |(rw[aG (by unfold sEq;with_reducible assumption)]at hK
            rw[hz];exact hK false (fun h=>by cases h))
          |(rw[aD (by unfold sEq;simp_all)]at hK
            simp only[hgc,gK,cG]at hK;exact hK false (fun h=>by cases h))))
  |some u=>
   have lu:=setBlen (hg _ _ hgc);(repeat' ((conv=>whnf);first|(with_reducible first|refine cxInt rest S lr lS ?_|refine cxSub rest S lr lS ?_|refine cxUn u _ lu lA ?_|refine cxUn allow _ la lA ?_|refine mg_some (x:=encXs u) (by simp only[mapS,hgc,cS]) ?_|refine gZ (mapS_upd g x.cls _) ?_)|refine zG ?_|apply zA|intro h|exact zT));all_goals conv=>whnf
   all_goals first
    |(rw[aG zw]at hK;exact hK false (fun h=>by cases h))
    |(rw[aD (by simpa using(by with_reducible assumption:(combP anB rest S).2=0)),aG zw]at hK;exact hK false (fun h=>by cases h))
    |(rw[aD (by simpa using(by with_reducible assumption:(combP anB rest S).2=0)),aD (by simpa using(by with_reducible assumption:(combP woB rest S).2=0)),aG zw]at hK
      have hz:(combP woB rest S).2=0:=by with_reducible assumption
      rw[hz];exact hK false (fun h=>by cases h))
    |(rw[aD (by simpa using(by with_reducible assumption:(combP anB rest S).2=0)),aD (by simpa using(by with_reducible assumption:(combP woB rest S).2=0)),aD (by simp_all)]at hK
      first
       |(rw[aG zw]at hK;exact hK false (fun h=>by cases h))
       |(have hz:(combP orB allow (combP anB rest S).1).2=0:=by with_reducible assumption
         rw[aD (by simpa using hz)]at hK;first
          |(rw[aG (by unfold sEq;with_reducible assumption)]at hK
            rw[hz];exact hK false (fun h=>by cases h))
          |(rw[aD (by unfold sEq;simp_all)]at hK
            simp only[hgc,gK,cG]at hK;exact hK false (fun h=>by cases h))))
theorem coNaNS(x:ByteArray){K:KT}(hK:K (.sb false) []):AC 83 [.v (.string x)] [] K:=by
 refine ofoNaNS rfl rfl ?_;(repeat' ((conv=>whnf);first|refine zG ?_|apply zA|intro h|exact zT));all_goals conv=>whnf
 have e:(!(x.toList==x.toList))=false:=by simp
 first
  |(unfold one?;rw[e];exact hK)
  |exact fin_f hK e
theorem coCmpS(x y:ByteArray){K:KT}(hK:K (.v (.int .i64 (cmpB x y))) []):AC 33 [.v (.string x),.v (.string y)] [] K:=by
 refine ofoCmpS rfl rfl ?_;(repeat' ((conv=>whnf);first|(with_reducible refine coNaNS _ ?_)|refine zG ?_|apply zA|intro h|exact zT));all_goals conv=>whnf
 all_goals
  unfold cmpB ltS at hK;first
   |(rw[aG zw]at hK;exact hK)
   |(rename_i h0
     simp only[eN]at h;rw[aD (by rw[h0];decide),aG (bl_total _ _ h.1 h.2)]at hK;exact hK)
   |(rename_i h0
     rw[h0,fV]at h;have e:x=y:=sEq_iff.1 h;subst e;rw[aD (by rw[h0];decide),aD (by rw[h0];decide)]at hK;exact hK)
theorem mapS_nil:mapS (fun _=>none)=fun _=>none:=by
 funext v
 cases v<;>rfl
theorem coAt1(x y:Insp){K:KT}(hK:K (.v (.int .i64 (cmpB x.cls y.cls))) []):AC 32 [encIn x,encIn y] [] K:=by
 refine ofoAt1 rfl rfl ?_;(repeat' ((conv=>whnf);first|(with_reducible refine coCmpS _ _ ?_)|refine zG ?_|apply zA|intro h|exact zT));all_goals conv=>whnf
 exact hK
structure AtL (t:Tp) (i:Nt) (m:Int) (k:Nat) (fl:Bool) (rest:List Bx) (p:Pol) (g:ByteArray->Option (List Bx)):Prop where
 kn:k<=(ordP i m).length
 eq:atGo t i (ordP i m) (realP t).1 zPol=atGo t i ((ordP i m).drop k) rest p
 mp:MapR g p.insp
 rs:setB rest=true
 al:setB p.allow=true
 z:fl=true->p.allow=[]
 few:p.insp.length<=k
theorem coAt(t:Tp)(ht:t.edges.length<1000)(hd:t.devs.length<1000)(i:Nt)(hb:Bnd i)(hs:i.sts.length<=12)(m:Int){K:KT}(hK:K (.tup [encPol (atV t i m).1,.v (.int .i64 (atV t i m).2)]) []):
  AC 7 [encT t,encNt i,.v (.int .i64 m)] [] K:=by
 have hKz:∀e:Int,atV t i m=(zPol,e)->∃y,Weak (.tup [.agg [.nils,.nils],.v (.int .i64 e)]) y/\K y []:=fun e he=>by
  rw[he]at hK;exact⟨_,gQ (gS (ys:=[.lst [],.lst []]) ⟨Weak.nils,gR,trivial⟩) gM,hK⟩
 refine gP (ofoAt rfl rfl ?_);by_cases hp:preV t i m=0
 case neg=>
  have hz:atV t i m=(zPol,preV t i m):=by rw[atV,aG hp]
  (repeat' ((conv=>whnf);first|(with_reducible refine coChk t ht hd i hb m ?_)|refine zG ?_|apply zA|intro h|exact zT));all_goals conv=>whnf
  all_goals first
   |exact hKz _ hz
   |exact absurd zw hp
 have hv:atV t i m=atP t i m:=by rw[atV,aD zo]
 have hpp:=hp;unfold preV at hpp;have hcn:compB t=true/\ntB i=true:=Decidable.byContradiction fun h=>by rw[aD h]at hpp;cases hpp
 rw[aG hcn]at hpp;have hmm:0<=m/\m<10080:=Decidable.byContradiction fun h=>by rw[aD h]at hpp;cases hpp
 rw[aG hmm]at hpp;have hord:ordV i m=ordP i m:=by rw[ordV,aG ⟨hcn.2,hmm⟩]
 have hchk:∀{K:KT},K (.v (.int .i64 0)) []->AC 27 [encT t,encNt i,.v (.int .i64 m)] [] K:=fun h=>coChk t ht hd i hb m (by rw[hp];exact h);have hoc:∀{K:KT},K (.lst ((ordP i m).map vN)) []->AC 19 [encNt i,.v (.int .i64 m)] [] K:=fun h=>coOrd i hb hs m (by rw[hord];exact h);unfold atP at hv;(repeat' ((conv=>whnf);first|(with_reducible first|refine hchk ?_|refine coReal t ht hcn.1 ?_|refine hoc ?_)|refine zG ?_|apply zA|intro h|exact zT));all_goals conv=>whnf
 all_goals first
  |(rw[aG zw]at hv;exact hKz _ hv)
  |skip
 rw[aD (by simpa using(by assumption:(realP t).2=0))]at hv;have hrs:setB (realP t).1=true:=by
  unfold realP;split
  ·exact setB_nil
  ·exact setB_combP ..
 refine gL (Nat×Bool×List Bx×Pol×(Value->Option AV)) (fun q=>⟨5,[(0,boxT t),(1,boxNt i),(2,.box [.nils,.nils]),(3,.box [encXs q.2.2.1,celA q.2.1 q.2.2.2.1.allow,.mp 4]),(4,.map q.2.2.2.2)],[(3,.op 0 0),(4,.op 1 0),(6,.op 2 0),(11,.op 3 0),(42,.lst ((ordP i m).map vN)),(43,.v (.int .i64 (((ordP i m).map vN).length:Nat))),(44,.v (.int .i64 q.1))]⟩)
  (fun q=>∃g,q.2.2.2.2=mapS g/\AtL t i m q.1 q.2.1 q.2.2.1 q.2.2.2.1 g) (fun q=>(ordP i m).length-q.1) (0,true,(realP t).1,zPol,fun _=>none) ⟨fun _=>none,mapS_nil.symm,aK _,by simp,mapR_nil,hrs,setB_nil,fun _=>rfl,aM _⟩ ?_ ?_
 ·exact leA
 rintro⟨k,fl,rest,p,F⟩ ⟨g,hF,hg⟩
 simp only at hF hg⊢;subst hF;have hkn:=hg.kn;have hol:(ordP i m).length<=12:=aZ (ordP_len (nt_pri hcn.2)) hs;rcases aF k (ordP i m).length with hkl|hkl
 ·obtain⟨n,hn⟩:∃n,(ordP i m)[k]? =some n:=⟨_,aE hkl⟩
  have hnl:=ordF_lt (aI hn);obtain⟨x,hx⟩:=gex hnl;have hdr:(ordP i m).drop k=n::(ordP i m).drop (k+1):=by
   rw[aE hkl]at hn;rw[<-bE hn,<-bB hkl]
  have hse:=chk_stm hpp x (aI hx);have hsv:stmV t i (n:Int)=((stmP t i x).1,0):=by
   rw[stmV,aG hcn,aD zo,eJ,hx];exact Prod.ext rfl hse
  have hst:∀{K:KT},K (.tup [encXs (stmP t i x).1,.v (.int .i64 0)]) []->AC 29 [encT t,encNt i,.v (.int .i64 n)] [] K:=fun h=>
   crStatement t zo i hb n (by rw[hsv];exact h)
  obtain⟨s1,s2⟩:=try_step (r:=(ordP i m).drop (k+1)) hx (rest:=rest) hg.mp;rw[<-hdr,<-hg.eq]at s1 s2;have htry:=fun {K} h=>@coTry fl g rest p.allow x (stmP t i x).1 hg.z hg.rs hg.al (stmP_set t i x) hg.mp.set K h;generalize hq:tryP g rest p.allow x (stmP t i x).1=q at*;obtain⟨e,rest',allow',g'⟩:=q;simp only at s1 s2 htry;have hnext:∀fl':Bool,(fl'=true->allow'=[])->e=0->∃l,AtL t i m (k+1) fl' rest' ⟨allow',l⟩ g':=by
   intro fl' hf he;obtain⟨l,q1,q2,q3,q4,q5⟩:=s2 he hg.rs hg.al;exact⟨l,hkl,q1,q3,q4,q5,hf,by have:=hg.few;simp only;omega⟩
  have hend:e≠0->atV t i m=(zPol,e):=fun he=>hv.trans (s1 he);clear s1 s2 hv;cases fl
  all_goals
   (repeat' ((conv=>whnf);first|(with_reducible first|refine hU hkl ?_|refine hJ hn ?_|refine hst ?_|refine hU hnl ?_|refine hJ hx ?_|refine htry fun fl' hfl'=>?_)|refine zG ?_|apply zA|intro h|exact zT));all_goals conv=>whnf
   have hnx:=hnext fl' hfl';clear htry hst hnext;cases fl'
   all_goals
    (repeat' ((conv=>whnf);first|refine zG ?_|apply zA|intro h|exact zT));all_goals conv=>whnf
    all_goals first
     |exact hKz _ (hend zw)
     |(obtain⟨l,hl⟩:=hnx zw
       refine⟨(k+1,_,rest',⟨allow',l⟩,mapS g'),⟨g',rfl,hl⟩,by simp only;omega,?_⟩;simp only[aO,aN];exact leA)
 ·have hke:(ordP i m).drop k=[]:=gD hkl;have hpe:atV t i m=(p,0):=by rw[hv,hg.eq,hke,atGo]
  have hfew:p.insp.length<=12:=by
   have:=hg.few;omega
  have hmp:=hg.mp;have hz:=hg.z;clear hg hv;cases fl with
  |false=>
   (repeat' ((conv=>whnf);first|(with_reducible refine Vm.Rg.mk fun τ L hn hm=>?_)|refine zG ?_|apply zA|intro h|exact zT));all_goals conv=>whnf
   have hm':∀k,k∈L↔∃s,g k=some s:=fun k=>by
    rw[hm k];simp only[mapS,bM];exact⟨fun⟨_,s,h,_⟩=>⟨s,h⟩,fun⟨s,h⟩=>⟨_,s,h,rfl⟩⟩
   refine gL (List ByteArray×Option ByteArray×List Insp) (fun q=>⟨5,[(0,.box [.nils,.nils]),(1,.box [encXs p.allow,.os 2 2 0 q.2.2.length]),(2,.arr 2 (q.2.2.map encIn)),(3,.spc (.mt (mapS g) τ)),(4,.spc (.it (some 3) τ q.1 q.2.1))],[(6,.op 0 0),(17,.op 1 0),(75,.mp 3),(76,.op 4 0)]⟩)
    (fun q=>(q.2.2++outL g q.1).Perm p.insp) (fun q=>q.1.length) (L,none,[]) (by simpa using out_perm hmp hn hm') ?_ ?_
   ·exact leA
   rintro⟨L',last,C⟩ hC
   simp only at hC⊢;have hCl:C.length<=12:=by
    have:=hC.length_eq;rw[aC]at this;omega
   (conv=>whnf)
   refine Nx.mk rfl (fun hL0=>?_) (fun l1 k1 l2 y hL1 hy=>?_)
   ·subst hL0;have hC:C.Perm p.insp:=by simpa[outL]using hC
    have hso:∀{K:KT},K (.tup []) [.arr 2 (p.insp.map encIn)]->AC 31 [.os 0 2 0 C.length,.fn (.func 32) [] []] [.arr 2 (C.map encIn)] K:=fun h=>
     coSortI _ (fun x y=>cmpB x.cls y.cls) C hCl (fun x y _ _ K h=>coAt1 x y h) (by rw[insp_sort hC hmp.od];exact h)
    rw[hpe]at hK;have hfl:(p.insp.map encIn).length=C.length:=by rw[aA,hC.length_eq]
    (repeat' ((conv=>whnf);first|(with_reducible first|refine hso ?_|refine sl_full hfl ?_)|refine zG ?_|apply zA|intro h|exact zT));all_goals conv=>whnf
    exact⟨_,gM,hK⟩
   ·obtain⟨s,hs1,rfl⟩:∃s,g k1=some s/\y=encXs s:=by
     simp only[mapS,bM]at hy;obtain⟨s,h1,h2⟩:=hy;exact⟨s,h1,h2.symm⟩
    have hC1:(C++outL g (l1++k1::l2)).Perm p.insp:=by rw[<-hL1];exact hC
    have hmid:((C++outK g k1)++outL g (l1++l2)).Perm p.insp:=(outL_mid g C l1 k1 l2).symm.trans hC1;have hok:outK g k1=if s=[]then []else [⟨k1,s⟩]:=by simp[outK,hs1]
    have hlt:(l1++l2).length<L'.length:=by rw[hL1];simp
    (repeat' ((conv=>whnf);first|(with_reducible refine En.mk rfl ⟨_,hy,?_⟩)|refine zG ?_|apply zA|intro h|exact zT));all_goals conv=>whnf
    all_goals first
     |(have hs0:s≠[]:=fun e=>by
        rw[e,bL,aH]at h;omega
       have hmid:=hmid;rw[hok,aD hs0]at hmid;refine⟨(l1++l2,some k1,C++[⟨k1,s⟩]),hmid,hlt,?_⟩;simp only[aQ,aC,aR,bL,aB,aH];exact leA)
     |(have hs0:s=[]:=bY.1 (by simp only[aA]at*;omega)
       have hmid:=hmid;rw[hok,aG hs0,bF]at hmid;refine⟨(l1++l2,some k1,C),hmid,hlt,?_⟩;exact leA)
  |true=>
   (repeat' ((conv=>whnf);first|(with_reducible refine Vm.Rg.mk fun τ L hn hm=>?_)|refine zG ?_|apply zA|intro h|exact zT));all_goals conv=>whnf
   have hm':∀k,k∈L↔∃s,g k=some s:=fun k=>by
    rw[hm k];simp only[mapS,bM];exact⟨fun⟨_,s,h,_⟩=>⟨s,h⟩,fun⟨s,h⟩=>⟨_,s,h,rfl⟩⟩
   refine gL (List ByteArray×Option ByteArray×List Insp) (fun q=>⟨5,[(0,.box [.nils,.nils]),(1,.box [.nils,.os 2 2 0 q.2.2.length]),(2,.arr 2 (q.2.2.map encIn)),(3,.spc (.mt (mapS g) τ)),(4,.spc (.it (some 3) τ q.1 q.2.1))],[(6,.op 0 0),(17,.op 1 0),(75,.mp 3),(76,.op 4 0)]⟩)
    (fun q=>(q.2.2++outL g q.1).Perm p.insp) (fun q=>q.1.length) (L,none,[]) (by simpa using out_perm hmp hn hm') ?_ ?_
   ·exact leA
   rintro⟨L',last,C⟩ hC
   simp only at hC⊢;have hCl:C.length<=12:=by
    have:=hC.length_eq;rw[aC]at this;omega
   (conv=>whnf)
   refine Nx.mk rfl (fun hL0=>?_) (fun l1 k1 l2 y hL1 hy=>?_)
   ·subst hL0;have hC:C.Perm p.insp:=by simpa[outL]using hC
    have hso:∀{K:KT},K (.tup []) [.arr 2 (p.insp.map encIn)]->AC 31 [.os 0 2 0 C.length,.fn (.func 32) [] []] [.arr 2 (C.map encIn)] K:=fun h=>
     coSortI _ (fun x y=>cmpB x.cls y.cls) C hCl (fun x y _ _ K h=>coAt1 x y h) (by rw[insp_sort hC hmp.od];exact h)
    rw[hpe]at hK;have hfl:(p.insp.map encIn).length=C.length:=by rw[aA,hC.length_eq]
    (repeat' ((conv=>whnf);first|(with_reducible first|refine hso ?_|refine sl_full hfl ?_)|refine zG ?_|apply zA|intro h|exact zT));all_goals conv=>whnf
    refine⟨.tup [encPol p,.v (.int .i64 0)],gQ (gS ⟨by rw[hz rfl];exact gR,gM,trivial⟩) gM,hK⟩
   ·obtain⟨s,hs1,rfl⟩:∃s,g k1=some s/\y=encXs s:=by
     simp only[mapS,bM]at hy;obtain⟨s,h1,h2⟩:=hy;exact⟨s,h1,h2.symm⟩
    have hC1:(C++outL g (l1++k1::l2)).Perm p.insp:=by rw[<-hL1];exact hC
    have hmid:((C++outK g k1)++outL g (l1++l2)).Perm p.insp:=(outL_mid g C l1 k1 l2).symm.trans hC1;have hok:outK g k1=if s=[]then []else [⟨k1,s⟩]:=by simp[outK,hs1]
    have hlt:(l1++l2).length<L'.length:=by rw[hL1];simp
    (repeat' ((conv=>whnf);first|(with_reducible refine En.mk rfl ⟨_,hy,?_⟩)|refine zG ?_|apply zA|intro h|exact zT));all_goals conv=>whnf
    all_goals first
     |(have hs0:s≠[]:=fun e=>by
        rw[e,bL,aH]at h;omega
       have hmid:=hmid;rw[hok,aD hs0]at hmid;refine⟨(l1++l2,some k1,C++[⟨k1,s⟩]),hmid,hlt,?_⟩;simp only[aQ,aC,aR,bL,aB,aH];exact leA)
     |(have hs0:s=[]:=bY.1 (by simp only[aA]at*;omega)
       have hmid:=hmid;rw[hok,aG hs0,bF]at hmid;refine⟨(l1++l2,some k1,C),hmid,hlt,?_⟩;exact leA)
theorem coLNet{K:KT}(hK:K (encT netR) []):AC 23 [] [] K:=by
 refine gP (ofoLNet rfl rfl ?_);(repeat' ((conv=>whnf);first|(refine cwSub0 ?_)|(refine cwSub4 ?_)|refine zG ?_|apply zA|intro h|exact zT));all_goals conv=>whnf
 exact⟨encT netR,gS (ys:=[_,.lst [],_,.lst [],_]) ⟨Weak.refl,gR,gM,gR,gM,trivial⟩,hK⟩
end Go.Proofs.YtnomkooikbhgmaaGreatDoor
