/- A further statement with the lowest priority: plain. -/
import Derived.Test.YtbdikofefjljoaaGreatDoorJ32
set_option linter.unusedVariables false
set_option linter.unusedSimpArgs false
set_option maxRecDepth 100000
set_option maxHeartbeats 40000000
namespace Go.Proofs.YtbdikofefjljoaaGreatDoor
open Go Go.Vm
def wSts(i:Nt)(l:List Sm):Nt:=⟨i.grps,i.svcs,i.wins,l,i.pubs,i.hids⟩
def lowS(p:Bool):Sm:=⟨p,⟨#[]⟩,⟨#[]⟩,⟨#[]⟩,false,⟨#[]⟩,⟨#[]⟩,⟨#[]⟩,⟨#[]⟩,0⟩
section
variable {t:Tp} {i:Nt} {l:List Sm} {p:Bool} {m:Int}
theorem low_sts{n:Nat}(h:n<l.length):(wSts i (l++[lowS p])).sts[n]? =(wSts i l).sts[n]? :=bC h
theorem low_last:(wSts i (l++[lowS p])).sts[l.length]? =some (lowS p):=by
 show(l++[lowS p])[l.length]? =_
 rw[bB (aJ _),dN];rfl
theorem low_pri{n:Nat}(h:n<l.length):priN (wSts i (l++[lowS p])) n=priN (wSts i l) n:=by unfold priN;rw[low_sts h]
theorem low_act{n:Nat}(h:n<l.length):actN (wSts i (l++[lowS p])) m n=actN (wSts i l) m n:=by unfold actN;rw[low_sts h];rfl
theorem low_at(q:Int)(k:Nat)(hk:k<=l.length):priAt (wSts i (l++[lowS p])) m q k=priAt (wSts i l) m q k:=by
 unfold priAt
 refine List.filter_congr fun n hn=>?_
 have:=dK.1 hn
 rw[low_pri zo,low_act zo]
theorem low_ordF(hp:∀x,x∈l->1<=x.pri):∀c,c<=1000->ordF (wSts i (l++[lowS p])) m c=ordF (wSts i l) m c
 |0,_=>rfl
 |c+1,h=>by
  have hlen:(wSts i (l++[lowS p])).sts.length=l.length+1:=by simp[wSts]
  rw[ordF_succ,ordF_succ,low_ordF hp c zo,hlen,priAt_succ,low_at _ _ (aJ _)]
  have:priN (wSts i (l++[lowS p])) l.length=0:=by unfold priN;rw[low_last];rfl
  rw[this,decide_eq_false zo]
  simp[wSts]
theorem low_ord(hp:∀x,x∈l->1<=x.pri):ordP (wSts i (l++[lowS p])) m=ordP (wSts i l) m++[l.length]:=by
 have hlen:(wSts i (l++[lowS p])).sts.length=l.length+1:=by simp[wSts]
 unfold ordP
 rw[ordF_succ _ _ 1000,ordF_succ _ _ 1000,low_ordF hp 1000 (aJ _),hlen,priAt_succ,low_at _ _ (aJ _)]
 have h0:priN (wSts i (l++[lowS p])) l.length=0:=by unfold priN;rw[low_last];rfl
 have ha:actN (wSts i (l++[lowS p])) m l.length=true:=by unfold actN;rw[low_last];simp[lowS,actB,sEq_self]
 have hz:priAt (wSts i l) m (1000-((1000:Nat):Int)) l.length=[]:=by
  rw[List.eq_nil_iff_forall_not_mem]
  intro n hn
  obtain⟨h1,h2,_⟩:=priAt_mem.1 hn
  have:=hp l[n] (dG h1)
  rw[priN,show(wSts i l).sts=l from rfl,aB h1]at h2
  simp only[cZ,cW]at h2
  omega
 rw[hz,show(wSts i l).sts.length=l.length from rfl,hz,h0,ha]
 simp
theorem low_hit{q:Nat->Int}{n:Nat}(h:n<l.length):hitN t (wSts i (l++[lowS p])) q n=hitN t (wSts i l) q n:=by unfold hitN;rw[low_sts h];rfl
theorem low_per{n:Nat}(h:n<l.length):perN (wSts i (l++[lowS p])) n=perN (wSts i l) n:=by unfold perN;rw[low_sts h]
theorem edge_grp{t:Tp}(hc:compB t=true)(i:Nt){v:Int}(h:0<=edgeAt t v):has (grpP t i ⟨#[]⟩).1 v=true:=by
 have e:grpE t i.grps ⟨#[]⟩=(0,t.edges.map fun e=>e.pf.rg):=by unfold grpE;rw[aH (sEq_self _)]
 unfold grpP
 rw[e]
 simp only[if_true]
 rw[(canO_has _).2]
 rcases firstIx_cases (fun e:Ed=> !e.pl&&e.pf.has v) t.edges with h1|⟨k,x,h1,h2⟩
 ·have h1:edgeAt t v= -1:=h1
  omega
 ·obtain⟨e,he,_,h3⟩:=(at_law hc x.zone v).2 ⟨k,x,h1,h2,sEq_self _⟩
  obtain⟨r,hr,h4,h5⟩:=has_iff.1 h3
  exact has_iff.2 ⟨r,bK.2 ⟨e,he,(aR.1 hr).symm⟩,h4,h5⟩
theorem low_all(hc:compB t=true)(hi:GNt i)(h5:t.edges.length<=5)(hs:DfsOk i.svcs false)(he:(stmP t i (lowS p)).2=0){h:Hd}(ho:h.Ok)(hr:realH t h=true):memK (hdQ h) 5 (stmP t i (lowS p)).1=true:=by
 rw[realH,aF,aI,con_mem init_set ho]at hr
 obtain⟨⟨h1,h2,h3⟩,h4⟩:=hr
 rw[((stmP_ok (rgsI_few h5 hi) hs (svcI_kind hi) (svcI_few hi) (lowS p)).2 he).2 _ (hdQ_in ho)]
 have e1:=edge_grp hc i h1
 have e2:=edge_grp hc i h2
 have e3:svcP i ⟨#[]⟩=(initS,0):=by unfold svcP;rw[aH (sEq_self _)]
 simp only[lowS,fD,eL,fL,e3,h4]
 simp only[hdQ]
 rw[e1,e2];rfl
structure PriF (t:Tp) (p:Bool) (n:Nat) (h:Hd) (a b:Bool×Int):Prop where
 same:0<=a.2->b=a
 last:a.2<0->0<=b.2->b=(p,(n:Int))
 none:a.2<0->b.2<0->realH t h=false
theorem pri_law(hi:GNt i)(h5:t.edges.length<=5)(hs:DfsOk i.svcs false)(hp:∀x,x∈l->1<=x.pri)(ha:preV t (wSts i l) m=0)(hb:preV t (wSts i (l++[lowS p])) m=0){h:Hd}(ho:h.Ok):
  PriF t p l.length h (decV t (wSts i l) m h) (decV t (wSts i (l++[lowS p])) m h):=by
 have hse:(stmP t i (lowS p)).2=0:=chk_stm (pre_ok hb).2.2 (lowS p) (show lowS p∈l++[lowS p] by simp)
 have va:decV t (wSts i l) m h=match decH t (wSts i l) m h with
  |some n=>(perN (wSts i l) n,(n:Int))
  |none=>(false,-1):=by rw[decV,aE zo];rfl
 have vb:decV t (wSts i (l++[lowS p])) m h=match decH t (wSts i (l++[lowS p])) m h with
  |some n=>(perN (wSts i (l++[lowS p])) n,(n:Int))
  |none=>(false,-1):=by rw[decV,aE zo];rfl
 rw[va,vb]
 unfold decH
 cases hr:realH t h with
 |false=>
  simp only[cL,if_false]
  exact⟨fun h=>by simp at h,fun _ h=>by simp at h,fun _ _=>hr⟩
 |true=>
  simp only[if_true]
  have hlast:hitN t (wSts i (l++[lowS p])) (hdQ h) l.length=true:=by
   unfold hitN;rw[low_last];exact low_all (pre_ok hb).1.1 hi h5 hs hse ho hr
  have hcon:(ordP (wSts i l) m).find? (hitN t (wSts i (l++[lowS p])) (hdQ h))=(ordP (wSts i l) m).find? (hitN t (wSts i l) (hdQ h)):=by
   have:∀L:List Nat,(∀n,n∈L->n<l.length)->L.find? (hitN t (wSts i (l++[lowS p])) (hdQ h))=L.find? (hitN t (wSts i l) (hdQ h)):=by
    intro L
    induction L with
    |nil=>intro _;rfl
    |cons n L ih=>
     intro hL
     rw[fJ,fJ,low_hit (hL n zx),ih fun k hk=>hL k (aX _ hk)]
   exact this _ fun n hn=>ordF_lt hn
  rw[low_ord hp,List.find?_append,hcon]
  cases hf:(ordP (wSts i l) m).find? (hitN t (wSts i l) (hdQ h))with
  |none=>
   simp only[Option.none_or,fJ,hlast]
   refine⟨fun h=>by simp at h,fun _ _=>?_,fun _ h=>by simp at h;omega⟩
   have:perN (wSts i (l++[lowS p])) l.length=p:=by unfold perN;rw[low_last];rfl
   rw[this]
  |some n=>
   have hn:n<l.length:=ordF_lt (List.mem_of_find?_eq_some hf)
   simp only[dP]
   rw[low_per hn]
   exact⟨fun _=>rfl,fun h=>by simp at h;omega,fun h=>by simp at h;omega⟩
end
def eS:ByteArray:=⟨#[]⟩
def sshS:ByteArray:=⟨#[115,115,104]⟩
def qsnA:Sm:=⟨true,eS,eS,eS,false,eS,eS,eS,eS,0⟩
def qsnB:Sm:=⟨false,eS,eS,sshS,false,eS,eS,eS,eS,1⟩
def qsnN:Nt:=⟨[],[⟨sshS,[⟨4,eS,⟨0,0,by decide,by decide⟩,6,⟨22,22,by decide,by decide,by decide,by decide⟩⟩]⟩],[],[qsnA,qsnB],[],[]⟩
def qsnH:Hd:=⟨167772161,2886729729,6,1,22⟩
def qsnK:Hd:=⟨167772161,2886729729,6,1,23⟩
theorem qsnH_ok:qsnH.Ok:=⟨by decide,by decide,by decide,by decide,by decide,by decide,by decide,by decide,by decide,by decide⟩
theorem qsnK_ok:qsnK.Ok:=⟨by decide,by decide,by decide,by decide,by decide,by decide,by decide,by decide,by decide,by decide⟩
theorem eS_opt:optB eS=true:=by
 unfold optB
 rw[show sEq eS ⟨#[]⟩=true from sEq_iff.2 rfl];rfl
theorem ssh_opt:optB sshS=true:=by
 unfold optB
 rw[show nameB sshS=true from nameB_true (nameOk_data zd)];simp
theorem sEq_e:sEq eS ⟨#[]⟩=true:=sEq_iff.2 rfl
theorem qsnN_ok:NtOk qsnN:=by
 refine⟨dfsC_ok (by decide+kernel),dfsC_ok (by decide+kernel),by decide,by decide,by decide,by decide,fun k x h=>by simp[qsnN]at h,fun x hx=>?_,fun x h=>by simp[qsnN]at h,fun x h=>by simp[qsnN]at h⟩
 simp only[qsnN,aS,cK,or_false]at hx
 rcases hx with rfl|rfl
 ·simp only[smB,qsnA,eS_opt,sEq_e];decide
 ·simp only[smB,qsnB,eS_opt,ssh_opt,sEq_e];decide
theorem qsnN_bnd:Bnd qsnN:=by
 refine⟨by decide,by decide,by decide,by decide,by decide,by decide,fun x h=>by simp[qsnN]at h,fun x h=>?_,fun x h=>by simp[qsnN]at h,by decide,by decide⟩
 simp only[qsnN,aS,cK,or_false]at h
 subst h
 decide
theorem qsn_grp:grpP netR qsnN eS=([pf0.rg,pf4.rg],0):=by
 have e:grpE netR qsnN.grps eS=(0,[pf0.rg,pf4.rg]):=by rw[grpE,aH sEq_e];rfl
 have hc:Canon [pf0.rg,pf4.rg]:=⟨fun r hr=>by
  simp only[aS,cK,or_false]at hr
  rcases hr with rfl|rfl<;>decide,by
  refine cB.2 ⟨fun s hs=>?_,List.pairwise_singleton ..⟩
  rw[aR.1 hs];decide⟩
 rw[grpP,e,aH rfl,canO_eq hc fun v=>rfl]
def qsnS(nm:ByteArray):List Bx×Int:=bindE (svcP qsnN nm) fun v=>bindE (makeP (btwB [pf0.rg,pf4.rg] [pf0.rg,pf4.rg])) fun b=>combP anB b v
theorem qsn_stm(x:Sm)(h1:x.frm=eS)(h2:x.to=eS)(h3:x.exc=false):stmP netR qsnN x=qsnS x.svc:=by
 unfold stmP qsnS
 rw[h1,h2,h3,qsn_grp]
 rw[bindE_ok rfl,bindE_ok rfl]
 simp only[cL,if_false]
 congr 1
 funext v
 rw[bindE_ok rfl,bindE_ok rfl]
 congr 1
 funext b
 simp
def qsnR:List Bx:=(realP netR).1
def qsnX:List Bx:=(qsnS sshS).1
def qsnY:List Bx:=(qsnS eS).1
def qsnW:List Bx:=(combP woB qsnR qsnX).1
def qsnP:List Bx:=(combP orB [] (combP anB qsnW qsnY).1).1
theorem qsn_real:(realP netR).2=0:=by decide+kernel
theorem qsn_x:(qsnS sshS).2=0:=by decide+kernel
theorem qsn_y:(qsnS eS).2=0:=by decide+kernel
theorem qsn_1:(combP anB qsnR qsnX).2=0:=by decide+kernel
theorem qsn_2:(combP woB qsnR qsnX).2=0:=by decide+kernel
theorem qsn_3:(combP anB qsnW qsnY).2=0:=by decide+kernel
theorem qsn_4:(combP woB qsnW qsnY).2=0:=by decide+kernel
theorem qsn_5:(combP orB [] (combP anB qsnW qsnY).1).2=0:=by decide+kernel
theorem qsn_h:(qsnP.any fun b=>conB b qsnH)=false:=by decide+kernel
theorem qsn_k:(qsnP.any fun b=>conB b qsnK)=true:=by decide+kernel
theorem qsn_xh:(qsnX.any fun b=>conB b qsnH)=true:=by decide+kernel
theorem qsn_re:realH netR qsnH=true:=by decide+kernel
theorem qsn_ord:ordP qsnN 0=[1,0]:=by decide+kernel
theorem qsn_b:stmP netR qsnN qsnB=qsnS sshS:=qsn_stm qsnB rfl rfl rfl
theorem qsn_a:stmP netR qsnN qsnA=qsnS eS:=qsn_stm qsnA rfl rfl rfl
theorem qsnN_chk:chkP netR qsnN=0:=by
 have n1:namE netR qsnN qsnA=0:=by decide+kernel
 have n2:namE netR qsnN qsnB=0:=by decide+kernel
 have e1:fstE (fun d:Df=>(grpP netR qsnN d.name).2) qsnN.grps=0:=rfl
 have e2:fstE (fun d:Df=>(svcP qsnN d.name).2) qsnN.svcs=0:=by decide+kernel
 have e3:fstE (fun s:Sm=>if(stmP netR qsnN s).2≠0 then(stmP netR qsnN s).2 else namE netR qsnN s) qsnN.sts=0:=by
  show fstE (fun s:Sm=>if(stmP netR qsnN s).2≠0 then(stmP netR qsnN s).2 else namE netR qsnN s) [qsnA,qsnB]=0
  rw[fstE_cons,aE (by rw[qsn_a,qsn_y,n1];simp),fstE_cons,aE (by rw[qsn_b,qsn_x,n2];simp)]
  rfl
 rw[chkP_eq,e1,aE zx,e2,aE zx,e3,aE zx]
 rfl
theorem qsnN_pre:preV netR qsnN 0=0:=by
 rw[preV,aH ⟨comp_netR,ntB_true qsnN_ok⟩,aH zd,qsnN_chk]
theorem qsnN_at:atP netR qsnN 0=(⟨qsnP,[]⟩,0):=by
 have p1:putP [] qsnA.cls (combP anB qsnW qsnY).1=([],0):=by rw[putP,aH (.inl sEq_e)]
 rw[atP,aE (by rw[qsn_real];simp),qsn_ord,atGo]
 simp only[show qsnN.sts[1]? =some qsnB from rfl,qsn_b]
 rw[aE (by rw[show(combP anB (realP netR).1 (qsnS sshS).1).2=0 from qsn_1];simp),aE (by rw[show(combP woB (realP netR).1 (qsnS sshS).1).2=0 from qsn_2];simp),aH (show qsnB.permit=false from rfl),atGo]
 simp only[show qsnN.sts[0]? =some qsnA from rfl,qsn_a]
 rw[aE (by rw[show(combP anB (combP woB (realP netR).1 (qsnS sshS).1).1 (qsnS eS).1).2=0 from qsn_3];simp),aE (by rw[show(combP woB (combP woB (realP netR).1 (qsnS sshS).1).1 (qsnS eS).1).2=0 from qsn_4];simp),aE zd]
 rw[aE (by rw[show(combP orB zPol.allow (combP anB (combP woB (realP netR).1 (qsnS sshS).1).1 (qsnS eS).1).1).2=0 from qsn_5];simp)]
 rw[show putP zPol.insp qsnA.cls (combP anB (combP woB (realP netR).1 (qsnS sshS).1).1 (qsnS eS).1).1=([],0)from p1]
 rfl
theorem qsnN_dec:decV netR qsnN 0 qsnH=(false,1):=by
 have e:(ordP qsnN 0).find? (hitN netR qsnN (hdQ qsnH))=some 1:=by
  rw[qsn_ord,fJ]
  have:hitN netR qsnN (hdQ qsnH) 1=true:=by
   rw[<-hit_con (show qsnN.sts[1]? =some qsnB from rfl) qsnH_ok,qsn_b];exact qsn_xh
  rw[this]
 rw[decV,aE (by rw[qsnN_pre];simp),decH,aH qsn_re,e]
 rfl
theorem qsnN_pol:PolOk netR ⟨qsnP,[]⟩:=by
 have:=atP_ok (m:=0) comp_netR (ntB_true qsnN_ok) (by rw[qsnN_at])
 rwa[qsnN_at]at this
theorem coLNet{K:KT}(hK:K (encT netR) []):AC 41 [] [] K:=by
 refine gP (ofoLNet rfl rfl ?_)
 (repeat' ((conv=>whnf);first|(refine cwSub0 ?_)|(refine cwSub4 ?_)|refine zG ?_|apply zA|intro h|exact zT));all_goals conv=>whnf
 exact⟨encT netR,Weak.agg (ys:=[_,.lst [],_,.lst [],_]) ⟨Weak.refl,gR,gM,gR,gM,trivial⟩,hK⟩
theorem coSortZ(G:FuncId){K:KT}(hK:K (.tup []) [.arr 2 []]):AC 50 [.os 0 2 0 0,.fn (.func G) [] []] [.arr 2 []] K:=by
 have hi:∀{K:KT},K (.tup []) [.arr 2 []]->AC 200 [.os 0 2 0 0,.v (.int .i64 0),.v (.int .i64 (0:Nat)),.fn (.func G) [] []] [.arr 2 []] K:=by
  intro K hK
  refine ofoInsI rfl rfl ?_
  (repeat' ((conv=>whnf);first|(with_reducible refine Lp.times 1 ?_)|refine zG ?_|apply zA|intro h|exact zT));all_goals conv=>whnf
  exact hK
 have hs:∀(n:Int) {K:KT},K (.tup []) [.arr 2 []]->AC 115 [.os 0 2 0 0,.v (.int .i64 0),.v (.int .i64 (0:Nat)),.v (.int .i64 n),.fn (.func G) [] []] [.arr 2 []] K:=by
  intro n K hK
  refine ofoPdq rfl rfl ?_
  (repeat' ((conv=>whnf);first|(with_reducible first|refine Lp.times 1 ?_|refine hi ?_)|refine zG ?_|apply zA|intro h|exact zT));all_goals conv=>whnf
  all_goals exact hK
 refine ofoSortI rfl rfl ?_
 (repeat' ((conv=>whnf);first|(with_reducible first|refine csLen 0 zd fun n _=>?_|refine hs _ ?_)|refine zG ?_|apply zA|intro h|exact zT));all_goals conv=>whnf
 exact hK
noncomputable abbrev smE(p:Bool)(svc:ByteArray)(pri:Int):AV:=.agg [.sb p,.v (.string ⟨#[]⟩),.v (.string ⟨#[]⟩),.v (.string svc),.sb false,.v (.string ⟨#[]⟩),.v (.string ⟨#[]⟩),.v (.string ⟨#[]⟩),.v (.string ⟨#[]⟩),.v (.int .i64 pri)]
theorem qsn_w:setB qsnW=true:=setB_combP ..
theorem coTryA(f:Value->Option AV)(svc:ByteArray)(pri:Int){K:KT}(hK:K (.v (.int .i64 0)) [.box [encXs qsnW,.nils,.mp 1],.map f]):
  AC 49 [.op 0 0,smE false svc pri,encXs qsnX] [.box [encXs qsnR,.nils,.mp 1],.map f] K:=by
 have lR:qsnR.length<1000000000:=setBlen (setB_realP netR)
 have lX:qsnX.length<1000000000:=by decide+kernel
 have c1:∀{K:KT},K (.tup [encXs (combP anB qsnR qsnX).1,.v (.int .i64 0)]) []->AC 76 [encXs qsnR,encXs qsnX] [] K:=fun h=>cxInt _ _ lR lX (by rw[qsn_1];exact h)
 have c2:∀{K:KT},K (.tup [encXs qsnW,.v (.int .i64 0)]) []->AC 113 [encXs qsnR,encXs qsnX] [] K:=fun h=>cxSub _ _ lR lX (by rw[qsn_2];exact h)
 refine ofoTry rfl rfl ?_
 (repeat' ((conv=>whnf);first|(with_reducible first|refine c1 ?_|refine c2 ?_)|refine zG ?_|apply zA|intro h|exact zT));all_goals conv=>whnf
 all_goals first
  |exact hK
  |(exfalso;simp_all;done)
theorem coTryB(f:Value->Option AV)(svc:ByteArray)(pri:Int){K:KT}(hK:K (.v (.int .i64 0)) [.box [encXs (combP woB qsnW qsnY).1,encXs qsnP,.mp 1],.map f]):
  AC 49 [.op 0 0,smE true svc pri,encXs qsnY] [.box [encXs qsnW,.nils,.mp 1],.map f] K:=by
 have lW:qsnW.length<1000000000:=setBlen qsn_w
 have lY:qsnY.length<1000000000:=by decide+kernel
 have lA:(combP anB qsnW qsnY).1.length<1000000000:=setBlen (setB_combP ..)
 have c1:∀{K:KT},K (.tup [encXs (combP anB qsnW qsnY).1,.v (.int .i64 0)]) []->AC 76 [encXs qsnW,encXs qsnY] [] K:=fun h=>cxInt _ _ lW lY (by rw[qsn_3];exact h)
 have c2:∀{K:KT},K (.tup [encXs (combP woB qsnW qsnY).1,.v (.int .i64 0)]) []->AC 113 [encXs qsnW,encXs qsnY] [] K:=fun h=>cxSub _ _ lW lY (by rw[qsn_4];exact h)
 have c3:∀{K:KT},K (.tup [encXs qsnP,.v (.int .i64 0)]) []->AC 114 [.lst [],encXs (combP anB qsnW qsnY).1] [] K:=fun h=>cxUn [] _ zx lA (by rw[qsn_5];exact h)
 have hn:sEq ⟨#[]⟩ ⟨#[]⟩=true:=sEq_self _
 unfold sEq at hn
 refine ofoTry rfl rfl ?_
 (repeat' ((conv=>whnf);first|(with_reducible first|refine c1 ?_|refine c2 ?_|refine c3 ?_)|refine zG ?_|apply zA|intro h|exact zT));all_goals conv=>whnf
 all_goals first
  |exact hK
  |(exfalso;simp_all;done)
theorem coAtZ{K:KT}(hK:K (.tup [encPol ⟨qsnP,[]⟩,.v (.int .i64 0)]) []):AC 12 [encT netR,encNt qsnN,.v (.int .i64 0)] [] K:=by
 have hchk:∀{K:KT},K (.v (.int .i64 0)) []->AC 46 [encT netR,encNt qsnN,.v (.int .i64 0)] [] K:=fun h=>coChk netR zd zd qsnN qsnN_bnd 0 (by rw[qsnN_pre];exact h)
 have hrl:∀{K:KT},K (.tup [encXs qsnR,.v (.int .i64 0)]) []->AC 47 [encT netR] [] K:=fun h=>coReal netR zd comp_netR (by rw[qsn_real];exact h)
 have hoc:∀{K:KT},K (.lst [vN 1,vN 0]) []->AC 37 [encNt qsnN,.v (.int .i64 0)] [] K:=fun h=>coOrd qsnN qsnN_bnd zd 0 (by rw[ordV,aH ⟨ntB_true qsnN_ok,by decide⟩,qsn_ord];exact h)
 have hs1:∀{K:KT},K (.tup [encXs qsnX,.v (.int .i64 0)]) []->AC 48 [encT netR,encNt qsnN,.v (.int .i64 (1:Nat))] [] K:=fun h=>
  crStatement netR zd qsnN qsnN_bnd (1:Nat) (by rw[stmV,aH ⟨comp_netR,ntB_true qsnN_ok⟩,aE zd,show qsnN.sts[((1:Nat):Int).toNat]? =some qsnB from rfl];simp only;rw[qsn_b,qsn_x];exact h)
 have hs0:∀{K:KT},K (.tup [encXs qsnY,.v (.int .i64 0)]) []->AC 48 [encT netR,encNt qsnN,.v (.int .i64 (0:Nat))] [] K:=fun h=>
  crStatement netR zd qsnN qsnN_bnd (0:Nat) (by rw[stmV,aH ⟨comp_netR,ntB_true qsnN_ok⟩,aE zd,show qsnN.sts[((0:Nat):Int).toNat]? =some qsnA from rfl];simp only;rw[qsn_a,qsn_y];exact h)
 refine gP (ofoAt rfl rfl ?_)
 (repeat' ((conv=>whnf);first|(refine hchk ?_)|(refine hrl ?_)|(refine hoc ?_)|(with_reducible refine Lp.times 3 ?_)|(refine gS 0 rfl (by simp[qsnN]) ?_)|(refine gS 1 rfl (by simp[qsnN]) ?_)|(refine gT rfl ?_)|(refine hs1 ?_)|(refine hs0 ?_)|(refine coTryA _ _ _ ?_)|(refine coTryB _ _ _ ?_)|(refine Vm.Rg.mk fun τ L hn hm=>?_)|(refine Nx.mk rfl (fun hL=>?_) (fun l1 k1 l2 y hL1 hy=>?_))|(refine coSortZ _ ?_)|refine zG ?_|apply zA|intro h|exact zT));all_goals conv=>whnf
 all_goals first
  |exact⟨_,gM,hK⟩
  |cases hy
theorem coSanZ{K:KT}(hK:K (.sb true) []):AC 19 [] [] K:=by
 have sat:∀{K:KT},K (.tup [encPol ⟨qsnP,[]⟩,.v (.int .i64 0)]) []->AC 12 [encT netR,encNt qsnN,.v (.int .i64 0)] [] K:=fun h=>coAtZ h
 have sdc:∀{K:KT},K (.tup [.sb false,.v (.int .i64 1)]) []->AC 21 [encT netR,encNt qsnN,.v (.int .i64 0),encHd qsnH] [] K:=fun h=>coDec netR zd zd qsnN qsnN_bnd zd 0 qsnH qsnH_ok (by rw[qsnN_dec];exact h)
 have sc1:∀{K:KT},K (.sb false) []->AC 22 [encXs qsnP,encHd qsnH] [] K:=fun h=>eyCont qsnP qsnH qsnH_ok (setBlen (setB_combP ..)) (by rw[qsn_h];exact h)
 have sc2:∀{K:KT},K (.sb true) []->AC 22 [encXs qsnP,encHd qsnK] [] K:=fun h=>eyCont qsnP qsnK qsnK_ok (setBlen (setB_combP ..)) (by rw[qsn_k];exact h)
 have svl:∀{K:KT},K (.sb true) []->AC 23 [encT netR,encPol ⟨qsnP,[]⟩] [] K:=fun h=>cyVal netR ⟨qsnP,[]⟩ zd (setBlen (setB_combP ..)) zd (fun x hx=>by simp at hx) (by rw[polB_true qsnN_pol];exact h)
 have sod:∀{K:KT},K (.lst ([1,0].map vN)) []->AC 37 [encNt qsnN,.v (.int .i64 0)] [] K:=fun h=>coOrd qsnN qsnN_bnd zd 0 (by rw[ordV,aH ⟨ntB_true qsnN_ok,by decide⟩,qsn_ord];exact h)
 refine gO (ofoSan rfl rfl ?_)
 (repeat' ((conv=>whnf);first|(with_reducible refine coLNet ?_)|(refine sat ?_)|(refine sdc ?_)|(refine sc1 ?_)|(refine sc2 ?_)|(refine svl ?_)|(refine sod ?_)|(refine in_c zd ?_)|(refine gT rfl ?_)|refine zG ?_|apply zA|intro h|exact zT));all_goals conv=>whnf
 all_goals first
  |exact fin_s hK rfl
  |exact fin_t hK rfl
  |exact absurd rfl h
theorem in_r{i:Int}{len:Nat}{K:Nat->Prop}(h:(decide (0<=i)&&Nat.blt i.toNat len)=true)(hk:K i.toNat):In i len K:=by
 rw[aF,aI,Nat.blt_eq]at h
 exact gS i.toNat zo h.2 hk
theorem eyCpE(l:List Df)(hl:l.length<=4)(hi:∀d,d∈l->d.items.length<=999){K:KT}(hK:K (.os 0 2 0 l.length) [.arr 2 (l.map encDf)]):AC 77 [.lst (l.map encDf)] [] K:=by
 rcases l with _|⟨a,_|⟨b,_|⟨c,_|⟨d,_|⟨_,_⟩⟩⟩⟩⟩
 all_goals first
  |(exfalso;simp only[aK,aP]at hl;omega)
  |((try have ha:=hi a zx)
    (try have hb:=hi b zx)
    (try have hc:=hi c zx)
    (try have hd:=hi d zx)
    clear hi
    refine ofnCpE rfl rfl ?_
    (repeat' ((conv=>whnf);first|(with_reducible refine Lp.times 5 ?_)|(refine in_r (by rfl) ?_)|(refine gT rfl ?_)|(with_reducible refine sl_full zx ?_)|refine zG ?_|apply zA|intro h|exact zT));all_goals conv=>whnf
    all_goals
     (try simp only[bM,eI,aA])
     exact hK)
theorem eyCpV(i:Nt)(hg3:i.grps.length<=4)(hs2:i.svcs.length<=4)(hw1:i.wins.length<=2)(hgi:∀d,d∈i.grps->d.items.length<=999)(hsi:∀d,d∈i.svcs->d.items.length<=999)(hwi:∀w,w∈i.wins->w.act.length<=4000)
  (h3:i.sts.length<=999)(h4:i.pubs.length<=999)(h5:i.hids.length<=999){K:KT}(hK:K (.agg [.os 0 2 0 i.grps.length,.os 1 2 0 i.svcs.length,.os 2 2 0 i.wins.length,.os 3 10 0 i.sts.length,.os 4 6 0 i.pubs.length,.os 5 5 0 i.hids.length])
   [.arr 2 (i.grps.map encDf),.arr 2 (i.svcs.map encDf),.arr 2 (i.wins.map encWn),.arr 10 (i.sts.map encSm),.arr 6 (i.pubs.map encPb),.arr 5 (i.hids.map encHn)]):AC 24 [encNt i] [] K:=by
 obtain⟨gs,ss,ws,ts,ps,hs'⟩:=i
 simp only at hg3 hs2 hw1 hgi hsi hwi h3 h4 h5
 have c1:=fun {K} h=>@eyCpE gs zo hgi K h
 have c2:=fun {K} h=>@eyCpE ss zo hsi K h
 have hws:∀w,w∈ws->w.act.length<=4000:=hwi
 clear hgi hsi hwi
 rcases ws with _|⟨w,_|⟨x,_|⟨_,_⟩⟩⟩
 all_goals first
  |(exfalso;simp only[aK,aP]at hw1;omega)
  |((try have hwl:=hws w zx)
    (try have hxl:=hws x zx)
    refine ofnCpV rfl rfl ?_
    (repeat' ((conv=>whnf);first|(with_reducible first|refine c1 ?_|refine c2 ?_|refine Lp.times 3 ?_)|(refine in_r (by rfl) ?_)|(refine gT rfl ?_)|refine zG ?_|apply zA|intro h|exact zT));all_goals conv=>whnf
    all_goals
     (try simp only[bM,eI,aA])
     exact hK)
abbrev zoneL(t:Tp)(s:ByteArray):List Nat:=ixs (fun e=>sEq e.zone s) t.edges t.edges.length
theorem ixs_no(p:Ed->Bool){l:List Ed}{k:Nat}{e:Ed}(h:l[k]? =some e)(hp:p e=false):ixs p l (k+1)=ixs p l k:=by rw[ixs_succ p h,aE (by rw[hp];decide),bJ]
theorem ixs_yes(p:Ed->Bool){l:List Ed}{k:Nat}{e:Ed}(h:l[k]? =some e)(hp:p e=true):ixs p l (k+1)=ixs p l k++[k]:=by rw[ixs_succ p h,aH hp]
theorem dkZone(t:Tp)(s:ByteArray)(hl:t.edges.length<=1000){K:KT}(hK:K (.lst ((zoneL t s).map vN)) []):AC 159 [encT t,.v (.string s)] [] K:=by
 refine ofh11Zone rfl rfl ?_
 (repeat' ((conv=>whnf);first|refine zG ?_|apply zA|intro h|exact zT));all_goals conv=>whnf
 refine gL Nat (fun i=>⟨2,[(0,boxT t),(1,.arr 1 ((ixs (fun e=>sEq e.zone s) t.edges i).map vN))],[(1,.v (.string s)),(2,.op 0 0),(5,.os 1 1 0 (ixs (fun e=>sEq e.zone s) t.edges i).length),(6,.v (.int .i64 i))]⟩)
  (fun i=>i<=t.edges.length) (fun i=>t.edges.length-i) 0 (aL _) ?_ ?_
 ·(exact leA)
 intro i h1
 have hil2:=ixs_len (fun e=>sEq e.zone s) t.edges i
 rcases aD i t.edges.length with hil|hil
 ·obtain⟨x,hx⟩:=gex hil
  (repeat' ((conv=>whnf);first|(with_reducible first|refine hJ hil ?_|refine gZ hx ?_)|refine zG ?_|apply zA|intro h|exact zT));all_goals conv=>whnf
  all_goals first
   |(refine⟨i+1,hil,by omega,?_⟩
     rw[ixs_yes _ hx (show sEq x.zone s=true from h),aQ,aC,aO,aN]
     (exact leA)
     done)
   |(refine⟨i+1,hil,by omega,?_⟩
     rw[ixs_no _ hx (show sEq x.zone s=false from h),aO,aN]
     (exact leA)
     done)
 ·have hie:i=t.edges.length:=by omega
  subst hie
  (repeat' ((conv=>whnf);first|(with_reducible refine sl_full (aA ..) ?_)|refine zG ?_|apply zA|intro h|exact zT));all_goals conv=>whnf
  exact hK
theorem dkEdg(t:Tp)(l:List Nat)(hl:l.length<=1000)(hb:∀n,n∈l->n<t.edges.length){K:KT}(hK:K (encRs (l.map (rgAt t))) []):AC 156 [encT t,.lst (l.map vN)] [] K:=by
 refine ofh17Edg rfl rfl ?_
 (repeat' ((conv=>whnf);first|refine zG ?_|apply zA|intro h|exact zT));all_goals conv=>whnf
 refine gL Nat (fun i=>⟨2,[(0,boxT t),(1,.arr 2 (((l.take i).map (rgAt t)).map encR))],[(1,.lst (l.map vN)),(2,.op 0 0),(5,.os 1 2 0 ((l.take i).map (rgAt t)).length),(6,.v (.int .i64 i))]⟩)
  (fun i=>i<=l.length) (fun i=>l.length-i) 0 (aL _) ?_ ?_
 ·rw[cR]
  (exact leA)
 intro i h1
 have htl:((l.take i).map (rgAt t)).length=i:=by rw[aA,bG];omega
 rcases aD i l.length with hil|hil
 ·obtain⟨n,hn⟩:=gex hil
  have hnl:=hb n (aG hn)
  obtain⟨x,hx⟩:=gex hnl
  have hs:(l.take (i+1)).map (rgAt t)=(l.take i).map (rgAt t)++[x.pf.rg]:=by rw[bH,hn,aQ];simp[rgAt,hx]
  generalize hA:(l.take i).map (rgAt t)=A at*
  (repeat' ((conv=>whnf);first|(with_reducible first|refine hJ hil ?_|refine gZ hn ?_|refine hJ hnl ?_|refine gZ hx ?_|refine crOf _ ?_)|refine zG ?_|apply zA|intro h|exact zT));all_goals conv=>whnf
  all_goals first
   |(refine⟨i+1,hil,by omega,?_⟩
     rw[hs,aQ,aC,aO,aN]
     (exact leA)
     done)
 ·rw[bA hil]
  (repeat' ((conv=>whnf);first|(with_reducible refine sl_full (aA ..) ?_)|refine zG ?_|apply zA|intro h|exact zT));all_goals conv=>whnf
  exact hK
theorem dkAll(t:Tp)(hl:t.edges.length<=1000){K:KT}(hK:K (.lst ((List.range t.edges.length).map vN)) []):AC 157 [encT t] [] K:=by
 refine ofh17All rfl rfl ?_
 (repeat' ((conv=>whnf);first|refine zG ?_|apply zA|intro h|exact zT));all_goals conv=>whnf
 refine gL Nat (fun i=>⟨2,[(0,boxT t),(1,.arr 1 ((List.range i).map vN))],[(1,.op 0 0),(3,.os 1 1 0 (List.range i).length),(4,.v (.int .i64 i))]⟩)
  (fun i=>i<=t.edges.length) (fun i=>t.edges.length-i) 0 (aL _) ?_ ?_
 ·(exact leA)
 intro i h1
 have hrl:(List.range i).length=i:=fO
 rcases aD i t.edges.length with hil|hil
 ·have hs:List.range (i+1)=List.range i++[i]:=fK
  generalize hA:List.range i=A at*
  (repeat' ((conv=>whnf);first|refine zG ?_|apply zA|intro h|exact zT));all_goals conv=>whnf
  refine⟨i+1,hil,by omega,?_⟩
  rw[hs,aQ,aC,aO,aN]
  (exact leA)
 ·have hie:i=t.edges.length:=by omega
  subst hie
  (repeat' ((conv=>whnf);first|(with_reducible refine sl_full (aA ..) ?_)|refine zG ?_|apply zA|intro h|exact zT));all_goals conv=>whnf
  exact hK
def visR(t:Tp)(x:It)(its:List It):Int×List It:=if x.kind=1/\zoneL t x.name=[]then(5,its)else(0,its++[x])
theorem visR_sz(t:Tp)(x:It)(its:List It)(h:(visR t x its).1=0):(visR t x its).2.length<=its.length+1000:=by
 unfold visR at h⊢
 split at h
 ·simp at h
 ·rename_i hc;rw[aE hc];simp
theorem dkFol(t:Tp)(ht:t.edges.length<=1000)(l:List Df)(hl:l.length<=999)(hit:∀d,d∈l->d.items.length<=999):∀(k:Nat) (path:List Nat) (n:Nat) (nm:ByteArray) (done:List Nat) (its:List It),Fine l path done->findD l nm=some n->path.length+k=l.length->its.length<=1000000*(done.length+path.length)->∀{K:KT},
  K (.v (.int .i64 (fol (visR t) l (k+1) path nm done its).1)) [walkO l 3 4 (fol (visR t) l (k+1) path nm done its).2.1.length (fol (visR t) l (k+1) path nm done its).2.2.length,.box [],.box [],.arr 1 ((fol (visR t) l (k+1) path nm done its).2.1.map vN),.arr 7 ((fol (visR t) l (k+1) path nm done its).2.2.map encIt)]->
  AC 242 [.op 0 0,encT t,.v (.int .i64 n),.lst (path.map vN)] [walkO l 1 2 done.length its.length,.arr 1 (done.map vN),.arr 7 (its.map encIt)] K:=by
 intro k
 induction k with
 |zero=>
  intro path n nm done its hf hn hk hsz K hK
  obtain⟨x,hx,hname,hnl⟩:=findD_some hn
  have hsm:=hf.small
  have hm:n∈path:=Classical.byContradiction fun h=>by
   by_cases hd:n∈done
   ·have:0<done.length:=List.length_pos_of_mem hd
    omega
   ·have:=(hf.push hn h hd).small
    rw[aC]at this
    simp only[bZ]at this
    omega
  simp only[fol,hn,aH hm]at hK
  refine ofh17Fol rfl rfl ?_
  (repeat' ((conv=>whnf);first|(with_reducible refine chHas path n zo ?_)|refine zG ?_|apply zA|intro h|exact zT));all_goals conv=>whnf
  all_goals first
   |exact hK
   |(exfalso;simp_all;done)
 |succ k ih=>
  intro path n nm done its hf hn hk hsz K hK
  obtain⟨x,hx,hname,hnl⟩:=findD_some hn
  have hsm:=hf.small
  have hlen:=hit x (aG hx)
  by_cases hm:n∈path
  ·simp only[fol,hn,aH hm]at hK
   refine ofh17Fol rfl rfl ?_
   (repeat' ((conv=>whnf);first|(with_reducible refine chHas path n zo ?_)|refine zG ?_|apply zA|intro h|exact zT));all_goals conv=>whnf
   all_goals first
    |exact hK
    |(exfalso;simp_all;done)
  by_cases hd:n∈done
  ·simp only[fol,hn,aE hm,aH hd]at hK
   refine ofh17Fol rfl rfl ?_
   (repeat' ((conv=>whnf);first|(with_reducible first|refine chHas path n zo ?_|refine chHas done n zo ?_|refine sl_full (by simp only[aA,aC,aK,aP]) ?_)|refine zG ?_|apply zA|intro h|exact zT));all_goals conv=>whnf
   all_goals first
    |exact hK
    |(exfalso;simp_all;done)
  rw[fol]at hK
  simp only[hn,aE hm,aE hd,hx,cZ,cW]at hK
  have hpush:=hf.push hn hm hd
  have hrec:∀(r:Int) (m:Nat) (y:ByteArray),r=m->findD l y=some m->∀(d':List Nat) (i':List It),Fine l (path++[n]) d'->i'.length<=1000000*(d'.length+(path.length+1))->∀{K:KT},
   K (.v (.int .i64 (fol (visR t) l (k+1) (path++[n]) y d' i').1)) [walkO l 3 4 (fol (visR t) l (k+1) (path++[n]) y d' i').2.1.length (fol (visR t) l (k+1) (path++[n]) y d' i').2.2.length,.box [],.box [],.arr 1 ((fol (visR t) l (k+1) (path++[n]) y d' i').2.1.map vN),.arr 7 ((fol (visR t) l (k+1) (path++[n]) y d' i').2.2.map encIt)]->
   AC 242 [.op 0 0,encT t,.v (.int .i64 r),pthV path n] [walkO l 1 2 d'.length i'.length,.arr 1 (d'.map vN),.arr 7 (i'.map encIt)] K:=fun r m y hr hy d' i' h1 h2 K h=>by
   subst hr
   have e:pthV path n=.lst ((path++[n]).map vN):=by simp[pthV]
   rw[e]
   exact ih (path++[n]) m y d' i' h1 hy (by rw[aC,bZ];omega) (by rw[aC,bZ];omega) h
  clear ih
  have hfed:=fun nm d s h h0=>fol_fed (visR t) List.length (visR_sz t) l hit (k+1) (path++[n]) nm d s h h0
  refine ofh17Fol rfl rfl ?_
  (repeat' ((conv=>whnf);first|(with_reducible first|refine chHas path n zo ?_|refine chHas done n zo ?_|refine sl_full (by simp only[aA,aC,aK,aP]) ?_)|refine zG ?_|apply zA|intro h|exact zT));all_goals conv=>whnf
  all_goals first
   |(exfalso;simp_all;done)
   |skip
  refine gL (Nat×List Nat×List It) (fun g=>⟨6,[(0,walkO l 3 4 g.2.1.length g.2.2.length),(3,.arr 1 (g.2.1.map vN)),(4,.arr 7 (g.2.2.map encIt)),(5,boxT t)],[(0,.op 0 0),(2,.v (.int .i64 n)),(3,pthV path n),(5,.op 5 0),(9,.v (.int .i64 g.1))]⟩)
   (fun g=>g.1<=x.items.length/\Fine l (path++[n]) g.2.1/\folI (visR t) (fol (visR t) l (k+1) (path++[n])) x.items done its=folI (visR t) (fol (visR t) l (k+1) (path++[n])) (x.items.drop g.1) g.2.1 g.2.2/\done.length<=g.2.1.length/\g.2.2.length+1000000*done.length<=its.length+1000000*g.2.1.length+1000*g.1)
   (fun g=>x.items.length-g.1) (0,done,its) ⟨aL _,hpush,by rw[cA],aJ _,by simp only;omega⟩ ?_ ?_
  ·(exact leA)
  rintro⟨i,dn,im⟩ ⟨h1,hf1,heq,hd1,hz1⟩
  simp only at h1 hf1 heq hd1 hz1⊢
  have hsm1:=hf1.small
  rw[aC,bZ]at hsm1
  rcases aD i x.items.length with hil|hil
  ·obtain⟨y,hy⟩:=gex hil
   have hdr:x.items.drop i=y::x.items.drop (i+1):=by
    rw[aZ hil]
    congr 1
    rw[aB hil]at hy;cases hy;rfl
   rw[hdr,folI_cons]at heq
   by_cases hk3:y.kind=3
   ·simp only[aH hk3]at heq
    cases hfd:findD l y.name with
    |none=>
     have hq:fol (visR t) l (k+1) (path++[n]) y.name dn im=(5,dn,im):=by simp only[fol,hfd]
     rw[hq]at heq
     simp only[show ¬((5:Int)=0) by decide,if_false]at heq
     rw[heq]at hK
     simp only[show ¬((5:Int)=0) by decide,if_false]at hK
     have hfi:∀{K:KT},K (.v (.int .i64 (-1))) []->AC 213 [.lst (l.map encDf),.v (.string y.name)] [] K:=fun h=>djFind l y.name zo (by rw[dfIx,firstIx_find,hfd];exact h)
     (repeat' ((conv=>whnf);first|(with_reducible first|refine hJ hnl ?_|refine gZ hx ?_|refine hJ hil ?_|refine gZ hy ?_|refine hfi ?_)|refine zG ?_|apply zA|intro h|exact zT));all_goals conv=>whnf
     all_goals first
      |exact hK
      |(exfalso;omega)
    |some m=>
     have hfi:∀{K:KT},K (.v (.int .i64 m)) []->AC 213 [.lst (l.map encDf),.v (.string y.name)] [] K:=fun h=>djFind l y.name zo (by rw[dfIx,firstIx_find,hfd];exact h)
     have hc:=fun {K} h=>@hrec m m y.name rfl hfd dn im hf1 zo K h
     have hfq:=hfed y.name dn im hf1
     generalize fol (visR t) l (k+1) (path++[n]) y.name dn im=q at*
     obtain⟨qe,qd,qs⟩:=q
     simp only at heq hc hfq
     (repeat' ((conv=>whnf);first|(with_reducible first|refine hJ hnl ?_|refine gZ hx ?_|refine hJ hil ?_|refine gZ hy ?_|refine hfi ?_|refine hc ?_)|refine zG ?_|apply zA|intro h|exact zT));all_goals conv=>whnf
     all_goals first
      |(exfalso;omega)
      |(have hne:¬qe=0:=by first|assumption|(intro e;simp_all;done)
        rw[heq,aE hne]at hK
        simp only[aE hne]at hK
        exact hK)
      |(have h0:qe=0:=by first|assumption|(simp_all;done)
        have hfq:=hfq h0
        refine⟨(i+1,qd,qs),⟨hil,hfq.fine,by rw[heq,aH h0],by have:=hfq.le;simp only;omega,by have:=hfq.size;simp only;omega⟩,by simp only;omega,?_⟩
        simp only[aO,aN]
        (exact leA)
        done)
   ·simp only[aE hk3]at heq
    by_cases hz:y.kind=1/\zoneL t y.name=[]
    ·have hv:visR t y im=(5,im):=by rw[visR,aH hz]
     rw[hv]at heq
     simp only[show ¬((5:Int)=0) by decide,if_false]at heq
     rw[heq]at hK
     simp only[show ¬((5:Int)=0) by decide,if_false]at hK
     (repeat' ((conv=>whnf);first|(with_reducible first|refine hJ hnl ?_|refine gZ hx ?_|refine hJ hil ?_|refine gZ hy ?_)|refine zG ?_|apply zA|intro h|exact zT));all_goals conv=>whnf
     all_goals first
      |(exfalso;omega)
      |skip
     refine gU Unit (fun _=>⟨0,[],[]⟩) (fun _=>False) ?_ ?_
     ·(repeat' ((conv=>whnf);first|(with_reducible refine dkZone t _ ht ?_)|refine zG ?_|apply zA|intro h|exact zT));all_goals conv=>whnf
      all_goals first
       |exact hK
       |(exfalso;simp_all;done)
     ·exact fun _ h=>h.elim
    ·have hv:visR t y im=(0,im++[y]):=by rw[visR,aE hz]
     rw[hv]at heq
     simp only[if_true]at heq
     (repeat' ((conv=>whnf);first|(with_reducible first|refine hJ hnl ?_|refine gZ hx ?_|refine hJ hil ?_|refine gZ hy ?_)|refine zG ?_|apply zA|intro h|exact zT));all_goals conv=>whnf
     all_goals first
      |(exfalso;omega)
      |skip
     refine Jn.at ⟨7,[(6,.box [.v (.int .i64 y.kind),.v (.string y.name),.v (.int .u32 y.pf.addr),.v (.int .i64 y.pf.bits),.v (.int .i64 y.proto),.v (.int .u32 y.ports.lo),.v (.int .u32 y.ports.hi)]),(0,walkO l 3 4 dn.length im.length),(3,.arr 1 (dn.map vN)),(4,.arr 7 (im.map encIt)),(5,boxT t)],[(0,.op 0 0),(2,.v (.int .i64 n)),(3,pthV path n),(5,.op 5 0),(9,.v (.int .i64 i)),(10,.op 6 0)]⟩ ?_ ?_
     ·(repeat' ((conv=>whnf);first|(with_reducible refine dkZone t _ ht ?_)|refine zG ?_|apply zA|intro h|exact zT));all_goals conv=>whnf
      all_goals first
       |(refine⟨(),trivial,?_⟩
         (exact leA)
         done)
       |(exfalso;simp_all;done)
     ·(repeat' ((conv=>whnf);first|refine zG ?_|apply zA|intro h|exact zT));all_goals conv=>whnf
      refine⟨(i+1,dn,im++[y]),⟨hil,hf1,heq,hd1,by simp only[aC,bZ];omega⟩,by simp only;omega,?_⟩
      simp only[aQ,aC,aW,bN,aK,aP,aO,aN]
      (exact leA)
  ·have hie:i=x.items.length:=by omega
   rw[hie,List.drop_length,folI_nil]at heq
   rw[heq]at hK
   simp only[if_true]at hK
   (repeat' ((conv=>whnf);first|(with_reducible first|refine hJ hnl ?_|refine gZ hx ?_)|refine zG ?_|apply zA|intro h|exact zT));all_goals conv=>whnf
   simp only[aQ,aC,aW,bN,aK,aP]at hK
   exact hK
end Go.Proofs.YtbdikofefjljoaaGreatDoor
