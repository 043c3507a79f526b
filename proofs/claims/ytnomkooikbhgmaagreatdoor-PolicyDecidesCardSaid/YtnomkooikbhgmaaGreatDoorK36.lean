/- Lemmas. -/
import Derived.Test.YtnomkooikbhgmaaGreatDoorK35
set_option linter.unusedVariables false
set_option linter.unusedSimpArgs false
set_option maxRecDepth 100000
set_option maxHeartbeats 4000000
namespace Go.Proofs.YtnomkooikbhgmaaGreatDoor
open Go Go.Vm
theorem aRm(raw:List Int)(pos:Nat)(hp:pos<=raw.length)(hr:raw.length<=9223372036854775807){K:KT}
  (hK:∀(m:Int) (pos':Nat),0<=m->m<10080->pos'<=raw.length->K (.v (.int .i64 m)) [iI raw pos']):AC 26 [.op 0 0] [iI raw pos] K:=by
 refine aOf rfl rfl ?_;(repeat' ((conv=>whnf);first|(with_reducible first|refine jF raw _ _ zo zw hr fun m1 p1 hm1 hp1=>?_|refine iA zo ?_|refine Re [0,479,480,481,1019,1020,1439,700] 8 0 1439 rfl rfl zd zo fun c h0 h1=>?_)|refine zG ?_|apply zA|intro h|exact zT));all_goals conv=>whnf
 all_goals exact hK _ _ zo zo zw
theorem aLs(ns:Nat)(hns:ns<=4)(raw:List Int)(pos:Nat)(t:Tp)(hg:GTop t)(hp:pos<=raw.length)(hr:raw.length<=9223372036854775807){K:KT}
  (hK:∀(i:Nt) (pos':Nat),ENt i->pos'<=raw.length->K (iS i) [iI raw pos']):
  AC 25 [.op 0 0,kB t,.v (.int .i64 ns)] [iI raw pos] K:=aRl raw pos t hg.e5 (by have:=hg.d6;omega) (aIW hg) ns hns hp hr hK
theorem aQr(ns:Nat)(hns:ns<=4)(raw:List Int)(pos:Nat)(hp:pos<=raw.length)(hr:raw.length<=9223372036854775807){K:KT}
  (hK:∀(t:Tp) (i:Nt) (m:Int) (pos':Nat),GTop t->t.devs.length<=3->ENt i->0<=m->m<10080->pos'<=raw.length->K (.tup [kB t,iS i,.v (.int .i64 m)]) [iI raw pos']):
  AC 6 [.op 0 0,.v (.int .i64 3),.v (.int .i64 ns)] [iI raw pos] K:=by
 refine aOu rfl rfl ?_;(repeat' ((conv=>whnf);first|(with_reducible first|refine aEU raw _ zw hr fun t p1 ht hd hp1=>?_|refine aLs ns hns raw _ _ zw zw hr fun i p2 hi hp2=>?_|refine aRm raw _ zw hr fun m p3 m0 m1 hp3=>?_)|refine zG ?_|apply zA|intro h|exact zT));all_goals conv=>whnf
 exact hK t i m p3 ht hd hi m0 m1 hp3
theorem aKw(raw:List Int)(pos:Nat)(t:Tp)(l:List Bx)(ht:t.edges.length<=1000)(hl:l.length<=1000000)(hp:pos<=raw.length)(hr:raw.length<=9223372036854775807){K:KT}
  (hK:∀(g:Hd) (pos':Nat),g.Ok->pos'<=raw.length->K (mR g) [iI raw pos']):AC 15 [.op 0 0,kB t,iE l] [iI raw pos] K:=by
 refine aGY rfl rfl ?_;(repeat' ((conv=>whnf);first|(with_reducible first|refine aLt raw _ l hl zw hr fun g p1 hg hp1=>?_|refine jF raw _ _ (by(try simp only[aA]);omega) zw hr fun m1 p2 hm1 hp2=>?_|refine iA (by simp only[aA]at*;omega) ?_|refine iB (f:=mX) (by simp only[aA]at*;omega) fun e he=>?_|refine iU fun r r0 r1=>?_)|refine zG ?_|apply zA|intro h|exact zT));all_goals conv=>whnf
 all_goals first
  |exact hK _ _ zw zw
  |exact hK ⟨r,e.pf.addr,g.pro,g.sp,g.dp⟩ p2 ⟨r0,r1,e.pf.a0,e.pf.a1,hg.p0,hg.p1,hg.a0,hg.a1,hg.b0,hg.b1⟩ zw
section
variable {t:Tp} {i:Nt} {l:List Sm} {p:Bool} {m:Int}
end
def eS:ByteArray:=⟨#[]⟩
def F3:ByteArray:=⟨#[115,115,104]⟩
def qsnA:Sm:=⟨true,eS,eS,eS,false,eS,eS,eS,eS,0⟩
def qsnB:Sm:=⟨false,eS,eS,F3,false,eS,eS,eS,eS,1⟩
def qsnN:Nt:=⟨[],[⟨F3,[⟨4,eS,⟨0,0,by decide,by decide⟩,6,⟨22,22,by decide,by decide,by decide,by decide⟩⟩]⟩],[],[qsnA,qsnB],[],[]⟩
def qsnH:Hd:=⟨167772161,2886729729,6,1,22⟩
def qsnK:Hd:=⟨167772161,2886729729,6,1,23⟩
theorem O4:qsnH.Ok:=⟨by decide,by decide,by decide,by decide,by decide,by decide,by decide,by decide,by decide,by decide⟩
theorem aIB:qsnK.Ok:=⟨by decide,by decide,by decide,by decide,by decide,by decide,by decide,by decide,by decide,by decide⟩
theorem aBa:oH eS=true:=by
 unfold oH;rw[show sEq eS ⟨#[]⟩=true from sEq_iff.2 rfl];rfl
theorem aIQ:oH F3=true:=by
 unfold oH;rw[show kW F3=true from nD (mM zd)];simp
theorem Xa:sEq eS ⟨#[]⟩=true:=sEq_iff.2 rfl
theorem yI:NtOk qsnN:=by
 refine⟨V3 (by decide+kernel),V3 (by decide+kernel),by decide,by decide,by decide,by decide,fun k x h=>by simp[qsnN]at h,fun x hx=>?_,fun x h=>by simp[qsnN]at h,fun x h=>by simp[qsnN]at h⟩;simp only[qsnN,aV,dR,or_false]at hx;rcases hx with rfl|rfl
 ·simp only[smB,qsnA,aBa,Xa];decide
 ·simp only[smB,qsnB,aBa,aIQ,Xa];decide
theorem uM:Bnd qsnN:=by
 refine⟨by decide,by decide,by decide,by decide,by decide,by decide,fun x h=>by simp[qsnN]at h,fun x h=>?_,fun x h=>by simp[qsnN]at h,by decide,by decide⟩;simp only[qsnN,aV,dR,or_false]at h;subst h;decide
theorem aIC:lZ jT qsnN eS=([pf0.rg,pf4.rg],0):=by
 have e:tO jT qsnN.grps eS=(0,[pf0.rg,pf4.rg]):=by rw[tO,aH Xa];rfl
 have hc:jC [pf0.rg,pf4.rg]:=⟨fun r hr=>by
  simp only[aV,dR,or_false]at hr;rcases hr with rfl|rfl<;>decide,by
  refine bW.2 ⟨fun s hs=>?_,List.pairwise_singleton ..⟩;rw[aW.1 hs];decide⟩
 rw[lZ,e,aH rfl,uS hc fun v=>rfl]
def wA(nm:ByteArray):List Bx×Int:=sG (qK qsnN nm) fun v=>sG (kR (kZ [pf0.rg,pf4.rg] [pf0.rg,pf4.rg])) fun b=>iF anB b v
theorem W4(x:Sm)(h1:x.frm=eS)(h2:x.to=eS)(h3:x.exc=false):kV jT qsnN x=wA x.svc:=by
 unfold kV wA;rw[h1,h2,h3,aIC];rw[jG rfl,jG rfl];simp only[bT,if_false]
 congr 1
 funext v
 rw[jG rfl,jG rfl]
 congr 1
 funext b
 simp
def qsnR:List Bx:=(oD jT).1
def qsnX:List Bx:=(wA F3).1
def qsnY:List Bx:=(wA eS).1
def qsnW:List Bx:=(iF woB qsnR qsnX).1
def qsnP:List Bx:=(iF orB [] (iF anB qsnW qsnY).1).1
theorem Rz:(oD jT).2=0:=by decide+kernel
theorem aJS:(wA F3).2=0:=by decide+kernel
theorem aJT:(wA eS).2=0:=by decide+kernel
theorem aJN:(iF anB qsnR qsnX).2=0:=by decide+kernel
theorem aJO:(iF woB qsnR qsnX).2=0:=by decide+kernel
theorem aJP:(iF anB qsnW qsnY).2=0:=by decide+kernel
theorem aJQ:(iF woB qsnW qsnY).2=0:=by decide+kernel
theorem aJR:(iF orB [] (iF anB qsnW qsnY).1).2=0:=by decide+kernel
theorem aTK:(qsnP.any fun b=>uU b qsnH)=false:=by decide+kernel
theorem aTL:(qsnP.any fun b=>uU b qsnK)=true:=by decide+kernel
theorem aPC:(qsnX.any fun b=>uU b qsnH)=true:=by decide+kernel
theorem aPB:xD jT qsnH=true:=by decide+kernel
theorem Hx:pM qsnN 0=[1,0]:=by decide+kernel
theorem W3:kV jT qsnN qsnB=wA F3:=W4 qsnB rfl rfl rfl
theorem aDE:kV jT qsnN qsnA=wA eS:=W4 qsnA rfl rfl rfl
theorem aDB:Qc jT qsnN=0:=by
 have n1:vE jT qsnN qsnA=0:=by decide+kernel
 have n2:vE jT qsnN qsnB=0:=by decide+kernel
 have e1:lG (fun d:Df=>(lZ jT qsnN d.name).2) qsnN.grps=0:=rfl;have e2:lG (fun d:Df=>(qK qsnN d.name).2) qsnN.svcs=0:=by decide+kernel
 have e3:lG (fun s:Sm=>if(kV jT qsnN s).2≠0 then(kV jT qsnN s).2 else vE jT qsnN s) qsnN.sts=0:=by
  show lG (fun s:Sm=>if(kV jT qsnN s).2≠0 then(kV jT qsnN s).2 else vE jT qsnN s) [qsnA,qsnB]=0;rw[mF,aF (by rw[aDE,aJT,n1];simp),mF,aF (by rw[W3,aJS,n2];simp)];rfl
 rw[Ng,e1,aF zx,e2,aF zx,e3,aF zx];rfl
theorem Ry:Fu jT qsnN 0=0:=by
 rw[Fu,aH ⟨tX,sO yI⟩,aH zd,aDB]
theorem W2:atP jT qsnN 0=(⟨qsnP,[]⟩,0):=by
 have p1:Fw [] qsnA.cls (iF anB qsnW qsnY).1=([],0):=by rw[Fw,aH (.inl Xa)]
 rw[atP,aF (by rw[Rz];simp),Hx,P2];simp only[show qsnN.sts[1]? =some qsnB from rfl,W3];rw[aF (by rw[show(iF anB (oD jT).1 (wA F3).1).2=0 from aJN];simp),aF (by rw[show(iF woB (oD jT).1 (wA F3).1).2=0 from aJO];simp),aH (show qsnB.permit=false from rfl),P2];simp only[show qsnN.sts[0]? =some qsnA from rfl,aDE];rw[aF (by rw[show(iF anB (iF woB (oD jT).1 (wA F3).1).1 (wA eS).1).2=0 from aJP];simp),aF (by rw[show(iF woB (iF woB (oD jT).1 (wA F3).1).1 (wA eS).1).2=0 from aJQ];simp),aF zd];rw[aF (by rw[show(iF orB zPol.allow (iF anB (iF woB (oD jT).1 (wA F3).1).1 (wA eS).1).1).2=0 from aJR];simp)];rw[show Fw zPol.insp qsnA.cls (iF anB (iF woB (oD jT).1 (wA F3).1).1 (wA eS).1).1=([],0)from p1];rfl
theorem aDC:pH jT qsnN 0 qsnH=(false,1):=by
 have e:(pM qsnN 0).find? (Od jT qsnN (hdQ qsnH))=some 1:=by
  rw[Hx,List.find?_cons];have:Od jT qsnN (hdQ qsnH) 1=true:=by
   rw[<-Of (show qsnN.sts[1]? =some qsnB from rfl) O4,W3];exact aPC
  rw[this]
 rw[pH,aF (by rw[Ry];simp),Qn,aH aPB,e];rfl
theorem aDD:PolOk jT ⟨qsnP,[]⟩:=by
 have:=aJY (m:=0) tX (sO yI) (by rw[W2])
 rwa[W2]at this
theorem aAl{K:KT}(hK:K (kB jT) []):AC 23 [] [] K:=by
 refine gQ (aGW rfl rfl ?_);(repeat' ((conv=>whnf);first|(refine aLc ?_)|(refine aLd ?_)|refine zG ?_|apply zA|intro h|exact zT));all_goals conv=>whnf
 exact⟨kB jT,gT (ys:=[_,.lst [],_,.lst [],_]) ⟨Weak.refl,gS,gO,gS,gO,trivial⟩,hK⟩
end Go.Proofs.YtnomkooikbhgmaaGreatDoor
