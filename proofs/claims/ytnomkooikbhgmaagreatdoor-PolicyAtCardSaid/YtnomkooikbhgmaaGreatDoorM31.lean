/- Lemmas. -/
import Derived.Test.YtnomkooikbhgmaaGreatDoorM30
set_option linter.unusedVariables false
set_option linter.unusedSimpArgs false
set_option maxRecDepth 100000
set_option maxHeartbeats 4000000
noncomputable section
namespace Go.Proofs.YtnomkooikbhgmaaGreatDoor
open Go Go.Vm
structure LenNt (L:Nat) (i:Nt):Prop where
 g:i.grps.length<=L
 s:i.svcs.length<=L
 w:i.wins.length<=L
 t:i.sts.length<=L
 p:i.pubs.length<=L
 h:i.hids.length<=L
 gi:∀d,d∈i.grps->d.items.length<=L
 si:∀d,d∈i.svcs->d.items.length<=L
 wi:∀d,d∈i.wins->d.act.length<=L
def sumF{α:Type}(f:α->Nat)(l:List α):Nat:=(l.map f).sum
theorem sumF_succ{α:Type}{f:α->Nat}{l:List α}{k:Nat}{d:α}(h:l[k]? =some d):sumF f (l.take (k+1))=sumF f (l.take k)+f d:=by
 unfold sumF;rw[bI,h];simp
theorem sumF_le{α:Type}{f:α->Nat}{L:Nat}:∀{l:List α},(∀d,d∈l->f d<=L)->sumF f l<=l.length*L
 |[],_=>by simp[sumF]
 |d::l,h=>by
  have h1:=h d zx;have h2:=sumF_le (l:=l) fun e he=>h e (by simp[he]);unfold sumF at*;simp only[aR,dB,aB,fH];omega
theorem sumF_take{α:Type}{f:α->Nat}{L n:Nat}{l:List α}(h:∀d,d∈l->f d<=L)(hn:l.length<=n)(k:Nat):sumF f (l.take k)<=n*L:=
 aZ (sumF_le fun d hd=>h d (cA hd)) (bX _ (by rw[bA];omega))
def sixN(i:Nt):Nat:=i.grps.length+i.svcs.length+i.wins.length+i.sts.length+i.pubs.length+i.hids.length
def hugeN(i:Nt):Bool:=decide (14<sixN i)||decide (4<i.sts.length)||decide (30<sixN i+sumF (fun d=>d.items.length) i.grps+sumF (fun d=>d.items.length) i.svcs+sumF (fun d=>d.act.length) i.wins)
theorem cHugN(i:Nt)(hl:LenNt 140737488351232 i){K:KT}(hK:K (.sb (hugeN i)) []):AC 13 [encNt i] [] K:=by
 refine gO (ofnHugN rfl rfl ?_);obtain⟨gs,ss,ws,ts,ps,hs'⟩:=i;obtain⟨h1,h2,h3,h4,h5,h6,h7,h8,h9⟩:=hl;simp only at h1 h2 h3 h4 h5 h6 h7 h8 h9;generalize hsx:((gs.map encDf).length:Int)+((ss.map encDf).length:Int)+((ws.map encWn).length:Int)+((ts.map encSm).length:Int)+((ps.map encPb).length:Int)+((hs'.map encHn).length:Int)=sx at*;have hsx':sx=(sixN ⟨gs,ss,ws,ts,ps,hs'⟩:Nat):=by rw[<-hsx];simp only[sixN,aA];omega
 have hs6:sixN ⟨gs,ss,ws,ts,ps,hs'⟩=gs.length+ss.length+ws.length+ts.length+ps.length+hs'.length:=rfl;unfold hugeN at hK;simp only at hK;generalize sixN ⟨gs,ss,ws,ts,ps,hs'⟩=sn at*;(repeat' ((conv=>whnf);first|(with_reducible refine wr_i64 rfl (by(try simp only[aA]);omega) (by(try simp only[aA]);omega) ?_)|refine zG ?_|apply zA|intro h|exact zT));all_goals conv=>whnf
 all_goals simp only[hsx]at*
 ·refine fin_t hK ?_;simp only[bS,aL];omega
 ·simp only[aA]at*;refine fin_t hK ?_;simp only[bS,aL];omega
 have e1:gs.length<=14:=by omega
 have e2:ss.length<=14:=by omega
 have e3:ws.length<=14:=by omega
 have t1:=fun k=>sumF_take h7 e1 k;have t2:=fun k=>sumF_take h8 e2 k;have t3:=fun k=>sumF_take h9 e3 k;refine gL (Nat×Int) (fun g=>⟨1,[(0,boxNt ⟨gs,ss,ws,ts,ps,hs'⟩)],[(1,.op 0 0),(3,.v (.int .i64 g.2)),(4,.v (.int .i64 g.1))]⟩) (fun g=>g.1<=gs.length/\g.2=(sn+sumF (fun d=>d.items.length) (gs.take g.1):Nat)) (fun g=>gs.length-g.1) (0,sx) ⟨aK _,by simp[hsx',sumF]⟩ ?_ ?_
 ·exact leA
 rintro⟨k,n⟩ ⟨hk,hn⟩
 simp only at hk hn⊢;have q1:=t1 k;rcases aF k gs.length with hkl|hkl
 ·obtain⟨d,hd⟩:=gex hkl;have hs:=sumF_succ (f:=fun d=>d.items.length) hd;have q2:=t1 (k+1);(repeat' ((conv=>whnf);first|(with_reducible first|refine hU hkl ?_|refine hJ hd ?_|refine wr_i64 rfl (by(try simp only[aA]);omega) (by(try simp only[aA]);omega) ?_)|refine zG ?_|apply zA|intro h|exact zT));all_goals conv=>whnf
  refine⟨(k+1,n+((d.items.map encIt).length:Int)),⟨hkl,?_⟩,by simp only;omega,?_⟩
  ·simp only[aA];rw[hs,hn];push_cast;omega
  ·simp only[aO,aN];exact leA
 rw[aY hkl]at hn q1;(repeat' ((conv=>whnf);first|refine zG ?_|apply zA|intro h|exact zT));all_goals conv=>whnf
 refine gL (Nat×Int) (fun g=>⟨1,[(0,boxNt ⟨gs,ss,ws,ts,ps,hs'⟩)],[(1,.op 0 0),(3,.v (.int .i64 g.2)),(5,.v (.int .i64 g.1))]⟩) (fun g=>g.1<=ss.length/\g.2=(sn+sumF (fun d=>d.items.length) gs+sumF (fun d=>d.items.length) (ss.take g.1):Nat)) (fun g=>ss.length-g.1) (0,n) ⟨aK _,by simp[hn,sumF]⟩ ?_ ?_
 ·exact leA
 rintro⟨k2,n2⟩ ⟨hk2,hn2⟩
 simp only at hk2 hn2⊢;have q2:=t2 k2;rcases aF k2 ss.length with hkl2|hkl2
 ·obtain⟨d,hd⟩:=gex hkl2;have hs:=sumF_succ (f:=fun d=>d.items.length) hd;have q3:=t2 (k2+1);(repeat' ((conv=>whnf);first|(with_reducible first|refine hU hkl2 ?_|refine hJ hd ?_|refine wr_i64 rfl (by(try simp only[aA]);omega) (by(try simp only[aA]);omega) ?_)|refine zG ?_|apply zA|intro h|exact zT));all_goals conv=>whnf
  refine⟨(k2+1,n2+((d.items.map encIt).length:Int)),⟨hkl2,?_⟩,by simp only;omega,?_⟩
  ·simp only[aA];rw[hs,hn2];push_cast;omega
  ·simp only[aO,aN];exact leA
 rw[aY hkl2]at hn2 q2;(repeat' ((conv=>whnf);first|refine zG ?_|apply zA|intro h|exact zT));all_goals conv=>whnf
 refine gL (Nat×Int) (fun g=>⟨1,[(0,boxNt ⟨gs,ss,ws,ts,ps,hs'⟩)],[(1,.op 0 0),(3,.v (.int .i64 g.2)),(6,.v (.int .i64 g.1))]⟩) (fun g=>g.1<=ws.length/\g.2=(sn+sumF (fun d=>d.items.length) gs+sumF (fun d=>d.items.length) ss+sumF (fun d=>d.act.length) (ws.take g.1):Nat)) (fun g=>ws.length-g.1) (0,n2) ⟨aK _,by simp[hn2,sumF]⟩ ?_ ?_
 ·exact leA
 rintro⟨k3,n3⟩ ⟨hk3,hn3⟩
 simp only at hk3 hn3⊢;have q3:=t3 k3;rcases aF k3 ws.length with hkl3|hkl3
 ·obtain⟨d,hd⟩:=gex hkl3;have hs:=sumF_succ (f:=fun d=>d.act.length) hd;have q4:=t3 (k3+1);(repeat' ((conv=>whnf);first|(with_reducible first|refine hU hkl3 ?_|refine hJ hd ?_|refine wr_i64 rfl (by(try simp only[aA]);omega) (by(try simp only[aA]);omega) ?_)|refine zG ?_|apply zA|intro h|exact zT));all_goals conv=>whnf
  refine⟨(k3+1,n3+((d.act.map encR).length:Int)),⟨hkl3,?_⟩,by simp only;omega,?_⟩
  ·simp only[aA];rw[hs,hn3];push_cast;omega
  ·simp only[aO,aN];exact leA
 rw[aY hkl3]at hn3 q3;(repeat' ((conv=>whnf);first|refine zG ?_|apply zA|intro h|exact zT));all_goals conv=>whnf
 all_goals first
  |(refine fin_t hK ?_;simp only[bS,aL];omega)
  |(refine fin_f hK ?_;simp only[eN,decide_eq_false_iff_not];simp only[aA]at*;omega)
  |(refine fin_s hK ?_;rw[bJ];simp only[bS,aL];simp only[aA]at*;omega)
theorem sumF_mem{α:Type}{f:α->Nat}:∀{l:List α} {d:α},d∈l->f d<=sumF f l
 |e::l,d,h=>by
  unfold sumF;simp only[aR,dB];rcases aU.1 h with rfl|h
  ·omega
  ·have:=sumF_mem (f:=f) h;unfold sumF at this;omega
theorem bnd_huge{i:Nt}(h:hugeN i=false):Bnd i:=by
 unfold hugeN at h;simp only[eN,decide_eq_false_iff_not]at h;obtain⟨⟨h1,h2⟩,h3⟩:=h;have h0:sixN i=i.grps.length+i.svcs.length+i.wins.length+i.sts.length+i.pubs.length+i.hids.length:=rfl;have a1:itsN i.grps=sumF (fun d=>d.items.length) i.grps:=rfl;have a2:itsN i.svcs=sumF (fun d=>d.items.length) i.svcs:=rfl;refine⟨by omega,by omega,by omega,by omega,by omega,by omega,fun d hd=>?_,fun d hd=>?_,fun d hd=>?_,by omega,by omega⟩
 ·have:=sumF_mem (f:=fun d:Df=>d.items.length) hd;(try simp only at this);omega
 ·have:=sumF_mem (f:=fun d:Df=>d.items.length) hd;(try simp only at this);omega
 ·have:=sumF_mem (f:=fun d:Wn=>d.act.length) hd;(try simp only at this);omega
open Go Go.Vm Go.ChangeShapes Go.WideShapes Go.ChangeAt Go.RowKit
theorem lst_of'{α:Type}(enc:α->AV)(p:α->Prop):∀{L:List AV},(∀y,y∈L->∃a,y=enc a/\p a)->∃l:List α,L=l.map enc/\∀a,a∈l->p a
 |[],_=>⟨[],rfl,fun a h=>by cases h⟩
 |y::L,h=>by
  obtain⟨a,rfl,pa⟩:=h y zx;obtain⟨l,rfl,pl⟩:=lst_of' enc p (L:=L) fun z hz=>h z (by simp[hz]);exact⟨a::l,rfl,fun b hb=>by
   rcases aU.1 hb with rfl|hb
   ·exact pa
   ·exact pl b hb⟩
theorem tzL_df{d L:Nat}{y:AV}(h:TyL Tryz.prog L (d+5) 101 y):∃x:Df,y=encDf x/\x.items.length<=L:=by
 obtain⟨ys,hl,rfl,hf⟩:=h
 match ys,hl with
 |[a,b],_=>
  obtain⟨a,rfl,_⟩:=hf 0 _ a rfl rfl;obtain⟨b,rfl,_,hL,hb⟩:=hf 1 _ b rfl rfl;obtain⟨b,rfl⟩:=list_enc encIt fun y hy=>tz_it (d:=d) (hb y hy).ty;exact⟨⟨a,b⟩,rfl,by simpa using hL⟩
theorem tzL_wn{d L:Nat}{y:AV}(h:TyL Tryz.prog L (d+4) 105 y):∃x:Wn,y=encWn x/\x.act.length<=L:=by
 obtain⟨ys,hl,rfl,hf⟩:=h
 match ys,hl with
 |[a,b],_=>
  obtain⟨a,rfl,_⟩:=hf 0 _ a rfl rfl;obtain⟨b,rfl,_,hL,hb⟩:=hf 1 _ b rfl rfl;obtain⟨b,rfl⟩:=list_enc encR fun y hy=>tz_rg (d:=d) (hb y hy).ty;exact⟨⟨a,b⟩,rfl,by simpa using hL⟩
theorem tzL_nt{d L:Nat}{y:AV}(h:TyL Tryz.prog L (d+7) 35 y):∃i:Nt,y=encNt i/\LenNt L i:=by
 obtain⟨ys,hl,rfl,hf⟩:=h
 match ys,hl with
 |[a,b,c,e,f,g],_=>
  obtain⟨a,rfl,_,la,ha⟩:=hf 0 _ a rfl rfl;obtain⟨b,rfl,_,lb,hb⟩:=hf 1 _ b rfl rfl;obtain⟨c,rfl,_,lc,hc⟩:=hf 2 _ c rfl rfl;obtain⟨e,rfl,_,le,he⟩:=hf 3 _ e rfl rfl;obtain⟨f,rfl,_,lf,hf'⟩:=hf 4 _ f rfl rfl;obtain⟨g,rfl,_,lg,hg⟩:=hf 5 _ g rfl rfl;obtain⟨a,rfl,qa⟩:=lst_of' encDf _ fun y hy=>tzL_df (d:=d) (ha y hy);obtain⟨b,rfl,qb⟩:=lst_of' encDf _ fun y hy=>tzL_df (d:=d) (hb y hy);obtain⟨c,rfl,qc⟩:=lst_of' encWn _ fun y hy=>tzL_wn (d:=d+1) (hc y hy);obtain⟨e,rfl⟩:=list_enc encSm fun y hy=>tz_sm (d:=d+3) (he y hy).ty;obtain⟨f,rfl⟩:=list_enc encPb fun y hy=>tz_pb (d:=d+3) (hf' y hy).ty;obtain⟨g,rfl⟩:=list_enc encHn fun y hy=>tz_hn (d:=d+2) (hg y hy).ty;simp only[aA]at la lb lc le lf lg;exact⟨⟨a,b,c,e,f,g⟩,rfl,⟨la,lb,lc,le,lf,lg,qa,qb,qc⟩⟩
theorem fine_nil(l:List Df):Fine l [] []:=⟨List.Pairwise.nil,List.Pairwise.nil,Firsts.nil,Firsts.nil,fun n h=>(by cases h),fun n h=>(by cases h),fun n h=>(by cases h)⟩
theorem cwStart(t:Tp)(ht:t.edges.length<1000)(l:List Df)(hl:l.length<=999)(hit:∀d,d∈l->d.items.length<=999)(nm:ByteArray){K:KT}
  (hK:K (.v (.int .i64 (fol (visG t) l (l.length+1) [] nm [] []).1)) [adO 2,boxT t,outO 4 (fol (visG t) l (l.length+1) [] nm [] []).2.2.length,.box [],arrO (fol (visG t) l (l.length+1) [] nm [] []).2.2]):
  AC 219 [.lst (l.map encDf),.v (.string nm),.fn (.func 220) [] [.op 0 0,.op 1 0]] [adO 2,boxT t,outO 3 0,.arr 2 []] K:=by
 refine ofwStart rfl rfl ?_;have hc:∀{K:KT},K (.v (.int .i64 (fol (visG t) l (l.length+1) [] nm [] []).1)) [foO l,.map (nameM l []),.map (nameM l (fol (visG t) l (l.length+1) [] nm [] []).2.1),adO 5,boxT t,outO 7 (fol (visG t) l (l.length+1) [] nm [] []).2.2.length,.box [],arrO (fol (visG t) l (l.length+1) [] nm [] []).2.2]->
   AC 286 [.op 0 0,.v (.string nm)] [foO l,.map (fun _=>none),.map (fun _=>none),adO 5,boxT t,outO 6 0,.arr 2 []] K:=fun {K} h=>by
  rw[nameM_nil l];exact cwFol t ht l hl hit (l.length+1) [] nm [] [] (fine_nil l) zx zx h
 (repeat' ((conv=>whnf);first|(with_reducible refine hc ?_)|refine zG ?_|apply zA|intro h|exact zT));all_goals conv=>whnf
 exact hK
def grpE(t:Tp)(l:List Df)(nm:ByteArray):Int×List Rg:=
 if sEq nm ⟨#[]⟩=true then(0,t.edges.map fun e=>e.pf.rg)else((fol (visG t) l (l.length+1) [] nm [] []).1,(fol (visG t) l (l.length+1) [] nm [] []).2.2)
theorem cwUn0(a:List Rg)(ha:a.length<900){K:KT}(hK:∀c,Canon c->(∀v,has c v=has a v)->c.length<=a.length->K (encRs c) []):AC 135 [encRs a,.lst []] [] K:=
 c18 a [] ha zx fun c h1 h2 h3=>hK c h1 (fun v=>by rw[h2];simp[has_nil]) (by simpa using h3)
theorem cwGrp(t:Tp)(ht:t.edges.length<900)(i:Nt)(hl:i.grps.length<=999)(hit:∀d,d∈i.grps->d.items.length<=999)(nm:ByteArray)(hb:(grpE t i.grps nm).1=0->(grpE t i.grps nm).2.length<900){K:KT}
  (hK1:(grpE t i.grps nm).1≠0->K (.tup [.lst [],.v (.int .i64 (grpE t i.grps nm).1)]) [])
  (hK2:(grpE t i.grps nm).1=0->∀c,Canon c->(∀v,has c v=has (grpE t i.grps nm).2 v)->c.length<=(grpE t i.grps nm).2.length->K (.tup [encRs c,.v (.int .i64 0)]) []):
  AC 145 [encT t,encNt i,.v (.string nm)] [] K:=by
 refine gP (ofwGrp rfl rfl ?_);unfold grpE at hb hK1 hK2;by_cases hnm:sEq nm ⟨#[]⟩=true
 ·simp only[aG hnm]at hb hK1 hK2;have hnm2:(nm.toList==(⟨#[]⟩:ByteArray).toList)=true:=hnm;(repeat' ((conv=>whnf);first|refine zG ?_|apply zA|intro h|exact zT));all_goals conv=>whnf
  all_goals first
   |skip
  refine gL (Nat×List Rg) (fun g=>⟨5,[(4,adO 2),(3,arrO g.2),(2,outO 3 g.2.length)],[(8,.op 2 0),(9,.op 4 0),(17,.lst (t.edges.map encE)),(18,.v (.int .i64 (t.edges.map encE).length)),(19,.v (.int .i64 g.1))]⟩)
   (fun g=>g.1<=t.edges.length/\g.2=(t.edges.take g.1).map fun e=>e.pf.rg) (fun g=>t.edges.length-g.1) (0,[]) ⟨aK _,rfl⟩ ?_ ?_
  ·exact leA
  rintro⟨k,out⟩ ⟨hk,ho⟩
  simp only at hk ho⊢;have hol:out.length=k:=by rw[ho,aA,bA];omega
  rcases aF k t.edges.length with hkl|hkl
  ·obtain⟨e,he⟩:=gex hkl;(repeat' ((conv=>whnf);first|(with_reducible first|refine hU hkl ?_|refine hJ he ?_|refine cwAdd e.pf out zo ?_)|refine zG ?_|apply zA|intro h|exact zT));all_goals conv=>whnf
   refine⟨(k+1,out++[e.pf.rg]),⟨hkl,?_⟩,by simp only;omega,?_⟩
   ·simp only;rw[ho,bI,he,aQ];rfl
   ·simp only[aO,aN];exact leA
  ·have hke:k=t.edges.length:=by omega
   rw[hke,dD]at ho;rw[<-ho]at hK2;(repeat' ((conv=>whnf);first|(with_reducible first|refine sl_full (aA ..) ?_|refine cwUn0 out zo fun c hc1 hc2 hc3=>?_)|refine zG ?_|apply zA|intro h|exact zT));all_goals conv=>whnf
   exact⟨_,gM,hK2 trivial c hc1 hc2 hc3⟩
 ·simp only[aD hnm]at hb hK1 hK2;have hnm2:(nm.toList==(⟨#[]⟩:ByteArray).toList)=false:=by simpa[sEq]using hnm
  have hc:=fun {K} h=>@cwStart t zo i.grps hl hit nm K h;generalize fol (visG t) i.grps (i.grps.length+1) [] nm [] []=q at*;obtain⟨qe,qd,qs⟩:=q;simp only at hb hK1 hK2 hc;(repeat' ((conv=>whnf);first|(with_reducible first|refine hc ?_|refine sl_full (aA ..) ?_|refine cwUn0 qs (hb zp) fun c hc1 hc2 hc3=>?_)|refine zG ?_|apply zA|intro h|exact zT));all_goals conv=>whnf
  all_goals first
   |(exfalso;simp_all;done)
   |exact⟨_,gM,hK2 zp c hc1 hc2 hc3⟩
   |exact⟨_,gQ gR gM,hK1 zp⟩
def wgtD(l:List Df)(d:List Nat):Nat:=(d.map fun n=>((l[n]?).map fun x=>x.items.length).getD 0).sum
theorem wgtD_snoc{l:List Df}{d:List Nat}{n:Nat}{x:Df}(h:l[n]? =some x):wgtD l (d++[n])=wgtD l d+x.items.length:=by
 rw[wgtD,aQ,List.sum_append,<-wgtD];simp[h]
theorem wgtD_range(l:List Df):wgtD l (List.range l.length)=itsN l:=by
 unfold wgtD itsN
 congr 1
 refine List.ext_getElem zx fun i h1 h2=>?_;have:i<l.length:=by simpa using h2
 simp[aE this]
theorem sum_erase{l:List Nat}{f:Nat->Nat}{x:Nat}(h:x∈l):(l.map f).sum=f x+((l.erase x).map f).sum:=by
 induction l with
 |nil=>simp at h
 |cons y l ih=>
  by_cases hy:y=x
  ·subst hy;simp
  ·have hx:x∈l:=by rcases aU.1 h with h|h;exact absurd h.symm hy;exact h
   have e:(y::l).erase x=y::l.erase x:=by rw[List.erase_cons_tail (by simpa using hy)]
   rw[e,aR,dB,ih hx,aR,dB];omega
theorem sum_nodup{f:Nat->Nat}:∀{d m:List Nat},d.Nodup->(∀x,x∈d->x∈m)->(d.map f).sum<=(m.map f).sum
 |[],m,_,_=>aK _
 |x::d,m,hn,hs=>by
  obtain⟨h1,h2⟩:=List.nodup_cons.1 hn;rw[sum_erase (hs x zx),aR,dB];have:=sum_nodup (f:=f) (m:=m.erase x) h2 fun y hy=>(List.mem_erase_of_ne (fun e=>h1 (by rw[<-e];exact hy))).2 (hs y (aS _ hy));omega
theorem wgtD_le{l:List Df}{d:List Nat}(hn:d.Nodup)(hl:∀n,n∈d->n<l.length):wgtD l d<=itsN l:=by
 rw[<-wgtD_range];exact sum_nodup hn fun x hx=>dN.2 (hl x hx)
section
variable {S:Type} (v:It->S->Int×S) (sz:S->Nat) (c:Nat) (hv:∀x s,(v x s).1=0->sz (v x s).2<=sz s+c)
structure Fit (l:List Df) (p d:List Nat) (s:S) (d':List Nat) (s':S) (k:Nat):Prop where
 fine:Fine l p d'
 size:sz s'+c*wgtD l d<=sz s+c*wgtD l d'+c*k
include hv
theorem folI_fit{l:List Df}{p:List Nat}{rec:ByteArray->List Nat->S->Int×List Nat×S}(hrec:∀nm d s,Fine l p d->(rec nm d s).1=0->Fit sz c l p d s (rec nm d s).2.1 (rec nm d s).2.2 0):
  ∀(its:List It) (d:List Nat) (s:S),Fine l p d->(folI v rec its d s).1=0->Fit sz c l p d s (folI v rec its d s).2.1 (folI v rec its d s).2.2 its.length
 |[],d,s,hf,_=>⟨hf,by simp[folI]⟩
 |x::r,d,s,hf,h=>by
  rw[folI_cons]at h⊢;have hq:(if x.kind=3 then rec x.name d s else((v x s).1,d,(v x s).2)).1=0->Fit sz c l p d s (if x.kind=3 then rec x.name d s else((v x s).1,d,(v x s).2)).2.1 (if x.kind=3 then rec x.name d s else((v x s).1,d,(v x s).2)).2.2 1:=by
   by_cases hk:x.kind=3
   ·rw[aG hk];intro h0;have:=hrec x.name d s hf h0;exact⟨this.fine,by have:=this.size;omega⟩
   ·rw[aD hk];intro h0;exact⟨hf,by have:=hv x s h0;simp only;omega⟩
  generalize (if x.kind=3 then rec x.name d s else((v x s).1,d,(v x s).2))=q at*;by_cases h0:q.1=0
  ·rw[aG h0]at h⊢;have hq:=hq h0;have h2:=folI_fit hrec r q.2.1 q.2.2 hq.fine h;exact⟨h2.fine,by have:=hq.size;have:=h2.size;rw[aB,Nat.mul_succ];omega⟩
  ·rw[aD h0]at h;exact absurd h h0
theorem fol_fit(l:List Df):∀(k:Nat) (p:List Nat) (nm:ByteArray) (d:List Nat) (s:S),Fine l p d->(fol v l k p nm d s).1=0->
  Fit sz c l p d s (fol v l k p nm d s).2.1 (fol v l k p nm d s).2.2 0
 |0,p,nm,d,s,hf,h=>by simp[fol]at h
 |k+1,p,nm,d,s,hf,h=>by
  unfold fol at h⊢;cases hn:findD l nm with
  |none=>simp[hn]at h
  |some n=>
   simp only[hn]at h⊢;split at h
   ·simp at h
   rename_i hp;rw[aD hp];split at h
   ·rename_i hd;rw[aG hd];exact⟨hf,by simp⟩
   rename_i hd;rw[aD hd];obtain⟨df,hdf,_⟩:=findD_some hn;simp only[hdf,cS,cG]at h⊢;have hpush:=hf.push hn hp hd;split at h
   ·rename_i h0;rw[aG h0];have h1:=folI_fit v sz c hv (fun nm d s hf h=>fol_fit l k (p++[n]) nm d s hf h) df.items d s hpush h0;refine⟨h1.fine.pop hn,?_⟩;have:=h1.size;simp only;rw[wgtD_snoc hdf,fR];omega
   ·rename_i h0;exact absurd h h0
theorem fol_all(l:List Df)(nm:ByteArray)(s:S)(h:(fol v l (l.length+1) [] nm [] s).1=0):sz (fol v l (l.length+1) [] nm [] s).2.2<=sz s+c*itsN l:=by
 have h1:=fol_fit v sz c hv l (l.length+1) [] nm [] s (fine_nil l) h;have h2:=wgtD_le h1.fine.dn h1.fine.dl;have h3:=h1.size;have h4:=dS c h2;have h5:wgtD l []=0:=rfl;rw[h5]at h3;omega
end
theorem grpE_len{t:Tp}{l:List Df}{nm:ByteArray}(h12:t.edges.length<=12)(h:(grpE t l nm).1=0):(grpE t l nm).2.length<=12+12*itsN l:=by
 unfold grpE at h⊢;split
 ·simp only[aA];omega
 ·rename_i hn;rw[aD hn]at h;have:=fol_all (visG t) List.length 12 (fun x s h0=>by
   unfold visG at h0⊢;have hll:=ixs_len (fun e=>sEq e.zone x.name) t.edges t.edges.length;split
   ·rw[aC];simp
   ·split
    ·simp
    ·rw[aC,aA];omega) l nm [] h
  simp only[aH]at this⊢;omega
def grpP(t:Tp)(i:Nt)(nm:ByteArray):List Rg×Int:=if(grpE t i.grps nm).1=0 then(canO (has (grpE t i.grps nm).2),0)else([],(grpE t i.grps nm).1)
def svcGo:List It->List Bx->List Bx×Int
 |[],s=>(s,0)
 |x::r,s=>if(combP anB initS [hdrX x]).2≠0 then([],(combP anB initS [hdrX x]).2)else if(combP orB s (combP anB initS [hdrX x]).1).2≠0 then([],(combP orB s (combP anB initS [hdrX x]).1).2)else svcGo r (combP orB s (combP anB initS [hdrX x]).1).1
def svcF(l:List Df)(nm:ByteArray):Int×List It:=((fol visS l (l.length+1) [] nm [] []).1,(fol visS l (l.length+1) [] nm [] []).2.2)
def svcP(i:Nt)(nm:ByteArray):List Bx×Int:=if sEq nm ⟨#[]⟩=true then(initS,0)else if(svcF i.svcs nm).1≠0 then([],(svcF i.svcs nm).1)else svcGo (svcF i.svcs nm).2 []
def bindE{α:Type}(x:α×Int)(k:α->List Bx×Int):List Bx×Int:=if x.2≠0 then([],x.2)else k x.1
theorem bindE_ok{α:Type}{x:α×Int}{k:α->List Bx×Int}(h:x.2=0):bindE x k=k x.1:=by rw[bindE,aD zo]
theorem bindE_no{α:Type}{x:α×Int}{k:α->List Bx×Int}(h:x.2≠0):bindE x k=([],x.2):=by rw[bindE,aG h]
def stmP(t:Tp)(i:Nt)(s:Sm):List Bx×Int:=
 bindE (grpP t i s.frm) fun f=>bindE (grpP t i s.to) fun g=>bindE (svcP i s.svc) fun v=>
 bindE (if s.exc then grpP t i s.exF else([],0)) fun o=>bindE (if s.exc then grpP t i s.exT else([],0)) fun n=>
 bindE (makeP (btwB f g)) fun b=>if(combP anB b v).2≠0\/s.exc=false then combP anB b v else
 bindE (makeP (btwB o n)) fun b2=>combP woB (combP anB b v).1 b2
def namE(t:Tp)(i:Nt)(s:Sm):Int:=
 if(sEq s.cls ⟨#[]⟩||t.devs.any fun d=>sEq d.cls s.cls)&&(sEq s.dur ⟨#[]⟩||i.wins.any fun w=>sEq w.name s.dur)then 0 else 5
def fstE{α:Type}(f:α->Int):List α->Int
 |[]=>0
 |x::l=>if f x≠0 then f x else fstE f l
def chkP(t:Tp)(i:Nt):Int:=
 let a:=fstE (fun d:Df=>(grpP t i d.name).2) i.grps
 if a≠0 then a else
 let b:=fstE (fun d:Df=>(svcP i d.name).2) i.svcs
 if b≠0 then b else
 let c:=fstE (fun s:Sm=>if(stmP t i s).2≠0 then(stmP t i s).2 else namE t i s) i.sts
 if c≠0 then c else
 let d:=fstE (fun p:Pb=>if edgeIx t.edges p.edge<0 then 5 else 0) i.pubs
 if d≠0 then d else
 fstE (fun h:Hn=>if edgeIx t.edges h.edge<0 then 5 else(grpP t i h.grp).2) i.hids
theorem setBlen{s:List Bx}(h:setB s=true):s.length<1000000000:=by have:=(setB_pset h).len;omega
theorem comp_edges{t:Tp}(hc:compB t=true):t.edges.length<=12:=(compB_iff.1 hc).1.e1
theorem crGrp(t:Tp)(hc:compB t=true)(i:Nt)(hb:Bnd i)(nm:ByteArray){K:KT}(hK:K (.tup [encRs (grpP t i nm).1,.v (.int .i64 (grpP t i nm).2)]) []):AC 145 [encT t,encNt i,.v (.string nm)] [] K:=by
 have h12:=comp_edges hc;have hits:=hb.its;refine cwGrp t zo i hb.g hb.gi nm (fun h=>?_) (fun h=>?_) fun h c hc hh hl=>?_
 ·have:=grpE_len (l:=i.grps) h12 h;omega
 ·rw[grpP,aD h]at hK;exact hK
 ·rw[grpP,aG h,canO_eq hc hh]at hK;exact hK
theorem grpP_len{t:Tp}(hc:compB t=true){i:Nt}(hb:Bnd i)(nm:ByteArray):(grpP t i nm).1.length<=860:=by
 have h12:=comp_edges hc;have hits:=hb.its;unfold grpP;split
 ·rename_i h;have:=grpE_len (l:=i.grps) h12 h;have:=canO_len (grpE t i.grps nm).2;simp only;omega
 ·exact aK _
theorem cwStS(l:List Df)(hl:l.length<=999)(hit:∀d,d∈l->d.items.length<=999)(nm:ByteArray){K:KT}
  (hK:K (.v (.int .i64 (svcF l nm).1)) [itO 2 (svcF l nm).2.length,.box [],arI (svcF l nm).2]):
  AC 219 [.lst (l.map encDf),.v (.string nm),.fn (.func 222) [] [.op 0 0]] [itO 1 0,.arr 7 []] K:=by
 refine ofwStS rfl rfl ?_;unfold svcF at hK;have hc:∀{K:KT},K (.v (.int .i64 (fol visS l (l.length+1) [] nm [] []).1)) [fsO l,.map (nameM l []),.map (nameM l (fol visS l (l.length+1) [] nm [] []).2.1),itO 5 (fol visS l (l.length+1) [] nm [] []).2.2.length,.box [],arI (fol visS l (l.length+1) [] nm [] []).2.2]->
   AC 286 [.op 0 0,.v (.string nm)] [fsO l,.map (fun _=>none),.map (fun _=>none),itO 4 0,.arr 7 []] K:=fun {K} h=>by
  rw[nameM_nil l];exact cwFos l hl hit (l.length+1) [] nm [] [] (fine_nil l) zx zx h
 (repeat' ((conv=>whnf);first|(with_reducible refine hc ?_)|refine zG ?_|apply zA|intro h|exact zT));all_goals conv=>whnf
 exact hK
theorem svcF_len{l:List Df}{nm:ByteArray}(h:(svcF l nm).1=0):(svcF l nm).2.length<=itsN l:=by
 unfold svcF at h⊢;have:=fol_all visS List.length 1 (fun x s _=>by simp[visS]) l nm [] h;simp only[aH]at this;simp only;omega
theorem svcGo_drop{x:It}{r:List It}{s:List Bx}:svcGo (x::r) s=if(combP anB initS [hdrX x]).2≠0 then([],(combP anB initS [hdrX x]).2)else if(combP orB s (combP anB initS [hdrX x]).1).2≠0 then([],(combP orB s (combP anB initS [hdrX x]).1).2)else svcGo r (combP orB s (combP anB initS [hdrX x]).1).1:=rfl
theorem crSvc(i:Nt)(hb:Bnd i)(nm:ByteArray){K:KT}(hK:K (.tup [encXs (svcP i nm).1,.v (.int .i64 (svcP i nm).2)]) []):AC 146 [encNt i,.v (.string nm)] [] K:=by
 refine gP (ofwSvc rfl rfl ?_);unfold svcP at hK;by_cases hnm:sEq nm ⟨#[]⟩=true
 ·rw[aG hnm]at hK;have hnm2:(nm.toList==(⟨#[]⟩:ByteArray).toList)=true:=hnm;(repeat' ((conv=>whnf);first|(with_reducible refine cxInit ?_)|refine zG ?_|apply zA|intro h|exact zT));all_goals conv=>whnf
  exact⟨_,gM,hK⟩
 ·rw[aD hnm]at hK;have hnm2:(nm.toList==(⟨#[]⟩:ByteArray).toList)=false:=by simpa[sEq]using hnm
  have hc:=fun {K} h=>@cwStS i.svcs hb.s hb.si nm K h;have hlen:=svcF_len (l:=i.svcs) (nm:=nm);have hsn:=hb.sits;generalize svcF i.svcs nm=q at*;obtain⟨qe,its⟩:=q;simp only at hK hc hlen;(repeat' ((conv=>whnf);first|(with_reducible refine hc ?_)|refine zG ?_|apply zA|intro h|exact zT));all_goals conv=>whnf
  ·rw[aD zo]at hK;have hlen:=hlen h;refine gL (Nat×List Bx) (fun g=>⟨4,[],[(8,encXs g.2),(25,.lst (its.map encIt)),(26,.v (.int .i64 (its.map encIt).length)),(27,.v (.int .i64 g.1))]⟩) (fun g=>g.1<=its.length/\setB g.2=true/\svcGo its []=svcGo (its.drop g.1) g.2) (fun g=>its.length-g.1) (0,[]) ⟨aK _,setB_nil,by rw[bZ]⟩ ?_ ?_
   ·exact leA
   rintro⟨k,s⟩ ⟨hk,hs,heq⟩
   simp only at hk hs heq⊢;have hsl:=setBlen hs;rcases aF k its.length with hkl|hkl
   ·obtain⟨x,hx⟩:=gex hkl;have hd:its.drop k=x::its.drop (k+1):=by
     rw[aE hkl]at hx;rw[<-bE hx,<-bB hkl]
    rw[hd,svcGo_drop]at heq;have hq:∀{K:KT},K (.tup [encXs (combP anB initS [hdrX x]).1,.v (.int .i64 (combP anB initS [hdrX x]).2)]) []->AC 77 [encXs initS,.lst [.agg [.v (.int .u32 fullB.r0.lo),.v (.int .u32 fullB.r0.hi),.v (.int .u32 fullB.r1.lo),.v (.int .u32 fullB.r1.hi),.v (.int .u32 (wu x.proto)),.v (.int .u32 (wu x.proto)),.v (.int .u32 fullB.r3.lo),.v (.int .u32 fullB.r3.hi),.v (.int .u32 x.ports.lo),.v (.int .u32 x.ports.hi)]]] [] K:=fun {K} h=>@cxInt initS [hdrX x] zd zx K h;have hsA:=setB_combP anB initS [hdrX x];have hsB:=setB_combP orB s (combP anB initS [hdrX x]).1;have hu:=fun {K} h=>@cxUn s (combP anB initS [hdrX x]).1 zo (by have:=setBlen hsA;omega) K h;generalize combP orB s (combP anB initS [hdrX x]).1=B at*;generalize combP anB initS [hdrX x]=A at*;obtain⟨As,Ae⟩:=A;obtain⟨Bs,Be⟩:=B;simp only at heq hsA hsB hu hq;(repeat' ((conv=>whnf);first|(with_reducible first|refine hU hkl ?_|refine hJ hx ?_|refine cxFull ?_)|(refine in_c zd ?_)|(with_reducible first|refine wr_u32_eq ?_|refine cxInit ?_)|(refine sl_full (by rfl) ?_)|(with_reducible first|refine hq ?_|refine hu ?_)|refine zG ?_|apply zA|intro h|exact zT));all_goals conv=>whnf
    all_goals first
     |(rw[aD (fun hn=>hn zw),aD (fun hn=>hn zw)]at heq
       refine⟨(k+1,Bs),⟨hkl,hsB,heq⟩,by simp only;omega,?_⟩;simp only[aO,aN];exact leA)
     |(rw[aG h]at heq
       rw[heq]at hK;exact⟨_,gQ gR gM,hK⟩)
     |(rw[aD (fun hn=>hn zw),aG h]at heq
       rw[heq]at hK;exact⟨_,gQ gR gM,hK⟩)
   ·rw[bU hkl]at heq;rw[heq]at hK;(repeat' ((conv=>whnf);first|refine zG ?_|apply zA|intro h|exact zT));all_goals conv=>whnf
    exact⟨_,gM,hK⟩
  ·rw[aG zp]at hK;exact⟨_,gQ gR gM,hK⟩
theorem svcGo_set:∀(its:List It) (s:List Bx),setB s=true->setB (svcGo its s).1=true
 |[],s,h=>h
 |x::r,s,h=>by
  rw[svcGo_drop];split
  ·exact setB_nil
  ·split
   ·exact setB_nil
   ·exact svcGo_set r _ (setB_combP ..)
theorem svcP_set(i:Nt)(nm:ByteArray):setB (svcP i nm).1=true:=by
 unfold svcP;split
 ·exact init_set
 ·split
  ·exact setB_nil
  ·exact svcGo_set _ _ setB_nil
theorem bwB_snoc(a:List Rg)(r:Rg)(b:List Rg):btwB (a++[r]) b=btwB a b++b.map fun s=>btwX r s:=by simp[btwB]
theorem bwB_len(b:List Rg):∀a:List Rg,(btwB a b).length=a.length*b.length
 |[]=>by simp[btwB]
 |r::a=>by
  have:=bwB_len b a;simp only[btwB,cX,aC,aA,aB,fH]at*;omega
theorem crBtw(a b:List Rg)(ha:a.length<=860)(hb:b.length<=860){K:KT}(hK:K (.tup [encXs (makeP (btwB a b)).1,.v (.int .i64 (makeP (btwB a b)).2)]) []):AC 155 [encRs a,encRs b] [] K:=by
 refine ofrBtw rfl rfl ?_;(repeat' ((conv=>whnf);first|refine zG ?_|apply zA|intro h|exact zT));all_goals conv=>whnf
 refine gL Nat (fun i=>⟨1,[(0,.arr 10 ((btwB (a.take i) b).map encX))],[(1,encRs b),(6,.os 0 10 0 (btwB (a.take i) b).length),(12,encRs a),(13,.v (.int .i64 (a.map encR).length)),(14,.v (.int .i64 i))]⟩) (fun i=>i<=a.length) (fun i=>a.length-i) 0 (aK _) ?_ ?_
 ·rw[cW,show btwB [] b=[]from rfl];exact leA
 intro i hi;have hl:=bwB_len b (a.take i);have hm:(a.take i).length*b.length<=860*860:=dV (by rw[bA];omega) hb;rcases aF i a.length with hil|hil
 ·obtain⟨r,hr⟩:=gex hil;have hs:btwB (a.take (i+1)) b=btwB (a.take i) b++b.map fun s=>btwX r s:=by rw[bI,hr];exact bwB_snoc ..
  generalize btwB (a.take i) b=A at*;(repeat' ((conv=>whnf);first|(with_reducible first|refine hU hil ?_|refine hJ hr ?_)|refine zG ?_|apply zA|intro h|exact zT));all_goals conv=>whnf
  refine gL Nat (fun k=>⟨2,[(0,.arr 10 ((A++(b.take k).map fun s=>btwX r s).map encX)),(1,.box [.v (.int .u32 r.lo),.v (.int .u32 r.hi)])],[(1,encRs b),(6,.os 0 10 0 (A++(b.take k).map fun s=>btwX r s).length),(8,.op 1 0),(12,encRs a),(13,.v (.int .i64 (a.map encR).length)),(14,.v (.int .i64 i)),(18,encRs b),(19,.v (.int .i64 (b.map encR).length)),(20,.v (.int .i64 k))]⟩) (fun k=>k<=b.length) (fun k=>b.length-k) 0 (aK _) ?_ ?_
  ·rw[cW,bL,bF];exact leA
  intro k hk;rcases aF k b.length with hkl|hkl
  ·obtain⟨s,hs2⟩:=gex hkl;have hap:(A++(b.take (k+1)).map fun s=>btwX r s)=(A++(b.take k).map fun s=>btwX r s)++[btwX r s]:=by rw[bI,hs2];simp
   have hlen:(A++(b.take k).map fun s=>btwX r s).length<=1000000:=by rw[aC,aA,bA];omega
   generalize hB:(A++(b.take (k+1)).map fun s=>btwX r s)=B at*;generalize (A++(b.take k).map fun s=>btwX r s)=C at*;(repeat' ((conv=>whnf);first|(with_reducible first|refine cxFull ?_|refine hU hkl ?_|refine hJ hs2 ?_)|(refine in_c zd ?_)|(refine sl_full (by rfl) ?_)|refine zG ?_|apply zA|intro h|exact zT));all_goals conv=>whnf
   all_goals
    refine⟨k+1,hkl,by omega,?_⟩;rw[hB,hap,aQ,aC,aO k,aN];exact leA
  ·(repeat' ((conv=>whnf);first|refine zG ?_|apply zA|intro h|exact zT));all_goals conv=>whnf
   have hke:k=b.length:=by omega
   rw[hke,dD,<-hs];refine⟨i+1,hil,by omega,?_⟩;rw[aO i,aN];exact leA
 ·have hie:i=a.length:=by omega
  have hbl:(btwB a b).length<1000000000:=by
   have:=dV ha hb;rw[bwB_len];omega
  rw[hie,dD];have hfull:((btwB a b).map encX).length=(btwB a b).length:=aA ..;(repeat' ((conv=>whnf);first|(with_reducible first|refine sl_full hfull ?_|refine cxMake (btwB a b) hbl ?_)|refine zG ?_|apply zA|intro h|exact zT));all_goals conv=>whnf
  exact hK
theorem crStm(t:Tp)(hc:compB t=true)(i:Nt)(hb:Bnd i)(s:Sm){K:KT}(hK:K (.tup [encXs (stmP t i s).1,.v (.int .i64 (stmP t i s).2)]) []):AC 78 [encT t,encNt i,encSm s] [] K:=by
 refine gP (ofrStm rfl rfl ?_);have hl:=fun nm=>grpP_len hc hb nm;have hg:=fun(nm:ByteArray) {K:KT} h=>@crGrp t hc i hb nm K h;unfold stmP at hK;have l1:=hl s.frm;have l2:=hl s.to;have l4:=hl s.exF;have l5:=hl s.exT;have g1:=fun {K} h=>@hg s.frm K h;have g2:=fun {K} h=>@hg s.to K h;have g4:=fun {K} h=>@hg s.exF K h;have g5:=fun {K} h=>@hg s.exT K h;have g3:=fun {K} h=>@crSvc i hb s.svc K h;have s3:=svcP_set i s.svc;generalize grpP t i s.frm=F at*;generalize grpP t i s.to=G at*;generalize grpP t i s.exF=O at*;generalize grpP t i s.exT=N at*;generalize svcP i s.svc=V at*;obtain⟨Fs,Fe⟩:=F;obtain⟨Gs,Ge⟩:=G;obtain⟨Os,Oe⟩:=O;obtain⟨Ns,Ne⟩:=N;obtain⟨Vs,Ve⟩:=V;simp only at l1 l2 l4 l5 g1 g2 g3 g4 g5 s3 hK;(repeat' ((conv=>whnf);first|(with_reducible first|refine g1 ?_|refine g2 ?_|refine g3 ?_)|refine zG ?_|apply zA|intro h|exact zT));all_goals conv=>whnf
 rotate_left
 ·rw[bindE_ok (x:=(Fs,Fe)) zw,bindE_ok (x:=(Gs,Ge)) zw,bindE_no (x:=(Vs,Ve)) h]at hK;exact⟨_,gQ gR gM,hK⟩
 ·rw[bindE_ok (x:=(Fs,Fe)) zw,bindE_no (x:=(Gs,Ge)) h]at hK;exact⟨_,gQ gR gM,hK⟩
 ·rw[bindE_no (x:=(Fs,Fe)) h]at hK;exact⟨_,gQ gR gM,hK⟩
 rw[bindE_ok (x:=(Fs,Fe)) zw,bindE_ok (x:=(Gs,Ge)) zw,bindE_ok (x:=(Vs,Ve)) h]at hK;simp only at hK;have hvl:=setBlen s3;have b1:=fun {K} h=>@crBtw Fs Gs l1 l2 K h;have sB:=setB_makeP (btwB Fs Gs);have i1:=fun {K} h=>@cxInt (makeP (btwB Fs Gs)).1 Vs (setBlen sB) hvl K h;have sC:=setB_combP anB (makeP (btwB Fs Gs)).1 Vs;have b2:=fun {K} h=>@crBtw Os Ns l4 l5 K h;have sD:=setB_makeP (btwB Os Ns);have i2:=fun {K} h=>@cxSub (combP anB (makeP (btwB Fs Gs)).1 Vs).1 (makeP (btwB Os Ns)).1 (setBlen sC) (setBlen sD) K h;by_cases hex:s.exc=true
 ·simp only[hex,if_true]at hK;refine gV Unit (fun _=>⟨3,[(2,.box [.sb s.permit,.v (.string s.frm),.v (.string s.to),.v (.string s.svc),.sb s.exc,.v (.string s.exF),.v (.string s.exT),.v (.string s.cls),.v (.string s.dur),.v (.int .i64 s.pri)])],[(5,.op 2 0),(8,encRs Fs),(10,encRs Gs),(11,encXs Vs),(12,encRs Os),(13,encRs Ns)]⟩) (fun _=>Oe=0/\Ne=0) ?_ ?_
  ·(repeat' ((conv=>whnf);first|(with_reducible first|refine g4 ?_|refine g5 ?_)|refine zG ?_|apply zA|intro h|exact zT));all_goals conv=>whnf
   all_goals first
    |(refine⟨(),⟨by with_reducible assumption,by with_reducible assumption⟩,?_⟩
      exact leA)
    |(rw[bindE_no (x:=(Os,Oe)) h]at hK
      exact⟨_,gQ gR gM,hK⟩)
    |(rw[bindE_ok (x:=(Os,Oe)) zw,bindE_no (x:=(Ns,Ne)) h]at hK
      exact⟨_,gQ gR gM,hK⟩)
  rintro⟨⟩ ⟨h1,h2⟩
  rw[bindE_ok (x:=(Os,Oe)) h1,bindE_ok (x:=(Ns,Ne)) h2]at hK;simp only at hK;generalize makeP (btwB Fs Gs)=B at*;generalize makeP (btwB Os Ns)=D at*;generalize hC:combP anB B.1 Vs=C at*;generalize hX:combP woB C.1 D.1=X at*;obtain⟨Bs,Be⟩:=B;obtain⟨Cs,Ce⟩:=C;obtain⟨Ds,De⟩:=D;obtain⟨Xs,Xe⟩:=X;simp only at b1 i1 b2 i2 hK hC hX;(repeat' ((conv=>whnf);first|(with_reducible first|refine b1 ?_|refine i1 ?_|refine b2 ?_|refine i2 ?_)|refine zG ?_|apply zA|intro h|exact zT));all_goals conv=>whnf
  ·rw[bindE_ok (x:=(Bs,Be)) zw]at hK;simp only[hC]at hK;rw[aD (fun hh=>hh.elim (fun hn=>hn zw) (fun hn=>by cases hn)),bindE_ok (x:=(Ds,De)) h]at hK;simp only[hX]at hK;exact⟨_,gM,hK⟩
  ·rw[bindE_ok (x:=(Bs,Be)) zw]at hK;simp only[hC]at hK;rw[aD (fun hh=>hh.elim (fun hn=>hn zw) (fun hn=>by cases hn)),bindE_no (x:=(Ds,De)) h]at hK;exact⟨_,gQ gR gM,hK⟩
  ·rw[bindE_ok (x:=(Bs,Be)) zw]at hK;simp only[hC]at hK;rw[aG (.inl h)]at hK;exact⟨_,gM,hK⟩
  ·rw[bindE_no (x:=(Bs,Be)) h]at hK;exact⟨_,gQ gR gM,hK⟩
 ·have hexf:s.exc=false:=by simpa using hex
  simp only[hexf,cM,if_false]at hK;rw[bindE_ok (x:=(([]:List Rg),(0:Int))) rfl,bindE_ok (x:=(([]:List Rg),(0:Int))) rfl]at hK;refine Jn.at ⟨3,[(2,.box [.sb s.permit,.v (.string s.frm),.v (.string s.to),.v (.string s.svc),.sb s.exc,.v (.string s.exF),.v (.string s.exT),.v (.string s.cls),.v (.string s.dur),.v (.int .i64 s.pri)])],[(5,.op 2 0),(8,encRs Fs),(10,encRs Gs),(11,encXs Vs)]⟩ ?_ ?_
  ·(repeat' ((conv=>whnf);first|refine zG ?_|apply zA|intro h|exact zT));all_goals conv=>whnf
   refine⟨(),trivial,?_⟩;exact leA
  simp only at hK;generalize makeP (btwB Fs Gs)=B at*;generalize hC:combP anB B.1 Vs=C at*;obtain⟨Bs,Be⟩:=B;obtain⟨Cs,Ce⟩:=C;simp only at b1 i1 hK hC;(repeat' ((conv=>whnf);first|(with_reducible first|refine b1 ?_|refine i1 ?_)|refine zG ?_|apply zA|intro h|exact zT));all_goals conv=>whnf
  all_goals first
   |(rw[bindE_no (x:=(Bs,Be)) h]at hK
     exact⟨_,gQ gR gM,hK⟩)
   |(rw[bindE_ok (x:=(Bs,Be)) zw]at hK
     simp only[hC,or_true,if_true,ite_self]at hK;exact⟨_,gM,hK⟩)
def grpV(t:Tp)(i:Nt)(nm:ByteArray):List Rg×Int:=if compB t=true/\ntB i=true then grpP t i nm else([],1)
def svcV(i:Nt)(nm:ByteArray):List Bx×Int:=if ntB i=true then svcP i nm else([],1)
def stmV(t:Tp)(i:Nt)(n:Int):List Bx×Int:=
 if compB t=true/\ntB i=true then(if n<0\/(i.sts.length:Int)<=n then([],2)else match i.sts[n.toNat]? with
  |some s=>stmP t i s
  |none=>([],2))else([],1)
theorem crStatement(t:Tp)(ht:t.edges.length<1000000)(i:Nt)(hb:Bnd i)(n:Int){K:KT}(hK:K (.tup [encXs (stmV t i n).1,.v (.int .i64 (stmV t i n).2)]) []):AC 29 [encT t,encNt i,.v (.int .i64 n)] [] K:=by
 refine gP (ofrStmt rfl rfl ?_);unfold stmV at hK;have bt:=hb.t;by_cases hc:compB t=true
 ·by_cases hn:n<0\/(i.sts.length:Int)<=n
  ·rw[aG hn]at hK;(repeat' ((conv=>whnf);first|(with_reducible first|refine ctComp t ht ?_|refine ckNt i hb ?_)|refine zG ?_|apply zA|intro h|exact zT));all_goals conv=>whnf
   all_goals first
    |(rw[aG ⟨hc,zw⟩]at hK
      exact⟨_,gQ gR gM,hK⟩)
    |(rw[aD (fun hh=>by rw[hh.2]at h;cases h)]at hK
      exact⟨_,gQ gR gM,hK⟩)
    |(exfalso;simp only[aA]at*;omega)
  ·rw[aD hn]at hK;obtain⟨k,rfl⟩:=dU (show 0<=n by omega);have hkl:k<i.sts.length:=by omega
   obtain⟨s,hs⟩:=gex hkl;simp only[eJ,hs]at hK;have hg:=fun {K} h=>@crStm t hc i hb s K h;(repeat' ((conv=>whnf);first|(with_reducible first|refine ctComp t ht ?_|refine ckNt i hb ?_|refine hU hkl ?_|refine hJ hs ?_|refine hg ?_)|refine zG ?_|apply zA|intro h|exact zT));all_goals conv=>whnf
   all_goals first
    |(rw[aG ⟨hc,zw⟩]at hK
      exact⟨_,gM,hK⟩)
    |(rw[aD (fun hh=>by rw[hh.2]at h;cases h)]at hK
      exact⟨_,gQ gR gM,hK⟩)
    |(exfalso;simp only[aA]at*;omega)
 ·have hcf:compB t=false:=by simpa using hc
  rw[aD (fun hh=>hc hh.1)]at hK;(repeat' ((conv=>whnf);first|(with_reducible refine ctComp t ht ?_)|refine zG ?_|apply zA|intro h|exact zT));all_goals conv=>whnf
  exact⟨_,gQ gR gM,hK⟩
abbrev clSm(s:Sm):List AV:=[.sb s.permit,.v (.string s.frm),.v (.string s.to),.v (.string s.svc),.sb s.exc,.v (.string s.exF),.v (.string s.exT),.v (.string s.cls),.v (.string s.dur),.v (.int .i64 s.pri)]
theorem crNam1(d:Dv)(s:Sm){K:KT}(hK:K (.sb (sEq d.cls s.cls)) []):AC 224 [encD d,.fp (clSm s)] [] K:=by
 refine ofrNam1 rfl rfl ?_;(repeat' ((conv=>whnf);first|refine zG ?_|apply zA|intro h|exact zT));all_goals conv=>whnf
 exact hK
theorem crNam2(d:Wn)(s:Sm){K:KT}(hK:K (.sb (sEq d.name s.dur)) []):AC 226 [encWn d,.fp (clSm s)] [] K:=by
 refine ofrNam2 rfl rfl ?_;(repeat' ((conv=>whnf);first|refine zG ?_|apply zA|intro h|exact zT));all_goals conv=>whnf
 exact hK
theorem crAnD(l:List Dv)(s:Sm)(hl:l.length<1000000){K:KT}(hK:K (.sb (l.any fun d=>sEq d.cls s.cls)) []):
  AC 223 [.lst (l.map encD),.fn (.func 224) [] [.fp (clSm s)]] [] K:=by
 have hc:∀{K:KT},K (.v (.int .i64 (firstIx (fun d:Dv=>sEq d.cls s.cls) l))) []->AC 282 [.lst (l.map encD),.fn (.func 224) [] [.fp (clSm s)]] [] K:=fun h=>cixDev l _ _ (fun d=>sEq d.cls s.cls) (fun x K h=>crNam1 x s h) hl h;refine ofrAnD rfl rfl ?_;(repeat' ((conv=>whnf);first|(with_reducible refine hc ?_)|refine zG ?_|apply zA|intro h|exact zT));all_goals conv=>whnf
 rw[<-first_any]at hK;exact hK
theorem crAnW(l:List Wn)(s:Sm)(hl:l.length<1000000){K:KT}(hK:K (.sb (l.any fun d=>sEq d.name s.dur)) []):
  AC 225 [.lst (l.map encWn),.fn (.func 226) [] [.fp (clSm s)]] [] K:=by
 have hc:∀{K:KT},K (.v (.int .i64 (firstIx (fun d:Wn=>sEq d.name s.dur) l))) []->AC 129 [.lst (l.map encWn),.fn (.func 226) [] [.fp (clSm s)]] [] K:=fun h=>cixW l _ _ (fun d=>sEq d.name s.dur) (fun x K h=>crNam2 x s h) hl h;refine ofrAnW rfl rfl ?_;(repeat' ((conv=>whnf);first|(with_reducible refine hc ?_)|refine zG ?_|apply zA|intro h|exact zT));all_goals conv=>whnf
 rw[<-first_any]at hK;exact hK
theorem crNames(t:Tp)(ht:t.devs.length<1000000)(i:Nt)(hb:Bnd i)(s:Sm){K:KT}(hK:K (.v (.int .i64 (namE t i s))) []):AC 147 [encT t,encNt i,encSm s] [] K:=by
 have bw:=hb.w;refine ofrNames rfl rfl ?_;(repeat' ((conv=>whnf);first|(with_reducible first|refine crAnD t.devs s ht ?_|refine crAnW i.wins s zo ?_)|refine zG ?_|apply zA|intro h|exact zT));all_goals conv=>whnf
 all_goals
  have e:∀b:ByteArray,sEq b ⟨#[]⟩=(b.toList==(⟨#[]⟩:ByteArray).toList):=fun _=>rfl;unfold namE at hK;rw[e,e]at hK;simp_all
 all_goals first
  |exact hK
theorem fstE_cons{α:Type}(f:α->Int)(x:α)(l:List α):fstE f (x::l)=if f x≠0 then f x else fstE f l:=rfl
def chkV(t:Tp)(i:Nt):Int:=if compB t=true/\ntB i=true then chkP t i else 1
theorem chkP_eq(t:Tp)(i:Nt):chkP t i=
  if fstE (fun d:Df=>(grpP t i d.name).2) i.grps≠0 then fstE (fun d:Df=>(grpP t i d.name).2) i.grps else
  if fstE (fun d:Df=>(svcP i d.name).2) i.svcs≠0 then fstE (fun d:Df=>(svcP i d.name).2) i.svcs else
  if fstE (fun s:Sm=>if(stmP t i s).2≠0 then(stmP t i s).2 else namE t i s) i.sts≠0 then fstE (fun s:Sm=>if(stmP t i s).2≠0 then(stmP t i s).2 else namE t i s) i.sts else
  if fstE (fun p:Pb=>if edgeIx t.edges p.edge<0 then 5 else 0) i.pubs≠0 then fstE (fun p:Pb=>if edgeIx t.edges p.edge<0 then 5 else 0) i.pubs else
  fstE (fun h:Hn=>if edgeIx t.edges h.edge<0 then 5 else(grpP t i h.grp).2) i.hids:=rfl
theorem crCheck(t:Tp)(ht:t.edges.length<1000000)(hd:t.devs.length<1000000)(i:Nt)(hb:Bnd i){K:KT}(hK:K (.v (.int .i64 (chkV t i))) []):AC 74 [encT t,encNt i] [] K:=by
 have bg:=hb.g;have bs:=hb.s;have bt:=hb.t;have bp:=hb.p;have bh:=hb.h;refine ofrCheck rfl rfl ?_;unfold chkV at hK;by_cases hc:compB t=true
 rotate_left
 ·have hcf:compB t=false:=by simpa using hc
  rw[aD (fun hh=>hc hh.1)]at hK;(repeat' ((conv=>whnf);first|(with_reducible refine ctComp t ht ?_)|refine zG ?_|apply zA|intro h|exact zT));all_goals conv=>whnf
  exact hK
 by_cases hn:ntB i=true
 rotate_left
 ·have hnf:ntB i=false:=by simpa using hn
  rw[aD (fun hh=>hn hh.2)]at hK;(repeat' ((conv=>whnf);first|(with_reducible first|refine ctComp t ht ?_|refine ckNt i hb ?_)|refine zG ?_|apply zA|intro h|exact zT));all_goals conv=>whnf
  exact hK
 rw[aG ⟨hc,hn⟩,chkP_eq]at hK;have hg:=fun(nm:ByteArray) {K:KT} h=>@crGrp t hc i hb nm K h;have hs:=fun(nm:ByteArray) {K:KT} h=>@crSvc i hb nm K h;have hm:=fun(s:Sm) {K:KT} h=>@crStm t hc i hb s K h;(repeat' ((conv=>whnf);first|(with_reducible first|refine ctComp t ht ?_|refine ckNt i hb ?_)|refine zG ?_|apply zA|intro h|exact zT));all_goals conv=>whnf
 refine gL Nat (fun n=>⟨2,[(0,boxT t),(1,boxNt i)],[(2,.op 0 0),(3,.op 1 0),(33,.lst (i.grps.map encDf)),(34,.v (.int .i64 (i.grps.map encDf).length)),(35,.v (.int .i64 n))]⟩) (fun n=>n<=i.grps.length/\fstE (fun d:Df=>(grpP t i d.name).2) i.grps=fstE (fun d:Df=>(grpP t i d.name).2) (i.grps.drop n)) (fun n=>i.grps.length-n) 0 ⟨aK _,by rw[bZ]⟩ ?_ ?_
 ·exact leA
 intro n ⟨hn1,heq⟩;rcases aF n i.grps.length with hnl|hnl
 ·obtain⟨x,hx⟩:=gex hnl;have hdr:i.grps.drop n=x::i.grps.drop (n+1):=by
   rw[aE hnl]at hx;rw[<-bE hx,<-bB hnl]
  rw[hdr,fstE_cons]at heq;have hgx:=fun {K} h=>@hg x.name K h;generalize grpP t i x.name=G at*;obtain⟨Gs,Ge⟩:=G;simp only at heq hgx;(repeat' ((conv=>whnf);first|(with_reducible first|refine hU hnl ?_|refine hJ hx ?_|refine hgx ?_)|refine zG ?_|apply zA|intro h|exact zT));all_goals conv=>whnf
  all_goals first
   |(rw[aD (fun hh=>hh h)]at heq
     refine⟨n+1,⟨hnl,heq⟩,by omega,?_⟩;rw[aO,aN];exact leA)
   |(rw[aG h]at heq
     rw[heq,aG h]at hK;exact hK)
 rw[bU hnl]at heq;have e0:fstE (fun d:Df=>(grpP t i d.name).2) i.grps=0:=heq;clear heq;(repeat' ((conv=>whnf);first|refine zG ?_|apply zA|intro h|exact zT));all_goals conv=>whnf
 refine gL Nat (fun n=>⟨2,[(0,boxT t),(1,boxNt i)],[(2,.op 0 0),(3,.op 1 0),(52,.lst (i.svcs.map encDf)),(53,.v (.int .i64 (i.svcs.map encDf).length)),(54,.v (.int .i64 n))]⟩) (fun n=>n<=i.svcs.length/\fstE (fun d:Df=>(svcP i d.name).2) i.svcs=fstE (fun d:Df=>(svcP i d.name).2) (i.svcs.drop n)) (fun n=>i.svcs.length-n) 0 ⟨aK _,by rw[bZ]⟩ ?_ ?_
 ·exact leA
 intro n ⟨hn1,heq⟩;rcases aF n i.svcs.length with hnl|hnl
 ·obtain⟨x,hx⟩:=gex hnl;have hdr:i.svcs.drop n=x::i.svcs.drop (n+1):=by
   rw[aE hnl]at hx;rw[<-bE hx,<-bB hnl]
  rw[hdr,fstE_cons]at heq;have hsx:=fun {K} h=>@hs x.name K h;generalize svcP i x.name=G at*;obtain⟨Gs,Ge⟩:=G;simp only at heq hsx;(repeat' ((conv=>whnf);first|(with_reducible first|refine hU hnl ?_|refine hJ hx ?_|refine hsx ?_)|refine zG ?_|apply zA|intro h|exact zT));all_goals conv=>whnf
  all_goals first
   |(rw[aD (fun hh=>hh h)]at heq
     refine⟨n+1,⟨hnl,heq⟩,by omega,?_⟩;rw[aO,aN];exact leA)
   |(rw[aG h]at heq
     rw[aD (fun hh=>hh e0)]at hK;rw[heq,aG h]at hK;exact hK)
 rw[bU hnl]at heq;have e1:fstE (fun d:Df=>(svcP i d.name).2) i.svcs=0:=heq;clear heq;(repeat' ((conv=>whnf);first|refine zG ?_|apply zA|intro h|exact zT));all_goals conv=>whnf
 refine gL Nat (fun n=>⟨2,[(0,boxT t),(1,boxNt i)],[(2,.op 0 0),(3,.op 1 0),(70,.lst (i.sts.map encSm)),(71,.v (.int .i64 (i.sts.map encSm).length)),(72,.v (.int .i64 n))]⟩) (fun n=>n<=i.sts.length/\fstE (fun s:Sm=>if(stmP t i s).2≠0 then(stmP t i s).2 else namE t i s) i.sts=fstE (fun s:Sm=>if(stmP t i s).2≠0 then(stmP t i s).2 else namE t i s) (i.sts.drop n)) (fun n=>i.sts.length-n) 0 ⟨aK _,by rw[bZ]⟩ ?_ ?_
 ·exact leA
 intro n ⟨hn1,heq⟩;rcases aF n i.sts.length with hnl|hnl
 ·obtain⟨x,hx⟩:=gex hnl;have hdr:i.sts.drop n=x::i.sts.drop (n+1):=by
   rw[aE hnl]at hx;rw[<-bE hx,<-bB hnl]
  rw[hdr,fstE_cons]at heq;have hmx:=fun {K} h=>@hm x K h;generalize stmP t i x=G at*;obtain⟨Gs,Ge⟩:=G;simp only at heq hmx;(repeat' ((conv=>whnf);first|(with_reducible first|refine hU hnl ?_|refine hJ hx ?_|refine hmx ?_|refine crNames t hd i hb x ?_)|refine zG ?_|apply zA|intro h|exact zT));all_goals conv=>whnf
  all_goals first
   |(rename_i hz
     rw[aD (show ¬(Ge≠0)from fun hh=>hh hz),aD (fun hh=>hh h)]at heq;refine⟨n+1,⟨hnl,heq⟩,by omega,?_⟩;rw[aO,aN];exact leA)
   |(rw[aG h,aG h]at heq
     rw[aD (fun hh=>hh e0),aD (fun hh=>hh e1)]at hK;rw[heq,aG h]at hK;exact hK)
   |(rename_i hz
     rw[aD (show ¬(Ge≠0)from fun hh=>hh hz),aG h]at heq;rw[aD (fun hh=>hh e0),aD (fun hh=>hh e1)]at hK;rw[heq,aG h]at hK;exact hK)
 rw[bU hnl]at heq;have e2:fstE (fun s:Sm=>if(stmP t i s).2≠0 then(stmP t i s).2 else namE t i s) i.sts=0:=heq;clear heq;(repeat' ((conv=>whnf);first|refine zG ?_|apply zA|intro h|exact zT));all_goals conv=>whnf
 refine gL Nat (fun n=>⟨2,[(0,boxT t),(1,boxNt i)],[(2,.op 0 0),(3,.op 1 0),(95,.lst (i.pubs.map encPb)),(96,.v (.int .i64 (i.pubs.map encPb).length)),(97,.v (.int .i64 n))]⟩) (fun n=>n<=i.pubs.length/\fstE (fun p:Pb=>if edgeIx t.edges p.edge<0 then 5 else 0) i.pubs=fstE (fun p:Pb=>if edgeIx t.edges p.edge<0 then 5 else 0) (i.pubs.drop n)) (fun n=>i.pubs.length-n) 0 ⟨aK _,by rw[bZ]⟩ ?_ ?_
 ·exact leA
 intro n ⟨hn1,heq⟩;rcases aF n i.pubs.length with hnl|hnl
 ·obtain⟨x,hx⟩:=gex hnl;have hdr:i.pubs.drop n=x::i.pubs.drop (n+1):=by
   rw[aE hnl]at hx;rw[<-bE hx,<-bB hnl]
  rw[hdr,fstE_cons]at heq;(repeat' ((conv=>whnf);first|(with_reducible first|refine hU hnl ?_|refine hJ hx ?_|refine ctEdge t _ ht ?_)|refine zG ?_|apply zA|intro h|exact zT));all_goals conv=>whnf
  all_goals first
   |(rw[aD h,aD zd]at heq
     refine⟨n+1,⟨hnl,heq⟩,by omega,?_⟩;rw[aO,aN];exact leA)
   |(rw[aG h,aG zd]at heq
     rw[aD (fun hh=>hh e0),aD (fun hh=>hh e1),aD (fun hh=>hh e2)]at hK;rw[heq,aG zd]at hK;exact hK)
 rw[bU hnl]at heq;have e3:fstE (fun p:Pb=>if edgeIx t.edges p.edge<0 then 5 else 0) i.pubs=0:=heq;clear heq;(repeat' ((conv=>whnf);first|refine zG ?_|apply zA|intro h|exact zT));all_goals conv=>whnf
 refine gL Nat (fun n=>⟨2,[(0,boxT t),(1,boxNt i)],[(2,.op 0 0),(3,.op 1 0),(108,.lst (i.hids.map encHn)),(109,.v (.int .i64 (i.hids.map encHn).length)),(110,.v (.int .i64 n))]⟩) (fun n=>n<=i.hids.length/\fstE (fun h:Hn=>if edgeIx t.edges h.edge<0 then 5 else(grpP t i h.grp).2) i.hids=fstE (fun h:Hn=>if edgeIx t.edges h.edge<0 then 5 else(grpP t i h.grp).2) (i.hids.drop n)) (fun n=>i.hids.length-n) 0 ⟨aK _,by rw[bZ]⟩ ?_ ?_
 ·exact leA
 intro n ⟨hn1,heq⟩;rcases aF n i.hids.length with hnl|hnl
 ·obtain⟨x,hx⟩:=gex hnl;have hdr:i.hids.drop n=x::i.hids.drop (n+1):=by
   rw[aE hnl]at hx;rw[<-bE hx,<-bB hnl]
  rw[hdr,fstE_cons]at heq;have hgx:=fun {K} h=>@hg x.grp K h;generalize grpP t i x.grp=G at*;obtain⟨Gs,Ge⟩:=G;simp only at heq hgx;(repeat' ((conv=>whnf);first|(with_reducible first|refine hU hnl ?_|refine hJ hx ?_|refine ctEdge t _ ht ?_|refine hgx ?_)|refine zG ?_|apply zA|intro h|exact zT));all_goals conv=>whnf
  all_goals first
   |(rename_i hz
     rw[aD hz,aD (fun hh=>hh h)]at heq;refine⟨n+1,⟨hnl,heq⟩,by omega,?_⟩;rw[aO,aN];exact leA)
   |(rw[aG h,aG zd]at heq
     rw[aD (fun hh=>hh e0),aD (fun hh=>hh e1),aD (fun hh=>hh e2),aD (fun hh=>hh e3)]at hK;rw[heq]at hK;exact hK)
   |(rename_i hz
     rw[aD hz,aG h]at heq;rw[aD (fun hh=>hh e0),aD (fun hh=>hh e1),aD (fun hh=>hh e2),aD (fun hh=>hh e3)]at hK;rw[heq]at hK;exact hK)
 rw[bU hnl]at heq;have e4:fstE (fun h:Hn=>if edgeIx t.edges h.edge<0 then 5 else(grpP t i h.grp).2) i.hids=0:=heq;clear heq;rw[aD (fun hh=>hh e0),aD (fun hh=>hh e1),aD (fun hh=>hh e2),aD (fun hh=>hh e3),e4]at hK;(repeat' ((conv=>whnf);first|refine zG ?_|apply zA|intro h|exact zT));all_goals conv=>whnf
 exact hK
end Go.Proofs.YtnomkooikbhgmaaGreatDoor
