/- Lemmas. -/
import Derived.Test.YtnomkooikbhgmaaGreatDoorProg
import Derived.Test.YtnomkooikbhgmaaGreatDoorM22
set_option linter.unusedVariables false
set_option linter.unusedSimpArgs false
set_option maxRecDepth 100000
set_option maxHeartbeats 4000000
noncomputable section
namespace Go.Proofs.YtnomkooikbhgmaaGreatDoor
open Go Go.Vm
theorem Weak.agg{xs ys:List AV}(h:WeakL xs ys):Weak (.agg xs) (.agg ys):=fun E w ι v hv=>by
 cases hv with
 |agg _ c hs hh=>
  have:=WeakL.rel h (show RL E w ι xs c from⟨hs,hh⟩);exact .agg _ c this.1 this.2
theorem WeakL.refl:∀{xs:List AV},WeakL xs xs
 |[]=>trivial
 |_::_=>⟨Weak.refl,WeakL.refl⟩
abbrev walkO(l:List Df)(a b nd ni:Nat):Vm.Obj:=.box [.lst (l.map encDf),.os a 1 0 nd,.os b 7 0 ni]
abbrev pthV(path:List Nat)(n:Nat):AV:=.lst ([]++path.map vN++[.v (.int .i64 (n:Int))])
structure Few (i:Nt):Prop where
 sml:Sml i
 g3:i.grps.length<=3
 s3:i.svcs.length<=3
 gi:∀d,d∈i.grps->d.items.length<=2
 si:∀d,d∈i.svcs->d.items.length<=2
def tp0:Tp:=⟨[],[],[],[],0⟩
theorem btwB_nil(b:List Rg):btwB [] b=[]:=rfl
theorem btwB_snoc(a:List Rg)(r:Rg)(b:List Rg):btwB (a++[r]) b=btwB a b++b.map fun s=>btwX r s:=by simp[btwB]
theorem btwB_len(b:List Rg):∀a:List Rg,(btwB a b).length=a.length*b.length
 |[]=>by simp[btwB]
 |r::a=>by
  have:=btwB_len b a;simp only[btwB,cX,aC,aA,aB,fH]at*;omega
theorem setB_len{s:List Bx}(h:setB s=true):s.length<1000000000:=by have:=(setB_pset h).len;omega
theorem makeP_len(l:List Bx):(makeP l).1.length<1000000000:=by have:=(makeP_pset l).len;omega
theorem chReal(t:Tp)(hl:t.edges.length<=5)(hc:compB t=true){K:KT}(hK:K (.tup [encXs (realP t).1,.v (.int .i64 (realP t).2)]) []):AC 37 [encT t] [] K:=by
 have hpl:(pairsTo t.edges t.edges.length).length<=20:=pairs_len5 hl;refine gP (ofh18Real rfl rfl ?_);unfold realP at hK;(repeat' ((conv=>whnf);first|(with_reducible refine cuCompB t zo ?_)|refine zG ?_|apply zA|intro h|exact zT));all_goals conv=>whnf
 all_goals first
  |(exfalso;simp_all;done)
  |skip
 refine gL Nat (fun a=>⟨2,[(1,.arr 10 ((pairsTo t.edges a).map encX)),(0,boxT t)],[(1,.op 0 0),(4,.os 1 10 0 (pairsTo t.edges a).length),(5,.v (.int .i64 a))]⟩) (fun a=>a<=t.edges.length) (fun a=>t.edges.length-a) 0 (aK _) ?_ ?_
 ·exact leA
 intro a ha;have hl1:=pairsTo_len t.edges a;have hl2:a*t.edges.length<=5*5:=dV zo zo;rcases aF a t.edges.length with hal|hal
 ·obtain⟨ea,hea⟩:=gex hal;(repeat' ((conv=>whnf);first|refine zG ?_|apply zA|intro h|exact zT));all_goals conv=>whnf
  refine gL Nat (fun b=>⟨2,[(1,.arr 10 ((pairsTo t.edges a++pairsAt t.edges a ea b).map encX)),(0,boxT t)],[(1,.op 0 0),(4,.os 1 10 0 (pairsTo t.edges a++pairsAt t.edges a ea b).length),(5,.v (.int .i64 a)),(6,.v (.int .i64 b))]⟩) (fun b=>b<=t.edges.length) (fun b=>t.edges.length-b) 0 (aK _) ?_ ?_
  ·rw[show pairsAt t.edges a ea 0=[]from rfl,bF];exact leA
  intro b hb;have hl3:=pairsAt_len t.edges a ea b;rcases aF b t.edges.length with hbl|hbl
  ·obtain⟨eb,heb⟩:=gex hbl;have hs:=pairsAt_succ (a:=a) (ea:=ea) heb;have hlen:(pairsTo t.edges a++pairsAt t.edges a ea b).length<=100:=by rw[aC];omega
   have hap:pairsTo t.edges a++pairsAt t.edges a ea (b+1)=(pairsTo t.edges a++pairsAt t.edges a ea b)++(if a=b then []else [whoB ea.pf eb.pf]):=by rw[hs,cN]
   generalize hA:pairsTo t.edges a++pairsAt t.edges a ea b=A at*;generalize hB:pairsTo t.edges a++pairsAt t.edges a ea (b+1)=B at*;(repeat' ((conv=>whnf);first|(with_reducible refine cvWho t a b ea eb hea heb ?_)|refine zG ?_|apply zA|intro h|exact zT));all_goals conv=>whnf
   all_goals
    refine⟨b+1,hbl,by omega,?_⟩;first
     |(rw[aD zo]at hap
       rw[hB,hap,aQ,aC,aO b,aN];exact leA)
     |(rw[aG zo,bF]at hap
       rw[hB,hap,aO b,aN];exact leA)
  ·(repeat' ((conv=>whnf);first|refine zG ?_|apply zA|intro h|exact zT));all_goals conv=>whnf
   have hbe:b=t.edges.length:=by omega
   rw[hbe,<-pairsTo_succ hea];refine⟨a+1,hal,by omega,?_⟩;rw[aO a,aN];exact leA
 ·have hae:a=t.edges.length:=by omega
  rw[hae];have hfull:((pairsTo t.edges t.edges.length).map encX).length=(pairsTo t.edges t.edges.length).length:=aA ..;have hmk:∀{K:KT},K (.tup [encXs (makeP (pairsB t.edges)).1,.v (.int .i64 (makeP (pairsB t.edges)).2)]) []->AC 98 [encXs (pairsTo t.edges t.edges.length)] [] K:=fun h=>cr4Make (pairsB t.edges) (by rw[pairsB];omega) h;(repeat' ((conv=>whnf);first|(with_reducible first|refine sl_full hfull ?_|refine hmk ?_|refine cr4Init ?_|refine cr4Int _ _ (makeP_len _) zd ?_)|refine zG ?_|apply zA|intro h|exact zT));all_goals conv=>whnf
  all_goals first
   |(rw[aD (by simp_all)]at hK
     exact⟨_,gM,hK⟩)
   |(rw[aG (by simp_all)]at hK
     exact⟨_,gQ gR gM,hK⟩)
theorem chPut(l:List Insp)(c:ByteArray)(s:List Bx)(hl:l.length<3000000)(hs:setB s=true)(hsl:∀x,x∈l->setB x.set=true){K:KT}(hK:∀(l':List Insp) (e:Int),PutR l c s l' e->K (.tup [.lst (l'.map encIn),.v (.int .i64 e)]) []):
  AC 42 [.lst (l.map encIn),.v (.string c),encXs s] [] K:=by
 refine gP (ofh18Put rfl rfl ?_);(repeat' ((conv=>whnf);first|refine zG ?_|apply zA|intro h|exact zT));all_goals conv=>whnf
 ·exact⟨_,gM,hK l 0 (.skip (.inl (by simpa using h)))⟩
 ·exact⟨_,gM,hK l 0 (.skip (.inr (bY.1 (by simp only[aA]at h;omega))))⟩
 rename_i hc0;have hc1:c.toList≠[]:=fun e=>by simp[e]at hc0
 have hn1:s≠[]:=fun e=>h (by rw[e];rfl);clear hc0 h;refine gL Nat (fun k=>⟨0,[],[(0,.lst (l.map encIn)),(1,.v (.string c)),(2,encXs s),(8,.v (.int .i64 k))]⟩) (fun k=>k<=l.length/\∀(j:Nat) y,j<k->l[j]? =some y->ltS y.cls c=true) (fun k=>l.length-k) 0 ⟨aK _,fun j y h=>absurd h (bC _)⟩ ?_ ?_
 ·exact leA
 intro k ⟨hk,hin⟩;have hI:(∀y,l[k]? =some y->ltS y.cls c=false/\(y.cls.toList==c.toList)=false)->K (.tup [.lst ([]++(List.take (k-0) (List.drop 0 l)).map encIn++[.agg [.v (.string c),encXs s]]++(List.take (l.length-k) (List.drop k l)).map encIn),.v (.int .i64 0)]) []:=fun h=>by
  have:=hK _ 0 (PutR.ins k hc1 hn1 hk hin h);have e:List.take (l.length-k) (List.drop k l)=List.drop k l:=aY (by rw[cH];exact aM _);rw[e,bZ,eL,cZ];simpa using this
 rcases aF k l.length with hkl|hkl
 ·obtain⟨y,hy⟩:=gex hkl;have hget:([]++l.map encIn)[0+k]? =some (encIn y):=by rw[cZ,bK,bP,hy];rfl
  (repeat' ((conv=>whnf);first|(with_reducible first|refine hU hkl ?_|refine hJ hy ?_|refine gY 0 k rfl rfl (aK _) (by rw[aA];omega) ?_|refine gY k l.length rfl (by rw[aA]) zo (by rw[aA];exact aM _) ?_|refine sl_map zo ?_|refine cr4Un y.set s (setB_len (hsl y (aI hy))) (setB_len hs) ?_|refine gT k rfl (by rw[bK,aA];exact hkl) ?_|refine gU hget ?_)|refine zG ?_|apply zA|intro h|exact zT));all_goals conv=>whnf
  ·refine⟨k+1,⟨hkl,iC hy h hin⟩,by omega,?_⟩;rw[aO,aN];exact leA
  all_goals first
   |exact⟨_,gM,hI fun z hz=>by rw[hy]at hz;cases hz;simp_all[ltS]⟩
   |(refine⟨_,gM,?_⟩
     have:=hK _ _ (PutR.uni k y hc1 hn1 hy h);rw[bK,cZ];rw[eU]at this;exact this)
 ·have hnone:l[k]? =none:=bO hkl;(repeat' ((conv=>whnf);first|(with_reducible first|refine hU hkl ?_|refine gY 0 k rfl rfl (aK _) (by rw[aA];omega) ?_|refine gY k l.length rfl (by rw[aA]) zo (by rw[aA];exact aM _) ?_|refine sl_map zo ?_)|refine zG ?_|apply zA|intro h|exact zT));all_goals conv=>whnf
  all_goals first
   |exact⟨_,gM,hI fun z hz=>by rw[hnone]at hz;cases hz⟩
theorem chPut0(c:ByteArray)(s:List Bx)(hs:setB s=true){K:KT}(hK:∀(l':List Insp) (e:Int),PutR [] c s l' e->K (.tup [.lst (l'.map encIn),.v (.int .i64 e)]) []):
  AC 42 [.lst [],.v (.string c),encXs s] [] K:=chPut [] c s zx hs (fun x h=>by simp at h) hK
theorem cr4Un0(b:List Bx)(hb:b.length<1000000000){K:KT}(hK:K (.tup [encXs (combP orB [] b).1,.v (.int .i64 (combP orB [] b).2)]) []):AC 41 [.lst [],encXs b] [] K:=cr4Un [] b zx hb hK
abbrev celPol(fl:Bool)(p:Pol):List AV:=match fl with
 |true=>[.nils,.nils]
 |false=>[encXs p.allow,.lst (p.insp.map encIn)]
abbrev celSm(x:Sm):List AV:=[.sb x.permit,.v (.string x.frm),.v (.string x.to),.v (.string x.svc),.sb x.exc,.v (.string x.exF),.v (.string x.exT),.v (.string x.cls),.v (.string x.dur),.v (.int .i64 x.pri)]
theorem putR_len{l l':List Insp}{c:ByteArray}{s:List Bx}{e:Int}(h:PutR l c s l' e):l'.length<=l.length+1:=by
 cases h with
 |skip=>omega
 |ins k _ _ hk=>rw[aC,aB,bA,cH];omega
 |uni=>rw[cT];omega
def gnPref:Ctx:={N:=34,np:=1,own:=oz [11,47]}
abbrev ofnPref:=ofD gnPref Tryz.func68
end Go.Proofs.YtnomkooikbhgmaaGreatDoor
