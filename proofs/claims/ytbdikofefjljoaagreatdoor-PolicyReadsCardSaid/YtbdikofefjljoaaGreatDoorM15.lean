/- Sets of headers that tell apart only what the items of an intent tell apart. -/
import Derived.Test.YtbdikofefjljoaaGreatDoorProg
import Derived.Sort.AssemblyPlain
import Derived.Test.YtbdikofefjljoaaGreatDoorM14
set_option linter.unusedVariables false
set_option linter.unusedSimpArgs false
set_option maxRecDepth 100000
set_option maxHeartbeats 4000000
namespace Go.Proofs.YtbdikofefjljoaaGreatDoor
open Go Go.Vm
def wu(p:Int):Int:=IntKind.u32.wrap p
theorem wu_b(p:Int):0<=wu p/\wu p<=4294967295:=by
 unfold wu;simp only[IntKind.wrap,IntKind.signed,IntKind.bits];simp;omega
def hdrX(y:It):Bx:=⟨fullB.r0,fullB.r1,⟨wu y.proto,wu y.proto,(wu_b _).1,(wu_b _).2,(wu_b _).1,(wu_b _).2⟩,fullB.r3,y.ports⟩
def rgsI(t:Tp)(i:Nt):List Rg:=(t.edges.map fun e=>e.pf.rg)++i.grps.flatMap fun d=>d.items.map fun y=>y.pf.rg
def boxesI(i:Nt):List Bx:=initS++i.svcs.flatMap fun d=>d.items.map hdrX
def AEq(t:Tp)(i:Nt)(v v':Int):Prop:=∀r,r∈rgsI t i->inR r v=inR r v'
structure PEq (t:Tp) (i:Nt) (q q':Nat->Int):Prop where
 s:AEq t i (q 0) (q' 0)
 d:AEq t i (q 1) (q' 1)
 v:∀b,b∈boxesI i->inK q 5 b=inK q' 5 b
def RespR(t:Tp)(i:Nt)(rs:List Rg):Prop:=∀v v',AEq t i v v'->has rs v=has rs v'
def Resp(t:Tp)(i:Nt)(s:List Bx):Prop:=∀q q',InP q->InP q'->PEq t i q q'->memK q 5 s=memK q' 5 s
section
variable {t:Tp} {i:Nt}
theorem RespR.nil:RespR t i []:=fun _ _ _=>rfl
theorem RespR.of{rs:List Rg}(h:∀r,r∈rs->r∈rgsI t i):RespR t i rs:=fun v v' e=>by
 rw[bG,has_iff,has_iff]
 constructor
 ·rintro⟨r,hr,h1,h2⟩
  have:=e r (h r hr)
  simp only[inR]at this
  rw[decide_eq_true h1,decide_eq_true h2]at this
  have h3:=this.symm
  simp only[Bool.and_self,aI,aK]at h3
  exact⟨r,hr,h3⟩
 ·rintro⟨r,hr,h1,h2⟩
  have:=e r (h r hr)
  simp only[inR]at this
  rw[decide_eq_true h1,decide_eq_true h2]at this
  simp only[Bool.and_self,aI,aK]at this
  exact⟨r,hr,this⟩
theorem RespR.has{rs out:List Rg}(h:RespR t i rs)(ho:∀v,has out v=has rs v):RespR t i out:=fun v v' e=>by rw[ho,ho,h v v' e]
theorem Resp.nil:Resp t i []:=fun _ _ _ _ _=>rfl
theorem Resp.any{l:List Bx}(h:∀b,b∈l->∀q q',InP q->InP q'->PEq t i q q'->inK q 5 b=inK q' 5 b):Resp t i l:=fun q q' hq hq' e=>by
 rw[bG,memK_iff,memK_iff]
 constructor
 ·rintro⟨b,hb,h1⟩;exact⟨b,hb,by rw[<-h b hb q q' hq hq' e];exact h1⟩
 ·rintro⟨b,hb,h1⟩;exact⟨b,hb,by rw[h b hb q q' hq hq' e];exact h1⟩
theorem makeGo_eq{p:Nat->Int}(hp:InP p):∀(l s:List Bx),(makeGo s l).2=0->memK p 5 (makeGo s l).1=(memK p 5 s||memK p 5 (vldB l))
 |[],s,_=>by rw[makeGo];simp[vldB,memK_nil]
 |b::l,s,h=>by
  rw[makeGo]at h⊢
  rw[vldB_cons]
  split at h
  ·rename_i ho
   rw[aG ho,aG ho]
   split at h
   ·cases h
   ·rename_i hl
    rw[aE hl,makeGo_eq hp l _ h,addO,cano_mem orB hp 5 _ _ (aM _)]
    have e:memK p 5 [b]=inK p 5 b:=by simp[memK]
    have e2:memK p 5 (b::vldB l)=(inK p 5 b||memK p 5 (vldB l)):=rfl
    rw[e,e2,orB,Bool.or_assoc]
  ·rename_i ho
   rw[aE ho,aE ho]
   exact makeGo_eq hp l s h
theorem makeGo_err:∀(l s:List Bx),(makeGo s l).2≠0->(makeGo s l).1=[]
 |[],s,h=>absurd rfl h
 |b::l,s,h=>by
  rw[makeGo]at h⊢
  split at h
  ·rename_i ho
   rw[aG ho]
   split at h
   ·rename_i hl;rw[aG hl]
   ·rename_i hl;rw[aE hl];exact makeGo_err l _ h
  ·rename_i ho
   rw[aE ho];exact makeGo_err l s h
theorem Resp.make{l:List Bx}(h:Resp t i (vldB l)):Resp t i (makeP l).1:=fun q q' hq hq' e=>by
 by_cases he:(makeP l).2=0
 ·rw[makeP,makeGo_eq hq l [] he,makeGo_eq hq' l [] he,memK_nil,memK_nil,h q q' hq hq' e]
 ·rw[makeP,makeGo_err l [] he,memK_nil,memK_nil]
theorem Resp.giv{l:List Bx}(h:Resp t i (vldB l)):Resp t i (givP l).1:=by
 unfold givP
 split
 ·rename_i hs
  rw[vld_all (okL_set hs)]at h;exact h
 ·exact h.make
theorem Resp.giv_set{l:List Bx}(hs:setB l=true)(h:Resp t i l):Resp t i (givP l).1:=by
 rw[givP,aG hs];exact h
theorem Resp.combG{op:Bool->Bool->Bool}{a b:List Bx}(ha:Resp t i (givP a).1)(hb:Resp t i (givP b).1):Resp t i (combP op a b).1:=by
 unfold combP
 split
 ·exact Resp.nil
 ·split
  ·exact Resp.nil
  ·simp only[limP]
   split
   ·exact Resp.nil
   ·intro q q' hq hq' e
    rw[cano_mem op hq 5 _ _ (aM _),cano_mem op hq' 5 _ _ (aM _),ha q q' hq hq' e,hb q q' hq hq' e]
theorem Resp.comb{op:Bool->Bool->Bool}{a b:List Bx}(ha:Resp t i a)(hb:Resp t i b)(sa:setB a=true)(sb:setB b=true):Resp t i (combP op a b).1:=Resp.combG (ha.giv_set sa) (hb.giv_set sb)
theorem Resp.vld{l:List Bx}(h:∀b,b∈l->∀q q',InP q->InP q'->PEq t i q q'->inK q 5 b=inK q' 5 b):Resp t i (vldB l):=Resp.any fun b hb=>h b (cE.1 hb).1
theorem Resp.init:Resp t i initS:=Resp.any fun b hb q q' _ _ e=>e.v b (dO _ hb)
theorem Resp.hdr{y:It}(h:∃d,d∈i.svcs/\y∈d.items):Resp t i (combP anB initS [hdrX y]).1:=by
 obtain⟨d,hd,hy⟩:=h
 refine Resp.combG (Resp.init.giv_set init_set) (Resp.giv (Resp.vld fun b hb q q' _ _ e=>?_))
 rw[aR.1 hb]
 exact e.v _ (List.mem_append_right _ (dT.2 ⟨d,hd,bU.2 ⟨y,hy,rfl⟩⟩))
def btwX(r s:Rg):Bx:=⟨r,s,fullB.r2,fullB.r3,fullB.r4⟩
theorem inK_btw{r s:Rg}{q:Nat->Int}(hq:InP q):inK q 5 (btwX r s)=(inR r (q 0)&&inR s (q 1)):=by
 have h2:=hq 2;have h3:=hq 3;have h4:=hq 4
 have e2:fullB.r2.lo=0/\fullB.r2.hi=255:=by decide
 have e3:fullB.r3.lo=0/\fullB.r3.hi=65535:=by decide
 have e4:fullB.r4.lo=0/\fullB.r4.hi=65535:=by decide
 have t2:topF 2=255:=rfl
 have t3:topF 3=65535:=rfl
 have t4:topF 4=65535:=rfl
 simp only[inK,inR,Bx.get,btwX,dS,Nat.reduceSub,Bool.and_true]
 rw[show decide (fullB.r2.lo<=q 2)=true from decide_eq_true zo,show decide (q 2<=fullB.r2.hi)=true from decide_eq_true zo,show decide (fullB.r3.lo<=q 3)=true from decide_eq_true zo,show decide (q 3<=fullB.r3.hi)=true from decide_eq_true zo,show decide (fullB.r4.lo<=q 4)=true from decide_eq_true zo,show decide (q 4<=fullB.r4.hi)=true from decide_eq_true zo]
 simp
def btwB(a b:List Rg):List Bx:=a.flatMap fun r=>b.map fun s=>btwX r s
theorem vld_btw{a b:List Rg}{q:Nat->Int}(hq:InP q):memK q 5 (vldB (btwB a b))=(has a (q 0)&&has b (q 1)):=by
 rw[bG,memK_iff,aI,has_iff,has_iff]
 have hx:∀r s,inK q 5 (btwX r s)=true↔(r.lo<=q 0/\q 0<=r.hi)/\(s.lo<=q 1/\q 1<=s.hi):=fun r s=>by
  rw[inK_btw hq];simp[inR]
 constructor
 ·rintro⟨x,hx1,hx2⟩
  obtain⟨r,hr,hx3⟩:=dT.1 (cE.1 hx1).1
  obtain⟨s,hs,rfl⟩:=bU.1 hx3
  have:=(hx r s).1 hx2
  exact⟨⟨r,hr,this.1⟩,⟨s,hs,this.2⟩⟩
 ·rintro⟨⟨r,hr,h1⟩,⟨s,hs,h2⟩⟩
  have h3:=(hx r s).2 ⟨h1,h2⟩
  refine⟨btwX r s,cE.2 ⟨dT.2 ⟨r,hr,bU.2 ⟨s,hs,rfl⟩⟩,?_⟩,h3⟩
  have hr1:=r.h1;have hs1:=s.h1
  refine decide_eq_true ⟨⟨by show r.lo<=r.hi;omega,hr1⟩,⟨by show s.lo<=s.hi;omega,hs1⟩,(show fullB.r2.lo<=fullB.r2.hi/\fullB.r2.hi<=255 by decide),(show fullB.r3.lo<=fullB.r3.hi/\fullB.r3.hi<=65535 by decide),(show fullB.r4.lo<=fullB.r4.hi/\fullB.r4.hi<=65535 by decide)⟩
theorem Resp.btw{a b:List Rg}(ha:RespR t i a)(hb:RespR t i b):Resp t i (makeP (btwB a b)).1:=Resp.make fun q q' hq hq' e=>by
 rw[vld_btw hq,vld_btw hq',ha _ _ e.s,hb _ _ e.d]
theorem Resp.real:Resp t i (realP t).1:=by
 unfold realP
 split
 ·exact Resp.nil
 ·refine Resp.combG (Resp.giv_set (setB_makeP _) (Resp.make (Resp.vld fun b hb q q' hq hq' e=>?_))) (Resp.init.giv_set init_set)
  obtain⟨k,j,x,y,_,hx,hy,rfl⟩:=mem_pairsB hb
  have e1:=e.s x.pf.rg (dO _ (bU.2 ⟨x,aF hx,rfl⟩))
  have e2:=e.d y.pf.rg (dO _ (bU.2 ⟨y,aF hy,rfl⟩))
  have hw:whoB x.pf y.pf=btwX x.pf.rg y.pf.rg:=rfl
  rw[hw,inK_btw hq,inK_btw hq',e1,e2]
end
noncomputable def gh17Has:Ctx:={N:=18}
noncomputable def bh17Has:Code:=bdy Tryz.f291
abbrev ofh17Has:=@ofC Tryz.prog gh17Has 291 Tryz.f291 bh17Has Tryz.func291 zk zk zk zk
noncomputable def gh17Fol:Ctx:={N:=103,np:=3,own:=at1 242 (true) (fun _=>false),plan:=at1 13 (some (ln [1,3,5,7,9,11,12,14,17,19,20])) (at1 14 (some (ln [1,3,5,7,9,11,12,15])) (fun _=>none)),hints:=at1 1 ([.renewB 0 1,.renewB 0 2]) (at1 6 ([.freeze 3]) (fun _=>[])),cut:=at1 13 (true) (fun _=>false),out:=true,lend:=at1 291 (true) (fun _=>false)}
noncomputable def bh17Fol:Code:=bdy Tryz.f242
abbrev ofh17Fol:=@ofC Tryz.prog gh17Fol 242 Tryz.f242 bh17Fol Tryz.func242 zk zk zk zk
noncomputable def gh17Find:Ctx:={N:=28,own:=at1 242 (true) (fun _=>false),hints:=at1 5 ([.virtB 9 1 1,.virtB 9 2 7]) (fun _=>[])}
noncomputable def bh17Find:Code:=bdy Tryz.f158
abbrev ofh17Find:=@ofC Tryz.prog gh17Find 158 Tryz.f158 bh17Find Tryz.func158 zk zk zk zk
noncomputable def gh17Edg:Ctx:={N:=33,plan:=at1 5 (some (.one 0 true (.one 1 true (.one 2 true (.one 3 true (.one 4 true (.one 5 true (.one 6 true (.one 7 true (.one 8 true (.alt 9 (ln [21,23,25,26,28,31]) (.alt 13 (ln [18,21,23,25,28,31]) (.stop))))))))))))) (fun _=>none),hints:=at1 2 ([.virt 5 2]) (fun _=>[])}
noncomputable def bh17Edg:Code:=bdy Tryz.f156
abbrev ofh17Edg:=@ofC Tryz.prog gh17Edg 156 Tryz.f156 bh17Edg Tryz.func156 zk zk zk zk
noncomputable def gh17All:Ctx:={N:=17,hints:=at1 2 ([.virt 3 1]) (fun _=>[])}
noncomputable def bh17All:Code:=bdy Tryz.f157
abbrev ofh17All:=@ofC Tryz.prog gh17All 157 Tryz.f157 bh17All Tryz.func157 zk zk zk zk
noncomputable def gh17Grp:Ctx:={N:=78,plan:=at1 4 (some (ln [1,3,4,6,8,11,13])) (at1 13 (some (ln [1,3,5,7,9,11,13,15,16,18,20,23])) (fun _=>none)),hints:=at1 9 ([.virt 10 2]) (fun _=>[])}
noncomputable def bh17Grp:Code:=bdy Tryz.f78
abbrev ofh17Grp:=@ofC Tryz.prog gh17Grp 78 Tryz.f78 bh17Grp Tryz.func78 zk zk zk zk
noncomputable def gh17Hdr:Ctx:={N:=26,plan:=at1 4 (some (.one 1 true (.alt 0 (ln [4,6,9,11,13,15,17]) (.alt 2 (ln [0,6,9,11,13,15,17]) (.stop))))) (fun _=>none)}
noncomputable def bh17Hdr:Code:=bdy Tryz.f160
abbrev ofh17Hdr:=@ofC Tryz.prog gh17Hdr 160 Tryz.f160 bh17Hdr Tryz.func160 zk zk zk zk
noncomputable def gh17Svc:Ctx:={N:=47,hints:=at1 9 ([.asL 8]) (fun _=>[])}
noncomputable def bh17Svc:Code:=bdy Tryz.f79
abbrev ofh17Svc:=@ofC Tryz.prog gh17Svc 79 Tryz.f79 bh17Svc Tryz.func79 zk zk zk zk
noncomputable def gh17Btw:Ctx:={N:=41,plan:=at1 9 (some (.one 0 true (.one 1 true (.one 2 true (.one 3 true (.one 4 true (.one 5 true (.one 6 true (.one 8 true (.alt 7 (ln [18,21,22]) (.alt 9 (ln [15,21,22]) (.stop)))))))))))) (fun _=>none),hints:=at1 2 ([.virt 6 10]) (fun _=>[])}
noncomputable def bh17Btw:Code:=bdy Tryz.f129
abbrev ofh17Btw:=@ofC Tryz.prog gh17Btw 129 Tryz.f129 bh17Btw Tryz.func129 zk zk zk zk
noncomputable def gh17Stm:Ctx:={N:=132}
noncomputable def bh17Stm:Code:=bdy Tryz.f56
abbrev ofh17Stm:=@ofC Tryz.prog gh17Stm 56 Tryz.f56 bh17Stm Tryz.func56 zk zk zk zk
noncomputable def gh17Cls:Ctx:={N:=21}
noncomputable def bh17Cls:Code:=bdy Tryz.f80
abbrev ofh17Cls:=@ofC Tryz.prog gh17Cls 80 Tryz.f80 bh17Cls Tryz.func80 zk zk zk zk
noncomputable def gh17Chk:Ctx:={N:=162,plan:=at1 6 (some (ln [1,3,5,7,9,11,13,15,16,19,21,23,25,27])) (at1 12 (some (ln [1,3,5,7,9,11,13,14,17,19,21,23,25])) (at1 27 (some (ln [1,3,5,7,9,11,13,14,17])) (at1 32 (some (ln [1,3,5,7,9,11,13,14,17])) (at1 34 (some (ln [1,3,5,7,9,11,13,15,16,19,21,23,25,27])) (fun _=>none)))))}
noncomputable def bh17Chk:Code:=bdy Tryz.f25
abbrev ofh17Chk:=@ofC Tryz.prog gh17Chk 25 Tryz.f25 bh17Chk Tryz.func25 zk zk zk zk
noncomputable def gh11Zone:Ctx:={N:=27,hints:=at1 2 ([.virt 5 1]) (fun _=>[])}
noncomputable def bh11Zone:Code:=bdy Tryz.f159
abbrev ofh11Zone:=@ofC Tryz.prog gh11Zone 159 Tryz.f159 bh11Zone Tryz.func159 zk zk zk zk
theorem cjOpt(s:ByteArray){K:KT}(hK:∀b,(b=true->s.toList=[]\/nameOk s)->K (.sb b) []):ACall Tryz.prog 217 [.v (.string s)] [] K:=by
 refine ACall.bool (ofj16Opt rfl rfl ?_)
 (repeat' ((conv=>whnf);first|(with_reducible refine crName _ ?_)|refine zG ?_|apply zA|(apply zI;intro h)|exact zT));(all_goals conv=>whnf)
 all_goals first
  |exact .inl ⟨true,rfl,hK true fun _=>.inl (by simpa using h)⟩
  |exact .inr ⟨_,rfl,hK _ fun h1=>.inr (nameB_iff.1 h1)⟩
theorem cjPort(n:Int){K:KT}(hK:∀b,K (.sb b) []):ACall Tryz.prog 124 [.v (.int .i64 n)] [] K:=by
 refine ACall.bool (ofj16Port rfl rfl ?_)
 (repeat' ((conv=>whnf);first|refine zG ?_|apply zA|(apply zI;intro h)|exact zT));(all_goals conv=>whnf)
 all_goals first
  |exact .inl ⟨_,rfl,hK _⟩
  |exact .inr ⟨_,rfl,hK _⟩
theorem cjPorts(lo hi n:Int){K:KT}(hK:∀b,K (.sb b) []):ACall Tryz.prog 125 [.agg [.v (.int .u32 lo),.v (.int .u32 hi)],.v (.int .u32 n)] [] K:=by
 refine ACall.bool (ofj16Ports rfl rfl ?_)
 (repeat' ((conv=>whnf);first|refine zG ?_|apply zA|(apply zI;intro h)|exact zT));(all_goals conv=>whnf)
 all_goals first
  |exact .inl ⟨_,rfl,hK _⟩
  |exact .inr ⟨_,rfl,hK _⟩
theorem cjFind(l:List Df)(s:ByteArray)(hl:l.length<=1000){K:KT}(hK:∀r:Int,-1<=r->r<l.length->K (.v (.int .i64 r)) []):ACall Tryz.prog 213 [.lst (l.map encDf),.v (.string s)] [] K:=by
 refine ofj16Find rfl rfl ?_
 (repeat' ((conv=>whnf);first|refine zG ?_|apply zA|(apply zI;intro h)|exact zT));(all_goals conv=>whnf)
 refine Lp.intro Nat (fun i=>⟨0,[],[(0,.lst (l.map encDf)),(1,.v (.string s)),(5,.v (.int .i64 i))]⟩) (fun i=>i<=l.length) (fun i=>l.length-i) 0 (aH _) ?_ ?_
 ·(exact leA)
 intro i hi
 rcases aB i l.length with hil|hil
 ·obtain⟨x,hx⟩:=gex hil
  (repeat' ((conv=>whnf);first|(with_reducible first|refine in_map hil ?_|refine ix_map hx ?_)|refine zG ?_|apply zA|(apply zI;intro h)|exact zT));(all_goals conv=>whnf)
  all_goals first
   |exact hK _ zo zo
   |(refine⟨i+1,hil,by omega,?_⟩
     rw[aN,aL]
     (exact leA)
     done)
 ·(repeat' ((conv=>whnf);first|refine zG ?_|apply zA|(apply zI;intro h)|exact zT));(all_goals conv=>whnf)
  exact hK _ zo zo
theorem cjFindW(l:List Wn)(s:ByteArray)(hl:l.length<=1000){K:KT}(hK:∀r:Int,-1<=r->r<l.length->K (.v (.int .i64 r)) []):ACall Tryz.prog 81 [.lst (l.map encWn),.v (.string s)] [] K:=by
 refine ofj16FindW rfl rfl ?_
 (repeat' ((conv=>whnf);first|refine zG ?_|apply zA|(apply zI;intro h)|exact zT));(all_goals conv=>whnf)
 refine Lp.intro Nat (fun i=>⟨0,[],[(0,.lst (l.map encWn)),(1,.v (.string s)),(5,.v (.int .i64 i))]⟩) (fun i=>i<=l.length) (fun i=>l.length-i) 0 (aH _) ?_ ?_
 ·(exact leA)
 intro i hi
 rcases aB i l.length with hil|hil
 ·obtain⟨x,hx⟩:=gex hil
  (repeat' ((conv=>whnf);first|(with_reducible first|refine in_map hil ?_|refine ix_map hx ?_)|refine zG ?_|apply zA|(apply zI;intro h)|exact zT));(all_goals conv=>whnf)
  all_goals first
   |exact hK _ zo zo
   |(refine⟨i+1,hil,by omega,?_⟩
     rw[aN,aL]
     (exact leA)
     done)
 ·(repeat' ((conv=>whnf);first|refine zG ?_|apply zA|(apply zI;intro h)|exact zT));(all_goals conv=>whnf)
  exact hK _ zo zo
theorem eqv_It{k k' pa pb qa qb pr pr' lo hi lo' hi':Int}{n n':ByteArray}{K:Bool->Prop}(hk:∀b,K b):EqV Tryz.prog 113 [.v (.int .i64 k),.v (.string n),.v (.int .u32 pa),.v (.int .i64 pb),.v (.int .i64 pr),.v (.int .u32 lo),.v (.int .u32 hi)]
  [.v (.int .i64 k'),.v (.string n'),.v (.int .u32 qa),.v (.int .i64 qb),.v (.int .i64 pr'),.v (.int .u32 lo'),.v (.int .u32 hi')] K:=by
 refine eqv_of (b:=(k==k'&&(n.toList==n'.toList&&((pa==qa&&(pb==qb&&true))&&(pr==pr'&&((lo==lo'&&(hi==hi'&&true))&&true)))))) rfl rfl zk zk (hk _)
theorem eqv_Rg{lo hi lo' hi':Int}{K:Bool->Prop}(hk:∀b,K b):EqV Tryz.prog 111 [.v (.int .u32 lo),.v (.int .u32 hi)] [.v (.int .u32 lo'),.v (.int .u32 hi')] K:=by
 refine eqv_of (b:=(lo==lo'&&(hi==hi'&&true))) rfl rfl zk zk (hk _)
theorem cjItem(x:It)(g:Bool){K:KT}(hK:∀b,K (.sb b) []):ACall Tryz.prog 214 [encIt x,.sb g] [] K:=by
 refine ACall.bool (ofj16Item rfl rfl ?_)
 (repeat' ((conv=>whnf);first|(with_reducible first|refine crName _ ?_|refine crVal x.pf ?_|refine cjPorts _ _ _ fun b=>?_)|(refine eqv_It fun b=>?_)|(refine eqv_Rg fun b=>?_)|refine zG ?_|apply zA|(apply zI;intro h)|exact zT));(all_goals conv=>whnf)
 all_goals first
  |exact .inl ⟨_,rfl,hK _⟩
  |exact .inr ⟨_,rfl,hK _⟩
theorem cjDefs(l:List Df)(g:Bool)(hl:l.length<=1000)(hi:∀x,x∈l->x.items.length<=1000){K:KT}(hK:∀b,K (.sb b) []):ACall Tryz.prog 120 [.lst (l.map encDf),.sb g] [] K:=by
 refine ACall.bool (ofj16Defs rfl rfl ?_)
 (repeat' ((conv=>whnf);first|refine zG ?_|apply zA|(apply zI;intro h)|exact zT));(all_goals conv=>whnf)
 all_goals first
  |exact .inl ⟨_,rfl,hK _⟩
  |exact .inr ⟨_,rfl,hK _⟩
  |skip
 refine Lp.intro Nat (fun i=>⟨0,[],[(0,.lst (l.map encDf)),(1,.sb g),(5,.v (.int .i64 i))]⟩) (fun i=>i<=l.length) (fun i=>l.length-i) 0 (aH _) ?_ ?_
 ·(exact leA)
 intro i hil0
 rcases aB i l.length with hil|hil
 ·obtain⟨x,hx⟩:=gex hil
  have hxi:=hi x (aF hx)
  (repeat' ((conv=>whnf);first|(with_reducible first|refine in_map hil ?_|refine ix_map hx ?_|refine crName _ ?_|refine cjFind l _ hl fun r r0 r1=>?_)|refine zG ?_|apply zA|(apply zI;intro h)|exact zT));(all_goals conv=>whnf)
  all_goals first
   |exact .inl ⟨_,rfl,hK _⟩
   |exact .inr ⟨_,rfl,hK _⟩
   |skip
  refine Lp.intro Nat (fun k=>⟨0,[],[(0,.lst (l.map encDf)),(1,.sb g),(5,.v (.int .i64 i)),(6,.v (.int .i64 k))]⟩) (fun k=>k<=x.items.length) (fun k=>x.items.length-k) 0 (aH _) ?_ ?_
  ·(exact leA)
  intro k hk0
  rcases aB k x.items.length with hkl|hkl
  ·obtain⟨y,hy⟩:=gex hkl
   (repeat' ((conv=>whnf);first|(with_reducible first|refine in_map hil ?_|refine ix_map hx ?_|refine in_map hkl ?_|refine ix_map hy ?_|refine cjItem y _ fun b=>?_)|refine zG ?_|apply zA|(apply zI;intro h)|exact zT));(all_goals conv=>whnf)
   all_goals first
    |exact .inl ⟨_,rfl,hK _⟩
    |exact .inr ⟨_,rfl,hK _⟩
    |(refine⟨k+1,hkl,by omega,?_⟩
      rw[aN,aL]
      (exact leA)
      done)
  ·(repeat' ((conv=>whnf);first|(with_reducible first|refine in_map hil ?_|refine ix_map hx ?_)|refine zG ?_|apply zA|(apply zI;intro h)|exact zT));(all_goals conv=>whnf)
   refine⟨i+1,hil,by omega,?_⟩
   rw[aN,aL]
   (exact leA)
 ·(repeat' ((conv=>whnf);first|refine zG ?_|apply zA|(apply zI;intro h)|exact zT));(all_goals conv=>whnf)
  all_goals first
   |exact .inl ⟨_,rfl,hK _⟩
   |exact .inr ⟨_,rfl,hK _⟩
theorem cjWri(l:List Rg)(hl:l.length<=4000){K:KT}(hK:∀b,K (.sb b) []):ACall Tryz.prog 122 [encRs l] [] K:=by
 refine ACall.bool (ofj16Wri rfl rfl ?_)
 (repeat' ((conv=>whnf);first|(with_reducible first|refine cqWin l zo fun s hs=>?_|refine cqForm l hl fun ss=>?_)|refine zG ?_|apply zA|(apply zI;intro h)|exact zT));(all_goals conv=>whnf)
 all_goals first
  |exact .inl ⟨_,rfl,hK _⟩
  |exact .inr ⟨_,rfl,hK _⟩
theorem cjSm(x:Sm){K:KT}(hK:∀b,(b=true->x.cls.toList=[]\/nameOk x.cls)->K (.sb b) []):ACall Tryz.prog 123 [encSm x] [] K:=by
 have hf:∀b,b=false->K (.sb b) []:=fun b hb=>hK b fun h=>by rw[hb]at h;cases h
 have hopt:∀(s:ByteArray) {K:KT},K (.v (.bool true)) []->K (.v (.bool false)) []->True:=fun _ _ _ _=>trivial
 refine ACall.bool (ofj16Sm rfl rfl ?_)
 (repeat' ((conv=>whnf);first|(with_reducible refine cjOpt _ fun b hb=>?_)|refine zG ?_|apply zA|(apply zI;intro h)|exact zT));(all_goals conv=>whnf)
 all_goals first
  |exact .inl ⟨_,rfl,hf _ rfl⟩
  |exact .inr ⟨_,rfl,hf _ rfl⟩
  |exact .inl ⟨_,rfl,hK _ fun _=>by simp_all⟩
  |exact .inr ⟨_,rfl,hK _ fun _=>by simp_all⟩
theorem cjDefsV(l:List Df)(g:Bool)(hl:l.length<=1000)(hi:∀x,x∈l->x.items.length<=1000){K:KT}(hK:∀b,K (.sb b) []):ACall Tryz.prog 120 [.lst (l.map encDf),.v (.bool g)] [] K:=
 ACall.args (ys:=[.lst (l.map encDf),.sb g]) ⟨Weak.refl,Weak.bool,trivial⟩ (cjDefs l g hl hi hK)
theorem cjVal(i:Nt)(hs:Sml i){K:KT}(hK:∀b,(b=true->∀s,s∈i.sts->s.cls.toList=[]\/nameOk s.cls)->K (.sb b) []):ACall Tryz.prog 54 [encNt i] [] K:=by
 have hf:∀b,b=false->K (.sb b) []:=fun b hb=>hK b fun h=>by rw[hb]at h;cases h
 have hw:=hs.w;have ht:=hs.t;have hp:=hs.p;have hh:=hs.h
 refine ACall.bool (ofj16Val rfl rfl ?_)
 (repeat' ((conv=>whnf);first|(with_reducible first|refine cjDefsV _ _ hs.g hs.gi fun b=>?_|refine cjDefsV _ _ hs.s hs.si fun b=>?_)|refine zG ?_|apply zA|(apply zI;intro h)|exact zT));(all_goals conv=>whnf)
 all_goals first
  |exact .inl ⟨_,rfl,hf _ rfl⟩
  |exact .inr ⟨_,rfl,hf _ rfl⟩
  |skip
 refine Lp.intro Nat (fun n=>⟨1,[(0,boxNt i)],[(1,.op 0 0),(3,.v (.int .i64 n))]⟩) (fun n=>n<=i.wins.length) (fun n=>i.wins.length-n) 0 (aH _) ?_ ?_
 ·(exact leA)
 intro n hn
 rcases aB n i.wins.length with hnl|hnl
 ·obtain⟨x,hx⟩:=gex hnl
  have hxa:=hs.wi x (aF hx)
  (repeat' ((conv=>whnf);first|(with_reducible first|refine in_map hnl ?_|refine ix_map hx ?_|refine crName _ ?_|refine cjFindW _ _ hs.w fun r r0 r1=>?_|refine cjWri _ hxa fun b=>?_)|refine zG ?_|apply zA|(apply zI;intro h)|exact zT));(all_goals conv=>whnf)
  all_goals first
   |exact .inl ⟨_,rfl,hf _ rfl⟩
   |exact .inr ⟨_,rfl,hf _ rfl⟩
   |(refine⟨n+1,hnl,by omega,?_⟩
     rw[aN,aL]
     (exact leA)
     done)
 (repeat' ((conv=>whnf);first|refine zG ?_|apply zA|(apply zI;intro h)|exact zT));(all_goals conv=>whnf)
 refine Lp.intro Nat (fun n=>⟨1,[(0,boxNt i)],[(1,.op 0 0),(4,.v (.int .i64 n))]⟩) (fun n=>n<=i.sts.length/\∀(k:Nat) s,k<n->i.sts[k]? =some s->s.cls.toList=[]\/nameOk s.cls) (fun n=>i.sts.length-n) 0 ⟨aH _,fun k s h=>absurd h (aZ _)⟩ ?_ ?_
 ·(exact leA)
 clear hn hnl n
 intro n ⟨hn,hin⟩
 rcases aB n i.sts.length with hnl|hnl
 ·obtain⟨x,hx⟩:=gex hnl
  (repeat' ((conv=>whnf);first|(with_reducible first|refine in_map hnl ?_|refine ix_map hx ?_|refine cjSm x fun b hb=>?_)|refine zG ?_|apply zA|(apply zI;intro h)|exact zT));(all_goals conv=>whnf)
  all_goals first
   |exact .inl ⟨_,rfl,hf _ rfl⟩
   |exact .inr ⟨_,rfl,hf _ rfl⟩
   |(refine⟨n+1,⟨hnl,all_succ hx (hb (by simpa using h)) hin⟩,by omega,?_⟩
     rw[aN,aL]
     (exact leA)
     done)
 have hall:=before_all hnl hin
 (repeat' ((conv=>whnf);first|refine zG ?_|apply zA|(apply zI;intro h)|exact zT));(all_goals conv=>whnf)
 refine Lp.intro Nat (fun n=>⟨1,[(0,boxNt i)],[(1,.op 0 0),(5,.v (.int .i64 n))]⟩) (fun n=>n<=i.pubs.length) (fun n=>i.pubs.length-n) 0 (aH _) ?_ ?_
 ·(exact leA)
 clear hin hn hnl n
 intro n hn
 rcases aB n i.pubs.length with hnl|hnl
 ·obtain⟨x,hx⟩:=gex hnl
  (repeat' ((conv=>whnf);first|(with_reducible first|refine in_map hnl ?_|refine ix_map hx ?_|refine crName _ ?_|refine cjPort _ fun b=>?_)|refine zG ?_|apply zA|(apply zI;intro h)|exact zT));(all_goals conv=>whnf)
  all_goals first
   |exact .inl ⟨_,rfl,hf _ rfl⟩
   |exact .inr ⟨_,rfl,hf _ rfl⟩
   |(refine⟨n+1,hnl,by omega,?_⟩
     rw[aN,aL]
     (exact leA)
     done)
 (repeat' ((conv=>whnf);first|refine zG ?_|apply zA|(apply zI;intro h)|exact zT));(all_goals conv=>whnf)
 refine Lp.intro Nat (fun n=>⟨1,[(0,boxNt i)],[(1,.op 0 0),(7,.v (.int .i64 n))]⟩) (fun n=>n<=i.hids.length) (fun n=>i.hids.length-n) 0 (aH _) ?_ ?_
 ·(exact leA)
 clear hn hnl n
 intro n hn
 rcases aB n i.hids.length with hnl|hnl
 ·obtain⟨x,hx⟩:=gex hnl
  (repeat' ((conv=>whnf);first|(with_reducible first|refine in_map hnl ?_|refine ix_map hx ?_|refine crName _ ?_|refine cjPorts _ _ _ fun b=>?_)|refine zG ?_|apply zA|(apply zI;intro h)|exact zT));(all_goals conv=>whnf)
  all_goals first
   |exact .inl ⟨_,rfl,hf _ rfl⟩
   |exact .inr ⟨_,rfl,hf _ rfl⟩
   |(refine⟨n+1,hnl,by omega,?_⟩
     rw[aN,aL]
     (exact leA)
     done)
 (repeat' ((conv=>whnf);first|refine zG ?_|apply zA|(apply zI;intro h)|exact zT));(all_goals conv=>whnf)
 have hfin:∀s,s∈i.sts->s.cls.toList=[]\/nameOk s.cls:=fun s hs=>by
  obtain⟨k,hk⟩:=bM.1 hs
  exact hall k s hk
 exact .inl ⟨true,rfl,hK true fun _=>hfin⟩
noncomputable abbrev vN(n:Nat):AV:=.v (.int .i64 (n:Int))
theorem chZone(t:Tp)(s:ByteArray)(hl:t.edges.length<=5){K:KT}(hK:∀l:List Nat,l.length<=5->(∀n,n∈l->n<t.edges.length)->K (.lst (l.map vN)) []):ACall Tryz.prog 159 [encT t,.v (.string s)] [] K:=by
 refine ofh11Zone rfl rfl ?_
 (repeat' ((conv=>whnf);first|refine zG ?_|apply zA|(apply zI;intro h)|exact zT));(all_goals conv=>whnf)
 refine Lp.intro (Nat×List Nat) (fun g=>⟨2,[(0,boxT t),(1,.arr 1 (g.2.map vN))],[(1,.v (.string s)),(2,.op 0 0),(5,.os 1 1 0 g.2.length),(6,.v (.int .i64 g.1))]⟩)
  (fun g=>g.1<=t.edges.length/\g.2.length<=g.1/\∀n,n∈g.2->n<t.edges.length) (fun g=>t.edges.length-g.1) (0,[]) ⟨aH _,aM _,fun n h=>by simp at h⟩ ?_ ?_
 ·(exact leA)
 rintro⟨i,l⟩ ⟨h1,h2,h3⟩
 simp only at h1 h2 h3⊢
 rcases aB i t.edges.length with hil|hil
 ·obtain⟨x,hx⟩:=gex hil
  (repeat' ((conv=>whnf);first|(with_reducible first|refine in_map hil ?_|refine ix_map hx ?_)|refine zG ?_|apply zA|(apply zI;intro h)|exact zT));(all_goals conv=>whnf)
  all_goals first
   |(refine⟨(i+1,l),⟨hil,by simp only;omega,h3⟩,by simp only;omega,?_⟩
     rw[show(((i+1,l):Nat×List Nat).1:Int)=(i:Int)+1 from by simp only;omega]
     (exact leA)
     done)
   |(refine⟨(i+1,l++[i]),⟨hil,by simp only[aC,aJ,aO];omega,fun n hn=>by
      rcases aS.1 hn with hn|hn
      ·exact h3 n hn
      ·rw[aR.1 hn];exact hil⟩,by simp only;omega,?_⟩
     simp only[aQ,aC,aU,bF,aJ,aO,aN,aL]
     (exact leA)
     done)
 ·(repeat' ((conv=>whnf);first|(with_reducible refine sl_full (aA ..) ?_)|refine zG ?_|apply zA|(apply zI;intro h)|exact zT));(all_goals conv=>whnf)
  exact hK l zo h3
theorem chHas(l:List Nat)(n:Nat)(hl:l.length<=1000000){K:KT}(hK:K (.sb (decide (n∈l))) []):ACall Tryz.prog 291 [.lst (l.map vN),.v (.int .i64 n)] [] K:=by
 refine ACall.bool (ofh17Has rfl rfl ?_)
 (repeat' ((conv=>whnf);first|refine zG ?_|apply zA|(apply zI;intro h)|exact zT));(all_goals conv=>whnf)
 refine Lp.intro Nat (fun i=>⟨0,[],[(0,.lst (l.map vN)),(1,.v (.int .i64 n)),(5,.v (.int .i64 i))]⟩) (fun i=>i<=l.length/\∀(k:Nat) x,k<i->l[k]? =some x->¬x=n) (fun i=>l.length-i) 0 ⟨aH _,fun k x h=>absurd h (aZ _)⟩ ?_ ?_
 ·(exact leA)
 intro i ⟨hi,hin⟩
 rcases aB i l.length with hil|hil
 ·obtain⟨x,hx⟩:=gex hil
  (repeat' ((conv=>whnf);first|(with_reducible first|refine in_map hil ?_|refine ix_map hx ?_)|refine zG ?_|apply zA|(apply zI;intro h)|exact zT));(all_goals conv=>whnf)
  all_goals first
   |exact fin_t hK (decide_eq_true (by rw[show n=x by omega];exact aF hx))
   |(refine⟨i+1,⟨hil,all_succ hx zo hin⟩,by omega,?_⟩
     rw[aN,aL]
     (exact leA)
     done)
 ·(repeat' ((conv=>whnf);first|refine zG ?_|apply zA|(apply zI;intro h)|exact zT));(all_goals conv=>whnf)
  refine fin_f hK (decide_eq_false fun hm=>?_)
  obtain⟨k,hk⟩:=bM.1 hm
  exact before_all hil hin k n hk rfl
theorem chEdg(t:Tp)(l:List Nat)(hl:l.length<=5)(hb:∀n,n∈l->n<t.edges.length){K:KT}(hK:∀rs:List Rg,rs.length<=5->(∀r,r∈rs->∃e,e∈t.edges/\r=e.pf.rg)->K (encRs rs) []):ACall Tryz.prog 156 [encT t,.lst (l.map vN)] [] K:=by
 refine ofh17Edg rfl rfl ?_
 (repeat' ((conv=>whnf);first|refine zG ?_|apply zA|(apply zI;intro h)|exact zT));(all_goals conv=>whnf)
 refine Lp.intro (Nat×List Rg) (fun g=>⟨2,[(0,boxT t),(1,.arr 2 (g.2.map encR))],[(1,.lst (l.map vN)),(2,.op 0 0),(5,.os 1 2 0 g.2.length),(6,.v (.int .i64 g.1))]⟩)
  (fun g=>g.1<=l.length/\g.2.length=g.1/\∀r,r∈g.2->∃e,e∈t.edges/\r=e.pf.rg) (fun g=>l.length-g.1) (0,[]) ⟨aH _,rfl,fun r h=>by simp at h⟩ ?_ ?_
 ·(exact leA)
 rintro⟨i,out⟩ ⟨h1,h2,h3⟩
 simp only at h1 h2 h3⊢
 rcases aB i l.length with hil|hil
 ·obtain⟨n,hn⟩:=gex hil
  have hnl:=hb n (aF hn)
  obtain⟨x,hx⟩:=gex hnl
  (repeat' ((conv=>whnf);first|(with_reducible first|refine in_map hil ?_|refine ix_map hn ?_|refine in_map hnl ?_|refine ix_map hx ?_|refine crOf _ ?_)|refine zG ?_|apply zA|(apply zI;intro h)|exact zT));(all_goals conv=>whnf)
  all_goals first
   |(refine⟨(i+1,out++[x.pf.rg]),⟨hil,by simp only[aC,aJ,aO];omega,fun r hr=>by
      rcases aS.1 hr with hr|hr
      ·exact h3 r hr
      ·exact⟨x,aF hx,aR.1 hr⟩⟩,by simp only;omega,?_⟩
     simp only[aQ,aC,aU,bF,aJ,aO,aN,aL]
     (exact leA)
     done)
 ·(repeat' ((conv=>whnf);first|(with_reducible refine sl_full (aA ..) ?_)|refine zG ?_|apply zA|(apply zI;intro h)|exact zT));(all_goals conv=>whnf)
  exact hK out zo h3
theorem chAll(t:Tp)(hl:t.edges.length<=5){K:KT}(hK:∀l:List Nat,l.length<=5->(∀n,n∈l->n<t.edges.length)->K (.lst (l.map vN)) []):ACall Tryz.prog 157 [encT t] [] K:=by
 refine ofh17All rfl rfl ?_
 (repeat' ((conv=>whnf);first|refine zG ?_|apply zA|(apply zI;intro h)|exact zT));(all_goals conv=>whnf)
 refine Lp.intro (Nat×List Nat) (fun g=>⟨2,[(0,boxT t),(1,.arr 1 (g.2.map vN))],[(1,.op 0 0),(3,.os 1 1 0 g.2.length),(4,.v (.int .i64 g.1))]⟩)
  (fun g=>g.1<=t.edges.length/\g.2.length<=g.1/\∀n,n∈g.2->n<t.edges.length) (fun g=>t.edges.length-g.1) (0,[]) ⟨aH _,aM _,fun n h=>by simp at h⟩ ?_ ?_
 ·(exact leA)
 rintro⟨i,l⟩ ⟨h1,h2,h3⟩
 simp only at h1 h2 h3⊢
 rcases aB i t.edges.length with hil|hil
 ·(repeat' ((conv=>whnf);first|refine zG ?_|apply zA|(apply zI;intro h)|exact zT));(all_goals conv=>whnf)
  refine⟨(i+1,l++[i]),⟨hil,by simp only[aC,aJ,aO];omega,fun n hn=>by
    rcases aS.1 hn with hn|hn
    ·exact h3 n hn
    ·rw[aR.1 hn];exact hil⟩,by simp only;omega,?_⟩
  simp only[aQ,aC,aU,bF,aJ,aO,aN,aL]
  (exact leA)
 ·(repeat' ((conv=>whnf);first|(with_reducible refine sl_full (aA ..) ?_)|refine zG ?_|apply zA|(apply zI;intro h)|exact zT));(all_goals conv=>whnf)
  exact hK l zo h3
theorem wr_u32_eq{p:Int}{K:Int->Prop}(h:K (wu p)):Wr .u32 p K:=Wr.intro rfl h
theorem chHdr(x:It){K:KT}(hK:K (encXs (combP anB initS [hdrX x]).1) []):ACall Tryz.prog 160 [encIt x] [] K:=by
 have hq:∀{K:KT},K (.tup [encXs (combP anB initS [hdrX x]).1,.v (.int .i64 (combP anB initS [hdrX x]).2)]) []->ACall Tryz.prog 57 [encXs initS,.lst [.agg [.v (.int .u32 fullB.r0.lo),.v (.int .u32 fullB.r0.hi),.v (.int .u32 fullB.r1.lo),.v (.int .u32 fullB.r1.hi),.v (.int .u32 (wu x.proto)),.v (.int .u32 (wu x.proto)),.v (.int .u32 fullB.r3.lo),.v (.int .u32 fullB.r3.hi),.v (.int .u32 x.ports.lo),.v (.int .u32 x.ports.hi)]]] [] K:=fun {K} h=>@cr4Int initS [hdrX x] zd zx K h
 refine ofh17Hdr rfl rfl ?_
 (repeat' ((conv=>whnf);first|(with_reducible refine cr3Full ?_)|(refine in_c zd ?_)|(with_reducible first|refine wr_u32_eq ?_|refine cr4Init ?_)|(refine sl_full (by rfl) ?_)|(with_reducible refine hq ?_)|refine zG ?_|apply zA|(apply zI;intro h)|exact zT));(all_goals conv=>whnf)
 all_goals exact hK
theorem cwFol1(d:Df)(s:ByteArray){K:KT}(hK:K (.sb (sEq d.name s)) []):ACall Tryz.prog 335 [encDf d,.fp [.v (.string s)]] [] K:=by
 refine ofwFol1 rfl rfl ?_
 (repeat' ((conv=>whnf);first|refine zG ?_|apply zA|(apply zI;intro h)|exact zT));(all_goals conv=>whnf)
 exact hK
theorem cwIxD(l:List Df)(s:ByteArray)(hl:l.length<1000000){K:KT}(hK:K (.v (.int .i64 (firstIx (fun d=>sEq d.name s) l))) []):
  ACall Tryz.prog 293 [.lst (l.map encDf),.fn (.func 335) [] [.fp [.v (.string s)]]] [] K:=by
 refine ofwIxD rfl rfl ?_
 (repeat' ((conv=>whnf);first|refine zG ?_|apply zA|(apply zI;intro h)|exact zT));(all_goals conv=>whnf)
 refine Lp.intro Nat (fun k=>⟨0,[],[(0,.lst (l.map encDf)),(1,.fn (.func 335) [] [.fp [.v (.string s)]]),(7,.v (.int .i64 (l.map encDf).length)),(8,.v (.int .i64 k))]⟩) (fun k=>k<=l.length/\∀(i:Nat) y,i<k->l[i]? =some y->sEq y.name s=false) (fun k=>l.length-k) 0 ⟨aH _,fun i y hi=>absurd hi (aZ _)⟩ ?_ ?_
 ·(exact leA)
 intro k ⟨hk,hinv⟩
 rcases aB k l.length with hkl|hkl
 ·obtain⟨r,hr⟩:=gex hkl
  (repeat' ((conv=>whnf);first|(with_reducible first|refine in_map hkl ?_|refine ix_map hr ?_|refine cwFol1 r s ?_)|refine zG ?_|apply zA|(apply zI;intro h)|exact zT));(all_goals conv=>whnf)
  ·rw[firstIx_at hr h hinv]at hK;exact hK
  ·refine⟨k+1,⟨by omega,before_succ hr h hinv⟩,by omega,?_⟩
   rw[aN,aL]
   (exact leA)
 ·(repeat' ((conv=>whnf);first|refine zG ?_|apply zA|(apply zI;intro h)|exact zT));(all_goals conv=>whnf)
  rw[firstIx_none (before_all hkl hinv)]at hK
  exact hK
def ixs(p:Ed->Bool)(l:List Ed)(k:Nat):List Nat:=(List.range k).filter fun i=>match l[i]? with
 |some e=>p e
 |none=>false
theorem ixs_succ(p:Ed->Bool){l:List Ed}{k:Nat}{e:Ed}(h:l[k]? =some e):ixs p l (k+1)=ixs p l k++if p e=true then [k]else []:=by
 rw[ixs,List.range_succ,dB,<-ixs]
 congr 1
 rw[fE,List.filter_nil]
 simp only[h]
theorem ixs_len(p:Ed->Bool)(l:List Ed)(k:Nat):(ixs p l k).length<=k:=by
 have:=dL (fun i=>match l[i]? with
  |some e=>p e
  |none=>false) (List.range k)
 rw[List.length_range]at this
 exact this
theorem ixs_lt{p:Ed->Bool}{l:List Ed}{k n:Nat}(h:n∈ixs p l k):n<k/\∃e,l[n]? =some e/\p e=true:=by
 rw[ixs,cE,dJ]at h
 refine⟨h.1,?_⟩
 cases he:l[n]? with
 |none=>simp[he]at h
 |some e=>exact⟨e,rfl,by simpa[he]using h.2⟩
theorem cwZone1(e:Ed)(s:ByteArray){K:KT}(hK:K (.sb (sEq e.zone s)) []):ACall Tryz.prog 320 [encE e,.fp [.v (.string s)]] [] K:=by
 refine ofwZone1 rfl rfl ?_
 (repeat' ((conv=>whnf);first|refine zG ?_|apply zA|(apply zI;intro h)|exact zT));(all_goals conv=>whnf)
 exact hK
theorem cwIdx(t:Tp)(s:ByteArray)(hl:t.edges.length<1000){K:KT}(hK:K (.lst ((ixs (fun e=>sEq e.zone s) t.edges t.edges.length).map vN)) []):
  ACall Tryz.prog 319 [encT t,.fn (.func 320) [] [.fp [.v (.string s)]]] [] K:=by
 refine ofwIdx rfl rfl ?_
 (repeat' ((conv=>whnf);first|refine zG ?_|apply zA|(apply zI;intro h)|exact zT));(all_goals conv=>whnf)
 refine Lp.intro (Nat×List Nat) (fun g=>⟨2,[(1,.arr 1 (g.2.map vN))],[(1,.fn (.func 320) [] [.fp [.v (.string s)]]),(5,.os 1 1 0 g.2.length),(9,.lst (t.edges.map encE)),(10,.v (.int .i64 (t.edges.map encE).length)),(11,.v (.int .i64 g.1))]⟩)
  (fun g=>g.1<=t.edges.length/\g.2=ixs (fun e=>sEq e.zone s) t.edges g.1) (fun g=>t.edges.length-g.1) (0,[]) ⟨aH _,rfl⟩ ?_ ?_
 ·(exact leA)
 rintro⟨k,out⟩ ⟨hk,ho⟩
 simp only at hk ho⊢
 have hol:out.length<=k:=by rw[ho];exact ixs_len _ _ _
 rcases aB k t.edges.length with hkl|hkl
 ·obtain⟨e,he⟩:=gex hkl
  have hs:=ixs_succ (fun e=>sEq e.zone s) he
  rw[<-ho]at hs
  (repeat' ((conv=>whnf);first|(with_reducible first|refine in_map hkl ?_|refine ix_map he ?_|refine cwZone1 e s ?_)|refine zG ?_|apply zA|(apply zI;intro h)|exact zT));(all_goals conv=>whnf)
  ·refine⟨(k+1,out++[k]),⟨hkl,by rw[hs,aG h]⟩,by simp only;omega,?_⟩
   simp only[aQ,aC,aU,bF,aJ,aO,aN,aL]
   (exact leA)
  ·refine⟨(k+1,out),⟨hkl,by rw[hs,aE (by simp[h]),bD]⟩,by simp only;omega,?_⟩
   simp only[aN,aL]
   (exact leA)
 ·obtain rfl:k=t.edges.length:=by omega
  rw[<-ho]at hK
  (repeat' ((conv=>whnf);first|(with_reducible refine sl_full (aA ..) ?_)|refine zG ?_|apply zA|(apply zI;intro h)|exact zT));(all_goals conv=>whnf)
  exact hK
theorem cwZone(t:Tp)(s:ByteArray)(hl:t.edges.length<1000){K:KT}(hK:K (.lst ((ixs (fun e=>sEq e.zone s) t.edges t.edges.length).map vN)) []):ACall Tryz.prog 265 [encT t,.v (.string s)] [] K:=by
 refine ofwZone rfl rfl ?_
 (repeat' ((conv=>whnf);first|(with_reducible refine cwIdx t s hl ?_)|refine zG ?_|apply zA|(apply zI;intro h)|exact zT));(all_goals conv=>whnf)
 exact hK
abbrev outO(i n:Nat):Vm.Obj:=.box [.os i 2 0 n]
noncomputable abbrev arrO(rs:List Rg):Vm.Obj:=.arr 2 (rs.map encR)
theorem cwAdd(p:Pf)(rs:List Rg)(hl:rs.length<1000000000000){K:KT}(hK:K (.tup []) [outO 2 (rs++[p.rg]).length,.box [],arrO (rs++[p.rg])]):
  ACall Tryz.prog 262 [encP p,.op 0 0] [outO 1 rs.length,arrO rs] K:=by
 refine ofwG1 rfl rfl ?_
 (repeat' ((conv=>whnf);first|(with_reducible refine cpOf p ?_)|refine zG ?_|apply zA|(apply zI;intro h)|exact zT));(all_goals conv=>whnf)
 simp only[outO,arrO,aC,aQ]at hK
 exact hK
def rgAt(t:Tp)(i:Nat):Rg:=match t.edges[i]? with
 |some e=>e.pf.rg
 |none=>⟨0,0,by decide,by decide,by decide,by decide⟩
def visG(t:Tp)(x:It)(rs:List Rg):Int×List Rg:=
 if x.kind=2 then(0,rs++[x.pf.rg])else if ixs (fun e=>sEq e.zone x.name) t.edges t.edges.length=[]then(5,rs)else(0,rs++(ixs (fun e=>sEq e.zone x.name) t.edges t.edges.length).map (rgAt t))
noncomputable abbrev adO(i:Nat):Vm.Obj:=.box [.fn (.func 262) [] [.op i 0]]
theorem cwVis(t:Tp)(x:It)(rs:List Rg)(hl:t.edges.length<1000)(hr:rs.length<100000000000){K:KT}(hK:K (.v (.int .i64 (visG t x rs).1)) [adO 2,boxT t,outO 4 (visG t x rs).2.length,.box [],arrO (visG t x rs).2]):
  ACall Tryz.prog 264 [encIt x,.op 0 0,.op 1 0] [adO 2,boxT t,outO 3 rs.length,arrO rs] K:=by
 refine ofwG2 rfl rfl ?_
 (repeat' ((conv=>whnf);first|(with_reducible first|refine cwAdd x.pf rs zo ?_|refine cwZone t x.name hl ?_)|refine zG ?_|apply zA|(apply zI;intro h)|exact zT));(all_goals conv=>whnf)
 ·rw[visG,aG h]at hK
  exact hK
 ·have h0:ixs (fun e=>sEq e.zone x.name) t.edges t.edges.length=[]:=bS.1 (by rw[aA]at h;omega)
  rw[visG,aE zp,aG h0]at hK
  exact hK
 have hne:ixs (fun e=>sEq e.zone x.name) t.edges t.edges.length≠[]:=fun e=>h (by rw[e];rfl)
 rw[visG,aE zp,aE hne]at hK
 have hlt:=fun n hn=>@ixs_lt (fun e=>sEq e.zone x.name) t.edges t.edges.length n hn
 have hll:=ixs_len (fun e=>sEq e.zone x.name) t.edges t.edges.length
 generalize ixs (fun e=>sEq e.zone x.name) t.edges t.edges.length=L at*
 refine Lp.intro (Nat×List Rg) (fun g=>⟨5,[(0,adO 2),(1,boxT t),(2,outO 4 g.2.length),(4,arrO g.2)],[(1,.op 0 0),(2,.op 1 0),(22,.lst (L.map vN)),(23,.v (.int .i64 (L.map vN).length)),(24,.v (.int .i64 g.1))]⟩)
  (fun g=>g.1<=L.length/\g.2=rs++(L.take g.1).map (rgAt t)) (fun g=>L.length-g.1) (0,rs) ⟨aH _,by simp⟩ ?_ ?_
 ·(exact leA)
 rintro⟨k,out⟩ ⟨hk,ho⟩
 simp only at hk ho⊢
 have hol:out.length=rs.length+k:=by rw[ho,aC,aA,bI];omega
 rcases aB k L.length with hkl|hkl
 ·obtain⟨n,hn⟩:=gex hkl
  obtain⟨hnl,e,he,_⟩:=hlt n (aF hn)
  have hrg:rgAt t n=e.pf.rg:=by rw[rgAt,he]
  (repeat' ((conv=>whnf);first|(with_reducible first|refine in_map hkl ?_|refine ix_map hn ?_|refine in_map hnl ?_|refine ix_map he ?_|refine cwAdd e.pf out zo ?_)|refine zG ?_|apply zA|(apply zI;intro h)|exact zT));(all_goals conv=>whnf)
  refine⟨(k+1,out++[e.pf.rg]),⟨hkl,?_⟩,by simp only;omega,?_⟩
  ·simp only
   rw[ho,bJ,hn,aQ,cJ]
   simp[hrg]
  ·simp only[aN,aL]
   (exact leA)
 ·have hke:k=L.length:=by omega
  rw[hke,cU]at ho
  rw[<-ho]at hK
  (repeat' ((conv=>whnf);first|refine zG ?_|apply zA|(apply zI;intro h)|exact zT));(all_goals conv=>whnf)
  exact hK
noncomputable abbrev foO(l:List Df):Vm.Obj:=.box [.lst (l.map encDf),.mp 1,.mp 2,.fn (.func 264) [] [.op 3 0,.op 4 0]]
theorem visG_sz{t:Tp}(ht:t.edges.length<1000)(x:It)(rs:List Rg)(h:(visG t x rs).1=0):(visG t x rs).2.length<=rs.length+1000:=by
 unfold visG at h⊢
 have hll:=ixs_len (fun e=>sEq e.zone x.name) t.edges t.edges.length
 split
 ·rw[aC];simp
 ·split
  ·simp
  ·rw[aC,aA];omega
theorem cwFol(t:Tp)(ht:t.edges.length<1000)(l:List Df)(hl:l.length<=999)(hit:∀d,d∈l->d.items.length<=999):∀(k:Nat) (p:List Nat) (nm:ByteArray) (d:List Nat) (rs:List Rg),Fine l p d->p.length+k=l.length+1->rs.length<=1000000*(d.length+p.length)->∀{K:KT},
  K (.v (.int .i64 (fol (visG t) l k p nm d rs).1)) [foO l,.map (nameM l p),.map (nameM l (fol (visG t) l k p nm d rs).2.1),adO 5,boxT t,outO 7 (fol (visG t) l k p nm d rs).2.2.length,.box [],arrO (fol (visG t) l k p nm d rs).2.2]->
  ACall Tryz.prog 318 [.op 0 0,.v (.string nm)] [foO l,.map (nameM l p),.map (nameM l d),adO 5,boxT t,outO 6 rs.length,arrO rs] K
 |0,p,nm,d,rs,hf,hk,hrs,K,hK=>by
  have:=hf.small
  omega
 |k+1,p,nm,d,rs,hf,hk,hrs,K,hK=>by
  refine ofwFol rfl rfl ?_
  have hsm:=hf.small
  cases hn:findD l nm with
  |none=>
   have hix:∀{K:KT},K (.v (.int .i64 (-1))) []->ACall Tryz.prog 293 [.lst (l.map encDf),.fn (.func 335) [] [.fp [.v (.string nm)]]] [] K:=fun {K} h=>
    cwIxD l nm zo (by rw[firstIx_find,hn];exact h)
   simp only[fol,hn]at hK
   (repeat' ((conv=>whnf);first|(with_reducible refine hix ?_)|refine zG ?_|apply zA|(apply zI;intro h)|exact zT));(all_goals conv=>whnf)
   exact hK
  |some n=>
   obtain⟨df,hdf,hname,hnl⟩:=findD_some hn
   have hix:∀{K:KT},K (.v (.int .i64 n)) []->ACall Tryz.prog 293 [.lst (l.map encDf),.fn (.func 335) [] [.fp [.v (.string nm)]]] [] K:=fun {K} h=>
    cwIxD l nm zo (by rw[firstIx_find,hn];exact h)
   by_cases hp:n∈p
   ·simp only[fol,hn,aG hp]at hK
    (repeat' ((conv=>whnf);first|(with_reducible first|refine hix ?_|refine mg_some (nameM_in hn hp) ?_)|refine zG ?_|apply zA|(apply zI;intro h)|exact zT));(all_goals conv=>whnf)
    exact hK
   by_cases hd:n∈d
   ·simp only[fol,hn,aE hp,aG hd]at hK
    (repeat' ((conv=>whnf);first|(with_reducible first|refine hix ?_|refine mg_none (nameM_out hf.pf hn hp) ?_|refine mg_some (nameM_in hn hd) ?_)|refine zG ?_|apply zA|(apply zI;intro h)|exact zT));(all_goals conv=>whnf)
    exact hK
   simp only[fol,hn,aE hp,aE hd,hdf,dC,cT]at hK
   (repeat' ((conv=>whnf);first|(with_reducible first|refine hix ?_|refine mg_none (nameM_out hf.pf hn hp) ?_|refine mg_none (nameM_out hf.df hn hd) ?_|refine Mu.intro (updM_name hn) ?_|refine in_map hnl ?_|refine ix_map hdf ?_)|refine zG ?_|apply zA|(apply zI;intro h)|exact zT));(all_goals conv=>whnf)
   have hpush:=hf.push hn hp hd
   have hfed:=fun(q:Nat) nm d s h h0=>fol_fed (visG t) List.length (visG_sz ht) l hit q (p++[n]) nm d s h h0
   have hlen:=hit df (aF hdf)
   refine Lp.intro (Nat×List Nat×List Rg) (fun g=>⟨9,[(0,foO l),(1,.map (nameM l (p++[n]))),(2,.map (nameM l g.2.1)),(3,adO 5),(4,boxT t),(5,outO 7 g.2.2.length),(7,arrO g.2.2),(8,.box [.v (.string nm)])],[(0,.op 0 0),(3,.op 8 0),(49,.lst (df.items.map encIt)),(50,.v (.int .i64 (df.items.map encIt).length)),(51,.v (.int .i64 g.1)),(DS,.dfr 1 nm)]⟩)
    (fun g=>g.1<=df.items.length/\Fine l (p++[n]) g.2.1/\folI (visG t) (fol (visG t) l k (p++[n])) df.items d rs=folI (visG t) (fol (visG t) l k (p++[n])) (df.items.drop g.1) g.2.1 g.2.2/\d.length<=g.2.1.length/\g.2.2.length+1000000*d.length<=rs.length+1000000*g.2.1.length+1000*g.1)
    (fun g=>df.items.length-g.1) (0,d,rs) ⟨aH _,hpush,by rw[cD],aM _,by simp only;omega⟩ ?_ ?_
   ·(exact leA)
   rintro⟨i,d1,rs1⟩ ⟨hi,hf1,heq,hd1,hsz⟩
   simp only at hi hf1 heq hd1 hsz⊢
   rcases aB i df.items.length with hil|hil
   ·obtain⟨x,hx⟩:=gex hil
    have hdr:df.items.drop i=x::df.items.drop (i+1):=by
     rw[bE hil]
     congr 1
     rw[aD hil]at hx;cases hx;rfl
    rw[hdr,folI_cons]at heq
    have hsm1:=hf1.small
    rw[aC,dG]at hsm1
    by_cases hk3:x.kind=3
    ·simp only[aG hk3]at heq
     have hc:=fun {K} h=>@cwFol t ht l hl hit k (p++[n]) x.name d1 rs1 hf1 (by rw[aC];simp only[dG];omega) (by rw[aC];simp only[dG];omega) K h
     have hfq:=hfed k x.name d1 rs1 hf1
     generalize fol (visG t) l k (p++[n]) x.name d1 rs1=q at*
     obtain⟨qe,qd,qs⟩:=q
     simp only at heq hc hfq
     (repeat' ((conv=>whnf);first|(with_reducible first|refine in_map hil ?_|refine ix_map hx ?_|refine hc ?_|refine Mu.intro (delM_name hf.pf hn hp) ?_)|refine zG ?_|apply zA|(apply zI;intro h)|exact zT));(all_goals conv=>whnf)
     all_goals first
      |(have hne:¬qe=0:=by first|assumption|(intro e;simp_all;done)
        rw[heq,aE hne]at hK
        simp only[aE hne]at hK
        exact hK)
      |(have h0:qe=0:=by first|assumption|(simp_all;done)
        have hfq:=hfq h0
        refine⟨(i+1,qd,qs),⟨hil,hfq.fine,by rw[heq,aG h0],by have:=hfq.le;simp only;omega,by have:=hfq.size;simp only;omega⟩,by simp only;omega,?_⟩
        simp only[aN,aL]
        (exact leA)
        done)
    ·simp only[aE hk3]at heq
     have hc:=fun {K} h=>@cwVis t x rs1 ht zo K h
     have hvz:=visG_sz ht x rs1
     generalize visG t x rs1=q at*
     obtain⟨qe,qs⟩:=q
     simp only at heq hc hvz
     (repeat' ((conv=>whnf);first|(with_reducible first|refine in_map hil ?_|refine ix_map hx ?_|refine hc ?_|refine Mu.intro (delM_name hf.pf hn hp) ?_)|refine zG ?_|apply zA|(apply zI;intro h)|exact zT));(all_goals conv=>whnf)
     all_goals first
      |(have hne:¬qe=0:=by first|assumption|(intro e;simp_all;done)
        rw[heq,aE hne]at hK
        simp only[aE hne]at hK
        exact hK)
      |(have h0:qe=0:=by first|assumption|(simp_all;done)
        have hvz:=hvz h0
        refine⟨(i+1,d1,qs),⟨hil,hf1,by rw[heq,aG h0],by skip;simp only;omega,by skip;simp only;omega⟩,by simp only;omega,?_⟩
        simp only[aN,aL]
        (exact leA)
        done)
   ·have hie:i=df.items.length:=by omega
    rw[hie,List.drop_length,folI_nil]at heq
    rw[heq]at hK
    simp only[if_true]at hK
    (repeat' ((conv=>whnf);first|(with_reducible first|refine Mu.intro (updM_name hn) ?_|refine Mu.intro (delM_name hf.pf hn hp) ?_)|refine zG ?_|apply zA|(apply zI;intro h)|exact zT));(all_goals conv=>whnf)
    exact hK
noncomputable abbrev itO(i n:Nat):Vm.Obj:=.box [.os i 7 0 n]
noncomputable abbrev arI(its:List It):Vm.Obj:=.arr 7 (its.map encIt)
def visS(x:It)(its:List It):Int×List It:=(0,its++[x])
theorem visS_sz(x:It)(its:List It)(h:(visS x its).1=0):(visS x its).2.length<=its.length+1000:=by
 simp[visS]
theorem cwAdI(x:It)(its:List It)(hl:its.length<100000000000){K:KT}(hK:K (.v (.int .i64 (visS x its).1)) [itO 2 (visS x its).2.length,.box [],arI (visS x its).2]):
  ACall Tryz.prog 266 [encIt x,.op 0 0] [itO 1 its.length,arI its] K:=by
 refine ofwS1 rfl rfl ?_
 (repeat' ((conv=>whnf);first|refine zG ?_|apply zA|(apply zI;intro h)|exact zT));(all_goals conv=>whnf)
 simp only[visS,itO,arI,aC,aQ]at hK
 exact hK
noncomputable abbrev fsO(l:List Df):Vm.Obj:=.box [.lst (l.map encDf),.mp 1,.mp 2,.fn (.func 266) [] [.op 3 0]]
theorem cwFos(l:List Df)(hl:l.length<=999)(hit:∀d,d∈l->d.items.length<=999):∀(k:Nat) (p:List Nat) (nm:ByteArray) (d:List Nat) (rs:List It),Fine l p d->p.length+k=l.length+1->rs.length<=1000000*(d.length+p.length)->∀{K:KT},
  K (.v (.int .i64 (fol (visS) l k p nm d rs).1)) [fsO l,.map (nameM l p),.map (nameM l (fol (visS) l k p nm d rs).2.1),itO 5 (fol (visS) l k p nm d rs).2.2.length,.box [],arI (fol (visS) l k p nm d rs).2.2]->
  ACall Tryz.prog 318 [.op 0 0,.v (.string nm)] [fsO l,.map (nameM l p),.map (nameM l d),itO 4 rs.length,arI rs] K
 |0,p,nm,d,rs,hf,hk,hrs,K,hK=>by
  have:=hf.small
  omega
 |k+1,p,nm,d,rs,hf,hk,hrs,K,hK=>by
  refine ofwFos rfl rfl ?_
  have hsm:=hf.small
  cases hn:findD l nm with
  |none=>
   have hix:∀{K:KT},K (.v (.int .i64 (-1))) []->ACall Tryz.prog 293 [.lst (l.map encDf),.fn (.func 335) [] [.fp [.v (.string nm)]]] [] K:=fun {K} h=>
    cwIxD l nm zo (by rw[firstIx_find,hn];exact h)
   simp only[fol,hn]at hK
   (repeat' ((conv=>whnf);first|(with_reducible refine hix ?_)|refine zG ?_|apply zA|(apply zI;intro h)|exact zT));(all_goals conv=>whnf)
   exact hK
  |some n=>
   obtain⟨df,hdf,hname,hnl⟩:=findD_some hn
   have hix:∀{K:KT},K (.v (.int .i64 n)) []->ACall Tryz.prog 293 [.lst (l.map encDf),.fn (.func 335) [] [.fp [.v (.string nm)]]] [] K:=fun {K} h=>
    cwIxD l nm zo (by rw[firstIx_find,hn];exact h)
   by_cases hp:n∈p
   ·simp only[fol,hn,aG hp]at hK
    (repeat' ((conv=>whnf);first|(with_reducible first|refine hix ?_|refine mg_some (nameM_in hn hp) ?_)|refine zG ?_|apply zA|(apply zI;intro h)|exact zT));(all_goals conv=>whnf)
    exact hK
   by_cases hd:n∈d
   ·simp only[fol,hn,aE hp,aG hd]at hK
    (repeat' ((conv=>whnf);first|(with_reducible first|refine hix ?_|refine mg_none (nameM_out hf.pf hn hp) ?_|refine mg_some (nameM_in hn hd) ?_)|refine zG ?_|apply zA|(apply zI;intro h)|exact zT));(all_goals conv=>whnf)
    exact hK
   simp only[fol,hn,aE hp,aE hd,hdf,dC,cT]at hK
   (repeat' ((conv=>whnf);first|(with_reducible first|refine hix ?_|refine mg_none (nameM_out hf.pf hn hp) ?_|refine mg_none (nameM_out hf.df hn hd) ?_|refine Mu.intro (updM_name hn) ?_|refine in_map hnl ?_|refine ix_map hdf ?_)|refine zG ?_|apply zA|(apply zI;intro h)|exact zT));(all_goals conv=>whnf)
   have hpush:=hf.push hn hp hd
   have hfed:=fun(q:Nat) nm d s h h0=>fol_fed (visS) List.length visS_sz l hit q (p++[n]) nm d s h h0
   have hlen:=hit df (aF hdf)
   refine Lp.intro (Nat×List Nat×List It) (fun g=>⟨7,[(0,fsO l),(1,.map (nameM l (p++[n]))),(2,.map (nameM l g.2.1)),(3,itO 5 g.2.2.length),(5,arI g.2.2),(6,.box [.v (.string nm)])],[(0,.op 0 0),(3,.op 6 0),(49,.lst (df.items.map encIt)),(50,.v (.int .i64 (df.items.map encIt).length)),(51,.v (.int .i64 g.1)),(DS,.dfr 1 nm)]⟩)
    (fun g=>g.1<=df.items.length/\Fine l (p++[n]) g.2.1/\folI (visS) (fol (visS) l k (p++[n])) df.items d rs=folI (visS) (fol (visS) l k (p++[n])) (df.items.drop g.1) g.2.1 g.2.2/\d.length<=g.2.1.length/\g.2.2.length+1000000*d.length<=rs.length+1000000*g.2.1.length+1000*g.1)
    (fun g=>df.items.length-g.1) (0,d,rs) ⟨aH _,hpush,by rw[cD],aM _,by simp only;omega⟩ ?_ ?_
   ·(exact leA)
   rintro⟨i,d1,rs1⟩ ⟨hi,hf1,heq,hd1,hsz⟩
   simp only at hi hf1 heq hd1 hsz⊢
   rcases aB i df.items.length with hil|hil
   ·obtain⟨x,hx⟩:=gex hil
    have hdr:df.items.drop i=x::df.items.drop (i+1):=by
     rw[bE hil]
     congr 1
     rw[aD hil]at hx;cases hx;rfl
    rw[hdr,folI_cons]at heq
    have hsm1:=hf1.small
    rw[aC,dG]at hsm1
    by_cases hk3:x.kind=3
    ·simp only[aG hk3]at heq
     have hc:=fun {K} h=>@cwFos l hl hit k (p++[n]) x.name d1 rs1 hf1 (by rw[aC];simp only[dG];omega) (by rw[aC];simp only[dG];omega) K h
     have hfq:=hfed k x.name d1 rs1 hf1
     generalize fol (visS) l k (p++[n]) x.name d1 rs1=q at*
     obtain⟨qe,qd,qs⟩:=q
     simp only at heq hc hfq
     (repeat' ((conv=>whnf);first|(with_reducible first|refine in_map hil ?_|refine ix_map hx ?_|refine hc ?_|refine Mu.intro (delM_name hf.pf hn hp) ?_)|refine zG ?_|apply zA|(apply zI;intro h)|exact zT));(all_goals conv=>whnf)
     all_goals first
      |(have hne:¬qe=0:=by first|assumption|(intro e;simp_all;done)
        rw[heq,aE hne]at hK
        simp only[aE hne]at hK
        exact hK)
      |(have h0:qe=0:=by first|assumption|(simp_all;done)
        have hfq:=hfq h0
        refine⟨(i+1,qd,qs),⟨hil,hfq.fine,by rw[heq,aG h0],by have:=hfq.le;simp only;omega,by have:=hfq.size;simp only;omega⟩,by simp only;omega,?_⟩
        simp only[aN,aL]
        (exact leA)
        done)
    ·simp only[aE hk3]at heq
     have hc:=fun {K} h=>@cwAdI x rs1 zo K h
     have hvz:=visS_sz x rs1
     generalize visS x rs1=q at*
     obtain⟨qe,qs⟩:=q
     simp only at heq hc hvz
     (repeat' ((conv=>whnf);first|(with_reducible first|refine in_map hil ?_|refine ix_map hx ?_|refine hc ?_|refine Mu.intro (delM_name hf.pf hn hp) ?_)|refine zG ?_|apply zA|(apply zI;intro h)|exact zT));(all_goals conv=>whnf)
     all_goals first
      |(have hne:¬qe=0:=by first|assumption|(intro e;simp_all;done)
        rw[heq,aE hne]at hK
        simp only[aE hne]at hK
        exact hK)
      |(have h0:qe=0:=by first|assumption|(simp_all;done)
        have hvz:=hvz h0
        refine⟨(i+1,d1,qs),⟨hil,hf1,by rw[heq,aG h0],by skip;simp only;omega,by skip;simp only;omega⟩,by simp only;omega,?_⟩
        simp only[aN,aL]
        (exact leA)
        done)
   ·have hie:i=df.items.length:=by omega
    rw[hie,List.drop_length,folI_nil]at heq
    rw[heq]at hK
    simp only[if_true]at hK
    (repeat' ((conv=>whnf);first|(with_reducible first|refine Mu.intro (updM_name hn) ?_|refine Mu.intro (delM_name hf.pf hn hp) ?_)|refine zG ?_|apply zA|(apply zI;intro h)|exact zT));(all_goals conv=>whnf)
    exact hK
noncomputable def gxEqB:Ctx:={N:=26,plan:=at1 6 (some (ln [1,3,5,7,9,11,13,15,17])) (fun _=>none)}
noncomputable def bxEqB:Code:=bdy Tryz.f237
abbrev ofxEqB:=@ofC Tryz.prog gxEqB 237 Tryz.f237 bxEqB Tryz.func237 zk zk zk zk
noncomputable def gxCan:Ctx:={N:=170,plan:=at1 13 (some (ln [1,3,5,7,9,11,13,15,17,19,21,23,25,26,28])) (at1 14 (some (ln [1,3,5,7,9,11,15,17,19,21,25,27,12,22,28,31,33,35,37,39])) (at1 19 (some (ln [1,3,5,7,9,11,13,15,17,19,21,23,25,27,29,31,33,35,37,39,41,43,45,46,49])) (fun _=>none))),hints:=at1 8 ([.virt 12 3]) (fun _=>[]),cut:=at1 7 (true) (fun _=>false)}
noncomputable def bxCan:Code:=bdy Tryz.f272
abbrev ofxCan:=@ofC Tryz.prog gxCan 272 Tryz.f272 bxCan Tryz.func272 zk zk zk zk
noncomputable def gxRests:Ctx:={N:=28,own:=at1 234 (true) (fun _=>false)}
noncomputable def bxRests:Code:=bdy Tryz.f236
abbrev ofxRests:=@ofC Tryz.prog gxRests 236 Tryz.f236 bxRests Tryz.func236 zk zk zk zk
noncomputable def gxComb:Ctx:={N:=20}
noncomputable def bxComb:Code:=bdy Tryz.f197
abbrev ofxComb:=@ofC Tryz.prog gxComb 197 Tryz.f197 bxComb Tryz.func197 zk zk zk zk
noncomputable def gxSet:Ctx:={N:=11}
noncomputable def bxSet:Code:=bdy Tryz.f240
abbrev ofxSet:=@ofC Tryz.prog gxSet 240 Tryz.f240 bxSet Tryz.func240 zk zk zk zk
noncomputable def gxOf:Ctx:={N:=33}
noncomputable def bxOf:Code:=bdy Tryz.f153
abbrev ofxOf:=@ofC Tryz.prog gxOf 153 Tryz.f153 bxOf Tryz.func153 zk zk zk zk
noncomputable def gxMake:Ctx:={N:=29,hints:=at1 2 ([.asL 4]) (fun _=>[])}
noncomputable def bxMake:Code:=bdy Tryz.f111
abbrev ofxMake:=@ofC Tryz.prog gxMake 111 Tryz.f111 bxMake Tryz.func111 zk zk zk zk
noncomputable def gxVald:Ctx:={N:=18}
noncomputable def bxVald:Code:=bdy Tryz.f72
abbrev ofxVald:=@ofC Tryz.prog gxVald 72 Tryz.f72 bxVald Tryz.func72 zk zk zk zk
noncomputable def gxDiv:Ctx:={N:=86,plan:=at1 6 (some (ln [1,3,5,7,9,11,13,15,17,19,21,23,25,27,29,31,33,35])) (at1 8 (some (.one 0 true (.one 1 true (.one 2 true (.one 3 true (.one 4 true (.one 5 true (.one 6 true (.one 7 true (.one 8 true (.alt 9 (ln [21,22,24]) (.alt 11 (ln [18,21,24]) (.stop))))))))))))) (at1 14 (some (ln [1,3,5,7,8,11])) (fun _=>none))),cut:=at1 8 (true) (at1 9 (true) (fun _=>false))}
noncomputable def bxDiv:Code:=bdy Tryz.f150
abbrev ofxDiv:=@ofC Tryz.prog gxDiv 150 Tryz.f150 bxDiv Tryz.func150 zk zk zk zk
noncomputable def gxInt:Ctx:={N:=11}
noncomputable def bxInt:Code:=bdy Tryz.f76
abbrev ofxInt:=@ofC Tryz.prog gxInt 76 Tryz.f76 bxInt Tryz.func76 zk zk zk zk
noncomputable def gxUn:Ctx:={N:=11}
noncomputable def bxUn:Code:=bdy Tryz.f114
abbrev ofxUn:=@ofC Tryz.prog gxUn 114 Tryz.f114 bxUn Tryz.func114 zk zk zk zk
noncomputable def gxSub:Ctx:={N:=11}
noncomputable def bxSub:Code:=bdy Tryz.f113
abbrev ofxSub:=@ofC Tryz.prog gxSub 113 Tryz.f113 bxSub Tryz.func113 zk zk zk zk
noncomputable def gxSubs:Ctx:={N:=15}
noncomputable def bxSubs:Code:=bdy Tryz.f73
abbrev ofxSubs:=@ofC Tryz.prog gxSubs 73 Tryz.f73 bxSubs Tryz.func73 zk zk zk zk
noncomputable def gxLst:Ctx:={N:=77,np:=1,own:=at1 238 (true) (fun _=>false),plan:=at1 10 (some (ln [1,3,5,7,9,11,13,15,17,21,23,25,27,29,31,33,37,39,18,34,40])) (fun _=>none),cut:=at1 5 (true) (fun _=>false)}
noncomputable def bxLst:Code:=bdy Tryz.f238
abbrev ofxLst:=@ofC Tryz.prog gxLst 238 Tryz.f238 bxLst Tryz.func238 zk zk zk zk
noncomputable def gxFst:Ctx:={N:=31,own:=at1 238 (true) (fun _=>false)}
noncomputable def bxFst:Code:=bdy Tryz.f151
abbrev ofxFst:=@ofC Tryz.prog gxFst 151 Tryz.f151 bxFst Tryz.func151 zk zk zk zk
noncomputable def gxVals:Ctx:={N:=17}
noncomputable def bxVals:Code:=bdy Tryz.f226
abbrev ofxVals:=@ofC Tryz.prog gxVals 226 Tryz.f226 bxVals Tryz.func226 zk zk zk zk
noncomputable def gxHdr:Ctx:={N:=17}
noncomputable def bxHdr:Code:=bdy Tryz.f290
abbrev ofxHdr:=@ofC Tryz.prog gxHdr 290 Tryz.f290 bxHdr Tryz.func290 zk zk zk zk
noncomputable def gxWith:Ctx:={N:=29}
noncomputable def bxWith:Code:=bdy Tryz.f239
abbrev ofxWith:=@ofC Tryz.prog gxWith 239 Tryz.f239 bxWith Tryz.func239 zk zk zk zk
noncomputable def gxTop:Ctx:={N:=12}
noncomputable def bxTop:Code:=bdy Tryz.f143
abbrev ofxTop:=@ofC Tryz.prog gxTop 143 Tryz.f143 bxTop Tryz.func143 zk zk zk zk
noncomputable def gxFull:Ctx:={N:=15}
noncomputable def bxFull:Code:=bdy Tryz.f142
abbrev ofxFull:=@ofC Tryz.prog gxFull 142 Tryz.f142 bxFull Tryz.func142 zk zk zk zk
noncomputable def gxBVal:Ctx:={N:=24,plan:=at1 4 (some (ln [1,3,5,7,9,11,13,15,17,19,21,23,25])) (fun _=>none)}
noncomputable def bxBVal:Code:=bdy Tryz.f225
abbrev ofxBVal:=@ofC Tryz.prog gxBVal 225 Tryz.f225 bxBVal Tryz.func225 zk zk zk zk
noncomputable def gxCov:Ctx:={N:=36,hints:=at1 2 ([.virt 7 10]) (fun _=>[])}
noncomputable def bxCov:Code:=bdy Tryz.f289
abbrev ofxCov:=@ofC Tryz.prog gxCov 289 Tryz.f289 bxCov Tryz.func289 zk zk zk zk
noncomputable def gxEither:Ctx:={N:=9}
noncomputable def bxEither:Code:=bdy Tryz.f198
abbrev ofxEither:=@ofC Tryz.prog gxEither 198 Tryz.f198 bxEither Tryz.func198 zk zk zk zk
noncomputable def gxBoth:Ctx:={N:=9}
noncomputable def bxBoth:Code:=bdy Tryz.f154
abbrev ofxBoth:=@ofC Tryz.prog gxBoth 154 Tryz.f154 bxBoth Tryz.func154 zk zk zk zk
noncomputable def gxWout:Ctx:={N:=10}
noncomputable def bxWout:Code:=bdy Tryz.f152
abbrev ofxWout:=@ofC Tryz.prog gxWout 152 Tryz.f152 bxWout Tryz.func152 zk zk zk zk
noncomputable def gxCuts:Ctx:={N:=47,own:=at1 324 (true) (at1 325 (true) (fun _=>false)),plan:=at1 8 (some (ln [1,3,5,7,9,11,13,15,17,19,21,23,24,26,29])) (fun _=>none)}
noncomputable def bxCuts:Code:=bdy Tryz.f288
abbrev ofxCuts:=@ofC Tryz.prog gxCuts 288 Tryz.f288 bxCuts Tryz.func288 zk zk zk zk
noncomputable def gxValC:Ctx:={N:=6}
noncomputable def bxValC:Code:=bdy Tryz.f235
abbrev ofxValC:=@ofC Tryz.prog gxValC 235 Tryz.f235 bxValC Tryz.func235 zk zk zk zk
noncomputable def gxIdx:Ctx:={N:=19}
noncomputable def bxIdx:Code:=bdy Tryz.f224
abbrev ofxIdx:=@ofC Tryz.prog gxIdx 224 Tryz.f224 bxIdx Tryz.func224 zk zk zk zk
noncomputable def gxClone:Ctx:={N:=8,res:=true}
noncomputable def bxClone:Code:=bdy Tryz.f234
abbrev ofxClone:=@ofC Tryz.prog gxClone 234 Tryz.f234 bxClone Tryz.func234 zk zk zk zk
noncomputable def gxDel:Ctx:={N:=42,np:=1,res:=true,lend:=at1 224 (true) (fun _=>false)}
noncomputable def bxDel:Code:=bdy Tryz.f233
abbrev ofxDel:=@ofC Tryz.prog gxDel 233 Tryz.f233 bxDel Tryz.func233 zk zk zk zk
noncomputable def gxVal:Ctx:={N:=6,own:=at1 234 (true) (at1 233 (true) (fun _=>false))}
noncomputable def bxVal:Code:=bdy Tryz.f149
abbrev ofxVal:=@ofC Tryz.prog gxVal 149 Tryz.f149 bxVal Tryz.func149 zk zk zk zk
noncomputable def gxDel0:Ctx:={N:=42}
noncomputable def bxDel0:Code:=bdy Tryz.f233
abbrev ofxDel0:=@ofC Tryz.prog gxDel0 233 Tryz.f233 bxDel0 Tryz.func233 zk zk zk zk
theorem cxTop(f:Int){K:KT}(hK:K (.v (.int .u32 (topI f))) []):ACall Tryz.prog 143 [.v (.int .i64 f)] [] K:=by
 refine ofxTop rfl rfl ?_
 by_cases h1:0<=f/\f<5
 ·have h2:f=0\/f=1\/f=2\/f=3\/f=4:=by omega
  rcases h2 with rfl|rfl|rfl|rfl|rfl
  all_goals
   (repeat' ((conv=>whnf);first|(refine in_c zd ?_)|refine zG ?_|apply zA|(apply zI;intro h)|exact zT));(all_goals conv=>whnf)
   exact hK
 ·(repeat' ((conv=>whnf);first|refine zG ?_|apply zA|(apply zI;intro h)|exact zT));(all_goals conv=>whnf)
  ·rw[show topI f=0 from by unfold topI;rw[aE zo,aE zo,aE zo]]at hK
   exact hK
  ·rw[show topI f=0 from by unfold topI;rw[aE zo,aE zo,aE zo]]at hK
   exact hK
theorem cxFull{K:KT}(hK:K (encX fullB) []):ACall Tryz.prog 142 [] [] K:=by
 refine ofxFull rfl rfl ?_
 (repeat' ((conv=>whnf);first|(with_reducible refine Lp.times 6 ?_)|(refine in_c zd ?_)|refine zG ?_|apply zA|(apply zI;intro h)|exact zT));(all_goals conv=>whnf)
 exact hK
theorem cxBVal(b:Bx){K:KT}(hK:K (.sb (decide b.ok)) []):ACall Tryz.prog 225 [encX b] [] K:=by
 refine ACall.bool (ofxBVal rfl rfl ?_)
 (repeat' ((conv=>whnf);first|(with_reducible refine Lp.times 6 ?_)|(refine in_c zd ?_)|refine zG ?_|apply zA|(apply zI;intro h)|exact zT));(all_goals conv=>whnf)
 all_goals
  have hb:b.ok↔((b.r0.lo<=b.r0.hi/\b.r0.hi<=4294967295)/\(b.r1.lo<=b.r1.hi/\b.r1.hi<=4294967295)/\(b.r2.lo<=b.r2.hi/\b.r2.hi<=255)/\(b.r3.lo<=b.r3.hi/\b.r3.hi<=65535)/\(b.r4.lo<=b.r4.hi/\b.r4.hi<=65535)):=Iff.rfl
  first
   |exact fin_f hK (decide_eq_false (by rw[hb];omega))
   |exact fin_t hK (decide_eq_true (by rw[hb];omega))
theorem cxEither(x y:Bool){K:KT}(hK:K (.sb (x||y)) []):ACall Tryz.prog 198 [.sb x,.sb y] [] K:=by
 refine ACall.bool (ofxEither rfl rfl ?_)
 (repeat' ((conv=>whnf);first|refine zG ?_|apply zA|(apply zI;intro h)|exact zT));(all_goals conv=>whnf)
 all_goals
  first
   |exact fin_s hK (by cases x<;>cases y<;>simp_all)
   |exact fin_t hK (by cases x<;>cases y<;>simp_all)
   |exact fin_f hK (by cases x<;>cases y<;>simp_all)
theorem cxBoth(x y:Bool){K:KT}(hK:K (.sb (x&&y)) []):ACall Tryz.prog 154 [.sb x,.sb y] [] K:=by
 refine ACall.bool (ofxBoth rfl rfl ?_)
 (repeat' ((conv=>whnf);first|refine zG ?_|apply zA|(apply zI;intro h)|exact zT));(all_goals conv=>whnf)
 all_goals
  first
   |exact fin_s hK (by cases x<;>cases y<;>simp_all)
   |exact fin_t hK (by cases x<;>cases y<;>simp_all)
   |exact fin_f hK (by cases x<;>cases y<;>simp_all)
theorem cxWout(x y:Bool){K:KT}(hK:K (.sb (x&& !y)) []):ACall Tryz.prog 152 [.sb x,.sb y] [] K:=by
 refine ACall.bool (ofxWout rfl rfl ?_)
 (repeat' ((conv=>whnf);first|refine zG ?_|apply zA|(apply zI;intro h)|exact zT));(all_goals conv=>whnf)
 all_goals
  first
   |exact fin_s hK (by cases x<;>cases y<;>simp_all)
   |exact fin_t hK (by cases x<;>cases y<;>simp_all)
   |exact fin_f hK (by cases x<;>cases y<;>simp_all)
theorem cxValC(x:Bx){K:KT}(hK:K (.sb (!decide x.ok)) []):ACall Tryz.prog 235 [encX x] [] K:=by
 refine ACall.bool (ofxValC rfl rfl ?_)
 (repeat' ((conv=>whnf);first|(with_reducible refine cxBVal x ?_)|refine zG ?_|apply zA|(apply zI;intro h)|exact zT));(all_goals conv=>whnf)
 exact fin_s hK rfl
theorem cxClone(l:List Bx)(hl:l.length<1000000000){K:KT}(hK0:l=[]->K .nils [])(hK:K (.os 0 10 0 l.length) [.arr 10 (l.map encX)]):ACall Tryz.prog 234 [encXs l] [] K:=by
 refine ofxClone rfl rfl ?_
 (repeat' ((conv=>whnf);first|refine zG ?_|apply zA|(apply zI;intro h)|exact zT));(all_goals conv=>whnf)
 intro b hb
 (repeat' ((conv=>whnf);first|refine zG ?_|apply zA|(apply zI;intro h)|exact zT));(all_goals conv=>whnf)
 ·exact hK0 (List.map_eq_nil_iff.1 (hb zp))
 ·have e:0+(l.map encX).length=l.length:=by rw[aA];omega
  show K (.os 0 10 0 (0+(l.map encX).length)) [.arr 10 (l.map encX)]
  rw[e]
  exact hK
theorem cxIdx(l:List Bx)(hl:l.length<1000000000){K:KT}(hK1:(∀x,x∈l->x.ok)->K (.v (.int .i64 (-1))) [])
  (hK2:∀(i:Nat) x,l[i]? =some x->¬x.ok->(∀y,y∈l.take i->y.ok)->K (.v (.int .i64 i)) []):
  ACall Tryz.prog 224 [encXs l,.fn (.func 235) [] []] [] K:=by
 refine ofxIdx rfl rfl ?_
 (repeat' ((conv=>whnf);first|refine zG ?_|apply zA|(apply zI;intro h)|exact zT));(all_goals conv=>whnf)
 refine Lp.intro Nat (fun k=>⟨0,[],[(0,encXs l),(1,.fn (.func 235) [] []),(7,.v (.int .i64 ((l.map encX).length:Nat))),(8,.v (.int .i64 k))]⟩) (fun k=>k<=l.length/\∀y,y∈l.take k->y.ok) (fun k=>l.length-k) 0 ⟨aH _,by simp⟩ ?_ ?_
 ·(exact leA)
 intro k ⟨hk,hin⟩
 rcases aB k l.length with hkl|hkl
 ·obtain⟨x,hx⟩:=gex hkl
  (repeat' ((conv=>whnf);first|(with_reducible first|refine in_map hkl ?_|refine ix_map hx ?_|refine cxValC x ?_)|refine zG ?_|apply zA|(apply zI;intro h)|exact zT));(all_goals conv=>whnf)
  all_goals first
   |exact hK2 k x hx (by simpa using h) hin
   |(refine⟨k+1,⟨hkl,fun y hy=>?_⟩,by omega,?_⟩
     ·rw[bJ,hx]at hy
      rcases aS.1 hy with hy|hy
      ·exact hin y hy
      ·simp only[eB,aR]at hy
       subst hy
       simpa using h
     ·rw[aN,aL]
      (exact leA))
 ·rw[aX hkl]at hin
  (repeat' ((conv=>whnf);first|refine zG ?_|apply zA|(apply zI;intro h)|exact zT));(all_goals conv=>whnf)
  exact hK1 hin
theorem cxDel(l:List Bx)(hl:l.length<1000000000){K:KT}(hK:∀zs,K (.os 0 10 0 (vldB l).length) [.arr 10 ((vldB l).map encX++zs)]):
  ACall Tryz.prog 233 [.os 0 10 0 l.length,.fn (.func 235) [] []] [.arr 10 (l.map encX)] K:=by
 refine ofxDel rfl rfl ?_
 (repeat' ((conv=>whnf);first|refine zG ?_|apply zA|(apply zI;intro h)|exact zT));(all_goals conv=>whnf)
 refine cxIdx l hl (fun hall=>?_) (fun i x hx hbad hbef=>?_)
 ·have e:vldB l=l:=dV.2 fun y hy=>by simpa using hall y hy
  have:=hK []
  rw[e,bD]at this
  (repeat' ((conv=>whnf);first|refine zG ?_|apply zA|(apply zI;intro h)|exact zT));(all_goals conv=>whnf)
  exact this
 ·have hil:i<l.length:=(aP.1 hx).1
  have e0:vldB (l.take i)=l.take i:=dV.2 fun y hy=>by simpa using hbef y hy
  have e1:vldB (l.take (i+1))=l.take i:=by rw[vldB_succ hx,aE hbad,e0,bD]
  have e2:(l.take i).length=i:=by rw[bI];omega
  (repeat' ((conv=>whnf);first|refine zG ?_|apply zA|(apply zI;intro h)|exact zT));(all_goals conv=>whnf)
  refine Lp.intro Nat (fun j=>⟨1,[(0,.arr 10 ((vldB (l.take j)++l.drop (vldB (l.take j)).length).map encX))],[(0,.os 0 10 0 l.length),(1,.fn (.func 235) [] []),(5,.v (.int .i64 (vldB (l.take j)).length)),(6,.v (.int .i64 j))]⟩) (fun j=>j<=l.length/\(vldB (l.take j)).length<j) (fun j=>l.length-j) (i+1) ⟨hil,by rw[e1,e2];omega⟩ ?_ ?_
  ·rw[e1,e2,cQ,aN,aL]
   (exact leA)
  intro j ⟨hj1,hj2⟩
  rcases aB j l.length with hjl|hjl
  ·obtain⟨y,hy⟩:=gex hjl
   have hs:=vldB_succ hy
   generalize hC:vldB (l.take j)=C at*
   have hget:∀i,C.length<=i->(C++l.drop C.length)[i]? =l[i]? :=fun i hi=>by
    rw[bB hi,cC]
    congr 1;omega
   have hCn:C.length<l.length:=by omega
   have hy0:(C++l.drop C.length)[0+j]? =some y:=by rw[bL,hget _ zo];exact hy
   obtain⟨z,hz⟩:∃z,l[C.length]? =some z:=⟨_,aD hCn⟩
   have hz0:(C++l.drop C.length)[0+C.length]? =some z:=by rw[bL,hget _ (aM _)];exact hz
   have hdr:l.drop C.length=z::l.drop (C.length+1):=by
    rw[aD hCn]at hz
    rw[<-bH hz,<-bE hCn]
   have hset:((C++l.drop C.length).map encX).set (0+C.length) (encX y)=((C++[y])++l.drop (C++[y]).length).map encX:=by
    rw[bL,<-eQ,eA _ _ (aM _),dS,hdr]
    simp
   (repeat' ((conv=>whnf);first|(with_reducible first|refine in_nat hjl ?_|refine ix_map hy0 ?_|refine cxValC y ?_|refine in_nat hCn ?_|refine ix_map hz0 ?_)|refine zG ?_|apply zA|(apply zI;intro h)|exact zT));(all_goals conv=>whnf)
   ·rw[aG h]at hs
    refine⟨j+1,⟨hjl,by rw[hs,aC];simp;omega⟩,by omega,?_⟩
    rw[hs,<-hset,show((C++[y]).length:Int)=(C.length:Int)+1 by simp,aN j,aL]
    (exact leA)
   ·rw[aE h,bD]at hs
    refine⟨j+1,⟨hjl,by rw[hs];omega⟩,by omega,?_⟩
    rw[hs,aN j,aL]
    (exact leA)
  ·have hCl:vldB (l.take j)=vldB l:=by rw[aX hjl]
   have hCn:(vldB l).length<=l.length:=vldB_len l
   rw[hCl]
   (repeat' ((conv=>whnf);first|(refine Sb.intro (vldB l).length l.length rfl rfl hCn (aM _) ?_)|(refine Sb.intro 0 (vldB l).length rfl rfl (aH _) hCn ?_)|refine zG ?_|apply zA|(apply zI;intro h)|exact zT));(all_goals conv=>whnf)
   have e3:(List.map encX (vldB l++l.drop (vldB l).length)).take (0+(vldB l).length)=(vldB l).map encX:=by
    rw[bL,aQ,fU zx]
   rw[e3,eG,eN]
   exact hK _
theorem cxIdx0{K:KT}(hK:K (.v (.int .i64 (-1))) []):
  ACall Tryz.prog 224 [.lst [],.fn (.func 235) [] []] [] K:=
 cxIdx [] zd (fun _=>hK) (fun i x h=>by simp at h)
theorem cxDel0{K:KT}(hK:K .nils []):
  ACall Tryz.prog 233 [.nils,.fn (.func 235) [] []] [] K:=by
 refine ofxDel0 rfl rfl ?_
 (repeat' ((conv=>whnf);first|(with_reducible refine cxIdx0 ?_)|refine zG ?_|apply zA|(apply zI;intro h)|exact zT));(all_goals conv=>whnf)
 exact hK
theorem cxVal(l:List Bx)(hl:l.length<1000000000){K:KT}(hK:K (encXs (vldB l)) []):ACall Tryz.prog 149 [encXs l] [] K:=by
 refine ACall.weak (ofxVal rfl rfl ?_)
 (repeat' ((conv=>whnf);first|refine zG ?_|apply zA|(apply zI;intro h)|exact zT));(all_goals conv=>whnf)
 refine cxClone l hl (fun e=>?_) ?_
 ·subst e
  (repeat' ((conv=>whnf);first|(with_reducible refine cxDel0 ?_)|refine zG ?_|apply zA|(apply zI;intro h)|exact zT));(all_goals conv=>whnf)
  exact⟨_,Weak.nils,hK⟩
 ·(repeat' ((conv=>whnf);first|(with_reducible refine cxDel l hl fun zs=>?_)|refine zG ?_|apply zA|(apply zI;intro h)|exact zT));(all_goals conv=>whnf)
  refine Sl.intro (ys:=(vldB l).map encX) zx (by rw[cD,fU zx]) ?_
  exact⟨_,Weak.refl,hK⟩
theorem cxCov(l:List Bx)(f:Nat)(hf:f<=4)(v:Int)(hl:l.length<1000000000000){K:KT}(hK:K (encXs (atF f v l)) []):ACall Tryz.prog 289 [encXs l,.v (.int .i64 f),.v (.int .u32 v)] [] K:=by
 refine ofxCov rfl rfl ?_
 (repeat' ((conv=>whnf);first|refine zG ?_|apply zA|(apply zI;intro h)|exact zT));(all_goals conv=>whnf)
 refine Lp.intro Nat (fun k=>⟨1,[(0,.arr 10 ((atF f v (l.take k)).map encX))],[(1,.v (.int .i64 f)),(2,.v (.int .u32 v)),(7,.os 0 10 0 (atF f v (l.take k)).length),(10,encXs l),(11,.v (.int .i64 l.length)),(12,.v (.int .i64 k))]⟩) (fun k=>k<=l.length) (fun k=>l.length-k) 0 (aH _) ?_ ?_
 ·have e1:(List.map encX l).length=l.length:=aA ..
  rw[e1]
  (exact leA)
 intro k hk
 have hlen:=atF_len f v (l.take k)
 rw[bI]at hlen
 rcases aB k l.length with hkl|hkl
 ·obtain⟨x,hx⟩:=gex hkl
  have hs:=atF_succ (f:=f) (v:=v) hx
  rcases f with _|_|_|_|_|f
  case succ.succ.succ.succ.succ=>omega
  all_goals
   simp only[Bx.get]at hs
   (repeat' ((conv=>whnf);first|(with_reducible first|refine in_map hkl ?_|refine in_nat hkl ?_|refine ix_map hx ?_)|(refine in_c zd ?_)|refine zG ?_|apply zA|(apply zI;intro h)|exact zT));(all_goals conv=>whnf)
   all_goals
    refine⟨k+1,by omega,by omega,?_⟩
    first
     |(rw[aG zo]at hs
       rw[hs,aQ,aC]
       (exact leA)
       done)
     |(rw[aE zo,bD]at hs
       rw[hs]
       (exact leA)
       done)
 ·(repeat' ((conv=>whnf);first|refine zG ?_|apply zA|(apply zI;intro h)|exact zT));(all_goals conv=>whnf)
  rw[aX hkl]at*
  (repeat' ((conv=>whnf);first|refine zG ?_|apply zA|(apply zI;intro h)|exact zT));(all_goals conv=>whnf)
  exact hK
noncomputable def gsNaN:Ctx:={N:=6}
noncomputable def bsNaN:Code:=bdy Tryz.f362
abbrev ofsNaN:=@ofC Tryz.prog gsNaN 362 Tryz.f362 bsNaN Tryz.func362 zk zk zk zk
noncomputable def gsLess:Ctx:={N:=17}
noncomputable def bsLess:Code:=bdy Tryz.f353
abbrev ofsLess:=@ofC Tryz.prog gsLess 353 Tryz.f353 bsLess Tryz.func353 zk zk zk zk
noncomputable def gsIns:Ctx:={N:=49,np:=1,plan:=at1 4 (some (ln [1,3,5,7,9,11,13,15,17,19,21,23,25,26,29])) (at1 6 (some (ln [1,3,5,7,9,11,13,15,17,19,21,23,25,27,29,30,33,34])) (fun _=>none))}
noncomputable def bsIns:Code:=bdy Tryz.f347
abbrev ofsIns:=@ofC Tryz.prog gsIns 347 Tryz.f347 bsIns Tryz.func347 zk zk zk zk
noncomputable def gsSift:Ctx:={N:=76,np:=1,plan:=at1 3 (some (ln [1,3,5,7,9,11,13,15,17,19,21,23,25,27,29,31,33,35,36,39])) (at1 5 (some (ln [1,3,5,7,9,11,13,15,17,19,21,23,24,27])) (at1 6 (some (ln [1,3,5,7,9,11,13,15,17,19,21,23,25,27,29,31,33,35,37,39,41,42,45,46])) (fun _=>none)))}
noncomputable def bsSift:Code:=bdy Tryz.f359
abbrev ofsSift:=@ofC Tryz.prog gsSift 359 Tryz.f359 bsSift Tryz.func359 zk zk zk zk
noncomputable def gsHeap:Ctx:={N:=56,np:=1,own:=at1 359 (true) (fun _=>false),plan:=at1 10 (some (ln [1,3,5,7,9,11,13,15,17,19,21,23,25,27,29,31,33,34,37,38])) (fun _=>none)}
noncomputable def bsHeap:Code:=bdy Tryz.f348
abbrev ofsHeap:=@ofC Tryz.prog gsHeap 348 Tryz.f348 bsHeap Tryz.func348 zk zk zk zk
noncomputable def gsRev:Ctx:={N:=32,np:=1,plan:=at1 3 (some (ln [1,3,5,7,9,11,13,15,17,19,21,23,25,26,29,30])) (fun _=>none)}
noncomputable def bsRev:Code:=bdy Tryz.f351
abbrev ofsRev:=@ofC Tryz.prog gsRev 351 Tryz.f351 bsRev Tryz.func351 zk zk zk zk
noncomputable def gsPart:Ctx:={N:=168,np:=1,plan:=at1 1 (some (ln [1,3,5,7,9,11,13,15,17,19,21,23,25,26,29,30])) (at1 3 (some (ln [1,3,5,7,9,11,13,15,17,19,21,23,24,27])) (at1 5 (some (ln [1,3,5,7,9,11,13,15,17,19,21,23,24,27,29])) (at1 8 (some (ln [1,3,5,7,9,11,13,15,17,19,21,23,25,26,29,30])) (at1 10 (some (ln [1,3,5,7,9,11,13,15,17,19,21,23,25,26,29,30])) (at1 13 (some (ln [1,3,5,7,9,11,13,15,17,19,21,23,24,27])) (at1 15 (some (ln [1,3,5,7,9,11,13,15,17,19,21,23,24,27,29])) (at1 18 (some (ln [1,3,5,7,9,11,13,15,17,19,21,23,25,26,29,30])) (at1 21 (some (ln [1,3,5,7,9,11,13,15,17,19,21,23,25,26,29,30])) (fun _=>none))))))))),cut:=at1 5 (true) (at1 7 (true) (at1 15 (true) (at1 17 (true) (fun _=>false))))}
noncomputable def bsPart:Code:=bdy Tryz.f355
abbrev ofsPart:=@ofC Tryz.prog gsPart 355 Tryz.f355 bsPart Tryz.func355 zk zk zk zk
noncomputable def gsPeq:Ctx:={N:=84,np:=1,plan:=at1 1 (some (ln [1,3,5,7,9,11,13,15,17,19,21,23,25,26,29,30])) (at1 3 (some (ln [1,3,5,7,9,11,13,15,17,19,21,23,24,27,29])) (at1 5 (some (ln [1,3,5,7,9,11,13,15,17,19,21,23,24,27])) (at1 8 (some (ln [1,3,5,7,9,11,13,15,17,19,21,23,25,26,29,30])) (fun _=>none)))),cut:=at1 5 (true) (at1 7 (true) (fun _=>false))}
noncomputable def bsPeq:Code:=bdy Tryz.f354
abbrev ofsPeq:=@ofC Tryz.prog gsPeq 354 Tryz.f354 bsPeq Tryz.func354 zk zk zk zk
noncomputable def gsPins:Ctx:={N:=133,np:=1,plan:=at1 5 (some (ln [1,3,5,7,9,11,13,15,17,19,21,23,25,26,29,31])) (at1 11 (some (ln [1,3,5,7,9,11,13,15,17,19,21,23,25,27,29,30,33,34])) (at1 16 (some (ln [1,3,5,7,9,11,13,15,17,18,21])) (at1 17 (some (ln [1,3,5,7,9,11,13,15,17,19,21,23,25,27,29,30,33,34])) (at1 22 (some (ln [1,3,5,7,9,11,13,15,17,18,21])) (at1 23 (some (ln [1,3,5,7,9,11,13,15,17,19,21,23,25,27,29,30,33,34])) (fun _=>none)))))),cut:=at1 7 (true) (at1 18 (true) (fun _=>false))}
noncomputable def bsPins:Code:=bdy Tryz.f352
abbrev ofsPins:=@ofC Tryz.prog gsPins 352 Tryz.f352 bsPins Tryz.func352 zk zk zk zk
noncomputable def gsOrd2:Ctx:={N:=28,np:=2,plan:=at1 1 (some (ln [1,3,5,7,9,11,13,15,16])) (fun _=>none)}
noncomputable def bsOrd2:Code:=bdy Tryz.f364
abbrev ofsOrd2:=@ofC Tryz.prog gsOrd2 364 Tryz.f364 bsOrd2 Tryz.func364 zk zk zk zk
noncomputable def gsMed:Ctx:={N:=36,np:=2,own:=at1 364 (true) (fun _=>false)}
noncomputable def bsMed:Code:=bdy Tryz.f361
abbrev ofsMed:=@ofC Tryz.prog gsMed 361 Tryz.f361 bsMed Tryz.func361 zk zk zk zk
noncomputable def gsMedA:Ctx:={N:=15,np:=2,own:=at1 361 (true) (fun _=>false)}
noncomputable def bsMedA:Code:=bdy Tryz.f360
abbrev ofsMedA:=@ofC Tryz.prog gsMedA 360 Tryz.f360 bsMedA Tryz.func360 zk zk zk zk
noncomputable def gsPiv:Ctx:={N:=57,np:=1,own:=at1 361 (true) (at1 360 (true) (fun _=>false))}
noncomputable def bsPiv:Code:=bdy Tryz.f350
abbrev ofsPiv:=@ofC Tryz.prog gsPiv 350 Tryz.f350 bsPiv Tryz.func350 zk zk zk zk
noncomputable def gsLen64:Ctx:={N:=25}
noncomputable def bsLen64:Code:=bdy Tryz.f209
abbrev ofsLen64:=@ofC Tryz.prog gsLen64 209 Tryz.f209 bsLen64 Tryz.func209 zk zk zk zk
noncomputable def gsLen:Ctx:={N:=8}
noncomputable def bsLen:Code:=bdy Tryz.f116
abbrev ofsLen:=@ofC Tryz.prog gsLen 116 Tryz.f116 bsLen Tryz.func116 zk zk zk zk
noncomputable def gsPow2:Ctx:={N:=7}
noncomputable def bsPow2:Code:=bdy Tryz.f274
abbrev ofsPow2:=@ofC Tryz.prog gsPow2 274 Tryz.f274 bsPow2 Tryz.func274 zk zk zk zk
noncomputable def gsNext:Ctx:={N:=33,np:=1,plan:=at1 1 (some (ln [1,3,5,7,9,11,13,15,17,18])) (at1 2 (some (ln [1,3,5,7,9,11,13,15,17,18])) (at1 3 (some (ln [1,3,5,7,9,11,13,15,17,18])) (fun _=>none)))}
noncomputable def bsNext:Code:=bdy Tryz.f275
abbrev ofsNext:=@ofC Tryz.prog gsNext 275 Tryz.f275 bsNext Tryz.func275 zk zk zk zk
noncomputable def gsBrk:Ctx:={N:=65,np:=1,own:=at1 275 (true) (fun _=>false),plan:=at1 10 (some (ln [1,3,5,7,9,11,13,15,17,19,21,23,25,27,29,31,33,34,37,38])) (fun _=>none)}
noncomputable def bsBrk:Code:=bdy Tryz.f349
abbrev ofsBrk:=@ofC Tryz.prog gsBrk 349 Tryz.f349 bsBrk Tryz.func349 zk zk zk zk
noncomputable def gsPdq:Ctx:={N:=134,np:=1,own:=at1 347 (true) (at1 348 (true) (at1 349 (true) (at1 350 (true) (at1 351 (true) (at1 352 (true) (at1 354 (true) (at1 355 (true) (at1 337 (true) (fun _=>false))))))))),plan:=at1 17 (some (ln [1,3,5,7,9,11,13,15,17,19,21,23,24,27,29])) (fun _=>none),cut:=at1 10 (true) (at1 15 (true) (at1 17 (true) (fun _=>false)))}
noncomputable def bsPdq:Code:=bdy Tryz.f337
abbrev ofsPdq:=@ofC Tryz.prog gsPdq 337 Tryz.f337 bsPdq Tryz.func337 zk zk zk zk
noncomputable def gsSort:Ctx:={N:=11,np:=1,own:=at1 337 (true) (fun _=>false)}
noncomputable def bsSort:Code:=bdy Tryz.f324
abbrev ofsSort:=@ofC Tryz.prog gsSort 324 Tryz.f324 bsSort Tryz.func324 zk zk zk zk
noncomputable def gsComp:Ctx:={N:=61,np:=1,plan:=at1 6 (some (ln [1,3,5,7,9,11,13,15,17,19])) (at1 11 (some (ln [1,3,5,7,9,11,13,15,17,19])) (fun _=>none)),res:=true}
noncomputable def bsComp:Code:=bdy Tryz.f325
abbrev ofsComp:=@ofC Tryz.prog gsComp 325 Tryz.f325 bsComp Tryz.func325 zk zk zk zk
noncomputable abbrev encZ(z:Int):AV:=.v (.int .u64 z)
noncomputable abbrev rowZ(d:Array Int):Vm.Obj:=.arr 1 (d.toList.map encZ)
theorem z_get{d:Array Int}{i:Nat}(h:i<d.size):d.toList[i]? =some d[i]! :=by
 rw[Array.getElem?_toList,bC h,getElem!_pos d i h]
theorem ix_z{d:Array Int}{i:Nat}{K:AV->Prop}(h:i<d.size)(hk:K (encZ d[i]!)):Ix (d.toList.map encZ) (0+i) K:=by
 rw[bL]
 exact ix_map (z_get h) hk
theorem swp_z{d:Array Int}{i j:Nat}:((d.toList.map encZ).set i (encZ d[j]!)).set j (encZ d[i]!)=(Sort.swp d i j).toList.map encZ:=by
 rw[<-eQ,<-eQ]
 simp[Sort.swp]
theorem ix_zs{d:Array Int}{i j:Nat}{x:AV}{K:AV->Prop}(hij:i≠j)(h:j<d.size)(hk:K (encZ d[j]!)):Ix ((d.toList.map encZ).set (0+i) x) (0+j) K:=by
 rw[bL,bL]
 exact Ix.intro (by rw[gD hij,bP,z_get h];rfl) hk
theorem ix_zw{d:Array Int}{i j:Nat}{y:Int}{K:AV->Prop}(h:j<d.size)(hk:∀z,K (encZ z)):Ix ((d.toList.map encZ).set (0+i) (encZ y)) (0+j) K:=by
 rw[bL,bL]
 rcases Nat.decEq i j with hij|rfl
 ·exact Ix.intro (by rw[gD hij,bP,z_get h];rfl) (hk _)
 ·exact Ix.intro (by rw[List.getElem?_set_self (by simpa using h)]) (hk _)
theorem swp0{d:Array Int}{i j:Nat}:((d.toList.map encZ).set (0+i) (encZ d[j]!)).set (0+j) (encZ d[i]!)=(Sort.swp d i j).toList.map encZ:=by rw[bL,bL];exact swp_z
theorem swp_size{d:Array Int}{i j:Nat}:(Sort.swp d i j).size=d.size:=by simp[Sort.swp]
theorem csNaN(x:Int){K:KT}(hK:K (.sb false) []):ACall Tryz.prog 362 [encZ x] [] K:=by
 refine ofsNaN rfl rfl ?_
 (repeat' ((conv=>whnf);first|refine zG ?_|apply zA|(apply zI;intro h)|exact zT));(all_goals conv=>whnf)
 have e:(!decide (x=x))=false:=by simp
 unfold one?
 rw[e]
 exact hK
theorem csLess(x y:Int){K:KT}(hK:K (.sb (Sort.ltInt x y)) []):ACall Tryz.prog 353 [encZ x,encZ y] [] K:=by
 refine ACall.bool (ofsLess rfl rfl ?_)
 (repeat' ((conv=>whnf);first|(with_reducible refine csNaN _ ?_)|refine zG ?_|apply zA|(apply zI;intro h)|exact zT));(all_goals conv=>whnf)
 exact fin_s hK rfl
theorem csIns(d:Array Int)(a b:Nat)(hab:a<=b)(hb:b<=d.size)(hsz:d.size<1000000000000){K:KT}(hK:K (.tup []) [rowZ (Sort.insertionSort Sort.ltInt d a b)]):
  ACall Tryz.prog 347 [.os 0 1 0 d.size,.v (.int .i64 a),.v (.int .i64 b)] [rowZ d] K:=by
 refine ofsIns rfl rfl ?_
 (repeat' ((conv=>whnf);first|refine zG ?_|apply zA|(apply zI;intro h)|exact zT));(all_goals conv=>whnf)
 refine Lp.intro (Nat×Array Int) (fun g=>⟨1,[(0,rowZ g.2)],[(0,.os 0 1 0 d.size),(1,.v (.int .i64 a)),(2,.v (.int .i64 b)),(6,.v (.int .i64 g.1))]⟩)
  (fun g=>g.2.size=d.size/\a+1<=g.1/\g.1<=d.size+1/\Sort.insOuter Sort.ltInt a b g.1 g.2=Sort.insertionSort Sort.ltInt d a b) (fun g=>b-g.1) (a+1,d) ⟨rfl,aM _,by omega,rfl⟩ ?_ ?_
 ·dsimp only
  rw[aN,aL]
  (exact leA)
 rintro⟨i,e⟩ ⟨he,hi1,hi2,ht⟩
 simp only at he hi1 hi2 ht⊢
 rw[Sort.insOuter]at ht
 rcases aB i b with hib|hib
 ·rw[aG hib]at ht
  (repeat' ((conv=>whnf);first|refine zG ?_|apply zA|(apply zI;intro h)|exact zT));(all_goals conv=>whnf)
  refine Lp.intro (Nat×Array Int) (fun g=>⟨1,[(0,rowZ g.2)],[(0,.os 0 1 0 d.size),(1,.v (.int .i64 a)),(2,.v (.int .i64 b)),(6,.v (.int .i64 i)),(7,.v (.int .i64 g.1))]⟩)
   (fun g=>g.2.size=d.size/\a<=g.1/\g.1<=i/\Sort.insInner Sort.ltInt a g.1 g.2=Sort.insInner Sort.ltInt a i e) (fun g=>g.1) (i,e) ⟨he,by omega,aM _,rfl⟩ ?_ ?_
  ·(exact leA)
  rintro⟨j,f⟩ ⟨hf,hj1,hj2,hg⟩
  simp only at hf hj1 hj2 hg⊢
  have n1:j<d.size:=by omega
  have n1':j<f.size:=by omega
  rcases aB a j with haj|haj
  ·obtain⟨m,rfl⟩:∃m,j=m+1:=⟨j-1,by omega⟩
   have n2:m<d.size:=by omega
   have n2':m<f.size:=by omega
   have hm:((m+1:Nat):Int)-1=(m:Nat):=by omega
   (repeat' ((conv=>whnf);first|(with_reducible first|refine csLess _ _ ?_|refine in_nat n1 ?_|refine In.intro m hm n2 ?_|refine ix_z n1' ?_|refine ix_z n2' ?_|refine ix_zs (Nat.succ_ne_self m) n2' ?_)|refine zG ?_|apply zA|(apply zI;intro h)|exact zT));(all_goals conv=>whnf)
   ·refine⟨(m,Sort.swp f (m+1) m),⟨by rw[swp_size,hf],by omega,by omega,?_⟩,by dsimp only;omega,?_⟩
    ·rw[<-hg]
     simp only[Sort.insInner]
     rw[aG]
     simp only[aI,aK]
     exact⟨haj,h⟩
    ·dsimp only
     rw[hm,swp0]
     (exact leA)
   ·refine⟨(i+1,f),⟨hf,by omega,by omega,?_⟩,by dsimp only;omega,?_⟩
    ·rw[<-ht,<-hg]
     simp only[Sort.insInner]
     rw[aE]
     simp[h]
    ·dsimp only
     rw[aN,aL]
     (exact leA)
  ·have hja:j=a:=by omega
   subst hja
   (repeat' ((conv=>whnf);first|refine zG ?_|apply zA|(apply zI;intro h)|exact zT));(all_goals conv=>whnf)
   refine⟨(i+1,f),⟨hf,by omega,by omega,?_⟩,by dsimp only;omega,?_⟩
   ·rw[<-ht,<-hg]
    cases j with
    |zero=>rfl
    |succ j=>simp only[Sort.insInner];rw[aE];simp
   ·dsimp only
    rw[aN,aL]
    (exact leA)
 ·rw[aE zo]at ht
  rw[<-ht]at hK
  (repeat' ((conv=>whnf);first|refine zG ?_|apply zA|(apply zI;intro h)|exact zT));(all_goals conv=>whnf)
  exact hK
theorem csSift(d:Array Int)(lo hi first:Nat)(hlo:lo<=d.size)(hb:first+hi<=d.size)(hsz:d.size<1000000000000){K:KT}(hK:K (.tup []) [rowZ (Sort.siftDown Sort.ltInt hi first lo d)]):
  ACall Tryz.prog 359 [.os 0 1 0 d.size,.v (.int .i64 lo),.v (.int .i64 hi),.v (.int .i64 first)] [rowZ d] K:=by
 refine ofsSift rfl rfl ?_
 (repeat' ((conv=>whnf);first|refine zG ?_|apply zA|(apply zI;intro h)|exact zT));(all_goals conv=>whnf)
 refine Lp.intro (Nat×Array Int) (fun g=>⟨1,[(0,rowZ g.2)],[(0,.os 0 1 0 d.size),(1,.v (.int .i64 lo)),(2,.v (.int .i64 hi)),(3,.v (.int .i64 first)),(8,.v (.int .i64 g.1))]⟩)
  (fun g=>g.2.size=d.size/\g.1<=d.size/\Sort.siftDown Sort.ltInt hi first g.1 g.2=Sort.siftDown Sort.ltInt hi first lo d) (fun g=>hi-g.1) (lo,d) ⟨rfl,hlo,rfl⟩ ?_ ?_
 ·(exact leA)
 rintro⟨r,e⟩ ⟨he,hr,ht⟩
 simp only at he hr ht⊢
 rw[Sort.siftDown]at ht
 rcases aB (2*r+1) hi with h1|h1
 ·rw[dif_neg zo]at ht
  have a1:first+(2*r+1)<e.size:=by omega
  have a0:first+r<e.size:=by omega
  have e1:first+(2*r+1)+1=first+(2*r+2):=by omega
  rw[e1]at ht
  rcases aB (2*r+2) hi with h2|h2
  ·have a2:first+(2*r+2)<e.size:=by omega
   rw[show decide (2*r+1+1<hi)=true from decide_eq_true zo,fC,dif_pos h2]at ht
   (repeat' ((conv=>whnf);first|(with_reducible refine csLess _ _ ?_)|(refine In.intro (first+(2*r+1)) zo zo ?_)|(refine In.intro (first+(2*r+2)) zo zo ?_)|(refine In.intro (first+r) zo zo ?_)|(with_reducible first|refine ix_z a0 ?_|refine ix_z a1 ?_|refine ix_z a2 ?_)|(refine ix_zs zo a1 ?_)|(refine ix_zs zo a2 ?_)|refine zG ?_|apply zA|(apply zI;intro h)|exact zT));(all_goals conv=>whnf)
   ·rename_i hh
    simp only[hh,h,fS,fF,cM,if_true,if_false,reduceIte]at ht
    refine⟨(2*r+2,Sort.swp e (first+r) (first+(2*r+2))),⟨by rw[swp_size,he],by dsimp only;omega,ht⟩,by dsimp only;omega,?_⟩
    dsimp only
    rw[swp0,show((2*r+2:Nat):Int)=2*(r:Int)+1+1 by omega]
    (exact leA)
   ·rename_i hh
    simp only[hh,h,fS,fF,cM,if_true,if_false,reduceIte]at ht
    rw[ht]
    exact hK
   ·rename_i hh
    simp only[hh,h,fS,fF,cM,if_true,if_false,reduceIte]at ht
    refine⟨(2*r+1,Sort.swp e (first+r) (first+(2*r+1))),⟨by rw[swp_size,he],by dsimp only;omega,ht⟩,by dsimp only;omega,?_⟩
    dsimp only
    rw[swp0,show((2*r+1:Nat):Int)=2*(r:Int)+1 by omega]
    (exact leA)
   ·rename_i hh
    simp only[hh,h,fS,fF,cM,if_true,if_false,reduceIte]at ht
    rw[ht]
    exact hK
  ·rw[show decide (2*r+1+1<hi)=false from decide_eq_false zo,Bool.false_and]at ht
   (repeat' ((conv=>whnf);first|(with_reducible refine csLess _ _ ?_)|(refine In.intro (first+(2*r+1)) zo zo ?_)|(refine In.intro (first+r) zo zo ?_)|(with_reducible first|refine ix_z a0 ?_|refine ix_z a1 ?_)|(refine ix_zs zo a1 ?_)|refine zG ?_|apply zA|(apply zI;intro h)|exact zT));(all_goals conv=>whnf)
   ·simp only[h,Bool.false_and,fS,fF,cM,if_true,if_false,reduceIte]at ht
    refine⟨(2*r+1,Sort.swp e (first+r) (first+(2*r+1))),⟨by rw[swp_size,he],by dsimp only;omega,ht⟩,by dsimp only;omega,?_⟩
    dsimp only
    rw[swp0,show((2*r+1:Nat):Int)=2*(r:Int)+1 by omega]
    (exact leA)
   ·simp only[h,Bool.false_and,fS,fF,cM,if_true,if_false,reduceIte]at ht
    rw[ht]
    exact hK
 ·rw[dif_pos h1]at ht
  rw[<-ht]at hK
  (repeat' ((conv=>whnf);first|refine zG ?_|apply zA|(apply zI;intro h)|exact zT));(all_goals conv=>whnf)
  exact hK
theorem siftDown_size(lt:Int->Int->Bool)(hi first:Nat):∀(n r:Nat) (e:Array Int),hi-r<=n->(Sort.siftDown lt hi first r e).size=e.size:=by
 intro n
 induction n with
 |zero=>intro r e h;rw[Sort.siftDown,dif_pos zo]
 |succ n ih=>
  intro r e h
  rw[Sort.siftDown]
  split
  ·rfl
  ·split
   ·split
    ·rfl
    ·split
     ·rw[ih _ _ zo,swp_size]
     ·rfl
   ·split
    ·rfl
    ·rw[ih _ _ zo,swp_size]
theorem sift_size{lt:Int->Int->Bool}{hi first r:Nat}{e:Array Int}:(Sort.siftDown lt hi first r e).size=e.size:=siftDown_size lt hi first _ r e (aM _)
theorem csSift'{n:Nat}{d:Array Int}(hn:d.size=n)(lo hi first:Nat)(hlo:lo<=n)(hb:first+hi<=n)(hsz:n<1000000000000){K:KT}(hK:K (.tup []) [rowZ (Sort.siftDown Sort.ltInt hi first lo d)]):
  ACall Tryz.prog 359 [.os 0 1 0 n,.v (.int .i64 lo),.v (.int .i64 hi),.v (.int .i64 first)] [rowZ d] K:=by
 subst hn
 exact csSift d lo hi first hlo hb hsz hK
theorem csHeap(d:Array Int)(a b:Nat)(hab:a<b)(hb:b<=d.size)(hsz:d.size<1000000000000){K:KT}(hK:K (.tup []) [rowZ (Sort.heapSort Sort.ltInt d a b)]):
  ACall Tryz.prog 348 [.os 0 1 0 d.size,.v (.int .i64 a),.v (.int .i64 b)] [rowZ d] K:=by
 refine ofsHeap rfl rfl ?_
 have hq:((b:Int)-a-1).tdiv 2=(((b-a-1)/2:Nat):Int):=by rw[cY zo];omega
 have hba:(b:Int)-a=((b-a:Nat):Int):=by omega
 have hw:∀{K:Int->Prop},K (((b-a-1)/2:Nat):Int)->Wr .i64 (((b:Int)-a-1).tdiv 2) K:=fun h=>wr_i64 hq zo zo h
 (repeat' ((conv=>whnf);first|(with_reducible refine hw ?_)|refine zG ?_|apply zA|(apply zI;intro h)|exact zT));(all_goals conv=>whnf)
 refine Lp.intro (Nat×Array Int) (fun g=>⟨1,[(0,rowZ g.2)],[(0,.os 0 1 0 d.size),(1,.v (.int .i64 a)),(2,.v (.int .i64 b)),(6,.v (.int .i64 a)),(7,.v (.int .i64 0)),(8,.v (.int .i64 ((b:Int)-a))),(9,.v (.int .i64 ((g.1:Int)-1)))]⟩)
  (fun g=>g.2.size=d.size/\g.1<=(b-a-1)/2+1/\Sort.heapBuild Sort.ltInt (b-a) a g.1 g.2=Sort.heapBuild Sort.ltInt (b-a) a ((b-a-1)/2+1) d) (fun g=>g.1) ((b-a-1)/2+1,d) ⟨rfl,aM _,rfl⟩ ?_ ?_
 ·dsimp only
  rw[show((((b-a-1)/2+1:Nat):Int)-1)=(((b-a-1)/2:Nat):Int) by omega]
  (exact leA)
 rintro⟨k,e⟩ ⟨he,hk,ht⟩
 simp only at he hk ht⊢
 rcases k with _|k
 ·simp only[Sort.heapBuild]at ht
  subst ht
  have hs:∀{K:KT} (k:Nat) (e:Array Int),e.size=d.size->k<b-a->K (.tup []) [rowZ (Sort.siftDown Sort.ltInt k a 0 e)]->ACall Tryz.prog 359 [.os 0 1 0 d.size,.v (.int .i64 0),.v (.int .i64 k),.v (.int .i64 a)] [rowZ e] K:=fun k e he hk h=>csSift' he 0 k a zo zo hsz h
  (repeat' ((conv=>whnf);first|refine zG ?_|apply zA|(apply zI;intro h)|exact zT));(all_goals conv=>whnf)
  refine Lp.intro (Nat×Array Int) (fun g=>⟨1,[(0,rowZ g.2)],[(0,.os 0 1 0 d.size),(1,.v (.int .i64 a)),(2,.v (.int .i64 b)),(6,.v (.int .i64 a)),(7,.v (.int .i64 0)),(8,.v (.int .i64 ((b:Int)-a))),(10,.v (.int .i64 ((g.1:Int)-1)))]⟩)
   (fun g=>g.2.size=d.size/\g.1<=b-a/\Sort.heapPop Sort.ltInt a g.1 g.2=Sort.heapSort Sort.ltInt d a b) (fun g=>g.1) (b-a,Sort.heapBuild Sort.ltInt (b-a) a ((b-a-1)/2+1) d) ⟨he,aM _,rfl⟩ ?_ ?_
  ·dsimp only
   rw[<-hba]
   (exact leA)
  rintro⟨k,f⟩ ⟨hf,hk,ht⟩
  simp only at hf hk ht⊢
  rcases k with _|k
  ·simp only[Sort.heapPop]at ht
   rw[<-ht]at hK
   (repeat' ((conv=>whnf);first|refine zG ?_|apply zA|(apply zI;intro h)|exact zT));(all_goals conv=>whnf)
   exact hK
  ·have a0:a<f.size:=by omega
   have a1:a+k<f.size:=by omega
   have n0:a<d.size:=by omega
   have hik:((k+1:Nat):Int)-1=(k:Nat):=by omega
   rw[hik]
   (repeat' ((conv=>whnf);first|(with_reducible refine in_nat n0 ?_)|(refine In.intro (a+k) zo zo ?_)|(with_reducible first|refine ix_z a0 ?_|refine ix_z a1 ?_)|(refine ix_zw a1 fun z=>?_)|(rw[swp0])|(with_reducible refine hs k _ (swp_size.trans hf) zo ?_)|refine zG ?_|apply zA|(apply zI;intro h)|exact zT));(all_goals conv=>whnf)
   refine⟨(k,Sort.siftDown Sort.ltInt k a 0 (Sort.swp f a (a+k))),⟨by rw[sift_size,swp_size,hf],by dsimp only;omega,?_⟩,by dsimp only;omega,?_⟩
   ·rw[<-ht];rfl
   ·(exact leA)
 ·have hik:((k+1:Nat):Int)-1=(k:Nat):=by omega
  rw[hik]
  have hs:∀{K:KT},K (.tup []) [rowZ (Sort.siftDown Sort.ltInt (b-a) a k e)]->ACall Tryz.prog 359 [.os 0 1 0 d.size,.v (.int .i64 k),.v (.int .i64 ((b:Int)-a)),.v (.int .i64 a)] [rowZ e] K:=fun h=>by rw[hba];exact csSift' he k (b-a) a zo zo hsz h
  (repeat' ((conv=>whnf);first|(with_reducible refine hs ?_)|refine zG ?_|apply zA|(apply zI;intro h)|exact zT));(all_goals conv=>whnf)
  refine⟨(k,Sort.siftDown Sort.ltInt (b-a) a k e),⟨by rw[sift_size,he],by dsimp only;omega,?_⟩,by dsimp only;omega,?_⟩
  ·rw[<-ht];rfl
  ·(exact leA)
theorem csRev(d:Array Int)(a b:Nat)(hab:a<b)(hb:b<=d.size)(hsz:d.size<1000000000000){K:KT}(hK:K (.tup []) [rowZ (Sort.reverseRange d a b)]):
  ACall Tryz.prog 351 [.os 0 1 0 d.size,.v (.int .i64 a),.v (.int .i64 b)] [rowZ d] K:=by
 refine ofsRev rfl rfl ?_
 (repeat' ((conv=>whnf);first|refine zG ?_|apply zA|(apply zI;intro h)|exact zT));(all_goals conv=>whnf)
 refine Lp.intro (Nat×Nat×Array Int) (fun g=>⟨1,[(0,rowZ g.2.2)],[(0,.os 0 1 0 d.size),(1,.v (.int .i64 a)),(2,.v (.int .i64 b)),(6,.v (.int .i64 g.1)),(7,.v (.int .i64 g.2.1))]⟩)
  (fun g=>g.2.2.size=d.size/\g.1<=g.2.1+1/\g.2.1<d.size/\Sort.reverseLoop g.1 g.2.1 g.2.2=Sort.reverseRange d a b) (fun g=>g.2.1-g.1) (a,b-1,d) ⟨rfl,by dsimp only;omega,by dsimp only;omega,rfl⟩ ?_ ?_
 ·dsimp only
  rw[Int.natCast_sub zo,aL]
  (exact leA)
 rintro⟨i,j,e⟩ ⟨he,hi,hj,ht⟩
 simp only at he hi hj ht⊢
 rw[Sort.reverseLoop]at ht
 rcases aB i j with h1|h1
 ·rw[aG h1]at ht
  have a1:i<e.size:=by omega
  have a2:j<e.size:=by omega
  have n1:i<d.size:=by omega
  have n2:j<d.size:=by omega
  (repeat' ((conv=>whnf);first|(with_reducible first|refine in_nat n1 ?_|refine in_nat n2 ?_|refine ix_z a1 ?_|refine ix_z a2 ?_)|(refine ix_zs zo a2 ?_)|refine zG ?_|apply zA|(apply zI;intro h)|exact zT));(all_goals conv=>whnf)
  refine⟨(i+1,j-1,Sort.swp e i j),⟨by rw[swp_size,he],by dsimp only;omega,by dsimp only;omega,ht⟩,by dsimp only;omega,?_⟩
  dsimp only
  rw[aN,aL,Int.natCast_sub zo,aL,swp0]
  (exact leA)
 ·rw[aE zo]at ht
  rw[<-ht]at hK
  (repeat' ((conv=>whnf);first|refine zG ?_|apply zA|(apply zI;intro h)|exact zT));(all_goals conv=>whnf)
  exact hK
theorem csPart(d:Array Int)(a b p:Nat)(hap:a<=p)(hpb:p<b)(hb:b<=d.size)(hsz:d.size<1000000000000){K:KT}(hK:K (.tup [.v (.int .i64 (Sort.partition Sort.ltInt d a b p).1),.sb (Sort.partition Sort.ltInt d a b p).2.1]) [rowZ (Sort.partition Sort.ltInt d a b p).2.2]):
  ACall Tryz.prog 355 [.os 0 1 0 d.size,.v (.int .i64 a),.v (.int .i64 b),.v (.int .i64 p)] [rowZ d] K:=by
 refine ACall.weak (ofsPart rfl rfl ?_)
 have na:a<d.size:=by omega
 have np:p<d.size:=by omega
 have hb1:(b:Int)-1=((b-1:Nat):Int):=by omega
 have ha1:(a:Int)+1=((a+1:Nat):Int):=by omega
 obtain⟨e,he⟩:∃e,e=Sort.swp d a p:=⟨_,rfl⟩
 have hes:e.size=d.size:=by rw[he,swp_size]
 have na':a<e.size:=by omega
 unfold Sort.partition at hK
 rw[<-he]at hK
 simp only at hK
 (repeat' ((conv=>whnf);first|(with_reducible first|refine in_nat na ?_|refine in_nat np ?_|refine ix_z na ?_|refine ix_z np ?_)|(refine ix_zw np fun z=>?_)|(rw[swp0,<-he])|refine zG ?_|apply zA|(apply zI;intro h)|exact zT));(all_goals conv=>whnf)
 obtain⟨i1,hi1⟩:∃i1,i1=Sort.scanUp (fun x=>Sort.ltInt x e[a]!) e (b-1) (a+1):=⟨_,rfl⟩
 have s1:=Sort.scanUp_spec (fun x=>Sort.ltInt x e[a]!) e (b-1) _ (a+1) rfl
 rw[<-hi1]at s1
 obtain⟨s1a,s1b0,_,s1d⟩:=s1
 have s1b:=s1b0 zo
 obtain⟨j1,hj1⟩:∃j1,j1=Sort.scanDown (fun x=> !Sort.ltInt x e[a]!) e i1 (b-1):=⟨_,rfl⟩
 have s2:=Sort.scanDown_spec (fun x=> !Sort.ltInt x e[a]!) e i1 (b-1)
 rw[<-hj1]at s2
 obtain⟨s2a,s2b0,_,s2d⟩:=s2
 have s2b:=s2b0 zo
 refine Jn.at ⟨1,[(0,rowZ e)],[(0,.os 0 1 0 d.size),(1,.v (.int .i64 a)),(10,.v (.int .i64 ((i1:Nat):Int))),(11,.v (.int .i64 (((b-1):Nat):Int)))]⟩ ?_ ?_
 ·rw[hi1]
  refine Lp.intro Nat (fun k=>⟨1,[(0,rowZ e)],[(0,.os 0 1 0 d.size),(1,.v (.int .i64 a)),(10,.v (.int .i64 k)),(11,.v (.int .i64 (((b-1):Nat):Int)))]⟩) (fun k=>(a+1)<=k/\k<=(b-1)+1/\Sort.scanUp (fun x=>Sort.ltInt x e[a]!) e (b-1) k=Sort.scanUp (fun x=>Sort.ltInt x e[a]!) e (b-1) (a+1)) (fun k=>(b-1)+1-k) (a+1) ⟨aM _,by omega,rfl⟩ ?_ ?_
  ·rw[ha1,hb1];(exact leA)
  intro k ⟨hk1,hk2,hk3⟩
  rw[Sort.scanUp]at hk3
  rcases aB (b-1) k with hjk|hjk
  ·rw[aE (by simp;omega)]at hk3
   (repeat' ((conv=>whnf);first|refine zG ?_|apply zA|(apply zI;intro h)|exact zT));(all_goals conv=>whnf)
   refine⟨(),trivial,?_⟩
   rw[<-hk3]
   (exact leA)
  ·have n1:k<d.size:=by omega
   have n1':k<e.size:=by omega
   (repeat' ((conv=>whnf);first|(with_reducible first|refine csLess _ _ ?_|refine in_nat n1 ?_|refine in_nat na ?_|refine ix_z n1' ?_|refine ix_z na' ?_)|refine zG ?_|apply zA|(apply zI;intro h)|exact zT));(all_goals conv=>whnf)
   all_goals first
    |(rw[aG (by simp[h];omega)]at hk3
      refine⟨k+1,⟨by omega,by omega,hk3⟩,by omega,?_⟩
      rw[aN,aL]
      (exact leA))
    |(rw[aE (by simp[h])]at hk3
      refine⟨(),trivial,?_⟩
      rw[<-hk3]
      (exact leA))
 refine Jn.at ⟨1,[(0,rowZ e)],[(0,.os 0 1 0 d.size),(1,.v (.int .i64 a)),(10,.v (.int .i64 ((i1:Nat):Int))),(11,.v (.int .i64 ((j1:Nat):Int)))]⟩ ?_ ?_
 ·rw[hj1]
  refine Lp.intro Nat (fun k=>⟨1,[(0,rowZ e)],[(0,.os 0 1 0 d.size),(1,.v (.int .i64 a)),(10,.v (.int .i64 ((i1:Nat):Int))),(11,.v (.int .i64 k))]⟩) (fun k=>i1<=k+1/\k<=(b-1)/\Sort.scanDown (fun x=> !Sort.ltInt x e[a]!) e i1 k=Sort.scanDown (fun x=> !Sort.ltInt x e[a]!) e i1 (b-1)) (fun k=>k) (b-1) ⟨by omega,aM _,rfl⟩ ?_ ?_
  ·(exact leA)
  intro k ⟨hk1,hk2,hk3⟩
  rcases aB k i1 with hjk|hjk
  ·have hk4:Sort.scanDown (fun x=> !Sort.ltInt x e[a]!) e i1 k=k:=by
    cases k with
    |zero=>rfl
    |succ k=>rw[Sort.scanDown,aE (by simp;omega)]
   rw[hk4]at hk3
   (repeat' ((conv=>whnf);first|refine zG ?_|apply zA|(apply zI;intro h)|exact zT));(all_goals conv=>whnf)
   refine⟨(),trivial,?_⟩
   rw[<-hk3]
   (exact leA)
  ·obtain⟨m,rfl⟩:∃m,k=m+1:=⟨k-1,by omega⟩
   have n1:m+1<d.size:=by omega
   have n1':m+1<e.size:=by omega
   have hm:((m+1:Nat):Int)-1=(m:Nat):=by omega
   rw[Sort.scanDown]at hk3
   (repeat' ((conv=>whnf);first|(with_reducible first|refine csLess _ _ ?_|refine in_nat n1 ?_|refine in_nat na ?_|refine ix_z n1' ?_|refine ix_z na' ?_)|refine zG ?_|apply zA|(apply zI;intro h)|exact zT));(all_goals conv=>whnf)
   all_goals first
    |(rw[aG (by simp[h];omega)]at hk3
      refine⟨m,⟨by omega,by omega,hk3⟩,by omega,?_⟩
      rw[hm]
      (exact leA))
    |(rw[aE (by simp[h])]at hk3
      refine⟨(),trivial,?_⟩
      rw[<-hk3]
      (exact leA))
 rw[<-hi1,<-hj1]at hK
 have ni:j1<d.size:=by omega
 have ni':j1<e.size:=by omega
 rcases aB j1 i1 with hij|hij
 ·rw[aG hij]at hK
  (repeat' ((conv=>whnf);first|(with_reducible first|refine in_nat na ?_|refine in_nat ni ?_|refine ix_z na' ?_|refine ix_z ni' ?_)|(refine ix_zw na' fun z=>?_)|(rw[swp0])|refine zG ?_|apply zA|(apply zI;intro h)|exact zT));(all_goals conv=>whnf)
  exact⟨_,Weak.tup2 Weak.refl Weak.bool,hK⟩
 ·have hlt:i1<j1:=by
   rcases aB i1 j1 with h9|h9
   ·exact h9
   ·have h8:j1=i1:=by omega
    rw[h8]at s2d
    have u:=s1d zo
    have v:=s2d (aM _) zo
    revert u v
    cases Sort.ltInt e[i1]! e[a]! <;>simp
  have nj:i1<d.size:=by omega
  have nj':i1<e.size:=by omega
  rw[aE zo]at hK
  simp only at hK
  have hi11:(i1:Int)+1=((i1+1:Nat):Int):=by omega
  have hj11:(j1:Int)-1=((j1-1:Nat):Int):=by omega
  (repeat' ((conv=>whnf);first|(with_reducible first|refine in_nat nj ?_|refine in_nat ni ?_|refine ix_z nj' ?_|refine ix_z ni' ?_)|(refine ix_zw ni' fun z=>?_)|(rw[swp0])|refine zG ?_|apply zA|(apply zI;intro h)|exact zT));(all_goals conv=>whnf)
  refine Lp.intro (Nat×Nat×Array Int) (fun g=>⟨1,[(0,rowZ g.2.2)],[(0,.os 0 1 0 d.size),(1,.v (.int .i64 a)),(10,.v (.int .i64 g.1)),(11,.v (.int .i64 g.2.1))]⟩) (fun g=>g.2.2.size=d.size/\a<g.1/\g.1<=g.2.1+1/\g.2.1<d.size/\Sort.partLoop Sort.ltInt a g.1 g.2.1 g.2.2=Sort.partLoop Sort.ltInt a (i1+1) (j1-1) (Sort.swp e i1 j1)) (fun g=>g.2.1+1-g.1) (i1+1,j1-1,Sort.swp e i1 j1) ⟨by rw[swp_size,hes],by dsimp only;omega,by dsimp only;omega,by dsimp only;omega,rfl⟩ ?_ ?_
  ·dsimp only
   rw[<-hi11,<-hj11]
   (exact leA)
  generalize Sort.partLoop Sort.ltInt a (i1+1) (j1-1) (Sort.swp e i1 j1)=T at*
  rintro⟨i,j,e⟩ ⟨hes,hai,hij,hjn,ht⟩
  simp only at hes hai hij hjn ht⊢
  rw[Sort.partLoop_eq]at ht
  have na':a<e.size:=by omega
  obtain⟨i1,hi1⟩:∃i1,i1=Sort.scanUp (fun x=>Sort.ltInt x e[a]!) e j i:=⟨_,rfl⟩
  have s1:=Sort.scanUp_spec (fun x=>Sort.ltInt x e[a]!) e j _ i rfl
  rw[<-hi1]at s1
  obtain⟨s1a,s1b0,_,s1d⟩:=s1
  have s1b:=s1b0 zo
  obtain⟨j1,hj1⟩:∃j1,j1=Sort.scanDown (fun x=> !Sort.ltInt x e[a]!) e i1 j:=⟨_,rfl⟩
  have s2:=Sort.scanDown_spec (fun x=> !Sort.ltInt x e[a]!) e i1 j
  rw[<-hj1]at s2
  obtain⟨s2a,s2b0,_,s2d⟩:=s2
  have s2b:=s2b0 zo
  refine Jn.at ⟨1,[(0,rowZ e)],[(0,.os 0 1 0 d.size),(1,.v (.int .i64 a)),(10,.v (.int .i64 ((i1:Nat):Int))),(11,.v (.int .i64 ((j:Nat):Int)))]⟩ ?_ ?_
  ·rw[hi1]
   refine Lp.intro Nat (fun k=>⟨1,[(0,rowZ e)],[(0,.os 0 1 0 d.size),(1,.v (.int .i64 a)),(10,.v (.int .i64 k)),(11,.v (.int .i64 ((j:Nat):Int)))]⟩) (fun k=>i<=k/\k<=j+1/\Sort.scanUp (fun x=>Sort.ltInt x e[a]!) e j k=Sort.scanUp (fun x=>Sort.ltInt x e[a]!) e j i) (fun k=>j+1-k) i ⟨aM _,by omega,rfl⟩ ?_ ?_
   ·(exact leA)
   intro k ⟨hk1,hk2,hk3⟩
   rw[Sort.scanUp]at hk3
   rcases aB j k with hjk|hjk
   ·rw[aE (by simp;omega)]at hk3
    (repeat' ((conv=>whnf);first|refine zG ?_|apply zA|(apply zI;intro h)|exact zT));(all_goals conv=>whnf)
    refine⟨(),trivial,?_⟩
    rw[<-hk3]
    (exact leA)
   ·have n1:k<d.size:=by omega
    have n1':k<e.size:=by omega
    (repeat' ((conv=>whnf);first|(with_reducible first|refine csLess _ _ ?_|refine in_nat n1 ?_|refine in_nat na ?_|refine ix_z n1' ?_|refine ix_z na' ?_)|refine zG ?_|apply zA|(apply zI;intro h)|exact zT));(all_goals conv=>whnf)
    all_goals first
     |(rw[aG (by simp[h];omega)]at hk3
       refine⟨k+1,⟨by omega,by omega,hk3⟩,by omega,?_⟩
       rw[aN,aL]
       (exact leA))
     |(rw[aE (by simp[h])]at hk3
       refine⟨(),trivial,?_⟩
       rw[<-hk3]
       (exact leA))
  refine Jn.at ⟨1,[(0,rowZ e)],[(0,.os 0 1 0 d.size),(1,.v (.int .i64 a)),(10,.v (.int .i64 ((i1:Nat):Int))),(11,.v (.int .i64 ((j1:Nat):Int)))]⟩ ?_ ?_
  ·rw[hj1]
   refine Lp.intro Nat (fun k=>⟨1,[(0,rowZ e)],[(0,.os 0 1 0 d.size),(1,.v (.int .i64 a)),(10,.v (.int .i64 ((i1:Nat):Int))),(11,.v (.int .i64 k))]⟩) (fun k=>i1<=k+1/\k<=j/\Sort.scanDown (fun x=> !Sort.ltInt x e[a]!) e i1 k=Sort.scanDown (fun x=> !Sort.ltInt x e[a]!) e i1 j) (fun k=>k) j ⟨by omega,aM _,rfl⟩ ?_ ?_
   ·(exact leA)
   intro k ⟨hk1,hk2,hk3⟩
   rcases aB k i1 with hjk|hjk
   ·have hk4:Sort.scanDown (fun x=> !Sort.ltInt x e[a]!) e i1 k=k:=by
     cases k with
     |zero=>rfl
     |succ k=>rw[Sort.scanDown,aE (by simp;omega)]
    rw[hk4]at hk3
    (repeat' ((conv=>whnf);first|refine zG ?_|apply zA|(apply zI;intro h)|exact zT));(all_goals conv=>whnf)
    refine⟨(),trivial,?_⟩
    rw[<-hk3]
    (exact leA)
   ·obtain⟨m,rfl⟩:∃m,k=m+1:=⟨k-1,by omega⟩
    have n1:m+1<d.size:=by omega
    have n1':m+1<e.size:=by omega
    have hm:((m+1:Nat):Int)-1=(m:Nat):=by omega
    rw[Sort.scanDown]at hk3
    (repeat' ((conv=>whnf);first|(with_reducible first|refine csLess _ _ ?_|refine in_nat n1 ?_|refine in_nat na ?_|refine ix_z n1' ?_|refine ix_z na' ?_)|refine zG ?_|apply zA|(apply zI;intro h)|exact zT));(all_goals conv=>whnf)
    all_goals first
     |(rw[aG (by simp[h];omega)]at hk3
       refine⟨m,⟨by omega,by omega,hk3⟩,by omega,?_⟩
       rw[hm]
       (exact leA))
     |(rw[aE (by simp[h])]at hk3
       refine⟨(),trivial,?_⟩
       rw[<-hk3]
       (exact leA))
  rw[<-hi1,<-hj1]at ht
  have ni:j1<d.size:=by omega
  have ni':j1<e.size:=by omega
  rcases aB j1 i1 with hx|hx
  ·rw[aG hx]at ht
   subst ht
   (repeat' ((conv=>whnf);first|(with_reducible first|refine in_nat na ?_|refine in_nat ni ?_|refine ix_z na' ?_|refine ix_z ni' ?_)|(refine ix_zw na' fun z=>?_)|(rw[swp0])|refine zG ?_|apply zA|(apply zI;intro h)|exact zT));(all_goals conv=>whnf)
   exact⟨_,Weak.tup2 Weak.refl Weak.bool,hK⟩
  ·have hlt:i1<j1:=by
    rcases aB i1 j1 with h9|h9
    ·exact h9
    ·have h8:j1=i1:=by omega
     rw[h8]at s2d
     have u:=s1d zo
     have v:=s2d (aM _) zo
     revert u v
     cases Sort.ltInt e[i1]! e[a]! <;>simp
   have nj:i1<d.size:=by omega
   have nj':i1<e.size:=by omega
   rw[aE zo]at ht
   have hi11:(i1:Int)+1=((i1+1:Nat):Int):=by omega
   have hj11:(j1:Int)-1=((j1-1:Nat):Int):=by omega
   (repeat' ((conv=>whnf);first|(with_reducible first|refine in_nat nj ?_|refine in_nat ni ?_|refine ix_z nj' ?_|refine ix_z ni' ?_)|(refine ix_zw ni' fun z=>?_)|(rw[swp0])|refine zG ?_|apply zA|(apply zI;intro h)|exact zT));(all_goals conv=>whnf)
   refine⟨(i1+1,j1-1,Sort.swp e i1 j1),⟨by rw[swp_size,hes],by dsimp only;omega,by dsimp only;omega,by dsimp only;omega,ht⟩,by dsimp only;omega,?_⟩
   dsimp only
   rw[<-hi11,<-hj11]
   (exact leA)
theorem csPeq(d:Array Int)(a b p:Nat)(hap:a<=p)(hpb:p<b)(hb:b<=d.size)(hsz:d.size<1000000000000){K:KT}(hK:K (.v (.int .i64 (Sort.partitionEqual Sort.ltInt d a b p).1)) [rowZ (Sort.partitionEqual Sort.ltInt d a b p).2]):
  ACall Tryz.prog 354 [.os 0 1 0 d.size,.v (.int .i64 a),.v (.int .i64 b),.v (.int .i64 p)] [rowZ d] K:=by
 refine ofsPeq rfl rfl ?_
 have na:a<d.size:=by omega
 have np:p<d.size:=by omega
 have hb1:(b:Int)-1=((b-1:Nat):Int):=by omega
 have ha1:(a:Int)+1=((a+1:Nat):Int):=by omega
 unfold Sort.partitionEqual at hK
 (repeat' ((conv=>whnf);first|(with_reducible first|refine in_nat na ?_|refine in_nat np ?_|refine ix_z na ?_|refine ix_z np ?_)|(refine ix_zw np fun z=>?_)|(rw[swp0])|refine zG ?_|apply zA|(apply zI;intro h)|exact zT));(all_goals conv=>whnf)
 refine Lp.intro (Nat×Nat×Array Int) (fun g=>⟨1,[(0,rowZ g.2.2)],[(0,.os 0 1 0 d.size),(1,.v (.int .i64 a)),(9,.v (.int .i64 g.1)),(10,.v (.int .i64 g.2.1))]⟩) (fun g=>g.2.2.size=d.size/\a<g.1/\g.1<=g.2.1+1/\g.2.1<d.size/\Sort.partEqLoop Sort.ltInt a g.1 g.2.1 g.2.2=Sort.partEqLoop Sort.ltInt a (a+1) (b-1) (Sort.swp d a p)) (fun g=>g.2.1+1-g.1) (a+1,b-1,Sort.swp d a p) ⟨by rw[swp_size],by dsimp only;omega,by dsimp only;omega,by dsimp only;omega,rfl⟩ ?_ ?_
 ·dsimp only
  rw[<-ha1,<-hb1]
  (exact leA)
 generalize Sort.partEqLoop Sort.ltInt a (a+1) (b-1) (Sort.swp d a p)=T at*
 rintro⟨i,j,e⟩ ⟨hes,hai,hij,hjn,ht⟩
 simp only at hes hai hij hjn ht⊢
 rw[Sort.partEqLoop_eq]at ht
 have na':a<e.size:=by omega
 obtain⟨i1,hi1⟩:∃i1,i1=Sort.scanUp (fun x=> !Sort.ltInt e[a]! x) e j i:=⟨_,rfl⟩
 have s1:=Sort.scanUp_spec (fun x=> !Sort.ltInt e[a]! x) e j _ i rfl
 rw[<-hi1]at s1
 obtain⟨s1a,s1b0,_,s1d⟩:=s1
 have s1b:=s1b0 zo
 obtain⟨j1,hj1⟩:∃j1,j1=Sort.scanDown (fun x=>Sort.ltInt e[a]! x) e i1 j:=⟨_,rfl⟩
 have s2:=Sort.scanDown_spec (fun x=>Sort.ltInt e[a]! x) e i1 j
 rw[<-hj1]at s2
 obtain⟨s2a,s2b0,_,s2d⟩:=s2
 have s2b:=s2b0 zo
 refine Jn.at ⟨1,[(0,rowZ e)],[(0,.os 0 1 0 d.size),(1,.v (.int .i64 a)),(9,.v (.int .i64 ((i1:Nat):Int))),(10,.v (.int .i64 ((j:Nat):Int)))]⟩ ?_ ?_
 ·rw[hi1]
  refine Lp.intro Nat (fun k=>⟨1,[(0,rowZ e)],[(0,.os 0 1 0 d.size),(1,.v (.int .i64 a)),(9,.v (.int .i64 k)),(10,.v (.int .i64 ((j:Nat):Int)))]⟩) (fun k=>i<=k/\k<=j+1/\Sort.scanUp (fun x=> !Sort.ltInt e[a]! x) e j k=Sort.scanUp (fun x=> !Sort.ltInt e[a]! x) e j i) (fun k=>j+1-k) i ⟨aM _,by omega,rfl⟩ ?_ ?_
  ·(exact leA)
  intro k ⟨hk1,hk2,hk3⟩
  rw[Sort.scanUp]at hk3
  rcases aB j k with hjk|hjk
  ·rw[aE (by simp;omega)]at hk3
   (repeat' ((conv=>whnf);first|refine zG ?_|apply zA|(apply zI;intro h)|exact zT));(all_goals conv=>whnf)
   refine⟨(),trivial,?_⟩
   rw[<-hk3]
   (exact leA)
  ·have n1:k<d.size:=by omega
   have n1':k<e.size:=by omega
   (repeat' ((conv=>whnf);first|(with_reducible first|refine csLess _ _ ?_|refine in_nat n1 ?_|refine in_nat na ?_|refine ix_z n1' ?_|refine ix_z na' ?_)|refine zG ?_|apply zA|(apply zI;intro h)|exact zT));(all_goals conv=>whnf)
   all_goals first
    |(rw[aG (by simp[h];omega)]at hk3
      refine⟨k+1,⟨by omega,by omega,hk3⟩,by omega,?_⟩
      rw[aN,aL]
      (exact leA))
    |(rw[aE (by simp[h])]at hk3
      refine⟨(),trivial,?_⟩
      rw[<-hk3]
      (exact leA))
 refine Jn.at ⟨1,[(0,rowZ e)],[(0,.os 0 1 0 d.size),(1,.v (.int .i64 a)),(9,.v (.int .i64 ((i1:Nat):Int))),(10,.v (.int .i64 ((j1:Nat):Int)))]⟩ ?_ ?_
 ·rw[hj1]
  refine Lp.intro Nat (fun k=>⟨1,[(0,rowZ e)],[(0,.os 0 1 0 d.size),(1,.v (.int .i64 a)),(9,.v (.int .i64 ((i1:Nat):Int))),(10,.v (.int .i64 k))]⟩) (fun k=>i1<=k+1/\k<=j/\Sort.scanDown (fun x=>Sort.ltInt e[a]! x) e i1 k=Sort.scanDown (fun x=>Sort.ltInt e[a]! x) e i1 j) (fun k=>k) j ⟨by omega,aM _,rfl⟩ ?_ ?_
  ·(exact leA)
  intro k ⟨hk1,hk2,hk3⟩
  rcases aB k i1 with hjk|hjk
  ·have hk4:Sort.scanDown (fun x=>Sort.ltInt e[a]! x) e i1 k=k:=by
    cases k with
    |zero=>rfl
    |succ k=>rw[Sort.scanDown,aE (by simp;omega)]
   rw[hk4]at hk3
   (repeat' ((conv=>whnf);first|refine zG ?_|apply zA|(apply zI;intro h)|exact zT));(all_goals conv=>whnf)
   refine⟨(),trivial,?_⟩
   rw[<-hk3]
   (exact leA)
  ·obtain⟨m,rfl⟩:∃m,k=m+1:=⟨k-1,by omega⟩
   have n1:m+1<d.size:=by omega
   have n1':m+1<e.size:=by omega
   have hm:((m+1:Nat):Int)-1=(m:Nat):=by omega
   rw[Sort.scanDown]at hk3
   (repeat' ((conv=>whnf);first|(with_reducible first|refine csLess _ _ ?_|refine in_nat n1 ?_|refine in_nat na ?_|refine ix_z n1' ?_|refine ix_z na' ?_)|refine zG ?_|apply zA|(apply zI;intro h)|exact zT));(all_goals conv=>whnf)
   all_goals first
    |(rw[aG (by simp[h];omega)]at hk3
      refine⟨m,⟨by omega,by omega,hk3⟩,by omega,?_⟩
      rw[hm]
      (exact leA))
    |(rw[aE (by simp[h])]at hk3
      refine⟨(),trivial,?_⟩
      rw[<-hk3]
      (exact leA))
 rw[<-hi1,<-hj1]at ht
 have ni:j1<d.size:=by omega
 have ni':j1<e.size:=by omega
 rcases aB j1 i1 with hx|hx
 ·rw[aG hx]at ht
  subst ht
  (repeat' ((conv=>whnf);first|refine zG ?_|apply zA|(apply zI;intro h)|exact zT));(all_goals conv=>whnf)
  exact hK
 ·have hlt:i1<j1:=by
   rcases aB i1 j1 with h9|h9
   ·exact h9
   ·have h8:j1=i1:=by omega
    rw[h8]at s2d
    have u:=s1d zo
    have v:=s2d (aM _) zo
    revert u v
    cases Sort.ltInt e[a]! e[i1]! <;>simp
  have nj:i1<d.size:=by omega
  have nj':i1<e.size:=by omega
  rw[aE zo]at ht
  have hi11:(i1:Int)+1=((i1+1:Nat):Int):=by omega
  have hj11:(j1:Int)-1=((j1-1:Nat):Int):=by omega
  (repeat' ((conv=>whnf);first|(with_reducible first|refine in_nat nj ?_|refine in_nat ni ?_|refine ix_z nj' ?_|refine ix_z ni' ?_)|(refine ix_zw ni' fun z=>?_)|(rw[swp0])|refine zG ?_|apply zA|(apply zI;intro h)|exact zT));(all_goals conv=>whnf)
  refine⟨(i1+1,j1-1,Sort.swp e i1 j1),⟨by rw[swp_size,hes],by dsimp only;omega,by dsimp only;omega,by dsimp only;omega,ht⟩,by dsimp only;omega,?_⟩
  dsimp only
  rw[<-hi11,<-hj11]
  (exact leA)
theorem shiftDown_size(lt:Int->Int->Bool):∀(j:Nat) (e:Array Int),(Sort.shiftDown lt j e).size=e.size
 |0,e=>rfl
 |j+1,e=>by
  rw[Sort.shiftDown]
  split
  ·rfl
  ·rw[shiftDown_size lt j,swp_size]
theorem shiftUp_size(lt:Int->Int->Bool)(b:Nat):∀(n j:Nat) (e:Array Int),b-j<=n->(Sort.shiftUp lt b j e).size=e.size:=by
 intro n
 induction n with
 |zero=>intro j e h;rw[Sort.shiftUp,aE zo]
 |succ n ih=>
  intro j e h
  rw[Sort.shiftUp]
  split
  ·split
   ·rfl
   ·rw[ih _ _ zo,swp_size]
  ·rfl
theorem scanSorted_spec'(lt:Int->Int->Bool)(e:Array Int)(b:Nat):∀(n i:Nat),b-i<=n->i<=Sort.scanSorted lt e b i/\(i<=b->Sort.scanSorted lt e b i<=b):=by
 intro n
 induction n with
 |zero=>intro i h;rw[Sort.scanSorted,aE (by simp;omega)];omega
 |succ n ih=>
  intro i h
  rw[Sort.scanSorted]
  split
  ·rename_i hc
   have hib:i<b:=by simp at hc;exact hc.1
   have:=ih (i+1) zo
   omega
  ·omega
theorem csPins(d:Array Int)(a b:Nat)(hab:a<b)(hb:b<=d.size)(hsz:d.size<1000000000000){K:KT}(hK:K (.sb (Sort.partialInsertionSort Sort.ltInt d a b).2) [rowZ (Sort.partialInsertionSort Sort.ltInt d a b).1]):
  ACall Tryz.prog 352 [.os 0 1 0 d.size,.v (.int .i64 a),.v (.int .i64 b)] [rowZ d] K:=by
 refine ACall.weak (ofsPins rfl rfl ?_)
 have ha1:(a:Int)+1=((a+1:Nat):Int):=by omega
 unfold Sort.partialInsertionSort at hK
 (repeat' ((conv=>whnf);first|refine zG ?_|apply zA|(apply zI;intro h)|exact zT));(all_goals conv=>whnf)
 refine Lp.intro (Nat×Nat×Array Int) (fun g=>⟨1,[(0,rowZ g.2.2)],[(0,.os 0 1 0 d.size),(1,.v (.int .i64 a)),(2,.v (.int .i64 b)),(7,.v (.int .i64 g.2.1)),(8,.v (.int .i64 g.1))]⟩)
  (fun g=>g.1<=5/\g.2.2.size=d.size/\a<g.2.1/\g.2.1<=b/\Sort.partialIns Sort.ltInt a b (5-g.1) g.2.1 g.2.2=Sort.partialIns Sort.ltInt a b 5 (a+1) d) (fun g=>5-g.1) (0,a+1,d) ⟨by dsimp only;omega,rfl,by dsimp only;omega,by dsimp only;omega,rfl⟩ ?_ ?_
 ·dsimp only
  rw[<-ha1]
  (exact leA)
 generalize Sort.partialIns Sort.ltInt a b 5 (a+1) d=T at*
 rintro⟨k,i0,e⟩ ⟨hk5,hes,hai0,hib0,ht⟩
 simp only at hk5 hes hai0 hib0 ht⊢
 rcases aB k 5 with hk|hk
 ·obtain⟨s,hs⟩:∃s,5-k=s+1:=⟨4-k,by omega⟩
  rw[hs,Sort.partialIns]at ht
  obtain⟨i,hi⟩:∃i,i=Sort.scanSorted Sort.ltInt e b i0:=⟨_,rfl⟩
  have hsp:=scanSorted_spec' Sort.ltInt e b _ i0 (aM _)
  rw[<-hi]at hsp ht
  obtain⟨hi1,hi2⟩:=hsp
  have hi2:=hi2 zo
  simp only at ht
  (repeat' ((conv=>whnf);first|refine zG ?_|apply zA|(apply zI;intro h)|exact zT));(all_goals conv=>whnf)
  refine Jn.at ⟨1,[(0,rowZ e)],[(0,.os 0 1 0 d.size),(1,.v (.int .i64 a)),(2,.v (.int .i64 b)),(7,.v (.int .i64 i)),(8,.v (.int .i64 k))]⟩ ?_ ?_
  ·rw[hi]
   refine Lp.intro Nat (fun m=>⟨1,[(0,rowZ e)],[(0,.os 0 1 0 d.size),(1,.v (.int .i64 a)),(2,.v (.int .i64 b)),(7,.v (.int .i64 m)),(8,.v (.int .i64 k))]⟩) (fun m=>i0<=m/\m<=b/\Sort.scanSorted Sort.ltInt e b m=Sort.scanSorted Sort.ltInt e b i0) (fun m=>b-m) i0 ⟨aM _,hib0,rfl⟩ ?_ ?_
   ·(exact leA)
   intro m ⟨hm1,hm2,hm3⟩
   rw[Sort.scanSorted]at hm3
   rcases aB m b with hmb|hmb
   ·have n1:m<d.size:=by omega
    have n1':m<e.size:=by omega
    have n2':m-1<e.size:=by omega
    (repeat' ((conv=>whnf);first|(with_reducible first|refine csLess _ _ ?_|refine in_nat n1 ?_)|(refine In.intro (m-1) zo zo ?_)|(with_reducible first|refine ix_z n1' ?_|refine ix_z n2' ?_)|refine zG ?_|apply zA|(apply zI;intro h)|exact zT));(all_goals conv=>whnf)
    all_goals first
     |(rw[aG (by simp[h];omega)]at hm3
       refine⟨m+1,⟨by omega,by omega,hm3⟩,by omega,?_⟩
       rw[aN,aL]
       (exact leA))
     |(rw[aE (by simp[h])]at hm3
       refine⟨(),trivial,?_⟩
       rw[<-hm3]
       (exact leA))
   ·rw[aE (by simp;omega)]at hm3
    (repeat' ((conv=>whnf);first|refine zG ?_|apply zA|(apply zI;intro h)|exact zT));(all_goals conv=>whnf)
    refine⟨(),trivial,?_⟩
    rw[<-hm3]
    (exact leA)
  rcases aB i b with hilt|hilt
  ·rw[aE zo]at ht
   rcases aB (b-a) 50 with h50|h50
   ·rw[aG h50]at ht
    subst ht
    (repeat' ((conv=>whnf);first|refine zG ?_|apply zA|(apply zI;intro h)|exact zT));(all_goals conv=>whnf)
    exact⟨_,Weak.bool,hK⟩
   ·rw[aE zo]at ht
    have n1:i<d.size:=by omega
    have n1':i<e.size:=by omega
    have n2':i-1<e.size:=by omega
    (repeat' ((conv=>whnf);first|(with_reducible refine in_nat n1 ?_)|(refine In.intro (i-1) zo zo ?_)|(with_reducible first|refine ix_z n1' ?_|refine ix_z n2' ?_)|(refine ix_zw n2' fun z=>?_)|(rw[swp0])|refine zG ?_|apply zA|(apply zI;intro h)|exact zT));(all_goals conv=>whnf)
    obtain⟨e1,he1⟩:∃e1,e1=Sort.swp e i (i-1):=⟨_,rfl⟩
    have he1s:e1.size=d.size:=by rw[he1,swp_size,hes]
    rw[<-he1]at ht⊢
    obtain⟨e2,he2⟩:∃e2,e2=if i-a≥2 then Sort.shiftDown Sort.ltInt (i-1) e1 else e1:=⟨_,rfl⟩
    have he2s:e2.size=d.size:=by
     rw[he2];split
     ·rw[shiftDown_size,he1s]
     ·exact he1s
    rw[<-he2]at ht
    have fin:∀e3,(e3=if b-i≥2 then Sort.shiftUp Sort.ltInt b (i+1) e2 else e2)->∃g':Nat×Nat×Array Int,(g'.1<=5/\g'.2.2.size=d.size/\a<g'.2.1/\g'.2.1<=b/\Sort.partialIns Sort.ltInt a b (5-g'.1) g'.2.1 g'.2.2=T)/\5-g'.1<5-k/\g'=(k+1,i,e3):=fun e3 h3=>by
     refine⟨(k+1,i,e3),⟨by dsimp only;omega,?_,by dsimp only;omega,by dsimp only;omega,?_⟩,by dsimp only;omega,rfl⟩
     ·dsimp only
      rw[h3];split
      ·rw[shiftUp_size _ _ _ _ _ (aM _),he2s]
      ·exact he2s
     ·rw[h3,<-ht]
      congr 1
      omega
    refine Jn.at ⟨1,[(0,rowZ e2)],[(0,.os 0 1 0 d.size),(1,.v (.int .i64 a)),(2,.v (.int .i64 b)),(7,.v (.int .i64 i)),(8,.v (.int .i64 k))]⟩ ?_ ?_
    ·have hd1:decide (2<=(i:Int)-a)=decide (i-a≥2):=by rw[decide_eq_decide];omega
     rcases aB (i-a) 2 with h2|h2
     ·rw[aE zo]at he2
      (repeat' ((conv=>whnf);first|refine zG ?_|apply zA|(apply zI;intro h)|exact zT));(all_goals conv=>whnf)
      refine⟨(),trivial,?_⟩
      rw[he2]
      (exact leA)
     ·rw[aG h2]at he2
      (repeat' ((conv=>whnf);first|refine zG ?_|apply zA|(apply zI;intro h)|exact zT));(all_goals conv=>whnf)
      refine Lp.intro (Nat×Array Int) (fun g=>⟨1,[(0,rowZ g.2)],[(0,.os 0 1 0 d.size),(1,.v (.int .i64 a)),(2,.v (.int .i64 b)),(7,.v (.int .i64 i)),(8,.v (.int .i64 k)),(9,.v (.int .i64 g.1))]⟩) (fun g=>g.1<=i/\g.2.size=d.size/\Sort.shiftDown Sort.ltInt g.1 g.2=e2) (fun g=>g.1) (i-1,e1) ⟨by dsimp only;omega,he1s,he2.symm⟩ ?_ ?_
      ·dsimp only
       rw[Int.natCast_sub zo,aL]
       (exact leA)
      rintro⟨m,f⟩ ⟨hm1,hm2,hm3⟩
      simp only at hm1 hm2 hm3⊢
      rcases m with _|m
      ·rw[Sort.shiftDown]at hm3
       subst hm3
       (repeat' ((conv=>whnf);first|refine zG ?_|apply zA|(apply zI;intro h)|exact zT));(all_goals conv=>whnf)
       refine⟨(),trivial,?_⟩
       (exact leA)
      ·rw[Sort.shiftDown]at hm3
       have m1:m+1<d.size:=by omega
       have m1':m+1<f.size:=by omega
       have m2:m<d.size:=by omega
       have m2':m<f.size:=by omega
       have hmm:((m+1:Nat):Int)-1=(m:Nat):=by omega
       (repeat' ((conv=>whnf);first|(with_reducible first|refine csLess _ _ ?_|refine in_nat m1 ?_|refine In.intro m hmm m2 ?_|refine ix_z m1' ?_|refine ix_z m2' ?_|refine ix_zs (Nat.succ_ne_self m) m2' ?_)|refine zG ?_|apply zA|(apply zI;intro h)|exact zT));(all_goals conv=>whnf)
       all_goals first
        |(rw[aG (by simp[h])]at hm3
          subst hm3
          refine⟨(),trivial,?_⟩
          (exact leA))
        |(rw[aE (by simp[h])]at hm3
          refine⟨(m,Sort.swp f (m+1) m),⟨by dsimp only;omega,by rw[swp_size,hm2],hm3⟩,by dsimp only;omega,?_⟩
          dsimp only
          rw[hmm,swp0]
          (exact leA))
    rcases aB (b-i) 2 with h2|h2
    ·obtain⟨g',h1,h2,rfl⟩:=fin e2 (by rw[aE zo])
     (repeat' ((conv=>whnf);first|refine zG ?_|apply zA|(apply zI;intro h)|exact zT));(all_goals conv=>whnf)
     refine⟨_,h1,h2,?_⟩
     dsimp only
     rw[aN,aL]
     (exact leA)
    ·(repeat' ((conv=>whnf);first|refine zG ?_|apply zA|(apply zI;intro h)|exact zT));(all_goals conv=>whnf)
     refine Lp.intro (Nat×Array Int) (fun g=>⟨1,[(0,rowZ g.2)],[(0,.os 0 1 0 d.size),(1,.v (.int .i64 a)),(2,.v (.int .i64 b)),(7,.v (.int .i64 i)),(8,.v (.int .i64 k)),(10,.v (.int .i64 g.1))]⟩) (fun g=>i+1<=g.1/\g.1<=b/\g.2.size=d.size/\Sort.shiftUp Sort.ltInt b g.1 g.2=Sort.shiftUp Sort.ltInt b (i+1) e2) (fun g=>b-g.1) (i+1,e2) ⟨by dsimp only;omega,by dsimp only;omega,he2s,rfl⟩ ?_ ?_
     ·dsimp only
      rw[aN,aL]
      (exact leA)
     rintro⟨m,f⟩ ⟨hm0,hm1,hm2,hm3⟩
     simp only at hm0 hm1 hm2 hm3⊢
     rw[Sort.shiftUp]at hm3
     rcases aB m b with hmb|hmb
     ·rw[aG hmb]at hm3
      have m1:m<d.size:=by omega
      have m1':m<f.size:=by omega
      have m2':m-1<f.size:=by omega
      (repeat' ((conv=>whnf);first|(with_reducible first|refine csLess _ _ ?_|refine in_nat m1 ?_)|(refine In.intro (m-1) zo zo ?_)|(with_reducible first|refine ix_z m1' ?_|refine ix_z m2' ?_)|(refine ix_zw m2' fun z=>?_)|refine zG ?_|apply zA|(apply zI;intro h)|exact zT));(all_goals conv=>whnf)
      all_goals first
       |(rw[aG (by simp[h])]at hm3
         obtain⟨g',h1,h2,rfl⟩:=fin f (by rw[aG zo,hm3])
         refine⟨_,h1,h2,?_⟩
         dsimp only
         rw[aN,aL]
         (exact leA))
       |(rw[aE (by simp[h])]at hm3
         refine⟨(m+1,Sort.swp f m (m-1)),⟨by dsimp only;omega,by dsimp only;omega,by rw[swp_size,hm2],hm3⟩,by dsimp only;omega,?_⟩
         dsimp only
         rw[aN,aL,swp0]
         (exact leA))
     ·rw[aE zo]at hm3
      obtain⟨g',h1,h2,rfl⟩:=fin f (by rw[aG zo,hm3])
      (repeat' ((conv=>whnf);first|refine zG ?_|apply zA|(apply zI;intro h)|exact zT));(all_goals conv=>whnf)
      refine⟨_,h1,h2,?_⟩
      dsimp only
      rw[aN,aL]
      (exact leA)
  ·rw[aG zo]at ht
   subst ht
   (repeat' ((conv=>whnf);first|refine zG ?_|apply zA|(apply zI;intro h)|exact zT));(all_goals conv=>whnf)
   exact⟨_,Weak.bool,hK⟩
 ·have:k=5:=by omega
  subst this
  simp only[dS,Sort.partialIns]at ht
  subst ht
  (repeat' ((conv=>whnf);first|refine zG ?_|apply zA|(apply zI;intro h)|exact zT));(all_goals conv=>whnf)
  exact⟨_,Weak.bool,hK⟩
noncomputable abbrev cntO(s:Int):Vm.Obj:=.box [.v (.int .i64 s)]
theorem csOrd2(d:Array Int)(a b:Nat)(s:Int)(ha:a<d.size)(hb:b<d.size)(hs0:0<=s)(hs:s<=1000){K:KT}
  (hK:∀(x y:Nat) (s':Int),(x=a/\y=b\/x=b/\y=a)->s<=s'->s'<=s+1->K (.tup [.v (.int .i64 x),.v (.int .i64 y)]) [rowZ d,cntO s']):
  ACall Tryz.prog 364 [.os 0 1 0 d.size,.v (.int .i64 a),.v (.int .i64 b),.op 1 0] [rowZ d,cntO s] K:=by
 refine ofsOrd2 rfl rfl ?_
 (repeat' ((conv=>whnf);first|(with_reducible first|refine csLess _ _ ?_|refine in_nat ha ?_|refine in_nat hb ?_|refine ix_z ha ?_|refine ix_z hb ?_)|refine zG ?_|apply zA|(apply zI;intro h)|exact zT));(all_goals conv=>whnf)
 ·exact hK b a (s+1) (.inr ⟨rfl,rfl⟩) zo (cF _)
 ·exact hK a b s (.inl ⟨rfl,rfl⟩) (cF _) zo
theorem csMed(d:Array Int)(a b c:Nat)(s:Int)(ha:a<d.size)(hb:b<d.size)(hc:c<d.size)(hs0:0<=s)(hs:s<=900){K:KT}
  (hK:∀(m:Nat) (s':Int),(m=a\/m=b\/m=c)->s<=s'->s'<=s+3->K (.v (.int .i64 m)) [rowZ d,cntO s']):
  ACall Tryz.prog 361 [.os 0 1 0 d.size,.v (.int .i64 a),.v (.int .i64 b),.v (.int .i64 c),.op 1 0] [rowZ d,cntO s] K:=by
 refine ofsMed rfl rfl ?_
 (repeat' ((conv=>whnf);first|refine zG ?_|apply zA|(apply zI;intro h)|exact zT));(all_goals conv=>whnf)
 refine csOrd2 d a b s ha hb hs0 zo fun x1 y1 s1 h1 l1 u1=>?_
 have hx1:x1<d.size:=by omega
 have hy1:y1<d.size:=by omega
 (repeat' ((conv=>whnf);first|refine zG ?_|apply zA|(apply zI;intro h)|exact zT));(all_goals conv=>whnf)
 refine csOrd2 d y1 c s1 hy1 hc zo zo fun x2 y2 s2 h2 l2 u2=>?_
 have hx2:x2<d.size:=by omega
 (repeat' ((conv=>whnf);first|refine zG ?_|apply zA|(apply zI;intro h)|exact zT));(all_goals conv=>whnf)
 refine csOrd2 d x1 x2 s2 hx1 hx2 zo zo fun x3 y3 s3 h3 l3 u3=>?_
 (repeat' ((conv=>whnf);first|refine zG ?_|apply zA|(apply zI;intro h)|exact zT));(all_goals conv=>whnf)
 exact hK y3 s3 zo zo zo
theorem csMedA(d:Array Int)(a:Nat)(s:Int)(ha0:1<=a)(ha:a+1<d.size)(hsz:d.size<1000000000000)(hs0:0<=s)(hs:s<=900){K:KT}
  (hK:∀(m:Nat) (s':Int),a<=m+1->m<=a+1->s<=s'->s'<=s+3->K (.v (.int .i64 m)) [rowZ d,cntO s']):
  ACall Tryz.prog 360 [.os 0 1 0 d.size,.v (.int .i64 a),.op 1 0] [rowZ d,cntO s] K:=by
 refine ofsMedA rfl rfl ?_
 have e1:(a:Int)-1=((a-1:Nat):Int):=by omega
 have e2:(a:Int)+1=((a+1:Nat):Int):=by omega
 (repeat' ((conv=>whnf);first|refine zG ?_|apply zA|(apply zI;intro h)|exact zT));(all_goals conv=>whnf)
 rw[e1,e2]
 refine csMed d (a-1) a (a+1) s zo zo zo hs0 hs fun m s' h l u=>?_
 (repeat' ((conv=>whnf);first|refine zG ?_|apply zA|(apply zI;intro h)|exact zT));(all_goals conv=>whnf)
 exact hK m s' zo zo l u
theorem csPiv(d:Array Int)(a b:Nat)(hab:a<b)(hb:b<=d.size)(hsz:d.size<1000000000000){K:KT}
  (hK:∀(p:Nat) (h:Int),a<=p->p<b->K (.tup [.v (.int .i64 p),.v (.int .i64 h)]) [rowZ d]):
  ACall Tryz.prog 350 [.os 0 1 0 d.size,.v (.int .i64 a),.v (.int .i64 b)] [rowZ d] K:=by
 refine ofsPiv rfl rfl ?_
 have q0:((b:Int)-a).tdiv 4=(((b-a)/4:Nat):Int):=by rw[cY zo];omega
 have hw:∀{K:Int->Prop},K (((b-a)/4:Nat):Int)->Wr .i64 (((b:Int)-a).tdiv 4) K:=fun h=>wr_i64 q0 zo zo h
 (repeat' ((conv=>whnf);first|(with_reducible refine hw ?_)|refine zG ?_|apply zA|(apply zI;intro h)|exact zT));(all_goals conv=>whnf)
 all_goals
  have hq1:4*((b-a)/4)<=b-a:=by omega
  have hq2:b-a<4*((b-a)/4)+4:=by omega
  clear hw q0
  generalize (b-a)/4=q at*
  have e1:(a:Int)+(q:Int)*1=((a+q:Nat):Int):=by omega
  have e2:(a:Int)+(q:Int)*2=((a+2*q:Nat):Int):=by omega
  have e3:(a:Int)+(q:Int)*3=((a+3*q:Nat):Int):=by omega
  rw[e2]
 ·rw[e1]
  refine csMedA d (a+q) 0 zo zo hsz zo zo fun i s1 hi1 hi2 l1 u1=>?_
  (repeat' ((conv=>whnf);first|refine zG ?_|apply zA|(apply zI;intro h)|exact zT));(all_goals conv=>whnf)
  refine csMedA d (a+2*q) s1 zo zo hsz zo zo fun j s2 hj1 hj2 l2 u2=>?_
  (repeat' ((conv=>whnf);first|refine zG ?_|apply zA|(apply zI;intro h)|exact zT));(all_goals conv=>whnf)
  rw[e3]
  refine csMedA d (a+3*q) s2 zo zo hsz zo zo fun k s3 hk1 hk2 l3 u3=>?_
  (repeat' ((conv=>whnf);first|refine zG ?_|apply zA|(apply zI;intro h)|exact zT));(all_goals conv=>whnf)
  refine csMed d i j k s3 zo zo zo zo zo fun m s4 hm l4 u4=>?_
  (repeat' ((conv=>whnf);first|refine zG ?_|apply zA|(apply zI;intro h)|exact zT));(all_goals conv=>whnf)
  all_goals exact hK m _ zo zo
 ·rw[e1,e3]
  refine csMed d (a+q) (a+2*q) (a+3*q) 0 zo zo zo zo zo fun m s4 hm l4 u4=>?_
  (repeat' ((conv=>whnf);first|refine zG ?_|apply zA|(apply zI;intro h)|exact zT));(all_goals conv=>whnf)
  all_goals exact hK m _ zo zo
 ·exact hK _ _ zo zo
theorem wrap_u64_range(e:Int):0<=IntKind.u64.wrap e/\IntKind.u64.wrap e<=18446744073709551615:=by
 simp only[IntKind.wrap,IntKind.signed,IntKind.bits]
 simp
 omega
theorem wr_u64_any{e:Int}{K:Int->Prop}(hK:∀r:Int,0<=r->r<=18446744073709551615->K r):Wr .u64 e K:=Wr.intro rfl (hK _ (wrap_u64_range e).1 (wrap_u64_range e).2)
theorem xor_range(a b:Int):0<=bBits .xor .u64 a b/\bBits .xor .u64 a b<=18446744073709551615:=wrap_u64_range _
theorem csNext(r:Int)(h0:0<=r)(h1:r<=18446744073709551615){K:KT}(hK:∀r':Int,0<=r'->r'<=18446744073709551615->K (.v (.int .u64 r')) [.box [.v (.int .u64 r')]]):
  ACall Tryz.prog 275 [.op 0 0] [.box [.v (.int .u64 r)]] K:=by
 refine ofsNext rfl rfl ?_
 (repeat' ((conv=>whnf);first|(refine wr_u64_any fun z _ _=>?_)|refine zG ?_|apply zA|(apply zI;intro h)|exact zT));(all_goals conv=>whnf)
 exact hK _ (xor_range _ _).1 (xor_range _ _).2
theorem fd64(x s:Nat)(hs:s=8\/s=16\/s=32):(x:Int).fdiv (2^min (Int.toNat (s:Int)) IntKind.u64.bits)=((x/2^s:Nat):Int):=by
 have e:(2^min (Int.toNat (s:Int)) IntKind.u64.bits:Int)=((2^s:Nat):Int):=by
  rcases hs with rfl|rfl|rfl<;>rfl
 rw[e,Int.fdiv_eq_ediv_of_nonneg _ (Int.natCast_nonneg _)]
 exact(Int.natCast_ediv _ _).symm
theorem f32(x:Nat):(x:Int).fdiv (2^min (Int.toNat 32) IntKind.u64.bits)=((x/2^32:Nat):Int):=fd64 x 32 zx
theorem f16(x:Nat):(x:Int).fdiv (2^min (Int.toNat 16) IntKind.u64.bits)=((x/2^16:Nat):Int):=fd64 x 16 zx
theorem f8(x:Nat):(x:Int).fdiv (2^min (Int.toNat 8) IntKind.u64.bits)=((x/2^8:Nat):Int):=fd64 x 8 zx
theorem csLen64(x:Nat)(hx:x<1000000000000){K:KT}(hK:∀n:Nat,IsLen x n->K (.v (.int .i64 n)) []):ACall Tryz.prog 209 [.v (.int .u64 x)] [] K:=by
 refine ofsLen64 rfl rfl ?_
 (repeat' ((conv=>whnf);first|refine zG ?_|apply zA|(apply zI;intro h)|exact zT));(all_goals conv=>whnf)
 ·rename_i h1 h3
  rw[f32]at h3
  rw[f32,f16]at h
  omega
 ·rename_i h1 h3
  rw[f32]at h3
  omega
 ·rename_i h1 h3
  rw[f32]at h3
  have h2:=h
  rw[f32]at h2
  refine wr_u8 (x/2^32/2^8) (by rw[f32,f8]) zo ?_
  (repeat' ((conv=>whnf);first|(with_reducible refine tab_in zk zo fun b hb hb2=>?_)|refine zG ?_|apply zA|(apply zI;intro h)|exact zT));(all_goals conv=>whnf)
  have e:(32+8+(b.toNat:Int))=((b.toNat+8+32:Nat):Int):=by omega
  unfold one?
  rw[e]
  exact hK _ (isLen_shift (isLen_shift hb zo) zo)
 ·rename_i h1 h3
  rw[f32]at h3
  have h2:=h
  rw[f32]at h2
  refine wr_u8 (x/2^32) (by rw[f32]) zo ?_
  (repeat' ((conv=>whnf);first|(with_reducible refine tab_in zk zo fun b hb hb2=>?_)|refine zG ?_|apply zA|(apply zI;intro h)|exact zT));(all_goals conv=>whnf)
  have e:(32+(b.toNat:Int))=((b.toNat+32:Nat):Int):=by omega
  unfold one?
  rw[e]
  exact hK _ (isLen_shift hb zo)
 ·have h2:=h
  rw[f16]at h2
  refine wr_u8 (x/2^16/2^8) (by rw[f16,f8]) zo ?_
  (repeat' ((conv=>whnf);first|(with_reducible refine tab_in zk zo fun b hb hb2=>?_)|refine zG ?_|apply zA|(apply zI;intro h)|exact zT));(all_goals conv=>whnf)
  have e:(0+16+8+(b.toNat:Int))=((b.toNat+8+16:Nat):Int):=by omega
  unfold one?
  rw[e]
  exact hK _ (isLen_shift (isLen_shift hb zo) zo)
 ·have h2:=h
  rw[f16]at h2
  refine wr_u8 (x/2^16) (by rw[f16]) zo ?_
  (repeat' ((conv=>whnf);first|(with_reducible refine tab_in zk zo fun b hb hb2=>?_)|refine zG ?_|apply zA|(apply zI;intro h)|exact zT));(all_goals conv=>whnf)
  have e:(0+16+(b.toNat:Int))=((b.toNat+16:Nat):Int):=by omega
  unfold one?
  rw[e]
  exact hK _ (isLen_shift hb zo)
 ·have h2:=h
  refine wr_u8 (x/2^8) (by rw[f8]) zo ?_
  (repeat' ((conv=>whnf);first|(with_reducible refine tab_in zk zo fun b hb hb2=>?_)|refine zG ?_|apply zA|(apply zI;intro h)|exact zT));(all_goals conv=>whnf)
  have e:(0+8+(b.toNat:Int))=((b.toNat+8:Nat):Int):=by omega
  unfold one?
  rw[e]
  exact hK _ (isLen_shift hb zo)
 ·have h2:=h
  refine wr_u8 x rfl zo ?_
  (repeat' ((conv=>whnf);first|(with_reducible refine tab_in zk zo fun b hb hb2=>?_)|refine zG ?_|apply zA|(apply zI;intro h)|exact zT));(all_goals conv=>whnf)
  have e:(0+(b.toNat:Int))=((b.toNat:Nat):Int):=by omega
  unfold one?
  rw[e]
  exact hK _ hb
theorem csLen(x:Nat)(hx:x<1000000000000){K:KT}(hK:∀n:Nat,IsLen x n->K (.v (.int .i64 n)) []):ACall Tryz.prog 116 [.v (.int .u64 x)] [] K:=by
 refine ofsLen rfl rfl ?_
 (repeat' ((conv=>whnf);first|(with_reducible refine csLen64 x hx fun n hn=>?_)|refine zG ?_|apply zA|(apply zI;intro h)|exact zT));(all_goals conv=>whnf)
 exact hK n hn
theorem len_le{x n:Nat}(hx:x<1000000000000)(h:IsLen x n):n<=40:=by
 rcases h.2 with h1|h1
 ·omega
 ·rcases aB 40 n with h2|h2
  ·have:=eY (n:=2) zo (show 40<=n-1 by omega)
   omega
  ·exact h2
theorem csPow2(x:Nat)(hx:x<1000000000000){K:KT}(hK:∀n:Nat,IsLen x n->K (.v (.int .u64 ((2^n:Nat):Int))) []):ACall Tryz.prog 274 [.v (.int .i64 x)] [] K:=by
 refine ofsPow2 rfl rfl ?_
 (repeat' ((conv=>whnf);first|(with_reducible refine csLen x hx fun n hn=>?_)|refine zG ?_|apply zA|(apply zI;intro h)|exact zT));(all_goals conv=>whnf)
 have h40:=len_le hx hn
 have e:(1:Int)*2^min ((n:Int)).toNat IntKind.u64.bits=((2^n:Nat):Int):=by
  rw[Int.one_mul,fB,show IntKind.u64.bits=64 from rfl,fJ zo,Int.natCast_pow]
  rfl
 have hp:=eY (n:=2) zo h40
 refine wr_u64 e (Int.natCast_nonneg _) zo ?_
 (repeat' ((conv=>whnf);first|refine zG ?_|apply zA|(apply zI;intro h)|exact zT));(all_goals conv=>whnf)
 exact hK n hn
theorem and_range{r m:Nat}(hm:m<18446744073709551616):∃o:Nat,bBits .and .u64 (r:Int) (m:Int)=(o:Int)/\o<=m:=by
 have h0:(BitVec.ofInt 64 (m:Int)).toNat=m:=by
  rw[BitVec.toNat_ofInt]
  omega
 have h1:(BitVec.ofInt 64 (r:Int)&&&BitVec.ofInt 64 (m:Int)).toNat<=m:=by
  rw[BitVec.toNat_and,h0]
  exact Nat.and_le_right
 refine⟨(BitVec.ofInt 64 (r:Int)&&&BitVec.ofInt 64 (m:Int)).toNat,?_,h1⟩
 show IntKind.u64.wrap ((BitVec.ofInt 64 (r:Int)&&&BitVec.ofInt 64 (m:Int)).toNat:Int)=_
 generalize (BitVec.ofInt 64 (r:Int)&&&BitVec.ofInt 64 (m:Int)).toNat=z at h1
 simp only[IntKind.wrap,IntKind.signed,IntKind.bits]
 simp
 omega
theorem csBrk(d:Array Int)(a b:Nat)(hab:a<b)(hb:b<=d.size)(hsz:d.size<1000000000000){K:KT}(hK:∀e,Sort.PermIn a b d e->K (.tup []) [rowZ e]):
  ACall Tryz.prog 349 [.os 0 1 0 d.size,.v (.int .i64 a),.v (.int .i64 b)] [rowZ d] K:=by
 refine ofsBrk rfl rfl ?_
 have q0:((b:Int)-a).tdiv 4=(((b-a)/4:Nat):Int):=by rw[cY zo];omega
 have hw:∀{K:Int->Prop},K (((b-a)/4:Nat):Int)->Wr .i64 (((b:Int)-a).tdiv 4) K:=fun h=>wr_i64 q0 zo zo h
 have hba:(b:Int)-a=((b-a:Nat):Int):=by omega
 have hpow:∀{K:KT},(∀n:Nat,IsLen (b-a) n->K (.v (.int .u64 ((2^n:Nat):Int))) [])->ACall Tryz.prog 274 [.v (.int .i64 ((b:Int)-a))] [] K:=fun h=>by rw[hba];exact csPow2 (b-a) zo h
 (repeat' ((conv=>whnf);first|(with_reducible first|refine hw ?_|refine hpow fun n hn=>?_)|refine zG ?_|apply zA|(apply zI;intro h)|exact zT));(all_goals conv=>whnf)
 ·have h8:=h
  have hp2:2^n<=2*(b-a):=by
   rcases hn.2 with h1|h1
   ·subst h1;omega
   ·rcases n with _|n
    ·omega
    ·rw[Nat.add_sub_cancel]at h1
     rw[Nat.pow_succ]
     omega
  have hp1:=hn.1
  have hp0:=fK n
  have hq1:4*((b-a)/4)<=b-a:=by omega
  have hq2:b-a<4*((b-a)/4)+4:=by omega
  clear hpow q0
  generalize (b-a)/4=q at*
  generalize 2^n=M at*
  refine Lp.intro (Nat×Int×Array Int) (fun g=>⟨2,[(0,rowZ g.2.2),(1,.box [.v (.int .u64 g.2.1)])],[(0,.os 0 1 0 d.size),(1,.v (.int .i64 a)),(6,.v (.int .i64 ((b:Int)-a))),(7,.op 1 0),(8,.v (.int .u64 ((M:Nat):Int))),(9,.v (.int .i64 g.1))]⟩)
   (fun g=>a+2*q<=g.1+1/\g.1<=a+2*q+2/\0<=g.2.1/\g.2.1<=18446744073709551615/\Sort.PermIn a b d g.2.2) (fun g=>a+2*q+2-g.1) (a+2*q-1,(b:Int)-a,d) ⟨by dsimp only;omega,by dsimp only;omega,by dsimp only;omega,by dsimp only;omega,Sort.permIn_refl d a b⟩ ?_ ?_
  ·dsimp only
   rw[show((a+2*q-1:Nat):Int)=(a:Int)+(q:Int)*2-1 by omega]
   (exact leA)
  rintro⟨i,r,e⟩ ⟨hi1,hi2,hr1,hr2,hpe⟩
  simp only at hi1 hi2 hr1 hr2 hpe⊢
  have hes:e.size=d.size:=hpe.1
  rcases aB (a+2*q+1) i with h1|h1
  ·(repeat' ((conv=>whnf);first|(with_reducible refine hw ?_)|refine zG ?_|apply zA|(apply zI;intro h)|exact zT));(all_goals conv=>whnf)
   exact hK e hpe
  ·(repeat' ((conv=>whnf);first|(with_reducible first|refine hw ?_|refine csNext r hr1 hr2 fun r' h0 h1=>?_)|refine zG ?_|apply zA|(apply zI;intro h)|exact zT));(all_goals conv=>whnf)
   obtain⟨r',rfl⟩:=cP h0
   have hM1:(M:Int)-1=((M-1:Nat):Int):=by omega
   obtain⟨o,ho,hom⟩:=and_range (r:=r') (m:=M-1) zo
   rw[hM1,ho]
   have n1:i<d.size:=by omega
   have n1':i<e.size:=by omega
   have step:∀o':Nat,o'<b-a->∃g':Nat×Int×Array Int,(a+2*q<=g'.1+1/\g'.1<=a+2*q+2/\0<=g'.2.1/\g'.2.1<=18446744073709551615/\Sort.PermIn a b d g'.2.2)/\a+2*q+2-g'.1<a+2*q+2-i/\g'=(i+1,(r':Int),Sort.swp e i (a+o')):=fun o' ho'=>
    ⟨(i+1,(r':Int),Sort.swp e i (a+o')),⟨by dsimp only;omega,by dsimp only;omega,h0,h1,Sort.permIn_trans _ _ _ _ _ hpe (Sort.swp_permIn _ _ _ _ _ zo zo zo zo zo)⟩,by dsimp only;omega,rfl⟩
   rcases aB o (b-a)with hoL|hoL
   ·have n2':a+o<e.size:=by omega
    obtain⟨g',k1,k2,rfl⟩:=step o hoL
    (repeat' ((conv=>whnf);first|(with_reducible refine in_nat n1 ?_)|(refine In.intro (a+o) zo zo ?_)|(with_reducible first|refine ix_z n1' ?_|refine ix_z n2' ?_)|(refine ix_zw n2' fun z=>?_)|(rw[swp0])|refine zG ?_|apply zA|(apply zI;intro h)|exact zT));(all_goals conv=>whnf)
    refine⟨_,k1,k2,?_⟩
    dsimp only
    rw[aN,aL]
    (exact leA)
   ·have n2':a+(o-(b-a))<e.size:=by omega
    obtain⟨g',k1,k2,rfl⟩:=step (o-(b-a)) zo
    (repeat' ((conv=>whnf);first|(with_reducible refine in_nat n1 ?_)|(refine In.intro (a+(o-(b-a))) zo zo ?_)|(with_reducible first|refine ix_z n1' ?_|refine ix_z n2' ?_)|(refine ix_zw n2' fun z=>?_)|(rw[swp0])|refine zG ?_|apply zA|(apply zI;intro h)|exact zT));(all_goals conv=>whnf)
    refine⟨_,k1,k2,?_⟩
    dsimp only
    rw[aN i,aL]
    (exact leA)
 ·exact hK d (Sort.permIn_refl d a b)
end Go.Proofs.YtbdikofefjljoaaGreatDoor
