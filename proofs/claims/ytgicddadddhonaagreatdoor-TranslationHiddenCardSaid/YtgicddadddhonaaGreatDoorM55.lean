/- Lemmas. -/
import Derived.Test.YtgicddadddhonaaGreatDoorProg
import Derived.Test.YtgicddadddhonaaGreatDoorM54
import Derived.Test.YtgicddadddhonaaGreatDoorM62
set_option linter.unusedVariables false
set_option linter.unusedSimpArgs false
set_option maxRecDepth 100000
set_option maxHeartbeats 4000000
noncomputable section
namespace Go.Proofs.YtgicddadddhonaaGreatDoor
open Go Go.Vm
def aUh:Ctx:={N:=22,plan:=p1 6 Ad pn}
abbrev aQc:=ofD aUh Tryz.func35
def aGl:Ctx:={N:=148,own:=oz [9,10,15,33,14],plan:=p1 4 A4 (p1 6 Av (p1 17 (lp 8 [16,19,21,23,24,27,29]) (p1 24 (lp 6 [12,15,17]) pn))),cut:=oz [13]}
abbrev aDo:=ofD aGl Tryz.func7
theorem Ws{h:Hd}(ho:h.Ok):iV (hdB h)=.agg [.v (.int .u32 h.src),.v (.int .u32 h.src),.v (.int .u32 h.dst),.v (.int .u32 h.dst),.v (.int .u32 h.pro),.v (.int .u32 h.pro),.v (.int .u32 h.sp),.v (.int .u32 h.sp),.v (.int .u32 h.dp),.v (.int .u32 h.dp)]:=by
 obtain⟨⟨a0,b0⟩,⟨a1,b1⟩,⟨a2,b2⟩,⟨a3,b3⟩,a4,b4⟩:=Tz ho;show AV.agg [.v (.int .u32 (mkR h.src h.src).lo),.v (.int .u32 (mkR h.src h.src).hi),.v (.int .u32 (mkR h.dst h.dst).lo),.v (.int .u32 (mkR h.dst h.dst).hi),.v (.int .u32 (mkR h.pro h.pro).lo),.v (.int .u32 (mkR h.pro h.pro).hi),.v (.int .u32 (mkR h.sp h.sp).lo),.v (.int .u32 (mkR h.sp h.sp).hi),.v (.int .u32 (mkR h.dp h.dp).lo),.v (.int .u32 (mkR h.dp h.dp).hi)]=_;rw[a0,b0,a1,b1,a2,b2,a3,b3,a4,b4]
theorem aCo{p:Hn}(h0:0<=p.addr)(h1:p.addr<=4294967295){h:Hd}(ho:h.Ok):iV (aCn p h)=.agg [.v (.int .u32 p.addr),.v (.int .u32 p.addr),.v (.int .u32 h.dst),.v (.int .u32 h.dst),.v (.int .u32 h.pro),.v (.int .u32 h.pro),.v (.int .u32 (if h.pro=6\/h.pro=17\/h.pro=1 then p.ports else zR).lo),.v (.int .u32 (if h.pro=6\/h.pro=17\/h.pro=1 then p.ports else zR).hi),.v (.int .u32 h.dp),.v (.int .u32 h.dp)]:=by
 obtain⟨_,⟨a1,b1⟩,⟨a2,b2⟩,_,a4,b4⟩:=Tz ho;show AV.agg [.v (.int .u32 (mkR p.addr p.addr).lo),.v (.int .u32 (mkR p.addr p.addr).hi),.v (.int .u32 (mkR h.dst h.dst).lo),.v (.int .u32 (mkR h.dst h.dst).hi),.v (.int .u32 (mkR h.pro h.pro).lo),.v (.int .u32 (mkR h.pro h.pro).hi),.v (.int .u32 (if h.pro=6\/h.pro=17\/h.pro=1 then p.ports else zR).lo),.v (.int .u32 (if h.pro=6\/h.pro=17\/h.pro=1 then p.ports else zR).hi),.v (.int .u32 (mkR h.dp h.dp).lo),.v (.int .u32 (mkR h.dp h.dp).hi)]=_;rw[kI h0 h1 h0 h1,kP h0 h1 h0 h1,a1,b1,a2,b2,a4,b4]
theorem To{a b c d e f g h i j:Int}{K:Bool->Prop}(hk:K true):EqV Tryz.prog 57 [.v (.int .u32 a),.v (.int .u32 b),.v (.int .u32 c),.v (.int .u32 d),.v (.int .u32 e),.v (.int .u32 f),.v (.int .u32 g),.v (.int .u32 h),.v (.int .u32 i),.v (.int .u32 j)]
  [.v (.int .u32 a),.v (.int .u32 b),.v (.int .u32 c),.v (.int .u32 d),.v (.int .u32 e),.v (.int .u32 f),.v (.int .u32 g),.v (.int .u32 h),.v (.int .u32 i),.v (.int .u32 j)] K:=by
 refine yT (b:=((a==a&&(b==b&&true))&&((c==c&&(d==d&&true))&&((e==e&&(f==f&&true))&&((g==g&&(h==h&&true))&&((i==i&&(j==j&&true))&&true)))))) rfl rfl zk zk ?_;simpa using hk
theorem aKw(h:Hd)(ho:h.Ok){K:KT}(hK:K (iV (hdB h)) []):AC 35 [lC h] [] K:=by
 refine aQc rfl rfl ?_;rw[Ws ho]at hK;(repeat' ((conv=>whnf);first|(with_reducible first|refine cvPt h ho ?_|refine Lp.times 6 ?_)|(refine kH zd ?_)|(refine iC rfl ?_)|refine zG ?_|apply zA|intro h|exact zT));all_goals conv=>whnf
 all_goals exact hK
theorem aFe{t:Tp}{i:Nt}(h:tJ t i=0):∀x,x∈i.hids->0<=jX t.edges x.edge/\(kJ t i x.grp).2=0:=by
 have hcn:=uN h;rw[tJ,aH hcn,aAG]at h;simp only at h;split at h
 ·rename_i hn;exact absurd h hn
 split at h
 ·rename_i hn;exact absurd h hn
 split at h
 ·rename_i hn;exact absurd h hn
 split at h
 ·rename_i hn;exact absurd h hn
 intro x hx;have:=Fj h x hx;split at this
 ·cases this
 ·exact⟨by omega,this⟩
theorem aKa{t:Tp}{i:Nt}(h:trP t i=0):∀e,e∈t.edges->(uE t i e).length<=256:=by
 unfold trP at h;split at h
 ·rename_i h1;exact absurd h h1
 split at h
 ·rename_i h1;exact absurd h h1
 split at h
 ·rename_i h1;exact absurd h h1
 split at h
 ·cases h
 rename_i hn;intro e he;refine Decidable.byContradiction fun hh=>hn (bR.2 ⟨e,he,decide_eq_true zo⟩)
theorem aLk(raw:List Int)(g0:Hd)(og:g0.Ok)(hr:raw.length<=9223372036854775807):AC 7 [.lst (raw.map encI),lC g0] [] Yes:=by
 have h4:∀{pos:Nat} {K:KT} (hp:pos<=raw.length),(∀(t:Tp) (i:Nt) (m:Int) (pos':Nat),GTop t->t.devs.length<=2->ENt i->pos'<=raw.length->K (.tup [jT t,jC i,.v (.int .i64 m)]) [iO raw pos'])->
  AC 10 [.op 0 0,.v (.int .i64 2),.v (.int .i64 0)] [iO raw pos] K:=fun hp h=>Ub 0 zd raw _ hp hr h
 refine aDo rfl rfl ?_;(repeat' ((conv=>whnf);first|(with_reducible first|refine c9 raw ?_|refine h4 (aK _) fun t i m p1 ht htd hi hp1=>?_)|refine zG ?_|apply zA|intro h|exact zT));all_goals conv=>whnf
 have hT:=Pr ht hi;have he5:=ht.e5;have hh1:=hi.h1;have hck:=fun {K}=>@Rm t i hT K;have hcr:=fun {K}=>@Rl t i hT K;by_cases h0:trP t i=0
 case neg=>
  generalize trP t i=c at*;(repeat' ((conv=>whnf);first|(with_reducible first|refine hck ?_|refine hcr ?_|refine tB ?_)|refine zG ?_|apply zA|intro h|exact zT));all_goals conv=>whnf
  all_goals first
   |exact .inl rfl
   |exact .inr rfl
   |(exfalso;omega)
 by_cases hpe:i.hids=[]
 case pos=>
  rw[h0]at hck hcr;have hl0:(i.hids.map jY).length=0:=by rw[hpe];rfl
  (repeat' ((conv=>whnf);first|(with_reducible first|refine hck ?_|refine hcr ?_|refine tB ?_)|refine zG ?_|apply zA|intro h|exact zT));all_goals conv=>whnf
  all_goals first
   |exact .inl rfl
   |exact .inr rfl
   |(exfalso;omega)
 case neg=>
  obtain⟨p,hpu⟩:∃p,i.hids=[p]:=by
   generalize i.hids=ps at*
   match ps,hpe,hh1 with
   |[],hpe,_=>exact absurd rfl hpe
   |[p],_,_=>exact⟨p,rfl⟩
   |_::_::_,_,hh1=>simp only[aB]at hh1;omega
  have hpm1:(i.hids.map jY).length=1:=by rw[hpu];rfl
  obtain⟨hc,hn⟩:=uN (H6 h0);have hok:=ntB_iff.1 hn;have hpm:p∈i.hids:=by rw[hpu];simp
  have hpb:HnB p:=by
   have:=hok.h p hpm;unfold hnB at this;simp only[aJ,aL]at this;exact⟨by omega,by omega⟩
  obtain⟨ha0,ha1⟩:=hT.ha p hpm;obtain⟨hx0,hg0⟩:=aFe (H6 h0) p hpm;obtain⟨n,e,hn1,he,hnm⟩:=Lw hx0;have hnl:=(aP.1 he).1;have hse:=(Hu hc he p.edge).1 hn1;have hkn:pG t i n=0:=by rw[pG,aF zo,aF zo]
  have hmv:Kv t i n=(kJ t i p.grp).1.flatMap (oI p):=by
   rw[Kv,aH hkn,dY,Yw,he];show uE t i e=_;unfold uE;rw[hpu,cS,List.flatMap_nil,bG,aH hse];rfl
  have hfew:((kJ t i p.grp).1.flatMap (oI p)).length<=256:=by
   have h1:=aKa h0 e (aG he);rw[<-hmv,Kv,aH hkn,dY,Yw,he];exact h1
  have hG:∀r,r∈(kJ t i p.grp).1->r.lo<=r.hi:=(aCa t i p.grp hg0).1.1;have hgl:=uD hc hT.bi p.grp;have hgv:Dy t i p.grp=kJ t i p.grp:=by unfold Dy;rw[aH ⟨hc,hn⟩]
  have hgr:∀{K:KT},K (.tup [iR (kJ t i p.grp).1,.v (.int .i64 0)]) []->AC 31 [jT t,jC i,.v (.string p.grp)] [] K:=fun h=>Wb t zo i hT.bi p.grp (by rw[hgv,hg0];exact h);have hed:∀{K:KT},K (.v (.int .i64 n)) []->AC 20 [jT t,.v (.string p.edge)] [] K:=fun h=>vY t p.edge zo (by rw[hn1];exact h);have hhi:∀{K:KT},K (.tup [nN ((kJ t i p.grp).1.flatMap (oI p)),.v (.int .i64 0)]) []->AC 30 [jT t,jC i,.v (.int .i64 n)] [] K:=fun h=>W5 t i hT n (by rw[hmv,hkn];exact h);have haL:∀x,x∈(kJ t i p.grp).1.flatMap (oI p)->0<=x.addr/\x.addr<=4294967295:=fun x hx=>by
   obtain⟨r,hr,hx⟩:=eA.1 hx;obtain⟨k,hk,rfl⟩:=bQ.1 hx;exact⟨ha0,ha1⟩
  have hdl:∀(h:Hd) (ho:h.Ok) {K:KT},K (.tup [iN [if has (kJ t i p.grp).1 h.src=true then aCn p h else hdB h],.v (.int .i64 0)]) []->AC 34 [nN ((kJ t i p.grp).1.flatMap (oI p)),iN [hdB h]] [] K:=fun h ho K hK=>aVm _ zo haL [hdB h] zx (by rw[aHi hpb hG ho];exact hK);rw[h0]at hck;have hp0:i.hids[0]? =some p:=by rw[hpu];rfl
  have hpl:0<i.hids.length:=by rw[hpu];exact Nat.zero_lt_one
  have hil:initS.length<=1000000:=by decide
  clear hcr hmv;generalize (kJ t i p.grp).1=G at*;generalize G.flatMap (oI p)=L at*;(repeat' ((conv=>whnf);first|(with_reducible first|refine hck ?_|refine hed ?_|refine hhi ?_|refine hgr ?_)|(refine iB 0 rfl (by rw[aA];exact hpl) ?_)|(with_reducible refine iH hp0 ?_)|refine zG ?_|apply zA|intro h|exact zT));all_goals conv=>whnf
  all_goals first
   |(exfalso;simp only[aA]at*;omega)
   |skip
  all_goals
   refine iD Hd (fun q=>⟨2,[(0,.box (E8 q)),(1,.box (Qk p))],[(3,.op 0 0),(9,.op 1 0),(10,nN L),(12,iR G)]⟩) (fun q=>q.Ok) ?_ ?_
   ·(repeat' ((conv=>whnf);first|(with_reducible first|refine jI raw _ _ zd zw hr fun m1 p5 hm1 hp5=>?_|refine N2 ?_|refine N9 raw _ initS hil zw hr fun g p6 og6 hp6=>?_|refine nM raw _ zw hr fun a p7 a0 a1 hp7=>?_)|refine zG ?_|apply zA|intro h|exact zT));all_goals conv=>whnf
    all_goals first
     |(refine⟨g0,og,?_⟩
       exact leA)
     |(refine⟨⟨a,g.dst,g.pro,g.sp,g.dp⟩,⟨a0,a1,og6.d0,og6.d1,og6.p0,og6.p1,og6.a0,og6.a1,og6.b0,og6.b1⟩,?_⟩
       exact leA)
   intro h oh;have hdl:=fun {K}=>@hdl h oh K;have hb:=Ws oh;have hw:=aCo ha0 ha1 oh;by_cases hh:has G h.src=true
   ·have hct:∀{K:KT},K (.sb true) []->AC 36 [iR G,.v (.int .u32 h.src)] [] K:=fun hk=>c34 G h.src zo (by rw[hh];exact hk);rw[aH hh]at hdl;have hdl:∀{K:KT},K (.tup [.lst [.agg [.v (.int .u32 p.addr),.v (.int .u32 p.addr),.v (.int .u32 h.dst),.v (.int .u32 h.dst),.v (.int .u32 h.pro),.v (.int .u32 h.pro),.v (.int .u32 (if h.pro=6\/h.pro=17\/h.pro=1 then p.ports else zR).lo),.v (.int .u32 (if h.pro=6\/h.pro=17\/h.pro=1 then p.ports else zR).hi),.v (.int .u32 h.dp),.v (.int .u32 h.dp)]],.v (.int .i64 0)]) []->AC 34 [nN L,.lst [.agg [.v (.int .u32 h.src),.v (.int .u32 h.src),.v (.int .u32 h.dst),.v (.int .u32 h.dst),.v (.int .u32 h.pro),.v (.int .u32 h.pro),.v (.int .u32 h.sp),.v (.int .u32 h.sp),.v (.int .u32 h.dp),.v (.int .u32 h.dp)]]] [] K:=fun {K} hk=>by
     have:=@hdl K (by
      show K (.tup [.lst [iV (aCn p h)],.v (.int .i64 0)]) [];rw[hw];exact hk)
     have e:iN [hdB h]=.lst [iV (hdB h)]:=rfl;rw[e,hb]at this;exact this
    have hof:∀{K:KT},K (.agg [.v (.int .u32 h.src),.v (.int .u32 h.src),.v (.int .u32 h.dst),.v (.int .u32 h.dst),.v (.int .u32 h.pro),.v (.int .u32 h.pro),.v (.int .u32 h.sp),.v (.int .u32 h.sp),.v (.int .u32 h.dp),.v (.int .u32 h.dp)]) []->AC 35 [lC h] [] K:=fun hk=>aKw h oh (by rw[hb];exact hk);by_cases hpr:h.pro=6\/h.pro=17\/h.pro=1
    ·rw[aH hpr]at hdl;(repeat' ((conv=>whnf);first|(refine hof ?_)|(refine hdl ?_)|(refine hct ?_)|(with_reducible refine tB ?_)|(refine iB 0 rfl zx ?_)|(refine iC rfl ?_)|(refine To ?_)|(refine kH zd ?_)|refine zG ?_|apply zA|intro h|exact zT));all_goals conv=>whnf
     all_goals first
      |exact .inl rfl
      |exact .inr rfl
      |(exfalso;omega)
    ·rw[aF hpr]at hdl;(repeat' ((conv=>whnf);first|(refine hof ?_)|(refine hdl ?_)|(refine hct ?_)|(with_reducible refine tB ?_)|(refine iB 0 rfl zx ?_)|(refine iC rfl ?_)|(refine To ?_)|(refine kH zd ?_)|refine zG ?_|apply zA|intro h|exact zT));all_goals conv=>whnf
     all_goals first
      |exact .inl rfl
      |exact .inr rfl
      |(exfalso;omega)
   ·have hct:∀{K:KT},K (.sb false) []->AC 36 [iR G,.v (.int .u32 h.src)] [] K:=fun hk=>c34 G h.src zo (by rw[bY.2 hh];exact hk);rw[aF hh]at hdl;have hdl:∀{K:KT},K (.tup [.lst [.agg [.v (.int .u32 h.src),.v (.int .u32 h.src),.v (.int .u32 h.dst),.v (.int .u32 h.dst),.v (.int .u32 h.pro),.v (.int .u32 h.pro),.v (.int .u32 h.sp),.v (.int .u32 h.sp),.v (.int .u32 h.dp),.v (.int .u32 h.dp)]],.v (.int .i64 0)]) []->AC 34 [nN L,.lst [.agg [.v (.int .u32 h.src),.v (.int .u32 h.src),.v (.int .u32 h.dst),.v (.int .u32 h.dst),.v (.int .u32 h.pro),.v (.int .u32 h.pro),.v (.int .u32 h.sp),.v (.int .u32 h.sp),.v (.int .u32 h.dp),.v (.int .u32 h.dp)]]] [] K:=fun {K} hk=>by
     have:=@hdl K (by
      show K (.tup [.lst [iV (hdB h)],.v (.int .i64 0)]) [];rw[hb];exact hk)
     have e:iN [hdB h]=.lst [iV (hdB h)]:=rfl;rw[e,hb]at this;exact this
    have hof:∀{K:KT},K (.agg [.v (.int .u32 h.src),.v (.int .u32 h.src),.v (.int .u32 h.dst),.v (.int .u32 h.dst),.v (.int .u32 h.pro),.v (.int .u32 h.pro),.v (.int .u32 h.sp),.v (.int .u32 h.sp),.v (.int .u32 h.dp),.v (.int .u32 h.dp)]) []->AC 35 [lC h] [] K:=fun hk=>aKw h oh (by rw[hb];exact hk);(repeat' ((conv=>whnf);first|(refine hof ?_)|(refine hdl ?_)|(refine hct ?_)|(with_reducible refine tB ?_)|(refine iB 0 rfl zx ?_)|(refine iC rfl ?_)|(refine To ?_)|(refine kH zd ?_)|refine zG ?_|apply zA|intro h|exact zT));all_goals conv=>whnf
    all_goals first
     |exact .inl rfl
     |exact .inr rfl
     |(exfalso;omega)
end Go.Proofs.YtgicddadddhonaaGreatDoor
