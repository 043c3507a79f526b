/- Lemmas. -/
import Derived.Test.YtgicddadddhonaaGreatDoorM34
import Derived.Test.YtgicddadddhonaaGreatDoorM35
set_option linter.unusedVariables false
set_option linter.unusedSimpArgs false
set_option maxRecDepth 100000
set_option maxHeartbeats 4000000
namespace Go.Proofs.YtgicddadddhonaaGreatDoor
open Go Go.Vm
theorem H6{t:Tp}{i:Nt}(h:trP t i=0):tJ t i=0:=by
 unfold trP at h;split at h
 ·rename_i h1;exact absurd h h1
 rename_i h1;exact Decidable.byContradiction h1
theorem aAI{t:Tp}{i:Nt}(h:tJ t i=0):∀p,p∈i.pubs->0<=jX t.edges p.edge:=by
 have hcn:=uN h;rw[tJ,aH hcn,aAG]at h;simp only at h;split at h
 ·rename_i hn;exact absurd h hn
 split at h
 ·rename_i hn;exact absurd h hn
 split at h
 ·rename_i hn;exact absurd h hn
 split at h
 ·rename_i hn;exact absurd h hn
 rename_i hn;intro p hp;have:=Fj (Decidable.byContradiction fun h=>hn h) p hp;split at this
 ·cases this
 ·omega
theorem Lw{l:List Ed}{s:ByteArray}(h:0<=jX l s):∃(n:Nat) (e:Ed),jX l s=n/\l[n]? =some e/\sEq e.name s=true:=by
 obtain⟨n,hn⟩:∃n:Nat,jX l s=n:=⟨(jX l s).toNat,by omega⟩
 obtain⟨e,he,hp⟩:=Gt (p:=fun d:Ed=>sEq d.name s) hn;exact⟨n,e,hn,he,hp⟩
theorem Pr{t:Tp}{i:Nt}(ht:GTop t)(hi:ENt i):TrB t i:=by
 have h1:=ht.d6;have h2:=ht.e5;refine⟨by omega,by omega,?_,Vr hi,hi.pa,hi.ha⟩;rcases ht.pools with h|h|h|h<;>rw[h]<;>simp
theorem Ub(ns:Nat)(hns:ns<=4)(raw:List Int)(pos:Nat)(hp:pos<=raw.length)(hr:raw.length<=9223372036854775807){K:KT}
  (hK:∀(t:Tp) (i:Nt) (m:Int) (pos':Nat),GTop t->t.devs.length<=2->ENt i->pos'<=raw.length->K (.tup [jT t,jC i,.v (.int .i64 m)]) [iO raw pos']):
  AC 10 [.op 0 0,.v (.int .i64 2),.v (.int .i64 ns)] [iO raw pos] K:=by
 refine aDu rfl rfl ?_;(repeat' ((conv=>whnf);first|(with_reducible first|refine aMn raw _ zw hr fun t p1 ht hd hp1=>?_|refine aBp ns hns raw _ _ zw zw hr fun i p2 hi hp2=>?_|refine aKI raw _ zw hr fun m p3 m0 m1 hp3=>?_)|refine zG ?_|apply zA|intro h|exact zT));all_goals conv=>whnf
 exact hK t i m p3 ht hd hi hp3
theorem aLm(raw:List Int)(src port:Int)(s0:0<=src)(s1:src<=4294967295)(q0:0<=port)(q1:port<=65535)(hr:raw.length<=9223372036854775807):AC 4 [.lst (raw.map encI),.v (.int .u32 src),.v (.int .u16 port)] [] Yes:=by
 have h4:∀{pos:Nat} {K:KT} (hp:pos<=raw.length),(∀(t:Tp) (i:Nt) (m:Int) (pos':Nat),GTop t->t.devs.length<=2->ENt i->pos'<=raw.length->K (.tup [jT t,jC i,.v (.int .i64 m)]) [iO raw pos'])->
  AC 10 [.op 0 0,.v (.int .i64 2),.v (.int .i64 0)] [iO raw pos] K:=fun hp h=>Ub 0 zd raw _ hp hr h
 refine aDr rfl rfl ?_;(repeat' ((conv=>whnf);first|(with_reducible first|refine c9 raw ?_|refine h4 (aK _) fun t i m p1 ht htd hi hp1=>?_)|refine zG ?_|apply zA|intro h|exact zT));all_goals conv=>whnf
 have hT:=Pr ht hi;have he5:=ht.e5;have hp1:=hi.p1;have hck:=fun {K}=>@Rm t i hT K;have hcr:=fun {K}=>@Rl t i hT K;by_cases h0:trP t i=0
 case neg=>
  generalize trP t i=c at*;(repeat' ((conv=>whnf);first|(with_reducible first|refine hck ?_|refine hcr ?_|refine tB ?_)|refine zG ?_|apply zA|intro h|exact zT));all_goals conv=>whnf
  all_goals first
   |exact .inl rfl
   |exact .inr rfl
   |(exfalso;omega)
 by_cases hpe:i.pubs=[]
 case pos=>
  rw[h0]at hck hcr;have hl0:(i.pubs.map jU).length=0:=by rw[hpe];rfl
  (repeat' ((conv=>whnf);first|(with_reducible first|refine hck ?_|refine hcr ?_|refine tB ?_)|refine zG ?_|apply zA|intro h|exact zT));all_goals conv=>whnf
  all_goals first
   |exact .inl rfl
   |exact .inr rfl
   |(exfalso;omega)
 case neg=>
  obtain⟨p,hpu⟩:∃p,i.pubs=[p]:=by
   generalize i.pubs=ps at*
   match ps,hpe,hp1 with
   |[],hpe,_=>exact absurd rfl hpe
   |[p],_,_=>exact⟨p,rfl⟩
   |_::_::_,_,hp1=>simp only[aB]at hp1;omega
  have hpm1:(i.pubs.map jU).length=1:=by rw[hpu];rfl
  obtain⟨hc,hn⟩:=uN (H6 h0);have hok:=ntB_iff.1 hn;have hpm:p∈i.pubs:=by rw[hpu];simp
  have hpb:=J9 (hok.p p hpm) (hT.pa p hpm);obtain⟨n,e,hn1,he,hnm⟩:=Lw (aAI (H6 h0) p hpm);have hnl:=(aP.1 he).1;have hse:=(Hu hc he p.edge).1 hn1;have hkn:pG t i n=0:=by rw[pG,aF zo,aF zo]
  have hmv:wQ t i n=qB i e:=by rw[wQ,aH hkn,dY,Y9,he]
  obtain⟨a1,a2,a3⟩:=Xo h0 hpu hpb hse s0 s1 q0 q1;have hms:(qB i e).length<1000000000:=by
   unfold qB;rw[aA];exact Nat.lt_of_le_of_lt (dK ..) zo
  have o1:(⟨src,p.addr,p.proto,port,p.port⟩:Hd).Ok:=⟨s0,s1,hpb.a0,hpb.a1,hpb.o0,hpb.o1,q0,q1,hpb.t0,hpb.t1⟩
  have o2:(⟨src,p.real,p.proto,port,p.rport⟩:Hd).Ok:=⟨s0,s1,hpb.r0,hpb.r1,hpb.o0,hpb.o1,q0,q1,hpb.q0,hpb.q1⟩
  have hed:∀{K:KT},K (.v (.int .i64 n)) []->AC 20 [jT t,.v (.string p.edge)] [] K:=fun h=>vY t p.edge zo (by rw[hn1];exact h);have hmo:∀{K:KT},K (.tup [lQ (qB i e),.v (.int .i64 0)]) []->AC 13 [jT t,jC i,.v (.int .i64 n)] [] K:=fun h=>Ou t i hT n (by rw[hmv,hkn];exact h);have ha1:∀{K:KT},K (.tup [lC ⟨src,p.real,p.proto,port,p.rport⟩,.sb true]) []->AC 17 [lQ (qB i e),lC ⟨src,p.addr,p.proto,port,p.port⟩] [] K:=fun h=>Jw _ _ o1 hms (by rw[a1];exact h);have ha2:∀{K:KT},K (.tup [lC zHd,.sb false]) []->AC 17 [lQ (qB i e),lC ⟨src,p.real,p.proto,port,p.rport⟩] [] K:=fun h=>Jw _ _ o2 hms (by rw[a2];exact h);have hat:∀{K:KT},K (.v (.int .i64 (mY t p.real))) []->AC 21 [jT t,.v (.int .u32 p.real)] [] K:=fun h=>aBc t p.real zo h;rw[h0]at hck;obtain⟨b0,b1,b2,b3,b4,b5,b6,b7,b8,b9⟩:=hpb;have hp0:i.pubs[0]? =some p:=by rw[hpu];rfl
  have hpl:0<i.pubs.length:=by rw[hpu];exact Nat.zero_lt_one
  (repeat' ((conv=>whnf);first|(with_reducible first|refine hck ?_|refine hed ?_|refine hmo ?_)|(refine ha1 ?_)|(refine ha2 ?_)|(with_reducible first|refine hat ?_|refine tB ?_)|(refine iB 0 rfl (by rw[aA];exact hpl) ?_)|(with_reducible first|refine iH hp0 ?_|refine aWg rfl zo zo ?_|refine aKZ rfl zo zo ?_)|(refine Wd ⟨src,p.real,p.proto,port,p.rport⟩ ?_)|refine zG ?_|apply zA|intro h|exact zT));all_goals conv=>whnf
  all_goals first
   |exact .inl rfl
   |exact .inr rfl
   |(exfalso;simp only[aA]at*;omega)
end Go.Proofs.YtgicddadddhonaaGreatDoor
