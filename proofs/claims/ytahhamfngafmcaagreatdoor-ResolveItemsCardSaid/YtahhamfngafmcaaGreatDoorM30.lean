/- A group has exactly the addresses of its items: the statement ResolveItemsCardSaid holds, for every input, without a condition of ours (its card ties the package-level variables to the program's text). -/
import Derived.Test.YtahhamfngafmcaaGreatDoorM29
set_option linter.unusedVariables false
set_option linter.unusedSimpArgs false
set_option maxRecDepth 100000
set_option maxHeartbeats 4000000
namespace Go.Proofs.YtahhamfngafmcaaGreatDoor
open Go Go.Vm
theorem enTop3(raw:List Int)(pos:Nat)(hp:pos<=raw.length)(hr:raw.length<=9223372036854775807){K:KT}
  (hK:∀(t:Tp) (pos':Nat),GTop t->t.devs.length<=3->pos'<=raw.length->K (.agg [.os 1 5 0 t.devs.length,.os 2 3 0 t.links.length,.os 3 6 0 t.edges.length,.os 4 2 0 t.pools.length,.v (.int .i64 t.tol)]) [tapeO raw pos',.arr 5 (t.devs.map encD),.arr 3 (t.links.map encL),.arr 6 (t.edges.map encE),.arr 2 (t.pools.map encP)]):
  ACall Tryz.prog 10 [.op 0 0,.v (.int .i64 3)] [tapeO raw pos] K:=cnTop raw pos 3 (by decide) hp hr fun t p h1 h2 h3=>hK t p h1 (by omega) h3
theorem enInt1(raw:List Int)(pos:Nat)(t:Tp)(hg:GTop t)(hp:pos<=raw.length)(hr:raw.length<=9223372036854775807){K:KT}
  (hK:∀(i:Nt) (pos':Nat),ENt i->pos'<=raw.length->K (encNt i) [tapeO raw pos']):
  ACall Tryz.prog 11 [.op 0 0,encT t,.v (.int .i64 1)] [tapeO raw pos] K:=enInt raw pos t hg.e5 (by have:=hg.d6;omega) (tpn_top hg) 1 (by decide) hp hr hK
theorem in_edge{t:Tp}{u:Int}{K:Nat->Prop}(h:0<=edgeAt t u)(hk:∀n:Nat,edgeAt t u=n->n<t.edges.length->K n):In (edgeAt t u) (t.edges.map encE).length K:=by
 obtain⟨n,hn⟩:=Int.eq_ofNat_of_zero_le h
 obtain⟨x,hx,hp⟩:=firstIx_get (p:=fun e:Ed=> !e.pl&&e.pf.has u) hn
 have hl:=(List.getElem?_eq_some_iff.1 hx).1
 exact In.intro n hn (by rw[List.length_map];exact hl) (hk n hn hl)
theorem ix_getM{α:Type}{f:α->AV}{l:List α}{n:Nat}{K:AV->Prop}(h:n<l.length)(hk:∀e,l[n]? =some e->K (f e)):Ix (l.map f) n K:=
 ix_map (List.getElem?_eq_getElem h) (hk _ (List.getElem?_eq_getElem h))
abbrev inV(f b:Bool):AV:=match f with
 |true=>.sb b
 |false=>.v (.bool b)
theorem bool_ex{m:Nat}{Q R L:Nat×Bool×Bool->Prop}(b f:Bool)(hL:L (m,b,f))(hR:R (m,b,f))(hQ:Q (m,b,f)):∃g:Nat×Bool×Bool,Q g/\R g/\L g:=⟨_,hQ,hR,hL⟩
theorem cItems(raw:List Int)(a:Int)(hr:raw.length<=9223372036854775807)(a0:0<=a)(a1:a<=4294967295):ACall Tryz.prog 3 [.lst (raw.map encI),.v (.int .u32 a)] [] Yes:=by
 refine ofl17Itm rfl rfl ?_
 (repeat' ((conv=>whnf);first|(with_reducible refine c9 raw ?_)|(refine enTop3 raw 0 (Nat.zero_le _) hr fun t p1 ht hd hp1=>?_)|(with_reducible first|refine enInt1 raw _ t ht (by with_reducible assumption) hr fun i p2 hi hp2=>?_|refine nNext raw _ _ (by simp only[List.length_map];have:=hi.gen.few.g3;omega) (by with_reducible assumption) hr fun m p3 hm hp3=>?_|refine in_nat (by have:=hi.g1;simp only[List.length_map]at*;omega) ?_|refine ix_map_any (f:=encDf) (by have:=hi.g1;simp only[List.length_map]at*;omega) fun g hgm=>?_)|refine zG ?_|apply zA|(apply zI;intro h)|exact zT));(all_goals conv=>whnf)
 all_goals
  have hb:=bnd_ent hi
  have hc:=comp_top ht
  have he5:=ht.e5
  have hcg:∀(nm:ByteArray) {K:KT},K (.tup [encRs (grpP t i nm).1,.v (.int .i64 (grpP t i nm).2)]) []->ACall Tryz.prog 13 [encT t,encNt i,.v (.string nm)] [] K:=fun nm K h=>
   crGroup t (by omega) i hb nm (by rw[grpV,if_pos ⟨hc,ntB_true hi.ok⟩];exact h)
  obtain⟨n,hgn⟩:=List.mem_iff_getElem?.1 hgm
  have hgd:=hi.ok.g.all n g hgn
  have hlaw:=items_law (t:=t) hi.ok.g hgn
  have hcall:=fun {K} h=>@hcg g.name K h
  have herr:=grpE_err t i.grps g.name
  have hPl:=grpP_len hc hb g.name
  by_cases h0:(grpE t i.grps g.name).1=0
  rotate_left
  ·rw[grpP,if_neg h0]at hcall
   generalize (grpE t i.grps g.name).1=e at*
   (repeat' ((conv=>whnf);first|(with_reducible refine hcall ?_)|refine zG ?_|apply zA|(apply zI;intro h)|exact zT));(all_goals conv=>whnf)
   all_goals first
    |exact .inl rfl
    |exact .inr rfl
    |(exact .inl (congrArg AV.sb (decide_eq_true (by simp only at*;omega))))
    |trace_state
  obtain⟨hk3,hmem⟩:=hlaw h0
  have hcan:=canO_has (grpE t i.grps g.name).2
  rw[grpP,if_pos h0]at hcall hPl
  simp only at hPl hcall
  clear hlaw herr
  generalize hE:(grpE t i.grps g.name).2=E at*
  generalize canO (has E)=c at*
  obtain⟨hc1,hc2⟩:=hcan
  have hi2:=hgd.hi
  (repeat' ((conv=>whnf);first|(with_reducible refine hcall ?_)|(refine cnAddr raw _ (by with_reducible assumption) hr fun b p b0 b1 hp=>?_)|refine zG ?_|apply zA|(apply zI;intro h)|exact zT));(all_goals conv=>whnf)
  rename_i x1 y1 u1 v1 w1 x2 y2 u2 v2 w2
  obtain⟨hs,hhs⟩:∃hs:List Int,hs=[a,x1,x2,b]:=⟨_,rfl⟩
  have hsl:hs.length=4:=by rw[hhs];rfl
  have hmem2:∀u,has c u=true↔∃y,y∈g.items/\inItem t i.grps y u:=fun u=>by rw[hc2];exact hmem u
  refine Lp.intro Nat (fun k=>⟨9,[(8,.arr 1 (hs.map fun v=>AV.v (.int .u32 v))),(7,.box [.v (.string g.name),.lst (g.items.map encIt)]),(6,boxNt i),(5,boxT t)],[(6,.op 5 0),(7,.op 6 0),(8,.op 7 0),(9,encRs c),(11,.os 8 1 0 4),(12,.v (.int .i64 k))]⟩) (fun k=>k<=4) (fun k=>4-k) 0 (Nat.zero_le _) ?_ ?_
  ·rw[hhs]
   (exact leA)
  clear hcall
  intro k hk
  rcases Nat.lt_or_ge k 4 with hk4|hk4
  ·obtain⟨v,hv⟩:∃v,hs[0+k]? =some v:=⟨_,List.getElem?_eq_getElem (by omega)⟩
   (repeat' ((conv=>whnf);first|refine zG ?_|apply zA|(apply zI;intro h)|exact zT));(all_goals conv=>whnf)
   refine Lp.intro (Nat×Bool×Bool) (fun q=>⟨9,[(8,.arr 1 (hs.map fun v=>AV.v (.int .u32 v))),(7,.box [.v (.string g.name),.lst (g.items.map encIt)]),(6,boxNt i),(5,boxT t)],[(6,.op 5 0),(7,.op 6 0),(8,.op 7 0),(9,encRs c),(11,.os 8 1 0 4),(12,.v (.int .i64 k)),(13,inV q.2.2 q.2.1),(14,.v (.int .i64 q.1))]⟩) (fun q=>q.1<=g.items.length/\(q.2.1=true↔∃y,y∈g.items.take q.1/\inItem t i.grps y v)) (fun q=>g.items.length-q.1) (0,false,false) ⟨Nat.zero_le _,by simp⟩ ?_ ?_
   ·(exact leA)
   rintro⟨m2,bb,ff⟩ ⟨hm2,hbb⟩
   simp only at hm2 hbb⊢
   rcases Nat.lt_or_ge m2 g.items.length with hml|hml
   ·obtain⟨y,hy⟩:=gex hml
    have hyb:=hgd.all y (List.mem_of_getElem? hy)
    have hstep:∀b2:Bool,(b2=true↔(bb=true\/inItem t i.grps y v))->(b2=true↔∃z,z∈g.items.take (m2+1)/\inItem t i.grps z v):=fun b2 h=>by
     rw[h,hbb,List.take_add_one,hy]
     constructor
     ·rintro(⟨z,hz,hzv⟩|h2)
      ·exact⟨z,List.mem_append_left _ hz,hzv⟩
      ·exact⟨y,by simp,h2⟩
     ·rintro⟨z,hz,hzv⟩
      rcases List.mem_append.1 hz with hz|hz
      ·exact .inl ⟨z,hz,hzv⟩
      ·simp at hz;subst hz;exact .inr hzv
    have hcy:=fun {K} h=>@hcg y.name K h
    have hPy:=grpP_len hc hb y.name
    have hky:=hk3 y (List.mem_of_getElem? hy)
    have hlo:=hgd.lo
    have c2:y.kind=2->(inItem t i.grps y v↔y.pf.has v=true):=fun h=>by
     have hok:decide y.pf.okP=true:=by
      unfold itB at hyb
      rw[if_neg (by omega),if_neg (by omega),if_pos h]at hyb
      simp only[Bool.and_eq_true]at hyb
      exact hyb.2.1
     rw[inItem,if_neg (by omega),inIt,if_pos h,Pf.has,hok]
     simp[has]
    have c1:y.kind=1->(inItem t i.grps y v↔∃(n:Nat) (e:Ed),edgeAt t v=n/\t.edges[n]? =some e/\sEq e.zone y.name=true):=fun h=>by
     rw[inItem,if_neg (by omega),inIt,if_neg (by omega)]
     exact at_law hc y.name v
    have c3:y.kind=3->(inItem t i.grps y v↔has (grpP t i y.name).1 v=true)/\(grpP t i y.name).2=0:=fun h=>by
     rw[inItem,if_pos h,grpP,if_pos (hky h)]
     exact⟨by rw[(canO_has _).2],rfl⟩
    have ck:y.kind=1\/y.kind=2\/y.kind=3:=by
     unfold itB at hyb
     by_cases k3:y.kind=3
     ·exact .inr (.inr k3)
     ·by_cases k1:y.kind=1
      ·exact .inl k1
      ·by_cases k2:y.kind=2
       ·exact .inr (.inl k2)
       ·rw[if_neg k3,if_neg k1,if_neg k2]at hyb
        split at hyb<;>simp at hyb
    rcases ff with _|_
    rcases bb with _|_
    all_goals
     (repeat' ((conv=>whnf);first|(with_reducible first|refine in_nat (by(try simp only[List.length_map]);omega) ?_|refine ix_map hy ?_|refine ix_map hv ?_|refine crCon y.pf v ?_|refine cuAtI t v (by omega) ?_|refine hcy ?_|refine c34 (grpP t i y.name).1 v (by omega) ?_|refine in_edge (by with_reducible assumption) fun n2 hn2 hnl2=>?_|refine ix_getM (f:=encE) (by with_reducible assumption) fun e he=>?_)|refine zG ?_|apply zA|(apply zI;intro h)|exact zT));(all_goals conv=>whnf)
     all_goals first
      |(exfalso;rcases ck with ck|ck|ck<;>first|omega|(have:=(c3 ck).2;omega))
      |(refine bool_ex (m:=m2+1) (y.pf.has v) true ?_ ?_ ?_
        ·(exact leA)
        ·simp only;omega
        ·refine⟨by simp only;omega,hstep _ ?_⟩
         first
          |(have c2':=c2 (by with_reducible assumption);clear hstep hcy c1 c2 c3;simp_all;done)
          |(have c3':=(c3 (by omega)).1;clear hstep hcy c1 c2 c3;simp_all;done)
          |(clear hstep hcy c1 c2 c3;simp_all;done)
          |(rw[c1 (by with_reducible assumption)]
            constructor
            ·intro hz;exact .inr ⟨n2,e,hn2,he,hz⟩
            ·rintro(hz|⟨n4,e4,q1,q2,q3⟩)
             ·exfalso;simp_all;done
             ·rw[show n4=n2 by omega,he]at q2
              cases q2;exact q3)
          |(rw[c1 (by with_reducible assumption)]
            constructor
            ·intro hz;first|exact .inl hz|(exfalso;simp_all;done)
            ·rintro(hz|⟨n4,e4,q1,q2,q3⟩)
             ·first|exact hz|(exfalso;simp_all;done)
             ·exfalso;omega)
          |trace_state)
      |(refine bool_ex (m:=m2+1) (has (grpP t i y.name).1 v) true ?_ ?_ ?_
        ·(exact leA)
        ·simp only;omega
        ·refine⟨by simp only;omega,hstep _ ?_⟩
         first
          |(have c2':=c2 (by with_reducible assumption);clear hstep hcy c1 c2 c3;simp_all;done)
          |(have c3':=(c3 (by omega)).1;clear hstep hcy c1 c2 c3;simp_all;done)
          |(clear hstep hcy c1 c2 c3;simp_all;done)
          |(rw[c1 (by with_reducible assumption)]
            constructor
            ·intro hz;exact .inr ⟨n2,e,hn2,he,hz⟩
            ·rintro(hz|⟨n4,e4,q1,q2,q3⟩)
             ·exfalso;simp_all;done
             ·rw[show n4=n2 by omega,he]at q2
              cases q2;exact q3)
          |(rw[c1 (by with_reducible assumption)]
            constructor
            ·intro hz;first|exact .inl hz|(exfalso;simp_all;done)
            ·rintro(hz|⟨n4,e4,q1,q2,q3⟩)
             ·first|exact hz|(exfalso;simp_all;done)
             ·exfalso;omega)
          |trace_state)
      |(refine bool_ex (m:=m2+1) true true ?_ ?_ ?_
        ·(exact leA)
        ·simp only;omega
        ·refine⟨by simp only;omega,hstep _ ?_⟩
         first
          |(have c2':=c2 (by with_reducible assumption);clear hstep hcy c1 c2 c3;simp_all;done)
          |(have c3':=(c3 (by omega)).1;clear hstep hcy c1 c2 c3;simp_all;done)
          |(clear hstep hcy c1 c2 c3;simp_all;done)
          |(rw[c1 (by with_reducible assumption)]
            constructor
            ·intro hz;exact .inr ⟨n2,e,hn2,he,hz⟩
            ·rintro(hz|⟨n4,e4,q1,q2,q3⟩)
             ·exfalso;simp_all;done
             ·rw[show n4=n2 by omega,he]at q2
              cases q2;exact q3)
          |(rw[c1 (by with_reducible assumption)]
            constructor
            ·intro hz;first|exact .inl hz|(exfalso;simp_all;done)
            ·rintro(hz|⟨n4,e4,q1,q2,q3⟩)
             ·first|exact hz|(exfalso;simp_all;done)
             ·exfalso;omega)
          |trace_state)
      |(refine bool_ex (m:=m2+1) true false ?_ ?_ ?_
        ·(exact leA)
        ·simp only;omega
        ·refine⟨by simp only;omega,hstep _ ?_⟩
         first
          |(have c2':=c2 (by with_reducible assumption);clear hstep hcy c1 c2 c3;simp_all;done)
          |(have c3':=(c3 (by omega)).1;clear hstep hcy c1 c2 c3;simp_all;done)
          |(clear hstep hcy c1 c2 c3;simp_all;done)
          |(rw[c1 (by with_reducible assumption)]
            constructor
            ·intro hz;exact .inr ⟨n2,e,hn2,he,hz⟩
            ·rintro(hz|⟨n4,e4,q1,q2,q3⟩)
             ·exfalso;simp_all;done
             ·rw[show n4=n2 by omega,he]at q2
              cases q2;exact q3)
          |(rw[c1 (by with_reducible assumption)]
            constructor
            ·intro hz;first|exact .inl hz|(exfalso;simp_all;done)
            ·rintro(hz|⟨n4,e4,q1,q2,q3⟩)
             ·first|exact hz|(exfalso;simp_all;done)
             ·exfalso;omega)
          |trace_state)
      |(refine bool_ex (m:=m2+1) (e.zone.toList==y.name.toList) true ?_ ?_ ?_
        ·(exact leA)
        ·simp only;omega
        ·refine⟨by simp only;omega,hstep _ ?_⟩
         first
          |(have c2':=c2 (by with_reducible assumption);clear hstep hcy c1 c2 c3;simp_all;done)
          |(have c3':=(c3 (by omega)).1;clear hstep hcy c1 c2 c3;simp_all;done)
          |(clear hstep hcy c1 c2 c3;simp_all;done)
          |(rw[c1 (by with_reducible assumption)]
            constructor
            ·intro hz;exact .inr ⟨n2,e,hn2,he,hz⟩
            ·rintro(hz|⟨n4,e4,q1,q2,q3⟩)
             ·exfalso;simp_all;done
             ·rw[show n4=n2 by omega,he]at q2
              cases q2;exact q3)
          |(rw[c1 (by with_reducible assumption)]
            constructor
            ·intro hz;first|exact .inl hz|(exfalso;simp_all;done)
            ·rintro(hz|⟨n4,e4,q1,q2,q3⟩)
             ·first|exact hz|(exfalso;simp_all;done)
             ·exfalso;omega)
          |trace_state)
      |(refine bool_ex (m:=m2+1) false true ?_ ?_ ?_
        ·(exact leA)
        ·simp only;omega
        ·refine⟨by simp only;omega,hstep _ ?_⟩
         first
          |(have c2':=c2 (by with_reducible assumption);clear hstep hcy c1 c2 c3;simp_all;done)
          |(have c3':=(c3 (by omega)).1;clear hstep hcy c1 c2 c3;simp_all;done)
          |(clear hstep hcy c1 c2 c3;simp_all;done)
          |(rw[c1 (by with_reducible assumption)]
            constructor
            ·intro hz;exact .inr ⟨n2,e,hn2,he,hz⟩
            ·rintro(hz|⟨n4,e4,q1,q2,q3⟩)
             ·exfalso;simp_all;done
             ·rw[show n4=n2 by omega,he]at q2
              cases q2;exact q3)
          |(rw[c1 (by with_reducible assumption)]
            constructor
            ·intro hz;first|exact .inl hz|(exfalso;simp_all;done)
            ·rintro(hz|⟨n4,e4,q1,q2,q3⟩)
             ·first|exact hz|(exfalso;simp_all;done)
             ·exfalso;omega)
          |trace_state)
      |(refine bool_ex (m:=m2+1) false false ?_ ?_ ?_
        ·(exact leA)
        ·simp only;omega
        ·refine⟨by simp only;omega,hstep _ ?_⟩
         first
          |(have c2':=c2 (by with_reducible assumption);clear hstep hcy c1 c2 c3;simp_all;done)
          |(have c3':=(c3 (by omega)).1;clear hstep hcy c1 c2 c3;simp_all;done)
          |(clear hstep hcy c1 c2 c3;simp_all;done)
          |(rw[c1 (by with_reducible assumption)]
            constructor
            ·intro hz;exact .inr ⟨n2,e,hn2,he,hz⟩
            ·rintro(hz|⟨n4,e4,q1,q2,q3⟩)
             ·exfalso;simp_all;done
             ·rw[show n4=n2 by omega,he]at q2
              cases q2;exact q3)
          |(rw[c1 (by with_reducible assumption)]
            constructor
            ·intro hz;first|exact .inl hz|(exfalso;simp_all;done)
            ·rintro(hz|⟨n4,e4,q1,q2,q3⟩)
             ·first|exact hz|(exfalso;simp_all;done)
             ·exfalso;omega)
          |trace_state)
      |(refine bool_ex (m:=m2+1) (decide (0<=edgeAt t v)) true ?_ ?_ ?_
        ·(exact leA)
        ·simp only;omega
        ·refine⟨by simp only;omega,hstep _ ?_⟩
         first
          |(have c2':=c2 (by with_reducible assumption);clear hstep hcy c1 c2 c3;simp_all;done)
          |(have c3':=(c3 (by omega)).1;clear hstep hcy c1 c2 c3;simp_all;done)
          |(clear hstep hcy c1 c2 c3;simp_all;done)
          |(rw[c1 (by with_reducible assumption)]
            constructor
            ·intro hz;exact .inr ⟨n2,e,hn2,he,hz⟩
            ·rintro(hz|⟨n4,e4,q1,q2,q3⟩)
             ·exfalso;simp_all;done
             ·rw[show n4=n2 by omega,he]at q2
              cases q2;exact q3)
          |(rw[c1 (by with_reducible assumption)]
            constructor
            ·intro hz;first|exact .inl hz|(exfalso;simp_all;done)
            ·rintro(hz|⟨n4,e4,q1,q2,q3⟩)
             ·first|exact hz|(exfalso;simp_all;done)
             ·exfalso;omega)
          |trace_state)
      |trace_state
   ·have hlo:=hgd.lo
    have hfin:bb=has c v:=by
     rw[Bool.eq_iff_iff,hmem2 v,hbb,List.take_of_length_le hml]
    rcases ff with _|_
    rcases bb with _|_
    all_goals
     (repeat' ((conv=>whnf);first|(with_reducible first|refine in_nat (by(try simp only[List.length_map]);omega) ?_|refine ix_map hv ?_|refine c34 c v (by omega) ?_)|refine zG ?_|apply zA|(apply zI;intro h)|exact zT));(all_goals conv=>whnf)
     all_goals first
      |(refine⟨k+1,hk4,by omega,?_⟩
        rw[Int.natCast_add,Int.natCast_one]
        (exact leA)
        done)
      |(exfalso;simp_all;done)
      |trace_state
  ·(repeat' ((conv=>whnf);first|(with_reducible first|refine cwSane ?_|refine c33 c _ (by omega) fun s hs2=>?_)|refine zG ?_|apply zA|(apply zI;intro h)|exact zT));(all_goals conv=>whnf)
   all_goals first
    |exact .inl rfl
    |exact .inr rfl
    |(have hv2:=hs2.2 ⟨hc1,fun r _=>r.h1⟩
      rw[hv2]at h;cases h;done)
    |trace_state
open Go Go.Vm Go.ChangeShapes Go.WideShapes Go.ChangeAt Go.RowKit
theorem resolveItems_lifted(os:Os)(started:os.Started)(H:Type)(enc:TypeId×Value->H):
  ReturnsInHanded {} Tryz.checked os 3 .any (fun w args=>(Rows.resolveItemsSpec.pre enc Tryz.prog Tryz.f3 [] false w args/\laidMetH Tryz.prog laid3 w)/\sizedMet enc Tryz.prog Tryz.f3 (OpenSpec.ofChange Rows.resolveItemsSpec) false w args)
   (Rows.resolveItemsSpec.post enc Tryz.prog Tryz.f3 false true false false):=by
 refine returnsInHanded_of_change_and (C:=Tryz.checked) (X:=fun w _=>laidMetH Tryz.prog laid3 w) (fun _ _ _ hh h=>h.of_heap hh) ownNone started (by kernel_rfl) Tryz.func3
  (ChangeSpec.witness_shaped (enc:=enc) (C:=Tryz.checked) (os:=os) (X:=fun w _=>laidMetH Tryz.prog laid3 w) false (World.doorLaid Tryz.prog 400 os) #[.slice none 0 0,.int .u32 0] 8 rfl (World.shaped_of_RefB (by kernel_rfl) (by kernel_rfl)) (by kernel_rfl) (by kernel_rfl) (by kernel_rfl) (door_met os _)) ?_
 intro W base args ds gs before hval0 hW _ _ hL _
 have hval:∀(j:Nat) t v,Tryz.f3.params[j]? =some t->args[j]? =some v->Value.okWide Tryz.prog W .any base t v:=hval0
 refine law_contract (P:=Tryz.prog) (t:=4) (d:=6) laidOut (by kernel_rfl) (by kernel_rfl) rfl rfl (by kernel_rfl) (fun ds hds=>?_) (fun xs hxs=>?_) (glob_of hL) hval hW
 ·have hds:ds.length=2:=hds.trans (show Tryz.f3.params.size=2 by kernel_rfl)
  match ds,hds with
  |[d0,d1],_=>rfl
 ·match xs,hxs with
  |[a0,a1],⟨h0,h1,_⟩=>
   obtain⟨raw0,rfl,hr0⟩:=ty_is (d:=4) h0
   obtain⟨n1,rfl,l1,u1⟩:=ty_u32 (d:=5) h1
   exact cItems raw0 n1 hr0 l1 u1
theorem resolveItems_row:Rows.ResolveItemsSaid:=
 OpenClaim.holds_of_wide 3 Tryz.f3 rfl rfl rfl rfl rfl rfl rfl ⟨rfl,rfl,rfl,rfl,rfl⟩ rfl rfl rfl rfl rfl (by kernel_rfl) Tryz.func3 (by kernel_rfl)
  (of_decide_eq_true (by kernel_rfl)) (by unfold Func.isWrapper;first|(rw[if_pos (by decide+kernel)];kernel_rfl)|(rw[if_neg (by decide+kernel)];exact⟨rfl,rfl⟩))
  (fun os started H enc _=>resolveItems_lifted os started H enc)
theorem resolveItems_holds:Rows.ResolveItemsCardSaid:=
 Claim7.holds_tied_plain_at .later [] [.data,.widerDeep] true Rows.resolveItemsCard.stood.harness false
  resolveItems_row (fun _ h=>by cases h) (by kernel_rfl) (fun _ h=>by cases h) resolveItems_row_tie rfl ⟨rfl,rfl⟩ (by kernel_rfl) rfl
  (fun f fn hf hfn=>by
   obtain rfl:f=3:=Option.some.inj ((show Tryz.prog.funcNamed "netsegment/nsglaw17.ResolveItems"=some 3 by kernel_rfl).symm.trans hf)|>.symm
   obtain rfl:fn=Tryz.f3:=(Option.some.inj (Tryz.func3.symm.trans hfn)).symm
   exact⟨by kernel_rfl,fun j t ht=>wants_none (ts:=Tryz.f3.params.toList) (by kernel_rfl) (List.mem_of_getElem? (by rw[Array.getElem?_toList];exact ht))⟩)
  (by kernel_rfl)
#print axioms resolveItems_holds
end Go.Proofs.YtahhamfngafmcaaGreatDoor
