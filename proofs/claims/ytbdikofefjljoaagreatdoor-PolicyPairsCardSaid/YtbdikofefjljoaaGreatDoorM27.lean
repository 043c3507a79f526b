/- The pairs of a generated policy come to few boxes. -/
import Derived.Test.YtbdikofefjljoaaGreatDoorProg
import Derived.Shelf.SlLaysF0
import Derived.Shelf.SlSortCmp.WholeK
import Derived.Shelf.SlSortCmp.NoneTotal
import Derived.Test.YtbdikofefjljoaaGreatDoorM26
set_option linter.unusedVariables false
set_option linter.unusedSimpArgs false
set_option maxRecDepth 100000
set_option maxHeartbeats 4000000
namespace Go.Proofs.YtbdikofefjljoaaGreatDoor
open Go Go.Vm
/-! ### Two boxes joined -/
/-! ### Pairs of what is cut by ranges -/
section
variable {t:Tp} {i:Nt} {A:List Bx}
end
/-! ### Sums over all pairs -/
/-! ### Real headers and two boxes -/
/-! ### All pairs -/
noncomputable def geNear:Ctx:={N:=79,np:=1,own:=at1 16 (true) (at1 132 (true) (fun _=>false)),plan:=gvNear.plan,cut:=at1 9 (true) (fun _=>false)}
noncomputable def beNear:Code:=bdy Tryz.f66
abbrev ofeNear:=@ofC Tryz.prog geNear 66 Tryz.f66 beNear Tryz.func66 zk zk zk zk
theorem enNear(raw:List Int)(pos:Nat)(l:List Bx)(hl:l.length<=1000000)(hp:pos<=raw.length)(hr:raw.length<=9223372036854775807){K:KT}
  (hK:∀(h:Hd) (pos':Nat),h.Ok->pos'<=raw.length->K (encHd h) [tapeO raw pos']):ACall Tryz.prog 66 [.op 0 0,encXs l] [tapeO raw pos] K:=by
 refine ofeNear rfl rfl ?_
 (repeat' ((conv=>whnf);first|(with_reducible first|refine nNext raw _ _ (by(try simp only[List.length_map]);omega) zw hr fun m1 p1 hm1 hp1=>?_|refine in_nat (by simp only[List.length_map]at*;omega) ?_|refine ix_map_any (f:=encX) (by simp only[List.length_map]at*;omega) fun w hw=>?_|refine cvHdr raw _ zp hr fun h p2 ho hp2=>?_)|refine zG ?_|apply zA|(apply zI;intro h)|exact zT));(all_goals conv=>whnf)
 all_goals first
  |exact hK _ _ zp zp
  |skip
 have b0:=And.intro (Rg.l0 w.r0) (Rg.l1 w.r0)
 have c0:=And.intro (Rg.h0 w.r0) (Rg.h1 w.r0)
 have b1:=And.intro (Rg.l0 w.r1) (Rg.l1 w.r1)
 have c1:=And.intro (Rg.h0 w.r1) (Rg.h1 w.r1)
 have b2:=And.intro (Rg.l0 w.r2) (Rg.l1 w.r2)
 have c2:=And.intro (Rg.h0 w.r2) (Rg.h1 w.r2)
 have b3:=And.intro (Rg.l0 w.r3) (Rg.l1 w.r3)
 have c3:=And.intro (Rg.h0 w.r3) (Rg.h1 w.r3)
 have b4:=And.intro (Rg.l0 w.r4) (Rg.l1 w.r4)
 have c4:=And.intro (Rg.h0 w.r4) (Rg.h1 w.r4)
 refine Lp.times 6 ?_
 (repeat' ((conv=>whnf);first|(with_reducible first|refine nNext raw _ _ zo zp hr fun m1 p1 hm1 hp1=>?_|refine cvHdr raw _ zp hr fun h p2 ho hp2=>?_)|(refine in_c zd ?_)|(with_reducible first|refine in_nat zo ?_|refine wr_u32_any fun r r0 r1=>?_)|(refine Ix.intro (by exact rfl) ?_)|(with_reducible first|refine cr3Top _ ?_|refine cvHd _ _ _ _ _ zo zo zo zo fun g ho=>?_)|(refine ix_5 zo ⟨by omega,by omega,⟨by assumption,by assumption⟩,⟨by assumption,by assumption⟩,⟨by assumption,by assumption⟩⟩ fun y y0 y1=>?_)|refine zG ?_|apply zA|(apply zI;intro h)|exact zT));(all_goals conv=>whnf)
 refine Jn.intro (Nat×Int) (fun g=>⟨4,[(0,tapeO raw g.1),(1,.box [.v (.int .u32 0),.v (.int .u32 0),.v (.int .u8 0),.v (.int .u16 0),.v (.int .u16 0)]),(2,.box (celX w)),(3,.box [.v (.int .u32 g.2),.v (.int .u32 0),.v (.int .u32 0),.v (.int .u32 0),.v (.int .u32 0)])],[(0,.op 0 0),(4,.op 1 0),(5,.op 2 0),(6,.op 3 0),(7,.v (.int .i64 0))]⟩) (fun g=>g.1<=raw.length/\0<=g.2/\g.2<=4294967295) ?_ ?_
 ·(repeat' ((conv=>whnf);first|(with_reducible first|refine nNext raw _ _ zo zp hr fun m1 p1 hm1 hp1=>?_|refine cvHdr raw _ zp hr fun h p2 ho hp2=>?_)|(refine in_c zd ?_)|(with_reducible first|refine in_nat zo ?_|refine wr_u32_any fun r r0 r1=>?_)|(refine Ix.intro (by exact rfl) ?_)|(with_reducible first|refine cr3Top _ ?_|refine cvHd _ _ _ _ _ zo zo zo zo fun g ho=>?_)|(refine ix_5 zo ⟨by omega,by omega,⟨by assumption,by assumption⟩,⟨by assumption,by assumption⟩,⟨by assumption,by assumption⟩⟩ fun y y0 y1=>?_)|refine zG ?_|apply zA|(apply zI;intro h)|exact zT));(all_goals conv=>whnf)
  all_goals
   refine⟨(p1,y),⟨hp1,y0,y1⟩,?_⟩
   (exact leA)
 rintro⟨q0,y0⟩ ⟨hq0,l0,u0⟩
 simp only at hq0 l0 u0⊢
 (repeat' ((conv=>whnf);first|(with_reducible first|refine nNext raw _ _ zo zp hr fun m1 p1 hm1 hp1=>?_|refine cvHdr raw _ zp hr fun h p2 ho hp2=>?_)|(refine in_c zd ?_)|(with_reducible first|refine in_nat zo ?_|refine wr_u32_any fun r r0 r1=>?_)|(refine Ix.intro (by exact rfl) ?_)|(with_reducible first|refine cr3Top _ ?_|refine cvHd _ _ _ _ _ zo zo zo zo fun g ho=>?_)|(refine ix_5 zo ⟨by omega,by omega,⟨by assumption,by assumption⟩,⟨by assumption,by assumption⟩,⟨by assumption,by assumption⟩⟩ fun y y0 y1=>?_)|refine zG ?_|apply zA|(apply zI;intro h)|exact zT));(all_goals conv=>whnf)
 refine Jn.intro (Nat×Int) (fun g=>⟨4,[(0,tapeO raw g.1),(1,.box [.v (.int .u32 0),.v (.int .u32 0),.v (.int .u8 0),.v (.int .u16 0),.v (.int .u16 0)]),(2,.box (celX w)),(3,.box [.v (.int .u32 (min y0 (topI 0))),.v (.int .u32 g.2),.v (.int .u32 0),.v (.int .u32 0),.v (.int .u32 0)])],[(0,.op 0 0),(4,.op 1 0),(5,.op 2 0),(6,.op 3 0),(7,.v (.int .i64 1))]⟩) (fun g=>g.1<=raw.length/\0<=g.2/\g.2<=4294967295) ?_ ?_
 ·(repeat' ((conv=>whnf);first|(with_reducible first|refine nNext raw _ _ zo zp hr fun m1 p1 hm1 hp1=>?_|refine cvHdr raw _ zp hr fun h p2 ho hp2=>?_)|(refine in_c zd ?_)|(with_reducible first|refine in_nat zo ?_|refine wr_u32_any fun r r0 r1=>?_)|(refine Ix.intro (by exact rfl) ?_)|(with_reducible first|refine cr3Top _ ?_|refine cvHd _ _ _ _ _ zo zo zo zo fun g ho=>?_)|(refine ix_5 zo ⟨by omega,by omega,⟨by assumption,by assumption⟩,⟨by assumption,by assumption⟩,⟨by assumption,by assumption⟩⟩ fun y y0 y1=>?_)|refine zG ?_|apply zA|(apply zI;intro h)|exact zT));(all_goals conv=>whnf)
  all_goals
   refine⟨(p1,y),⟨hp1,y0,y1⟩,?_⟩
   (exact leA)
 rintro⟨q1,y1⟩ ⟨hq1,l1,u1⟩
 simp only at hq1 l1 u1⊢
 (repeat' ((conv=>whnf);first|(with_reducible first|refine nNext raw _ _ zo zp hr fun m1 p1 hm1 hp1=>?_|refine cvHdr raw _ zp hr fun h p2 ho hp2=>?_)|(refine in_c zd ?_)|(with_reducible first|refine in_nat zo ?_|refine wr_u32_any fun r r0 r1=>?_)|(refine Ix.intro (by exact rfl) ?_)|(with_reducible first|refine cr3Top _ ?_|refine cvHd _ _ _ _ _ zo zo zo zo fun g ho=>?_)|(refine ix_5 zo ⟨by omega,by omega,⟨by assumption,by assumption⟩,⟨by assumption,by assumption⟩,⟨by assumption,by assumption⟩⟩ fun y y0 y1=>?_)|refine zG ?_|apply zA|(apply zI;intro h)|exact zT));(all_goals conv=>whnf)
 refine Jn.intro (Nat×Int) (fun g=>⟨4,[(0,tapeO raw g.1),(1,.box [.v (.int .u32 0),.v (.int .u32 0),.v (.int .u8 0),.v (.int .u16 0),.v (.int .u16 0)]),(2,.box (celX w)),(3,.box [.v (.int .u32 (min y0 (topI 0))),.v (.int .u32 (min y1 (topI 1))),.v (.int .u32 g.2),.v (.int .u32 0),.v (.int .u32 0)])],[(0,.op 0 0),(4,.op 1 0),(5,.op 2 0),(6,.op 3 0),(7,.v (.int .i64 2))]⟩) (fun g=>g.1<=raw.length/\0<=g.2/\g.2<=4294967295) ?_ ?_
 ·(repeat' ((conv=>whnf);first|(with_reducible first|refine nNext raw _ _ zo zp hr fun m1 p1 hm1 hp1=>?_|refine cvHdr raw _ zp hr fun h p2 ho hp2=>?_)|(refine in_c zd ?_)|(with_reducible first|refine in_nat zo ?_|refine wr_u32_any fun r r0 r1=>?_)|(refine Ix.intro (by exact rfl) ?_)|(with_reducible first|refine cr3Top _ ?_|refine cvHd _ _ _ _ _ zo zo zo zo fun g ho=>?_)|(refine ix_5 zo ⟨by omega,by omega,⟨by assumption,by assumption⟩,⟨by assumption,by assumption⟩,⟨by assumption,by assumption⟩⟩ fun y y0 y1=>?_)|refine zG ?_|apply zA|(apply zI;intro h)|exact zT));(all_goals conv=>whnf)
  all_goals
   refine⟨(p1,y),⟨hp1,y0,y1⟩,?_⟩
   (exact leA)
 rintro⟨q2,y2⟩ ⟨hq2,l2,u2⟩
 simp only at hq2 l2 u2⊢
 (repeat' ((conv=>whnf);first|(with_reducible first|refine nNext raw _ _ zo zp hr fun m1 p1 hm1 hp1=>?_|refine cvHdr raw _ zp hr fun h p2 ho hp2=>?_)|(refine in_c zd ?_)|(with_reducible first|refine in_nat zo ?_|refine wr_u32_any fun r r0 r1=>?_)|(refine Ix.intro (by exact rfl) ?_)|(with_reducible first|refine cr3Top _ ?_|refine cvHd _ _ _ _ _ zo zo zo zo fun g ho=>?_)|(refine ix_5 zo ⟨by omega,by omega,⟨by assumption,by assumption⟩,⟨by assumption,by assumption⟩,⟨by assumption,by assumption⟩⟩ fun y y0 y1=>?_)|refine zG ?_|apply zA|(apply zI;intro h)|exact zT));(all_goals conv=>whnf)
 refine Jn.intro (Nat×Int) (fun g=>⟨4,[(0,tapeO raw g.1),(1,.box [.v (.int .u32 0),.v (.int .u32 0),.v (.int .u8 0),.v (.int .u16 0),.v (.int .u16 0)]),(2,.box (celX w)),(3,.box [.v (.int .u32 (min y0 (topI 0))),.v (.int .u32 (min y1 (topI 1))),.v (.int .u32 (min y2 (topI 2))),.v (.int .u32 g.2),.v (.int .u32 0)])],[(0,.op 0 0),(4,.op 1 0),(5,.op 2 0),(6,.op 3 0),(7,.v (.int .i64 3))]⟩) (fun g=>g.1<=raw.length/\0<=g.2/\g.2<=4294967295) ?_ ?_
 ·(repeat' ((conv=>whnf);first|(with_reducible first|refine nNext raw _ _ zo zp hr fun m1 p1 hm1 hp1=>?_|refine cvHdr raw _ zp hr fun h p2 ho hp2=>?_)|(refine in_c zd ?_)|(with_reducible first|refine in_nat zo ?_|refine wr_u32_any fun r r0 r1=>?_)|(refine Ix.intro (by exact rfl) ?_)|(with_reducible first|refine cr3Top _ ?_|refine cvHd _ _ _ _ _ zo zo zo zo fun g ho=>?_)|(refine ix_5 zo ⟨by omega,by omega,⟨by assumption,by assumption⟩,⟨by assumption,by assumption⟩,⟨by assumption,by assumption⟩⟩ fun y y0 y1=>?_)|refine zG ?_|apply zA|(apply zI;intro h)|exact zT));(all_goals conv=>whnf)
  all_goals
   refine⟨(p1,y),⟨hp1,y0,y1⟩,?_⟩
   (exact leA)
 rintro⟨q3,y3⟩ ⟨hq3,l3,u3⟩
 simp only at hq3 l3 u3⊢
 (repeat' ((conv=>whnf);first|(with_reducible first|refine nNext raw _ _ zo zp hr fun m1 p1 hm1 hp1=>?_|refine cvHdr raw _ zp hr fun h p2 ho hp2=>?_)|(refine in_c zd ?_)|(with_reducible first|refine in_nat zo ?_|refine wr_u32_any fun r r0 r1=>?_)|(refine Ix.intro (by exact rfl) ?_)|(with_reducible first|refine cr3Top _ ?_|refine cvHd _ _ _ _ _ zo zo zo zo fun g ho=>?_)|(refine ix_5 zo ⟨by omega,by omega,⟨by assumption,by assumption⟩,⟨by assumption,by assumption⟩,⟨by assumption,by assumption⟩⟩ fun y y0 y1=>?_)|refine zG ?_|apply zA|(apply zI;intro h)|exact zT));(all_goals conv=>whnf)
 refine Jn.intro (Nat×Int) (fun g=>⟨4,[(0,tapeO raw g.1),(1,.box [.v (.int .u32 0),.v (.int .u32 0),.v (.int .u8 0),.v (.int .u16 0),.v (.int .u16 0)]),(2,.box (celX w)),(3,.box [.v (.int .u32 (min y0 (topI 0))),.v (.int .u32 (min y1 (topI 1))),.v (.int .u32 (min y2 (topI 2))),.v (.int .u32 (min y3 (topI 3))),.v (.int .u32 g.2)])],[(0,.op 0 0),(4,.op 1 0),(5,.op 2 0),(6,.op 3 0),(7,.v (.int .i64 4))]⟩) (fun g=>g.1<=raw.length/\0<=g.2/\g.2<=4294967295) ?_ ?_
 ·(repeat' ((conv=>whnf);first|(with_reducible first|refine nNext raw _ _ zo zp hr fun m1 p1 hm1 hp1=>?_|refine cvHdr raw _ zp hr fun h p2 ho hp2=>?_)|(refine in_c zd ?_)|(with_reducible first|refine in_nat zo ?_|refine wr_u32_any fun r r0 r1=>?_)|(refine Ix.intro (by exact rfl) ?_)|(with_reducible first|refine cr3Top _ ?_|refine cvHd _ _ _ _ _ zo zo zo zo fun g ho=>?_)|(refine ix_5 zo ⟨by omega,by omega,⟨by assumption,by assumption⟩,⟨by assumption,by assumption⟩,⟨by assumption,by assumption⟩⟩ fun y y0 y1=>?_)|refine zG ?_|apply zA|(apply zI;intro h)|exact zT));(all_goals conv=>whnf)
  all_goals
   refine⟨(p1,y),⟨hp1,y0,y1⟩,?_⟩
   (exact leA)
 rintro⟨q4,y4⟩ ⟨hq4,l4,u4⟩
 simp only at hq4 l4 u4⊢
 have e0:topI 0=4294967295:=by decide
 have e1:topI 1=4294967295:=by decide
 have e2:topI 2=255:=by decide
 have e3:topI 3=65535:=by decide
 have e4:topI 4=65535:=by decide
 (repeat' ((conv=>whnf);first|(with_reducible first|refine nNext raw _ _ zo zp hr fun m1 p1 hm1 hp1=>?_|refine cvHdr raw _ zp hr fun h p2 ho hp2=>?_)|(refine in_c zd ?_)|(with_reducible first|refine in_nat zo ?_|refine wr_u32_any fun r r0 r1=>?_)|(refine Ix.intro (by exact rfl) ?_)|(with_reducible first|refine cr3Top _ ?_|refine cvHd _ _ _ _ _ zo zo zo zo fun g ho=>?_)|(refine ix_5 zo ⟨by omega,by omega,⟨by assumption,by assumption⟩,⟨by assumption,by assumption⟩,⟨by assumption,by assumption⟩⟩ fun y y0 y1=>?_)|refine zG ?_|apply zA|(apply zI;intro h)|exact zT));(all_goals conv=>whnf)
 exact hK _ _ zp zp
theorem pfHas{p:Pf}(h:p.okP)(v:Int):p.has v=(decide (p.addr<=v)&&decide (v<=p.addr+pz p.bits-1)):=by simp[Pf.has,h,rg_lo h,rg_hi h]
theorem firstIx_get{α:Type}{p:α->Bool}{l:List α}{k:Nat}(h:firstIx p l=k):∃x,l[k]? =some x/\p x=true:=by
 unfold firstIx at h
 split at h
 ·rename_i i hi
  obtain rfl:i=k:=by omega
  obtain⟨h1,h2,_⟩:=List.findIdx?_eq_some_iff_getElem.1 hi
  exact⟨_,List.getElem?_eq_getElem h1,h2⟩
 ·omega
def subR(i:Nat):Int×Int:=[(167772160,167772415),(167772416,167772671),(167772672,167772799),(167772800,167772863),(2886729728,2886795263),(3232237321,3232237321)].getD i (0,0)
theorem sub_has{i:Nat}(hi:i<6)(v:Int):(subL.getD i noPf).has v=(decide ((subR i).1<=v)&&decide (v<=(subR i).2)):=by
 match i,hi with
 |0,_=>rw[pfHas zd];rfl
 |1,_=>rw[pfHas zd];rfl
 |2,_=>rw[pfHas zd];rfl
 |3,_=>rw[pfHas zd];rfl
 |4,_=>rw[pfHas zd];rfl
 |5,_=>rw[pfHas zd];rfl
theorem sub_okP{i:Nat}(hi:i<6):(subL.getD i noPf).okP:=by
 match i,hi with
 |0,_=>decide
 |1,_=>decide
 |2,_=>decide
 |3,_=>decide
 |4,_=>decide
 |5,_=>decide
theorem subAp{i j:Nat}(hi:i<6)(hj:j<6)(hij:i≠j){v:Int}(h:(subL.getD i noPf).has v=true):(subL.getD j noPf).has v=false:=by
 rw[sub_has hi]at h
 rw[sub_has hj]
 simp only[Bool.and_eq_true,decide_eq_true_eq]at h
 rw[Bool.eq_false_iff]
 simp only[ne_eq,Bool.and_eq_true,decide_eq_true_eq]
 have e:∀k,k<6->subR k=(167772160,167772415)/\k=0\/subR k=(167772416,167772671)/\k=1\/subR k=(167772672,167772799)/\k=2\/subR k=(167772800,167772863)/\k=3\/subR k=(2886729728,2886795263)/\k=4\/subR k=(3232237321,3232237321)/\k=5:=by
  intro k hk
  match k,hk with
  |0,_=>exact .inl ⟨rfl,rfl⟩
  |1,_=>exact .inr (.inl ⟨rfl,rfl⟩)
  |2,_=>exact .inr (.inr (.inl ⟨rfl,rfl⟩))
  |3,_=>exact .inr (.inr (.inr (.inl ⟨rfl,rfl⟩)))
  |4,_=>exact .inr (.inr (.inr (.inr (.inl ⟨rfl,rfl⟩))))
  |5,_=>exact .inr (.inr (.inr (.inr (.inr ⟨rfl,rfl⟩))))
 rcases e i hi with⟨e1,k1⟩|⟨e1,k1⟩|⟨e1,k1⟩|⟨e1,k1⟩|⟨e1,k1⟩|⟨e1,k1⟩<;>rcases e j hj with⟨e2,k2⟩|⟨e2,k2⟩|⟨e2,k2⟩|⟨e2,k2⟩|⟨e2,k2⟩|⟨e2,k2⟩<;>rw[e1]at h<;>rw[e2]<;>simp only at h⊢ <;>omega
theorem edgeAt_iff{t:Tp}(g:GTop t){a:Nat}{ea:Ed}(ha:t.edges[a]? =some ea)(v:Int):edgeAt t v=a↔ea.pf.has v=true:=by
 have hal:=(List.getElem?_eq_some_iff.1 ha).1
 have h5:=g.e5
 have ga:=g.ed a ea ha
 constructor
 ·intro h
  obtain⟨x,hx,hp⟩:=firstIx_get h
  rw[ha]at hx;cases hx
  simp only[Bool.and_eq_true]at hp
  exact hp.2
 ·intro h
  refine firstIx_at ha (by rw[ga.pl,h];rfl) fun i y hi hy=>?_
  have gy:=g.ed i y hy
  rw[ga.pf]at h
  rw[gy.pf,subAp zo zo zo h,Bool.and_false]
theorem whole_at{t:Tp}(g:GTop t){a b:Nat}{ea eb:Ed}(ha:t.edges[a]? =some ea)(hb:t.edges[b]? =some eb){h:Hd}(ho:h.Ok):conB (whoB ea.pf eb.pf) h=(decide (edgeAt t h.src=a)&&decide (edgeAt t h.dst=b)):=by
 have hal:=(List.getElem?_eq_some_iff.1 ha).1
 have hbl:=(List.getElem?_eq_some_iff.1 hb).1
 have h5:=g.e5
 have ga:=g.ed a ea ha
 have gb:=g.ed b eb hb
 have oa:ea.pf.okP:=by rw[ga.pf];exact sub_okP zo
 have ob:eb.pf.okP:=by rw[gb.pf];exact sub_okP zo
 have e1:=edgeAt_iff g ha h.src
 have e2:=edgeAt_iff g hb h.dst
 rw[pfHas oa]at e1
 rw[pfHas ob]at e2
 simp only[Bool.and_eq_true,decide_eq_true_eq]at e1 e2
 have la:=rg_lo oa;have ua:=rg_hi oa
 have lb:=rg_lo ob;have ub:=rg_hi ob
 have pa:=pz_pos ea.pf.bits
 have pb:=pz_pos eb.pf.bits
 have ta:=ea.pf.rg.h1
 have tb:=eb.pf.rg.h1
 obtain⟨s0,s1,d0,d1,p0,p1,a0,a1,b0,b1⟩:=ho
 rw[Bool.eq_iff_iff,conB_iff]
 simp only[Bool.and_eq_true,decide_eq_true_eq]
 have hok:(whoB ea.pf eb.pf).ok:=⟨⟨by show ea.pf.rg.lo<=ea.pf.rg.hi;omega,ta⟩,⟨by show eb.pf.rg.lo<=eb.pf.rg.hi;omega,tb⟩,(show fullB.r2.lo<=fullB.r2.hi/\fullB.r2.hi<=255 by decide),(show fullB.r3.lo<=fullB.r3.hi/\fullB.r3.hi<=65535 by decide),(show fullB.r4.lo<=fullB.r4.hi/\fullB.r4.hi<=65535 by decide)⟩
 constructor
 ·rintro⟨⟨c1,c2⟩,⟨c3,c4⟩,_⟩
  have c1:ea.pf.rg.lo<=h.src:=c1
  have c2:h.src<=ea.pf.rg.hi:=c2
  have c3:eb.pf.rg.lo<=h.dst:=c3
  have c4:h.dst<=eb.pf.rg.hi:=c4
  exact⟨e1.2 zo,e2.2 zo⟩
 ·rintro⟨c1,c2⟩
  have c1:=e1.1 c1
  have c2:=e2.1 c2
  refine⟨⟨?_,?_⟩,⟨?_,?_⟩,⟨p0,p1⟩,⟨a0,a1⟩,⟨b0,b1⟩,hok⟩
  ·show ea.pf.rg.lo<=h.src;omega
  ·show h.src<=ea.pf.rg.hi;omega
  ·show eb.pf.rg.lo<=h.dst;omega
  ·show h.dst<=eb.pf.rg.hi;omega
end Go.Proofs.YtbdikofefjljoaaGreatDoor
namespace Go.Proofs
open Go.Shelf
def Tryz.sortR_ren:Go.Shelf.Ren:=⟨fun|6=>302|15=>116|14=>329|28=>208|29=>209|20=>338|21=>339|22=>340|23=>341|24=>342|25=>343|26=>344|27=>345|46=>356|47=>274|48=>275|49=>357|50=>358|57=>363|n=>n,fun|22=>117|24=>111|25=>308|3=>3|39=>164|0=>0|53=>55|55=>214|4=>4|46=>233|45=>232|50=>237|5=>5|9=>9|66=>287|70=>291|76=>324|77=>278|n=>n,fun|n=>n⟩
theorem Tryz.sortR:Go.Proofs.SlLaysF0.n6 Tryz.prog Tryz.sortR_ren:={
 mixed:=by kernel_rfl
 f6:=⟨Tryz.f302.name,by decide,Tryz.func302.trans (congrArg some (by kernel_rfl))⟩
 f14:=⟨Tryz.f329.name,by decide,Tryz.func329.trans (congrArg some (by kernel_rfl))⟩
 f15:=Tryz.func116.trans (congrArg some (by kernel_rfl))
 f20:=⟨Tryz.f338.name,by decide,Tryz.func338.trans (congrArg some (by kernel_rfl))⟩
 f21:=⟨Tryz.f339.name,by decide,Tryz.func339.trans (congrArg some (by kernel_rfl))⟩
 f22:=⟨Tryz.f340.name,by decide,Tryz.func340.trans (congrArg some (by kernel_rfl))⟩
 f23:=⟨Tryz.f341.name,by decide,Tryz.func341.trans (congrArg some (by kernel_rfl))⟩
 f24:=⟨Tryz.f342.name,by decide,Tryz.func342.trans (congrArg some (by kernel_rfl))⟩
 f25:=⟨Tryz.f343.name,by decide,Tryz.func343.trans (congrArg some (by kernel_rfl))⟩
 f26:=⟨Tryz.f344.name,by decide,Tryz.func344.trans (congrArg some (by kernel_rfl))⟩
 f27:=⟨Tryz.f345.name,by decide,Tryz.func345.trans (congrArg some (by kernel_rfl))⟩
 f28:=Tryz.func208.trans (congrArg some (by kernel_rfl))
 f29:=Tryz.func209.trans (congrArg some (by kernel_rfl))
 f46:=⟨Tryz.f356.name,by decide,Tryz.func356.trans (congrArg some (by kernel_rfl))⟩
 f47:=Tryz.func274.trans (congrArg some (by kernel_rfl))
 f48:=Tryz.func275.trans (congrArg some (by kernel_rfl))
 f49:=⟨Tryz.f357.name,by decide,Tryz.func357.trans (congrArg some (by kernel_rfl))⟩
 f50:=⟨Tryz.f358.name,by decide,Tryz.func358.trans (congrArg some (by kernel_rfl))⟩
 f57:=⟨Tryz.f363.name,by decide,Tryz.func363.trans (congrArg some (by kernel_rfl))⟩
 t0:=Tryz.underlying0
 a0:=Tryz.isAgg0
 z0:=Tryz.sizeOf0
 v0:=Tryz.zeroValue0
 t3:=Tryz.underlying3
 a3:=Tryz.isAgg3
 z3:=Tryz.sizeOf3
 v3:=Tryz.zeroValue3
 t4:=Tryz.underlying4
 a4:=Tryz.isAgg4
 z4:=Tryz.sizeOf4
 v4:=Tryz.zeroValue4
 t5:=Tryz.underlying5
 a5:=Tryz.isAgg5
 z5:=Tryz.sizeOf5
 v5:=Tryz.zeroValue5
 t9:=Tryz.underlying9
 a9:=Tryz.isAgg9
 z9:=Tryz.sizeOf9
 v9:=Tryz.zeroValue9
 t22:=Tryz.underlying117
 a22:=Tryz.isAgg117
 z22:=Tryz.sizeOf117
 v22:=Tryz.zeroValue117
 t25:=Tryz.underlying308
 a25:=Tryz.isAgg308
 z25:=Tryz.sizeOf308
 v25:=Tryz.zeroValue308
 t39:=Tryz.underlying164
 a39:=Tryz.isAgg164
 z39:=Tryz.sizeOf164
 v39:=Tryz.zeroValue164
 t45:=Tryz.underlying232
 a45:=Tryz.isAgg232
 z45:=Tryz.sizeOf232
 v45:=Tryz.zeroValue232
 t46:=Tryz.underlying233
 a46:=Tryz.isAgg233
 z46:=Tryz.sizeOf233
 v46:=Tryz.zeroValue233
 t50:=Tryz.underlying237
 a50:=Tryz.isAgg237
 z50:=Tryz.sizeOf237
 v50:=Tryz.zeroValue237
 t53:=Tryz.underlying55
 a53:=Tryz.isAgg55
 z53:=Tryz.sizeOf55
 v53:=Tryz.zeroValue55
 t55:=Tryz.underlying214
 a55:=Tryz.isAgg214
 z55:=Tryz.sizeOf214
 v55:=Tryz.zeroValue214
 t66:=Tryz.underlying287
 a66:=Tryz.isAgg287
 z66:=Tryz.sizeOf287
 v66:=Tryz.zeroValue287
 t70:=Tryz.underlying291
 a70:=Tryz.isAgg291
 z70:=Tryz.sizeOf291
 v70:=Tryz.zeroValue291
 t76:=Tryz.underlying324
 a76:=Tryz.isAgg324
 z76:=Tryz.sizeOf324
 v76:=Tryz.zeroValue324
 t77:=Tryz.underlying278
 a77:=Tryz.isAgg278
 z77:=Tryz.sizeOf278
 v77:=Tryz.zeroValue278}
end Go.Proofs
namespace Go.Vm
open Go.Sort Go.Proofs Go.Shelf
theorem rep_none(W:World)(hg:GlobOk (fun _=>False) W):Rep noInj (fun _=>False) W ([]:List Obj).length (enumH 0 []):=
 ⟨fun _ _=>rfl,fun id o hg=>by simp[enumH,get]at hg,fun id id' o o' b base base' hg=>by simp[enumH,get]at hg,fun b hb=>hb.elim,hg⟩
theorem grow_of_ext{W w':World}{ι':Inj}{h':Hp}{E':Nat->Prop}(x:Ext noInj (enumH 0 []) (fun _=>False) W ι' h' E' w'):∃q os',w'=grow (W.drewN q) os':=by
 have hno:∀b,¬Own noInj (enumH 0 []) b:=fun b ⟨id,o,base,hg,_⟩=>by simp[enumH,get]at hg
 refine⟨w'.drawn-W.drawn,w'.heap.extract W.heap.size w'.heap.size,?_⟩
 have hh:w'.heap=W.heap++w'.heap.extract W.heap.size w'.heap.size:=by
  apply Array.ext_getElem?
  intro i
  rw[Array.getElem?_append]
  split
  ·rename_i hi
   exact(x.old i hi (hno i)).1
  ·rename_i hi
   rw[Array.getElem?_extract]
   have hsz:=x.size
   split
   ·congr 1;omega
   ·rw[Array.getElem?_eq_none];omega
 have hd:=x.drawn
 have h1:=x.os;have h2:=x.tape;have h3:=x.output
 cases w'
 cases W
 simp only[grow,World.drewN]at*
 subst h1;subst h2;subst h3
 congr 1
 omega
section
variable {P:Program} {α:Type} [Inhabited α]
theorem cmpLays_of{g:Nat}{enc:α->List Value}{k:Nat}{cf:α->α->Int}{blk off size:Nat}{w:World}(hgl:∀(m:Nat) (os:Array Go.Obj) (dk:Array α),GlobOk (fun _=>False) (sortWorldK enc k w blk off m dk os))
  (h:∀x y:α,ACall P g [.agg ((enc x).map .v),.agg ((enc y).map .v)] [] fun r hs=>r=.v (.int .i64 (cf x y))/\hs=[]):CmpLays P g #[] enc k cf blk off size w:=by
 intro m os dk _ x y
 have hgW:=hgl m os dk
 generalize sortWorldK enc k w blk off m dk os=W at hgW⊢
 obtain⟨_,h2⟩:=(h x y).elim
 have one:∀z:α,Rel (fun _=>False) W noInj (.agg ((enc z).map .v)) (.agg (enc z).toArray):=fun z=>
  .agg _ _ zx (fun i a b ha hb=>by
   have hb':(enc z)[i]? =some b:=by simpa using hb
   rw[List.getElem?_map,hb']at ha
   cases ha
   exact .v _)
 have hv:RL (fun _=>False) W noInj [.agg ((enc x).map .v),.agg ((enc y).map .v)] #[.agg (enc x).toArray,.agg (enc y).toArray]:=RL.cons (one x) (RL.cons (one y) rl_nil)
 rw[Array.append_empty]
 refine(h2 noInj _ W _ (rep_none W hgW) hv).mono ?_
 rintro e w' ⟨v,rv,hs',ι',E',rfl,⟨rfl,rfl⟩,_,hr,x⟩
 cases hr
 exact⟨rfl,grow_of_ext x⟩
variable {E:Nat->Prop} {w:World} {ι:Inj} {n:Nat} {h:Hp}
theorem GlobOk.none{E:Nat->Prop}{w:World}(h:GlobOk E w):GlobOk (fun _=>False) w:=fun g cs hg=>by
 obtain⟨_,h2,h3⟩:=h g cs hg
 exact⟨fun f=>f,h2,h3⟩
theorem glob_grow{E:Nat->Prop}{w:World}(h:GlobOk E w)(m:Nat)(os:Array Go.Obj):GlobOk E (grow (Sort.ahead w m) os):=fun g cs hg=>by
 obtain⟨h1,h2,h3⟩:=h g cs hg
 refine⟨h1,?_,fun j y hy=>?_⟩
 ·rw[size_grow];exact Nat.lt_of_lt_of_le h2 (Nat.le_add_right _ _)
 ·rw[cell_of_heap (a:=⟨g,j,Option.none⟩) (heap_grow_old (Sort.ahead w m) os h2)];exact h3 j y hy
theorem rep_grow(r:Rep ι E w n h)(m:Nat)(os:Array Go.Obj):Rep ι E (grow (Sort.ahead w m) os) n h/\Ext ι h E w ι h E (grow (Sort.ahead w m) os):=by
 have hh:∀b,b<w.heap.size->(grow (Sort.ahead w m) os).heap[b]? =w.heap[b]? :=fun b hb=>heap_grow_old (Sort.ahead w m) os hb
 have hsz:w.heap.size<=(grow (Sort.ahead w m) os).heap.size:=by rw[size_grow];exact Nat.le_add_right _ _
 have hc:∀a:Addr,a.block<w.heap.size->(grow (Sort.ahead w m) os).cell? a=w.cell? a:=fun a ha=>cell_of_heap (hh _ ha)
 have hf:∀a:Addr,a.block<w.heap.size->(grow (Sort.ahead w m) os).frozen? a=w.frozen? a:=fun a ha=>by simp only[World.frozen?,hh _ ha]
 have hk:Keeps E w E (grow (Sort.ahead w m) os):=⟨hsz,fun b hb hE=>⟨hh b hb,hE⟩,fun a ha=>by rw[hc a (lt_of_cell ha)];exact ha,fun a ha=>hf a (lt_of_cell ha)⟩
 exact⟨⟨r.fresh,fun id o hg=>(r.obj id o hg).keep hk (fun _ _ h=>h) (fun b base hb=>r.own_E ⟨id,o,base,hg,hb⟩) (fun b base hb=>hh b (own_ne r hg hb)),r.sep,fun b hb=>Nat.lt_of_lt_of_le (r.bound b hb) hsz,r.glob.keep hk⟩,
  ⟨rfl,rfl,rfl,hsz,fun _ _ h=>h,fun b hb _=>⟨hh b hb,Iff.rfl⟩,fun _ _ h=>h,fun a ha=>by rw[hc a (lt_of_cell ha)];exact ha,fun a ha=>hf a ha,by show w.drawn<=w.drawn+m;omega⟩⟩
theorem cell?_putCells(d:Array Value)(w:World)(b off:Nat)(a:Addr)(h:(w.cell? a).isSome=true):((putRow id w b off d).cell? a).isSome=true:=by
 by_cases hb:a.block=b
 ·subst hb
  unfold putRow mapBlock
  simp only[World.cell?,Array.getElem?_modify,if_true]at h⊢
  cases hw:w.heap[a.block]? with
  |none=>simp[hw]at h
  |some o=>
   cases o with
   |cells c e fr=>
    simp only[hw,Option.map_some,onCells]at h⊢
    split at h
    ·simp at h
    ·rename_i hs
     simp only[hs]
     simp only[Bool.false_eq_true,if_false]at h⊢
     rw[Option.isSome_iff_exists]at h⊢
     obtain⟨v,hv⟩:=h
     have hlt:=(Array.getElem?_eq_some_iff.1 hv).1
     exact⟨_,Array.getElem?_eq_getElem (by simpa[putCells]using hlt)⟩
   |_=>simp[hw]at h
 ·rw[show(putRow id w b off d).cell? a=w.cell? a from cell?_putRow_other id w b off d a (Or.inl hb)];exact h
theorem frozen_putRow(d:Array Value)(w:World)(b off:Nat)(a:Addr):(putRow id w b off d).frozen? a=w.frozen? a:=by
 unfold putRow mapBlock World.frozen?
 simp only[Array.getElem?_modify]
 by_cases hb:b=a.block
 ·subst hb
  simp only[if_true]
  cases w.heap[a.block]? with
  |none=>rfl
  |some o=>cases o<;>rfl
 ·simp[hb]
theorem writes_putRow(d:Array Value)(w:World)(b off:Nat):Writes w b (putRow id w b off d):=
 ⟨rfl,rfl,rfl,by simp,fun k hk=>by simp[putRow,mapBlock,Array.getElem?_modify,Ne.symm hk],fun a ha=>cell?_putCells d w b off a ha,fun a=>frozen_putRow d w b off a,rfl⟩
theorem sort_of{f g k:Nat}{enc:α->List Value}{encA:α->AV}{cf:α->α->Int}(hok:okFn P f=true)(hk:∀x,(enc x).length=k)(henc:∀x,(encA x).cells=(enc x).map .v)
  (hsort:∀(blk off cap:Nat) (d:Array α) (w:World),HoldsK enc k w blk off d->blk<w.heap.size->d.size<4611686018427387904->(∀(m:Nat) (os:Array Go.Obj) (dk:Array α),GlobOk (fun _=>False) (sortWorldK enc k w blk off m dk os))->
   Calls P f #[.slice (some ⟨blk,off,none⟩) d.size cap,.func (.func g) #[] #[]] w fun e w'=>e=.returned (.tuple #[])/\∃d' n os,PermIn 0 d.size d d'/\SortedIn (ltOf cf) 0 d.size d'/\w'=sortWorldK enc k w blk off n d' os)
  (hnone:∀(p:Option Addr) (cap:Nat) (fv:Value) (w:World),Calls P f #[.slice p 0 cap,fv] w fun e w'=>e=.returned (.tuple #[])/\w'=w)
  {d:List α}{len:Nat}(hlen:len=d.length)(hd:d.length<4611686018427387904){K:KT}
  (hK:∀d':List α,d'.Perm d->d'.Pairwise (fun x y=>ltOf cf y x=false)->K (.tup []) [.arr k (d'.map encA)]):
  ACall P f [.os 0 k 0 len,.fn (.func g) [] []] [.arr k (d.map encA)] K:=by
 refine ACall.intro hok fun ι E w vals r hv=>?_
 obtain⟨v0,vs,rfl,hv0,hv⟩:=hv.head
 obtain⟨v1,vs,e1,hv1,hv2⟩:=hv.head
 cases e1
 have hvs:vs=[]:=by have:=hv2.nil;simpa using this
 subst hvs
 have hfn:v1=.func (.func g) #[] #[]:=by
  cases hv1 with
  |fn _ _ _ F C hF hC _ _=>
   simp only[List.length_nil]at hF hC
   rw[Array.eq_empty_of_size_eq_zero hF.symm,Array.eq_empty_of_size_eq_zero hC.symm]
 subst hfn
 have hg:get (enumH 0 [.arr k (d.map encA)]) 0=some (.arr k (d.map encA)):=rfl
 rcases Nat.eq_zero_or_pos d.length with h0|h0
 ·have hd0:d=[]:=List.eq_nil_of_length_eq_zero h0
  subst hd0
  have hz:∃p cap,v0=.slice p 0 cap:=by
   subst hlen
   cases hv0 with
   |osz _ _ _ a=>exact⟨a,0,rfl⟩
   |os _ _ _ _ b base cap hι hc h=>exact⟨_,cap,rfl⟩
  obtain⟨p,cap,rfl⟩:=hz
  refine(hnone p cap _ w).mono ?_
  rintro e w' ⟨rfl,rfl⟩
  exact⟨_,.tup [],[.arr k []],ι,E,rfl,hK [] (List.Perm.refl _) List.Pairwise.nil,r,.tup [] #[] rfl (fun i x y hx _=>by simp at hx),Ext.refl⟩
 ·have hpos:0<len:=by omega
  cases hv0 with
  |osz _ _ _ a=>omega
  |os _ _ _ _ b base cap hι hc hcell=>
   have hsz:=sz_of r hg
   rcases r.obj 0 _ hg with⟨h1,_⟩|⟨b',base',h1,h2,h3,h4,h5⟩
   ·rw[hι]at h1;cases h1
   ·rw[hι]at h1;cases h1
    have hbang:∀{l:List α} {i:Nat} (hi:i<l.length),l.toArray[i]! =l[i]:=fun {l i} hi=>by simp[hi]
    have hH:HoldsK enc k w b base d.toArray:=by
     intro t ht
     have ht':t<d.toArray.size*k:=by simpa using ht
     have kp:0<k:=by
      rcases Nat.eq_zero_or_pos k with h0|h0
      ·subst h0;simp at ht'
      ·exact h0
     have hi:t/k<d.length:=by
      rw[Nat.div_lt_iff_lt_mul kp];simpa using ht'
     have hc:=Nat.mod_lt t kp
     rw[get_flatK _ _ _ _ ht',hbang hi]
     have hxi:(d.map encA)[t/k]? =some (encA d[t/k]):=by simp[hi]
     have hcl:(enc d[t/k])[t%k]? =some ((enc d[t/k])[t%k]'(by rw[hk];exact hc)):=List.getElem?_eq_getElem _
     have hcc:(encA d[t/k]).cells[t%k]? =some (.v ((enc d[t/k])[t%k]'(by rw[hk];exact hc))):=by rw[henc,List.getElem?_map,hcl];rfl
     obtain⟨u,e1,e2,e3⟩:=h5 _ _ _ _ hxi hcc
     have hu:u=(enc d[t/k])[t%k]'(by rw[hk];exact hc):=by cases e3;rfl
     have hoff:base+t/k*k+t%k=base+t:=by
      have:=Nat.div_add_mod t k
      rw[Nat.mul_comm]at this
      omega
     rw[hoff]at e1 e2
     refine⟨?_,e2⟩
     rw[e1,hu,getElem!_pos (enc d[t/k]) (t%k) (by rw[hk];exact hc)]
     rfl
    have hgl:∀(m:Nat) (os:Array Go.Obj) (dk:Array α),GlobOk (fun _=>False) (sortWorldK enc k w b base m dk os):=fun m os dk=>by
     have g1:=r.glob.keep ((writes_putRow (Go.Sort.flatK enc k dk) w b base).keeps h2)
     exact(glob_grow g1 m os).none
    have h:=hsort b base cap d.toArray w hH h3 (by simpa using hd) hgl
    rw[show base+0*k=base by omega,hlen,show d.length=d.toArray.size by simp]
    refine h.mono ?_
    rintro e w' ⟨rfl,d',m,os,hp,hs,rfl⟩
    obtain⟨p1,p2,p3⟩:=hp
    have hd':d'.size=d.length:=by simpa using p1
    have hH':=holdsK_sortWorldK_c enc k w b base d.toArray d' m os hH h3 p1
    have hperm:d'.toList.Perm d:=by
     have e1:(d'.extract 0 d.toArray.size)=d':=by rw[<-p1];simp
     rw[e1]at p3
     simpa using p3
    refine⟨_,.tup [],[.arr k (d'.toList.map encA)],ι,E,rfl,hK _ hperm ?_,?_⟩
    ·rw[List.pairwise_iff_getElem]
     intro i j hi hj hij
     have:=hs i j (Nat.zero_le _) hij (by simp at hj;simpa[<-hd']using hj)
     simp at hi hj
     rw[getElem!_pos d' i hi,getElem!_pos d' j hj]at this
     simpa using this
    · -- the world: drawn on, the row put, blocks laid behind
      have e0:sortWorldK enc k w b base m d' os=grow (Sort.ahead (putRow id w b base (Go.Sort.flatK enc k d')) m) os:=rfl
      have ho:ORel E (putRow id w b base (Go.Sort.flatK enc k d')) ι 0 (.arr k (d'.toList.map encA)):=by
       refine .inr ⟨b,base,hι,h2,by simpa using h3,fun i x hx=>?_,fun i x j c hx hc=>?_⟩
       ·rw[List.getElem?_map,Option.map_eq_some_iff]at hx
        obtain⟨y,_,rfl⟩:=hx
        rw[henc,List.length_map,hk]
       ·rw[List.getElem?_map,Option.map_eq_some_iff]at hx
        obtain⟨y,hy,rfl⟩:=hx
        rw[henc,List.getElem?_map,Option.map_eq_some_iff]at hc
        obtain⟨u,hu,rfl⟩:=hc
        have hi:i<d'.size:=by have:=(List.getElem?_eq_some_iff.1 hy).1;simpa using this
        have hj:j<k:=by have:=(List.getElem?_eq_some_iff.1 hu).1;rwa[hk]at this
        have hHp:=holdsK_putRowK enc k w b base d.toArray d' hH p1
        have:=HoldsK.cell hHp hi hj
        have ey:d'[i]! =y:=by
         rw[getElem!_pos d' i hi]
         have:d'.toList[i]? =some d'[i]:=by simp[hi]
         rw[this]at hy;exact Option.some.inj hy
        rw[ey,getElem!_pos (enc y) j (by rw[hk];exact hj)]at this
        have eu:(enc y)[j]'(by rw[hk];exact hj)=u:=by
         rw[List.getElem?_eq_getElem (by rw[hk];exact hj)]at hu;exact Option.some.inj hu
        rw[eu]at this
        exact⟨u,this.1,this.2,.v _⟩
      have hput:=step_put (h0:=[]) r (fun id o hg=>by simp[get]at hg) hg hι rfl (writes_putRow (Go.Sort.flatK enc k d') w b base) (fun _ _ h=>h) hι (fun _ _=>rfl) (Nat.le_refl _) r.fresh ho rfl
      have hgr:=rep_grow hput.1 m os
      rw[e0]
      exact⟨hgr.1,.tup [] #[] rfl (fun i x y hx _=>by simp at hx),hput.2.trans hgr.2⟩
end
end Go.Vm
namespace Go.Proofs.YtbdikofefjljoaaGreatDoor
open Go Go.Vm Go.Sort Go.Shelf Go.Proofs
instance:Inhabited Rg:=⟨⟨0,0,by decide,by decide,by decide,by decide⟩⟩
def encV(r:Rg):List Value:=[.int .u32 r.lo,.int .u32 r.hi]
def cmpR(r s:Rg):Int:=cmpI r.lo s.lo
theorem ltR(r s:Rg):ltOf cmpR r s=decide (r.lo<s.lo):=by
 unfold ltOf cmpR cmpI
 by_cases h1:r.lo<s.lo
 ·simp[h1]
 ·by_cases h2:s.lo<r.lo<;>simp[h1,h2]
theorem swoR:SWO (ltOf cmpR) where
 irrefl x:=by rw[ltR];simp
 trans x y z h1 h2:=by rw[ltR]at*;simp at*;omega
 ntrans x y z h1 h2:=by rw[ltR]at*;simp at*;omega
theorem sorts:Sorts:=by
 intro d n hn hd K hK
 have eg:∀args w,(callFunc 303 args).run Tryz.prog w=.ok (.enter 303 args) w:=enters_of Tryz.func303 zk rfl
 refine sort_of (k:=2) (enc:=encV) (encA:=encR) (cf:=cmpR) zk (fun _=>rfl) (fun _=>rfl) (fun blk off cap d w hH hb hs hgl=>?_) (fun p cap fv w=>?_) hn zo (fun d' hp hs=>hK d' hp (hs.imp fun h=>?_))
 ·exact AnyQ.slices_SortFunc Tryz.sortR 2 Tryz.isAgg111 Tryz.sizeOf111 encV (fun _=>rfl) (fun x v hv=>by simp[encV]at hv;rcases hv with rfl|rfl<;>rfl) cmpR swoR 303 #[] blk off cap d w eg
   (cmpLays_of hgl fun x y=>c47 x y ⟨rfl,rfl⟩) hH hb hs
 ·exact AnyF.slices_SortFunc_none Tryz.sortR p cap fv w
 ·rw[ltR]at h;simp at h;omega
end Go.Proofs.YtbdikofefjljoaaGreatDoor
