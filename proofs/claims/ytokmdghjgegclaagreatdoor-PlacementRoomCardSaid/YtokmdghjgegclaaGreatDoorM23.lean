/- Where the pairs of policies are placed, and the errors, are those of the reference: the statement PlacementAgreesCardSaid holds, for every input, without a condition of ours (its card ties the package-level variables to the program's text). -/
import Derived.Test.YtokmdghjgegclaaGreatDoorProg
import Derived.Test.YtokmdghjgegclaaGreatDoorM22
set_option linter.unusedVariables false
set_option linter.unusedSimpArgs false
set_option maxRecDepth 100000
set_option maxHeartbeats 4000000
namespace Go.Proofs.YtokmdghjgegclaaGreatDoor
open Go Go.Vm
noncomputable abbrev nilNt:Vm.Obj:=.box [.nils,.nils,.nils,.nils,.nils,.nils]
noncomputable abbrev itBox(x:It):Vm.Obj:=.box [.v (.int .i64 x.kind),.v (.string x.name),.v (.int .u32 x.pf.addr),.v (.int .i64 x.pf.bits),.v (.int .i64 x.proto),.v (.int .u32 x.ports.lo),.v (.int .u32 x.ports.hi)]
def SvcIt(y:It):Prop:=(y.kind=3/\y.proto=0/\y.ports.lo=0/\y.ports.hi=0)\/(y.proto=6\/y.proto=17)\/(y.proto=1/\y.ports.lo=8/\y.ports.hi=8)\/(y.proto=50/\y.ports.lo=0/\y.ports.hi=0)
structure GNt (i:Nt):Prop where
 few:Few i
 s2:i.svcs.length<=2
 sv:∀d,d∈i.svcs->∀y,y∈d.items->SvcIt y
theorem pb_ex{raw:List Int}{L:Nat×List Pb->Prop}(a b c:Int)(d:ByteArray)(e f:Int)(q:Nat)(hL:L (q,[⟨a,b,c,d,e,f⟩]))(hR:q<=raw.length):∃g:Nat×List Pb,(g.1<=raw.length/\g.2.length<=1)/\L g:=⟨_,⟨hR,by simp⟩,hL⟩
theorem cnInt(raw:List Int)(pos:Nat)(t:Tp)(hte:t.edges.length<=5)(htd:t.devs.length<=100)(hp:pos<=raw.length)(hr:raw.length<=9223372036854775807){K:KT}
  (hK:∀(i:Nt) (pos':Nat),GNt i->pos'<=raw.length->K (encNt i) [tapeO raw pos']):
  ACall Tryz.prog 36 [.op 0 0,encT t,.v (.int .i64 3)] [tapeO raw pos] K:=by
 refine ofnInt rfl rfl ?_
 (repeat' ((conv=>whnf);first|(with_reducible refine nNext raw _ _ (by omega) (by assumption) hr fun m1 p1 hm1 hp1=>?_)|refine zG ?_|apply zA|(apply zI;intro h)|exact zT));(all_goals conv=>whnf)
 refine Lp.intro (Nat×Nat×List Df) (fun g=>⟨7,[(0,tapeO raw g.1),(1,boxT t),(2,nilNt),(3,.box [.os 4 2 0 g.2.2.length,.os 5 2 0 0,.os 6 2 0 0,.nils,.nils,.nils]),(4,.arr 2 (g.2.2.map encDf)),(5,.arr 2 []),(6,.arr 2 [])],[(0,.op 0 0),(2,.v (.int .i64 3)),(4,.op 1 0),(6,.op 2 0),(7,.op 3 0),(8,.v (.int .i64 g.2.1))]⟩)
  (fun g=>g.1<=raw.length/\g.2.1+g.2.2.length<=3/\∀d,d∈g.2.2->d.items.length<=2) (fun g=>g.2.1) (p1,m1+1,[]) ⟨hp1,by simp only[List.length_nil];omega,fun d h=>by simp at h⟩ ?_ ?_
 ·rw[show(((p1,m1+1,[]):Nat×Nat×List Df).2.1:Int)=1+(m1:Int)from by simp only;omega]
  (exact leA)
 rintro⟨p,k,gs⟩ ⟨h1,h2,h3⟩
 simp only at h1 h2 h3⊢
 rcases Nat.lt_or_ge 0 k with hk|hk
 ·obtain⟨k',rfl⟩:∃k',k=k'+1:=⟨k-1,by omega⟩
  have hk1:((k'+1:Nat):Int)-1=(k':Int):=by omega
  (repeat' ((conv=>whnf);first|(with_reducible first|refine nNext raw _ _ (by omega) (by assumption) hr fun m1 p1 hm1 hp1=>?_|refine wr_i64 hk1 (by omega) (by omega) ?_|refine in_nat (by omega) ?_|refine ix_strs [⟨#[103,49]⟩,⟨#[103,50]⟩,⟨#[103,51]⟩] 3 rfl rfl (by omega) fun c hc=>?_)|refine zG ?_|apply zA|(apply zI;intro h)|exact zT));(all_goals conv=>whnf)
  refine Lp.intro (Nat×Nat×List It) (fun g=>⟨9,[(0,tapeO raw g.1),(1,boxT t),(2,nilNt),(3,.box [.os 4 2 0 gs.length,.os 5 2 0 0,.os 6 2 0 0,.nils,.nils,.nils]),(4,.arr 2 (gs.map encDf)),(5,.arr 2 []),(6,.arr 2 []),(7,.box [.v (.string c),.os 8 7 0 g.2.2.length]),(8,.arr 7 (g.2.2.map encIt))],[(0,.op 0 0),(2,.v (.int .i64 3)),(4,.op 1 0),(6,.op 2 0),(7,.op 3 0),(8,.v (.int .i64 ((k'+1:Nat):Int))),(9,.op 7 0),(10,.v (.int .i64 g.2.1))]⟩)
   (fun g=>g.1<=raw.length/\g.2.1+g.2.2.length<=2) (fun g=>g.2.1) (p1,m1+1,[]) ⟨by with_reducible assumption,by simp only[List.length_nil];omega⟩ ?_ ?_
  ·rw[show(((p1,m1+1,[]):Nat×Nat×List It).2.1:Int)=1+(m1:Int)from by simp only;omega]
   (exact leA)
  clear h1 p hm1 hp1 m1 p1
  rintro⟨p,m,its⟩ ⟨h1,h4⟩
  simp only at h1 h4⊢
  rcases Nat.lt_or_ge 0 m with hm|hm
  ·obtain⟨m',rfl⟩:∃m',m=m'+1:=⟨m-1,by omega⟩
   have hm1:((m'+1:Nat):Int)-1=(m':Int):=by omega
   (repeat' ((conv=>whnf);first|(with_reducible refine cnPref raw _ (by with_reducible assumption) hr fun q p2 hp2=>?_)|refine zG ?_|apply zA|(apply zI;intro h)|exact zT));(all_goals conv=>whnf)
   all_goals
    refine Jn.intro (It×Nat) (fun g=>⟨10,[(0,tapeO raw g.2),(1,boxT t),(2,nilNt),(3,.box [.os 4 2 0 gs.length,.os 5 2 0 0,.os 6 2 0 0,.nils,.nils,.nils]),(4,.arr 2 (gs.map encDf)),(5,.arr 2 []),(6,.arr 2 []),(7,.box [.v (.string c),.os 8 7 0 its.length]),(8,.arr 7 (its.map encIt)),(9,itBox g.1)],[(0,.op 0 0),(2,.v (.int .i64 3)),(4,.op 1 0),(6,.op 2 0),(7,.op 3 0),(8,.v (.int .i64 ((k'+1:Nat):Int))),(9,.op 7 0),(10,.v (.int .i64 ((m'+1:Nat):Int))),(11,.op 9 0)]⟩) (fun g=>g.2<=raw.length) ?_ ?_
    ·(repeat' ((conv=>whnf);first|(with_reducible first|refine nNext raw _ _ (by(try simp only[List.length_map]);omega) (by with_reducible assumption) hr fun m1 p1 hm1 hp1=>?_|refine in_map (by(try simp only[List.length_map]at*);omega) ?_|refine ix_map_any (f:=encE) (by(try simp only[List.length_map]at*);omega) fun e he=>?_)|refine zG ?_|apply zA|(apply zI;intro h)|exact zT));(all_goals conv=>whnf)
     all_goals first
      |(refine⟨(⟨1,e.zone,noPf,0,zR⟩,p1),(by with_reducible assumption),?_⟩
        (exact leA)
        done)
      |(refine⟨(⟨2,⟨#[]⟩,q,0,zR⟩,p1),(by with_reducible assumption),?_⟩
        (exact leA)
        done)
    rintro⟨y0,p4⟩ hp4
    simp only at hp4⊢
    (repeat' ((conv=>whnf);first|refine zG ?_|apply zA|(apply zI;intro h)|exact zT));(all_goals conv=>whnf)
    all_goals
     refine Jn.intro (It×Nat) (fun g=>⟨10,[(0,tapeO raw g.2),(1,boxT t),(2,nilNt),(3,.box [.os 4 2 0 gs.length,.os 5 2 0 0,.os 6 2 0 0,.nils,.nils,.nils]),(4,.arr 2 (gs.map encDf)),(5,.arr 2 []),(6,.arr 2 []),(7,.box [.v (.string c),.os 8 7 0 its.length]),(8,.arr 7 (its.map encIt)),(9,itBox g.1)],[(0,.op 0 0),(2,.v (.int .i64 3)),(4,.op 1 0),(6,.op 2 0),(7,.op 3 0),(8,.v (.int .i64 ((k'+1:Nat):Int))),(9,.op 7 0),(10,.v (.int .i64 ((m'+1:Nat):Int))),(11,.op 9 0)]⟩) (fun g=>g.2<=raw.length) ?_ ?_
     ·(repeat' ((conv=>whnf);first|(with_reducible first|refine nNext raw _ _ (by(try simp only[List.length_map]);omega) (by with_reducible assumption) hr fun m1 p1 hm1 hp1=>?_|refine In.intro 0 rfl (by(try simp only[List.length_map]at*);omega) ?_|refine ix_map_any (f:=encDf) (by(try simp only[List.length_map]at*);omega) fun d hd=>?_)|refine zG ?_|apply zA|(apply zI;intro h)|exact zT));(all_goals conv=>whnf)
      all_goals first
       |(refine⟨(⟨3,d.name,noPf,0,zR⟩,p1),(by with_reducible assumption),?_⟩
         (exact leA)
         done)
       |(refine⟨(y0,p1),(by with_reducible assumption),?_⟩
         (exact leA)
         done)
       |(refine⟨(y0,p4),(by with_reducible assumption),?_⟩
         (exact leA)
         done)
     rintro⟨y,p3⟩ hp3
     simp only at hp3⊢
     (repeat' ((conv=>whnf);first|(with_reducible refine wr_i64 hm1 (by omega) (by omega) ?_)|refine zG ?_|apply zA|(apply zI;intro h)|exact zT));(all_goals conv=>whnf)
     refine⟨(p3,m',its++[y]),⟨hp3,by simp only[List.length_append,List.length_cons,List.length_nil];omega⟩,by simp only;omega,?_⟩
     simp only[List.map_append,List.length_append,List.map_cons,List.map_nil,List.length_cons,List.length_nil]
     (exact leA)
  ·obtain rfl:m=0:=by omega
   (repeat' ((conv=>whnf);first|(with_reducible refine wr_i64 hk1 (by omega) (by omega) ?_)|refine zG ?_|apply zA|(apply zI;intro h)|exact zT));(all_goals conv=>whnf)
   refine⟨(p,k',gs++[⟨c,its⟩]),⟨h1,by simp only[List.length_append,List.length_cons,List.length_nil];omega,fun d hd=>by
    rcases List.mem_append.1 hd with hd|hd
    ·exact h3 d hd
    ·rw[List.mem_singleton.1 hd];simp only;omega⟩,by simp only;omega,?_⟩
   simp only[List.map_append,List.length_append,List.map_cons,List.map_nil,List.length_cons,List.length_nil]
   (exact leA)
 obtain rfl:k=0:=by omega
 clear hk
 (repeat' ((conv=>whnf);first|(with_reducible refine nNext raw _ _ (by omega) (by with_reducible assumption) hr fun m1 p1 hm1 hp1=>?_)|refine zG ?_|apply zA|(apply zI;intro h)|exact zT));(all_goals conv=>whnf)
 refine Lp.intro (Nat×Nat×List Df) (fun g=>⟨7,[(0,tapeO raw g.1),(1,boxT t),(2,nilNt),(3,.box [.os 4 2 0 gs.length,.os 5 2 0 g.2.2.length,.os 6 2 0 0,.nils,.nils,.nils]),(4,.arr 2 (gs.map encDf)),(5,.arr 2 (g.2.2.map encDf)),(6,.arr 2 [])],[(0,.op 0 0),(2,.v (.int .i64 3)),(4,.op 1 0),(6,.op 2 0),(7,.op 3 0),(13,.v (.int .i64 g.2.1))]⟩)
  (fun g=>g.1<=raw.length/\g.2.1+g.2.2.length<=2/\(∀d,d∈g.2.2->d.items.length<=2)/\∀d,d∈g.2.2->∀y,y∈d.items->SvcIt y) (fun g=>g.2.1) (p1,m1,[]) ⟨by with_reducible assumption,by simp only[List.length_nil];omega,fun d h=>by simp at h,fun d h=>by simp at h⟩ ?_ ?_
 ·(exact leA)
 clear h1 p hm1 hp1 m1 p1
 rintro⟨p,k,ss⟩ ⟨h1,h4,h5,h6⟩
 simp only at h1 h4 h5 h6⊢
 rcases Nat.lt_or_ge 0 k with hk|hk
 ·obtain⟨k',rfl⟩:∃k',k=k'+1:=⟨k-1,by omega⟩
  have hk1:((k'+1:Nat):Int)-1=(k':Int):=by omega
  (repeat' ((conv=>whnf);first|(with_reducible first|refine nNext raw _ _ (by(try simp only[List.length_map]);omega) (by with_reducible assumption) hr fun m1 p1 hm1 hp1=>?_|refine wr_i64 hk1 (by omega) (by omega) ?_|refine in_nat (by omega) ?_|refine ix_strs [⟨#[119,101,98]⟩,⟨#[115,115,104]⟩,⟨#[100,110,115]⟩] 3 rfl rfl (by omega) fun c hc=>?_)|refine zG ?_|apply zA|(apply zI;intro h)|exact zT));(all_goals conv=>whnf)
  refine Lp.intro (Nat×Nat×List It) (fun g=>⟨9,[(0,tapeO raw g.1),(1,boxT t),(2,nilNt),(3,.box [.os 4 2 0 gs.length,.os 5 2 0 ss.length,.os 6 2 0 0,.nils,.nils,.nils]),(4,.arr 2 (gs.map encDf)),(5,.arr 2 (ss.map encDf)),(6,.arr 2 []),(7,.box [.v (.string c),.os 8 7 0 g.2.2.length]),(8,.arr 7 (g.2.2.map encIt))],[(0,.op 0 0),(2,.v (.int .i64 3)),(4,.op 1 0),(6,.op 2 0),(7,.op 3 0),(13,.v (.int .i64 ((k'+1:Nat):Int))),(14,.op 7 0),(15,.v (.int .i64 g.2.1))]⟩)
   (fun g=>g.1<=raw.length/\g.2.1+g.2.2.length<=2/\∀y,y∈g.2.2->SvcIt y) (fun g=>g.2.1) (p1,m1+1,[]) ⟨by with_reducible assumption,by simp only[List.length_nil];omega,fun y h=>by simp at h⟩ ?_ ?_
  ·rw[show(((p1,m1+1,[]):Nat×Nat×List It).2.1:Int)=1+(m1:Int)from by simp only;omega]
   (exact leA)
  clear h1 p hm1 hp1 m1 p1
  rintro⟨p,m,its⟩ ⟨h1,h7,h8⟩
  simp only at h1 h7 h8⊢
  rcases Nat.lt_or_ge 0 m with hm|hm
  ·obtain⟨m',rfl⟩:∃m',m=m'+1:=⟨m-1,by omega⟩
   have hmm:((m'+1:Nat):Int)-1=(m':Int):=by omega
   (repeat' ((conv=>whnf);first|(with_reducible first|refine nNext raw _ _ (by(try simp only[List.length_map]);omega) (by with_reducible assumption) hr fun m1 p1 hm1 hp1=>?_|refine in_nat (by omega) ?_|refine ix_ints [6,17,6,1,50] 5 rfl rfl (by omega) fun v hv=>?_)|refine zG ?_|apply zA|(apply zI;intro h)|exact zT));(all_goals conv=>whnf)
   simp only[List.mem_cons,List.not_mem_nil,or_false]at hv
   refine Jn.intro (It×Nat) (fun g=>⟨10,[(0,tapeO raw g.2),(1,boxT t),(2,nilNt),(3,.box [.os 4 2 0 gs.length,.os 5 2 0 ss.length,.os 6 2 0 0,.nils,.nils,.nils]),(4,.arr 2 (gs.map encDf)),(5,.arr 2 (ss.map encDf)),(6,.arr 2 []),(7,.box [.v (.string c),.os 8 7 0 its.length]),(8,.arr 7 (its.map encIt)),(9,itBox g.1)],[(0,.op 0 0),(2,.v (.int .i64 3)),(4,.op 1 0),(6,.op 2 0),(7,.op 3 0),(13,.v (.int .i64 ((k'+1:Nat):Int))),(14,.op 7 0),(15,.v (.int .i64 ((m'+1:Nat):Int))),(16,.op 9 0)]⟩) (fun g=>g.2<=raw.length/\SvcIt g.1) ?_ ?_
   ·(repeat' ((conv=>whnf);first|(with_reducible refine cnRange raw _ 65535 (by decide) (by decide) (by with_reducible assumption) hr fun r p2 hp2=>?_)|refine zG ?_|apply zA|(apply zI;intro h)|exact zT));(all_goals conv=>whnf)
    all_goals first
     |(refine⟨(⟨4,⟨#[]⟩,noPf,v,⟨8,8,by decide,by decide,by decide,by decide⟩⟩,p1),⟨by with_reducible assumption,.inr (.inr (.inl ⟨by simp only;omega,rfl,rfl⟩))⟩,?_⟩
       (exact leA)
       done)
     |(refine⟨(⟨4,⟨#[]⟩,noPf,v,r⟩,p2),⟨by with_reducible assumption,.inr (.inl (by simp only;omega))⟩,?_⟩
       (exact leA)
       done)
     |(refine⟨(⟨4,⟨#[]⟩,noPf,v,zR⟩,p1),⟨by with_reducible assumption,.inr (.inr (.inr ⟨by simp only;omega,rfl,rfl⟩))⟩,?_⟩
       (exact leA)
       done)
     |trace_state
   rintro⟨y0,p4⟩ ⟨hp4,hy0⟩
   simp only at hp4 hy0⊢
   (repeat' ((conv=>whnf);first|refine zG ?_|apply zA|(apply zI;intro h)|exact zT));(all_goals conv=>whnf)
   refine Jn.intro (It×Nat) (fun g=>⟨10,[(0,tapeO raw g.2),(1,boxT t),(2,nilNt),(3,.box [.os 4 2 0 gs.length,.os 5 2 0 ss.length,.os 6 2 0 0,.nils,.nils,.nils]),(4,.arr 2 (gs.map encDf)),(5,.arr 2 (ss.map encDf)),(6,.arr 2 []),(7,.box [.v (.string c),.os 8 7 0 its.length]),(8,.arr 7 (its.map encIt)),(9,itBox g.1)],[(0,.op 0 0),(2,.v (.int .i64 3)),(4,.op 1 0),(6,.op 2 0),(7,.op 3 0),(13,.v (.int .i64 ((k'+1:Nat):Int))),(14,.op 7 0),(15,.v (.int .i64 ((m'+1:Nat):Int))),(16,.op 9 0)]⟩) (fun g=>g.2<=raw.length/\SvcIt g.1) ?_ ?_
   ·(repeat' ((conv=>whnf);first|(with_reducible first|refine nNext raw _ _ (by(try simp only[List.length_map]);omega) (by with_reducible assumption) hr fun m1 p1 hm1 hp1=>?_|refine In.intro 0 rfl (by(try simp only[List.length_map]at*);omega) ?_|refine ix_map_any (f:=encDf) (by(try simp only[List.length_map]at*);omega) fun d hd=>?_)|refine zG ?_|apply zA|(apply zI;intro h)|exact zT));(all_goals conv=>whnf)
    all_goals first
     |(refine⟨(⟨3,d.name,noPf,0,zR⟩,p1),⟨by with_reducible assumption,.inl ⟨rfl,rfl,rfl,rfl⟩⟩,?_⟩
       (exact leA)
       done)
     |(refine⟨(y0,p1),⟨by with_reducible assumption,hy0⟩,?_⟩
       (exact leA)
       done)
     |(refine⟨(y0,p4),⟨by with_reducible assumption,hy0⟩,?_⟩
       (exact leA)
       done)
   rintro⟨y,p3⟩ ⟨hp3,hyv⟩
   simp only at hp3 hyv⊢
   (repeat' ((conv=>whnf);first|(with_reducible refine wr_i64 hmm (by omega) (by omega) ?_)|refine zG ?_|apply zA|(apply zI;intro h)|exact zT));(all_goals conv=>whnf)
   refine⟨(p3,m',its++[y]),⟨hp3,by simp only[List.length_append,List.length_cons,List.length_nil];omega,fun z hz=>by
    rcases List.mem_append.1 hz with hz|hz
    ·exact h8 z hz
    ·rw[List.mem_singleton.1 hz];exact hyv⟩,by simp only;omega,?_⟩
   simp only[List.map_append,List.length_append,List.map_cons,List.map_nil,List.length_cons,List.length_nil]
   (exact leA)
  ·obtain rfl:m=0:=by omega
   (repeat' ((conv=>whnf);first|(with_reducible refine wr_i64 hk1 (by omega) (by omega) ?_)|refine zG ?_|apply zA|(apply zI;intro h)|exact zT));(all_goals conv=>whnf)
   refine⟨(p,k',ss++[⟨c,its⟩]),⟨h1,by simp only[List.length_append,List.length_cons,List.length_nil];omega,fun d hd=>by
    rcases List.mem_append.1 hd with hd|hd
    ·exact h5 d hd
    ·rw[List.mem_singleton.1 hd];simp only;omega,fun d hd=>by
    rcases List.mem_append.1 hd with hd|hd
    ·exact h6 d hd
    ·rw[List.mem_singleton.1 hd];exact h8⟩,by simp only;omega,?_⟩
   simp only[List.map_append,List.length_append,List.map_cons,List.map_nil,List.length_cons,List.length_nil]
   (exact leA)
 obtain rfl:k=0:=by omega
 clear hk
 (repeat' ((conv=>whnf);first|refine zG ?_|apply zA|(apply zI;intro h)|exact zT));(all_goals conv=>whnf)
 refine Jn.intro (Nat×List Wn) (fun g=>⟨7,[(0,tapeO raw g.1),(1,boxT t),(2,nilNt),(3,.box [.os 4 2 0 gs.length,.os 5 2 0 ss.length,.os 6 2 0 g.2.length,.nils,.nils,.nils]),(4,.arr 2 (gs.map encDf)),(5,.arr 2 (ss.map encDf)),(6,.arr 2 (g.2.map encWn))],[(0,.op 0 0),(2,.v (.int .i64 3)),(4,.op 1 0),(6,.op 2 0),(7,.op 3 0)]⟩)
  (fun g=>g.1<=raw.length/\g.2.length<=1/\∀w,w∈g.2->w.act.length<=3000) ?_ ?_
 ·(repeat' ((conv=>whnf);first|(with_reducible first|refine nNext raw _ _ (by(try simp only[List.length_map]);omega) (by with_reducible assumption) hr fun m1 p1 hm1 hp1=>?_|refine cnWin raw _ (by with_reducible assumption) hr fun rs p2 hrs hp2=>?_)|refine zG ?_|apply zA|(apply zI;intro h)|exact zT));(all_goals conv=>whnf)
  all_goals first
   |(refine⟨(p2,[⟨⟨#[119,111,114,107]⟩,rs⟩]),⟨by with_reducible assumption,by simp,fun w hw=>by rw[List.mem_singleton.1 hw];exact hrs⟩,?_⟩
     (exact leA)
     done)
   |(refine⟨(p1,[]),⟨by with_reducible assumption,by simp,fun w hw=>by simp at hw⟩,?_⟩
     (exact leA)
     done)
   |trace_state
 rintro⟨p5,ws⟩ ⟨hp5,hw1,hw2⟩
 simp only at hp5 hw1 hw2⊢
 (repeat' ((conv=>whnf);first|(with_reducible first|refine sl_full (List.length_map ..) ?_|refine nNext raw _ _ (by(try simp only[List.length_map]);omega) (by with_reducible assumption) hr fun m1 p1 hm1 hp1=>?_)|refine zG ?_|apply zA|(apply zI;intro h)|exact zT));(all_goals conv=>whnf)
 refine Lp.intro (Nat×Nat×List Sm) (fun g=>⟨5,[(0,tapeO raw g.1),(1,boxT t),(2,nilNt),(3,.box [.lst (gs.map encDf),.lst (ss.map encDf),.lst (ws.map encWn),.os 4 10 0 g.2.2.length,.nils,.nils]),(4,.arr 10 (g.2.2.map encSm))],[(0,.op 0 0),(4,.op 1 0),(6,.op 2 0),(7,.op 3 0),(17,.v (.int .i64 g.2.1))]⟩)
  (fun g=>g.1<=raw.length/\g.2.1+g.2.2.length<=3) (fun g=>g.2.1) (p1,m1,[]) ⟨by with_reducible assumption,by simp only[List.length_nil];omega⟩ ?_ ?_
 ·(exact leA)
 clear h1 p hm1 hp1 m1 p1
 rintro⟨p,k,sts⟩ ⟨h1,h7⟩
 simp only at h1 h7⊢
 rcases Nat.lt_or_ge 0 k with hk|hk
 ·obtain⟨k',rfl⟩:∃k',k=k'+1:=⟨k-1,by omega⟩
  have hkk:((k'+1:Nat):Int)-1=(k':Int):=by omega
  (repeat' ((conv=>whnf);first|(with_reducible first|refine wr_i64 hkk (by omega) (by omega) ?_|refine cnStm raw _ t htd gs ss ws sts (by omega) (by omega) (by omega) (by with_reducible assumption) hr fun x p2 hp2=>?_)|refine zG ?_|apply zA|(apply zI;intro h)|exact zT));(all_goals conv=>whnf)
  all_goals
   refine⟨(p2,k',sts++[x]),⟨by with_reducible assumption,by simp only[List.length_append,List.length_cons,List.length_nil];omega⟩,by simp only;omega,?_⟩
   simp only[List.map_append,List.length_append,List.map_cons,List.map_nil,List.length_cons,List.length_nil]
   (exact leA)
 obtain rfl:k=0:=by omega
 clear hk
 (repeat' ((conv=>whnf);first|refine zG ?_|apply zA|(apply zI;intro h)|exact zT));(all_goals conv=>whnf)
 refine Jn.intro (Nat×List Pb) (fun g=>⟨7,[(0,tapeO raw g.1),(1,boxT t),(2,nilNt),(3,.box [.lst (gs.map encDf),.lst (ss.map encDf),.lst (ws.map encWn),.os 4 10 0 sts.length,.os 5 6 0 g.2.length,.os 6 5 0 0]),(4,.arr 10 (sts.map encSm)),(5,.arr 6 (g.2.map encPb)),(6,.arr 5 [])],[(0,.op 0 0),(4,.op 1 0),(6,.op 2 0),(7,.op 3 0)]⟩) (fun g=>g.1<=raw.length/\g.2.length<=1) ?_ ?_
 ·(repeat' ((conv=>whnf);first|(with_reducible first|refine nNext raw _ _ (by(try simp only[List.length_map]);omega) (by with_reducible assumption) hr fun m1 p1 hm1 hp1=>?_|refine In.intro 1 rfl (by(try simp only[List.length_map]at*);omega) ?_|refine In.intro 0 rfl (by(try simp only[List.length_map]at*);omega) ?_|refine ix_map_any (f:=encE) (by(try simp only[List.length_map]at*);omega) fun e he=>?_|refine crOf _ ?_|refine in_nat (by omega) ?_|refine ix_ints [6,17] 2 rfl rfl (by omega) fun v hv=>?_|refine cvNum raw _ 65535 (by decide) (by decide) (by with_reducible assumption) hr fun a p2 a0 a1 hp2=>?_)|refine zG ?_|apply zA|(apply zI;intro h)|exact zT));(all_goals conv=>whnf)
  all_goals first
   |(refine⟨(p1,[]),⟨by with_reducible assumption,by simp⟩,?_⟩
     (exact leA)
     done)
   |(refine⟨(p,[]),⟨by with_reducible assumption,by simp⟩,?_⟩
     (exact leA)
     done)
   |(apply pb_ex
     ·(exact leA)
     ·with_reducible assumption)
 rintro⟨p6,pbs⟩ ⟨hp6,hb1⟩
 simp only at hp6 hb1⊢
 (repeat' ((conv=>whnf);first|refine zG ?_|apply zA|(apply zI;intro h)|exact zT));(all_goals conv=>whnf)
 refine Jn.intro (Nat×List Hn) (fun g=>⟨7,[(0,tapeO raw g.1),(1,boxT t),(2,nilNt),(3,.box [.lst (gs.map encDf),.lst (ss.map encDf),.lst (ws.map encWn),.os 4 10 0 sts.length,.os 5 6 0 pbs.length,.os 6 5 0 g.2.length]),(4,.arr 10 (sts.map encSm)),(5,.arr 6 (pbs.map encPb)),(6,.arr 5 (g.2.map encHn))],[(0,.op 0 0),(4,.op 1 0),(6,.op 2 0),(7,.op 3 0)]⟩) (fun g=>g.1<=raw.length/\g.2.length<=1) ?_ ?_
 ·(repeat' ((conv=>whnf);first|(with_reducible first|refine nNext raw _ _ (by(try simp only[List.length_map]);omega) (by with_reducible assumption) hr fun m1 p1 hm1 hp1=>?_|refine in_map (by(try simp only[List.length_map]at*);omega) ?_|refine ix_map_any (f:=encE) (by(try simp only[List.length_map]at*);omega) fun e he=>?_|refine wr_u32_any fun r r0 r1=>?_)|refine zG ?_|apply zA|(apply zI;intro h)|exact zT));(all_goals conv=>whnf)
  all_goals first
   |(refine⟨(p1,[⟨⟨#[103,49]⟩,e.name,3325256705,⟨1024,r,by decide,by decide,r0,r1⟩⟩]),⟨by with_reducible assumption,by simp⟩,?_⟩
     (exact leA)
     done)
   |(refine⟨(p1,[]),⟨by with_reducible assumption,by simp⟩,?_⟩
     (exact leA)
     done)
   |(refine⟨(p6,[]),⟨by with_reducible assumption,by simp⟩,?_⟩
     (exact leA)
     done)
 rintro⟨p7,hds⟩ ⟨hp7,hh1⟩
 simp only at hp7 hh1⊢
 (repeat' ((conv=>whnf);first|(with_reducible refine sl_full (List.length_map ..) ?_)|refine zG ?_|apply zA|(apply zI;intro h)|exact zT));(all_goals conv=>whnf)
 refine hK ⟨gs,ss,ws,sts,pbs,hds⟩ p7 ⟨⟨⟨by simp only;omega,by simp only;omega,by simp only;omega,by simp only;omega,by simp only;omega,by simp only;omega,fun d hd=>Nat.le_trans (h3 d hd) (by decide),fun d hd=>Nat.le_trans (h5 d hd) (by decide),fun w hw=>Nat.le_trans (hw2 w hw) (by decide)⟩,by simp only;omega,by simp only;omega,h3,h5⟩,by simp only;omega,h6⟩ hp7
structure GPol (t:Tp) (p:Pol):Prop where
 ok:PolOk t p
 il:p.insp.length<=2000000
 how:(∃i,GNt i/\Resp t i p.allow)\/∃l:List Bx,l.length<=2/\p.allow=(combP anB (realP t).1 l).1
theorem cnPol(raw:List Int)(pos:Nat)(t:Tp)(ht:t.edges.length<=5)(hd:t.devs.length<=100)(hc:compB t=true)(hp:pos<=raw.length)(hr:raw.length<=9223372036854775807){K:KT}
  (hK:∀(p:Pol) (pos':Nat),GPol t p->pos'<=raw.length->K (encPol p) [tapeO raw pos']):
  ACall Tryz.prog 12 [.op 0 0,encT t] [tapeO raw pos] K:=by
 have hbx:∀(q:Nat),q<=raw.length->∀{K:KT},(∀(l:List Bx) (pos':Nat),l.length<=2->pos'<=raw.length->K (encXs l) [tapeO raw pos'])->ACall Tryz.prog 40 [.op 0 0,.v (.int .i64 2),.v (.bool false)] [tapeO raw q] K:=fun q hq K h=>
  ACall.args (ys:=[.op 0 0,.v (.int .i64 2),.sb false]) ⟨Weak.refl,Weak.refl,Weak.bool,trivial⟩ (cnBoxes raw q 2 (by decide) hq hr h)
 have hrl:=setB_len (setB_realP t)
 refine ACall.weak (ofnPol rfl rfl ?_)
 (repeat' ((conv=>whnf);first|(with_reducible first|refine cnInt raw _ t ht hd (by with_reducible assumption) hr fun i p2 hi hp2=>?_|refine cnMin raw _ (by with_reducible assumption) hr fun m p3 hp3=>?_|refine chAt t ht hd i hi.few m fun p e hpe=>?_)|refine zG ?_|apply zA|(apply zI;intro h)|exact zT));(all_goals conv=>whnf)
 all_goals
  have hgp:e=0->GPol t p:=fun h=>⟨(hpe h).1,(hpe h).2.2,.inl ⟨i,hi,(hpe h).2.1⟩⟩
  refine Jn.intro (Bool×Pol×Nat) (fun g=>match g.1 with
   |true=>⟨4,[(0,tapeO raw g.2.2),(1,boxT t),(2,.box [.nils,.nils]),(3,.box [encXs g.2.1.allow,.nils])],[(0,.op 0 0),(3,.op 1 0),(4,.op 2 0),(5,.op 3 0)]⟩
   |false=>⟨4,[(0,tapeO raw g.2.2),(1,boxT t),(2,.box [.nils,.nils]),(3,.box [encXs g.2.1.allow,.lst (g.2.1.insp.map encIn)])],[(0,.op 0 0),(3,.op 1 0),(4,.op 2 0),(5,.op 3 0)]⟩) (fun g=>GPol t g.2.1/\(g.1=true->g.2.1.insp=[])/\g.2.2<=raw.length) ?_ ?_
  ·(repeat' ((conv=>whnf);first|(with_reducible first|refine nNext raw _ _ (by omega) (by with_reducible assumption) hr fun m1 p1 hm1 hp1=>?_|refine chReal t ht hc ?_|refine hbx _ (by with_reducible assumption) fun l p4 hl hp4=>?_|refine cr4Int (realP t).1 _ hrl (by omega) ?_)|refine zG ?_|apply zA|(apply zI;intro h)|exact zT));(all_goals conv=>whnf)
   all_goals first
    |(refine⟨(true,⟨(combP anB (realP t).1 l).1,[]⟩,p4),⟨⟨polOk_some hc,Nat.zero_le _,.inr ⟨l,hl,rfl⟩⟩,fun _=>rfl,by with_reducible assumption⟩,?_⟩
      (exact leA)
      done)
    |(refine⟨(false,p,p1),⟨hgp (by with_reducible assumption),fun h=>(by cases h),by with_reducible assumption⟩,?_⟩
      (exact leA)
      done)
    |trace_state
  clear hgp hpe
  rintro⟨b,p5,q5⟩ ⟨hg,hb,hq5⟩
  simp only at hg hb hq5⊢
  have hal:=setB_len hg.ok.set
  have h1b:∀(w:Bx) {K:KT},K (.tup [encXs (combP anB p5.allow [w]).1,.v (.int .i64 (combP anB p5.allow [w]).2)]) []->ACall Tryz.prog 39 [encXs p5.allow,.lst [encX w]] [] K:=fun w K h=>cr4Int p5.allow [w] hal (by simp) h
  have hA:p5.insp=[]->∀q,q<=raw.length->∃y,Weak (.agg [encXs p5.allow,.nils]) y/\K y [tapeO raw q]:=fun hin q hq=>
   ⟨_,Weak.agg (ys:=[encXs p5.allow,.lst []]) ⟨Weak.refl,Weak.nils,trivial⟩,by rw[show AV.agg [encXs p5.allow,.lst []]=encPol p5 from by(unfold encPol;rw[hin];rfl)];exact hK p5 q hg hq⟩
  have hC:∀q,q<=raw.length->∃y,Weak (encPol p5) y/\K y [tapeO raw q]:=fun q hq=>⟨_,Weak.refl,hK p5 q hg hq⟩
  have hB:p5.insp=[]->∀(w:Bx) (c:ByteArray) (q:Nat),q<=raw.length->c∈([⟨#[105,112,115]⟩,⟨#[100,108,112]⟩]:List ByteArray)->(0:Int)<(((combP anB p5.allow [w]).1.map encX).length:Int)->∃y,Weak (.agg [encXs p5.allow,.lst [.agg [.v (.string c),encXs (combP anB p5.allow [w]).1]]]) y/\K y [tapeO raw q]:=fun hin w c q hq hcm hl=>by
   have ho:PolOk t ⟨p5.allow,[]⟩:=by have:=hg.ok;cases p5;simp only at hin;subst hin;exact this
   have hn:nameOk c:=by
    simp only[List.mem_cons,List.not_mem_nil,or_false]at hcm
    rcases hcm with rfl|rfl
    ·exact nameOk_data (by decide)
    ·exact nameOk_data (by decide)
   exact⟨_,Weak.refl,hK ⟨p5.allow,[⟨c,(combP anB p5.allow [w]).1⟩]⟩ q ⟨polOk_insp ho hn (fun e=>by rw[e]at hl;simp at hl),by simp,hg.how⟩ hq⟩
  cases b with
  |true=>
   have hin:=hb rfl
   (repeat' ((conv=>whnf);first|(with_reducible first|refine nNext raw _ _ (by omega) (by with_reducible assumption) hr fun m1 p1 hm1 hp1=>?_|refine cnBox raw _ (by with_reducible assumption) hr fun w p4 hp4=>?_|refine h1b _ ?_|refine in_nat (by omega) ?_|refine ix_strs [⟨#[105,112,115]⟩,⟨#[100,108,112]⟩] 2 rfl rfl (by omega) fun c hcm=>?_)|refine zG ?_|apply zA|(apply zI;intro h)|exact zT));(all_goals conv=>whnf)
   all_goals first
    |exact hA hin _ (by with_reducible assumption)
    |exact hB hin w c _ (by with_reducible assumption) hcm (by with_reducible assumption)
    |trace_state
  |false=>
   by_cases hin:p5.insp=[]
   ·(repeat' ((conv=>whnf);first|(with_reducible first|refine nNext raw _ _ (by omega) (by with_reducible assumption) hr fun m1 p1 hm1 hp1=>?_|refine cnBox raw _ (by with_reducible assumption) hr fun w p4 hp4=>?_|refine h1b _ ?_|refine in_nat (by omega) ?_|refine ix_strs [⟨#[105,112,115]⟩,⟨#[100,108,112]⟩] 2 rfl rfl (by omega) fun c hcm=>?_)|refine zG ?_|apply zA|(apply zI;intro h)|exact zT));(all_goals conv=>whnf)
    all_goals first
     |exact hC _ (by with_reducible assumption)
     |exact hB hin w c _ (by with_reducible assumption) hcm (by with_reducible assumption)
     |trace_state
   ·have hlen:p5.insp.length≠0:=fun h=>hin (List.length_eq_zero_iff.1 h)
    (repeat' ((conv=>whnf);first|(with_reducible first|refine nNext raw _ _ (by omega) (by with_reducible assumption) hr fun m1 p1 hm1 hp1=>?_|refine cnBox raw _ (by with_reducible assumption) hr fun w p4 hp4=>?_|refine h1b _ ?_|refine in_nat (by omega) ?_|refine ix_strs [⟨#[105,112,115]⟩,⟨#[100,108,112]⟩] 2 rfl rfl (by omega) fun c hcm=>?_)|refine zG ?_|apply zA|(apply zI;intro h)|exact zT));(all_goals conv=>whnf)
    all_goals first
     |exact hC _ (by with_reducible assumption)
     |(exfalso;simp only[List.length_map]at*;omega)
     |trace_state
abbrev TopK(raw:List Int)(n:Nat)(K:AV->List Vm.Obj->Prop):Prop:=∀(t:Tp) (pos':Nat),GTop t->t.devs.length<=n->pos'<=raw.length->K (.agg [.os 1 5 0 t.devs.length,.os 2 3 0 t.links.length,.os 3 6 0 t.edges.length,.os 4 2 0 t.pools.length,.v (.int .i64 t.tol)]) [tapeO raw pos',.arr 5 (t.devs.map encD),.arr 3 (t.links.map encL),.arr 6 (t.edges.map encE),.arr 2 (t.pools.map encP)]
theorem cnTop3(raw:List Int)(pos:Nat)(hp:pos<=raw.length)(hr:raw.length<=9223372036854775807){K:KT}(hK:TopK raw 3 K):
  ACall Tryz.prog 10 [.op 0 0,.v (.int .i64 3)] [tapeO raw pos] K:=cnTop raw pos 3 (by decide) hp hr fun t p h1 h2 h3=>hK t p h1 (by omega) h3
theorem pol_sets{t:Tp}{p:Pol}(hp:PolOk t p):∀x,x∈p.insp->x.set.length<1000000000:=fun x hx=>by
 obtain⟨i,hi⟩:=List.mem_iff_getElem?.1 hx
 exact setB_len (hp.insp i x hi).set
theorem keys_len{t:Tp}{p:Pol}{m:List Pl}(h5:t.edges.length<=5)(h:m.map keyP=(pairsOf t p (idxI t.edges.length)).map keyP):m.length<=25:=by
 have h1:=congrArg List.length h
 rw[List.length_map,List.length_map]at h1
 have h2:=pairsOf_len t p (idxI t.edges.length)
 have h3:=preI_len t.edges.length t.edges.length 0
 have h4:t.edges.length*t.edges.length<=5*5:=Nat.mul_le_mul h5 h5
 rw[<-idxI]at h3
 omega
theorem pls_len{t:Tp}{m:List Pl}(h:plsB t m=true):∀x,x∈m->x.allow.length<1000000000:=fun x hx=>by
 obtain⟨i,hi⟩:=List.mem_iff_getElem?.1 hx
 have:=((plsB_iff.1 h).all i x hi).inn.len
 omega
noncomputable def gmWho:Ctx:={N:=37}
noncomputable def bmWho:Code:=bdy Tryz.f34
abbrev ofmWho:=@ofC Tryz.prog gmWho 34 Tryz.f34 bmWho Tryz.func34 (by kernel_rfl) (by kernel_rfl) (by kernel_rfl) (by kernel_rfl)
noncomputable def gmCost:Ctx:={N:=66,plan:=at1 2 (some (ln [1,3,5,7,9,11,13,15,17,19,21,23,25,27,29,31])) (at1 5 (some (ln [1,3,5,7,9,11,13,15,17,19,21,23,24,27,29,30])) (at1 6 (some (ln [1,3,5,7,9,11,13,15,17,21,23,25,27,29,31,18,32,35,37,38])) (fun _=>none))),cut:=at1 5 (true) (fun _=>false)}
noncomputable def bmCost:Code:=bdy Tryz.f46
abbrev ofmCost:=@ofC Tryz.prog gmCost 46 Tryz.f46 bmCost Tryz.func46 (by kernel_rfl) (by kernel_rfl) (by kernel_rfl) (by kernel_rfl)
noncomputable def gmFits:Ctx:={N:=23,plan:=at1 4 (some (ln [1,3,5,7,9,11,13,15,17,19,21])) (fun _=>none)}
noncomputable def bmFits:Code:=bdy Tryz.f47
abbrev ofmFits:=@ofC Tryz.prog gmFits 47 Tryz.f47 bmFits Tryz.func47 (by kernel_rfl) (by kernel_rfl) (by kernel_rfl) (by kernel_rfl)
noncomputable def gmPlace:Ctx:={N:=85,hints:=at1 4 ([.virt 6 4]) (at1 6 ([.freeze 8]) (fun _=>[]))}
noncomputable def bmPlace:Code:=bdy Tryz.f18
abbrev ofmPlace:=@ofC Tryz.prog gmPlace 18 Tryz.f18 bmPlace Tryz.func18 (by kernel_rfl) (by kernel_rfl) (by kernel_rfl) (by kernel_rfl)
noncomputable def gmVal:Ctx:={N:=111,plan:=at1 7 (some (ln [1,3,5,7,9,11,13,15,17,19,21,23,25,27,29,31,33,35,37,39,41,43,45,47,49,51,53,55,57,59,61,63,65,67,69,71,73,75,77,79,80,83,85,87,89,91,93,95,97,99,101,102,104,106,109,111])) (at1 9 (some (ln [1,3,5,7,9,11,13,15,17,19,21,23,25,27,29,31,33,35,37,39,41,43,45,47,49,51,53,55,57,59,61,63,65,67,69])) (fun _=>none))}
noncomputable def bmVal:Code:=bdy Tryz.f50
abbrev ofmVal:=@ofC Tryz.prog gmVal 50 Tryz.f50 bmVal Tryz.func50 (by kernel_rfl) (by kernel_rfl) (by kernel_rfl) (by kernel_rfl)
noncomputable def gmCosts:Ctx:={N:=29,plan:=at1 7 (some (ln [1,3,5,7,9,11,12,15])) (fun _=>none),hints:=at1 4 ([.freeze 5]) (fun _=>[])}
noncomputable def bmCosts:Code:=bdy Tryz.f52
abbrev ofmCosts:=@ofC Tryz.prog gmCosts 52 Tryz.f52 bmCosts Tryz.func52 (by kernel_rfl) (by kernel_rfl) (by kernel_rfl) (by kernel_rfl)
noncomputable def gmSame:Ctx:={N:=68,plan:=at1 6 (some (ln [1,3,5,7,9,11,13,15,17,19,21,23,25,27,29,31,33,35,37,39,41,43,45,47,49,51,53,55,57,59,61,63,65,67,69,71,73,75,77,79,81,83,85,87,89,91,93,95,96,99,101])) (fun _=>none)}
noncomputable def bmSame:Code:=bdy Tryz.f33
abbrev ofmSame:=@ofC Tryz.prog gmSame 33 Tryz.f33 bmSame Tryz.func33 (by kernel_rfl) (by kernel_rfl) (by kernel_rfl) (by kernel_rfl)
noncomputable def gsIdx:Ctx:={N:=8}
noncomputable def bsIdx:Code:=bdy Tryz.f51
abbrev ofsIdx:=@ofC Tryz.prog gsIdx 51 Tryz.f51 bsIdx Tryz.func51 (by kernel_rfl) (by kernel_rfl) (by kernel_rfl) (by kernel_rfl)
noncomputable def gsInts:Ctx:={N:=26,plan:=at1 6 (some (ln [1,3,5,7,9,11,13,15,17])) (fun _=>none)}
noncomputable def bsInts:Code:=bdy Tryz.f97
abbrev ofsInts:=@ofC Tryz.prog gsInts 97 Tryz.f97 bsInts Tryz.func97 (by kernel_rfl) (by kernel_rfl) (by kernel_rfl) (by kernel_rfl)
theorem cmWho(t:Tp)(a b:Int)(hl:t.edges.length<1000000){K:KT}(hK:K (encX (wholeZ t a b)) []):ACall Tryz.prog 34 [encT t,.v (.int .i64 a),.v (.int .i64 b)] [] K:=by
 refine ofmWho rfl rfl ?_
 unfold wholeZ at hK
 have e:(t.edges.map encE).length=t.edges.length:=List.length_map ..
 have hE:∀{i:Int},hasE t i=true↔0<=i/\i<t.edges.length:=fun {i}=>by simp[hasE]
 by_cases hc:compB t=true/\hasE t a=true/\hasE t b=true
 ·rw[if_pos hc]at hK
  obtain⟨h1,h2,h3⟩:=hc
  have k2:=hE.1 h2;have k3:=hE.1 h3
  obtain⟨i,ea,rfl,hea⟩:=hasE_get h2
  obtain⟨j,eb,rfl,heb⟩:=hasE_get h3
  simp only[whoT,Int.toNat_natCast,hea,heb]at hK
  (repeat' ((conv=>whnf);first|(with_reducible first|refine cuCompB t hl ?_|refine cvWho t i j ea eb hea heb ?_)|refine zG ?_|apply zA|(apply zI;intro h)|exact zT));(all_goals conv=>whnf)
  all_goals first
   |exact hK
   |(exfalso;simp_all;done)
   |(exfalso;omega)
 ·rw[if_neg hc]at hK
  (repeat' ((conv=>whnf);first|(with_reducible refine cuCompB t hl ?_)|refine zG ?_|apply zA|(apply zI;intro h)|exact zT));(all_goals conv=>whnf)
  all_goals first
   |exact hK
   |(exact absurd ⟨by assumption,hE.2 ⟨by omega,by omega⟩,hE.2 ⟨by omega,by omega⟩⟩ hc)
theorem cmFits(t:Tp)(l:List Nat)(hl:l.length=t.devs.length)(hnd:t.devs.length<1000000){K:KT}(hK:K (.sb (fitsP t l)) []):ACall Tryz.prog 47 [encT t,.lst (l.map cI)] [] K:=by
 refine ACall.bool (ofmFits rfl rfl ?_)
 (repeat' ((conv=>whnf);first|refine zG ?_|apply zA|(apply zI;intro h)|exact zT));(all_goals conv=>whnf)
 refine Lp.intro Nat (fun k=>⟨1,[(0,boxT t)],[(1,.lst (l.map cI)),(2,.op 0 0),(5,.v (.int .i64 k))]⟩) (fun k=>k<=l.length/\∀(i:Nat) v,i<k->l[i]? =some v->∀d,t.devs[i]? =some d->(v:Int)<=d.cap) (fun k=>l.length-k) 0 ⟨Nat.zero_le _,fun i d h=>absurd h (Nat.not_lt_zero _)⟩ ?_ ?_
 ·(exact leA)
 intro k ⟨hk,hinv⟩
 rcases Nat.lt_or_ge k l.length with hkl|hkl
 ·have hkd:k<t.devs.length:=by omega
  obtain⟨d,hd⟩:=gex hkd
  obtain⟨v,hv⟩:=gex hkl
  (repeat' ((conv=>whnf);first|(with_reducible first|refine in_map hkl ?_|refine in_map hkd ?_|refine ix_map hd ?_|refine ix_map hv ?_)|refine zG ?_|apply zA|(apply zI;intro h)|exact zT));(all_goals conv=>whnf)
  all_goals first
   |(refine fin_f hK ?_
     rw[Bool.eq_false_iff,ne_eq,fitsP_iff]
     intro hh
     have:=hh k d v hd hv
     omega)
   |(refine⟨k+1,⟨hkl,all_succ hv (fun e he=>by rw[hd]at he;cases he;omega) hinv⟩,by omega,?_⟩
     rw[Int.natCast_add,Int.natCast_one]
     (exact leA))
 ·(repeat' ((conv=>whnf);first|refine zG ?_|apply zA|(apply zI;intro h)|exact zT));(all_goals conv=>whnf)
  exact fin_t hK (fitsP_iff.2 fun i d v hd hv=>before_all hkl hinv i v hv d hd)
theorem cmCost(t:Tp)(l:List Nat)(x:Pl)(hx:PlIn t x)(ht:DevIn t)(hl:l.length=t.devs.length)(hnd:t.devs.length<1000000)(m:Nat)(hm:m<500000)(hs:Small m l){K:KT}(hK:K (.lst ((costP t l x).map cI)) []):
  ACall Tryz.prog 46 [encT t,.lst (l.map cI),encPl x] [] K:=by
 obtain⟨a,b,eg,allow⟩:=x
 obtain⟨a0,a1,b0,b1,hal⟩:=hx
 simp only at a0 a1 b0 b1 hal
 obtain⟨i,rfl⟩:=Int.eq_ofNat_of_zero_le a0
 obtain⟨j,rfl⟩:=Int.eq_ofNat_of_zero_le b0
 have hil:i<t.edges.length:=by omega
 have hjl:j<t.edges.length:=by omega
 obtain⟨ea,hea⟩:=gex hil
 obtain⟨eb,heb⟩:=gex hjl
 have hda:=ht ea (List.mem_of_getElem? hea)
 have hdb:=ht eb (List.mem_of_getElem? heb)
 obtain⟨p,hp⟩:=Int.eq_ofNat_of_zero_le hda.1
 obtain⟨q,hq⟩:=Int.eq_ofNat_of_zero_le hdb.1
 have hpl:p<t.devs.length:=by omega
 have hql:q<t.devs.length:=by omega
 have hdp:devOf t.edges (i:Int)=p:=by simp[devOf,hea,hp]
 have hdq:devOf t.edges (j:Int)=q:=by simp[devOf,heb,hq]
 have hwho:whoT t (i:Int) (j:Int)=whoB ea.pf eb.pf:=by simp[whoT,hea,heb]
 obtain⟨d,hd⟩:∃d,d=enfD t ⟨i,j,eg,allow⟩:=⟨_,rfl⟩
 obtain⟨o,ho⟩:∃o,o=othD t ⟨i,j,eg,allow⟩:=⟨_,rfl⟩
 have hdo:(eg=false/\d=p/\o=q)\/(eg=true/\d=q/\o=p):=by
  rw[hd,ho,enfD,othD]
  cases eg
  ·left;exact⟨rfl,hdp,hdq⟩
  ·right;exact⟨rfl,hdq,hdp⟩
 have hdl:d<t.devs.length:=by omega
 have hol:o<t.devs.length:=by omega
 obtain⟨dd,hdd⟩:=gex hdl
 obtain⟨oo,hoo⟩:=gex hol
 have hrd:rgD t.devs d=dd.rg:=by simp[rgD,hdd]
 have hro:rgD t.devs o=oo.rg:=by simp[rgD,hoo]
 obtain⟨l1,hl1⟩:∃l1,l1=addAt l d (sumB allow dd.rg):=⟨_,rfl⟩
 have hcost:costP t l ⟨i,j,eg,allow⟩=addAt l1 o (costB (whoB ea.pf eb.pf) oo.rg):=by
  rw[costP,<-hd,<-ho,hrd,hro,hwho,hl1]
 have hsum:=sumB_le dd.rg allow
 have hcb:=costB_le (whoB ea.pf eb.pf) oo.rg
 have hs1:∀v,v∈l1->v<=(m+1)*5130807563872:=fun v hv=>by
  rw[hl1]at hv
  have:=addAt_small hs v hv
  omega
 have hl1l:l1.length=l.length:=by rw[hl1,addAt_len]
 have hdl2:d<l.length:=by omega
 have hol2:o<l1.length:=by omega
 obtain⟨v,hv⟩:=gex hdl2
 obtain⟨u,hu⟩:=gex hol2
 have hvb:=hs v (List.mem_of_getElem? hv)
 have hub:=hs1 u (List.mem_of_getElem? hu)
 have e1:(l.map cI).set (0+d) (cI (v+sumB allow dd.rg))=l1.map cI:=by
  rw[hl1,addAt,List.getD_eq_getElem?_getD,hv,Nat.zero_add,<-List.map_set];rfl
 have e2:(l1.map cI).set (0+o) (cI (u+costB (whoB ea.pf eb.pf) oo.rg))=(addAt l1 o (costB (whoB ea.pf eb.pf) oo.rg)).map cI:=by
  rw[addAt,List.getD_eq_getElem?_getD,hu,Nat.zero_add,<-List.map_set];rfl
 rw[hcost]at hK
 rw[show d=0+d by omega]at hv
 rw[show o=0+o by omega]at hu
 clear hcost hd ho hdp hdq hwho hda hdb ht hl1 hs hs1
 dsimp only[encPl]
 refine ofmCost rfl rfl ?_
 (repeat' ((conv=>whnf);first|(with_reducible first|refine in_map hil ?_|refine in_map hjl ?_|refine ix_map hea ?_|refine ix_map heb ?_)|refine zG ?_|apply zA|(apply zI;intro h)|exact zT));(all_goals conv=>whnf)
 refine Jn.at ⟨3,[(2,.box [.v (.int .i64 (i:Nat)),.v (.int .i64 (j:Nat)),.sb eg,encXs allow]),(1,.arr 1 (l.map cI)),(0,boxT t)],[(3,.op 0 0),(5,.op 2 0),(7,.os 1 1 0 l.length),(8,.v (.int .i64 (d:Nat))),(9,.v (.int .i64 (o:Nat)))]⟩ ?_ ?_
 ·(repeat' ((conv=>whnf);first|refine zG ?_|apply zA|(apply zI;intro h)|exact zT));(all_goals conv=>whnf)
  all_goals
   rcases hdo with⟨h1,h2,h3⟩|⟨h1,h2,h3⟩
   all_goals first
    |(exfalso;rw[h1]at h;cases h;done)
    |(subst h2;subst h3
      refine⟨(),trivial,?_⟩
      simp only[hp,hq,List.nil_append,List.length_map,Nat.zero_add]
      (exact leA))
 ·(repeat' ((conv=>whnf);first|(with_reducible first|refine in_nat hdl2 ?_|refine in_map hdl ?_|refine ix_map hv ?_|refine ix_map hdd ?_|refine cfSum allow dd.rg (by omega) ?_|refine wr_i64 (Int.natCast_add _ _).symm (by omega) (by omega) ?_)|refine zG ?_|apply zA|(apply zI;intro h)|exact zT));(all_goals conv=>whnf)
  rw[e1]
  have hol3:o<l.length:=by omega
  have hl1m:(l1.map cI).length=l.length:=by rw[List.length_map];exact hl1l
  (repeat' ((conv=>whnf);first|(with_reducible first|refine in_nat hol3 ?_|refine in_map hil ?_|refine in_map hol ?_|refine ix_map hu ?_|refine ix_map hoo ?_|refine cvWho t i j ea eb hea heb ?_|refine cfCost (whoB ea.pf eb.pf) oo.rg ?_|refine wr_i64 (Int.natCast_add _ _).symm (by omega) (by omega) ?_)|refine zG ?_|apply zA|(apply zI;intro h)|exact zT));(all_goals conv=>whnf)
  all_goals
   rw[e2]
   have hfin:((addAt l1 o (costB (whoB ea.pf eb.pf) oo.rg)).map cI).length=l.length:=by rw[List.length_map,addAt_len];exact hl1l
   exact hK
theorem cmSame(a:List Pl)(ha:a.length<1000000000)(ha2:∀x,x∈a->x.allow.length<1000000000){K:KT}(hK:K (.sb true) []):ACall Tryz.prog 33 [.lst (a.map encPl),.lst (a.map encPl)] [] K:=by
 refine ACall.bool (ofmSame rfl rfl ?_)
 (repeat' ((conv=>whnf);first|refine zG ?_|apply zA|(apply zI;intro h)|exact zT));(all_goals conv=>whnf)
 refine Lp.intro Nat (fun k=>⟨0,[],[(0,.lst (a.map encPl)),(1,.lst (a.map encPl)),(5,.v (.int .i64 k))]⟩) (fun k=>k<=a.length) (fun k=>a.length-k) 0 (Nat.zero_le _) ?_ ?_
 ·(exact leA)
 intro k hk
 rcases Nat.lt_or_ge k a.length with hkl|hkl
 ·obtain⟨x,hx⟩:=gex hkl
  have hxl:=ha2 x (List.mem_of_getElem? hx)
  (repeat' ((conv=>whnf);first|(with_reducible first|refine in_map hkl ?_|refine ix_map hx ?_|refine cr4Same x.allow x.allow (by omega) (by omega) ?_)|refine zG ?_|apply zA|(apply zI;intro h)|exact zT));(all_goals conv=>whnf)
  all_goals first
   |(exfalso;simp_all;done)
   |(refine⟨k+1,hkl,by omega,?_⟩
     rw[Int.natCast_add,Int.natCast_one]
     (exact leA))
 ·(repeat' ((conv=>whnf);first|refine zG ?_|apply zA|(apply zI;intro h)|exact zT));(all_goals conv=>whnf)
  exact fin_t hK rfl
def MSt(t:Tp)(l:List Pl)(full:Int)(out:List Pl)(s:List Nat):Prop:=(full=0/\placeGo t l ([],zeros t.devs.length)=some (out,s))\/(full=9/\placeGo t l ([],zeros t.devs.length)=none)
theorem MSt.same{t:Tp}{l:List Pl}{full:Int}{out:List Pl}{s:List Nat}(h:MSt t l full out s):MSt t (l++[]) full out s:=by rw[List.append_nil];exact h
theorem MSt.full{t:Tp}{l m:List Pl}{out:List Pl}{s:List Nat}(h:MSt t l 9 out s):MSt t (l++m) 9 out s:=by
 rcases h with⟨h1,_⟩|⟨h1,h2⟩
 ·cases h1
 ·exact .inr ⟨rfl,by rw[placeGo_app,h2]⟩
theorem MSt.step{t:Tp}{l:List Pl}{x:Pl}{out:List Pl}{s:List Nat}(h:MSt t l 0 out s):placeGo t (l++[x]) ([],zeros t.devs.length)=placeStep t (out,s) x:=by
 rcases h with⟨_,h2⟩|⟨h1,_⟩
 ·rw[placeGo_app,h2]
  simp only[placeGo]
  cases placeStep t (out,s) x<;>rfl
 ·cases h1
theorem cmPlace(t:Tp)(p:Pol)(hl:t.edges.length<1000)(h5:compB t=true->t.edges.length<=5)(hal:p.allow.length<1000000000)(hil:p.insp.length<1000000000)(hsl:∀x,x∈p.insp->x.set.length<1000000000){K:KT}(hK:K (.tup [.lst ((placeP t p).1.map encPl),.v (.int .i64 (placeP t p).2)]) []):ACall Tryz.prog 18 [encT t,encPol p] [] K:=by
 refine ACall.weak (ofmPlace rfl rfl ?_)
 unfold placeP at hK
 by_cases hp:polB t p=false
 case pos=>
  rw[if_pos hp]at hK
  (repeat' ((conv=>whnf);first|(with_reducible refine cvVal t p hl h5 hal hil hsl ?_)|refine zG ?_|apply zA|(apply zI;intro h)|exact zT));(all_goals conv=>whnf)
  all_goals first
   |exact⟨_,Weak.tup2 Weak.nils Weak.refl,hK⟩
   |(exfalso;simp_all;done)
 rw[if_neg hp]at hK
 have hpt:polB t p=true:=by simpa using hp
 have hok:=polB_iff.1 hpt
 obtain⟨hdi,hnd,hne,hnd1⟩:=comp_dev hok.comp
 have hpair:∀(a b:Nat) {K:KT},K (.tup [encXs (pairP t p a b).1,.v (.int .i64 (pairP t p a b).2)]) []->ACall Tryz.prog 24 [encT t,encPol p,.v (.int .i64 (a:Nat)),.v (.int .i64 (b:Nat))] [] K:=fun a b K h=>cvPair t p a b (by omega) hal h
 (repeat' ((conv=>whnf);first|(with_reducible first|refine cvVal t p hl h5 hal hil hsl ?_|refine In.intro t.devs.length (by rw[List.length_map]) (by omega) ?_|refine Ob.intro ⟨Nat.le_refl _,Nat.le_trans (Nat.mul_le_mul_left _ hnd) (Nat.le_of_ble_eq_true (by kernel_rfl))⟩ ?_)|refine zG ?_|apply zA|(apply zI;intro h)|exact zT));(all_goals conv=>whnf)
 refine Sl.intro (ys:=(zeros t.devs.length).map cI) (by rw[List.length_replicate];omega) (by rw[List.drop_zero,List.take_of_length_le (by rw[List.length_replicate];exact Nat.le_refl _),zeros,List.map_replicate];rfl) ?_
 (repeat' ((conv=>whnf);first|refine zG ?_|apply zA|(apply zI;intro h)|exact zT));(all_goals conv=>whnf)
 refine Lp.intro (Nat×Int×List Pl×List Nat) (fun g=>⟨3,[(2,.arr 4 (g.2.2.1.map encPl)),(1,boxPol p),(0,boxT t)],[(2,.op 0 0),(3,.op 1 0),(6,.os 2 4 0 g.2.2.1.length),(7,.v (.int .i64 g.2.1)),(8,.lst (g.2.2.2.map cI)),(9,.v (.int .i64 g.1))]⟩)
  (fun g=>g.1<=t.edges.length/\errOf t p (preI t.edges.length g.1 0)=0/\MSt t (pairsOf t p (preI t.edges.length g.1 0)) g.2.1 g.2.2.1 g.2.2.2/\g.2.2.1.length<=(preI t.edges.length g.1 0).length/\g.2.2.2.length=t.devs.length/\Small (preI t.edges.length g.1 0).length g.2.2.2) (fun g=>t.edges.length-g.1) (0,0,[],zeros t.devs.length) ⟨Nat.zero_le _,rfl,.inl ⟨rfl,rfl⟩,Nat.zero_le _,by simp[zeros],small_zero _⟩ ?_ ?_
 ·(exact leA)
 rintro⟨a,full,out,s⟩ ⟨ha,herr,hmst,hol,hsl1,hsm⟩
 simp only at ha herr hmst hol hsl1 hsm⊢
 rcases Nat.lt_or_ge a t.edges.length with hal2|hal2
 ·(repeat' ((conv=>whnf);first|refine zG ?_|apply zA|(apply zI;intro h)|exact zT));(all_goals conv=>whnf)
  refine Lp.intro (Nat×Int×List Pl×List Nat) (fun g=>⟨3,[(2,.arr 4 (g.2.2.1.map encPl)),(1,boxPol p),(0,boxT t)],[(2,.op 0 0),(3,.op 1 0),(6,.os 2 4 0 g.2.2.1.length),(7,.v (.int .i64 g.2.1)),(8,.lst (g.2.2.2.map cI)),(9,.v (.int .i64 a)),(10,.v (.int .i64 g.1))]⟩)
   (fun g=>g.1<=t.edges.length/\errOf t p (preI t.edges.length a g.1)=0/\MSt t (pairsOf t p (preI t.edges.length a g.1)) g.2.1 g.2.2.1 g.2.2.2/\g.2.2.1.length<=(preI t.edges.length a g.1).length/\g.2.2.2.length=t.devs.length/\Small (preI t.edges.length a g.1).length g.2.2.2) (fun g=>t.edges.length-g.1) (0,full,out,s) ⟨Nat.zero_le _,herr,hmst,hol,hsl1,hsm⟩ ?_ ?_
  ·(exact leA)
  clear herr hmst hol hsl1 hsm
  rintro⟨b,full,out,s⟩ ⟨hb,herr2,hmst,hol,hsl1,hsm⟩
  simp only at hb herr2 hmst hol hsl1 hsm⊢
  rcases Nat.lt_or_ge b t.edges.length with hbl|hbl
  ·have hsn:=pairsOf_snoc t p (preI t.edges.length a b) (a,b)
   have hen:=errOf_app t p (preI t.edges.length a b) [(a,b)] herr2
   rw[<-preI_succ]at hsn hen
   have hpil:=preI_len t.edges.length a b
   have hpil1:=preI_len t.edges.length a (b+1)
   have hmul:a*t.edges.length<=12*12:=Nat.mul_le_mul (by omega) hne
   have hpl4:=pairP_len t p a b
   simp only[errOf]at hen hsn
   obtain⟨more,hmore⟩:=preI_pre (n:=t.edges.length) (a:=a) (b:=b+1) hal2 hbl
   have hbad:(pairP t p (a:Nat) (b:Nat)).2≠0->∃y,Weak (.tup [.nils,.v (.int .i64 (pairP t p (a:Nat) (b:Nat)).2)]) y/\K y []:=fun h=>by
    rw[if_pos h]at hen
    have e1:errOf t p (idxI t.edges.length)=(pairP t p (a:Nat) (b:Nat)).2:=by rw[hmore,errOf_pre _ _ _ _ (by rw[hen];exact h),hen]
    rw[if_pos (by rw[e1];exact h),e1]at hK
    exact⟨_,Weak.tup2 Weak.nils Weak.refl,hK⟩
   have hgood:(pairP t p (a:Nat) (b:Nat)).2=0->errOf t p (preI t.edges.length a (b+1))=0:=fun h=>by rw[hen,if_neg (fun hn=>hn h)]
   clear hK hen hmore
   have hpr:=fun {K} h=>@hpair a b K h
   clear hpair
   have hxin:PlIn t ⟨(a:Nat),(b:Nat),false,(pairP t p (a:Nat) (b:Nat)).1⟩:=⟨by simp only;omega,by simp only;omega,by simp only;omega,by simp only;omega,hpl4⟩
   have hml:(preI t.edges.length a b).length<=200:=by omega
   have hml1:(preI t.edges.length a (b+1)).length=(preI t.edges.length a b).length+1:=by omega
   generalize (preI t.edges.length a b).length=m at*
   generalize hA:pairsOf t p (preI t.edges.length a b)=A at*
   generalize hB:pairsOf t p (preI t.edges.length a (b+1))=B at*
   generalize pairP t p (a:Nat) (b:Nat)=r at*
   obtain⟨rs,re⟩:=r
   simp only at hxin hbad hgood hsn hpr
   obtain⟨x,hxd⟩:∃x:Pl,x=⟨(a:Nat),(b:Nat),false,rs⟩:=⟨_,rfl⟩
   rw[<-hxd]at hxin hsn
   have hc1:=fun {K} h=>@cmCost t s x hxin hdi hsl1 (by omega) m (by omega) hsm K h
   have hc2:=fun {K} h=>@cmCost t s {x with eg:=true} (hxin.eg true) hdi hsl1 (by omega) m (by omega) hsm K h
   have hl1:(costP t s x).length=t.devs.length:=by rw[costP_len];exact hsl1
   have hl2:(costP t s {x with eg:=true}).length=t.devs.length:=by rw[costP_len];exact hsl1
   have hf1:=fun {K} h=>@cmFits t (costP t s x) hl1 (by omega) K h
   have hf2:=fun {K} h=>@cmFits t (costP t s {x with eg:=true}) hl2 (by omega) K h
   have hsm1:=costP_small (t:=t) hxin.len hsm
   have hsm2:=costP_small (t:=t) (x:={x with eg:=true}) hxin.len hsm
   have hsm0:Small (m+1) s:=fun v hv=>Nat.le_trans (hsm v hv) (Nat.mul_le_mul_right _ (Nat.le_succ _))
   have hstep:rs≠[]->full=0->placeGo t B ([],zeros t.devs.length)=placeStep t (out,s) x:=fun h1 h2=>by
    subst h2
    rw[hsn,if_neg h1];exact hmst.step
   rw[placeStep]at hstep
   simp only at hstep
   obtain⟨n1,hn1⟩:∃n1,costP t s x=n1:=⟨_,rfl⟩
   obtain⟨n2,hn2⟩:∃n2,costP t s {x with eg:=true}=n2:=⟨_,rfl⟩
   rw[hn1]at hc1 hl1 hf1 hsm1 hstep
   rw[hn2]at hc2 hl2 hf2 hsm2 hstep
   subst hxd
   have hful9:full=0\/full=9:=by
    rcases hmst with⟨h,_⟩|⟨h,_⟩
    ·exact .inl h
    ·exact .inr h
   have hinv:∀(full':Int) (out':List Pl) (s':List Nat),re=0->MSt t B full' out' s'->out'.length<=m+1->s'.length=t.devs.length->Small (m+1) s'->((b+1,full',out',s'):Nat×Int×List Pl×List Nat).1<=t.edges.length/\errOf t p (preI t.edges.length a ((b+1,full',out',s'):Nat×Int×List Pl×List Nat).1)=0/\MSt t (pairsOf t p (preI t.edges.length a ((b+1,full',out',s'):Nat×Int×List Pl×List Nat).1)) full' out' s'/\out'.length<=(preI t.edges.length a ((b+1,full',out',s'):Nat×Int×List Pl×List Nat).1).length/\s'.length=t.devs.length/\Small (preI t.edges.length a ((b+1,full',out',s'):Nat×Int×List Pl×List Nat).1).length s':=fun full' out' s' h0 h1 h2 h3 h4=>by
    simp only
    rw[hml1,hB]
    exact⟨hbl,hgood h0,h1,h2,h3,h4⟩
   have hne0:¬(((rs.map encX).length:Nat):Int)=0->rs≠[]:=fun h e=>h (by rw[e];rfl)
   (repeat' ((conv=>whnf);first|(with_reducible refine hpr ?_)|(refine hc1 ?_)|(refine hc2 ?_)|(with_reducible first|refine hf1 ?_|refine hf2 ?_)|refine zG ?_|apply zA|(apply zI;intro h)|exact zT));(all_goals conv=>whnf)
   all_goals first
    |exact hbad (by assumption)
    |skip
   ·have hrs:rs=[]:=List.length_eq_zero_iff.1 (by rw[List.length_map]at h;omega)
    rw[if_pos hrs,List.append_nil]at hsn
    refine⟨(b+1,full,out,s),hinv _ _ _ (by assumption) (by rw[hsn];exact hmst) (by omega) hsl1 hsm0,by simp only;omega,?_⟩
    simp only
    rw[Int.natCast_add b,Int.natCast_one]
    (exact leA)
   ·refine⟨(b+1,full,out++[⟨(a:Nat),(b:Nat),false,rs⟩],n1),hinv _ _ _ (by assumption) (.inl ⟨by assumption,by rw[hstep (hne0 (by assumption)) (by assumption),if_pos (by assumption)]⟩) (by rw[List.length_append];simp only[List.length_singleton];omega) hl1 hsm1,by simp only;omega,?_⟩
    simp only
    rw[Int.natCast_add b,Int.natCast_one,List.map_append,List.length_append]
    (exact leA)
   ·refine⟨(b+1,full,out++[⟨(a:Nat),(b:Nat),true,rs⟩],n2),hinv _ _ _ (by assumption) (.inl ⟨by assumption,by rw[hstep (hne0 (by assumption)) (by assumption),if_neg (by simp_all),if_pos (by assumption)]⟩) (by rw[List.length_append];simp only[List.length_singleton];omega) hl2 hsm2,by simp only;omega,?_⟩
    simp only
    rw[Int.natCast_add b,Int.natCast_one,List.map_append,List.length_append]
    (exact leA)
   ·refine⟨(b+1,9,out,s),hinv _ _ _ (by assumption) (.inr ⟨rfl,by rw[hstep (hne0 (by assumption)) (by assumption),if_neg (by simp_all),if_neg (by simp_all)]⟩) (by omega) hsl1 hsm0,by simp only;omega,?_⟩
    simp only
    rw[Int.natCast_add b,Int.natCast_one]
    (exact leA)
   ·obtain rfl:full=9:=hful9.resolve_left (by assumption)
    refine⟨(b+1,9,out,s),hinv _ _ _ (by assumption) (by rw[hsn];exact hmst.full) (by omega) hsl1 hsm0,by simp only;omega,?_⟩
    simp only
    rw[Int.natCast_add b,Int.natCast_one]
    (exact leA)
  ·have hbe:b=t.edges.length:=by omega
   rw[hbe,preI_row]at herr2 hmst hol hsm
   (repeat' ((conv=>whnf);first|refine zG ?_|apply zA|(apply zI;intro h)|exact zT));(all_goals conv=>whnf)
   refine⟨(a+1,full,out,s),⟨hal2,herr2,hmst,hol,hsl1,hsm⟩,by simp only;omega,?_⟩
   simp only
   rw[Int.natCast_add a,Int.natCast_one]
   (exact leA)
 ·have hae:a=t.edges.length:=by omega
  rw[hae]at herr hmst
  rw[show preI t.edges.length t.edges.length 0=idxI t.edges.length from rfl]at herr hmst
  rw[if_neg (fun hn=>hn herr)]at hK
  rcases hmst with⟨rfl,h2⟩|⟨rfl,h2⟩
  ·rw[h2]at hK
   (repeat' ((conv=>whnf);first|(with_reducible refine sl_full (by rw[List.length_map]) ?_)|refine zG ?_|apply zA|(apply zI;intro h)|exact zT));(all_goals conv=>whnf)
   exact⟨_,Weak.refl,hK⟩
  ·rw[h2]at hK
   (repeat' ((conv=>whnf);first|refine zG ?_|apply zA|(apply zI;intro h)|exact zT));(all_goals conv=>whnf)
   exact⟨_,Weak.tup2 Weak.nils Weak.refl,hK⟩
theorem spoil_five{t u:Tp}(h5:t.edges.length<=5)(h:SpE t u):compB u=true->u.edges.length<=5:=fun hc=>by
 rcases h with h|⟨e,he,hu⟩
 ·omega
 ·exfalso
  have h0:=(List.getElem?_eq_some_iff.1 he).1
  have hx:=(compB_iff.1 hc).1.edge t.edges.length e (by rw[hu,List.getElem?_append_right (Nat.le_refl _),Nat.sub_self];rfl)
  have h1:edgeIx u.edges e.name=(0:Nat):=firstIx_at (k:=0) (by rw[hu,List.getElem?_append_left h0];exact he) (sEq_refl _) (fun i y hi _=>absurd hi (Nat.not_lt_zero _))
  have h2:=hx.2
  omega
theorem spoil_len{t u:Tp}(h5:t.edges.length<=5)(h:SpE t u):u.edges.length<=6:=by
 rcases h with h|⟨e,he,hu⟩
 ·omega
 ·rw[hu,List.length_append];simp only[List.length_singleton];omega
theorem place_small(t:Tp)(p:Pol)(h5:compB t=true->t.edges.length<=5):(placeP t p).1.length<1000000000/\∀x,x∈(placeP t p).1->x.allow.length<1000000000:=by
 by_cases hp:polB t p=true
 ·have ok:=polB_iff.1 hp
  rcases place_cases ok with h0|⟨m,h0,hk,_,hpl⟩
  ·rw[h0];exact⟨by simp,fun x hx=>by simp at hx⟩
  ·rw[h0]
   have:=keys_len (h5 ok.comp) hk
   exact⟨by simp only;omega,pls_len hpl⟩
 ·rw[placeP,if_pos (by simpa using hp)]
  exact⟨by simp,fun x hx=>by simp at hx⟩
theorem clAgr(t:Tp)(p:Pol)(a b:Int)(hl:t.edges.length<1000)(h5:compB t=true->t.edges.length<=5)(hal:p.allow.length<1000000000)(hil:p.insp.length<1000000000)(hsl:∀x,x∈p.insp->x.set.length<1000000000){K:KT}(hK:K (.sb true) []):
  ACall Tryz.prog 11 [encT t,encPol p,.v (.int .i64 a),.v (.int .i64 b)] [] K:=by
 obtain⟨h1,h2⟩:=place_small t p h5
 refine ACall.bool (oflAgr rfl rfl ?_)
 (repeat' ((conv=>whnf);first|(with_reducible first|refine czPlace t p hl hal hil hsl ?_|refine cmPlace t p hl h5 hal hil hsl ?_|refine cmSame _ h1 h2 ?_|refine czWho t a b (by omega) ?_|refine cmWho t a b (by omega) ?_|refine eqv_X ?_)|refine zG ?_|apply zA|(apply zI;intro h)|exact zT));(all_goals conv=>whnf)
 all_goals first
  |(refine fin_s hK ?_;simp;done)
  |(exfalso;simp_all;done)
  |trace_state
theorem cnHuB(l:List Bx){K:KT}(hK:K (.sb (decide (6<l.length))) []):ACall Tryz.prog 15 [encXs l] [] K:=by
 refine ACall.bool (ofnHuB rfl rfl ?_)
 (repeat' ((conv=>whnf);first|refine zG ?_|apply zA|(apply zI;intro h)|exact zT));(all_goals conv=>whnf)
 refine fin_s hK ?_
 rw[Bool.eq_iff_iff,decide_eq_true_eq,decide_eq_true_eq,List.length_map]
 omega
theorem clAgrG{t u:Tp}{p:Pol}{a b:Int}(h5:t.edges.length<=5)(hu:SpE t u)(hg:GPol t p){K:KT}(hK:K (.sb true) []):
  ACall Tryz.prog 11 [encT u,encPol p,.v (.int .i64 a),.v (.int .i64 b)] [] K:=
 clAgr u p a b (by have:=spoil_len h5 hu;omega) (spoil_five h5 hu) (setB_len hg.ok.set) (by have:=hg.il;omega) (pol_sets hg.ok) hK
theorem gtop_sm{t:Tp}(h:GTop t):t.devs.length<100/\t.links.length<100/\t.edges.length<100/\t.pools.length<100:=by
 have h1:=h.d6;have h2:=h.l9;have h3:=h.e5
 refine⟨by omega,by omega,by omega,?_⟩
 rcases h.pools with h|h|h|h<;>rw[h]<;>simp
theorem spE_refl(t:Tp):SpE t t:=.inl (Nat.le_refl _)
theorem cAgree(raw:List Int)(hr:raw.length<=9223372036854775807)(p0:Pol)(a b:Int):ACall Tryz.prog 3 [.lst (raw.map encI),encPol p0,.v (.int .i64 a),.v (.int .i64 b)] [] Yes:=by
 refine oflAgree rfl rfl ?_
 (repeat' ((conv=>whnf);first|(with_reducible refine c9 raw ?_)|refine zG ?_|apply zA|(apply zI;intro h)|exact zT));(all_goals conv=>whnf)
 refine Lp.intro (Nat×Nat) (fun g=>⟨2,[(1,tapeO raw g.1),(0,boxPol p0)],[(5,.op 0 0),(9,.op 1 0),(10,.v (.int .i64 g.2)),(2,.v (.int .i64 a)),(3,.v (.int .i64 b))]⟩)
  (fun g=>g.1<=raw.length/\g.2<=3) (fun g=>3-g.2) (0,0) ⟨Nat.zero_le _,Nat.zero_le _⟩ ?_ ?_
 ·(exact leA)
 rintro⟨pos,n⟩ ⟨hp,hn⟩
 simp only at hp hn⊢
 rcases Nat.lt_or_ge n 3 with hn3|hn3
 ·(repeat' ((conv=>whnf);first|(refine cnTop3 raw _ (by with_reducible assumption) hr fun t p1 ht hd hp1=>?_)|(with_reducible first|refine cnPol raw _ t ht.e5 (by omega) (comp_top ht) (by with_reducible assumption) hr fun p p2 hg hp2=>?_|refine nNext raw _ _ (by omega) (by with_reducible assumption) hr fun m1 p1 hm1 hp1=>?_|refine clAgrG ht.e5 (spE_refl _) hg ?_|refine cnSpTE raw _ t (gtop_sm ht) (by with_reducible assumption) hr fun u p4 hsp hp4=>?_|refine clAgrG ht.e5 hsp hg ?_)|refine zG ?_|apply zA|(apply zI;intro h)|exact zT));(all_goals conv=>whnf)
  all_goals first
   |(refine⟨(_,n+1),⟨by with_reducible assumption,hn3⟩,by simp only;omega,?_⟩
     simp only
     rw[Int.natCast_add n,Int.natCast_one]
     (exact leA)
     done)
   |(exfalso;simp_all;done)
   |trace_state
 ·have hnet:p0.allow.length<=6->p0.insp.length=0->∀{K:KT},K (.sb true) []->ACall Tryz.prog 11 [encT (netT 5 50),encPol p0,.v (.int .i64 a),.v (.int .i64 b)] [] K:=fun h1 h2 {K} h=>
   clAgr (netT 5 50) p0 a b (by simp[netT]) (fun _=>by simp[netT]) (by omega) (by omega) (fun x hx=>by rw[List.length_eq_zero_iff.1 h2]at hx;cases hx) h
  (repeat' ((conv=>whnf);first|(with_reducible first|refine cnHuB p0.allow ?_|refine cvSane ?_|refine cvNet _ _ ?_)|(refine hnet (by omega) (by simp only[List.length_map]at*;omega) ?_)|refine zG ?_|apply zA|(apply zI;intro h)|exact zT));(all_goals conv=>whnf)
  all_goals first
   |exact .inl rfl
   |exact .inr rfl
   |trace_state
theorem cAgrees(raw:List Int)(p0:Pol)(a b:Int)(hr:raw.length<=9223372036854775807){A B C:Prop}(_:A)(_:B)(_:C):ACall Tryz.prog 3 [.lst (raw.map encI),encPol p0,.v (.int .i64 a),.v (.int .i64 b)] [] Yes:=cAgree raw hr p0 a b
open Go Go.Vm Go.ChangeShapes Go.WideShapes Go.ChangeAt Go.RowKit
theorem tys4{P:Program}{d:Nat}{t0 t1 t2 t3:TypeId}:∀{xs:List AV},Tys P d [t0,t1,t2,t3] xs->∃a0 a1 a2 a3,xs=[a0,a1,a2,a3]/\Ty P d t0 a0/\Ty P d t1 a1/\Ty P d t2 a2/\Ty P d t3 a3
 |[a0,a1,a2,a3],⟨h0,h1,h2,h3,_⟩=>⟨a0,a1,a2,a3,rfl,h0,h1,h2,h3⟩
theorem placementAgrees_lifted(os:Os)(started:os.Started)(H:Type)(enc:TypeId×Value->H):
  ReturnsInHanded {} Tryz.checked os 3 .any (fun w args=>(Rows.placementAgreesSpec.pre enc Tryz.prog Tryz.f3 [] false w args/\laidMetH Tryz.prog laid2 w)/\sizedMet enc Tryz.prog Tryz.f3 (OpenSpec.ofChange Rows.placementAgreesSpec) false w args)
   (Rows.placementAgreesSpec.post enc Tryz.prog Tryz.f3 false true false false):=by
 refine returnsInHanded_of_change_and (C:=Tryz.checked) (X:=fun w _=>laidMetH Tryz.prog laid2 w) (fun _ _ _ hh h=>h.of_heap hh) ownNone started (by kernel_rfl) Tryz.func3
  (ChangeSpec.witness_shaped (enc:=enc) (C:=Tryz.checked) (os:=os) (X:=fun w _=>laidMetH Tryz.prog laid2 w) false (World.doorLaid Tryz.prog 400 os) #[.slice none 0 0,.agg #[.slice none 0 0,.slice none 0 0],.int .i64 0,.int .i64 0] 8 rfl (World.shaped_of_RefB (by kernel_rfl) (by kernel_rfl)) (by kernel_rfl) (by kernel_rfl) (by kernel_rfl) (door_met os _)) ?_
 intro W base args ds gs before hval0 hW _ _ hL _
 have hval:∀(j:Nat) t v,Tryz.f3.params[j]? =some t->args[j]? =some v->Value.okWide Tryz.prog W .any base t v:=hval0
 refine law_contract (P:=Tryz.prog) (t:=4) (d:=8) laidOut (by kernel_rfl) (by kernel_rfl) rfl rfl (by kernel_rfl) (fun ds hds=>?_) (fun xs hxs=>?_) (glob_of hL) hval hW
 ·have hds:ds.length=4:=hds.trans (show Tryz.f3.params.size=4 by kernel_rfl)
  match ds,hds with
  |[d0,d1,d2,d3],_=>rfl
 ·have hxs:Tys Tryz.prog 8 [22,27,3,3] xs:=Eq.mp (congrArg (fun l=>Tys Tryz.prog 8 l xs) (show Tryz.f3.params.toList=[22,27,3,3] by kernel_rfl)) hxs
  obtain⟨a0,a1,a2,a3,rfl,h0,h1,h2,h3⟩:=tys4 hxs
  obtain⟨raw0,rfl,hr0⟩:=ty_is (d:=6) h0
  obtain⟨p1,rfl,q1⟩:=ty_pol (d:=1) h1
  obtain⟨n2,rfl,m2⟩:=ty_int (d:=7) h2
  obtain⟨n3,rfl,m3⟩:=ty_int (d:=7) h3
  exact cAgrees raw0 p1 n2 n3 hr0 q1 m2 m3
theorem placementAgrees_row:Rows.PlacementAgreesSaid:=
 OpenClaim.holds_of_wide 3 Tryz.f3 rfl rfl rfl rfl rfl rfl rfl ⟨rfl,rfl,rfl,rfl,rfl⟩ rfl rfl rfl rfl rfl (by kernel_rfl) Tryz.func3 (by kernel_rfl)
  (of_decide_eq_true (by kernel_rfl)) (by unfold Func.isWrapper;first|(rw[if_pos (by decide+kernel)];kernel_rfl)|(rw[if_neg (by decide+kernel)];exact⟨rfl,rfl⟩))
  (fun os started H enc _=>placementAgrees_lifted os started H enc)
theorem placementAgrees_holds:Rows.PlacementAgreesCardSaid:=
 Claim7.holds_tied_plain_at .later [] [.data,.data] true Rows.placementAgreesCard.stood.harness false
  placementAgrees_row (fun _ h=>by cases h) (by kernel_rfl) (fun _ h=>by cases h) placementAgrees_row_tie rfl ⟨rfl,rfl⟩ (by kernel_rfl) rfl
  (fun f fn hf hfn=>by
   obtain rfl:f=3:=Option.some.inj ((show Tryz.prog.funcNamed "netsegment/nsglaw21.PlacementAgrees"=some 3 by kernel_rfl).symm.trans hf)|>.symm
   obtain rfl:fn=Tryz.f3:=(Option.some.inj (Tryz.func3.symm.trans hfn)).symm
   exact⟨by kernel_rfl,fun j t ht=>wants_none (ts:=Tryz.f3.params.toList) (by kernel_rfl) (List.mem_of_getElem? (by rw[Array.getElem?_toList];exact ht))⟩)
  (by kernel_rfl)
#print axioms placementAgrees_holds
end Go.Proofs.YtokmdghjgegclaaGreatDoor
