/- Definitions that need themselves are refused: the statement ResolveCyclesCardSaid holds, for every input, without a condition of ours (its card ties the package-level variables to the program's text). -/
import Derived.Test.YtahhamfngafmcaaGreatDoorM24
set_option linter.unusedVariables false
set_option linter.unusedSimpArgs false
set_option maxRecDepth 100000
set_option maxHeartbeats 4000000
namespace Go.Proofs.YtahhamfngafmcaaGreatDoor
open Go Go.Vm
def sEqD(a b:ByteArray):Bool:=a.data.toList==b.data.toList
def itC(x:It)(g:Bool):Bool:=
 if x.kind=3 then nmChk x.name.data.toList&&itN x
 else if x.kind=1 then g&&(nmChk x.name.data.toList&&itN x)
 else if x.kind=2 then g&&(decide x.pf.okP&&(sEqD x.name ⟨#[]⟩&&decide (x.proto=0/\x.ports.lo=0/\x.ports.hi=0)))
 else if x.kind=4 then !g&&(prB x.proto x.ports&&(sEqD x.name ⟨#[]⟩&&decide (x.pf.addr=0/\x.pf.bits=0)))else false
theorem itC_itB{x:It}{g:Bool}(h:itC x g=true):itB x g=true:=by
 have hn:nmChk x.name.data.toList=true->nameB x.name=true:=fun h=>nameB_true (nameOk_data h)
 have he:sEqD x.name ⟨#[]⟩=sEq x.name ⟨#[]⟩:=(sEq_data _ _).symm
 unfold itC at h
 unfold itB itP itS
 rw[he]at h
 split
 ·rename_i hk
  rw[if_pos hk,Bool.and_eq_true]at h
  rw[hn h.1,h.2];rfl
 ·rename_i hk
  rw[if_neg hk]at h
  split
  ·rename_i hk1
   rw[if_pos hk1,Bool.and_eq_true,Bool.and_eq_true]at h
   rw[h.1,hn h.2.1,h.2.2];rfl
  ·rename_i hk1
   rw[if_neg hk1]at h
   exact h
def dfC(l:List Df)(g:Bool)(i:Nat)(d:Df):Bool:=
 nmChk d.name.data.toList&&(decide (l.findIdx? (fun e=>sEqD e.name d.name)=some i)&&(decide (1<=d.items.length)&&(decide (d.items.length<=16)&&d.items.all fun x=>itC x g)))
def dfsC(l:List Df)(g:Bool):Bool:=decide (l.length<=32)&&(l.zipIdx.all fun q=>dfC l g q.2 q.1)
theorem dfsC_ok{l:List Df}{g:Bool}(h:dfsC l g=true):DfsOk l g:=by
 unfold dfsC at h
 rw[Bool.and_eq_true,decide_eq_true_eq,List.all_eq_true]at h
 refine⟨h.1,fun i d hd=>?_⟩
 have h2:=h.2 (d,i) (List.mem_zipIdx_iff_getElem?.2 hd)
 unfold dfC at h2
 simp only[Bool.and_eq_true,decide_eq_true_eq,List.all_eq_true]at h2
 obtain⟨h3,h4,h5,h6,h7⟩:=h2
 refine⟨nameB_true (nameOk_data h3),?_,h5,h6,fun x hx=>itC_itB (h7 x hx)⟩
 have e:(fun e:Df=>sEq e.name d.name)=fun e=>sEqD e.name d.name:=by funext e;exact sEq_data _ _
 unfold dfIx firstIx
 rw[e,h4]
def defI(g s:List Df):Nt:=⟨g,s,[],[],[],[]⟩
theorem defI_ok{g s:List Df}(hg:dfsC g true=true)(hs:dfsC s false=true):NtOk (defI g s):=
 ⟨dfsC_ok hg,dfsC_ok hs,Nat.zero_le _,Nat.zero_le _,Nat.zero_le _,Nat.zero_le _,fun k x h=>by simp[defI]at h,fun x h=>by simp[defI]at h,fun x h=>by simp[defI]at h,fun x h=>by simp[defI]at h⟩
/-! the topology of the examples -/
def pf0:Pf:=⟨167772160,24,by decide,by decide⟩
def pf1:Pf:=⟨167772416,24,by decide,by decide⟩
def pf4:Pf:=⟨2886729728,16,by decide,by decide⟩
def netR:Tp:=⟨[⟨⟨#[114]⟩,0,false,false,⟨#[]⟩⟩],[],[⟨⟨#[97]⟩,0,⟨#[108,97,110]⟩,pf0,false⟩,⟨⟨#[98]⟩,0,⟨#[100,109,122]⟩,pf4,false⟩],[],0⟩
theorem topOk_netR:TopOk netR:=by
 have sEqr:∀s:ByteArray,sEq s s=true:=fun s=>by rw[sEq_data];simp
 refine⟨by simp[netR],by simp[netR],by simp[netR],by simp[netR],by simp[netR],by simp[netR],by simp[netR],?_,?_,?_,?_,?_⟩
 ·intro i d hi
  match i,hi with
  |0,hi=>
   simp[netR]at hi;subst hi
   exact⟨⟨nameOk_data (s:=⟨#[114]⟩) (by decide),by decide,by decide,.inl (sEqr _)⟩,firstIx_at (k:=0) rfl (sEqr _) (fun j y hj=>absurd hj (Nat.not_lt_zero _))⟩
  |i+1,hi=>simp[netR]at hi
 ·intro i l hi
  simp[netR]at hi
 ·intro i e hi
  match i,hi with
  |0,hi=>
   simp[netR]at hi;subst hi
   exact⟨⟨nameOk_data (by decide),nameOk_data (by decide),by decide,by simp[netR],by decide,by decide,by decide⟩,firstIx_at (k:=0) rfl (sEqr _) (fun j y hj=>absurd hj (Nat.not_lt_zero _))⟩
  |1,hi=>
   simp[netR]at hi;subst hi
   refine⟨⟨nameOk_data (by decide),nameOk_data (by decide),by decide,by simp[netR],by decide,by decide,by decide⟩,firstIx_at (k:=1) rfl (sEqr _) (fun j y hj hy=>?_)⟩
   obtain rfl:j=0:=by omega
   simp[netR]at hy;subst hy
   rw[sEq_data];rfl
  |i+2,hi=>simp[netR]at hi
 ·rintro i e hi j o hj ho ⟨_,_,h3⟩
  match i,hi,j,ho with
  |0,hi,j,ho=>omega
  |1,hi,0,ho=>simp[netR]at hi ho;subst hi;subst ho;revert h3;decide
  |1,hi,j+1,ho=>omega
  |i+2,hi,j,ho=>simp[netR]at hi
 ·intro i p hi
  simp[netR]at hi
theorem comp_netR:compB netR=true:=compB_iff.2 ⟨topOk_netR,fun e he=>by
 simp only[netR,List.mem_cons,List.not_mem_nil,or_false]at he
 rcases he with rfl|rfl<;>rfl⟩
def nmB(c:UInt8):ByteArray:=⟨#[c]⟩
def itNm(s:ByteArray):It:=⟨3,s,⟨0,0,by decide,by decide⟩,0,zR⟩
def itZn(s:ByteArray):It:=⟨1,s,⟨0,0,by decide,by decide⟩,0,zR⟩
def itSn(p:Pf):It:=⟨2,⟨#[]⟩,p,0,zR⟩
def nmL4:List ByteArray:=[nmB 97,nmB 98,nmB 99,nmB 100]
def nmAt(m:Nat):ByteArray:=nmL4.getD m ⟨#[]⟩
def cycG(n k:Nat):List Df:=(List.range k).map fun m=>⟨nmAt m,[itZn ⟨#[108,97,110]⟩,itNm (nmAt ((m+1)%n))]⟩
def cycS(n k:Nat):List Df:=(List.range k).map fun m=>⟨nmAt m,[itNm (nmAt ((m+1)%n))]⟩
def cycO(n j:Nat):List Df:=(cycG n n).set j ⟨nmAt j,[itSn pf1]⟩
theorem cyc_ok:∀n:Nat,n<5->1<=n->dfsC (cycG n n) true=true/\dfsC (cycS n n) false=true:=by decide+kernel
theorem cyo_ok:∀n:Nat,n<5->∀j:Nat,j<n->dfsC (cycO n j) true=true:=by decide+kernel
theorem cyc_err:∀n:Nat,n<5->∀m:Nat,m<n->(grpE netR (cycG n n) (nmAt m)).1=8/\(svcF (cycS n n) (nmAt m)).1=8:=by decide+kernel
theorem cyo_err:∀n:Nat,n<5->∀j:Nat,j<n->∀m:Nat,m<n->(grpE netR (cycO n j) (nmAt m)).1=0/\pf1.rg∈(grpE netR (cycO n j) (nmAt m)).2:=by decide+kernel
def sanG:List Df:=[⟨nmB 97,[itNm (nmB 98)]⟩,⟨nmB 98,[itZn ⟨#[100,109,122]⟩]⟩,⟨nmB 99,[itNm (nmB 99)]⟩]
theorem san_ok:NtOk (defI sanG []):=defI_ok (by decide+kernel) (by decide+kernel)
theorem san_a:grpE netR sanG (nmB 97)=(0,[pf4.rg]):=by decide+kernel
theorem san_b:grpE netR sanG (nmB 98)=(0,[pf4.rg]):=by decide+kernel
theorem san_c:(grpE netR sanG (nmB 99)).1=8:=by decide+kernel
theorem cwSub0{K:KT}(hK:K (encP pf0) []):ACall Tryz.prog 31 [.v (.int .i64 0)] [] K:=cnSub 0 (by decide) hK
theorem cwSub1{K:KT}(hK:K (encP pf1) []):ACall Tryz.prog 31 [.v (.int .i64 1)] [] K:=cnSub 1 (by decide) hK
theorem cwSub4{K:KT}(hK:K (encP pf4) []):ACall Tryz.prog 31 [.v (.int .i64 4)] [] K:=cnSub 4 (by decide) hK
theorem cwNet{K:KT}(hK:K (encT netR) []):ACall Tryz.prog 30 [] [] K:=by
 refine ACall.weak (ofl17Net rfl rfl ?_)
 (repeat' ((conv=>whnf);first|(refine cwSub0 ?_)|(refine cwSub4 ?_)|refine zG ?_|apply zA|(apply zI;intro h)|exact zT));(all_goals conv=>whnf)
 exact⟨encT netR,Weak.agg (ys:=[_,.lst [],_,.lst [],_]) ⟨Weak.refl,Weak.nils,Weak.refl,Weak.nils,Weak.refl,trivial⟩,hK⟩
theorem bnd_def{g s:List Df}(h1:g.length<=4)(h2:s.length<=4)(h3:∀x,x∈g->x.items.length<=4)(h4:∀x,x∈s->x.items.length<=4):Bnd (defI g s):=by
 have sum:∀l:List Df,(∀x,x∈l->x.items.length<=4)->itsN l<=4*l.length:=by
  intro l
  induction l with
  |nil=>intro _;exact Nat.zero_le _
  |cons x l ih=>
   intro h
   have:=ih fun y hy=>h y (List.mem_cons_of_mem _ hy)
   have:=h x (by simp)
   unfold itsN at*
   simp only[List.map_cons,List.sum_cons,List.length_cons]
   omega
 have e1:=sum g h3
 have e2:=sum s h4
 exact⟨by show g.length<=999;omega,by show s.length<=999;omega,Nat.zero_le _,Nat.zero_le _,Nat.zero_le _,Nat.zero_le _,fun x hx=>by have:=h3 x hx;omega,fun x hx=>by have:=h4 x hx;omega,fun x hx=>by simp[defI]at hx,by show itsN g<=70;omega,by show itsN s<=70000;omega⟩
theorem netR_len:netR.edges.length<1000000:=by decide
theorem grp_netR{g s:List Df}(h:NtOk (defI g s))(hb:Bnd (defI g s))(nm:ByteArray){K:KT}(hK:K (.tup [encRs (grpP netR (defI g s) nm).1,.v (.int .i64 (grpP netR (defI g s) nm).2)]) []):ACall Tryz.prog 13 [encT netR,encNt (defI g s),.v (.string nm)] [] K:=
 crGroup netR netR_len (defI g s) hb nm (by rw[grpV,if_pos ⟨comp_netR,ntB_true h⟩];exact hK)
theorem svc_netR{g s:List Df}(h:NtOk (defI g s))(hb:Bnd (defI g s))(nm:ByteArray){K:KT}(hK:K (.tup [encXs (svcP (defI g s) nm).1,.v (.int .i64 (svcP (defI g s) nm).2)]) []):ACall Tryz.prog 24 [encNt (defI g s),.v (.string nm)] [] K:=
 crService (defI g s) hb nm (by rw[svcV,if_pos (ntB_true h)];exact hK)
theorem san_bnd:Bnd (defI sanG []):=bnd_def (by decide) (by decide) (fun x hx=>by
 simp only[sanG,List.mem_cons,List.not_mem_nil,or_false]at hx
 rcases hx with rfl|rfl|rfl<;>decide) (fun x hx=>by simp at hx)
theorem canO_one{r:Rg}(h:r.lo<=r.hi):canO (has [r])=[r]:=canO_eq ⟨fun s hs=>by rw[List.mem_singleton.1 hs];exact h,List.pairwise_singleton ..⟩ fun v=>rfl
theorem sanP_a:grpP netR (defI sanG []) (nmB 97)=([pf4.rg],0):=by
 have e:grpE netR (defI sanG []).grps (nmB 97)=(0,[pf4.rg]):=san_a
 rw[grpP,e,if_pos rfl,canO_one (by decide)]
theorem sanP_b:grpP netR (defI sanG []) (nmB 98)=([pf4.rg],0):=by
 have e:grpE netR (defI sanG []).grps (nmB 98)=(0,[pf4.rg]):=san_b
 rw[grpP,e,if_pos rfl,canO_one (by decide)]
theorem sanP_c:grpP netR (defI sanG []) (nmB 99)=([],8):=by
 have e:(grpE netR (defI sanG []).grps (nmB 99)).1=8:=san_c
 rw[grpP,e,if_neg (by decide)]
theorem san_chk:chkP netR (defI sanG [])=8:=by
 have e:fstE (fun d:Df=>(grpP netR (defI sanG []) d.name).2) (defI sanG []).grps=8:=by
  show fstE (fun d:Df=>(grpP netR (defI sanG []) d.name).2) [⟨nmB 97,[itNm (nmB 98)]⟩,⟨nmB 98,[itZn ⟨#[100,109,122]⟩]⟩,⟨nmB 99,[itNm (nmB 99)]⟩]=8
  rw[fstE_cons,if_neg (by simp only[sanP_a];decide),fstE_cons,if_neg (by simp only[sanP_b];decide),fstE_cons,if_pos (by simp only[sanP_c];decide)]
  simp only[sanP_c]
 rw[chkP_eq,e,if_pos (by decide)]
theorem cwSane{K:KT}(hK:K (.sb true) []):ACall Tryz.prog 19 [] [] K:=by
 have ga:∀{K:KT},K (.tup [encRs [pf4.rg],.v (.int .i64 0)]) []->ACall Tryz.prog 13 [encT netR,encNt (defI sanG []),.v (.string (nmB 97))] [] K:=fun h=>grp_netR san_ok san_bnd _ (by rw[sanP_a];exact h)
 have gc:∀{K:KT},K (.tup [.lst [],.v (.int .i64 8)]) []->ACall Tryz.prog 13 [encT netR,encNt (defI sanG []),.v (.string (nmB 99))] [] K:=fun h=>grp_netR san_ok san_bnd _ (by rw[sanP_c];exact h)
 have se:∀{K:KT},K (.tup [encXs initS,.v (.int .i64 0)]) []->ACall Tryz.prog 24 [encNt (defI sanG []),.v (.string ⟨#[]⟩)] [] K:=fun h=>svc_netR san_ok san_bnd _ (by rw[svcP,if_pos (by rw[sEq_data];rfl)];exact h)
 have ch:∀{K:KT},K (.v (.int .i64 8)) []->ACall Tryz.prog 47 [encT netR,encNt (defI sanG [])] [] K:=fun h=>crCheck netR netR_len (by decide) _ san_bnd (by rw[chkV,if_pos ⟨comp_netR,ntB_true san_ok⟩,san_chk];exact h)
 refine ACall.bool (ofl17San rfl rfl ?_)
 (repeat' ((conv=>whnf);first|(with_reducible refine cwNet ?_)|(refine ga ?_)|(refine gc ?_)|(refine se ?_)|(refine ch ?_)|(refine in_c (by decide) ?_)|(refine Ix.intro rfl ?_)|refine zG ?_|apply zA|(apply zI;intro h)|exact zT));(all_goals conv=>whnf)
 all_goals first
  |exact fin_s hK rfl
  |exact absurd rfl h
  |exact absurd (by decide) h
theorem cycG_succ(n k:Nat):cycG n (k+1)=cycG n k++[⟨nmAt k,[itZn ⟨#[108,97,110]⟩,itNm (nmAt ((k+1)%n))]⟩]:=by
 rw[cycG,List.range_succ,List.map_append,<-cycG];rfl
theorem cycS_succ(n k:Nat):cycS n (k+1)=cycS n k++[⟨nmAt k,[itNm (nmAt ((k+1)%n))]⟩]:=by
 rw[cycS,List.range_succ,List.map_append,<-cycS];rfl
theorem cycG_len(n k:Nat):(cycG n k).length=k:=by rw[cycG,List.length_map,List.length_range]
theorem cycS_len(n k:Nat):(cycS n k).length=k:=by rw[cycS,List.length_map,List.length_range]
theorem nmL4_at{k:Nat}(h:k<4):nmL4[k]? =some (nmAt k):=by
 have:∀k:Fin 4,nmL4[k.val]? =some (nmAt k.val):=by decide+kernel
 exact this ⟨k,h⟩
theorem nmL4_at0{k:Nat}(h:k<4):nmL4[0+k]? =some (nmAt k):=by rw[Nat.zero_add];exact nmL4_at h
theorem cyc_bnd{n:Nat}(hn:n<=4):Bnd (defI (cycG n n) (cycS n n)):=bnd_def (by rw[cycG_len];omega) (by rw[cycS_len];omega) (fun x hx=>by
 obtain⟨m,_,rfl⟩:=List.mem_map.1 hx;exact Nat.le_of_ble_eq_true rfl) fun x hx=>by
 obtain⟨m,_,rfl⟩:=List.mem_map.1 hx;exact Nat.le_of_ble_eq_true rfl
theorem cyo_bnd{n j:Nat}(hn:n<=4):Bnd (defI (cycO n j) (cycS n n)):=bnd_def (by rw[cycO,List.length_set,cycG_len];omega) (by rw[cycS_len];omega) (fun x hx=>by
 rcases List.mem_or_eq_of_mem_set hx with hx|rfl
 ·obtain⟨m,_,rfl⟩:=List.mem_map.1 hx;exact Nat.le_of_ble_eq_true rfl
 ·exact Nat.le_of_ble_eq_true rfl) fun x hx=>by
 obtain⟨m,_,rfl⟩:=List.mem_map.1 hx;exact Nat.le_of_ble_eq_true rfl
theorem nm_ne:∀m:Nat,m<4->sEqD (nmAt m) ⟨#[]⟩=false:=by decide+kernel
theorem cCycles(raw:List Int)(hr:raw.length<=9223372036854775807):ACall Tryz.prog 6 [.lst (raw.map encI)] [] Yes:=by
 refine ofl17Cyc rfl rfl ?_
 (repeat' ((conv=>whnf);first|(with_reducible refine c9 raw ?_)|(refine nNext raw 0 4 (by decide) (Nat.zero_le _) hr fun m1 p1 hm1 hp1=>?_)|(with_reducible refine wr_i64 rfl (by omega) (by omega) ?_)|(refine sl_full (by rfl) ?_)|refine zG ?_|apply zA|(apply zI;intro h)|exact zT));(all_goals conv=>whnf)
 obtain⟨n,hn⟩:∃n,n=m1+1:=⟨_,rfl⟩
 have hn4:n<=4:=by omega
 have hnI:1+(m1:Int)=(n:Int):=by omega
 rw[hnI]
 refine Lp.intro Nat (fun m=>⟨5,[(2,.box [.os 3 2 0 m,.os 4 2 0 m,.nils,.nils,.nils,.nils]),(3,.arr 2 ((cycG n m).map encDf)),(4,.arr 2 ((cycS n m).map encDf)),(0,tapeO raw p1),(1,.arr 1 (nmL4.map encSt))],[(3,.op 0 0),(4,.os 1 1 0 4),(5,.v (.int .i64 n)),(6,.op 2 0),(7,.v (.int .i64 m))]⟩) (fun m=>m<=n) (fun m=>n-m) 0 (Nat.zero_le _) ?_ ?_
 ·(exact leA)
 intro m hm
 have hgl:=cycG_len n m
 have hsl:=cycS_len n m
 rcases Nat.lt_or_ge m n with hml|hml
 ·have hmod:(m+1)%n<n:=Nat.mod_lt _ (by omega)
  have hI:((m:Int)+1).tmod (n:Int)=(((m+1)%n:Nat):Int):=by rw[Int.tmod_eq_emod_of_nonneg (by omega)];exact(Int.natCast_emod (m+1) n).symm
  have a1:nmL4[0+m]? =some (nmAt m):=by rw[Nat.zero_add];exact nmL4_at (by omega)
  have a2:nmL4[0+(m+1)%n]? =some (nmAt ((m+1)%n)):=by rw[Nat.zero_add];exact nmL4_at (by omega)
  (repeat' ((conv=>whnf);first|(with_reducible first|refine in_nat (by omega) ?_|refine In.intro ((m+1)%n) hI (by omega) ?_|refine ix_map a1 ?_|refine ix_map a2 ?_|refine Ob.intro (by omega) ?_|refine sl_full (by rw[List.length_map];exact hgl) ?_|refine sl_full (by rw[List.length_map];exact hsl) ?_)|refine zG ?_|apply zA|(apply zI;intro h)|exact zT));(all_goals conv=>whnf)
  all_goals
   refine⟨m+1,hml,by omega,?_⟩
   rw[cycG_succ,cycS_succ,List.map_append,List.map_append,Int.natCast_add,Int.natCast_one]
   (exact leA)
 ·have hme:m=n:=by omega
  subst hme
  have hok:=cyc_ok m (by omega) (by omega)
  have hnt:NtOk (defI (cycG m m) (cycS m m)):=defI_ok hok.1 hok.2
  have hG:∀(k:Nat),k<m->∀{K:KT},K (.tup [.lst [],.v (.int .i64 8)]) []->ACall Tryz.prog 13 [encT netR,encNt (defI (cycG m m) (cycS m m)),.v (.string (nmAt k))] [] K:=fun k hk K h=>
   grp_netR hnt (cyc_bnd hn4) _ (by
    have e:=(cyc_err m (by omega) k hk).1
    rw[grpP,show(defI (cycG m m) (cycS m m)).grps=cycG m m from rfl,e,if_neg (by decide)];exact h)
  have hS:∀(k:Nat),k<m->∀{K:KT},K (.tup [.lst [],.v (.int .i64 8)]) []->ACall Tryz.prog 24 [encNt (defI (cycG m m) (cycS m m)),.v (.string (nmAt k))] [] K:=fun k hk K h=>
   svc_netR hnt (cyc_bnd hn4) _ (by
    have e:=(cyc_err m (by omega) k hk).2
    have hne:¬sEq (nmAt k) ⟨#[]⟩=true:=by rw[sEq_data];have:=nm_ne k (by omega);unfold sEqD at this;rw[this];decide
    rw[svcP,if_neg hne,show(defI (cycG m m) (cycS m m)).svcs=cycS m m from rfl,e,if_pos (by decide)];exact h)
  have hO:∀(j k:Nat),j<m->k<m->∀{K:KT},(∀c,has c pf1.addr=true->c.length<100000->K (.tup [encRs c,.v (.int .i64 0)]) [])->ACall Tryz.prog 13 [encT netR,encNt (defI (cycO m j) (cycS m m)),.v (.string (nmAt k))] [] K:=fun j k hj hk K h=>by
   have e:=cyo_err m (by omega) j hj k hk
   have hnt2:NtOk (defI (cycO m j) (cycS m m)):=defI_ok (cyo_ok m (by omega) j hj) hok.2
   have hl:=grpP_len comp_netR (cyo_bnd (n:=m) (j:=j) hn4) (nmAt k)
   refine grp_netR hnt2 (cyo_bnd hn4) _ ?_
   have e1:grpP netR (defI (cycO m j) (cycS m m)) (nmAt k)=(canO (has (grpE netR (cycO m j) (nmAt k)).2),0):=by
    rw[grpP,show(defI (cycO m j) (cycS m m)).grps=cycO m j from rfl,if_pos e.1]
   rw[e1]at hl⊢
   refine h _ ?_ (by show(canO _).length<_;simp only at hl;omega)
   rw[(canO_has _).2]
   exact has_iff.2 ⟨pf1.rg,e.2,by decide,by decide⟩
  have hset:∀(j:Nat),((cycG m m).map encDf).set (0+j) (.agg [.v (.string (nmAt j)),.lst [encIt (itSn pf1)]])=(cycO m j).map encDf:=fun j=>by
   rw[Nat.zero_add,cycO,List.map_set];rfl
  have hat:∀(j:Nat),j<m->(cycG m m)[0+j]? =some ⟨nmAt j,[itZn ⟨#[108,97,110]⟩,itNm (nmAt ((j+1)%m))]⟩:=fun j hj=>by
   rw[Nat.zero_add,cycG,List.getElem?_map,List.getElem?_range hj];rfl
  have hO2:∀(j k:Nat),j<m->k<m->∀{K:KT},(∀r c,has (r::c) pf1.addr=true->(r::c).length<100000->K (.tup [encRs (r::c),.v (.int .i64 0)]) [])->ACall Tryz.prog 13 [encT netR,.agg [.lst (((cycG m m).map encDf).set (0+j) (.agg [.v (.string (nmAt j)),.lst [encIt (itSn pf1)]])),.lst ((cycS m m).map encDf),.lst [],.lst [],.lst [],.lst []],.v (.string (nmAt k))] [] K:=fun j k hj hk K h=>by
   rw[hset]
   refine hO j k hj hk fun c h1 h2=>?_
   cases c with
   |nil=>rw[has_nil]at h1;cases h1
   |cons r c=>exact h r c h1 h2
  (repeat' ((conv=>whnf);first|(with_reducible first|refine nNext raw _ _ (by omega) (by with_reducible assumption) hr fun k p2 hk hp2=>?_|refine in_nat (by omega) ?_|refine ix_map (nmL4_at0 (by omega)) ?_|refine cwNet ?_|refine sl_full (by rw[List.length_map];exact hgl) ?_|refine sl_full (by rw[List.length_map];exact hsl) ?_)|(refine hG _ (by omega) ?_)|(refine hS _ (by omega) ?_)|(refine cwSub1 ?_)|(with_reducible refine ix_map (hat _ (by omega)) ?_)|(refine hO2 _ _ (by omega) (by omega) fun r c hc1 hc2=>?_)|(with_reducible first|refine c34 (r::c) pf1.addr (by omega) ?_|refine cwSane ?_)|refine zG ?_|apply zA|(apply zI;intro h)|exact zT));(all_goals conv=>whnf)
  all_goals first
   |exact .inl rfl
   |exact .inr rfl
   |(rw[hc1]at h;cases h;done)
   |trace_state
open Go Go.Vm Go.ChangeShapes Go.WideShapes Go.ChangeAt Go.RowKit
theorem resolveCycles_lifted(os:Os)(started:os.Started)(H:Type)(enc:TypeId×Value->H):
  ReturnsInHanded {} Tryz.checked os 6 .any (fun w args=>(Rows.resolveCyclesSpec.pre enc Tryz.prog Tryz.f6 [] false w args/\laidMetH Tryz.prog laid3 w)/\sizedMet enc Tryz.prog Tryz.f6 (OpenSpec.ofChange Rows.resolveCyclesSpec) false w args)
   (Rows.resolveCyclesSpec.post enc Tryz.prog Tryz.f6 false true false false):=by
 refine returnsInHanded_of_change_and (C:=Tryz.checked) (X:=fun w _=>laidMetH Tryz.prog laid3 w) (fun _ _ _ hh h=>h.of_heap hh) ownNone started (by kernel_rfl) Tryz.func6
  (ChangeSpec.witness_shaped (enc:=enc) (C:=Tryz.checked) (os:=os) (X:=fun w _=>laidMetH Tryz.prog laid3 w) false (World.doorLaid Tryz.prog 400 os) #[.slice none 0 0] 8 rfl (World.shaped_of_RefB (by kernel_rfl) (by kernel_rfl)) (by kernel_rfl) (by kernel_rfl) (by kernel_rfl) (door_met os _)) ?_
 intro W base args ds gs before hval0 hW _ _ hL _
 have hval:∀(j:Nat) t v,Tryz.f6.params[j]? =some t->args[j]? =some v->Value.okWide Tryz.prog W .any base t v:=hval0
 refine law_contract (P:=Tryz.prog) (t:=4) (d:=6) laidOut (by kernel_rfl) (by kernel_rfl) rfl rfl (by kernel_rfl) (fun ds hds=>?_) (fun xs hxs=>?_) (glob_of hL) hval hW
 ·have hds:ds.length=1:=hds.trans (show Tryz.f6.params.size=1 by kernel_rfl)
  match ds,hds with
  |[d0],_=>rfl
 ·match xs,hxs with
  |[a0],⟨h0,_⟩=>
   obtain⟨raw0,rfl,hr0⟩:=ty_is (d:=4) h0
   exact cCycles raw0 hr0
theorem resolveCycles_row:Rows.ResolveCyclesSaid:=
 OpenClaim.holds_of_wide 6 Tryz.f6 rfl rfl rfl rfl rfl rfl rfl ⟨rfl,rfl,rfl,rfl,rfl⟩ rfl rfl rfl rfl rfl (by kernel_rfl) Tryz.func6 (by kernel_rfl)
  (of_decide_eq_true (by kernel_rfl)) (by unfold Func.isWrapper;first|(rw[if_pos (by decide+kernel)];kernel_rfl)|(rw[if_neg (by decide+kernel)];exact⟨rfl,rfl⟩))
  (fun os started H enc _=>resolveCycles_lifted os started H enc)
theorem resolveCycles_holds:Rows.ResolveCyclesCardSaid:=
 Claim7.holds_tied_plain_at .later [] [.data,.widerDeep] true Rows.resolveCyclesCard.stood.harness false
  resolveCycles_row (fun _ h=>by cases h) (by kernel_rfl) (fun _ h=>by cases h) resolveCycles_row_tie rfl ⟨rfl,rfl⟩ (by kernel_rfl) rfl
  (fun f fn hf hfn=>by
   obtain rfl:f=6:=Option.some.inj ((show Tryz.prog.funcNamed "netsegment/nsglaw17.ResolveCycles"=some 6 by kernel_rfl).symm.trans hf)|>.symm
   obtain rfl:fn=Tryz.f6:=(Option.some.inj (Tryz.func6.symm.trans hfn)).symm
   exact⟨by kernel_rfl,fun j t ht=>wants_none (ts:=Tryz.f6.params.toList) (by kernel_rfl) (List.mem_of_getElem? (by rw[Array.getElem?_toList];exact ht))⟩)
  (by kernel_rfl)
#print axioms resolveCycles_holds
end Go.Proofs.YtahhamfngafmcaaGreatDoor
