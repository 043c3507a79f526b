/- Texts of windows: the reference's calendar as far as sizes go; the generator's windows. -/
import Derived.Test.YtbdikofefjljoaaGreatDoorProg
import Derived.Test.YtbdikofefjljoaaGreatDoorK16
set_option linter.unusedVariables false
set_option linter.unusedSimpArgs false
set_option maxRecDepth 100000
set_option maxHeartbeats 4000000
namespace Go.Proofs.YtbdikofefjljoaaGreatDoor
open Go Go.Vm
noncomputable abbrev encSt(s:ByteArray):AV:=.v (.string s)
theorem ix_baA{s:ByteArray}{j:Nat}{K:UInt8->Prop}(h:j<s.size)(hk:∀b,K b):∃b,s[j]? =some b/\K b:=ix_ba h fun b _=>hk b
def dayL:List ByteArray:=[⟨#[109,111,110]⟩,⟨#[116,117,101]⟩,⟨#[119,101,100]⟩,⟨#[116,104,117]⟩,⟨#[102,114,105]⟩,⟨#[115,97,116]⟩,⟨#[115,117,110]⟩]
theorem cqDays{K:KT}(hK:K (.lst (dayL.map encSt)) []):ACall Tryz.prog 282 [] [] K:=by
 refine ofq9Days rfl rfl ?_
 (repeat' ((conv=>whnf);first|(refine sl_full (by rfl) ?_)|refine zG ?_|apply zA|(apply zI;intro h)|exact zT));(all_goals conv=>whnf)
 exact hK
theorem cqTwo(s:ByteArray){K:KT}(hK:∀r:Int,K (.v (.int .i64 r)) []):ACall Tryz.prog 334 [.v (.string s)] [] K:=by
 refine ofq9Two rfl rfl ?_
 (repeat' ((conv=>whnf);first|(refine In.intro 0 rfl zo ?_)|(refine In.intro 1 rfl zo ?_)|(with_reducible first|refine ix_baA zo fun b=>?_|refine wr_any fun r=>?_)|refine zG ?_|apply zA|(apply zI;intro h)|exact zT));(all_goals conv=>whnf)
 all_goals first
  |exact hK _
theorem cqClock(s:ByteArray){K:KT}(hK:∀r:Int,-1<=r->r<=1440->K (.v (.int .i64 r)) []):ACall Tryz.prog 317 [.v (.string s)] [] K:=by
 refine ofq9Clock rfl rfl ?_
 (repeat' ((conv=>whnf);first|(refine In.intro 2 rfl zo ?_)|(with_reducible first|refine ix_baA zo fun b=>?_|refine Sb.intro 0 2 rfl rfl zo zo ?_|refine Sb.intro 3 s.size rfl rfl zo zo ?_|refine cqTwo _ fun r=>?_|refine wr_i64 rfl zo zo ?_)|refine zG ?_|apply zA|(apply zI;intro h)|exact zT));(all_goals conv=>whnf)
 all_goals first
  |exact hK _ zo zo
theorem cqParts(s:ByteArray)(c:Int)(hs:s.size<=1000){K:KT}(hK:∀l:List ByteArray,l≠[]->l.length<=2000->K (.lst (l.map encSt)) []):ACall Tryz.prog 315 [.v (.string s),.v (.int .u8 c)] [] K:=by
 refine ofq1Parts rfl rfl ?_
 (repeat' ((conv=>whnf);first|refine zG ?_|apply zA|(apply zI;intro h)|exact zT));(all_goals conv=>whnf)
 refine Lp.intro (List ByteArray×Nat×Nat) (fun g=>⟨1,[(0,.arr 1 (g.1.map encSt))],[(0,.v (.string s)),(1,.v (.int .u8 c)),(5,.os 0 1 0 g.1.length),(6,.v (.int .i64 g.2.1)),(7,.v (.int .i64 g.2.2))]⟩)
  (fun g=>g.2.2<=s.size+1/\g.2.1<=g.2.2/\g.1.length<=g.2.2/\(g.2.2=s.size+1->g.1≠[])) (fun g=>s.size+1-g.2.2) ([],0,0) ⟨by simp only;omega,Nat.le_refl _,Nat.le_refl _,fun h=>by simp only at h;omega⟩ ?_ ?_
 ·(exact leA)
 rintro⟨l,a,i⟩ ⟨h1,h2,h3,h4⟩
 simp only at h1 h2 h3 h4⊢
 rcases Nat.lt_or_ge i (s.size+1)with hl|hl
 ·(repeat' ((conv=>whnf);first|(with_reducible first|refine in_nat zo ?_|refine ix_baA zo fun b=>?_|refine Sb.intro a i rfl rfl zo zo ?_)|refine zG ?_|apply zA|(apply zI;intro h)|exact zT));(all_goals conv=>whnf)
  all_goals first
   |(refine⟨(l,a,i+1),⟨by simp only;omega,by simp only;omega,by simp only;omega,fun h=>by simp only at h;omega⟩,by simp only;omega,?_⟩
     rw[show(((l,a,i+1):List ByteArray×Nat×Nat).2.2:Int)=(i:Int)+1 from by simp only;omega]
     (exact leA)
     done)
   |(refine⟨(l++[s.extract a i],i+1,i+1),⟨by simp only;omega,by simp only;omega,by simp only[List.length_append,List.length_cons,List.length_nil];omega,fun h=>by simp⟩,by simp only;omega,?_⟩
     simp only[List.map_append,List.length_append,List.map_cons,List.map_nil,List.length_cons,List.length_nil,Int.natCast_add,Int.natCast_one]
     (exact leA)
     done)
   |(exfalso;omega)
 ·(repeat' ((conv=>whnf);first|(with_reducible refine sl_full (List.length_map ..) ?_)|refine zG ?_|apply zA|(apply zI;intro h)|exact zT));(all_goals conv=>whnf)
  exact hK l (h4 zo) zo
theorem canon_le{l:List Rg}(h:Canon l){r:Rg}(hr:r∈l):r.lo<=r.hi:=h.1 r hr
def winL:List ByteArray:=[⟨#[109,111,110]⟩,⟨#[116,117,101]⟩,⟨#[115,117,110]⟩,⟨#[109,111,110,45,102,114,105]⟩,⟨#[115,97,116,45,115,117,110]⟩,⟨#[119,101,100,45,119,101,100]⟩]
def houL:List ByteArray:=[⟨#[48,48,58,48,48,45,50,52,58,48,48]⟩,⟨#[48,56,58,48,48,45,49,55,58,48,48]⟩,⟨#[48,56,58,48,48,45,48,56,58,48,49]⟩,⟨#[50,51,58,53,57,45,50,52,58,48,48]⟩,⟨#[49,55,58,48,48,45,49,56,58,51,48]⟩]
open Classical in
noncomputable def canO(f:Int->Bool):List Rg:=if h:∃l,Canon l/\∀v,has l v=f v then h.choose else []
theorem canO_eq{f:Int->Bool}{l:List Rg}(hc:Canon l)(hf:∀v,has l v=f v):canO f=l:=by
 have h:∃l,Canon l/\∀v,has l v=f v:=⟨l,hc,hf⟩
 rw[canO,dif_pos h]
 obtain⟨h1,h2⟩:=h.choose_spec
 exact canon_ext h1 hc fun v=>by rw[h2,hf]
theorem canO_spec{f:Int->Bool}(h:∃l,Canon l/\∀v,has l v=f v):Canon (canO f)/\∀v,has (canO f) v=f v:=by
 obtain⟨l,h1,h2⟩:=h
 rw[canO_eq h1 h2]
 exact⟨h1,h2⟩
theorem sub_ex(a b:List Rg):∃l,Canon l/\∀v,has l v=(has a v&& !has b v):=by
 have inv:=starts_inv (a++b) (top:=4294967295) zd
 obtain⟨r0,hr0⟩:=inv.zero
 have hseg:∀s,s∈segs 4294967295 (starts (a++b) 4294967295)->∀v,s.1<=v->v<=s.2->(fun v=>has a v&& !has b v) v=(fun v=>has a v&& !has b v) s.1:=by
  intro s hs v h1 h2
  simp only
  rw[has_const zd (fun r hr=>List.mem_append.2 (.inl hr)) hs h1 h2,has_const zd (fun r hr=>List.mem_append.2 (.inr hr)) hs h1 h2]
 have hsort:=inv.sorted
 have hrange:=inv.range
 rw[hr0]at hseg hsort hrange
 have hk:=fold_inv (f:=fun v=>has a v&& !has b v) (top:=4294967295) zd r0 0 [] ⟨⟨fun r hr=>by simp at hr,by simp⟩,fun v=>by
  rw[Bool.eq_iff_iff]
  simp only[has,List.any_nil,Bool.false_eq_true,Bool.and_eq_true,decide_eq_true_eq,false_iff]
  omega,fun r hr=>by simp at hr⟩ hsort hrange hseg
 refine⟨_,hk.canon,fun v=>?_⟩
 rw[hk.mem]
 cases h:(has a v&& !has b v)with
 |false=>simp
 |true=>
  simp only[Bool.and_eq_true]at h
  obtain⟨r,hr,h1,h2⟩:=has_iff.1 h.1
  have:=r.l0;have:=r.h1
  simp only[Bool.and_true,Bool.and_eq_true,decide_eq_true_eq]
  omega
def itsN(l:List Df):Nat:=(l.map fun d=>d.items.length).sum
theorem canon_len{c rs:List Rg}(hc:Canon c)(h:∀v,has c v=has rs v):c.length<=rs.length:=by
 have hn:(c.map fun r=>r.lo).Nodup:=by
  unfold List.Nodup
  rw[List.pairwise_map]
  refine List.Pairwise.imp_of_mem ?_ hc.2
  intro a b ha _ hab e
  have:=hc.1 a ha;omega
 have:=nodup_sub hn (m:=rs.map fun r=>r.lo) fun x hx=>by
  obtain⟨r,hr,rfl⟩:=List.mem_map.1 hx
  have hle:=hc.1 r hr
  have h1:has rs r.lo=true:=by rw[<-h];exact has_iff.2 ⟨r,hr,Int.le_refl _,hle⟩
  obtain⟨s,hs,s1,s2⟩:=has_iff.1 h1
  refine List.mem_map.2 ⟨s,hs,?_⟩
  rcases Int.lt_or_le s.lo r.lo with hlt|hge
  ·exfalso
   have h2:has c (r.lo-1)=true:=by rw[h];exact has_iff.2 ⟨s,hs,by omega,by omega⟩
   obtain⟨q,hq,q1,q2⟩:=has_iff.1 h2
   obtain⟨i,hi,rfl⟩:=List.mem_iff_getElem.1 hr
   obtain⟨j,hj,rfl⟩:=List.mem_iff_getElem.1 hq
   have hp:=List.pairwise_iff_getElem.1 hc.2
   rcases Nat.lt_trichotomy i j with hij|hij|hij
   ·have:=hp i j hi hj hij;omega
   ·subst hij;omega
   ·have:=hp j i hj hi hij;omega
  ·omega
 simpa using this
theorem canO_len(rs:List Rg):(canO (has rs)).length<=rs.length:=by
 obtain⟨c,hc,hh⟩:=sub_ex rs []
 have hh':∀v,has c v=has rs v:=fun v=>by rw[hh,has_nil];simp
 rw[canO_eq hc hh']
 exact canon_len hc hh'
def prB(p:Int)(r:Rg):Bool:=if p=6\/p=17 then decide (r.lo<=r.hi/\r.hi<=65535)else if p=1 then decide (r.lo=8/\r.hi=8)else decide (0<=p/\p<=255/\r.lo=0/\r.hi=0)
def itN(x:It):Bool:=decide (x.pf.addr=0/\x.pf.bits=0/\x.proto=0/\x.ports.lo=0/\x.ports.hi=0)
def itP(x:It):Bool:=sEq x.name ⟨#[]⟩&&decide (x.proto=0/\x.ports.lo=0/\x.ports.hi=0)
def itS(x:It):Bool:=sEq x.name ⟨#[]⟩&&decide (x.pf.addr=0/\x.pf.bits=0)
noncomputable def itB(x:It)(g:Bool):Bool:=
 if x.kind=3 then nameB x.name&&itN x
 else if x.kind=1 then g&&(nameB x.name&&itN x)
 else if x.kind=2 then g&&(decide x.pf.okP&&itP x)
 else if x.kind=4 then !g&&(prB x.proto x.ports&&itS x)else false
def dfIx(l:List Df)(s:ByteArray):Int:=firstIx (fun d=>sEq d.name s) l
structure DfOk (l:List Df) (g:Bool) (i:Nat) (d:Df):Prop where
 name:nameB d.name=true
 first:dfIx l d.name=i
 lo:1<=d.items.length
 hi:d.items.length<=16
 all:∀x,x∈d.items->itB x g=true
structure DfsOk (l:List Df) (g:Bool):Prop where
 len:l.length<=32
 all:∀(i:Nat) d,l[i]? =some d->DfOk l g i d
noncomputable def dayW(l:List Rg)(d:Nat):List Rg:=canO fun v=>has l v&&(decide (1440*(d:Int)<=v)&&decide (v<=1440*(d:Int)+1439))
noncomputable def cntW(l:List Rg)(k:Nat):Nat:=((List.range k).map fun d=>(dayW l d).length).sum
theorem cntW_succ(l:List Rg)(k:Nat):cntW l (k+1)=cntW l k+(dayW l k).length:=by
 rw[cntW,List.range_succ,List.map_append,List.sum_append,<-cntW];simp
structure WinOk (l:List Rg):Prop where
 can:Canon l
 top:∀r,r∈l->r.hi<=10079
 few:cntW l 7<=16
def wnIx(l:List Wn)(s:ByteArray):Int:=firstIx (fun d=>sEq d.name s) l
structure WnOk (l:List Wn) (i:Nat) (w:Wn):Prop where
 name:nameB w.name=true
 first:wnIx l w.name=i
 act:WinOk w.act
noncomputable def optB(s:ByteArray):Bool:=sEq s ⟨#[]⟩||nameB s
noncomputable def smB(x:Sm):Bool:=
 (optB x.frm&&(optB x.to&&(optB x.svc&&(optB x.cls&&(optB x.dur&&(optB x.exF&&optB x.exT))))))&&
 ((x.exc||(sEq x.exF ⟨#[]⟩&&sEq x.exT ⟨#[]⟩))&&((x.permit||sEq x.cls ⟨#[]⟩)&&(decide (0<=x.pri)&&decide (x.pri<=1000))))
def ptB(n:Int):Bool:=decide (0<=n)&&decide (n<=65535)
noncomputable def pbB(x:Pb):Bool:=(decide (x.proto=6)||decide (x.proto=17))&&(ptB x.port&&(ptB x.rport&&nameB x.edge))
noncomputable def hnB(x:Hn):Bool:=nameB x.grp&&(nameB x.edge&&decide (1024<=x.ports.lo/\x.ports.lo<=x.ports.hi/\x.ports.hi<=65535))
structure NtOk (i:Nt):Prop where
 g:DfsOk i.grps true
 s:DfsOk i.svcs false
 wl:i.wins.length<=32
 tl:i.sts.length<=64
 pl:i.pubs.length<=16
 hl:i.hids.length<=8
 w:∀(k:Nat) x,i.wins[k]? =some x->WnOk i.wins k x
 t:∀x,x∈i.sts->smB x=true
 p:∀x,x∈i.pubs->pbB x=true
 h:∀x,x∈i.hids->hnB x=true
open Classical in
noncomputable def dfsB(l:List Df)(g:Bool):Bool:=decide (DfsOk l g)
theorem dfsB_iff{l:List Df}{g:Bool}:dfsB l g=true↔DfsOk l g:=by simp[dfsB]
theorem dfsB_true{l:List Df}{g:Bool}(h:DfsOk l g):dfsB l g=true:=dfsB_iff.2 h
theorem dfsB_false{l:List Df}{g:Bool}(h:¬DfsOk l g):dfsB l g=false:=by rw[Bool.eq_false_iff,ne_eq,dfsB_iff];exact h
open Classical in
noncomputable def winB(l:List Rg):Bool:=decide (WinOk l)
theorem winB_iff{l:List Rg}:winB l=true↔WinOk l:=by simp[winB]
open Classical in
noncomputable def ntB(i:Nt):Bool:=decide (NtOk i)
theorem ntB_iff{i:Nt}:ntB i=true↔NtOk i:=by simp[ntB]
theorem ntB_true{i:Nt}(h:NtOk i):ntB i=true:=ntB_iff.2 h
theorem ntB_false{i:Nt}(h:¬NtOk i):ntB i=false:=by rw[Bool.eq_false_iff,ne_eq,ntB_iff];exact h
theorem dayW_eq{l out:List Rg}{d:Nat}(hc:Canon out)(hh:∀v,has out v=(has l v&&(decide (1440*(d:Int)<=v)&&decide (v<=1440*(d:Int)+1439)))):dayW l d=out:=canO_eq hc hh
theorem le_sum_nat{α:Type}{f:α->Nat}{l:List α}{x:α}(h:x∈l):f x<=(l.map f).sum:=by
 induction l with
 |nil=>simp at h
 |cons e l ih=>
  simp only[List.map_cons,List.sum_cons]
  rcases List.mem_cons.1 h with h|h
  ·subst h;omega
  ·have:=ih h;omega
def setF(p:Nat->Int)(f:Nat)(v:Int):Nat->Int:=fun g=>if g=f then v else p g
theorem has_day{d:Nat}(hd:d<7)(v:Int):has [mkR (1440*(d:Int)) (1440*d+1439)] v=(decide (1440*(d:Int)<=v)&&decide (v<=1440*(d:Int)+1439)):=by
 have m1:(mkR (1440*(d:Int)) (1440*d+1439)).lo=1440*d:=mkR_lo zo zo zo zo
 have m2:(mkR (1440*(d:Int)) (1440*d+1439)).hi=1440*d+1439:=mkR_hi zo zo zo zo
 have e:has [mkR (1440*(d:Int)) (1440*d+1439)] v=(decide ((mkR (1440*(d:Int)) (1440*d+1439)).lo<=v)&&decide (v<=(mkR (1440*(d:Int)) (1440*d+1439)).hi)):=by simp[has]
 rw[e,m1,m2]
theorem inter_exists(l:List Rg){d:Nat}(hd:d<7):∃c,Canon c/\∀v,has c v=(has l v&&(decide (1440*(d:Int)<=v)&&decide (v<=1440*(d:Int)+1439))):=by
 obtain⟨x,hx,ex⟩:=sub_ex l [mkR (1440*(d:Int)) (1440*d+1439)]
 obtain⟨y,hy,ey⟩:=sub_ex l x
 refine⟨y,hy,fun v=>?_⟩
 rw[ey,ex,has_day hd]
 cases has l v<;>cases (decide (1440*(d:Int)<=v)&&decide (v<=1440*(d:Int)+1439))<;>rfl
theorem dayW_ne{l:List Rg}(hc:Canon l)(ht:∀r,r∈l->r.hi<=10079)(hn:l≠[]):1<=cntW l 7:=by
 obtain⟨r,hr⟩:=List.exists_mem_of_ne_nil _ hn
 have h1:=hc.1 r hr
 have h2:=ht r hr
 have h0:=r.l0
 have hd:(r.lo/1440).toNat<7:=by omega
 have hx:dayW l (r.lo/1440).toNat≠[]:=by
  intro e
  have:=(canO_spec (inter_exists l hd)).2 r.lo
  rw[show canO (fun v=>has l v&&(decide (1440*(((r.lo/1440).toNat:Nat):Int)<=v)&&decide (v<=1440*(((r.lo/1440).toNat:Nat):Int)+1439)))=dayW l (r.lo/1440).toNat from rfl,e,has_nil,has_iff.2 ⟨r,hr,Int.le_refl _,h1⟩,decide_eq_true zo,decide_eq_true zo]at this
  cases this
 have hl:=List.length_pos_iff.2 hx
 have:=le_sum_nat (f:=fun d=>(dayW l d).length) (List.mem_range.2 hd)
 unfold cntW
 omega
noncomputable def fmtN(l:List Rg):Nat:=if l=[]then 1 else 3*cntW l 7-1
open Classical in
noncomputable def fmtL(l:List Rg):Nat:=if Canon l/\∀r,r∈l->r.hi<=10079 then fmtN l else 0
theorem win_iff{l:List Rg}:WinOk l↔(Canon l/\∀r,r∈l->r.hi<=10079)/\fmtN l<=47:=by
 constructor
 ·intro h
  refine⟨⟨h.can,h.top⟩,?_⟩
  have:=h.few
  unfold fmtN;split<;>omega
 ·rintro⟨⟨h1,h2⟩,h3⟩
  refine⟨h1,h2,?_⟩
  unfold fmtN at h3
  by_cases hl:l=[]
  ·subst hl
   have e:∀d,dayW [] d=[]:=fun d=>dayW_eq canon_nil fun v=>by rw[has_nil];rfl
   unfold cntW
   simp only[e,List.length_nil]
   decide
  ·rw[if_neg hl]at h3;omega
theorem eqw_It{k k' pa pb qa qb pr pr' lo hi lo' hi':Int}{n n':ByteArray}{K:Bool->Prop}(hk:K (decide (k=k')&&(sEq n n'&&decide (pa=qa/\pb=qb/\pr=pr'/\lo=lo'/\hi=hi')))):EqV Tryz.prog 113 [.v (.int .i64 k),.v (.string n),.v (.int .u32 pa),.v (.int .i64 pb),.v (.int .i64 pr),.v (.int .u32 lo),.v (.int .u32 hi)]
  [.v (.int .i64 k'),.v (.string n'),.v (.int .u32 qa),.v (.int .i64 qb),.v (.int .i64 pr'),.v (.int .u32 lo'),.v (.int .u32 hi')] K:=by
 refine eqv_of (b:=(k==k'&&(n.toList==n'.toList&&((pa==qa&&(pb==qb&&true))&&(pr==pr'&&((lo==lo'&&(hi==hi'&&true))&&true)))))) rfl rfl zk zk ?_
 have e:(k==k'&&(n.toList==n'.toList&&((pa==qa&&(pb==qb&&true))&&(pr==pr'&&((lo==lo'&&(hi==hi'&&true))&&true)))))=(decide (k=k')&&(sEq n n'&&decide (pa=qa/\pb=qb/\pr=pr'/\lo=lo'/\hi=hi'))):=by
  unfold sEq
  rw[Bool.eq_iff_iff]
  simp only[Bool.and_eq_true,beq_iff_eq,decide_eq_true_eq,and_true,and_assoc]
 rw[e];exact hk
theorem eqw_Rg{lo hi lo' hi':Int}{K:Bool->Prop}(hk:K (decide (lo=lo'/\hi=hi'))):EqV Tryz.prog 111 [.v (.int .u32 lo),.v (.int .u32 hi)] [.v (.int .u32 lo'),.v (.int .u32 hi')] K:=by
 refine eqv_of (b:=(lo==lo'&&(hi==hi'&&true))) rfl rfl zk zk ?_
 have e:(lo==lo'&&(hi==hi'&&true))=decide (lo=lo'/\hi=hi'):=by
  rw[Bool.eq_iff_iff]
  simp only[Bool.and_eq_true,beq_iff_eq,decide_eq_true_eq,and_true]
 rw[e];exact hk
theorem sEq_self(s:ByteArray):sEq s s=true:=by unfold sEq;simp
noncomputable def g21:Ctx:={N:=8}
noncomputable def b21:Code:=bdy Tryz.f253
abbrev of21:=@ofC Tryz.prog g21 253 Tryz.f253 b21 Tryz.func253 zk zk zk zk
noncomputable def g41:Ctx:={N:=9}
noncomputable def b41:Code:=bdy Tryz.f299
abbrev of41:=@ofC Tryz.prog g41 299 Tryz.f299 b41 Tryz.func299 zk zk zk zk
noncomputable def g42:Ctx:={N:=14}
noncomputable def b42:Code:=bdy Tryz.f300
abbrev of42:=@ofC Tryz.prog g42 300 Tryz.f300 b42 Tryz.func300 zk zk zk zk
noncomputable def g50:Ctx:={N:=19}
noncomputable def b50:Code:=bdy Tryz.f327
abbrev of50:=@ofC Tryz.prog g50 327 Tryz.f327 b50 Tryz.func327 zk zk zk zk
noncomputable def g47:Ctx:={N:=10}
noncomputable def b47:Code:=bdy Tryz.f303
abbrev of47:=@ofC Tryz.prog g47 303 Tryz.f303 b47 Tryz.func303 zk zk zk zk
noncomputable def g48:Ctx:={N:=20}
noncomputable def b48:Code:=bdy Tryz.f304
abbrev of48:=@ofC Tryz.prog g48 304 Tryz.f304 b48 Tryz.func304 zk zk zk zk
noncomputable def g54:Ctx:={N:=6}
noncomputable def b54:Code:=bdy Tryz.f330
abbrev of54:=@ofC Tryz.prog g54 330 Tryz.f330 b54 Tryz.func330 zk zk zk zk
theorem c42(lo hi v:Int){K:KT}(hK:K (.sb (decide (lo<=v)&&decide (v<=hi))) []):
  ACall Tryz.prog 300 [.agg [.v (.int .u32 lo),.v (.int .u32 hi)],.fp [.v (.int .u32 v)]] [] K:=by
 refine ACall.bool (of42 rfl rfl ?_)
 iterate 12 (all_goals((conv=>whnf);first|refine zG ?_|apply zA|(apply zI;intro h)|exact zT|skip))
 ·refine .inr ⟨_,rfl,?_⟩
  have h:lo<=v:=by assumption
  rw[decide_eq_true h,Bool.true_and]at hK
  exact hK
 ·refine .inl ⟨_,rfl,?_⟩
  have h:¬lo<=v:=by assumption
  rw[decide_eq_false h,Bool.false_and]at hK
  exact hK
theorem c50(l:List Rg)(v:Int)(hl:l.length<1000000){K:KT}(hK:∀z:Int,(0<=z↔has l v=true)->K (.v (.int .i64 z)) []):
  ACall Tryz.prog 327 [encRs l,.fn (.func 300) [] [.fp [.v (.int .u32 v)]]] [] K:=by
 refine of50 rfl rfl ?_
 (conv=>whnf)
 refine Lp.intro Nat (fun k=>⟨0,[],[(0,encRs l),(1,.fn (.func 300) [] [.fp [.v (.int .u32 v)]]),(7,.v (.int .i64 (l.map encR).length)),(8,.v (.int .i64 k))]⟩) (fun k=>k<=l.length/\has (l.take k) v=false) (fun k=>l.length-k) 0 ?_ ?_ ?_
 ·exact⟨Nat.zero_le _,rfl⟩
 ·exact⟨[],rfl,⟨rfl,rfl,rfl,rfl,trivial⟩,trivial⟩
 ·intro k ⟨hk,hinv⟩
  rcases Nat.lt_or_ge k l.length with hkl|hkl
  ·obtain⟨r,hr⟩:=gex hkl
   iterate 6 (all_goals((conv=>whnf);first|(with_reducible first|refine in_map hkl ?_|refine ix_map hr ?_)|refine zG ?_|apply zA|(apply zI;intro h)|exact zT|skip))
   refine c42 r.lo r.hi v ?_
   have hs:=has_succ (v:=v) hr
   rw[hinv,Bool.false_or]at hs
   generalize hb:(decide (r.lo<=v)&&decide (v<=r.hi))=b at hs⊢
   (conv=>whnf)
   refine br_b (fun h=>?_) (fun h=>?_)
   ·(conv=>whnf)
    refine hK k (iff_of_true zo ?_)
    subst h
    simp only[Bool.and_eq_true,decide_eq_true_eq]at hb
    exact has_mem hr hb.1 hb.2
   ·iterate 6 (all_goals((conv=>whnf);first|refine zG ?_|apply zA|(apply zI;intro h)|exact zT|skip))
    exact⟨k+1,⟨by omega,by rw[hs,h]⟩,by omega,⟨[],rfl,⟨rfl,rfl,rfl,rfl,trivial⟩,trivial⟩⟩
  ·iterate 6 (all_goals((conv=>whnf);first|refine zG ?_|apply zA|(apply zI;intro h)|exact zT|skip))
   refine hK (-1) (iff_of_false zo ?_)
   rw[List.take_of_length_le hkl]at hinv
   rw[hinv];simp
theorem c41(l:List Rg)(v:Int)(hl:l.length<1000000){K:KT}(hK:K (.sb (has l v)) []):
  ACall Tryz.prog 299 [encRs l,.fn (.func 300) [] [.fp [.v (.int .u32 v)]]] [] K:=by
 refine ACall.bool (of41 rfl rfl ?_)
 (conv=>whnf)
 refine c50 l v hl fun z hz=>?_
 (conv=>whnf)
 refine .inr ⟨_,rfl,?_⟩
 have e:decide (0<=z)=has l v:=by rw[Bool.eq_iff_iff,decide_eq_true_eq];exact hz
 rw[e];exact hK
theorem c21(l:List Rg)(v:Int)(hl:l.length<1000000){K:KT}(hK:K (.sb (has l v)) []):
  ACall Tryz.prog 253 [encRs l,.v (.int .u32 v)] [] K:=by
 refine of21 rfl rfl ?_
 (conv=>whnf)
 refine c41 l v hl ?_
 (conv=>whnf)
 exact hK
theorem c54(x:Int){K:KT}(hK:K (.sb false) []):ACall Tryz.prog 330 [.v (.int .u32 x)] [] K:=by
 refine of54 rfl rfl ?_
 iterate 4 (all_goals((conv=>whnf);first|refine zG ?_|apply zA|(apply zI;intro h)|exact zT|skip))
 have e:(!decide (x=x))=false:=by simp
 unfold one?
 rw[e]
 exact hK
noncomputable def g39:Ctx:={N:=72,own:=at1 302 (true) (fun _=>false),plan:=at1 13 (some (ln [1,3,5,7,9,11,13,15,17,19,21,23,25,27,29,31])) (at1 14 (some (ln [1,3,5,7,9,11,13,15,17,19,21,23,25,27,28])) (fun _=>none)),hints:=at1 2 ([.virt 3 2,.virt 4 2]) (fun _=>[])}
noncomputable def b39:Code:=bdy Tryz.f257
abbrev of39:=@ofC Tryz.prog g39 257 Tryz.f257 b39 Tryz.func257 zk zk zk zk
end Go.Proofs.YtbdikofefjljoaaGreatDoor
