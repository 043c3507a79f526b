/- Which intents are valid: plain. -/
import Derived.Test.YtahhamfngafmcaaGreatDoorProg
import Derived.Test.YtahhamfngafmcaaGreatDoorM16
set_option linter.unusedVariables false
set_option linter.unusedSimpArgs false
set_option maxRecDepth 100000
set_option maxHeartbeats 4000000
namespace Go.Proofs.YtahhamfngafmcaaGreatDoor
open Go Go.Vm
open Classical in
noncomputable def canO(f:Int->Bool):List Rg:=if h:∃l,Canon l/\∀v,has l v=f v then h.choose else []
theorem canO_eq{f:Int->Bool}{l:List Rg}(hc:Canon l)(hf:∀v,has l v=f v):canO f=l:=by
 have h:∃l,Canon l/\∀v,has l v=f v:=⟨l,hc,hf⟩
 rw[canO,dif_pos h]
 obtain⟨h1,h2⟩:=h.choose_spec
 exact canon_ext h1 hc fun v=>by rw[h2,hf]
theorem canO_spec{f:Int->Bool}(h:∃l,Canon l/\∀v,has l v=f v):Canon (canO f)/\∀v,has (canO f) v=f v:=by
 obtain⟨l,h1,h2⟩:=h
 rw[canO_eq h1 h2]
 exact⟨h1,h2⟩
theorem sub_ex(a b:List Rg):∃l,Canon l/\∀v,has l v=(has a v&& !has b v):=by
 have inv:=starts_inv (a++b) (top:=4294967295) (by decide)
 obtain⟨r0,hr0⟩:=inv.zero
 have hseg:∀s,s∈segs 4294967295 (starts (a++b) 4294967295)->∀v,s.1<=v->v<=s.2->(fun v=>has a v&& !has b v) v=(fun v=>has a v&& !has b v) s.1:=by
  intro s hs v h1 h2
  simp only
  rw[has_const (by decide) (fun r hr=>List.mem_append.2 (.inl hr)) hs h1 h2,has_const (by decide) (fun r hr=>List.mem_append.2 (.inr hr)) hs h1 h2]
 have hsort:=inv.sorted
 have hrange:=inv.range
 rw[hr0]at hseg hsort hrange
 have hk:=fold_inv (f:=fun v=>has a v&& !has b v) (top:=4294967295) (by decide) r0 0 [] ⟨⟨fun r hr=>by simp at hr,by simp⟩,fun v=>by
  rw[Bool.eq_iff_iff]
  simp only[has,List.any_nil,Bool.false_eq_true,Bool.and_eq_true,decide_eq_true_eq,false_iff]
  omega,fun r hr=>by simp at hr⟩ hsort hrange hseg
 refine⟨_,hk.canon,fun v=>?_⟩
 rw[hk.mem]
 cases h:(has a v&& !has b v)with
 |false=>simp
 |true=>
  simp only[Bool.and_eq_true]at h
  obtain⟨r,hr,h1,h2⟩:=has_iff.1 h.1
  have:=r.l0;have:=r.h1
  simp only[Bool.and_true,Bool.and_eq_true,decide_eq_true_eq]
  omega
def itsN(l:List Df):Nat:=(l.map fun d=>d.items.length).sum
theorem canon_len{c rs:List Rg}(hc:Canon c)(h:∀v,has c v=has rs v):c.length<=rs.length:=by
 have hn:(c.map fun r=>r.lo).Nodup:=by
  unfold List.Nodup
  rw[List.pairwise_map]
  refine List.Pairwise.imp_of_mem ?_ hc.2
  intro a b ha _ hab e
  have:=hc.1 a ha;omega
 have:=nodup_sub hn (m:=rs.map fun r=>r.lo) fun x hx=>by
  obtain⟨r,hr,rfl⟩:=List.mem_map.1 hx
  have hle:=hc.1 r hr
  have h1:has rs r.lo=true:=by rw[<-h];exact has_iff.2 ⟨r,hr,Int.le_refl _,hle⟩
  obtain⟨s,hs,s1,s2⟩:=has_iff.1 h1
  refine List.mem_map.2 ⟨s,hs,?_⟩
  rcases Int.lt_or_le s.lo r.lo with hlt|hge
  ·exfalso
   have h2:has c (r.lo-1)=true:=by rw[h];exact has_iff.2 ⟨s,hs,by omega,by omega⟩
   obtain⟨q,hq,q1,q2⟩:=has_iff.1 h2
   obtain⟨i,hi,rfl⟩:=List.mem_iff_getElem.1 hr
   obtain⟨j,hj,rfl⟩:=List.mem_iff_getElem.1 hq
   have hp:=List.pairwise_iff_getElem.1 hc.2
   rcases Nat.lt_trichotomy i j with hij|hij|hij
   ·have:=hp i j hi hj hij;omega
   ·subst hij;omega
   ·have:=hp j i hj hi hij;omega
  ·omega
 simpa using this
theorem canO_len(rs:List Rg):(canO (has rs)).length<=rs.length:=by
 obtain⟨c,hc,hh⟩:=sub_ex rs []
 have hh':∀v,has c v=has rs v:=fun v=>by rw[hh,has_nil];simp
 rw[canO_eq hc hh']
 exact canon_len hc hh'
theorem canO_has(rs:List Rg):Canon (canO (has rs))/\∀v,has (canO (has rs)) v=has rs v:=by
 obtain⟨c,hc,hh⟩:=sub_ex rs []
 exact canO_spec ⟨c,hc,fun v=>by rw[hh,has_nil];simp⟩
def prB(p:Int)(r:Rg):Bool:=if p=6\/p=17 then decide (r.lo<=r.hi/\r.hi<=65535)else if p=1 then decide (r.lo=8/\r.hi=8)else decide (0<=p/\p<=255/\r.lo=0/\r.hi=0)
def itN(x:It):Bool:=decide (x.pf.addr=0/\x.pf.bits=0/\x.proto=0/\x.ports.lo=0/\x.ports.hi=0)
def itP(x:It):Bool:=sEq x.name ⟨#[]⟩&&decide (x.proto=0/\x.ports.lo=0/\x.ports.hi=0)
def itS(x:It):Bool:=sEq x.name ⟨#[]⟩&&decide (x.pf.addr=0/\x.pf.bits=0)
noncomputable def itB(x:It)(g:Bool):Bool:=
 if x.kind=3 then nameB x.name&&itN x
 else if x.kind=1 then g&&(nameB x.name&&itN x)
 else if x.kind=2 then g&&(decide x.pf.okP&&itP x)
 else if x.kind=4 then !g&&(prB x.proto x.ports&&itS x)else false
def dfIx(l:List Df)(s:ByteArray):Int:=firstIx (fun d=>sEq d.name s) l
structure DfOk (l:List Df) (g:Bool) (i:Nat) (d:Df):Prop where
 name:nameB d.name=true
 first:dfIx l d.name=i
 lo:1<=d.items.length
 hi:d.items.length<=16
 all:∀x,x∈d.items->itB x g=true
structure DfsOk (l:List Df) (g:Bool):Prop where
 len:l.length<=32
 all:∀(i:Nat) d,l[i]? =some d->DfOk l g i d
noncomputable def dayW(l:List Rg)(d:Nat):List Rg:=canO fun v=>has l v&&(decide (1440*(d:Int)<=v)&&decide (v<=1440*(d:Int)+1439))
noncomputable def cntW(l:List Rg)(k:Nat):Nat:=((List.range k).map fun d=>(dayW l d).length).sum
theorem cntW_succ(l:List Rg)(k:Nat):cntW l (k+1)=cntW l k+(dayW l k).length:=by
 rw[cntW,List.range_succ,List.map_append,List.sum_append,<-cntW];simp
structure WinOk (l:List Rg):Prop where
 can:Canon l
 top:∀r,r∈l->r.hi<=10079
 few:cntW l 7<=16
def wnIx(l:List Wn)(s:ByteArray):Int:=firstIx (fun d=>sEq d.name s) l
structure WnOk (l:List Wn) (i:Nat) (w:Wn):Prop where
 name:nameB w.name=true
 first:wnIx l w.name=i
 act:WinOk w.act
noncomputable def optB(s:ByteArray):Bool:=sEq s ⟨#[]⟩||nameB s
noncomputable def smB(x:Sm):Bool:=
 (optB x.frm&&(optB x.to&&(optB x.svc&&(optB x.cls&&(optB x.dur&&(optB x.exF&&optB x.exT))))))&&
 ((x.exc||(sEq x.exF ⟨#[]⟩&&sEq x.exT ⟨#[]⟩))&&((x.permit||sEq x.cls ⟨#[]⟩)&&(decide (0<=x.pri)&&decide (x.pri<=1000))))
def ptB(n:Int):Bool:=decide (0<=n)&&decide (n<=65535)
noncomputable def pbB(x:Pb):Bool:=(decide (x.proto=6)||decide (x.proto=17))&&(ptB x.port&&(ptB x.rport&&nameB x.edge))
noncomputable def hnB(x:Hn):Bool:=nameB x.grp&&(nameB x.edge&&decide (1024<=x.ports.lo/\x.ports.lo<=x.ports.hi/\x.ports.hi<=65535))
structure NtOk (i:Nt):Prop where
 g:DfsOk i.grps true
 s:DfsOk i.svcs false
 wl:i.wins.length<=32
 tl:i.sts.length<=64
 pl:i.pubs.length<=16
 hl:i.hids.length<=8
 w:∀(k:Nat) x,i.wins[k]? =some x->WnOk i.wins k x
 t:∀x,x∈i.sts->smB x=true
 p:∀x,x∈i.pubs->pbB x=true
 h:∀x,x∈i.hids->hnB x=true
open Classical in
noncomputable def dfsB(l:List Df)(g:Bool):Bool:=decide (DfsOk l g)
theorem dfsB_iff{l:List Df}{g:Bool}:dfsB l g=true↔DfsOk l g:=by simp[dfsB]
theorem dfsB_true{l:List Df}{g:Bool}(h:DfsOk l g):dfsB l g=true:=dfsB_iff.2 h
theorem dfsB_false{l:List Df}{g:Bool}(h:¬DfsOk l g):dfsB l g=false:=by rw[Bool.eq_false_iff,ne_eq,dfsB_iff];exact h
open Classical in
noncomputable def winB(l:List Rg):Bool:=decide (WinOk l)
theorem winB_iff{l:List Rg}:winB l=true↔WinOk l:=by simp[winB]
open Classical in
noncomputable def ntB(i:Nt):Bool:=decide (NtOk i)
theorem ntB_iff{i:Nt}:ntB i=true↔NtOk i:=by simp[ntB]
theorem ntB_true{i:Nt}(h:NtOk i):ntB i=true:=ntB_iff.2 h
theorem ntB_false{i:Nt}(h:¬NtOk i):ntB i=false:=by rw[Bool.eq_false_iff,ne_eq,ntB_iff];exact h
theorem dayW_eq{l out:List Rg}{d:Nat}(hc:Canon out)(hh:∀v,has out v=(has l v&&(decide (1440*(d:Int)<=v)&&decide (v<=1440*(d:Int)+1439)))):dayW l d=out:=canO_eq hc hh
def ApartR(es:List Rg):Prop:=es.Pairwise fun r s=>r.hi<s.lo\/s.hi<r.lo
theorem le_sum_nat{α:Type}{f:α->Nat}{l:List α}{x:α}(h:x∈l):f x<=(l.map f).sum:=by
 induction l with
 |nil=>simp at h
 |cons e l ih=>
  simp only[List.map_cons,List.sum_cons]
  rcases List.mem_cons.1 h with h|h
  ·subst h;omega
  ·have:=ih h;omega
def setF(p:Nat->Int)(f:Nat)(v:Int):Nat->Int:=fun g=>if g=f then v else p g
theorem has_day{d:Nat}(hd:d<7)(v:Int):has [mkR (1440*(d:Int)) (1440*d+1439)] v=(decide (1440*(d:Int)<=v)&&decide (v<=1440*(d:Int)+1439)):=by
 have m1:(mkR (1440*(d:Int)) (1440*d+1439)).lo=1440*d:=mkR_lo (by omega) (by omega) (by omega) (by omega)
 have m2:(mkR (1440*(d:Int)) (1440*d+1439)).hi=1440*d+1439:=mkR_hi (by omega) (by omega) (by omega) (by omega)
 have e:has [mkR (1440*(d:Int)) (1440*d+1439)] v=(decide ((mkR (1440*(d:Int)) (1440*d+1439)).lo<=v)&&decide (v<=(mkR (1440*(d:Int)) (1440*d+1439)).hi)):=by simp[has]
 rw[e,m1,m2]
theorem inter_exists(l:List Rg){d:Nat}(hd:d<7):∃c,Canon c/\∀v,has c v=(has l v&&(decide (1440*(d:Int)<=v)&&decide (v<=1440*(d:Int)+1439))):=by
 obtain⟨x,hx,ex⟩:=sub_ex l [mkR (1440*(d:Int)) (1440*d+1439)]
 obtain⟨y,hy,ey⟩:=sub_ex l x
 refine⟨y,hy,fun v=>?_⟩
 rw[ey,ex,has_day hd]
 cases has l v<;>cases (decide (1440*(d:Int)<=v)&&decide (v<=1440*(d:Int)+1439))<;>rfl
theorem dayW_ne{l:List Rg}(hc:Canon l)(ht:∀r,r∈l->r.hi<=10079)(hn:l≠[]):1<=cntW l 7:=by
 obtain⟨r,hr⟩:=List.exists_mem_of_ne_nil _ hn
 have h1:=hc.1 r hr
 have h2:=ht r hr
 have h0:=r.l0
 have hd:(r.lo/1440).toNat<7:=by omega
 have hx:dayW l (r.lo/1440).toNat≠[]:=by
  intro e
  have:=(canO_spec (inter_exists l hd)).2 r.lo
  rw[show canO (fun v=>has l v&&(decide (1440*(((r.lo/1440).toNat:Nat):Int)<=v)&&decide (v<=1440*(((r.lo/1440).toNat:Nat):Int)+1439)))=dayW l (r.lo/1440).toNat from rfl,e,has_nil,has_iff.2 ⟨r,hr,Int.le_refl _,h1⟩,decide_eq_true (by omega),decide_eq_true (by omega)]at this
  cases this
 have hl:=List.length_pos_iff.2 hx
 have:=le_sum_nat (f:=fun d=>(dayW l d).length) (List.mem_range.2 hd)
 unfold cntW
 omega
noncomputable def fmtN(l:List Rg):Nat:=if l=[]then 1 else 3*cntW l 7-1
open Classical in
noncomputable def fmtL(l:List Rg):Nat:=if Canon l/\∀r,r∈l->r.hi<=10079 then fmtN l else 0
theorem win_iff{l:List Rg}:WinOk l↔(Canon l/\∀r,r∈l->r.hi<=10079)/\fmtN l<=47:=by
 constructor
 ·intro h
  refine⟨⟨h.can,h.top⟩,?_⟩
  have:=h.few
  unfold fmtN;split<;>omega
 ·rintro⟨⟨h1,h2⟩,h3⟩
  refine⟨h1,h2,?_⟩
  unfold fmtN at h3
  by_cases hl:l=[]
  ·subst hl
   have e:∀d,dayW [] d=[]:=fun d=>dayW_eq canon_nil fun v=>by rw[has_nil];rfl
   unfold cntW
   simp only[e,List.length_nil]
   decide
  ·rw[if_neg hl]at h3;omega
theorem eqw_It{k k' pa pb qa qb pr pr' lo hi lo' hi':Int}{n n':ByteArray}{K:Bool->Prop}(hk:K (decide (k=k')&&(sEq n n'&&decide (pa=qa/\pb=qb/\pr=pr'/\lo=lo'/\hi=hi')))):EqV Tryz.prog 56 [.v (.int .i64 k),.v (.string n),.v (.int .u32 pa),.v (.int .i64 pb),.v (.int .i64 pr),.v (.int .u32 lo),.v (.int .u32 hi)]
  [.v (.int .i64 k'),.v (.string n'),.v (.int .u32 qa),.v (.int .i64 qb),.v (.int .i64 pr'),.v (.int .u32 lo'),.v (.int .u32 hi')] K:=by
 refine eqv_of (b:=(k==k'&&(n.toList==n'.toList&&((pa==qa&&(pb==qb&&true))&&(pr==pr'&&((lo==lo'&&(hi==hi'&&true))&&true)))))) rfl rfl (by kernel_rfl) (by kernel_rfl) ?_
 have e:(k==k'&&(n.toList==n'.toList&&((pa==qa&&(pb==qb&&true))&&(pr==pr'&&((lo==lo'&&(hi==hi'&&true))&&true)))))=(decide (k=k')&&(sEq n n'&&decide (pa=qa/\pb=qb/\pr=pr'/\lo=lo'/\hi=hi'))):=by
  unfold sEq
  rw[Bool.eq_iff_iff]
  simp only[Bool.and_eq_true,beq_iff_eq,decide_eq_true_eq,and_true,and_assoc]
 rw[e];exact hk
theorem eqw_Rg{lo hi lo' hi':Int}{K:Bool->Prop}(hk:K (decide (lo=lo'/\hi=hi'))):EqV Tryz.prog 54 [.v (.int .u32 lo),.v (.int .u32 hi)] [.v (.int .u32 lo'),.v (.int .u32 hi')] K:=by
 refine eqv_of (b:=(lo==lo'&&(hi==hi'&&true))) rfl rfl (by kernel_rfl) (by kernel_rfl) ?_
 have e:(lo==lo'&&(hi==hi'&&true))=decide (lo=lo'/\hi=hi'):=by
  rw[Bool.eq_iff_iff]
  simp only[Bool.and_eq_true,beq_iff_eq,decide_eq_true_eq,and_true]
 rw[e];exact hk
theorem sEq_self(s:ByteArray):sEq s s=true:=by unfold sEq;simp
noncomputable def g47:Ctx:={N:=10}
noncomputable def b47:Code:=bdy Tryz.f186
abbrev of47:=@ofC Tryz.prog g47 186 Tryz.f186 b47 Tryz.func186 (by kernel_rfl) (by kernel_rfl) (by kernel_rfl) (by kernel_rfl)
noncomputable def g48:Ctx:={N:=20}
noncomputable def b48:Code:=bdy Tryz.f187
abbrev of48:=@ofC Tryz.prog g48 187 Tryz.f187 b48 Tryz.func187 (by kernel_rfl) (by kernel_rfl) (by kernel_rfl) (by kernel_rfl)
noncomputable def g54:Ctx:={N:=6}
noncomputable def b54:Code:=bdy Tryz.f209
abbrev of54:=@ofC Tryz.prog g54 209 Tryz.f209 b54 Tryz.func209 (by kernel_rfl) (by kernel_rfl) (by kernel_rfl) (by kernel_rfl)
theorem c54(x:Int){K:KT}(hK:K (.sb false) []):ACall Tryz.prog 209 [.v (.int .u32 x)] [] K:=by
 refine of54 rfl rfl ?_
 iterate 4 (all_goals((conv=>whnf);first|refine zG ?_|apply zA|(apply zI;intro h)|exact zT|skip))
 have e:(!decide (x=x))=false:=by simp
 unfold one?
 rw[e]
 exact hK
noncomputable def g39:Ctx:={N:=72,own:=at1 185 (true) (fun _=>false),plan:=at1 13 (some (ln [1,3,5,7,9,11,13,15,17,19,21,23,25,27,29,31])) (at1 14 (some (ln [1,3,5,7,9,11,13,15,17,19,21,23,25,27,28])) (fun _=>none)),hints:=at1 2 ([.virt 3 2,.virt 4 2]) (fun _=>[])}
noncomputable def b39:Code:=bdy Tryz.f142
abbrev of39:=@ofC Tryz.prog g39 142 Tryz.f142 b39 Tryz.func142 (by kernel_rfl) (by kernel_rfl) (by kernel_rfl) (by kernel_rfl)
def Sorts:Prop:=∀(d:List Rg) (n:Nat),n=d.length->d.length<1000000->∀K:AV->List Vm.Obj->Prop,(∀d':List Rg,d'.Perm d->d'.Pairwise (fun r s=>r.lo<=s.lo)->K (.tup []) [.arr 2 (d'.map encR)])->
 ACall Tryz.prog 185 [.os 0 2 0 n,.fn (.func 186) [] []] [.arr 2 (d.map encR)] K
def mergeS(out:List Rg)(r:Rg):List Rg:=
 match out.getLast? with
 |some p=>if r.lo<=p.hi+1 then out.dropLast++[mkR p.lo (max p.hi r.hi)]else out++[r]
 |none=>[r]
theorem mergeS_length(out:List Rg)(r:Rg):(mergeS out r).length<=out.length+1:=by
 unfold mergeS
 split
 ·split<;>simp
 ·simp
theorem mergeS_inv{out:List Rg}{r:Rg}(hc:Canon out)(hlo:∀p,p∈out->p.lo<=r.lo)(hr:r.lo<=r.hi):Canon (mergeS out r)/\(∀v,has (mergeS out r) v=(has out v||has [r] v))/\∀p,p∈mergeS out r->p.lo<=r.lo:=by
 have b1:=r.l0;have b2:=r.l1;have b3:=r.h0;have b4:=r.h1
 unfold mergeS
 rcases List.eq_nil_or_concat out with hnil|⟨ini,p,hcat⟩
 ·subst hnil
  refine⟨?_,fun v=>by simp[has],fun p hp=>by simp at hp;subst hp;exact Int.le_refl _⟩
  have:=canon_append_one canon_nil hr (fun s hs=>by simp at hs)
  simpa using this
 ·rw[List.concat_eq_append]at hcat
  subst hcat
  simp only[List.getLast?_append,List.getLast?_singleton,Option.some_or,List.dropLast_concat]
  have p1:=p.l0;have p2:=p.l1;have p3:=p.h0;have p4:=p.h1
  have hpw:=List.pairwise_append.1 hc.2
  have hp1:=hc.1 p (by simp)
  have hp2:=hlo p (by simp)
  have hx:0<=max p.hi r.hi/\max p.hi r.hi<=4294967295:=by omega
  split
  ·rename_i he
   have ci:Canon ini:=⟨fun t ht=>hc.1 t (by simp[ht]),hpw.1⟩
   refine⟨canon_append_one ci (by rw[mkR_lo p1 p2 hx.1 hx.2,mkR_hi p1 p2 hx.1 hx.2];omega) (fun s hs=>by rw[mkR_lo p1 p2 hx.1 hx.2];exact hpw.2.2 s hs p (by simp)),fun v=>?_,fun q hq=>?_⟩
   ·rw[has_append,has_append,has_one,has_one,has_one,mkR_lo p1 p2 hx.1 hx.2,mkR_hi p1 p2 hx.1 hx.2,Bool.or_assoc]
    congr 1
    rw[Bool.eq_iff_iff]
    simp only[Bool.or_eq_true,Bool.and_eq_true,decide_eq_true_eq]
    omega
   ·rcases List.mem_append.1 hq with hq|hq
    ·exact hlo q (by simp[hq])
    ·simp at hq;subst hq;rw[mkR_lo p1 p2 hx.1 hx.2];exact hp2
  ·rename_i he
   refine⟨canon_append_one hc hr (fun s hs=>?_),fun v=>has_append _ _ v,fun q hq=>?_⟩
   ·rcases List.mem_append.1 hs with hs|hs
    ·have:=hpw.2.2 s hs p (by simp);omega
    ·simp at hs;subst hs;omega
   ·rcases List.mem_append.1 hq with hq|hq
    ·exact hlo q hq
    ·simp at hq;subst hq;exact Int.le_refl _
theorem fold_merge:∀(d out:List Rg),Canon out->(∀p,p∈out->∀r,r∈d->p.lo<=r.lo)->d.Pairwise (fun r s=>r.lo<=s.lo)->(∀r,r∈d->r.lo<=r.hi)->
  Canon (d.foldl mergeS out)/\(∀v,has (d.foldl mergeS out) v=(has out v||has d v))/\(d.foldl mergeS out).length<=out.length+d.length
 |[],out,hc,_,_,_=>⟨hc,fun v=>by simp[has],by simp⟩
 |r::d,out,hc,hlo,hp,hok=>by
  have⟨hp1,hp2⟩:=List.pairwise_cons.1 hp
  obtain⟨h1,h2,h3⟩:=mergeS_inv hc (fun p hpm=>hlo p hpm r (by simp)) (hok r (by simp))
  obtain⟨g1,g2,g3⟩:=fold_merge d (mergeS out r) h1 (fun p hpm s hs=>Int.le_trans (h3 p hpm) (hp1 s hs)) hp2 (fun s hs=>hok s (by simp[hs]))
  refine⟨g1,fun v=>?_,?_⟩
  ·rw[List.foldl_cons,g2,h2,Bool.or_assoc,<-has_append];rfl
  ·have:=mergeS_length out r
   simp only[List.foldl_cons,List.length_cons];omega
def okR(r:Rg):Bool:=decide (r.lo<=r.hi)
theorem c39(hs:Sorts)(l:List Rg)(hl:l.length<100000){K:KT}(hK:∀c,Canon c->(∀v,has c v=has l v)->c.length<=l.length->K (encRs c) []):ACall Tryz.prog 142 [encRs l] [] K:=by
 refine of39 rfl rfl ?_
 (conv=>whnf)
 refine Lp.intro Nat (fun k=>⟨2,[(0,.arr 2 (((l.take k).filter okR).map encR)),(1,.arr 2 [])],[(3,.os 0 2 0 ((l.take k).filter okR).length),(4,.os 1 2 0 0),(10,encRs l),(11,.v (.int .i64 (l.map encR).length)),(12,.v (.int .i64 k))]⟩) (fun k=>k<=l.length) (fun k=>l.length-k) 0 ?_ ?_ ?_
 ·exact Nat.zero_le _
 ·exact⟨[(0,0),(1,1)],rfl,⟨rfl,rfl,rfl,rfl,rfl,trivial⟩,⟨rfl,rfl,trivial⟩⟩
 ·intro k hk
  rcases Nat.lt_or_ge k l.length with hkl|hkl
  ·obtain⟨r,hr⟩:=gex hkl
   have b1:=r.l0;have b2:=r.l1;have b3:=r.h0;have b4:=r.h1
   have e:(l.take (k+1)).filter okR=(l.take k).filter okR++(if r.lo<=r.hi then [r]else []):=by
    rw[List.take_add_one,hr,Option.toList_some,List.filter_append]
    simp only[okR,List.filter_cons,List.filter_nil,decide_eq_true_eq]
   have hlen:((l.take k).filter okR).length<=l.length:=Nat.le_trans (List.length_filter_le _ _) (by rw[List.length_take];omega)
   iterate 30 (all_goals((conv=>whnf);first|(with_reducible first|refine in_map hkl ?_|refine ix_map hr ?_)|refine zG ?_|apply zA|(apply zI;intro h)|exact zT|skip))
   ·refine⟨k+1,by omega,by omega,?_⟩
    rw[e,if_pos (by assumption),List.map_append,List.length_append]
    exact⟨[(0,4),(1,1)],rfl,⟨rfl,rfl,rfl,rfl,rfl,trivial⟩,⟨rfl,rfl,trivial⟩⟩
   ·refine⟨k+1,by omega,by omega,?_⟩
    rw[e,if_neg (by assumption),List.append_nil]
    exact⟨[(0,0),(1,1)],rfl,⟨rfl,rfl,rfl,rfl,rfl,trivial⟩,⟨rfl,rfl,trivial⟩⟩
  ·rw[List.take_of_length_le hkl]
   have hlen:(l.filter okR).length<=l.length:=List.length_filter_le _ _
   iterate 6 (all_goals((conv=>whnf);first|(with_reducible refine in_map hkl ?_)|refine zG ?_|apply zA|(apply zI;intro h)|exact zT|skip))
   refine hs (l.filter okR) _ rfl (by omega) _ fun d hperm hsort=>?_
   have hn:(l.filter okR).length=d.length:=hperm.length_eq.symm
   rw[hn]
   (conv=>whnf)
   refine Lp.intro Nat (fun k=>⟨2,[(0,.arr 2 (d.map encR)),(1,.arr 2 (((d.take k).foldl mergeS []).map encR))],[(4,.os 1 2 0 ((d.take k).foldl mergeS []).length),(28,.os 0 2 0 d.length),(29,.v (.int .i64 d.length)),(30,.v (.int .i64 k))]⟩) (fun k=>k<=d.length/\((d.take k).foldl mergeS []).length<=k) (fun k=>d.length-k) 0 ?_ ?_ ?_
   ·exact⟨Nat.zero_le _,by simp⟩
   ·exact⟨[(0,0),(1,1)],rfl,⟨rfl,rfl,rfl,rfl,trivial⟩,⟨rfl,rfl,trivial⟩⟩
   ·intro k ⟨hk,hle⟩
    rcases Nat.lt_or_ge k d.length with hkl|hkl
    ·obtain⟨r,hr⟩:=gex hkl
     have hr0:d[0+k]? =some r:=by rw[Nat.zero_add];exact hr
     have b1:=r.l0;have b2:=r.l1;have b3:=r.h0;have b4:=r.h1
     have hs2:=foldl_succ (f:=mergeS) (b:=[]) hr
     generalize hout:(d.take k).foldl mergeS []=out at hs2 hle⊢
     have hj:(k:Int)<(d.length:Int):=by omega
     rcases List.eq_nil_or_concat out with hnil|⟨ini,p,hcat⟩
     ·subst hnil
      iterate 30 (all_goals((conv=>whnf);first|(with_reducible first|refine In.intro k rfl (by omega) ?_|refine ix_map hr ?_|refine ix_map hr0 ?_)|refine zG ?_|apply zA|(apply zI;intro h)|exact zT|skip))
      refine⟨k+1,⟨by omega,by rw[hs2];simp[mergeS]⟩,by omega,?_⟩
      rw[hs2,show mergeS [] r=[r]from rfl]
      exact⟨[(0,0),(1,4)],rfl,⟨rfl,rfl,rfl,rfl,trivial⟩,⟨rfl,rfl,trivial⟩⟩
     ·rw[List.concat_eq_append]at hcat
      subst hcat
      have p1:=p.l0;have p2:=p.l1;have p3:=p.h0;have p4:=p.h1
      have hp:(ini++[p])[ini.length]? =some p:=by simp
      have hp0:(ini++[p])[0+ini.length]? =some p:=by simp
      have hi:((((ini++[p]).length:Nat):Int)-1=ini.length)/\ini.length<(ini++[p]).length:=by simp
      iterate 40 (all_goals((conv=>whnf);first|(with_reducible first|refine In.intro k rfl (by omega) ?_|refine ix_map hr ?_|refine ix_map hr0 ?_|refine In.intro ini.length hi.1 hi.2 ?_|refine ix_map hp ?_|refine ix_map hp0 ?_)|refine zG ?_|apply zA|(apply zI;intro h)|exact zT|skip))
      ·have e:mergeS (ini++[p]) r=ini++[mkR p.lo (max p.hi r.hi)]:=by
        simp only[mergeS,List.getLast?_append,List.getLast?_singleton,Option.some_or,List.dropLast_concat]
        rw[if_pos (by assumption)]
       refine⟨k+1,⟨by omega,by rw[hs2];have:=mergeS_length (ini++[p]) r;omega⟩,by omega,?_⟩
       rw[hs2,e,List.map_append,List.map_cons,List.map_nil,enc_mkR (by omega) (by omega) (by omega) (by omega)]
       have e2:(ini.map encR++[.agg [.v (.int .u32 p.lo),.v (.int .u32 (max p.hi r.hi))]])=((ini++[p]).map encR).set (0+ini.length) (.agg [.v (.int .u32 p.lo),.v (.int .u32 (max p.hi r.hi))]):=by
        rw[List.map_append,List.set_append_right _ _ (by simp)]
        simp
       rw[e2,show(ini++[mkR p.lo (max p.hi r.hi)]).length=(ini++[p]).length by simp]
       exact⟨[(0,0),(1,1)],rfl,⟨rfl,rfl,rfl,rfl,trivial⟩,⟨rfl,rfl,trivial⟩⟩
      ·have e:mergeS (ini++[p]) r=ini++[p]++[r]:=by
        simp only[mergeS,List.getLast?_append,List.getLast?_singleton,Option.some_or,List.dropLast_concat]
        rw[if_neg (by assumption)]
       refine⟨k+1,⟨by omega,by rw[hs2];have:=mergeS_length (ini++[p]) r;omega⟩,by omega,?_⟩
       rw[hs2,e,List.map_append (l₁:=ini++[p]),show(ini++[p]++[r]).length=(ini++[p]).length+1 from by simp]
       exact⟨[(0,0),(1,4)],rfl,⟨rfl,rfl,rfl,rfl,trivial⟩,⟨rfl,rfl,trivial⟩⟩
    ·rw[List.take_of_length_le hkl]at hle⊢
     iterate 8 (all_goals((conv=>whnf);first|refine zG ?_|apply zA|(apply zI;intro h)|exact zT|skip))
     have hok:∀r,r∈d->r.lo<=r.hi:=fun r hr=>by
      have:=(List.mem_filter.1 (hperm.subset hr)).2
      simpa[okR]using this
     obtain⟨g1,g2,g3⟩:=fold_merge d [] canon_nil (fun p hp=>by simp at hp) hsort hok
     refine hK _ g1 (fun v=>?_) (by simp only[List.length_nil]at g3;omega)
     rw[g2,has_nil,Bool.false_or,Bool.eq_iff_iff,has_iff,has_iff]
     constructor
     ·rintro⟨r,hr,h1,h2⟩
      exact⟨r,(List.mem_filter.1 (hperm.subset hr)).1,h1,h2⟩
     ·rintro⟨r,hr,h1,h2⟩
      refine⟨r,hperm.symm.subset (List.mem_filter.2 ⟨hr,?_⟩),h1,h2⟩
      simp only[okR,decide_eq_true_eq];omega
noncomputable def g49:Ctx:={N:=27,hints:=at1 6 ([.virt 0 2]) (fun _=>[]),res:=true}
noncomputable def b49:Code:=bdy Tryz.f188
abbrev of49:=@ofC Tryz.prog g49 188 Tryz.f188 b49 Tryz.func188 (by kernel_rfl) (by kernel_rfl) (by kernel_rfl) (by kernel_rfl)
noncomputable def g40:Ctx:={N:=36,own:=at1 188 (true) (fun _=>false)}
noncomputable def b40:Code:=bdy Tryz.f143
abbrev of40:=@ofC Tryz.prog g40 143 Tryz.f143 b40 Tryz.func143 (by kernel_rfl) (by kernel_rfl) (by kernel_rfl) (by kernel_rfl)
def cmpI(x y:Int):Int:=if x<y then-1 else if y<x then 1 else 0
theorem c48(x y:Int){K:KT}(hK:K (.v (.int .i64 (cmpI x y))) []):ACall Tryz.prog 187 [.v (.int .u32 x),.v (.int .u32 y)] [] K:=by
 refine of48 rfl rfl ?_
 iterate 20 (all_goals((conv=>whnf);first|(with_reducible refine c54 _ ?_)|refine zG ?_|apply zA|(apply zI;intro h)|exact zT|skip))
 all_goals
  unfold cmpI at hK
 ·rw[if_pos (by assumption)]at hK;exact hK
 ·rw[if_neg (by assumption),if_pos (by assumption)]at hK;exact hK
 ·rw[if_neg (by assumption),if_neg (by assumption)]at hK;exact hK
theorem c47(r s:Rg){K:KT}(hK:K (.v (.int .i64 (cmpI r.lo s.lo))) []):ACall Tryz.prog 186 [.agg [.v (.int .u32 r.lo),.v (.int .u32 r.hi)],.agg [.v (.int .u32 s.lo),.v (.int .u32 s.hi)]] [] K:=by
 refine of47 rfl rfl ?_
 iterate 6 (all_goals((conv=>whnf);first|(with_reducible refine c48 _ _ ?_)|refine zG ?_|apply zA|(apply zI;intro h)|exact zT|skip))
 exact hK
theorem grow_ob{n m:Nat}{c:AV}(hn:n<2000000)(hm:m<10000)(hc:c.cells.all AV.one=true):((List.replicate n c).length+96)*m<=140737488355328/\∀x,x∈List.replicate n c->x.cells.all AV.one=true:=by
 refine⟨?_,fun x hx=>by rw[List.eq_of_mem_replicate hx];exact hc⟩
 rw[List.length_replicate]
 have h1:(n+96)*m<=2000096*10000:=Nat.mul_le_mul (by omega) (by omega)
 omega
theorem c49(n:Nat)(hn:n<2000000){K:KT}(hK:∀xs,K (.os 0 2 0 0) [.arr 2 xs]):ACall Tryz.prog 188 [.nils,.v (.int .i64 n)] [] K:=by
 refine of49 rfl rfl ?_
 iterate 20 (all_goals((conv=>whnf);first|(with_reducible first|refine Sb.intro 0 0 rfl rfl (by omega) (by omega) ?_|refine In.intro n (by omega) (by omega) ?_|refine Ob.intro (grow_ob hn (by decide) (by with_unfolding_all rfl)) ?_)|refine zG ?_|apply zA|(apply zI;intro h)|exact zT|skip))
 ·exact hK _
 ·exact hK _
theorem c40(L:List (List Rg))(hL:L.length<1000)(hl:∀l,l∈L->l.length<1000){K:KT}(hK:K (encRs L.flatten) []):ACall Tryz.prog 143 [.lst (L.map encRs)] [] K:=by
 have sum_le:∀M:List (List Rg),(∀l,l∈M->l.length<1000)->M.flatten.length<=1000*M.length:=by
  intro M
  induction M with
  |nil=>intro _;simp
  |cons m M ih=>
   intro h
   have h1:=h m (by simp)
   have h2:=ih fun l hl=>h l (by simp[hl])
   simp only[List.flatten_cons,List.length_append,List.length_cons]
   omega
 have next:∀{k:Nat} {l:List Rg},L[k]? =some l->(L.take (k+1)).flatten=(L.take k).flatten++l:=by
  intro k l h
  rw[List.take_add_one,h,Option.toList_some,List.flatten_append]
  simp
 have bound:∀k,k<=L.length->(L.take k).flatten.length<=1000000:=by
  intro k hk
  have:=sum_le (L.take k) fun l h=>hl l (List.mem_of_mem_take h)
  rw[List.length_take]at this
  omega
 refine of40 rfl rfl ?_
 (conv=>whnf)
 refine Lp.intro Nat (fun k=>⟨0,[],[(0,.lst (L.map encRs)),(3,.v (.int .i64 ((L.take k).flatten.length:Int))),(9,.lst (L.map encRs)),(10,.v (.int .i64 (L.map encRs).length)),(11,.v (.int .i64 k))]⟩) (fun k=>k<=L.length) (fun k=>L.length-k) 0 ?_ ?_ ?_
 ·exact Nat.zero_le _
 ·exact⟨[],rfl,⟨rfl,rfl,rfl,rfl,rfl,trivial⟩,trivial⟩
 ·intro k hk
  rcases Nat.lt_or_ge k L.length with hkl|hkl
  ·obtain⟨l,hx⟩:=gex hkl
   have hb:=bound k hk
   have hll:=hl l (List.mem_of_getElem? hx)
   have hn:=next hx
   have hlen:((L.take (k+1)).flatten.length:Int)=((L.take k).flatten.length:Int)+((l.map encR).length:Int):=by rw[hn,List.length_append,List.length_map];omega
   have hml:(l.map encR).length<1000:=by rw[List.length_map];exact hll
   generalize (L.take k).flatten.length=n at hb hlen
   iterate 30 (all_goals((conv=>whnf);first|(with_reducible first|refine in_map hkl ?_|refine ix_map hx ?_)|refine zG ?_|apply zA|(apply zI;intro h)|exact zT|skip))
   refine⟨k+1,by omega,by omega,?_⟩
   rw[hlen]
   exact⟨[],rfl,⟨rfl,rfl,rfl,rfl,rfl,trivial⟩,trivial⟩
  ·have e:L.take k=L:=List.take_of_length_le hkl
   have hb:=bound k hk
   rw[e]at hb⊢
   (conv=>whnf)
   refine br_neg (by rw[List.length_map];omega) ?_
   (conv=>whnf)
   refine c49 L.flatten.length (by omega) fun xs=>?_
   (conv=>whnf)
   refine Lp.intro Nat (fun k=>⟨1,[(0,.arr 2 (if k=0 then xs else(L.take k).flatten.map encR))],[(6,.os 0 2 0 (L.take k).flatten.length),(25,.lst (L.map encRs)),(26,.v (.int .i64 (L.map encRs).length)),(27,.v (.int .i64 k))]⟩) (fun k=>k<=L.length) (fun k=>L.length-k) 0 ?_ ?_ ?_
   ·exact Nat.zero_le _
   ·exact⟨[(0,0)],rfl,⟨rfl,rfl,rfl,rfl,trivial⟩,⟨rfl,trivial⟩⟩
   ·intro k hk
    have tk:((if k=0 then xs else(L.take k).flatten.map encR).drop 0).take (L.take k).flatten.length=(L.take k).flatten.map encR:=by
     by_cases h0:k=0
     ·subst h0;simp
     ·rw[if_neg h0,List.drop_zero]
      exact List.take_of_length_le (by rw[List.length_map];exact Nat.le_refl _)
    have tl:0+(L.take k).flatten.length<=(if k=0 then xs else(L.take k).flatten.map encR).length:=by
     by_cases h0:k=0
     ·subst h0;simp
     ·rw[if_neg h0,List.length_map,Nat.zero_add];exact Nat.le_refl _
    rcases Nat.lt_or_ge k L.length with hkl|hkl
    ·obtain⟨l,hx⟩:=gex hkl
     have hb:=bound k hk
     have hll:=hl l (List.mem_of_getElem? hx)
     have hn:=next hx
     have hlen:(L.take (k+1)).flatten.length=(L.take k).flatten.length+(l.map encR).length:=by rw[hn,List.length_append,List.length_map]
     have hml:(l.map encR).length<1000:=by rw[List.length_map];exact hll
     iterate 30 (all_goals((conv=>whnf);first|(with_reducible first|refine in_map hkl ?_|refine ix_map hx ?_|refine Sl.intro tl tk ?_)|refine zG ?_|apply zA|(apply zI;intro h)|exact zT|skip))
     refine⟨k+1,by omega,by omega,?_⟩
     rw[if_neg (Nat.succ_ne_zero k),hlen,hn,List.map_append]
     exact⟨[(0,1)],rfl,⟨rfl,rfl,rfl,rfl,trivial⟩,⟨rfl,trivial⟩⟩
    ·have hkL:k=L.length:=by omega
     iterate 10 (all_goals((conv=>whnf);first|(with_reducible refine Sl.intro tl tk ?_)|refine zG ?_|apply zA|(apply zI;intro h)|exact zT|skip))
     rw[hkL,List.take_length]
     exact hK
noncomputable def g19:Ctx:={N:=71,plan:=at1 5 (some (ln [1,3,5,7,9,11,13,15,17,19,21,23,25,27,29,31,33,35,37,39,41,43,45,47])) (at1 8 (some (ln [1,3,5,7,9,11,13,15,17,19,21])) (fun _=>none)),hints:=at1 3 ([.virt 5 2]) (fun _=>[])}
noncomputable def b19:Code:=bdy Tryz.f183
abbrev of19:=@ofC Tryz.prog g19 183 Tryz.f183 b19 Tryz.func183 (by kernel_rfl) (by kernel_rfl) (by kernel_rfl) (by kernel_rfl)
end Go.Proofs.YtahhamfngafmcaaGreatDoor
