/- Lemmas. -/
import Derived.Test.YtgicddadddhonaaGreatDoorProg
import Derived.Test.YtgicddadddhonaaGreatDoorM33
set_option linter.unusedVariables false
set_option linter.unusedSimpArgs false
set_option maxRecDepth 100000
set_option maxHeartbeats 4000000
noncomputable section
namespace Go.Proofs.YtgicddadddhonaaGreatDoor
open Go Go.Vm
def aNf:Ctx:={N:=61,plan:=p1 2 (ln [3,0,4,7,9,11,13,15]) (p1 6 (lp 25 [53,50,54,57,59,61]) pn),hints:=h1 2 [.freezeB 1] hn}
abbrev aIf:=ofD aNf Tryz.func12
theorem Tq{p q:Hd}{K:Bool->Prop}(hk:∀b,(b=true↔p=q)->K b):EqV Tryz.prog 26 (E8 p) (E8 q) K:=by
 refine yT (b:=(p.src==q.src&&(p.dst==q.dst&&(p.pro==q.pro&&(p.sp==q.sp&&(p.dp==q.dp&&true)))))) rfl rfl zk zk (hk _ ?_);obtain⟨_,_,_,_,_⟩:=p;obtain⟨_,_,_,_,_⟩:=q;simp
theorem Wd(p:Hd){K:Bool->Prop}(hk:K true):EqV Tryz.prog 26 (E8 p) (E8 p) K:=Tq fun b hb=>by rw[hb.2 rfl];exact hk
/-! the example -/
def aVc:ByteArray:=⟨#[108,97,110]⟩
def Rf:ByteArray:=⟨#[105,110,116,101,114,110,101,116]⟩
def netK:Tp:=⟨[⟨⟨#[114]⟩,0,false,false,⟨#[]⟩⟩],[],[⟨aVc,0,aVc,pf0,false⟩,⟨Rf,0,⟨#[110,101,116]⟩,pf4,false⟩],[],0⟩
def pubK:Pb:=⟨3405803781,6,443,Rf,167772167,8443⟩
def intK:Nt:=⟨[],[],[],[],[pubK],[]⟩
def hdK:Hd:=⟨2886729729,3405803781,6,9,443⟩
def hdL:Hd:=⟨2886729729,167772167,6,9,8443⟩
theorem Vb:TopOk netK:=by
 have sEqr:∀s:ByteArray,sEq s s=true:=fun s=>by rw[nJ];simp
 refine⟨by simp[netK],by simp[netK],by simp[netK],by simp[netK],by simp[netK],by simp[netK],by simp[netK],?_,?_,?_,?_,?_⟩
 ·intro i d hi
  match i,hi with
  |0,hi=>
   simp[netK]at hi;subst hi;exact⟨⟨mN (s:=⟨#[114]⟩) zd,by decide,by decide,.inl (sEqr _)⟩,jN (k:=0) rfl (sEqr _) (fun j y hj=>absurd hj (bD _))⟩
  |i+1,hi=>simp[netK]at hi
 ·intro i l hi;simp[netK]at hi
 ·intro i e hi
  match i,hi with
  |0,hi=>
   simp[netK]at hi;subst hi;exact⟨⟨mN zd,mN zd,by decide,by simp[netK],by decide,by decide,by decide⟩,jN (k:=0) rfl (sEqr _) (fun j y hj=>absurd hj (bD _))⟩
  |1,hi=>
   simp[netK]at hi;subst hi;refine⟨⟨mN zd,mN zd,by decide,by simp[netK],by decide,by decide,by decide⟩,jN (k:=1) rfl (sEqr _) (fun j y hj hy=>?_)⟩;obtain rfl:j=0:=by omega
   simp[netK]at hy;subst hy;rw[nJ];rfl
  |i+2,hi=>simp[netK]at hi
 ·rintro i e hi j o hj ho ⟨_,_,h3⟩
  match i,hi,j,ho with
  |0,hi,j,ho=>omega
  |1,hi,0,ho=>simp[netK]at hi ho;subst hi;subst ho;revert h3;decide
  |1,hi,j+1,ho=>omega
  |i+2,hi,j,ho=>simp[netK]at hi
 ·intro i p hi;simp[netK]at hi
theorem Yl:mE netK=true:=compB_iff.2 ⟨Vb,fun e he=>by
 simp only[netK,aZ,eB,or_false]at he;rcases he with rfl|rfl<;>rfl⟩
theorem Xn:pbB pubK=true:=by
 have:nameB Rf=true:=oX (mN zd);simp only[pbB,pubK,this];decide
theorem aHr:NtOk intK:=by
 refine⟨V7 (by decide+kernel),V7 (by decide+kernel),by decide,by decide,by decide,by decide,fun k x h=>by simp[intK]at h,fun x h=>by simp[intK]at h,fun x hx=>?_,fun x h=>by simp[intK]at h⟩;rw[aU.1 hx];exact Xn
theorem intK_tr:TrB netK intK:=by
 refine⟨by decide,by decide,by decide,⟨by decide,by decide,by decide,by decide,by decide,by decide,fun x h=>by simp[intK]at h,fun x h=>by simp[intK]at h,fun x h=>by simp[intK]at h,by decide,by decide⟩,fun p hp=>?_,fun x h=>by simp[intK]at h⟩;rw[aU.1 hp];exact⟨⟨by decide,by decide⟩,by decide,by decide⟩
theorem ixK:jX netK.edges Rf=1:=jN (k:=1) rfl (sEq_iff.2 rfl) fun j y hj hy=>by
 obtain rfl:j=0:=by omega
 simp[netK]at hy;subst hy;rw[nJ];rfl
theorem atK:mY netK 167772167=0/\mY netK 3405803781= -1:=by decide+kernel
theorem aWn:tJ netK intK=0:=by
 rw[tJ,aH ⟨Yl,Rt aHr⟩,aAG];have e:lP (fun p:Pb=>if jX netK.edges p.edge<0 then(5:Int)else 0) intK.pubs=0:=by
  show lP _ [pubK]=0;rw[lP,show jX netK.edges pubK.edge=1 from ixK];rfl
 simp only[e];rfl
theorem trK:trP netK intK=0:=by
 have h1:rO (sP netK) [] intK.pubs=0:=by
  have e:sP netK [] pubK=0:=by
   unfold sP wL;rw[show mY netK pubK.addr= -1 from atK.2,show mY netK pubK.real=0 from atK.1,show jX netK.edges pubK.edge=1 from ixK];decide
  show rO _ [] [pubK]=0;rw[rO,e];rfl
 rw[trP,aWn,aF zd,h1,aF zd];decide
theorem aVf:pG netK intK 1=0:=by rw[pG,trK];decide
theorem aVA:qB intK ⟨Rf,0,⟨#[110,101,116]⟩,pf4,false⟩=[lI pubK]:=by
 have:sEq pubK.edge Rf=true:=sEq_iff.2 rfl;unfold qB;show(List.filter _ [pubK]).map lI=_;rw[gL (p:=fun p:Pb=>sEq p.edge Rf) this];rfl
theorem arrK:nT [lI pubK] hdK=(hdL,true)/\nT [lI pubK] hdL=(zHd,false):=by
 have h:=Xo trK (p:=pubK) rfl (J9 Xn (intK_tr.pa pubK (by simp[intK]))) (e:=⟨Rf,0,⟨#[110,101,116]⟩,pf4,false⟩) (sEq_iff.2 rfl) (src:=2886729729) (sp:=9) zd zd zd zd;rw[aVA]at h;exact⟨h.1,h.2.1⟩
theorem aWF:wQ netK intK 1=[lI pubK]:=by
 rw[wQ,aH aVf];exact aVA
theorem aOu:hdK.Ok:=⟨by decide,by decide,by decide,by decide,by decide,by decide,by decide,by decide,by decide,by decide⟩
theorem aOv:hdL.Ok:=⟨by decide,by decide,by decide,by decide,by decide,by decide,by decide,by decide,by decide,by decide⟩
theorem aVd{K:KT}(hK:K (jT netK) []):AC 49 [] [] K:=by
 refine hJ (aDq rfl rfl ?_);(repeat' ((conv=>whnf);first|(refine aLV ?_)|(refine aLW ?_)|refine zG ?_|apply zA|intro h|exact zT));all_goals conv=>whnf
 exact⟨jT netK,iA (ys:=[_,.lst [],_,.lst [],_]) ⟨Weak.refl,hZ,gY,hZ,gY,trivial⟩,hK⟩
theorem tB{K:KT}(hK:K (.sb true) []):AC 12 [] [] K:=by
 have h1:∀{K:KT},K (.tup [lQ [lI pubK],.v (.int .i64 0)]) []->AC 13 [jT netK,jC intK,.v (.int .i64 1)] [] K:=fun h=>Ou netK intK intK_tr 1 (by rw[aWF,aVf];exact h);have h2:∀{K:KT},K (.tup [lC hdL,.sb true]) []->AC 17 [lQ [lI pubK],lC hdK] [] K:=fun h=>Jw [lI pubK] hdK aOu zd (by rw[arrK.1];exact h);have h3:∀{K:KT},K (.tup [lC zHd,.sb false]) []->AC 17 [lQ [lI pubK],lC hdL] [] K:=fun h=>Jw [lI pubK] hdL aOv zd (by rw[arrK.2];exact h);have h4:∀{K:KT},K (.v (.int .i64 0)) []->AC 18 [jT netK,jC intK] [] K:=fun h=>Rm netK intK intK_tr (by rw[trK];exact h);refine gZ (aIf rfl rfl ?_);(repeat' ((conv=>whnf);first|(with_reducible refine aVd ?_)|(refine h1 ?_)|(refine h2 ?_)|(refine h3 ?_)|(refine h4 ?_)|refine zG ?_|apply zA|intro h|exact zT));all_goals conv=>whnf
 all_goals first
  |exact kB hK rfl
  |exact kE hK rfl
  |exact absurd rfl h
end Go.Proofs.YtgicddadddhonaaGreatDoor
