/- Lemmas. -/
import Derived.Test.YtgicddadddhonaaGreatDoorProg
import Derived.Test.YtgicddadddhonaaGreatDoorM35
set_option linter.unusedVariables false
set_option linter.unusedSimpArgs false
set_option maxRecDepth 100000
set_option maxHeartbeats 4000000
noncomputable section
namespace Go.Proofs.YtgicddadddhonaaGreatDoor
open Go Go.Vm
def aBO:Ctx:={N:=25,plan:=p1 5 (lp 11 [22,24,27]) pn,hints:=h1 2 [.virt 3 10] (h1 6 [.freeze 3] hn)}
abbrev Zi:=ofD aBO Tryz.func16
def aGm:Ctx:={N:=118,own:=oz [9,10,11,14,15],plan:=p1 6 (lz [5,7,9,11] (.wch 0 (.wch 1 (ln [12,14,17,19,21,23,25])))) (p1 13 (lz [1,3,5,7,9,11,13,15,17,19,21,27] (.alt 11 (ln [25,28,31,32]) (.alt 14 (ln [23,25,31,32]) Ab))) pn),cut:=oz [11,14]}
abbrev aDp:=ofD aGm Tryz.func3
def Gq(l:List Mv):List Bx:=l.flatMap fun m=>[m.frm,m.to]
theorem Fg(l:List Mv):(Gq l).length<=l.length*2:=lH _ 2 l fun m _=>aO _
theorem aCD(l:List Mv)(hl:l.length<=100000){K:KT}(hK:K (iN (Gq l)) []):AC 16 [lQ l] [] K:=by
 refine hJ (Zi rfl rfl ?_);(repeat' ((conv=>whnf);first|refine zG ?_|apply zA|intro h|exact zT));all_goals conv=>whnf
 refine gV Nat (fun k=>⟨1,[(0,.arr 10 ((Gq (l.take k)).map iV))],[(0,lQ l),(3,.os 0 10 0 (Gq (l.take k)).length),(4,.v (.int .i64 k))]⟩) (fun k=>k<=l.length) (fun k=>l.length-k) 0 (aK _) ?_ ?_
 ·exact leA
 intro k hk;have hel:=Fg (l.take k);rw[aV]at hel;rcases aD k l.length with hkl|hkl
 ·obtain⟨x,hx⟩:=gex hkl;have hst:Gq (l.take (k+1))=Gq (l.take k)++[x.frm,x.to]:=tZ _ hx;generalize Gq (l.take k)=A at*;(repeat' ((conv=>whnf);first|(with_reducible first|refine iI hkl ?_|refine iH hx ?_)|refine zG ?_|apply zA|intro h|exact zT));all_goals conv=>whnf
  refine⟨k+1,hkl,by omega,?_⟩;rw[hst,aQ,aC,aN k,aM];exact leA
 ·rw[aW hkl];(repeat' ((conv=>whnf);first|(with_reducible refine iT zx ?_)|refine zG ?_|apply zA|intro h|exact zT));all_goals conv=>whnf
  exact⟨_,gY,hK⟩
end Go.Proofs.YtgicddadddhonaaGreatDoor
