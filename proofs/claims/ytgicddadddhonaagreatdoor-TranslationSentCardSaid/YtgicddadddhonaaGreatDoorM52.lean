/- Lemmas. -/
import Derived.Test.YtgicddadddhonaaGreatDoorProg
import Derived.Test.YtgicddadddhonaaGreatDoorM50
import Derived.Test.YtgicddadddhonaaGreatDoorM51
import Derived.Test.YtgicddadddhonaaGreatDoorM44
set_option linter.unusedVariables false
set_option linter.unusedSimpArgs false
set_option maxRecDepth 100000
set_option maxHeartbeats 4000000
noncomputable section
namespace Go.Proofs.YtgicddadddhonaaGreatDoor
open Go Go.Vm
def aGp:Ctx:={N:=84,own:=oz [9,26,27,15],plan:=p1 6 (lz [3,5,11,13,19,21] (.wch 0 (ln [6,8,14,16,22,24,27]))) pn,hints:=h1 7 [.freeze 10] hn}
abbrev aDs:=ofD aGp Tryz.func6
theorem aLn(raw:List Int)(g0:Hd)(og:g0.Ok)(hr:raw.length<=9223372036854775807):AC 6 [.lst (raw.map encI),lC g0] [] Yes:=by
 have hmv:∀{pos:Nat} {K:KT},pos<=raw.length->(∀(l:List Mv) (pos':Nat),l.length<=3->pos'<=raw.length->K (lQ l) [iO raw pos'])->AC 26 [.op 0 0,.v (.int .i64 3),.v (.bool true)] [iO raw pos] K:=fun hp h=>aFG raw _ 3 zd hp hr h;have hbw:∀{pos:Nat} {K:KT},pos<=raw.length->(∀(l:List Bx) (pos':Nat),l.length<=3->pos'<=raw.length->K (iN l) [iO raw pos'])->AC 27 [.op 0 0,.v (.int .i64 3),.v (.bool true)] [iO raw pos] K:=fun hp h=>aBo raw _ 3 zd hp hr h;refine aDs rfl rfl ?_;(repeat' ((conv=>whnf);first|(with_reducible first|refine c9 raw ?_|refine hmv (aK _) fun l p1 hl hp1=>?_|refine hbw zw fun s p2 hs hp2=>?_)|refine zG ?_|apply zA|intro h|exact zT));all_goals conv=>whnf
 cases hso:G7 l s with
 |none=>
  have hse:∀{K:KT},K (.tup [.lst [],.v (.int .i64 3)]) []->AC 28 [lQ l,iN s] [] K:=fun h=>aCH l zo s zo (by rw[hso];exact h);(repeat' ((conv=>whnf);first|(refine hse ?_)|(with_reducible refine tB ?_)|refine zG ?_|apply zA|intro h|exact zT));all_goals conv=>whnf
  all_goals first
   |exact .inl rfl
   |exact .inr rfl
 |some c=>
  have hse:∀{K:KT},K (.tup [iN c,.v (.int .i64 0)]) []->AC 28 [lQ l,iN s] [] K:=fun h=>aCH l zo s zo (by rw[hso];exact h);have hlaw:=fun(x:Hd) (ox:x.Ok)=>aEI hso ox;have hset:jW c=true:=by
   unfold G7 at hso;obtain⟨y,h1,h2⟩:=cI.1 hso;exact(vA (R1 h1).1 h2).1
  have hcl:=(kU hset).len;(repeat' ((conv=>whnf);first|(refine hse ?_)|(with_reducible first|refine aCD l zo ?_|refine N9 raw _ (Gq l) (bC (Fg l) zo) zw hr fun a p3 oa hp3=>?_|refine N9 raw _ s zo zw hr fun a p3 oa hp3=>?_)|(refine iE (aO _) rfl ?_)|refine zG ?_|apply zA|intro h|exact zT));all_goals conv=>whnf
  all_goals
   rename_i u pu ou hpu v pv ov hpv;refine gV (Nat×List Hd) (fun g=>⟨0,[],[(6,lQ l),(7,iN s),(8,iN c),(10,.lst (g.2.map lC)),(11,.v (.int .i64 g.1))]⟩) (fun g=>g.1<=4/\g.2.length=4/\∀x,x∈g.2->x.Ok) (fun g=>4-g.1) (0,[g0,u,v,a]) ⟨aK _,rfl,fun x hx=>by
    simp only[aZ,eB,or_false]at hx;rcases hx with rfl|rfl|rfl|rfl<;>with_reducible assumption⟩ ?_ ?_
   ·exact leA
   rintro⟨k,H⟩ ⟨hk,hH,hok⟩
   simp only at hk hH hok⊢;have hHm:(H.map lC).length=4:=by rw[aA,hH]
   rcases aD k 4 with hk4|hk4
   ·obtain⟨x,hx⟩:∃x,H[k]? =some x:=⟨_,aE zo⟩
    have ox:=hok x (aG hx);have hl1:=hlaw x ox;have og:=aFc l ox;have hz:(nT l x).2=false->(nT l x).1=zHd:=by
     unfold nT;split
     ·exact fun _=>rfl
     ·exact fun h=>by cases h
    have z1:=fun {K}=>@Jw l x ox zo K;have z2:=fun {K}=>@aBy c x ox zo K;generalize nT l x=A at*;obtain⟨y,ok⟩:=A;simp only at hl1 og hz z1;have z3:=fun {K}=>@aBy s y og zo K;generalize (c.any fun b=>oG b x)=b1 at*;generalize (s.any fun b=>oG b y)=b2 at*;subst hl1;cases ok with
    |true=>
     simp only[dQ]at z2;cases b2
     all_goals
      (repeat' ((conv=>whnf);first|(refine iB k rfl zo ?_)|(with_reducible refine iH hx ?_)|(refine z1 ?_)|(refine z2 ?_)|(refine z3 ?_)|refine zG ?_|apply zA|intro h|exact zT));all_goals conv=>whnf
      all_goals first
       |(refine⟨(k+1,H),⟨by omega,hH,hok⟩,by simp only;omega,?_⟩
         simp only;rw[aN k,aM];exact leA)
       |(exfalso;simp_all;done)
    |false=>
     simp only[fI]at z2;obtain rfl:=hz rfl;(repeat' ((conv=>whnf);first|(refine iB k rfl zo ?_)|(with_reducible refine iH hx ?_)|(refine z1 ?_)|(refine z2 ?_)|(refine z3 ?_)|(refine Wd zHd ?_)|refine zG ?_|apply zA|intro h|exact zT));all_goals conv=>whnf
     all_goals first
      |(refine⟨(k+1,H),⟨by omega,hH,hok⟩,by simp only;omega,?_⟩
        simp only;rw[aN k,aM];exact leA)
      |(exfalso;simp_all;done)
   ·(repeat' ((conv=>whnf);first|(with_reducible refine tB ?_)|refine zG ?_|apply zA|intro h|exact zT));all_goals conv=>whnf
    all_goals first
     |exact .inl rfl
     |exact .inr rfl
     |(exfalso;omega)
end Go.Proofs.YtgicddadddhonaaGreatDoor
