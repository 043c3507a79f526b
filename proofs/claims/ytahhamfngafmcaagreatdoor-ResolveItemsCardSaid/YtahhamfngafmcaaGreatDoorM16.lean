/- The reference's policies: boxes of pairs, Valid, Pair. -/
import Derived.Test.YtahhamfngafmcaaGreatDoorM15
set_option linter.unusedVariables false
set_option linter.unusedSimpArgs false
set_option maxRecDepth 100000
set_option maxHeartbeats 4000000
namespace Go.Proofs.YtahhamfngafmcaaGreatDoor
open Go Go.Vm
theorem ix_map_any{α:Type}{f:α->AV}{l:List α}{i:Nat}{K:AV->Prop}(h:i<l.length)(hk:∀r,r∈l->K (f r)):Ix (l.map f) i K:=ix_map (List.getElem?_eq_getElem h) (hk _ (List.getElem_mem h))
noncomputable abbrev encSt(s:ByteArray):AV:=.v (.string s)
theorem ix_baA{s:ByteArray}{j:Nat}{K:UInt8->Prop}(h:j<s.size)(hk:∀b,K b):∃b,s[j]? =some b/\K b:=ix_ba h fun b _=>hk b
def dayL:List ByteArray:=[⟨#[109,111,110]⟩,⟨#[116,117,101]⟩,⟨#[119,101,100]⟩,⟨#[116,104,117]⟩,⟨#[102,114,105]⟩,⟨#[115,97,116]⟩,⟨#[115,117,110]⟩]
theorem cqDays{K:KT}(hK:K (.lst (dayL.map encSt)) []):ACall Tryz.prog 203 [] [] K:=by
 refine ofq9Days rfl rfl ?_
 (repeat' ((conv=>whnf);first|(refine sl_full (by rfl) ?_)|refine zG ?_|apply zA|(apply zI;intro h)|exact zT));(all_goals conv=>whnf)
 exact hK
theorem cqTwo(s:ByteArray){K:KT}(hK:∀r:Int,K (.v (.int .i64 r)) []):ACall Tryz.prog 204 [.v (.string s)] [] K:=by
 refine ofq9Two rfl rfl ?_
 (repeat' ((conv=>whnf);first|(refine In.intro 0 rfl (by omega) ?_)|(refine In.intro 1 rfl (by omega) ?_)|(with_reducible first|refine ix_baA (by omega) fun b=>?_|refine wr_any fun r=>?_)|refine zG ?_|apply zA|(apply zI;intro h)|exact zT));(all_goals conv=>whnf)
 all_goals first
  |exact hK _
  |trace_state
theorem cqClock(s:ByteArray){K:KT}(hK:∀r:Int,-1<=r->r<=1440->K (.v (.int .i64 r)) []):ACall Tryz.prog 174 [.v (.string s)] [] K:=by
 refine ofq9Clock rfl rfl ?_
 (repeat' ((conv=>whnf);first|(refine In.intro 2 rfl (by omega) ?_)|(with_reducible first|refine ix_baA (by omega) fun b=>?_|refine Sb.intro 0 2 rfl rfl (by omega) (by omega) ?_|refine Sb.intro 3 s.size rfl rfl (by omega) (by omega) ?_|refine cqTwo _ fun r=>?_|refine wr_i64 rfl (by omega) (by omega) ?_)|refine zG ?_|apply zA|(apply zI;intro h)|exact zT));(all_goals conv=>whnf)
 all_goals first
  |exact hK _ (by omega) (by omega)
  |trace_state
theorem cqParts(s:ByteArray)(c:Int)(hs:s.size<=1000){K:KT}(hK:∀l:List ByteArray,l≠[]->l.length<=2000->K (.lst (l.map encSt)) []):ACall Tryz.prog 172 [.v (.string s),.v (.int .u8 c)] [] K:=by
 refine ofq1Parts rfl rfl ?_
 (repeat' ((conv=>whnf);first|refine zG ?_|apply zA|(apply zI;intro h)|exact zT));(all_goals conv=>whnf)
 refine Lp.intro (List ByteArray×Nat×Nat) (fun g=>⟨1,[(0,.arr 1 (g.1.map encSt))],[(0,.v (.string s)),(1,.v (.int .u8 c)),(5,.os 0 1 0 g.1.length),(6,.v (.int .i64 g.2.1)),(7,.v (.int .i64 g.2.2))]⟩)
  (fun g=>g.2.2<=s.size+1/\g.2.1<=g.2.2/\g.1.length<=g.2.2/\(g.2.2=s.size+1->g.1≠[])) (fun g=>s.size+1-g.2.2) ([],0,0) ⟨by simp only;omega,Nat.le_refl _,Nat.le_refl _,fun h=>by simp only at h;omega⟩ ?_ ?_
 ·(exact leA)
 rintro⟨l,a,i⟩ ⟨h1,h2,h3,h4⟩
 simp only at h1 h2 h3 h4⊢
 rcases Nat.lt_or_ge i (s.size+1)with hl|hl
 ·(repeat' ((conv=>whnf);first|(with_reducible first|refine in_nat (by omega) ?_|refine ix_baA (by omega) fun b=>?_|refine Sb.intro a i rfl rfl (by omega) (by omega) ?_)|refine zG ?_|apply zA|(apply zI;intro h)|exact zT));(all_goals conv=>whnf)
  all_goals first
   |(refine⟨(l,a,i+1),⟨by simp only;omega,by simp only;omega,by simp only;omega,fun h=>by simp only at h;omega⟩,by simp only;omega,?_⟩
     rw[show(((l,a,i+1):List ByteArray×Nat×Nat).2.2:Int)=(i:Int)+1 from by simp only;omega]
     (exact leA)
     done)
   |(refine⟨(l++[s.extract a i],i+1,i+1),⟨by simp only;omega,by simp only;omega,by simp only[List.length_append,List.length_cons,List.length_nil];omega,fun h=>by simp⟩,by simp only;omega,?_⟩
     simp only[List.map_append,List.length_append,List.map_cons,List.map_nil,List.length_cons,List.length_nil,Int.natCast_add,Int.natCast_one]
     (exact leA)
     done)
   |(exfalso;omega)
   |trace_state
 ·(repeat' ((conv=>whnf);first|(with_reducible refine sl_full (List.length_map ..) ?_)|refine zG ?_|apply zA|(apply zI;intro h)|exact zT));(all_goals conv=>whnf)
  exact hK l (h4 (by omega)) (by omega)
theorem canon_le{l:List Rg}(h:Canon l){r:Rg}(hr:r∈l):r.lo<=r.hi:=h.1 r hr
def winL:List ByteArray:=[⟨#[109,111,110]⟩,⟨#[116,117,101]⟩,⟨#[115,117,110]⟩,⟨#[109,111,110,45,102,114,105]⟩,⟨#[115,97,116,45,115,117,110]⟩,⟨#[119,101,100,45,119,101,100]⟩]
def houL:List ByteArray:=[⟨#[48,48,58,48,48,45,50,52,58,48,48]⟩,⟨#[48,56,58,48,48,45,49,55,58,48,48]⟩,⟨#[48,56,58,48,48,45,48,56,58,48,49]⟩,⟨#[50,51,58,53,57,45,50,52,58,48,48]⟩,⟨#[49,55,58,48,48,45,49,56,58,51,48]⟩]
end Go.Proofs.YtahhamfngafmcaaGreatDoor
