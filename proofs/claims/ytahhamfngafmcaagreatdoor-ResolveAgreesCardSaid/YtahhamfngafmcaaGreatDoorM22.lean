/- The program's packet sets: Make, set, of, the operations. -/
import Derived.Test.YtahhamfngafmcaaGreatDoorProg
import Derived.Test.YtahhamfngafmcaaGreatDoorM21
set_option linter.unusedVariables false
set_option linter.unusedSimpArgs false
set_option maxRecDepth 100000
set_option maxHeartbeats 4000000
namespace Go.Proofs.YtahhamfngafmcaaGreatDoor
open Go Go.Vm
theorem makeGo_vld:∀(l s:List Bx),makeGo s (vldB l)=makeGo s l
 |[],s=>rfl
 |b::l,s=>by
  by_cases h:b.ok
  ·have e:vldB (b::l)=b::vldB l:=by simp[vldB,h]
   rw[e,makeGo,makeGo,if_pos h,if_pos h]
   split
   ·rfl
   ·exact makeGo_vld l _
  ·have e:vldB (b::l)=vldB l:=by simp[vldB,h]
   rw[e,makeGo,if_neg h]
   exact makeGo_vld l s
theorem cxMake(l:List Bx)(hl:l.length<1000000000){K:KT}(hK:K (.tup [encXs (makeP l).1,.v (.int .i64 (makeP l).2)]) []):ACall Tryz.prog 170 [encXs l] [] K:=by
 have hvl:=vldB_len l
 refine ACall.weak (ofxMake rfl rfl ?_)
 (repeat' ((conv=>whnf);first|(with_reducible refine cxVal l hl ?_)|refine zG ?_|apply zA|(apply zI;intro h)|exact zT));(all_goals conv=>whnf)
 have hv0:∀x,x∈vldB l->x.ok:=fun x hx=>by simpa using(List.mem_filter.1 hx).2
 have hm0:makeP l=makeGo [] (vldB l):=(makeGo_vld l []).symm
 generalize vldB l=v at*
 refine Lp.intro (Nat×List Bx) (fun g=>⟨0,[],[(4,encXs g.2),(10,encXs v),(11,.v (.int .i64 ((v.map encX).length:Nat))),(12,.v (.int .i64 g.1))]⟩) (fun g=>g.1<=v.length/\PSet g.2/\okL g.2/\makeP l=makeGo g.2 (v.drop g.1)) (fun g=>v.length-g.1) (0,[]) ⟨Nat.zero_le _,pset_nil,okL_nil,by rw[List.drop_zero];exact hm0⟩ ?_ ?_
 ·(exact leA)
 rintro⟨i,s⟩ ⟨hi,hs,hos,hm⟩
 simp only at hi hs hos hm⊢
 rcases Nat.lt_or_ge i v.length with hil|hil
 ·obtain⟨x,hx⟩:=gex hil
  have hd:v.drop i=x::v.drop (i+1):=by
   rw[List.getElem?_eq_getElem hil]at hx
   rw[<-Option.some.inj hx,<-List.drop_eq_getElem_cons hil]
  have hxo:=hv0 x (List.mem_of_getElem? hx)
  rw[hd,makeGo,if_pos hxo]at hm
  have hadd:∀{K:KT},K (.tup [encXs (limP (addO s x)),.v (.int .i64 (limE (addO s x)))]) []->ACall Tryz.prog 191 [encXs s,.lst [encX x],.fn (.func 156) [] []] [] K:=fun h=>
   cxComb _ orB opf_either s [x] hos (fun y hy=>by rw[List.mem_singleton.1 hy];exact ok_get hxo) (by have:=hs.len;omega) zx h
  (repeat' ((conv=>whnf);first|(with_reducible first|refine in_map hil ?_|refine ix_map hx ?_|refine hadd ?_)|refine zG ?_|apply zA|(apply zI;intro h)|exact zT));(all_goals conv=>whnf)
  ·have hlen:¬4096<(addO s x).length:=fun hh=>limE_ne.2 hh h
   rw[if_neg hlen]at hm
   refine⟨(i+1,addO s x),⟨hil,cano_pset (by unfold addO at hlen;omega),okL_cano _ _ _,hm⟩,by simp only;omega,?_⟩
   rw[show limP (addO s x)=addO s x from by unfold limP;rw[if_neg hlen]]
   simp only
   rw[Int.natCast_add,Int.natCast_one]
   (exact leA)
  ·have hlen:4096<(addO s x).length:=limE_ne.1 h
   rw[if_pos hlen]at hm
   rw[hm]at hK
   have h3:limE (addO s x)=3:=by unfold limE;rw[if_pos hlen]
   rw[h3]
   exact⟨_,Weak.tup2 Weak.nils Weak.refl,hK⟩
 ·rw[List.drop_of_length_le hil,makeGo]at hm
  rw[hm]at hK
  (repeat' ((conv=>whnf);first|refine zG ?_|apply zA|(apply zI;intro h)|exact zT));(all_goals conv=>whnf)
  exact⟨_,Weak.refl,hK⟩
theorem cxSet(l:List Bx)(hl:l.length<1000000000){K:KT}(hK:K (.tup [encXs (givP l).1,.v (.int .i64 (givP l).2)]) []):ACall Tryz.prog 190 [encXs l] [] K:=by
 refine ACall.weak (ofxSet rfl rfl ?_)
 unfold givP at hK
 (repeat' ((conv=>whnf);first|(with_reducible first|refine cxVald l hl ?_|refine cxMake l hl ?_)|refine zG ?_|apply zA|(apply zI;intro h)|exact zT));(all_goals conv=>whnf)
 all_goals simp_all
 all_goals exact⟨_,Weak.refl,hK⟩
theorem cxOf(fn:FuncId)(op:Bool->Bool->Bool)(hop:Opf fn op)(a b:List Bx)(ha:a.length<1000000000)(hb:b.length<1000000000){K:KT}(hK:K (.tup [encXs (combP op a b).1,.v (.int .i64 (combP op a b).2)]) []):
  ACall Tryz.prog 154 [encXs a,encXs b,.fn (.func fn) [] []] [] K:=by
 refine ACall.weak (ofxOf rfl rfl ?_)
 unfold combP at hK
 have hr:∀{K:KT},K (.tup [encXs (limP (cano op 5 (givP a).1 (givP b).1)),.v (.int .i64 (limE (cano op 5 (givP a).1 (givP b).1)))]) []->ACall Tryz.prog 191 [encXs (givP a).1,encXs (givP b).1,.fn (.func fn) [] []] [] K:=fun h=>cxComb fn op hop _ _ (okL_giv a) (okL_giv b) (by have:=(givP_pset a).len;omega) (by have:=(givP_pset b).len;omega) h
 (repeat' ((conv=>whnf);first|(with_reducible first|refine cxSet a ha ?_|refine cxSet b hb ?_|refine hr ?_)|refine zG ?_|apply zA|(apply zI;intro h)|exact zT));(all_goals conv=>whnf)
 all_goals simp_all
 all_goals first|exact⟨_,Weak.refl,hK⟩|exact⟨_,Weak.tup2 Weak.nils Weak.refl,hK⟩
theorem cxInt(a b:List Bx)(ha:a.length<1000000000)(hb:b.length<1000000000){K:KT}(hK:K (.tup [encXs (combP anB a b).1,.v (.int .i64 (combP anB a b).2)]) []):ACall Tryz.prog 95 [encXs a,encXs b] [] K:=by
 refine ofxInt rfl rfl ?_
 (repeat' ((conv=>whnf);first|(with_reducible refine cxOf _ anB opf_both a b ha hb ?_)|refine zG ?_|apply zA|(apply zI;intro h)|exact zT));(all_goals conv=>whnf)
 exact hK
theorem cxUn(a b:List Bx)(ha:a.length<1000000000)(hb:b.length<1000000000){K:KT}(hK:K (.tup [encXs (combP orB a b).1,.v (.int .i64 (combP orB a b).2)]) []):ACall Tryz.prog 96 [encXs a,encXs b] [] K:=by
 refine ofxUn rfl rfl ?_
 (repeat' ((conv=>whnf);first|(with_reducible refine cxOf _ orB opf_either a b ha hb ?_)|refine zG ?_|apply zA|(apply zI;intro h)|exact zT));(all_goals conv=>whnf)
 exact hK
theorem cxSub(a b:List Bx)(ha:a.length<1000000000)(hb:b.length<1000000000){K:KT}(hK:K (.tup [encXs (combP woB a b).1,.v (.int .i64 (combP woB a b).2)]) []):ACall Tryz.prog 123 [encXs a,encXs b] [] K:=by
 refine ofxSub rfl rfl ?_
 (repeat' ((conv=>whnf);first|(with_reducible refine cxOf _ woB opf_without a b ha hb ?_)|refine zG ?_|apply zA|(apply zI;intro h)|exact zT));(all_goals conv=>whnf)
 exact hK
theorem cxInitC(xs:List AV)(n:Nat)(hn:xs.length=n)(hn2:n<1000)(p0 p1 s0 s1 d0 d1:Int){K:KT}
  (hK:K (.tup []) [.box [.os 2 10 0 (n+1)],.box [],.arr 10 (xs++[.agg [.v (.int .u32 0),.v (.int .u32 4294967295),.v (.int .u32 0),.v (.int .u32 4294967295),.v (.int .u32 p0),.v (.int .u32 p1),.v (.int .u32 s0),.v (.int .u32 s1),.v (.int .u32 d0),.v (.int .u32 d1)]])]):
  ACall Tryz.prog 152 [.v (.int .u32 p0),.v (.int .u32 p1),.v (.int .u32 s0),.v (.int .u32 s1),.v (.int .u32 d0),.v (.int .u32 d1),.op 0 0] [.box [.os 1 10 0 n],.arr 10 xs] K:=by
 refine ofxInitC rfl rfl ?_
 (repeat' ((conv=>whnf);first|(with_reducible refine cxFull ?_)|(refine in_c zd ?_)|(with_reducible refine sl_full hn ?_)|refine zG ?_|apply zA|(apply zI;intro h)|exact zT));(all_goals conv=>whnf)
 exact hK
theorem cxInit{K:KT}(hK:K (encXs initS) []):ACall Tryz.prog 92 [] [] K:=by
 have hTop:∀{K:KT},K (.v (.int .u32 65535)) []->ACall Tryz.prog 153 [.v (.int .i64 4)] [] K:=fun h=>cxTop 4 h
 refine ofxInit rfl rfl ?_
 (repeat' ((conv=>whnf);first|(with_reducible refine hTop ?_)|(refine cxInitC _ _ (by rfl) zd _ _ _ _ _ _ ?_)|refine zG ?_|apply zA|(apply zI;intro h)|exact zT));(all_goals conv=>whnf)
 exact hK
end Go.Proofs.YtahhamfngafmcaaGreatDoor
