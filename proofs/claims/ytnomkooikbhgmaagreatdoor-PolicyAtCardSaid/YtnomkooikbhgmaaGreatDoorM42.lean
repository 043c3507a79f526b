/- Lemmas. -/
import Derived.Test.YtnomkooikbhgmaaGreatDoorM41
set_option linter.unusedVariables false
set_option linter.unusedSimpArgs false
set_option maxRecDepth 100000
set_option maxHeartbeats 40000000
namespace Go.Proofs.YtnomkooikbhgmaaGreatDoor
open Go Go.Vm
theorem eySp0(raw:List Int)(pos:Nat)(hp:pos<=raw.length)(hr:raw.length<=9223372036854775807)(i:Nt)(g s w x:Nat)(h:Spo g s w x i)(hg:g<=4)(hs:s<=4)(hw:w<=2)(hx:x<=900)
  (p1:Nat)(hp1:p1<=raw.length)(hn:∀{K:KT},K (.v (.int .i64 (0:Nat))) [tapeO raw p1]->AC 11 [.op 0 0,.v (.int .i64 14)] [tapeO raw pos] K){K:KT}
  (hK:∀(j:Nt) (pos':Nat),Spo (g+1) (s+1) (w+1) (x+1) j->pos'<=raw.length->K (encNt j) [tapeO raw pos']):
  AC 10 [.op 0 0,encNt i] [tapeO raw pos] K:=by
 obtain⟨g1,b1,b2,b3,b4,b5,b6,gi,si,wi⟩:=h;have hE:=@spo_mk (g+1) (s+1) (w+1) (x+1) raw K hK;obtain⟨gs,ss,ws,ts,ps,hs'⟩:=i;simp only at g1 b1 b2 b3 b4 b5 b6 gi si wi;have qG:=all_of (enc:=encDf) gi;have qS:=all_of (enc:=encDf) si;have qW:=all_of (enc:=encWn) wi;have qT:=all_of (enc:=encSm) (p:=fun _=>True) (l:=ts) fun _ _=>trivial;have qP:=all_of (enc:=encPb) (p:=fun _=>True) (l:=ps) fun _ _=>trivial;have qH:=all_of (enc:=encHn) (p:=fun _=>True) (l:=hs') fun _ _=>trivial;obtain⟨ga,gr,rfl⟩:∃a r,gs=a::r:=by
  cases gs with
  |nil=>simp at g1
  |cons a r=>exact⟨a,r,rfl⟩
 have hgl:(ga::gr).length=gr.length+1:=rfl;have hcp:=fun {K} h=>@eyCpV ⟨ga::gr,ss,ws,ts,ps,hs'⟩ zs zs zs (fun d hd=>aZ (gi d hd) zd) (fun d hd=>aZ (si d hd) zd) wi zs zs zs K h;simp only[aR,aB]at hcp;refine gP (ofnSpV rfl rfl ?_)
 all_goals(repeat' ((conv=>whnf);first|(refine Ob.intro zk ?_)|(with_reducible first|refine hcp ?_|refine hn ?_|refine nNext raw _ _ zx zw hr fun m1 q1 hm1 hq1=>?_)|(refine ix_strA (by rfl) (by simp only[aB,aH];omega) fun c=>?_)|(refine ix_i64A (by rfl) (by simp only[aB,aH];omega) fun c=>?_)|(with_reducible first|refine hZ (by(try simp only[aA,aB,aH]);omega) ?_|refine c10 raw _ 3 10080 true zd zd zd zd zw hr fun l q2 hl hb hq2=>?_|refine eyName raw _ zw hr fun c q3 hq3=>?_|refine cnAddr raw _ zw hr fun a q4 a0 a1 hq4=>?_|refine enNum raw _ 65535 zd zd zw hr fun a q5 a0 a1 hq5=>?_|refine wr_u32_any fun r r0 r1=>?_|refine wr_i64_any fun r=>?_|refine gT 0 rfl (by(try simp only[aA,aB]at*);omega) ?_|refine ix_any zo fun r hx=>?_|refine gY 1 ts.length rfl rfl zo zo ?_)|(refine gU rfl ?_)|(refine sl_full zx ?_)|(with_reducible refine sl_map zo ?_)|refine zG ?_|apply zA|intro h|exact zT));all_goals conv=>whnf
 all_goals first
  |(refine⟨_,gM,hE _ _ _ _ _ _ _ ?_ ?_ ?_ ?_ ?_ ?_ ?_ zw⟩<;>(repeat' first|exact qG|exact qS|exact qW|exact qT|exact qP|exact qH|refine all_app ?_ ?_|refine all_set ?_ ?_|refine all_drop ?_|refine all_take ?_|exact all_of fun _ _=>trivial)<;>
    first
    |exact oDf _ _ _
    |exact oDs _ _ _ _ zp zp zp zp
    |exact oWn _ _ zo
    |exact oSm _ _ _ _ _ _ _ _ _ _
    |exact oPb _ _ _ _ _ _
    |exact oHn _ _ _ _ _ zp zp zd zd
    |exact⟨r,rfl,trivial⟩
    |(simp only[aC,aA,aB,aH,cT,cH,bA]at*;omega))
  |(refine⟨.agg [.lst (.agg [.v (.string ga.name),.lst []]::gr.map encDf),.lst (ss.map encDf),.lst (ws.map encWn),.lst (ts.map encSm),.lst (ps.map encPb),.lst (hs'.map encHn)],gS ⟨weak_nil0,gM,gM,gM,gM,gM,trivial⟩,hE _ _ _ _ _ _ _ (all_consQ ⟨⟨_,[]⟩,rfl,by simp⟩ fun y hy=>qG y (aS _ hy)) qS qW qT qP qH ?_ zw⟩
    simp only[aA,aB]at*;omega)
theorem eySp3(raw:List Int)(pos:Nat)(hp:pos<=raw.length)(hr:raw.length<=9223372036854775807)(i:Nt)(g s w x:Nat)(h:Spo g s w x i)(hg:g<=4)(hs:s<=4)(hw:w<=2)(hx:x<=900)
  (p1:Nat)(hp1:p1<=raw.length)(hn:∀{K:KT},K (.v (.int .i64 (3:Nat))) [tapeO raw p1]->AC 11 [.op 0 0,.v (.int .i64 14)] [tapeO raw pos] K){K:KT}
  (hK:∀(j:Nt) (pos':Nat),Spo (g+1) (s+1) (w+1) (x+1) j->pos'<=raw.length->K (encNt j) [tapeO raw pos']):
  AC 10 [.op 0 0,encNt i] [tapeO raw pos] K:=by
 obtain⟨g1,b1,b2,b3,b4,b5,b6,gi,si,wi⟩:=h;have hE:=@spo_mk (g+1) (s+1) (w+1) (x+1) raw K hK;obtain⟨gs,ss,ws,ts,ps,hs'⟩:=i;simp only at g1 b1 b2 b3 b4 b5 b6 gi si wi;have qG:=all_of (enc:=encDf) gi;have qS:=all_of (enc:=encDf) si;have qW:=all_of (enc:=encWn) wi;have qT:=all_of (enc:=encSm) (p:=fun _=>True) (l:=ts) fun _ _=>trivial;have qP:=all_of (enc:=encPb) (p:=fun _=>True) (l:=ps) fun _ _=>trivial;have qH:=all_of (enc:=encHn) (p:=fun _=>True) (l:=hs') fun _ _=>trivial;obtain⟨ga,gr,rfl⟩:∃a r,gs=a::r:=by
  cases gs with
  |nil=>simp at g1
  |cons a r=>exact⟨a,r,rfl⟩
 have hgl:(ga::gr).length=gr.length+1:=rfl;have hcp:=fun {K} h=>@eyCpV ⟨ga::gr,ss,ws,ts,ps,hs'⟩ zs zs zs (fun d hd=>aZ (gi d hd) zd) (fun d hd=>aZ (si d hd) zd) wi zs zs zs K h;simp only[aR,aB]at hcp;refine gP (ofnSpV rfl rfl ?_)
 all_goals(repeat' ((conv=>whnf);first|(refine Ob.intro zk ?_)|(with_reducible first|refine hcp ?_|refine hn ?_|refine nNext raw _ _ zx zw hr fun m1 q1 hm1 hq1=>?_)|(refine ix_strA (by rfl) (by simp only[aB,aH];omega) fun c=>?_)|(refine ix_i64A (by rfl) (by simp only[aB,aH];omega) fun c=>?_)|(with_reducible first|refine hZ (by(try simp only[aA,aB,aH]);omega) ?_|refine c10 raw _ 3 10080 true zd zd zd zd zw hr fun l q2 hl hb hq2=>?_|refine eyName raw _ zw hr fun c q3 hq3=>?_|refine cnAddr raw _ zw hr fun a q4 a0 a1 hq4=>?_|refine enNum raw _ 65535 zd zd zw hr fun a q5 a0 a1 hq5=>?_|refine wr_u32_any fun r r0 r1=>?_|refine wr_i64_any fun r=>?_|refine gT 0 rfl (by(try simp only[aA,aB]at*);omega) ?_|refine ix_any zo fun r hx=>?_|refine gY 1 ts.length rfl rfl zo zo ?_)|(refine gU rfl ?_)|(refine sl_full zx ?_)|(with_reducible refine sl_map zo ?_)|refine zG ?_|apply zA|intro h|exact zT));all_goals conv=>whnf
 all_goals first
  |(refine⟨_,gM,hE _ _ _ _ _ _ _ ?_ ?_ ?_ ?_ ?_ ?_ ?_ zw⟩<;>(repeat' first|exact qG|exact qS|exact qW|exact qT|exact qP|exact qH|refine all_app ?_ ?_|refine all_set ?_ ?_|refine all_drop ?_|refine all_take ?_|exact all_of fun _ _=>trivial)<;>
    first
    |exact oDf _ _ _
    |exact oDs _ _ _ _ zp zp zp zp
    |exact oWn _ _ zo
    |exact oSm _ _ _ _ _ _ _ _ _ _
    |exact oPb _ _ _ _ _ _
    |exact oHn _ _ _ _ _ zp zp zd zd
    |exact⟨r,rfl,trivial⟩
    |(simp only[aC,aA,aB,aH,cT,cH,bA]at*;omega))
  |(refine⟨.agg [.lst (.agg [.v (.string ga.name),.lst []]::gr.map encDf),.lst (ss.map encDf),.lst (ws.map encWn),.lst (ts.map encSm),.lst (ps.map encPb),.lst (hs'.map encHn)],gS ⟨weak_nil0,gM,gM,gM,gM,gM,trivial⟩,hE _ _ _ _ _ _ _ (all_consQ ⟨⟨_,[]⟩,rfl,by simp⟩ fun y hy=>qG y (aS _ hy)) qS qW qT qP qH ?_ zw⟩
    simp only[aA,aB]at*;omega)
theorem eySp4(raw:List Int)(pos:Nat)(hp:pos<=raw.length)(hr:raw.length<=9223372036854775807)(i:Nt)(g s w x:Nat)(h:Spo g s w x i)(hg:g<=4)(hs:s<=4)(hw:w<=2)(hx:x<=900)
  (p1:Nat)(hp1:p1<=raw.length)(hn:∀{K:KT},K (.v (.int .i64 (4:Nat))) [tapeO raw p1]->AC 11 [.op 0 0,.v (.int .i64 14)] [tapeO raw pos] K){K:KT}
  (hK:∀(j:Nt) (pos':Nat),Spo (g+1) (s+1) (w+1) (x+1) j->pos'<=raw.length->K (encNt j) [tapeO raw pos']):
  AC 10 [.op 0 0,encNt i] [tapeO raw pos] K:=by
 obtain⟨g1,b1,b2,b3,b4,b5,b6,gi,si,wi⟩:=h;have hE:=@spo_mk (g+1) (s+1) (w+1) (x+1) raw K hK;obtain⟨gs,ss,ws,ts,ps,hs'⟩:=i;simp only at g1 b1 b2 b3 b4 b5 b6 gi si wi;have qG:=all_of (enc:=encDf) gi;have qS:=all_of (enc:=encDf) si;have qW:=all_of (enc:=encWn) wi;have qT:=all_of (enc:=encSm) (p:=fun _=>True) (l:=ts) fun _ _=>trivial;have qP:=all_of (enc:=encPb) (p:=fun _=>True) (l:=ps) fun _ _=>trivial;have qH:=all_of (enc:=encHn) (p:=fun _=>True) (l:=hs') fun _ _=>trivial;obtain⟨ga,gr,rfl⟩:∃a r,gs=a::r:=by
  cases gs with
  |nil=>simp at g1
  |cons a r=>exact⟨a,r,rfl⟩
 have hgl:(ga::gr).length=gr.length+1:=rfl;have hcp:=fun {K} h=>@eyCpV ⟨ga::gr,ss,ws,ts,ps,hs'⟩ zs zs zs (fun d hd=>aZ (gi d hd) zd) (fun d hd=>aZ (si d hd) zd) wi zs zs zs K h;simp only[aR,aB]at hcp;refine gP (ofnSpV rfl rfl ?_)
 all_goals(repeat' ((conv=>whnf);first|(refine Ob.intro zk ?_)|(with_reducible first|refine hcp ?_|refine hn ?_|refine nNext raw _ _ zx zw hr fun m1 q1 hm1 hq1=>?_)|(refine ix_strA (by rfl) (by simp only[aB,aH];omega) fun c=>?_)|(refine ix_i64A (by rfl) (by simp only[aB,aH];omega) fun c=>?_)|(with_reducible first|refine hZ (by(try simp only[aA,aB,aH]);omega) ?_|refine c10 raw _ 3 10080 true zd zd zd zd zw hr fun l q2 hl hb hq2=>?_|refine eyName raw _ zw hr fun c q3 hq3=>?_|refine cnAddr raw _ zw hr fun a q4 a0 a1 hq4=>?_|refine enNum raw _ 65535 zd zd zw hr fun a q5 a0 a1 hq5=>?_|refine wr_u32_any fun r r0 r1=>?_|refine wr_i64_any fun r=>?_|refine gT 0 rfl (by(try simp only[aA,aB]at*);omega) ?_|refine ix_any zo fun r hx=>?_|refine gY 1 ts.length rfl rfl zo zo ?_)|(refine gU rfl ?_)|(refine sl_full zx ?_)|(with_reducible refine sl_map zo ?_)|refine zG ?_|apply zA|intro h|exact zT));all_goals conv=>whnf
 all_goals first
  |(refine⟨_,gM,hE _ _ _ _ _ _ _ ?_ ?_ ?_ ?_ ?_ ?_ ?_ zw⟩<;>(repeat' first|exact qG|exact qS|exact qW|exact qT|exact qP|exact qH|refine all_app ?_ ?_|refine all_set ?_ ?_|refine all_drop ?_|refine all_take ?_|exact all_of fun _ _=>trivial)<;>
    first
    |exact oDf _ _ _
    |exact oDs _ _ _ _ zp zp zp zp
    |exact oWn _ _ zo
    |exact oSm _ _ _ _ _ _ _ _ _ _
    |exact oPb _ _ _ _ _ _
    |exact oHn _ _ _ _ _ zp zp zd zd
    |exact⟨r,rfl,trivial⟩
    |(simp only[aC,aA,aB,aH,cT,cH,bA]at*;omega))
  |(refine⟨.agg [.lst (.agg [.v (.string ga.name),.lst []]::gr.map encDf),.lst (ss.map encDf),.lst (ws.map encWn),.lst (ts.map encSm),.lst (ps.map encPb),.lst (hs'.map encHn)],gS ⟨weak_nil0,gM,gM,gM,gM,gM,trivial⟩,hE _ _ _ _ _ _ _ (all_consQ ⟨⟨_,[]⟩,rfl,by simp⟩ fun y hy=>qG y (aS _ hy)) qS qW qT qP qH ?_ zw⟩
    simp only[aA,aB]at*;omega)
theorem eySp6(raw:List Int)(pos:Nat)(hp:pos<=raw.length)(hr:raw.length<=9223372036854775807)(i:Nt)(g s w x:Nat)(h:Spo g s w x i)(hg:g<=4)(hs:s<=4)(hw:w<=2)(hx:x<=900)
  (p1:Nat)(hp1:p1<=raw.length)(hn:∀{K:KT},K (.v (.int .i64 (6:Nat))) [tapeO raw p1]->AC 11 [.op 0 0,.v (.int .i64 14)] [tapeO raw pos] K){K:KT}
  (hK:∀(j:Nt) (pos':Nat),Spo (g+1) (s+1) (w+1) (x+1) j->pos'<=raw.length->K (encNt j) [tapeO raw pos']):
  AC 10 [.op 0 0,encNt i] [tapeO raw pos] K:=by
 obtain⟨g1,b1,b2,b3,b4,b5,b6,gi,si,wi⟩:=h;have hE:=@spo_mk (g+1) (s+1) (w+1) (x+1) raw K hK;obtain⟨gs,ss,ws,ts,ps,hs'⟩:=i;simp only at g1 b1 b2 b3 b4 b5 b6 gi si wi;have qG:=all_of (enc:=encDf) gi;have qS:=all_of (enc:=encDf) si;have qW:=all_of (enc:=encWn) wi;have qT:=all_of (enc:=encSm) (p:=fun _=>True) (l:=ts) fun _ _=>trivial;have qP:=all_of (enc:=encPb) (p:=fun _=>True) (l:=ps) fun _ _=>trivial;have qH:=all_of (enc:=encHn) (p:=fun _=>True) (l:=hs') fun _ _=>trivial;obtain⟨ga,gr,rfl⟩:∃a r,gs=a::r:=by
  cases gs with
  |nil=>simp at g1
  |cons a r=>exact⟨a,r,rfl⟩
 have hgl:(ga::gr).length=gr.length+1:=rfl;have hcp:=fun {K} h=>@eyCpV ⟨ga::gr,ss,ws,ts,ps,hs'⟩ zs zs zs (fun d hd=>aZ (gi d hd) zd) (fun d hd=>aZ (si d hd) zd) wi zs zs zs K h;simp only[aR,aB]at hcp;refine gP (ofnSpV rfl rfl ?_)
 all_goals(repeat' ((conv=>whnf);first|(refine Ob.intro zk ?_)|(with_reducible first|refine hcp ?_|refine hn ?_|refine nNext raw _ _ zx zw hr fun m1 q1 hm1 hq1=>?_)|(refine ix_strA (by rfl) (by simp only[aB,aH];omega) fun c=>?_)|(refine ix_i64A (by rfl) (by simp only[aB,aH];omega) fun c=>?_)|(with_reducible first|refine hZ (by(try simp only[aA,aB,aH]);omega) ?_|refine c10 raw _ 3 10080 true zd zd zd zd zw hr fun l q2 hl hb hq2=>?_|refine eyName raw _ zw hr fun c q3 hq3=>?_|refine cnAddr raw _ zw hr fun a q4 a0 a1 hq4=>?_|refine enNum raw _ 65535 zd zd zw hr fun a q5 a0 a1 hq5=>?_|refine wr_u32_any fun r r0 r1=>?_|refine wr_i64_any fun r=>?_|refine gT 0 rfl (by(try simp only[aA,aB]at*);omega) ?_|refine ix_any zo fun r hx=>?_|refine gY 1 ts.length rfl rfl zo zo ?_)|(refine gU rfl ?_)|(refine sl_full zx ?_)|(with_reducible refine sl_map zo ?_)|refine zG ?_|apply zA|intro h|exact zT));all_goals conv=>whnf
 all_goals first
  |(refine⟨_,gM,hE _ _ _ _ _ _ _ ?_ ?_ ?_ ?_ ?_ ?_ ?_ zw⟩<;>(repeat' first|exact qG|exact qS|exact qW|exact qT|exact qP|exact qH|refine all_app ?_ ?_|refine all_set ?_ ?_|refine all_drop ?_|refine all_take ?_|exact all_of fun _ _=>trivial)<;>
    first
    |exact oDf _ _ _
    |exact oDs _ _ _ _ zp zp zp zp
    |exact oWn _ _ zo
    |exact oSm _ _ _ _ _ _ _ _ _ _
    |exact oPb _ _ _ _ _ _
    |exact oHn _ _ _ _ _ zp zp zd zd
    |exact⟨r,rfl,trivial⟩
    |(simp only[aC,aA,aB,aH,cT,cH,bA]at*;omega))
  |(refine⟨.agg [.lst (.agg [.v (.string ga.name),.lst []]::gr.map encDf),.lst (ss.map encDf),.lst (ws.map encWn),.lst (ts.map encSm),.lst (ps.map encPb),.lst (hs'.map encHn)],gS ⟨weak_nil0,gM,gM,gM,gM,gM,trivial⟩,hE _ _ _ _ _ _ _ (all_consQ ⟨⟨_,[]⟩,rfl,by simp⟩ fun y hy=>qG y (aS _ hy)) qS qW qT qP qH ?_ zw⟩
    simp only[aA,aB]at*;omega)
theorem eySp7(raw:List Int)(pos:Nat)(hp:pos<=raw.length)(hr:raw.length<=9223372036854775807)(i:Nt)(g s w x:Nat)(h:Spo g s w x i)(hg:g<=4)(hs:s<=4)(hw:w<=2)(hx:x<=900)
  (p1:Nat)(hp1:p1<=raw.length)(hn:∀{K:KT},K (.v (.int .i64 (7:Nat))) [tapeO raw p1]->AC 11 [.op 0 0,.v (.int .i64 14)] [tapeO raw pos] K){K:KT}
  (hK:∀(j:Nt) (pos':Nat),Spo (g+1) (s+1) (w+1) (x+1) j->pos'<=raw.length->K (encNt j) [tapeO raw pos']):
  AC 10 [.op 0 0,encNt i] [tapeO raw pos] K:=by
 obtain⟨g1,b1,b2,b3,b4,b5,b6,gi,si,wi⟩:=h;have hE:=@spo_mk (g+1) (s+1) (w+1) (x+1) raw K hK;obtain⟨gs,ss,ws,ts,ps,hs'⟩:=i;simp only at g1 b1 b2 b3 b4 b5 b6 gi si wi;have qG:=all_of (enc:=encDf) gi;have qS:=all_of (enc:=encDf) si;have qW:=all_of (enc:=encWn) wi;have qT:=all_of (enc:=encSm) (p:=fun _=>True) (l:=ts) fun _ _=>trivial;have qP:=all_of (enc:=encPb) (p:=fun _=>True) (l:=ps) fun _ _=>trivial;have qH:=all_of (enc:=encHn) (p:=fun _=>True) (l:=hs') fun _ _=>trivial;obtain⟨ga,gr,rfl⟩:∃a r,gs=a::r:=by
  cases gs with
  |nil=>simp at g1
  |cons a r=>exact⟨a,r,rfl⟩
 have hgl:(ga::gr).length=gr.length+1:=rfl;have hcp:=fun {K} h=>@eyCpV ⟨ga::gr,ss,ws,ts,ps,hs'⟩ zs zs zs (fun d hd=>aZ (gi d hd) zd) (fun d hd=>aZ (si d hd) zd) wi zs zs zs K h;simp only[aR,aB]at hcp;refine gP (ofnSpV rfl rfl ?_)
 all_goals(repeat' ((conv=>whnf);first|(refine Ob.intro zk ?_)|(with_reducible first|refine hcp ?_|refine hn ?_|refine nNext raw _ _ zx zw hr fun m1 q1 hm1 hq1=>?_)|(refine ix_strA (by rfl) (by simp only[aB,aH];omega) fun c=>?_)|(refine ix_i64A (by rfl) (by simp only[aB,aH];omega) fun c=>?_)|(with_reducible first|refine hZ (by(try simp only[aA,aB,aH]);omega) ?_|refine c10 raw _ 3 10080 true zd zd zd zd zw hr fun l q2 hl hb hq2=>?_|refine eyName raw _ zw hr fun c q3 hq3=>?_|refine cnAddr raw _ zw hr fun a q4 a0 a1 hq4=>?_|refine enNum raw _ 65535 zd zd zw hr fun a q5 a0 a1 hq5=>?_|refine wr_u32_any fun r r0 r1=>?_|refine wr_i64_any fun r=>?_|refine gT 0 rfl (by(try simp only[aA,aB]at*);omega) ?_|refine ix_any zo fun r hx=>?_|refine gY 1 ts.length rfl rfl zo zo ?_)|(refine gU rfl ?_)|(refine sl_full zx ?_)|(with_reducible refine sl_map zo ?_)|refine zG ?_|apply zA|intro h|exact zT));all_goals conv=>whnf
 all_goals first
  |(refine⟨_,gM,hE _ _ _ _ _ _ _ ?_ ?_ ?_ ?_ ?_ ?_ ?_ zw⟩<;>(repeat' first|exact qG|exact qS|exact qW|exact qT|exact qP|exact qH|refine all_app ?_ ?_|refine all_set ?_ ?_|refine all_drop ?_|refine all_take ?_|exact all_of fun _ _=>trivial)<;>
    first
    |exact oDf _ _ _
    |exact oDs _ _ _ _ zp zp zp zp
    |exact oWn _ _ zo
    |exact oSm _ _ _ _ _ _ _ _ _ _
    |exact oPb _ _ _ _ _ _
    |exact oHn _ _ _ _ _ zp zp zd zd
    |exact⟨r,rfl,trivial⟩
    |(simp only[aC,aA,aB,aH,cT,cH,bA]at*;omega))
  |(refine⟨.agg [.lst (.agg [.v (.string ga.name),.lst []]::gr.map encDf),.lst (ss.map encDf),.lst (ws.map encWn),.lst (ts.map encSm),.lst (ps.map encPb),.lst (hs'.map encHn)],gS ⟨weak_nil0,gM,gM,gM,gM,gM,trivial⟩,hE _ _ _ _ _ _ _ (all_consQ ⟨⟨_,[]⟩,rfl,by simp⟩ fun y hy=>qG y (aS _ hy)) qS qW qT qP qH ?_ zw⟩
    simp only[aA,aB]at*;omega)
theorem eySp9(raw:List Int)(pos:Nat)(hp:pos<=raw.length)(hr:raw.length<=9223372036854775807)(i:Nt)(g s w x:Nat)(h:Spo g s w x i)(hg:g<=4)(hs:s<=4)(hw:w<=2)(hx:x<=900)
  (p1:Nat)(hp1:p1<=raw.length)(hn:∀{K:KT},K (.v (.int .i64 (9:Nat))) [tapeO raw p1]->AC 11 [.op 0 0,.v (.int .i64 14)] [tapeO raw pos] K){K:KT}
  (hK:∀(j:Nt) (pos':Nat),Spo (g+1) (s+1) (w+1) (x+1) j->pos'<=raw.length->K (encNt j) [tapeO raw pos']):
  AC 10 [.op 0 0,encNt i] [tapeO raw pos] K:=by
 obtain⟨g1,b1,b2,b3,b4,b5,b6,gi,si,wi⟩:=h;have hE:=@spo_mk (g+1) (s+1) (w+1) (x+1) raw K hK;obtain⟨gs,ss,ws,ts,ps,hs'⟩:=i;simp only at g1 b1 b2 b3 b4 b5 b6 gi si wi;have qG:=all_of (enc:=encDf) gi;have qS:=all_of (enc:=encDf) si;have qW:=all_of (enc:=encWn) wi;have qT:=all_of (enc:=encSm) (p:=fun _=>True) (l:=ts) fun _ _=>trivial;have qP:=all_of (enc:=encPb) (p:=fun _=>True) (l:=ps) fun _ _=>trivial;have qH:=all_of (enc:=encHn) (p:=fun _=>True) (l:=hs') fun _ _=>trivial;obtain⟨ga,gr,rfl⟩:∃a r,gs=a::r:=by
  cases gs with
  |nil=>simp at g1
  |cons a r=>exact⟨a,r,rfl⟩
 have hgl:(ga::gr).length=gr.length+1:=rfl;have hcp:=fun {K} h=>@eyCpV ⟨ga::gr,ss,ws,ts,ps,hs'⟩ zs zs zs (fun d hd=>aZ (gi d hd) zd) (fun d hd=>aZ (si d hd) zd) wi zs zs zs K h;simp only[aR,aB]at hcp;refine gP (ofnSpV rfl rfl ?_)
 all_goals(repeat' ((conv=>whnf);first|(refine Ob.intro zk ?_)|(with_reducible first|refine hcp ?_|refine hn ?_|refine nNext raw _ _ zx zw hr fun m1 q1 hm1 hq1=>?_)|(refine ix_strA (by rfl) (by simp only[aB,aH];omega) fun c=>?_)|(refine ix_i64A (by rfl) (by simp only[aB,aH];omega) fun c=>?_)|(with_reducible first|refine hZ (by(try simp only[aA,aB,aH]);omega) ?_|refine c10 raw _ 3 10080 true zd zd zd zd zw hr fun l q2 hl hb hq2=>?_|refine eyName raw _ zw hr fun c q3 hq3=>?_|refine cnAddr raw _ zw hr fun a q4 a0 a1 hq4=>?_|refine enNum raw _ 65535 zd zd zw hr fun a q5 a0 a1 hq5=>?_|refine wr_u32_any fun r r0 r1=>?_|refine wr_i64_any fun r=>?_|refine gT 0 rfl (by(try simp only[aA,aB]at*);omega) ?_|refine ix_any zo fun r hx=>?_|refine gY 1 ts.length rfl rfl zo zo ?_)|(refine gU rfl ?_)|(refine sl_full zx ?_)|(with_reducible refine sl_map zo ?_)|refine zG ?_|apply zA|intro h|exact zT));all_goals conv=>whnf
 all_goals first
  |(refine⟨_,gM,hE _ _ _ _ _ _ _ ?_ ?_ ?_ ?_ ?_ ?_ ?_ zw⟩<;>(repeat' first|exact qG|exact qS|exact qW|exact qT|exact qP|exact qH|refine all_app ?_ ?_|refine all_set ?_ ?_|refine all_drop ?_|refine all_take ?_|exact all_of fun _ _=>trivial)<;>
    first
    |exact oDf _ _ _
    |exact oDs _ _ _ _ zp zp zp zp
    |exact oWn _ _ zo
    |exact oSm _ _ _ _ _ _ _ _ _ _
    |exact oPb _ _ _ _ _ _
    |exact oHn _ _ _ _ _ zp zp zd zd
    |exact⟨r,rfl,trivial⟩
    |(simp only[aC,aA,aB,aH,cT,cH,bA]at*;omega))
  |(refine⟨.agg [.lst (.agg [.v (.string ga.name),.lst []]::gr.map encDf),.lst (ss.map encDf),.lst (ws.map encWn),.lst (ts.map encSm),.lst (ps.map encPb),.lst (hs'.map encHn)],gS ⟨weak_nil0,gM,gM,gM,gM,gM,trivial⟩,hE _ _ _ _ _ _ _ (all_consQ ⟨⟨_,[]⟩,rfl,by simp⟩ fun y hy=>qG y (aS _ hy)) qS qW qT qP qH ?_ zw⟩
    simp only[aA,aB]at*;omega)
theorem eySp11(raw:List Int)(pos:Nat)(hp:pos<=raw.length)(hr:raw.length<=9223372036854775807)(i:Nt)(g s w x:Nat)(h:Spo g s w x i)(hg:g<=4)(hs:s<=4)(hw:w<=2)(hx:x<=900)
  (p1:Nat)(hp1:p1<=raw.length)(hn:∀{K:KT},K (.v (.int .i64 (11:Nat))) [tapeO raw p1]->AC 11 [.op 0 0,.v (.int .i64 14)] [tapeO raw pos] K){K:KT}
  (hK:∀(j:Nt) (pos':Nat),Spo (g+1) (s+1) (w+1) (x+1) j->pos'<=raw.length->K (encNt j) [tapeO raw pos']):
  AC 10 [.op 0 0,encNt i] [tapeO raw pos] K:=by
 obtain⟨g1,b1,b2,b3,b4,b5,b6,gi,si,wi⟩:=h;have hE:=@spo_mk (g+1) (s+1) (w+1) (x+1) raw K hK;obtain⟨gs,ss,ws,ts,ps,hs'⟩:=i;simp only at g1 b1 b2 b3 b4 b5 b6 gi si wi;have qG:=all_of (enc:=encDf) gi;have qS:=all_of (enc:=encDf) si;have qW:=all_of (enc:=encWn) wi;have qT:=all_of (enc:=encSm) (p:=fun _=>True) (l:=ts) fun _ _=>trivial;have qP:=all_of (enc:=encPb) (p:=fun _=>True) (l:=ps) fun _ _=>trivial;have qH:=all_of (enc:=encHn) (p:=fun _=>True) (l:=hs') fun _ _=>trivial;obtain⟨ga,gr,rfl⟩:∃a r,gs=a::r:=by
  cases gs with
  |nil=>simp at g1
  |cons a r=>exact⟨a,r,rfl⟩
 have hgl:(ga::gr).length=gr.length+1:=rfl;have hcp:=fun {K} h=>@eyCpV ⟨ga::gr,ss,ws,ts,ps,hs'⟩ zs zs zs (fun d hd=>aZ (gi d hd) zd) (fun d hd=>aZ (si d hd) zd) wi zs zs zs K h;simp only[aR,aB]at hcp;refine gP (ofnSpV rfl rfl ?_)
 all_goals(repeat' ((conv=>whnf);first|(refine Ob.intro zk ?_)|(with_reducible first|refine hcp ?_|refine hn ?_|refine nNext raw _ _ zx zw hr fun m1 q1 hm1 hq1=>?_)|(refine ix_strA (by rfl) (by simp only[aB,aH];omega) fun c=>?_)|(refine ix_i64A (by rfl) (by simp only[aB,aH];omega) fun c=>?_)|(with_reducible first|refine hZ (by(try simp only[aA,aB,aH]);omega) ?_|refine c10 raw _ 3 10080 true zd zd zd zd zw hr fun l q2 hl hb hq2=>?_|refine eyName raw _ zw hr fun c q3 hq3=>?_|refine cnAddr raw _ zw hr fun a q4 a0 a1 hq4=>?_|refine enNum raw _ 65535 zd zd zw hr fun a q5 a0 a1 hq5=>?_|refine wr_u32_any fun r r0 r1=>?_|refine wr_i64_any fun r=>?_|refine gT 0 rfl (by(try simp only[aA,aB]at*);omega) ?_|refine ix_any zo fun r hx=>?_|refine gY 1 ts.length rfl rfl zo zo ?_)|(refine gU rfl ?_)|(refine sl_full zx ?_)|(with_reducible refine sl_map zo ?_)|refine zG ?_|apply zA|intro h|exact zT));all_goals conv=>whnf
 all_goals first
  |(refine⟨_,gM,hE _ _ _ _ _ _ _ ?_ ?_ ?_ ?_ ?_ ?_ ?_ zw⟩<;>(repeat' first|exact qG|exact qS|exact qW|exact qT|exact qP|exact qH|refine all_app ?_ ?_|refine all_set ?_ ?_|refine all_drop ?_|refine all_take ?_|exact all_of fun _ _=>trivial)<;>
    first
    |exact oDf _ _ _
    |exact oDs _ _ _ _ zp zp zp zp
    |exact oWn _ _ zo
    |exact oSm _ _ _ _ _ _ _ _ _ _
    |exact oPb _ _ _ _ _ _
    |exact oHn _ _ _ _ _ zp zp zd zd
    |exact⟨r,rfl,trivial⟩
    |(simp only[aC,aA,aB,aH,cT,cH,bA]at*;omega))
  |(refine⟨.agg [.lst (.agg [.v (.string ga.name),.lst []]::gr.map encDf),.lst (ss.map encDf),.lst (ws.map encWn),.lst (ts.map encSm),.lst (ps.map encPb),.lst (hs'.map encHn)],gS ⟨weak_nil0,gM,gM,gM,gM,gM,trivial⟩,hE _ _ _ _ _ _ _ (all_consQ ⟨⟨_,[]⟩,rfl,by simp⟩ fun y hy=>qG y (aS _ hy)) qS qW qT qP qH ?_ zw⟩
    simp only[aA,aB]at*;omega)
theorem eySp12(raw:List Int)(pos:Nat)(hp:pos<=raw.length)(hr:raw.length<=9223372036854775807)(i:Nt)(g s w x:Nat)(h:Spo g s w x i)(hg:g<=4)(hs:s<=4)(hw:w<=2)(hx:x<=900)
  (p1:Nat)(hp1:p1<=raw.length)(hn:∀{K:KT},K (.v (.int .i64 (12:Nat))) [tapeO raw p1]->AC 11 [.op 0 0,.v (.int .i64 14)] [tapeO raw pos] K){K:KT}
  (hK:∀(j:Nt) (pos':Nat),Spo (g+1) (s+1) (w+1) (x+1) j->pos'<=raw.length->K (encNt j) [tapeO raw pos']):
  AC 10 [.op 0 0,encNt i] [tapeO raw pos] K:=by
 obtain⟨g1,b1,b2,b3,b4,b5,b6,gi,si,wi⟩:=h;have hE:=@spo_mk (g+1) (s+1) (w+1) (x+1) raw K hK;obtain⟨gs,ss,ws,ts,ps,hs'⟩:=i;simp only at g1 b1 b2 b3 b4 b5 b6 gi si wi;have qG:=all_of (enc:=encDf) gi;have qS:=all_of (enc:=encDf) si;have qW:=all_of (enc:=encWn) wi;have qT:=all_of (enc:=encSm) (p:=fun _=>True) (l:=ts) fun _ _=>trivial;have qP:=all_of (enc:=encPb) (p:=fun _=>True) (l:=ps) fun _ _=>trivial;have qH:=all_of (enc:=encHn) (p:=fun _=>True) (l:=hs') fun _ _=>trivial;obtain⟨ga,gr,rfl⟩:∃a r,gs=a::r:=by
  cases gs with
  |nil=>simp at g1
  |cons a r=>exact⟨a,r,rfl⟩
 have hgl:(ga::gr).length=gr.length+1:=rfl;have hcp:=fun {K} h=>@eyCpV ⟨ga::gr,ss,ws,ts,ps,hs'⟩ zs zs zs (fun d hd=>aZ (gi d hd) zd) (fun d hd=>aZ (si d hd) zd) wi zs zs zs K h;simp only[aR,aB]at hcp;refine gP (ofnSpV rfl rfl ?_)
 all_goals(repeat' ((conv=>whnf);first|(refine Ob.intro zk ?_)|(with_reducible first|refine hcp ?_|refine hn ?_|refine nNext raw _ _ zx zw hr fun m1 q1 hm1 hq1=>?_)|(refine ix_strA (by rfl) (by simp only[aB,aH];omega) fun c=>?_)|(refine ix_i64A (by rfl) (by simp only[aB,aH];omega) fun c=>?_)|(with_reducible first|refine hZ (by(try simp only[aA,aB,aH]);omega) ?_|refine c10 raw _ 3 10080 true zd zd zd zd zw hr fun l q2 hl hb hq2=>?_|refine eyName raw _ zw hr fun c q3 hq3=>?_|refine cnAddr raw _ zw hr fun a q4 a0 a1 hq4=>?_|refine enNum raw _ 65535 zd zd zw hr fun a q5 a0 a1 hq5=>?_|refine wr_u32_any fun r r0 r1=>?_|refine wr_i64_any fun r=>?_|refine gT 0 rfl (by(try simp only[aA,aB]at*);omega) ?_|refine ix_any zo fun r hx=>?_|refine gY 1 ts.length rfl rfl zo zo ?_)|(refine gU rfl ?_)|(refine sl_full zx ?_)|(with_reducible refine sl_map zo ?_)|refine zG ?_|apply zA|intro h|exact zT));all_goals conv=>whnf
 all_goals first
  |(refine⟨_,gM,hE _ _ _ _ _ _ _ ?_ ?_ ?_ ?_ ?_ ?_ ?_ zw⟩<;>(repeat' first|exact qG|exact qS|exact qW|exact qT|exact qP|exact qH|refine all_app ?_ ?_|refine all_set ?_ ?_|refine all_drop ?_|refine all_take ?_|exact all_of fun _ _=>trivial)<;>
    first
    |exact oDf _ _ _
    |exact oDs _ _ _ _ zp zp zp zp
    |exact oWn _ _ zo
    |exact oSm _ _ _ _ _ _ _ _ _ _
    |exact oPb _ _ _ _ _ _
    |exact oHn _ _ _ _ _ zp zp zd zd
    |exact⟨r,rfl,trivial⟩
    |(simp only[aC,aA,aB,aH,cT,cH,bA]at*;omega))
  |(refine⟨.agg [.lst (.agg [.v (.string ga.name),.lst []]::gr.map encDf),.lst (ss.map encDf),.lst (ws.map encWn),.lst (ts.map encSm),.lst (ps.map encPb),.lst (hs'.map encHn)],gS ⟨weak_nil0,gM,gM,gM,gM,gM,trivial⟩,hE _ _ _ _ _ _ _ (all_consQ ⟨⟨_,[]⟩,rfl,by simp⟩ fun y hy=>qG y (aS _ hy)) qS qW qT qP qH ?_ zw⟩
    simp only[aA,aB]at*;omega)
theorem eySp13(raw:List Int)(pos:Nat)(hp:pos<=raw.length)(hr:raw.length<=9223372036854775807)(i:Nt)(g s w x:Nat)(h:Spo g s w x i)(hg:g<=4)(hs:s<=4)(hw:w<=2)(hx:x<=900)
  (p1:Nat)(hp1:p1<=raw.length)(hn:∀{K:KT},K (.v (.int .i64 (13:Nat))) [tapeO raw p1]->AC 11 [.op 0 0,.v (.int .i64 14)] [tapeO raw pos] K){K:KT}
  (hK:∀(j:Nt) (pos':Nat),Spo (g+1) (s+1) (w+1) (x+1) j->pos'<=raw.length->K (encNt j) [tapeO raw pos']):
  AC 10 [.op 0 0,encNt i] [tapeO raw pos] K:=by
 obtain⟨g1,b1,b2,b3,b4,b5,b6,gi,si,wi⟩:=h;have hE:=@spo_mk (g+1) (s+1) (w+1) (x+1) raw K hK;obtain⟨gs,ss,ws,ts,ps,hs'⟩:=i;simp only at g1 b1 b2 b3 b4 b5 b6 gi si wi;have qG:=all_of (enc:=encDf) gi;have qS:=all_of (enc:=encDf) si;have qW:=all_of (enc:=encWn) wi;have qT:=all_of (enc:=encSm) (p:=fun _=>True) (l:=ts) fun _ _=>trivial;have qP:=all_of (enc:=encPb) (p:=fun _=>True) (l:=ps) fun _ _=>trivial;have qH:=all_of (enc:=encHn) (p:=fun _=>True) (l:=hs') fun _ _=>trivial;obtain⟨ga,gr,rfl⟩:∃a r,gs=a::r:=by
  cases gs with
  |nil=>simp at g1
  |cons a r=>exact⟨a,r,rfl⟩
 have hgl:(ga::gr).length=gr.length+1:=rfl;have hcp:=fun {K} h=>@eyCpV ⟨ga::gr,ss,ws,ts,ps,hs'⟩ zs zs zs (fun d hd=>aZ (gi d hd) zd) (fun d hd=>aZ (si d hd) zd) wi zs zs zs K h;simp only[aR,aB]at hcp;refine gP (ofnSpV rfl rfl ?_)
 all_goals(repeat' ((conv=>whnf);first|(refine Ob.intro zk ?_)|(with_reducible first|refine hcp ?_|refine hn ?_|refine nNext raw _ _ zx zw hr fun m1 q1 hm1 hq1=>?_)|(refine ix_strA (by rfl) (by simp only[aB,aH];omega) fun c=>?_)|(refine ix_i64A (by rfl) (by simp only[aB,aH];omega) fun c=>?_)|(with_reducible first|refine hZ (by(try simp only[aA,aB,aH]);omega) ?_|refine c10 raw _ 3 10080 true zd zd zd zd zw hr fun l q2 hl hb hq2=>?_|refine eyName raw _ zw hr fun c q3 hq3=>?_|refine cnAddr raw _ zw hr fun a q4 a0 a1 hq4=>?_|refine enNum raw _ 65535 zd zd zw hr fun a q5 a0 a1 hq5=>?_|refine wr_u32_any fun r r0 r1=>?_|refine wr_i64_any fun r=>?_|refine gT 0 rfl (by(try simp only[aA,aB]at*);omega) ?_|refine ix_any zo fun r hx=>?_|refine gY 1 ts.length rfl rfl zo zo ?_)|(refine gU rfl ?_)|(refine sl_full zx ?_)|(with_reducible refine sl_map zo ?_)|refine zG ?_|apply zA|intro h|exact zT));all_goals conv=>whnf
 all_goals first
  |(refine⟨_,gM,hE _ _ _ _ _ _ _ ?_ ?_ ?_ ?_ ?_ ?_ ?_ zw⟩<;>(repeat' first|exact qG|exact qS|exact qW|exact qT|exact qP|exact qH|refine all_app ?_ ?_|refine all_set ?_ ?_|refine all_drop ?_|refine all_take ?_|exact all_of fun _ _=>trivial)<;>
    first
    |exact oDf _ _ _
    |exact oDs _ _ _ _ zp zp zp zp
    |exact oWn _ _ zo
    |exact oSm _ _ _ _ _ _ _ _ _ _
    |exact oPb _ _ _ _ _ _
    |exact oHn _ _ _ _ _ zp zp zd zd
    |exact⟨r,rfl,trivial⟩
    |(simp only[aC,aA,aB,aH,cT,cH,bA]at*;omega))
  |(refine⟨.agg [.lst (.agg [.v (.string ga.name),.lst []]::gr.map encDf),.lst (ss.map encDf),.lst (ws.map encWn),.lst (ts.map encSm),.lst (ps.map encPb),.lst (hs'.map encHn)],gS ⟨weak_nil0,gM,gM,gM,gM,gM,trivial⟩,hE _ _ _ _ _ _ _ (all_consQ ⟨⟨_,[]⟩,rfl,by simp⟩ fun y hy=>qG y (aS _ hy)) qS qW qT qP qH ?_ zw⟩
    simp only[aA,aB]at*;omega)
end Go.Proofs.YtnomkooikbhgmaaGreatDoor
