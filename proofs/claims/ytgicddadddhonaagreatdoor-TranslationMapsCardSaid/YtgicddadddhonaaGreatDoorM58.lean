/- Lemmas. -/
import Derived.Test.YtgicddadddhonaaGreatDoorM57
set_option linter.unusedVariables false
set_option linter.unusedSimpArgs false
set_option maxRecDepth 100000
set_option maxHeartbeats 4000000
namespace Go.Proofs.YtgicddadddhonaaGreatDoor
open Go Go.Vm
theorem aYU{e:Int}(he:E03 e){f:Bool}(hf:f=flg e)(a:List Bx)(ha:a.length<1000000000)(b:List Bx)(hb:e=0->b.length<1000000000){K:KT}(hK:K (iN (opK orB e a b).1) [flO (.sb (flg (opK orB e a b).2))]):AC 235 [.op 0 0,.v (.int .i64 0),iN a,iN b] [flO (.sb f)] K:=by
 subst hf;rcases he with rfl|rfl
 ·exact aXp (.inl rfl) a ha b (hb rfl) hK
 ·refine hJ (aXr rfl rfl ?_);rw[aXo];rw[Mm]at hK;(repeat' ((conv=>whnf);first|refine zG ?_|apply zA|intro h|exact zT));all_goals conv=>whnf
  all_goals first
   |exact⟨_,hZ,hK⟩
   |(exfalso;simp_all;done)
theorem aXP(x:Hi){K:KT}(hK:K (.sb (decide x.ok)) []):AC 239 [pV x] [] K:=by
 refine gZ (aYm rfl rfl ?_);have hd:∀{b:Bool},((b=true)↔x.ok)->b=decide x.ok:=fun h=>by rw[bK,aL];exact h
 unfold Hi.ok at hd hK;by_cases hf:x.mt.ok
 case neg=>
  have v1:∀{K:KT},K (.sb false) []->AC 140 [iV x.mt] [] K:=fun h=>cr3Val _ (by rw[decide_eq_false hf];exact h);have hn:decide (x.mt.ok/\x.ports.lo<=x.ports.hi/\x.ports.hi<=65535)=false:=decide_eq_false fun h=>hf h.1;(repeat' ((conv=>whnf);first|(refine v1 ?_)|refine zG ?_|apply zA|intro h|exact zT));all_goals conv=>whnf
  all_goals first
   |exact iU hK hn
 have v1:∀{K:KT},K (.sb true) []->AC 140 [iV x.mt] [] K:=fun h=>cr3Val _ (by rw[decide_eq_true hf];exact h);(repeat' ((conv=>whnf);first|(refine v1 ?_)|refine zG ?_|apply zA|intro h|exact zT));all_goals conv=>whnf
 all_goals first
  |exact kB hK (hd ⟨fun h'=>⟨hf,h,of_decide_eq_true h'⟩,fun h'=>decide_eq_true h'.2.2⟩)
  |exact kB hK (hd ⟨fun h'=>⟨hf,h,of_decide_eq_true h'⟩,fun h'=>decide_eq_true h'.2.2⟩).symm
  |exact kE hK (decide_eq_true ⟨hf,by omega,by omega⟩)
  |exact iU hK (decide_eq_false fun h=>by omega)
theorem aXH(x:Hi)(h0:0<=x.addr)(h1:x.addr<=4294967295)(b:Bx):iV (Jo x b)=.agg [.v (.int .u32 x.addr),.v (.int .u32 x.addr),.v (.int .u32 b.r1.lo),.v (.int .u32 b.r1.hi),.v (.int .u32 b.r2.lo),.v (.int .u32 b.r2.hi),.v (.int .u32 x.ports.lo),.v (.int .u32 x.ports.hi),.v (.int .u32 b.r4.lo),.v (.int .u32 b.r4.hi)]:=by
 show AV.agg [.v (.int .u32 (mkR x.addr x.addr).lo),.v (.int .u32 (mkR x.addr x.addr).hi),.v (.int .u32 b.r1.lo),.v (.int .u32 b.r1.hi),.v (.int .u32 b.r2.lo),.v (.int .u32 b.r2.hi),.v (.int .u32 x.ports.lo),.v (.int .u32 x.ports.hi),.v (.int .u32 b.r4.lo),.v (.int .u32 b.r4.hi)]=_;rw[kI h0 h1 h0 h1,kP h0 h1 h0 h1]
theorem aZb(x:Hi)(h0:0<=x.addr)(h1:x.addr<=4294967295)(b:Bx){K:KT}(hK:K (iV (Jo x b)) []):AC 240 [pV x,iV b] [] K:=by
 refine aYl rfl rfl ?_;rw[aXH x h0 h1]at hK;(repeat' ((conv=>whnf);first|(refine kH zd ?_)|(refine iC rfl ?_)|refine zG ?_|apply zA|intro h|exact zT));all_goals conv=>whnf
 all_goals exact hK
theorem aYv{x:Hi}(hx:x.ok){p:List Bx}(hp:jW p=true):kL (p.map (Jo x))=p.map (Jo x):=by
 unfold kL;rw[dW];intro y hy;obtain⟨b,hb,rfl⟩:=bQ.1 hy;exact decide_eq_true (Ww hx (aEj (rR hp) b hb))
theorem aZd(x:Hi){s:List Bx×List Bx×Int}(h:PreI s):PreI (aXn x s):=by
 unfold aXn;split
 ·exact⟨tC ..,tC ..⟩
 ·exact h
theorem aYW(l:List Hi)(hl:l.length<1000000000)(ha:∀x,x∈l->0<=x.addr/\x.addr<=4294967295)(s:List Bx)(hs:s.length<1000000000){K:KT}(hK:K (.tup [iN (aXU l s).1,.v (.int .i64 (aXU l s).2)]) []):AC 164 [nN l,iN s] [] K:=by
 refine hJ (aYh rfl rfl ?_);unfold aXU at hK;have hm:∀{K:KT},K (iN (opK orB 0 s []).1) [flO (.sb (flg (opK orB 0 s []).2))]->AC 235 [.op 0 0,.v (.int .i64 0),iN s,.nils] [flO (.sb false)] K:=fun h=>ACall.args (ys:=[.op 0 0,.v (.int .i64 0),iN s,.lst []]) ⟨Weak.refl,gY,gY,hZ,trivial⟩ (aXp (.inl rfl) s hs [] zd h);have hto:jW (opK orB 0 s []).1=true:=tC ..;have h03:E03 (opK orB 0 s []).2:=aXh _ (.inl rfl) _ _;generalize opK orB 0 s []=g at*;obtain⟨r0,e1⟩:=g;simp only at hK hm hto h03;(repeat' ((conv=>whnf);first|(with_reducible refine hm ?_)|refine zG ?_|apply zA|intro h|exact zT));all_goals conv=>whnf
 refine gV (Nat×List Bx×List Bx×Int) (fun g=>⟨1,[(0,flO (.sb (flg g.2.2.2)))],[(0,nN l),(6,.op 0 0),(7,iN g.2.2.1),(8,iN g.2.1),(9,.v (.int .i64 g.1))]⟩) (fun g=>g.1<=l.length/\PreI g.2/\E03 g.2.2.2/\aXk l ([],r0,e1)=aXk (l.drop g.1) g.2) (fun g=>l.length-g.1) (0,[],r0,e1) ⟨aK _,⟨jP,hto⟩,h03,by rw[bP]⟩ ?_ ?_
 ·exact leA
 rintro⟨k,o,r,c⟩ ⟨hk,hi,hc,hinv⟩
 simp only at hk hi hc hinv⊢;have hol:=(kU hi.out).len;have hrl:=(kU hi.rest).len;simp only at hol hrl;rcases aD k l.length with hkl|hkl
 ·obtain⟨x,hx⟩:=gex hkl;obtain⟨a0,a1⟩:=ha x (aG hx);have hst:=aYt hx (o,r,c);have hsi:=aZd x hi;have hsc:=aYu x (s:=(o,r,c)) hc;unfold aXn at hst hsi hsc;by_cases hxo:x.ok
  case neg=>
   have v1:∀{K:KT},K (.sb false) []->AC 239 [pV x] [] K:=fun h=>aXP _ (by rw[decide_eq_false hxo];exact h);rw[aF hxo]at hst;(repeat' ((conv=>whnf);first|(with_reducible first|refine iI hkl ?_|refine iH hx ?_)|(refine v1 ?_)|refine zG ?_|apply zA|intro h|exact zT));all_goals conv=>whnf
   refine⟨(k+1,o,r,c),⟨hkl,hi,hc,hinv.trans hst⟩,by simp only;omega,?_⟩;simp only;rw[aN k,aM];exact leA
  have v1:∀{K:KT},K (.sb true) []->AC 239 [pV x] [] K:=fun h=>aXP _ (by rw[decide_eq_true hxo];exact h);have v2:=fun b {K}=>@aZb x a0 a1 b K;rw[aH hxo]at hst hsi hsc;simp only at hst hsi hsc;have z1:=fun {K}=>@aXx c hc r zo x.mt K;have l1:=xW anB c r [x.mt];have s1:=tC anB c r [x.mt];have h1:E03 _:=aXh anB hc r [x.mt];generalize opK anB c r [x.mt]=q1 at*;obtain⟨p1,c1⟩:=q1;simp only at z1 hst hsi hsc l1 h1 s1;have z2:=fun {K}=>@aXM c1 h1 r zo x.mt K;have h2:E03 _:=aXh woB h1 r [x.mt];generalize opK woB c1 r [x.mt]=q2 at*;obtain⟨p2,c2⟩:=q2;simp only at z2 hst hsi hsc h2;have hvl:=aYv hxo s1;have hcn:∀{K:KT},K (iN (aXi x p1)) []->AC 89 [iN (p1.map (Jo x))] [] K:=fun h=>cr4Canon _ (by rw[aA];omega) (by rw[hvl];exact aXI x hxo p1 l1) (by rw[hvl];exact h);have h3:=aYw c2 (aXi x p1);have hb:eR c2 (aXi x p1)=0->(aXi x p1).length<1000000000:=fun h=>by
   unfold eR at h;split at h
   ·cases h
   ·omega
  have hfT:flg c2=true->true=flg (eR c2 (aXi x p1)):=fun h=>by
   have h0:c2≠0:=of_decide_eq_true h;unfold flg eR;rw[aH (.inl h0)];rfl
  have hfF:flg c2=false->∀f:Bool,(f=true↔4096<(aXi x p1).length)->f=flg (eR c2 (aXi x p1)):=fun h f hf=>by
   have h0:c2=0:=Decidable.byContradiction fun h1=>by
    have:flg c2=true:=decide_eq_true h1;rw[h]at this;cases this
   rw[bK,hf];unfold flg eR;rw[aL];constructor
   ·intro h;rw[aH (.inr h)];decide
   ·intro h;split at h
    ·rename_i h';exact h'.resolve_left fun h=>h h0
    ·exact absurd rfl h
  have z5:=fun {f} hf {K}=>@aYU _ h3 f hf o zo (aXi x p1) hb K;generalize eR c2 (aXi x p1)=E at*;generalize aXi x p1=C at*;(repeat' ((conv=>whnf);first|(with_reducible first|refine iI hkl ?_|refine iH hx ?_)|(refine v1 ?_)|(refine z1 ?_)|(refine z2 ?_)|refine zG ?_|apply zA|intro h|exact zT));all_goals conv=>whnf
  refine gV Nat (fun j=>⟨2,[(0,flO (.sb (flg c2))),(1,.arr 10 (((p1.take j).map (Jo x)).map iV))],[(0,nN l),(6,.op 0 0),(7,iN p2),(8,iN o),(9,.v (.int .i64 k)),(10,iN p1),(11,.os 1 10 0 ((p1.take j).map (Jo x)).length),(12,.v (.int .i64 j))]⟩) (fun j=>j<=p1.length) (fun j=>p1.length-j) 0 (aK _) ?_ ?_
  ·exact leA
  intro j hj;rcases aD j p1.length with hjl|hjl
  ·obtain⟨b,hb'⟩:∃x,p1[j]? =some x:=⟨_,aE hjl⟩
   have hst2:(p1.take (j+1)).map (Jo x)=(p1.take j).map (Jo x)++[Jo x b]:=by rw[bE,hb',aQ];rfl
   have hlt:((p1.take j).map (Jo x)).length<=4096:=by rw[aA,aV];omega
   have v3:=fun {K}=>@v2 b K;generalize (p1.take j).map (Jo x)=A at*;(repeat' ((conv=>whnf);first|(with_reducible first|refine iI hjl ?_|refine iH hb' ?_|refine iI hkl ?_|refine iH hx ?_)|(refine v3 ?_)|refine zG ?_|apply zA|intro h|exact zT));all_goals conv=>whnf
   all_goals
    refine⟨j+1,hjl,by omega,?_⟩;rw[hst2,aQ,aC,aN j,aM];exact leA
  ·rw[aW hjl];(repeat' ((conv=>whnf);first|(with_reducible refine iT zx ?_)|(refine hcn ?_)|(refine z5 (hfT zw) ?_)|(refine z5 (hfF zw _ (by simp;omega)) ?_)|refine zG ?_|apply zA|intro h|exact zT));all_goals conv=>whnf
   all_goals first
    |(refine⟨(k+1,(opK orB E o C).1,p2,(opK orB E o C).2),⟨hkl,hsi,hsc,hinv.trans hst⟩,by simp only;omega,?_⟩
      simp only;rw[aN k,aM];exact leA)
 ·have he:aXk (l.drop k) (o,r,c)=(o,r,c):=by rw[bO hkl];rfl
  rw[he]at hinv;rw[hinv]at hK;simp only at hK;have z1:=fun {K}=>@aXp c hc o zo r zo K;have h1:E03 _:=aXh orB hc o r;have hfe:=@Uv orB c o r;generalize opK orB c o r=q1 at*;obtain⟨p1,c1⟩:=q1;simp only at z1 hK h1 hfe;have z3:=fun {K}=>@aXN c1 h1 p1 hfe K;(repeat' ((conv=>whnf);first|(refine z1 ?_)|(refine z3 ?_)|refine zG ?_|apply zA|intro h|exact zT));all_goals conv=>whnf
  exact⟨_,gY,hK⟩
theorem aZi(l:List Hi)(hl:l.length<1000000)(ha:∀x,x∈l->0<=x.addr/\x.addr<=4294967295)(s:List Bx)(hs:s.length<1000000000){K:KT}(hK:K (.tup [iN (Se (T0 l s)).1,.v (.int .i64 (Se (T0 l s)).2)]) []):AC 96 [nN l,iN s] [] K:=by
 refine aXR rfl rfl ?_;have hm:=fun {K}=>@aYW l zo ha s hs K;rw[aXA]at hm;(repeat' ((conv=>whnf);first|(with_reducible refine hm ?_)|refine zG ?_|apply zA|intro h|exact zT));all_goals conv=>whnf
 exact hK
end Go.Proofs.YtgicddadddhonaaGreatDoor
