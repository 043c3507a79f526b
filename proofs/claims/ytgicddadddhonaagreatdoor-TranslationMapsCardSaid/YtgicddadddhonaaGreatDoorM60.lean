/- Lemmas. -/
import Derived.Test.YtgicddadddhonaaGreatDoorM33
set_option linter.unusedVariables false
set_option linter.unusedSimpArgs false
set_option maxRecDepth 100000
set_option maxHeartbeats 4000000
namespace Go.Proofs.YtgicddadddhonaaGreatDoor
open Go Go.Vm Go.ChangeShapes Go.WideShapes Go.ChangeAt Go.RowKit
theorem aXB{d:Nat}{y:AV}(h:Ty Tryz.prog (d+3) 57 y):∃b:Bx,y=iV b:=by
 obtain⟨ys,hl,rfl,hf⟩:=h
 match ys,hl with
 |[a,b,c,e,f],_=>
  obtain⟨a,rfl⟩:=aEU (d:=d) (hf a zx);obtain⟨b,rfl⟩:=aEU (d:=d) (hf b zx);obtain⟨c,rfl⟩:=aEU (d:=d) (hf c zx);obtain⟨e,rfl⟩:=aEU (d:=d) (hf e zx);obtain⟨f,rfl⟩:=aEU (d:=d) (hf f zx);exact⟨⟨a,b,c,e,f⟩,rfl⟩
theorem aZm{d:Nat}{y:AV}(h:Ty Tryz.prog (d+4) 52 y):∃l:List Bx,y=iN l:=by
 obtain⟨l,rfl,_,hl⟩:=h;obtain⟨m,rfl⟩:=mM iV fun y hy=>aXB (d:=d) (hl y hy);exact⟨m,rfl⟩
theorem aZl{d:Nat}{y:AV}(h:Ty Tryz.prog (d+4) 59 y):∃m:Mv,y=nR m:=by
 obtain⟨ys,hl,rfl,hf⟩:=h
 match ys,hl with
 |[a,b],_=>
  obtain⟨a,rfl⟩:=aXB (d:=d) (hf 0 _ a rfl rfl);obtain⟨b,rfl⟩:=aXB (d:=d) (hf 1 _ b rfl rfl);exact⟨⟨a,b⟩,rfl⟩
theorem aZk{d:Nat}{y:AV}(h:Ty Tryz.prog (d+5) 46 y):∃l:List Mv,y=lQ l:=by
 obtain⟨l,rfl,_,hl⟩:=h;obtain⟨m,rfl⟩:=mM nR fun y hy=>aZl (d:=d) (hl y hy);exact⟨m,rfl⟩
def HiA(x:Hi):Prop:=0<=x.addr/\x.addr<=4294967295
theorem aZj{d:Nat}{y:AV}(h:Ty Tryz.prog (d+4) 162 y):∃x:Hi,y=pV x/\HiA x:=by
 obtain⟨ys,hl,rfl,hf⟩:=h
 match ys,hl with
 |[a,b,c],_=>
  obtain⟨a,rfl⟩:=aXB (d:=d) (hf 0 _ a rfl rfl);obtain⟨b,rfl,b0⟩:=hf 1 _ b rfl rfl;obtain⟨c,rfl⟩:=aEU (d:=d+1) (hf 2 _ c rfl rfl);exact⟨⟨a,b,c⟩,rfl,b0⟩
theorem aXz{α:Type}(enc:α->AV)(Q:α->Prop):∀{ys:List AV},(∀y,y∈ys->∃x,y=enc x/\Q x)->∃xs:List α,AV.lst ys=.lst (xs.map enc)/\∀x,x∈xs->Q x
 |[],_=>⟨[],rfl,fun x h=>by cases h⟩
 |y::ys,h=>by
  obtain⟨x,rfl,hx⟩:=h y zx;obtain⟨xs,hxs,hq⟩:=aXz enc Q fun y hy=>h y (aS _ hy);cases hxs;exact⟨x::xs,rfl,fun z hz=>by
   rcases aZ.1 hz with rfl|hz
   ·exact hx
   ·exact hq z hz⟩
theorem aZe{d:Nat}{y:AV}(h:Ty Tryz.prog (d+5) 84 y):∃l:List Hi,y=nN l/\∀x,x∈l->HiA x:=by
 obtain⟨l,rfl,_,hl⟩:=h;exact aXz pV HiA fun y hy=>aZj (d:=d) (hl y hy)
end Go.Proofs.YtgicddadddhonaaGreatDoor
