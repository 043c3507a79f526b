/- Lemmas. -/
import Derived.Test.YtgicddadddhonaaGreatDoorM38
import Derived.Test.YtgicddadddhonaaGreatDoorM39
import Derived.Test.YtgicddadddhonaaGreatDoorM40
import Derived.Test.YtgicddadddhonaaGreatDoorM41
import Derived.Test.YtgicddadddhonaaGreatDoorM42
set_option linter.unusedVariables false
set_option linter.unusedSimpArgs false
set_option maxRecDepth 100000
set_option maxHeartbeats 40000000
namespace Go.Proofs.YtgicddadddhonaaGreatDoor
open Go Go.Vm
theorem aBA(raw:List Int)(pos:Nat)(hp:pos<=raw.length)(hr:raw.length<=9223372036854775807)(i:Nt)(g s w x:Nat)(h:Spo g s w x i)(hg:g<=4)(hs:s<=4)(hw:w<=2)(hx:x<=900){K:KT}
  (hK:∀(j:Nt) (pos':Nat),Spo (g+1) (s+1) (w+1) (x+1) j->pos'<=raw.length->K (jC j) [iO raw pos']):
  AC 11 [.op 0 0,jC i] [iO raw pos] K:=by
 obtain⟨m,p1,hm,hp1,hn⟩:=aOX raw pos hp hr;by_cases hm1:m=1
 ·subst hm1;exact aTa raw pos hp hr i g s w x h hg hs hw hx p1 hp1 hn hK
 ·obtain rfl|rfl|rfl|rfl|rfl|rfl|rfl|rfl|rfl|rfl|rfl|rfl|rfl:m=0\/m=2\/m=3\/m=4\/m=5\/m=6\/m=7\/m=8\/m=9\/m=10\/m=11\/m=12\/m=13:=by omega
  ·exact aSR raw pos hp hr i g s w x h hg hs hw hx p1 hp1 hn hK
  ·exact aSS raw pos hp hr i g s w x h hg hs hw hx p1 hp1 hn hK
  ·exact aST raw pos hp hr i g s w x h hg hs hw hx p1 hp1 hn hK
  ·exact aSU raw pos hp hr i g s w x h hg hs hw hx p1 hp1 hn hK
  ·exact aSV raw pos hp hr i g s w x h hg hs hw hx p1 hp1 hn hK
  ·exact aSW raw pos hp hr i g s w x h hg hs hw hx p1 hp1 hn hK
  ·exact aSX raw pos hp hr i g s w x h hg hs hw hx p1 hp1 hn hK
  ·exact aSY raw pos hp hr i g s w x h hg hs hw hx p1 hp1 hn hK
  ·exact aSZ raw pos hp hr i g s w x h hg hs hw hx p1 hp1 hn hK
  ·exact aMr raw pos hp hr i g s w x h hg hs hw hx p1 hp1 hn hK
  ·exact aMs raw pos hp hr i g s w x h hg hs hw hx p1 hp1 hn hK
  ·exact aMt raw pos hp hr i g s w x h hg hs hw hx p1 hp1 hn hK
  ·exact aMu raw pos hp hr i g s w x h hg hs hw hx p1 hp1 hn hK
end Go.Proofs.YtgicddadddhonaaGreatDoor
