/- The document's decoder: the walk. The document's Runes: walk. -/
import Derived.Test.YtnjnooeldkideaaGreatDoorMRfT
import Derived.Test.YtnjnooeldkideaaGreatDoorMParts
namespace Go.Proofs.YtnjnooeldkideaaGreatDoor
set_option maxRecDepth 100000
set_option maxHeartbeats 4000000
section
set_option linter.unusedVariables false
set_option linter.unusedSimpArgs false
open Go.RowKit Go.Lib
theorem zac (t:ByteArray) (base:Nat) (h:(t.get! 0).toNat-base≤31):∀k,1≤k→k≤3→accV t base k≤135231:=by
 have h1:=(t.get! 1).toNat_lt;have h2:=(t.get! 2).toNat_lt;have e1:accV t base 1=(t.get! 0).toNat-base:=rfl;have e2:accV t base 2=64*accV t base 1+(t.get! 1).toNat-128:=rfl;have e3:accV t base 3=64*accV t base 2+(t.get! 2).toNat-128:=rfl;intro k a b
 have hk:k=1∨k=2∨k=3:=by omega
 rcases hk with rfl|rfl|rfl<;>omega
theorem accV_le (t:ByteArray) (base:Nat) (h:(t.get! 0).toNat-base≤31) (k:Nat) (a:1≤k) (b:k≤4):accV t base k≤8654911:=by
 by_cases hk:k≤3
 ·have:=zac t base h k a hk;omega
 ·obtain rfl:k=4:=by omega
  have h3:=(t.get! 3).toNat_lt;have e4:accV t base 4=64*accV t base 3+(t.get! 3).toNat-128:=rfl;have:=zac t base h 3 (by omega) (by omega)
  omega
def oneW (w:World) (r b:Array Value):World:=(w.alloc (.cells r 172)).alloc (.cells b 172)
theorem yk (w:World) (r b:Array Value):(oneW w r b).heap[w.heap.size]?=some (.cells r 172 (0,0)):=by
 unfold oneW;rw[Below.heap_alloc _ _ _ (by simp)];exact heap_alloc_new w _
theorem y6 {W w:World} {I:Nat→Option Obj} {L:List (Nat × Obj)} (h:St W w I L) (r b:Array Value):St W (oneW w r b) I L:=(h.alloc_ _).alloc_ _
theorem one_a {W w:World} {I:Nat→Option Obj} {L:List (Nat × Obj)} (t:ByteArray) (hz:0 < t.size) (hm:t.size≤140737488355328) (h1:(t.get! 0).toNat < 128) (h:St W w I L) :
  Calls Tryz.prog 124 #[.string t] w fun e w'=>e=.returned (.agg #[.int .i64 (y9 t).1,.string (t.extract 0 (y9 t).2.1),.bool (y9 t).2.2])∧St W w' I L:=by
 have hz1:(1:Int)≤(t.size:Int):=by omega
 have ha:=(t.get! 0).toNat_lt
 have hA:(t[0]'hz).toNat=(t.get! 0).toNat:=by rw[ug t 0 hz]
 have hR:=one_ascii h1;rw[hR];obtain⟨a,haa⟩:∃a,(t.get! 0).toNat=a:=⟨_,rfl⟩;rw[haa]at h1 ha hA ⊢
 have h1':(a:Int) < 128:=by omega
 have h2':(a:Int) < 256:=by omega
 have h3':(0:Int)≤a:=by omega
 have H:=za h;clear h hR haa
 go_enter Tryz.func124,Tryz.ntmps124
 go_wp2_with fail;refine bodyPost_ret (zp rfl _ _ w.heap.size 172 #[.int .i64 a,.string (t.extract 0 1),.bool false] (0,0) _ rfl (yk _ _ _) Tryz.underlying172 (by kernel_rfl) (by kernel_rfl)) rfl ?_;exact⟨rfl,y6 H.out _ _⟩
theorem one_o {W w:World} {I:Nat→Option Obj} {L:List (Nat × Obj)} (t:ByteArray) (hz:0 < t.size) (hm:t.size≤140737488355328) (h1:128≤(t.get! 0).toNat) (h2:(t.get! 0).toNat < 194∨245≤(t.get! 0).toNat) (h:St W w I L) :
  Calls Tryz.prog 124 #[.string t] w fun e w'=>e=.returned (.agg #[.int .i64 (y9 t).1,.string (t.extract 0 (y9 t).2.1),.bool (y9 t).2.2])∧St W w' I L:=by
 have hz1:(1:Int)≤(t.size:Int):=by omega
 have ha:=(t.get! 0).toNat_lt
 have hA:(t[0]'hz).toNat=(t.get! 0).toNat:=by rw[ug t 0 hz]
 have hR:=one_out h1 h2;rw[hR];obtain⟨a,haa⟩:∃a,(t.get! 0).toNat=a:=⟨_,rfl⟩;rw[haa]at h1 h2 ha hA ⊢
 have h1':¬(a:Int) < 128:=by omega
 have h2':(a:Int) < 256:=by omega
 have h3':(0:Int)≤a:=by omega
 have H:=za h;clear h hR haa
 rcases h2 with h2|h2
 ·have q1:¬(194:Int)≤a:=by omega
  have q2:¬(224:Int)≤a:=by omega
  have q3:¬(240:Int)≤a:=by omega
  go_enter Tryz.func124,Tryz.ntmps124
  go_wp2_with fail;refine bodyPost_ret (zp rfl _ _ w.heap.size 172 #[.int .i64 a,.string (t.extract 0 1),.bool true] (0,0) _ rfl (yk _ _ _) Tryz.underlying172 (by kernel_rfl) (by kernel_rfl)) rfl ?_;exact⟨rfl,y6 H.out _ _⟩
 ·have q1:(194:Int)≤a:=by omega
  have q2:(224:Int)≤a:=by omega
  have q3:(240:Int)≤a:=by omega
  have q4:¬(a:Int) < 224:=by omega
  have q5:¬(a:Int) < 240:=by omega
  have q6:¬(a:Int) < 245:=by omega
  go_enter Tryz.func124,Tryz.ntmps124
  go_wp2_with fail;refine bodyPost_ret (zp rfl _ _ w.heap.size 172 #[.int .i64 a,.string (t.extract 0 1),.bool true] (0,0) _ rfl (yk _ _ _) Tryz.underlying172 (by kernel_rfl) (by kernel_rfl)) rfl ?_;exact⟨rfl,y6 H.out _ _⟩
theorem one_k2 {W w:World} {I:Nat→Option Obj} {L:List (Nat × Obj)} (t:ByteArray) (hz:0 < t.size) (hm:t.size≤140737488355328) (h1:194≤(t.get! 0).toNat) (h2:(t.get! 0).toNat < 224) (h:St W w I L) :
  Calls Tryz.prog 124 #[.string t] w fun e w'=>e=.returned (.agg #[.int .i64 (y9 t).1,.string (t.extract 0 (y9 t).2.1),.bool (y9 t).2.2])∧St W w' I L:=by
 have hz1:(1:Int)≤(t.size:Int):=by omega
 have ha:=(t.get! 0).toNat_lt
 have hA:(t[0]'hz).toNat=(t.get! 0).toNat:=by rw[ug t 0 hz]
 have hK:Kd (t.get! 0).toNat 2 192 128:=.inl ⟨h1,h2,rfl,rfl,rfl⟩
 have hS:=fun h=>zaz (t:=t) hK h
 have hC:=fun j x y z=>za9 (t:=t) hK j x y z
 have hFi:=fun x y=>one_fin (t:=t) hK x y
 obtain⟨N,wd,br,hR⟩:∃N wd br,y9 t=(N,wd,br):=⟨_,_,_,rfl⟩;rw[hR]at hS hC hFi ⊢;have hacc1:accV t 192 1=(t.get! 0).toNat-192:=rfl;obtain⟨a,haa⟩:∃a,(t.get! 0).toNat=a:=⟨_,rfl⟩;rw[haa]at h1 h2 ha hA hS hC hFi hacc1
 have h1':¬(a:Int) < 128:=by omega
 have h2':(a:Int) < 256:=by omega
 have h3':(0:Int)≤a:=by omega
 have q1:(194:Int)≤a:=by omega
 have q4: (a:Int) < 224:=by omega
 have hacc1':(a:Int)-192=(accV t 192 1:Nat):=by omega
 have hbd:(t.get! 0).toNat-192≤31:=by omega
 have H:=za h;have HC:=za hC;have HFI:=za hFi;have HS:=za hS;clear h hR hK hC hFi hS haa hacc1
 go_enter Tryz.func124,Tryz.ntmps124
 by_cases hsz:t.size < 2
 ·have hsz':(t.size:Int) < 2:=by omega
  have he:=HS.out hsz;simp only[Prod.mk.injEq]at he;obtain⟨rfl,rfl,rfl⟩:=he;go_wp2_with fail;refine bodyPost_ret (zp rfl _ _ w.heap.size 172 #[.int .i64 N,.string (t.extract 0 1),.bool true] (0,0) _ rfl (yk _ _ _) Tryz.underlying172 (by kernel_rfl) (by kernel_rfl)) rfl ?_;exact⟨rfl,y6 H.out _ _⟩
 have hsz':¬(t.size:Int) < 2:=by omega
 go_wp2_with fail
 go_loopw [6,8] (fun n i wr=>∃k:Nat,n=.int .i64 (accV t 192 k:Nat)∧i=.int .i64 (k:Nat)∧1≤k∧k≤2∧(∀j,1≤j→j < k→contB (t.get! j).toNat)∧wr=(w.alloc (.cells #[.int .i64 0,.string ⟨#[]⟩,.bool false] 172)).alloc (.cells #[.int .i64 a,.string (t.extract 0 1),.bool true] 172)) (fun n i _=>match i with | .int _ z=>2-z.toNat|_=>0)
 case atStart=>exact⟨1,rfl,rfl,by omega,by omega,fun j _ _=>by omega,rfl⟩
 case round=>
  obtain⟨k,rfl,rfl,hk1,hk2,hcs,rfl⟩:=hrel;have hb4:=accV_le t 192 hbd k hk1 (by omega);have hb3:=zac t 192 hbd k hk1
  have hsu:∀c,(t.get! k).toNat=c→accV t 192 (k+1)=64*accV t 192 k+c-128:=fun c hc=>by
   obtain⟨j,rfl⟩:∃j,k=j+1:=⟨k-1,by omega⟩;rw[←hc];rfl
  have HCS:=za hcs;have HSU:=za hsu;have HBD:=za hbd;clear hcs hsu hbd
  by_cases hks:k < 2
  ·have hkt:k < t.size:=by omega
   obtain⟨c,hc⟩:∃c,(t.get! k).toNat=c:=⟨_,rfl⟩;have hc256:=(t.get! k).toNat_lt
   have hcw:(t[k]'hkt).toNat=c:=by rw[←hc,ug t k hkt]
   rw[hc]at hc256;have hb3':=hb3 (by omega);have hCk:=za (HC.out k hk1 hks);have HSUk:=za (HSU.out c hc);have HEc:=za hc
   have w1:(0:Int)≤c:=by omega
   have w2:(c:Int) < 256:=by omega
   have w3:(0:Int)≤(accV t 192 k:Nat):=by omega
   have w4:((accV t 192 k:Nat):Int)≤135231:=by omega
   have w5:(k:Int) < 2:=by omega
   clear hc HSU hb3 hb3' hb4
   by_cases hc1:c < 128
   ·have w6:(c:Int) < 128:=by omega
    have he:=hCk.out (by rw[HEc.out];unfold contB;omega);simp only[Prod.mk.injEq]at he;obtain⟨rfl,rfl,rfl⟩:=he;go_wp2_with fail;refine bodyPost_ret (zp rfl _ _ w.heap.size 172 #[.int .i64 N,.string (t.extract 0 1),.bool true] (0,0) _ rfl (yk _ _ _) Tryz.underlying172 (by kernel_rfl) (by kernel_rfl)) rfl ?_;exact⟨rfl,y6 H.out _ _⟩
   have w6:¬(c:Int) < 128:=by omega
   by_cases hc2:191 < c
   ·have w7:(191:Int) < c:=by omega
    have he:=hCk.out (by rw[HEc.out];unfold contB;omega);simp only[Prod.mk.injEq]at he;obtain⟨rfl,rfl,rfl⟩:=he;go_wp2_with fail;refine bodyPost_ret (zp rfl _ _ w.heap.size 172 #[.int .i64 N,.string (t.extract 0 1),.bool true] (0,0) _ rfl (yk _ _ _) Tryz.underlying172 (by kernel_rfl) (by kernel_rfl)) rfl ?_;exact⟨rfl,y6 H.out _ _⟩
   have w7:¬(191:Int) < c:=by omega
   go_wp2_with fail
   go_roundw
   case rel=>
    refine⟨k+1,?_,by simp,by omega,by omega,fun j h1 h2=>?_,by trivial⟩
    ·rw[HSUk.out];congr 1;omega
    ·by_cases hj:j < k
     ·exact HCS.out j h1 hj
     ·obtain rfl:j=k:=by omega
      rw[HEc.out];unfold contB;omega
   case measure=>simp only[];omega
  ·obtain rfl:k=2:=by omega
   obtain⟨hbad,hgood⟩:=HFI.out (by omega) HCS.out;clear HSU HC hb3 HCS;generalize accV t 192 2=x at *;have HB:=za hbad;have HG:=za hgood;clear hbad hgood
   have w3:(0:Int)≤(x:Int):=by omega
   have w4:(x:Int)≤8654911:=by omega
   by_cases x1:x < 128
   ·have v1:(x:Int) < 128:=by omega
    have he:=HB.out (by omega);simp only[Prod.mk.injEq]at he;obtain⟨rfl,rfl,rfl⟩:=he;go_wp2_with fail;refine bodyPost_ret (zp rfl _ _ w.heap.size 172 #[.int .i64 N,.string (t.extract 0 1),.bool true] (0,0) _ rfl (yk _ _ _) Tryz.underlying172 (by kernel_rfl) (by kernel_rfl)) rfl ?_;exact⟨rfl,y6 H.out _ _⟩
   have v1:¬(x:Int) < 128:=by omega
   by_cases x2:1114111 < x
   ·have v2:(1114111:Int) < x:=by omega
    have he:=HB.out (by omega);simp only[Prod.mk.injEq]at he;obtain⟨rfl,rfl,rfl⟩:=he;go_wp2_with fail;refine bodyPost_ret (zp rfl _ _ w.heap.size 172 #[.int .i64 N,.string (t.extract 0 1),.bool true] (0,0) _ rfl (yk _ _ _) Tryz.underlying172 (by kernel_rfl) (by kernel_rfl)) rfl ?_;exact⟨rfl,y6 H.out _ _⟩
   have v2:¬(1114111:Int) < x:=by omega
   by_cases x3:55296≤x
   ·have v3:(55296:Int)≤x:=by omega
    by_cases x4:x≤57343
    ·by_cases hno:57343 < 128
     ·exfalso;omega
     have hno2:128≤57343:=by omega
     clear hno
     have v4:(x:Int)≤57343:=by omega
     have he:=HB.out (by omega);simp only[Prod.mk.injEq]at he;obtain⟨rfl,rfl,rfl⟩:=he;go_wp2_with fail;refine bodyPost_ret (zp rfl _ _ w.heap.size 172 #[.int .i64 N,.string (t.extract 0 1),.bool true] (0,0) _ rfl (yk _ _ _) Tryz.underlying172 (by kernel_rfl) (by kernel_rfl)) rfl ?_;exact⟨rfl,y6 H.out _ _⟩
    ·have v4:¬(x:Int)≤57343:=by omega
     have he:=HG.out (by omega);simp only[Prod.mk.injEq]at he;obtain⟨rfl,rfl,rfl⟩:=he;go_wp2_with fail;refine bodyPost_ret (zp rfl _ _ w.heap.size 172 #[.int .i64 N,.string (t.extract 0 2),.bool false] (0,0) _ rfl (yk _ _ _) Tryz.underlying172 (by kernel_rfl) (by kernel_rfl)) rfl ?_;exact⟨rfl,y6 H.out _ _⟩
   ·by_cases hno:55296 < 128
    ·exfalso;omega
    have v3:¬(55296:Int)≤x:=by omega
    have he:=HG.out (by omega);simp only[Prod.mk.injEq]at he;obtain⟨rfl,rfl,rfl⟩:=he;go_wp2_with fail;refine bodyPost_ret (zp rfl _ _ w.heap.size 172 #[.int .i64 N,.string (t.extract 0 2),.bool false] (0,0) _ rfl (yk _ _ _) Tryz.underlying172 (by kernel_rfl) (by kernel_rfl)) rfl ?_;exact⟨rfl,y6 H.out _ _⟩
theorem one_k3 {W w:World} {I:Nat→Option Obj} {L:List (Nat × Obj)} (t:ByteArray) (hz:0 < t.size) (hm:t.size≤140737488355328) (h1:224≤(t.get! 0).toNat) (h2:(t.get! 0).toNat < 240) (h:St W w I L) :
  Calls Tryz.prog 124 #[.string t] w fun e w'=>e=.returned (.agg #[.int .i64 (y9 t).1,.string (t.extract 0 (y9 t).2.1),.bool (y9 t).2.2])∧St W w' I L:=by
 have hz1:(1:Int)≤(t.size:Int):=by omega
 have ha:=(t.get! 0).toNat_lt
 have hA:(t[0]'hz).toNat=(t.get! 0).toNat:=by rw[ug t 0 hz]
 have hK:Kd (t.get! 0).toNat 3 224 2048:=.inr (.inl ⟨h1,h2,rfl,rfl,rfl⟩)
 have hS:=fun h=>zaz (t:=t) hK h
 have hC:=fun j x y z=>za9 (t:=t) hK j x y z
 have hFi:=fun x y=>one_fin (t:=t) hK x y
 obtain⟨N,wd,br,hR⟩:∃N wd br,y9 t=(N,wd,br):=⟨_,_,_,rfl⟩;rw[hR]at hS hC hFi ⊢;have hacc1:accV t 224 1=(t.get! 0).toNat-224:=rfl;obtain⟨a,haa⟩:∃a,(t.get! 0).toNat=a:=⟨_,rfl⟩;rw[haa]at h1 h2 ha hA hS hC hFi hacc1
 have h1':¬(a:Int) < 128:=by omega
 have h2':(a:Int) < 256:=by omega
 have h3':(0:Int)≤a:=by omega
 have q1:(194:Int)≤a:=by omega
 have q4:¬(a:Int) < 224:=by omega
 have q2:(224:Int)≤a:=by omega
 have q5: (a:Int) < 240:=by omega
 have hacc1':(a:Int)-224=(accV t 224 1:Nat):=by omega
 have hbd:(t.get! 0).toNat-224≤31:=by omega
 have H:=za h;have HC:=za hC;have HFI:=za hFi;have HS:=za hS;clear h hR hK hC hFi hS haa hacc1
 go_enter Tryz.func124,Tryz.ntmps124
 by_cases hsz:t.size < 3
 ·have hsz':(t.size:Int) < 3:=by omega
  have he:=HS.out hsz;simp only[Prod.mk.injEq]at he;obtain⟨rfl,rfl,rfl⟩:=he;go_wp2_with fail;refine bodyPost_ret (zp rfl _ _ w.heap.size 172 #[.int .i64 N,.string (t.extract 0 1),.bool true] (0,0) _ rfl (yk _ _ _) Tryz.underlying172 (by kernel_rfl) (by kernel_rfl)) rfl ?_;exact⟨rfl,y6 H.out _ _⟩
 have hsz':¬(t.size:Int) < 3:=by omega
 go_wp2_with fail
 go_loopw [6,8] (fun n i wr=>∃k:Nat,n=.int .i64 (accV t 224 k:Nat)∧i=.int .i64 (k:Nat)∧1≤k∧k≤3∧(∀j,1≤j→j < k→contB (t.get! j).toNat)∧wr=(w.alloc (.cells #[.int .i64 0,.string ⟨#[]⟩,.bool false] 172)).alloc (.cells #[.int .i64 a,.string (t.extract 0 1),.bool true] 172)) (fun n i _=>match i with | .int _ z=>3-z.toNat|_=>0)
 case atStart=>exact⟨1,rfl,rfl,by omega,by omega,fun j _ _=>by omega,rfl⟩
 case round=>
  obtain⟨k,rfl,rfl,hk1,hk2,hcs,rfl⟩:=hrel;have hb4:=accV_le t 224 hbd k hk1 (by omega);have hb3:=zac t 224 hbd k hk1
  have hsu:∀c,(t.get! k).toNat=c→accV t 224 (k+1)=64*accV t 224 k+c-128:=fun c hc=>by
   obtain⟨j,rfl⟩:∃j,k=j+1:=⟨k-1,by omega⟩;rw[←hc];rfl
  have HCS:=za hcs;have HSU:=za hsu;have HBD:=za hbd;clear hcs hsu hbd
  by_cases hks:k < 3
  ·have hkt:k < t.size:=by omega
   obtain⟨c,hc⟩:∃c,(t.get! k).toNat=c:=⟨_,rfl⟩;have hc256:=(t.get! k).toNat_lt
   have hcw:(t[k]'hkt).toNat=c:=by rw[←hc,ug t k hkt]
   rw[hc]at hc256;have hb3':=hb3 (by omega);have hCk:=za (HC.out k hk1 hks);have HSUk:=za (HSU.out c hc);have HEc:=za hc
   have w1:(0:Int)≤c:=by omega
   have w2:(c:Int) < 256:=by omega
   have w3:(0:Int)≤(accV t 224 k:Nat):=by omega
   have w4:((accV t 224 k:Nat):Int)≤135231:=by omega
   have w5:(k:Int) < 3:=by omega
   clear hc HSU hb3 hb3' hb4
   by_cases hc1:c < 128
   ·have w6:(c:Int) < 128:=by omega
    have he:=hCk.out (by rw[HEc.out];unfold contB;omega);simp only[Prod.mk.injEq]at he;obtain⟨rfl,rfl,rfl⟩:=he;go_wp2_with fail;refine bodyPost_ret (zp rfl _ _ w.heap.size 172 #[.int .i64 N,.string (t.extract 0 1),.bool true] (0,0) _ rfl (yk _ _ _) Tryz.underlying172 (by kernel_rfl) (by kernel_rfl)) rfl ?_;exact⟨rfl,y6 H.out _ _⟩
   have w6:¬(c:Int) < 128:=by omega
   by_cases hc2:191 < c
   ·have w7:(191:Int) < c:=by omega
    have he:=hCk.out (by rw[HEc.out];unfold contB;omega);simp only[Prod.mk.injEq]at he;obtain⟨rfl,rfl,rfl⟩:=he;go_wp2_with fail;refine bodyPost_ret (zp rfl _ _ w.heap.size 172 #[.int .i64 N,.string (t.extract 0 1),.bool true] (0,0) _ rfl (yk _ _ _) Tryz.underlying172 (by kernel_rfl) (by kernel_rfl)) rfl ?_;exact⟨rfl,y6 H.out _ _⟩
   have w7:¬(191:Int) < c:=by omega
   go_wp2_with fail
   go_roundw
   case rel=>
    refine⟨k+1,?_,by simp,by omega,by omega,fun j h1 h2=>?_,by trivial⟩
    ·rw[HSUk.out];congr 1;omega
    ·by_cases hj:j < k
     ·exact HCS.out j h1 hj
     ·obtain rfl:j=k:=by omega
      rw[HEc.out];unfold contB;omega
   case measure=>simp only[];omega
  ·obtain rfl:k=3:=by omega
   obtain⟨hbad,hgood⟩:=HFI.out (by omega) HCS.out;clear HSU HC hb3 HCS;generalize accV t 224 3=x at *;have HB:=za hbad;have HG:=za hgood;clear hbad hgood
   have w3:(0:Int)≤(x:Int):=by omega
   have w4:(x:Int)≤8654911:=by omega
   by_cases x1:x < 2048
   ·have v1:(x:Int) < 2048:=by omega
    have he:=HB.out (by omega);simp only[Prod.mk.injEq]at he;obtain⟨rfl,rfl,rfl⟩:=he;go_wp2_with fail;refine bodyPost_ret (zp rfl _ _ w.heap.size 172 #[.int .i64 N,.string (t.extract 0 1),.bool true] (0,0) _ rfl (yk _ _ _) Tryz.underlying172 (by kernel_rfl) (by kernel_rfl)) rfl ?_;exact⟨rfl,y6 H.out _ _⟩
   have v1:¬(x:Int) < 2048:=by omega
   by_cases x2:1114111 < x
   ·have v2:(1114111:Int) < x:=by omega
    have he:=HB.out (by omega);simp only[Prod.mk.injEq]at he;obtain⟨rfl,rfl,rfl⟩:=he;go_wp2_with fail;refine bodyPost_ret (zp rfl _ _ w.heap.size 172 #[.int .i64 N,.string (t.extract 0 1),.bool true] (0,0) _ rfl (yk _ _ _) Tryz.underlying172 (by kernel_rfl) (by kernel_rfl)) rfl ?_;exact⟨rfl,y6 H.out _ _⟩
   have v2:¬(1114111:Int) < x:=by omega
   by_cases x3:55296≤x
   ·have v3:(55296:Int)≤x:=by omega
    by_cases x4:x≤57343
    ·by_cases hno:57343 < 2048
     ·exfalso;omega
     have hno2:2048≤57343:=by omega
     clear hno
     have v4:(x:Int)≤57343:=by omega
     have he:=HB.out (by omega);simp only[Prod.mk.injEq]at he;obtain⟨rfl,rfl,rfl⟩:=he;go_wp2_with fail;refine bodyPost_ret (zp rfl _ _ w.heap.size 172 #[.int .i64 N,.string (t.extract 0 1),.bool true] (0,0) _ rfl (yk _ _ _) Tryz.underlying172 (by kernel_rfl) (by kernel_rfl)) rfl ?_;exact⟨rfl,y6 H.out _ _⟩
    ·have v4:¬(x:Int)≤57343:=by omega
     have he:=HG.out (by omega);simp only[Prod.mk.injEq]at he;obtain⟨rfl,rfl,rfl⟩:=he;go_wp2_with fail;refine bodyPost_ret (zp rfl _ _ w.heap.size 172 #[.int .i64 N,.string (t.extract 0 3),.bool false] (0,0) _ rfl (yk _ _ _) Tryz.underlying172 (by kernel_rfl) (by kernel_rfl)) rfl ?_;exact⟨rfl,y6 H.out _ _⟩
   ·by_cases hno:55296 < 2048
    ·exfalso;omega
    have v3:¬(55296:Int)≤x:=by omega
    have he:=HG.out (by omega);simp only[Prod.mk.injEq]at he;obtain⟨rfl,rfl,rfl⟩:=he;go_wp2_with fail;refine bodyPost_ret (zp rfl _ _ w.heap.size 172 #[.int .i64 N,.string (t.extract 0 3),.bool false] (0,0) _ rfl (yk _ _ _) Tryz.underlying172 (by kernel_rfl) (by kernel_rfl)) rfl ?_;exact⟨rfl,y6 H.out _ _⟩
theorem one_k4 {W w:World} {I:Nat→Option Obj} {L:List (Nat × Obj)} (t:ByteArray) (hz:0 < t.size) (hm:t.size≤140737488355328) (h1:240≤(t.get! 0).toNat) (h2:(t.get! 0).toNat < 245) (h:St W w I L) :
  Calls Tryz.prog 124 #[.string t] w fun e w'=>e=.returned (.agg #[.int .i64 (y9 t).1,.string (t.extract 0 (y9 t).2.1),.bool (y9 t).2.2])∧St W w' I L:=by
 have hz1:(1:Int)≤(t.size:Int):=by omega
 have ha:=(t.get! 0).toNat_lt
 have hA:(t[0]'hz).toNat=(t.get! 0).toNat:=by rw[ug t 0 hz]
 have hK:Kd (t.get! 0).toNat 4 240 65536:=.inr (.inr ⟨h1,h2,rfl,rfl,rfl⟩)
 have hS:=fun h=>zaz (t:=t) hK h
 have hC:=fun j x y z=>za9 (t:=t) hK j x y z
 have hFi:=fun x y=>one_fin (t:=t) hK x y
 obtain⟨N,wd,br,hR⟩:∃N wd br,y9 t=(N,wd,br):=⟨_,_,_,rfl⟩;rw[hR]at hS hC hFi ⊢;have hacc1:accV t 240 1=(t.get! 0).toNat-240:=rfl;obtain⟨a,haa⟩:∃a,(t.get! 0).toNat=a:=⟨_,rfl⟩;rw[haa]at h1 h2 ha hA hS hC hFi hacc1
 have h1':¬(a:Int) < 128:=by omega
 have h2':(a:Int) < 256:=by omega
 have h3':(0:Int)≤a:=by omega
 have q1:(194:Int)≤a:=by omega
 have q4:¬(a:Int) < 224:=by omega
 have q2:(224:Int)≤a:=by omega
 have q5:¬(a:Int) < 240:=by omega
 have q3:(240:Int)≤a:=by omega
 have q6:(a:Int) < 245:=by omega
 have hacc1':(a:Int)-240=(accV t 240 1:Nat):=by omega
 have hbd:(t.get! 0).toNat-240≤31:=by omega
 have H:=za h;have HC:=za hC;have HFI:=za hFi;have HS:=za hS;clear h hR hK hC hFi hS haa hacc1
 go_enter Tryz.func124,Tryz.ntmps124
 by_cases hsz:t.size < 4
 ·have hsz':(t.size:Int) < 4:=by omega
  have he:=HS.out hsz;simp only[Prod.mk.injEq]at he;obtain⟨rfl,rfl,rfl⟩:=he;go_wp2_with fail;refine bodyPost_ret (zp rfl _ _ w.heap.size 172 #[.int .i64 N,.string (t.extract 0 1),.bool true] (0,0) _ rfl (yk _ _ _) Tryz.underlying172 (by kernel_rfl) (by kernel_rfl)) rfl ?_;exact⟨rfl,y6 H.out _ _⟩
 have hsz':¬(t.size:Int) < 4:=by omega
 go_wp2_with fail
 go_loopw [6,8] (fun n i wr=>∃k:Nat,n=.int .i64 (accV t 240 k:Nat)∧i=.int .i64 (k:Nat)∧1≤k∧k≤4∧(∀j,1≤j→j < k→contB (t.get! j).toNat)∧wr=(w.alloc (.cells #[.int .i64 0,.string ⟨#[]⟩,.bool false] 172)).alloc (.cells #[.int .i64 a,.string (t.extract 0 1),.bool true] 172)) (fun n i _=>match i with | .int _ z=>4-z.toNat|_=>0)
 case atStart=>exact⟨1,rfl,rfl,by omega,by omega,fun j _ _=>by omega,rfl⟩
 case round=>
  obtain⟨k,rfl,rfl,hk1,hk2,hcs,rfl⟩:=hrel;have hb4:=accV_le t 240 hbd k hk1 (by omega);have hb3:=zac t 240 hbd k hk1
  have hsu:∀c,(t.get! k).toNat=c→accV t 240 (k+1)=64*accV t 240 k+c-128:=fun c hc=>by
   obtain⟨j,rfl⟩:∃j,k=j+1:=⟨k-1,by omega⟩;rw[←hc];rfl
  have HCS:=za hcs;have HSU:=za hsu;have HBD:=za hbd;clear hcs hsu hbd
  by_cases hks:k < 4
  ·have hkt:k < t.size:=by omega
   obtain⟨c,hc⟩:∃c,(t.get! k).toNat=c:=⟨_,rfl⟩;have hc256:=(t.get! k).toNat_lt
   have hcw:(t[k]'hkt).toNat=c:=by rw[←hc,ug t k hkt]
   rw[hc]at hc256;have hb3':=hb3 (by omega);have hCk:=za (HC.out k hk1 hks);have HSUk:=za (HSU.out c hc);have HEc:=za hc
   have w1:(0:Int)≤c:=by omega
   have w2:(c:Int) < 256:=by omega
   have w3:(0:Int)≤(accV t 240 k:Nat):=by omega
   have w4:((accV t 240 k:Nat):Int)≤135231:=by omega
   have w5:(k:Int) < 4:=by omega
   clear hc HSU hb3 hb3' hb4
   by_cases hc1:c < 128
   ·have w6:(c:Int) < 128:=by omega
    have he:=hCk.out (by rw[HEc.out];unfold contB;omega);simp only[Prod.mk.injEq]at he;obtain⟨rfl,rfl,rfl⟩:=he;go_wp2_with fail;refine bodyPost_ret (zp rfl _ _ w.heap.size 172 #[.int .i64 N,.string (t.extract 0 1),.bool true] (0,0) _ rfl (yk _ _ _) Tryz.underlying172 (by kernel_rfl) (by kernel_rfl)) rfl ?_;exact⟨rfl,y6 H.out _ _⟩
   have w6:¬(c:Int) < 128:=by omega
   by_cases hc2:191 < c
   ·have w7:(191:Int) < c:=by omega
    have he:=hCk.out (by rw[HEc.out];unfold contB;omega);simp only[Prod.mk.injEq]at he;obtain⟨rfl,rfl,rfl⟩:=he;go_wp2_with fail;refine bodyPost_ret (zp rfl _ _ w.heap.size 172 #[.int .i64 N,.string (t.extract 0 1),.bool true] (0,0) _ rfl (yk _ _ _) Tryz.underlying172 (by kernel_rfl) (by kernel_rfl)) rfl ?_;exact⟨rfl,y6 H.out _ _⟩
   have w7:¬(191:Int) < c:=by omega
   go_wp2_with fail
   go_roundw
   case rel=>
    refine⟨k+1,?_,by simp,by omega,by omega,fun j h1 h2=>?_,by trivial⟩
    ·rw[HSUk.out];congr 1;omega
    ·by_cases hj:j < k
     ·exact HCS.out j h1 hj
     ·obtain rfl:j=k:=by omega
      rw[HEc.out];unfold contB;omega
   case measure=>simp only[];omega
  ·obtain rfl:k=4:=by omega
   obtain⟨hbad,hgood⟩:=HFI.out (by omega) HCS.out;clear HSU HC hb3 HCS;generalize accV t 240 4=x at *;have HB:=za hbad;have HG:=za hgood;clear hbad hgood
   have w3:(0:Int)≤(x:Int):=by omega
   have w4:(x:Int)≤8654911:=by omega
   by_cases x1:x < 65536
   ·have v1:(x:Int) < 65536:=by omega
    have he:=HB.out (by omega);simp only[Prod.mk.injEq]at he;obtain⟨rfl,rfl,rfl⟩:=he;go_wp2_with fail;refine bodyPost_ret (zp rfl _ _ w.heap.size 172 #[.int .i64 N,.string (t.extract 0 1),.bool true] (0,0) _ rfl (yk _ _ _) Tryz.underlying172 (by kernel_rfl) (by kernel_rfl)) rfl ?_;exact⟨rfl,y6 H.out _ _⟩
   have v1:¬(x:Int) < 65536:=by omega
   by_cases x2:1114111 < x
   ·have v2:(1114111:Int) < x:=by omega
    have he:=HB.out (by omega);simp only[Prod.mk.injEq]at he;obtain⟨rfl,rfl,rfl⟩:=he;go_wp2_with fail;refine bodyPost_ret (zp rfl _ _ w.heap.size 172 #[.int .i64 N,.string (t.extract 0 1),.bool true] (0,0) _ rfl (yk _ _ _) Tryz.underlying172 (by kernel_rfl) (by kernel_rfl)) rfl ?_;exact⟨rfl,y6 H.out _ _⟩
   have v2:¬(1114111:Int) < x:=by omega
   by_cases x3:55296≤x
   ·have v3:(55296:Int)≤x:=by omega
    by_cases x4:x≤57343
    ·by_cases hno:57343 < 65536
     ·exfalso;omega
     exfalso;exact hno (by decide)
    ·have v4:¬(x:Int)≤57343:=by omega
     have he:=HG.out (by omega);simp only[Prod.mk.injEq]at he;obtain⟨rfl,rfl,rfl⟩:=he;go_wp2_with fail;refine bodyPost_ret (zp rfl _ _ w.heap.size 172 #[.int .i64 N,.string (t.extract 0 4),.bool false] (0,0) _ rfl (yk _ _ _) Tryz.underlying172 (by kernel_rfl) (by kernel_rfl)) rfl ?_;exact⟨rfl,y6 H.out _ _⟩
   ·by_cases hno:55296 < 65536
    ·exfalso;omega
    exfalso;exact hno (by decide)
end

section
set_option linter.unusedVariables false
set_option linter.unusedSimpArgs false
open Go.RowKit Go.Lib
theorem Src.new (w:World) (cs:Array Value) (t:TypeId):Src (w.alloc (.cells cs t)) 1 (some ⟨w.heap.size,0,none⟩) cs.size cs.toList:=by
 refine⟨by simp,fun j u hj=>⟨_,rfl,?_⟩⟩;rw[show(⟨w.heap.size,0,none⟩:Addr).add j=⟨w.heap.size,j,none⟩ by unfold Addr.add;split<;>simp_all,cell_of_row _ w.heap.size j cs t (0,0) (heap_alloc_new w _)]
 simpa using hj
theorem Src.new' (w:World) (cs:Array Value) (t:TypeId) {b:Nat} (hb:w.heap.size=b) (n:Nat) (hn:cs.size=n):Src (w.alloc (.cells cs t)) 1 (some ⟨b,0,none⟩) n cs.toList:=by
 subst hb;subst hn;exact Src.new w cs t
theorem one_any {W w:World} {I:Nat→Option Obj} {L:List (Nat × Obj)} (t:ByteArray) (hz:0 < t.size) (hm:t.size≤140737488355328) (h:St W w I L) :
  Calls Tryz.prog 124 #[.string t] w fun e w'=>e=.returned (.agg #[.int .i64 (y9 t).1,.string (t.extract 0 (y9 t).2.1),.bool (y9 t).2.2])∧St W w' I L:=by
 by_cases h1:(t.get! 0).toNat < 128
 ·exact one_a t hz hm h1 h
 by_cases h2:(t.get! 0).toNat < 194
 ·exact one_o t hz hm (by omega) (.inl h2) h
 by_cases h3:(t.get! 0).toNat < 224
 ·exact one_k2 t hz hm (by omega) h3 h
 by_cases h4:(t.get! 0).toNat < 240
 ·exact one_k3 t hz hm (by omega) h4 h
 by_cases h5:(t.get! 0).toNat < 245
 ·exact one_k4 t hz hm (by omega) h5 h
 exact one_o t hz hm (by omega) (.inr (by omega)) h
theorem refOne_at (s:ByteArray) (pos:Nat) (hp:pos < s.size):y9 (k9 s pos)=(refNumber s pos,(Utf8.decode s pos).2,brokenAt s pos):=by
 have hd:=u7 s pos hp;have hb:=broken_tail s pos hp;unfold y9 refNumber;rw[hd,hb]
 cases hbr:brokenAt s pos with
 | true=>
  have h2:(Utf8.decode s pos).2=1:=by
   unfold brokenAt at hbr;simp only[Bool.and_eq_true,beq_iff_eq]at hbr;exact hbr.2
  rw[h2,if_pos rfl,if_pos rfl,tailOf_get s pos 0 (by omega),Nat.add_zero]
 | false=>rfl
theorem tail_bytes (s:ByteArray) (pos k:Nat) (h:pos+k≤s.size):(k9 s pos).extract 0 k=s.extract pos (pos+k):=by
 apply ByteArray.ext;simp only[k9,ByteArray.data_extract,Array.extract_extract]
 congr 1
 have:s.data.size=s.size:=rfl
 omega
def rcell (s:ByteArray) (pos:Nat):List Value:=[.int .i64 (refNumber s pos:Nat),.string (refBytes s pos),.bool (brokenAt s pos)]
def rall (s:ByteArray) (l:List Nat):List Value:=l.flatMap (rcell s)
theorem rall_add (s:ByteArray) (l:List Nat) (p:Nat):rall s (l++[p])=rall s l++rcell s p:=by simp[rall]
theorem tail_nil (s:ByteArray) (pos:Nat) (h:¬pos < s.size):k9 s pos=⟨#[]⟩:=by
 apply ByteArray.ext;simp only[k9,ByteArray.data_extract];have:s.data.size=s.size:=rfl;rw[Array.extract_empty_of_stop_le_start (by omega)]
theorem toList_empty_false (t:ByteArray) (h:t.size≠0):t.toList.isEmpty=false:=by
 rw[ByteArray.toList_eq]
 cases hl:t.data.toList with
 | nil=>
  have h2:t.data.toList.length=0:=by rw[hl];rfl
  exact absurd (by simpa using h2) h
 | cons x l=>rfl
theorem toList_empty_true:(⟨#[]⟩:ByteArray).toList.isEmpty=true:=by rw[ByteArray.toList_eq];rfl
theorem Src.newS (w:World) (size:Nat) (cs:Array Value) (t:TypeId) {b:Nat} (hb:w.heap.size=b) (n:Nat) (hn:cs.size=n*size):Src (w.alloc (.cells cs t)) size (some ⟨b,0,none⟩) n cs.toList:=by
 subst hb;have h:=Src.new w cs t;exact⟨by simpa using hn,h.2⟩
theorem tail_zero (s:ByteArray):k9 s 0=s:=by
 apply ByteArray.ext;simp only[k9,ByteArray.data_extract];have:s.data.size=s.size:=rfl;rw[←this,Array.extract_size]
theorem runes_any {W w:World} {I:Nat→Option Obj} {L:List (Nat × Obj)} (s:ByteArray) (hm:s.size≤1000000000) (h:St W w I L) :
  Calls Tryz.prog 106 #[.string s] w fun e w'=>∃A c L',e=.returned (.slice A (runesOf s).length c)∧Row 172 3 (.slice A (runesOf s).length c) (runesOf s).length (rall s (runesOf s)) L'∧St W w' I (L'++L):=by
 have h1:=h.alloc (.cells #[] 172);have hr0:=Row.empty 172 3 w.heap.size;have H1:=za h1;have HR0:=za hr0;clear h h1 hr0
 go_enter Tryz.func106,Tryz.ntmps106
 go_wp2_with fail
 go_loopw [0,3] (fun t v wr=>∃(fuel pos:Nat) (don:List Nat) (A:Option Addr) (c:Nat) (L':List (Nat × Obj)),t=.string (k9 s pos)∧v=.slice A don.length c∧runesOf s=don++y4 s fuel pos∧s.size≤pos+fuel∧pos≤s.size∧don.length≤pos∧Row 172 3 (.slice A don.length c) don.length (rall s don) L'∧St W wr I (L'++L)) (fun t _ _=>match t with | .string b=>b.size|_=>0)
 case atStart=>exact⟨s.size,0,[],_,0,_,by rw[tail_zero],rfl,rfl,by omega,by omega,by simp,HR0.out,H1.out⟩
 case round=>
  obtain⟨fuel,pos,don,A,c,L',rfl,rfl,hro,hfu,hps,hdl,hrow,hst⟩:=hrel;clear H1 HR0
  by_cases hp:pos < s.size
  ·have htz:(k9 s pos).size≠0:=by rw[jz];omega
   have hne:=toList_empty_false _ htz;have hone:=refOne_at s pos hp;have hwd:=Lib.width_pos s pos;have hwl:=width_le s pos hp
   have hcO:=fun(v:World) (hv:St W v I (L'++L))=>one_any (k9 s pos) (by omega) (by rw[jz];omega) hv
   rw[hone,tail_bytes s pos _ hwl]at hcO;obtain⟨f,rfl⟩:∃f,fuel=f+1:=⟨fuel-1,by omega⟩;rw[jd s f pos hp]at hro
   have hro2:runesOf s=(don++[pos])++y4 s f (pos+(Utf8.decode s pos).2):=by rw[hro];simp
   have hrc:rcell s pos=[.int .i64 (refNumber s pos:Nat),.string (refBytes s pos),.bool (brokenAt s pos)]:=rfl;have hrb:refBytes s pos=s.extract pos (pos+(Utf8.decode s pos).2):=rfl;rw[←hrb]at hcO
   have hbz:(refBytes s pos).size=(Utf8.decode s pos).2:=by rw[hrb,ByteArray.size_extract];omega
   have htt:=tail_tail s pos _ hwl;generalize (Utf8.decode s pos).2=k at *;generalize hTE:k9 s pos=te at *
   have htes:te.size=s.size-pos:=by rw[←hTE,jz]
   have hks:k≤te.size:=by omega
   generalize refNumber s pos=rn at *;generalize hRB:refBytes s pos=rb at *;generalize brokenAt s pos=rbr at *
   have hrbz:(rb.size:Int)=(k:Int):=by omega
   have HRO:=za hro2;have HRC:=za hrc;have HRW:=za hrow;have HST:=za hst;have HO:=za hcO;have HTT:=za htt;have HTES:=za htes;have HBZ:=za hbz;clear hro hro2 hrc hrow hst hcO htt hone hrb hRB hTE hbz htz htes
   go_wp2_with (at_builtin;refine Hid.out ?_)
   refine(HO.out _ HST.out).mono ?_;rintro e w1 ⟨rfl,h2⟩;have H2:=za h2;clear h2 HO HST
   go_wp2_with (at_builtin;refine Hid.out ?_)
   refine za ?_;refine z8 (F:=(w1.heap.size,.cells #[.int .i64 rn,.string rb,.bool rbr] 172 (0,0))::L) (L:=L') rfl (.tmp 10) (.tmp 12) 169 rfl 172 (.agg #[.int .i64 0,.string ⟨#[]⟩,.bool false]) 3 32 Tryz.underlying169 (by kernel_rfl) rfl (by omega) rfl HRW.out (St.alloc_ (((H2.out.alloc _).perm List.perm_middle.symm)) _) rfl (Src.newS (w1.alloc (.cells #[.int .i64 rn,.string rb,.bool rbr] 172)) 3 #[.int .i64 rn,.string rb,.bool rbr] 172 (by simp) 1 rfl) (by intro u hu;simp at hu;rcases hu with rfl|rfl|rfl<;>rfl) (don++[pos]).length (by simp) (rall s (don++[pos])) (by rw[rall_add,HRC.out]) (by simp;unfold maxLen;omega) (by simp;omega) ?_;intro A1 c1 w2 L1 hr1 h3 ho
   have hg:w2.cell? ⟨w1.heap.size,1,none⟩=some (.string rb):=by
    rw[h3.cell (g:=w1.heap.size) (cs:=#[.int .i64 rn,.string rb,.bool rbr]) (t:=172) (fr:=(0,0)) (by simp)];rfl
   have H3:=za (St.mid (A:=L1) (B:=[_]) h3);have HR1:=za hr1;have hez:te.extract k te.size=k9 s (pos+k):=HTT.out;have HEZ:=za hez;clear h3 hr1 ho hez;go_wp2_with fail;refine⟨⟨f,pos+k,don++[pos],A1,c1,L1,by rw[HEZ.out],by simp,HRO.out,by omega,by omega,by simp;omega,HR1.out,H3.out⟩,?_⟩
   show(te.extract k te.size).size < te.size
   rw[ByteArray.size_extract]
   omega
  ·have htn:=tail_nil s pos hp
   have htm:=toList_empty_true;rw[htn]
   have hend:runesOf s=don:=by rw[hro,ju s _ _ hp,List.append_nil]
   have HEND:=za hend;have HRW:=za hrow;have HST:=za hst;clear hro hrow hst hend htn;go_wp2_with fail;go_ret;rw[HEND.out];exact⟨_,_,_,rfl,HRW.out,HST.out⟩
end
end Go.Proofs.YtnjnooeldkideaaGreatDoor
