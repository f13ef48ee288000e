/- The assertions over memory that the contracts use. -/
import Derived.WalkKit
import Derived.WalkSpells
import Derived.WalkLawsBesides
import Derived.Deep.QuietTactic
import Derived.BigQuiet
import Derived.Lib.Hide
import Derived.Lib.MinMax
namespace Go.Proofs.YtnjnooeldkideaaGreatDoor
set_option linter.unusedVariables false
set_option linter.unusedSimpArgs false
open Go.RowKit
theorem za {p : Prop} (q : p) : Hid p := Lib.hid q
abbrev zbi : Array Value:=(Value.int .i64 0::.int .i64 0::.int .i64 0::.int .i64 0::.int .i64 0::.int .u64 0::.int .i64 0::.int .u8 0::.int .u8 0::.int .u8 0::.int .u8 0::.int .u8 0::.int .u8 0::.int .u8 0::.int .u8 0::.int .u8 0::.int .u8 0::.int .u8 0::.int .u8 0::.int .u8 0::.int .u8 0::.int .u8 0::.int .u8 0::.int .u8 0::.int .u8 0::.int .u8 0::.int .u8 0::.int .u8 0::.int .u8 0::.int .u8 0::.int .u8 0::.int .u8 0::.int .u8 0::.int .u8 0::.int .u8 0::.int .u8 0::.int .u8 0::.int .u8 0::.int .u8 0::.int .u64 0::[]).toArray
abbrev zbj : Array Value:=(Value.int .i64 0::.int .i64 0::.int .u64 0::.int .i64 0::.int .u8 0::.int .u8 0::.int .u8 0::.int .u8 0::.int .u8 0::.int .u8 0::.int .u8 0::.int .u8 0::.int .u8 0::.int .u8 0::.int .u8 0::.int .u8 0::.int .u8 0::.int .u8 0::.int .u8 0::.int .u8 0::.int .u8 0::.int .u8 0::.int .u8 0::.int .u8 0::.int .u8 0::.int .u8 0::.int .u8 0::.int .u8 0::.int .u8 0::.int .u8 0::.int .u8 0::.int .u8 0::.int .u8 0::.int .u8 0::.int .u8 0::.int .u8 0::[]).toArray
abbrev zbk : Array Value:=#[.int .i64 0,.int .i64 0,.int .u64 0,.int .i64 0,.int .u8 0,.int .u8 0,.int .u8 0,.int .u8 0,.int .u8 0,.int .u8 0,.int .u8 0,.int .u8 0,.int .u8 0,.int .u8 0,.int .u8 0,.int .u8 0,.int .u8 0,.int .u8 0,.int .u8 0,.int .u8 0,.int .u8 0,.int .u8 0,.int .u8 0,.int .u8 0,.int .u8 0,.int .u8 0,.int .u8 0,.int .u8 0,.int .u8 0,.int .u8 0,.int .u8 0,.int .u8 0,.int .u8 0,.int .u8 0,.int .u8 0,.int .u8 0]
structure St (W w:World) (I:Nat→Option Obj) (L:List (Nat × Obj)):Prop where
 os:w.os=W.os
 tape:w.tape=W.tape
 output:w.output=W.output
 own:∀p∈L,w.heap[p.1]?=some p.2
 nodup:(L.map (·.1)).Nodup
 imm:∀b o,I b=some o→w.heap[b]?=some o
 apart:∀p∈L,I p.1=none
def Le (I J:Nat→Option Obj):Prop:=∀b o,I b=some o→J b=some o
theorem Le.refl (I:Nat→Option Obj):Le I I:=fun _ _ h=>h
theorem Le.trans {I J K:Nat→Option Obj} (h:Le I J) (k:Le J K):Le I K:=fun b o x=>k b o (h b o x)
section
variable {W w:World} {I:Nat→Option Obj} {L:List (Nat × Obj)}
theorem St.start (w:World):St w w (fun b=>w.heap[b]?) []:=
 ⟨rfl,rfl,rfl,by simp,by simp,fun _ _ h=>h,by simp⟩
theorem St.below {J:Nat→Option Obj} {L:List (Nat × Obj)} (h:St W w J L) (hle:Le (fun b=>W.heap[b]?) J):Below W.heap.size W w:=
 ⟨h.os,h.tape,h.output,by
  rcases Nat.eq_zero_or_pos W.heap.size with h0|h0
  ·omega
  ·have h1:W.heap[W.heap.size-1]?=some (W.heap[W.heap.size-1]'(by omega)):=Array.getElem?_eq_getElem _
   have h2:=h.imm _ _ (hle _ _ h1);have:=(Array.getElem?_eq_some_iff.1 h2).1
   omega,
  fun k hk=>by
   have h1:W.heap[k]?=some (W.heap[k]'hk):=Array.getElem?_eq_getElem _;rw[h1]
   exact h.imm _ _ (hle _ _ h1)⟩
theorem St.drew (h:St W w I L) (n:Nat):St W (w.drewN n) I L:=⟨h.os,h.tape,h.output,h.own,h.nodup,h.imm,h.apart⟩
theorem St.drew1 (h:St W w I L):St W w.drew I L:=⟨h.os,h.tape,h.output,h.own,h.nodup,h.imm,h.apart⟩
theorem St.lt (h:St W w I L) {p:Nat × Obj} (hp:p∈L):p.1 < w.heap.size:=(Array.getElem?_eq_some_iff.1 (h.own p hp)).1
theorem St.perm {L':List (Nat × Obj)} (h:St W w I L) (hp:L.Perm L'):St W w I L':=
 ⟨h.os,h.tape,h.output,fun p m=>h.own p (hp.mem_iff.2 m),(hp.map _).nodup_iff.1 h.nodup,h.imm,fun p m=>h.apart p (hp.mem_iff.2 m)⟩
theorem St.weaken {A B:List (Nat × Obj)} (h:St W w I (A++B)):St W w I B:=
 ⟨h.os,h.tape,h.output,fun p m=>h.own p (List.mem_append.2 (.inr m)),by
  have:=h.nodup;rw[List.map_append,List.nodup_append]at this
  exact this.2.1,h.imm,fun p m=>h.apart p (List.mem_append.2 (.inr m))⟩
theorem St.swap {A B F:List (Nat × Obj)} (h:St W w I (A++(B++F))):St W w I (B++(A++F)):=
 h.perm (by rw[←List.append_assoc,←List.append_assoc];exact List.Perm.append_right F List.perm_append_comm)
theorem St.mid {A B F:List (Nat × Obj)} (h:St W w I (A++(B++F))):St W w I (A++F):=h.swap.weaken
theorem St.alloc (h:St W w I L) (o:Obj):St W (w.alloc o) I ((w.heap.size,o)::L):=by
 have hlt:∀p∈L,p.1 < w.heap.size:=fun p hp=>h.lt hp
 have hI:∀b o,I b=some o→b < w.heap.size:=fun b o hb=>(Array.getElem?_eq_some_iff.1 (h.imm b o hb)).1
 refine⟨h.os,h.tape,h.output,?_,?_,?_,?_⟩
 ·intro p hp
  rcases List.mem_cons.1 hp with rfl|hp
  ·exact heap_alloc_new w o
  ·rw[Below.heap_alloc w o p.1 (hlt p hp)];exact h.own p hp
 ·simp only[List.map_cons,List.nodup_cons]
  refine⟨fun hm=>?_,h.nodup⟩;obtain⟨p,hp,he⟩:=List.mem_map.1 hm;have:=hlt p hp
  omega
 ·intro b o' hb
  rw[Below.heap_alloc w o b (hI b o' hb)];exact h.imm b o' hb
 ·intro p hp
  rcases List.mem_cons.1 hp with rfl|hp
  ·cases hx:I w.heap.size with
   | none=>rfl
   | some o'=>have:=hI _ _ hx;omega
  ·exact h.apart p hp
theorem St.alloc_ (h:St W w I L) (o:Obj):St W (w.alloc o) I L:=St.weaken (A:=[_]) (h.alloc o)
theorem St.cell (h:St W w I L) {g:Nat} {cs:Array Value} {t:TypeId} {fr:Nat × Nat} (hp:(g,Obj.cells cs t fr)∈L) (i:Nat):w.cell? ⟨g,i,none⟩=cs[i]?:=
 cell_of_row w g i cs t fr (h.own _ hp)
theorem St.frozen (h:St W w I L) {g:Nat} {cs:Array Value} {t:TypeId} (hp:(g,Obj.cells cs t (0,0))∈L) (i:Nat):w.frozen? ⟨g,i,none⟩=false:=by
 have:=h.own _ hp;simp only at this
 simp[World.frozen?,this]
theorem St.set {A B:List (Nat × Obj)} {g:Nat} {cs:Array Value} {t:TypeId} {fr:Nat × Nat} (h:St W w I (A++(g,.cells cs t fr)::B)) (i:Nat) (u:Value) :
  St W (w.setCell ⟨g,i,none⟩ u) I (A++(g,.cells (cs.setIfInBounds i u) t fr)::B):=by
 have hm:(g,Obj.cells cs t fr)∈A++(g,.cells cs t fr)::B:=by simp
 have hn:=h.nodup;simp only[List.map_append,List.map_cons]at hn
 have hne:∀p∈A++B,p.1≠g:=by
  intro p hp he;rw[List.nodup_append]at hn;obtain⟨_,h2,h3⟩:=hn
  rcases List.mem_append.1 hp with hp|hp
  ·exact h3 p.1 (List.mem_map_of_mem hp) g (by simp) he
  ·simp only[List.nodup_cons]at h2
   exact h2.1 (he ▸ List.mem_map_of_mem hp)
 refine⟨h.os,h.tape,h.output,?_,?_,?_,?_⟩
 ·intro p hp
  rcases List.mem_append.1 hp with hp' | hp'
  ·rw[Below.heap_setCell _ _ _ _ (hne p (by simp[hp']))]
   exact h.own p (by simp[hp'])
  ·rcases List.mem_cons.1 hp' with rfl|hp''
   ·have:=h.own _ hm
    simp only at this
    simp[World.setCell,Array.getElem?_modify,this]
   ·rw[Below.heap_setCell _ _ _ _ (hne p (by simp[hp'']))]
    exact h.own p (by simp[hp''])
 ·simpa using hn
 ·intro b o hb
  have:b≠g:=by
   rintro rfl;have:=h.apart _ hm;simp only at this;rw[this]at hb
   cases hb
  rw[Below.heap_setCell _ _ _ _ this];exact h.imm b o hb
 ·intro p hp
  rcases List.mem_append.1 hp with hp' | hp'
  ·exact h.apart p (by simp[hp'])
  ·rcases List.mem_cons.1 hp' with rfl|hp''
   ·exact h.apart (g,.cells cs t fr) hm
   ·exact h.apart p (by simp[hp''])
theorem St.less {J:Nat→Option Obj} (hle:Le I J) (h:St W w J L):St W w I L:=
 ⟨h.os,h.tape,h.output,h.own,h.nodup,fun b o hb=>h.imm b o (hle b o hb),fun p hp=>by
  cases hx:I p.1 with
  | none=>rfl
  | some o=>have:=hle _ _ hx;rw[h.apart p hp]at this;cases this⟩
theorem St.freeze {g:Nat} {o:Obj} (h:St W w I ((g,o)::L)):∃J,Le I J∧J g=some o∧St W w J L:=by
 refine⟨fun b=>if b=g then some o else I b,?_,by simp,h.os,h.tape,h.output,fun p hp=>h.own p (by simp[hp]),?_,?_,?_⟩
 ·intro b o' hb
  have hg:I g=none:=h.apart (g,o) (by simp)
  have:b≠g:=by rintro rfl;rw[hg]at hb;cases hb
  simp[this,hb]
 ·have:=h.nodup
  simp only[List.map_cons,List.nodup_cons]at this;exact this.2
 ·intro b o' hb
  by_cases hbg:b=g
  ·subst hbg
   simp at hb
   subst hb;exact h.own (b,o) (by simp)
  ·simp[hbg]at hb
   exact h.imm b o' hb
 ·intro p hp
  have hne:p.1≠g:=by
   have:=h.nodup;simp only[List.map_cons,List.nodup_cons]at this
   exact fun e=>this.1 (e ▸ List.mem_map_of_mem hp)
  simp[hne]
  exact h.apart p (by simp[hp])
end
theorem cell_new {w:World} {c:Array Value} {t:TypeId} {n i:Nat} {v:Value} (hn:n=w.heap.size) (h:c[i]?=some v):(w.alloc (.cells c t)).cell? ⟨n,i,none⟩=some v:=by
 rw[World.cell?_alloc_at c t n i hn];exact h
end Go.Proofs.YtnjnooeldkideaaGreatDoor
