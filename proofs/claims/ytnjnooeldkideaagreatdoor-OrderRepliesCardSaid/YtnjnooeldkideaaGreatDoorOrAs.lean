/- order: what a call is answered. -/
import Derived.Test.YtnjnooeldkideaaGreatDoorMGlyphC
import Derived.Test.YtnjnooeldkideaaGreatDoorMOrI
import Derived.OwnWalk
import Derived.Test.YtnjnooeldkideaaGreatDoorMOrT
namespace Go.Proofs.YtnjnooeldkideaaGreatDoor
set_option maxRecDepth 100000
set_option maxHeartbeats 8000000
set_option linter.unusedVariables false
set_option linter.unusedSimpArgs false
open Go.RowKit Go.Lib Go.Deep
section
variable {W w:World} {J:Nat→Option Obj} {t:Tb} {F:List (Nat × Obj)}
variable {m:Md} {gm:Nat}
theorem o_ask1 {nv:Value} (ok:m.Ok) (c:Cl) (h:St W w J F) (hm:(gm,Obj.cells (m.cells nv) 88 (0,0))∈F) (hk:c.kind=1) (a:An) (hat:a.rep.t.Ok) (kx:∀(v:World) (X:List (Nat × Obj)),St W v J X→(gm,Obj.cells (m.cells nv) 88 (0,0))∈X→(∀p∈F,p∈X)→Calls Tryz.prog 69 #[.pointer (some ⟨gm,0,none⟩),.string c.name] v (OPost W J X a)) :
  Calls Tryz.prog 41 #[.pointer (some ⟨gm,0,none⟩),c.val] w (OPost W J F a):=by
 have h1:=(h.alloc (.cells c.cells 50)).alloc (.cells Tryz.zeroCells96 96);obtain⟨g,hg⟩:∃g,w.heap.size=g:=⟨_,rfl⟩;rw[World.size_alloc,hg]at h1
 have fin:∀(v:World) (A':Option Addr) (c':Nat) (L' D:List (Nat × Obj)),Row 147 40 (.slice A' a.l.length c') a.l.length (cgs a.l) L'→St W v J (D++(L'++F))→OPost W J F a (.returned (.agg (a.cells (.slice A' a.l.length c')))) v:=fun v A' c' L' D hr' hv=>⟨A',c',L',rfl,hr',hv.weaken⟩
 have hmx:(gm,Obj.cells (m.cells nv) 88 (0,0))∈(g+1,Obj.cells Tryz.zeroCells96 96 (0,0))::(g,.cells c.cells 50 (0,0))::F:=List.mem_cons_of_mem _ (List.mem_cons_of_mem _ hm);have md:=h1.md ok hmx;have rk:=md.tb.all;have ti:=z7 ok.known;have m80:=md.live;have m81:=md.slot;have kx1:=kx _ _ h1 hmx (fun p hp=>List.mem_cons_of_mem _ (List.mem_cons_of_mem _ hp));obtain⟨c0,c1,c2,c3,c4⟩:=h1.clf (b:=g) (c:=c) (by simp);unfold Cl.val;unfold OPost at kx1;obtain⟨CT,hCT⟩:∃b,m.known.cells=b:=⟨_,rfl⟩;unfold Tb.val at *;rw[hCT]at rk ti;obtain⟨cl,ck,cs,cj,cn⟩:=c;simp only at hk c0 c1 c2 c3 c4 kx1;subst hk;obtain⟨cc,hcc⟩:∃x,Cl.cells _=x:=⟨(⟨cl,_,cs,cj,cn⟩:Cl).cells,rfl⟩;rw[hcc]at h1 hmx kx1 rk m80 m81 c0 c1 c2 c3 c4 ⊢;have FIN:=za fin;have H1:=za h1;have KX:=za kx1;have HAT:=za hat;have RK:=za rk;have TI:=za ti;clear fin kx kx1 h1 hm hmx h hat md ok rk ti hCT hcc
 go_enter Tryz.func41,Tryz.ntmps41
 go_wp2_with fail;refine KX.out.mono ?_;rintro e w3 ⟨A',c',L',rfl,hr',h2⟩;have h3:=h2.perm (L':=(g+1,.cells Tryz.zeroCells96 96 (0,0))::(g,.cells cc 50 (0,0))::(L'++F)) ze;have rsz:=An.size (a:=a) HAT.out (.slice A' a.l.length c');have rai:=yv (a:=a) HAT.out (.slice A' a.l.length c');have rao:=An.one a (v:=.slice A' a.l.length c') rfl
 have fx:=fun(v:World) (cs:Array Value) (hv:St W v J ((g+1,.cells cs 96 (0,0))::(g,.cells cc 50 (0,0))::(L'++F)))=>FIN.out v A' c' L' [(g+1,.cells cs 96 (0,0)),(g,.cells cc 50 (0,0))] hr' hv
 obtain⟨Q,hQ⟩:∃Q,a.cells (.slice A' a.l.length c')=Q:=⟨_,rfl⟩;rw[hQ]at rsz rai rao fx ⊢
 have rfit:0+Q.size≤Tryz.zeroCells96.size:=by rw[rsz,zan];omega
 have rmany:zg Tryz.zeroCells96 0 Q.toList=Q:=by rw[zd _ _ (by rw[Array.length_toList,rsz,zan]),Array.toArray_toList]
 have RAI:=za rai;have RAO:=za rao;have RFIT:=za rfit;have RMANY:=za rmany;have FX:=za fx;clear rai rao rfit rmany fx hQ rsz;have H3:=za h3;clear h2 h3 hr' KX
 go_wp2_with (with_reducible refine zc rfl 96 (.tmp 4) (.tmp 13) rfl (g:=g+1) (off:=0) Q rfl rfl H3.out RFIT.out RAI.out RAO.out ?_;intro w4 h4;refine Hid.out ?_)
 refine za ?_;rw[RMANY.out]at h4;have HZ:=za h4;clear h4 H3;go_wp2_with fail;refine bodyPost_ret (zp rfl _ _ (g+1) 96 Q (0,0) _ rfl (HZ.out.own (g+1,.cells Q 96 (0,0)) (List.mem_cons_self ..)) Tryz.underlying96 (by kernel_rfl) RAI.out) rfl ?_;exact FX.out _ _ HZ.out
theorem o_ask2 {nv:Value} (ok:m.Ok) (c:Cl) (h:St W w J F) (hm:(gm,Obj.cells (m.cells nv) 88 (0,0))∈F) (hk:c.kind=2) (a:An) (hat:a.rep.t.Ok) (kx:∀(v:World) (X:List (Nat × Obj)),St W v J X→(gm,Obj.cells (m.cells nv) 88 (0,0))∈X→Calls Tryz.prog 70 #[.pointer (some ⟨gm,0,none⟩),.int .i64 c.job] v (OPost W J X a)) :
  Calls Tryz.prog 41 #[.pointer (some ⟨gm,0,none⟩),c.val] w (OPost W J F a):=by
 have h1:=(h.alloc (.cells c.cells 50)).alloc (.cells Tryz.zeroCells96 96);obtain⟨g,hg⟩:∃g,w.heap.size=g:=⟨_,rfl⟩;rw[World.size_alloc,hg]at h1
 have fin:∀(v:World) (A':Option Addr) (c':Nat) (L' D:List (Nat × Obj)),Row 147 40 (.slice A' a.l.length c') a.l.length (cgs a.l) L'→St W v J (D++(L'++F))→OPost W J F a (.returned (.agg (a.cells (.slice A' a.l.length c')))) v:=fun v A' c' L' D hr' hv=>⟨A',c',L',rfl,hr',hv.weaken⟩
 have hmx:(gm,Obj.cells (m.cells nv) 88 (0,0))∈(g+1,Obj.cells Tryz.zeroCells96 96 (0,0))::(g,.cells c.cells 50 (0,0))::F:=List.mem_cons_of_mem _ (List.mem_cons_of_mem _ hm);have md:=h1.md ok hmx;have rk:=md.tb.all;have ti:=z7 ok.known;have m80:=md.live;have m81:=md.slot;have kx1:=kx _ _ h1 hmx;obtain⟨c0,c1,c2,c3,c4⟩:=h1.clf (b:=g) (c:=c) (by simp);unfold Cl.val;unfold OPost at kx1;obtain⟨CT,hCT⟩:∃b,m.known.cells=b:=⟨_,rfl⟩;unfold Tb.val at *;rw[hCT]at rk ti;obtain⟨cl,ck,cs,cj,cn⟩:=c;simp only at hk c0 c1 c2 c3 c4 kx1;subst hk;obtain⟨cc,hcc⟩:∃x,Cl.cells _=x:=⟨(⟨cl,_,cs,cj,cn⟩:Cl).cells,rfl⟩;rw[hcc]at h1 hmx kx1 rk m80 m81 c0 c1 c2 c3 c4 ⊢;have FIN:=za fin;have H1:=za h1;have KX:=za kx1;have HAT:=za hat;have RK:=za rk;have TI:=za ti;clear fin kx kx1 h1 hm hmx h hat md ok rk ti hCT hcc
 go_enter Tryz.func41,Tryz.ntmps41
 go_wp2_with fail;refine KX.out.mono ?_;rintro e w3 ⟨A',c',L',rfl,hr',h2⟩;have h3:=h2.perm (L':=(g+1,.cells Tryz.zeroCells96 96 (0,0))::(g,.cells cc 50 (0,0))::(L'++F)) ze;have rsz:=An.size (a:=a) HAT.out (.slice A' a.l.length c');have rai:=yv (a:=a) HAT.out (.slice A' a.l.length c');have rao:=An.one a (v:=.slice A' a.l.length c') rfl
 have fx:=fun(v:World) (cs:Array Value) (hv:St W v J ((g+1,.cells cs 96 (0,0))::(g,.cells cc 50 (0,0))::(L'++F)))=>FIN.out v A' c' L' [(g+1,.cells cs 96 (0,0)),(g,.cells cc 50 (0,0))] hr' hv
 obtain⟨Q,hQ⟩:∃Q,a.cells (.slice A' a.l.length c')=Q:=⟨_,rfl⟩;rw[hQ]at rsz rai rao fx ⊢
 have rfit:0+Q.size≤Tryz.zeroCells96.size:=by rw[rsz,zan];omega
 have rmany:zg Tryz.zeroCells96 0 Q.toList=Q:=by rw[zd _ _ (by rw[Array.length_toList,rsz,zan]),Array.toArray_toList]
 have RAI:=za rai;have RAO:=za rao;have RFIT:=za rfit;have RMANY:=za rmany;have FX:=za fx;clear rai rao rfit rmany fx hQ rsz;have H3:=za h3;clear h2 h3 hr' KX
 go_wp2_with (with_reducible refine zc rfl 96 (.tmp 4) (.tmp 19) rfl (g:=g+1) (off:=0) Q rfl rfl H3.out RFIT.out RAI.out RAO.out ?_;intro w4 h4;refine Hid.out ?_)
 refine za ?_;rw[RMANY.out]at h4;have HZ:=za h4;clear h4 H3;go_wp2_with fail;refine bodyPost_ret (zp rfl _ _ (g+1) 96 Q (0,0) _ rfl (HZ.out.own (g+1,.cells Q 96 (0,0)) (List.mem_cons_self ..)) Tryz.underlying96 (by kernel_rfl) RAI.out) rfl ?_;exact FX.out _ _ HZ.out
theorem o_ask6 {nv:Value} (ok:m.Ok) (c:Cl) (h:St W w J F) (hm:(gm,Obj.cells (m.cells nv) 88 (0,0))∈F) (hk:c.kind=6) (a:An) (hat:a.rep.t.Ok) (kx:∀(v:World) (X:List (Nat × Obj)),St W v J X→(gm,Obj.cells (m.cells nv) 88 (0,0))∈X→Calls Tryz.prog 74 #[.pointer (some ⟨gm,0,none⟩)] v (OPost W J X a)) :
  Calls Tryz.prog 41 #[.pointer (some ⟨gm,0,none⟩),c.val] w (OPost W J F a):=by
 have h1:=(h.alloc (.cells c.cells 50)).alloc (.cells Tryz.zeroCells96 96);obtain⟨g,hg⟩:∃g,w.heap.size=g:=⟨_,rfl⟩;rw[World.size_alloc,hg]at h1
 have fin:∀(v:World) (A':Option Addr) (c':Nat) (L' D:List (Nat × Obj)),Row 147 40 (.slice A' a.l.length c') a.l.length (cgs a.l) L'→St W v J (D++(L'++F))→OPost W J F a (.returned (.agg (a.cells (.slice A' a.l.length c')))) v:=fun v A' c' L' D hr' hv=>⟨A',c',L',rfl,hr',hv.weaken⟩
 have hmx:(gm,Obj.cells (m.cells nv) 88 (0,0))∈(g+1,Obj.cells Tryz.zeroCells96 96 (0,0))::(g,.cells c.cells 50 (0,0))::F:=List.mem_cons_of_mem _ (List.mem_cons_of_mem _ hm);have md:=h1.md ok hmx;have rk:=md.tb.all;have ti:=z7 ok.known;have m80:=md.live;have m81:=md.slot;have kx1:=kx _ _ h1 hmx;obtain⟨c0,c1,c2,c3,c4⟩:=h1.clf (b:=g) (c:=c) (by simp);unfold Cl.val;unfold OPost at kx1;obtain⟨CT,hCT⟩:∃b,m.known.cells=b:=⟨_,rfl⟩;unfold Tb.val at *;rw[hCT]at rk ti;obtain⟨cl,ck,cs,cj,cn⟩:=c;simp only at hk c0 c1 c2 c3 c4 kx1;subst hk;obtain⟨cc,hcc⟩:∃x,Cl.cells _=x:=⟨(⟨cl,_,cs,cj,cn⟩:Cl).cells,rfl⟩;rw[hcc]at h1 hmx kx1 rk m80 m81 c0 c1 c2 c3 c4 ⊢;have FIN:=za fin;have H1:=za h1;have KX:=za kx1;have HAT:=za hat;have RK:=za rk;have TI:=za ti;clear fin kx kx1 h1 hm hmx h hat md ok rk ti hCT hcc
 go_enter Tryz.func41,Tryz.ntmps41
 go_wp2_with fail;refine KX.out.mono ?_;rintro e w3 ⟨A',c',L',rfl,hr',h2⟩;have h3:=h2.perm (L':=(g+1,.cells Tryz.zeroCells96 96 (0,0))::(g,.cells cc 50 (0,0))::(L'++F)) ze;have rsz:=An.size (a:=a) HAT.out (.slice A' a.l.length c');have rai:=yv (a:=a) HAT.out (.slice A' a.l.length c');have rao:=An.one a (v:=.slice A' a.l.length c') rfl
 have fx:=fun(v:World) (cs:Array Value) (hv:St W v J ((g+1,.cells cs 96 (0,0))::(g,.cells cc 50 (0,0))::(L'++F)))=>FIN.out v A' c' L' [(g+1,.cells cs 96 (0,0)),(g,.cells cc 50 (0,0))] hr' hv
 obtain⟨Q,hQ⟩:∃Q,a.cells (.slice A' a.l.length c')=Q:=⟨_,rfl⟩;rw[hQ]at rsz rai rao fx ⊢
 have rfit:0+Q.size≤Tryz.zeroCells96.size:=by rw[rsz,zan];omega
 have rmany:zg Tryz.zeroCells96 0 Q.toList=Q:=by rw[zd _ _ (by rw[Array.length_toList,rsz,zan]),Array.toArray_toList]
 have RAI:=za rai;have RAO:=za rao;have RFIT:=za rfit;have RMANY:=za rmany;have FX:=za fx;clear rai rao rfit rmany fx hQ rsz;have H3:=za h3;clear h2 h3 hr' KX
 go_wp2_with (with_reducible refine zc rfl 96 (.tmp 4) (.tmp 66) rfl (g:=g+1) (off:=0) Q rfl rfl H3.out RFIT.out RAI.out RAO.out ?_;intro w4 h4;refine Hid.out ?_)
 refine za ?_;rw[RMANY.out]at h4;have HZ:=za h4;clear h4 H3;go_wp2_with fail;refine bodyPost_ret (zp rfl _ _ (g+1) 96 Q (0,0) _ rfl (HZ.out.own (g+1,.cells Q 96 (0,0)) (List.mem_cons_self ..)) Tryz.underlying96 (by kernel_rfl) RAI.out) rfl ?_;exact FX.out _ _ HZ.out
theorem o_ask4 {nv:Value} (ok:m.Ok) (c:Cl) (h:St W w J F) (hm:(gm,Obj.cells (m.cells nv) 88 (0,0))∈F) (hk:c.kind=4):Calls Tryz.prog 41 #[.pointer (some ⟨gm,0,none⟩),c.val] w (OPost W J F (saidA m (goodT m.known c.slot).1 (goodT m.known c.slot).2)):=by
 have hat:(saidA m (goodT m.known c.slot).1 (goodT m.known c.slot).2).rep.t.Ok:=by unfold saidA;split<;>exact zt
 have kb:=fun(v:World) (X:List (Nat × Obj)) (hv:St W v J X)=>b_good ok.known c.slot hv
 obtain⟨⟨l,x⟩,hlx⟩:∃r,goodT m.known c.slot=r:=⟨_,rfl⟩;rw[hlx]at kb hat ⊢;simp only at hat ⊢
 have ks:=fun(A':Option Addr) (c':Nat) (L':List (Nat × Obj)) (hr:Row 147 40 (.slice A' l.length c') l.length (cgs l) L') (v:World) (X:List (Nat × Obj)) (hv:St W v J (L'++X)) (hx:(gm,Obj.cells (m.cells nv) 88 (0,0))∈X)=>o_said ok x hr rfl hv hx
 obtain⟨a,ha⟩:∃a,saidA m l x=a:=⟨_,rfl⟩;unfold CPost at kb;unfold OPost at ks;rw[ha]at ks hat ⊢;have h1:=(h.alloc (.cells c.cells 50)).alloc (.cells Tryz.zeroCells96 96);obtain⟨g,hg⟩:∃g,w.heap.size=g:=⟨_,rfl⟩;rw[World.size_alloc,hg]at h1
 have fin:∀(v:World) (A':Option Addr) (c':Nat) (L' D:List (Nat × Obj)),Row 147 40 (.slice A' a.l.length c') a.l.length (cgs a.l) L'→St W v J (D++(L'++F))→OPost W J F a (.returned (.agg (a.cells (.slice A' a.l.length c')))) v:=fun v A' c' L' D hr' hv=>⟨A',c',L',rfl,hr',hv.weaken⟩
 have hmx:(gm,Obj.cells (m.cells nv) 88 (0,0))∈(g+1,Obj.cells Tryz.zeroCells96 96 (0,0))::(g,.cells c.cells 50 (0,0))::F:=List.mem_cons_of_mem _ (List.mem_cons_of_mem _ hm);have md:=h1.md ok hmx;have m80:=md.live;have m81:=md.slot;have ti:=z7 ok.known;obtain⟨c0,c1,c2,c3,c4⟩:=h1.clf (b:=g) (c:=c) (by simp)
 have fs:=fun(v:World) (X:List (Nat × Obj)) (hv:St W v J X) (h1:(gm,Obj.cells (m.cells nv) 88 (0,0))∈X) (h2:(g,Obj.cells c.cells 50 (0,0))∈X)=>(⟨(hv.md ok h1).tb.all,(hv.clf h2).2.2.1⟩:v.rangeAt gm 0 m.known.cells.toList∧v.cell? ⟨g,2,none⟩=some (.int .i64 c.slot))
 unfold Tb.val at kb;unfold Cl.val;obtain⟨CT,hCT⟩:∃b,m.known.cells=b:=⟨_,rfl⟩;obtain⟨lv,hlv⟩:∃b,m.job.live=b:=⟨_,rfl⟩;obtain⟨js,hjs⟩:∃b,m.job.slot=b:=⟨_,rfl⟩;rw[hCT]at ti kb fs;rw[hlv]at m80;rw[hjs]at m81;obtain⟨cl,ck,cs,cj,cn⟩:=c;simp only at hk c0 c1 c2 c3 c4 kb fs;subst hk;obtain⟨cc,hcc⟩:∃x,Cl.cells _=x:=⟨(⟨cl,_,cs,cj,cn⟩:Cl).cells,rfl⟩;rw[hcc]at h1 hmx fs m80 m81 c0 c1 c2 c3 c4 ⊢;have FIN:=za fin;have H1:=za h1;have HAT:=za hat;have TI:=za ti;have KB:=za kb;have KS:=za ks;have FSx:=za fs;have HM:=za hmx;have HM0:=za hm;clear fin kb ks fs h1 hm hmx h hat md ok ti hCT hcc ha hlx hlv hjs
 go_enter Tryz.func41,Tryz.ntmps41
 go_wp2_with fail;have HDW:=za H1.out.drew1;have HUT:=za Tryz.underlying29;have s1:=FSx.out _ _ HDW.out HM.out (by simp);refine wp_region_held_drew (S:=fun v=>v.rangeAt gm 0 CT.toList∧v.cell? ⟨g,2,none⟩=some (.int .i64 cs)) (by kernel_rfl) s1 (fun hHeld=>?_)
 refine tk op0 (v:=?_) (by kernel_rfl) ?_ (by assumption) ?_ fun _ _ _ h=>h
 rotate_left
 ·(refine ya rfl fun w hSw=>?_;go_simp;rfl)
 try simp only[Act.put,pu1,pu2,pu3]
 refine tk op1 (v:=?_) (by kernel_rfl) ?_ (by assumption) ?_ fun _ _ _ h=>h
 rotate_left
 ·(refine ya rfl fun w hSw=>?_;go_simp;rfl)
 try simp only[Act.put,pu1,pu2,pu3]
 refine tk op2 (v:=?_) (by kernel_rfl) ?_ (by assumption) ?_ fun _ _ _ h=>h
 rotate_left
 ·(refine ya rfl fun w hSw=>?_;go_simp;rfl)
 try simp only[Act.put,pu1,pu2,pu3]
 refine tk op3 (v:=?_) (by kernel_rfl) ?_ (by assumption) ?_ fun _ _ _ h=>h
 rotate_left
 ·(refine ya rfl fun w hSw=>?_;go_simp;rfl)
 try simp only[Act.put,pu1,pu2,pu3]
 refine tk op4 (v:=?_) (by kernel_rfl) ?_ (by assumption) ?_ fun _ _ _ h=>h
 rotate_left
 ·(((refine yieldsIf_load_mid ?_ 29 (.tmp 25) ?_ gm 0 ?_ CT.toList _ ?_ HUT.out ?_ TI.out)<;>first|rfl|exact fun w h=>h.1))
 try simp only[Act.put,pu1,pu2,pu3]
 refine tk op5 (v:=?_) (by kernel_rfl) ?_ (by assumption) ?_ fun _ _ _ h=>h
 rotate_left
 ·(refine ya rfl fun w hSw=>?_;go_simp;rfl)
 try simp only[Act.put,pu1,pu2,pu3]
 refine tk op6 (v:=?_) (by kernel_rfl) ?_ (by assumption) ?_ fun _ _ _ h=>h
 rotate_left
 ·((refine Or.inl ⟨by rfl,?_⟩;intro w hSw;obtain⟨hS1,hS2⟩:=hSw;go_simp;try with_reducible rfl))
 try simp only[Act.put,pu1,pu2,pu3]
 refine rd1 op7 (by kernel_rfl) fun K hK=>?_
 go_simp
 ((go_at_call 72;(with_reducible refine(KB.out _ _ HDW.out).mono ?_);rintro e wx ⟨A1,c1',L1,rfl,hr1,hx⟩;dsimp only))
 refine hK.out _ _ ?_ fun hHeld=>?_
 ·(try dsimp only)<;>((exact FSx.out _ _ hx (List.mem_append_right _ HM.out) (by simp)))
 clear hK K
 try simp only[Act.put,pu1,pu2,pu3]
 refine tk op8 (v:=?_) (by kernel_rfl) ?_ (by assumption) ?_ fun _ _ _ h=>h
 rotate_left
 ·(refine ya rfl fun w hSw=>?_;go_simp;rfl)
 try simp only[Act.put,pu1,pu2,pu3]
 refine tk op9 (v:=?_) (by kernel_rfl) ?_ (by assumption) ?_ fun _ _ _ h=>h
 rotate_left
 ·(refine ya rfl fun w hSw=>?_;go_simp;rfl)
 try simp only[Act.put,pu1,pu2,pu3]
 refine rd1 (oq op0) (by kernel_rfl) fun K hK=>?_
 go_simp
 ((go_at_call 71;(with_reducible refine(KS.out A1 c1' L1 hr1 _ _ hx HM.out).mono ?_);rintro e wy ⟨A',c',L',rfl,hr',hy'⟩;have hy:=hy'.perm (L':=(g+1,.cells Tryz.zeroCells96 96 (0,0))::(g,.cells cc 50 (0,0))::(L'++F)) ze;have rsz:=An.size (a:=a) HAT.out (.slice A' a.l.length c');have rai:=yv (a:=a) HAT.out (.slice A' a.l.length c');have rao:=An.one a (v:=.slice A' a.l.length c') rfl;have fx:=fun(v:World) (cs:Array Value) (hv:St W v J ((g+1,.cells cs 96 (0,0))::(g,.cells cc 50 (0,0))::(L'++F)))=>FIN.out v A' c' L' [(g+1,.cells cs 96 (0,0)),(g,.cells cc 50 (0,0))] hr' hv;obtain⟨Q,hQ⟩:∃Q,a.cells (.slice A' a.l.length c')=Q:=⟨_,rfl⟩;rw[hQ]at rsz rai rao fx ⊢;have rfit:0+Q.size≤Tryz.zeroCells96.size:=(by rw[rsz,zan];omega);have rmany:zg Tryz.zeroCells96 0 Q.toList=Q:=(by rw[zd _ _ (by rw[Array.length_toList,rsz,zan]),Array.toArray_toList]);have RAI:=za rai;have RAO:=za rao;have RFIT:=za rfit;have RMANY:=za rmany;have FX:=za fx;clear rai rao rfit rmany fx hQ rsz hy';dsimp only))
 refine hK.out _ _ ?_ fun hHeld=>?_
 ·(try dsimp only)<;>((exact FSx.out _ _ hy (List.mem_cons_of_mem _ (List.mem_cons_of_mem _ (List.mem_append_right _ HM0.out))) (by simp)))
 clear hK K
 try simp only[Act.put,pu1,pu2,pu3]
 refine rd1 (oq op1) (by kernel_rfl) fun K hK=>?_
 ((refine zq rfl 96 (.tmp 4) (.tmp 32) rfl (g:=g+1) (off:=0) Q rfl rfl hy RFIT.out RAI.out RAO.out ?_;intro wf hf;rw[RMANY.out]at hf;dsimp only))
 refine hK.out _ _ ?_ fun hHeld=>?_
 ·(try dsimp only)<;>((exact FSx.out _ _ hf (List.mem_cons_of_mem _ (List.mem_cons_of_mem _ (List.mem_append_right _ HM0.out))) (by simp)))
 clear hK K
 try simp only[Act.put,pu1,pu2,pu3]
 refine wpAnyH_done (by kernel_rfl) ?_ _;have HZ:=za hf;clear hf hx hr1 HDW s1;go_wp2_with fail;refine bodyPost_ret (zp rfl _ _ (g+1) 96 Q (0,0) _ rfl (HZ.out.own (g+1,.cells Q 96 (0,0)) (List.mem_cons_self ..)) Tryz.underlying96 (by kernel_rfl) RAI.out) rfl ?_;exact FX.out _ _ HZ.out
theorem o_ask5 {nv:Value} (ok:m.Ok) (c:Cl) (h:St W w J F) (hm:(gm,Obj.cells (m.cells nv) 88 (0,0))∈F) (hk:c.kind=5) (hb:(m.job.live&&c.slot==m.job.slot)=false):Calls Tryz.prog 41 #[.pointer (some ⟨gm,0,none⟩),c.val] w (OPost W J F (saidA m (badT m.known c.slot).1 (badT m.known c.slot).2)):=by
 have hat:(saidA m (badT m.known c.slot).1 (badT m.known c.slot).2).rep.t.Ok:=by unfold saidA;split<;>exact zt
 have kb:=fun(v:World) (X:List (Nat × Obj)) (hv:St W v J X)=>b_bad ok.known c.slot hv
 obtain⟨⟨l,x⟩,hlx⟩:∃r,badT m.known c.slot=r:=⟨_,rfl⟩;rw[hlx]at kb hat ⊢;simp only at hat ⊢
 have ks:=fun(A':Option Addr) (c':Nat) (L':List (Nat × Obj)) (hr:Row 147 40 (.slice A' l.length c') l.length (cgs l) L') (v:World) (X:List (Nat × Obj)) (hv:St W v J (L'++X)) (hx:(gm,Obj.cells (m.cells nv) 88 (0,0))∈X)=>o_said ok x hr rfl hv hx
 obtain⟨a,ha⟩:∃a,saidA m l x=a:=⟨_,rfl⟩;unfold CPost at kb;unfold OPost at ks;rw[ha]at ks hat ⊢;have h1:=(h.alloc (.cells c.cells 50)).alloc (.cells Tryz.zeroCells96 96);obtain⟨g,hg⟩:∃g,w.heap.size=g:=⟨_,rfl⟩;rw[World.size_alloc,hg]at h1
 have fin:∀(v:World) (A':Option Addr) (c':Nat) (L' D:List (Nat × Obj)),Row 147 40 (.slice A' a.l.length c') a.l.length (cgs a.l) L'→St W v J (D++(L'++F))→OPost W J F a (.returned (.agg (a.cells (.slice A' a.l.length c')))) v:=fun v A' c' L' D hr' hv=>⟨A',c',L',rfl,hr',hv.weaken⟩
 have hmx:(gm,Obj.cells (m.cells nv) 88 (0,0))∈(g+1,Obj.cells Tryz.zeroCells96 96 (0,0))::(g,.cells c.cells 50 (0,0))::F:=List.mem_cons_of_mem _ (List.mem_cons_of_mem _ hm);have md:=h1.md ok hmx;have m80:=md.live;have m81:=md.slot;have ti:=z7 ok.known;obtain⟨c0,c1,c2,c3,c4⟩:=h1.clf (b:=g) (c:=c) (by simp)
 have fs:=fun(v:World) (X:List (Nat × Obj)) (hv:St W v J X) (h1:(gm,Obj.cells (m.cells nv) 88 (0,0))∈X) (h2:(g,Obj.cells c.cells 50 (0,0))∈X)=>(⟨(hv.md ok h1).tb.all,(hv.clf h2).2.2.1⟩:v.rangeAt gm 0 m.known.cells.toList∧v.cell? ⟨g,2,none⟩=some (.int .i64 c.slot))
 unfold Tb.val at kb;unfold Cl.val;obtain⟨CT,hCT⟩:∃b,m.known.cells=b:=⟨_,rfl⟩;obtain⟨lv,hlv⟩:∃b,m.job.live=b:=⟨_,rfl⟩;obtain⟨js,hjs⟩:∃b,m.job.slot=b:=⟨_,rfl⟩;rw[hCT]at ti kb fs;rw[hlv]at m80;rw[hjs]at m81;rw[hlv,hjs]at hb;obtain⟨cl,ck,cs,cj,cn⟩:=c;simp only at hk c0 c1 c2 c3 c4 kb fs hb;subst hk;obtain⟨cc,hcc⟩:∃x,Cl.cells _=x:=⟨(⟨cl,_,cs,cj,cn⟩:Cl).cells,rfl⟩;rw[hcc]at h1 hmx fs m80 m81 c0 c1 c2 c3 c4 ⊢;have FIN:=za fin;have H1:=za h1;have HAT:=za hat;have TI:=za ti;have KB:=za kb;have KS:=za ks;have FSx:=za fs;have HM:=za hmx;have HM0:=za hm;clear fin kb ks fs h1 hm hmx h hat md ok ti hCT hcc ha hlx hlv hjs
 cases lv with
 | false=>
  clear hb
  go_enter Tryz.func41,Tryz.ntmps41
  go_wp2_with fail
  go_quiet (fail)
  generalize hw13:World.drewN _ _=w13
  have h14:St W w13 J ((g+1,.cells Tryz.zeroCells96 96 (0,0))::(g,.cells cc 50 (0,0))::F):=by rw[←hw13];exact H1.out.drew _
  clear H1 m80 m81 c0 c1 c2 c3 c4 hw13;have H1:=za h14;clear h14;go_wp2_with fail;have HDW:=za H1.out.drew1;have HUT:=za Tryz.underlying29;have s1:=FSx.out _ _ HDW.out HM.out (by simp);refine wp_region_held_drew (S:=fun v=>v.rangeAt gm 0 CT.toList∧v.cell? ⟨g,2,none⟩=some (.int .i64 cs)) (by kernel_rfl) s1 (fun hHeld=>?_)
  refine tk op0 (v:=?_) (by kernel_rfl) ?_ (by assumption) ?_ fun _ _ _ h=>h
  rotate_left
  ·(refine ya rfl fun w hSw=>?_;go_simp;rfl)
  try simp only[Act.put,pu1,pu2,pu3]
  refine tk op1 (v:=?_) (by kernel_rfl) ?_ (by assumption) ?_ fun _ _ _ h=>h
  rotate_left
  ·(refine ya rfl fun w hSw=>?_;go_simp;rfl)
  try simp only[Act.put,pu1,pu2,pu3]
  refine tk op2 (v:=?_) (by kernel_rfl) ?_ (by assumption) ?_ fun _ _ _ h=>h
  rotate_left
  ·(refine ya rfl fun w hSw=>?_;go_simp;rfl)
  try simp only[Act.put,pu1,pu2,pu3]
  refine tk op3 (v:=?_) (by kernel_rfl) ?_ (by assumption) ?_ fun _ _ _ h=>h
  rotate_left
  ·(refine ya rfl fun w hSw=>?_;go_simp;rfl)
  try simp only[Act.put,pu1,pu2,pu3]
  refine tk op4 (v:=?_) (by kernel_rfl) ?_ (by assumption) ?_ fun _ _ _ h=>h
  rotate_left
  ·(((refine yieldsIf_load_mid ?_ 29 (.tmp 55) ?_ gm 0 ?_ CT.toList _ ?_ HUT.out ?_ TI.out)<;>first|rfl|exact fun w h=>h.1))
  try simp only[Act.put,pu1,pu2,pu3]
  refine tk op5 (v:=?_) (by kernel_rfl) ?_ (by assumption) ?_ fun _ _ _ h=>h
  rotate_left
  ·(refine ya rfl fun w hSw=>?_;go_simp;rfl)
  try simp only[Act.put,pu1,pu2,pu3]
  refine tk op6 (v:=?_) (by kernel_rfl) ?_ (by assumption) ?_ fun _ _ _ h=>h
  rotate_left
  ·((refine Or.inl ⟨by rfl,?_⟩;intro w hSw;obtain⟨hS1,hS2⟩:=hSw;go_simp;try with_reducible rfl))
  try simp only[Act.put,pu1,pu2,pu3]
  refine rd1 op7 (by kernel_rfl) fun K hK=>?_
  go_simp
  ((go_at_call 73;(with_reducible refine(KB.out _ _ HDW.out).mono ?_);rintro e wx ⟨A1,c1',L1,rfl,hr1,hx⟩;dsimp only))
  refine hK.out _ _ ?_ fun hHeld=>?_
  ·(try dsimp only)<;>((exact FSx.out _ _ hx (List.mem_append_right _ HM.out) (by simp)))
  clear hK K
  try simp only[Act.put,pu1,pu2,pu3]
  refine tk op8 (v:=?_) (by kernel_rfl) ?_ (by assumption) ?_ fun _ _ _ h=>h
  rotate_left
  ·(refine ya rfl fun w hSw=>?_;go_simp;rfl)
  try simp only[Act.put,pu1,pu2,pu3]
  refine tk op9 (v:=?_) (by kernel_rfl) ?_ (by assumption) ?_ fun _ _ _ h=>h
  rotate_left
  ·(refine ya rfl fun w hSw=>?_;go_simp;rfl)
  try simp only[Act.put,pu1,pu2,pu3]
  refine rd1 (oq op0) (by kernel_rfl) fun K hK=>?_
  go_simp
  ((go_at_call 71;(with_reducible refine(KS.out A1 c1' L1 hr1 _ _ hx HM.out).mono ?_);rintro e wy ⟨A',c',L',rfl,hr',hy'⟩;have hy:=hy'.perm (L':=(g+1,.cells Tryz.zeroCells96 96 (0,0))::(g,.cells cc 50 (0,0))::(L'++F)) ze;have rsz:=An.size (a:=a) HAT.out (.slice A' a.l.length c');have rai:=yv (a:=a) HAT.out (.slice A' a.l.length c');have rao:=An.one a (v:=.slice A' a.l.length c') rfl;have fx:=fun(v:World) (cs:Array Value) (hv:St W v J ((g+1,.cells cs 96 (0,0))::(g,.cells cc 50 (0,0))::(L'++F)))=>FIN.out v A' c' L' [(g+1,.cells cs 96 (0,0)),(g,.cells cc 50 (0,0))] hr' hv;obtain⟨Q,hQ⟩:∃Q,a.cells (.slice A' a.l.length c')=Q:=⟨_,rfl⟩;rw[hQ]at rsz rai rao fx ⊢;have rfit:0+Q.size≤Tryz.zeroCells96.size:=(by rw[rsz,zan];omega);have rmany:zg Tryz.zeroCells96 0 Q.toList=Q:=(by rw[zd _ _ (by rw[Array.length_toList,rsz,zan]),Array.toArray_toList]);have RAI:=za rai;have RAO:=za rao;have RFIT:=za rfit;have RMANY:=za rmany;have FX:=za fx;clear rai rao rfit rmany fx hQ rsz hy';dsimp only))
  refine hK.out _ _ ?_ fun hHeld=>?_
  ·(try dsimp only)<;>((exact FSx.out _ _ hy (List.mem_cons_of_mem _ (List.mem_cons_of_mem _ (List.mem_append_right _ HM0.out))) (by simp)))
  clear hK K
  try simp only[Act.put,pu1,pu2,pu3]
  refine rd1 (oq op1) (by kernel_rfl) fun K hK=>?_
  ((refine zq rfl 96 (.tmp 4) (.tmp 62) rfl (g:=g+1) (off:=0) Q rfl rfl hy RFIT.out RAI.out RAO.out ?_;intro wf hf;rw[RMANY.out]at hf;dsimp only))
  refine hK.out _ _ ?_ fun hHeld=>?_
  ·(try dsimp only)<;>((exact FSx.out _ _ hf (List.mem_cons_of_mem _ (List.mem_cons_of_mem _ (List.mem_append_right _ HM0.out))) (by simp)))
  clear hK K
  try simp only[Act.put,pu1,pu2,pu3]
  refine wpAnyH_done (by kernel_rfl) ?_ _;have HZ:=za hf;clear hf hx hr1 HDW s1;go_wp2_with fail;refine bodyPost_ret (zp rfl _ _ (g+1) 96 Q (0,0) _ rfl (HZ.out.own (g+1,.cells Q 96 (0,0)) (List.mem_cons_self ..)) Tryz.underlying96 (by kernel_rfl) RAI.out) rfl ?_;exact FX.out _ _ HZ.out
 | true=>
  have b5:(cs==js)=false:=by simpa using hb
  clear hb
  go_enter Tryz.func41,Tryz.ntmps41
  go_wp2_with fail
  go_quiet (fail)
  generalize hw13:World.drewN _ _=w13
  have h14:St W w13 J ((g+1,.cells Tryz.zeroCells96 96 (0,0))::(g,.cells cc 50 (0,0))::F):=by rw[←hw13];exact H1.out.drew _
  clear H1 m80 m81 c0 c1 c2 c3 c4 hw13;have H1:=za h14;clear h14;go_wp2_with fail;have HDW:=za H1.out.drew1;have HUT:=za Tryz.underlying29;have s1:=FSx.out _ _ HDW.out HM.out (by simp);refine wp_region_held_drew (S:=fun v=>v.rangeAt gm 0 CT.toList∧v.cell? ⟨g,2,none⟩=some (.int .i64 cs)) (by kernel_rfl) s1 (fun hHeld=>?_)
  refine tk op0 (v:=?_) (by kernel_rfl) ?_ (by assumption) ?_ fun _ _ _ h=>h
  rotate_left
  ·(refine ya rfl fun w hSw=>?_;go_simp;rfl)
  try simp only[Act.put,pu1,pu2,pu3]
  refine tk op1 (v:=?_) (by kernel_rfl) ?_ (by assumption) ?_ fun _ _ _ h=>h
  rotate_left
  ·(refine ya rfl fun w hSw=>?_;go_simp;rfl)
  try simp only[Act.put,pu1,pu2,pu3]
  refine tk op2 (v:=?_) (by kernel_rfl) ?_ (by assumption) ?_ fun _ _ _ h=>h
  rotate_left
  ·(refine ya rfl fun w hSw=>?_;go_simp;rfl)
  try simp only[Act.put,pu1,pu2,pu3]
  refine tk op3 (v:=?_) (by kernel_rfl) ?_ (by assumption) ?_ fun _ _ _ h=>h
  rotate_left
  ·(refine ya rfl fun w hSw=>?_;go_simp;rfl)
  try simp only[Act.put,pu1,pu2,pu3]
  refine tk op4 (v:=?_) (by kernel_rfl) ?_ (by assumption) ?_ fun _ _ _ h=>h
  rotate_left
  ·(((refine yieldsIf_load_mid ?_ 29 (.tmp 55) ?_ gm 0 ?_ CT.toList _ ?_ HUT.out ?_ TI.out)<;>first|rfl|exact fun w h=>h.1))
  try simp only[Act.put,pu1,pu2,pu3]
  refine tk op5 (v:=?_) (by kernel_rfl) ?_ (by assumption) ?_ fun _ _ _ h=>h
  rotate_left
  ·(refine ya rfl fun w hSw=>?_;go_simp;rfl)
  try simp only[Act.put,pu1,pu2,pu3]
  refine tk op6 (v:=?_) (by kernel_rfl) ?_ (by assumption) ?_ fun _ _ _ h=>h
  rotate_left
  ·((refine Or.inl ⟨by rfl,?_⟩;intro w hSw;obtain⟨hS1,hS2⟩:=hSw;go_simp;try with_reducible rfl))
  try simp only[Act.put,pu1,pu2,pu3]
  refine rd1 op7 (by kernel_rfl) fun K hK=>?_
  go_simp
  ((go_at_call 73;(with_reducible refine(KB.out _ _ HDW.out).mono ?_);rintro e wx ⟨A1,c1',L1,rfl,hr1,hx⟩;dsimp only))
  refine hK.out _ _ ?_ fun hHeld=>?_
  ·(try dsimp only)<;>((exact FSx.out _ _ hx (List.mem_append_right _ HM.out) (by simp)))
  clear hK K
  try simp only[Act.put,pu1,pu2,pu3]
  refine tk op8 (v:=?_) (by kernel_rfl) ?_ (by assumption) ?_ fun _ _ _ h=>h
  rotate_left
  ·(refine ya rfl fun w hSw=>?_;go_simp;rfl)
  try simp only[Act.put,pu1,pu2,pu3]
  refine tk op9 (v:=?_) (by kernel_rfl) ?_ (by assumption) ?_ fun _ _ _ h=>h
  rotate_left
  ·(refine ya rfl fun w hSw=>?_;go_simp;rfl)
  try simp only[Act.put,pu1,pu2,pu3]
  refine rd1 (oq op0) (by kernel_rfl) fun K hK=>?_
  go_simp
  ((go_at_call 71;(with_reducible refine(KS.out A1 c1' L1 hr1 _ _ hx HM.out).mono ?_);rintro e wy ⟨A',c',L',rfl,hr',hy'⟩;have hy:=hy'.perm (L':=(g+1,.cells Tryz.zeroCells96 96 (0,0))::(g,.cells cc 50 (0,0))::(L'++F)) ze;have rsz:=An.size (a:=a) HAT.out (.slice A' a.l.length c');have rai:=yv (a:=a) HAT.out (.slice A' a.l.length c');have rao:=An.one a (v:=.slice A' a.l.length c') rfl;have fx:=fun(v:World) (cs:Array Value) (hv:St W v J ((g+1,.cells cs 96 (0,0))::(g,.cells cc 50 (0,0))::(L'++F)))=>FIN.out v A' c' L' [(g+1,.cells cs 96 (0,0)),(g,.cells cc 50 (0,0))] hr' hv;obtain⟨Q,hQ⟩:∃Q,a.cells (.slice A' a.l.length c')=Q:=⟨_,rfl⟩;rw[hQ]at rsz rai rao fx ⊢;have rfit:0+Q.size≤Tryz.zeroCells96.size:=(by rw[rsz,zan];omega);have rmany:zg Tryz.zeroCells96 0 Q.toList=Q:=(by rw[zd _ _ (by rw[Array.length_toList,rsz,zan]),Array.toArray_toList]);have RAI:=za rai;have RAO:=za rao;have RFIT:=za rfit;have RMANY:=za rmany;have FX:=za fx;clear rai rao rfit rmany fx hQ rsz hy';dsimp only))
  refine hK.out _ _ ?_ fun hHeld=>?_
  ·(try dsimp only)<;>((exact FSx.out _ _ hy (List.mem_cons_of_mem _ (List.mem_cons_of_mem _ (List.mem_append_right _ HM0.out))) (by simp)))
  clear hK K
  try simp only[Act.put,pu1,pu2,pu3]
  refine rd1 (oq op1) (by kernel_rfl) fun K hK=>?_
  ((refine zq rfl 96 (.tmp 4) (.tmp 62) rfl (g:=g+1) (off:=0) Q rfl rfl hy RFIT.out RAI.out RAO.out ?_;intro wf hf;rw[RMANY.out]at hf;dsimp only))
  refine hK.out _ _ ?_ fun hHeld=>?_
  ·(try dsimp only)<;>((exact FSx.out _ _ hf (List.mem_cons_of_mem _ (List.mem_cons_of_mem _ (List.mem_append_right _ HM0.out))) (by simp)))
  clear hK K
  try simp only[Act.put,pu1,pu2,pu3]
  refine wpAnyH_done (by kernel_rfl) ?_ _;have HZ:=za hf;clear hf hx hr1 HDW s1;go_wp2_with fail;refine bodyPost_ret (zp rfl _ _ (g+1) 96 Q (0,0) _ rfl (HZ.out.own (g+1,.cells Q 96 (0,0)) (List.mem_cons_self ..)) Tryz.underlying96 (by kernel_rfl) RAI.out) rfl ?_;exact FX.out _ _ HZ.out
theorem o_ask5b {nv:Value} (ok:m.Ok) (c:Cl) (h:St W w J F) (hm:(gm,Obj.cells (m.cells nv) 88 (0,0))∈F) (hk:c.kind=5) (hl:m.job.live=true) (hs:c.slot=m.job.slot) (a:An) (hat:a.rep.t.Ok) (kx:∀(v:World) (X:List (Nat × Obj)),St W v J X→(gm,Obj.cells (m.cells nv) 88 (0,0))∈X→Calls Tryz.prog 68 #[.pointer (some ⟨gm,0,none⟩),.int .i64 251] v (OPost W J X a)) :
  Calls Tryz.prog 41 #[.pointer (some ⟨gm,0,none⟩),c.val] w (OPost W J F a):=by
 have h1:=(h.alloc (.cells c.cells 50)).alloc (.cells Tryz.zeroCells96 96);obtain⟨g,hg⟩:∃g,w.heap.size=g:=⟨_,rfl⟩;rw[World.size_alloc,hg]at h1
 have fin:∀(v:World) (A':Option Addr) (c':Nat) (L' D:List (Nat × Obj)),Row 147 40 (.slice A' a.l.length c') a.l.length (cgs a.l) L'→St W v J (D++(L'++F))→OPost W J F a (.returned (.agg (a.cells (.slice A' a.l.length c')))) v:=fun v A' c' L' D hr' hv=>⟨A',c',L',rfl,hr',hv.weaken⟩
 have hmx:(gm,Obj.cells (m.cells nv) 88 (0,0))∈(g+1,Obj.cells Tryz.zeroCells96 96 (0,0))::(g,.cells c.cells 50 (0,0))::F:=List.mem_cons_of_mem _ (List.mem_cons_of_mem _ hm);have md:=h1.md ok hmx;have rk:=md.tb.all;have ti:=z7 ok.known;have m80:=md.live;have m81:=md.slot;unfold OPost at kx;obtain⟨c0,c1,c2,c3,c4⟩:=h1.clf (b:=g) (c:=c) (by simp);unfold Cl.val;rw[hl]at m80;rw[←hs]at m81;obtain⟨CT,hCT⟩:∃b,m.known.cells=b:=⟨_,rfl⟩;unfold Tb.val at *;rw[hCT]at rk ti;obtain⟨cl,ck,cs,cj,cn⟩:=c;simp only at hk m81 c0 c1 c2 c3 c4;subst hk;obtain⟨cc,hcc⟩:∃x,Cl.cells _=x:=⟨(⟨cl,_,cs,cj,cn⟩:Cl).cells,rfl⟩;rw[hcc]at h1 hmx rk m80 m81 c0 c1 c2 c3 c4 ⊢;have FIN:=za fin;have H1:=za h1;have KXF:=za kx;have HMX:=za hmx;have HAT:=za hat;have RK:=za rk;have TI:=za ti;clear fin kx h1 hm hmx h hat md ok rk ti hCT hcc
 go_enter Tryz.func41,Tryz.ntmps41
 go_wp2_with fail
 go_quiet (fail)
 generalize hw13:World.drewN _ _=w13
 have h14:St W w13 J ((g+1,.cells Tryz.zeroCells96 96 (0,0))::(g,.cells cc 50 (0,0))::F):=by rw[←hw13];exact H1.out.drew _
 clear H1 m80 m81 c0 c1 c2 c3 c4 hw13;have KX:=za (KXF.out _ _ h14 HMX.out);clear h14 KXF;go_wp2_with fail;refine KX.out.mono ?_;rintro e w3 ⟨A',c',L',rfl,hr',h2⟩;have h3:=h2.perm (L':=(g+1,.cells Tryz.zeroCells96 96 (0,0))::(g,.cells cc 50 (0,0))::(L'++F)) ze;have rsz:=An.size (a:=a) HAT.out (.slice A' a.l.length c');have rai:=yv (a:=a) HAT.out (.slice A' a.l.length c');have rao:=An.one a (v:=.slice A' a.l.length c') rfl
 have fx:=fun(v:World) (cs:Array Value) (hv:St W v J ((g+1,.cells cs 96 (0,0))::(g,.cells cc 50 (0,0))::(L'++F)))=>FIN.out v A' c' L' [(g+1,.cells cs 96 (0,0)),(g,.cells cc 50 (0,0))] hr' hv
 obtain⟨Q,hQ⟩:∃Q,a.cells (.slice A' a.l.length c')=Q:=⟨_,rfl⟩;rw[hQ]at rsz rai rao fx ⊢
 have rfit:0+Q.size≤Tryz.zeroCells96.size:=by rw[rsz,zan];omega
 have rmany:zg Tryz.zeroCells96 0 Q.toList=Q:=by rw[zd _ _ (by rw[Array.length_toList,rsz,zan]),Array.toArray_toList]
 have RAI:=za rai;have RAO:=za rao;have RFIT:=za rfit;have RMANY:=za rmany;have FX:=za fx;clear rai rao rfit rmany fx hQ rsz;have H3:=za h3;clear h2 h3 hr' KX
 go_wp2_with (with_reducible refine zc rfl 96 (.tmp 4) (.tmp 51) rfl (g:=g+1) (off:=0) Q rfl rfl H3.out RFIT.out RAI.out RAO.out ?_;intro w4 h4;refine Hid.out ?_)
 refine za ?_;rw[RMANY.out]at h4;have HZ:=za h4;clear h4 H3;go_wp2_with fail;refine bodyPost_ret (zp rfl _ _ (g+1) 96 Q (0,0) _ rfl (HZ.out.own (g+1,.cells Q 96 (0,0)) (List.mem_cons_self ..)) Tryz.underlying96 (by kernel_rfl) RAI.out) rfl ?_;exact FX.out _ _ HZ.out
def statA (m:Md):An:=⟨⟨0,m.job.number,m.job.state,0,m.job.fault,m.known⟩,false,[],m.job,m.began⟩
theorem put_rep (a:An) (ok:a.rep.t.Ok) (v:Value) (r:Ry) (rok:r.t.Ok):zg (a.cells v) 0 r.cells.toList=({ a with rep:=r }:An).cells v:=by
 have h:=Ry.size ok;have h2:=Ry.size rok;exact yb [] a.rep.cells.toList r.cells.toList ([Value.bool a.keeps,v]++(a.job.list++[Value.int .i64 a.began])) (by simp[h,h2])
theorem rep_fold (n s f:Int) (t:Tb) (ok:t.Ok) (C:Array Value) (hC:t.cells=C):Array.foldl (fun cs (x:Value × Nat)=>cs.setIfInBounds (5+x.snd) x.fst) (((Tryz.zeroCells52.setIfInBounds 1 (.int .i64 n)).setIfInBounds 2 (.int .i64 s)).setIfInBounds 4 (.int .i64 f)) C.zipIdx 0 75=(⟨0,n,s,0,f,t⟩:Ry).cells:=by
 subst hC;rw[fold_at 5 _ _ 75 (Tb.size ok)]
 have hz:(((Tryz.zeroCells52.setIfInBounds 1 (.int .i64 n)).setIfInBounds 2 (.int .i64 s)).setIfInBounds 4 (.int .i64 f))=([Value.int .i64 0,.int .i64 n,.int .i64 s,.int .i64 0,.int .i64 f]++(zTb.cells.toList++[])).toArray:=by kernel_rfl
 rw[hz];have e:=yb [Value.int .i64 0,.int .i64 n,.int .i64 s,.int .i64 0,.int .i64 f] zTb.cells.toList t.cells.toList [] (by rw[Array.length_toList,Array.length_toList,Tb.size zt,Tb.size ok]);rw[show[Value.int .i64 0,.int .i64 n,.int .i64 s,.int .i64 0,.int .i64 f].length=5 from rfl]at e;rw[e,List.append_nil]
 rfl
theorem o_ask3 {nv:Value} (ok:m.Ok) (c:Cl) (h:St W w J F) (hm:(gm,Obj.cells (m.cells nv) 88 (0,0))∈F) (h1k:(c.kind==1)=false) (h2k:(c.kind==2)=false) (h4k:(c.kind==4)=false) (h5k:(c.kind==5)=false) (h6k:(c.kind==6)=false):Calls Tryz.prog 41 #[.pointer (some ⟨gm,0,none⟩),c.val] w (OPost W J F (statA m)):=by
 have kref:=fun(v:World) (X:List (Nat × Obj)) (hv:St W v J X) (hx:(gm,Obj.cells (m.cells nv) 88 (0,0))∈X)=>o_ref ok 0 hv hx
 have h1:=(h.alloc (.cells c.cells 50)).alloc (.cells Tryz.zeroCells96 96);obtain⟨g,hg⟩:∃g,w.heap.size=g:=⟨_,rfl⟩;rw[World.size_alloc,hg]at h1
 have fin:∀(v:World) (A':Option Addr) (c':Nat) (L' D:List (Nat × Obj)),Row 147 40 (.slice A' 0 c') 0 [] L'→St W v J (D++(L'++F))→OPost W J F (statA m) (.returned (.agg ((statA m).cells (.slice A' 0 c')))) v:=fun v A' c' L' D hr' hv=>⟨A',c',L',rfl,hr',hv.weaken⟩
 have hmx:(gm,Obj.cells (m.cells nv) 88 (0,0))∈(g+1,Obj.cells Tryz.zeroCells96 96 (0,0))::(g,.cells c.cells 50 (0,0))::F:=List.mem_cons_of_mem _ (List.mem_cons_of_mem _ hm);have ti:=z7 ok.known;have ts:=Tb.size ok.known;have rf:=rep_fold m.job.number m.job.state m.job.fault m.known ok.known;obtain⟨c0,c1,c2,c3,c4⟩:=h1.clf (b:=g) (c:=c) (by simp);have kx1:=kref _ _ h1 hmx
 have fs:=fun(v:World) (X:List (Nat × Obj)) (hv:St W v J X) (h1:(gm,Obj.cells (m.cells nv) 88 (0,0))∈X)=>(⟨(hv.md ok h1).tb.all,(hv.md ok h1).number,(hv.md ok h1).state,(hv.md ok h1).fault⟩:v.rangeAt gm 0 m.known.cells.toList∧v.cell? ⟨gm,77,none⟩=some (.int .i64 m.job.number)∧v.cell? ⟨gm,78,none⟩=some (.int .i64 m.job.state)∧v.cell? ⟨gm,79,none⟩=some (.int .i64 m.job.fault))
 have rsz:=fun(A':Option Addr) (c':Nat)=>An.size (a:=refA m 0) zt (.slice A' 0 c')
 have rai:=fun(A':Option Addr) (c':Nat)=>yv (a:=refA m 0) zt (.slice A' 0 c')
 have rao:=fun(A':Option Addr) (c':Nat)=>An.one (refA m 0) (v:=.slice A' 0 c') rfl
 have qsz:=fun(A':Option Addr) (c':Nat)=>An.size (a:=statA m) ok.known (.slice A' 0 c')
 have qai:=fun(A':Option Addr) (c':Nat)=>yv (a:=statA m) ok.known (.slice A' 0 c')
 have qao:=fun(A':Option Addr) (c':Nat)=>An.one (statA m) (v:=.slice A' 0 c') rfl
 have pr:=fun(A':Option Addr) (c':Nat)=>put_rep (refA m 0) zt (.slice A' 0 c') ⟨0,m.job.number,m.job.state,0,m.job.fault,m.known⟩ ok.known
 have yz:=Ry.size (r:=⟨0,m.job.number,m.job.state,0,m.job.fault,m.known⟩) ok.known;have yi:=yu (r:=⟨0,m.job.number,m.job.state,0,m.job.fault,m.known⟩) ok.known;have yo:=Ry.one ⟨0,m.job.number,m.job.state,0,m.job.fault,m.known⟩
 have e1:∀(A':Option Addr) (c':Nat),({ refA m 0 with rep:=⟨0,m.job.number,m.job.state,0,m.job.fault,m.known⟩ }:An).cells (.slice A' 0 c')=(statA m).cells (.slice A' 0 c'):=fun _ _=>rfl
 simp only[e1]at pr;clear e1;unfold Cl.val;generalize statA m=R at *;obtain⟨Y,hY⟩:∃Y,(⟨0,m.job.number,m.job.state,0,m.job.fault,m.known⟩:Ry).cells=Y:=⟨_,rfl⟩;obtain⟨CT,hCT⟩:∃b,m.known.cells=b:=⟨_,rfl⟩;obtain⟨jn,hjn⟩:∃b,m.job.number=b:=⟨_,rfl⟩;obtain⟨js,hjs⟩:∃b,m.job.state=b:=⟨_,rfl⟩;obtain⟨jf,hjf⟩:∃b,m.job.fault=b:=⟨_,rfl⟩;rw[hY]at pr yz yi yo;have rfx:=rf CT hCT;rw[hY]at rfx;rw[hCT]at fs ti ts;rw[hjn]at fs rfx;rw[hjs]at fs rfx;rw[hjf]at fs rfx;obtain⟨ck,hck⟩:∃b,c.kind=b:=⟨_,rfl⟩;rw[hck]at c1 h1k h2k h4k h5k h6k;obtain⟨cc,hcc⟩:∃x,c.cells=x:=⟨_,rfl⟩;rw[hcc]at h1 hmx kx1 c0 c1 c2 c3 c4 ⊢
 have yfit:∀(A':Option Addr) (c':Nat),0+Y.size≤((refA m 0).cells (.slice A' 0 c')).size:=fun A' c'=>by rw[rsz,yz];omega
 have H1:=za h1;have HM:=za hm;have HMX:=za hmx;have KX:=za kx1;have FIN:=za fin;have TI:=za ti;have FSx:=za fs;have RSZ:=za rsz;have RAIx:=za rai;have RAOx:=za rao;have QSZ:=za qsz;have QAIx:=za qai;have QAOx:=za qao;have PR:=za pr;have YI:=za yi;have YO:=za yo;have YF:=za yfit;have RFX:=za rfx;clear h1 h hm hmx kx1 kref fin ti fs rsz rai rao qsz qai qao pr yi yo yfit rfx rf ok hY hCT hjn hjs hjf hck hcc
 go_enter Tryz.func41,Tryz.ntmps41
 go_wp2_with fail;refine KX.out.mono ?_;rintro e w3 ⟨A',c',L',rfl,hr',h2⟩;have h3:=(h2.perm (L':=(g+1,.cells Tryz.zeroCells96 96 (0,0))::(g,.cells cc 50 (0,0))::(L'++F)) ze).alloc (.cells Tryz.zeroCells96 96);have rsz:=RSZ.out A' c';have rai:=RAIx.out A' c';have rao:=RAOx.out A' c';have qsz:=QSZ.out A' c';have qai:=QAIx.out A' c';have qao:=QAOx.out A' c';have pr:=PR.out A' c';have yf:=YF.out A' c'
 have fx:=fun(v:World) (cs ds:Array Value) (hv:St W v J ((g+1,.cells cs 96 (0,0))::(w3.heap.size,.cells ds 96 (0,0))::(g,.cells cc 50 (0,0))::(L'++F)))=>FIN.out v A' c' L' [(g+1,.cells cs 96 (0,0)),(w3.heap.size,.cells ds 96 (0,0)),(g,.cells cc 50 (0,0))] hr' hv
 obtain⟨Q,hQ⟩:∃Q,(refA m 0).cells (.slice A' 0 c')=Q:=⟨_,rfl⟩;obtain⟨Z,hZ⟩:∃Q,R.cells (.slice A' 0 c')=Q:=⟨_,rfl⟩;rw[hQ]at rsz rai rao pr yf ⊢;rw[hZ]at qsz qai qao pr fx
 have rfit:0+Q.size≤Tryz.zeroCells96.size:=by rw[rsz,zan];omega
 have rmany:zg Tryz.zeroCells96 0 Q.toList=Q:=by rw[zd _ _ (by rw[Array.length_toList,rsz,zan]),Array.toArray_toList]
 have zfit:0+Z.size≤Tryz.zeroCells96.size:=by rw[qsz,zan];omega
 have zmany:zg Tryz.zeroCells96 0 Z.toList=Z:=by rw[zd _ _ (by rw[Array.length_toList,qsz,zan]),Array.toArray_toList]
 have RAI:=za rai;have RAO:=za rao;have RFIT:=za rfit;have RMANY:=za rmany;have FX:=za fx;have ZAI:=za qai;have ZAO:=za qao;have ZFIT:=za zfit;have ZMANY:=za zmany;have PR2:=za pr;have YF2:=za yf;have H3:=za h3;clear rai rao rfit rmany fx hQ hZ rsz qsz qai qao zfit zmany pr yf h2 h3 hr' KX H1 FIN RSZ RAIx RAOx QSZ QAIx QAOx PR YF
 go_wp2_with (with_reducible refine zc rfl 96 (.tmp 5) (.tmp 68) rfl (g:=w3.heap.size) (off:=0) Q rfl rfl H3.out RFIT.out RAI.out RAO.out ?_;intro w4 h4;refine Hid.out ?_)
 refine za ?_;rw[RMANY.out]at h4;obtain⟨g5,hg5⟩:∃y,w3.heap.size=y:=⟨_,rfl⟩;rw[hg5]at h4 FX ⊢;have H4:=za h4;clear h4 hg5 H3;go_wp2_with fail;have HDW:=za H4.out.drew1;have HUT:=za Tryz.underlying29;have MX:=za (show ∀(Y:Array Value),(gm,Obj.cells (m.cells nv) 88 (0,0))∈(g5,Obj.cells Y 96 (0,0))::(g+1,Obj.cells Tryz.zeroCells96 96 (0,0))::(g,.cells cc 50 (0,0))::(L'++F) from fun Y=>by simp[HM.out]);have s1:=FSx.out _ _ HDW.out (MX.out _);refine wp_region_held_drew (S:=fun v=>v.rangeAt gm 0 CT.toList∧v.cell? ⟨gm,77,none⟩=some (.int .i64 jn)∧v.cell? ⟨gm,78,none⟩=some (.int .i64 js)∧v.cell? ⟨gm,79,none⟩=some (.int .i64 jf)) (by kernel_rfl) s1 (fun hHeld=>?_)
 refine tk op0 (v:=?_) (by kernel_rfl) ?_ (by assumption) ?_ fun _ _ _ h=>h
 rotate_left
 ·(refine ya rfl fun w hSw=>?_;go_simp;rfl)
 try simp only[Act.put,pu1,pu2,pu3]
 try simp only[RFX.out]
 refine tk op1 (v:=?_) (by kernel_rfl) ?_ (by assumption) ?_ fun _ _ _ h=>h
 rotate_left
 ·(refine ya rfl fun w hSw=>?_;go_simp;rfl)
 try simp only[Act.put,pu1,pu2,pu3]
 try simp only[RFX.out]
 refine tk op2 (v:=?_) (by kernel_rfl) ?_ (by assumption) ?_ fun _ _ _ h=>h
 rotate_left
 ·(refine ya rfl fun w hSw=>?_;go_simp;rfl)
 try simp only[Act.put,pu1,pu2,pu3]
 try simp only[RFX.out]
 refine tk op3 (v:=?_) (by kernel_rfl) ?_ (by assumption) ?_ fun _ _ _ h=>h
 rotate_left
 ·(refine ya rfl fun w hSw=>?_;go_simp;rfl)
 try simp only[Act.put,pu1,pu2,pu3]
 try simp only[RFX.out]
 refine tk op4 (v:=?_) (by kernel_rfl) ?_ (by assumption) ?_ fun _ _ _ h=>h
 rotate_left
 ·((refine Or.inl ⟨by rfl,?_⟩;intro w hSw;obtain⟨hS1,hS2,hS3,hS4⟩:=hSw;go_simp;try with_reducible rfl))
 try simp only[Act.put,pu1,pu2,pu3]
 try simp only[RFX.out]
 refine tk op5 (v:=?_) (by kernel_rfl) ?_ (by assumption) ?_ fun _ _ _ h=>h
 rotate_left
 ·(refine ya rfl fun w hSw=>?_;go_simp;rfl)
 try simp only[Act.put,pu1,pu2,pu3]
 try simp only[RFX.out]
 refine tk op6 (v:=?_) (by kernel_rfl) ?_ (by assumption) ?_ fun _ _ _ h=>h
 rotate_left
 ·(refine ya rfl fun w hSw=>?_;go_simp;rfl)
 try simp only[Act.put,pu1,pu2,pu3]
 try simp only[RFX.out]
 refine tk op7 (v:=?_) (by kernel_rfl) ?_ (by assumption) ?_ fun _ _ _ h=>h
 rotate_left
 ·(refine ya rfl fun w hSw=>?_;go_simp;rfl)
 try simp only[Act.put,pu1,pu2,pu3]
 try simp only[RFX.out]
 refine tk op8 (v:=?_) (by kernel_rfl) ?_ (by assumption) ?_ fun _ _ _ h=>h
 rotate_left
 ·(refine ya rfl fun w hSw=>?_;go_simp;rfl)
 try simp only[Act.put,pu1,pu2,pu3]
 try simp only[RFX.out]
 refine tk op9 (v:=?_) (by kernel_rfl) ?_ (by assumption) ?_ fun _ _ _ h=>h
 rotate_left
 ·((refine Or.inl ⟨by rfl,?_⟩;intro w hSw;obtain⟨hS1,hS2,hS3,hS4⟩:=hSw;go_simp;try with_reducible rfl))
 try simp only[Act.put,pu1,pu2,pu3]
 try simp only[RFX.out]
 refine tk (oq op0) (v:=?_) (by kernel_rfl) ?_ (by assumption) ?_ fun _ _ _ h=>h
 rotate_left
 ·(refine ya rfl fun w hSw=>?_;go_simp;rfl)
 try simp only[Act.put,pu1,pu2,pu3]
 try simp only[RFX.out]
 refine tk (oq op1) (v:=?_) (by kernel_rfl) ?_ (by assumption) ?_ fun _ _ _ h=>h
 rotate_left
 ·(refine ya rfl fun w hSw=>?_;go_simp;rfl)
 try simp only[Act.put,pu1,pu2,pu3]
 try simp only[RFX.out]
 refine tk (oq op2) (v:=?_) (by kernel_rfl) ?_ (by assumption) ?_ fun _ _ _ h=>h
 rotate_left
 ·(refine ya rfl fun w hSw=>?_;go_simp;rfl)
 try simp only[Act.put,pu1,pu2,pu3]
 try simp only[RFX.out]
 refine tk (oq op3) (v:=?_) (by kernel_rfl) ?_ (by assumption) ?_ fun _ _ _ h=>h
 rotate_left
 ·(refine ya rfl fun w hSw=>?_;go_simp;rfl)
 try simp only[Act.put,pu1,pu2,pu3]
 try simp only[RFX.out]
 refine tk (oq op4) (v:=?_) (by kernel_rfl) ?_ (by assumption) ?_ fun _ _ _ h=>h
 rotate_left
 ·((refine Or.inl ⟨by rfl,?_⟩;intro w hSw;obtain⟨hS1,hS2,hS3,hS4⟩:=hSw;go_simp;try with_reducible rfl))
 try simp only[Act.put,pu1,pu2,pu3]
 try simp only[RFX.out]
 refine tk (oq op5) (v:=?_) (by kernel_rfl) ?_ (by assumption) ?_ fun _ _ _ h=>h
 rotate_left
 ·(refine ya rfl fun w hSw=>?_;go_simp;rfl)
 try simp only[Act.put,pu1,pu2,pu3]
 try simp only[RFX.out]
 refine tk (oq op6) (v:=?_) (by kernel_rfl) ?_ (by assumption) ?_ fun _ _ _ h=>h
 rotate_left
 ·(refine ya rfl fun w hSw=>?_;go_simp;rfl)
 try simp only[Act.put,pu1,pu2,pu3]
 try simp only[RFX.out]
 refine tk (oq op7) (v:=?_) (by kernel_rfl) ?_ (by assumption) ?_ fun _ _ _ h=>h
 rotate_left
 ·(refine ya rfl fun w hSw=>?_;go_simp;rfl)
 try simp only[Act.put,pu1,pu2,pu3]
 try simp only[RFX.out]
 refine tk (oq op8) (v:=?_) (by kernel_rfl) ?_ (by assumption) ?_ fun _ _ _ h=>h
 rotate_left
 ·(((refine yieldsIf_load_mid ?_ 29 (.tmp 86) ?_ gm 0 ?_ CT.toList _ ?_ HUT.out ?_ TI.out)<;>first|rfl|exact fun w h=>h.1))
 try simp only[Act.put,pu1,pu2,pu3]
 try simp only[RFX.out]
 refine tk (oq op9) (v:=?_) (by kernel_rfl) ?_ (by assumption) ?_ fun _ _ _ h=>h
 rotate_left
 ·(refine ya rfl fun w hSw=>?_;go_simp;rfl)
 try simp only[Act.put,pu1,pu2,pu3]
 try simp only[RFX.out]
 refine tk (oq (oq op0)) (v:=?_) (by kernel_rfl) ?_ (by assumption) ?_ fun _ _ _ h=>h
 rotate_left
 ·(refine ya rfl fun w hSw=>?_;go_simp;rfl)
 try simp only[Act.put,pu1,pu2,pu3]
 try simp only[RFX.out]
 refine rd1 (oq (oq op1)) (by kernel_rfl) fun K hK=>?_
 ((refine zq rfl 52 (.tmp 89) (.tmp 88) rfl (g:=g5) (off:=0) Y rfl rfl HDW.out YF2.out YI.out YO.out ?_;intro wf hf;rw[PR2.out]at hf;dsimp only))
 refine hK.out _ _ ?_ fun hHeld=>?_
 ·(try dsimp only)<;>((exact FSx.out _ _ hf (MX.out _)))
 clear hK K
 try simp only[Act.put,pu1,pu2,pu3]
 try simp only[RFX.out]
 refine wpAnyH_done (by kernel_rfl) ?_ _;have HB:=za hf;clear hf HDW s1;have R6:Hid (wf.rangeAt g5 0 Z.toList):=za (fun j u hj=>by rw[Nat.zero_add,HB.out.cell (g:=g5) (cs:=Z) (t:=96) (fr:=(0,0)) (List.mem_cons_self ..) j];simpa using hj);have h9:=HB.out.perm (L':=(g+1,.cells Tryz.zeroCells96 96 (0,0))::(g5,.cells Z 96 (0,0))::(g,.cells cc 50 (0,0))::(L'++F)) ze;have H9:=za h9;clear h9 HB
 go_wp2_with (first|(with_reducible refine zb 90 rfl (by kernel_rfl) 96 (.tmp 5) rfl g5 0 rfl Z _ R6.out Tryz.underlying96 rfl ZAI.out ?_)|(with_reducible refine zc rfl 96 (.tmp 4) (.tmp 90) rfl (g:=g+1) (off:=0) Z rfl rfl H9.out ZFIT.out ZAI.out ZAO.out ?_;intro w8 h8;refine Hid.out ?_))
 refine za ?_;rw[ZMANY.out]at h8;have HZ:=za h8;clear h8 H9 R6;go_wp2_with fail;refine bodyPost_ret (zp rfl _ _ (g+1) 96 Z (0,0) _ rfl (HZ.out.own (g+1,.cells Z 96 (0,0)) (List.mem_cons_self ..)) Tryz.underlying96 (by kernel_rfl) ZAI.out) rfl ?_;exact FX.out _ _ _ HZ.out
end
end Go.Proofs.YtnjnooeldkideaaGreatDoor
