/-
  A part of the proof: Q45, Q46.
-/
import Derived.Test.YtcfjomnihhdpaaaGreatDoorBu18
namespace Go.Proofs.YtcfjomnihhdpaaaGreatDoor.A
open Go.RowKit Go.Proofs.YtcfjomnihhdpaaaGreatDoorW.PrintWords Go.Proofs.YtcfjomnihhdpaaaGreatDoorW.PrintLast Go.Proofs.YtcfjomnihhdpaaaGreatDoorW.PrintMore
set_option linter.unusedVariables false
set_option linter.unusedSimpArgs false
section
attribute [local go_sem] Oper.semAt_some
def WithO (O:Nat→Prop) (w:World) (r:Option S30) (e:Ending) (w' :World):Prop:=Below w.heap.size w w' ∧match r with
 |some s=>∃B1 d1 B2 d2,e= .returned (.tuple #[.agg #[.string s.f0,.slice B1 s.f1.length d1,.slice B2 s.f2.length d2],.bool true])∧TreeF w' (fun k=>O k∨w.heap.size≤k) s B1 d1 B2 d2
 |none=>e= .returned (.tuple #[.agg #[.string ⟨#[]⟩,.slice none 0 0,.slice none 0 0],.bool false])
theorem WithO.yes {O:Nat→Prop} {w w' :World} {s:S30} {B1:Option Addr} {d1:Nat} {B2:Option Addr} {d2:Nat} (hB:Below w.heap.size w w') (h:TreeF w' (fun k=>O k∨w.heap.size≤k) s B1 d1 B2 d2):WithO O w (some s) (.returned (.tuple #[.agg #[.string s.f0,.slice B1 s.f1.length d1,.slice B2 s.f2.length d2],.bool true])) w' :=⟨hB,B1,d1,B2,d2,rfl,h⟩
set_option maxHeartbeats 2000000 in
set_option maxRecDepth 100000 in
theorem with_reg11G {Q:Exit→Act→World→Prop} (t np x:S30) (hl:0<t.f2.length) (O:Nat→Prop) (w0 W wE:World) (hE:Below wE.heap.size wE W) (h0:Below w0.heap.size w0 W) (bt bn b8:Nat) (A1:Option Addr) (c1:Nat) (A2:Option Addr) (c2:Nat) (N1:Option Addr) (n1:Nat) (N2:Option Addr) (n2:Nat) (tv:TreeV w0 t A1 c1 A2 c2) (xt:W.heap[bt]? =some (.cells #[.string t.f0,.slice A1 t.f1.length c1,.slice A2 t.f2.length c2] 30 (0,0))) (xn:W.heap[bn]? =some (.cells #[.string np.f0,.slice N1 np.f1.length n1,.slice N2 np.f2.length n2] 30 (0,0))) (x8:∃y0 y1 y2,W.heap[b8]? =some (.cells #[y0,y1,y2] 30 (0,0))) (h8:∀k,O k→k<b8)
  (ih:∀(B1:Option Addr) (d1:Nat) (B2:Option Addr) (d2:Nat) (V:World),Below w0.heap.size w0 V→Below wE.heap.size wE V→TreeV w0 (kidOf t 0) B1 d1 B2 d2→Calls Tryz.prog 21 #[.agg #[.string (kidOf t 0).f0,.slice B1 (kidOf t 0).f1.length d1,.slice B2 (kidOf t 0).f2.length d2],.agg #[.string np.f0,.slice N1 np.f1.length n1,.slice N2 np.f2.length n2]] V (WithO O V (some x)))
  (f:Nat→Value) (f2:f 2= .pointer (some ⟨bt,0,none⟩)) (f3:f 3= .pointer (some ⟨bn,0,none⟩)) (f8:f 8= .pointer (some ⟨b8,0,none⟩))
  (k:∀g V X1 e1 X2 e2,g 2=f 2→g 4=f 4→g 8=f 8→V.heap[b8]? =some (.cells #[.string x.f0,.slice X1 x.f1.length e1,.slice X2 x.f2.length e2] 30 (0,0))→(∀j,j<W.heap.size→j≠b8→V.heap[j]? =W.heap[j]?)→(∀B,B≤b8→Below B W V)→TreeF V (fun k=>O k∨W.heap.size≤k) x X1 e1 X2 e2→Q .normal (frN 45 g) V) :
  Code.wp Tryz.prog (.region 11 (opsOf Tryz.f21 11) true) Q (frN 45 f) W:=by
 obtain ⟨ad,B1,d1,B2,d2,e,y0,y1,y2,hl1,hi1,hl2,hi2⟩:=at_T30 tv.k 0 (by omega) (by omega)
 subst e
 obtain ⟨z0,z1,z2,x8⟩:=x8
 simp only[opsOf,Tryz.f21,Option.bind_some,opsIn,Option.getD_some,Option.orElse,reduceIte,Nat.reduceEqDiff,Option.or_some,Option.none_or,Option.some_or,beq_iff_eq,Nat.reduceBEq,Bool.false_eq_true]
 have b2:∀{V},Below W.drew.heap.size W.drew V→Below W.heap.size W V:=fun hB=>below_step (below_drew (Below.refl _ _)) hB
 have b0:∀{V},Below W.drew.heap.size W.drew V→Below w0.heap.size w0 V:=fun hB=>below_step h0 (b2 hB)
 refine region_kl 9 45 (fun j=>j == 8) 0 7 [.is (.pointer (some ⟨bt,2,none⟩)),.is (.slice (some ad) t.f2.length c2),.is (.pointer (some (ad.add ((0:Int).toNat*3)))),.is (.agg #[.string (kidOf t 0).f0,.slice B1 (kidOf t 0).f1.length d1,.slice B2 (kidOf t 0).f2.length d2]),.is (.agg #[.string np.f0,.slice N1 np.f1.length n1,.slice N2 np.f2.length n2]),.tup (fun k=>O k∨W.heap.size≤k) x,.tup (fun k=>O k∨W.heap.size≤k) x,.tre (fun k=>O k∨W.heap.size≤k) x,.top,.top] (fun i v=>i=6→∃u,v= .tuple #[u,.bool true]) [28,29,30,31,32,33,27,34,35,909] f W
  (fun v V=>∃X1 e1 X2 e2,V.heap[b8]? =some (.cells #[.string x.f0,.slice X1 x.f1.length e1,.slice X2 x.f2.length e2] 30 (0,0))∧(∀j,j<W.heap.size→j≠b8→V.heap[j]? =W.heap[j]?)∧(∀B,B≤b8→Below B W V)∧TreeF V (fun k=>O k∨W.heap.size≤k) x X1 e1 X2 e2) (by decide) (by kernel_rfl) (by kernel_rfl) (by kernel_rfl) (by kernel_rfl) rfl (by decide) ?_ ⟨
  fun q V J hB hq h hi=>op_fa (c:=2) hi rfl rfl f2 (h _ _ rfl (.refl _ _)),
  fun q V J hB hq h hi=>op_ld28 hi rfl rfl (hq 0 rfl) (blk_cell (blk_below xt (b2 hB)) 2) (h _ _ rfl (.refl _ _)),
  fun q V J hB hq h hi=>op_ix hi rfl rfl (eq_true (by decide)) (eq_true (by omega)) (hq 1 rfl) (h _ _ rfl (.refl _ _)),
  fun q V J hB hq h hi=>op_ldT hi rfl rfl (hq 2 rfl) (pw_cell_below (b0 hB) y0) (pw_cell_below (b0 hB) y1) (pw_cell_below (b0 hB) y2) (h _ _ rfl (.refl _ _)),
  fun q V J hB hq h hi=>op_ldT (ad:=⟨bn,0,none⟩) hi rfl rfl f3 (blk_cell (blk_below xn (b2 hB)) 0) (blk_cell (blk_below xn (b2 hB)) 1) (blk_cell (blk_below xn (b2 hB)) 2) (h _ _ rfl (.refl _ _)),
  fun q V J hB hq h hi=>op_call hi (wanted_none rfl) (op_run21 rfl (hq 3 rfl) (hq 4 rfl)) ((ih B1 d1 B2 d2 V (b0 hB) (below_step hE (b2 hB)) ⟨hl1,hi1,hl2,hi2⟩).mono fun e w' hr=> ?_),
  fun q V J hB hq h hi=>op_mv hi rfl rfl rfl (h _ _ (hq 5 rfl) (.refl _ _)),
  fun q V J hB hq h hi=> ?_,
  fun q V J hB hq h hi=> ?_,trivial⟩ ?_ ?_ ?_
 ·intro i v V h hi
  subst hi
  obtain ⟨A,a,B,b,e,_⟩:=h
  exact ⟨_,e⟩
 ·obtain ⟨hb,Y1,g1,Y2,g2,rfl,hx⟩:=hr
  exact ⟨_,rfl,h _ _ ⟨Y1,g1,Y2,g2,rfl,hx.mono (fun k hk _=>hk.imp id (Nat.le_trans (b2 hB).size))⟩ hb⟩
 ·obtain ⟨Y1,g1,Y2,g2,e,hx⟩:=hq 6 rfl
  exact op_ext hi rfl rfl e rfl (h _ _ ⟨Y1,g1,Y2,g2,rfl,hx⟩ (.refl _ _))
 ·obtain ⟨Y1,g1,Y2,g2,e,hx⟩:=hq 6 rfl
  exact op_ext hi rfl rfl e rfl (h _ _ trivial (.refl _ _))
 ·intro o q V J hi hB hq h
  injection hi with hi
  subst hi
  obtain ⟨Y1,g1,Y2,g2,e,hx⟩:=hq 7 (by decide) (by decide)
  refine op_st30 rfl rfl rfl rfl f8 e (blk_below x8 (b2 hB)) fun w' h1 h2 h3=>h undef w' ⟨Y1,g1,Y2,g2,h1,fun j hj hn=>(h2 j hn).trans ((b2 hB).block j hj),fun B hb=>((b2 hB).mono (Nat.le_trans hb (Nat.le_of_lt (blk_lt x8)))).trans (h3 B hb),hx.step fun k hk hlt=>h2 k ?_⟩
  have:=blk_lt x8
  rcases hk with hk | hk
  ·have:=h8 k hk
   omega
  ·omega
 ·intro i o q V J hl' hi hd h
  rcases hl' with hl' | hl'
  ·obtain rfl:i=8:=by simpa using hl'
   injection hi with hi
   subst hi
   obtain ⟨u,e⟩:=hd 6 rfl (by decide) rfl
   exact op_ext rfl rfl rfl e rfl (h _ (fun h=>absurd h (by decide)))
  ·rw[Array.getElem?_eq_none (by simp;omega)]at hi
   cases hi
 ·rintro q V ⟨X1,e1,X2,e2,h1,h2,h3,h4⟩
  exact k _ V X1 e1 X2 e2 rfl rfl rfl h1 h2 h3 h4
set_option maxHeartbeats 2000000 in
set_option maxRecDepth 100000 in
theorem with_reg13G {Q:Exit→Act→World→Prop} (t x:S30) (hl:0<t.f2.length) (hm:t.f2.length≤2000000) (O:Nat→Prop) (w0 W:World) (hO0:∀k,k<w0.heap.size→O k) (h0:Below w0.heap.size w0 W) (bt b8 b9 M:Nat) (A1:Option Addr) (c1:Nat) (A2:Option Addr) (c2:Nat) (tv:TreeV w0 t A1 c1 A2 c2) (X1:Option Addr) (e1:Nat) (X2:Option Addr) (e2:Nat) (xt:W.heap[bt]? =some (.cells #[.string t.f0,.slice A1 t.f1.length c1,.slice A2 t.f2.length c2] 30 (0,0))) (x8:W.heap[b8]? =some (.cells #[.string x.f0,.slice X1 x.f1.length e1,.slice X2 x.f2.length e2] 30 (0,0))) (x9:W.heap[b9]? =some (.cells #[.string t.f0,.slice A1 t.f1.length c1,.slice A2 t.f2.length c2] 30 (0,0))) (hM:∀k,O k→k<M) (hM9:M≤b9) (tx:TreeF W (fun k=>O k∨M≤k∧k≠b9) x X1 e1 X2 e2)
  (f:Nat→Value) (f2:f 2= .pointer (some ⟨bt,0,none⟩)) (f8:f 8= .pointer (some ⟨b8,0,none⟩)) (f9:f 9= .pointer (some ⟨b9,0,none⟩))
  (k:∀g V A3 c3,g 4=f 4→g 9=f 9→V.heap[b9]? =some (.cells #[.string t.f0,.slice A1 t.f1.length c1,.slice A3 (x::t.f2.drop 1).length c3] 30 (0,0))→(∀j,j<W.heap.size→j≠b9→V.heap[j]? =W.heap[j]?)→(∀B,B≤b9→Below B W V)→(x::t.f2.drop 1).length≤c3→Kd.F k30 V (fun k=>O k∨M≤k∧k≠b9) A3 (x::t.f2.drop 1).length (x::t.f2.drop 1)→Q .normal (frN 45 g) V) :
  Code.wp Tryz.prog (.region 13 (opsOf Tryz.f21 13) true) Q (frN 45 f) W:=by
 obtain ⟨ad,rfl,_⟩:=tv.k.2.2 hl
 have h9:=blk_lt x9
 simp only[opsOf,Tryz.f21,Option.bind_some,opsIn,Option.getD_some,Option.orElse,reduceIte,Nat.reduceEqDiff,Option.or_some,Option.none_or,Option.some_or,beq_iff_eq,Nat.reduceBEq,Bool.false_eq_true]
 have b2:∀{V},Below W.drew.heap.size W.drew V→Below W.heap.size W V:=fun hB=>below_step (below_drew (Below.refl _ _)) hB
 have b0:∀{V},Below W.drew.heap.size W.drew V→Below w0.heap.size w0 V:=fun hB=>below_step h0 (b2 hB)
 have HFT:=Kd.F_cut (Kd.C_F k30_heap tv.k) (m:=1) hl tv.l2
 have HA:(if c2=1 then some ad else Option.map (fun x=>x.add (1*k30.sz)) (some ad))=(if c2=1 then some ad else some ⟨ad.block,ad.off+3,none⟩):=by split;rfl;exact congrArg some ((add_field ad 0 3 (by omega)).trans (by rw[Addr.add_zero']))
 have hlen:(t.f2.drop 1).length=t.f2.length-1:=List.length_drop
 rw[HA,hlen]at HFT
 have hw0:=h0.size
 refine region_ke 7 45 1 5 [.is (.agg #[.string x.f0,.slice X1 x.f1.length e1,.slice X2 x.f2.length e2]),.one W.heap.size #[.string x.f0,.slice X1 x.f1.length e1,.slice X2 x.f2.length e2],.is (.pointer (some ⟨bt,2,none⟩)),.is (.slice (some ad) t.f2.length c2),.is (.slice (if c2=1 then some ad else some ⟨ad.block,ad.off+3,none⟩) (t.f2.length-1) (c2-1)),.rows (fun k=>O k∨M≤k∧k≠b9) (x::t.f2.drop 1),.is (.pointer (some ⟨b9,2,none⟩))] [37,38,39,40,41,42,43,907] f W rfl (by kernel_rfl) (by kernel_rfl) (by kernel_rfl) ?_ (by decide) ⟨
  fun q V J hB hq h hi=>op_ldT (ad:=⟨b8,0,none⟩) hi rfl rfl f8 (blk_cell (blk_below x8 (b2 hB)) 0) (blk_cell (blk_below x8 (b2 hB)) 1) (blk_cell (blk_below x8 (b2 hB)) 2) (h _ _ rfl (.refl _ _)),
  fun q V J hB hq h hi=>op_row30 hi rfl rfl (hq 0 (by decide) rfl) (h _ _ ⟨_,rfl,(b2 hB).size,blk_new V _⟩ (below_alloc (.refl _ _) _)),
  fun q V J hB hq h hi=>op_fa (c:=2) hi rfl rfl f2 (h _ _ rfl (.refl _ _)),
  fun q V J hB hq h hi=>op_ld28 hi rfl rfl (hq 2 (by decide) rfl) (blk_cell (blk_below xt (b2 hB)) 2) (h _ _ rfl (.refl _ _)),
  fun q V J hB hq h hi=>op_sl1 hi rfl rfl (hq 3 (by decide) rfl) hl tv.l2 (h _ _ rfl (.refl _ _)),
  fun q V J hB hq h hi=> ?_,
  fun q V J hB hq h hi=>op_fa (c:=2) hi rfl rfl f9 (h _ _ rfl (.refl _ _)),trivial⟩ ?_
 ·intro j hd he v w w' h hB
  match j,hd,he,h with
  |0,_,_,h=>exact h
  |2,_,_,h=>exact h
  |3,_,_,h=>exact h
  |4,_,_,h=>exact h
  |6,_,_,h=>exact h
  |j+7,_,_,h=>exact h
 ·obtain ⟨g,ea,hg,hb⟩:=hq 1 rfl
  have eb:=hq 4 rfl
  have hx:=(tx.mono (ok' :=fun k=>(O k∨M≤k∧k≠b9)∧k≠g) (fun k hk hlt=>⟨hk,by omega⟩)).step (fun k _ hlt=>(b2 hB).block k hlt)
  refine wpOp_step hi (fun K hK=> ?_)
  refine Kd.N_append_rows_step k30 (w0:=V) 0 (wanted_none rfl) _ _ 28 30 (.agg #[.string ⟨#[]⟩,.slice none 0 0,.slice none 0 0]) 64 rfl Tryz.underlying28 (by kernel_rfl) rfl (by decide) (by decide) (.slice (some ⟨g,0,none⟩) 1 1) [x] (t.f2.drop 1) (if c2=1 then some ad else some ⟨ad.block,ad.off+3,none⟩) (t.f2.length-1) (c2-1) (fun k=>O k∨M≤k∧k≠b9) (fun k=>k<w0.heap.size) ea eb (N_one (d:=k30) (c:=[.string x.f0,.slice X1 x.f1.length e1,.slice X2 x.f2.length e2]) hb (k30_mkF _ _ x hx.l1 hx.v hx.l2 hx.k) (.inr ⟨by omega,by omega⟩)) (Kd.F_step HFT (fun k hk _=>(b0 hB).block k hk)) (fun k hk=>⟨.inl (hO0 k hk),by simp[Value.ownBlock];omega⟩) (fun k hk=> .inr (by have:=(b2 hB).size;omega)) (Below.refl 0 _) (Nat.zero_le _) (by simp;omega) ?_
  intro v1 w1 hN _ hgr _
  obtain ⟨A3,c3,rfl,hle,_⟩:=Kd.N_reads hN
  refine hK _ _ (h _ _ ⟨A3,c3,rfl,hle,Kd.N_F hN⟩ (hB.grown hgr hB.size (fun k hk=> ?_)))
  simp[Value.ownBlock]at hk
  show W.heap.size≤k
  omega
 ·intro o q V hi hB hx
  injection hi with hi
  subst hi
  obtain ⟨A3,c3,e5,hle,hF⟩:=hx 5 (by decide) (by decide)
  refine op_stc rfl rfl rfl rfl (hx 6 (by decide) (by decide)) e5 (blk_below x9 (b2 hB)) rfl ?_
  exact k _ _ A3 c3 rfl rfl (blk_put (blk_below x9 (b2 hB)) 2 _ rfl) (fun j hj hn=>(Below.heap_setCell _ ⟨b9,2,none⟩ _ j hn).trans ((b2 hB).block j hj)) (fun B hb=>((b2 hB).mono (by omega)).setCell (p:=⟨b9,2,none⟩) hb _) hle (Kd.F_step hF fun k hk _=>Below.heap_setCell _ ⟨b9,2,none⟩ _ k (by show k≠b9;exact hk.elim (fun h=>by have:=hM k h;omega) (fun h=>h.2)))
set_option maxHeartbeats 2000000 in
set_option maxRecDepth 100000 in
theorem with_modalG (t np s:S30) (hs:subjP t=some s) (h1:passF t.f0=false) (hl:0<t.f2.length) (O:Nat→Prop) (w0 w:World) (hO0:∀k,k<w0.heap.size→O k) (hOw:∀k,O k→k<w.heap.size) (h0:Below w0.heap.size w0 w) (A1:Option Addr) (c1:Nat) (A2:Option Addr) (c2:Nat) (N1:Option Addr) (n1:Nat) (N2:Option Addr) (n2:Nat) (tv:TreeV w0 t A1 c1 A2 c2) (nv:TreeF w O np N1 n1 N2 n2) (hm:t.f2.length≤2000000) (r:Option S30) (hr:r=some ⟨t.f0,t.f1,np::t.f2.drop 1⟩) :
  Calls Tryz.prog 21 #[.agg #[.string t.f0,.slice A1 t.f1.length c1,.slice A2 t.f2.length c2],.agg #[.string np.f0,.slice N1 np.f1.length n1,.slice N2 np.f2.length n2]] w (WithO O w r):=by
 obtain ⟨ad,rfl,_⟩:=tv.k.2.2 hl
 have E:=entW_mk w t A1 c1 (some ad) c2 np N1 n1 N2 n2
 have C:=Aside0.mk (subj_calls (nodes t) t (Nat.le_refl _) w0 _ A1 c1 (some ad) c2 (below_step h0 E.low) tv)
 rw[hs]at C
 have k0:=blk_cell E.bt 0
 have k1:=blk_cell E.bt 1
 have k2:=blk_cell E.bt 2
 simp at k0 k1 k2
 replace E:=Aside0.mk E
 have HO0:=Aside0.mk hO0
 have HOW:=Aside0.mk hOw
 have HR:=Aside0.mk hr
 have H0:=Aside0.mk h0
 have TV:=Aside0.mk tv
 have NV:=Aside0.mk nv
 have HL:=Aside0.mk hl
 have HM:=Aside0.mk hm
 unfold passF at h1
 simp only[Bool.or_eq_false_iff]at h1
 obtain ⟨⟨⟨⟨q0,q1⟩,q2⟩,q3⟩,q4⟩:=h1
 clear hs hr tv nv h0 hl hm hO0 hOw
 go_enter Tryz.func21,Tryz.ntmps21
 go_wp2_with (go_at_call 19;refine C.out.mono ?_;rintro e w1 ⟨hB2,E1,x1,E2,x2,rfl,hsv⟩;have HB2:=Aside0.mk hB2;have E5:=E.out.below hB2;have m0:=fun (o:Obj)=>blk_cell (blk_alloc E5.bn o) 0;have m1:=fun (o:Obj)=>blk_cell (blk_alloc E5.bn o) 1;have m2:=fun (o:Obj)=>blk_cell (blk_alloc E5.bn o) 2;have p0:=fun (o o' :Obj)=>blk_cell (blk_alloc (blk_alloc E5.bt o) o') 0;have p1:=fun (o o' :Obj)=>blk_cell (blk_alloc (blk_alloc E5.bt o) o') 1;have p2:=fun (o o' :Obj)=>blk_cell (blk_alloc (blk_alloc E5.bt o) o') 2;simp at m0 m1 m2 p0 p1 p2;clear hB2 hsv E5)
 clear m0 m1 m2 p0 p1 p2 q0 q1 q2 q3 q4 k0 k1 k2
 have EW:=(((E.out.below HB2.out).below (below_alloc (.refl _ _) (.cells #[.string s.f0,.slice E1 s.f1.length x1,.slice E2 s.f2.length x2] 30))).below (below_alloc (.refl _ _) (.cells #[.string np.f0,.slice N1 np.f1.length n1,.slice N2 np.f2.length n2] 30))).below (below_alloc (.refl _ _) (.cells #[.string t.f0,.slice A1 t.f1.length c1,.slice (some ad) t.f2.length c2] 30))
 have X8:=blk_alloc (new2 w1 (.cells #[.string s.f0,.slice E1 s.f1.length x1,.slice E2 s.f2.length x2] 30 (0,0)) (.cells #[.string np.f0,.slice N1 np.f1.length n1,.slice N2 np.f2.length n2] 30 (0,0))) (.cells #[.string t.f0,.slice A1 t.f1.length c1,.slice (some ad) t.f2.length c2] 30 (0,0))
 have X9:=show (((w1.alloc (.cells #[.string s.f0,.slice E1 s.f1.length x1,.slice E2 s.f2.length x2] 30)).alloc (.cells #[.string np.f0,.slice N1 np.f1.length n1,.slice N2 np.f2.length n2] 30)).alloc (.cells #[.string t.f0,.slice A1 t.f1.length c1,.slice (some ad) t.f2.length c2] 30)).heap[w1.heap.size+1+1]? =some (.cells #[.string t.f0,.slice A1 t.f1.length c1,.slice (some ad) t.f2.length c2] 30 (0,0))from (show ((w1.alloc (.cells #[.string s.f0,.slice E1 s.f1.length x1,.slice E2 s.f2.length x2] 30)).alloc (.cells #[.string np.f0,.slice N1 np.f1.length n1,.slice N2 np.f2.length n2] 30)).heap.size=w1.heap.size+1+1 by simp)▸blk_new ((w1.alloc (.cells #[.string s.f0,.slice E1 s.f1.length x1,.slice E2 s.f2.length x2] 30)).alloc (.cells #[.string np.f0,.slice N1 np.f1.length n1,.slice N2 np.f2.length n2] 30)) (.cells #[.string t.f0,.slice A1 t.f1.length c1,.slice (some ad) t.f2.length c2] 30)
 have hw1:=Nat.le_trans E.out.sz HB2.out.size
 have hwz:=show (((w1.alloc (.cells #[.string s.f0,.slice E1 s.f1.length x1,.slice E2 s.f2.length x2] 30)).alloc (.cells #[.string np.f0,.slice N1 np.f1.length n1,.slice N2 np.f2.length n2] 30)).alloc (.cells #[.string t.f0,.slice A1 t.f1.length c1,.slice (some ad) t.f2.length c2] 30)).heap.size=w1.heap.size+3 by simp
 generalize hW2:((w1.alloc (.cells #[.string s.f0,.slice E1 s.f1.length x1,.slice E2 s.f2.length x2] 30)).alloc (.cells #[.string np.f0,.slice N1 np.f1.length n1,.slice N2 np.f2.length n2] 30)).alloc (.cells #[.string t.f0,.slice A1 t.f1.length c1,.slice (some ad) t.f2.length c2] 30)=W2 at *
 clear hW2
 have h9:w.heap.size+3≤w1.heap.size∧w1.heap.size+3=W2.heap.size:=⟨hw1,hwz.symm⟩
 have hb0:=below_step H0.out EW.low
 have hz0:=H0.out.size
 refine to_frN 45 rfl fun f hf=> ?_
 have q4:f 4=_:=hf 4
 have q9:f 9=_:=hf 9
 refine with_reg13G t np HL.out HM.out O w0 W2 HO0.out hb0 w.heap.size (w1.heap.size+1) (w1.heap.size+1+1) (w1.heap.size+1+1) A1 c1 (some ad) c2 TV.out N1 n1 N2 n2 EW.bt X8 X9 (fun k hk=>by have:=HOW.out k hk;omega) (by omega) ((NV.out.step (W:=W2) (fun k _ hlt=>EW.low.block k hlt)).mono (fun k hk _=> .inl hk)) f (hf 2) (hf 8) q9 ?_
 intro g V A3 c3 g4 g9 z9 zj zb hle hF
 have ER:=Aside0.mk ((zj _ (by omega) (by omega)).trans EW.br)
 have HZ:=Aside0.mk z9
 have HB9:=Aside0.mk ((EW.low).trans (zb _ (by omega)))
 have HF:=Aside0.mk hF
 have HLE:=Aside0.mk hle
 rw[frN45]
 replace g4:=g4.trans q4
 replace g9:=g9.trans q9
 have a0:=blk_cell HZ.out 0
 have a1:=blk_cell HZ.out 1
 have a2:=blk_cell HZ.out 2
 have r0:=blk_cell ER.out 0
 have r1:=blk_cell ER.out 1
 have r2:=blk_cell ER.out 2
 have f0:=blk_frozen ER.out 0
 have f1:=blk_frozen ER.out 1
 have f2:=blk_frozen ER.out 2
 simp only[List.getElem?_toArray,List.getElem?_cons_zero,List.getElem?_cons_succ]at a0 a1 a2 r0 r1 r2
 have HX:=Aside0.mk EW
 have H9:=Aside0.mk h9
 clear z9 zj zb hle hF h9 EW
 go_wp2
 refine bodyPost_ret (results_list (rs:=[.cell 4 30,.tmp 5]) rfl (by simp) (.cell (w.heap.size+1+1) 30 _ (0,0) _ g4 (fin3 (W:=V) ER.out (.string t.f0) (.slice A1 t.f1.length c1) (.slice A3 _ c3)) Tryz.underlying30 rfl (by kernel_rfl) (.tmp .nil))) rfl ?_
 rw[HR.out]
 have hB:=fin3_below HB9.out (g:=w.heap.size+1+1) (by omega) (.string t.f0) (.slice A1 t.f1.length c1) (.slice A3 (np::t.f2.drop 1).length c3)
 have e9:(np::t.f2.drop 1).length=t.f2.length-1+1:=by simp
 have hy:=WithO.yes (O:=O) (w:=w) (s:=⟨t.f0,t.f1,np::t.f2.drop 1⟩) hB ⟨TV.out.l1,Kd.F_mono (Kd.F_step (Kd.C_F (Kd.heap_int .i64) TV.out.v) (fun k hk hlt=>(below_step H0.out hB).block k hlt)) (fun k hk=> .inl (HO0.out k hk)),HLE.out,Kd.F_mono (Kd.F_step HF.out (fun k hk _=>fin3_far (W:=V) (g:=w.heap.size+1+1) (k:=k) (by have:=H9.out;exact hk.elim (fun h=>by have:=HOW.out k h;omega) (fun h=>by omega)) _ _ _)) (fun k hk=>hk.imp id (fun h=>by have:=H9.out;omega))⟩
 simp only[e9]at hy
 exact hy
set_option maxHeartbeats 4000000 in
set_option maxRecDepth 100000 in
theorem with_passG (t np s x:S30) (hs:subjP t=some s) (h1:passF t.f0=true) (hl:0<t.f2.length) (O:Nat→Prop) (w0 w:World) (hO0:∀k,k<w0.heap.size→O k) (hOw:∀k,O k→k<w.heap.size) (h0:Below w0.heap.size w0 w) (A1:Option Addr) (c1:Nat) (A2:Option Addr) (c2:Nat) (N1:Option Addr) (n1:Nat) (N2:Option Addr) (n2:Nat) (tv:TreeV w0 t A1 c1 A2 c2) (hm:t.f2.length≤2000000) (r:Option S30) (hr:r=some ⟨t.f0,t.f1,x::t.f2.drop 1⟩)
  (ih:∀(B1:Option Addr) (d1:Nat) (B2:Option Addr) (d2:Nat) (V:World),Below w0.heap.size w0 V→Below w.heap.size w V→TreeV w0 (kidOf t 0) B1 d1 B2 d2→Calls Tryz.prog 21 #[.agg #[.string (kidOf t 0).f0,.slice B1 (kidOf t 0).f1.length d1,.slice B2 (kidOf t 0).f2.length d2],.agg #[.string np.f0,.slice N1 np.f1.length n1,.slice N2 np.f2.length n2]] V (WithO O V (some x))) :
  Calls Tryz.prog 21 #[.agg #[.string t.f0,.slice A1 t.f1.length c1,.slice A2 t.f2.length c2],.agg #[.string np.f0,.slice N1 np.f1.length n1,.slice N2 np.f2.length n2]] w (WithO O w r):=by
 obtain ⟨ad,rfl,_⟩:=tv.k.2.2 hl
 have E:=entW_mk w t A1 c1 (some ad) c2 np N1 n1 N2 n2
 have C:=Aside0.mk (subj_calls (nodes t) t (Nat.le_refl _) w0 _ A1 c1 (some ad) c2 (below_step h0 E.low) tv)
 rw[hs]at C
 have k0:=blk_cell E.bt 0
 have k1:=blk_cell E.bt 1
 have k2:=blk_cell E.bt 2
 simp at k0 k1 k2
 replace E:=Aside0.mk E
 have HO0:=Aside0.mk hO0
 have HOW:=Aside0.mk hOw
 have HR:=Aside0.mk hr
 have H0:=Aside0.mk h0
 have TV:=Aside0.mk tv
 have HL:=Aside0.mk hl
 have HM:=Aside0.mk hm
 have IH:=Aside0.mk ih
 clear hs hr tv h0 hl hm ih hO0 hOw
 refine pass_cases h1 _ ?_ ?_ ?_ ?_ ?_<;>intros
 all_goals
  go_enter Tryz.func21,Tryz.ntmps21
  go_wp2_with (go_at_call 19;refine C.out.mono ?_;rintro e w1 ⟨hB2,E1,x1,E2,x2,rfl,hsv⟩;have HB2:=Aside0.mk hB2;have E5:=E.out.below hB2;have m0:=fun (o:Obj)=>blk_cell (blk_alloc E5.bn o) 0;have m1:=fun (o:Obj)=>blk_cell (blk_alloc E5.bn o) 1;have m2:=fun (o:Obj)=>blk_cell (blk_alloc E5.bn o) 2;have p0:=fun (o o' :Obj)=>blk_cell (blk_alloc (blk_alloc E5.bt o) o') 0;have p1:=fun (o o' :Obj)=>blk_cell (blk_alloc (blk_alloc E5.bt o) o') 1;have p2:=fun (o o' :Obj)=>blk_cell (blk_alloc (blk_alloc E5.bt o) o') 2;simp at m0 m1 m2 p0 p1 p2;clear hB2 hsv E5)
  clear m0 m1 m2 p0 p1 p2 k0 k1 k2
  have EW:=((E.out.below HB2.out).below (below_alloc (.refl _ _) (.cells #[.string s.f0,.slice E1 s.f1.length x1,.slice E2 s.f2.length x2] 30))).below (below_alloc (.refl _ _) (.cells #[.string np.f0,.slice N1 np.f1.length n1,.slice N2 np.f2.length n2] 30))
  have X8:=new2 w1 (.cells #[.string s.f0,.slice E1 s.f1.length x1,.slice E2 s.f2.length x2] 30 (0,0)) (.cells #[.string np.f0,.slice N1 np.f1.length n1,.slice N2 np.f2.length n2] 30 (0,0))
  have hw1:=Nat.le_trans E.out.sz HB2.out.size
  have hwz:=show ((w1.alloc (.cells #[.string s.f0,.slice E1 s.f1.length x1,.slice E2 s.f2.length x2] 30)).alloc (.cells #[.string np.f0,.slice N1 np.f1.length n1,.slice N2 np.f2.length n2] 30)).heap.size=w1.heap.size+2 by simp
  generalize hV2:((w1.alloc (.cells #[.string s.f0,.slice E1 s.f1.length x1,.slice E2 s.f2.length x2] 30)).alloc (.cells #[.string np.f0,.slice N1 np.f1.length n1,.slice N2 np.f2.length n2] 30))=V2 at *
  clear hV2
  have hb0:=below_step H0.out EW.low
  have hz0:=H0.out.size
  refine to_frN 45 rfl fun f hf=> ?_
  have q4:f 4=_:=hf 4
  have q2:f 2=_:=hf 2
  refine with_reg11G t np x HL.out O w0 V2 w EW.low hb0 w.heap.size (w.heap.size+1) (w1.heap.size+1) A1 c1 (some ad) c2 N1 n1 N2 n2 TV.out EW.bt EW.bn ⟨_,_,_,X8⟩ (fun k hk=>by have:=HOW.out k hk;omega) IH.out f q2 (hf 3) (hf 8) ?_
  intro g V X1 e1 X2 e2 g2 g4 g8 x8 xj xb hx
  replace g2:=g2.trans q2
  replace g4:=g4.trans q4
  replace g8:=g8.trans (hf 8)
  have hvl:=(xb 0 (Nat.zero_le _)).size
  have EV:EntW w V t A1 c1 (some ad) c2 np N1 n1 N2 n2:=⟨(xj _ (by omega) (by omega)).trans EW.bt,(xj _ (by omega) (by omega)).trans EW.bn,(xj _ (by omega) (by omega)).trans EW.br,EW.low.trans (xb _ (by omega)),by omega⟩
  have hb1:=hb0.trans (xb _ (by omega))
  have v0:=blk_cell EV.bt 0
  have v1:=blk_cell EV.bt 1
  have v2:=blk_cell EV.bt 2
  simp at v0 v1 v2
  have HX8:=Aside0.mk x8
  have HXT:=Aside0.mk hx
  clear x8 xj xb hx EW X8 hf
  rw[frN45]
  go_wp2_with fail
  clear v0 v1 v2
  have EW:=EV.below (below_alloc (.refl _ _) (.cells #[.string t.f0,.slice A1 t.f1.length c1,.slice (some ad) t.f2.length c2] 30))
  have Y8:=blk_alloc HX8.out (.cells #[.string t.f0,.slice A1 t.f1.length c1,.slice (some ad) t.f2.length c2] 30 (0,0))
  have Y9:=blk_new V (.cells #[.string t.f0,.slice A1 t.f1.length c1,.slice (some ad) t.f2.length c2] 30)
  have hb2:=below_step hb1 (below_alloc (.refl _ _) (.cells #[.string t.f0,.slice A1 t.f1.length c1,.slice (some ad) t.f2.length c2] 30))
  have hxt:=(HXT.out.mono (ok' :=fun k=>O k∨V2.heap.size≤k∧k≠V.heap.size) (fun k hk hlt=>hk.imp id fun hk=>⟨hk,by omega⟩)).step (W:=V.alloc (.cells #[.string t.f0,.slice A1 t.f1.length c1,.slice (some ad) t.f2.length c2] 30)) (fun k _ hk=>(below_alloc (Below.refl V.heap.size V) (.cells #[.string t.f0,.slice A1 t.f1.length c1,.slice (some ad) t.f2.length c2] 30)).block k hk)
  have hwz2:=show (V.alloc (.cells #[.string t.f0,.slice A1 t.f1.length c1,.slice (some ad) t.f2.length c2] 30)).heap.size=V.heap.size+1 by simp
  generalize hW2:V.alloc (.cells #[.string t.f0,.slice A1 t.f1.length c1,.slice (some ad) t.f2.length c2] 30)=W2 at *
  clear hW2
  have h9:w.heap.size+3≤w1.heap.size∧w1.heap.size+2=V2.heap.size∧V2.heap.size≤V.heap.size∧V.heap.size+1=W2.heap.size:=⟨hw1,hwz.symm,hvl,hwz2.symm⟩
  refine to_frN 45 rfl fun f' hf=> ?_
  have q4:f' 4=_:=(show f' 4=g 4 from hf 4).trans g4
  have q9:f' 9=_:=hf 9
  refine with_reg13G t x HL.out HM.out O w0 W2 HO0.out hb2 w.heap.size (w1.heap.size+1) V.heap.size V2.heap.size A1 c1 (some ad) c2 TV.out X1 e1 X2 e2 EW.bt Y8 Y9 (fun k hk=>by have:=HOW.out k hk;omega) (by omega) hxt f' ((show f' 2=g 2 from hf 2).trans g2) ((show f' 8=g 8 from hf 8).trans g8) q9 ?_
  intro g V A3 c3 g4 g9 z9 zj zb hle hF
  have ER:=Aside0.mk ((zj _ (by omega) (by omega)).trans EW.br)
  have HZ:=Aside0.mk z9
  have HB9:=Aside0.mk ((EW.low).trans (zb _ (by omega)))
  have HF:=Aside0.mk hF
  have HLE:=Aside0.mk hle
  rw[frN45]
  replace g4:=g4.trans q4
  replace g9:=g9.trans q9
  have a0:=blk_cell HZ.out 0
  have a1:=blk_cell HZ.out 1
  have a2:=blk_cell HZ.out 2
  have r0:=blk_cell ER.out 0
  have r1:=blk_cell ER.out 1
  have r2:=blk_cell ER.out 2
  have f0:=blk_frozen ER.out 0
  have f1:=blk_frozen ER.out 1
  have f2:=blk_frozen ER.out 2
  simp only[List.getElem?_toArray,List.getElem?_cons_zero,List.getElem?_cons_succ]at a0 a1 a2 r0 r1 r2
  have HX:=Aside0.mk EW
  have H9:=Aside0.mk h9
  clear z9 zj zb hle hF h9 EW
  go_wp2
  refine bodyPost_ret (results_list (rs:=[.cell 4 30,.tmp 5]) rfl (by simp) (.cell (w.heap.size+1+1) 30 _ (0,0) _ g4 (fin3 (W:=V) ER.out (.string t.f0) (.slice A1 t.f1.length c1) (.slice A3 _ c3)) Tryz.underlying30 rfl (by kernel_rfl) (.tmp .nil))) rfl ?_
  rw[HR.out]
  have hB:=fin3_below HB9.out (g:=w.heap.size+1+1) (by omega) (.string t.f0) (.slice A1 t.f1.length c1) (.slice A3 (x::t.f2.drop 1).length c3)
  have e9:(x::t.f2.drop 1).length=t.f2.length-1+1:=by simp
  have hy:=WithO.yes (O:=O) (w:=w) (s:=⟨t.f0,t.f1,x::t.f2.drop 1⟩) hB ⟨TV.out.l1,Kd.F_mono (Kd.F_step (Kd.C_F (Kd.heap_int .i64) TV.out.v) (fun k hk hlt=>(below_step H0.out hB).block k hlt)) (fun k hk=> .inl (HO0.out k hk)),HLE.out,Kd.F_mono (Kd.F_step HF.out (fun k hk _=>fin3_far (W:=V) (g:=w.heap.size+1+1) (k:=k) (by have:=H9.out;exact hk.elim (fun h=>by have:=HOW.out k h;omega) (fun h=>by omega)) _ _ _)) (fun k hk=>hk.imp id (fun h=>by have:=H9.out;omega))⟩
  simp only[e9]at hy
  exact hy
theorem with_callsG (np:S30):∀(n:Nat) (t:S30),nodes t≤n→Sm t→∀(O:Nat→Prop) (w0 w:World),(∀k,k<w0.heap.size→O k)→(∀k,O k→k<w.heap.size)→∀(A1:Option Addr) (c1:Nat) (A2:Option Addr) (c2:Nat) (N1:Option Addr) (n1:Nat) (N2:Option Addr) (n2:Nat),Below w0.heap.size w0 w→TreeV w0 t A1 c1 A2 c2→TreeF w O np N1 n1 N2 n2 →
  Calls Tryz.prog 21 #[.agg #[.string t.f0,.slice A1 t.f1.length c1,.slice A2 t.f2.length c2],.agg #[.string np.f0,.slice N1 np.f1.length n1,.slice N2 np.f2.length n2]] w (WithO O w (withP t np))
 |0,t,hn,_=>absurd hn (by have:=nodes_eq t;omega)
 |n+1,t,hn,hsm=>fun O w0 w hO0 hOw A1 c1 A2 c2 N1 n1 N2 n2 h0 tv nv=>by
  have hm:=(Sm.eq t).1 hsm
  cases hs:subjP t with
  |none =>
   have hw:withP t np=none:=by
    have h:=with_subj np (nodes t) t (Nat.le_refl _)
    rw[hs]at h
    cases hq:withP t np with
    |none=>rfl
    |some x=>rw[hq]at h;cases h
   have h:=with_no t np hs w0 w h0 A1 c1 A2 c2 N1 n1 N2 n2 tv
   rw[hw]at h ⊢
   exact h
  |some s =>
   have hl:0<t.f2.length:=by
    rcases Nat.eq_zero_or_pos t.f2.length with h | h
    ·rw[subjP_none h]at hs;cases hs
    ·exact h
   have hk:kidOf t 0∈t.f2:=by unfold kidOf;rw[List.getD_eq_getElem?_getD,List.getElem?_eq_getElem hl];exact List.getElem_mem _
   have hsk:=SmL.mem hm.2.2.2 hk
   have hs2:=hs
   rw[subjP_some hl]at hs2
   rw[withP_some hl]
   by_cases h1:modalF t.f0=true
   ·rw[if_pos h1]
    have h2:passF t.f0=false:=modal_pass h1
    exact with_modalG t np s hs h2 hl O w0 w hO0 hOw h0 A1 c1 A2 c2 N1 n1 N2 n2 tv nv hm.2.2.1 _ rfl
   ·rw[if_neg h1]at hs2 ⊢
    by_cases h2:passF t.f0=true
    ·rw[if_pos h2]at hs2 ⊢
     have hiso:=with_subj np (nodes (kidOf t 0)) (kidOf t 0) (Nat.le_refl _)
     rw[hs2]at hiso
     cases hw:withP (kidOf t 0) np with
     |none=>rw[hw]at hiso;cases hiso
     |some x=>exact with_passG t np s x hs h2 hl O w0 w hO0 hOw h0 A1 c1 A2 c2 N1 n1 N2 n2 tv hm.2.2.1 _ rfl (fun B1 d1 B2 d2 W hW hwW hv=>hw▸with_callsG np n (kidOf t 0) (nodes_kid hn hl) hsk O w0 W hO0 (fun k hk=>Nat.lt_of_lt_of_le (hOw k hk) hwW.size) B1 d1 B2 d2 N1 n1 N2 n2 hW hv (nv.step fun k _ hlt=>hwW.block k hlt))
    ·rw[if_neg h2]at hs2;cases hs2
end
section
attribute [local go_sem] Oper.semAt_some
theorem rows_new2 {w:World} {ok:Nat→Prop} {g:Nat} {t u:S30} {a b:List Value} (hg:w.heap[g]? =some (.cells (a++b).toArray 30 (0,0))) (h1:Kd.FK k30 w ok t a) (h2:Kd.FK k30 w ok u b):Kd.F k30 w (fun k=>ok k∨k=g) (some ⟨g,0,none⟩) 2 [t,u]:=by
 intro W' hW
 have hg' :W'.heap[g]? =some (.cells (a++b).toArray 30 (0,0)):=(hW g (.inr rfl) (blk_lt hg)).trans hg
 obtain ⟨A,c,e,_,hC⟩:=isL_blk [t,u] (a++b) hg' (Kd.reps_append (reps1 (h1 W' (fun k hk hlt=>hW k (.inl hk) hlt))) (reps1 (h2 W' (fun k hk hlt=>hW k (.inl hk) hlt)))) (by simp)
 injection e with e
 subst e
 exact hC
def Kb.rows (l:List S30):Kb:=⟨fun v w pr=>∃A c,v= .slice A l.length c∧l.length≤c∧Kd.F k30 w (fun k=>¬pr k) A l.length l,fun v w pr w' pr' h hc=>by
 obtain ⟨A,c,e,h1,h2⟩:=h
 exact ⟨A,c,e,h1,Kd.F_mono (Kd.F_step (Kd.F_bound h2) (fun k hk hlt=>hc.block k hlt hk.1)) (fun k ho hp=>ho.1 ((hc.pr k ho.2).1 hp))⟩⟩
def Kn.gd (c:Bool) (K:Kn):Kn:=⟨fun v w=>if c=true then K.In v w else v=undef,fun v w w' h hB=>by
 by_cases hc:c=true
 ·rw[if_pos hc]at h ⊢;exact K.st v w w' h hB
 ·rw[if_neg hc]at h ⊢;exact h⟩
theorem gd_on {c:Bool} {K:Kn} {v:Value} {w:World} (e:c=true) (h:K.In v w):(Kn.gd c K).In v w:=by
 show if c=true then K.In v w else v=undef
 rw[if_pos e];exact h
theorem gd_off {c:Bool} {K:Kn} {w:World} (e:c=false):(Kn.gd c K).In undef w:=by
 show if c=true then K.In undef w else undef=undef
 rw[if_neg (by rw[e];decide)]
theorem gd_get {c:Bool} {K:Kn} {v:Value} {w:World} (e:c=true) (h:(Kn.gd c K).In v w):K.In v w:=by
 have h:if c=true then K.In v w else v=undef:=h
 rwa [if_pos e]at h
section
variable {ops:Array Oper} {Q:Exit→Act→World→Prop} {i:Nat} {o:Oper} {J:Act→World→Prop} {a:Act} {w:World}
theorem op_gd {j:Nat} {want b:Bool} (hi:ops[i]? =some o) (hg:o.guard=some (j,want)) (hv:((ops[j]?).bind (·.dst)).bind (a.tmps[·]?)=some (.bool b)) (hoff:(b == want)=false→J (a.put o.dst undef) w) (hon:(b == want)=true→∀ops' :Array Oper,ops'[i]? =some {o with guard:=none}→wpOp Tryz.prog ops' Q i J a w):wpOp Tryz.prog ops Q i J a w:=by
 have hw:=wanted_if hg hv
 cases h:(b == want)with
 |true=>exact wp_guard hi (hw.trans h) (hon h)
 |false=>exact op_skip hi (hw.trans h) (hoff h)
theorem op_loadTB {t:S30} {k:Tmp} {g:Nat} {pr:Nat→Prop} {W:World} (hi:ops[i]? =some o) (hg:o.guard=none) (ho:o.op= .load 30 (.tmp k)) (ha:a.tmps[k]?.getD undef= .pointer (some ⟨g,0,none⟩)) (hA:AtT W g t) (hB:Below W.heap.size W w) (hp:∀k,pr k→W.heap.size≤k) (h:∀u,(Kb.tre t).In u w pr→J (a.put o.dst u) w):wpOp Tryz.prog ops Q i J a w:=by
 obtain ⟨A1,c1,A2,c2,hb,hT⟩:=hA
 have h:=h _ ⟨A1,c1,A2,c2,rfl,hT.l1,Kd.F_mono (Kd.F_step (Kd.C_F (Kd.heap_int .i64) hT.v) (fun k _ hlt=>hB.block k hlt)) (fun k hk hpk=>by have:=hp k hpk;omega),hT.l2,Kd.F_mono (Kd.F_step (Kd.C_F k30_heap hT.k) (fun k _ hlt=>hB.block k hlt)) (fun k hk hpk=>by have:=hp k hpk;omega)⟩
 exact op_ldT (ad:=⟨g,0,none⟩) hi hg ho ha (blk_cell (blk_below hb hB) 0) (blk_cell (blk_below hb hB) 1) (blk_cell (blk_below hb hB) 2) h
theorem op_row2B {t u:S30} {k k2:Tmp} {v v2:Value} {pr:Nat→Prop} (hi:ops[i]? =some o) (hg:o.guard=none) (ho:o.op= .buildSlice 28 2 #[(0,.tmp k),(1,.tmp k2)]) (ha:a.tmps[k]?.getD undef=v) (ha2:a.tmps[k2]?.getD undef=v2) (hv:(Kb.tre t).In v w pr) (hv2:(Kb.tre u).In v2 w pr) (hp:∀k,pr k→k<w.heap.size) (h:∀x w',(Kb.rows [t,u]).In x w' pr→Below w.heap.size w w' →J (a.put o.dst x) w'):wpOp Tryz.prog ops Q i J a w:=by
 obtain ⟨A1,c1,A2,c2,rfl,hT⟩:=hv
 obtain ⟨B1,d1,B2,d2,rfl,hU⟩:=hv2
 have hB:=below_alloc (Below.refl w.heap.size w) (.cells #[.string t.f0,.slice A1 t.f1.length c1,.slice A2 t.f2.length c2,.string u.f0,.slice B1 u.f1.length d1,.slice B2 u.f2.length d2] 30)
 have hT' :=hT.step (fun k _ hlt=>hB.block k hlt)
 have hU' :=hU.step (fun k _ hlt=>hB.block k hlt)
 refine op_value hi (wanted_none hg) (v:= .slice (some ⟨w.heap.size,0,none⟩) 2 2) ?_ (h _ _ ⟨_,2,rfl,Nat.le_refl _,Kd.F_mono (rows_new2 (a:=[.string t.f0,.slice A1 t.f1.length c1,.slice A2 t.f2.length c2]) (b:=[.string u.f0,.slice B1 u.f1.length d1,.slice B2 u.f2.length d2]) (heap_alloc_new w _) (k30_mkF _ _ t hT'.l1 hT'.v hT'.l2 hT'.k) (k30_mkF _ _ u hU'.l1 hU'.v hU'.l2 hU'.k)) (fun k hk hpk=>hk.elim (fun h=>h hpk) (fun h=>by have:=hp k hpk;omega))⟩ hB)
 unfold execOp
 rw[ho]
 go_simp
theorem op_withB {t np:S30} {k k2:Tmp} {ts:Array TypeId} {v2:Value} {A1 A2:Option Addr} {c1 c2:Nat} {pr:Nat→Prop} {W:World} {x:S30} {b:Bool} (hi:ops[i]? =some o) (hg:o.guard=none) (ho:o.op= .call {callee:= .value (.func 21),args:= #[.tmp k,.tmp k2],argTypes:=ts}) (ha:a.tmps[k]?.getD undef= .agg #[.string t.f0,.slice A1 t.f1.length c1,.slice A2 t.f2.length c2]) (ha2:a.tmps[k2]?.getD undef=v2) (hx:(withP t np).getD z30=x) (hb:(withP t np).isSome=b) (tv:TreeV W t A1 c1 A2 c2) (hv:(Kb.tre np).In v2 w pr) (hsm:Sm t) (hB:Below W.heap.size W w) (hp:∀k,pr k→W.heap.size≤k∧k<w.heap.size) (h:∀u w',(∃u',u= .tuple #[u',.bool b]∧(Kb.tre x).In u' w' pr)→Below w.heap.size w w' →J (a.put o.dst u) w'):wpOp Tryz.prog ops Q i J a w:=by
 obtain ⟨B1,d1,B2,d2,rfl,hN⟩:=hv
 refine op_call (f:=21) (args:= #[.agg #[.string t.f0,.slice A1 t.f1.length c1,.slice A2 t.f2.length c2],.agg #[.string np.f0,.slice B1 np.f1.length d1,.slice B2 np.f2.length d2]]) hi (wanted_none hg) ?_ ((with_callsG np (nodes t) t (Nat.le_refl _) hsm (fun k=>¬pr k∧k<w.heap.size) W w (fun k hk=>⟨fun hpk=>by have:=(hp k hpk).1;omega,Nat.lt_of_lt_of_le hk hB.size⟩) (fun k hk=>hk.2) A1 c1 A2 c2 B1 d1 B2 d2 hB tv (hN.mono fun k hk hlt=>⟨hk,hlt⟩)).mono ?_)
 ·have he:=enters_of Tryz.func21 (by kernel_rfl) rfl #[.agg #[.string t.f0,.slice A1 t.f1.length c1,.slice A2 t.f2.length c2],.agg #[.string np.f0,.slice B1 np.f1.length d1,.slice B2 np.f2.length d2]] w
  unfold execOp
  rw[ho]
  go_simp
 ·rintro e w' ⟨hb',hr⟩
  subst hx
  subst hb
  revert h
  cases hq:withP t np with
  |none =>
   rw[hq]at hr
   intro h
   exact ⟨_,hr,h _ _ ⟨_,rfl,none,0,none,0,rfl,Nat.le_refl _,fun W' _=>Kd.C_nil _ _,Nat.le_refl _,fun W' _=>Kd.C_nil _ _⟩ hb'⟩
  |some s =>
   rw[hq]at hr
   obtain ⟨D1,e1,D2,e2,he,hf⟩:=hr
   intro h
   exact ⟨_,he,h _ _ ⟨_,rfl,D1,e1,D2,e2,rfl,hf.mono fun k hk _ hpk=>hk.elim (fun h=>h.1 hpk) (fun h=>by have:=(hp k hpk).2;omega)⟩ hb'⟩
theorem op_withT {t np:S30} {k k2:Tmp} {ts:Array TypeId} {v v2:Value} {x:S30} {b:Bool} (hi:ops[i]? =some o) (hg:o.guard=none) (ho:o.op= .call {callee:= .value (.func 21),args:= #[.tmp k,.tmp k2],argTypes:=ts}) (ha:a.tmps[k]?.getD undef=v) (ha2:a.tmps[k2]?.getD undef=v2) (hx:(withP t np).getD z30=x) (hb:(withP t np).isSome=b) (hv:IsT w t v) (hv2:IsT w np v2) (hsm:Sm t) (h:∀u w',IsT w' x u→Below w.heap.size w w' →J (a.put o.dst (.tuple #[u,.bool b])) w'):wpOp Tryz.prog ops Q i J a w:=by
 obtain ⟨A1,c1,A2,c2,rfl,hT⟩:=hv
 obtain ⟨B1,d1,B2,d2,rfl,hN⟩:=hv2
 refine op_call (f:=21) (args:= #[.agg #[.string t.f0,.slice A1 t.f1.length c1,.slice A2 t.f2.length c2],.agg #[.string np.f0,.slice B1 np.f1.length d1,.slice B2 np.f2.length d2]]) hi (wanted_none hg) ?_ ((with_calls np (nodes t) t (Nat.le_refl _) hsm w w A1 c1 A2 c2 B1 d1 B2 d2 (.refl _ _) hT hN).mono ?_)
 ·have he:=enters_of Tryz.func21 (by kernel_rfl) rfl #[.agg #[.string t.f0,.slice A1 t.f1.length c1,.slice A2 t.f2.length c2],.agg #[.string np.f0,.slice B1 np.f1.length d1,.slice B2 np.f2.length d2]] w
  unfold execOp
  rw[ho]
  go_simp
 ·rintro e w' ⟨hb',hr⟩
  subst hx
  subst hb
  revert h
  cases hq:withP t np with
  |none =>
   rw[hq]at hr
   intro h
   exact ⟨_,hr,h _ _ ⟨none,0,none,0,rfl,Nat.le_refl _,Kd.C_nil _ _,Nat.le_refl _,Kd.C_nil _ _⟩ hb'⟩
  |some s =>
   rw[hq]at hr
   obtain ⟨D1,e1,D2,e2,he,hf⟩:=hr
   intro h
   exact ⟨_,he,h _ _ ⟨D1,e1,D2,e2,rfl,hf.now⟩ hb'⟩
theorem tree_callsX (nm:ByteArray) (A:Option Addr) (n c:Nat) (w:World):Calls Tryz.prog 32 #[.string nm,.slice A n c] w fun e w' =>e= .returned (.agg #[.string nm,.slice none 0 0,.slice A n c])∧Below w.heap.size w w' :=by
 go_enter Tryz.func32,Tryz.ntmps32
 go_wp2
 refine bodyPost_ret (results_single rfl (.cell w.heap.size 30 _ (0,0) _ rfl (blk_new w (.cells #[.string nm,.slice none 0 0,.slice A n c] 30)) Tryz.underlying30 rfl (by kernel_rfl) .nil)) rfl ?_
 exact ⟨rfl,below_alloc (Below.refl w.heap.size w) (.cells #[.string nm,.slice none 0 0,.slice A n c] 30)⟩
theorem op_treeB {nm:ByteArray} {l:List S30} {k:Tmp} {v:Value} {pr:Nat→Prop} (hi:ops[i]? =some o) (hg:o.guard=none) (ho:o.op= .call {callee:= .value (.func 32),args:= #[.const (.string nm),.tmp k],argTypes:= #[9,28]}) (ha:a.tmps[k]?.getD undef=v) (hv:(Kb.rows l).In v w pr) (h:∀u w',(Kb.tre ⟨nm,[],l⟩).In u w' pr→Below w.heap.size w w' →J (a.put o.dst u) w'):wpOp Tryz.prog ops Q i J a w:=by
 obtain ⟨A,c,rfl,hl,hF⟩:=hv
 refine op_call (f:=32) (args:= #[.string nm,.slice A l.length c]) hi (wanted_none hg) ?_ ((tree_callsX nm A l.length c w).mono ?_)
 ·have he:=enters_of Tryz.func32 (by kernel_rfl) rfl #[.string nm,.slice A l.length c] w
  unfold execOp
  rw[ho]
  go_simp
 ·rintro e w' ⟨rfl,hB⟩
  exact ⟨_,rfl,h _ w' ⟨none,0,A,c,rfl,Nat.le_refl _,fun W' _=>Kd.C_nil _ _,hl,Kd.F_below hF hB⟩ hB⟩
theorem op_faT {k:Tmp} {b:Nat} (hi:ops[i]? =some o) (hg:o.guard=none) (ho:o.op= .fieldAddr 30 (.tmp k) 0) (ha:a.tmps[k]?.getD undef= .pointer (some ⟨b,0,none⟩)) (h:J (a.put o.dst (.pointer (some ⟨b,0,none⟩))) w):wpOp Tryz.prog ops Q i J a w:=by
 refine op_value hi (wanted_none hg) (w' :=w) ?_ h
 unfold execOp
 rw[ho]
 go_simp
theorem op_eqSc {k:Tmp} {x y:ByteArray} {b:Bool} (hi:ops[i]? =some o) (hg:o.guard=none) (ho:o.op= .binOp .eql 9 (.tmp k) (.const (.string y)) 9) (hb:(x.toList == y.toList)=b) (ha:a.tmps[k]?.getD undef= .string x) (h:J (a.put o.dst (.bool b)) w):wpOp Tryz.prog ops Q i J a w:=by
 subst hb
 refine op_value hi (wanted_none hg) (w' :=w) ?_ h
 unfold execOp
 rw[ho]
 go_simp
end
section
attribute [local irreducible] wpList
theorem with_withG (a b:S30):∀(n:Nat) (t x:S30),nodes t≤n→withP t a=some x→withP x b=withP t b
 |0,t,_,hn,_=>absurd hn (by have:=nodes_eq t;omega)
 |n+1,⟨f,vs,[]⟩,x,_,h=>by rw[withP]at h;cases h
 |n+1,⟨f,vs,k::r⟩,x,hn,h=>by
  rw[withP]at h
  by_cases h1:modalF f=true
  ·rw[if_pos h1]at h
   injection h with h
   subst h
   rw[withP,withP,if_pos h1,if_pos h1]
  ·rw[if_neg h1]at h
   by_cases h2:passF f=true
   ·rw[if_pos h2]at h
    cases hk:withP k a with
    |none=>rw[hk]at h;cases h
    |some y =>
     rw[hk]at h
     injection h with h
     subst h
     rw[withP,withP,if_neg h1,if_pos h2,if_neg h1,if_pos h2,with_withG a b n k y (by simp only[nodes,nodesL]at hn;omega) hk]
   ·rw[if_neg h2]at h;cases h
theorem at_f0 {w:World} {g:Nat} {t:S30} (h:AtT w g t):w.cell? ⟨g,0,none⟩=some (.string t.f0):=by
 obtain ⟨A1,c1,A2,c2,h,_⟩:=h
 have:=blk_cell h 0
 simpa using this
theorem with_with' {a b:S30}:∀{t x:S30},withP t a=some x→withP x b=withP t b:=fun {t x} h=>with_withG a b (nodes t) t x (Nat.le_refl _) h
set_option maxHeartbeats 4000000 in
set_option maxRecDepth 100000 in
theorem both_walk (T:Lib.PrintTabs) (w:World) (hT:Tabs T w) (s:Sg) (t p r:S30) (A1:Option Addr) (c1:Nat) (A2:Option Addr) (c2:Nat) (B1:Option Addr) (d1:Nat) (B2:Option Addr) (d2:Nat) (D1:Option Addr) (e1:Nat) (D2:Option Addr) (e2:Nat) (hC:s.C w) (tv:TreeV w t A1 c1 A2 c2) (pv:TreeV w p B1 d1 B2 d2) (rv:TreeV w r D1 e1 D2 e2) (st:Sm t) (sp:Sm p) (sr:Sm r) (nt:nodes t≤2000000) (np:nodes p≤2000000) (nr:nodes r≤2000000) :
  Calls Tryz.prog 9 #[sgV s,.agg #[.string t.f0,.slice A1 t.f1.length c1,.slice A2 t.f2.length c2],.agg #[.string p.f0,.slice B1 p.f1.length d1,.slice B2 p.f2.length d2],.agg #[.string r.f0,.slice D1 r.f1.length e1,.slice D2 r.f2.length e2]] w fun e w' =>e= .returned (.bool true)∧Below w.heap.size w w' :=by
 obtain ⟨x,hx⟩:∃x,(withP t p).getD z30=x:=⟨_,rfl⟩
 obtain ⟨y,hy⟩:∃x,(withP t r).getD z30=x:=⟨_,rfl⟩
 obtain ⟨z,hz⟩:∃x,(withP t (npB p r)).getD z30=x:=⟨_,rfl⟩
 obtain ⟨b6,hbx⟩:∃b,(withP t p).isSome=b:=⟨_,rfl⟩
 have hby:(withP t r).isSome=b6:=by rw[with_subj r (nodes t) t (Nat.le_refl _),←with_subj p (nodes t) t (Nat.le_refl _)];exact hbx
 obtain ⟨b7,hb7⟩:∃b,(withP t (npB p r)).isSome=b:=⟨_,rfl⟩
 obtain ⟨b5,hb5⟩:∃b,(t.f0.toList == nAlso.toList)=b:=⟨_,rfl⟩
 obtain ⟨c,hc⟩:∃c,codeOf (senP s x)=c:=⟨_,rfl⟩
 obtain ⟨d,hd⟩:∃c,codeOf (senP s y)=c:=⟨_,rfl⟩
 refine calls_frN 119 (fun j=>match j with | 0=>sgV s | 1=> .agg #[.string t.f0,.slice A1 t.f1.length c1,.slice A2 t.f2.length c2] | 2=> .agg #[.string p.f0,.slice B1 p.f1.length d1,.slice B2 p.f2.length d2] | 3=> .agg #[.string r.f0,.slice D1 r.f1.length e1,.slice D2 r.f2.length e2] | _=>undef) Tryz.func9 (show Tryz.f9.body=some _ from rfl) (by kernel_rfl) ?_
 refine wp_seq (wp_region_list (list_op (i:=0) rfl (op_box26 rfl rfl rfl rfl hC fun w1 hS b1 s1=>fop rfl (by decide) (list_op (i:=1) rfl (op_box30v rfl rfl rfl rfl (IsT.below ⟨A1,c1,A2,c2,rfl,tv⟩ b1) fun w2 hA b2 s2=>fop rfl (by decide) (list_op (i:=2) rfl (op_box30v rfl rfl rfl rfl (IsT.below ⟨B1,d1,B2,d2,rfl,pv⟩ (below_step b1 b2)) fun w3 hU b3 s3=>fop rfl (by decide) (list_op (i:=3) rfl (op_box30v rfl rfl rfl rfl (IsT.below ⟨D1,e1,D2,e2,rfl,rv⟩ (below_step (below_step b1 b2) b3)) fun w4 hV b4 s4=>fop rfl (by decide) (list_op (i:=4) rfl (op_asgc rfl rfl rfl (fop rfl (by decide) (wp_nil ?_)))))))))))))
 rw[s1]at hA s2 ⊢
 rw[s2]at hU s3 ⊢
 rw[s3]at hV ⊢
 replace hS:=((hS.below b2).below b3).below b4
 replace hA:=(hA.below b3).below b4
 replace hU:=hU.below b4
 have hB:=below_step (below_step (below_step b1 b2) b3) b4
 clear b1 b2 b3 b4 s1 s2 s3 s4 tv pv rv hC
 refine wp_seq (wp_seq (wp_region_list (list_op (i:=0) rfl (op_boolC (vs:= #[]) (P:=fun b=>b=true) rfl rfl (enters_of Tryz.func13 (by kernel_rfl) rfl) rfl (by simp only[List.map_toArray,List.map_nil]) (yes_ (awake_calls T _ (hT.below hB))) fun b wA eb hAw=>fop rfl (by decide) (list_op (i:=1) rfl (op_notb rfl rfl rfl rfl (fop rfl (by decide) (wp_nil (wp_cond rfl ?_)))))))))
 subst eb
 refine wp_skip ?_
 replace hS:=hS.below hAw
 replace hA:=hA.below hAw
 replace hU:=hU.below hAw
 replace hV:=hV.below hAw
 replace hB:=below_step hB hAw
 clear hAw
 refine wp_seq (wp_seq (wp_region_list (list_op (i:=0) rfl (op_loadS rfl rfl rfl rfl hS (fop rfl (by decide) (list_op (i:=1) rfl (op_boolC (vs:= #[sgV s]) (P:=fun _=>True) rfl rfl (enters_of Tryz.func14 (by kernel_rfl) rfl) rfl (by simp only[List.map_toArray,List.map_cons,List.map_nil];rfl) (long_calls s wA) fun b1 wL _ hL=>fop rfl (by decide) (list_op (i:=2) rfl (op_mv (v:= .bool b1) rfl rfl rfl rfl (fop rfl (by decide) ?_))))))))))
 replace hS:=hS.below hL
 replace hA:=hA.below hL
 replace hU:=hU.below hL
 replace hV:=hV.below hL
 replace hB:=below_step hB hL
 clear hL
 cases b1 with
 |true =>
  refine (list_op (i:=3) rfl (op_skip rfl (wants_n rfl rfl) (fop rfl (by decide) (list_op (i:=4) rfl (op_skip rfl (wants_n rfl rfl) (fop rfl (by decide) (list_op (i:=5) rfl (op_pickT (b:=true) (c:=false) rfl rfl rfl rfl (fun h=>by cases h) (fop rfl (by decide) (list_op (i:=6) rfl (op_mv (v:= .bool true) rfl rfl rfl rfl (fop rfl (by decide) (list_op (i:=7) rfl (op_skip rfl (wants_n rfl rfl) (fop rfl (by decide) (list_op (i:=8) rfl (op_skip rfl (wants_n rfl rfl) (fop rfl (by decide) (list_op (i:=9) rfl (op_pickT (b:=true) (c:=false) rfl rfl rfl rfl (fun h=>by cases h) (fop rfl (by decide) (list_op (i:=10) rfl (op_mv (v:= .bool true) rfl rfl rfl rfl (fop rfl (by decide) (list_op (i:=11) rfl (op_skip rfl (wants_n rfl rfl) (fop rfl (by decide) (list_op (i:=12) rfl (op_skip rfl (wants_n rfl rfl) (fop rfl (by decide) (list_op (i:=13) rfl (op_pickT (b:=true) (c:=false) rfl rfl rfl rfl (fun h=>by cases h) (fop rfl (by decide) (list_op (i:=14) rfl (op_mv (v:= .bool true) rfl rfl rfl rfl (fop rfl (by decide) (list_op (i:=15) rfl (op_skip rfl (wants_n rfl rfl) (fop rfl (by decide) (list_op (i:=16) rfl (op_skip rfl (wants_n rfl rfl) (fop rfl (by decide) (list_op (i:=17) rfl (op_skip rfl (wants_n rfl rfl) (fop rfl (by decide) (list_op (i:=18) rfl (op_pickT (b:=true) (c:=false) rfl rfl rfl rfl (fun h=>by cases h) (fop rfl (by decide) (wp_nil (wp_cond (t:=true) rfl ?_))))))))))))))))))))))))))))))))))))))))))))))))))
  refine wp_seq (wp_region_list (list_op (i:=0) rfl (op_asgc rfl rfl rfl (fop rfl (by decide) (wp_nil (wp_ret ?_))))))
  exact bodyPost_yes (show Tryz.f9.results= #[.tmp 8]from rfl) rfl rfl hB
 |false =>
  refine (list_op (i:=3) rfl (wp_guard rfl (wants_y rfl rfl) fun o2 h2=>op_loadT h2 rfl rfl rfl hA fun v2 hv2=>fop rfl (by decide) (list_op (i:=4) rfl (wp_guard rfl (wants_y rfl rfl) fun o2 h2=>op_boolC (vs:= #[v2,.int .i64 20]) (P:=fun b=>b=false→(nodes t:Int)≤20) h2 rfl (enters_of Tryz.func15 (by kernel_rfl) rfl) rfl (by simp only[List.map_toArray,List.map_cons,List.map_nil];rfl) (large_v 20 (by decide) (by decide) nt hv2) fun b2 wM2 hl2 hM2=>fop rfl (by decide) (list_op (i:=5) rfl (op_pickT (b:=false) (c:=b2) rfl rfl rfl rfl (fun _=>rfl) (fop rfl (by decide) (list_op (i:=6) rfl (op_mv (v:= .bool b2) rfl rfl rfl rfl (fop rfl (by decide) ?_))))))))))
  clear hv2
  replace hS:=hS.below hM2
  replace hA:=hA.below hM2
  replace hU:=hU.below hM2
  replace hV:=hV.below hM2
  replace hB:=below_step hB hM2
  clear hM2
  cases b2 with
  |true =>
   refine (list_op (i:=7) rfl (op_skip rfl (wants_n rfl rfl) (fop rfl (by decide) (list_op (i:=8) rfl (op_skip rfl (wants_n rfl rfl) (fop rfl (by decide) (list_op (i:=9) rfl (op_pickT (b:=true) (c:=false) rfl rfl rfl rfl (fun h=>by cases h) (fop rfl (by decide) (list_op (i:=10) rfl (op_mv (v:= .bool true) rfl rfl rfl rfl (fop rfl (by decide) (list_op (i:=11) rfl (op_skip rfl (wants_n rfl rfl) (fop rfl (by decide) (list_op (i:=12) rfl (op_skip rfl (wants_n rfl rfl) (fop rfl (by decide) (list_op (i:=13) rfl (op_pickT (b:=true) (c:=false) rfl rfl rfl rfl (fun h=>by cases h) (fop rfl (by decide) (list_op (i:=14) rfl (op_mv (v:= .bool true) rfl rfl rfl rfl (fop rfl (by decide) (list_op (i:=15) rfl (op_skip rfl (wants_n rfl rfl) (fop rfl (by decide) (list_op (i:=16) rfl (op_skip rfl (wants_n rfl rfl) (fop rfl (by decide) (list_op (i:=17) rfl (op_skip rfl (wants_n rfl rfl) (fop rfl (by decide) (list_op (i:=18) rfl (op_pickT (b:=true) (c:=false) rfl rfl rfl rfl (fun h=>by cases h) (fop rfl (by decide) (wp_nil (wp_cond (t:=true) rfl ?_))))))))))))))))))))))))))))))))))))))
   refine wp_seq (wp_region_list (list_op (i:=0) rfl (op_asgc rfl rfl rfl (fop rfl (by decide) (wp_nil (wp_ret ?_))))))
   exact bodyPost_yes (show Tryz.f9.results= #[.tmp 8]from rfl) rfl rfl hB
  |false =>
   have hn2:=hl2 rfl
   clear hl2
   refine (list_op (i:=7) rfl (wp_guard rfl (wants_y rfl rfl) fun o2 h2=>op_loadT h2 rfl rfl rfl hU fun v3 hv3=>fop rfl (by decide) (list_op (i:=8) rfl (wp_guard rfl (wants_y rfl rfl) fun o2 h2=>op_boolC (vs:= #[v3,.int .i64 12]) (P:=fun b=>b=false→(nodes p:Int)≤12) h2 rfl (enters_of Tryz.func15 (by kernel_rfl) rfl) rfl (by simp only[List.map_toArray,List.map_cons,List.map_nil];rfl) (large_v 12 (by decide) (by decide) np hv3) fun b3 wM3 hl3 hM3=>fop rfl (by decide) (list_op (i:=9) rfl (op_pickT (b:=false) (c:=b3) rfl rfl rfl rfl (fun _=>rfl) (fop rfl (by decide) (list_op (i:=10) rfl (op_mv (v:= .bool b3) rfl rfl rfl rfl (fop rfl (by decide) ?_))))))))))
   clear hv3
   replace hS:=hS.below hM3
   replace hA:=hA.below hM3
   replace hU:=hU.below hM3
   replace hV:=hV.below hM3
   replace hB:=below_step hB hM3
   clear hM3
   cases b3 with
   |true =>
    refine (list_op (i:=11) rfl (op_skip rfl (wants_n rfl rfl) (fop rfl (by decide) (list_op (i:=12) rfl (op_skip rfl (wants_n rfl rfl) (fop rfl (by decide) (list_op (i:=13) rfl (op_pickT (b:=true) (c:=false) rfl rfl rfl rfl (fun h=>by cases h) (fop rfl (by decide) (list_op (i:=14) rfl (op_mv (v:= .bool true) rfl rfl rfl rfl (fop rfl (by decide) (list_op (i:=15) rfl (op_skip rfl (wants_n rfl rfl) (fop rfl (by decide) (list_op (i:=16) rfl (op_skip rfl (wants_n rfl rfl) (fop rfl (by decide) (list_op (i:=17) rfl (op_skip rfl (wants_n rfl rfl) (fop rfl (by decide) (list_op (i:=18) rfl (op_pickT (b:=true) (c:=false) rfl rfl rfl rfl (fun h=>by cases h) (fop rfl (by decide) (wp_nil (wp_cond (t:=true) rfl ?_))))))))))))))))))))))))))
    refine wp_seq (wp_region_list (list_op (i:=0) rfl (op_asgc rfl rfl rfl (fop rfl (by decide) (wp_nil (wp_ret ?_))))))
    exact bodyPost_yes (show Tryz.f9.results= #[.tmp 8]from rfl) rfl rfl hB
   |false =>
    have hn3:=hl3 rfl
    clear hl3
    refine (list_op (i:=11) rfl (wp_guard rfl (wants_y rfl rfl) fun o2 h2=>op_loadT h2 rfl rfl rfl hV fun v4 hv4=>fop rfl (by decide) (list_op (i:=12) rfl (wp_guard rfl (wants_y rfl rfl) fun o2 h2=>op_boolC (vs:= #[v4,.int .i64 12]) (P:=fun b=>b=false→(nodes r:Int)≤12) h2 rfl (enters_of Tryz.func15 (by kernel_rfl) rfl) rfl (by simp only[List.map_toArray,List.map_cons,List.map_nil];rfl) (large_v 12 (by decide) (by decide) nr hv4) fun b4 wM4 hl4 hM4=>fop rfl (by decide) (list_op (i:=13) rfl (op_pickT (b:=false) (c:=b4) rfl rfl rfl rfl (fun _=>rfl) (fop rfl (by decide) (list_op (i:=14) rfl (op_mv (v:= .bool b4) rfl rfl rfl rfl (fop rfl (by decide) ?_))))))))))
    clear hv4
    replace hS:=hS.below hM4
    replace hA:=hA.below hM4
    replace hU:=hU.below hM4
    replace hV:=hV.below hM4
    replace hB:=below_step hB hM4
    clear hM4
    cases b4 with
    |true =>
     refine (list_op (i:=15) rfl (op_skip rfl (wants_n rfl rfl) (fop rfl (by decide) (list_op (i:=16) rfl (op_skip rfl (wants_n rfl rfl) (fop rfl (by decide) (list_op (i:=17) rfl (op_skip rfl (wants_n rfl rfl) (fop rfl (by decide) (list_op (i:=18) rfl (op_pickT (b:=true) (c:=false) rfl rfl rfl rfl (fun h=>by cases h) (fop rfl (by decide) (wp_nil (wp_cond (t:=true) rfl ?_))))))))))))))
     refine wp_seq (wp_region_list (list_op (i:=0) rfl (op_asgc rfl rfl rfl (fop rfl (by decide) (wp_nil (wp_ret ?_))))))
     exact bodyPost_yes (show Tryz.f9.results= #[.tmp 8]from rfl) rfl rfl hB
    |false =>
     have hn4:=hl4 rfl
     clear hl4
     refine (list_op (i:=15) rfl (wp_guard rfl (wants_y rfl rfl) fun o2 h2=>op_faT h2 rfl rfl rfl (fop rfl (by decide) (list_op (i:=16) rfl (wp_guard rfl (wants_y rfl rfl) fun o2 h2=>op_ld1 (v:= .string t.f0) h2 rfl (by decide) rfl rfl (at_f0 hA) (fop rfl (by decide) (list_op (i:=17) rfl (wp_guard rfl (wants_y rfl rfl) fun o2 h2=>op_eqSc (x:=t.f0) (y:=nAlso) (b:=b5) h2 rfl rfl hb5 rfl (fop rfl (by decide) (list_op (i:=18) rfl (op_pickT (b:=false) (c:=b5) rfl rfl rfl rfl (fun _=>rfl) (fop rfl (by decide) (wp_nil (wp_cond (t:=b5) rfl ?_))))))))))))))
     cases b5 with
     |true =>
      refine wp_seq (wp_region_list (list_op (i:=0) rfl (op_asgc rfl rfl rfl (fop rfl (by decide) (wp_nil (wp_ret ?_))))))
      exact bodyPost_yes (show Tryz.f9.results= #[.tmp 8]from rfl) rfl rfl hB
     |false =>
      refine wp_skip ?_
      refine wp_seq (wp_region_list (list_op (i:=0) rfl (op_loadT rfl rfl rfl rfl hA fun v5 h5=>fop rfl (by decide) (list_op (i:=1) rfl (op_loadT rfl rfl rfl rfl hU fun z5 y5=>fop rfl (by decide) (list_op (i:=2) rfl (op_withT (t:=t) (np:=p) rfl rfl rfl rfl rfl hx hbx h5 y5 st fun u5 x5 hu5 p5=>fop rfl (by decide) (list_op (i:=3) rfl (op_mv (v:= .tuple #[u5,.bool b6]) rfl rfl rfl rfl (fop rfl (by decide) (list_op (i:=4) rfl (op_ext (v:=u5) rfl rfl rfl rfl rfl (fop rfl (by decide) (list_op (i:=5) rfl (op_ext (v:= .bool b6) rfl rfl rfl rfl rfl (fop rfl (by decide) (list_op (i:=6) rfl (op_new30 rfl rfl rfl (fop rfl (by decide) (list_op (i:=7) rfl (op_st30v (w0:=x5) rfl rfl rfl rfl rfl rfl hu5 (below_alloc (Below.refl _ _) _) (Nat.le_refl _) (blk_new _ _) fun q5 hX5 m5=>(list_op (i:=8) rfl (op_asg (v:= .bool b6) rfl rfl rfl rfl (fop rfl (by decide) (wp_nil ?_)))))))))))))))))))))))))
      have hk5:=below_step p5 m5
      replace hS:=hS.below hk5
      replace hA:=hA.below hk5
      replace hU:=hU.below hk5
      replace hV:=hV.below hk5
      replace hB:=below_step hB hk5
      clear hk5
      clear p5 m5 hu5 h5 y5
      generalize x5.heap.size=g5 at *
      refine wp_seq (wp_region_list (list_op (i:=0) rfl (op_loadT rfl rfl rfl rfl hA fun v6 h6=>fop rfl (by decide) (list_op (i:=1) rfl (op_loadT rfl rfl rfl rfl hV fun z6 y6=>fop rfl (by decide) (list_op (i:=2) rfl (op_withT (t:=t) (np:=r) rfl rfl rfl rfl rfl hy hby h6 y6 st fun u6 x6 hu6 p6=>fop rfl (by decide) (list_op (i:=3) rfl (op_mv (v:= .tuple #[u6,.bool b6]) rfl rfl rfl rfl (fop rfl (by decide) (list_op (i:=4) rfl (op_ext (v:=u6) rfl rfl rfl rfl rfl (fop rfl (by decide) (list_op (i:=5) rfl (op_ext (v:= .bool b6) rfl rfl rfl rfl rfl (fop rfl (by decide) (list_op (i:=6) rfl (op_new30 rfl rfl rfl (fop rfl (by decide) (list_op (i:=7) rfl (op_st30v (w0:=x6) rfl rfl rfl rfl rfl rfl hu6 (below_alloc (Below.refl _ _) _) (Nat.le_refl _) (blk_new _ _) fun q6 hX6 m6=>(list_op (i:=8) rfl (op_asg (v:= .bool b6) rfl rfl rfl rfl (fop rfl (by decide) (wp_nil ?_)))))))))))))))))))))))))
      have hk6:=below_step p6 m6
      replace hS:=hS.below hk6
      replace hA:=hA.below hk6
      replace hU:=hU.below hk6
      replace hV:=hV.below hk6
      replace hX5:=hX5.below hk6
      replace hB:=below_step hB hk6
      clear hk6
      clear p6 m6 hu6 h6 y6
      generalize x6.heap.size=g6 at *
      generalize q6=U at *
      have bw:∀{V},Below U.drew.heap.size U.drew V→Below U.heap.size U V:=fun hB=>below_step (below_drew (Below.refl _ _)) hB
      obtain ⟨A1,c1,A2,c2,hAb,hAt⟩:=id hA
      refine wp_seq (region_box 30 #[.string ⟨#[]⟩,.slice none 0 0,.slice none 0 0] (fun v=>match v with | .agg a=>a | _=> #[]) 119 [.is (.agg #[.string t.f0,.slice A1 t.f1.length c1,.slice A2 t.f2.length c2]),.tre p,.tre r,.rows [p,r],.tre (npB p r),.tup z b7,.tup z b7,.tre z,.is (.bool b7),.top,.top,.is (.bool b7)] [⟨9,10,7⟩] [53,54,55,56,57,58,52,59,60,13,999,14] _ U (by kernel_rfl) (by kernel_rfl) (by kernel_rfl) ?_ ⟨
       fun q V J pr hB hp hq h hi=>op_ldT (ad:=⟨w.heap.size+1,0,none⟩) hi rfl rfl rfl (blk_cell (blk_below hAb (bw hB)) 0) (blk_cell (blk_below hAb (bw hB)) 1) (blk_cell (blk_below hAb (bw hB)) 2) (h _ _ rfl (.refl _ _)),
       fun q V J pr hB hp hq h hi=>op_loadTB (W:=U) hi rfl rfl rfl hU (bw hB) (fun k hk=>(hp k hk).1) fun u hu=>h _ _ hu (.refl _ _),
       fun q V J pr hB hp hq h hi=>op_loadTB (W:=U) hi rfl rfl rfl hV (bw hB) (fun k hk=>(hp k hk).1) fun u hu=>h _ _ hu (.refl _ _),
       fun q V J pr hB hp hq h hi=>op_row2B hi rfl rfl rfl rfl (hq 1 rfl) (hq 2 rfl) (fun k hk=>(hp k hk).2) h,
       fun q V J pr hB hp hq h hi=>op_treeB (nm:=nBoth) hi rfl rfl rfl (hq 3 rfl) h,
       fun q V J pr hB hp hq h hi=>op_withB (W:=U) (t:=t) (np:=npB p r) hi rfl rfl (hq 0 rfl) rfl hz hb7 hAt (hq 4 rfl) st (bw hB) hp h,
       fun q V J pr hB hp hq h hi=>op_mv hi rfl rfl rfl (h _ _ (hq 5 rfl) (.refl _ _)),
       fun q V J pr hB hp hq h hi=>by obtain ⟨u,e,hu⟩:=hq 6 rfl;exact op_ext hi rfl rfl e rfl (h _ _ hu (.refl _ _)),
       fun q V J pr hB hp hq h hi=>by obtain ⟨u,e,hu⟩:=hq 6 rfl;exact op_ext hi rfl rfl e rfl (h _ _ rfl (.refl _ _)),
       fun x V J h hi=>op_new30 hi rfl rfl h,
       fun x V J g pr hx hc hz h hi=>by obtain ⟨A,a,B,b,e,_⟩:=hc;exact op_st30 hi rfl rfl rfl hx e hz fun w' h1 h2 h3=>h undef w' (by rw[e];exact h1) h2 h3,
       fun q V J pr hB hp hq h hi=>op_asg hi rfl rfl (hq 8 rfl) (h _ _ rfl (.refl _ _)),trivial⟩ ?_)
      ·intro j hj v w pr
       by_cases j2:j=9
       ·subst j2;trivial
       by_cases j3:j=10
       ·subst j3;trivial
       exact absurd (fun b hb=>by
        rw[List.mem_singleton.1 hb]
        exact ⟨fun e=>j2 e.symm,fun e=>j3 e.symm⟩) hj
      intro q7 V hBV hx hI
      obtain ⟨g13,eg,ng,zg⟩:=hI.at_ ⟨9,10,7⟩ (by simp) rfl
      rw[if_pos rfl]at zg
      obtain ⟨E1,n1,E2,n2,e7,h7⟩:=hx 7 (by decide) (by simp)
      rw[show q7 (⟨9,10,7⟩:Bx).c=q7 7 from rfl,e7]at zg
      replace eg:q7 9= .pointer (some ⟨g13,0,none⟩):=eg
      have hZ:AtT V g13 z:=⟨E1,n1,E2,n2,zg,h7.now⟩
      replace hS:=hS.below (bw hBV)
      replace hA:=hA.below (bw hBV)
      replace hU:=hU.below (bw hBV)
      replace hV:=hV.below (bw hBV)
      replace hX5:=hX5.below (bw hBV)
      replace hX6:=hX6.below (bw hBV)
      replace hB:=below_step hB (bw hBV)
      clear hx hI zg h7 hBV bw hAb hAt
      cases b6 with
      |false =>
       refine wp_seq (wp_seq (wp_region_list (list_op (i:=0) rfl (op_mv (v:= .bool false) rfl rfl rfl rfl (fop rfl (by decide) (list_op (i:=1) rfl (op_notb rfl rfl rfl rfl (fop rfl (by decide) (wp_nil (wp_cond (t:=true) rfl ?_))))))))))
       refine wp_seq (wp_region_list (list_op (i:=0) rfl (op_asgc rfl rfl rfl (fop rfl (by decide) (wp_nil (wp_ret ?_))))))
       exact bodyPost_yes (show Tryz.f9.results= #[.tmp 8]from rfl) rfl rfl hB
      |true =>
       refine wp_seq (wp_seq (wp_region_list (list_op (i:=0) rfl (op_mv (v:= .bool true) rfl rfl rfl rfl (fop rfl (by decide) (list_op (i:=1) rfl (op_notb rfl rfl rfl rfl (fop rfl (by decide) (wp_nil (wp_cond (t:=false) rfl ?_))))))))))
       refine wp_skip ?_
       have hwa:withP t p=some x:=by
        cases hq:withP t p with
        |none=>rw[hq]at hbx;cases hbx
        |some v=>rw[hq]at hx;rw[←hx];rfl
       have hwb:withP t r=some y:=by
        cases hq:withP t r with
        |none=>rw[hq]at hby;cases hby
        |some v=>rw[hq]at hy;rw[←hy];rfl
       have hwx:withP x r=some y:=(with_with' hwa).trans hwb
       have nx:=with_nodes p (nodes t) t x (Nat.le_refl _) hwa
       have ny:=with_nodes r (nodes t) t y (Nat.le_refl _) hwb
       have sx:=with_Sm sp (nodes t) t x (Nat.le_refl _) st hwa
       have sy:=with_Sm sr (nodes t) t y (Nat.le_refl _) st hwb
       have sB:Sm (npB p r):=sm_2 (by decide) sp sr
       have hnB:nodes (npB p r)=nodes p+(nodes r+0)+1:=rfl
       have sz:Sm z:=by
        rw[←hz]
        cases hq:withP t (npB p r)with
        |none=>exact (Sm.eq z30).2 ⟨Nat.zero_le _,Nat.zero_le _,Nat.zero_le _,trivial⟩
        |some v=>exact with_Sm sB (nodes t) t v (Nat.le_refl _) st hq
       have nz:nodes z≤60:=by
        rw[←hz]
        cases hq:withP t (npB p r)with
        |none=>decide
        |some v=>have:=with_nodes (npB p r) (nodes t) t v (Nat.le_refl _) hq;show nodes v≤60;omega
       refine wp_seq (wp_region_list (list_op (i:=0) rfl (op_loadS rfl rfl rfl rfl hS (fop rfl (by decide) (list_op (i:=1) rfl (op_loadT rfl rfl rfl rfl hX5 fun v8 h8=>fop rfl (by decide) (list_op (i:=2) rfl (op_sentC (T:=T) (s:=s) (t:=x) rfl rfl rfl rfl rfl hc h8 (hT.below hB) hS.2 sx (by omega) fun u8 x8 hu8 p8=>fop rfl (by decide) (list_op (i:=3) rfl (op_mv (v:= .tuple #[u8,.int .i64 c]) rfl rfl rfl rfl (fop rfl (by decide) (list_op (i:=4) rfl (op_ext (v:=u8) rfl rfl rfl rfl rfl (fop rfl (by decide) (list_op (i:=5) rfl (op_ext (v:= .int .i64 c) rfl rfl rfl rfl rfl (fop rfl (by decide) (list_op (i:=6) rfl (op_new37 rfl rfl rfl (fop rfl (by decide) (list_op (i:=7) rfl (op_store37 rfl rfl rfl rfl rfl rfl (heap_alloc_new _ _) ((hu8.mono (ok' :=fun k=>k≠x8.heap.size) (fun k _ hk=>by omega)).below (below_alloc (Below.refl _ _) _)) fun y8 hF8 q8 _=>(list_op (i:=8) rfl (op_asg (v:= .int .i64 c) rfl rfl rfl rfl (fop rfl (by decide) (wp_nil ?_))))))))))))))))))))))))))
       have hk8:=below_step p8 ((below_alloc (Below.refl x8.heap.size x8) zero37).trans (q8 x8.heap.size (Nat.le_refl _)))
       replace hS:=hS.below hk8
       replace hA:=hA.below hk8
       replace hU:=hU.below hk8
       replace hV:=hV.below hk8
       replace hX5:=hX5.below hk8
       replace hX6:=hX6.below hk8
       replace hZ:=hZ.below hk8
       replace hB:=below_step hB hk8
       clear hk8
       clear p8 q8 hu8 h8
       generalize hg8:x8.heap.size=e8 at *
       clear hg8
       refine wp_seq (wp_region_list (list_op (i:=0) rfl (op_loadS rfl rfl rfl rfl hS (fop rfl (by decide) (list_op (i:=1) rfl (op_loadT rfl rfl rfl rfl hX6 fun v9 h9=>fop rfl (by decide) (list_op (i:=2) rfl (op_sentC (T:=T) (s:=s) (t:=y) rfl rfl rfl rfl rfl hd h9 (hT.below hB) hS.2 sy (by omega) fun u9 x9 hu9 p9=>fop rfl (by decide) (list_op (i:=3) rfl (op_mv (v:= .tuple #[u9,.int .i64 d]) rfl rfl rfl rfl (fop rfl (by decide) (list_op (i:=4) rfl (op_ext (v:=u9) rfl rfl rfl rfl rfl (fop rfl (by decide) (list_op (i:=5) rfl (op_ext (v:= .int .i64 d) rfl rfl rfl rfl rfl (fop rfl (by decide) (list_op (i:=6) rfl (op_new37 rfl rfl rfl (fop rfl (by decide) (list_op (i:=7) rfl (op_store37 rfl rfl rfl rfl rfl rfl (heap_alloc_new _ _) ((hu9.mono (ok' :=fun k=>k≠x9.heap.size) (fun k _ hk=>by omega)).below (below_alloc (Below.refl _ _) _)) fun y9 hF9 q9 _=>(list_op (i:=8) rfl (op_asg (v:= .int .i64 d) rfl rfl rfl rfl (fop rfl (by decide) (wp_nil ?_))))))))))))))))))))))))))
       have hk9:=below_step p9 ((below_alloc (Below.refl x9.heap.size x9) zero37).trans (q9 x9.heap.size (Nat.le_refl _)))
       replace hS:=hS.below hk9
       replace hA:=hA.below hk9
       replace hU:=hU.below hk9
       replace hV:=hV.below hk9
       replace hX5:=hX5.below hk9
       replace hX6:=hX6.below hk9
       replace hZ:=hZ.below hk9
       replace hF8:=hF8.below hk9
       replace hB:=below_step hB hk9
       clear hk9
       clear p9 q9 hu9 h9
       generalize hg9:x9.heap.size=e9 at *
       clear hg9
       generalize y9=V at *
       cases hq1:senP s x with
       |error e0 =>
        obtain rfl:e0=c:=by rw[←hc,hq1];rfl
        refine wp_seq (wp_seq (wp_region_list (list_op (i:=0) rfl (op_mv (v:= .int .i64 e0) rfl rfl rfl rfl (fop rfl (by decide) (list_op (i:=1) rfl (op_nec (n:=e0) (m:=0) (b:=true) rfl rfl rfl (senP_err hq1) rfl (fop rfl (by decide) (list_op (i:=2) rfl (op_mv (v:= .bool true) rfl rfl rfl rfl (fop rfl (by decide) (list_op (i:=3) rfl (op_skip rfl (wants_n rfl rfl) (fop rfl (by decide) (list_op (i:=4) rfl (op_skip rfl (wants_n rfl rfl) (fop rfl (by decide) (list_op (i:=5) rfl (op_pickT (b:=true) (c:=false) rfl rfl rfl rfl (fun h=>by cases h) (fop rfl (by decide) (wp_nil (wp_cond (t:=true) rfl ?_))))))))))))))))))))))
        refine wp_seq (wp_region_list (list_op (i:=0) rfl (op_asgc rfl rfl rfl (fop rfl (by decide) (wp_nil (wp_ret ?_))))))
        exact bodyPost_yes (show Tryz.f9.results= #[.tmp 8]from rfl) rfl rfl hB
       |ok m1 =>
        obtain rfl:0=c:=by rw[←hc,hq1];rfl
        cases hq2:senP s y with
        |error e0 =>
         obtain rfl:e0=d:=by rw[←hd,hq2];rfl
         refine wp_seq (wp_seq (wp_region_list (list_op (i:=0) rfl (op_mv (v:= .int .i64 0) rfl rfl rfl rfl (fop rfl (by decide) (list_op (i:=1) rfl (op_nec (n:=0) (m:=0) (b:=false) rfl rfl rfl rfl rfl (fop rfl (by decide) (list_op (i:=2) rfl (op_mv (v:= .bool false) rfl rfl rfl rfl (fop rfl (by decide) (list_op (i:=3) rfl (wp_guard rfl (wants_y rfl rfl) fun o2 h2=>op_mv (v:= .int .i64 e0) h2 rfl rfl rfl (fop rfl (by decide) (list_op (i:=4) rfl (wp_guard rfl (wants_y rfl rfl) fun o2 h2=>op_nec (n:=e0) (m:=0) (b:=true) h2 rfl rfl (senP_err hq2) rfl (fop rfl (by decide) (list_op (i:=5) rfl (op_pickT (b:=false) (c:=true) rfl rfl rfl rfl (fun _=>rfl) (fop rfl (by decide) (wp_nil (wp_cond (t:=true) rfl ?_))))))))))))))))))))))
         refine wp_seq (wp_region_list (list_op (i:=0) rfl (op_asgc rfl rfl rfl (fop rfl (by decide) (wp_nil (wp_ret ?_))))))
         exact bodyPost_yes (show Tryz.f9.results= #[.tmp 8]from rfl) rfl rfl hB
        |ok m2 =>
         obtain rfl:0=d:=by rw[←hd,hq2];rfl
         rw[hq1]at hF8
         rw[hq2]at hF9
         have hF1:AtF V e8 m1.f0:=hF8
         have hF2:AtF V e9 m2.f0:=hF9
         clear hF8 hF9 hc hd
         refine wp_seq (wp_seq (wp_region_list (list_op (i:=0) rfl (op_mv (v:= .int .i64 0) rfl rfl rfl rfl (fop rfl (by decide) (list_op (i:=1) rfl (op_nec (n:=0) (m:=0) (b:=false) rfl rfl rfl rfl rfl (fop rfl (by decide) (list_op (i:=2) rfl (op_mv (v:= .bool false) rfl rfl rfl rfl (fop rfl (by decide) (list_op (i:=3) rfl (wp_guard rfl (wants_y rfl rfl) fun o2 h2=>op_mv (v:= .int .i64 0) h2 rfl rfl rfl (fop rfl (by decide) (list_op (i:=4) rfl (wp_guard rfl (wants_y rfl rfl) fun o2 h2=>op_nec (n:=0) (m:=0) (b:=false) h2 rfl rfl rfl rfl (fop rfl (by decide) (list_op (i:=5) rfl (op_pickT (b:=false) (c:=false) rfl rfl rfl rfl (fun _=>rfl) (fop rfl (by decide) (wp_nil (wp_cond (t:=false) rfl ?_))))))))))))))))))))))
         refine wp_skip ?_
         obtain ⟨r1,hr1⟩:∃b,(t.f0.toList == nAssert.toList)=b:=⟨_,rfl⟩
         obtain ⟨r2,hr2⟩:∃b,(t.f0.toList == nMust.toList)=b:=⟨_,rfl⟩
         obtain ⟨r3,hr3⟩:∃b,(t.f0.toList == nMustNot.toList)=b:=⟨_,rfl⟩
         obtain ⟨r4,hr4⟩:∃b,(t.f0.toList == nMay.toList)=b:=⟨_,rfl⟩
         have hm:(((r1 || r2) || r3) || r4)=true→MeansOk s z (opF 5 [m1.f0,m2.f0]):=fun h=>by
          rw[←hz]
          refine both_ok ?_ hwa hwb hq1 hq2 (by omega)
          rw[←hr1,←hr2,←hr3,←hr4,show nAssert.toList=([65,115,115,101,114,116]:List UInt8)from by kernel_rfl,show nMust.toList=([77,117,115,116]:List UInt8)from by kernel_rfl,show nMustNot.toList=([77,117,115,116,78,111,116]:List UInt8)from by kernel_rfl,show nMay.toList=([77,97,121]:List UInt8)from by kernel_rfl]at h
          exact h
         have b0:∀{V1},Below V.heap.size V V1→Below w.heap.size w V1:=fun h=>below_step hB h
         have bw:∀{V1},Below V.drew.heap.size V.drew V1→Below V.heap.size V V1:=fun hB=>below_step (below_drew (Below.refl _ _)) hB
         refine wp_seq (wp_seq (region_kn0 119 [.is (.pointer (some ⟨(w.heap.size+1),0,none⟩)),.is (.string t.f0),.is (.bool r1),.is (.bool r1),.gd (!(r1)) (.is (.pointer (some ⟨(w.heap.size+1),0,none⟩))),.gd (!(r1)) (.is (.string t.f0)),.gd (!(r1)) (.is (.bool r2)),.is (.bool (r1 || r2)),.is (.bool (r1 || r2)),.gd (!((r1 || r2))) (.is (.pointer (some ⟨(w.heap.size+1),0,none⟩))),.gd (!((r1 || r2))) (.is (.string t.f0)),.gd (!((r1 || r2))) (.is (.bool r3)),.is (.bool ((r1 || r2) || r3)),.is (.bool ((r1 || r2) || r3)),.gd (!(((r1 || r2) || r3))) (.is (.pointer (some ⟨(w.heap.size+1),0,none⟩))),.gd (!(((r1 || r2) || r3))) (.is (.string t.f0)),.gd (!(((r1 || r2) || r3))) (.is (.bool r4)),.is (.bool (((r1 || r2) || r3) || r4)),.is (.bool (((r1 || r2) || r3) || r4)),.gd (((r1 || r2) || r3) || r4) (.is (sgV s)),.gd (((r1 || r2) || r3) || r4) (.isT z),.gd (((r1 || r2) || r3) || r4) (.fm m1.f0),.gd (((r1 || r2) || r3) || r4) (.fm m2.f0),.gd (((r1 || r2) || r3) || r4) (.fs [m1.f0,m2.f0]),.gd (((r1 || r2) || r3) || r4) (.fm (opF 5 [m1.f0,m2.f0])),.gd (((r1 || r2) || r3) || r4) (.is (.bool true)),.gd (((r1 || r2) || r3) || r4) (.is (.bool false)),.is (.bool false)] [81,82,83,84,85,86,87,88,89,90,91,92,93,94,95,96,97,98,99,100,101,102,103,104,105,106,107,108] _ V (by kernel_rfl) (by kernel_rfl) ⟨
          fun q V J hB hq h hi=>op_faT hi rfl rfl rfl (h _ _ rfl (.refl _ _)),
          fun q V J hB hq h hi=>op_ld1 (v:= .string t.f0) hi rfl (by decide) rfl (hq 0 rfl) (at_f0 (hA.below (bw hB))) (h _ _ rfl (.refl _ _)),
          fun q V J hB hq h hi=>op_eqSc (x:=t.f0) (y:=nAssert) (b:=r1) hi rfl rfl hr1 (hq 1 rfl) (h _ _ rfl (.refl _ _)),
          fun q V J hB hq h hi=>op_mv hi rfl rfl (hq 2 rfl) (h _ _ rfl (.refl _ _)),
          fun q V J hB hq h hi=>op_gd hi rfl (congrArg some (hq 3 rfl)) (fun e=>h _ _ (gd_off (c:=(!(r1))) (by revert e;cases (r1)<;>simp)) (.refl _ _)) (fun e o2 h2=>have eo:(!(r1))=true:=(by revert e;cases (r1)<;>simp);op_faT h2 rfl rfl rfl (h _ _ (gd_on eo rfl) (.refl _ _))),
          fun q V J hB hq h hi=>op_gd hi rfl (congrArg some (hq 3 rfl)) (fun e=>h _ _ (gd_off (c:=(!(r1))) (by revert e;cases (r1)<;>simp)) (.refl _ _)) (fun e o2 h2=>have eo:(!(r1))=true:=(by revert e;cases (r1)<;>simp);op_ld1 (v:= .string t.f0) h2 rfl (by decide) rfl (gd_get eo (hq 4 rfl)) (at_f0 (hA.below (bw hB))) (h _ _ (gd_on eo rfl) (.refl _ _))),
          fun q V J hB hq h hi=>op_gd hi rfl (congrArg some (hq 3 rfl)) (fun e=>h _ _ (gd_off (c:=(!(r1))) (by revert e;cases (r1)<;>simp)) (.refl _ _)) (fun e o2 h2=>have eo:(!(r1))=true:=(by revert e;cases (r1)<;>simp);op_eqSc (x:=t.f0) (y:=nMust) (b:=r2) h2 rfl rfl hr2 (gd_get eo (hq 5 rfl)) (h _ _ (gd_on eo rfl) (.refl _ _))),
          fun q V J hB hq h hi=>op_pickT (b:=r1) (c:=r2) hi rfl rfl (hq 3 rfl) (fun e=>gd_get (by rw[e];rfl) (hq 6 rfl)) (h _ _ rfl (.refl _ _)),
          fun q V J hB hq h hi=>op_mv hi rfl rfl (hq 7 rfl) (h _ _ rfl (.refl _ _)),
          fun q V J hB hq h hi=>op_gd hi rfl (congrArg some (hq 8 rfl)) (fun e=>h _ _ (gd_off (c:=(!((r1 || r2)))) (by revert e;cases ((r1 || r2))<;>simp)) (.refl _ _)) (fun e o2 h2=>have eo:(!((r1 || r2)))=true:=(by revert e;cases ((r1 || r2))<;>simp);op_faT h2 rfl rfl rfl (h _ _ (gd_on eo rfl) (.refl _ _))),
          fun q V J hB hq h hi=>op_gd hi rfl (congrArg some (hq 8 rfl)) (fun e=>h _ _ (gd_off (c:=(!((r1 || r2)))) (by revert e;cases ((r1 || r2))<;>simp)) (.refl _ _)) (fun e o2 h2=>have eo:(!((r1 || r2)))=true:=(by revert e;cases ((r1 || r2))<;>simp);op_ld1 (v:= .string t.f0) h2 rfl (by decide) rfl (gd_get eo (hq 9 rfl)) (at_f0 (hA.below (bw hB))) (h _ _ (gd_on eo rfl) (.refl _ _))),
          fun q V J hB hq h hi=>op_gd hi rfl (congrArg some (hq 8 rfl)) (fun e=>h _ _ (gd_off (c:=(!((r1 || r2)))) (by revert e;cases ((r1 || r2))<;>simp)) (.refl _ _)) (fun e o2 h2=>have eo:(!((r1 || r2)))=true:=(by revert e;cases ((r1 || r2))<;>simp);op_eqSc (x:=t.f0) (y:=nMustNot) (b:=r3) h2 rfl rfl hr3 (gd_get eo (hq 10 rfl)) (h _ _ (gd_on eo rfl) (.refl _ _))),
          fun q V J hB hq h hi=>op_pickT (b:=(r1 || r2)) (c:=r3) hi rfl rfl (hq 8 rfl) (fun e=>gd_get (by rw[e];rfl) (hq 11 rfl)) (h _ _ rfl (.refl _ _)),
          fun q V J hB hq h hi=>op_mv hi rfl rfl (hq 12 rfl) (h _ _ rfl (.refl _ _)),
          fun q V J hB hq h hi=>op_gd hi rfl (congrArg some (hq 13 rfl)) (fun e=>h _ _ (gd_off (c:=(!(((r1 || r2) || r3)))) (by revert e;cases (((r1 || r2) || r3))<;>simp)) (.refl _ _)) (fun e o2 h2=>have eo:(!(((r1 || r2) || r3)))=true:=(by revert e;cases (((r1 || r2) || r3))<;>simp);op_faT h2 rfl rfl rfl (h _ _ (gd_on eo rfl) (.refl _ _))),
          fun q V J hB hq h hi=>op_gd hi rfl (congrArg some (hq 13 rfl)) (fun e=>h _ _ (gd_off (c:=(!(((r1 || r2) || r3)))) (by revert e;cases (((r1 || r2) || r3))<;>simp)) (.refl _ _)) (fun e o2 h2=>have eo:(!(((r1 || r2) || r3)))=true:=(by revert e;cases (((r1 || r2) || r3))<;>simp);op_ld1 (v:= .string t.f0) h2 rfl (by decide) rfl (gd_get eo (hq 14 rfl)) (at_f0 (hA.below (bw hB))) (h _ _ (gd_on eo rfl) (.refl _ _))),
          fun q V J hB hq h hi=>op_gd hi rfl (congrArg some (hq 13 rfl)) (fun e=>h _ _ (gd_off (c:=(!(((r1 || r2) || r3)))) (by revert e;cases (((r1 || r2) || r3))<;>simp)) (.refl _ _)) (fun e o2 h2=>have eo:(!(((r1 || r2) || r3)))=true:=(by revert e;cases (((r1 || r2) || r3))<;>simp);op_eqSc (x:=t.f0) (y:=nMay) (b:=r4) h2 rfl rfl hr4 (gd_get eo (hq 15 rfl)) (h _ _ (gd_on eo rfl) (.refl _ _))),
          fun q V J hB hq h hi=>op_pickT (b:=((r1 || r2) || r3)) (c:=r4) hi rfl rfl (hq 13 rfl) (fun e=>gd_get (by rw[e];rfl) (hq 16 rfl)) (h _ _ rfl (.refl _ _)),
          fun q V J hB hq h hi=>op_mv hi rfl rfl (hq 17 rfl) (h _ _ rfl (.refl _ _)),
          fun q V J hB hq h hi=>op_gd hi rfl (congrArg some (hq 18 rfl)) (fun e=>h _ _ (gd_off (c:=((((r1 || r2) || r3) || r4))) (by revert e;cases ((((r1 || r2) || r3) || r4))<;>simp)) (.refl _ _)) (fun e o2 h2=>have eo:((((r1 || r2) || r3) || r4))=true:=(by revert e;cases ((((r1 || r2) || r3) || r4))<;>simp);op_loadS h2 rfl rfl rfl (hS.below (bw hB)) (h _ _ (gd_on eo rfl) (.refl _ _))),
          fun q V J hB hq h hi=>op_gd hi rfl (congrArg some (hq 18 rfl)) (fun e=>h _ _ (gd_off (c:=((((r1 || r2) || r3) || r4))) (by revert e;cases ((((r1 || r2) || r3) || r4))<;>simp)) (.refl _ _)) (fun e o2 h2=>have eo:((((r1 || r2) || r3) || r4))=true:=(by revert e;cases ((((r1 || r2) || r3) || r4))<;>simp);op_loadT h2 rfl rfl eg (hZ.below (bw hB)) fun u hu=>h _ _ (gd_on eo hu) (.refl _ _)),
          fun q V J hB hq h hi=>op_gd hi rfl (congrArg some (hq 18 rfl)) (fun e=>h _ _ (gd_off (c:=((((r1 || r2) || r3) || r4))) (by revert e;cases ((((r1 || r2) || r3) || r4))<;>simp)) (.refl _ _)) (fun e o2 h2=>have eo:((((r1 || r2) || r3) || r4))=true:=(by revert e;cases ((((r1 || r2) || r3) || r4))<;>simp);op_loadF h2 rfl rfl rfl (hF1.below (bw hB)) fun u hu=>h _ _ (gd_on eo hu) (.refl _ _)),
          fun q V J hB hq h hi=>op_gd hi rfl (congrArg some (hq 18 rfl)) (fun e=>h _ _ (gd_off (c:=((((r1 || r2) || r3) || r4))) (by revert e;cases ((((r1 || r2) || r3) || r4))<;>simp)) (.refl _ _)) (fun e o2 h2=>have eo:((((r1 || r2) || r3) || r4))=true:=(by revert e;cases ((((r1 || r2) || r3) || r4))<;>simp);op_loadF h2 rfl rfl rfl (hF2.below (bw hB)) fun u hu=>h _ _ (gd_on eo hu) (.refl _ _)),
          fun q V J hB hq h hi=>op_gd hi rfl (congrArg some (hq 18 rfl)) (fun e=>h _ _ (gd_off (c:=((((r1 || r2) || r3) || r4))) (by revert e;cases ((((r1 || r2) || r3) || r4))<;>simp)) (.refl _ _)) (fun e o2 h2=>have eo:((((r1 || r2) || r3) || r4))=true:=(by revert e;cases ((((r1 || r2) || r3) || r4))<;>simp);op_fs2 h2 rfl rfl rfl rfl (gd_get eo (hq 21 rfl)) (gd_get eo (hq 22 rfl)) fun u w' hu hb=>h _ _ (gd_on eo hu) hb),
          fun q V J hB hq h hi=>op_gd hi rfl (congrArg some (hq 18 rfl)) (fun e=>h _ _ (gd_off (c:=((((r1 || r2) || r3) || r4))) (by revert e;cases ((((r1 || r2) || r3) || r4))<;>simp)) (.refl _ _)) (fun e o2 h2=>have eo:((((r1 || r2) || r3) || r4))=true:=(by revert e;cases ((((r1 || r2) || r3) || r4))<;>simp);op_join (op:=5) h2 rfl rfl rfl (gd_get eo (hq 23 rfl)) fun u w' hu hb=>h _ _ (gd_on eo hu) hb),
          fun q V J hB hq h hi=>op_gd hi rfl (congrArg some (hq 18 rfl)) (fun e=>h _ _ (gd_off (c:=((((r1 || r2) || r3) || r4))) (by revert e;cases ((((r1 || r2) || r3) || r4))<;>simp)) (.refl _ _)) (fun e o2 h2=>have eo:((((r1 || r2) || r3) || r4))=true:=(by revert e;cases ((((r1 || r2) || r3) || r4))<;>simp);op_means (T:=T) (s:=s) (t:=z) (F:=opF 5 [m1.f0,m2.f0]) h2 rfl rfl (gd_get eo (hq 19 rfl)) rfl rfl (gd_get eo (hq 20 rfl)) (gd_get eo (hq 24 rfl)) (hT.below (b0 (bw hB))) (hS.below (bw hB)).2 sz (by omega) (hm eo) fun w1 hb=>h _ _ (gd_on eo rfl) hb),
          fun q V J hB hq h hi=>op_gd hi rfl (congrArg some (hq 18 rfl)) (fun e=>h _ _ (gd_off (c:=((((r1 || r2) || r3) || r4))) (by revert e;cases ((((r1 || r2) || r3) || r4))<;>simp)) (.refl _ _)) (fun e o2 h2=>have eo:((((r1 || r2) || r3) || r4))=true:=(by revert e;cases ((((r1 || r2) || r3) || r4))<;>simp);op_notb h2 rfl rfl (gd_get eo (hq 25 rfl)) (h _ _ (gd_on eo rfl) (.refl _ _))),
          fun q V J hB hq h hi=>op_pickA (b:=(((r1 || r2) || r3) || r4)) (c:=false) hi rfl rfl (hq 18 rfl) (fun e=>gd_get e (hq 26 rfl)) (h _ _ (congrArg Value.bool (Bool.and_false _)) (.refl _ _)),trivial⟩ ?_))
         intro q14 V14 hB14 hx14
         have hk14:=bw hB14
         refine wp_cond (t:=false) (hx14 27 (by decide)) ?_
         refine wp_skip ?_
         replace hS:=hS.below hk14
         replace hV:=hV.below hk14
         replace hX5:=hX5.below hk14
         replace hF1:=hF1.below hk14
         replace hF2:=hF2.below hk14
         replace hB:=below_step hB hk14
         clear hk14 bw b0
         have b0:∀{V1},Below V14.heap.size V14 V1→Below w.heap.size w V1:=fun h=>below_step hB h
         have bw:∀{V1},Below V14.drew.heap.size V14.drew V1→Below V14.heap.size V14 V1:=fun hB=>below_step (below_drew (Below.refl _ _)) hB
         refine wp_seq (region_kn0 119 [.is (sgV s),.isT x,.isT r,.isL [x,r],.isT ⟨nAlso,[],[x,r]⟩,.fm m1.f0,.fm m2.f0,.fs [m1.f0,m2.f0],.fm (opF 5 [m1.f0,m2.f0]),.is (.bool true),.is (.bool true)] [109,110,111,112,113,114,115,116,117,118,8] _ V14 (by kernel_rfl) (by kernel_rfl) ⟨
          fun q V J hB hq h hi=>op_loadS hi rfl rfl rfl (hS.below (bw hB)) (h _ _ rfl (.refl _ _)),
          fun q V J hB hq h hi=>op_loadT hi rfl rfl rfl (hX5.below (bw hB)) fun u hu=>h _ _ hu (.refl _ _),
          fun q V J hB hq h hi=>op_loadT hi rfl rfl rfl (hV.below (bw hB)) fun u hu=>h _ _ hu (.refl _ _),
          fun q V J hB hq h hi=>op_row2 hi rfl rfl rfl rfl (hq 1 rfl) (hq 2 rfl) h,
          fun q V J hB hq h hi=>op_tree (nm:=nAlso) hi rfl rfl rfl (hq 3 rfl) h,
          fun q V J hB hq h hi=>op_loadF hi rfl rfl rfl (hF1.below (bw hB)) fun u hu=>h _ _ hu (.refl _ _),
          fun q V J hB hq h hi=>op_loadF hi rfl rfl rfl (hF2.below (bw hB)) fun u hu=>h _ _ hu (.refl _ _),
          fun q V J hB hq h hi=>op_fs2 hi rfl rfl rfl rfl (hq 5 rfl) (hq 6 rfl) h,
          fun q V J hB hq h hi=>op_join (op:=5) hi rfl rfl rfl (hq 7 rfl) h,
          fun q V J hB hq h hi=>op_means (T:=T) (s:=s) (t:=⟨nAlso,[],[x,r]⟩) (F:=opF 5 [m1.f0,m2.f0]) hi rfl rfl (hq 0 rfl) rfl rfl (hq 4 rfl) (hq 8 rfl) (hT.below (b0 (bw hB))) (hS.below (bw hB)).2 (sm_2 (by decide) sx sr) (by show nodes x+(nodes r+0)+1≤500;omega) (also_ok hq1 hq2 hwx (by omega)) fun w1 hb=>h _ _ rfl hb,
          fun q V J hB hq h hi=>op_asg hi rfl rfl (hq 9 rfl) (h _ _ rfl (.refl _ _)),trivial⟩ ?_)
         intro q16 V16 hB16 hx16
         exact wp_ret (bodyPost_yes (show Tryz.f9.results= #[.tmp 8]from rfl) (hx16 10 (by decide)) rfl (below_step hB (bw hB16)))
end
end
end Go.Proofs.YtcfjomnihhdpaaaGreatDoor.A
