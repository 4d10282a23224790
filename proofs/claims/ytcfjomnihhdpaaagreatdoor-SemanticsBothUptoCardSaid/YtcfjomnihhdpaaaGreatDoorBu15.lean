/-
  A part of the proof: R75, R77, R78, R79, R81, R82, R83, R85, R86, R88.
-/
import Derived.Defers
import Derived.Recover
import Derived.Deep.Cut
import Derived.Deep.DeepMust
import Derived.Lib.Builder
import Derived.Lib.UnsafeStr
import Derived.Laws.Externs
import Derived.OwnWalk
import Derived.Lib.AppendStr
import Derived.Lib.OthersKept
import Derived.Lib.OwnKind
import Derived.Test.YtcfjomnihhdpaaaGreatDoorBu14
namespace Go.Proofs.YtcfjomnihhdpaaaGreatDoor.A
open Go.RowKit Go.Proofs.YtcfjomnihhdpaaaGreatDoorW.PrintWords Go.Proofs.YtcfjomnihhdpaaaGreatDoorW.PrintLast Go.Proofs.YtcfjomnihhdpaaaGreatDoorW.PrintMore
set_option linter.unusedVariables false
set_option linter.unusedSimpArgs false
section
attribute [local go_sem] Oper.semAt_some
def BRet (Z:Nat→Prop) (X:World→Prop) (W:World) (mb:Nat) (r:Option S70) (e:Ending) (W' :World):Prop:=Kp W W' (fun k=>k=mb∨Z k)∧match r with
 |some m=>∃v,e= .returned v∧MnV W' (fun k=>W.heap.size≤k) v m∧X W'
 |none=>e= .panicked failV
def chP (ok res:Bool) (r:Option S70):Except Int S70 :=
 if ok=false then .error 1 else if res=false then .error 10 else match r with
  |none=> .error 6
  |some m=>if m.f3=true then .error 6 else if 200<m.f1∨32<m.f2 then .error 2 else .ok m
def ChRet (Z:Nat→Prop) (X:World→Prop) (w:World) (o:Except Int S70) (e:Ending) (w' :World):Prop:=Kp w w' Z∧match o with
 |.ok m=>∃v,e= .returned (.tuple #[v,.int .i64 0])∧MnV w' (fun k=>w.heap.size≤k) v m∧X w'
 |.error c=>e= .returned (.tuple #[zeroM,.int .i64 c])
theorem makeMap119 (w:World):(Instr.makeMap 119 none).run Tryz.prog w= .ok (.map (some w.heap.size)) (w.alloc (.map #[] 0)):=by kernel_rfl
theorem read41 (tmps:Array Value) (m e:Nat) (ty:TypeId) (v0 v1 v2 v3 v4 v5 v6 v7 v8 c:Value) (V:World) (h8:tmps.getD 8 undef= .pointer (some ⟨m,0,none⟩)) (h9:tmps.getD 9 undef= .pointer (some ⟨e,0,none⟩)) (hm:V.heap[m]? =some (.cells #[v0,v1,v2,v3,v4,v5,v6,v7,v8] 70 (0,0))) (he:V.heap[e]? =some (.cells #[c] 38 (0,0))) :
  (results Tryz.f41 tmps).run Tryz.prog V= .ok (.tuple #[.agg #[v0,v1,v2,v3,v4,v5,v6,v7,v8],c]) V:=by
 have x0:=blk_cell hm 0
 have x1:=blk_cell hm 1
 have x2:=blk_cell hm 2
 have x3:=blk_cell hm 3
 have x4:=blk_cell hm 4
 have x5:=blk_cell hm 5
 have x6:=blk_cell hm 6
 have x7:=blk_cell hm 7
 have x8:=blk_cell hm 8
 have y0:=blk_cell he 0
 simp at x0 x1 x2 x3 x4 x5 x6 x7 x8 y0 h8 h9
 simp[results,Tryz.results41,go_sem,h8,h9,x0,x1,x2,x3,x4,x5,x6,x7,x8,y0]
theorem door_none {P:Program} {fn:Func} {R:Ending→World→Prop} {tmps:Array Value} {V:World} {v:Value} (h:(results fn tmps).run P V= .ok v V) (hr:R (.returned v) V):bodyPostD P fn R .ret {tmps:=tmps,defers:=[]} V:=⟨v,h,hr⟩
theorem door_idle {R:Ending→World→Prop} {tmps:Array Value} {pm pe:Addr} {V:World} {v:Value} (h:(results Tryz.f41 tmps).run Tryz.prog V= .ok v V) (hr:R (.returned v) V):bodyPostD Tryz.prog Tryz.f41 R .ret {tmps:=tmps,defers:=[{target:=Target.fn (Fn.func 80) #[.pointer (some pm),.pointer (some pe)],args:= #[]}]} V:=by
 show Leaves _ _ _ _ _ _ _
 refine leaves_cons (f:=80) (args:= #[.pointer (some pm),.pointer (some pe)]) (by simp) (by simp[go_sem]) ?_
 refine (idle80 pm pe V).mono ?_
 rintro e u' w'' ⟨rfl,rfl,rfl⟩
 exact ⟨v,h,hr⟩
theorem door_caught {R:Ending→World→Prop} {tmps:Array Value} {m e:Nat} (hne:m≠e) {b0 b1 b2 b3 b4 b5 b6 b7 b8 b9 v:Value} {V:World} (hm:V.heap[m]? =some (.cells #[b0,b1,b2,b3,b4,b5,b6,b7,b8] 70 (0,0))) (he:V.heap[e]? =some (.cells #[b9] 38 (0,0)))
  (h:(results Tryz.f41 tmps).run Tryz.prog ((set9 V m (.int .i64 0) (.string ⟨#[]⟩) (.slice none 0 0) (.int .i64 0) (.int .i64 0) (.slice none 0 0) (.int .i64 0) (.int .i64 0) (.bool false)).setCell ⟨e,0,none⟩ (.int .i64 6))= .ok v ((set9 V m (.int .i64 0) (.string ⟨#[]⟩) (.slice none 0 0) (.int .i64 0) (.int .i64 0) (.slice none 0 0) (.int .i64 0) (.int .i64 0) (.bool false)).setCell ⟨e,0,none⟩ (.int .i64 6))) (hr:R (.returned v) ((set9 V m (.int .i64 0) (.string ⟨#[]⟩) (.slice none 0 0) (.int .i64 0) (.int .i64 0) (.slice none 0 0) (.int .i64 0) (.int .i64 0) (.bool false)).setCell ⟨e,0,none⟩ (.int .i64 6))) :
  bodyPostD Tryz.prog Tryz.f41 R (.panic failV) {tmps:=tmps,defers:=[{target:=Target.fn (Fn.func 80) #[.pointer (some ⟨m,0,none⟩),.pointer (some ⟨e,0,none⟩)],args:= #[]}]} V:=by
 show Leaves _ _ _ _ _ _ _
 refine leaves_cons (f:=80) (args:= #[.pointer (some ⟨m,0,none⟩),.pointer (some ⟨e,0,none⟩)]) (by simp) (by simp[go_sem]) ?_
 refine (caught80 m e hne _ _ _ _ _ _ _ _ _ _ V hm he).mono ?_
 rintro x u' w'' ⟨rfl,rfl,rfl⟩
 exact ⟨v,h,hr⟩
theorem ChRet.ok {Z:Nat→Prop} {X:World→Prop} {w V V' :World} {o:Except Int S70} {S ok:Nat→Prop} {v:Value} {m:S70} (hK:Kp w V Z) (hk:Kp V V' S) (hS:∀k,S k→w.heap.size≤k∧¬ok k) (hok:∀k,ok k→w.heap.size≤k) (hm:MnV V ok v m) (hX:∀W W',X W→(∀k,k<w.heap.size→W'.heap[k]? =W.heap[k]?)→X W') (hx:X V) (ho:o= .ok m):ChRet Z X w o (.returned (.tuple #[v,.int .i64 0])) V' :=by
 subst ho
 refine ⟨hK.then_ hk (fun k hk=> .inr (hS k hk).1),v,rfl,?_,?_⟩
 ·exact (hm.step (fun k h hlt=>hk.block k hlt (fun hs=>(hS k hs).2 h))).mono hok
 ·exact hX _ _ hx (fun k h=>hk.block k (Nat.lt_of_lt_of_le h hK.size) (fun hs=>by have:=(hS k hs).1;omega))
theorem ChRet.fail {Z:Nat→Prop} {X:World→Prop} {w V V' :World} {o:Except Int S70} {S:Nat→Prop} {c:Int} (hK:Kp w V Z) (hk:Kp V V' S) (hS:∀k,S k→w.heap.size≤k) (ho:o= .error c):ChRet Z X w o (.returned (.tuple #[zeroM,.int .i64 c])) V' :=by
 subst ho
 exact ⟨hK.then_ hk (fun k hk=> .inr (hS k hk)),rfl⟩
theorem ChRet.err {Z:Nat→Prop} {X:World→Prop} {w V V' :World} {o:Except Int S70} {m e:Nat} {c:Int} (hB:Below w.heap.size w V) (hk:Kp V V' (fun k=>k=m∨k=e)) (hm:w.heap.size≤m) (he:w.heap.size≤e) (ho:o= .error c):ChRet Z X w o (.returned (.tuple #[zeroM,.int .i64 c])) V' :=by
 subst ho
 exact ⟨(Kp.of_below hB Z).then_ hk (fun k hk=> .inr (by rcases hk with h | h<;>omega)),rfl⟩
theorem fin_err {V:World} {m e:Nat} (hne:m≠e) {x0 x1 x2 x3 x4 x5 x6 x7 x8 y:Value} (hm:V.heap[m]? =some (.cells #[x0,x1,x2,x3,x4,x5,x6,x7,x8] 70 (0,0))) (he:V.heap[e]? =some (.cells #[y] 38 (0,0))) (v0 v1 v2 v3 v4 v5 v6 v7 v8 c:Value) :
  ((set9 V m v0 v1 v2 v3 v4 v5 v6 v7 v8).setCell ⟨e,0,none⟩ c).heap[m]? =some (.cells #[v0,v1,v2,v3,v4,v5,v6,v7,v8] 70 (0,0))∧((set9 V m v0 v1 v2 v3 v4 v5 v6 v7 v8).setCell ⟨e,0,none⟩ c).heap[e]? =some (.cells #[c] 38 (0,0))∧Kp V ((set9 V m v0 v1 v2 v3 v4 v5 v6 v7 v8).setCell ⟨e,0,none⟩ c) (fun k=>k=m∨k=e):=by
 have h1:=zero9 m e hne V (.bool false) y he v0 v1 v2 v3 v4 v5 v6 v7 v8
 have h2:=fin9 hm v0 v1 v2 v3 v4 v5 v6 v7 v8
 refine ⟨(Below.heap_setCell _ ⟨e,0,none⟩ c m hne).trans h2,?_,?_⟩
 ·have:=blk_set h1 0 c
  simpa using this
 ·exact ((kp_set9 _ _ _ _ _ _ _ _ _).mono (fun k hk=> .inl hk)).then_ (Kp.setCell _ ⟨e,0,none⟩ c) (fun k hk=> .inl (.inr hk))
theorem Own41.kp {s:Sg} {t:S30} {A1:Option Addr} {c1:Nat} {A2:Option Addr} {c2 n:Nat} {W W' :World} {S:Nat→Prop} (h:Own41 s t A1 c1 A2 c2 n W) (hk:Kp W W' S) (hS:∀k,n≤k→k<n+4→¬S k):Own41 s t A1 c1 A2 c2 n W' :=
 ⟨hk.blk h.sg (hS _ (by omega) (by omega)),hk.blk h.tr (hS _ (by omega) (by omega)),hk.blk h.mn (hS _ (by omega) (by omega)),hk.blk h.er (hS _ (by omega) (by omega))⟩
set_option maxHeartbeats 2500000 in
set_option maxRecDepth 100000 in
theorem checked_calls (s:Sg) (t:S30) (cat:ByteArray) (w:World) (A1:Option Addr) (c1:Nat) (A2:Option Addr) (c2:Nat) (g:Nat) (cap:Array Value) (hC:s.C w) (tv:TreeV w t A1 c1 A2 c2) (hsm:Sm t) (hn:nodes t≤500) (b1 b2 b3:Bool) (h1:sigOk s.ss s.cs s.ps=b1) (h2:decide ((60:Int)<nodes t)= !b2) (h3:formedP structL t cat=b3)
  (Z:Nat→Prop) (hZ:∀k,Z k→k<w.heap.size) (X:World→Prop) (hX:∀W W',X W→(∀k,k<w.heap.size→W'.heap[k]? =W.heap[k]?)→X W') (r:Option S70)
  (hg:∀args W,(callFunc g args).run Tryz.prog W= .ok (.enter g args) W)
  (hb:b1=true→b2=true→b3=true→resP t=true→∀(W:World) (bp mb:Nat),Below w.heap.size w W→W.heap[bp]? =some (.cells #[.slice s.A0 s.ss.length s.c0,.slice s.A1 s.cs.length s.c1,.slice s.A2 s.ps.length s.c2,.map (some mb)] 121 (0,0))→MapE W mb []→w.heap.size≤mb→mb<W.heap.size →
   Calls Tryz.prog g (#[.pointer (some ⟨bp,0,none⟩)]++cap) W (BRet Z X W mb r)) :
  Calls Tryz.prog 41 #[.agg #[.slice s.A0 s.ss.length s.c0,.slice s.A1 s.cs.length s.c1,.slice s.A2 s.ps.length s.c2],.agg #[.string t.f0,.slice A1 t.f1.length c1,.slice A2 t.f2.length c2],.string cat,.func (.func g) #[] cap] w (ChRet Z X w (chP (b1 && b2 && b3) (resP t) r)):=by
 have hO:=own41 s t A1 c1 A2 c2 w
 have HO:=Aside0.mk hO.1
 have HB:=Aside0.mk hO.2
 have HD:=Aside0.mk (head41 s t cat (.func (.func g) #[] cap) A1 c1 A2 c2 w.heap.size _ b1 b2 b3 hO.1 (SigC.below hC hO.2) (tv.below hO.2) hsm (by omega) h1 h2 h3)
 have HBU:=Aside0.mk hb
 have TV:=Aside0.mk tv
 have HSM:=Aside0.mk hsm
 have HN:=Aside0.mk hn
 have HX:=Aside0.mk hX
 have HZN:=Aside0.mk hZ
 clear hO hC h1 h2 h3 hb tv hsm hn hX hZ
 go_enter_defers Tryz.func41,Tryz.ntmps41
 go_wp2_with fail
 refine wp_onN _ HD.out ?_
 rintro a w2 ⟨x,rfl,hB2,hx⟩
 have HB2:=Aside0.mk (below_step HB.out hB2)
 have HO2:=Aside0.mk (HO.out.below hB2)
 clear hB2 HO HB HD
 cases hbad:(b1 && b2 && b3)with
 |false =>
  rw[hbad]at hx
  have hx:x 14= .bool true:=hx
  unfold fr41
  rw[hx]
  have zc0:=blk_cell HO2.out.mn 0
  have zf0:=blk_frozen HO2.out.mn 0
  have zc1:=blk_cell HO2.out.mn 1
  have zf1:=blk_frozen HO2.out.mn 1
  have zc2:=blk_cell HO2.out.mn 2
  have zf2:=blk_frozen HO2.out.mn 2
  have zc3:=blk_cell HO2.out.mn 3
  have zf3:=blk_frozen HO2.out.mn 3
  have zc4:=blk_cell HO2.out.mn 4
  have zf4:=blk_frozen HO2.out.mn 4
  have zc5:=blk_cell HO2.out.mn 5
  have zf5:=blk_frozen HO2.out.mn 5
  have zc6:=blk_cell HO2.out.mn 6
  have zf6:=blk_frozen HO2.out.mn 6
  have zc7:=blk_cell HO2.out.mn 7
  have zf7:=blk_frozen HO2.out.mn 7
  have zc8:=blk_cell HO2.out.mn 8
  have zf8:=blk_frozen HO2.out.mn 8
  simp at zc0 zc1 zc2 zc3 zc4 zc5 zc6 zc7 zc8
  have HZ:=Aside0.mk (zero9 (w.heap.size+1+1) (w.heap.size+1+1+1) (by omega) _ (.bool false) _ HO2.out.er (.int .i64 0) (.string ⟨#[]⟩) (.slice none 0 0) (.int .i64 0) (.int .i64 0) (.slice none 0 0) (.int .i64 0) (.int .i64 0) (.bool false))
  have y0:=blk_cell HZ.out 0
  have yf:=blk_frozen HZ.out 0
  simp at y0
  unfold set9 at y0 yf
  go_wp2
  obtain ⟨g1,g2,g3⟩:=fin_err (by omega) HO2.out.mn HO2.out.er (.int .i64 0) (.string ⟨#[]⟩) (.slice none 0 0) (.int .i64 0) (.int .i64 0) (.slice none 0 0) (.int .i64 0) (.int .i64 0) (.bool false) (.int .i64 1)
  refine door_none (read41 _ (w.heap.size+1+1) (w.heap.size+1+1+1) 0 _ _ _ _ _ _ _ _ _ _ _ ?_ ?_ g1 g2) (ChRet.err (Z:=Z) (X:=X) (o:=chP (b1 && b2 && b3) (resP t) r) HB2.out g3 (by omega) (by omega) (by rw[hbad];rfl))
  ·rfl
  ·rfl
 |true =>
  rw[hbad]at hx
  have hx:x 14= .bool false:=hx
  unfold fr41
  rw[hx]
  have t0:=blk_cell HO2.out.tr 0
  have t1:=blk_cell HO2.out.tr 1
  have t2:=blk_cell HO2.out.tr 2
  simp at t0 t1 t2
  have C24:=Aside0.mk (resolved_calls t HSM.out HN.out w2 A1 c1 A2 c2 (TV.out.below HB2.out))
  go_upto_region 3 with fail
  cases hres:resP t with
  |false =>
   rw[hres]at C24
   go_wp2_with (go_at_call 24;refine C24.out.mono ?_;rintro e w3 ⟨rfl,hB3⟩;have HB3:=Aside0.mk (below_step HB2.out hB3);have HO3:=Aside0.mk (HO2.out.below hB3);clear hB3;have zc0:=blk_cell HO3.out.mn 0;have zf0:=blk_frozen HO3.out.mn 0;have zc1:=blk_cell HO3.out.mn 1;have zf1:=blk_frozen HO3.out.mn 1;have zc2:=blk_cell HO3.out.mn 2;have zf2:=blk_frozen HO3.out.mn 2;have zc3:=blk_cell HO3.out.mn 3;have zf3:=blk_frozen HO3.out.mn 3;have zc4:=blk_cell HO3.out.mn 4;have zf4:=blk_frozen HO3.out.mn 4;have zc5:=blk_cell HO3.out.mn 5;have zf5:=blk_frozen HO3.out.mn 5;have zc6:=blk_cell HO3.out.mn 6;have zf6:=blk_frozen HO3.out.mn 6;have zc7:=blk_cell HO3.out.mn 7;have zf7:=blk_frozen HO3.out.mn 7;have zc8:=blk_cell HO3.out.mn 8;have zf8:=blk_frozen HO3.out.mn 8;simp at zc0 zc1 zc2 zc3 zc4 zc5 zc6 zc7 zc8;have HZ:=Aside0.mk (zero9 (w.heap.size+1+1) (w.heap.size+1+1+1) (by omega) _ (.bool false) _ HO3.out.er (.int .i64 0) (.string ⟨#[]⟩) (.slice none 0 0) (.int .i64 0) (.int .i64 0) (.slice none 0 0) (.int .i64 0) (.int .i64 0) (.bool false));have y0:=blk_cell HZ.out 0;have yf:=blk_frozen HZ.out 0;simp at y0;unfold set9 at y0 yf)
   obtain ⟨g1,g2,g3⟩:=fin_err (by omega) HO3.out.mn HO3.out.er (.int .i64 0) (.string ⟨#[]⟩) (.slice none 0 0) (.int .i64 0) (.int .i64 0) (.slice none 0 0) (.int .i64 0) (.int .i64 0) (.bool false) (.int .i64 10)
   refine door_none (read41 _ (w.heap.size+1+1) (w.heap.size+1+1+1) 0 _ _ _ _ _ _ _ _ _ _ _ ?_ ?_ g1 g2) (ChRet.err (Z:=Z) (X:=X) (o:=chP (b1 && b2 && b3) (resP t) r) HB3.out g3 (by omega) (by omega) (by rw[hbad,hres];rfl))
   ·rfl
   ·rfl
  |true =>
   rw[hres]at C24
   have hmf:∀(fn:Fn) (first cap:Array Value) (w:World),(Instr.makeFunc fn first cap).run Tryz.prog w= .ok (.func fn first cap) w:=fun _ _ _ _=>rfl
   cases r with
   |none =>
    go_upto_region 7 with (first
     |(go_at_call 24;refine C24.out.mono ?_;rintro e w3 ⟨rfl,hB3⟩;have HB3:=Aside0.mk (below_step HB2.out hB3);have HO3:=Aside0.mk (HO2.out.below hB3);clear hB3;have s0:=blk_cell HO3.out.sg 0;have s1:=blk_cell HO3.out.sg 1;have s2:=blk_cell HO3.out.sg 2;simp at s0 s1 s2;have hmk:=makeMap119 w3)
     |(go_simp;have hsz4:((w3.alloc (.map #[] 0)).alloc (.cells #[.slice s.A0 s.ss.length s.c0,.slice s.A1 s.cs.length s.c1,.slice s.A2 s.ps.length s.c2,.map (some w3.heap.size)] 121)).heap.size=w3.heap.size+2:=by simp
       have HB4:=Aside0.mk (below_alloc (below_alloc HB3.out (.map #[] 0)) (.cells #[.slice s.A0 s.ss.length s.c0,.slice s.A1 s.cs.length s.c1,.slice s.A2 s.ps.length s.c2,.map (some w3.heap.size)] 121))
       have HO4:=Aside0.mk (HO3.out.below (below_alloc (below_alloc (Below.refl w3.heap.size w3) (.map #[] 0)) (.cells #[.slice s.A0 s.ss.length s.c0,.slice s.A1 s.cs.length s.c1,.slice s.A2 s.ps.length s.c2,.map (some w3.heap.size)] 121)))
       have hbp:=blk_new (w3.alloc (.map #[] 0)) (.cells #[.slice s.A0 s.ss.length s.c0,.slice s.A1 s.cs.length s.c1,.slice s.A2 s.ps.length s.c2,.map (some w3.heap.size)] 121)
       rw[World.size_alloc]at hbp
       have hmr:=blk_lt HO3.out.er
       have hB3s:=HB3.out.size
       refine (HBU.out (by revert hbad;cases b1<;>simp) (by revert hbad;cases b1<;>cases b2<;>simp) (by revert hbad;cases b1<;>cases b2<;>cases b3<;>simp) hres _ (w3.heap.size+1) w3.heap.size HB4.out hbp ((MapE.made w3).below (below_alloc (Below.refl _ _) _)) HB3.out.size (by omega)).mono ?_
       generalize hW4:((w3.alloc (.map #[] 0)).alloc (.cells #[.slice s.A0 s.ss.length s.c0,.slice s.A1 s.cs.length s.c1,.slice s.A2 s.ps.length s.c2,.map (some w3.heap.size)] 121))=W4 at *
       clear hW4
       intro e w5 hr
       have HK5:=Aside0.mk hr.1;have HO5:=Aside0.mk (HO4.out.kp hr.1 (fun k h1 h2 h=>h.elim (fun h=>by omega) (fun h=>by have:=HZN.out k h;omega)));obtain ⟨hk5,rfl⟩:=hr;clear hk5))
    have HKW:=Aside0.mk (show Kp w w5 Z from (Kp.of_below HB4.out Z).then_ HK5.out (fun k hk=>hk.elim (fun h=> .inr (by rw[h];exact hB3s)) .inl))
    obtain ⟨g1,g2,g3⟩:=fin_err (by omega) HO5.out.mn HO5.out.er (.int .i64 0) (.string ⟨#[]⟩) (.slice none 0 0) (.int .i64 0) (.int .i64 0) (.slice none 0 0) (.int .i64 0) (.int .i64 0) (.bool false) (.int .i64 6)
    refine door_caught (by omega) HO5.out.mn HO5.out.er (read41 _ (w.heap.size+1+1) (w.heap.size+1+1+1) 0 _ _ _ _ _ _ _ _ _ _ _ ?_ ?_ g1 g2) (ChRet.fail (Z:=Z) (X:=X) HKW.out g3 (fun k hk=>by rcases hk with h | h<;>omega) rfl)
    ·rfl
    ·rfl
   |some m =>
    go_upto_region 7 with (first
     |(go_at_call 24;refine C24.out.mono ?_;rintro e w3 ⟨rfl,hB3⟩;have HB3:=Aside0.mk (below_step HB2.out hB3);have HO3:=Aside0.mk (HO2.out.below hB3);clear hB3;have s0:=blk_cell HO3.out.sg 0;have s1:=blk_cell HO3.out.sg 1;have s2:=blk_cell HO3.out.sg 2;simp at s0 s1 s2;have hmk:=makeMap119 w3)
     |(go_simp;have hsz4:((w3.alloc (.map #[] 0)).alloc (.cells #[.slice s.A0 s.ss.length s.c0,.slice s.A1 s.cs.length s.c1,.slice s.A2 s.ps.length s.c2,.map (some w3.heap.size)] 121)).heap.size=w3.heap.size+2:=by simp
       have HB4:=Aside0.mk (below_alloc (below_alloc HB3.out (.map #[] 0)) (.cells #[.slice s.A0 s.ss.length s.c0,.slice s.A1 s.cs.length s.c1,.slice s.A2 s.ps.length s.c2,.map (some w3.heap.size)] 121))
       have HO4:=Aside0.mk (HO3.out.below (below_alloc (below_alloc (Below.refl w3.heap.size w3) (.map #[] 0)) (.cells #[.slice s.A0 s.ss.length s.c0,.slice s.A1 s.cs.length s.c1,.slice s.A2 s.ps.length s.c2,.map (some w3.heap.size)] 121)))
       have hbp:=blk_new (w3.alloc (.map #[] 0)) (.cells #[.slice s.A0 s.ss.length s.c0,.slice s.A1 s.cs.length s.c1,.slice s.A2 s.ps.length s.c2,.map (some w3.heap.size)] 121)
       rw[World.size_alloc]at hbp
       have hmr:=blk_lt HO3.out.er
       have hB3s:=HB3.out.size
       refine (HBU.out (by revert hbad;cases b1<;>simp) (by revert hbad;cases b1<;>cases b2<;>simp) (by revert hbad;cases b1<;>cases b2<;>cases b3<;>simp) hres _ (w3.heap.size+1) w3.heap.size HB4.out hbp ((MapE.made w3).below (below_alloc (Below.refl _ _) _)) HB3.out.size (by omega)).mono ?_
       generalize hW4:((w3.alloc (.map #[] 0)).alloc (.cells #[.slice s.A0 s.ss.length s.c0,.slice s.A1 s.cs.length s.c1,.slice s.A2 s.ps.length s.c2,.map (some w3.heap.size)] 121))=W4 at *
       clear hW4
       intro e w5 hr
       have HK5:=Aside0.mk hr.1;have HO5:=Aside0.mk (HO4.out.kp hr.1 (fun k h1 h2 h=>h.elim (fun h=>by omega) (fun h=>by have:=HZN.out k h;omega)));obtain ⟨hk5,v5,rfl,hm5,hx5⟩:=hr;have HM5:=Aside0.mk hm5;have HX5:=Aside0.mk hx5;obtain ⟨E2,e2,E5,e5,rfl,hrest⟩:=id hm5;clear hk5 hrest hm5 hx5;unfold mnW;have zc0:=blk_cell HO5.out.mn 0;have zf0:=blk_frozen HO5.out.mn 0;have zc1:=blk_cell HO5.out.mn 1;have zf1:=blk_frozen HO5.out.mn 1;have zc2:=blk_cell HO5.out.mn 2;have zf2:=blk_frozen HO5.out.mn 2;have zc3:=blk_cell HO5.out.mn 3;have zf3:=blk_frozen HO5.out.mn 3;have zc4:=blk_cell HO5.out.mn 4;have zf4:=blk_frozen HO5.out.mn 4;have zc5:=blk_cell HO5.out.mn 5;have zf5:=blk_frozen HO5.out.mn 5;have zc6:=blk_cell HO5.out.mn 6;have zf6:=blk_frozen HO5.out.mn 6;have zc7:=blk_cell HO5.out.mn 7;have zf7:=blk_frozen HO5.out.mn 7;have zc8:=blk_cell HO5.out.mn 8;have zf8:=blk_frozen HO5.out.mn 8;simp at zc0 zc1 zc2 zc3 zc4 zc5 zc6 zc7 zc8;have HZ:=Aside0.mk (zero9 (w.heap.size+1+1) (w.heap.size+1+1+1) (by omega) _ (.bool false) _ HO5.out.er (.int .i64 0) (.string ⟨#[]⟩) (.slice none 0 0) (.int .i64 0) (.int .i64 0) (.slice none 0 0) (.int .i64 0) (.int .i64 0) (.bool false));have y0:=blk_cell HZ.out 0;have yf:=blk_frozen HZ.out 0;simp at y0;unfold set9 at y0 yf))
    have HKW:=Aside0.mk (show Kp w w5 Z from (Kp.of_below HB4.out Z).then_ HK5.out (fun k hk=>hk.elim (fun h=> .inr (by rw[h];exact hB3s)) .inl))
    have HVM:=Aside0.mk (fin9 HO5.out.mn (.int .i64 m.f0.f0) (.string m.f0.f1) (.slice E2 m.f0.f2.length e2) (.int .i64 m.f0.f3) (.int .i64 m.f0.f4) (.slice E5 m.f0.f5.length e5) (.int .i64 m.f1) (.int .i64 m.f2) (.bool m.f3))
    have HVE:=Aside0.mk (zero9 (w.heap.size+1+1) (w.heap.size+1+1+1) (by omega) w5 (.bool false) _ HO5.out.er (.int .i64 m.f0.f0) (.string m.f0.f1) (.slice E2 m.f0.f2.length e2) (.int .i64 m.f0.f3) (.int .i64 m.f0.f4) (.slice E5 m.f0.f5.length e5) (.int .i64 m.f1) (.int .i64 m.f2) (.bool m.f3))
    have HMV:=Aside0.mk (HM5.out.stored (g:=w.heap.size+1+1) (fun k hk=>by omega) (.int .i64 m.f0.f0) (.string m.f0.f1) (.slice E2 m.f0.f2.length e2) (.int .i64 m.f0.f3) (.int .i64 m.f0.f4) (.slice E5 m.f0.f5.length e5) (.int .i64 m.f1) (.int .i64 m.f2) (.bool m.f3))
    have HKV:=Aside0.mk (HKW.out.then_ (kp_set9 (g:=w.heap.size+1+1) (.int .i64 m.f0.f0) (.string m.f0.f1) (.slice E2 m.f0.f2.length e2) (.int .i64 m.f0.f3) (.int .i64 m.f0.f4) (.slice E5 m.f0.f5.length e5) (.int .i64 m.f1) (.int .i64 m.f2) (.bool m.f3)) (fun k hk=> .inr (by omega)))
    have HXV:=Aside0.mk (HX.out _ _ HX5.out (fun k hk=>fin9_far (W:=w5) (g:=w.heap.size+1+1) (k:=k) (by omega) (.int .i64 m.f0.f0) (.string m.f0.f1) (.slice E2 m.f0.f2.length e2) (.int .i64 m.f0.f3) (.int .i64 m.f0.f4) (.slice E5 m.f0.f5.length e5) (.int .i64 m.f1) (.int .i64 m.f2) (.bool m.f3)))
    clear zc0 zf0 zc1 zf1 zc2 zf2 zc3 zf3 zc4 zf4 zc5 zf5 zc6 zf6 zc7 zf7 zc8 zf8 y0 yf HZ
    obtain ⟨V,hV⟩:∃V,set9 w5 (w.heap.size+1+1) (.int .i64 m.f0.f0) (.string m.f0.f1) (.slice E2 m.f0.f2.length e2) (.int .i64 m.f0.f3) (.int .i64 m.f0.f4) (.slice E5 m.f0.f5.length e5) (.int .i64 m.f1) (.int .i64 m.f2) (.bool m.f3)=V:=⟨_,rfl⟩
    rw[hV]at HVM HVE HMV HKV HXV
    unfold set9 at hV
    rw[hV]
    clear hV HM5 HX5 HKW
    have zc0:=blk_cell HVM.out 0
    have zf0:=blk_frozen HVM.out 0
    have zc1:=blk_cell HVM.out 1
    have zf1:=blk_frozen HVM.out 1
    have zc2:=blk_cell HVM.out 2
    have zf2:=blk_frozen HVM.out 2
    have zc3:=blk_cell HVM.out 3
    have zf3:=blk_frozen HVM.out 3
    have zc4:=blk_cell HVM.out 4
    have zf4:=blk_frozen HVM.out 4
    have zc5:=blk_cell HVM.out 5
    have zf5:=blk_frozen HVM.out 5
    have zc6:=blk_cell HVM.out 6
    have zf6:=blk_frozen HVM.out 6
    have zc7:=blk_cell HVM.out 7
    have zf7:=blk_frozen HVM.out 7
    have zc8:=blk_cell HVM.out 8
    have zf8:=blk_frozen HVM.out 8
    simp at zc0 zc1 zc2 zc3 zc4 zc5 zc6 zc7 zc8
    have HZ:=Aside0.mk (zero9 (w.heap.size+1+1) (w.heap.size+1+1+1) (by omega) V (.bool false) _ HVE.out (.int .i64 0) (.string ⟨#[]⟩) (.slice none 0 0) (.int .i64 0) (.int .i64 0) (.slice none 0 0) (.int .i64 0) (.int .i64 0) (.bool false))
    have y0:=blk_cell HZ.out 0
    have yf:=blk_frozen HZ.out 0
    simp at y0
    unfold set9 at y0 yf
    cases h3:m.f3 with
    |true =>
     rw[h3]at zc8
     go_wp2
     obtain ⟨g1,g2,g3⟩:=fin_err (by omega) HVM.out HVE.out (.int .i64 0) (.string ⟨#[]⟩) (.slice none 0 0) (.int .i64 0) (.int .i64 0) (.slice none 0 0) (.int .i64 0) (.int .i64 0) (.bool false) (.int .i64 6)
     refine door_idle (read41 _ (w.heap.size+1+1) (w.heap.size+1+1+1) 0 _ _ _ _ _ _ _ _ _ _ _ ?_ ?_ g1 g2) (ChRet.fail (Z:=Z) (X:=X) HKV.out g3 (fun k hk=>by rcases hk with h | h<;>omega) (by simp[chP,hbad,hres,h3]))
     ·rfl
     ·rfl
    |false =>
     rw[h3]at zc8
     by_cases k1:200<m.f1
     ·have k1b:=decide_eq_true k1
      go_wp2
      obtain ⟨g1,g2,g3⟩:=fin_err (by omega) HVM.out HVE.out (.int .i64 0) (.string ⟨#[]⟩) (.slice none 0 0) (.int .i64 0) (.int .i64 0) (.slice none 0 0) (.int .i64 0) (.int .i64 0) (.bool false) (.int .i64 2)
      refine door_idle (read41 _ (w.heap.size+1+1) (w.heap.size+1+1+1) 0 _ _ _ _ _ _ _ _ _ _ _ ?_ ?_ g1 g2) (ChRet.fail (Z:=Z) (X:=X) HKV.out g3 (fun k hk=>by rcases hk with h | h<;>omega) (by simp[chP,hbad,hres,h3,k1]))
      ·rfl
      ·rfl
     ·have k1b:=decide_eq_false k1
      by_cases k2:32<m.f2
      ·have k2b:=decide_eq_true k2
       go_wp2
       obtain ⟨g1,g2,g3⟩:=fin_err (by omega) HVM.out HVE.out (.int .i64 0) (.string ⟨#[]⟩) (.slice none 0 0) (.int .i64 0) (.int .i64 0) (.slice none 0 0) (.int .i64 0) (.int .i64 0) (.bool false) (.int .i64 2)
       refine door_idle (read41 _ (w.heap.size+1+1) (w.heap.size+1+1+1) 0 _ _ _ _ _ _ _ _ _ _ _ ?_ ?_ g1 g2) (ChRet.fail (Z:=Z) (X:=X) HKV.out g3 (fun k hk=>by rcases hk with h | h<;>omega) (by simp[chP,hbad,hres,h3,k1,k2]))
       ·rfl
       ·rfl
      ·have k2b:=decide_eq_false k2
       clear y0 yf HZ
       have HZ:=Aside0.mk (zero9 (w.heap.size+1+1) (w.heap.size+1+1+1) (by omega) V (.bool false) _ HVE.out (.int .i64 m.f0.f0) (.string m.f0.f1) (.slice E2 m.f0.f2.length e2) (.int .i64 m.f0.f3) (.int .i64 m.f0.f4) (.slice E5 m.f0.f5.length e5) (.int .i64 m.f1) (.int .i64 m.f2) (.bool false))
       have y0:=blk_cell HZ.out 0
       have yf:=blk_frozen HZ.out 0
       simp at y0
       unfold set9 at y0 yf
       clear HZ
       go_wp2
       obtain ⟨g1,g2,g3⟩:=fin_err (by omega) HVM.out HVE.out (.int .i64 m.f0.f0) (.string m.f0.f1) (.slice E2 m.f0.f2.length e2) (.int .i64 m.f0.f3) (.int .i64 m.f0.f4) (.slice E5 m.f0.f5.length e5) (.int .i64 m.f1) (.int .i64 m.f2) (.bool m.f3) (.int .i64 0)
       rw[h3]at g1 g2 g3
       have hB4s:=HB4.out.size
       refine door_idle (read41 _ (w.heap.size+1+1) (w.heap.size+1+1+1) 0 _ _ _ _ _ _ _ _ _ _ _ ?_ ?_ g1 g2) (ChRet.ok (Z:=Z) (X:=X) HKV.out g3 (fun k hk=>⟨by rcases hk with h | h<;>omega,fun hq=>by have hq' :W4.heap.size≤k:=hq;rcases hk with h | h<;>omega⟩) (fun k hk=>by have hk' :W4.heap.size≤k:=hk;omega) (by have:=HMV.out;unfold mnW at this;rw[h3]at this;exact this) HX.out HXV.out (by simp[chP,hbad,hres,h3,k1,k2]))
       ·rfl
       ·rfl
end
theorem inv0 {T:Lib.PrintTabs} {s:Sg} {W:World} {mb:Nat} (h:MapE W mb []):MapInv T s W mb (fun _=>False) []:=⟨h,fun x v hx=>(by simp[entOf]at hx),fun h=>h⟩
set_option maxHeartbeats 2000000 in
set_option maxRecDepth 100000 in
theorem sent55 (T:Lib.PrintTabs) (s:Sg) (t:S30) (w W:World) (bp mb Bt:Nat) (A1:Option Addr) (c1:Nat) (A2:Option Addr) (c2:Nat) (hT:Tabs T w) (hC:s.C w) (hok:sigOk s.ss s.cs s.ps=true) (hn:nodes t≤60) (hf:formedP structL t cS=true) (hr:resP t=true) (hsm:Sm t) (hB:Below w.heap.size w W)
  (hbp:W.heap[bp]? =some (.cells #[.slice s.A0 s.ss.length s.c0,.slice s.A1 s.cs.length s.c1,.slice s.A2 s.ps.length s.c2,.map (some mb)] 121 (0,0))) (hm:MapE W mb []) (hge:w.heap.size≤mb) (hlt:mb<W.heap.size) (hT' :TreeAt W Bt t A1 c1 A2 c2) :
  Calls Tryz.prog 55 #[.pointer (some ⟨bp,0,none⟩),.pointer (some ⟨Bt,0,none⟩)] W (BRet (fun _=>False) (fun _=>True) W mb (sentP s 60 t)):=by
 have HBW:=Aside0.mk (below_alloc (Below.refl W.heap.size W) (.cells #[.int .i64 0,.string ⟨#[]⟩,.slice none 0 0,.int .i64 0,.int .i64 0,.slice none 0 0,.int .i64 0,.int .i64 0,.bool false] 70))
 have HXR:=Aside0.mk (blk_new W (.cells #[.int .i64 0,.string ⟨#[]⟩,.slice none 0 0,.int .i64 0,.int .i64 0,.slice none 0 0,.int .i64 0,.int .i64 0,.bool false] 70))
 have HXT:=Aside0.mk (blk_below hT'.blk HBW.out)
 have HSZ:=Aside0.mk (show (W.alloc (.cells #[.int .i64 0,.string ⟨#[]⟩,.slice none 0 0,.int .i64 0,.int .i64 0,.slice none 0 0,.int .i64 0,.int .i64 0,.bool false] 70)).heap.size=W.heap.size+1 by simp)
 have hs:=sig_ok hok
 have C:=Aside0.mk (sent_all T s 60 t hn (Nat.le_refl _) hf hr hsm w (W.alloc (.cells #[.int .i64 0,.string ⟨#[]⟩,.slice none 0 0,.int .i64 0,.int .i64 0,.slice none 0 0,.int .i64 0,.int .i64 0,.bool false] 70)) bp mb (fun _=>False) [] A1 c1 A2 c2 ⟨below_step hB HBW.out,hT,hC,hs.1,blk_below hbp HBW.out,hge,hs.2⟩ (inv0 (hm.below HBW.out)) ⟨hT'.l1,(hT'.below HBW.out).v,hT'.l2,(hT'.below HBW.out).k⟩ (by have:=NN_eq 60;simp;omega))
 have HLT:=Aside0.mk hlt
 clear hT hC hok hn hf hr hsm hB hbp hm hge hT' hs hlt
 have x0:=blk_cell HXT.out 0
 have x1:=blk_cell HXT.out 1
 have x2:=blk_cell HXT.out 2
 simp at x0 x1 x2
 cases hq:sentP s 60 t with
 |none =>
  rw[hq]at C
  go_enter Tryz.func55,Tryz.ntmps55
  go_wp2_with (go_at_call 56;refine C.out.mono ?_;rintro e w5 ⟨hk,rfl⟩)
  exact ⟨rfl,(Kp.of_below HBW.out (fun k=>k=mb∨False)).then_ hk (fun k hk=> .inl (.inl hk)),rfl⟩
 |some m =>
  rw[hq]at C
  go_enter Tryz.func55,Tryz.ntmps55
  go_wp2_with (go_at_call 56;refine C.out.mono ?_;rintro e w5 ⟨hk,v5,rfl,hm5,en5,hi5,hl5⟩;have HK5:=Aside0.mk hk;have HM5:=Aside0.mk hm5;have RR:=Aside0.mk (hk.blk HXR.out (by have:=HLT.out;omega));obtain ⟨E2,e2,E5,e5,rfl,hrest⟩:=id hm5;clear hk hm5 hi5 hl5 hrest;unfold mnW;have zc0:=blk_cell RR.out 0;have zf0:=blk_frozen RR.out 0;have zc1:=blk_cell RR.out 1;have zf1:=blk_frozen RR.out 1;have zc2:=blk_cell RR.out 2;have zf2:=blk_frozen RR.out 2;have zc3:=blk_cell RR.out 3;have zf3:=blk_frozen RR.out 3;have zc4:=blk_cell RR.out 4;have zf4:=blk_frozen RR.out 4;have zc5:=blk_cell RR.out 5;have zf5:=blk_frozen RR.out 5;have zc6:=blk_cell RR.out 6;have zf6:=blk_frozen RR.out 6;have zc7:=blk_cell RR.out 7;have zf7:=blk_frozen RR.out 7;have zc8:=blk_cell RR.out 8;have zf8:=blk_frozen RR.out 8;simp at zc0 zc1 zc2 zc3 zc4 zc5 zc6 zc7 zc8)
  refine bodyPost_ret (results_single rfl (.cell W.heap.size 70 _ (0,0) _ rfl (fin9 (W:=w5) RR.out (.int .i64 m.f0.f0) (.string m.f0.f1) (.slice E2 m.f0.f2.length e2) (.int .i64 m.f0.f3) (.int .i64 m.f0.f4) (.slice E5 m.f0.f5.length e5) (.int .i64 m.f1) (.int .i64 m.f2) (.bool m.f3)) Tryz.underlying70 rfl (by kernel_rfl) .nil)) rfl ?_
  have hsz:=HSZ.out
  refine ⟨((Kp.of_below HBW.out (fun k=>k=mb∨False)).then_ HK5.out (fun k hk=> .inl (.inl hk))).then_ (kp_set9 (g:=W.heap.size) (.int .i64 m.f0.f0) (.string m.f0.f1) (.slice E2 m.f0.f2.length e2) (.int .i64 m.f0.f3) (.int .i64 m.f0.f4) (.slice E5 m.f0.f5.length e5) (.int .i64 m.f1) (.int .i64 m.f2) (.bool m.f3)) (fun k hk=> .inr (by omega)),_,rfl,?_,trivial⟩
  exact (HM5.out.stored (g:=W.heap.size) (fun k hk=>by rcases hk with h | h;exact h.elim;omega) (.int .i64 m.f0.f0) (.string m.f0.f1) (.slice E2 m.f0.f2.length e2) (.int .i64 m.f0.f3) (.int .i64 m.f0.f4) (.slice E5 m.f0.f5.length e5) (.int .i64 m.f1) (.int .i64 m.f2) (.bool m.f3)).mono (fun k hk=>by rcases hk with h | h;exact h.elim;omega)
def set6 (W:World) (g:Nat) (a0 a1 a2 a3 a4 a5:Value):World:=(((((W.setCell ⟨g,0,none⟩ a0).setCell ⟨g,1,none⟩ a1).setCell ⟨g,2,none⟩ a2).setCell ⟨g,3,none⟩ a3).setCell ⟨g,4,none⟩ a4).setCell ⟨g,5,none⟩ a5
theorem fin6 {W:World} {g:Nat} {e:TypeId} {x0 x1 x2 x3 x4 x5:Value} (h:W.heap[g]? =some (.cells #[x0,x1,x2,x3,x4,x5] e (0,0))) (a0 a1 a2 a3 a4 a5:Value):(set6 W g a0 a1 a2 a3 a4 a5).heap[g]? =some (.cells #[a0,a1,a2,a3,a4,a5] e (0,0)):=by
 have:=blk_set (blk_set (blk_set (blk_set (blk_set (blk_set h 0 a0) 1 a1) 2 a2) 3 a3) 4 a4) 5 a5
 unfold set6
 simpa using this
theorem kp_set6 {W:World} {g:Nat} (a0 a1 a2 a3 a4 a5:Value):Kp W (set6 W g a0 a1 a2 a3 a4 a5) (fun k=>k=g):=by
 unfold set6
 have hs:∀k,k=g→k=g∨W.heap.size≤k:=fun _ h=> .inl h
 exact (((((Kp.setCell W ⟨g,0,none⟩ a0).then_ (Kp.setCell _ ⟨g,1,none⟩ a1) hs).then_ (Kp.setCell _ ⟨g,2,none⟩ a2) hs).then_ (Kp.setCell _ ⟨g,3,none⟩ a3) hs).then_ (Kp.setCell _ ⟨g,4,none⟩ a4) hs).then_ (Kp.setCell _ ⟨g,5,none⟩ a5) hs
def zeroF:Value:= .agg #[.int .i64 0,.string ⟨#[]⟩,.slice none 0 0,.int .i64 0,.int .i64 0,.slice none 0 0]
def FmV (w:World) (ok:Nat→Prop) (v:Value) (m:S70):Prop:=∃A2 c2 A5 c5,v= .agg #[.int .i64 m.f0.f0,.string m.f0.f1,.slice A2 m.f0.f2.length c2,.int .i64 m.f0.f3,.int .i64 m.f0.f4,.slice A5 m.f0.f5.length c5]∧m.f0.f2.length≤c2∧Kd.F k59 w ok A2 m.f0.f2.length m.f0.f2∧m.f0.f5.length≤c5∧Kd.F k37 w ok A5 m.f0.f5.length m.f0.f5
def senP (s:Sg) (t:S30):Except Int S70:=chP (sigOk s.ss s.cs s.ps && decide (nodes t≤60) && formedP structL t cS) (resP t) (sentP s 60 t)
def SenRet (w:World) (o:Except Int S70) (e:Ending) (w' :World):Prop:=Below w.heap.size w w' ∧match o with
 |.ok m=>∃v,e= .returned (.tuple #[v,.int .i64 0])∧FmV w' (fun k=>w.heap.size≤k) v m
 |.error c=>e= .returned (.tuple #[zeroF,.int .i64 c])
theorem checked_sent (T:Lib.PrintTabs) (s:Sg) (t:S30) (w:World) (Bt:Nat) (A1:Option Addr) (c1:Nat) (A2:Option Addr) (c2:Nat) (hT:Tabs T w) (hC:s.C w) (tv:TreeAt w Bt t A1 c1 A2 c2) (hsm:Sm t) (hn:nodes t≤500) :
  Calls Tryz.prog 41 #[.agg #[.slice s.A0 s.ss.length s.c0,.slice s.A1 s.cs.length s.c1,.slice s.A2 s.ps.length s.c2],.agg #[.string t.f0,.slice A1 t.f1.length c1,.slice A2 t.f2.length c2],.string cS,.func (.func 55) #[] #[.pointer (some ⟨Bt,0,none⟩)]] w (ChRet (fun _=>False) (fun _=>True) w (senP s t)):=by
 refine checked_calls s t cS w A1 c1 A2 c2 55 #[.pointer (some ⟨Bt,0,none⟩)] hC ⟨tv.l1,tv.v,tv.l2,tv.k⟩ hsm hn (sigOk s.ss s.cs s.ps) (decide (nodes t≤60)) (formedP structL t cS) rfl ?_ rfl (fun _=>False) (fun k h=>h.elim) (fun _=>True) (fun _ _ _ _=>trivial) (sentP s 60 t) (enters_of Tryz.func55 (by kernel_rfl) rfl) ?_
 ·by_cases h:nodes t≤60
  ·rw[decide_eq_true h,decide_eq_false (by omega)];rfl
  ·rw[decide_eq_false h,decide_eq_true (by omega)];rfl
 ·intro h1 h2 h3 h4 W bp mb hB hbp hm hge hlt
  exact sent55 T s t w W bp mb Bt A1 c1 A2 c2 hT hC h1 (of_decide_eq_true h2) h3 h4 hsm hB hbp hm hge hlt (tv.below hB)
theorem MnV.fm {w:World} {ok:Nat→Prop} {m:S70} {A2 A5:Option Addr} {c2 c5:Nat} (h:MnV w ok (mnW m A2 c2 A5 c5) m):FmV w ok (.agg #[.int .i64 m.f0.f0,.string m.f0.f1,.slice A2 m.f0.f2.length c2,.int .i64 m.f0.f3,.int .i64 m.f0.f4,.slice A5 m.f0.f5.length c5]) m:=by
 obtain ⟨B2,d2,B5,d5,e,l2,g2,l5,g5⟩:=h
 obtain ⟨rfl,rfl,rfl,rfl⟩:=mnW_inj e
 exact ⟨A2,c2,A5,c5,rfl,l2,g2,l5,g5⟩
theorem sen_below {w W3 w5:World} {g:Nat} {o:Obj} (hB:Below w.heap.size w W3) (hk:Kp W3 w5 (fun _=>False)) (hg:w.heap.size≤g) (a0 a1 a2 a3 a4 a5:Value):Below w.heap.size w (set6 (w5.alloc o) g a0 a1 a2 a3 a4 a5) :=
 ((((Kp.of_below hB (fun _=>False)).then_ hk (fun _ h=>h.elim)).below (below_alloc (Below.refl _ _) o)).then_ (kp_set6 a0 a1 a2 a3 a4 a5) (fun k hk=> .inr (by omega))).toBelow (Nat.le_refl _) (fun k h=>h.elim)
set_option maxHeartbeats 2000000 in
set_option maxRecDepth 100000 in
theorem sentence_calls (T:Lib.PrintTabs) (s:Sg) (t:S30) (w:World) (A1:Option Addr) (c1:Nat) (A2:Option Addr) (c2:Nat) (hT:Tabs T w) (hC:s.C w) (tv:TreeV w t A1 c1 A2 c2) (hsm:Sm t) (hn:nodes t≤500) :
  Calls Tryz.prog 26 #[.agg #[.slice s.A0 s.ss.length s.c0,.slice s.A1 s.cs.length s.c1,.slice s.A2 s.ps.length s.c2],.agg #[.string t.f0,.slice A1 t.f1.length c1,.slice A2 t.f2.length c2]] w (SenRet w (senP s t)):=by
 have HB1:=Aside0.mk (below_alloc (below_alloc (below_alloc (Below.refl w.heap.size w) (.cells #[.slice s.A0 s.ss.length s.c0,.slice s.A1 s.cs.length s.c1,.slice s.A2 s.ps.length s.c2] 26)) (.cells #[.string t.f0,.slice A1 t.f1.length c1,.slice A2 t.f2.length c2] 30)) (.cells #[.int .i64 0,.string ⟨#[]⟩,.slice none 0 0,.int .i64 0,.int .i64 0,.slice none 0 0] 37))
 have hbs:=blk_alloc (blk_alloc (blk_new w (.cells #[.slice s.A0 s.ss.length s.c0,.slice s.A1 s.cs.length s.c1,.slice s.A2 s.ps.length s.c2] 26)) (.cells #[.string t.f0,.slice A1 t.f1.length c1,.slice A2 t.f2.length c2] 30)) (.cells #[.int .i64 0,.string ⟨#[]⟩,.slice none 0 0,.int .i64 0,.int .i64 0,.slice none 0 0] 37)
 have hbt:=blk_alloc (blk_new (w.alloc (.cells #[.slice s.A0 s.ss.length s.c0,.slice s.A1 s.cs.length s.c1,.slice s.A2 s.ps.length s.c2] 26)) (.cells #[.string t.f0,.slice A1 t.f1.length c1,.slice A2 t.f2.length c2] 30)) (.cells #[.int .i64 0,.string ⟨#[]⟩,.slice none 0 0,.int .i64 0,.int .i64 0,.slice none 0 0] 37)
 have hbf:=blk_new ((w.alloc (.cells #[.slice s.A0 s.ss.length s.c0,.slice s.A1 s.cs.length s.c1,.slice s.A2 s.ps.length s.c2] 26)).alloc (.cells #[.string t.f0,.slice A1 t.f1.length c1,.slice A2 t.f2.length c2] 30)) (.cells #[.int .i64 0,.string ⟨#[]⟩,.slice none 0 0,.int .i64 0,.int .i64 0,.slice none 0 0] 37)
 simp only[World.size_alloc]at hbt hbf
 have hsz3:(((w.alloc (.cells #[.slice s.A0 s.ss.length s.c0,.slice s.A1 s.cs.length s.c1,.slice s.A2 s.ps.length s.c2] 26)).alloc (.cells #[.string t.f0,.slice A1 t.f1.length c1,.slice A2 t.f2.length c2] 30)).alloc (.cells #[.int .i64 0,.string ⟨#[]⟩,.slice none 0 0,.int .i64 0,.int .i64 0,.slice none 0 0] 37)).heap.size=w.heap.size+3:=by simp
 have tv' :=tv.below HB1.out
 have C:=Aside0.mk (checked_sent T s t (((w.alloc (.cells #[.slice s.A0 s.ss.length s.c0,.slice s.A1 s.cs.length s.c1,.slice s.A2 s.ps.length s.c2] 26)).alloc (.cells #[.string t.f0,.slice A1 t.f1.length c1,.slice A2 t.f2.length c2] 30)).alloc (.cells #[.int .i64 0,.string ⟨#[]⟩,.slice none 0 0,.int .i64 0,.int .i64 0,.slice none 0 0] 37)) (w.heap.size+1) A1 c1 A2 c2 (hT.below HB1.out) (SigC.below hC HB1.out) ⟨hbt,tv'.l1,tv'.v,tv'.l2,tv'.k⟩ hsm hn)
 have HF:=Aside0.mk hbf
 have HS3:=Aside0.mk hsz3
 clear tv' hT hC tv hsm hn hsz3
 have s0:=blk_cell hbs 0
 have s1:=blk_cell hbs 1
 have s2:=blk_cell hbs 2
 have t0:=blk_cell hbt 0
 have t1:=blk_cell hbt 1
 have t2:=blk_cell hbt 2
 simp at s0 s1 s2 t0 t1 t2
 clear hbs hbt hbf
 have hmf:∀(fn:Fn) (first cap:Array Value) (w:World),(Instr.makeFunc fn first cap).run Tryz.prog w= .ok (.func fn first cap) w:=fun _ _ _ _=>rfl
 cases ho:senP s t with
 |error c =>
  rw[ho]at C
  clear ho
  go_enter Tryz.func26,Tryz.ntmps26
  go_wp2_with (go_at_call 41;refine C.out.mono ?_;rintro e w5 ⟨hk,rfl⟩;have HK5:=Aside0.mk hk;have RR:=Aside0.mk (fun (o:Obj)=>blk_alloc (hk.blk HF.out (fun h=>h)) o);clear hk;unfold zeroM;have zc0:=fun (o:Obj)=>blk_cell (RR.out o) 0;have zf0:=fun (o:Obj)=>blk_frozen (RR.out o) 0;have zc1:=fun (o:Obj)=>blk_cell (RR.out o) 1;have zf1:=fun (o:Obj)=>blk_frozen (RR.out o) 1;have zc2:=fun (o:Obj)=>blk_cell (RR.out o) 2;have zf2:=fun (o:Obj)=>blk_frozen (RR.out o) 2;have zc3:=fun (o:Obj)=>blk_cell (RR.out o) 3;have zf3:=fun (o:Obj)=>blk_frozen (RR.out o) 3;have zc4:=fun (o:Obj)=>blk_cell (RR.out o) 4;have zf4:=fun (o:Obj)=>blk_frozen (RR.out o) 4;have zc5:=fun (o:Obj)=>blk_cell (RR.out o) 5;have zf5:=fun (o:Obj)=>blk_frozen (RR.out o) 5;simp at zc0 zc1 zc2 zc3 zc4 zc5)
  refine bodyPost_ret (results_list (rs:=[.cell 4 37,.tmp 5]) rfl (by simp) (.cell (w.heap.size+1+1) 37 _ (0,0) _ rfl (fin6 (RR.out _) (.int .i64 0) (.string ⟨#[]⟩) (.slice none 0 0) (.int .i64 0) (.int .i64 0) (.slice none 0 0)) Tryz.underlying37 rfl (by kernel_rfl) (.tmp .nil))) rfl ?_
  exact ⟨sen_below HB1.out HK5.out (by omega) (.int .i64 0) (.string ⟨#[]⟩) (.slice none 0 0) (.int .i64 0) (.int .i64 0) (.slice none 0 0),rfl⟩
 |ok m =>
  rw[ho]at C
  clear ho
  go_enter Tryz.func26,Tryz.ntmps26
  go_wp2_with (go_at_call 41;refine C.out.mono ?_;rintro e w5 ⟨hk,v5,rfl,hm5,_⟩;have HM5:=Aside0.mk hm5;obtain ⟨E2,e2,E5,e5,rfl,hrest⟩:=id hm5;clear hm5 hrest;have HK5:=Aside0.mk hk;have RR:=Aside0.mk (fun (o:Obj)=>blk_alloc (hk.blk HF.out (fun h=>h)) o);clear hk;unfold mnW;have zc0:=fun (o:Obj)=>blk_cell (RR.out o) 0;have zf0:=fun (o:Obj)=>blk_frozen (RR.out o) 0;have zc1:=fun (o:Obj)=>blk_cell (RR.out o) 1;have zf1:=fun (o:Obj)=>blk_frozen (RR.out o) 1;have zc2:=fun (o:Obj)=>blk_cell (RR.out o) 2;have zf2:=fun (o:Obj)=>blk_frozen (RR.out o) 2;have zc3:=fun (o:Obj)=>blk_cell (RR.out o) 3;have zf3:=fun (o:Obj)=>blk_frozen (RR.out o) 3;have zc4:=fun (o:Obj)=>blk_cell (RR.out o) 4;have zf4:=fun (o:Obj)=>blk_frozen (RR.out o) 4;have zc5:=fun (o:Obj)=>blk_cell (RR.out o) 5;have zf5:=fun (o:Obj)=>blk_frozen (RR.out o) 5;simp at zc0 zc1 zc2 zc3 zc4 zc5)
  refine bodyPost_ret (results_list (rs:=[.cell 4 37,.tmp 5]) rfl (by simp) (.cell (w.heap.size+1+1) 37 _ (0,0) _ rfl (fin6 (RR.out _) (.int .i64 m.f0.f0) (.string m.f0.f1) (.slice E2 m.f0.f2.length e2) (.int .i64 m.f0.f3) (.int .i64 m.f0.f4) (.slice E5 m.f0.f5.length e5)) Tryz.underlying37 rfl (by kernel_rfl) (.tmp .nil))) rfl ?_
  refine ⟨sen_below HB1.out HK5.out (by omega) (.int .i64 m.f0.f0) (.string m.f0.f1) (.slice E2 m.f0.f2.length e2) (.int .i64 m.f0.f3) (.int .i64 m.f0.f4) (.slice E5 m.f0.f5.length e5),_,rfl,?_⟩
  have hs3:=HS3.out
  refine ((MnV.step (HM5.out.below (below_alloc (Below.refl _ _) _)) (fun k hk hlt=>(kp_set6 (g:=w.heap.size+1+1) (.int .i64 m.f0.f0) (.string m.f0.f1) (.slice E2 m.f0.f2.length e2) (.int .i64 m.f0.f3) (.int .i64 m.f0.f4) (.slice E5 m.f0.f5.length e5)).block k hlt (fun h=> ?_))).mono (fun k hk=> ?_)).fm
  ·have hk' :(((w.alloc (.cells #[.slice s.A0 s.ss.length s.c0,.slice s.A1 s.cs.length s.c1,.slice s.A2 s.ps.length s.c2] 26)).alloc (.cells #[.string t.f0,.slice A1 t.f1.length c1,.slice A2 t.f2.length c2] 30)).alloc (.cells #[.int .i64 0,.string ⟨#[]⟩,.slice none 0 0,.int .i64 0,.int .i64 0,.slice none 0 0] 37)).heap.size≤k:=hk
   omega
  ·have hk' :(((w.alloc (.cells #[.slice s.A0 s.ss.length s.c0,.slice s.A1 s.cs.length s.c1,.slice s.A2 s.ps.length s.c2] 26)).alloc (.cells #[.string t.f0,.slice A1 t.f1.length c1,.slice A2 t.f2.length c2] 30)).alloc (.cells #[.int .i64 0,.string ⟨#[]⟩,.slice none 0 0,.int .i64 0,.int .i64 0,.slice none 0 0] 37)).heap.size≤k:=hk
   omega
theorem chP_err {ok res:Bool} {r:Option S70} {c:Int} (h:chP ok res r= .error c):c=1∨c=10∨c=6∨c=2:=by
 unfold chP at h
 split at h
 ·injection h with h;exact .inl h.symm
 ·split at h
  ·injection h with h;exact .inr (.inl h.symm)
  ·split at h
   ·injection h with h;exact .inr (.inr (.inl h.symm))
   ·split at h
    ·injection h with h;exact .inr (.inr (.inl h.symm))
    ·split at h
     ·injection h with h;exact .inr (.inr (.inr h.symm))
     ·cases h
section
attribute [local go_sem] Oper.semAt_some
def nounVar (y:ByteArray):Tm:=⟨1,⟨#[]⟩,0,y⟩
def fr42 (t:S30) (A1:Option Addr) (c1:Nat) (A2:Option Addr) (c2:Nat) (bp Bt Bs g:Nat) (y:ByteArray) (x:Nat→Value):Act:={tmps:= #[.pointer (some ⟨bp,0,none⟩),.pointer (some ⟨Bt,0,none⟩),.pointer (some ⟨Bs,0,none⟩),undef,.pointer (some ⟨g,0,none⟩),.pointer (some ⟨bp,0,none⟩),.agg #[.string t.f0,.slice A1 t.f1.length c1,.slice A2 t.f2.length c2],.string y,x 0,x 1,x 2,x 3,x 4,x 5],defers:=[]}
def C42 (s:Sg) (t:S30) (A1:Option Addr) (c1:Nat) (A2:Option Addr) (c2:Nat) (bp Bt Bs g:Nat) (y:ByteArray) (W2:World):Nat→Value→World→Prop
 |0,v,_=>v= .pointer (some ⟨bp,0,none⟩)
 |1,v,_=>v= .agg #[.string t.f0,.slice A1 t.f1.length c1,.slice A2 t.f2.length c2]
 |2,v,w=>∃f,nounP s 60 t=some f∧PrdV w (fun _=>True) v f
 |3,v,_=>v= .string y
 |4,v,_=>v=tmV (nounVar y)
 |5,v,w=>∃f m,nounP s 60 t=some f∧f 1 (nounVar y)=some m∧MnV w (fun k=>W2.heap.size≤k) v m
 |_,_,_=>True
def Got42 (s:Sg) (t:S30) (A1:Option Addr) (c1:Nat) (A2:Option Addr) (c2:Nat) (bp Bt Bs g:Nat) (y:ByteArray) (W2:World) (w' :World):Prop:=∃f m w5 E2 e2 E5 e5,nounP s 60 t=some f∧f 1 (nounVar y)=some m∧Below W2.heap.size W2 w5∧MnV w5 (fun k=>W2.heap.size≤k) (mnW m E2 e2 E5 e5) m∧w' =set9 w5 g (.int .i64 m.f0.f0) (.string m.f0.f1) (.slice E2 m.f0.f2.length e2) (.int .i64 m.f0.f3) (.int .i64 m.f0.f4) (.slice E5 m.f0.f5.length e5) (.int .i64 m.f1) (.int .i64 m.f2) (.bool m.f3)
def Not42 (s:Sg) (t:S30) (y:ByteArray) (W2:World) (w' :World):Prop:=((nounP s 60 t).bind fun f=>f 1 (nounVar y))=none∧Below W2.heap.size W2 w'
set_option maxHeartbeats 2000000 in
set_option maxRecDepth 100000 in
theorem reg42 (s:Sg) (t:S30) (A1:Option Addr) (c1:Nat) (A2:Option Addr) (c2:Nat) (bp Bt Bs g:Nat) (y:ByteArray) (mb:Nat) (W2:World) (hb:Bld W2 bp mb s) (tv:TreeV W2 t A1 c1 A2 c2) (hT:W2.heap[Bt]? =some (.cells #[.string t.f0,.slice A1 t.f1.length c1,.slice A2 t.f2.length c2] 30 (0,0))) (hS:W2.heap[Bs]? =some (.cells #[.string y] 9 (0,0))) (hG:W2.heap[g]? =some (.cells #[.int .i64 0,.string ⟨#[]⟩,.slice none 0 0,.int .i64 0,.int .i64 0,.slice none 0 0,.int .i64 0,.int .i64 0,.bool false] 70 (0,0))) (hn:nodes t≤60) (hf:formedP structL t cCN=true) (hr:resP t=true) (hps:∀p∈s.ps,1≤p.f1.length) :
  Code.wp Tryz.prog (.region 2 (opsOf Tryz.f42 2) true) (OnNP (fun a w' =>(∃x,a=fr42 t A1 c1 A2 c2 bp Bt Bs g y x)∧Got42 s t A1 c1 A2 c2 bp Bt Bs g y W2 w') (Not42 s t y W2)) (fr42 t A1 c1 A2 c2 bp Bt Bs g y (fun _=>undef)) W2:=by
 have HD:=Aside0.mk (below_drew (Below.refl W2.heap.size W2))
 have HT:=Aside0.mk (blk_below hT HD.out)
 have HS:=Aside0.mk (blk_below hS HD.out)
 have HG:=Aside0.mk (blk_below hG HD.out)
 have HBL:=Aside0.mk hb
 have TV:=Aside0.mk tv
 have C44:=Aside0.mk (fun (V:World) (hV:Below W2.heap.size W2 V)=>(mean_calls s hps 60).1 t hn hf hr W2 V bp mb A1 c1 A2 c2 hV hb tv)
 clear hb tv hT hS hG hn hf hr hps
 simp only[opsOf,Tryz.f42,Option.bind_some,opsIn,Option.getD_some,Option.orElse,reduceIte,Nat.reduceEqDiff,Option.or_some,Option.none_or,Option.some_or,beq_iff_eq,Nat.reduceBEq,Bool.false_eq_true]
 refine wp_region_any (by kernel_rfl) (region_last 6 rfl (fr42 t A1 c1 A2 c2 bp Bt Bs g y) (C42 s t A1 c1 A2 c2 bp Bt Bs g y W2) W2.drew (by kernel_rfl) (by kernel_rfl) ?_ ?_ ?_ ?_ _)
 ·intro i op x v hi ho
  match i,hi,ho with
  |0,_,ho=>injection ho with ho;subst ho;rfl
  |1,_,ho=>injection ho with ho;subst ho;rfl
  |2,_,ho=>injection ho with ho;subst ho;rfl
  |3,_,ho=>injection ho with ho;subst ho;rfl
  |4,_,ho=>injection ho with ho;subst ho;rfl
  |5,_,ho=>injection ho with ho;subst ho;rfl
  |i+6,hi,ho=>exact absurd hi (by omega)
 ·intro i v w w' h hB
  match i,h with
  |0,h=>exact h
  |1,h=>exact h
  |2,h=>exact h.imp fun f hf=>⟨hf.1,hf.2.below hB⟩
  |3,h=>exact h
  |4,h=>exact h
  |5,h=>exact h.imp fun f hf=>hf.imp fun m hm=>⟨hm.1,hm.2.1,hm.2.2.below hB⟩
  |i+6,h=>trivial
 ·intro i op x w J hi ho hB hdep h
  match i,hi,ho,hdep,h with
  |0,_,ho,hdep,h =>
   simp at ho
   subst ho
   refine op_value (o:=_) rfl (wanted_none rfl) (w' :=w) (v:= .pointer (some ⟨bp,0,none⟩)) ?_ (h _ _ rfl (Below.refl _ _))
   unfold fr42
   go_simp
  |1,_,ho,hdep,h =>
   simp at ho
   subst ho
   have t0:=blk_cell (blk_below HT.out hB) 0
   have t1:=blk_cell (blk_below HT.out hB) 1
   have t2:=blk_cell (blk_below HT.out hB) 2
   simp at t0 t1 t2
   refine op_value (o:=_) rfl (wanted_none rfl) (w' :=w) (v:= .agg #[.string t.f0,.slice A1 t.f1.length c1,.slice A2 t.f2.length c2]) ?_ (h _ _ rfl (Below.refl _ _))
   unfold fr42
   go_simp
  |2,_,ho,hdep,h =>
   simp at ho
   subst ho
   have d0:x 0= .pointer (some ⟨bp,0,none⟩):=hdep ⟨0,.data⟩ (by simp) rfl
   have d1:x 1=_:=hdep ⟨1,.data⟩ (by simp) rfl
   refine op_callP (f:=44) (args:= #[.pointer (some ⟨bp,0,none⟩),.agg #[.string t.f0,.slice A1 t.f1.length c1,.slice A2 t.f2.length c2]]) rfl (wanted_none rfl) ?_ ?_
   ·have he:=enters_of Tryz.func44 (by kernel_rfl) rfl #[.pointer (some ⟨bp,0,none⟩),.agg #[.string t.f0,.slice A1 t.f1.length c1,.slice A2 t.f2.length c2]] w
    unfold fr42
    go_simp
   ·have hBW:=below_step HD.out hB
    refine (C44.out w hBW).mono ?_
    intro e w' hr
    cases hq:nounP s 60 t with
    |none =>
     rw[hq]at hr
     obtain ⟨hb,rfl⟩:=hr
     exact .inr ⟨_,rfl,rfl,rfl,by rw[hq];rfl,below_step hBW hb⟩
    |some f =>
     rw[hq]at hr
     obtain ⟨hb,v,rfl,hv⟩:=hr
     exact .inl ⟨_,rfl,h _ _ ⟨f,hq,hv.mono (fun _ _ _=>trivial)⟩ hb⟩
  |3,_,ho,hdep,h =>
   simp at ho
   subst ho
   have s0:=blk_cell (blk_below HS.out hB) 0
   simp at s0
   refine op_value (o:=_) rfl (wanted_none rfl) (w' :=w) (v:= .string y) ?_ (h _ _ rfl (Below.refl _ _))
   unfold fr42
   go_simp
  |4,_,ho,hdep,h =>
   simp at ho
   subst ho
   have d3:x 3= .string y:=hdep ⟨3,.data⟩ (by simp) rfl
   refine op_value (o:=_) rfl (wanted_none rfl) (w' :=w) (v:=tmV (nounVar y)) ?_ (h _ _ rfl (Below.refl _ _))
   unfold fr42 tmV nounVar
   go_simp
  |5,_,ho,hdep,h =>
   simp at ho
   subst ho
   obtain ⟨f,hq,gg,cap,d2,hen,hfr⟩:=hdep ⟨2,.data⟩ (by simp) rfl
   have d2:x 2= .func (.func gg) #[] cap:=d2
   have d4:x 4=tmV (nounVar y):=hdep ⟨4,.data⟩ (by simp) rfl
   refine op_callP (f:=gg) (args:= #[.int .i64 1,tmV (nounVar y)]++cap) rfl (wanted_none rfl) ?_ ?_
   ·have he:=hen (#[.int .i64 1,tmV (nounVar y)]++cap) w
    unfold fr42
    go_simp
   ·have hBW:=below_step HD.out hB
    refine (hfr.now 1 (nounVar y)).mono ?_
    intro e w' hr
    cases hm:f 1 (nounVar y)with
    |none =>
     rw[hm]at hr
     obtain ⟨hb,rfl⟩:=hr
     exact .inr ⟨_,rfl,rfl,rfl,by rw[hq];exact hm,below_step hBW hb⟩
    |some m =>
     rw[hm]at hr
     obtain ⟨hb,v,rfl,hv⟩:=hr
     exact .inl ⟨_,rfl,h _ _ ⟨f,m,hq,hm,hv.mono (fun k hk=>Nat.le_trans hBW.size hk)⟩ hb⟩
  |i+6,hi,ho,hdep,h=>exact absurd hi (by omega)
 ·intro op x w ho hB hx
  simp at ho
  subst ho
  obtain ⟨f,m,hq,hm,E2,e2,E5,e5,d5,hrest⟩:=hx 5 (by omega)
  have hBW:=below_step HD.out hB
  have HGW:=Aside0.mk (blk_below HG.out hB)
  have zc0:=blk_cell HGW.out 0
  have zf0:=blk_frozen HGW.out 0
  have zc1:=blk_cell HGW.out 1
  have zf1:=blk_frozen HGW.out 1
  have zc2:=blk_cell HGW.out 2
  have zf2:=blk_frozen HGW.out 2
  have zc3:=blk_cell HGW.out 3
  have zf3:=blk_frozen HGW.out 3
  have zc4:=blk_cell HGW.out 4
  have zf4:=blk_frozen HGW.out 4
  have zc5:=blk_cell HGW.out 5
  have zf5:=blk_frozen HGW.out 5
  have zc6:=blk_cell HGW.out 6
  have zf6:=blk_frozen HGW.out 6
  have zc7:=blk_cell HGW.out 7
  have zf7:=blk_frozen HGW.out 7
  have zc8:=blk_cell HGW.out 8
  have zf8:=blk_frozen HGW.out 8
  simp at zc0 zc1 zc2 zc3 zc4 zc5 zc6 zc7 zc8
  unfold mnW at d5
  have HF:=Aside0.mk (show Got42 s t A1 c1 A2 c2 bp Bt Bs g y W2 (set9 w g (.int .i64 m.f0.f0) (.string m.f0.f1) (.slice E2 m.f0.f2.length e2) (.int .i64 m.f0.f3) (.int .i64 m.f0.f4) (.slice E5 m.f0.f5.length e5) (.int .i64 m.f1) (.int .i64 m.f2) (.bool m.f3))from ⟨f,m,w,E2,e2,E5,e5,hq,hm,hBW,⟨E2,e2,E5,e5,rfl,hrest⟩,rfl⟩)
  refine wpOp_step rfl (fun K hK=> ?_)
  have hK' :=Aside0.mk (hK (fr42 t A1 c1 A2 c2 bp Bt Bs g y x) (set9 w g (.int .i64 m.f0.f0) (.string m.f0.f1) (.slice E2 m.f0.f2.length e2) (.int .i64 m.f0.f3) (.int .i64 m.f0.f4) (.slice E5 m.f0.f5.length e5) (.int .i64 m.f1) (.int .i64 m.f2) (.bool m.f3)) ⟨⟨x,rfl⟩,HF.out⟩)
  rw[if_pos (wanted_none rfl)]
  unfold Oper.wp
  unfold fr42
  go_simp
  have hk:=hK'.out
  unfold set9 fr42 at hk
  rw[d5]at hk
  exact hk
end
def nounQ (s:Sg) (t:S30):Option S70:=(sortP s.ps 60 t).bind fun y=>(nounP s 60 t).bind fun f=>f 1 (nounVar y)
def XN (s:Sg) (t:S30) (Bs:Nat) (V:World):Prop:=∃y,sortP s.ps 60 t=some y∧V.heap[Bs]? =some (.cells #[.string y] 9 (0,0))
set_option maxHeartbeats 2000000 in
set_option maxRecDepth 100000 in
theorem noun42 (s:Sg) (t:S30) (w00 W:World) (bp mb Bt Bs:Nat) (v0:Value) (A1:Option Addr) (c1:Nat) (A2:Option Addr) (c2:Nat) (hC:s.C w00) (hok:sigOk s.ss s.cs s.ps=true) (tv:TreeV w00 t A1 c1 A2 c2) (hn:nodes t≤60) (hf:formedP structL t cCN=true) (hr:resP t=true) (hB:Below w00.heap.size w00 W)
  (hbp:W.heap[bp]? =some (.cells #[.slice s.A0 s.ss.length s.c0,.slice s.A1 s.cs.length s.c1,.slice s.A2 s.ps.length s.c2,.map (some mb)] 121 (0,0))) (hT:W.heap[Bt]? =some (.cells #[.string t.f0,.slice A1 t.f1.length c1,.slice A2 t.f2.length c2] 30 (0,0))) (hS:W.heap[Bs]? =some (.cells #[v0] 9 (0,0))) (hBs:w00.heap.size≤Bs) (hbs:bp≠Bs) (hts:Bt≠Bs) :
  Calls Tryz.prog 42 #[.pointer (some ⟨bp,0,none⟩),.pointer (some ⟨Bt,0,none⟩),.pointer (some ⟨Bs,0,none⟩)] W (BRet (fun k=>k=Bs) (XN s t Bs) W mb (nounQ s t)):=by
 have hsig:=sig_ok hok
 have HBW:=Aside0.mk (below_alloc (Below.refl W.heap.size W) (.cells #[.int .i64 0,.string ⟨#[]⟩,.slice none 0 0,.int .i64 0,.int .i64 0,.slice none 0 0,.int .i64 0,.int .i64 0,.bool false] 70))
 have HG:=Aside0.mk (blk_new W (.cells #[.int .i64 0,.string ⟨#[]⟩,.slice none 0 0,.int .i64 0,.int .i64 0,.slice none 0 0,.int .i64 0,.int .i64 0,.bool false] 70))
 have HT:=Aside0.mk (blk_below hT HBW.out)
 have HS:=Aside0.mk (blk_below hS HBW.out)
 have HP:=Aside0.mk (blk_below hbp HBW.out)
 have HB:=Aside0.mk (below_step hB HBW.out)
 have HLS:=Aside0.mk (blk_lt hS)
 have HC:=Aside0.mk hC
 have TV:=Aside0.mk tv
 have HSZ:=Aside0.mk (show (W.alloc (.cells #[.int .i64 0,.string ⟨#[]⟩,.slice none 0 0,.int .i64 0,.int .i64 0,.slice none 0 0,.int .i64 0,.int .i64 0,.bool false] 70)).heap.size=W.heap.size+1 by simp)
 have C:=Aside0.mk (sort_calls 60 t hn hf (W.alloc (.cells #[.int .i64 0,.string ⟨#[]⟩,.slice none 0 0,.int .i64 0,.int .i64 0,.slice none 0 0,.int .i64 0,.int .i64 0,.bool false] 70)) bp mb s A1 c1 A2 c2 ⟨HP.out,SigC.below hC HB.out⟩ (tv.below HB.out) hsig.2)
 have R:=Aside0.mk (fun (y:ByteArray) (W2:World) (hb:Bld W2 bp mb s) (tv2:TreeV W2 t A1 c1 A2 c2) (hT2:W2.heap[Bt]? =some (.cells #[.string t.f0,.slice A1 t.f1.length c1,.slice A2 t.f2.length c2] 30 (0,0))) (hS2:W2.heap[Bs]? =some (.cells #[.string y] 9 (0,0))) (hG2:W2.heap[W.heap.size]? =some (.cells #[.int .i64 0,.string ⟨#[]⟩,.slice none 0 0,.int .i64 0,.int .i64 0,.slice none 0 0,.int .i64 0,.int .i64 0,.bool false] 70 (0,0)))=>reg42 s t A1 c1 A2 c2 bp Bt Bs W.heap.size y mb W2 hb tv2 hT2 hS2 hG2 hn hf hr hsig.2)
 clear hC hok tv hn hf hr hB hbp hT hS hsig
 have t0:=blk_cell HT.out 0
 have t1:=blk_cell HT.out 1
 have t2:=blk_cell HT.out 2
 simp at t0 t1 t2
 cases hq:sortP s.ps 60 t with
 |none =>
  rw[hq]at C
  rw[show nounQ s t=none by unfold nounQ;rw[hq];rfl]
  go_enter Tryz.func42,Tryz.ntmps42
  go_wp2_with (go_at_call 43;refine C.out.mono ?_;rintro e w1 ⟨hk,rfl⟩)
  exact ⟨rfl,Kp.of_below (below_step HBW.out hk) _,rfl⟩
 |some y =>
  rw[hq]at C
  rw[show nounQ s t=(nounP s 60 t).bind (fun f=>f 1 (nounVar y))by unfold nounQ;rw[hq];rfl]
  go_enter Tryz.func42,Tryz.ntmps42
  go_wp2_with (go_at_call 43;refine C.out.mono ?_;rintro e w1 ⟨hk,rfl⟩;have HK1:=Aside0.mk hk;have HS1:=Aside0.mk (blk_below HS.out hk);have y0:=blk_cell HS1.out 0;have yf:=blk_frozen HS1.out 0;simp at y0;clear hk)
  have hne:W.heap.size≠Bs:=by have:=HLS.out;omega
  have hKs:=Kp.setCell w1 ⟨Bs,0,none⟩ (.string y)
  have hS2:(w1.setCell ⟨Bs,0,none⟩ (.string y)).heap[Bs]? =some (.cells #[.string y] 9 (0,0)):=by
   have:=blk_set HS1.out 0 (.string y)
   simpa using this
  have hT2:=hKs.blk (blk_below HT.out HK1.out) hts
  have hP2:=hKs.blk (blk_below HP.out HK1.out) hbs
  have hG2:=hKs.blk (blk_below HG.out HK1.out) hne
  have hB2:Below w00.heap.size w00 (w1.setCell ⟨Bs,0,none⟩ (.string y)):=below_set (below_step HB.out HK1.out) hBs
  have hK2:Kp W (w1.setCell ⟨Bs,0,none⟩ (.string y)) (fun k=>k=mb∨k=Bs):=(Kp.of_below (below_step HBW.out HK1.out) _).then_ hKs (fun k hk=> .inl (.inr hk))
  have hsz2:W.heap.size+1≤(w1.setCell ⟨Bs,0,none⟩ (.string y)).heap.size:=by have:=hKs.size;have:=HK1.out.size;have:=HSZ.out;omega
  clear y0 yf
  generalize w1.setCell ⟨Bs,0,none⟩ (.string y)=W2 at *
  refine wp_onNP _ _ (R.out y W2 ⟨hP2,SigC.below HC.out hB2⟩ (TV.out.below hB2) hT2 hS2 hG2) ?_ ?_
  ·rintro a w' ⟨⟨x,rfl⟩,f,m,w5,E2,e2,E5,e5,hq2,hm,hB5,hM,rfl⟩
   have hG5:=blk_below hG2 hB5
   have hS5:=blk_below hS2 hB5
   have HM:=Aside0.mk hM
   have HF:=Aside0.mk (show BRet (fun k=>k=Bs) (XN s t Bs) W mb ((nounP s 60 t).bind (fun f=>f 1 (nounVar y))) (.returned (mnW m E2 e2 E5 e5)) (set9 w5 W.heap.size (.int .i64 m.f0.f0) (.string m.f0.f1) (.slice E2 m.f0.f2.length e2) (.int .i64 m.f0.f3) (.int .i64 m.f0.f4) (.slice E5 m.f0.f5.length e5) (.int .i64 m.f1) (.int .i64 m.f2) (.bool m.f3))from by
    rw[show (nounP s 60 t).bind (fun f=>f 1 (nounVar y))=some m by rw[hq2];exact hm]
    refine ⟨(hK2.below hB5).then_ (kp_set9 (g:=W.heap.size) (.int .i64 m.f0.f0) (.string m.f0.f1) (.slice E2 m.f0.f2.length e2) (.int .i64 m.f0.f3) (.int .i64 m.f0.f4) (.slice E5 m.f0.f5.length e5) (.int .i64 m.f1) (.int .i64 m.f2) (.bool m.f3)) (fun k hk=> .inr (by omega)),_,rfl,?_,y,hq,(fin9_far (g:=W.heap.size) (by omega) (.int .i64 m.f0.f0) (.string m.f0.f1) (.slice E2 m.f0.f2.length e2) (.int .i64 m.f0.f3) (.int .i64 m.f0.f4) (.slice E5 m.f0.f5.length e5) (.int .i64 m.f1) (.int .i64 m.f2) (.bool m.f3)).trans hS5⟩
    exact (HM.out.stored (g:=W.heap.size) (fun k hk=>by have hk' :W2.heap.size≤k:=hk;omega) (.int .i64 m.f0.f0) (.string m.f0.f1) (.slice E2 m.f0.f2.length e2) (.int .i64 m.f0.f3) (.int .i64 m.f0.f4) (.slice E5 m.f0.f5.length e5) (.int .i64 m.f1) (.int .i64 m.f2) (.bool m.f3)).mono (fun k hk=>by have hk' :W2.heap.size≤k:=hk;omega))
   have HG5:=Aside0.mk hG5
   clear hM hq2 hm hB5 hG5 hS5 hT2 hP2 hG2 hS2 hB2 hK2 hsz2 hKs
   unfold fr42
   generalize hW6:set9 w5 W.heap.size (.int .i64 m.f0.f0) (.string m.f0.f1) (.slice E2 m.f0.f2.length e2) (.int .i64 m.f0.f3) (.int .i64 m.f0.f4) (.slice E5 m.f0.f5.length e5) (.int .i64 m.f1) (.int .i64 m.f2) (.bool m.f3)=W6 at *
   have HG6:=Aside0.mk (show W6.heap[W.heap.size]? =_ from hW6▸fin9 HG5.out (.int .i64 m.f0.f0) (.string m.f0.f1) (.slice E2 m.f0.f2.length e2) (.int .i64 m.f0.f3) (.int .i64 m.f0.f4) (.slice E5 m.f0.f5.length e5) (.int .i64 m.f1) (.int .i64 m.f2) (.bool m.f3))
   clear hW6
   go_wp2
   refine bodyPost_ret (results_single rfl (.cell W.heap.size 70 _ (0,0) _ rfl HG6.out Tryz.underlying70 rfl (by kernel_rfl) .nil)) rfl ?_
   exact HF.out
  ·rintro a w' hd ⟨hno,hB5⟩
   have hfin:BRet (fun k=>k=Bs) (XN s t Bs) W mb ((nounP s 60 t).bind (fun f=>f 1 (nounVar y))) (.panicked failV) w' :=by
    rw[hno]
    exact ⟨hK2.below hB5,rfl⟩
   exact ⟨hd,hfin⟩
def nouP (s:Sg) (t:S30):Except Int S70:=chP (sigOk s.ss s.cs s.ps && decide (nodes t≤60) && formedP structL t cCN) (resP t) (nounQ s t)
def NouRet (s:Sg) (t:S30) (w:World) (o:Except Int S70) (e:Ending) (w' :World):Prop:=Below w.heap.size w w' ∧match o with
 |.ok m=>∃v y,sortP s.ps 60 t=some y∧e= .returned (.tuple #[v,.string y,.int .i64 0])∧FmV w' (fun k=>w.heap.size≤k) v m
 |.error c=>e= .returned (.tuple #[zeroF,.string ⟨#[]⟩,.int .i64 c])
theorem checked_noun (s:Sg) (t:S30) (w00 w:World) (Bt Bs:Nat) (A1:Option Addr) (c1:Nat) (A2:Option Addr) (c2:Nat) (hB:Below w00.heap.size w00 w) (hC:s.C w00) (tv:TreeV w00 t A1 c1 A2 c2) (hT:w.heap[Bt]? =some (.cells #[.string t.f0,.slice A1 t.f1.length c1,.slice A2 t.f2.length c2] 30 (0,0))) (hS:w.heap[Bs]? =some (.cells #[.string ⟨#[]⟩] 9 (0,0))) (hBs:w00.heap.size≤Bs) (hsm:Sm t) (hn:nodes t≤500) :
  Calls Tryz.prog 41 #[.agg #[.slice s.A0 s.ss.length s.c0,.slice s.A1 s.cs.length s.c1,.slice s.A2 s.ps.length s.c2],.agg #[.string t.f0,.slice A1 t.f1.length c1,.slice A2 t.f2.length c2],.string cCN,.func (.func 42) #[] #[.pointer (some ⟨Bt,0,none⟩),.pointer (some ⟨Bs,0,none⟩)]] w (ChRet (fun k=>k=Bs) (XN s t Bs) w (nouP s t)):=by
 refine checked_calls s t cCN w A1 c1 A2 c2 42 #[.pointer (some ⟨Bt,0,none⟩),.pointer (some ⟨Bs,0,none⟩)] (SigC.below hC hB) (tv.below hB) hsm hn (sigOk s.ss s.cs s.ps) (decide (nodes t≤60)) (formedP structL t cCN) rfl ?_ rfl (fun k=>k=Bs) (fun k h=>h▸blk_lt hS) (XN s t Bs) (fun V V' hx hk=>by
  obtain ⟨y,h1,h2⟩:=hx
  exact ⟨y,h1,(hk Bs (blk_lt hS)).trans h2⟩) (nounQ s t) (enters_of Tryz.func42 (by kernel_rfl) rfl) ?_
 ·by_cases h:nodes t≤60
  ·rw[decide_eq_true h,decide_eq_false (by omega)];rfl
  ·rw[decide_eq_false h,decide_eq_true (by omega)];rfl
 ·intro h1 h2 h3 h4 W bp mb hBW hbp hm hge hlt
  have hSW:=blk_below hS hBW
  have hTW:=blk_below hT hBW
  exact noun42 s t w00 W bp mb Bt Bs _ A1 c1 A2 c2 hC h1 tv (of_decide_eq_true h2) h3 h4 (below_step hB hBW) hbp hTW hSW hBs (fun e=>by
   subst e
   rw[hSW]at hbp
   simp at hbp) (fun e=>by
   subst e
   rw[hSW]at hTW
   simp at hTW)
theorem nou_below {w W3 w5:World} {g b:Nat} {o:Obj} (hB:Below w.heap.size w W3) (hk:Kp W3 w5 (fun k=>k=b)) (hb:w.heap.size≤b) (hg:w.heap.size≤g) (a0 a1 a2 a3 a4 a5:Value):Below w.heap.size w (set6 (w5.alloc o) g a0 a1 a2 a3 a4 a5) :=
 ((((Kp.of_below hB (fun _=>False)).then_ hk (fun k h=> .inr (by omega))).below (below_alloc (Below.refl _ _) o)).then_ (kp_set6 a0 a1 a2 a3 a4 a5) (fun k hk=> .inr (by omega))).toBelow (Nat.le_refl _) (fun k h=>h.elim)
set_option maxHeartbeats 2000000 in
set_option maxRecDepth 100000 in
theorem noun_calls (s:Sg) (t:S30) (w:World) (A1:Option Addr) (c1:Nat) (A2:Option Addr) (c2:Nat) (hC:s.C w) (tv:TreeV w t A1 c1 A2 c2) (hsm:Sm t) (hn:nodes t≤500) :
  Calls Tryz.prog 16 #[.agg #[.slice s.A0 s.ss.length s.c0,.slice s.A1 s.cs.length s.c1,.slice s.A2 s.ps.length s.c2],.agg #[.string t.f0,.slice A1 t.f1.length c1,.slice A2 t.f2.length c2]] w (NouRet s t w (nouP s t)):=by
 have HB1:=Aside0.mk (below_alloc (below_alloc (below_alloc (below_alloc (Below.refl w.heap.size w) (.cells #[.slice s.A0 s.ss.length s.c0,.slice s.A1 s.cs.length s.c1,.slice s.A2 s.ps.length s.c2] 26)) (.cells #[.string t.f0,.slice A1 t.f1.length c1,.slice A2 t.f2.length c2] 30)) (.cells #[.int .i64 0,.string ⟨#[]⟩,.slice none 0 0,.int .i64 0,.int .i64 0,.slice none 0 0] 37)) (.cells #[.string ⟨#[]⟩] 9))
 have hbs:=blk_alloc (blk_alloc (blk_alloc (blk_new w (.cells #[.slice s.A0 s.ss.length s.c0,.slice s.A1 s.cs.length s.c1,.slice s.A2 s.ps.length s.c2] 26)) (.cells #[.string t.f0,.slice A1 t.f1.length c1,.slice A2 t.f2.length c2] 30)) (.cells #[.int .i64 0,.string ⟨#[]⟩,.slice none 0 0,.int .i64 0,.int .i64 0,.slice none 0 0] 37)) (.cells #[.string ⟨#[]⟩] 9)
 have hbt:=blk_alloc (blk_alloc (blk_new (w.alloc (.cells #[.slice s.A0 s.ss.length s.c0,.slice s.A1 s.cs.length s.c1,.slice s.A2 s.ps.length s.c2] 26)) (.cells #[.string t.f0,.slice A1 t.f1.length c1,.slice A2 t.f2.length c2] 30)) (.cells #[.int .i64 0,.string ⟨#[]⟩,.slice none 0 0,.int .i64 0,.int .i64 0,.slice none 0 0] 37)) (.cells #[.string ⟨#[]⟩] 9)
 have hbf:=blk_alloc (blk_new ((w.alloc (.cells #[.slice s.A0 s.ss.length s.c0,.slice s.A1 s.cs.length s.c1,.slice s.A2 s.ps.length s.c2] 26)).alloc (.cells #[.string t.f0,.slice A1 t.f1.length c1,.slice A2 t.f2.length c2] 30)) (.cells #[.int .i64 0,.string ⟨#[]⟩,.slice none 0 0,.int .i64 0,.int .i64 0,.slice none 0 0] 37)) (.cells #[.string ⟨#[]⟩] 9)
 have hby:=blk_new (((w.alloc (.cells #[.slice s.A0 s.ss.length s.c0,.slice s.A1 s.cs.length s.c1,.slice s.A2 s.ps.length s.c2] 26)).alloc (.cells #[.string t.f0,.slice A1 t.f1.length c1,.slice A2 t.f2.length c2] 30)).alloc (.cells #[.int .i64 0,.string ⟨#[]⟩,.slice none 0 0,.int .i64 0,.int .i64 0,.slice none 0 0] 37)) (.cells #[.string ⟨#[]⟩] 9)
 simp only[World.size_alloc]at hbt hbf hby
 have HS4:=Aside0.mk (show ((((w.alloc (.cells #[.slice s.A0 s.ss.length s.c0,.slice s.A1 s.cs.length s.c1,.slice s.A2 s.ps.length s.c2] 26)).alloc (.cells #[.string t.f0,.slice A1 t.f1.length c1,.slice A2 t.f2.length c2] 30)).alloc (.cells #[.int .i64 0,.string ⟨#[]⟩,.slice none 0 0,.int .i64 0,.int .i64 0,.slice none 0 0] 37)).alloc (.cells #[.string ⟨#[]⟩] 9)).heap.size=w.heap.size+4 by simp)
 have C:=Aside0.mk (checked_noun s t w ((((w.alloc (.cells #[.slice s.A0 s.ss.length s.c0,.slice s.A1 s.cs.length s.c1,.slice s.A2 s.ps.length s.c2] 26)).alloc (.cells #[.string t.f0,.slice A1 t.f1.length c1,.slice A2 t.f2.length c2] 30)).alloc (.cells #[.int .i64 0,.string ⟨#[]⟩,.slice none 0 0,.int .i64 0,.int .i64 0,.slice none 0 0] 37)).alloc (.cells #[.string ⟨#[]⟩] 9)) (w.heap.size+1) (w.heap.size+1+1+1) A1 c1 A2 c2 HB1.out hC tv hbt hby (by omega) hsm hn)
 have HF:=Aside0.mk hbf
 clear hC tv hsm hn
 have s0:=blk_cell hbs 0
 have s1:=blk_cell hbs 1
 have s2:=blk_cell hbs 2
 have t0:=blk_cell hbt 0
 have t1:=blk_cell hbt 1
 have t2:=blk_cell hbt 2
 simp at s0 s1 s2 t0 t1 t2
 clear hbs hbt hbf hby
 have hmf:∀(fn:Fn) (first cap:Array Value) (w:World),(Instr.makeFunc fn first cap).run Tryz.prog w= .ok (.func fn first cap) w:=fun _ _ _ _=>rfl
 cases ho:nouP s t with
 |error c =>
  rw[ho]at C
  rcases chP_err (show chP _ _ _= .error c from ho)with rfl | rfl | rfl | rfl
  all_goals clear ho
  all_goals (
   go_enter Tryz.func16,Tryz.ntmps16
   go_wp2_with (go_at_call 41;refine C.out.mono ?_;rintro e w5 ⟨hk,rfl⟩;have HK5:=Aside0.mk hk;have RR:=Aside0.mk (fun (o:Obj)=>blk_alloc (hk.blk HF.out (by omega)) o);clear hk;unfold zeroM;have zc0:=fun (o:Obj)=>blk_cell (RR.out o) 0;have zf0:=fun (o:Obj)=>blk_frozen (RR.out o) 0;have zc1:=fun (o:Obj)=>blk_cell (RR.out o) 1;have zf1:=fun (o:Obj)=>blk_frozen (RR.out o) 1;have zc2:=fun (o:Obj)=>blk_cell (RR.out o) 2;have zf2:=fun (o:Obj)=>blk_frozen (RR.out o) 2;have zc3:=fun (o:Obj)=>blk_cell (RR.out o) 3;have zf3:=fun (o:Obj)=>blk_frozen (RR.out o) 3;have zc4:=fun (o:Obj)=>blk_cell (RR.out o) 4;have zf4:=fun (o:Obj)=>blk_frozen (RR.out o) 4;have zc5:=fun (o:Obj)=>blk_cell (RR.out o) 5;have zf5:=fun (o:Obj)=>blk_frozen (RR.out o) 5;simp at zc0 zc1 zc2 zc3 zc4 zc5)
   refine bodyPost_ret (results_list (rs:=[.cell 4 37,.tmp 5,.tmp 6]) rfl (by simp) (.cell (w.heap.size+1+1) 37 _ (0,0) _ rfl (fin6 (RR.out _) (.int .i64 0) (.string ⟨#[]⟩) (.slice none 0 0) (.int .i64 0) (.int .i64 0) (.slice none 0 0)) Tryz.underlying37 rfl (by kernel_rfl) (.tmp (.tmp .nil)))) rfl ?_
   exact ⟨nou_below HB1.out HK5.out (by omega) (by omega) (.int .i64 0) (.string ⟨#[]⟩) (.slice none 0 0) (.int .i64 0) (.int .i64 0) (.slice none 0 0),rfl⟩)
 |ok m =>
  rw[ho]at C
  clear ho
  go_enter Tryz.func16,Tryz.ntmps16
  go_wp2_with (go_at_call 41;refine C.out.mono ?_;rintro e w5 ⟨hk,v5,rfl,hm5,y,hy,hy5⟩;have HM5:=Aside0.mk hm5;obtain ⟨E2,e2,E5,e5,rfl,hrest⟩:=id hm5;clear hm5 hrest;have yy:=fun (o:Obj)=>blk_cell (blk_alloc hy5 o) 0;simp at yy;have HY:=Aside0.mk hy;have HK5:=Aside0.mk hk;have RR:=Aside0.mk (fun (o:Obj)=>blk_alloc (hk.blk HF.out (by omega)) o);clear hk hy hy5;unfold mnW;have zc0:=fun (o:Obj)=>blk_cell (RR.out o) 0;have zf0:=fun (o:Obj)=>blk_frozen (RR.out o) 0;have zc1:=fun (o:Obj)=>blk_cell (RR.out o) 1;have zf1:=fun (o:Obj)=>blk_frozen (RR.out o) 1;have zc2:=fun (o:Obj)=>blk_cell (RR.out o) 2;have zf2:=fun (o:Obj)=>blk_frozen (RR.out o) 2;have zc3:=fun (o:Obj)=>blk_cell (RR.out o) 3;have zf3:=fun (o:Obj)=>blk_frozen (RR.out o) 3;have zc4:=fun (o:Obj)=>blk_cell (RR.out o) 4;have zf4:=fun (o:Obj)=>blk_frozen (RR.out o) 4;have zc5:=fun (o:Obj)=>blk_cell (RR.out o) 5;have zf5:=fun (o:Obj)=>blk_frozen (RR.out o) 5;simp at zc0 zc1 zc2 zc3 zc4 zc5)
  go_region
  all_goals (
   go_wp2
   refine bodyPost_ret (results_list (rs:=[.cell 4 37,.tmp 5,.tmp 6]) rfl (by simp) (.cell (w.heap.size+1+1) 37 _ (0,0) _ rfl (blk_drew (fin6 (RR.out _) (.int .i64 m.f0.f0) (.string m.f0.f1) (.slice E2 m.f0.f2.length e2) (.int .i64 m.f0.f3) (.int .i64 m.f0.f4) (.slice E5 m.f0.f5.length e5))) Tryz.underlying37 rfl (by kernel_rfl) (.tmp (.tmp .nil)))) rfl ?_
   refine ⟨below_drew (nou_below HB1.out HK5.out (by omega) (by omega) (.int .i64 m.f0.f0) (.string m.f0.f1) (.slice E2 m.f0.f2.length e2) (.int .i64 m.f0.f3) (.int .i64 m.f0.f4) (.slice E5 m.f0.f5.length e5)),_,y,HY.out,rfl,?_⟩
   have hs4:=HS4.out
   refine (((MnV.step (HM5.out.below (below_alloc (Below.refl _ _) _)) (fun k hk hlt=>(kp_set6 (g:=w.heap.size+1+1) (.int .i64 m.f0.f0) (.string m.f0.f1) (.slice E2 m.f0.f2.length e2) (.int .i64 m.f0.f3) (.int .i64 m.f0.f4) (.slice E5 m.f0.f5.length e5)).block k hlt (fun h=> ?_))).mono (fun k hk=> ?_)).below (below_drew (Below.refl _ _))).fm
   ·have hk' :((((w.alloc (.cells #[.slice s.A0 s.ss.length s.c0,.slice s.A1 s.cs.length s.c1,.slice s.A2 s.ps.length s.c2] 26)).alloc (.cells #[.string t.f0,.slice A1 t.f1.length c1,.slice A2 t.f2.length c2] 30)).alloc (.cells #[.int .i64 0,.string ⟨#[]⟩,.slice none 0 0,.int .i64 0,.int .i64 0,.slice none 0 0] 37)).alloc (.cells #[.string ⟨#[]⟩] 9)).heap.size≤k:=hk
    omega
   ·have hk' :((((w.alloc (.cells #[.slice s.A0 s.ss.length s.c0,.slice s.A1 s.cs.length s.c1,.slice s.A2 s.ps.length s.c2] 26)).alloc (.cells #[.string t.f0,.slice A1 t.f1.length c1,.slice A2 t.f2.length c2] 30)).alloc (.cells #[.int .i64 0,.string ⟨#[]⟩,.slice none 0 0,.int .i64 0,.int .i64 0,.slice none 0 0] 37)).alloc (.cells #[.string ⟨#[]⟩] 9)).heap.size≤k:=hk
    omega)
set_option maxHeartbeats 400000 in
set_option maxRecDepth 100000 in
theorem copy_next (B:Nat) (v:Value) (w:World) (h:w.heap[B]? =some (.cells #[.pointer (some ⟨B,0,none⟩),v] 111 (0,0))) :
  Calls Tryz.prog 156 #[.pointer (some ⟨B,0,none⟩)] w fun e w' =>e= .returned (.tuple #[])∧w' =w:=by
 have x0:=blk_cell h 0
 simp at x0
 go_enter Tryz.func156,Tryz.ntmps156
 obtain ⟨j,hj,hjs⟩:=Option.map_eq_some_iff.1 (show (Tryz.prog.info? 111).map (·.size)=some 2 by kernel_rfl)
 go_wp2
 rw[Lib.run_neq_ptr_same w _ Tryz.underlying108 hj]
 go_wp2
 go_end0
 exact ⟨rfl,rfl⟩
set_option maxHeartbeats 400000 in
set_option maxRecDepth 100000 in
theorem copy_first (B:Nat) (v:Value) (w:World) (h:w.heap[B]? =some (.cells #[.pointer none,v] 111 (0,0))) :
  Calls Tryz.prog 156 #[.pointer (some ⟨B,0,none⟩)] w fun e w' =>e= .returned (.tuple #[])∧w' =w.setCell ⟨B,0,none⟩ (.pointer (some ⟨B,0,none⟩)):=by
 have x0:=blk_cell h 0
 have f0:=blk_frozen h 0
 simp at x0
 go_enter Tryz.func156,Tryz.ntmps156
 obtain ⟨j,hj,hjs⟩:=Option.map_eq_some_iff.1 (show (Tryz.prog.info? 111).map (·.size)=some 2 by kernel_rfl)
 have hsh:w.shape? B=some (111,2):=by simp[World.shape?,h]
 go_wp2
 rw[Lib.run_to_unsafe w ⟨B,0,none⟩ Tryz.underlying108 Tryz.underlying192 hj (by rw[hjs];decide) hsh (Nat.zero_lt_succ 1)]
 simp only[Result.andThen]
 rw[Oper.upon_value]
 go_wp2
 rw[run_callFunc_extern Tryz.func174 (by kernel_rfl) (by kernel_rfl) (by kernel_rfl) (e:=Extern.AbiNoEscape.same) (by kernel_rfl)]
 rw[Lib.run_noEscape]
 simp only[Result.andThen]
 rw[Oper.upon_value]
 go_wp2
 rw[Lib.run_from_unsafe w ⟨B,0,none⟩ Tryz.underlying192 Tryz.underlying108 hj hsh (by kernel_rfl)]
 simp only[Result.andThen]
 rw[Oper.upon_value]
 go_wp2
 go_end0
 exact ⟨rfl,rfl⟩
theorem info5_:(Tryz.prog.info? 5).map (fun i=>(i.zero,i.size,i.bytes))=some (some (.int .u8 0),1,1):=by kernel_rfl
theorem copy_callsK (B b:Nat) (bs:List Value) (w:World) (h:Lib.IsBuilder 111 5 B b bs w) :
  Calls Tryz.prog 156 #[.pointer (some ⟨b,0,none⟩)] w fun e w' =>e= .returned (.tuple #[])∧Lib.BuilderAt 111 5 B b (.pointer (some ⟨b,0,none⟩)) bs w' ∧Below B w w' ∧Lib.OthersKept 5 (some b) w w' :=by
 rcases h with h | h
 ·obtain ⟨hB,v,hb,hr⟩:=id h
  exact (copy_first b v w hb).mono (by rintro e w' ⟨rfl,rfl⟩;exact ⟨rfl,h.used _,(Below.refl B w).setCell (p:=⟨b,0,none⟩) hB _,(Lib.OthersKept.refl 5 (some b) w).setCell ⟨b,0,none⟩ rfl _⟩)
 ·obtain ⟨hB,v,hb,hr⟩:=id h
  exact (copy_next b v w hb).mono (by rintro e w' ⟨rfl,rfl⟩;exact ⟨rfl,h,Below.refl B _,Lib.OthersKept.refl 5 (some b) _⟩)
theorem own_kind {w:World} {B n:Nat} {v:Value} {xs:List Value} (h:w.ownsRow B 5 1 v n xs):∀g,v.ownBlock=some g→∃c fz,w.heap[g]? =some (.cells c 5 fz):=by
 intro g hg
 rcases h.2 with ⟨rfl,_⟩ | ⟨g',cap,cur,rfl,_,hh,_⟩
 ·simp[Value.ownBlock]at hg
 ·simp only[Value.ownBlock,Option.some.injEq]at hg
  subst hg
  exact ⟨_,_,hh⟩
set_option maxHeartbeats 2000000 in
set_option maxRecDepth 100000 in
theorem wbyte_callsK (B b:Nat) (bs:List Value) (c:Int) (w:World) (h:Lib.IsBuilder 111 5 B b bs w) (hlen:bs.length+1≤140737488355328) (hBw:B≤w.heap.size) :
  Calls Tryz.prog 125 #[.pointer (some ⟨b,0,none⟩),.int .u8 c] w fun e w' =>e= .returned .nilIface∧Lib.IsBuilder 111 5 B b (bs++[.int .u8 c]) w' ∧Below B w w' ∧Lib.OthersKept 5 (some b) w w' :=by
 obtain ⟨i0,hi,hz0,hz1,hz2⟩:=info_parts info5_
 have C:=Aside0.mk (copy_callsK B b bs w h)
 clear h
 go_enter Tryz.func125,Tryz.ntmps125
 go_wp2_with (go_at_call 156;refine C.out.mono ?_)
 rintro e w1 ⟨rfl,⟨hB,v,hbk,hown,hne⟩,hb1,ho1⟩
 have HBK:=Aside0.mk hbk
 have HO1:=Aside0.mk ho1
 have y0:=blk_cell hbk 0
 have y1:=blk_cell hbk 1
 simp at y0 y1
 clear hbk ho1
 go_wp2_with (at_builtin;refine wpList_append_own _ rfl _ _ 109 rfl B 5 i0 (.int .u8 0) 1 1 Tryz.underlying109 hi hz0 hz1 hz2 rfl (by decide) _ _ _ rfl (hown.alloc _) ⟨w1.heap.size,0,none⟩ 1 1 [.int .u8 c] rfl rfl ?c1 ?c2 ?c3 ?c4 ?c5 ?_)
 case c1 =>
  intro k u hk
  cases k with
  |zero=>simp at hk;subst hk;simp[Addr.add]
  |succ k=>simp at hk
 case c2=>intro u hu;simp at hu;subst hu;rfl
 case c3=>unfold maxLen;omega
 case c4=>omega
 case c5=>have:=hb1.size;simp;omega
 intro v' w2 hown' hgrow _
 have hlt:=blk_lt HBK.out
 have hb2:=(hgrow.block b (by simp;omega) (fun e=>hne e.symm)).trans (blk_alloc HBK.out (.cells #[.int .u8 c] 5))
 have z0:=blk_cell hb2 0
 have z1:=blk_cell hb2 1
 have f1:=blk_frozen hb2 1
 simp at z0 z1
 obtain ⟨g,cap,rfl⟩:∃g cap,v' = .slice (some ⟨g,0,none⟩) (bs.length+1) cap:=by
  rcases hown'.2 with ⟨_,h0⟩ | ⟨g,cap,cur,hv,_⟩
  ·omega
  ·exact ⟨g,cap,hv⟩
 have HB2:=Aside0.mk hb2
 have HO2:=Aside0.mk (((HO1.out.alloc (.cells #[.int .u8 c] 5)).grown hgrow (own_kind (hown.alloc _))).setCell ⟨b,1,none⟩ rfl (.slice (some ⟨g,0,none⟩) (bs.length+1) cap))
 clear hb2
 go_wp2
 go_ret
 refine ⟨rfl,.inr (Lib.BuilderAt.put hB HB2.out (by simpa using hown') (by decide)),?_,HO2.out⟩
 exact ((hb1.alloc (by have:=hb1.size;omega) _).grown hgrow (by have:=hb1.size;simp;omega) (fun k hk=>(hown.lt k hk).1)).setCell (p:=⟨b,1,none⟩) hB _
set_option maxHeartbeats 2000000 in
set_option maxRecDepth 100000 in
theorem wstr_callsK (B b:Nat) (bs:List Value) (s:ByteArray) (w:World) (h:Lib.IsBuilder 111 5 B b bs w) (hlen:bs.length+s.size≤140737488355328) (hBw:B≤w.heap.size) :
  Calls Tryz.prog 122 #[.pointer (some ⟨b,0,none⟩),.string s] w fun e w' =>e= .returned (.tuple #[.int .i64 s.size,.nilIface])∧Lib.IsBuilder 111 5 B b (bs++Lib.strCells s) w' ∧Below B w w' ∧Lib.OthersKept 5 (some b) w w' :=by
 obtain ⟨i0,hi,hz0,hz1,hz2⟩:=info_parts info5_
 have C:=Aside0.mk (copy_callsK B b bs w h)
 clear h
 go_enter Tryz.func122,Tryz.ntmps122
 go_wp2_with (go_at_call 156;refine C.out.mono ?_)
 rintro e w1 ⟨rfl,⟨hB,v,hbk,hown,hne⟩,hb1,ho1⟩
 have HBK:=Aside0.mk hbk
 have HO1:=Aside0.mk ho1
 have y0:=blk_cell hbk 0
 have y1:=blk_cell hbk 1
 simp at y0 y1
 clear hbk ho1
 go_wp2_with (at_builtin;refine Lib.wpList_append_own_string _ rfl _ _ 109 9 rfl B 5 i0 Tryz.underlying109 Tryz.underlying9 hi hz0 hz1 hz2 _ _ _ rfl hown s rfl ?c3 ?c4 ?c5 ?_)
 case c3=>unfold maxLen;omega
 case c4=>omega
 case c5=>have:=hb1.size;omega
 intro v' w2 hown' hgrow _
 have hlt:=blk_lt HBK.out
 have hb2:=(hgrow.block b hlt (fun e=>hne e.symm)).trans HBK.out
 have z0:=blk_cell hb2 0
 have z1:=blk_cell hb2 1
 have f1:=blk_frozen hb2 1
 simp at z0 z1
 obtain ⟨ao,n',cap,rfl⟩:∃ao n' cap,v' = .slice ao n' cap:=by
  rcases hown'.2 with ⟨hv,_⟩ | ⟨g,cap,cur,hv,_⟩
  ·exact ⟨_,_,_,hv⟩
  ·exact ⟨_,_,_,hv⟩
 have HB2:=Aside0.mk hb2
 have HO2:=Aside0.mk ((HO1.out.grown hgrow (own_kind hown)).setCell ⟨b,1,none⟩ rfl (.slice ao n' cap))
 clear hb2
 go_wp2
 go_ret2
 refine ⟨rfl,.inr (Lib.BuilderAt.put hB HB2.out (by simpa[Lib.strCells_length]using hown') (by decide)),?_,HO2.out⟩
 exact (hb1.grown hgrow (by have:=hb1.size;omega) (fun k hk=>(hown.lt k hk).1)).setCell (p:=⟨b,1,none⟩) hB _
end Go.Proofs.YtcfjomnihhdpaaaGreatDoor.A
