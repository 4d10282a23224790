/-
  A part of the proof: R58, Q10, Q11, Q12, Q13, Q14, Q15.
-/
import Derived.Test.YtcfjomnihhdpaaaGreatDoorBu10
namespace Go.Proofs.YtcfjomnihhdpaaaGreatDoor.A
open Go.RowKit Go.Proofs.YtcfjomnihhdpaaaGreatDoorW.PrintWords Go.Proofs.YtcfjomnihhdpaaaGreatDoorW.PrintLast Go.Proofs.YtcfjomnihhdpaaaGreatDoorW.PrintMore
set_option linter.unusedVariables false
set_option linter.unusedSimpArgs false
section
structure CellsK {α:Type} (d:Kd α):Prop where
 K:∀{w w1:World} {x:α} {cs:List Value},(∀a v,w.cell? a=some v→w1.cell? a=some v)→d.K w x cs→d.K w1 x cs
theorem CellsK.C {α:Type} {d:Kd α} (hd:CellsK d) {w w1:World} {A:Option Addr} {n:Nat} {xs:List α} (hb:∀a v,w.cell? a=some v→w1.cell? a=some v) (h:d.C w A n xs):d.C w1 A n xs :=
 ⟨h.1,h.2.1,fun hn=>by
  obtain ⟨ad,e,hc⟩:=h.2.2 hn
  refine ⟨ad,e,fun j p hj=> ?_⟩
  obtain ⟨c,hs,hr,hcell⟩:=hc j p hj
  exact ⟨c,hs,hd.K hb hr,fun i u hu=>hb _ _ (hcell i u hu)⟩⟩
theorem cells_int (k:IntKind):CellsK (Kd.int k):=⟨fun _ h=>h⟩
theorem cells_string:CellsK Kd.string:=⟨fun _ h=>h⟩
theorem cells_slice {α:Type} {d:Kd α} (e:Nat) (hd:CellsK d):CellsK (Kd.slice e d):=⟨by
 rintro w w1 x cs hb ⟨A,c,rfl,hl,hr⟩
 exact ⟨A,c,rfl,hl,hd.C hb hr⟩⟩
theorem cells_pair {α β:Type} {a:Kd α} {b:Kd β} (ha:CellsK a) (hb' :CellsK b):CellsK (Kd.pair a b):=⟨by
 rintro w w1 x cs hb ⟨c0,c1,rfl,h0,h1⟩
 exact ⟨c0,c1,rfl,ha.K hb h0,hb'.K hb h1⟩⟩
theorem cells_iso {α β:Type} {d:Kd α} (f:β→α) (hd:CellsK d):CellsK (Kd.iso d f):=⟨fun hb h=>hd.K hb h⟩
theorem cells_upto {α:Type} {F:Kd α→Kd α} {sz:Nat} {E:List Nat} (hF:∀d,CellsK d→CellsK (F d)):∀n,CellsK (Kd.upto F sz E n)
 |0=>⟨fun _ h=>h⟩
 |n+1=>hF _ (cells_upto hF n)
theorem cells_fix {α:Type} {F:Kd α→Kd α} {sz:Nat} {E:List Nat} {hs:∀n,(Kd.upto F sz E n).sz=sz} {hE:∀n q,q∈(Kd.upto F sz E n).E→q∈E} (hF:∀d,CellsK d→CellsK (F d)):CellsK (Kd.fix F sz E hs hE):=⟨by
 rintro w w1 x cs hb ⟨n,h⟩
 exact ⟨n,(cells_upto hF n).K hb h⟩⟩
theorem k30_cells:CellsK k30:=cells_fix (fun _ h_=>cells_iso _ (cells_pair cells_string (cells_pair (cells_slice 3 (cells_int .i64)) (cells_slice 30 h_))))
theorem TreeV.cells {w w1:World} {t:S30} {A1:Option Addr} {c1:Nat} {A2:Option Addr} {c2:Nat} (h:TreeV w t A1 c1 A2 c2) (hb:∀a v,w.cell? a=some v→w1.cell? a=some v):TreeV w1 t A1 c1 A2 c2 :=
 ⟨h.l1,(cells_int .i64).C hb h.v,h.l2,k30_cells.C hb h.k⟩
def MapE (w:World) (mb:Nat) (l:Ents):Prop:=∃D:DataW Value,w.ownsMap Tryz.prog 9 heldD mb l.length D ∧
 ∀x:ByteArray,Maps.has D (.string x.data.toList)=(entOf l x).isSome∧∀z,D.atKey (.string x.data.toList) (.held z)= .held ((entOf l x).getD z)
section
variable {w w1:World} {mb:Nat} {l:Ents}
theorem MapE.step (h:MapE w mb l) (hm:w1.heap[mb]? =w.heap[mb]?):MapE w1 mb l:=by
 obtain ⟨D,⟨es,clock,hb,F,hs,hD⟩,h3⟩:=h
 exact ⟨D,⟨es,clock,hm.trans hb,F,hs,hD⟩,h3⟩
theorem MapE.lt (h:MapE w mb l):mb<w.heap.size:=by
 obtain ⟨D,h1,_⟩:=h
 exact h1.lt
theorem MapE.below (h:MapE w mb l) (hB:Below w.heap.size w w1):MapE w1 mb l:=h.step (hB.block mb h.lt)
theorem MapE.notCells (h:MapE w mb l) {g:Nat} {cs:Array Value} {e:TypeId} {fr:Nat×Nat} (hg:w.heap[g]? =some (.cells cs e fr)):g≠mb:=by
 obtain ⟨D,⟨es,clock,hb,_⟩,_⟩:=h
 intro e
 subst e
 rw[hb]at hg
 cases hg
theorem MapE.look_ok (h:MapE w mb l) {tm e:TypeId} {z:Value} (ht:Tryz.prog.underlying tm=some (.map 9 e)) (hz:(zeroValue e).run Tryz.prog w= .ok z w) (x:ByteArray) (hx:x.size≤maxLen):(Instr.lookup tm (.map (some mb)) (.string x) true).run Tryz.prog w= .ok (.tuple #[(entOf l x).getD z,.bool (entOf l x).isSome]) w:=by
 obtain ⟨D,h1,h3⟩:=h
 obtain ⟨v,ps,hrun,hv⟩:=h1.look_ok keyed9 ht hz (zd:= .held z) (zp:=[]) rfl (WideMaps.keyOf_string_mk Tryz.underlying9 hx)
 rw[(h3 x).2 z]at hv
 rw[(h3 x).1]at hrun
 rw[←heldD_inv hv]
 exact hrun
theorem MapE.made (w:World):MapE (w.alloc (.map #[] 0)) w.heap.size []:=⟨.map [],World.ownsMap_made w Tryz.prog 9 heldD,fun x=>⟨rfl,fun z=>rfl⟩⟩
theorem MapE.store (h:MapE w mb l) {tm e:TypeId} (ht:Tryz.prog.underlying tm=some (.map 9 e)) (hn:l.length<2 ^ 62) (x:ByteArray) (v:Value) (hx:x.size≤maxLen) :
  ∃w',(Instr.mapUpdate tm (.map (some mb)) (.string x) v).run Tryz.prog w= .ok () w' ∧MapE w' mb ((x,v)::l)∧w.grownBy w' (some mb):=by
 obtain ⟨D,h1,h3⟩:=h
 obtain ⟨w',hrun,hown,hg⟩:=h1.update keyed9 ht (by unfold maxLen;omega) (WideMaps.keyOf_string_mk Tryz.underlying9 hx) (show heldD v=some (.held v,[])from rfl)
 refine ⟨w',hrun,⟨D.put (.string x.data.toList) (.held v),?_,fun y=> ?_⟩,hg⟩
 ·exact hown
 ·rw[entOf]
  by_cases he:x.data.toList=y.data.toList
  ·rw[if_pos he,he]
   exact ⟨by rw[Maps.has_put_same h1.isMap (by trivial)];rfl,fun z=>by rw[Maps.atKey_put_same h1.isMap (by trivial)];rfl⟩
  ·have hne:(Lit.string y.data.toList)≠Lit.string x.data.toList:=by
    intro e;injection e with e;exact he e.symm
   rw[if_neg he]
   exact ⟨by rw[Maps.has_put_other hne];exact (h3 y).1,fun z=>by rw[Maps.atKey_put_other hne];exact (h3 y).2 z⟩
end
theorem Kp.cells {w w1:World} {mb:Nat} (hk:Kp w w1 (fun k=>k=mb)) {en:Ents} (hm:MapE w mb en):∀a v,w.cell? a=some v→w1.cell? a=some v:=fun a v h=>by
 have hlt:=World.block_lt_of_cell? w a h
 have hne:a.block≠mb:=by
  rintro he
  obtain ⟨D,⟨es,clock,hb,_⟩,_⟩:=hm
  rw[←he]at hb
  simp only[World.cell?,hb]at h
  cases h
 have:=hk.block a.block hlt hne
 simpa[World.cell?,this]using h
theorem Kp.blk_ {w w1:World} {mb b:Nat} (hk:Kp w w1 (fun k=>k=mb)) {en:Ents} (hm:MapE w mb en) {cs:Array Value} {e:TypeId} {fr:Nat×Nat} (h:w.heap[b]? =some (.cells cs e fr)):w1.heap[b]? =some (.cells cs e fr) :=
 hk.blk h (hm.notCells h)
def EntOk (T:Lib.PrintTabs) (s:Sg) (w:World) (R:Nat→Prop) (x:ByteArray) (v:Value):Prop :=
 ∃t m n,sentP s n t=some m∧nodes t≤n∧formedP structL t cS=true∧resP t=true∧keyP T t=x∧MnV w R v m
structure MapInv (T:Lib.PrintTabs) (s:Sg) (w:World) (mb:Nat) (R:Nat→Prop) (en:Ents):Prop where
 map:MapE w mb en
 ok:∀x v,entOf en x=some v→EntOk T s w R x v
 nR:¬R mb
section
variable {T:Lib.PrintTabs} {s:Sg} {w w1:World} {mb:Nat} {R R' :Nat→Prop} {en:Ents}
theorem EntOk.step {x:ByteArray} {v:Value} (h:EntOk T s w R x v) (hb:∀k,R k→k<w.heap.size→w1.heap[k]? =w.heap[k]?):EntOk T s w1 R x v:=by
 obtain ⟨t,m,n,h1,h2,h3,h4,h5,h6⟩:=h
 exact ⟨t,m,n,h1,h2,h3,h4,h5,h6.step hb⟩
theorem EntOk.mono {x:ByteArray} {v:Value} (h:EntOk T s w R x v) (hr:∀k,R k→R' k):EntOk T s w R' x v:=by
 obtain ⟨t,m,n,h1,h2,h3,h4,h5,h6⟩:=h
 exact ⟨t,m,n,h1,h2,h3,h4,h5,h6.mono hr⟩
theorem MapInv.below (h:MapInv T s w mb R en) (hB:Below w.heap.size w w1):MapInv T s w1 mb R en :=
 ⟨h.map.below hB,fun x v hx=>(h.ok x v hx).step (fun k _ hk=>hB.block k hk),h.nR⟩
theorem MapInv.mono (h:MapInv T s w mb R en) (hr:∀k,R k→R' k) (hn:¬R' mb):MapInv T s w mb R' en :=
 ⟨h.map,fun x v hx=>(h.ok x v hx).mono hr,hn⟩
theorem MapInv.bound (h:MapInv T s w mb R en):MapInv T s w mb (fun k=>R k∧k<w.heap.size) en :=
 ⟨h.map,fun x v hx=>by
  obtain ⟨t,m,n,h1,h2,h3,h4,h5,h6⟩:=h.ok x v hx
  exact ⟨t,m,n,h1,h2,h3,h4,h5,h6.bound⟩,fun hr=>h.nR hr.1⟩
theorem MapInv.lt (h:MapInv T s w mb R en):mb<w.heap.size:=h.map.lt
theorem MapInv.found (h:MapInv T s w mb R en) (hs:SigN s) {t:S30} (hf:formedP structL t cS=true) {n:Nat} (hn:nodes t≤n) {v:Value} (hv:entOf en (keyP T t)=some v):∃m,sentP s n t=some m∧MnV w R v m:=by
 obtain ⟨u,m,k,h1,h2,h3,h4,h5,h6⟩:=h.ok _ v hv
 have he:t=u:=keyP_inj T (sent_plain hs k u m h3 h4 h1) (formed_vals t cS hf) (formed_vals u cS h3) h5.symm
 subst he
 exact ⟨m,by rw[sentP_fuel s n k t hn h2];exact h1,h6⟩
end
structure Env (T:Lib.PrintTabs) (s:Sg) (w0 w:World) (bp mb:Nat):Prop where
 h0:Below w0.heap.size w0 w
 tabs:Tabs T w0
 sig:s.C w0
 nam:SigN s
 blk:w.heap[bp]? =some (.cells #[.slice s.A0 s.ss.length s.c0,.slice s.A1 s.cs.length s.c1,.slice s.A2 s.ps.length s.c2,.map (some mb)] 121 (0,0))
 ge:w0.heap.size≤mb
 ar:∀p∈s.ps,1≤p.f1.length
section
variable {T:Lib.PrintTabs} {s:Sg} {w0 w w1:World} {bp mb:Nat} {en:Ents}
theorem Env.bld (h:Env T s w0 w bp mb):Bld w bp mb s:=⟨h.blk,SigC.below h.sig h.h0⟩
theorem Env.below (h:Env T s w0 w bp mb) (hB:Below w.heap.size w w1):Env T s w0 w1 bp mb:=⟨below_step h.h0 hB,h.tabs,h.sig,h.nam,blk_below h.blk hB,h.ge,h.ar⟩
theorem Env.kp (h:Env T s w0 w bp mb) (hm:MapE w mb en) (hk:Kp w w1 (fun k=>k=mb)):Env T s w0 w1 bp mb :=
 ⟨h.h0.trans (hk.toBelow h.h0.size (fun k hk=>by rw[hk];exact h.ge)),h.tabs,h.sig,h.nam,hk.blk_ hm h.blk,h.ge,h.ar⟩
end
def SentRet (T:Lib.PrintTabs) (s:Sg) (w:World) (mb:Nat) (R:Nat→Prop) (n:Nat) (r:Option S70) (e:Ending) (w' :World):Prop:=Kp w w' (fun k=>k=mb)∧match r with
 |some m=>∃v,e= .returned v∧MnV w' (fun k=>R k∨w.heap.size≤k) v m∧∃en',MapInv T s w' mb (fun k=>R k∨w.heap.size≤k) en' ∧en'.length≤n
 |none=>e= .panicked failV
section
variable {T:Lib.PrintTabs} {s:Sg} {w w1 w' :World} {mb n:Nat} {R:Nat→Prop} {en:Ents} {m:S70} {v:Value}
theorem SentRet.yes (hk:Kp w w' (fun k=>k=mb)) (hm:MnV w' (fun k=>R k∨w.heap.size≤k) v m) (hi:MapInv T s w' mb (fun k=>R k∨w.heap.size≤k) en) (hn:en.length≤n):SentRet T s w mb R n (some m) (.returned v) w' :=⟨hk,v,rfl,hm,en,hi,hn⟩
theorem SentRet.no (hk:Kp w w' (fun k=>k=mb)):SentRet T s w mb R n none (.panicked failV) w' :=⟨hk,rfl⟩
end
def SentC (T:Lib.PrintTabs) (s:Sg) (f n N:Nat):Prop:=∀(t:S30),nodes t≤n→n≤60→formedP structL t cS=true→resP t=true→Sm t→∀(w0 w:World) (bp mb:Nat) (R:Nat→Prop) (en:Ents) (A1:Option Addr) (c1:Nat) (A2:Option Addr) (c2:Nat),Env T s w0 w bp mb→MapInv T s w mb R en→TreeV w t A1 c1 A2 c2→en.length+N<2 ^ 62 →
 Calls Tryz.prog f #[.pointer (some ⟨bp,0,none⟩),.agg #[.string t.f0,.slice A1 t.f1.length c1,.slice A2 t.f2.length c2]] w (SentRet T s w mb R (en.length+N) (sentP s n t))
end
section
attribute [local go_sem] Oper.semAt_some
section
variable {ops:Array Oper} {Q:Exit→Act→World→Prop}
theorem frN_sl (n:Nat) (f:Nat→Value) (KS:List Nat):frN n f=frN n (sl (fun i=>f (KS.getD i 0)) f KS):=by
 unfold frN
 congr 2
 apply List.map_congr_left
 intro j _
 unfold sl
 cases hi:KS.idxOf? j with
 |none=>rfl
 |some i =>
  show f j=f (KS.getD i 0)
  rw[List.idxOf?,List.findIdx?_eq_some_iff_getElem]at hi
  obtain ⟨hl,he,_⟩:=hi
  rw[List.getD_eq_getElem?_getD,List.getElem?_eq_getElem hl,Option.getD_some,eq_of_beq he]
theorem region_kl {id:Nat} (L n:Nat) (lt:Nat→Bool) (p q:Nat) (ks:List Kn) (pf:Nat→Value→Prop) (KS:List Nat) (f:Nat→Value) (W:World) (D:Value→World→Prop) (hL:L<ops.size) (hfit:fitB ops n KS=true)
  (hlow:(List.range ops.size).all (fun i=>((ops[i]?).map fun o=>o.after.all fun e=> !Region.binds .any e || decide (e.on<i)).getD true)=true)
  (hto:(List.range L).all (fun i=>lt i || (List.range (L+1)).any fun j=>decide (i<j) && Dep .any ops i j && !(lt j))=true)
  (hbe:(List.range ops.size).all (fun j=>decide (j≤L) || Dep .any ops L j)=true) (hll:lt L=false) (hpq:p<L∧q<L∧p≠q∧lt p=false∧lt q=false)
  (hpf:∀i v w,(ks.getD i .top).In v w→pf i v) (hst:StepsP ops Q (fun x=>frN n (sl x f KS)) W.drew ks ops.toList 0 L)
  (mid:∀o x w J,ops[L]? =some o→Below W.drew.heap.size W.drew w→(∀i,i<L→lt i=false→(ks.getD i .top).In (x i) w)→(∀v w',D (x q) w' →J ((frN n (sl x f KS)).put o.dst v) w')→wpOp Tryz.prog ops Q L J (frN n (sl x f KS)) w)
  (step2:∀i o x w J,(lt i=true∨L<i)→ops[i]? =some o→(∀j,waits o j=true→j≠L→pf j (x j))→(∀v,pf i v→J ((frN n (sl x f KS)).put o.dst v) w)→wpOp Tryz.prog ops Q i J (frN n (sl x f KS)) w)
  (fin:∀x w,D (x q) w→Q .normal (frN n (sl x f KS)) w):Code.wp Tryz.prog (.region id ops true) Q (frN n f) W:=by
 rw[frN_sl n f KS]
 refine wp_region_any (by kernel_rfl) (region_two L hL (fun x=>frN n (sl x f KS)) (fun i=>i) lt (fun i v _ w=>(ks.getD i .top).In v w) (fun i v _=>pf i v) p q (fun _ _ _=>True) D W.drew hlow hto hbe (by simp) hll (fun i o x v ho=>fit_put hfit f i o x v ho) (fun i v u w h=>hpf i v w h) (fun i v u w w' h hB=>(ks.getD i .top).st v w w' h hB) (fun _ _ _ _ h _=>h) (fun i o x w J dn hi ho hB hd _ h=> ?_) hpq (fun o x w J ho hB h _ hJ=>mid o x w J ho hB h hJ) (fun i o x w J hl ho hd h=>step2 i o x w J hl ho (fun j hj hn=>deps_waits (C:=fun j=>j≠L→pf j (x j)) rfl hd j hj hn) h) (fun x w _ hD=>fin x w hD) _)
 have h1:=stepsP_at ops.toList 0 L hst i o hi (by simpa using ho)
 rw[Nat.zero_add]at h1
 exact h1 x w J hB (deps_waits rfl hd) (fun v w' hv hb=>h v w' hv (fun _ _=>trivial) (fun _ _=>trivial) hb) ho
end
theorem fin3_any {w:World} {g:Nat} (h:g<w.heap.size) (a b c:Value):∀B,B≤g→Below B w (((w.setCell ⟨g,0,none⟩ a).setCell ⟨g,1,none⟩ b).setCell ⟨g,2,none⟩ c):=fun B hB =>
 (((Below.refl B w).setCell (p:=⟨g,0,none⟩) hB a).setCell (p:=⟨g,1,none⟩) hB b).setCell (p:=⟨g,2,none⟩) hB c
section
variable {ops:Array Oper} {Q:Exit→Act→World→Prop} {R:Act→World→Prop} {RP:World→Prop} {i:Nat} {o:Oper} {J:Act→World→Prop} {a:Act} {w:World}
theorem op_ext {k:Tmp} {vs:Array Value} {n:Nat} {v:Value} (hi:ops[i]? =some o) (hg:o.guard=none) (ho:o.op= .extract (.tmp k) n) (ha:a.tmps[k]?.getD undef= .tuple vs) (hn:vs[n]? =some v) (h:J (a.put o.dst v) w):wpOp Tryz.prog ops Q i J a w:=by
 refine op_value hi (wanted_none hg) (w' :=w) ?_ h
 unfold execOp
 rw[ho]
 go_simp
theorem op_st30 {k k2:Tmp} {g:Nat} {x:ByteArray} {A1 A2:Option Addr} {n1 c1 n2 c2:Nat} {y0 y1 y2:Value} (hi:ops[i]? =some o) (hg:o.guard=none) (hd:o.dst=none) (ho:o.op= .store 30 (.tmp k) (.tmp k2)) (ha:a.tmps[k]?.getD undef= .pointer (some ⟨g,0,none⟩)) (ha2:a.tmps[k2]?.getD undef= .agg #[.string x,.slice A1 n1 c1,.slice A2 n2 c2]) (hz:w.heap[g]? =some (.cells #[y0,y1,y2] 30 (0,0)))
  (h:∀w',w'.heap[g]? =some (.cells #[.string x,.slice A1 n1 c1,.slice A2 n2 c2] 30 (0,0))→(∀k,k≠g→w'.heap[k]? =w.heap[k]?)→(∀B,B≤g→Below B w w')→J a w'):wpOp Tryz.prog ops Q i J a w:=by
 have hh:=h _ (fin3 hz (.string x) (.slice A1 n1 c1) (.slice A2 n2 c2)) (fun k hk=>fin3_far hk _ _ _) (fin3_any (blk_lt hz) _ _ _)
 have f0:=blk_frozen hz 0
 have f1:=blk_frozen hz 1
 have f2:=blk_frozen hz 2
 have z0:=blk_cell hz 0
 have z1:=blk_cell hz 1
 have z2:=blk_cell hz 2
 simp at z0 z1 z2
 have hput:a.put none undef=a:=rfl
 refine wpOp_step hi (fun K hK=> ?_)
 have hk:=hK _ _ hh
 rw[if_pos (wanted_none hg)]
 unfold Oper.wp execOp
 rw[ho]
 go_simp
 exact hk
end
end
section
attribute [local go_sem] Oper.semAt_some
section
variable {ops:Array Oper} {Q:Exit→Act→World→Prop}
def StepD (ops:Array Oper) (Q:Exit→Act→World→Prop) (fr:(Nat→Value)→Act) (W0:World) (ks:List Kn) (d:Nat) (i:Nat) (o:Oper):Prop:=∀x w J,Below W0.heap.size W0 w→(∀j,j≠d→waits o j=true→(ks.getD j .top).In (x j) w)→(∀v w',(ks.getD i .top).In v w' →Below w.heap.size w w' →J ((fr x).put o.dst v) w')→ops[i]? =some o→wpOp Tryz.prog ops Q i J (fr x) w
def StepE (ops:Array Oper) (Q:Exit→Act→World→Prop) (fr:(Nat→Value)→Act) (W0:World) (ks:List Kn) (i:Nat) (o:Oper):Prop:=∀x w J,Below W0.heap.size W0 w→(∀j,waits o j=true→(ks.getD j .top).In (x j) w)→(∀v w',(ks.getD i .top).In v w' →Below W0.heap.size W0 w' →J ((fr x).put o.dst v) w')→ops[i]? =some o→wpOp Tryz.prog ops Q i J (fr x) w
def StepsD (ops:Array Oper) (Q:Exit→Act→World→Prop) (fr:(Nat→Value)→Act) (W0:World) (ks:List Kn) (d e:Nat):List Oper→Nat→Nat→Prop
 |o::r,i,m+1=>(if i=e then StepE ops Q fr W0 ks i o else StepD ops Q fr W0 ks d i o)∧StepsD ops Q fr W0 ks d e r (i+1) m
 |_,_,_=>True
theorem stepsD_at {fr:(Nat→Value)→Act} {W0:World} {ks:List Kn} {d e:Nat}:∀(l:List Oper) (i m:Nat),StepsD ops Q fr W0 ks d e l i m→∀j o,j<m→l[j]? =some o→if i+j=e then StepE ops Q fr W0 ks (i+j) o else StepD ops Q fr W0 ks d (i+j) o
 |o::r,i,m+1,h,0,o',hj,ho=>by
  simp at ho
  subst ho
  exact h.1
 |o::r,i,m+1,h,j+1,o',hj,ho=>by
  have:=stepsD_at r (i+1) m h.2 j o' (by omega) (by simpa using ho)
  rwa [Nat.add_assoc,Nat.add_comm 1 j]at this
 | [],_,_,_,_,_,_,ho=>by simp at ho
 |o::r,i,0,_,j,_,hj,_=>by omega
theorem region_ke {id:Nat} (L n d e:Nat) (ks:List Kn) (KS:List Nat) (f:Nat→Value) (W:World) (hL:ops.size=L+1) (hfit:fitB ops n KS=true)
  (hlow:(List.range ops.size).all (fun i=>((ops[i]?).map fun o=>o.after.all fun e=> !Region.binds .any e || decide (e.on<i)).getD true)=true)
  (hto:(List.range L).all (fun i=>(List.range ops.size).any fun j=>decide (i<j) && Dep .any ops i j)=true)
  (hks:∀j,j≠d→j≠e→∀v w w',(ks.getD j .top).In v w→Below W.drew.heap.size W.drew w' →(ks.getD j .top).In v w') (hde:d≠e)
  (hst:StepsD ops Q (fun x=>frN n (sl x f KS)) W.drew ks d e ops.toList 0 L)
  (last:∀o x w,ops[L]? =some o→Below W.drew.heap.size W.drew w→(∀i,i<L→i≠d→(ks.getD i .top).In (x i) w)→wpOp Tryz.prog ops Q L (fun a' w' =>Q .normal a' w') (frN n (sl x f KS)) w) :
  Code.wp Tryz.prog (.region id ops true) Q (frN n f) W:=by
 rw[frN_sl n f KS]
 have hrep:∀i,(Array.replicate ops.size false).getD i false=false:=fun i=>by
  rw[Array.getD_eq_getD_getElem?]
  by_cases h:i<ops.size<;>simp[h]
 refine wp_region_any (by kernel_rfl) (any_inv (I:=fun l a w=>l.size=ops.size∧((l.getD L false=false∧Closed .any ops l∧Below W.drew.heap.size W.drew w∧∃x,a=frN n (sl x f KS)∧∀i,l.getD i false=true→(i=d→l.getD e false=false)→(ks.getD i .top).In (x i) w)∨((∀i,i<ops.size→l.getD i false=true)∧Q .normal a w))) ?_ ?_ _ _ _ _ (cntF_repl _) ⟨by simp,.inl ⟨hrep L,fun j hj=>(by rw[hrep]at hj;cases hj),Below.refl _ _,_,rfl,fun i hi=>by rw[hrep]at hi;cases hi⟩⟩)
 ·rintro l a w i ⟨hl,h⟩ hi
  have hif:=ready_false hi
  have hil:i<l.size:=(Array.getElem?_eq_some_iff.1 hif).1
  have ho:ops[i]? =some ops[i]:=Array.getElem?_eq_getElem (by omega)
  have hig:l.getD i false=false:=by rw[Array.getD_eq_getD_getElem?,hif];rfl
  rcases h with ⟨hLf,hcl,hB,x,rfl,hx⟩ | ⟨hall,hq⟩
  ·by_cases hiL:i=L
   ·subst hiL
    have hcl2:=hcl.set ho hi hil
    have hothers:∀(n j:Nat),i-j<n→j<i→(l.setIfInBounds i true).getD j false=true:=by
     intro n
     induction n with
     |zero=>intro j hj;omega
     |succ n ih =>
      intro j hj hji
      have h1:=List.all_eq_true.1 hto j (List.mem_range.2 hji)
      obtain ⟨k,hk,hk2⟩:=List.any_eq_true.1 h1
      rw[Bool.and_eq_true]at hk2
      have hjk:=of_decide_eq_true hk2.1
      have hks:=List.mem_range.1 hk
      refine hcl2 k ?_ j hk2.2
      by_cases hki:k=i
      ·subst hki;exact getD_set_same hil
      ·exact ih k (by omega) (by omega)
    refine wpOp_mono (fun a' w' h' =>⟨by simp[hl],.inr ⟨fun j hj=> ?_,h'⟩⟩) (last _ x w ho hB (fun j hj hd=>hx j ?_ (fun h=>absurd h hd)))
    ·by_cases hji:j=i
     ·subst hji;exact getD_set_same hil
     ·exact hothers (i-j+1) j (by omega) (by omega)
    ·have:=hothers (i-j+1) j (by omega) hj
     rwa [getD_set (by omega)]at this
   ·have h1:=stepsD_at ops.toList 0 L hst i ops[i] (by omega) (by simp)
    rw[Nat.zero_add]at h1
    have hdep:=fun j (hj:waits ops[i] j=true)=>deps_waits (o:=ops[i]) (C:=fun j=>l.getD j false=true) rfl (fun e he hb=>ready_deps hi ho e he hb) j hj
    by_cases hie:i=e
    ·subst hie
     rw[if_pos rfl]at h1
     refine h1 x w _ hB (fun j hj=>hx j (hdep j hj) (fun _=>hig)) (fun v w' hv hw=> ?_) ho
     rw[fit_put hfit f i _ x v ho]
     refine ⟨by simp[hl],.inl ⟨by rw[getD_set (by omega)];exact hLf,hcl.set ho hi hil,hw,_,rfl,fun j hj hjd=> ?_⟩⟩
     unfold upd
     by_cases hji:j=i
     ·subst hji
      rw[if_pos rfl]
      exact hv
     ·rw[if_neg hji]
      have hjd2:j≠d:=fun h=>by have:=hjd h;rw[getD_set_same hil]at this;cases this
      exact hks j hjd2 hji _ _ _ (hx j (by rwa [getD_set hji]at hj) (fun h=>absurd h hjd2)) hw
    ·rw[if_neg hie]at h1
     refine h1 x w _ hB (fun j hjd hj=>hx j (hdep j hj) (fun h=>absurd h hjd)) (fun v w' hv hw=> ?_) ho
     rw[fit_put hfit f i _ x v ho]
     refine ⟨by simp[hl],.inl ⟨by rw[getD_set (by omega)];exact hLf,hcl.set ho hi hil,below_step hB hw,_,rfl,fun j hj hjd=> ?_⟩⟩
     unfold upd
     by_cases hji:j=i
     ·subst hji
      rw[if_pos rfl]
      exact hv
     ·rw[if_neg hji]
      refine (ks.getD j .top).st _ _ _ (hx j (by rwa [getD_set hji]at hj) (fun h=> ?_)) hw
      have:=hjd h
      rwa [getD_set (Ne.symm hie)]at this
  ·exfalso
   rw[hall i (by omega)]at hig
   cases hig
 ·rintro l a w ⟨hl,h⟩ hr
  rcases h with ⟨hLf,_⟩ | ⟨_,hq⟩
  ·have:=all_of_none hl hlow hr (L+1) L (by omega) (by omega)
   rw[hLf]at this
   cases this
  ·exact hq
end
end
section
attribute [local go_sem] Oper.semAt_some
theorem TreeF.step {w W:World} {ok:Nat→Prop} {t:S30} {A1:Option Addr} {c1:Nat} {A2:Option Addr} {c2:Nat} (h:TreeF w ok t A1 c1 A2 c2) (hB:∀k,ok k→k<w.heap.size→W.heap[k]? =w.heap[k]?):TreeF W ok t A1 c1 A2 c2:=⟨h.l1,Kd.F_step h.v hB,h.l2,Kd.F_step h.k hB⟩
theorem TreeF.mono {w:World} {ok ok' :Nat→Prop} {t:S30} {A1:Option Addr} {c1:Nat} {A2:Option Addr} {c2:Nat} (h:TreeF w ok t A1 c1 A2 c2) (ho:∀k,ok k→k<w.heap.size→ok' k):TreeF w ok' t A1 c1 A2 c2:=⟨h.l1,Kd.F_mono (Kd.F_bound h.v) (fun k hk=>ho k hk.1 hk.2),h.l2,Kd.F_mono (Kd.F_bound h.k) (fun k hk=>ho k hk.1 hk.2)⟩
def Kn.tup (ok:Nat→Prop) (t:S30):Kn:=⟨fun v w=>∃A a B b,v= .tuple #[.agg #[.string t.f0,.slice A t.f1.length a,.slice B t.f2.length b],.bool true]∧TreeF w ok t A a B b,fun _ _ _ h hB=>by
 obtain ⟨A,a,B,b,e,h⟩:=h
 exact ⟨A,a,B,b,e,h.step fun k _ hk=>hB.block k hk⟩⟩
def Kn.tre (ok:Nat→Prop) (t:S30):Kn:=⟨fun v w=>∃A a B b,v= .agg #[.string t.f0,.slice A t.f1.length a,.slice B t.f2.length b]∧TreeF w ok t A a B b,fun _ _ _ h hB=>by
 obtain ⟨A,a,B,b,e,h⟩:=h
 exact ⟨A,a,B,b,e,h.step fun k _ hk=>hB.block k hk⟩⟩
theorem op_run21 {a:Act} {o:Oper} {w:World} {k1 k2:Tmp} {ts:Array TypeId} {u1 u2:Value} (ho:o.op= .call {callee:= .value (.func 21),args:= #[.tmp k1,.tmp k2],argTypes:=ts}) (h1:a.tmps[k1]?.getD undef=u1) (h2:a.tmps[k2]?.getD undef=u2):(execOp a.eval o).run Tryz.prog w= .ok (.enter 21 #[u1,u2]) w:=by
 have he:=enters_of Tryz.func21 (by kernel_rfl) rfl #[u1,u2] w
 unfold execOp
 rw[ho]
 go_simp
set_option maxHeartbeats 2000000 in
set_option maxRecDepth 100000 in
theorem with_reg11 {Q:Exit→Act→World→Prop} (t np x:S30) (hl:0<t.f2.length) (w0 W:World) (h0:Below w0.heap.size w0 W) (bt bn b8:Nat) (A1:Option Addr) (c1:Nat) (A2:Option Addr) (c2:Nat) (N1:Option Addr) (n1:Nat) (N2:Option Addr) (n2:Nat) (tv:TreeV w0 t A1 c1 A2 c2) (xt:W.heap[bt]? =some (.cells #[.string t.f0,.slice A1 t.f1.length c1,.slice A2 t.f2.length c2] 30 (0,0))) (xn:W.heap[bn]? =some (.cells #[.string np.f0,.slice N1 np.f1.length n1,.slice N2 np.f2.length n2] 30 (0,0))) (x8:∃y0 y1 y2,W.heap[b8]? =some (.cells #[y0,y1,y2] 30 (0,0))) (h8:w0.heap.size≤b8)
  (ih:∀(B1:Option Addr) (d1:Nat) (B2:Option Addr) (d2:Nat) (V:World),Below w0.heap.size w0 V→TreeV w0 (kidOf t 0) B1 d1 B2 d2→Calls Tryz.prog 21 #[.agg #[.string (kidOf t 0).f0,.slice B1 (kidOf t 0).f1.length d1,.slice B2 (kidOf t 0).f2.length d2],.agg #[.string np.f0,.slice N1 np.f1.length n1,.slice N2 np.f2.length n2]] V (WithRet w0 V (some x)))
  (f:Nat→Value) (f2:f 2= .pointer (some ⟨bt,0,none⟩)) (f3:f 3= .pointer (some ⟨bn,0,none⟩)) (f8:f 8= .pointer (some ⟨b8,0,none⟩))
  (k:∀g V X1 e1 X2 e2,g 2=f 2→g 4=f 4→g 8=f 8→V.heap[b8]? =some (.cells #[.string x.f0,.slice X1 x.f1.length e1,.slice X2 x.f2.length e2] 30 (0,0))→(∀j,j<W.heap.size→j≠b8→V.heap[j]? =W.heap[j]?)→(∀B,B≤b8→Below B W V)→TreeF V (fun k=>k<w0.heap.size∨W.heap.size≤k) x X1 e1 X2 e2→Q .normal (frN 45 g) V) :
  Code.wp Tryz.prog (.region 11 (opsOf Tryz.f21 11) true) Q (frN 45 f) W:=by
 obtain ⟨ad,B1,d1,B2,d2,e,y0,y1,y2,hl1,hi1,hl2,hi2⟩:=at_T30 tv.k 0 (by omega) (by omega)
 subst e
 obtain ⟨z0,z1,z2,x8⟩:=x8
 simp only[opsOf,Tryz.f21,Option.bind_some,opsIn,Option.getD_some,Option.orElse,reduceIte,Nat.reduceEqDiff,Option.or_some,Option.none_or,Option.some_or,beq_iff_eq,Nat.reduceBEq,Bool.false_eq_true]
 have b2:∀{V},Below W.drew.heap.size W.drew V→Below W.heap.size W V:=fun hB=>below_step (below_drew (Below.refl _ _)) hB
 have b0:∀{V},Below W.drew.heap.size W.drew V→Below w0.heap.size w0 V:=fun hB=>below_step h0 (b2 hB)
 refine region_kl 9 45 (fun j=>j == 8) 0 7 [.is (.pointer (some ⟨bt,2,none⟩)),.is (.slice (some ad) t.f2.length c2),.is (.pointer (some (ad.add ((0:Int).toNat*3)))),.is (.agg #[.string (kidOf t 0).f0,.slice B1 (kidOf t 0).f1.length d1,.slice B2 (kidOf t 0).f2.length d2]),.is (.agg #[.string np.f0,.slice N1 np.f1.length n1,.slice N2 np.f2.length n2]),.tup (fun k=>k<w0.heap.size∨W.heap.size≤k) x,.tup (fun k=>k<w0.heap.size∨W.heap.size≤k) x,.tre (fun k=>k<w0.heap.size∨W.heap.size≤k) x,.top,.top] (fun i v=>i=6→∃u,v= .tuple #[u,.bool true]) [28,29,30,31,32,33,27,34,35,909] f W
  (fun v V=>∃X1 e1 X2 e2,V.heap[b8]? =some (.cells #[.string x.f0,.slice X1 x.f1.length e1,.slice X2 x.f2.length e2] 30 (0,0))∧(∀j,j<W.heap.size→j≠b8→V.heap[j]? =W.heap[j]?)∧(∀B,B≤b8→Below B W V)∧TreeF V (fun k=>k<w0.heap.size∨W.heap.size≤k) x X1 e1 X2 e2) (by decide) (by kernel_rfl) (by kernel_rfl) (by kernel_rfl) (by kernel_rfl) rfl (by decide) ?_ ⟨
  fun q V J hB hq h hi=>op_fa (c:=2) hi rfl rfl f2 (h _ _ rfl (.refl _ _)),
  fun q V J hB hq h hi=>op_ld28 hi rfl rfl (hq 0 rfl) (blk_cell (blk_below xt (b2 hB)) 2) (h _ _ rfl (.refl _ _)),
  fun q V J hB hq h hi=>op_ix hi rfl rfl (eq_true (by decide)) (eq_true (by omega)) (hq 1 rfl) (h _ _ rfl (.refl _ _)),
  fun q V J hB hq h hi=>op_ldT hi rfl rfl (hq 2 rfl) (pw_cell_below (b0 hB) y0) (pw_cell_below (b0 hB) y1) (pw_cell_below (b0 hB) y2) (h _ _ rfl (.refl _ _)),
  fun q V J hB hq h hi=>op_ldT (ad:=⟨bn,0,none⟩) hi rfl rfl f3 (blk_cell (blk_below xn (b2 hB)) 0) (blk_cell (blk_below xn (b2 hB)) 1) (blk_cell (blk_below xn (b2 hB)) 2) (h _ _ rfl (.refl _ _)),
  fun q V J hB hq h hi=>op_call hi (wanted_none rfl) (op_run21 rfl (hq 3 rfl) (hq 4 rfl)) ((ih B1 d1 B2 d2 V (b0 hB) ⟨hl1,hi1,hl2,hi2⟩).mono fun e w' hr=> ?_),
  fun q V J hB hq h hi=>op_mv hi rfl rfl rfl (h _ _ (hq 5 rfl) (.refl _ _)),
  fun q V J hB hq h hi=> ?_,
  fun q V J hB hq h hi=> ?_,trivial⟩ ?_ ?_ ?_
 ·intro i v V h hi
  subst hi
  obtain ⟨A,a,B,b,e,_⟩:=h
  exact ⟨_,e⟩
 ·obtain ⟨hb,Y1,g1,Y2,g2,rfl,hx⟩:=hr
  exact ⟨_,rfl,h _ _ ⟨Y1,g1,Y2,g2,rfl,hx.mono (fun k hk _=>hk.imp id (Nat.le_trans (b2 hB).size))⟩ hb⟩
 ·obtain ⟨Y1,g1,Y2,g2,e,hx⟩:=hq 6 rfl
  exact op_ext hi rfl rfl e rfl (h _ _ ⟨Y1,g1,Y2,g2,rfl,hx⟩ (.refl _ _))
 ·obtain ⟨Y1,g1,Y2,g2,e,hx⟩:=hq 6 rfl
  exact op_ext hi rfl rfl e rfl (h _ _ trivial (.refl _ _))
 ·intro o q V J hi hB hq h
  injection hi with hi
  subst hi
  obtain ⟨Y1,g1,Y2,g2,e,hx⟩:=hq 7 (by decide) (by decide)
  refine op_st30 rfl rfl rfl rfl f8 e (blk_below x8 (b2 hB)) fun w' h1 h2 h3=>h undef w' ⟨Y1,g1,Y2,g2,h1,fun j hj hn=>(h2 j hn).trans ((b2 hB).block j hj),fun B hb=>((b2 hB).mono (Nat.le_trans hb (Nat.le_of_lt (blk_lt x8)))).trans (h3 B hb),hx.step fun k hk hlt=>h2 k ?_⟩
  have:=blk_lt x8
  rcases hk with hk | hk<;>omega
 ·intro i o q V J hl' hi hd h
  rcases hl' with hl' | hl'
  ·obtain rfl:i=8:=by simpa using hl'
   injection hi with hi
   subst hi
   obtain ⟨u,e⟩:=hd 6 rfl (by decide) rfl
   exact op_ext rfl rfl rfl e rfl (h _ (fun h=>absurd h (by decide)))
  ·rw[Array.getElem?_eq_none (by simp;omega)]at hi
   cases hi
 ·rintro q V ⟨X1,e1,X2,e2,h1,h2,h3,h4⟩
  exact k _ V X1 e1 X2 e2 rfl rfl rfl h1 h2 h3 h4
end
section
attribute [local go_sem] Oper.semAt_some
theorem N_one {α:Type} {d:Kd α} {e g:Nat} {w:World} {ok:Nat→Prop} {x:α} {c:List Value} (hg:w.heap[g]? =some (.cells c.toArray e (0,0))) (hf:Kd.FK d w (fun k=>ok k∧k≠g) x c) (hok:ok g):Kd.N d e w 0 ok (.slice (some ⟨g,0,none⟩) 1 1) [x]:=by
 refine ⟨fun k hk=> ?_,[c],rfl,⟨fun k hk=>hk.symm,c,block_own hg (by rw[Nat.one_mul];exact d.K_len (Kd.FK_now hf)) (by omega),A.reps_one (Kd.FK_raw hf) (d.K_len (Kd.FK_now hf))⟩,fun j y c' hy hc=> ?_⟩
 ·simp[Value.ownBlock]at hk
  subst hk
  exact hok
 ·match j,hy,hc with
  |0,hy,hc =>
   simp at hy hc
   subst hy
   subst hc
   exact Kd.FK_mono hf (fun k hk=>⟨hk.1,fun h=>hk.2 (by simpa[Value.ownBlock]using h)⟩)
  |j+1,hy,_=>simp at hy
def Kn.one (N:Nat) (cs:Array Value):Kn:=⟨fun v w=>∃g,v= .slice (some ⟨g,0,none⟩) 1 1∧N≤g∧w.heap[g]? =some (.cells cs 30 (0,0)),fun _ _ _ h hB=>by
 obtain ⟨g,e,h1,h2⟩:=h
 exact ⟨g,e,h1,blk_below h2 hB⟩⟩
def Kn.rows (ok:Nat→Prop) (xs:List S30):Kn:=⟨fun v w=>∃A c,v= .slice A xs.length c∧xs.length≤c∧Kd.F k30 w ok A xs.length xs,fun _ _ _ h hB=>by
 obtain ⟨A,c,e,h1,h2⟩:=h
 exact ⟨A,c,e,h1,Kd.F_step h2 fun k _ hk=>hB.block k hk⟩⟩
section
variable {ops:Array Oper} {Q:Exit→Act→World→Prop} {i:Nat} {o:Oper} {J:Act→World→Prop} {a:Act} {w:World}
theorem op_row30 {k:Tmp} {x0 x1 x2:Value} (hi:ops[i]? =some o) (hg:o.guard=none) (ho:o.op= .buildSlice 28 1 #[(0,.tmp k)]) (ha:a.tmps[k]?.getD undef= .agg #[x0,x1,x2]) (h:J (a.put o.dst (.slice (some ⟨w.heap.size,0,none⟩) 1 1)) (w.alloc (.cells #[x0,x1,x2] 30 (0,0)))):wpOp Tryz.prog ops Q i J a w:=by
 refine op_value hi (wanted_none hg) ?_ h
 unfold execOp
 rw[ho]
 go_simp
theorem op_sl1 {k:Tmp} {ad:Addr} {n c2:Nat} (hi:ops[i]? =some o) (hg:o.guard=none) (ho:o.op= .slice 28 (.tmp k) (some (.const (.int .i64 1))) none none) (ha:a.tmps[k]?.getD undef= .slice (some ad) n c2) (h1:0<n) (h2:n≤c2) (h:J (a.put o.dst (.slice (if c2=1 then some ad else some ⟨ad.block,ad.off+3,none⟩) (n-1) (c2-1))) w):wpOp Tryz.prog ops Q i J a w:=by
 have hk1:(1:Int)≤(n:Int):=by omega
 refine op_value hi (wanted_none hg) (w' :=w) ?_ h
 unfold execOp
 rw[ho]
 go_simp
theorem op_stc {k k2:Tmp} {g j e:Nat} {A:Option Addr} {n c:Nat} {cs:Array Value} {y:Value} (hi:ops[i]? =some o) (hg:o.guard=none) (hd:o.dst=none) (ho:o.op= .store 28 (.tmp k) (.tmp k2)) (ha:a.tmps[k]?.getD undef= .pointer (some ⟨g,j,none⟩)) (ha2:a.tmps[k2]?.getD undef= .slice A n c) (hz:w.heap[g]? =some (.cells cs e (0,0))) (hj:cs[j]? =some y)
  (h:J a (w.setCell ⟨g,j,none⟩ (.slice A n c))):wpOp Tryz.prog ops Q i J a w:=by
 have f0:=blk_frozen hz j
 have z0:=(blk_cell hz j).trans hj
 have hput:a.put none undef=a:=rfl
 refine wpOp_step hi (fun K hK=> ?_)
 have hk:=hK _ _ h
 rw[if_pos (wanted_none hg)]
 unfold Oper.wp execOp
 rw[ho]
 go_simp
 exact hk
end
set_option maxHeartbeats 2000000 in
set_option maxRecDepth 100000 in
theorem with_reg13 {Q:Exit→Act→World→Prop} (t x:S30) (hl:0<t.f2.length) (hm:t.f2.length≤2000000) (w0 W:World) (h0:Below w0.heap.size w0 W) (bt b8 b9 M:Nat) (A1:Option Addr) (c1:Nat) (A2:Option Addr) (c2:Nat) (tv:TreeV w0 t A1 c1 A2 c2) (X1:Option Addr) (e1:Nat) (X2:Option Addr) (e2:Nat) (xt:W.heap[bt]? =some (.cells #[.string t.f0,.slice A1 t.f1.length c1,.slice A2 t.f2.length c2] 30 (0,0))) (x8:W.heap[b8]? =some (.cells #[.string x.f0,.slice X1 x.f1.length e1,.slice X2 x.f2.length e2] 30 (0,0))) (x9:W.heap[b9]? =some (.cells #[.string t.f0,.slice A1 t.f1.length c1,.slice A2 t.f2.length c2] 30 (0,0))) (hM:w0.heap.size≤M) (hM9:M≤b9) (tx:TreeF W (fun k=>k<w0.heap.size∨M≤k∧k≠b9) x X1 e1 X2 e2)
  (f:Nat→Value) (f2:f 2= .pointer (some ⟨bt,0,none⟩)) (f8:f 8= .pointer (some ⟨b8,0,none⟩)) (f9:f 9= .pointer (some ⟨b9,0,none⟩))
  (k:∀g V A3 c3,g 4=f 4→g 9=f 9→V.heap[b9]? =some (.cells #[.string t.f0,.slice A1 t.f1.length c1,.slice A3 (x::t.f2.drop 1).length c3] 30 (0,0))→(∀j,j<W.heap.size→j≠b9→V.heap[j]? =W.heap[j]?)→(∀B,B≤b9→Below B W V)→(x::t.f2.drop 1).length≤c3→Kd.F k30 V (fun k=>k<w0.heap.size∨M≤k∧k≠b9) A3 (x::t.f2.drop 1).length (x::t.f2.drop 1)→Q .normal (frN 45 g) V) :
  Code.wp Tryz.prog (.region 13 (opsOf Tryz.f21 13) true) Q (frN 45 f) W:=by
 obtain ⟨ad,rfl,_⟩:=tv.k.2.2 hl
 have h9:=blk_lt x9
 simp only[opsOf,Tryz.f21,Option.bind_some,opsIn,Option.getD_some,Option.orElse,reduceIte,Nat.reduceEqDiff,Option.or_some,Option.none_or,Option.some_or,beq_iff_eq,Nat.reduceBEq,Bool.false_eq_true]
 have b2:∀{V},Below W.drew.heap.size W.drew V→Below W.heap.size W V:=fun hB=>below_step (below_drew (Below.refl _ _)) hB
 have b0:∀{V},Below W.drew.heap.size W.drew V→Below w0.heap.size w0 V:=fun hB=>below_step h0 (b2 hB)
 have HFT:=Kd.F_cut (Kd.C_F k30_heap tv.k) (m:=1) hl tv.l2
 have HA:(if c2=1 then some ad else Option.map (fun x=>x.add (1*k30.sz)) (some ad))=(if c2=1 then some ad else some ⟨ad.block,ad.off+3,none⟩):=by split;rfl;exact congrArg some ((add_field ad 0 3 (by omega)).trans (by rw[Addr.add_zero']))
 have hlen:(t.f2.drop 1).length=t.f2.length-1:=List.length_drop
 rw[HA,hlen]at HFT
 have hw0:=h0.size
 refine region_ke 7 45 1 5 [.is (.agg #[.string x.f0,.slice X1 x.f1.length e1,.slice X2 x.f2.length e2]),.one W.heap.size #[.string x.f0,.slice X1 x.f1.length e1,.slice X2 x.f2.length e2],.is (.pointer (some ⟨bt,2,none⟩)),.is (.slice (some ad) t.f2.length c2),.is (.slice (if c2=1 then some ad else some ⟨ad.block,ad.off+3,none⟩) (t.f2.length-1) (c2-1)),.rows (fun k=>k<w0.heap.size∨M≤k∧k≠b9) (x::t.f2.drop 1),.is (.pointer (some ⟨b9,2,none⟩))] [37,38,39,40,41,42,43,907] f W rfl (by kernel_rfl) (by kernel_rfl) (by kernel_rfl) ?_ (by decide) ⟨
  fun q V J hB hq h hi=>op_ldT (ad:=⟨b8,0,none⟩) hi rfl rfl f8 (blk_cell (blk_below x8 (b2 hB)) 0) (blk_cell (blk_below x8 (b2 hB)) 1) (blk_cell (blk_below x8 (b2 hB)) 2) (h _ _ rfl (.refl _ _)),
  fun q V J hB hq h hi=>op_row30 hi rfl rfl (hq 0 (by decide) rfl) (h _ _ ⟨_,rfl,(b2 hB).size,blk_new V _⟩ (below_alloc (.refl _ _) _)),
  fun q V J hB hq h hi=>op_fa (c:=2) hi rfl rfl f2 (h _ _ rfl (.refl _ _)),
  fun q V J hB hq h hi=>op_ld28 hi rfl rfl (hq 2 (by decide) rfl) (blk_cell (blk_below xt (b2 hB)) 2) (h _ _ rfl (.refl _ _)),
  fun q V J hB hq h hi=>op_sl1 hi rfl rfl (hq 3 (by decide) rfl) hl tv.l2 (h _ _ rfl (.refl _ _)),
  fun q V J hB hq h hi=> ?_,
  fun q V J hB hq h hi=>op_fa (c:=2) hi rfl rfl f9 (h _ _ rfl (.refl _ _)),trivial⟩ ?_
 ·intro j hd he v w w' h hB
  match j,hd,he,h with
  |0,_,_,h=>exact h
  |2,_,_,h=>exact h
  |3,_,_,h=>exact h
  |4,_,_,h=>exact h
  |6,_,_,h=>exact h
  |j+7,_,_,h=>exact h
 ·obtain ⟨g,ea,hg,hb⟩:=hq 1 rfl
  have eb:=hq 4 rfl
  have hx:=(tx.mono (ok' :=fun k=>(k<w0.heap.size∨M≤k∧k≠b9)∧k≠g) (fun k hk hlt=>⟨hk,by omega⟩)).step (fun k _ hlt=>(b2 hB).block k hlt)
  refine wpOp_step hi (fun K hK=> ?_)
  refine Kd.N_append_rows_step k30 (w0:=V) 0 (wanted_none rfl) _ _ 28 30 (.agg #[.string ⟨#[]⟩,.slice none 0 0,.slice none 0 0]) 64 rfl Tryz.underlying28 (by kernel_rfl) rfl (by decide) (by decide) (.slice (some ⟨g,0,none⟩) 1 1) [x] (t.f2.drop 1) (if c2=1 then some ad else some ⟨ad.block,ad.off+3,none⟩) (t.f2.length-1) (c2-1) (fun k=>k<w0.heap.size∨M≤k∧k≠b9) (fun k=>k<w0.heap.size) ea eb (N_one (d:=k30) (c:=[.string x.f0,.slice X1 x.f1.length e1,.slice X2 x.f2.length e2]) hb (k30_mkF _ _ x hx.l1 hx.v hx.l2 hx.k) (.inr ⟨by omega,by omega⟩)) (Kd.F_step HFT (fun k hk _=>(b0 hB).block k hk)) (fun k hk=>⟨.inl hk,by simp[Value.ownBlock];omega⟩) (fun k hk=> .inr (by have:=(b2 hB).size;omega)) (Below.refl 0 _) (Nat.zero_le _) (by simp;omega) ?_
  intro v1 w1 hN _ hgr _
  obtain ⟨A3,c3,rfl,hle,_⟩:=Kd.N_reads hN
  refine hK _ _ (h _ _ ⟨A3,c3,rfl,hle,Kd.N_F hN⟩ (hB.grown hgr hB.size (fun k hk=> ?_)))
  simp[Value.ownBlock]at hk
  show W.heap.size≤k
  omega
 ·intro o q V hi hB hx
  injection hi with hi
  subst hi
  obtain ⟨A3,c3,e5,hle,hF⟩:=hx 5 (by decide) (by decide)
  refine op_stc rfl rfl rfl rfl (hx 6 (by decide) (by decide)) e5 (blk_below x9 (b2 hB)) rfl ?_
  exact k _ _ A3 c3 rfl rfl (blk_put (blk_below x9 (b2 hB)) 2 _ rfl) (fun j hj hn=>(Below.heap_setCell _ ⟨b9,2,none⟩ _ j hn).trans ((b2 hB).block j hj)) (fun B hb=>((b2 hB).mono (by omega)).setCell (p:=⟨b9,2,none⟩) hb _) hle (Kd.F_step hF fun k hk _=>Below.heap_setCell _ ⟨b9,2,none⟩ _ k (by show k≠b9;omega))
end
section
attribute [local go_sem] Oper.semAt_some
structure EntW (w W:World) (t:S30) (A1:Option Addr) (c1:Nat) (A2:Option Addr) (c2:Nat) (np:S30) (N1:Option Addr) (n1:Nat) (N2:Option Addr) (n2:Nat):Prop where
 bt:W.heap[w.heap.size]? =some (.cells #[.string t.f0,.slice A1 t.f1.length c1,.slice A2 t.f2.length c2] 30 (0,0))
 bn:W.heap[w.heap.size+1]? =some (.cells #[.string np.f0,.slice N1 np.f1.length n1,.slice N2 np.f2.length n2] 30 (0,0))
 br:W.heap[w.heap.size+1+1]? =some (.cells #[.string ⟨#[]⟩,.slice none 0 0,.slice none 0 0] 30 (0,0))
 low:Below w.heap.size w W
 sz:w.heap.size+3≤W.heap.size
theorem entW_mk (w:World) (t:S30) (A1:Option Addr) (c1:Nat) (A2:Option Addr) (c2:Nat) (np:S30) (N1:Option Addr) (n1:Nat) (N2:Option Addr) (n2:Nat):EntW w (((w.alloc (.cells #[.string t.f0,.slice A1 t.f1.length c1,.slice A2 t.f2.length c2] 30)).alloc (.cells #[.string np.f0,.slice N1 np.f1.length n1,.slice N2 np.f2.length n2] 30)).alloc (.cells #[.string ⟨#[]⟩,.slice none 0 0,.slice none 0 0] 30)) t A1 c1 A2 c2 np N1 n1 N2 n2 :=
 ⟨blk_alloc (blk_alloc (blk_new w _) _) _,blk_alloc (new2 w _ _) _,(by
  have h:=heap_alloc_new ((w.alloc (.cells #[.string t.f0,.slice A1 t.f1.length c1,.slice A2 t.f2.length c2] 30)).alloc (.cells #[.string np.f0,.slice N1 np.f1.length n1,.slice N2 np.f2.length n2] 30)) (.cells #[.string ⟨#[]⟩,.slice none 0 0,.slice none 0 0] 30)
  rw[show ((w.alloc (.cells #[.string t.f0,.slice A1 t.f1.length c1,.slice A2 t.f2.length c2] 30)).alloc (.cells #[.string np.f0,.slice N1 np.f1.length n1,.slice N2 np.f2.length n2] 30)).heap.size=w.heap.size+1+1 by simp]at h
  exact h),below_alloc (below_alloc (below_alloc (Below.refl _ _) _) _) _,Nat.le_of_eq (by simp)⟩
theorem EntW.below {w W V:World} {t:S30} {A1:Option Addr} {c1:Nat} {A2:Option Addr} {c2:Nat} {np:S30} {N1:Option Addr} {n1:Nat} {N2:Option Addr} {n2:Nat} (E:EntW w W t A1 c1 A2 c2 np N1 n1 N2 n2) (hB:Below W.heap.size W V):EntW w V t A1 c1 A2 c2 np N1 n1 N2 n2:=⟨blk_below E.bt hB,blk_below E.bn hB,blk_below E.br hB,below_step E.low hB,Nat.le_trans E.sz hB.size⟩
theorem frN45 (g:Nat→Value):frN 45 g={tmps:= #[g 0,g 1,g 2,g 3,g 4,g 5,g 6,g 7,g 8,g 9,g 10,g 11,g 12,g 13,g 14,g 15,g 16,g 17,g 18,g 19,g 20,g 21,g 22,g 23,g 24,g 25,g 26,g 27,g 28,g 29,g 30,g 31,g 32,g 33,g 34,g 35,g 36,g 37,g 38,g 39,g 40,g 41,g 42,g 43,g 44],defers:=[]}:=rfl
set_option maxHeartbeats 2000000 in
set_option maxRecDepth 100000 in
theorem with_modal (t np s:S30) (hs:subjP t=some s) (h1:passF t.f0=false) (hl:0<t.f2.length) (w0 w:World) (h0:Below w0.heap.size w0 w) (A1:Option Addr) (c1:Nat) (A2:Option Addr) (c2:Nat) (N1:Option Addr) (n1:Nat) (N2:Option Addr) (n2:Nat) (tv:TreeV w0 t A1 c1 A2 c2) (nv:TreeV w0 np N1 n1 N2 n2) (hm:t.f2.length≤2000000) (r:Option S30) (hr:r=some ⟨t.f0,t.f1,np::t.f2.drop 1⟩) :
  Calls Tryz.prog 21 #[.agg #[.string t.f0,.slice A1 t.f1.length c1,.slice A2 t.f2.length c2],.agg #[.string np.f0,.slice N1 np.f1.length n1,.slice N2 np.f2.length n2]] w (WithRet w0 w r):=by
 obtain ⟨ad,rfl,_⟩:=tv.k.2.2 hl
 have E:=entW_mk w t A1 c1 (some ad) c2 np N1 n1 N2 n2
 have C:=Aside0.mk (subj_calls (nodes t) t (Nat.le_refl _) w0 _ A1 c1 (some ad) c2 (below_step h0 E.low) tv)
 rw[hs]at C
 have k0:=blk_cell E.bt 0
 have k1:=blk_cell E.bt 1
 have k2:=blk_cell E.bt 2
 simp at k0 k1 k2
 replace E:=Aside0.mk E
 have HR:=Aside0.mk hr
 have H0:=Aside0.mk h0
 have TV:=Aside0.mk tv
 have NV:=Aside0.mk nv
 have HL:=Aside0.mk hl
 have HM:=Aside0.mk hm
 unfold passF at h1
 simp only[Bool.or_eq_false_iff]at h1
 obtain ⟨⟨⟨⟨q0,q1⟩,q2⟩,q3⟩,q4⟩:=h1
 clear hs hr tv nv h0 hl hm
 go_enter Tryz.func21,Tryz.ntmps21
 go_wp2_with (go_at_call 19;refine C.out.mono ?_;rintro e w1 ⟨hB2,E1,x1,E2,x2,rfl,hsv⟩;have HB2:=Aside0.mk hB2;have E5:=E.out.below hB2;have m0:=fun (o:Obj)=>blk_cell (blk_alloc E5.bn o) 0;have m1:=fun (o:Obj)=>blk_cell (blk_alloc E5.bn o) 1;have m2:=fun (o:Obj)=>blk_cell (blk_alloc E5.bn o) 2;have p0:=fun (o o' :Obj)=>blk_cell (blk_alloc (blk_alloc E5.bt o) o') 0;have p1:=fun (o o' :Obj)=>blk_cell (blk_alloc (blk_alloc E5.bt o) o') 1;have p2:=fun (o o' :Obj)=>blk_cell (blk_alloc (blk_alloc E5.bt o) o') 2;simp at m0 m1 m2 p0 p1 p2;clear hB2 hsv E5)
 clear m0 m1 m2 p0 p1 p2 q0 q1 q2 q3 q4 k0 k1 k2
 have EW:=(((E.out.below HB2.out).below (below_alloc (.refl _ _) (.cells #[.string s.f0,.slice E1 s.f1.length x1,.slice E2 s.f2.length x2] 30))).below (below_alloc (.refl _ _) (.cells #[.string np.f0,.slice N1 np.f1.length n1,.slice N2 np.f2.length n2] 30))).below (below_alloc (.refl _ _) (.cells #[.string t.f0,.slice A1 t.f1.length c1,.slice (some ad) t.f2.length c2] 30))
 have X8:=blk_alloc (new2 w1 (.cells #[.string s.f0,.slice E1 s.f1.length x1,.slice E2 s.f2.length x2] 30 (0,0)) (.cells #[.string np.f0,.slice N1 np.f1.length n1,.slice N2 np.f2.length n2] 30 (0,0))) (.cells #[.string t.f0,.slice A1 t.f1.length c1,.slice (some ad) t.f2.length c2] 30 (0,0))
 have X9:=show (((w1.alloc (.cells #[.string s.f0,.slice E1 s.f1.length x1,.slice E2 s.f2.length x2] 30)).alloc (.cells #[.string np.f0,.slice N1 np.f1.length n1,.slice N2 np.f2.length n2] 30)).alloc (.cells #[.string t.f0,.slice A1 t.f1.length c1,.slice (some ad) t.f2.length c2] 30)).heap[w1.heap.size+1+1]? =some (.cells #[.string t.f0,.slice A1 t.f1.length c1,.slice (some ad) t.f2.length c2] 30 (0,0))from (show ((w1.alloc (.cells #[.string s.f0,.slice E1 s.f1.length x1,.slice E2 s.f2.length x2] 30)).alloc (.cells #[.string np.f0,.slice N1 np.f1.length n1,.slice N2 np.f2.length n2] 30)).heap.size=w1.heap.size+1+1 by simp)▸blk_new ((w1.alloc (.cells #[.string s.f0,.slice E1 s.f1.length x1,.slice E2 s.f2.length x2] 30)).alloc (.cells #[.string np.f0,.slice N1 np.f1.length n1,.slice N2 np.f2.length n2] 30)) (.cells #[.string t.f0,.slice A1 t.f1.length c1,.slice (some ad) t.f2.length c2] 30)
 have hw1:=Nat.le_trans E.out.sz HB2.out.size
 have hwz:=show (((w1.alloc (.cells #[.string s.f0,.slice E1 s.f1.length x1,.slice E2 s.f2.length x2] 30)).alloc (.cells #[.string np.f0,.slice N1 np.f1.length n1,.slice N2 np.f2.length n2] 30)).alloc (.cells #[.string t.f0,.slice A1 t.f1.length c1,.slice (some ad) t.f2.length c2] 30)).heap.size=w1.heap.size+3 by simp
 generalize hW2:((w1.alloc (.cells #[.string s.f0,.slice E1 s.f1.length x1,.slice E2 s.f2.length x2] 30)).alloc (.cells #[.string np.f0,.slice N1 np.f1.length n1,.slice N2 np.f2.length n2] 30)).alloc (.cells #[.string t.f0,.slice A1 t.f1.length c1,.slice (some ad) t.f2.length c2] 30)=W2 at *
 clear hW2
 have h9:w.heap.size+3≤w1.heap.size∧w1.heap.size+3=W2.heap.size:=⟨hw1,hwz.symm⟩
 have hb0:=below_step H0.out EW.low
 have hz0:=H0.out.size
 refine to_frN 45 rfl fun f hf=> ?_
 have q4:f 4=_:=hf 4
 have q9:f 9=_:=hf 9
 refine with_reg13 t np HL.out HM.out w0 W2 hb0 w.heap.size (w1.heap.size+1) (w1.heap.size+1+1) (w1.heap.size+1+1) A1 c1 (some ad) c2 TV.out N1 n1 N2 n2 EW.bt X8 X9 (by omega) (by omega) ⟨NV.out.l1,Kd.F_mono (Kd.F_step (Kd.C_F (Kd.heap_int .i64) NV.out.v) (fun k hk hlt=>hb0.block k hlt)) (fun k hk=> .inl hk),NV.out.l2,Kd.F_mono (Kd.F_step (Kd.C_F k30_heap NV.out.k) (fun k hk hlt=>hb0.block k hlt)) (fun k hk=> .inl hk)⟩ f (hf 2) (hf 8) q9 ?_
 intro g V A3 c3 g4 g9 z9 zj zb hle hF
 have ER:=Aside0.mk ((zj _ (by omega) (by omega)).trans EW.br)
 have HZ:=Aside0.mk z9
 have HB9:=Aside0.mk ((EW.low).trans (zb _ (by omega)))
 have HF:=Aside0.mk hF
 have HLE:=Aside0.mk hle
 rw[frN45]
 replace g4:=g4.trans q4
 replace g9:=g9.trans q9
 have a0:=blk_cell HZ.out 0
 have a1:=blk_cell HZ.out 1
 have a2:=blk_cell HZ.out 2
 have r0:=blk_cell ER.out 0
 have r1:=blk_cell ER.out 1
 have r2:=blk_cell ER.out 2
 have f0:=blk_frozen ER.out 0
 have f1:=blk_frozen ER.out 1
 have f2:=blk_frozen ER.out 2
 simp only[List.getElem?_toArray,List.getElem?_cons_zero,List.getElem?_cons_succ]at a0 a1 a2 r0 r1 r2
 have HX:=Aside0.mk EW
 have H9:=Aside0.mk h9
 clear z9 zj zb hle hF h9 EW
 go_wp2
 refine bodyPost_ret (results_list (rs:=[.cell 4 30,.tmp 5]) rfl (by simp) (.cell (w.heap.size+1+1) 30 _ (0,0) _ g4 (fin3 (W:=V) ER.out (.string t.f0) (.slice A1 t.f1.length c1) (.slice A3 _ c3)) Tryz.underlying30 rfl (by kernel_rfl) (.tmp .nil))) rfl ?_
 rw[HR.out]
 have hB:=fin3_below HB9.out (g:=w.heap.size+1+1) (by omega) (.string t.f0) (.slice A1 t.f1.length c1) (.slice A3 (np::t.f2.drop 1).length c3)
 have e9:(np::t.f2.drop 1).length=t.f2.length-1+1:=by simp
 have hy:=WithRet.yes (w0:=w0) (w:=w) (s:=⟨t.f0,t.f1,np::t.f2.drop 1⟩) hB ⟨TV.out.l1,Kd.F_mono (Kd.F_step (Kd.C_F (Kd.heap_int .i64) TV.out.v) (fun k hk hlt=>(below_step H0.out hB).block k hlt)) (fun k hk=> .inl hk),HLE.out,Kd.F_mono (Kd.F_step HF.out (fun k hk _=>fin3_far (W:=V) (g:=w.heap.size+1+1) (k:=k) (by have:=H0.out.size;have:=H9.out;omega) _ _ _)) (fun k hk=>by have:=H9.out;omega)⟩
 simp only[e9]at hy
 exact hy
theorem pass_cases {t:S30} (h:passF t.f0=true) (Q:Prop) (g0:(t.f0.toList == ([68,117,114,105,110,103]:List UInt8))=true→Q) (g1:(t.f0.toList == ([68,117,114,105,110,103]:List UInt8))=false→(t.f0.toList == ([83,105,110,99,101]:List UInt8))=true→Q) (g2:(t.f0.toList == ([68,117,114,105,110,103]:List UInt8))=false→(t.f0.toList == ([83,105,110,99,101]:List UInt8))=false→(t.f0.toList == ([85,110,116,105,108]:List UInt8))=true→Q) (g3:(t.f0.toList == ([68,117,114,105,110,103]:List UInt8))=false→(t.f0.toList == ([83,105,110,99,101]:List UInt8))=false→(t.f0.toList == ([85,110,116,105,108]:List UInt8))=false→(t.f0.toList == ([80,108,101,97,115,101]:List UInt8))=true→Q) (g4:(t.f0.toList == ([68,117,114,105,110,103]:List UInt8))=false→(t.f0.toList == ([83,105,110,99,101]:List UInt8))=false→(t.f0.toList == ([85,110,116,105,108]:List UInt8))=false→(t.f0.toList == ([80,108,101,97,115,101]:List UInt8))=false→(t.f0.toList == ([65,108,115,111]:List UInt8))=true→Q):Q:=by
 unfold passF at h
 cases q0:(t.f0.toList == ([68,117,114,105,110,103]:List UInt8))with
 |true=>exact g0 q0
 |false =>
 cases q1:(t.f0.toList == ([83,105,110,99,101]:List UInt8))with
 |true=>exact g1 q0 q1
 |false =>
 cases q2:(t.f0.toList == ([85,110,116,105,108]:List UInt8))with
 |true=>exact g2 q0 q1 q2
 |false =>
 cases q3:(t.f0.toList == ([80,108,101,97,115,101]:List UInt8))with
 |true=>exact g3 q0 q1 q2 q3
 |false =>
 cases q4:(t.f0.toList == ([65,108,115,111]:List UInt8))with
 |true=>exact g4 q0 q1 q2 q3 q4
 |false =>
 simp[q0,q1,q2,q3,q4]at h
set_option maxHeartbeats 4000000 in
set_option maxRecDepth 100000 in
theorem with_pass (t np s x:S30) (hs:subjP t=some s) (h1:passF t.f0=true) (hl:0<t.f2.length) (w0 w:World) (h0:Below w0.heap.size w0 w) (A1:Option Addr) (c1:Nat) (A2:Option Addr) (c2:Nat) (N1:Option Addr) (n1:Nat) (N2:Option Addr) (n2:Nat) (tv:TreeV w0 t A1 c1 A2 c2) (nv:TreeV w0 np N1 n1 N2 n2) (hm:t.f2.length≤2000000) (r:Option S30) (hr:r=some ⟨t.f0,t.f1,x::t.f2.drop 1⟩)
  (ih:∀(B1:Option Addr) (d1:Nat) (B2:Option Addr) (d2:Nat) (V:World),Below w0.heap.size w0 V→TreeV w0 (kidOf t 0) B1 d1 B2 d2→Calls Tryz.prog 21 #[.agg #[.string (kidOf t 0).f0,.slice B1 (kidOf t 0).f1.length d1,.slice B2 (kidOf t 0).f2.length d2],.agg #[.string np.f0,.slice N1 np.f1.length n1,.slice N2 np.f2.length n2]] V (WithRet w0 V (some x))) :
  Calls Tryz.prog 21 #[.agg #[.string t.f0,.slice A1 t.f1.length c1,.slice A2 t.f2.length c2],.agg #[.string np.f0,.slice N1 np.f1.length n1,.slice N2 np.f2.length n2]] w (WithRet w0 w r):=by
 obtain ⟨ad,rfl,_⟩:=tv.k.2.2 hl
 have E:=entW_mk w t A1 c1 (some ad) c2 np N1 n1 N2 n2
 have C:=Aside0.mk (subj_calls (nodes t) t (Nat.le_refl _) w0 _ A1 c1 (some ad) c2 (below_step h0 E.low) tv)
 rw[hs]at C
 have k0:=blk_cell E.bt 0
 have k1:=blk_cell E.bt 1
 have k2:=blk_cell E.bt 2
 simp at k0 k1 k2
 replace E:=Aside0.mk E
 have HR:=Aside0.mk hr
 have H0:=Aside0.mk h0
 have TV:=Aside0.mk tv
 have NV:=Aside0.mk nv
 have HL:=Aside0.mk hl
 have HM:=Aside0.mk hm
 have IH:=Aside0.mk ih
 clear hs hr tv nv h0 hl hm ih
 refine pass_cases h1 _ ?_ ?_ ?_ ?_ ?_<;>intros
 all_goals
  go_enter Tryz.func21,Tryz.ntmps21
  go_wp2_with (go_at_call 19;refine C.out.mono ?_;rintro e w1 ⟨hB2,E1,x1,E2,x2,rfl,hsv⟩;have HB2:=Aside0.mk hB2;have E5:=E.out.below hB2;have m0:=fun (o:Obj)=>blk_cell (blk_alloc E5.bn o) 0;have m1:=fun (o:Obj)=>blk_cell (blk_alloc E5.bn o) 1;have m2:=fun (o:Obj)=>blk_cell (blk_alloc E5.bn o) 2;have p0:=fun (o o' :Obj)=>blk_cell (blk_alloc (blk_alloc E5.bt o) o') 0;have p1:=fun (o o' :Obj)=>blk_cell (blk_alloc (blk_alloc E5.bt o) o') 1;have p2:=fun (o o' :Obj)=>blk_cell (blk_alloc (blk_alloc E5.bt o) o') 2;simp at m0 m1 m2 p0 p1 p2;clear hB2 hsv E5)
  clear m0 m1 m2 p0 p1 p2 k0 k1 k2
  have EW:=((E.out.below HB2.out).below (below_alloc (.refl _ _) (.cells #[.string s.f0,.slice E1 s.f1.length x1,.slice E2 s.f2.length x2] 30))).below (below_alloc (.refl _ _) (.cells #[.string np.f0,.slice N1 np.f1.length n1,.slice N2 np.f2.length n2] 30))
  have X8:=new2 w1 (.cells #[.string s.f0,.slice E1 s.f1.length x1,.slice E2 s.f2.length x2] 30 (0,0)) (.cells #[.string np.f0,.slice N1 np.f1.length n1,.slice N2 np.f2.length n2] 30 (0,0))
  have hw1:=Nat.le_trans E.out.sz HB2.out.size
  have hwz:=show ((w1.alloc (.cells #[.string s.f0,.slice E1 s.f1.length x1,.slice E2 s.f2.length x2] 30)).alloc (.cells #[.string np.f0,.slice N1 np.f1.length n1,.slice N2 np.f2.length n2] 30)).heap.size=w1.heap.size+2 by simp
  generalize hV2:((w1.alloc (.cells #[.string s.f0,.slice E1 s.f1.length x1,.slice E2 s.f2.length x2] 30)).alloc (.cells #[.string np.f0,.slice N1 np.f1.length n1,.slice N2 np.f2.length n2] 30))=V2 at *
  clear hV2
  have hb0:=below_step H0.out EW.low
  have hz0:=H0.out.size
  refine to_frN 45 rfl fun f hf=> ?_
  have q4:f 4=_:=hf 4
  have q2:f 2=_:=hf 2
  refine with_reg11 t np x HL.out w0 V2 hb0 w.heap.size (w.heap.size+1) (w1.heap.size+1) A1 c1 (some ad) c2 N1 n1 N2 n2 TV.out EW.bt EW.bn ⟨_,_,_,X8⟩ (by omega) IH.out f q2 (hf 3) (hf 8) ?_
  intro g V X1 e1 X2 e2 g2 g4 g8 x8 xj xb hx
  replace g2:=g2.trans q2
  replace g4:=g4.trans q4
  replace g8:=g8.trans (hf 8)
  have hvl:=(xb 0 (Nat.zero_le _)).size
  have EV:EntW w V t A1 c1 (some ad) c2 np N1 n1 N2 n2:=⟨(xj _ (by omega) (by omega)).trans EW.bt,(xj _ (by omega) (by omega)).trans EW.bn,(xj _ (by omega) (by omega)).trans EW.br,EW.low.trans (xb _ (by omega)),by omega⟩
  have hb1:=hb0.trans (xb _ (by omega))
  have v0:=blk_cell EV.bt 0
  have v1:=blk_cell EV.bt 1
  have v2:=blk_cell EV.bt 2
  simp at v0 v1 v2
  have HX8:=Aside0.mk x8
  have HXT:=Aside0.mk hx
  clear x8 xj xb hx EW X8 hf
  rw[frN45]
  go_wp2_with fail
  clear v0 v1 v2
  have EW:=EV.below (below_alloc (.refl _ _) (.cells #[.string t.f0,.slice A1 t.f1.length c1,.slice (some ad) t.f2.length c2] 30))
  have Y8:=blk_alloc HX8.out (.cells #[.string t.f0,.slice A1 t.f1.length c1,.slice (some ad) t.f2.length c2] 30 (0,0))
  have Y9:=blk_new V (.cells #[.string t.f0,.slice A1 t.f1.length c1,.slice (some ad) t.f2.length c2] 30)
  have hb2:=below_step hb1 (below_alloc (.refl _ _) (.cells #[.string t.f0,.slice A1 t.f1.length c1,.slice (some ad) t.f2.length c2] 30))
  have hxt:=(HXT.out.mono (ok' :=fun k=>k<w0.heap.size∨V2.heap.size≤k∧k≠V.heap.size) (fun k hk hlt=>hk.imp id fun hk=>⟨hk,by omega⟩)).step (W:=V.alloc (.cells #[.string t.f0,.slice A1 t.f1.length c1,.slice (some ad) t.f2.length c2] 30)) (fun k _ hk=>(below_alloc (Below.refl V.heap.size V) (.cells #[.string t.f0,.slice A1 t.f1.length c1,.slice (some ad) t.f2.length c2] 30)).block k hk)
  have hwz2:=show (V.alloc (.cells #[.string t.f0,.slice A1 t.f1.length c1,.slice (some ad) t.f2.length c2] 30)).heap.size=V.heap.size+1 by simp
  generalize hW2:V.alloc (.cells #[.string t.f0,.slice A1 t.f1.length c1,.slice (some ad) t.f2.length c2] 30)=W2 at *
  clear hW2
  have h9:w.heap.size+3≤w1.heap.size∧w1.heap.size+2=V2.heap.size∧V2.heap.size≤V.heap.size∧V.heap.size+1=W2.heap.size:=⟨hw1,hwz.symm,hvl,hwz2.symm⟩
  refine to_frN 45 rfl fun f' hf=> ?_
  have q4:f' 4=_:=(show f' 4=g 4 from hf 4).trans g4
  have q9:f' 9=_:=hf 9
  refine with_reg13 t x HL.out HM.out w0 W2 hb2 w.heap.size (w1.heap.size+1) V.heap.size V2.heap.size A1 c1 (some ad) c2 TV.out X1 e1 X2 e2 EW.bt Y8 Y9 (by omega) (by omega) hxt f' ((show f' 2=g 2 from hf 2).trans g2) ((show f' 8=g 8 from hf 8).trans g8) q9 ?_
  intro g V A3 c3 g4 g9 z9 zj zb hle hF
  have ER:=Aside0.mk ((zj _ (by omega) (by omega)).trans EW.br)
  have HZ:=Aside0.mk z9
  have HB9:=Aside0.mk ((EW.low).trans (zb _ (by omega)))
  have HF:=Aside0.mk hF
  have HLE:=Aside0.mk hle
  rw[frN45]
  replace g4:=g4.trans q4
  replace g9:=g9.trans q9
  have a0:=blk_cell HZ.out 0
  have a1:=blk_cell HZ.out 1
  have a2:=blk_cell HZ.out 2
  have r0:=blk_cell ER.out 0
  have r1:=blk_cell ER.out 1
  have r2:=blk_cell ER.out 2
  have f0:=blk_frozen ER.out 0
  have f1:=blk_frozen ER.out 1
  have f2:=blk_frozen ER.out 2
  simp only[List.getElem?_toArray,List.getElem?_cons_zero,List.getElem?_cons_succ]at a0 a1 a2 r0 r1 r2
  have HX:=Aside0.mk EW
  have H9:=Aside0.mk h9
  clear z9 zj zb hle hF h9 EW
  go_wp2
  refine bodyPost_ret (results_list (rs:=[.cell 4 30,.tmp 5]) rfl (by simp) (.cell (w.heap.size+1+1) 30 _ (0,0) _ g4 (fin3 (W:=V) ER.out (.string t.f0) (.slice A1 t.f1.length c1) (.slice A3 _ c3)) Tryz.underlying30 rfl (by kernel_rfl) (.tmp .nil))) rfl ?_
  rw[HR.out]
  have hB:=fin3_below HB9.out (g:=w.heap.size+1+1) (by omega) (.string t.f0) (.slice A1 t.f1.length c1) (.slice A3 (x::t.f2.drop 1).length c3)
  have e9:(x::t.f2.drop 1).length=t.f2.length-1+1:=by simp
  have hy:=WithRet.yes (w0:=w0) (w:=w) (s:=⟨t.f0,t.f1,x::t.f2.drop 1⟩) hB ⟨TV.out.l1,Kd.F_mono (Kd.F_step (Kd.C_F (Kd.heap_int .i64) TV.out.v) (fun k hk hlt=>(below_step H0.out hB).block k hlt)) (fun k hk=> .inl hk),HLE.out,Kd.F_mono (Kd.F_step HF.out (fun k hk _=>fin3_far (W:=V) (g:=w.heap.size+1+1) (k:=k) (by have:=H0.out.size;have:=H9.out;omega) _ _ _)) (fun k hk=>by have:=H9.out;omega)⟩
  simp only[e9]at hy
  exact hy
theorem modal_pass {f:ByteArray} (h:modalF f=true):passF f=false:=by
 unfold modalF at h
 simp only[Bool.or_eq_true,beq_iff_eq]at h
 unfold passF
 rcases h with ((h | h) | h) | h<;>rw[h]<;>decide +kernel
theorem with_calls (np:S30):∀(n:Nat) (t:S30),nodes t≤n→Sm t→∀(w0 w:World) (A1:Option Addr) (c1:Nat) (A2:Option Addr) (c2:Nat) (N1:Option Addr) (n1:Nat) (N2:Option Addr) (n2:Nat),Below w0.heap.size w0 w→TreeV w0 t A1 c1 A2 c2→TreeV w0 np N1 n1 N2 n2 →
  Calls Tryz.prog 21 #[.agg #[.string t.f0,.slice A1 t.f1.length c1,.slice A2 t.f2.length c2],.agg #[.string np.f0,.slice N1 np.f1.length n1,.slice N2 np.f2.length n2]] w (WithRet w0 w (withP t np))
 |0,t,hn,_=>absurd hn (by have:=nodes_eq t;omega)
 |n+1,t,hn,hsm=>fun w0 w A1 c1 A2 c2 N1 n1 N2 n2 h0 tv nv=>by
  have hm:=(Sm.eq t).1 hsm
  cases hs:subjP t with
  |none=>exact with_no t np hs w0 w h0 A1 c1 A2 c2 N1 n1 N2 n2 tv
  |some s =>
   have hl:0<t.f2.length:=by
    rcases Nat.eq_zero_or_pos t.f2.length with h | h
    ·rw[subjP_none h]at hs;cases hs
    ·exact h
   have hk:kidOf t 0∈t.f2:=by unfold kidOf;rw[List.getD_eq_getElem?_getD,List.getElem?_eq_getElem hl];exact List.getElem_mem _
   have hsk:=SmL.mem hm.2.2.2 hk
   have hs2:=hs
   rw[subjP_some hl]at hs2
   rw[withP_some hl]
   by_cases h1:modalF t.f0=true
   ·rw[if_pos h1]
    have h2:passF t.f0=false:=modal_pass h1
    exact with_modal t np s hs h2 hl w0 w h0 A1 c1 A2 c2 N1 n1 N2 n2 tv nv hm.2.2.1 _ rfl
   ·rw[if_neg h1]at hs2 ⊢
    by_cases h2:passF t.f0=true
    ·rw[if_pos h2]at hs2 ⊢
     have hiso:=with_subj np (nodes (kidOf t 0)) (kidOf t 0) (Nat.le_refl _)
     rw[hs2]at hiso
     cases hw:withP (kidOf t 0) np with
     |none=>rw[hw]at hiso;cases hiso
     |some x=>exact with_pass t np s x hs h2 hl w0 w h0 A1 c1 A2 c2 N1 n1 N2 n2 tv nv hm.2.2.1 _ rfl (fun B1 d1 B2 d2 W hW hv=>hw▸with_calls np n (kidOf t 0) (nodes_kid hn hl) hsk w0 W B1 d1 B2 d2 N1 n1 N2 n2 hW hv nv)
    ·rw[if_neg h2]at hs2;cases hs2
end
section
attribute [local go_sem] Oper.semAt_some
structure Kg (S:Nat→Prop) where
 In:Value→World→Prop
 st:∀v w w',In v w→Kp w w' S→In v w'
def Kg.is {S:Nat→Prop} (v:Value):Kg S:=⟨fun x _=>x=v,fun _ _ _ h _=>h⟩
def Kg.top {S:Nat→Prop}:Kg S:=⟨fun _ _=>True,fun _ _ _ _ _=>trivial⟩
def Kg.mn {S:Nat→Prop} (ok:Nat→Prop) (hS:∀k,S k→¬ok k) (o:Option S70):Kg S:=⟨fun v w=>∃m,o=some m∧MnV w ok v m,fun _ _ _ h hk=>h.imp fun _ hm=>⟨hm.1,(hm.2.bound.step (fun k ho hlt=>hk.block k hlt fun h=>hS k h ho.1)).mono (fun k ho=>ho.1)⟩⟩
section
variable {ops:Array Oper} {Q:Exit→Act→World→Prop} {S:Nat→Prop}
def StepK (ops:Array Oper) (Q:Exit→Act→World→Prop) (fr:(Nat→Value)→Act) (W0:World) (G:Nat→World→Prop) (ks:List (Kg S)) (i:Nat) (o:Oper):Prop:=∀x w J,Kp W0 w S→(∀j,waits o j=true→(ks.getD j .top).In (x j) w)→(∀v w',(ks.getD i .top).In v w' →Below w.heap.size w w' →J ((fr x).put o.dst v) w')→ops[i]? =some o→wpOp Tryz.prog ops Q i J (fr x) w
def StepG (ops:Array Oper) (Q:Exit→Act→World→Prop) (fr:(Nat→Value)→Act) (W0:World) (G:Nat→World→Prop) (ks:List (Kg S)) (cN:Nat) (i:Nat) (o:Oper):Prop:=∀x w J m,m<cN→Kp W0 w S→G m w→(∀j,waits o j=true→(ks.getD j .top).In (x j) w)→(∀v w',(ks.getD i .top).In v w' →Kp w w' S→G (m+1) w' →J ((fr x).put o.dst v) w')→ops[i]? =some o→wpOp Tryz.prog ops Q i J (fr x) w
def StepsK (ops:Array Oper) (Q:Exit→Act→World→Prop) (fr:(Nat→Value)→Act) (W0:World) (G:Nat→World→Prop) (ks:List (Kg S)) (cs:List Nat):List Oper→Nat→Nat→Prop
 |o::r,i,m+1=>(if cs.contains i=true then StepG ops Q fr W0 G ks cs.length i o else StepK ops Q fr W0 G ks i o)∧StepsK ops Q fr W0 G ks cs r (i+1) m
 |_,_,_=>True
theorem stepsK_at {fr:(Nat→Value)→Act} {W0:World} {G:Nat→World→Prop} {ks:List (Kg S)} {cs:List Nat}:∀(l:List Oper) (i m:Nat),StepsK ops Q fr W0 G ks cs l i m→∀j o,j<m→l[j]? =some o→if cs.contains (i+j)=true then StepG ops Q fr W0 G ks cs.length (i+j) o else StepK ops Q fr W0 G ks (i+j) o
 |o::r,i,m+1,h,0,o',hj,ho=>by
  simp at ho
  subst ho
  exact h.1
 |o::r,i,m+1,h,j+1,o',hj,ho=>by
  have:=stepsK_at r (i+1) m h.2 j o' (by omega) (by simpa using ho)
  rwa [Nat.add_assoc,Nat.add_comm 1 j]at this
 | [],_,_,_,_,_,_,ho=>by simp at ho
 |o::r,i,0,_,j,_,hj,_=>by omega
def nDone (cs:List Nat) (l:Array Bool):Nat:=(cs.filter fun j=>l.getD j false).length
theorem nDone_not {cs:List Nat} {l:Array Bool} {i:Nat} (h:cs.contains i=false):nDone cs (l.setIfInBounds i true)=nDone cs l:=by
 unfold nDone
 congr 1
 apply List.filter_congr
 intro j hj
 refine getD_set fun e=> ?_
 subst e
 rw[List.contains_iff_mem.2 hj]at h
 cases h
theorem nDone_yes:∀{cs:List Nat} {l:Array Bool} {i:Nat},cs.Nodup→i∈cs→l.getD i false=false→i<l.size→nDone cs (l.setIfInBounds i true)=nDone cs l+1
 |c::r,l,i,hn,hi,hf,hs=>by
  have hn2:=List.nodup_cons.1 hn
  by_cases hc:c=i
  ·subst hc
   have h1:nDone r (l.setIfInBounds c true)=nDone r l:=nDone_not (by
    cases h:r.contains c with
    |false=>rfl
    |true=>exact absurd (List.contains_iff_mem.1 h) hn2.1)
   unfold nDone at h1 ⊢
   rw[List.filter_cons_of_pos (by rw[getD_set_same hs]),List.filter_cons_of_neg (by rw[hf];decide),List.length_cons,h1]
  ·have h1:=nDone_yes hn2.2 ((List.mem_cons.1 hi).resolve_left (Ne.symm hc)) hf hs
   have h2:(l.setIfInBounds i true).getD c false=l.getD c false:=getD_set hc
   unfold nDone at h1 ⊢
   rw[List.filter_cons,List.filter_cons,h2]
   split
   ·rw[List.length_cons,List.length_cons,h1]
   ·exact h1
theorem region_kg {id:Nat} (L n:Nat) (G:Nat→World→Prop) (ks:List (Kg S)) (cs KS:List Nat) (f:Nat→Value) (W:World) (hL:ops.size=L+1) (hfit:fitB ops n KS=true)
  (hlow:(List.range ops.size).all (fun i=>((ops[i]?).map fun o=>o.after.all fun e=> !Region.binds .any e || decide (e.on<i)).getD true)=true)
  (hto:(List.range L).all (fun i=>(List.range ops.size).any fun j=>decide (i<j) && Dep .any ops i j)=true) (hcs:cs.Nodup) (hcL:∀c∈cs,c<L)
  (hG:∀m w w',G m w→Below w.heap.size w w' →G m w') (g0:G 0 W.drew)
  (hst:StepsK ops Q (fun x=>frN n (sl x f KS)) W.drew G ks cs ops.toList 0 L)
  (last:∀o x w,ops[L]? =some o→Kp W.drew w S→G cs.length w→(∀i,i<L→(ks.getD i .top).In (x i) w)→wpOp Tryz.prog ops Q L (fun a' w' =>Q .normal a' w') (frN n (sl x f KS)) w) :
  Code.wp Tryz.prog (.region id ops true) Q (frN n f) W:=by
 rw[frN_sl n f KS]
 have hrep:∀i,(Array.replicate ops.size false).getD i false=false:=fun i=>by
  rw[Array.getD_eq_getD_getElem?]
  by_cases h:i<ops.size<;>simp[h]
 have h00:nDone cs (Array.replicate ops.size false)=0:=by
  unfold nDone
  rw[List.filter_eq_nil_iff.2 (fun a _=>by rw[hrep];decide)]
  rfl
 refine wp_region_any (by kernel_rfl) (any_inv (I:=fun l a w=>l.size=ops.size∧((l.getD L false=false∧Closed .any ops l∧Kp W.drew w S∧G (nDone cs l) w∧∃x,a=frN n (sl x f KS)∧∀i,l.getD i false=true→(ks.getD i .top).In (x i) w)∨((∀i,i<ops.size→l.getD i false=true)∧Q .normal a w))) ?_ ?_ _ _ _ _ (cntF_repl _) ⟨by simp,.inl ⟨hrep L,fun j hj=>(by rw[hrep]at hj;cases hj),Kp.refl _ _,by rw[h00];exact g0,_,rfl,fun i hi=>by rw[hrep]at hi;cases hi⟩⟩)
 ·rintro l a w i ⟨hl,h⟩ hi
  have hif:=ready_false hi
  have hil:i<l.size:=(Array.getElem?_eq_some_iff.1 hif).1
  have ho:ops[i]? =some ops[i]:=Array.getElem?_eq_getElem (by omega)
  have hig:l.getD i false=false:=by rw[Array.getD_eq_getD_getElem?,hif];rfl
  rcases h with ⟨hLf,hcl,hB,hg,x,rfl,hx⟩ | ⟨hall,hq⟩
  ·by_cases hiL:i=L
   ·subst hiL
    have hcl2:=hcl.set ho hi hil
    have hothers:∀(n j:Nat),i-j<n→j<i→(l.setIfInBounds i true).getD j false=true:=by
     intro n
     induction n with
     |zero=>intro j hj;omega
     |succ n ih =>
      intro j hj hji
      have h1:=List.all_eq_true.1 hto j (List.mem_range.2 hji)
      obtain ⟨k,hk,hk2⟩:=List.any_eq_true.1 h1
      rw[Bool.and_eq_true]at hk2
      have hjk:=of_decide_eq_true hk2.1
      have hks:=List.mem_range.1 hk
      refine hcl2 k ?_ j hk2.2
      by_cases hki:k=i
      ·subst hki;exact getD_set_same hil
      ·exact ih k (by omega) (by omega)
    have hdone:∀j,j<i→l.getD j false=true:=fun j hj=>by
     have:=hothers (i-j+1) j (by omega) hj
     rwa [getD_set (by omega)]at this
    have hall:nDone cs l=cs.length:=by
     unfold nDone
     rw[List.filter_eq_self.2 (fun a ha=>hdone a (hcL a ha))]
    rw[hall]at hg
    refine wpOp_mono (fun a' w' h' =>⟨by simp[hl],.inr ⟨fun j hj=> ?_,h'⟩⟩) (last _ x w ho hB hg (fun j hj=>hx j (hdone j hj)))
    by_cases hji:j=i
    ·subst hji;exact getD_set_same hil
    ·exact hothers (i-j+1) j (by omega) (by omega)
   ·have h1:=stepsK_at ops.toList 0 L hst i ops[i] (by omega) (by simp)
    rw[Nat.zero_add]at h1
    have hdep:=fun j (hj:waits ops[i] j=true)=>hx j (deps_waits (o:=ops[i]) (C:=fun j=>l.getD j false=true) rfl (fun e he hb=>ready_deps hi ho e he hb) j hj)
    have fin:∀v w',(ks.getD i .top).In v w' →Kp w w' S→G (nDone cs (l.setIfInBounds i true)) w' →((l.setIfInBounds i true).size=ops.size∧(((l.setIfInBounds i true).getD L false=false∧Closed .any ops (l.setIfInBounds i true)∧Kp W.drew w' S∧G (nDone cs (l.setIfInBounds i true)) w' ∧∃x',(frN n (sl x f KS)).put ops[i].dst v=frN n (sl x' f KS)∧∀j,(l.setIfInBounds i true).getD j false=true→(ks.getD j .top).In (x' j) w')∨((∀j,j<ops.size→(l.setIfInBounds i true).getD j false=true)∧Q .normal ((frN n (sl x f KS)).put ops[i].dst v) w'))):=by
     intro v w' hv hk hg'
     refine ⟨by simp[hl],.inl ⟨by rw[getD_set (by omega)];exact hLf,hcl.set ho hi hil,hB.then_ hk (fun _ h=> .inl h),hg',_,fit_put hfit f i _ x v ho,fun j hj=> ?_⟩⟩
     unfold upd
     by_cases hji:j=i
     ·subst hji
      rw[if_pos rfl]
      exact hv
     ·rw[if_neg hji]
      exact (ks.getD j .top).st _ _ _ (hx j (by rwa [getD_set hji]at hj)) hk
    cases hc:cs.contains i with
    |true =>
     rw[if_pos hc]at h1
     exact h1 x w _ _ (by have h1:=nDone_yes hcs (List.contains_iff_mem.1 hc) hig hil;have h2:=List.length_filter_le (fun j=>(l.setIfInBounds i true).getD j false) cs;unfold nDone at h1 ⊢;omega) hB hg hdep (fun v w' hv hk hg' =>fin v w' hv hk (by rw[nDone_yes hcs (List.contains_iff_mem.1 hc) hig hil];exact hg')) ho
    |false =>
     rw[if_neg (by rw[hc];decide)]at h1
     exact h1 x w _ hB hdep (fun v w' hv hb=>fin v w' hv (Kp.of_below hb S) (by rw[nDone_not hc];exact hG _ _ _ hg hb)) ho
  ·exfalso
   rw[hall i (by omega)]at hig
   cases hig
 ·rintro l a w ⟨hl,h⟩ hr
  rcases h with ⟨hLf,_⟩ | ⟨_,hq⟩
  ·have:=all_of_none hl hlow hr (L+1) L (by omega) (by omega)
   rw[hLf]at this
   cases this
  ·exact hq
end
end
end Go.Proofs.YtcfjomnihhdpaaaGreatDoor.A
