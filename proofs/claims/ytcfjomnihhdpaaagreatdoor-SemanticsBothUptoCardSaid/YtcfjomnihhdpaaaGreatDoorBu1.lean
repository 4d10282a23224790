/-
  A part of the proof: WLast, WTab, WApart, WFoot, WShare, WN, WNEv, WMore.
-/
import Derived.OrdersHeld
import Derived.Deep.RegionHeld3
import Derived.Laws.BitsLemmas
import Derived.RowKit
import Derived.Test.YtcfjomnihhdpaaaGreatDoorBu0
namespace Go.Proofs.YtcfjomnihhdpaaaGreatDoorW.PrintLast
section
section
variable {P:Program} {ops:Array Oper} {Q:Exit→Act→World→Prop} {md:Region.Mode} {S:World→Prop} {ds:List Nat}
theorem enters_ {f:FuncId} {fn:Func} (hf:P.funcs[f]? =some fn) (hname:(fn.name == "runtime.NumGoroutine")=false) (hb:fn.body.isSome=true) (args:Array Value) (w:World):(callFunc f args).run P w= .ok (.enter f args) w:=by
 have h1:fn.name≠ "runtime.NumGoroutine" :=by simpa using hname
 obtain ⟨c,hc⟩:=Option.isSome_iff_exists.1 hb
 simp[callFunc,hf,h1,hc]
theorem goesL_ {rest:List Oper} {oi:Oper} {a:Act} {w:World} (N:Option Tmp) (hd:oi.dst=N) (hg:oi.guard=none) {f:FuncId} {fn:Func} {as:Array Operand} {ts:Array TypeId} (hf:P.funcs[f]? =some fn) (hname:(fn.name == "runtime.NumGoroutine")=false) (hb:fn.body.isSome=true) (args:Array Value)
  (hop:oi.op= .call {callee:= .value (.func f),args:=as,argTypes:=ts}) (hargs:as.map a.eval=args)
  (h:Calls P f args w fun e w' =>∃v,e= .returned v∧wpList P ops Q rest (a.put N v) w'):wpList P ops Q (oi::rest) a w:=by
 refine wpList_plain hg fun K hK=> ?_
 have he:=enters_ hf hname hb args w
 have hrun:(execOp a.eval oi).run P w= .ok (.enter f args) w:=by
  unfold execOp
  simp[hop,resolve,Deferred.ofValue,invoke,Act.eval,hargs,he]
 unfold Oper.wp
 rw[hrun,Oper.upon_enter]
 refine h.mono fun e w'' hh=> ?_
 obtain ⟨v,rfl,hk⟩:=hh
 subst hd
 exact hK _ _ hk
end
end
open Go.Proofs.YtcfjomnihhdpaaaGreatDoorW.PrintWords (Aside0)
def opsIn:Code→Nat→Option (Array Oper)
 |.region id ops _,k=>if id == k then some ops else none
 |.seq a b,k=>match opsIn a k with
  |some o=>some o
  |none=>opsIn b k
 |.cond _ a b,k=>match opsIn a k with
  |some o=>some o
  |none=>opsIn b k
 |.block _ c,k=>opsIn c k
 |.loop c,k=>opsIn c k
 |.scope c,k=>opsIn c k
 |.rangeFunc _ _ a b,k=>match opsIn a k with
  |some o=>some o
  |none=>opsIn b k
 |_,_=>none
def opsOf (f:Func) (k:Nat):Array Oper:=((f.body.bind fun c=>opsIn c k)).getD #[]
end Go.Proofs.YtcfjomnihhdpaaaGreatDoorW.PrintLast
namespace Go.Proofs.YtcfjomnihhdpaaaGreatDoorW.PrintWords
open Go.RowKit
namespace Kd
def raw (sz:Nat):Kd (List Value) where
 sz:=sz
 E:=[]
 K:=fun _ x cs=>cs=x∧cs.length=sz∧∀u∈cs,u.oneCell' =true
 M:=fun _ _ _ x cs=>cs=x∧cs.length=sz∧∀u∈cs,u.oneCell' =true
 K_len:=fun h=>h.2.1
 K_one:=fun h=>h.2.2
 K_below:=fun _ h=>h
 K_of_M:=fun h=>h
 M_mono:=fun _ h=>h
 M_bound:=fun h=>h
 M_move:=fun _ h=>h
 M_lower:=fun _ h=>h
section
variable {α β:Type} {d:Kd α} {d' :Kd β} {e e' :Nat} {w w1 W:World} {base b:Nat} {ok ok' okv oku:Nat→Prop} {u v:Value} {xs:List α} {ys:List β}
theorem R_tight (hE:d.E=[]) (h:d.R e w base ok v xs):d.R e w base (fun k=>some k=v.ownBlock) v xs:=by
 obtain ⟨h0,inner,ho,hr⟩:=h
 refine ⟨fun k hk=>hk.symm,inner,ho,hr.imp_ (fun p c hp=>d.M_mono (fun k hk=> ?_) (d.M_bound hp))⟩
 obtain ⟨_,_,_,q,hq,_⟩:=hk
 rw[hE]at hq
 cases hq
end
end Kd
end Go.Proofs.YtcfjomnihhdpaaaGreatDoorW.PrintWords
namespace Go.Proofs.YtcfjomnihhdpaaaGreatDoorW.PrintWords
open Go.RowKit
namespace Kd
structure Heap {α:Type} (d:Kd α):Prop where
 K:∀{w w1:World} {x:α} {cs:List Value},(∀k,k<w.heap.size→w1.heap[k]? =w.heap[k]?)→d.K w x cs→d.K w1 x cs
theorem cell_heap {w w1:World} (hb:∀k,k<w.heap.size→w1.heap[k]? =w.heap[k]?) {a:Addr} {v:Value} (h:w.cell? a=some v):w1.cell? a=some v:=by
 have:=hb a.block (World.block_lt_of_cell? w a h)
 simpa[World.cell?,this]using h
theorem Heap.C {α:Type} {d:Kd α} (hd:Heap d) {w w1:World} {A:Option Addr} {n:Nat} {xs:List α} (hb:∀k,k<w.heap.size→w1.heap[k]? =w.heap[k]?) (h:d.C w A n xs):d.C w1 A n xs :=
 ⟨h.1,h.2.1,fun hn=>by
  obtain ⟨ad,e,hc⟩:=h.2.2 hn
  refine ⟨ad,e,fun j p hj=> ?_⟩
  obtain ⟨c,hs,hr,hcell⟩:=hc j p hj
  exact ⟨c,hs,hd.K hb hr,fun i u hu=>cell_heap hb (hcell i u hu)⟩⟩
theorem heap_int (k:IntKind):Heap (Kd.int k):=⟨fun _ h=>h⟩
theorem heap_string:Heap Kd.string:=⟨fun _ h=>h⟩
theorem heap_slice {α:Type} {d:Kd α} (e:Nat) (hd:Heap d):Heap (slice e d):=⟨by
 rintro w w1 x cs hb ⟨A,c,rfl,hl,hr⟩
 exact ⟨A,c,rfl,hl,hd.C hb hr⟩⟩
theorem heap_pair {α β:Type} {a:Kd α} {b:Kd β} (ha:Heap a) (hb' :Heap b):Heap (pair a b):=⟨by
 rintro w w1 x cs hb ⟨c0,c1,rfl,h0,h1⟩
 exact ⟨c0,c1,rfl,ha.K hb h0,hb'.K hb h1⟩⟩
theorem heap_iso {α β:Type} {d:Kd α} (f:β→α) (hd:Heap d):Heap (iso d f):=⟨fun hb h=>hd.K hb h⟩
theorem heap_bot {α:Type} (sz:Nat) (E:List Nat):Heap (bot sz E:Kd α):=⟨fun _ h=>h⟩
theorem heap_upto {α:Type} {F:Kd α→Kd α} {sz:Nat} {E:List Nat} (hF:∀d,Heap d→Heap (F d)):∀n,Heap (upto F sz E n)
 |0=>heap_bot sz E
 |n+1=>hF _ (heap_upto hF n)
theorem heap_fix {α:Type} {F:Kd α→Kd α} {sz:Nat} {E:List Nat} {hs:∀n,(upto F sz E n).sz=sz} {hE:∀n q,q∈(upto F sz E n).E→q∈E} (hF:∀d,Heap d→Heap (F d)):Heap (fix F sz E hs hE):=⟨by
 rintro w w1 x cs hb ⟨n,h⟩
 exact ⟨n,(heap_upto hF n).K hb h⟩⟩
end Kd
end Go.Proofs.YtcfjomnihhdpaaaGreatDoorW.PrintWords
namespace Go.Proofs.YtcfjomnihhdpaaaGreatDoorW.PrintWords
open Go.RowKit
def Foot (P:World→Prop) (W:World) (ok:Nat→Prop):Prop:=∀W' :World,(∀k,ok k→k<W.heap.size→W'.heap[k]? =W.heap[k]?)→P W'
theorem heap_lt {W W1:World} {k:Nat} (h:W1.heap[k]? =W.heap[k]?) (hlt:k<W.heap.size):k<W1.heap.size:=by
 rw[Array.getElem?_eq_getElem hlt]at h
 exact (Array.getElem?_eq_some_iff.1 h).1
namespace Foot
variable {P Q:World→Prop} {W W1:World} {ok ok' :Nat→Prop}
theorem now (h:Foot P W ok):P W:=h W (fun _ _ _=>rfl)
theorem mono (h:Foot P W ok) (hok:∀k,ok k→ok' k):Foot P W ok' :=fun W' hW=>h W' (fun k hk hlt=>hW k (hok k hk) hlt)
theorem bound (h:Foot P W ok):Foot P W (fun k=>ok k∧k<W.heap.size):=fun W' hW=>h W' (fun k hk hlt=>hW k ⟨hk,hlt⟩ hlt)
theorem step (h:Foot P W ok) (hm:∀k,ok k→k<W.heap.size→W1.heap[k]? =W.heap[k]?):Foot P W1 ok:=fun W' hW=>h W' (fun k hk hlt=>(hW k hk (heap_lt (hm k hk hlt) hlt)).trans (hm k hk hlt))
theorem imp (h:Foot P W ok) (hi:∀W',P W' →Q W'):Foot Q W ok:=fun W' hW=>hi W' (h W' hW)
end Foot
namespace Kd
def F {α:Type} (d:Kd α) (W:World) (ok:Nat→Prop) (A:Option Addr) (n:Nat) (xs:List α):Prop:=Foot (fun W=>d.C W A n xs) W ok
def FK {α:Type} (d:Kd α) (W:World) (ok:Nat→Prop) (x:α) (c:List Value):Prop:=Foot (fun W=>d.K W x c) W ok
section
variable {α β:Type} {d:Kd α} {e base n n' cc g N:Nat} {ok ok' okp S:Nat→Prop} {w w0 w1 W W1:World} {A A' :Option Addr} {u v v1:Value} {xs:List α} {xs' :List β} {d' :Kd β} {x:α} {c:List Value}
theorem F_now (h:F d W ok A n xs):d.C W A n xs:=Foot.now h
theorem F_mono (h:F d W ok A n xs) (hok:∀k,ok k→ok' k):F d W ok' A n xs:=Foot.mono h hok
theorem F_bound (h:F d W ok A n xs):F d W (fun k=>ok k∧k<W.heap.size) A n xs:=Foot.bound h
theorem F_step (h:F d W ok A n xs) (hm:∀k,ok k→k<W.heap.size→W1.heap[k]? =W.heap[k]?):F d W1 ok A n xs:=Foot.step h hm
theorem F_imp (h:F d W ok A n xs) (hi:∀W',d.C W' A n xs→d'.C W' A' n' xs'):F d' W ok A' n' xs' :=Foot.imp h hi
theorem F_below (h:F d W ok A n xs) (hb:Below W.heap.size W W1):F d W1 ok A n xs:=F_step h (fun k _ hlt=>hb.block k hlt)
theorem F_alloc (h:F d W ok A n xs) (o:Obj):F d (W.alloc o) ok A n xs:=F_below h (below_alloc (Below.refl _ _) o)
theorem F_nil (d:Kd α) (W:World) (ok:Nat→Prop):F d W ok none ([]:List α).length []:=fun W' _=>C_nil d W'
theorem C_F (hd:Heap d) (h:d.C w A n xs):F d w (fun k=>k<w.heap.size) A n xs:=fun _ hW=>hd.C (fun k hlt=>hW k hlt hlt) h
theorem FK_now (h:FK d W ok x c):d.K W x c:=Foot.now h
theorem FK_mono (h:FK d W ok x c) (hok:∀k,ok k→ok' k):FK d W ok' x c:=Foot.mono h hok
theorem FK_bound (h:FK d W ok x c):FK d W (fun k=>ok k∧k<W.heap.size) x c:=Foot.bound h
theorem FK_step (h:FK d W ok x c) (hm:∀k,ok k→k<W.heap.size→W1.heap[k]? =W.heap[k]?):FK d W1 ok x c:=Foot.step h hm
theorem FK_below (h:FK d W ok x c) (hb:Below W.heap.size W W1):FK d W1 ok x c:=FK_step h (fun k _ hlt=>hb.block k hlt)
theorem FK_grown (h:FK d W ok x c) {row:Option Nat} (hg:W.grownBy W1 row) (hok:∀k,ok k→some k≠row):FK d W1 ok x c:=FK_step h (fun k hk hlt=>hg.block k hlt (hok k hk))
theorem emptied (W:World) (g:Nat):∃W' :World,(∀k,k≠g→W'.heap[k]? =W.heap[k]?)∧∀a:Addr,a.block=g→W'.cell? a=none:=by
 refine ⟨{W with heap:=W.heap.setIfInBounds g (.cells #[] 0)},fun k hk=>by simp[Ne.symm hk],fun a ha=> ?_⟩
 subst ha
 by_cases hlt:a.block<W.heap.size
 ·simp[World.cell?,hlt]
 ·simp[World.cell?,hlt]
end
end Kd
end Go.Proofs.YtcfjomnihhdpaaaGreatDoorW.PrintWords
namespace Go.Proofs.YtcfjomnihhdpaaaGreatDoorW.PrintWords
open Go.RowKit
namespace Kd
def chunks (sz:Nat) (n:Nat) (inner:List Value):List (List Value):=(List.range n).map fun j=>(inner.drop (j*sz)).take sz
theorem chunks_length (sz n:Nat) (inner:List Value):(chunks sz n inner).length=n:=by simp[chunks]
theorem chunks_at {sz n:Nat} {inner:List Value} {j:Nat} (hj:j<n):(chunks sz n inner)[j]? =some ((inner.drop (j*sz)).take sz):=by simp[chunks,hj]
theorem chunks_get {sz n:Nat} {inner:List Value} {j:Nat} {c:List Value} (h:(chunks sz n inner)[j]? =some c):c=(inner.drop (j*sz)).take sz:=by
 have hj:j<n:=by have:=(List.getElem?_eq_some_iff.1 h).1;rwa [chunks_length]at this
 rw[chunks_at hj]at h
 injection h with h
 exact h.symm
section
variable {α:Type} {d:Kd α} {e base n cc g:Nat} {ok ok' okp S:Nat→Prop} {w w1 W W1:World} {A:Option Addr} {u v v1:Value} {xs:List α} {x:α} {c:List Value}
theorem F_get (h:F d W ok A n xs) (z:α) (i:Int) (h0:0≤i) (h1:i<n) :
  ∃ad c,A=some ad∧c.length=d.sz∧FK d W ok (xs.getD i.toNat z) c∧(∀j u,c[j]? =some u→W.cell? (ad.add (i.toNat*d.sz+j))=some u)∧(0<d.sz→ok ad.block):=by
 obtain ⟨ad,c,rfl,hcl,hK,hcc⟩:=C_get (F_now h) z i h0 h1
 have hin:0<d.sz→ok ad.block:=by
  intro hs
  by_cases hk:ok ad.block
  ·exact hk
  ·obtain ⟨W',h2,h3⟩:=emptied W ad.block
   obtain ⟨ad',c',he,hcl',_,hcc'⟩:=C_get (h W' (fun k hk' _=>h2 k (fun e=>hk (e▸hk')))) z i h0 h1
   injection he with he
   subst he
   have h4:=hcc' 0 _ (List.getElem?_eq_getElem (by omega))
   rw[h3 _ (add_block _ _)]at h4
   cases h4
 refine ⟨ad,c,rfl,hcl,fun W' hW=> ?_,hcc,hin⟩
 obtain ⟨ad',c',he,hcl',hK',hcc'⟩:=C_get (h W' hW) z i h0 h1
 injection he with he
 subst he
 have hc:c=c' :=by
  apply List.ext_getElem?
  intro j
  by_cases hj:j<d.sz
  ·have hb:W'.heap[ad.block]? =W.heap[ad.block]? :=by
    have h5:=hcc j _ (List.getElem?_eq_getElem (by omega))
    have h6:=World.block_lt_of_cell? W _ h5
    rw[add_block]at h6
    exact hW _ (hin (by omega)) h6
   have h5:=hcc j _ (List.getElem?_eq_getElem (by omega))
   have h6:=hcc' j _ (List.getElem?_eq_getElem (by omega))
   have h7:W'.cell? (ad.add (i.toNat*d.sz+j))=W.cell? (ad.add (i.toNat*d.sz+j)):=by simp[World.cell?,add_block,hb]
   rw[h7,h5]at h6
   rw[List.getElem?_eq_getElem (by omega),List.getElem?_eq_getElem (by omega)]
   exact h6
  ·rw[List.getElem?_eq_none (by omega),List.getElem?_eq_none (by omega)]
 rw[hc]
 exact hK'
theorem F_rows (h:F d W ok A n xs):ReadsRow (fun x c=>FK d W ok x c) d.sz W A n xs:=by
 obtain ⟨hl,hm,hn⟩:=F_now h
 refine ⟨hl,hm,fun hp=> ?_⟩
 obtain ⟨ad,rfl,_⟩:=hn hp
 refine ⟨ad,rfl,fun j p hj=> ?_⟩
 obtain ⟨hjl,hjp⟩:=List.getElem?_eq_some_iff.1 hj
 obtain ⟨ad',c,he,hcl,hK,hcc,_⟩:=F_get h p (j:Int) (by omega) (by omega)
 injection he with he
 subst he
 simp only[Int.toNat_natCast]at hK hcc
 rw[List.getD_eq_getElem?_getD,hj]at hK
 exact ⟨c,hcl,hK,hcc⟩
def N {α:Type} (d:Kd α) (e:Nat) (w:World) (base:Nat) (ok:Nat→Prop) (v:Value) (xs:List α):Prop :=
 (∀k,v.ownBlock=some k→ok k)∧∃rows:List (List Value),rows.length=xs.length∧(raw d.sz).R e w base (fun k=>some k=v.ownBlock) v rows∧∀(j:Nat) (x:α) (c:List Value),xs[j]? =some x→rows[j]? =some c→FK d w (fun k=>ok k∧some k≠v.ownBlock) x c
theorem raw_tight {sz:Nat} {rows:List (List Value)} (h:(raw sz).R e w base ok v rows):(raw sz).R e w base (fun k=>some k=v.ownBlock) v rows:=R_tight rfl h
theorem raw_any {sz:Nat} {rows:List (List Value)} (h:(raw sz).R e w base ok v rows):(raw sz).R e w base (fun _=>True) v rows:=R_mono h (fun _ _=>trivial)
theorem N_step (h:N d e w base ok v xs) (hm:∀k,ok k→k<w.heap.size→w1.heap[k]? =w.heap[k]?):N d e w1 base ok v xs:=by
 obtain ⟨h0,rows,hl,hR,hf⟩:=h
 exact ⟨h0,rows,hl,R_step hR (fun k hk hlt=>hm k (h0 k hk.symm) hlt),fun j x c hx hc=>FK_step (hf j x c hx hc) (fun k hk hlt=>hm k hk.1 hlt)⟩
theorem N_slice (h:N d e w base ok v xs):∃A c,v= .slice A xs.length c:=by
 obtain ⟨_,rows,hl,hR,_⟩:=h
 obtain ⟨A,c,he⟩:=R_slice hR
 exact ⟨A,c,by rw[he,hl]⟩
theorem N_reads' {n c:Nat} (h:N d e w base ok (.slice A n c) xs):n=xs.length∧n≤c∧d.C w A xs.length xs:=by
 obtain ⟨_,rows,hl,hR,hf⟩:=h
 obtain ⟨hn,hc,hC⟩:=R_reads' hR
 refine ⟨by omega,hc,?_⟩
 rw[hl]at hC
 refine ⟨rfl,hC.2.1,fun hp=> ?_⟩
 obtain ⟨ad,he,hcell⟩:=hC.2.2 hp
 refine ⟨ad,he,fun j p hj=> ?_⟩
 have hjl:j<rows.length:=by have:=(List.getElem?_eq_some_iff.1 hj).1;omega
 obtain ⟨c',hcl,hK,hcc⟩:=hcell j _ (List.getElem?_eq_getElem hjl)
 have hk:=FK_now (hf j p _ hj (List.getElem?_eq_getElem hjl))
 refine ⟨c',hcl,?_,hcc⟩
 rw[show c' =rows[j]from hK.1]
 exact hk
theorem N_reads (h:N d e w base ok v xs):∃A c,v= .slice A xs.length c∧xs.length≤c∧d.C w A xs.length xs:=by
 obtain ⟨A,c,rfl⟩:=N_slice h
 exact ⟨A,c,rfl,(N_reads' h).2⟩
theorem N_F {n:Nat} (h:N d e w base ok (.slice A n cc) xs):F d w ok A n xs:=fun W' hW=>by
 have h2:=N_reads' (N_step h hW)
 rw[h2.1]
 exact h2.2.2
end
end Kd
end Go.Proofs.YtcfjomnihhdpaaaGreatDoorW.PrintWords
namespace Go.Proofs.YtcfjomnihhdpaaaGreatDoorW.PrintWords
open Go.RowKit
namespace Kd
section
variable {α:Type} {d:Kd α} {e base n cap g:Nat} {ok ok' okp:Nat→Prop} {w w1 W:World} {v v1:Value} {xs ys:List α}
theorem N_appended {rows news:List (List Value)} (h0:∀k,v.ownBlock=some k→ok k) (hl:rows.length=xs.length) (hf:∀(j:Nat) (x:α) (c:List Value),xs[j]? =some x→rows[j]? =some c→FK d W (fun k=>ok k∧some k≠v.ownBlock) x c)
  (hl2:news.length=ys.length) (hf2:∀(j:Nat) (x:α) (c:List Value),ys[j]? =some x→news[j]? =some c→FK d W okp x c) (hokp:∀k,okp k→ok k∧some k≠v.ownBlock) (hfresh:∀k,W.heap.size≤k→ok k)
  (hR:(raw d.sz).R e w1 base (fun _=>True) v1 (rows++news)) (hg:W.grownBy w1 v.ownBlock) (hat:v1.ownBlock=v.ownBlock∨∃b,v1.ownBlock=some b∧W.heap.size≤b):N d e w1 base ok v1 (xs++ys):=by
 have hne:∀k,some k≠v.ownBlock→k<W.heap.size→some k≠v1.ownBlock:=by
  intro k hk hlt
  rcases hat with hat | ⟨b,hb,hle⟩
  ·rw[hat];exact hk
  ·rw[hb]
   intro he
   injection he with he
   omega
 have step:∀{x:α} {c:List Value} {o:Nat→Prop},FK d W o x c→(∀k,o k→ok k∧some k≠v.ownBlock)→FK d w1 (fun k=>ok k∧some k≠v1.ownBlock) x c:=by
  intro x c o hq ho
  exact FK_mono (FK_step (FK_bound hq) (fun k hk hlt=>hg.block k hlt (ho k hk.1).2)) (fun k hk=>⟨(ho k hk.1).1,hne k (ho k hk.1).2 hk.2⟩)
 refine ⟨fun k hk=> ?_,rows++news,by rw[List.length_append,List.length_append,hl,hl2],raw_tight hR,fun j x c hx hc=> ?_⟩
 ·rcases hat with hat | ⟨b,hb,hle⟩
  ·exact h0 k (hat▸hk)
  ·rw[hb]at hk
   injection hk with hk
   exact hfresh k (by omega)
 ·rcases Nat.lt_or_ge j xs.length with hlt | hge
  ·rw[List.getElem?_append_left hlt]at hx
   rw[List.getElem?_append_left (by omega)]at hc
   exact step (hf j x c hx hc) (fun _ hk=>hk)
  ·rw[List.getElem?_append_right hge]at hx
   rw[List.getElem?_append_right (by omega),hl]at hc
   exact step (hf2 _ x c hx hc) hokp
theorem FK_raw {x:α} {c:List Value} (h:FK d W ok x c):c=c∧c.length=d.sz∧∀u∈c,u.oneCell' =true:=⟨rfl,d.K_len (FK_now h),d.K_one (FK_now h)⟩
theorem reads_raw {Rr:α→List Value→Prop} {sz m:Nat} {A:Option Addr} (h:ReadsRow Rr sz W A m ys) (hR:∀x c,Rr x c→c.length=sz∧∀u∈c,u.oneCell' =true) :
  ∃news:List (List Value),news.length=ys.length∧ReadsRow (fun x cs=>cs=x∧cs.length=sz∧∀u∈cs,u.oneCell' =true) sz W A m news∧∀(j:Nat) (x:α) (c:List Value),ys[j]? =some x→news[j]? =some c→Rr x c:=by
 rcases Nat.eq_zero_or_pos m with h0 | hp
 ·have hy:ys=[]:=List.eq_nil_of_length_eq_zero (h.1.trans h0)
  subst hy
  exact ⟨[],rfl,⟨h0▸rfl,h.2.1,fun hp=>by omega⟩,fun j x c hx=>by simp at hx⟩
 ·obtain ⟨ad,rfl,_⟩:=h.2.2 hp
  obtain ⟨inner,hr,hc⟩:=ReadsRow.inner_ h
  refine ⟨chunks sz ys.length inner,chunks_length _ _ _,⟨by rw[chunks_length];exact h.1,h.2.1,fun _=>⟨ad,rfl,fun j p hj=> ?_⟩⟩,fun j x c hx hcc=> ?_⟩
  ·have hjl:j<ys.length:=by have:=(List.getElem?_eq_some_iff.1 hj).1;rwa [chunks_length]at this
   have hpe:=chunks_get hj
   have hq:=hR _ _ (hr.2 j _ (List.getElem?_eq_getElem hjl))
   rw[←hpe]at hq
   refine ⟨p,hq.1,⟨rfl,hq⟩,fun i u hu=> ?_⟩
   have hu2:inner[j*sz+i]? =some u:=by
    rw[hpe,List.getElem?_take]at hu
    split at hu
    ·rw[List.getElem?_drop]at hu
     exact hu
    ·cases hu
   exact hc _ u hu2
  ·rw[chunks_get hcc]
   exact hr.2 j x hx
end
section
variable {P:Program} {ops:Array Oper} {rest:List Oper} {o:Oper} {a:Act} {Q:Exit→Act→World→Prop} {Kc:Act→World→Prop} {α:Type}
theorem N_append_rows_step (d:Kd α) {w0 W:World} (base:Nat) (hw:Region.wanted o (yielded ops a.tmps)=true) (s x:Operand) (t e:TypeId) (z:Value) (bytes:Nat)
  (ho:o.op= .call {callee:= .builtin .append,args:= #[s,x],argTypes:= #[t,t]})
  (ht:P.underlying t=some (.slice e)) (hinfo:(P.info? e).map (fun i=>(i.zero,i.size,i.bytes))=some (some z,d.sz,bytes)) (hz:z.cells.size=d.sz) (hs0:0<d.sz) (hb0:0<bytes)
  (v:Value) (xs ys:List α) (A:Option Addr) (m c:Nat) (ok okp:Nat→Prop) (hs:a.eval s=v) (hx:a.eval x= .slice A m c)
  (HO:N d e W base ok v xs) (HR:F d W okp A m ys) (hokp:∀k,okp k→ok k∧some k≠v.ownBlock) (hfresh:∀k,W.heap.size≤k→ok k)
  (HB:Below base w0 W) (hbase:base≤W.heap.size) (hl:(xs.length+m)*bytes≤140737488355328)
  (h:∀v1 w1,N d e w1 base ok v1 (xs++ys)→Below base w0 w1→W.grownBy w1 v.ownBlock→(v1.ownBlock=v.ownBlock∨∃b,v1.ownBlock=some b∧W.heap.size≤b)→Kc (a.put o.dst v1) w1) :
  if Region.wanted o (yielded ops a.tmps)=true then Oper.wp P o a W Kc Q else Kc (a.put o.dst undef) W:=by
 obtain ⟨h0,rows,hlr,hR,hf⟩:=HO
 obtain ⟨news,hnl,hnr,hnf⟩:=reads_raw (F_rows HR) (fun y c hk=>⟨d.K_len (FK_now hk),d.K_one (FK_now hk)⟩)
 refine R_append_rows_step (raw d.sz) base hw s x t e z bytes ho ht hinfo hz hs0 hb0 v rows news A m c (fun _=>True) (fun _=>False) hs hx (raw_any hR) hnr (fun _ _ hk=>hk) (fun _ hk=>hk.elim) (fun _ _=>trivial) HB hbase (by rw[hlr];exact hl) ?_
 intro v1 w1 hr hb hg hat
 exact h v1 w1 (N_appended h0 hlr hf hnl hnf hokp hfresh hr hg hat) hb hg hat
end
end Kd
end Go.Proofs.YtcfjomnihhdpaaaGreatDoorW.PrintWords
namespace Go.Proofs.YtcfjomnihhdpaaaGreatDoorW.PrintMore
open Go.RowKit Go.Proofs.YtcfjomnihhdpaaaGreatDoorW.PrintWords
theorem max2_int (k k' :IntKind) (x y:Int):Builtin.max2 (.int k x) (.int k' y)=pure (.int k (if x<y then y else x)):=by simp only[Builtin.max2,gt_iff_lt]
theorem min2_int (k k' :IntKind) (x y:Int):Builtin.min2 (.int k x) (.int k' y)=pure (.int k (if y<x then y else x)):=by simp only[Builtin.min2]
theorem max_two (ats:Array TypeId) (ty:TypeId) (a b:Value):Builtin.max_ ats ty #[a,b]=(Builtin.max2 a b >>= fun s=>pure s):=by simp only[Builtin.max_,List.foldlM_cons,List.foldlM_nil]
theorem min_two (ats:Array TypeId) (ty:TypeId) (a b:Value):Builtin.min_ ats ty #[a,b]=(Builtin.min2 a b >>= fun s=>pure s):=by simp only[Builtin.min_,List.foldlM_cons,List.foldlM_nil]
end Go.Proofs.YtcfjomnihhdpaaaGreatDoorW.PrintMore
namespace Go.Proofs.YtcfjomnihhdpaaaGreatDoorW.PrintWords
open Go.RowKit
section
variable {P:Program} {ops:Array Oper} {rest:List Oper} {o:Oper} {a:Act} {Q:Exit→Act→World→Prop} {W:World}
theorem gate_callee {f:FuncId} {as:Array Operand} {ts:Array TypeId} (_ho:o.op= .call {callee:= .value (.func f),args:=as,argTypes:=ts}) (h:wpList P ops Q (o::rest) a W):wpList P ops Q (o::rest) a W:=h
end
def mx (a b:Int):Int:=if a<b then b else a
def mn (a b:Int):Int:=if b<a then b else a
end Go.Proofs.YtcfjomnihhdpaaaGreatDoorW.PrintWords
namespace Go.Proofs.YtcfjomnihhdpaaaGreatDoorW.PrintWords
open Go.RowKit
namespace Kd
section
variable {α β:Type} {d:Kd α} {e base base' n m c g N' lo hi:Nat} {ok ok' S:Nat→Prop} {w W w1:World} {A:Option Addr} {ad:Addr} {u v v1:Value} {xs:List α}
theorem F_cut (h:F d W ok A xs.length xs) (hm:m≤xs.length) (hc:xs.length≤c):F d W ok (if c=m then A else A.map (·.add (m*d.sz))) (xs.drop m).length (xs.drop m):=F_imp h (fun _ hC=>C_drop hC hm hc)
theorem foot_int {k:IntKind} {l:List Int} (h:(Kd.int k).C w (some ad) n l) (i:Int) (h0:0≤i) (h1:i<n):w.cell? (ad.add i.toNat)=some (.int k (rd l i)):=by
 obtain ⟨ad',he,hc⟩:=at_int h i h0 h1
 injection he with he
 subst he
 exact hc
end
end Kd
end Go.Proofs.YtcfjomnihhdpaaaGreatDoorW.PrintWords
