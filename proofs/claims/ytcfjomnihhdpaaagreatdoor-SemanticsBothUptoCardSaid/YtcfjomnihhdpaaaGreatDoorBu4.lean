/-
  A part of the proof: S15, S16, S17, S18, S19, S20, S21.
-/
import Derived.Deep.RegionHeld3
import Derived.WalkLawsBesides
import Derived.Recover
import Derived.Shelf.Abstract
import Derived.Test.YtcfjomnihhdpaaaGreatDoorBu3
namespace Go.Proofs.YtcfjomnihhdpaaaGreatDoor.A
open Go.RowKit Go.Proofs.YtcfjomnihhdpaaaGreatDoorW.PrintWords Go.Proofs.YtcfjomnihhdpaaaGreatDoorW.PrintLast Go.Proofs.YtcfjomnihhdpaaaGreatDoorW.PrintMore
set_option linter.unusedVariables false
set_option linter.unusedSimpArgs false
section
structure Kp (w w' :World) (S:Nat→Prop):Prop where
 os:w'.os=w.os
 tape:w'.tape=w.tape
 output:w'.output=w.output
 size:w.heap.size≤w'.heap.size
 block:∀k,k<w.heap.size→¬S k→w'.heap[k]? =w.heap[k]?
theorem Kp.refl (w:World) (S:Nat→Prop):Kp w w S:=⟨rfl,rfl,rfl,Nat.le_refl _,fun _ _ _=>rfl⟩
theorem Kp.of_below {w w' :World} (h:Below w.heap.size w w') (S:Nat→Prop):Kp w w' S:=⟨h.os,h.tape,h.output,h.size,fun k hk _=>h.block k hk⟩
theorem Kp.mono {w w' :World} {S S' :Nat→Prop} (h:Kp w w' S) (hs:∀k,S k→S' k):Kp w w' S' :=⟨h.os,h.tape,h.output,h.size,fun k hk hn=>h.block k hk (fun hq=>hn (hs k hq))⟩
theorem Kp.then_ {w w1 w2:World} {S S2:Nat→Prop} (h:Kp w w1 S) (k:Kp w1 w2 S2) (hs:∀k,S2 k→S k∨w.heap.size≤k):Kp w w2 S :=
 ⟨k.os.trans h.os,k.tape.trans h.tape,k.output.trans h.output,Nat.le_trans h.size k.size,fun i hi hn=>(k.block i (Nat.lt_of_lt_of_le hi h.size) (fun h2=>(hs i h2).elim hn (fun h3=>by omega))).trans (h.block i hi hn)⟩
theorem Kp.below {w w1 w2:World} {S:Nat→Prop} (h:Kp w w1 S) (hb:Below w1.heap.size w1 w2):Kp w w2 S:=h.then_ (Kp.of_below hb (fun _=>False)) (fun _ hk=>hk.elim)
theorem Kp.of_grown {w w1:World} {row:Option Nat} (hg:w.grownBy w1 row):Kp w w1 (fun k=>row=some k):=⟨hg.os,hg.tape,hg.output,hg.size,fun k hk hn=>hg.block k hk (fun e=>hn e.symm)⟩
theorem Kp.setCell (w:World) (p:Addr) (u:Value):Kp w (w.setCell p u) (fun k=>k=p.block):=⟨rfl,rfl,rfl,by simp[World.setCell],fun k _ hn=>Below.heap_setCell w p u k hn⟩
theorem Kp.toBelow {w w' :World} {S:Nat→Prop} {B:Nat} (h:Kp w w' S) (hB:B≤w.heap.size) (hs:∀k,S k→B≤k):Below B w w' :=
 ⟨h.os,h.tape,h.output,h.size,fun k hk=>h.block k (Nat.lt_of_lt_of_le hk hB) (fun hq=>by have:=hs k hq;omega)⟩
theorem Kp.blk {w w' :World} {S:Nat→Prop} {g:Nat} {o:Obj} (h:w.heap[g]? =some o) (hk:Kp w w' S) (hn:¬S g):w'.heap[g]? =some o:=(hk.block g (blk_lt h) hn).trans h
def Row {α:Type} (d:Kd α) (e:Nat) (w:World) (inn:Nat→Prop) (v:Value) (xs:List α):Prop :=
 ∃rows:List (List Value),rows.length=xs.length∧(Kd.raw d.sz).R e w 0 (fun k=>some k=v.ownBlock) v rows∧∀(j:Nat) (x:α) (c:List Value),xs[j]? =some x→rows[j]? =some c→Kd.FK d w inn x c
section
variable {α:Type} {d:Kd α} {e:Nat} {w w1 W:World} {inn inn' ok:Nat→Prop} {v:Value} {xs:List α}
theorem Row.nil (d:Kd α) (e:Nat) (w:World) (inn:Nat→Prop):Row d e w inn (.slice none 0 0) []:=⟨[],rfl,Kd.R_nil _ _ _ _ _,fun _ _ _ h=>by simp at h⟩
theorem Row.step (h:Row d e w inn v xs) (ho:∀k,v.ownBlock=some k→w1.heap[k]? =w.heap[k]?) (hi:∀k,inn k→k<w.heap.size→w1.heap[k]? =w.heap[k]?):Row d e w1 inn v xs:=by
 obtain ⟨rows,hl,hR,hf⟩:=h
 exact ⟨rows,hl,Kd.R_step hR (fun k hk _=>ho k hk.symm),fun j x c hx hc=>Kd.FK_step (hf j x c hx hc) hi⟩
theorem Row.lt (h:Row d e w inn v xs):∀k,v.ownBlock=some k→k<w.heap.size:=by
 obtain ⟨rows,hl,hR,hf⟩:=h
 exact Kd.R_lt hR
theorem Row.slice (h:Row d e w inn v xs):∃A c,v= .slice A xs.length c:=by
 obtain ⟨rows,hl,hR,_⟩:=h
 obtain ⟨A,c,he⟩:=Kd.R_slice hR
 exact ⟨A,c,by rw[he,hl]⟩
theorem Row.reads' {A:Option Addr} {n c:Nat} (h:Row d e w inn (.slice A n c) xs):n=xs.length∧n≤c∧d.C w A xs.length xs:=by
 obtain ⟨rows,hl,hR,hf⟩:=h
 obtain ⟨hn,hc,hC⟩:=Kd.R_reads' hR
 refine ⟨by omega,hc,?_⟩
 rw[hl]at hC
 refine ⟨rfl,hC.2.1,fun hp=> ?_⟩
 obtain ⟨ad,he,hcell⟩:=hC.2.2 hp
 refine ⟨ad,he,fun j p hj=> ?_⟩
 have hjl:j<rows.length:=by have:=(List.getElem?_eq_some_iff.1 hj).1;omega
 obtain ⟨c',hcl,hK,hcc⟩:=hcell j _ (List.getElem?_eq_getElem hjl)
 have hk:=Kd.FK_now (hf j p _ hj (List.getElem?_eq_getElem hjl))
 refine ⟨c',hcl,?_,hcc⟩
 rw[show c' =rows[j]from hK.1]
 exact hk
theorem Row.appended {rows:List (List Value)} {x:α} {c:List Value} {v1:Value} (hl:rows.length=xs.length) (hf:∀(j:Nat) (x:α) (c:List Value),xs[j]? =some x→rows[j]? =some c→Kd.FK d W inn x c)
  (hx:Kd.FK d W inn x c) (hR:(Kd.raw d.sz).R e w1 0 (fun _=>True) v1 (rows++[c])) (hg:W.grownBy w1 v.ownBlock) (hin:∀k,inn k→some k≠v.ownBlock):Row d e w1 inn v1 (xs++[x]):=by
 refine ⟨rows++[c],by simp[hl],Kd.raw_tight hR,fun j y c' hy hc=> ?_⟩
 rcases Nat.lt_or_ge j xs.length with hj | hj
 ·rw[List.getElem?_append_left hj]at hy
  rw[List.getElem?_append_left (by omega)]at hc
  exact Kd.FK_grown (hf j y c' hy hc) hg hin
 ·rw[List.getElem?_append_right hj]at hy
  rw[List.getElem?_append_right (by omega)]at hc
  have h0:j-xs.length=0:=by
   have:=(List.getElem?_eq_some_iff.1 hy).1
   simp at this
   omega
  rw[h0]at hy
  rw[hl,h0]at hc
  simp at hy hc
  subst hy
  subst hc
  exact Kd.FK_grown hx hg hin
end
section
variable {P:Program} {ops:Array Oper} {rest:List Oper} {o:Oper} {a:Act} {Q:Exit→Act→World→Prop} {Kc:Act→World→Prop} {α:Type}
theorem Row.append (d:Kd α) {W:World} (hgd:o.guard=none) (s x:Operand) (t e:TypeId) (z:Value) (bytes:Nat)
  (ho:o.op= .call {callee:= .builtin .append,args:= #[s,x],argTypes:= #[t,t]})
  (ht:P.underlying t=some (.slice e)) (hinfo:(P.info? e).map (fun i=>(i.zero,i.size,i.bytes))=some (some z,d.sz,bytes)) (hz:z.cells.size=d.sz) (hs0:0<d.sz) (hb0:0<bytes)
  (v:Value) (xs:List α) (p:α) (cs:List Value) (inn:Nat→Prop) (hs:a.eval s=v) (hx:a.eval x= .slice (some ⟨W.heap.size,0,none⟩) 1 1) (hp:Kd.FK d W inn p cs) (hin:∀k,inn k→some k≠v.ownBlock)
  (HO:Row d e W inn v xs) (hl:(xs.length+1)*bytes≤140737488355328)
  (h:∀v1 w1,Row d e w1 inn v1 (xs++[p])→W.grownBy w1 v.ownBlock→(v1.ownBlock=v.ownBlock∨∃b,v1.ownBlock=some b∧W.heap.size≤b)→wpList P ops Q rest (a.put o.dst v1) w1) :
  wpList P ops Q (o::rest) a (W.alloc (.cells cs.toArray e)):=by
 obtain ⟨rows,hlr,hR,hf⟩:=HO
 refine Kd.R_append (Kd.raw d.sz) (w0:=W) 0 hgd s x t e z bytes ho ht hinfo hz hs0 hb0 v rows cs cs (fun _=>True) (fun _=>False) hs hx (Kd.FK_raw hp) (fun _ hk=>hk.elim) (fun _ _=>trivial) (Kd.raw_any hR) (Below.refl 0 W) (Nat.zero_le _) (by rw[hlr];exact hl) ?_
 intro v1 w1 hR1 _ hg hat
 exact h v1 w1 (Row.appended hlr hf hp hR1 hg hin) hg hat
theorem Row.append_step (d:Kd α) {W:World} (hw:Region.wanted o (yielded ops a.tmps)=true) (s x:Operand) (t e:TypeId) (z:Value) (bytes:Nat)
  (ho:o.op= .call {callee:= .builtin .append,args:= #[s,x],argTypes:= #[t,t]})
  (ht:P.underlying t=some (.slice e)) (hinfo:(P.info? e).map (fun i=>(i.zero,i.size,i.bytes))=some (some z,d.sz,bytes)) (hz:z.cells.size=d.sz) (hs0:0<d.sz) (hb0:0<bytes)
  (v:Value) (xs:List α) (p:α) (cs:List Value) (inn:Nat→Prop) (hs:a.eval s=v) (hx:a.eval x= .slice (some ⟨W.heap.size,0,none⟩) 1 1) (hp:Kd.FK d W inn p cs) (hin:∀k,inn k→some k≠v.ownBlock)
  (HO:Row d e W inn v xs) (hl:(xs.length+1)*bytes≤140737488355328)
  (h:∀v1 w1,Row d e w1 inn v1 (xs++[p])→W.grownBy w1 v.ownBlock→(v1.ownBlock=v.ownBlock∨∃b,v1.ownBlock=some b∧W.heap.size≤b)→Kc (a.put o.dst v1) w1) :
  if Region.wanted o (yielded ops a.tmps)=true then Oper.wp P o a (W.alloc (.cells cs.toArray e)) Kc Q else Kc (a.put o.dst undef) (W.alloc (.cells cs.toArray e)):=by
 obtain ⟨rows,hlr,hR,hf⟩:=HO
 refine Kd.R_append_step (Kd.raw d.sz) (w0:=W) 0 hw s x t e z bytes ho ht hinfo hz hs0 hb0 v rows cs cs (fun _=>True) (fun _=>False) hs hx (Kd.FK_raw hp) (fun _ hk=>hk.elim) (fun _ _=>trivial) (Kd.raw_any hR) (Below.refl 0 W) (Nat.zero_le _) (by rw[hlr];exact hl) ?_
 intro v1 w1 hR1 _ hg hat
 exact h v1 w1 (Row.appended hlr hf hp hR1 hg hin) hg hat
end
structure Tm where
 kind:Int
 name:ByteArray
 index:Int
 sort:ByteArray
def tmV (x:Tm):Value:= .agg #[.int .i64 x.kind,.string x.name,.int .i64 x.index,.string x.sort]
def refP (x:Tm) (depth:Int):S59:=if x.kind=1 then ⟨x.kind,wrap64 (wrap64 (depth-1)-x.index),⟨#[]⟩⟩else if x.kind=2 then ⟨x.kind,0,x.name⟩else ⟨x.kind,x.index,⟨#[]⟩⟩
def refV (r:S59):Value:= .agg #[.int .i64 r.f0,.int .i64 r.f1,.string r.f2]
structure S70 where
 f0:S37
 f1:Int
 f2:Int
 f3:Bool
def z70:S70:=⟨z37,0,0,false⟩
def k70:Kd S70:=Kd.iso (Kd.pair k37 (Kd.pair (Kd.int .i64) (Kd.pair (Kd.int .i64) Kd.bool))) (fun x:S70=>(x.f0,x.f1,x.f2,x.f3))
theorem k70_open {w:World} {x:S70} {cs:List Value} (h:k70.K w x cs):∃A2 c2 A5 c5,cs=[.int .i64 x.f0.f0,.string x.f0.f1,.slice A2 x.f0.f2.length c2,.int .i64 x.f0.f3,.int .i64 x.f0.f4,.slice A5 x.f0.f5.length c5,.int .i64 x.f1,.int .i64 x.f2,.bool x.f3]∧x.f0.f2.length≤c2∧k59.C w A2 x.f0.f2.length x.f0.f2∧x.f0.f5.length≤c5∧k37.C w A5 x.f0.f5.length x.f0.f5:=by
 obtain ⟨_,_,rfl,g0,⟨_,_,rfl,rfl,⟨_,_,rfl,rfl,rfl⟩⟩⟩:=h
 obtain ⟨A2,c2,A5,c5,rfl,l2,g2,l5,g5⟩:=k37_open g0
 exact ⟨A2,c2,A5,c5,rfl,l2,g2,l5,g5⟩
theorem k70_mk (w:World) (x:S70) {A2:Option Addr} {c2:Nat} (l2:x.f0.f2.length≤c2) (g2:k59.C w A2 x.f0.f2.length x.f0.f2) {A5:Option Addr} {c5:Nat} (l5:x.f0.f5.length≤c5) (g5:k37.C w A5 x.f0.f5.length x.f0.f5) :
  k70.K w x [.int .i64 x.f0.f0,.string x.f0.f1,.slice A2 x.f0.f2.length c2,.int .i64 x.f0.f3,.int .i64 x.f0.f4,.slice A5 x.f0.f5.length c5,.int .i64 x.f1,.int .i64 x.f2,.bool x.f3] :=
 ⟨[.int .i64 x.f0.f0,.string x.f0.f1,.slice A2 x.f0.f2.length c2,.int .i64 x.f0.f3,.int .i64 x.f0.f4,.slice A5 x.f0.f5.length c5],[.int .i64 x.f1,.int .i64 x.f2,.bool x.f3],rfl,k37_mk w x.f0 l2 g2 l5 g5,⟨[.int .i64 x.f1],[.int .i64 x.f2,.bool x.f3],rfl,rfl,⟨[.int .i64 x.f2],[.bool x.f3],rfl,rfl,rfl⟩⟩⟩
def rd_T70 (xs:List S70) (i:Int):S70:=xs.getD i.toNat z70
theorem k70_openF {W:World} {ok:Nat→Prop} {x:S70} {cs:List Value} (h:Kd.FK k70 W ok x cs):∃A2 c2 A5 c5,cs=[.int .i64 x.f0.f0,.string x.f0.f1,.slice A2 x.f0.f2.length c2,.int .i64 x.f0.f3,.int .i64 x.f0.f4,.slice A5 x.f0.f5.length c5,.int .i64 x.f1,.int .i64 x.f2,.bool x.f3]∧x.f0.f2.length≤c2∧Kd.F k59 W ok A2 x.f0.f2.length x.f0.f2∧x.f0.f5.length≤c5∧Kd.F k37 W ok A5 x.f0.f5.length x.f0.f5:=by
 obtain ⟨A2,c2,A5,c5,rfl,l2,_,l5,_⟩:=k70_open (Kd.FK_now h)
 exact ⟨A2,c2,A5,c5,rfl,l2,(fun W' hW=>by obtain ⟨A2_,c2_,A5_,c5_,he,l2_,g2_,l5_,g5_⟩:=k70_open (h W' hW);injection (Option.some.inj (show some (Value.slice A2 x.f0.f2.length c2)=some (Value.slice A2_ x.f0.f2.length c2_)from congrArg (fun l=>l[2]?) he))with ha_ _ _;rw[ha_];exact g2_),l5,(fun W' hW=>by obtain ⟨A2_,c2_,A5_,c5_,he,l2_,g2_,l5_,g5_⟩:=k70_open (h W' hW);injection (Option.some.inj (show some (Value.slice A5 x.f0.f5.length c5)=some (Value.slice A5_ x.f0.f5.length c5_)from congrArg (fun l=>l[5]?) he))with ha_ _ _;rw[ha_];exact g5_)⟩
theorem Row.F {α:Type} {d:Kd α} {e:Nat} {w:World} {inn:Nat→Prop} {A:Option Addr} {n c:Nat} {xs:List α} (h:Row d e w inn (.slice A n c) xs):Kd.F d w (fun k=>inn k∨some k=(Value.slice A n c).ownBlock) A xs.length xs:=fun W' hW =>
 (h.step (w1:=W') (fun k hk=>hW k (.inr hk.symm) (h.lt k hk)) (fun k hk hlt=>hW k (.inl hk) hlt)).reads'.2.2
def mnW (m:S70) (A2:Option Addr) (c2:Nat) (A5:Option Addr) (c5:Nat):Value:= .agg #[.int .i64 m.f0.f0,.string m.f0.f1,.slice A2 m.f0.f2.length c2,.int .i64 m.f0.f3,.int .i64 m.f0.f4,.slice A5 m.f0.f5.length c5,.int .i64 m.f1,.int .i64 m.f2,.bool m.f3]
def MnV (w:World) (ok:Nat→Prop) (v:Value) (m:S70):Prop:=∃A2 c2 A5 c5,v=mnW m A2 c2 A5 c5∧m.f0.f2.length≤c2∧Kd.F k59 w ok A2 m.f0.f2.length m.f0.f2∧m.f0.f5.length≤c5∧Kd.F k37 w ok A5 m.f0.f5.length m.f0.f5
section
variable {w w1:World} {ok ok' :Nat→Prop} {v:Value} {m:S70}
theorem MnV.step (h:MnV w ok v m) (hm:∀k,ok k→k<w.heap.size→w1.heap[k]? =w.heap[k]?):MnV w1 ok v m:=by
 obtain ⟨A2,c2,A5,c5,e,l2,g2,l5,g5⟩:=h
 exact ⟨A2,c2,A5,c5,e,l2,Kd.F_step g2 hm,l5,Kd.F_step g5 hm⟩
theorem MnV.below (h:MnV w ok v m) (hB:Below w.heap.size w w1):MnV w1 ok v m:=h.step (fun k _ hk=>hB.block k hk)
theorem MnV.mono (h:MnV w ok v m) (hi:∀k,ok k→ok' k):MnV w ok' v m:=by
 obtain ⟨A2,c2,A5,c5,e,l2,g2,l5,g5⟩:=h
 exact ⟨A2,c2,A5,c5,e,l2,Kd.F_mono g2 hi,l5,Kd.F_mono g5 hi⟩
theorem MnV.bound (h:MnV w ok v m):MnV w (fun k=>ok k∧k<w.heap.size) v m:=by
 obtain ⟨A2,c2,A5,c5,e,l2,g2,l5,g5⟩:=h
 exact ⟨A2,c2,A5,c5,e,l2,Kd.F_bound g2,l5,Kd.F_bound g5⟩
end
theorem fin3 {W:World} {g:Nat} {e:TypeId} {x y z:Value} (h:W.heap[g]? =some (.cells #[x,y,z] e (0,0))) (a b c:Value):(((W.setCell ⟨g,0,none⟩ a).setCell ⟨g,1,none⟩ b).setCell ⟨g,2,none⟩ c).heap[g]? =some (.cells #[a,b,c] e (0,0)):=by
 have:=blk_set (blk_set (blk_set h 0 a) 1 b) 2 c
 simpa using this
theorem new2 (w:World) (o o' :Obj):((w.alloc o).alloc o').heap[w.heap.size+1]? =some o' :=by
 have:=heap_alloc_new (w.alloc o) o'
 rwa [show (w.alloc o).heap.size=w.heap.size+1 by simp]at this
theorem fin3_below {w W:World} {g:Nat} (h:Below w.heap.size w W) (hg:w.heap.size≤g) (a b c:Value):Below w.heap.size w (((W.setCell ⟨g,0,none⟩ a).setCell ⟨g,1,none⟩ b).setCell ⟨g,2,none⟩ c) :=
 below_set (j:=2) (v:=c) (below_set (j:=1) (v:=b) (below_set (j:=0) (v:=a) h hg) hg) hg
set_option maxHeartbeats 400000 in
set_option maxRecDepth 100000 in
theorem ref_calls (w:World) (x:Tm) (depth:Int):Calls Tryz.prog 128 #[tmV x,.int .i64 depth] w fun e w' =>e= .returned (refV (refP x depth))∧Below w.heap.size w w' :=by
 obtain ⟨k,n,i,s⟩:=x
 unfold refP
 simp only
 by_cases h1:k=1
 ·subst h1
  rw[if_pos rfl]
  unfold tmV refV
  simp only
  go_enter Tryz.func128,Tryz.ntmps128
  go_wp2
  refine bodyPost_ret (results_single rfl (.cell (w.heap.size+1) 59 _ (0,0) _ rfl (new2 w _ _) Tryz.underlying59 rfl (by kernel_rfl) .nil)) rfl ?_
  exact ⟨rfl,below_alloc (below_alloc (Below.refl _ _) _) _⟩
 ·rw[if_neg h1]
  have e1:(k == 1)=false:=beq_eq_false_iff_ne.mpr h1
  have H1:=Aside0.mk h1
  clear h1
  by_cases h2:k=2
  ·subst h2
   rw[if_pos rfl]
   unfold tmV refV
   simp only
   go_enter Tryz.func128,Tryz.ntmps128
   go_wp2
   refine bodyPost_ret (results_single rfl (.cell (w.heap.size+1) 59 _ (0,0) _ rfl (new2 w _ _) Tryz.underlying59 rfl (by kernel_rfl) .nil)) rfl ?_
   exact ⟨rfl,below_alloc (below_alloc (Below.refl _ _) _) _⟩
  ·rw[if_neg h2]
   have e2:(k == 2)=false:=beq_eq_false_iff_ne.mpr h2
   clear h2
   unfold tmV refV
   simp only
   go_enter Tryz.func128,Tryz.ntmps128
   go_wp2
   refine bodyPost_ret (results_single rfl (.cell (w.heap.size+1) 59 _ (0,0) _ rfl (new2 w _ _) Tryz.underlying59 rfl (by kernel_rfl) .nil)) rfl ?_
   exact ⟨rfl,below_alloc (below_alloc (Below.refl _ _) _) _⟩
end
def szF (s:Int) (k:S70):Int:=mn (wrap64 (s+k.f1)) 1073741824
def dpF (d:Int) (k:S70):Int:=mx d k.f2
def nodeP (op:Int) (name:ByteArray) (fr tl:Int) (ks:List S70):S70:=⟨⟨op,name,[],fr,tl,ks.map (·.f0)⟩,ks.foldl szF 1,wrap64 (ks.foldl dpF 0+1),ks.any (·.f3)⟩
theorem at_F70 {w:World} {ok:Nat→Prop} {A:Option Addr} {n:Nat} {xs:List S70} (h:Kd.F k70 w ok A n xs) (i:Int) (h0:0≤i) (h1:i<n):∃ad A2 c2 A5 c5,A=some ad∧w.cell? (ad.add (i.toNat*9))=some (.int .i64 (rd_T70 xs i).f0.f0)∧w.cell? ⟨(ad.add (i.toNat*9)).block,(ad.add (i.toNat*9)).off+1,none⟩=some (.string (rd_T70 xs i).f0.f1)∧w.cell? ⟨(ad.add (i.toNat*9)).block,(ad.add (i.toNat*9)).off+2,none⟩=some (.slice A2 (rd_T70 xs i).f0.f2.length c2)∧w.cell? ⟨(ad.add (i.toNat*9)).block,(ad.add (i.toNat*9)).off+3,none⟩=some (.int .i64 (rd_T70 xs i).f0.f3)∧w.cell? ⟨(ad.add (i.toNat*9)).block,(ad.add (i.toNat*9)).off+4,none⟩=some (.int .i64 (rd_T70 xs i).f0.f4)∧w.cell? ⟨(ad.add (i.toNat*9)).block,(ad.add (i.toNat*9)).off+5,none⟩=some (.slice A5 (rd_T70 xs i).f0.f5.length c5)∧w.cell? ⟨(ad.add (i.toNat*9)).block,(ad.add (i.toNat*9)).off+6,none⟩=some (.int .i64 (rd_T70 xs i).f1)∧w.cell? ⟨(ad.add (i.toNat*9)).block,(ad.add (i.toNat*9)).off+7,none⟩=some (.int .i64 (rd_T70 xs i).f2)∧w.cell? ⟨(ad.add (i.toNat*9)).block,(ad.add (i.toNat*9)).off+8,none⟩=some (.bool (rd_T70 xs i).f3)∧(rd_T70 xs i).f0.f2.length≤c2∧Kd.F k59 w ok A2 (rd_T70 xs i).f0.f2.length (rd_T70 xs i).f0.f2∧(rd_T70 xs i).f0.f5.length≤c5∧Kd.F k37 w ok A5 (rd_T70 xs i).f0.f5.length (rd_T70 xs i).f0.f5:=by
 obtain ⟨ad,c,e,_,hK,hc0,_⟩:=Kd.F_get h z70 i h0 h1
 have hc:∀j u,c[j]? =some u→w.cell? (ad.add (i.toNat*9+j))=some u:=hc0
 obtain ⟨A2,c2,A5,c5,rfl,l2,g2,l5,g5⟩:=k70_openF hK
 exact ⟨ad,A2,c2,A5,c5,e,hc 0 _ rfl,by rw[←add_field _ _ 1 (by omega)];exact hc 1 _ rfl,by rw[←add_field _ _ 2 (by omega)];exact hc 2 _ rfl,by rw[←add_field _ _ 3 (by omega)];exact hc 3 _ rfl,by rw[←add_field _ _ 4 (by omega)];exact hc 4 _ rfl,by rw[←add_field _ _ 5 (by omega)];exact hc 5 _ rfl,by rw[←add_field _ _ 6 (by omega)];exact hc 6 _ rfl,by rw[←add_field _ _ 7 (by omega)];exact hc 7 _ rfl,by rw[←add_field _ _ 8 (by omega)];exact hc 8 _ rfl,l2,g2,l5,g5⟩
theorem min_run (ats:Array TypeId) (ty:TypeId) (a b:Int) (W:World):(Builtin.min_ ats ty #[.int .i64 a,.int .i64 b]).run Tryz.prog W= .ok (.int .i64 (mn a b)) W:=by
 rw[min_two,min2_int];rfl
theorem max_run (ats:Array TypeId) (ty:TypeId) (a b:Int) (W:World):(Builtin.max_ ats ty #[.int .i64 a,.int .i64 b]).run Tryz.prog W= .ok (.int .i64 (mx a b)) W:=by
 rw[max_two,max2_int];rfl
theorem take_rd70 (l:List S70) (x:Int) (h0:0≤x) (h1:x<l.length):l.take (x+1).toNat=l.take x.toNat++[rd_T70 l x]:=by
 have e:(x+1).toNat=x.toNat+1:=by omega
 rw[e,List.take_succ_eq_append_getElem (by omega)]
 unfold rd_T70
 rw[List.getD_eq_getElem?_getD,List.getElem?_eq_getElem (by omega)]
 rfl
theorem blk_grownBy {W w1:World} {row:Option Nat} {k:Nat} {o:Obj} (hg:W.grownBy w1 row) (h:W.heap[k]? =some o) (hne:some k≠row):w1.heap[k]? =some o:=(hg.block k (blk_lt h) hne).trans h
structure NodeSt (w:World) (ok:Nat→Prop) (wr:World) (op:Int) (name:ByteArray) (fr tl:Int) (ks:List S70) (v:Value):Prop where
 out:wr.heap[w.heap.size+1+1]? =some (.cells #[.int .i64 op,.string name,.slice none 0 0,.int .i64 fr,.int .i64 tl,v,.int .i64 (ks.foldl szF 1),.int .i64 (ks.foldl dpF 0),.bool (ks.any (·.f3))] 70 (0,0))
 res:wr.heap[w.heap.size+1]? =some (.cells #[.int .i64 0,.string ⟨#[]⟩,.slice none 0 0,.int .i64 0,.int .i64 0,.slice none 0 0,.int .i64 0,.int .i64 0,.bool false] 70 (0,0))
 row:Row k37 37 wr (fun k=>ok k∧k<w.heap.size) v (ks.map (·.f0))
 far:∀k,v.ownBlock=some k→w.heap.size+3≤k
 below:Below w.heap.size w wr
theorem NodeSt.elem {w W:World} {ok:Nat→Prop} {p:S37} {A2 A5:Option Addr} {c2 c5:Nat} (hB:Below w.heap.size w W) (l2:p.f2.length≤c2) (g2:Kd.F k59 w ok A2 p.f2.length p.f2) (l5:p.f5.length≤c5) (g5:Kd.F k37 w ok A5 p.f5.length p.f5) :
  Kd.FK k37 W (fun k=>ok k∧k<w.heap.size) p [.int .i64 p.f0,.string p.f1,.slice A2 p.f2.length c2,.int .i64 p.f3,.int .i64 p.f4,.slice A5 p.f5.length c5]:=fun W' hW=>by
 have hm:∀k,ok k→k<w.heap.size→W'.heap[k]? =w.heap[k]? :=fun k ho hk=>(hW k ⟨ho,hk⟩ (Nat.lt_of_lt_of_le hk hB.size)).trans (hB.block k hk)
 exact k37_mk W' p l2 (g2 W' hm) l5 (g5 W' hm)
theorem NodeSt.next {w wr w1:World} {ok:Nat→Prop} {op:Int} {name:ByteArray} {fr tl:Int} {ks:List S70} {k:S70} {v v1:Value} {o:Obj} (h:NodeSt w ok wr op name fr tl ks v) (hR:Row k37 37 w1 (fun k=>ok k∧k<w.heap.size) v1 (ks.map (·.f0)++[k.f0])) (hG:(wr.alloc o).grownBy w1 v.ownBlock) (hat:v1.ownBlock=v.ownBlock∨∃b,v1.ownBlock=some b∧(wr.alloc o).heap.size≤b) :
  NodeSt w ok ((((w1.setCell ⟨w.heap.size+1+1,5,none⟩ v1).setCell ⟨w.heap.size+1+1,6,none⟩ (.int .i64 (mn (wrap64 (ks.foldl szF 1+k.f1)) 1073741824))).setCell ⟨w.heap.size+1+1,7,none⟩ (.int .i64 (mx (ks.foldl dpF 0) k.f2))).setCell ⟨w.heap.size+1+1,8,none⟩ (.bool (ks.any (·.f3) || k.f3))) op name fr tl (ks++[k]) v1:=by
 have hlt:=blk_lt h.out
 have hne:∀j,j=w.heap.size+1+1∨j=w.heap.size+1→some j≠v.ownBlock:=fun j hj e=>by have:=h.far j e.symm;omega
 have q:=blk_set (blk_set (blk_set (blk_set (blk_grownBy hG (blk_alloc h.out o) (hne _ (.inl rfl))) 5 v1) 6 (.int .i64 (mn (wrap64 (ks.foldl szF 1+k.f1)) 1073741824))) 7 (.int .i64 (mx (ks.foldl dpF 0) k.f2))) 8 (.bool (ks.any (·.f3) || k.f3))
 have r:=blk_far (p:=⟨w.heap.size+1+1,8,none⟩) (blk_far (p:=⟨w.heap.size+1+1,7,none⟩) (blk_far (p:=⟨w.heap.size+1+1,6,none⟩) (blk_far (p:=⟨w.heap.size+1+1,5,none⟩) (blk_grownBy hG (blk_alloc h.res o) (hne _ (.inr rfl))) (show w.heap.size+1≠w.heap.size+1+1 by omega) v1) (show w.heap.size+1≠w.heap.size+1+1 by omega) (.int .i64 (mn (wrap64 (ks.foldl szF 1+k.f1)) 1073741824))) (show w.heap.size+1≠w.heap.size+1+1 by omega) (.int .i64 (mx (ks.foldl dpF 0) k.f2))) (show w.heap.size+1≠w.heap.size+1+1 by omega) (.bool (ks.any (·.f3) || k.f3))
 have hfar1:∀j,v1.ownBlock=some j→w.heap.size+3≤j:=fun j e=>by
  rcases hat with ha | ⟨b,ha,hb⟩
  ·exact h.far j (ha.symm.trans e)
  ·rw[ha]at e
   injection e with e
   simp at hb
   omega
 refine ⟨?_,r,?_,hfar1,?_⟩
 ·rw[List.foldl_append,List.foldl_append,List.any_append]
  simp only[List.foldl_cons,List.foldl_nil,List.any_cons,List.any_nil,Bool.or_false]
  have e1:szF (ks.foldl szF 1) k=mn (wrap64 (ks.foldl szF 1+k.f1)) 1073741824:=rfl
  have e2:dpF (ks.foldl dpF 0) k=mx (ks.foldl dpF 0) k.f2:=rfl
  rw[e1,e2]
  simpa using q
 ·rw[List.map_append]
  have hs:∀j,j≠w.heap.size+1+1→((((w1.setCell ⟨w.heap.size+1+1,5,none⟩ v1).setCell ⟨w.heap.size+1+1,6,none⟩ (.int .i64 (mn (wrap64 (ks.foldl szF 1+k.f1)) 1073741824))).setCell ⟨w.heap.size+1+1,7,none⟩ (.int .i64 (mx (ks.foldl dpF 0) k.f2))).setCell ⟨w.heap.size+1+1,8,none⟩ (.bool (ks.any (·.f3) || k.f3))).heap[j]? =w1.heap[j]? :=fun j hj =>
   (Below.heap_setCell _ ⟨w.heap.size+1+1,8,none⟩ _ j hj).trans ((Below.heap_setCell _ ⟨w.heap.size+1+1,7,none⟩ _ j hj).trans ((Below.heap_setCell _ ⟨w.heap.size+1+1,6,none⟩ _ j hj).trans (Below.heap_setCell _ ⟨w.heap.size+1+1,5,none⟩ _ j hj)))
  exact hR.step (fun j e=>hs j (by have:=hfar1 j e;omega)) (fun j hj _=>hs j (by have:=hj.2;omega))
 ·exact below_set (below_set (below_set (below_set ((below_alloc h.below o).grown hG (by have:=h.below.size;simp;omega) (fun j e=>by have:=h.far j e;omega)) (by omega)) (by omega)) (by omega)) (by omega)
def set9 (W:World) (g:Nat) (a0 a1 a2 a3 a4 a5 a6 a7 a8:Value):World:=(((((((((W.setCell ⟨g,0,none⟩ a0).setCell ⟨g,1,none⟩ a1).setCell ⟨g,2,none⟩ a2).setCell ⟨g,3,none⟩ a3).setCell ⟨g,4,none⟩ a4).setCell ⟨g,5,none⟩ a5).setCell ⟨g,6,none⟩ a6).setCell ⟨g,7,none⟩ a7).setCell ⟨g,8,none⟩ a8)
theorem fin9 {W:World} {g:Nat} {e:TypeId} {x0 x1 x2 x3 x4 x5 x6 x7 x8:Value} (h:W.heap[g]? =some (.cells #[x0,x1,x2,x3,x4,x5,x6,x7,x8] e (0,0))) (a0 a1 a2 a3 a4 a5 a6 a7 a8:Value):(set9 W g a0 a1 a2 a3 a4 a5 a6 a7 a8).heap[g]? =some (.cells #[a0,a1,a2,a3,a4,a5,a6,a7,a8] e (0,0)):=by
 have:=blk_set (blk_set (blk_set (blk_set (blk_set (blk_set (blk_set (blk_set (blk_set h 0 a0) 1 a1) 2 a2) 3 a3) 4 a4) 5 a5) 6 a6) 7 a7) 8 a8
 unfold set9
 simpa using this
theorem fin9_far {W:World} {g k:Nat} (hk:k≠g) (a0 a1 a2 a3 a4 a5 a6 a7 a8:Value):(set9 W g a0 a1 a2 a3 a4 a5 a6 a7 a8).heap[k]? =W.heap[k]? :=
 (Below.heap_setCell _ ⟨g,8,none⟩ _ k hk).trans ((Below.heap_setCell _ ⟨g,7,none⟩ _ k hk).trans ((Below.heap_setCell _ ⟨g,6,none⟩ _ k hk).trans ((Below.heap_setCell _ ⟨g,5,none⟩ _ k hk).trans ((Below.heap_setCell _ ⟨g,4,none⟩ _ k hk).trans ((Below.heap_setCell _ ⟨g,3,none⟩ _ k hk).trans ((Below.heap_setCell _ ⟨g,2,none⟩ _ k hk).trans ((Below.heap_setCell _ ⟨g,1,none⟩ _ k hk).trans (Below.heap_setCell _ ⟨g,0,none⟩ _ k hk))))))))
theorem fin9_below {w W:World} {g:Nat} (h:Below w.heap.size w W) (hg:w.heap.size≤g) (a0 a1 a2 a3 a4 a5 a6 a7 a8:Value):Below w.heap.size w (set9 W g a0 a1 a2 a3 a4 a5 a6 a7 a8) :=
 below_set (j:=8) (v:=a8) (below_set (j:=7) (v:=a7) (below_set (j:=6) (v:=a6) (below_set (j:=5) (v:=a5) (below_set (j:=4) (v:=a4) (below_set (j:=3) (v:=a3) (below_set (j:=2) (v:=a2) (below_set (j:=1) (v:=a1) (below_set (j:=0) (v:=a0) h hg) hg) hg) hg) hg) hg) hg) hg) hg
set_option maxHeartbeats 2000000 in
set_option maxRecDepth 100000 in
theorem node_nil (w:World) (ok:Nat→Prop) (op:Int) (name:ByteArray) (fr tl:Int) (A:Option Addr) (c:Nat) (ks:List S70) (h:Kd.F k70 w ok A ks.length ks) (hl:ks.length≤1000000) :
  Calls Tryz.prog 60 #[.agg #[.int .i64 op,.string name,.slice none 0 0,.int .i64 fr,.int .i64 tl,.slice none 0 0],.slice A ks.length c] w fun e w' =>(∃A5 c5,e= .returned (mnW (nodeP op name fr tl ks) none 0 A5 c5)∧MnV w' (fun k=>ok k∨w.heap.size≤k) (mnW (nodeP op name fr tl ks) none 0 A5 c5) (nodeP op name fr tl ks))∧Below w.heap.size w w' :=by
 have HC:=Aside0.mk h
 clear h
 go_enter Tryz.func60,Tryz.ntmps60
 go_wp2
 have HS:Aside0 (NodeSt w ok (((w.alloc (.cells #[.int .i64 op,.string name,.slice none 0 0,.int .i64 fr,.int .i64 tl,.slice none 0 0] 37)).alloc (.cells #[.int .i64 0,.string ⟨#[]⟩,.slice none 0 0,.int .i64 0,.int .i64 0,.slice none 0 0,.int .i64 0,.int .i64 0,.bool false] 70)).alloc (.cells #[.int .i64 op,.string name,.slice none 0 0,.int .i64 fr,.int .i64 tl,.slice none 0 0,.int .i64 1,.int .i64 0,.bool false] 70)) op name fr tl (ks.take (0:Int).toNat) (.slice none 0 0)):=⟨by
  refine ⟨?_,blk_alloc (new2 _ _ _) _,Row.nil _ _ _ _,fun k hk=>by simp[Value.ownBlock]at hk,below_alloc (below_alloc (below_alloc (Below.refl _ _) _) _) _⟩
  have:=heap_alloc_new ((w.alloc (.cells #[.int .i64 op,.string name,.slice none 0 0,.int .i64 fr,.int .i64 tl,.slice none 0 0] 37)).alloc (.cells #[.int .i64 0,.string ⟨#[]⟩,.slice none 0 0,.int .i64 0,.int .i64 0,.slice none 0 0,.int .i64 0,.int .i64 0,.bool false] 70)) (.cells #[.int .i64 op,.string name,.slice none 0 0,.int .i64 fr,.int .i64 tl,.slice none 0 0,.int .i64 1,.int .i64 0,.bool false] 70)
  rwa [show ((w.alloc (.cells #[.int .i64 op,.string name,.slice none 0 0,.int .i64 fr,.int .i64 tl,.slice none 0 0] 37)).alloc (.cells #[.int .i64 0,.string ⟨#[]⟩,.slice none 0 0,.int .i64 0,.int .i64 0,.slice none 0 0,.int .i64 0,.int .i64 0,.bool false] 70)).heap.size=w.heap.size+1+1 by simp]at this⟩
 go_loopw [12] (fun i w' =>∃x:Int,i= .int .i64 x∧0≤x∧x≤ks.length∧Aside0 (∃v,NodeSt w ok w' op name fr tl (ks.take x.toNat) v)) (fun i _=>ks.length-(intOf i).toNat)
 case atStart=>exact ⟨0,rfl,Int.le_refl _,Int.natCast_nonneg _,⟨_,HS.out⟩⟩
 case round =>
  clear HS
  obtain ⟨x,rfl,hx,hk,HS⟩:=hrel
  obtain ⟨v,hS⟩:=HS.out
  have HN:=Aside0.mk hS
  clear HS hS
  by_cases hlt:x<ks.length
  ·obtain ⟨ad,A2,c2,A5,c5,e,y0,y1,y2,y3,y4,y5,y6,y7,y8,l2,g2,l5,g5⟩:=at_F70 HC.out x hx hlt
   cases e
   have hB:=HN.out.below
   have tr:∀{a:Addr} {u:Value},w.cell? a=some u→wr.cell? a=some u:=fun hq=>(hB.cell (World.block_lt_of_cell? w _ hq)).trans hq
   replace y0:=tr y0
   replace y1:=tr y1
   replace y2:=tr y2
   replace y3:=tr y3
   replace y4:=tr y4
   replace y5:=tr y5
   replace y6:=tr y6
   replace y7:=tr y7
   replace y8:=tr y8
   clear tr
   have htk:=take_rd70 ks x hx hlt
   have HL:Aside0 ((((ks.take x.toNat).map (·.f0)).length+1)*88≤140737488355328):=⟨by rw[List.length_map,List.length_take];omega⟩
   have HP:=Aside0.mk (fun o=>NodeSt.elem (below_alloc hB o) l2 g2 l5 g5)
   clear l2 g2 l5 g5 hB
   have HT:Aside0 (ks.take (x+1).toNat=ks.take x.toNat++[rd_T70 ks x]):=⟨htk⟩
   clear htk
   generalize rd_T70 ks x=k at *
   generalize ks.take x.toNat=pre at *
   obtain ⟨⟨k0,k1,k2,k3,k4,k5⟩,k6,k7,k8⟩:=k
   simp only at y0 y1 y2 y3 y4 y5 y6 y7 y8 HP
   obtain ⟨fs,hfs⟩:∃fs,fs=pre.map (·.f0):=⟨_,rfl⟩
   obtain ⟨Av,cv,hv⟩:=HN.out.row.slice
   rw[←hfs]at hv HL
   subst hv
   have HROW:=Aside0.mk (fun (o:Obj)=>HN.out.row.step (w1:=wr.alloc o) (fun k hk=>Below.heap_alloc _ _ k (HN.out.row.lt k hk)) (fun k _ hk=>Below.heap_alloc _ _ k hk))
   rw[←hfs]at HROW
   have HFS:=Aside0.mk hfs
   clear hfs
   have hlt2:w.heap.size+1+1<wr.heap.size:=blk_lt HN.out.out
   have p1:=eq_true hx
   have q1:=eq_true hlt
   have o5:=blk_cell HN.out.out 5
   simp at o5
   have hmin:=fun ats ty a b W=>min_run ats ty a b W
   have hmax:=fun ats ty a b W=>max_run ats ty a b W
   cases hb:pre.any (·.f3)
   all_goals go_wp2_with (at_builtin;refine Row.append k37 (W:=wr.alloc (.cells #[.int .i64 k0,.string k1,.slice A2 k2.length c2,.int .i64 k3,.int .i64 k4,.slice A5 k5.length c5,.int .i64 k6,.int .i64 k7,.bool k8] 70)) rfl _ _ 35 37 _ 88 rfl Tryz.underlying35 info37 rfl (by decide) (by decide) (.slice Av fs.length cv) fs ⟨k0,k1,k2,k3,k4,k5⟩ [.int .i64 k0,.string k1,.slice A2 k2.length c2,.int .i64 k3,.int .i64 k4,.slice A5 k5.length c5] (fun k=>ok k∧k<w.heap.size) rfl (by simp[Act.eval]) (HP.out _) (fun j hj e=>by have:=HN.out.far j e.symm;have:=hj.2;omega) (HROW.out _) HL.out ?_;intro v1 w1 hR1 hG hat;have HX:=Aside0.mk (HN.out.next (k:=⟨⟨k0,k1,k2,k3,k4,k5⟩,k6,k7,k8⟩) (by rw[←HFS.out];exact hR1) hG hat);have qo:=blk_grownBy hG (blk_alloc HN.out.out _) (fun e=>by have:=HN.out.far _ e.symm;omega);have qk:=blk_grownBy hG (heap_alloc_new wr _) (fun e=>by have:=HN.out.row.lt _ e.symm;omega);have f5:=blk_frozen qo 5;have f6:=blk_frozen qo 6;have f7:=blk_frozen qo 7;have f8:=blk_frozen qo 8;have r5:=blk_cell qo 5;have r6:=blk_cell qo 6;have r7:=blk_cell qo 7;have r8:=blk_cell qo 8;have s6:=blk_cell qk 6;have s7:=blk_cell qk 7;have s8:=blk_cell qk 8;simp at r5 r6 r7 r8 s6 s7 s8;obtain ⟨A9,c9,hv1⟩:=hR1.slice;generalize List.length _=n1 at hv1;subst hv1;clear hR1 hG hat qo qk)
   all_goals (
    go_roundw
    case rel =>
     refine ⟨x+1,rfl,by omega,by omega,⟨.slice A9 n1 c9,?_⟩⟩
     rw[HT.out]
     have hq:=HX.out
     rw[hb]at hq
     exact hq
    case measure=>simp[intOf];omega)
  ·have HE:Aside0 (ks.take x.toNat=ks):=⟨List.take_of_length_le (by omega)⟩
   rw[HE.out]at HN
   obtain ⟨Av,cv,hv⟩:=HN.out.row.slice
   rw[List.length_map]at hv
   subst hv
   have o0:=blk_cell HN.out.out 0
   have o1:=blk_cell HN.out.out 1
   have o2:=blk_cell HN.out.out 2
   have o3:=blk_cell HN.out.out 3
   have o4:=blk_cell HN.out.out 4
   have o5:=blk_cell HN.out.out 5
   have o6:=blk_cell HN.out.out 6
   have o7:=blk_cell HN.out.out 7
   have o8:=blk_cell HN.out.out 8
   have g7:=blk_frozen HN.out.out 7
   have f0:=blk_frozen HN.out.res 0
   have f1:=blk_frozen HN.out.res 1
   have f2:=blk_frozen HN.out.res 2
   have f3:=blk_frozen HN.out.res 3
   have f4:=blk_frozen HN.out.res 4
   have f5:=blk_frozen HN.out.res 5
   have f6:=blk_frozen HN.out.res 6
   have f7:=blk_frozen HN.out.res 7
   have f8:=blk_frozen HN.out.res 8
   have r0:=blk_cell HN.out.res 0
   have r1:=blk_cell HN.out.res 1
   have r2:=blk_cell HN.out.res 2
   have r3:=blk_cell HN.out.res 3
   have r4:=blk_cell HN.out.res 4
   have r5:=blk_cell HN.out.res 5
   have r6:=blk_cell HN.out.res 6
   have r7:=blk_cell HN.out.res 7
   have r8:=blk_cell HN.out.res 8
   simp at o0 o1 o2 o3 o4 o5 o6 o7 o8 r0 r1 r2 r3 r4 r5 r6 r7 r8
   have hres:=HN.out.res
   have HRES:=Aside0.mk hres
   clear hres
   generalize hsz:ks.foldl szF 1=sz at *
   generalize hdp:ks.foldl dpF 0=dp at *
   generalize hbb:ks.any (·.f3)=bb at *
   have HSZ:=Aside0.mk hsz
   have HDP:=Aside0.mk hdp
   have HBB:=Aside0.mk hbb
   clear hsz hdp hbb
   go_wp2
   have hR:=HN.out.row
   have hrow:=hR.step (w1:=set9 (wr.setCell ⟨w.heap.size+1+1,7,none⟩ (.int .i64 (wrap64 (dp+1)))) (w.heap.size+1) (.int .i64 op) (.string name) (.slice none 0 0) (.int .i64 fr) (.int .i64 tl) (.slice Av ks.length cv) (.int .i64 sz) (.int .i64 (wrap64 (dp+1))) (.bool bb))
    (fun k hk=>by have:=HN.out.far k hk;exact (fin9_far (by omega) _ _ _ _ _ _ _ _ _).trans (Below.heap_setCell _ ⟨w.heap.size+1+1,7,none⟩ _ k (show k≠w.heap.size+1+1 by omega)))
    (fun k hk _=>(fin9_far (by have:=hk.2;omega) _ _ _ _ _ _ _ _ _).trans (Below.heap_setCell _ ⟨w.heap.size+1+1,7,none⟩ _ k (show k≠w.heap.size+1+1 by have:=hk.2;omega)))
   refine bodyPost_ret (results_single rfl (.cell (w.heap.size+1) 70 _ (0,0) _ rfl (fin9 (W:=wr.setCell ⟨w.heap.size+1+1,7,none⟩ (.int .i64 (wrap64 (dp+1)))) ((Below.heap_setCell _ ⟨w.heap.size+1+1,7,none⟩ _ (w.heap.size+1) (by show w.heap.size+1≠w.heap.size+1+1;omega)).trans HRES.out) (.int .i64 op) (.string name) (.slice none 0 0) (.int .i64 fr) (.int .i64 tl) (.slice Av ks.length cv) (.int .i64 sz) (.int .i64 (wrap64 (dp+1))) (.bool bb)) Tryz.underlying70 rfl (by kernel_rfl) .nil)) rfl ?_
   have hC:=hrow.F
   have hC' :=Kd.F_mono (ok' :=fun k=>ok k∨w.heap.size≤k) hC (fun k hk=>by
    rcases hk with hk | hk
    ·exact .inl hk.1
    ·have:=HN.out.far k hk.symm
     exact .inr (by omega))
   have hm:Value.agg #[.int .i64 op,.string name,.slice none 0 0,.int .i64 fr,.int .i64 tl,.slice Av ks.length cv,.int .i64 sz,.int .i64 (wrap64 (dp+1)),.bool bb]=mnW (nodeP op name fr tl ks) none 0 Av cv:=by
    unfold nodeP mnW
    simp only[List.length_map,List.length_nil,HSZ.out,HDP.out,HBB.out]
   rw[hm]
   refine ⟨⟨Av,cv,rfl,none,0,Av,cv,rfl,Nat.le_refl 0,Kd.F_nil _ _ _,?_,?_⟩,fin9_below (below_set HN.out.below (by omega)) (Nat.le_succ _) _ _ _ _ _ _ _ _ _⟩
   ·have:=hrow.reads'.2.1
    simpa[nodeP]using this
   ·exact hC'
theorem node_calls (w:World) (ok:Nat→Prop) (op:Int) (name:ByteArray) (fr tl:Int) (A:Option Addr) (c:Nat) (ks:List S70) (h:Kd.F k70 w ok A ks.length ks) (hl:ks.length≤1000000) :
  Calls Tryz.prog 60 #[.agg #[.int .i64 op,.string name,.slice none 0 0,.int .i64 fr,.int .i64 tl,.slice none 0 0],.slice A ks.length c] w fun e w' =>(∃v,e= .returned v∧MnV w' (fun k=>ok k∨w.heap.size≤k) v (nodeP op name fr tl ks))∧Below w.heap.size w w' :=
 (node_nil w ok op name fr tl A c ks h hl).mono fun e w' ⟨⟨A5,c5,he,hm⟩,hB⟩=>⟨⟨_,he,hm⟩,hB⟩
theorem mns_new {w:World} {ok:Nat→Prop} {g:Nat} {ms:List S70} {cs:List Value} (hg:w.heap[g]? =some (.cells cs.toArray 70 (0,0))) (hm:ms.length≤1000000) (hR:∀W',(∀k,ok k→k<w.heap.size→W'.heap[k]? =w.heap[k]?)→Reps (fun x c=>k70.K W' x c) 9 ms cs):Kd.F k70 w (fun k=>ok k∨k=g) (some ⟨g,0,none⟩) ms.length ms:=fun W' hW=>by
 have hR' :=hR W' (fun k hk hlt=>hW k (.inl hk) hlt)
 have hg' :W'.heap[g]? =some (.cells cs.toArray 70 (0,0)):=(hW g (.inr rfl) (blk_lt hg)).trans hg
 obtain ⟨A,c,he,hC⟩:=own_reads_row (block_own (size:=9) (n:=ms.length) hg' (by rw[hR'.1]) (by omega)) hR' rfl
 injection he with he1 he2 he3
 rw[he1]
 exact hC
theorem reps_one {α:Type} {R:α→List Value→Prop} {n:Nat} {x:α} {c:List Value} (h:R x c) (hl:c.length=n):Reps R n [x] c:=by
 have h:=(Reps.none R n).snoc h hl
 simpa using h
theorem mns1 {w:World} {ok:Nat→Prop} {g:Nat} {m:S70} {c:List Value} (hg:w.heap[g]? =some (.cells c.toArray 70 (0,0))) (h:Kd.FK k70 w ok m c):Kd.F k70 w (fun k=>ok k∨k=g) (some ⟨g,0,none⟩) [m].length [m] :=
 mns_new hg (by simp) (fun W' hW=>reps_one (h W' hW) (k70.K_len (h W' hW)))
theorem mns2 {w:World} {ok:Nat→Prop} {g:Nat} {m1 m2:S70} {a b:List Value} (hg:w.heap[g]? =some (.cells (a++b).toArray 70 (0,0))) (h1:Kd.FK k70 w ok m1 a) (h2:Kd.FK k70 w ok m2 b):Kd.F k70 w (fun k=>ok k∨k=g) (some ⟨g,0,none⟩) [m1,m2].length [m1,m2] :=
 mns_new hg (by simp) (fun W' hW=>Kd.reps_append (reps_one (h1 W' hW) (k70.K_len (h1 W' hW))) (reps_one (h2 W' hW) (k70.K_len (h2 W' hW))))
def bothP (x y:S70):S70:=nodeP 5 ⟨#[]⟩ 0 0 [x,y]
def notP (x:S70):S70:=nodeP 4 ⟨#[]⟩ 0 0 [x]
theorem MnV.stored {w:World} {ok:Nat→Prop} {v:Value} {m:S70} (h:MnV w ok v m) {g:Nat} (hg:∀k,ok k→k≠g) (a0 a1 a2 a3 a4 a5 a6 a7 a8:Value):MnV (set9 w g a0 a1 a2 a3 a4 a5 a6 a7 a8) ok v m :=
 h.step (fun k hk _=>fin9_far (hg k hk) _ _ _ _ _ _ _ _ _)
set_option maxHeartbeats 2000000 in
set_option maxRecDepth 100000 in
theorem both_calls (w:World) (ok:Nat→Prop) (v1 v2:Value) (x y:S70) (h1:MnV w ok v1 x) (h2:MnV w ok v2 y) :
  Calls Tryz.prog 85 #[v1,v2] w fun e w' =>(∃v,e= .returned v∧MnV w' (fun k=>ok k∨w.heap.size≤k) v (bothP x y))∧Below w.heap.size w w' :=by
 have b1:=h1.bound
 have b2:=h2.bound
 obtain ⟨A2,c2,A5,c5,rfl,l2,g2,l5,g5⟩:=b1
 obtain ⟨B2,d2,B5,d5,rfl,m2,e2,m5,e5⟩:=b2
 clear h1 h2
 have HB:=Aside0.mk (below_alloc (below_alloc (below_alloc (below_alloc (Below.refl w.heap.size w) (.cells #[.int .i64 x.f0.f0,.string x.f0.f1,.slice A2 x.f0.f2.length c2,.int .i64 x.f0.f3,.int .i64 x.f0.f4,.slice A5 x.f0.f5.length c5,.int .i64 x.f1,.int .i64 x.f2,.bool x.f3] 70)) (.cells #[.int .i64 y.f0.f0,.string y.f0.f1,.slice B2 y.f0.f2.length d2,.int .i64 y.f0.f3,.int .i64 y.f0.f4,.slice B5 y.f0.f5.length d5,.int .i64 y.f1,.int .i64 y.f2,.bool y.f3] 70)) (.cells #[.int .i64 0,.string ⟨#[]⟩,.slice none 0 0,.int .i64 0,.int .i64 0,.slice none 0 0,.int .i64 0,.int .i64 0,.bool false] 70)) (.cells #[.int .i64 x.f0.f0,.string x.f0.f1,.slice A2 x.f0.f2.length c2,.int .i64 x.f0.f3,.int .i64 x.f0.f4,.slice A5 x.f0.f5.length c5,.int .i64 x.f1,.int .i64 x.f2,.bool x.f3,.int .i64 y.f0.f0,.string y.f0.f1,.slice B2 y.f0.f2.length d2,.int .i64 y.f0.f3,.int .i64 y.f0.f4,.slice B5 y.f0.f5.length d5,.int .i64 y.f1,.int .i64 y.f2,.bool y.f3] 70))
 have HR:=Aside0.mk (blk_alloc (heap_alloc_new ((w.alloc (.cells #[.int .i64 x.f0.f0,.string x.f0.f1,.slice A2 x.f0.f2.length c2,.int .i64 x.f0.f3,.int .i64 x.f0.f4,.slice A5 x.f0.f5.length c5,.int .i64 x.f1,.int .i64 x.f2,.bool x.f3] 70)).alloc (.cells #[.int .i64 y.f0.f0,.string y.f0.f1,.slice B2 y.f0.f2.length d2,.int .i64 y.f0.f3,.int .i64 y.f0.f4,.slice B5 y.f0.f5.length d5,.int .i64 y.f1,.int .i64 y.f2,.bool y.f3] 70)) (.cells #[.int .i64 0,.string ⟨#[]⟩,.slice none 0 0,.int .i64 0,.int .i64 0,.slice none 0 0,.int .i64 0,.int .i64 0,.bool false] 70)) (.cells #[.int .i64 x.f0.f0,.string x.f0.f1,.slice A2 x.f0.f2.length c2,.int .i64 x.f0.f3,.int .i64 x.f0.f4,.slice A5 x.f0.f5.length c5,.int .i64 x.f1,.int .i64 x.f2,.bool x.f3,.int .i64 y.f0.f0,.string y.f0.f1,.slice B2 y.f0.f2.length d2,.int .i64 y.f0.f3,.int .i64 y.f0.f4,.slice B5 y.f0.f5.length d5,.int .i64 y.f1,.int .i64 y.f2,.bool y.f3] 70))
 have HN:=Aside0.mk (heap_alloc_new (((w.alloc (.cells #[.int .i64 x.f0.f0,.string x.f0.f1,.slice A2 x.f0.f2.length c2,.int .i64 x.f0.f3,.int .i64 x.f0.f4,.slice A5 x.f0.f5.length c5,.int .i64 x.f1,.int .i64 x.f2,.bool x.f3] 70)).alloc (.cells #[.int .i64 y.f0.f0,.string y.f0.f1,.slice B2 y.f0.f2.length d2,.int .i64 y.f0.f3,.int .i64 y.f0.f4,.slice B5 y.f0.f5.length d5,.int .i64 y.f1,.int .i64 y.f2,.bool y.f3] 70)).alloc (.cells #[.int .i64 0,.string ⟨#[]⟩,.slice none 0 0,.int .i64 0,.int .i64 0,.slice none 0 0,.int .i64 0,.int .i64 0,.bool false] 70)) (.cells #[.int .i64 x.f0.f0,.string x.f0.f1,.slice A2 x.f0.f2.length c2,.int .i64 x.f0.f3,.int .i64 x.f0.f4,.slice A5 x.f0.f5.length c5,.int .i64 x.f1,.int .i64 x.f2,.bool x.f3,.int .i64 y.f0.f0,.string y.f0.f1,.slice B2 y.f0.f2.length d2,.int .i64 y.f0.f3,.int .i64 y.f0.f4,.slice B5 y.f0.f5.length d5,.int .i64 y.f1,.int .i64 y.f2,.bool y.f3] 70))
 have HK1:=Aside0.mk (show Kd.FK k70 w (fun k=>ok k∧k<w.heap.size) x [.int .i64 x.f0.f0,.string x.f0.f1,.slice A2 x.f0.f2.length c2,.int .i64 x.f0.f3,.int .i64 x.f0.f4,.slice A5 x.f0.f5.length c5,.int .i64 x.f1,.int .i64 x.f2,.bool x.f3]from fun W' hW=>k70_mk W' x l2 (g2 W' hW) l5 (g5 W' hW))
 have HK2:=Aside0.mk (show Kd.FK k70 w (fun k=>ok k∧k<w.heap.size) y [.int .i64 y.f0.f0,.string y.f0.f1,.slice B2 y.f0.f2.length d2,.int .i64 y.f0.f3,.int .i64 y.f0.f4,.slice B5 y.f0.f5.length d5,.int .i64 y.f1,.int .i64 y.f2,.bool y.f3]from fun W' hW=>k70_mk W' y m2 (e2 W' hW) m5 (e5 W' hW))
 clear l2 g2 l5 g5 m2 e2 m5 e5
 unfold mnW
 have HF:=Aside0.mk (mns2 (ok:=fun k=>ok k∧k<w.heap.size) (a:=[.int .i64 x.f0.f0,.string x.f0.f1,.slice A2 x.f0.f2.length c2,.int .i64 x.f0.f3,.int .i64 x.f0.f4,.slice A5 x.f0.f5.length c5,.int .i64 x.f1,.int .i64 x.f2,.bool x.f3]) (b:=[.int .i64 y.f0.f0,.string y.f0.f1,.slice B2 y.f0.f2.length d2,.int .i64 y.f0.f3,.int .i64 y.f0.f4,.slice B5 y.f0.f5.length d5,.int .i64 y.f1,.int .i64 y.f2,.bool y.f3]) HN.out (Kd.FK_below HK1.out HB.out) (Kd.FK_below HK2.out HB.out))
 have C:=Aside0.mk (node_calls _ _ 5 ⟨#[]⟩ 0 0 _ 2 [x,y] HF.out (by simp))
 have hsz:(((w.alloc (.cells #[.int .i64 x.f0.f0,.string x.f0.f1,.slice A2 x.f0.f2.length c2,.int .i64 x.f0.f3,.int .i64 x.f0.f4,.slice A5 x.f0.f5.length c5,.int .i64 x.f1,.int .i64 x.f2,.bool x.f3] 70)).alloc (.cells #[.int .i64 y.f0.f0,.string y.f0.f1,.slice B2 y.f0.f2.length d2,.int .i64 y.f0.f3,.int .i64 y.f0.f4,.slice B5 y.f0.f5.length d5,.int .i64 y.f1,.int .i64 y.f2,.bool y.f3] 70)).alloc (.cells #[.int .i64 0,.string ⟨#[]⟩,.slice none 0 0,.int .i64 0,.int .i64 0,.slice none 0 0,.int .i64 0,.int .i64 0,.bool false] 70)).heap.size=w.heap.size+1+1+1:=by simp
 have hsy:((w.alloc (.cells #[.int .i64 x.f0.f0,.string x.f0.f1,.slice A2 x.f0.f2.length c2,.int .i64 x.f0.f3,.int .i64 x.f0.f4,.slice A5 x.f0.f5.length c5,.int .i64 x.f1,.int .i64 x.f2,.bool x.f3] 70)).alloc (.cells #[.int .i64 y.f0.f0,.string y.f0.f1,.slice B2 y.f0.f2.length d2,.int .i64 y.f0.f3,.int .i64 y.f0.f4,.slice B5 y.f0.f5.length d5,.int .i64 y.f1,.int .i64 y.f2,.bool y.f3] 70)).heap.size=w.heap.size+1+1:=by simp
 rw[hsy]at HR
 rw[hsz]at C
 have HSZ:=Aside0.mk (show ((((w.alloc (.cells #[.int .i64 x.f0.f0,.string x.f0.f1,.slice A2 x.f0.f2.length c2,.int .i64 x.f0.f3,.int .i64 x.f0.f4,.slice A5 x.f0.f5.length c5,.int .i64 x.f1,.int .i64 x.f2,.bool x.f3] 70)).alloc (.cells #[.int .i64 y.f0.f0,.string y.f0.f1,.slice B2 y.f0.f2.length d2,.int .i64 y.f0.f3,.int .i64 y.f0.f4,.slice B5 y.f0.f5.length d5,.int .i64 y.f1,.int .i64 y.f2,.bool y.f3] 70)).alloc (.cells #[.int .i64 0,.string ⟨#[]⟩,.slice none 0 0,.int .i64 0,.int .i64 0,.slice none 0 0,.int .i64 0,.int .i64 0,.bool false] 70)).alloc (.cells #[.int .i64 x.f0.f0,.string x.f0.f1,.slice A2 x.f0.f2.length c2,.int .i64 x.f0.f3,.int .i64 x.f0.f4,.slice A5 x.f0.f5.length c5,.int .i64 x.f1,.int .i64 x.f2,.bool x.f3,.int .i64 y.f0.f0,.string y.f0.f1,.slice B2 y.f0.f2.length d2,.int .i64 y.f0.f3,.int .i64 y.f0.f4,.slice B5 y.f0.f5.length d5,.int .i64 y.f1,.int .i64 y.f2,.bool y.f3] 70)).heap.size=w.heap.size+1+1+1+1 by simp)
 clear hsz hsy HF HN HK1 HK2
 unfold bothP
 generalize nodeP 5 ⟨#[]⟩ 0 0 [x,y]=m at *
 go_enter Tryz.func85,Tryz.ntmps85
 go_wp2_with (go_at_call 60;refine C.out.mono ?_;rintro e w1 ⟨⟨v,rfl,hv⟩,hB⟩;obtain ⟨E2,k2,E5,k5,rfl,hrest⟩:=id hv;clear hrest;have HV:=Aside0.mk hv;have HB1:=Aside0.mk hB;have HR1:=Aside0.mk (blk_below HR.out hB);have zf0:=blk_frozen HR1.out 0;have zf1:=blk_frozen HR1.out 1;have zf2:=blk_frozen HR1.out 2;have zf3:=blk_frozen HR1.out 3;have zf4:=blk_frozen HR1.out 4;have zf5:=blk_frozen HR1.out 5;have zf6:=blk_frozen HR1.out 6;have zf7:=blk_frozen HR1.out 7;have zf8:=blk_frozen HR1.out 8;have zc0:=blk_cell HR1.out 0;have zc1:=blk_cell HR1.out 1;have zc2:=blk_cell HR1.out 2;have zc3:=blk_cell HR1.out 3;have zc4:=blk_cell HR1.out 4;have zc5:=blk_cell HR1.out 5;have zc6:=blk_cell HR1.out 6;have zc7:=blk_cell HR1.out 7;have zc8:=blk_cell HR1.out 8;simp at zc0 zc1 zc2 zc3 zc4 zc5 zc6 zc7 zc8;clear hv hB;unfold mnW)
 refine bodyPost_ret (results_single rfl (.cell (w.heap.size+1+1) 70 _ (0,0) _ rfl (fin9 (W:=w1) HR1.out (.int .i64 m.f0.f0) (.string m.f0.f1) (.slice E2 m.f0.f2.length k2) (.int .i64 m.f0.f3) (.int .i64 m.f0.f4) (.slice E5 m.f0.f5.length k5) (.int .i64 m.f1) (.int .i64 m.f2) (.bool m.f3)) Tryz.underlying70 rfl (by kernel_rfl) .nil)) rfl ?_
 refine ⟨⟨_,rfl,(HV.out.stored (g:=w.heap.size+1+1) (fun k hk=> ?_) (.int .i64 m.f0.f0) (.string m.f0.f1) (.slice E2 m.f0.f2.length k2) (.int .i64 m.f0.f3) (.int .i64 m.f0.f4) (.slice E5 m.f0.f5.length k5) (.int .i64 m.f1) (.int .i64 m.f2) (.bool m.f3)).mono (fun k hk=> ?_)⟩,fin9_below (below_step HB.out HB1.out) (by omega) _ _ _ _ _ _ _ _ _⟩
 ·have:=HSZ.out
  rcases hk with (hk | hk) | hk<;>omega
 ·have:=HSZ.out
  rcases hk with (hk | hk) | hk
  ·exact .inl hk.1
  ·exact .inr (by omega)
  ·exact .inr (by omega)
set_option maxHeartbeats 2000000 in
set_option maxRecDepth 100000 in
theorem not_calls (w:World) (ok:Nat→Prop) (v1:Value) (x:S70) (h1:MnV w ok v1 x) :
  Calls Tryz.prog 146 #[v1] w fun e w' =>(∃v,e= .returned v∧MnV w' (fun k=>ok k∨w.heap.size≤k) v (notP x))∧Below w.heap.size w w' :=by
 have b1:=h1.bound
 obtain ⟨A2,c2,A5,c5,rfl,l2,g2,l5,g5⟩:=b1
 clear h1
 have HB:=Aside0.mk (below_alloc (below_alloc (below_alloc (Below.refl w.heap.size w) (.cells #[.int .i64 x.f0.f0,.string x.f0.f1,.slice A2 x.f0.f2.length c2,.int .i64 x.f0.f3,.int .i64 x.f0.f4,.slice A5 x.f0.f5.length c5,.int .i64 x.f1,.int .i64 x.f2,.bool x.f3] 70)) (.cells #[.int .i64 0,.string ⟨#[]⟩,.slice none 0 0,.int .i64 0,.int .i64 0,.slice none 0 0,.int .i64 0,.int .i64 0,.bool false] 70)) (.cells #[.int .i64 x.f0.f0,.string x.f0.f1,.slice A2 x.f0.f2.length c2,.int .i64 x.f0.f3,.int .i64 x.f0.f4,.slice A5 x.f0.f5.length c5,.int .i64 x.f1,.int .i64 x.f2,.bool x.f3] 70))
 have HR:=Aside0.mk (blk_alloc (heap_alloc_new (w.alloc (.cells #[.int .i64 x.f0.f0,.string x.f0.f1,.slice A2 x.f0.f2.length c2,.int .i64 x.f0.f3,.int .i64 x.f0.f4,.slice A5 x.f0.f5.length c5,.int .i64 x.f1,.int .i64 x.f2,.bool x.f3] 70)) (.cells #[.int .i64 0,.string ⟨#[]⟩,.slice none 0 0,.int .i64 0,.int .i64 0,.slice none 0 0,.int .i64 0,.int .i64 0,.bool false] 70)) (.cells #[.int .i64 x.f0.f0,.string x.f0.f1,.slice A2 x.f0.f2.length c2,.int .i64 x.f0.f3,.int .i64 x.f0.f4,.slice A5 x.f0.f5.length c5,.int .i64 x.f1,.int .i64 x.f2,.bool x.f3] 70))
 have HN:=Aside0.mk (heap_alloc_new ((w.alloc (.cells #[.int .i64 x.f0.f0,.string x.f0.f1,.slice A2 x.f0.f2.length c2,.int .i64 x.f0.f3,.int .i64 x.f0.f4,.slice A5 x.f0.f5.length c5,.int .i64 x.f1,.int .i64 x.f2,.bool x.f3] 70)).alloc (.cells #[.int .i64 0,.string ⟨#[]⟩,.slice none 0 0,.int .i64 0,.int .i64 0,.slice none 0 0,.int .i64 0,.int .i64 0,.bool false] 70)) (.cells #[.int .i64 x.f0.f0,.string x.f0.f1,.slice A2 x.f0.f2.length c2,.int .i64 x.f0.f3,.int .i64 x.f0.f4,.slice A5 x.f0.f5.length c5,.int .i64 x.f1,.int .i64 x.f2,.bool x.f3] 70))
 have HK1:=Aside0.mk (show Kd.FK k70 w (fun k=>ok k∧k<w.heap.size) x [.int .i64 x.f0.f0,.string x.f0.f1,.slice A2 x.f0.f2.length c2,.int .i64 x.f0.f3,.int .i64 x.f0.f4,.slice A5 x.f0.f5.length c5,.int .i64 x.f1,.int .i64 x.f2,.bool x.f3]from fun W' hW=>k70_mk W' x l2 (g2 W' hW) l5 (g5 W' hW))
 clear l2 g2 l5 g5
 unfold mnW
 have HF:=Aside0.mk (mns1 (ok:=fun k=>ok k∧k<w.heap.size) (c:=[.int .i64 x.f0.f0,.string x.f0.f1,.slice A2 x.f0.f2.length c2,.int .i64 x.f0.f3,.int .i64 x.f0.f4,.slice A5 x.f0.f5.length c5,.int .i64 x.f1,.int .i64 x.f2,.bool x.f3]) HN.out (Kd.FK_below HK1.out HB.out))
 have C:=Aside0.mk (node_calls _ _ 4 ⟨#[]⟩ 0 0 _ 1 [x] HF.out (by simp))
 have hsz:((w.alloc (.cells #[.int .i64 x.f0.f0,.string x.f0.f1,.slice A2 x.f0.f2.length c2,.int .i64 x.f0.f3,.int .i64 x.f0.f4,.slice A5 x.f0.f5.length c5,.int .i64 x.f1,.int .i64 x.f2,.bool x.f3] 70)).alloc (.cells #[.int .i64 0,.string ⟨#[]⟩,.slice none 0 0,.int .i64 0,.int .i64 0,.slice none 0 0,.int .i64 0,.int .i64 0,.bool false] 70)).heap.size=w.heap.size+1+1:=by simp
 have hsy:(w.alloc (.cells #[.int .i64 x.f0.f0,.string x.f0.f1,.slice A2 x.f0.f2.length c2,.int .i64 x.f0.f3,.int .i64 x.f0.f4,.slice A5 x.f0.f5.length c5,.int .i64 x.f1,.int .i64 x.f2,.bool x.f3] 70)).heap.size=w.heap.size+1:=by simp
 rw[hsy]at HR
 rw[hsz]at C
 have HSZ:=Aside0.mk (show (((w.alloc (.cells #[.int .i64 x.f0.f0,.string x.f0.f1,.slice A2 x.f0.f2.length c2,.int .i64 x.f0.f3,.int .i64 x.f0.f4,.slice A5 x.f0.f5.length c5,.int .i64 x.f1,.int .i64 x.f2,.bool x.f3] 70)).alloc (.cells #[.int .i64 0,.string ⟨#[]⟩,.slice none 0 0,.int .i64 0,.int .i64 0,.slice none 0 0,.int .i64 0,.int .i64 0,.bool false] 70)).alloc (.cells #[.int .i64 x.f0.f0,.string x.f0.f1,.slice A2 x.f0.f2.length c2,.int .i64 x.f0.f3,.int .i64 x.f0.f4,.slice A5 x.f0.f5.length c5,.int .i64 x.f1,.int .i64 x.f2,.bool x.f3] 70)).heap.size=w.heap.size+1+1+1 by simp)
 clear hsz hsy HF HN HK1
 unfold notP
 generalize nodeP 4 ⟨#[]⟩ 0 0 [x]=m at *
 go_enter Tryz.func146,Tryz.ntmps146
 go_wp2_with (go_at_call 60;refine C.out.mono ?_;rintro e w1 ⟨⟨v,rfl,hv⟩,hB⟩;obtain ⟨E2,k2,E5,k5,rfl,hrest⟩:=id hv;clear hrest;have HV:=Aside0.mk hv;have HB1:=Aside0.mk hB;have HR1:=Aside0.mk (blk_below HR.out hB);have zf0:=blk_frozen HR1.out 0;have zf1:=blk_frozen HR1.out 1;have zf2:=blk_frozen HR1.out 2;have zf3:=blk_frozen HR1.out 3;have zf4:=blk_frozen HR1.out 4;have zf5:=blk_frozen HR1.out 5;have zf6:=blk_frozen HR1.out 6;have zf7:=blk_frozen HR1.out 7;have zf8:=blk_frozen HR1.out 8;have zc0:=blk_cell HR1.out 0;have zc1:=blk_cell HR1.out 1;have zc2:=blk_cell HR1.out 2;have zc3:=blk_cell HR1.out 3;have zc4:=blk_cell HR1.out 4;have zc5:=blk_cell HR1.out 5;have zc6:=blk_cell HR1.out 6;have zc7:=blk_cell HR1.out 7;have zc8:=blk_cell HR1.out 8;simp at zc0 zc1 zc2 zc3 zc4 zc5 zc6 zc7 zc8;clear hv hB;unfold mnW)
 refine bodyPost_ret (results_single rfl (.cell (w.heap.size+1) 70 _ (0,0) _ rfl (fin9 (W:=w1) HR1.out (.int .i64 m.f0.f0) (.string m.f0.f1) (.slice E2 m.f0.f2.length k2) (.int .i64 m.f0.f3) (.int .i64 m.f0.f4) (.slice E5 m.f0.f5.length k5) (.int .i64 m.f1) (.int .i64 m.f2) (.bool m.f3)) Tryz.underlying70 rfl (by kernel_rfl) .nil)) rfl ?_
 refine ⟨⟨_,rfl,(HV.out.stored (g:=w.heap.size+1) (fun k hk=> ?_) (.int .i64 m.f0.f0) (.string m.f0.f1) (.slice E2 m.f0.f2.length k2) (.int .i64 m.f0.f3) (.int .i64 m.f0.f4) (.slice E5 m.f0.f5.length k5) (.int .i64 m.f1) (.int .i64 m.f2) (.bool m.f3)).mono (fun k hk=> ?_)⟩,fin9_below (below_step HB.out HB1.out) (by omega) _ _ _ _ _ _ _ _ _⟩
 ·have:=HSZ.out
  rcases hk with (hk | hk) | hk<;>omega
 ·have:=HSZ.out
  rcases hk with (hk | hk) | hk
  ·exact .inl hk.1
  ·exact .inr (by omega)
  ·exact .inr (by omega)
set_option maxHeartbeats 400000 in
set_option maxRecDepth 100000 in
theorem clip_calls (A:Option Addr) (n c:Nat) (w:World) (h:n≤c) (hn:n≤9223372036854775807):Calls Tryz.prog 176 #[.slice A n c] w fun e w' =>e= .returned (.slice A n n)∧w=w' :=by
 have h' :(n:Int)≤(c:Int):=by omega
 have h0:(0:Int)≤(n:Int):=by omega
 cases A with
 |none =>
  go_enter Tryz.func176,Tryz.ntmps176
  go_wp2
  go_ret
  exact ⟨rfl,rfl⟩
 |some ad =>
  go_enter Tryz.func176,Tryz.ntmps176
  go_wp2
  go_ret
  exact ⟨rfl,rfl⟩
theorem fin2 {W:World} {g:Nat} {e:TypeId} {x y:Value} (h:W.heap[g]? =some (.cells #[x,y] e (0,0))) (a b:Value):((W.setCell ⟨g,0,none⟩ a).setCell ⟨g,1,none⟩ b).heap[g]? =some (.cells #[a,b] e (0,0)):=by
 have:=blk_set (blk_set h 0 a) 1 b
 simpa using this
theorem fin2_far {W:World} {g k:Nat} (hk:k≠g) (a b:Value):((W.setCell ⟨g,0,none⟩ a).setCell ⟨g,1,none⟩ b).heap[k]? =W.heap[k]? :=
 (Below.heap_setCell _ ⟨g,1,none⟩ _ k hk).trans (Below.heap_setCell _ ⟨g,0,none⟩ _ k hk)
theorem fin2_below {w W:World} {g:Nat} (h:Below w.heap.size w W) (hg:w.heap.size≤g) (a b:Value):Below w.heap.size w ((W.setCell ⟨g,0,none⟩ a).setCell ⟨g,1,none⟩ b) :=
 below_set (j:=1) (v:=b) (below_set (j:=0) (v:=a) h hg) hg
set_option maxHeartbeats 2000000 in
set_option maxRecDepth 100000 in
theorem copied_calls (w:World) (s:ByteArray) (A:Option Addr) (c:Nat) (l:List ByteArray) (hr:Kd.string.C w A l.length l) (hc:l.length≤c) (hl:l.length≤2000000) :
  Calls Tryz.prog 158 #[.agg #[.string s,.slice A l.length c]] w fun e w' =>(∃B,e= .returned (.agg #[.string s,.slice B l.length l.length])∧Kd.F Kd.string w' (fun k=>w.heap.size≤k) B l.length l)∧Below w.heap.size w w' :=by
 have HB:=Aside0.mk (below_alloc (below_alloc (Below.refl w.heap.size w) (.cells #[.string s,.slice A l.length c] 107)) (.cells #[.string ⟨#[]⟩,.slice none 0 0] 107))
 have HC:=Aside0.mk (fun (W:World) (hW:Below w.heap.size w W)=>clone_strs A c l W (Kd.C_below hr hW) (by omega))
 have HX:=Aside0.mk (blk_alloc (heap_alloc_new w (.cells #[.string s,.slice A l.length c] 107)) (.cells #[.string ⟨#[]⟩,.slice none 0 0] 107))
 have HR:=Aside0.mk (new2 w (.cells #[.string s,.slice A l.length c] 107) (.cells #[.string ⟨#[]⟩,.slice none 0 0] 107))
 have HSZ:=Aside0.mk (show ((w.alloc (.cells #[.string s,.slice A l.length c] 107)).alloc (.cells #[.string ⟨#[]⟩,.slice none 0 0] 107)).heap.size=w.heap.size+2 by simp)
 have HL:=Aside0.mk hl
 have CL:=Aside0.mk (fun (B:Option Addr) (d:Nat) (W:World) (h:l.length≤d)=>clip_calls B l.length d W h (by omega))
 clear hr hc hl
 go_enter Tryz.func158,Tryz.ntmps158
 go_wp2_with fail
 generalize hW2:((w.alloc (.cells #[.string s,.slice A l.length c] 107)).alloc (.cells #[.string ⟨#[]⟩,.slice none 0 0] 107))=W2 at *
 have HBd:=Aside0.mk (below_drew HB.out)
 have SS:=Aside0.mk (fun (W:World) (hW:Below W2.heap.size W2 W)=>(show W.cell? ⟨w.heap.size,0,none⟩=some (.string s)∧W.cell? ⟨w.heap.size,1,none⟩=some (.slice A l.length c)from ⟨blk_cell (blk_below HX.out hW) 0,blk_cell (blk_below HX.out hW) 1⟩))
 have S2:=Aside0.mk (fun (W:World) (hX:W.heap[w.heap.size]? =some (.cells #[.string s,.slice A l.length c] 107 (0,0)))=>(show W.cell? ⟨w.heap.size,0,none⟩=some (.string s)∧W.cell? ⟨w.heap.size,1,none⟩=some (.slice A l.length c)from ⟨blk_cell hX 0,blk_cell hX 1⟩))
 have S0:=Aside0.mk (SS.out W2.drew (below_drew (Below.refl _ _)))
 go_region_held3 (fun w' =>w'.cell? ⟨w.heap.size,0,none⟩=some (.string s)∧w'.cell? ⟨w.heap.size,1,none⟩=some (.slice A l.length c))
  (first
   |(with_reducible exact S0.out)
   |(with_reducible exact S1.out)
   |exact S2.out _ (blk_far (blk_far X1.out (by simp) _) (by simp) _))
  (first
   |(go_at_call 118;refine (HC.out _ HBd.out).mono ?_;rintro e w2 ⟨v,rfl,hR,hB⟩;have hB' :=below_step (below_drew (Below.refl _ W2)) hB;have HB2:=Aside0.mk hB';have X1:=Aside0.mk (blk_below HX.out hB');have S1:=Aside0.mk (SS.out _ hB');obtain ⟨B,d,rfl⟩:=Kd.R_slice hR;have HR2:=Aside0.mk (Kd.R_reads' hR);have HRR:=Aside0.mk hR;clear hR;have RR:=Aside0.mk (blk_below (w:=W2) HR.out hB');have f0:=blk_frozen RR.out 0;have f1:=blk_frozen RR.out 1;have r0:=blk_cell RR.out 0;have r1:=blk_cell RR.out 1;simp at r0 r1;clear hB hB')
   |(go_at_call 176;refine (CL.out _ _ _ HR2.out.2.1).mono ?_;rintro e w3 ⟨rfl,rfl⟩))
 go_wp2
 refine bodyPost_ret (results_single rfl (.cell (w.heap.size+1) 107 _ (0,0) _ rfl (fin2 RR.out (.string s) (.slice B l.length l.length)) Tryz.underlying107 rfl (by kernel_rfl) .nil)) rfl ?_
 have hsz:=HSZ.out
 have hR3:=Kd.R_step (w1:=(w2.setCell ⟨w.heap.size+1,0,none⟩ (.string s)).setCell ⟨w.heap.size+1,1,none⟩ (.slice B l.length l.length)) HRR.out (fun k hk hlt=>fin2_far (by have:W2.heap.size≤k:=hk;omega) _ _)
 exact ⟨⟨B,rfl,fun W' hW' =>(Kd.R_reads' (Kd.R_step hR3 (fun k hk hlt=>hW' k (by have:W2.heap.size≤k:=hk;omega) hlt))).2.2⟩,fin2_below (below_step HB.out HB2.out) (by omega) _ _⟩
def predP (ps:List S107) (x:ByteArray):Option S107:=ps.find? fun p=>p.f0.toList == x.toList
theorem predP_mem {ps:List S107} {x:ByteArray} {p:S107} (h:predP ps x=some p):p∈ps:=List.mem_of_find?_eq_some h
def PredRet (w:World) (r:Option S107) (e:Ending) (w' :World):Prop:=Below w.heap.size w w' ∧match r with
 |some p=>∃B,e= .returned (.tuple #[.agg #[.string p.f0,.slice B p.f1.length p.f1.length],.bool true])∧Kd.F Kd.string w' (fun k=>w.heap.size≤k) B p.f1.length p.f1
 |none=>e= .returned (.tuple #[.agg #[.string ⟨#[]⟩,.slice none 0 0],.bool false])
theorem PredRet.yes {w w' :World} {p:S107} {B:Option Addr} (hB:Below w.heap.size w w') (hC:Kd.F Kd.string w' (fun k=>w.heap.size≤k) B p.f1.length p.f1):PredRet w (some p) (.returned (.tuple #[.agg #[.string p.f0,.slice B p.f1.length p.f1.length],.bool true])) w' :=⟨hB,B,rfl,hC⟩
theorem PredRet.no {w w' :World} (hB:Below w.heap.size w w'):PredRet w none (.returned (.tuple #[.agg #[.string ⟨#[]⟩,.slice none 0 0],.bool false])) w' :=⟨hB,rfl⟩
set_option maxHeartbeats 2000000 in
set_option maxRecDepth 100000 in
theorem predicate_calls (w:World) (A0:Option Addr) (n0 c0:Nat) (A1:Option Addr) (n1 c1:Nat) (A2:Option Addr) (c2:Nat) (ps:List S107) (x:ByteArray) (h2:k107.C w A2 ps.length ps) (l2:ps.length≤c2) (hs:∀p∈ps,p.f1.length≤2000000) (hn:ps.length≤2000000) :
  Calls Tryz.prog 127 #[.agg #[.slice A0 n0 c0,.slice A1 n1 c1,.slice A2 ps.length c2],.string x] w (PredRet w (predP ps x)):=by
 have HB0:=Aside0.mk (below_alloc (below_alloc (Below.refl w.heap.size w) (.cells #[.slice A0 n0 c0,.slice A1 n1 c1,.slice A2 ps.length c2] 26)) (.cells #[.string ⟨#[]⟩,.slice none 0 0] 107))
 have HR0:=Aside0.mk (new2 w (.cells #[.slice A0 n0 c0,.slice A1 n1 c1,.slice A2 ps.length c2] 26) (.cells #[.string ⟨#[]⟩,.slice none 0 0] 107))
 have HC:=Aside0.mk h2
 have HS:=Aside0.mk hs
 clear h2 hs
 have HP:Aside0 (predP ps x=predP (ps.drop (0:Int).toNat) x):=⟨rfl⟩
 generalize hr:predP ps x=r at *
 clear hr
 go_enter Tryz.func127,Tryz.ntmps127
 go_wp2
 go_loopw [11] (fun i w' =>∃j:Int,i= .int .i64 j∧0≤j∧j≤ps.length∧Aside0 (r=predP (ps.drop j.toNat) x)∧Aside0 (Below w.heap.size w w')∧Aside0 (w'.heap[w.heap.size+1]? =some (.cells #[.string ⟨#[]⟩,.slice none 0 0] 107 (0,0)))) (fun i _=>ps.length-(intOf i).toNat)
 case atStart=>exact ⟨0,rfl,Int.le_refl _,Int.natCast_nonneg _,HP,HB0,HR0⟩
 case round =>
  clear HB0 HR0 HP
  obtain ⟨j,rfl,hj,hjk,HP,HB,HR⟩:=hrel
  have z0:=blk_frozen HR.out 0
  have z1:=blk_frozen HR.out 1
  have y0:=blk_cell HR.out 0
  have y1:=blk_cell HR.out 1
  simp at y0 y1
  by_cases hlt:j<ps.length
  ·obtain ⟨ad,A3,c3,e,hx0,hx1,hl3,hC3⟩:=at_T107 HC.out j hj hlt
   cases e
   replace hx0:=(HB.out.cell (World.block_lt_of_cell? w _ hx0)).trans hx0
   replace hx1:=(HB.out.cell (World.block_lt_of_cell? w _ hx1)).trans hx1
   have p1:=eq_true hj
   have q1:=eq_true hlt
   have hm:=HS.out _ (rd107_mem ps j hj hlt)
   have HP2:Aside0 (r=if (rd_T107 ps j).f0.toList == x.toList then some (rd_T107 ps j)else predP (ps.drop (j+1).toNat) x):=⟨by rw[HP.out,drop_rd107 ps j hj hlt];unfold predP;rw[List.find?_cons];split<;>simp_all⟩
   clear HP
   generalize rd_T107 ps j=p at *
   obtain ⟨s0,s1⟩:=p
   simp only at hx0 hx1 hl3 hC3 HP2 hm
   cases t:(s0.toList == x.toList)with
   |true =>
    have C:=Aside0.mk (copied_calls (wr.alloc (.cells #[.string s0,.slice A3 s1.length c3] 107)) s0 A3 c3 s1 (Kd.C_below hC3 (below_alloc HB.out _)) hl3 hm)
    have HB3:=Aside0.mk (below_alloc HB.out (.cells #[.string s0,.slice A3 s1.length c3] 107))
    have HR3:=Aside0.mk (blk_alloc HR.out (.cells #[.string s0,.slice A3 s1.length c3] 107))
    have HF:Aside0 (r=some ⟨s0,s1⟩):=⟨by rw[HP2.out,t];rfl⟩
    clear HP2 hC3 hl3 hm
    go_wp2_with (go_at_call 158;refine C.out.mono ?_;rintro e w2 ⟨⟨B,rfl,hCB⟩,hB2⟩;have HB4:=Aside0.mk (below_step HB3.out hB2);have HR4:=Aside0.mk (blk_below HR3.out hB2);have f0:=blk_frozen HR4.out 0;have f1:=blk_frozen HR4.out 1;have r0:=blk_cell HR4.out 0;have r1:=blk_cell HR4.out 1;simp at r0 r1;have HCB:=Aside0.mk hCB;clear hCB hB2)
    refine bodyPost_ret (results_list (rs:=[.cell 4 107,.tmp 5]) rfl (by simp) (.cell (w.heap.size+1) 107 _ (0,0) _ rfl (fin2 HR4.out (.string s0) (.slice B s1.length s1.length)) Tryz.underlying107 rfl (by kernel_rfl) (.tmp .nil))) rfl ?_
    rw[HF.out]
    have hlt2:=blk_lt HR3.out
    exact PredRet.yes (p:=⟨s0,s1⟩) (fin2_below HB4.out (Nat.le_succ _) _ _) (Kd.F_mono (Kd.F_step HCB.out (fun k hk _=>fin2_far (by omega) _ _)) (fun k hk=>Nat.le_trans HB3.out.size hk))
   |false =>
    have HF:Aside0 (r=predP (ps.drop (j+1).toNat) x):=⟨by rw[HP2.out,t];rfl⟩
    have HB3:=Aside0.mk (below_alloc HB.out (.cells #[.string s0,.slice A3 s1.length c3] 107))
    have HR3:=Aside0.mk (blk_alloc HR.out (.cells #[.string s0,.slice A3 s1.length c3] 107))
    clear HP2 hC3 hl3 hm
    go_wp2
    go_roundw
    case rel=>exact ⟨j+1,rfl,by omega,by omega,HF,HB3,HR3⟩
    case measure=>simp[intOf];omega
  ·have HF:Aside0 (r=none):=⟨by rw[HP.out,List.drop_eq_nil_of_le (by omega)];rfl⟩
   clear HP
   go_wp2
   refine bodyPost_ret (results_list (rs:=[.cell 4 107,.tmp 5]) rfl (by simp) (.cell (w.heap.size+1) 107 _ (0,0) _ rfl (fin2 HR.out (.string ⟨#[]⟩) (.slice none 0 0)) Tryz.underlying107 rfl (by kernel_rfl) (.tmp .nil))) rfl ?_
   rw[HF.out]
   exact PredRet.no (fin2_below HB.out (Nat.le_succ _) _ _)
structure Sg where
 A0:Option Addr
 c0:Nat
 ss:List ByteArray
 A1:Option Addr
 c1:Nat
 cs:List S105
 A2:Option Addr
 c2:Nat
 ps:List S107
def Sg.C (w:World) (s:Sg):Prop:=SigC w s.A0 s.c0 s.ss s.A1 s.c1 s.cs s.A2 s.c2 s.ps
structure Bld (w:World) (bp mb:Nat) (s:Sg):Prop where
 blk:w.heap[bp]? =some (.cells #[.slice s.A0 s.ss.length s.c0,.slice s.A1 s.cs.length s.c1,.slice s.A2 s.ps.length s.c2,.map (some mb)] 121 (0,0))
 sig:s.C w
theorem Bld.below {w w1:World} {bp mb:Nat} {s:Sg} (h:Bld w bp mb s) (hB:Below w.heap.size w w1):Bld w1 bp mb s:=⟨blk_below h.blk hB,SigC.below h.sig hB⟩
def failV:List PanicEntry:=[{v:= .iface 117 (.int .i64 6),recovered:=false}]
def KnownRet (w:World) (r:Option S107) (e:Ending) (w' :World):Prop:=Below w.heap.size w w' ∧match r with
 |some p=>∃B,e= .returned (.agg #[.string p.f0,.slice B p.f1.length p.f1.length])∧Kd.F Kd.string w' (fun k=>w.heap.size≤k) B p.f1.length p.f1
 |none=>e= .panicked failV
theorem KnownRet.yes {w w' :World} {p:S107} {B:Option Addr} (hB:Below w.heap.size w w') (hC:Kd.F Kd.string w' (fun k=>w.heap.size≤k) B p.f1.length p.f1):KnownRet w (some p) (.returned (.agg #[.string p.f0,.slice B p.f1.length p.f1.length])) w' :=⟨hB,B,rfl,hC⟩
theorem KnownRet.no {w w' :World} (hB:Below w.heap.size w w'):KnownRet w none (.panicked failV) w' :=⟨hB,rfl⟩
set_option maxHeartbeats 2000000 in
set_option maxRecDepth 100000 in
theorem known_calls (w:World) (bp mb:Nat) (s:Sg) (h:Bld w bp mb s) (x:ByteArray) (A3:Option Addr) (n3 c3:Nat) (A4:Option Addr) (n4 c4:Nat) :
  Calls Tryz.prog 81 #[.pointer (some ⟨bp,0,none⟩),.agg #[.string x,.slice A3 n3 c3,.slice A4 n4 c4]] w (KnownRet w (predP s.ps x)):=by
 have HB0:=Aside0.mk (below_alloc (below_alloc (Below.refl w.heap.size w) (.cells #[.string x,.slice A3 n3 c3,.slice A4 n4 c4] 30)) (.cells #[.string ⟨#[]⟩,.slice none 0 0] 107))
 have HR0:=Aside0.mk (new2 w (.cells #[.string x,.slice A3 n3 c3,.slice A4 n4 c4] 30) (.cells #[.string ⟨#[]⟩,.slice none 0 0] 107))
 have HX0:=Aside0.mk (blk_alloc (heap_alloc_new w (.cells #[.string x,.slice A3 n3 c3,.slice A4 n4 c4] 30)) (.cells #[.string ⟨#[]⟩,.slice none 0 0] 107))
 have HSZ:=Aside0.mk (show ((w.alloc (.cells #[.string x,.slice A3 n3 c3,.slice A4 n4 c4] 30)).alloc (.cells #[.string ⟨#[]⟩,.slice none 0 0] 107)).heap.size=w.heap.size+2 by simp)
 have hbp:=blk_lt h.blk
 obtain ⟨A0,c0,ss,A1,c1,cs,A2,c2,ps⟩:=s
 have HD:=Aside0.mk (h.below HB0.out)
 clear h
 go_enter Tryz.func81,Tryz.ntmps81
 go_wp2_with fail
 generalize hW2:((w.alloc (.cells #[.string x,.slice A3 n3 c3,.slice A4 n4 c4] 30)).alloc (.cells #[.string ⟨#[]⟩,.slice none 0 0] 107))=W2 at *
 clear hW2
 have HW:=Aside0.mk (And.intro HX0.out HD.out.blk)
 simp only at HW
 have C:=Aside0.mk (fun (W:World) (hW:Below W2.heap.size W2 W)=>predicate_calls W A0 ss.length c0 A1 cs.length c1 A2 c2 ps x (Kd.C_below HD.out.sig.h2 hW) HD.out.sig.l2 (fun p hp=>(HD.out.sig.b2 p hp).2.1) HD.out.sig.m2)
 have SX:=Aside0.mk (fun (W:World) (hX:W.heap[w.heap.size]? =some (.cells #[.string x,.slice A3 n3 c3,.slice A4 n4 c4] 30 (0,0))∧W.heap[bp]? =some (.cells #[.slice A0 ss.length c0,.slice A1 cs.length c1,.slice A2 ps.length c2,.map (some mb)] 121 (0,0)))=>(show W.cell? ⟨w.heap.size,0,none⟩=some (.string x)∧W.cell? ⟨bp,0,none⟩=some (.slice A0 ss.length c0)∧W.cell? ⟨bp,1,none⟩=some (.slice A1 cs.length c1)∧W.cell? ⟨bp,2,none⟩=some (.slice A2 ps.length c2)from ⟨blk_cell hX.1 0,blk_cell hX.2 0,blk_cell hX.2 1,blk_cell hX.2 2⟩))
 have hlt:w.heap.size<W2.heap.size:=by have:=HSZ.out;omega
 have hbl:bp<W2.heap.size:=by have:=HSZ.out;omega
 cases hp:predP ps x with
 |some p =>
  rw[hp]at C
  have HPP:=Aside0.mk hp
  clear hp
  go_region_held3 (fun w' =>w'.cell? ⟨w.heap.size,0,none⟩=some (.string x)∧w'.cell? ⟨bp,0,none⟩=some (.slice A0 ss.length c0)∧w'.cell? ⟨bp,1,none⟩=some (.slice A1 cs.length c1)∧w'.cell? ⟨bp,2,none⟩=some (.slice A2 ps.length c2))
   (first
    |(with_reducible exact SX.out _ ⟨blk_drew HW.out.1,blk_drew HW.out.2⟩)
    |(with_reducible exact SX.out _ ⟨blk_drew (blk_alloc HW.out.1 _),blk_drew (blk_alloc HW.out.2 _)⟩)
    |(with_reducible exact SX.out _ W1.out)
    |(with_reducible exact SX.out _ ⟨blk_alloc W1.out.1 _,blk_alloc W1.out.2 _⟩)
    |(with_reducible exact SX.out _ ⟨blk_far (blk_far W1.out.1 (by simp;omega) _) (by simp;omega) _,blk_far (blk_far W1.out.2 (by simp;omega) _) (by simp;omega) _⟩)
    |exact SX.out _ ⟨blk_far (blk_far (blk_alloc W1.out.1 _) (by simp;omega) _) (by simp;omega) _,blk_far (blk_far (blk_alloc W1.out.2 _) (by simp;omega) _) (by simp;omega) _⟩)
   (first
    |(go_at_call 127;refine (C.out W2.drew (below_drew (Below.refl _ W2))).mono ?_;rintro e w2 ⟨hB,B,rfl,hC⟩;have hB' :=below_step (below_drew (Below.refl _ W2)) hB;have W1:=Aside0.mk (And.intro (blk_below HW.out.1 hB') (blk_below HW.out.2 hB'));have HC2:=Aside0.mk hC;clear hC;have HB2:=Aside0.mk hB';have R1:=Aside0.mk (blk_below HR0.out hB');have hs2:=hB'.size;clear hB hB')
    |(go_at_call 127;refine (C.out (World.drew (World.alloc W2 _)) (below_drew (below_alloc (Below.refl _ W2) _))).mono ?_;rintro e w2 ⟨hB,B,rfl,hC⟩;have hB' :=below_step (below_drew (below_alloc (Below.refl _ W2) _)) hB;have W1:=Aside0.mk (And.intro (blk_below HW.out.1 hB') (blk_below HW.out.2 hB'));have HC2:=Aside0.mk hC;clear hC;have P1:=blk_below (w:=World.drew (World.alloc W2 _)) (heap_alloc_new W2 _) hB;have p0:=blk_cell P1 0;have p1:=blk_cell P1 1;have q0:=blk_frozen P1 0;have q1:=blk_frozen P1 1;simp at p0 p1;have P1:=Aside0.mk P1;have HB2:=Aside0.mk hB';have R1:=Aside0.mk (blk_below HR0.out hB');have hs2:=hB'.size;clear hB hB'))
  ·have RR:=Aside0.mk (blk_alloc R1.out (.cells #[.string p.f0,.slice B p.f1.length p.f1.length] 107))
   have f0:=blk_frozen RR.out 0
   have f1:=blk_frozen RR.out 1
   have r0:=blk_cell RR.out 0
   have r1:=blk_cell RR.out 1
   simp at r0 r1
   go_wp2
   refine bodyPost_ret (results_single rfl (.cell (w.heap.size+1) 107 _ (0,0) _ rfl (fin2 RR.out (.string p.f0) (.slice B p.f1.length p.f1.length)) Tryz.underlying107 rfl (by kernel_rfl) .nil)) rfl ?_
   rw[HPP.out]
   exact KnownRet.yes (fin2_below (below_alloc (below_step HB0.out HB2.out) _) (Nat.le_succ _) _ _) (Kd.F_mono (Kd.F_step (Kd.F_alloc HC2.out _) (fun k hk _=>fin2_far (by have:W2.heap.size≤k:=hk;have:=HSZ.out;omega) _ _)) (fun k hk=>by have:W2.heap.size≤k:=hk;have:=HSZ.out;omega))
  ·have RR:=Aside0.mk (blk_far (blk_far R1.out (p:=⟨W2.heap.size,0,none⟩) (show w.heap.size+1≠W2.heap.size by have:=HSZ.out;omega) (.string p.f0)) (p:=⟨W2.heap.size,1,none⟩) (show w.heap.size+1≠W2.heap.size by have:=HSZ.out;omega) (.slice B p.f1.length p.f1.length))
   have f0:=blk_frozen RR.out 0
   have f1:=blk_frozen RR.out 1
   have r0:=blk_cell RR.out 0
   have r1:=blk_cell RR.out 1
   simp at r0 r1
   go_wp2
   refine bodyPost_ret (results_single rfl (.cell (w.heap.size+1) 107 _ (0,0) _ rfl (fin2 RR.out (.string p.f0) (.slice B p.f1.length p.f1.length)) Tryz.underlying107 rfl (by kernel_rfl) .nil)) rfl ?_
   rw[HPP.out]
   have hsB:W2.heap.size+1=(World.drew (World.alloc W2 (.cells #[.string ⟨#[]⟩,.slice none 0 0] 107))).heap.size:=by simp[World.drew]
   exact KnownRet.yes (fin2_below (fin2_below (below_step HB0.out HB2.out) (Nat.le_of_lt hlt) _ _) (Nat.le_succ _) _ _) (Kd.F_mono (Kd.F_step (Kd.F_step HC2.out (fun k hk _=>fin2_far (by have:_≤k:=hk;rw[←hsB]at this;omega) _ _)) (fun k hk _=>fin2_far (by have:_≤k:=hk;rw[←hsB]at this;have:=HSZ.out;omega) _ _)) (fun k hk=>by have:_≤k:=hk;rw[←hsB]at this;have:=HSZ.out;omega))
 |none =>
  rw[hp]at C
  have HPP:=Aside0.mk hp
  clear hp
  go_region_held3 (fun w' =>w'.cell? ⟨w.heap.size,0,none⟩=some (.string x)∧w'.cell? ⟨bp,0,none⟩=some (.slice A0 ss.length c0)∧w'.cell? ⟨bp,1,none⟩=some (.slice A1 cs.length c1)∧w'.cell? ⟨bp,2,none⟩=some (.slice A2 ps.length c2))
   (first
    |(with_reducible exact SX.out _ ⟨blk_drew HW.out.1,blk_drew HW.out.2⟩)
    |(with_reducible exact SX.out _ ⟨blk_drew (blk_alloc HW.out.1 _),blk_drew (blk_alloc HW.out.2 _)⟩)
    |(with_reducible exact SX.out _ W1.out)
    |(with_reducible exact SX.out _ ⟨blk_alloc W1.out.1 _,blk_alloc W1.out.2 _⟩)
    |(with_reducible exact SX.out _ ⟨blk_far (blk_far W1.out.1 (by simp;omega) _) (by simp;omega) _,blk_far (blk_far W1.out.2 (by simp;omega) _) (by simp;omega) _⟩)
    |exact SX.out _ ⟨blk_far (blk_far (blk_alloc W1.out.1 _) (by simp;omega) _) (by simp;omega) _,blk_far (blk_far (blk_alloc W1.out.2 _) (by simp;omega) _) (by simp;omega) _⟩)
   (first
    |(go_at_call 127;refine (C.out W2.drew (below_drew (Below.refl _ W2))).mono ?_;rintro e w2 ⟨hB,rfl⟩;have hB' :=below_step (below_drew (Below.refl _ W2)) hB;have W1:=Aside0.mk (And.intro (blk_below HW.out.1 hB') (blk_below HW.out.2 hB'));have HB2:=Aside0.mk hB';have R1:=Aside0.mk (blk_below HR0.out hB');have hs2:=hB'.size;clear hB hB')
    |(go_at_call 127;refine (C.out (World.drew (World.alloc W2 _)) (below_drew (below_alloc (Below.refl _ W2) _))).mono ?_;rintro e w2 ⟨hB,rfl⟩;have hB' :=below_step (below_drew (below_alloc (Below.refl _ W2) _)) hB;have W1:=Aside0.mk (And.intro (blk_below HW.out.1 hB') (blk_below HW.out.2 hB'));have P1:=blk_below (w:=World.drew (World.alloc W2 _)) (heap_alloc_new W2 _) hB;have p0:=blk_cell P1 0;have p1:=blk_cell P1 1;have q0:=blk_frozen P1 0;have q1:=blk_frozen P1 1;simp at p0 p1;have P1:=Aside0.mk P1;have HB2:=Aside0.mk hB';have R1:=Aside0.mk (blk_below HR0.out hB');have hs2:=hB'.size;clear hB hB'))
  ·go_wp2
   refine ⟨rfl,?_⟩
   rw[HPP.out]
   exact KnownRet.no (below_alloc (below_step HB0.out HB2.out) _)
  ·go_wp2
   refine ⟨rfl,?_⟩
   rw[HPP.out]
   exact KnownRet.no (fin2_below (below_step HB0.out HB2.out) (Nat.le_of_lt hlt) _ _)
section
def z79:Tm:=⟨0,⟨#[]⟩,0,⟨#[]⟩⟩
def k79:Kd Tm:=Kd.iso (Kd.pair (Kd.int .i64) (Kd.pair Kd.string (Kd.pair (Kd.int .i64) Kd.string))) (fun x:Tm=>(x.kind,x.name,x.index,x.sort))
theorem k79_open {w:World} {x:Tm} {cs:List Value} (h:k79.K w x cs):cs=[.int .i64 x.kind,.string x.name,.int .i64 x.index,.string x.sort]:=by
 obtain ⟨_,_,rfl,rfl,⟨_,_,rfl,rfl,⟨_,_,rfl,rfl,rfl⟩⟩⟩:=h
 exact rfl
theorem k79_mk (w:World) (x:Tm):k79.K w x [.int .i64 x.kind,.string x.name,.int .i64 x.index,.string x.sort]:=⟨[.int .i64 x.kind],[.string x.name,.int .i64 x.index,.string x.sort],rfl,rfl,⟨[.string x.name],[.int .i64 x.index,.string x.sort],rfl,rfl,⟨[.int .i64 x.index],[.string x.sort],rfl,rfl,rfl⟩⟩⟩
def rd_T79 (xs:List Tm) (i:Int):Tm:=xs.getD i.toNat z79
theorem at_T79 {w:World} {A:Option Addr} {n:Nat} {xs:List Tm} (h:Kd.C k79 w A n xs) (i:Int) (h0:0≤i) (h1:i<n):∃ad,A=some ad∧w.cell? (ad.add (i.toNat*4))=some (.int .i64 (rd_T79 xs i).kind)∧w.cell? ⟨(ad.add (i.toNat*4)).block,(ad.add (i.toNat*4)).off+1,none⟩=some (.string (rd_T79 xs i).name)∧w.cell? ⟨(ad.add (i.toNat*4)).block,(ad.add (i.toNat*4)).off+2,none⟩=some (.int .i64 (rd_T79 xs i).index)∧w.cell? ⟨(ad.add (i.toNat*4)).block,(ad.add (i.toNat*4)).off+3,none⟩=some (.string (rd_T79 xs i).sort):=by
 obtain ⟨ad,c,e,_,hK,hc0⟩:=Kd.C_get h z79 i h0 h1
 have hc:∀j u,c[j]? =some u→w.cell? (ad.add (i.toNat*4+j))=some u:=hc0
 obtain rfl:=k79_open hK
 exact ⟨ad,e,hc 0 _ rfl,by rw[←add_field _ _ 1 (by omega)];exact hc 1 _ rfl,by rw[←add_field _ _ 2 (by omega)];exact hc 2 _ rfl,by rw[←add_field _ _ 3 (by omega)];exact hc 3 _ rfl⟩
theorem take_rd79 (l:List Tm) (x:Int) (h0:0≤x) (h1:x<l.length):l.take (x+1).toNat=l.take x.toNat++[rd_T79 l x]:=by
 have e:(x+1).toNat=x.toNat+1:=by omega
 rw[e,List.take_succ_eq_append_getElem (by omega)]
 unfold rd_T79
 rw[List.getD_eq_getElem?_getD,List.getElem?_eq_getElem (by omega)]
 rfl
def tmCells (x:Tm):List Value:=[.int .i64 x.kind,.string x.name,.int .i64 x.index,.string x.sort]
theorem tms_new {w:World} {g:Nat} {xs:List Tm} {cs:List Value} (hc:cs=xs.flatMap tmCells) (hg:w.heap[g]? =some (.cells cs.toArray 79 (0,0))) (hm:xs.length≤1000000):Kd.C k79 w (some ⟨g,0,none⟩) xs.length xs:=by
 subst hc
 have hR:∀l:List Tm,Reps (fun x c=>k79.K w x c) 4 l (l.flatMap tmCells):=fun l=>by
  induction l with
  |nil=>exact Reps.none _ _
  |cons x r ih =>
   rw[List.flatMap_cons]
   exact Kd.reps_append (ps:=[x]) (reps_one (k79_mk w x) rfl) ih
 obtain ⟨A,c,he,hC⟩:=own_reads_row (block_own (size:=4) (n:=xs.length) hg (by rw[(hR xs).1]) (by omega)) (hR xs) rfl
 injection he with he1 he2 he3
 rw[he1]
 exact hC
def badArgs:List Tm→List ByteArray→Bool
 |x::r,a::s=>(a.toList != x.sort.toList) || badArgs r s
 |_,_=>false
theorem badArgs_snoc:∀(l:List Tm) (x:Tm) (s:List ByteArray),badArgs (l++[x]) s=(badArgs l s || (decide (l.length<s.length) && ((rdOf ByteArray.empty s l.length).toList != x.sort.toList)))
 | [],x,[]=>by simp[badArgs]
 | [],x,a::s=>by simp[badArgs,rdOf]
 |y::l,x,[]=>by simp[badArgs]
 |y::l,x,a::s=>by
  have ih:=badArgs_snoc l x s
  have e:rdOf ByteArray.empty (a::s) ((y::l).length:Nat)=rdOf ByteArray.empty s (l.length:Nat):=by simp[rdOf]
  rw[List.cons_append,badArgs,badArgs,ih,e]
  simp[Bool.or_assoc]
def atomP (ps:List S107) (name:ByteArray) (depth:Int) (ts:List Tm):Option S70 :=
 (predP ps name).map fun p=>⟨⟨3,p.f0,ts.map (refP · depth),0,0,[]⟩,1,1,((ts.length:Int) != (p.f1.length:Int)) || badArgs ts p.f1⟩
abbrev Prd:=Int→Tm→Option S70
def PostM (W:World) (m:Option S70) (e:Ending) (W' :World):Prop:=Below W.heap.size W W' ∧match m with
 |some m=>∃v,e= .returned v∧MnV W' (fun k=>W.heap.size≤k) v m
 |none=>e= .panicked failV
theorem PostM.yes {W W' :World} {m:S70} {v:Value} (hB:Below W.heap.size W W') (hm:MnV W' (fun k=>W.heap.size≤k) v m):PostM W (some m) (.returned v) W' :=⟨hB,v,rfl,hm⟩
theorem PostM.no {W W' :World} (hB:Below W.heap.size W W'):PostM W none (.panicked failV) W' :=⟨hB,rfl⟩
structure Ext (w:World) (ok:Nat→Prop) (W:World):Prop where
 size:w.heap.size≤W.heap.size
 block:∀k,ok k→k<w.heap.size→W.heap[k]? =w.heap[k]?
theorem Ext.refl (w:World) (ok:Nat→Prop):Ext w ok w:=⟨Nat.le_refl _,fun _ _ _=>rfl⟩
theorem Ext.of_below {w W:World} (h:Below w.heap.size w W) (ok:Nat→Prop):Ext w ok W:=⟨h.size,fun k _ hk=>h.block k hk⟩
theorem Ext.trans {w W V:World} {ok:Nat→Prop} (h:Ext w ok W) (g:Ext W ok V):Ext w ok V:=⟨Nat.le_trans h.size g.size,fun k ho hk=>(g.block k ho (Nat.lt_of_lt_of_le hk h.size)).trans (h.block k ho hk)⟩
theorem Ext.mono {w W:World} {ok ok' :Nat→Prop} (h:Ext w ok W) (ho:∀k,k<w.heap.size→ok' k→ok k):Ext w ok' W:=⟨h.size,fun k hk hlt=>h.block k (ho k hlt hk) hlt⟩
def Fr (w:World) (ok:Nat→Prop) (P:World→Prop):Prop:=∀W,Ext w ok W→P W
theorem Fr.now {w:World} {ok:Nat→Prop} {P:World→Prop} (h:Fr w ok P):P w:=h w (Ext.refl _ _)
theorem Fr.ext {w W:World} {ok:Nat→Prop} {P:World→Prop} (h:Fr w ok P) (hW:Ext w ok W):Fr W ok P:=fun V hV=>h V (hW.trans hV)
theorem Fr.below {w W:World} {ok:Nat→Prop} {P:World→Prop} (h:Fr w ok P) (hW:Below w.heap.size w W):Fr W ok P:=h.ext (Ext.of_below hW ok)
theorem Fr.mono {w:World} {ok ok' :Nat→Prop} {P:World→Prop} (h:Fr w ok P) (ho:∀k,k<w.heap.size→ok k→ok' k):Fr w ok' P:=fun W hW=>h W (hW.mono ho)
def PrdV (w:World) (ok:Nat→Prop) (v:Value) (f:Prd):Prop:=∃g cap,v= .func (.func g) #[] cap∧Enters Tryz.prog g∧Fr w ok (fun W=>∀(depth:Int) (x:Tm),Calls Tryz.prog g (#[.int .i64 depth,tmV x]++cap) W (PostM W (f depth x)))
section
variable {w W:World} {ok ok' :Nat→Prop} {v:Value} {f:Prd}
theorem PrdV.ext (h:PrdV w ok v f) (hW:Ext w ok W):PrdV W ok v f:=by
 obtain ⟨g,cap,e,he,h⟩:=h
 exact ⟨g,cap,e,he,h.ext hW⟩
theorem PrdV.below (h:PrdV w ok v f) (hB:Below w.heap.size w W):PrdV W ok v f:=h.ext (Ext.of_below hB ok)
theorem PrdV.mono (h:PrdV w ok v f) (ho:∀k,k<w.heap.size→ok k→ok' k):PrdV w ok' v f:=by
 obtain ⟨g,cap,e,he,h⟩:=h
 exact ⟨g,cap,e,he,h.mono ho⟩
end
end
end Go.Proofs.YtcfjomnihhdpaaaGreatDoor.A
