/-
  A part of the proof: R69, R70, R71, Q26, Q27, R72, R74, R76.
-/
import Derived.Deep.RegionLaw
import Derived.Deep.RegionLawGrows
import Derived.BigQuiet
import Derived.BigRegion
import Derived.Laws.EntriesVeiled
import Derived.OwnWalkIn
import Derived.TacticsInMore
import Derived.LoopIn
import Derived.RangeFuncNested
import Derived.RangeFuncBound
import Derived.RangeFuncCalls
import Derived.RangeFuncLeaves
import Derived.Deep.QuietTactic
import Derived.Defers
import Derived.Recover
import Derived.Test.YtcfjomnihhdpaaaGreatDoorBu13
namespace Go.Proofs.YtcfjomnihhdpaaaGreatDoor.A
open Go.RowKit Go.Proofs.YtcfjomnihhdpaaaGreatDoorW.PrintWords Go.Proofs.YtcfjomnihhdpaaaGreatDoorW.PrintLast Go.Proofs.YtcfjomnihhdpaaaGreatDoorW.PrintMore
set_option linter.unusedVariables false
set_option linter.unusedSimpArgs false
section
mutual
/-- The names of a tree's nodes, in preorder. -/
def namesT:S30→List ByteArray
 |⟨f,_,ks⟩=>f::namesL ks
def namesL:List S30→List ByteArray
 | []=>[]
 |t::r=>namesT t++namesL r
end
theorem namesT_eq (t:S30):namesT t=t.f0::namesL t.f2:=by cases t;rw[namesT]
theorem namesL_append:∀(a b:List S30),namesL (a++b)=namesL a++namesL b
 | [],b=>by rw[namesL];rfl
 |t::r,b=>by rw[List.cons_append,namesL,namesL,namesL_append r b,List.append_assoc]
mutual
theorem namesT_len:∀t:S30,(namesT t).length=nodes t
 |⟨f,vs,ks⟩=>by have:=namesL_len ks;rw[namesT,nodes,List.length_cons];omega
theorem namesL_len:∀l:List S30,(namesL l).length=nodesL l
 | []=>by rw[namesL,nodesL];rfl
 |t::r=>by have:=namesT_len t;have:=namesL_len r;rw[namesL,nodesL,List.length_append];omega
end
structure Vis where
 pth:Value
 nm:ByteArray
 a1:Option Addr
 n1:Nat
 k1:Nat
 a2:Option Addr
 n2:Nat
 k2:Nat
def encV (x:Vis):Array Value:= #[x.pth,.agg #[.string x.nm,.slice x.a1 x.n1 x.k1,.slice x.a2 x.n2 x.k2]]
def nmV (x:Vis):ByteArray:=x.nm
def Kc (n0:Nat) (W W' :World):Prop:=Below n0 W W' ∧∀(k:Nat) cs e fr,W.heap[k]? =some (Obj.cells cs e fr)→W'.heap[k]? =some (Obj.cells cs e fr)
section
variable {n0:Nat} {W W' W2:World}
theorem Kc.refl (n0:Nat) (W:World):Kc n0 W W:=⟨Below.refl _ _,fun _ _ _ _ h=>h⟩
theorem Kc.trans (h:Kc n0 W W') (k:Kc n0 W' W2):Kc n0 W W2:=⟨h.1.trans k.1,fun _ _ _ _ hc=>k.2 _ _ _ _ (h.2 _ _ _ _ hc)⟩
theorem Kc.of_below (h:Below W.heap.size W W') (hn:n0≤W.heap.size):Kc n0 W W' :=⟨h.mono hn,fun k cs e fr hc=>blk_below hc h⟩
theorem Kc.cells (h:Kc n0 W W'):∀a v,W.cell? a=some v→W'.cell? a=some v:=fun a v hc=>by
 cases hb:W.heap[a.block]? with
 |none=>simp only[World.cell?,hb]at hc;cases hc
 |some o =>
  cases o with
  |cells cs e fr=>have:=h.2 _ _ _ _ hb;simpa[World.cell?,this,hb]using hc
  |_=>simp only[World.cell?,hb]at hc;cases hc
theorem Kc.box (h:Kc n0 W W') {b:Nat} {ty:TypeId} {v:Value} (hx:BoxAt W b ty v):BoxAt W' b ty v:=h.2 _ _ _ _ hx
theorem Kc.size (h:Kc n0 W W'):W.heap.size≤W'.heap.size:=h.1.size
end
def VisRet (n0:Nat) (J Jx:List Vis→World→Prop) (pre:List Vis) (l:List ByteArray) (W:World) (e:Ending) (W' :World):Prop :=
 (e= .returned (.bool true)∧(∃q,q.map nmV=l∧J (pre++q) W')∧Kc n0 W W')∨(e= .returned (.bool false)∧∃q,q.map nmV <+: l∧Jx (pre++q) W')
theorem VisRet.bool {n0:Nat} {J Jx:List Vis→World→Prop} {pre:List Vis} {l:List ByteArray} {W W' :World} {e:Ending} (h:VisRet n0 J Jx pre l W e W') :
  ∃b,e= .returned (.bool b)∧(if b=true then (∃q,q.map nmV=l∧J (pre++q) W')∧Kc n0 W W' else ∃q,q.map nmV <+: l∧Jx (pre++q) W'):=by
 rcases h with ⟨rfl,h1,h2⟩ | ⟨rfl,h1⟩
 ·exact ⟨true,rfl,by rw[if_pos rfl];exact ⟨h1,h2⟩⟩
 ·exact ⟨false,rfl,by rw[if_neg (by simp)];exact h1⟩
theorem pre_names {t kid:S30} {q q2:List Vis} {y:Nat} {r:List S30} (hq:q.map nmV=t.f0::namesL (t.f2.take y)) (hd:t.f2.drop y=kid::r) (h2:q2.map nmV <+: namesT kid):(q++q2).map nmV <+: namesT t:=by
 obtain ⟨z,hz⟩:=h2
 have e:namesL t.f2=namesL (t.f2.take y)++(namesT kid++namesL r):=by
  conv=>lhs;rw[←List.take_append_drop y t.f2]
  rw[namesL_append,hd,namesL]
 refine ⟨z++namesL r,?_⟩
 rw[namesT_eq,e,List.map_append,hq,←hz]
 simp
theorem all_names {t kid:S30} {q q2:List Vis} {a b:List S30} (hq:q.map nmV=t.f0::namesL a) (hd:b=a++[kid]) (h2:q2.map nmV=namesT kid):(q++q2).map nmV=t.f0::namesL b:=by
 rw[List.map_append,hq,h2,hd,namesL_append,namesL,namesL]
 simp
theorem below_of_grown {W w1:World} (hg:W.grownBy w1 none):Below W.heap.size W w1:=⟨hg.os,hg.tape,hg.output,hg.size,fun k hk=>hg.block k hk (by simp)⟩
theorem ints_own {w:World} {base:Nat} {v:Value} {l:List Int} (h:w.ownsRow base 3 1 v l.length (l.map (Value.int .i64))) (hl:0<l.length):∃A c,v= .slice A l.length c∧l.length≤c∧(Kd.int .i64).C w A l.length l:=by
 have hR:∀l:List Int,Reps (fun x c=>(Kd.int .i64).K w x c) 1 l (l.map (Value.int .i64)):=fun l=>by
  induction l with
  |nil=>exact Reps.none _ _
  |cons x r ih=>exact Kd.reps_append (ps:=[x]) (reps_one (show (Kd.int .i64).K w x [.int .i64 x]from rfl) rfl) ih
 obtain ⟨A,c,he,hC⟩:=own_reads_row h (hR l) rfl
 rcases h.2 with ⟨rfl,h0⟩ | ⟨g,cap,cur,rfl,_,_,h1,_⟩
 ·omega
 ·injection he with he1 he2 he3
  exact ⟨A,c,by rw[he1,he3],by rw[←he3];exact h1,hC⟩
theorem C_ints {w:World} {A:Option Addr} {l:List Int} (h:(Kd.int .i64).C w A l.length l):(A=none→l.length=0∧l.length=0)∧∀b,A=some b→∀j u,(l.map (Value.int .i64))[j]? =some u→w.cell? (b.add j)=some u:=by
 refine ⟨fun e=> ?_,fun b e j u hu=> ?_⟩
 ·rcases Nat.eq_zero_or_pos l.length with h0 | h0
  ·exact ⟨h0,h0⟩
  ·obtain ⟨ad,e2,_⟩:=h.2.2 h0
   rw[e]at e2;cases e2
 ·rw[List.getElem?_map]at hu
  cases hx:l[j]? with
  |none=>rw[hx]at hu;cases hu
  |some x =>
   rw[hx]at hu
   injection hu with hu
   subst hu
   have hjl:=(List.getElem?_eq_some_iff.1 hx).1
   obtain ⟨ad,e2,hc⟩:=h.2.2 (by omega)
   rw[e]at e2
   injection e2 with e2
   subst e2
   obtain ⟨c,_,hK,hcell⟩:=hc j x hx
   have hK:c=[.int .i64 x]:=hK
   subst hK
   have:=hcell 0 _ rfl
   rwa [show j*(Kd.int .i64).sz+0=j from by show j*1+0=j;omega]at this
set_option maxHeartbeats 4000000 in
set_option maxRecDepth 100000 in
theorem visit_step (n0 By Bv l N:Nat) (J Jx:List Vis→World→Prop) (hJ:∀p W W',J p W→Below W.heap.size W W' →J p W')
  (hY:∀m pre x W,J pre W→pre.length<N→YieldAt Fence.wide m Tryz.prog l (encV x) W fun e W' =>(e= .returned (.bool true)∧J (pre++[x]) W' ∧Kc n0 W W')∨(e= .returned (.bool false)∧Jx (pre++[x]) W'))
  (t:S30) (hs:Sm t) (W:World) (hn0:n0≤W.heap.size) (Ap:Option Addr) (cp:Nat) (lp:List Int) (A1:Option Addr) (c1:Nat) (A2:Option Addr) (c2:Nat) (pre:List Vis) (h0:J pre W) (hN:pre.length+nodes t≤N) (tv:TreeV W t A1 c1 A2 c2) (hp:(Kd.int .i64).C W Ap lp.length lp) (hcp:lp.length≤cp) (hlp:lp.length≤1000)
  (hby:BoxAt W By 131 (.func (.yield l) #[] #[])) (hbv:BoxAt W Bv 131 (.func (.func 96) #[] #[.pointer (some ⟨By,0,none⟩),.pointer (some ⟨Bv,0,none⟩)]))
  (ih:∀(x:S30),x∈t.f2→∀(W:World) (Aq:Option Addr) (cq:Nat) (lq:List Int) (D1:Option Addr) (m1:Nat) (D2:Option Addr) (m2:Nat) (pre:List Vis),n0≤W.heap.size→J pre W→pre.length+nodes x≤N→TreeV W x D1 m1 D2 m2→(Kd.int .i64).C W Aq lq.length lq→lq.length≤cq→lq.length≤lp.length+1 →
   BoxAt W By 131 (.func (.yield l) #[] #[])→BoxAt W Bv 131 (.func (.func 96) #[] #[.pointer (some ⟨By,0,none⟩),.pointer (some ⟨Bv,0,none⟩)]) →
   Calls Tryz.prog 96 #[.slice Aq lq.length cq,.agg #[.string x.f0,.slice D1 x.f1.length m1,.slice D2 x.f2.length m2],.pointer (some ⟨By,0,none⟩),.pointer (some ⟨Bv,0,none⟩)] W (VisRet n0 J Jx pre (namesT x) W)) :
  Calls Tryz.prog 96 #[.slice Ap lp.length cp,.agg #[.string t.f0,.slice A1 t.f1.length c1,.slice A2 t.f2.length c2],.pointer (some ⟨By,0,none⟩),.pointer (some ⟨Bv,0,none⟩)] W (VisRet n0 J Jx pre (namesT t) W):=by
 have HB2:=Aside0.mk (below_alloc (Below.refl W.heap.size W) (.cells #[.string t.f0,.slice A1 t.f1.length c1,.slice A2 t.f2.length c2] 30))
 have HXT:=Aside0.mk (blk_new W (.cells #[.string t.f0,.slice A1 t.f1.length c1,.slice A2 t.f2.length c2] 30))
 have HSZ:=Aside0.mk (show (W.alloc (.cells #[.string t.f0,.slice A1 t.f1.length c1,.slice A2 t.f2.length c2] 30)).heap.size=W.heap.size+1 by simp)
 have TV:=Aside0.mk (tv.below HB2.out)
 have HP:=Aside0.mk (Kd.C_below hp HB2.out)
 have HBY:=Aside0.mk (hby.below HB2.out)
 have HBV:=Aside0.mk (hbv.below HB2.out)
 have HJ0:=Aside0.mk (hJ _ _ _ h0 HB2.out)
 have HS:=Aside0.mk hs
 have HJ:=Aside0.mk hJ
 have HY:=Aside0.mk hY
 have IH:=Aside0.mk ih
 have HN:=Aside0.mk hN
 have HNA:=Aside0.mk (namesT_eq t)
 have HLP:=Aside0.mk hlp
 clear tv hp hby hbv h0 hs hJ hY ih hN hlp
 go_enter Tryz.func96,Tryz.ntmps96
 go_wp2_with fail
 generalize hW2:(W.alloc (.cells #[.string t.f0,.slice A1 t.f1.length c1,.slice A2 t.f2.length c2] 30))=W2 at *
 clear hW2
 refine wpIn_wide.1 (wpIn_region_any (n:=9) rfl ?_)
 have hs7:=HSZ.out
 refine visit1 (W2:=W2) (fun x0 x1 x2 x3 x4 x5 x6=>{tmps:= #[.slice Ap lp.length cp,.agg #[.string t.f0,.slice A1 t.f1.length c1,.slice A2 t.f2.length c2],.pointer (some ⟨By,0,none⟩),.pointer (some ⟨Bv,0,none⟩),undef,.pointer (some ⟨W.heap.size,0,none⟩),.bool false,undef,undef,x0,x1,x2,x3,x4,x5,x6,undef,undef,undef,undef,undef,undef,undef,undef,undef,undef,undef,undef,undef,undef,undef,undef,undef,undef,undef,undef,undef,undef],defers:=[]}) (.func (.yield l) #[] #[]) (.slice Ap lp.length cp) (.agg #[.string t.f0,.slice A1 t.f1.length c1,.slice A2 t.f2.length c2]) (fun v=>∃B d,v= .slice B lp.length d) (fun v=>∃B1 n1 d1 B2 n2 d2,v= .agg #[.string t.f0,.slice B1 n1 d1,.slice B2 n2 d2]) (fun b w=>∃x:Vis,nmV x=t.f0∧(if b=true then J (pre++[x]) w∧Kc n0 W2 w else Jx (pre++[x]) w)) rfl rfl rfl rfl rfl rfl rfl (by kernel_rfl) (fun _ _ _ _ _ _ _ _=>rfl) (fun _ _ _ _ _ _ _ _=>rfl) (fun _ _ _ _ _ _ _ _=>rfl) (fun _ _ _ _ _ _ _ _=>rfl) (fun _ _ _ _ _ _ _ _=>rfl) (fun _ _ _ _ _ _ _ _=>rfl) (fun _ _ _ _ _ _ _ _=>rfl) (below_drew (Below.refl W2.heap.size W2)) ?_ ?_ ?_ ?_ ?_ ?_ ?_ ?_ _ (by decide)
 ·intro x0 x1 x2 x3 x4 x5 x6 w K hB h
  have c0:=(HBY.out.below hB).cell
  refine opIn_value rfl (by rfl) (w' :=w) (v:= .func (.yield l) #[] #[]) ?_ h
  go_simp
 ·intro x0 x1 x2 x3 x4 x5 x6 w K h
  refine opIn_value rfl (by rfl) (w' :=w) (v:= .slice Ap lp.length cp) ?_ h
  go_simp
 ·intro x0 x2 x3 x4 x5 x6 w K hB h
  refine opIn_call (f:=97) (args:= #[.slice Ap lp.length cp]) rfl (by rfl) ?_ ?_
  ·have he:=enters_of Tryz.func97 (by kernel_rfl) rfl #[.slice Ap lp.length cp] w
   go_simp
  ·refine (clone_ints Ap cp lp w (Kd.C_below HP.out hB) (by have:=HLP.out;omega)).mono ?_
   rintro e w' ⟨v,rfl,hR,hb⟩
   obtain ⟨B,d,rfl⟩:=Kd.R_slice hR
   exact ⟨_,rfl,h _ _ ⟨B,d,rfl⟩ hb⟩
 ·intro x0 x1 x2 x3 x4 x5 x6 w K hB h
  have c0:=blk_cell (blk_below HXT.out hB) 0
  have c1:=blk_cell (blk_below HXT.out hB) 1
  have c2:=blk_cell (blk_below HXT.out hB) 2
  simp at c0 c1 c2
  refine opIn_value rfl (by rfl) (w' :=w) (v:= .agg #[.string t.f0,.slice A1 t.f1.length _,.slice A2 t.f2.length _]) ?_ h
  go_simp
 ·intro x0 x1 x2 x4 x5 x6 w K hB h
  refine opIn_call (f:=98) (args:= #[.agg #[.string t.f0,.slice A1 t.f1.length c1,.slice A2 t.f2.length c2]]) rfl (by rfl) ?_ ?_
  ·have he:=enters_of Tryz.func98 (by kernel_rfl) rfl #[.agg #[.string t.f0,.slice A1 t.f1.length c1,.slice A2 t.f2.length c2]] w
   go_simp
  ·refine (clone_calls (nodes t) t (Nat.le_refl _) HS.out w A1 c1 A2 c2 (TV.out.below hB)).mono ?_
   rintro e w' ⟨hb,B1,n1,d1,B2,n2,d2,rfl⟩
   exact ⟨_,rfl,h _ _ ⟨B1,n1,d1,B2,n2,d2,rfl⟩ hb⟩
 ·rintro x1 x2 x3 x4 x5 x6 w K ⟨B,d,rfl⟩ ⟨B1,n1,d1,B2,n2,d2,rfl⟩ hB h
  refine opIn_yield (l:=l) rfl (by rfl) ?_ (HY.out _ pre ⟨.slice B lp.length d,t.f0,B1,n1,d1,B2,n2,d2⟩ w (HJ.out _ _ _ HJ0.out hB) (by have:=HN.out;have:=nodes_eq t;omega)) ?_
  ·unfold encV
   go_simp
  ·rintro e w' (⟨rfl,hj,hk⟩ | ⟨rfl,hj⟩)
   ·exact ⟨_,rfl,h true w' ⟨_,rfl,by rw[if_pos rfl];exact ⟨hj,(Kc.of_below hB (Nat.le_trans hn0 (by omega))).trans hk⟩⟩⟩
   ·exact ⟨_,rfl,h false w' ⟨_,rfl,by rw[if_neg (by simp)];exact hj⟩⟩
 ·intro x0 x1 x2 x3 x4 b x6 w K h
  refine opIn_value rfl (by rfl) (w' :=w) (v:= .bool !b) ?_ h
  go_simp
 ·rintro x2 x4 b w ⟨x,hx,hj⟩
  cases b with
  |false =>
   rw[if_neg (by simp)]at hj
   have HJX:=Aside0.mk hj
   have HX:=Aside0.mk hx
   clear hj hx
   go_wp2
   go_ret
   exact .inr ⟨rfl,[x],by rw[HNA.out];exact ⟨namesL t.f2,by simp[HX.out]⟩,HJX.out⟩
  |true =>
   simp only[Bool.not_true]
   rw[if_pos rfl]at hj
   have HJ1:=Aside0.mk hj.1
   have HK1:=Aside0.mk hj.2
   have HX:=Aside0.mk hx
   clear hj hx
   have z2:w.cell? ⟨W.heap.size,2,none⟩=some (.slice A2 t.f2.length c2):=(blk_cell (HK1.out.2 _ _ _ _ HXT.out) 2).trans rfl
   have hkl:(t.f2.length:Int)≤2000000:=by have:=((Sm.eq t).1 HS.out).2.2.1;omega
   have HQ0:=Aside0.mk (show ([x]:List Vis).map nmV=t.f0::namesL (t.f2.take (0:Int).toNat)by simp[HX.out,namesL])
   go_wp2
   clear z2
   obtain ⟨i0,hi,hz0,hz1,hz2⟩:=info_parts info3
   have HI:=Aside0.mk (And.intro hi (And.intro hz0 (And.intro hz1 hz2)))
   clear hi hz0 hz1 hz2
   go_loopw [19] (fun i w' =>∃y:Int,i= .int .i64 y∧0≤y∧y≤t.f2.length∧Aside0 (∃q:List Vis,q.map nmV=t.f0::namesL (t.f2.take y.toNat)∧J (pre++q) w' ∧Kc n0 W2 w')) (fun i _=>t.f2.length-(intOf i).toNat)
   case atStart=>exact ⟨0,rfl,Int.le_refl _,Int.natCast_nonneg _,⟨[x],HQ0.out,HJ1.out,HK1.out⟩⟩
   case round =>
    clear HQ0 HJ1 HK1 HX
    obtain ⟨y,rfl,hy,hyk,HQ⟩:=hrel
    obtain ⟨q,hq,hjq,hkq⟩:=HQ.out
    have HQN:=Aside0.mk hq
    have HJQ:=Aside0.mk hjq
    have HKQ:=Aside0.mk hkq
    clear HQ hq hjq hkq
    by_cases hyl:y<t.f2.length
    ·obtain ⟨ad,D1,m1,D2,m2,e,y0,y1,y2,hl1',hi1,hl2',hi2⟩:=at_T30 (TV.out.cells HKQ.out.cells).k y hy hyl
     cases e
     have p1:=eq_true hy
     have q1:=eq_true hyl
     have KV:=Aside0.mk (show TreeV wr (rd_T30 t.f2 y) D1 m1 D2 m2 from ⟨hl1',hi1,hl2',hi2⟩)
     have KM:=Aside0.mk (rd_mem t.f2 y hy hyl)
     have HTK:=Aside0.mk (take_rd t.f2 y hy hyl)
     have HDR:=Aside0.mk (drop_rd t.f2 y hy hyl)
     clear hl1' hi1 hl2' hi2
     have hsz2:=HKQ.out.size
     have hpl:(pre++q).length+nodes (rd_T30 t.f2 y)≤N:=by
      have h1:q.length=(t.f0::namesL (t.f2.take y.toNat)).length:=by rw[←HQN.out,List.length_map]
      rw[List.length_cons,namesL_len]at h1
      have h2:nodesL t.f2=nodesL (t.f2.take y.toNat)+nodesL (t.f2.drop y.toNat):=by
       rw[←namesL_len,←namesL_len,←namesL_len,←List.length_append,←namesL_append,List.take_append_drop]
      rw[HDR.out,nodesL]at h2
      have h3:=nodes_eq t
      have:=HN.out
      rw[List.length_append]
      omega
     have HPL:=Aside0.mk hpl
     clear hpl
     have IHX:=Aside0.mk (fun (V:World) (Aq:Option Addr) (cq:Nat) (lq:List Int) (hn:n0≤V.heap.size) (hj:J (pre++q) V) (hV:TreeV V (rd_T30 t.f2 y) D1 m1 D2 m2) (hpq:(Kd.int .i64).C V Aq lq.length lq) (hc:lq.length≤cq) (hl:lq.length≤lp.length+1) (hb1:BoxAt V By 131 (.func (.yield l) #[] #[])) (hb2:BoxAt V Bv 131 (.func (.func 96) #[] #[.pointer (some ⟨By,0,none⟩),.pointer (some ⟨Bv,0,none⟩)]))=>IH.out (rd_T30 t.f2 y) KM.out V Aq cq lq D1 m1 D2 m2 (pre++q) hn hj HPL.out hV hpq hc hl hb1 hb2)
     generalize rd_T30 t.f2 y=kid at *
     go_wp2
     have HB7:=Aside0.mk (below_alloc (Below.refl wr.heap.size wr) (.cells #[.string kid.f0,.slice D1 kid.f1.length m1,.slice D2 kid.f2.length m2] 30))
     have HX7:=Aside0.mk (blk_new wr (.cells #[.string kid.f0,.slice D1 kid.f1.length m1,.slice D2 kid.f2.length m2] 30))
     have KV7:=Aside0.mk (KV.out.below HB7.out)
     have hb7:wr.heap.size<(wr.alloc (.cells #[.string kid.f0,.slice D1 kid.f1.length m1,.slice D2 kid.f2.length m2] 30)).heap.size:=by simp
     have BY7:=Aside0.mk ((HKQ.out.box HBY.out).below HB7.out)
     have BV7:=Aside0.mk ((HKQ.out.box HBV.out).below HB7.out)
     have PP7:=Aside0.mk (Kd.C_below ((cells_int .i64).C HKQ.out.cells HP.out) HB7.out)
     generalize hW7:wr.alloc (.cells #[.string kid.f0,.slice D1 kid.f1.length m1,.slice D2 kid.f2.length m2] 30)=W7 at *
     have HPN:=Aside0.mk (C_ints (Kd.C_below PP7.out (below_drew (below_alloc (Below.refl _ W7) (.cells #[.int .i64 y] 3)))))
     have HYC:Aside0 (∀j u,([.int .i64 y]:List Value)[j]? =some u→(W7.alloc (.cells #[.int .i64 y] 3)).drew.cell? ((⟨W7.heap.size,0,none⟩:Addr).add j)=some u):=⟨fun j u hu=>by
      have hn:=heap_alloc_new W7 (.cells #[.int .i64 y] 3)
      cases j with
      |zero=>injection hu with hu;subst hu;exact blk_cell (blk_drew hn) 0
      |succ j=>simp at hu⟩
     have hll:(lp++[y]).length=lp.length+1:=by simp
     have IHY:=Aside0.mk (fun (V:World) (Aq:Option Addr) (cq:Nat) (hB:Below W7.heap.size W7 V) (hpq:(Kd.int .i64).C V Aq (lp++[y]).length (lp++[y])) (hc:(lp++[y]).length≤cq)=>(show Calls Tryz.prog 96 #[.slice Aq (lp.length+1) cq,.agg #[.string kid.f0,.slice D1 kid.f1.length m1,.slice D2 kid.f2.length m2],.pointer (some ⟨By,0,none⟩),.pointer (some ⟨Bv,0,none⟩)] V (VisRet n0 J Jx (pre++q) (namesT kid) V)from by
      have h:=IHX.out V Aq cq (lp++[y]) (by have:=hB.size;omega) (HJ.out _ _ _ HJQ.out (below_step HB7.out hB)) (KV7.out.below hB) hpq hc (by rw[hll];exact Nat.le_refl _) (BY7.out.below hB) (BV7.out.below hB)
      rw[hll]at h
      exact h))
     have HK79:=Aside0.mk (Kc.of_below HB7.out (show n0≤wr.heap.size by omega))
     have HN7:=Aside0.mk (show n0≤W7.heap.size by have:=HB7.out.size;omega)
     clear hW7 y0 y1 y2
     generalize hbb:wr.heap.size=b at *
     have bv:=(BV7.out.below (below_drew (Below.refl _ W7))).cell
     have x0:=blk_cell (blk_drew HX7.out) 0
     have x1:=blk_cell (blk_drew HX7.out) 1
     have x2:=blk_cell (blk_drew HX7.out) 2
     simp at x0 x1 x2
     have bva:=fun (o:Obj)=>(BV7.out.below (below_drew (below_alloc (Below.refl _ W7) o))).cell
     have xa0:=fun (o:Obj)=>blk_cell (blk_drew (blk_alloc HX7.out o)) 0
     have xa1:=fun (o:Obj)=>blk_cell (blk_drew (blk_alloc HX7.out o)) 1
     have xa2:=fun (o:Obj)=>blk_cell (blk_drew (blk_alloc HX7.out o)) 2
     simp at xa0 xa1 xa2
     have hcpi:(lp.length:Int)≤(cp:Int):=by omega
     have HLL:=Aside0.mk hll
     clear hll IHX
     go_region_law
      (first
       |(go_simp;go_at_call 96;refine (IHY.out w9 A9 c9 HB9.out HC9.out HL9.out).mono ?_;intro e w10 hr;obtain ⟨bb,he,hbr⟩:=hr.bool;subst he;have HBR:=Aside0.mk hbr;clear hr hbr)
       |(refine step_append_grows (w:=(W7.alloc (.cells #[.int .i64 y] 3)).drew) rfl (.tmp 30) (.tmp 32) 27 rfl 3 i0 (.int .i64 0) 1 8 Tryz.underlying27 HI.out.1 HI.out.2.1 HI.out.2.2.1 HI.out.2.2.2 rfl (by decide) Ap lp.length lp.length (lp.map (Value.int .i64)) (by simp[Act.eval,Act.put]) HPN.out.1 (by simp) HPN.out.2 ⟨W7.heap.size,0,none⟩ 1 1 [.int .i64 y] (by simp[Act.eval,Act.put]) rfl HYC.out (by simp[Value.oneCell']) (by omega) (by have:=HLP.out;unfold maxLen;omega) (by have:=HLP.out;omega) ?_;intro v9 w9 hown hg9;rw[←HLL.out,show lp.map (Value.int .i64)++[.int .i64 y]=(lp++[y]).map (Value.int .i64)from by simp]at hown;obtain ⟨A9,c9,hv9,hl9,hC9⟩:=ints_own hown (by rw[HLL.out];omega);rw[HLL.out]at hv9;subst hv9;have HC9:=Aside0.mk hC9;have HL9:=Aside0.mk hl9;have HB9:=Aside0.mk (below_step (below_drew (below_alloc (Below.refl _ W7) (.cells #[.int .i64 y] 3))) (below_of_grown hg9));have x30:=blk_cell (blk_below HX7.out HB9.out) 0;have x31:=blk_cell (blk_below HX7.out HB9.out) 1;have x32:=blk_cell (blk_below HX7.out HB9.out) 2;simp at x30 x31 x32;have bv9:=(BV7.out.below HB9.out).cell;clear hown hg9 hl9 hC9))
     all_goals clear x30 x31 x32 bv9 bva xa0 xa1 xa2 x0 x1 x2 bv
     all_goals (
      cases bb with
      |true =>
       have hr:=HBR.out
       rw[if_pos rfl]at hr
       obtain ⟨⟨q2,hq2,hj2⟩,hk2⟩:=hr
       have HF:=Aside0.mk (show ∃q:List Vis,q.map nmV=t.f0::namesL (t.f2.take (y+1).toNat)∧J (pre++q) w10∧Kc n0 W2 w10 from ⟨q++q2,all_names HQN.out HTK.out hq2,by rw[←List.append_assoc];exact hj2,(HKQ.out.trans (HK79.out.trans (Kc.of_below HB9.out HN7.out))).trans hk2⟩)
       clear hq2 hj2 hk2 HBR
       simp only[Bool.not_true]
       go_wp2
       go_roundw
       case rel=>exact ⟨y+1,rfl,by omega,by omega,HF⟩
       case measure=>simp[intOf];omega
      |false =>
       have hr:=HBR.out
       rw[if_neg (by simp)]at hr
       obtain ⟨q2,hq2,hx2⟩:=hr
       have HF:=Aside0.mk (show VisRet n0 J Jx pre (namesT t) W (.returned (.bool false)) w10 from .inr ⟨rfl,q++q2,pre_names HQN.out HDR.out hq2,by rw[←List.append_assoc];exact hx2⟩)
       clear hq2 hx2 HBR
       go_wp2
       go_ret
       exact HF.out)
    ·have HF:=Aside0.mk (show VisRet n0 J Jx pre (namesT t) W (.returned (.bool true)) wr from .inl ⟨rfl,⟨q,by rw[HQN.out,HNA.out,List.take_of_length_le (by omega)],HJQ.out⟩,(Kc.of_below HB2.out hn0).trans HKQ.out⟩)
     go_wp2
     go_ret
     exact HF.out
theorem visit_calls (n0 By Bv l N:Nat) (J Jx:List Vis→World→Prop) (hJ:∀p W W',J p W→Below W.heap.size W W' →J p W')
  (hY:∀m pre x W,J pre W→pre.length<N→YieldAt Fence.wide m Tryz.prog l (encV x) W fun e W' =>(e= .returned (.bool true)∧J (pre++[x]) W' ∧Kc n0 W W')∨(e= .returned (.bool false)∧Jx (pre++[x]) W')) :
  ∀(n:Nat) (t:S30),nodes t≤n→Sm t→∀(W:World) (Ap:Option Addr) (cp:Nat) (lp:List Int) (A1:Option Addr) (c1:Nat) (A2:Option Addr) (c2:Nat) (pre:List Vis),n0≤W.heap.size→J pre W→pre.length+nodes t≤N→TreeV W t A1 c1 A2 c2→(Kd.int .i64).C W Ap lp.length lp→lp.length≤cp→lp.length+n≤1000 →
   BoxAt W By 131 (.func (.yield l) #[] #[])→BoxAt W Bv 131 (.func (.func 96) #[] #[.pointer (some ⟨By,0,none⟩),.pointer (some ⟨Bv,0,none⟩)]) →
   Calls Tryz.prog 96 #[.slice Ap lp.length cp,.agg #[.string t.f0,.slice A1 t.f1.length c1,.slice A2 t.f2.length c2],.pointer (some ⟨By,0,none⟩),.pointer (some ⟨Bv,0,none⟩)] W (VisRet n0 J Jx pre (namesT t) W)
 |0,t,hn,_=>absurd hn (by have:=nodes_eq t;omega)
 |n+1,t,hn,hs=>fun W Ap cp lp A1 c1 A2 c2 pre hn0 h0 hN tv hp hcp hlp hby hbv=>by
  have h:=(Sm.eq t).1 hs
  exact visit_step n0 By Bv l N J Jx hJ hY t hs W hn0 Ap cp lp A1 c1 A2 c2 pre h0 hN tv hp hcp (by omega) hby hbv (fun x hx V Aq cq lq D1 m1 D2 m2 pr hn1 hj hl hV hpq hc hlq hb1 hb2=>visit_calls n0 By Bv l N J Jx hJ hY n x (by have:=nodes_mem hx;omega) (SmL.mem h.2.2.2 hx) V Aq cq lq D1 m1 D2 m2 pr hn1 hj hl hV hpq hc (by omega) hb1 hb2)
end
theorem room_none {F:Fence} (hd:F.depth=none) (k:Nat):F.room k:=fun d h=>by rw[hd]at h;cases h
theorem roundAny {m m' :Nat} {P:Program} {l:Nat} {f:FuncId} {tmps:Array Value} {assign body:Code} {w:World} {R:Ending→World→Prop} (h:RoundIn Fence.wide m P l f tmps assign body w R):RoundIn Fence.wide m' P l f tmps assign body w R:=⟨h.1,fun c cs _=>h.2 c cs (room_none rfl _)⟩
theorem yieldAny {m:Nat} (m' :Nat) {P:Program} {l:Nat} {args:Array Value} {W:World} {R:Ending→World→Prop} (h:YieldAt Fence.wide m P l args W R):YieldAt Fence.wide m' P l args W R:=by
 obtain ⟨fn,tmps,assign,body,hy,hR⟩:=h
 exact ⟨fn,tmps,assign,body,hy,roundAny hR⟩
theorem C_nil_ints (w:World) (A:Option Addr):(Kd.int .i64).C w A ([]:List Int).length []:=⟨rfl,Nat.zero_le _,fun h=>absurd h (by simp)⟩
set_option maxHeartbeats 1000000 in
set_option maxRecDepth 100000 in
theorem nodes1_calls (n0 l:Nat) (J Jx:List Vis→World→Prop) (hJ:∀p W W',J p W→Below W.heap.size W W' →J p W') (t:S30) (hs:Sm t) (hn:nodes t≤500)
  (hY:∀m pre x W,J pre W→pre.length<nodes t→YieldAt Fence.wide m Tryz.prog l (encV x) W fun e W' =>(e= .returned (.bool true)∧J (pre++[x]) W' ∧Kc n0 W W')∨(e= .returned (.bool false)∧Jx (pre++[x]) W'))
  (W:World) (hn0:n0≤W.heap.size) (Bt:Nat) (A1:Option Addr) (c1:Nat) (A2:Option Addr) (c2:Nat) (hT:TreeAt W Bt t A1 c1 A2 c2) (h0:J [] W) :
  Calls Tryz.prog 95 #[.func (.yield l) #[] #[],.pointer (some ⟨Bt,0,none⟩)] W fun e W' =>(∃v,e= .returned v)∧((∃ys:List Vis,ys.map nmV=namesT t∧J ys W')∨(∃pre:List Vis,pre.map nmV <+: namesT t∧Jx pre W')):=by
 have HB2:=Aside0.mk (below_alloc (below_alloc (Below.refl W.heap.size W) (.cells #[.func (.yield l) #[] #[]] 131)) (.cells #[.func (.func 96) #[] #[.pointer (some ⟨W.heap.size,0,none⟩),.pointer (some ⟨W.heap.size+1,0,none⟩)]] 131))
 have HY1:=Aside0.mk (show BoxAt ((W.alloc (.cells #[.func (.yield l) #[] #[]] 131)).alloc (.cells #[.func (.func 96) #[] #[.pointer (some ⟨W.heap.size,0,none⟩),.pointer (some ⟨W.heap.size+1,0,none⟩)]] 131)) W.heap.size 131 (.func (.yield l) #[] #[])from blk_alloc (blk_new W (.cells #[.func (.yield l) #[] #[]] 131)) (.cells #[.func (.func 96) #[] #[.pointer (some ⟨W.heap.size,0,none⟩),.pointer (some ⟨W.heap.size+1,0,none⟩)]] 131))
 have HV1:=Aside0.mk (show BoxAt ((W.alloc (.cells #[.func (.yield l) #[] #[]] 131)).alloc (.cells #[.func (.func 96) #[] #[.pointer (some ⟨W.heap.size,0,none⟩),.pointer (some ⟨W.heap.size+1,0,none⟩)]] 131)) (W.heap.size+1) 131 _ from new2 W (.cells #[.func (.yield l) #[] #[]] 131) (.cells #[.func (.func 96) #[] #[.pointer (some ⟨W.heap.size,0,none⟩),.pointer (some ⟨W.heap.size+1,0,none⟩)]] 131))
 have HT:=Aside0.mk (hT.below HB2.out)
 have HJ2:=Aside0.mk (hJ _ _ _ h0 HB2.out)
 have HE:=Aside0.mk (below_alloc (Below.refl _ ((W.alloc (.cells #[.func (.yield l) #[] #[]] 131)).alloc (.cells #[.func (.func 96) #[] #[.pointer (some ⟨W.heap.size,0,none⟩),.pointer (some ⟨W.heap.size+1,0,none⟩)]] 131))) (.cells #[] 3))
 have C:=Aside0.mk (fun (V:World) (Ap:Option Addr) (hB:Below ((W.alloc (.cells #[.func (.yield l) #[] #[]] 131)).alloc (.cells #[.func (.func 96) #[] #[.pointer (some ⟨W.heap.size,0,none⟩),.pointer (some ⟨W.heap.size+1,0,none⟩)]] 131)).heap.size ((W.alloc (.cells #[.func (.yield l) #[] #[]] 131)).alloc (.cells #[.func (.func 96) #[] #[.pointer (some ⟨W.heap.size,0,none⟩),.pointer (some ⟨W.heap.size+1,0,none⟩)]] 131)) V)=>visit_calls n0 W.heap.size (W.heap.size+1) l (nodes t) J Jx hJ hY (nodes t) t (Nat.le_refl _) hs V Ap 0 [] A1 c1 A2 c2 [] (by have:=hB.size;simp at this;omega) (hJ _ _ _ HJ2.out hB) (by simp) ⟨hT.l1,(HT.out.below hB).v,hT.l2,(HT.out.below hB).k⟩ (C_nil_ints _ _) (Nat.le_refl _) (by simp;omega) (HY1.out.below hB) (HV1.out.below hB))
 have t0:=fun (o:Obj)=>blk_cell (blk_alloc HT.out.blk o) 0
 have t1:=fun (o:Obj)=>blk_cell (blk_alloc HT.out.blk o) 1
 have t2:=fun (o:Obj)=>blk_cell (blk_alloc HT.out.blk o) 2
 have u0:=blk_cell HT.out.blk 0
 have u1:=blk_cell HT.out.blk 1
 have u2:=blk_cell HT.out.blk 2
 simp at t0 t1 t2 u0 u1 u2
 clear hT h0 hY hs hJ hn
 go_enter Tryz.func95,Tryz.ntmps95
 go_wp2_with (go_at_call 96;refine (C.out _ _ HE.out).mono ?_;rintro e w' (⟨rfl,⟨q,hq,hj⟩,hk⟩ | ⟨rfl,q,hq,hx⟩))
 ·go_end0
  exact ⟨⟨_,rfl⟩,.inl ⟨q,hq,hj⟩⟩
 ·go_end0
  exact ⟨⟨_,rfl⟩,.inr ⟨q,hq,hx⟩⟩
theorem nodes1_stops (n n0:Nat) (t:S30) (hs:Sm t) (hn:nodes t≤500) (w:World) (hn0:n0≤w.heap.size) (Bt:Nat) (A1:Option Addr) (c1:Nat) (A2:Option Addr) (c2:Nat) (hT:TreeAt w Bt t A1 c1 A2 c2) :
  SeqStopsK Fence.wide n Tryz.prog 95 #[.pointer (some ⟨Bt,0,none⟩)] encV (Kc n0) (fun xs=>xs.map nmV=namesT t) (fun pre=>pre.map nmV <+: namesT t) (nodes t) w:=fun l J Jx W hW hJ hJx hY h0=>by
 refine callsIn_wide.2 ?_
 exact nodes1_calls n0 l J Jx (fun p V V' hj hB=>hJ p V V' none hj (grown_of_below hB none) (fun r e=>by cases e)) t hs hn (fun m pre x V hj hl=>yieldAny m (hY pre x V hj hl)) W (Nat.le_trans hn0 hW.size) Bt A1 c1 A2 c2 (hT.below hW) h0
set_option maxHeartbeats 1000000 in
theorem nodes_calls (t:S30) (w:World) (A1:Option Addr) (c1:Nat) (A2:Option Addr) (c2:Nat):Calls Tryz.prog 54 #[.agg #[.string t.f0,.slice A1 t.f1.length c1,.slice A2 t.f2.length c2]] w fun e w' =>e= .returned (.func (.func 95) #[] #[.pointer (some ⟨w.heap.size,0,none⟩)])∧w' =w.alloc (.cells #[.string t.f0,.slice A1 t.f1.length c1,.slice A2 t.f2.length c2] 30):=by
 go_enter Tryz.func54,Tryz.ntmps54
 go_wp2
 go_ret
 exact ⟨rfl,rfl⟩
section
attribute [local go_sem] Oper.semAt_some
mutual
theorem res_names:∀t:S30,resP t=(namesT t).all notPro
 |⟨f,vs,ks⟩=>by rw[resP_eq,namesT_eq,List.all_cons,res_namesL ks]
theorem res_namesL:∀l:List S30,resL l=(namesL l).all notPro
 | []=>rfl
 |t::r=>by rw[resL,namesL,List.all_append,res_names t,res_namesL r]
end
def Blk3 (W:World) (B:Nat) (x:Vis):Prop:=W.heap[B]? =some (.cells #[.string x.nm,.slice x.a1 x.n1 x.k1,.slice x.a2 x.n2 x.k2] 30 (0,0))
theorem blk3_own (B:Nat) (x:Vis):Own (fun (_:Unit) W=>Blk3 W B x):=fun _ X Y row hs hg hrow=>(grownBy_keeps_cells hg hrow hs rfl).trans hs
theorem it_iff (x:ByteArray):x.toList=[73,116]↔x=nIt:=⟨fun h=>ba_ext (by rw[←Go.ByteArray.toList_eq,h];rfl),fun h=>by subst h;decide +kernel⟩
theorem they_iff (x:ByteArray):x.toList=[84,104,101,121]↔x=nThey:=⟨fun h=>ba_ext (by rw[←Go.ByteArray.toList_eq,h];rfl),fun h=>by subst h;decide +kernel⟩
set_option maxHeartbeats 4000000 in
set_option maxRecDepth 100000 in
theorem resolved_calls (t:S30) (hs:Sm t) (hn:nodes t≤500) (w:World) (A1:Option Addr) (c1:Nat) (A2:Option Addr) (c2:Nat) (tv:TreeV w t A1 c1 A2 c2) :
  Calls Tryz.prog 24 #[.agg #[.string t.f0,.slice A1 t.f1.length c1,.slice A2 t.f2.length c2]] w fun e w' =>e= .returned (.bool (resP t))∧Below w.heap.size w w' :=by
 refine (callsIn_wide (n:=9)).1 (callsIn_of_wp_marks Tryz.func24 rfl trivial ?_ rfl)
 simp only[Tryz.ntmps24,List.size_toArray,List.length_cons,List.length_nil,Nat.reduceAdd,Nat.reduceSub,Array.replicate_succ,Array.replicate_zero,List.push_toArray,List.append_toArray,List.nil_append,List.cons_append]
 have HB1:=Aside0.mk (below_alloc (below_alloc (Below.refl w.heap.size w) (.cells #[.string t.f0,.slice A1 t.f1.length c1,.slice A2 t.f2.length c2] 30)) (.cells #[.bool false] 4))
 have HX1:=Aside0.mk (blk_new w (.cells #[.string t.f0,.slice A1 t.f1.length c1,.slice A2 t.f2.length c2] 30))
 have TV:=Aside0.mk tv
 have HS:=Aside0.mk hs
 have HN:=Aside0.mk hn
 clear tv hs hn
 have x0:=fun (o:Obj)=>blk_cell (blk_alloc HX1.out o) 0
 have x1:=fun (o:Obj)=>blk_cell (blk_alloc HX1.out o) 1
 have x2:=fun (o:Obj)=>blk_cell (blk_alloc HX1.out o) 2
 simp at x0 x1 x2
 gi_wp2_with (refine ⟨trivial,?_⟩;gi_at_call 54;refine (callsIn_wide.2 (nodes_calls t _ A1 c1 A2 c2)).mono ?_;rintro e w' ⟨rfl,rfl⟩)
 have bT:=blk_new ((w.alloc (.cells #[.string t.f0,.slice A1 t.f1.length c1,.slice A2 t.f2.length c2] 30)).alloc (.cells #[.bool false] 4)) (.cells #[.string t.f0,.slice A1 t.f1.length c1,.slice A2 t.f2.length c2] 30)
 have bR:Boxed (((w.alloc (.cells #[.string t.f0,.slice A1 t.f1.length c1,.slice A2 t.f2.length c2] 30)).alloc (.cells #[.bool false] 4)).alloc (.cells #[.string t.f0,.slice A1 t.f1.length c1,.slice A2 t.f2.length c2] 30)) (w.heap.size+1) 4 (.bool false):=by
  have:=(Boxed.new (w.alloc (.cells #[.string t.f0,.slice A1 t.f1.length c1,.slice A2 t.f2.length c2] 30)) 4 (.bool false)).alloc (.cells #[.string t.f0,.slice A1 t.f1.length c1,.slice A2 t.f2.length c2] 30)
  simpa only[World.size_alloc]using this
 have hB0:=below_alloc HB1.out (.cells #[.string t.f0,.slice A1 t.f1.length c1,.slice A2 t.f2.length c2] 30)
 have hsz:(((w.alloc (.cells #[.string t.f0,.slice A1 t.f1.length c1,.slice A2 t.f2.length c2] 30)).alloc (.cells #[.bool false] 4)).alloc (.cells #[.string t.f0,.slice A1 t.f1.length c1,.slice A2 t.f2.length c2] 30)).heap.size=w.heap.size+3:=by simp
 simp only[World.size_alloc]at bT
 clear x0 x1 x2 HX1 HB1
 obtain ⟨W0,hW0⟩:∃W0,((w.alloc (.cells #[.string t.f0,.slice A1 t.f1.length c1,.slice A2 t.f2.length c2] 30)).alloc (.cells #[.bool false] 4)).alloc (.cells #[.string t.f0,.slice A1 t.f1.length c1,.slice A2 t.f2.length c2] 30)=W0:=⟨_,rfl⟩
 rw[hW0]at bT bR hB0 hsz ⊢
 clear hW0
 have hT:TreeAt W0 (w.heap.size+1+1) t A1 c1 A2 c2:=⟨bT,TV.out.l1,(TV.out.below hB0).v,TV.out.l2,(TV.out.below hB0).k⟩
 refine wpIn_rangeFunc_ownH rfl (by decide) (gf:=95) (lb:= #[.pointer (some ⟨w.heap.size+1+1,0,none⟩)]) rfl trivial (enters_of Tryz.func95 (by kernel_rfl) rfl)
  (nodes1_stops (9-1) w.heap.size t HS.out HN.out W0 (by omega) (w.heap.size+1+1) A1 c1 A2 c2 hT) Kc.trans
  (fun W l o o' hl ho hc hw=>⟨belowK_b (w:=W0) (by omega) W l o o' hl ho hc hw,fun k cs e fr hk=>by
   have hne:k≠l:=fun e=>by subst e;rw[ho]at hk;injection hk with hk;subst hk;cases hc
   exact (grownBy_putObj' W l o').block k (Array.getElem?_eq_some_iff.1 hk).1 (fun e=>hne (by injection e)) |>.trans hk⟩) (Below.refl _ _) (fun _=>rfl)
  (fun pre W=>((∀x∈pre,notPro x.nm=true)∧Boxed W (w.heap.size+1) 4 (.bool false))∧Below w.heap.size w W)
  (fun c pre W=>((c= .ret∧∃x∈pre,notPro x.nm=false)∧Boxed W (w.heap.size+1) 4 (.bool false))∧Below w.heap.size w W)
  (OwnFrom.and (OwnFrom.and (ownFrom_pure _ _) (Own.from (boxed_own _ _ _) _)) (ownFrom_below (Nat.le_refl _) (by omega)))
  (fun c=>OwnFrom.and (OwnFrom.and (ownFrom_pure _ _) (Own.from (boxed_own _ _ _) _)) (ownFrom_below (Nat.le_refl _) (by omega)))
  ⟨⟨fun x hx=>(by cases hx),bR⟩,hB0⟩
  (fun x a' W=>∃Bx,Blk3 W Bx x∧a' ={tmps:= #[.agg #[.string t.f0,.slice A1 t.f1.length c1,.slice A2 t.f2.length c2],.pointer (some ⟨w.heap.size,0,none⟩),.pointer (some ⟨w.heap.size+1,0,none⟩),undef,.pointer (some ⟨Bx,0,none⟩),.agg #[.string t.f0,.slice A1 t.f1.length c1,.slice A2 t.f2.length c2],.func (.func 95) #[] #[.pointer (some ⟨w.heap.size+1+1,0,none⟩)],x.pth,.agg #[.string x.nm,.slice x.a1 x.n1 x.k1,.slice x.a2 x.n2 x.k2],undef,undef,undef,undef,undef,undef,undef,undef],defers:=[]})
  (fun x a' _ X Y row hs hg hr=>by obtain ⟨Bx,h1,h2⟩:=hs;exact ⟨Bx,blk3_own Bx x () X Y row h1 hg (fun r e=>(hr r e).2),h2⟩)
  ?assign ?body ?done ?stop
 case assign =>
  rintro l pre x W K ⟨⟨hp,bR1⟩,hB1⟩ hK
  unfold encV
  gi_wp2
  have hb:=below_alloc (Below.refl W.heap.size W) (.cells #[.string x.nm,.slice x.a1 x.n1 x.k1,.slice x.a2 x.n2 x.k2] 30)
  exact hK _ _ ((KeepsOthers.alloc _ _).from _) (Kc.of_below hb hB1.size) ⟨⟨hp,bR1.alloc _⟩,hB1.alloc hB1.size _⟩ ⟨W.heap.size,blk_new W (.cells #[.string x.nm,.slice x.a1 x.n1 x.k1,.slice x.a2 x.n2 x.k2] 30),rfl⟩
 case body =>
  rintro l pre x a' W hl hr ⟨⟨hp,bR1⟩,hB1⟩ ⟨Bx,bX,rfl⟩ hlt
  have cX:=blk_cell bX 0
  have cX1:=blk_cell bX 1
  have cX2:=blk_cell bX 2
  have cR:=bR1.cell
  have fR:=bR1.frozen
  simp at cX cX1 cX2
  clear TV HS HN hT bT bR hB0
  have hno:notPro x.nm=(!decide (x.nm=nIt) && !decide (x.nm=nThey)):=rfl
  gi_wp2
  ·rename_i hx
   exact ⟨(KeepsOthers.setCell _ _ _).from _,⟨⟨rfl,x,by simp,by rw[hno,decide_eq_true ((it_iff _).1 hx)];rfl⟩,bR1.set _⟩,hB1.setCell (p:=⟨w.heap.size+1,0,none⟩) (by simp) _⟩
  ·rename_i hx0 hx
   refine ⟨(KeepsOthers.setCell _ _ _).from _,⟨⟨rfl,x,by simp,?_⟩,bR1.set _⟩,hB1.setCell (p:=⟨w.heap.size+1,0,none⟩) (by simp) _⟩
   rcases hx with hx | hx
   ·exact absurd (eq_of_beq hx) hx0
   ·rw[hno,decide_eq_true ((they_iff _).1 (eq_of_beq hx))];simp
  ·rename_i hx0 hx
   refine ⟨KeepsFrom.refl _ _,Kc.refl _ _,⟨?_,bR1⟩,hB1⟩
   intro y hy
   rcases List.mem_append.1 hy with h | h
   ·exact hp y h
   ·obtain rfl:y=x:=by simpa using h
    rw[hno,decide_eq_false (fun h=>hx0 ((it_iff _).2 h)),decide_eq_false (fun h=>by have:=(they_iff _).2 h;rw[this]at hx;simp at hx)]
    rfl
 case done =>
  rintro D ys W hD hys ⟨⟨hne,bR1⟩,hB⟩ hK
  have hcr:=bR1.cell
  have hfr:=bR1.frozen
  have hres:resP t=true:=by
   rw[res_names,←hys,List.all_eq_true]
   intro y hy
   obtain ⟨x,hx,rfl⟩:=List.mem_map.1 hy
   exact hne x hx
  gi_wp2
  have hK' :=(KeepsOthers.setCell W ⟨w.heap.size+1,0,none⟩ (.bool true)).same D _ hK rfl
  refine ⟨by simp,.inl ⟨_,_,rfl,run_takeDeferred hK',?_⟩⟩
  have hc5:=cell_kept (bR1.set (.bool true)).cell (grownBy_putObj' _ D (.deferred none)) (fun r e=>by cases e;exact ⟨_,hK',rfl⟩)
  refine ⟨.bool true,?_,by rw[hres],(hB.setCell (p:=⟨w.heap.size+1,0,none⟩) (by simp) _).trans (belowK_b (w:=w) (Nat.le_refl _) _ D _ _ (by omega) hK' rfl rfl)⟩
  simp[results,Tryz.f24,go_sem,hc5]
 case stop =>
  rintro D c pre W hD hpre ⟨⟨⟨rfl,x,hx,hin⟩,bR1⟩,hB⟩ hK
  have hcr:=bR1.cell
  have hres:resP t=false:=by
   rw[res_names,←Bool.not_eq_true,List.all_eq_true]
   intro h
   have:=h x.nm (hpre.subset (List.mem_map.2 ⟨x,hx,rfl⟩))
   rw[hin]at this
   cases this
  gi_wp2
  refine ⟨by simp,.inl ⟨_,_,rfl,run_takeDeferred hK,?_⟩⟩
  have hc5:=cell_kept hcr (grownBy_putObj' _ D (.deferred none)) (fun r e=>by cases e;exact ⟨_,hK,rfl⟩)
  refine ⟨.bool false,?_,by rw[hres],hB.trans (belowK_b (w:=w) (Nat.le_refl _) W D _ _ (by omega) hK rfl rfl)⟩
  simp[results,Tryz.f24,go_sem,hc5]
end
def CntRet (n:Int) (t:S30) (w:World) (e:Ending) (w' :World):Prop:=∃c:Int,e= .returned (.int .i64 c)∧1≤c∧c≤1001*(nodes t:Int)∧(c≤n→c=nodes t)∧Below w.heap.size w w'
theorem CntRet.mk {n:Int} {t:S30} {w w' :World} {c:Int} (h1:1≤c) (h2:c≤1001*(nodes t:Int)) (h3:c≤n→c=nodes t) (h4:Below w.heap.size w w'):CntRet n t w (.returned (.int .i64 c)) w' :=⟨c,rfl,h1,h2,h3,h4⟩
set_option maxHeartbeats 4000000 in
set_option maxRecDepth 100000 in
theorem count_big (t:S30) (n:Int) (h0:0≤n) (h1:n≤1000) (hb:100<t.f0.size∨(t.f0.size≤100∧10<t.f1.length)∨(t.f0.size≤100∧t.f1.length≤10∧10<t.f2.length)) (w:World) (A1:Option Addr) (c1:Nat) (A2:Option Addr) (c2:Nat):Calls Tryz.prog 40 #[.agg #[.string t.f0,.slice A1 t.f1.length c1,.slice A2 t.f2.length c2],.int .i64 n] w (CntRet n t w):=by
 have HB:=Aside0.mk (below_alloc (Below.refl w.heap.size w) (.cells #[.string t.f0,.slice A1 t.f1.length c1,.slice A2 t.f2.length c2] 30))
 have hq:=nodes_eq t
 rcases hb with hb | ⟨ha,hb⟩ | ⟨ha,hc,hb⟩
 ·have d0:decide ((100:Int)<(t.f0.size:Int))=true:=decide_eq_true (by omega)
  clear hb
  go_enter Tryz.func40,Tryz.ntmps40
  go_wp2
  go_ret
  exact CntRet.mk (by omega) (by omega) (fun h=>by omega) HB.out
 ·have d0:decide ((100:Int)<(t.f0.size:Int))=false:=decide_eq_false (by omega)
  have d1:decide ((10:Int)<(t.f1.length:Int))=true:=decide_eq_true (by omega)
  clear ha hb
  go_enter Tryz.func40,Tryz.ntmps40
  go_wp2
  go_ret
  exact CntRet.mk (by omega) (by omega) (fun h=>by omega) HB.out
 ·have d0:decide ((100:Int)<(t.f0.size:Int))=false:=decide_eq_false (by omega)
  have d1:decide ((10:Int)<(t.f1.length:Int))=false:=decide_eq_false (by omega)
  have d2:decide ((10:Int)<(t.f2.length:Int))=true:=decide_eq_true (by omega)
  clear ha hb hc
  go_enter Tryz.func40,Tryz.ntmps40
  go_wp2
  go_ret
  exact CntRet.mk (by omega) (by omega) (fun h=>by omega) HB.out
set_option maxHeartbeats 4000000 in
set_option maxRecDepth 100000 in
theorem count_aux (n:Int) (h0:0≤n) (h1:n≤1000):∀(f:Nat) (t:S30),nodes t≤f→nodes t≤2000000→∀(w:World) (A1:Option Addr) (c1:Nat) (A2:Option Addr) (c2:Nat),TreeV w t A1 c1 A2 c2→Calls Tryz.prog 40 #[.agg #[.string t.f0,.slice A1 t.f1.length c1,.slice A2 t.f2.length c2],.int .i64 n] w (CntRet n t w)
 |0,t,hn,_=>absurd hn (by have:=nodes_eq t;omega)
 |f+1,t,hn,hm=>fun w A1 c1 A2 c2 tv=>by
  by_cases ha:t.f0.size≤100∧t.f1.length≤10∧t.f2.length≤10
  ·have HI:=Aside0.mk (fun (x:S30) (hx:x∈t.f2) (B1:Option Addr) (d1:Nat) (B2:Option Addr) (d2:Nat) (V:World) (hV:TreeV V x B1 d1 B2 d2)=>count_aux n h0 h1 f x (by have:=nodes_mem (t:=t) hx;omega) (by have:=nodes_mem (t:=t) hx;omega) V B1 d1 B2 d2 hV)
   have hq:=nodes_eq t
   have d0:decide ((100:Int)<(t.f0.size:Int))=false:=decide_eq_false (by omega)
   have d1:decide ((10:Int)<(t.f1.length:Int))=false:=decide_eq_false (by omega)
   have d2:decide ((10:Int)<(t.f2.length:Int))=false:=decide_eq_false (by omega)
   have hk10:=ha.2.2
   have HQ:=Aside0.mk hq
   have HM:=Aside0.mk hm
   have TV:=Aside0.mk tv
   have HB1:=Aside0.mk (below_alloc (Below.refl w.heap.size w) (.cells #[.string t.f0,.slice A1 t.f1.length c1,.slice A2 t.f2.length c2] 30))
   clear ha hn tv hq hm
   go_enter Tryz.func40,Tryz.ntmps40
   go_wp2
   clear d0 d1 d2
   generalize hW2:(w.alloc (.cells #[.string t.f0,.slice A1 t.f1.length c1,.slice A2 t.f2.length c2] 30))=W2 at *
   clear hW2
   go_loopw [5,29] (fun s i w' =>∃y c:Int,i= .int .i64 y∧s= .int .i64 c∧0≤y∧y≤t.f2.length∧1≤c∧Aside0 (c+1001*(nodesL (t.f2.drop y.toNat):Int)≤1001*(nodes t:Int))∧Aside0 (c≤n→c+(nodesL (t.f2.drop y.toNat):Int)=nodes t)∧Aside0 (Below W2.heap.size W2 w')) (fun _ i _=>t.f2.length-(intOf i).toNat)
   case atStart=>exact ⟨0,1,rfl,rfl,Int.le_refl _,Int.natCast_nonneg _,Int.le_refl _,⟨by have:=HQ.out;simp;omega⟩,⟨fun _=>by have:=HQ.out;simp;omega⟩,⟨Below.refl _ _⟩⟩
   case round =>
    obtain ⟨y,c,rfl,rfl,hy,hyk,hc1,HC,HE,HBL⟩:=hrel
    by_cases hyl:y<t.f2.length
    ·obtain ⟨ad,B1,d1,B2,d2,e,hx0,hx1,hx2,hl1,hi1,hl2,hi2⟩:=at_T30 TV.out.k y hy hyl
     cases e
     have hBq:=below_step HB1.out HBL.out
     replace hx0:=pw_cell_below hBq hx0
     replace hx1:=pw_cell_below hBq hx1
     replace hx2:=pw_cell_below hBq hx2
     have p2:=eq_true hy
     have q2:=eq_true hyl
     have hLL:=Aside0.mk (show (nodesL (t.f2.drop y.toNat):Int)=(nodes (rd_T30 t.f2 y):Int)+(nodesL (t.f2.drop (y+1).toNat):Int)by rw[drop_rd t.f2 y hy hyl,nodesL];push_cast;rfl)
     have hBa:=below_step hBq (below_alloc (Below.refl _ _) (.cells #[.string (rd_T30 t.f2 y).f0,.slice B1 (rd_T30 t.f2 y).f1.length d1,.slice B2 (rd_T30 t.f2 y).f2.length d2] 30))
     have HBa:=Aside0.mk (below_step HBL.out (below_alloc (Below.refl wr.heap.size wr) (.cells #[.string (rd_T30 t.f2 y).f0,.slice B1 (rd_T30 t.f2 y).f1.length d1,.slice B2 (rd_T30 t.f2 y).f2.length d2] 30)))
     have D:=Aside0.mk (HI.out (rd_T30 t.f2 y) (rd_mem t.f2 y hy hyl) B1 d1 B2 d2 _ (TreeV.below (w:=w) ⟨hl1,hi1,hl2,hi2⟩ hBa))
     clear hl1 hi1 hl2 hi2 hBq hBa
     by_cases hcn:n<c
     ·have d0:decide (n<c)=true:=decide_eq_true hcn
      have HB3:=Aside0.mk (below_step HB1.out HBa.out)
      clear hcn
      go_wp2
      go_ret
      exact CntRet.mk (by omega) (by have:=HQ.out;omega) (fun h=>by omega) HB3.out
     ·have d0:decide (n<c)=false:=decide_eq_false hcn
      have hcm:c≤n:=by omega
      have HCM:=Aside0.mk hcm
      clear hcn hcm
      generalize rd_T30 t.f2 y=u at *
      go_wp2_with (go_at_call 40;refine D.out.mono ?_;rintro e w2 ⟨ck,rfl,hk1,hk2,hk3,hB2⟩;have HB3:=Aside0.mk (below_step HBa.out hB2);have hck:ck≤3000000000:=(by have:=HC.out;have:=hLL.out;have:=HM.out;omega);have HK2:=Aside0.mk hk2;have HK3:=Aside0.mk hk3;have hcc:=HCM.out;clear hB2 hk2 hk3)
      go_roundw
      case rel=>exact ⟨y+1,c+ck,rfl,rfl,by omega,by omega,by omega,⟨by have:=HC.out;have:=hLL.out;have:=HK2.out;omega⟩,⟨fun h=>by have:=HE.out (by omega);have:=HK3.out (by omega);have:=hLL.out;omega⟩,HB3⟩
      case measure=>simp[intOf];omega
    ·have HB3:=Aside0.mk (below_step HB1.out HBL.out)
     have e0:nodesL (t.f2.drop y.toNat)=0:=by rw[List.drop_eq_nil_of_le (by omega)];rfl
     have HC2:=Aside0.mk (show c≤1001*(nodes t:Int)by have:=HC.out;omega)
     have HE2:=Aside0.mk (show c≤n→c=nodes t by intro h;have:=HE.out h;omega)
     clear e0 HC HE
     go_wp2
     go_ret
     exact CntRet.mk hc1 HC2.out HE2.out HB3.out
  ·exact count_big t n h0 h1 (by omega) w A1 c1 A2 c2
set_option maxHeartbeats 4000000 in
set_option maxRecDepth 100000 in
/-- pentaglotlaw32.large. -/
theorem large_calls (t:S30) (n:Int) (h0:0≤n) (h1:n≤1000) (hm:nodes t≤2000000) (w:World) (A1:Option Addr) (c1:Nat) (A2:Option Addr) (c2:Nat) (tv:TreeV w t A1 c1 A2 c2):Calls Tryz.prog 15 #[.agg #[.string t.f0,.slice A1 t.f1.length c1,.slice A2 t.f2.length c2],.int .i64 n] w fun e w' =>∃b,e= .returned (.bool b)∧(b=false→(nodes t:Int)≤n)∧Below w.heap.size w w' :=by
 have HB:=Aside0.mk (below_alloc (Below.refl w.heap.size w) (.cells #[.string t.f0,.slice A1 t.f1.length c1,.slice A2 t.f2.length c2] 30))
 have C:=Aside0.mk (count_aux n h0 h1 (nodes t) t (Nat.le_refl _) hm _ A1 c1 A2 c2 (tv.below HB.out))
 clear tv hm
 go_enter Tryz.func15,Tryz.ntmps15
 go_wp2_with (go_at_call 40;refine C.out.mono ?_;rintro e w2 ⟨ck,rfl,hk1,hk2,hk3,hB2⟩;have HK3:=Aside0.mk hk3;have HB2:=Aside0.mk (below_step HB.out hB2);clear hk1 hk2 hk3 hB2)
 go_ret
 exact ⟨_,rfl,fun h=>by have h:=of_decide_eq_false h;have:=HK3.out (by omega);omega,HB2.out⟩
section
attribute [local go_sem] Oper.semAt_some
section
variable {ops:Array Oper} {Q:Exit→Act→World→Prop} {i:Nat} {o:Oper} {J:Act→World→Prop} {a:Act} {w:World}
theorem op_asgc {v:Value} (hi:ops[i]? =some o) (hg:o.guard=none) (ho:o.op= .assign (.const v)) (h:J (a.put o.dst v) w):wpOp Tryz.prog ops Q i J a w:=by
 refine op_value hi (wanted_none hg) (w' :=w) ?_ h
 unfold execOp
 rw[ho]
 go_simp
end
end
section
attribute [local go_sem] Oper.semAt_some
theorem idle80 (pm pe:Addr) (w:World) :
  CallsD Tryz.prog 80 #[.pointer (some pm),.pointer (some pe)] .returning w fun e u' w' =>e= .returned (.tuple #[])∧u' = .returning∧w' =w:=by
 refine callsD_of_wpS Tryz.func80 rfl fun c₀ cs hu=> ?_
 apply wpS_seq
 apply wpS_region
 simp[wpOpsS,go_sem,recoverD,hu,Tryz.ntmps80,Exit.thenS]
 apply wpS_seq
 apply wpS_region
 simp[wpOpsS,go_sem,Exit.thenS]
 refine wpS_cond (t:=false) (by simp[Act.eval,Array.replicate]) ?_
 simp only[Bool.false_eq_true,if_false]
 refine wpS_of_wp (wp_skip ?_)
 cases c₀
 simp_all [bodyPostS,results,Tryz.results80]
theorem zero9 (m e:Nat) (hne:m≠e) (w:World) (v:Value) (b9:Value) (he:w.heap[e]? =some (.cells #[b9] 38 (0,0))) (a0 a1 a2 a3 a4 a5 a6 a7 a8:Value):(set9 w m a0 a1 a2 a3 a4 a5 a6 a7 a8).heap[e]? =some (.cells #[b9] 38 (0,0)):=(fin9_far (fun h=>hne h.symm) _ _ _ _ _ _ _ _ _).trans he
set_option maxRecDepth 100000 in
set_option maxHeartbeats 1000000 in
theorem caught80 (m e:Nat) (hne:m≠e) (b0 b1 b2 b3 b4 b5 b6 b7 b8 b9:Value) (w:World) (h:w.heap[m]? =some (.cells #[b0,b1,b2,b3,b4,b5,b6,b7,b8] 70 (0,0))) (he:w.heap[e]? =some (.cells #[b9] 38 (0,0))) :
  CallsD Tryz.prog 80 #[.pointer (some ⟨m,0,none⟩),.pointer (some ⟨e,0,none⟩)] (.panicking failV) w fun x u' w' =>x= .returned (.tuple #[])∧u' = .panicking [{v:= .iface 117 (.int .i64 6),recovered:=true}] ∧
   w' =(set9 w m (.int .i64 0) (.string ⟨#[]⟩) (.slice none 0 0) (.int .i64 0) (.int .i64 0) (.slice none 0 0) (.int .i64 0) (.int .i64 0) (.bool false)).setCell ⟨e,0,none⟩ (.int .i64 6):=by
 refine callsD_of_wpS Tryz.func80 rfl fun c₀ cs hu=> ?_
 unfold failV at hu
 apply wpS_seq
 apply wpS_region
 simp[wpOpsS,go_sem,recoverD,hu,Tryz.ntmps80,Exit.thenS]
 apply wpS_seq
 apply wpS_region
 simp[wpOpsS,go_sem,Exit.thenS]
 refine wpS_cond (t:=true) (by simp[Act.eval,Array.replicate]) ?_
 simp only[if_true]
 refine wpS_of_wp ?_
 simp only[Array.replicate_succ,Array.replicate_zero,List.push_toArray,List.append_toArray,List.setIfInBounds_toArray,List.nil_append,List.cons_append,List.set_cons_zero,List.set_cons_succ]
 have zc0:=blk_cell h 0
 have zf0:=blk_frozen h 0
 have zc1:=blk_cell h 1
 have zf1:=blk_frozen h 1
 have zc2:=blk_cell h 2
 have zf2:=blk_frozen h 2
 have zc3:=blk_cell h 3
 have zf3:=blk_frozen h 3
 have zc4:=blk_cell h 4
 have zf4:=blk_frozen h 4
 have zc5:=blk_cell h 5
 have zf5:=blk_frozen h 5
 have zc6:=blk_cell h 6
 have zf6:=blk_frozen h 6
 have zc7:=blk_cell h 7
 have zf7:=blk_frozen h 7
 have zc8:=blk_cell h 8
 have zf8:=blk_frozen h 8
 simp at zc0 zc1 zc2 zc3 zc4 zc5 zc6 zc7 zc8
 have HZ:=Aside0.mk (zero9 m e hne w (.bool false) b9 he (.int .i64 0) (.string ⟨#[]⟩) (.slice none 0 0) (.int .i64 0) (.int .i64 0) (.slice none 0 0) (.int .i64 0) (.int .i64 0) (.bool false))
 have y0:=blk_cell HZ.out 0
 have yf:=blk_frozen HZ.out 0
 simp at y0
 unfold set9 at y0 yf
 have hta:∀w:World,(Instr.typeAssert (.iface 117 (.int .i64 6)) 20 117 true).run Tryz.prog w= .ok (.tuple #[.int .i64 6,.bool true]) w:=fun _=>by kernel_rfl
 clear h he HZ
 go_wp2
 simp[bodyPostS,results,Tryz.results80,set9]
theorem size_f_le {k k' :Nat} (h:k≤k') (a:ByteArray) (b:List Int) (c:List S30):LeO (abstract_Size.f k a b c) (abstract_Size.f k' a b c):=by
 induction h with
 |refl=>exact LeO.refl _
 |step _ ih=>exact LeO.trans ih ((abstract_Size.mono_l _).1 _ _ _)
theorem size_l_le {k k' :Nat} (h:k≤k') (a:Int) (b:List S30) (c d:Int):LeO (abstract_Size.l0 k a b c d) (abstract_Size.l0 k' a b c d):=by
 induction h with
 |refl=>exact LeO.refl _
 |step _ ih=>exact LeO.trans ih ((abstract_Size.mono_l _).2 _ _ _ _)
theorem len_nodesL:∀l:List S30,l.length≤nodesL l
 | []=>by simp
 |t::r=>by
  have:=len_nodesL r
  have:=nodes_eq t
  rw[nodesL,List.length_cons]
  omega
theorem size_l (n:Nat) (ih:∀t:S30,nodes t≤n→∃k,abstract_Size.f k t.f0 t.f1 t.f2=some (nodes t:Int)) (l:List S30) (hl:nodesL l≤n) (hn:n≤1000000) :
  ∀(j:Nat) (i x3:Int),0≤i→i+j=l.length→0≤x3→x3+nodesL (l.drop i.toNat)≤2000000→∃k,abstract_Size.l0 k x3 l l.length i=some (x3+nodesL (l.drop i.toNat))
 |0,i,x3,hi,hj,h3,hb=>⟨1,by
  rw[abstract_Size.l0,if_neg (by omega),List.drop_of_length_le (by omega),nodesL]
  simp⟩
 |j+1,i,x3,hi,hj,h3,hb=>by
  have hil:i<l.length:=by omega
  have hd:=drop_rd l i hi hil
  rw[hd,nodesL]at hb ⊢
  have hm:=rd_mem l i hi hil
  obtain ⟨k1,hk1⟩:=ih (rd_T30 l i) (by have h1:=nodes_mem (t:=⟨ByteArray.empty,[],l⟩) hm;have h2:=nodes_eq ⟨ByteArray.empty,[],l⟩;simp only at h2;omega)
  have hlen:=len_nodesL l
  obtain ⟨k2,hk2⟩:=size_l n ih l hl hn j (i+1) (x3+nodes (rd_T30 l i)) (by omega) (by omega) (by omega) (by omega)
  refine ⟨max k1 k2+1,?_⟩
  rw[abstract_Size.l0,if_pos hil,if_pos hi,if_pos hil,size_f_le (Nat.le_max_left k1 k2) _ _ _ _ hk1]
  show abstract_Size.l0 _ (wrap64 (x3+nodes (rd_T30 l i))) l l.length (wrap64 (i+1))=_
  rw[wrap_small (x:=x3+nodes (rd_T30 l i)) (by omega) (by omega),wrap_small (x:=i+1) (by omega) (by omega),size_l_le (Nat.le_max_right k1 k2) _ _ _ _ _ hk2]
  congr 1
  push_cast
  omega
theorem size_ex:∀(n:Nat),n≤1000000→∀t:S30,nodes t≤n→∃k,abstract_Size.f k t.f0 t.f1 t.f2=some (nodes t:Int)
 |0,_,t,hn=>absurd hn (by have:=nodes_eq t;omega)
 |n+1,h,t,hn=>by
  have hq:=nodes_eq t
  obtain ⟨k,hk⟩:=size_l n (size_ex n (by omega)) t.f2 (by omega) (by omega) t.f2.length 0 1 (by omega) (by omega) (by omega) (by simp;omega)
  refine ⟨k+1,?_⟩
  rw[abstract_Size.f,hk]
  simp
  omega
theorem size_calls (t:S30) (hn:nodes t≤1000000) (w:World) (A1:Option Addr) (c1:Nat) (A2:Option Addr) (c2:Nat) (tv:TreeV w t A1 c1 A2 c2) :
  Calls Tryz.prog 77 #[.agg #[.string t.f0,.slice A1 t.f1.length c1,.slice A2 t.f2.length c2]] w fun e w' =>e= .returned (.int .i64 (nodes t))∧Below w.heap.size w w' :=by
 obtain ⟨k,hk⟩:=size_ex (nodes t) hn t (Nat.le_refl _)
 exact abstract_Size.calls k t.f0 A1 c1 t.f1 A2 c2 t.f2 _ w tv.v tv.l1 tv.k tv.l2 hk
end
section
attribute [local go_sem] Oper.semAt_some
def OnN (R:Act→World→Prop):Exit→Act→World→Prop
 |.normal,a,w=>R a w
 |_,_,_=>False
theorem wp_onN {P:Program} {c:Code} {Q:Exit→Act→World→Prop} {a:Act} {w:World} (R:Act→World→Prop) (h:c.wp P (OnN R) a w) (k:∀a' w',R a' w' →Q .normal a' w'):c.wp P Q a w :=
 Code.wp_mono (fun e a' w' h=>by cases e with
  |normal=>exact k a' w' h
  |_=>exact False.elim h) h
theorem wanted_yes {ops:Array Oper} {o:Oper} {tmps:Array Value} {j:Nat} (hg:o.guard=some (j,false)) (h:((ops[j]?).bind (·.dst)).bind (tmps[·]?)=some (.bool false)):Region.wanted o (yielded ops tmps)=true:=(wanted_if hg h).trans rfl
theorem wanted_no {ops:Array Oper} {o:Oper} {tmps:Array Value} {j:Nat} (hg:o.guard=some (j,false)) (h:((ops[j]?).bind (·.dst)).bind (tmps[·]?)=some (.bool true)):Region.wanted o (yielded ops tmps)=false:=(wanted_if hg h).trans rfl
def zeroM:Value:= .agg #[.int .i64 0,.string ⟨#[]⟩,.slice none 0 0,.int .i64 0,.int .i64 0,.slice none 0 0,.int .i64 0,.int .i64 0,.bool false]
structure Own41 (s:Sg) (t:S30) (A1:Option Addr) (c1:Nat) (A2:Option Addr) (c2:Nat) (n:Nat) (W:World):Prop where
 sg:W.heap[n]? =some (.cells #[.slice s.A0 s.ss.length s.c0,.slice s.A1 s.cs.length s.c1,.slice s.A2 s.ps.length s.c2] 26 (0,0))
 tr:W.heap[n+1]? =some (.cells #[.string t.f0,.slice A1 t.f1.length c1,.slice A2 t.f2.length c2] 30 (0,0))
 mn:W.heap[n+1+1]? =some (.cells #[.int .i64 0,.string ⟨#[]⟩,.slice none 0 0,.int .i64 0,.int .i64 0,.slice none 0 0,.int .i64 0,.int .i64 0,.bool false] 70 (0,0))
 er:W.heap[n+1+1+1]? =some (.cells #[.int .i64 0] 38 (0,0))
theorem Own41.below {s:Sg} {t:S30} {A1:Option Addr} {c1:Nat} {A2:Option Addr} {c2 n:Nat} {W W' :World} (h:Own41 s t A1 c1 A2 c2 n W) (hB:Below W.heap.size W W'):Own41 s t A1 c1 A2 c2 n W' :=
 ⟨blk_below h.sg hB,blk_below h.tr hB,blk_below h.mn hB,blk_below h.er hB⟩
theorem own41 (s:Sg) (t:S30) (A1:Option Addr) (c1:Nat) (A2:Option Addr) (c2:Nat) (w:World):Own41 s t A1 c1 A2 c2 w.heap.size ((((w.alloc (.cells #[.slice s.A0 s.ss.length s.c0,.slice s.A1 s.cs.length s.c1,.slice s.A2 s.ps.length s.c2] 26)).alloc (.cells #[.string t.f0,.slice A1 t.f1.length c1,.slice A2 t.f2.length c2] 30)).alloc (.cells #[.int .i64 0,.string ⟨#[]⟩,.slice none 0 0,.int .i64 0,.int .i64 0,.slice none 0 0,.int .i64 0,.int .i64 0,.bool false] 70)).alloc (.cells #[.int .i64 0] 38))∧Below w.heap.size w ((((w.alloc (.cells #[.slice s.A0 s.ss.length s.c0,.slice s.A1 s.cs.length s.c1,.slice s.A2 s.ps.length s.c2] 26)).alloc (.cells #[.string t.f0,.slice A1 t.f1.length c1,.slice A2 t.f2.length c2] 30)).alloc (.cells #[.int .i64 0,.string ⟨#[]⟩,.slice none 0 0,.int .i64 0,.int .i64 0,.slice none 0 0,.int .i64 0,.int .i64 0,.bool false] 70)).alloc (.cells #[.int .i64 0] 38)):=by
 refine ⟨⟨?_,?_,?_,?_⟩,below_alloc (below_alloc (below_alloc (below_alloc (Below.refl _ _) _) _) _) _⟩
 ·exact blk_alloc (blk_alloc (blk_alloc (blk_new w _) _) _) _
 ·have:=blk_alloc (blk_alloc (blk_new (w.alloc (.cells #[.slice s.A0 s.ss.length s.c0,.slice s.A1 s.cs.length s.c1,.slice s.A2 s.ps.length s.c2] 26)) (.cells #[.string t.f0,.slice A1 t.f1.length c1,.slice A2 t.f2.length c2] 30)) (.cells #[.int .i64 0,.string ⟨#[]⟩,.slice none 0 0,.int .i64 0,.int .i64 0,.slice none 0 0,.int .i64 0,.int .i64 0,.bool false] 70)) (.cells #[.int .i64 0] 38)
  simpa only[World.size_alloc]using this
 ·have:=blk_alloc (blk_new ((w.alloc (.cells #[.slice s.A0 s.ss.length s.c0,.slice s.A1 s.cs.length s.c1,.slice s.A2 s.ps.length s.c2] 26)).alloc (.cells #[.string t.f0,.slice A1 t.f1.length c1,.slice A2 t.f2.length c2] 30)) (.cells #[.int .i64 0,.string ⟨#[]⟩,.slice none 0 0,.int .i64 0,.int .i64 0,.slice none 0 0,.int .i64 0,.int .i64 0,.bool false] 70)) (.cells #[.int .i64 0] 38)
  simpa only[World.size_alloc]using this
 ·have:=blk_new (((w.alloc (.cells #[.slice s.A0 s.ss.length s.c0,.slice s.A1 s.cs.length s.c1,.slice s.A2 s.ps.length s.c2] 26)).alloc (.cells #[.string t.f0,.slice A1 t.f1.length c1,.slice A2 t.f2.length c2] 30)).alloc (.cells #[.int .i64 0,.string ⟨#[]⟩,.slice none 0 0,.int .i64 0,.int .i64 0,.slice none 0 0,.int .i64 0,.int .i64 0,.bool false] 70)) (.cells #[.int .i64 0] 38)
  simpa only[World.size_alloc]using this
def fr41 (s:Sg) (t:S30) (cat:ByteArray) (fv:Value) (A1:Option Addr) (c1:Nat) (A2:Option Addr) (c2:Nat) (n:Nat) (x:Nat→Value):Act:={tmps:= #[.agg #[.slice s.A0 s.ss.length s.c0,.slice s.A1 s.cs.length s.c1,.slice s.A2 s.ps.length s.c2],.agg #[.string t.f0,.slice A1 t.f1.length c1,.slice A2 t.f2.length c2],.string cat,fv,.pointer (some ⟨n,0,none⟩),.pointer (some ⟨n+1,0,none⟩),undef,undef,.pointer (some ⟨n+1+1,0,none⟩),.pointer (some ⟨n+1+1+1,0,none⟩),x 0,x 1,x 2,x 3,x 4,x 5,x 6,x 7,x 8,x 9,x 10,x 11,x 12,x 13,x 14,undef,undef,undef,undef,undef,undef,undef,undef,undef,undef,undef,undef,undef,undef,undef,undef,undef,undef,undef,undef,undef,undef,undef,undef,undef,undef,undef],defers:=[]}
def C41 (s:Sg) (t:S30) (cat:ByteArray) (A1:Option Addr) (c1:Nat) (A2:Option Addr) (c2:Nat) (b1 b2 b3:Bool):Nat→Value→World→Prop
 |0,v,_=>v= .agg #[.slice s.A0 s.ss.length s.c0,.slice s.A1 s.cs.length s.c1,.slice s.A2 s.ps.length s.c2]
 |1,v,_=>v= .bool b1
 |2,v,_=>v= .bool !b1
 |3,v,_=>v= .bool !b1
 |4,v,_=>b1=true→v= .agg #[.string t.f0,.slice A1 t.f1.length c1,.slice A2 t.f2.length c2]
 |5,v,_=>b1=true→v= .int .i64 (nodes t)
 |6,v,_=>b1=true→v= .bool !b2
 |7,v,_=>v= .bool !(b1 && b2)
 |8,v,_=>v= .bool !(b1 && b2)
 |9,v,w=>(b1 && b2)=true→∃mb,v= .map (some mb)∧FnsAt w mb structL
 |10,v,_=>(b1 && b2)=true→v= .agg #[.string t.f0,.slice A1 t.f1.length c1,.slice A2 t.f2.length c2]
 |11,v,_=>(b1 && b2)=true→v= .string cat
 |12,v,_=>(b1 && b2)=true→v= .bool b3
 |13,v,_=>(b1 && b2)=true→v= .bool !b3
 |14,v,_=>v= .bool !(b1 && b2 && b3)
 |_,_,_=>True
set_option maxHeartbeats 4000000 in
set_option maxRecDepth 100000 in
theorem head41 (s:Sg) (t:S30) (cat:ByteArray) (fv:Value) (A1:Option Addr) (c1:Nat) (A2:Option Addr) (c2:Nat) (n:Nat) (W1:World) (b1 b2 b3:Bool) (hO:Own41 s t A1 c1 A2 c2 n W1) (hC:s.C W1) (tv:TreeV W1 t A1 c1 A2 c2) (hsm:Sm t) (hn:nodes t≤1000000) (h1:sigOk s.ss s.cs s.ps=b1) (h2:decide ((60:Int)<nodes t)= !b2) (h3:formedP structL t cat=b3) :
  Code.wp Tryz.prog (.region 1 (opsOf Tryz.f41 1) true) (OnN fun a w' =>∃x,a=fr41 s t cat fv A1 c1 A2 c2 n x∧Below W1.heap.size W1 w' ∧x 14= .bool !(b1 && b2 && b3)) (fr41 s t cat fv A1 c1 A2 c2 n (fun _=>undef)) W1:=by
 have HO:=Aside0.mk (hO.below (below_drew (Below.refl _ _)))
 have C58:=Aside0.mk (fun (V:World) (hB:Below W1.drew.heap.size W1.drew V)=>valid_calls V s.A0 s.c0 s.ss s.A1 s.c1 s.cs s.A2 s.c2 s.ps (SigC.below hC (below_step (below_drew (Below.refl _ _)) hB)))
 have TV:=Aside0.mk (tv.below (below_drew (Below.refl _ _)))
 have HSM:=Aside0.mk hsm
 have HN:=Aside0.mk hn
 have H1:=Aside0.mk h1
 have H2:=Aside0.mk h2
 have H3:=Aside0.mk h3
 clear hO hC tv hsm hn h1 h2 h3
 simp only[opsOf,Tryz.f41,Option.bind_some,opsIn,Option.getD_some,Option.orElse,reduceIte,Nat.reduceEqDiff,Option.or_some,Option.none_or,Option.some_or,beq_iff_eq,Nat.reduceBEq,Bool.false_eq_true]
 refine wp_region_any (by kernel_rfl) (region_slots (fr41 s t cat fv A1 c1 A2 c2 n) (C41 s t cat A1 c1 A2 c2 b1 b2 b3) W1.drew (by kernel_rfl) ?_ ?_ ?_ ?_ _)
 ·intro i op x v ho
  match i,ho with
  |0,ho=>injection ho with ho;subst ho;rfl
  |1,ho=>injection ho with ho;subst ho;rfl
  |2,ho=>injection ho with ho;subst ho;rfl
  |3,ho=>injection ho with ho;subst ho;rfl
  |4,ho=>injection ho with ho;subst ho;rfl
  |5,ho=>injection ho with ho;subst ho;rfl
  |6,ho=>injection ho with ho;subst ho;rfl
  |7,ho=>injection ho with ho;subst ho;rfl
  |8,ho=>injection ho with ho;subst ho;rfl
  |9,ho=>injection ho with ho;subst ho;rfl
  |10,ho=>injection ho with ho;subst ho;rfl
  |11,ho=>injection ho with ho;subst ho;rfl
  |12,ho=>injection ho with ho;subst ho;rfl
  |13,ho=>injection ho with ho;subst ho;rfl
  |14,ho=>injection ho with ho;subst ho;rfl
  |i+15,ho=>exact absurd (Array.getElem?_eq_some_iff.1 ho).1 (by show ¬i+15<15;omega)
 ·intro i v w w' h hB
  match i,h with
  |0,h=>exact h
  |1,h=>exact h
  |2,h=>exact h
  |3,h=>exact h
  |4,h=>exact h
  |5,h=>exact h
  |6,h=>exact h
  |7,h=>exact h
  |8,h=>exact h
  |10,h=>exact h
  |11,h=>exact h
  |12,h=>exact h
  |13,h=>exact h
  |14,h=>exact h
  |9,h=>exact fun e=>by obtain ⟨mb,h1,h2⟩:=h e;exact ⟨mb,h1,h2.below hB⟩
  |i+15,h=>trivial
 ·intro i op x w J ho hB hdep h
  match i,ho,hdep,h with
  |0,ho,hdep,h =>
   simp at ho
   subst ho
   have s0:=blk_cell (blk_below HO.out.sg hB) 0
   have s1:=blk_cell (blk_below HO.out.sg hB) 1
   have s2:=blk_cell (blk_below HO.out.sg hB) 2
   simp at s0 s1 s2
   refine op_value (o:=_) rfl (wanted_none rfl) (w' :=w) (v:= .agg #[.slice s.A0 s.ss.length s.c0,.slice s.A1 s.cs.length s.c1,.slice s.A2 s.ps.length s.c2]) ?_ (h _ _ (rfl) (Below.refl _ _))
   unfold fr41
   go_simp
  |1,ho,hdep,h =>
   simp at ho
   subst ho
   have d0:=hdep ⟨0,.data⟩ (by simp) rfl
   have d0:x 0=_:=d0
   refine op_call (f:=58) (args:= #[.agg #[.slice s.A0 s.ss.length s.c0,.slice s.A1 s.cs.length s.c1,.slice s.A2 s.ps.length s.c2]]) rfl (wanted_none rfl) ?_ ?_
   ·have he:=enters_of Tryz.func58 (by kernel_rfl) rfl #[.agg #[.slice s.A0 s.ss.length s.c0,.slice s.A1 s.cs.length s.c1,.slice s.A2 s.ps.length s.c2]] w
    unfold fr41
    go_simp
   ·refine (C58.out w hB).mono ?_
    rintro e w' ⟨rfl,hb⟩
    exact ⟨_,rfl,h _ _ (congrArg Value.bool H1.out) hb⟩
  |2,ho,hdep,h =>
   simp at ho
   subst ho
   have d1:=hdep ⟨1,.data⟩ (by simp) rfl
   have d1:x 1= .bool b1:=d1
   refine op_value (o:=_) rfl (wanted_none rfl) (w' :=w) (v:= .bool !b1) ?_ (h _ _ (rfl) (Below.refl _ _))
   unfold fr41
   go_simp
  |3,ho,hdep,h =>
   simp at ho
   subst ho
   have d2:=hdep ⟨2,.data⟩ (by simp) rfl
   have d2:x 2= .bool !b1:=d2
   refine op_value (o:=_) rfl (wanted_none rfl) (w' :=w) (v:= .bool !b1) ?_ (h _ _ (rfl) (Below.refl _ _))
   unfold fr41
   go_simp
  |4,ho,hdep,h =>
   simp at ho
   subst ho
   have d3:=hdep ⟨3,.guard⟩ (by simp) rfl
   cases b1 with
   |false =>
    exact op_skip rfl (wanted_no (j:=3) rfl (by exact congrArg some d3)) (h _ _ (fun e=>by cases e) (Below.refl _ _))
   |true =>
    have t0:=blk_cell (blk_below HO.out.tr hB) 0
    have t1:=blk_cell (blk_below HO.out.tr hB) 1
    have t2:=blk_cell (blk_below HO.out.tr hB) 2
    simp at t0 t1 t2
    refine op_value (o:=_) rfl (wanted_yes (j:=3) rfl (by exact congrArg some d3)) (w' :=w) (v:= .agg #[.string t.f0,.slice A1 t.f1.length c1,.slice A2 t.f2.length c2]) ?_ (h _ _ (fun _=>rfl) (Below.refl _ _))
    unfold fr41
    go_simp
  |5,ho,hdep,h =>
   simp at ho
   subst ho
   have d3:=hdep ⟨3,.guard⟩ (by simp) rfl
   cases b1 with
   |false =>
    exact op_skip rfl (wanted_no (j:=3) rfl (by exact congrArg some d3)) (h _ _ (fun e=>by cases e) (Below.refl _ _))
   |true =>
    have d4:x 4=_:=hdep ⟨4,.data⟩ (by simp) rfl rfl
    refine op_call (f:=77) (args:= #[.agg #[.string t.f0,.slice A1 t.f1.length c1,.slice A2 t.f2.length c2]]) rfl (wanted_yes (j:=3) rfl (by exact congrArg some d3)) ?_ ?_
    ·have he:=enters_of Tryz.func77 (by kernel_rfl) rfl #[.agg #[.string t.f0,.slice A1 t.f1.length c1,.slice A2 t.f2.length c2]] w
     unfold fr41
     go_simp
    ·refine (size_calls t HN.out w A1 c1 A2 c2 (TV.out.below hB)).mono ?_
     rintro e w' ⟨rfl,hb⟩
     exact ⟨_,rfl,h _ _ (fun _=>rfl) hb⟩
  |6,ho,hdep,h =>
   simp at ho
   subst ho
   have d3:=hdep ⟨3,.guard⟩ (by simp) rfl
   cases b1 with
   |false =>
    exact op_skip rfl (wanted_no (j:=3) rfl (by exact congrArg some d3)) (h _ _ (fun e=>by cases e) (Below.refl _ _))
   |true =>
    have d5:x 5= .int .i64 (nodes t):=hdep ⟨5,.data⟩ (by simp) rfl rfl
    refine op_value (o:=_) rfl (wanted_yes (j:=3) rfl (by exact congrArg some d3)) (w' :=w) (v:= .bool (decide ((60:Int)<nodes t))) ?_ (h _ _ (fun _=>congrArg Value.bool H2.out) (Below.refl _ _))
    unfold fr41
    go_simp
  |7,ho,hdep,h =>
   simp at ho
   subst ho
   have d3:x 3= .bool !b1:=hdep ⟨3,.data⟩ (by simp) rfl
   have d6:=hdep ⟨6,.data⟩ (by simp) rfl
   cases b1 with
   |false =>
    have d3:x 3= .bool true:=d3
    refine op_value (o:=_) rfl (wanted_none rfl) (w' :=w) (v:= .bool true) ?_ (h _ _ (rfl) (Below.refl _ _))
    unfold fr41
    go_simp
   |true =>
    have d3:x 3= .bool false:=d3
    have d6:x 6= .bool !b2:=d6 rfl
    refine op_value (o:=_) rfl (wanted_none rfl) (w' :=w) (v:= .bool !b2) ?_ (h _ _ (rfl) (Below.refl _ _))
    unfold fr41
    go_simp
  |8,ho,hdep,h =>
   simp at ho
   subst ho
   have d7:x 7= .bool !(b1 && b2):=hdep ⟨7,.data⟩ (by simp) rfl
   refine op_value (o:=_) rfl (wanted_none rfl) (w' :=w) (v:= .bool !(b1 && b2)) ?_ (h _ _ (rfl) (Below.refl _ _))
   unfold fr41
   go_simp
  |9,ho,hdep,h =>
   simp at ho
   subst ho
   have d8:=hdep ⟨8,.guard⟩ (by simp) rfl
   cases hb:(b1 && b2)with
   |false =>
    rw[show C41 s t cat A1 c1 A2 c2 b1 b2 b3 8 (x 8) w=(x 8= .bool !(b1 && b2))from rfl,hb]at d8
    exact op_skip rfl (wanted_no (j:=8) rfl (by exact congrArg some d8)) (h _ _ (fun e=>by rw[hb]at e;cases e) (Below.refl _ _))
   |true =>
    rw[show C41 s t cat A1 c1 A2 c2 b1 b2 b3 8 (x 8) w=(x 8= .bool !(b1 && b2))from rfl,hb]at d8
    refine op_call (f:=79) (args:= #[]) rfl (wanted_yes (j:=8) rfl (by exact congrArg some d8)) ?_ ?_
    ·have he:=enters_of Tryz.func79 (by kernel_rfl) rfl #[] w
     unfold fr41
     go_simp
    ·refine (structural_calls w).mono ?_
     rintro e w' ⟨mb,rfl,hF,hb'⟩
     exact ⟨_,rfl,h _ _ (fun _=>⟨mb,rfl,hF⟩) hb'⟩
  |10,ho,hdep,h =>
   simp at ho
   subst ho
   have d8:=hdep ⟨8,.guard⟩ (by simp) rfl
   cases hb:(b1 && b2)with
   |false =>
    rw[show C41 s t cat A1 c1 A2 c2 b1 b2 b3 8 (x 8) w=(x 8= .bool !(b1 && b2))from rfl,hb]at d8
    exact op_skip rfl (wanted_no (j:=8) rfl (by exact congrArg some d8)) (h _ _ (fun e=>by rw[hb]at e;cases e) (Below.refl _ _))
   |true =>
    rw[show C41 s t cat A1 c1 A2 c2 b1 b2 b3 8 (x 8) w=(x 8= .bool !(b1 && b2))from rfl,hb]at d8
    have t0:=blk_cell (blk_below HO.out.tr hB) 0
    have t1:=blk_cell (blk_below HO.out.tr hB) 1
    have t2:=blk_cell (blk_below HO.out.tr hB) 2
    simp at t0 t1 t2
    refine op_value (o:=_) rfl (wanted_yes (j:=8) rfl (by exact congrArg some d8)) (w' :=w) (v:= .agg #[.string t.f0,.slice A1 t.f1.length c1,.slice A2 t.f2.length c2]) ?_ (h _ _ (fun _=>rfl) (Below.refl _ _))
    unfold fr41
    go_simp
  |11,ho,hdep,h =>
   simp at ho
   subst ho
   have d8:=hdep ⟨8,.guard⟩ (by simp) rfl
   cases hb:(b1 && b2)with
   |false =>
    rw[show C41 s t cat A1 c1 A2 c2 b1 b2 b3 8 (x 8) w=(x 8= .bool !(b1 && b2))from rfl,hb]at d8
    exact op_skip rfl (wanted_no (j:=8) rfl (by exact congrArg some d8)) (h _ _ (fun e=>by rw[hb]at e;cases e) (Below.refl _ _))
   |true =>
    rw[show C41 s t cat A1 c1 A2 c2 b1 b2 b3 8 (x 8) w=(x 8= .bool !(b1 && b2))from rfl,hb]at d8
    refine op_value (o:=_) rfl (wanted_yes (j:=8) rfl (by exact congrArg some d8)) (w' :=w) (v:= .string cat) ?_ (h _ _ (fun _=>rfl) (Below.refl _ _))
    unfold fr41
    go_simp
  |12,ho,hdep,h =>
   simp at ho
   subst ho
   have d8:=hdep ⟨8,.guard⟩ (by simp) rfl
   cases hb:(b1 && b2)with
   |false =>
    rw[show C41 s t cat A1 c1 A2 c2 b1 b2 b3 8 (x 8) w=(x 8= .bool !(b1 && b2))from rfl,hb]at d8
    exact op_skip rfl (wanted_no (j:=8) rfl (by exact congrArg some d8)) (h _ _ (fun e=>by rw[hb]at e;cases e) (Below.refl _ _))
   |true =>
    rw[show C41 s t cat A1 c1 A2 c2 b1 b2 b3 8 (x 8) w=(x 8= .bool !(b1 && b2))from rfl,hb]at d8
    obtain ⟨mb,d9,hF⟩:=(hdep ⟨9,.data⟩ (by simp) rfl) hb
    have d10:x 10=_:=hdep ⟨10,.data⟩ (by simp) rfl hb
    have d11:x 11= .string cat:=hdep ⟨11,.data⟩ (by simp) rfl hb
    refine op_call (f:=78) (args:= #[.map (some mb),.agg #[.string t.f0,.slice A1 t.f1.length c1,.slice A2 t.f2.length c2],.string cat]) rfl (wanted_yes (j:=8) rfl (by exact congrArg some d8)) ?_ ?_
    ·have he:=enters_of Tryz.func78 (by kernel_rfl) rfl #[.map (some mb),.agg #[.string t.f0,.slice A1 t.f1.length c1,.slice A2 t.f2.length c2],.string cat] w
     unfold fr41
     go_simp
    ·have hv:=TV.out.below hB
     refine (formed_calls w mb structL hF t HSM.out A1 c1 A2 c2 cat hv.v hv.l1 hv.k hv.l2).mono ?_
     rintro e w' ⟨rfl,hb'⟩
     exact ⟨_,rfl,h _ _ (fun _=>congrArg Value.bool H3.out) hb'⟩
  |13,ho,hdep,h =>
   simp at ho
   subst ho
   have d8:=hdep ⟨8,.guard⟩ (by simp) rfl
   cases hb:(b1 && b2)with
   |false =>
    rw[show C41 s t cat A1 c1 A2 c2 b1 b2 b3 8 (x 8) w=(x 8= .bool !(b1 && b2))from rfl,hb]at d8
    exact op_skip rfl (wanted_no (j:=8) rfl (by exact congrArg some d8)) (h _ _ (fun e=>by rw[hb]at e;cases e) (Below.refl _ _))
   |true =>
    rw[show C41 s t cat A1 c1 A2 c2 b1 b2 b3 8 (x 8) w=(x 8= .bool !(b1 && b2))from rfl,hb]at d8
    have d12:x 12= .bool b3:=hdep ⟨12,.data⟩ (by simp) rfl hb
    refine op_value (o:=_) rfl (wanted_yes (j:=8) rfl (by exact congrArg some d8)) (w' :=w) (v:= .bool !b3) ?_ (h _ _ (fun _=>rfl) (Below.refl _ _))
    unfold fr41
    go_simp
  |14,ho,hdep,h =>
   simp at ho
   subst ho
   have d8:x 8= .bool !(b1 && b2):=hdep ⟨8,.data⟩ (by simp) rfl
   have d13:=hdep ⟨13,.data⟩ (by simp) rfl
   cases hb:(b1 && b2)with
   |false =>
    rw[hb]at d8
    have d8:x 8= .bool true:=d8
    refine op_value (o:=_) rfl (wanted_none rfl) (w' :=w) (v:= .bool true) ?_ (h _ _ (by show _=Value.bool !(b1 && b2 && b3);rw[hb];rfl) (Below.refl _ _))
    unfold fr41
    go_simp
   |true =>
    rw[hb]at d8
    have d8:x 8= .bool false:=d8
    have d13:x 13= .bool !b3:=d13 hb
    refine op_value (o:=_) rfl (wanted_none rfl) (w' :=w) (v:= .bool !b3) ?_ (h _ _ (by show _=Value.bool !(b1 && b2 && b3);rw[hb];rfl) (Below.refl _ _))
    unfold fr41
    go_simp
  |i+15,ho,hdep,h=>exact absurd (Array.getElem?_eq_some_iff.1 ho).1 (by show ¬i+15<15;omega)
 ·intro x w hB hx
  exact ⟨x,rfl,below_step (below_drew (Below.refl _ _)) hB,hx 14 (by show 14<15;omega)⟩
end
theorem declAll_mem:∀(l:Decls) (r:List (ByteArray×ByteArray×List ByteArray)),(declAll l r).isSome=true→∀d∈r,∃l',declOk l' d.1 d.2.1 d.2.2=true
 |l,[],_,d,hd=>by cases hd
 |l,e::r,h,d,hd=>by
  rw[declAll]at h
  by_cases he:declOk l e.1 e.2.1 e.2.2=true
  ·rw[if_pos he]at h
   rcases List.mem_cons.1 hd with rfl | hd
   ·exact ⟨l,he⟩
   ·exact declAll_mem _ r h d hd
  ·rw[if_neg he]at h
   cases h
theorem nameFrom_all (x:ByteArray):∀(n:Nat) (i:Int),nameFrom x n i=true→∀j:Nat,j<n→(97≤bt x (i+j)∧bt x (i+j)≤122)∨(48≤bt x (i+j)∧bt x (i+j)≤57)∨bt x (i+j)=45
 |0,i,h,j,hj=>by omega
 |n+1,i,h,j,hj=>by
  rw[nameFrom]at h
  have step:nameFrom x n (i+1)=true∧((97≤bt x i∧bt x i≤122)∨(48≤bt x i∧bt x i≤57)∨bt x i=45):=by
   by_cases c1:bt x i≥97∧bt x i≤122
   ·rw[if_pos c1]at h
    exact ⟨h,.inl ⟨c1.1,c1.2⟩⟩
   ·rw[if_neg c1]at h
    by_cases c2:i=0
    ·rw[if_pos c2]at h;cases h
    ·rw[if_neg c2]at h
     by_cases c3:(bt x i≥48∧bt x i≤57)∨bt x i=45
     ·rw[if_pos c3]at h
      exact ⟨h,.inr (c3.imp (fun h=>⟨h.1,h.2⟩) id)⟩
     ·rw[if_neg c3]at h;cases h
  cases j with
  |zero=>simpa using step.2
  |succ j =>
   have:=nameFrom_all x n (i+1) step.1 j (by omega)
   rw[show i+((j+1:Nat):Int)=i+1+j from by push_cast;omega]
   exact this
theorem name_plain {x:ByteArray} (h:nameS x=true):PlainN x:=by
 unfold nameS at h
 rw[Bool.and_eq_true]at h
 have ha:=nameFrom_all x x.size 0 h.1
 intro b hb
 obtain ⟨j,hj,rfl⟩:=List.mem_iff_getElem.1 hb
 have hl:x.data.toList.length=x.size:=by cases x;rfl
 have:=ha j (by omega)
 have e:bt x (0+(j:Int))=((x.data.toList[j]).toNat:Int):=by
  have hj' :j<x.size:=by omega
  unfold bt
  rw[dif_pos (show (0+(j:Int)).toNat<x.size by omega)]
  have h0:(0+(j:Int)).toNat=j:=by omega
  simp only[h0]
  cases x
  simp[ByteArray.getElem_eq_getElem_data]
 rw[e]at this
 omega
theorem sig_ok {s:Sg} (h:sigOk s.ss s.cs s.ps=true):SigN s∧∀p∈s.ps,1≤p.f1.length:=by
 have hm:=declAll_mem [] (sigDecls s.ss s.cs s.ps) h
 refine ⟨⟨fun p hp=> ?_,fun c hc=> ?_⟩,fun p hp=> ?_⟩
 ·obtain ⟨l,hl⟩:=hm (dPred p) (List.mem_append.2 (.inr (List.mem_append.2 (.inr (List.mem_map.2 ⟨p,hp,rfl⟩)))))
  unfold declOk headOk at hl
  simp only[Bool.and_eq_true]at hl
  exact name_plain hl.1.1.1.1.2
 ·obtain ⟨l,hl⟩:=hm (dConst c) (List.mem_append.2 (.inr (List.mem_append.2 (.inl (List.mem_map.2 ⟨c,hc,rfl⟩)))))
  unfold declOk headOk at hl
  simp only[Bool.and_eq_true]at hl
  exact name_plain hl.1.1.1.1.2
 ·obtain ⟨l,hl⟩:=hm (dPred p) (List.mem_append.2 (.inr (List.mem_append.2 (.inr (List.mem_map.2 ⟨p,hp,rfl⟩)))))
  unfold declOk tailOk at hl
  simp only[Bool.and_eq_true]at hl
  have h2:=hl.2
  rw[show ((dPred p).2.1.toList == ([112,114,101,100,105,99,97,116,101]:List UInt8))=true from by show (sPred.toList == _)=true;decide +kernel]at h2
  simp at h2
  exact h2.1
end Go.Proofs.YtcfjomnihhdpaaaGreatDoor.A
