/- An evaluator of this program's code over plain values, proved sound: part 2. -/
import Derived.Maps.RangeRun
import Derived.Scope
import Derived.Defers
import Derived.KernelRfl
import Derived.Deep.Slices
import Derived.ChangeArms
import Derived.Carry
import Derived.RowKit
import Derived.OpenShut
import Derived.ChangeOld
import Derived.Test.YtmoineigflegeaaGreatDoorV1
set_option linter.unusedVariables false
set_option linter.unusedSimpArgs false
set_option linter.unusedSectionVars false
namespace Go.Vs
section
variable {K:Ctx} {β:Key→Option Nat} {ω:Nat→Option bX} {Z:Nat→Prop} {s:St} {a:Act} {w:World} {cfg:aP} (hT:eS K.P cfg)
theorem y5 {e b:Nat} {ws:Array Value} {el:TypeId} {fz:Nat×Nat} (hw:w.heap[b]? =some (.cells ws el fz)):∀(rows:List (List D)) (o:Nat),(∀r∈rows,r.length=e)→
  (∀(j:Nat) d,rows.flatten[j]? =some d→∃u,ws[o+j]? =some u∧bL w Z d u)→cq w Z e rows b o
 | [],_,_,_=>trivial
 |r :: rows,o,hl,h=>by
  have hr:=hl r (List.mem_cons_self ..)
  refine⟨hr,dK.cW fun j d hd=>?_,y5 hw rows (o+e) (fun x hx=>hl x (List.mem_cons_of_mem _ hx)) fun j d hd=>?_⟩
  ·have hj:j<r.length:=(List.getElem?_eq_some_iff.1 hd).1
   obtain⟨u,h1,h2⟩:=h j d (by simp only[List.flatten_cons];rw[List.getElem?_append_left hj];exact hd)
   exact⟨u,by simp[World.cell?,hw,h1],h2⟩
  ·obtain⟨u,h1,h2⟩:=h (e+j) d (by
     simp only[List.flatten_cons]
     rw[List.getElem?_append_right (by omega),hr,Nat.add_sub_cancel_left]
     exact hd)
   exact⟨u,by rw[show o+e+j=o+(e+j) by omega];exact h1,h2⟩
theorem ac2 {e:Nat}:∀{rows:List (List D)},(∀r∈rows,r.length=e)→rows.flatten.length=rows.length * e
 | [],_=>by simp
 |r :: rows,h=>by
  simp only[List.flatten_cons,List.length_append,List.length_cons,ac2 (rows:=rows) (fun x hx=>h x (List.mem_cons_of_mem _ hx)),h r (List.mem_cons_self ..),Nat.add_mul]
  omega
theorem cq.us {e b:Nat}:∀{xs:List (List D)} {o:Nat},cq w Z e xs b o→∃us,DL w Z us xs.flatten∧us.length=xs.length * e∧∀j,j<us.length→w.cell? ⟨b,o+j,none⟩=us[j]?
 | [],_,_=>⟨[],trivial,by simp,by simp⟩
 |x :: xs,o,h=>by
  obtain⟨h1,h2,h3⟩:=h
  obtain⟨u1,f1,f2⟩:=h2.us
  obtain⟨u2,g1,g2,g3⟩:=cq.us h3
  have hl:u1.length=e:=by rw[f1.length,h1]
  refine⟨u1++u2,au.append f1 g1,by simp[g2,hl,Nat.add_mul];omega,fun j hj=>?_⟩
  by_cases hj1:j<u1.length
  ·rw[List.getElem?_append_left hj1];exact f2 j hj1
  ·rw[List.getElem?_append_right (by omega)]
   have:=g3 (j - u1.length) (by simp at hj;omega)
   rw[←this]
   congr 2
   omega
theorem DL.get {us:List Value} {ds:List D} (h:DL w Z us ds) {j:Nat} {d:D} (hd:ds[j]? =some d):∃u,us[j]? =some u∧bL w Z d u:=au.get h hd
theorem DL.mono {w':World} {Z':Nat→Prop} (hZ:∀b,Z b→w'.heap[b]? =w.heap[b]? ∧Z' b) {us:List Value} {ds:List D} (h:DL w Z us ds):DL w' Z' us ds:=au.mono (fun _ _ hr=>bL.mono hZ _ _ hr) h
theorem agR (zero:Array Value) (n:Nat):((Array.range (n * zero.size)).map fun i=>zero[i % zero.size]!).toList=(List.replicate n zero.toList).flatten:=by
 apply List.ext_getElem?
 intro i
 have hlen:(List.replicate n zero.toList).flatten.length=n * zero.size:=by simp
 by_cases hi:i<n * zero.size
 ·have hz:0<zero.size:=by
    rcases Nat.eq_zero_or_pos zero.size with h|h
    ·rw[h]at hi;simp at hi
    ·exact h
  have key:∀(n i:Nat),i<n * zero.size→(List.replicate n zero.toList).flatten[i]? =zero.toList[i % zero.size]? :=by
   intro n
   induction n with
   |zero=>intro i hi;simp at hi
   |succ n ih=>
    intro i hi
    simp only[List.replicate_succ,List.flatten_cons]
    by_cases h1:i<zero.toList.length
    ·rw[List.getElem?_append_left h1,Nat.mod_eq_of_lt (by simpa using h1)]
    ·rw[List.getElem?_append_right (by omega)]
     simp only[Array.length_toList]at h1 ⊢
     rw[ih (i - zero.size) (by rw[Nat.add_mul]at hi;omega)]
     rw[←Nat.mod_eq_sub_mod (by omega)]
  rw[key n i hi]
  have hm:i % zero.size<zero.size:=Nat.mod_lt _ hz
  simp only[Array.toList_map,Array.toList_range,List.getElem?_map,List.getElem?_range hi,Option.map_some,Array.getElem?_toList]
  rw[Array.getElem?_eq_getElem hm,getElem!_pos zero _ hm]
 ·rw[List.getElem?_eq_none (by simpa using hi),List.getElem?_eq_none (by rw[hlen];omega)]
theorem ac3 {us:List Value} {ds:List D} (h:DL w Z us ds):∀n:Nat,DL w Z (List.replicate n us).flatten (List.replicate n ds).flatten
 |0=>trivial
 |n+1=>by
  simp only[List.replicate_succ,List.flatten_cons]
  exact au.append h (ac3 h n)
theorem y6 (h:Rel K β ω Z s a w) {e dst len cap:Nat} {ws:Array Value} {el:TypeId} {rows:List (List D)} {r:Result Next} (hr:r= .ok (.value (.slice (some ⟨w.heap.size,0,none⟩) len cap)) (w.alloc (.cells ws el)))
  (hl:rows.length=len) (hcap:len≤cap) (js:cap * e≤ws.size) (hrow:∀r∈rows,r.length=e) (hd:∀(j:Nat) d,rows.flatten[j]? =some d→∃u,ws[j]? =some u∧bL w Z d u) (hm:aW e=false):
  bR K s a dst r (.one (.own e rows)):=by
 obtain⟨r1,k1,f1,g1⟩:=h.alloc ws el (.tmp dst,some 0)
 refine⟨_,_,β,_,Z,hr,r1,⟨rfl,(ax.gK hm).2 ⟨⟨w.heap.size,0,none⟩,cap,by rw[hl],rfl,by rw[hl];exact hcap,?_⟩⟩,?_⟩
 ·refine y5 g1 rows 0 hrow fun j d hj=>?_
  obtain⟨u,q1,q2⟩:=hd j d hj
  exact⟨u,by simpa using q1,bL.mono (fun b hb=>⟨k1.heap b (h.dH b hb),hb⟩) _ _ q2⟩
 ·intro j c x hc hx
  have hj:j=0:=by
   simp only[SV.cells]at hc
   cases j with
   |zero=>rfl
   |succ j=>simp at hc
  subst hj
  simp only[SV.cells,List.getElem?_cons_zero,Option.some.injEq]at hc
  simp only[flat,List.getElem?_cons_zero,Option.some.injEq]at hx
  subst hc;subst hx
  refine⟨(ax.gK hm).2 ⟨⟨w.heap.size,0,none⟩,cap,by rw[hl],rfl,by rw[hl];exact hcap,?_⟩,fun e' xs b q1 q2=>?_⟩
  ·refine y5 g1 rows 0 hrow fun j d hj=>?_
   obtain⟨u,q1,q2⟩:=hd j d hj
   exact⟨u,by simpa using q1,bL.mono (fun b hb=>⟨k1.heap b (h.dH b hb),hb⟩) _ _ q2⟩
  ·cases q1
   cases q2
   exact⟨by simp,⟨ws,el,0,0,g1,by simpa using js,by omega⟩,f1⟩
theorem o5 {P:Program} (el:TypeId) (ws:Array Value):(newRow el ws).run P w= .ok ⟨w.heap.size,0,none⟩ (w.alloc (.cells ws el)):=rfl
theorem an1 (h:Rel K β ω Z s a w) {k:Key} (hu:(s (.box k)).v= .undef) {ws:Array Value} {el:TypeId} {cs:List C} (hp:eJ K β ω Z s a w (fun n=>(.box k,n)) 0 ws.toList cs):
  ∃β' ω',Rel K β' ω' Z (s.set (.box k) { hv:=(s (.box k)).hv+1,cv:=(s (.box k)).cv,v:=.agg cs }) a (w.alloc (.cells ws el))∧β' k=some w.heap.size:=by
 obtain⟨r1,k1,f1,g1⟩:=h.alloc ws el (.box k,none)
 have kB:=eJ.lift h k1 hp
 have iZ:β k=none:=by have:=h.boxes k;rw[hu]at this;exact this
 obtain⟨q1,_⟩:=r1.agc (k:=k) (b:=w.heap.size) (ws:=ws) (el:=el) (lo:=0) (hi:=0) (w':=w.alloc (.cells ws el)) (cs:=cs) (by simp) (.inl iZ) rfl rfl rfl rfl (fun _ _=>rfl) g1 (by omega) kB.all (by
  intro j e xs u1 b1 hc hx aM
  have:=(kB.get hc hx).2 e xs b1 rfl aM
  simp only[Nat.zero_add]at this
  exact⟨this.1,this.2.1⟩)
 exact⟨_,_,q1,by simp⟩
theorem an2 {β':Key→Option Nat} {ω':Nat→Option bX} {Z':Nat→Prop} {s':St} {w':World} {k:Key} {b dst:Nat} (h:Rel K β' ω' Z' s' a w') (hb:β' k=some b) {r:Result Next} (hr:r= .ok (.value (.pointer (some ⟨b,0,none⟩))) w'):
  bR K s' a dst r (.one (.ptr k 0)):=
 ⟨_,w',β',ω',Z',hr,h,fL.yN ⟨rfl,b,hb,rfl⟩ (by simp[SV.cells,bQ])⟩
theorem DL.an3 {mk:Nat→ah×Nat}:∀{i:Nat} {us:List Value} {ds:List D},DL w Z us ds→eJ K β ω Z s a w mk i us (ds.map .d)
 |_,[],[],_=>trivial
 |_,_ :: _,_ :: _,h=>⟨ig.vG (by simp[bQ]) h.1,DL.an3 h.2⟩
include hT in
theorem axd (h:Rel K β ω Z s a w) {t:TypeId} {dst:Nat} {o:Oper} (ho:o.op= .alloc t) {v:SV} {s':St} (he:(bp cfg o.op dst).exec s=some (v,s')):
  bR K s' a dst ((execOp a.eval o).run K.P w) v:=by
 rw[ho]at he
 simp only[bp]at he
 split at he
 ·rename_i size bytes kind z bN
  obtain⟨_,s1,h1,ak⟩:=av he
  obtain⟨hz,hs1⟩:=bS h1
  subst hs1
  simp only[Prog.exec]at ak
  split at ak
  ·rename_i hu
   obtain⟨_,s2,h2,aH⟩:=av ak
   simp only[cY,Prog.exec,Option.some.injEq,Prod.mk.injEq]at h2
   obtain⟨_,rfl⟩:=h2
   obtain⟨rfl,rfl⟩:=aE aH
   obtain⟨zv,fE,gl⟩:=sR (w:=w) (hT.T _ _ bN) rfl
   obtain⟨β',ω',q1,q2⟩:=an1 h hu (ws:=zv.cells) (el:=t) (cs:=z.map .d) (mG gl).an3
   refine an2 q1 q2 ?_
   simp only[execOp,ho,Instr.alloc,Sem.run_bind,fE,Result.andThen_ok,newVar,o5,Sem.run_pure]
  ·simp[Prog.exec]at ak
 ·simp[Prog.exec]at he
theorem axe (h:Rel K β ω Z s a w) {t:TypeId} {x:Operand} {dst:Nat} {o:Oper} (ho:o.op= .box t x) {v:SV} {s':St} (he:(bp cfg o.op dst).exec s=some (v,s')):
  bR K s' a dst ((execOp a.eval o).run K.P w) v:=by
 rw[ho]at he
 simp only[bp]at he
 obtain⟨v1,s1,h1,ak⟩:=av he
 obtain⟨hs1,hv,hno,lH⟩:=fm h h1
 subst hs1
 clear he
 split at ak
 ·rename_i cs hcs
  obtain⟨gX,hall⟩:=sU hv hcs
  obtain⟨cs',s2,h2,aH⟩:=av ak
  obtain⟨ct,Z1,r1,k1,p1⟩:=acK (mk:=fun n=>(.box (.loc dst),n)) cs 0 _ ω Z s1 s2 cs' h hall (fun c hc=>hno c (by rw[gX];exact hc)) h2
  simp only[Prog.exec]at aH
  split at aH
  ·rename_i hu
   obtain⟨_,s3,h3,bz⟩:=av aH
   simp only[cY,Prog.exec,Option.some.injEq,Prod.mk.injEq]at h3
   obtain⟨_,rfl⟩:=h3
   obtain⟨rfl,rfl⟩:=aE bz
   obtain⟨β',ω',q1,q2⟩:=an1 r1 hu (ws:=(a.eval x).cells) (el:=t) (cs:=cs') p1
   refine an2 q1 q2 ?_
   simp only[execOp,ho,Instr.box,Sem.run_bind,newVar,o5,Result.andThen_ok,Sem.run_pure]
  ·simp[Prog.exec]at aH
 ·simp[Prog.exec]at ak
theorem an4 (off:Nat):∀(us:List Value) (k:Nat) (cells:Array Value),off+k+us.length≤cells.size→
  ((us.zipIdx k).foldl (fun(cs:Array Value) (x:Value×Nat)=>cs.setIfInBounds (off+x.2) x.1) cells).toList=splice cells.toList (off+k) us
 | [],k,cells,_=>by simp[splice]
 |u :: us,k,cells,h=>by
  simp only[List.length_cons]at h
  simp only[List.zipIdx_cons,List.foldl_cons]
  rw[an4 off us (k+1) _ (by simp;omega)]
  rw[Array.toList_setIfInBounds,show off+(k+1)=off+k+1 by omega]
  exact am8 (by simpa using(by omega:off+k<cells.size))
theorem an5 (off:Nat) (us:Array Value) (cells:Array Value) (h:off+us.size≤cells.size):
  (us.zipIdx.foldl (fun(cs:Array Value) (x:Value×Nat)=>cs.setIfInBounds (off+x.2) x.1) cells).toList=splice cells.toList off us.toList:=by
 rw[←Array.foldl_toList,Array.toList_zipIdx]
 have:=an4 off us.toList 0 cells (by simpa using h)
 simpa using this
theorem an6 {α γ:Type} {P:Program} (g:α→Sem γ) (f:α→γ):∀(l:List α),(∀x∈l,(g x).run P w= .ok (f x) w)→(l.mapM g).run P w= .ok (l.map f) w
 | [],_=>by simp
 |x :: l,h=>by
  rw[List.mapM_cons]
  simp[h x (List.mem_cons_self ..),an6 g f l fun y hy=>h y (List.mem_cons_of_mem _ hy)]
theorem axf {α γ:Type} {P:Program} (g:α→Sem γ) (f:α→γ) (l:Array α) (h:∀x∈l,(g x).run P w= .ok (f x) w):(l.mapM g).run P w= .ok (l.map f) w:=by
 have h1:=an6 (w:=w) (P:=P) g f l.toList (fun x hx=>h x (by simpa using hx))
 rw[←Array.toList_mapM]at h1
 simp only[Sem.run_map]at h1
 cases hr:(l.mapM g).run P w with
 |ok b w'=>
  rw[hr]at h1
  simp only[Result.andThen_ok,Result.ok.injEq]at h1
  obtain⟨q1,rfl⟩:=h1
  congr 1
  apply Array.toList_inj.1
  rw[q1]
  simp
 |halt x w'=>rw[hr]at h1;simp at h1
theorem an7 (h:Rel K β ω Z s a w) {place:Nat→Option (Nat×Nat)} {fs:List (Nat×TypeId)} (axg:∀(i off:Nat) t ti,fs[i]? =some (off,t)→cfg.ti t=some ti→place i=some (off,ti.size)) {size:Nat}:
  ∀(parts:List (Nat×Operand)) {ps:List (Nat×List C)} {s':St} (cells:Array Value) (cs:List C),(partsOf fs cfg parts).exec s=some (ps,s')→(∀p∈ps,p.1+p.2.length≤size)→cells.size=size→
   au (fun u c=>ax K β Z s a w c u) cells.toList cs→(∀c∈cs,bQ c)→
   s'=s∧∃ws,Instr.fill place cells (parts.map fun p=>(p.1,a.eval p.2))=some ws∧au (fun u c=>ax K β Z s a w c u) ws.toList (fill cs ps)∧(∀c∈fill cs ps,bQ c):=by
 intro parts
 induction parts with
 |nil=>
  intro ps s' cells cs he _ _ hall hno
  obtain⟨rfl,rfl⟩:=aE he
  exact⟨rfl,cells,rfl,hall,hno⟩
 |cons p parts ih=>
  obtain⟨i,o⟩:=p
  intro ps s' cells cs he hle hsz hall hno
  simp only[partsOf]at he
  obtain⟨v,s1,h1,ak⟩:=av he
  obtain⟨hs1,hv,axh,lH⟩:=fm h h1
  rw[hs1]at ak
  split at ak
  ·rename_i off t ey iA hcs
   split at ak
   ·rename_i ti bN
    obtain⟨_,s2,h2,aH⟩:=av ak
    obtain⟨hlen,hs2⟩:=bS h2
    rw[hs2]at aH
    obtain⟨rest,s3,h3,bz⟩:=av aH
    obtain⟨hx,dm⟩:=aE bz
    subst hx
    obtain⟨gX,an8⟩:=sU hv hcs
    have jN:(a.eval o).cells.size=ti.size:=by have:=an8.length;simp at this;omega
    have hfit:=hle (off,ey) (List.mem_cons_self ..)
    simp only at hfit
    have iD:=axg i off t ti iA bN
    have hsp:=an5 off (a.eval o).cells cells (by omega)
    obtain⟨q1,ws,q2,q3,q4⟩:=ih ((a.eval o).cells.zipIdx.foldl (fun(cs:Array Value) (x:Value×Nat)=>cs.setIfInBounds (off+x.2) x.1) cells) (splice cs off ey) h3
     (fun p hp=>hle p (List.mem_cons_of_mem _ hp)) (by
       have:=congrArg List.length hsp
       rw[anq (by simp;omega)]at this
       simpa[hsz]using this) (by rw[hsp];exact hall.splice an8) (by
       intro c hc
       simp only[splice,List.mem_append]at hc
       rcases hc with(hc|hc)|hc
       ·exact hno c (List.mem_of_mem_take hc)
       ·exact axh c (by rw[gX];exact hc)
       ·exact hno c (List.mem_of_mem_drop hc))
    refine⟨by rw[dm,q1],ws,?_,q3,q4⟩
    simp only[List.map_cons,Instr.fill,iD]
    rw[if_neg]
    ·exact q2
    ·simp only[Bool.or_eq_true,bne_iff_ne,ne_eq,decide_eq_true_eq,not_or,Decidable.not_not]
     exact⟨jN,by omega⟩
   ·simp[Prog.exec]at ak
  ·simp[Prog.exec]at ak
include hT in
theorem axi (h:Rel K β ω Z s a w) {t:TypeId} {parts:Array (Nat×Operand)} {dst:Nat} {o:Oper} (ho:o.op= .build t parts) {v:SV} {s':St} (he:(bp cfg o.op dst).exec s=some (v,s')):
  bR K s' a dst ((execOp a.eval o).run K.P w) v:=by
 rw[ho]at he
 simp only[bp]at he
 unfold acn at he
 have o6:(parts.map fun(x:Nat×Operand)=>(x.1,a.eval x.2)).toList=parts.toList.map fun p=>(p.1,a.eval p.2):=by simp
 split at he
 ·rename_i size bytes fs z bN
  obtain⟨_,s1,h1,ak⟩:=av he
  obtain⟨⟨hz,iA⟩,hs1⟩:=bS h1
  rw[hs1]at ak
  obtain⟨ps,s2,h2,aH⟩:=av ak
  obtain⟨_,s3,h3,bz⟩:=av aH
  obtain⟨hle,hs3⟩:=bS h3
  rw[hs3]at bz
  obtain⟨hx,dm⟩:=aE bz
  subst hx
  obtain⟨zv,fE,gl⟩:=sR (w:=w) (hT.T _ _ bN) rfl
  obtain⟨d,hd,hk,hun⟩:=dx (w:=w) (hT.T _ _ bN)
  obtain⟨fields,rfl,rfl⟩:=yO hk
  have hsize:∀f∈fields,(sizeOf f.type).run K.P w= .ok (K.P.cellsOf f.type) w:=by
   intro f hf
   have:=iA (f.offset,f.type) (List.mem_map.2 ⟨f,by simpa using hf,rfl⟩)
   obtain⟨ti,vO⟩:=Option.isSome_iff_exists.1 this
   rw[run_sizeOf (hT.T _ _ vO)]
   obtain⟨info,d2,g1,g2,g3,_⟩:=oS (hT.T _ _ vO)
   simp[Program.cellsOf,g1,g3]
  have hmap:=axf (P:=K.P) (w:=w) (fun f:Field=>(do pure (f.offset,←sizeOf f.type):Sem (Nat×Nat))) (fun f=>(f.offset,K.P.cellsOf f.type)) fields (fun f hf=>by simp[hsize f hf])
  obtain⟨q1,ws,q2,q3,q4⟩:=an7 h (place:=fun i=>(fields.map fun f=>(f.offset,K.P.cellsOf f.type))[i]?) (size:=size) (by
   intro i off t' ti hf ac4
   rw[List.getElem?_map]at hf
   cases mK:fields.toList[i]? with
   |none=>rw[mK]at hf;cases hf
   |some f=>
    rw[mK]at hf
    simp only[Option.map_some,Option.some.injEq,Prod.mk.injEq]at hf
    obtain⟨rfl,rfl⟩:=hf
    have axj:fields[i]? =some f:=by simpa using mK
    obtain⟨info,d2,g1,g2,g3,_⟩:=oS (hT.T _ _ ac4)
    simp[axj,Program.cellsOf,g1,g3]) parts.toList zv.cells (z.map .d) h2 hle (by
    have h1:=(mG (w:=w) (Z:=Z) gl).length
    have h2:zv.cells.size=z.length:=by simpa using h1
    omega) (acH gl) (by simp[bQ])
  rw[dm,q1]
  refine bR.same h (u:=.agg ws) ?_ ⟨ws,rfl,q3⟩ q4
  simp only[execOp,ho,Instr.build,Sem.run_bind,fE,Result.andThen_ok,hun,hmap,o6,q2,Sem.run_pure]
 ·rename_i size bytes n et z bN
  split at he
  ·rename_i i hft
   obtain⟨_,s1,h1,ak⟩:=av he
   obtain⟨hz,hs1⟩:=bS h1
   rw[hs1]at ak
   obtain⟨ps,s2,h2,aH⟩:=av ak
   obtain⟨_,s3,h3,bz⟩:=av aH
   obtain⟨hle,hs3⟩:=bS h3
   rw[hs3]at bz
   obtain⟨hx,dm⟩:=aE bz
   subst hx
   obtain⟨zv,fE,gl⟩:=sR (w:=w) (hT.T _ _ bN) rfl
   obtain⟨d,hd,hk,hun⟩:=dx (w:=w) (hT.T _ _ bN)
   have cG:=acO hk
   subst cG
   obtain⟨q1,ws,q2,q3,q4⟩:=an7 h (place:=fun i'=>some (i' * i.size,i.size)) (size:=size) (by
    intro i' off t' ti hf ac4
    rw[List.getElem?_map]at hf
    cases mK:(List.range n)[i']? with
    |none=>rw[mK]at hf;cases hf
    |some f=>
     rw[mK]at hf
     simp only[Option.map_some,Option.some.injEq,Prod.mk.injEq]at hf
     obtain⟨rfl,rfl⟩:=hf
     rw[List.getElem?_range]at mK
     ·cases mK;rw[hft]at ac4;cases ac4;rfl
     ·have:=(List.getElem?_eq_some_iff.1 mK).1;simpa using this) parts.toList zv.cells (z.map .d) h2 hle (by
     have h1:=(mG (w:=w) (Z:=Z) gl).length
     have h2:zv.cells.size=z.length:=by simpa using h1
     omega) (acH gl) (by simp[bQ])
   rw[dm,q1]
   refine bR.same h (u:=.agg ws) ?_ ⟨ws,rfl,q3⟩ q4
   simp only[execOp,ho,Instr.build,Sem.run_bind,fE,Result.andThen_ok,hun,run_sizeOf (hT.T _ _ hft),o6,q2,Sem.run_pure]
  ·simp[Prog.exec]at he
 ·simp[Prog.exec]at he
end
end Go.Vs
namespace Go.Vs
theorem an9 {e:Nat} {ds:List D}:∀{rows:List (List D)} {i:Nat},(∀r∈rows,r.length=e)→ds.length=e→i<rows.length→(rows.set i ds).flatten=splice rows.flatten (i * e) ds
 | [],i,_,_,h=>by simp at h
 |r :: rows,0,hl,hd,_=>by
  have hr:=hl r (List.mem_cons_self ..)
  simp only[List.set_cons_zero,List.flatten_cons,splice,Nat.zero_mul,List.take_zero,List.nil_append,Nat.zero_add,hd]
  rw[List.drop_append_of_le_length (by omega),List.drop_of_length_le (by omega),List.nil_append]
 |r :: rows,i+1,hl,hd,h=>by
  have hr:=hl r (List.mem_cons_self ..)
  have ih:=an9 (rows:=rows) (i:=i) (fun x hx=>hl x (List.mem_cons_of_mem _ hx)) hd (by simpa using h)
  simp only[List.set_cons_succ,List.flatten_cons,ih]
  simp only[splice]
  rw[Nat.add_mul,Nat.one_mul,List.take_append,List.take_of_length_le (show r.length≤i * e+e by omega),List.drop_append,List.drop_of_length_le (show r.length≤i * e+e+ds.length by omega),List.nil_append,List.append_assoc,List.append_assoc]
  rw[show i * e+e - r.length=i * e by omega,show i * e+e+ds.length - r.length=i * e+ds.length by omega]
  simp[List.append_assoc]
section
variable {K:Ctx} {β:Key→Option Nat} {ω:Nat→Option bX} {Z:Nat→Prop} {s:St} {a:Act} {w:World} {cfg:aP} (hT:eS K.P cfg)
theorem axk {size:Nat}:∀(parts:List (Nat×Operand)) (ω:Nat→Option bX) (Z:Nat→Prop) (s s':St) (cells:Array Value) (rows tg:List (List D)),Rel K β ω Z s a w→(rowsOf size parts rows).exec s=some (tg,s')→(∀r∈rows,r.length=size)→DL w Z cells.toList rows.flatten→
  ∃ω' Z' ws,Rel K β ω' Z' s' a w∧Instr.fill (fun i=>some (i * size,size)) cells (parts.map fun p=>(p.1,a.eval p.2))=some ws∧DL w Z' ws.toList tg.flatten∧(∀r∈tg,r.length=size)∧tg.length=rows.length:=by
 intro parts
 induction parts with
 |nil=>
  intro ω Z s s' cells rows tg h he hl hd
  obtain⟨hx,hs⟩:=aE he
  subst hx;subst hs
  exact⟨ω,Z,cells,h,rfl,hd,hl,rfl⟩
 |cons p parts ih=>
  obtain⟨i,o⟩:=p
  intro ω Z s s' cells rows tg h he hl hd
  simp only[rowsOf]at he
  obtain⟨v,s1,h1,ak⟩:=av he
  obtain⟨hs1,hv,hno,lH⟩:=fm h h1
  rw[hs1]at ak
  split at ak
  ·rename_i cs hcs
   obtain⟨_,s2,h2,aH⟩:=av ak
   obtain⟨⟨hlen,hi⟩,hs2⟩:=bS h2
   rw[hs2]at aH
   obtain⟨ds,s3,h3,bz⟩:=av aH
   obtain⟨gX,hall⟩:=sU hv hcs
   obtain⟨ct,Z1,r1,k1,p1⟩:=acM cs _ ω Z s s3 ds h hall (fun c hc=>hno c (by rw[gX];exact hc)) h3
   have jN:(a.eval o).cells.size=size:=by have:=hall.length;simp at this;omega
   have oV:ds.length=size:=by rw[←p1.length];simpa using jN
   have eB:cells.size=rows.length * size:=by have:=hd.length;rw[ac2 hl]at this;simpa using this
   have hfit:i * size+size≤cells.size:=by
    rw[eB,←Nat.succ_mul]
    exact Nat.mul_le_mul_right _ hi
   have hsp:=an5 (i * size) (a.eval o).cells cells (by omega)
   obtain⟨fq,Z2,ws,q1,q2,q3,q4,q5⟩:=ih ct Z1 s3 s' ((a.eval o).cells.zipIdx.foldl (fun(cs:Array Value) (x:Value×Nat)=>cs.setIfInBounds (i * size+x.2) x.1) cells) (rows.set i ds) tg r1 bz
    (by
      intro r hr
      rcases List.mem_or_eq_of_mem_set hr with hr|rfl
      ·exact hl r hr
      ·exact oV) (by
      rw[hsp,an9 hl oV hi]
      exact au.splice (hd.mono fun b hb=>⟨rfl,k1.z b hb⟩) p1)
   refine⟨fq,Z2,ws,q1,?_,q3,q4,by rw[q5];simp⟩
   simp only[List.map_cons,Instr.fill]
   rw[if_neg]
   ·exact q2
   ·simp only[Bool.or_eq_true,bne_iff_ne,ne_eq,decide_eq_true_eq,not_or,Decidable.not_not]
    exact⟨jN,by omega⟩
  ·simp[Prog.exec]at ak
include hT in
theorem axl (h:Rel K β ω Z s a w) {t:TypeId} {len:Nat} {parts:Array (Nat×Operand)} {dst:Nat} {o:Oper} (ho:o.op= .buildSlice t len parts) {v:SV} {s':St} (he:(bp cfg o.op dst).exec s=some (v,s')):
  bR K s' a dst ((execOp a.eval o).run K.P w) v:=by
 rw[ho]at he
 simp only[bp]at he
 unfold aco at he
 have o6:(parts.map fun(x:Nat×Operand)=>(x.1,a.eval x.2)).toList=parts.toList.map fun p=>(p.1,a.eval p.2):=by simp
 split at he
 ·rename_i size bytes et zz bN
  split at he
  ·rename_i i hft
   split at he
   ·rename_i z hz
    obtain⟨_,s1,h1,ak⟩:=av he
    obtain⟨⟨hzl,hpos,agS,hmp⟩,hs1⟩:=bS h1
    rw[hs1]at ak
    obtain⟨rows,s2,h2,aH⟩:=av ak
    obtain⟨hx,dm⟩:=aE aH
    subst hx;subst dm
    obtain⟨zv,fE,gl⟩:=sR (w:=w) (hT.T _ _ hft) hz
    obtain⟨d,hd,hk,hun⟩:=dx (w:=w) (hT.T _ _ bN)
    have cG:=ku hk
    subst cG
    have iC:=mG (w:=w) (Z:=Z) gl
    have hzs:zv.cells.size=i.size:=by have:=iC.length;simp at this;omega
    have hcells:((Array.range (len * i.size)).map ((if len * i.size=0 then #[]else zv.cells)[·% (if len * i.size=0 then #[]else zv.cells).size]!)).toList=(List.replicate len zv.cells.toList).flatten:=by
     split
     ·rename_i h0
      have:len=0:=by rcases Nat.mul_eq_zero.1 h0 with h|h<;>omega
      subst this
      simp
     ·rw[←hzs]
      exact agR zv.cells len
    obtain⟨fq,Z2,ws,q1,q2,q3,q4,q5⟩:=axk parts.toList ω Z s s' ((Array.range (len * i.size)).map ((if len * i.size=0 then #[]else zv.cells)[·% (if len * i.size=0 then #[]else zv.cells).size]!)) (List.replicate len z) rows h h2
     (by intro r hr;rw[List.eq_of_mem_replicate hr,hzl]) (by rw[hcells];exact ac3 iC len)
    have hwl:ws.size=len * i.size:=by
     have:=q3.length
     rw[ac2 q4,q5]at this
     simpa using this
    refine y6 (hm:=hmp) q1 (len:=len) (cap:=len) (ws:=ws) (el:=et) ?_ (by rw[q5];simp) (Nat.le_refl _) (by omega) q4 (fun j d hj=>by
     obtain⟨u,g1,g2⟩:=q3.get hj
     exact⟨u,by simpa using g1,g2⟩)
    simp only[execOp,ho,Instr.buildSlice,Sem.run_bind,hun,Result.andThen_ok,run_sizeOf (hT.T _ _ hft)]
    rw[if_neg (by omega)]
    by_cases h0:len * i.size=0
    ·simp only[if_pos h0]at q2 ⊢
     simp only[Sem.run_bind,Sem.run_pure,Result.andThen_ok,o6,q2,o5]
    ·simp only[if_neg h0]at q2 ⊢
     simp only[Sem.run_bind,fE,Sem.run_pure,Result.andThen_ok,o6,q2,o5]
   ·simp[Prog.exec]at he
  ·simp[Prog.exec]at he
 ·simp[Prog.exec]at he
theorem wrap_small {n:Int} (h0:0≤n) (h1:n≤2 ^ 36):IntKind.i64.wrap n=n:=by
 simp only[IntKind.wrap,IntKind.bits,IntKind.signed]
 simp
 omega
theorem run_askRoom {P:Program} (n:Nat):(askRoom n).run P w= .ok () w:=by
 unfold askRoom
 split
 ·rfl
 ·rfl
include hT in
theorem axm (h:Rel K β ω Z s a w) {t:TypeId} {l c:Operand} {dst:Nat} {o:Oper} (ho:o.op= .makeSlice t l c) {v:SV} {s':St} (he:(bp cfg o.op dst).exec s=some (v,s')):
  bR K s' a dst ((execOp a.eval o).run K.P w) v:=by
 rw[ho]at he
 simp only[bp]at he
 obtain⟨c1,s1,h1,ak⟩:=av he
 obtain⟨hs1,o1,r1,iB⟩:=ew h h1
 rw[hs1]at ak
 obtain⟨n,s2,h2,aH⟩:=av ak
 obtain⟨hs2,k,cF⟩:=qw h2
 rw[hs2]at aH
 obtain⟨c2,s3,h3,bz⟩:=av aH
 obtain⟨hs3,o3,r3,aHF⟩:=ew h h3
 rw[hs3]at bz
 obtain⟨m,s4,h4,cn⟩:=av bz
 obtain⟨dm,k',y7⟩:=qw h4
 rw[dm]at cn
 subst cF;subst y7
 have e1:a.eval l= .int k n:=r1
 have e2:a.eval c= .int k' m:=r3
 unfold acp at cn
 split at cn
 ·rename_i size bytes et zz bN
  split at cn
  ·rename_i i hft
   split at cn
   ·rename_i z hz
    obtain⟨_,s5,h5,dN⟩:=av cn
    obtain⟨⟨hzl,hpos,hby,hmp⟩,gj⟩:=bS h5
    rw[gj]at dN
    obtain⟨_,s6,h6,nL⟩:=av dN
    obtain⟨⟨hn0,hnm,hm⟩,gm⟩:=bS h6
    rw[gm]at nL
    obtain⟨hx,o7⟩:=aE nL
    subst hx;rw[o7]
    obtain⟨zv,fE,gl⟩:=sR (w:=w) (hT.T _ _ hft) hz
    obtain⟨info,hinfo,aoa,mL,_⟩:=run_typeInfo (w:=w) (hT.T _ _ hft)
    obtain⟨d,hd,hk,hun⟩:=dx (w:=w) (hT.T _ _ bN)
    have cG:=ku hk
    subst cG
    have iC:=mG (w:=w) (Z:=Z) gl
    have hzs:zv.cells.size=i.size:=by have:=iC.length;simp at this;omega
    have hcells:((Array.range (m.toNat * i.size)).map ((if m.toNat * i.size=0 then #[]else zv.cells)[·% (if m.toNat * i.size=0 then #[]else zv.cells).size]!)).toList=(List.replicate m.toNat zv.cells.toList).flatten:=by
     split
     ·rename_i h0
      have:m.toNat=0:=by rcases Nat.mul_eq_zero.1 h0 with h|h<;>omega
      rw[this]
      simp
     ·rw[←hzs]
      exact agR zv.cells m.toNat
    have hw1:=wrap_small hn0 (Int.le_trans hnm hm)
    have hw2:=wrap_small (Int.le_trans hn0 hnm) hm
    have aob:∀x:Int,0≤x→x≤2 ^ 36→¬(x<0∨(i.bytes:Int) * x>2 ^ 48):=by
     intro x hx0 hx1
     have h1:(i.bytes:Int) * x≤2 ^ 10 * 2 ^ 36:=Int.mul_le_mul (by exact_mod_cast hby) hx1 hx0 (by decide)
     have h2:(2:Int) ^ 10 * 2 ^ 36≤2 ^ 48:=by decide
     omega
    refine y6 (hm:=hmp) h (len:=n.toNat) (cap:=m.toNat) (ws:=(Array.range (m.toNat * i.size)).map ((if m.toNat * i.size=0 then #[]else zv.cells)[·% (if m.toNat * i.size=0 then #[]else zv.cells).size]!)) (el:=et) ?_ (by simp) (by omega) (by simp) (by intro r hr;rw[List.eq_of_mem_replicate hr,hzl]) (fun j d hj=>by
     have hj':(List.replicate m.toNat z).flatten[j]? =some d:=by
      rw[show m.toNat=n.toNat+(m.toNat - n.toNat) by omega,←List.replicate_append_replicate,List.flatten_append,List.getElem?_append_left (List.getElem?_eq_some_iff.1 hj).1]
      exact hj
     obtain⟨u,g1,g2⟩:=(ac3 iC m.toNat).get hj'
     rw[←hcells]at g1
     exact⟨u,by rw[←Array.getElem?_toList];exact g1,g2⟩)
    simp only[execOp,ho,Instr.makeSlice,Sem.run_bind,hun,Result.andThen_ok,e1,e2,Go.asInt,asIntOf,Sem.run_pure,hinfo,hw1,hw2,mL]
    rw[if_neg (by
     simp only[Bool.or_eq_true,decide_eq_true_eq]
     have:=aob m (by omega) hm
     omega)]
    simp only[Sem.run_bind,run_askRoom,Result.andThen_ok,run_sizeOf (hT.T _ _ hft)]
    by_cases h0:m.toNat * i.size=0
    ·simp only[if_pos h0]
     simp only[Sem.run_bind,Sem.run_pure,Result.andThen_ok,o5]
    ·simp only[if_neg h0]
     simp only[Sem.run_bind,fE,Sem.run_pure,Result.andThen_ok,o5]
   ·simp[Prog.exec]at cn
  ·simp[Prog.exec]at cn
 ·simp[Prog.exec]at cn
theorem aoc:∀(rounds need c:Nat),c≤2 * need+192→Builtin.growBy need rounds c≤2 * need+192
 |0,need,c,h=>h
 |r+1,need,c,h=>by
  simp only[Builtin.growBy]
  split
  ·exact h
  ·rename_i hlt
   exact aoc r need _ (by omega)
theorem nextslicecap_le {need old:Nat} (h:old<need):Builtin.nextslicecap need old≤2 * need+192:=by
 unfold Builtin.nextslicecap
 split
 ·omega
 ·split
  ·omega
  ·exact aoc 4 need old (by omega)
def agU (K:Ctx) (Z:Nat→Prop) (w:World) (size:Nat) (u:Value) (ys:List (List D)):Prop:=
 (Builtin.lenOf u).run K.P w= .ok ys.length w∧(∀y∈ys,y.length=size)∧∃arr:Array Value,(∀W:World,W.heap=w.heap→(Builtin.firstCells size ys.length u).run K.P W= .ok arr W)∧DL w Z arr.toList ys.flatten∧(∀x∈arr.toList,fj x=true)
theorem axn {d:D} {u:Value} (h:bL w Z d u):fj u=true:=by
 cases d<;>simp only[bL]at h
 ·subst h;rfl
 ·subst h;rfl
 ·subst h;rfl
 ·subst h;rfl
 ·split at h
  ·obtain⟨ad,cap,rfl,_⟩:=h;rfl
  ·obtain⟨b,rfl,_⟩:=h;exact acA ..
 ·rename_i k;cases k<;>simp only[acz]at h<;>(subst h;rfl)
theorem DL.fj {us:List Value} {ds:List D} (h:DL w Z us ds):∀x∈us,fj x=true:=by
 intro x hx
 obtain⟨j,hj⟩:=List.getElem?_of_mem hx
 have hjl:j<ds.length:=by rw[←h.length];exact(List.getElem?_eq_some_iff.1 hj).1
 obtain⟨u,h1,h2⟩:=h.get (List.getElem?_eq_getElem hjl)
 rw[hj]at h1
 cases h1
 exact axn h2
theorem aod {size:Nat} {u:Value} {ys:List (List D)} (h:(u= .slice none 0 0∧ys=[])∨∃ad cap,u= .slice (some ad) ys.length cap∧(cap=0∨ad.spot=none)∧ys.length≤cap∧cq w Z size ys ad.block ad.off):agU K Z w size u ys:=by
 rcases h with⟨rfl,rfl⟩|⟨ad,cap,rfl,h2,h3,h4⟩
 ·exact⟨by simp[Builtin.lenOf],by simp, #[],fun W _=>by simp[Builtin.firstCells],trivial,by simp⟩
 ·obtain⟨us,g1,g2,g3⟩:=h4.us
  refine⟨by simp[Builtin.lenOf],h4.len,us.toArray,fun W hW=>?_,by simpa using g1,by simpa using g1.fj⟩
  simp only[Builtin.firstCells]
  have hl:us.length=ys.length * size:=g2
  rw[←hl]
  by_cases h0:us.length=0
  ·rw[h0]
   have:us=[]:=List.length_eq_zero_iff.1 h0
   subst this
   simp[loadCells,loadCellsFrom]
  ·have hc0:cap≠0:=by
     rintro rfl
     have:ys.length=0:=by omega
     rw[this]at hl
     omega
   have h2:=h2.resolve_left hc0
   rw[show(ad:Addr)=⟨ad.block,ad.off,none⟩ by rw[←h2]]
   have qs:=g3 (us.length - 1) (by omega)
   rw[List.getElem?_eq_getElem (by omega)]at qs
   obtain⟨ws,el,fz,hw,js⟩:=cells_of_cell? qs
   have hlt:ad.off+us.length≤ws.size:=by
    have:=(Array.getElem?_eq_some_iff.1 js).1
    omega
   rw[run_loadCells (w:=W) (by rw[hW];exact hw) hlt]
   congr 1
   apply Array.toList_inj.1
   apply List.ext_getElem?
   intro j
   simp only[Array.toList_extract,List.extract_eq_take_drop,List.getElem?_take,List.getElem?_drop]
   by_cases hj:j<us.length
   ·rw[if_pos (by omega),←g3 j hj]
    simp[World.cell?,hw]
   ·rw[if_neg (by omega),List.getElem?_eq_none (by simpa using hj)]
theorem axo (l:List UInt8):agU K Z w 1 (.string ⟨l.toArray⟩) (l.map fun b=>[.int .u8 b.toNat]):=by
 refine⟨by simp[Builtin.lenOf,yS],by simp,(l.map fun b:UInt8=>Value.int .u8 (b.toNat:Nat)).toArray,fun W hW=>?_,?_,?_⟩
 ·simp only[Builtin.firstCells,ant,List.length_map,List.take_length,List.drop_zero,Sem.run_pure]
  simp
 ·show au _ _ _
  simp only
  induction l with
  |nil=>trivial
  |cons b l ih=>exact⟨rfl,by simpa using ih⟩
 ·simp[fj]
include hT in
theorem axp (h:Rel K β ω Z s a w) {i:TI} {t:TypeId} {c:C} {u:Value} {ys:List (List D)} {s':St} (bu:ax K β Z s a w c u) (he:(sC cfg i t c).exec s=some (ys,s')):
  s'=s∧agU K Z w i.size u ys∧∃d,(underlying t).run K.P w= .ok d w∧∀k,d≠ .int k:=by
 unfold sC at he
 split at he
 ·rename_i l bN
  obtain⟨_,s1,h1,ak⟩:=av he
  obtain⟨hsz,hs1⟩:=bS h1
  obtain⟨hx,hs2⟩:=aE ak
  subst hx
  obtain⟨d,hd,hk,hun⟩:=dx (w:=w) (hT.T _ _ bN)
  have cG:=oT hk
  subst cG
  have e1:u= .string ⟨l.toArray⟩:=bu
  exact⟨by rw[hs2,hs1],by rw[hsz,e1];exact axo l,_,hun,by simp⟩
 ·rename_i bN
  obtain⟨hs,g⟩:=ann h bu he
  obtain⟨d,hd,hk,hun⟩:=dx (w:=w) (hT.T _ _ bN)
  have cG:=ku hk
  subst cG
  exact⟨hs,aod g,_,hun,by simp⟩
 ·simp[Prog.exec]at he
end
end Go.Vs
namespace Go.Vs
section
variable {K:Ctx} {β:Key→Option Nat} {ω:Nat→Option bX} {Z:Nat→Prop} {s:St} {a:Act} {w:World} {cfg:aP} (hT:eS K.P cfg)
theorem aoe (z:Array Value) (n:Nat):(Builtin.zeroCells z n).size=n * z.size:=by simp[Builtin.zeroCells]
theorem run_append_grow {P:Program} {t t2 et:TypeId} {i:TI} {z:List D} (hun:(underlying t).run P w= .ok (.slice et) w) {d2:TypeDesc} (fW:(underlying t2).run P w= .ok d2 w) (cG:∀k,d2≠ .int k)
  (hi:ay P et=some i) (hz:i.zero=some z) (hb0:0<i.bytes) (hb:i.bytes≤2 ^ 10) {base:Option Addr} {sLen sCap n:Nat} {x:Value} (hlen:(Builtin.lenOf x).run P w= .ok n w) (hgt:sCap<sLen+n) (hbound:sLen+n≤2 ^ 36)
  {old new:Array Value} (hold:∀W:World,W.heap=w.heap→(Builtin.firstCells i.size sLen (.slice base sLen sCap)).run P W= .ok old W) (hnew:∀W:World,W.heap=w.heap→(Builtin.firstCells i.size n x).run P W= .ok new W) {ty:TypeId}:
  ∃(cap:Nat) (rest:Array Value),sLen+n≤cap∧(∀zs:Nat,zs=z.length→rest.size=(cap - (sLen+n)) * zs)∧
   (Builtin.append_ #[t,t2] ty #[.slice base sLen sCap,x]).run P w= .ok (.slice (some ⟨w.heap.size,0,none⟩) (sLen+n) cap) (({ w with drawn:=w.drawn+1 }:World).alloc (.cells (old++new++rest) et)):=by
 obtain⟨info,hinfo,aoa,mL,_⟩:=run_typeInfo (w:=w) hi
 obtain⟨info',agV,axq,axr,_⟩:=run_typeInfo (w:={ w with drawn:=w.drawn+1 }) hi
 obtain⟨zv,fE,gl⟩:=sR (w:={ w with drawn:=w.drawn+1 }) hi hz
 have iC:=(mG (w:=w) (Z:=fun _=>True) gl).length
 have hnext:=nextslicecap_le hgt
 have hnb:¬(Builtin.nextslicecap (sLen+n) sCap * i.bytes>2 ^ 48):=by
  have h1:Builtin.nextslicecap (sLen+n) sCap * i.bytes≤(2 * 2 ^ 36+192) * 2 ^ 10:=Nat.mul_le_mul (by omega) hb
  have h2:(2 * 2 ^ 36+192) * 2 ^ 10≤2 ^ 48:=by decide
  omega
 refine⟨(Question.appendCap (sLen+n) sCap et).cut (w.tape w.drawn (.appendCap (sLen+n) sCap et)),Builtin.zeroCells zv.cells ((Question.appendCap (sLen+n) sCap et).cut (w.tape w.drawn (.appendCap (sLen+n) sCap et)) - (sLen+n)),?_,?_,?_⟩
 ·simp only[Question.cut];omega
 ·intro zs hzs
  rw[aoe]
  have:zv.cells.size=z.length:=by simpa using iC
  rw[this,hzs]
 ·have y8:(match d2 with| .int _=>true|_=>false)=false:=by cases d2<;>first|rfl|exact absurd rfl (cG _)
  have vP:(choose (.appendCap (sLen+n) sCap et)).run P w= .ok ((Question.appendCap (sLen+n) sCap et).cut (w.tape w.drawn (.appendCap (sLen+n) sCap et))) { w with drawn:=w.drawn+1 }:=by
   simp[choose,Sem.run,Question.forced]
  simp only[Builtin.append_,Array.getElem?_toList,List.getElem?_toArray,List.getElem?_cons_zero,List.getElem?_cons_succ,Sem.run_bind,hun,Result.andThen_ok,run_sizeOf hi,fW,Sem.run_pure,y8,Bool.false_eq_true,if_false,hlen,Bool.not_false,if_true]
  rw[if_neg (by omega)]
  simp only[Sem.run_bind,hinfo,Result.andThen_ok,mL]
  rw[if_neg (by simp;omega)]
  simp only[Sem.run_bind,hinfo,Result.andThen_ok,mL]
  rw[if_neg hnb]
  simp only[Sem.run_bind,vP,Result.andThen_ok,agV,run_askRoom,hold { w with drawn:=w.drawn+1 } rfl,hnew { w with drawn:=w.drawn+1 } rfl,fE,o5,Sem.run_pure]
theorem aof {P:Program} {t t2 et:TypeId} {i:TI} (hun:(underlying t).run P w= .ok (.slice et) w) {d2:TypeDesc} (fW:(underlying t2).run P w= .ok d2 w) (cG:∀k,d2≠ .int k)
  (hi:ay P et=some i) {base:Option Addr} {sLen sCap n:Nat} {x:Value} (hlen:(Builtin.lenOf x).run P w= .ok n w) (hle:sLen+n≤sCap)
  {new:Array Value} (hnew:(Builtin.firstCells i.size n x).run P w= .ok new w) {w':World} (hst:∀ad,base=some ad→(storeCells (ad.add (sLen * i.size)) new.toList).run P w= .ok () w') (hnone:base=none→w'=w) {ty:TypeId}:
  (Builtin.append_ #[t,t2] ty #[.slice base sLen sCap,x]).run P w= .ok (.slice base (sLen+n) sCap) w':=by
 have y8:(match d2 with| .int _=>true|_=>false)=false:=by cases d2<;>first|rfl|exact absurd rfl (cG _)
 simp only[Builtin.append_,List.getElem?_toArray,List.getElem?_cons_zero,List.getElem?_cons_succ,Sem.run_bind,hun,Result.andThen_ok,run_sizeOf hi,fW,Sem.run_pure,y8,Bool.false_eq_true,if_false,hlen,Bool.not_false,if_true]
 rw[if_pos hle]
 simp only[Sem.run_bind,hnew,Result.andThen_ok]
 cases base with
 |none=>rw[hnone rfl];rfl
 |some ad=>simp only[Sem.run_bind,hst ad rfl,Result.andThen_ok,Sem.run_pure]
theorem axt {P:Program} {t t2 et:TypeId} {i:TI} {z:List D} (hun:(underlying t).run P w= .ok (.slice et) w) (fW:(underlying t2).run P w= .ok (.int .i64) w)
  (hi:ay P et=some i) (hz:i.zero=some z) (hzs:z.length=i.size) (hs0:0<i.size) (hb0:0<i.bytes) (hb:i.bytes≤2 ^ 10) {k:IntKind} {n:Int} (hn:0≤n) (hbound:n≤2 ^ 36) {ty:TypeId}:
  (n.toNat=0→(Builtin.append_ #[t,t2] ty #[.slice none 0 0,.int k n]).run P w= .ok (.slice none 0 0) w)∧
  (n.toNat≠0→∃(cap:Nat) (zv:Array Value),n.toNat≤cap∧(∀(w:World) (Z:Nat→Prop),DL w Z zv.toList z)∧
    (Builtin.append_ #[t,t2] ty #[.slice none 0 0,.int k n]).run P w= .ok (.slice (some ⟨w.heap.size,0,none⟩) n.toNat cap) (({ w with drawn:=w.drawn+1 }:World).alloc (.cells (Builtin.zeroCells zv n.toNat++Builtin.zeroCells zv (cap - n.toNat)) et))):=by
 obtain⟨info,hinfo,aoa,mL,_⟩:=run_typeInfo (w:=w) hi
 obtain⟨info',agV,axq,axr,_⟩:=run_typeInfo (w:={ w with drawn:=w.drawn+1 }) hi
 obtain⟨zv,fE,gl⟩:=sR (w:={ w with drawn:=w.drawn+1 }) hi hz
 have iC:∀(w:World) (Z:Nat→Prop),DL w Z zv.cells.toList z:=fun w Z=>mG (w:=w) (Z:=Z) gl
 have hw:IntKind.i64.wrap n=n:=by
  simp only[IntKind.wrap,IntKind.bits,IntKind.signed]
  simp
  omega
 have hbytes:n * i.bytes≤2 ^ 48:=by
  have h1:n * i.bytes≤2 ^ 36 * 2 ^ 10:=Int.mul_le_mul (by omega) (by omega) (by omega) (by decide)
  omega
 constructor
 ·intro h0
  simp only[Builtin.append_,List.getElem?_toArray,List.getElem?_cons_zero,List.getElem?_cons_succ,Sem.run_bind,hun,Result.andThen_ok,run_sizeOf hi,fW,Sem.run_pure,if_true,asInt,asIntOf,hw,hinfo,mL]
  rw[if_neg (by omega)]
  simp only[Sem.run_bind,hinfo,Result.andThen_ok,mL]
  rw[if_neg (by omega)]
  simp only[Sem.run_pure,Result.andThen_ok,h0]
  simp[Sem.run_pure,Sem.run_bind]
 ·intro h0
  have hgt:0<0+n.toNat:=by omega
  have hnext:=nextslicecap_le hgt
  have hnb:¬(Builtin.nextslicecap (0+n.toNat) 0 * i.bytes>2 ^ 48):=by
   have h1:Builtin.nextslicecap (0+n.toNat) 0 * i.bytes≤(2 * 2 ^ 36+192) * 2 ^ 10:=Nat.mul_le_mul (by omega) hb
   have h2:(2 * 2 ^ 36+192) * 2 ^ 10≤2 ^ 48:=by decide
   omega
  have vP:(choose (.appendCap (0+n.toNat) 0 et)).run P w= .ok ((Question.appendCap (0+n.toNat) 0 et).cut (w.tape w.drawn (.appendCap (0+n.toNat) 0 et))) { w with drawn:=w.drawn+1 }:=by
   simp[choose,Sem.run,Question.forced]
  refine⟨(Question.appendCap (0+n.toNat) 0 et).cut (w.tape w.drawn (.appendCap (0+n.toNat) 0 et)),zv.cells,?_,iC,?_⟩
  ·simp only[Question.cut];omega
  ·simp only[Builtin.append_,List.getElem?_toArray,List.getElem?_cons_zero,List.getElem?_cons_succ,Sem.run_bind,hun,Result.andThen_ok,run_sizeOf hi,fW,Sem.run_pure,if_true,asInt,asIntOf,hw,hinfo,mL]
   rw[if_neg (by omega)]
   simp only[Sem.run_bind,hinfo,Result.andThen_ok,mL]
   rw[if_neg (by omega)]
   simp only[Sem.run_bind,Sem.run_pure,Result.andThen_ok]
   rw[if_neg (by omega)]
   simp only[Sem.run_bind,hinfo,Result.andThen_ok,mL]
   rw[if_neg (by simp[IntKind.max,IntKind.bits,IntKind.signed];omega)]
   simp only[Sem.run_bind,hinfo,Result.andThen_ok,mL]
   rw[if_neg hnb]
   have hfc:(Builtin.firstCells i.size 0 (.slice none 0 0)).run P { w with drawn:=w.drawn+1 }= .ok #[] { w with drawn:=w.drawn+1 }:=by simp[Builtin.firstCells]
   simp only[Sem.run_bind,vP,Result.andThen_ok,agV,run_askRoom,hfc]
   rw[if_neg (by simp),if_neg (by intro h;rcases Nat.mul_eq_zero.1 h with h|h<;>omega)]
   simp only[Sem.run_bind,fE,Result.andThen_ok,Sem.run_pure,o5]
   simp
include hT in
theorem axv (h:Rel K β ω Z s a w) {args:Array Operand} {tys:Array TypeId} {dst:Nat} {o:Oper} (ho:o.op= .call { callee:=.builtin .cap,args,argTypes:=tys }) {v:SV} {s':St} (he:(bp cfg o.op dst).exec s=some (v,s')):
  bR K s' a dst ((execOp a.eval o).run K.P w) v:=by
 rw[ho]at he
 simp only[bp]at he
 split at he
 ·rename_i x t hx ht
  have hargs:args= #[x]:=by apply Array.toList_inj.1;simpa using hx
  have y4:tys= #[t]:=by apply Array.toList_inj.1;simpa using ht
  subst hargs;subst y4
  split at he
  ·rename_i bN
   obtain⟨c1,s1,h1,ak⟩:=av he
   obtain⟨hs1,o1,r1,iB⟩:=ew h h1
   rw[hs1]at ak
   unfold afZ at ak
   split at ak
   ·have e1:a.eval x= .slice none 0 0:=r1
    obtain⟨rfl,rfl⟩:=aE ak
    obtain⟨d,hd,hk,hun⟩:=dx (w:=w) (hT.T _ _ bN)
    have y9:=ku hk
    subst y9
    refine bR.d h (u:=.int .i64 0) ?_ rfl
    simp[execOp,ho,resolve,invoke,builtin,Builtin.cap_,e1,hun,goInt]
   ·simp[Prog.exec]at ak
  ·simp[Prog.exec]at he
 ·simp[Prog.exec]at he
include hT in
theorem axw (h:Rel K β ω Z s a w) {x y:Operand} {t t2 et:TypeId} {i i0 i2:TI} {dst:Nat} {o:Oper} (ho:o.op= .call { callee:=.builtin .append,args:= #[x,y],argTypes:= #[t,t2] })
  (bN:cfg.ti t=some i0) (vQ:i0.kind= .slice et) (hft:cfg.ti et=some i) (vO:cfg.ti t2=some i2) (hk2:i2.kind= .int .i64) {v:SV} {s':St}
  (he:(do let c ←dw x;let n ←kZ (←dw y);vr i c n:Prog SV).exec s=some (v,s')):
  bR K s' a dst ((execOp a.eval o).run K.P w) v:=by
 obtain⟨c1,s1,h1,ak⟩:=av he
 obtain⟨hs1,o1,r1,iB⟩:=ew h h1
 rw[hs1]at ak
 obtain⟨c2,s2,h2,aH⟩:=av ak
 obtain⟨hs2,o2,r2,nK⟩:=ew h h2
 rw[hs2]at aH
 obtain⟨n,s3,h3,bz⟩:=av aH
 obtain⟨hs3,k,y7⟩:=qw h3
 rw[hs3]at bz
 subst y7
 have e2:a.eval y= .int k n:=r2
 unfold vr at bz
 split at bz
 ·rename_i z hz
  have e1:a.eval x= .slice none 0 0:=r1
  obtain⟨_,s5,h5,cn⟩:=av bz
  obtain⟨⟨hzs,hpos,hb0,hb,hmp⟩,gj⟩:=bS h5
  rw[gj]at cn
  obtain⟨_,s6,h6,dN⟩:=av cn
  obtain⟨⟨hn0,mH⟩,gm⟩:=bS h6
  rw[gm]at dN
  obtain⟨d,hd,hk,hun⟩:=dx (w:=w) (hT.T _ _ bN)
  rw[vQ]at hk
  have y9:=ku hk
  subst y9
  obtain⟨d2,cG,hk',fW⟩:=dx (w:=w) (hT.T _ _ vO)
  rw[hk2]at hk'
  have axx:=sS hk'
  subst axx
  have cQ:(execOp a.eval o).run K.P w=((Builtin.append_ #[t,t2] o.type #[a.eval x,a.eval y]).run K.P w).andThen fun u w'=>.ok (.value u) w':=by
   simp[execOp,ho,resolve,invoke,builtin]
  obtain⟨q0,q1⟩:=axt (P:=K.P) (w:=w) hun fW (hT.T _ _ hft) hz hzs hpos hb0 hb (k:=k) hn0 mH (ty:=o.type)
  split at dN
  ·rename_i hn
   obtain⟨hx',o7⟩:=aE dN
   rw[o7,hx']
   refine bR.d h (u:=.slice none 0 0) ?_ rfl
   rw[cQ,e1,e2,q0 hn]
   rfl
  ·rename_i hn
   obtain⟨hx',o7⟩:=aE dN
   rw[o7,hx']
   obtain⟨cap,zv,p1,p2,p3⟩:=q1 hn
   obtain⟨r5,k5⟩:=h.drew
   have hsz:zv.size=i.size:=by have:=(p2 w Z).length;simp at this;omega
   refine y6 (hm:=hmp) r5 (len:=n.toNat) (cap:=cap) (ws:=Builtin.zeroCells zv n.toNat++Builtin.zeroCells zv (cap - n.toNat)) (el:=et) ?_ (by simp) p1 ?_ (by intro r hr;rw[List.eq_of_mem_replicate hr,hzs]) (fun j d hj=>?_)
   ·rw[cQ,e1,e2,p3];rfl
   ·simp only[Array.size_append,aoe,hsz]
    rw[←Nat.add_mul]
    exact Nat.mul_le_mul_right _ (by omega)
   ·have hcells:(Builtin.zeroCells zv n.toNat).toList=(List.replicate n.toNat zv.toList).flatten:=agR zv n.toNat
    obtain⟨u,g1,g2⟩:=(ac3 (p2 { w with drawn:=w.drawn+1 } Z) n.toNat).get hj
    refine⟨u,?_,g2⟩
    rw[←hcells]at g1
    have hlt:j<(Builtin.zeroCells zv n.toNat).size:=by simpa using(List.getElem?_eq_some_iff.1 g1).1
    rw[Array.getElem?_append_left hlt,←Array.getElem?_toList]
    exact g1
 ·simp[Prog.exec]at bz
include hT in
theorem axy (h:Rel K β ω Z s a w) {args:Array Operand} {tys:Array TypeId} {dst:Nat} {o:Oper} (ho:o.op= .call { callee:=.builtin .append,args,argTypes:=tys }) {v:SV} {s':St} (he:(bp cfg o.op dst).exec s=some (v,s')):
  bR K s' a dst ((execOp a.eval o).run K.P w) v:=by
 rw[ho]at he
 simp only[bp]at he
 split at he
 ·rename_i x y t t2 hx ht
  have hargs:args= #[x,y]:=by apply Array.toList_inj.1;simpa using hx
  have y4:tys= #[t,t2]:=by apply Array.toList_inj.1;simpa using ht
  subst hargs;subst y4
  split at he
  ·rename_i size bytes et zz bN
   split at he
   ·rename_i i hft
    split at he
    ·rename_i vO
     exact axw hT h ho bN rfl hft vO rfl he
    rename_i aHG
    obtain⟨c1,s1,h1,ak⟩:=av he
    obtain⟨hs1,o1,r1,iB⟩:=ew h h1
    rw[hs1]at ak
    obtain⟨c2,s2,h2,aH⟩:=av ak
    obtain⟨hs2,o2,r2,nK⟩:=ew h h2
    rw[hs2]at aH
    obtain⟨ys,s3,h3,bz⟩:=av aH
    obtain⟨hs3,⟨hlen,hyl,arr,fM,oV,hone⟩,d2,fW,cG⟩:=axp hT h r2 h3
    rw[hs3]at bz
    obtain⟨d,hd,hk,hun⟩:=dx (w:=w) (hT.T _ _ bN)
    have y9:=ku hk
    subst y9
    have cQ:(execOp a.eval o).run K.P w=((Builtin.append_ #[t,t2] o.type #[a.eval x,a.eval y]).run K.P w).andThen fun u w'=>.ok (.value u) w':=by
     simp[execOp,ho,resolve,invoke,builtin]
    unfold pX at bz
    obtain⟨_,s4,h4,cn⟩:=av bz
    obtain⟨⟨hpos,hb0,hb,hzl,hmp⟩,dm⟩:=bS h4
    rw[dm]at cn
    obtain⟨z,hz⟩:∃z,i.zero=some z:=by
     cases hzz:i.zero with
     |none=>rw[hzz]at hzl;cases hzl
     |some z=>exact⟨z,rfl⟩
    have hzs:z.length=i.size:=by rw[hz]at hzl;simpa using hzl
    have qB:arr.size=ys.length * i.size:=by
     have:=oV.length
     rw[ac2 hyl]at this
     simpa using this
    split at cn
    ·
     have e1:a.eval x= .slice none 0 0:=r1
     obtain⟨_,s5,h5,dN⟩:=av cn
     obtain⟨agS,gj⟩:=bS h5
     rw[gj]at dN
     split at dN
     ·rename_i qv
      obtain⟨hx',gm⟩:=aE dN
      rw[gm,hx']
      refine bR.d h (u:=.slice none 0 0) ?_ rfl
      rw[cQ,e1,aof hun fW cG (hT.T _ _ hft) hlen (by rw[qv];simp) (fM w rfl) (w':=w) (by intro ad h;cases h) (fun _=>rfl)]
      simp[qv]
     ·rename_i qv
      obtain⟨hx',gm⟩:=aE dN
      rw[gm,hx']
      have hy0:0<ys.length:=List.length_pos_iff.2 qv
      obtain⟨cap,rest,q1,q2,q3⟩:=run_append_grow (P:=K.P) (w:=w) hun fW cG (hT.T _ _ hft) hz hb0 hb hlen (base:=none) (sLen:=0) (sCap:=0) (by omega) (by omega) (old:= #[]) (fun W _=>by simp[Builtin.firstCells]) fM (ty:=o.type)
      obtain⟨r5,k5⟩:=h.drew
      refine y6 (hm:=hmp) r5 (len:=ys.length) (cap:=cap) (ws:= #[]++arr++rest) (el:=et) ?_ rfl (by omega) ?_ hyl (fun j d hj=>?_)
      ·rw[cQ,e1,q3];simp
      ·have:=q2 i.size hzs.symm
       simp only[Array.size_append,qB,this,Array.size_empty]
       rw[Nat.zero_add,Nat.zero_add,←Nat.add_mul]
       exact Nat.mul_le_mul_right _ (by omega)
      ·obtain⟨u,g1,g2⟩:=oV.get hj
       refine⟨u,?_,bL.mono (w:=w) (w':={ w with drawn:=w.drawn+1 }) (Z:=Z) (Z':=Z) (fun b hb=>⟨rfl,hb⟩) _ _ g2⟩
       have hjl:j<arr.size:=by simpa using(List.getElem?_eq_some_iff.1 g1).1
       rw[Array.getElem?_append_left (by simp;omega),Array.empty_append]
       simpa using g1
    ·rename_i r j hv cv e k xs
     simp only[Prog.exec]at cn
     obtain⟨_,s5,h5,dN⟩:=av cn
     obtain⟨⟨dj,dX,gC,dA⟩,gj⟩:=bS h5
     rw[gj]at dN
     split at dN
     ·rename_i e0 zs bB
      obtain⟨_,s6,h6,nL⟩:=av dN
      obtain⟨hfull,gm⟩:=bS h6
      rw[gm]at nL
      obtain⟨_,s7,h7,he8⟩:=av nL
      obtain⟨agS,o7⟩:=bS h7
      rw[o7]at he8
      obtain⟨_,s8,h8,he9⟩:=av he8
      obtain⟨hx',hs9⟩:=aE he9
      rw[hs9,hx']
      have agW:aW e=false:=by rw[gC];exact hmp
      obtain⟨ad,cap,e1,g2,g3,g4⟩:=agl h agW r1 dj dX (sQ bB)
      obtain⟨dU,cap',f1,_,_,_,qq,agk,vI,ys0,f2,f3,f4,oR,f5,f6,f7⟩:=agj h agW r1 dj dX (sQ bB)
      rw[e1]at f1
      cases f1
      obtain⟨e9,ys9,u9,b9,ω',t1,t2',t3,t4,t6,t7,t8,t9,t10⟩:=anh h dA h8 (.tmp dst,some 0)
      rw[t2']at f2
      cases f2
      simp only[cP,Option.some.injEq]at t3
      subst t3
      rw[bB]at t1
      cases t1
      have hee:e0=e:=by
       rcases f6 with f6|f6<;>rw[bB]at f6<;>cases f6;rfl
      subst hee
      have aog:aW e0=false:=agW
      have hd1:DL w Z arr.toList ys.flatten:=oV
      by_cases hcap:xs.length+ys.length≤cap
      ·
       have nJ:ad.block=qq.block:=f3
       obtain⟨ws,el,lo,hi,w1,w2,w3⟩:=t9
       have hfit:ad.off+cap * e0≤ws.size:=by omega
       have aHI:xs.length * e0+ys.length * e0≤cap * e0:=by rw[←Nat.add_mul];exact Nat.mul_le_mul_right _ hcap
       obtain⟨w',eR,p1,p2,p3⟩:=agb (P:=K.P) (b:=ad.block) (o:=ad.off+xs.length * e0) arr.toList 0 w ws (by rw[nJ];exact w1) w3 (by simp only[Array.length_toList,qB,←gC];omega) hone
       have sV:eR.toList=splice ws.toList (ad.off+xs.length * e0) arr.toList:=by simpa using p3
       rw[nJ]at p2
       obtain⟨n1,n2,n3,n4⟩:=t6.av1 t8 t10 p2
       have hZ:∀b,Z b→w'.heap[b]? =w.heap[b]? ∧Z b:=fun b hb=>⟨p2.other b (fun e=>(t6.cZ _ _ t8).1 (e ▸ hb)),hb⟩
       have hcell:∀q,w'.cell? ⟨ad.block,q,none⟩=if ad.off+xs.length * e0≤q∧q<ad.off+xs.length * e0+ys.length * e0 then(arr.toList)[q - (ad.off+xs.length * e0)]? else w.cell? ⟨ad.block,q,none⟩:=by
        intro q
        have h1:w'.cell? ⟨ad.block,q,none⟩=eR.toList[q]? :=by simp[World.cell?,nJ,p2.here]
        rw[h1,sV,vK (by simp only[Array.length_toList,qB,←gC];omega)]
        simp only[Array.length_toList,qB,←gC]
        split
        ·rfl
        ·simp[World.cell?,nJ,w1]
       have hrows:cq w' Z e0 (xs++ys) ad.block ad.off:=by
        refine cq.append ?_ ?_
        ·refine cq.cW fun m x hm=>?_
         obtain⟨q1,q2⟩:=g4.get hm
         refine⟨q1,dK.cW fun jj d hd=>?_⟩
         obtain⟨u2,q3,q4⟩:=q2.get hd
         have hjl:jj<e0:=by rw[←q1];exact(List.getElem?_eq_some_iff.1 hd).1
         have hml:m<xs.length:=(List.getElem?_eq_some_iff.1 hm).1
         have:m * e0+e0≤xs.length * e0:=by rw[←Nat.succ_mul];exact Nat.mul_le_mul_right _ hml
         exact⟨u2,by rw[hcell,if_neg (by omega)];exact q3,bL.mono hZ _ _ q4⟩
        ·refine y5 (w:=w') (ws:=eR) (el:=el) (fz:=(lo,hi)) (by rw[nJ];exact p2.here) ys _ (by rw[gC];exact hyl) fun j d hj=>?_
         obtain⟨u2,q1,q2⟩:=hd1.get hj
         have hjl:j<ys.length * e0:=by
          have:=(List.getElem?_eq_some_iff.1 q1).1
          simpa[qB,←gC]using this
         refine⟨u2,?_,bL.mono hZ _ _ q2⟩
         have:eR[ad.off+xs.length * e0+j]? =eR.toList[ad.off+xs.length * e0+j]? :=by simp
         rw[this,sV,vK (by simp only[Array.length_toList,qB,←gC];omega)]
         simp only[Array.length_toList,qB,←gC]
         rw[if_pos (by omega),Nat.add_sub_cancel_left]
         exact q1
       have aoh:(xs++ys).length=xs.length+ys.length:=by simp
       have hown:ax K β Z s8 a w' (.own e0 (xs++ys)) (.slice (some ad) (xs.length+ys.length) cap):=(ax.gK aog).2 ⟨ad,cap,by rw[aoh],g2,by rw[aoh];exact hcap,hrows⟩
       refine⟨.slice (some ad) (xs.length+ys.length) cap,w',β,ω',Z,?_,n1,⟨rfl,hown⟩,?_⟩
       ·rw[cQ,e1,aof hun fW cG (hT.T _ _ hft) hlen hcap (fM w rfl) (w':=w') (by
          intro ad1 h1
          cases h1
          rw[nH g2,←gC]
          exact p1) (by intro h;cases h)]
        rfl
       ·intro j' c q hc hq
        have hj:j'=0:=by
         simp only[SV.cells]at hc
         cases j' with
         |zero=>rfl
         |succ j=>simp at hc
        subst hj
        simp only[SV.cells,List.getElem?_cons_zero,Option.some.injEq]at hc
        simp only[flat,List.getElem?_cons_zero,Option.some.injEq]at hq
        subst hc;subst hq
        refine⟨hown,fun e' xs' b2 q1 q2=>?_⟩
        cases q1
        cases q2
        exact⟨by rw[nJ];exact t8,⟨eR,el,lo,hi,by rw[nJ];exact p2.here,by rw[p2.len];exact hfit,fun q hq=>w3 q (by rw[←p2.len];exact hq)⟩,by rw[nJ];exact n2⟩
      ·
       obtain⟨axC,rest,q1,q2,q3⟩:=run_append_grow (P:=K.P) (w:=w) hun fW cG (hT.T _ _ hft) hz hb0 hb hlen (base:=some ad) (sLen:=xs.length) (sCap:=cap) (by omega) agS (old:=(g4.us.choose).toArray) (fun W hW=>by
        obtain⟨_,a2,a3⟩:=g4.us.choose_spec
        generalize g4.us.choose=us at a2 a3
        simp only[Builtin.firstCells]
        rw[show(ad:Addr)=⟨ad.block,ad.off,none⟩ by rw[←g2],←gC,←a2]
        by_cases h0:us.length=0
        ·rw[h0]
         have:us=[]:=List.length_eq_zero_iff.1 h0
         subst this
         simp[loadCells,loadCellsFrom]
        ·have qs:=a3 (us.length - 1) (by omega)
         rw[List.getElem?_eq_getElem (by omega)]at qs
         obtain⟨ws,el,fz,hw,js⟩:=cells_of_cell? qs
         have hlt:ad.off+us.length≤ws.size:=by
          have:=(Array.getElem?_eq_some_iff.1 js).1
          omega
         rw[run_loadCells (w:=W) (by rw[hW];exact hw) hlt]
         congr 1
         apply Array.toList_inj.1
         apply List.ext_getElem?
         intro j
         simp only[Array.toList_extract,List.extract_eq_take_drop,List.getElem?_take,List.getElem?_drop]
         by_cases hj:j<us.length
         ·rw[if_pos (by omega),←a3 j hj]
          simp[World.cell?,hw]
         ·rw[if_neg (by omega),List.getElem?_eq_none (by simpa using hj)]) fM (ty:=o.type)
       obtain⟨a1,a2,_⟩:=g4.us.choose_spec
       generalize g4.us.choose=us at a1 a2 q3
       obtain⟨r5,k5⟩:=t6.drew
       have hfl:(xs++ys).flatten=xs.flatten++ys.flatten:=by simp
       have hall:DL w Z (us++arr.toList) (xs++ys).flatten:=by rw[hfl];exact au.append a1 hd1
       refine y6 (hm:=aog) r5 (len:=xs.length+ys.length) (cap:=axC) (ws:=us.toArray++arr++rest) (el:=et) ?_ (by simp) (by omega) ?_ (by
        intro r hr
        rcases List.mem_append.1 hr with hr|hr
        ·exact g4.len r hr
        ·rw[gC];exact hyl r hr) (fun j d hj=>?_)
       ·rw[cQ,e1,q3];rfl
       ·have:=q2 i.size hzs.symm
        simp only[Array.size_append,qB,this,List.size_toArray,a2,gC]
        rw[←Nat.add_mul,←Nat.add_mul]
        exact Nat.mul_le_mul_right _ (by omega)
       ·obtain⟨u,mM,g2'⟩:=hall.get hj
        refine⟨u,?_,bL.mono (w:=w) (w':={ w with drawn:=w.drawn+1 }) (Z:=Z) (Z':=Z) (fun b hb=>⟨rfl,hb⟩) _ _ g2'⟩
        have hjl:j<us.length+arr.size:=by simpa using(List.getElem?_eq_some_iff.1 mM).1
        rw[Array.getElem?_append_left (by simpa using hjl)]
        have:(us.toArray++arr)[j]? =(us++arr.toList)[j]? :=by rw[←Array.getElem?_toList];simp
        rw[this]
        exact mM
     ·simp[Prog.exec]at dN
    ·simp[Prog.exec]at cn
   ·simp[Prog.exec]at he
  ·simp[Prog.exec]at he
 ·simp[Prog.exec]at he
end
end Go.Vs
namespace Go.Vs
section
variable {K:Ctx} {β:Key→Option Nat} {ω:Nat→Option bX} {Z:Nat→Prop} {s:St} {a:Act} {w:World} {cfg:aP} (hT:eS K.P cfg)
theorem axD (h:Rel K β ω Z s a w) {e dst len cap lo hi:Nat} {ws:Array Value} {el:TypeId} {rows:List (List D)} {r:Result Next} {w':World} (hr:r= .ok (.value (.slice (some ⟨w.heap.size,0,none⟩) len cap)) w')
  (jb:∀b,b<w.heap.size→w'.heap[b]? =w.heap[b]?) (hsize:w'.heap.size=w.heap.size+1) (hos:w'.os=w.os) (sM:w'.tape=w.tape) (hout:w'.output=w.output)
  (mD:w'.heap[w.heap.size]? =some (.cells ws el (lo,hi))) (hfz:∀o,o<ws.size→¬(lo≤o∧o<hi))
  (hl:rows.length=len) (hcap:len≤cap) (js:cap * e≤ws.size) (hrow:∀r∈rows,r.length=e) (hd:∀(j:Nat) d,rows.flatten[j]? =some d→∃u,ws[j]? =some u∧bL w Z d u) (hm:aW e=false):
  bR K s a dst r (.one (.own e rows)):=by
 obtain⟨r1,k1⟩:=h.grow (w':=w') (ω':=fun b=>if b=w.heap.size then some (.tmp dst,some 0)else ω b) jb (by omega) hos sM hout (fun b hb=>by simp[Nat.ne_of_lt hb]) (fun b g' hb hg=>by
  rw[hsize]
  by_cases gi:b=w.heap.size
  ·omega
  ·rw[if_neg gi]at hg;have:=(h.cZ b _ hg).2.1;omega)
 have f1:ie K β s a w' w.heap.size:=by
  intro q l e' xs u' b' hq cF c6 aM hb
  rw[h.aga jb]at c6
  have:=(h.cZ _ _ (h.own q l e' xs u' b' hq cF c6 aM).1).2.1
  omega
 have hrows:cq w' Z e rows w.heap.size 0:=by
  refine y5 mD rows 0 hrow fun j d hj=>?_
  obtain⟨u,q1,q2⟩:=hd j d hj
  exact⟨u,by simpa using q1,bL.mono (fun b hb=>⟨k1.heap b (h.dH b hb),hb⟩) _ _ q2⟩
 refine⟨_,_,β,_,Z,hr,r1,⟨rfl,(ax.gK hm).2 ⟨⟨w.heap.size,0,none⟩,cap,by rw[hl],rfl,by rw[hl];exact hcap,hrows⟩⟩,?_⟩
 intro j c x hc hx
 have hj:j=0:=by
  simp only[SV.cells]at hc
  cases j with
  |zero=>rfl
  |succ j=>simp at hc
 subst hj
 simp only[SV.cells,List.getElem?_cons_zero,Option.some.injEq]at hc
 simp only[flat,List.getElem?_cons_zero,Option.some.injEq]at hx
 subst hc;subst hx
 refine⟨(ax.gK hm).2 ⟨⟨w.heap.size,0,none⟩,cap,by rw[hl],rfl,by rw[hl];exact hcap,hrows⟩,fun e' xs b q1 q2=>?_⟩
 cases q1
 cases q2
 exact⟨by simp,⟨ws,el,lo,hi,mD,by simpa using js,hfz⟩,f1⟩
theorem axE {P:Program} (el:TypeId) (l:List UInt8):∃(cap:Nat) (w':World) (ws:Array Value),l.length≤cap∧(Conv.stringToBytes el ⟨l.toArray⟩).run P w= .ok (.slice (some ⟨w.heap.size,0,none⟩) l.length cap) w'∧
  (∀b,b<w.heap.size→w'.heap[b]? =w.heap[b]?)∧w'.heap.size=w.heap.size+1∧w'.os=w.os∧w'.tape=w.tape∧w'.output=w.output∧
  w'.heap[w.heap.size]? =some (.cells ws el (ws.size,ws.size+1))∧ws.size=cap∧∀(j:Nat),j<l.length→ws[j]? =(l[j]?).map fun b=>.int .u8 b.toNat:=by
 have vP:(choose (.appendCap l.length 0 el)).run P w= .ok ((Question.appendCap l.length 0 el).cut (w.tape w.drawn (.appendCap l.length 0 el))) { w with drawn:=w.drawn+1 }:=by
  simp[choose,Sem.run,Question.forced]
 have hle:l.length≤(Question.appendCap l.length 0 el).cut (w.tape w.drawn (.appendCap l.length 0 el)):=by simp only[Question.cut];omega
 generalize (Question.appendCap l.length 0 el).cut (w.tape w.drawn (.appendCap l.length 0 el))=cap at vP hle
 let ws:Array Value:=(l.toArray.map fun b=>Value.int .u8 b.toNat)++Array.replicate (cap - l.length) (.int .u8 0)
 have js:ws.size=cap:=by simp[ws];omega
 let w1:World:=({ w with drawn:=w.drawn+1 }:World).alloc (.cells ws el)
 have h1:w1.heap[w.heap.size]? =some (.cells ws el (0,0)):=by show(w.heap.push _)[w.heap.size]? =_;simp
 refine⟨cap,w1.freeze ⟨w.heap.size,ws.size,none⟩ 1,ws,hle,?_,?_,?_,rfl,rfl,rfl,?_,js,?_⟩
 ·simp only[Conv.stringToBytes,Sem.run_bind,yS,vP,Result.andThen_ok]
  have hsh:(shape w.heap.size).run P w1= .ok (some (el,ws.size)) w1:=by
   simp[shape,Sem.run,World.shape?,h1]
  show((newRow el ws).run P { w with drawn:=w.drawn+1 }).andThen _=_
  simp only[o5,Result.andThen_ok]
  show((markStringish ⟨w.heap.size,0,none⟩).run P w1).andThen _=_
  simp only[markStringish,Sem.run_bind,hsh,Result.andThen_ok]
  rfl
 ·intro b hb
  have hne:w.heap.size≠b:=by omega
  show((w1.freeze ⟨w.heap.size,ws.size,none⟩ 1).heap)[b]? =_
  simp only[World.freeze,Nat.one_ne_zero,if_false,Array.getElem?_modify,if_neg hne]
  show(w.heap.push _)[b]? =_
  rw[Array.getElem?_push,if_neg (by omega)]
 ·show((w1.freeze ⟨w.heap.size,ws.size,none⟩ 1).heap).size=_
  simp only[World.freeze,Nat.one_ne_zero,if_false,Array.size_modify]
  show(w.heap.push _).size=_
  simp
 ·show((w1.freeze ⟨w.heap.size,ws.size,none⟩ 1).heap)[w.heap.size]? =_
  simp only[World.freeze,Nat.one_ne_zero,if_false,Array.getElem?_modify,if_true,h1,Option.map_some]
  simp
 ·intro j hj
  show((l.toArray.map fun b=>Value.int .u8 b.toNat)++Array.replicate (cap - l.length) (.int .u8 0))[j]? =_
  rw[Array.getElem?_append_left (by simpa using hj)]
  simp
theorem aoi {α γ:Type} (f:α→γ):∀l:List α,(l.map fun b=>[f b]).flatten=l.map f
 | []=>rfl
 |b :: l=>by simp only[List.map_cons,List.flatten_cons,aoi f l];rfl
theorem aoj {P:Program}:∀(us:List Value) (l:List UInt8) (acc:List UInt8),au (fun u (b:UInt8)=>∃n:Int,u= .int .u8 n∧b=UInt8.ofNat n.toNat) us l→
  (forIn us (ByteArray.mk acc.toArray) fun c (__s:ByteArray)=>
    match c with
    |Value.int IntKind.u8 n=>(pure (ForInStep.yield (__s.push (UInt8.ofNat n.toNat))):Sem (ForInStep ByteArray))
    |x=>do
     stuck "bytesToString: byte expected"
     pure (ForInStep.yield __s)).run P w= .ok (ByteArray.mk (acc++l).toArray) w
 | [],[],acc,_=>by simp
 |u :: us,b :: l,acc,h=>by
  obtain⟨⟨n,rfl,rfl⟩,h2⟩:=h
  rw[List.forIn_cons]
  simp only[Sem.run_bind,Sem.run_pure,Result.andThen_ok]
  have hp:(ByteArray.mk acc.toArray).push (UInt8.ofNat n.toNat)=ByteArray.mk (acc++[UInt8.ofNat n.toNat]).toArray:=by
   apply ByteArray.ext
   simp[ByteArray.push]
  rw[hp,aoj us l _ h2]
  simp
theorem axF {P:Program} {u:Value} {xs:List (List D)} {l:List UInt8} (hu:(u= .slice none 0 0∧xs=[])∨∃ad cap,u= .slice (some ad) xs.length cap∧(cap=0∨ad.spot=none)∧xs.length≤cap∧cq w Z 1 xs ad.block ad.off)
  (hl:xs.mapM (fun x=>match x with| [.int .u8 n]=>some (UInt8.ofNat n.toNat)|_=>none)=some l):(Conv.bytesToString u).run P w= .ok (.string ⟨l.toArray⟩) w:=by
 rcases hu with⟨rfl,rfl⟩|⟨ad,cap,rfl,h2,h3,h4⟩
 ·simp at hl
  subst hl
  rfl
 ·have hx:=aod (K:={ P:=P,N:=0,base:=0,w0:=w,E0:=fun _=>False,Z0:=fun _=>False,argv:= #[],gA:=fun _=>none }) (w:=w) (Z:=Z) (size:=1) (u:=.slice (some ad) xs.length cap) (ys:=xs) (.inr ⟨ad,cap,rfl,h2,h3,h4⟩)
  obtain⟨_,_,arr,fM,oV,_⟩:=hx
  have aok:=fM w rfl
  simp only[Builtin.firstCells,Nat.mul_one]at aok
  have key:∀(xs:List (List D)) (us:List Value) (l:List UInt8),DL w Z us xs.flatten→xs.mapM (fun x=>match x with| [.int .u8 n]=>some (UInt8.ofNat n.toNat)|_=>none)=some l→
    au (fun u (b:UInt8)=>∃n:Int,u= .int .u8 n∧b=UInt8.ofNat n.toNat) us l:=by
   intro xs
   induction xs with
   |nil=>
    intro us l hd hm
    simp at hm
    subst hm
    cases us with
    |nil=>trivial
    |cons _ _=>exact hd.elim
   |cons x xs ih=>
    intro us l hd hm
    rw[List.mapM_cons]at hm
    match x,hm with
    | [.int .u8 n],hm=>
      cases hm2:xs.mapM (fun x=>match x with| [.int .u8 n]=>some (UInt8.ofNat n.toNat)|_=>none)with
      |none=>simp[hm2]at hm
      |some l'=>
       simp[hm2]at hm
       subst hm
       cases us with
       |nil=>exact hd.elim
       |cons u us=>exact⟨⟨n,hd.1,rfl⟩,ih us l' hd.2 hm2⟩
    | [],hm=>simp at hm
    | .bool _ :: _,hm=>simp at hm
    | .str _ :: _,hm=>simp at hm
    | .nil :: _,hm=>simp at hm
    | .sl _ _ :: _,hm=>simp at hm
    | .aK _ :: _,hm=>simp at hm
    | .int k n :: y :: r,hm=>simp at hm
    | [.int .i8 n],hm=>simp at hm
    | [.int .i16 n],hm=>simp at hm
    | [.int .i32 n],hm=>simp at hm
    | [.int .i64 n],hm=>simp at hm
    | [.int .u16 n],hm=>simp at hm
    | [.int .u32 n],hm=>simp at hm
    | [.int .u64 n],hm=>simp at hm
  have hf:=aoj (P:=P) (w:=w) arr.toList l [] (key xs _ l oV hl)
  simp only[Conv.bytesToString,Sem.run_bind,aok,Result.andThen_ok]
  rw[←Array.forIn_toList]
  have he:ByteArray.empty=ByteArray.mk ([]:List UInt8).toArray:=rfl
  rw[he]
  exact(congrArg (fun r:Result ByteArray=>r.andThen fun a w'=>Sem.run P (pure (Value.string a)) w') hf).trans (by simp)
include hT in
theorem axG (h:Rel K β ω Z s a w) {src dst':TypeId} {x:Operand} {dst:Nat} {o:Oper} (ho:o.op= .convert src dst' x) {v:SV} {s':St} (he:(bp cfg o.op dst).exec s=some (v,s')):
  bR K s' a dst ((execOp a.eval o).run K.P w) v:=by
 rw[ho]at he
 simp only[bp]at he
 obtain⟨v1,s1,h1,ak⟩:=av he
 obtain⟨hs1,hv,hno,lH⟩:=fm h h1
 rw[hs1]at ak
 have cQ:(execOp a.eval o).run K.P w=((convert src dst' (a.eval x)).run K.P w).andThen fun u w'=>.ok (.value u) w':=by
  simp only[execOp,ho,Sem.run_bind,Sem.run_pure]
 unfold pY at ak
 split at ak
 ·rename_i i1 _ _ k _ _ n hi1 hi2
  obtain⟨d1,_,_,qC⟩:=dx (w:=w) (hT.T _ _ hi1)
  obtain⟨d2,_,hk2,fW⟩:=dx (w:=w) (hT.T _ _ hi2)
  have cG:=sS hk2
  subst cG
  obtain⟨hx,hs2⟩:=aE ak
  rw[hx,hs2]
  have e1:=hv.2
  simp only[ax,bL]at e1
  refine bR.d (d:=.int k (k.wrap n)) h (u:=.int k (k.wrap n)) ?_ rfl
  rw[cQ,e1]
  simp only[convert,Sem.run_bind,qC,fW,Result.andThen_ok,Conv.intToInt,Sem.run_pure]
 ·rename_i l hi1 hi2
  obtain⟨d1,_,_,qC⟩:=dx (w:=w) (hT.T _ _ hi1)
  obtain⟨d2,_,hk2,fW⟩:=dx (w:=w) (hT.T _ _ hi2)
  have cG:=oT hk2
  subst cG
  obtain⟨hx,hs2⟩:=aE ak
  rw[hx,hs2]
  have e1:=hv.2
  simp only[ax,bL]at e1
  refine bR.d (d:=.str l) h (u:=.string ⟨l.toArray⟩) ?_ rfl
  rw[cQ,e1]
  simp only[convert,Sem.run_bind,qC,fW,Result.andThen_ok,Sem.run_pure]
 ·rename_i et z l hi1 hi2
  obtain⟨d1,_,_,qC⟩:=dx (w:=w) (hT.T _ _ hi1)
  obtain⟨d2,_,hk2,fW⟩:=dx (w:=w) (hT.T _ _ hi2)
  have cG:=ku hk2
  subst cG
  split at ak
  ·rename_i hi3
   obtain⟨d3,_,hk3,ada⟩:=dx (w:=w) (hT.T _ _ hi3)
   have hd3:=sS hk3
   subst hd3
   obtain⟨hx,hs2⟩:=aE ak
   rw[hx,hs2]
   have e1:=hv.2
   simp only[ax,bL]at e1
   obtain⟨cap,w',ws,q1,q2,q3,q4,q5,q6,q7,q8,q9,q10⟩:=axE (P:=K.P) (w:=w) et l
   refine axD (hm:=by decide) h (w':=w') (len:=l.length) (cap:=cap) (lo:=ws.size) (hi:=ws.size+1) (ws:=ws) (el:=et) ?_ q3 q4 q5 q6 q7 q8 (by omega) (by simp) q1 (by omega) (by simp) (fun j d hj=>?_)
   ·rw[cQ,e1]
    simp only[convert,Sem.run_bind,qC,fW,ada,Result.andThen_ok,q2]
   ·rw[aoi,List.getElem?_map]at hj
    cases hlj:l[j]? with
    |none=>rw[hlj]at hj;cases hj
    |some b=>
     rw[hlj]at hj
     simp only[Option.map_some,Option.some.injEq]at hj
     subst hj
     refine⟨.int .u8 b.toNat,?_,rfl⟩
     rw[q10 j (List.getElem?_eq_some_iff.1 hlj).1,hlj]
     rfl
  ·simp[Prog.exec]at ak
 ·rename_i et z c hi1 hi2
  obtain⟨d1,_,gB,qC⟩:=dx (w:=w) (hT.T _ _ hi1)
  have hd1:=ku gB
  subst hd1
  obtain⟨d2,_,hk2,fW⟩:=dx (w:=w) (hT.T _ _ hi2)
  have cG:=oT hk2
  subst cG
  split at ak
  ·rename_i hi3
   obtain⟨d3,_,hk3,ada⟩:=dx (w:=w) (hT.T _ _ hi3)
   have hd3:=sS hk3
   subst hd3
   obtain⟨xs,s2,h2,aH⟩:=av ak
   obtain⟨hs2,g⟩:=ann h hv.2 h2
   rw[hs2]at aH
   split at aH
   ·rename_i l hl
    obtain⟨hx,hs3⟩:=aE aH
    rw[hx,hs3]
    have hrun:=axF (P:=K.P) g hl
    refine bR.d (d:=.str l) h (u:=.string ⟨l.toArray⟩) ?_ rfl
    rw[cQ]
    rcases g with⟨e1,_⟩|⟨ad,cap,e1,_⟩
    ·rw[e1]at hrun ⊢
     simp only[convert,Sem.run_bind,qC,fW,ada,Result.andThen_ok,hrun]
    ·rw[e1]at hrun ⊢
     simp only[convert,Sem.run_bind,qC,fW,ada,Result.andThen_ok,hrun]
   ·simp[Prog.exec]at aH
  ·simp[Prog.exec]at ak
 ·simp[Prog.exec]at ak
end
end Go.Vs
namespace Go.Vs
def dI (args:List SV) (boxes:List (List C)):St
 | .tmp _=>{}
 | .arg i=>{ v:=args.getD i .undef }
 | .box (.inb i)=>{ v:=match boxes[i]? with|some cs=>.agg cs|none=>.undef }
 | .box _=>{}
def dJ (args:List SV) (r:gS):St
 | .tmp 0=>{ v:=r.v }
 | .tmp _=>{}
 | .arg i=>{ v:=(gU r.aB args).getD i .undef }
 | .box (.inb i)=>{ v:=match r.boxes[i]? with|some cs=>.agg cs|none=>.undef }
 | .box _=>{}
def cR (P:Program) (N:Nat) (w:World) (vals:Array Value) (β:Key→Option Nat) (ω:Nat→Option bX) (Z:Nat→Prop):Ctx:=
 { P,N,base:=w.heap.size,w0:=w,E0:=fun b=>ω b≠none,Z0:=Z,argv:=vals,gA:=β }
def aHK (P:Program) (f:FuncId) (F:fc):Prop:=
 ∀(args:List SV) (boxes:List (List C)) (r:gS),F args boxes=some r→∀(w:World) (vals:Array Value) (β:Key→Option Nat) (ω:Nat→Option bX) (Z:Nat→Prop),
  vals.size=args.length→Rel (cR P 0 w vals β ω Z) β ω Z (dI args boxes) { tmps:= #[],defers:=[] } w→
  Calls P f vals w fun e w'=>∃v β' ω' Z',e= .returned v∧Rel (cR P 1 w vals β ω Z) β' ω' Z' (dJ args r) { tmps:= #[v],defers:=[] } w'
section
variable {K:Ctx} {β:Key→Option Nat} {ω:Nat→Option bX} {Z:Nat→Prop} {s:St} {a:Act} {w:World} {cfg:aP}
theorem aol (h:Rel K β ω Z s a w) {c c':C} {u:Value} {s':St} (bu:ax K β Z s a w c u) (hno:bQ c) (he:(qa cfg c).exec s=some (c',s')):
  ∃ω' Z',Rel K β ω' Z' s' a w∧Calm K β a ω Z s w ω' Z' s' w∧ax K β Z' s' a w c' u∧bQ c':=by
 unfold qa at he
 split at he
 ·split at he
  ·obtain⟨rfl,rfl⟩:=aE he;exact⟨ω,Z,h,Calm.refl,bu,hno⟩
  ·obtain⟨x,s1,h1,ak⟩:=av he
   obtain⟨hx,hs⟩:=aE ak
   rw[hx,hs]
   obtain⟨ω',Z',r1,k1,d1⟩:=acL h bu h1
   exact⟨ω',Z',r1,k1,d1,by simp[bQ]⟩
 ·obtain⟨rfl,rfl⟩:=aE he;exact⟨ω,Z,h,Calm.refl,bu,hno⟩
theorem axI:∀(cs:List C) (us:List Value) (ω:Nat→Option bX) (Z:Nat→Prop) (s s':St) (cs':List C),Rel K β ω Z s a w→au (fun u c=>ax K β Z s a w c u) us cs→(∀c∈cs,bQ c)→
  (sE cfg cs).exec s=some (cs',s')→∃ω' Z',Rel K β ω' Z' s' a w∧Calm K β a ω Z s w ω' Z' s' w∧au (fun u c=>ax K β Z' s' a w c u) us cs'∧(∀c∈cs',bQ c):=by
 intro cs
 induction cs with
 |nil=>
  intro us ω Z s s' cs' h hall hno he
  obtain⟨hx,hs⟩:=aE he
  subst hx;subst hs
  cases us with
  |nil=>exact⟨ω,Z,h,Calm.refl,trivial,by simp⟩
  |cons u us=>exact hall.elim
 |cons c cs ih=>
  intro us ω Z s s' cs' h hall hno he
  cases us with
  |nil=>exact hall.elim
  |cons u us=>
   simp only[sE]at he
   obtain⟨c1,s1,h1,dZ⟩:=av he
   obtain⟨ey,s2,h2,ak⟩:=av dZ
   obtain⟨hx,hs⟩:=aE ak
   subst hx;subst hs
   obtain⟨ct,Z1,r1,k1,p1,q1⟩:=aol h hall.1 (hno c (List.mem_cons_self ..)) h1
   have iw:∀x∈cs,bQ x:=fun x hx=>hno x (List.mem_cons_of_mem _ hx)
   obtain⟨fq,Z2,r2,k2,p2,q2⟩:=ih us ct Z1 s1 _ ey r1 (hall.2.gV fun u c hc hr=>k1.iq h.dH (fun e xs _ hx _=>absurd hx (iw c hc e xs)) hr) iw h2
   refine⟨fq,Z2,r2,k1.trans k2,⟨k2.iq r1.dH (fun e xs _ hx _=>absurd hx (q1 e xs)) p1,p2⟩,fun x hx=>?_⟩
   rcases List.mem_cons.1 hx with rfl|hx
   ·exact q1
   ·exact q2 x hx
def kC (K:Ctx) (β:Key→Option Nat) (Z:Nat→Prop) (s:St) (a:Act) (w:World) (u:Value) (v:SV):Prop:=aY (ax K β Z s a w) u v∧(∀c∈v.cells,bQ c)∧v≠ .undef
theorem kC.lift {ω':Nat→Option bX} {Z':Nat→Prop} {s':St} {w':World} (hr:Rel K β ω Z s a w) (k:Calm K β a ω Z s w ω' Z' s' w') {u:Value} {v:SV} (h:kC K β Z s a w u v):kC K β Z' s' a w' u v:=
 ⟨aY.mono (fun c _ hc bu=>k.iq hr.dH (fun e xs _ hx _=>absurd hx (h.2.1 c hc e xs)) bu) h.1,h.2⟩
theorem axJ (h:Rel K β ω Z s a w) {v v':SV} {u:Value} {s':St} (hv:kC K β Z s a w u v) (he:(mj cfg v).exec s=some (v',s')):
  ∃ω' Z',Rel K β ω' Z' s' a w∧Calm K β a ω Z s w ω' Z' s' w∧kC K β Z' s' a w u v':=by
 cases v with
 |one c=>
  simp only[mj]at he
  obtain⟨c1,s1,h1,ak⟩:=av he
  obtain⟨hx,hs⟩:=aE ak
  subst hx;subst hs
  obtain⟨ct,Z1,r1,k1,p1,q1⟩:=aol h hv.1.2 (hv.2.1 c (by simp[SV.cells])) h1
  exact⟨ct,Z1,r1,k1,⟨hv.1.1,p1⟩,by simpa[SV.cells]using q1,by simp⟩
 |agg cs=>
  simp only[mj]at he
  obtain⟨c1,s1,h1,ak⟩:=av he
  obtain⟨hx,hs⟩:=aE ak
  subst hx;subst hs
  obtain⟨ws,hu,hall⟩:=hv.1
  obtain⟨ct,Z1,r1,k1,p1,q1⟩:=axI cs ws.toList ω Z s _ _ h hall (fun c hc=>hv.2.1 c hc) h1
  exact⟨ct,Z1,r1,k1,⟨ws,hu,p1⟩,q1,by simp⟩
 |aJ x=>simp[mj,Prog.exec]at he
 |undef=>simp[mj,Prog.exec]at he
theorem axK:∀(vs:List SV) (us:List Value) (ω:Nat→Option bX) (Z:Nat→Prop) (s s':St) (vs':List SV),Rel K β ω Z s a w→au (kC K β Z s a w) us vs→
  (vA cfg vs).exec s=some (vs',s')→∃ω' Z',Rel K β ω' Z' s' a w∧Calm K β a ω Z s w ω' Z' s' w∧au (kC K β Z' s' a w) us vs':=by
 intro vs
 induction vs with
 |nil=>
  intro us ω Z s s' vs' h hall he
  obtain⟨hx,hs⟩:=aE he
  subst hx;subst hs
  cases us with
  |nil=>exact⟨ω,Z,h,Calm.refl,trivial⟩
  |cons u us=>exact hall.elim
 |cons v vs ih=>
  intro us ω Z s s' vs' h hall he
  cases us with
  |nil=>exact hall.elim
  |cons u us=>
   simp only[vA]at he
   obtain⟨v1,s1,h1,dZ⟩:=av he
   obtain⟨iE,s2,h2,ak⟩:=av dZ
   obtain⟨hx,hs⟩:=aE ak
   subst hx;subst hs
   obtain⟨ct,Z1,r1,k1,p1⟩:=axJ h hall.1 h1
   obtain⟨fq,Z2,r2,k2,p2⟩:=ih us ct Z1 s1 _ iE r1 (au.mono (fun _ _ hr=>kC.lift h k1 hr) hall.2) h2
   exact⟨fq,Z2,r2,k1.trans k2,kC.lift r1 k2 p1,p2⟩
def eC (ks:List Key) (β:Key→Option Nat):Key→Option Nat
 | .inb i=>if i<ks.length then β (ks.getD i default)else none
 |_=>none
def eD (ks:List Key) (ω:Nat→Option bX) (b:Nat):Option bX:=
 match ω b with
 |some (.box k,j)=>if k∈ks then some (.box (.inb (idx k ks)),j)else none
 |_=>none
theorem ade:∀{ks:List Key} {k:Key},k∈ks→idx k ks<ks.length∧ks[idx k ks]? =some k
 |k' :: ks,k,h=>by
  simp only[idx]
  split
  ·rename_i e;subst e;simp
  ·rename_i e
   have:k∈ks:=by
    rcases List.mem_cons.1 h with h|h
    ·exact absurd h e
    ·exact h
   obtain⟨h1,h2⟩:=ade this
   exact⟨by simp;omega,by simpa using h2⟩
theorem nM {ks:List Key} {k:Key} (h:k∈ks) (β:Key→Option Nat):eC ks β (.inb (idx k ks))=β k:=by
 obtain⟨h1,h2⟩:=ade h
 simp only[eC,h1,if_true,List.getD_eq_getElem?_getD,h2,Option.getD_some]
theorem nN:∀{ks:List Key} (_:ks.Nodup) {i:Nat} {k:Key},ks[i]? =some k→idx k ks=i
 | [],_,_,_,h=>by simp at h
 |k' :: ks,hn,0,k,h=>by
  simp only[List.getElem?_cons_zero,Option.some.injEq]at h
  subst h
  simp[idx]
 |k' :: ks,hn,i+1,k,h=>by
  simp only[List.getElem?_cons_succ]at h
  have hne:k≠k':=by
   rintro rfl
   exact(List.nodup_cons.1 hn).1 (List.mem_of_getElem? h)
  simp only[idx,if_neg hne,nN (List.nodup_cons.1 hn).2 h]
theorem vR:∀(l:List Key),(dedup l).Nodup
 | []=>List.nodup_nil
 |k :: r=>by
  simp only[dedup]
  exact List.nodup_cons.2 ⟨by simp,(vR r).filter _⟩
theorem aom:∀{l:List Key} {k:Key},k∈l→k∈dedup l
 |k' :: r,k,h=>by
  simp only[dedup,List.mem_cons,List.mem_filter,decide_eq_true_eq]
  by_cases e:k=k'
  ·exact .inl e
  ·exact .inr ⟨aom (by simpa[e]using h),e⟩
theorem aon:∀{cs:List C} {c:C} {k:Key},c∈cs→k∈eO [c]→k∈eO cs
 |c' :: cs,c,k,hc,hk=>by
  rcases List.mem_cons.1 hc with rfl|hc
  ·cases c<;>simp_all [eO]
  ·have:=aon hc hk
   cases c'<;>simp_all [eO]
theorem aoo (h:Rel K β ω Z s a w) {ks:List Key} {c c':C} {u:Value} {s':St} (bu:ax K β Z s a w c u) (hno:bQ c) (hk:∀k∈eO [c],k∈ks) (he:(canon ks c).exec s=some (c',s')):
  s'=s∧(∀(K₀:Ctx) (s₀:St) (a₀:Act),ax K₀ (eC ks β) Z s₀ a₀ w c' u)∧(∀(e:Nat) (xs:List (List D)) (b:Nat),c'= .own e xs→cP u=some b→eD ks ω b=none∧b<w.heap.size):=by
 unfold canon at he
 split at he
 ·obtain⟨hx,hs⟩:=aE he
  subst hx
  exact⟨hs,fun _ _ _=>bu,by simp⟩
 ·rename_i r j hv cv e k xs
  simp only[Prog.exec]at he
  obtain⟨_,s1,h1,ak⟩:=av he
  obtain⟨⟨dj,dX⟩,hs1⟩:=bS h1
  rw[hs1]at ak
  have agn:(s r).at j≠ .dead:=by
   intro hd
   rw[hd]at ak
   simp[Prog.exec]at ak
  obtain⟨ys,u0,b0,f6,f2,f3,f4,f5,_,f8⟩:=acI h bu dj dX agn
  rcases f6 with f6|f6
  ·rw[f6]at ak
   simp only at ak
   obtain⟨_,s2,h2,aH⟩:=av ak
   obtain⟨hnb,hs2⟩:=bS h2
   rw[hs2]at aH
   obtain⟨hx,hs⟩:=aE aH
   subst hx
   refine⟨hs,fun _ _ _=>lE.iff.2 f5,fun e' xs' b1 q1 q2=>?_⟩
   rw[f4]at q2
   cases q2
   by_cases dA:r.isArg=true
   ·cases r with
    |arg i=>
     obtain⟨p1,p2⟩:=h.fT i j e ys u0 b0 (fJ f6 (by simp)) f2 f3
     refine⟨?_,Nat.lt_of_lt_of_le p1 h.base⟩
     have:ω b0=none:=by
      cases cy:ω b0 with
      |none=>rfl
      |some g=>exact absurd ((h.cZ _ _ cy).2.2 p1) p2
     simp[eD,this]
    |tmp t=>simp[ah.isArg]at dA
    |box k=>simp[ah.isArg]at dA
   ·obtain⟨p1,p2⟩:=h.own r j e ys u0 b0 (by simpa using dA) (fJ f6 (by simp)) f2 f3
    refine⟨?_,(h.cZ _ _ p1).2.1⟩
    unfold eD
    rw[p1]
    cases r with
    |box k0=>
     simp only
     rw[if_neg]
     intro hm
     exact hnb k0 hm rfl
    |tmp t=>rfl
    |arg i=>rfl
  ·rw[f6]at ak
   simp only at ak
   obtain⟨hx,hs⟩:=aE ak
   subst hx
   refine⟨hs,fun _ _ _=>f8 Z (fun b hb=>hb) (h.frozen f6 f2 f3),by simp⟩
 ·rename_i k off
  obtain⟨hx,hs⟩:=aE he
  subst hx
  obtain⟨b,g1,g2⟩:=bu
  exact⟨hs,fun _ _ _=>⟨b,by rw[nM (hk k (by simp[eO]))];exact g1,g2⟩,by simp⟩
 ·rename_i f caps
  obtain⟨hx,hs⟩:=aE he
  subst hx
  obtain⟨vs,g1,g2⟩:=bu
  refine⟨hs,fun _ _ _=>⟨vs,g1,?_⟩,by simp⟩
  have key:∀(us:List Value) (caps:List (Key×Nat)),(∀p∈caps,p.1∈ks)→au (fun u (p:Key×Nat)=>∃b,β p.1=some b∧u= .pointer (some ⟨b,p.2,none⟩)) us caps→
    au (fun u (p:Key×Nat)=>∃b,eC ks β p.1=some b∧u= .pointer (some ⟨b,p.2,none⟩)) us (caps.map fun p=>(.inb (idx p.1 ks),p.2)):=by
   intro us
   induction us with
   |nil=>intro caps _ h;cases caps with|nil=>trivial|cons _ _=>exact h.elim
   |cons u us ih=>
    intro caps hm h
    cases caps with
    |nil=>exact h.elim
    |cons p caps=>
     obtain⟨⟨b,q1,q2⟩,q3⟩:=h
     exact⟨⟨b,by rw[nM (hm p (List.mem_cons_self ..))];exact q1,q2⟩,ih caps (fun x hx=>hm x (List.mem_cons_of_mem _ hx)) q3⟩
  exact key _ _ (fun p hp=>hk p.1 (by simp[eO];exact⟨p.2,hp⟩)) g2
 ·simp[Prog.exec]at he
def za (ks:List Key) (β:Key→Option Nat) (ω:Nat→Option bX) (Z:Nat→Prop) (w:World) (u:Value) (v:SV):Prop:=
 (∀(K₀:Ctx) (s₀:St) (a₀:Act),aY (ax K₀ (eC ks β) Z s₀ a₀ w) u v)∧(∀(j e:Nat) (xs:List (List D)) (u1:Value) (b:Nat),v.cells[j]? =some (.own e xs)→(flat u)[j]? =some u1→cP u1=some b→eD ks ω b=none∧b<w.heap.size)∧v≠ .undef
theorem axL:∀(cs:List C) (us:List Value) (s':St) (cs':List C) {ks:List Key},Rel K β ω Z s a w→au (fun u c=>ax K β Z s a w c u) us cs→(∀c∈cs,bQ c)→(∀k∈eO cs,k∈ks)→
  (oK ks cs).exec s=some (cs',s')→s'=s∧(∀(K₀:Ctx) (s₀:St) (a₀:Act),au (fun u c=>ax K₀ (eC ks β) Z s₀ a₀ w c u) us cs')∧
    (∀(j e:Nat) (xs:List (List D)) (u1:Value) (b:Nat),cs'[j]? =some (.own e xs)→us[j]? =some u1→cP u1=some b→eD ks ω b=none∧b<w.heap.size):=by
 intro cs
 induction cs with
 |nil=>
  intro us s' cs' ks h hall hno hk he
  obtain⟨hx,hs⟩:=aE he
  subst hx
  cases us with
  |nil=>exact⟨hs,fun _ _ _=>trivial,by simp⟩
  |cons u us=>exact hall.elim
 |cons c cs ih=>
  intro us s' cs' ks h hall hno hk he
  cases us with
  |nil=>exact hall.elim
  |cons u us=>
   simp only[oK]at he
   obtain⟨c1,s1,h1,dZ⟩:=av he
   obtain⟨hs1,p1,p2⟩:=aoo h hall.1 (hno c (List.mem_cons_self ..)) (fun k hk'=>hk k (aon (List.mem_cons_self ..) hk')) h1
   rw[hs1]at dZ
   obtain⟨ey,s2,h2,ak⟩:=av dZ
   obtain⟨hx,hs⟩:=aE ak
   obtain⟨hs2,q1,q2⟩:=ih us s2 ey h hall.2 (fun x hx=>hno x (List.mem_cons_of_mem _ hx)) (fun k hk'=>hk k (by cases c<;>simp_all [eO])) h2
   subst hx
   refine⟨by rw[hs,hs2],fun K₀ s₀ a₀=>⟨p1 K₀ s₀ a₀,q1 K₀ s₀ a₀⟩,fun j e xs u1 b1 hc hu aM=>?_⟩
   cases j with
   |zero=>
    simp only[List.getElem?_cons_zero,Option.some.injEq]at hc hu
    subst hu
    exact p2 e xs b1 hc aM
   |succ j=>exact q2 j e xs u1 b1 (by simpa using hc) (by simpa using hu) aM
theorem aop (l m:List C):eO (l++m)=eO l++eO m:=by
 induction l with
 |nil=>rfl
 |cons c l ih=>cases c<;>simp[eO,ih]
theorem axM:∀(vs:List SV) (us:List Value) (s':St) (vs':List SV) {ks:List Key},Rel K β ω Z s a w→au (kC K β Z s a w) us vs→(∀k∈eO (vs.flatMap SV.cells),k∈ks)→
  (qb ks vs).exec s=some (vs',s')→s'=s∧au (za ks β ω Z w) us vs':=by
 intro vs
 induction vs with
 |nil=>
  intro us s' vs' ks h hall hk he
  obtain⟨hx,hs⟩:=aE he
  subst hx
  cases us with
  |nil=>exact⟨hs,trivial⟩
  |cons u us=>exact hall.elim
 |cons v vs ih=>
  intro us s' vs' ks h hall hk he
  cases us with
  |nil=>exact hall.elim
  |cons u us=>
   simp only[qb]at he
   obtain⟨v1,s1,h1,dZ⟩:=av he
   have hkv:∀k∈eO v.cells,k∈ks:=fun k hk'=>hk k (by simp only[List.flatMap_cons,aop];exact List.mem_append_left _ hk')
   have hone:s1=s∧za ks β ω Z w u v1:=by
    cases v with
    |one c=>
     simp only[ke]at h1
     obtain⟨c1,s3,h3,aH⟩:=av h1
     obtain⟨hx,hs⟩:=aE aH
     subst hx
     obtain⟨hs1,p1,p2⟩:=aoo h hall.1.1.2 (hall.1.2.1 c (by simp[SV.cells])) (fun k hk'=>hkv k (by simpa[SV.cells]using hk')) h3
     refine⟨by rw[hs,hs1],fun K₀ s₀ a₀=>⟨hall.1.1.1,p1 K₀ s₀ a₀⟩,fun j e xs u1 b1 hc hu aM=>?_,by simp⟩
     rw[vF hall.1.1.1]at hu
     cases j with
     |zero=>
      simp only[SV.cells,List.getElem?_cons_zero,Option.some.injEq]at hc hu
      subst hu
      exact p2 e xs b1 hc aM
     |succ j=>simp[SV.cells]at hc
    |agg cs=>
     simp only[ke]at h1
     obtain⟨c1,s3,h3,aH⟩:=av h1
     obtain⟨hx,hs⟩:=aE aH
     subst hx
     obtain⟨ws,hu,hcs⟩:=hall.1.1
     obtain⟨hs1,p1,p2⟩:=axL cs ws.toList s3 c1 h hcs (fun c hc=>hall.1.2.1 c hc) hkv h3
     refine⟨by rw[hs,hs1],fun K₀ s₀ a₀=>⟨ws,hu,p1 K₀ s₀ a₀⟩,fun j e xs u1 b1 hc hq aM=>?_,by simp⟩
     rw[hu]at hq
     exact p2 j e xs u1 b1 hc hq aM
    |aJ x=>simp[ke,Prog.exec]at h1
    |undef=>simp[ke,Prog.exec]at h1
   rw[hone.1]at dZ
   obtain⟨iE,s2,h2,ak⟩:=av dZ
   obtain⟨hx,hs⟩:=aE ak
   subst hx
   obtain⟨hs2,q⟩:=ih us s2 iE h hall.2 (fun k hk'=>hk k (by simp only[List.flatMap_cons,aop];exact List.mem_append_right _ hk')) h2
   exact⟨by rw[hs,hs2],hone.2,q⟩
theorem aoq {kk:List Key}:∀(ks:List Key) (s':St) (bs:List (List C)),(sF kk ks).exec s=some (bs,s')→s'=s∧bs.length=ks.length∧∀(i:Nat) (k:Key),ks[i]? =some k→∃cs,bs[i]? =some (cs.map (tc kk))∧(s (.box k)).v= .agg cs∧cs.all (tok kk)=true:=by
 intro ks
 induction ks with
 |nil=>
  intro s' bs he
  obtain⟨hx,hs⟩:=aE he
  subst hx
  exact⟨hs,rfl,by simp⟩
 |cons k ks ih=>
  intro s' bs he
  simp only[sF,Prog.exec]at he
  split at he
  ·rename_i cs hcs
   obtain⟨_,s1,h1,ak⟩:=av he
   obtain⟨hp,hs1⟩:=bS h1
   rw[hs1]at ak
   obtain⟨r,s2,h2,aH⟩:=av ak
   obtain⟨hx,hs⟩:=aE aH
   subst hx
   obtain⟨q1,q2,q3⟩:=ih s2 r h2
   refine⟨by rw[hs,q1],by simp[q2],fun i k' hi=>?_⟩
   cases i with
   |zero=>simp only[List.getElem?_cons_zero,Option.some.injEq]at hi;subst hi;exact⟨cs,rfl,hcs,hp⟩
   |succ i=>obtain⟨cs',g1,g2⟩:=q3 i k' (by simpa using hi);exact⟨cs',by simpa using g1,g2⟩
  ·simp[Prog.exec]at he
theorem axN:∀(ks:List Key) (s':St) (l:List Key),(vB ks).exec s=some (l,s')→s'=s:=by
 intro ks
 induction ks with
 |nil=>intro s' l he;exact(aE he).2
 |cons k ks ih=>
  intro s' l he
  simp only[vB,Prog.exec]at he
  split at he
  ·obtain⟨r,s2,h2,aH⟩:=av he
   rw[(aE aH).2,ih s2 r h2]
  ·simp[Prog.exec]at he
theorem ag0 {ks:List Key} {cs:List C} (h:cs.all (tok ks)=true) {c:C} (hc:c∈cs):tok ks c=true:=List.all_eq_true.1 h c hc
theorem aor {K':Ctx} {ks:List Key} {s':St} {a':Act} {c:C} {u:Value} (hp:tok ks c=true) (h:ax K β Z s a w c u):ax K' (eC ks β) Z s' a' w (tc ks c) u:=by
 cases c with
 |d x=>exact h
 |own e xs=>exact h
 |ptr k off=>
  obtain⟨b,g1,g2⟩:=h
  exact⟨b,by rw[nM (by simpa[tok]using hp)];exact g1,g2⟩
 |dead=>trivial
 |_=>cases hp
theorem aos {ks:List Key} {c:C} {e:Nat} {xs:List (List D)} (h:tc ks c= .own e xs):c= .own e xs:=by
 cases c<;>first|exact h|cases h
theorem au.adf {α β γ:Type} {R:α→β→Prop} {S:α→γ→Prop} {f:β→γ}:∀{us:List α} {cs:List β},au R us cs→(∀u c,c∈cs→R u c→S u (f c))→au S us (cs.map f)
 | [],[],_,_=>trivial
 |_ :: _,_ :: _,h,g=>⟨g _ _ (List.mem_cons_self ..) h.1,au.adf h.2 fun u c hc=>g u c (List.mem_cons_of_mem _ hc)⟩
theorem aot {ks:List Key} {c:C} (h:tok ks c=true):eG ks.length (tc ks c)=true:=by
 cases c with
 |d x=>rfl
 |own e xs=>rfl
 |ptr k off=>exact decide_eq_true (ade (by simpa[tok]using h)).1
 |dead=>rfl
 |_=>cases h
theorem axO {K':Ctx} {n:Nat} {s':St} {a':Act} {c:C} {u:Value} (hp:eG n c=true) (h:ax K β Z s a w c u):ax K' β Z s' a' w c u:=by
 cases c with
 |d x=>exact h
 |own e xs=>exact h
 |ptr k off=>exact h
 |dead=>trivial
 |_=>cases hp
theorem aou {n:Nat} {cs:List C} (h:cs.all (eG n)=true) {c:C} (hc:c∈cs):eG n c=true:=List.all_eq_true.1 h c hc
theorem aHL {K':Ctx} {β':Key→Option Nat} {s':St} {a':Act} {c:C} {u:Value} (hp:plain c=true) (h:ax K β Z s a w c u):ax K' β' Z s' a' w c u:=by
 cases c<;>simp[plain]at hp<;>exact h
theorem aHM {cs:List C} (h:cs.all plain=true) {c:C} (hc:c∈cs):plain c=true:=List.all_eq_true.1 h c hc
theorem aov {ks:List Key} {β:Key→Option Nat} {k:Key} {b:Nat} (h:eC ks β k=some b):∃i k',k= .inb i∧ks[i]? =some k'∧β k'=some b:=by
 unfold eC at h
 split at h
 ·rename_i i
  split at h
  ·rename_i hi
   refine⟨i,ks.getD i default,rfl,?_,h⟩
   rw[List.getD_eq_getElem?_getD,List.getElem?_eq_getElem hi]
   rfl
  ·cases h
 ·cases h
theorem axP (h:Rel K β ω Z s a w) {ks:List Key} (hnd:ks.Nodup) {us:List Value} {c9:List SV} {bs:List (List C)} (hcan:au (za ks β ω Z w) us c9) (th:bs.length=ks.length)
  (hb:∀(i:Nat) (k:Key),ks[i]? =some k→∃cs,bs[i]? =some (cs.map (tc ks))∧(s (.box k)).v= .agg cs∧cs.all (tok ks)=true):
  Rel (cR K.P 0 w us.toArray (eC ks β) (eD ks ω) Z) (eC ks β) (eD ks ω) Z (dI c9 bs) { tmps:= #[],defers:=[] } w:=by
 have eP:∀i,us.toArray.getD i undef=us.getD i undef:=fun i=>by simp[Array.getD_eq_getD_getElem?,List.getD_eq_getElem?_getD]
 have aow:∀i (v:SV),c9.getD i .undef=v→v≠ .undef→za ks β ω Z w (us.getD i undef) v:=by
  intro i v hv hne
  rw[List.getD_eq_getElem?_getD]at hv
  cases hc:c9[i]? with
  |none=>rw[hc]at hv;exact absurd hv.symm hne
  |some v'=>
   rw[hc]at hv
   simp only[Option.getD_some]at hv
   subst hv
   obtain⟨u,g1,g2⟩:=hcan.get hc
   rw[List.getD_eq_getElem?_getD,g1]
   exact g2
 have fD:∀(k:Key) (cs':List C),(dI c9 bs (.box k)).v= .agg cs'→∃i k' cs,k= .inb i∧ks[i]? =some k'∧(s (.box k')).v= .agg cs∧cs'=cs.map (tc ks)∧cs.all (tok ks)=true:=by
  intro k cs hk
  cases k with
  |inb i=>
   simp only[dI]at hk
   cases kD:bs[i]? with
   |none=>rw[kD]at hk;cases hk
   |some cs'=>
    rw[kD]at hk
    cases hk
    have hi:i<ks.length:=by rw[←th];exact(List.getElem?_eq_some_iff.1 kD).1
    obtain⟨cs2,g1,g2,g3⟩:=hb i _ (List.getElem?_eq_getElem hi)
    rw[kD]at g1
    cases g1
    exact⟨i,_,cs2,rfl,List.getElem?_eq_getElem hi,g2,rfl,g3⟩
  |loc t=>simp[dI]at hk
  |esc t i=>simp[dI]at hk
 have cy:∀(i:Nat) (k':Key) (j:Option Nat) (b:Nat),ks[i]? =some k'→ω b=some (.box k',j)→eD ks ω b=some (.box (.inb i),j):=by
  intro i k' j b hi hb
  have hm:k'∈ks:=List.mem_of_getElem? hi
  simp only[eD,hb,hm,if_true,nN hnd hi]
 refine⟨rfl,⟨rfl,fun g l hg=>?_⟩,rfl,rfl,rfl,Nat.le_refl _,fun _ _ _=>rfl,h.dH,fun _ h=>h,fun b hb=>.inl hb,?_,?_,?_,?_,?_,?_,fun _ _ h=>h⟩
 ·obtain⟨g1,g2,g3,g4⟩:=h.laid g l hg
  refine⟨g1,g2,fun he=>he ?_,g4⟩
  simp only[eD,g3]
 ·intro t;exact trivial
 ·intro i
  show aY _ (us.toArray.getD i undef) (c9.getD i .undef)
  rw[eP]
  by_cases hu:c9.getD i .undef= .undef
  ·rw[hu];trivial
  ·exact(aow i _ rfl hu).1 _ _ _
 ·intro k
  cases hv:(dI c9 bs (.box k)).v with
  |agg cs=>
   obtain⟨i,k',cs0,rfl,hi,g1,rfl,g2⟩:=fD k cs hv
   obtain⟨b,ws,el,lo,hi',f1,f2,f3,f4,f5⟩:=dc.cell h g1
   refine⟨b,ws,el,lo,hi',?_,cy i k' none b hi f2,f3,f4,f5.adf fun u c hc hr=>aor (ag0 g2 hc) hr⟩
   have:=nM (List.mem_of_getElem? hi) β
   rw[nN hnd hi]at this
   rw[this]
   exact f1
  |undef=>
   show eC ks β k=none
   cases iZ:eC ks β k with
   |none=>rfl
   |some b=>
    obtain⟨i,k',rfl,hi,g⟩:=aov iZ
    obtain⟨cs,g1,g2,g3⟩:=hb i k' hi
    simp only[dI,g1]at hv
    cases hv
  |one c=>cases k<;>simp only[dI]at hv<;>(try (split at hv))<;>cases hv
  |aJ c=>cases k<;>simp only[dI]at hv<;>(try (split at hv))<;>cases hv
 ·intro r j e xs u1 b1 hr hc hh aM
  cases r with
  |tmp t=>simp[dI,SV.cells]at hc
  |arg i=>simp[ah.isArg]at hr
  |box k=>
   cases hv:(dI c9 bs (.box k)).v with
   |agg cs=>
    obtain⟨i,k',cs0,rfl,hi,g1,rfl,g2⟩:=fD k cs hv
    rw[hv]at hc
    have hc:(cs0.map (tc ks))[j]? =some (.own e xs):=hc
    have hc0:cs0[j]? =some (.own e xs):=by
     rw[List.getElem?_map]at hc
     cases fU:cs0[j]? with
     |none=>rw[fU]at hc;cases hc
     |some c0=>rw[fU]at hc;simp only[Option.map_some,Option.some.injEq]at hc;rw[aos hc]
    have iZ:eC ks β (.inb i)=β k':=by
     have:=nM (List.mem_of_getElem? hi) β
     rw[nN hnd hi]at this
     exact this
    have nO:bP K β a w (.box k') j=some u1:=by
     simp only[bP,iZ]at hh
     exact hh
    obtain⟨p1,p2⟩:=h.own (.box k') j e xs u1 b1 rfl (by rw[g1];exact hc0) nO aM
    exact⟨cy i k' (some j) _ hi p1,p2⟩
   |undef=>rw[hv]at hc;simp[SV.cells]at hc
   |one c=>cases k<;>simp only[dI]at hv<;>(try (split at hv))<;>cases hv
   |aJ c=>cases k<;>simp only[dI]at hv<;>(try (split at hv))<;>cases hv
 ·intro i j e xs u1 b1 hc hh aM
  have cA:(c9.getD i .undef).cells[j]? =some (.own e xs):=hc
  have hne:c9.getD i .undef≠ .undef:=by intro e;rw[e]at cA;simp[SV.cells]at cA
  have nO:(flat (us.getD i undef))[j]? =some u1:=by rw[←eP];exact hh
  obtain⟨p1,p2⟩:=(aow i _ rfl hne).2.1 j e xs u1 b1 cA nO aM
  exact⟨p2,fun hE=>hE p1⟩
 ·intro b g hb
  have hb':eD ks ω b≠none:=by rw[hb];simp
  have:∃g',ω b=some g':=by
   unfold eD at hb
   cases cy:ω b with
   |none=>rw[cy]at hb;cases hb
   |some g'=>exact⟨g',rfl⟩
  obtain⟨g',hg'⟩:=this
  obtain⟨q1,q2,_⟩:=h.cZ b g' hg'
  exact⟨q1,q2,fun _=>hb'⟩
end
end Go.Vs
namespace Go.Vs
section
variable {K:Ctx} {β:Key→Option Nat} {ω:Nat→Option bX} {Z:Nat→Prop} {s:St} {a:Act} {w:World} {cfg:aP}
theorem axQ {ks:List Key} {c:C} {e:Nat} {xs:List (List D)} (h:bc ks c= .own e xs):c= .own e xs:=by
 cases c with
 |ptr k off=>cases k<;>cases h
 |_=>first|exact h|cases h
theorem aox {ks:List Key} {c:C} (h:plain c=true):bc ks c=c:=by cases c<;>first|rfl|cases h
theorem aoy {ks:List Key} {cs:List C} (h:cs.all plain=true):cs.map (bc ks)=cs:=by
 induction cs with
 |nil=>rfl
 |cons c cs ih=>
  rw[List.all_cons,Bool.and_eq_true]at h
  rw[List.map_cons,aox h.1,ih h.2]
theorem aoz {n:Nat} {cs:List C} (h:cs.all plain=true):cs.all (eG n)=true:=by
 rw[List.all_eq_true]at h ⊢
 intro c hc
 have:=h c hc
 cases c<;>first|rfl|cases this
theorem aoA {v:SV} {l:List C} (h:qc v l=true):∃k off,v= .agg [.ptr k off]∧l=[.ptr k off]:=by
 unfold qc at h
 split at h
 ·simp only[Bool.and_eq_true,decide_eq_true_eq,Nat.beq_eq]at h
  obtain⟨rfl,rfl⟩:=h
  exact⟨_,_,rfl,rfl⟩
 ·cases h
theorem axR {kk:List Key}:∀(ks:List Key) (bs:List (List C)) (s s':St) {y:Unit},ks.Nodup→(nF kk ks bs).exec s=some (y,s')→bs.length=ks.length∧(∀(i:Nat) k cs,ks[i]? =some k→bs[i]? =some cs→(s' (.box k)).v= .agg (cs.map (bc kk))∧((s' (.box k)).hv=(s (.box k)).hv+1∨(s' (.box k)=s (.box k)∧∃q off,cs.map (bc kk)=[.ptr q off]))∧(s' (.box k)).cv=(s (.box k)).cv∧cs.all (eG kk.length)=true)∧
  (∀r,(∀k∈ks,r≠ .box k)→s' r=s r):=by
 intro ks
 induction ks with
 |nil=>
  intro bs s s' y _ he
  cases bs with
  |nil=>obtain⟨_,hs⟩:=aE he;exact⟨rfl,by simp,fun r _=>by rw[hs]⟩
  |cons b bs=>simp[nF,Prog.exec]at he
 |cons k ks ih=>
  intro bs s s' y hnd he
  cases bs with
  |nil=>simp[nF,Prog.exec]at he
  |cons b bs=>
   simp only[nF,Prog.exec]at he
   obtain⟨_,s1,h1,ak⟩:=av he
   obtain⟨hp,hs1⟩:=bS h1
   rw[hs1]at ak
   obtain⟨hk,y3⟩:=List.nodup_cons.1 hnd
   cases hsp:qc (s (.box k)).v (b.map (bc kk))with
   |true=>
    rw[hsp]at ak
    obtain⟨kq,off,hv1,qu⟩:=aoA hsp
    obtain⟨q1,q2,q3⟩:=ih bs s s' y3 ak
    refine⟨by simp[q1],fun i k' cs hi hb=>?_,fun r hr=>q3 r (fun k2 hk2=>hr k2 (List.mem_cons_of_mem _ hk2))⟩
    cases i with
    |zero=>
     simp only[List.getElem?_cons_zero,Option.some.injEq]at hi hb
     subst hi;subst hb
     rw[q3 (.box k) (fun k2 hk2 e=>hk (by cases e;exact hk2))]
     exact⟨by rw[hv1,qu],.inr ⟨rfl,kq,off,qu⟩,rfl,hp⟩
    |succ i=>
     simp only[List.getElem?_cons_succ]at hi hb
     exact q2 i k' cs hi hb
   |false=>
   rw[hsp]at ak
   obtain⟨_,s2,h2,aH⟩:=av ak
   simp only[cY,Prog.exec,Option.some.injEq,Prod.mk.injEq]at h2
   obtain⟨_,hs2⟩:=h2
   obtain⟨q1,q2,q3⟩:=ih bs s2 s' y3 aH
   have zb:∀r,r≠ .box k→s2 r=s r:=fun r hr=>by rw[←hs2,jE _ _ hr]
   refine⟨by simp[q1],fun i k' cs hi hb=>?_,fun r hr=>?_⟩
   ·cases i with
    |zero=>
     simp only[List.getElem?_cons_zero,Option.some.injEq]at hi hb
     subst hi;subst hb
     rw[q3 (.box k) (fun k2 hk2 e=>hk (by cases e;exact hk2)),←hs2,jD]
     exact⟨rfl,.inl rfl,rfl,hp⟩
    |succ i=>
     simp only[List.getElem?_cons_succ]at hi hb
     have:=q2 i k' cs hi hb
     have hne:ah.box k'≠ .box k:=fun e=>hk (by cases e;exact List.mem_of_getElem? hi)
     rw[zb _ hne]at this
     exact this
   ·rw[q3 r (fun k2 hk2=>hr k2 (List.mem_cons_of_mem _ hk2)),zb r (hr k (List.mem_cons_self ..))]
theorem axS (t:Nat):∀(bs:List (List C)) (i0:Nat) (s s':St) {y:Unit},(escape t i0 bs).exec s=some (y,s')→
  (∀(i:Nat) cs,bs[i]? =some cs→(s (.box (.esc t (i0+i)))).v= .undef∧(s' (.box (.esc t (i0+i)))).v= .agg cs∧(s' (.box (.esc t (i0+i)))).hv=(s (.box (.esc t (i0+i)))).hv+1∧(s' (.box (.esc t (i0+i)))).cv=(s (.box (.esc t (i0+i)))).cv∧cs.all plain=true)∧
  (∀r,(∀i,i<bs.length→r≠ .box (.esc t (i0+i)))→s' r=s r):=by
 intro bs
 induction bs with
 |nil=>intro i0 s s' y he;obtain⟨_,hs⟩:=aE he;exact⟨by simp,fun r _=>by rw[hs]⟩
 |cons b bs ih=>
  intro i0 s s' y he
  simp only[escape,Prog.exec]at he
  split at he
  ·rename_i hu
   obtain⟨_,s1,h1,ak⟩:=av he
   obtain⟨hp,hs1⟩:=bS h1
   rw[hs1]at ak
   obtain⟨_,s2,h2,aH⟩:=av ak
   simp only[cY,Prog.exec,Option.some.injEq,Prod.mk.injEq]at h2
   obtain⟨_,hs2⟩:=h2
   obtain⟨q2,q3⟩:=ih (i0+1) s2 s' aH
   have zb:∀r,r≠ .box (.esc t i0)→s2 r=s r:=fun r hr=>by rw[←hs2,jE _ _ hr]
   refine⟨fun i cs hb=>?_,fun r hr=>?_⟩
   ·cases i with
    |zero=>
     simp only[List.getElem?_cons_zero,Option.some.injEq]at hb
     subst hb
     simp only[Nat.add_zero]
     rw[q3 (.box (.esc t i0)) (fun i _ e=>by simp at e;omega),←hs2,jD]
     exact⟨hu,rfl,rfl,rfl,hp⟩
    |succ i=>
     simp only[List.getElem?_cons_succ]at hb
     have:=q2 i cs hb
     rw[show i0+1+i=i0+(i+1) by omega,zb _ (by simp)]at this
     exact this
   ·rw[q3 r (fun i hi=>by have:=hr (i+1) (by simpa using hi);rw[show i0+1+i=i0+(i+1) by omega];exact this),zb r (by have:=hr 0 (by simp);simpa using this)]
  ·simp[Prog.exec]at he
theorem aoB {args:List SV}:∀{l:List (Nat×Nat)},vC args l=true→gU l args=args
 | [],_=>rfl
 |(i,j) :: r,h=>by
  simp only[vC,List.all_cons,Bool.and_eq_true]at h
  obtain⟨h1,h2⟩:=h
  simp only[gU]
  have ac1:args.set i (jJ (args.getD i .undef) j)=args:=by
   have:jJ (args.getD i .undef) j=args.getD i .undef:=by
    unfold jJ
    split at h1
    ·rename_i x hx;rw[hx]
    ·cases h1
   rw[this]
   apply List.ext_getElem?
   intro m
   rw[List.getElem?_set]
   split
   ·rename_i hm
    subst hm
    split
    ·rename_i hl
     rw[List.getD_eq_getElem?_getD,List.getElem?_eq_getElem hl]
     rfl
    ·rename_i hl
     rw[List.getElem?_eq_none (by omega)]
   ·rfl
  rw[ac1]
  exact aoB h2
def tr (ks:List Key) (t:Nat):Option bX→Option bX
 |some (.tmp _,j)=>some (.tmp t,j)
 |some (.box (.inb i),j)=>some (.box (if i<ks.length then ks.getD i default else .esc t (i - ks.length)),j)
 |_=>none
open Classical in
theorem aoC (h:Rel K β ω Z s a w) {ks:List Key} (hnd:ks.Nodup) {us:List Value} {c9:List SV} (hcan:au (za ks β ω Z w) us c9) {r:gS} {v:Value} {β':Key→Option Nat} {ω':Nat→Option bX} {Z':Nat→Prop} {w':World}
  (hR:Rel (cR K.P 1 w us.toArray (eC ks β) (eD ks ω) Z) β' ω' Z' (dJ c9 r) { tmps:= #[v],defers:=[] } w')
  (zc:∀(i:Nat) (k:Key),ks[i]? =some k→∃cs,(s (.box k)).v= .agg cs) (jP:vC c9 r.aB=true) (hlen:ks.length≤r.boxes.length)
  {t:Nat} {s1 s2:St} {y y':Unit} (hp:(nF ks ks (r.boxes.take ks.length)).exec s=some (y,s1)) (axT:(escape t 0 (r.boxes.drop ks.length)).exec s1=some (y',s2)) {v':SV} {s3:St} (fN:(ia ks t r.v).exec s2=some (v',s3)):
  ∃β'' ij,Rel K β'' ij Z' s3 a w'∧fL K β'' ij Z' s3 a w' (.tmp t) v v':=by
 obtain⟨iD,kB,hp2⟩:=axR ks _ s s1 hnd hp
 obtain⟨dZ,ak⟩:=axS t _ 0 s1 s2 axT
 simp only[Nat.zero_add]at dZ ak
 have hKs:∀(i:Nat) k,ks[i]? =some k→∃cs,r.boxes[i]? =some cs∧(s1 (.box k)).v= .agg (cs.map (bc ks))∧((s1 (.box k)).hv=(s (.box k)).hv+1∨(s1 (.box k)=s (.box k)∧∃q off,cs.map (bc ks)=[.ptr q off]))∧(s1 (.box k)).cv=(s (.box k)).cv∧cs.all (eG ks.length)=true:=by
  intro i k hi
  have hil:i<ks.length:=(List.getElem?_eq_some_iff.1 hi).1
  have hb:(r.boxes.take ks.length)[i]? =r.boxes[i]? :=by rw[List.getElem?_take,if_pos hil]
  have kE:r.boxes[i]? =some r.boxes[i]:=List.getElem?_eq_getElem (by omega)
  exact⟨_,kE,kB i k _ hi (by rw[hb];exact kE)⟩
 have aoE:∀k∈ks,∀i,i<(r.boxes.drop ks.length).length→ah.box k≠ .box (.esc t i):=by
  intro k hk i hi e
  cases e
  obtain⟨j,hj⟩:=List.getElem?_of_mem hk
  obtain⟨cs,_,g,_⟩:=hKs j _ hj
  have:=(dZ i _ (List.getElem?_eq_getElem hi)).1
  rw[g]at this
  cases this
 have adh:∀(i:Nat) k,ks[i]? =some k→∃cs,r.boxes[i]? =some cs∧(s2 (.box k)).v= .agg (cs.map (bc ks))∧((s2 (.box k)).hv=(s (.box k)).hv+1∨(s2 (.box k)=s (.box k)∧∃q off,cs.map (bc ks)=[.ptr q off]))∧(s2 (.box k)).cv=(s (.box k)).cv∧cs.all (eG ks.length)=true:=by
  intro i k hi
  obtain⟨cs,g⟩:=hKs i k hi
  rw[←ak (.box k) (aoE k (List.mem_of_getElem? hi))]at g
  exact⟨cs,g⟩
 have zd:∀i,i<(r.boxes.drop ks.length).length→∃cs,r.boxes[ks.length+i]? =some cs∧(s (.box (.esc t i))).v= .undef∧(s2 (.box (.esc t i))).v= .agg cs∧(s2 (.box (.esc t i))).hv=(s (.box (.esc t i))).hv+1∧(s2 (.box (.esc t i))).cv=(s (.box (.esc t i))).cv∧cs.all plain=true:=by
  intro i hi
  obtain⟨g1,g2,g3,g4,g5⟩:=dZ i _ (List.getElem?_eq_getElem hi)
  have hs1:s1 (.box (.esc t i))=s (.box (.esc t i)):=hp2 _ fun k hk=>(aoE k hk i hi).symm
  rw[hs1]at g1 g3 g4
  refine⟨_,?_,g1,g2,g3,g4,g5⟩
  rw[←List.getElem?_drop,List.getElem?_eq_getElem hi]
 have aoF:∀q,(∀k∈ks,q≠ .box k)→(∀i,i<(r.boxes.drop ks.length).length→q≠ .box (.esc t i))→s2 q=s q:=fun q h1 h2=>by rw[ak q h2,hp2 q h1]
 have axU:s3=s2:=by
  have aM:∀(c c':C) (x x':St),(back ks t c).exec x=some (c',x')→x'=x:=by
   intro c c' x x' he
   unfold back at he
   split at he
   ·exact(aE he).2
   ·exact(aE he).2
   ·exact(aE he).2
   ·obtain⟨_,x1,h1,ak⟩:=av he
    rw[(aE ak).2,(bS h1).2]
   ·simp[Prog.exec]at he
  have cz:∀(cs cs':List C) (x x':St),(nG ks t cs).exec x=some (cs',x')→x'=x:=by
   intro cs
   induction cs with
   |nil=>intro cs' x x' he;exact(aE he).2
   |cons c cs ih=>
    intro cs' x x' he
    simp only[nG]at he
    obtain⟨c1,x1,h1,dZ⟩:=av he
    obtain⟨ey,x2,h2,ak⟩:=av dZ
    rw[(aE ak).2,ih _ _ _ h2,aM _ _ _ _ h1]
  have hb3:∀(vs vs':List (Bool×List C)) (x x':St),(oL ks t vs).exec x=some (vs',x')→x'=x:=by
   intro vs
   induction vs with
   |nil=>intro cs' x x' he;exact(aE he).2
   |cons c cs ih=>
    intro cs' x x' he
    obtain⟨b,c⟩:=c
    simp only[oL]at he
    obtain⟨c1,x1,h1,dZ⟩:=av he
    obtain⟨ey,x2,h2,ak⟩:=av dZ
    rw[(aE ak).2,ih _ _ _ h2,cz _ _ _ _ h1]
  cases lI:r.v with
  |one c=>rw[lI]at fN;simp only[ia]at fN;obtain⟨c1,x1,h1,he⟩:=av fN;rw[(aE he).2,aM _ _ _ _ h1]
  |agg c=>rw[lI]at fN;simp only[ia]at fN;obtain⟨c1,x1,h1,he⟩:=av fN;rw[(aE he).2,cz _ _ _ _ h1]
  |aJ c=>rw[lI]at fN;simp only[ia]at fN;obtain⟨c1,x1,h1,he⟩:=av fN;rw[(aE he).2,hb3 _ _ _ _ h1]
  |undef=>rw[lI]at fN;simp[ia,Prog.exec]at fN
 rw[axU]at fN ⊢
 let dom:Nat→Prop:=fun b=>w.heap.size≤b∨eD ks ω b≠none
 have vS:∀b,¬dom b→w'.heap[b]? =w.heap[b]? :=fun b hb=>hR.frame b (by simp only[dom,not_or]at hb;show b<w.heap.size;omega) (by simp only[dom,not_or]at hb;exact hb.2)
 have ag1:∀b g,ω' b=some g→dom b:=by
  intro b g hb
  by_cases hlt:b<w.heap.size
  ·exact .inr ((hR.cZ b g hb).2.2 hlt)
  ·exact .inl (by omega)
 have hfz:∀b,Z' b→Z b∨dom b:=by
  intro b hb
  rcases hR.kg b hb with g|g|g|⟨i,j,e,ys,u0,g1,g2,g3,g3l⟩
  ·exact .inl g
  ·exact .inr (.inl g)
  ·exact .inr (.inr g)
  ·left
   have mM:(c9.getD i .undef).cells[j]? =some (.d (.sl e ys)):=by
    have:(dJ c9 r (.arg i)).v=(gU r.aB c9).getD i .undef:=rfl
    rw[this,aoB jP]at g1
    exact g1
   rw[List.getD_eq_getElem?_getD]at mM
   cases hci:c9[i]? with
   |none=>rw[hci]at mM;simp[SV.cells]at mM
   |some cv=>
    rw[hci]at mM
    obtain⟨u,q1,q2⟩:=hcan.get hci
    obtain⟨x,q3,q4⟩:=(q2.1 K s a).cell mM
    have hu:(cR K.P 1 w us.toArray (eC ks β) (eD ks ω) Z).argv.getD i undef=u:=by
     show us.toArray.getD i undef=u
     simp[Array.getD_eq_getD_getElem?,q1]
    rw[hu,q3]at g2
    cases g2
    exact bL.live q4 g3 g3l
 have ze:∀b g,ω b=some g→(∀k j,g=(.box k,j)→k ∉ ks)→¬dom b:=by
  intro b g hb hg
  have hlt:=(h.cZ b g hb).2.1
  simp only[dom,not_or]
  refine⟨by omega,?_⟩
  simp only[ne_eq,Decidable.not_not]
  unfold eD
  rw[hb]
  obtain⟨q,j⟩:=g
  cases q with
  |box k=>simp only;rw[if_neg (hg k j rfl)]
  |tmp t=>rfl
  |arg i=>rfl
 have axX:∀b,Z b→¬dom b:=by
  intro b hb
  have hlt:=h.dH b hb
  simp only[dom,not_or]
  refine⟨by omega,?_⟩
  have:ω b=none:=by
   cases cy:ω b with
   |none=>rfl
   |some g=>exact absurd hb (h.cZ b g cy).1
  simp[eD,this]
 have aoG:∀b,b<K.base→¬K.E0 b→¬dom b:=by
  intro b hb hE
  simp only[dom,not_or]
  refine⟨by have:=h.base;omega,?_⟩
  have:ω b=none:=by
   cases cy:ω b with
   |none=>rfl
   |some g=>exact absurd ((h.cZ b g cy).2.2 hb) hE
  simp[eD,this]
 let β'':Key→Option Nat:=fun k=>match k with
  | .esc t' i=>if t'=t∧i<(r.boxes.drop ks.length).length then β' (.inb (ks.length+i))else β k
  |k=>β k
 have ag3:∀i,i<(r.boxes.drop ks.length).length→β'' (.esc t i)=β' (.inb (ks.length+i)):=fun i hi=>by simp only[β'',hi,and_self,if_true]
 have ql:∀k,(∀i,i<(r.boxes.drop ks.length).length→k≠ .esc t i)→β'' k=β k:=by
  intro k hk
  cases k with
  |inb i=>rfl
  |loc t=>rfl
  |esc t' i=>
   simp only[β'']
   rw[if_neg]
   rintro ⟨rfl,hi⟩
   exact hk i hi rfl
 have qn:∀k b,β k=some b→β'' k=some b:=by
  intro k b hb
  rw[ql k]
  ·exact hb
  ·rintro i hi rfl
   obtain⟨cs,_,g,_⟩:=zd i hi
   have:=h.boxes (.esc t i)
   rw[g]at this
   simp only[dc]at this
   rw[this]at hb
   cases hb
 have zf:∀(i:Nat) k,ks[i]? =some k→∃b,β k=some b∧β' (.inb i)=some b∧β'' k=some b:=by
  intro i k hi
  obtain⟨cs,hcs⟩:=zc i k hi
  obtain⟨b,ws,el,lo,hi',g1,_⟩:=dc.cell h hcs
  refine⟨b,g1,hR.kj (.inb i) b ?_,qn k b g1⟩
  show eC ks β (.inb i)=some b
  have:=nM (List.mem_of_getElem? hi) β
  rw[nN hnd hi]at this
  rw[this]
  exact g1
 let ij:Nat→Option bX:=fun b=>if dom b then tr ks t (ω' b)else ω b
 have adi:∀b,dom b→ij b=tr ks t (ω' b):=fun b hb=>by simp only[ij];rw[if_pos hb]
 have ag4:∀b,¬dom b→ij b=ω b:=fun b hb=>by simp only[ij];rw[if_neg hb]
 have ko:∀q,eA (s q) (s2 q):=by
  intro q
  by_cases h1:∃k∈ks,q= .box k
  ·obtain⟨k,hk,rfl⟩:=h1
   obtain⟨i,hi⟩:=List.getElem?_of_mem hk
   obtain⟨cs,_,_,g1,g2,_⟩:=adh i k hi
   rcases g1 with g1|g1
   ·exact eA.bump g1 g2
   ·rw[g1.1];exact eA.refl _
  ·by_cases h2:∃i,i<(r.boxes.drop ks.length).length∧q= .box (.esc t i)
   ·obtain⟨i,hi,rfl⟩:=h2
    obtain⟨cs,_,_,_,g1,g2,_⟩:=zd i hi
    exact eA.bump g1 g2
   ·rw[aoF q (fun k hk e=>h1 ⟨k,hk,e⟩) (fun i hi e=>h2 ⟨i,hi,e⟩)]
    exact eA.refl _
 have hsame:∀q,(s2 q).hv=(s q).hv→((∀k∈ks,q≠ .box k)∨∃(i:Nat) (k:Key) (p:Key) (off:Nat) (cs:List C),ks[i]? =some k∧q= .box k∧s2 q=s q∧(s q).v= .agg [.ptr p off]∧r.boxes[i]? =some cs∧cs.map (bc ks)=[.ptr p off]∧cs.all (eG ks.length)=true)∧(∀i,i<(r.boxes.drop ks.length).length→q≠ .box (.esc t i)):=by
  intro q hq
  constructor
  ·by_cases h1:∃k∈ks,q= .box k
   ·obtain⟨k,hk,rfl⟩:=h1
    obtain⟨i,hi⟩:=List.getElem?_of_mem hk
    obtain⟨cs,g0,gv,g1,_,gb⟩:=adh i k hi
    rcases g1 with g1|⟨g1,p,off,g2⟩
    ·omega
    ·exact .inr ⟨i,k,p,off,cs,hi,rfl,g1,by rw[←g1,gv,g2],g0,g2,gb⟩
   ·exact .inl fun k hk e=>h1 ⟨k,hk,e⟩
  ·rintro i hi rfl
   obtain⟨cs,_,_,_,g1,_⟩:=zd i hi
   omega
 have fk:∀q j,(∀k∈ks,q≠ .box k)→(∀i,i<(r.boxes.drop ks.length).length→q≠ .box (.esc t i))→bP K β'' a w' q j=bP K β a w q j:=by
  intro q j h1 h2
  cases q with
  |tmp t'=>rfl
  |arg i=>rfl
  |box k=>
   simp only[bP]
   rw[ql k (fun i hi e=>h2 i hi (by rw[e]))]
   cases hb:β k with
   |none=>rfl
   |some b=>
    simp only[Option.bind_some]
    refine cell_of_heap (vS b ?_) _ _
    have cr:=h.boxes k
    cases hv:(s (.box k)).v with
    |agg cs=>
     obtain⟨b2,ws,el,lo,hi,g1,g2,_⟩:=dc.cell h hv
     rw[hb]at g1
     cases g1
     exact ze b _ g2 fun k' j' e hk'=>h1 k' hk' (by cases e;rfl)
    |undef=>rw[hv]at cr;simp only[dc]at cr;rw[cr]at hb;cases hb
    |one c=>rw[hv]at cr;exact cr.elim
    |aJ x=>rw[hv]at cr;exact cr.elim
 have axY:∀b,¬dom b→Z' b→Z b:=fun b hb hz=>(hfz b hz).resolve_right hb
 have axZ:∀(c:C) (u:Value),eG ks.length c=true→ax (cR K.P 1 w us.toArray (eC ks β) (eD ks ω) Z) β' Z' (dJ c9 r) { tmps:= #[v],defers:=[] } w' c u→ax K β'' Z' s2 a w' (bc ks c) u:=by
  intro c u hb hc
  cases c with
  |d x=>exact hc
  |own e xs=>exact hc
  |ptr k off=>
   cases k with
   |inb m=>
    have hm:m<ks.length:=by simpa[eG]using hb
    obtain⟨b,g1,g2⟩:=hc
    obtain⟨b2,p1,p2,p3⟩:=zf m _ (List.getElem?_eq_getElem hm)
    rw[p2]at g1
    cases g1
    refine⟨b,?_,g2⟩
    rw[List.getD_eq_getElem?_getD,List.getElem?_eq_getElem hm]
    exact p3
   |_=>cases hb
  |dead=>trivial
  |_=>cases hb
 have zg:∀(i:Nat) (cs:List C) (kk:Key),r.boxes[i]? =some cs→cs.all (eG ks.length)=true→β'' kk=β' (.inb i)→(if i<ks.length then ks.getD i default else .esc t (i - ks.length))=kk→
   (dc K β'' ij Z' s2 a w' kk (.agg (cs.map (bc ks))))∧(∀(j e:Nat) (xs:List (List D)) (u1:Value) (b1:Nat),(cs.map (bc ks))[j]? =some (.own e xs)→bP K β'' a w' (.box kk) j=some u1→cP u1=some b1→ij b1=some (.box kk,some j)∧jq w' e u1):=by
  intro i cs kk hi iD vH hkk
  have hex:(dJ c9 r (.box (.inb i))).v= .agg cs:=by simp only[dJ,hi]
  obtain⟨b,ws,el,lo,hi',g1,g2,g3,g4,g5⟩:=dc.cell hR hex
  have hdb:=ag1 b _ g2
  refine⟨⟨b,ws,el,lo,hi',by rw[vH];exact g1,by rw[adi b hdb,g2];simp only[tr,hkk],g3,g4,g5.adf fun u c hc hr=>axZ c u (aou iD hc) hr⟩,?_⟩
  intro j e xs u1 b1 hc hh aM
  have hc:cs[j]? =some (.own e xs):=by
   rw[List.getElem?_map]at hc
   cases fU:cs[j]? with
   |none=>rw[fU]at hc;cases hc
   |some c0=>rw[fU]at hc;simp only[Option.map_some,Option.some.injEq]at hc;rw[axQ hc]
  have nO:bP (cR K.P 1 w us.toArray (eC ks β) (eD ks ω) Z) β' { tmps:= #[v],defers:=[] } w' (.box (.inb i)) j=some u1:=by
   simp only[bP]at hh ⊢
   rw[←vH]
   exact hh
  obtain⟨q1,q2⟩:=hR.own (.box (.inb i)) j e xs u1 b1 rfl (by rw[hex];exact hc) nO aM
  have cG:=ag1 _ _ q1
  exact⟨by rw[adi _ cG,q1];simp only[tr,hkk],q2⟩
 have ax0:∀q j,(s2 q).hv=(s q).hv→(s2 q).at j≠ .dead→bP K β'' a w' q j=bP K β a w q j:=by
  intro q j hq hd
  obtain⟨g1,g2⟩:=hsame q hq
  rcases g1 with g1|⟨i,k,p,off,cs,hi,rfl,e1,e2,e3,e4,e5⟩
  ·exact fk q j g1 g2
  ·have hil:i<ks.length:=(List.getElem?_eq_some_iff.1 hi).1
   obtain⟨b,p1,p2,p3⟩:=zf i k hi
   have hB:=(zg i cs k e3 e5 (by rw[p2,p3]) (by rw[if_pos hil,List.getD_eq_getElem?_getD,hi];rfl)).1
   rw[e4]at hB
   obtain⟨b1,ws1,el1,lo1,hi1,a1,_,a3,_,a5⟩:=hB
   obtain⟨b2,kr,mE,nI,hi2,c1,_,c3,_,c5⟩:=dc.cell h e2
   rw[jM a1 a3,jM c1 c3]
   have hj:j=0:=by
    cases j with
    |zero=>rfl
    |succ j=>exact absurd (by rw[e1];simp only[RV.at,e2,SV.cells];rfl) hd
   subst hj
   obtain⟨u1,x1,y1⟩:=a5.get (j:=0) rfl
   obtain⟨u2,x2,y2⟩:=c5.get (j:=0) rfl
   rw[x1,x2]
   obtain⟨b3,z1,z2⟩:=y1
   obtain⟨b4,z3,z4⟩:=y2
   rw[qn _ _ z3]at z1
   cases z1
   rw[z2,z4]
 have eW:∀(c:C) (u:Value),(∀(e:Nat) (xs:List (List D)) (b1:Nat),c= .own e xs→cP u=some b1→¬dom b1)→ax K β Z s a w c u→ax K β'' Z' s2 a w' c u:=fun c u bu h1=>
  ax.step qn (fun b hb=>⟨vS b (axX b hb),hR.jr b hb⟩) ko ax0 (fun e xs b1 h2 h3=>vS _ (bu e xs b1 h2 h3)) h1
 have gW:∀(q:ah) (j:Nat) (c:C) (u:Value),(∀k∈ks,q≠ .box k)→(s q).v.cells[j]? =some c→bP K β a w q j=some u→ax K β Z s a w c u→ax K β'' Z' s2 a w' c u:=by
  intro q j c u hq hc hu
  refine eW c u fun e xs b1 h1 h2=>?_
  subst h1
  by_cases dA:q.isArg=true
  ·cases q with
   |arg i=>obtain⟨g1,g2⟩:=h.fT i j e xs u b1 hc hu h2;exact aoG _ g1 g2
   |tmp t=>simp[ah.isArg]at dA
   |box k=>simp[ah.isArg]at dA
  ·exact ze _ _ (h.own q j e xs u b1 (by simpa using dA) hc hu h2).1 fun k' j' e' hk'=>hq k' hk' (by cases e';rfl)
 have tj:∀q,(∀k∈ks,q≠ .box k)→(∀i,i<(r.boxes.drop ks.length).length→q≠ .box (.esc t i))→(s2 q).v=(s q).v:=fun q h1 h2=>by rw[aoF q h1 h2]
 have aoH:Rel K β'' ij Z' s2 a w':=by
  refine⟨h.size,h.defers,hR.os.trans h.os,hR.tape.trans h.tape,hR.output.trans h.output,Nat.le_trans h.base hR.base,?_,hR.dH,fun b hb=>hR.jr b (h.jr b hb),?_,?_,?_,?_,?_,?_,?_,fun k b hb=>qn k b (h.kj k b hb)⟩
  ·intro b hb hE
   rw[vS b (aoG b hb hE)]
   exact h.frame b hb hE
  ·intro b hb
   rcases hfz b hb with g|g
   ·rcases h.kg b g with q|q|q|⟨i,j',e',ys',u',q1,q2,q3⟩
    ·exact .inl q
    ·exact .inr (.inl q)
    ·exact .inr (.inr (.inl q))
    ·exact .inr (.inr (.inr ⟨i,j',e',ys',u',by rw[tj _ (by simp) (by simp)];exact q1,q2,q3⟩))
   ·rcases g with g|g
    ·exact .inr (.inl (Nat.le_trans h.base g))
    ·by_cases cz:b<K.base
     ·right;right;left
      cases cy:ω b with
      |none=>simp[eD,cy]at g
      |some g'=>exact(h.cZ b g' cy).2.2 cz
     ·exact .inr (.inl (by omega))
  ·intro t'
   rw[tj _ (by simp) (by simp)]
   exact aY.lD (fun j c u hc hu=>gW (.tmp t') j c u (by simp) hc hu) (h.tmps t')
  ·intro i
   rw[tj _ (by simp) (by simp)]
   exact aY.lD (fun j c u hc hu=>gW (.arg i) j c u (by simp) hc hu) (h.args i)
  ·intro k
   by_cases h1:k∈ks
   ·obtain⟨i,hi⟩:=List.getElem?_of_mem h1
    obtain⟨cs,g1,g2,_,_,g3⟩:=adh i k hi
    obtain⟨b,p1,p2,p3⟩:=zf i k hi
    rw[g2]
    refine(zg i cs k g1 g3 (by rw[p2,p3]) ?_).1
    have hil:i<ks.length:=(List.getElem?_eq_some_iff.1 hi).1
    rw[if_pos hil,List.getD_eq_getElem?_getD,hi]
    rfl
   ·by_cases h2:∃i,i<(r.boxes.drop ks.length).length∧k= .esc t i
    ·obtain⟨i,hi,rfl⟩:=h2
     obtain⟨cs,g1,_,g2,_,_,g3⟩:=zd i hi
     rw[g2]
     have hh:=(zg (ks.length+i) cs (.esc t i) g1 (aoz g3) (ag3 i hi) (by rw[if_neg (by omega),Nat.add_sub_cancel_left])).1
     rw[aoy g3]at hh
     exact hh
    ·have mH:∀k'∈ks,ah.box k≠ .box k':=fun k' hk' e=>h1 (by cases e;exact hk')
     have hn2:∀i,i<(r.boxes.drop ks.length).length→ah.box k≠ .box (.esc t i):=fun i hi e=>h2 ⟨i,hi,by cases e;rfl⟩
     rw[tj _ mH hn2]
     have cr:=h.boxes k
     cases hv:(s (.box k)).v with
     |agg cs=>
      obtain⟨b,ws,el,lo,hi,g1,g2,g3,g4,g5⟩:=dc.cell h hv
      have hdb:¬dom b:=ze b _ g2 fun k' j' e hk'=>h1 (by cases e;exact hk')
      refine⟨b,ws,el,lo,hi,qn k b g1,by rw[ag4 b hdb];exact g2,by rw[vS b hdb];exact g3,g4,au.cW g5.length fun j u c hu hc=>?_⟩
      obtain⟨u',q1,q2⟩:=g5.get hc
      rw[hu]at q1
      cases q1
      exact gW (.box k) j c u mH (by rw[hv];exact hc) (by rw[jM g1 g3];exact hu) q2
     |undef=>
      rw[hv]at cr
      show β'' k=none
      rw[ql k (fun i hi e=>h2 ⟨i,hi,e⟩)]
      exact cr
     |one c=>rw[hv]at cr;exact cr.elim
     |aJ x=>rw[hv]at cr;exact cr.elim
  ·intro q j e xs u1 b1 hq hc hh aM
   by_cases h1:∃k∈ks,q= .box k
   ·obtain⟨k,hk,rfl⟩:=h1
    obtain⟨i,hi⟩:=List.getElem?_of_mem hk
    obtain⟨cs,g1,g2,_,_,g3⟩:=adh i k hi
    obtain⟨b,p1,p2,p3⟩:=zf i k hi
    rw[g2]at hc
    refine(zg i cs k g1 g3 (by rw[p2,p3]) ?_).2 j e xs u1 b1 hc hh aM
    have hil:i<ks.length:=(List.getElem?_eq_some_iff.1 hi).1
    rw[if_pos hil,List.getD_eq_getElem?_getD,hi]
    rfl
   ·by_cases h2:∃i,i<(r.boxes.drop ks.length).length∧q= .box (.esc t i)
    ·obtain⟨i,hi,rfl⟩:=h2
     obtain⟨cs,g1,_,g2,_,_,g3⟩:=zd i hi
     rw[g2]at hc
     exact(zg (ks.length+i) cs (.esc t i) g1 (aoz g3) (ag3 i hi) (by rw[if_neg (by omega),Nat.add_sub_cancel_left])).2 j e xs u1 b1 (by rw[aoy g3];exact hc) hh aM
    ·have mH:∀k'∈ks,q≠ .box k':=fun k' hk' e=>h1 ⟨k',hk',e⟩
     have hn2:∀i,i<(r.boxes.drop ks.length).length→q≠ .box (.esc t i):=fun i hi e=>h2 ⟨i,hi,e⟩
     rw[tj _ mH hn2]at hc
     rw[fk q j mH hn2]at hh
     obtain⟨g1,g2⟩:=h.own q j e xs u1 b1 hq hc hh aM
     have hdb:¬dom b1:=ze _ _ g1 fun k' j' e' hk'=>mH k' hk' (by cases e';rfl)
     exact⟨by rw[ag4 _ hdb];exact g1,g2.mono aM (vS _ hdb)⟩
  ·intro i j e xs u1 b1 hc hh aM
   rw[tj _ (by simp) (by simp)]at hc
   exact h.fT i j e xs u1 b1 hc hh aM
  ·intro b g hb
   by_cases hd:dom b
   ·rw[adi b hd]at hb
    cases cy:ω' b with
    |none=>rw[cy]at hb;simp[tr]at hb
    |some g'=>
     obtain⟨q1,q2,q3⟩:=hR.cZ b g' cy
     refine⟨q1,q2,fun hbase=>?_⟩
     have hlt:b<w.heap.size:=Nat.lt_of_lt_of_le hbase h.base
     have hne:eD ks ω b≠none:=q3 hlt
     cases ja:ω b with
     |none=>simp[eD,ja]at hne
     |some g0=>exact(h.cZ b g0 ja).2.2 hbase
   ·rw[ag4 b hd]at hb
    obtain⟨q1,q2,q3⟩:=h.cZ b g hb
    exact⟨fun hz=>q1 (axY b hd hz),Nat.lt_of_lt_of_le q2 hR.base,q3⟩
 refine⟨β'',ij,aoH,?_⟩
 have iy:aY (ax (cR K.P 1 w us.toArray (eC ks β) (eD ks ω) Z) β' Z' (dJ c9 r) { tmps:= #[v],defers:=[] } w') v r.v:=hR.tmps 0
 have ax1:∀(j e:Nat) (xs:List (List D)) (u1:Value) (b1:Nat),r.v.cells[j]? =some (.own e xs)→(flat v)[j]? =some u1→cP u1=some b1→ij b1=some (.tmp t,some j)∧jq w' e u1∧dom b1:=by
  intro j e xs u1 b1 hc hh aM
  obtain⟨q1,q2⟩:=hR.own (.tmp 0) j e xs u1 b1 rfl hc hh aM
  have hd:=ag1 _ _ q1
  exact⟨by rw[adi _ hd,q1];rfl,q2,hd⟩
 have hfree:∀(j:Nat) (b:Nat),ij b=some (.tmp t,some j)→dom b→ie K β'' s2 a w' b:=by
  intro j b cy hd q j' e' xs' u' b' hq hc hh aM hb
  have g:=(aoH.own q j' e' xs' u' b' hq hc hh aM).1
  rw[hb,cy]at g
  simp only[Option.some.injEq,Prod.mk.injEq]at g
  obtain⟨rfl,rfl⟩:=g
  rw[tj _ (by simp) (by simp)]at hc
  rw[fk _ _ (by simp) (by simp)]at hh
  have g2:=(h.own (.tmp t) j e' xs' u' b' rfl hc hh aM).1
  exact ze _ _ g2 (by intro k j e;cases e) (by rw[hb];exact hd)
 have aoI:∀(c c':C) (x:Value) (q q':St),(back ks t c).exec q=some (c',q')→ax (cR K.P 1 w us.toArray (eC ks β) (eD ks ω) Z) β' Z' (dJ c9 r) { tmps:= #[v],defers:=[] } w' c x→
   ax K β'' Z' s2 a w' c' x∧(∀e xs,c'= .own e xs→c= .own e xs):=by
  intro c c' x q q' he hc
  unfold back at he
  split at he
  ·obtain⟨rfl,_⟩:=aE he;exact⟨hc,by simp⟩
  ·obtain⟨rfl,_⟩:=aE he;exact⟨hc,by simp⟩
  ·rename_i i off
   obtain⟨rfl,_⟩:=aE he
   obtain⟨b,g1,g2⟩:=hc
   refine⟨⟨b,?_,g2⟩,by simp⟩
   simp only[af1]
   split
   ·rename_i hi
    have hki:=List.getElem?_eq_getElem hi
    obtain⟨b2,p1,p2,p3⟩:=zf i _ hki
    rw[List.getD_eq_getElem?_getD,hki]
    rw[p2]at g1
    cases g1
    exact p3
   ·rename_i hi
    have cr:=hR.boxes (.inb i)
    cases hri:r.boxes[i]? with
    |none=>
     have:(dJ c9 r (.box (.inb i))).v= .undef:=by simp only[dJ,hri]
     rw[this]at cr
     simp only[dc]at cr
     rw[cr]at g1
     cases g1
    |some cs=>
     have hil:=(List.getElem?_eq_some_iff.1 hri).1
     rw[ag3 (i - ks.length) (by simp;omega),show ks.length+(i - ks.length)=i by omega]
     exact g1
  ·obtain⟨_,x1,h1,ak⟩:=av he
   obtain⟨hcap,_⟩:=bS h1
   obtain⟨rfl,_⟩:=aE ak
   rw[hcap]at hc
   obtain⟨vs,g1,g2⟩:=hc
   exact⟨⟨vs,g1,by cases hvs:vs.toList with|nil=>trivial|cons _ _=>rw[hvs]at g2;exact g2.elim⟩,by simp⟩
  ·simp[Prog.exec]at he
 have aoK:∀(cs:List C) (xs:List Value) (cs':List C) (q q':St),(nG ks t cs).exec q=some (cs',q')→au (fun u c=>ax (cR K.P 1 w us.toArray (eC ks β) (eD ks ω) Z) β' Z' (dJ c9 r) { tmps:= #[v],defers:=[] } w' c u) xs cs→
   au (fun u c=>ax K β'' Z' s2 a w' c u) xs cs'∧(∀(j e:Nat) ys,cs'[j]? =some (.own e ys)→cs[j]? =some (.own e ys)):=by
  intro cs
  induction cs with
  |nil=>
   intro xs cs' q q' he hall
   obtain⟨rfl,_⟩:=aE he
   cases xs with
   |nil=>exact⟨trivial,by simp⟩
   |cons _ _=>exact hall.elim
  |cons c cs ih=>
   intro xs cs' q q' he hall
   cases xs with
   |nil=>exact hall.elim
   |cons x xs=>
    simp only[nG]at he
    obtain⟨c1,x1,h1,dZ⟩:=av he
    obtain⟨ey,x2,h2,ak⟩:=av dZ
    obtain⟨rfl,_⟩:=aE ak
    obtain⟨p1,p2⟩:=aoI _ _ _ _ _ h1 hall.1
    obtain⟨q1,q2⟩:=ih xs ey _ _ h2 hall.2
    refine⟨⟨p1,q1⟩,fun j e ys hj=>?_⟩
    cases j with
    |zero=>simp only[List.getElem?_cons_zero,Option.some.injEq]at hj ⊢;exact p2 e ys hj
    |succ j=>simpa using q2 j e ys (by simpa using hj)
 have fin:∀v',aY (ax K β'' Z' s2 a w') v v'→(∀(j e:Nat) ys,v'.cells[j]? =some (.own e ys)→r.v.cells[j]? =some (.own e ys))→fL K β'' ij Z' s2 a w' (.tmp t) v v':=by
  intro v' h1 h2
  refine⟨h1,fun j c x hc hx=>?_⟩
  obtain⟨x',g1,g2⟩:=h1.cell hc
  rw[hx]at g1
  cases g1
  refine⟨g2,fun e xs b q1 q2=>?_⟩
  subst q1
  obtain⟨p1,p2,p3⟩:=ax1 j e xs x b (h2 j e xs hc) hx q2
  exact⟨p1,p2,hfree j b p1 p3⟩
 cases lI:r.v with
 |one c=>
  rw[lI]at fN iy
  simp only[ia]at fN
  obtain⟨c1,x1,h1,he⟩:=av fN
  obtain⟨rfl,_⟩:=aE he
  obtain⟨p1,p2⟩:=aoI _ _ _ _ _ h1 iy.2
  refine fin _ ⟨iy.1,p1⟩ fun j e ys hj=>?_
  rw[lI]
  cases j with
  |zero=>simp only[SV.cells,List.getElem?_cons_zero,Option.some.injEq]at hj ⊢;exact p2 e ys hj
  |succ j=>simp[SV.cells]at hj
 |agg cs=>
  rw[lI]at fN iy
  simp only[ia]at fN
  obtain⟨c1,x1,h1,he⟩:=av fN
  obtain⟨rfl,_⟩:=aE he
  obtain⟨ws,js,hall⟩:=iy
  obtain⟨p1,p2⟩:=aoK _ _ _ _ _ h1 hall
  exact fin _ ⟨ws,js,p1⟩ fun j e ys hj=>by rw[lI];exact p2 j e ys hj
 |aJ vs=>
  rw[lI]at fN iy
  simp only[ia]at fN
  obtain⟨c1,x1,h1,he⟩:=av fN
  obtain⟨rfl,_⟩:=aE he
  obtain⟨ws,js,hall⟩:=iy
  have key:∀(vs:List (Bool×List C)) (xs:List Value) (vs':List (Bool×List C)) (q q':St),(oL ks t vs).exec q=some (vs',q')→au (cL (ax (cR K.P 1 w us.toArray (eC ks β) (eD ks ω) Z) β' Z' (dJ c9 r) { tmps:= #[v],defers:=[] } w')) xs vs→
    au (cL (ax K β'' Z' s2 a w')) xs vs'∧(vs'.map (·.2.length)=vs.map (·.2.length))∧(∀(j e:Nat) ys,(vs'.flatMap (·.2))[j]? =some (.own e ys)→(vs.flatMap (·.2))[j]? =some (.own e ys)):=by
   intro vs
   induction vs with
   |nil=>
    intro xs vs' q q' he hall
    obtain⟨rfl,_⟩:=aE he
    cases xs with
    |nil=>exact⟨trivial,rfl,by simp⟩
    |cons _ _=>exact hall.elim
   |cons x vs ih=>
    obtain⟨b,cs⟩:=x
    intro xs vs' q q' he hall
    cases xs with
    |nil=>exact hall.elim
    |cons x xs=>
     simp only[oL]at he
     obtain⟨c1,x1,h1,dZ⟩:=av he
     obtain⟨ey,x2,h2,ak⟩:=av dZ
     obtain⟨rfl,_⟩:=aE ak
     obtain⟨q1,q2,q3⟩:=ih xs ey _ _ h2 hall.2
     have hfl:=cL.flat hall.1
     obtain⟨p1,p2⟩:=aoK cs x.cells.toList c1 _ _ h1 hfl
     have hl:c1.length=cs.length:=by rw[←p1.length,hfl.length]
     refine⟨⟨?_,q1⟩,by simp[q2,hl],fun j e ys hj=>?_⟩
     ·have h3:=hall.1
      unfold cL at h3 ⊢
      cases b with
      |true=>
       simp only[if_true]at h3 ⊢
       obtain⟨ws,rfl,_⟩:=h3
       exact⟨ws,rfl,p1⟩
      |false=>
       simp only[Bool.false_eq_true,if_false]at h3 ⊢
       obtain⟨c,g1,g2,_⟩:=h3
       rw[jo g2]at p1
       match c1,p1 with
       | [d],p1=>exact⟨d,rfl,g2,p1.1⟩
     ·simp only[List.flatMap_cons]at hj ⊢
      by_cases hjl:j<c1.length
      ·rw[List.getElem?_append_left hjl]at hj
       rw[List.getElem?_append_left (by omega)]
       exact p2 j e ys hj
      ·rw[List.getElem?_append_right (by omega)]at hj
       rw[List.getElem?_append_right (by omega),←hl]
       exact q3 _ e ys hj
  obtain⟨p1,_,p2⟩:=key _ _ _ _ _ h1 hall
  exact fin _ ⟨ws,js,p1⟩ fun j e ys hj=>by rw[lI];exact p2 j e ys hj
 |undef=>rw[lI]at fN;simp[ia,Prog.exec]at fN
end
end Go.Vs
namespace Go.Vs
section
variable {K:Ctx} {β:Key→Option Nat} {ω:Nat→Option bX} {Z:Nat→Prop} {s:St} {a:Act} {w:World} {cfg:aP}
theorem aoL {e:Nat} (h:dL e=true):aW e=true:=by
 have:=Nat.le_of_ble_eq_true h
 exact Nat.ble_eq_true_of_le (by omega)
theorem ax2 (hT:eS K.P cfg) (h:Rel K β ω Z s a w) {t:TypeId} {x:Operand} {dst:Nat} {o:Oper} (ho:o.op= .range t x) {v:SV} {s':St} (he:(bp cfg o.op dst).exec s=some (v,s')):
  bR K s' a dst ((execOp a.eval o).run K.P w) v:=by
 rw[ho]at he
 simp only[bp]at he
 obtain⟨c,s1,h1,ak⟩:=av he
 obtain⟨hs1,o1,r1,iB⟩:=ew h h1
 rw[hs1]at ak
 unfold acu at ak
 split at ak
 ·rename_i kt ki ei hm
  obtain⟨et,hu,hki,gC,aM,cz⟩:=sY hT hm
  obtain⟨d,s2,h2,aH⟩:=av ak
  obtain⟨ct,Z1,R1,k1,hd⟩:=acL h r1 h2
  split at aH
  ·rename_i e xs
   obtain⟨_,s3,h3,bz⟩:=av aH
   obtain⟨hee,hs3⟩:=bS h3
   obtain⟨hv,dm⟩:=aE bz
   subst hv;subst dm;subst hs3
   have hm1:aW e=true:=by rw[hee];exact acT
   have hi:dL e=false:=by rw[hee];exact sX aM cz
   have hun:eF e=false:=by rw[hee];exact oX aM cz
   obtain⟨b,e1,hz,g0⟩:=(bL.kf hm1).1 hd
   rw[lz hi]at e1
   obtain⟨es,aT,g1,g2,g3⟩:=(cH.mp hi hun).1 g0
   have vN:aT=xs.length:=by rw[g2.aT,mI g3]
   obtain⟨r2,k2,f2,g4⟩:=R1.newObj (.mapIter (some b) aT #[] aT) (.tmp dst,some 0)
   have jb:∀b',Z1 b'→(w.alloc (.mapIter (some b) aT #[] aT)).heap[b']? =w.heap[b']? ∧Z1 b':=fun b' hb'=>by
    have:=R1.dH b' hb'
    refine⟨?_,hb'⟩
    show(w.heap.push _)[b']? =_
    rw[Array.getElem?_push,if_neg (by omega)]
   have bu:∀(s:St),ax K β Z1 s a (w.alloc (.mapIter (some b) aT #[] aT)) (.own jF [[.sl e xs],[]]) (.pointer (some ⟨w.heap.size,0,none⟩)):=fun s=>
    (ax.jL (e:=jF) rfl).2 ⟨w.heap.size,(af5 rfl _).symm,(cH.it (e:=jF) rfl).2 ⟨b,aT, #[],aT,g4,⟨(bL.kf hm1).2 ⟨b,(lz hi _).symm,hz,cH.mono jb e xs b (jb b hz).1 g0⟩,trivial⟩,e,xs,rfl,hm1,hi,hun,vN,vN,rfl⟩⟩
   refine⟨.pointer (some ⟨w.heap.size,0,none⟩),w.alloc (.mapIter (some b) aT #[] aT),β,_,Z1,?_,r2,⟨rfl,bu _⟩,?_⟩
   ·simp only[execOp,ho,Instr.range,e1,Sem.run_bind,run_underlying hu,Result.andThen_ok,oZ g1,Sem.run_pure]
    rfl
   ·intro j c x hc hx
    have hj:j=0:=by
     simp only[SV.cells]at hc
     cases j with
     |zero=>rfl
     |succ j=>simp at hc
    subst hj
    simp only[SV.cells,List.getElem?_cons_zero,Option.some.injEq]at hc
    simp only[flat,List.getElem?_cons_zero,Option.some.injEq]at hx
    subst hc;subst hx
    refine⟨bu _,fun e' xs b q1 q2=>?_⟩
    cases q1
    simp only[cP,Option.some.injEq]at q2
    subst q2
    exact⟨by simp,trivial,f2⟩
  ·simp[Prog.exec]at aH
 ·simp[Prog.exec]at ak
theorem aoM (h:Rel K β ω Z s a w) {r:ah} {j hv cv e k:Nat} {lF:List (List D)} {um:Value} (hcm:ax K β Z s a w (.aD r j hv cv e k lF) um) (dj:(s r).hv=hv) (dA:r.isArg=false) (hi:dL e=true)
  {e' em:Nat} {xs:List (List D)} {seen:List D} (bB:(s r).at j= .own e' [[.sl em xs],seen]):
  e'=e∧∃b m es aT sn,um= .pointer (some ⟨b,0,none⟩)∧bP K β a w r j=some (dW e b)∧w.heap[b]? =some (.mapIter (some m) xs.length sn xs.length)∧w.heap[m]? =some (.map es aT)∧
   aT=xs.length∧ic em aT es.toList∧dP w Z xs es.toList∧seen=hY sn.toList.reverse∧aW em=true∧dL em=false∧eF em=false∧bL w Z (.sl em xs) (.map (some m))∧¬Z b:=by
 have hmp:=aoL hi
 obtain⟨b,e1,_,_,g4⟩:=(ax.mA hmp).1 hcm
 obtain⟨f1,ys,f2,_⟩:=g4 dj (sQ bB)
 rw[bB]at f2
 rcases f2 with f2|f2<;>cases f2
 obtain⟨b2,q1,g0⟩:=h.acB hmp bB
 rw[f1,Option.some.injEq]at q1
 rw[sI q1.symm]at g0
 obtain⟨m,since,sn,stepped,p1,p2,e0,ys,p3,p4,p5,pun,p6,p7,p8⟩:=(cH.it hi).1 g0
 cases p3
 obtain⟨hd,_⟩:=p2
 obtain⟨m',q2,_,g1⟩:=(bL.kf p4).1 hd
 rw[lz p5]at q2
 cases q2
 obtain⟨es,aT,g1,g2,g3⟩:=(cH.mp p5 pun).1 g1
 have vN:aT=xs.length:=by rw[g2.aT,mI g3]
 subst p6;subst p7
 refine⟨rfl,b,m,es,aT,sn,by rw[e1,af5 hi],f1,p1,g1,vN,g2,g3,by simpa only[List.cons.injEq,and_true]using p8,p4,p5,pun,hd,?_⟩
 exact(h.cZ _ _ (h.own r j _ _ _ b dA (fJ bB (by simp)) f1 (jn ..)).1).1
theorem aoN {em:Nat} {row:List D} {en:MapEntry} (hk:mo em en) (hr:gy w Z row (lA en)):au (cL (ax K β Z s a w)) [en.key,en.val] (mh em row):=by
 unfold mo at hk
 unfold mh
 generalize sx em=ka at hk ⊢
 generalize pU em=kl at hk ⊢
 generalize sy em=va at hk ⊢
 generalize mVl em=vl at hk ⊢
 obtain⟨k1,k2⟩:=hk
 obtain⟨p1,p2⟩:=yV k1 hr
 exact⟨ac0 k1 p1,ac0 k2 p2,trivial⟩
theorem aoO {em:Nat} {row:List D} {c:C} (hc:c∈(mh em row).flatMap (·.2)):bQ c:=by
 simp only[mh,List.flatMap_cons,List.flatMap_nil,List.append_nil,List.mem_append,List.mem_map]at hc
 rcases hc with⟨d,_,rfl⟩|⟨d,_,rfl⟩<;>simp[bQ]
theorem ax3 (h:Rel K β ω Z s a w) {dst:Nat} {r:Result Next} (hr:r= .ok (.value (.tuple #[.bool false])) w):bR K s a dst r (.aJ [(false,[.d (.bool false)])]):=
 bR.same h hr ⟨#[.bool false],rfl,⟨_,rfl,rfl,rfl⟩,trivial⟩ (by simp[SV.cells,bQ])
theorem ax4 {α:Type} {p:Prop} [Decidable p] (hp:p) {f:Unit→Prog α} {s:St}:(need p >>= f).exec s=(f ()).exec s:=by
 unfold need
 rw[if_pos hp]
 rfl
theorem ax5 {l m:List Nat} (h:hY l=hY m):l=m:=by
 unfold hY at h
 induction l generalizing m with
 |nil=>cases m with|nil=>rfl|cons _ _=>simp at h
 |cons a l ih=>
  cases m with
  |nil=>simp at h
  |cons b m=>
   simp only[List.map_cons,List.cons.injEq,D.int.injEq,true_and]at h
   rw[ih h.2,Int.ofNat_inj.1 h.1]
theorem adk (h:Rel K β ω Z s a w) {x:Operand} {dst:Nat} {o:Oper} (ho:o.op= .next x false) {r:ah} {j hv cv e k:Nat} {lF:List (List D)} {s1:St} (h1:(dw x).exec s=some (.aD r j hv cv e k lF,s1))
  (dj:(s r).hv=hv) (dA:r.isArg=false) (hi:dL e=true) {e' em:Nat} {xs:List (List D)} {sn:List Nat} (bB:(s r).at j= .own e' [[.sl em xs],hY sn]):
  ((∀i,i<xs.length→i∈sn)∧bR K s a dst ((execOp a.eval o).run K.P w) (.aJ [(false,[.d (.bool false)])]))∨
    ∃i,i<xs.length∧i ∉ sn∧bR K (s.set r { (s r)with cv:=(s r).cv+1,v:=(s r).v.setCell j (.own e' [[.sl em xs],hY (i :: sn)]) }) a dst ((execOp a.eval o).run K.P w) (.aJ ((false,[.d (.bool true)]) :: mh em (xs.getD i []))):=by
 obtain⟨hs1,o1,r1,iB⟩:=ew h h1
 have hex:∀{u:Value} {w':World},(Instr.next (a.eval x) false o.type).run K.P w= .ok u w'→(execOp a.eval o).run K.P w= .ok (.value u) w':=by
  intro u w' hh
  simp only[execOp,ho,Sem.run_bind,hh,Result.andThen_ok,Sem.run_pure]
 obtain⟨hee,b,m,es,aT,sn',e1,f1,p1,p2,p3,p4,p5,p6,p7,p8,pun,p9,hnz⟩:=aoM h r1 dj dA hi bB
 subst hee
 have zh:=ax5 p6
 have hlen:xs.length=es.toList.length:=mI p5
 have hold:∀x∈es.toList,x.born<xs.length:=by
  intro y hy
  obtain⟨i,hi⟩:=List.mem_iff_getElem?.1 hy
  rw[p4.born i y hi,hlen]
  exact(List.getElem?_eq_some_iff.1 hi).1
 rcases run_next_at (P:=K.P) w o.type b m _ _ sn' es aT p1 p2 hold (Nat.le_refl _)with⟨q,hrun⟩|⟨en,q1,w1,q2,q3⟩
 ·left
  refine⟨fun i hi=>?_,?_⟩
  ·have hi':i<es.toList.length:=by omega
   have hem:leftOf es sn'= #[]:=Array.eq_empty_of_size_eq_zero q
   unfold leftOf at hem
   rw[Array.filter_eq_empty_iff]at hem
   have hy:=hem es.toList[i] (by simp)
   simp only[Bool.not_eq_true,Bool.not_eq_false',Bool.not_eq_eq_eq_not,Bool.not_true,Bool.not_false]at hy
   rw[p4.born i _ (List.getElem?_eq_getElem hi')]at hy
   rw[zh]
   simpa using hy
  ·refine ax3 h (hex ?_)
   rw[e1];exact hrun
 ·right
  simp only[leftOf,Array.mem_toList_iff,Array.mem_filter,Bool.not_eq_true',Array.contains_iff_mem]at q1
  obtain⟨i,qD⟩:=List.mem_iff_getElem?.1 (Array.mem_toList_iff.2 q1.1)
  have hb:=p4.born i en qD
  have hi':i<xs.length:=by rw[hlen];exact(List.getElem?_eq_some_iff.1 qD).1
  obtain⟨row,g1,g2⟩:=oY p5 qD
  refine⟨i,hi',?_,?_⟩
  ·rw[zh]
   intro hm
   have:=q1.2
   rw[hb]at this
   simp at hm
   simp[hm]at this
  ·have hR1:Rel K β ω Z s a w1∧w1.heap=w.heap:=by
     rcases q2 with rfl|rfl
     ·exact⟨h,rfl⟩
     ·exact⟨h.drew.1,rfl⟩
   obtain⟨R1,hw1⟩:=hR1
   obtain⟨qA,mD⟩:=acZ (w:=w1) (o':=.mapIter (some m) xs.length (sn'.push en.born) aT) (by rw[hw1];exact p1)
   have hZ:∀b',Z b'→(ChangeMaps.setBlock w1 b (.mapIter (some m) xs.length (sn'.push en.born) aT)).heap[b']? =w.heap[b']? ∧Z b':=fun b' hb'=>
    ⟨by rw[←hw1];exact qA.other b' (fun e=>hnz (e ▸ hb')),hb'⟩
   have tn:bP K β a w1 r j=some (dW e' b):=by
    rw[←f1]
    cases r with
    |tmp t=>rfl
    |arg i=>rfl
    |box k=>simp only[bP,World.cell?,hw1]
   have hR2:=R1.agf (aoL hi) bB dA tn qA (ys':=[[.sl em xs],hY (i :: sn)]) ((cH.it hi).2 ⟨m,_,_,_,mD,⟨bL.mono hZ _ _ p9,trivial⟩,em,xs,rfl,p7,p8,pun,rfl,p3,by simp[hb,zh,hY]⟩)
   refine⟨_,_,β,ω,Z,hex (by rw[e1];exact q3),hR2,fL.yN ⟨#[.bool true,en.key,en.val],rfl,⟨_,rfl,rfl,rfl⟩,?_⟩ ?_⟩
   ·rw[qy g1]
    exact aoN (p4.ok en (List.mem_of_getElem? qD)) (gy.mono hZ _ _ g2)
   ·intro c hc
    simp only[SV.cells,List.flatMap_cons,List.mem_append,List.mem_singleton]at hc
    rcases hc with rfl|hc
    ·simp[bQ]
    ·exact aoO hc
theorem ax8 (h:Rel K β ω Z s a w) {x:Operand} {dst:Nat} {o:Oper} (ho:o.op= .next x false) {v:SV} {s':St} (he:(bp cfg o.op dst).exec s=some (v,s')):
  bR K s' a dst ((execOp a.eval o).run K.P w) v:=by
 rw[ho]at he
 simp only[bp]at he
 obtain⟨c,s1,h1,ak⟩:=av he
 obtain⟨hs1,o1,r1,iB⟩:=ew h h1
 rw[hs1]at ak
 unfold amT at ak
 split at ak
 ·rename_i r j hv cv e k lF
  simp only[Prog.exec]at ak
  obtain⟨_,s3,h3,aH⟩:=av ak
  obtain⟨⟨dj,dA,hi⟩,hs3⟩:=bS h3
  rw[hs3]at aH
  split at aH
  ·rename_i e' em bB
   obtain⟨_,s4,h4,bz⟩:=av aH
   obtain⟨_,dm⟩:=bS h4
   rw[dm]at bz
   obtain⟨rfl,rfl⟩:=aE bz
   rcases adk (sn:=[]) h ho h1 dj dA hi bB with⟨_,q⟩|⟨i,hi2,_⟩
   ·exact q
   ·simp at hi2
  ·rename_i e' em row bB
   obtain⟨_,s4,h4,bz⟩:=av aH
   simp only[cY,Prog.exec,Option.some.injEq,Prod.mk.injEq]at h4
   obtain⟨_,h4⟩:=h4
   obtain⟨hv,hs'⟩:=aE bz
   subst hv;subst hs';subst h4
   rcases adk (sn:=[]) h ho h1 dj dA hi bB with⟨hall,_⟩|⟨i,hi2,_,q⟩
   ·exact absurd (hall 0 (by simp)) (by simp)
   ·have:i=0:=by simp at hi2;omega
    subst this
    exact q
  ·rename_i e' em row bB
   obtain⟨_,s4,h4,bz⟩:=av aH
   obtain⟨_,dm⟩:=bS h4
   rw[dm]at bz
   obtain⟨rfl,rfl⟩:=aE bz
   rcases adk (sn:=[0]) h ho h1 dj dA hi bB with⟨_,q⟩|⟨i,hi2,hni,_⟩
   ·exact q
   ·simp at hi2 hni;omega
  ·simp[Prog.exec]at aH
 ·simp[Prog.exec]at ak
theorem ax9 (h:Rel K β ω Z s a w) {x:Operand} {dst:Nat} {o:Oper} (ho:o.op= .entry x) {v:SV} {s':St} (he:(bp cfg o.op dst).exec s=some (v,s')):
  bR K s' a dst ((execOp a.eval o).run K.P w) v:=by
 rw[ho]at he
 simp only[bp]at he
 obtain⟨c,s1,h1,ak⟩:=av he
 obtain⟨hs1,o1,r1,iB⟩:=ew h h1
 rw[hs1]at ak
 unfold acv at ak
 split at ak
 ·rename_i r j hv cv e k lF
  simp only[Prog.exec]at ak
  obtain⟨_,s3,h3,aH⟩:=av ak
  obtain⟨⟨dj,dA,hi⟩,hs3⟩:=bS h3
  rw[hs3]at aH
  split at aH
  ·rename_i e' em xs n rest bB
   obtain⟨_,s4,h4,bz⟩:=av aH
   obtain⟨⟨hn0,mH⟩,dm⟩:=bS h4
   rw[dm]at bz
   obtain⟨rfl,rfl⟩:=aE bz
   obtain⟨_,b,m,es,aT,sn,e1,f1,p1,p2,p3,p4,p5,p6,_⟩:=aoM h r1 dj dA hi bB
   have hlen:xs.length=es.toList.length:=mI p5
   obtain⟨en,kA⟩:∃en,es.toList[n.toNat]? =some en:=⟨_,List.getElem?_eq_getElem (by omega)⟩
   obtain⟨row,g1,g2⟩:=oY p5 kA
   have hb:=p4.born _ _ kA
   obtain⟨sn0,aya⟩:∃sn0:Array Nat,sn=sn0.push en.born:=by
    obtain⟨l⟩:=sn
    rcases List.eq_nil_or_concat l with rfl|⟨l0,y,rfl⟩
    ·simp[hY]at p6
    ·refine⟨⟨l0⟩,?_⟩
     simp only[hY,List.concat_eq_append,List.reverse_append,List.reverse_cons,List.reverse_nil,List.nil_append,List.singleton_append,List.map_cons,List.cons.injEq,D.int.injEq,true_and]at p6
     have:y=en.born:=by rw[hb];have:=p6.1;omega
     rw[this];simp
   rw[aya,←p3]at p1
   refine bR.same h (u:=.tuple #[en.key,en.val]) ?_ ⟨_,rfl,by rw[qy g1];exact aoN (p4.ok en (List.mem_of_getElem? kA)) g2⟩ fun c hc=>aoO hc
   have hnd:(es.toList.map (·.born)).Nodup:=by
    rw[List.nodup_iff_pairwise_ne,List.pairwise_map,List.pairwise_iff_getElem]
    intro i j hi hj hij
    rw[p4.born i _ (List.getElem?_eq_getElem hi),p4.born j _ (List.getElem?_eq_getElem hj)]
    omega
   have hrun:=run_entry_at (P:=K.P) w b m _ sn0 es aT en p1 p2 (List.mem_of_getElem? kA) hnd
   simp only[execOp,ho,e1,Sem.run_bind,hrun,Result.andThen_ok,Sem.run_pure]
  ·simp[Prog.exec]at aH
 ·simp[Prog.exec]at ak
end
end Go.Vs
namespace Go.Vs
noncomputable section
def ayb (R:List ah) (s s':St):Prop:=∀r∈R,s r=s' r
theorem ado {α:Type} (p:Prog α):∀(s s':St) (a:α) (t:St),p.exec s=some (a,t)→ayb (p.dO s).1 s s'→
  ∃t',p.exec s'=some (a,t')∧p.dO s'=p.dO s∧(∀r∈(p.dO s).2,t' r=t r)∧(∀r,r ∉ (p.dO s).2→t' r=s' r∧t r=s r):=by
 induction p with
 |ret a=>
  intro s s' a' t h _
  simp only[Prog.exec,Option.some.injEq,Prod.mk.injEq]at h
  obtain⟨rfl,rfl⟩:=h
  exact⟨s',by simp[Prog.exec],by simp[Prog.dO],by simp[Prog.dO],by simp⟩
 |fail=>intro s s' a t h;simp[Prog.exec]at h
 |get r k ih=>
  intro s s' a t h hag
  simp only[Prog.exec]at h
  have hr:s r=s' r:=hag r (by simp[Prog.dO])
  obtain⟨t',h1,h2,h3,h4⟩:=ih (s r) s s' a t h (fun q hq=>hag q (by simp[Prog.dO,hq]))
  refine⟨t',?_,?_,?_,?_⟩
  ·simp only[Prog.exec];rw[←hr];exact h1
  ·simp only[Prog.dO];rw[←hr,h2]
  ·simpa[Prog.dO]using h3
  ·simpa[Prog.dO]using h4
 |put r x k ih=>
  intro s s' a t h hag
  simp only[Prog.exec]at h
  obtain⟨t',h1,h2,h3,h4⟩:=ih (s.set r x) (s'.set r x) a t h (fun q hq=>by
   by_cases gf:q=r
   ·subst gf;simp[jD]
   ·rw[jE _ _ gf,jE _ _ gf];exact hag q (by simp[Prog.dO,hq]))
  refine⟨t',by simpa[Prog.exec]using h1,by simp[Prog.dO,h2],?_,?_⟩
  ·intro q hq
   simp only[Prog.dO,List.mem_cons]at hq
   by_cases hw:q∈(k.dO (s.set r x)).2
   ·exact h3 q hw
   ·obtain⟨e1,e2⟩:=h4 q hw
    rcases hq with rfl|hq
    ·rw[e1,e2,jD,jD]
    ·exact absurd hq hw
  ·intro q hq
   simp only[Prog.dO,List.mem_cons,not_or]at hq
   obtain⟨e1,e2⟩:=h4 q hq.2
   rw[e1,e2,jE _ _ hq.1,jE _ _ hq.1]
   exact⟨rfl,rfl⟩
def indep (f g:List ah×List ah):Bool:=
 f.2.all (fun r=> !g.1.contains r&& !g.2.contains r)&&g.2.all (fun r=> !f.1.contains r)
theorem ayc {f g:List ah×List ah} (h:indep f g=true):(∀r∈f.2,r ∉ g.1∧r ∉ g.2)∧(∀r∈g.2,r ∉ f.1):=by
 simp only[indep,Bool.and_eq_true,List.all_eq_true,Bool.not_eq_true',List.contains_eq_mem,decide_eq_false_iff_not]at h
 exact h
theorem ayd {α β:Type} {p:Prog α} {q:Prog β} {s s1 s2:St} {a:α} {b:β} (hp:p.exec s=some (a,s1)) (hq:q.exec s1=some (b,s2))
  (hi:indep (p.dO s) (q.dO s1)=true):
  ∃t1,q.exec s=some (b,t1)∧p.exec t1=some (a,s2)∧q.dO s=q.dO s1∧p.dO t1=p.dO s:=by
 obtain⟨h1,h2⟩:=ayc hi
 have aye:=ado p s s a s1 hp (fun _ _=>rfl)
 have hps:∀r,r ∉ (p.dO s).2→s1 r=s r:=fun r hr=>by
  obtain⟨t',e,_,_,h4⟩:=aye
  exact(h4 r hr).2
 have hqs:∀r,r ∉ (q.dO s1).2→s2 r=s1 r:=fun r hr=>by
  obtain⟨t',e,_,_,h4⟩:=ado q s1 s1 b s2 hq (fun _ _=>rfl)
  exact(h4 r hr).2
 obtain⟨t1,e1,f1,g1,k1⟩:=ado q s1 s b s2 hq (fun r hr=>hps r (fun hm=>(h1 r hm).1 hr))
 obtain⟨t2,e2,f2,g2,k2⟩:=ado p s t1 a s1 hp (fun r hr=>((k1 r (fun hm=>h2 r hm hr)).1).symm)
 refine⟨t1,e1,?_,f1,f2⟩
 rw[e2]
 congr 2
 funext r
 by_cases hw:r∈(p.dO s).2
 ·rw[g2 r hw,hqs r (h1 r hw).2]
 ·rw[(k2 r hw).1]
  by_cases hv:r∈(q.dO s1).2
  ·exact g1 r hv
  ·rw[(k1 r hv).1,hqs r hv,hps r hw]
abbrev FP:=Nat→List ah×List ah
def zi (cfg:aP) (ops:Array Oper) (i:Nat):Prog Unit:=
 match ops[i]? with
 |some o=>iW cfg ops o
 |none=>.ret ()
def nP (cfg:aP) (ops:Array Oper) (fp:FP):List Nat→St→St→Prop
 | [],s,s'=>s=s'
 |i :: r,s,s'=>∃s1,(zi cfg ops i).exec s=some ((),s1)∧(zi cfg ops i).dO s=fp i∧nP cfg ops fp r s1 s'
variable {cfg:aP} {ops:Array Oper} {fp:FP}
theorem nP.front {i:Nat} {B:List Nat}:∀{A:List Nat} {s s':St},nP cfg ops fp (A++i :: B) s s'→(∀a∈A,indep (fp a) (fp i)=true)→
  nP cfg ops fp (i :: (A++B)) s s':=by
 intro A
 induction A with
 |nil=>intro s s' h _;exact h
 |cons a A ih=>
  intro s s' h hA
  obtain⟨s1,e1,f1,h1⟩:=h
  obtain⟨s2,e2,f2,h2⟩:=ih h1 (fun x hx=>hA x (List.mem_cons_of_mem _ hx))
  obtain⟨t1,g1,g2,g3,g4⟩:=ayd e1 e2 (by rw[f1,f2];exact hA a (List.mem_cons_self ..))
  exact⟨t1,g1,g3.trans f2,s2,g2,g4.trans f1,h2⟩
def adp:List Oper→List (List Nat)→List (List Nat)
 | [],acc=>acc
 |o :: r,acc=>adp r (acc++[((o.after.toList.filter (Region.binds .any)).flatMap fun e=>e.on :: acc.getD e.on []).eraseDups])
def adq (ops:Array Oper):List (List Nat):=adp ops.toList []
def ag6 (ops:Array Oper) (L:Nat→Bool):Prop:=∀(i:Nat) (o:Oper),ops[i]? =some o→L i=true→∀e∈o.after,Region.binds .any e=true→L e.on=true
theorem ayf (ops:Array Oper) (L:Nat→Bool) (hL:ag6 ops L):∀(l:List Oper) (acc:List (List Nat)),
  (∀(k:Nat),k<l.length→ops[acc.length+k]? =l[k]?)→
  (∀(i:Nat) (o:Oper),i<acc.length→ops[i]? =some o→(∀e∈o.after,Region.binds .any e=true→L e.on=true)→∀x∈acc.getD i [],L x=true)→
  ∀(i:Nat) (o:Oper),i<acc.length+l.length→ops[i]? =some o→(∀e∈o.after,Region.binds .any e=true→L e.on=true)→∀x∈(adp l acc).getD i [],L x=true:=by
 intro l
 induction l with
 |nil=>intro acc _ h i o hi ho he x hx;exact h i o (by simpa using hi) ho he x hx
 |cons o l ih=>
  intro acc lJ hacc i o' hi ho' he x hx
  simp only[adp]at hx
  refine ih _ ?_ ?_ i o' (by simp at hi ⊢;omega) ho' he x hx
  ·intro k hk
   have:=lJ (k+1) (by simp;omega)
   simp only[List.length_append,List.length_cons,List.length_nil]
   rw[show acc.length+(0+1)+k=acc.length+(k+1) by omega,this]
   simp
  ·intro j oj hj hoj hej y hy
   by_cases hlt:j<acc.length
   ·rw[List.getD_eq_getElem?_getD,List.getElem?_append_left hlt,←List.getD_eq_getElem?_getD]at hy
    exact hacc j oj hlt hoj hej y hy
   ·have hj':j=acc.length:=by simp at hj;omega
    subst hj'
    have h0:=lJ 0 (by simp)
    simp only[Nat.add_zero,List.getElem?_cons_zero]at h0
    rw[hoj]at h0
    cases h0
    simp only[List.getD_eq_getElem?_getD,List.getElem?_append_right (Nat.le_refl _),Nat.sub_self,List.getElem?_cons_zero,Option.getD_some,List.mem_eraseDups,List.mem_flatMap,List.mem_filter]at hy
    obtain⟨e,⟨hem,hb⟩,hy⟩:=hy
    have hon:L e.on=true:=hej e (by simpa using hem) hb
    rcases List.mem_cons.1 hy with rfl|hy
    ·exact hon
    ·by_cases hel:e.on<acc.length
     ·have hex:e.on<ops.size:=by
        have:=(Array.getElem?_eq_some_iff.1 hoj).1
        omega
      have hoe:ops[e.on]? =some ops[e.on]:=Array.getElem?_eq_getElem hex
      exact hacc e.on _ hel hoe (hL e.on _ hoe hon) y hy
     ·rw[List.getElem?_eq_none (by omega)]at hy
      simp at hy
theorem ayg {L:Nat→Bool} (hL:ag6 ops L) {i:Nat} {o:Oper} (ho:ops[i]? =some o) (he:∀e∈o.after,Region.binds .any e=true→L e.on=true):
  ∀x∈(adq ops).getD i [],L x=true:=
 ayf ops L hL ops.toList [] (by simp) (by simp) i o (by simpa using(Array.getElem?_eq_some_iff.1 ho).1) ho he
def o8 (cfg:aP) (ops:Array Oper):List Oper→St→Option (List (List ah×List ah))
 | [],_=>some []
 |o :: r,s=>match(iW cfg ops o).exec s with
  |some (_,s')=>match o8 cfg ops r s' with
   |some l=>some ((iW cfg ops o).dO s :: l)
   |none=>none
  |none=>none
def tq (cB:List (List ah×List ah)) (an:List (List Nat)):Bool:=
 (List.range cB.length).all fun j=>(List.range j).all fun i=>(an.getD j []).contains i||indep (cB.getD i ([],[])) (cB.getD j ([],[]))
def adr (cfg:aP) (ops:Array Oper) (s:St):Bool:=
 match o8 cfg ops ops.toList s with
 |some cB=>tq cB (adq ops)
 |none=>false
theorem ayh {cB:List (List ah×List ah)} {an:List (List Nat)} (h:tq cB an=true) {i j:Nat} (hij:i<j) (hj:j<cB.length) (hn:i ∉ an.getD j []):
  indep (cB.getD i ([],[])) (cB.getD j ([],[]))=true:=by
 simp only[tq,List.all_eq_true,List.mem_range,Bool.or_eq_true,List.contains_eq_mem,decide_eq_true_eq]at h
 exact(h j hj i hij).resolve_left hn
theorem ayi:∀(l:List Oper) (k:Nat) (s s':St) (cB:List (List ah×List ah)) (pre:List (List ah×List ah)),
  (∀i,i<l.length→ops[k+i]? =l[i]?)→pre.length=k→lu cfg ops l s=some s'→o8 cfg ops l s=some cB→
  nP cfg ops (fun i=>(pre++cB).getD i ([],[])) (List.range' k l.length) s s'∧cB.length=l.length:=by
 intro l
 induction l with
 |nil=>intro k s s' cB pre _ _ h hf;simp[lu]at h;simp[o8]at hf;subst hf;simp[nP,h]
 |cons o l ih=>
  intro k s s' cB pre lJ hpre h hf
  simp only[lu]at h
  simp only[o8]at hf
  cases he:(iW cfg ops o).exec s with
  |none=>simp[he]at h
  |some x=>
   obtain⟨⟨⟩,s1⟩:=x
   simp only[he]at h hf
   cases tn:o8 cfg ops l s1 with
   |none=>simp[tn]at hf
   |some fl=>
    simp only[tn,Option.some.injEq]at hf
    subst hf
    obtain⟨hr,hlen⟩:=ih (k+1) s1 s' fl (pre++[(iW cfg ops o).dO s]) (fun i hi=>by
     have:=lJ (i+1) (by simp;omega)
     rw[show k+1+i=k+(i+1) by omega,this];simp) (by simp[hpre]) h tn
    have ho:ops[k]? =some o:=by have:=lJ 0 (by simp);simpa using this
    refine⟨?_,by simp[hlen]⟩
    simp only[List.length_cons,List.range'_succ,nP]
    refine⟨s1,by simp[zi,ho,he],?_,?_⟩
    ·simp only[zi,ho]
     subst hpre
     simp
    ·simpa using hr
theorem ayj {P:Program} {Q:Exit→Act→World→Prop} {s':St} (Good:St→Act→World→Prop)
  (hstep:∀(i:Nat) (o:Oper) (s s1:St) (a:Act) (w:World) (K:Act→World→Prop),ops[i]? =some o→(iW cfg ops o).exec s=some ((),s1)→Good s a w→
    (∀a' w',Good s1 a' w'→K a' w')→wpOp P ops Q i K a w)
  (hend:∀a w,Good s' a w→Q .normal a w)
  (ayk:∀i j,i<j→j<ops.size→i ∉ (adq ops).getD j []→indep (fp i) (fp j)=true)
  (ayl:∀(i:Nat) (o:Oper),ops[i]? =some o→∀e∈o.after,Region.binds .any e=true→e.on<i):
  ∀(fuel:Nat) (R:List Nat) (listed:Array Bool) (s:St) (a:Act) (w:World),R.length=fuel→listed.size=ops.size→R.Pairwise (·< ·)→
   (∀i,i∈R↔(i<ops.size∧listed.getD i true=false))→ag6 ops (fun i=>listed.getD i false)→
   nP cfg ops fp R s s'→Good s a w→wpAny P .any ops Q fuel listed a w:=by
 intro fuel
 induction fuel with
 |zero=>
  intro R listed s a w hR _ _ hmem _ hrun hg
  have:R=[]:=List.length_eq_zero_iff.1 hR
  subst this
  simp only[nP]at hrun
  subst hrun
  refine⟨?_,hend a w hg⟩
  apply List.eq_nil_iff_forall_not_mem.2
  intro i hi
  obtain⟨h1,o,ho,_⟩:=mem_ready.1 hi
  have:=(hmem i).2 ⟨(Array.getElem?_eq_some_iff.1 ho).1,h1⟩
  simp at this
 |succ fuel ih=>
  intro R listed s a w hR hsz ag8 hmem eB hrun hg
  constructor
  ·intro qv
   exfalso
   cases R with
   |nil=>simp at hR
   |cons k R=>
    obtain⟨gB,hk2⟩:=(hmem k).1 (List.mem_cons_self ..)
    have ho:ops[k]? =some ops[k]:=Array.getElem?_eq_getElem gB
    have:k∈Region.ready .any ops listed:=mem_ready.2 ⟨hk2,_,ho,fun e he hb=>by
     have hlt:=ayl k _ ho e he hb
     have aym:e.on<listed.size:=by omega
     by_cases hl:listed.getD e.on true=false
     ·have hm:=(hmem e.on).2 ⟨by omega,hl⟩
      rcases List.mem_cons.1 hm with h|h
      ·omega
      ·have:=(List.pairwise_cons.1 ag8).1 _ h;omega
     ·simp only[Array.getD_eq_getD_getElem?,Array.getElem?_eq_getElem aym,Option.getD_some]at hl ⊢
      simpa using hl⟩
    rw[qv]at this
    simp at this
  ·intro i hi
   obtain⟨hi1,o,ho,hi2⟩:=mem_ready.1 hi
   have aoT:i<ops.size:=(Array.getElem?_eq_some_iff.1 ho).1
   have hiR:i∈R:=(hmem i).2 ⟨aoT,hi1⟩
   obtain⟨A,B,rfl⟩:=List.append_of_mem hiR
   have ag9:=List.pairwise_append.1 ag8
   have ayo:=ayg eB ho hi2
   have ayp:=nP.front hrun (fun x hx=>by
    have hxi:x<i:=ag9.2.2 x hx i (List.mem_cons_self ..)
    refine ayk x i hxi aoT (fun hm=>?_)
    have h1:=ayo x hm
    have h2:=((hmem x).1 (List.mem_append_left _ hx)).2
    have hx2:x<listed.size:=by omega
    simp only[Array.getD_eq_getD_getElem?,Array.getElem?_eq_getElem hx2,Option.getD_some]at h1 h2
    rw[h1]at h2
    cases h2)
   obtain⟨s1,e1,_,vT⟩:=ayp
   simp only[zi,ho]at e1
   refine hstep i o s s1 a w _ ho e1 hg (fun a' w' hg'=>?_)
   have hsub:(A++B).Sublist (A++i :: B):=List.Sublist.append_left (List.sublist_cons_self _ _) _
   have ayq:i ∉ A++B:=by
    intro hm
    rcases List.mem_append.1 hm with h|h
    ·exact absurd (ag9.2.2 i h i (List.mem_cons_self ..)) (by omega)
    ·exact absurd ((List.pairwise_cons.1 ag9.2.1).1 i h) (by omega)
   refine ih (A++B) (listed.setIfInBounds i true) s1 a' w' (by simp at hR ⊢;omega) (by simpa using hsz) (ag8.sublist hsub) ?_ ?_ vT hg'
   ·intro x
    constructor
    ·intro hx
     have hne:x≠i:=fun h=>ayq (h ▸ hx)
     obtain⟨h1,h2⟩:=(hmem x).1 (hsub.mem hx)
     exact⟨h1,by rw[getD_set_ne _ (Ne.symm hne)];exact h2⟩
    ·rintro ⟨h1,h2⟩
     have hne:x≠i:=by
      rintro rfl
      rw[Array.getD_eq_getD_getElem?,Array.getElem?_setIfInBounds_self_of_lt (by omega)]at h2
      simp at h2
     rw[getD_set_ne _ (Ne.symm hne)]at h2
     have:=(hmem x).2 ⟨h1,h2⟩
     simp only[List.mem_append,List.mem_cons]at this ⊢
     rcases this with h|h|h
     ·exact .inl h
     ·exact absurd h hne
     ·exact .inr h
   ·intro x ox hox hx e he hb
    by_cases hxi:x=i
    ·subst hxi
     rw[ho]at hox
     cases hox
     exact getD_set_true (hi2 e he hb)
    ·have hx':(listed.setIfInBounds i true).getD x false=true:=hx
     rw[getD_set_ne _ (Ne.symm hxi)]at hx'
     exact getD_set_true (eB x ox hox hx' e he hb)
end
end Go.Vs
namespace Go.Vs
def tu:C→Bool
 | .d _| .own _ _| .ptr _ _| .bW _ _=>true
 |_=>false
def kF (v:SV):Bool:=v.cells.all tu
theorem aoU {ks:List Key} {c c':C} {s s':St} (he:(canon ks c).exec s=some (c',s')):tu c'=true:=by
 unfold canon at he
 split at he
 ·obtain⟨rfl,_⟩:=aE he;rfl
 ·simp only[Prog.exec]at he
  obtain⟨_,s1,h1,he⟩:=av he
  split at he
  ·obtain⟨_,s2,h2,he⟩:=av he
   obtain⟨rfl,_⟩:=aE he;rfl
  ·obtain⟨rfl,_⟩:=aE he;rfl
  ·simp[Prog.exec]at he
 ·obtain⟨rfl,_⟩:=aE he;rfl
 ·obtain⟨rfl,_⟩:=aE he;rfl
 ·simp[Prog.exec]at he
theorem aoV {ks:List Key}:∀{cs cs':List C} {s s':St},(oK ks cs).exec s=some (cs',s')→cs'.all tu=true
 | [],_,_,_,he=>by obtain⟨rfl,_⟩:=aE he;rfl
 |c :: cs,cs',s,s',he=>by
  simp only[oK]at he
  obtain⟨c1,s1,h1,he⟩:=av he
  obtain⟨ey,s2,h2,he⟩:=av he
  obtain⟨rfl,_⟩:=aE he
  simp only[List.all_cons,Bool.and_eq_true]
  exact⟨aoU h1,aoV h2⟩
theorem aoW {ks:List Key}:∀{vs vs':List SV} {s s':St},(qb ks vs).exec s=some (vs',s')→vs'.all kF=true
 | [],_,_,_,he=>by obtain⟨rfl,_⟩:=aE he;rfl
 |v :: vs,vs',s,s',he=>by
  simp only[qb]at he
  obtain⟨v1,s1,h1,he⟩:=av he
  obtain⟨iE,s2,h2,he⟩:=av he
  obtain⟨rfl,_⟩:=aE he
  simp only[List.all_cons,Bool.and_eq_true]
  refine⟨?_,aoW h2⟩
  cases v with
  |one c=>
   simp only[ke]at h1
   obtain⟨c1,s3,h3,aH⟩:=av h1
   obtain⟨rfl,_⟩:=aE aH
   simp[kF,SV.cells,aoU h3]
  |agg cs=>
   simp only[ke]at h1
   obtain⟨c1,s3,h3,aH⟩:=av h1
   obtain⟨rfl,_⟩:=aE aH
   exact aoV h3
  |_=>simp[ke,Prog.exec]at h1
def fO (P:Program) (f:FuncId) (F:fc):Prop:=
 ∀(args:List SV) (boxes:List (List C)) (r:gS),F args boxes=some r→∀(w:World) (vals:Array Value) (β:Key→Option Nat) (ω:Nat→Option bX) (Z:Nat→Prop),
  vals.size=args.length→args.all kF=true→boxes.all (fun b=>b.all (eG boxes.length))=true→Rel (cR P 0 w vals β ω Z) β ω Z (dI args boxes) { tmps:= #[],defers:=[] } w→
  ((callFunc f vals).run P w= .ok (.enter f vals) w∧Calls P f vals w fun e w'=>∃v β' ω' Z',e= .returned v∧Rel (cR P 1 w vals β ω Z) β' ω' Z' (dJ args r) { tmps:= #[v],defers:=[] } w')∨
  ∃v w' β' ω' Z',(callFunc f vals).run P w= .ok (.value v) w'∧Rel (cR P 1 w vals β ω Z) β' ω' Z' (dJ args r) { tmps:= #[v],defers:=[] } w'
structure iF (P:Program) (cfg:aP):Prop where
 tv:eS P cfg
 calls:∀t f F,cfg.Γ t f=some F→fO P f F
section
variable {K:Ctx} {β:Key→Option Nat} {ω:Nat→Option bX} {Z:Nat→Prop} {s:St} {a:Act} {w:World} {cfg:aP}
def af (K:Ctx) (s':St) (a:Act) (w:World) (dst:Nat) (r:Result Next) (v:SV):Prop:=
 bR K s' a dst r v∨∃f args,r= .ok (.enter f args) w∧Calls K.P f args w fun e w'=>∃u β' ω' Z',e= .returned u∧Rel K β' ω' Z' s' a w'∧fL K β' ω' Z' s' a w' (.tmp dst) u v
theorem ayr (h:Rel K β ω Z s a w) {o:Operand} {f:FuncId} {caps:List SV} {s':St} (he:(acy o).exec s=some ((f,caps),s')):
  s'=s∧∃vs:Array Value,a.eval o= .func (.func f) #[] vs∧au (kC K β Z s a w) vs.toList caps:=by
 unfold acy at he
 split at he
 ·obtain⟨hx,hs⟩:=aE he
  cases hx
  exact⟨hs, #[],rfl,trivial⟩
 ·obtain⟨c,s1,h1,ak⟩:=av he
  obtain⟨hs1,o1,r1,iB⟩:=ew h h1
  rw[hs1]at ak
  split at ak
  ·rename_i f' cs
   obtain⟨hx,hs⟩:=aE ak
   cases hx
   obtain⟨vs,g1,g2⟩:=r1
   refine⟨hs,vs,g1,?_⟩
   have key:∀(us:List Value) (cs:List (Key×Nat)),au (fun u (p:Key×Nat)=>∃b,β p.1=some b∧u= .pointer (some ⟨b,p.2,none⟩)) us cs→au (kC K β Z s a w) us (cs.map fun p=>.one (.ptr p.1 p.2)):=by
    intro us
    induction us with
    |nil=>intro cs h;cases cs with|nil=>trivial|cons _ _=>exact h.elim
    |cons u us ih=>
     intro cs h
     cases cs with
     |nil=>exact h.elim
     |cons p cs=>
      obtain⟨⟨b,q1,q2⟩,q3⟩:=h
      exact⟨⟨⟨by rw[q2];rfl,b,q1,q2⟩,by simp[SV.cells,bQ],by simp⟩,ih cs q3⟩
   exact key _ _ g2
  ·simp[Prog.exec]at ak
theorem ays (hC:iF K.P cfg) (h:Rel K β ω Z s a w) {co:Operand} {args:Array Operand} {tys:Array TypeId} {dst:Nat} {o:Oper} (ho:o.op= .call { callee:=.value co,args,argTypes:=tys }) {v:SV} {s':St} (he:(bp cfg o.op dst).exec s=some (v,s')):
  af K s' a w dst ((execOp a.eval o).run K.P w) v:=by
 rw[ho]at he
 simp only[bp]at he
 obtain⟨⟨f,caps⟩,s1,h1,ak⟩:=av he
 obtain⟨hs1,cv,dX,ayt⟩:=ayr h h1
 simp only at ak
 rw[hs1]at ak
 obtain⟨vs,s2,h2,aH⟩:=av ak
 obtain⟨hs2,hvs,ayu⟩:=agP h _ h2
 rw[hs2]at aH
 have ayv:au (kC K β Z s a w) (args.toList.map a.eval++cv.toList) (vs++caps):=by
  refine au.append ?_ ayt
  exact hvs.gV fun u v hv hr=>⟨hr,ayu v hv⟩
 unfold acw at aH
 split at aH
 ·simp[Prog.exec]at aH
 ·rename_i F hF
  obtain⟨iE,s3,h3,bz⟩:=av aH
  obtain⟨ct,Z1,r1,k1,p1⟩:=axK (cfg:=cfg) _ _ ω Z s s3 iE h ayv h3
  simp only at bz
  obtain⟨more,s3',h3',ahb⟩:=av bz
  have ayx:=axN _ _ _ h3'
  rw[ayx]at ahb
  generalize hkk:dedup (eO (iE.flatMap SV.cells)++more)=kk at ahb
  have ahc:kk.Nodup:=by rw[←hkk];exact vR _
  obtain⟨c9,s4,h4,cn⟩:=av ahb
  obtain⟨dm,hcan⟩:=axM _ _ s4 c9 r1 p1 (fun k hk=>by rw[←hkk];exact aom (List.mem_append_left _ hk)) h4
  rw[dm]at cn
  obtain⟨bs,s5,h5,dN⟩:=av cn
  obtain⟨gj,th,cr⟩:=aoq _ s5 bs h5
  rw[gj]at dN
  split at dN
  ·simp[Prog.exec]at dN
  ·rename_i r hr
   obtain⟨_,s6,h6,nL⟩:=av dN
   obtain⟨⟨hlen,jP⟩,gm⟩:=bS h6
   rw[gm]at nL
   obtain⟨_,s7,h7,he8⟩:=av nL
   obtain⟨_,s8,h8,he9⟩:=av he8
   have hent:=axP r1 ahc hcan th cr
   have hsz:(args.toList.map a.eval++cv.toList).toArray.size=c9.length:=by
    have:=hcan.length
    simpa using this
   have cQ:(execOp a.eval o).run K.P w=(callFunc f (args.toList.map a.eval++cv.toList).toArray).run K.P w:=by
    have e1:args.map a.eval++cv=(args.toList.map a.eval++cv.toList).toArray:=by
     apply Array.toList_inj.1
     simp
    simp[execOp,ho,resolve,dX,Deferred.ofValue,invoke,e1]
   have iD:bs.all (fun b=>b.all (eG bs.length))=true:=by
    rw[List.all_eq_true]
    intro b hb
    obtain⟨i,hi⟩:=List.getElem?_of_mem hb
    obtain⟨cs,g1,_,g3⟩:=cr i _ (List.getElem?_eq_getElem (by rw[←th];exact(List.getElem?_eq_some_iff.1 hi).1))
    rw[hi]at g1
    cases g1
    rw[List.all_map,List.all_eq_true,th]
    exact fun c hc=>aot (ag0 g3 hc)
   rcases hC.calls _ f F hF c9 bs r hr w _ _ _ _ hsz (aoW h4) iD hent with⟨q1,q2⟩|⟨u,w',β',ω',Z',q1,q2⟩
   ·refine .inr ⟨f,_,by rw[cQ,q1],q2.mono fun e w' ⟨u,β',ω',Z',g1,g2⟩=>?_⟩
    obtain⟨β2,fq,g3,g4⟩:=aoC r1 ahc hcan g2 (fun i k hi=>by obtain⟨cs,_,g,_⟩:=cr i k hi;exact⟨cs,g⟩) jP hlen h7 h8 he9
    exact⟨u,β2,fq,Z',g1,g3,g4⟩
   ·obtain⟨β2,fq,g3,g4⟩:=aoC r1 ahc hcan q2 (fun i k hi=>by obtain⟨cs,_,g,_⟩:=cr i k hi;exact⟨cs,g⟩) jP hlen h7 h8 he9
    exact .inl ⟨u,w',β2,fq,Z',by rw[cQ,q1],g3,g4⟩
theorem ayy (hC:iF K.P cfg) (h:Rel K β ω Z s a w) {dst:Nat} {o:Oper} {v:SV} {s':St} (he:(bp cfg o.op dst).exec s=some (v,s')):af K s' a w dst ((execOp a.eval o).run K.P w) v:=by
 have hT:=hC.tv
 cases ho:o.op with
 |move x=>exact .inl (awZ h ho he)
 |assign x=>exact .inl (aw0 h ho he)
 |pick c x y=>exact .inl (aw1 h ho he)
 |alloc t=>exact .inl (axd hT h ho he)
 |box t x=>exact .inl (axe h ho he)
 |build t ps=>exact .inl (axi hT h ho he)
 |buildSlice t n ps=>exact .inl (axl hT h ho he)
 |load t x=>exact .inl (aw3 hT h ho he)
 |nilCheck x=>exact .inl (aw2 h ho he)
 |binOp op t x y yt=>exact .inl (aww hT h ho he)
 |unOp op t x=>exact .inl (awy h ho he)
 |convert a b x=>exact .inl (axG hT h ho he)
 |makeFunc fn first captured=>
  cases fn with
  |func f=>exact .inl (axa h ho he)
  |_=>rw[ho]at he;simp[bp,Prog.exec]at he
 |makeSlice t l c=>exact .inl (axm hT h ho he)
 |slice t x lo hi mx=>
  cases mx with
  |none=>exact .inl (awA hT h ho he)
  |some m=>rw[ho]at he;simp[bp,Prog.exec]at he
 |fieldAddr t x f=>exact .inl (aw4 hT h ho he)
 |field t x f=>exact .inl (aw6 hT h ho he)
 |indexAddr t x i=>exact .inl (aw5 hT h ho he)
 |index t x i=>exact .inl (aw7 hT h ho he)
 |extract x n=>exact .inl (axc h ho he)
 |makeMap t r=>
  cases r with
  |none=>exact .inl (awM hT h ho he)
  |some r=>rw[ho]at he;simp[bp,Prog.exec]at he
 |lookup t x ix ok=>exact .inl (awN hT h ho he)
 |range t x=>exact .inl (ax2 hT h ho he)
 |next x b=>
  cases b with
  |false=>exact .inl (ax8 h ho he)
  |true=>rw[ho]at he;simp[bp,Prog.exec]at he
 |entry x=>exact .inl (ax9 h ho he)
 |mapEntry t m k=>exact .inl (awS hT h ho he)
 |call c=>
  obtain⟨callee,args,tys⟩:=c
  cases callee with
  |value co=>exact ays hC h ho he
  |invoke r m=>rw[ho]at he;simp[bp,Prog.exec]at he
  |builtin b=>
   cases b with
   |len=>exact .inl (aw8 hT h ho he)
   |append=>exact .inl (axy hT h ho he)
   |cap=>exact .inl (axv hT h ho he)
   |min=>exact .inl (anZ (b:=true) h ho (by rw[ho]at he;exact he))
   |max=>exact .inl (anZ (b:=false) h ho (by rw[ho]at he;exact he))
   |_=>rw[ho]at he;simp[bp,Prog.exec]at he
 |_=>rw[ho]at he;simp[bp,Prog.exec]at he
def Good (K:Ctx) (s:St) (a:Act) (w:World):Prop:=∃β ω Z,Rel K β ω Z s a w
theorem adt (hN:K.N=cfg.N) (h:Rel K β ω Z s a w) {t:Nat} {u:Value} {v:SV} (hp:fL K β ω Z s a w (.tmp t) u v) {y:Unit} {s':St} (he:(mm cfg t v).exec s=some (y,s')):Good K s' (a.put (some t) u) w:=by
 simp only[mm,Prog.exec]at he
 obtain⟨_,s1,h1,ak⟩:=av he
 obtain⟨ht,hs1⟩:=bS h1
 rw[hs1]at ak
 simp only[cY,Prog.exec,Option.some.injEq,Prod.mk.injEq]at ak
 obtain⟨_,rfl⟩:=ak
 exact⟨β,ω,Z,h.av9 (by omega) hp⟩
theorem aoX (hT:eS K.P cfg) (h:Rel K β ω Z s a w) {t:TypeId} {m k x:Operand} {y:Unit} {s':St}
  (he:(do let c ←dw m;let vk ←ev k;let vx ←ev x;sD cfg t c vk vx:Prog Unit).exec s=some (y,s')):∃w' β' ω' Z',(Instr.mapUpdate t (a.eval m) (a.eval k) (a.eval x)).run K.P w= .ok () w'∧Rel K β' ω' Z' s' a w':=by
 obtain⟨c,s1,h1,ak⟩:=av he
 obtain⟨hs1,o1,r1,iB⟩:=ew h h1
 rw[hs1]at ak
 obtain⟨vk,s2,h2,aH⟩:=av ak
 obtain⟨hs2,hvk,nK,anU⟩:=fm h h2
 rw[hs2]at aH
 obtain⟨vx,s3,h3,bz⟩:=av aH
 obtain⟨hs3,hvx,ahf,ayA⟩:=fm h h3
 rw[hs3]at bz
 exact awP hT h r1 hvk hvx ahf bz
theorem aoY (hC:iF K.P cfg) (hN:K.N=cfg.N) (h:Rel K β ω Z s a w) {o:Oper} {y:Unit} {s':St} (he:(jK cfg o).exec s=some (y,s')) {Q:Exit→Act→World→Prop} {next:Act→World→Prop} (hK:∀a' w',Good K s' a' w'→next a' w'):
  o.wp K.P a w next Q:=by
 unfold jK at he
 split at he
 ·rename_i t ad x ho hd
  split at he
  ·rename_i i bN
   obtain⟨c,s1,h1,ak⟩:=av he
   obtain⟨hs1,o1,r1,iB⟩:=ew h h1
   rw[hs1]at ak
   obtain⟨v,s2,h2,aH⟩:=av ak
   obtain⟨hs2,hv,hno,lH⟩:=fm h h2
   rw[hs2]at aH
   obtain⟨w',β',ω',Z',q1,q2⟩:=awd h (hC.tv.T _ _ bN) r1 hv hno aH
   have cQ:(execOp a.eval o).run K.P w= .ok .skip w':=by simp[execOp,ho,q1]
   rw[Oper.wp,cQ,Oper.upon_skip,hd]
   exact hK _ _ ⟨β',ω',Z',q2⟩
  ·simp[Prog.exec]at he
 ·rename_i t m k x ho hd
  obtain⟨w',β',ω',Z',q1,q2⟩:=aoX hC.tv h he
  have cQ:(execOp a.eval o).run K.P w= .ok .skip w':=by simp[execOp,ho,q1]
  rw[Oper.wp,cQ,Oper.upon_skip,hd]
  exact hK _ _ ⟨β',ω',Z',q2⟩
 ·rename_i t m k x ho hd
  obtain⟨w',β',ω',Z',q1,q2⟩:=aoX hC.tv h he
  have cQ:(execOp a.eval o).run K.P w= .ok .skip w':=by simp[execOp,ho,q1]
  rw[Oper.wp,cQ,Oper.upon_skip,hd]
  exact hK _ _ ⟨β',ω',Z',q2⟩
 ·rename_i t m st x ho hd
  obtain⟨c,s1,h1,ak⟩:=av he
  obtain⟨hs1,o1,r1,iB⟩:=ew h h1
  rw[hs1]at ak
  obtain⟨cs,s2,h2,aH⟩:=av ak
  obtain⟨hs2,o2,r2,nK⟩:=ew h h2
  rw[hs2]at aH
  obtain⟨vx,s3,h3,bz⟩:=av aH
  obtain⟨hs3,hvx,ahf,ayA⟩:=fm h h3
  rw[hs3]at bz
  obtain⟨w',β',ω',Z',q1,q2⟩:=awW hC.tv h r1 r2 hvx ahf bz
  have cQ:(execOp a.eval o).run K.P w= .ok .skip w':=by simp[execOp,ho,q1]
  rw[Oper.wp,cQ,Oper.upon_skip,hd]
  exact hK _ _ ⟨β',ω',Z',q2⟩
 ·rename_i d hns hd
  obtain⟨v,s1,h1,ak⟩:=av he
  rcases ayy hC h h1 with⟨u,w',β',ω',Z',q1,q2,q3⟩|⟨f,args,q1,q2⟩
  ·rw[Oper.wp,q1,Oper.upon_value,hd]
   exact hK _ _ (adt hN q2 q3 ak)
  ·rw[Oper.wp,q1,Oper.upon_enter]
   refine q2.mono ?_
   rintro e w' ⟨u,β',ω',Z',rfl,g2,g3⟩
   simp only
   rw[hd]
   exact hK _ _ (adt hN g2 g3 ak)
 ·simp[Prog.exec]at he
theorem aoZ (hC:iF K.P cfg) (hN:K.N=cfg.N) {ops:Array Oper} {i:Nat} {o:Oper} (hi:ops[i]? =some o) {s s1:St} {a:Act} {w:World} {Q:Exit→Act→World→Prop} {next:Act→World→Prop} (he:(iW cfg ops o).exec s=some ((),s1)) (hg:Good K s a w) (hK:∀a' w',Good K s1 a' w'→next a' w'):
  wpOp K.P ops Q i next a w:=by
 obtain⟨β,ω,Z,h⟩:=hg
 simp only[wpOp,hi]
 unfold iW at he
 split at he
 ·rename_i hgd
  have:Region.wanted o (yielded ops a.tmps)=true:=by simp[Region.wanted,hgd]
  rw[if_pos this]
  exact .inl (aoY hC hN h he hK)
 ·rename_i j want hgd
  obtain⟨b,s2,h2,ak⟩:=av he
  have hy:s2=s∧yielded ops a.tmps j=b:=by
   unfold af4 at h2
   split at h2
   ·rename_i t hd
    simp only[Prog.exec]at h2
    split at h2
    ·rename_i b' hv
     obtain⟨hb,hs⟩:=aE h2
     refine⟨hs,?_⟩
     have ht:=h.tmps t
     rw[hv]at ht
     have hval:a.tmps.getD t undef= .bool b':=ht.2
     rw[hb]
     simp only[yielded,hd,Option.bind_some]
     cases hq:a.tmps[t]? with
     |none=>
      rw[Array.getD_eq_getD_getElem?,hq]at hval
      cases hval
     |some x=>
      rw[Array.getD_eq_getD_getElem?,hq]at hval
      simp only[Option.getD_some]at hval
      rw[hval]
    ·rename_i hv
     obtain⟨hb,hs⟩:=aE h2
     refine⟨hs,?_⟩
     have ht:=h.tmps t
     rw[hv]at ht
     obtain⟨vs,hval,hall⟩:=ht
     rw[hb]
     simp only[yielded,hd,Option.bind_some]
     cases hq:a.tmps[t]? with
     |none=>rfl
     |some x=>
      rw[Array.getD_eq_getD_getElem?,hq]at hval
      simp only[Option.getD_some]at hval
      rw[hval]
    ·simp[Prog.exec]at h2
   ·simp[Prog.exec]at h2
  obtain⟨hs2,hy⟩:=hy
  rw[hs2]at ak
  split at ak
  ·rename_i hb
   have:Region.wanted o (yielded ops a.tmps)=true:=by simp[Region.wanted,hgd,hy,hb]
   rw[if_pos this]
   exact .inl (aoY hC hN h ak hK)
  ·rename_i hb
   have:¬(Region.wanted o (yielded ops a.tmps)=true):=by simp[Region.wanted,hgd,hy,hb]
   rw[if_neg this]
   split at ak
   ·rename_i d hd
    rw[hd]
    exact hK _ _ (adt hN h (fL.yN (u:=undef) (v:=.aJ []) ⟨#[],rfl,trivial⟩ (by simp[SV.cells])) ak)
   ·rename_i hd
    obtain⟨_,hs⟩:=aE ak
    rw[hd]
    refine hK _ _ ?_
    rw[hs]
    exact⟨β,ω,Z,h⟩
theorem ao0 (hN:K.N=cfg.N) {ops:Array Oper} {o:Oper} {i:Nat} (hi:ops[i]? =some o) (hg:o.guard=none) {d:Nat} (hd:o.dst=some d) (hlt:d<cfg.N) {s':St} {v:SV} {a:Act} {w:World} {Q:Exit→Act→World→Prop} {next:Act→World→Prop}
  (hy:bR K s' a d ((execOp a.eval o).run K.P w) v) (hK:∀a' w',Good K (s'.set (.tmp d) { hv:=(s' (.tmp d)).hv+1,cv:=(s' (.tmp d)).cv,v }) a' w'→next a' w'):wpOp K.P ops Q i next a w:=by
 simp only[wpOp,hi]
 have:Region.wanted o (yielded ops a.tmps)=true:=by simp[Region.wanted,hg]
 rw[if_pos this]
 obtain⟨u,w',β',ω',Z',q1,q2,q3⟩:=hy
 refine .inl ?_
 rw[Oper.wp,q1,Oper.upon_value,hd]
 refine hK _ _ (adt hN q2 q3 (y:=()) ?_)
 simp only[mm,Prog.exec]
 rw[ax4 hlt]
 rfl
theorem ao1 (hC:iF K.P cfg) (hN:K.N=cfg.N) {ops:Array Oper} {Q:Exit→Act→World→Prop}:∀(l:List Oper) (k:Nat) (s s':St) (a:Act) (w:World),(∀i,i<l.length→ops[k+i]? =l[i]?)→lu cfg ops l s=some s'→Good K s a w→(∀a' w',Good K s' a' w'→Q .normal a' w')→
  wpOps K.P ops Q (List.range' k l.length) a w:=by
 intro l
 induction l with
 |nil=>
  intro k s s' a w _ h hg hK
  simp only[lu,Option.some.injEq]at h
  subst h
  exact hK _ _ hg
 |cons o l ih=>
  intro k s s' a w lJ h hg hK
  simp only[lu]at h
  cases he:(iW cfg ops o).exec s with
  |none=>rw[he]at h;cases h
  |some x=>
   obtain⟨⟨⟩,s1⟩:=x
   rw[he]at h
   have ho:ops[k]? =some o:=by have:=lJ 0 (by simp);simpa using this
   simp only[List.length_cons,List.range'_succ]
   rw[wpOps_cons]
   refine aoZ hC hN ho he hg fun a' w' hg'=>?_
   exact ih (k+1) s1 s' a' w' (fun i hi=>by
    have:=lJ (i+1) (by simp;omega)
    rw[show k+1+i=k+(i+1) by omega,this];simp) h hg' hK
def ahg (ops:Array Oper):Bool:=ops.toList.zipIdx.all fun x=>x.1.after.all fun e=> !Region.binds .any e||decide (e.on<x.2)
theorem ahh (hC:iF K.P cfg) (hN:K.N=cfg.N) (jQ:K.P.follows .mixedOrders=true) {id:Nat} {ops:Array Oper} {draw:Bool} {Q:Exit→Act→World→Prop} {s s':St} {a:Act} {w:World} (h:lu cfg ops ops.toList s=some s') (hd:draw=true→adr cfg ops s=true∧ahg ops=true)
  (hg:Good K s a w) (hK:∀a' w',Good K s' a' w'→Q .normal a' w'):(Code.region id ops draw).wp K.P Q a w:=by
 cases draw with
 |false=>
  refine wp_region ?_
  have:=ao1 (Q:=Q) hC hN ops.toList 0 s s' a w (by simp) h hg hK
  rw[List.range_eq_range']
  simpa using this
 |true=>
  obtain⟨h1,h2⟩:=hd rfl
  refine wp_region_any jQ ?_
  unfold adr at h1
  cases hf:o8 cfg ops ops.toList s with
  |none=>rw[hf]at h1;cases h1
  |some cB=>
   rw[hf]at h1
   obtain⟨hrun,hlen⟩:=ayi ops.toList 0 s s' cB [] (by simp) rfl h hf
   obtain⟨β,ω,Z,hr⟩:=hg
   have hg':Good K s a { w with drawn:=w.drawn+1 }:=⟨β,ω,Z,hr.drew.1⟩
   simp only[List.nil_append]at hrun
   refine ayj (P:=K.P) (Q:=Q) (s':=s') (Good K) (fun i o s s1 a w next ho he hg hK=>aoZ hC hN ho he hg hK) hK (fun i j hij hj hn=>ayh h1 hij (by rw[hlen];simpa using hj) hn) (fun i o ho e he hb=>?_) ops.size (List.range' 0 ops.toList.length) _ s a _ (by simp) (by simp) (List.pairwise_lt_range' _) (fun i=>?_) (fun i o ho hL=>?_) hrun hg'
   ·simp only[ahg,List.all_eq_true]at h2
    have hm:(o,i)∈ops.toList.zipIdx:=by
     rw[List.mem_zipIdx_iff_getElem?]
     simpa using ho
    have:=h2 _ hm
    simp only[Array.all_eq_true_iff_forall_mem,Bool.or_eq_true,Bool.not_eq_true',decide_eq_true_eq]at this
    rcases this e he with q|q
    ·rw[hb]at q;cases q
    ·exact q
   ·simp only[List.mem_range'_1,Array.length_toList,Nat.zero_le,true_and,Nat.zero_add]
    constructor
    ·intro hi;exact⟨hi,by simp[Array.getD_eq_getD_getElem?,hi]⟩
    ·rintro ⟨hi,_⟩;exact hi
   ·simp only[Array.getD_eq_getD_getElem?,Array.getElem?_replicate]at hL
    split at hL<;>simp at hL
end
end Go.Vs
namespace Go.Vs
noncomputable section
def Prog.both {α:Type}:Prog α→St→Option (α×St×List ah×List ah)
 | .ret a,s=>some (a,s,[],[])
 | .fail,_=>none
 | .get r k,s=>match(k (s r)).both s with
   |some (a,s',f,g)=>some (a,s',r :: f,g)
   |none=>none
 | .put r x k,s=>match k.both (s.set r x)with
   |some (a,s',f,g)=>some (a,s',f,r :: g)
   |none=>none
theorem ahi {α:Type} (p:Prog α):∀(s:St),p.both s=(p.exec s).map fun x=>(x.1,x.2,p.dO s):=by
 induction p with
 |ret a=>intro s;rfl
 |fail=>intro s;rfl
 |get r k ih=>
  intro s
  simp only[Prog.both,Prog.exec,Prog.dO,ih]
  cases(k (s r)).exec s<;>rfl
 |put r x k ih=>
  intro s
  simp only[Prog.both,Prog.exec,Prog.dO,ih]
  cases k.exec (s.set r x)<;>rfl
def lK (cfg:aP) (ops:Array Oper):List Oper→St→Option (St×List (List ah×List ah))
 | [],s=>some (s,[])
 |o :: r,s=>match(iW cfg ops o).both s with
  |some (_,s',f,g)=>match lK cfg ops r s' with
   |some (s'',l)=>some (s'',(f,g) :: l)
   |none=>none
  |none=>none
theorem adu (cfg:aP) (ops:Array Oper):∀(l:List Oper) (s s':St) (cB:List (List ah×List ah)),lK cfg ops l s=some (s',cB)→lu cfg ops l s=some s'∧o8 cfg ops l s=some cB:=by
 intro l
 induction l with
 |nil=>intro s s' cB h;simp only[lK,Option.some.injEq,Prod.mk.injEq]at h;obtain⟨rfl,rfl⟩:=h;exact⟨rfl,rfl⟩
 |cons o l ih=>
  intro s s' cB h
  simp only[lK,ahi]at h
  simp only[lu,o8]
  cases he:(iW cfg ops o).exec s with
  |none=>rw[he]at h;cases h
  |some x=>
   rw[he]at h
   simp only[Option.map_some]at h
   cases hr:lK cfg ops l x.2 with
   |none=>rw[hr]at h;cases h
   |some y=>
    rw[hr]at h
    simp only[Option.some.injEq,Prod.mk.injEq]at h
    obtain⟨rfl,rfl⟩:=h
    obtain⟨h1,h2⟩:=ih x.2 y.1 y.2 hr
    exact⟨h1,by simp only[h2]⟩
def qE (ops:Array Oper) (cB:List (List ah×List ah)):Bool:=ahg ops&&tq cB (adq ops)
inductive Ex where
 |normal|exit (id:Nat)|ret
 deriving DecidableEq
def vU (c:Operand) (p:PS):Option Bool:=
 match c with
 | .tmp t=>match lk t p.slots with|some (.one (.d (.bool b)))=>some b|_=>none
 | .const (.bool b)=>some b
 |_=>none
def forget (live:List Nat) (bl:List Key) (p:PS):PS:=fin p.st live bl p.args.length
def Key.isIn:Key→Bool| .inb _=>true|_=>false
def ahj (bk bl:List Key):Bool:=bk.all fun k=> !k.isIn||bl.contains k
structure VF where
 cfg:aP
 keys:List Nat
 aQ:List Key
def ayB (F:VF) (n:Nat) (K:PS→Prop):Option St→Prop
 |some s=>K (fin s F.keys F.aQ n)
 |none=>False
def ayC (F:VF) (ops:Array Oper) (n:Nat) (K:PS→Prop):Option (St×List (List ah×List ah))→Prop
 |some (s,cB)=>qE ops cB=true∧K (fin s F.keys F.aQ n)
 |none=>False
def adv (bk:List Key) (B:PS→(Ex→PS→Prop)→Prop) (p:PS) (Q:Ex→PS→Prop):Prop:=
 ∃(live:List Nat) (bl:List Key) (I:PS→Prop) (μ:PS→Nat),ahj bk bl=true∧I (forget live bl p)∧∀q,I q→B q fun e q'=>match e with
    | .normal=>I (forget live bl q')∧μ (forget live bl q')<μ q
    |e=>Q e q'
@[congr] theorem adv.same {bk:List Key} {B:PS→(Ex→PS→Prop)→Prop} {p p':PS} {Q:Ex→PS→Prop} (h:p=p'):adv bk B p Q=adv bk B p' Q:=by rw[h]
def eK (F:VF):Code→PS→(Ex→PS→Prop)→Prop
 | .skip,p,Q=>Q .normal p
 | .region _ ops false,p,Q=>ayB F p.args.length (fun p'=>Q .normal p') (lu F.cfg ops ops.toList p.st)
 | .region _ ops true,p,Q=>ayC F ops p.args.length (fun p'=>Q .normal p') (lK F.cfg ops ops.toList p.st)
 | .seq a b,p,Q=>eK F a p fun e p'=>match e with| .normal=>eK F b p' Q|e=>Q e p'
 | .cond c x y,p,Q=>match vU c p with|some b=>(b=true→eK F x p Q)∧(b=false→eK F y p Q)|none=>False
 | .block id b,p,Q=>eK F b p fun e p'=>match e with| .exit i=>if i=id then Q .normal p' else Q (.exit i) p'|e=>Q e p'
 | .loop b,p,Q=>adv F.aQ (eK F b) p Q
 | .scope b,p,Q=>eK F b p Q
 | .exit id,p,Q=>Q (.exit id) p
 | .ret,p,Q=>Q .ret p
 |_,_,_=>False
theorem ahk {α:Type} (t u:Nat) (v:α) (r:List (Nat×α)):lk t ((u,v) :: r)=if t=u then some v else lk t r:=rfl
theorem ao2 (s:St) (bk:List Key) (t:Nat):∀(ks:List Nat),((lk t (vD s bk ks)).getD .undef)=if t∈ks then fh s bk (s (.tmp t)).v else .undef
 | []=>rfl
 |u :: ks=>by
  simp only[vD]
  have ih:=ao2 s bk t ks
  by_cases htu:t=u
  ·subst htu
   simp only[List.mem_cons,true_or,if_true]
   cases hv:fh s bk (s (.tmp t)).v with
   |undef=>
    simp only[yE]
    rw[ih,hv]
    split<;>rfl
   |_=>simp[yE,ahk]
  ·have:lk t (yE u (fh s bk (s (.tmp u)).v) (vD s bk ks))=lk t (vD s bk ks):=by
     cases fh s bk (s (.tmp u)).v<;>simp[yE,ahk,htu]
   rw[this,ih]
   simp[htu]
theorem ao3 (s:St) (bk:List Key) (k:Key):∀(ks:List Key),(match jm k (vE s bk ks)with|some cs=>SV.agg cs|none=>.undef)=if k∈ks then(match(s (.box k)).v with| .agg cs=>.agg (eV s bk cs)|_=>.undef)else .undef
 | []=>rfl
 |u :: ks=>by
  simp only[vE]
  have ih:=ao3 s bk k ks
  by_cases gD:k=u
  ·subst gD
   simp only[List.mem_cons,true_or,if_true]
   cases hv:(s (.box k)).v with
   |agg cs=>simp[fh,sH,jm]
   |one c=>
    simp only[fh,sH]
    rw[ih]
    split<;>simp[hv]
   |aJ c=>
    simp only[fh,sH]
    rw[ih]
    split<;>simp[hv]
   |undef=>
    simp only[fh,sH]
    rw[ih]
    split<;>simp[hv]
  ·have:(match jm k (sH u (fh s bk (s (.box u)).v) (vE s bk ks))with|some cs=>SV.agg cs|none=>.undef)=(match jm k (vE s bk ks)with|some cs=>SV.agg cs|none=>.undef):=by
     cases(fh s bk (s (.box u)).v)<;>simp[sH,jm,gD]
   rw[this,ih]
   simp[gD]
theorem ao4 (s:St) (bk:List Key):∀(n i0 i:Nat),(qh s bk i0 n).getD i .undef=if i<n then fh s bk (s (.arg (i0+i))).v else .undef
 |0,i0,i=>by simp[qh]
 |n+1,i0,0=>by simp[qh]
 |n+1,i0,i+1=>by
  have:=ao4 s bk n (i0+1) i
  simp only[qh,List.getD_cons_succ,this]
  rw[show i0+1+i=i0+(i+1) by omega]
  simp
theorem ahl (s:St) (bk:List Key):∀(n i0:Nat),(qh s bk i0 n).length=n
 |0,_=>rfl
 |n+1,i0=>by simp[qh,ahl s bk n]
theorem ahm (s:St) (keys:List Nat) (bk:List Key) (n t:Nat):((fin s keys bk n).st (.tmp t)).v=if t∈keys then fh s bk (s (.tmp t)).v else .undef:=ao2 s bk t keys
theorem ahn (s:St) (keys:List Nat) (bk:List Key) (n:Nat) (k:Key):((fin s keys bk n).st (.box k)).v=if k∈bk then(match(s (.box k)).v with| .agg cs=>.agg (eV s bk cs)|_=>.undef)else .undef:=ao3 s bk k bk
theorem aho (s:St) (keys:List Nat) (bk:List Key) (n i:Nat):((fin s keys bk n).st (.arg i)).v=if i<n then fh s bk (s (.arg i)).v else .undef:=by
 have:=ao4 s bk n 0 i
 simp only[Nat.zero_add]at this
 exact this
theorem nQ (p:PS) (r:ah):(p.st r).hv=0∧(p.st r).cv=0:=by cases r<;>exact⟨rfl,rfl⟩
theorem tw (s:St) (bk:List Key):∀(cs:List C) (j:Nat),(eV s bk cs)[j]? =(cs[j]?).map (fI s bk)
 | [],_=>by simp[eV]
 |c :: cs,0=>by simp[eV]
 |c :: cs,j+1=>by simp only[eV,List.getElem?_cons_succ];exact tw s bk cs j
theorem zj (s:St) (bk:List Key):∀(cs:List C),(eV s bk cs).length=cs.length
 | []=>rfl
 |c :: cs=>by simp[eV,zj s bk cs]
theorem ao5 (s:St) (bk:List Key):∀(l m:List C),eV s bk (l++m)=eV s bk l++eV s bk m
 | [],m=>rfl
 |c :: l,m=>by simp[eV,ao5 s bk l m]
theorem ao6 (s:St) (bk:List Key):∀(vs:List (Bool×List C)),(qg s bk vs).flatMap (·.2)=eV s bk (vs.flatMap (·.2))
 | []=>rfl
 |(b,cs) :: vs=>by simp[qg,ao5,ao6 s bk vs]
theorem adw (s:St) (bk:List Key) (v:SV):(fh s bk v).cells=eV s bk v.cells:=by
 cases v with
 |one c=>rfl
 |agg cs=>rfl
 |aJ vs=>simp only[fh,SV.cells,ao6]
 |undef=>rfl
theorem ao7 (s:St) (bk:List Key):∀{us:List Value} {vs:List (Bool×List C)},au (cL iY) us vs→au (cL iY) us (qg s bk vs)
 | [],[],_=>trivial
 |u :: us,(b,cs) :: vs,h=>by
  refine⟨?_,ao7 s bk h.2⟩
  have h1:=h.1
  unfold cL at h1 ⊢
  cases b with
  |true=>
   simp only[if_true]at h1 ⊢
   obtain⟨ws,rfl,g⟩:=h1
   exact⟨ws,rfl,au.cW (by rw[g.length,zj]) fun _ _ _ _ _=>trivial⟩
  |false=>
   simp only[Bool.false_eq_true,if_false]at h1 ⊢
   obtain⟨c,rfl,g,_⟩:=h1
   exact⟨fI s bk c,by simp[eV],g,trivial⟩
theorem ayD {s:St} {bk:List Key} {u:Value} {v:SV} (h:aY iY u v):aY iY u (fh s bk v):=by
 cases v with
 |one c=>exact⟨h.1,trivial⟩
 |agg cs=>obtain⟨ws,h1,h2⟩:=h;exact⟨ws,h1,au.cW (by rw[h2.length,zj]) fun _ _ _ _ _=>trivial⟩
 |aJ vs=>obtain⟨ws,h1,h2⟩:=h;exact⟨ws,h1,ao7 s bk h2⟩
 |undef=>trivial
theorem ayE {s:St} {bk:List Key} {c:C} {e:Nat} {xs:List (List D)} (h:fI s bk c= .own e xs):c= .own e xs:=by
 cases c<;>simp only[fI]at h<;>first|exact h|(split at h<;>cases h)|cases h
theorem aHR {s:St} {bk:List Key} {c:C} {d:D} (h:fI s bk c= .d d):c= .d d:=by
 cases c<;>simp only[fI]at h<;>first|exact h|(split at h<;>cases h)|cases h
theorem ayF {s:St} {bk:List Key} {c:C} (h:fI s bk c≠ .dead):c≠ .dead:=by rintro rfl;exact h rfl
section
variable {K:Ctx} {β:Key→Option Nat} {ω:Nat→Option bX} {Z:Nat→Prop} {s:St} {a:Act} {w:World}
theorem Rel.fin (h:Rel K β ω Z s a w) (keys:List Nat) (bk:List Key) {n:Nat} (hn:n=K.argv.size) (hin:∀k b,K.gA k=some b→k∈bk):∃β',Rel K β' ω Z (fin s keys bk n).st a w:=by
 generalize hs':(Vs.fin s keys bk n).st=s'
 have ht:∀t,(s' (.tmp t)).v=if t∈keys then fh s bk (s (.tmp t)).v else .undef:=fun t=>by rw[←hs'];exact ahm ..
 have hb:∀k,(s' (.box k)).v=if k∈bk then(match(s (.box k)).v with| .agg cs=>.agg (eV s bk cs)|_=>.undef)else .undef:=fun k=>by rw[←hs'];exact ahn ..
 have ha:∀i,(s' (.arg i)).v=if i<n then fh s bk (s (.arg i)).v else .undef:=fun i=>by rw[←hs'];exact aho ..
 have hz:∀r,(s' r).hv=0∧(s' r).cv=0:=fun r=>by rw[←hs'];exact nQ _ r
 have hcells:∀(r:ah) (j:Nat) (c:C),(s' r).v.cells[j]? =some c→(∃c0,(s r).v.cells[j]? =some c0∧c=fI s bk c0)∧(∀k,r= .box k→k∈bk∧∃cs,(s r).v= .agg cs):=by
  intro r j c hc
  cases r with
  |tmp t=>
   rw[ht]at hc
   split at hc
   ·rw[adw,tw]at hc
    cases hc0:(s (.tmp t)).v.cells[j]? with
    |none=>rw[hc0]at hc;cases hc
    |some c0=>rw[hc0]at hc;simp only[Option.map_some,Option.some.injEq]at hc;exact⟨⟨c0,rfl,hc.symm⟩,by simp⟩
   ·simp[SV.cells]at hc
  |box k=>
   rw[hb]at hc
   split at hc
   ·rename_i hk
    cases hv:(s (.box k)).v with
    |agg cs=>
     rw[hv]at hc
     simp only[SV.cells]at hc
     rw[tw]at hc
     cases hc0:cs[j]? with
     |none=>rw[hc0]at hc;cases hc
     |some c0=>rw[hc0]at hc;simp only[Option.map_some,Option.some.injEq]at hc;exact⟨⟨c0,hc0,hc.symm⟩,fun k' e=>by cases e;exact⟨hk,cs,rfl⟩⟩
    |one c=>rw[hv]at hc;simp[SV.cells]at hc
    |aJ x=>rw[hv]at hc;simp[SV.cells]at hc
    |undef=>rw[hv]at hc;simp[SV.cells]at hc
   ·simp[SV.cells]at hc
  |arg i=>
   rw[ha]at hc
   split at hc
   ·rw[adw,tw]at hc
    cases hc0:(s (.arg i)).v.cells[j]? with
    |none=>rw[hc0]at hc;cases hc
    |some c0=>rw[hc0]at hc;simp only[Option.map_some,Option.some.injEq]at hc;exact⟨⟨c0,rfl,hc.symm⟩,by simp⟩
   ·simp[SV.cells]at hc
 let β':Key→Option Nat:=fun k=>match(s' (.box k)).v with| .agg _=>β k|_=>none
 have yK:∀k cs,(s' (.box k)).v= .agg cs→β' k=β k:=fun k cs hk=>by simp only[β',hk]
 have ao8:∀k,(s' (.box k)).v= .undef→β' k=none:=fun k hk=>by simp only[β',hk]
 have adx:∀k b,β k=some b→k∈bk→β' k=some b:=by
  intro k b lM hk
  have cr:=h.boxes k
  cases hv:(s (.box k)).v with
  |agg cs=>rw[yK k (eV s bk cs) (by rw[hb,if_pos hk,hv])];exact lM
  |undef=>rw[hv]at cr;simp only[dc]at cr;rw[cr]at lM;cases lM
  |one c=>rw[hv]at cr;exact cr.elim
  |aJ x=>rw[hv]at cr;exact cr.elim
 have bB:∀(r:ah) (j:Nat),(s' r).at j≠ .dead→(s r).at j≠ .dead∧(∀e ys,(s r).at j= .own e ys→(s' r).at j= .own e ys)∧(∀d,(s r).at j= .d d→(s' r).at j= .d d)∧(∀k,r= .box k→k∈bk∧∃cs,(s r).v= .agg cs):=by
  intro r j hal
  cases hc:(s' r).v.cells[j]? with
  |none=>exact absurd (by simp[RV.at,List.getD_eq_getElem?_getD,hc]) hal
  |some c=>
   obtain⟨⟨c0,h0,h1⟩,h2⟩:=hcells r j c hc
   have e0:=sJ h0
   have e1:=sJ hc
   rw[e1]at hal
   refine⟨?_,fun e ys ho=>?_,fun d ho=>?_,h2⟩
   ·rw[e0]
    rw[h1]at hal;exact ayF hal
   ·rw[e1];rw[e0]at ho;subst ho;rw[h1];rfl
   ·rw[e1];rw[e0]at ho;subst ho;rw[h1];rfl
 have fk:∀(r:ah) (j:Nat),(∀k,r= .box k→k∈bk∧∃cs,(s r).v= .agg cs)→bP K β' a w r j=bP K β a w r j:=by
  intro r j hr
  cases r with
  |tmp t=>rfl
  |arg i=>rfl
  |box k=>
   obtain⟨hk,cs,hv⟩:=hr k rfl
   simp only[bP]
   rw[yK k (eV s bk cs) (by rw[hb,if_pos hk,hv])]
 have ao9:∀(c:C) (u:Value),ax K β Z s a w c u→ax K β' Z s' a w (fI s bk c) u:=by
  intro c u bu
  cases c with
  |d x=>exact bu
  |own e xs=>exact bu
  |dead=>trivial
  |da xs=>exact bu
  |ea r j hv e i off=>trivial
  |ptr k off=>
   simp only[fI]
   split
   ·rename_i hk
    obtain⟨b,g1,g2⟩:=bu
    exact⟨b,adx k b g1 (by simpa using hk),g2⟩
   ·trivial
  |bW f caps=>
   simp only[fI]
   split
   ·rename_i hk
    obtain⟨vs,g1,g2⟩:=bu
    refine⟨vs,g1,g2.gV fun u p hp ⟨b,q1,q2⟩=>⟨b,adx p.1 b q1 ?_,q2⟩⟩
    have:=List.all_eq_true.1 hk p hp
    simpa using this
   ·trivial
  |aD r j hv cv e k xs=>
   simp only[fI]
   split
   ·rename_i vV
    by_cases hm:aW e=true
    ·obtain⟨b,g1,g4,g5,g6⟩:=(ax.mA hm).1 bu
     refine(ax.mA hm).2 ⟨b,g1,by omega,by omega,fun _ hal=>?_⟩
     obtain⟨q1,q2,q3,q4⟩:=bB r j hal
     obtain⟨f1,ys,f8,f9⟩:=g6 vV.1 q1
     refine⟨by rw[fk r j q4];exact f1,ys,?_,fun _=>f9 vV.2⟩
     rcases f8 with f8|f8
     ·exact .inl (q2 _ _ f8)
     ·exact .inr (q3 _ f8)
    have hm:aW e=false:=by simpa using hm
    obtain⟨dU,cap',g1,g2,g3,g4,g5,g6⟩:=(ax.lB hm).1 bu
    refine(ax.lB hm).2 ⟨dU,cap',g1,g2,g3,by omega,by omega,fun _ hal=>?_⟩
    obtain⟨q1,q2,q3,q4⟩:=bB r j hal
    obtain⟨ad,len,cap,f1,f2,f3,f4,oR,f5,f6,f7,ys,f8,f9⟩:=g6 vV.1 q1
    refine⟨ad,len,cap,by rw[fk r j q4];exact f1,f2,f3,f4,oR,f5,f6,f7,ys,?_,fun _=>f9 vV.2⟩
    rcases f8 with f8|f8
    ·exact .inl (q2 _ _ f8)
    ·exact .inr (q3 _ f8)
   ·trivial
 have oQ:∀(v:SV) (u:Value),aY (ax K β Z s a w) u v→aY (ax K β' Z s' a w) u (fh s bk v):=by
  intro v u hv
  refine aY.of_flat (ayD hv.shape) fun hu=>?_
  have fK:v≠ .undef:=by rintro rfl;exact hu rfl
  have hf:=hv.flat fK
  rw[adw]
  refine au.cW (by rw[hf.length,zj]) fun j x c hx hc=>?_
  rw[tw]at hc
  cases hc0:v.cells[j]? with
  |none=>rw[hc0]at hc;cases hc
  |some c0=>
   rw[hc0]at hc
   simp only[Option.map_some,Option.some.injEq]at hc
   subst hc
   obtain⟨x',g1,g2⟩:=hf.get hc0
   rw[hx]at g1
   cases g1
   exact ao9 c0 x g2
 have hown:∀(r:ah) (j e:Nat) (xs:List (List D)),(s' r).v.cells[j]? =some (.own e xs)→(s r).v.cells[j]? =some (.own e xs)∧bP K β' a w r j=bP K β a w r j:=by
  intro r j e xs hc
  obtain⟨⟨c0,h0,h1⟩,h2⟩:=hcells r j _ hc
  have:=ayE h1.symm
  subst this
  exact⟨h0,fk r j h2⟩
 refine⟨β',h.size,h.defers,h.os,h.tape,h.output,h.base,h.frame,h.dH,h.jr,?_,?_,?_,?_,?_,?_,h.cZ,?_⟩
 ·intro b hb'
  rcases h.kg b hb' with g|g|g|⟨i,j,e,ys,u0,g1,g2,g3⟩
  ·exact .inl g
  ·exact .inr (.inl g)
  ·exact .inr (.inr (.inl g))
  ·refine .inr (.inr (.inr ⟨i,j,e,ys,u0,?_,g2,g3⟩))
   have hi:i<n:=by
    rw[hn]
    by_cases hi:i<K.argv.size
    ·exact hi
    ·exfalso
     rw[Array.getD_eq_getD_getElem?,Array.getElem?_eq_none (by omega)]at g2
     simp[undef,flat]at g2
   rw[ha,if_pos hi,adw,tw,g1]
   rfl
 ·intro t
  rw[ht]
  split
  ·exact oQ _ _ (h.tmps t)
  ·trivial
 ·intro i
  rw[ha]
  split
  ·exact oQ _ _ (h.args i)
  ·trivial
 ·intro k
  rw[hb]
  by_cases hk:k∈bk
  ·rw[if_pos hk]
   have cr:=h.boxes k
   cases hv:(s (.box k)).v with
   |agg cs=>
    obtain⟨b,ws,el,lo,hi,g1,g2,g3,g4,g5⟩:=dc.cell h hv
    refine⟨b,ws,el,lo,hi,adx k b g1 hk,g2,g3,g4,au.cW (by rw[g5.length,zj]) fun j u c hu hc=>?_⟩
    rw[tw]at hc
    cases hc0:cs[j]? with
    |none=>rw[hc0]at hc;cases hc
    |some c0=>
     rw[hc0]at hc
     simp only[Option.map_some,Option.some.injEq]at hc
     subst hc
     obtain⟨u',q1,q2⟩:=g5.get hc0
     rw[hu]at q1
     cases q1
     exact ao9 c0 u q2
   |undef=>exact ao8 k (by rw[hb,if_pos hk,hv])
   |one c=>rw[hv]at cr;exact cr.elim
   |aJ x=>rw[hv]at cr;exact cr.elim
  ·rw[if_neg hk]
   exact ao8 k (by rw[hb,if_neg hk])
 ·intro r j e xs u1 b1 hr hc hh aM
  obtain⟨g1,g2⟩:=hown r j e xs hc
  rw[g2]at hh
  exact h.own r j e xs u1 b1 hr g1 hh aM
 ·intro i j e xs u1 b1 hc hh aM
  exact h.fT i j e xs u1 b1 (hown (.arg i) j e xs hc).1 hh aM
 ·intro k b hb'
  exact adx k b (h.kj k b hb') (hin k b hb')
end
end
end Go.Vs
namespace Go.Vs
def lN:Ex→Exit
 | .normal=>.normal
 | .exit i=>.exit i
 | .ret=>.ret
def ck (K:Ctx) (p:PS) (a:Act) (w:World):Prop:=Good K p.st a w∧p.args.length=K.argv.size
def Post (K:Ctx) (Q:Ex→PS→Prop) (e:Exit) (a:Act) (w:World):Prop:=∃x p,e=lN x∧Q x p∧ck K p a w
def ahp (K:Ctx) (F:VF):Prop:=∀k b,K.gA k=some b→k.isIn=true∧k∈F.aQ
section
variable {K:Ctx} {F:VF}
theorem ck.fin {p:PS} {s:St} {a:Act} {w:World} (hl:p.args.length=K.argv.size) (hg:Good K s a w) {keys:List Nat} {bk:List Key} (hin:∀k b,K.gA k=some b→k∈bk):ck K (fin s keys bk p.args.length) a w:=by
 obtain⟨β,ω,Z,h⟩:=hg
 obtain⟨β',h'⟩:=h.fin keys bk hl hin
 refine⟨⟨β',ω,Z,h'⟩,?_⟩
 rw[←hl]
 exact ahl ..
theorem ck.forget (hk:ahp K F) {p:PS} {a:Act} {w:World} (h:ck K p a w) {live:List Nat} {bl:List Key} (hb:ahj F.aQ bl=true):ck K (forget live bl p) a w:=by
 refine ck.fin h.2 h.1 fun k b lM=>?_
 obtain⟨h1,h2⟩:=hk k b lM
 have:=List.all_eq_true.1 hb k h2
 simpa[h1]using this
theorem ayG (hC:iF K.P F.cfg) (hN:K.N=F.cfg.N) (jQ:K.P.follows .mixedOrders=true) (hk:ahp K F):∀(c:Code) (p:PS) (Q:Ex→PS→Prop) (a:Act) (w:World),eK F c p Q→ck K p a w→c.wp K.P (Post K Q) a w:=by
 intro c
 induction c with
 |skip=>intro p Q a w h hp;exact wp_skip ⟨.normal,p,rfl,by simpa only[eK]using h,hp⟩
 |exit id=>intro p Q a w h hp;exact wp_exit ⟨.exit id,p,rfl,by simpa only[eK]using h,hp⟩
 |ret=>intro p Q a w h hp;exact wp_ret ⟨.ret,p,rfl,by simpa only[eK]using h,hp⟩
 |region id ops draw=>
  intro p Q a w h hp
  cases draw with
  |false=>
   simp only[eK]at h
   cases hr:lu F.cfg ops ops.toList p.st with
   |none=>rw[hr]at h;exact h.elim
   |some s=>
    rw[hr]at h
    exact ahh hC hN jQ hr (by simp) hp.1 fun a' w' hg=>⟨.normal,_,rfl,h,ck.fin hp.2 hg fun k b hb=>(hk k b hb).2⟩
  |true=>
   simp only[eK]at h
   cases hr:lK F.cfg ops ops.toList p.st with
   |none=>rw[hr]at h;exact h.elim
   |some x=>
    obtain⟨s,cB⟩:=x
    rw[hr]at h
    obtain⟨h1,h2⟩:=h
    obtain⟨e1,e2⟩:=adu F.cfg ops _ _ _ _ hr
    simp only[qE,Bool.and_eq_true]at h1
    refine ahh hC hN jQ e1 (fun _=>⟨?_,h1.1⟩) hp.1 fun a' w' hg=>⟨.normal,_,rfl,h2,ck.fin hp.2 hg fun k b hb=>(hk k b hb).2⟩
    unfold adr
    rw[e2]
    exact h1.2
 |seq x y nR o9=>
  intro p Q a w h hp
  simp only[eK]at h
  refine wp_seq (wp_mono (nR p _ a w h hp) ?_)
  rintro e a' w' ⟨ex,p',rfl,hq,hp'⟩
  cases ex with
  |normal=>exact o9 p' Q a' w' hq hp'
  |exit i=>exact⟨_,p',rfl,hq,hp'⟩
  |ret=>exact⟨_,p',rfl,hq,hp'⟩
 |cond c x y nR o9=>
  intro p Q a w h hp
  simp only[eK]at h
  have hc:∀b,vU c p=some b→a.eval c= .bool b:=by
   intro b hb
   unfold vU at hb
   split at hb
   ·rename_i t
    split at hb
    ·rename_i b' hl
     cases hb
     obtain⟨β,ω,Z,hr⟩:=hp.1
     have:=hr.tmps t
     simp only[PS.st,hl,Option.getD_some]at this
     have h2:=this.2
     simp only[ax,bL]at h2
     exact h2
    ·cases hb
   ·cases hb;rfl
   ·cases hb
  cases hv:vU c p with
  |none=>rw[hv]at h;exact h.elim
  |some b=>
   rw[hv]at h
   exact wp_cond_split (hc b hv) (fun hb=>nR p Q a w (h.1 hb) hp) (fun hb=>o9 p Q a w (h.2 hb) hp)
 |block id b ih=>
  intro p Q a w h hp
  simp only[eK]at h
  refine wp_block (wp_mono (ih p _ a w h hp) ?_)
  rintro e a' w' ⟨ex,p',rfl,hq,hp'⟩
  cases ex with
  |normal=>exact⟨.normal,p',rfl,hq,hp'⟩
  |exit i=>
   simp only[lN,Exit.inBlock]
   simp only at hq
   by_cases hi:i=id
   ·rw[if_pos hi]at hq ⊢;exact⟨.normal,p',rfl,hq,hp'⟩
   ·rw[if_neg hi]at hq ⊢;exact⟨.exit i,p',rfl,hq,hp'⟩
  |ret=>exact⟨.ret,p',rfl,hq,hp'⟩
 |loop b ih=>
  intro p Q a w h hp
  obtain⟨live,bl,I,μ,hb,h0,hstep⟩:∃(live:List Nat) (bl:List Key) (I:PS→Prop) (μ:PS→Nat),ahj F.aQ bl=true∧I (forget live bl p)∧∀q,I q→eK F b q fun e q'=>match e with
   | .normal=>I (forget live bl q')∧μ (forget live bl q')<μ q
   |e=>Q e q':=h
  intro fb k cs
  have key:∀n q a w,μ q=n→I q→ck K q a w→
    ∃e a' w',Post K Q e a' w'∧Arrives K.P (lone (fb.at a (.code b :: .inLoop b :: k)) cs w) fb k cs e a' w':=by
   intro n
   induction n using Nat.strongRecOn with
   |_ n ihn=>
    intro q a w hn hI hq
    obtain⟨e,a₁,w₁,⟨ex,p',rfl,hQ,hp'⟩,fM⟩:=ih q _ a w (hstep q hI) hq fb (.inLoop b :: k) cs
    cases ex with
    |normal=>
     obtain⟨ayH,hlt⟩:=hQ
     obtain⟨e₂,a₂,w₂,zk,zm⟩:=ihn _ (hn ▸ hlt) _ a₁ w₁ rfl ayH (hp'.forget hk hb)
     exact⟨e₂,a₂,w₂,zk,.of_steps (Steps.trans fM (.one step_inLoop)) zm⟩
    |exit id=>exact⟨_,a₁,w₁,⟨_,p',rfl,hQ,hp'⟩,.pass (x:=.inLoop b) rfl (fun _ _=>.inl (by simp[lN])) fM⟩
    |ret=>exact⟨_,a₁,w₁,⟨_,p',rfl,hQ,hp'⟩,.pass (x:=.inLoop b) rfl (fun _ _=>.inl (by simp[lN])) fM⟩
  obtain⟨e,a',w',hq,fM⟩:=key _ _ a w rfl h0 (hp.forget hk hb)
  exact⟨e,a',w',hq,.of_steps (.one step_loop) fM⟩
 |scope b ih=>
  intro p Q a w h hp
  simp only[eK]at h
  refine wp_scope_straight (wp_mono (ih p Q a w h hp) ?_)
  rintro e a' w' ⟨ex,p',rfl,hq,hp'⟩
  cases ex<;>exact⟨_,p',rfl,hq,hp'⟩
 |_=>intro p Q a w h hp;simp only[eK]at h
end
end Go.Vs
namespace Go.Vs
noncomputable section
def vW (cfg:aP):ResultVar→Prog SV
 | .tmp t=>ev (.tmp t)
 | .cell a t=>match cfg.ti t with
   |some i=>do oI i (←dw (.tmp a))
   |none=>.fail
def vX (cfg:aP):List ResultVar→Prog (List SV)
 | []=>.ret []
 |r :: rs=>do let v ←vW cfg r;let vs ←vX cfg rs;.ret (v :: vs)
def tA:C→Prog C
 | .aD (.arg i) j hv cv e k xs=>do let x ←jH (.aD (.arg i) j hv cv e k xs);.ret (.d x)
 |c=>.ret c
def qF:List C→Prog (List C)
 | []=>.ret []
 |c :: cs=>do let c' ←tA c;let r ←qF cs;.ret (c' :: r)
def mN:SV→Prog SV
 | .one c=>do .ret (.one (←tA c))
 | .agg cs=>do .ret (.agg (←qF cs))
 |_=>.fail
def vY:List SV→Prog (List SV)
 | []=>.ret []
 |v :: vs=>do let v' ←mN v;let r ←vY vs;.ret (v' :: r)
def easy:C→Bool
 | .d _| .own _ _| .ptr _ _| .dead=>true
 |_=>false
def settle (k:Key):Prog Unit:=
 .get (.box k) fun x=>match x.v with
  | .agg cs=>if cs.all easy=true then .ret ()else do
    let cs' ←qF cs
    cY (.box k) { hv:=x.hv+1,cv:=x.cv,v:=.agg cs' }
  |_=>.fail
def vZ:List Key→Prog Unit
 | []=>.ret ()
 |k :: ks=>do settle k;vZ ks
def ady:List SV→SV
 | [v]=>v
 |vs=>.aJ (vs.map fun v=>match v with| .one c=>(false,[c])| .agg cs=>(true,cs)|_=>(false,[]))
def qG:List Value→Value
 | [u]=>u
 |us=>.tuple us.toArray
def apa (d:Bool):ah→Bool
 | .tmp _=> !d
 | .box (.inb _)=>false
 | .box _=> !d
 | .arg _=>false
def tB (ks:List Key):C→Prog C
 | .d x=>.ret (.d x)
 | .own e xs=>.ret (.own e xs)
 | .ptr k off=>do need (k∈ks);.ret (.ptr (.inb (idx k ks)) off)
 | .bW f caps=>do need (caps=[]);.ret (.bW f [])
 |_=>.fail
def qH (ks:List Key):List C→Prog (List C)
 | []=>.ret []
 |c :: cs=>do let c' ←tB ks c;let r ←qH ks cs;.ret (c' :: r)
def tC (ks:List Key):List (Bool×List C)→Prog (List (Bool×List C))
 | []=>.ret []
 |(b,cs) :: vs=>do let cs' ←qH ks cs;let r ←tC ks vs;.ret ((b,cs') :: r)
def kG (ks:List Key):SV→Prog SV
 | .one c=>do .ret (.one (←tB ks c))
 | .agg cs=>do .ret (.agg (←qH ks cs))
 | .aJ vs=>do .ret (.aJ (←tC ks vs))
 | .undef=>.fail
def fP (n:Nat):List Key:=(List.range n).map .inb
def qI (nb:Nat) (cs:List C):List Key:=fP nb++(dedup (eO cs)).filter fun k=> !k.isIn
def mO (cfg:aP) (res:List ResultVar) (nb:Nat):Prog (SV×List (List C)):=do
 let vs ←vX cfg res
 let ks:=qI nb (vs.flatMap SV.cells)
 vZ ks
 let iE ←vY vs
 let v2 ←jG (.tmp 0) (apa cfg.bK) (ady iE)
 let bs ←sF ks ks
 let v3 ←kG ks v2
 .ret (v3,bs)
def adz (i:Nat) (v:SV):SV:=RV.copy { v } (.arg i)
def qJ:Nat→List SV→List (Nat×SV)
 |_,[]=>[]
 |i,v :: vs=>(i,adz i v) :: qJ (i+1) vs
def qK:Nat→List (List C)→List (Key×List C)
 |_,[]=>[]
 |i,b :: bs=>(.inb i,b) :: qK (i+1) bs
def lO (args:List SV) (boxes:List (List C)):PS:={ slots:=qJ 0 args,boxes:=qK 0 boxes,args }
def Ends (cfg:aP) (res:List ResultVar) (args:List SV) (nb:Nat) (r:gS) (e:Ex) (p:PS):Prop:=
 (e= .normal∨e= .ret)∧match(mO cfg res nb).exec p.st with
   |some ((v,bs),s)=>v=r.v∧bs=r.boxes∧∀i,i<args.length→(s (.arg i)).v=(gU r.aB args).getD i .undef
   |none=>False
section
variable {K:Ctx} {β:Key→Option Nat} {ω:Nat→Option bX} {Z:Nat→Prop} {s:St} {a:Act} {w:World} {cfg:aP}
def tD (a:Act):ResultVar→Sem Value
 | .tmp t=>pure (a.tmps.getD t undef)
 | .cell b t=>do loadVar t (←asAddr (a.tmps.getD b undef))
theorem ayI (hT:eS K.P cfg) (h:Rel K β ω Z s a w) {r:ResultVar} {v:SV} {s':St} (he:(vW cfg r).exec s=some (v,s')):
  s'=s∧∃u,(tD a r).run K.P w= .ok u w∧aY (ax K β Z s a w) u v∧(∀c∈v.cells,bQ c):=by
 cases r with
 |tmp t=>
  simp only[vW]at he
  obtain⟨hs,h1,h2,h3⟩:=fm h he
  exact⟨hs,_,rfl,h1,h2⟩
 |cell b t=>
  simp only[vW]at he
  split at he
  ·rename_i i hi
   obtain⟨c,s1,h1,ak⟩:=av he
   obtain⟨hs1,ho,hc,hno⟩:=ew h h1
   subst hs1
   obtain⟨hs2,x,g1,g2,g3⟩:=anp h (hT.T t i hi) hc ak
   refine⟨hs2,x,?_,g2,g3⟩
   have hp:∃ad,a.tmps.getD b undef= .pointer (some ad):=by
    have cA:ax K β Z s1 a w c (a.tmps.getD b undef):=hc
    unfold oI at ak
    split at ak
    ·obtain⟨b',_,g⟩:=cA;exact⟨_,g⟩
    ·obtain⟨b',o',g,_⟩:=cA;exact⟨_,g⟩
    ·obtain⟨b',o',g,_⟩:=cA;exact⟨_,g⟩
    ·simp[Prog.exec]at ak
   obtain⟨ad,had⟩:=hp
   have mM:(Instr.loadAt t (a.tmps.getD b undef)).run K.P w= .ok x w:=g1
   simp only[tD]
   rw[had]at mM ⊢
   simpa[Instr.loadAt,Instr.sureAddr,asAddr]using mM
  ·simp[Prog.exec]at he
theorem apb {α:Type} {P:Program} {w:World} (f:α→Sem Value):∀(l:List α) (us:List Value),au (fun x u=>(f x).run P w= .ok u w) l us→(l.mapM f).run P w= .ok us w
 | [],[],_=>rfl
 |x :: l,u :: us,h=>by
  have h1:=h.1
  have h2:=apb f l us h.2
  simp[List.mapM_cons,h1,h2]
theorem ayJ (hT:eS K.P cfg) (h:Rel K β ω Z s a w):∀(rs:List ResultVar) (vs:List SV) (s':St),(vX cfg rs).exec s=some (vs,s')→
  s'=s∧∃us,au (fun r u=>(tD a r).run K.P w= .ok u w) rs us∧au (fun u v=>aY (ax K β Z s a w) u v∧(∀c∈v.cells,bQ c)) us vs:=by
 intro rs
 induction rs with
 |nil=>
  intro vs s' he
  obtain⟨rfl,rfl⟩:=aE he
  exact⟨rfl,[],trivial,trivial⟩
 |cons r rs ih=>
  intro vs s' he
  simp only[vX]at he
  obtain⟨v1,s1,h1,dZ⟩:=av he
  obtain⟨iE,s2,h2,ak⟩:=av dZ
  obtain⟨rfl,rfl⟩:=aE ak
  obtain⟨rfl,u,g1,g2⟩:=ayI hT h h1
  obtain⟨rfl,us,g3,g4⟩:=ih _ _ h2
  exact⟨rfl,u :: us,⟨g1,g3⟩,⟨g2,g4⟩⟩
theorem ayK {fn:Func} {us:List Value} (h:au (fun r u=>(tD a r).run K.P w= .ok u w) fn.results.toList us):(results fn a.tmps).run K.P w= .ok (qG us) w:=by
 have h1:=apb (P:=K.P) (w:=w) (tD a) _ us h
 have h2:results fn a.tmps=(do let vs ←fn.results.mapM (tD a);pure (if h:vs.size=1 then vs[0]else .tuple vs)):=by
  unfold results
  congr 1
 rw[h2,Array.mapM_eq_mapM_toList]
 simp only[map_eq_pure_bind,bind_assoc,pure_bind]
 have:∀(v:Value),qG us=v→(List.mapM (tD a) fn.results.toList >>= fun a=>(pure (if h:a.toArray.size=1 then a.toArray[0]else Value.tuple a.toArray):Sem Value)).run K.P w= .ok v w:=by
  intro v hv
  simp only[Sem.run_bind,h1]
  simp
  subst hv
  match us with
  | []=>rfl
  | [u]=>rfl
  |u :: u' :: us=>simp[qG]
 exact this _ rfl
def CB (K:Ctx) (β:Key→Option Nat) (Z:Nat→Prop) (s:St) (a:Act) (w:World) (u:Value) (c:C):Prop:=
 ax K β Z s a w c u∧∀(e:Nat) (xs:List (List D)) (b:Nat),c= .own e xs→cP u=some b→b<w.heap.size
theorem CB.lift {ω':Nat→Option bX} {Z':Nat→Prop} {s':St} (hr:Rel K β ω Z s a w) (k:Calm K β a ω Z s w ω' Z' s' w) {u:Value} {c:C} (h:CB K β Z s a w u c):CB K β Z' s' a w u c:=
 ⟨k.iq hr.dH h.2 h.1,h.2⟩
theorem ayL {i j:Nat} {x:RV} {y:Unit} {s s':St} (he:(ld (.arg i) j x).exec s=some (y,s')):∀k,s' (.box k)=s (.box k):=by
 intro k
 unfold ld at he
 split at he
 ·simp only[cY,Prog.exec,Option.some.injEq,Prod.mk.injEq]at he
  obtain⟨_,rfl⟩:=he
  simp[St.set]
 ·obtain⟨_,rfl⟩:=aE he;rfl
 ·simp[Prog.exec]at he
theorem apc (h:Rel K β ω Z s a w) {c c':C} {u:Value} {s':St} (bu:CB K β Z s a w u c) (he:(tA c).exec s=some (c',s')):
  (∃ω' Z',Rel K β ω' Z' s' a w∧Calm K β a ω Z s w ω' Z' s' w∧CB K β Z' s' a w u c')∧(∀(e:Nat) (xs:List (List D)),c'=C.own e xs→c=C.own e xs)∧(∀k,s' (.box k)=s (.box k)):=by
 unfold tA at he
 split at he
 ·rename_i i j hv cv e k xs
  obtain⟨x,s1,h1,ak⟩:=av he
  obtain⟨rfl,rfl⟩:=aE ak
  obtain⟨ω',Z',r1,k1,d1⟩:=acL h bu.1 h1
  refine⟨⟨ω',Z',r1,k1,d1,by simp⟩,by simp,?_⟩
  simp only[jH,Prog.exec]at h1
  obtain⟨_,s2,g1,h1⟩:=av h1
  obtain⟨_,rfl⟩:=bS g1
  obtain⟨_,s3,g2,h1⟩:=av h1
  obtain⟨_,rfl⟩:=aE h1
  exact ayL g2
 ·obtain⟨rfl,rfl⟩:=aE he
  exact⟨⟨ω,Z,h,Calm.refl,bu⟩,fun _ _ h=>h,fun _=>rfl⟩
theorem apd:∀(cs:List C) (us:List Value) (ω:Nat→Option bX) (Z:Nat→Prop) (s s':St) (cs':List C),Rel K β ω Z s a w→au (CB K β Z s a w) us cs→(qF cs).exec s=some (cs',s')→
  (∃ω' Z',Rel K β ω' Z' s' a w∧Calm K β a ω Z s w ω' Z' s' w∧au (CB K β Z' s' a w) us cs')∧(∀(j e:Nat) (xs:List (List D)),cs'[j]? =some (C.own e xs)→cs[j]? =some (C.own e xs))∧(∀k,s' (.box k)=s (.box k)):=by
 intro cs
 induction cs with
 |nil=>
  intro us ω Z s s' cs' h hall he
  obtain⟨rfl,rfl⟩:=aE he
  exact⟨⟨ω,Z,h,Calm.refl,hall⟩,fun _ _ _ h=>h,fun _=>rfl⟩
 |cons c cs ih=>
  intro us ω Z s s' cs' h hall he
  cases us with
  |nil=>exact hall.elim
  |cons u us=>
   simp only[qF]at he
   obtain⟨c1,s1,h1,dZ⟩:=av he
   obtain⟨ey,s2,h2,ak⟩:=av dZ
   obtain⟨rfl,rfl⟩:=aE ak
   obtain⟨⟨ct,Z1,r1,k1,p1⟩,q1,b1⟩:=apc h hall.1 h1
   obtain⟨⟨fq,Z2,r2,k2,p2⟩,q2,b2⟩:=ih us ct Z1 s1 _ ey r1 (au.mono (fun _ _ hh=>hh.lift h k1) hall.2) h2
   refine⟨⟨fq,Z2,r2,k1.trans k2,p1.lift r1 k2,p2⟩,?_,fun k=>(b2 k).trans (b1 k)⟩
   intro j e xs hj
   cases j with
   |zero=>simp only[List.getElem?_cons_zero,Option.some.injEq]at hj ⊢;exact q1 e xs hj
   |succ j=>simp only[List.getElem?_cons_succ]at hj ⊢;exact q2 j e xs hj
def VR (K:Ctx) (β:Key→Option Nat) (Z:Nat→Prop) (s:St) (a:Act) (w:World) (u:Value) (v:SV):Prop:=aY (ax K β Z s a w) u v∧(∀c∈v.cells,bQ c)
theorem VR.lift {ω':Nat→Option bX} {Z':Nat→Prop} {s':St} {w':World} (hr:Rel K β ω Z s a w) (k:Calm K β a ω Z s w ω' Z' s' w') {u:Value} {v:SV} (h:VR K β Z s a w u v):VR K β Z' s' a w' u v:=
 ⟨aY.mono (fun c _ hc bu=>k.iq hr.dH (fun e xs _ hx _=>absurd hx (h.2 c hc e xs)) bu) h.1,h.2⟩
def adA:SV→Prop
 | .one _| .agg _=>True
 |_=>False
theorem ayM (h:Rel K β ω Z s a w) {v v':SV} {u:Value} {s':St} (hv:VR K β Z s a w u v) (he:(mN v).exec s=some (v',s')):
  ∃ω' Z',Rel K β ω' Z' s' a w∧Calm K β a ω Z s w ω' Z' s' w∧VR K β Z' s' a w u v'∧adA v':=by
 cases v with
 |one c=>
  simp only[mN]at he
  obtain⟨c1,s1,h1,ak⟩:=av he
  obtain⟨rfl,rfl⟩:=aE ak
  have hno:=hv.2 c (by simp[SV.cells])
  obtain⟨⟨ct,Z1,r1,k1,p1⟩,q1,_⟩:=apc h ⟨hv.1.2,fun e xs _ hx _=>absurd hx (hno e xs)⟩ h1
  exact⟨ct,Z1,r1,k1,⟨⟨hv.1.1,p1.1⟩,by intro x hx;simp only[SV.cells,List.mem_singleton]at hx;subst hx;exact fun e xs hx=>hno e xs (q1 e xs hx)⟩,trivial⟩
 |agg cs=>
  simp only[mN]at he
  obtain⟨c1,s1,h1,ak⟩:=av he
  obtain⟨rfl,rfl⟩:=aE ak
  obtain⟨ws,hu,hall⟩:=hv.1
  obtain⟨⟨ct,Z1,r1,k1,p1⟩,q1,_⟩:=apd cs ws.toList ω Z s _ _ h (hall.gV fun u c hc hr=>⟨hr,fun e xs _ hx _=>absurd hx (hv.2 c hc e xs)⟩) h1
  refine⟨ct,Z1,r1,k1,⟨⟨ws,hu,au.mono (fun _ _ hh=>hh.1) p1⟩,?_⟩,trivial⟩
  intro c hc e xs hx
  obtain⟨j,hj⟩:=List.getElem?_of_mem hc
  subst hx
  exact hv.2 _ (List.mem_of_getElem? (q1 j e xs hj)) e xs rfl
 |aJ x=>simp[mN,Prog.exec]at he
 |undef=>simp[mN,Prog.exec]at he
theorem ayN:∀(vs:List SV) (us:List Value) (ω:Nat→Option bX) (Z:Nat→Prop) (s s':St) (vs':List SV),Rel K β ω Z s a w→au (VR K β Z s a w) us vs→(vY vs).exec s=some (vs',s')→
  ∃ω' Z',Rel K β ω' Z' s' a w∧Calm K β a ω Z s w ω' Z' s' w∧au (fun u v=>VR K β Z' s' a w u v∧adA v) us vs':=by
 intro vs
 induction vs with
 |nil=>
  intro us ω Z s s' vs' h hall he
  obtain⟨rfl,rfl⟩:=aE he
  cases us with
  |nil=>exact⟨ω,Z,h,Calm.refl,trivial⟩
  |cons u us=>exact hall.elim
 |cons v vs ih=>
  intro us ω Z s s' vs' h hall he
  cases us with
  |nil=>exact hall.elim
  |cons u us=>
   simp only[vY]at he
   obtain⟨v1,s1,h1,dZ⟩:=av he
   obtain⟨iE,s2,h2,ak⟩:=av dZ
   obtain⟨rfl,rfl⟩:=aE ak
   obtain⟨ct,Z1,r1,k1,p1,o1⟩:=ayM h hall.1 h1
   obtain⟨fq,Z2,r2,k2,p2⟩:=ih us ct Z1 s1 _ iE r1 (au.mono (fun _ _ hr=>VR.lift h k1 hr) hall.2) h2
   exact⟨fq,Z2,r2,k1.trans k2,⟨VR.lift r1 k2 p1,o1⟩,p2⟩
theorem ayO {us:List Value} {vs:List SV} (h:au (fun u v=>VR K β Z s a w u v∧adA v) us vs):VR K β Z s a w (qG us) (ady vs):=by
 have gen:∀{us:List Value} {vs:List SV},au (fun u v=>VR K β Z s a w u v∧adA v) us vs→
   au (cL (ax K β Z s a w)) us (vs.map fun v=>match v with| .one c=>(false,[c])| .agg cs=>(true,cs)|_=>(false,[]))∧
   ∀c∈(vs.map fun v=>match v with| .one c=>(false,[c])| .agg cs=>(true,cs)|_=>(false,([]:List C))).flatMap (·.2),bQ c:=by
  intro us vs
  induction vs generalizing us with
  |nil=>intro h;cases us with|nil=>exact⟨trivial,by simp⟩|cons=>exact h.elim
  |cons v vs ih=>
   intro h
   cases us with
   |nil=>exact h.elim
   |cons u us=>
    obtain⟨⟨⟨h1,h2⟩,h3⟩,h4⟩:=h
    obtain⟨g1,g2⟩:=ih h4
    cases v with
    |one c=>
     refine⟨⟨?_,g1⟩,?_⟩
     ·simp only[cL,Bool.false_eq_true,if_false];exact⟨c,rfl,h1.1,h1.2⟩
     ·intro x hx
      simp only[List.map_cons,List.flatMap_cons,List.mem_append]at hx
      rcases hx with hx|hx
      ·exact h2 x (by simpa[SV.cells]using hx)
      ·exact g2 x hx
    |agg cs=>
     refine⟨⟨?_,g1⟩,?_⟩
     ·simp only[cL,if_true];exact h1
     ·intro x hx
      simp only[List.map_cons,List.flatMap_cons,List.mem_append]at hx
      rcases hx with hx|hx
      ·exact h2 x (by simpa[SV.cells]using hx)
      ·exact g2 x hx
    |aJ x=>exact h3.elim
    |undef=>exact h3.elim
 match us,vs,h with
 | [u],[v],h=>exact h.1.1
 | [],[],h=>exact⟨⟨#[],rfl,trivial⟩,by simp[ady,SV.cells]⟩
 |u :: u' :: us,v :: v' :: vs,h=>
  obtain⟨g1,g2⟩:=gen h
  exact⟨⟨_,rfl,by simpa[qG]using g1⟩,g2⟩
 | [u],[],h=>exact h.elim
 | [],[v],h=>exact h.elim
 | [u],v :: v' :: vs,h=>exact h.2.elim
 |u :: u' :: us,[v],h=>exact h.2.elim
 |u :: u' :: us,[],h=>exact h.elim
 | [],v :: v' :: vs,h=>exact h.elim
theorem ayP (h:Rel K β ω Z s a w) {k:Key} {y:Unit} {s':St} (he:(settle k).exec s=some (y,s')) {us:List Value} {vs:List SV} (hv:au (VR K β Z s a w) us vs):
  ∃ω' Z',Rel K β ω' Z' s' a w∧au (VR K β Z' s' a w) us vs:=by
 unfold settle at he
 simp only[Prog.exec]at he
 split at he
 ·rename_i cs hcs
  split at he
  ·obtain⟨_,rfl⟩:=aE he;exact⟨ω,Z,h,hv⟩
  ·obtain⟨cs',s1,h1,he⟩:=av he
   simp only[cY,Prog.exec,Option.some.injEq,Prod.mk.injEq]at he
   obtain⟨_,rfl⟩:=he
   obtain⟨b,ws,el,lo,hi,g1,g2,g3,g4,g5⟩:=dc.cell h hcs
   have hall:au (CB K β Z s a w) ws.toList cs:=au.cW g5.length fun j u c hu hc=>by
    obtain⟨u',q1,q2⟩:=g5.get hc
    rw[hu]at q1;cases q1
    refine⟨q2,fun e xs b1 e1 e2=>?_⟩
    subst e1
    have:=(h.own (.box k) j e xs u b1 rfl (by rw[hcs];exact hc) (by rw[jM g1 g3];exact hu) e2).1
    exact(h.cZ _ _ this).2.1
   obtain⟨⟨ct,Z1,r1,k1,p1⟩,q1,b1⟩:=apd cs ws.toList ω Z s s1 cs' h hall h1
   obtain⟨b2,kr,mE,nI,hi2,f1,f2,f3,f4,f5⟩:=dc.cell r1 (by rw[b1];exact hcs)
   rw[g1]at f1;cases f1
   rw[g3]at f3;cases f3
   obtain⟨t1,t2⟩:=r1.agc (k:=k) (b:=b) (w':=w) (cs:=cs') f2 (.inr g1) rfl rfl rfl rfl (fun _ _=>rfl) g3 g4 (au.mono (fun _ _ hh=>hh.1) p1) (fun j e xs u1 b2 hc hu cz=>
    r1.own (.box k) j e xs u1 b2 rfl (by rw[b1,hcs];exact q1 j e xs hc) (by rw[jM g1 g3];exact hu) cz)
   have iZ:(fun k'=>if k'=k then some b else β k')=β:=by
    funext k'
    by_cases e:k'=k
    ·subst e;simp[g1]
    ·simp[e]
   rw[iZ,b1]at t1 t2
   refine⟨ct,Z1,t1,au.mono (fun u v hh=>?_) hv⟩
   have nO:=hh.lift h k1
   exact⟨aY.mono (fun c u hc hr=>t2 c u (fun e xs _ hx _=>absurd hx (hh.2 c hc e xs)) hr) nO.1,nO.2⟩
 ·simp[Prog.exec]at he
theorem ape:∀(ks:List Key) (ω:Nat→Option bX) (Z:Nat→Prop) (s s':St) (y:Unit),Rel K β ω Z s a w→(vZ ks).exec s=some (y,s')→∀{us:List Value} {vs:List SV},au (VR K β Z s a w) us vs→
  ∃ω' Z',Rel K β ω' Z' s' a w∧au (VR K β Z' s' a w) us vs
 | [],ω,Z,s,s',y,h,he,us,vs,hv=>by obtain⟨_,rfl⟩:=aE he;exact⟨ω,Z,h,hv⟩
 |k :: ks,ω,Z,s,s',y,h,he,us,vs,hv=>by
  simp only[vZ]at he
  obtain⟨_,s1,h1,he⟩:=av he
  obtain⟨ct,Z1,r1,v1⟩:=ayP h h1 hv
  exact ape ks ct Z1 s1 s' _ r1 he v1
def OC (ks:List Key) (c c':C):Prop:=
 (∀(K K':Ctx) (β:Key→Option Nat) (Z:Nat→Prop) (s s':St) (a a':Act) (w:World) (u:Value),ax K β Z s a w c u→ax K' (eC ks β) Z s' a' w c' u)∧(∀(e:Nat) (xs:List (List D)),c'=C.own e xs→c=C.own e xs)
theorem apf {ks:List Key} {c c':C} {s':St} (he:(tB ks c).exec s=some (c',s')):s'=s∧OC ks c c':=by
 unfold tB at he
 split at he
 ·obtain⟨rfl,rfl⟩:=aE he;exact⟨rfl,fun _ _ _ _ _ _ _ _ _ _ h=>h,fun _ _ h=>h⟩
 ·obtain⟨rfl,rfl⟩:=aE he;exact⟨rfl,fun _ _ _ _ _ _ _ _ _ _ h=>h,fun _ _ h=>h⟩
 ·obtain⟨_,s1,h1,ak⟩:=av he
  obtain⟨hk,rfl⟩:=bS h1
  obtain⟨rfl,rfl⟩:=aE ak
  exact⟨rfl,fun _ _ β _ _ _ _ _ _ _ ⟨b,g1,g2⟩=>⟨b,by rw[nM hk];exact g1,g2⟩,by simp⟩
 ·obtain⟨_,s1,h1,ak⟩:=av he
  obtain⟨hk,rfl⟩:=bS h1
  obtain⟨rfl,rfl⟩:=aE ak
  refine⟨rfl,fun _ _ β _ _ _ _ _ _ _ ⟨vs,g1,g2⟩=>⟨vs,g1,?_⟩,by simp⟩
  subst hk
  cases hvs:vs.toList with
  |nil=>trivial
  |cons x xs=>rw[hvs]at g2;exact g2.elim
 ·simp[Prog.exec]at he
theorem ahq {ks:List Key}:∀{cs cs':List C} {s s':St},(qH ks cs).exec s=some (cs',s')→s'=s∧au (OC ks) cs cs'
 | [],_,_,_,he=>by obtain⟨rfl,rfl⟩:=aE he;exact⟨rfl,trivial⟩
 |c :: cs,cs',s,s',he=>by
  simp only[qH]at he
  obtain⟨c1,s1,h1,he⟩:=av he
  obtain⟨ey,s2,h2,he⟩:=av he
  obtain⟨rfl,rfl⟩:=aE he
  obtain⟨rfl,g1⟩:=apf h1
  obtain⟨rfl,g2⟩:=ahq h2
  exact⟨rfl,g1,g2⟩
theorem apg {ks:List Key}:∀{vs vs':List (Bool×List C)} {s s':St},(tC ks vs).exec s=some (vs',s')→s'=s∧au (fun x y=>x.1=y.1∧au (OC ks) x.2 y.2) vs vs'
 | [],_,_,_,he=>by obtain⟨rfl,rfl⟩:=aE he;exact⟨rfl,trivial⟩
 |(b,cs) :: vs,vs',s,s',he=>by
  simp only[tC]at he
  obtain⟨c1,s1,h1,he⟩:=av he
  obtain⟨ey,s2,h2,he⟩:=av he
  obtain⟨rfl,rfl⟩:=aE he
  obtain⟨rfl,g1⟩:=ahq h1
  obtain⟨rfl,g2⟩:=apg h2
  exact⟨rfl,⟨rfl,g1⟩,g2⟩
theorem au.comp {α β γ:Type} {R:α→β→Prop} {S:β→γ→Prop} {T:α→γ→Prop} (hT:∀a b c,R a b→S b c→T a c):∀{as:List α} {bs:List β} {cs:List γ},au R as bs→au S bs cs→au T as cs
 | [],[],[],_,_=>trivial
 |_ :: _,_ :: _,_ :: _,h,k=>⟨hT _ _ _ h.1 k.1,au.comp hT h.2 k.2⟩
theorem aph {R:C→C→Prop}:∀{xs ys:List (Bool×List C)},au (fun x y=>x.1=y.1∧au R x.2 y.2) xs ys→au R (xs.flatMap (·.2)) (ys.flatMap (·.2))
 | [],[],_=>trivial
 |_ :: _,_ :: _,h=>by
  simp only[List.flatMap_cons]
  exact au.append h.1.2 (aph h.2)
theorem ayQ {ks:List Key} {v v':SV} {s s':St} (he:(kG ks v).exec s=some (v',s')):
  s'=s∧au (OC ks) v.cells v'.cells∧∀(R R':C→Value→Prop),(∀c c' u,OC ks c c'→R c u→R' c' u)→∀u,aY R u v→aY R' u v':=by
 cases v with
 |one c=>
  simp only[kG]at he
  obtain⟨c1,s1,h1,he⟩:=av he
  obtain⟨rfl,rfl⟩:=aE he
  obtain⟨rfl,g⟩:=apf h1
  exact⟨rfl,⟨g,trivial⟩,fun R R' hR u hu=>⟨hu.1,hR _ _ _ g hu.2⟩⟩
 |agg cs=>
  simp only[kG]at he
  obtain⟨c1,s1,h1,he⟩:=av he
  obtain⟨rfl,rfl⟩:=aE he
  obtain⟨rfl,g⟩:=ahq h1
  exact⟨rfl,g,fun R R' hR u ⟨ws,g1,g2⟩=>⟨ws,g1,au.comp (T:=fun u c=>R' c u) (fun u b c h k=>hR b c u k h) g2 g⟩⟩
 |aJ vs=>
  simp only[kG]at he
  obtain⟨c1,s1,h1,he⟩:=av he
  obtain⟨rfl,rfl⟩:=aE he
  obtain⟨rfl,g⟩:=apg h1
  refine⟨rfl,aph g,fun R R' hR u ⟨ws,g1,g2⟩=>⟨ws,g1,au.comp (fun a b c h k=>?_) g2 g⟩⟩
  unfold cL at h ⊢
  obtain⟨k1,k2⟩:=k
  rw[←k1]
  split
  ·rename_i hb
   simp only[hb,if_true]at h
   obtain⟨us,e1,e2⟩:=h
   exact⟨us,e1,au.comp (T:=fun u c=>R' c u) (fun u b c h k=>hR b c u k h) e2 k2⟩
  ·rename_i hb
   simp only[hb]at h
   obtain⟨x,e1,e2,e3⟩:=h
   rw[e1]at k2
   match c.2,k2 with
   | [y],k2=>exact⟨y,rfl,e2,hR _ _ _ k2.1 e3⟩
 |undef=>simp[kG,Prog.exec]at he
theorem ahr {n i:Nat} (h:i<n):(fP n)[i]? =some (.inb i):=by simp[fP,h]
theorem api (n:Nat):(fP n).Nodup:=by
 unfold fP
 exact List.Pairwise.map _ (fun a b hab e=>hab (by cases e;rfl)) List.nodup_range
theorem ayR (nb:Nat) (cs:List C):(qI nb cs).Nodup:=by
 unfold qI
 refine List.nodup_append.2 ⟨api nb,(vR _).filter _,?_⟩
 rintro a ha b hb rfl
 simp only[fP,List.mem_map]at ha
 obtain⟨i,_,rfl⟩:=ha
 simp[Key.isIn]at hb
theorem ayS {nb i:Nat} (h:i<nb) (cs:List C):(qI nb cs)[i]? =some (.inb i):=by
 unfold qI
 rw[List.getElem?_append_left (by simp[fP,h]),ahr h]
theorem ayT (v:SV) (j l:Nat):(jJ v j).cells[l]? =v.cells[l]? ∨∃e ys,v.cells[l]? =some (.own e ys)∧(jJ v j).cells[l]? =some (.d (.sl e ys)):=by
 unfold jJ
 split
 ·rename_i e ys h
  rw[oN,List.getElem?_set]
  by_cases hj:j=l
  ·subst hj
   have hc:v.cells[j]? =some (.own e ys):=by
    rw[List.getD_eq_getElem?_getD]at h
    cases hx:v.cells[j]? with
    |none=>rw[hx]at h;cases h
    |some c=>rw[hx]at h;simp only[Option.getD_some]at h;rw[h]
   right
   refine⟨e,ys,hc,?_⟩
   rw[if_pos rfl,if_pos (List.getElem?_eq_some_iff.1 hc).1]
  ·rw[if_neg hj];exact .inl rfl
 ·exact .inl rfl
theorem apj:∀(l:List (Nat×Nat)) (args:List SV) (i j:Nat),((gU l args).getD i .undef).cells[j]? =(args.getD i .undef).cells[j]? ∨∃e ys,(args.getD i .undef).cells[j]? =some (.own e ys)∧((gU l args).getD i .undef).cells[j]? =some (.d (.sl e ys))
 | [],args,i,j=>.inl rfl
 |(i0,j0) :: l,args,i,j=>by
  simp only[gU]
  have h1:((args.set i0 (jJ (args.getD i0 .undef) j0)).getD i .undef).cells[j]? =(args.getD i .undef).cells[j]? ∨∃e ys,(args.getD i .undef).cells[j]? =some (.own e ys)∧((args.set i0 (jJ (args.getD i0 .undef) j0)).getD i .undef).cells[j]? =some (.d (.sl e ys)):=by
   by_cases hi:i0=i
   ·subst hi
    by_cases hl:i0<args.length
    ·have e1:(args.set i0 (jJ (args.getD i0 .undef) j0)).getD i0 .undef=jJ (args.getD i0 .undef) j0:=by
       simp[List.getD_eq_getElem?_getD,hl]
     rw[e1]
     exact ayT _ _ _
    ·left
     simp[List.getD_eq_getElem?_getD,List.getElem?_eq_none (Nat.le_of_not_lt hl),List.set_eq_of_length_le (Nat.le_of_not_lt hl)]
   ·left
    simp[List.getD_eq_getElem?_getD,List.getElem?_set,hi]
  rcases apj l (args.set i0 (jJ (args.getD i0 .undef) j0)) i j with h2|⟨e,ys,h2,h3⟩
  ·rw[h2];exact h1
  ·rcases h1 with h1|⟨e',ys',h1,h4⟩
   ·right;rw[h1]at h2;exact⟨e,ys,h2,h3⟩
   ·rw[h4]at h2;cases h2
theorem ahs:∀(l:List (Nat×Nat)) (args:List SV),(gU l args).length=args.length
 | [],_=>rfl
 |(i,j) :: l,args=>by simp[gU,ahs l]
def v7 (ks:List Key) (ω:Nat→Option bX) (b:Nat):Option bX:=
 match ω b with
 |some (.tmp 0,j)=>some (.tmp 0,j)
 |_=>eD ks ω b
theorem ayU {ks:List Key} {b:Nat} {g:bX} (h:v7 ks ω b=some g):∃g',ω b=some g':=by
 unfold v7 eD at h
 cases cy:ω b with
 |none=>rw[cy]at h;cases h
 |some g'=>exact⟨g',rfl⟩
theorem apk {P:Program} {N:Nat} {w0:World} {vals:Array Value} {gA:Key→Option Nat} {qL:Nat→Option bX} {Z0:Nat→Prop} {args:List SV} {r:gS} {fn:Func} {nb:Nat}
  (hT:eS P cfg) (h:Rel (cR P N w0 vals gA qL Z0) β ω Z s a w) (hsz:vals.size=args.length) (hok:args.all kF=true) {e0:Act} {s0:St} {w1:World}
  (hent:∀i,aY (ax (cR P 0 w0 vals gA qL Z0) gA Z0 s0 e0 w1) (vals.getD i undef) (args.getD i .undef))
  (aht:∀k b,gA k=some b→∃i,i<nb∧k= .inb i)
  {s':St} (he:(mO cfg fn.results.toList nb).exec s=some ((r.v,r.boxes),s')) (jP:∀i,i<args.length→(s' (.arg i)).v=(gU r.aB args).getD i .undef):
  ∃u β' ω' Z',(results fn a.tmps).run P w= .ok u w∧Rel (cR P 1 w0 vals gA qL Z0) β' ω' Z' (dJ args r) { tmps:= #[u],defers:=[] } w:=by
 unfold mO at he
 obtain⟨vs,s1,h1,dZ⟩:=av he
 obtain⟨hs1,us,oU,hvs⟩:=ayJ (K:=cR P N w0 vals gA qL Z0) hT h _ _ _ h1
 rw[hs1]at dZ
 generalize hks:qI nb (vs.flatMap SV.cells)=ks at dZ
 obtain⟨_,s2,h2,ak⟩:=av dZ
 obtain⟨ct,Z1,r1,v1⟩:=ape _ _ _ _ _ _ h h2 hvs
 obtain⟨iE,s3,h3,aH⟩:=av ak
 obtain⟨fq,Z2,r2,k2,v2⟩:=ayN _ _ _ _ _ _ _ r1 v1 h3
 have hv:=ayO v2
 obtain⟨v3,s4,h4,bz⟩:=av aH
 obtain⟨ω3,Z3,r3,k3,p3⟩:=anj r2 hv.1 hv.2 h4
 obtain⟨bs,s5,h5,cn⟩:=av bz
 obtain⟨gj,th,cr⟩:=aoq _ s5 bs h5
 rw[gj]at cn
 obtain⟨v5,s6,h6,dN⟩:=av cn
 obtain⟨hv6,gm⟩:=aE dN
 obtain⟨o7,hcells,hout⟩:=ayQ h6
 have hv7:r.v=v5:=congrArg Prod.fst hv6
 have hb7:r.boxes=bs:=congrArg Prod.snd hv6
 have hs':s'=s4:=by rw[gm,o7]
 rw[hs']at jP
 have hnd:ks.Nodup:=by rw[←hks];exact ayR _ _
 have apn:∀i,i<nb→ks[i]? =some (.inb i):=fun i hi=>by rw[←hks];exact ayS hi _
 have hidx:∀i,i<nb→eC ks β (.inb i)=β (.inb i):=fun i hi=>by
  have:=nM (List.mem_of_getElem? (apn i hi)) β
  rwa [nN hnd (apn i hi)]at this
 refine⟨qG us,eC ks β,v7 ks ω3,Z3,ayK (K:=cR P N w0 vals gA qL Z0) oU,?_⟩
 have fD:∀(k:Key) (cs':List C),(dJ args r (.box k)).v= .agg cs'→∃i k' cs,k= .inb i∧ks[i]? =some k'∧(s4 (.box k')).v= .agg cs∧cs'=cs.map (tc ks)∧cs.all (tok ks)=true:=by
  intro k cs hk
  cases k with
  |inb i=>
   simp only[dJ,hb7]at hk
   cases kD:bs[i]? with
   |none=>rw[kD]at hk;cases hk
   |some cs'=>
    rw[kD]at hk
    cases hk
    have hi:i<ks.length:=by rw[←th];exact(List.getElem?_eq_some_iff.1 kD).1
    obtain⟨cs2,g1,g2,g3⟩:=cr i _ (List.getElem?_eq_getElem hi)
    rw[kD]at g1
    cases g1
    exact⟨i,_,cs2,rfl,List.getElem?_eq_getElem hi,g2,rfl,g3⟩
  |loc t=>simp[dJ]at hk
  |esc t i=>simp[dJ]at hk
 have cy:∀(i:Nat) (k':Key) (j:Option Nat) (b:Nat),ks[i]? =some k'→ω3 b=some (.box k',j)→v7 ks ω3 b=some (.box (.inb i),j):=by
  intro i k' j b hi hb
  have hm:k'∈ks:=List.mem_of_getElem? hi
  simp only[v7,hb,eD,hm,if_true,nN hnd hi]
 have v8:∀i,(dJ args r (.arg i)).v=if i<args.length then(s4 (.arg i)).v else .undef:=by
  intro i
  show(gU r.aB args).getD i .undef=_
  split
  ·rename_i hi;exact(jP i hi).symm
  ·rename_i hi
   rw[List.getD_eq_getElem?_getD,List.getElem?_eq_none (by rw[ahs];omega)]
   rfl
 refine⟨rfl,⟨rfl,r3.defers.2⟩,r3.os,r3.tape,r3.output,r3.base,r3.frame,r3.dH,r3.jr,?_,?_,?_,?_,?_,?_,?_,?_⟩
 ·intro b hb
  rcases r3.kg b hb with g|g|g|⟨i,j,e,ys,u0,g1,g2,g3⟩
  ·exact .inl g
  ·exact .inr (.inl g)
  ·exact .inr (.inr (.inl g))
  ·refine .inr (.inr (.inr ⟨i,j,e,ys,u0,?_,g2,g3⟩))
   have hi:i<args.length:=by
    rw[←hsz]
    by_cases hi:i<vals.size
    ·exact hi
    ·exfalso
     have g2':(flat (vals.getD i undef))[j]? =some u0:=g2
     rw[Array.getD_eq_getD_getElem?,Array.getElem?_eq_none (by omega)]at g2'
     simp[undef,flat]at g2'
   rw[v8,if_pos hi]
   exact g1
 ·intro t
  cases t with
  |zero=>
   show aY _ (qG us) r.v
   rw[hv7]
   exact hout (ax (cR P N w0 vals gA qL Z0) β Z3 s4 a w) (ax (cR P 1 w0 vals gA qL Z0) (eC ks β) Z3 (dJ args r) { tmps:= #[qG us],defers:=[] } w) (fun c c' u hc hr=>hc.1 _ _ _ _ _ _ _ _ _ _ hr) _ p3.1
  |succ t=>exact trivial
 ·intro i
  rw[v8]
  split
  ·rename_i hi
   refine aY.lD (fun j c u hc hu hr=>?_) (r3.args i)
   have hfz:=apj r.aB args i j
   rw[←jP i hi,hc]at hfz
   have hargs:∀c0,(args.getD i .undef).cells[j]? =some c0→tu c0=true:=fun c0 hac=>by
    have:kF (args.getD i .undef)=true:=by
     rw[List.getD_eq_getElem?_getD,List.getElem?_eq_getElem hi]
     exact List.all_eq_true.1 hok _ (List.getElem_mem hi)
    exact List.all_eq_true.1 this _ (List.mem_of_getElem? hac)
   cases c with
   |d x=>exact hr
   |own e xs=>exact hr
   |dead=>trivial
   |da xs=>exact hr
   |_=>
    rcases hfz with hfz|⟨e,ys,_,hfz⟩
    ·have hac:=hfz.symm
     obtain⟨u',q1,q2⟩:=(hent i).cell hac
     have ayV:=hargs _ hac
     first
      |(cases ayV;done)
      |(obtain⟨b0,f1,_⟩:=q2
        obtain⟨i0,qD,rfl⟩:=aht _ _ f1
        obtain⟨b,f2,f3⟩:=hr
        exact⟨b,by rw[hidx _ qD];exact f2,f3⟩)
      |(obtain⟨vs0,f1,f2⟩:=q2
        obtain⟨vs2,f3,f4⟩:=hr
        refine⟨vs2,f3,f4.gV fun u p hp ⟨b,t1,t2⟩=>?_⟩
        obtain⟨l,hl⟩:=List.getElem?_of_mem hp
        obtain⟨u0,_,b0,t3,_⟩:=f2.get hl
        obtain⟨i0,qD,vQ⟩:=aht _ _ t3
        rw[vQ]at t1
        exact⟨b,by rw[vQ,hidx _ qD];exact t1,t2⟩)
    ·cases hfz
  ·trivial
 ·intro k
  cases hkv:(dJ args r (.box k)).v with
  |agg cs=>
   obtain⟨i,k',cs0,rfl,hi,g1,rfl,g2⟩:=fD k cs hkv
   obtain⟨b,ws,el,lo,hi',f1,f2,f3,f4,f5⟩:=dc.cell r3 g1
   refine⟨b,ws,el,lo,hi',?_,cy i k' none b hi f2,f3,f4,f5.adf fun u c hc hr=>aor (ag0 g2 hc) hr⟩
   have:=nM (List.mem_of_getElem? hi) β
   rw[nN hnd hi]at this
   rw[this]
   exact f1
  |undef=>
   show eC ks β k=none
   cases iZ:eC ks β k with
   |none=>rfl
   |some b=>
    obtain⟨i,k',rfl,hi,g⟩:=aov iZ
    obtain⟨cs,g1,g2,g3⟩:=cr i k' hi
    simp only[dJ,hb7,g1]at hkv
    cases hkv
  |one c=>cases k<;>simp only[dJ]at hkv<;>(try (split at hkv))<;>cases hkv
  |aJ c=>cases k<;>simp only[dJ]at hkv<;>(try (split at hkv))<;>cases hkv
 ·intro q j e xs u1 b1 hr hc hh aM
  cases q with
  |tmp t=>
   cases t with
   |zero=>
    have cA:r.v.cells[j]? =some (.own e xs):=hc
    rw[hv7]at cA
    obtain⟨c0,q1,q2⟩:=hcells.get cA
    have:=q2.2 e xs rfl
    subst this
    have hp:=(p3.2 j _ _ q1 hh).2 e xs b1 rfl aM
    exact⟨by simp only[v7,hp.1],hp.2.1⟩
   |succ t=>simp[dJ,SV.cells]at hc
  |arg i=>simp[ah.isArg]at hr
  |box k=>
   cases hv:(dJ args r (.box k)).v with
   |agg cs=>
    obtain⟨i,k',cs0,rfl,hi,g1,rfl,g2⟩:=fD k cs hv
    rw[hv]at hc
    have hc:(cs0.map (tc ks))[j]? =some (.own e xs):=hc
    have hc0:cs0[j]? =some (.own e xs):=by
     rw[List.getElem?_map]at hc
     cases fU:cs0[j]? with
     |none=>rw[fU]at hc;cases hc
     |some c0=>rw[fU]at hc;simp only[Option.map_some,Option.some.injEq]at hc;rw[aos hc]
    have iZ:eC ks β (.inb i)=β k':=by
     have:=nM (List.mem_of_getElem? hi) β
     rw[nN hnd hi]at this
     exact this
    have nO:bP (cR P N w0 vals gA qL Z0) β a w (.box k') j=some u1:=by
     simp only[bP,iZ]at hh
     exact hh
    obtain⟨p1,p2⟩:=r3.own (.box k') j e xs u1 b1 rfl (by rw[g1];exact hc0) nO aM
    exact⟨cy i k' (some j) _ hi p1,p2⟩
   |undef=>rw[hv]at hc;simp[SV.cells]at hc
   |one c=>cases k<;>simp only[dJ]at hv<;>(try (split at hv))<;>cases hv
   |aJ c=>cases k<;>simp only[dJ]at hv<;>(try (split at hv))<;>cases hv
 ·intro i j e xs u1 b1 hc hh aM
  rw[v8]at hc
  split at hc
  ·exact r3.fT i j e xs u1 b1 hc hh aM
  ·simp[SV.cells]at hc
 ·intro b g hb
  obtain⟨g',hg'⟩:=ayU hb
  exact r3.cZ b g' hg'
 ·intro k b hb
  obtain⟨i,hi,rfl⟩:=aht k b hb
  rw[hidx i hi]
  exact r3.kj _ b hb
end
end
end Go.Vs
namespace Go.Vs
theorem apo (t:Nat):∀(args:List SV) (i:Nat),lk t (qJ i args)=if i≤t∧t<i+args.length then some (adz t (args.getD (t - i) .undef))else none
 | [],i=>by simp[qJ,lk]
 |v :: vs,i=>by
  simp only[qJ,ahk]
  by_cases h:t=i
  ·subst h;simp
  ·rw[if_neg h,apo t vs (i+1)]
   by_cases h2:i+1≤t∧t<i+1+vs.length
   ·rw[if_pos h2,if_pos (by simp;omega)]
    rw[show t - i=(t - (i+1))+1 by omega]
    simp
   ·rw[if_neg h2,if_neg (by simp;omega)]
theorem apq:∀(bs:List (List C)) (i:Nat) (k:Key),jm k (qK i bs)=match k with| .inb l=>if i≤l then bs[l - i]? else none|_=>none
 | [],i,k=>by cases k<;>simp[qK,jm]
 |b :: bs,i,k=>by
  simp only[qK,jm]
  rw[apq bs (i+1) k]
  cases k with
  |inb l=>
   simp only[Key.inb.injEq]
   by_cases h:l=i
   ·subst h;simp
   ·rw[if_neg h]
    by_cases h2:i+1≤l
    ·rw[if_pos h2,if_pos (by omega),show l - i=(l - (i+1))+1 by omega];simp
    ·rw[if_neg h2,if_neg (by omega)]
  |loc t=>simp
  |esc t j=>simp
section
variable {P:Program} {w:World} {vals:Array Value} {β:Key→Option Nat} {ω:Nat→Option bX} {Z:Nat→Prop} {args:List SV} {boxes:List (List C)}
theorem apr (t:Nat):((lO args boxes).st (.tmp t)).v=if t<args.length then RV.copy { v:=args.getD t .undef } (.arg t)else .undef:=by
 show(lk t (qJ 0 args)).getD .undef=_
 rw[apo]
 by_cases h:t<args.length
 ·simp[h,adz]
 ·simp[h]
theorem aps (k:Key):((lO args boxes).st (.box k)).v=(dI args boxes (.box k)).v:=by
 show(match jm k (qK 0 boxes)with|some cs=>SV.agg cs|none=>.undef)=_
 rw[apq]
 cases k with
 |inb i=>simp[dI]<;>cases boxes[i]? <;>rfl
 |loc t=>rfl
 |esc t j=>rfl
theorem ahv (hok:args.all kF=true) {i j:Nat} {c:C} (hc:(args.getD i .undef).cells[j]? =some c):tu c=true:=by
 rw[List.getD_eq_getElem?_getD]at hc
 cases hi:args[i]? with
 |none=>rw[hi]at hc;simp[SV.cells]at hc
 |some v=>
  rw[hi]at hc
  have:=List.all_eq_true.1 hok v (List.mem_of_getElem? hi)
  exact List.all_eq_true.1 this c (List.mem_of_getElem? hc)
theorem apt {N:Nat} (hent:Rel (cR P 0 w vals β ω Z) β ω Z (dI args boxes) { tmps:= #[],defers:=[] } w) (hsz:vals.size=args.length) (hok:args.all kF=true) (iD:boxes.all (fun b=>b.all (eG boxes.length))=true) (hN:args.length≤N):
  Rel (cR P N w vals β ω Z) β ω Z (lO args boxes).st { tmps:=vals++Array.replicate (N - vals.size) undef,defers:=[] } w:=by
 have ayX:∀(i j:Nat) (c:C) (u:Value),tu c=true→ax (cR P 0 w vals β ω Z) β Z (dI args boxes) { tmps:= #[],defers:=[] } w c u→
   ax (cR P N w vals β ω Z) β Z (lO args boxes).st { tmps:=vals++Array.replicate (N - vals.size) undef,defers:=[] } w c u:=by
  intro i j c u hc h
  cases c<;>first|(cases hc;done)|exact h
 refine⟨?_,⟨rfl,hent.defers.2⟩,hent.os,hent.tape,hent.output,hent.base,hent.frame,hent.dH,hent.jr,?_,?_,?_,?_,?_,?_,hent.cZ,hent.kj⟩
 ·show(vals++Array.replicate (N - vals.size) undef).size=N
  simp;omega
 ·exact hent.kg
 ·intro t
  rw[apr]
  split
  ·rename_i ht
   have qp:=hent.copy (r:=.arg t) (hent.args t) (fun _=>rfl)
   have hval:(vals++Array.replicate (N - vals.size) undef).getD t undef=vals.getD t undef:=by
    simp only[Array.getD_eq_getD_getElem?]
    rw[Array.getElem?_append_left (by omega)]
   show aY _ ((vals++Array.replicate (N - vals.size) undef).getD t undef) _
   rw[hval]
   refine aY.lD (fun j c u hc hu hr=>?_) qp.1
   have cA:=hc
   rw[acG,sP]at cA
   simp only at cA
   cases hc0:(args.getD t .undef).cells[j]? with
   |none=>rw[hc0]at cA;cases cA
   |some c0=>
    rw[hc0]at cA
    simp only[Option.map_some,Nat.zero_add,Option.some.injEq]at cA
    have adB:=ahv hok hc0
    subst cA
    cases c0 with
    |own e xs=>exact hr
    |aD=>cases adB
    |ea=>cases adB
    |da=>cases adB
    |dead=>cases adB
    |d x=>exact hr
    |ptr k off=>exact hr
    |bW f caps=>exact hr
  ·trivial
 ·intro i
  refine aY.lD (fun j c u hc hu hr=>?_) (hent.args i)
  exact ayX i j c u (ahv hok hc) hr
 ·intro k
  rw[aps]
  have hb:=hent.boxes k
  cases hv:(dI args boxes (.box k)).v with
  |agg cs=>
   obtain⟨b,ws,el,lo,hi,g1,g2,g3,g4,g5⟩:=dc.cell hent hv
   refine⟨b,ws,el,lo,hi,g1,g2,g3,g4,g5.gV fun u c hc hr=>axO (n:=boxes.length) (aou ?_ hc) hr⟩
   cases k with
   |inb i=>
    simp only[dI]at hv
    cases kD:boxes[i]? with
    |none=>rw[kD]at hv;cases hv
    |some b=>rw[kD]at hv;cases hv;exact List.all_eq_true.1 iD _ (List.mem_of_getElem? kD)
   |loc t=>simp[dI]at hv
   |esc t i=>simp[dI]at hv
  |undef=>rw[hv]at hb;exact hb
  |one c=>rw[hv]at hb;exact hb.elim
  |aJ c=>rw[hv]at hb;exact hb.elim
 ·intro r j e xs u1 b1 hr hc hh aM
  cases r with
  |tmp t=>
   rw[apr]at hc
   split at hc
   ·exfalso
    rw[acG,sP]at hc
    cases hc0:(args.getD t .undef).cells[j]? with
    |none=>simp only at hc;rw[hc0]at hc;cases hc
    |some c0=>
     simp only at hc
     rw[hc0]at hc
     simp only[Option.map_some,Option.some.injEq]at hc
     exact agh _ _ _ _ e xs hc
   ·simp[SV.cells]at hc
  |arg i=>simp[ah.isArg]at hr
  |box k=>
   rw[aps]at hc
   exact hent.own (.box k) j e xs u1 b1 rfl hc hh aM
 ·intro i j e xs u1 b1 hc hh aM
  exact hent.fT i j e xs u1 b1 hc hh aM
theorem ahw (hent:Rel (cR P 0 w vals β ω Z) β ω Z (dI args boxes) { tmps:= #[],defers:=[] } w):∀k b,β k=some b→∃i,i<boxes.length∧k= .inb i:=by
 intro k b hb
 have h:=hent.boxes k
 cases k with
 |inb i=>
  by_cases hi:i<boxes.length
  ·exact⟨i,hi,rfl⟩
  ·have hv:(dI args boxes (.box (.inb i))).v= .undef:=by simp[dI,List.getElem?_eq_none (Nat.le_of_not_lt hi)]
   rw[hv]at h
   simp only[dc]at h
   rw[h]at hb
   cases hb
 |loc t=>simp only[dI,dc]at h;rw[h]at hb;cases hb
 |esc t i=>simp only[dI,dc]at h;rw[h]at hb;cases hb
def bh (P:Program) (f:FuncId) (F:fc):Prop:=
 ∀(args:List SV) (boxes:List (List C)) (r:gS),F args boxes=some r→∀(w:World) (vals:Array Value) (β:Key→Option Nat) (ω:Nat→Option bX) (Z:Nat→Prop),
  vals.size=args.length→args.all kF=true→boxes.all (fun b=>b.all (eG boxes.length))=true→Rel (cR P 0 w vals β ω Z) β ω Z (dI args boxes) { tmps:= #[],defers:=[] } w→
  Calls P f vals w fun e w'=>∃v β' ω' Z',e= .returned v∧Rel (cR P 1 w vals β ω Z) β' ω' Z' (dJ args r) { tmps:= #[v],defers:=[] } w'
theorem ayY {f:FuncId} {fn:Func} {c:Code} {V:VF} {F:fc} (hf:P.funcs[f]? =some fn) (hb:fn.body=some c) (jQ:P.follows .mixedOrders=true) (hC:iF P V.cfg) (hN:fn.ntmps=V.cfg.N)
  (zn:∀(args:List SV) (boxes:List (List C)) (r:gS),F args boxes=some r→args.length≤fn.ntmps∧(∀i,i<boxes.length→Key.inb i∈V.aQ)∧eK V c (lO args boxes) (Ends V.cfg fn.results.toList args boxes.length r)):bh P f F:=by
 intro args boxes r hF w vals β ω Z hsz hok iD hent
 obtain⟨hlen,hkeys,ayZ⟩:=zn args boxes r hF
 refine calls_of_wp hf hb ?_
 have hstart:=apt (N:=fn.ntmps) hent hsz hok iD hlen
 have zo:=ahw hent
 have hko:ahp (cR P fn.ntmps w vals β ω Z) V:=by
  intro k b lM
  obtain⟨i,hi,rfl⟩:=zo k b lM
  exact⟨rfl,hkeys i hi⟩
 refine wp_mono (ayG (K:=cR P fn.ntmps w vals β ω Z) hC hN jQ hko c (lO args boxes) _ _ w ayZ ⟨⟨β,ω,Z,hstart⟩,by show args.length=vals.size;omega⟩) ?_
 rintro e a w' ⟨ex,p',rfl,⟨hex,hE⟩,⟨β1,ct,Z1,hr⟩,aHT⟩
 cases hx:(mO V.cfg fn.results.toList boxes.length).exec p'.st with
 |none=>rw[hx]at hE;exact hE.elim
 |some x=>
  obtain⟨⟨v,bs⟩,s'⟩:=x
  rw[hx]at hE
  obtain⟨rfl,rfl,hfz⟩:=hE
  obtain⟨u,β',ω',Z',g1,g2⟩:=apk hC.tv hr hsz hok hent.args zo hx hfz
  have:bodyPost P fn (fun e w'=>∃v β' ω' Z',e= .returned v∧Rel (cR P 1 w vals β ω Z) β' ω' Z' (dJ args r) { tmps:= #[v],defers:=[] } w') .ret a w':=
   ⟨hr.defers.1,u,g1,u,β',ω',Z',rfl,g2⟩
  rcases hex with rfl|rfl
  ·exact this
  ·exact this
theorem ay2 {P:Program} {f:FuncId} {fn:Func} {c:Code} (hf:P.funcs[f]? =some fn) (hname:(fn.name== "runtime.NumGoroutine")=false) (hb:fn.body=some c) (args:Array Value) (w:World):
  (callFunc f args).run P w= .ok (.enter f args) w:=by
 have h1:fn.name≠ "runtime.NumGoroutine" :=by simpa using hname
 simp[callFunc,hf,h1,hb]
theorem adC {f:FuncId} {fn:Func} {c:Code} {F:fc} (hf:P.funcs[f]? =some fn) (hname:(fn.name== "runtime.NumGoroutine")=false) (hb:fn.body=some c) (h:bh P f F):fO P f F:=
 fun args boxes r hF w vals β ω Z hsz hok iD hent=>.inl ⟨ay2 hf hname hb vals w,h args boxes r hF w vals β ω Z hsz hok iD hent⟩
end
end Go.Vs
namespace Go.Vs
open Go.ChangeShapes
def adD (W:TypeId→List D→Prop):List (Nat×TypeId)→List D→Prop
 | [],ds=>ds=[]
 |(_,t) :: r,ds=>∃a b,ds=a++b∧W t a∧adD W r b
def kH (cfg:aP):Nat→TypeId→List D→Prop
 |0,_,_=>False
 |n+1,t,ds=>match cfg.ti t with
  |some { kind:=.bool, .. }=>∃b,ds=[.bool b]
  |some { kind:=.int k, .. }=>∃x,ds=[.int k x]∧k.min≤x∧x≤k.max
  |some { kind:=.str, .. }=>∃s,ds=[.str s]∧s.length≤maxLen
  |some { kind:=.slice e, .. }=>match cfg.ti e with
   |some i=>ds=[.nil]∨∃xs,ds=[.sl i.size xs]∧xs.length≤maxLen∧∀x∈xs,kH cfg n e x
   |none=>False
  |some { kind:=.struct fs, .. }=>adD (kH cfg n) fs ds
  |_=>False
def qM (cfg:aP) (p:TypeId→Bool):List (Nat×TypeId)→Nat→Nat→Bool
 | [],o,size=>o==size
 |(off,t) :: r,o,size=>match cfg.ti t with
  |some i=>off==o&&p t&&qM cfg p r (o+i.size) size
  |none=>false
def lP (cfg:aP):Nat→TypeId→Bool
 |0,_=>false
 |n+1,t=>match cfg.ti t with
  |some { kind:=.bool,size, .. }=>size==1
  |some { kind:=.int _,size, .. }=>size==1
  |some { kind:=.str,size, .. }=>size==1
  |some { kind:=.slice e,size, .. }=>size==1&&lP cfg n e&&(match cfg.ti e with|some i=>decide (0<i.size)&& !aW i.size|none=>false)
  |some { kind:=.struct fs,size, .. }=>qM cfg (lP cfg n) fs 0 size
  |_=>false
mutual
def qN:D→Nat
 | .str s=>s.length+1
 | .sl _ xs=>lQ xs+1
 |_=>1
def fu:List D→Nat
 | []=>0
 |d :: r=>qN d+fu r
def lQ:List (List D)→Nat
 | []=>0
 |x :: r=>fu x+lQ r
end
theorem adE:∀(a b:List D),fu (a++b)=fu a+fu b
 | [],b=>by simp[fu]
 |d :: a,b=>by simp[fu,adE a b];omega
structure pe (H:Type) where
 one:DataW H→Nat
 all:List (DataW H)→Nat
 str:∀b,one (.lit (.string b))=b.length+1
 slice:∀x y,one (.slice x y)=all x+all y+1
 agg:∀x,one (.agg x)=all x+1
 pos:∀d,1≤one d
 nil:all []=0
 cons:∀d r,all (d :: r)=one d+all r
theorem apu {α β:Type} {f:α→Option β}:∀{l:List α} {r:List β},l.mapM f=some r→r.length=l.length∧∀(i:Nat) (x:α),l[i]? =some x→∃y,r[i]? =some y∧f x=some y
 | [],r,h=>by simp at h;subst h;simp
 |a :: l,r,h=>by
  simp only[List.mapM_cons,Option.bind_eq_bind,Option.pure_def]at h
  obtain⟨b,hb,h⟩:=Option.bind_eq_some_iff.1 h
  obtain⟨r',hr,h⟩:=Option.bind_eq_some_iff.1 h
  cases h
  obtain⟨h1,h2⟩:=apu hr
  refine⟨by simp[h1],fun i x hi=>?_⟩
  cases i with
  |zero=>simp only[List.getElem?_cons_zero,Option.some.injEq]at hi;subst hi;exact⟨b,rfl,hb⟩
  |succ i=>simp only[List.getElem?_cons_succ]at hi;exact h2 i x hi
theorem ahx {w:World} {base:Nat} {a:Addr} {n:Nat} {cs:List Value} (h:w.cells? base a n=some cs):cs.length=n∧∀i,i<n→w.cell? (a.add i)=cs[i]? :=by
 unfold World.cells? at h
 split at h
 ·obtain⟨h1,h2⟩:=apu h
  simp only[List.length_range]at h1
  refine⟨h1,fun i hi=>?_⟩
  obtain⟨y,g1,g2⟩:=h2 i i (by simp[hi])
  rw[g1]
  exact g2
 ·cases h
section
variable {H:Type} {enc:TypeId×Value→H} {P:Program} {w:World} {held:Bool} {cfg:aP}
theorem apv (B:pe H):∀(l:List (DataW H)) (f:List (List D)),au (fun d x=>fu x≤B.one d) l f→lQ f≤B.all l
 | [],[],_=>by simp[lQ]
 |d :: l,x :: f,h=>by
  have:=apv B l f h.2
  have:=h.1
  simp only[lQ,B.cons]
  omega
theorem ay3 (hT:eS P cfg) (B:pe H) {W:TypeId→List D→Prop} {p:TypeId→Bool} {fuel:Nat} {cs:List Value} {size:Nat} (hlen:cs.length=size)
  (ih:∀t cs x,p t=true→DataW.trod enc P w 0 (fun _=>true) held fuel t cs=some x→∃ds,au (fun v d=>bL w (fun b=>b<w.heap.size) d v) cs ds∧W t ds∧fu ds≤B.one x.1):
  ∀(fs:List Field) (o:Nat) (xs:List (DataW H×List MemPlace)),qM cfg p (fs.map fun f=>(f.offset,f.type)) o size=true→o≤size→
   xs.length=fs.length→(∀(i:Nat) (f:Field),fs[i]? =some f→DataW.trod enc P w 0 (fun _=>true) held fuel f.type ((cs.drop f.offset).take (P.cellsOf f.type))=xs[i]?)→
   ∃ds,au (fun v d=>bL w (fun b=>b<w.heap.size) d v) (cs.drop o) ds∧adD W (fs.map fun f=>(f.offset,f.type)) ds∧fu ds≤B.all (xs.map (·.1)):=by
 intro fs
 induction fs with
 |nil=>
  intro o xs ht ho hl h
  simp only[List.map_nil,qM,beq_iff_eq]at ht
  refine⟨[],?_,rfl,by simp[fu]⟩
  rw[List.drop_eq_nil_of_le (by omega)]
  trivial
 |cons f fs ihf=>
  intro o xs ht ho hl h
  simp only[List.map_cons,qM]at ht
  split at ht
  ·rename_i i hi
   simp only[Bool.and_eq_true,beq_iff_eq]at ht
   obtain⟨⟨h1,h2⟩,h3⟩:=ht
   have hsz:P.cellsOf f.type=i.size:=by
    obtain⟨info,d,g1,g2,g3,_⟩:=oS (hT.T _ _ hi)
    simp[Program.cellsOf,g1,g3]
   obtain⟨x,xs',rfl⟩:∃x xs',xs=x :: xs':=by
    cases xs with
    |nil=>simp at hl
    |cons x xs'=>exact⟨x,xs',rfl⟩
   have hx:=h 0 f rfl
   simp only[List.getElem?_cons_zero]at hx
   obtain⟨a,a1,a2,a3⟩:=ih _ _ _ h2 hx
   rw[hsz,h1]at a1
   have hle:∀(l:List (Nat×TypeId)) (o:Nat),qM cfg p l o size=true→o≤size:=by
    intro l
    induction l with
    |nil=>intro o h;simp only[qM,beq_iff_eq]at h;omega
    |cons y l ihl=>
     intro o h
     obtain⟨off,t⟩:=y
     simp only[qM]at h
     split at h
     ·simp only[Bool.and_eq_true]at h
      have:=ihl _ h.2
      omega
     ·cases h
   have hle':=hle _ _ h3
   obtain⟨b,b1,b2,b3⟩:=ihf (o+i.size) xs' h3 hle' (by simpa using hl) (fun l g hg=>by have:=h (l+1) g (by simpa using hg);simpa using this)
   refine⟨a++b,?_,⟨a,b,rfl,a2,b2⟩,?_⟩
   ·have hsplit:cs.drop o=(cs.drop o).take i.size++cs.drop (o+i.size):=by
      rw[←List.drop_drop,List.take_append_drop]
    rw[hsplit]
    exact au.append a1 b1
   ·rw[adE,List.map_cons,B.cons]
    omega
  ·cases ht
theorem ay5 (hT:eS P cfg) (B:pe H):∀(n:Nat) (t:TypeId) (fuel:Nat) (cs:List Value) (x:DataW H×List MemPlace),lP cfg n t=true→DataW.trod enc P w 0 (fun _=>true) held fuel t cs=some x→
  ∃ds,au (fun v d=>bL w (fun b=>b<w.heap.size) d v) cs ds∧kH cfg n t ds∧fu ds≤B.one x.1:=by
 intro n
 induction n with
 |zero=>intro t fuel cs x hp;simp[lP]at hp
 |succ n ih=>
  intro t fuel cs x hp h
  simp only[lP]at hp
  simp only[kH]
  split at hp
  ·rename_i size bytes zero bN
   obtain⟨d,hd,hk,_⟩:=dx (w:=w) (hT.T _ _ bN)
   have:=agp hk
   subst this
   obtain⟨b,rfl,rfl⟩:=DataW.trod_bool hd h
   exact⟨[.bool b],⟨rfl,trivial⟩,⟨_,rfl⟩,by simpa[fu,qN]using B.pos _⟩
  ·rename_i size bytes k zero bN
   obtain⟨d,hd,hk,_⟩:=dx (w:=w) (hT.T _ _ bN)
   have:=sS hk
   subst this
   obtain⟨b,rfl,rfl,hwf⟩:=DataW.trod_int hd h
   simp only[Lit.wf,Bool.and_eq_true,decide_eq_true_eq]at hwf
   exact⟨[.int k b],⟨rfl,trivial⟩,⟨_,rfl,hwf⟩,by simpa[fu,qN]using B.pos _⟩
  ·rename_i size bytes zero bN
   obtain⟨d,hd,hk,_⟩:=dx (w:=w) (hT.T _ _ bN)
   have:=oT hk
   subst this
   obtain⟨b,rfl,rfl,hwf⟩:=DataW.trod_string hd h
   refine⟨[.str b.data.toList],⟨?_,trivial⟩,⟨_,rfl,?_⟩,?_⟩
   ·simp[bL]
   ·rw[Array.length_toList];exact hwf
   ·simp[fu,qN,B.str]
  ·rename_i size bytes e zero bN
   obtain⟨d,hd,hk,_⟩:=dx (w:=w) (hT.T _ _ bN)
   have:=ku hk
   subst this
   simp only[Bool.and_eq_true]at hp
   obtain⟨⟨_,hpe⟩,hpos⟩:=hp
   split at hpos
   ·rename_i i hi
    obtain⟨hpos,hmp⟩:0<i.size∧aW i.size=false:=by simpa using hpos
    have hsz:P.cellsOf e=i.size:=by
     obtain⟨info,d,g1,g2,g3,_⟩:=oS (hT.T _ _ hi)
     simp[Program.cellsOf,g1,g3]
    rcases DataW.trod_slice hd h with⟨rfl,rfl⟩|⟨a,len,cap,elems,rest,m,_,rfl,rfl,hb,hl,hm,hlen,hel,hsp,_⟩
    ·exact⟨[.nil],⟨rfl,trivial⟩,.inl rfl,by simpa[fu,qN]using B.pos _⟩
    obtain⟨hrl,vT⟩:=hsp rfl
    rw[hsz]at hel vT
    have each:∀(j:Nat) (y:DataW H×List MemPlace),elems[j]? =some y→∃ds cs,w.cells? 0 (a.add (j * i.size)) i.size=some cs∧au (fun v d=>bL w (fun b=>b<w.heap.size) d v) cs ds∧kH cfg n e ds∧fu ds≤B.one y.1:=by
     intro j y hy
     have:=hel j (by rw[←hlen];exact(List.getElem?_eq_some_iff.1 hy).1)
     rw[hy]at this
     obtain⟨cs,g1,g2⟩:=Option.bind_eq_some_iff.1 this
     obtain⟨ds,q1,q2,q3⟩:=ih e m cs y hpe g2
     exact⟨ds,cs,g1,q1,q2,q3⟩
    obtain⟨f,hf⟩:=Go.Deep.choose_lt (α:=List D) (n:=len) (p:=fun j ds=>∃y cs,elems[j]? =some y∧w.cells? 0 (a.add (j * i.size)) i.size=some cs∧au (fun v d=>bL w (fun b=>b<w.heap.size) d v) cs ds∧kH cfg n e ds∧fu ds≤B.one y.1) (fun j hj=>by
     have hy:elems[j]? =some elems[j]:=List.getElem?_eq_getElem (by omega)
     obtain⟨ds,cs,q⟩:=each j _ hy
     exact⟨ds,_,cs,hy,q⟩)
    have ahy:∀(j:Nat) (x:List D),((List.range len).map f)[j]? =some x→j<len∧x=f j:=by
     intro j x hx
     have hj:j<len:=by simpa using(List.getElem?_eq_some_iff.1 hx).1
     rw[List.getElem?_map,List.getElem?_range hj]at hx
     simp only[Option.map_some,Option.some.injEq]at hx
     exact⟨hj,hx.symm⟩
    have apw:cap=0∨a.spot=none∧a.block<w.heap.size:=by
     rcases Nat.eq_zero_or_pos cap with hc|hc
     ·exact .inl hc
     right
     have hcell:∃v,w.cell? a=some v:=by
      by_cases h0:0<len
      ·obtain⟨y,cs,q1,q2,q3⟩:=hf 0 h0
       obtain⟨g1,g2⟩:=ahx q2
       have:=g2 0 hpos
       rw[List.getElem?_eq_getElem (by omega)]at this
       exact⟨_,by simpa[Addr.add]using this⟩
      ·have:=vT 0 (by omega)
       rw[List.getElem?_eq_getElem (by omega)]at this
       obtain⟨cs,q2,_⟩:=Option.bind_eq_some_iff.1 this
       obtain⟨g1,g2⟩:=ahx q2
       have:=g2 0 hpos
       rw[List.getElem?_eq_getElem (by omega),show len+0=0 by omega]at this
       exact⟨_,by simpa[Addr.add]using this⟩
     obtain⟨v,hv⟩:=hcell
     unfold World.cell? at hv
     split at hv
     ·rename_i hw
      split at hv
      ·cases hv
      ·rename_i hs
       exact⟨by simpa using hs,(Array.getElem?_eq_some_iff.1 hw).1⟩
     ·cases hv
    refine⟨[.sl i.size ((List.range len).map f)],⟨(bL.iX hmp).2 ⟨a,cap,by simp,apw,by simpa using hl,?_⟩,trivial⟩,.inr ⟨_,rfl,by simp only[List.length_map,List.length_range];omega,fun x hx=>?_⟩,?_⟩
    ·refine cq.cW fun j x hx=>?_
     obtain⟨hj,rfl⟩:=ahy j x hx
     obtain⟨y,cs,q1,q2,q3,q4,q5⟩:=hf j hj
     obtain⟨g1,g2⟩:=ahx q2
     have hlx:(f j).length=i.size:=by rw[←q3.length,g1]
     refine⟨hlx,dK.cW fun l d hd=>?_⟩
     obtain⟨v,e1,e2⟩:=q3.get hd
     have hll:l<i.size:=by rw[←hlx];exact(List.getElem?_eq_some_iff.1 hd).1
     have:=g2 l hll
     rw[e1]at this
     obtain⟨zh,_⟩:=apw.resolve_left (by omega)
     rw[nH zh,sN]at this
     exact⟨v,this,e2⟩
    ·obtain⟨j,hj0⟩:=List.getElem?_of_mem hx
     obtain⟨hj,rfl⟩:=ahy j x hj0
     obtain⟨y,cs,q1,q2,q3,q4,q5⟩:=hf j hj
     exact q4
    ·have hall:au (fun(d:DataW H) (x:List D)=>fu x≤B.one d) (elems.map (·.1)) ((List.range len).map f):=by
       refine au.cW (by simp[hlen]) fun j d x hd hx=>?_
       obtain⟨hj,rfl⟩:=ahy j x hx
       obtain⟨y,cs,q1,q2,q3,q4,q5⟩:=hf j hj
       rw[List.getElem?_map,q1]at hd
       simp only[Option.map_some,Option.some.injEq]at hd
       rw[←hd]
       exact q5
     have:=apv B _ _ hall
     simp only[fu,qN,B.slice]
     omega
   ·cases hpos
  ·rename_i size bytes fs zero bN
   obtain⟨d,hd,hk,_⟩:=dx (w:=w) (hT.T _ _ bN)
   obtain⟨fields,rfl,rfl⟩:=yO hk
   obtain⟨xs,m,_,rfl,hlen,hxl,eP⟩:=DataW.trod_struct hd h
   have hsz:P.cellsOf t=size:=by
    obtain⟨info,d,g1,g2,g3,_⟩:=oS (hT.T _ _ bN)
    simp only at g3
    simp[Program.cellsOf,g1,g3]
   obtain⟨ds,g1,g2,g3⟩:=ay3 hT B (hlen.trans hsz) (fun t cs x hp hx=>ih t m cs x hp hx) fields.toList 0 xs hp (Nat.zero_le _) (by simpa using hxl) (fun i f hf=>eP i f (by simpa using hf))
   refine⟨ds,by simpa using g1,g2,?_⟩
   rw[B.agg]
   omega
  ·cases hp
def nS (cfg:aP) (t:TypeId) (ds:List D):SV:=
 match cfg.ti t with
 |some i=>if i.kind.agg then .agg (ds.map .d)else .one (.d (ds.headD .nil))
 |none=>.undef
theorem apy {α β γ:Type} {R:α→γ→Prop} (f:β→γ):∀{as:List α} {bs:List β},au (fun a b=>R a (f b)) as bs→au R as (bs.map f)
 | [],[],_=>trivial
 |_ :: _,_ :: _,h=>⟨h.1,apy f h.2⟩
theorem ay8 {r:Reach} {base:Nat} {t:TypeId} {v:Value} {d:TypeDesc} (hd:P.underlying t=some d) (hk:(tk d).agg=false) (hne:tk d= .bool∨(∃k,tk d= .int k)∨tk d= .str∨∃e,tk d= .slice e) (h:Value.okWide P w r base t v):fj v=true:=by
 have:∃x,d= .bool∨d= .string∨(∃k,d= .int k)∨d= .slice x:=by
  rcases hne with h|⟨k,h⟩|h|⟨e,h⟩
  ·exact⟨0,.inl (agp h)⟩
  ·exact⟨0,.inr (.inr (.inl ⟨k,sS h⟩))⟩
  ·exact⟨0,.inr (.inl (oT h))⟩
  ·exact⟨e,.inr (.inr (.inr (ku h)))⟩
 obtain⟨x,h1⟩:=this
 rcases h1 with rfl|rfl|⟨k,rfl⟩|rfl<;>
 ·simp only[Value.okWide,hd,Cell.okWide,Cell.ok]at h
  cases v<;>first|rfl|(exact h.elim)
theorem ay9 (hT:eS P cfg) (B:pe H) {n:Nat} {t:TypeId} {v:Value} {d:DataW H} {ps:List MemPlace} {r:Reach} {base:Nat} (hp:lP cfg n t=true) (hval:Value.okWide P w r base t v) (h:DataW.Trod enc P w 0 (fun _=>true) held t v d ps):
  ∃ds,kH cfg n t ds∧fu ds≤B.one d∧kF (nS cfg t ds)=true∧∀(K:Ctx) (β:Key→Option Nat) (s:St) (a:Act),aY (ax K β (fun b=>b<w.heap.size) s a w) v (nS cfg t ds):=by
 obtain⟨fuel,hf⟩:=h
 obtain⟨ds,h1,h2,h3⟩:=ay5 hT B n t fuel _ _ hp hf
 refine⟨ds,h2,h3,?_⟩
 cases n with
 |zero=>simp[lP]at hp
 |succ n=>
 have hone:∀(i:TI),cfg.ti t=some i→i.kind.agg=false→(i.kind= .bool∨(∃k,i.kind= .int k)∨i.kind= .str∨∃e,i.kind= .slice e)→
   kF (nS cfg t ds)=true∧∀(K:Ctx) (β:Key→Option Nat) (s:St) (a:Act),aY (ax K β (fun b=>b<w.heap.size) s a w) v (nS cfg t ds):=by
  intro i hi ha hk
  obtain⟨d,hd,hk2,_⟩:=dx (w:=w) (hT.T _ _ hi)
  rw[←hk2]at ha hk
  have h1v:=ay8 hd ha hk hval
  rw[jo h1v]at h1
  match ds,h1 with
  | [x],h1=>
    rw[hk2]at ha
    simp only[nS,hi,ha]
    exact⟨rfl,fun K β s a=>⟨h1v,h1.1⟩⟩
 simp only[lP]at hp
 split at hp
 ·rename_i hi;exact hone _ hi rfl (.inl rfl)
 ·rename_i hi;exact hone _ hi rfl (.inr (.inl ⟨_,rfl⟩))
 ·rename_i hi;exact hone _ hi rfl (.inr (.inr (.inl rfl)))
 ·rename_i hi;exact hone _ hi rfl (.inr (.inr (.inr ⟨_,rfl⟩)))
 ·rename_i size bytes fs zero hi
  obtain⟨d,hd,hk,_⟩:=dx (w:=w) (hT.T _ _ hi)
  obtain⟨fields,rfl,rfl⟩:=yO hk
  simp only[Value.okWide,hd]at hval
  obtain⟨cs,rfl,_⟩:=hval
  simp only[nS,hi,TK.agg,if_true]
  refine⟨by simp[kF,SV.cells,tu],fun K β s a=>⟨cs,rfl,apy _ h1⟩⟩
 ·cases hp
end
end Go.Vs
namespace Go.Vs
open Go.ChangeShapes Go.RowKit
def gE (cfg:aP):List TypeId→List (List D)→List SV
 |t :: ts,ds :: dn=>nS cfg t ds :: gE cfg ts dn
 |_,_=>[]
section
variable {H:Type} {enc:TypeId×Value→H} {P:Program} {W:World} {cfg:aP}
theorem apA:∀(ts:List TypeId) (dn:List (List D)),dn.length=ts.length→(gE cfg ts dn).length=ts.length
 | [],[],_=>rfl
 |t :: ts,ds :: dn,h=>by simp[gE,apA ts dn (by simpa using h)]
 | [],_ :: _,h=>by simp at h
 |_ :: _,[],h=>by simp at h
theorem aza (hT:eS P cfg) (B:pe H) (n:Nat) {r:Reach} {base:Nat}:∀(ts:List TypeId) (vs:List Value) (ds:List (DataW H)) (ps:List MemPlace),(∀t∈ts,lP cfg n t=true)→
  (∀(j:Nat) t v,ts[j]? =some t→vs[j]? =some v→Value.okWide P W r base t v)→DataW.TrodAll enc P W 0 (fun _=>true) true ts vs ds ps→
  ds.length=ts.length∧vs.length=ts.length∧∃dn,dn.length=ts.length∧au (fun t x=>kH cfg n t x) ts dn∧lQ dn≤B.all ds∧(gE cfg ts dn).all kF=true∧
    ∀(K:Ctx) (β:Key→Option Nat) (s:St) (a:Act) (i:Nat),aY (ax K β (fun b=>b<W.heap.size) s a W) (vs.getD i undef) ((gE cfg ts dn).getD i .undef):=by
 intro ts
 induction ts with
 |nil=>
  intro vs ds ps _ _ h
  obtain⟨rfl,rfl,_⟩:=trodAll_nil h
  exact⟨rfl,rfl,[],rfl,trivial,by simp[lQ],rfl,fun _ _ _ _ i=>by simp[gE,aY]⟩
 |cons t ts ih=>
  intro vs ds ps hp hval h
  obtain⟨v,vs',d,ds',p,q,rfl,rfl,rfl,hd,hr⟩:=trodAll_cons h
  obtain⟨x,x1,x2,x3,x4⟩:=ay9 (w:=W) hT B (hp t (List.mem_cons_self ..)) (hval 0 t v rfl rfl) hd
  obtain⟨l1,l2,dn,h1,h2,h3,h4,h5⟩:=ih vs' ds' q (fun t ht=>hp t (List.mem_cons_of_mem _ ht)) (fun j t v ht hv=>hval (j+1) t v (by simpa using ht) (by simpa using hv)) hr
  refine⟨by simp[l1],by simp[l2],x :: dn,by simp[h1],⟨x1,h2⟩,?_,?_,fun K β s a i=>?_⟩
  ·simp only[lQ,B.cons];omega
  ·simp only[gE,List.all_cons,Bool.and_eq_true];exact⟨x3,h4⟩
  ·cases i with
   |zero=>exact x4 K β s a
   |succ i=>exact h5 K β s a i
theorem azb {W':World} (hl:laidOutB P=true) (hb:Below W.heap.size W W'):∀(ts:List TypeId) (vs:List Value) (ds:List (DataW H)) (ps:List MemPlace),(∀t∈ts,P.readableRec t=true∧t<P.types.size)→(∀x∈ps,x.block<W.heap.size)→
  DataW.TrodAll enc P W 0 (fun _=>true) true ts vs ds ps→DataW.TrodAll enc P W' 0 (fun b=>decide (b<W.heap.size)) true ts vs ds ps:=by
 intro ts
 induction ts with
 |nil=>intro vs ds ps _ _ h;obtain⟨rfl,rfl,rfl⟩:=trodAll_nil h;exact trodAll_mk0
 |cons t ts ih=>
  intro vs ds ps hp hlt h
  obtain⟨v,vs',d,ds',p,q,rfl,rfl,rfl,hd,hr⟩:=trodAll_cons h
  obtain⟨g1,g2⟩:=hp t (List.mem_cons_self ..)
  exact trodAll_cons_mk (Below.trod hl g1 g2 hd hb fun x hx=>hlt x (List.mem_append_left _ hx)) (ih vs' ds' q (fun t ht=>hp t (List.mem_cons_of_mem _ ht)) (fun x hx=>hlt x (List.mem_append_right _ hx)) hr)
theorem azc {base:Nat} {args:Array Value} {ds gs:List (DataW H)} {before:List MemPlace} {f:FuncId} {fn:Func} {sp:ChangeSpec} {F:fc} {n:Nat} {ts:List TypeId} {tb:TypeId}
  (hF:bh P f F) (hT:eS P cfg) (hvars:sp.vars=[]) (zp:fn.params.toList=ts) (hrt:fn.resultTypes= #[tb]) (ahA:P.underlying tb=some .bool)
  (ahB:∀t∈ts,lP cfg n t=true) (hlaid:laidOutB P=true) (hread:∀t∈ts,P.readableRec t=true∧t<P.types.size) (B:pe H)
  (hres:∀dn,dn.length=ts.length→au (fun t x=>kH cfg n t x) ts dn→lQ dn≤B.all ds→F (gE cfg ts dn) []=some { v:=.one (.d (.bool true)),boxes:=[],aB:=[] })
  (hfn:∀ds:List (DataW H),ds.length=ts.length→sp.fn H (ds++[])={ results:=[.lit (.bool true)],args:=ds })
  (htab:∀g l,(g,l)∈oM P→g<W.heap.size∧mq W g l)
  (hval:∀(j:Nat) t v,fn.params[j]? =some t→args[j]? =some v→Value.okWide P W .any base t v)
  (hW:DataW.Whole enc P fn.params.toList sp.vars false W args.toList ds gs before):
  Calls P f args W fun e W'=>∃v,e= .returned v∧sp.post enc P fn false true false false W args v W':=by
 have hlt:=hW.lt
 have hW':=hW
 obtain⟨p,q,hA,hV,rfl,hfz,hnd⟩:=hW
 rw[hvars]at hV
 obtain⟨rfl,rfl⟩:=trodVars_none hV
 rw[zp]at hA
 obtain⟨l1,l2,dn,h1,h2,h3,h4,h5⟩:=aza hT B n ts args.toList ds p ahB (fun j t v ht hv=>hval j t v (by rw[←zp]at ht;simpa using ht) (by simpa using hv)) hA
 have hent:Rel (cR P 0 W args (fun _=>none) (fun _=>none) (fun b=>b<W.heap.size)) (fun _=>none) (fun _=>none) (fun b=>b<W.heap.size) (dI (gE cfg ts dn) []) { tmps:= #[],defers:=[] } W:=by
  have zq:∀k,(dI (gE cfg ts dn) [] (.box k)).v= .undef:=by intro k;cases k<;>simp[dI]
  refine⟨rfl,⟨rfl,fun g l hg=>⟨(htab g l hg).1,(htab g l hg).1,fun h=>h rfl,(htab g l hg).2⟩⟩,rfl,rfl,rfl,Nat.le_refl _,fun _ _ _=>rfl,fun _ h=>h,fun _ h=>h,fun b hb=>.inl hb,?_,?_,?_,?_,?_,?_,fun _ _ h=>h⟩
  ·intro t;exact trivial
  ·intro i
   have:=h5 (cR P 0 W args (fun _=>none) (fun _=>none) (fun b=>b<W.heap.size)) (fun _=>none) (dI (gE cfg ts dn) []) { tmps:= #[],defers:=[] } i
   have e:args.toList.getD i undef=args.getD i undef:=by simp[List.getD_eq_getElem?_getD,Array.getD_eq_getD_getElem?]
   rw[e]at this
   exact this
  ·intro k
   rw[zq]
   exact rfl
  ·intro r j e xs u1 b1 hr hc hh aM
   cases r with
   |tmp t=>simp[dI,SV.cells]at hc
   |arg i=>simp[ah.isArg]at hr
   |box k=>rw[zq]at hc;simp[SV.cells]at hc
  ·intro i j e xs u1 b1 hc hh aM
   exfalso
   have cA:((gE cfg ts dn).getD i .undef).cells[j]? =some (.own e xs):=hc
   have key:∀(ts:List TypeId) (dn:List (List D)) (i j:Nat),((gE cfg ts dn).getD i .undef).cells[j]? ≠some (.own e xs):=by
    intro ts
    induction ts with
    |nil=>intro dn i j;simp[gE,SV.cells]
    |cons t ts ih=>
     intro dn i j
     cases dn with
     |nil=>simp[gE,SV.cells]
     |cons x dn=>
      cases i with
      |zero=>
       simp only[gE,List.getD_cons_zero,nS]
       split
       ·split
        ·simp only[SV.cells,List.getElem?_map]
         cases x[j]? <;>simp
        ·cases j<;>simp[SV.cells]
       ·simp[SV.cells]
      |succ i=>simpa[gE]using ih dn i j
   exact key ts dn i j cA
  ·intro b g h;cases h
 have hsz:args.size=(gE cfg ts dn).length:=by rw[apA _ _ h1,←l2];simp
 refine(hF _ _ _ (hres dn h1 h2 h3) W args _ _ _ hsz h4 rfl hent).mono ?_
 rintro e W' ⟨v,β',ω',Z',rfl,hr⟩
 have hv:v= .bool true:=by
  have:=hr.tmps 0
  exact this.2
 subst hv
 have apB:Below W.heap.size W W':=⟨hr.os,hr.tape,hr.output,hr.base,fun k hk=>hr.frame k hk (fun h=>h rfl)⟩
 refine⟨_,rfl,ds,[],p++[],[],p,[],hW',?_,?_,?_,apB.frame _,fun h=>by cases h⟩
 ·rw[hfn ds l1,hrt]
  exact trodAll_cons_mk (shut_bool ahA _) trodAll_mk0
 ·rw[hfn ds l1,zp]
  exact azb hlaid apB ts _ ds p hread (fun x hx=>hlt x (List.mem_append_left _ hx)) hA
 ·rw[hfn ds l1,hvars]
  rfl
end
end Go.Vs
