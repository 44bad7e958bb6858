/- The statement ExportPreviewsUptoCardSaid of the given program is proved here: for every input whose bulk is at most the bound of its row, the law returns true and changes nothing. Part 2 of 7. -/
import Derived.Maps.RangeRun
import Derived.Scope
import Derived.Defers
import Derived.KernelRfl
import Derived.Deep.Slices
import Derived.ChangeArms
import Derived.Carry
import Derived.RowKit
import Derived.OpenShut
import Derived.ChangeOld
import Derived.ShapedOpen
import Derived.Laws.StructEq
import Derived.ChangeKeysEq
import Derived.Test.YtgbmhohlapmgbaaGreatDoorV1
set_option linter.unusedVariables false
set_option linter.unusedSimpArgs false
set_option linter.unusedSectionVars false
set_option linter.constructorNameAsVariable false
set_option linter.defProp false
open Array renaming getD_eq_getD_getElem?->Fa,getElem?_eq_some_iff->oa,mem_toList_iff->aeN
open BitVec renaming ofInt->lp
open Bool renaming and_eq_true->bG,and_self->aaQ,false->I,false_eq_true->bh,not_eq_true'->kj,or_eq_true->pw,true->W
open ForInStep renaming yield->Fk
open Go renaming BinOp->iL,Calls->dw,DataW->iN,FuncId->cY,IntKind->ln,Oper->ch,Operand->bO,Program->dr,ResultVar->md,TypeId->aW,Value->az,World->bD,run_part_plain->aeR,run_underlying->jF
open Go.DataW renaming TrodAll->aeO,trod->TA
open Go.Instr renaming checkKey->ls,loadAt->Au
open Go.Op renaming bytesLess->lY,eqFields->TB,equalIn->Fe
open Go.Oper renaming upon_skip->LS,upon_value->nh,wp->Fl
open Go.Program renaming plainKey->Fp
open Go.Region renaming binds->Ay,wanted->Fm
open Go.Result renaming andThen_ok->cO
open Go.RowKit renaming Below->cn
open Go.Sem renaming run_bind->cL,run_pure->ek
open Iff renaming rfl->rW
open List renaming all_cons->l8,all_eq_true->fO,flatMap_cons->lq,getD_eq_getElem?_getD->iy,getElem?_append_left->og,getElem?_append_right->Ax,getElem?_cons_succ->pr,getElem?_cons_zero->fY,getElem?_eq_getElem->du,getElem?_eq_some_iff->gi,getElem?_map->gj,getElem?_of_mem->lZ,length_cons->jr,length_map->jf,length_nil->AB,map->gV,map_append->px,map_cons->dO,map_drop->xW,map_map->rY,mem_append->l5,mem_cons->iA,mem_cons_of_mem->gU,mem_cons_self->jq,mem_iff_getElem?->Ts,mem_map->kH,mem_of_getElem?->eA,mem_singleton->ng,nodup_cons->xV,pairwise_cons->Az,range->hY,replicate->dk
open List.cons renaming injEq->xQ
open Nat renaming ble->fi,ble_eq->gG,le_of_ble_eq_true->xX,le_refl->dD,zero_le->fm
open Option renaming bind_eq_some_iff->Tz,getD_none->aeP,getD_some->eB,isSome_some->Fo,map_some->lu,none->O,some->J
open Option.some renaming injEq->kI
open PUnit renaming unit->xY
open Prod.mk renaming injEq->fj
open UInt8 renaming ofNat->je
open _root_ renaming Array->bv,Bool->ao,False->gT,Int->M,List->L,Nat->U,Option->Q,True->cZ,UInt8->ai,Unit->bu,absurd->bX,beq_iff_eq->cT,congrArg->bz,decide_eq_true_eq->eh,if_false->bC,if_neg->aK,if_pos->ax,if_true->bf,of_decide_eq_true->iB
namespace Go.Vs
section
variable{K:Ctx}{β:Key→Option Nat}{ω:Nat→Option cj}{Z:Nat→Prop}{s:St}{a:Act}{w:World}{cfg:bg}
def agQ{ks:L Key}{c:C}{e:Nat}{xs:L (L D)}(h:bc ks c=.own e xs):c=.own e xs:=by
 cases c with
 |ptr k off=>cases k<;>cases h
 |_=>first|exact h|cases h
theorem Vj{ks:L Key}{c:C}(h:plain c=W):bc ks c=c:=by cases c<;>first|rfl|cases h
def Vk{ks:L Key}{cs:L C}(h:cs.all plain=W):cs.map (bc ks)=cs:=by
 induction cs with|nil=>rfl|cons c cs a=>grind [Vj]
def Vl{n:Nat}{cs:L C}(h:cs.all plain=W):cs.all (ic n)=W:=by rw[fO]at h ⊢;intro c a;have:=h c a;cases c<;>first|rfl|cases this
def Vm{v:SV}{l:L C}(h:sf v l=W):∃k off,v=.agg [.ptr k off]∧l=[.ptr k off]:=by unfold sf at h;grind [Nat.beq_eq]
def agR{n:L Key}:∀(ks:L Key)(c:L (L C))(s s':St){y:bu},ks.Nodup→(pJ n ks c).exec s=J (y,s')→c.length=ks.length∧(∀(i:Nat)k cs,ks[i]?=J k→c[i]?=J cs→(s' (.box k)).v=.agg (cs.map (bc n))∧((s' (.box k)).hv=(s (.box k)).hv+1∨(s' (.box k)=s (.box k)∧∃q off,cs.map (bc n)=[.ptr q off]))∧(s' (.box k)).cv=(s (.box k)).cv∧cs.all (ic n.length)=W)∧(∀r,(∀k∈ks,r≠.box k)→s' r=s r):=by
 intro ks;induction ks with
 |nil=>
  intro c s s' y _ l;cases c with
  |nil=>let⟨_,H⟩:=aQ l;grind
  |cons b c=>simp[pJ,Prog.exec]at l
 |cons k ks E=>
  intro c s s' y u l;cases c with
  |nil=>simp[pJ,Prog.exec]at l|cons b c=>
   simp only[pJ,Prog.exec]at l;let⟨_,K,h1,d⟩:=aI l;let⟨hp,w⟩:=bW h1;rw[w]at d;let⟨hk,g⟩:=xV.1 u;cases j:sf (s (.box k)).v (b.map (bc n))with
   |true=>
    rw[j]at d;let⟨G,off,x,o⟩:=Vm j;let⟨z,A,p⟩:=E c s s' g d;refine⟨by simp[z],λi k' cs hi f=>?_,λr m=>p r (λk2 a=>m k2 (gU _ a))⟩;cases i with|zero=>simp only[fY,Option.some.injEq]at hi f;subst hi;subst f;rw[p (.box k) (λk2 a e=>hk (by cases e;exact a))];exact⟨by rw[x,o],.inr ⟨rfl,G,off,o⟩,rfl,hp⟩|succ i=>simp only[pr]at hi f;exact A i k' cs hi f
   |false=>
   rw[j]at d;let⟨_,F,h2,B⟩:=aI d;simp only[dn,Prog.exec,Option.some.injEq,fj]at h2;let⟨_,t⟩:=h2;let⟨z,A,p⟩:=E c F s' g B;have h:∀r,r≠.box k→F r=s r:=λr m=>(by rw[←t,km _ _ m]);refine⟨by simp[z],λi k' cs hi f=>?_,λr m=>?_⟩;cases i with|zero=>simp only[fY,Option.some.injEq]at hi f;subst hi;subst f;rw[p (.box k) (λk2 a e=>hk (by cases e;exact a)),←t,kl];exact⟨rfl,.inl rfl,rfl,hp⟩|succ i=>simp only[pr]at hi f;have:=A i k' cs hi f;have D:aD.box k'≠.box k:=λe=>hk (by cases e;exact eA hi);rw[h _ D]at this;exact this
   rw[p r (λk2 a=>m k2 (gU _ a)),h r (m k (jq ..))]
def agS(t:Nat):∀(d:L (L C))(a:Nat)(s s':St){y:bu},(escape t a d).exec s=J (y,s')→(∀(i:Nat)cs,d[i]?=J cs→(s (.box (.esc t (a+i)))).v=.undef∧(s' (.box (.esc t (a+i)))).v=.agg cs∧(s' (.box (.esc t (a+i)))).hv=(s (.box (.esc t (a+i)))).hv+1∧(s' (.box (.esc t (a+i)))).cv=(s (.box (.esc t (a+i)))).cv∧cs.all plain=W)∧(∀r,(∀i,i<d.length→r≠.box (.esc t (a+i)))→s' r=s r):=by
 intro d;induction d with
 |nil=>intro a s s' y f;let⟨_,u⟩:=aQ f;grind
 |cons b d p=>
  intro a s s' y f;simp only[escape,Prog.exec]at f;split at f;rename_i w;let⟨_,x,h1,g⟩:=aI f;let⟨hp,l⟩:=bW h1;rw[l]at g;let⟨_,n,h2,m⟩:=aI g;simp only[dn,Prog.exec,Option.some.injEq,fj]at h2;let⟨_,h⟩:=h2;let⟨q,o⟩:=p (a+1) n s' m;have c:∀r,r≠.box (.esc t a)→n r=s r:=λr j=>by rw[←h,km _ _ j]
  refine⟨λi cs k=>?_,λr j=>?_⟩;cases i with|zero=>simp only[fY,Option.some.injEq]at k;subst k;simp only[Nat.add_zero];rw[o (.box (.esc t a)) (λi _ e=>by simp at e;omega),←h,kl];grind|succ i=>simp only[pr]at k;have:=q i cs k;rw[show a+1+i=a+(i+1) by omega,c _ (by simp)]at this;exact this
  rw[o r (λi hi=>by have:=j (i+1) (by simpa using hi);grind),c r (by have:=j 0 (by simp);simpa using this)];simp[Prog.exec]at f
theorem Vn{args:L SV}:∀{l:L (Nat×Nat)},yk args l=W→jI l args=args
 |[],_=>rfl|(i,j)::r,h=>by
  simp only[yk,l8,bG]at h;let⟨h1,h2⟩:=h;simp only[jI];have a:args.set i (nw (args.getD i .undef) j)=args:=by have:nw (args.getD i .undef) j=args.getD i .undef:=(by grind [nw]);rw[this];apply List.ext_getElem?;grind
  rw[a];exact Vn h2
def tr(ks:L Key)(t:Nat):Option cj→Option cj|some (.tmp _,j)=>J (.tmp t,j)|some (.box (.inb i),j)=>J (.box (if i<ks.length then ks.getD i default else .esc t (i-ks.length)),j)|_=>O
open Classical in
theorem Vo(h:Rel K β ω Z s a w){ks:L Key}(hnd:ks.Nodup){us:L az}{n:L SV}(hcan:aG (Bp ks β ω Z w) us n){r:pC}{v:az}{X:Key→Option Nat}{ω':Nat→Option cj}{Z':Nat→Prop}{w':World} (hR:Rel (cm K.P 1 w us.toArray (fB ks β) (eW ks ω) Z) X ω' Z' (dL n r) {tmps:=#[v],defers:=[]} w') (agT:∀(i:Nat)(k:Key),ks[i]?=J k→∃cs,(s (.box k)).v=.agg cs)(awW:yk n r.bR=W)(hlen:ks.length≤r.boxes.length) {t:Nat}{s1 s2:St}{y y':bu}(hp:(pJ ks ks (r.boxes.take ks.length)).exec s=J (y,s1))(agU:(escape t 0 (r.boxes.drop ks.length)).exec s1=J (y',s2)){v':SV}{s3:St}(f:(jJ ks t r.v).exec s2=J (v',s3)):∃l H,Rel K l H Z' s3 a w'∧gZ K l H Z' s3 a w' (.tmp t) v v':=by
 let⟨hpl,hp1,hp2⟩:=agR ks _ s s1 hnd hp;let⟨he1,V⟩:=agS t _ 0 s1 s2 agU;simp only[Nat.zero_add]at he1 V;have hKs:∀(i:Nat)k,ks[i]?=J k→∃cs,r.boxes[i]?=J cs∧(s1 (.box k)).v=.agg (cs.map (bc ks))∧((s1 (.box k)).hv=(s (.box k)).hv+1∨(s1 (.box k)=s (.box k)∧∃q off,cs.map (bc ks)=[.ptr q off]))∧(s1 (.box k)).cv=(s (.box k)).cv∧cs.all (ic ks.length)=W:=by
  intro i k hi;have hil:i<ks.length:=(gi.1 hi).1;have B:(r.boxes.take ks.length)[i]?=r.boxes[i]? :=by grind
  grind
 have awY:∀k∈ks,∀i,i<(r.boxes.drop ks.length).length→aD.box k≠.box (.esc t i):=by grind [lZ]
 have Vp:∀(i:Nat)k,ks[i]?=J k→∃cs,r.boxes[i]?=J cs∧(s2 (.box k)).v=.agg (cs.map (bc ks))∧((s2 (.box k)).hv=(s (.box k)).hv+1∨(s2 (.box k)=s (.box k)∧∃q off,cs.map (bc ks)=[.ptr q off]))∧(s2 (.box k)).cv=(s (.box k)).cv∧cs.all (ic ks.length)=W:=by grind
 have M4:∀i,i<(r.boxes.drop ks.length).length→∃cs,r.boxes[ks.length+i]?=J cs∧(s (.box (.esc t i))).v=.undef∧(s2 (.box (.esc t i))).v=.agg cs∧(s2 (.box (.esc t i))).hv=(s (.box (.esc t i))).hv+1∧(s2 (.box (.esc t i))).cv=(s (.box (.esc t i))).cv∧cs.all plain=W:=by intro i hi;let⟨F,N,g3,g4,g5⟩:=he1 i _ (du hi);grind
 have agV:∀q,(∀k∈ks,q≠.box k)→(∀i,i<(r.boxes.drop ks.length).length→q≠.box (.esc t i))→s2 q=s q:=λq h1 h2=>by rw[V q h2,hp2 q h1]
 have agW:s3=s2:=by
  have T:∀(c c':C)(x x':St),(back ks t c).exec x=J (c',x')→x'=x:=by intro c c' x x' E;unfold back at E;split at E;exact(aQ E).2;exact(aQ E).2;exact(aQ E).2;let⟨_,x1,h1,V⟩:=aI E;rw[(aQ V).2,(bW h1).2];simp[Prog.exec]at E
  have vI:∀(cs Y:L C)(x x':St),(pK ks t cs).exec x=J (Y,x')→x'=x:=by
   intro cs;induction cs with
   |nil=>intro Y x x' E;exact(aQ E).2
   |cons c cs ih=>intro Y x x' E;simp only[pK]at E;let⟨c1,x1,h1,he1⟩:=aI E;let⟨vE,x2,h2,V⟩:=aI he1;grind [aQ]
  have hb3:∀(vs vs':L (ao×L C))(x x':St),(qN ks t vs).exec x=J (vs',x')→x'=x:=by
   intro vs;induction vs with
   |nil=>intro Y x x' E;exact(aQ E).2
   |cons c cs ih=>intro Y x x' E;let⟨b,c⟩:=c;simp only[qN]at E;let⟨c1,x1,h1,he1⟩:=aI E;let⟨vE,x2,h2,V⟩:=aI he1;grind [aQ]
  cases pU:r.v with
  |one c=>rw[pU]at f;simp only[jJ]at f;let⟨c1,x1,h1,E⟩:=aI f;grind [aQ]
  |agg c=>rw[pU]at f;simp only[jJ]at f;let⟨c1,x1,h1,E⟩:=aI f;grind [aQ]
  |aX c=>rw[pU]at f;simp only[jJ]at f;let⟨c1,x1,h1,E⟩:=aI f;grind [aQ]
  |undef=>grind [jJ,Prog.exec]
 rw[agW]at f ⊢;let G:Nat→Prop:=λb=>w.heap.size≤b∨eW ks ω b≠O;have A:∀b,¬G b→w'.heap[b]?=w.heap[b]? :=λb B=>hR.frame b (by simp only[G,not_or]at B;show b<w.heap.size;omega) (by simp only[G,not_or]at B;exact B.2);have M5:∀b g,ω' b=J g→G b:=by intro b g B;by_cases hlt:b<w.heap.size;exact .inr ((hR.c9 b g B).2.2 hlt);grind
 have hfz:∀b,Z' b→Z b∨G b:=by
  intro b B;rcases hR.lA b B with g|g|g|⟨i,j,e,ys,u0,F,N,g3,g3l⟩
  exact .inl g;exact .inr (.inl g);exact .inr (.inr g);left;have Gn:(n.getD i .undef).cells[j]?=J (.d (.sl e ys)):=by grind [dL,Vn]
  rw[iy]at Gn;cases Vq:n[i]? with|none=>grind [SV.cells]|some cv=>rw[Vq]at Gn;let⟨u,q1,q2⟩:=hcan.get Vq;let⟨x,q3,q4⟩:=(q2.1 K s a).cell Gn;have hu:(cm K.P 1 w us.toArray (fB ks β) (eW ks ω) Z).argv.getD i undef=u:=(by show us.toArray.getD i undef=u;simp[Fa,q1]);rw[hu,q3]at N;cases N;exact a6.live q4 g3 g3l
 have Gr:∀b g,ω b=J g→(∀k j,g=(.box k,j)→k ∉ ks)→¬G b:=by intro b g B hg;have hlt:=(h.c9 b g B).2.1;grind [eW]
 have agY:∀b,Z b→¬G b:=by
  intro b B;have hlt:=h.cD b B;simp only[G,not_or];refine⟨by omega,?_⟩;have:ω b=O:=by
   cases hω:ω b with|none=>rfl|some g=>exact bX B (h.c9 b g hω).1
  simp[eW,this]
 have Vr:∀b,b<K.base→¬K.E0 b→¬G b:=by
  intro b B hE;simp only[G,not_or];refine⟨by have:=h.base;omega,?_⟩;have:ω b=O:=by
   cases hω:ω b with|none=>rfl|some g=>exact bX ((h.c9 b g hω).2.2 B) hE
  simp[eW,this]
 let l:Key→Option Nat:=λk=>match k with|.esc t' i=>if t'=t∧i<(r.boxes.drop ks.length).length then X (.inb (ks.length+i))else β k|k=>β k
 have M6:∀i,i<(r.boxes.drop ks.length).length→l (.esc t i)=X (.inb (ks.length+i)):=λi hi=>by grind
 have A2:∀k,(∀i,i<(r.boxes.drop ks.length).length→k≠.esc t i)→l k=β k:=by grind
 have R:∀k b,β k=J b→l k=J b:=by intro k b B;rw[A2 k];exact B;rintro i hi rfl;let⟨cs,_,g,_⟩:=M4 i hi;have:=h.boxes (.esc t i);rw[g]at this;simp only[di]at this;grind
 have hβks:∀(i:Nat)k,ks[i]?=J k→∃b,β k=J b∧X (.inb i)=J b∧l k=J b:=by intro i k hi;let⟨cs,hcs⟩:=agT i k hi;let⟨b,ws,el,lo,hi',F,_⟩:=di.cell h hcs;refine⟨b,F,hR.mx (.inb i) b ?_,R k b F⟩;show fB ks β (.inb i)=J b;have:=pS (eA hi) β;grind [pT]
 let H:Nat→Option cj:=λb=>if G b then tr ks t (ω' b)else ω b;have Gs:∀b,G b→H b=tr ks t (ω' b):=λb B=>by grind
 have M7:∀b,¬G b→H b=ω b:=λb B=>by grind
 have Ml:∀q,fA (s q) (s2 q):=by intro q;by_cases h1:∃k∈ks,q=.box k;grind [lZ,fA.bump,fA.refl];grind [fA.bump,fA.refl]
 have hsame:∀q,(s2 q).hv=(s q).hv→((∀k∈ks,q≠.box k)∨∃(i:Nat)(k:Key)(p:Key)(off:Nat)(cs:L C),ks[i]?=J k∧q=.box k∧s2 q=s q∧(s q).v=.agg [.ptr p off]∧r.boxes[i]?=J cs∧cs.map (bc ks)=[.ptr p off]∧cs.all (ic ks.length)=W)∧(∀i,i<(r.boxes.drop ks.length).length→q≠.box (.esc t i)):=by intro q hq;constructor;by_cases h1:∃k∈ks,q=.box k;obtain⟨k,hk,rfl⟩:=h1;let⟨i,hi⟩:=lZ hk;grind;grind;grind
 have Gt:∀q j,(∀k∈ks,q≠.box k)→(∀i,i<(r.boxes.drop ks.length).length→q≠.box (.esc t i))→bU K l a w' q j=bU K β a w q j:=by
  intro q j h1 h2;cases q with
  |tmp t'=>rfl|arg i=>rfl|box k=>
   simp only[bU];rw[A2 k (λi hi e=>h2 i hi (by rw[e]))];cases B:β k with
   |none=>rfl|some b=>
    simp only[Option.bind_some];refine cell_of_heap (A b ?_) _ _;have S:=h.boxes k;cases hv:(s (.box k)).v with
    |agg cs=>let⟨b2,ws,el,lo,hi,F,N,_⟩:=di.cell h hv;grind
    |undef=>rw[hv]at S;simp only[di]at S;grind|one c=>rw[hv]at S;exact S.elim|aX x=>rw[hv]at S;exact S.elim
 have agZ:∀b,¬G b→Z' b→Z b:=λb B hz=>(hfz b hz).resolve_right B;have ag0:∀(c:C)(u:az),ic ks.length c=W→aH (cm K.P 1 w us.toArray (fB ks β) (eW ks ω) Z) X Z' (dL n r) {tmps:=#[v],defers:=[]} w' c u→aH K l Z' s2 a w' (bc ks c) u:=by
  intro c u B z;cases c with
  |d x=>exact z|own e xs=>exact z|ptr k off=>
   cases k with
   |inb m=>have hm:m<ks.length:=(by simpa[ic]using B);let⟨b,F,N⟩:=z;let⟨b2,p1,p2,p3⟩:=hβks m _ (du hm);rw[p2]at F;cases F;refine⟨b,?_,N⟩;rw[iy,du hm];exact p3
   |_=>cases B
  |dead=>trivial|_=>cases B
 have hboxR:∀(i:Nat)(cs:L C)(kk:Key),r.boxes[i]?=J cs→cs.all (ic ks.length)=W→l kk=X (.inb i)→(if i<ks.length then ks.getD i default else .esc t (i-ks.length))=kk→(di K l H Z' s2 a w' kk (.agg (cs.map (bc ks))))∧(∀(j e:Nat)(xs:L (L D))(u1:az)(b1:Nat),(cs.map (bc ks))[j]?=J (.own e xs)→bU K l a w' (.box kk) j=J u1→dB u1=J b1→H b1=J (.box kk,J j)∧kO w' e u1):=by
  intro i cs kk hi hpl Vt hkk;have hex:(dL n r (.box (.inb i))).v=.agg cs:=by simp only[dL,hi]
  let⟨b,ws,el,lo,hi',F,N,g3,g4,g5⟩:=di.cell hR hex;have hdb:=M5 b _ N;refine⟨⟨b,ws,el,lo,hi',by rw[Vt];exact F,by rw[Gs b hdb,N];simp only[tr,hkk],g3,g4,g5.Gq λu c z hr=>ag0 c u (Vh hpl z) hr⟩,?_⟩;intro j e xs u1 b1 z hh T;have z:cs[j]?=J (.own e xs):=by
   rw[gj]at z;cases Vu:cs[j]? with
   |none=>rw[Vu]at z;cases z
   |some c0=>rw[Vu]at z;simp only[Option.map_some,Option.some.injEq]at z;rw[agQ z]
  have M8:bU (cm K.P 1 w us.toArray (fB ks β) (eW ks ω) Z) X {tmps:=#[v],defers:=[]} w' (.box (.inb i)) j=J u1:=by simp only[bU]at hh ⊢;rw[←Vt];exact hh
  let⟨q1,q2⟩:=hR.own (.box (.inb i)) j e xs u1 b1 rfl (by rw[hex];exact z) M8 T;have U0:=M5 _ _ q1;exact⟨by rw[Gs _ U0,q1];simp only[tr,hkk],q2⟩
 have ag1:∀q j,(s2 q).hv=(s q).hv→(s2 q).at j≠.dead→bU K l a w' q j=bU K β a w q j:=by
  intro q j hq hd;let⟨F,N⟩:=hsame q hq;rcases F with F|⟨i,k,p,off,cs,hi,rfl,e1,e2,e3,e4,e5⟩
  exact Gt q j F N;have hil:i<ks.length:=(gi.1 hi).1;let⟨b,p1,p2,p3⟩:=hβks i k hi;have hB:=(hboxR i cs k e3 e5 (by rw[p2,p3]) (by rw[ax hil,iy,hi];rfl)).1;rw[e4]at hB;let⟨b1,ws1,el1,lo1,hi1,a1,_,a3,_,a5⟩:=hB;let⟨b2,yp,A3,A4,hi2,c1,_,c3,_,c5⟩:=di.cell h e2;rw[lB a1 a3,lB c1 c3];have hj:j=0:=by
   cases j with|zero=>rfl|succ j=>exact bX (by rw[e1];simp only[RV.at,e2,SV.cells];rfl) hd
  subst hj;let⟨u1,x1,y1⟩:=a5.get (j:=0) rfl;let⟨u2,x2,y2⟩:=c5.get (j:=0) rfl;rw[x1,x2];let⟨b3,z1,z2⟩:=y1;let⟨b4,z3,z4⟩:=y2;rw[R _ _ z3]at z1;cases z1;rw[z2,z4]
 have T7:∀(c:C)(u:az),(∀(e:Nat)(xs:L (L D))(b1:Nat),c=.own e xs→dB u=J b1→¬G b1)→aH K β Z s a w c u→aH K l Z' s2 a w' c u:=λc u pP h1=>aH.step R (λb B=>⟨A b (agY b B),hR.ky b B⟩) Ml ag1 (λe xs b1 h2 h3=>A _ (pP e xs b1 h2 h3)) h1;have FV:∀(q:aD)(j:Nat)(c:C)(u:az),(∀k∈ks,q≠.box k)→(s q).v.cells[j]?=J c→bU K β a w q j=J u→aH K β Z s a w c u→aH K l Z' s2 a w' c u:=by
  intro q j c u hq z hu;refine T7 c u λe xs b1 h1 h2=>?_;subst h1;by_cases oH:q.isArg=W;cases q with
  |arg i=>let⟨F,N⟩:=h.gw i j e xs u b1 z hu h2;exact Vr _ F N
  |tmp t=>simp[aD.isArg]at oH|box k=>simp[aD.isArg]at oH
  exact Gr _ _ (h.own q j e xs u b1 (by simpa using oH) z hu h2).1 λk' j' e' hk'=>hq k' hk' (by cases e';rfl)
 have hs2v:∀q,(∀k∈ks,q≠.box k)→(∀i,i<(r.boxes.drop ks.length).length→q≠.box (.esc t i))→(s2 q).v=(s q).v:=λq h1 h2=>by rw[agV q h1 h2]
 have Vv:Rel K l H Z' s2 a w':=by
  refine⟨h.size,h.defers,hR.os.trans h.os,hR.tape.trans h.tape,hR.output.trans h.output,Nat.le_trans h.base hR.base,?_,hR.cD,λb B=>hR.ky b (h.ky b B),?_,?_,?_,?_,?_,?_,?_,λk b B=>R k b (h.mx k b B)⟩;intro b B hE;rw[A b (Vr b B hE)];exact h.frame b B hE;intro b B;rcases hfz b B with g|g
  rcases h.lA b g with q|q|q|⟨i,j',e',ys',u',q1,q2,q3⟩
  exact .inl q;exact .inr (.inl q);exact .inr (.inr (.inl q));exact .inr (.inr (.inr ⟨i,j',e',ys',u',by rw[hs2v _ (by simp) (by simp)];exact q1,q2,q3⟩));rcases g with g|g
  exact .inr (.inl (Nat.le_trans h.base g));by_cases vI:b<K.base;right;right;left;cases hω:ω b with|none=>simp[eW,hω]at g|some g'=>exact(h.c9 b g' hω).2.2 vI
  omega;intro t';rw[hs2v _ (by simp) (by simp)];exact bj.mv (λj c u z hu=>FV (.tmp t') j c u (by simp) z hu) (h.tmps t');intro i;rw[hs2v _ (by simp) (by simp)];exact bj.mv (λj c u z hu=>FV (.arg i) j c u (by simp) z hu) (h.args i);intro k;by_cases h1:k∈ks;let⟨i,hi⟩:=lZ h1;let⟨cs,F,N,_,_,g3⟩:=Vp i k hi;let⟨b,p1,p2,p3⟩:=hβks i k hi;rw[N];refine(hboxR i cs k F g3 (by rw[p2,p3]) ?_).1;have hil:i<ks.length:=(gi.1 hi).1;rw[ax hil,iy,hi];rfl;by_cases h2:∃i,i<(r.boxes.drop ks.length).length∧k=.esc t i;obtain⟨i,hi,rfl⟩:=h2;let⟨cs,F,_,N,_,_,g3⟩:=M4 i hi;rw[N];have hh:=(hboxR (ks.length+i) cs (.esc t i) F (Vl g3) (M6 i hi) (by rw[aK (by omega),Nat.add_sub_cancel_left])).1;rw[Vk g3]at hh;exact hh;have vJ:∀k'∈ks,aD.box k≠.box k':=λk' hk' e=>h1 (by cases e;exact hk');have hn2:∀i,i<(r.boxes.drop ks.length).length→aD.box k≠.box (.esc t i):=λi hi e=>h2 ⟨i,hi,by cases e;rfl⟩;rw[hs2v _ vJ hn2];have S:=h.boxes k;cases hv:(s (.box k)).v with
  |agg cs=>let⟨b,ws,el,lo,hi,F,N,g3,g4,g5⟩:=di.cell h hv;have hdb:¬G b:=Gr b _ N λk' j' e hk'=>h1 (by cases e;exact hk');refine⟨b,ws,el,lo,hi,R k b F,by rw[M7 b hdb];exact N,by rw[A b hdb];exact g3,g4,aG.c8 g5.length λj u c hu z=>?_⟩;let⟨u',q1,q2⟩:=g5.get z;rw[hu]at q1;cases q1;exact FV (.box k) j c u vJ (by rw[hv];exact z) (by rw[lB F g3];exact hu) q2
  |undef=>rw[hv]at S;show l k=O;rw[A2 k (λi hi e=>h2 ⟨i,hi,e⟩)];exact S|one c=>rw[hv]at S;exact S.elim|aX x=>rw[hv]at S;exact S.elim
  intro q j e xs u1 b1 hq z hh T;by_cases h1:∃k∈ks,q=.box k;obtain⟨k,hk,rfl⟩:=h1;let⟨i,hi⟩:=lZ hk;let⟨cs,F,N,_,_,g3⟩:=Vp i k hi;let⟨b,p1,p2,p3⟩:=hβks i k hi;rw[N]at z;refine(hboxR i cs k F g3 (by rw[p2,p3]) ?_).2 j e xs u1 b1 z hh T;have hil:i<ks.length:=(gi.1 hi).1;rw[ax hil,iy,hi];rfl;by_cases h2:∃i,i<(r.boxes.drop ks.length).length∧q=.box (.esc t i);obtain⟨i,hi,rfl⟩:=h2;let⟨cs,F,_,N,_,_,g3⟩:=M4 i hi;rw[N]at z;exact(hboxR (ks.length+i) cs (.esc t i) F (Vl g3) (M6 i hi) (by rw[aK (by omega),Nat.add_sub_cancel_left])).2 j e xs u1 b1 (by rw[Vk g3];exact z) hh T;have vJ:∀k'∈ks,q≠.box k':=λk' hk' e=>h1 ⟨k',hk',e⟩;have hn2:∀i,i<(r.boxes.drop ks.length).length→q≠.box (.esc t i):=λi hi e=>h2 ⟨i,hi,e⟩;rw[hs2v _ vJ hn2]at z;rw[Gt q j vJ hn2]at hh;let⟨F,N⟩:=h.own q j e xs u1 b1 hq z hh T;have hdb:¬G b1:=Gr _ _ F λk' j' e' hk'=>vJ k' hk' (by cases e';rfl);exact⟨by rw[M7 _ hdb];exact F,N.mono T (A _ hdb)⟩;intro i j e xs u1 b1 z hh T;rw[hs2v _ (by simp) (by simp)]at z;exact h.gw i j e xs u1 b1 z hh T;intro b g B;by_cases hd:G b;rw[Gs b hd]at B;cases hω:ω' b with
  |none=>rw[hω]at B;simp[tr]at B|some g'=>
   let⟨q1,q2,q3⟩:=hR.c9 b g' hω;refine⟨q1,q2,λhbase=>?_⟩;have hlt:b<w.heap.size:=Nat.lt_of_lt_of_le hbase h.base;have hne:eW ks ω b≠O:=q3 hlt;cases F6:ω b with|none=>simp[eW,F6]at hne|some g0=>exact(h.c9 b g0 F6).2.2 hbase
  rw[M7 b hd]at B;let⟨q1,q2,q3⟩:=h.c9 b g B;exact⟨λhz=>q1 (agZ b hd hz),Nat.lt_of_lt_of_le q2 hR.base,q3⟩
 refine⟨l,H,Vv,?_⟩;have jN:bj (aH (cm K.P 1 w us.toArray (fB ks β) (eW ks ω) Z) X Z' (dL n r) {tmps:=#[v],defers:=[]} w') v r.v:=hR.tmps 0;have ag2:∀(j e:Nat)(xs:L (L D))(u1:az)(b1:Nat),r.v.cells[j]?=J (.own e xs)→(flat v)[j]?=J u1→dB u1=J b1→H b1=J (.tmp t,J j)∧kO w' e u1∧G b1:=by intro j e xs u1 b1 z hh T;let⟨q1,q2⟩:=hR.own (.tmp 0) j e xs u1 b1 rfl z hh T;have hd:=M5 _ _ q1;exact⟨by rw[Gs _ hd,q1];rfl,q2,hd⟩
 have hfree:∀(j:Nat)(b:Nat),H b=J (.tmp t,J j)→G b→jK K l s2 a w' b:=by intro j b hω hd q j' e' xs' u' b' hq z hh T B;have g:=(Vv.own q j' e' xs' u' b' hq z hh T).1;rw[B,hω]at g;simp only[Option.some.injEq,fj]at g;obtain⟨rfl,rfl⟩:=g;rw[hs2v _ (by simp) (by simp)]at z;rw[Gt _ _ (by simp) (by simp)]at hh;have N:=(h.own (.tmp t) j e' xs' u' b' rfl z hh T).1;exact Gr _ _ N (by intro k j e;cases e) (by rw[B];exact hd)
 have Vw:∀(c c':C)(x:az)(q q':St),(back ks t c).exec q=J (c',q')→aH (cm K.P 1 w us.toArray (fB ks β) (eW ks ω) Z) X Z' (dL n r) {tmps:=#[v],defers:=[]} w' c x→aH K l Z' s2 a w' c' x∧(∀e xs,c'=.own e xs→c=.own e xs):=by
  intro c c' x q q' E z;unfold back at E;split at E;obtain⟨rfl,_⟩:=aQ E;exact⟨z,by simp⟩;obtain⟨rfl,_⟩:=aQ E;exact⟨z,by simp⟩;rename_i i off;obtain⟨rfl,_⟩:=aQ E;let⟨b,F,N⟩:=z;refine⟨⟨b,?_,N⟩,by simp⟩;simp only[L5];split;rename_i hi;have hki:=du hi;let⟨b2,p1,p2,p3⟩:=hβks i _ hki;rw[iy,hki];rw[p2]at F;cases F;exact p3;rename_i hi;have S:=hR.boxes (.inb i);cases Vx:r.boxes[i]? with
  |none=>have:(dL n r (.box (.inb i))).v=.undef:=(by simp only[dL,Vx]);rw[this]at S;simp only[di]at S;rw[S]at F;cases F
  |some cs=>have hil:=(gi.1 Vx).1;rw[M6 (i-ks.length) (by simp;omega),show ks.length+(i-ks.length)=i by omega];exact F
  let⟨_,x1,h1,V⟩:=aI E;let⟨hcap,_⟩:=bW h1;obtain⟨rfl,_⟩:=aQ V;rw[hcap]at z;let⟨vs,F,N⟩:=z;exact⟨⟨vs,F,by cases hvs:vs.toList with|nil=>trivial|cons _ _=>rw[hvs]at N;exact N.elim⟩,by simp⟩
  simp[Prog.exec]at E
 have Vy:∀(cs:L C)(xs:L az)(Y:L C)(q q':St),(pK ks t cs).exec q=J (Y,q')→aG (λu c=>aH (cm K.P 1 w us.toArray (fB ks β) (eW ks ω) Z) X Z' (dL n r) {tmps:=#[v],defers:=[]} w' c u) xs cs→aG (λu c=>aH K l Z' s2 a w' c u) xs Y∧(∀(j e:Nat)ys,Y[j]?=J (.own e ys)→cs[j]?=J (.own e ys)):=by
  intro cs;induction cs with
  |nil=>
   intro xs Y q q' E o;obtain⟨rfl,_⟩:=aQ E;cases xs with|nil=>exact⟨trivial,by simp⟩|cons _ _=>exact o.elim
  |cons c cs ih=>
   intro xs Y q q' E o;cases xs with
   |nil=>exact o.elim|cons x xs=>
    simp only[pK]at E;let⟨c1,x1,h1,he1⟩:=aI E;let⟨vE,x2,h2,V⟩:=aI he1;obtain⟨rfl,_⟩:=aQ V;let⟨p1,p2⟩:=Vw _ _ _ _ _ h1 o.1;let⟨q1,q2⟩:=ih xs vE _ _ h2 o.2;refine⟨⟨p1,q1⟩,λj e ys hj=>?_⟩;cases j with|zero=>simp only[fY,Option.some.injEq]at hj ⊢;exact p2 e ys hj|succ j=>simpa using q2 j e ys (by simpa using hj)
 have fin:∀v',bj (aH K l Z' s2 a w') v v'→(∀(j e:Nat)ys,v'.cells[j]?=J (.own e ys)→r.v.cells[j]?=J (.own e ys))→gZ K l H Z' s2 a w' (.tmp t) v v':=by intro v' h1 h2;refine⟨h1,λj c x z hx=>?_⟩;let⟨x',F,N⟩:=h1.cell z;rw[hx]at F;cases F;refine⟨N,λe xs b q1 q2=>?_⟩;subst q1;let⟨p1,p2,p3⟩:=ag2 j e xs x b (h2 j e xs z) hx q2;exact⟨p1,p2,hfree j b p1 p3⟩
 cases pU:r.v with
 |one c=>
  rw[pU]at f jN;simp only[jJ]at f;let⟨c1,x1,h1,E⟩:=aI f;obtain⟨rfl,_⟩:=aQ E;let⟨p1,p2⟩:=Vw _ _ _ _ _ h1 jN.2;refine fin _ ⟨jN.1,p1⟩ λj e ys hj=>?_;rw[pU];cases j with|zero=>simp only[SV.cells,fY,Option.some.injEq]at hj ⊢;exact p2 e ys hj|succ j=>simp[SV.cells]at hj
 |agg cs=>rw[pU]at f jN;simp only[jJ]at f;let⟨c1,x1,h1,E⟩:=aI f;obtain⟨rfl,_⟩:=aQ E;let⟨ws,yv,o⟩:=jN;let⟨p1,p2⟩:=Vy _ _ _ _ _ h1 o;exact fin _ ⟨ws,yv,p1⟩ λj e ys hj=>by rw[pU];exact p2 j e ys hj
 |aX vs=>
  rw[pU]at f jN;simp only[jJ]at f;let⟨c1,x1,h1,E⟩:=aI f;obtain⟨rfl,_⟩:=aQ E;let⟨ws,yv,o⟩:=jN;have key:∀(vs:L (ao×L C))(xs:L az)(vs':L (ao×L C))(q q':St),(qN ks t vs).exec q=J (vs',q')→aG (dx (aH (cm K.P 1 w us.toArray (fB ks β) (eW ks ω) Z) X Z' (dL n r) {tmps:=#[v],defers:=[]} w')) xs vs→aG (dx (aH K l Z' s2 a w')) xs vs'∧(vs'.map (·.2.length)=vs.map (·.2.length))∧(∀(j e:Nat)ys,(vs'.flatMap (·.2))[j]?=J (.own e ys)→(vs.flatMap (·.2))[j]?=J (.own e ys)):=by
   intro vs;induction vs with
   |nil=>
    intro xs vs' q q' E o;obtain⟨rfl,_⟩:=aQ E;cases xs with|nil=>exact⟨trivial,rfl,by simp⟩|cons _ _=>exact o.elim
   |cons x vs ih=>
    let⟨b,cs⟩:=x;intro xs vs' q q' E o;cases xs with
    |nil=>exact o.elim|cons x xs=>
     simp only[qN]at E;let⟨c1,x1,h1,he1⟩:=aI E;let⟨vE,x2,h2,V⟩:=aI he1;obtain⟨rfl,_⟩:=aQ V;let⟨q1,q2,q3⟩:=ih xs vE _ _ h2 o.2;have hfl:=dx.flat o.1;let⟨p1,p2⟩:=Vy cs x.cells.toList c1 _ _ h1 hfl;have hl:c1.length=cs.length:=(by rw[←p1.length,hfl.length]);refine⟨⟨?_,q1⟩,by simp[q2,hl],λj e ys hj=>?_⟩;have h3:=o.1;unfold dx at h3 ⊢;cases b with
     |true=>simp only[bf]at h3 ⊢;obtain⟨ws,rfl,_⟩:=h3;exact⟨ws,rfl,p1⟩
     |false=>
      simp only[bh,bC]at h3 ⊢;let⟨c,F,N,_⟩:=h3;rw[ku N]at p1;match c1,p1 with|[d],p1=>exact⟨d,rfl,N,p1.1⟩
     simp only[lq]at hj ⊢;by_cases hjl:j<c1.length;rw[og hjl]at hj;rw[og (by omega)];exact p2 j e ys hj;rw[Ax (by omega)]at hj;rw[Ax (by omega),←hl];exact q3 _ e ys hj
  let⟨p1,_,p2⟩:=key _ _ _ _ _ h1 o;exact fin _ ⟨ws,yv,p1⟩ λj e ys hj=>by rw[pU];exact p2 j e ys hj
 |undef=>simp_all [jJ,Prog.exec]
end
section
variable{K:Ctx}{β:Key→Option Nat}{ω:Nat→Option cj}{Z:Nat→Prop}{s:St}{a:Act}{w:World}{cfg:bg}
def Vz{e:Nat}(h:eC e=W):isMap e=W:=by have:=Nat.le_of_ble_eq_true h;exact Nat.ble_eq_true_of_le (by omega)
def ag3(hT:fT K.P cfg)(h:Rel K β ω Z s a w){t:aW}{x:bO}{dst:Nat}{o:ch}(C:o.op=.range t x){v:SV}{s':St}(r:(bE cfg o.op dst).exec s=J (v,s')):cf K s' a dst ((execOp a.eval o).run K.P w) v:=by
 rw[C]at r;simp only[bE]at r;let⟨c,s1,h1,f⟩:=aI r;let⟨u,o1,T,D⟩:=eV h h1;rw[u]at f;unfold FL at f;split at f;rename_i kt ki ei V;let⟨et,X,Y,MN,qS,vI⟩:=sB hT V;let⟨d,s2,h2,k⟩:=aI f;let⟨F5,q,E,k1,hd⟩:=A8 h T h2;split at k;rename_i e xs;let⟨_,s3,h3,y⟩:=aI k;let⟨z,A⟩:=bW h3;let⟨hv,B⟩:=aQ y;subst hv;subst B;subst A;have l:isMap e=W:=by rw[z];exact F9
 have hi:eC e=I:=by grind [vG]
 have m:fP e=I:=by grind [sA]
 let⟨b,F,G,H⟩:=(a6.mr l).1 hd;rw[ny hi]at F;let⟨es,bF,g1,g2,g3⟩:=(dh.mp hi m).1 H;have i:bF=xs.length:=by rw[g2.bF,oJ g3]
 let⟨r2,k2,f2,g4⟩:=E.newObj (.mapIter (J b) bF #[] bF) (.tmp dst,J 0);have g:∀b',q b'→(w.alloc (.mapIter (J b) bF #[] bF)).heap[b']?=w.heap[b']? ∧q b':=λb' n=>by have:=E.cD b' n;refine⟨?_,n⟩;show(w.heap.push _)[b']?=_;grind
 have p:∀(s:St),aH K β q s a (w.alloc (.mapIter (J b) bF #[] bF)) (.own mg [[.sl e xs],[]]) (.pointer (J ⟨w.heap.size,0,O⟩)):=λs=>(aH.jh (e:=mg) rfl).2 ⟨w.heap.size,(Mb rfl _).symm,(dh.it (e:=mg) rfl).2 ⟨b,bF, #[],bF,g4,⟨(a6.mr l).2 ⟨b,(ny hi _).symm,G,dh.mono g e xs b (g b G).1 H⟩,trivial⟩,e,xs,rfl,l,hi,m,i,i,rfl⟩⟩;refine⟨.pointer (J ⟨w.heap.size,0,O⟩),w.alloc (.mapIter (J b) bF #[] bF),β,_,q,?_,r2,⟨rfl,p _⟩,?_⟩;simp only[execOp,C,Instr.range,F,cL,jF X,cO,oK g1,ek];rfl;intro j c x N R;have hj:j=0:=by grind [SV.cells]
 subst hj;simp only[SV.cells,fY,Option.some.injEq]at N;simp only[flat,fY,Option.some.injEq]at R;subst N;subst R;refine⟨p _,λe' xs b q1 S=>?_⟩;cases q1;simp only[dB,Option.some.injEq]at S;subst S;exact⟨by simp,trivial,f2⟩;simp[Prog.exec]at k;simp[Prog.exec]at f
def VA(h:Rel K β ω Z s a w){r:aD}{j hv cv e k:Nat}{l:L (L D)}{u:az}(n:aH K β Z s a w (.aS r j hv cv e k l) u)(o:(s r).hv=hv)(p:r.isArg=I)(hi:eC e=W) {v em:Nat}{xs:L (L D)}{seen:L D}(c:(s r).at j=.own v [[.sl em xs],seen]):
  v=e∧∃b m es bF sn,u=.pointer (J ⟨b,0,O⟩)∧bU K β a w r j=J (fu e b)∧w.heap[b]?=J (.mapIter (J m) xs.length sn xs.length)∧w.heap[m]?=J (.map es bF)∧
   bF=xs.length∧iS em bF es.toList∧eD w Z xs es.toList∧seen=kn sn.toList.reverse∧isMap em=W∧eC em=I∧fP em=I∧a6 w Z (.sl em xs) (.map (J m))∧¬Z b:=by
 have d:=Vz hi
 let⟨b,E,_,_,F⟩:=(aH.pN d).1 n
 let⟨f1,ys,f2,_⟩:=F o (vw c)
 rw[c]at f2
 rcases f2 with f2|f2<;>cases f2
 let⟨S,x,y⟩:=h.FQ d c
 rw[f1,Option.some.injEq]at x
 rw[AY x.symm]at y
 let⟨m,since,sn,f,G,H,T,ys,N,z,q,g,P,R,V⟩:=(dh.it hi).1 y
 cases N
 let⟨hd,_⟩:=H
 let⟨X,A,_,t⟩:=(a6.mr z).1 hd
 rw[ny q]at A
 cases A
 let⟨es,bF,t,B,C⟩:=(dh.mp q g).1 t
 have i:bF=xs.length:=by rw[B.bF,oJ C]
 subst P;subst R
 refine⟨rfl,b,m,es,bF,sn,by rw[E,Mb hi],f1,G,t,i,B,C,by grind,z,q,g,hd,?_⟩
 exact(h.c9 _ _ (h.own r j _ _ _ b p (gK c (by simp)) f1 (kr ..)).1).1
def VB{em:Nat}{row:L D}{en:MapEntry}(hk:oC em en)(b:iU w Z row (nz en)):aG (dx (aH K β Z s a w)) [en.key,en.val] (oz em row):=by unfold oC at hk;unfold oz;generalize va em=e at hk ⊢;generalize r9 em=f at hk ⊢;generalize vf em=g at hk ⊢;generalize FA em=h at hk ⊢;let⟨k1,k2⟩:=hk;let⟨c,d⟩:=yt k1 b;exact⟨Gg k1 c,Gg k2 d,trivial⟩
def VC{em:Nat}{row:L D}{c:C}(a:c∈(oz em row).flatMap (·.2)):ca c:=by simp only[oz,lq,List.flatMap_nil,List.append_nil,l5,kH]at a;rcases a with⟨d,_,rfl⟩|⟨d,_,rfl⟩<;>simp[ca]
theorem ag4(h:Rel K β ω Z s a w){dst:Nat}{r:Result Next}(b:r=.ok (.value (.tuple #[.bool I])) w):cf K s a dst r (.aX [(I,[.d (.bool I)])]):=cf.same h b ⟨#[.bool I],rfl,⟨_,rfl,rfl,rfl⟩,trivial⟩ (by simp[SV.cells,ca])
def ag5{α:Type}{p:Prop}[Decidable p](hp:p){f:bu→Prog α}{s:St}:(need p >>= f).exec s=(f ()).exec s:=by unfold need;rw[ax hp];rfl
def ag6{l m:L Nat}(h:kn l=kn m):l=m:=by
 unfold kn at h;induction l generalizing m with
 |nil=>simp_all|cons a l c=>
  cases m with|nil=>simp at h|cons b m=>grind
def Gu(h:Rel K β ω Z s a w){x:bO}{dst:Nat}{o:ch}(ho:o.op=.next x I){r:aD}{j hv cv e k:Nat}{R:L (L D)}{s1:St}(h1:(dc x).exec s=J (.aS r j hv cv e k R,s1)) (S:(s r).hv=hv)(z:r.isArg=I)(hi:eC e=W){T em:Nat}{xs:L (L D)}{sn:L Nat}(A:(s r).at j=.own T [[.sl em xs],kn sn]):
  ((∀i,i<xs.length→i∈sn)∧cf K s a dst ((execOp a.eval o).run K.P w) (.aX [(I,[.d (.bool I)])]))∨
    ∃i,i<xs.length∧i ∉ sn∧cf K (s.set r {(s r)with cv:=(s r).cv+1,v:=(s r).v.setCell j (.own T [[.sl em xs],kn (i::sn)])}) a dst ((execOp a.eval o).run K.P w) (.aX ((I,[.d (.bool W)])::oz em (xs.getD i []))):=by
 obtain⟨hs1,o1,r1,Gh⟩:=eV h h1
 have V:∀{u:az}{w':World},(Instr.next (a.eval x) I o.type).run K.P w=.ok u w'→(execOp a.eval o).run K.P w=.ok (.value u) w':=by simp_all [execOp]
 obtain⟨X,b,m,es,bF,f,e1,f1,p1,p2,p3,H,p5,p6,p7,p8,Y,p9,hnz⟩:=VA h r1 S z hi A
 subst X
 have B:=ag6 p6
 have C:xs.length=es.toList.length:=oJ p5
 have hold:∀x∈es.toList,x.born<xs.length:=by intro y hy;obtain⟨i,hi⟩:=Ts.1 hy;rw[H.born i y hi,C];grind
 rcases run_next_at (P:=K.P) w o.type b m _ _ f es bF p1 p2 hold (Nat.le_refl _)with⟨q,hrun⟩|⟨en,q1,E,q2,q3⟩
 left
 refine⟨λi hi=>?_,?_⟩
 have l:i<es.toList.length:=by omega
 have n:leftOf es f=#[]:=Array.eq_empty_of_size_eq_zero q
 unfold leftOf at n
 rw[Array.filter_eq_empty_iff]at n
 have hy:=n es.toList[i] (by simp)
 simp only[Bool.not_eq_true,Bool.not_eq_false',Bool.not_eq_eq_eq_not,Bool.not_true,Bool.not_false]at hy
 rw[H.born i _ (du l)]at hy
 rw[B]
 simpa using hy
 grind [ag4]
 right
 simp only[leftOf,aeN,Array.mem_filter,kj,Array.contains_iff_mem]at q1
 obtain⟨i,p⟩:=Ts.1 (aeN.2 q1.1)
 have hb:=H.born i en p
 have l:i<xs.length:=by grind
 obtain⟨row,g1,g2⟩:=pR p5 p
 refine⟨i,l,?_,?_⟩
 grind
 have hR1:Rel K β ω Z s a E∧E.heap=w.heap:=by
   rcases q2 with rfl|rfl
   exact⟨h,rfl⟩;exact⟨h.drew.1,rfl⟩
 obtain⟨R1,F⟩:=hR1
 obtain⟨g,t⟩:=Gf (w:=E) (o':=.mapIter (J m) xs.length (f.push en.born) bF) (by rw[F];exact p1)
 have hZ:∀b',Z b'→(ChangeMaps.setBlock E b (.mapIter (J m) xs.length (f.push en.born) bF)).heap[b']?=w.heap[b']? ∧Z b':=λb' G=>
  ⟨by rw[←F];exact g.other b' (λe=>hnz (e▸G)),G⟩
 have hf1:bU K β a E r j=J (fu T b):=by simp_all [bU,World.cell?]
 have hR2:=R1.Mp (Vz hi) A z hf1 g (ys':=[[.sl em xs],kn (i::sn)]) ((dh.it hi).2 ⟨m,_,_,_,t,⟨a6.mono hZ _ _ p9,trivial⟩,em,xs,rfl,p7,p8,Y,rfl,p3,by simp[hb,B,kn]⟩)
 refine⟨_,_,β,ω,Z,V (by rw[e1];exact q3),hR2,gZ.A7 ⟨#[.bool W,en.key,en.val],rfl,⟨_,rfl,rfl,rfl⟩,?_⟩ ?_⟩
 rw[jv g1]
 exact VB (H.ok en (eA p)) (iU.mono hZ _ _ g2)
 intro c N
 simp only[SV.cells,lq,l5,ng]at N
 rcases N with rfl|N
 simp[ca]
 exact VC N
def ag7(h:Rel K β ω Z s a w){x:bO}{dst:Nat}{o:ch}(u:o.op=.next x I){v:SV}{s':St}(y:(bE cfg o.op dst).exec s=J (v,s')):cf K s' a dst ((execOp a.eval o).run K.P w) v:=by
 rw[u]at y;simp only[bE]at y;let⟨c,N,h1,d⟩:=aI y;let⟨z,R,S,C⟩:=eV h h1;rw[z]at d;unfold TO at d;split at d;rename_i r j hv cv e k G;simp only[Prog.exec]at d;let⟨_,T,h3,f⟩:=aI d;let⟨⟨n,p,hi⟩,A⟩:=bW h3;rw[A]at f;split at f;rename_i D em g;let⟨_,E,m,b⟩:=aI f;let⟨_,t⟩:=bW m;rw[t]at b;obtain⟨rfl,rfl⟩:=aQ b;rcases Gu (sn:=[]) h u h1 n p hi g with⟨_,q⟩|⟨i,l,_⟩
 exact q;simp at l;rename_i D em row g;let⟨_,E,m,b⟩:=aI f;simp only[dn,Prog.exec,Option.some.injEq,fj]at m;let⟨_,m⟩:=m;let⟨hv,B⟩:=aQ b;subst hv;subst B;subst m;rcases Gu (sn:=[]) h u h1 n p hi g with⟨F,_⟩|⟨i,l,_,q⟩
 simp_all;have:i=0:=by simp at l;omega
 subst this;exact q;rename_i D em row g;let⟨_,E,m,b⟩:=aI f;let⟨_,t⟩:=bW m;rw[t]at b;obtain⟨rfl,rfl⟩:=aQ b;rcases Gu (sn:=[0]) h u h1 n p hi g with⟨_,q⟩|⟨i,l,H,_⟩
 exact q;grind;simp[Prog.exec]at f;simp[Prog.exec]at d
def ag8(h:Rel K β ω Z s a w){x:bO}{dst:Nat}{o:ch}(T:o.op=.entry x){v:SV}{s':St}(A:(bE cfg o.op dst).exec s=J (v,s')):cf K s' a dst ((execOp a.eval o).run K.P w) v:=by
 rw[T]at A;simp only[bE]at A;let⟨c,s1,h1,d⟩:=aI A;let⟨B,o1,V,H⟩:=eV h h1;rw[B]at d;unfold FM at d;split at d;rename_i r j hv cv e k X;simp only[Prog.exec]at d;let⟨_,s3,h3,g⟩:=aI d;let⟨⟨C,D,hi⟩,E⟩:=bW h3;rw[E]at g;split at g;rename_i e' em xs n rest F;let⟨_,s4,Y,p⟩:=aI g;let⟨⟨hn0,vJ⟩,G⟩:=bW Y;rw[G]at p;obtain⟨rfl,rfl⟩:=aQ p;let⟨_,b,m,es,bF,N,e1,f1,p1,p2,p3,z,R,p6,_⟩:=VA h V C D hi F;have S:xs.length=es.toList.length:=oJ R;obtain⟨en,f⟩:∃en,es.toList[n.toNat]?=J en:=⟨_,du (by omega)⟩;let⟨row,g1,g2⟩:=pR R f;have hb:=z.born _ _ f;obtain⟨q,t⟩:∃q:bv Nat,N=q.push en.born:=by
  let⟨l⟩:=N;rcases List.eq_nil_or_concat l with rfl|⟨l0,y,rfl⟩
  simp[kn]at p6;refine⟨⟨l0⟩,?_⟩;simp_all [kn]
 rw[t,←p3]at p1;refine cf.same h (u:=.tuple #[en.key,en.val]) ?_ ⟨_,rfl,by rw[jv g1];exact VB (z.ok en (eA f)) g2⟩ λc hc=>VC hc;have hnd:(es.toList.map (·.born)).Nodup:=by rw[List.nodup_iff_pairwise_ne,List.pairwise_map,List.pairwise_iff_getElem];intro i j hi hj hij;rw[z.born i _ (du hi),z.born j _ (du hj)];omega
 grind [run_entry_at,execOp,cL,cO,ek];simp[Prog.exec]at g;simp[Prog.exec]at d
end
noncomputable section
def VD(R:L aD)(s s':St):Prop:=∀r∈R,s r=s' r
def vK{α:Type}(p:Prog α):∀(s s':St)(a:α)(t:St),p.exec s=J (a,t)→VD (p.cz s).1 s s'→∃d,p.exec s'=J (a,d)∧p.cz s'=p.cz s∧(∀r∈(p.cz s).2,d r=t r)∧(∀r,r ∉ (p.cz s).2→d r=s' r∧t r=s r):=by
 induction p with
 |ret a=>simp_all [Prog.exec,Prog.cz]|fail=>simp_all [Prog.exec]|get r k e=>intro s s' a t h b;simp only[Prog.exec]at h;have i:s r=s' r:=b r (by simp[Prog.cz]);let⟨d,h1,h2,h3,g⟩:=e (s r) s s' a t h (λq f=>b q (by simp[Prog.cz,f]));simp_all [Prog.exec,Prog.cz]
 |put r x k e=>intro s s' a t h b;simp only[Prog.exec]at h;let⟨d,h1,h2,h3,g⟩:=e (s.set r x) (s'.set r x) a t h (λq f=>by by_cases c:q=r;subst c;simp[kl];rw[km _ _ c,km _ _ c];exact b q (by simp[Prog.cz,f]));grind [Prog.exec,Prog.cz,kl,km]
def indep(f g:L aD×L aD):ao:=f.2.all (λr=> !g.1.contains r&& !g.2.contains r)&&g.2.all (λr=> !f.1.contains r)
def ag9{f g:L aD×L aD}(h:indep f g=W):(∀r∈f.2,r ∉ g.1∧r ∉ g.2)∧(∀r∈g.2,r ∉ f.1):=by grind [indep]
def aha{α β:Type}{p:Prog α}{q:Prog β}{s c s2:St}{a:α}{b:β}(hp:p.exec s=J (a,c))(h:q.exec c=J (b,s2)) (hi:indep (p.cz s) (q.cz c)=W):∃t1,q.exec s=J (b,t1)∧p.exec t1=J (a,s2)∧q.cz s=q.cz c∧p.cz t1=p.cz s:=by
 let⟨h1,h2⟩:=ag9 hi;have i:=vK p s s a c hp (λ_ _=>rfl);have f:∀r,r ∉ (p.cz s).2→c r=s r:=λr d=>by grind
 have j:∀r,r ∉ (q.cz c).2→s2 r=c r:=λr d=>by let⟨n,e,_,_,k⟩:=vK q c c b s2 h (λ_ _=>rfl);exact(k r d).2
 let⟨t1,l,f1,o,k1⟩:=vK q c s b s2 h (λr d=>f r (λg=>(h1 r g).1 d));let⟨t2,m,f2,t,k2⟩:=vK p s t1 a c hp (λr d=>((k1 r (λg=>h2 r g d)).1).symm);refine⟨t1,l,?_,f1,f2⟩;rw[m];congr 2;funext r;by_cases u:r∈(p.cz s).2;grind;grind
def VE(o o':Oper):Q (U×U×U):=
 match o with
 | {op:=.lookup t (.tmp a) (.tmp b) I,dst:=J _,guard:=O, ..}=>match o' with| {op:=.mapEntry c (.tmp d) (.tmp e),dst:=J f,guard:=O, ..}=>if t=c∧a=d∧b=e then J (a,b,f)else O|_=>O
 |_=>O
def Gv(ops:Array Oper)(i j:U)(f g:L aD×L aD):ao:=
 match ops[i]?,ops[j]? with
 |some o,J c=>match VE o c with|some (a,b,d)=>f.2.all (λr=> !g.1.contains r&& !g.2.contains r)&&(!g.2.contains (.tmp a)&&(!g.2.contains (.tmp b)&& !f.1.contains (.tmp d)))|none=>I
 |_,_=>I
def Gw{o:bO}{s s':St}{v:SV}(h:(ev o).exec s=J (v,s')):s'=s:=by
 cases o with
 |tmp t=>simp only[ev,Prog.exec]at h;split at h;cases h;exact(aQ h).2
 |const v=>simp only[ev]at h;split at h;split at h;exact(aQ h).2;cases h;split at h;exact(aQ h).2;cases h
 |func f=>exact(aQ h).2|global g=>cases h
def Gx{α d:Type}(p:Prog α)(f:α→Prog d):∀{s b:St}{x:α},p.exec s=J (x,b)→(p.bind f).cz s=((p.cz s).1++((f x).cz b).1,(p.cz s).2++((f x).cz b).2):=by
 induction p with
 |ret a=>intro s b x h;simp only[Prog.exec,kI,fj]at h;obtain⟨rfl,rfl⟩:=h;rfl
 |fail=>intro s b x h;cases h
 |get r k c=>intro s b x h;simp only[Prog.bind,Prog.cz];rw[c _ h];rfl
 |put r y k c=>intro s b x h;simp only[Prog.bind,Prog.cz];rw[c h];rfl
def VG{n:U}{kd z:L D}:∀{xs:L (L D)},dv n kd xs=O→kd.length=n→cP kd kd=W→dv n kd (xs++[kd++z])=J xs.length
 |[],_,hn,a=>by simp[dv,←hn,a]|x::xs,h,hn,a=>by
  simp only[dv]at h;split at h;cases h;rename_i b;have:dv n kd xs=O:=by simpa using h
  simp[dv,b,VG this hn a]
def Gy:∀{sh:L Sc}{ds:L D},bM sh ds=W→cP ds ds=W|[],[],_=>rfl|.int k::sh,.int k' n::ds,h=>by simp[bM]at h;simp[cP,iD,Gy h.2]|.bool::sh,.bool b::ds,h=>by simp[bM]at h;simp[cP,iD,Gy h]|.str::sh,.str s::ds,h=>by simp[bM]at h;simp[cP,iD,Gy h]
def ahb(a:U)(s:St):(ev (.tmp a)).exec s=match(s (.tmp a)).v with|.undef=>O|_=>J ((s (.tmp a)).copy (.tmp a),s):=by simp only[ev,Prog.exec];cases(s (.tmp a)).v<;>rfl
def VH(a:U)(s:St):(ev (.tmp a)).cz s=([.tmp a],[]):=by simp only[ev,Prog.cz];split<;>rfl
def VI{v:SV}{c:C}{s s':St}(h:(yc v).exec s=J (c,s')):v=.one c∧s'=s:=by
 cases v with
 |one d=>obtain⟨rfl,rfl⟩:=aQ h;exact⟨rfl,rfl⟩
 |_=>cases h
def ahc{cfg:bg}{t:aW}{c:C}{h y z:SV}{s v s2:St}(h1:(gX cfg t c h I).exec s=J (y,v))(h2:(vl cfg t c h).exec s=J (z,s2)):v=s∧∃r B,s2=s.set r B∧r∈((gX cfg t c h I).cz s).1∧((gX cfg t c h I).cz s).2=[]∧∀t1,t1 r=B→(gX cfg t c h I).exec t1=J (y,t1)∧(gX cfg t c h I).cz t1=(gX cfg t c h I).cz s:=by
 unfold gX at h1 ⊢;unfold vl at h2;cases D:ib cfg t with
 |none=>simp only[D]at h1;cases h1
 |some w=>
  let⟨kt,ki,ei⟩:=w;simp only[D]at h1 h2 ⊢;cases hk:pI cfg kt with
  |none=>simp only[hk]at h1;cases h1
  |some sh=>
   cases n:h.key with
   |none=>simp only[hk,n]at h1;cases h1
   |some kd=>
    cases E:ei.zero with
    |none=>simp only[hk,n,E]at h1;cases h1
    |some i=>
     simp only[hk,n,E]at h1 h2 ⊢;let⟨_,s3,H,h1⟩:=aI h1;let⟨hn,K⟩:=bW H;rw[K]at h1;let⟨_,s4,N,h2⟩:=aI h2;let⟨_,P⟩:=bW N;rw[P]at h2;cases c with
     |aS r j hv cv e k xs=>
      let⟨rows,s5,p,h1⟩:=aI h1;simp only[ly,Prog.exec]at p;let⟨_,s6,R,p⟩:=aI p;let⟨f,S⟩:=bW R;rw[S]at p;simp only[Prog.exec]at h2;let⟨_,s7,T,h2⟩:=aI h2;let⟨V,X⟩:=bW T;rw[X]at h2;cases b:(s r).at j with
      |own Y ys=>simp only[b]at p h2;let⟨o,Z⟩:=aQ p;subst o;rw[Z]at h1;let⟨_,s8,g8,h1⟩:=aI h1;let⟨d,e8⟩:=bW g8;rw[e8]at h1;let⟨_,s9,g9,h2⟩:=aI h2;let⟨_,e9⟩:=bW g9;rw[e9]at h2;let⟨_,s10,g,h2⟩:=aI h2;simp only[dn,Prog.exec,kI,fj]at g;let⟨_,g⟩:=g;let⟨_,x⟩:=aQ h2;have key:∀a,(a=rows∨dv ki.size kd rows=O∧a=rows++[kd++i])→jH sh ki.size a=W∧gv ki.size a i (dv ki.size kd a)=gv ki.size rows i (dv ki.size kd rows):=(by rintro a (rfl|⟨F,rfl⟩);exact⟨d,rfl⟩;rw[VG F hn.2.1 (Gy hn.1),F];refine⟨?_,?_⟩;simp only[jH,List.all_append,l8,List.all_nil,Bool.and_true,bG]at d ⊢;refine⟨d,?_⟩;rw[←hn.2.1,List.take_left];exact hn.1;simp only[gv,iy];rw[Ax (dD _)];simp[←hn.2.1]);have he:v=s:=(by unfold oy at h1;split at h1;exact(aQ h1).2;split at h1;exact(aQ h1).2;cases h1);refine⟨he,r,_,by rw[x,←g],?_,?_,λt1 G=>?_⟩;simp[bind,need,hn,Prog.bind,ly,Prog.cz];simp only[bind,need,hn,Prog.bind,ly,Prog.cz,f,b,d,bf,and_self];unfold oy;split;rfl;split<;>rfl;have l:=key (if(dv ki.size kd rows).isSome=W then rows else rows++[kd++i]) (by split;exact .inl rfl;rename_i A;exact .inr ⟨by simpa using A,rfl⟩);have m:(t1 r).at j=.own Y (if(dv ki.size kd rows).isSome=W then rows else rows++[kd++i]):=(by rw[G];refine sw ?_;simp only[pO];have:=gK b (by simp);rw[List.getElem?_set_self (gi.1 this).1]);have q:(t1 r).hv=hv:=(by rw[G];exact f.1);have u:(oy ei.kind.agg (gv ki.size rows i (dv ki.size kd rows))).exec t1=J (y,t1)∧(oy ei.kind.agg (gv ki.size rows i (dv ki.size kd rows))).cz t1=(oy ei.kind.agg (gv ki.size rows i (dv ki.size kd rows))).cz s:=(by unfold oy at h1 ⊢;split at h1;obtain⟨rfl,_⟩:=aQ h1;exact⟨rfl,rfl⟩;split at h1;obtain⟨rfl,_⟩:=aQ h1;exact⟨rfl,rfl⟩;cases h1);constructor;simp only[bind,need,hn,Prog.bind,ly,Prog.exec,q,f,m,l,bf,and_self];exact u.1;simp only[bind,need,hn,Prog.bind,ly,Prog.cz,q,f,b,m,l,d,bf,and_self];rw[u.2]
      |_=>simp only[b]at h2;cases h2
     |_=>cases h2
abbrev FP:=U→L aD×L aD
def fI(cfg:bg)(ops:Array Oper)(i:U):Prog bu:=
 match ops[i]? with|some o=>lz cfg ops o|none=>.ret ()
def ahd{cfg:bg}{ops:Array Oper}{i j:U}{s h s2:St}(h1:(fI cfg ops i).exec s=J ((),h))(h2:(fI cfg ops j).exec h=J ((),s2)) (k:Gv ops i j ((fI cfg ops i).cz s) ((fI cfg ops j).cz h)=W):∃t1,(fI cfg ops j).exec s=J ((),t1)∧(fI cfg ops i).exec t1=J ((),s2)∧(fI cfg ops j).cz s=(fI cfg ops j).cz h∧(fI cfg ops i).cz t1=(fI cfg ops i).cz s:=by
 unfold Gv at k;split at k;rename_i o o' ho G;split at k;rename_i a b d' f;unfold VE at f;split at f;split at f;split at f;rename_i heq;obtain⟨rfl,rfl,rfl⟩:=heq;cases f;rename_i d t _ _ _ _ _ _ _;simp only[bG,fO,kj,List.contains_eq_mem,decide_eq_false_iff_not]at k;let⟨D,ha,hb,hd⟩:=k;have H:VD ((fI cfg ops j).cz h).1 h s:=λr K=>by have hl:=vK (fI cfg ops i) s s () h h1 (λ_ _=>rfl);let⟨t',e,_,_,h4⟩:=hl;exact(h4 r (λhm=>(D r hm).1 K)).2
 let⟨t1,N,q2,q3,l⟩:=vK (fI cfg ops j) h s () s2 h2 H;refine⟨t1,N,?_⟩;let⟨_,_,_,_,k4⟩:=vK (fI cfg ops i) s s () h h1 (λ_ _=>rfl);have P:t1 (.tmp a)=s (.tmp a):=(l _ ha).1;have R:t1 (.tmp b)=s (.tmp b):=(l _ hb).1;simp only[fI,ho,G,lz,kM,bE]at h1 N D hd ha hb q2 q3 l k4 ⊢;let⟨y,u1,g1,S⟩:=aI h1;let⟨c,u2,g3,g4⟩:=aI g1;let⟨c0,u3,T,g6⟩:=aI g3;let⟨m,e3⟩:=VI g6;have e4:=Gw T;rw[e3,e4]at g4;let⟨v,u4,V,X⟩:=aI g4;have e5:=Gw V;rw[e5]at X;let⟨z,w1,l1,l2⟩:=aI N;let⟨c',w2,l3,l4⟩:=aI l1;let⟨Y,w3,E,l6⟩:=aI l3;let⟨g,m3⟩:=VI l6;have m4:=Gw E;rw[m3,m4]at l4;let⟨v',w4,F,Z⟩:=aI l4;have m5:=Gw F;rw[m5]at Z;have hcs:Y=c0:=by rw[T]at E;simp only[kI,fj]at E;exact E.1.symm
 have hvs:v'=v:=by rw[V]at F;simp only[kI,fj]at F;exact F.1.symm
 rw[hcs]at g;have Ng:c'=c:=by rw[m]at g;simpa using g.symm
 rw[Ng,hvs]at Z;let⟨e6,r,xr,e7,K,hr2,n⟩:=ahc X Z;rw[e6]at S;simp only[iQ,Prog.exec]at S l2;let⟨_,u5,n1,n2⟩:=aI S;let⟨u,n3⟩:=bW n1;rw[n3]at n2;simp only[dn,Prog.exec,kI,fj,true_and]at n2;let⟨_,u6,p1,p2⟩:=aI l2;let⟨_,p3⟩:=bW p1;rw[p3]at p2;simp only[dn,Prog.exec,kI,fj,true_and]at p2;have F1:∀s':St,(ev (.tmp a)).exec s'=J (c0,s')→(ev (.tmp b)).exec s'=J (v,s')→(gX cfg t c v I).exec s'=J (y,s')→(do let v ←(do let c ←dc (.tmp a);let v ←ev (.tmp b);gX cfg t c v I);iQ cfg d v:Prog bu).cz s'=([.tmp a]++[]++([.tmp b]++((gX cfg t c v I).cz s').1)++[.tmp d],[]++[]++([]++((gX cfg t c v I).cz s').2)++[.tmp d])∧(do let v ←(do let c ←dc (.tmp a);let v ←ev (.tmp b);gX cfg t c v I);iQ cfg d v:Prog bu).exec s'=J ((),s'.set (.tmp d) {hv:=(s' (.tmp d)).hv+1,cv:=(s' (.tmp d)).cv,v:=y}):=by
  intro s' x1 x2 x3;have z1:(dc (.tmp a)).exec s'=J (c,s'):=by unfold dc;show(Prog.bind _ _).exec s'=_;rw[A6,x1,m];rfl
  have z1f:(dc (.tmp a)).cz s'=([.tmp a]++[],[]++[]):=by unfold dc;show(Prog.bind _ _).cz s'=_;rw[Gx _ _ x1,VH,m];rfl
  have z2:(do let c ←dc (.tmp a);let v ←ev (.tmp b);gX cfg t c v I:Prog SV).exec s'=J (y,s'):=by show(Prog.bind _ λc=>Prog.bind _ λv=>_).exec s'=_;rw[A6,z1];show(Prog.bind _ _).exec s'=_;rw[A6,x2];exact x3
  have z2f:(do let c ←dc (.tmp a);let v ←ev (.tmp b);gX cfg t c v I:Prog SV).cz s'=([.tmp a]++[]++([.tmp b]++((gX cfg t c v I).cz s').1),[]++[]++([]++((gX cfg t c v I).cz s').2)):=by show(Prog.bind _ λc=>Prog.bind _ λv=>_).cz s'=_;rw[Gx _ _ z1,Gx _ _ x2,z1f,VH]
  have z3:(iQ cfg d y).cz s'=([.tmp d],[.tmp d]):=by simp only[iQ,Prog.cz,need,u,bf,bind,Prog.bind,dn]
  have z4:(iQ cfg d y).exec s'=J ((),s'.set (.tmp d) {hv:=(s' (.tmp d)).hv+1,cv:=(s' (.tmp d)).cv,v:=y}):=by simp only[iQ,Prog.exec,need,u,bf,bind,Prog.bind,dn]
  constructor;show(Prog.bind _ _).cz s'=_;rw[Gx _ _ z2,z2f,z3];show(Prog.bind _ _).exec s'=_;rw[A6,z2];exact z4
 have y1:(ev (.tmp a)).exec s=J (c0,s):=by rw[T,e4]
 have y2:(ev (.tmp b)).exec s=J (v,s):=by rw[V,e5]
 have y3:(gX cfg t c v I).exec s=J (y,s):=by rw[X,e6]
 let⟨f1,f2⟩:=F1 s y1 y2 y3;have w:∀(x:U),t1 (.tmp x)=s (.tmp x)→∀q,(ev (.tmp x)).exec s=J (q,s)→(ev (.tmp x)).exec t1=J (q,t1):=λx A q B=>by rw[ahb]at B ⊢;rw[A];split at B;cases B;simp only[kI,fj]at B;rw[B.1]
 have htr:t1 r=xr:=by rw[←p2,e7];rw[km _ _ (λe=>?_),kl];rw[f1]at hd;refine hd ?_;rw[←e];simp[K]
 let⟨y3',f3⟩:=n t1 htr;let⟨f4,f5⟩:=F1 t1 (w a P c0 y1) (w b R v y2) y3';have C:aD.tmp d∈(Prog.cz (do let v ←(do let c ←dc (.tmp a);let v ←ev (.tmp b);gX cfg t c v I);iQ cfg d v:Prog bu) s).2:=by rw[f1];simp
 refine⟨?_,q2,by rw[f4,f1,f3]⟩;rw[f5];congr 2;funext x;by_cases A:x=.tmp d;subst A;rw[kl,(l _ (D _ C).2).1,(l _ (D _ C).2).2,←n2,kl];rw[km _ _ A];by_cases p:x∈(Prog.cz (do let v ←(do let c ←dc (.tmp a);let v ←ev (.tmp b);vl cfg t c v);iQ cfg d' v:Prog bu) h).2;exact q3 x p;rw[(l x p).1,(l x p).2];rw[←n2,km _ _ A];cases f;cases f;cases f;cases k;cases k
def apart(ops:Array Oper)(f g:L aD×L aD)(i j:U):ao:=indep f g||Gv ops i j f g
def ahe{cfg:bg}{ops:Array Oper}{i j:U}{s a s2:St}(h1:(fI cfg ops i).exec s=J ((),a))(h2:(fI cfg ops j).exec a=J ((),s2)) (b:apart ops ((fI cfg ops i).cz s) ((fI cfg ops j).cz a) i j=W):∃t1,(fI cfg ops j).exec s=J ((),t1)∧(fI cfg ops i).exec t1=J ((),s2)∧(fI cfg ops j).cz s=(fI cfg ops j).cz a∧(fI cfg ops i).cz t1=(fI cfg ops i).cz s:=by
 unfold apart at b;rw[pw]at b;rcases b with h|h
 exact aha h1 h2 h;exact ahd h1 h2 h
def pV(cfg:bg)(ops:Array Oper)(fp:FP):L U→St→St→Prop|[],s,s'=>s=s'|i::r,s,s'=>∃a,(fI cfg ops i).exec s=J ((),a)∧(fI cfg ops i).cz s=fp i∧pV cfg ops fp r a s'
variable{cfg:bg}{ops:Array Oper}{fp:FP}
def pV.front{i:U}{B:L U}:∀{A:L U}{s s':St},pV cfg ops fp (A++i::B) s s'→(∀a∈A,apart ops (fp a) (fp i) a i=W)→pV cfg ops fp (i::(A++B)) s s':=by
 intro A;induction A with
 |nil=>intro s s' h _;exact h
 |cons a A b=>intro s s' h c;let⟨n,d,f1,h1⟩:=h;let⟨e,f,f2,h2⟩:=b h1 (λx g=>c x (gU _ g));let⟨t1,j,k,l,m⟩:=ahe d f (by grind);exact⟨t1,j,l.trans f2,e,k,m.trans f1,h2⟩
def Gz:L Oper→L (L U)→L (L U)|[],acc=>acc|o::r,acc=>Gz r (acc++[((o.after.toList.filter (Ay .any)).flatMap λe=>e.on::acc.getD e.on []).eraseDups])
def GC(ops:Array Oper):L (L U):=Gz ops.toList []
def M9(ops:Array Oper)(a:U→ao):Prop:=∀(i:U)(o:Oper),ops[i]?=J o→a i=W→∀e∈o.after,Ay .any e=W→a e.on=W
def ahf(ops:Array Oper)(a:U→ao)(z:M9 ops a):∀(l:L Oper)(acc:L (L U)),(∀(k:U),k<l.length→ops[acc.length+k]?=l[k]?)→(∀(i:U)(o:Oper),i<acc.length→ops[i]?=J o→(∀e∈o.after,Ay .any e=W→a e.on=W)→∀x∈acc.getD i [],a x=W)→∀(i:U)(o:Oper),i<acc.length+l.length→ops[i]?=J o→(∀e∈o.after,Ay .any e=W→a e.on=W)→∀x∈(Gz l acc).getD i [],a x=W:=by
 intro l;induction l with
 |nil=>intro acc _ h i o hi A m x g;exact h i o (by simpa using hi) A m x g
 |cons o l B=>
  intro acc b c i C hi n m x g;simp only[Gz]at g;refine B _ ?_ ?_ i C (by simp at hi ⊢;omega) n m x g;intro k hk;have:=b (k+1) (by simp;omega);grind;intro j F D p q y hy;by_cases r:j<acc.length;rw[iy,og r,←iy]at hy;grind;have s:j=acc.length:=by simp at D;omega
  subst s;have t:=b 0 (by simp);simp only[Nat.add_zero,fY]at t;rw[p]at t;cases t;simp only[iy,Ax (dD _),Nat.sub_self,fY,eB,List.mem_eraseDups,List.mem_flatMap,List.mem_filter]at hy;let⟨e,⟨u,E⟩,hy⟩:=hy;have d:a e.on=W:=q e (by simpa using u) E;rcases iA.1 hy with rfl|hy
  exact d;by_cases v:e.on<acc.length;have w:e.on<ops.size:=by grind
  have f:ops[e.on]?=J ops[e.on]:=Array.getElem?_eq_getElem w;exact c e.on _ v f (z e.on _ f d) y hy;grind
def ahg{a:U→ao}(b:M9 ops a){i:U}{o:Oper}(c:ops[i]?=J o)(d:∀e∈o.after,Ay .any e=W→a e.on=W):∀x∈(GC ops).getD i [],a x=W:=ahf ops a b ops.toList [] (by simp) (by simp) i o (by grind) c d
def qW(cfg:bg)(ops:Array Oper):L Oper→St→Q (L (L aD×L aD))
 |[],_=>J []|o::r,s=>match(lz cfg ops o).exec s with
  |some (_,s')=>match qW cfg ops r s' with|some l=>J ((lz cfg ops o).cz s::l)|none=>O
  |none=>O
def vL(ops:Array Oper)(a:L (L aD×L aD))(b:L (L U)):ao:=(hY a.length).all λj=>(hY j).all λi=>(b.getD j []).contains i||apart ops (a.getD i ([],[])) (a.getD j ([],[])) i j
def Na(cfg:bg)(ops:Array Oper)(s:St):ao:=
 match qW cfg ops ops.toList s with|some a=>vL ops a (GC ops)|none=>I
def ahh{a:L (L aD×L aD)}{b:L (L U)}(h:vL ops a b=W){i j:U}(c:i<j)(d:j<a.length)(hn:i ∉ b.getD j []):apart ops (a.getD i ([],[])) (a.getD j ([],[])) i j=W:=by grind [vL]
def ahi:∀(l:L Oper)(k:U)(s s':St)(a:L (L aD×L aD))(pre:L (L aD×L aD)),(∀i,i<l.length→ops[k+i]?=l[i]?)→pre.length=k→pL cfg ops l s=J s'→qW cfg ops l s=J a→pV cfg ops (λi=>(pre++a).getD i ([],[])) (List.range' k l.length) s s'∧a.length=l.length:=by
 intro l;induction l with
 |nil=>intro k s s' a pre _ _ h b;simp[pL]at h;simp[qW]at b;subst b;simp[pV,h]
 |cons o l m=>
  intro k s s' a pre c e h b;simp only[pL]at h;simp only[qW]at b;cases g:(lz cfg ops o).exec s with
  |none=>simp[g]at h|some x=>
   let⟨⟨⟩,j⟩:=x;simp only[g]at h b;cases d:qW cfg ops l j with|none=>simp[d]at b|some fl=>simp only[d,kI]at b;subst b;let⟨n,f⟩:=m (k+1) j s' fl (pre++[(lz cfg ops o).cz s]) (λi hi=>by have:=c (i+1) (by simp;omega);grind) (by simp[e]) h d;have p:ops[k]?=J o:=(by have:=c 0 (by simp);simpa using this);refine⟨?_,by simp[f]⟩;simp only[jr,List.range'_succ,pV];simp_all [fI]
def ahj{P:dr}{Q:Exit→Act→bD→Prop}{s':St}(Good:St→Act→bD→Prop) (l:∀(i:U)(o:Oper)(s r:St)(a:Act)(w:bD)(K:Act→bD→Prop),ops[i]?=J o→(lz cfg ops o).exec s=J ((),r)→Good s a w→(∀C w',Good r C w'→K C w')→wpOp P ops Q i K a w) (t:∀a w,Good s' a w→Q .normal a w) (G:∀i j,i<j→j<ops.size→i ∉ (GC ops).getD j []→apart ops (fp i) (fp j) i j=W) (D:∀(i:U)(o:Oper),ops[i]?=J o→∀e∈o.after,Ay .any e=W→e.on<i):
  ∀(fuel:U)(R:L U)(listed:Array ao)(s:St)(a:Act)(w:bD),R.length=fuel→listed.size=ops.size→R.Pairwise (·< ·)→
   (∀i,i∈R↔(i<ops.size∧listed.getD i W=I))→M9 ops (λi=>listed.getD i I)→
   pV cfg ops fp R s s'→Good s a w→wpAny P .any ops Q fuel listed a w:=by
 intro fuel
 induction fuel with
 |zero=>intro R listed s a w E _ _ b _ c H;have:R=[]:=List.length_eq_zero_iff.1 E;subst this;simp only[pV]at c;subst c;refine⟨?_,t a w H⟩;apply List.eq_nil_iff_forall_not_mem.2;grind [mem_ready]
 |succ fuel ih=>
  intro R listed s a w E N d b u c H;constructor;intro hnil;exfalso;cases R with|nil=>simp at E|cons k R=>let⟨S,T⟩:=(b k).1 (jq ..);have q:ops[k]?=J ops[k]:=Array.getElem?_eq_getElem S;have:k∈Region.ready .any ops listed:=mem_ready.2 ⟨T,_,q,λe he hb=>by grind [Az]⟩;grind
  intro i hi;let⟨V,o,q,X⟩:=mem_ready.1 hi;have v:i<ops.size:=(Array.getElem?_eq_some_iff.1 q).1;have Y:i∈R:=(b i).2 ⟨v,V⟩;obtain⟨A,B,rfl⟩:=List.append_of_mem Y;have F:=List.pairwise_append.1 d;have hanc:=ahg u q X;have f:=pV.front c (λx y=>by grind);let⟨r,e1,_,m⟩:=f;simp only[fI,q]at e1;refine l i o s r a w _ q e1 H (λC w' Z=>?_);have g:(A++B).Sublist (A++i::B):=List.Sublist.append_left (List.sublist_cons_self _ _) _;have n:i ∉ A++B:=by grind [Az]
  refine ih (A++B) (listed.setIfInBounds i W) r C w' (by simp at E ⊢;omega) (by simpa using N) (d.sublist g) ?_ ?_ m Z;intro x;constructor;intro y;have p:x≠i:=λh=>n (h▸y);let⟨h1,h2⟩:=(b x).1 (g.mem y);exact⟨h1,by rw[getD_set_ne _ (Ne.symm p)];exact h2⟩;rintro ⟨h1,h2⟩;have p:x≠i:=by rintro rfl;simp_all
  rw[getD_set_ne _ (Ne.symm p)]at h2;grind;intro x ox hox y e he hb;by_cases hxi:x=i;grind [getD_set_true];have z:(listed.setIfInBounds i W).getD x I=W:=y;rw[getD_set_ne _ (Ne.symm hxi)]at z;exact getD_set_true (u x ox hox z e he hb)
end
def oL:C→ao|.d _|.own _ _|.ptr _ _|.cy _ _=>W|_=>I
def jO(v:SV):ao:=v.cells.all oL
def VJ{ks:L Key}{c c':C}{s s':St}(a:(canon ks c).exec s=J (c',s')):oL c'=W:=by unfold canon at a;split at a;obtain⟨rfl,_⟩:=aQ a;rfl;simp only[Prog.exec]at a;let⟨_,b,h1,a⟩:=aI a;split at a;let⟨_,d,h2,a⟩:=aI a;obtain⟨rfl,_⟩:=aQ a;rfl;obtain⟨rfl,_⟩:=aQ a;rfl;simp[Prog.exec]at a;obtain⟨rfl,_⟩:=aQ a;rfl;obtain⟨rfl,_⟩:=aQ a;rfl;simp[Prog.exec]at a
def VK{ks:L Key}:∀{cs cs':L C}{s s':St},(qM ks cs).exec s=J (cs',s')→cs'.all oL=W
 |[],_,_,_,a=>by obtain⟨rfl,_⟩:=aQ a;rfl
 |c::cs,cs',s,s',a=>by simp only[qM]at a;let⟨c1,d,h1,a⟩:=aI a;let⟨b,e,h2,a⟩:=aI a;obtain⟨rfl,_⟩:=aQ a;simp only[l8,bG];exact⟨VJ h1,VK h2⟩
def VL{ks:L Key}:∀{vs b:L SV}{s s':St},(se ks vs).exec s=J (b,s')→b.all jO=W
 |[],_,_,_,a=>by obtain⟨rfl,_⟩:=aQ a;rfl
 |v::vs,b,s,s',a=>by
  simp only[se]at a;let⟨v1,g,h1,a⟩:=aI a;let⟨e,h,h2,a⟩:=aI a;obtain⟨rfl,_⟩:=aQ a;simp only[l8,bG];refine⟨?_,VL h2⟩;cases v with
  |one c=>simp only[mo]at h1;let⟨c1,f,h3,d⟩:=aI h1;obtain⟨rfl,_⟩:=aQ d;simp[jO,SV.cells,VJ h3]
  |agg cs=>simp only[mo]at h1;let⟨c1,f,h3,d⟩:=aI h1;obtain⟨rfl,_⟩:=aQ d;exact VK h3
  |_=>simp[mo,Prog.exec]at h1
def jP(P:dr)(f:cY)(F:pD):Prop:=∀(args:L SV)(boxes:L (L C))(r:pC),F args boxes=J r→∀(w:World)(vals:bv az)(β:Key→Option Nat)(ω:Nat→Option cj)(Z:Nat→Prop),vals.size=args.length→args.all jO=W→boxes.all (λb=>b.all (ic boxes.length))=W→Rel (cm P 0 w vals β ω Z) β ω Z (cA args boxes) {tmps:=#[],defers:=[]} w→((callFunc f vals).run P w=.ok (.enter f vals) w∧dw P f vals w λe w'=>∃v a ω' Z',e=.returned v∧Rel (cm P 1 w vals β ω Z) a ω' Z' (dL args r) {tmps:=#[v],defers:=[]} w')∨∃v w' a ω' Z',(callFunc f vals).run P w=.ok (.value v) w'∧Rel (cm P 1 w vals β ω Z) a ω' Z' (dL args r) {tmps:=#[v],defers:=[]} w'
structure lD(P:Program)(cfg:bg):Prop where
 yy:fT P cfg
 calls:∀t f F,cfg.Γ t f=some F→jP P f F
section
variable{K:Ctx}{β:Key→Option Nat}{ω:Nat→Option cj}{Z:Nat→Prop}{s:St}{a:Act}{w:World}{cfg:bg}
def ae(K:Ctx)(s':St)(a:Act)(w:World)(dst:Nat)(r:Result Next)(v:SV):Prop:=cf K s' a dst r v∨∃f args,r=.ok (.enter f args) w∧dw K.P f args w λe w'=>∃u b ω' Z',e=.returned u∧Rel K b ω' Z' s' a w'∧gZ K b ω' Z' s' a w' (.tmp dst) u v
def ahk(h:Rel K β ω Z s a w){o:bO}{f:cY}{caps:L SV}{s':St}(e:(FO o).exec s=J ((f,caps),s')):s'=s∧∃vs:bv az,a.eval o=.func (.func f) #[] vs∧aG (mA K β Z s a w) vs.toList caps:=by
 unfold FO at e;split at e;let⟨g,i⟩:=aQ e;cases g;exact⟨i, #[],rfl,trivial⟩;let⟨c,x,h1,d⟩:=aI e;let⟨j,y,m,k⟩:=eV h h1;rw[j]at d;split at d;rename_i z cs;let⟨g,i⟩:=aQ d;cases g;let⟨vs,n,q⟩:=m;refine⟨i,vs,n,?_⟩;have key:∀(us:L az)(cs:L (Key×Nat)),aG (λu(p:Key×Nat)=>∃b,β p.1=J b∧u=.pointer (J ⟨b,p.2,O⟩)) us cs→aG (mA K β Z s a w) us (cs.map λp=>.one (.ptr p.1 p.2)):=by
  intro us;induction us with
  |nil=>intro cs h;cases cs with|nil=>trivial|cons _ _=>exact h.elim
  |cons u us r=>
   intro cs h;cases cs with|nil=>exact h.elim|cons p cs=>let⟨⟨b,t,l⟩,v⟩:=h;exact⟨⟨⟨by rw[l];rfl,b,t,l⟩,by simp[SV.cells,ca],by simp⟩,r cs v⟩
 exact key _ _ q;simp[Prog.exec]at d
def ahl(hC:lD K.P cfg)(h:Rel K β ω Z s a w){co:bO}{args:bv bO}{R:bv aW}{dst:Nat}{o:ch}(ho:o.op=.call {callee:=.value co,args,argTypes:=R}){v:SV}{s':St}(S:(bE cfg o.op dst).exec s=J (v,s')):ae K s' a w dst ((execOp a.eval o).run K.P w) v:=by
 rw[ho]at S;simp only[bE]at S;let⟨⟨f,caps⟩,s1,h1,p⟩:=aI S;let⟨T,cv,V,q⟩:=ahk h h1;simp only at p;rw[T]at p;let⟨vs,s2,h2,d⟩:=aI p;let⟨X,Y,x⟩:=MW h _ h2;rw[X]at d;have t:aG (mA K β Z s a w) (args.toList.map a.eval++cv.toList) (vs++caps):=by refine aG.append ?_ q;exact Y.ju λu v hv hr=>⟨hr,x v hv⟩
 unfold FN at d;split at d;simp[Prog.exec]at d;rename_i F hF;let⟨y,s3,h3,z⟩:=aI d;let⟨F5,Z1,r1,k1,p1⟩:=agK (cfg:=cfg) _ _ ω Z s s3 y h t h3;simp only at z;let⟨more,s3',h3',g⟩:=aI z;have A:=agN _ _ _ h3';rw[A]at g;generalize hkk:dedup (fZ (y.flatMap SV.cells)++more)=kk at g;have m:kk.Nodup:=by rw[←hkk];exact yw _
 let⟨c,s4,h4,B⟩:=aI g;let⟨hs4,n⟩:=agM _ _ s4 c r1 p1 (λk hk=>by grind [U7]) h4;rw[hs4]at B;let⟨N,s5,h5,l⟩:=aI B;let⟨hs5,yx,C⟩:=Vb _ s5 N h5;rw[hs5]at l;split at l;simp[Prog.exec]at l;rename_i r hr;let⟨_,s6,h6,D⟩:=aI l;let⟨⟨E,G⟩,MV⟩:=bW h6;rw[MV]at D;let⟨_,s7,h7,Gm⟩:=aI D;let⟨_,s8,h8,M1⟩:=aI Gm;have H:=agP r1 m n yx C;have hsz:(args.toList.map a.eval++cv.toList).toArray.size=c.length:=by grind [aG.length]
 have j:(execOp a.eval o).run K.P w=(callFunc f (args.toList.map a.eval++cv.toList).toArray).run K.P w:=by
  have e1:args.map a.eval++cv=(args.toList.map a.eval++cv.toList).toArray:=by grind
  simp[execOp,ho,resolve,V,Deferred.ofValue,invoke,e1]
 have hpl:N.all (λb=>b.all (ic N.length))=W:=by rw[fO];intro b hb;let⟨i,hi⟩:=lZ hb;let⟨cs,g1,_,g3⟩:=C i _ (du (by grind));simp_all [Vg]
 rcases hC.calls _ f F hF c N r hr w _ _ _ _ hsz (VL h4) hpl H with⟨q1,q2⟩|⟨u,w',β',ω',Z',q1,q2⟩
 refine .inr ⟨f,_,by rw[j,q1],q2.mono λe w'⟨u,β',ω',Z',g1,g2⟩=>?_⟩;grind [Vo];let⟨β2,VM,g3,g4⟩:=Vo r1 m n q2 (λi k hi=>by grind) G E h7 h8 M1;exact .inl ⟨u,w',β2,VM,Z',by rw[j,q1],g3,g4⟩
def ahn(g:lD K.P cfg)(h:Rel K β ω Z s a w){dst:Nat}{o:ch}{v:SV}{s':St}(d:(bE cfg o.op dst).exec s=J (v,s')):ae K s' a w dst ((execOp a.eval o).run K.P w) v:=by
 have hT:=g.yy;cases e:o.op with
 |move x=>exact .inl (af8 h e d)|assign x=>exact .inl (af9 h e d)|pick c x y=>exact .inl (aga h e d)|alloc t=>exact .inl (agl hT h e d)|box t x=>exact .inl (agm h e d)|build t ps=>exact .inl (ago hT h e d)|buildSlice t n ps=>exact .inl (agq hT h e d)|load t x=>exact .inl (agc hT h e d)|nilCheck x=>exact .inl (agb h e d)|binOp op t x y q=>exact .inl (afw hT h e d)|unOp op t x=>exact .inl (afz h e d)|convert a b x=>exact .inl (agH hT h e d)|makeFunc fn first captured=>
  cases fn with|func f=>exact .inl (agj h e d)|_=>rw[e]at d;simp[bE,Prog.exec]at d
 |makeSlice t l c=>exact .inl (agr hT h e d)|slice t x lo hi j=>
  cases j with|none=>exact .inl (afB hT h e d)|some m=>rw[e]at d;simp[bE,Prog.exec]at d
 |fieldAddr t x f=>exact .inl (agd hT h e d)|field t x f=>exact .inl (agf hT h e d)|indexAddr t x i=>exact .inl (age hT h e d)|index t x i=>exact .inl (agh hT h e d)|extract x n=>exact .inl (agk h e d)|makeMap t r=>
  cases r with|none=>exact .inl (afN hT h e d)|some r=>rw[e]at d;simp[bE,Prog.exec]at d
 |lookup t x u ok=>exact .inl (afO hT h e d)|range t x=>exact .inl (ag3 hT h e d)|next x b=>
  cases b with|false=>exact .inl (ag7 h e d)|true=>rw[e]at d;simp[bE,Prog.exec]at d
 |entry x=>exact .inl (ag8 h e d)|mapEntry t m k=>exact .inl (af0 hT h e d)|call c=>
  let⟨callee,args,p⟩:=c;cases callee with
  |value co=>exact ahl g h e d|invoke r m=>rw[e]at d;simp[bE,Prog.exec]at d|builtin b=>
   cases b with|len=>exact .inl (agi hT h e d)|append=>exact .inl (agx hT h e d)|cap=>exact .inl (agv hT h e d)|min=>exact .inl (UN (b:=W) h e (by rw[e]at d;exact d))|max=>exact .inl (UN (b:=I) h e (by rw[e]at d;exact d))|_=>rw[e]at d;simp[bE,Prog.exec]at d
 |_=>rw[e]at d;simp[bE,Prog.exec]at d
def Good(K:Ctx)(s:St)(a:Act)(w:World):Prop:=∃β ω Z,Rel K β ω Z s a w
theorem GD(e:K.N=cfg.N)(h:Rel K β ω Z s a w){t:Nat}{u:az}{v:SV}(hp:gZ K β ω Z s a w (.tmp t) u v){y:bu}{s':St}(d:(iQ cfg t v).exec s=J (y,s')):Good K s' (a.put (J t) u) w:=by simp only[iQ,Prog.exec]at d;let⟨_,f,h1,b⟩:=aI d;let⟨g,c⟩:=bW h1;rw[c]at b;simp only[dn,Prog.exec,Option.some.injEq,fj]at b;obtain⟨_,rfl⟩:=b;exact⟨β,ω,Z,h.afc (by omega) hp⟩
def VN(hT:fT K.P cfg)(h:Rel K β ω Z s a w){t:aW}{m k x:bO}{y:bu}{s':St} (q:(do let c ←dc m;let i ←ev k;let vx ←ev x;vk cfg t c i vx:Prog bu).exec s=J (y,s')):∃w' e ω' Z',(Instr.mapUpdate t (a.eval m) (a.eval k) (a.eval x)).run K.P w=.ok () w'∧Rel K e ω' Z' s' a w':=by let⟨c,A,h1,b⟩:=aI q;let⟨f,B,C,j⟩:=eV h h1;rw[f]at b;let⟨i,D,h2,d⟩:=aI b;let⟨g,r,l,n⟩:=gx h h2;rw[g]at d;let⟨vx,E,h3,u⟩:=aI d;let⟨v,z,o,p⟩:=gx h h3;grind [afR]
theorem VO(A:lD K.P cfg)(hN:K.N=cfg.N)(h:Rel K β ω Z s a w){o:ch}{y:bu}{s':St}(l:(kM cfg o).exec s=J (y,s')){Q:Exit→Act→World→Prop}{next:Act→World→Prop}(E:∀V w',Good K s' V w'→next V w'):o.wp K.P a w next Q:=by
 unfold kM at l;split at l;rename_i t ad x q hd;split at l;rename_i i F;let⟨c,X,h1,g⟩:=aI l;let⟨r,o1,G,B⟩:=eV h h1;rw[r]at g;let⟨v,s2,h2,j⟩:=aI g;let⟨z,hv,H,hnu⟩:=gx h h2;rw[z]at j;let⟨w',e,ω',Z',n,p⟩:=afi h (A.yy.T _ _ F) G hv H j;have b:(execOp a.eval o).run K.P w=.ok .skip w':=by simp[execOp,q,n]
 rw[Fl,b,LS,hd];exact E _ _ ⟨e,ω',Z',p⟩;simp[Prog.exec]at l;rename_i t m k x q hd;let⟨w',e,ω',Z',n,p⟩:=VN A.yy h l;have b:(execOp a.eval o).run K.P w=.ok .skip w':=by simp[execOp,q,n]
 rw[Fl,b,LS,hd];exact E _ _ ⟨e,ω',Z',p⟩;rename_i t m k x q hd;let⟨w',e,ω',Z',n,p⟩:=VN A.yy h l;have b:(execOp a.eval o).run K.P w=.ok .skip w':=by simp[execOp,q,n]
 rw[Fl,b,LS,hd];exact E _ _ ⟨e,ω',Z',p⟩;rename_i t m st x q hd;let⟨c,X,h1,g⟩:=aI l;let⟨r,o1,G,B⟩:=eV h h1;rw[r]at g;let⟨cs,s2,h2,j⟩:=aI g;let⟨z,o2,r2,Y⟩:=eV h h2;rw[z]at j;let⟨vx,s3,h3,C⟩:=aI j;let⟨R,S,D,hnux⟩:=gx h h3;rw[R]at C;let⟨w',e,ω',Z',n,p⟩:=af5 A.yy h G r2 S D C;have b:(execOp a.eval o).run K.P w=.ok .skip w':=by simp[execOp,q,n]
 rw[Fl,b,LS,hd];exact E _ _ ⟨e,ω',Z',p⟩;rename_i d hns hd;let⟨v,X,h1,g⟩:=aI l;rcases ahn A h h1 with⟨u,w',e,ω',Z',n,p,q3⟩|⟨f,args,n,p⟩
 grind [Oper.wp.eq_1,nh,GD];rw[Fl,n,Oper.upon_enter];refine p.mono ?_;grind [GD];simp[Prog.exec]at l
def VP(F:lD K.P cfg)(C:K.N=cfg.N){c:bv ch}{i:Nat}{o:ch}(hi:c[i]?=J o){s q:St}{a:Act}{w:World}{Q:Exit→Act→World→Prop}{next:Act→World→Prop}(m:(lz cfg c o).exec s=J ((),q))(D:Good K s a w)(r:∀y w',Good K q y w'→next y w'):wpOp K.P c Q i next a w:=by
 let⟨β,ω,Z,h⟩:=D;simp only[wpOp,hi];unfold lz at m;split at m;grind [Fm,VO];rename_i j z n;let⟨b,E,h2,e⟩:=aI m;have hy:E=s∧yielded c a.tmps j=b:=by
  unfold L6 at h2;split at h2;rename_i t hd;simp only[Prog.exec]at h2;split at h2;rename_i b' hv;let⟨g,k⟩:=aQ h2;refine⟨k,?_⟩;have l:=h.tmps t;rw[hv]at l;have f:a.tmps.getD t undef=.bool b':=l.2;rw[g];simp only[yielded,hd,Option.bind_some];cases A:a.tmps[t]? with
  |none=>rw[Fa,A]at f;cases f
  |some x=>simp_all
  rename_i hv;let⟨g,k⟩:=aQ h2;refine⟨k,?_⟩;have l:=h.tmps t;rw[hv]at l;let⟨vs,f,B⟩:=l;rw[g];simp only[yielded,hd,Option.bind_some];cases A:a.tmps[t]? with|none=>rfl|some x=>simp_all
  simp[Prog.exec]at h2;simp[Prog.exec]at h2
 let⟨p,hy⟩:=hy;rw[p]at e;split at e;grind [Fm,VO];rename_i g;have:¬(Fm o (yielded c a.tmps)=W):=by simp[Fm,n,hy,g]
 rw[aK this];split at e;rename_i d hd;rw[hd];exact r _ _ (GD C h (gZ.A7 (u:=undef) (v:=.aX []) ⟨#[],rfl,trivial⟩ (by simp[SV.cells])) e);rename_i hd;let⟨_,k⟩:=aQ e;rw[hd];refine r _ _ ?_;rw[k];exact⟨β,ω,Z,h⟩
def VQ(f:K.N=cfg.N){b:bv ch}{o:ch}{i:Nat}(hi:b[i]?=J o)(g:o.guard=O){d:Nat}(hd:o.dst=J d)(c:d<cfg.N){s':St}{v:SV}{a:Act}{w:World}{Q:Exit→Act→World→Prop}{next:Act→World→Prop} (hy:cf K s' a d ((execOp a.eval o).run K.P w) v)(h:∀e w',Good K (s'.set (.tmp d) {hv:=(s' (.tmp d)).hv+1,cv:=(s' (.tmp d)).cv,v}) e w'→next e w'):wpOp K.P b Q i next a w:=by
 simp only[wpOp,hi];have:Fm o (yielded b a.tmps)=W:=by simp[Fm,g]
 rw[ax this];let⟨u,w',j,ω',Z',k,l,m⟩:=hy;refine .inl ?_;rw[Fl,k,nh,hd];refine h _ _ (GD f l m (y:=()) ?_);simp only[iQ,Prog.exec];rw[ag5 c];rfl
def VS(m:lD K.P cfg)(n:K.N=cfg.N){b:bv ch}{Q:Exit→Act→World→Prop}:∀(l:L ch)(k:Nat)(s s':St)(a:Act)(w:World),(∀i,i<l.length→b[k+i]?=l[i]?)→pL cfg b l s=J s'→Good K s a w→(∀d w',Good K s' d w'→Q .normal d w')→wpOps K.P b Q (List.range' k l.length) a w:=by
 intro l;induction l with
 |nil=>intro k s s' a w _ h e f;simp only[pL,Option.some.injEq]at h;subst h;exact f _ _ e
 |cons o l p=>
  intro k s s' a w c h e f;simp only[pL]at h;cases g:(lz cfg b o).exec s with
  |none=>rw[g]at h;cases h
  |some x=>let⟨⟨⟩,q⟩:=x;rw[g]at h;have r:b[k]?=J o:=(by have:=c 0 (by simp);simpa using this);simp only[jr,List.range'_succ];rw[wpOps_cons];refine VP m n r g e λd w' j=>?_;exact p (k+1) q s' d w' (λi hi=>by have:=c (i+1) (by simp;omega);grind) h j f
def Nb(a:bv ch):ao:=a.toList.zipIdx.all λx=>x.1.after.all λe=> !Ay .any e||decide (e.on<x.2)
def aho(t:lD K.P cfg)(u:K.N=cfg.N)(f:K.P.follows .mixedOrders=W){id:Nat}{b:bv ch}{c:ao}{Q:Exit→Act→World→Prop}{s s':St}{a:Act}{w:World}(h:pL cfg b b.toList s=J s')(hd:c=W→Na cfg b s=W∧Nb b=W) (g:Good K s a w)(k:∀v w',Good K s' v w'→Q .normal v w'):(Code.region id b c).wp K.P Q a w:=by
 cases c with
 |false=>refine wp_region ?_;have:=VS (Q:=Q) t u b.toList 0 s s' a w (by simp) h g k;simp_all [List.range_eq_range']|true=>
  let⟨h1,h2⟩:=hd rfl;refine wp_region_any f ?_;unfold Na at h1;cases l:qW cfg b b.toList s with
  |none=>rw[l]at h1;cases h1
  |some m=>rw[l]at h1;let⟨d,x⟩:=ahi b.toList 0 s s' m [] (by simp) rfl h l;let⟨β,ω,Z,z⟩:=g;have n:Good K s a {w with drawn:=w.drawn+1}:=⟨β,ω,Z,z.drew.1⟩;simp only[List.nil_append]at d;refine ahj (P:=K.P) (Q:=Q) (s':=s') (Good K) (λi o s A a w next p y g k=>VP t u p y g k) k (λi j q B hn=>ahh h1 q (by grind) hn) (λi o p e y C=>?_) b.size (List.range' 0 b.toList.length) _ s a _ (by simp) (by simp) (List.pairwise_lt_range' _) (λi=>?_) (λi o p r=>?_) d n;simp only[Nb,fO]at h2;have D:(o,i)∈b.toList.zipIdx:=(by grind);grind [Array.all_eq_true_iff_forall_mem];simp_all;simp only[Fa,Array.getElem?_replicate]at r;split at r<;>simp at r
end
noncomputable section
def Prog.both{α:Type}:Prog α→St→Option (α×St×L aD×L aD)
 |.ret a,s=>J (a,s,[],[])|.fail,_=>O|.get r k,s=>match(k (s r)).both s with|some (a,s',f,g)=>J (a,s',r::f,g)|none=>O
 |.put r x k,s=>match k.both (s.set r x)with|some (a,s',f,g)=>J (a,s',f,r::g)|none=>O
theorem VU{α:Type}(p:Prog α):∀(s:St),p.both s=(p.exec s).map λx=>(x.1,x.2,p.cz s):=by
 induction p with
 |ret a=>intro s;rfl
 |fail=>intro s;rfl
 |get r k b=>intro s;simp only[Prog.both,Prog.exec,Prog.cz,b];cases(k (s r)).exec s<;>rfl
 |put r x k b=>intro s;simp only[Prog.both,Prog.exec,Prog.cz,b];cases k.exec (s.set r x)<;>rfl
def vM(cfg:bg)(a:bv ch):L ch→St→Option (St×L (L aD×L aD))
 |[],s=>J (s,[])|o::r,s=>match(lz cfg a o).both s with
  |some (_,s',f,g)=>match vM cfg a r s' with|some (b,l)=>J (b,(f,g)::l)|none=>O
  |none=>O
def VV(cfg:bg)(a:bv ch):∀(l:L ch)(s s':St)(Bq:L (L aD×L aD)),vM cfg a l s=J (s',Bq)→pL cfg a l s=J s'∧qW cfg a l s=J Bq:=by
 intro l;induction l with
 |nil=>intro s s' Bq h;simp only[vM,Option.some.injEq,fj]at h;obtain⟨rfl,rfl⟩:=h;exact⟨rfl,rfl⟩
 |cons o l b=>grind [vM,VU,pL,qW]
def GF(a:bv ch)(b:L (L aD×L aD)):ao:=Nb a&&vL a b (GC a)
inductive Ex where
 |normal|exit(id:Nat)|ret
 deriving DecidableEq
def forget(live:L Nat)(a:L Key)(p:PS):PS:=fin p.st live a p.args.length
def Key.isIn:Key→ao|.inb _=>W|_=>I
def VW(bk a:L Key):ao:=bk.all λk=> !k.isIn||a.contains k
structure VF where
 cfg:bg
 keys:List Nat
 fQ:List Key
def Nc(bk:L Key)(B:PS→(Ex→PS→Prop)→Prop)(p:PS)(Q:Ex→PS→Prop):Prop:=
 ∃(live:L Nat)(b:L Key)(a:PS→Prop)(d:PS→Nat),VW bk b=W∧a (forget live b p)∧∀q,a q→B q λe c=>match e with|.normal=>a (forget live b c)∧d (forget live b c)<d q|e=>Q e c
@[congr] theorem Nc.same{bk:L Key}{B:PS→(Ex→PS→Prop)→Prop}{p a:PS}{Q:Ex→PS→Prop}(h:p=a):Nc bk B p Q=Nc bk B a Q:=by rw[h]
def Nd{α:Type}(t u:Nat)(v:α)(r:L (Nat×α)):lk t ((u,v)::r)=if t=u then J v else lk t r:=rfl
def VX(s:St)(bk:L Key)(t:Nat):∀(ks:L Nat),((lk t (yl s bk ks)).getD .undef)=if t∈ks then gJ s bk (s (.tmp t)).v else .undef
 |[]=>rfl|u::ks=>by
  simp only[yl];have b:=VX s bk t ks;by_cases a:t=u;subst a;simp only[iA,true_or,bf];cases hv:gJ s bk (s (.tmp t)).v with|undef=>simp_all [AX]|_=>simp[AX,Nd]
  have:lk t (AX u (gJ s bk (s (.tmp u)).v) (yl s bk ks))=lk t (yl s bk ks):=by cases gJ s bk (s (.tmp u)).v<;>simp[AX,Nd,a]
  grind
def VY(s:St)(bk:L Key)(k:Key):∀(ks:L Key),(match mq k (ym s bk ks)with|some cs=>SV.agg cs|none=>.undef)=if k∈ks then(match(s (.box k)).v with|.agg cs=>.agg (ie s bk cs)|_=>.undef)else .undef
 |[]=>rfl|u::ks=>by
  simp only[ym];have b:=VY s bk k ks;by_cases a:k=u;subst a;simp only[iA,true_or,bf];cases hv:(s (.box k)).v with|agg cs=>simp[gJ,vp,mq]|one c=>simp_all [gJ,vp]|aX c=>simp_all [gJ,vp]|undef=>simp_all [gJ,vp]
  have:(match mq k (vp u (gJ s bk (s (.box u)).v) (ym s bk ks))with|some cs=>SV.agg cs|none=>.undef)=(match mq k (ym s bk ks)with|some cs=>SV.agg cs|none=>.undef):=by cases(gJ s bk (s (.box u)).v)<;>simp[vp,mq,a]
  grind
def VZ(s:St)(bk:L Key):∀(n a i:Nat),(sr s bk a n).getD i .undef=if i<n then gJ s bk (s (.arg (a+i))).v else .undef|0,a,i=>by simp[sr]|n+1,a,0=>by simp[sr]|n+1,a,i+1=>by have:=VZ s bk n (a+1) i;grind [sr]
def V0(s:St)(bk:L Key):∀(n a:Nat),(sr s bk a n).length=n|0,_=>rfl|n+1,a=>by simp[sr,V0 s bk n]
def V1(s:St)(keys:L Nat)(bk:L Key)(n t:Nat):((fin s keys bk n).st (.tmp t)).v=if t∈keys then gJ s bk (s (.tmp t)).v else .undef:=VX s bk t keys
def V2(s:St)(keys:L Nat)(bk:L Key)(n:Nat)(k:Key):((fin s keys bk n).st (.box k)).v=if k∈bk then(match(s (.box k)).v with|.agg cs=>.agg (ie s bk cs)|_=>.undef)else .undef:=VY s bk k bk
def V3(s:St)(keys:L Nat)(bk:L Key)(n i:Nat):((fin s keys bk n).st (.arg i)).v=if i<n then gJ s bk (s (.arg i)).v else .undef:=by have:=VZ s bk n 0 i;simp only[Nat.zero_add]at this;exact this
def qX(p:PS)(r:aD):(p.st r).hv=0∧(p.st r).cv=0:=by cases r<;>exact⟨rfl,rfl⟩
theorem vN(s:St)(bk:L Key):∀(cs:L C)(j:Nat),(ie s bk cs)[j]?=(cs[j]?).map (iR s bk)|[],_=>by simp[ie]|c::cs,0=>by simp[ie]|c::cs,j+1=>by simp only[ie,pr];exact vN s bk cs j
def Br(s:St)(bk:L Key):∀(cs:L C),(ie s bk cs).length=cs.length|[]=>rfl|c::cs=>by simp[ie,Br s bk cs]
def V4(s:St)(bk:L Key):∀(l m:L C),ie s bk (l++m)=ie s bk l++ie s bk m|[],m=>rfl|c::l,m=>by simp[ie,V4 s bk l m]
def V5(s:St)(bk:L Key):∀(vs:L (ao×L C)),(sq s bk vs).flatMap (·.2)=ie s bk (vs.flatMap (·.2))|[]=>rfl|(b,cs)::vs=>by simp[sq,V4,V5 s bk vs]
theorem GG(s:St)(bk:L Key)(v:SV):(gJ s bk v).cells=ie s bk v.cells:=by
 cases v with|one c=>rfl|agg cs=>rfl|aX vs=>simp only[gJ,SV.cells,V5]|undef=>rfl
def V6(s:St)(bk:L Key):∀{us:L az}{vs:L (ao×L C)},aG (dx kx) us vs→aG (dx kx) us (sq s bk vs)
 |[],[],_=>trivial|u::us,(b,cs)::vs,h=>by
  refine⟨?_,V6 s bk h.2⟩;have h1:=h.1;unfold dx at h1 ⊢;cases b with
  |true=>simp only[bf]at h1 ⊢;obtain⟨ws,rfl,g⟩:=h1;exact⟨ws,rfl,aG.c8 (by rw[g.length,Br]) λ_ _ _ _ _=>trivial⟩
  |false=>simp only[bh,bC]at h1 ⊢;obtain⟨c,rfl,g,_⟩:=h1;exact⟨iR s bk c,by simp[ie],g,trivial⟩
def ahp{s:St}{bk:L Key}{u:az}{v:SV}(h:bj kx u v):bj kx u (gJ s bk v):=by
 cases v with
 |one c=>exact⟨h.1,trivial⟩|agg cs=>let⟨ws,h1,h2⟩:=h;exact⟨ws,h1,aG.c8 (by rw[h2.length,Br]) λ_ _ _ _ _=>trivial⟩
 |aX vs=>let⟨ws,h1,h2⟩:=h;exact⟨ws,h1,V6 s bk h2⟩
 |undef=>trivial
theorem ahq{s:St}{bk:L Key}{c:C}{e:Nat}{xs:L (L D)}(h:iR s bk c=.own e xs):c=.own e xs:=by cases c<;>simp only[iR]at h<;>first|exact h|grind|cases h
theorem ahr{s:St}{bk:L Key}{c:C}(h:iR s bk c≠.dead):c≠.dead:=by rintro rfl;exact h rfl
section
variable{K:Ctx}{β:Key→Option Nat}{ω:Nat→Option cj}{Z:Nat→Prop}{s:St}{a:Act}{w:World}
def Rel.fin(h:Rel K β ω Z s a w)(keys:L Nat)(bk:L Key){n:Nat}(hn:n=K.argv.size)(hin:∀k b,K.iV k=J b→k∈bk):∃l,Rel K l ω Z (fin s keys bk n).st a w:=by
 generalize E:(Vs.fin s keys bk n).st=s';have ht:∀t,(s' (.tmp t)).v=if t∈keys then gJ s bk (s (.tmp t)).v else .undef:=λt=>by rw[←E];exact V1 ..
 have hb:∀k,(s' (.box k)).v=if k∈bk then(match(s (.box k)).v with|.agg cs=>.agg (ie s bk cs)|_=>.undef)else .undef:=λk=>by rw[←E];exact V2 ..
 have ha:∀i,(s' (.arg i)).v=if i<n then gJ s bk (s (.arg i)).v else .undef:=λi=>by rw[←E];exact V3 ..
 have hz:∀r,(s' r).hv=0∧(s' r).cv=0:=λr=>by rw[←E];exact qX _ r
 have F:∀(r:aD)(j:Nat)(c:C),(s' r).v.cells[j]?=J c→(∃c0,(s r).v.cells[j]?=J c0∧c=iR s bk c0)∧(∀k,r=.box k→k∈bk∧∃cs,(s r).v=.agg cs):=by
  intro r j c q;cases r with|tmp t=>grind [GG,vN,SV.cells]|box k=>grind [SV.cells,vN]|arg i=>grind [GG,vN,SV.cells]
 let l:Key→Option Nat:=λk=>match(s' (.box k)).v with|.agg _=>β k|_=>O
 have T5:∀k cs,(s' (.box k)).v=.agg cs→l k=β k:=λk cs hk=>by simp only[l,hk]
 have N:∀k,(s' (.box k)).v=.undef→l k=O:=λk hk=>by simp only[l,hk]
 have o:∀k b,β k=J b→k∈bk→l k=J b:=by
  intro k b hkb hk;have m:=h.boxes k;cases hv:(s (.box k)).v with|agg cs=>grind|undef=>rw[hv]at m;simp only[di]at m;grind|one c=>rw[hv]at m;exact m.elim|aX x=>rw[hv]at m;exact m.elim
 have Mh:∀(r:aD)(j:Nat),(s' r).at j≠.dead→(s r).at j≠.dead∧(∀e ys,(s r).at j=.own e ys→(s' r).at j=.own e ys)∧(∀d,(s r).at j=.d d→(s' r).at j=.d d)∧(∀k,r=.box k→k∈bk∧∃cs,(s r).v=.agg cs):=by
  intro r j G;cases q:(s' r).v.cells[j]? with|none=>grind [RV.at]|some c=>let⟨⟨c0,h0,h1⟩,h2⟩:=F r j c q;have e0:=sw h0;have e1:=sw q;rw[e1]at G;refine⟨?_,λe ys T=>?_,λd T=>?_,h2⟩;grind [ahr];rw[e1];rw[e0]at T;subst T;rw[h1];rfl;rw[e1];rw[e0]at T;subst T;rw[h1];rfl
 have Gt:∀(r:aD)(j:Nat),(∀k,r=.box k→k∈bk∧∃cs,(s r).v=.agg cs)→bU K l a w r j=bU K β a w r j:=by
  intro r j hr;cases r with|tmp t=>rfl|arg i=>rfl|box k=>grind [bU]
 have aw4:∀(c:C)(u:az),aH K β Z s a w c u→aH K l Z s' a w (iR s bk c) u:=by
  intro c u y;cases c with
  |d x=>exact y|own e xs=>exact y|dead=>trivial|da xs=>exact y|ea r j hv e i off=>trivial|ptr k off=>simp only[iR];split;rename_i hk;let⟨b,z,A⟩:=y;exact⟨b,o k b z (by simpa using hk),A⟩;trivial
  |cy f caps=>simp only[iR];split;rename_i hk;let⟨vs,z,A⟩:=y;refine⟨vs,z,A.ju λu p hp⟨b,q1,q2⟩=>⟨b,o p.1 b q1 ?_,q2⟩⟩;grind;trivial
  |aS r j hv cv e k xs=>simp only[iR];split;rename_i aw5;by_cases S:isMap e=W;let⟨b,z,g4,g5,g6⟩:=(aH.pN S).1 y;refine(aH.pN S).2 ⟨b,z,by omega,by omega,λ_ G=>?_⟩;grind;have S:isMap e=I:=(by simpa using S);let⟨U2,V,z,A,X,g4,g5,g6⟩:=(aH.nA S).1 y;refine(aH.nA S).2 ⟨U2,V,z,A,X,by omega,by omega,λ_ G=>?_⟩;let⟨q1,q2,q3,q4⟩:=Mh r j G;grind;trivial
 have Y:∀(v:SV)(u:az),bj (aH K β Z s a w) u v→bj (aH K l Z s' a w) u (gJ s bk v):=by
  intro v u hv;refine bj.of_flat (ahp hv.shape) λhu=>?_;have MQ:v≠.undef:=by rintro rfl;exact hu rfl
  have hf:=hv.flat MQ;rw[GG];refine aG.c8 (by rw[hf.length,Br]) λj x c hx q=>?_;rw[vN]at q;cases B:v.cells[j]? with|none=>grind|some c0=>rw[B]at q;simp only[Option.map_some,Option.some.injEq]at q;subst q;let⟨x',z,A⟩:=hf.get B;grind
 have P:∀(r:aD)(j e:Nat)(xs:L (L D)),(s' r).v.cells[j]?=J (.own e xs)→(s r).v.cells[j]?=J (.own e xs)∧bU K l a w r j=bU K β a w r j:=by grind [ahq]
 refine⟨l,h.size,h.defers,h.os,h.tape,h.output,h.base,h.frame,h.cD,h.ky,?_,?_,?_,?_,?_,?_,h.c9,?_⟩;intro b H;rcases h.lA b H with g|g|g|⟨i,j,e,ys,u0,z,A,X⟩
 exact .inl g;exact .inr (.inl g);grind;refine .inr (.inr (.inr ⟨i,j,e,ys,u0,?_,A,X⟩));have hi:i<n:=by grind [undef,flat]
 rw[ha,ax hi,GG,vN,z];rfl;intro t;rw[ht];split;exact Y _ _ (h.tmps t);trivial;intro i;rw[ha];split;exact Y _ _ (h.args i);trivial;intro k;rw[hb];by_cases hk:k∈bk;rw[ax hk];have m:=h.boxes k;cases hv:(s (.box k)).v with
 |agg cs=>
  let⟨b,ws,el,lo,hi,z,A,X,g4,g5⟩:=di.cell h hv;refine⟨b,ws,el,lo,hi,o k b z hk,A,X,g4,aG.c8 (by rw[g5.length,Br]) λj u c hu q=>?_⟩;rw[vN]at q;cases B:cs[j]? with|none=>grind|some c0=>rw[B]at q;simp only[Option.map_some,Option.some.injEq]at q;subst q;let⟨u',q1,q2⟩:=g5.get B;grind
 |undef=>exact N k (by rw[hb,ax hk,hv])|one c=>rw[hv]at m;exact m.elim|aX x=>rw[hv]at m;exact m.elim
 rw[aK hk];exact N k (by rw[hb,aK hk]);intro r j e xs u1 b1 hr q hh R;let⟨z,A⟩:=P r j e xs q;rw[A]at hh;exact h.own r j e xs u1 b1 hr z hh R;intro i j e xs u1 b1 q hh R;exact h.gw i j e xs u1 b1 (P (.arg i) j e xs q).1 hh R;intro k b H;exact o k b (h.mx k b H) (hin k b H)
end
end
def sD:Ex→Exit|.normal=>.normal|.exit i=>.exit i|.ret=>.ret
def cR(K:Ctx)(p:PS)(a:Act)(w:bD):Prop:=Good K p.st a w∧p.args.length=K.argv.size
def ahs(K:Ctx)(F:VF):Prop:=∀k b,K.iV k=J b→k.isIn=W∧k∈F.fQ
section
variable{K:Ctx}{F:VF}
def cR.fin{p:PS}{s:St}{a:Act}{w:bD}(e:p.args.length=K.argv.size)(f:Good K s a w){keys:L U}{bk:L Key}(c:∀k b,K.iV k=J b→k∈bk):cR K (fin s keys bk p.args.length) a w:=by let⟨β,ω,Z,h⟩:=f;let⟨d,g⟩:=h.fin keys bk e c;refine⟨⟨d,ω,Z,g⟩,?_⟩;rw[←e];exact V0 ..
def cR.forget(hk:ahs K F){p:PS}{a:Act}{w:bD}(h:cR K p a w){live:L U}{d:L Key}(e:VW F.fQ d=W):cR K (forget live d p) a w:=by refine cR.fin h.2 h.1 λk b c=>?_;let⟨h1,h2⟩:=hk k b c;have:=fO.1 e k h2;simpa[h1]using this
end
noncomputable section
def yz(cfg:bg):md→Prog SV
 |.tmp t=>ev (.tmp t)|.cell a t=>match cfg.ti t with|some i=>do qL i (←dc (.tmp a))|none=>.fail
def yA(cfg:bg):L md→Prog (L SV)|[]=>.ret []|r::rs=>do let v ←yz cfg r;let vs ←yA cfg rs;.ret (v::vs)
def vO:C→Prog C|.aS (.arg i) j hv cv e k xs=>do let x ←kK (.aS (.arg i) j hv cv e k xs);.ret (.d x)|c=>.ret c
def sE:L C→Prog (L C)|[]=>.ret []|c::cs=>do let a ←vO c;let r ←sE cs;.ret (a::r)
def oM:SV→Prog SV|.one c=>do .ret (.one (←vO c))|.agg cs=>do .ret (.agg (←sE cs))|_=>.fail
def yB:L SV→Prog (L SV)|[]=>.ret []|v::vs=>do let a ←oM v;let r ←yB vs;.ret (a::r)
def easy:C→ao|.d _|.own _ _|.ptr _ _|.dead=>W|_=>I
def settle(k:Key):Prog bu:=
 .get (.box k) λx=>match x.v with
  |.agg cs=>if cs.all easy=W then .ret ()else do
   let a ←sE cs
   dn (.box k) {hv:=x.hv+1,cv:=x.cv,v:=.agg a}
  |_=>.fail
def yC:L Key→Prog bu|[]=>.ret ()|k::ks=>do settle k;yC ks
def GH:L SV→SV|[v]=>v|vs=>.aX (vs.map λv=>match v with|.one c=>(I,[c])|.agg cs=>(W,cs)|_=>(I,[]))
def sF:L az→az|[u]=>u|us=>.tuple us.toArray
def V7(d:ao):aD→ao|.tmp _=> !d|.box (.inb _)=>I|.box _=> !d|.arg _=>I
def vP(ks:L Key):C→Prog C|.d x=>.ret (.d x)|.own e xs=>.ret (.own e xs)|.ptr k off=>do need (k∈ks);.ret (.ptr (.inb (idx k ks)) off)|.cy f caps=>do need (caps=[]);.ret (.cy f [])|_=>.fail
def sG(ks:L Key):L C→Prog (L C)|[]=>.ret []|c::cs=>do let a ←vP ks c;let r ←sG ks cs;.ret (a::r)
def vQ(ks:L Key):L (ao×L C)→Prog (L (ao×L C))|[]=>.ret []|(b,cs)::vs=>do let a ←sG ks cs;let r ←vQ ks vs;.ret ((b,a)::r)
def mB(ks:L Key):SV→Prog SV|.one c=>do .ret (.one (←vP ks c))|.agg cs=>do .ret (.agg (←sG ks cs))|.aX vs=>do .ret (.aX (←vQ ks vs))|.undef=>.fail
def iE(n:Nat):L Key:=(hY n).map .inb
def sH(a:Nat)(cs:L C):L Key:=iE a++(dedup (fZ cs)).filter λk=> !k.isIn
def vR(cfg:bg)(res:L md)(b:Nat):Prog (SV×L (L C)):=do
 let vs ←yA cfg res
 let ks:=sH b (vs.flatMap SV.cells)
 yC ks
 let a ←yB vs
 let c ←lx (.tmp 0) (V7 cfg.mh) (GH a)
 let d ←vn ks ks
 let e ←mB ks c
 .ret (e,d)
def GI(i:Nat)(v:SV):SV:=RV.copy {v} (.arg i)
def sJ:Nat→L SV→L (Nat×SV)|_,[]=>[]|i,v::vs=>(i,GI i v)::sJ (i+1) vs
def sK:Nat→L (L C)→L (Key×L C)|_,[]=>[]|i,b::a=>(.inb i,b)::sK (i+1) a
def yD(args:L SV)(boxes:L (L C)):PS:={slots:=sJ 0 args,boxes:=sK 0 boxes,args}
section
variable{K:Ctx}{β:Key→Option Nat}{ω:Nat→Option cj}{Z:Nat→Prop}{s:St}{a:Act}{w:World}{cfg:bg}
def vS(a:Act):md→Sem az|.tmp t=>pure (a.tmps.getD t undef)|.cell b t=>do loadVar t (←asAddr (a.tmps.getD b undef))
def aht(hT:fT K.P cfg)(h:Rel K β ω Z s a w){r:md}{v:SV}{s':St}(f:(yz cfg r).exec s=J (v,s')):s'=s∧∃u,(vS a r).run K.P w=.ok u w∧bj (aH K β Z s a w) u v∧(∀c∈v.cells,ca c):=by
 cases r with
 |tmp t=>simp only[yz]at f;let⟨o,h1,h2,h3⟩:=gx h f;exact⟨o,_,rfl,h1,h2⟩
 |cell b t=>
  simp only[yz]at f;split at f;rename_i i hi;let⟨c,p,h1,d⟩:=aI f;let⟨j,E,l,q⟩:=eV h h1;subst j;let⟨k,x,y,z,A⟩:=Uj h (hT.T t i hi) l d;refine⟨k,x,?_,z,A⟩;have hp:∃m,a.tmps.getD b undef=.pointer (J m):=by have e:aH K β Z p a w c (a.tmps.getD b undef):=l;unfold qL at d;split at d;let⟨n,_,g⟩:=e;exact⟨_,g⟩;let⟨n,B,g,_⟩:=e;exact⟨_,g⟩;let⟨n,B,g,_⟩:=e;exact⟨_,g⟩;simp[Prog.exec]at d
  let⟨m,C⟩:=hp;have D:(Au t (a.tmps.getD b undef)).run K.P w=.ok x w:=y;simp_all [vS,Au,Instr.sureAddr,asAddr];simp[Prog.exec]at f
def Wa{α:Type}{P:dr}{w:World}(f:α→Sem az):∀(l:L α)(us:L az),aG (λx u=>(f x).run P w=.ok u w) l us→(l.mapM f).run P w=.ok us w|[],[],_=>rfl|x::l,u::us,h=>by have h1:=h.1;have h2:=Wa f l us h.2;simp_all
def ahu(hT:fT K.P cfg)(h:Rel K β ω Z s a w):∀(rs:L md)(vs:L SV)(s':St),(yA cfg rs).exec s=J (vs,s')→s'=s∧∃us,aG (λr u=>(vS a r).run K.P w=.ok u w) rs us∧aG (λu v=>bj (aH K β Z s a w) u v∧(∀c∈v.cells,ca c)) us vs:=by
 intro rs;induction rs with
 |nil=>intro vs s' b;obtain⟨rfl,rfl⟩:=aQ b;exact⟨rfl,[],trivial,trivial⟩
 |cons r rs f=>intro vs s' b;simp only[yA]at b;let⟨v1,m,h1,d⟩:=aI b;let⟨g,n,h2,e⟩:=aI d;obtain⟨rfl,rfl⟩:=aQ e;obtain⟨rfl,u,i,j⟩:=aht hT h h1;obtain⟨rfl,us,k,l⟩:=f _ _ h2;exact⟨rfl,u::us,⟨i,k⟩,⟨j,l⟩⟩
def ahv{fn:Func}{us:L az}(h:aG (λr u=>(vS a r).run K.P w=.ok u w) fn.results.toList us):(results fn a.tmps).run K.P w=.ok (sF us) w:=by
 have h1:=Wa (P:=K.P) (w:=w) (vS a) _ us h;have h2:results fn a.tmps=(do let vs ←fn.results.mapM (vS a);pure (if h:vs.size=1 then vs[0]else .tuple vs)):=by unfold results;congr 1
 rw[h2,Array.mapM_eq_mapM_toList];simp only[map_eq_pure_bind,bind_assoc,pure_bind];have:∀(v:az),sF us=v→(List.mapM (vS a) fn.results.toList >>= λa=>(pure (if h:a.toArray.size=1 then a.toArray[0]else Value.tuple a.toArray):Sem az)).run K.P w=.ok v w:=by
  intro v hv;simp only[cL,h1];simp;subst hv;match us with|[]=>rfl|[u]=>rfl|u::u'::us=>simp[sF]
 exact this _ rfl
def CB(K:Ctx)(β:Key→Option Nat)(Z:Nat→Prop)(s:St)(a:Act)(w:World)(u:az)(c:C):Prop:=aH K β Z s a w c u∧∀(e:Nat)(xs:L (L D))(b:Nat),c=.own e xs→dB u=J b→b<w.heap.size
theorem CB.lift{ω':Nat→Option cj}{Z':Nat→Prop}{s':St}(b:Rel K β ω Z s a w)(k:Calm K β a ω Z s w ω' Z' s' w){u:az}{c:C}(h:CB K β Z s a w u c):CB K β Z' s' a w u c:=⟨k.jM b.cD h.2 h.1,h.2⟩
theorem ahw{i j:Nat}{x:RV}{y:bu}{s s':St}(a:(nn (.arg i) j x).exec s=J (y,s')):∀k,s' (.box k)=s (.box k):=by intro k;unfold nn at a;split at a;simp only[dn,Prog.exec,Option.some.injEq,fj]at a;obtain⟨_,rfl⟩:=a;simp[St.set];grind [aQ];simp[Prog.exec]at a
def Wb(h:Rel K β ω Z s a w){c c':C}{u:az}{s':St}(b:CB K β Z s a w u c)(d:(vO c).exec s=J (c',s')):(∃ω' Z',Rel K β ω' Z' s' a w∧Calm K β a ω Z s w ω' Z' s' w∧CB K β Z' s' a w u c')∧(∀(e:Nat)(xs:L (L D)),c'=C.own e xs→c=C.own e xs)∧(∀k,s' (.box k)=s (.box k)):=by unfold vO at d;split at d;rename_i i j hv cv e k xs;let⟨x,m,h1,f⟩:=aI d;obtain⟨rfl,rfl⟩:=aQ f;let⟨ω',Z',g,k1,d1⟩:=A8 h b.1 h1;refine⟨⟨ω',Z',g,k1,d1,by simp⟩,by simp,?_⟩;simp only[kK,Prog.exec]at h1;let⟨_,n,l,h1⟩:=aI h1;obtain⟨_,rfl⟩:=bW l;let⟨_,o,p,h1⟩:=aI h1;grind [aQ,ahw];grind [aQ,Calm.refl]
def Wc:∀(cs:L C)(us:L az)(ω:Nat→Option cj)(Z:Nat→Prop)(s s':St)(cs':L C),Rel K β ω Z s a w→aG (CB K β Z s a w) us cs→(sE cs).exec s=J (cs',s')→(∃ω' Z',Rel K β ω' Z' s' a w∧Calm K β a ω Z s w ω' Z' s' w∧aG (CB K β Z' s' a w) us cs')∧(∀(j e:Nat)(xs:L (L D)),cs'[j]?=J (C.own e xs)→cs[j]?=J (C.own e xs))∧(∀k,s' (.box k)=s (.box k)):=by
 intro cs;induction cs with
 |nil=>intro us ω Z s s' cs' h b d;obtain⟨rfl,rfl⟩:=aQ d;grind [Calm.refl]
 |cons c cs o=>
  intro us ω Z s s' cs' h b d;cases us with|nil=>exact b.elim|cons u us=>simp only[sE]at d;let⟨c1,p,h1,f⟩:=aI d;let⟨g,B,h2,i⟩:=aI f;obtain⟨rfl,rfl⟩:=aQ i;let⟨⟨l,q,n,k1,r⟩,E,t⟩:=Wb h b.1 h1;let⟨⟨m,v,x,k2,y⟩,F,z⟩:=o us l q p _ g n (aG.mono (λ_ _ A=>A.lift h k1) b.2) h2;refine⟨⟨m,v,x,k1.trans k2,r.lift n k2,y⟩,?_,λk=>(z k).trans (t k)⟩;grind
def VR(K:Ctx)(β:Key→Option Nat)(Z:Nat→Prop)(s:St)(a:Act)(w:World)(u:az)(v:SV):Prop:=bj (aH K β Z s a w) u v∧(∀c∈v.cells,ca c)
theorem VR.lift{ω':Nat→Option cj}{Z':Nat→Prop}{s':St}{w':World}(d:Rel K β ω Z s a w)(k:Calm K β a ω Z s w ω' Z' s' w'){u:az}{v:SV}(h:VR K β Z s a w u v):VR K β Z' s' a w' u v:=⟨bj.mono (λc _ f b=>k.jM d.cD (λe xs _ g _=>bX g (h.2 c f e xs)) b) h.1,h.2⟩
def GJ:SV→Prop|.one _|.agg _=>cZ|_=>gT
def ahx(h:Rel K β ω Z s a w){v v':SV}{u:az}{s':St}(hv:VR K β Z s a w u v)(g:(oM v).exec s=J (v',s')):∃ω' Z',Rel K β ω' Z' s' a w∧Calm K β a ω Z s w ω' Z' s' w∧VR K β Z' s' a w u v'∧GJ v':=by
 cases v with
 |one c=>simp only[oM]at g;let⟨c1,q,h1,d⟩:=aI g;obtain⟨rfl,rfl⟩:=aQ d;have i:=hv.2 c (by simp[SV.cells]);let⟨⟨f,l,m,k1,n⟩,o,_⟩:=Wb h ⟨hv.1.2,λe xs _ b _=>bX b (i e xs)⟩ h1;exact⟨f,l,m,k1,⟨⟨hv.1.1,n.1⟩,by intro x b;simp only[SV.cells,ng]at b;subst b;exact λe xs b=>i e xs (o e xs b)⟩,trivial⟩
 |agg cs=>simp only[oM]at g;let⟨c1,q,h1,d⟩:=aI g;obtain⟨rfl,rfl⟩:=aQ d;let⟨ws,r,k⟩:=hv.1;let⟨⟨f,l,m,k1,n⟩,o,_⟩:=Wc cs ws.toList ω Z s _ _ h (k.ju λu c p t=>⟨t,λe xs _ b _=>bX b (hv.2 c p e xs)⟩) h1;refine⟨f,l,m,k1,⟨⟨ws,r,aG.mono (λ_ _ y=>y.1) n⟩,?_⟩,trivial⟩;intro c p e xs b;let⟨j,z⟩:=lZ p;subst b;exact hv.2 _ (eA (o j e xs z)) e xs rfl
 |aX x=>simp[oM,Prog.exec]at g|undef=>simp[oM,Prog.exec]at g
def ahy:∀(vs:L SV)(us:L az)(ω:Nat→Option cj)(Z:Nat→Prop)(s s':St)(vs':L SV),Rel K β ω Z s a w→aG (VR K β Z s a w) us vs→(yB vs).exec s=J (vs',s')→∃ω' Z',Rel K β ω' Z' s' a w∧Calm K β a ω Z s w ω' Z' s' w∧aG (λu v=>VR K β Z' s' a w u v∧GJ v) us vs':=by
 intro vs;induction vs with
 |nil=>
  intro us ω Z s s' vs' h b c;obtain⟨rfl,rfl⟩:=aQ c;cases us with|nil=>exact⟨ω,Z,h,Calm.refl,trivial⟩|cons u us=>exact b.elim
 |cons v vs k=>
  intro us ω Z s s' vs' h b c;cases us with|nil=>exact b.elim|cons u us=>simp only[yB]at c;let⟨v1,l,h1,d⟩:=aI c;let⟨e,x,h2,f⟩:=aI d;obtain⟨rfl,rfl⟩:=aQ f;let⟨g,m,j,k1,n,o⟩:=ahx h b.1 h1;let⟨i,p,q,k2,r⟩:=k us g m l _ e j (aG.mono (λ_ _ t=>VR.lift h k1 t) b.2) h2;exact⟨i,p,q,k1.trans k2,⟨VR.lift j k2 n,o⟩,r⟩
def ahz{us:L az}{vs:L SV}(h:aG (λu v=>VR K β Z s a w u v∧GJ v) us vs):VR K β Z s a w (sF us) (GH vs):=by
 have gen:∀{us:L az}{vs:L SV},aG (λu v=>VR K β Z s a w u v∧GJ v) us vs→aG (dx (aH K β Z s a w)) us (vs.map λv=>match v with|.one c=>(I,[c])|.agg cs=>(W,cs)|_=>(I,[]))∧∀c∈(vs.map λv=>match v with|.one c=>(I,[c])|.agg cs=>(W,cs)|_=>(I,([]:L C))).flatMap (·.2),ca c:=by
  intro us vs;induction vs generalizing us with
  |nil=>intro h;cases us with|nil=>exact⟨trivial,by simp⟩|cons=>exact h.elim
  |cons v vs g=>
   intro h;cases us with
   |nil=>exact h.elim|cons u us=>
    let⟨⟨⟨h1,h2⟩,h3⟩,i⟩:=h;let⟨b,d⟩:=g i;cases v with|one c=>refine⟨⟨?_,b⟩,?_⟩;simp only[dx,bh,bC];exact⟨c,rfl,h1.1,h1.2⟩;grind [SV.cells]|agg cs=>refine⟨⟨?_,b⟩,?_⟩;simp only[dx,bf];exact h1;grind [SV.cells]|aX x=>exact h3.elim|undef=>exact h3.elim
 match us,vs,h with
 |[u],[v],h=>exact h.1.1|[],[],h=>exact⟨⟨#[],rfl,trivial⟩,by simp[GH,SV.cells]⟩|u::e::us,v::f::vs,h=>let⟨b,d⟩:=gen h;exact⟨⟨_,rfl,by simpa[sF]using b⟩,d⟩
 |[u],[],h=>exact h.elim|[],[v],h=>exact h.elim|[u],v::f::vs,h=>exact h.2.elim|u::e::us,[v],h=>exact h.2.elim|u::e::us,[],h=>exact h.elim|[],v::f::vs,h=>exact h.elim
def ahA(h:Rel K β ω Z s a w){k:Key}{y:bu}{s':St}(d:(settle k).exec s=J (y,s')){us:L az}{vs:L SV}(hv:aG (VR K β Z s a w) us vs):∃ω' Z',Rel K β ω' Z' s' a w∧aG (VR K β Z' s' a w) us vs:=by
 unfold settle at d;simp only[Prog.exec]at d;split at d;rename_i cs f;split at d;grind [aQ];obtain⟨i,E,h1,d⟩:=aI d;simp only[dn,Prog.exec,Option.some.injEq,fj]at d;obtain⟨_,rfl⟩:=d;obtain⟨b,ws,el,lo,hi,o,g2,p,F,C⟩:=di.cell h f;have l:aG (CB K β Z s a w) ws.toList cs:=aG.c8 C.length λj u c q g=>by obtain⟨u',r,G⟩:=C.get g;rw[q]at r;cases r;refine⟨G,λe xs m H N=>?_⟩;subst H;have:=(h.own (.box k) j e xs u m rfl (by rw[f];exact g) (by rw[lB o p];exact q) N).1;exact(h.c9 _ _ this).2.1
 obtain⟨⟨x,P,z,k1,R⟩,r,m⟩:=Wc cs ws.toList ω Z s E i h l h1;obtain⟨D,S,T,V,X,f1,f2,f3,f4,f5⟩:=di.cell z (by rw[m];exact f);rw[o]at f1;cases f1;rw[p]at f3;cases f3;obtain⟨t1,t2⟩:=z.Mk (k:=k) (b:=b) (w':=w) (cs:=i) f2 (.inr o) rfl rfl rfl rfl (λ_ _=>rfl) p F (aG.mono (λ_ _ t=>t.1) R) (λj e xs Y D g q A=>z.own (.box k) j e xs Y D rfl (by rw[m,f];exact r j e xs g) (by rw[lB o p];exact q) A);have B:(λk'=>if k'=k then J b else β k')=β:=by grind
 rw[B,m]at t1 t2;refine⟨x,P,t1,aG.mono (λu v t=>?_) hv⟩;have n:=t.lift h k1;exact⟨bj.mono (λc u g hr=>t2 c u (λe xs _ hx _=>bX hx (t.2 c g e xs)) hr) n.1,n.2⟩;simp[Prog.exec]at d
def Wd:∀(ks:L Key)(ω:Nat→Option cj)(Z:Nat→Prop)(s s':St)(y:bu),Rel K β ω Z s a w→(yC ks).exec s=J (y,s')→∀{us:L az}{vs:L SV},aG (VR K β Z s a w) us vs→∃ω' Z',Rel K β ω' Z' s' a w∧aG (VR K β Z' s' a w) us vs
 |[],ω,Z,s,s',y,h,b,us,vs,hv=>by obtain⟨_,rfl⟩:=aQ b;grind
 |k::ks,ω,Z,s,s',y,h,b,us,vs,hv=>by simp only[yC]at b;let⟨_,d,h1,b⟩:=aI b;let⟨c,e,f,v1⟩:=ahA h h1 hv;exact Wd ks c e d s' _ f b v1
def OC(ks:L Key)(c c':C):Prop:=(∀(K b:Ctx)(β:Key→Option Nat)(Z:Nat→Prop)(s s':St)(a d:Act)(w:World)(u:az),aH K β Z s a w c u→aH b (fB ks β) Z s' d w c' u)∧(∀(e:Nat)(xs:L (L D)),c'=C.own e xs→c=C.own e xs)
def Wg{ks:L Key}{c c':C}{s':St}(a:(vP ks c).exec s=J (c',s')):s'=s∧OC ks c c':=by
 unfold vP at a;split at a;obtain⟨rfl,rfl⟩:=aQ a;exact⟨rfl,λ_ _ _ _ _ _ _ _ _ _ h=>h,λ_ _ h=>h⟩;obtain⟨rfl,rfl⟩:=aQ a;exact⟨rfl,λ_ _ _ _ _ _ _ _ _ _ h=>h,λ_ _ h=>h⟩;let⟨_,i,h1,d⟩:=aI a;obtain⟨hk,rfl⟩:=bW h1;obtain⟨rfl,rfl⟩:=aQ d;exact⟨rfl,λ_ _ β _ _ _ _ _ _ _⟨b,f,e⟩=>⟨b,by rw[pS hk];exact f,e⟩,by simp⟩;let⟨_,i,h1,d⟩:=aI a;obtain⟨hk,rfl⟩:=bW h1;obtain⟨rfl,rfl⟩:=aQ d;refine⟨rfl,λ_ _ β _ _ _ _ _ _ _⟨vs,f,e⟩=>⟨vs,f,?_⟩,by simp⟩;subst hk;cases g:vs.toList with|nil=>trivial|cons x xs=>rw[g]at e;exact e.elim
 simp[Prog.exec]at a
def Nf{ks:L Key}:∀{cs cs':L C}{s s':St},(sG ks cs).exec s=J (cs',s')→s'=s∧aG (OC ks) cs cs'
 |[],_,_,_,a=>by obtain⟨rfl,rfl⟩:=aQ a;exact⟨rfl,trivial⟩
 |c::cs,cs',s,s',a=>by simp only[sG]at a;let⟨c1,f,h1,a⟩:=aI a;let⟨b,g,h2,a⟩:=aI a;obtain⟨rfl,rfl⟩:=aQ a;obtain⟨rfl,d⟩:=Wg h1;obtain⟨rfl,e⟩:=Nf h2;exact⟨rfl,d,e⟩
def Wh{ks:L Key}:∀{vs c:L (ao×L C)}{s s':St},(vQ ks vs).exec s=J (c,s')→s'=s∧aG (λx y=>x.1=y.1∧aG (OC ks) x.2 y.2) vs c
 |[],_,_,_,a=>by obtain⟨rfl,rfl⟩:=aQ a;exact⟨rfl,trivial⟩
 |(b,cs)::vs,c,s,s',a=>by simp only[vQ]at a;let⟨c1,g,h1,a⟩:=aI a;let⟨d,h,h2,a⟩:=aI a;obtain⟨rfl,rfl⟩:=aQ a;obtain⟨rfl,e⟩:=Nf h1;obtain⟨rfl,f⟩:=Wh h2;exact⟨rfl,⟨rfl,e⟩,f⟩
theorem aG.comp{α β d:Type}{R:α→β→Prop}{S:β→d→Prop}{T:α→d→Prop}(hT:∀a b c,R a b→S b c→T a c):∀{as:L α}{e:L β}{cs:L d},aG R as e→aG S e cs→aG T as cs|[],[],[],_,_=>trivial|_::_,_::_,_::_,h,k=>⟨hT _ _ _ h.1 k.1,aG.comp hT h.2 k.2⟩
def Wi{R:C→C→Prop}:∀{xs ys:L (ao×L C)},aG (λx y=>x.1=y.1∧aG R x.2 y.2) xs ys→aG R (xs.flatMap (·.2)) (ys.flatMap (·.2))|[],[],_=>trivial|_::_,_::_,h=>by simp only[lq];exact aG.append h.1.2 (Wi h.2)
def ahB{ks:L Key}{v v':SV}{s s':St}(d:(mB ks v).exec s=J (v',s')):s'=s∧aG (OC ks) v.cells v'.cells∧∀(R e:C→az→Prop),(∀c c' u,OC ks c c'→R c u→e c' u)→∀u,bj R u v→bj e u v':=by
 cases v with
 |one c=>simp only[mB]at d;let⟨c1,l,h1,d⟩:=aI d;obtain⟨rfl,rfl⟩:=aQ d;obtain⟨rfl,g⟩:=Wg h1;exact⟨rfl,⟨g,trivial⟩,λR e f u m=>⟨m.1,f _ _ _ g m.2⟩⟩
 |agg cs=>simp only[mB]at d;let⟨c1,l,h1,d⟩:=aI d;obtain⟨rfl,rfl⟩:=aQ d;obtain⟨rfl,g⟩:=Nf h1;exact⟨rfl,g,λR e f u⟨ws,i,j⟩=>⟨ws,i,aG.comp (T:=λu c=>e c u) (λu b c h k=>f b c u k h) j g⟩⟩
 |aX vs=>
  simp only[mB]at d;let⟨c1,l,h1,d⟩:=aI d;obtain⟨rfl,rfl⟩:=aQ d;obtain⟨rfl,g⟩:=Wh h1;refine⟨rfl,Wi g,λR e f u⟨ws,i,j⟩=>⟨ws,i,aG.comp (λa b c h k=>?_) j g⟩⟩;unfold dx at h ⊢;let⟨k1,k2⟩:=k;rw[←k1];split;grind [aG.comp];rename_i n;simp only[n]at h;let⟨x,o,p,q⟩:=h;rw[o]at k2;match c.2,k2 with|[y],k2=>exact⟨y,rfl,p,f _ _ _ k2.1 q⟩
 |undef=>simp[mB,Prog.exec]at d
def Wj{n i:Nat}(h:i<n):(iE n)[i]?=J (.inb i):=by simp[iE,h]
theorem Wk(n:Nat):(iE n).Nodup:=by grind [iE,List.nodup_range]
theorem ahC(a:Nat)(cs:L C):(sH a cs).Nodup:=by grind [sH,Wk,yw,iE,Key.isIn]
theorem ahD{a i:Nat}(h:i<a)(cs:L C):(sH a cs)[i]?=J (.inb i):=by unfold sH;rw[og (by simp[iE,h]),Wj h]
theorem ahE(v:SV)(j l:Nat):(nw v j).cells[l]?=v.cells[l]? ∨∃e ys,v.cells[l]?=J (.own e ys)∧(nw v j).cells[l]?=J (.d (.sl e ys)):=by grind [nw,pO]
def Wl:∀(l:L (Nat×Nat))(args:L SV)(i j:Nat),((jI l args).getD i .undef).cells[j]?=(args.getD i .undef).cells[j]? ∨∃e ys,(args.getD i .undef).cells[j]?=J (.own e ys)∧((jI l args).getD i .undef).cells[j]?=J (.d (.sl e ys))
 |[],args,i,j=>.inl rfl|(a,b)::l,args,i,j=>by
  simp only[jI];have h1:((args.set a (nw (args.getD a .undef) b)).getD i .undef).cells[j]?=(args.getD i .undef).cells[j]? ∨∃e ys,(args.getD i .undef).cells[j]?=J (.own e ys)∧((args.set a (nw (args.getD a .undef) b)).getD i .undef).cells[j]?=J (.d (.sl e ys)):=by grind [ahE]
  rcases Wl l (args.set a (nw (args.getD a .undef) b)) i j with h2|⟨e,ys,h2,h3⟩
  rw[h2];exact h1;grind
theorem Wm:∀(l:L (Nat×Nat))(args:L SV),(jI l args).length=args.length|[],_=>rfl|(i,j)::l,args=>by simp[jI,Wm l]
def yE(ks:L Key)(ω:Nat→Option cj)(b:Nat):Option cj:=
 match ω b with|some (.tmp 0,j)=>J (.tmp 0,j)|_=>eW ks ω b
def ahF{ks:L Key}{b:Nat}{g:cj}(h:yE ks ω b=J g):∃g',ω b=J g':=by grind [yE,eW]
def ahG{P:dr}{N:Nat}{w0:World}{vals:bv az}{iV:Key→Option Nat}{f:Nat→Option cj}{Z0:Nat→Prop}{args:L SV}{r:pC}{fn:Func}{nb:Nat}
  (hT:fT P cfg)(h:Rel (cm P N w0 vals iV f Z0) β ω Z s a w)(hsz:vals.size=args.length)(hok:args.all jO=W){e0:Act}{s0:St}{w1:World}
  (hent:∀i,bj (aH (cm P 0 w0 vals iV f Z0) iV Z0 s0 e0 w1) (vals.getD i undef) (args.getD i .undef))
  (F:∀k b,iV k=J b→∃i,i<nb∧k=.inb i)
  {s':St}(he:(vR cfg fn.results.toList nb).exec s=J ((r.v,r.boxes),s'))(G:∀i,i<args.length→(s' (.arg i)).v=(jI r.bR args).getD i .undef):
  ∃u β' ω' Z',(results fn a.tmps).run P w=.ok u w∧Rel (cm P 1 w0 vals iV f Z0) β' ω' Z' (dL args r) {tmps:=#[u],defers:=[]} w:=by
 unfold vR at he
 obtain⟨vs,s1,h1,R⟩:=aI he
 obtain⟨hs1,us,Bs,hvs⟩:=ahu (K:=cm P N w0 vals iV f Z0) hT h _ _ _ h1
 rw[hs1]at R
 generalize hks:sH nb (vs.flatMap SV.cells)=ks at R
 obtain⟨_,s2,h2,oG⟩:=aI R
 obtain⟨F5,Z1,r1,v1⟩:=Wd _ _ _ _ _ _ h h2 hvs
 obtain⟨vs1,s3,h3,Bo⟩:=aI oG
 obtain⟨VM,Z2,r2,k2,v2⟩:=ahy _ _ _ _ _ _ _ r1 v1 h3
 have hv:=ahz v2
 obtain⟨v3,s4,h4,yu⟩:=aI Bo
 obtain⟨S,Z3,n,k3,p3⟩:=Ud r2 hv.1 hv.2 h4
 obtain⟨bs,s5,h5,Uo⟩:=aI yu
 obtain⟨hs5,yx,Wn⟩:=Vb _ s5 bs h5
 rw[hs5]at Uo
 obtain⟨v5,s6,h6,he6⟩:=aI Uo
 obtain⟨hv6,MV⟩:=aQ he6
 obtain⟨M0,B,hout⟩:=ahB h6
 have hv7:r.v=v5:=bz Prod.fst hv6
 have hb7:r.boxes=bs:=bz Prod.snd hv6
 have hs':s'=s4:=by rw[MV,M0]
 rw[hs']at G
 have hnd:ks.Nodup:=by grind [ahC]
 have hinb:∀i,i<nb→ks[i]?=J (.inb i):=λi hi=>by grind [ahD]
 have hidx:∀i,i<nb→fB ks β (.inb i)=β (.inb i):=λi hi=>by
  have:=pS (eA (hinb i hi)) β
  grind [pT]
 refine⟨sF us,fB ks β,yE ks S,Z3,ahv (K:=cm P N w0 vals iV f Z0) Bs,?_⟩
 have H:∀(k:Key)(cs':L C),(dL args r (.box k)).v=.agg cs'→∃i k' cs,k=.inb i∧ks[i]?=J k'∧(s4 (.box k')).v=.agg cs∧cs'=cs.map (tc ks)∧cs.all (tok ks)=W:=by
  intro k cs hk
  cases k with
  |inb i=>
   grind [dL]
  |loc t=>simp[dL]at hk
  |esc t i=>simp[dL]at hk
 have hω:∀(i:Nat)(k':Key)(j:Option Nat)(b:Nat),ks[i]?=J k'→S b=J (.box k',j)→yE ks S b=J (.box (.inb i),j):=by
  grind [yE,eW,pT]
 have z:∀i,(dL args r (.arg i)).v=if i<args.length then(s4 (.arg i)).v else .undef:=by
  intro i
  show(jI r.bR args).getD i .undef=_
  grind [Wm]
 refine⟨rfl,⟨rfl,n.defers.2⟩,n.os,n.tape,n.output,n.base,n.frame,n.cD,n.ky,?_,?_,?_,?_,?_,?_,?_,?_⟩
 ·intro b Y
  rcases n.lA b Y with g|g|g|⟨i,j,e,ys,u0,g1,g2,g3⟩
  ·exact .inl g
  ·exact .inr (.inl g)
  ·exact .inr (.inr (.inl g))
  ·refine .inr (.inr (.inr ⟨i,j,e,ys,u0,?_,g2,g3⟩))
   have hi:i<args.length:=by
    rw[←hsz]
    by_cases hi:i<vals.size
    ·exact hi
    ·exfalso
     have M3:(flat (vals.getD i undef))[j]?=J u0:=g2
     simp_all [undef,flat]
   grind
 ·intro t
  cases t with
  |zero=>
   show bj _ (sF us) r.v
   rw[hv7]
   exact hout (aH (cm P N w0 vals iV f Z0) β Z3 s4 a w) (aH (cm P 1 w0 vals iV f Z0) (fB ks β) Z3 (dL args r) {tmps:=#[sF us],defers:=[]} w) (λc c' u m A=>m.1 _ _ _ _ _ _ _ _ _ _ A) _ p3.1
  |succ t=>exact trivial
 ·intro i
  rw[z]
  split
  ·rename_i hi
   refine bj.mv (λj c u m hu A=>?_) (n.args i)
   have y:=Wl r.bR args i j
   rw[←G i hi,m]at y
   have T:∀c0,(args.getD i .undef).cells[j]?=J c0→oL c0=W:=λc0 V=>by
    grind [jO,List.getElem_mem]
   cases c with
   |d x=>exact A
   |own e xs=>exact A
   |dead=>trivial
   |da xs=>exact A
   |_=>
    rcases y with y|⟨e,ys,_,y⟩
    ·have V:=y.symm
     obtain⟨u',q1,q2⟩:=(hent i).cell V
     have D:=T _ V
     first
      |(cases D;done)
      |(obtain⟨b0,f1,_⟩:=q2
        obtain⟨i0,hi0,rfl⟩:=F _ _ f1
        obtain⟨b,f2,f3⟩:=A
        exact⟨b,by grind,f3⟩)
      |(obtain⟨vs0,f1,f2⟩:=q2
        obtain⟨vs2,f3,f4⟩:=A
        refine⟨vs2,f3,f4.ju λu p hp⟨b,t1,t2⟩=>?_⟩
        obtain⟨l,hl⟩:=lZ hp
        obtain⟨u0,_,b0,t3,_⟩:=f2.get hl
        grind)
    ·cases y
  ·trivial
 ·intro k
  cases o:(dL args r (.box k)).v with
  |agg cs=>
   obtain⟨i,k',X,rfl,hi,g1,rfl,g2⟩:=H k cs o
   obtain⟨b,ws,el,lo,hi',f1,f2,f3,f4,f5⟩:=di.cell n g1
   refine⟨b,ws,el,lo,hi',?_,hω i k' O b hi f2,f3,f4,f5.Gq λu c m A=>Vd (Vc g2 m) A⟩
   have:=pS (eA hi) β
   grind [pT]
  |undef=>
   show fB ks β k=O
   cases T4:fB ks β k with
   |none=>rfl
   |some b=>
    grind [Vi,dL]
  |one c=>cases k<;>simp only[dL]at o<;>(try (split at o))<;>cases o
  |aX c=>cases k<;>simp only[dL]at o<;>(try (split at o))<;>cases o
 ·intro q j e xs u1 b1 A m hh E
  cases q with
  |tmp t=>
   cases t with
   |zero=>
    have Ng:r.v.cells[j]?=J (.own e xs):=m
    rw[hv7]at Ng
    obtain⟨c0,q1,q2⟩:=B.get Ng
    have:=q2.2 e xs rfl
    subst this
    have hp:=(p3.2 j _ _ q1 hh).2 e xs b1 rfl E
    simp_all [yE]
   |succ t=>simp[dL,SV.cells]at m
  |arg i=>simp[aD.isArg]at A
  |box k=>
   cases hv:(dL args r (.box k)).v with
   |agg cs=>
    obtain⟨i,k',X,rfl,hi,g1,rfl,g2⟩:=H k cs hv
    rw[hv]at m
    have m:(X.map (tc ks))[j]?=J (.own e xs):=m
    have hc0:X[j]?=J (.own e xs):=by
     grind [Vf]
    have T4:fB ks β (.inb i)=β k':=by
     have:=pS (eA hi) β
     grind [pT]
    have M8:bU (cm P N w0 vals iV f Z0) β a w (.box k') j=J u1:=by
     simp_all [bU]
    obtain⟨p1,p2⟩:=n.own (.box k') j e xs u1 b1 rfl (by rw[g1];exact hc0) M8 E
    grind
   |undef=>simp_all [SV.cells]
   |one c=>cases k<;>simp only[dL]at hv<;>(try (split at hv))<;>cases hv
   |aX c=>cases k<;>simp only[dL]at hv<;>(try (split at hv))<;>cases hv
 ·intro i j e xs u1 b1 m hh E
  rw[z]at m
  split at m
  ·exact n.gw i j e xs u1 b1 m hh E
  ·simp[SV.cells]at m
 ·intro b g Y
  obtain⟨g',hg'⟩:=ahF Y
  exact n.c9 b g' hg'
 ·intro k b Y
  obtain⟨i,hi,rfl⟩:=F k b Y
  rw[hidx i hi]
  exact n.mx _ b Y
end
end
theorem Wo(t:Nat):∀(args:List SV)(i:Nat),lk t (sJ i args)=if i≤t∧t<i+args.length then J (GI t (args.getD (t-i) .undef))else O|[],i=>by simp[sJ,lk]|v::vs,i=>by simp only[sJ,Nd];by_cases h:t=i;subst h;simp;rw[aK h,Wo t vs (i+1)];grind
theorem Wp:∀(a:List (List C))(i:Nat)(k:Key),mq k (sK i a)=match k with|.inb l=>if i≤l then a[l-i]? else O|_=>O
 |[],i,k=>by cases k<;>simp[sK,mq]
 |b::a,i,k=>by simp only[sK,mq];rw[Wp a (i+1) k];grind
section
variable{P:Program}{w:World}{vals:Array Value}{β:Key→Option Nat}{ω:Nat→Option cj}{Z:Nat→Prop}{args:List SV}{boxes:List (List C)}
def Wq(t:Nat):((yD args boxes).st (.tmp t)).v=if t<args.length then RV.copy {v:=args.getD t .undef} (.arg t)else .undef:=by show(lk t (sJ 0 args)).getD .undef=_;grind [Wo,GI]
def Ws(k:Key):((yD args boxes).st (.box k)).v=(cA args boxes (.box k)).v:=by
 show(match mq k (sK 0 boxes)with|some cs=>SV.agg cs|none=>.undef)=_
 grind [Wp,cA]
def GL(a:args.all jO=W){i j:Nat}{c:C}(b:(args.getD i .undef).cells[j]?=J c):oL c=W:=by
 rw[List.getD_eq_getElem?_getD]at b;cases hi:args[i]? with|none=>simp_all [SV.cells]|some v=>rw[hi]at b;have:=List.all_eq_true.1 a v (List.mem_of_getElem? hi);exact List.all_eq_true.1 this c (List.mem_of_getElem? b)
def ahK{N:Nat}(a:Rel (cm P 0 w vals β ω Z) β ω Z (cA args boxes) {tmps:=#[],defers:=[]} w)(G:vals.size=args.length)(y:args.all jO=W)(H:boxes.all (λb=>b.all (ic boxes.length))=W)(Y:args.length≤N):Rel (cm P N w vals β ω Z) β ω Z (yD args boxes).st {tmps:=vals++Array.replicate (N-vals.size) undef,defers:=[]} w:=by
 have z:∀(i j:Nat)(c:C)(u:Value),oL c=W→aH (cm P 0 w vals β ω Z) β Z (cA args boxes) {tmps:=#[],defers:=[]} w c u→aH (cm P N w vals β ω Z) β Z (yD args boxes).st {tmps:=vals++Array.replicate (N-vals.size) undef,defers:=[]} w c u:=by intro i j c u g h;cases c<;>first|(cases g;done)|exact h
 refine⟨?_,⟨rfl,a.defers.2⟩,a.os,a.tape,a.output,a.base,a.frame,a.cD,a.ky,?_,?_,?_,?_,?_,?_,a.c9,a.mx⟩;show(vals++Array.replicate (N-vals.size) undef).size=N;simp;omega;exact a.lA;intro t;rw[Wq];split;rename_i ht;have B:=a.copy (r:=.arg t) (a.args t) (λ_=>rfl);have A:(vals++Array.replicate (N-vals.size) undef).getD t undef=vals.getD t undef:=by simp_all [Array.getElem?_append_left]
 show bj _ ((vals++Array.replicate (N-vals.size) undef).getD t undef) _;rw[A];refine bj.mv (λj c u g K o=>?_) B.1;have m:=g;rw[FW,vu]at m;simp only at m;cases p:(args.getD t .undef).cells[j]? with
 |none=>grind|some c0=>
  rw[p]at m;simp only[Option.map_some,Nat.zero_add,Option.some.injEq]at m;have l:=GL y p;subst m;cases c0 with
  |own e xs=>exact o|aS=>cases l
  |ea=>cases l
  |da=>cases l
  |dead=>cases l
  |d x=>exact o|ptr k off=>exact o|cy f caps=>exact o
 trivial;intro i;refine bj.mv (λj c u g K o=>?_) (a.args i);exact z i j c u (GL y g) o;intro k;rw[Ws];have s:=a.boxes k;cases hv:(cA args boxes (.box k)).v with
 |agg cs=>
  let⟨b,ws,el,lo,hi,R,S,T,V,X⟩:=di.cell a hv;refine⟨b,ws,el,lo,hi,R,S,T,V,X.ju λu c g o=>agO (n:=boxes.length) (Vh ?_ g) o⟩;cases k with|inb i=>grind [cA]|loc t=>simp[cA]at hv|esc t i=>simp[cA]at hv
 |undef=>rw[hv]at s;exact s|one c=>rw[hv]at s;exact s.elim|aX c=>rw[hv]at s;exact s.elim
 intro r j e xs D E o g F q;cases r with
 |tmp t=>
  rw[Wq]at g;split at g;exfalso;rw[FW,vu]at g;cases p:(args.getD t .undef).cells[j]? with|none=>grind|some c0=>simp only at g;rw[p]at g;simp only[Option.map_some,Option.some.injEq]at g;exact Mq _ _ _ _ e xs g
  simp[SV.cells]at g
 |arg i=>simp[aD.isArg]at o|box k=>rw[Ws]at g;exact a.own (.box k) j e xs D E rfl g F q
 intro i j e xs D E g F q;exact a.gw i j e xs D E g F q
def GN(c:Rel (cm P 0 w vals β ω Z) β ω Z (cA args boxes) {tmps:=#[],defers:=[]} w):∀k b,β k=J b→∃i,i<boxes.length∧k=.inb i:=by
 intro k b a;have h:=c.boxes k;cases k with
 |inb i=>
  by_cases hi:i<boxes.length;exact⟨i,hi,rfl⟩;have hv:(cA args boxes (.box (.inb i))).v=.undef:=by simp[cA,List.getElem?_eq_none (Nat.le_of_not_lt hi)]
  rw[hv]at h;simp only[di]at h;rw[h]at a;cases a
 |loc t=>simp only[cA,di]at h;rw[h]at a;cases a
 |esc t i=>simp only[cA,di]at h;rw[h]at a;cases a
def gn(P:Program)(f:cY)(F:pD):Prop:=∀(args:List SV)(boxes:List (List C))(r:pC),F args boxes=J r→∀(w:World)(vals:Array Value)(β:Key→Option Nat)(ω:Nat→Option cj)(Z:Nat→Prop),vals.size=args.length→args.all jO=W→boxes.all (λb=>b.all (ic boxes.length))=W→Rel (cm P 0 w vals β ω Z) β ω Z (cA args boxes) {tmps:=#[],defers:=[]} w→dw P f vals w λe w'=>∃v a ω' Z',e=.returned v∧Rel (cm P 1 w vals β ω Z) a ω' Z' (dL args r) {tmps:=#[v],defers:=[]} w'
def ahL{P:Program}{f:cY}{fn:Func}{c:Code}(b:P.funcs[f]?=J fn)(a:(fn.name== "runtime.NumGoroutine")=I)(d:fn.body=J c)(args:Array Value)(w:World):(callFunc f args).run P w=.ok (.enter f args) w:=by simp_all [callFunc]
theorem oO{f:cY}{fn:Func}{c:Code}{F:pD}(i:P.funcs[f]?=J fn)(a:(fn.name== "runtime.NumGoroutine")=I)(j:fn.body=J c)(h:gn P f F):jP P f F:=λargs boxes r k w vals β ω Z d e g b=>.inl ⟨ahL i a j vals w,h args boxes r k w vals β ω Z d e g b⟩
end
open Go.ChangeShapes
def GQ(c:TypeId→L D→Prop):L (U×TypeId)→L D→Prop|[],ds=>ds=[]|(_,t)::r,ds=>∃a b,ds=a++b∧c t a∧GQ c r b
def mD(cfg:bg):U→TypeId→L D→Prop
 |0,_,_=>gT|n+1,t,ds=>match cfg.ti t with
  |some {kind:=.bool, ..}=>∃b,ds=[.bool b]|some {kind:=.int k, ..}=>∃x,ds=[.int k x]∧k.min≤x∧x≤k.max|some {kind:=.str, ..}=>∃s,ds=[.str s]∧s.length≤maxLen|some {kind:=.slice e, ..}=>match cfg.ti e with|some i=>ds=[.nil]∨∃xs,ds=[.sl i.size xs]∧xs.length≤maxLen∧∀x∈xs,mD cfg n e x|none=>gT
  |some {kind:=.struct fs, ..}=>GQ (mD cfg n) fs ds|_=>gT
def sL(cfg:bg)(p:TypeId→Bool):L (U×TypeId)→U→U→Bool
 |[],o,size=>o==size|(off,t)::r,o,size=>match cfg.ti t with|some i=>off==o&&p t&&sL cfg p r (o+i.size) size|none=>I
def nC(cfg:bg):U→TypeId→Bool
 |0,_=>I|n+1,t=>match cfg.ti t with
  |some {kind:=.bool,size, ..}=>size==1|some {kind:=.int _,size, ..}=>size==1|some {kind:=.str,size, ..}=>size==1|some {kind:=.slice e,size, ..}=>size==1&&nC cfg n e&&(match cfg.ti e with|some i=>decide (0<i.size)&& !isMap i.size|none=>I)
  |some {kind:=.struct fs,size, ..}=>sL cfg (nC cfg n) fs 0 size|_=>I
mutual
def sM:D→U|.str s=>s.length+1|.sl _ xs=>nD xs+1|_=>1
def gy:L D→U|[]=>0|d::r=>sM d+gy r
def nD:L (L D)→U|[]=>0|x::r=>gy x+nD r
end
def GR:∀(a b:L D),gy (a++b)=gy a+gy b|[],b=>by simp[gy]|d::a,b=>by simp[gy,GR a b];omega
structure pW(H:Type)where
 one:DataW H→Nat
 all:List (DataW H)→Nat
 str:∀b,one (.lit (.string b))=b.length+1
 slice:∀x y,one (.slice x y)=all x+all y+1
 agg:∀x,one (.agg x)=all x+1
 pos:∀d,1≤one d
 nil:all []=0
 cons:∀d r,all (d::r)=one d+all r
def Wt{α β:Type}{f:α→Q β}:∀{l:L α}{r:L β},l.mapM f=J r→r.length=l.length∧∀(i:U)(x:α),l[i]?=J x→∃y,r[i]?=J y∧f x=J y|[],r,h=>by grind|a::l,r,h=>by simp only[List.mapM_cons,Option.bind_eq_bind,Option.pure_def]at h;let⟨b,d,h⟩:=Tz.1 h;let⟨e,c,h⟩:=Tz.1 h;cases h;let⟨h1,h2⟩:=Wt c;grind
def Nh{w:World}{base:U}{a:Addr}{n:U}{cs:L Value}(h:w.cells? base a n=J cs):cs.length=n∧∀i,i<n→w.cell? (a.add i)=cs[i]? :=by unfold World.cells? at h;split at h;let⟨h1,h2⟩:=Wt h;simp only[List.length_range]at h1;refine⟨h1,λi hi=>?_⟩;let⟨y,b,c⟩:=h2 i i (by simp[hi]);rw[b];exact c;cases h
section
variable{H:Type}{enc:TypeId×Value→H}{P:Program}{w:World}{held:Bool}{cfg:bg}
def Wu(B:pW H):∀(l:L (iN H))(f:L (L D)),aG (λd x=>gy x≤B.one d) l f→nD f≤B.all l|[],[],_=>by simp[nD]|d::l,x::f,h=>by have:=Wu B l f h.2;have:=h.1;simp only[nD,B.cons];omega
def ahM(hT:fT P cfg)(B:pW H){c:TypeId→L D→Prop}{p:TypeId→Bool}{fuel:U}{cs:L Value}{size:U}(r:cs.length=size) (u:∀t cs x,p t=W→TA enc P w 0 (λ_=>W) held fuel t cs=J x→∃ds,aG (λv d=>a6 w (λb=>b<w.heap.size) d v) cs ds∧c t ds∧gy ds≤B.one x.1):
  ∀(fs:L Field)(o:U)(xs:L (iN H×L MemPlace)),sL cfg p (fs.map λf=>(f.offset,f.type)) o size=W→o≤size→
   xs.length=fs.length→(∀(i:U)(f:Field),fs[i]?=J f→TA enc P w 0 (λ_=>W) held fuel f.type ((cs.drop f.offset).take (P.cellsOf f.type))=xs[i]?)→
   ∃ds,aG (λv d=>a6 w (λb=>b<w.heap.size) d v) (cs.drop o) ds∧GQ c (fs.map λf=>(f.offset,f.type)) ds∧gy ds≤B.all (xs.map (·.1)):=by
 intro fs
 induction fs with
 |nil=>intro o xs e z k h;simp only[List.map_nil,sL,cT]at e;refine⟨[],?_,rfl,by simp[gy]⟩;rw[List.drop_eq_nil_of_le (by omega)];trivial
 |cons f fs m=>
  intro o xs e z k h;simp only[dO,sL]at e;split at e;rename_i i hi;simp only[Bool.and_eq_true,cT]at e;let⟨⟨h1,h2⟩,h3⟩:=e;have n:P.cellsOf f.type=i.size:=by let⟨info,d,A,R,C,_⟩:=qQ (hT.T _ _ hi);simp[Program.cellsOf,A,C]
  obtain⟨x,xs',rfl⟩:∃x xs',xs=x::xs':=by
   cases xs with|nil=>simp at k|cons x xs'=>exact⟨x,xs',rfl⟩
  have s:=h 0 f rfl;simp only[fY]at s;let⟨a,E,F,S⟩:=u _ _ _ h2 s;rw[n,h1]at E;have q:∀(l:L (U×TypeId))(o:U),sL cfg p l o size=W→o≤size:=by
   intro l;induction l with|nil=>simp_all [sL]|cons y l G=>grind [sL]
  have j:=q _ _ h3;let⟨b,V,K,X⟩:=m (o+i.size) xs' h3 j (by simpa using k) (λl g N=>by have:=h (l+1) g (by simpa using N);simpa using this);refine⟨a++b,?_,⟨a,b,rfl,F,K⟩,?_⟩;grind [List.drop_drop,List.take_append_drop,aG.append];rw[GR,dO,B.cons];omega;cases e
def ahN(hT:fT P cfg)(B:pW H):∀(n:U)(t:TypeId)(fuel:U)(cs:L Value)(x:iN H×L MemPlace),nC cfg n t=W→TA enc P w 0 (λ_=>W) held fuel t cs=J x→∃ds,aG (λv d=>a6 w (λb=>b<w.heap.size) d v) cs ds∧mD cfg n t ds∧gy ds≤B.one x.1:=by
 intro n;induction n with
 |zero=>simp_all [nC]|succ n ih=>
  intro t fuel cs x hp h;simp only[nC]at hp;simp only[mD];split at hp;rename_i size bytes zero c;let⟨d,hd,hk,_⟩:=dP (w:=w) (hT.T _ _ c);have:=Mw hk;subst this;obtain⟨b,rfl,rfl⟩:=DataW.trod_bool hd h;exact⟨[.bool b],⟨rfl,trivial⟩,⟨_,rfl⟩,by simpa[gy,sM]using B.pos _⟩;rename_i size bytes k zero c;let⟨d,hd,hk,_⟩:=dP (w:=w) (hT.T _ _ c);have:=vz hk;subst this;obtain⟨b,rfl,rfl,hwf⟩:=DataW.trod_int hd h;simp only[Lit.wf,Bool.and_eq_true,eh]at hwf;exact⟨[.int k b],⟨rfl,trivial⟩,⟨_,rfl,hwf⟩,by simpa[gy,sM]using B.pos _⟩;rename_i size bytes zero c;let⟨d,hd,hk,_⟩:=dP (w:=w) (hT.T _ _ c);have:=qR hk;subst this;obtain⟨b,rfl,rfl,hwf⟩:=DataW.trod_string hd h;refine⟨[.str b.data.toList],⟨?_,trivial⟩,⟨_,rfl,?_⟩,?_⟩;simp[a6];simp_all;simp[gy,sM,B.str];rename_i size bytes e zero c;let⟨d,hd,hk,_⟩:=dP (w:=w) (hT.T _ _ c);have:=my hk;subst this;simp only[Bool.and_eq_true]at hp;let⟨⟨_,hpe⟩,g⟩:=hp;split at g;rename_i i hi;obtain⟨g,R⟩:0<i.size∧isMap i.size=I:=by simpa using g
  have r:P.cellsOf e=i.size:=by let⟨info,d,s,C,S,_⟩:=qQ (hT.T _ _ hi);simp[Program.cellsOf,s,S]
  rcases DataW.trod_slice hd h with⟨rfl,rfl⟩|⟨a,len,cap,elems,rest,m,_,rfl,rfl,hb,hl,hm,q,V,X,_⟩
  exact⟨[.nil],⟨rfl,trivial⟩,.inl rfl,by simpa[gy,sM]using B.pos _⟩;let⟨hrl,o⟩:=X rfl;rw[r]at V o;have each:∀(j:U)(y:iN H×L MemPlace),elems[j]?=J y→∃ds cs,w.cells? 0 (a.add (j*i.size)) i.size=J cs∧aG (λv d=>a6 w (λb=>b<w.heap.size) d v) cs ds∧mD cfg n e ds∧gy ds≤B.one y.1:=by grind [Tz]
  let⟨f,K⟩:=Go.Deep.choose_lt (α:=L D) (n:=len) (p:=λj ds=>∃y cs,elems[j]?=J y∧w.cells? 0 (a.add (j*i.size)) i.size=J cs∧aG (λv d=>a6 w (λb=>b<w.heap.size) d v) cs ds∧mD cfg n e ds∧gy ds≤B.one y.1) (λj hj=>by grind);have u:∀(j:U)(x:L D),((hY len).map f)[j]?=J x→j<len∧x=f j:=by grind
  have z:cap=0∨a.spot=O∧a.block<w.heap.size:=by
   rcases Nat.eq_zero_or_pos cap with hc|hc
   exact .inl hc;right;have A:∃v,w.cell? a=J v:=(by by_cases h0:0<len;let⟨y,cs,q1,E,Y⟩:=K 0 h0;let⟨s,C⟩:=Nh E;grind [Addr.add];have:=o 0 (by omega);rw[du (by omega)]at this;let⟨cs,E,_⟩:=Tz.1 this;let⟨s,C⟩:=Nh E;grind [Addr.add]);let⟨v,hv⟩:=A;unfold World.cell? at hv;split at hv;rename_i hw;split at hv;cases hv;rename_i hs;exact⟨by simpa using hs,(oa.1 hw).1⟩;cases hv
  refine⟨[.sl i.size ((hY len).map f)],⟨(a6.fR R).2 ⟨a,cap,by simp,z,by simpa using hl,?_⟩,trivial⟩,.inr ⟨_,rfl,by grind,λx N=>?_⟩,?_⟩;refine cH.c8 λj x N=>?_;obtain⟨hj,rfl⟩:=u j x N;let⟨y,cs,q1,E,Y,q4,q5⟩:=K j hj;let⟨s,C⟩:=Nh E;have Z:(f j).length=i.size:=by rw[←Y.length,s]
  refine⟨Z,ed.c8 λl d hd=>?_⟩;let⟨v,e1,e2⟩:=Y.get hd;grind [pQ,vt];grind;have F:aG (λ(d:iN H)(x:L D)=>gy x≤B.one d) (elems.map (·.1)) ((hY len).map f):=by grind [aG.c8]
  have:=Wu B _ _ F;simp only[gy,sM,B.slice];omega;cases g;rename_i size bytes fs zero c;let⟨d,hd,hk,_⟩:=dP (w:=w) (hT.T _ _ c);obtain⟨fields,rfl,rfl⟩:=Ba hk;obtain⟨xs,m,_,rfl,q,hxl,G⟩:=DataW.trod_struct hd h;have r:P.cellsOf t=size:=by let⟨info,d,s,C,S,_⟩:=qQ (hT.T _ _ c);simp_all [Program.cellsOf]
  let⟨ds,s,C,S⟩:=ahM hT B (q.trans r) (λt cs x hp N=>ih t m cs x hp N) fields.toList 0 xs hp (fm _) (by simpa using hxl) (λi f K=>G i f (by simpa using K));grind [pW.agg];cases hp
def pX(cfg:bg)(t:TypeId)(ds:L D):SV:=
 match cfg.ti t with|some i=>if i.kind.agg then .agg (ds.map .d)else .one (.d (ds.headD .nil))|none=>.undef
def Wv{α β c:Type}{R:α→c→Prop}(f:β→c):∀{as:L α}{d:L β},aG (λa b=>R a (f b)) as d→aG R as (d.map f)|[],[],_=>trivial|_::_,_::_,h=>⟨h.1,Wv f h.2⟩
def ahO{r:Reach}{base:U}{t:TypeId}{v:Value}{d:TypeDesc}(hd:P.underlying t=J d)(hk:(tk d).agg=I)(a:tk d=.bool∨(∃k,tk d=.int k)∨tk d=.str∨∃e,tk d=.slice e)(h:Value.okWide P w r base t v):fH v=W:=by
 have:∃x,d=.bool∨d=.string∨(∃k,d=.int k)∨d=.slice x:=by
  rcases a with h|⟨k,h⟩|h|⟨e,h⟩
  ·exact⟨0,.inl (Mw h)⟩
  ·exact⟨0,.inr (.inr (.inl ⟨k,vz h⟩))⟩
  ·exact⟨0,.inr (.inl (qR h))⟩
  ·exact⟨e,.inr (.inr (.inr (my h)))⟩
 obtain⟨x,h1⟩:=this
 rcases h1 with rfl|rfl|⟨k,rfl⟩|rfl<;>
 ·simp only[Value.okWide,hd,Cell.okWide,Cell.ok]at h
  cases v<;>first|rfl|(exact h.elim)
def ahP(hT:fT P cfg)(B:pW H){n:U}{t:TypeId}{v:Value}{d:iN H}{ps:L MemPlace}{r:Reach}{base:U}(hp:nC cfg n t=W)(f:Value.okWide P w r base t v)(h:DataW.Trod enc P w 0 (λ_=>W) held t v d ps):∃ds,mD cfg n t ds∧gy ds≤B.one d∧jO (pX cfg t ds)=W∧∀(K:Ctx)(β:Key→Q U)(s:St)(a:Act),bj (aH K β (λb=>b<w.heap.size) s a w) v (pX cfg t ds):=by
 let⟨fuel,m⟩:=h;let⟨ds,h1,h2,h3⟩:=ahN hT B n t fuel _ _ hp m;refine⟨ds,h2,h3,?_⟩;cases n with|zero=>simp[nC]at hp|succ n=>
 have c:∀(i:TI),cfg.ti t=J i→i.kind.agg=I→(i.kind=.bool∨(∃k,i.kind=.int k)∨i.kind=.str∨∃e,i.kind=.slice e)→jO (pX cfg t ds)=W∧∀(K:Ctx)(β:Key→Q U)(s:St)(a:Act),bj (aH K β (λb=>b<w.heap.size) s a w) v (pX cfg t ds):=by
  intro i hi l hk;let⟨d,hd,g,_⟩:=dP (w:=w) (hT.T _ _ hi);rw[←g]at l hk;have j:=ahO hd l hk f;rw[ku j]at h1;match ds,h1 with|[x],h1=>rw[g]at l;simp only[pX,hi,l];exact⟨rfl,λK β s a=>⟨j,h1.1⟩⟩
 simp only[nC]at hp;split at hp;rename_i hi;exact c _ hi rfl (.inl rfl);rename_i hi;exact c _ hi rfl (.inr (.inl ⟨_,rfl⟩));rename_i hi;exact c _ hi rfl (.inr (.inr (.inl rfl)));rename_i hi;exact c _ hi rfl (.inr (.inr (.inr ⟨_,rfl⟩)));rename_i size bytes fs zero hi;let⟨d,hd,hk,_⟩:=dP (w:=w) (hT.T _ _ hi);obtain⟨fields,rfl,rfl⟩:=Ba hk;simp only[Value.okWide,hd]at f;obtain⟨cs,rfl,_⟩:=f;simp only[pX,hi,TK.agg,bf];refine⟨by simp[jO,SV.cells,oL],λK β s a=>⟨cs,rfl,Wv _ h1⟩⟩;cases hp
end
open Go.RowKit
def iW(cfg:bg):L TypeId→L (L D)→L SV|t::ts,ds::a=>pX cfg t ds::iW cfg ts a|_,_=>[]
section
variable{H:Type}{enc:TypeId×Value→H}{P:Program}{W:World}{cfg:bg}
theorem Ww:∀(ts:L TypeId)(a:L (L D)),a.length=ts.length→(iW cfg ts a).length=ts.length|[],[],_=>rfl|t::ts,ds::a,h=>by simp[iW,Ww ts a (by simpa using h)]|[],_::_,h=>by simp at h|_::_,[],h=>by simp at h
def ahQ(hT:fT P cfg)(B:pW H)(n:U){r:Reach}{base:U}:∀(ts:L TypeId)(vs:L Value)(ds:L (iN H))(ps:L MemPlace),(∀t∈ts,nC cfg n t=true)→(∀(j:U)t v,ts[j]?=J t→vs[j]?=J v→Value.okWide P W r base t v)→aeO enc P W 0 (λ_=>true) true ts vs ds ps→
  ds.length=ts.length∧vs.length=ts.length∧∃c,c.length=ts.length∧aG (λt x=>mD cfg n t x) ts c∧nD c≤B.all ds∧(iW cfg ts c).all jO=true∧
    ∀(K:Ctx)(β:Key→Q U)(s:St)(a:Act)(i:U),bj (aH K β (λb=>b<W.heap.size) s a W) (vs.getD i undef) ((iW cfg ts c).getD i .undef):=by
 intro ts
 induction ts with
 |nil=>intro vs ds ps _ _ h;obtain⟨rfl,rfl,_⟩:=trodAll_nil h;exact⟨rfl,rfl,[],rfl,trivial,by simp[nD],rfl,λ_ _ _ _ i=>by simp[iW,bj]⟩
 |cons t ts l=>
  intro vs ds ps hp e h;obtain⟨v,f,d,g,p,q,rfl,rfl,rfl,hd,m⟩:=trodAll_cons h;let⟨x,o,C,D,u⟩:=ahP (w:=W) hT B (hp t (jq ..)) (e 0 t v rfl rfl) hd;let⟨y,z,c,h1,h2,h3,E,A⟩:=l f g q (λt k=>hp t (gU _ k)) (λj t v k hv=>e (j+1) t v (by simpa using k) (by simpa using hv)) m;refine⟨by simp[y],by simp[z],x::c,by simp[h1],⟨o,h2⟩,?_,?_,λK β s a i=>?_⟩;simp only[nD,B.cons];omega;grind [iW];cases i with|zero=>exact u K β s a|succ i=>exact A K β s a i
def ahR{g:World}(i:laidOutB P=true)(j:cn W.heap.size W g):∀(ts:L TypeId)(vs:L Value)(ds:L (iN H))(ps:L MemPlace),(∀t∈ts,P.readableRec t=true∧t<P.types.size)→(∀x∈ps,x.block<W.heap.size)→aeO enc P W 0 (λ_=>true) true ts vs ds ps→aeO enc P g 0 (λb=>decide (b<W.heap.size)) true ts vs ds ps:=by
 intro ts;induction ts with
 |nil=>intro vs ds ps _ _ h;obtain⟨rfl,rfl,rfl⟩:=trodAll_nil h;exact trodAll_mk0
 |cons t ts k=>intro vs ds ps hp a h;obtain⟨v,c,d,e,p,q,rfl,rfl,rfl,hd,l⟩:=trodAll_cons h;let⟨m,n⟩:=hp t (jq ..);exact trodAll_cons_mk (Below.trod i m n hd j λx f=>a x (List.mem_append_left _ f)) (k c e q (λt o=>hp t (gU _ o)) (λx f=>a x (List.mem_append_right _ f)) l)
def ahS{base:U}{args:bv Value}{ds gs:L (iN H)}{s:L MemPlace}{f:cY}{fn:Func}{sp:ChangeSpec}{F:pD}{n:U}{ts:L TypeId}{tb:TypeId} (hF:gn P f F)(hT:fT P cfg)(m:sp.vars=[])(o:fn.params.toList=ts)(R:fn.resultTypes=#[tb])(z:P.underlying tb=J .bool) (u:∀t∈ts,nC cfg n t=true)(S:laidOutB P=true)(T:∀t∈ts,P.readableRec t=true∧t<P.types.size)(B:pW H) (E:∀a,a.length=ts.length→aG (λt x=>mD cfg n t x) ts a→nD a≤B.all ds→F (iW cfg ts a) []=J {v:=.one (.d (.bool true)),boxes:=[],bR:=[]}) (G:∀ds:L (iN H),ds.length=ts.length→sp.fn H (ds++[])={results:=[.lit (.bool true)],args:=ds}) (c:(∀g l,(g,l)∈su P→g<W.heap.size∧oD W g l)∧∀g,g∈vq P→g<W.heap.size∧vr W g) (K:∀(j:U)t v,fn.params[j]?=J t→args[j]?=J v→Value.okWide P W .any base t v) (V:DataW.Whole enc P fn.params.toList sp.vars I W args.toList ds gs s):dw P f args W λe W'=>∃v,e=.returned v∧sp.post enc P fn I true I I W args v W':=by
 have hlt:=V.lt;have X:=V;obtain⟨p,q,hA,hV,rfl,hfz,hnd⟩:=V;rw[m]at hV;obtain⟨rfl,rfl⟩:=trodVars_none hV;rw[o]at hA;let⟨l1,l2,a,h1,h2,h3,h4,h5⟩:=ahQ hT B n ts args.toList ds p u (λj t v ht hv=>K j t v (by grind) (by simpa using hv)) hA;have N:Rel (cm P 0 W args (λ_=>O) (λ_=>O) (λb=>b<W.heap.size)) (λ_=>O) (λ_=>O) (λb=>b<W.heap.size) (cA (iW cfg ts a) []) {tmps:=#[],defers:=[]} W:=by
  have A:∀k,(cA (iW cfg ts a) [] (.box k)).v=.undef:=by intro k;cases k<;>simp[cA]
  refine⟨rfl,⟨rfl,λg l C=>⟨(c.1 g l C).1,(c.1 g l C).1,λh=>h rfl,(c.1 g l C).2⟩,λg C=>⟨(c.2 g C).1,(c.2 g C).1,λh=>h rfl,(c.2 g C).2⟩⟩,rfl,rfl,rfl,dD _,λ_ _ _=>rfl,λ_ h=>h,λ_ h=>h,λb hb=>.inl hb,?_,?_,?_,?_,?_,?_,λ_ _ h=>h⟩;intro t;exact trivial;intro i;have:=h5 (cm P 0 W args (λ_=>O) (λ_=>O) (λb=>b<W.heap.size)) (λ_=>O) (cA (iW cfg ts a) []) {tmps:=#[],defers:=[]} i;have e:args.toList.getD i undef=args.getD i undef:=by simp_all
  rw[e]at this;exact this;intro k;rw[A];exact rfl;intro r j e xs u1 b1 y Y hh Z;cases r with|tmp t=>simp[cA,SV.cells]at Y|arg i=>simp[aD.isArg]at y|box k=>simp_all [SV.cells]
  intro i j e xs u1 b1 Y hh Z;exfalso;have Ng:((iW cfg ts a).getD i .undef).cells[j]?=J (.own e xs):=Y;have key:∀(ts:L TypeId)(a:L (L D))(i j:U),((iW cfg ts a).getD i .undef).cells[j]?≠J (.own e xs):=by
   intro ts;induction ts with
   |nil=>intro a i j;simp[iW,SV.cells]
   |cons t ts ih=>
    intro a i j;cases a with
    |nil=>simp[iW,SV.cells]|cons x a=>
     cases i with|zero=>grind [iW,pX,SV.cells]|succ i=>simpa[iW]using ih a i j
  grind;intro b g h;cases h
 have hsz:args.size=(iW cfg ts a).length:=by grind [Ww]
 refine(hF _ _ _ (E a h1 h2 h3) W args _ _ _ hsz h4 rfl N).mono ?_;rintro e W' ⟨v,β',ω',Z',rfl,y⟩;have hv:v=.bool true:=by have:=y.tmps 0;exact this.2
 subst hv;have w:cn W.heap.size W W':=⟨y.os,y.tape,y.output,y.base,λk hk=>y.frame k hk (λh=>h rfl)⟩;refine⟨_,rfl,ds,[],p++[],[],p,[],X,?_,?_,?_,w.frame _,λh=>by cases h⟩;rw[G ds l1,R];exact trodAll_cons_mk (shut_bool z _) trodAll_mk0;simp_all [ahR];rw[G ds l1,m];rfl
end
open Go
def akG{P:dr}{w:bD}{g:U}{t:aW}{zero:bv az}(h:w.ShapedOpen P)(i:g<P.globals.size) (j:((begin P (λ_ _=>0) default).world.heap[g]?).bind Obj.row?=J (zero,t))(o:zero.size=1) (k:P.buildable t=W)(l:P.cellTypes P.depth t=J [t])(m:P.underlying t=J (.int .i64)):g<w.heap.size∧vr w g:=by
 let⟨cs,f,p,n⟩:=h.1 g zero t i j;let⟨ts,c,_,d⟩:=n k;rw[l]at c;cases c;have h1:0<cs.size:=by omega
 let⟨u,e,a⟩:=d 0 cs[0] (by simp[h1]);have:u=t:=by simpa using e.symm
 subst this;have b:w.cell? ⟨g,0,O⟩=J cs[0]:=by simp[World.cell?,f,h1]
 refine⟨(oa.1 f).1,?_⟩;unfold vr;rw[b];unfold Cell.ok at a;rw[m]at a;cases hv:cs[0]<;>rw[hv]at a<;>first|(obtain⟨rfl,_⟩:=a;exact⟨_,rfl⟩)|simp at a
def xo:Q TypeDesc→Sc→ao|some (.int k'),.int k=>decide (k'=k)|some .bool,.bool=>W|some .string,.str=>W|_,_=>I
def z8(P:dr):L Field→L Sc→U→ao|[],[],_=>W|f::fs,k::sh,j=>f.name != "_" &&f.offset==j&&xo (P.underlying f.type) k&&z8 P fs sh (j+1)|_,_,_=>I
def P4{w:bD}{Z:U→Prop}{us:L az}{j:U}{d:D}{ds:L D}(h:DL w Z (us.drop j) (d::ds)):∃v,us[j]?=J v∧a6 w Z d v∧DL w Z (us.drop (j+1)) ds:=by
 have e:(us.drop j)[0]?=us[j]? :=by grind
 have a:us.drop (j+1)=(us.drop j).drop 1:=by rw[List.drop_drop]
 rw[←e,a];generalize us.drop j=l at h;match l,h with|v::l,h=>exact⟨v,rfl,h.1,h.2⟩
def ZD{P:dr}{w:bD}{Z:U→Prop}(d:U)(xs ys:bv az):∀(fs:L Field)(sh:L Sc)(j:U)(ds es:L D),z8 P fs sh j=W→bM sh ds=W→bM sh es=W→DL w Z (xs.toList.drop j) ds→DL w Z (ys.toList.drop j) es→(TB (d+1) xs ys fs).run P w=.ok (cP ds es) w
 |[],sh,j,ds,es,i,h1,h2,_,_=>by
  cases sh with
  |cons=>cases i
  |nil=>
   cases ds with
   |cons=>cases h1
   |nil=>
    cases es with
    |cons=>cases h2
    |nil=>simp[TB,cP]
 |f::fs,sh,j,ds,es,i,h1,h2,h3,p=>by
  cases sh with
  |nil=>cases i
  |cons k sh=>
   simp only[z8,bG,bne_iff_ne,cT]at i;let⟨⟨⟨f1,f2⟩,f3⟩,f4⟩:=i;cases ds with
   |nil=>cases k<;>cases h1
   |cons a ds=>
    cases es with
    |nil=>cases k<;>cases h2
    |cons b es=>
     let⟨u,q,u2,u3⟩:=P4 h3;let⟨v,v1,g,s⟩:=P4 p;have t:xs[f.offset]?=J u:=(by rw[f2];simpa using q);have hv:ys[f.offset]?=J v:=(by rw[f2];simpa using v1);have key:P.plainKey f.type=W→(∀(r:ao),r=iD a b→(Fe (d+1) f.type u v).run P w=.ok r w)→bM sh ds=W→bM sh es=W→(TB (d+1) xs ys (f::fs)).run P w=.ok (cP (a::ds) (b::es)) w:=by
      intro hp h m n;have x:=ZD d xs ys fs sh (j+1) ds es f4 m n u3 s;simp only[TB,ne_eq,f1,not_false_eq_true,bf,cL,aeR w hp t,aeR w hp hv,cO,h _ rfl];cases o:iD a b with|true=>simp[cP,o,x]|false=>simp[cP,o]
     cases k with
     |int k=>
      cases a<;>simp only[bM,bG,eh,bh]at h1;cases b<;>simp only[bM,bG,eh,bh]at h2;obtain⟨rfl,m⟩:=h1;let⟨e,n⟩:=h2;subst e;cases c:P.underlying f.type with
      |none=>rw[c]at f3;cases f3
      |some l=>rw[c]at f3;cases l<;>first|(simp only[xo,bh]at f3;done)|skip;refine key (by simp[Fp,c]) (λr h=>?_) m n;have u2:u=_:=u2;have g:v=_:=g;subst h;rw[u2,g,run_equalIn_int w d f.type _ _ _ _ c];rfl
     |bool=>
      cases a<;>simp only[bM,bh]at h1;cases b<;>simp only[bM,bh]at h2;cases c:P.underlying f.type with
      |none=>rw[c]at f3;cases f3
      |some l=>rw[c]at f3;cases l<;>first|(simp only[xo,bh]at f3;done)|skip;refine key (by simp[Fp,c]) (λr h=>?_) h1 h2;have u2:u=_:=u2;have g:v=_:=g;subst h;rw[u2,g,run_equalIn_bool' w d f.type _ _ c];rfl
     |str=>
      cases a<;>simp only[bM,bh]at h1;cases b<;>simp only[bM,bh]at h2;cases c:P.underlying f.type with
      |none=>rw[c]at f3;cases f3
      |some l=>rw[c]at f3;cases l<;>first|(simp only[xo,bh]at f3;done)|skip;refine key (by simp[Fp,c]) (λr h=>?_) h1 h2;have u2:u=_:=u2;have g:v=_:=g;grind [run_equalIn_string,ByteArray.toList_eq,iD]
def ZE{P:dr}{w:bD}{Z:U→Prop}(em:ao)(d:U)(xs:bv az):∀(fs:L Field)(sh:L Sc)(j:U)(ds:L D),z8 P fs sh j=W→bM sh ds=W→
  DL w Z (xs.toList.drop j) ds→(forIn (m:=Sem) fs xY λf _=>do
   if f.name≠ "_" then do
    ls em (d+1) f.type (←part f.type xs f.offset)
    pure (Fk xY)
   else pure (Fk xY)).run P w=.ok xY w
 |[],sh,j,ds,e,h1,_=>by simp|f::fs,sh,j,ds,e,h1,h3=>by
  cases sh with
  |nil=>cases e
  |cons k sh=>
   simp only[z8,bG,bne_iff_ne,cT]at e;let⟨⟨⟨f1,f2⟩,f3⟩,f4⟩:=e;cases ds with
   |nil=>cases k<;>cases h1
   |cons a ds=>
    let⟨u,g,u2,u3⟩:=P4 h3;have i:xs[f.offset]?=J u:=by rw[f2];simpa using g
    have key:P.plainKey f.type=W→(ls em (d+1) f.type u).run P w=.ok () w→bM sh ds=W→(forIn (m:=Sem) (f::fs) xY λf _=>do
      if f.name≠ "_" then do
       ls em (d+1) f.type (←part f.type xs f.offset)
       pure (Fk xY)
      else pure (Fk xY)).run P w=.ok xY w:=by
     intro hp l h
     have n:=ZE em d xs fs sh (j+1) ds f4 h u3
     simp_all [aeR]
    cases k with
    |int k=>
     cases a<;>simp only[bM,bG,eh,bh]at h1;cases b:P.underlying f.type with
     |none=>rw[b]at f3;cases f3
     |some c=>rw[b]at f3;cases c<;>first|(simp only[xo,bh]at f3;done)|skip;refine key (by simp[Fp,b]) ?_ h1.2;have u2:u=_:=u2;rw[u2];simp[ls,jF b]
    |bool=>
     cases a<;>simp only[bM,bh]at h1;cases b:P.underlying f.type with
     |none=>rw[b]at f3;cases f3
     |some c=>rw[b]at f3;cases c<;>first|(simp only[xo,bh]at f3;done)|skip;refine key (by simp[Fp,b]) ?_ h1;have u2:u=_:=u2;rw[u2];simp[ls,jF b]
    |str=>
     cases a<;>simp only[bM,bh]at h1;cases b:P.underlying f.type with
     |none=>rw[b]at f3;cases f3
     |some c=>rw[b]at f3;cases c<;>first|(simp only[xo,bh]at f3;done)|skip;refine key (by simp[Fp,b]) ?_ h1;have u2:u=_:=u2;rw[u2];simp[ls,jF b]
def Ej{P:dr}{t:aW}{sh:L Sc}(h1:P.underlying t=J (.struct (P.fieldsOf t)))(h2:P.stoodInHeld t=I)(h3:P.eqGuardType P.depth t=I)(a:z8 P (P.fieldsOf t).toList sh 0=W):Bf P t sh:=by
 have b:∀(w:bD)(Z:U→Prop)(xs ys:bv az)(ds es:L D),DL w Z xs.toList ds→DL w Z ys.toList es→bM sh ds=W→bM sh es=W→(Fe 10000 t (.agg xs) (.agg ys)).run P w=.ok (cP ds es) w:=by intro w Z xs ys ds es c hy f1 f2;rw[show(10000:U)=9998+1+1 from rfl,run_equalIn_struct w (9998+1) t xs ys h1 h2];exact ZD 9998 xs ys _ sh 0 ds es a f1 f2 (by simpa using c) (by simpa using hy)
 refine⟨?_,?_,?_,⟨_,h1⟩⟩;grind [cL,run_eqGuard_agg,cO,run_eql_struct,run_neq_struct];intro w ds es f1 f2;exact b w (λ_=>cZ) _ _ ds es (by simpa using sy f1) (by simpa using sy f2) f1 f2;intro w ds em f1;rw[show(10000:U)=9998+1+1 from rfl];unfold ls;simp only[cL,jF h1,cO,qT];have:=ZE (P:=P) (w:=w) (Z:=λ_=>cZ) em 9998 (ds.map gm).toArray (P.fieldsOf t).toList sh 0 ds a f1 (by simpa using sy f1);simp_all
end Go.Vs
namespace Go.Ve
open Go.Vs
inductive Ty where
 |int(k:IntKind)|bool|str|sl(r:Ty)|pair(h t:Ty)
 |bB(u:Bool)(k v:Ty)
 |set(k:Ty)
 deriving DecidableEq,Repr,Inhabited
@[reducible] def Ty.T:Ty→Type|.int _=>M|.bool=>ao|.str=>L ai|.sl r=>Q (L r.T)|.pair h t=>h.T×t.T|.bB _ k v=>k.T×v.T|.set k=>k.T
def Ty.w:Ty→U|.pair h t=>h.w+t.w|.bB _ k v=>k.w+v.w|.set k=>k.w|_=>1
def Ty.agg:Ty→ao|.pair _ _=>W|_=>I
def Ty.e:Ty→U
 |.bB u k v=>match u with|true=>iO (ou k.w k.agg v.w v.agg)|false=>ou k.w k.agg v.w v.agg
 |.set k=>ou k.w k.agg 0 W|t=>t.w
def Ty.zero:(t:Ty)→t.T|.int _=>(0:M)|.bool=>I|.str=>([]:L ai)|.sl r=>(O:Q (L r.T))|.pair h t=>(h.zero,t.zero)|.bB _ k v=>(k.zero,v.zero)|.set k=>k.zero
def aP:(t:Ty)→t.T→L D
 |.int k,n=>[.int k n]|.bool,b=>[.bool b]|.str,s=>[.str s]|.sl r,o=>match o with|none=>[.nil]|some xs=>[.sl r.e (xs.map (aP r))]
 |.pair h t,x=>aP h x.1++aP t x.2|.bB _ k v,x=>aP k x.1++aP v x.2|.set k,x=>aP k x
def af{α:Type}(l:L α):M:=l.length
def aN(b:ai):M:=b.toNat
def ey(s:L ai):L M:=s.map aN
def lE(l:L M):L ai:=l.map λn=>je n.toNat
def ez(k:ln)(a b:M):M:=k.wrap ((lp k.bits a &&& lp k.bits b).toNat)
def orI(k:ln)(a b:M):M:=k.wrap ((lp k.bits a ||| lp k.bits b).toNat)
def ahU(k:ln)(a b:M):M:=k.wrap ((lp k.bits a ^^^ lp k.bits b).toNat)
def ahV(k:ln)(a b:M):M:=k.wrap ((lp k.bits a &&& ~~~(lp k.bits b)).toNat)
inductive Md where
 |data|own|aS(q:aD)(j hv cv k:Nat)
 deriving DecidableEq
inductive E where
 |i(k:IntKind)(n:Int)|b(x:Bool)|tt|ff|s(x:List UInt8)
 |l(m:Md)(t:Ty)(xs:List t.T)
 |n(m:Md)(t:Ty)(o:Option (List t.T))
 |nil|ck(k:NK)|r(u:TypeId)(ps:List (UInt8×List UInt8))
 |ea(q:aD)(j hv:Nat)(t:Ty)(n off:Nat)
 |da(t:Ty)(x:t.T)(off:Nat)
 |ptr(k:Key)(off:Nat)
 |cy(f:FuncId)(caps:List (Key×Nat))
 |dead
 |it(m:Md)(t:Ty)(xs:List t.T)(seen:List Nat)
 |gone(b:Bool)
instance:Inhabited E:=⟨.dead⟩
inductive aE where
 |one(c:E)|agg(cs:List E)|aX(vs:List (Bool×List E))|undef
instance:Inhabited aE:=⟨.undef⟩
structure cX where
 hv:Nat:=0
 cv:Nat:=0
 v:aE:=.undef
instance:Inhabited cX:=⟨{}⟩
def lC(m:Md)(t:Ty)(xs:L t.T):C:=
 match m with|.data=>.d (.sl t.e (xs.map (aP t)))|.own=>.own t.e (xs.map (aP t))|.aS q j hv cv k=>.aS q j hv cv t.e k (xs.map (aP t))
def mC(m:Md)(e:U)(xs:L (L D)):C:=
 match m with|.data=>.d (.sl e xs)|.own=>.own e xs|.aS q j hv cv k=>.aS q j hv cv e k xs
def ahW(t:Ty)(xs:L t.T)(seen:L U):L (L D):=[[.sl t.e (xs.map (aP t))],kn seen]
def cE:E→C
 |.i k n=>.d (.int k n)|.b x=>.d (.bool x)|.tt=>.d (.bool W)|.ff=>.d (.bool I)|.s x=>.d (.str x)|.l m t xs=>lC m t xs|.n m t o=>match o with|none=>.d .nil|some xs=>lC m t xs
 |.nil=>.d .nil|.ck k=>.d (.ck k)|.r u ps=>.d (.rep u ps)|.ea q j hv t n off=>.ea q j hv t.e n off|.da t x off=>.da ((aP t x).drop off)|.ptr k off=>.ptr k off|.cy f caps=>.cy f caps|.dead=>.dead|.it m t xs seen=>mC m mg (ahW t xs seen)|.gone b=>match b with|true=>.dead|false=>.d .nil
def aJ(l:L E):L C:=l.map cE
def dX(l:L (ao×L E)):L (ao×L C):=l.map λp=>(p.1,aJ p.2)
def aA:aE→SV|.one c=>.one (cE c)|.agg cs=>.agg (aJ cs)|.aX vs=>.aX (dX vs)|.undef=>.undef
def bV(x:cX):RV:={hv:=x.hv,cv:=x.cv,v:=aA x.v}
def aE.cells:aE→L E|.one c=>[c]|.agg cs=>cs|.aX vs=>vs.flatMap (·.2)|.undef=>[]
def jQ{α:Type}:L α→U→α→L α|[],_,_=>[]|_::r,0,c=>c::r|x::r,j+1,c=>x::jQ r j c
def Bt:L (ao×L E)→U→E→L (ao×L E)|[],_,_=>[]|(b,cs)::r,j,c=>if j<cs.length then(b,jQ cs j c)::r else(b,cs)::Bt r (j-cs.length) c
def aE.setCell(v:aE)(j:U)(c:E):aE:=
 match v with|.one _=>if j=0 then .one c else v|.agg cs=>.agg (jQ cs j c)|.aX vs=>.aX (Bt vs j c)|.undef=>.undef
def eX:Key→Key→ao|.inb a,.inb b=>a==b|.loc a,.loc b=>a==b|.esc a i,.esc b j=>a==b&&i==j|_,_=>I
def fU:aD→aD→ao|.tmp a,.tmp b=>a==b|.box a,.box b=>eX a b|.arg a,.arg b=>a==b|_,_=>I
def sN(v:aE)(j:U):aE:=
 match v.cells.getD j .dead with|.l .own t ys=>v.setCell j (.l .data t ys)|.n .own t o=>v.setCell j (.n .data t o)|.it .own t xs a=>v.setCell j (.it .data t xs a)|_=>v
def gL:L (U×U)→L aE→L aE|[],args=>args|(i,j)::r,args=>gL r (jQ args i (sN (args.getD i .undef) j))
structure aU where
 m:List (aD×cX)
 args:List aE
 bR:List (Nat×Nat)
 bQ:List (aD×Option (List Bool))
def eR(r:aD):L (aD×cX)→cX
 |[]=>{}|(q,x)::l=>match fU r q with|true=>x|false=>eR r l
def sO(r:aD)(x:cX):L (aD×cX)→L (aD×cX)
 |[]=>[(r,x)]|(q,y)::l=>match fU r q with|true=>(r,x)::l|false=>(q,y)::sO r x l
def aU.get(s:aU)(r:aD):cX:=
 match r with|.arg i=>{v:=(gL s.bR s.args).getD i .undef}|r=>eR r s.m
def aU.put(s:aU)(r:aD)(x:cX):aU:={s with m:=sO r x s.m,bQ:=(r,O)::s.bQ}
def dQ:L E→L (Q E)→L E|[],_=>[]|cs,[]=>cs|c::cs,o::os=>(match o with|some x=>x|none=>c)::dQ cs os
def aU.wr(s:aU)(k:Key)(os:L (Q E)):aU:=let x:=eR (.box k) s.m
 {s with m:=sO (.box k) {hv:=x.hv+1,cv:=x.cv,v:=match x.v with|.agg cs=>.agg (dQ cs os)|v=>v} s.m,bQ:=(.box k,J (os.map Option.isSome))::s.bQ}
def kb(b:ao):E:=match b with|true=>.tt|false=>.ff
def aU.know(s:aU)(r:aD)(b:ao):aU:=
 match r with
 |.tmp t=>let x:=eR (.tmp t) s.m
  {s with m:=sO (.tmp t) {x with v:=.one (kb b)} s.m,bQ:=(r,O)::s.bQ}
 |_=>s
def cQ(s:aU):St:=λr=>bV (s.get r)
inductive Tr(α:Type):Type 1 where
 |leaf(a:α)
 |fail
 |br(c:Bool)(t e:Tr α)
 |call{ρ:Type}(d:ρ)(o:Option ρ)(k:ρ→Tr α)
 |sum{ρ σ:Type}(o:ρ⊕σ)(k:ρ→Tr α)(k':σ→Tr α)
def ak{ρ α:Type}(o:Q ρ)(k:ρ→Q α):Q α:=
 match o with|some x=>k x|none=>O
def cC{ρ σ α:Type}(o:ρ⊕σ)(k:ρ→Q α)(k':σ→Q α):Q α:=
 match o with|.inl x=>k x|.inr x=>k' x
namespace Tr
def bind{α β:Type}:Tr α→(α→Tr β)→Tr β|.leaf a,f=>f a|.fail,_=>.fail|.br c t e,f=>.br c (t.bind f) (e.bind f)|.call d o k,f=>.call d o λx=>(k x).bind f|.sum o k k',f=>.sum o (λx=>(k x).bind f) (λx=>(k' x).bind f)
def map{α β:Type}(f:α→β):Tr α→Tr β|.leaf a=>.leaf (f a)|.fail=>.fail|.br c t e=>.br c (t.map f) (e.map f)|.call d o k=>.call d o λx=>(k x).map f|.sum o k k'=>.sum o (λx=>(k x).map f) (λx=>(k' x).map f)
def run{α:Type}:Tr α→Q α|.leaf a=>J a|.fail=>O|.br c t e=>if c=W then t.run else e.run|.call _ o k=>ak o λx=>(k x).run|.sum o k k'=>cC o (λx=>(k x).run) λx=>(k' x).run
def all{α:Type}:Tr α→(α→Prop)→Prop|.leaf a,b=>b a|.fail,_=>gT|.br c t e,b=>(c=W→t.all b)∧(c=I→e.all b)|.call _ o k,b=>∃x,o=J x∧(k x).all b|.sum o k k',b=>(∀x,o=.inl x→(k x).all b)∧(∀x,o=.inr x→(k' x).all b)
def box{α:Type}:Tr α→(α→Prop)→Prop|.leaf a,b=>b a|.fail,_=>cZ|.br c t e,b=>(c=W→t.box b)∧(c=I→e.box b)|.call _ o k,b=>∀x,o=J x→(k x).box b|.sum o k k',b=>(∀x,o=.inl x→(k x).box b)∧(∀x,o=.inr x→(k' x).box b)
def each{α:Type}:Tr α→(α→Prop)→Prop|.leaf a,b=>b a|.fail,_=>cZ|.br _ t e,b=>t.each b∧e.each b|.call _ _ k,b=>∀x,(k x).each b|.sum _ k k',b=>(∀x,(k x).each b)∧(∀x,(k' x).each b)
end Tr
inductive PE(α:Type):Type 1 where
 |ret(a:α)
 |fail
 |br(c:Bool)(t e:PE α)
 |call{ρ:Type}(d:ρ)(o:Option ρ)(k:ρ→PE α)
 |get(r:aD)(k:cX→PE α)
 |put(r:aD)(x:cX)(k:PE α)
 |bR(i j:Nat)(k:PE α)
 |know(r:aD)(b:Bool)(k:PE α)
 |wr(k:Key)(os:List (Option E))(c:PE α)
def vT(r:aD)(x:cX):ao:=
 match r,x.v with|.arg _,_=>I|.box _,.agg _=>W|.box _,_=>I|.tmp _,_=>W
namespace PE
def bind{α β:Type}:PE α→(α→PE β)→PE β|.ret a,f=>f a|.fail,_=>.fail|.br c t e,f=>.br c (t.bind f) (e.bind f)|.call d o k,f=>.call d o λx=>(k x).bind f|.get r k,f=>.get r λx=>(k x).bind f|.put r x k,f=>.put r x (k.bind f)|.bR i j k,f=>.bR i j (k.bind f)|.know r b k,f=>.know r b (k.bind f)|.wr k os c,f=>.wr k os (c.bind f)
instance:Monad PE where
 pure:=PE.ret
 bind:=PE.bind
def both{α:Type}:PE α→aU→Tr (α×aU×L aD×L aD)
 |.ret a,s=>.leaf (a,s,[],[])|.fail,_=>.fail|.br c t e,s=>.br c (t.both s) (e.both s)|.call d o k,s=>.call d o λx=>(k x).both s|.get r k,s=>((k (s.get r)).both s).map λy=>(y.1,y.2.1,r::y.2.2.1,y.2.2.2)|.put r x k,s=>match vT r x with|false=>.fail|true=>(k.both (s.put r x)).map λy=>(y.1,y.2.1,y.2.2.1,r::y.2.2.2)
 |.know r b k,s=>k.both (s.know r b)|.wr k os c,s=>(c.both (s.wr k os)).map λy=>(y.1,y.2.1,y.2.2.1,.box k::y.2.2.2)|.bR i j k,s=>(k.both {s with bR:=s.bR++[(i,j)],bQ:=(.arg i,O)::s.bQ}).map λy=>(y.1,y.2.1,y.2.2.1,.arg i::y.2.2.2)
end PE
def jR(r:aD)(x:cX):PE bu:=.put r x (.ret ())
def ask(c:ao):PE bu:=.br c (.ret ()) .fail
def sure(c:ao):PE bu:=match c with|true=>.ret ()|false=>.fail
def dM:(t:Ty)→t.T→L E|.int k,n=>[.i k n]|.bool,b=>[.b b]|.str,s=>[.s s]|.sl t,o=>[.n .data t o]|.pair h t,x=>dM h x.1++dM t x.2|.bB _ k v,x=>dM k x.1++dM v x.2|.set k,x=>dM k x
def mE:(t:Ty)→L E→Q (t.T×L E)
 |.int k=>λcs=>match cs with|.i k' n::r=>if k'=k then J (n,r)else O|_=>O
 |.bool=>λcs=>match cs with|.b x::r=>J (x,r)|.tt::r=>J (W,r)|.ff::r=>J (I,r)|_=>O
 |.str=>λcs=>match cs with|.s x::r=>J (x,r)|_=>O
 |.sl t=>λcs=>match cs with|.n .data a o::r=>if h:a=t then J (h▸o,r)else O|.l .data a xs::r=>if h:a=t then J (J (h▸xs),r)else O|.nil::r=>J (O,r)|_=>O
 |.pair h t=>λcs=>match mE h cs with
  |some (x,r)=>match mE t r with|some (y,c)=>J ((x,y),c)|none=>O
  |none=>O
 |.bB _ k v=>λcs=>match mE k cs with
  |some (x,r)=>match mE v r with|some (y,c)=>J ((x,y),c)|none=>O
  |none=>O
 |.set k=>λcs=>mE k cs
def jS(t:Ty)(cs:L E):Q t.T:=
 match mE t cs with|some (x,[])=>J x|_=>O
def sP(r:aD)(x:cX)(j:U):E→E|.l .own t xs=>.l (.aS r j x.hv x.cv 0) t xs|.n .own t o=>.n (.aS r j x.hv x.cv 0) t o|.it .own t xs a=>.it (.aS r j x.hv x.cv 0) t xs a|c=>c
def vU(r:aD)(x:cX):U→L E→L E|_,[]=>[]|j,c::cs=>sP r x j c::vU r x (j+1) cs
def Bu(r:aD)(x:cX):U→L (ao×L E)→L (ao×L E)|_,[]=>[]|j,(b,cs)::vs=>(b,vU r x j cs)::Bu r x (j+cs.length) vs
def cX.copy(x:cX)(r:aD):aE:=
 match x.v with|.one c=>.one (sP r x 0 c)|.agg cs=>.agg (vU r x 0 cs)|.aX vs=>.aX (Bu r x 0 vs)|.undef=>.undef
def Bv:az→Q E|.int k n=>J (.i k n)|.bool b=>J (match b with|true=>.tt|false=>.ff)|.string s=>J (.s s.data.toList)|.slice O 0 0=>J .nil|.pointer O=>J (.ck .ptr)|.nilFunc=>J (.ck .func)|.nilIface=>J (.ck .iface)|.map O=>J (.ck .map)|.chan O=>J (.ck .chan)|_=>O
def GU:L az→Q (L E)
 |[]=>J []|v::r=>match Bv v,GU r with|some d,J ds=>J (d::ds)|_,_=>O
def dR:bO→PE aE
 |.tmp t=>.get (.tmp t) λx=>match x.v with|.undef=>.fail|_=>.ret (x.copy (.tmp t))
 |.const v=>match v with
  |.agg cs=>match GU cs.toList with|some ds=>.ret (.agg ds)|none=>.fail
  |v=>match Bv v with|some d=>.ret (.one d)|none=>.fail
 |.func f=>.ret (.one (.cy f []))|.global _=>.fail
def vV:L bO→PE (L aE)|[]=>.ret []|o::os=>do let v ←dR o;let vs ←vV os;.ret (v::vs)
def Ni:aE→PE E|.one c=>.ret c|_=>.fail
def eG(o:bO):PE E:=do Ni (←dR o)
def sQ:E→PE M|.i _ n=>.ret n|_=>.fail
def sR:E→Q ao|.b b=>J b|.tt=>J W|.ff=>J I|_=>O
def cX.at(x:cX)(j:U):E:=x.v.cells.getD j .dead
def vW(r:aD)(j:U)(x:cX):PE bu:=
 match x.at j with
 |.l .own t ys=>match r with|.arg i=>.bR i j (.ret ())|r=>jR r {x with v:=x.v.setCell j (.l .data t ys)}
 |.n .own t o=>match r with|.arg _=>.fail|r=>.call [] o λys=>jR r {x with v:=x.v.setCell j (.l .data t ys)}
 |.l .data _ _=>.ret ()|.n .data _ o=>.call [] o λ_=>.ret ()|_=>.fail
def pY(r:aD)(j:U)(x:cX):PE bu:=
 match x.at j with
 |.l .own _ _=>jR r {x with v:=x.v.setCell j .dead}
 |.n .own _ o=>.call [] o λ_=>jR r {x with v:=x.v.setCell j .dead}
 |_=>.fail
def resolve:E→PE E|.n m t o=>.br o.isSome (.ret (.l m t (o.getD []))) (.ret .nil)|c=>.ret c
def axa:E→PE E|.n (.aS q j hv cv k) t o=>.br o.isSome (.ret (.l (.aS q j hv cv k) t (o.getD []))) (.ret .nil)|c=>.ret c
def Wx:E→PE E|.n (.aS (.arg i) j hv cv k) t o=>.br o.isSome (.ret (.l (.aS (.arg i) j hv cv k) t (o.getD []))) (.ret .nil)|c=>.ret c
def qY(r:aD)(j:U)(x:cX)(b:ao):PE bu:=
 match x.at j with
 |.n .own t o=>match r with|.arg _=>.fail|r=>.br (b==o.isSome) (jR r {x with v:=x.v.setCell j (.n .data t o)}) .fail
 |.n .data _ o=>.br (b==o.isSome) (.ret ()) .fail|_=>.fail
def oP(r:aD)(j:U)(x:cX)(b:ao):PE bu:=
 match x.at j with
 |.n .own _ o=>.br (b==o.isSome) (jR r {x with v:=x.v.setCell j (.gone o.isSome)}) .fail
 |_=>.fail
def yF(j:U)(x:cX)(b:ao):PE bu:=
 match x.at j with|.n .own _ o|.n .data _ o=>.br (b==o.isSome) (.ret ()) .fail|_=>.fail
def pZ(self:Q (aD×U))(r:aD)(j:U):ao:=
 match self with|some (q,i)=>fU q r&&i==j|none=>I
def Bw(self:Q (aD×U))(take:aD→ao):E→PE E
 |.l (.aS r j hv cv k) t xs=>
  match r.isArg with
  |true=>.ret (.l (.aS r j hv cv k) t xs)|false=>.get r λx=>do
   sure (x.hv==hv&&x.cv==cv)
   match x.at j with
   |.l .own _ _|.n .own _ _=>
    match pZ self r j||take r with|true=>do pY r j x;.ret (.l .own t xs)|false=>do vW r j x;.ret (.l .data t xs)
   |.l .data _ _=>.ret (.l .data t xs)|.n .data _ o=>.call [] o λ_=>.ret (.l .data t xs)|_=>.fail
 |.n (.aS r j hv cv k) t o=>
  match r.isArg with
  |true=>.ret (.n (.aS r j hv cv k) t o)|false=>.get r λx=>do
   sure (x.hv==hv&&x.cv==cv)
   match x.at j with
   |.n .own _ _=>
    match pZ self r j||take r with|true=>do oP r j x o.isSome;.ret (.n .own t o)|false=>do qY r j x o.isSome;.ret (.n .data t o)
   |.n .data _ _=>do yF j x o.isSome;.ret (.n .data t o)|_=>.fail
 |.dead=>.fail|.gone _=>.fail|.it m t xs a=>match m with|.aS .. =>.fail|m=>.ret (.it m t xs a)
 |c=>.ret c
def Bx(self:Q (aD×U))(take:aD→ao)(c:E):PE E:=Bw self take c
def sT(mk:U→aD×U)(take:aD→ao):U→L E→PE (L E)|_,[]=>.ret []|i,c::cs=>do let b ←Bx (J (mk i)) take c;let a ←sT mk take (i+1) cs;.ret (b::a)
def Bz(mk:U→aD×U)(take:aD→ao):U→L (ao×L E)→PE (L (ao×L E))|_,[]=>.ret []|i,(b,cs)::vs=>do let a ←sT mk take i cs;let c ←Bz mk take (i+cs.length) vs;.ret ((b,a)::c)
def qZ(r:aD)(take:aD→ao):aE→PE aE|.one c=>do .ret (.one (←Bx (J (r,0)) take c))|.agg cs=>do .ret (.agg (←sT (λi=>(r,i)) take 0 cs))|.aX vs=>do .ret (.aX (←Bz (λi=>(r,i)) take 0 vs))|.undef=>.fail
def mF:E→ao|.i _ _|.b _|.tt|.ff|.s _|.l .data _ _|.n .data _ _|.nil|.ck _|.r _ _=>W|_=>I
def lF:E→PE E
 |.l (.aS r j hv cv _) t xs=>.get r λx=>do
   sure (x.hv==hv&&x.cv==cv)
   vW r j x
   .ret (.l .data t xs)
 |.n (.aS r j hv cv _) t o=>.get r λx=>do
   sure (x.hv==hv&&x.cv==cv)
   qY r j x o.isSome
   .ret (.n .data t o)
 |c=>match mF c with|true=>.ret c|false=>.fail
def nE(c:E):PE E:=do lF (←Wx c)
def sU:L E→PE (L E)|[]=>.ret []|c::cs=>do let x ←nE c;let xs ←sU cs;.ret (x::xs)
def aE.ew:aE→Q (L E)|.one c=>J [c]|.agg cs=>J cs|_=>O
def vX(t:Ty):E→PE (L t.T)
 |.nil=>.ret []|.l .data a xs=>if h:a=t then do sure (!isMap t.e);.ret (h▸xs)else .fail|.n .data a o=>if h:a=t then do sure (!isMap t.e);.ret ((h▸o:Q (L t.T)).getD [])else .fail|.l (.aS r j hv cv _) a xs=>.get r λx=>
  match x.hv==hv&&x.cv==cv&& !isMap t.e with
  |true=>match x.at j with|.l .own _ _|.l .data _ _=>if h:a=t then .ret (h▸xs)else .fail|.n .own _ o|.n .data _ o=>.call [] o λ_=>if h:a=t then .ret (h▸xs)else .fail|_=>.fail
  |false=>.fail
 |.n (.aS r j hv cv _) a o=>.get r λx=>
  match x.hv==hv&&x.cv==cv&& !isMap t.e with
  |true=>do
   yF j x o.isSome
   if h:a=t then .ret ((h▸o:Q (L t.T)).getD [])else .fail
  |false=>.fail
 |_=>.fail
def Nj(t:Ty)(c:E):PE (L t.T):=vX t c
def eH(k:ln)(n:M):aE:=.one (.i k n)
def ji(b:ao):aE:=.one (.b b)
def BA(op:iL)(k:ln)(a b:M):PE aE:=
 match op with|.add=>.ret (eH k (k.wrap (a+b)))|.sub=>.ret (eH k (k.wrap (a-b)))|.mul=>.ret (eH k (k.wrap (a*b)))|.quo=>do ask (decide (b≠0));.ret (eH k (k.wrap (a.tdiv b)))|.rem=>do ask (decide (b≠0));.ret (eH k (a.tmod b))|.and=>.ret (eH k (ez k a b))|.or=>.ret (eH k (orI k a b))|.xor=>.ret (eH k (ahU k a b))|.andNot=>.ret (eH k (ahV k a b))|.eql=>.ret (ji (a==b))|.neq=>.ret (ji (a !=b))|.lss=>.ret (ji (decide (a<b)))|.leq=>.ret (ji (decide (a≤b)))|.gtr=>.ret (ji (decide (a>b)))|.geq=>.ret (ji (decide (a≥b)))|_=>.fail
def Nk(op:iL)(a b:L ai):PE aE:=
 match op with|.add=>do ask (decide (a.length+b.length≤1152921504606846976));.ret (.one (.s (a++b)))|.eql=>.ret (ji (decide (a=b)))|.neq=>.ret (ji (!decide (a=b)))|.lss=>.ret (ji (lY a b))|.leq=>.ret (ji (lY a b||decide (a=b)))|.gtr=>.ret (ji (!(lY a b||decide (a=b))))|.geq=>.ret (ji (!lY a b))|_=>.fail
def Nl(cfg:bg)(t:aW):ao:=
 match cfg.ti t with|some {kind:=.bool, ..}=>W|_=>I
def Nn(cfg:bg)(t:aW)(op:iL)(x y:E):PE aE:=
 match sR x,sR y with
 |some a,J b=>match Nl cfg t,op with|true,.eql=>.ret (ji (a==b))|true,.neq=>.ret (ji (!(a==b)))|_,_=>.fail
 |_,_=>.fail
def GV:E→Q ao|.l _ t _=>if isMap t.e then O else J I|.n _ t o=>if isMap t.e then O else J (!o.isSome)|.nil=>J W|_=>O
def GX(cfg:bg)(t:aW):ao:=
 match cfg.ti t with|some {kind:=.slice _, ..}=>W|_=>I
def Np(cfg:bg)(t:aW)(op:iL)(x:E):PE aE:=
 match GX cfg t,op,GV x with|true,.eql,J b=>.ret (ji b)|true,.neq,J b=>.ret (ji (!b))|_,_,_=>.fail
def Nq(cfg:bg)(t:aW)(op:iL)(x y:E):PE aE:=
 match x,y with
 |.i k a,.i k' b=>
  match op with|.shl=>do ask (decide (0≤b));.ret (eH k (k.wrap (a*2 ^ (min b.toNat k.bits))))|.shr=>do ask (decide (0≤b));.ret (eH k (a.fdiv (2 ^ (min b.toNat k.bits))))|op=>if k=k' then BA op k a b else .fail
 |.s a,.s b=>Nk op a b|x,.nil=>Np cfg t op x|x,y=>Nn cfg t op x y
def yG:L Sc→L E→L E→Q ao
 |[],[],[]=>J W|.int k::sh,.i k1 a::xs,.i k2 b::ys=>if k1=k∧k2=k then(match yG sh xs ys with|some r=>J ((a==b)&&r)|none=>O)else O
 |.str::sh,.s a::xs,.s b::ys=>match yG sh xs ys with|some r=>J (decide (a=b)&&r)|none=>O
 |.bool::sh,x::xs,y::ys=>match sR x,sR y,yG sh xs ys with|some a,J b,J r=>J ((a==b)&&r)|_,_,_=>O
 |_,_,_=>O
def Nr(cfg:bg)(t:aW)(op:iL)(xs ys:L E):PE aE:=
 match lk t cfg.eqs with
 |some sh=>match op,yG sh xs ys with|.eql,J r=>.ret (ji r)|.neq,J r=>.ret (ji (!r))|_,_=>.fail
 |none=>.fail
def bw(a b:U):ao:=fi (a+1) b
def ra(i:TI)(cs:L E)(off:U):PE aE:=
 match bw 0 i.size&&fi (off+i.size) cs.length with
 |true=>match i.kind.agg with
  |true=>.ret (.agg ((cs.drop off).take i.size))|false=>match cs[off]? with|some .dead=>.fail|some (.gone _)=>.fail|some c=>.ret (.one c)|none=>.fail
 |false=>.fail
def yH(i:TI):E→PE aE
 |.ptr k off=>.get (.box k) λx=>
  match x.v with|.agg cs=>ra i (vU (.box k) x 0 cs) off|_=>.fail
 |.ea r j hv _ n off=>.get r λx=>
  match x.hv==hv with
  |true=>match x.at j with|.l .own t ys|.l .data t ys=>do ask (bw n ys.length);ra i (dM t (ys.getD n t.zero)) off|.n .own t o|.n .data t o=>do ask (bw n (o.getD []).length);ra i (dM t ((o.getD []).getD n t.zero)) off|_=>.fail
  |false=>.fail
 |.da t x off=>ra i ((dM t x).drop off) 0|_=>.fail
def Ns(take:aD→ao)(i:TI)(a:E)(v:aE):PE bu:=
 match a,v.ew with
 |.ptr k off,J cs=>do
  sure (cs.length==i.size)
  let c ←sT (λn=>(.box k,off+n)) take 0 cs
  .get (.box k) λx=>
   match x.v with
   |.agg old=>do
    sure (fi (off+i.size) old.length&&fi (off+c.length) old.length)
    .wr k (dk off O++c.map J) (.ret ())
   |_=>.fail
 |.ea r j hv _ n off,J cs=>do
  sure (cs.length==i.size)
  let ds ←sU cs
  .get r λx=>do
   sure (x.hv==hv&& !r.isArg)
   match x.at j with
   |.l .own t ys=>do
    ask (bw n ys.length)
    sure (fi (off+i.size) t.w)
    match jS t (splice (dM t (ys.getD n t.zero)) off ds)with
    |some b=>jR r {x with cv:=x.cv+1,v:=x.v.setCell j (.l .own t (ys.set n b))}
    |none=>.fail
   |.n .own t o=>do
    ask (bw n (o.getD []).length)
    sure (fi (off+i.size) t.w)
    match jS t (splice (dM t ((o.getD []).getD n t.zero)) off ds)with
    |some b=>jR r {x with cv:=x.cv+1,v:=x.v.setCell j (.l .own t ((o.getD []).set n b))}
    |none=>.fail
   |_=>.fail
 |_,_=>.fail
def Nt(cfg:bg)(t:aW)(c:E)(f:U):PE E:=
 match cfg.ti t with
 |some {kind:=.struct fs, ..}=>match fs[f]? with
  |some (o,a)=>match cfg.ti a with
   |some i=>do
    sure (!(i.size==0))
    match c with|.ptr k off=>.ret (.ptr k (off+o))|.ea r j hv e n off=>.ret (.ea r j hv e n (off+o))|.da t x off=>do sure (fi (off+o) t.w);.ret (.da t x (off+o))|_=>.fail
   |none=>.fail
  |none=>.fail
 |_=>.fail
def Nu(cfg:bg)(t:aW)(g:U)(n:M):PE E:=
 match lk g cfg.qJ,cfg.ti t with
 |some l,J {kind:=.array len a, ..}=>match cfg.ti a with|some i=>do ask (decide (0≤n∧n<len));sure (len==l.length&&i.size==1);.ret (.da (.int .u64) (l.getD n.toNat 0) 0)|none=>.fail
 |_,_=>.fail
def Nv(cfg:bg)(t:aW)(c:E)(n:M):PE E:=
 match cfg.ti t with
 |some {kind:=.slice a, ..}=>match cfg.ti a with
  |some i=>match c with|.l (.aS r j hv _ k) t xs=>do ask (decide (0≤n∧n<af xs));sure (i.size==t.e&& !isMap i.size);.ret (.ea r j hv t (k+n.toNat) 0)|.n (.aS r j hv _ k) t o=>do ask (decide (0≤n∧n<af (o.getD [])));sure (i.size==t.e&& !isMap i.size);.ret (.ea r j hv t (k+n.toNat) 0)|.l .data t xs=>do ask (decide (0≤n∧n<af xs));sure (i.size==t.e&& !isMap i.size);.ret (.da t (xs.getD n.toNat t.zero) 0)|.n .data t o=>do ask (decide (0≤n∧n<af (o.getD [])));sure (i.size==t.e&& !isMap i.size);.ret (.da t ((o.getD []).getD n.toNat t.zero) 0)|_=>.fail
  |none=>.fail
 |some {kind:=.array len a, ..}=>match cfg.ti a with
  |some i=>match c with|.ptr k off=>do sure (decide (0≤n∧n<len));.ret (.ptr k (off+n.toNat*i.size))|_=>.fail
  |none=>.fail
 |_=>.fail
def GY:L E→Q (L (L ai))
 |[]=>J []|.s x::r=>match GY r with|some l=>J (x::l)|none=>O
 |_=>O
def GZ(k:ln):L E→Q (L M)
 |[]=>J []|.i k' x::r=>match decide (k'=k),GZ k r with|true,J l=>J (x::l)|_,_=>O
 |_=>O
def Nw(i:TI)(cs:L E):Q (M→aE):=
 match i.kind with
 |.str=>match GY cs with|some l=>J λn=>.one (.s (l.getD n.toNat []))|none=>O
 |.int k=>match GZ k cs with|some l=>J λn=>.one (.i k (l.getD n.toNat 0))|none=>O
 |_=>O
def Nx(cfg:bg)(t:aW)(v:aE)(n:M):PE aE:=
 match cfg.ti t,v with
 |some {kind:=.str, ..},.one (.s s)=>do
  ask (decide (0≤n))
  ask (bw n.toNat s.length)
  .ret (eH .u8 (aN (s.getD n.toNat 0)))
 |some {kind:=.array len a, ..},.agg cs=>match cfg.ti a with
  |some i=>match Nw i cs with|some g=>do sure (Nat.beq i.size 1&&fi len cs.length);ask (decide (0≤n∧n<len));.ret (g n)|none=>do sure (decide (0≤n∧n<len));ra i cs (n.toNat*i.size)
  |none=>.fail
 |_,_=>.fail
def G0(a:ao)(v:aE):PE aE:=
 match a,v with|true,.one (.s s)=>.ret (eH .i64 (af s))|false,.one .nil=>.ret (eH .i64 0)|false,.one (.l .data t xs)=>do sure (!isMap t.e);.ret (eH .i64 (af xs))|false,.one (.l (.aS ..) t xs)=>do sure (!isMap t.e);.ret (eH .i64 (af xs))|false,.one (.n .data t o)=>do sure (!isMap t.e);.ret (eH .i64 (af (o.getD [])))|false,.one (.n (.aS ..) t o)=>do sure (!isMap t.e);.ret (eH .i64 (af (o.getD [])))|_,_=>.fail
def BB(cells:L E):L (U×L E)→L E|[]=>cells|(off,cs)::r=>BB (splice cells off cs) r
def BD(fs:L (U×aW))(cfg:bg):L (U×bO)→PE (L (U×L E))
 |[]=>.ret []|(i,o)::r=>do
  let v ←dR o
  match fs[i]?,v.ew with
  |some (off,t),J cs=>match cfg.ti t with|some ti=>do sure (cs.length==ti.size);let rest ←BD fs cfg r;.ret ((off,cs)::rest)|none=>.fail
  |_,_=>.fail
def Wy:D→Q E|.int k n=>J (.i k n)|.bool b=>J (match b with|true=>.tt|false=>.ff)|.str s=>J (.s s)|.nil=>J .nil|.ck k=>J (.ck k)|_=>O
def vY:L D→Q (L E)
 |[]=>J []|d::ds=>match Wy d,vY ds with|some c,J cs=>J (c::cs)|_,_=>O
def fits(size:U)(ps:L (U×L E)):ao:=ps.all λp=>fi (p.1+p.2.length) size
def Ny(cfg:bg)(t:aW)(parts:L (U×bO)):PE aE:=
 match cfg.ti t with
 |some {kind:=.struct fs,size,zero:=J z, ..}=>do
  sure (z.length==size&&fs.all λp=>(cfg.ti p.2).isSome)
  let ps ←BD fs cfg parts
  sure (fits size ps)
  match vY z with|some cs=>.ret (.agg (BB cs ps))|none=>.fail
 |some {kind:=.array n a,size,zero:=J z, ..}=>match cfg.ti a with
  |some i=>do
   sure (z.length==size)
   let ps ←BD ((hY n).map λj=>(j*i.size,a)) cfg parts
   sure (fits size ps)
   match vY z with|some cs=>.ret (.agg (BB cs ps))|none=>.fail
  |none=>.fail
 |_=>.fail
def yI:L (Q E)→L E|[]=>[]|o::os=>(match o with|some x=>x|none=>.dead)::yI os
def gM:L (L E)→L (L (Q E))→L (L E)|[],os=>os.map yI|b::a,o::os=>dQ b o::gM a os|a,[]=>a
structure cw:Type 1 where
 A:Type
 R:Type
 d:R
 dI:List aE→List (List E)→Option A
 sh:A→Option R
 two:Bool
 flag:R→Bool
 out:A→R→Bool→aE×List (List (Option E))
 bR:List (Nat×Nat)
 F:pD
 one:two=false→∀y,flag y=true
 ok:∀args boxes x y,dI args boxes=some x→sh x=some y→F (args.map aA) (boxes.map aJ)=some {v:=aA (out x y (flag y)).1,boxes:=(gM boxes (out x y (flag y)).2).map aJ,bR:=bR}
structure dJ where
 N:Nat
 T:List (TypeId×TI)
 R:List (TypeId×Ty)
 eu:Nat→FuncId→Option cw
 var:List Nat
 res:List Nat
 eqs:List (TypeId×List Sc):=[]
 dat:List Nat:=[]
 mh:Bool:=false
 pE:Bool:=false
 un:List Nat:=[]
 qJ:List (Nat×List Int):=[]
def dJ.c(e:dJ):bg:={un:=e.un,qJ:=e.qJ,N:=e.N,T:=e.T,Γ:=λt f=>match e.eu t f with|some K=>J K.F|none=>O,var:=e.var,res:=e.res,eqs:=e.eqs,dat:=e.dat,mh:=e.mh,pE:=e.pE}
def rb:Ty→L D→Q (L D)
 |.int k,.int k' n::r=>if k=k'∧n=0 then J r else O|.bool,.bool b::r=>if b=I then J r else O|.str,.str s::r=>match s with|[]=>J r|_=>O
 |.sl _,.nil::r=>J r|.pair h t,ds=>match rb h ds with|some r=>rb t r|none=>O
 |_,_=>O
def sV(t:Ty)(z:L D):ao:=match rb t z with|some []=>W|_=>I
def G1(t:Ty)(size:U):L (U×bO)→L t.T→PE (L t.T)
 |[],rows=>.ret rows|(i,o)::r,rows=>do
  let v ←dR o
  match v.ew with
  |some cs=>do
   sure (cs.length==size&&bw i rows.length)
   let ds ←sU cs
   match jS t ds with|some x=>G1 t size r (jQ rows i x)|none=>.fail
  |none=>.fail
def Nz(cfg:dJ)(t:aW)(len:U)(parts:L (U×bO)):PE aE:=
 match cfg.c.ti t with
 |some {kind:=.slice b, ..}=>match cfg.c.ti b,lk b cfg.R with
  |some i,J a=>match i.zero with
   |some z=>do
    sure (z.length==i.size&&bw 0 i.size&&fi (len*i.size) 16777216&&i.size==a.e&& !isMap i.size&&sV a z)
    let rows ←G1 a i.size parts (dk len a.zero)
    .ret (.one (.l .own a rows))
   |none=>.fail
  |_,_=>.fail
 |_=>.fail
def NA(cfg:dJ)(t:aW)(len cap:M):PE aE:=
 match cfg.c.ti t with
 |some {kind:=.slice b, ..}=>match cfg.c.ti b,lk b cfg.R with
  |some i,J a=>match i.zero with
   |some z=>do
    sure (z.length==i.size&&bw 0 i.size&&fi i.bytes 1024&&i.size==a.e&& !isMap i.size&&sV a z)
    ask (decide (0≤len∧len≤cap∧cap≤68719476736))
    .ret (.one (.l .own a (dk len.toNat a.zero)))
   |none=>.fail
  |_,_=>.fail
 |_=>.fail
def dj{α:Type}(ys:L α):Q (L α):=match ys with|[]=>O|y::r=>J (y::r)
def NB(i:TI)(t:Ty)(c:E)(ys:L t.T)(lit:ao):PE aE:=do
 sure (bw 0 i.size&&bw 0 i.bytes&&fi i.bytes 1024&&(match i.zero with|some z=>z.length==i.size|none=>I)&&i.size==t.e&& !isMap i.size)
 match c with
 |.nil=>do
  ask (decide (ys.length≤68719476736))
  .ret (.one (match lit with
   |true=>(match ys with|[]=>.n .own t (dj ys)|y::r=>.l .own t (y::r))
   |false=>.n .own t (dj ys)))
 |.l (.aS r j hv cv k) b xs=>.get r λx=>do
  sure (x.hv==hv&&x.cv==cv&& !r.isArg)
  match x.at j with
  |.l .own _ a=>do
   ask (decide (k+xs.length=a.length))
   ask (decide (xs.length+ys.length≤68719476736))
   pY r j x
   if h:b=t then .ret (.one (.l .own t ((h▸xs)++ys)))else .fail
  |.n .own _ o=>.call [] o λa=>do
   ask (decide (k+xs.length=a.length))
   ask (decide (xs.length+ys.length≤68719476736))
   pY r j x
   if h:b=t then .ret (.one (.l .own t ((h▸xs)++ys)))else .fail
  |_=>.fail
 |_=>.fail
def iF{α:Type}(o:Q (L α))(ys:L α):Q (L α):=match o with|none=>dj ys|some xs=>J (xs++ys)
def NC(i:TI)(t:Ty)(r:aD)(j hv cv k:U)(a:Ty)(o:Q (L a.T))(ys:L t.T)(lit:ao):PE aE:=do
 sure (bw 0 i.size&&bw 0 i.bytes&&fi i.bytes 1024&&(match i.zero with|some z=>z.length==i.size|none=>I)&&i.size==t.e&& !isMap i.size)
 .get r λx=>do
  sure (x.hv==hv&&x.cv==cv&& !r.isArg)
  match x.at j with
  |.n .own _ b=>do
   ask (decide (k+(o.getD []).length=(b.getD []).length))
   ask (decide ((o.getD []).length+ys.length≤68719476736))
   oP r j x o.isSome
   if h:a=t then .ret (.one (match lit,ys with
    |true,y::q=>.l .own t (((h▸o:Q (L t.T)).getD [])++y::q)
    |_,_=>.n .own t (iF (h▸o) ys)))else .fail
  |_=>.fail
def ND(i:TI)(t:Ty)(c:E)(ys:L t.T)(lit:ao):PE aE:=
 match c with|.n (.aS r j hv cv k) a o=>NC i t r j hv cv k a o ys lit|c=>do NB i t (←resolve c) ys lit
def isLit(var:L U):E→ao|.l .own _ _=>W|.l (.aS (.tmp t) _ _ _ _) _ _=> !(var.contains t)|_=>I
def NE(cfg:bg)(i:TI)(t:Ty)(tid:aW)(c:E):PE (L t.T):=
 match cfg.ti tid with
 |some {kind:=.str, ..}=>match c with|.s s=>if h:Ty.int .u8=t then do sure (i.size==1);.ret (h▸(ey s:L (Ty.int .u8).T))else .fail|_=>.fail
 |some {kind:=.slice _, ..}=>do sure (i.size==t.e);Nj t c|_=>.fail
def NF(c:E):PE aE:=
 match c with|.nil=>.ret (eH .i64 0)|.n _ _ o=>do ask (!o.isSome);.ret (eH .i64 0)|_=>.fail
def NG(i:TI)(t:Ty)(c:E)(n:M):PE aE:=
 match i.zero with
 |some z=>do
  sure (z.length==i.size&&bw 0 i.size&&bw 0 i.bytes&&fi i.bytes 1024&&i.size==t.e&& !isMap i.size&&sV t z)
  match c with
  |.nil=>do
   ask (decide (0≤n∧n≤68719476736))
   .ret (.one (.n .own t (dj (dk n.toNat t.zero))))
  |.n _ _ o=>do
   ask (!o.isSome&&decide (0≤n∧n≤68719476736))
   .ret (.one (.n .own t (dj (dk n.toNat t.zero))))
  |_=>.fail
 |none=>.fail
def aV{α:Type}(l h:M)(xs:L α):L α:=(xs.take h.toNat).drop l.toNat
def NH(v:aE)(lo hi:Q M):PE aE:=
 match v with
 |.one (.s s)=>
  let h:=hi.getD (af s)
  let l:=lo.getD 0
  do
  ask (decide (0≤l∧l≤h∧h≤af s))
  .ret (.one (.s (aV l h s)))
 |_=>.fail
def NI(size:U)(v:aE)(lo hi:Q M):PE aE:=
 match v with
 |.one .nil=>do
  ask (decide (lo.getD 0=0∧hi.getD 0=0))
  .ret (.one .nil)
 |.one (.l .data t xs)=>do
  ask (decide (0≤lo.getD 0∧lo.getD 0≤hi.getD (af xs)∧hi.getD (af xs)≤af xs))
  sure (t.e==size&& !isMap size)
  .ret (.one (.l .data t (aV (lo.getD 0) (hi.getD (af xs)) xs)))
 |.one (.n .data t o)=>do
  ask (decide (0≤lo.getD 0∧lo.getD 0≤hi.getD (af (o.getD []))∧hi.getD (af (o.getD []))≤af (o.getD [])))
  sure (t.e==size&& !isMap size)
  .ret (.one (.n .data t (o.map (aV (lo.getD 0) (hi.getD (af (o.getD [])))))))
 |.one (.l (.aS r j hv cv k) t xs)=>do
  ask (decide (0≤lo.getD 0∧lo.getD 0≤hi.getD (af xs)∧hi.getD (af xs)≤af xs))
  sure (t.e==size&& !isMap size)
  .ret (.one (.l (.aS r j hv cv (k+(lo.getD 0).toNat)) t (aV (lo.getD 0) (hi.getD (af xs)) xs)))
 |.one (.n (.aS r j hv cv k) t o)=>do
  ask (decide (0≤lo.getD 0∧lo.getD 0≤hi.getD (af (o.getD []))∧hi.getD (af (o.getD []))≤af (o.getD [])))
  sure (t.e==size&& !isMap size)
  .ret (.one (.n (.aS r j hv cv (k+(lo.getD 0).toNat)) t (o.map (aV (lo.getD 0) (hi.getD (af (o.getD [])))))))
 |_=>.fail
def G2(cfg:bg)(a:aW):ao:=
 match cfg.ti a with|some {kind:=.int .u8,size:=1, ..}=>W|_=>I
def NJ(cfg:bg)(src dst:aW)(v:aE):PE aE:=
 match cfg.ti src,cfg.ti dst with
 |some _,J {kind:=.int k, ..}=>match v with|.one (.i _ n)=>.ret (eH k (k.wrap n))|_=>.fail
 |some i,J {kind:=.str, ..}=>match v with
  |.one (.s s)=>.ret (.one (.s s))|.one c=>match i.kind with
   |.slice a=>match G2 cfg a with
    |true=>do
     let xs ←Nj (.int .u8) c
     .ret (.one (.s (lE xs)))
    |false=>.fail
   |_=>.fail
  |_=>.fail
 |some _,J {kind:=.slice a, ..}=>match v with
  |.one (.s s)=>match G2 cfg a with|true=>.ret (.one (.l .own (.int .u8) (ey s)))|false=>.fail
  |_=>.fail
 |_,_=>.fail
def nF:Ty→Q (L Sc)
 |.int k=>J [.int k]|.bool=>J [.bool]|.str=>J [.str]|.pair h t=>match nF h,nF t with|some a,J b=>J (a++b)|_,_=>O
 |_=>O
def ij:(k:Ty)→k.T→k.T→ao|.int _,a,b=>(a:M)==b|.bool,a,b=>(a:ao)==b|.str,a,b=>decide ((a:L ai)=b)|.pair h t,a,b=>ij h a.1 b.1&&ij t a.2 b.2|_,_,_=>I
def cF{V:Type}(k:Ty)(x:k.T):L (k.T×V)→Q V
 |[]=>O|r::l=>match ij k x r.1 with|true=>J r.2|false=>cF k x l
def eI{V:Type}(k:Ty)(x:k.T)(y:V):L (k.T×V)→L (k.T×V)
 |[]=>[(x,y)]|r::l=>match ij k x r.1 with|true=>(x,y)::l|false=>r::eI k x y l
def nG:(k:Ty)→k.T→k.T→ao|.int _,a,b=>decide ((a:M)<b)|.bool,a,b=> !(a:ao)&&b|.str,a,b=>L4 (a:L ai) b|.pair h t,a,b=>nG h a.1 b.1||(ij h a.1 b.1&&nG t a.2 b.2)|_,_,_=>I
def nH{V:Type}(k:Ty)(x:k.T)(y:V):L (k.T×V)→L (k.T×V)
 |[]=>[(x,y)]|r::l=>match nG k x r.1 with|true=>(x,y)::r::l|false=>r::nH k x y l
def NL{V:Type}(k:Ty)(x:k.T)(y:V)(l:L (k.T×V)):L (k.T×V):=match(cF k x l).isSome with|true=>eI k x y l|false=>nH k x y l
def kP{V:Type}(k:Ty)(x:k.T):L (k.T×V)→U
 |[]=>0|r::l=>match ij k x r.1 with|true=>0|false=>kP k x l+1
def lG{V:Type}(k:Ty)(x:k.T)(z:V):L (k.T×V)→L (k.T×V)
 |[]=>[(x,z)]|r::l=>match ij k x r.1 with|true=>r::l|false=>r::lG k x z l
def nI{K V:Type}(y:V):U→L (K×V)→L (K×V)|_,[]=>[]|0,r::l=>(r.1,y)::l|n+1,r::l=>r::nI y n l
def oQ(k:Ty)(x:k.T):L k.T→ao
 |[]=>I|r::l=>match ij k x r with|true=>W|false=>oQ k x l
def mG(k:Ty)(x:k.T):L k.T→L k.T
 |[]=>[x]|r::l=>match ij k x r with|true=>x::l|false=>r::mG k x l
def G3(t:Ty)(r:aD)(j hv:U):PE (L t.T):=
 .get r λx=>(sure (x.hv==hv)).bind λ_=>match x.at j with|.l .own t2 ys=>if h:t2=t then .ret (h▸ys)else .fail|.l .data t2 ys=>if h:t2=t then .ret (h▸ys)else .fail|.n .own t2 o=>if h:t2=t then .call [] o λys=>.ret (h▸ys)else .fail|.n .data t2 o=>if h:t2=t then .call [] o λys=>.ret (h▸ys)else .fail|_=>.fail
def rc(t:Ty):E→PE (L t.T)|.ck .map=>.ret []|.l .data a xs=>if h:a=t then .ret (h▸xs)else .fail|.n .data a o=>if h:a=t then .call [] o λxs=>.ret (h▸xs)else .fail|.l (.aS r j hv _ _) a _=>if a=t then G3 t r j hv else .fail|.n (.aS r j hv _ _) a b=>if a=t then .call [] b λ_=>G3 t r j hv else .fail|_=>.fail
def aE.isAgg:aE→ao|.agg _=>W|_=>I
def NM(v:Ty)(y:v.T):PE aE:=
 match v.agg with
 |true=>.ret (.agg (dM v y))|false=>match dM v y with|[c]=>.ret (.one c)|_=>.fail
def vZ(sh:L Sc)(ki ei:TI)(k v:Ty)(b:U)(c:ao):ao:=(match nF k with|some a=>decide (a=sh)|none=>I)&&k.w==ki.size&&k.agg==ki.kind.agg&&b==ei.size&&c==ei.kind.agg
def v7(k:Ty)(a:aE):Q k.T:=
 match a.isAgg==k.agg,a.ew with|true,J cs=>jS k cs|_,_=>O
def NN(cfg:dJ)(t:aW)(c:E)(a:aE)(ok:ao):PE aE:=
 match ib cfg.c t with
 |some (kt,ki,ei)=>match pI cfg.c kt,ei.zero,lk t cfg.R with
  |some sh,J z,J (.bB u k v)=>match v7 k a with
   |some x=>do
    sure (vZ sh ki ei k v v.w v.agg&&sV v z&&(v.agg||v.w==1))
    let xs ←rc (.bB u k v) c
    match ok with|true=>.ret (.aX [(v.agg,dM v ((cF k x xs).getD v.zero)),(I,[.b (cF k x xs).isSome])])|false=>NM v ((cF k x xs).getD v.zero)
   |none=>.fail
  |some sh,J [],J (.set k)=>match v7 k a with
   |some x=>do
    sure (vZ sh ki ei k k 0 W)
    let xs ←rc (.set k) c
    match ok with|true=>.ret (.aX [(W,[]),(I,[.b (oQ k x xs)])])|false=>.ret (.agg [])
   |none=>.fail
  |_,_,_=>.fail
 |none=>.fail
def G4{α:Type}(t:Ty)(r:aD)(j:U)(x:cX)(cond:Q (L t.T→ao))(F:L t.T→L t.T)(out:L t.T→α)(ys:L t.T):PE α:=
 match cond with
 |none=>(jR r {x with cv:=x.cv+1,v:=x.v.setCell j (.l .own t (F ys))}).bind λ_=>.ret (out ys)
 |some c=>(ask (c ys)).bind λ_=>(jR r {x with cv:=x.cv+1,v:=x.v.setCell j (.l .own t (F ys))}).bind λ_=>.ret (out ys)
def G5{α:Type}(t:Ty)(r:aD)(j hv:U)(cond:Q (L t.T→ao))(F:L t.T→L t.T)(out:L t.T→α):PE α:=
 .get r λx=>(sure (x.hv==hv&& !r.isArg)).bind λ_=>match x.at j with|.l .own t2 ys=>if h:t2=t then G4 t r j x cond F out (h▸ys)else .fail|.n .own t2 o=>if h:t2=t then .call [] o λys=>G4 t r j x cond F out (h▸ys)else .fail|_=>.fail
def sW{α:Type}(t:Ty)(c:E)(cond:Q (L t.T→ao))(F:L t.T→L t.T)(out:L t.T→α):PE α:=
 match c with|.l (.aS r j hv _ _) a _=>if a=t then G5 t r j hv cond F out else .fail|.n (.aS r j hv _ _) a b=>if a=t then .call [] b λ_=>G5 t r j hv cond F out else .fail|_=>.fail
def NO(cfg:dJ)(t:aW)(c:E)(b a:aE):PE bu:=
 match ib cfg.c t with
 |some (kt,ki,ei)=>match pI cfg.c kt,lk t cfg.R with
  |some sh,J (.bB u k v)=>match v7 k b,a.ew with
   |some x,J d=>do
    sure (vZ sh ki ei k v v.w v.agg&&a.isAgg==v.agg&&d.length==v.w)
    let ds ←sU d
    match jS v ds with
    |some y=>match u with|true=>sW (.bB W k v) c O (λxs=>NL k x y xs) λ_=>()|false=>sW (.bB I k v) c O (λxs=>eI k x y xs) λ_=>()
    |none=>.fail
   |_,_=>.fail
  |some sh,J (.set k)=>match v7 k b,a.ew with
   |some x,J []=>do
    sure (vZ sh ki ei k k 0 W&&a.isAgg)
    sW (.set k) c O (λxs=>mG k x xs) λ_=>()
   |_,_=>.fail
  |_,_=>.fail
 |none=>.fail
def NP(cfg:dJ)(t:aW)(c:E)(a:aE):PE aE:=
 match ib cfg.c t with
 |some (kt,ki,ei)=>match pI cfg.c kt,ei.zero,lk t cfg.R with
  |some sh,J z,J (.bB I k v)=>match v7 k a with
   |some x=>do
    sure (vZ sh ki ei k v v.w v.agg&&sV v z&&(v.agg||v.w==1))
    sW (.bB I k v) c O (λxs=>lG k x v.zero xs) λxs=>.aX [(v.agg,dM v ((cF k x xs).getD v.zero)),(I,[.i .i64 (kP k x xs)])]
   |none=>.fail
  |_,_,_=>.fail
 |none=>.fail
def NQ(cfg:dJ)(t:aW)(c st:E)(a:aE):PE bu:=
 match ib cfg.c t,lk t cfg.R,st,a.ew with
 |some (_,ki,ei),J (.bB I k v),.i _ n,J b=>do
  sure (k.w==ki.size&&k.agg==ki.kind.agg&&v.w==ei.size&&v.agg==ei.kind.agg&&a.isAgg==v.agg&&b.length==v.w)
  let ds ←sU b
  match jS v ds with|some y=>sW (.bB I k v) c (J λxs=>decide (0≤n∧n<af xs)) (λxs=>nI y n.toNat xs) λ_=>()|none=>.fail
 |_,_,_,_=>.fail
def NR(cfg:dJ)(t:aW)(dst:U):PE aE:=
 match ib cfg.c t,lk t cfg.R with
 |some (_,ki,ei),J (.bB u k v)=>do
  sure (k.w==ki.size&&k.agg==ki.kind.agg&&v.w==ei.size&&v.agg==ei.kind.agg&&u==cfg.un.contains dst)
  .ret (.one (.l .own (.bB u k v) []))
 |some (_,ki,ei),J (.set k)=>do
  sure (k.w==ki.size&&k.agg==ki.kind.agg&&0==ei.size&&W==ei.kind.agg&& !cfg.un.contains dst)
  .ret (.one (.l .own (.set k) []))
 |_,_=>.fail
def NS(cfg:dJ)(t:aW)(c:E):PE aE:=
 match ib cfg.c t,lk t cfg.R with
 |some (_,ki,ei),J (.bB I k v)=>do
  sure (k.w==ki.size&&k.agg==ki.kind.agg&&v.w==ei.size&&v.agg==ei.kind.agg)
  let d ←nE c
  match d with|.l .data a xs=>if h:a=.bB I k v then .ret (.one (.it .own (.bB I k v) (h▸xs) []))else .fail|.n .data a o=>if h:a=.bB I k v then .call [] o λxs=>.ret (.one (.it .own (.bB I k v) (h▸xs) []))else .fail|_=>.fail
 |_,_=>.fail
def BE(k v:Ty)(r:k.T×v.T):L (ao×L E):=[(k.agg,dM k r.1),(v.agg,dM v r.2)]
def BF(u:ao)(k v:Ty):ao:=r9 (Ty.bB u k v).e==k.w&&va (Ty.bB u k v).e==k.agg&&vf (Ty.bB u k v).e==v.agg
def NT(c:E):PE aE:=
 match c with
 |.it (.aS r j hv _ _) _ _ _=>.get r λx=>do
  sure (x.hv==hv&& !r.isArg)
  match x.at j with
  |.it .own (.bB u k v) xs (i::_)=>do
   sure (BF u k v)
   ask (bw i (List.length (α:=k.T×v.T) xs))
   .ret (.aX (BE k v (List.getD (α:=k.T×v.T) xs i (k.zero,v.zero))))
  |_=>.fail
 |_=>.fail
def NU(cfg:dJ)(t:aW)(c:E):PE aE:=
 match ib cfg.c t,lk t cfg.R with
 |some (_,ki,ei),J (.bB u k v)=>do
  sure (k.w==ki.size&&k.agg==ki.kind.agg&&v.w==ei.size&&v.agg==ei.kind.agg)
  let xs ←rc (.bB u k v) c
  .ret (eH .i64 (af xs))
 |some (_,ki,ei),J (.set k)=>do
  sure (k.w==ki.size&&k.agg==ki.kind.agg&&0==ei.size&&W==ei.kind.agg)
  let xs ←rc (.set k) c
  .ret (eH .i64 (af xs))
 |_,_=>.fail
def mH:L E→L Key|[]=>[]|.ptr k _::cs=>k::mH cs|.cy _ caps::cs=>caps.map (·.1)++mH cs|_::cs=>mH cs
def BG(cfg:bg):E→PE E
 |.l (.aS (.tmp u) j hv cv k) t xs=>match cfg.keep u with|true=>.ret (.l (.aS (.tmp u) j hv cv k) t xs)|false=>nE (.l (.aS (.tmp u) j hv cv k) t xs)
 |.n (.aS (.tmp u) j hv cv k) t o=>match cfg.keep u with|true=>.ret (.n (.aS (.tmp u) j hv cv k) t o)|false=>nE (.n (.aS (.tmp u) j hv cv k) t o)
 |.l (.aS (.box q) j hv cv k) t xs=>match cfg.pE with|false=>.ret (.l (.aS (.box q) j hv cv k) t xs)|true=>nE (.l (.aS (.box q) j hv cv k) t xs)
 |.n (.aS (.box q) j hv cv k) t o=>match cfg.pE with|false=>.ret (.n (.aS (.box q) j hv cv k) t o)|true=>nE (.n (.aS (.box q) j hv cv k) t o)
 |.it m t xs a=>match m with|.aS .. =>.fail|m=>.ret (.it m t xs a)
 |c=>.ret c
def G6(cfg:bg)(c:E):PE E:=BG cfg c
def BH(cfg:bg):L E→PE (L E)|[]=>.ret []|c::cs=>do let a ←G6 cfg c;let r ←BH cfg cs;.ret (a::r)
def yJ(cfg:bg):aE→PE aE|.one c=>do .ret (.one (←G6 cfg c))|.agg cs=>do .ret (.agg (←BH cfg cs))|_=>.fail
def G7(cfg:bg):L aE→PE (L aE)|[]=>.ret []|v::vs=>do let a ←yJ cfg v;let r ←G7 cfg vs;.ret (a::r)
def yK(ks:L Key):E→PE E
 |.l (.aS r j hv cv _) t xs=>.get r λx=>do
  sure (x.hv==hv&&x.cv==cv)
  match x.at j with
  |.l .own _ _=>do
   sure (ks.all λk=> !fU r (.box k))
   .ret (.l .own t xs)
  |.n .own _ o=>.call [] o λ_=>do
   sure (ks.all λk=> !fU r (.box k))
   .ret (.l .own t xs)
  |.l .data _ _=>.ret (.l .data t xs)|.n .data _ o=>.call [] o λ_=>.ret (.l .data t xs)|_=>.fail
 |.n (.aS r j hv cv _) t o=>.get r λx=>do
  sure (x.hv==hv&&x.cv==cv)
  match x.at j with
  |.n .own _ _=>do
   yF j x o.isSome
   sure (ks.all λk=> !fU r (.box k))
   .ret (.n .own t o)
  |.n .data _ _=>do
   yF j x o.isSome
   .ret (.n .data t o)
  |_=>.fail
 |.ptr k off=>.ret (.ptr (.inb (idx k ks)) off)|.cy f caps=>.ret (.cy f (caps.map λp=>(.inb (idx p.1 ks),p.2)))|c=>match mF c with|true=>.ret c|false=>.fail
def BJ(ks:L Key):L E→PE (L E)|[]=>.ret []|c::cs=>do let a ←yK ks c;let r ←BJ ks cs;.ret (a::r)
def yL(ks:L Key):aE→PE aE|.one c=>do .ret (.one (←yK ks c))|.agg cs=>do .ret (.agg (←BJ ks cs))|_=>.fail
def G8(ks:L Key):L aE→PE (L aE)|[]=>.ret []|v::vs=>do let a ←yL ks v;let r ←G8 ks vs;.ret (a::r)
def p5:E→ao|.i _ _|.b _|.tt|.ff|.s _|.l .data _ _|.n .data _ _|.l .own _ _|.n .own _ _|.nil|.ck _|.r _ _=>W|_=>I
def jT(ks:L Key):E→ao|.ptr k _=>ks.any (eX k)|.dead=>W|c=>p5 c
def kz(ks:L Key):E→E|.ptr k off=>.ptr (.inb (idx k ks)) off|c=>c
def Ha:Q E→ao|some .dead=>W|some c=>p5 c|none=>W
def oR(a:L Key):L Key→PE (L (L E))
 |[]=>.ret []|k::ks=>.get (.box k) λx=>match x.v with|.agg cs=>do sure (cs.all (jT a));let r ←oR a ks;.ret (cs.map (kz a)::r)|_=>.fail
def Hb:L Key→PE (L Key)
 |[]=>.ret []|k::ks=>.get (.box k) λx=>match x.v with|.agg cs=>do let r ←Hb ks;.ret (mH cs++r)|_=>.fail
def BK:L E→L (Q E)→ao|[.ptr _ _],[]=>W|[.ptr _ _],O::_=>W|_,_=>I
def BL(a:L Key):L Key→L (L (Q E))→PE bu
 |[],_=>.ret ()|k::ks,o::os=>.get (.box k) λx=>match x.v with
  |.agg cs=>do
   sure (cs.all (jT a)&&o.all Ha)
   match BK cs o with|true=>BL a ks os|false=>.wr k o (BL a ks os)
  |_=>.fail
 |_,_=>.fail
def Hc(t:U):U→L (L E)→PE bu
 |_,[]=>.ret ()|i,b::a=>.get (.box (.esc t i)) λx=>match x.v with|.undef=>do sure (b.all p5);jR (.box (.esc t i)) {hv:=x.hv+1,cv:=x.cv,v:=.agg b};Hc t (i+1) a|_=>.fail
def NV(args:L aE)(l:L (U×U)):ao:=l.all λp=>mF ((args.getD p.1 .undef).cells.getD p.2 .dead)
def He(ks:L Key)(t:U):E→PE E
 |.ptr (.inb i) off=>.ret (.ptr (L5 ks t (.inb i)) off)|.cy f caps=>do sure caps.isEmpty;.ret (.cy f [])|c=>match p5 c with|true=>.ret c|false=>.fail
def yM(ks:L Key)(t:U):L E→PE (L E)|[]=>.ret []|c::cs=>do let a ←He ks t c;let r ←yM ks t cs;.ret (a::r)
def BN(ks:L Key)(t:U):L (ao×L E)→PE (L (ao×L E))|[]=>.ret []|(b,cs)::vs=>do let a ←yM ks t cs;let r ←BN ks t vs;.ret ((b,a)::r)
def sX(ks:L Key)(t:U):aE→PE aE|.one c=>do .ret (.one (←He ks t c))|.agg cs=>do .ret (.agg (←yM ks t cs))|.aX vs=>do .ret (.aX (←BN ks t vs))|.undef=>.fail
def wb(K:cw)(ks:L Key)(a:L aE)(t:U)(x:K.A)(y:K.R)(b:ao):PE aE:=do
 sure (fi ks.length (K.out x y b).2.length&&NV a K.bR)
 BL ks ks ((K.out x y b).2.take ks.length)
 Hc t 0 (((K.out x y b).2.drop ks.length).map yI)
 sX ks t (K.out x y b).1
def NW(cfg:dJ)(f:cY)(b:L aE)(t:U):PE aE:=
 match cfg.eu t f with
 |none=>.fail|some K=>do
  let args ←G7 cfg.c b
  let more ←Hb (dedup (mH (args.flatMap aE.cells)))
  let ks:=dedup (mH (args.flatMap aE.cells)++more)
  let a ←G8 ks args
  let e ←oR ks ks
  match K.dI a e with
  |none=>.fail|some x=>.call K.d (K.sh x) λy=>match K.two with|false=>wb K ks a t x y W|true=>.br (K.flag y) (wb K ks a t x y W) (wb K ks a t x y I)
def Wz(o:bO):PE (cY×L aE):=
 match o with
 |.func f=>.ret (f,[])|o=>do
  match ←eG o with|.cy f caps=>.ret (f,caps.map λp=>.one (.ptr p.1 p.2))|_=>.fail
def BO(cfg:bg)(c:E)(r:aD):ao:=
 match r with
 |.tmp u=> !cfg.var.contains u||(match c with|.ptr (.loc t) _=>cfg.res.contains t|_=>I)
 |.box (.loc _)=>(match c with|.ptr (.loc t) _=>cfg.res.contains t|_=>I)
 |_=>I
def BP(self:aD×U)(u:bO):E→PE E
 |.l (.aS r j hv cv k) t xs=>match qO u r with|true=>Bx (J self) (qO u) (.l (.aS r j hv cv k) t xs)|false=>.ret (.l (.aS r j hv cv k) t xs)
 |.n (.aS r j hv cv k) t o=>match qO u r with|true=>Bx (J self) (qO u) (.n (.aS r j hv cv k) t o)|false=>.ret (.n (.aS r j hv cv k) t o)
 |.it m t xs a=>match m with|.aS .. =>.fail|m=>.ret (.it m t xs a)
 |c=>.ret c
def yN(r:aD)(u:bO):U→L E→PE (L E)|_,[]=>.ret []|i,c::cs=>do let b ←BP (r,i) u c;let a ←yN r u (i+1) cs;.ret (b::a)
def BQ(r:aD)(u:bO):U→L (ao×L E)→PE (L (ao×L E))|_,[]=>.ret []|i,(b,cs)::vs=>do let a ←yN r u i cs;let c ←BQ r u (i+cs.length) vs;.ret ((b,a)::c)
def qa(r:aD)(u:bO):aE→PE aE|.one c=>do .ret (.one (←BP (r,0) u c))|.agg cs=>do .ret (.agg (←yN r u 0 cs))|.aX vs=>do .ret (.aX (←BQ r u 0 vs))|.undef=>.fail
def yO:Q bO→PE (Q M)|none=>.ret O|some o=>do .ret (J (←sQ (←eG o)))
def gN(a b:M):M:=if b<a then b else a
def mI(a b:M):M:=if b>a then b else a
def Hf(c:ao):L aE→PE aE|[.one (.i k a),.one (.i _ b)]=>.ret (eH k (match c with|true=>gN a b|false=>mI a b))|_=>.fail
def WA:aE→Q (Key×U)|.one (.ptr k o)=>J (k,o)|_=>O
def BR:L aE→Q (L (Key×U))
 |[]=>J []|v::r=>match WA v,BR r with|some p,J l=>J (p::l)|_,_=>O
def know(o:bO)(b:ao):PE bu:=
 match o with|.tmp t=>.know (.tmp t) b (.ret ())|_=>.ret ()
def dS(cfg:dJ)(op:Op)(dst:U):PE aE:=
 match op with
 |.move x=>do
  let v ←dR x
  match Vs.isVar cfg.c x with|true=>.ret v|false=>qa (.tmp dst) x v
 |.assign x=>do
  let v ←dR x
  qZ (.tmp dst) (TP cfg.c dst) v
 |.pick c a b=>do
  match ←eG c with|.tt=>dR a|.ff=>dR b|.b x=>.br x (do know c W;dR a) (do know c I;dR b)|_=>.fail
 |.alloc t=>match cfg.c.ti t with
  |some {size,zero:=J z, ..}=>do
   sure (z.length==size)
   .get (.box (.loc dst)) λx=>match x.v with
    |.undef=>match vY z with|some cs=>do jR (.box (.loc dst)) {hv:=x.hv+1,cv:=x.cv,v:=.agg cs};.ret (.one (.ptr (.loc dst) 0))|none=>.fail
    |_=>.fail
  |_=>.fail
 |.box _ x=>do
  let v ←dR x
  match v.ew with
  |some cs=>do
   let cs' ←sT (λn=>(.box (.loc dst),n)) (BO cfg.c (.ptr (.loc dst) 0)) 0 cs
   .get (.box (.loc dst)) λx=>match x.v with|.undef=>do jR (.box (.loc dst)) {hv:=x.hv+1,cv:=x.cv,v:=.agg cs'};.ret (.one (.ptr (.loc dst) 0))|_=>.fail
  |none=>.fail
 |.build t ps=>Ny cfg.c t ps.toList|.buildSlice t len ps=>Nz cfg t len ps.toList|.load t a=>match cfg.c.ti t with|some i=>do yH i (←eG a)|none=>.fail
 |.nilCheck x=>do
  match ←eG x with|.ptr k o=>.ret (.one (.ptr k o))|.ea r j hv e i o=>.ret (.one (.ea r j hv e i o))|.da t x o=>.ret (.one (.da t x o))|_=>.fail
 |.binOp op t x y _=>do
  match ←dR x,←dR y with|.one a,.one b=>Nq cfg.c t op a b|.agg xs,.agg ys=>Nr cfg.c t op xs ys|_,_=>.fail
 |.unOp op _ x=>do
  match op,←eG x with|.neg,.i k n=>.ret (eH k (k.wrap (0-n)))|.xor,.i k n=>BA .xor k (if k.signed then-1 else k.max) n|.not,.b b=>.ret (ji (!b))|.not,.tt=>.ret (.one .ff)|.not,.ff=>.ret (.one .tt)|_,_=>.fail
 |.convert s t x=>do NJ cfg.c s t (←dR x)|.makeFunc (.func f) first captured=>do
  sure (first.toList.isEmpty)
  let vs ←vV captured.toList
  match BR vs with|some l=>.ret (.one (.cy f l))|none=>.fail
 |.makeSlice t l c=>do
  let n ←sQ (←eG l)
  let m ←sQ (←eG c)
  NA cfg t n m
 |.slice t x lo hi O=>match cfg.c.ti t with
  |some {kind:=.str, ..}=>do
   let v ←dR x
   let l ←yO lo
   let h ←yO hi
   NH v l h
  |some {kind:=.slice et, ..}=>match cfg.c.ti et with
   |some i=>do
    let v ←dR x
    let l ←yO lo
    let h ←yO hi
    NI i.size v l h
   |none=>.fail
  |_=>.fail
 |.fieldAddr t x f=>do .ret (.one (←Nt cfg.c t (←eG x) f))|.field t x f=>do
  match cfg.c.ti t,←dR x with
  |some {kind:=.struct fs, ..},.agg cs=>match fs[f]? with
   |some (o,ft')=>match cfg.c.ti ft' with|some i=>ra i cs o|none=>.fail
   |none=>.fail
  |_,_=>.fail
 |.indexAddr t x ix=>match x with
  |.global g=>do
   let n ←sQ (←eG ix)
   .ret (.one (←Nu cfg.c t g n))
  |x=>do
   let c ←eG x
   let n ←sQ (←eG ix)
   .ret (.one (←Nv cfg.c t c n))
 |.index t x ix=>do
  let v ←dR x
  let n ←sQ (←eG ix)
  Nx cfg.c t v n
 |.extract x n=>do
  match ←dR x with
  |.aX vs=>match vs[n]? with|some (W,cs)=>qa (.tmp dst) x (.agg cs)|some (I,[c])=>qa (.tmp dst) x (.one c)|_=>.fail
  |_=>.fail
 |.call {callee:=.builtin .len,args,argTypes}=>match args.toList,argTypes.toList with
  |[x],[t]=>match cfg.c.ti t with|some {kind:=.str, ..}=>do G0 W (←dR x)|some {kind:=.slice _, ..}=>do G0 I (←dR x)|some {kind:=.map _ _, ..}=>do NU cfg t (←eG x)|_=>.fail
  |_,_=>.fail
 |.range t x=>do NS cfg t (←eG x)|.entry x=>do NT (←eG x)|.makeMap t O=>NR cfg t dst|.lookup t x ix ok=>do
  let c ←eG x
  let v ←dR ix
  NN cfg t c v ok
 |.mapEntry t m k=>do
  let c ←eG m
  let v ←dR k
  NP cfg t c v
 |.call {callee:=.builtin .append,args,argTypes}=>match args.toList,argTypes.toList with
  |[x,y],[t,t2]=>match cfg.c.ti t with
   |some {kind:=.slice et, ..}=>match cfg.c.ti et,lk et cfg.R with
    |some i,J ty=>match cfg.c.ti t2 with
     |some {kind:=.int .i64, ..}=>do
      let c ←eG x
      let n ←sQ (←eG y)
      NG i ty c n
     |_=>do
      let c ←eG x
      let c2 ←eG y
      let ys ←NE cfg.c i ty t2 c2
      ND i ty c ys (isLit cfg.c.var c2)
    |_,_=>.fail
   |_=>.fail
  |_,_=>.fail
 |.call {callee:=.builtin .cap,args,argTypes}=>match args.toList,argTypes.toList with
  |[x],[t]=>match cfg.c.ti t with|some {kind:=.slice _, ..}=>do NF (←eG x)|_=>.fail
  |_,_=>.fail
 |.call {callee:=.builtin .min,args, ..}=>do Hf W (←vV args.toList)|.call {callee:=.builtin .max,args, ..}=>do Hf I (←vV args.toList)|.call {callee:=.value o,args, ..}=>do
  let (f,caps) ←Wz o
  let vs ←vV args.toList
  NW cfg f (vs++caps) dst
 |_=>.fail
def yP(cfg:dJ)(t:U)(v:aE):PE bu:=
 .get (.tmp t) λx=>do
  sure (bw t cfg.N)
  jR (.tmp t) {hv:=x.hv+1,cv:=x.cv,v}
def mJ(cfg:dJ)(o:ch):PE bu:=
 match o.op,o.dst with
 |.store t a x,O=>match cfg.c.ti t with
  |some i=>do
   let c ←eG a
   let v ←dR x
   Ns (BO cfg.c c) i c v
  |none=>.fail
 |.mapUpdate t m k x,O|.insert t m k x,O=>do
  let c ←eG m
  let b ←dR k
  let vx ←dR x
  NO cfg t c b vx
 |.entryStore t m st x,O=>do
  let c ←eG m
  let s ←eG st
  let vx ←dR x
  NQ cfg t c s vx
 |op,J d=>do yP cfg d (←dS cfg op d)|_,O=>.fail
def Hg(cfg:dJ)(e:bv ch)(o:ch):PE bu:=
 match o.guard with
 |none=>mJ cfg o|some (j,c)=>do
  let a:PE bu:=match o.dst with|some d=>yP cfg d (.aX [])|none=>.ret ()
  match(e[j]?).bind (·.dst)with
  |some t=>.get (.tmp t) λx=>match x.v with
   |.one .tt=>match c with|true=>mJ cfg o|false=>a
   |.one .ff=>match c with|true=>a|false=>mJ cfg o
   |.one (.b b)=>match c with|true=>.br b (.know (.tmp t) W (mJ cfg o)) (.know (.tmp t) I a)|false=>.br b (.know (.tmp t) W a) (.know (.tmp t) I (mJ cfg o))
   |.aX []=>a|_=>.fail
  |none=>.fail
def qb(cfg:dJ)(a:bv ch):L ch→aU→Tr (aU×L (L aD×L aD))|[],s=>.leaf (s,[])|o::r,s=>((Hg cfg a o).both s).bind λx=>(qb cfg a r x.2.1).bind λy=>.leaf (y.1,(x.2.2.1,x.2.2.2)::y.2)
namespace Tr
def sY{α β:Type}(t:Tr α)(f:α→Tr β)(Q:β→Prop):(t.bind f).box Q↔t.box λa=>(f a).box Q:=by
 induction t with|leaf a=>rfl|fail=>exact rW|br c t e b g=>simp only[bind,box,b,g]|call d o k h=>simp only[bind,box,h]|sum o k k' h i=>simp only[bind,box,h,i]
theorem qc{α β:Type}(t:Tr α)(f:α→β)(Q:β→Prop):(t.map f).box Q↔t.box λa=>Q (f a):=by
 induction t with|leaf a=>rfl|fail=>exact rW|br c t e b g=>simp only[map,box,b,g]|call d o k h=>simp only[map,box,h]|sum o k k' h i=>simp only[map,box,h,i]
theorem mK{α:Type}{t:Tr α}{Q Q':α→Prop}(h:∀a,Q a→Q' a)(b:t.box Q):t.box Q':=by
 induction t with|leaf a=>exact h _ b|fail=>trivial|br c t e g i=>exact⟨λj=>g (b.1 j),λj=>i (b.2 j)⟩|call d o k l=>exact λx f=>l x (b x f)|sum o k k' l m=>exact⟨λx f=>l x (b.1 x f),λx f=>m x (b.2 x f)⟩
def jk{α β:Type}(t:Tr α)(f:α→Tr β)(Q:β→Prop):(t.bind f).each Q↔t.each λa=>(f a).each Q:=by
 induction t with|leaf a=>rfl|fail=>exact rW|br c t e b g=>simp only[bind,each,b,g]|call d o k h=>simp only[bind,each,h]|sum o k k' h i=>simp only[bind,each,h,i]
theorem jU{α β:Type}(t:Tr α)(f:α→β)(Q:β→Prop):(t.map f).each Q↔t.each λa=>Q (f a):=by
 induction t with|leaf a=>rfl|fail=>exact rW|br c t e b g=>simp only[map,each,b,g]|call d o k h=>simp only[map,each,h]|sum o k k' h i=>simp only[map,each,h,i]
theorem fJ{α:Type}{t:Tr α}{Q Q':α→Prop}(h:∀a,Q a→Q' a)(b:t.each Q):t.each Q':=by
 induction t with|leaf a=>exact h _ b|fail=>trivial|br c t e f g=>exact⟨f b.1,g b.2⟩|call d o k i=>exact λx=>i x (b x)|sum o k k' i j=>exact⟨λx=>i x (b.1 x),λx=>j x (b.2 x)⟩
def yQ{α:Type}(t:Tr α):t.each λ_=>cZ:=by
 induction t with|leaf a=>trivial|fail=>trivial|br c t e b f=>exact⟨b,f⟩|call d o k g=>exact g|sum o k k' g h=>exact⟨g,h⟩
def sZ{α:Type}{t:Tr α}{Q:α→Prop}(b:t.each Q):t.box Q:=by
 induction t with|leaf a=>exact b|fail=>trivial|br c t e f g=>exact⟨λ_=>f b.1,λ_=>g b.2⟩|call d o k h=>exact λx _=>h x (b x)|sum o k k' h i=>exact⟨λx _=>h x (b.1 x),λx _=>i x (b.2 x)⟩
def rf{α:Type}{t:Tr α}{Q p:α→Prop}(h:t.all Q)(f:t.box p):t.all λa=>Q a∧p a:=by
 induction t with
 |leaf a=>exact⟨h,f⟩|fail=>exact h|br c t e j l=>exact⟨λi=>j (h.1 i) (f.1 i),λi=>l (h.2 i) (f.2 i)⟩|call d o k m=>let⟨x,b,g⟩:=h;exact⟨x,b,m x g (f x b)⟩
 |sum o k k' m n=>exact⟨λx b=>m x (h.1 x b) (f.1 x b),λx b=>n x (h.2 x b) (f.2 x b)⟩
def WB{α:Type}{t:Tr α}{Q l:α→Prop}(h1:t.box Q)(h2:t.box l):t.box λa=>Q a∧l a:=by
 induction t with|leaf a=>exact⟨h1,h2⟩|fail=>trivial|br c t e g h=>exact⟨λf=>g (h1.1 f) (h2.1 f),λf=>h (h1.2 f) (h2.2 f)⟩|call d o k i=>exact λx b=>i x (h1 x b) (h2 x b)|sum o k k' i j=>exact⟨λx b=>i x (h1.1 x b) (h2.1 x b),λx b=>j x (h1.2 x b) (h2.2 x b)⟩
theorem yR{α:Type}(t:Tr α)(Q:α→Prop):t.all Q↔ ∃a,t.run=J a∧Q a:=by
 induction t with
 |leaf a=>simp[all,run]|fail=>simp[all,run]|br c t e b f=>cases c<;>simp[all,run,b,f]
 |call d o k g=>cases o<;>simp[all,run,ak,g]
 |sum o k k' g h=>cases o<;>simp[all,run,cC,g,h]
theorem run_bind{α β:Type}(t:Tr α)(f:α→Tr β):(t.bind f).run=t.run.bind λa=>(f a).run:=by
 induction t with
 |leaf a=>rfl|fail=>rfl|br c t e b g=>cases c<;>simp[bind,run,b,g]
 |call d o k h=>cases o<;>simp[bind,run,ak,h]
 |sum o k k' h i=>cases o<;>simp[bind,run,cC,h,i]
def run_map{α β:Type}(t:Tr α)(f:α→β):(t.map f).run=t.run.map f:=by
 induction t with
 |leaf a=>rfl|fail=>rfl|br c t e b g=>cases c<;>simp[map,run,b,g]
 |call d o k h=>cases o<;>simp[map,run,ak,h]
 |sum o k k' h i=>cases o<;>simp[map,run,cC,h,i]
end Tr
theorem rh{α:Type}:∀(l:L α)(j:U)(c:α),jQ l j c=l.set j c|[],j,c=>by simp[jQ]|x::r,0,c=>rfl|x::r,j+1,c=>by simp[jQ,rh r j c]
def WC(cs:L E)(j:U)(c:E):aJ (jQ cs j c)=(aJ cs).set j (cE c):=by rw[rh];simp[aJ,List.map_set]
@[simp] def qd(cs:L E):(aJ cs).length=cs.length:=by simp[aJ]
@[simp] def NY(l m:L E):aJ (l++m)=aJ l++aJ m:=by simp[aJ]
def WD:∀(vs:L (ao×L E)),(dX vs).flatMap (·.2)=aJ (vs.flatMap (·.2))|[]=>rfl|(b,cs)::r=>by have:=WD r;simp_all [dX]
def Hh(v:aE):(aA v).cells=aJ v.cells:=by
 cases v with|aX vs=>exact WD vs|_=>rfl
def getD_map{α β:Type}(f:α→β)(l:L α)(j:U)(d:α):(l.map f).getD j (f d)=f (l.getD j d):=by grind
def at_eq(x:cX)(j:U):(bV x).at j=cE (x.at j):=by show(aA x.v).cells.getD j .dead=_;rw[Hh];exact getD_map cE _ j .dead
def WE:∀(vs:L (ao×L E))(j:U)(c:E),dX (Bt vs j c)=pB (dX vs) j (cE c)|[],j,c=>rfl|(b,cs)::r,j,c=>by have a:=WE r (j-cs.length) c;simp only[Bt,dX,dO,pB,qd]at a ⊢;split<;>simp[WC,a]
theorem setCell_eq(v:aE)(j:U)(c:E):aA (v.setCell j c)=(aA v).setCell j (cE c):=by
 cases v with|one x=>show aA (if j=0 then .one c else .one x)=if j=0 then .one (cE c)else .one (cE x);split<;>rfl|agg cs=>simp only[aE.setCell,aA,SV.setCell,WC]|aX vs=>simp only[aE.setCell,aA,SV.setCell,WE]|undef=>rfl
theorem WF(v:SV)(j:U)(h:j<v.cells.length):v.setCell j (v.cells.getD j .dead)=v:=by
 cases v with
 |one x=>
  simp only[SV.cells,List.length_singleton]at h;have:j=0:=by omega
  subst this;rfl
 |agg cs=>simp_all [SV.cells,SV.setCell]|aX vs=>
  simp only[SV.cells]at h ⊢;simp only[SV.setCell,SV.aX.injEq];induction vs generalizing j with|nil=>rfl|cons p r a=>let⟨b,cs⟩:=p;simp only[lq,List.length_append]at h;simp only[pB,lq];split;simp_all;grind
 |undef=>simp[SV.cells]at h
def ta(m:Md)(t:Ty)(o:Q (L t.T))(h:o.isSome=W):cE (.n m t o)=cE (.l m t (o.getD [])):=by
 cases o with
 |none=>cases h
 |some xs=>rfl
def WG(r:aD)(x:cX)(j:U)(c:E):cE (sP r x j c)=mj r (bV x) j (cE c):=by
 cases c with
 |l m t xs=>cases m<;>rfl
 |n m t o=>cases m<;>cases o<;>rfl
 |it m t xs a=>cases m<;>rfl
 |gone b=>cases b<;>rfl
 |_=>rfl
theorem Hj(r:aD)(x:cX):∀(j:U)(cs:L E),aJ (vU r x j cs)=gI r (bV x) j (aJ cs)|j,[]=>rfl|j,c::cs=>by have:=Hj r x (j+1) cs;simp_all [aJ,vU,gI,WG]
def WH(r:aD)(x:cX):∀(j:U)(vs:L (ao×L E)),dX (Bu r x j vs)=sa r (bV x) j (dX vs)|j,[]=>rfl|j,(b,cs)::vs=>by have:=WH r x (j+cs.length) vs;simp_all [dX,Bu,sa,Hj]
def copy_eq(x:cX)(r:aD):aA (x.copy r)=(bV x).copy r:=by
 let⟨hv,cv,v⟩:=x;cases v with|one c=>exact bz SV.one (WG r _ 0 c)|agg cs=>exact bz SV.agg (Hj r _ 0 cs)|aX vs=>exact bz SV.aX (WH r _ 0 vs)|undef=>rfl
theorem WI{v:az}{e:E}(h:Bv v=J e):∃d,reflect v=J d∧cE e=.d d:=by unfold Bv at h;split at h<;>first|(cases h;exact⟨_,rfl,rfl⟩)|(rename_i b;cases h;cases b<;>exact⟨_,rfl,rfl⟩)|(cases h;done)
theorem WJ:∀{vs:L az}{es:L E},GU vs=J es→∃ds,ko vs=J ds∧aJ es=ds.map .d
 |[],es,h=>by cases h;exact⟨[],rfl,rfl⟩
 |v::r,es,h=>by unfold GU at h;split at h;rename_i d ds h1 h2;cases h;let⟨x,a,b⟩:=WI h1;let⟨xs,c,e⟩:=WJ h2;simp_all [ko,aJ];cases h
theorem jw:∀(t:Ty)(x:t.T),aJ (dM t x)=(aP t x).map .d
 |.int k,n=>rfl|.bool,b=>rfl|.str,s=>rfl|.sl t,o=>by cases o<;>rfl
 |.pair h t,x=>by have h1:=jw h x.1;have h2:=jw t x.2;simp only[dM,NY,h1,h2,aP,px]|.set h,x=>by simpa[dM,aP]using jw h x|.bB _ h t,x=>by have h1:=jw h x.1;have h2:=jw t x.2;simp only[dM,NY,h1,h2,aP,px]
theorem hI:∀(t:Ty)(x:t.T),(aP t x).length=t.w
 |.int k,n=>rfl|.bool,b=>rfl|.str,s=>rfl|.sl t,o=>by cases o<;>rfl
 |.pair h t,x=>by simp[aP,Ty.w,hI h x.1,hI t x.2]|.set h,x=>by simpa[aP,Ty.w]using hI h x|.bB _ h t,x=>by simp[aP,Ty.w,hI h x.1,hI t x.2]
theorem yS:∀(t:Ty)(cs r:L E)(x:t.T),mE t cs=J (x,r)→∃a,cs=a++r∧aJ a=(aP t x).map .d
 |.int k,cs,r,x,h=>by unfold mE at h;split at h;split at h;rename_i hk;cases h;subst hk;exact⟨[.i _ _],rfl,rfl⟩;cases h;cases h
 |.bool,cs,r,x,h=>by unfold mE at h;split at h<;>cases h;exact⟨[.b _],rfl,rfl⟩;exact⟨[.tt],rfl,rfl⟩;exact⟨[.ff],rfl,rfl⟩
 |.str,cs,r,x,h=>by unfold mE at h;split at h<;>cases h;exact⟨[.s _],rfl,rfl⟩
 |.sl t,cs,r,x,h=>by unfold mE at h;split at h;split at h;rename_i o _ e;subst e;cases h;exact⟨[.n .data _ o],rfl,by cases o<;>rfl⟩;cases h;split at h;rename_i e;subst e;cases h;exact⟨[.l .data _ _],rfl,rfl⟩;cases h;cases h;exact⟨[.nil],rfl,rfl⟩;cases h
 |.pair h t,cs,r,x,c=>by unfold mE at c;split at c;rename_i y g h1;split at c;rename_i z j h2;cases c;obtain⟨a,rfl,f⟩:=yS h _ _ _ h1;obtain⟨b,rfl,f2⟩:=yS t _ _ _ h2;exact⟨a++b,by simp,by simp[f,f2,aP]⟩;cases c;cases c
 |.set k,cs,r,x,h=>yS k cs r x h|.bB _ h t,cs,r,x,c=>by unfold mE at c;split at c;rename_i y g h1;split at c;rename_i z j h2;cases c;obtain⟨a,rfl,f⟩:=yS h _ _ _ h1;obtain⟨b,rfl,f2⟩:=yS t _ _ _ h2;exact⟨a++b,by simp,by simp[f,f2,aP]⟩;cases c;cases c
theorem Hk{t:Ty}{cs:L E}{x:t.T}(h:jS t cs=J x):aJ cs=(aP t x).map .d:=by grind [jS,yS]
theorem jV(a b:Key):eX a b=W↔a=b:=by cases a<;>cases b<;>simp[eX]
theorem td(a b:aD):fU a b=W↔a=b:=by cases a<;>cases b<;>simp[fU,jV]
def tf(r:aD)(x:cX)(q:aD):∀(l:L (aD×cX)),eR q (sO r x l)=if q=r then x else eR q l|[]=>by grind [sO,eR,td]|(p,y)::l=>by have a:=tf r x q l;grind [sO,td,eR]
theorem yT(s:aU){r:aD}(x:cX)(a:r.isArg=I)(q:aD):(s.put r x).get q=if q=r then x else s.get q:=by
 cases q with
 |arg i=>
  have:aD.arg i≠r:=by rintro rfl;cases a
  rw[aK this];rfl
 |tmp t=>exact tf r x _ s.m|box k=>exact tf r x _ s.m
theorem yU(s:aU){r:aD}(x:cX)(a:r.isArg=I):cQ (s.put r x)=(cQ s).set r (bV x):=by grind [cQ,St.set,yT]
def ahX(s:aU){t:U}{c b:ao}(h:(s.get (.tmp t)).v=.one (.b c))(a:c=b):cQ (s.know (.tmp t) b)=cQ s:=by
 funext q;have d:(s.know (.tmp t) b).get q=if q=.tmp t then{(s.get (.tmp t))with v:=.one (kb b)}else s.get q:=by
  cases q with|arg i=>rw[aK (by simp)];rfl|tmp u=>exact tf (.tmp t) _ (.tmp u) s.m|box k=>exact tf (.tmp t) _ (.box k) s.m
 simp only[cQ,d];split;rename_i e;subst e a;have:s.get (.tmp t)={(s.get (.tmp t))with v:=.one (.b c)}:=by rw[←h]
 rw[this];cases c<;>rfl;rfl
def BS(s:aU)(k:Key)(os:L (Q E))(q:aD){cs:L E}(h:(s.get (.box k)).v=.agg cs):(s.wr k os).get q=if q=.box k then{hv:=(s.get (.box k)).hv+1,cv:=(s.get (.box k)).cv,v:=.agg (dQ cs os)}else s.get q:=by
 have a:(eR (.box k) s.m).v=.agg cs:=h;cases q with
 |arg i=>rw[aK (by simp)];rfl|tmp u=>
  have:=tf (.box k) {hv:=(eR (.box k) s.m).hv+1,cv:=(eR (.box k) s.m).cv,v:=match(eR (.box k) s.m).v with|.agg cs=>.agg (dQ cs os)|v=>v} (.tmp u) s.m
  rw[aK (by simp)]at this ⊢;exact this
 |box u=>
  show eR (.box u) (sO (.box k) {hv:=(eR (.box k) s.m).hv+1,cv:=(eR (.box k) s.m).cv,v:=match(eR (.box k) s.m).v with|.agg cs=>.agg (dQ cs os)|v=>v} s.m)=_
  rw[tf];split;rw[a];rfl;rfl
theorem ahY(s:aU)(k:Key)(os:L (Q E)){cs:L E}(h:(s.get (.box k)).v=.agg cs):cQ (s.wr k os)=(cQ s).set (.box k) {hv:=(s.get (.box k)).hv+1,cv:=(s.get (.box k)).cv,v:=.agg (aJ (dQ cs os))}:=by funext q;simp only[cQ,BS s k os q h,St.set];split<;>rfl
def WK:∀(old:L E)(off:U)(cs:L E),off+cs.length≤old.length→dQ old (dk off O++cs.map J)=splice old off cs
 |old,0,cs,h=>by
  have:∀(old cs:L E),cs.length≤old.length→dQ old (cs.map J)=cs++old.drop cs.length:=by
   intro old cs;induction cs generalizing old with
   |nil=>grind [dQ]|cons c cs a=>
    intro h;cases old with|nil=>simp at h|cons o old=>simp_all [dQ]
  simp_all [splice]
 |[],off+1,cs,h=>by simp at h|o::old,off+1,cs,h=>by have a:=WK old off cs (by grind);grind [dQ,splice]
def ae{α β:Type}(s:aU)(p:PE α)(f:α→β)(q:Prog β):Prop:=(p.both s).box λx=>∃fr a,q.both (cQ s)=J (f x.1,cQ x.2.1,fr,a)∧(∀r∈fr,r∈x.2.2.1)∧∀r∈a,r∈x.2.2.2
def iX{α β:Type}(p:PE α)(k:α→PE β):∀s,(p.bind k).both s=(p.both s).bind λx=>((k x.1).both x.2.1).map λy=>(y.1,y.2.1,x.2.2.1++y.2.2.1,x.2.2.2++y.2.2.2):=by
 have v:∀{γ δ u:Type}(t:Tr γ)(f:γ→δ)(g:δ→Tr u),(t.map f).bind g=t.bind λa=>g (f a):=by
  intro γ δ u t f g;induction t with|leaf a=>rfl|fail=>rfl|br c t e l m=>simp only[Tr.map,Tr.bind,l,m]|call d o k h=>simp only[Tr.map,Tr.bind,h]|sum o k k' h n=>simp only[Tr.map,Tr.bind,h,n]
 have w:∀{γ δ u:Type}(t:Tr γ)(f:γ→Tr δ)(g:δ→u),(t.bind f).map g=t.bind λa=>(f a).map g:=by
  intro γ δ u t f g;induction t with|leaf a=>rfl|fail=>rfl|br c t e l m=>simp only[Tr.map,Tr.bind,l,m]|call d o k h=>simp only[Tr.map,Tr.bind,h]|sum o k k' h n=>simp only[Tr.map,Tr.bind,h,n]
 have z:∀{γ δ u:Type}(t:Tr γ)(f:γ→δ)(g:δ→u),(t.map f).map g=t.map λa=>g (f a):=by
  intro γ δ u t f g;induction t with|leaf a=>rfl|fail=>rfl|br c t e l m=>simp only[Tr.map,l,m]|call d o k h=>simp only[Tr.map,h]|sum o k k' h n=>simp only[Tr.map,h,n]
 have hid:∀{γ:Type}(t:Tr γ),t.map (λa=>a)=t:=by
  intro γ t;induction t with|leaf a=>rfl|fail=>rfl|br c t e l m=>simp only[Tr.map,l,m]|call d o k h=>simp only[Tr.map,h]|sum o k k' h n=>simp only[Tr.map,h,n]
 induction p with
 |ret a=>simp_all [PE.bind,PE.both,Tr.bind]|fail=>intro s;rfl
 |br c p q A B=>intro s;simp only[PE.bind,PE.both,Tr.bind,A,B]
 |call d o k h=>intro s;simp only[PE.bind,PE.both,Tr.bind,h]
 |get r k h=>simp_all [PE.bind,PE.both]|put r x k h=>intro s;simp only[PE.bind,PE.both];cases vT r x<;>simp only[h,v,w,z,List.cons_append,Tr.bind]
 |bR i j k h=>simp_all [PE.bind,PE.both]|know r b k h=>intro s;simp only[PE.bind,PE.both,h]
 |wr q os k h=>simp_all [PE.bind,PE.both]
theorem NZ{α β:Type}(p:Prog α)(k:α→Prog β):∀s,(p.bind k).both s=match p.both s with
  |some (a,s',f,g)=>match(k a).both s' with|some (b,c,d,e)=>J (b,c,f++d,g++e)|none=>O
  |none=>O:=by
 induction p with
 |ret a=>grind [Prog.bind,Prog.both]|fail=>intro s;rfl
 |get r k' h=>grind [Prog.bind,Prog.both]|put r x p h=>grind [Prog.bind,Prog.both]
section
variable{α β γ δ:Type}{s:aU}
theorem ae.ret{a:α}{f:α→β}{b:β}(h:b=f a):ae s (.ret a) f (.ret b):=by subst h;exact⟨[],[],rfl,by simp,by simp⟩
theorem ae.fail{f:α→β}{q:Prog β}:ae s .fail f q:=trivial
def ae.WL{p:PE α}{f:α→β}{q:Prog β}{k:α→PE γ}{g:γ→δ}{k':β→Prog δ}{R:α→aU→Prop}(h:ae s p f q)(b:(p.both s).box λx=>R x.1 x.2.1)(hk:∀a s',R a s'→ae s' (k a) g (k' (f a))):ae s (p.bind k) g (q.bind k'):=by unfold ae at h hk ⊢;rw[iX,Tr.sY];refine Tr.mK ?_ (Tr.WB h b);grind [Tr.qc,Tr.mK,NZ]
theorem ae.bind{p:PE α}{f:α→β}{q:Prog β}{k:α→PE γ}{g:γ→δ}{k':β→Prog δ}(h:ae s p f q)(hk:∀a s',ae s' (k a) g (k' (f a))):ae s (p.bind k) g (q.bind k'):=ae.WL (R:=λ_ _=>cZ) h (Tr.sZ (Tr.yQ _)) λa s' _=>hk a s'
theorem ae.get{r:aD}{k:cX→PE α}{f:α→β}{k':RV→Prog β}(h:ae s (k (s.get r)) f (k' (bV (s.get r)))):ae s (.get r k) f (.get r k'):=by unfold ae at h ⊢;simp only[PE.both,Tr.qc];grind [Tr.mK,Prog.both,cQ]
def ae.look{r:aD}{k:cX→PE α}{f:α→β}{q:Prog β}(h:ae s (k (s.get r)) f q):ae s (.get r k) f q:=by unfold ae at h ⊢;grind [PE.both,Tr.qc,Tr.mK]
theorem ae.put{r:aD}{x:cX}{y:RV}{p:PE α}{f:α→β}{q:Prog β}(a:r.isArg=I)(hy:y=bV x)(h:ae (s.put r x) p f q):ae s (.put r x p) f (.put r y q):=by
 subst hy;unfold ae at h ⊢;simp only[PE.both];cases vT r x with|false=>trivial|true=>
 grind [Tr.qc,Tr.mK,Prog.both,yU]
def ae.WM{r:aD}{x:cX}{p:PE α}{f:α→β}{q:Prog β}(a:r.isArg=I)(hx:bV x=bV (s.get r))(h:ae (s.put r x) p f q):ae s (.put r x p) f q:=by
 have e:cQ (s.put r x)=cQ s:=by rw[yU s x a,hx];grind [St.set,cQ]
 unfold ae at h ⊢;simp only[PE.both];cases vT r x with|false=>trivial|true=>
 grind [Tr.qc,Tr.mK]
def ae.wr{k:Key}{os:L (Q E)}{y:RV}{p:PE α}{f:α→β}{q:Prog β}{cs:L E}(h:(s.get (.box k)).v=.agg cs)(hy:y={hv:=(s.get (.box k)).hv+1,cv:=(s.get (.box k)).cv,v:=.agg (aJ (dQ cs os))})(hp:ae (s.wr k os) p f q):ae s (.wr k os p) f (.put (.box k) y q):=by subst hy;unfold ae at hp ⊢;simp only[PE.both,Tr.qc];grind [Tr.mK,Prog.both,ahY]
def ae.Hl{i:U}{x:cX}{p:PE α}{f:α→β}{q:Prog β}:ae s (.put (.arg i) x p) f q:=trivial
theorem ae.br{c:ao}{p a:PE α}{f:α→β}{q:Prog β}(h:c=W→ae s p f q)(b:c=I→ae s a f q):ae s (.br c p a) f q:=⟨h,b⟩
theorem ae.call{ρ:Type}{d:ρ}{o:Q ρ}{k:ρ→PE α}{f:α→β}{q:Prog β}(h:∀x,o=J x→ae s (k x) f q):ae s (.call d o k) f q:=h
theorem ae.know{t:U}{b c:ao}{p:PE α}{f:α→β}{q:Prog β}(h:(s.get (.tmp t)).v=.one (.b c))(a:c=b)(hp:ae (s.know (.tmp t) b) p f q):ae s (.know (.tmp t) b p) f q:=by unfold ae at hp ⊢;rw[ahX s h a]at hp;exact hp
theorem ae.ask{c:ao}{k:bu→PE α}{f:α→β}{q:Prog β}(h:c=W→ae s (k ()) f q):ae s ((Ve.ask c).bind k) f q:=⟨h,λ_=>trivial⟩
theorem ae.sure{c:ao}{k:bu→PE α}{f:α→β}{q:Prog β}(h:c=W→ae s (k ()) f q):ae s ((Ve.sure c).bind k) f q:=by
 cases c with|true=>exact h rfl|false=>trivial
theorem ae.comp{p:PE α}{f:α→β}{q:Prog β}{g:β→γ}(h:ae s p f q):ae s p (λa=>g (f a)) (q.bind λb=>.ret (g b)):=by unfold ae at h ⊢;grind [Tr.mK,NZ,Prog.both]
def ae.Hm{p:PE α}{f:α→β}{q q':Prog β}(h:ae s p f q')(e:q=q'):ae s p f q:=by rw[e];exact h
theorem bN{α:Type}{p:Prop}[Decidable p](h:p)(k:bu→Prog α):(need p).bind k=k ():=by simp[need,h,Prog.bind]
end
theorem bind_eq{α β:Type}(p:Prog α)(f:α→Prog β):(p >>= f)=p.bind f:=rfl
theorem bd{α β:Type}(p:PE α)(k:α→PE β):(p >>= k)=p.bind k:=rfl
def WN{α β:Type}(x:α)(k:α→PE β):(PE.ret x).bind k=k x:=rfl
def eF(o:bO)(s:aU):ae s (dR o) aA (ev o):=by
 cases o with
 |tmp t=>
  simp only[dR,ev];refine ae.get ?_;have b:=copy_eq (s.get (.tmp t)) (.tmp t);cases hv:(s.get (.tmp t)).v with|undef=>exact ae.fail|_=>grind [bV,aA,ae.ret]
 |const v=>
  by_cases a:∃cs,v=.agg cs;grind [dR,ev,ae.fail,WJ,ae.ret,aA];have c:dR (.const v)=match Bv v with|some d=>PE.ret (aE.one d)|none=>.fail:=by cases v<;>first|rfl|grind
  have e:ev (.const v)=match reflect v with|some d=>Prog.ret (SV.one (.d d))|none=>.fail:=by cases v<;>first|rfl|grind
  grind [ae.fail,WI,ae.ret,aA]
 |func f=>exact ae.ret rfl|global g=>exact ae.fail
def BT:∀(os:L bO)(s:aU),ae s (vV os) (gV aA) (pF os)|[],s=>ae.ret rfl|o::os,s=>by simp only[vV,pF,bd,bind_eq];exact ae.bind (eF o s) λv a=>ae.bind (BT os a) λvs b=>ae.ret rfl
def ahZ(v:aE)(s:aU):ae s (Ni v) cE (yc (aA v)):=by cases v<;>first|exact ae.ret rfl|exact ae.fail
def eJ(o:bO)(s:aU):ae s (eG o) cE (dc o):=by simp only[eG,dc,bd,bind_eq];exact ae.bind (eF o s) λv a=>ahZ v a
def ri(c:E)(s:aU):ae s (sQ c) (λn=>n) (nk (cE c)):=by cases c<;>first|exact ae.ret rfl|exact ae.fail
def ah0(s:aU)(i j:U){t:Ty}{ys:L t.T}(h:(s.get (.arg i)).at j=.l .own t ys):
  cQ {s with bR:=s.bR++[(i,j)],bQ:=(.arg i,O)::s.bQ}=(cQ s).set (.arg i) {(bV (s.get (.arg i)))with v:=(bV (s.get (.arg i))).v.setCell j (.d (.sl t.e (ys.map (aP t))))}:=by
 have b:∀(l:L (U×U))(args:L aE),gL (l++[(i,j)]) args=jQ (gL l args) i (sN ((gL l args).getD i .undef) j):=by
  intro l;induction l with
  |nil=>intro args;rfl
  |cons p l n=>simp_all [gL]
 generalize m:gL s.bR s.args=A at *
 have a:∀q,(s.get (.arg q)).v=A.getD q .undef:=λq=>by rw[←m];rfl
 have c:(A.getD i .undef).cells.getD j .dead=.l .own t ys:=by rw[←a];exact h
 have f:sN (A.getD i .undef) j=(A.getD i .undef).setCell j (.l .data t ys):=by unfold sN;rw[c]
 funext q
 cases q with
 |tmp t=>rw[km _ _ (by simp)];rfl|box k=>rw[km _ _ (by simp)];rfl|arg q=>
  show bV {v:=(gL (s.bR++[(i,j)]) s.args).getD q .undef}=_;rw[b,m];have hi:i<A.length:=by grind [aE.cells]
  rw[rh];by_cases g:q=i;subst g;rw[kl];simp only[bV,iy,List.getElem?_set_self hi,eB];rw[←iy,f,setCell_eq,a];rfl;rw[km _ _ (by simpa using g)];simp only[iy,List.getElem?_set_ne (Ne.symm g)];show bV _=bV (s.get (.arg q));congr 1;show _=({v:=(gL s.bR s.args).getD q .undef}:cX);grind
def WO(r:aD)(j:U)(s:aU):ae s (vW r j (s.get r)) (λ_=>()) (nn r j (bV (s.get r))):=by
 unfold vW nn;rw[at_eq];cases b:(s.get r).at j with
 |l m t xs=>
  cases m with
  |data=>exact ae.ret rfl|aS=>exact ae.fail|own=>
   cases r with
   |arg i=>unfold ae;refine⟨[],[.arg i],?_,by simp,by simp⟩;show(dn (.arg i) _).both (cQ s)=J ((),cQ {s with bR:=s.bR++[(i,j)],bQ:=(.arg i,O)::s.bQ},[],[.arg i]);rw[ah0 s i j b];rfl
   |_=>exact ae.put rfl (by simp only[bV,setCell_eq];rfl) (ae.ret rfl)
 |n m t o=>
  cases m with
  |data=>refine ae.call λx a=>?_;subst a;exact ae.ret rfl|aS=>exact ae.fail|own=>
   cases r with|arg i=>exact ae.fail|_=>refine ae.call λys a=>?_;subst a;exact ae.put rfl (by simp only[bV,setCell_eq];rfl) (ae.ret rfl)
 |_=>exact ae.fail
theorem WP(r:aD)(j:U)(s:aU):ae s (pY r j (s.get r)) (λ_=>()) (ov r j (bV (s.get r))):=by
 unfold pY ov;rw[at_eq];cases b:(s.get r).at j with
 |l m t xs=>
  cases m with
  |own=>
   cases r with|arg i=>exact ae.Hl|_=>exact ae.put rfl (by simp only[bV,setCell_eq];rfl) (ae.ret rfl)
  |_=>exact ae.fail
 |n m t o=>
  cases m with
  |own=>
   refine ae.call λys a=>?_;subst a;cases r with|arg i=>exact ae.Hl|_=>exact ae.put rfl (by simp only[bV,setCell_eq];rfl) (ae.ret rfl)
  |_=>exact ae.fail
 |_=>exact ae.fail
def WQ{x:cX}{j:U}{c:E}(h:cE (x.at j)=cE c)(hd:cE c≠.dead):bV {x with v:=x.v.setCell j c}=bV x:=by
 have h2:(aA x.v).cells.getD j .dead=cE c:=by rw[←h];exact at_eq x j
 have a:j<(aA x.v).cells.length:=by grind
 show({hv:=x.hv,cv:=x.cv,v:=aA (x.v.setCell j c)}:RV)={hv:=x.hv,cv:=x.cv,v:=aA x.v};rw[setCell_eq,←h2,WF _ _ a]
def isSome_none{α:Type}{o:Q α}(h:(I==o.isSome)=W):o=O:=by cases o<;>first|rfl|cases h
def isSome_some{α:Type}{o:Q α}(h:(W==o.isSome)=W):∃x,o=J x:=by
 cases o with
 |none=>cases h
 |some x=>exact⟨x,rfl⟩
def WR(r:aD)(j:U)(s:aU):ae s (qY r j (s.get r) W) (λ_=>()) (nn r j (bV (s.get r))):=by
 unfold qY nn;rw[at_eq];cases a:(s.get r).at j with
 |n m t o=>
  cases m with
  |data=>refine ae.br (λh=>?_) λ_=>ae.fail;obtain⟨x,rfl⟩:=isSome_some h;exact ae.ret rfl
  |aS=>exact ae.fail|own=>
   cases r with|arg i=>exact ae.fail|_=>refine ae.br (λh=>?_) λ_=>ae.fail;obtain⟨x,rfl⟩:=isSome_some h;exact ae.put rfl (by simp only[bV,setCell_eq];rfl) (ae.ret rfl)
 |_=>exact ae.fail
def WS(r:aD)(j:U)(s:aU):ae s (qY r j (s.get r) I) (λ_=>()) (Prog.ret ()):=by
 unfold qY;cases a:(s.get r).at j with
 |n m t o=>
  cases m with
  |data=>exact ae.br (λ_=>ae.ret rfl) λ_=>ae.fail|aS=>exact ae.fail|own=>
   cases r with|arg i=>exact ae.fail|_=>refine ae.br (λh=>?_) λ_=>ae.fail;have:=isSome_none h;subst this;exact ae.WM rfl (WQ (by rw[a];rfl) (by simp[cE])) (ae.ret rfl)
 |_=>exact ae.fail
theorem WT(r:aD)(j:U)(s:aU):ae s (oP r j (s.get r) W) (λ_=>()) (ov r j (bV (s.get r))):=by
 unfold oP ov;rw[at_eq];cases a:(s.get r).at j with
 |n m t o=>
  cases m with
  |own=>
   refine ae.br (λh=>?_) λ_=>ae.fail;obtain⟨x,rfl⟩:=isSome_some h;cases r with|arg i=>exact ae.Hl|_=>exact ae.put rfl (by simp only[bV,setCell_eq];rfl) (ae.ret rfl)
  |_=>exact ae.fail
 |_=>exact ae.fail
def WU(r:aD)(j:U)(s:aU):ae s (oP r j (s.get r) I) (λ_=>()) (Prog.ret ()):=by
 unfold oP;cases a:(s.get r).at j with
 |n m t o=>
  cases m with
  |own=>
   refine ae.br (λh=>?_) λ_=>ae.fail;have:=isSome_none h;subst this;cases r with|arg i=>exact ae.Hl|_=>exact ae.WM rfl (WQ (by rw[a];rfl) (by simp[cE])) (ae.ret rfl)
  |_=>exact ae.fail
 |_=>exact ae.fail
def th{α β:Type}{j:U}{x:cX}{b:ao}{s:aU}{k:bu→PE α}{f:α→β}{q:Prog β}(h:(∃t o,(x.at j=.n .own t o∨x.at j=.n .data t o)∧b=o.isSome)→ae s (k ()) f q):ae s ((yF j x b).bind k) f q:=by
 have key:∀(t:Ty)(o:Q (L t.T)),(x.at j=.n .own t o∨x.at j=.n .data t o)→ae s ((PE.br (b==o.isSome) (.ret ()) .fail).bind k) f q:=by intro t o c;exact ae.br (λd=>h ⟨t,o,c,by simpa using d⟩) λ_=>trivial
 unfold yF;cases a:x.at j with
 |n m t o=>
  cases m with|aS=>exact ae.fail|own=>exact key t o (.inl a)|data=>exact key t o (.inr a)
 |_=>exact ae.fail
theorem ah1{α β:Type}{c:E}{s:aU}{k:E→PE α}{f:α→β}{q:Prog β}(h:∀c',cE c'=cE c→ae s (k c') f q):ae s ((Wx c).bind k) f q:=by
 cases c with
 |n m t o=>
  cases m with
  |aS r j hv cv i=>
   cases r with|arg a=>refine ae.br (λb=>?_) λb=>?_;exact h _ (ta _ t o b).symm;(have:o=O:=by cases o<;>first|rfl|cases b);subst this;exact h .nil rfl|_=>exact h _ rfl
  |_=>exact h _ rfl
 |_=>exact h _ rfl
theorem ah2{α β:Type}{c:E}{s:aU}{k:E→PE α}{f:α→β}{q:Prog β}(h:∀c',cE c'=cE c→(∀m t o,c'≠.n m t o)→ae s (k c') f q):ae s ((resolve c).bind k) f q:=by
 cases c with
 |n m t o=>
  refine ae.br (λa=>?_) λa=>?_;exact h _ (ta m t o a).symm (by intro m t o h;cases h);have:o=O:=by cases o<;>first|rfl|cases a
  subst this;exact h .nil rfl (by intro m t o h;cases h)
 |_=>exact h _ rfl (by intro m t o h;cases h)
def Hn(self:Q (aD×U))(r:aD)(j:U)(b:ao):(pZ self r j||b)=W↔(self=J (r,j)∨b=W):=by
 cases self with|none=>simp[pZ]|some p=>grind [pZ,td]
theorem ah3{α β:Type}{r:aD}{j:U}{s:aU}{t:Ty}(h:(s.get r).at j=.n .own t O){k:bu→PE α}{f:α→β}{q:Prog β}:ae s ((pY r j (s.get r)).bind k) f q:=by unfold pY;rw[h];exact ae.call λx a=>by cases a
theorem ah4{α β:Type}{r:aD}{j:U}{s:aU}{t:Ty}(h:(s.get r).at j=.n .own t O){k:bu→PE α}{f:α→β}{q:Prog β}:ae s ((vW r j (s.get r)).bind k) f q:=by
 unfold vW;rw[h];cases r with|arg i=>exact ae.fail|_=>exact ae.call λx a=>by cases a
def ah5(self:Q (aD×U))(take:aD→ao)(c:E)(s:aU):ae s (Bw self take c) cE (mm self take (cE c)):=by
 cases c with
 |l m t xs=>
  cases m with
  |aS r j hv cv k=>
   simp only[Bw,mm,cE,lC];cases A:r.isArg with
   |true=>simp only[bf];exact ae.ret rfl|false=>
    simp only[bh,bC];refine ae.get ?_;simp only[bd,bind_eq];refine ae.sure λu=>?_;simp only[bG,cT]at u;rw[bN (p:=(bV (s.get r)).hv=hv∧(bV (s.get r)).cv=cv) u];rw[at_eq]
    have body:∀(F:U)(B:L (L D)),ae s (match pZ self r j||take r with|true=>(pY r j (s.get r)).bind λ_=>PE.ret (E.l .own t xs)|false=>(vW r j (s.get r)).bind λ_=>PE.ret (E.l .data t xs)) cE
      (if self=J (r,j)∨take r=W then(ov r j (bV (s.get r))).bind λ_=>Prog.ret (C.own t.e (xs.map (aP t)))
        else(nn r j (bV (s.get r))).bind λ_=>Prog.ret (C.d (D.sl t.e (xs.map (aP t))))):=by
     intro _ _
     cases a:pZ self r j||take r with|true=>rw[ax ((Hn self r j (take r)).1 a)];exact ae.bind (WP r j s) λ_ _=>ae.ret rfl|false=>rw[aK (λh=>by rw[(Hn self r j (take r)).2 h]at a;cases a)];exact ae.bind (WO r j s) λ_ _=>ae.ret rfl
    cases y:(s.get r).at j with
    |l g v ys=>
     cases g with|own=>exact body 0 []|data=>exact ae.ret rfl|aS=>exact ae.fail
    |n g v o=>
     cases g with
     |own=>
      cases o with|none=>grind [ah3,ah4]|some ys=>exact body 0 []
     |data=>exact ae.call λx w=>by subst w;exact ae.ret rfl|aS=>exact ae.fail
    |_=>exact ae.fail
  |_=>exact ae.ret rfl
 |n m t o=>
  cases m with
  |aS r j hv cv k=>
   cases o with
   |none=>
    simp only[Bw];cases A:r.isArg with
    |true=>exact ae.ret rfl|false=>
     refine ae.look ?_;simp only[bd];refine ae.sure λu=>?_;cases y:(s.get r).at j with
     |n g v z=>
      cases g with
      |own=>
       simp only;cases a:pZ self r j||take r with|true=>exact ae.bind (k':=λ_=>Prog.ret (C.d .nil)) (q:=Prog.ret ()) (f:=λ_=>()) (k:=λ_=>PE.ret (E.n .own t O)) (WU r j s) λ_ _=>ae.ret rfl|false=>exact ae.bind (k':=λ_=>Prog.ret (C.d .nil)) (q:=Prog.ret ()) (f:=λ_=>()) (k:=λ_=>PE.ret (E.n .data t O)) (WS r j s) λ_ _=>ae.ret rfl
      |data=>exact th λ_=>ae.ret rfl|aS=>exact ae.fail
     |_=>exact ae.fail
   |some xs=>
    simp only[Bw,mm,cE,lC];cases A:r.isArg with
    |true=>simp only[bf];exact ae.ret rfl|false=>
     simp only[bh,bC];refine ae.get ?_;simp only[bd,bind_eq];refine ae.sure λu=>?_;simp only[bG,cT]at u;rw[bN (p:=(bV (s.get r)).hv=hv∧(bV (s.get r)).cv=cv) u];rw[at_eq]
     have body:ae s (match pZ self r j||take r with|true=>(oP r j (s.get r) W).bind λ_=>PE.ret (E.n .own t (J xs))|false=>(qY r j (s.get r) W).bind λ_=>PE.ret (E.n .data t (J xs))) cE
       (if self=J (r,j)∨take r=W then(ov r j (bV (s.get r))).bind λ_=>Prog.ret (C.own t.e (xs.map (aP t)))
         else(nn r j (bV (s.get r))).bind λ_=>Prog.ret (C.d (D.sl t.e (xs.map (aP t))))):=by
      cases a:pZ self r j||take r with|true=>rw[ax ((Hn self r j (take r)).1 a)];exact ae.bind (WT r j s) λ_ _=>ae.ret rfl|false=>rw[aK (λh=>by rw[(Hn self r j (take r)).2 h]at a;cases a)];exact ae.bind (WR r j s) λ_ _=>ae.ret rfl
     cases y:(s.get r).at j with
     |n g v z=>
      cases g with
      |own=>
       cases z with
       |none=>
        simp only;have no:∀(x:cX),x.at j=.n .own v O→∀{k:bu→PE E}{q:Prog C},ae s ((oP r j x W).bind k) cE q∧ae s ((qY r j x W).bind k) cE q:=by
         intro x w k q;constructor;unfold oP;rw[w];exact ae.br (λh=>by cases h) λ_=>trivial;unfold qY;rw[w];cases r with|arg i=>exact ae.fail|_=>exact ae.br (λh=>by cases h) λ_=>trivial
        grind
       |some ys=>exact body
      |data=>
       refine th λ⟨t2,G,h1,h2⟩=>?_;rw[y]at h1;cases z with|none=>grind|some ys=>exact ae.ret rfl
      |aS=>exact ae.fail
     |_=>exact ae.fail
  |_=>cases o<;>exact ae.ret rfl
 |dead=>exact ae.fail|gone b=>exact ae.fail|it m t xs H=>cases m<;>first|exact ae.ret rfl|exact ae.fail
 |_=>exact ae.ret rfl
theorem BU(self:Q (aD×U))(take:aD→ao)(c:E)(s:aU):ae s (Bx self take c) cE (mm self take (cE c)):=by exact ah5 self take c s
def BV(mk:U→aD×U)(take:aD→ao):∀(cs:L E)(i:U)(s:aU),ae s (sT mk take i cs) aJ (np mk take i (aJ cs))|[],i,s=>ae.ret rfl|c::cs,i,s=>by show ae s (sT mk take i (c::cs)) aJ (np mk take i (cE c::aJ cs));simp only[sT,np,bd,bind_eq];exact ae.bind (BU _ take c s) λd a=>ae.bind (BV mk take cs (i+1) a) λb e=>ae.ret rfl
def WV(mk:U→aD×U)(take:aD→ao):∀(vs:L (ao×L E))(i:U)(s:aU),ae s (Bz mk take i vs) dX (vg mk take i (dX vs))|[],i,s=>ae.ret rfl|(b,cs)::vs,i,s=>by show ae s (Bz mk take i ((b,cs)::vs)) dX (vg mk take i ((b,aJ cs)::dX vs));simp only[Bz,vg,bd,bind_eq,qd];exact ae.bind (BV mk take cs i s) λd a=>ae.bind (WV mk take vs _ a) λc e=>ae.ret rfl
def WW(r:aD)(take:aD→ao)(v:aE)(s:aU):ae s (qZ r take v) aA (lx r take (aA v)):=by
 cases v with|one c=>show ae s (qZ r take (.one c)) aA (lx r take (.one (cE c)));simp only[qZ,lx,bd,bind_eq];exact ae.bind (BU _ take c s) λa b=>ae.ret rfl|agg cs=>show ae s (qZ r take (.agg cs)) aA (lx r take (.agg (aJ cs)));simp only[qZ,lx,bd,bind_eq];exact ae.bind (BV _ take cs 0 s) λa b=>ae.ret rfl|aX vs=>show ae s (qZ r take (.aX vs)) aA (lx r take (.aX (dX vs)));simp only[qZ,lx,bd,bind_eq];exact ae.bind (WV _ take vs 0 s) λa b=>ae.ret rfl|undef=>exact ae.fail
theorem N0{c:E}(h:mF c=W):∃d,cE c=.d d:=by
 cases c with
 |l m t xs=>cases m<;>first|exact⟨_,rfl⟩|cases h
 |n m t o=>cases m<;>cases o<;>first|exact⟨_,rfl⟩|cases h
 |_=>first|exact⟨_,rfl⟩|cases h
def yV:C→D|.d x=>x|_=>.nil
def oT(c:E):D:=yV (cE c)
theorem ah6(c:E)(s:aU):ae s (lF c) oT (kK (cE c)):=by
 have dat:∀{c:E},mF c=W→lF c=PE.ret c→ae s (lF c) oT (kK (cE c)):=by intro c hd e;rw[e];let⟨d,h⟩:=N0 hd;refine ae.Hm (ae.ret rfl) ?_;unfold oT;rw[h];rfl
 cases c with
 |l m t xs=>
  cases m with|aS r j hv cv k=>simp only[lF,kK,cE,lC];refine ae.get ?_;simp only[bd,bind_eq];refine ae.sure λa=>?_;simp only[bG,cT]at a;rw[bN (p:=(bV (s.get r)).hv=hv∧(bV (s.get r)).cv=cv) a];exact ae.bind (WO r j s) λ_ _=>ae.ret rfl|data=>exact dat rfl rfl|own=>exact ae.fail
 |n m t o=>
  cases m with
  |aS r j hv cv k=>
   cases o with|none=>simp only[lF];refine ae.look ?_;simp only[bd];refine ae.sure λa=>?_;exact ae.bind (k':=λ_=>Prog.ret D.nil) (q:=Prog.ret ()) (f:=λ_=>()) (k:=λ_=>PE.ret (E.n .data t O)) (WS r j s) λ_ _=>ae.ret rfl|some xs=>simp only[lF,kK,cE,lC];refine ae.get ?_;simp only[bd,bind_eq];refine ae.sure λa=>?_;simp only[bG,cT]at a;rw[bN (p:=(bV (s.get r)).hv=hv∧(bV (s.get r)).cv=cv) a];exact ae.bind (WR r j s) λ_ _=>ae.ret rfl
  |data=>exact dat rfl rfl|own=>exact ae.fail
 |i=>exact dat rfl rfl|b=>exact dat rfl rfl|tt=>exact dat rfl rfl|ff=>exact dat rfl rfl|s=>exact dat rfl rfl|nil=>exact dat rfl rfl|ck=>exact dat rfl rfl|r=>exact dat rfl rfl|_=>exact ae.fail
theorem tj(c:E)(s:aU):ae s (nE c) oT (kK (cE c)):=by grind [nE,bd,ah1,ah6]
def BW:∀(cs:L E)(s:aU),ae s (sU cs) (gV oT) (nr (aJ cs))|[],s=>ae.ret rfl|c::cs,s=>by show ae s (sU (c::cs)) _ (nr (cE c::aJ cs));simp only[sU,nr,bd,bind_eq];exact ae.bind (tj c s) λd a=>ae.bind (BW cs a) λb e=>ae.ret rfl
theorem Ho{t:Ty}{cs:L E}{x:t.T}(h:jS t cs=J x):(cs.map oT)=aP t x:=by
 have:=Hk h;have h2:=bz (gV yV) this;simp only[aJ,rY]at h2;have e:(yV ∘ C.d)=id:=by funext d;rfl
 rw[e,List.map_id]at h2;exact h2
theorem tm(v:aE):(aA v).ew=v.ew.map aJ:=by cases v<;>rfl
def ah7(t:Ty)(c:E)(s:aU):ae s (vX t c) (gV (aP t)) (elems t.e (cE c)):=by
 cases c with
 |nil=>exact ae.ret rfl|l m b xs=>
  cases m with
  |own=>exact ae.fail|data=>grind [vX,elems,cE,lC,bind_eq,bd,ae.sure,bN,ae.ret,ae.fail]|aS r j hv cv k=>
   simp only[vX,elems,cE,lC];refine ae.get ?_;simp only[bind_eq];cases a:(s.get r).hv==hv&&(s.get r).cv==cv&& !isMap t.e with
   |false=>exact ae.fail|true=>
    simp only[bG,cT,kj]at a;obtain⟨a,f⟩:=a;have fin:alive (bV (s.get r)) j=W→ae s (if h:b=t then PE.ret (h▸xs)else .fail) (gV (aP t)) ((need ((bV (s.get r)).hv=hv∧(bV (s.get r)).cv=cv∧alive (bV (s.get r)) j=W∧b.e=t.e∧isMap b.e=I)).bind λ_=>Prog.ret (xs.map (aP b))):=(by intro d;split;rename_i h;subst h;rw[bN ⟨a.1,a.2,d,rfl,f⟩];exact ae.ret rfl;exact ae.fail);cases i:(s.get r).at j with
    |l g t2 ys=>
     cases g with|aS=>exact ae.fail|_=>exact fin (by unfold alive;rw[at_eq,i];rfl)
    |n g t2 o=>
     cases g with|aS=>exact ae.fail|_=>exact ae.call λx p=>by subst p;exact fin (by unfold alive;rw[at_eq,i];rfl)
    |_=>exact ae.fail
 |n m b o=>
  cases m with
  |aS r j hv cv k=>
   cases o with
   |none=>
    simp only[vX];refine ae.look ?_;cases a:(s.get r).hv==hv&&(s.get r).cv==cv&& !isMap t.e with|false=>exact ae.fail|true=>simp only[bd];refine th λ_=>?_;split;rename_i h;subst h;exact ae.ret rfl;exact ae.fail
   |some xs=>
    simp only[vX,elems,cE,lC];refine ae.get ?_;simp only[bind_eq];cases a:(s.get r).hv==hv&&(s.get r).cv==cv&& !isMap t.e with|false=>exact ae.fail|true=>simp only[bG,cT,kj]at a;obtain⟨a,f⟩:=a;simp only[bd];refine th λ⟨t2,q,h1,h2⟩=>?_;obtain⟨ys,rfl⟩:=isSome_some (o:=q) (by rw[←h2];rfl);have d:alive (bV (s.get r)) j=W:=(by unfold alive;rw[at_eq];rcases h1 with h1|h1<;>rw[h1]<;>rfl);split;rename_i h;subst h;rw[bN ⟨a.1,a.2,d,rfl,f⟩];exact ae.ret rfl;exact ae.fail
  |own=>exact ae.fail|data=>
   simp only[vX];split;rename_i h;subst h;simp only[bd];refine ae.sure λf=>?_;cases o with|none=>exact ae.ret rfl|some xs=>show ae s _ _ ((need (b.e=b.e∧isMap b.e=I)).bind λ_=>.ret (xs.map (aP b)));grind [bN,ae.ret]
   exact ae.fail
 |_=>exact ae.fail
def WX(t:Ty)(c:E)(s:aU):ae s (Nj t c) (gV (aP t)) (elems t.e (cE c)):=by exact ah7 t c s
theorem WY(op:iL)(k:ln)(a b:M)(s:aU):ae s (BA op k a b) aA (sc op k a b):=by
 cases op with|quo=>simp only[BA,sc,bd,bind_eq];exact ae.ask λh=>by rw[bN (iB h)];exact ae.ret rfl|rem=>simp only[BA,sc,bd,bind_eq];exact ae.ask λh=>by rw[bN (iB h)];exact ae.ret rfl|_=>first|exact ae.ret rfl|exact ae.fail
def ah8(op:iL)(a b:L ai)(s:aU):ae s (Nk op a b) aA (AJ op a b):=by
 cases op with|add=>simp only[Nk,AJ,bd,bind_eq];exact ae.ask λh=>by rw[bN (by grind)];exact ae.ret rfl|_=>first|exact ae.ret rfl|exact ae.fail
def Hp{c:E}{b:ao}(h:sR c=J b):cE c=.d (.bool b):=by cases c<;>first|(cases h;rfl)|(cases h;done)
theorem ah9(cfg:bg)(t:aW)(op:iL)(x y:E)(s:aU):ae s (Nn cfg t op x y) aA (qK cfg t op (cE x) (cE y)):=by
 unfold Nn;cases f:sR x with
 |none=>exact ae.fail|some a=>
  cases hy:sR y with
  |none=>exact ae.fail|some b=>
   simp only;rw[Hp f,Hp hy];simp only[qK];cases g:Nl cfg t with|false=>exact ae.fail|true=>obtain⟨e,c,z,d⟩:∃e c z,cfg.ti t=J ⟨e,c,.bool,z⟩:=(by grind [Nl]);rw[d];cases op<;>first|exact ae.ret rfl|exact ae.fail
def aia{c:E}{b:ao}(h:GV c=J b):vh (cE c)=J b:=by
 cases c with
 |l m t xs=>cases m<;>exact h
 |n m t o=>
  cases o with
  |none=>simp only[GV]at h;split at h;cases h;exact h
  |some xs=>cases m<;>exact h
 |nil=>exact h|_=>cases h
def aib(cfg:bg)(t:aW)(op:iL)(x:E)(s:aU):ae s (Np cfg t op x) aA (qK cfg t op (cE x) (cE .nil)):=by
 unfold Np;cases hn:GV x with
 |none=>cases GX cfg t<;>cases op<;>exact ae.fail
 |some b=>
  have h1:=aia hn;have e:qK cfg t op (cE x) (cE .nil)=FD cfg t op (cE x):=by simp_all [qK,cE]
  rw[e];unfold FD;cases g:GX cfg t with|false=>exact ae.fail|true=>obtain⟨d,a,f,z,c⟩:∃d a f z,cfg.ti t=J ⟨d,a,.slice f,z⟩:=(by grind [GX]);rw[c,h1];cases op<;>first|exact ae.ret rfl|exact ae.fail
def aic(cfg:bg)(t:aW)(op:iL)(x y:E)(s:aU):ae s (Nq cfg t op x y) aA (qK cfg t op (cE x) (cE y)):=by
 unfold Nq;split;rename_i k a k' b;simp only[qK,cE];split;simp only[bd,bind_eq];exact ae.ask λh=>by rw[bN (iB h)];exact ae.ret rfl
 simp only[bd,bind_eq];exact ae.ask λh=>by rw[bN (iB h)];exact ae.ret rfl
 grind [WY,ae.fail];exact ah8 _ _ _ s;exact aib _ _ _ _ s;grind [ah9]
def BX:∀{sh:L Sc}{xs ys:L E}{r:ao},yG sh xs ys=J r→∃ds es,iP (aJ xs)=J ds∧iP (aJ ys)=J es∧r=cP ds es∧bM sh ds=W∧bM sh es=W|sh,xs,ys,r,h=>by unfold yG at h;split at h;cases h;exact⟨[],[],rfl,rfl,rfl,rfl,rfl⟩;rename_i k c k1 a d k2 b e;split at h;rename_i hk;obtain⟨rfl,rfl⟩:=hk;split at h;rename_i g f;cases h;let⟨ds,es,h1,h2,h3,i,j⟩:=BX f;simp_all [aJ,cE,iP,cP,iD,bM];cases h;cases h;rename_i c a d b e;split at h;rename_i g f;cases h;let⟨ds,es,h1,h2,h3,i,j⟩:=BX f;simp_all [aJ,cE,iP,cP,iD,bM];cases h;rename_i c x d y e;split at h;rename_i a b g l hy f;cases h;let⟨ds,es,h1,h2,h3,i,j⟩:=BX f;simp_all [aJ,Hp,iP,cP,iD,bM];cases h;cases h
def aid(cfg:bg)(t:aW)(op:iL)(xs ys:L E)(s:aU):ae s (Nr cfg t op xs ys) aA (FE cfg t op (aJ xs) (aJ ys)):=by
 unfold Nr FE;cases lk t cfg.eqs with|none=>exact ae.fail|some sh=>simp only;split;rename_i r h2;let⟨ds,es,a,b,c,d,e⟩:=BX h2;rw[a,b,c];simp only[d,e,aaQ,bf];exact ae.ret rfl;rename_i r h2;let⟨ds,es,a,b,c,d,e⟩:=BX h2;rw[a,b,c];simp only[d,e,aaQ,bf];exact ae.ret rfl;exact ae.fail
theorem cq(a b:U):bw a b=W↔a<b:=by simp[bw,gG];omega
def aie(cs:L E)(a b:U):aJ ((cs.drop a).take b)=((aJ cs).drop a).take b:=by simp[aJ,List.map_take,xW]
theorem aif{c:E}(h:c≠.dead)(a:∀b,c≠.gone b):cE c≠.dead:=by
 cases c with
 |gone b=>exact bX rfl (a b)|l m t xs=>cases m<;>simp[cE,lC]
 |n m t o=>cases m<;>cases o<;>simp[cE,lC]
 |dead=>exact bX rfl h|it m t xs d=>cases m<;>simp[cE,mC]
 |_=>simp[cE]
theorem BZ(i:TI)(cs:L E)(off:U)(s:aU):ae s (ra i cs off) aA (kL i (aJ cs) off):=by unfold ra kL;simp only[bind_eq];split;rename_i h;simp only[bG,cq,gG]at h;rw[bN (by simpa using h)];split;simp_all [ae.ret,aA,aie];grind [aJ,ae.fail,aif,aA,ae.ret];exact ae.fail
def N1{α:Type}(l:L α)(n:U)(d:α)(h:n<l.length):l[n]?=J (l.getD n d):=by grind
def WZ(i:TI)(a:E)(s:aU):ae s (yH i a) aA (qL i (cE a)):=by
 cases a with
 |ptr k off=>grind [yH,qL,cE,ae.get,bV,aA,BZ,Hj,ae.fail]|ea r j hv t n off=>
  simp only[yH,qL,cE];refine ae.get ?_;simp only[bind_eq];cases b:(s.get r).hv==hv with
  |false=>exact ae.fail|true=>
   simp only[cT]at b;rw[bN (p:=(bV (s.get r)).hv=hv) b];rw[at_eq];have fin:∀(t:Ty)(ys:L t.T),ae s ((do ask (bw n ys.length);ra i (dM t (ys.getD n t.zero)) off:PE aE)) aA (match(ys.map (aP t))[n]? with|some ds=>kL i (ds.map .d) off|none=>.fail):=(by grind [bd,ae.ask,cq,jw,BZ]);cases c:(s.get r).at j with
   |l m t ys=>
    cases m with|aS=>exact ae.fail|_=>exact fin t ys
   |n m t o=>
    cases m with
    |aS=>exact ae.fail|_=>
     cases o with|none=>simp_all [bd,ae.ask,cq]|some ys=>exact fin t ys
   |_=>exact ae.fail
 |da t x off=>simp only[yH,qL,cE];refine ae.Hm (BZ i _ 0 s) ?_;grind [jw,aJ,xW]|l m t xs=>cases m<;>exact ae.fail
 |n m t o=>cases m<;>cases o<;>exact ae.fail
 |_=>exact ae.fail
def W2{α β:Type}(f:α→β)(l:L α)(off:U)(m:L α):(splice l off m).map f=splice (l.map f) off (m.map f):=by simp[splice,List.map_take,xW]
def W5(l:L E)(off:U)(m:L E):aJ (splice l off m)=splice (aJ l) off (aJ m):=W2 cE l off m
def aig(take b:aD→ao)(u:take=b)(i:TI)(a:E)(v:aE)(s:aU):ae s (Ns take i a v) (λ_=>()) (AK b i (cE a) (aA v)):=by
 subst u;unfold Ns AK;rw[tm];cases hv:v.ew with
 |none=>simp_all [ae.fail]|some cs=>
  simp only[lu];cases a with
  |ptr k off=>
   simp only[cE,bd,bind_eq,qd];refine ae.sure λh=>?_;rw[bN (by simpa using h)];refine ae.bind (BV _ take cs 0 s) λy c=>ae.get ?_;cases x:(c.get (.box k)).v with|agg old=>simp only[bV,x,aA,qd];refine ae.sure λh2=>?_;simp only[bG,gG]at h2;rw[bN h2.1];refine ae.wr x ?_ (ae.ret rfl);rw[WK _ _ _ h2.2,W5]|_=>simp only[bV,x,aA];exact ae.fail
  |ea r j hv t0 n off=>
   simp only[cE,bd,bind_eq,qd];refine ae.sure λh=>?_;have g:cs.length=i.size:=(by simpa using h);rw[bN g];refine ae.bind (BW cs s) λds c=>ae.get ?_;refine ae.sure λh2=>?_;simp only[bG,cT,kj]at h2;rw[bN (p:=(bV (c.get r)).hv=hv∧r.isArg=I) h2];rw[at_eq]
   have fin:∀(t:Ty)(ys:L t.T),ae c ((ask (bw n ys.length)).bind λ_=>(sure (fi (off+i.size) t.w)).bind λ_=>match jS t (splice (dM t (ys.getD n t.zero)) off ds)with
      |some f=>jR r {(c.get r)with cv:=(c.get r).cv+1,v:=(c.get r).v.setCell j (.l .own t (ys.set n f))}
      |none=>.fail) (λ_=>()) (match(ys.map (aP t))[n]? with
     |some row=>(need (off+i.size≤row.length)).bind λ_=>dn r {(bV (c.get r))with cv:=(bV (c.get r)).cv+1,v:=(bV (c.get r)).v.setCell j (.own t.e ((ys.map (aP t)).set n (splice row off (ds.map oT))))}
     |none=>.fail):=by
    intro t ys
    refine ae.ask λh=>?_
    rw[cq]at h
    refine ae.sure λh3=>?_
    rw[gj,N1 ys n t.zero h]
    simp only[lu]
    rw[bN (by rw[hI];simp_all)]
    cases q:jS t (splice (dM t (ys.getD n t.zero)) off ds)with|none=>exact ae.fail|some f=>refine ae.put h2.2 ?_ (ae.ret rfl);simp only[bV,setCell_eq,cE,lC];congr 3;rw[List.map_set];congr 1;rw[←Ho q,W2];congr 1;have:=bz (gV yV) (jw t (ys.getD n t.zero));simp only[aJ,rY]at this;have e:(yV ∘ C.d)=id:=(by funext d;rfl);rw[e,List.map_id]at this;exact this.symm
   cases z:(c.get r).at j with
   |l m t ys=>
    cases m with|own=>exact fin t ys|_=>exact ae.fail
   |n m t o=>
    cases m with
    |own=>
     cases o with|none=>exact ae.ask λh=>by simp[cq]at h|some ys=>exact fin t ys
    |_=>exact ae.fail
   |_=>exact ae.fail
  |l m t xs=>cases m<;>exact ae.fail
  |n m t o=>cases m<;>cases o<;>exact ae.fail
  |_=>exact ae.fail
def aih(cfg:bg)(t:aW)(c:E)(f:U)(s:aU):ae s (Nt cfg t c f) cE (AL cfg t (cE c) f):=by unfold Nt AL;split;rename_i a;simp only[a,bd,bind_eq];split;rename_i h1;simp only[h1];split;grind [ae.sure,bN,ae.ret,cE,hI,gG,List.drop_drop,ae.fail];exact ae.fail;exact ae.fail;exact ae.fail
def Xa{a b:U}(h:(a==b&& !isMap a)=W):a=b∧isMap b=I:=by grind
def aii(cfg:bg)(t:aW)(g:U)(n:M)(s:aU):ae s (Nu cfg t g n) cE (FF cfg t g n):=by unfold Nu FF;split;rename_i a b;simp only[a,b];split;rename_i hi;simp only[hi,bd,bind_eq];refine ae.ask λh1=>?_;refine ae.sure λh2=>?_;simp only[bG,cT]at h2;rw[bN (iB h1),bN h2];exact ae.ret rfl;exact ae.fail;exact ae.fail
def N2(cfg:bg)(t:aW)(c:E)(n:M)(s:aU):ae s (Nv cfg t c n) cE (AN cfg t (cE c) n):=by
 unfold Nv AN;split;rename_i a;simp only[a,bd,bind_eq];split;rename_i i hi;simp only[hi];have aS:∀(r:aD)(j hv cv k:U)(t:Ty)(xs:L t.T),decide (0≤n∧n<xs.length)=W→ae s ((sure (i.size==t.e&& !isMap i.size)).bind λ_=>PE.ret (E.ea r j hv t (k+n.toNat) 0)) cE ((need (0≤n∧n<(xs.map (aP t)).length)).bind λ_=>(need (i.size=t.e∧isMap t.e=I)).bind λ_=>Prog.ret (C.ea r j hv t.e (k+n.toNat) 0)):=by intro r j hv cv k t xs h;rw[bN (by grind)];exact ae.sure λh2=>by rw[bN (Xa h2)];exact ae.ret rfl
 have dat:∀(t:Ty)(xs:L t.T),decide (0≤n∧n<xs.length)=W→ae s ((sure (i.size==t.e&& !isMap i.size)).bind λ_=>PE.ret (E.da t (xs.getD n.toNat t.zero) 0)) cE ((need (0≤n∧n<(xs.map (aP t)).length)).bind λ_=>(need (i.size=t.e∧isMap t.e=I)).bind λ_=>match(xs.map (aP t))[n.toNat]? with|some ds=>Prog.ret (C.da ds)|none=>.fail):=by intro t xs h;have h1:=iB h;rw[bN (by simpa using h1)];refine ae.sure λh2=>?_;rw[bN (Xa h2),gj,N1 xs n.toNat t.zero (by omega)];exact ae.ret rfl
 cases c with
 |l m t xs=>
  cases m with|own=>exact ae.fail|aS r j hv cv k=>exact ae.ask λh=>aS r j hv cv k t xs h|data=>exact ae.ask λh=>dat t xs h
 |n m t o=>
  cases m with
  |own=>cases o<;>exact ae.fail
  |aS r j hv cv k=>
   refine ae.ask λh=>?_;cases o with|none=>grind [af]|some xs=>exact aS r j hv cv k t xs h
  |data=>
   refine ae.ask λh=>?_;cases o with|none=>grind [af]|some xs=>exact dat t xs h
 |_=>exact ae.fail
 exact ae.fail;rename_i a;simp only[a,bd,bind_eq];grind [ae.sure,cE,bN,ae.ret,ae.fail];exact ae.fail
def Xb:∀{cs:L E}{l:L (L ai)},GY cs=J l→∀k:U,cs[k]?=(l[k]?).map E.s
 |[],l,h,k=>by cases h;rfl
 |c::cs,l,h,k=>by
  cases c<;>simp only[GY]at h<;>first|(cases h;done)|skip;split at h;rename_i x b a;cases h;cases k with|zero=>rfl|succ k=>simpa using Xb a k
  cases h
def Xc{kd:ln}:∀{cs:L E}{l:L M},GZ kd cs=J l→∀k:U,cs[k]?=(l[k]?).map (E.i kd)
 |[],l,h,k=>by cases h;rfl
 |c::cs,l,h,k=>by
  cases c<;>simp only[GZ]at h<;>first|(cases h;done)|skip;split at h;rename_i x b hk a;cases h;have hk:=iB hk;subst hk;cases k with|zero=>rfl|succ k=>simpa using Xc a k
  cases h
def aij{i:TI}{cs:L E}{g:M→aE}(h:Nw i cs=J g){n:M}{m:U}(h1:n.toNat<m)(h2:m≤cs.length)(f:i.size=1):kL i (aJ cs) (n.toNat*i.size)=.ret (aA (g n)):=by
 unfold kL;have e:n.toNat*i.size=n.toNat:=by rw[f];omega
 rw[e];have b:(aJ cs).length=cs.length:=by simp[aJ]
 simp only[bind_eq];rw[bN (by rw[f,b];omega)];have j:(aJ cs)[n.toNat]?=(cs[n.toNat]?).map cE:=by simp[aJ]
 unfold Nw at h;split at h;rename_i hk;split at h;rename_i l d;cases h;have a:=Xb d n.toNat;have k:cs[n.toNat]?=J cs[n.toNat]:=du (by omega);cases c:l[n.toNat]? with|none=>grind|some x=>rw[c]at a;rw[aK (by rw[hk];simp[TK.agg]),j,a];simp only[lu,cE];rw[iy,c];rfl
 cases h;rename_i kd hk;split at h;rename_i l d;cases h;have a:=Xc d n.toNat;have k:cs[n.toNat]?=J cs[n.toNat]:=du (by omega);cases c:l[n.toNat]? with|none=>grind|some x=>rw[c]at a;rw[aK (by rw[hk];simp[TK.agg]),j,a];simp only[lu,cE];rw[iy,c];rfl
 cases h;cases h
def aik(cfg:bg)(t:aW)(v:aE)(n:M)(s:aU):ae s (Nx cfg t v n) aA (AO cfg t (aA v) n):=by unfold Nx;split;rename_i h;simp only[AO,aA,cE,h,bd,bind_eq];refine ae.ask λh1=>ae.ask λh2=>?_;rw[bN (iB h1)];rw[cq]at h2;rw[N1 _ _ 0 h2];exact ae.ret rfl;rename_i h;simp only[AO,aA,h,bd,bind_eq];split;rename_i hi;simp only[hi];split;rename_i g a;refine ae.sure λh1=>ae.ask λh2=>?_;have h2:=iB h2;rw[bN h2];rw[bG]at h1;rw[aij a (by omega) (xX h1.2) (Nat.eq_of_beq_eq_true h1.1)];exact ae.ret rfl;simp_all [ae.sure,bN,BZ];exact ae.fail;exact ae.fail
def Xd(b:ao)(v:aE)(s:aU):ae s (G0 b v) aA (pG b (aA v)):=by
 unfold G0;have key:∀(t:Ty)(n:M)(q:Prog SV),(isMap t.e=I→ae s (PE.ret (eH .i64 n)) aA q)→ae s (do sure (!isMap t.e);.ret (eH .i64 n)) aA q:=by simp_all [bd,ae.sure]
 split;exact ae.ret rfl;exact ae.ret rfl;refine key _ _ _ λa=>?_;simp only[pG,aA,cE,lC,bind_eq];rw[bN a];exact ae.ret (by simp[ft,eH,aA,cE,af]);refine key _ _ _ λa=>?_;simp only[pG,aA,cE,lC,bind_eq];rw[bN a];exact ae.ret (by simp[ft,eH,aA,cE,af]);rename_i o;refine key _ _ _ λa=>?_;cases o with|none=>exact ae.ret rfl|some xs=>simp only[pG,aA,cE,lC,bind_eq];rw[bN a];exact ae.ret (by simp[ft,eH,aA,cE,af])
 rename_i o;refine key _ _ _ λa=>?_;cases o with|none=>exact ae.ret rfl|some xs=>simp only[pG,aA,cE,lC,bind_eq];rw[bN a];exact ae.ret (by simp[ft,eH,aA,cE,af])
 exact ae.fail
theorem N3:∀(ps:L (U×L E))(cells:L E),aJ (BB cells ps)=fill (aJ cells) (ps.map λp=>(p.1,aJ p.2))|[],cells=>rfl|(off,cs)::r,cells=>by simp only[BB,dO,fill];rw[N3 r,W5]
def N4(fs:L (U×aW))(cfg:bg):∀(ps:L (U×bO))(s:aU),ae s (BD fs cfg ps) (gV λp=>(p.1,aJ p.2)) (partsOf fs cfg ps)
 |[],s=>ae.ret rfl|(i,o)::r,s=>by
  simp only[BD,partsOf,bd,bind_eq];refine ae.bind (eF o s) λv a=>?_;rw[tm];cases fs[i]? with
  |none=>exact ae.fail|some p=>
   cases v.ew with
   |none=>exact ae.fail|some cs=>
    let⟨off,t⟩:=p;simp only[lu];cases cfg.ti t with|none=>exact ae.fail|some ti=>simp only[qd];refine ae.sure λh=>?_;rw[bN (by simpa using h)];exact ae.bind (N4 fs cfg r a) λrest b=>ae.ret rfl
theorem ail{d:D}{c:E}(h:Wy d=J c):cE c=.d d:=by
 cases d with
 |bool b=>cases h;cases b<;>rfl
 |sl=>cases h
 |rep=>cases h
 |_=>cases h;rfl
theorem Hq:∀{ds:L D}{cs:L E},vY ds=J cs→aJ cs=ds.map .d
 |[],cs,h=>by cases h;rfl
 |d::ds,cs,h=>by unfold vY at h;split at h;rename_i c a h1 h2;cases h;have:=Hq h2;grind [aJ,ail];cases h
def Xe{size:U}{ps:L (U×L E)}(h:fits size ps=W):∀p∈(ps.map λp=>(p.1,aJ p.2)),p.1+p.2.length≤size:=by intro p hp;obtain⟨q,a,rfl⟩:=kH.1 hp;have:=fO.1 h q a;simp_all
def aim(cfg:bg)(t:aW)(ps:L (U×bO))(s:aU):ae s (Ny cfg t ps) aA (FG cfg t ps):=by unfold Ny FG;split;rename_i size bytes fs z h;simp only[h,bd,bind_eq];refine ae.sure λh1=>?_;simp only[bG,cT,fO]at h1;rw[bN h1];refine ae.bind (N4 fs cfg ps s) λa b=>ae.sure λh2=>?_;rw[bN (Xe h2)];grind [ae.fail,ae.ret,aA,N3,Hq];rename_i n c size bytes z h;simp only[h,bd,bind_eq];split;rename_i hi;simp only[hi];refine ae.sure λh1=>?_;simp only[cT]at h1;rw[bN h1];refine ae.bind (N4 _ cfg ps s) λa b=>ae.sure λh2=>?_;rw[bN (Xe h2)];grind [ae.fail,ae.ret,aA,N3,Hq];exact ae.fail;exact ae.fail
def N5:∀(t:Ty)(z r:L D),rb t z=J r→z=aP t t.zero++r
 |.int k,z,r,h=>by
  unfold rb at h;split at h<;>first|(cases h;done)|skip;all_goals (rename_i heq;cases heq)
  split at h;rename_i h1;obtain⟨rfl,rfl⟩:=h1;cases h;rfl;cases h
 |.bool,z,r,h=>by
  unfold rb at h;split at h<;>first|(cases h;done)|skip;all_goals (rename_i heq;cases heq)
  split at h;rename_i h1;subst h1;cases h;rfl;cases h
 |.str,z,r,h=>by
  unfold rb at h;split at h<;>first|(cases h;done)|skip;all_goals (rename_i heq;cases heq)
  split at h;cases h;rfl;cases h
 |.sl t,z,r,h=>by
  unfold rb at h;split at h<;>first|(cases h;done)|skip;all_goals (rename_i heq;cases heq)
  cases h;rfl
 |.pair a b,z,r,h=>by unfold rb at h;split at h;rename_i e h1;have c:=N5 a _ _ h1;have d:=N5 b _ _ h;rw[c,d];simp[aP,Ty.zero];cases h
 |.set _,z,r,h=>by cases h
 |.bB _ _ _,z,r,h=>by cases h
theorem B0{t:Ty}{z:L D}(h:sV t z=W):z=aP t t.zero:=by unfold sV at h;split at h;rename_i h1;have:=N5 t _ _ h1;simpa using this;cases h
def Xf(t:Ty)(size:U):∀(ps:L (U×bO))(rows:L t.T)(s:aU),ae s (G1 t size ps rows) (gV (aP t)) (rowsOf size ps (rows.map (aP t)))
 |[],rows,s=>ae.ret rfl|(i,o)::r,rows,s=>by
  simp only[G1,rowsOf,bd,bind_eq];refine ae.bind (eF o s) λv b=>?_;rw[tm];cases v.ew with
  |none=>exact ae.fail|some cs=>
   simp only[lu,qd];refine ae.sure λh=>?_;simp only[bG,cT,cq]at h;rw[bN (by simpa using h)];refine ae.bind (BW cs b) λds c=>?_;cases a:jS t ds with|none=>exact ae.fail|some x=>have:=Xf t size r (jQ rows i x) c;grind [rh,List.map_set,Ho]
def ain(cfg:dJ)(t:aW)(len:U)(ps:L (U×bO))(s:aU):ae s (Nz cfg t len ps) aA (FH cfg.c t len ps):=by
 unfold Nz FH;split;rename_i b _ d;simp only[d];cases cfg.c.ti b with
 |none=>exact ae.fail|some i=>
  cases lk b cfg.R with
  |none=>exact ae.fail|some a=>
   simp only[bd,bind_eq];cases i.zero with|none=>exact ae.fail|some z=>simp only;refine ae.sure λh=>?_;simp only[bG,cT,cq,gG,kj]at h;let⟨⟨⟨⟨⟨h1,h2⟩,h3⟩,f⟩,g⟩,j⟩:=h;rw[bN ⟨h1,h2,h3,g⟩];have e:=B0 j;have:dk len z=(dk len a.zero).map (aP a):=(by simp_all);rw[this];exact ae.bind (Xf a i.size ps _ s) λrows k=>ae.ret (by simp only[aA,cE,lC,f])
 exact ae.fail
def aio(cfg:dJ)(t:aW)(len cap:M)(s:aU):ae s (NA cfg t len cap) aA (FI cfg.c t len cap):=by
 unfold NA FI;split;rename_i a _ b;simp only[b];cases cfg.c.ti a with
 |none=>exact ae.fail|some i=>
  cases lk a cfg.R with
  |none=>exact ae.fail|some d=>
   simp only[bd,bind_eq];cases i.zero with|none=>exact ae.fail|some z=>simp only;refine ae.sure λh=>ae.ask λe=>?_;grind [cq,gG,bN,B0,ae.ret,aA,cE,lC,List.map_replicate]
 exact ae.fail
theorem aip(i:TI)(t:Ty)(c:E)(ys:L t.T)(lit:ao)(s:aU)(P:∀m t o,c≠.n m t o):ae s (NB i t c ys lit) aA (vi i (cE c) (ys.map (aP t))):=by
 unfold NB vi;simp only[bd,bind_eq];refine ae.sure λh=>?_;simp only[bG,cq,gG,cT,kj]at h;let⟨⟨⟨⟨⟨h1,h2⟩,h3⟩,R⟩,g⟩,C⟩:=h;rw[bN ⟨h1,h2,h3,by grind,C⟩];cases c with
 |nil=>
  simp only[cE];refine ae.ask λS=>?_;rw[bN (by grind)];cases lit with
  |true=>
   cases ys with|nil=>exact ae.ret rfl|cons y r=>exact ae.ret (by simp only[aA,cE,lC,g])
  |false=>
   cases ys with|nil=>exact ae.ret rfl|cons y r=>exact ae.ret (by simp only[aA,cE,dj,lC,g])
 |n m t o=>grind|l m b xs=>
  cases m with
  |own=>exact ae.fail|data=>exact ae.fail|aS r j hv cv k=>
   simp only[cE,lC];refine ae.get ?_;refine ae.sure λz=>?_;simp only[bG,cT,kj]at z;let⟨⟨F,G⟩,H⟩:=z;have key:∀(f:L (L D))(p:U),f.length=p→ae s ((ask (decide (k+xs.length=p))).bind λ_=>(ask (decide (xs.length+ys.length≤68719476736))).bind λ_=>(pY r j (s.get r)).bind λ_=>if h:b=t then PE.ret (aE.one (.l .own t ((h▸xs)++ys)))else .fail) aA ((need ((bV (s.get r)).hv=hv∧(bV (s.get r)).cv=cv∧b.e=i.size∧r.isArg=I)).bind λ_=>(need (k+(xs.map (aP b)).length=f.length)).bind λ_=>(need ((xs.map (aP b)).length+(ys.map (aP t)).length≤2 ^ 36)).bind λ_=>(ov r j (bV (s.get r))).bind λ_=>Prog.ret (SV.one (.own b.e (xs.map (aP b)++ys.map (aP t))))):=by
    intro f p A;by_cases B:b=t;subst B;refine ae.ask λK=>ae.ask λN=>?_;rw[bN ⟨F,G,g.symm,H⟩,bN (by grind),bN (by grind)];grind [ae.bind,WP,ae.ret,aA,cE,lC];refine ae.ask λK=>ae.ask λN=>?_;simp only[B,dite_false];unfold ae;rw[iX,Tr.sY];generalize (pY r j (s.get r)).both s=tr;induction tr with|leaf a=>trivial|fail=>trivial|br c t e q u=>exact⟨λ_=>q,λ_=>u⟩|call d o k v=>exact λx _=>v x|sum o k k' v w=>exact⟨λx _=>v x,λx _=>w x⟩
   rw[at_eq];cases V:(s.get r).at j with
   |l m t2 f=>
    cases m with|own=>exact key (f.map (aP t2)) _ (by simp)|_=>exact ae.fail
   |n m t2 o=>
    cases m with|own=>exact ae.call λf A=>by subst A;exact key (f.map (aP t2)) _ (by simp)|_=>exact ae.fail
   |_=>exact ae.fail
 |_=>exact ae.fail
def Xg(t:Ty)(w:U)(a:w=t.e)(ys:L t.T):(SV.one (cE (.n .own t (dj ys))))=if ys.map (aP t)=[]then SV.one (.d .nil)else SV.one (.own w (ys.map (aP t))):=by
 subst a;cases ys with|nil=>rfl|cons y r=>rfl
theorem aiq(i:TI)(t:Ty)(r:aD)(j hv cv k:U)(b:Ty)(o:Q (L b.T))(ys:L t.T)(lit:ao)(s:aU):ae s (NC i t r j hv cv k b o ys lit) aA (vi i (cE (.n (.aS r j hv cv k) b o)) (ys.map (aP t))):=by
 unfold NC vi;simp only[bd,bind_eq];refine ae.sure λh=>?_;simp only[bG,cq,gG,cT,kj]at h;let⟨⟨⟨⟨⟨h1,h2⟩,h3⟩,K⟩,z⟩,D⟩:=h;rw[bN ⟨h1,h2,h3,by grind,D⟩];cases o with
 |none=>
  simp only[cE];refine ae.look ?_;refine ae.sure λm=>?_;cases A:(s.get r).at j with
  |n p t2 B=>
   cases p with
   |own=>refine ae.ask λ_=>ae.ask λg=>?_;simp only[aeP,AB,Nat.zero_add,eh]at g;rw[bN (by simpa using g)];refine ae.bind (k':=λ_=>if ys.map (aP t)=[]then Prog.ret (SV.one (.d .nil))else Prog.ret (SV.one (.own i.size (ys.map (aP t))))) (q:=Prog.ret ()) (f:=λ_=>()) (WU r j s) λ_ E=>?_;split;rename_i l;subst l;have fin:ae E (PE.ret (aE.one (.n .own b (iF O ys)))) aA (if ys.map (aP b)=[]then Prog.ret (SV.one (.d .nil))else Prog.ret (SV.one (.own i.size (ys.map (aP b))))):=(by have e:=Xg b i.size z ys;have:(if ys.map (aP b)=[]then Prog.ret (SV.one (.d .nil))else Prog.ret (SV.one (.own i.size (ys.map (aP b)))))=Prog.ret (SV.one (cE (.n .own b (dj ys)))):=(by rw[e];split<;>rfl);rw[this];exact ae.ret rfl);grind [ae.ret,aA,cE,lC];exact ae.fail
   |_=>exact ae.fail
  |_=>exact ae.fail
 |some xs=>
  simp only[cE,lC];refine ae.get ?_;refine ae.sure λm=>?_;simp only[bG,cT,kj]at m;let⟨⟨F,G⟩,H⟩:=m;rw[at_eq];cases A:(s.get r).at j with
  |n p t2 B=>
   cases p with
   |own=>
    refine ae.ask λC=>ae.ask λg=>?_;simp only[eB,eh]at C g;cases B with
    |none=>unfold oP;rw[A];exact ae.br (λh=>by cases h) λ_=>trivial|some N=>
     simp only[cE,lC];by_cases l:b=t;subst l;rw[bN ⟨F,G,z.symm,H⟩,bN (by simpa using C),bN (by simpa using g)];grind [ae.bind,WT,ae.ret,aA,cE,lC,iF];unfold ae;rw[iX,Tr.sY];simp only[l,dite_false];generalize (oP r j (s.get r) _).both s=tr;induction tr with|leaf a=>trivial|fail=>trivial|br c t e u v=>exact⟨λ_=>u,λ_=>v⟩|call d o k w=>exact λx _=>w x|sum o k k' w y=>exact⟨λx _=>w x,λx _=>y x⟩
   |_=>exact ae.fail
  |_=>exact ae.fail
def air(i:TI)(t:Ty)(c:E)(ys:L t.T)(lit:ao)(s:aU):ae s (ND i t c ys lit) aA (vi i (cE c) (ys.map (aP t))):=by unfold ND;grind [bd,ah2,aip,aiq]
def ais(c:E)(s:aU):ae s (NF c) aA (L2 (cE c)):=by
 unfold NF;cases c with
 |nil=>exact ae.ret rfl|n m t o=>
  simp only[bd];refine ae.ask λh=>?_;cases o with|none=>exact ae.ret rfl|some xs=>cases h
 |_=>exact ae.fail
def Xh{i:TI}{t:Ty}{z:L D}{n:M}{s:aU}(b:i.zero=J z)(h:(z.length==i.size&&bw 0 i.size&&bw 0 i.bytes&&fi i.bytes 1024&&i.size==t.e&& !isMap i.size&&sV t z)=W)(hn:0≤n∧n≤68719476736):ae s (PE.ret (.one (.n .own t (dj (dk n.toNat t.zero))))) aA (ye i (.d .nil) n):=by simp only[bG,cT,cq,gG,kj]at h;let⟨⟨⟨⟨⟨⟨h1,h2⟩,h3⟩,c⟩,f⟩,g⟩,j⟩:=h;have e:=B0 j;unfold ye;simp only[b,bind_eq];rw[bN ⟨h1,h2,h3,c,g⟩,bN (by simpa using hn)];have k:=Xg t i.size f (dk n.toNat t.zero);by_cases a:n.toNat=0;rw[ax a];refine ae.ret ?_;rw[a];rfl;rw[aK a];refine ae.ret ?_;show _=SV.one (cE (.n .own t (dj (dk n.toNat t.zero))));simp_all
def ait(i:TI)(t:Ty)(c:E)(n:M)(s:aU):ae s (NG i t c n) aA (ye i (cE c) n):=by
 unfold NG;split;rename_i z a;simp only[bd];refine ae.sure λh=>?_;cases c with
 |nil=>simp only;refine ae.ask λhn=>?_;exact Xh a h (iB hn)|n m t o=>
  simp only;refine ae.ask λhn=>?_;rw[bG]at hn;cases o with|none=>exact Xh a h (iB hn.2)|some xs=>grind
 |_=>exact ae.fail
 exact ae.fail
def aiu(cfg:bg)(i:TI)(t:Ty)(tid:aW)(c:E)(s:aU):ae s (NE cfg i t tid c) (gV (aP t)) (vj cfg i tid (cE c)):=by
 unfold NE;split;rename_i h;split;split;rename_i a;subst a;simp only[vj,cE,h,bd,bind_eq];simp_all [ae.sure,bN,ae.ret,aP,ey,aN];exact ae.fail;exact ae.fail;rename_i h;have e:vj cfg i tid (cE c)=elems i.size (cE c):=by unfold vj;rw[h]
 simp_all [bd,ae.sure,WX];exact ae.fail
def aiv(v:aE)(lo hi:Q M)(s:aU):ae s (NH v lo hi) aA (FJ (aA v) lo hi):=by unfold NH;split;simp only[FJ,aA,cE,bd,bind_eq];refine ae.ask λh=>?_;rw[bN (by grind [af])];exact ae.ret rfl;exact ae.fail
theorem Hr{α β:Type}(f:α→β)(l h:M)(xs:L α):(aV l h xs).map f=((xs.map f).take h.toNat).drop l.toNat:=by simp[aV,List.map_take,xW]
def aiw(size:U)(v:aE)(lo hi:Q M)(s:aU):ae s (NI size v lo hi) aA (pH size (aA v) lo hi):=by
 unfold NI;split;simp only[pH,aA,cE,bd,bind_eq];refine ae.ask λh=>?_;rw[bN (iB h)];exact ae.ret rfl;rename_i t xs;simp only[pH,aA,cE,lC,bd,bind_eq];grind [ae.ask,ae.sure,bN,af,ae.ret,aA,cE,lC,Hr];rename_i t o;simp only[bd];refine ae.ask λh=>ae.sure λh2=>?_;have a:=iB h;cases o with|none=>simp only[pH,aA,cE,bind_eq];simp only[af,aeP,AB,Int.natCast_zero]at a;rw[bN (by grind)];exact ae.ret rfl|some xs=>simp_all [pH,aA,cE,lC,bind_eq,bN,af,ae.ret,Hr]
 rename_i r j hv cv k t xs;simp only[pH,aA,cE,lC,bd,bind_eq];grind [ae.ask,ae.sure,bN,af,ae.ret,aA,cE,lC,Hr];rename_i r j hv cv k t o;simp only[bd];refine ae.ask λh=>ae.sure λh2=>?_;have a:=iB h;cases o with|none=>grind [pH,aA,cE,bind_eq,af,bN,ae.ret]|some xs=>simp only[pH,aA,cE,lC,bind_eq];grind [bN,af,ae.ret,aA,cE,lC,Hr]
 exact ae.fail
def Xi{cfg:bg}{a:aW}(h:G2 cfg a=W):∃b z,cfg.ti a=J ⟨1,b,.int .u8,z⟩:=by grind [G2]
def aix(cfg:bg)(src dst:aW)(v:aE)(s:aU):ae s (NJ cfg src dst v) aA (sd cfg src dst (aA v)):=by
 unfold NJ;split;rename_i h1 h2;split;simp only[sd,h1,h2,aA,cE];exact ae.ret rfl;exact ae.fail;rename_i i _ _ _ h1 h2;split;simp only[sd,h1,h2,aA,cE];exact ae.ret rfl;rename_i c g;split;rename_i p hk;split;rename_i f;let⟨b,z,a⟩:=Xi f
 have e:sd cfg src dst (aA (.one c))=(elems 1 (cE c)).bind λxs=>match xs.mapM (λx=>match x with|[.int .u8 n]=>J (je n.toNat)|_=>O)with|some l=>Prog.ret (SV.one (.d (.str l)))|none=>.fail:=by
  let⟨h,j,q,r⟩:=i
  simp only at hk
  subst hk
  simp only[sd,h1,h2,aA,bind_eq]
  cases c with
  |l m t xs=>cases m<;>(simp only[cE,lC,a];rfl)
  |n m t o=>cases m<;>cases o<;>(simp only[cE,lC,a];rfl)
  |s x=>exact bX rfl (g x)|gone b=>cases b<;>(simp only[cE,a];rfl)
  |it m t xs u=>cases m<;>(simp only[cE,mC,a];rfl)
  |_=>simp only[cE,a];rfl
 rw[e];simp only[bd];refine ae.bind (WX (.int .u8) c s) λxs y=>?_;have:∀l:L M,(l.map (aP (.int .u8))).mapM (λx=>match x with|[.int .u8 n]=>J (je n.toNat)|_=>O)=J (l.map λn=>je n.toNat):=by
  intro l;induction l with|nil=>rfl|cons n l k=>rw[dO,List.mapM_cons,k];rfl
 rw[this xs];exact ae.ret rfl;exact ae.fail;exact ae.fail;exact ae.fail;rename_i h1 h2;split;split;rename_i f;let⟨b,z,a⟩:=Xi f;simp only[sd,h1,h2,aA,cE,a];exact ae.ret (by simp[aA,cE,lC,aP,Ty.w,Ty.e,ey,aN]);exact ae.fail;exact ae.fail;exact ae.fail
def N6:∀(cs:L E),fZ (aJ cs)=mH cs
 |[]=>rfl|c::cs=>by
  have a:=N6 cs;cases c with
  |ptr k off=>simp only[aJ,dO,cE,fZ,mH]at a ⊢;rw[a]|cy f caps=>simp only[aJ,dO,cE,fZ,mH]at a ⊢;rw[a]|l m t xs=>cases m<;>exact a
  |n m t o=>cases m<;>cases o<;>exact a
  |gone b=>cases b<;>exact a
  |it m t xs d=>cases m<;>exact a
  |_=>exact a
def N7:∀(vs:L aE),(vs.map aA).flatMap SV.cells=aJ (vs.flatMap aE.cells)|[]=>rfl|v::vs=>by simp only[dO,lq,N7 vs,Hh,NY]
theorem yW{p:PE E}{q:Prog D}{s:aU}(hp:ae s p oT q)(hx:(p.both s).box (λx=>mF x.1=W)):ae s p cE (q.bind λd=>Prog.ret (C.d d)):=by unfold ae at hp ⊢;refine Tr.mK ?_ (Tr.WB hp hx);grind [NZ,N0,Prog.both,oT,yV]
theorem yX(c:E)(s:aU):((nE c).both s).box (λx=>mF x.1=W):=by
 have one:∀(c:E),((lF c).both s).box (λx=>mF x.1=W):=by
  intro c;have f:∀{α:Type}(p:PE α)(d:E),mF d=W→((p.bind λ_=>PE.ret d).both s).box (λx=>mF x.1=W):=by
   intro α p d hd;rw[iX,Tr.sY];generalize p.both s=tr;induction tr with|leaf a=>exact hd|fail=>trivial|br c t e q u=>exact⟨λ_=>q,λ_=>u⟩|call d o k v=>exact λx _=>v x|sum o k k' v w=>exact⟨λx _=>v x,λx _=>w x⟩
  have dat:∀{c:E},mF c=W→lF c=PE.ret c→((lF c).both s).box (λx=>mF x.1=W):=by intro c hd z;rw[z];exact hd
  cases c with
  |l m t xs=>
   cases m with
   |aS r j hv cv k=>
    simp only[lF,PE.both,bd];rw[Tr.qc];cases g:(s.get r).hv==hv&&(s.get r).cv==cv with|false=>trivial|true=>exact f _ _ rfl
   |data=>exact dat rfl rfl|own=>trivial
  |n m t o=>
   cases m with
   |aS r j hv cv k=>
    simp only[lF,PE.both,bd];rw[Tr.qc];cases g:(s.get r).hv==hv&&(s.get r).cv==cv with|false=>trivial|true=>exact f _ _ rfl
   |data=>exact dat rfl rfl|own=>trivial
  |i=>exact dat rfl rfl|b=>exact dat rfl rfl|tt=>exact dat rfl rfl|ff=>exact dat rfl rfl|s=>exact dat rfl rfl|nil=>exact dat rfl rfl|ck=>exact dat rfl rfl|r=>exact dat rfl rfl|_=>trivial
 unfold nE;rw[bd,iX,Tr.sY];have same:∀h,((PE.ret h).both s).box λa=>(((lF a.1).both a.2.1).map λy=>(y.1,y.2.1,a.2.2.1++y.2.2.1,a.2.2.2++y.2.2.2)).box (λx=>mF x.1=W):=by intro h;show(((lF h).both s).map _).box _;rw[Tr.qc];exact one h
 cases c with
 |n m t o=>
  cases m with
  |aS r j hv cv k=>
   cases r with|arg i=>exact⟨λ_=>same _,λ_=>same _⟩|_=>exact same _
  |_=>exact same _
 |_=>exact same _
def Xj(cfg:bg)(c:E)(s:aU):ae s (G6 cfg c) cE (nu cfg (cE c)):=by
 unfold G6;cases c with
 |l m t xs=>
  cases m with
  |aS r j hv cv k=>
   cases r with
   |tmp u=>grind [BG,nu,cE,lC,bind_eq,ae.ret,yW,tj,yX]|box u=>
    simp only[BG];cases a:cfg.pE with|false=>simp only[nu,cE,lC,a,bh,bC];exact ae.ret rfl|true=>have h:=yW (tj (.l (.aS (.box u) j hv cv k) t xs) s) (yX _ s);simp only[nu,cE,lC,a,bf,bind_eq];exact h
   |_=>exact ae.ret rfl
  |_=>exact ae.ret rfl
 |n m t o=>
  cases m with
  |aS r j hv cv k=>
   cases r with
   |tmp u=>
    simp only[BG];cases a:cfg.keep u with
    |true=>
     cases o with|none=>exact ae.ret rfl|some xs=>simp only[nu,cE,lC,a,bf];exact ae.ret rfl
    |false=>
     have h:=yW (tj (.n (.aS (.tmp u) j hv cv k) t o) s) (yX _ s);cases o with|none=>exact h|some xs=>simp only[nu,cE,lC,a,bh,bC,bind_eq];exact h
   |box u=>
    simp only[BG];cases a:cfg.pE with
    |false=>
     cases o with|none=>exact ae.ret rfl|some xs=>simp only[nu,cE,lC,a,bh,bC];exact ae.ret rfl
    |true=>
     have h:=yW (tj (.n (.aS (.box u) j hv cv k) t o) s) (yX _ s);cases o with|none=>exact h|some xs=>simp only[nu,cE,lC,a,bf,bind_eq];exact h
   |_=>cases o<;>exact ae.ret rfl
  |_=>cases o<;>exact ae.ret rfl
 |gone b=>cases b<;>exact ae.ret rfl
 |it m t xs d=>cases m<;>first|exact ae.ret rfl|exact ae.fail
 |_=>exact ae.ret rfl
def Xk(cfg:bg):∀(cs:L E)(s:aU),ae s (BH cfg cs) aJ (vm cfg (aJ cs))|[],s=>ae.ret rfl|c::cs,s=>by show ae s (BH cfg (c::cs)) aJ (vm cfg (cE c::aJ cs));simp only[BH,vm,bd,bind_eq];exact ae.bind (Xj cfg c s) λd a=>ae.bind (Xk cfg cs a) λb e=>ae.ret rfl
def aiy(cfg:bg)(v:aE)(s:aU):ae s (yJ cfg v) aA (oA cfg (aA v)):=by
 cases v with|one c=>show ae s (yJ cfg (.one c)) aA (oA cfg (.one (cE c)));simp only[yJ,oA,bd,bind_eq];exact ae.bind (Xj cfg c s) λa b=>ae.ret rfl|agg cs=>show ae s (yJ cfg (.agg cs)) aA (oA cfg (.agg (aJ cs)));simp only[yJ,oA,bd,bind_eq];exact ae.bind (Xk cfg cs s) λa b=>ae.ret rfl|_=>exact ae.fail
def Xl(cfg:bg):∀(vs:L aE)(s:aU),ae s (G7 cfg vs) (gV aA) (yi cfg (vs.map aA))|[],s=>ae.ret rfl|v::vs,s=>by simp only[dO,G7,yi,bd,bind_eq];exact ae.bind (aiy cfg v s) λc a=>ae.bind (Xl cfg vs a) λb d=>ae.ret rfl
def Xm(ks:L Key)(c:E)(s:aU):ae s (yK ks c) cE (canon ks (cE c)):=by
 cases c with
 |l m t xs=>
  cases m with
  |own=>exact ae.fail|data=>exact ae.ret rfl|aS r j hv cv k=>
   simp only[yK,canon,cE,lC];refine ae.get ?_;simp only[bd,bind_eq];refine ae.sure λd=>?_;simp only[bG,cT]at d;rw[bN (p:=(bV (s.get r)).hv=hv∧(bV (s.get r)).cv=cv) d];rw[at_eq];have own:∀(b:ao),b=ks.all (λk=> !fU r (.box k))→ae s ((sure b).bind λ_=>PE.ret (E.l .own t xs)) cE ((need (∀k∈ks,r≠.box k)).bind λ_=>Prog.ret (C.own t.e (xs.map (aP t)))):=(by intro b v;refine ae.sure λh=>?_;rw[bN (by grind [td])];exact ae.ret rfl);cases f:(s.get r).at j with
   |l a g ys=>
    cases a with|own=>exact own _ rfl|data=>exact ae.ret rfl|aS=>exact ae.fail
   |n a g o=>
    cases a with|own=>exact ae.call λx i=>by subst i;exact own _ rfl|data=>exact ae.call λx i=>by subst i;exact ae.ret rfl|aS=>exact ae.fail
   |_=>exact ae.fail
 |n m t o=>
  cases m with
  |aS r j hv cv k=>
   cases o with
   |none=>
    simp only[yK];refine ae.look ?_;simp only[bd];refine ae.sure λd=>?_;cases f:(s.get r).at j with
    |n a g q=>
     cases a with|own=>exact th λ_=>ae.sure λ_=>ae.ret rfl|data=>exact th λ_=>ae.ret rfl|aS=>exact ae.fail
    |_=>exact ae.fail
   |some xs=>
    simp only[yK,canon,cE,lC];refine ae.get ?_;simp only[bd,bind_eq];refine ae.sure λd=>?_;simp only[bG,cT]at d;rw[bN (p:=(bV (s.get r)).hv=hv∧(bV (s.get r)).cv=cv) d];rw[at_eq];cases f:(s.get r).at j with
    |n a g q=>
     cases a with
     |own=>
      refine th λ⟨t2,u,h1,h2⟩=>?_;rw[f]at h1;cases q with|none=>grind|some ys=>grind [ae.sure,cE,lC,bN,td,ae.ret]
     |data=>
      refine th λ⟨t2,u,h1,h2⟩=>?_;rw[f]at h1;cases q with|none=>grind|some ys=>exact ae.ret rfl
     |aS=>exact ae.fail
    |_=>exact ae.fail
  |own=>exact ae.fail|data=>cases o<;>exact ae.ret rfl
 |gone b=>exact ae.fail|ea=>exact ae.fail|da=>exact ae.fail|dead=>exact ae.fail|it=>exact ae.fail|_=>exact ae.ret rfl
def Xn(ks:L Key):∀(cs:L E)(s:aU),ae s (BJ ks cs) aJ (qM ks (aJ cs))|[],s=>ae.ret rfl|c::cs,s=>by show ae s (BJ ks (c::cs)) aJ (qM ks (cE c::aJ cs));simp only[BJ,qM,bd,bind_eq];exact ae.bind (Xm ks c s) λd a=>ae.bind (Xn ks cs a) λb e=>ae.ret rfl
def aiz(ks:L Key)(v:aE)(s:aU):ae s (yL ks v) aA (mo ks (aA v)):=by
 cases v with|one c=>show ae s (yL ks (.one c)) aA (mo ks (.one (cE c)));simp only[yL,mo,bd,bind_eq];exact ae.bind (Xm ks c s) λa b=>ae.ret rfl|agg cs=>show ae s (yL ks (.agg cs)) aA (mo ks (.agg (aJ cs)));simp only[yL,mo,bd,bind_eq];exact ae.bind (Xn ks cs s) λa b=>ae.ret rfl|_=>exact ae.fail
def Xo(ks:L Key):∀(vs:L aE)(s:aU),ae s (G8 ks vs) (gV aA) (se ks (vs.map aA))|[],s=>ae.ret rfl|v::vs,s=>by simp only[dO,G8,se,bd,bind_eq];exact ae.bind (aiz ks v s) λc a=>ae.bind (Xo ks vs a) λb d=>ae.ret rfl
theorem Xp{c:E}(h:p5 c=W):plain (cE c)=W:=by
 cases c with
 |l m t xs=>cases m<;>first|rfl|cases h
 |n m t o=>cases m<;>cases o<;>first|rfl|cases h
 |_=>first|rfl|cases h
def aiA{cs:L E}(h:cs.all p5=W):(aJ cs).all plain=W:=by simp_all [aJ,Xp]
def Xq{ks:L Key}{c:E}(h:jT ks c=W):tok ks (cE c)=W:=by
 cases c with
 |ptr k off=>simp_all [jT,jV,tok,cE]|l m t xs=>cases m<;>first|rfl|cases h
 |n m t o=>cases m<;>cases o<;>first|rfl|cases h
 |_=>first|rfl|cases h
def aiB{ks:L Key}{cs:L E}(h:cs.all (jT ks)=W):(aJ cs).all (tok ks)=W:=by simp_all [aJ,Xq]
def Xr{ks:L Key}{c:E}(h:jT ks c=W):cE (kz ks c)=tc ks (cE c):=by
 cases c with
 |ptr k off=>rfl|l m t xs=>cases m<;>first|rfl|cases h
 |n m t o=>cases m<;>cases o<;>first|rfl|cases h
 |_=>first|rfl|cases h
def Xt{ks:L Key}:∀{cs:L E},cs.all (jT ks)=W→aJ (cs.map (kz ks))=(aJ cs).map (tc ks)|[],_=>rfl|c::cs,h=>by rw[l8,bG]at h;show cE (kz ks c)::aJ (cs.map (kz ks))=tc ks (cE c)::(aJ cs).map (tc ks);rw[Xr h.1,Xt h.2]
theorem Xu{ks:L Key}{c:E}(h:jT ks c=W):bc ks (cE (kz ks c))=cE c:=by
 cases c with
 |ptr k off=>
  have hk:k∈ks:=by simp_all [jT,jV]
  let⟨h1,h2⟩:=Gp hk;show C.ptr (ks.getD (idx k ks) default) off=C.ptr k off;grind
 |l m t xs=>cases m<;>first|rfl|cases h
 |n m t o=>cases m<;>cases o<;>first|rfl|cases h
 |_=>first|rfl|cases h
theorem Xv{ks:L Key}{c:E}(h:jT ks c=W):ic ks.length (cE (kz ks c))=W:=by rw[Xr h];exact Vg (Xq h)
theorem Xw{y:E}(h:Ha (J y)=W):y=.dead∨p5 y=W:=by cases y<;>first|exact .inl rfl|exact .inr h
theorem aiC{n:U}{c:C}(h:plain c=W):ic n c=W:=by cases c<;>first|rfl|cases h
def Xx{ks:L Key}:∀{cs:L E}{o:L (Q E)},cs.all (jT ks)=W→o.all Ha=W→(aJ (dQ (cs.map (kz ks)) o)).map (bc ks)=aJ (dQ cs o)∧(aJ (dQ (cs.map (kz ks)) o)).all (ic ks.length)=W
 |[],_,_,_=>⟨rfl,rfl⟩|c::cs,[],h,_=>by
  have b:∀{l:L E},l.all (jT ks)=W→(aJ (l.map (kz ks))).map (bc ks)=aJ l∧(aJ (l.map (kz ks))).all (ic ks.length)=W:=by
   intro l;induction l with
   |nil=>intro _;exact⟨rfl,rfl⟩
   |cons a l d=>grind [aJ,Xu,Xv]
  exact b h
 |c::cs,x::o,h,g=>by
  rw[l8,bG]at h g;let⟨e,f⟩:=Xx h.2 g.2;cases x with|none=>grind [aJ,dQ,Xu,Xv]|some y=>grind [Xw,bc,cE,aJ,dQ,ic,Xp,Vj,aiC]
def N8(a:L Key):∀(ks:L Key)(s:aU),ae s (oR a ks) (gV aJ) (vn a ks)
 |[],s=>ae.ret rfl|k::ks,s=>by
  simp only[oR,vn,bd,bind_eq];refine ae.get ?_;cases hv:(s.get (.box k)).v with|agg cs=>simp only[bV,hv,aA];refine ae.sure λh=>?_;rw[bN (aiB h)];exact ae.bind (N8 a ks s) λr b=>ae.ret (by rw[dO,Xt h])|_=>simp only[bV,hv,aA];exact ae.fail
def aiD(cs:L E):fZ (aJ cs)=mH cs:=by
 induction cs with
 |nil=>rfl|cons c cs a=>
  cases c with
  |l m t xs=>cases m<;>exact a
  |n m t o=>cases m<;>cases o<;>exact a
  |ptr k off=>exact bz (k:: ·) a|cy f caps=>exact bz (caps.map (·.1)++ ·) a|gone b=>cases b<;>exact a
  |it m t xs d=>cases m<;>exact a
  |_=>exact a
def Xy:∀(ks:L Key)(s:aU),ae s (Hb ks) (λl=>l) (yj ks)
 |[],s=>ae.ret rfl|k::ks,s=>by
  simp only[Hb,yj,bd,bind_eq];refine ae.get ?_;cases hv:(s.get (.box k)).v with|agg cs=>simp only[bV,hv,aA];exact ae.bind (Xy ks s) λr a=>ae.ret (by rw[aiD])|_=>simp only[bV,hv,aA];exact ae.fail
def N9{α:Type}(r:aD)(x:cX)(k:bu→PE α):(jR r x).bind k=.put r x (k ()):=rfl
def Hs{α:Type}(r:aD)(x:RV)(k:bu→Prog α):(dn r x).bind k=.put r x (k ()):=rfl
def Holds(a:L Key)(s:aU):L Key→L (L E)→Prop|[],[]=>cZ|k::ks,b::c=>(∃o,(s.get (.box k)).v=.agg o∧o.all (jT a)=W∧b=o.map (kz a))∧Holds a s ks c|_,_=>gT
def Holds.other{d:L Key}{s:aU}{k:Key}{os:L (Q E)}{cs:L E}(h:(s.get (.box k)).v=.agg cs):∀{ks:L Key}{c:L (L E)},k ∉ ks→Holds d s ks c→Holds d (s.wr k os) ks c|[],[],_,a=>a|[],_::_,_,a=>a.elim|_::_,[],_,a=>a.elim|q::ks,b::c,hk,a=>by simp only[iA,not_or]at hk;refine⟨?_,Holds.other h hk.2 a.2⟩;rw[BS s k os _ h,aK (by grind)];exact a.1
def Xz(b:L Key):∀(ks:L Key)(s:aU),((oR b ks).both s).box λx=>x.2.1=s∧Holds b s ks x.1
 |[],s=>⟨rfl,trivial⟩|k::ks,s=>by
  simp only[oR,PE.both,Tr.qc,bd];cases hv:(s.get (.box k)).v with
  |agg cs=>
   cases hp:cs.all (jT b)with|false=>simp only[hp];exact trivial|true=>simp only[hp];show(((oR b ks).bind λr=>PE.ret (cs.map (kz b)::r)).both s).box _;rw[iX,Tr.sY];refine Tr.mK ?_ (Xz b ks s);rintro ⟨a,s',f,g⟩ ⟨h1,h2⟩;simp only at h1 h2;subst h1;exact⟨rfl,⟨cs,hv,hp,rfl⟩,h2⟩
  |_=>exact trivial
theorem aiE{e:E}(h:p5 e=W){k:Key}{off:U}:cE e≠.ptr k off:=by
 cases e with
 |l m t xs=>cases m<;>simp[cE,lC]
 |n m t o=>cases o<;>cases m<;>simp[cE,lC]
 |ptr=>cases h
 |gone b=>cases b<;>simp[cE]
 |it=>cases h
 |_=>simp[cE]
def XA{c:E}{k:Key}{off:U}(h:cE c=.ptr k off):c=.ptr k off:=by
 cases c with
 |l m t xs=>cases m<;>simp[cE,lC]at h
 |n m t o=>cases o<;>cases m<;>simp[cE,lC]at h
 |ptr=>simp_all [cE]|gone b=>cases b<;>simp[cE]at h
 |it m t xs a=>cases m<;>simp[cE,mC]at h
 |_=>simp[cE]at h
def aiF{cs:L E}{o:L (Q E)}(h:o.all Ha=W):sf (.agg (aJ cs)) (aJ (dQ cs o))=BK cs o:=by
 cases hk:BK cs o with
 |true=>unfold BK at hk;split at hk;simp[dQ,aJ,cE,sf];simp[dQ,aJ,cE,sf];cases hk
 |false=>
  cases a:sf (.agg (aJ cs)) (aJ (dQ cs o))with
  |false=>rfl|true=>
   let⟨k,off,h1,h2⟩:=Vm a;simp only[SV.agg.injEq,aJ]at h1;cases cs with
   |nil=>cases h1
   |cons c cs=>
    simp only[dO,xQ,List.map_eq_nil_iff]at h1;obtain⟨h3,rfl⟩:=h1;obtain rfl:=XA h3;cases o with
    |nil=>cases hk
    |cons x o=>
     cases x with
     |none=>cases hk
     |some e=>grind [dQ,aJ,Xw,cE,aiE]
def B1(e:L Key):∀(ks:L Key)(c:L (L E))(os:L (L (Q E)))(s:aU),ks.length≤os.length→ks.Nodup→Holds e s ks c→ae s (BL e ks (os.take ks.length)) (λ_=>()) (pJ e ks (((gM c os).map aJ).take ks.length))
 |[],[],os,s,_,_,_=>by simp only[AB,List.take_zero];exact ae.ret rfl|[],b::c,os,s,_,_,h=>h.elim|k::ks,[],os,s,_,_,h=>h.elim|k::ks,b::c,[],s,f,_,_=>by simp at f|k::ks,b::c,o::os,s,f,hn,h=>by
  simp only[jr,List.take_succ_cons,gM,dO,BL,pJ,bd,bind_eq];obtain⟨⟨a,g,i,rfl⟩,h2⟩:=h;refine ae.get ?_;rw[g];refine ae.sure λhp=>?_;rw[bG]at hp;let⟨j,l⟩:=Xx (ks:=e) hp.1 hp.2;have d:=xV.1 hn;rw[bN l,j];have ev:(bV (s.get (.box k))).v=.agg (aJ a):=by simp only[bV,g,aA]
  rw[ev,aiF hp.2];cases BK a o with|true=>exact B1 e ks c os _ (by simpa using f) d.2 h2|false=>simp only;rw[Hs];exact ae.wr g rfl (B1 e ks c os _ (by simpa using f) d.2 (Holds.other g d.1 h2))
def Ht(t:U):∀(a:L (L E))(i:U)(s:aU),ae s (Hc t i a) (λ_=>()) (escape t i (a.map aJ))
 |[],i,s=>ae.ret rfl|b::a,i,s=>by
  simp only[dO,Hc,escape,bd,bind_eq];refine ae.get ?_;cases hv:(s.get (.box (.esc t i))).v with|undef=>simp only[bV,hv,aA];refine ae.sure λh=>?_;rw[bN (aiA h),N9,Hs];exact ae.put rfl rfl (Ht t a (i+1) _)|_=>simp only[bV,hv,aA];exact ae.fail
def Oa{args:L aE}{l:L (U×U)}(h:NV args l=W):yk (args.map aA) l=W:=by
 simp only[NV,yk,fO]at h ⊢;intro p hp;have h1:=h p hp;have e:((args.map aA).getD p.1 .undef).cells.getD p.2 .dead=cE ((args.getD p.1 .undef).cells.getD p.2 .dead):=by have a:(args.map aA).getD p.1 .undef=aA (args.getD p.1 .undef):=getD_map aA args p.1 .undef;rw[a,Hh];exact getD_map cE _ p.2 .dead
 grind [N0]
def XB(ks:L Key)(t:U)(c:E)(s:aU):ae s (He ks t c) cE (back ks t (cE c)):=by
 cases c with
 |l m t xs=>cases m<;>first|exact ae.ret rfl|exact ae.fail
 |n m t o=>cases m<;>cases o<;>first|exact ae.ret rfl|exact ae.fail
 |ptr k off=>cases k<;>first|exact ae.ret rfl|exact ae.fail
 |cy f caps=>simp only[He,back,cE,bd,bind_eq];refine ae.sure λh=>?_;rw[bN (by simpa using h)];exact ae.ret rfl|ea=>exact ae.fail|da=>exact ae.fail|dead=>exact ae.fail|gone b=>exact ae.fail|it=>exact ae.fail|_=>exact ae.ret rfl
def Ob(ks:L Key)(t:U):∀(cs:L E)(s:aU),ae s (yM ks t cs) aJ (pK ks t (aJ cs))|[],s=>ae.ret rfl|c::cs,s=>by show ae s (yM ks t (c::cs)) aJ (pK ks t (cE c::aJ cs));simp only[yM,pK,bd,bind_eq];exact ae.bind (XB ks t c s) λd a=>ae.bind (Ob ks t cs a) λb e=>ae.ret rfl
def XC(ks:L Key)(t:U):∀(vs:L (ao×L E))(s:aU),ae s (BN ks t vs) dX (qN ks t (dX vs))|[],s=>ae.ret rfl|(b,cs)::vs,s=>by show ae s (BN ks t ((b,cs)::vs)) dX (qN ks t ((b,aJ cs)::dX vs));simp only[BN,qN,bd,bind_eq];exact ae.bind (Ob ks t cs s) λd a=>ae.bind (XC ks t vs a) λc e=>ae.ret rfl
def Oc(ks:L Key)(t:U)(v:aE)(s:aU):ae s (sX ks t v) aA (jJ ks t (aA v)):=by
 cases v with|one c=>show ae s (sX ks t (.one c)) aA (jJ ks t (.one (cE c)));simp only[sX,jJ,bd,bind_eq];exact ae.bind (XB ks t c s) λa b=>ae.ret rfl|agg cs=>show ae s (sX ks t (.agg cs)) aA (jJ ks t (.agg (aJ cs)));simp only[sX,jJ,bd,bind_eq];exact ae.bind (Ob ks t cs s) λa b=>ae.ret rfl|aX vs=>show ae s (sX ks t (.aX vs)) aA (jJ ks t (.aX (dX vs)));simp only[sX,jJ,bd,bind_eq];exact ae.bind (XC ks t vs s) λa b=>ae.ret rfl|undef=>exact ae.fail
def Hu{d:L Key}:∀(ks:L Key)(a:L (L E))(os:L (L (Q E)))(s:aU),Holds d s ks a→ks.length≤os.length→(gM a os).drop ks.length=(os.drop ks.length).map yI|[],[],os,s,_,_=>by simp[gM]|[],_::_,os,s,h,_=>h.elim|_::_,[],os,s,h,_=>h.elim|k::ks,b::a,[],s,_,c=>by simp at c|k::ks,b::a,o::os,s,h,c=>by simp only[gM,jr,List.drop_succ_cons];exact Hu ks a os s h.2 (by simpa using c)
def Hv{d:L Key}:∀(ks:L Key)(a:L (L E))(os:L (L (Q E)))(s:aU),Holds d s ks a→ks.length≤os.length→ks.length≤(gM a os).length|[],_,os,s,_,_=>fm _|_::_,[],os,s,h,_=>h.elim|k::ks,b::a,[],s,_,c=>by simp at c|k::ks,b::a,o::os,s,h,c=>by simp only[gM,jr];have:=Hv ks a os s h.2 (by simpa using c);omega
def aiG(cfg:dJ)(f:cY)(args:L aE)(t:U)(s:aU):ae s (NW cfg f args t) aA (FN cfg.c f (args.map aA) t):=by
 unfold NW FN;show ae s _ _ (match(match cfg.eu t f with|some K=>J K.F|none=>O)with|none=>Prog.fail|some F=>_)
 cases cfg.eu t f with
 |none=>exact ae.fail|some K=>
  simp only[bd,bind_eq];refine ae.bind (Xl cfg.c args s) λvs n=>?_;rw[N7,N6];refine ae.bind (Xy _ n) λmore k=>?_;refine ae.bind (Xo _ vs k) λa m=>ae.WL (R:=λd g=>Holds (dedup (mH (vs.flatMap aE.cells)++more)) g (dedup (mH (vs.flatMap aE.cells)++more)) d) (N8 _ _ m) (Tr.mK (λx q=>by grind) (Xz _ _ m)) λd g b=>?_;cases o:K.dI a d with
  |none=>exact ae.fail|some x=>
   refine ae.call λy hy=>?_;have p:=K.ok a d x y o hy;simp only[p];cases l:K.two with|false=>rw[K.one l y];show ae g (wb K _ a t x y W) aA _;unfold wb;simp only[bd];refine ae.sure λh=>?_;simp only[bG,gG]at h;rw[bN (by simp only[jf];exact⟨Hv _ _ _ _ b h.1,Oa h.2⟩)];rw[←xW,Hu _ _ _ _ b h.1];exact ae.bind (B1 _ _ d _ g h.1 (yw _) b) λ_ i=>ae.bind (Ht t _ 0 i) λ_ j=>Oc _ t _ j|true=>refine ae.br (λe=>?_) (λe=>?_);rw[e];unfold wb;simp only[bd];refine ae.sure λh=>?_;simp only[bG,gG]at h;rw[bN (by simp only[jf];exact⟨Hv _ _ _ _ b h.1,Oa h.2⟩)];rw[←xW,Hu _ _ _ _ b h.1];exact ae.bind (B1 _ _ d _ g h.1 (yw _) b) λ_ i=>ae.bind (Ht t _ 0 i) λ_ j=>Oc _ t _ j;rw[e];unfold wb;simp only[bd];refine ae.sure λh=>?_;simp only[bG,gG]at h;rw[bN (by simp only[jf];exact⟨Hv _ _ _ _ b h.1,Oa h.2⟩)];rw[←xW,Hu _ _ _ _ b h.1];exact ae.bind (B1 _ _ d _ g h.1 (yw _) b) λ_ i=>ae.bind (Ht t _ 0 i) λ_ j=>Oc _ t _ j
def aiH(o:bO)(s:aU):ae s (Wz o) (λp=>(p.1,p.2.map aA)) (FO o):=by
 have gen:∀o,ae s ((eG o).bind λc=>match c with|.cy f caps=>PE.ret (f,caps.map λp=>aE.one (.ptr p.1 p.2))|_=>.fail) (λp=>(p.1,p.2.map aA)) ((dc o).bind λc=>match c with|.cy f caps=>Prog.ret (f,caps.map λp=>SV.one (.ptr p.1 p.2))|_=>.fail):=by
  intro o;refine ae.bind (eJ o s) λc a=>?_;cases c with
  |cy f caps=>exact ae.ret (by simp[aA,cE])|l m t xs=>cases m<;>exact ae.fail
  |n m t o=>cases m<;>cases o<;>exact ae.fail
  |_=>exact ae.fail
 cases o with|func f=>exact ae.ret rfl|tmp t=>exact gen (.tmp t)|const v=>exact gen (.const v)|global g=>exact gen (.global g)
def XD(cfg:bg)(c:E)(r:aD):BO cfg c r=AV cfg (cE c) r:=by
 unfold BO AV;cases c with
 |l m t xs=>cases m<;>rfl
 |n m t o=>cases m<;>cases o<;>rfl
 |ptr k off=>cases k<;>rfl
 |gone b=>cases b<;>rfl
 |it m t xs a=>cases m<;>rfl
 |_=>rfl
def XE(self:aD×U)(u:bO)(c:E)(s:aU):ae s (BP self u c) cE (si self u (cE c)):=by
 cases c with
 |l m t xs=>
  cases m with|aS r j hv cv k=>grind [BP,si,cE,lC,BU,ae.ret]|_=>exact ae.ret rfl
 |n m t o=>
  cases m with
  |aS r j hv cv k=>
   simp only[BP];cases a:qO u r with
   |true=>
    cases o with|none=>exact BU (J self) (qO u) (.n (.aS r j hv cv k) t O) s|some xs=>grind [BU,si,cE,lC]
   |false=>
    cases o with|none=>exact ae.ret rfl|some xs=>refine ae.Hm (ae.ret rfl) ?_;show(if qO u r=W then _ else _)=_;rw[aK (by simp[a])];rfl
  |_=>cases o<;>exact ae.ret rfl
 |gone b=>cases b<;>exact ae.ret rfl
 |it m t xs d=>cases m<;>first|exact ae.ret rfl|exact ae.fail
 |_=>exact ae.ret rfl
def Od(r:aD)(u:bO):∀(cs:L E)(i:U)(s:aU),ae s (yN r u i cs) aJ (sj r u i (aJ cs))|[],i,s=>ae.ret rfl|c::cs,i,s=>by show ae s (yN r u i (c::cs)) aJ (sj r u i (cE c::aJ cs));simp only[yN,sj,bd,bind_eq];exact ae.bind (XE _ u c s) λd a=>ae.bind (Od r u cs (i+1) a) λb e=>ae.ret rfl
def XF(r:aD)(u:bO):∀(vs:L (ao×L E))(i:U)(s:aU),ae s (BQ r u i vs) dX (vo r u i (dX vs))|[],i,s=>ae.ret rfl|(b,cs)::vs,i,s=>by show ae s (BQ r u i ((b,cs)::vs)) dX (vo r u i ((b,aJ cs)::dX vs));simp only[BQ,vo,bd,bind_eq,qd];exact ae.bind (Od r u cs i s) λd a=>ae.bind (XF r u vs _ a) λc e=>ae.ret rfl
theorem Oe(r:aD)(u:bO)(v:aE)(s:aU):ae s (qa r u v) aA (kq r u (aA v)):=by
 cases v with|one c=>show ae s (qa r u (.one c)) aA (kq r u (.one (cE c)));simp only[qa,kq,bd,bind_eq];exact ae.bind (XE _ u c s) λa b=>ae.ret rfl|agg cs=>show ae s (qa r u (.agg cs)) aA (kq r u (.agg (aJ cs)));simp only[qa,kq,bd,bind_eq];exact ae.bind (Od r u cs 0 s) λa b=>ae.ret rfl|aX vs=>show ae s (qa r u (.aX vs)) aA (kq r u (.aX (dX vs)));simp only[qa,kq,bd,bind_eq];exact ae.bind (XF r u vs 0 s) λa b=>ae.ret rfl|undef=>exact ae.fail
def Hw(o:Q bO)(s:aU):ae s (yO o) (λx=>x) (sk o):=by
 cases o with|none=>exact ae.ret rfl|some o=>simp only[yO,sk,bd,bind_eq];exact ae.bind (eJ o s) λc a=>ae.bind (ri c a) λn b=>ae.ret rfl
def XG(b:ao)(vs:L aE)(s:aU):ae s (Hf b vs) aA (AW b (vs.map aA)):=by unfold Hf;split;cases b<;>exact ae.ret rfl;exact ae.fail
def XH:∀{vs:L aE}{l:L (Key×U)},BR vs=J l→(vs.map aA).mapM (λv=>match v with|.one (.ptr k o)=>J (k,o)|_=>O)=J l
 |[],l,h=>by cases h;rfl
 |v::r,l,h=>by unfold BR at h;split at h;rename_i p b h1 h2;cases h;have a:=XH h2;rw[dO,List.mapM_cons,a];unfold WA at h1;split at h1;cases h1;rfl;cases h1;cases h
def XI:∀{a c:List D}(b d:List D),a.length=c.length→cP (a++b) (c++d)=(cP a c&&cP b d)|[],[],b,d,_=>by simp[cP]|x::a,y::c,b,d,h=>by simp[cP,XI b d (by simpa using h),Bool.and_assoc]|[],_::_,_,_,h=>by simp at h|_::_,[],_,_,h=>by simp at h
def Hy:∀{s t:List Sc}{a b:List D},bM s a=W→bM t b=W→bM (s++t) (a++b)=W
 |[],_,[],_,_,h=>h|k::s,t,x::a,b,h1,h2=>by cases k<;>cases x<;>simp only[bM,Bool.and_eq_true,Bool.false_eq_true]at h1;simp only[List.cons_append,bM,Bool.and_eq_true];exact⟨h1.1,Hy h1.2 h2⟩;simp only[List.cons_append,bM];exact Hy h1 h2;simp only[List.cons_append,bM];exact Hy h1 h2
 |[],_,_::_,_,h,_=>by cases h
 |k::_,_,[],_,h,_=>by cases k<;>cases h
def rj:∀{k:Ty}{sh:List Sc}(x:k.T),nF k=some sh→bM sh (aP k x)=W
 |.int k,sh,x,h=>by cases h;simp[aP,bM]
 |.bool,sh,x,h=>by cases h;rfl
 |.str,sh,x,h=>by cases h;rfl
 |.pair a b,sh,x,h=>by simp only[nF]at h;split at h;rename_i s t h1 h2;cases h;exact Hy (rj x.1 h1) (rj x.2 h2);cases h
 |.sl _,_,_,h=>by cases h
 |.bB _ _ _,_,_,h=>by cases h
 |.set _,_,_,h=>by cases h
def B2:∀{k:Ty}{sh:List Sc}(x y:k.T),nF k=some sh→cP (aP k x) (aP k y)=ij k x y
 |.int k,sh,x,y,h=>by simp[aP,cP,iD,ij]|.bool,sh,x,y,h=>by simp[aP,cP,iD,ij]|.str,sh,x,y,h=>by simp[aP,cP,iD,ij]|.pair a b,sh,x,y,h=>by simp only[nF]at h;split at h;rename_i s t h1 h2;simp only[aP,ij,XI _ _ (by rw[hI,hI]:(aP a x.1).length=(aP a y.1).length),B2 x.1 y.1 h1,B2 x.2 y.2 h2];cases h
 |.sl _,_,_,_,h=>by cases h
 |.bB _ _ _,_,_,_,h=>by cases h
 |.set _,_,_,_,h=>by cases h
def XJ:∀{a c:List D}(b d:List D),a.length=c.length→nt (a++b) (c++d)=(nt a c||(cP a c&&nt b d))
 |[],[],b,d,_=>by simp[nt,cP]|x::a,y::c,b,d,h=>by simp only[List.cons_append,nt,cP,XJ b d (by simpa using h:a.length=c.length)];cases yf x y<;>cases iD x y<;>cases nt a c<;>cases cP a c<;>rfl
 |[],_::_,_,_,h=>by simp at h|_::_,[],_,_,h=>by simp at h
def Og(a b:D):nt [a] [b]=yf a b:=by simp[nt]
def Oh:∀{k:Ty}{sh:List Sc}(x y:k.T),nF k=some sh→nt (aP k x) (aP k y)=nG k x y
 |.int k,sh,x,y,h=>by simp[aP,Og,yf,nG]|.bool,sh,x,y,h=>by simp[aP,Og,yf,nG]|.str,sh,x,y,h=>by simp[aP,Og,yf,nG]|.pair a b,sh,x,y,h=>by simp only[nF]at h;split at h;rename_i s t h1 h2;simp only[aP,nG,XJ _ _ (by rw[hI,hI]:(aP a x.1).length=(aP a y.1).length),Oh x.1 y.1 h1,Oh x.2 y.2 h2,B2 x.1 y.1 h1];cases h
 |.sl _,_,_,_,h=>by cases h
 |.bB _ _ _,_,_,_,h=>by cases h
 |.set _,_,_,_,h=>by cases h
section
variable{u:Bool}{k v:Ty}{sh:List Sc}(hk:nF k=some sh)
def B3(r:(Ty.bB u k v).T):(aP (.bB u k v) r).take k.w=aP k r.1:=by simp_all [aP,hI]
theorem Hz(r:(Ty.bB u k v).T):(aP (.bB u k v) r).drop k.w=aP v r.2:=by simp_all [aP,hI]
include hk in
theorem B4(xs:List (Ty.bB u k v).T):jH sh k.w (xs.map (aP (.bB u k v)))=W:=by simp_all [jH,B3,rj]
include hk in
theorem yY(x:k.T):∀(xs:List (Ty.bB u k v).T),(dv k.w (aP k x) (xs.map (aP (.bB u k v)))=O∧cF k x xs=O∧kP k x xs=xs.length∧(∀z,lG k x z xs=xs++[(x,z)])∧∀y,eI k x y xs=xs++[(x,y)])∨∃i r,dv k.w (aP k x) (xs.map (aP (.bB u k v)))=some i∧xs[i]?=some r∧cF k x xs=some r.2∧kP k x xs=i∧(∀z,lG k x z xs=xs)∧∀y,eI k x y xs=xs.set i (x,y)
 |[]=>.inl ⟨rfl,rfl,rfl,λ_=>rfl,λ_=>rfl⟩|r::xs=>by
  have e:cP (aP k x) ((aP (.bB u k v) r).take k.w)=ij k x r.1:=by rw[B3,B2 x r.1 hk]
  simp only[List.map_cons,dv,e,cF,kP,lG,eI];cases c:ij k x r.1 with
  |true=>exact .inr ⟨0,r,by simp,rfl,rfl,rfl,λ_=>rfl,λ_=>rfl⟩|false=>
   simp only[Bool.false_eq_true,bC];rcases yY x xs with⟨h1,h2,h3,a,b⟩|⟨i,d,h1,h2,h3,a,b,f⟩
   grind;grind
include hk in
theorem XK(x:k.T)(y:v.T):∀(xs:List (Ty.bB u k v).T),yg k.w (aP k x) (aP k x++aP v y) (xs.map (aP (.bB u k v)))=(nH k x y xs).map (aP (.bB u k v))
 |[]=>rfl|r::xs=>by
  have e:nt (aP k x) ((aP (.bB u k v) r).take k.w)=nG k x r.1:=by rw[B3,Oh x r.1 hk]
  simp only[List.map_cons,yg,e,nH];cases a:nG k x r.1 with|true=>rfl|false=>simp only[Bool.false_eq_true,bC,List.map_cons];rw[XK x y xs]
include hk in
theorem XL(xs:List (Ty.set k).T):jH sh k.w (xs.map (aP (.set k)))=W:=by simp_all [jH,aP,List.take_of_length_le,hI,rj]
include hk in
theorem Oi(x:k.T):∀(xs:List (Ty.set k).T),(dv k.w (aP k x) (xs.map (aP (.set k)))=O∧oQ k x xs=I∧mG k x xs=xs++[x])∨∃i r,dv k.w (aP k x) (xs.map (aP (.set k)))=some i∧xs[i]?=some r∧oQ k x xs=W∧mG k x xs=xs.set i x
 |[]=>.inl ⟨rfl,rfl,rfl⟩|r::xs=>by
  have e:cP (aP k x) ((aP (.set k) r).take k.w)=ij k x r:=by simp_all [aP,List.take_of_length_le,hI,B2]
  simp only[List.map_cons,dv,e,oQ,mG];cases a:ij k x r with
  |true=>simp_all|false=>
   simp only[Bool.false_eq_true,bC];rcases Oi x xs with⟨h1,h2,h3⟩|⟨i,b,h1,h2,h3,c⟩
   grind;simp_all
end
def B5{sh:List Sc}{ki ei:TI}{k v:Ty}{a:U}{b:Bool}(h:vZ sh ki ei k v a b=W):nF k=some sh∧k.w=ki.size∧k.agg=ki.kind.agg∧a=ei.size∧b=ei.kind.agg:=by grind [vZ]
def tq(v:aE):(aA v).isAgg=v.isAgg:=by cases v<;>rfl
theorem XM:∀(ds:List D),iP (ds.map .d)=some ds|[]=>rfl|d::ds=>by simp[iP,XM ds]
def B6{k:Ty}{a:aE}{x:k.T}(h:v7 k a=some x):(aA a).key=some (aP k x)∧a.isAgg=k.agg:=by grind [v7,SV.key,tm,Hk,XM]
theorem XN(t:Ty){e:U}(a:t.e=e∨t.e=iO e)(r:aD)(j hv cv k:U)(xs:List t.T)(s:aU):ae s (G3 t r j hv) (List.map (aP t)) (ly e (cE (.l (.aS r j hv cv k) t xs))):=by
 unfold G3;simp only[ly,cE,lC];refine ae.get ?_;simp only[bind_eq];refine ae.sure λb=>?_;rw[bN (show(bV (s.get r)).hv=hv∧(t.e=e∨t.e=iO e)from⟨(by simpa using b:(s.get r).hv=hv),a⟩)];rw[at_eq];cases c:(s.get r).at j with
 |l m t2 ys=>
  cases m with|aS=>exact ae.fail|_=>dsimp only;split;rename_i h;subst h;exact ae.ret rfl;exact ae.fail
 |n m t2 o=>
  cases m with|aS=>exact ae.fail|_=>dsimp only;split;rename_i h;subst h;exact ae.call λys hy=>(by subst hy;exact ae.ret rfl);exact ae.fail
 |_=>exact ae.fail
def HA(t:Ty){e:U}(b:t.e=e∨t.e=iO e)(c:E)(s:aU):ae s (rc t c) (List.map (aP t)) (ly e (cE c)):=by
 cases c with
 |ck f=>cases f<;>first|exact ae.ret rfl|exact ae.fail
 |l m d xs=>
  cases m with|own=>exact ae.fail|data=>grind [rc,ly,cE,lC,bind_eq,bN,ae.ret,ae.fail]|aS r j hv cv k=>grind [rc,XN,ae.fail]
 |n m d o=>
  cases m with
  |own=>exact ae.fail|data=>simp only[rc];split;rename_i h;subst h;refine ae.call λxs a=>?_;subst a;simp only[ly,cE,lC,bind_eq];rw[bN b];exact ae.ret rfl;exact ae.fail
  |aS r j hv cv k=>simp only[rc];split;rename_i h;subst h;refine ae.call λxs a=>?_;subst a;exact XN d b r j hv cv k xs s;exact ae.fail
 |_=>exact ae.fail
theorem B7{ki ei:TI}{k v:Ty}(h1:k.w=ki.size)(h2:k.agg=ki.kind.agg)(h3:v.w=ei.size)(a:v.agg=ei.kind.agg):cB ki ei=(Ty.bB I k v).e:=by simp only[cB,Ty.e,h1,h2,h3,a]
def HB{ki ei:TI}{k v:Ty}(u:Bool)(h1:k.w=ki.size)(h2:k.agg=ki.kind.agg)(h3:v.w=ei.size)(a:v.agg=ei.kind.agg):(Ty.bB u k v).e=cB ki ei∨(Ty.bB u k v).e=iO (cB ki ei):=by cases u;grind [B7];simp_all [cB,Ty.e]
def B8{ki ei:TI}{k:Ty}(h1:k.w=ki.size)(h2:k.agg=ki.kind.agg)(h3:0=ei.size)(a:W=ei.kind.agg):cB ki ei=(Ty.set k).e:=by simp_all [cB,Ty.e]
def XO{cfg:bg}{t kt:aW}{ki ei:TI}(h:ib cfg t=some (kt,ki,ei)):ki.size<32768∧ei.size<32768:=by grind [ib]
theorem XP{cfg:bg}{t kt:aW}{ki ei:TI}(hm:ib cfg t=some (kt,ki,ei)){u:Bool}{k v:Ty}(h1:k.w=ki.size)(h2:k.agg=ki.kind.agg)(h3:v.w=ei.size)(c:v.agg=ei.kind.agg):fP (Ty.bB u k v).e=u:=by let⟨a,b⟩:=XO hm;have d:=Mz a b;grind [iO,cB,Ty.e,fP,eC,Nat.ble_eq_true_of_le,xX]
theorem aiI{cfg:bg}{t kt:aW}{ki ei:TI}(hm:ib cfg t=some (kt,ki,ei)){k:Ty}(h1:k.w=ki.size)(h2:k.agg=ki.kind.agg)(h3:0=ei.size)(a:W=ei.kind.agg):fP (Ty.set k).e=I:=by let⟨b,c⟩:=XO hm;rw[←B8 h1 h2 h3 a];exact sA b c
def aiJ(v:Ty)(y:v.T)(s:aU)(g:Bool)(e:v.agg=g):ae s (NM v y) aA (oy g (aP v y)):=by
 unfold NM oy;have a:=jw v y;subst e;cases v.agg with
 |true=>exact ae.ret (by simp only[aA,a])|false=>
  dsimp only;split;rename_i c b;rw[b]at a;match hy:aP v y,a with|[d],a=>simp_all [aJ,ae.ret,aA]|[],a=>simp[aJ]at a|_::_::_,a=>simp[aJ]at a
  exact ae.fail
def aiK(cfg:dJ)(t:aW)(c:E)(p:aE)(ok:Bool)(s:aU):ae s (NN cfg t c p ok) aA (gX cfg.c t (cE c) (aA p) ok):=by
 unfold NN;split;rename_i kt ki ei q;split;rename_i sh z u k v b j y;split;rename_i x l;simp only[bd];refine ae.sure λh=>?_;simp only[Bool.and_eq_true]at h;let⟨⟨h1,h2⟩,h3⟩:=h;let⟨hk,e,g,i,f⟩:=B5 h1;have m:=B0 h2;let⟨n,o⟩:=B6 l;simp only[gX,q,b,j,n,bind_eq];rw[bN ⟨rj x hk,by rw[hI,e],by rw[tq,o,g],by rw[m,hI,i],by grind⟩];refine ae.bind (HA (.bB u k v) (HB u e g i f) c s) λxs r=>?_;rw[bN (by grind [B4]),←e,←f];have a:gv k.w (xs.map (aP (.bB u k v))) z (dv k.w (aP k x) (xs.map (aP (.bB u k v))))=aP v ((cF k x xs).getD v.zero)∧(dv k.w (aP k x) (xs.map (aP (.bB u k v)))).isSome=(cF k x xs).isSome:=by grind [yY,gv,Hz]
 rw[a.1,a.2];cases ok with|true=>refine ae.ret ?_;show _=SV.aX [(v.agg,aJ (dM v ((cF k x xs).getD v.zero))),(I,[C.d (.bool (cF k x xs).isSome)])];rw[jw]|false=>exact aiJ v _ r _ rfl
 exact ae.fail;rename_i sh k b j y;split;rename_i x l;simp only[bd];refine ae.sure λh1=>?_;let⟨hk,e,g,i,f⟩:=B5 h1;let⟨n,o⟩:=B6 l;simp only[gX,q,b,j,n,bind_eq];rw[bN ⟨rj x hk,by rw[hI,e],by rw[tq,o,g],i,.inl f.symm⟩];refine ae.bind (HA (.set k) (.inl (B8 e g i f).symm) c s) λxs r=>?_;rw[bN (by grind [XL]),←e,←f];have a:gv k.w (xs.map (aP (.set k))) [] (dv k.w (aP k x) (xs.map (aP (.set k))))=[]∧(dv k.w (aP k x) (xs.map (aP (.set k)))).isSome=oQ k x xs:=by grind [Oi,gv,Ty.w,hI]
 rw[a.1,a.2];cases ok with|true=>exact ae.ret rfl|false=>exact ae.ret rfl
 exact ae.fail;exact ae.fail;exact ae.fail
def XQ{α β:Type}(t:Ty)(r:aD)(j hv:U)(cond:Q (List t.T→Bool))(F:List t.T→List t.T)(out:List t.T→α)(f:α→β)(s:aU)(p:U→Prop)[DecidablePred p]{b:U}(d:p b)(q:RV→U→List (List D)→Prog β) (g:∀(x:RV)(ys:List t.T),(∀c,cond=some c→c ys=W)→q x t.e (ys.map (aP t))=(dn r {x with cv:=x.cv+1,v:=x.v.setCell j (.own t.e ((F ys).map (aP t)))}).bind λ_=>.ret (f (out ys))):
  ae s (G5 t r j hv cond F out) f (.get r λx=>(need (x.hv=hv∧r.isArg=I∧p b)).bind λ_=>match x.at j with|.own i ys=>q x i ys|_=>.fail):=by
 unfold G5
 refine ae.get ?_
 refine ae.sure λa=>?_
 simp only[Bool.and_eq_true,cT,Bool.not_eq_true']at a
 rw[bN (show(bV (s.get r)).hv=hv∧r.isArg=I∧p b from⟨a.1,a.2,d⟩)]
 rw[at_eq]
 have fin:∀(ys:List t.T),ae s (G4 t r j (s.get r) cond F out ys) f (q (bV (s.get r)) t.e (ys.map (aP t))):=by
  intro ys;have put:(∀c,cond=some c→c ys=W)→ae s ((jR r {(s.get r)with cv:=(s.get r).cv+1,v:=(s.get r).v.setCell j (.l .own t (F ys))}).bind λ_=>.ret (out ys)) f (q (bV (s.get r)) t.e (ys.map (aP t))):=by intro k;rw[g _ ys k];refine ae.put a.2 ?_ (ae.ret rfl);simp only[bV,setCell_eq,cE,lC]
  unfold G4;grind [ae.ask]
 cases u:(s.get r).at j with
 |l m t2 ys=>
  cases m with
  |own=>dsimp only;split;rename_i h;subst h;exact fin ys;exact ae.fail
  |_=>exact ae.fail
 |n m t2 o=>
  cases m with
  |own=>dsimp only;split;rename_i h;subst h;exact ae.call λys hy=>(by subst hy;exact fin ys);exact ae.fail
  |_=>exact ae.fail
 |_=>exact ae.fail
def Ca{α β:Type}(t:Ty)(c:E)(cond:Q (List t.T→Bool))(F:List t.T→List t.T)(out:List t.T→α)(f:α→β)(s:aU)(p:U→Prop)[DecidablePred p](b:p t.e)(q:aD→U→RV→U→List (List D)→Prog β) (d:∀(r:aD)(j:U)(x:RV)(ys:List t.T),(∀c,cond=some c→c ys=W)→q r j x t.e (ys.map (aP t))=(dn r {x with cv:=x.cv+1,v:=x.v.setCell j (.own t.e ((F ys).map (aP t)))}).bind λ_=>.ret (f (out ys))):
  ae s (sW t c cond F out) f (match cE c with
   |.aS r j hv _ e _ _=>.get r λx=>(need (x.hv=hv∧r.isArg=I∧p e)).bind λ_=>match x.at j with|.own g ys=>q r j x g ys|_=>.fail
   |_=>.fail):=by
 cases c with
 |l m a xs=>
  cases m with
  |aS r j hv cv k=>simp only[sW];split;rename_i h;subst h;exact XQ a r j hv cond F out f s p b (q r j) (d r j);exact ae.fail
  |_=>exact ae.fail
 |n m a o=>
  cases m with
  |aS r j hv cv k=>simp only[sW];split;rename_i h;subst h;refine ae.call λxs i=>?_;subst i;exact XQ a r j hv cond F out f s p b (q r j) (d r j);exact ae.fail
  |_=>exact ae.fail
 |_=>exact ae.fail
def XR(cfg:dJ)(t:aW)(c:E)(C D:aE)(s:aU):ae s (NO cfg t c C D) (λ_=>()) (vk cfg.c t (cE c) (aA C) (aA D)):=by
 unfold NO;split;rename_i kt ki ei p;split;rename_i sh u k v n K;split;rename_i x N w o;simp only[bd];refine ae.sure λh=>?_;simp only[Bool.and_eq_true,cT]at h;let⟨⟨h1,h2⟩,h3⟩:=h;let⟨hk,b,f,g,l⟩:=B5 h1;let⟨z,A⟩:=B6 w;simp only[vk,p,n,z,tm,o,lu,bind_eq];rw[bN ⟨rj x hk,by rw[hI,b],by rw[tq,A,f],by rw[qd,h3,g],by rw[tq,h2,l]⟩];refine ae.bind (BW N s) λds F=>?_;cases G:jS v ds with
 |none=>exact ae.fail|some y=>
  have hy:ds.map oT=aP v y:=by grind [Ho]
  rw[hy];cases u with
  |false=>
   refine Ca (.bB I k v) c O (λxs=>eI k x y xs) (λ_=>()) (λ_=>()) F (λe=>e=cB ki ei∨e=iO (cB ki ei)) (HB I b f g l) (λr j a m ys=>(need (jH sh ki.size ys=W)).bind λ_=>dn r {a with cv:=a.cv+1,v:=a.v.setCell j (.own m (putRow (fP m) ki.size (aP k x) (aP v y) ys))}) ?_;intro r j a ys _;rw[bN (by grind [B4]),XP (cfg:=cfg.c) p b f g l,←b];show dn _ _=dn _ _;congr 4;simp only[putRow,AP];rcases yY hk x ys with⟨d,_,_,_,B⟩|⟨i,H,d,_,_,_,_,q⟩
   rw[d,B];simp only[List.map_append,List.map_cons,List.map_nil];rfl;rw[d,q];simp only[List.map_set];rfl
  |true=>
   refine Ca (.bB W k v) c O (λxs=>NL k x y xs) (λ_=>()) (λ_=>()) F (λe=>e=cB ki ei∨e=iO (cB ki ei)) (HB W b f g l) (λr j a m ys=>(need (jH sh ki.size ys=W)).bind λ_=>dn r {a with cv:=a.cv+1,v:=a.v.setCell j (.own m (putRow (fP m) ki.size (aP k x) (aP v y) ys))}) ?_;intro r j a ys _;rw[bN (by grind [B4]),XP (cfg:=cfg.c) p b f g l,←b];show dn _ _=dn _ _;congr 4;simp only[putRow,FK,NL];rcases yY hk x ys with⟨d,R,_⟩|⟨i,H,d,_,P,_,_,q⟩
   grind [XK];rw[d,P,Fo];simp only[q,List.map_set];rfl
 exact ae.fail;rename_i sh k n K;split;rename_i x w o;simp only[bd];refine ae.sure λh=>?_;simp only[Bool.and_eq_true]at h;let⟨h1,h2⟩:=h;let⟨hk,b,f,g,l⟩:=B5 h1;let⟨z,A⟩:=B6 w;simp only[vk,p,n,z,tm,o,lu,bind_eq];rw[bN ⟨rj x hk,by rw[hI,b],by rw[tq,A,f],g,by rw[tq,h2,l]⟩];show ae s _ _ ((Prog.ret []).bind _);refine Ca (.set k) c O (λxs=>mG k x xs) (λ_=>()) (λ_=>()) s (λe=>e=cB ki ei∨e=iO (cB ki ei)) (.inl (B8 b f g l).symm) (λr j a m ys=>(need (jH sh ki.size ys=W)).bind λ_=>dn r {a with cv:=a.cv+1,v:=a.v.setCell j (.own m (putRow (fP m) ki.size (aP k x) [] ys))}) ?_;intro r j a ys _;rw[bN (by grind [XL]),aiI (cfg:=cfg.c) p b f g l,←b];show dn _ _=dn _ _;congr 4;simp only[putRow,AP];rcases Oi hk x ys with⟨d,_,B⟩|⟨i,H,d,_,_,q⟩
 rw[d,B];simp only[List.map_append,List.map_cons,List.map_nil,List.append_nil];rfl;rw[d,q];simp only[List.map_set,List.append_nil];rfl;exact ae.fail;exact ae.fail;exact ae.fail
def XS{u:Bool}{k v:Ty}(y:v.T):∀(n:U)(xs:List (Ty.bB u k v).T),n<xs.length→(nI y n xs).map (aP (.bB u k v))=(xs.map (aP (.bB u k v))).set n (((xs.map (aP (.bB u k v))).getD n []).take k.w++aP v y)|0,r::xs,_=>by simp only[nI,List.map_cons,List.set_cons_zero,List.getD_cons_zero,B3];rfl|n+1,r::xs,h=>by simp only[nI,List.map_cons,List.set_cons_succ,List.getD_cons_succ];rw[XS y n xs (by simpa using h)]|_,[],h=>by simp at h
def aiL(cfg:dJ)(t:aW)(c st:E)(f:aE)(s:aU):ae s (NQ cfg t c st f) (λ_=>()) (AQ cfg.c t (cE c) (cE st) (aA f)):=by
 unfold NQ;split;rename_i kt ki ei k v z n o p A d;simp only[bd];refine ae.sure λh=>?_;simp only[Bool.and_eq_true,cT]at h;let⟨⟨⟨⟨⟨g,q⟩,i⟩,l⟩,h2⟩,h3⟩:=h;simp only[AQ,p,cE,tm,d,lu,bind_eq];rw[bN ⟨by rw[qd,h3,i],by rw[tq,h2,l]⟩];refine ae.bind (BW o s) λds u=>?_;cases a:jS v ds with|none=>exact ae.fail|some y=>rw[show ds.map oT=aP v y from Ho a];refine Ca (.bB I k v) c (some λxs=>decide (0≤n∧n<af xs)) (λxs=>nI y n.toNat xs) (λ_=>()) (λ_=>()) u (λe=>e=cB ki ei) (B7 g q i l).symm (λr j b w ys=>(need (0≤n∧n<ys.length)).bind λ_=>dn r {b with cv:=b.cv+1,v:=b.v.setCell j (.own w (ys.set n.toNat ((ys.getD n.toNat []).take ki.size++aP v y)))}) ?_;intro r j b ys x;have m:=iB (x _ rfl);simp only[af]at m;rw[bN (by simpa using m),←g,XS y n.toNat ys (by omega)];rfl
 exact ae.fail
def aiM(cfg:dJ)(t:aW)(c:E)(u:aE)(s:aU):ae s (NP cfg t c u) aA (vl cfg.c t (cE c) (aA u)):=by
 unfold NP;split;rename_i kt ki ei D;split;rename_i sh z k v l F R;split;rename_i x G;simp only[bd];refine ae.sure λh=>?_;simp only[Bool.and_eq_true]at h;let⟨⟨h1,h2⟩,h3⟩:=h;let⟨hk,m,y,A,B⟩:=B5 h1;have a:=B0 h2;let⟨H,K⟩:=B6 G;simp only[vl,D,l,F,H,bind_eq];rw[bN ⟨rj x hk,by rw[hI,m],by rw[tq,K,y],by rw[a,hI,A],by grind⟩];refine Ca (.bB I k v) c O (λxs=>lG k x v.zero xs) _ aA s (λe=>e=cB ki ei) (B7 m y A B).symm (λr j f N xs=>(need (jH sh ki.size xs=W)).bind λ_=>(dn r {f with cv:=f.cv+1,v:=f.v.setCell j (.own N (if(dv ki.size (aP k x) xs).isSome=W then xs else xs++[aP k x++z]))}).bind λ_=>.ret (.aX [(ei.kind.agg,(gv ki.size xs z (dv ki.size (aP k x) xs)).map .d),(I,[.d (.int .i64 ((dv ki.size (aP k x) xs).getD xs.length:U))])])) ?_;intro r j f ys _;rw[bN (by grind [B4]),←m,←B];rcases yY hk x ys with⟨n,o,p,q,_⟩|⟨i,g,n,o,p,q,P,_⟩
 rw[n,o,p,q,a];simp only[Option.isSome_none,Bool.false_eq_true,bC,gv,List.map_append,List.map_cons,List.map_nil,aeP,List.length_map];congr 1;funext _;show Prog.ret (SV.aX [(v.agg,(aP v v.zero).map C.d),(I,[C.d (.int .i64 ys.length)])])=Prog.ret (SV.aX [(v.agg,aJ (dM v v.zero)),(I,[C.d (.int .i64 ys.length)])]);rw[jw];rw[n,p,q,P];simp only[Fo,bf,eB];congr 1;funext _;have b:gv k.w (ys.map (aP (.bB I k v))) z (some i)=aP v g.2:=by simp only[gv,List.getD_eq_getElem?_getD,List.getElem?_map,o,lu,eB];exact Hz g
 rw[b];show Prog.ret (SV.aX [(v.agg,(aP v g.2).map C.d),(I,[C.d (.int .i64 i)])])=Prog.ret (SV.aX [(v.agg,aJ (dM v g.2)),(I,[C.d (.int .i64 i)])]);rw[jw];exact ae.fail;exact ae.fail;exact ae.fail
def aiN(cfg:dJ)(t:aW)(dst:U)(s:aU):ae s (NR cfg t dst) aA (AU cfg.c t dst):=by
 unfold NR;split;rename_i kt ki ei u k v d l;simp only[bd];refine ae.sure λh=>?_;simp only[Bool.and_eq_true,cT]at h;let⟨⟨⟨⟨f,g⟩,i⟩,j⟩,b⟩:=h;simp only[AU,d];have a:cfg.c.un.contains dst=u:=b.symm;grind [ae.ret,aA,cE,lC,AH,Ty.e,cB];rename_i kt ki ei k d l;simp only[bd];refine ae.sure λh=>?_;simp only[Bool.and_eq_true,cT]at h;let⟨⟨⟨⟨f,g⟩,i⟩,j⟩,b⟩:=h;simp only[AU,d];have a:cfg.c.un.contains dst=I:=by rw[Bool.not_eq_true']at b;exact b
 rw[a];exact ae.ret (by simp only[aA,cE,lC,B8 f g i j,List.map_nil,AH]);exact ae.fail
def aiO(cfg:dJ)(t:aW)(c:E)(s:aU):ae s (NU cfg t c) aA (yh cfg.c t (cE c)):=by unfold NU;split;rename_i kt ki ei u k v a g;simp only[bd];refine ae.sure λh=>?_;simp only[Bool.and_eq_true,cT]at h;let⟨⟨⟨b,d⟩,e⟩,f⟩:=h;simp only[yh,a,bind_eq];exact ae.bind (HA _ (HB u b d e f) c s) λxs i=>ae.ret (by simp[ft,eH,aA,cE,af]);rename_i kt ki ei k a g;simp only[bd];refine ae.sure λh=>?_;simp only[Bool.and_eq_true,cT]at h;let⟨⟨⟨b,d⟩,e⟩,f⟩:=h;simp only[yh,a,bind_eq];exact ae.bind (HA _ (.inl (B8 b d e f).symm) c s) λxs i=>ae.ret (by simp[ft,eH,aA,cE,af]);exact ae.fail
def aiP:eC mg=W:=rfl
def aiQ(cfg:dJ)(t:aW)(c:E)(s:aU):ae s (NS cfg t c) aA (FL cfg.c t (cE c)):=by
 unfold NS;split;rename_i kt ki ei k v j n;simp only[bd];refine ae.sure λh=>?_;simp only[Bool.and_eq_true,cT]at h;let⟨⟨⟨a,b⟩,f⟩,g⟩:=h;simp only[FL,j,bind_eq];refine ae.bind (tj c s) λd i=>?_;split;rename_i l xs;split;rename_i h;subst h
 show ae i _ aA (match D.sl (Ty.bB I k v).e (xs.map (aP (Ty.bB I k v)))with|.sl e xs=>(need (e=cB ki ei)).bind λ_=>.ret (.one (.own mg [[.sl e xs],[]]))|_=>.fail)
 simp only[];rw[bN (B7 a b f g).symm];exact ae.ret rfl;exact ae.fail;rename_i l o;split;rename_i h;subst h;refine ae.call λxs m=>?_;subst m
 show ae i _ aA (match D.sl (Ty.bB I k v).e (xs.map (aP (Ty.bB I k v)))with|.sl e xs=>(need (e=cB ki ei)).bind λ_=>.ret (.one (.own mg [[.sl e xs],[]]))|_=>.fail)
 simp only[];rw[bN (B7 a b f g).symm];exact ae.ret rfl;exact ae.fail;exact ae.fail;exact ae.fail
theorem XT{u:Bool}{k v:Ty}(h:BF u k v=W)(r:(Ty.bB u k v).T):dX (BE k v r)=oz (Ty.bB u k v).e (aP (.bB u k v) r):=by simp_all [BF,oz,B3,Hz,dX,BE,jw]
def aiR{t:Ty}(xs:List t.T)(i:U)(d:t.T)(h:i<xs.length):(xs.map (aP t)).getD i []=aP t (xs.getD i d):=by grind
def aiS(c:E)(s:aU):ae s (NT c) aA (FM (cE c)):=by
 cases c with
 |it m t0 d f=>
  cases m with
  |aS r j hv cv g=>
   simp only[NT,FM,cE,mC,bd,bind_eq];refine ae.get ?_;refine ae.sure λa=>?_;simp only[Bool.and_eq_true,cT,Bool.not_eq_true']at a;rw[bN (show(bV (s.get r)).hv=hv∧r.isArg=I∧eC mg=W from⟨a.1,a.2,rfl⟩)];rw[at_eq];cases h:(s.get r).at j with
   |it m t xs b=>
    cases m with
    |own=>
     cases t with
     |bB u k v=>
      cases b with|nil=>exact ae.fail|cons i b=>dsimp only;refine ae.sure λh1=>?_;refine ae.ask λh2=>?_;have h2:=(cq _ _).1 h2;show ae s _ aA ((need (0≤(i:M)∧((i:M)).toNat<((xs.map (aP (Ty.bB u k v))):List (List D)).length)).bind λ_=>.ret (.aX (oz (Ty.bB u k v).e ((xs.map (aP (Ty.bB u k v))).getD ((i:M)).toNat []))));rw[bN ⟨by omega,by simpa using h2⟩];refine ae.ret ?_;show _=SV.aX (dX (BE k v _));grind [XT]
     |_=>exact ae.fail
    |_=>exact ae.fail
   |_=>exact ae.fail
  |_=>exact ae.fail
 |_=>exact ae.fail
def aiT(c a b:bO)(s:aU):ae s ((eG c).bind λc'=>match c' with|.tt=>dR a|.ff=>dR b|.b x=>.br x ((know c W).bind λ_=>dR a) ((know c I).bind λ_=>dR b)|_=>.fail) aA ((dc c).bind λc'=>(yd c').bind λd=>if d=W then ev a else ev b):=by
 have i:∀(c':E)(s':aU),(∀t,c≠.tmp t)→ae s' (match c' with
  |.tt=>dR a|.ff=>dR b|.b x=>.br x ((know c W).bind λ_=>dR a) ((know c I).bind λ_=>dR b)|_=>.fail) aA ((yd (cE c')).bind λd=>if d=W then ev a else ev b):=by
  intro c' s' g
  have e:∀b,know c b=.ret ():=by
   intro b;cases c with|tmp t=>exact bX rfl (g t)|_=>rfl
  cases c' with
  |tt=>exact eF a s'|ff=>exact eF b s'|b x=>simp only[e,WN];refine ae.br (λh=>?_) λh=>?_;subst h;exact eF a s';subst h;exact eF b s'|l m t xs=>cases m<;>exact ae.fail
  |n m t o=>cases m<;>cases o<;>exact ae.fail
  |_=>exact ae.fail
 cases c with
 |tmp t=>
  have j:eG (.tmp t)=.get (.tmp t) λx=>(match x.v with|.undef=>PE.fail|_=>.ret (x.copy (.tmp t))).bind Ni:=rfl
  have k:dc (.tmp t)=.get (.tmp t) λx=>(match x.v with|.undef=>Prog.fail|_=>.ret (x.copy (.tmp t))).bind yc:=rfl
  rw[j,k];refine ae.get ?_;dsimp only;have g:=copy_eq (s.get (.tmp t)) (.tmp t);cases hv:(s.get (.tmp t)).v with
  |undef=>exact ae.fail|agg cs=>have h1:(s.get (.tmp t)).copy (.tmp t)=.agg (vU (.tmp t) (s.get (.tmp t)) 0 cs):=(by unfold cX.copy;rw[hv]);rw[h1];exact ae.fail|aX cs=>have h1:(s.get (.tmp t)).copy (.tmp t)=.aX (Bu (.tmp t) (s.get (.tmp t)) 0 cs):=(by unfold cX.copy;rw[hv]);rw[h1];exact ae.fail|one c0=>
   have h1:(s.get (.tmp t)).copy (.tmp t)=.one (sP (.tmp t) (s.get (.tmp t)) 0 c0):=(by unfold cX.copy;rw[hv]);have h2:(bV (s.get (.tmp t))).copy (.tmp t)=.one (cE (sP (.tmp t) (s.get (.tmp t)) 0 c0)):=(by rw[←g,h1];rfl);have h3:(bV (s.get (.tmp t))).v=.one (cE c0):=(by simp only[bV,hv,aA]);rw[h1,h2,h3];show ae s ((PE.ret (sP (.tmp t) (s.get (.tmp t)) 0 c0)).bind _) _ ((Prog.ret (cE (sP (.tmp t) (s.get (.tmp t)) 0 c0))).bind _);rw[WN];show ae s _ _ ((yd (cE (sP (.tmp t) (s.get (.tmp t)) 0 c0))).bind λd=>if d=W then ev a else ev b);cases c0 with
   |tt=>exact eF a s|ff=>exact eF b s|b x=>refine ae.br (λh=>?_) λh=>?_;have:=ae.know (s:=s) (p:=dR a) (f:=aA) (q:=ev a) hv h (eF a _);subst h;exact this;have:=ae.know (s:=s) (p:=dR b) (f:=aA) (q:=ev b) hv h (eF b _);subst h;exact this|l m t xs=>cases m<;>exact ae.fail
   |n m t o=>cases m<;>cases o<;>exact ae.fail
   |it m t xs u=>cases m<;>exact ae.fail
   |_=>exact ae.fail
 |_=>exact ae.bind (eJ _ s) λc' r=>i c' r (by intro t h;cases h)
def aiU(cfg:dJ)(t:aW)(dst:U)(s:aU):ae s (dS cfg (.alloc t) dst) aA (bE cfg.c (.alloc t) dst):=by
 simp only[dS,bE];split;rename_i size bytes kind z h;simp only[h,bd,bind_eq];refine ae.sure λa=>?_;rw[bN (by simpa using a)];refine ae.get ?_;cases hv:(s.get (.box (.loc dst))).v with
 |undef=>
  simp only[bV,hv,aA];cases b:vY z with|none=>exact ae.fail|some cs=>simp only[N9,Hs];refine ae.put rfl ?_ (ae.ret rfl);simp only[bV,aA,Hq b]
 |_=>simp only[bV,hv,aA];exact ae.fail
 exact ae.fail
def aiV(cfg:dJ)(t:aW)(x:bO)(dst:U)(s:aU):ae s (dS cfg (.box t x) dst) aA (bE cfg.c (.box t x) dst):=by
 simp only[dS,bE,bd,bind_eq];refine ae.bind (eF x s) λv a=>?_;rw[tm];cases v.ew with
 |none=>exact ae.fail|some cs=>
  simp only[lu];have e:BO cfg.c (.ptr (.loc dst) 0)=AV cfg.c (.ptr (.loc dst) 0):=by funext r;exact XD _ _ _
  rw[e];refine ae.bind (BV _ _ cs 0 a) λb d=>ae.get ?_;cases hv:(d.get (.box (.loc dst))).v with|undef=>simp only[bV,hv,aA,N9,Hs];exact ae.put rfl rfl (ae.ret rfl)|_=>simp only[bV,hv,aA];exact ae.fail
def aiW(cfg:dJ)(op:iL)(t:aW)(x y:bO)(a:aW)(dst:U)(s:aU):ae s (dS cfg (.binOp op t x y a) dst) aA (bE cfg.c (.binOp op t x y a) dst):=by simp only[dS,bE,bd,bind_eq];refine ae.bind (eF x s) λv b=>ae.bind (eF y b) λu d=>?_;cases v<;>cases u<;>first|exact aic _ _ _ _ _ _|exact aid _ _ _ _ _ _|exact ae.fail
def aiX(cfg:dJ)(op:UnOp)(t:aW)(x:bO)(dst:U)(s:aU):ae s (dS cfg (.unOp op t x) dst) aA (bE cfg.c (.unOp op t x) dst):=by
 simp only[dS,bE,bd,bind_eq];refine ae.bind (eJ x s) λc a=>?_;cases c with
 |l m t xs=>cases m<;>cases op<;>exact ae.fail
 |n m t o=>cases m<;>cases o<;>cases op<;>exact ae.fail
 |i k n=>cases op<;>first|exact ae.ret rfl|exact WY _ _ _ _ _|exact ae.fail
 |_=>cases op<;>first|exact ae.ret rfl|exact ae.fail
def aiY(cfg:dJ)(f:Fn)(first captured:bv bO)(dst:U)(s:aU):ae s (dS cfg (.makeFunc f first captured) dst) aA (bE cfg.c (.makeFunc f first captured) dst):=by
 cases f with
 |func f=>
  simp only[dS,bE,bd,bind_eq];refine ae.sure λh=>?_;rw[bN (by grind)];refine ae.bind (BT _ s) λvs a=>?_;cases hp:BR vs with
  |none=>exact ae.fail|some l=>
   have:=bz (λo:Q (L (Key×U))=>match o with|some l=>Prog.ret (SV.one (.cy f l))|none=>.fail) (XH hp)
   exact ae.Hm (ae.ret rfl) this
 |_=>exact ae.fail
def aiZ(cfg:dJ)(t:aW)(x:bO)(lo hi a:Q bO)(dst:U)(s:aU):ae s (dS cfg (.slice t x lo hi a) dst) aA (bE cfg.c (.slice t x lo hi a) dst):=by
 cases a with|some m=>exact ae.fail|none=>simp only[dS,bE];split;rename_i h;simp only[h,bd,bind_eq];exact ae.bind (eF x s) λv b=>ae.bind (Hw lo b) λl d=>ae.bind (Hw hi d) λh e=>aiv _ _ _ e;rename_i h;simp only[h];split;rename_i h2;simp only[h2,bd,bind_eq];exact ae.bind (eF x s) λv b=>ae.bind (Hw lo b) λl d=>ae.bind (Hw hi d) λh e=>aiw _ _ _ _ e;exact ae.fail;exact ae.fail
def ai0(cfg:dJ)(t:aW)(x:bO)(f:U)(dst:U)(s:aU):ae s (dS cfg (.field t x f) dst) aA (bE cfg.c (.field t x f) dst):=by simp only[dS,bE,bd,bind_eq];refine ae.bind (eF x s) λv a=>?_;grind [aA,BZ,ae.fail]
def ai1(cfg:dJ)(x:bO)(n:U)(dst:U)(s:aU):ae s (dS cfg (.extract x n) dst) aA (bE cfg.c (.extract x n) dst):=by
 simp only[dS,bE,bd,bind_eq];refine ae.bind (eF x s) λv a=>?_;cases v with
 |aX vs=>
  simp only[aA];have d:(dX vs)[n]?=(vs[n]?).map λp=>(p.1,aJ p.2):=by simp[dX]
  rw[d];cases vs[n]? with
  |none=>exact ae.fail|some p=>
   let⟨b,cs⟩:=p;cases b with
   |true=>exact Oe _ _ (.agg cs) a|false=>
    cases cs with|nil=>exact ae.fail|cons c r=>cases r<;>first|exact Oe _ _ (.one c) a|exact ae.fail
 |_=>exact ae.fail
def ai2(cfg:dJ)(c:Call)(dst:U)(s:aU):ae s (dS cfg (.call c) dst) aA (bE cfg.c (.call c) dst):=by
 let⟨callee,args,g⟩:=c;cases callee with
 |value o=>simp only[dS,bE,bd,bind_eq];refine ae.bind (aiH o s) λp a=>ae.bind (BT _ a) λvs d=>?_;have:=aiG cfg p.1 (vs++p.2) dst d;grind|invoke r m=>exact ae.fail|builtin b=>
  cases b with
  |len=>simp only[dS,bE];split;rename_i h1 h2;simp only[h1,h2];split;rename_i h3;simp only[h3,bd,bind_eq];exact ae.bind (eF _ s) λv a=>Xd _ _ a;rename_i h3;simp only[h3,bd,bind_eq];exact ae.bind (eF _ s) λv a=>Xd _ _ a;rename_i h3;simp only[h3,bd,bind_eq];exact ae.bind (eJ _ s) λv a=>aiO _ _ _ a;exact ae.fail;exact ae.fail
  |append=>simp only[dS,bE];split;rename_i h1 h2;simp only[h1,h2];split;rename_i h3;simp only[h3];split;rename_i h j;simp only[h];split;rename_i f;simp only[f,bd,bind_eq];refine ae.bind (eJ _ s) λc a=>ae.bind (eJ _ a) λi d=>?_;exact ae.bind (ri _ d) λn e=>ait _ _ _ _ e;rename_i f;split;grind;simp only[bd,bind_eq];exact ae.bind (eJ _ s) λc a=>ae.bind (eJ _ a) λi d=>ae.bind (aiu _ _ _ _ _ d) λys e=>air _ _ _ _ _ e;exact ae.fail;exact ae.fail;exact ae.fail
  |cap=>simp only[dS,bE];split;rename_i h1 h2;simp only[h1,h2];split;rename_i h3;simp only[h3,bd,bind_eq];exact ae.bind (eJ _ s) λc a=>ais _ a;exact ae.fail;exact ae.fail
  |min=>simp only[dS,bE,bd,bind_eq];exact ae.bind (BT _ s) λvs a=>XG _ _ a|max=>simp only[dS,bE,bd,bind_eq];exact ae.bind (BT _ s) λvs a=>XG _ _ a|_=>exact ae.fail
def ai3(cfg:dJ)(op:Op)(dst:U)(s:aU):ae s (dS cfg op dst) aA (bE cfg.c op dst):=by
 cases op with
 |move x=>simp only[dS,bE,bd,bind_eq];refine ae.bind (eF x s) λv d=>?_;grind [ae.ret,Oe]|assign x=>simp only[dS,bE,bd,bind_eq];exact ae.bind (eF x s) λv d=>WW _ _ v d|pick c a b=>exact aiT c a b s|alloc t=>exact aiU cfg t dst s|box t x=>exact aiV cfg t x dst s|build t ps=>exact aim _ _ _ s|buildSlice t len ps=>exact ain _ _ _ _ s|load t a=>simp only[dS,bE];split;rename_i h;simp only[h,bd,bind_eq];exact ae.bind (eJ a s) λc d=>WZ _ _ d;exact ae.fail
 |nilCheck x=>
  simp only[dS,bE,bd,bind_eq];refine ae.bind (eJ x s) λc d=>?_;cases c with
  |l m t xs=>cases m<;>exact ae.fail
  |n m t o=>cases m<;>cases o<;>exact ae.fail
  |_=>first|exact ae.ret rfl|exact ae.fail
 |binOp op t x y q=>simp_all [aiW]|unOp op t x=>exact aiX cfg op t x dst s|convert a b x=>simp only[dS,bE,bd,bind_eq];exact ae.bind (eF x s) λv d=>aix _ _ _ _ d|makeFunc f a b=>exact aiY cfg f a b dst s|makeSlice t l c=>simp only[dS,bE,bd,bind_eq];exact ae.bind (eJ l s) λv d=>ae.bind (ri v d) λn e=>ae.bind (eJ c e) λu i=>ae.bind (ri u i) λm p=>aio _ _ _ _ p|slice t x lo hi z=>simp_all [aiZ]|fieldAddr t x f=>simp only[dS,bE,bd,bind_eq];exact ae.bind (eJ x s) λv d=>ae.bind (aih _ _ _ _ d) λu e=>ae.ret rfl|field t x f=>exact ai0 cfg t x f dst s|indexAddr t x j=>
  cases x with|global g=>simp only[dS,bE,bd,bind_eq];exact ae.bind (eJ j s) λu e=>ae.bind (ri u e) λn i=>ae.bind (aii _ _ _ _ i) λw p=>ae.ret rfl|tmp y=>simp only[dS,bE,bd,bind_eq];exact ae.bind (eJ _ s) λv d=>ae.bind (eJ j d) λu e=>ae.bind (ri u e) λn i=>ae.bind (N2 _ _ _ _ i) λw p=>ae.ret rfl|const y=>simp only[dS,bE,bd,bind_eq];exact ae.bind (eJ _ s) λv d=>ae.bind (eJ j d) λu e=>ae.bind (ri u e) λn i=>ae.bind (N2 _ _ _ _ i) λw p=>ae.ret rfl|func y=>simp only[dS,bE,bd,bind_eq];exact ae.bind (eJ _ s) λv d=>ae.bind (eJ j d) λu e=>ae.bind (ri u e) λn i=>ae.bind (N2 _ _ _ _ i) λw p=>ae.ret rfl
 |index t x j=>simp only[dS,bE,bd,bind_eq];exact ae.bind (eF x s) λv d=>ae.bind (eJ j d) λu e=>ae.bind (ri u e) λn i=>aik _ _ _ _ i|extract x n=>exact ai1 cfg x n dst s|makeMap t r=>
  cases r with|none=>exact aiN cfg t dst s|some r=>exact ae.fail
 |range t x=>simp only[dS,bE,bd,bind_eq];exact ae.bind (eJ x s) λc d=>aiQ cfg t c d|entry x=>simp only[dS,bE,bd,bind_eq];exact ae.bind (eJ x s) λc d=>aiS c d|lookup t x j ok=>simp only[dS,bE,bd,bind_eq];exact ae.bind (eJ x s) λc d=>ae.bind (eF j d) λv e=>aiK cfg t c v ok e|mapEntry t m k=>simp only[dS,bE,bd,bind_eq];exact ae.bind (eJ m s) λc d=>ae.bind (eF k d) λv e=>aiM cfg t c v e|call c=>exact ai2 cfg c dst s|_=>exact ae.fail
def XU(cfg:dJ)(t:U)(v:aE)(s:aU):ae s (yP cfg t v) (λ_=>()) (iQ cfg.c t (aA v)):=by simp only[yP,iQ,bd,bind_eq];refine ae.get (ae.sure λh=>?_);rw[bN (p:=t<cfg.c.N) ((cq _ _).1 h)];exact ae.put rfl rfl (ae.ret rfl)
theorem HD(cfg:dJ)(o:ch)(s:aU):ae s (mJ cfg o) (λ_=>()) (kM cfg.c o):=by
 let⟨g,op,h,pos,after,guard⟩:=o;cases g with
 |some d=>
  have i:mJ cfg ⟨J d,op,h,pos,after,guard⟩=(dS cfg op d).bind λv=>yP cfg d v:=by cases op<;>rfl
  have j:kM cfg.c ⟨J d,op,h,pos,after,guard⟩=(bE cfg.c op d).bind λv=>iQ cfg.c d v:=by cases op<;>rfl
  rw[i,j];exact ae.bind (ai3 cfg op d s) λv b=>XU cfg d v b
 |none=>
  cases op with
  |store t a x=>simp only[mJ,kM];split;rename_i h3;simp only[h3,bd,bind_eq];exact ae.bind (eJ _ s) λc b=>ae.bind (eF _ b) λv e=>aig _ _ (funext λr=>XD _ _ _) _ _ _ e;exact ae.fail
  |mapUpdate t m k x=>simp only[mJ,kM,bd,bind_eq];exact ae.bind (eJ _ s) λc b=>ae.bind (eF _ b) λv e=>ae.bind (eF _ e) λu f=>XR _ _ _ _ _ f|insert t m k x=>simp only[mJ,kM,bd,bind_eq];exact ae.bind (eJ _ s) λc b=>ae.bind (eF _ b) λv e=>ae.bind (eF _ e) λu f=>XR _ _ _ _ _ f|entryStore t m st x=>simp only[mJ,kM,bd,bind_eq];exact ae.bind (eJ _ s) λc b=>ae.bind (eJ _ b) λv e=>ae.bind (eF _ e) λu f=>aiL _ _ _ _ _ f|_=>exact ae.fail
def ai4(cfg:dJ)(e:bv ch)(o:ch)(s:aU):ae s (Hg cfg e o) (λ_=>()) (lz cfg.c e o):=by
 unfold Hg lz;cases o.guard with
 |none=>exact HD cfg o s|some p=>
  let⟨j,a⟩:=p;have f:∀s',ae s' (match o.dst with|some d=>yP cfg d (.aX [])|none=>PE.ret ()) (λ_=>()) (match o.dst with|some d=>iQ cfg.c d (.aX [])|none=>Prog.ret ()):=by
   intro s';cases o.dst with|none=>exact ae.ret rfl|some d=>exact XU cfg d (.aX []) s'
  simp only[bind_eq];unfold L6;cases(e[j]?).bind (·.dst)with
  |none=>exact ae.fail|some t=>
   refine ae.get ?_;dsimp only;cases hv:(s.get (.tmp t)).v with
   |undef=>exact ae.fail|agg cs=>exact ae.fail|aX cs=>
    cases cs with|cons=>exact ae.fail|nil=>have h3:(bV (s.get (.tmp t))).v=.aX []:=(by simp only[bV,hv,aA];rfl);rw[h3];show ae s _ _ (if O=J a then kM cfg.c o else _);grind
   |one c=>
    have h3:(bV (s.get (.tmp t))).v=.one (cE c):=(by simp only[bV,hv,aA]);rw[h3];cases c with
    |tt=>
     show ae s (match a with|true=>mJ cfg o|false=>_) _ (if J W=J a then kM cfg.c o else _)
     grind [HD]
    |ff=>
     show ae s (match a with|true=>_|false=>mJ cfg o) _ (if J I=J a then kM cfg.c o else _)
     grind [HD]
    |b x=>
     show ae s (match a with|true=>PE.br x _ _|false=>PE.br x _ _) _ (if J x=J a then kM cfg.c o else _)
     grind [ae.br,ae.know,HD]
    |l m t xs=>cases m<;>exact ae.fail
    |n m t o=>cases m<;>cases o<;>exact ae.fail
    |_=>exact ae.fail
def oU:L (L aD×L aD)→L (L aD×L aD)→Prop|[],[]=>cZ|a::l,b::m=>(∀r∈a.1,r∈b.1)∧(∀r∈a.2,r∈b.2)∧oU l m|_,_=>gT
theorem oU.length:∀{l m:L (L aD×L aD)},oU l m→l.length=m.length|[],[],_=>rfl|_::_,_::_,h=>by simp only[jr,oU.length h.2.2]|[],_::_,h=>h.elim|_::_,[],h=>h.elim
theorem oU.getD:∀{l m:L (L aD×L aD)},oU l m→∀i,(∀r∈(l.getD i ([],[])).1,r∈(m.getD i ([],[])).1)∧∀r∈(l.getD i ([],[])).2,r∈(m.getD i ([],[])).2|[],[],_,i=>⟨λ_ h=>h,λ_ h=>h⟩|_::_,_::_,h,0=>⟨h.1,h.2.1⟩|_::_,_::_,h,i+1=>by simpa using oU.getD h.2.2 i|[],_::_,h,_=>h.elim|_::_,[],h,_=>h.elim
def ai5{a b c d:L aD×L aD}(h:indep c d=W)(h1:∀r∈a.1,r∈c.1)(h2:∀r∈a.2,r∈c.2)(h3:∀r∈b.1,r∈d.1)(e:∀r∈b.2,r∈d.2):indep a b=W:=by grind [indep]
def ai6{c:bv ch}{i j:U}{a b d e:L aD×L aD}(h:apart c d e i j=W)(h1:∀r∈a.1,r∈d.1)(h2:∀r∈a.2,r∈d.2)(h3:∀r∈b.1,r∈e.1)(f:∀r∈b.2,r∈e.2):apart c a b i j=W:=by
 unfold apart at h ⊢;rw[pw]at h ⊢;rcases h with h|h
 exact .inl (ai5 h h1 h2 h3 f);right;unfold Gv at h ⊢;grind
def oU.pairs{a:bv ch}{l m:L (L aD×L aD)}(h:oU l m){b:L (L U)}(hp:vL a m b=W):vL a l b=W:=by
 simp only[vL,fO,List.mem_range,pw]at hp ⊢;intro j c i hi;rcases hp j (by rw[←h.length];exact c) i hi with q|q
 exact .inl q;exact .inr (ai6 q (h.getD i).1 (h.getD i).2 (h.getD j).1 (h.getD j).2)
def XV(cfg:dJ)(b:bv ch):∀(l:L ch)(s:aU),(qb cfg b l s).box λx=>∃d,vM cfg.c b l (cQ s)=J (cQ x.1,d)∧oU d x.2|[],s=>⟨[],rfl,trivial⟩|o::r,s=>by simp only[qb];rw[Tr.sY];refine Tr.mK ?_ (ai4 cfg b o s);rintro ⟨a,s',f,g⟩ ⟨fr,j,h,e,i⟩;simp only at h e i ⊢;rw[Tr.sY];refine Tr.mK ?_ (XV cfg b r s');rintro ⟨k,l⟩ ⟨d,h2,h3⟩;simp only at h2 h3 ⊢;exact⟨(fr,j)::d,by simp only[vM,h,h2],e,i,h3⟩
end Go.Ve
