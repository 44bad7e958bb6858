/- The statement ExportSpansUptoCardSaid of the given program is proved here: for every input whose bulk is at most the bound of its row, the law returns true and changes nothing. Part 2 of 7. -/
import Derived.Maps.RangeRun
import Derived.Scope
import Derived.Defers
import Derived.KernelRfl
import Derived.Deep.Slices
import Derived.ChangeArms
import Derived.Carry
import Derived.RowKit
import Derived.OpenShut
import Derived.ChangeOld
import Derived.ShapedOpen
import Derived.Laws.StructEq
import Derived.ChangeKeysEq
import Derived.Test.YtgbmhohlapmgbaaGreatDoorS1
set_option linter.unusedVariables false
set_option linter.unusedSimpArgs false
set_option linter.unusedSectionVars false
set_option linter.constructorNameAsVariable false
set_option linter.defProp false
open Array renaming getD_eq_getD_getElem?->Hq,getElem?_eq_some_iff->pR,mem_toList_iff->Wv,toList->T
open BitVec renaming ofInt->mY
open Bool renaming and_eq_true->ck,and_self->zN,false->I,false_eq_true->bL,not_eq_true'->lQ,or_eq_true->qY,true->W
open Eq renaming trans->ab0
open False renaming elim->ab1
open ForInStep renaming yield->HB
open Go renaming BinOp->kc,Calls->ez,DataW->jo,FuncId->dT,IntKind->mX,Oper->cS,Operand->cF,Program->ew,ResultVar->nV,TypeId->bq,Value->aJ,World->bZ,run_part_plain->ahP,run_underlying->lh
open Go.DataW renaming TrodAll->ahL,trod->Wx
open Go.Field renaming offset->adV
open Go.Instr renaming checkKey->m6,loadAt->Cl
open Go.Op renaming bytesLess->nN,eqFields->Wy,equalIn->Ht
open Go.Oper renaming upon_skip->N5,upon_value->o7,wp->HD
open Go.Program renaming plainKey->HJ,underlying->acK
open Go.Region renaming binds->Cp,wanted->HE
open Go.Result renaming andThen_ok->dF
open Go.RowKit renaming Below->c7
open Go.Sem renaming run_bind->dC,run_pure->fF
open Iff renaming rfl->uq
open Int renaming toNat->G
open List renaming all_cons->nR,all_eq_true->gy,flatMap_cons->mZ,getD_eq_getElem?_getD->jP,getElem?_append_left->pS,getElem?_append_right->Co,getElem?_cons_succ->qU,getElem?_cons_zero->iA,getElem?_eq_getElem->eM,getElem?_eq_some_iff->iO,getElem?_map->iQ,getElem?_of_mem->nO,length_cons->kO,length_map->kE,length_nil->Cs,map->jq,map_append->mj,map_cons->eU,map_drop->zO,map_map->sC,mem_append->nP,mem_cons->jQ,mem_cons_of_mem->i7,mem_cons_self->lf,mem_iff_getElem?->Wp,mem_map->mh,mem_of_getElem?->fK,mem_singleton->m7,nodup_cons->wW,pairwise_cons->Cq,range->iz,replicate->ep,contains->ab4,getD->H,length->Y,toArray->abf
open List.cons renaming injEq->zJ
open Nat renaming ble->gN,ble_eq->iJ,le_of_ble_eq_true->wY,le_refl->dR,zero_le->fV
open Option renaming bind_eq_some_iff->Ww,getD_none->ahM,getD_some->fL,isSome_some->HI,map_some->m8,none->O,some->J,getD->X,isSome->V
open Option.some renaming injEq->nU
open PUnit renaming unit->zP
open Prod.mk renaming injEq->gO
open UInt8 renaming ofNat->kC
open _root_ renaming Array->bW,Bool->az,False->jn,Int->L,List->M,Nat->U,Option->Q,True->dK,UInt8->ao,Unit->bV,absurd->cO,beq_iff_eq->dL,congrArg->bX,decide_eq_true_eq->eY,if_false->ch,if_neg->aV,if_pos->aF,if_true->bI,of_decide_eq_true->jr
namespace Go.Vs
section
variable{K:dh}{β:aC→Option Nat}{ω:Nat→Option cT}{Z:Nat→Prop}{s:St}{a:Act}{w:World}{af:bM}
def ajL{ks:M aC}{c:C}{e:Nat}{xs:M (M D)}(h:bc ks c=.ak e xs):c=.ak e xs:=by
 cases c with
 |aW k off=>cases k<;>cases h
 |_=>first|exact h|cases h
theorem Ym{ks:M aC}{c:C}(h:plain c=W):bc ks c=c:=by cases c<;>first|rfl|cases h
def Yn{ks:M aC}{cs:M C}(h:cs.all plain=W):cs.map (bc ks)=cs:=by
 induction cs with|nil=>rfl|cons c cs a=>grind [Ym]
def Yo{n:Nat}{cs:M C}(h:cs.all plain=W):cs.all (jE n)=W:=by rw[gy]at h ⊢;intro c a;have:=h c a;cases c<;>first|rfl|cases this
def Yp{v:SV}{l:M C}(h:uG v l=W):∃k off,v=.agg [.aW k off]∧l=[.aW k off]:=by unfold uG at h;grind [Nat.beq_eq]
def ajM{n:M aC}:∀(ks:M aC)(c:M (M C))(s s':St){y:bV},ks.Nodup→(rq n ks c).aD s=J (y,s')→Y c=Y ks∧(∀(i:Nat)k cs,ks[i]?=J k→c[i]?=J cs→(s' (.box k)).v=.agg (cs.map (bc n))∧((s' (.box k)).hv=(s (.box k)).hv+1∨(s' (.box k)=s (.box k)∧∃q off,cs.map (bc n)=[.aW q off]))∧(s' (.box k)).cv=(s (.box k)).cv∧cs.all (jE (Y n))=W)∧(∀r,(∀k∈ks,r≠.box k)→s' r=s r):=by
 intro ks;induction ks with
 |nil=>
  intro c s s' y _ l;cases c with
  |nil=>let⟨_,H⟩:=bg l;grind
  |cons b c=>simp[rq,ax.aD]at l
 |cons k ks E=>
  intro c s s' y u l;cases c with
  |nil=>simp[rq,ax.aD]at l|cons b c=>
   simp only[rq,ax.aD]at l;let⟨_,K,h1,d⟩:=aS l;let⟨hp,w⟩:=cN h1;rw[w]at d;let⟨hk,g⟩:=wW.1 u;cases j:uG (s (.box k)).v (b.map (bc n))with
   |true=>
    rw[j]at d;let⟨G,off,x,o⟩:=Yp j;let⟨z,A,p⟩:=E c s s' g d;refine⟨by simp[z],λi k' cs hi f=>?_,λr m=>p r (λk2 a=>m k2 (i7 _ a))⟩;cases i with|zero=>simp only[iA,Option.some.injEq]at hi f;subst hi;subst f;rw[p (.box k) (λk2 a e=>hk (by cases e;exact a))];exact⟨by rw[x,o],.inr ⟨rfl,G,off,o⟩,rfl,hp⟩|succ i=>simp only[qU]at hi f;exact A i k' cs hi f
   |false=>
   rw[j]at d;let⟨_,F,h2,B⟩:=aS d;simp only[eu,ax.aD,Option.some.injEq,gO]at h2;let⟨_,t⟩:=h2;let⟨z,A,p⟩:=E c F s' g B;have h:∀r,r≠.box k→F r=s r:=λr m=>(by rw[←t,lS _ _ m]);refine⟨by simp[z],λi k' cs hi f=>?_,λr m=>?_⟩;cases i with|zero=>simp only[iA,Option.some.injEq]at hi f;subst hi;subst f;rw[p (.box k) (λk2 a e=>hk (by cases e;exact a)),←t,lR];exact⟨rfl,.inl rfl,rfl,hp⟩|succ i=>simp only[qU]at hi f;have:=A i k' cs hi f;have D:aO.box k'≠.box k:=λe=>hk (by cases e;exact fK hi);rw[h _ D]at this;exact this
   rw[p r (λk2 a=>m k2 (i7 _ a)),h r (m k (lf ..))]
def ajN(t:Nat):∀(d:M (M C))(a:Nat)(s s':St){y:bV},(escape t a d).aD s=J (y,s')→(∀(i:Nat)cs,d[i]?=J cs→(s (.box (.cm t (a+i)))).v=.undef∧(s' (.box (.cm t (a+i)))).v=.agg cs∧(s' (.box (.cm t (a+i)))).hv=(s (.box (.cm t (a+i)))).hv+1∧(s' (.box (.cm t (a+i)))).cv=(s (.box (.cm t (a+i)))).cv∧cs.all plain=W)∧(∀r,(∀i,i<Y d→r≠.box (.cm t (a+i)))→s' r=s r):=by
 intro d;induction d with
 |nil=>intro a s s' y f;let⟨_,u⟩:=bg f;grind
 |cons b d p=>
  intro a s s' y f;simp only[escape,ax.aD]at f;split at f;rename_i w;let⟨_,x,h1,g⟩:=aS f;let⟨hp,l⟩:=cN h1;rw[l]at g;let⟨_,n,h2,m⟩:=aS g;simp only[eu,ax.aD,Option.some.injEq,gO]at h2;let⟨_,h⟩:=h2;let⟨q,o⟩:=p (a+1) n s' m;have c:∀r,r≠.box (.cm t a)→n r=s r:=λr j=>by rw[←h,lS _ _ j]
  refine⟨λi cs k=>?_,λr j=>?_⟩;cases i with|zero=>simp only[iA,Option.some.injEq]at k;subst k;simp only[Nat.add_zero];rw[o (.box (.cm t a)) (λi _ e=>by simp at e;omega),←h,lR];grind|succ i=>simp only[qU]at k;have:=q i cs k;rw[show a+1+i=a+(i+1) by omega,c _ (by simp)]at this;exact this
  rw[o r (λi hi=>by have:=j (i+1) (by simpa using hi);grind),c r (by have:=j 0 (by simp);simpa using this)];simp[ax.aD]at f
theorem Yq{args:M SV}:∀{l:M (Nat×Nat)},Ac args l=W→ln l args=args
 |[],_=>rfl|(i,j)::r,h=>by
  simp only[Ac,nR,ck]at h;let⟨h1,h2⟩:=h;simp only[ln];have a:args.set i (pg (args.getD i .undef) j)=args:=by have:pg (args.getD i .undef) j=args.getD i .undef:=(by grind [pg]);rw[this];apply List.ext_getElem?;grind
  rw[a];exact Yq h2
def tr(ks:M aC)(t:Nat):Option cT→Option cT|some (.tmp _,j)=>J (.tmp t,j)|some (.box (.aB i),j)=>J (.box (if i<Y ks then H ks i default else .cm t (i-Y ks)),j)|_=>O
open Classical in
theorem Yr(h:aY K β ω Z s a w){ks:M aC}(hnd:ks.Nodup){us:M aJ}{n:M SV}(hcan:aQ (Dh ks β ω Z w) us n){r:ri}{v:aJ}{X:aC→Option Nat}{ω':Nat→Option cT}{Z':Nat→Prop}{w':World} (hR:aY (cY K.P 1 w (abf us) (gU ks β) (gF ks ω) Z) X ω' Z' (fa n r) {tmps:=#[v],defers:=[]} w') (ajO:∀(i:Nat)(k:aC),ks[i]?=J k→∃cs,(s (.box k)).v=.agg cs)(azl:Ac n r.cH=W)(hlen:ks.length≤r.aI.length) {t:Nat}{s1 s2:St}{y y':bV}(hp:(rq ks ks (r.aI.take ks.length)).aD s=J (y,s1))(ajP:(escape t 0 (r.aI.drop ks.length)).aD s1=J (y',s2)){v':SV}{s3:St}(f:(lp ks t r.v).aD s2=J (v',s3)):∃l H,aY K l H Z' s3 a w'∧jv K l H Z' s3 a w' (.tmp t) v v':=by
 let⟨hpl,hp1,hp2⟩:=ajM ks _ s s1 hnd hp;let⟨he1,V⟩:=ajN t _ 0 s1 s2 ajP;simp only[Nat.zero_add]at he1 V;have hKs:∀(i:Nat)k,ks[i]?=J k→∃cs,r.aI[i]?=J cs∧(s1 (.box k)).v=.agg (cs.map (bc ks))∧((s1 (.box k)).hv=(s (.box k)).hv+1∨(s1 (.box k)=s (.box k)∧∃q off,cs.map (bc ks)=[.aW q off]))∧(s1 (.box k)).cv=(s (.box k)).cv∧cs.all (jE ks.length)=W:=by
  intro i k hi;have hil:i<ks.length:=(iO.1 hi).1;have B:(r.aI.take ks.length)[i]?=r.aI[i]? :=by grind
  grind
 have azn:∀k∈ks,∀i,i<(r.aI.drop ks.length).length→aO.box k≠.box (.cm t i):=by grind [nO]
 have Ys:∀(i:Nat)k,ks[i]?=J k→∃cs,r.aI[i]?=J cs∧(s2 (.box k)).v=.agg (cs.map (bc ks))∧((s2 (.box k)).hv=(s (.box k)).hv+1∨(s2 (.box k)=s (.box k)∧∃q off,cs.map (bc ks)=[.aW q off]))∧(s2 (.box k)).cv=(s (.box k)).cv∧cs.all (jE ks.length)=W:=by grind
 have Pn:∀i,i<(r.aI.drop ks.length).length→∃cs,r.aI[ks.length+i]?=J cs∧(s (.box (.cm t i))).v=.undef∧(s2 (.box (.cm t i))).v=.agg cs∧(s2 (.box (.cm t i))).hv=(s (.box (.cm t i))).hv+1∧(s2 (.box (.cm t i))).cv=(s (.box (.cm t i))).cv∧cs.all plain=W:=by intro i hi;let⟨F,N,g3,g4,g5⟩:=he1 i _ (eM hi);grind
 have ajQ:∀q,(∀k∈ks,q≠.box k)→(∀i,i<(r.aI.drop ks.length).length→q≠.box (.cm t i))→s2 q=s q:=λq h1 h2=>by rw[V q h2,hp2 q h1]
 have ajR:s3=s2:=by
  have T:∀(c c':C)(x x':St),(back ks t c).aD x=J (c',x')→x'=x:=by intro c c' x x' E;unfold back at E;split at E;exact(bg E).2;exact(bg E).2;exact(bg E).2;let⟨_,x1,h1,V⟩:=aS E;rw[(bg V).2,(cN h1).2];simp[ax.aD]at E
  have xL:∀(cs Y:M C)(x x':St),(rr ks t cs).aD x=J (Y,x')→x'=x:=by
   intro cs;induction cs with
   |nil=>intro Y x x' E;exact(bg E).2
   |cons c cs ih=>intro Y x x' E;simp only[rr]at E;let⟨c1,x1,h1,he1⟩:=aS E;let⟨xH,x2,h2,V⟩:=aS he1;grind [bg]
  have hb3:∀(vs vs':M (az×M C))(x x':St),(sK ks t vs).aD x=J (vs',x')→x'=x:=by
   intro vs;induction vs with
   |nil=>intro Y x x' E;exact(bg E).2
   |cons c cs ih=>intro Y x x' E;let⟨b,c⟩:=c;simp only[sK]at E;let⟨c1,x1,h1,he1⟩:=aS E;let⟨xH,x2,h2,V⟩:=aS he1;grind [bg]
  cases hrv:r.v with
  |one c=>rw[hrv]at f;simp only[lp]at f;let⟨c1,x1,h1,E⟩:=aS f;grind [bg]
  |agg c=>rw[hrv]at f;simp only[lp]at f;let⟨c1,x1,h1,E⟩:=aS f;grind [bg]
  |bw c=>rw[hrv]at f;simp only[lp]at f;let⟨c1,x1,h1,E⟩:=aS f;grind [bg]
  |undef=>grind [lp,ax.aD]
 rw[ajR]at f ⊢;let G:Nat→Prop:=λb=>w.heap.size≤b∨gF ks ω b≠O;have A:∀b,¬G b→w'.heap[b]?=w.heap[b]? :=λb B=>hR.frame b (by simp only[G,not_or]at B;show b<w.heap.size;omega) (by simp only[G,not_or]at B;exact B.2);have Po:∀b g,ω' b=J g→G b:=by intro b g B;by_cases hlt:b<w.heap.size;exact .inr ((hR.dZ b g B).2.2 hlt);grind
 have hfz:∀b,Z' b→Z b∨G b:=by
  intro b B;rcases hR.nj b B with g|g|g|⟨i,j,e,ys,u0,F,N,g3,g3l⟩
  exact .inl g;exact .inr (.inl g);exact .inr (.inr g);left;have IL:(n.getD i .undef).cells[j]?=J (.d (.sl e ys)):=by grind [fa,Yq]
  rw[jP]at IL;cases Yt:n[i]? with|none=>grind [SV.cells]|some cv=>rw[Yt]at IL;let⟨u,q1,q2⟩:=hcan.aE Yt;let⟨x,q3,q4⟩:=(q2.1 K s a).cell IL;have hu:(cY K.P 1 w (abf us) (gU ks β) (gF ks ω) Z).argv.getD i undef=u:=(by show (abf us).getD i undef=u;simp[Hq,q1]);rw[hu,q3]at N;cases N;exact bA.live q4 g3 g3l
 have IQ:∀b g,ω b=J g→(∀k j,g=(.box k,j)→k ∉ ks)→¬G b:=by intro b g B hg;have hlt:=(h.dZ b g B).2.1;grind [gF]
 have ajT:∀b,Z b→¬G b:=by
  intro b B;have hlt:=h.dp b B;simp only[G,not_or];refine⟨by omega,?_⟩;have:ω b=O:=by
   cases hω:ω b with|none=>rfl|some g=>exact cO B (h.dZ b g hω).1
  simp[gF,this]
 have Yu:∀b,b<K.base→¬K.E0 b→¬G b:=by
  intro b B hE;simp only[G,not_or];refine⟨by have:=h.base;omega,?_⟩;have:ω b=O:=by
   cases hω:ω b with|none=>rfl|some g=>exact cO ((h.dZ b g hω).2.2 B) hE
  simp[gF,this]
 let l:aC→Option Nat:=λk=>match k with|.cm t' i=>if t'=t∧i<(r.aI.drop ks.length).length then X (.aB (ks.length+i))else β k|k=>β k
 have Pp:∀i,i<(r.aI.drop ks.length).length→l (.cm t i)=X (.aB (ks.length+i)):=λi hi=>by grind
 have CR:∀k,(∀i,i<(r.aI.drop ks.length).length→k≠.cm t i)→l k=β k:=by grind
 have R:∀k b,β k=J b→l k=J b:=by intro k b B;rw[CR k];exact B;rintro i hi rfl;let⟨cs,_,g,_⟩:=Pn i hi;have:=h.aI (.cm t i);rw[g]at this;simp only[ek]at this;grind
 have hβks:∀(i:Nat)k,ks[i]?=J k→∃b,β k=J b∧X (.aB i)=J b∧l k=J b:=by intro i k hi;let⟨cs,hcs⟩:=ajO i k hi;let⟨b,ws,el,lo,hi',F,_⟩:=ek.cell h hcs;refine⟨b,F,hR.og (.aB i) b ?_,R k b F⟩;show gU ks β (.aB i)=J b;have:=rE (fK hi) β;grind [rF]
 let H:Nat→Option cT:=λb=>if G b then tr ks t (ω' b)else ω b;have IR:∀b,G b→H b=tr ks t (ω' b):=λb B=>by grind
 have Pq:∀b,¬G b→H b=ω b:=λb B=>by grind
 have Oz:∀q,gT (s q) (s2 q):=by intro q;by_cases h1:∃k∈ks,q=.box k;grind [nO,gT.bump,gT.refl];grind [gT.bump,gT.refl]
 have hsame:∀q,(s2 q).hv=(s q).hv→((∀k∈ks,q≠.box k)∨∃(i:Nat)(k:aC)(p:aC)(off:Nat)(cs:M C),ks[i]?=J k∧q=.box k∧s2 q=s q∧(s q).v=.agg [.aW p off]∧r.aI[i]?=J cs∧cs.map (bc ks)=[.aW p off]∧cs.all (jE ks.length)=W)∧(∀i,i<(r.aI.drop ks.length).length→q≠.box (.cm t i)):=by intro q hq;constructor;by_cases h1:∃k∈ks,q=.box k;obtain⟨k,hk,rfl⟩:=h1;let⟨i,hi⟩:=nO hk;grind;grind;grind
 have IU:∀q j,(∀k∈ks,q≠.box k)→(∀i,i<(r.aI.drop ks.length).length→q≠.box (.cm t i))→cK K l a w' q j=cK K β a w q j:=by
  intro q j h1 h2;cases q with
  |tmp t'=>rfl|bN i=>rfl|box k=>
   simp only[cK];rw[CR k (λi hi e=>h2 i hi (by rw[e]))];cases B:β k with
   |none=>rfl|some b=>
    simp only[Option.bind_some];refine cell_of_heap (A b ?_) _ _;have S:=h.aI k;cases hv:(s (.box k)).v with
    |agg cs=>let⟨b2,ws,el,lo,hi,F,N,_⟩:=ek.cell h hv;grind
    |undef=>rw[hv]at S;simp only[ek]at S;grind|one c=>rw[hv]at S;exact ab1 S|bw x=>rw[hv]at S;exact ab1 S
 have ajU:∀b,¬G b→Z' b→Z b:=λb B hz=>(hfz b hz).resolve_right B;have ajV:∀(c:C)(u:aJ),jE ks.length c=W→aR (cY K.P 1 w (abf us) (gU ks β) (gF ks ω) Z) X Z' (fa n r) {tmps:=#[v],defers:=[]} w' c u→aR K l Z' s2 a w' (bc ks c) u:=by
  intro c u B z;cases c with
  |d x=>exact z|ak e xs=>exact z|aW k off=>
   cases k with
   |aB m=>have hm:m<ks.length:=(by simpa[jE]using B);let⟨b,F,N⟩:=z;let⟨b2,p1,p2,p3⟩:=hβks m _ (eM hm);rw[p2]at F;cases F;refine⟨b,?_,N⟩;rw[jP,eM hm];exact p3
   |_=>cases B
  |bK=>trivial|_=>cases B
 have hboxR:∀(i:Nat)(cs:M C)(kk:aC),r.aI[i]?=J cs→cs.all (jE ks.length)=W→l kk=X (.aB i)→(if i<ks.length then ks.getD i default else .cm t (i-ks.length))=kk→(ek K l H Z' s2 a w' kk (.agg (cs.map (bc ks))))∧(∀(j e:Nat)(xs:M (M D))(u1:aJ)(b1:Nat),(cs.map (bc ks))[j]?=J (.ak e xs)→cK K l a w' (.box kk) j=J u1→eH u1=J b1→H b1=J (.box kk,J j)∧mA w' e u1):=by
  intro i cs kk hi hpl Yv hkk;have hex:(fa n r (.box (.aB i))).v=.agg cs:=by simp only[fa,hi]
  let⟨b,ws,el,lo,hi',F,N,g3,g4,g5⟩:=ek.cell hR hex;have hdb:=Po b _ N;refine⟨⟨b,ws,el,lo,hi',by rw[Yv];exact F,by rw[IR b hdb,N];simp only[tr,hkk],g3,g4,g5.IP λu c z hr=>ajV c u (Yk hpl z) hr⟩,?_⟩;intro j e xs u1 b1 z hh T;have z:cs[j]?=J (.ak e xs):=by
   rw[iQ]at z;cases Yw:cs[j]? with
   |none=>rw[Yw]at z;cases z
   |some c0=>rw[Yw]at z;simp only[Option.map_some,Option.some.injEq]at z;rw[ajL z]
  have Pr:cK (cY K.P 1 w (abf us) (gU ks β) (gF ks ω) Z) X {tmps:=#[v],defers:=[]} w' (.box (.aB i)) j=J u1:=by simp only[cK]at hh ⊢;rw[←Yv];exact hh
  let⟨q1,q2⟩:=hR.ak (.box (.aB i)) j e xs u1 b1 rfl (by rw[hex];exact z) Pr T;have X4:=Po _ _ q1;exact⟨by rw[IR _ X4,q1];simp only[tr,hkk],q2⟩
 have ajW:∀q j,(s2 q).hv=(s q).hv→(s2 q).at j≠.bK→cK K l a w' q j=cK K β a w q j:=by
  intro q j hq hd;let⟨F,N⟩:=hsame q hq;rcases F with F|⟨i,k,p,off,cs,hi,rfl,e1,e2,e3,e4,e5⟩
  exact IU q j F N;have hil:i<ks.length:=(iO.1 hi).1;let⟨b,p1,p2,p3⟩:=hβks i k hi;have hB:=(hboxR i cs k e3 e5 (by rw[p2,p3]) (by rw[aF hil,jP,hi];rfl)).1;rw[e4]at hB;let⟨b1,ws1,el1,lo1,hi1,a1,_,a3,_,a5⟩:=hB;let⟨b2,Ah,CS,CT,hi2,c1,_,c3,_,c5⟩:=ek.cell h e2;rw[nk a1 a3,nk c1 c3];have hj:j=0:=by
   cases j with|zero=>rfl|succ j=>exact cO (by rw[e1];simp only[RV.at,e2,SV.cells];rfl) hd
  subst hj;let⟨u1,x1,y1⟩:=a5.aE (j:=0) rfl;let⟨u2,x2,y2⟩:=c5.aE (j:=0) rfl;rw[x1,x2];let⟨b3,z1,z2⟩:=y1;let⟨b4,z3,z4⟩:=y2;rw[R _ _ z3]at z1;cases z1;rw[z2,z4]
 have W2:∀(c:C)(u:aJ),(∀(e:Nat)(xs:M (M D))(b1:Nat),c=.ak e xs→eH u=J b1→¬G b1)→aR K β Z s a w c u→aR K l Z' s2 a w' c u:=λc u rB h1=>aR.step R (λb B=>⟨A b (ajT b B),hR.lZ b B⟩) Oz ajW (λe xs b1 h2 h3=>A _ (rB e xs b1 h2 h3)) h1;have Ii:∀(q:aO)(j:Nat)(c:C)(u:aJ),(∀k∈ks,q≠.box k)→(s q).v.cells[j]?=J c→cK K β a w q j=J u→aR K β Z s a w c u→aR K l Z' s2 a w' c u:=by
  intro q j c u hq z hu;refine W2 c u λe xs b1 h1 h2=>?_;subst h1;by_cases qf:q.isArg=W;cases q with
  |bN i=>let⟨F,N⟩:=h.iS i j e xs u b1 z hu h2;exact Yu _ F N
  |tmp t=>simp[aO.isArg]at qf|box k=>simp[aO.isArg]at qf
  exact IQ _ _ (h.ak q j e xs u b1 (by simpa using qf) z hu h2).1 λk' j' e' hk'=>hq k' hk' (by cases e';rfl)
 have hs2v:∀q,(∀k∈ks,q≠.box k)→(∀i,i<(r.aI.drop ks.length).length→q≠.box (.cm t i))→(s2 q).v=(s q).v:=λq h1 h2=>by rw[ajQ q h1 h2]
 have Yx:aY K l H Z' s2 a w':=by
  refine⟨h.size,h.defers,ab0 hR.os h.os,ab0 hR.tape h.tape,ab0 hR.output h.output,Nat.le_trans h.base hR.base,?_,hR.dp,λb B=>hR.lZ b (h.lZ b B),?_,?_,?_,?_,?_,?_,?_,λk b B=>R k b (h.og k b B)⟩;intro b B hE;rw[A b (Yu b B hE)];exact h.frame b B hE;intro b B;rcases hfz b B with g|g
  rcases h.nj b g with q|q|q|⟨i,j',e',ys',u',q1,q2,q3⟩
  exact .inl q;exact .inr (.inl q);exact .inr (.inr (.inl q));exact .inr (.inr (.inr ⟨i,j',e',ys',u',by rw[hs2v _ (by simp) (by simp)];exact q1,q2,q3⟩));rcases g with g|g
  exact .inr (.inl (Nat.le_trans h.base g));by_cases xL:b<K.base;right;right;left;cases hω:ω b with|none=>simp[gF,hω]at g|some g'=>exact(h.dZ b g' hω).2.2 xL
  omega;intro t';rw[hs2v _ (by simp) (by simp)];exact bO.oc (λj c u z hu=>Ii (.tmp t') j c u (by simp) z hu) (h.tmps t');intro i;rw[hs2v _ (by simp) (by simp)];exact bO.oc (λj c u z hu=>Ii (.bN i) j c u (by simp) z hu) (h.args i);intro k;by_cases h1:k∈ks;let⟨i,hi⟩:=nO h1;let⟨cs,F,N,_,_,g3⟩:=Ys i k hi;let⟨b,p1,p2,p3⟩:=hβks i k hi;rw[N];refine(hboxR i cs k F g3 (by rw[p2,p3]) ?_).1;have hil:i<ks.length:=(iO.1 hi).1;rw[aF hil,jP,hi];rfl;by_cases h2:∃i,i<(r.aI.drop ks.length).length∧k=.cm t i;obtain⟨i,hi,rfl⟩:=h2;let⟨cs,F,_,N,_,_,g3⟩:=Pn i hi;rw[N];have hh:=(hboxR (ks.length+i) cs (.cm t i) F (Yo g3) (Pp i hi) (by rw[aV (by omega),Nat.add_sub_cancel_left])).1;rw[Yn g3]at hh;exact hh;have xM:∀k'∈ks,aO.box k≠.box k':=λk' hk' e=>h1 (by cases e;exact hk');have hn2:∀i,i<(r.aI.drop ks.length).length→aO.box k≠.box (.cm t i):=λi hi e=>h2 ⟨i,hi,by cases e;rfl⟩;rw[hs2v _ xM hn2];have S:=h.aI k;cases hv:(s (.box k)).v with
  |agg cs=>let⟨b,ws,el,lo,hi,F,N,g3,g4,g5⟩:=ek.cell h hv;have hdb:¬G b:=IQ b _ N λk' j' e hk'=>h1 (by cases e;exact hk');refine⟨b,ws,el,lo,hi,R k b F,by rw[Pq b hdb];exact N,by rw[A b hdb];exact g3,g4,aQ.dX g5.length λj u c hu z=>?_⟩;let⟨u',q1,q2⟩:=g5.aE z;rw[hu]at q1;cases q1;exact Ii (.box k) j c u xM (by rw[hv];exact z) (by rw[nk F g3];exact hu) q2
  |undef=>rw[hv]at S;show l k=O;rw[CR k (λi hi e=>h2 ⟨i,hi,e⟩)];exact S|one c=>rw[hv]at S;exact ab1 S|bw x=>rw[hv]at S;exact ab1 S
  intro q j e xs u1 b1 hq z hh T;by_cases h1:∃k∈ks,q=.box k;obtain⟨k,hk,rfl⟩:=h1;let⟨i,hi⟩:=nO hk;let⟨cs,F,N,_,_,g3⟩:=Ys i k hi;let⟨b,p1,p2,p3⟩:=hβks i k hi;rw[N]at z;refine(hboxR i cs k F g3 (by rw[p2,p3]) ?_).2 j e xs u1 b1 z hh T;have hil:i<ks.length:=(iO.1 hi).1;rw[aF hil,jP,hi];rfl;by_cases h2:∃i,i<(r.aI.drop ks.length).length∧q=.box (.cm t i);obtain⟨i,hi,rfl⟩:=h2;let⟨cs,F,_,N,_,_,g3⟩:=Pn i hi;rw[N]at z;exact(hboxR (ks.length+i) cs (.cm t i) F (Yo g3) (Pp i hi) (by rw[aV (by omega),Nat.add_sub_cancel_left])).2 j e xs u1 b1 (by rw[Yn g3];exact z) hh T;have xM:∀k'∈ks,q≠.box k':=λk' hk' e=>h1 ⟨k',hk',e⟩;have hn2:∀i,i<(r.aI.drop ks.length).length→q≠.box (.cm t i):=λi hi e=>h2 ⟨i,hi,e⟩;rw[hs2v _ xM hn2]at z;rw[IU q j xM hn2]at hh;let⟨F,N⟩:=h.ak q j e xs u1 b1 hq z hh T;have hdb:¬G b1:=IQ _ _ F λk' j' e' hk'=>xM k' hk' (by cases e';rfl);exact⟨by rw[Pq _ hdb];exact F,N.mono T (A _ hdb)⟩;intro i j e xs u1 b1 z hh T;rw[hs2v _ (by simp) (by simp)]at z;exact h.iS i j e xs u1 b1 z hh T;intro b g B;by_cases hd:G b;rw[IR b hd]at B;cases hω:ω' b with
  |none=>rw[hω]at B;simp[tr]at B|some g'=>
   let⟨q1,q2,q3⟩:=hR.dZ b g' hω;refine⟨q1,q2,λhbase=>?_⟩;have hlt:b<w.heap.size:=Nat.lt_of_lt_of_le hbase h.base;have hne:gF ks ω b≠O:=q3 hlt;cases Is:ω b with|none=>simp[gF,Is]at hne|some g0=>exact(h.dZ b g0 Is).2.2 hbase
  rw[Pq b hd]at B;let⟨q1,q2,q3⟩:=h.dZ b g B;exact⟨λhz=>q1 (ajU b hd hz),Nat.lt_of_lt_of_le q2 hR.base,q3⟩
 refine⟨l,H,Yx,?_⟩;have lv:bO (aR (cY K.P 1 w (abf us) (gU ks β) (gF ks ω) Z) X Z' (fa n r) {tmps:=#[v],defers:=[]} w') v r.v:=hR.tmps 0;have ajX:∀(j e:Nat)(xs:M (M D))(u1:aJ)(b1:Nat),r.v.cells[j]?=J (.ak e xs)→(eB v)[j]?=J u1→eH u1=J b1→H b1=J (.tmp t,J j)∧mA w' e u1∧G b1:=by intro j e xs u1 b1 z hh T;let⟨q1,q2⟩:=hR.ak (.tmp 0) j e xs u1 b1 rfl z hh T;have hd:=Po _ _ q1;exact⟨by rw[IR _ hd,q1];rfl,q2,hd⟩
 have hfree:∀(j:Nat)(b:Nat),H b=J (.tmp t,J j)→G b→lq K l s2 a w' b:=by intro j b hω hd q j' e' xs' u' b' hq z hh T B;have g:=(Yx.ak q j' e' xs' u' b' hq z hh T).1;rw[B,hω]at g;simp only[Option.some.injEq,gO]at g;obtain⟨rfl,rfl⟩:=g;rw[hs2v _ (by simp) (by simp)]at z;rw[IU _ _ (by simp) (by simp)]at hh;have N:=(h.ak (.tmp t) j e' xs' u' b' rfl z hh T).1;exact IQ _ _ N (by intro k j e;cases e) (by rw[B];exact hd)
 have Yy:∀(c c':C)(x:aJ)(q q':St),(back ks t c).aD q=J (c',q')→aR (cY K.P 1 w (abf us) (gU ks β) (gF ks ω) Z) X Z' (fa n r) {tmps:=#[v],defers:=[]} w' c x→aR K l Z' s2 a w' c' x∧(∀e xs,c'=.ak e xs→c=.ak e xs):=by
  intro c c' x q q' E z;unfold back at E;split at E;obtain⟨rfl,_⟩:=bg E;exact⟨z,by simp⟩;obtain⟨rfl,_⟩:=bg E;exact⟨z,by simp⟩;rename_i i off;obtain⟨rfl,_⟩:=bg E;let⟨b,F,N⟩:=z;refine⟨⟨b,?_,N⟩,by simp⟩;simp only[Oh];split;rename_i hi;have hki:=eM hi;let⟨b2,p1,p2,p3⟩:=hβks i _ hki;rw[jP,hki];rw[p2]at F;cases F;exact p3;rename_i hi;have S:=hR.aI (.aB i);cases Yz:r.aI[i]? with
  |none=>have:(fa n r (.box (.aB i))).v=.undef:=(by simp only[fa,Yz]);rw[this]at S;simp only[ek]at S;rw[S]at F;cases F
  |some cs=>have hil:=(iO.1 Yz).1;rw[Pp (i-ks.length) (by simp;omega),show ks.length+(i-ks.length)=i by omega];exact F
  let⟨_,x1,h1,V⟩:=aS E;let⟨hcap,_⟩:=cN h1;obtain⟨rfl,_⟩:=bg V;rw[hcap]at z;let⟨vs,F,N⟩:=z;exact⟨⟨vs,F,by cases hvs:vs.toList with|nil=>trivial|cons _ _=>rw[hvs]at N;exact ab1 N⟩,by simp⟩
  simp[ax.aD]at E
 have YA:∀(cs:M C)(xs:M aJ)(Y:M C)(q q':St),(rr ks t cs).aD q=J (Y,q')→aQ (λu c=>aR (cY K.P 1 w (abf us) (gU ks β) (gF ks ω) Z) X Z' (fa n r) {tmps:=#[v],defers:=[]} w' c u) xs cs→aQ (λu c=>aR K l Z' s2 a w' c u) xs Y∧(∀(j e:Nat)ys,Y[j]?=J (.ak e ys)→cs[j]?=J (.ak e ys)):=by
  intro cs;induction cs with
  |nil=>
   intro xs Y q q' E o;obtain⟨rfl,_⟩:=bg E;cases xs with|nil=>exact⟨trivial,by simp⟩|cons _ _=>exact ab1 o
  |cons c cs ih=>
   intro xs Y q q' E o;cases xs with
   |nil=>exact ab1 o|cons x xs=>
    simp only[rr]at E;let⟨c1,x1,h1,he1⟩:=aS E;let⟨xH,x2,h2,V⟩:=aS he1;obtain⟨rfl,_⟩:=bg V;let⟨p1,p2⟩:=Yy _ _ _ _ _ h1 o.1;let⟨q1,q2⟩:=ih xs xH _ _ h2 o.2;refine⟨⟨p1,q1⟩,λj e ys hj=>?_⟩;cases j with|zero=>simp only[iA,Option.some.injEq]at hj ⊢;exact p2 e ys hj|succ j=>simpa using q2 j e ys (by simpa using hj)
 have fin:∀v',bO (aR K l Z' s2 a w') v v'→(∀(j e:Nat)ys,v'.cells[j]?=J (.ak e ys)→r.v.cells[j]?=J (.ak e ys))→jv K l H Z' s2 a w' (.tmp t) v v':=by intro v' h1 h2;refine⟨h1,λj c x z hx=>?_⟩;let⟨x',F,N⟩:=h1.cell z;rw[hx]at F;cases F;refine⟨N,λe xs b q1 q2=>?_⟩;subst q1;let⟨p1,p2,p3⟩:=ajX j e xs x b (h2 j e xs z) hx q2;exact⟨p1,p2,hfree j b p1 p3⟩
 cases hrv:r.v with
 |one c=>
  rw[hrv]at f lv;simp only[lp]at f;let⟨c1,x1,h1,E⟩:=aS f;obtain⟨rfl,_⟩:=bg E;let⟨p1,p2⟩:=Yy _ _ _ _ _ h1 lv.2;refine fin _ ⟨lv.1,p1⟩ λj e ys hj=>?_;rw[hrv];cases j with|zero=>simp only[SV.cells,iA,Option.some.injEq]at hj ⊢;exact p2 e ys hj|succ j=>simp[SV.cells]at hj
 |agg cs=>rw[hrv]at f lv;simp only[lp]at f;let⟨c1,x1,h1,E⟩:=aS f;obtain⟨rfl,_⟩:=bg E;let⟨ws,Am,o⟩:=lv;let⟨p1,p2⟩:=YA _ _ _ _ _ h1 o;exact fin _ ⟨ws,Am,p1⟩ λj e ys hj=>by rw[hrv];exact p2 j e ys hj
 |bw vs=>
  rw[hrv]at f lv;simp only[lp]at f;let⟨c1,x1,h1,E⟩:=aS f;obtain⟨rfl,_⟩:=bg E;let⟨ws,Am,o⟩:=lv;have key:∀(vs:M (az×M C))(xs:M aJ)(vs':M (az×M C))(q q':St),(sK ks t vs).aD q=J (vs',q')→aQ (eC (aR (cY K.P 1 w (abf us) (gU ks β) (gF ks ω) Z) X Z' (fa n r) {tmps:=#[v],defers:=[]} w')) xs vs→aQ (eC (aR K l Z' s2 a w')) xs vs'∧(vs'.map (·.2.length)=vs.map (·.2.length))∧(∀(j e:Nat)ys,(vs'.flatMap (·.2))[j]?=J (.ak e ys)→(vs.flatMap (·.2))[j]?=J (.ak e ys)):=by
   intro vs;induction vs with
   |nil=>
    intro xs vs' q q' E o;obtain⟨rfl,_⟩:=bg E;cases xs with|nil=>exact⟨trivial,rfl,by simp⟩|cons _ _=>exact ab1 o
   |cons x vs ih=>
    let⟨b,cs⟩:=x;intro xs vs' q q' E o;cases xs with
    |nil=>exact ab1 o|cons x xs=>
     simp only[sK]at E;let⟨c1,x1,h1,he1⟩:=aS E;let⟨xH,x2,h2,V⟩:=aS he1;obtain⟨rfl,_⟩:=bg V;let⟨q1,q2,q3⟩:=ih xs xH _ _ h2 o.2;have hfl:=eC.eB o.1;let⟨p1,p2⟩:=YA cs x.cells.toList c1 _ _ h1 hfl;have hl:c1.length=cs.length:=(by rw[←p1.length,hfl.length]);refine⟨⟨?_,q1⟩,by simp[q2,hl],λj e ys hj=>?_⟩;have h3:=o.1;unfold eC at h3 ⊢;cases b with
     |true=>simp only[bI]at h3 ⊢;obtain⟨ws,rfl,_⟩:=h3;exact⟨ws,rfl,p1⟩
     |false=>
      simp only[bL,ch]at h3 ⊢;let⟨c,F,N,_⟩:=h3;rw[lX N]at p1;match c1,p1 with|[d],p1=>exact⟨d,rfl,N,p1.1⟩
     simp only[mZ]at hj ⊢;by_cases hjl:j<c1.length;rw[pS hjl]at hj;rw[pS (by omega)];exact p2 j e ys hj;rw[Co (by omega)]at hj;rw[Co (by omega),←hl];exact q3 _ e ys hj
  let⟨p1,_,p2⟩:=key _ _ _ _ _ h1 o;exact fin _ ⟨ws,Am,p1⟩ λj e ys hj=>by rw[hrv];exact p2 j e ys hj
 |undef=>simp_all [lp,ax.aD]
end
section
variable{K:dh}{β:aC→Option Nat}{ω:Nat→Option cT}{Z:Nat→Prop}{s:St}{a:Act}{w:World}{af:bM}
def YB{e:Nat}(h:fQ e=W):ca e=W:=by have:=Nat.le_of_ble_eq_true h;exact Nat.ble_eq_true_of_le (by omega)
def ajY(hT:ip K.P af)(h:aY K β ω Z s a w){t:bq}{x:cF}{dst:Nat}{o:cS}(C:o.op=.range t x){v:SV}{s':St}(r:(cn af o.op dst).aD s=J (v,s')):cR K s' a dst ((execOp a.eval o).run K.P w) v:=by
 rw[C]at r;simp only[cn]at r;let⟨c,s1,h1,f⟩:=aS r;let⟨u,o1,T,D⟩:=gE h h1;rw[u]at f;unfold H8 at f;split at f;rename_i kt ki ei V;let⟨et,X,Y,O3,xG,xL⟩:=uT hT V;let⟨d,s2,h2,k⟩:=aS f;let⟨Ir,q,E,k1,hd⟩:=CX h T h2;split at k;rename_i e xs;let⟨_,s3,h3,y⟩:=aS k;let⟨z,A⟩:=cN h3;let⟨hv,B⟩:=bg y;subst hv;subst B;subst A;have l:ca e=W:=by rw[z];exact Iw
 have hi:fQ e=I:=by grind [xJ]
 have m:ij e=I:=by grind [uS]
 let⟨b,F,G,H⟩:=(bA.n7 l).1 hd;rw[ph hi]at F;let⟨es,cq,g1,g2,g3⟩:=(ej.mp hi m).1 H;have i:cq=xs.length:=by rw[g2.cq,qg g3]
 let⟨r2,k2,f2,g4⟩:=E.newObj (.mapIter (J b) cq #[] cq) (.tmp dst,J 0);have g:∀b',q b'→(w.alloc (.mapIter (J b) cq #[] cq)).heap[b']?=w.heap[b']? ∧q b':=λb' n=>by have:=E.dp b' n;refine⟨?_,n⟩;show(w.heap.push _)[b']?=_;grind
 have p:∀(s:St),aR K β q s a (w.alloc (.mapIter (J b) cq #[] cq)) (.ak nX [[.sl e xs],[]]) (.pointer (J ⟨w.heap.size,0,O⟩)):=λs=>(aR.kG (e:=nX) rfl).2 ⟨w.heap.size,(Om rfl _).symm,(ej.it (e:=nX) rfl).2 ⟨b,cq, #[],cq,g4,⟨(bA.n7 l).2 ⟨b,(ph hi _).symm,G,ej.mono g e xs b (g b G).1 H⟩,trivial⟩,e,xs,rfl,l,hi,m,i,i,rfl⟩⟩;refine⟨.pointer (J ⟨w.heap.size,0,O⟩),w.alloc (.mapIter (J b) cq #[] cq),β,_,q,?_,r2,⟨rfl,p _⟩,?_⟩;simp only[execOp,C,Instr.range,F,dC,lh X,dF,qh g1,fF];rfl;intro j c x N R;have hj:j=0:=by grind [SV.cells]
 subst hj;simp only[SV.cells,iA,Option.some.injEq]at N;simp only[eB,iA,Option.some.injEq]at R;subst N;subst R;refine⟨p _,λe' xs b q1 S=>?_⟩;cases q1;simp only[eH,Option.some.injEq]at S;subst S;exact⟨by simp,trivial,f2⟩;simp[ax.aD]at k;simp[ax.aD]at f
def YC(h:aY K β ω Z s a w){r:aO}{j hv cv e k:Nat}{l:M (M D)}{u:aJ}(n:aR K β Z s a w (.bj r j hv cv e k l) u)(o:(s r).hv=hv)(p:r.isArg=I)(hi:fQ e=W) {v em:Nat}{xs:M (M D)}{seen:M D}(c:(s r).at j=.ak v [[.sl em xs],seen]):
  v=e∧∃b m es cq sn,u=.pointer (J ⟨b,0,O⟩)∧cK K β a w r j=J (gS e b)∧w.heap[b]?=J (.mapIter (J m) (Y xs) sn (Y xs))∧w.heap[m]?=J (.map es cq)∧
   cq=Y xs∧kl em cq es.toList∧fR w Z xs es.toList∧seen=lT sn.toList.reverse∧ca em=W∧fQ em=I∧ij em=I∧bA w Z (.sl em xs) (.map (J m))∧¬Z b:=by
 have d:=YB hi
 let⟨b,E,_,_,F⟩:=(aR.rz d).1 n
 let⟨f1,ys,f2,_⟩:=F o (xy c)
 rw[c]at f2
 rcases f2 with f2|f2<;>cases f2
 let⟨S,x,y⟩:=h.Ic d c
 rw[f1,Option.some.injEq]at x
 rw[CN x.symm]at y
 let⟨m,since,sn,f,G,H,T,ys,N,z,q,g,P,R,V⟩:=(ej.it hi).1 y
 cases N
 let⟨hd,_⟩:=H
 let⟨X,A,_,t⟩:=(bA.n7 z).1 hd
 rw[ph q]at A
 cases A
 let⟨es,cq,t,B,C⟩:=(ej.mp q g).1 t
 have i:cq=Y xs:=by rw[B.cq,qg C]
 subst P;subst R
 refine⟨rfl,b,m,es,cq,sn,by rw[E,Om hi],f1,G,t,i,B,C,by grind,z,q,g,hd,?_⟩
 exact(h.dZ _ _ (h.ak r j _ _ _ b p (jc c (by simp)) f1 (lW ..)).1).1
def YD{em:Nat}{bC:M D}{en:MapEntry}(hk:qc em en)(b:km w Z bC (pi en)):aQ (eC (aR K β Z s a w)) [en.key,en.val] (qa em bC):=by unfold qc at hk;unfold qa;generalize xh em=e at hk ⊢;generalize uA em=f at hk ⊢;generalize xi em=g at hk ⊢;generalize HU em=h at hk ⊢;let⟨k1,k2⟩:=hk;let⟨c,d⟩:=Ak k1 b;exact⟨IE k1 c,IE k2 d,trivial⟩
def YE{em:Nat}{bC:M D}{c:C}(a:c∈(qa em bC).flatMap (·.2)):cQ c:=by simp only[qa,mZ,List.flatMap_nil,List.append_nil,nP,mh]at a;rcases a with⟨d,_,rfl⟩|⟨d,_,rfl⟩<;>simp[cQ]
theorem ajZ(h:aY K β ω Z s a w){dst:Nat}{r:Result Next}(b:r=.ok (.value (.tuple #[.bool I])) w):cR K s a dst r (.bw [(I,[.d (.bool I)])]):=cR.same h b ⟨#[.bool I],rfl,⟨_,rfl,rfl,rfl⟩,trivial⟩ (by simp[SV.cells,cQ])
def aj0{α:Type}{p:Prop}[Decidable p](hp:p){f:bV→ax α}{s:St}:(bS p >>= f).aD s=(f ()).aD s:=by unfold bS;rw[aF hp];rfl
def aj1{l m:M Nat}(h:lT l=lT m):l=m:=by
 unfold lT at h;induction l generalizing m with
 |nil=>simp_all|cons a l c=>
  cases m with|nil=>simp at h|cons b m=>grind
def IV(h:aY K β ω Z s a w){x:cF}{dst:Nat}{o:cS}(ho:o.op=.next x I){r:aO}{j hv cv e k:Nat}{R:M (M D)}{s1:St}(h1:(ed x).aD s=J (.bj r j hv cv e k R,s1)) (S:(s r).hv=hv)(z:r.isArg=I)(hi:fQ e=W){T em:Nat}{xs:M (M D)}{sn:M Nat}(A:(s r).at j=.ak T [[.sl em xs],lT sn]):
  ((∀i,i<xs.length→i∈sn)∧cR K s a dst ((execOp a.eval o).run K.P w) (.bw [(I,[.d (.bool I)])]))∨
    ∃i,i<xs.length∧i ∉ sn∧cR K (s.set r {(s r)with cv:=(s r).cv+1,v:=(s r).v.setCell j (.ak T [[.sl em xs],lT (i::sn)])}) a dst ((execOp a.eval o).run K.P w) (.bw ((I,[.d (.bool W)])::qa em (xs.getD i []))):=by
 obtain⟨hs1,o1,r1,IF⟩:=gE h h1
 have V:∀{u:aJ}{w':World},(Instr.next (a.eval x) I o.type).run K.P w=.ok u w'→(execOp a.eval o).run K.P w=.ok (.value u) w':=by simp_all [execOp]
 obtain⟨X,b,m,es,cq,f,e1,f1,p1,p2,p3,H,p5,p6,p7,p8,Y,p9,hnz⟩:=YC h r1 S z hi A
 subst X
 have B:=aj1 p6
 have C:xs.length=es.toList.length:=qg p5
 have hold:∀x∈es.toList,x.born<xs.length:=by intro y hy;obtain⟨i,hi⟩:=Wp.1 hy;rw[H.born i y hi,C];grind
 rcases run_next_at (P:=K.P) w o.type b m _ _ f es cq p1 p2 hold (Nat.le_refl _)with⟨q,hrun⟩|⟨en,q1,E,q2,q3⟩
 left
 refine⟨λi hi=>?_,?_⟩
 have l:i<es.toList.length:=by omega
 have n:leftOf es f=#[]:=Array.eq_empty_of_size_eq_zero q
 unfold leftOf at n
 rw[Array.filter_eq_empty_iff]at n
 have hy:=n es.toList[i] (by simp)
 simp only[Bool.not_eq_true,Bool.not_eq_false',Bool.not_eq_eq_eq_not,Bool.not_true,Bool.not_false]at hy
 rw[H.born i _ (eM l)]at hy
 rw[B]
 simpa using hy
 grind [ajZ]
 right
 simp only[leftOf,Wv,Array.mem_filter,lQ,Array.contains_iff_mem]at q1
 obtain⟨i,p⟩:=Wp.1 (Wv.2 q1.1)
 have hb:=H.born i en p
 have l:i<xs.length:=by grind
 obtain⟨bC,g1,g2⟩:=rD p5 p
 refine⟨i,l,?_,?_⟩
 grind
 have hR1:aY K β ω Z s a E∧E.heap=w.heap:=by
   rcases q2 with rfl|rfl
   exact⟨h,rfl⟩;exact⟨h.drew.1,rfl⟩
 obtain⟨R1,F⟩:=hR1
 obtain⟨g,t⟩:=IC (w:=E) (o':=.mapIter (J m) xs.length (f.push en.born) cq) (by rw[F];exact p1)
 have hZ:∀b',Z b'→(ChangeMaps.setBlock E b (.mapIter (J m) xs.length (f.push en.born) cq)).heap[b']?=w.heap[b']? ∧Z b':=λb' G=>
  ⟨by rw[←F];exact g.other b' (λe=>hnz (e▸G)),G⟩
 have hf1:cK K β a E r j=J (gS T b):=by simp_all [cK,World.cell?]
 have hR2:=R1.OD (YB hi) A z hf1 g (ys':=[[.sl em xs],lT (i::sn)]) ((ej.it hi).2 ⟨m,_,_,_,t,⟨bA.mono hZ _ _ p9,trivial⟩,em,xs,rfl,p7,p8,Y,rfl,p3,by simp[hb,B,lT]⟩)
 refine⟨_,_,β,ω,Z,V (by rw[e1];exact q3),hR2,jv.CW ⟨#[.bool W,en.key,en.val],rfl,⟨_,rfl,rfl,rfl⟩,?_⟩ ?_⟩
 rw[kU g1]
 exact YD (H.ok en (fK p)) (km.mono hZ _ _ g2)
 intro c N
 simp only[SV.cells,mZ,nP,m7]at N
 rcases N with rfl|N
 simp[cQ]
 exact YE N
def aj2(h:aY K β ω Z s a w){x:cF}{dst:Nat}{o:cS}(u:o.op=.next x I){v:SV}{s':St}(y:(cn af o.op dst).aD s=J (v,s')):cR K s' a dst ((execOp a.eval o).run K.P w) v:=by
 rw[u]at y;simp only[cn]at y;let⟨c,N,h1,d⟩:=aS y;let⟨z,R,S,C⟩:=gE h h1;rw[z]at d;unfold WK at d;split at d;rename_i r j hv cv e k G;simp only[ax.aD]at d;let⟨_,T,h3,f⟩:=aS d;let⟨⟨n,p,hi⟩,A⟩:=cN h3;rw[A]at f;split at f;rename_i D em g;let⟨_,E,m,b⟩:=aS f;let⟨_,t⟩:=cN m;rw[t]at b;obtain⟨rfl,rfl⟩:=bg b;rcases IV (sn:=[]) h u h1 n p hi g with⟨_,q⟩|⟨i,l,_⟩
 exact q;simp at l;rename_i D em bC g;let⟨_,E,m,b⟩:=aS f;simp only[eu,ax.aD,Option.some.injEq,gO]at m;let⟨_,m⟩:=m;let⟨hv,B⟩:=bg b;subst hv;subst B;subst m;rcases IV (sn:=[]) h u h1 n p hi g with⟨F,_⟩|⟨i,l,_,q⟩
 simp_all;have:i=0:=by simp at l;omega
 subst this;exact q;rename_i D em bC g;let⟨_,E,m,b⟩:=aS f;let⟨_,t⟩:=cN m;rw[t]at b;obtain⟨rfl,rfl⟩:=bg b;rcases IV (sn:=[0]) h u h1 n p hi g with⟨_,q⟩|⟨i,l,H,_⟩
 exact q;grind;simp[ax.aD]at f;simp[ax.aD]at d
def aj3(h:aY K β ω Z s a w){x:cF}{dst:Nat}{o:cS}(T:o.op=.entry x){v:SV}{s':St}(A:(cn af o.op dst).aD s=J (v,s')):cR K s' a dst ((execOp a.eval o).run K.P w) v:=by
 rw[T]at A;simp only[cn]at A;let⟨c,s1,h1,d⟩:=aS A;let⟨B,o1,V,H⟩:=gE h h1;rw[B]at d;unfold H9 at d;split at d;rename_i r j hv cv e k X;simp only[ax.aD]at d;let⟨_,s3,h3,g⟩:=aS d;let⟨⟨C,D,hi⟩,E⟩:=cN h3;rw[E]at g;split at g;rename_i e' em xs n rest F;let⟨_,s4,Y,p⟩:=aS g;let⟨⟨hn0,xM⟩,G⟩:=cN Y;rw[G]at p;obtain⟨rfl,rfl⟩:=bg p;let⟨_,b,m,es,cq,N,e1,f1,p1,p2,p3,z,R,p6,_⟩:=YC h V C D hi F;have S:xs.length=es.toList.length:=qg R;obtain⟨en,f⟩:∃en,es.toList[n.toNat]?=J en:=⟨_,eM (by omega)⟩;let⟨bC,g1,g2⟩:=rD R f;have hb:=z.born _ _ f;obtain⟨q,t⟩:∃q:bW Nat,N=q.push en.born:=by
  let⟨l⟩:=N;rcases List.eq_nil_or_concat l with rfl|⟨l0,y,rfl⟩
  simp[lT]at p6;refine⟨⟨l0⟩,?_⟩;simp_all [lT]
 rw[t,←p3]at p1;refine cR.same h (u:=.tuple #[en.key,en.val]) ?_ ⟨_,rfl,by rw[kU g1];exact YD (z.ok en (fK f)) g2⟩ λc hc=>YE hc;have hnd:(es.toList.map (·.born)).Nodup:=by rw[List.nodup_iff_pairwise_ne,List.pairwise_map,List.pairwise_iff_getElem];intro i j hi hj hij;rw[z.born i _ (eM hi),z.born j _ (eM hj)];omega
 grind [run_entry_at,execOp,dC,dF,fF];simp[ax.aD]at g;simp[ax.aD]at d
end
noncomputable section
def YF(R:M aO)(s s':St):Prop:=∀r∈R,s r=s' r
def xN{α:Type}(p:ax α):∀(s s':St)(a:α)(t:St),p.aD s=J (a,t)→YF (p.dk s).1 s s'→∃d,p.aD s'=J (a,d)∧p.dk s'=p.dk s∧(∀r∈(p.dk s).2,d r=t r)∧(∀r,r ∉ (p.dk s).2→d r=s' r∧t r=s r):=by
 induction p with
 |ret a=>simp_all [ax.aD,ax.dk]|ai=>simp_all [ax.aD]|aE r k e=>intro s s' a t h b;simp only[ax.aD]at h;have i:s r=s' r:=b r (by simp[ax.dk]);let⟨d,h1,h2,h3,g⟩:=e (s r) s s' a t h (λq f=>b q (by simp[ax.dk,f]));simp_all [ax.aD,ax.dk]
 |put r x k e=>intro s s' a t h b;simp only[ax.aD]at h;let⟨d,h1,h2,h3,g⟩:=e (s.set r x) (s'.set r x) a t h (λq f=>by by_cases c:q=r;subst c;simp[lR];rw[lS _ _ c,lS _ _ c];exact b q (by simp[ax.dk,f]));grind [ax.aD,ax.dk,lR,lS]
def indep(f g:M aO×M aO):az:=f.2.all (λr=> !ab4 g.1 r&& !ab4 g.2 r)&&g.2.all (λr=> !ab4 f.1 r)
def aj4{f g:M aO×M aO}(h:indep f g=W):(∀r∈f.2,r ∉ g.1∧r ∉ g.2)∧(∀r∈g.2,r ∉ f.1):=by grind [indep]
def aj5{α β:Type}{p:ax α}{q:ax β}{s c s2:St}{a:α}{b:β}(hp:p.aD s=J (a,c))(h:q.aD c=J (b,s2)) (hi:indep (p.dk s) (q.dk c)=W):∃t1,q.aD s=J (b,t1)∧p.aD t1=J (a,s2)∧q.dk s=q.dk c∧p.dk t1=p.dk s:=by
 let⟨h1,h2⟩:=aj4 hi;have i:=xN p s s a c hp (λ_ _=>rfl);have f:∀r,r ∉ (p.dk s).2→c r=s r:=λr d=>by grind
 have j:∀r,r ∉ (q.dk c).2→s2 r=c r:=λr d=>by let⟨n,e,_,_,k⟩:=xN q c c b s2 h (λ_ _=>rfl);exact(k r d).2
 let⟨t1,l,f1,o,k1⟩:=xN q c s b s2 h (λr d=>f r (λg=>(h1 r g).1 d));let⟨t2,m,f2,t,k2⟩:=xN p s t1 a c hp (λr d=>((k1 r (λg=>h2 r g d)).1).symm);refine⟨t1,l,?_,f1,f2⟩;rw[m];congr 2;funext r;by_cases u:r∈(p.dk s).2;grind;grind
def YG(o o':Oper):Q (U×U×U):=
 match o with
 | {op:=.lookup t (.tmp a) (.tmp b) I,dst:=J _,guard:=O, ..}=>match o' with| {op:=.mapEntry c (.tmp d) (.tmp e),dst:=J f,guard:=O, ..}=>if t=c∧a=d∧b=e then J (a,b,f)else O|_=>O
 |_=>O
def IW(ops:Array Oper)(i j:U)(f g:M aO×M aO):az:=
 match ops[i]?,ops[j]? with
 |some o,J c=>match YG o c with|some (a,b,d)=>f.2.all (λr=> !ab4 g.1 r&& !ab4 g.2 r)&&(!ab4 g.2 (.tmp a)&&(!ab4 g.2 (.tmp b)&& !ab4 f.1 (.tmp d)))|none=>I
 |_,_=>I
def IX{o:cF}{s s':St}{v:SV}(h:(ev o).aD s=J (v,s')):s'=s:=by
 cases o with
 |tmp t=>simp only[ev,ax.aD]at h;split at h;cases h;exact(bg h).2
 |const v=>simp only[ev]at h;split at h;split at h;exact(bg h).2;cases h;split at h;exact(bg h).2;cases h
 |func f=>exact(bg h).2|global g=>cases h
def IY{α d:Type}(p:ax α)(f:α→ax d):∀{s b:St}{x:α},p.aD s=J (x,b)→(p.bind f).dk s=((p.dk s).1++((f x).dk b).1,(p.dk s).2++((f x).dk b).2):=by
 induction p with
 |ret a=>intro s b x h;simp only[ax.aD,nU,gO]at h;obtain⟨rfl,rfl⟩:=h;rfl
 |ai=>intro s b x h;cases h
 |aE r k c=>intro s b x h;simp only[ax.bind,ax.dk];rw[c _ h];rfl
 |put r y k c=>intro s b x h;simp only[ax.bind,ax.dk];rw[c h];rfl
def YH{n:U}{kd z:M D}:∀{xs:M (M D)},eA n kd xs=O→Y kd=n→dG kd kd=W→eA n kd (xs++[kd++z])=J (Y xs)
 |[],_,hn,a=>by simp[eA,←hn,a]|x::xs,h,hn,a=>by
  simp only[eA]at h;split at h;cases h;rename_i b;have:eA n kd xs=O:=by simpa using h
  simp[eA,b,YH this hn a]
def IZ:∀{sh:M Sc}{ds:M D},cB sh ds=W→dG ds ds=W|[],[],_=>rfl|.int k::sh,.int k' n::ds,h=>by simp[cB]at h;simp[dG,jS,IZ h.2]|.bool::sh,.bool b::ds,h=>by simp[cB]at h;simp[dG,jS,IZ h]|.bh::sh,.bh s::ds,h=>by simp[cB]at h;simp[dG,jS,IZ h]
def aj6(a:U)(s:St):(ev (.tmp a)).aD s=match(s (.tmp a)).v with|.undef=>O|_=>J ((s (.tmp a)).gD (.tmp a),s):=by simp only[ev,ax.aD];cases(s (.tmp a)).v<;>rfl
def YI(a:U)(s:St):(ev (.tmp a)).dk s=([.tmp a],[]):=by simp only[ev,ax.dk];split<;>rfl
def YJ{v:SV}{c:C}{s s':St}(h:(zV v).aD s=J (c,s')):v=.one c∧s'=s:=by
 cases v with
 |one d=>obtain⟨rfl,rfl⟩:=bg h;exact⟨rfl,rfl⟩
 |_=>cases h
def aj7{af:bM}{t:bq}{c:C}{h y z:SV}{s v s2:St}(h1:(jt af t c h I).aD s=J (y,v))(h2:(xp af t c h).aD s=J (z,s2)):v=s∧∃r B,s2=s.set r B∧r∈((jt af t c h I).dk s).1∧((jt af t c h I).dk s).2=[]∧∀t1,t1 r=B→(jt af t c h I).aD t1=J (y,t1)∧(jt af t c h I).dk t1=(jt af t c h I).dk s:=by
 unfold jt at h1 ⊢;unfold xp at h2;cases D:jD af t with
 |none=>simp only[D]at h1;cases h1
 |some w=>
  let⟨kt,ki,ei⟩:=w;simp only[D]at h1 h2 ⊢;cases hk:rp af kt with
  |none=>simp only[hk]at h1;cases h1
  |some sh=>
   cases n:h.key with
   |none=>simp only[hk,n]at h1;cases h1
   |some kd=>
    cases E:ei.zero with
    |none=>simp only[hk,n,E]at h1;cases h1
    |some i=>
     simp only[hk,n,E]at h1 h2 ⊢;let⟨_,s3,H,h1⟩:=aS h1;let⟨hn,K⟩:=cN H;rw[K]at h1;let⟨_,s4,N,h2⟩:=aS h2;let⟨_,P⟩:=cN N;rw[P]at h2;cases c with
     |bj r j hv cv e k xs=>
      let⟨rows,s5,p,h1⟩:=aS h1;simp only[ng,ax.aD]at p;let⟨_,s6,R,p⟩:=aS p;let⟨f,S⟩:=cN R;rw[S]at p;simp only[ax.aD]at h2;let⟨_,s7,T,h2⟩:=aS h2;let⟨V,X⟩:=cN T;rw[X]at h2;cases b:(s r).at j with
      |ak Y ys=>simp only[b]at p h2;let⟨o,Z⟩:=bg p;subst o;rw[Z]at h1;let⟨_,s8,g8,h1⟩:=aS h1;let⟨d,e8⟩:=cN g8;rw[e8]at h1;let⟨_,s9,g9,h2⟩:=aS h2;let⟨_,e9⟩:=cN g9;rw[e9]at h2;let⟨_,s10,g,h2⟩:=aS h2;simp only[eu,ax.aD,nU,gO]at g;let⟨_,g⟩:=g;let⟨_,x⟩:=bg h2;have key:∀a,(a=rows∨eA ki.size kd rows=O∧a=rows++[kd++i])→lm sh ki.size a=W∧iR ki.size a i (eA ki.size kd a)=iR ki.size rows i (eA ki.size kd rows):=(by rintro a (rfl|⟨F,rfl⟩);exact⟨d,rfl⟩;rw[YH F hn.2.1 (IZ hn.1),F];refine⟨?_,?_⟩;simp only[lm,List.all_append,nR,List.all_nil,Bool.and_true,ck]at d ⊢;refine⟨d,?_⟩;rw[←hn.2.1,List.take_left];exact hn.1;simp only[iR,jP];rw[Co (dR _)];simp[←hn.2.1]);have he:v=s:=(by unfold p5 at h1;split at h1;exact(bg h1).2;split at h1;exact(bg h1).2;cases h1);refine⟨he,r,_,by rw[x,←g],?_,?_,λt1 G=>?_⟩;simp[bind,bS,hn,ax.bind,ng,ax.dk];simp only[bind,bS,hn,ax.bind,ng,ax.dk,f,b,d,bI,and_self];unfold p5;split;rfl;split<;>rfl;have l:=key (if(eA ki.size kd rows).isSome=W then rows else rows++[kd++i]) (by split;exact .inl rfl;rename_i A;exact .inr ⟨by simpa using A,rfl⟩);have m:(t1 r).at j=.ak Y (if(eA ki.size kd rows).isSome=W then rows else rows++[kd++i]):=(by rw[G];refine uO ?_;simp only[rA];have:=jc b (by simp);rw[List.getElem?_set_self (iO.1 this).1]);have q:(t1 r).hv=hv:=(by rw[G];exact f.1);have u:(p5 ei.kind.agg (iR ki.size rows i (eA ki.size kd rows))).aD t1=J (y,t1)∧(p5 ei.kind.agg (iR ki.size rows i (eA ki.size kd rows))).dk t1=(p5 ei.kind.agg (iR ki.size rows i (eA ki.size kd rows))).dk s:=(by unfold p5 at h1 ⊢;split at h1;obtain⟨rfl,_⟩:=bg h1;exact⟨rfl,rfl⟩;split at h1;obtain⟨rfl,_⟩:=bg h1;exact⟨rfl,rfl⟩;cases h1);constructor;simp only[bind,bS,hn,ax.bind,ng,ax.aD,q,f,m,l,bI,and_self];exact u.1;simp only[bind,bS,hn,ax.bind,ng,ax.dk,q,f,b,m,l,d,bI,and_self];rw[u.2]
      |_=>simp only[b]at h2;cases h2
     |_=>cases h2
abbrev FP:=U→M aO×M aO
def hM(af:bM)(ops:Array Oper)(i:U):ax bV:=
 match ops[i]? with|some o=>ni af ops o|none=>.ret ()
def aj8{af:bM}{ops:Array Oper}{i j:U}{s h s2:St}(h1:(hM af ops i).aD s=J ((),h))(h2:(hM af ops j).aD h=J ((),s2)) (k:IW ops i j ((hM af ops i).dk s) ((hM af ops j).dk h)=W):∃t1,(hM af ops j).aD s=J ((),t1)∧(hM af ops i).aD t1=J ((),s2)∧(hM af ops j).dk s=(hM af ops j).dk h∧(hM af ops i).dk t1=(hM af ops i).dk s:=by
 unfold IW at k;split at k;rename_i o o' ho G;split at k;rename_i a b d' f;unfold YG at f;split at f;split at f;split at f;rename_i heq;obtain⟨rfl,rfl,rfl⟩:=heq;cases f;rename_i d t _ _ _ _ _ _ _;simp only[ck,gy,lQ,List.contains_eq_mem,decide_eq_false_iff_not]at k;let⟨D,ha,hb,hd⟩:=k;have H:YF ((hM af ops j).dk h).1 h s:=λr K=>by have hl:=xN (hM af ops i) s s () h h1 (λ_ _=>rfl);let⟨t',e,_,_,h4⟩:=hl;exact(h4 r (λhm=>(D r hm).1 K)).2
 let⟨t1,N,q2,q3,l⟩:=xN (hM af ops j) h s () s2 h2 H;refine⟨t1,N,?_⟩;let⟨_,_,_,_,k4⟩:=xN (hM af ops i) s s () h h1 (λ_ _=>rfl);have P:t1 (.tmp a)=s (.tmp a):=(l _ ha).1;have R:t1 (.tmp b)=s (.tmp b):=(l _ hb).1;simp only[hM,ho,G,ni,mx,cn]at h1 N D hd ha hb q2 q3 l k4 ⊢;let⟨y,u1,g1,S⟩:=aS h1;let⟨c,u2,g3,g4⟩:=aS g1;let⟨c0,u3,T,g6⟩:=aS g3;let⟨m,e3⟩:=YJ g6;have e4:=IX T;rw[e3,e4]at g4;let⟨v,u4,V,X⟩:=aS g4;have e5:=IX V;rw[e5]at X;let⟨z,w1,l1,l2⟩:=aS N;let⟨c',w2,l3,l4⟩:=aS l1;let⟨Y,w3,E,l6⟩:=aS l3;let⟨g,m3⟩:=YJ l6;have m4:=IX E;rw[m3,m4]at l4;let⟨v',w4,F,Z⟩:=aS l4;have m5:=IX F;rw[m5]at Z;have hcs:Y=c0:=by rw[T]at E;simp only[nU,gO]at E;exact E.1.symm
 have hvs:v'=v:=by rw[V]at F;simp only[nU,gO]at F;exact F.1.symm
 rw[hcs]at g;have Pz:c'=c:=by rw[m]at g;simpa using g.symm
 rw[Pz,hvs]at Z;let⟨e6,r,xr,e7,K,hr2,n⟩:=aj7 X Z;rw[e6]at S;simp only[kh,ax.aD]at S l2;let⟨_,u5,n1,n2⟩:=aS S;let⟨u,n3⟩:=cN n1;rw[n3]at n2;simp only[eu,ax.aD,nU,gO,true_and]at n2;let⟨_,u6,p1,p2⟩:=aS l2;let⟨_,p3⟩:=cN p1;rw[p3]at p2;simp only[eu,ax.aD,nU,gO,true_and]at p2;have F1:∀s':St,(ev (.tmp a)).aD s'=J (c0,s')→(ev (.tmp b)).aD s'=J (v,s')→(jt af t c v I).aD s'=J (y,s')→(do let v ←(do let c ←ed (.tmp a);let v ←ev (.tmp b);jt af t c v I);kh af d v:ax bV).dk s'=([.tmp a]++[]++([.tmp b]++((jt af t c v I).dk s').1)++[.tmp d],[]++[]++([]++((jt af t c v I).dk s').2)++[.tmp d])∧(do let v ←(do let c ←ed (.tmp a);let v ←ev (.tmp b);jt af t c v I);kh af d v:ax bV).aD s'=J ((),s'.set (.tmp d) {hv:=(s' (.tmp d)).hv+1,cv:=(s' (.tmp d)).cv,v:=y}):=by
  intro s' x1 x2 x3;have z1:(ed (.tmp a)).aD s'=J (c,s'):=by unfold ed;show(ax.bind _ _).aD s'=_;rw[CV,x1,m];rfl
  have z1f:(ed (.tmp a)).dk s'=([.tmp a]++[],[]++[]):=by unfold ed;show(ax.bind _ _).dk s'=_;rw[IY _ _ x1,YI,m];rfl
  have z2:(do let c ←ed (.tmp a);let v ←ev (.tmp b);jt af t c v I:ax SV).aD s'=J (y,s'):=by show(ax.bind _ λc=>ax.bind _ λv=>_).aD s'=_;rw[CV,z1];show(ax.bind _ _).aD s'=_;rw[CV,x2];exact x3
  have z2f:(do let c ←ed (.tmp a);let v ←ev (.tmp b);jt af t c v I:ax SV).dk s'=([.tmp a]++[]++([.tmp b]++((jt af t c v I).dk s').1),[]++[]++([]++((jt af t c v I).dk s').2)):=by show(ax.bind _ λc=>ax.bind _ λv=>_).dk s'=_;rw[IY _ _ z1,IY _ _ x2,z1f,YI]
  have z3:(kh af d y).dk s'=([.tmp d],[.tmp d]):=by simp only[kh,ax.dk,bS,u,bI,bind,ax.bind,eu]
  have z4:(kh af d y).aD s'=J ((),s'.set (.tmp d) {hv:=(s' (.tmp d)).hv+1,cv:=(s' (.tmp d)).cv,v:=y}):=by simp only[kh,ax.aD,bS,u,bI,bind,ax.bind,eu]
  constructor;show(ax.bind _ _).dk s'=_;rw[IY _ _ z2,z2f,z3];show(ax.bind _ _).aD s'=_;rw[CV,z2];exact z4
 have y1:(ev (.tmp a)).aD s=J (c0,s):=by rw[T,e4]
 have y2:(ev (.tmp b)).aD s=J (v,s):=by rw[V,e5]
 have y3:(jt af t c v I).aD s=J (y,s):=by rw[X,e6]
 let⟨f1,f2⟩:=F1 s y1 y2 y3;have w:∀(x:U),t1 (.tmp x)=s (.tmp x)→∀q,(ev (.tmp x)).aD s=J (q,s)→(ev (.tmp x)).aD t1=J (q,t1):=λx A q B=>by rw[aj6]at B ⊢;rw[A];split at B;cases B;simp only[nU,gO]at B;rw[B.1]
 have htr:t1 r=xr:=by rw[←p2,e7];rw[lS _ _ (λe=>?_),lR];rw[f1]at hd;refine hd ?_;rw[←e];simp[K]
 let⟨y3',f3⟩:=n t1 htr;let⟨f4,f5⟩:=F1 t1 (w a P c0 y1) (w b R v y2) y3';have C:aO.tmp d∈(ax.dk (do let v ←(do let c ←ed (.tmp a);let v ←ev (.tmp b);jt af t c v I);kh af d v:ax bV) s).2:=by rw[f1];simp
 refine⟨?_,q2,by rw[f4,f1,f3]⟩;rw[f5];congr 2;funext x;by_cases A:x=.tmp d;subst A;rw[lR,(l _ (D _ C).2).1,(l _ (D _ C).2).2,←n2,lR];rw[lS _ _ A];by_cases p:x∈(ax.dk (do let v ←(do let c ←ed (.tmp a);let v ←ev (.tmp b);xp af t c v);kh af d' v:ax bV) h).2;exact q3 x p;rw[(l x p).1,(l x p).2];rw[←n2,lS _ _ A];cases f;cases f;cases f;cases k;cases k
def apart(ops:Array Oper)(f g:M aO×M aO)(i j:U):az:=indep f g||IW ops i j f g
def aj9{af:bM}{ops:Array Oper}{i j:U}{s a s2:St}(h1:(hM af ops i).aD s=J ((),a))(h2:(hM af ops j).aD a=J ((),s2)) (b:apart ops ((hM af ops i).dk s) ((hM af ops j).dk a) i j=W):∃t1,(hM af ops j).aD s=J ((),t1)∧(hM af ops i).aD t1=J ((),s2)∧(hM af ops j).dk s=(hM af ops j).dk a∧(hM af ops i).dk t1=(hM af ops i).dk s:=by
 unfold apart at b;rw[qY]at b;rcases b with h|h
 exact aj5 h1 h2 h;exact aj8 h1 h2 h
def rG(af:bM)(ops:Array Oper)(fp:FP):M U→St→St→Prop|[],s,s'=>s=s'|i::r,s,s'=>∃a,(hM af ops i).aD s=J ((),a)∧(hM af ops i).dk s=fp i∧rG af ops fp r a s'
variable{af:bM}{ops:Array Oper}{fp:FP}
def rG.front{i:U}{B:M U}:∀{A:M U}{s s':St},rG af ops fp (A++i::B) s s'→(∀a∈A,apart ops (fp a) (fp i) a i=W)→rG af ops fp (i::(A++B)) s s':=by
 intro A;induction A with
 |nil=>intro s s' h _;exact h
 |cons a A b=>intro s s' h c;let⟨n,d,f1,h1⟩:=h;let⟨e,f,f2,h2⟩:=b h1 (λx g=>c x (i7 _ g));let⟨t1,j,k,l,m⟩:=aj9 d f (by grind);exact⟨t1,j,ab0 l f2,e,k,ab0 m f1,h2⟩
def I0:M Oper→M (M U)→M (M U)|[],acc=>acc|o::r,acc=>I0 r (acc++[(((T o.after).filter (Cp .any)).flatMap λe=>e.on::H acc e.on []).eraseDups])
def I1(ops:Array Oper):M (M U):=I0 (T ops) []
def Ps(ops:Array Oper)(a:U→az):Prop:=∀(i:U)(o:Oper),ops[i]?=J o→a i=W→∀e∈o.after,Cp .any e=W→a e.on=W
def aka(ops:Array Oper)(a:U→az)(z:Ps ops a):∀(l:M Oper)(acc:M (M U)),(∀(k:U),k<l.length→ops[acc.length+k]?=l[k]?)→(∀(i:U)(o:Oper),i<acc.length→ops[i]?=J o→(∀e∈o.after,Cp .any e=W→a e.on=W)→∀x∈acc.getD i [],a x=W)→∀(i:U)(o:Oper),i<acc.length+l.length→ops[i]?=J o→(∀e∈o.after,Cp .any e=W→a e.on=W)→∀x∈(I0 l acc).getD i [],a x=W:=by
 intro l;induction l with
 |nil=>intro acc _ h i o hi A m x g;exact h i o (by simpa using hi) A m x g
 |cons o l B=>
  intro acc b c i C hi n m x g;simp only[I0]at g;refine B _ ?_ ?_ i C (by simp at hi ⊢;omega) n m x g;intro k hk;have:=b (k+1) (by simp;omega);grind;intro j F D p q y hy;by_cases r:j<acc.length;rw[jP,pS r,←jP]at hy;grind;have s:j=acc.length:=by simp at D;omega
  subst s;have t:=b 0 (by simp);simp only[Nat.add_zero,iA]at t;rw[p]at t;cases t;simp only[jP,Co (dR _),Nat.sub_self,iA,fL,List.mem_eraseDups,List.mem_flatMap,List.mem_filter]at hy;let⟨e,⟨u,E⟩,hy⟩:=hy;have d:a e.on=W:=q e (by simpa using u) E;rcases jQ.1 hy with rfl|hy
  exact d;by_cases v:e.on<acc.length;have w:e.on<ops.size:=by grind
  have f:ops[e.on]?=J ops[e.on]:=Array.getElem?_eq_getElem w;exact c e.on _ v f (z e.on _ f d) y hy;grind
def akb{a:U→az}(b:Ps ops a){i:U}{o:Oper}(c:ops[i]?=J o)(d:∀e∈o.after,Cp .any e=W→a e.on=W):∀x∈H (I1 ops) i [],a x=W:=aka ops a b (T ops) [] (by simp) (by simp) i o (by grind) c d
def sU(af:bM)(ops:Array Oper):M Oper→St→Q (M (M aO×M aO))
 |[],_=>J []|o::r,s=>match(ni af ops o).aD s with
  |some (_,s')=>match sU af ops r s' with|some l=>J ((ni af ops o).dk s::l)|none=>O
  |none=>O
def xO(ops:Array Oper)(a:M (M aO×M aO))(b:M (M U)):az:=(iz (Y a)).all λj=>(iz j).all λi=>ab4 (H b j []) i||apart ops (H a i ([],[])) (H a j ([],[])) i j
def Pt(af:bM)(ops:Array Oper)(s:St):az:=
 match sU af ops (T ops) s with|some a=>xO ops a (I1 ops)|none=>I
def akc{a:M (M aO×M aO)}{b:M (M U)}(h:xO ops a b=W){i j:U}(c:i<j)(d:j<Y a)(hn:i ∉ H b j []):apart ops (H a i ([],[])) (H a j ([],[])) i j=W:=by grind [xO]
def akd:∀(l:M Oper)(k:U)(s s':St)(a:M (M aO×M aO))(pre:M (M aO×M aO)),(∀i,i<Y l→ops[k+i]?=l[i]?)→Y pre=k→ru af ops l s=J s'→sU af ops l s=J a→rG af ops (λi=>H (pre++a) i ([],[])) (List.range' k (Y l)) s s'∧Y a=Y l:=by
 intro l;induction l with
 |nil=>intro k s s' a pre _ _ h b;simp[ru]at h;simp[sU]at b;subst b;simp[rG,h]
 |cons o l m=>
  intro k s s' a pre c e h b;simp only[ru]at h;simp only[sU]at b;cases g:(ni af ops o).aD s with
  |none=>simp[g]at h|some x=>
   let⟨⟨⟩,j⟩:=x;simp only[g]at h b;cases d:sU af ops l j with|none=>simp[d]at b|some fl=>simp only[d,nU]at b;subst b;let⟨n,f⟩:=m (k+1) j s' fl (pre++[(ni af ops o).dk s]) (λi hi=>by have:=c (i+1) (by simp;omega);grind) (by simp[e]) h d;have p:ops[k]?=J o:=(by have:=c 0 (by simp);simpa using this);refine⟨?_,by simp[f]⟩;simp only[kO,List.range'_succ,rG];simp_all [hM]
def ake{P:ew}{Q:Exit→Act→bZ→Prop}{s':St}(gG:St→Act→bZ→Prop) (l:∀(i:U)(o:Oper)(s r:St)(a:Act)(w:bZ)(K:Act→bZ→Prop),ops[i]?=J o→(ni af ops o).aD s=J ((),r)→gG s a w→(∀C w',gG r C w'→K C w')→wpOp P ops Q i K a w) (t:∀a w,gG s' a w→Q .normal a w) (G:∀i j,i<j→j<ops.size→i ∉ (I1 ops).getD j []→apart ops (fp i) (fp j) i j=W) (D:∀(i:U)(o:Oper),ops[i]?=J o→∀e∈o.after,Cp .any e=W→e.on<i):
  ∀(fuel:U)(R:M U)(listed:Array az)(s:St)(a:Act)(w:bZ),R.length=fuel→listed.size=ops.size→R.Pairwise (·< ·)→
   (∀i,i∈R↔(i<ops.size∧listed.getD i W=I))→Ps ops (λi=>listed.getD i I)→
   rG af ops fp R s s'→gG s a w→wpAny P .any ops Q fuel listed a w:=by
 intro fuel
 induction fuel with
 |zero=>intro R listed s a w E _ _ b _ c H;have:R=[]:=List.length_eq_zero_iff.1 E;subst this;simp only[rG]at c;subst c;refine⟨?_,t a w H⟩;apply List.eq_nil_iff_forall_not_mem.2;grind [mem_ready]
 |succ fuel ih=>
  intro R listed s a w E N d b u c H;constructor;intro hnil;exfalso;cases R with|nil=>simp at E|cons k R=>let⟨S,T⟩:=(b k).1 (lf ..);have q:ops[k]?=J ops[k]:=Array.getElem?_eq_getElem S;have:k∈Region.ready .any ops listed:=mem_ready.2 ⟨T,_,q,λe he hb=>by grind [Cq]⟩;grind
  intro i hi;let⟨V,o,q,X⟩:=mem_ready.1 hi;have v:i<ops.size:=(Array.getElem?_eq_some_iff.1 q).1;have Y:i∈R:=(b i).2 ⟨v,V⟩;obtain⟨A,B,rfl⟩:=List.append_of_mem Y;have F:=List.pairwise_append.1 d;have hanc:=akb u q X;have f:=rG.front c (λx y=>by grind);let⟨r,e1,_,m⟩:=f;simp only[hM,q]at e1;refine l i o s r a w _ q e1 H (λC w' Z=>?_);have g:(A++B).Sublist (A++i::B):=List.Sublist.append_left (List.sublist_cons_self _ _) _;have n:i ∉ A++B:=by grind [Cq]
  refine ih (A++B) (listed.setIfInBounds i W) r C w' (by simp at E ⊢;omega) (by simpa using N) (d.sublist g) ?_ ?_ m Z;intro x;constructor;intro y;have p:x≠i:=λh=>n (h▸y);let⟨h1,h2⟩:=(b x).1 (g.mem y);exact⟨h1,by rw[getD_set_ne _ (Ne.symm p)];exact h2⟩;rintro ⟨h1,h2⟩;have p:x≠i:=by rintro rfl;simp_all
  rw[getD_set_ne _ (Ne.symm p)]at h2;grind;intro x ox hox y e he hb;by_cases hxi:x=i;grind [getD_set_true];have z:(listed.setIfInBounds i W).getD x I=W:=y;rw[getD_set_ne _ (Ne.symm hxi)]at z;exact getD_set_true (u x ox hox z e he hb)
end
def qi:C→az|.d _|.ak _ _|.aW _ _|.dj _ _=>W|_=>I
def lw(v:SV):az:=v.cells.all qi
def YK{ks:M aC}{c c':C}{s s':St}(a:(canon ks c).aD s=J (c',s')):qi c'=W:=by unfold canon at a;split at a;obtain⟨rfl,_⟩:=bg a;rfl;simp only[ax.aD]at a;let⟨_,b,h1,a⟩:=aS a;split at a;let⟨_,d,h2,a⟩:=aS a;obtain⟨rfl,_⟩:=bg a;rfl;obtain⟨rfl,_⟩:=bg a;rfl;simp[ax.aD]at a;obtain⟨rfl,_⟩:=bg a;rfl;obtain⟨rfl,_⟩:=bg a;rfl;simp[ax.aD]at a
def YL{ks:M aC}:∀{cs cs':M C}{s s':St},(sJ ks cs).aD s=J (cs',s')→cs'.all qi=W
 |[],_,_,_,a=>by obtain⟨rfl,_⟩:=bg a;rfl
 |c::cs,cs',s,s',a=>by simp only[sJ]at a;let⟨c1,d,h1,a⟩:=aS a;let⟨b,e,h2,a⟩:=aS a;obtain⟨rfl,_⟩:=bg a;simp only[nR,ck];exact⟨YK h1,YL h2⟩
def YM{ks:M aC}:∀{vs b:M SV}{s s':St},(uF ks vs).aD s=J (b,s')→b.all lw=W
 |[],_,_,_,a=>by obtain⟨rfl,_⟩:=bg a;rfl
 |v::vs,b,s,s',a=>by
  simp only[uF]at a;let⟨v1,g,h1,a⟩:=aS a;let⟨e,h,h2,a⟩:=aS a;obtain⟨rfl,_⟩:=bg a;simp only[nR,ck];refine⟨?_,YM h2⟩;cases v with
  |one c=>simp only[n5]at h1;let⟨c1,f,h3,d⟩:=aS h1;obtain⟨rfl,_⟩:=bg d;simp[lw,SV.cells,YK h3]
  |agg cs=>simp only[n5]at h1;let⟨c1,f,h3,d⟩:=aS h1;obtain⟨rfl,_⟩:=bg d;exact YL h3
  |_=>simp[n5,ax.aD]at h1
def lx(P:ew)(f:dT)(F:rj):Prop:=∀(args:M SV)(aI:M (M C))(r:ri),F args aI=J r→∀(w:World)(vals:bW aJ)(β:aC→Option Nat)(ω:Nat→Option cT)(Z:Nat→Prop),vals.size=Y args→args.all lw=W→aI.all (λb=>b.all (jE (Y aI)))=W→aY (cY P 0 w vals β ω Z) β ω Z (dm args aI) {tmps:=#[],defers:=[]} w→((callFunc f vals).run P w=.ok (.enter f vals) w∧ez P f vals w λe w'=>∃v a ω' Z',e=.returned v∧aY (cY P 1 w vals β ω Z) a ω' Z' (fa args r) {tmps:=#[v],defers:=[]} w')∨∃v w' a ω' Z',(callFunc f vals).run P w=.ok (.value v) w'∧aY (cY P 1 w vals β ω Z) a ω' Z' (fa args r) {tmps:=#[v],defers:=[]} w'
structure nn(P:Program)(af:bM):Prop where
 Ap:ip P af
 calls:∀t f F,af.Γ t f=some F→lx P f F
section
variable{K:dh}{β:aC→Option Nat}{ω:Nat→Option cT}{Z:Nat→Prop}{s:St}{a:Act}{w:World}{af:bM}
def ae(K:dh)(s':St)(a:Act)(w:World)(dst:Nat)(r:Result Next)(v:SV):Prop:=cR K s' a dst r v∨∃f args,r=.ok (.enter f args) w∧ez K.P f args w λe w'=>∃u b ω' Z',e=.returned u∧aY K b ω' Z' s' a w'∧jv K b ω' Z' s' a w' (.tmp dst) u v
def akf(h:aY K β ω Z s a w){o:cF}{f:dT}{caps:M SV}{s':St}(e:(Ib o).aD s=J ((f,caps),s')):s'=s∧∃vs:bW aJ,a.eval o=.func (.func f) #[] vs∧aQ (oi K β Z s a w) (T vs) caps:=by
 unfold Ib at e;split at e;let⟨g,i⟩:=bg e;cases g;exact⟨i, #[],rfl,trivial⟩;let⟨c,x,h1,d⟩:=aS e;let⟨j,y,m,k⟩:=gE h h1;rw[j]at d;split at d;rename_i z cs;let⟨g,i⟩:=bg d;cases g;let⟨vs,n,q⟩:=m;refine⟨i,vs,n,?_⟩;have key:∀(us:M aJ)(cs:M (aC×Nat)),aQ (λu(p:aC×Nat)=>∃b,β p.1=J b∧u=.pointer (J ⟨b,p.2,O⟩)) us cs→aQ (oi K β Z s a w) us (cs.map λp=>.one (.aW p.1 p.2)):=by
  intro us;induction us with
  |nil=>intro cs h;cases cs with|nil=>trivial|cons _ _=>exact ab1 h
  |cons u us r=>
   intro cs h;cases cs with|nil=>exact ab1 h|cons p cs=>let⟨⟨b,t,l⟩,v⟩:=h;exact⟨⟨⟨by rw[l];rfl,b,t,l⟩,by simp[SV.cells,cQ],by simp⟩,r cs v⟩
 exact key _ _ q;simp[ax.aD]at d
def akg(hC:nn K.P af)(h:aY K β ω Z s a w){co:cF}{args:bW cF}{R:bW bq}{dst:Nat}{o:cS}(ho:o.op=.call {callee:=.value co,args,argTypes:=R}){v:SV}{s':St}(S:(cn af o.op dst).aD s=J (v,s')):ae K s' a w dst ((execOp a.eval o).run K.P w) v:=by
 rw[ho]at S;simp only[cn]at S;let⟨⟨f,caps⟩,s1,h1,p⟩:=aS S;let⟨T,cv,V,q⟩:=akf h h1;simp only at p;rw[T]at p;let⟨vs,s2,h2,d⟩:=aS p;let⟨X,Y,x⟩:=Pd h _ h2;rw[X]at d;have t:aQ (oi K β Z s a w) (args.toList.map a.eval++cv.toList) (vs++caps):=by refine aQ.append ?_ q;exact Y.kS λu v hv hr=>⟨hr,x v hv⟩
 unfold Ia at d;split at d;simp[ax.aD]at d;rename_i F hF;let⟨y,s3,h3,z⟩:=aS d;let⟨Ir,Z1,r1,k1,p1⟩:=ajF (af:=af) _ _ ω Z s s3 y h t h3;simp only at z;let⟨more,s3',h3',g⟩:=aS z;have A:=ajI _ _ _ h3';rw[A]at g;generalize hkk:nh (iB (y.flatMap SV.cells)++more)=kk at g;have m:kk.Nodup:=by rw[←hkk];exact An _
 let⟨c,s4,h4,B⟩:=aS g;let⟨hs4,n⟩:=ajH _ _ s4 c r1 p1 (λk hk=>by grind [Yb]) h4;rw[hs4]at B;let⟨N,s5,h5,l⟩:=aS B;let⟨hs5,Ao,C⟩:=Yf _ s5 N h5;rw[hs5]at l;split at l;simp[ax.aD]at l;rename_i r hr;let⟨_,s6,h6,D⟩:=aS l;let⟨⟨E,G⟩,Pc⟩:=cN h6;rw[Pc]at D;let⟨_,s7,h7,IK⟩:=aS D;let⟨_,s8,h8,Pj⟩:=aS IK;have H:=ajK r1 m n Ao C;have hsz:(abf (args.toList.map a.eval++cv.toList)).size=c.length:=by grind [aQ.length]
 have j:(execOp a.eval o).run K.P w=(callFunc f (abf (args.toList.map a.eval++cv.toList))).run K.P w:=by
  have e1:args.map a.eval++cv=abf (args.toList.map a.eval++cv.toList):=by grind
  simp[execOp,ho,resolve,V,Deferred.ofValue,invoke,e1]
 have hpl:N.all (λb=>b.all (jE N.length))=W:=by rw[gy];intro b hb;let⟨i,hi⟩:=nO hb;let⟨cs,g1,_,g3⟩:=C i _ (eM (by grind));simp_all [Yj]
 rcases hC.calls _ f F hF c N r hr w _ _ _ _ hsz (YM h4) hpl H with⟨q1,q2⟩|⟨u,w',β',ω',Z',q1,q2⟩
 refine .inr ⟨f,_,by rw[j,q1],q2.mono λe w'⟨u,β',ω',Z',g1,g2⟩=>?_⟩;grind [Yr];let⟨β2,YN,g3,g4⟩:=Yr r1 m n q2 (λi k hi=>by grind) G E h7 h8 Pj;exact .inl ⟨u,w',β2,YN,Z',by rw[j,q1],g3,g4⟩
def aki(g:nn K.P af)(h:aY K β ω Z s a w){dst:Nat}{o:cS}{v:SV}{s':St}(d:(cn af o.op dst).aD s=J (v,s')):ae K s' a w dst ((execOp a.eval o).run K.P w) v:=by
 have hT:=g.Ap;cases e:o.op with
 |move x=>exact .inl (ai4 h e d)|assign x=>exact .inl (ai5 h e d)|pick c x y=>exact .inl (ai6 h e d)|alloc t=>exact .inl (ajg hT h e d)|box t x=>exact .inl (ajh h e d)|build t ps=>exact .inl (ajj hT h e d)|buildSlice t n ps=>exact .inl (ajl hT h e d)|load t x=>exact .inl (ai8 hT h e d)|nilCheck x=>exact .inl (ai7 h e d)|binOp op t x y q=>exact .inl (ais hT h e d)|unOp op t x=>exact .inl (aiv h e d)|convert a b x=>exact .inl (ajC hT h e d)|makeFunc fn first captured=>
  cases fn with|func f=>exact .inl (aje h e d)|_=>rw[e]at d;simp[cn,ax.aD]at d
 |makeSlice t l c=>exact .inl (ajm hT h e d)|slice t x lo hi j=>
  cases j with|none=>exact .inl (aix hT h e d)|some m=>rw[e]at d;simp[cn,ax.aD]at d
 |fieldAddr t x f=>exact .inl (ai9 hT h e d)|field t x f=>exact .inl (ajb hT h e d)|indexAddr t x i=>exact .inl (aja hT h e d)|index t x i=>exact .inl (ajc hT h e d)|extract x n=>exact .inl (ajf h e d)|makeMap t r=>
  cases r with|none=>exact .inl (aiJ hT h e d)|some r=>rw[e]at d;simp[cn,ax.aD]at d
 |lookup t x u ok=>exact .inl (aiK hT h e d)|range t x=>exact .inl (ajY hT h e d)|next x b=>
  cases b with|false=>exact .inl (aj2 h e d)|true=>rw[e]at d;simp[cn,ax.aD]at d
 |entry x=>exact .inl (aj3 h e d)|mapEntry t m k=>exact .inl (aiW hT h e d)|call c=>
  let⟨callee,args,p⟩:=c;cases callee with
  |value co=>exact akg g h e d|invoke r m=>rw[e]at d;simp[cn,ax.aD]at d|builtin b=>
   cases b with|len=>exact .inl (ajd hT h e d)|append=>exact .inl (ajs hT h e d)|cap=>exact .inl (ajq hT h e d)|min=>exact .inl (XP (b:=W) h e (by rw[e]at d;exact d))|max=>exact .inl (XP (b:=I) h e (by rw[e]at d;exact d))|_=>rw[e]at d;simp[cn,ax.aD]at d
 |_=>rw[e]at d;simp[cn,ax.aD]at d
def gG(K:dh)(s:St)(a:Act)(w:World):Prop:=∃β ω Z,aY K β ω Z s a w
theorem I2(e:K.N=af.N)(h:aY K β ω Z s a w){t:Nat}{u:aJ}{v:SV}(hp:jv K β ω Z s a w (.tmp t) u v){y:bV}{s':St}(d:(kh af t v).aD s=J (y,s')):gG K s' (a.put (J t) u) w:=by simp only[kh,ax.aD]at d;let⟨_,f,h1,b⟩:=aS d;let⟨g,c⟩:=cN h1;rw[c]at b;simp only[eu,ax.aD,Option.some.injEq,gO]at b;obtain⟨_,rfl⟩:=b;exact⟨β,ω,Z,h.ah8 (by omega) hp⟩
def YO(hT:ip K.P af)(h:aY K β ω Z s a w){t:bq}{m k x:cF}{y:bV}{s':St} (q:(do let c ←ed m;let i ←ev k;let vx ←ev x;xo af t c i vx:ax bV).aD s=J (y,s')):∃w' e ω' Z',(Instr.mapUpdate t (a.eval m) (a.eval k) (a.eval x)).run K.P w=.ok () w'∧aY K e ω' Z' s' a w':=by let⟨c,A,h1,b⟩:=aS q;let⟨f,B,C,j⟩:=gE h h1;rw[f]at b;let⟨i,D,h2,d⟩:=aS b;let⟨g,r,l,n⟩:=iU h h2;rw[g]at d;let⟨vx,E,h3,u⟩:=aS d;let⟨v,z,o,p⟩:=iU h h3;grind [aiN]
theorem YP(A:nn K.P af)(hN:K.N=af.N)(h:aY K β ω Z s a w){o:cS}{y:bV}{s':St}(l:(mx af o).aD s=J (y,s')){Q:Exit→Act→World→Prop}{next:Act→World→Prop}(E:∀V w',gG K s' V w'→next V w'):o.wp K.P a w next Q:=by
 unfold mx at l;split at l;rename_i t ad x q hd;split at l;rename_i i F;let⟨c,X,h1,g⟩:=aS l;let⟨r,o1,G,B⟩:=gE h h1;rw[r]at g;let⟨v,s2,h2,j⟩:=aS g;let⟨z,hv,H,hnu⟩:=iU h h2;rw[z]at j;let⟨w',e,ω',Z',n,p⟩:=aie h (A.Ap.T _ _ F) G hv H j;have b:(execOp a.eval o).run K.P w=.ok .skip w':=by simp[execOp,q,n]
 rw[HD,b,N5,hd];exact E _ _ ⟨e,ω',Z',p⟩;simp[ax.aD]at l;rename_i t m k x q hd;let⟨w',e,ω',Z',n,p⟩:=YO A.Ap h l;have b:(execOp a.eval o).run K.P w=.ok .skip w':=by simp[execOp,q,n]
 rw[HD,b,N5,hd];exact E _ _ ⟨e,ω',Z',p⟩;rename_i t m k x q hd;let⟨w',e,ω',Z',n,p⟩:=YO A.Ap h l;have b:(execOp a.eval o).run K.P w=.ok .skip w':=by simp[execOp,q,n]
 rw[HD,b,N5,hd];exact E _ _ ⟨e,ω',Z',p⟩;rename_i t m st x q hd;let⟨c,X,h1,g⟩:=aS l;let⟨r,o1,G,B⟩:=gE h h1;rw[r]at g;let⟨cs,s2,h2,j⟩:=aS g;let⟨z,o2,r2,Y⟩:=gE h h2;rw[z]at j;let⟨vx,s3,h3,C⟩:=aS j;let⟨R,S,D,hnux⟩:=iU h h3;rw[R]at C;let⟨w',e,ω',Z',n,p⟩:=ai1 A.Ap h G r2 S D C;have b:(execOp a.eval o).run K.P w=.ok .skip w':=by simp[execOp,q,n]
 rw[HD,b,N5,hd];exact E _ _ ⟨e,ω',Z',p⟩;rename_i d hns hd;let⟨v,X,h1,g⟩:=aS l;rcases aki A h h1 with⟨u,w',e,ω',Z',n,p,q3⟩|⟨f,args,n,p⟩
 grind [Oper.wp.eq_1,o7,I2];rw[HD,n,Oper.upon_enter];refine p.mono ?_;grind [I2];simp[ax.aD]at l
def YQ(F:nn K.P af)(C:K.N=af.N){c:bW cS}{i:Nat}{o:cS}(hi:c[i]?=J o){s q:St}{a:Act}{w:World}{Q:Exit→Act→World→Prop}{next:Act→World→Prop}(m:(ni af c o).aD s=J ((),q))(D:gG K s a w)(r:∀y w',gG K q y w'→next y w'):wpOp K.P c Q i next a w:=by
 let⟨β,ω,Z,h⟩:=D;simp only[wpOp,hi];unfold ni at m;split at m;grind [HE,YP];rename_i j z n;let⟨b,E,h2,e⟩:=aS m;have hy:E=s∧yielded c a.tmps j=b:=by
  unfold Oi at h2;split at h2;rename_i t hd;simp only[ax.aD]at h2;split at h2;rename_i b' hv;let⟨g,k⟩:=bg h2;refine⟨k,?_⟩;have l:=h.tmps t;rw[hv]at l;have f:a.tmps.getD t undef=.bool b':=l.2;rw[g];simp only[yielded,hd,Option.bind_some];cases A:a.tmps[t]? with
  |none=>rw[Hq,A]at f;cases f
  |some x=>simp_all
  rename_i hv;let⟨g,k⟩:=bg h2;refine⟨k,?_⟩;have l:=h.tmps t;rw[hv]at l;let⟨vs,f,B⟩:=l;rw[g];simp only[yielded,hd,Option.bind_some];cases A:a.tmps[t]? with|none=>rfl|some x=>simp_all
  simp[ax.aD]at h2;simp[ax.aD]at h2
 let⟨p,hy⟩:=hy;rw[p]at e;split at e;grind [HE,YP];rename_i g;have:¬(HE o (yielded c a.tmps)=W):=by simp[HE,n,hy,g]
 rw[aV this];split at e;rename_i d hd;rw[hd];exact r _ _ (I2 C h (jv.CW (u:=undef) (v:=.bw []) ⟨#[],rfl,trivial⟩ (by simp[SV.cells])) e);rename_i hd;let⟨_,k⟩:=bg e;rw[hd];refine r _ _ ?_;rw[k];exact⟨β,ω,Z,h⟩
def YR(f:K.N=af.N){b:bW cS}{o:cS}{i:Nat}(hi:b[i]?=J o)(g:o.guard=O){d:Nat}(hd:o.dst=J d)(c:d<af.N){s':St}{v:SV}{a:Act}{w:World}{Q:Exit→Act→World→Prop}{next:Act→World→Prop} (hy:cR K s' a d ((execOp a.eval o).run K.P w) v)(h:∀e w',gG K (s'.set (.tmp d) {hv:=(s' (.tmp d)).hv+1,cv:=(s' (.tmp d)).cv,v}) e w'→next e w'):wpOp K.P b Q i next a w:=by
 simp only[wpOp,hi];have:HE o (yielded b a.tmps)=W:=by simp[HE,g]
 rw[aF this];let⟨u,w',j,ω',Z',k,l,m⟩:=hy;refine .inl ?_;rw[HD,k,o7,hd];refine h _ _ (I2 f l m (y:=()) ?_);simp only[kh,ax.aD];rw[aj0 c];rfl
def YS(m:nn K.P af)(n:K.N=af.N){b:bW cS}{Q:Exit→Act→World→Prop}:∀(l:M cS)(k:Nat)(s s':St)(a:Act)(w:World),(∀i,i<Y l→b[k+i]?=l[i]?)→ru af b l s=J s'→gG K s a w→(∀d w',gG K s' d w'→Q .normal d w')→wpOps K.P b Q (List.range' k (Y l)) a w:=by
 intro l;induction l with
 |nil=>intro k s s' a w _ h e f;simp only[ru,Option.some.injEq]at h;subst h;exact f _ _ e
 |cons o l p=>
  intro k s s' a w c h e f;simp only[ru]at h;cases g:(ni af b o).aD s with
  |none=>rw[g]at h;cases h
  |some x=>let⟨⟨⟩,q⟩:=x;rw[g]at h;have r:b[k]?=J o:=(by have:=c 0 (by simp);simpa using this);simp only[kO,List.range'_succ];rw[wpOps_cons];refine YQ m n r g e λd w' j=>?_;exact p (k+1) q s' d w' (λi hi=>by have:=c (i+1) (by simp;omega);grind) h j f
def Pu(a:bW cS):az:=(T a).zipIdx.all λx=>x.1.after.all λe=> !Cp .any e||decide (e.on<x.2)
def akj(t:nn K.P af)(u:K.N=af.N)(f:K.P.follows .mixedOrders=W){id:Nat}{b:bW cS}{c:az}{Q:Exit→Act→World→Prop}{s s':St}{a:Act}{w:World}(h:ru af b (T b) s=J s')(hd:c=W→Pt af b s=W∧Pu b=W) (g:gG K s a w)(k:∀v w',gG K s' v w'→Q .normal v w'):(Code.region id b c).wp K.P Q a w:=by
 cases c with
 |false=>refine wp_region ?_;have:=YS (Q:=Q) t u (T b) 0 s s' a w (by simp) h g k;simp_all [List.range_eq_range']|true=>
  let⟨h1,h2⟩:=hd rfl;refine wp_region_any f ?_;unfold Pt at h1;cases l:sU af b (T b) s with
  |none=>rw[l]at h1;cases h1
  |some m=>rw[l]at h1;let⟨d,x⟩:=akd (T b) 0 s s' m [] (by simp) rfl h l;let⟨β,ω,Z,z⟩:=g;have n:gG K s a {w with drawn:=w.drawn+1}:=⟨β,ω,Z,z.drew.1⟩;simp only[List.nil_append]at d;refine ake (P:=K.P) (Q:=Q) (s':=s') (gG K) (λi o s A a w next p y g k=>YQ t u p y g k) k (λi j q B hn=>akc h1 q (by grind) hn) (λi o p e y C=>?_) b.size (List.range' 0 (Y (T b))) _ s a _ (by simp) (by simp) (List.pairwise_lt_range' _) (λi=>?_) (λi o p r=>?_) d n;simp only[Pu,gy]at h2;have D:(o,i)∈(T b).zipIdx:=(by grind);grind [Array.all_eq_true_iff_forall_mem];simp_all;simp only[Hq,Array.getElem?_replicate]at r;split at r<;>simp at r
end
noncomputable section
def ax.cV{α:Type}:ax α→St→Option (α×St×M aO×M aO)
 |.ret a,s=>J (a,s,[],[])|.ai,_=>O|.aE r k,s=>match(k (s r)).cV s with|some (a,s',f,g)=>J (a,s',r::f,g)|none=>O
 |.put r x k,s=>match k.cV (s.set r x)with|some (a,s',f,g)=>J (a,s',f,r::g)|none=>O
theorem YT{α:Type}(p:ax α):∀(s:St),p.cV s=(p.aD s).map λx=>(x.1,x.2,p.dk s):=by
 induction p with
 |ret a=>intro s;rfl
 |ai=>intro s;rfl
 |aE r k b=>intro s;simp only[ax.cV,ax.aD,ax.dk,b];cases(k (s r)).aD s<;>rfl
 |put r x k b=>intro s;simp only[ax.cV,ax.aD,ax.dk,b];cases k.aD (s.set r x)<;>rfl
def xP(af:bM)(a:bW cS):M cS→St→Option (St×M (M aO×M aO))
 |[],s=>J (s,[])|o::r,s=>match(ni af a o).cV s with
  |some (_,s',f,g)=>match xP af a r s' with|some (b,l)=>J (b,(f,g)::l)|none=>O
  |none=>O
def YU(af:bM)(a:bW cS):∀(l:M cS)(s s':St)(Di:M (M aO×M aO)),xP af a l s=J (s',Di)→ru af a l s=J s'∧sU af a l s=J Di:=by
 intro l;induction l with
 |nil=>intro s s' Di h;simp only[xP,Option.some.injEq,gO]at h;obtain⟨rfl,rfl⟩:=h;exact⟨rfl,rfl⟩
 |cons o l b=>grind [xP,YT,ru,sU]
def I3(a:bW cS)(b:M (M aO×M aO)):az:=Pu a&&xO a b (I1 a)
inductive Ex where
 |normal|exit(id:Nat)|ret
 deriving DecidableEq
def forget(live:M Nat)(a:M aC)(p:PS):PS:=fin p.st live a (Y p.args)
def aC.isIn:aC→az|.aB _=>W|_=>I
def YV(bk a:M aC):az:=bk.all λk=> !k.isIn||ab4 a k
structure VF where
 af:bM
 keys:List Nat
 hI:List aC
def Pv(bk:M aC)(B:PS→(Ex→PS→Prop)→Prop)(p:PS)(Q:Ex→PS→Prop):Prop:=
 ∃(live:M Nat)(b:M aC)(a:PS→Prop)(d:PS→Nat),YV bk b=W∧a (forget live b p)∧∀q,a q→B q λe c=>match e with|.normal=>a (forget live b c)∧d (forget live b c)<d q|e=>Q e c
@[congr] theorem Pv.same{bk:M aC}{B:PS→(Ex→PS→Prop)→Prop}{p a:PS}{Q:Ex→PS→Prop}(h:p=a):Pv bk B p Q=Pv bk B a Q:=by rw[h]
def Pw{α:Type}(t u:Nat)(v:α)(r:M (Nat×α)):lk t ((u,v)::r)=if t=u then J v else lk t r:=rfl
def YW(s:St)(bk:M aC)(t:Nat):∀(ks:M Nat),(X (lk t (Ad s bk ks)) .undef)=if t∈ks then jb s bk (s (.tmp t)).v else .undef
 |[]=>rfl|u::ks=>by
  simp only[Ad];have b:=YW s bk t ks;by_cases a:t=u;subst a;simp only[jQ,true_or,bI];cases hv:jb s bk (s (.tmp t)).v with|undef=>simp_all [CM]|_=>simp[CM,Pw]
  have:lk t (CM u (jb s bk (s (.tmp u)).v) (Ad s bk ks))=lk t (Ad s bk ks):=by cases jb s bk (s (.tmp u)).v<;>simp[CM,Pw,a]
  grind
def YX(s:St)(bk:M aC)(k:aC):∀(ks:M aC),(match n6 k (Ae s bk ks)with|some cs=>SV.agg cs|none=>.undef)=if k∈ks then(match(s (.box k)).v with|.agg cs=>.agg (jF s bk cs)|_=>.undef)else .undef
 |[]=>rfl|u::ks=>by
  simp only[Ae];have b:=YX s bk k ks;by_cases a:k=u;subst a;simp only[jQ,true_or,bI];cases hv:(s (.box k)).v with|agg cs=>simp[jb,xv,n6]|one c=>simp_all [jb,xv]|bw c=>simp_all [jb,xv]|undef=>simp_all [jb,xv]
  have:(match n6 k (xv u (jb s bk (s (.box u)).v) (Ae s bk ks))with|some cs=>SV.agg cs|none=>.undef)=(match n6 k (Ae s bk ks)with|some cs=>SV.agg cs|none=>.undef):=by cases(jb s bk (s (.box u)).v)<;>simp[xv,n6,a]
  grind
def YY(s:St)(bk:M aC):∀(n a i:Nat),H (uL s bk a n) i .undef=if i<n then jb s bk (s (.bN (a+i))).v else .undef|0,a,i=>by simp[uL]|n+1,a,0=>by simp[uL]|n+1,a,i+1=>by have:=YY s bk n (a+1) i;grind [uL]
def YZ(s:St)(bk:M aC):∀(n a:Nat),Y (uL s bk a n)=n|0,_=>rfl|n+1,a=>by simp[uL,YZ s bk n]
def Y0(s:St)(keys:M Nat)(bk:M aC)(n t:Nat):((fin s keys bk n).st (.tmp t)).v=if t∈keys then jb s bk (s (.tmp t)).v else .undef:=YW s bk t keys
def Y1(s:St)(keys:M Nat)(bk:M aC)(n:Nat)(k:aC):((fin s keys bk n).st (.box k)).v=if k∈bk then(match(s (.box k)).v with|.agg cs=>.agg (jF s bk cs)|_=>.undef)else .undef:=YX s bk k bk
def Y2(s:St)(keys:M Nat)(bk:M aC)(n i:Nat):((fin s keys bk n).st (.bN i)).v=if i<n then jb s bk (s (.bN i)).v else .undef:=by have:=YY s bk n 0 i;simp only[Nat.zero_add]at this;exact this
def sV(p:PS)(r:aO):(p.st r).hv=0∧(p.st r).cv=0:=by cases r<;>exact⟨rfl,rfl⟩
theorem xQ(s:St)(bk:M aC):∀(cs:M C)(j:Nat),(jF s bk cs)[j]?=(cs[j]?).map (kj s bk)|[],_=>by simp[jF]|c::cs,0=>by simp[jF]|c::cs,j+1=>by simp only[jF,qU];exact xQ s bk cs j
def Dj(s:St)(bk:M aC):∀(cs:M C),Y (jF s bk cs)=Y cs|[]=>rfl|c::cs=>by simp[jF,Dj s bk cs]
def Y3(s:St)(bk:M aC):∀(l m:M C),jF s bk (l++m)=jF s bk l++jF s bk m|[],m=>rfl|c::l,m=>by simp[jF,Y3 s bk l m]
def Y4(s:St)(bk:M aC):∀(vs:M (az×M C)),(uK s bk vs).flatMap (·.2)=jF s bk (vs.flatMap (·.2))|[]=>rfl|(b,cs)::vs=>by simp[uK,Y3,Y4 s bk vs]
theorem I4(s:St)(bk:M aC)(v:SV):(jb s bk v).cells=jF s bk v.cells:=by
 cases v with|one c=>rfl|agg cs=>rfl|bw vs=>simp only[jb,SV.cells,Y4]|undef=>rfl
def Y5(s:St)(bk:M aC):∀{us:M aJ}{vs:M (az×M C)},aQ (eC lY) us vs→aQ (eC lY) us (uK s bk vs)
 |[],[],_=>trivial|u::us,(b,cs)::vs,h=>by
  refine⟨?_,Y5 s bk h.2⟩;have h1:=h.1;unfold eC at h1 ⊢;cases b with
  |true=>simp only[bI]at h1 ⊢;obtain⟨ws,rfl,g⟩:=h1;exact⟨ws,rfl,aQ.dX (by rw[g.length,Dj]) λ_ _ _ _ _=>trivial⟩
  |false=>simp only[bL,ch]at h1 ⊢;obtain⟨c,rfl,g,_⟩:=h1;exact⟨kj s bk c,by simp[jF],g,trivial⟩
def akk{s:St}{bk:M aC}{u:aJ}{v:SV}(h:bO lY u v):bO lY u (jb s bk v):=by
 cases v with
 |one c=>exact⟨h.1,trivial⟩|agg cs=>let⟨ws,h1,h2⟩:=h;exact⟨ws,h1,aQ.dX (by rw[h2.length,Dj]) λ_ _ _ _ _=>trivial⟩
 |bw vs=>let⟨ws,h1,h2⟩:=h;exact⟨ws,h1,Y5 s bk h2⟩
 |undef=>trivial
theorem akl{s:St}{bk:M aC}{c:C}{e:Nat}{xs:M (M D)}(h:kj s bk c=.ak e xs):c=.ak e xs:=by cases c<;>simp only[kj]at h<;>first|exact h|grind|cases h
theorem akm{s:St}{bk:M aC}{c:C}(h:kj s bk c≠.bK):c≠.bK:=by rintro rfl;exact h rfl
section
variable{K:dh}{β:aC→Option Nat}{ω:Nat→Option cT}{Z:Nat→Prop}{s:St}{a:Act}{w:World}
def aY.fin(h:aY K β ω Z s a w)(keys:M Nat)(bk:M aC){n:Nat}(hn:n=K.argv.size)(hin:∀k b,K.kn k=J b→k∈bk):∃l,aY K l ω Z (fin s keys bk n).st a w:=by
 generalize E:(Vs.fin s keys bk n).st=s';have ht:∀t,(s' (.tmp t)).v=if t∈keys then jb s bk (s (.tmp t)).v else .undef:=λt=>by rw[←E];exact Y0 ..
 have hb:∀k,(s' (.box k)).v=if k∈bk then(match(s (.box k)).v with|.agg cs=>.agg (jF s bk cs)|_=>.undef)else .undef:=λk=>by rw[←E];exact Y1 ..
 have ha:∀i,(s' (.bN i)).v=if i<n then jb s bk (s (.bN i)).v else .undef:=λi=>by rw[←E];exact Y2 ..
 have hz:∀r,(s' r).hv=0∧(s' r).cv=0:=λr=>by rw[←E];exact sV _ r
 have F:∀(r:aO)(j:Nat)(c:C),(s' r).v.cells[j]?=J c→(∃c0,(s r).v.cells[j]?=J c0∧c=kj s bk c0)∧(∀k,r=.box k→k∈bk∧∃cs,(s r).v=.agg cs):=by
  intro r j c q;cases r with|tmp t=>grind [I4,xQ,SV.cells]|box k=>grind [SV.cells,xQ]|bN i=>grind [I4,xQ,SV.cells]
 let l:aC→Option Nat:=λk=>match(s' (.box k)).v with|.agg _=>β k|_=>O
 have WY:∀k cs,(s' (.box k)).v=.agg cs→l k=β k:=λk cs hk=>by simp only[l,hk]
 have N:∀k,(s' (.box k)).v=.undef→l k=O:=λk hk=>by simp only[l,hk]
 have o:∀k b,β k=J b→k∈bk→l k=J b:=by
  intro k b hkb hk;have m:=h.aI k;cases hv:(s (.box k)).v with|agg cs=>grind|undef=>rw[hv]at m;simp only[ek]at m;grind|one c=>rw[hv]at m;exact ab1 m|bw x=>rw[hv]at m;exact ab1 m
 have Ou:∀(r:aO)(j:Nat),(s' r).at j≠.bK→(s r).at j≠.bK∧(∀e ys,(s r).at j=.ak e ys→(s' r).at j=.ak e ys)∧(∀d,(s r).at j=.d d→(s' r).at j=.d d)∧(∀k,r=.box k→k∈bk∧∃cs,(s r).v=.agg cs):=by
  intro r j G;cases q:(s' r).v.cells[j]? with|none=>grind [RV.at]|some c=>let⟨⟨c0,h0,h1⟩,h2⟩:=F r j c q;have e0:=uO h0;have e1:=uO q;rw[e1]at G;refine⟨?_,λe ys T=>?_,λd T=>?_,h2⟩;grind [akm];rw[e1];rw[e0]at T;subst T;rw[h1];rfl;rw[e1];rw[e0]at T;subst T;rw[h1];rfl
 have IU:∀(r:aO)(j:Nat),(∀k,r=.box k→k∈bk∧∃cs,(s r).v=.agg cs)→cK K l a w r j=cK K β a w r j:=by
  intro r j hr;cases r with|tmp t=>rfl|bN i=>rfl|box k=>grind [cK]
 have azt:∀(c:C)(u:aJ),aR K β Z s a w c u→aR K l Z s' a w (kj s bk c) u:=by
  intro c u y;cases c with
  |d x=>exact y|ak e xs=>exact y|bK=>trivial|da xs=>exact y|ea r j hv e i off=>trivial|aW k off=>simp only[kj];split;rename_i hk;let⟨b,z,A⟩:=y;exact⟨b,o k b z (by simpa using hk),A⟩;trivial
  |dj f caps=>simp only[kj];split;rename_i hk;let⟨vs,z,A⟩:=y;refine⟨vs,z,A.kS λu p hp⟨b,q1,q2⟩=>⟨b,o p.1 b q1 ?_,q2⟩⟩;grind;trivial
  |bj r j hv cv e k xs=>simp only[kj];split;rename_i azu;by_cases S:ca e=W;let⟨b,z,g4,g5,g6⟩:=(aR.rz S).1 y;refine(aR.rz S).2 ⟨b,z,by omega,by omega,λ_ G=>?_⟩;grind;have S:ca e=I:=(by simpa using S);let⟨X6,V,z,A,X,g4,g5,g6⟩:=(aR.pj S).1 y;refine(aR.pj S).2 ⟨X6,V,z,A,X,by omega,by omega,λ_ G=>?_⟩;let⟨q1,q2,q3,q4⟩:=Ou r j G;grind;trivial
 have Y:∀(v:SV)(u:aJ),bO (aR K β Z s a w) u v→bO (aR K l Z s' a w) u (jb s bk v):=by
  intro v u hv;refine bO.of_flat (akk hv.shape) λhu=>?_;have O6:v≠.undef:=by rintro rfl;exact hu rfl
  have hf:=hv.eB O6;rw[I4];refine aQ.dX (by rw[hf.length,Dj]) λj x c hx q=>?_;rw[xQ]at q;cases B:v.cells[j]? with|none=>grind|some c0=>rw[B]at q;simp only[Option.map_some,Option.some.injEq]at q;subst q;let⟨x',z,A⟩:=hf.aE B;grind
 have P:∀(r:aO)(j e:Nat)(xs:M (M D)),(s' r).v.cells[j]?=J (.ak e xs)→(s r).v.cells[j]?=J (.ak e xs)∧cK K l a w r j=cK K β a w r j:=by grind [akl]
 refine⟨l,h.size,h.defers,h.os,h.tape,h.output,h.base,h.frame,h.dp,h.lZ,?_,?_,?_,?_,?_,?_,h.dZ,?_⟩;intro b H;rcases h.nj b H with g|g|g|⟨i,j,e,ys,u0,z,A,X⟩
 exact .inl g;exact .inr (.inl g);grind;refine .inr (.inr (.inr ⟨i,j,e,ys,u0,?_,A,X⟩));have hi:i<n:=by grind [undef,eB]
 rw[ha,aF hi,I4,xQ,z];rfl;intro t;rw[ht];split;exact Y _ _ (h.tmps t);trivial;intro i;rw[ha];split;exact Y _ _ (h.args i);trivial;intro k;rw[hb];by_cases hk:k∈bk;rw[aF hk];have m:=h.aI k;cases hv:(s (.box k)).v with
 |agg cs=>
  let⟨b,ws,el,lo,hi,z,A,X,g4,g5⟩:=ek.cell h hv;refine⟨b,ws,el,lo,hi,o k b z hk,A,X,g4,aQ.dX (by rw[g5.length,Dj]) λj u c hu q=>?_⟩;rw[xQ]at q;cases B:cs[j]? with|none=>grind|some c0=>rw[B]at q;simp only[Option.map_some,Option.some.injEq]at q;subst q;let⟨u',q1,q2⟩:=g5.aE B;grind
 |undef=>exact N k (by rw[hb,aF hk,hv])|one c=>rw[hv]at m;exact ab1 m|bw x=>rw[hv]at m;exact ab1 m
 rw[aV hk];exact N k (by rw[hb,aV hk]);intro r j e xs u1 b1 hr q hh R;let⟨z,A⟩:=P r j e xs q;rw[A]at hh;exact h.ak r j e xs u1 b1 hr z hh R;intro i j e xs u1 b1 q hh R;exact h.iS i j e xs u1 b1 (P (.bN i) j e xs q).1 hh R;intro k b H;exact o k b (h.og k b H) (hin k b H)
end
end
def uV:Ex→Exit|.normal=>.normal|.exit i=>.exit i|.ret=>.ret
def dI(K:dh)(p:PS)(a:Act)(w:bZ):Prop:=gG K p.st a w∧Y p.args=K.argv.size
def akn(K:dh)(F:VF):Prop:=∀k b,K.kn k=J b→k.isIn=W∧k∈F.hI
section
variable{K:dh}{F:VF}
def dI.fin{p:PS}{s:St}{a:Act}{w:bZ}(e:Y p.args=K.argv.size)(f:gG K s a w){keys:M U}{bk:M aC}(c:∀k b,K.kn k=J b→k∈bk):dI K (fin s keys bk (Y p.args)) a w:=by let⟨β,ω,Z,h⟩:=f;let⟨d,g⟩:=h.fin keys bk e c;refine⟨⟨d,ω,Z,g⟩,?_⟩;rw[←e];exact YZ ..
def dI.forget(hk:akn K F){p:PS}{a:Act}{w:bZ}(h:dI K p a w){live:M U}{d:M aC}(e:YV F.hI d=W):dI K (forget live d p) a w:=by refine dI.fin h.2 h.1 λk b c=>?_;let⟨h1,h2⟩:=hk k b c;have:=gy.1 e k h2;simpa[h1]using this
end
noncomputable section
def Aq(af:bM):nV→ax SV
 |.tmp t=>ev (.tmp t)|.cell a t=>match af.ti t with|some i=>do sH i (←ed (.tmp a))|none=>.ai
def Ar(af:bM):M nV→ax (M SV)|[]=>.ret []|r::rs=>do let v ←Aq af r;let vs ←Ar af rs;.ret (v::vs)
def xR:C→ax C|.bj (.bN i) j hv cv e k xs=>do let x ←mq (.bj (.bN i) j hv cv e k xs);.ret (.d x)|c=>.ret c
def uW:M C→ax (M C)|[]=>.ret []|c::cs=>do let a ←xR c;let r ←uW cs;.ret (a::r)
def qj:SV→ax SV|.one c=>do .ret (.one (←xR c))|.agg cs=>do .ret (.agg (←uW cs))|_=>.ai
def As:M SV→ax (M SV)|[]=>.ret []|v::vs=>do let a ←qj v;let r ←As vs;.ret (a::r)
def easy:C→az|.d _|.ak _ _|.aW _ _|.bK=>W|_=>I
def settle(k:aC):ax bV:=
 .aE (.box k) λx=>match x.v with
  |.agg cs=>if cs.all easy=W then .ret ()else do
   let a ←uW cs
   eu (.box k) {hv:=x.hv+1,cv:=x.cv,v:=.agg a}
  |_=>.ai
def Au:M aC→ax bV|[]=>.ret ()|k::ks=>do settle k;Au ks
def I5:M SV→SV|[v]=>v|vs=>.bw (vs.map λv=>match v with|.one c=>(I,[c])|.agg cs=>(W,cs)|_=>(I,[]))
def uX:M aJ→aJ|[u]=>u|us=>.tuple (abf us)
def Y6(d:az):aO→az|.tmp _=> !d|.box (.aB _)=>I|.box _=> !d|.bN _=>I
def xS(ks:M aC):C→ax C|.d x=>.ret (.d x)|.ak e xs=>.ret (.ak e xs)|.aW k off=>do bS (k∈ks);.ret (.aW (.aB (idx k ks)) off)|.dj f caps=>do bS (caps=[]);.ret (.dj f [])|_=>.ai
def uY(ks:M aC):M C→ax (M C)|[]=>.ret []|c::cs=>do let a ←xS ks c;let r ←uY ks cs;.ret (a::r)
def xT(ks:M aC):M (az×M C)→ax (M (az×M C))|[]=>.ret []|(b,cs)::vs=>do let a ←uY ks cs;let r ←xT ks vs;.ret ((b,a)::r)
def oj(ks:M aC):SV→ax SV|.one c=>do .ret (.one (←xS ks c))|.agg cs=>do .ret (.agg (←uY ks cs))|.bw vs=>do .ret (.bw (←xT ks vs))|.undef=>.ai
def jT(n:Nat):M aC:=(iz n).map .aB
def uZ(a:Nat)(cs:M C):M aC:=jT a++(nh (iB cs)).filter λk=> !k.isIn
def xU(af:bM)(res:M nV)(b:Nat):ax (SV×M (M C)):=do
 let vs ←Ar af res
 let ks:=uZ b (vs.flatMap SV.cells)
 Au ks
 let a ←As vs
 let c ←nc (.tmp 0) (Y6 af.nb) (I5 a)
 let d ←xt ks ks
 let e ←oj ks c
 .ret (e,d)
def I6(i:Nat)(v:SV):SV:=RV.gD {v} (.bN i)
def u7:Nat→M SV→M (Nat×SV)|_,[]=>[]|i,v::vs=>(i,I6 i v)::u7 (i+1) vs
def va:Nat→M (M C)→M (aC×M C)|_,[]=>[]|i,b::a=>(.aB i,b)::va (i+1) a
def Av(args:M SV)(aI:M (M C)):PS:={cj:=u7 0 args,aI:=va 0 aI,args}
section
variable{K:dh}{β:aC→Option Nat}{ω:Nat→Option cT}{Z:Nat→Prop}{s:St}{a:Act}{w:World}{af:bM}
def xV(a:Act):nV→Sem aJ|.tmp t=>pure (a.tmps.getD t undef)|.cell b t=>do loadVar t (←asAddr (a.tmps.getD b undef))
def ako(hT:ip K.P af)(h:aY K β ω Z s a w){r:nV}{v:SV}{s':St}(f:(Aq af r).aD s=J (v,s')):s'=s∧∃u,(xV a r).run K.P w=.ok u w∧bO (aR K β Z s a w) u v∧(∀c∈v.cells,cQ c):=by
 cases r with
 |tmp t=>simp only[Aq]at f;let⟨o,h1,h2,h3⟩:=iU h f;exact⟨o,_,rfl,h1,h2⟩
 |cell b t=>
  simp only[Aq]at f;split at f;rename_i i hi;let⟨c,p,h1,d⟩:=aS f;let⟨j,E,l,q⟩:=gE h h1;subst j;let⟨k,x,y,z,A⟩:=Xk h (hT.T t i hi) l d;refine⟨k,x,?_,z,A⟩;have hp:∃m,a.tmps.getD b undef=.pointer (J m):=by have e:aR K β Z p a w c (a.tmps.getD b undef):=l;unfold sH at d;split at d;let⟨n,_,g⟩:=e;exact⟨_,g⟩;let⟨n,B,g,_⟩:=e;exact⟨_,g⟩;let⟨n,B,g,_⟩:=e;exact⟨_,g⟩;simp[ax.aD]at d
  let⟨m,C⟩:=hp;have D:(Cl t (a.tmps.getD b undef)).run K.P w=.ok x w:=y;simp_all [xV,Cl,Instr.sureAddr,asAddr];simp[ax.aD]at f
def Y7{α:Type}{P:ew}{w:World}(f:α→Sem aJ):∀(l:M α)(us:M aJ),aQ (λx u=>(f x).run P w=.ok u w) l us→(l.mapM f).run P w=.ok us w|[],[],_=>rfl|x::l,u::us,h=>by have h1:=h.1;have h2:=Y7 f l us h.2;simp_all
def akp(hT:ip K.P af)(h:aY K β ω Z s a w):∀(rs:M nV)(vs:M SV)(s':St),(Ar af rs).aD s=J (vs,s')→s'=s∧∃us,aQ (λr u=>(xV a r).run K.P w=.ok u w) rs us∧aQ (λu v=>bO (aR K β Z s a w) u v∧(∀c∈v.cells,cQ c)) us vs:=by
 intro rs;induction rs with
 |nil=>intro vs s' b;obtain⟨rfl,rfl⟩:=bg b;exact⟨rfl,[],trivial,trivial⟩
 |cons r rs f=>intro vs s' b;simp only[Ar]at b;let⟨v1,m,h1,d⟩:=aS b;let⟨g,n,h2,e⟩:=aS d;obtain⟨rfl,rfl⟩:=bg e;obtain⟨rfl,u,i,j⟩:=ako hT h h1;obtain⟨rfl,us,k,l⟩:=f _ _ h2;exact⟨rfl,u::us,⟨i,k⟩,⟨j,l⟩⟩
def akq{fn:Func}{us:M aJ}(h:aQ (λr u=>(xV a r).run K.P w=.ok u w) (T fn.results) us):(results fn a.tmps).run K.P w=.ok (uX us) w:=by
 have h1:=Y7 (P:=K.P) (w:=w) (xV a) _ us h;have h2:results fn a.tmps=(do let vs ←fn.results.mapM (xV a);pure (if h:vs.size=1 then vs[0]else .tuple vs)):=by unfold results;congr 1
 rw[h2,Array.mapM_eq_mapM_toList];simp only[map_eq_pure_bind,bind_assoc,pure_bind];have:∀(v:aJ),uX us=v→(List.mapM (xV a) (T fn.results) >>= λa=>(pure (if h:(abf a).size=1 then (abf a)[0]else Value.tuple (abf a)):Sem aJ)).run K.P w=.ok v w:=by
  intro v hv;simp only[dC,h1];simp;subst hv;match us with|[]=>rfl|[u]=>rfl|u::u'::us=>simp[uX]
 exact this _ rfl
def CB(K:dh)(β:aC→Option Nat)(Z:Nat→Prop)(s:St)(a:Act)(w:World)(u:aJ)(c:C):Prop:=aR K β Z s a w c u∧∀(e:Nat)(xs:M (M D))(b:Nat),c=.ak e xs→eH u=J b→b<w.heap.size
theorem CB.lift{ω':Nat→Option cT}{Z':Nat→Prop}{s':St}(b:aY K β ω Z s a w)(k:dD K β a ω Z s w ω' Z' s' w){u:aJ}{c:C}(h:CB K β Z s a w u c):CB K β Z' s' a w u c:=⟨k.ls b.dp h.2 h.1,h.2⟩
theorem akr{i j:Nat}{x:RV}{y:bV}{s s':St}(a:(pb (.bN i) j x).aD s=J (y,s')):∀k,s' (.box k)=s (.box k):=by intro k;unfold pb at a;split at a;simp only[eu,ax.aD,Option.some.injEq,gO]at a;obtain⟨_,rfl⟩:=a;simp[St.set];grind [bg];simp[ax.aD]at a
def Y8(h:aY K β ω Z s a w){c c':C}{u:aJ}{s':St}(b:CB K β Z s a w u c)(d:(xR c).aD s=J (c',s')):(∃ω' Z',aY K β ω' Z' s' a w∧dD K β a ω Z s w ω' Z' s' w∧CB K β Z' s' a w u c')∧(∀(e:Nat)(xs:M (M D)),c'=C.ak e xs→c=C.ak e xs)∧(∀k,s' (.box k)=s (.box k)):=by unfold xR at d;split at d;rename_i i j hv cv e k xs;let⟨x,m,h1,f⟩:=aS d;obtain⟨rfl,rfl⟩:=bg f;let⟨ω',Z',g,k1,d1⟩:=CX h b.1 h1;refine⟨⟨ω',Z',g,k1,d1,by simp⟩,by simp,?_⟩;simp only[mq,ax.aD]at h1;let⟨_,n,l,h1⟩:=aS h1;obtain⟨_,rfl⟩:=cN l;let⟨_,o,p,h1⟩:=aS h1;grind [bg,akr];grind [bg,dD.refl]
def Y9:∀(cs:M C)(us:M aJ)(ω:Nat→Option cT)(Z:Nat→Prop)(s s':St)(cs':M C),aY K β ω Z s a w→aQ (CB K β Z s a w) us cs→(uW cs).aD s=J (cs',s')→(∃ω' Z',aY K β ω' Z' s' a w∧dD K β a ω Z s w ω' Z' s' w∧aQ (CB K β Z' s' a w) us cs')∧(∀(j e:Nat)(xs:M (M D)),cs'[j]?=J (C.ak e xs)→cs[j]?=J (C.ak e xs))∧(∀k,s' (.box k)=s (.box k)):=by
 intro cs;induction cs with
 |nil=>intro us ω Z s s' cs' h b d;obtain⟨rfl,rfl⟩:=bg d;grind [dD.refl]
 |cons c cs o=>
  intro us ω Z s s' cs' h b d;cases us with|nil=>exact ab1 b|cons u us=>simp only[uW]at d;let⟨c1,p,h1,f⟩:=aS d;let⟨g,B,h2,i⟩:=aS f;obtain⟨rfl,rfl⟩:=bg i;let⟨⟨l,q,n,k1,r⟩,E,t⟩:=Y8 h b.1 h1;let⟨⟨m,v,x,k2,y⟩,F,z⟩:=o us l q p _ g n (aQ.mono (λ_ _ A=>A.lift h k1) b.2) h2;refine⟨⟨m,v,x,k1.trans k2,r.lift n k2,y⟩,?_,λk=>ab0 (z k) (t k)⟩;grind
def VR(K:dh)(β:aC→Option Nat)(Z:Nat→Prop)(s:St)(a:Act)(w:World)(u:aJ)(v:SV):Prop:=bO (aR K β Z s a w) u v∧(∀c∈v.cells,cQ c)
theorem VR.lift{ω':Nat→Option cT}{Z':Nat→Prop}{s':St}{w':World}(d:aY K β ω Z s a w)(k:dD K β a ω Z s w ω' Z' s' w'){u:aJ}{v:SV}(h:VR K β Z s a w u v):VR K β Z' s' a w' u v:=⟨bO.mono (λc _ f b=>k.ls d.dp (λe xs _ g _=>cO g (h.2 c f e xs)) b) h.1,h.2⟩
def I7:SV→Prop|.one _|.agg _=>dK|_=>jn
def aks(h:aY K β ω Z s a w){v v':SV}{u:aJ}{s':St}(hv:VR K β Z s a w u v)(g:(qj v).aD s=J (v',s')):∃ω' Z',aY K β ω' Z' s' a w∧dD K β a ω Z s w ω' Z' s' w∧VR K β Z' s' a w u v'∧I7 v':=by
 cases v with
 |one c=>simp only[qj]at g;let⟨c1,q,h1,d⟩:=aS g;obtain⟨rfl,rfl⟩:=bg d;have i:=hv.2 c (by simp[SV.cells]);let⟨⟨f,l,m,k1,n⟩,o,_⟩:=Y8 h ⟨hv.1.2,λe xs _ b _=>cO b (i e xs)⟩ h1;exact⟨f,l,m,k1,⟨⟨hv.1.1,n.1⟩,by intro x b;simp only[SV.cells,m7]at b;subst b;exact λe xs b=>i e xs (o e xs b)⟩,trivial⟩
 |agg cs=>simp only[qj]at g;let⟨c1,q,h1,d⟩:=aS g;obtain⟨rfl,rfl⟩:=bg d;let⟨ws,r,k⟩:=hv.1;let⟨⟨f,l,m,k1,n⟩,o,_⟩:=Y9 cs (T ws) ω Z s _ _ h (k.kS λu c p t=>⟨t,λe xs _ b _=>cO b (hv.2 c p e xs)⟩) h1;refine⟨f,l,m,k1,⟨⟨ws,r,aQ.mono (λ_ _ y=>y.1) n⟩,?_⟩,trivial⟩;intro c p e xs b;let⟨j,z⟩:=nO p;subst b;exact hv.2 _ (fK (o j e xs z)) e xs rfl
 |bw x=>simp[qj,ax.aD]at g|undef=>simp[qj,ax.aD]at g
def akt:∀(vs:M SV)(us:M aJ)(ω:Nat→Option cT)(Z:Nat→Prop)(s s':St)(vs':M SV),aY K β ω Z s a w→aQ (VR K β Z s a w) us vs→(As vs).aD s=J (vs',s')→∃ω' Z',aY K β ω' Z' s' a w∧dD K β a ω Z s w ω' Z' s' w∧aQ (λu v=>VR K β Z' s' a w u v∧I7 v) us vs':=by
 intro vs;induction vs with
 |nil=>
  intro us ω Z s s' vs' h b c;obtain⟨rfl,rfl⟩:=bg c;cases us with|nil=>exact⟨ω,Z,h,dD.refl,trivial⟩|cons u us=>exact ab1 b
 |cons v vs k=>
  intro us ω Z s s' vs' h b c;cases us with|nil=>exact ab1 b|cons u us=>simp only[As]at c;let⟨v1,l,h1,d⟩:=aS c;let⟨e,x,h2,f⟩:=aS d;obtain⟨rfl,rfl⟩:=bg f;let⟨g,m,j,k1,n,o⟩:=aks h b.1 h1;let⟨i,p,q,k2,r⟩:=k us g m l _ e j (aQ.mono (λ_ _ t=>VR.lift h k1 t) b.2) h2;exact⟨i,p,q,k1.trans k2,⟨VR.lift j k2 n,o⟩,r⟩
def aku{us:M aJ}{vs:M SV}(h:aQ (λu v=>VR K β Z s a w u v∧I7 v) us vs):VR K β Z s a w (uX us) (I5 vs):=by
 have gen:∀{us:M aJ}{vs:M SV},aQ (λu v=>VR K β Z s a w u v∧I7 v) us vs→aQ (eC (aR K β Z s a w)) us (vs.map λv=>match v with|.one c=>(I,[c])|.agg cs=>(W,cs)|_=>(I,[]))∧∀c∈(vs.map λv=>match v with|.one c=>(I,[c])|.agg cs=>(W,cs)|_=>(I,([]:M C))).flatMap (·.2),cQ c:=by
  intro us vs;induction vs generalizing us with
  |nil=>intro h;cases us with|nil=>exact⟨trivial,by simp⟩|cons=>exact ab1 h
  |cons v vs g=>
   intro h;cases us with
   |nil=>exact ab1 h|cons u us=>
    let⟨⟨⟨h1,h2⟩,h3⟩,i⟩:=h;let⟨b,d⟩:=g i;cases v with|one c=>refine⟨⟨?_,b⟩,?_⟩;simp only[eC,bL,ch];exact⟨c,rfl,h1.1,h1.2⟩;grind [SV.cells]|agg cs=>refine⟨⟨?_,b⟩,?_⟩;simp only[eC,bI];exact h1;grind [SV.cells]|bw x=>exact ab1 h3|undef=>exact ab1 h3
 match us,vs,h with
 |[u],[v],h=>exact h.1.1|[],[],h=>exact⟨⟨#[],rfl,trivial⟩,by simp[I5,SV.cells]⟩|u::e::us,v::f::vs,h=>let⟨b,d⟩:=gen h;exact⟨⟨_,rfl,by simpa[uX]using b⟩,d⟩
 |[u],[],h=>exact ab1 h|[],[v],h=>exact ab1 h|[u],v::f::vs,h=>exact ab1 h.2|u::e::us,[v],h=>exact ab1 h.2|u::e::us,[],h=>exact ab1 h|[],v::f::vs,h=>exact ab1 h
def akv(h:aY K β ω Z s a w){k:aC}{y:bV}{s':St}(d:(settle k).aD s=J (y,s')){us:M aJ}{vs:M SV}(hv:aQ (VR K β Z s a w) us vs):∃ω' Z',aY K β ω' Z' s' a w∧aQ (VR K β Z' s' a w) us vs:=by
 unfold settle at d;simp only[ax.aD]at d;split at d;rename_i cs f;split at d;grind [bg];obtain⟨i,E,h1,d⟩:=aS d;simp only[eu,ax.aD,Option.some.injEq,gO]at d;obtain⟨_,rfl⟩:=d;obtain⟨b,ws,el,lo,hi,o,g2,p,F,C⟩:=ek.cell h f;have l:aQ (CB K β Z s a w) ws.toList cs:=aQ.dX C.length λj u c q g=>by obtain⟨u',r,G⟩:=C.aE g;rw[q]at r;cases r;refine⟨G,λe xs m H N=>?_⟩;subst H;have:=(h.ak (.box k) j e xs u m rfl (by rw[f];exact g) (by rw[nk o p];exact q) N).1;exact(h.dZ _ _ this).2.1
 obtain⟨⟨x,P,z,k1,R⟩,r,m⟩:=Y9 cs ws.toList ω Z s E i h l h1;obtain⟨D,S,T,V,X,f1,f2,f3,f4,f5⟩:=ek.cell z (by rw[m];exact f);rw[o]at f1;cases f1;rw[p]at f3;cases f3;obtain⟨t1,t2⟩:=z.Oy (k:=k) (b:=b) (w':=w) (cs:=i) f2 (.inr o) rfl rfl rfl rfl (λ_ _=>rfl) p F (aQ.mono (λ_ _ t=>t.1) R) (λj e xs Y D g q A=>z.ak (.box k) j e xs Y D rfl (by rw[m,f];exact r j e xs g) (by rw[nk o p];exact q) A);have B:(λk'=>if k'=k then J b else β k')=β:=by grind
 rw[B,m]at t1 t2;refine⟨x,P,t1,aQ.mono (λu v t=>?_) hv⟩;have n:=t.lift h k1;exact⟨bO.mono (λc u g hr=>t2 c u (λe xs _ hx _=>cO hx (t.2 c g e xs)) hr) n.1,n.2⟩;simp[ax.aD]at d
def Za:∀(ks:M aC)(ω:Nat→Option cT)(Z:Nat→Prop)(s s':St)(y:bV),aY K β ω Z s a w→(Au ks).aD s=J (y,s')→∀{us:M aJ}{vs:M SV},aQ (VR K β Z s a w) us vs→∃ω' Z',aY K β ω' Z' s' a w∧aQ (VR K β Z' s' a w) us vs
 |[],ω,Z,s,s',y,h,b,us,vs,hv=>by obtain⟨_,rfl⟩:=bg b;grind
 |k::ks,ω,Z,s,s',y,h,b,us,vs,hv=>by simp only[Au]at b;let⟨_,d,h1,b⟩:=aS b;let⟨c,e,f,v1⟩:=akv h h1 hv;exact Za ks c e d s' _ f b v1
def OC(ks:M aC)(c c':C):Prop:=(∀(K b:dh)(β:aC→Option Nat)(Z:Nat→Prop)(s s':St)(a d:Act)(w:World)(u:aJ),aR K β Z s a w c u→aR b (gU ks β) Z s' d w c' u)∧(∀(e:Nat)(xs:M (M D)),c'=C.ak e xs→c=C.ak e xs)
def Zb{ks:M aC}{c c':C}{s':St}(a:(xS ks c).aD s=J (c',s')):s'=s∧OC ks c c':=by
 unfold xS at a;split at a;obtain⟨rfl,rfl⟩:=bg a;exact⟨rfl,λ_ _ _ _ _ _ _ _ _ _ h=>h,λ_ _ h=>h⟩;obtain⟨rfl,rfl⟩:=bg a;exact⟨rfl,λ_ _ _ _ _ _ _ _ _ _ h=>h,λ_ _ h=>h⟩;let⟨_,i,h1,d⟩:=aS a;obtain⟨hk,rfl⟩:=cN h1;obtain⟨rfl,rfl⟩:=bg d;exact⟨rfl,λ_ _ β _ _ _ _ _ _ _⟨b,f,e⟩=>⟨b,by rw[rE hk];exact f,e⟩,by simp⟩;let⟨_,i,h1,d⟩:=aS a;obtain⟨hk,rfl⟩:=cN h1;obtain⟨rfl,rfl⟩:=bg d;refine⟨rfl,λ_ _ β _ _ _ _ _ _ _⟨vs,f,e⟩=>⟨vs,f,?_⟩,by simp⟩;subst hk;cases g:T vs with|nil=>trivial|cons x xs=>rw[g]at e;exact ab1 e
 simp[ax.aD]at a
def Px{ks:M aC}:∀{cs cs':M C}{s s':St},(uY ks cs).aD s=J (cs',s')→s'=s∧aQ (OC ks) cs cs'
 |[],_,_,_,a=>by obtain⟨rfl,rfl⟩:=bg a;exact⟨rfl,trivial⟩
 |c::cs,cs',s,s',a=>by simp only[uY]at a;let⟨c1,f,h1,a⟩:=aS a;let⟨b,g,h2,a⟩:=aS a;obtain⟨rfl,rfl⟩:=bg a;obtain⟨rfl,d⟩:=Zb h1;obtain⟨rfl,e⟩:=Px h2;exact⟨rfl,d,e⟩
def Zc{ks:M aC}:∀{vs c:M (az×M C)}{s s':St},(xT ks vs).aD s=J (c,s')→s'=s∧aQ (λx y=>x.1=y.1∧aQ (OC ks) x.2 y.2) vs c
 |[],_,_,_,a=>by obtain⟨rfl,rfl⟩:=bg a;exact⟨rfl,trivial⟩
 |(b,cs)::vs,c,s,s',a=>by simp only[xT]at a;let⟨c1,g,h1,a⟩:=aS a;let⟨d,h,h2,a⟩:=aS a;obtain⟨rfl,rfl⟩:=bg a;obtain⟨rfl,e⟩:=Px h1;obtain⟨rfl,f⟩:=Zc h2;exact⟨rfl,⟨rfl,e⟩,f⟩
theorem aQ.comp{α β d:Type}{R:α→β→Prop}{S:β→d→Prop}{T:α→d→Prop}(hT:∀a b c,R a b→S b c→T a c):∀{as:M α}{e:M β}{cs:M d},aQ R as e→aQ S e cs→aQ T as cs|[],[],[],_,_=>trivial|_::_,_::_,_::_,h,k=>⟨hT _ _ _ h.1 k.1,aQ.comp hT h.2 k.2⟩
def Zd{R:C→C→Prop}:∀{xs ys:M (az×M C)},aQ (λx y=>x.1=y.1∧aQ R x.2 y.2) xs ys→aQ R (xs.flatMap (·.2)) (ys.flatMap (·.2))|[],[],_=>trivial|_::_,_::_,h=>by simp only[mZ];exact aQ.append h.1.2 (Zd h.2)
def akw{ks:M aC}{v v':SV}{s s':St}(d:(oj ks v).aD s=J (v',s')):s'=s∧aQ (OC ks) v.cells v'.cells∧∀(R e:C→aJ→Prop),(∀c c' u,OC ks c c'→R c u→e c' u)→∀u,bO R u v→bO e u v':=by
 cases v with
 |one c=>simp only[oj]at d;let⟨c1,l,h1,d⟩:=aS d;obtain⟨rfl,rfl⟩:=bg d;obtain⟨rfl,g⟩:=Zb h1;exact⟨rfl,⟨g,trivial⟩,λR e f u m=>⟨m.1,f _ _ _ g m.2⟩⟩
 |agg cs=>simp only[oj]at d;let⟨c1,l,h1,d⟩:=aS d;obtain⟨rfl,rfl⟩:=bg d;obtain⟨rfl,g⟩:=Px h1;exact⟨rfl,g,λR e f u⟨ws,i,j⟩=>⟨ws,i,aQ.comp (T:=λu c=>e c u) (λu b c h k=>f b c u k h) j g⟩⟩
 |bw vs=>
  simp only[oj]at d;let⟨c1,l,h1,d⟩:=aS d;obtain⟨rfl,rfl⟩:=bg d;obtain⟨rfl,g⟩:=Zc h1;refine⟨rfl,Zd g,λR e f u⟨ws,i,j⟩=>⟨ws,i,aQ.comp (λa b c h k=>?_) j g⟩⟩;unfold eC at h ⊢;let⟨k1,k2⟩:=k;rw[←k1];split;grind [aQ.comp];rename_i n;simp only[n]at h;let⟨x,o,p,q⟩:=h;rw[o]at k2;match c.2,k2 with|[y],k2=>exact⟨y,rfl,p,f _ _ _ k2.1 q⟩
 |undef=>simp[oj,ax.aD]at d
def Ze{n i:Nat}(h:i<n):(jT n)[i]?=J (.aB i):=by simp[jT,h]
theorem Zf(n:Nat):(jT n).Nodup:=by grind [jT,List.nodup_range]
theorem akx(a:Nat)(cs:M C):(uZ a cs).Nodup:=by grind [uZ,Zf,An,jT,aC.isIn]
theorem aky{a i:Nat}(h:i<a)(cs:M C):(uZ a cs)[i]?=J (.aB i):=by unfold uZ;rw[pS (by simp[jT,h]),Ze h]
theorem akz(v:SV)(j l:Nat):(pg v j).cells[l]?=v.cells[l]? ∨∃e ys,v.cells[l]?=J (.ak e ys)∧(pg v j).cells[l]?=J (.d (.sl e ys)):=by grind [pg,rA]
def Zg:∀(l:M (Nat×Nat))(args:M SV)(i j:Nat),(H (ln l args) i .undef).cells[j]?=(H args i .undef).cells[j]? ∨∃e ys,(H args i .undef).cells[j]?=J (.ak e ys)∧(H (ln l args) i .undef).cells[j]?=J (.d (.sl e ys))
 |[],args,i,j=>.inl rfl|(a,b)::l,args,i,j=>by
  simp only[ln];have h1:(H (args.set a (pg (H args a .undef) b)) i .undef).cells[j]?=(H args i .undef).cells[j]? ∨∃e ys,(H args i .undef).cells[j]?=J (.ak e ys)∧(H (args.set a (pg (H args a .undef) b)) i .undef).cells[j]?=J (.d (.sl e ys)):=by grind [akz]
  rcases Zg l (args.set a (pg (H args a .undef) b)) i j with h2|⟨e,ys,h2,h3⟩
  rw[h2];exact h1;grind
theorem Zh:∀(l:M (Nat×Nat))(args:M SV),Y (ln l args)=Y args|[],_=>rfl|(i,j)::l,args=>by simp[ln,Zh l]
def Aw(ks:M aC)(ω:Nat→Option cT)(b:Nat):Option cT:=
 match ω b with|some (.tmp 0,j)=>J (.tmp 0,j)|_=>gF ks ω b
def akA{ks:M aC}{b:Nat}{g:cT}(h:Aw ks ω b=J g):∃g',ω b=J g':=by grind [Aw,gF]
def akB{P:ew}{N:Nat}{w0:World}{vals:bW aJ}{kn:aC→Option Nat}{f:Nat→Option cT}{Z0:Nat→Prop}{args:M SV}{r:ri}{fn:Func}{nb:Nat}
  (hT:ip P af)(h:aY (cY P N w0 vals kn f Z0) β ω Z s a w)(hsz:vals.size=args.length)(hok:args.all lw=W){e0:Act}{s0:St}{w1:World}
  (hent:∀i,bO (aR (cY P 0 w0 vals kn f Z0) kn Z0 s0 e0 w1) (vals.getD i undef) (args.getD i .undef))
  (F:∀k b,kn k=J b→∃i,i<nb∧k=.aB i)
  {s':St}(he:(xU af fn.results.toList nb).aD s=J ((r.v,r.aI),s'))(G:∀i,i<args.length→(s' (.bN i)).v=(ln r.cH args).getD i .undef):
  ∃u β' ω' Z',(results fn a.tmps).run P w=.ok u w∧aY (cY P 1 w0 vals kn f Z0) β' ω' Z' (fa args r) {tmps:=#[u],defers:=[]} w:=by
 unfold xU at he
 obtain⟨vs,s1,h1,R⟩:=aS he
 obtain⟨hs1,us,Py,hvs⟩:=akp (K:=cY P N w0 vals kn f Z0) hT h _ _ _ h1
 rw[hs1]at R
 generalize hks:uZ nb (vs.flatMap SV.cells)=ks at R
 obtain⟨_,s2,h2,qe⟩:=aS R
 obtain⟨Ir,Z1,r1,v1⟩:=Za _ _ _ _ _ _ h h2 hvs
 obtain⟨vs1,s3,h3,Dg⟩:=aS qe
 obtain⟨YN,Z2,r2,k2,v2⟩:=akt _ _ _ _ _ _ _ r1 v1 h3
 have hv:=aku v2
 obtain⟨v3,s4,h4,Al⟩:=aS Dg
 obtain⟨S,Z3,n,k3,p3⟩:=Xe r2 hv.1 hv.2 h4
 obtain⟨bs,s5,h5,Xp⟩:=aS Al
 obtain⟨hs5,Ao,Zi⟩:=Yf _ s5 bs h5
 rw[hs5]at Xp
 obtain⟨v5,s6,h6,he6⟩:=aS Xp
 obtain⟨hv6,Pc⟩:=bg he6
 obtain⟨Ph,B,hout⟩:=akw h6
 have hv7:r.v=v5:=bX Prod.fst hv6
 have hb7:r.aI=bs:=bX Prod.snd hv6
 have hs':s'=s4:=by rw[Pc,Ph]
 rw[hs']at G
 have hnd:ks.Nodup:=by grind [akx]
 have hinb:∀i,i<nb→ks[i]?=J (.aB i):=λi hi=>by grind [aky]
 have hidx:∀i,i<nb→gU ks β (.aB i)=β (.aB i):=λi hi=>by
  have:=rE (fK (hinb i hi)) β
  grind [rF]
 refine⟨uX us,gU ks β,Aw ks S,Z3,akq (K:=cY P N w0 vals kn f Z0) Py,?_⟩
 have H:∀(k:aC)(cs':M C),(fa args r (.box k)).v=.agg cs'→∃i k' cs,k=.aB i∧ks[i]?=J k'∧(s4 (.box k')).v=.agg cs∧cs'=cs.map (tc ks)∧cs.all (tok ks)=W:=by
  intro k cs hk
  cases k with
  |aB i=>
   grind [fa]
  |aw t=>simp[fa]at hk
  |cm t i=>simp[fa]at hk
 have hω:∀(i:Nat)(k':aC)(j:Option Nat)(b:Nat),ks[i]?=J k'→S b=J (.box k',j)→Aw ks S b=J (.box (.aB i),j):=by
  grind [Aw,gF,rF]
 have z:∀i,(fa args r (.bN i)).v=if i<args.length then(s4 (.bN i)).v else .undef:=by
  intro i
  show(ln r.cH args).getD i .undef=_
  grind [Zh]
 refine⟨rfl,⟨rfl,n.defers.2⟩,n.os,n.tape,n.output,n.base,n.frame,n.dp,n.lZ,?_,?_,?_,?_,?_,?_,?_,?_⟩
 ·intro b Y
  rcases n.nj b Y with g|g|g|⟨i,j,e,ys,u0,g1,g2,g3⟩
  ·exact .inl g
  ·exact .inr (.inl g)
  ·exact .inr (.inr (.inl g))
  ·refine .inr (.inr (.inr ⟨i,j,e,ys,u0,?_,g2,g3⟩))
   have hi:i<args.length:=by
    rw[←hsz]
    by_cases hi:i<vals.size
    ·exact hi
    ·exfalso
     have Pm:(eB (vals.getD i undef))[j]?=J u0:=g2
     simp_all [undef,eB]
   grind
 ·intro t
  cases t with
  |zero=>
   show bO _ (uX us) r.v
   rw[hv7]
   exact hout (aR (cY P N w0 vals kn f Z0) β Z3 s4 a w) (aR (cY P 1 w0 vals kn f Z0) (gU ks β) Z3 (fa args r) {tmps:=#[uX us],defers:=[]} w) (λc c' u m A=>m.1 _ _ _ _ _ _ _ _ _ _ A) _ p3.1
  |succ t=>exact trivial
 ·intro i
  rw[z]
  split
  ·rename_i hi
   refine bO.oc (λj c u m hu A=>?_) (n.args i)
   have y:=Zg r.cH args i j
   rw[←G i hi,m]at y
   have T:∀c0,(args.getD i .undef).cells[j]?=J c0→qi c0=W:=λc0 V=>by
    grind [lw,List.getElem_mem]
   cases c with
   |d x=>exact A
   |ak e xs=>exact A
   |bK=>trivial
   |da xs=>exact A
   |_=>
    rcases y with y|⟨e,ys,_,y⟩
    ·have V:=y.symm
     obtain⟨u',q1,q2⟩:=(hent i).cell V
     have D:=T _ V
     first
      |(cases D;done)
      |(obtain⟨b0,f1,_⟩:=q2
        obtain⟨i0,hi0,rfl⟩:=F _ _ f1
        obtain⟨b,f2,f3⟩:=A
        exact⟨b,by grind,f3⟩)
      |(obtain⟨vs0,f1,f2⟩:=q2
        obtain⟨vs2,f3,f4⟩:=A
        refine⟨vs2,f3,f4.kS λu p hp⟨b,t1,t2⟩=>?_⟩
        obtain⟨l,hl⟩:=nO hp
        obtain⟨u0,_,b0,t3,_⟩:=f2.aE hl
        grind)
    ·cases y
  ·trivial
 ·intro k
  cases o:(fa args r (.box k)).v with
  |agg cs=>
   obtain⟨i,k',X,rfl,hi,g1,rfl,g2⟩:=H k cs o
   obtain⟨b,ws,el,lo,hi',f1,f2,f3,f4,f5⟩:=ek.cell n g1
   refine⟨b,ws,el,lo,hi',?_,hω i k' O b hi f2,f3,f4,f5.IP λu c m A=>Yh (Yg g2 m) A⟩
   have:=rE (fK hi) β
   grind [rF]
  |undef=>
   show gU ks β k=O
   cases WX:gU ks β k with
   |none=>rfl
   |some b=>
    grind [Yl,fa]
  |one c=>cases k<;>simp only[fa]at o<;>(try (split at o))<;>cases o
  |bw c=>cases k<;>simp only[fa]at o<;>(try (split at o))<;>cases o
 ·intro q j e xs u1 b1 A m hh E
  cases q with
  |tmp t=>
   cases t with
   |zero=>
    have Pz:r.v.cells[j]?=J (.ak e xs):=m
    rw[hv7]at Pz
    obtain⟨c0,q1,q2⟩:=B.aE Pz
    have:=q2.2 e xs rfl
    subst this
    have hp:=(p3.2 j _ _ q1 hh).2 e xs b1 rfl E
    simp_all [Aw]
   |succ t=>simp[fa,SV.cells]at m
  |bN i=>simp[aO.isArg]at A
  |box k=>
   cases hv:(fa args r (.box k)).v with
   |agg cs=>
    obtain⟨i,k',X,rfl,hi,g1,rfl,g2⟩:=H k cs hv
    rw[hv]at m
    have m:(X.map (tc ks))[j]?=J (.ak e xs):=m
    have hc0:X[j]?=J (.ak e xs):=by
     grind [Yi]
    have WX:gU ks β (.aB i)=β k':=by
     have:=rE (fK hi) β
     grind [rF]
    have Pr:cK (cY P N w0 vals kn f Z0) β a w (.box k') j=J u1:=by
     simp_all [cK]
    obtain⟨p1,p2⟩:=n.ak (.box k') j e xs u1 b1 rfl (by rw[g1];exact hc0) Pr E
    grind
   |undef=>simp_all [SV.cells]
   |one c=>cases k<;>simp only[fa]at hv<;>(try (split at hv))<;>cases hv
   |bw c=>cases k<;>simp only[fa]at hv<;>(try (split at hv))<;>cases hv
 ·intro i j e xs u1 b1 m hh E
  rw[z]at m
  split at m
  ·exact n.iS i j e xs u1 b1 m hh E
  ·simp[SV.cells]at m
 ·intro b g Y
  obtain⟨g',hg'⟩:=akA Y
  exact n.dZ b g' hg'
 ·intro k b Y
  obtain⟨i,hi,rfl⟩:=F k b Y
  rw[hidx i hi]
  exact n.og _ b Y
end
end
theorem Zj(t:Nat):∀(args:List SV)(i:Nat),lk t (u7 i args)=if i≤t∧t<i+Y args then J (I6 t (H args (t-i) .undef))else O|[],i=>by simp[u7,lk]|v::vs,i=>by simp only[u7,Pw];by_cases h:t=i;subst h;simp;rw[aV h,Zj t vs (i+1)];grind
theorem Zk:∀(a:List (List C))(i:Nat)(k:aC),n6 k (va i a)=match k with|.aB l=>if i≤l then a[l-i]? else O|_=>O
 |[],i,k=>by cases k<;>simp[va,n6]
 |b::a,i,k=>by simp only[va,n6];rw[Zk a (i+1) k];grind
section
variable{P:Program}{w:World}{vals:Array Value}{β:aC→Option Nat}{ω:Nat→Option cT}{Z:Nat→Prop}{args:List SV}{aI:List (List C)}
def Zl(t:Nat):((Av args aI).st (.tmp t)).v=if t<Y args then RV.gD {v:=H args t .undef} (.bN t)else .undef:=by show(X (lk t (u7 0 args))) .undef=_;grind [Zj,I6]
def Zm(k:aC):((Av args aI).st (.box k)).v=(dm args aI (.box k)).v:=by
 show(match n6 k (va 0 aI)with|some cs=>SV.agg cs|none=>.undef)=_
 grind [Zk,dm]
def I8(a:args.all lw=W){i j:Nat}{c:C}(b:(H args i .undef).cells[j]?=J c):qi c=W:=by
 rw[List.getD_eq_getElem?_getD]at b;cases hi:args[i]? with|none=>simp_all [SV.cells]|some v=>rw[hi]at b;have:=List.all_eq_true.1 a v (List.mem_of_getElem? hi);exact List.all_eq_true.1 this c (List.mem_of_getElem? b)
def akF{N:Nat}(a:aY (cY P 0 w vals β ω Z) β ω Z (dm args aI) {tmps:=#[],defers:=[]} w)(G:vals.size=args.length)(y:args.all lw=W)(H:aI.all (λb=>b.all (jE aI.length))=W)(Y:args.length≤N):aY (cY P N w vals β ω Z) β ω Z (Av args aI).st {tmps:=vals++Array.replicate (N-vals.size) undef,defers:=[]} w:=by
 have z:∀(i j:Nat)(c:C)(u:Value),qi c=W→aR (cY P 0 w vals β ω Z) β Z (dm args aI) {tmps:=#[],defers:=[]} w c u→aR (cY P N w vals β ω Z) β Z (Av args aI).st {tmps:=vals++Array.replicate (N-vals.size) undef,defers:=[]} w c u:=by intro i j c u g h;cases c<;>first|(cases g;done)|exact h
 refine⟨?_,⟨rfl,a.defers.2⟩,a.os,a.tape,a.output,a.base,a.frame,a.dp,a.lZ,?_,?_,?_,?_,?_,?_,a.dZ,a.og⟩;show(vals++Array.replicate (N-vals.size) undef).size=N;simp;omega;exact a.nj;intro t;rw[Zl];split;rename_i ht;have B:=a.gD (r:=.bN t) (a.args t) (λ_=>rfl);have A:(vals++Array.replicate (N-vals.size) undef).getD t undef=vals.getD t undef:=by simp_all [Array.getElem?_append_left]
 show bO _ ((vals++Array.replicate (N-vals.size) undef).getD t undef) _;rw[A];refine bO.oc (λj c u g K o=>?_) B.1;have m:=g;rw[Ij,xx]at m;simp only at m;cases p:(args.getD t .undef).cells[j]? with
 |none=>grind|some c0=>
  rw[p]at m;simp only[Option.map_some,Nat.zero_add,Option.some.injEq]at m;have l:=I8 y p;subst m;cases c0 with
  |ak e xs=>exact o|bj=>cases l
  |ea=>cases l
  |da=>cases l
  |bK=>cases l
  |d x=>exact o|aW k off=>exact o|dj f caps=>exact o
 trivial;intro i;refine bO.oc (λj c u g K o=>?_) (a.args i);exact z i j c u (I8 y g) o;intro k;rw[Zm];have s:=a.aI k;cases hv:(dm args aI (.box k)).v with
 |agg cs=>
  let⟨b,ws,el,lo,hi,R,S,T,V,X⟩:=ek.cell a hv;refine⟨b,ws,el,lo,hi,R,S,T,V,X.kS λu c g o=>ajJ (n:=aI.length) (Yk ?_ g) o⟩;cases k with|aB i=>grind [dm]|aw t=>simp[dm]at hv|cm t i=>simp[dm]at hv
 |undef=>rw[hv]at s;exact s|one c=>rw[hv]at s;exact ab1 s|bw c=>rw[hv]at s;exact ab1 s
 intro r j e xs D E o g F q;cases r with
 |tmp t=>
  rw[Zl]at g;split at g;exfalso;rw[Ij,xx]at g;cases p:(args.getD t .undef).cells[j]? with|none=>grind|some c0=>simp only at g;rw[p]at g;simp only[Option.map_some,Option.some.injEq]at g;exact OE _ _ _ _ e xs g
  simp[SV.cells]at g
 |bN i=>simp[aO.isArg]at o|box k=>rw[Zm]at g;exact a.ak (.box k) j e xs D E rfl g F q
 intro i j e xs D E g F q;exact a.iS i j e xs D E g F q
def I9(c:aY (cY P 0 w vals β ω Z) β ω Z (dm args aI) {tmps:=#[],defers:=[]} w):∀k b,β k=J b→∃i,i<Y aI∧k=.aB i:=by
 intro k b a;have h:=c.aI k;cases k with
 |aB i=>
  by_cases hi:i<Y aI;exact⟨i,hi,rfl⟩;have hv:(dm args aI (.box (.aB i))).v=.undef:=by simp[dm,List.getElem?_eq_none (Nat.le_of_not_lt hi)]
  rw[hv]at h;simp only[ek]at h;rw[h]at a;cases a
 |aw t=>simp only[dm,ek]at h;rw[h]at a;cases a
 |cm t i=>simp only[dm,ek]at h;rw[h]at a;cases a
def iD(P:Program)(f:dT)(F:rj):Prop:=∀(args:List SV)(aI:List (List C))(r:ri),F args aI=J r→∀(w:World)(vals:Array Value)(β:aC→Option Nat)(ω:Nat→Option cT)(Z:Nat→Prop),vals.size=Y args→args.all lw=W→aI.all (λb=>b.all (jE (Y aI)))=W→aY (cY P 0 w vals β ω Z) β ω Z (dm args aI) {tmps:=#[],defers:=[]} w→ez P f vals w λe w'=>∃v a ω' Z',e=.returned v∧aY (cY P 1 w vals β ω Z) a ω' Z' (fa args r) {tmps:=#[v],defers:=[]} w'
def akG{P:Program}{f:dT}{fn:Func}{c:Code}(b:P.funcs[f]?=J fn)(a:(fn.name== "runtime.NumGoroutine")=I)(d:fn.body=J c)(args:Array Value)(w:World):(callFunc f args).run P w=.ok (.enter f args) w:=by simp_all [callFunc]
theorem qk{f:dT}{fn:Func}{c:Code}{F:rj}(i:P.funcs[f]?=J fn)(a:(fn.name== "runtime.NumGoroutine")=I)(j:fn.body=J c)(h:iD P f F):lx P f F:=λargs aI r k w vals β ω Z d e g b=>.inl ⟨akG i a j vals w,h args aI r k w vals β ω Z d e g b⟩
end
open Go.ChangeShapes
def Ja(c:TypeId→M D→Prop):M (U×TypeId)→M D→Prop|[],ds=>ds=[]|(_,t)::r,ds=>∃a b,ds=a++b∧c t a∧Ja c r b
def om(af:bM):U→TypeId→M D→Prop
 |0,_,_=>jn|n+1,t,ds=>match af.ti t with
  |some {kind:=.bool, ..}=>∃b,ds=[.bool b]|some {kind:=.int k, ..}=>∃x,ds=[.int k x]∧k.min≤x∧x≤k.max|some {kind:=.bh, ..}=>∃s,ds=[.bh s]∧Y s≤maxLen|some {kind:=.slice e, ..}=>match af.ti e with|some i=>ds=[.nil]∨∃xs,ds=[.sl i.size xs]∧Y xs≤maxLen∧∀x∈xs,om af n e x|none=>jn
  |some {kind:=.struct fs, ..}=>Ja (om af n) fs ds|_=>jn
def vf(af:bM)(p:TypeId→Bool):M (U×TypeId)→U→U→Bool
 |[],o,size=>o==size|(off,t)::r,o,size=>match af.ti t with|some i=>off==o&&p t&&vf af p r (o+i.size) size|none=>I
def oq(af:bM):U→TypeId→Bool
 |0,_=>I|n+1,t=>match af.ti t with
  |some {kind:=.bool,size, ..}=>size==1|some {kind:=.int _,size, ..}=>size==1|some {kind:=.bh,size, ..}=>size==1|some {kind:=.slice e,size, ..}=>size==1&&oq af n e&&(match af.ti e with|some i=>decide (0<i.size)&& !ca i.size|none=>I)
  |some {kind:=.struct fs,size, ..}=>vf af (oq af n) fs 0 size|_=>I
mutual
def vg:D→U|.bh s=>Y s+1|.sl _ xs=>pl xs+1|_=>1
def iV:M D→U|[]=>0|d::r=>vg d+iV r
def pl:M (M D)→U|[]=>0|x::r=>iV x+pl r
end
def Jb:∀(a b:M D),iV (a++b)=iV a+iV b|[],b=>by simp[iV]|d::a,b=>by simp[iV,Jb a b];omega
structure ql(H:Type)where
 one:DataW H→Nat
 all:List (DataW H)→Nat
 bh:∀b,one (.lit (.string b))=Y b+1
 slice:∀x y,one (.slice x y)=all x+all y+1
 agg:∀x,one (.agg x)=all x+1
 pos:∀d,1≤one d
 nil:all []=0
 cons:∀d r,all (d::r)=one d+all r
def Zn{α β:Type}{f:α→Q β}:∀{l:M α}{r:M β},l.mapM f=J r→Y r=Y l∧∀(i:U)(x:α),l[i]?=J x→∃y,r[i]?=J y∧f x=J y|[],r,h=>by grind|a::l,r,h=>by simp only[List.mapM_cons,Option.bind_eq_bind,Option.pure_def]at h;let⟨b,d,h⟩:=Ww.1 h;let⟨e,c,h⟩:=Ww.1 h;cases h;let⟨h1,h2⟩:=Zn c;grind
def PA{w:World}{base:U}{a:Addr}{n:U}{cs:M Value}(h:w.cells? base a n=J cs):Y cs=n∧∀i,i<n→w.cell? (a.add i)=cs[i]? :=by unfold World.cells? at h;split at h;let⟨h1,h2⟩:=Zn h;simp only[List.length_range]at h1;refine⟨h1,λi hi=>?_⟩;let⟨y,b,c⟩:=h2 i i (by simp[hi]);rw[b];exact c;cases h
section
variable{H:Type}{enc:TypeId×Value→H}{P:Program}{w:World}{held:Bool}{af:bM}
def Zo(B:ql H):∀(l:M (jo H))(f:M (M D)),aQ (λd x=>iV x≤B.one d) l f→pl f≤B.all l|[],[],_=>by simp[pl]|d::l,x::f,h=>by have:=Zo B l f h.2;have:=h.1;simp only[pl,B.cons];omega
def akH(hT:ip P af)(B:ql H){c:TypeId→M D→Prop}{p:TypeId→Bool}{fuel:U}{cs:M Value}{size:U}(r:cs.length=size) (u:∀t cs x,p t=W→Wx enc P w 0 (λ_=>W) held fuel t cs=J x→∃ds,aQ (λv d=>bA w (λb=>b<w.heap.size) d v) cs ds∧c t ds∧iV ds≤B.one x.1):
  ∀(fs:M Field)(o:U)(xs:M (jo H×M MemPlace)),vf af p (fs.map λf=>(f.offset,f.type)) o size=W→o≤size→
   xs.length=fs.length→(∀(i:U)(f:Field),fs[i]?=J f→Wx enc P w 0 (λ_=>W) held fuel f.type ((cs.drop f.offset).take (P.cellsOf f.type))=xs[i]?)→
   ∃ds,aQ (λv d=>bA w (λb=>b<w.heap.size) d v) (cs.drop o) ds∧Ja c (fs.map λf=>(f.offset,f.type)) ds∧iV ds≤B.all (xs.map (·.1)):=by
 intro fs
 induction fs with
 |nil=>intro o xs e z k h;simp only[List.map_nil,vf,dL]at e;refine⟨[],?_,rfl,by simp[iV]⟩;rw[List.drop_eq_nil_of_le (by omega)];trivial
 |cons f fs m=>
  intro o xs e z k h;simp only[eU,vf]at e;split at e;rename_i i hi;simp only[Bool.and_eq_true,dL]at e;let⟨⟨h1,h2⟩,h3⟩:=e;have n:P.cellsOf f.type=i.size:=by let⟨info,d,A,R,C,_⟩:=sO (hT.T _ _ hi);simp[Program.cellsOf,A,C]
  obtain⟨x,xs',rfl⟩:∃x xs',xs=x::xs':=by
   cases xs with|nil=>simp at k|cons x xs'=>exact⟨x,xs',rfl⟩
  have s:=h 0 f rfl;simp only[iA]at s;let⟨a,E,F,S⟩:=u _ _ _ h2 s;rw[n,h1]at E;have q:∀(l:M (U×TypeId))(o:U),vf af p l o size=W→o≤size:=by
   intro l;induction l with|nil=>simp_all [vf]|cons y l G=>grind [vf]
  have j:=q _ _ h3;let⟨b,V,K,X⟩:=m (o+i.size) xs' h3 j (by simpa using k) (λl g N=>by have:=h (l+1) g (by simpa using N);simpa using this);refine⟨a++b,?_,⟨a,b,rfl,F,K⟩,?_⟩;grind [List.drop_drop,List.take_append_drop,aQ.append];rw[Jb,eU,B.cons];omega;cases e
def akI(hT:ip P af)(B:ql H):∀(n:U)(t:TypeId)(fuel:U)(cs:M Value)(x:jo H×M MemPlace),oq af n t=W→Wx enc P w 0 (λ_=>W) held fuel t cs=J x→∃ds,aQ (λv d=>bA w (λb=>b<w.heap.size) d v) cs ds∧om af n t ds∧iV ds≤B.one x.1:=by
 intro n;induction n with
 |zero=>simp_all [oq]|succ n ih=>
  intro t fuel cs x hp h;simp only[oq]at hp;simp only[om];split at hp;rename_i size bytes zero c;let⟨d,hd,hk,_⟩:=fe (w:=w) (hT.T _ _ c);have:=OM hk;subst this;obtain⟨b,rfl,rfl⟩:=DataW.trod_bool hd h;exact⟨[.bool b],⟨rfl,trivial⟩,⟨_,rfl⟩,by simpa[iV,vg]using B.pos _⟩;rename_i size bytes k zero c;let⟨d,hd,hk,_⟩:=fe (w:=w) (hT.T _ _ c);have:=xC hk;subst this;obtain⟨b,rfl,rfl,hwf⟩:=DataW.trod_int hd h;simp only[Lit.wf,Bool.and_eq_true,eY]at hwf;exact⟨[.int k b],⟨rfl,trivial⟩,⟨_,rfl,hwf⟩,by simpa[iV,vg]using B.pos _⟩;rename_i size bytes zero c;let⟨d,hd,hk,_⟩:=fe (w:=w) (hT.T _ _ c);have:=sP hk;subst this;obtain⟨b,rfl,rfl,hwf⟩:=DataW.trod_string hd h;refine⟨[.bh (T b.data)],⟨?_,trivial⟩,⟨_,rfl,?_⟩,?_⟩;simp[bA];simp_all;simp[iV,vg,B.bh];rename_i size bytes e zero c;let⟨d,hd,hk,_⟩:=fe (w:=w) (hT.T _ _ c);have:=oh hk;subst this;simp only[Bool.and_eq_true]at hp;let⟨⟨_,hpe⟩,g⟩:=hp;split at g;rename_i i hi;obtain⟨g,R⟩:0<i.size∧ca i.size=I:=by simpa using g
  have r:P.cellsOf e=i.size:=by let⟨info,d,s,C,S,_⟩:=sO (hT.T _ _ hi);simp[Program.cellsOf,s,S]
  rcases DataW.trod_slice hd h with⟨rfl,rfl⟩|⟨a,len,cap,mr,rest,m,_,rfl,rfl,hb,hl,hm,q,V,X,_⟩
  exact⟨[.nil],⟨rfl,trivial⟩,.inl rfl,by simpa[iV,vg]using B.pos _⟩;let⟨hrl,o⟩:=X rfl;rw[r]at V o;have eJ:∀(j:U)(y:jo H×M MemPlace),mr[j]?=J y→∃ds cs,w.cells? 0 (a.add (j*i.size)) i.size=J cs∧aQ (λv d=>bA w (λb=>b<w.heap.size) d v) cs ds∧om af n e ds∧iV ds≤B.one y.1:=by grind [Ww]
  let⟨f,K⟩:=Go.Deep.choose_lt (α:=M D) (n:=len) (p:=λj ds=>∃y cs,mr[j]?=J y∧w.cells? 0 (a.add (j*i.size)) i.size=J cs∧aQ (λv d=>bA w (λb=>b<w.heap.size) d v) cs ds∧om af n e ds∧iV ds≤B.one y.1) (λj hj=>by grind);have u:∀(j:U)(x:M D),((iz len).map f)[j]?=J x→j<len∧x=f j:=by grind
  have z:cap=0∨a.spot=O∧a.block<w.heap.size:=by
   rcases Nat.eq_zero_or_pos cap with hc|hc
   exact .inl hc;right;have A:∃v,w.cell? a=J v:=(by by_cases h0:0<len;let⟨y,cs,q1,E,Y⟩:=K 0 h0;let⟨s,C⟩:=PA E;grind [Addr.add];have:=o 0 (by omega);rw[eM (by omega)]at this;let⟨cs,E,_⟩:=Ww.1 this;let⟨s,C⟩:=PA E;grind [Addr.add]);let⟨v,hv⟩:=A;unfold World.cell? at hv;split at hv;rename_i hw;split at hv;cases hv;rename_i hs;exact⟨by simpa using hs,(pR.1 hw).1⟩;cases hv
  refine⟨[.sl i.size ((iz len).map f)],⟨(bA.ik R).2 ⟨a,cap,by simp,z,by simpa using hl,?_⟩,trivial⟩,.inr ⟨_,rfl,by grind,λx N=>?_⟩,?_⟩;refine dy.dX λj x N=>?_;obtain⟨hj,rfl⟩:=u j x N;let⟨y,cs,q1,E,Y,q4,q5⟩:=K j hj;let⟨s,C⟩:=PA E;have Z:(f j).length=i.size:=by rw[←Y.length,s]
  refine⟨Z,fB.dX λl d hd=>?_⟩;let⟨v,e1,e2⟩:=Y.aE hd;grind [rC,xw];grind;have F:aQ (λ(d:jo H)(x:M D)=>iV x≤B.one d) (mr.map (·.1)) ((iz len).map f):=by grind [aQ.dX]
  have:=Zo B _ _ F;simp only[iV,vg,B.slice];omega;cases g;rename_i size bytes fs zero c;let⟨d,hd,hk,_⟩:=fe (w:=w) (hT.T _ _ c);obtain⟨fields,rfl,rfl⟩:=CY hk;obtain⟨xs,m,_,rfl,q,hxl,G⟩:=DataW.trod_struct hd h;have r:P.cellsOf t=size:=by let⟨info,d,s,C,S,_⟩:=sO (hT.T _ _ c);simp_all [Program.cellsOf]
  let⟨ds,s,C,S⟩:=akH hT B (ab0 q r) (λt cs x hp N=>ih t m cs x hp N) (T fields) 0 xs hp (fV _) (by simpa using hxl) (λi f K=>G i f (by simpa using K));grind [ql.agg];cases hp
def rH(af:bM)(t:TypeId)(ds:M D):SV:=
 match af.ti t with|some i=>if i.kind.agg then .agg (ds.map .d)else .one (.d (ds.headD .nil))|none=>.undef
def Zp{α β c:Type}{R:α→c→Prop}(f:β→c):∀{as:M α}{d:M β},aQ (λa b=>R a (f b)) as d→aQ R as (d.map f)|[],[],_=>trivial|_::_,_::_,h=>⟨h.1,Zp f h.2⟩
def akJ{r:Reach}{base:U}{t:TypeId}{v:Value}{d:TypeDesc}(hd:acK P t=J d)(hk:(tk d).agg=I)(a:tk d=.bool∨(∃k,tk d=.int k)∨tk d=.bh∨∃e,tk d=.slice e)(h:Value.okWide P w r base t v):hJ v=W:=by
 have:∃x,d=.bool∨d=.string∨(∃k,d=.int k)∨d=.slice x:=by
  rcases a with h|⟨k,h⟩|h|⟨e,h⟩
  ·exact⟨0,.inl (OM h)⟩
  ·exact⟨0,.inr (.inr (.inl ⟨k,xC h⟩))⟩
  ·exact⟨0,.inr (.inl (sP h))⟩
  ·exact⟨e,.inr (.inr (.inr (oh h)))⟩
 obtain⟨x,h1⟩:=this
 rcases h1 with rfl|rfl|⟨k,rfl⟩|rfl<;>
 ·simp only[Value.okWide,hd,Cell.okWide,Cell.ok]at h
  cases v<;>first|rfl|(exact ab1 h)
def akK(hT:ip P af)(B:ql H){n:U}{t:TypeId}{v:Value}{d:jo H}{ps:M MemPlace}{r:Reach}{base:U}(hp:oq af n t=W)(f:Value.okWide P w r base t v)(h:DataW.Trod enc P w 0 (λ_=>W) held t v d ps):∃ds,om af n t ds∧iV ds≤B.one d∧lw (rH af t ds)=W∧∀(K:dh)(β:aC→Q U)(s:St)(a:Act),bO (aR K β (λb=>b<w.heap.size) s a w) v (rH af t ds):=by
 let⟨fuel,m⟩:=h;let⟨ds,h1,h2,h3⟩:=akI hT B n t fuel _ _ hp m;refine⟨ds,h2,h3,?_⟩;cases n with|zero=>simp[oq]at hp|succ n=>
 have c:∀(i:TI),af.ti t=J i→i.kind.agg=I→(i.kind=.bool∨(∃k,i.kind=.int k)∨i.kind=.bh∨∃e,i.kind=.slice e)→lw (rH af t ds)=W∧∀(K:dh)(β:aC→Q U)(s:St)(a:Act),bO (aR K β (λb=>b<w.heap.size) s a w) v (rH af t ds):=by
  intro i hi l hk;let⟨d,hd,g,_⟩:=fe (w:=w) (hT.T _ _ hi);rw[←g]at l hk;have j:=akJ hd l hk f;rw[lX j]at h1;match ds,h1 with|[x],h1=>rw[g]at l;simp only[rH,hi,l];exact⟨rfl,λK β s a=>⟨j,h1.1⟩⟩
 simp only[oq]at hp;split at hp;rename_i hi;exact c _ hi rfl (.inl rfl);rename_i hi;exact c _ hi rfl (.inr (.inl ⟨_,rfl⟩));rename_i hi;exact c _ hi rfl (.inr (.inr (.inl rfl)));rename_i hi;exact c _ hi rfl (.inr (.inr (.inr ⟨_,rfl⟩)));rename_i size bytes fs zero hi;let⟨d,hd,hk,_⟩:=fe (w:=w) (hT.T _ _ hi);obtain⟨fields,rfl,rfl⟩:=CY hk;simp only[Value.okWide,hd]at f;obtain⟨cs,rfl,_⟩:=f;simp only[rH,hi,TK.agg,bI];refine⟨by simp[lw,SV.cells,qi],λK β s a=>⟨cs,rfl,Zp _ h1⟩⟩;cases hp
end
open Go.RowKit
def ko(af:bM):M TypeId→M (M D)→M SV|t::ts,ds::a=>rH af t ds::ko af ts a|_,_=>[]
section
variable{H:Type}{enc:TypeId×Value→H}{P:Program}{W:World}{af:bM}
theorem Zq:∀(ts:M TypeId)(a:M (M D)),Y a=Y ts→Y (ko af ts a)=Y ts|[],[],_=>rfl|t::ts,ds::a,h=>by simp[ko,Zq ts a (by simpa using h)]|[],_::_,h=>by simp at h|_::_,[],h=>by simp at h
def akL(hT:ip P af)(B:ql H)(n:U){r:Reach}{base:U}:∀(ts:M TypeId)(vs:M Value)(ds:M (jo H))(ps:M MemPlace),(∀t∈ts,oq af n t=true)→(∀(j:U)t v,ts[j]?=J t→vs[j]?=J v→Value.okWide P W r base t v)→ahL enc P W 0 (λ_=>true) true ts vs ds ps→
  (Y ds)=Y ts∧Y vs=Y ts∧∃c,Y c=Y ts∧aQ (λt x=>om af n t x) ts c∧pl c≤B.all ds∧(ko af ts c).all lw=true∧
    ∀(K:dh)(β:aC→Q U)(s:St)(a:Act)(i:U),bO (aR K β (λb=>b<W.heap.size) s a W) (vs.getD i undef) ((ko af ts c).getD i .undef):=by
 intro ts
 induction ts with
 |nil=>intro vs ds ps _ _ h;obtain⟨rfl,rfl,_⟩:=trodAll_nil h;exact⟨rfl,rfl,[],rfl,trivial,by simp[pl],rfl,λ_ _ _ _ i=>by simp[ko,bO]⟩
 |cons t ts l=>
  intro vs ds ps hp e h;obtain⟨v,f,d,g,p,q,rfl,rfl,rfl,hd,m⟩:=trodAll_cons h;let⟨x,o,C,D,u⟩:=akK (w:=W) hT B (hp t (lf ..)) (e 0 t v rfl rfl) hd;let⟨y,z,c,h1,h2,h3,E,A⟩:=l f g q (λt k=>hp t (i7 _ k)) (λj t v k hv=>e (j+1) t v (by simpa using k) (by simpa using hv)) m;refine⟨by simp[y],by simp[z],x::c,by simp[h1],⟨o,h2⟩,?_,?_,λK β s a i=>?_⟩;simp only[pl,B.cons];omega;grind [ko];cases i with|zero=>exact u K β s a|succ i=>exact A K β s a i
def akM{g:World}(i:laidOutB P=true)(j:c7 W.heap.size W g):∀(ts:M TypeId)(vs:M Value)(ds:M (jo H))(ps:M MemPlace),(∀t∈ts,P.readableRec t=true∧t<P.types.size)→(∀x∈ps,x.block<W.heap.size)→ahL enc P W 0 (λ_=>true) true ts vs ds ps→ahL enc P g 0 (λb=>decide (b<W.heap.size)) true ts vs ds ps:=by
 intro ts;induction ts with
 |nil=>intro vs ds ps _ _ h;obtain⟨rfl,rfl,rfl⟩:=trodAll_nil h;exact trodAll_mk0
 |cons t ts k=>intro vs ds ps hp a h;obtain⟨v,c,d,e,p,q,rfl,rfl,rfl,hd,l⟩:=trodAll_cons h;let⟨m,n⟩:=hp t (lf ..);exact trodAll_cons_mk (Below.trod i m n hd j λx f=>a x (List.mem_append_left _ f)) (k c e q (λt o=>hp t (i7 _ o)) (λx f=>a x (List.mem_append_right _ f)) l)
def akN{base:U}{args:bW Value}{ds gs:M (jo H)}{s:M MemPlace}{f:dT}{fn:Func}{sp:ChangeSpec}{F:rj}{n:U}{ts:M TypeId}{tb:TypeId} (hF:iD P f F)(hT:ip P af)(m:sp.vars=[])(o:fn.params.toList=ts)(R:fn.resultTypes=#[tb])(z:acK P tb=J .bool) (u:∀t∈ts,oq af n t=true)(S:laidOutB P=true)(T:∀t∈ts,P.readableRec t=true∧t<P.types.size)(B:ql H) (E:∀a,a.length=ts.length→aQ (λt x=>om af n t x) ts a→pl a≤B.all ds→F (ko af ts a) []=J {v:=.one (.d (.bool true)),aI:=[],cH:=[]}) (G:∀ds:M (jo H),ds.length=ts.length→sp.fn H (ds++[])={results:=[.lit (.bool true)],args:=ds}) (c:(∀g l,(g,l)∈ry P→g<W.heap.size∧oa W g l)∧∀g,g∈sM P→g<W.heap.size∧uN W g) (K:∀(j:U)t v,fn.params[j]?=J t→args[j]?=J v→Value.okWide P W .any base t v) (V:DataW.Whole enc P fn.params.toList sp.vars I W args.toList ds gs s):ez P f args W λe W'=>∃v,e=.returned v∧sp.post enc P fn I true I I W args v W':=by
 have hlt:=V.lt;have X:=V;obtain⟨p,q,hA,hV,rfl,hfz,hnd⟩:=V;rw[m]at hV;obtain⟨rfl,rfl⟩:=trodVars_none hV;rw[o]at hA;let⟨l1,l2,a,h1,h2,h3,h4,h5⟩:=akL hT B n ts args.toList ds p u (λj t v ht hv=>K j t v (by grind) (by simpa using hv)) hA;have N:aY (cY P 0 W args (λ_=>O) (λ_=>O) (λb=>b<W.heap.size)) (λ_=>O) (λ_=>O) (λb=>b<W.heap.size) (dm (ko af ts a) []) {tmps:=#[],defers:=[]} W:=by
  have A:∀k,(dm (ko af ts a) [] (.box k)).v=.undef:=by intro k;cases k<;>simp[dm]
  refine⟨rfl,⟨rfl,λg l C=>⟨(c.1 g l C).1,(c.1 g l C).1,λh=>h rfl,(c.1 g l C).2⟩,λg C=>⟨(c.2 g C).1,(c.2 g C).1,λh=>h rfl,(c.2 g C).2⟩⟩,rfl,rfl,rfl,dR _,λ_ _ _=>rfl,λ_ h=>h,λ_ h=>h,λb hb=>.inl hb,?_,?_,?_,?_,?_,?_,λ_ _ h=>h⟩;intro t;exact trivial;intro i;have:=h5 (cY P 0 W args (λ_=>O) (λ_=>O) (λb=>b<W.heap.size)) (λ_=>O) (dm (ko af ts a) []) {tmps:=#[],defers:=[]} i;have e:args.toList.getD i undef=args.getD i undef:=by simp_all
  rw[e]at this;exact this;intro k;rw[A];exact rfl;intro r j e xs u1 b1 y Y hh Z;cases r with|tmp t=>simp[dm,SV.cells]at Y|bN i=>simp[aO.isArg]at y|box k=>simp_all [SV.cells]
  intro i j e xs u1 b1 Y hh Z;exfalso;have Pz:((ko af ts a).getD i .undef).cells[j]?=J (.ak e xs):=Y;have key:∀(ts:M TypeId)(a:M (M D))(i j:U),((ko af ts a).getD i .undef).cells[j]?≠J (.ak e xs):=by
   intro ts;induction ts with
   |nil=>intro a i j;simp[ko,SV.cells]
   |cons t ts ih=>
    intro a i j;cases a with
    |nil=>simp[ko,SV.cells]|cons x a=>
     cases i with|zero=>grind [ko,rH,SV.cells]|succ i=>simpa[ko]using ih a i j
  grind;intro b g h;cases h
 have hsz:args.size=(ko af ts a).length:=by grind [Zq]
 refine(hF _ _ _ (E a h1 h2 h3) W args _ _ _ hsz h4 rfl N).mono ?_;rintro e W' ⟨v,β',ω',Z',rfl,y⟩;have hv:v=.bool true:=by have:=y.tmps 0;exact this.2
 subst hv;have w:c7 W.heap.size W W':=⟨y.os,y.tape,y.output,y.base,λk hk=>y.frame k hk (λh=>h rfl)⟩;refine⟨_,rfl,ds,[],p++[],[],p,[],X,?_,?_,?_,w.frame _,λh=>by cases h⟩;rw[G ds l1,R];exact trodAll_cons_mk (shut_bool z _) trodAll_mk0;simp_all [akM];rw[G ds l1,m];rfl
end
open Go
def acf{P:ew}{w:bZ}{g:U}{t:bq}{zero:bW aJ}(h:w.ShapedOpen P)(i:g<P.globals.size) (j:((begin P (λ_ _=>0) default).world.heap[g]?).bind Obj.row?=J (zero,t))(o:zero.size=1) (k:P.buildable t=W)(l:P.cellTypes P.depth t=J [t])(m:P.underlying t=J (.int .i64)):g<w.heap.size∧uN w g:=by
 let⟨cs,f,p,n⟩:=h.1 g zero t i j;let⟨ts,c,_,d⟩:=n k;rw[l]at c;cases c;have h1:0<cs.size:=by omega
 let⟨u,e,a⟩:=d 0 cs[0] (by simp[h1]);have:u=t:=by simpa using e.symm
 subst this;have b:w.cell? ⟨g,0,O⟩=J cs[0]:=by simp[World.cell?,f,h1]
 refine⟨(pR.1 f).1,?_⟩;unfold uN;rw[b];unfold Cell.ok at a;rw[m]at a;cases hv:cs[0]<;>rw[hv]at a<;>first|(obtain⟨rfl,_⟩:=a;exact⟨_,rfl⟩)|simp at a
def zc:Q TypeDesc→Sc→az|some (.int k'),.int k=>decide (k'=k)|some .bool,.bool=>W|some .string,.bh=>W|_,_=>I
def BU(P:ew):M Field→M Sc→U→az|[],[],_=>W|f::fs,k::sh,j=>f.name != "_" &&adV f==j&&zc (acK P f.type) k&&BU P fs sh (j+1)|_,_,_=>I
def S0{w:bZ}{Z:U→Prop}{us:M aJ}{j:U}{d:D}{ds:M D}(h:DL w Z (us.drop j) (d::ds)):∃v,us[j]?=J v∧bA w Z d v∧DL w Z (us.drop (j+1)) ds:=by
 have e:(us.drop j)[0]?=us[j]? :=by grind
 have a:us.drop (j+1)=(us.drop j).drop 1:=by rw[List.drop_drop]
 rw[←e,a];generalize us.drop j=l at h;match l,h with|v::l,h=>exact⟨v,rfl,h.1,h.2⟩
def acA{P:ew}{w:bZ}{Z:U→Prop}(d:U)(xs ys:bW aJ):∀(fs:M Field)(sh:M Sc)(j:U)(ds es:M D),BU P fs sh j=W→cB sh ds=W→cB sh es=W→DL w Z ((T xs).drop j) ds→DL w Z ((T ys).drop j) es→(Wy (d+1) xs ys fs).run P w=.ok (dG ds es) w
 |[],sh,j,ds,es,i,h1,h2,_,_=>by
  cases sh with
  |cons=>cases i
  |nil=>
   cases ds with
   |cons=>cases h1
   |nil=>
    cases es with
    |cons=>cases h2
    |nil=>simp[Wy,dG]
 |f::fs,sh,j,ds,es,i,h1,h2,h3,p=>by
  cases sh with
  |nil=>cases i
  |cons k sh=>
   simp only[BU,ck,bne_iff_ne,dL]at i;let⟨⟨⟨f1,f2⟩,f3⟩,f4⟩:=i;cases ds with
   |nil=>cases k<;>cases h1
   |cons a ds=>
    cases es with
    |nil=>cases k<;>cases h2
    |cons b es=>
     let⟨u,q,u2,u3⟩:=S0 h3;let⟨v,v1,g,s⟩:=S0 p;have t:xs[adV f]?=J u:=(by rw[f2];simpa using q);have hv:ys[adV f]?=J v:=(by rw[f2];simpa using v1);have key:P.plainKey f.type=W→(∀(r:az),r=jS a b→(Ht (d+1) f.type u v).run P w=.ok r w)→cB sh ds=W→cB sh es=W→(Wy (d+1) xs ys (f::fs)).run P w=.ok (dG (a::ds) (b::es)) w:=by
      intro hp h m n;have x:=acA d xs ys fs sh (j+1) ds es f4 m n u3 s;simp only[Wy,ne_eq,f1,not_false_eq_true,bI,dC,ahP w hp t,ahP w hp hv,dF,h _ rfl];cases o:jS a b with|true=>simp[dG,o,x]|false=>simp[dG,o]
     cases k with
     |int k=>
      cases a<;>simp only[cB,ck,eY,bL]at h1;cases b<;>simp only[cB,ck,eY,bL]at h2;obtain⟨rfl,m⟩:=h1;let⟨e,n⟩:=h2;subst e;cases c:acK P f.type with
      |none=>rw[c]at f3;cases f3
      |some l=>rw[c]at f3;cases l<;>first|(simp only[zc,bL]at f3;done)|skip;refine key (by simp[HJ,c]) (λr h=>?_) m n;have u2:u=_:=u2;have g:v=_:=g;subst h;rw[u2,g,run_equalIn_int w d f.type _ _ _ _ c];rfl
     |bool=>
      cases a<;>simp only[cB,bL]at h1;cases b<;>simp only[cB,bL]at h2;cases c:acK P f.type with
      |none=>rw[c]at f3;cases f3
      |some l=>rw[c]at f3;cases l<;>first|(simp only[zc,bL]at f3;done)|skip;refine key (by simp[HJ,c]) (λr h=>?_) h1 h2;have u2:u=_:=u2;have g:v=_:=g;subst h;rw[u2,g,run_equalIn_bool' w d f.type _ _ c];rfl
     |bh=>
      cases a<;>simp only[cB,bL]at h1;cases b<;>simp only[cB,bL]at h2;cases c:acK P f.type with
      |none=>rw[c]at f3;cases f3
      |some l=>rw[c]at f3;cases l<;>first|(simp only[zc,bL]at f3;done)|skip;refine key (by simp[HJ,c]) (λr h=>?_) h1 h2;have u2:u=_:=u2;have g:v=_:=g;grind [run_equalIn_string,ByteArray.toList_eq,jS]
def acB{P:ew}{w:bZ}{Z:U→Prop}(em:az)(d:U)(xs:bW aJ):∀(fs:M Field)(sh:M Sc)(j:U)(ds:M D),BU P fs sh j=W→cB sh ds=W→
  DL w Z ((T xs).drop j) ds→(forIn (m:=Sem) fs zP λf _=>do
   if f.name≠ "_" then do
    m6 em (d+1) f.type (←part f.type xs (adV f))
    pure (HB zP)
   else pure (HB zP)).run P w=.ok zP w
 |[],sh,j,ds,e,h1,_=>by simp|f::fs,sh,j,ds,e,h1,h3=>by
  cases sh with
  |nil=>cases e
  |cons k sh=>
   simp only[BU,ck,bne_iff_ne,dL]at e;let⟨⟨⟨f1,f2⟩,f3⟩,f4⟩:=e;cases ds with
   |nil=>cases k<;>cases h1
   |cons a ds=>
    let⟨u,g,u2,u3⟩:=S0 h3;have i:xs[adV f]?=J u:=by rw[f2];simpa using g
    have key:P.plainKey f.type=W→(m6 em (d+1) f.type u).run P w=.ok () w→cB sh ds=W→(forIn (m:=Sem) (f::fs) zP λf _=>do
      if f.name≠ "_" then do
       m6 em (d+1) f.type (←part f.type xs (adV f))
       pure (HB zP)
      else pure (HB zP)).run P w=.ok zP w:=by
     intro hp l h
     have n:=acB em d xs fs sh (j+1) ds f4 h u3
     simp_all [ahP]
    cases k with
    |int k=>
     cases a<;>simp only[cB,ck,eY,bL]at h1;cases b:acK P f.type with
     |none=>rw[b]at f3;cases f3
     |some c=>rw[b]at f3;cases c<;>first|(simp only[zc,bL]at f3;done)|skip;refine key (by simp[HJ,b]) ?_ h1.2;have u2:u=_:=u2;rw[u2];simp[m6,lh b]
    |bool=>
     cases a<;>simp only[cB,bL]at h1;cases b:acK P f.type with
     |none=>rw[b]at f3;cases f3
     |some c=>rw[b]at f3;cases c<;>first|(simp only[zc,bL]at f3;done)|skip;refine key (by simp[HJ,b]) ?_ h1;have u2:u=_:=u2;rw[u2];simp[m6,lh b]
    |bh=>
     cases a<;>simp only[cB,bL]at h1;cases b:acK P f.type with
     |none=>rw[b]at f3;cases f3
     |some c=>rw[b]at f3;cases c<;>first|(simp only[zc,bL]at f3;done)|skip;refine key (by simp[HJ,b]) ?_ h1;have u2:u=_:=u2;rw[u2];simp[m6,lh b]
def Gf{P:ew}{t:bq}{sh:M Sc}(h1:acK P t=J (.struct (P.fieldsOf t)))(h2:P.stoodInHeld t=I)(h3:P.eqGuardType P.depth t=I)(a:BU P (T (P.fieldsOf t)) sh 0=W):C3 P t sh:=by
 have b:∀(w:bZ)(Z:U→Prop)(xs ys:bW aJ)(ds es:M D),DL w Z (T xs) ds→DL w Z (T ys) es→cB sh ds=W→cB sh es=W→(Ht 10000 t (.agg xs) (.agg ys)).run P w=.ok (dG ds es) w:=by intro w Z xs ys ds es c hy f1 f2;rw[show(10000:U)=9998+1+1 from rfl,run_equalIn_struct w (9998+1) t xs ys h1 h2];exact acA 9998 xs ys _ sh 0 ds es a f1 f2 (by simpa using c) (by simpa using hy)
 refine⟨?_,?_,?_,⟨_,h1⟩⟩;grind [dC,run_eqGuard_agg,dF,run_eql_struct,run_neq_struct];intro w ds es f1 f2;exact b w (λ_=>dK) _ _ ds es (by simpa using uQ f1) (by simpa using uQ f2) f1 f2;intro w ds em f1;rw[show(10000:U)=9998+1+1 from rfl];unfold m6;simp only[dC,lh h1,dF,sQ];have:=acB (P:=P) (w:=w) (Z:=λ_=>dK) em 9998 (abf (ds.map iL)) (T (P.fieldsOf t)) sh 0 ds a f1 (by simpa using uQ f1);simp_all
end Go.Vs
namespace Go.Ve
open Go.Vs
inductive Ty where
 |int(k:IntKind)|bool|bh|sl(r:Ty)|bG(h t:Ty)
 |cb(u:Bool)(k v:Ty)
 |set(k:Ty)
 deriving DecidableEq,Repr,Inhabited
@[reducible] def Ty.T:Ty→Type|.int _=>L|.bool=>az|.bh=>M ao|.sl r=>Q (M r.T)|.bG h t=>h.T×t.T|.cb _ k v=>k.T×v.T|.set k=>k.T
def Ty.w:Ty→U|.bG h t=>h.w+t.w|.cb _ k v=>k.w+v.w|.set k=>k.w|_=>1
def Ty.agg:Ty→az|.bG _ _=>W|_=>I
def Ty.e:Ty→U
 |.cb u k v=>match u with|true=>kf (pY k.w k.agg v.w v.agg)|false=>pY k.w k.agg v.w v.agg
 |.set k=>pY k.w k.agg 0 W|t=>t.w
def Ty.zero:(t:Ty)→t.T|.int _=>(0:L)|.bool=>I|.bh=>([]:M ao)|.sl r=>(O:Q (M r.T))|.bG h t=>(h.zero,t.zero)|.cb _ k v=>(k.zero,v.zero)|.set k=>k.zero
def bf:(t:Ty)→t.T→M D
 |.int k,n=>[.int k n]|.bool,b=>[.bool b]|.bh,s=>[.bh s]|.sl r,o=>match o with|none=>[.nil]|some xs=>[.sl r.e (xs.map (bf r))]
 |.bG h t,x=>bf h x.1++bf t x.2|.cb _ k v,x=>bf k x.1++bf v x.2|.set k,x=>bf k x
def ag{α:Type}(l:M α):L:=Y l
def aZ(b:ao):L:=b.toNat
def fN(s:M ao):M L:=s.map aZ
def np(l:M L):M ao:=l.map λn=>kC (G n)
def dt(k:mX)(a b:L):L:=k.wrap ((mY k.bits a &&& mY k.bits b).toNat)
def orI(k:mX)(a b:L):L:=k.wrap ((mY k.bits a ||| mY k.bits b).toNat)
def akP(k:mX)(a b:L):L:=k.wrap ((mY k.bits a ^^^ mY k.bits b).toNat)
def akQ(k:mX)(a b:L):L:=k.wrap ((mY k.bits a &&& ~~~(mY k.bits b)).toNat)
inductive Md where
 |data|ak|bj(q:aO)(j hv cv k:Nat)
 deriving DecidableEq
inductive E where
 |i(k:IntKind)(n:Int)|b(x:Bool)|tt|ff|s(x:List UInt8)
 |l(m:Md)(t:Ty)(xs:List t.T)
 |n(m:Md)(t:Ty)(o:Option (List t.T))
 |nil|cX(k:NK)|r(u:TypeId)(ps:List (UInt8×List UInt8))
 |ea(q:aO)(j hv:Nat)(t:Ty)(n off:Nat)
 |da(t:Ty)(x:t.T)(off:Nat)
 |aW(k:aC)(off:Nat)
 |dj(f:FuncId)(caps:List (aC×Nat))
 |bK
 |it(m:Md)(t:Ty)(xs:List t.T)(seen:List Nat)
 |hO(b:Bool)
instance:Inhabited E:=⟨.bK⟩
inductive aP where
 |one(c:E)|agg(cs:List E)|bw(vs:List (Bool×List E))|undef
instance:Inhabited aP:=⟨.undef⟩
structure dU where
 hv:Nat:=0
 cv:Nat:=0
 v:aP:=.undef
instance:Inhabited dU:=⟨{}⟩
def lC(m:Md)(t:Ty)(xs:M t.T):C:=
 match m with|.data=>.d (.sl t.e (xs.map (bf t)))|.ak=>.ak t.e (xs.map (bf t))|.bj q j hv cv k=>.bj q j hv cv t.e k (xs.map (bf t))
def mC(m:Md)(e:U)(xs:M (M D)):C:=
 match m with|.data=>.d (.sl e xs)|.ak=>.ak e xs|.bj q j hv cv k=>.bj q j hv cv e k xs
def akR(t:Ty)(xs:M t.T)(seen:M U):M (M D):=[[.sl t.e (xs.map (bf t))],lT seen]
def cE:E→C
 |.i k n=>.d (.int k n)|.b x=>.d (.bool x)|.tt=>.d (.bool W)|.ff=>.d (.bool I)|.s x=>.d (.bh x)|.l m t xs=>lC m t xs|.n m t o=>match o with|none=>.d .nil|some xs=>lC m t xs
 |.nil=>.d .nil|.cX k=>.d (.cX k)|.r u ps=>.d (.rep u ps)|.ea q j hv t n off=>.ea q j hv t.e n off|.da t x off=>.da ((bf t x).drop off)|.aW k off=>.aW k off|.dj f caps=>.dj f caps|.bK=>.bK|.it m t xs seen=>mC m nX (akR t xs seen)|.hO b=>match b with|true=>.bK|false=>.d .nil
def aU(l:M E):M C:=l.map cE
def ft(l:M (az×M E)):M (az×M C):=l.map λp=>(p.1,aU p.2)
def aL:aP→SV|.one c=>.one (cE c)|.agg cs=>.agg (aU cs)|.bw vs=>.bw (ft vs)|.undef=>.undef
def cL(x:dU):RV:={hv:=x.hv,cv:=x.cv,v:=aL x.v}
def aP.cells:aP→M E|.one c=>[c]|.agg cs=>cs|.bw vs=>vs.flatMap (·.2)|.undef=>[]
def ly{α:Type}:M α→U→α→M α|[],_,_=>[]|_::r,0,c=>c::r|x::r,j+1,c=>x::ly r j c
def Dk:M (az×M E)→U→E→M (az×M E)|[],_,_=>[]|(b,cs)::r,j,c=>if j<Y cs then(b,ly cs j c)::r else(b,cs)::Dk r (j-Y cs) c
def aP.setCell(v:aP)(j:U)(c:E):aP:=
 match v with|.one _=>if j=0 then .one c else v|.agg cs=>.agg (ly cs j c)|.bw vs=>.bw (Dk vs j c)|.undef=>.undef
def gH:aC→aC→az|.aB a,.aB b=>a==b|.aw a,.aw b=>a==b|.cm a i,.cm b j=>a==b&&i==j|_,_=>I
def iq:aO→aO→az|.tmp a,.tmp b=>a==b|.box a,.box b=>gH a b|.bN a,.bN b=>a==b|_,_=>I
def vh(v:aP)(j:U):aP:=
 match H v.cells j .bK with|.l .ak t ys=>v.setCell j (.l .data t ys)|.n .ak t o=>v.setCell j (.n .data t o)|.it .ak t xs a=>v.setCell j (.it .data t xs a)|_=>v
def jd:M (U×U)→M aP→M aP|[],args=>args|(i,j)::r,args=>jd r (ly args i (vh (H args i .undef) j))
structure bp where
 m:List (aO×dU)
 args:List aP
 cH:List (Nat×Nat)
 cI:List (aO×Option (List Bool))
def gl(r:aO):M (aO×dU)→dU
 |[]=>{}|(q,x)::l=>match iq r q with|true=>x|false=>gl r l
def vi(r:aO)(x:dU):M (aO×dU)→M (aO×dU)
 |[]=>[(r,x)]|(q,y)::l=>match iq r q with|true=>(r,x)::l|false=>(q,y)::vi r x l
def bp.aE(s:bp)(r:aO):dU:=
 match r with|.bN i=>{v:=H (jd s.cH s.args) i .undef}|r=>gl r s.m
def bp.put(s:bp)(r:aO)(x:dU):bp:={s with m:=vi r x s.m,cI:=(r,O)::s.cI}
def fg:M E→M (Q E)→M E|[],_=>[]|cs,[]=>cs|c::cs,o::os=>(match o with|some x=>x|none=>c)::fg cs os
def bp.wr(s:bp)(k:aC)(os:M (Q E)):bp:=let x:=gl (.box k) s.m
 {s with m:=vi (.box k) {hv:=x.hv+1,cv:=x.cv,v:=match x.v with|.agg cs=>.agg (fg cs os)|v=>v} s.m,cI:=(.box k,J (os.map Option.isSome))::s.cI}
def kb(b:az):E:=match b with|true=>.tt|false=>.ff
def bp.gI(s:bp)(r:aO)(b:az):bp:=
 match r with
 |.tmp t=>let x:=gl (.tmp t) s.m
  {s with m:=vi (.tmp t) {x with v:=.one (kb b)} s.m,cI:=(r,O)::s.cI}
 |_=>s
def dH(s:bp):St:=λr=>cL (s.aE r)
inductive Tr(α:Type):Type 1 where
 |dz(a:α)
 |ai
 |br(c:Bool)(t e:Tr α)
 |call{ρ:Type}(d:ρ)(o:Option ρ)(k:ρ→Tr α)
 |sum{ρ σ:Type}(o:ρ⊕σ)(k:ρ→Tr α)(k':σ→Tr α)
def aq{ρ α:Type}(o:Q ρ)(k:ρ→Q α):Q α:=
 match o with|some x=>k x|none=>O
def dc{ρ σ α:Type}(o:ρ⊕σ)(k:ρ→Q α)(k':σ→Q α):Q α:=
 match o with|.inl x=>k x|.inr x=>k' x
namespace Tr
def bind{α β:Type}:Tr α→(α→Tr β)→Tr β|.dz a,f=>f a|.ai,_=>.ai|.br c t e,f=>.br c (t.bind f) (e.bind f)|.call d o k,f=>.call d o λx=>(k x).bind f|.sum o k k',f=>.sum o (λx=>(k x).bind f) (λx=>(k' x).bind f)
def map{α β:Type}(f:α→β):Tr α→Tr β|.dz a=>.dz (f a)|.ai=>.ai|.br c t e=>.br c (t.map f) (e.map f)|.call d o k=>.call d o λx=>(k x).map f|.sum o k k'=>.sum o (λx=>(k x).map f) (λx=>(k' x).map f)
def run{α:Type}:Tr α→Q α|.dz a=>J a|.ai=>O|.br c t e=>if c=W then t.run else e.run|.call _ o k=>aq o λx=>(k x).run|.sum o k k'=>dc o (λx=>(k x).run) λx=>(k' x).run
def all{α:Type}:Tr α→(α→Prop)→Prop|.dz a,b=>b a|.ai,_=>jn|.br c t e,b=>(c=W→t.all b)∧(c=I→e.all b)|.call _ o k,b=>∃x,o=J x∧(k x).all b|.sum o k k',b=>(∀x,o=.inl x→(k x).all b)∧(∀x,o=.inr x→(k' x).all b)
def box{α:Type}:Tr α→(α→Prop)→Prop|.dz a,b=>b a|.ai,_=>dK|.br c t e,b=>(c=W→t.box b)∧(c=I→e.box b)|.call _ o k,b=>∀x,o=J x→(k x).box b|.sum o k k',b=>(∀x,o=.inl x→(k x).box b)∧(∀x,o=.inr x→(k' x).box b)
def eJ{α:Type}:Tr α→(α→Prop)→Prop|.dz a,b=>b a|.ai,_=>dK|.br _ t e,b=>t.eJ b∧e.eJ b|.call _ _ k,b=>∀x,(k x).eJ b|.sum _ k k',b=>(∀x,(k x).eJ b)∧(∀x,(k' x).eJ b)
end Tr
inductive PE(α:Type):Type 1 where
 |ret(a:α)
 |ai
 |br(c:Bool)(t e:PE α)
 |call{ρ:Type}(d:ρ)(o:Option ρ)(k:ρ→PE α)
 |aE(r:aO)(k:dU→PE α)
 |put(r:aO)(x:dU)(k:PE α)
 |cH(i j:Nat)(k:PE α)
 |gI(r:aO)(b:Bool)(k:PE α)
 |wr(k:aC)(os:List (Option E))(c:PE α)
def xW(r:aO)(x:dU):az:=
 match r,x.v with|.bN _,_=>I|.box _,.agg _=>W|.box _,_=>I|.tmp _,_=>W
namespace PE
def bind{α β:Type}:PE α→(α→PE β)→PE β|.ret a,f=>f a|.ai,_=>.ai|.br c t e,f=>.br c (t.bind f) (e.bind f)|.call d o k,f=>.call d o λx=>(k x).bind f|.aE r k,f=>.aE r λx=>(k x).bind f|.put r x k,f=>.put r x (k.bind f)|.cH i j k,f=>.cH i j (k.bind f)|.gI r b k,f=>.gI r b (k.bind f)|.wr k os c,f=>.wr k os (c.bind f)
instance:Monad PE where
 pure:=PE.ret
 bind:=PE.bind
def cV{α:Type}:PE α→bp→Tr (α×bp×M aO×M aO)
 |.ret a,s=>.dz (a,s,[],[])|.ai,_=>.ai|.br c t e,s=>.br c (t.cV s) (e.cV s)|.call d o k,s=>.call d o λx=>(k x).cV s|.aE r k,s=>((k (s.aE r)).cV s).map λy=>(y.1,y.2.1,r::y.2.2.1,y.2.2.2)|.put r x k,s=>match xW r x with|false=>.ai|true=>(k.cV (s.put r x)).map λy=>(y.1,y.2.1,y.2.2.1,r::y.2.2.2)
 |.gI r b k,s=>k.cV (s.gI r b)|.wr k os c,s=>(c.cV (s.wr k os)).map λy=>(y.1,y.2.1,y.2.2.1,.box k::y.2.2.2)|.cH i j k,s=>(k.cV {s with cH:=s.cH++[(i,j)],cI:=(.bN i,O)::s.cI}).map λy=>(y.1,y.2.1,y.2.2.1,.bN i::y.2.2.2)
end PE
def lz(r:aO)(x:dU):PE bV:=.put r x (.ret ())
def cZ(c:az):PE bV:=.br c (.ret ()) .ai
def bD(c:az):PE bV:=match c with|true=>.ret ()|false=>.ai
def fc:(t:Ty)→t.T→M E|.int k,n=>[.i k n]|.bool,b=>[.b b]|.bh,s=>[.s s]|.sl t,o=>[.n .data t o]|.bG h t,x=>fc h x.1++fc t x.2|.cb _ k v,x=>fc k x.1++fc v x.2|.set k,x=>fc k x
def ot:(t:Ty)→M E→Q (t.T×M E)
 |.int k=>λcs=>match cs with|.i k' n::r=>if k'=k then J (n,r)else O|_=>O
 |.bool=>λcs=>match cs with|.b x::r=>J (x,r)|.tt::r=>J (W,r)|.ff::r=>J (I,r)|_=>O
 |.bh=>λcs=>match cs with|.s x::r=>J (x,r)|_=>O
 |.sl t=>λcs=>match cs with|.n .data a o::r=>if h:a=t then J (h▸o,r)else O|.l .data a xs::r=>if h:a=t then J (J (h▸xs),r)else O|.nil::r=>J (O,r)|_=>O
 |.bG h t=>λcs=>match ot h cs with
  |some (x,r)=>match ot t r with|some (y,c)=>J ((x,y),c)|none=>O
  |none=>O
 |.cb _ k v=>λcs=>match ot k cs with
  |some (x,r)=>match ot v r with|some (y,c)=>J ((x,y),c)|none=>O
  |none=>O
 |.set k=>λcs=>ot k cs
def lA(t:Ty)(cs:M E):Q t.T:=
 match ot t cs with|some (x,[])=>J x|_=>O
def vj(r:aO)(x:dU)(j:U):E→E|.l .ak t xs=>.l (.bj r j x.hv x.cv 0) t xs|.n .ak t o=>.n (.bj r j x.hv x.cv 0) t o|.it .ak t xs a=>.it (.bj r j x.hv x.cv 0) t xs a|c=>c
def xX(r:aO)(x:dU):U→M E→M E|_,[]=>[]|j,c::cs=>vj r x j c::xX r x (j+1) cs
def Dl(r:aO)(x:dU):U→M (az×M E)→M (az×M E)|_,[]=>[]|j,(b,cs)::vs=>(b,xX r x j cs)::Dl r x (j+Y cs) vs
def dU.gD(x:dU)(r:aO):aP:=
 match x.v with|.one c=>.one (vj r x 0 c)|.agg cs=>.agg (xX r x 0 cs)|.bw vs=>.bw (Dl r x 0 vs)|.undef=>.undef
def Dm:aJ→Q E|.int k n=>J (.i k n)|.bool b=>J (match b with|true=>.tt|false=>.ff)|.string s=>J (.s (T s.data))|.slice O 0 0=>J .nil|.pointer O=>J (.cX .aW)|.nilFunc=>J (.cX .func)|.nilIface=>J (.cX .iface)|.map O=>J (.cX .map)|.chan O=>J (.cX .chan)|_=>O
def Jc:M aJ→Q (M E)
 |[]=>J []|v::r=>match Dm v,Jc r with|some d,J ds=>J (d::ds)|_,_=>O
def fh:cF→PE aP
 |.tmp t=>.aE (.tmp t) λx=>match x.v with|.undef=>.ai|_=>.ret (x.gD (.tmp t))
 |.const v=>match v with
  |.agg cs=>match Jc (T cs) with|some ds=>.ret (.agg ds)|none=>.ai
  |v=>match Dm v with|some d=>.ret (.one d)|none=>.ai
 |.func f=>.ret (.one (.dj f []))|.global _=>.ai
def xY:M cF→PE (M aP)|[]=>.ret []|o::os=>do let v ←fh o;let vs ←xY os;.ret (v::vs)
def PB:aP→PE E|.one c=>.ret c|_=>.ai
def fX(o:cF):PE E:=do PB (←fh o)
def vk:E→PE L|.i _ n=>.ret n|_=>.ai
def vl:E→Q az|.b b=>J b|.tt=>J W|.ff=>J I|_=>O
def dU.at(x:dU)(j:U):E:=H x.v.cells j .bK
def xZ(r:aO)(j:U)(x:dU):PE bV:=
 match x.at j with
 |.l .ak t ys=>match r with|.bN i=>.cH i j (.ret ())|r=>lz r {x with v:=x.v.setCell j (.l .data t ys)}
 |.n .ak t o=>match r with|.bN _=>.ai|r=>.call [] o λys=>lz r {x with v:=x.v.setCell j (.l .data t ys)}
 |.l .data _ _=>.ret ()|.n .data _ o=>.call [] o λ_=>.ret ()|_=>.ai
def rI(r:aO)(j:U)(x:dU):PE bV:=
 match x.at j with
 |.l .ak _ _=>lz r {x with v:=x.v.setCell j .bK}
 |.n .ak _ o=>.call [] o λ_=>lz r {x with v:=x.v.setCell j .bK}
 |_=>.ai
def resolve:E→PE E|.n m t o=>.br (V o) (.ret (.l m t (X o []))) (.ret .nil)|c=>.ret c
def azz:E→PE E|.n (.bj q j hv cv k) t o=>.br (V o) (.ret (.l (.bj q j hv cv k) t (X o []))) (.ret .nil)|c=>.ret c
def Zr:E→PE E|.n (.bj (.bN i) j hv cv k) t o=>.br (V o) (.ret (.l (.bj (.bN i) j hv cv k) t (X o []))) (.ret .nil)|c=>.ret c
def sW(r:aO)(j:U)(x:dU)(b:az):PE bV:=
 match x.at j with
 |.n .ak t o=>match r with|.bN _=>.ai|r=>.br (b==V o) (lz r {x with v:=x.v.setCell j (.n .data t o)}) .ai
 |.n .data _ o=>.br (b==V o) (.ret ()) .ai|_=>.ai
def qm(r:aO)(j:U)(x:dU)(b:az):PE bV:=
 match x.at j with
 |.n .ak _ o=>.br (b==V o) (lz r {x with v:=x.v.setCell j (.hO (V o))}) .ai
 |_=>.ai
def Ax(j:U)(x:dU)(b:az):PE bV:=
 match x.at j with|.n .ak _ o|.n .data _ o=>.br (b==V o) (.ret ()) .ai|_=>.ai
def rJ(self:Q (aO×U))(r:aO)(j:U):az:=
 match self with|some (q,i)=>iq q r&&i==j|none=>I
def Dn(self:Q (aO×U))(take:aO→az):E→PE E
 |.l (.bj r j hv cv k) t xs=>
  match r.isArg with
  |true=>.ret (.l (.bj r j hv cv k) t xs)|false=>.aE r λx=>do
   bD (x.hv==hv&&x.cv==cv)
   match x.at j with
   |.l .ak _ _|.n .ak _ _=>
    match rJ self r j||take r with|true=>do rI r j x;.ret (.l .ak t xs)|false=>do xZ r j x;.ret (.l .data t xs)
   |.l .data _ _=>.ret (.l .data t xs)|.n .data _ o=>.call [] o λ_=>.ret (.l .data t xs)|_=>.ai
 |.n (.bj r j hv cv k) t o=>
  match r.isArg with
  |true=>.ret (.n (.bj r j hv cv k) t o)|false=>.aE r λx=>do
   bD (x.hv==hv&&x.cv==cv)
   match x.at j with
   |.n .ak _ _=>
    match rJ self r j||take r with|true=>do qm r j x (V o);.ret (.n .ak t o)|false=>do sW r j x (V o);.ret (.n .data t o)
   |.n .data _ _=>do Ax j x (V o);.ret (.n .data t o)|_=>.ai
 |.bK=>.ai|.hO _=>.ai|.it m t xs a=>match m with|.bj .. =>.ai|m=>.ret (.it m t xs a)
 |c=>.ret c
def Do(self:Q (aO×U))(take:aO→az)(c:E):PE E:=Dn self take c
def vm(mk:U→aO×U)(take:aO→az):U→M E→PE (M E)|_,[]=>.ret []|i,c::cs=>do let b ←Do (J (mk i)) take c;let a ←vm mk take (i+1) cs;.ret (b::a)
def Dp(mk:U→aO×U)(take:aO→az):U→M (az×M E)→PE (M (az×M E))|_,[]=>.ret []|i,(b,cs)::vs=>do let a ←vm mk take i cs;let c ←Dp mk take (i+Y cs) vs;.ret ((b,a)::c)
def sX(r:aO)(take:aO→az):aP→PE aP|.one c=>do .ret (.one (←Do (J (r,0)) take c))|.agg cs=>do .ret (.agg (←vm (λi=>(r,i)) take 0 cs))|.bw vs=>do .ret (.bw (←Dp (λi=>(r,i)) take 0 vs))|.undef=>.ai
def ou:E→az|.i _ _|.b _|.tt|.ff|.s _|.l .data _ _|.n .data _ _|.nil|.cX _|.r _ _=>W|_=>I
def nr:E→PE E
 |.l (.bj r j hv cv _) t xs=>.aE r λx=>do
   bD (x.hv==hv&&x.cv==cv)
   xZ r j x
   .ret (.l .data t xs)
 |.n (.bj r j hv cv _) t o=>.aE r λx=>do
   bD (x.hv==hv&&x.cv==cv)
   sW r j x (V o)
   .ret (.n .data t o)
 |c=>match ou c with|true=>.ret c|false=>.ai
def pn(c:E):PE E:=do nr (←Zr c)
def vn:M E→PE (M E)|[]=>.ret []|c::cs=>do let x ←pn c;let xs ←vn cs;.ret (x::xs)
def aP.fM:aP→Q (M E)|.one c=>J [c]|.agg cs=>J cs|_=>O
def x9(t:Ty):E→PE (M t.T)
 |.nil=>.ret []|.l .data a xs=>if h:a=t then do bD (!ca t.e);.ret (h▸xs)else .ai|.n .data a o=>if h:a=t then do bD (!ca t.e);.ret (X (h▸o:Q (M t.T)) [])else .ai|.l (.bj r j hv cv _) a xs=>.aE r λx=>
  match x.hv==hv&&x.cv==cv&& !ca t.e with
  |true=>match x.at j with|.l .ak _ _|.l .data _ _=>if h:a=t then .ret (h▸xs)else .ai|.n .ak _ o|.n .data _ o=>.call [] o λ_=>if h:a=t then .ret (h▸xs)else .ai|_=>.ai
  |false=>.ai
 |.n (.bj r j hv cv _) a o=>.aE r λx=>
  match x.hv==hv&&x.cv==cv&& !ca t.e with
  |true=>do
   Ax j x (V o)
   if h:a=t then .ret (X (h▸o:Q (M t.T)) [])else .ai
  |false=>.ai
 |_=>.ai
def PD(t:Ty)(c:E):PE (M t.T):=x9 t c
def fY(k:mX)(n:L):aP:=.one (.i k n)
def kH(b:az):aP:=.one (.b b)
def Dq(op:kc)(k:mX)(a b:L):PE aP:=
 match op with|.add=>.ret (fY k (k.wrap (a+b)))|.sub=>.ret (fY k (k.wrap (a-b)))|.mul=>.ret (fY k (k.wrap (a*b)))|.quo=>do cZ (decide (b≠0));.ret (fY k (k.wrap (a.tdiv b)))|.rem=>do cZ (decide (b≠0));.ret (fY k (a.tmod b))|.and=>.ret (fY k (dt k a b))|.or=>.ret (fY k (orI k a b))|.xor=>.ret (fY k (akP k a b))|.andNot=>.ret (fY k (akQ k a b))|.eql=>.ret (kH (a==b))|.neq=>.ret (kH (a !=b))|.lss=>.ret (kH (decide (a<b)))|.leq=>.ret (kH (decide (a≤b)))|.gtr=>.ret (kH (decide (a>b)))|.geq=>.ret (kH (decide (a≥b)))|_=>.ai
def PF(op:kc)(a b:M ao):PE aP:=
 match op with|.add=>do cZ (decide (Y a+Y b≤1152921504606846976));.ret (.one (.s (a++b)))|.eql=>.ret (kH (decide (a=b)))|.neq=>.ret (kH (!decide (a=b)))|.lss=>.ret (kH (nN a b))|.leq=>.ret (kH (nN a b||decide (a=b)))|.gtr=>.ret (kH (!(nN a b||decide (a=b))))|.geq=>.ret (kH (!nN a b))|_=>.ai
def PG(af:bM)(t:bq):az:=
 match af.ti t with|some {kind:=.bool, ..}=>W|_=>I
def PH(af:bM)(t:bq)(op:kc)(x y:E):PE aP:=
 match vl x,vl y with
 |some a,J b=>match PG af t,op with|true,.eql=>.ret (kH (a==b))|true,.neq=>.ret (kH (!(a==b)))|_,_=>.ai
 |_,_=>.ai
def Jd:E→Q az|.l _ t _=>if ca t.e then O else J I|.n _ t o=>if ca t.e then O else J (!V o)|.nil=>J W|_=>O
def Je(af:bM)(t:bq):az:=
 match af.ti t with|some {kind:=.slice _, ..}=>W|_=>I
def PJ(af:bM)(t:bq)(op:kc)(x:E):PE aP:=
 match Je af t,op,Jd x with|true,.eql,J b=>.ret (kH b)|true,.neq,J b=>.ret (kH (!b))|_,_,_=>.ai
def PK(af:bM)(t:bq)(op:kc)(x y:E):PE aP:=
 match x,y with
 |.i k a,.i k' b=>
  match op with|.shl=>do cZ (decide (0≤b));.ret (fY k (k.wrap (a*2 ^ (min (G b) k.bits))))|.shr=>do cZ (decide (0≤b));.ret (fY k (a.fdiv (2 ^ (min (G b) k.bits))))|op=>if k=k' then Dq op k a b else .ai
 |.s a,.s b=>PF op a b|x,.nil=>PJ af t op x|x,y=>PH af t op x y
def Ay:M Sc→M E→M E→Q az
 |[],[],[]=>J W|.int k::sh,.i k1 a::xs,.i k2 b::ys=>if k1=k∧k2=k then(match Ay sh xs ys with|some r=>J ((a==b)&&r)|none=>O)else O
 |.bh::sh,.s a::xs,.s b::ys=>match Ay sh xs ys with|some r=>J (decide (a=b)&&r)|none=>O
 |.bool::sh,x::xs,y::ys=>match vl x,vl y,Ay sh xs ys with|some a,J b,J r=>J ((a==b)&&r)|_,_,_=>O
 |_,_,_=>O
def PN(af:bM)(t:bq)(op:kc)(xs ys:M E):PE aP:=
 match lk t af.eqs with
 |some sh=>match op,Ay sh xs ys with|.eql,J r=>.ret (kH r)|.neq,J r=>.ret (kH (!r))|_,_=>.ai
 |none=>.ai
def bT(a b:U):az:=gN (a+1) b
def sY(i:TI)(cs:M E)(off:U):PE aP:=
 match bT 0 i.size&&gN (off+i.size) (Y cs) with
 |true=>match i.kind.agg with
  |true=>.ret (.agg ((cs.drop off).take i.size))|false=>match cs[off]? with|some .bK=>.ai|some (.hO _)=>.ai|some c=>.ret (.one c)|none=>.ai
 |false=>.ai
def Az(i:TI):E→PE aP
 |.aW k off=>.aE (.box k) λx=>
  match x.v with|.agg cs=>sY i (xX (.box k) x 0 cs) off|_=>.ai
 |.ea r j hv _ n off=>.aE r λx=>
  match x.hv==hv with
  |true=>match x.at j with|.l .ak t ys|.l .data t ys=>do cZ (bT n (Y ys));sY i (fc t (H ys n t.zero)) off|.n .ak t o|.n .data t o=>do cZ (bT n (Y (X o [])));sY i (fc t (H (X o []) n t.zero)) off|_=>.ai
  |false=>.ai
 |.da t x off=>sY i ((fc t x).drop off) 0|_=>.ai
def PP(take:aO→az)(i:TI)(a:E)(v:aP):PE bV:=
 match a,v.fM with
 |.aW k off,J cs=>do
  bD (Y cs==i.size)
  let c ←vm (λn=>(.box k,off+n)) take 0 cs
  .aE (.box k) λx=>
   match x.v with
   |.agg old=>do
    bD (gN (off+i.size) (Y old)&&gN (off+Y c) (Y old))
    .wr k (ep off O++c.map J) (.ret ())
   |_=>.ai
 |.ea r j hv _ n off,J cs=>do
  bD (Y cs==i.size)
  let ds ←vn cs
  .aE r λx=>do
   bD (x.hv==hv&& !r.isArg)
   match x.at j with
   |.l .ak t ys=>do
    cZ (bT n (Y ys))
    bD (gN (off+i.size) t.w)
    match lA t (eG (fc t (H ys n t.zero)) off ds)with
    |some b=>lz r {x with cv:=x.cv+1,v:=x.v.setCell j (.l .ak t (ys.set n b))}
    |none=>.ai
   |.n .ak t o=>do
    cZ (bT n (Y (X o [])))
    bD (gN (off+i.size) t.w)
    match lA t (eG (fc t (H (X o []) n t.zero)) off ds)with
    |some b=>lz r {x with cv:=x.cv+1,v:=x.v.setCell j (.l .ak t ((X o []).set n b))}
    |none=>.ai
   |_=>.ai
 |_,_=>.ai
def PQ(af:bM)(t:bq)(c:E)(f:U):PE E:=
 match af.ti t with
 |some {kind:=.struct fs, ..}=>match fs[f]? with
  |some (o,a)=>match af.ti a with
   |some i=>do
    bD (!(i.size==0))
    match c with|.aW k off=>.ret (.aW k (off+o))|.ea r j hv e n off=>.ret (.ea r j hv e n (off+o))|.da t x off=>do bD (gN (off+o) t.w);.ret (.da t x (off+o))|_=>.ai
   |none=>.ai
  |none=>.ai
 |_=>.ai
def PR(af:bM)(t:bq)(g:U)(n:L):PE E:=
 match lk g af.sF,af.ti t with
 |some l,J {kind:=.array len a, ..}=>match af.ti a with|some i=>do cZ (decide (0≤n∧n<len));bD (len==Y l&&i.size==1);.ret (.da (.int .u64) (H l (G n) 0) 0)|none=>.ai
 |_,_=>.ai
def PT(af:bM)(t:bq)(c:E)(n:L):PE E:=
 match af.ti t with
 |some {kind:=.slice a, ..}=>match af.ti a with
  |some i=>match c with|.l (.bj r j hv _ k) t xs=>do cZ (decide (0≤n∧n<ag xs));bD (i.size==t.e&& !ca i.size);.ret (.ea r j hv t (k+G n) 0)|.n (.bj r j hv _ k) t o=>do cZ (decide (0≤n∧n<ag (X o [])));bD (i.size==t.e&& !ca i.size);.ret (.ea r j hv t (k+G n) 0)|.l .data t xs=>do cZ (decide (0≤n∧n<ag xs));bD (i.size==t.e&& !ca i.size);.ret (.da t (H xs (G n) t.zero) 0)|.n .data t o=>do cZ (decide (0≤n∧n<ag (X o [])));bD (i.size==t.e&& !ca i.size);.ret (.da t (H (X o []) (G n) t.zero) 0)|_=>.ai
  |none=>.ai
 |some {kind:=.array len a, ..}=>match af.ti a with
  |some i=>match c with|.aW k off=>do bD (decide (0≤n∧n<len));.ret (.aW k (off+G n*i.size))|_=>.ai
  |none=>.ai
 |_=>.ai
def Jf:M E→Q (M (M ao))
 |[]=>J []|.s x::r=>match Jf r with|some l=>J (x::l)|none=>O
 |_=>O
def Jg(k:mX):M E→Q (M L)
 |[]=>J []|.i k' x::r=>match decide (k'=k),Jg k r with|true,J l=>J (x::l)|_,_=>O
 |_=>O
def PU(i:TI)(cs:M E):Q (L→aP):=
 match i.kind with
 |.bh=>match Jf cs with|some l=>J λn=>.one (.s (H l (G n) []))|none=>O
 |.int k=>match Jg k cs with|some l=>J λn=>.one (.i k (H l (G n) 0))|none=>O
 |_=>O
def PV(af:bM)(t:bq)(v:aP)(n:L):PE aP:=
 match af.ti t,v with
 |some {kind:=.bh, ..},.one (.s s)=>do
  cZ (decide (0≤n))
  cZ (bT (G n) (Y s))
  .ret (fY .u8 (aZ (H s (G n) 0)))
 |some {kind:=.array len a, ..},.agg cs=>match af.ti a with
  |some i=>match PU i cs with|some g=>do bD (Nat.beq i.size 1&&gN len (Y cs));cZ (decide (0≤n∧n<len));.ret (g n)|none=>do bD (decide (0≤n∧n<len));sY i cs (G n*i.size)
  |none=>.ai
 |_,_=>.ai
def Jh(a:az)(v:aP):PE aP:=
 match a,v with|true,.one (.s s)=>.ret (fY .i64 (ag s))|false,.one .nil=>.ret (fY .i64 0)|false,.one (.l .data t xs)=>do bD (!ca t.e);.ret (fY .i64 (ag xs))|false,.one (.l (.bj ..) t xs)=>do bD (!ca t.e);.ret (fY .i64 (ag xs))|false,.one (.n .data t o)=>do bD (!ca t.e);.ret (fY .i64 (ag (X o [])))|false,.one (.n (.bj ..) t o)=>do bD (!ca t.e);.ret (fY .i64 (ag (X o [])))|_,_=>.ai
def Dr(cells:M E):M (U×M E)→M E|[]=>cells|(off,cs)::r=>Dr (eG cells off cs) r
def Ds(fs:M (U×bq))(af:bM):M (U×cF)→PE (M (U×M E))
 |[]=>.ret []|(i,o)::r=>do
  let v ←fh o
  match fs[i]?,v.fM with
  |some (off,t),J cs=>match af.ti t with|some ti=>do bD (Y cs==ti.size);let rest ←Ds fs af r;.ret ((off,cs)::rest)|none=>.ai
  |_,_=>.ai
def Zs:D→Q E|.int k n=>J (.i k n)|.bool b=>J (match b with|true=>.tt|false=>.ff)|.bh s=>J (.s s)|.nil=>J .nil|.cX k=>J (.cX k)|_=>O
def ya:M D→Q (M E)
 |[]=>J []|d::ds=>match Zs d,ya ds with|some c,J cs=>J (c::cs)|_,_=>O
def fits(size:U)(ps:M (U×M E)):az:=ps.all λp=>gN (p.1+Y p.2) size
def PW(af:bM)(t:bq)(parts:M (U×cF)):PE aP:=
 match af.ti t with
 |some {kind:=.struct fs,size,zero:=J z, ..}=>do
  bD (Y z==size&&fs.all λp=>V (af.ti p.2))
  let ps ←Ds fs af parts
  bD (fits size ps)
  match ya z with|some cs=>.ret (.agg (Dr cs ps))|none=>.ai
 |some {kind:=.array n a,size,zero:=J z, ..}=>match af.ti a with
  |some i=>do
   bD (Y z==size)
   let ps ←Ds ((iz n).map λj=>(j*i.size,a)) af parts
   bD (fits size ps)
   match ya z with|some cs=>.ret (.agg (Dr cs ps))|none=>.ai
  |none=>.ai
 |_=>.ai
def AA:M (Q E)→M E|[]=>[]|o::os=>(match o with|some x=>x|none=>.bK)::AA os
def je:M (M E)→M (M (Q E))→M (M E)|[],os=>os.map AA|b::a,o::os=>fg b o::je a os|a,[]=>a
structure cU:Type 1 where
 A:Type
 R:Type
 d:R
 eV:List aP→List (List E)→Option A
 sh:A→Option R
 two:Bool
 flag:R→Bool
 out:A→R→Bool→aP×List (List (Option E))
 cH:List (Nat×Nat)
 F:rj
 one:two=false→∀y,flag y=true
 ok:∀args aI x y,eV args aI=some x→sh x=some y→F (args.map aL) (aI.map aU)=some {v:=aL (out x y (flag y)).1,aI:=(je aI (out x y (flag y)).2).map aU,cH:=cH}
structure eW where
 N:Nat
 T:List (TypeId×TI)
 R:List (TypeId×Ty)
 fD:Nat→FuncId→Option cU
 var:List Nat
 res:List Nat
 eqs:List (TypeId×List Sc):=[]
 dat:List Nat:=[]
 nb:Bool:=false
 rk:Bool:=false
 un:List Nat:=[]
 sF:List (Nat×List Int):=[]
def eW.c(e:eW):bM:={un:=e.un,sF:=e.sF,N:=e.N,T:=e.T,Γ:=λt f=>match e.fD t f with|some K=>J K.F|none=>O,var:=e.var,res:=e.res,eqs:=e.eqs,dat:=e.dat,nb:=e.nb,rk:=e.rk}
def sZ:Ty→M D→Q (M D)
 |.int k,.int k' n::r=>if k=k'∧n=0 then J r else O|.bool,.bool b::r=>if b=I then J r else O|.bh,.bh s::r=>match s with|[]=>J r|_=>O
 |.sl _,.nil::r=>J r|.bG h t,ds=>match sZ h ds with|some r=>sZ t r|none=>O
 |_,_=>O
def vo(t:Ty)(z:M D):az:=match sZ t z with|some []=>W|_=>I
def Ji(t:Ty)(size:U):M (U×cF)→M t.T→PE (M t.T)
 |[],rows=>.ret rows|(i,o)::r,rows=>do
  let v ←fh o
  match v.fM with
  |some cs=>do
   bD (Y cs==size&&bT i (Y rows))
   let ds ←vn cs
   match lA t ds with|some x=>Ji t size r (ly rows i x)|none=>.ai
  |none=>.ai
def PX(af:eW)(t:bq)(len:U)(parts:M (U×cF)):PE aP:=
 match af.c.ti t with
 |some {kind:=.slice b, ..}=>match af.c.ti b,lk b af.R with
  |some i,J a=>match i.zero with
   |some z=>do
    bD (Y z==i.size&&bT 0 i.size&&gN (len*i.size) 16777216&&i.size==a.e&& !ca i.size&&vo a z)
    let rows ←Ji a i.size parts (ep len a.zero)
    .ret (.one (.l .ak a rows))
   |none=>.ai
  |_,_=>.ai
 |_=>.ai
def PY(af:eW)(t:bq)(len cap:L):PE aP:=
 match af.c.ti t with
 |some {kind:=.slice b, ..}=>match af.c.ti b,lk b af.R with
  |some i,J a=>match i.zero with
   |some z=>do
    bD (Y z==i.size&&bT 0 i.size&&gN i.bytes 1024&&i.size==a.e&& !ca i.size&&vo a z)
    cZ (decide (0≤len∧len≤cap∧cap≤68719476736))
    .ret (.one (.l .ak a (ep (G len) a.zero)))
   |none=>.ai
  |_,_=>.ai
 |_=>.ai
def eo{α:Type}(ys:M α):Q (M α):=match ys with|[]=>O|y::r=>J (y::r)
def PZ(i:TI)(t:Ty)(c:E)(ys:M t.T)(lit:az):PE aP:=do
 bD (bT 0 i.size&&bT 0 i.bytes&&gN i.bytes 1024&&(match i.zero with|some z=>Y z==i.size|none=>I)&&i.size==t.e&& !ca i.size)
 match c with
 |.nil=>do
  cZ (decide (Y ys≤68719476736))
  .ret (.one (match lit with
   |true=>(match ys with|[]=>.n .ak t (eo ys)|y::r=>.l .ak t (y::r))
   |false=>.n .ak t (eo ys)))
 |.l (.bj r j hv cv k) b xs=>.aE r λx=>do
  bD (x.hv==hv&&x.cv==cv&& !r.isArg)
  match x.at j with
  |.l .ak _ a=>do
   cZ (decide (k+Y xs=Y a))
   cZ (decide (Y xs+Y ys≤68719476736))
   rI r j x
   if h:b=t then .ret (.one (.l .ak t ((h▸xs)++ys)))else .ai
  |.n .ak _ o=>.call [] o λa=>do
   cZ (decide (k+Y xs=Y a))
   cZ (decide (Y xs+Y ys≤68719476736))
   rI r j x
   if h:b=t then .ret (.one (.l .ak t ((h▸xs)++ys)))else .ai
  |_=>.ai
 |_=>.ai
def jU{α:Type}(o:Q (M α))(ys:M α):Q (M α):=match o with|none=>eo ys|some xs=>J (xs++ys)
def P0(i:TI)(t:Ty)(r:aO)(j hv cv k:U)(a:Ty)(o:Q (M a.T))(ys:M t.T)(lit:az):PE aP:=do
 bD (bT 0 i.size&&bT 0 i.bytes&&gN i.bytes 1024&&(match i.zero with|some z=>Y z==i.size|none=>I)&&i.size==t.e&& !ca i.size)
 .aE r λx=>do
  bD (x.hv==hv&&x.cv==cv&& !r.isArg)
  match x.at j with
  |.n .ak _ b=>do
   cZ (decide (k+Y (X o [])=Y (X b [])))
   cZ (decide (Y (X o [])+Y ys≤68719476736))
   qm r j x (V o)
   if h:a=t then .ret (.one (match lit,ys with
    |true,y::q=>.l .ak t ((X (h▸o:Q (M t.T)) [])++y::q)
    |_,_=>.n .ak t (jU (h▸o) ys)))else .ai
  |_=>.ai
def P1(i:TI)(t:Ty)(c:E)(ys:M t.T)(lit:az):PE aP:=
 match c with|.n (.bj r j hv cv k) a o=>P0 i t r j hv cv k a o ys lit|c=>do PZ i t (←resolve c) ys lit
def isLit(var:M U):E→az|.l .ak _ _=>W|.l (.bj (.tmp t) _ _ _ _) _ _=> !(ab4 var t)|_=>I
def P2(af:bM)(i:TI)(t:Ty)(tid:bq)(c:E):PE (M t.T):=
 match af.ti tid with
 |some {kind:=.bh, ..}=>match c with|.s s=>if h:Ty.int .u8=t then do bD (i.size==1);.ret (h▸(fN s:M (Ty.int .u8).T))else .ai|_=>.ai
 |some {kind:=.slice _, ..}=>do bD (i.size==t.e);PD t c|_=>.ai
def P3(c:E):PE aP:=
 match c with|.nil=>.ret (fY .i64 0)|.n _ _ o=>do cZ (!V o);.ret (fY .i64 0)|_=>.ai
def P4(i:TI)(t:Ty)(c:E)(n:L):PE aP:=
 match i.zero with
 |some z=>do
  bD (Y z==i.size&&bT 0 i.size&&bT 0 i.bytes&&gN i.bytes 1024&&i.size==t.e&& !ca i.size&&vo t z)
  match c with
  |.nil=>do
   cZ (decide (0≤n∧n≤68719476736))
   .ret (.one (.n .ak t (eo (ep (G n) t.zero))))
  |.n _ _ o=>do
   cZ (!V o&&decide (0≤n∧n≤68719476736))
   .ret (.one (.n .ak t (eo (ep (G n) t.zero))))
  |_=>.ai
 |none=>.ai
def bu{α:Type}(l h:L)(xs:M α):M α:=(xs.take (G h)).drop (G l)
def P5(v:aP)(lo hi:Q L):PE aP:=
 match v with
 |.one (.s s)=>
  let h:=X hi (ag s)
  let l:=X lo 0
  do
  cZ (decide (0≤l∧l≤h∧h≤ag s))
  .ret (.one (.s (bu l h s)))
 |_=>.ai
def P6(size:U)(v:aP)(lo hi:Q L):PE aP:=
 match v with
 |.one .nil=>do
  cZ (decide (X lo 0=0∧X hi 0=0))
  .ret (.one .nil)
 |.one (.l .data t xs)=>do
  cZ (decide (0≤X lo 0∧X lo 0≤X hi (ag xs)∧X hi (ag xs)≤ag xs))
  bD (t.e==size&& !ca size)
  .ret (.one (.l .data t (bu (X lo 0) (X hi (ag xs)) xs)))
 |.one (.n .data t o)=>do
  cZ (decide (0≤X lo 0∧X lo 0≤X hi (ag (X o []))∧X hi (ag (X o []))≤ag (X o [])))
  bD (t.e==size&& !ca size)
  .ret (.one (.n .data t (o.map (bu (X lo 0) (X hi (ag (X o [])))))))
 |.one (.l (.bj r j hv cv k) t xs)=>do
  cZ (decide (0≤X lo 0∧X lo 0≤X hi (ag xs)∧X hi (ag xs)≤ag xs))
  bD (t.e==size&& !ca size)
  .ret (.one (.l (.bj r j hv cv (k+G (X lo 0))) t (bu (X lo 0) (X hi (ag xs)) xs)))
 |.one (.n (.bj r j hv cv k) t o)=>do
  cZ (decide (0≤X lo 0∧X lo 0≤X hi (ag (X o []))∧X hi (ag (X o []))≤ag (X o [])))
  bD (t.e==size&& !ca size)
  .ret (.one (.n (.bj r j hv cv (k+G (X lo 0))) t (o.map (bu (X lo 0) (X hi (ag (X o [])))))))
 |_=>.ai
def Jj(af:bM)(a:bq):az:=
 match af.ti a with|some {kind:=.int .u8,size:=1, ..}=>W|_=>I
def P7(af:bM)(src dst:bq)(v:aP):PE aP:=
 match af.ti src,af.ti dst with
 |some _,J {kind:=.int k, ..}=>match v with|.one (.i _ n)=>.ret (fY k (k.wrap n))|_=>.ai
 |some i,J {kind:=.bh, ..}=>match v with
  |.one (.s s)=>.ret (.one (.s s))|.one c=>match i.kind with
   |.slice a=>match Jj af a with
    |true=>do
     let xs ←PD (.int .u8) c
     .ret (.one (.s (np xs)))
    |false=>.ai
   |_=>.ai
  |_=>.ai
 |some _,J {kind:=.slice a, ..}=>match v with
  |.one (.s s)=>match Jj af a with|true=>.ret (.one (.l .ak (.int .u8) (fN s)))|false=>.ai
  |_=>.ai
 |_,_=>.ai
def po:Ty→Q (M Sc)
 |.int k=>J [.int k]|.bool=>J [.bool]|.bh=>J [.bh]|.bG h t=>match po h,po t with|some a,J b=>J (a++b)|_,_=>O
 |_=>O
def jH:(k:Ty)→k.T→k.T→az|.int _,a,b=>(a:L)==b|.bool,a,b=>(a:az)==b|.bh,a,b=>decide ((a:M ao)=b)|.bG h t,a,b=>jH h a.1 b.1&&jH t a.2 b.2|_,_,_=>I
def du{V:Type}(k:Ty)(x:k.T):M (k.T×V)→Q V
 |[]=>O|r::l=>match jH k x r.1 with|true=>J r.2|false=>du k x l
def fZ{V:Type}(k:Ty)(x:k.T)(y:V):M (k.T×V)→M (k.T×V)
 |[]=>[(x,y)]|r::l=>match jH k x r.1 with|true=>(x,y)::l|false=>r::fZ k x y l
def pp:(k:Ty)→k.T→k.T→az|.int _,a,b=>decide ((a:L)<b)|.bool,a,b=> !(a:az)&&b|.bh,a,b=>Og (a:M ao) b|.bG h t,a,b=>pp h a.1 b.1||(jH h a.1 b.1&&pp t a.2 b.2)|_,_,_=>I
def pq{V:Type}(k:Ty)(x:k.T)(y:V):M (k.T×V)→M (k.T×V)
 |[]=>[(x,y)]|r::l=>match pp k x r.1 with|true=>(x,y)::r::l|false=>r::pq k x y l
def P8{V:Type}(k:Ty)(x:k.T)(y:V)(l:M (k.T×V)):M (k.T×V):=match(du k x l).isSome with|true=>fZ k x y l|false=>pq k x y l
def mD{V:Type}(k:Ty)(x:k.T):M (k.T×V)→U
 |[]=>0|r::l=>match jH k x r.1 with|true=>0|false=>mD k x l+1
def nt{V:Type}(k:Ty)(x:k.T)(z:V):M (k.T×V)→M (k.T×V)
 |[]=>[(x,z)]|r::l=>match jH k x r.1 with|true=>r::l|false=>r::nt k x z l
def pr{K V:Type}(y:V):U→M (K×V)→M (K×V)|_,[]=>[]|0,r::l=>(r.1,y)::l|n+1,r::l=>r::pr y n l
def qn(k:Ty)(x:k.T):M k.T→az
 |[]=>I|r::l=>match jH k x r with|true=>W|false=>qn k x l
def ov(k:Ty)(x:k.T):M k.T→M k.T
 |[]=>[x]|r::l=>match jH k x r with|true=>x::l|false=>r::ov k x l
def Jk(t:Ty)(r:aO)(j hv:U):PE (M t.T):=
 .aE r λx=>(bD (x.hv==hv)).bind λ_=>match x.at j with|.l .ak t2 ys=>if h:t2=t then .ret (h▸ys)else .ai|.l .data t2 ys=>if h:t2=t then .ret (h▸ys)else .ai|.n .ak t2 o=>if h:t2=t then .call [] o λys=>.ret (h▸ys)else .ai|.n .data t2 o=>if h:t2=t then .call [] o λys=>.ret (h▸ys)else .ai|_=>.ai
def ta(t:Ty):E→PE (M t.T)|.cX .map=>.ret []|.l .data a xs=>if h:a=t then .ret (h▸xs)else .ai|.n .data a o=>if h:a=t then .call [] o λxs=>.ret (h▸xs)else .ai|.l (.bj r j hv _ _) a _=>if a=t then Jk t r j hv else .ai|.n (.bj r j hv _ _) a b=>if a=t then .call [] b λ_=>Jk t r j hv else .ai|_=>.ai
def aP.isAgg:aP→az|.agg _=>W|_=>I
def P9(v:Ty)(y:v.T):PE aP:=
 match v.agg with
 |true=>.ret (.agg (fc v y))|false=>match fc v y with|[c]=>.ret (.one c)|_=>.ai
def yb(sh:M Sc)(ki ei:TI)(k v:Ty)(b:U)(c:az):az:=(match po k with|some a=>decide (a=sh)|none=>I)&&k.w==ki.size&&k.agg==ki.kind.agg&&b==ei.size&&c==ei.kind.agg
def yc(k:Ty)(a:aP):Q k.T:=
 match a.isAgg==k.agg,a.fM with|true,J cs=>lA k cs|_,_=>O
def Qa(af:eW)(t:bq)(c:E)(a:aP)(ok:az):PE aP:=
 match jD af.c t with
 |some (kt,ki,ei)=>match rp af.c kt,ei.zero,lk t af.R with
  |some sh,J z,J (.cb u k v)=>match yc k a with
   |some x=>do
    bD (yb sh ki ei k v v.w v.agg&&vo v z&&(v.agg||v.w==1))
    let xs ←ta (.cb u k v) c
    match ok with|true=>.ret (.bw [(v.agg,fc v (X (du k x xs) v.zero)),(I,[.b (V (du k x xs))])])|false=>P9 v (X (du k x xs) v.zero)
   |none=>.ai
  |some sh,J [],J (.set k)=>match yc k a with
   |some x=>do
    bD (yb sh ki ei k k 0 W)
    let xs ←ta (.set k) c
    match ok with|true=>.ret (.bw [(W,[]),(I,[.b (qn k x xs)])])|false=>.ret (.agg [])
   |none=>.ai
  |_,_,_=>.ai
 |none=>.ai
def Jl{α:Type}(t:Ty)(r:aO)(j:U)(x:dU)(cond:Q (M t.T→az))(F:M t.T→M t.T)(out:M t.T→α)(ys:M t.T):PE α:=
 match cond with
 |none=>(lz r {x with cv:=x.cv+1,v:=x.v.setCell j (.l .ak t (F ys))}).bind λ_=>.ret (out ys)
 |some c=>(cZ (c ys)).bind λ_=>(lz r {x with cv:=x.cv+1,v:=x.v.setCell j (.l .ak t (F ys))}).bind λ_=>.ret (out ys)
def Jm{α:Type}(t:Ty)(r:aO)(j hv:U)(cond:Q (M t.T→az))(F:M t.T→M t.T)(out:M t.T→α):PE α:=
 .aE r λx=>(bD (x.hv==hv&& !r.isArg)).bind λ_=>match x.at j with|.l .ak t2 ys=>if h:t2=t then Jl t r j x cond F out (h▸ys)else .ai|.n .ak t2 o=>if h:t2=t then .call [] o λys=>Jl t r j x cond F out (h▸ys)else .ai|_=>.ai
def vp{α:Type}(t:Ty)(c:E)(cond:Q (M t.T→az))(F:M t.T→M t.T)(out:M t.T→α):PE α:=
 match c with|.l (.bj r j hv _ _) a _=>if a=t then Jm t r j hv cond F out else .ai|.n (.bj r j hv _ _) a b=>if a=t then .call [] b λ_=>Jm t r j hv cond F out else .ai|_=>.ai
def Qb(af:eW)(t:bq)(c:E)(b a:aP):PE bV:=
 match jD af.c t with
 |some (kt,ki,ei)=>match rp af.c kt,lk t af.R with
  |some sh,J (.cb u k v)=>match yc k b,a.fM with
   |some x,J d=>do
    bD (yb sh ki ei k v v.w v.agg&&a.isAgg==v.agg&&Y d==v.w)
    let ds ←vn d
    match lA v ds with
    |some y=>match u with|true=>vp (.cb W k v) c O (λxs=>P8 k x y xs) λ_=>()|false=>vp (.cb I k v) c O (λxs=>fZ k x y xs) λ_=>()
    |none=>.ai
   |_,_=>.ai
  |some sh,J (.set k)=>match yc k b,a.fM with
   |some x,J []=>do
    bD (yb sh ki ei k k 0 W&&a.isAgg)
    vp (.set k) c O (λxs=>ov k x xs) λ_=>()
   |_,_=>.ai
  |_,_=>.ai
 |none=>.ai
def Qc(af:eW)(t:bq)(c:E)(a:aP):PE aP:=
 match jD af.c t with
 |some (kt,ki,ei)=>match rp af.c kt,ei.zero,lk t af.R with
  |some sh,J z,J (.cb I k v)=>match yc k a with
   |some x=>do
    bD (yb sh ki ei k v v.w v.agg&&vo v z&&(v.agg||v.w==1))
    vp (.cb I k v) c O (λxs=>nt k x v.zero xs) λxs=>.bw [(v.agg,fc v (X (du k x xs) v.zero)),(I,[.i .i64 (mD k x xs)])]
   |none=>.ai
  |_,_,_=>.ai
 |none=>.ai
def Qd(af:eW)(t:bq)(c st:E)(a:aP):PE bV:=
 match jD af.c t,lk t af.R,st,a.fM with
 |some (_,ki,ei),J (.cb I k v),.i _ n,J b=>do
  bD (k.w==ki.size&&k.agg==ki.kind.agg&&v.w==ei.size&&v.agg==ei.kind.agg&&a.isAgg==v.agg&&Y b==v.w)
  let ds ←vn b
  match lA v ds with|some y=>vp (.cb I k v) c (J λxs=>decide (0≤n∧n<ag xs)) (λxs=>pr y (G n) xs) λ_=>()|none=>.ai
 |_,_,_,_=>.ai
def Qe(af:eW)(t:bq)(dst:U):PE aP:=
 match jD af.c t,lk t af.R with
 |some (_,ki,ei),J (.cb u k v)=>do
  bD (k.w==ki.size&&k.agg==ki.kind.agg&&v.w==ei.size&&v.agg==ei.kind.agg&&u==ab4 af.un dst)
  .ret (.one (.l .ak (.cb u k v) []))
 |some (_,ki,ei),J (.set k)=>do
  bD (k.w==ki.size&&k.agg==ki.kind.agg&&0==ei.size&&W==ei.kind.agg&& !ab4 af.un dst)
  .ret (.one (.l .ak (.set k) []))
 |_,_=>.ai
def Qf(af:eW)(t:bq)(c:E):PE aP:=
 match jD af.c t,lk t af.R with
 |some (_,ki,ei),J (.cb I k v)=>do
  bD (k.w==ki.size&&k.agg==ki.kind.agg&&v.w==ei.size&&v.agg==ei.kind.agg)
  let d ←pn c
  match d with|.l .data a xs=>if h:a=.cb I k v then .ret (.one (.it .ak (.cb I k v) (h▸xs) []))else .ai|.n .data a o=>if h:a=.cb I k v then .call [] o λxs=>.ret (.one (.it .ak (.cb I k v) (h▸xs) []))else .ai|_=>.ai
 |_,_=>.ai
def Dt(k v:Ty)(r:k.T×v.T):M (az×M E):=[(k.agg,fc k r.1),(v.agg,fc v r.2)]
def Du(u:az)(k v:Ty):az:=uA (Ty.cb u k v).e==k.w&&xh (Ty.cb u k v).e==k.agg&&xi (Ty.cb u k v).e==v.agg
def Qg(c:E):PE aP:=
 match c with
 |.it (.bj r j hv _ _) _ _ _=>.aE r λx=>do
  bD (x.hv==hv&& !r.isArg)
  match x.at j with
  |.it .ak (.cb u k v) xs (i::_)=>do
   bD (Du u k v)
   cZ (bT i (List.length (α:=k.T×v.T) xs))
   .ret (.bw (Dt k v (List.getD (α:=k.T×v.T) xs i (k.zero,v.zero))))
  |_=>.ai
 |_=>.ai
def Qh(af:eW)(t:bq)(c:E):PE aP:=
 match jD af.c t,lk t af.R with
 |some (_,ki,ei),J (.cb u k v)=>do
  bD (k.w==ki.size&&k.agg==ki.kind.agg&&v.w==ei.size&&v.agg==ei.kind.agg)
  let xs ←ta (.cb u k v) c
  .ret (fY .i64 (ag xs))
 |some (_,ki,ei),J (.set k)=>do
  bD (k.w==ki.size&&k.agg==ki.kind.agg&&0==ei.size&&W==ei.kind.agg)
  let xs ←ta (.set k) c
  .ret (fY .i64 (ag xs))
 |_,_=>.ai
def oy:M E→M aC|[]=>[]|.aW k _::cs=>k::oy cs|.dj _ caps::cs=>caps.map (·.1)++oy cs|_::cs=>oy cs
def Dv(af:bM):E→PE E
 |.l (.bj (.tmp u) j hv cv k) t xs=>match af.keep u with|true=>.ret (.l (.bj (.tmp u) j hv cv k) t xs)|false=>pn (.l (.bj (.tmp u) j hv cv k) t xs)
 |.n (.bj (.tmp u) j hv cv k) t o=>match af.keep u with|true=>.ret (.n (.bj (.tmp u) j hv cv k) t o)|false=>pn (.n (.bj (.tmp u) j hv cv k) t o)
 |.l (.bj (.box q) j hv cv k) t xs=>match af.rk with|false=>.ret (.l (.bj (.box q) j hv cv k) t xs)|true=>pn (.l (.bj (.box q) j hv cv k) t xs)
 |.n (.bj (.box q) j hv cv k) t o=>match af.rk with|false=>.ret (.n (.bj (.box q) j hv cv k) t o)|true=>pn (.n (.bj (.box q) j hv cv k) t o)
 |.it m t xs a=>match m with|.bj .. =>.ai|m=>.ret (.it m t xs a)
 |c=>.ret c
def Jn(af:bM)(c:E):PE E:=Dv af c
def Dw(af:bM):M E→PE (M E)|[]=>.ret []|c::cs=>do let a ←Jn af c;let r ←Dw af cs;.ret (a::r)
def AB(af:bM):aP→PE aP|.one c=>do .ret (.one (←Jn af c))|.agg cs=>do .ret (.agg (←Dw af cs))|_=>.ai
def Jo(af:bM):M aP→PE (M aP)|[]=>.ret []|v::vs=>do let a ←AB af v;let r ←Jo af vs;.ret (a::r)
def AC(ks:M aC):E→PE E
 |.l (.bj r j hv cv _) t xs=>.aE r λx=>do
  bD (x.hv==hv&&x.cv==cv)
  match x.at j with
  |.l .ak _ _=>do
   bD (ks.all λk=> !iq r (.box k))
   .ret (.l .ak t xs)
  |.n .ak _ o=>.call [] o λ_=>do
   bD (ks.all λk=> !iq r (.box k))
   .ret (.l .ak t xs)
  |.l .data _ _=>.ret (.l .data t xs)|.n .data _ o=>.call [] o λ_=>.ret (.l .data t xs)|_=>.ai
 |.n (.bj r j hv cv _) t o=>.aE r λx=>do
  bD (x.hv==hv&&x.cv==cv)
  match x.at j with
  |.n .ak _ _=>do
   Ax j x (V o)
   bD (ks.all λk=> !iq r (.box k))
   .ret (.n .ak t o)
  |.n .data _ _=>do
   Ax j x (V o)
   .ret (.n .data t o)
  |_=>.ai
 |.aW k off=>.ret (.aW (.aB (idx k ks)) off)|.dj f caps=>.ret (.dj f (caps.map λp=>(.aB (idx p.1 ks),p.2)))|c=>match ou c with|true=>.ret c|false=>.ai
def Dx(ks:M aC):M E→PE (M E)|[]=>.ret []|c::cs=>do let a ←AC ks c;let r ←Dx ks cs;.ret (a::r)
def AE(ks:M aC):aP→PE aP|.one c=>do .ret (.one (←AC ks c))|.agg cs=>do .ret (.agg (←Dx ks cs))|_=>.ai
def Jp(ks:M aC):M aP→PE (M aP)|[]=>.ret []|v::vs=>do let a ←AE ks v;let r ←Jp ks vs;.ret (a::r)
def rK:E→az|.i _ _|.b _|.tt|.ff|.s _|.l .data _ _|.n .data _ _|.l .ak _ _|.n .ak _ _|.nil|.cX _|.r _ _=>W|_=>I
def lB(ks:M aC):E→az|.aW k _=>ks.any (gH k)|.bK=>W|c=>rK c
def l5(ks:M aC):E→E|.aW k off=>.aW (.aB (idx k ks)) off|c=>c
def Jq:Q E→az|some .bK=>W|some c=>rK c|none=>W
def qo(a:M aC):M aC→PE (M (M E))
 |[]=>.ret []|k::ks=>.aE (.box k) λx=>match x.v with|.agg cs=>do bD (cs.all (lB a));let r ←qo a ks;.ret (cs.map (l5 a)::r)|_=>.ai
def Jr:M aC→PE (M aC)
 |[]=>.ret []|k::ks=>.aE (.box k) λx=>match x.v with|.agg cs=>do let r ←Jr ks;.ret (oy cs++r)|_=>.ai
def Dy:M E→M (Q E)→az|[.aW _ _],[]=>W|[.aW _ _],O::_=>W|_,_=>I
def Dz(a:M aC):M aC→M (M (Q E))→PE bV
 |[],_=>.ret ()|k::ks,o::os=>.aE (.box k) λx=>match x.v with
  |.agg cs=>do
   bD (cs.all (lB a)&&o.all Jq)
   match Dy cs o with|true=>Dz a ks os|false=>.wr k o (Dz a ks os)
  |_=>.ai
 |_,_=>.ai
def Js(t:U):U→M (M E)→PE bV
 |_,[]=>.ret ()|i,b::a=>.aE (.box (.cm t i)) λx=>match x.v with|.undef=>do bD (b.all rK);lz (.box (.cm t i)) {hv:=x.hv+1,cv:=x.cv,v:=.agg b};Js t (i+1) a|_=>.ai
def Qi(args:M aP)(l:M (U×U)):az:=l.all λp=>ou (H (H args p.1 .undef).cells p.2 .bK)
def Jt(ks:M aC)(t:U):E→PE E
 |.aW (.aB i) off=>.ret (.aW (Oh ks t (.aB i)) off)|.dj f caps=>do bD caps.isEmpty;.ret (.dj f [])|c=>match rK c with|true=>.ret c|false=>.ai
def AF(ks:M aC)(t:U):M E→PE (M E)|[]=>.ret []|c::cs=>do let a ←Jt ks t c;let r ←AF ks t cs;.ret (a::r)
def DA(ks:M aC)(t:U):M (az×M E)→PE (M (az×M E))|[]=>.ret []|(b,cs)::vs=>do let a ←AF ks t cs;let r ←DA ks t vs;.ret ((b,a)::r)
def vq(ks:M aC)(t:U):aP→PE aP|.one c=>do .ret (.one (←Jt ks t c))|.agg cs=>do .ret (.agg (←AF ks t cs))|.bw vs=>do .ret (.bw (←DA ks t vs))|.undef=>.ai
def yd(K:cU)(ks:M aC)(a:M aP)(t:U)(x:K.A)(y:K.R)(b:az):PE aP:=do
 bD (gN (Y ks) (Y (K.out x y b).2)&&Qi a K.cH)
 Dz ks ks ((K.out x y b).2.take (Y ks))
 Js t 0 (((K.out x y b).2.drop (Y ks)).map AA)
 vq ks t (K.out x y b).1
def Qj(af:eW)(f:dT)(b:M aP)(t:U):PE aP:=
 match af.fD t f with
 |none=>.ai|some K=>do
  let args ←Jo af.c b
  let more ←Jr (nh (oy (args.flatMap aP.cells)))
  let ks:=nh (oy (args.flatMap aP.cells)++more)
  let a ←Jp ks args
  let e ←qo ks ks
  match K.eV a e with
  |none=>.ai|some x=>.call K.d (K.sh x) λy=>match K.two with|false=>yd K ks a t x y W|true=>.br (K.flag y) (yd K ks a t x y W) (yd K ks a t x y I)
def Zt(o:cF):PE (dT×M aP):=
 match o with
 |.func f=>.ret (f,[])|o=>do
  match ←fX o with|.dj f caps=>.ret (f,caps.map λp=>.one (.aW p.1 p.2))|_=>.ai
def DB(af:bM)(c:E)(r:aO):az:=
 match r with
 |.tmp u=> !ab4 af.var u||(match c with|.aW (.aw t) _=>ab4 af.res t|_=>I)
 |.box (.aw _)=>(match c with|.aW (.aw t) _=>ab4 af.res t|_=>I)
 |_=>I
def DC(self:aO×U)(u:cF):E→PE E
 |.l (.bj r j hv cv k) t xs=>match sL u r with|true=>Do (J self) (sL u) (.l (.bj r j hv cv k) t xs)|false=>.ret (.l (.bj r j hv cv k) t xs)
 |.n (.bj r j hv cv k) t o=>match sL u r with|true=>Do (J self) (sL u) (.n (.bj r j hv cv k) t o)|false=>.ret (.n (.bj r j hv cv k) t o)
 |.it m t xs a=>match m with|.bj .. =>.ai|m=>.ret (.it m t xs a)
 |c=>.ret c
def AG(r:aO)(u:cF):U→M E→PE (M E)|_,[]=>.ret []|i,c::cs=>do let b ←DC (r,i) u c;let a ←AG r u (i+1) cs;.ret (b::a)
def DD(r:aO)(u:cF):U→M (az×M E)→PE (M (az×M E))|_,[]=>.ret []|i,(b,cs)::vs=>do let a ←AG r u i cs;let c ←DD r u (i+Y cs) vs;.ret ((b,a)::c)
def rL(r:aO)(u:cF):aP→PE aP|.one c=>do .ret (.one (←DC (r,0) u c))|.agg cs=>do .ret (.agg (←AG r u 0 cs))|.bw vs=>do .ret (.bw (←DD r u 0 vs))|.undef=>.ai
def AH:Q cF→PE (Q L)|none=>.ret O|some o=>do .ret (J (←vk (←fX o)))
def jw(a b:L):L:=if b<a then b else a
def oz(a b:L):L:=if b>a then b else a
def Ju(c:az):M aP→PE aP|[.one (.i k a),.one (.i _ b)]=>.ret (fY k (match c with|true=>jw a b|false=>oz a b))|_=>.ai
def Zu:aP→Q (aC×U)|.one (.aW k o)=>J (k,o)|_=>O
def DE:M aP→Q (M (aC×U))
 |[]=>J []|v::r=>match Zu v,DE r with|some p,J l=>J (p::l)|_,_=>O
def gI(o:cF)(b:az):PE bV:=
 match o with|.tmp t=>.gI (.tmp t) b (.ret ())|_=>.ret ()
def fi(af:eW)(op:Op)(dst:U):PE aP:=
 match op with
 |.move x=>do
  let v ←fh x
  match Vs.isVar af.c x with|true=>.ret v|false=>rL (.tmp dst) x v
 |.assign x=>do
  let v ←fh x
  sX (.tmp dst) (WL af.c dst) v
 |.pick c a b=>do
  match ←fX c with|.tt=>fh a|.ff=>fh b|.b x=>.br x (do gI c W;fh a) (do gI c I;fh b)|_=>.ai
 |.alloc t=>match af.c.ti t with
  |some {size,zero:=J z, ..}=>do
   bD (Y z==size)
   .aE (.box (.aw dst)) λx=>match x.v with
    |.undef=>match ya z with|some cs=>do lz (.box (.aw dst)) {hv:=x.hv+1,cv:=x.cv,v:=.agg cs};.ret (.one (.aW (.aw dst) 0))|none=>.ai
    |_=>.ai
  |_=>.ai
 |.box _ x=>do
  let v ←fh x
  match v.fM with
  |some cs=>do
   let cs' ←vm (λn=>(.box (.aw dst),n)) (DB af.c (.aW (.aw dst) 0)) 0 cs
   .aE (.box (.aw dst)) λx=>match x.v with|.undef=>do lz (.box (.aw dst)) {hv:=x.hv+1,cv:=x.cv,v:=.agg cs'};.ret (.one (.aW (.aw dst) 0))|_=>.ai
  |none=>.ai
 |.build t ps=>PW af.c t (T ps)|.buildSlice t len ps=>PX af t len (T ps)|.load t a=>match af.c.ti t with|some i=>do Az i (←fX a)|none=>.ai
 |.nilCheck x=>do
  match ←fX x with|.aW k o=>.ret (.one (.aW k o))|.ea r j hv e i o=>.ret (.one (.ea r j hv e i o))|.da t x o=>.ret (.one (.da t x o))|_=>.ai
 |.binOp op t x y _=>do
  match ←fh x,←fh y with|.one a,.one b=>PK af.c t op a b|.agg xs,.agg ys=>PN af.c t op xs ys|_,_=>.ai
 |.unOp op _ x=>do
  match op,←fX x with|.neg,.i k n=>.ret (fY k (k.wrap (0-n)))|.xor,.i k n=>Dq .xor k (if k.signed then-1 else k.max) n|.not,.b b=>.ret (kH (!b))|.not,.tt=>.ret (.one .ff)|.not,.ff=>.ret (.one .tt)|_,_=>.ai
 |.convert s t x=>do P7 af.c s t (←fh x)|.makeFunc (.func f) first captured=>do
  bD ((T first).isEmpty)
  let vs ←xY (T captured)
  match DE vs with|some l=>.ret (.one (.dj f l))|none=>.ai
 |.makeSlice t l c=>do
  let n ←vk (←fX l)
  let m ←vk (←fX c)
  PY af t n m
 |.slice t x lo hi O=>match af.c.ti t with
  |some {kind:=.bh, ..}=>do
   let v ←fh x
   let l ←AH lo
   let h ←AH hi
   P5 v l h
  |some {kind:=.slice et, ..}=>match af.c.ti et with
   |some i=>do
    let v ←fh x
    let l ←AH lo
    let h ←AH hi
    P6 i.size v l h
   |none=>.ai
  |_=>.ai
 |.fieldAddr t x f=>do .ret (.one (←PQ af.c t (←fX x) f))|.field t x f=>do
  match af.c.ti t,←fh x with
  |some {kind:=.struct fs, ..},.agg cs=>match fs[f]? with
   |some (o,ft')=>match af.c.ti ft' with|some i=>sY i cs o|none=>.ai
   |none=>.ai
  |_,_=>.ai
 |.indexAddr t x ix=>match x with
  |.global g=>do
   let n ←vk (←fX ix)
   .ret (.one (←PR af.c t g n))
  |x=>do
   let c ←fX x
   let n ←vk (←fX ix)
   .ret (.one (←PT af.c t c n))
 |.index t x ix=>do
  let v ←fh x
  let n ←vk (←fX ix)
  PV af.c t v n
 |.extract x n=>do
  match ←fh x with
  |.bw vs=>match vs[n]? with|some (W,cs)=>rL (.tmp dst) x (.agg cs)|some (I,[c])=>rL (.tmp dst) x (.one c)|_=>.ai
  |_=>.ai
 |.call {callee:=.builtin .len,args,argTypes}=>match T args,T argTypes with
  |[x],[t]=>match af.c.ti t with|some {kind:=.bh, ..}=>do Jh W (←fh x)|some {kind:=.slice _, ..}=>do Jh I (←fh x)|some {kind:=.map _ _, ..}=>do Qh af t (←fX x)|_=>.ai
  |_,_=>.ai
 |.range t x=>do Qf af t (←fX x)|.entry x=>do Qg (←fX x)|.makeMap t O=>Qe af t dst|.lookup t x ix ok=>do
  let c ←fX x
  let v ←fh ix
  Qa af t c v ok
 |.mapEntry t m k=>do
  let c ←fX m
  let v ←fh k
  Qc af t c v
 |.call {callee:=.builtin .append,args,argTypes}=>match T args,T argTypes with
  |[x,y],[t,t2]=>match af.c.ti t with
   |some {kind:=.slice et, ..}=>match af.c.ti et,lk et af.R with
    |some i,J ty=>match af.c.ti t2 with
     |some {kind:=.int .i64, ..}=>do
      let c ←fX x
      let n ←vk (←fX y)
      P4 i ty c n
     |_=>do
      let c ←fX x
      let c2 ←fX y
      let ys ←P2 af.c i ty t2 c2
      P1 i ty c ys (isLit af.c.var c2)
    |_,_=>.ai
   |_=>.ai
  |_,_=>.ai
 |.call {callee:=.builtin .cap,args,argTypes}=>match T args,T argTypes with
  |[x],[t]=>match af.c.ti t with|some {kind:=.slice _, ..}=>do P3 (←fX x)|_=>.ai
  |_,_=>.ai
 |.call {callee:=.builtin .min,args, ..}=>do Ju W (←xY (T args))|.call {callee:=.builtin .max,args, ..}=>do Ju I (←xY (T args))|.call {callee:=.value o,args, ..}=>do
  let (f,caps) ←Zt o
  let vs ←xY (T args)
  Qj af f (vs++caps) dst
 |_=>.ai
def AJ(af:eW)(t:U)(v:aP):PE bV:=
 .aE (.tmp t) λx=>do
  bD (bT t af.N)
  lz (.tmp t) {hv:=x.hv+1,cv:=x.cv,v}
def oA(af:eW)(o:cS):PE bV:=
 match o.op,o.dst with
 |.store t a x,O=>match af.c.ti t with
  |some i=>do
   let c ←fX a
   let v ←fh x
   PP (DB af.c c) i c v
  |none=>.ai
 |.mapUpdate t m k x,O|.insert t m k x,O=>do
  let c ←fX m
  let b ←fh k
  let vx ←fh x
  Qb af t c b vx
 |.entryStore t m st x,O=>do
  let c ←fX m
  let s ←fX st
  let vx ←fh x
  Qd af t c s vx
 |op,J d=>do AJ af d (←fi af op d)|_,O=>.ai
def Jv(af:eW)(e:bW cS)(o:cS):PE bV:=
 match o.guard with
 |none=>oA af o|some (j,c)=>do
  let a:PE bV:=match o.dst with|some d=>AJ af d (.bw [])|none=>.ret ()
  match(e[j]?).bind (·.dst)with
  |some t=>.aE (.tmp t) λx=>match x.v with
   |.one .tt=>match c with|true=>oA af o|false=>a
   |.one .ff=>match c with|true=>a|false=>oA af o
   |.one (.b b)=>match c with|true=>.br b (.gI (.tmp t) W (oA af o)) (.gI (.tmp t) I a)|false=>.br b (.gI (.tmp t) W a) (.gI (.tmp t) I (oA af o))
   |.bw []=>a|_=>.ai
  |none=>.ai
def rM(af:eW)(a:bW cS):M cS→bp→Tr (bp×M (M aO×M aO))|[],s=>.dz (s,[])|o::r,s=>((Jv af a o).cV s).bind λx=>(rM af a r x.2.1).bind λy=>.dz (y.1,(x.2.2.1,x.2.2.2)::y.2)
namespace Tr
def vr{α β:Type}(t:Tr α)(f:α→Tr β)(Q:β→Prop):(t.bind f).box Q↔t.box λa=>(f a).box Q:=by
 induction t with|dz a=>rfl|ai=>exact uq|br c t e b g=>simp only[bind,box,b,g]|call d o k h=>simp only[bind,box,h]|sum o k k' h i=>simp only[bind,box,h,i]
theorem rN{α β:Type}(t:Tr α)(f:α→β)(Q:β→Prop):(t.map f).box Q↔t.box λa=>Q (f a):=by
 induction t with|dz a=>rfl|ai=>exact uq|br c t e b g=>simp only[map,box,b,g]|call d o k h=>simp only[map,box,h]|sum o k k' h i=>simp only[map,box,h,i]
theorem oC{α:Type}{t:Tr α}{Q Q':α→Prop}(h:∀a,Q a→Q' a)(b:t.box Q):t.box Q':=by
 induction t with|dz a=>exact h _ b|ai=>trivial|br c t e g i=>exact⟨λj=>g (b.1 j),λj=>i (b.2 j)⟩|call d o k l=>exact λx f=>l x (b x f)|sum o k k' l m=>exact⟨λx f=>l x (b.1 x f),λx f=>m x (b.2 x f)⟩
def kI{α β:Type}(t:Tr α)(f:α→Tr β)(Q:β→Prop):(t.bind f).eJ Q↔t.eJ λa=>(f a).eJ Q:=by
 induction t with|dz a=>rfl|ai=>exact uq|br c t e b g=>simp only[bind,eJ,b,g]|call d o k h=>simp only[bind,eJ,h]|sum o k k' h i=>simp only[bind,eJ,h,i]
theorem lD{α β:Type}(t:Tr α)(f:α→β)(Q:β→Prop):(t.map f).eJ Q↔t.eJ λa=>Q (f a):=by
 induction t with|dz a=>rfl|ai=>exact uq|br c t e b g=>simp only[map,eJ,b,g]|call d o k h=>simp only[map,eJ,h]|sum o k k' h i=>simp only[map,eJ,h,i]
theorem hV{α:Type}{t:Tr α}{Q Q':α→Prop}(h:∀a,Q a→Q' a)(b:t.eJ Q):t.eJ Q':=by
 induction t with|dz a=>exact h _ b|ai=>trivial|br c t e f g=>exact⟨f b.1,g b.2⟩|call d o k i=>exact λx=>i x (b x)|sum o k k' i j=>exact⟨λx=>i x (b.1 x),λx=>j x (b.2 x)⟩
def AK{α:Type}(t:Tr α):t.eJ λ_=>dK:=by
 induction t with|dz a=>trivial|ai=>trivial|br c t e b f=>exact⟨b,f⟩|call d o k g=>exact g|sum o k k' g h=>exact⟨g,h⟩
def vt{α:Type}{t:Tr α}{Q:α→Prop}(b:t.eJ Q):t.box Q:=by
 induction t with|dz a=>exact b|ai=>trivial|br c t e f g=>exact⟨λ_=>f b.1,λ_=>g b.2⟩|call d o k h=>exact λx _=>h x (b x)|sum o k k' h i=>exact⟨λx _=>h x (b.1 x),λx _=>i x (b.2 x)⟩
def td{α:Type}{t:Tr α}{Q p:α→Prop}(h:t.all Q)(f:t.box p):t.all λa=>Q a∧p a:=by
 induction t with
 |dz a=>exact⟨h,f⟩|ai=>exact h|br c t e j l=>exact⟨λi=>j (h.1 i) (f.1 i),λi=>l (h.2 i) (f.2 i)⟩|call d o k m=>let⟨x,b,g⟩:=h;exact⟨x,b,m x g (f x b)⟩
 |sum o k k' m n=>exact⟨λx b=>m x (h.1 x b) (f.1 x b),λx b=>n x (h.2 x b) (f.2 x b)⟩
def Zv{α:Type}{t:Tr α}{Q l:α→Prop}(h1:t.box Q)(h2:t.box l):t.box λa=>Q a∧l a:=by
 induction t with|dz a=>exact⟨h1,h2⟩|ai=>trivial|br c t e g h=>exact⟨λf=>g (h1.1 f) (h2.1 f),λf=>h (h1.2 f) (h2.2 f)⟩|call d o k i=>exact λx b=>i x (h1 x b) (h2 x b)|sum o k k' i j=>exact⟨λx b=>i x (h1.1 x b) (h2.1 x b),λx b=>j x (h1.2 x b) (h2.2 x b)⟩
theorem AL{α:Type}(t:Tr α)(Q:α→Prop):t.all Q↔ ∃a,t.run=J a∧Q a:=by
 induction t with
 |dz a=>simp[all,run]|ai=>simp[all,run]|br c t e b f=>cases c<;>simp[all,run,b,f]
 |call d o k g=>cases o<;>simp[all,run,aq,g]
 |sum o k k' g h=>cases o<;>simp[all,run,dc,g,h]
theorem run_bind{α β:Type}(t:Tr α)(f:α→Tr β):(t.bind f).run=t.run.bind λa=>(f a).run:=by
 induction t with
 |dz a=>rfl|ai=>rfl|br c t e b g=>cases c<;>simp[bind,run,b,g]
 |call d o k h=>cases o<;>simp[bind,run,aq,h]
 |sum o k k' h i=>cases o<;>simp[bind,run,dc,h,i]
def run_map{α β:Type}(t:Tr α)(f:α→β):(t.map f).run=t.run.map f:=by
 induction t with
 |dz a=>rfl|ai=>rfl|br c t e b g=>cases c<;>simp[map,run,b,g]
 |call d o k h=>cases o<;>simp[map,run,aq,h]
 |sum o k k' h i=>cases o<;>simp[map,run,dc,h,i]
end Tr
theorem tf{α:Type}:∀(l:M α)(j:U)(c:α),ly l j c=l.set j c|[],j,c=>by simp[ly]|x::r,0,c=>rfl|x::r,j+1,c=>by simp[ly,tf r j c]
def Zw(cs:M E)(j:U)(c:E):aU (ly cs j c)=(aU cs).set j (cE c):=by rw[tf];simp[aU,List.map_set]
@[simp] def rO(cs:M E):Y (aU cs)=Y cs:=by simp[aU]
@[simp] def Qk(l m:M E):aU (l++m)=aU l++aU m:=by simp[aU]
def Zx:∀(vs:M (az×M E)),(ft vs).flatMap (·.2)=aU (vs.flatMap (·.2))|[]=>rfl|(b,cs)::r=>by have:=Zx r;simp_all [ft]
def Jw(v:aP):(aL v).cells=aU v.cells:=by
 cases v with|bw vs=>exact Zx vs|_=>rfl
def AN{α β:Type}(f:α→β)(l:M α)(j:U)(d:α):H (l.map f) j (f d)=f (H l j d):=by grind
def kJ(x:dU)(j:U):(cL x).at j=cE (x.at j):=by show(H (aL x.v).cells) j .bK=_;rw[Jw];exact AN cE _ j .bK
def Zy:∀(vs:M (az×M E))(j:U)(c:E),ft (Dk vs j c)=rh (ft vs) j (cE c)|[],j,c=>rfl|(b,cs)::r,j,c=>by have a:=Zy r (j-Y cs) c;simp only[Dk,ft,eU,rh,rO]at a ⊢;split<;>simp[Zw,a]
theorem nu(v:aP)(j:U)(c:E):aL (v.setCell j c)=(aL v).setCell j (cE c):=by
 cases v with|one x=>show aL (if j=0 then .one c else .one x)=if j=0 then .one (cE c)else .one (cE x);split<;>rfl|agg cs=>simp only[aP.setCell,aL,SV.setCell,Zw]|bw vs=>simp only[aP.setCell,aL,SV.setCell,Zy]|undef=>rfl
theorem Zz(v:SV)(j:U)(h:j<v.cells.length):v.setCell j (v.cells.getD j .bK)=v:=by
 cases v with
 |one x=>
  simp only[SV.cells,List.length_singleton]at h;have:j=0:=by omega
  subst this;rfl
 |agg cs=>simp_all [SV.cells,SV.setCell]|bw vs=>
  simp only[SV.cells]at h ⊢;simp only[SV.setCell,SV.bw.injEq];induction vs generalizing j with|nil=>rfl|cons p r a=>let⟨b,cs⟩:=p;simp only[mZ,List.length_append]at h;simp only[rh,mZ];split;simp_all;grind
 |undef=>simp[SV.cells]at h
def vu(m:Md)(t:Ty)(o:Q (M t.T))(h:V o=W):cE (.n m t o)=cE (.l m t (X o [])):=by
 cases o with
 |none=>cases h
 |some xs=>rfl
def ZA(r:aO)(x:dU)(j:U)(c:E):cE (vj r x j c)=nY r (cL x) j (cE c):=by
 cases c with
 |l m t xs=>cases m<;>rfl
 |n m t o=>cases m<;>cases o<;>rfl
 |it m t xs a=>cases m<;>rfl
 |hO b=>cases b<;>rfl
 |_=>rfl
theorem Jx(r:aO)(x:dU):∀(j:U)(cs:M E),aU (xX r x j cs)=ja r (cL x) j (aU cs)|j,[]=>rfl|j,c::cs=>by have:=Jx r x (j+1) cs;simp_all [aU,xX,ja,ZA]
def ZB(r:aO)(x:dU):∀(j:U)(vs:M (az×M E)),ft (Dl r x j vs)=uC r (cL x) j (ft vs)|j,[]=>rfl|j,(b,cs)::vs=>by have:=ZB r x (j+Y cs) vs;simp_all [ft,Dl,uC,Jx]
def copy_eq(x:dU)(r:aO):aL (x.gD r)=(cL x).gD r:=by
 let⟨hv,cv,v⟩:=x;cases v with|one c=>exact bX SV.one (ZA r _ 0 c)|agg cs=>exact bX SV.agg (Jx r _ 0 cs)|bw vs=>exact bX SV.bw (ZB r _ 0 vs)|undef=>rfl
theorem ZC{v:aJ}{e:E}(h:Dm v=J e):∃d,uB v=J d∧cE e=.d d:=by unfold Dm at h;split at h<;>first|(cases h;exact⟨_,rfl,rfl⟩)|(rename_i b;cases h;cases b<;>exact⟨_,rfl,rfl⟩)|(cases h;done)
theorem ZD:∀{vs:M aJ}{es:M E},Jc vs=J es→∃ds,lU vs=J ds∧aU es=ds.map .d
 |[],es,h=>by cases h;exact⟨[],rfl,rfl⟩
 |v::r,es,h=>by unfold Jc at h;split at h;rename_i d ds h1 h2;cases h;let⟨x,a,b⟩:=ZC h1;let⟨xs,c,e⟩:=ZD h2;simp_all [lU,aU];cases h
theorem kV:∀(t:Ty)(x:t.T),aU (fc t x)=(bf t x).map .d
 |.int k,n=>rfl|.bool,b=>rfl|.bh,s=>rfl|.sl t,o=>by cases o<;>rfl
 |.bG h t,x=>by have h1:=kV h x.1;have h2:=kV t x.2;simp only[fc,Qk,h1,h2,bf,mj]|.set h,x=>by simpa[fc,bf]using kV h x|.cb _ h t,x=>by have h1:=kV h x.1;have h2:=kV t x.2;simp only[fc,Qk,h1,h2,bf,mj]
theorem jx:∀(t:Ty)(x:t.T),Y (bf t x)=t.w
 |.int k,n=>rfl|.bool,b=>rfl|.bh,s=>rfl|.sl t,o=>by cases o<;>rfl
 |.bG h t,x=>by simp[bf,Ty.w,jx h x.1,jx t x.2]|.set h,x=>by simpa[bf,Ty.w]using jx h x|.cb _ h t,x=>by simp[bf,Ty.w,jx h x.1,jx t x.2]
theorem AO:∀(t:Ty)(cs r:M E)(x:t.T),ot t cs=J (x,r)→∃a,cs=a++r∧aU a=(bf t x).map .d
 |.int k,cs,r,x,h=>by unfold ot at h;split at h;split at h;rename_i hk;cases h;subst hk;exact⟨[.i _ _],rfl,rfl⟩;cases h;cases h
 |.bool,cs,r,x,h=>by unfold ot at h;split at h<;>cases h;exact⟨[.b _],rfl,rfl⟩;exact⟨[.tt],rfl,rfl⟩;exact⟨[.ff],rfl,rfl⟩
 |.bh,cs,r,x,h=>by unfold ot at h;split at h<;>cases h;exact⟨[.s _],rfl,rfl⟩
 |.sl t,cs,r,x,h=>by unfold ot at h;split at h;split at h;rename_i o _ e;subst e;cases h;exact⟨[.n .data _ o],rfl,by cases o<;>rfl⟩;cases h;split at h;rename_i e;subst e;cases h;exact⟨[.l .data _ _],rfl,rfl⟩;cases h;cases h;exact⟨[.nil],rfl,rfl⟩;cases h
 |.bG h t,cs,r,x,c=>by unfold ot at c;split at c;rename_i y g h1;split at c;rename_i z j h2;cases c;obtain⟨a,rfl,f⟩:=AO h _ _ _ h1;obtain⟨b,rfl,f2⟩:=AO t _ _ _ h2;exact⟨a++b,by simp,by simp[f,f2,bf]⟩;cases c;cases c
 |.set k,cs,r,x,h=>AO k cs r x h|.cb _ h t,cs,r,x,c=>by unfold ot at c;split at c;rename_i y g h1;split at c;rename_i z j h2;cases c;obtain⟨a,rfl,f⟩:=AO h _ _ _ h1;obtain⟨b,rfl,f2⟩:=AO t _ _ _ h2;exact⟨a++b,by simp,by simp[f,f2,bf]⟩;cases c;cases c
theorem Jy{t:Ty}{cs:M E}{x:t.T}(h:lA t cs=J x):aU cs=(bf t x).map .d:=by grind [lA,AO]
theorem lE(a b:aC):gH a b=W↔a=b:=by cases a<;>cases b<;>simp[gH]
theorem vw(a b:aO):iq a b=W↔a=b:=by cases a<;>cases b<;>simp[iq,lE]
def vy(r:aO)(x:dU)(q:aO):∀(l:M (aO×dU)),gl q (vi r x l)=if q=r then x else gl q l|[]=>by grind [vi,gl,vw]|(p,y)::l=>by have a:=vy r x q l;grind [vi,vw,gl]
theorem AP(s:bp){r:aO}(x:dU)(a:r.isArg=I)(q:aO):(s.put r x).aE q=if q=r then x else s.aE q:=by
 cases q with
 |bN i=>
  have:aO.bN i≠r:=by rintro rfl;cases a
  rw[aV this];rfl
 |tmp t=>exact vy r x _ s.m|box k=>exact vy r x _ s.m
theorem AQ(s:bp){r:aO}(x:dU)(a:r.isArg=I):dH (s.put r x)=(dH s).set r (cL x):=by grind [dH,St.set,AP]
def akS(s:bp){t:U}{c b:az}(h:(s.aE (.tmp t)).v=.one (.b c))(a:c=b):dH (s.gI (.tmp t) b)=dH s:=by
 funext q;have d:(s.gI (.tmp t) b).aE q=if q=.tmp t then{(s.aE (.tmp t))with v:=.one (kb b)}else s.aE q:=by
  cases q with|bN i=>rw[aV (by simp)];rfl|tmp u=>exact vy (.tmp t) _ (.tmp u) s.m|box k=>exact vy (.tmp t) _ (.box k) s.m
 simp only[dH,d];split;rename_i e;subst e a;have:s.aE (.tmp t)={(s.aE (.tmp t))with v:=.one (.b c)}:=by rw[←h]
 rw[this];cases c<;>rfl;rfl
def DF(s:bp)(k:aC)(os:M (Q E))(q:aO){cs:M E}(h:(s.aE (.box k)).v=.agg cs):(s.wr k os).aE q=if q=.box k then{hv:=(s.aE (.box k)).hv+1,cv:=(s.aE (.box k)).cv,v:=.agg (fg cs os)}else s.aE q:=by
 have a:(gl (.box k) s.m).v=.agg cs:=h;cases q with
 |bN i=>rw[aV (by simp)];rfl|tmp u=>
  have:=vy (.box k) {hv:=(gl (.box k) s.m).hv+1,cv:=(gl (.box k) s.m).cv,v:=match(gl (.box k) s.m).v with|.agg cs=>.agg (fg cs os)|v=>v} (.tmp u) s.m
  rw[aV (by simp)]at this ⊢;exact this
 |box u=>
  show gl (.box u) (vi (.box k) {hv:=(gl (.box k) s.m).hv+1,cv:=(gl (.box k) s.m).cv,v:=match(gl (.box k) s.m).v with|.agg cs=>.agg (fg cs os)|v=>v} s.m)=_
  rw[vy];split;rw[a];rfl;rfl
theorem akT(s:bp)(k:aC)(os:M (Q E)){cs:M E}(h:(s.aE (.box k)).v=.agg cs):dH (s.wr k os)=(dH s).set (.box k) {hv:=(s.aE (.box k)).hv+1,cv:=(s.aE (.box k)).cv,v:=.agg (aU (fg cs os))}:=by funext q;simp only[dH,DF s k os q h,St.set];split<;>rfl
def ZE:∀(old:M E)(off:U)(cs:M E),off+Y cs≤Y old→fg old (ep off O++cs.map J)=eG old off cs
 |old,0,cs,h=>by
  have:∀(old cs:M E),Y cs≤Y old→fg old (cs.map J)=cs++old.drop (Y cs):=by
   intro old cs;induction cs generalizing old with
   |nil=>grind [fg]|cons c cs a=>
    intro h;cases old with|nil=>simp at h|cons o old=>simp_all [fg]
  simp_all [eG]
 |[],off+1,cs,h=>by simp at h|o::old,off+1,cs,h=>by have a:=ZE old off cs (by grind);grind [fg,eG]
def ae{α β:Type}(s:bp)(p:PE α)(f:α→β)(q:ax β):Prop:=(p.cV s).box λx=>∃fr a,q.cV (dH s)=J (f x.1,dH x.2.1,fr,a)∧(∀r∈fr,r∈x.2.2.1)∧∀r∈a,r∈x.2.2.2
def kq{α β:Type}(p:PE α)(k:α→PE β):∀s,(p.bind k).cV s=(p.cV s).bind λx=>((k x.1).cV x.2.1).map λy=>(y.1,y.2.1,x.2.2.1++y.2.2.1,x.2.2.2++y.2.2.2):=by
 have v:∀{γ δ u:Type}(t:Tr γ)(f:γ→δ)(g:δ→Tr u),(t.map f).bind g=t.bind λa=>g (f a):=by
  intro γ δ u t f g;induction t with|dz a=>rfl|ai=>rfl|br c t e l m=>simp only[Tr.map,Tr.bind,l,m]|call d o k h=>simp only[Tr.map,Tr.bind,h]|sum o k k' h n=>simp only[Tr.map,Tr.bind,h,n]
 have w:∀{γ δ u:Type}(t:Tr γ)(f:γ→Tr δ)(g:δ→u),(t.bind f).map g=t.bind λa=>(f a).map g:=by
  intro γ δ u t f g;induction t with|dz a=>rfl|ai=>rfl|br c t e l m=>simp only[Tr.map,Tr.bind,l,m]|call d o k h=>simp only[Tr.map,Tr.bind,h]|sum o k k' h n=>simp only[Tr.map,Tr.bind,h,n]
 have z:∀{γ δ u:Type}(t:Tr γ)(f:γ→δ)(g:δ→u),(t.map f).map g=t.map λa=>g (f a):=by
  intro γ δ u t f g;induction t with|dz a=>rfl|ai=>rfl|br c t e l m=>simp only[Tr.map,l,m]|call d o k h=>simp only[Tr.map,h]|sum o k k' h n=>simp only[Tr.map,h,n]
 have hid:∀{γ:Type}(t:Tr γ),t.map (λa=>a)=t:=by
  intro γ t;induction t with|dz a=>rfl|ai=>rfl|br c t e l m=>simp only[Tr.map,l,m]|call d o k h=>simp only[Tr.map,h]|sum o k k' h n=>simp only[Tr.map,h,n]
 induction p with
 |ret a=>simp_all [PE.bind,PE.cV,Tr.bind]|ai=>intro s;rfl
 |br c p q A B=>intro s;simp only[PE.bind,PE.cV,Tr.bind,A,B]
 |call d o k h=>intro s;simp only[PE.bind,PE.cV,Tr.bind,h]
 |aE r k h=>simp_all [PE.bind,PE.cV]|put r x k h=>intro s;simp only[PE.bind,PE.cV];cases xW r x<;>simp only[h,v,w,z,List.cons_append,Tr.bind]
 |cH i j k h=>simp_all [PE.bind,PE.cV]|gI r b k h=>intro s;simp only[PE.bind,PE.cV,h]
 |wr q os k h=>simp_all [PE.bind,PE.cV]
theorem Ql{α β:Type}(p:ax α)(k:α→ax β):∀s,(p.bind k).cV s=match p.cV s with
  |some (a,s',f,g)=>match(k a).cV s' with|some (b,c,d,e)=>J (b,c,f++d,g++e)|none=>O
  |none=>O:=by
 induction p with
 |ret a=>grind [ax.bind,ax.cV]|ai=>intro s;rfl
 |aE r k' h=>grind [ax.bind,ax.cV]|put r x p h=>grind [ax.bind,ax.cV]
section
variable{α β γ δ:Type}{s:bp}
theorem ae.ret{a:α}{f:α→β}{b:β}(h:b=f a):ae s (.ret a) f (.ret b):=by subst h;exact⟨[],[],rfl,by simp,by simp⟩
theorem ae.ai{f:α→β}{q:ax β}:ae s .ai f q:=trivial
def ae.ZF{p:PE α}{f:α→β}{q:ax β}{k:α→PE γ}{g:γ→δ}{k':β→ax δ}{R:α→bp→Prop}(h:ae s p f q)(b:(p.cV s).box λx=>R x.1 x.2.1)(hk:∀a s',R a s'→ae s' (k a) g (k' (f a))):ae s (p.bind k) g (q.bind k'):=by unfold ae at h hk ⊢;rw[kq,Tr.vr];refine Tr.oC ?_ (Tr.Zv h b);grind [Tr.rN,Tr.oC,Ql]
theorem ae.bind{p:PE α}{f:α→β}{q:ax β}{k:α→PE γ}{g:γ→δ}{k':β→ax δ}(h:ae s p f q)(hk:∀a s',ae s' (k a) g (k' (f a))):ae s (p.bind k) g (q.bind k'):=ae.ZF (R:=λ_ _=>dK) h (Tr.vt (Tr.AK _)) λa s' _=>hk a s'
theorem ae.aE{r:aO}{k:dU→PE α}{f:α→β}{k':RV→ax β}(h:ae s (k (s.aE r)) f (k' (cL (s.aE r)))):ae s (.aE r k) f (.aE r k'):=by unfold ae at h ⊢;simp only[PE.cV,Tr.rN];grind [Tr.oC,ax.cV,dH]
def ae.look{r:aO}{k:dU→PE α}{f:α→β}{q:ax β}(h:ae s (k (s.aE r)) f q):ae s (.aE r k) f q:=by unfold ae at h ⊢;grind [PE.cV,Tr.rN,Tr.oC]
theorem ae.put{r:aO}{x:dU}{y:RV}{p:PE α}{f:α→β}{q:ax β}(a:r.isArg=I)(hy:y=cL x)(h:ae (s.put r x) p f q):ae s (.put r x p) f (.put r y q):=by
 subst hy;unfold ae at h ⊢;simp only[PE.cV];cases xW r x with|false=>trivial|true=>
 grind [Tr.rN,Tr.oC,ax.cV,AQ]
def ae.ZG{r:aO}{x:dU}{p:PE α}{f:α→β}{q:ax β}(a:r.isArg=I)(hx:cL x=cL (s.aE r))(h:ae (s.put r x) p f q):ae s (.put r x p) f q:=by
 have e:dH (s.put r x)=dH s:=by rw[AQ s x a,hx];grind [St.set,dH]
 unfold ae at h ⊢;simp only[PE.cV];cases xW r x with|false=>trivial|true=>
 grind [Tr.rN,Tr.oC]
def ae.wr{k:aC}{os:M (Q E)}{y:RV}{p:PE α}{f:α→β}{q:ax β}{cs:M E}(h:(s.aE (.box k)).v=.agg cs)(hy:y={hv:=(s.aE (.box k)).hv+1,cv:=(s.aE (.box k)).cv,v:=.agg (aU (fg cs os))})(hp:ae (s.wr k os) p f q):ae s (.wr k os p) f (.put (.box k) y q):=by subst hy;unfold ae at hp ⊢;simp only[PE.cV,Tr.rN];grind [Tr.oC,ax.cV,akT]
def ae.Jz{i:U}{x:dU}{p:PE α}{f:α→β}{q:ax β}:ae s (.put (.bN i) x p) f q:=trivial
theorem ae.br{c:az}{p a:PE α}{f:α→β}{q:ax β}(h:c=W→ae s p f q)(b:c=I→ae s a f q):ae s (.br c p a) f q:=⟨h,b⟩
theorem ae.call{ρ:Type}{d:ρ}{o:Q ρ}{k:ρ→PE α}{f:α→β}{q:ax β}(h:∀x,o=J x→ae s (k x) f q):ae s (.call d o k) f q:=h
theorem ae.gI{t:U}{b c:az}{p:PE α}{f:α→β}{q:ax β}(h:(s.aE (.tmp t)).v=.one (.b c))(a:c=b)(hp:ae (s.gI (.tmp t) b) p f q):ae s (.gI (.tmp t) b p) f q:=by unfold ae at hp ⊢;rw[akS s h a]at hp;exact hp
theorem ae.cZ{c:az}{k:bV→PE α}{f:α→β}{q:ax β}(h:c=W→ae s (k ()) f q):ae s ((Ve.cZ c).bind k) f q:=⟨h,λ_=>trivial⟩
theorem ae.bD{c:az}{k:bV→PE α}{f:α→β}{q:ax β}(h:c=W→ae s (k ()) f q):ae s ((Ve.bD c).bind k) f q:=by
 cases c with|true=>exact h rfl|false=>trivial
theorem ae.comp{p:PE α}{f:α→β}{q:ax β}{g:β→γ}(h:ae s p f q):ae s p (λa=>g (f a)) (q.bind λb=>.ret (g b)):=by unfold ae at h ⊢;grind [Tr.oC,Ql,ax.cV]
def ae.JA{p:PE α}{f:α→β}{q q':ax β}(h:ae s p f q')(e:q=q'):ae s p f q:=by rw[e];exact h
theorem cC{α:Type}{p:Prop}[Decidable p](h:p)(k:bV→ax α):(bS p).bind k=k ():=by simp[bS,h,ax.bind]
end
theorem bE{α β:Type}(p:ax α)(f:α→ax β):(p >>= f)=p.bind f:=rfl
theorem bB{α β:Type}(p:PE α)(k:α→PE β):(p >>= k)=p.bind k:=rfl
def ZH{α β:Type}(x:α)(k:α→PE β):(PE.ret x).bind k=k x:=rfl
def fU(o:cF)(s:bp):ae s (fh o) aL (ev o):=by
 cases o with
 |tmp t=>
  simp only[fh,ev];refine ae.aE ?_;have b:=copy_eq (s.aE (.tmp t)) (.tmp t);cases hv:(s.aE (.tmp t)).v with|undef=>exact ae.ai|_=>grind [cL,aL,ae.ret]
 |const v=>
  by_cases a:∃cs,v=.agg cs;grind [fh,ev,ae.ai,ZD,ae.ret,aL];have c:fh (.const v)=match Dm v with|some d=>PE.ret (aP.one d)|none=>.ai:=by cases v<;>first|rfl|grind
  have e:ev (.const v)=match uB v with|some d=>ax.ret (SV.one (.d d))|none=>.ai:=by cases v<;>first|rfl|grind
  grind [ae.ai,ZC,ae.ret,aL]
 |func f=>exact ae.ret rfl|global g=>exact ae.ai
def DG:∀(os:M cF)(s:bp),ae s (xY os) (jq aL) (rl os)|[],s=>ae.ret rfl|o::os,s=>by simp only[xY,rl,bB,bE];exact ae.bind (fU o s) λv a=>ae.bind (DG os a) λvs b=>ae.ret rfl
def akU(v:aP)(s:bp):ae s (PB v) cE (zV (aL v)):=by cases v<;>first|exact ae.ret rfl|exact ae.ai
def ga(o:cF)(s:bp):ae s (fX o) cE (ed o):=by simp only[fX,ed,bB,bE];exact ae.bind (fU o s) λv a=>akU v a
def th(c:E)(s:bp):ae s (vk c) (λn=>n) (pa (cE c)):=by cases c<;>first|exact ae.ret rfl|exact ae.ai
def akV(s:bp)(i j:U){t:Ty}{ys:M t.T}(h:(s.aE (.bN i)).at j=.l .ak t ys):
  dH {s with cH:=s.cH++[(i,j)],cI:=(.bN i,O)::s.cI}=(dH s).set (.bN i) {(cL (s.aE (.bN i)))with v:=(cL (s.aE (.bN i))).v.setCell j (.d (.sl t.e (ys.map (bf t))))}:=by
 have b:∀(l:M (U×U))(args:M aP),jd (l++[(i,j)]) args=ly (jd l args) i (vh (H (jd l args) i .undef) j):=by
  intro l;induction l with
  |nil=>intro args;rfl
  |cons p l n=>simp_all [jd]
 generalize m:jd s.cH s.args=A at *
 have a:∀q,(s.aE (.bN q)).v=H A q .undef:=λq=>by rw[←m];rfl
 have c:H (H A i .undef).cells j .bK=.l .ak t ys:=by rw[←a];exact h
 have f:vh (H A i .undef) j=(H A i .undef).setCell j (.l .data t ys):=by unfold vh;rw[c]
 funext q
 cases q with
 |tmp t=>rw[lS _ _ (by simp)];rfl|box k=>rw[lS _ _ (by simp)];rfl|bN q=>
  show cL {v:=H (jd (s.cH++[(i,j)]) s.args) q .undef}=_;rw[b,m];have hi:i<Y A:=by grind [aP.cells]
  rw[tf];by_cases g:q=i;subst g;rw[lR];simp only[cL,jP,List.getElem?_set_self hi,fL];rw[←jP,f,nu,a];rfl;rw[lS _ _ (by simpa using g)];simp only[jP,List.getElem?_set_ne (Ne.symm g)];show cL _=cL (s.aE (.bN q));congr 1;show _=({v:=H (jd s.cH s.args) q .undef}:dU);grind
def ZI(r:aO)(j:U)(s:bp):ae s (xZ r j (s.aE r)) (λ_=>()) (pb r j (cL (s.aE r))):=by
 unfold xZ pb;rw[kJ];cases b:(s.aE r).at j with
 |l m t xs=>
  cases m with
  |data=>exact ae.ret rfl|bj=>exact ae.ai|ak=>
   cases r with
   |bN i=>unfold ae;refine⟨[],[.bN i],?_,by simp,by simp⟩;show(eu (.bN i) _).cV (dH s)=J ((),dH {s with cH:=s.cH++[(i,j)],cI:=(.bN i,O)::s.cI},[],[.bN i]);rw[akV s i j b];rfl
   |_=>exact ae.put rfl (by simp only[cL,nu];rfl) (ae.ret rfl)
 |n m t o=>
  cases m with
  |data=>refine ae.call λx a=>?_;subst a;exact ae.ret rfl|bj=>exact ae.ai|ak=>
   cases r with|bN i=>exact ae.ai|_=>refine ae.call λys a=>?_;subst a;exact ae.put rfl (by simp only[cL,nu];rfl) (ae.ret rfl)
 |_=>exact ae.ai
theorem ZJ(r:aO)(j:U)(s:bp):ae s (rI r j (s.aE r)) (λ_=>()) (pZ r j (cL (s.aE r))):=by
 unfold rI pZ;rw[kJ];cases b:(s.aE r).at j with
 |l m t xs=>
  cases m with
  |ak=>
   cases r with|bN i=>exact ae.Jz|_=>exact ae.put rfl (by simp only[cL,nu];rfl) (ae.ret rfl)
  |_=>exact ae.ai
 |n m t o=>
  cases m with
  |ak=>
   refine ae.call λys a=>?_;subst a;cases r with|bN i=>exact ae.Jz|_=>exact ae.put rfl (by simp only[cL,nu];rfl) (ae.ret rfl)
  |_=>exact ae.ai
 |_=>exact ae.ai
def ZK{x:dU}{j:U}{c:E}(h:cE (x.at j)=cE c)(hd:cE c≠.bK):cL {x with v:=x.v.setCell j c}=cL x:=by
 have h2:H (aL x.v).cells j .bK=cE c:=by rw[←h];exact kJ x j
 have a:j<Y (aL x.v).cells:=by grind
 show({hv:=x.hv,cv:=x.cv,v:=aL (x.v.setCell j c)}:RV)={hv:=x.hv,cv:=x.cv,v:=aL x.v};rw[nu,←h2,Zz _ _ a]
def isSome_none{α:Type}{o:Q α}(h:(I==V o)=W):o=O:=by cases o<;>first|rfl|cases h
def isSome_some{α:Type}{o:Q α}(h:(W==V o)=W):∃x,o=J x:=by
 cases o with
 |none=>cases h
 |some x=>exact⟨x,rfl⟩
def ZL(r:aO)(j:U)(s:bp):ae s (sW r j (s.aE r) W) (λ_=>()) (pb r j (cL (s.aE r))):=by
 unfold sW pb;rw[kJ];cases a:(s.aE r).at j with
 |n m t o=>
  cases m with
  |data=>refine ae.br (λh=>?_) λ_=>ae.ai;obtain⟨x,rfl⟩:=isSome_some h;exact ae.ret rfl
  |bj=>exact ae.ai|ak=>
   cases r with|bN i=>exact ae.ai|_=>refine ae.br (λh=>?_) λ_=>ae.ai;obtain⟨x,rfl⟩:=isSome_some h;exact ae.put rfl (by simp only[cL,nu];rfl) (ae.ret rfl)
 |_=>exact ae.ai
def ZM(r:aO)(j:U)(s:bp):ae s (sW r j (s.aE r) I) (λ_=>()) (ax.ret ()):=by
 unfold sW;cases a:(s.aE r).at j with
 |n m t o=>
  cases m with
  |data=>exact ae.br (λ_=>ae.ret rfl) λ_=>ae.ai|bj=>exact ae.ai|ak=>
   cases r with|bN i=>exact ae.ai|_=>refine ae.br (λh=>?_) λ_=>ae.ai;have:=isSome_none h;subst this;exact ae.ZG rfl (ZK (by rw[a];rfl) (by simp[cE])) (ae.ret rfl)
 |_=>exact ae.ai
theorem ZN(r:aO)(j:U)(s:bp):ae s (qm r j (s.aE r) W) (λ_=>()) (pZ r j (cL (s.aE r))):=by
 unfold qm pZ;rw[kJ];cases a:(s.aE r).at j with
 |n m t o=>
  cases m with
  |ak=>
   refine ae.br (λh=>?_) λ_=>ae.ai;obtain⟨x,rfl⟩:=isSome_some h;cases r with|bN i=>exact ae.Jz|_=>exact ae.put rfl (by simp only[cL,nu];rfl) (ae.ret rfl)
  |_=>exact ae.ai
 |_=>exact ae.ai
def ZO(r:aO)(j:U)(s:bp):ae s (qm r j (s.aE r) I) (λ_=>()) (ax.ret ()):=by
 unfold qm;cases a:(s.aE r).at j with
 |n m t o=>
  cases m with
  |ak=>
   refine ae.br (λh=>?_) λ_=>ae.ai;have:=isSome_none h;subst this;cases r with|bN i=>exact ae.Jz|_=>exact ae.ZG rfl (ZK (by rw[a];rfl) (by simp[cE])) (ae.ret rfl)
  |_=>exact ae.ai
 |_=>exact ae.ai
def vz{α β:Type}{j:U}{x:dU}{b:az}{s:bp}{k:bV→PE α}{f:α→β}{q:ax β}(h:(∃t o,(x.at j=.n .ak t o∨x.at j=.n .data t o)∧b=V o)→ae s (k ()) f q):ae s ((Ax j x b).bind k) f q:=by
 have key:∀(t:Ty)(o:Q (M t.T)),(x.at j=.n .ak t o∨x.at j=.n .data t o)→ae s ((PE.br (b==V o) (.ret ()) .ai).bind k) f q:=by intro t o c;exact ae.br (λd=>h ⟨t,o,c,by simpa using d⟩) λ_=>trivial
 unfold Ax;cases a:x.at j with
 |n m t o=>
  cases m with|bj=>exact ae.ai|ak=>exact key t o (.inl a)|data=>exact key t o (.inr a)
 |_=>exact ae.ai
theorem akW{α β:Type}{c:E}{s:bp}{k:E→PE α}{f:α→β}{q:ax β}(h:∀c',cE c'=cE c→ae s (k c') f q):ae s ((Zr c).bind k) f q:=by
 cases c with
 |n m t o=>
  cases m with
  |bj r j hv cv i=>
   cases r with|bN a=>refine ae.br (λb=>?_) λb=>?_;exact h _ (vu _ t o b).symm;(have:o=O:=by cases o<;>first|rfl|cases b);subst this;exact h .nil rfl|_=>exact h _ rfl
  |_=>exact h _ rfl
 |_=>exact h _ rfl
theorem akX{α β:Type}{c:E}{s:bp}{k:E→PE α}{f:α→β}{q:ax β}(h:∀c',cE c'=cE c→(∀m t o,c'≠.n m t o)→ae s (k c') f q):ae s ((resolve c).bind k) f q:=by
 cases c with
 |n m t o=>
  refine ae.br (λa=>?_) λa=>?_;exact h _ (vu m t o a).symm (by intro m t o h;cases h);have:o=O:=by cases o<;>first|rfl|cases a
  subst this;exact h .nil rfl (by intro m t o h;cases h)
 |_=>exact h _ rfl (by intro m t o h;cases h)
def JC(self:Q (aO×U))(r:aO)(j:U)(b:az):(rJ self r j||b)=W↔(self=J (r,j)∨b=W):=by
 cases self with|none=>simp[rJ]|some p=>grind [rJ,vw]
theorem akY{α β:Type}{r:aO}{j:U}{s:bp}{t:Ty}(h:(s.aE r).at j=.n .ak t O){k:bV→PE α}{f:α→β}{q:ax β}:ae s ((rI r j (s.aE r)).bind k) f q:=by unfold rI;rw[h];exact ae.call λx a=>by cases a
theorem akZ{α β:Type}{r:aO}{j:U}{s:bp}{t:Ty}(h:(s.aE r).at j=.n .ak t O){k:bV→PE α}{f:α→β}{q:ax β}:ae s ((xZ r j (s.aE r)).bind k) f q:=by
 unfold xZ;rw[h];cases r with|bN i=>exact ae.ai|_=>exact ae.call λx a=>by cases a
def ak0(self:Q (aO×U))(take:aO→az)(c:E)(s:bp):ae s (Dn self take c) cE (nZ self take (cE c)):=by
 cases c with
 |l m t xs=>
  cases m with
  |bj r j hv cv k=>
   simp only[Dn,nZ,cE,lC];cases A:r.isArg with
   |true=>simp only[bI];exact ae.ret rfl|false=>
    simp only[bL,ch];refine ae.aE ?_;simp only[bB,bE];refine ae.bD λu=>?_;simp only[ck,dL]at u;rw[cC (p:=(cL (s.aE r)).hv=hv∧(cL (s.aE r)).cv=cv) u];rw[kJ]
    have body:∀(F:U)(B:M (M D)),ae s (match rJ self r j||take r with|true=>(rI r j (s.aE r)).bind λ_=>PE.ret (E.l .ak t xs)|false=>(xZ r j (s.aE r)).bind λ_=>PE.ret (E.l .data t xs)) cE
      (if self=J (r,j)∨take r=W then(pZ r j (cL (s.aE r))).bind λ_=>ax.ret (C.ak t.e (xs.map (bf t)))
        else(pb r j (cL (s.aE r))).bind λ_=>ax.ret (C.d (D.sl t.e (xs.map (bf t))))):=by
     intro _ _
     cases a:rJ self r j||take r with|true=>rw[aF ((JC self r j (take r)).1 a)];exact ae.bind (ZJ r j s) λ_ _=>ae.ret rfl|false=>rw[aV (λh=>by rw[(JC self r j (take r)).2 h]at a;cases a)];exact ae.bind (ZI r j s) λ_ _=>ae.ret rfl
    cases y:(s.aE r).at j with
    |l g v ys=>
     cases g with|ak=>exact body 0 []|data=>exact ae.ret rfl|bj=>exact ae.ai
    |n g v o=>
     cases g with
     |ak=>
      cases o with|none=>grind [akY,akZ]|some ys=>exact body 0 []
     |data=>exact ae.call λx w=>by subst w;exact ae.ret rfl|bj=>exact ae.ai
    |_=>exact ae.ai
  |_=>exact ae.ret rfl
 |n m t o=>
  cases m with
  |bj r j hv cv k=>
   cases o with
   |none=>
    simp only[Dn];cases A:r.isArg with
    |true=>exact ae.ret rfl|false=>
     refine ae.look ?_;simp only[bB];refine ae.bD λu=>?_;cases y:(s.aE r).at j with
     |n g v z=>
      cases g with
      |ak=>
       simp only;cases a:rJ self r j||take r with|true=>exact ae.bind (k':=λ_=>ax.ret (C.d .nil)) (q:=ax.ret ()) (f:=λ_=>()) (k:=λ_=>PE.ret (E.n .ak t O)) (ZO r j s) λ_ _=>ae.ret rfl|false=>exact ae.bind (k':=λ_=>ax.ret (C.d .nil)) (q:=ax.ret ()) (f:=λ_=>()) (k:=λ_=>PE.ret (E.n .data t O)) (ZM r j s) λ_ _=>ae.ret rfl
      |data=>exact vz λ_=>ae.ret rfl|bj=>exact ae.ai
     |_=>exact ae.ai
   |some xs=>
    simp only[Dn,nZ,cE,lC];cases A:r.isArg with
    |true=>simp only[bI];exact ae.ret rfl|false=>
     simp only[bL,ch];refine ae.aE ?_;simp only[bB,bE];refine ae.bD λu=>?_;simp only[ck,dL]at u;rw[cC (p:=(cL (s.aE r)).hv=hv∧(cL (s.aE r)).cv=cv) u];rw[kJ]
     have body:ae s (match rJ self r j||take r with|true=>(qm r j (s.aE r) W).bind λ_=>PE.ret (E.n .ak t (J xs))|false=>(sW r j (s.aE r) W).bind λ_=>PE.ret (E.n .data t (J xs))) cE
       (if self=J (r,j)∨take r=W then(pZ r j (cL (s.aE r))).bind λ_=>ax.ret (C.ak t.e (xs.map (bf t)))
         else(pb r j (cL (s.aE r))).bind λ_=>ax.ret (C.d (D.sl t.e (xs.map (bf t))))):=by
      cases a:rJ self r j||take r with|true=>rw[aF ((JC self r j (take r)).1 a)];exact ae.bind (ZN r j s) λ_ _=>ae.ret rfl|false=>rw[aV (λh=>by rw[(JC self r j (take r)).2 h]at a;cases a)];exact ae.bind (ZL r j s) λ_ _=>ae.ret rfl
     cases y:(s.aE r).at j with
     |n g v z=>
      cases g with
      |ak=>
       cases z with
       |none=>
        simp only;have no:∀(x:dU),x.at j=.n .ak v O→∀{k:bV→PE E}{q:ax C},ae s ((qm r j x W).bind k) cE q∧ae s ((sW r j x W).bind k) cE q:=by
         intro x w k q;constructor;unfold qm;rw[w];exact ae.br (λh=>by cases h) λ_=>trivial;unfold sW;rw[w];cases r with|bN i=>exact ae.ai|_=>exact ae.br (λh=>by cases h) λ_=>trivial
        grind
       |some ys=>exact body
      |data=>
       refine vz λ⟨t2,G,h1,h2⟩=>?_;rw[y]at h1;cases z with|none=>grind|some ys=>exact ae.ret rfl
      |bj=>exact ae.ai
     |_=>exact ae.ai
  |_=>cases o<;>exact ae.ret rfl
 |bK=>exact ae.ai|hO b=>exact ae.ai|it m t xs H=>cases m<;>first|exact ae.ret rfl|exact ae.ai
 |_=>exact ae.ret rfl
theorem DH(self:Q (aO×U))(take:aO→az)(c:E)(s:bp):ae s (Do self take c) cE (nZ self take (cE c)):=by exact ak0 self take c s
def DI(mk:U→aO×U)(take:aO→az):∀(cs:M E)(i:U)(s:bp),ae s (vm mk take i cs) aU (pc mk take i (aU cs))|[],i,s=>ae.ret rfl|c::cs,i,s=>by show ae s (vm mk take i (c::cs)) aU (pc mk take i (cE c::aU cs));simp only[vm,pc,bB,bE];exact ae.bind (DH _ take c s) λd a=>ae.bind (DI mk take cs (i+1) a) λb e=>ae.ret rfl
def ZP(mk:U→aO×U)(take:aO→az):∀(vs:M (az×M E))(i:U)(s:bp),ae s (Dp mk take i vs) ft (xj mk take i (ft vs))|[],i,s=>ae.ret rfl|(b,cs)::vs,i,s=>by show ae s (Dp mk take i ((b,cs)::vs)) ft (xj mk take i ((b,aU cs)::ft vs));simp only[Dp,xj,bB,bE,rO];exact ae.bind (DI mk take cs i s) λd a=>ae.bind (ZP mk take vs _ a) λc e=>ae.ret rfl
def ZQ(r:aO)(take:aO→az)(v:aP)(s:bp):ae s (sX r take v) aL (nc r take (aL v)):=by
 cases v with|one c=>show ae s (sX r take (.one c)) aL (nc r take (.one (cE c)));simp only[sX,nc,bB,bE];exact ae.bind (DH _ take c s) λa b=>ae.ret rfl|agg cs=>show ae s (sX r take (.agg cs)) aL (nc r take (.agg (aU cs)));simp only[sX,nc,bB,bE];exact ae.bind (DI _ take cs 0 s) λa b=>ae.ret rfl|bw vs=>show ae s (sX r take (.bw vs)) aL (nc r take (.bw (ft vs)));simp only[sX,nc,bB,bE];exact ae.bind (ZP _ take vs 0 s) λa b=>ae.ret rfl|undef=>exact ae.ai
theorem Qm{c:E}(h:ou c=W):∃d,cE c=.d d:=by
 cases c with
 |l m t xs=>cases m<;>first|exact⟨_,rfl⟩|cases h
 |n m t o=>cases m<;>cases o<;>first|exact⟨_,rfl⟩|cases h
 |_=>first|exact⟨_,rfl⟩|cases h
def AU:C→D|.d x=>x|_=>.nil
def qp(c:E):D:=AU (cE c)
theorem ak1(c:E)(s:bp):ae s (nr c) qp (mq (cE c)):=by
 have dat:∀{c:E},ou c=W→nr c=PE.ret c→ae s (nr c) qp (mq (cE c)):=by intro c hd e;rw[e];let⟨d,h⟩:=Qm hd;refine ae.JA (ae.ret rfl) ?_;unfold qp;rw[h];rfl
 cases c with
 |l m t xs=>
  cases m with|bj r j hv cv k=>simp only[nr,mq,cE,lC];refine ae.aE ?_;simp only[bB,bE];refine ae.bD λa=>?_;simp only[ck,dL]at a;rw[cC (p:=(cL (s.aE r)).hv=hv∧(cL (s.aE r)).cv=cv) a];exact ae.bind (ZI r j s) λ_ _=>ae.ret rfl|data=>exact dat rfl rfl|ak=>exact ae.ai
 |n m t o=>
  cases m with
  |bj r j hv cv k=>
   cases o with|none=>simp only[nr];refine ae.look ?_;simp only[bB];refine ae.bD λa=>?_;exact ae.bind (k':=λ_=>ax.ret D.nil) (q:=ax.ret ()) (f:=λ_=>()) (k:=λ_=>PE.ret (E.n .data t O)) (ZM r j s) λ_ _=>ae.ret rfl|some xs=>simp only[nr,mq,cE,lC];refine ae.aE ?_;simp only[bB,bE];refine ae.bD λa=>?_;simp only[ck,dL]at a;rw[cC (p:=(cL (s.aE r)).hv=hv∧(cL (s.aE r)).cv=cv) a];exact ae.bind (ZL r j s) λ_ _=>ae.ret rfl
  |data=>exact dat rfl rfl|ak=>exact ae.ai
 |i=>exact dat rfl rfl|b=>exact dat rfl rfl|tt=>exact dat rfl rfl|ff=>exact dat rfl rfl|s=>exact dat rfl rfl|nil=>exact dat rfl rfl|cX=>exact dat rfl rfl|r=>exact dat rfl rfl|_=>exact ae.ai
theorem vA(c:E)(s:bp):ae s (pn c) qp (mq (cE c)):=by grind [pn,bB,akW,ak1]
def DJ:∀(cs:M E)(s:bp),ae s (vn cs) (jq qp) (pd (aU cs))|[],s=>ae.ret rfl|c::cs,s=>by show ae s (vn (c::cs)) _ (pd (cE c::aU cs));simp only[vn,pd,bB,bE];exact ae.bind (vA c s) λd a=>ae.bind (DJ cs a) λb e=>ae.ret rfl
theorem JD{t:Ty}{cs:M E}{x:t.T}(h:lA t cs=J x):(cs.map qp)=bf t x:=by
 have:=Jy h;have h2:=bX (jq AU) this;simp only[aU,sC]at h2;have e:(AU ∘ C.d)=id:=by funext d;rfl
 rw[e,List.map_id]at h2;exact h2
theorem vB(v:aP):(aL v).fM=v.fM.map aU:=by cases v<;>rfl
def ak2(t:Ty)(c:E)(s:bp):ae s (x9 t c) (jq (bf t)) (mr t.e (cE c)):=by
 cases c with
 |nil=>exact ae.ret rfl|l m b xs=>
  cases m with
  |ak=>exact ae.ai|data=>grind [x9,mr,cE,lC,bE,bB,ae.bD,cC,ae.ret,ae.ai]|bj r j hv cv k=>
   simp only[x9,mr,cE,lC];refine ae.aE ?_;simp only[bE];cases a:(s.aE r).hv==hv&&(s.aE r).cv==cv&& !ca t.e with
   |false=>exact ae.ai|true=>
    simp only[ck,dL,lQ]at a;obtain⟨a,f⟩:=a;have fin:alive (cL (s.aE r)) j=W→ae s (if h:b=t then PE.ret (h▸xs)else .ai) (jq (bf t)) ((bS ((cL (s.aE r)).hv=hv∧(cL (s.aE r)).cv=cv∧alive (cL (s.aE r)) j=W∧b.e=t.e∧ca b.e=I)).bind λ_=>ax.ret (xs.map (bf b))):=(by intro d;split;rename_i h;subst h;rw[cC ⟨a.1,a.2,d,rfl,f⟩];exact ae.ret rfl;exact ae.ai);cases i:(s.aE r).at j with
    |l g t2 ys=>
     cases g with|bj=>exact ae.ai|_=>exact fin (by unfold alive;rw[kJ,i];rfl)
    |n g t2 o=>
     cases g with|bj=>exact ae.ai|_=>exact ae.call λx p=>by subst p;exact fin (by unfold alive;rw[kJ,i];rfl)
    |_=>exact ae.ai
 |n m b o=>
  cases m with
  |bj r j hv cv k=>
   cases o with
   |none=>
    simp only[x9];refine ae.look ?_;cases a:(s.aE r).hv==hv&&(s.aE r).cv==cv&& !ca t.e with|false=>exact ae.ai|true=>simp only[bB];refine vz λ_=>?_;split;rename_i h;subst h;exact ae.ret rfl;exact ae.ai
   |some xs=>
    simp only[x9,mr,cE,lC];refine ae.aE ?_;simp only[bE];cases a:(s.aE r).hv==hv&&(s.aE r).cv==cv&& !ca t.e with|false=>exact ae.ai|true=>simp only[ck,dL,lQ]at a;obtain⟨a,f⟩:=a;simp only[bB];refine vz λ⟨t2,q,h1,h2⟩=>?_;obtain⟨ys,rfl⟩:=isSome_some (o:=q) (by rw[←h2];rfl);have d:alive (cL (s.aE r)) j=W:=(by unfold alive;rw[kJ];rcases h1 with h1|h1<;>rw[h1]<;>rfl);split;rename_i h;subst h;rw[cC ⟨a.1,a.2,d,rfl,f⟩];exact ae.ret rfl;exact ae.ai
  |ak=>exact ae.ai|data=>
   simp only[x9];split;rename_i h;subst h;simp only[bB];refine ae.bD λf=>?_;cases o with|none=>exact ae.ret rfl|some xs=>show ae s _ _ ((bS (b.e=b.e∧ca b.e=I)).bind λ_=>.ret (xs.map (bf b)));grind [cC,ae.ret]
   exact ae.ai
 |_=>exact ae.ai
def ZR(t:Ty)(c:E)(s:bp):ae s (PD t c) (jq (bf t)) (mr t.e (cE c)):=by exact ak2 t c s
theorem ZS(op:kc)(k:mX)(a b:L)(s:bp):ae s (Dq op k a b) aL (uD op k a b):=by
 cases op with|quo=>simp only[Dq,uD,bB,bE];exact ae.cZ λh=>by rw[cC (jr h)];exact ae.ret rfl|rem=>simp only[Dq,uD,bB,bE];exact ae.cZ λh=>by rw[cC (jr h)];exact ae.ret rfl|_=>first|exact ae.ret rfl|exact ae.ai
def ak3(op:kc)(a b:M ao)(s:bp):ae s (PF op a b) aL (Cz op a b):=by
 cases op with|add=>simp only[PF,Cz,bB,bE];exact ae.cZ λh=>by rw[cC (by grind)];exact ae.ret rfl|_=>first|exact ae.ret rfl|exact ae.ai
def JE{c:E}{b:az}(h:vl c=J b):cE c=.d (.bool b):=by cases c<;>first|(cases h;rfl)|(cases h;done)
theorem ak4(af:bM)(t:bq)(op:kc)(x y:E)(s:bp):ae s (PH af t op x y) aL (sG af t op (cE x) (cE y)):=by
 unfold PH;cases f:vl x with
 |none=>exact ae.ai|some a=>
  cases hy:vl y with
  |none=>exact ae.ai|some b=>
   simp only;rw[JE f,JE hy];simp only[sG];cases g:PG af t with|false=>exact ae.ai|true=>obtain⟨e,c,z,d⟩:∃e c z,af.ti t=J ⟨e,c,.bool,z⟩:=(by grind [PG]);rw[d];cases op<;>first|exact ae.ret rfl|exact ae.ai
def ak5{c:E}{b:az}(h:Jd c=J b):xk (cE c)=J b:=by
 cases c with
 |l m t xs=>cases m<;>exact h
 |n m t o=>
  cases o with
  |none=>simp only[Jd]at h;split at h;cases h;exact h
  |some xs=>cases m<;>exact h
 |nil=>exact h|_=>cases h
def ak6(af:bM)(t:bq)(op:kc)(x:E)(s:bp):ae s (PJ af t op x) aL (sG af t op (cE x) (cE .nil)):=by
 unfold PJ;cases hn:Jd x with
 |none=>cases Je af t<;>cases op<;>exact ae.ai
 |some b=>
  have h1:=ak5 hn;have e:sG af t op (cE x) (cE .nil)=HY af t op (cE x):=by simp_all [sG,cE]
  rw[e];unfold HY;cases g:Je af t with|false=>exact ae.ai|true=>obtain⟨d,a,f,z,c⟩:∃d a f z,af.ti t=J ⟨d,a,.slice f,z⟩:=(by grind [Je]);rw[c,h1];cases op<;>first|exact ae.ret rfl|exact ae.ai
def ak7(af:bM)(t:bq)(op:kc)(x y:E)(s:bp):ae s (PK af t op x y) aL (sG af t op (cE x) (cE y)):=by
 unfold PK;split;rename_i k a k' b;simp only[sG,cE];split;simp only[bB,bE];exact ae.cZ λh=>by rw[cC (jr h)];exact ae.ret rfl
 simp only[bB,bE];exact ae.cZ λh=>by rw[cC (jr h)];exact ae.ret rfl
 grind [ZS,ae.ai];exact ak3 _ _ _ s;exact ak6 _ _ _ _ s;grind [ak4]
def DK:∀{sh:M Sc}{xs ys:M E}{r:az},Ay sh xs ys=J r→∃ds es,kg (aU xs)=J ds∧kg (aU ys)=J es∧r=dG ds es∧cB sh ds=W∧cB sh es=W|sh,xs,ys,r,h=>by unfold Ay at h;split at h;cases h;exact⟨[],[],rfl,rfl,rfl,rfl,rfl⟩;rename_i k c k1 a d k2 b e;split at h;rename_i hk;obtain⟨rfl,rfl⟩:=hk;split at h;rename_i g f;cases h;let⟨ds,es,h1,h2,h3,i,j⟩:=DK f;simp_all [aU,cE,kg,dG,jS,cB];cases h;cases h;rename_i c a d b e;split at h;rename_i g f;cases h;let⟨ds,es,h1,h2,h3,i,j⟩:=DK f;simp_all [aU,cE,kg,dG,jS,cB];cases h;rename_i c x d y e;split at h;rename_i a b g l hy f;cases h;let⟨ds,es,h1,h2,h3,i,j⟩:=DK f;simp_all [aU,JE,kg,dG,jS,cB];cases h;cases h
def ak8(af:bM)(t:bq)(op:kc)(xs ys:M E)(s:bp):ae s (PN af t op xs ys) aL (HZ af t op (aU xs) (aU ys)):=by
 unfold PN HZ;cases lk t af.eqs with|none=>exact ae.ai|some sh=>simp only;split;rename_i r h2;let⟨ds,es,a,b,c,d,e⟩:=DK h2;rw[a,b,c];simp only[d,e,zN,bI];exact ae.ret rfl;rename_i r h2;let⟨ds,es,a,b,c,d,e⟩:=DK h2;rw[a,b,c];simp only[d,e,zN,bI];exact ae.ret rfl;exact ae.ai
theorem c8(a b:U):bT a b=W↔a<b:=by simp[bT,iJ];omega
def ak9(cs:M E)(a b:U):aU ((cs.drop a).take b)=((aU cs).drop a).take b:=by simp[aU,List.map_take,zO]
theorem ala{c:E}(h:c≠.bK)(a:∀b,c≠.hO b):cE c≠.bK:=by
 cases c with
 |hO b=>exact cO rfl (a b)|l m t xs=>cases m<;>simp[cE,lC]
 |n m t o=>cases m<;>cases o<;>simp[cE,lC]
 |bK=>exact cO rfl h|it m t xs d=>cases m<;>simp[cE,mC]
 |_=>simp[cE]
theorem DM(i:TI)(cs:M E)(off:U)(s:bp):ae s (sY i cs off) aL (mv i (aU cs) off):=by unfold sY mv;simp only[bE];split;rename_i h;simp only[ck,c8,iJ]at h;rw[cC (by simpa using h)];split;simp_all [ae.ret,aL,ak9];grind [aU,ae.ai,ala,aL,ae.ret];exact ae.ai
def Qn{α:Type}(l:M α)(n:U)(d:α)(h:n<Y l):l[n]?=J (H l n d):=by grind
def ZT(i:TI)(a:E)(s:bp):ae s (Az i a) aL (sH i (cE a)):=by
 cases a with
 |aW k off=>grind [Az,sH,cE,ae.aE,cL,aL,DM,Jx,ae.ai]|ea r j hv t n off=>
  simp only[Az,sH,cE];refine ae.aE ?_;simp only[bE];cases b:(s.aE r).hv==hv with
  |false=>exact ae.ai|true=>
   simp only[dL]at b;rw[cC (p:=(cL (s.aE r)).hv=hv) b];rw[kJ];have fin:∀(t:Ty)(ys:M t.T),ae s ((do cZ (bT n (Y ys));sY i (fc t (H ys n t.zero)) off:PE aP)) aL (match(ys.map (bf t))[n]? with|some ds=>mv i (ds.map .d) off|none=>.ai):=(by grind [bB,ae.cZ,c8,kV,DM]);cases c:(s.aE r).at j with
   |l m t ys=>
    cases m with|bj=>exact ae.ai|_=>exact fin t ys
   |n m t o=>
    cases m with
    |bj=>exact ae.ai|_=>
     cases o with|none=>simp_all [bB,ae.cZ,c8]|some ys=>exact fin t ys
   |_=>exact ae.ai
 |da t x off=>simp only[Az,sH,cE];refine ae.JA (DM i _ 0 s) ?_;grind [kV,aU,zO]|l m t xs=>cases m<;>exact ae.ai
 |n m t o=>cases m<;>cases o<;>exact ae.ai
 |_=>exact ae.ai
def ZU{α β:Type}(f:α→β)(l:M α)(off:U)(m:M α):(eG l off m).map f=eG (l.map f) off (m.map f):=by simp[eG,List.map_take,zO]
def ZV(l:M E)(off:U)(m:M E):aU (eG l off m)=eG (aU l) off (aU m):=ZU cE l off m
def alb(take b:aO→az)(u:take=b)(i:TI)(a:E)(v:aP)(s:bp):ae s (PP take i a v) (λ_=>()) (CA b i (cE a) (aL v)):=by
 subst u;unfold PP CA;rw[vB];cases hv:v.fM with
 |none=>simp_all [ae.ai]|some cs=>
  simp only[m8];cases a with
  |aW k off=>
   simp only[cE,bB,bE,rO];refine ae.bD λh=>?_;rw[cC (by simpa using h)];refine ae.bind (DI _ take cs 0 s) λy c=>ae.aE ?_;cases x:(c.aE (.box k)).v with|agg old=>simp only[cL,x,aL,rO];refine ae.bD λh2=>?_;simp only[ck,iJ]at h2;rw[cC h2.1];refine ae.wr x ?_ (ae.ret rfl);rw[ZE _ _ _ h2.2,ZV]|_=>simp only[cL,x,aL];exact ae.ai
  |ea r j hv t0 n off=>
   simp only[cE,bB,bE,rO];refine ae.bD λh=>?_;have g:Y cs=i.size:=(by simpa using h);rw[cC g];refine ae.bind (DJ cs s) λds c=>ae.aE ?_;refine ae.bD λh2=>?_;simp only[ck,dL,lQ]at h2;rw[cC (p:=(cL (c.aE r)).hv=hv∧r.isArg=I) h2];rw[kJ]
   have fin:∀(t:Ty)(ys:M t.T),ae c ((cZ (bT n (Y ys))).bind λ_=>(bD (gN (off+i.size) t.w)).bind λ_=>match lA t (eG (fc t (H ys n t.zero)) off ds)with
      |some f=>lz r {(c.aE r)with cv:=(c.aE r).cv+1,v:=(c.aE r).v.setCell j (.l .ak t (ys.set n f))}
      |none=>.ai) (λ_=>()) (match(ys.map (bf t))[n]? with
     |some bC=>(bS (off+i.size≤Y bC)).bind λ_=>eu r {(cL (c.aE r))with cv:=(cL (c.aE r)).cv+1,v:=(cL (c.aE r)).v.setCell j (.ak t.e ((ys.map (bf t)).set n (eG bC off (ds.map qp))))}
     |none=>.ai):=by
    intro t ys
    refine ae.cZ λh=>?_
    rw[c8]at h
    refine ae.bD λh3=>?_
    rw[iQ,Qn ys n t.zero h]
    simp only[m8]
    rw[cC (by rw[jx];simp_all)]
    cases q:lA t (eG (fc t (H ys n t.zero)) off ds)with|none=>exact ae.ai|some f=>refine ae.put h2.2 ?_ (ae.ret rfl);simp only[cL,nu,cE,lC];congr 3;rw[List.map_set];congr 1;rw[←JD q,ZU];congr 1;have:=bX (jq AU) (kV t (H ys n t.zero));simp only[aU,sC]at this;have e:(AU ∘ C.d)=id:=(by funext d;rfl);rw[e,List.map_id]at this;exact this.symm
   cases z:(c.aE r).at j with
   |l m t ys=>
    cases m with|ak=>exact fin t ys|_=>exact ae.ai
   |n m t o=>
    cases m with
    |ak=>
     cases o with|none=>exact ae.cZ λh=>by simp[c8]at h|some ys=>exact fin t ys
    |_=>exact ae.ai
   |_=>exact ae.ai
  |l m t xs=>cases m<;>exact ae.ai
  |n m t o=>cases m<;>cases o<;>exact ae.ai
  |_=>exact ae.ai
def alc(af:bM)(t:bq)(c:E)(f:U)(s:bp):ae s (PQ af t c f) cE (CD af t (cE c) f):=by unfold PQ CD;split;rename_i a;simp only[a,bB,bE];split;rename_i h1;simp only[h1];split;grind [ae.bD,cC,ae.ret,cE,jx,iJ,List.drop_drop,ae.ai];exact ae.ai;exact ae.ai;exact ae.ai
def ZW{a b:U}(h:(a==b&& !ca a)=W):a=b∧ca b=I:=by grind
def ald(af:bM)(t:bq)(g:U)(n:L)(s:bp):ae s (PR af t g n) cE (H0 af t g n):=by unfold PR H0;split;rename_i a b;simp only[a,b];split;rename_i hi;simp only[hi,bB,bE];refine ae.cZ λh1=>?_;refine ae.bD λh2=>?_;simp only[ck,dL]at h2;rw[cC (jr h1),cC h2];exact ae.ret rfl;exact ae.ai;exact ae.ai
def Qo(af:bM)(t:bq)(c:E)(n:L)(s:bp):ae s (PT af t c n) cE (CF af t (cE c) n):=by
 unfold PT CF;split;rename_i a;simp only[a,bB,bE];split;rename_i i hi;simp only[hi];have bj:∀(r:aO)(j hv cv k:U)(t:Ty)(xs:M t.T),decide (0≤n∧n<Y xs)=W→ae s ((bD (i.size==t.e&& !ca i.size)).bind λ_=>PE.ret (E.ea r j hv t (k+G n) 0)) cE ((bS (0≤n∧n<Y (xs.map (bf t)))).bind λ_=>(bS (i.size=t.e∧ca t.e=I)).bind λ_=>ax.ret (C.ea r j hv t.e (k+G n) 0)):=by intro r j hv cv k t xs h;rw[cC (by grind)];exact ae.bD λh2=>by rw[cC (ZW h2)];exact ae.ret rfl
 have dat:∀(t:Ty)(xs:M t.T),decide (0≤n∧n<Y xs)=W→ae s ((bD (i.size==t.e&& !ca i.size)).bind λ_=>PE.ret (E.da t (H xs (G n) t.zero) 0)) cE ((bS (0≤n∧n<Y (xs.map (bf t)))).bind λ_=>(bS (i.size=t.e∧ca t.e=I)).bind λ_=>match(xs.map (bf t))[G n]? with|some ds=>ax.ret (C.da ds)|none=>.ai):=by intro t xs h;have h1:=jr h;rw[cC (by simpa using h1)];refine ae.bD λh2=>?_;rw[cC (ZW h2),iQ,Qn xs (G n) t.zero (by omega)];exact ae.ret rfl
 cases c with
 |l m t xs=>
  cases m with|ak=>exact ae.ai|bj r j hv cv k=>exact ae.cZ λh=>bj r j hv cv k t xs h|data=>exact ae.cZ λh=>dat t xs h
 |n m t o=>
  cases m with
  |ak=>cases o<;>exact ae.ai
  |bj r j hv cv k=>
   refine ae.cZ λh=>?_;cases o with|none=>grind [ag]|some xs=>exact bj r j hv cv k t xs h
  |data=>
   refine ae.cZ λh=>?_;cases o with|none=>grind [ag]|some xs=>exact dat t xs h
 |_=>exact ae.ai
 exact ae.ai;rename_i a;simp only[a,bB,bE];grind [ae.bD,cE,cC,ae.ret,ae.ai];exact ae.ai
def ZX:∀{cs:M E}{l:M (M ao)},Jf cs=J l→∀k:U,cs[k]?=(l[k]?).map E.s
 |[],l,h,k=>by cases h;rfl
 |c::cs,l,h,k=>by
  cases c<;>simp only[Jf]at h<;>first|(cases h;done)|skip;split at h;rename_i x b a;cases h;cases k with|zero=>rfl|succ k=>simpa using ZX a k
  cases h
def ZY{kd:mX}:∀{cs:M E}{l:M L},Jg kd cs=J l→∀k:U,cs[k]?=(l[k]?).map (E.i kd)
 |[],l,h,k=>by cases h;rfl
 |c::cs,l,h,k=>by
  cases c<;>simp only[Jg]at h<;>first|(cases h;done)|skip;split at h;rename_i x b hk a;cases h;have hk:=jr hk;subst hk;cases k with|zero=>rfl|succ k=>simpa using ZY a k
  cases h
def ale{i:TI}{cs:M E}{g:L→aP}(h:PU i cs=J g){n:L}{m:U}(h1:G n<m)(h2:m≤Y cs)(f:i.size=1):mv i (aU cs) (G n*i.size)=.ret (aL (g n)):=by
 unfold mv;have e:G n*i.size=G n:=by rw[f];omega
 rw[e];have b:Y (aU cs)=Y cs:=by simp[aU]
 simp only[bE];rw[cC (by rw[f,b];omega)];have j:(aU cs)[G n]?=(cs[G n]?).map cE:=by simp[aU]
 unfold PU at h;split at h;rename_i hk;split at h;rename_i l d;cases h;have a:=ZX d (G n);have k:cs[G n]?=J cs[G n]:=eM (by omega);cases c:l[G n]? with|none=>grind|some x=>rw[c]at a;rw[aV (by rw[hk];simp[TK.agg]),j,a];simp only[m8,cE];rw[jP,c];rfl
 cases h;rename_i kd hk;split at h;rename_i l d;cases h;have a:=ZY d (G n);have k:cs[G n]?=J cs[G n]:=eM (by omega);cases c:l[G n]? with|none=>grind|some x=>rw[c]at a;rw[aV (by rw[hk];simp[TK.agg]),j,a];simp only[m8,cE];rw[jP,c];rfl
 cases h;cases h
def alf(af:bM)(t:bq)(v:aP)(n:L)(s:bp):ae s (PV af t v n) aL (CG af t (aL v) n):=by unfold PV;split;rename_i h;simp only[CG,aL,cE,h,bB,bE];refine ae.cZ λh1=>ae.cZ λh2=>?_;rw[cC (jr h1)];rw[c8]at h2;rw[Qn _ _ 0 h2];exact ae.ret rfl;rename_i h;simp only[CG,aL,h,bB,bE];split;rename_i hi;simp only[hi];split;rename_i g a;refine ae.bD λh1=>ae.cZ λh2=>?_;have h2:=jr h2;rw[cC h2];rw[ck]at h1;rw[ale a (by omega) (wY h1.2) (Nat.eq_of_beq_eq_true h1.1)];exact ae.ret rfl;simp_all [ae.bD,cC,DM];exact ae.ai;exact ae.ai
def ZZ(b:az)(v:aP)(s:bp):ae s (Jh b v) aL (rm b (aL v)):=by
 unfold Jh;have key:∀(t:Ty)(n:L)(q:ax SV),(ca t.e=I→ae s (PE.ret (fY .i64 n)) aL q)→ae s (do bD (!ca t.e);.ret (fY .i64 n)) aL q:=by simp_all [bB,ae.bD]
 split;exact ae.ret rfl;exact ae.ret rfl;refine key _ _ _ λa=>?_;simp only[rm,aL,cE,lC,bE];rw[cC a];exact ae.ret (by simp[gR,fY,aL,cE,ag]);refine key _ _ _ λa=>?_;simp only[rm,aL,cE,lC,bE];rw[cC a];exact ae.ret (by simp[gR,fY,aL,cE,ag]);rename_i o;refine key _ _ _ λa=>?_;cases o with|none=>exact ae.ret rfl|some xs=>simp only[rm,aL,cE,lC,bE];rw[cC a];exact ae.ret (by simp[gR,fY,aL,cE,ag])
 rename_i o;refine key _ _ _ λa=>?_;cases o with|none=>exact ae.ret rfl|some xs=>simp only[rm,aL,cE,lC,bE];rw[cC a];exact ae.ret (by simp[gR,fY,aL,cE,ag])
 exact ae.ai
theorem Qp:∀(ps:M (U×M E))(cells:M E),aU (Dr cells ps)=fill (aU cells) (ps.map λp=>(p.1,aU p.2))|[],cells=>rfl|(off,cs)::r,cells=>by simp only[Dr,eU,fill];rw[Qp r,ZV]
def Qq(fs:M (U×bq))(af:bM):∀(ps:M (U×cF))(s:bp),ae s (Ds fs af ps) (jq λp=>(p.1,aU p.2)) (xl fs af ps)
 |[],s=>ae.ret rfl|(i,o)::r,s=>by
  simp only[Ds,xl,bB,bE];refine ae.bind (fU o s) λv a=>?_;rw[vB];cases fs[i]? with
  |none=>exact ae.ai|some p=>
   cases v.fM with
   |none=>exact ae.ai|some cs=>
    let⟨off,t⟩:=p;simp only[m8];cases af.ti t with|none=>exact ae.ai|some ti=>simp only[rO];refine ae.bD λh=>?_;rw[cC (by simpa using h)];exact ae.bind (Qq fs af r a) λrest b=>ae.ret rfl
theorem alg{d:D}{c:E}(h:Zs d=J c):cE c=.d d:=by
 cases d with
 |bool b=>cases h;cases b<;>rfl
 |sl=>cases h
 |rep=>cases h
 |_=>cases h;rfl
theorem JF:∀{ds:M D}{cs:M E},ya ds=J cs→aU cs=ds.map .d
 |[],cs,h=>by cases h;rfl
 |d::ds,cs,h=>by unfold ya at h;split at h;rename_i c a h1 h2;cases h;have:=JF h2;grind [aU,alg];cases h
def Z5{size:U}{ps:M (U×M E)}(h:fits size ps=W):∀p∈(ps.map λp=>(p.1,aU p.2)),p.1+Y p.2≤size:=by intro p hp;obtain⟨q,a,rfl⟩:=mh.1 hp;have:=gy.1 h q a;simp_all
def alh(af:bM)(t:bq)(ps:M (U×cF))(s:bp):ae s (PW af t ps) aL (H1 af t ps):=by unfold PW H1;split;rename_i size bytes fs z h;simp only[h,bB,bE];refine ae.bD λh1=>?_;simp only[ck,dL,gy]at h1;rw[cC h1];refine ae.bind (Qq fs af ps s) λa b=>ae.bD λh2=>?_;rw[cC (Z5 h2)];grind [ae.ai,ae.ret,aL,Qp,JF];rename_i n c size bytes z h;simp only[h,bB,bE];split;rename_i hi;simp only[hi];refine ae.bD λh1=>?_;simp only[dL]at h1;rw[cC h1];refine ae.bind (Qq _ af ps s) λa b=>ae.bD λh2=>?_;rw[cC (Z5 h2)];grind [ae.ai,ae.ret,aL,Qp,JF];exact ae.ai;exact ae.ai
def Qr:∀(t:Ty)(z r:M D),sZ t z=J r→z=bf t t.zero++r
 |.int k,z,r,h=>by
  unfold sZ at h;split at h<;>first|(cases h;done)|skip;all_goals (rename_i heq;cases heq)
  split at h;rename_i h1;obtain⟨rfl,rfl⟩:=h1;cases h;rfl;cases h
 |.bool,z,r,h=>by
  unfold sZ at h;split at h<;>first|(cases h;done)|skip;all_goals (rename_i heq;cases heq)
  split at h;rename_i h1;subst h1;cases h;rfl;cases h
 |.bh,z,r,h=>by
  unfold sZ at h;split at h<;>first|(cases h;done)|skip;all_goals (rename_i heq;cases heq)
  split at h;cases h;rfl;cases h
 |.sl t,z,r,h=>by
  unfold sZ at h;split at h<;>first|(cases h;done)|skip;all_goals (rename_i heq;cases heq)
  cases h;rfl
 |.bG a b,z,r,h=>by unfold sZ at h;split at h;rename_i e h1;have c:=Qr a _ _ h1;have d:=Qr b _ _ h;rw[c,d];simp[bf,Ty.zero];cases h
 |.set _,z,r,h=>by cases h
 |.cb _ _ _,z,r,h=>by cases h
theorem DN{t:Ty}{z:M D}(h:vo t z=W):z=bf t t.zero:=by unfold vo at h;split at h;rename_i h1;have:=Qr t _ _ h1;simpa using this;cases h
def Z6(t:Ty)(size:U):∀(ps:M (U×cF))(rows:M t.T)(s:bp),ae s (Ji t size ps rows) (jq (bf t)) (rowsOf size ps (rows.map (bf t)))
 |[],rows,s=>ae.ret rfl|(i,o)::r,rows,s=>by
  simp only[Ji,rowsOf,bB,bE];refine ae.bind (fU o s) λv b=>?_;rw[vB];cases v.fM with
  |none=>exact ae.ai|some cs=>
   simp only[m8,rO];refine ae.bD λh=>?_;simp only[ck,dL,c8]at h;rw[cC (by simpa using h)];refine ae.bind (DJ cs b) λds c=>?_;cases a:lA t ds with|none=>exact ae.ai|some x=>have:=Z6 t size r (ly rows i x) c;grind [tf,List.map_set,JD]
def ali(af:eW)(t:bq)(len:U)(ps:M (U×cF))(s:bp):ae s (PX af t len ps) aL (H3 af.c t len ps):=by
 unfold PX H3;split;rename_i b _ d;simp only[d];cases af.c.ti b with
 |none=>exact ae.ai|some i=>
  cases lk b af.R with
  |none=>exact ae.ai|some a=>
   simp only[bB,bE];cases i.zero with|none=>exact ae.ai|some z=>simp only;refine ae.bD λh=>?_;simp only[ck,dL,c8,iJ,lQ]at h;let⟨⟨⟨⟨⟨h1,h2⟩,h3⟩,f⟩,g⟩,j⟩:=h;rw[cC ⟨h1,h2,h3,g⟩];have e:=DN j;have:ep len z=(ep len a.zero).map (bf a):=(by simp_all);rw[this];exact ae.bind (Z6 a i.size ps _ s) λrows k=>ae.ret (by simp only[aL,cE,lC,f])
 exact ae.ai
def alj(af:eW)(t:bq)(len cap:L)(s:bp):ae s (PY af t len cap) aL (H4 af.c t len cap):=by
 unfold PY H4;split;rename_i a _ b;simp only[b];cases af.c.ti a with
 |none=>exact ae.ai|some i=>
  cases lk a af.R with
  |none=>exact ae.ai|some d=>
   simp only[bB,bE];cases i.zero with|none=>exact ae.ai|some z=>simp only;refine ae.bD λh=>ae.cZ λe=>?_;grind [c8,iJ,cC,DN,ae.ret,aL,cE,lC,List.map_replicate]
 exact ae.ai
theorem alk(i:TI)(t:Ty)(c:E)(ys:M t.T)(lit:az)(s:bp)(P:∀m t o,c≠.n m t o):ae s (PZ i t c ys lit) aL (xm i (cE c) (ys.map (bf t))):=by
 unfold PZ xm;simp only[bB,bE];refine ae.bD λh=>?_;simp only[ck,c8,iJ,dL,lQ]at h;let⟨⟨⟨⟨⟨h1,h2⟩,h3⟩,R⟩,g⟩,C⟩:=h;rw[cC ⟨h1,h2,h3,by grind,C⟩];cases c with
 |nil=>
  simp only[cE];refine ae.cZ λS=>?_;rw[cC (by grind)];cases lit with
  |true=>
   cases ys with|nil=>exact ae.ret rfl|cons y r=>exact ae.ret (by simp only[aL,cE,lC,g])
  |false=>
   cases ys with|nil=>exact ae.ret rfl|cons y r=>exact ae.ret (by simp only[aL,cE,eo,lC,g])
 |n m t o=>grind|l m b xs=>
  cases m with
  |ak=>exact ae.ai|data=>exact ae.ai|bj r j hv cv k=>
   simp only[cE,lC];refine ae.aE ?_;refine ae.bD λz=>?_;simp only[ck,dL,lQ]at z;let⟨⟨F,G⟩,H⟩:=z;have key:∀(f:M (M D))(p:U),Y f=p→ae s ((cZ (decide (k+Y xs=p))).bind λ_=>(cZ (decide (Y xs+Y ys≤68719476736))).bind λ_=>(rI r j (s.aE r)).bind λ_=>if h:b=t then PE.ret (aP.one (.l .ak t ((h▸xs)++ys)))else .ai) aL ((bS ((cL (s.aE r)).hv=hv∧(cL (s.aE r)).cv=cv∧b.e=i.size∧r.isArg=I)).bind λ_=>(bS (k+Y (xs.map (bf b))=Y f)).bind λ_=>(bS (Y (xs.map (bf b))+Y (ys.map (bf t))≤2 ^ 36)).bind λ_=>(pZ r j (cL (s.aE r))).bind λ_=>ax.ret (SV.one (.ak b.e (xs.map (bf b)++ys.map (bf t))))):=by
    intro f p A;by_cases B:b=t;subst B;refine ae.cZ λK=>ae.cZ λN=>?_;rw[cC ⟨F,G,g.symm,H⟩,cC (by grind),cC (by grind)];grind [ae.bind,ZJ,ae.ret,aL,cE,lC];refine ae.cZ λK=>ae.cZ λN=>?_;simp only[B,dite_false];unfold ae;rw[kq,Tr.vr];generalize (rI r j (s.aE r)).cV s=tr;induction tr with|dz a=>trivial|ai=>trivial|br c t e q u=>exact⟨λ_=>q,λ_=>u⟩|call d o k v=>exact λx _=>v x|sum o k k' v w=>exact⟨λx _=>v x,λx _=>w x⟩
   rw[kJ];cases V:(s.aE r).at j with
   |l m t2 f=>
    cases m with|ak=>exact key (f.map (bf t2)) _ (by simp)|_=>exact ae.ai
   |n m t2 o=>
    cases m with|ak=>exact ae.call λf A=>by subst A;exact key (f.map (bf t2)) _ (by simp)|_=>exact ae.ai
   |_=>exact ae.ai
 |_=>exact ae.ai
def Z7(t:Ty)(w:U)(a:w=t.e)(ys:M t.T):(SV.one (cE (.n .ak t (eo ys))))=if ys.map (bf t)=[]then SV.one (.d .nil)else SV.one (.ak w (ys.map (bf t))):=by
 subst a;cases ys with|nil=>rfl|cons y r=>rfl
theorem alm(i:TI)(t:Ty)(r:aO)(j hv cv k:U)(b:Ty)(o:Q (M b.T))(ys:M t.T)(lit:az)(s:bp):ae s (P0 i t r j hv cv k b o ys lit) aL (xm i (cE (.n (.bj r j hv cv k) b o)) (ys.map (bf t))):=by
 unfold P0 xm;simp only[bB,bE];refine ae.bD λh=>?_;simp only[ck,c8,iJ,dL,lQ]at h;let⟨⟨⟨⟨⟨h1,h2⟩,h3⟩,K⟩,z⟩,D⟩:=h;rw[cC ⟨h1,h2,h3,by grind,D⟩];cases o with
 |none=>
  simp only[cE];refine ae.look ?_;refine ae.bD λm=>?_;cases A:(s.aE r).at j with
  |n p t2 B=>
   cases p with
   |ak=>refine ae.cZ λ_=>ae.cZ λg=>?_;simp only[ahM,Cs,Nat.zero_add,eY]at g;rw[cC (by simpa using g)];refine ae.bind (k':=λ_=>if ys.map (bf t)=[]then ax.ret (SV.one (.d .nil))else ax.ret (SV.one (.ak i.size (ys.map (bf t))))) (q:=ax.ret ()) (f:=λ_=>()) (ZO r j s) λ_ E=>?_;split;rename_i l;subst l;have fin:ae E (PE.ret (aP.one (.n .ak b (jU O ys)))) aL (if ys.map (bf b)=[]then ax.ret (SV.one (.d .nil))else ax.ret (SV.one (.ak i.size (ys.map (bf b))))):=(by have e:=Z7 b i.size z ys;have:(if ys.map (bf b)=[]then ax.ret (SV.one (.d .nil))else ax.ret (SV.one (.ak i.size (ys.map (bf b)))))=ax.ret (SV.one (cE (.n .ak b (eo ys)))):=(by rw[e];split<;>rfl);rw[this];exact ae.ret rfl);grind [ae.ret,aL,cE,lC];exact ae.ai
   |_=>exact ae.ai
  |_=>exact ae.ai
 |some xs=>
  simp only[cE,lC];refine ae.aE ?_;refine ae.bD λm=>?_;simp only[ck,dL,lQ]at m;let⟨⟨F,G⟩,H⟩:=m;rw[kJ];cases A:(s.aE r).at j with
  |n p t2 B=>
   cases p with
   |ak=>
    refine ae.cZ λC=>ae.cZ λg=>?_;simp only[fL,eY]at C g;cases B with
    |none=>unfold qm;rw[A];exact ae.br (λh=>by cases h) λ_=>trivial|some N=>
     simp only[cE,lC];by_cases l:b=t;subst l;rw[cC ⟨F,G,z.symm,H⟩,cC (by simpa using C),cC (by simpa using g)];grind [ae.bind,ZN,ae.ret,aL,cE,lC,jU];unfold ae;rw[kq,Tr.vr];simp only[l,dite_false];generalize (qm r j (s.aE r) _).cV s=tr;induction tr with|dz a=>trivial|ai=>trivial|br c t e u v=>exact⟨λ_=>u,λ_=>v⟩|call d o k w=>exact λx _=>w x|sum o k k' w y=>exact⟨λx _=>w x,λx _=>y x⟩
   |_=>exact ae.ai
  |_=>exact ae.ai
def aln(i:TI)(t:Ty)(c:E)(ys:M t.T)(lit:az)(s:bp):ae s (P1 i t c ys lit) aL (xm i (cE c) (ys.map (bf t))):=by unfold P1;grind [bB,akX,alk,alm]
def alo(c:E)(s:bp):ae s (P3 c) aL (Oe (cE c)):=by
 unfold P3;cases c with
 |nil=>exact ae.ret rfl|n m t o=>
  simp only[bB];refine ae.cZ λh=>?_;cases o with|none=>exact ae.ret rfl|some xs=>cases h
 |_=>exact ae.ai
def Z8{i:TI}{t:Ty}{z:M D}{n:L}{s:bp}(b:i.zero=J z)(h:(Y z==i.size&&bT 0 i.size&&bT 0 i.bytes&&gN i.bytes 1024&&i.size==t.e&& !ca i.size&&vo t z)=W)(hn:0≤n∧n≤68719476736):ae s (PE.ret (.one (.n .ak t (eo (ep (G n) t.zero))))) aL (zY i (.d .nil) n):=by simp only[ck,dL,c8,iJ,lQ]at h;let⟨⟨⟨⟨⟨⟨h1,h2⟩,h3⟩,c⟩,f⟩,g⟩,j⟩:=h;have e:=DN j;unfold zY;simp only[b,bE];rw[cC ⟨h1,h2,h3,c,g⟩,cC (by simpa using hn)];have k:=Z7 t i.size f (ep (G n) t.zero);by_cases a:G n=0;rw[aF a];refine ae.ret ?_;rw[a];rfl;rw[aV a];refine ae.ret ?_;show _=SV.one (cE (.n .ak t (eo (ep (G n) t.zero))));simp_all
def alp(i:TI)(t:Ty)(c:E)(n:L)(s:bp):ae s (P4 i t c n) aL (zY i (cE c) n):=by
 unfold P4;split;rename_i z a;simp only[bB];refine ae.bD λh=>?_;cases c with
 |nil=>simp only;refine ae.cZ λhn=>?_;exact Z8 a h (jr hn)|n m t o=>
  simp only;refine ae.cZ λhn=>?_;rw[ck]at hn;cases o with|none=>exact Z8 a h (jr hn.2)|some xs=>grind
 |_=>exact ae.ai
 exact ae.ai
def alq(af:bM)(i:TI)(t:Ty)(tid:bq)(c:E)(s:bp):ae s (P2 af i t tid c) (jq (bf t)) (xn af i tid (cE c)):=by
 unfold P2;split;rename_i h;split;split;rename_i a;subst a;simp only[xn,cE,h,bB,bE];simp_all [ae.bD,cC,ae.ret,bf,fN,aZ];exact ae.ai;exact ae.ai;rename_i h;have e:xn af i tid (cE c)=mr i.size (cE c):=by unfold xn;rw[h]
 simp_all [bB,ae.bD,ZR];exact ae.ai
def alr(v:aP)(lo hi:Q L)(s:bp):ae s (P5 v lo hi) aL (H6 (aL v) lo hi):=by unfold P5;split;simp only[H6,aL,cE,bB,bE];refine ae.cZ λh=>?_;rw[cC (by grind [ag])];exact ae.ret rfl;exact ae.ai
theorem JG{α β:Type}(f:α→β)(l h:L)(xs:M α):(bu l h xs).map f=((xs.map f).take (G h)).drop (G l):=by simp[bu,List.map_take,zO]
def als(size:U)(v:aP)(lo hi:Q L)(s:bp):ae s (P6 size v lo hi) aL (ro size (aL v) lo hi):=by
 unfold P6;split;simp only[ro,aL,cE,bB,bE];refine ae.cZ λh=>?_;rw[cC (jr h)];exact ae.ret rfl;rename_i t xs;simp only[ro,aL,cE,lC,bB,bE];grind [ae.cZ,ae.bD,cC,ag,ae.ret,aL,cE,lC,JG];rename_i t o;simp only[bB];refine ae.cZ λh=>ae.bD λh2=>?_;have a:=jr h;cases o with|none=>simp only[ro,aL,cE,bE];simp only[ag,ahM,Cs,Int.natCast_zero]at a;rw[cC (by grind)];exact ae.ret rfl|some xs=>simp_all [ro,aL,cE,lC,bE,cC,ag,ae.ret,JG]
 rename_i r j hv cv k t xs;simp only[ro,aL,cE,lC,bB,bE];grind [ae.cZ,ae.bD,cC,ag,ae.ret,aL,cE,lC,JG];rename_i r j hv cv k t o;simp only[bB];refine ae.cZ λh=>ae.bD λh2=>?_;have a:=jr h;cases o with|none=>grind [ro,aL,cE,bE,ag,cC,ae.ret]|some xs=>simp only[ro,aL,cE,lC,bE];grind [cC,ag,ae.ret,aL,cE,lC,JG]
 exact ae.ai
def Z9{af:bM}{a:bq}(h:Jj af a=W):∃b z,af.ti a=J ⟨1,b,.int .u8,z⟩:=by grind [Jj]
def alu(af:bM)(src dst:bq)(v:aP)(s:bp):ae s (P7 af src dst v) aL (uE af src dst (aL v)):=by
 unfold P7;split;rename_i h1 h2;split;simp only[uE,h1,h2,aL,cE];exact ae.ret rfl;exact ae.ai;rename_i i _ _ _ h1 h2;split;simp only[uE,h1,h2,aL,cE];exact ae.ret rfl;rename_i c g;split;rename_i p hk;split;rename_i f;let⟨b,z,a⟩:=Z9 f
 have e:uE af src dst (aL (.one c))=(mr 1 (cE c)).bind λxs=>match xs.mapM (λx=>match x with|[.int .u8 n]=>J (kC (G n))|_=>O)with|some l=>ax.ret (SV.one (.d (.bh l)))|none=>.ai:=by
  let⟨h,j,q,r⟩:=i
  simp only at hk
  subst hk
  simp only[uE,h1,h2,aL,bE]
  cases c with
  |l m t xs=>cases m<;>(simp only[cE,lC,a];rfl)
  |n m t o=>cases m<;>cases o<;>(simp only[cE,lC,a];rfl)
  |s x=>exact cO rfl (g x)|hO b=>cases b<;>(simp only[cE,a];rfl)
  |it m t xs u=>cases m<;>(simp only[cE,mC,a];rfl)
  |_=>simp only[cE,a];rfl
 rw[e];simp only[bB];refine ae.bind (ZR (.int .u8) c s) λxs y=>?_;have:∀l:M L,(l.map (bf (.int .u8))).mapM (λx=>match x with|[.int .u8 n]=>J (kC (G n))|_=>O)=J (l.map λn=>kC (G n)):=by
  intro l;induction l with|nil=>rfl|cons n l k=>rw[eU,List.mapM_cons,k];rfl
 rw[this xs];exact ae.ret rfl;exact ae.ai;exact ae.ai;exact ae.ai;rename_i h1 h2;split;split;rename_i f;let⟨b,z,a⟩:=Z9 f;simp only[uE,h1,h2,aL,cE,a];exact ae.ret (by simp[aL,cE,lC,bf,Ty.w,Ty.e,fN,aZ]);exact ae.ai;exact ae.ai;exact ae.ai
def Qs:∀(cs:M E),iB (aU cs)=oy cs
 |[]=>rfl|c::cs=>by
  have a:=Qs cs;cases c with
  |aW k off=>simp only[aU,eU,cE,iB,oy]at a ⊢;rw[a]|dj f caps=>simp only[aU,eU,cE,iB,oy]at a ⊢;rw[a]|l m t xs=>cases m<;>exact a
  |n m t o=>cases m<;>cases o<;>exact a
  |hO b=>cases b<;>exact a
  |it m t xs d=>cases m<;>exact a
  |_=>exact a
def Qt:∀(vs:M aP),(vs.map aL).flatMap SV.cells=aU (vs.flatMap aP.cells)|[]=>rfl|v::vs=>by simp only[eU,mZ,Qt vs,Jw,Qk]
theorem AV{p:PE E}{q:ax D}{s:bp}(hp:ae s p qp q)(hx:(p.cV s).box (λx=>ou x.1=W)):ae s p cE (q.bind λd=>ax.ret (C.d d)):=by unfold ae at hp ⊢;refine Tr.oC ?_ (Tr.Zv hp hx);grind [Ql,Qm,ax.cV,qp,AU]
theorem AW(c:E)(s:bp):((pn c).cV s).box (λx=>ou x.1=W):=by
 have one:∀(c:E),((nr c).cV s).box (λx=>ou x.1=W):=by
  intro c;have f:∀{α:Type}(p:PE α)(d:E),ou d=W→((p.bind λ_=>PE.ret d).cV s).box (λx=>ou x.1=W):=by
   intro α p d hd;rw[kq,Tr.vr];generalize p.cV s=tr;induction tr with|dz a=>exact hd|ai=>trivial|br c t e q u=>exact⟨λ_=>q,λ_=>u⟩|call d o k v=>exact λx _=>v x|sum o k k' v w=>exact⟨λx _=>v x,λx _=>w x⟩
  have dat:∀{c:E},ou c=W→nr c=PE.ret c→((nr c).cV s).box (λx=>ou x.1=W):=by intro c hd z;rw[z];exact hd
  cases c with
  |l m t xs=>
   cases m with
   |bj r j hv cv k=>
    simp only[nr,PE.cV,bB];rw[Tr.rN];cases g:(s.aE r).hv==hv&&(s.aE r).cv==cv with|false=>trivial|true=>exact f _ _ rfl
   |data=>exact dat rfl rfl|ak=>trivial
  |n m t o=>
   cases m with
   |bj r j hv cv k=>
    simp only[nr,PE.cV,bB];rw[Tr.rN];cases g:(s.aE r).hv==hv&&(s.aE r).cv==cv with|false=>trivial|true=>exact f _ _ rfl
   |data=>exact dat rfl rfl|ak=>trivial
  |i=>exact dat rfl rfl|b=>exact dat rfl rfl|tt=>exact dat rfl rfl|ff=>exact dat rfl rfl|s=>exact dat rfl rfl|nil=>exact dat rfl rfl|cX=>exact dat rfl rfl|r=>exact dat rfl rfl|_=>trivial
 unfold pn;rw[bB,kq,Tr.vr];have same:∀h,((PE.ret h).cV s).box λa=>(((nr a.1).cV a.2.1).map λy=>(y.1,y.2.1,a.2.2.1++y.2.2.1,a.2.2.2++y.2.2.2)).box (λx=>ou x.1=W):=by intro h;show(((nr h).cV s).map _).box _;rw[Tr.rN];exact one h
 cases c with
 |n m t o=>
  cases m with
  |bj r j hv cv k=>
   cases r with|bN i=>exact⟨λ_=>same _,λ_=>same _⟩|_=>exact same _
  |_=>exact same _
 |_=>exact same _
def aac(af:bM)(c:E)(s:bp):ae s (Jn af c) cE (pf af (cE c)):=by
 unfold Jn;cases c with
 |l m t xs=>
  cases m with
  |bj r j hv cv k=>
   cases r with
   |tmp u=>grind [Dv,pf,cE,lC,bE,ae.ret,AV,vA,AW]|box u=>
    simp only[Dv];cases a:af.rk with|false=>simp only[pf,cE,lC,a,bL,ch];exact ae.ret rfl|true=>have h:=AV (vA (.l (.bj (.box u) j hv cv k) t xs) s) (AW _ s);simp only[pf,cE,lC,a,bI,bE];exact h
   |_=>exact ae.ret rfl
  |_=>exact ae.ret rfl
 |n m t o=>
  cases m with
  |bj r j hv cv k=>
   cases r with
   |tmp u=>
    simp only[Dv];cases a:af.keep u with
    |true=>
     cases o with|none=>exact ae.ret rfl|some xs=>simp only[pf,cE,lC,a,bI];exact ae.ret rfl
    |false=>
     have h:=AV (vA (.n (.bj (.tmp u) j hv cv k) t o) s) (AW _ s);cases o with|none=>exact h|some xs=>simp only[pf,cE,lC,a,bL,ch,bE];exact h
   |box u=>
    simp only[Dv];cases a:af.rk with
    |false=>
     cases o with|none=>exact ae.ret rfl|some xs=>simp only[pf,cE,lC,a,bL,ch];exact ae.ret rfl
    |true=>
     have h:=AV (vA (.n (.bj (.box u) j hv cv k) t o) s) (AW _ s);cases o with|none=>exact h|some xs=>simp only[pf,cE,lC,a,bI,bE];exact h
   |_=>cases o<;>exact ae.ret rfl
  |_=>cases o<;>exact ae.ret rfl
 |hO b=>cases b<;>exact ae.ret rfl
 |it m t xs d=>cases m<;>first|exact ae.ret rfl|exact ae.ai
 |_=>exact ae.ret rfl
def aad(af:bM):∀(cs:M E)(s:bp),ae s (Dw af cs) aU (xq af (aU cs))|[],s=>ae.ret rfl|c::cs,s=>by show ae s (Dw af (c::cs)) aU (xq af (cE c::aU cs));simp only[Dw,xq,bB,bE];exact ae.bind (aac af c s) λd a=>ae.bind (aad af cs a) λb e=>ae.ret rfl
def alv(af:bM)(v:aP)(s:bp):ae s (AB af v) aL (qb af (aL v)):=by
 cases v with|one c=>show ae s (AB af (.one c)) aL (qb af (.one (cE c)));simp only[AB,qb,bB,bE];exact ae.bind (aac af c s) λa b=>ae.ret rfl|agg cs=>show ae s (AB af (.agg cs)) aL (qb af (.agg (aU cs)));simp only[AB,qb,bB,bE];exact ae.bind (aad af cs s) λa b=>ae.ret rfl|_=>exact ae.ai
def aae(af:bM):∀(vs:M aP)(s:bp),ae s (Jo af vs) (jq aL) (Aa af (vs.map aL))|[],s=>ae.ret rfl|v::vs,s=>by simp only[eU,Jo,Aa,bB,bE];exact ae.bind (alv af v s) λc a=>ae.bind (aae af vs a) λb d=>ae.ret rfl
def aaf(ks:M aC)(c:E)(s:bp):ae s (AC ks c) cE (canon ks (cE c)):=by
 cases c with
 |l m t xs=>
  cases m with
  |ak=>exact ae.ai|data=>exact ae.ret rfl|bj r j hv cv k=>
   simp only[AC,canon,cE,lC];refine ae.aE ?_;simp only[bB,bE];refine ae.bD λd=>?_;simp only[ck,dL]at d;rw[cC (p:=(cL (s.aE r)).hv=hv∧(cL (s.aE r)).cv=cv) d];rw[kJ];have ak:∀(b:az),b=ks.all (λk=> !iq r (.box k))→ae s ((bD b).bind λ_=>PE.ret (E.l .ak t xs)) cE ((bS (∀k∈ks,r≠.box k)).bind λ_=>ax.ret (C.ak t.e (xs.map (bf t)))):=(by intro b v;refine ae.bD λh=>?_;rw[cC (by grind [vw])];exact ae.ret rfl);cases f:(s.aE r).at j with
   |l a g ys=>
    cases a with|ak=>exact ak _ rfl|data=>exact ae.ret rfl|bj=>exact ae.ai
   |n a g o=>
    cases a with|ak=>exact ae.call λx i=>by subst i;exact ak _ rfl|data=>exact ae.call λx i=>by subst i;exact ae.ret rfl|bj=>exact ae.ai
   |_=>exact ae.ai
 |n m t o=>
  cases m with
  |bj r j hv cv k=>
   cases o with
   |none=>
    simp only[AC];refine ae.look ?_;simp only[bB];refine ae.bD λd=>?_;cases f:(s.aE r).at j with
    |n a g q=>
     cases a with|ak=>exact vz λ_=>ae.bD λ_=>ae.ret rfl|data=>exact vz λ_=>ae.ret rfl|bj=>exact ae.ai
    |_=>exact ae.ai
   |some xs=>
    simp only[AC,canon,cE,lC];refine ae.aE ?_;simp only[bB,bE];refine ae.bD λd=>?_;simp only[ck,dL]at d;rw[cC (p:=(cL (s.aE r)).hv=hv∧(cL (s.aE r)).cv=cv) d];rw[kJ];cases f:(s.aE r).at j with
    |n a g q=>
     cases a with
     |ak=>
      refine vz λ⟨t2,u,h1,h2⟩=>?_;rw[f]at h1;cases q with|none=>grind|some ys=>grind [ae.bD,cE,lC,cC,vw,ae.ret]
     |data=>
      refine vz λ⟨t2,u,h1,h2⟩=>?_;rw[f]at h1;cases q with|none=>grind|some ys=>exact ae.ret rfl
     |bj=>exact ae.ai
    |_=>exact ae.ai
  |ak=>exact ae.ai|data=>cases o<;>exact ae.ret rfl
 |hO b=>exact ae.ai|ea=>exact ae.ai|da=>exact ae.ai|bK=>exact ae.ai|it=>exact ae.ai|_=>exact ae.ret rfl
def aag(ks:M aC):∀(cs:M E)(s:bp),ae s (Dx ks cs) aU (sJ ks (aU cs))|[],s=>ae.ret rfl|c::cs,s=>by show ae s (Dx ks (c::cs)) aU (sJ ks (cE c::aU cs));simp only[Dx,sJ,bB,bE];exact ae.bind (aaf ks c s) λd a=>ae.bind (aag ks cs a) λb e=>ae.ret rfl
def alw(ks:M aC)(v:aP)(s:bp):ae s (AE ks v) aL (n5 ks (aL v)):=by
 cases v with|one c=>show ae s (AE ks (.one c)) aL (n5 ks (.one (cE c)));simp only[AE,n5,bB,bE];exact ae.bind (aaf ks c s) λa b=>ae.ret rfl|agg cs=>show ae s (AE ks (.agg cs)) aL (n5 ks (.agg (aU cs)));simp only[AE,n5,bB,bE];exact ae.bind (aag ks cs s) λa b=>ae.ret rfl|_=>exact ae.ai
def aah(ks:M aC):∀(vs:M aP)(s:bp),ae s (Jp ks vs) (jq aL) (uF ks (vs.map aL))|[],s=>ae.ret rfl|v::vs,s=>by simp only[eU,Jp,uF,bB,bE];exact ae.bind (alw ks v s) λc a=>ae.bind (aah ks vs a) λb d=>ae.ret rfl
theorem aai{c:E}(h:rK c=W):plain (cE c)=W:=by
 cases c with
 |l m t xs=>cases m<;>first|rfl|cases h
 |n m t o=>cases m<;>cases o<;>first|rfl|cases h
 |_=>first|rfl|cases h
def alx{cs:M E}(h:cs.all rK=W):(aU cs).all plain=W:=by simp_all [aU,aai]
def aaj{ks:M aC}{c:E}(h:lB ks c=W):tok ks (cE c)=W:=by
 cases c with
 |aW k off=>simp_all [lB,lE,tok,cE]|l m t xs=>cases m<;>first|rfl|cases h
 |n m t o=>cases m<;>cases o<;>first|rfl|cases h
 |_=>first|rfl|cases h
def aly{ks:M aC}{cs:M E}(h:cs.all (lB ks)=W):(aU cs).all (tok ks)=W:=by simp_all [aU,aaj]
def aak{ks:M aC}{c:E}(h:lB ks c=W):cE (l5 ks c)=tc ks (cE c):=by
 cases c with
 |aW k off=>rfl|l m t xs=>cases m<;>first|rfl|cases h
 |n m t o=>cases m<;>cases o<;>first|rfl|cases h
 |_=>first|rfl|cases h
def aal{ks:M aC}:∀{cs:M E},cs.all (lB ks)=W→aU (cs.map (l5 ks))=(aU cs).map (tc ks)|[],_=>rfl|c::cs,h=>by rw[nR,ck]at h;show cE (l5 ks c)::aU (cs.map (l5 ks))=tc ks (cE c)::(aU cs).map (tc ks);rw[aak h.1,aal h.2]
theorem aam{ks:M aC}{c:E}(h:lB ks c=W):bc ks (cE (l5 ks c))=cE c:=by
 cases c with
 |aW k off=>
  have hk:k∈ks:=by simp_all [lB,lE]
  let⟨h1,h2⟩:=IM hk;show C.aW (H ks (idx k ks) default) off=C.aW k off;grind
 |l m t xs=>cases m<;>first|rfl|cases h
 |n m t o=>cases m<;>cases o<;>first|rfl|cases h
 |_=>first|rfl|cases h
theorem aan{ks:M aC}{c:E}(h:lB ks c=W):jE (Y ks) (cE (l5 ks c))=W:=by rw[aak h];exact Yj (aaj h)
theorem aao{y:E}(h:Jq (J y)=W):y=.bK∨rK y=W:=by cases y<;>first|exact .inl rfl|exact .inr h
theorem alz{n:U}{c:C}(h:plain c=W):jE n c=W:=by cases c<;>first|rfl|cases h
def aap{ks:M aC}:∀{cs:M E}{o:M (Q E)},cs.all (lB ks)=W→o.all Jq=W→(aU (fg (cs.map (l5 ks)) o)).map (bc ks)=aU (fg cs o)∧(aU (fg (cs.map (l5 ks)) o)).all (jE (Y ks))=W
 |[],_,_,_=>⟨rfl,rfl⟩|c::cs,[],h,_=>by
  have b:∀{l:M E},l.all (lB ks)=W→(aU (l.map (l5 ks))).map (bc ks)=aU l∧(aU (l.map (l5 ks))).all (jE (Y ks))=W:=by
   intro l;induction l with
   |nil=>intro _;exact⟨rfl,rfl⟩
   |cons a l d=>grind [aU,aam,aan]
  exact b h
 |c::cs,x::o,h,g=>by
  rw[nR,ck]at h g;let⟨e,f⟩:=aap h.2 g.2;cases x with|none=>grind [aU,fg,aam,aan]|some y=>grind [aao,bc,cE,aU,fg,jE,aai,Ym,alz]
def Qu(a:M aC):∀(ks:M aC)(s:bp),ae s (qo a ks) (jq aU) (xt a ks)
 |[],s=>ae.ret rfl|k::ks,s=>by
  simp only[qo,xt,bB,bE];refine ae.aE ?_;cases hv:(s.aE (.box k)).v with|agg cs=>simp only[cL,hv,aL];refine ae.bD λh=>?_;rw[cC (aly h)];exact ae.bind (Qu a ks s) λr b=>ae.ret (by rw[eU,aal h])|_=>simp only[cL,hv,aL];exact ae.ai
def alA(cs:M E):iB (aU cs)=oy cs:=by
 induction cs with
 |nil=>rfl|cons c cs a=>
  cases c with
  |l m t xs=>cases m<;>exact a
  |n m t o=>cases m<;>cases o<;>exact a
  |aW k off=>exact bX (k:: ·) a|dj f caps=>exact bX (caps.map (·.1)++ ·) a|hO b=>cases b<;>exact a
  |it m t xs d=>cases m<;>exact a
  |_=>exact a
def aaq:∀(ks:M aC)(s:bp),ae s (Jr ks) (λl=>l) (Ab ks)
 |[],s=>ae.ret rfl|k::ks,s=>by
  simp only[Jr,Ab,bB,bE];refine ae.aE ?_;cases hv:(s.aE (.box k)).v with|agg cs=>simp only[cL,hv,aL];exact ae.bind (aaq ks s) λr a=>ae.ret (by rw[alA])|_=>simp only[cL,hv,aL];exact ae.ai
def Qv{α:Type}(r:aO)(x:dU)(k:bV→PE α):(lz r x).bind k=.put r x (k ()):=rfl
def JH{α:Type}(r:aO)(x:RV)(k:bV→ax α):(eu r x).bind k=.put r x (k ()):=rfl
def Holds(a:M aC)(s:bp):M aC→M (M E)→Prop|[],[]=>dK|k::ks,b::c=>(∃o,(s.aE (.box k)).v=.agg o∧o.all (lB a)=W∧b=o.map (l5 a))∧Holds a s ks c|_,_=>jn
def Holds.other{d:M aC}{s:bp}{k:aC}{os:M (Q E)}{cs:M E}(h:(s.aE (.box k)).v=.agg cs):∀{ks:M aC}{c:M (M E)},k ∉ ks→Holds d s ks c→Holds d (s.wr k os) ks c|[],[],_,a=>a|[],_::_,_,a=>ab1 a|_::_,[],_,a=>ab1 a|q::ks,b::c,hk,a=>by simp only[jQ,not_or]at hk;refine⟨?_,Holds.other h hk.2 a.2⟩;rw[DF s k os _ h,aV (by grind)];exact a.1
def aar(b:M aC):∀(ks:M aC)(s:bp),((qo b ks).cV s).box λx=>x.2.1=s∧Holds b s ks x.1
 |[],s=>⟨rfl,trivial⟩|k::ks,s=>by
  simp only[qo,PE.cV,Tr.rN,bB];cases hv:(s.aE (.box k)).v with
  |agg cs=>
   cases hp:cs.all (lB b)with|false=>simp only[hp];exact trivial|true=>simp only[hp];show(((qo b ks).bind λr=>PE.ret (cs.map (l5 b)::r)).cV s).box _;rw[kq,Tr.vr];refine Tr.oC ?_ (aar b ks s);rintro ⟨a,s',f,g⟩ ⟨h1,h2⟩;simp only at h1 h2;subst h1;exact⟨rfl,⟨cs,hv,hp,rfl⟩,h2⟩
  |_=>exact trivial
theorem alB{e:E}(h:rK e=W){k:aC}{off:U}:cE e≠.aW k off:=by
 cases e with
 |l m t xs=>cases m<;>simp[cE,lC]
 |n m t o=>cases o<;>cases m<;>simp[cE,lC]
 |aW=>cases h
 |hO b=>cases b<;>simp[cE]
 |it=>cases h
 |_=>simp[cE]
def aas{c:E}{k:aC}{off:U}(h:cE c=.aW k off):c=.aW k off:=by
 cases c with
 |l m t xs=>cases m<;>simp[cE,lC]at h
 |n m t o=>cases o<;>cases m<;>simp[cE,lC]at h
 |aW=>simp_all [cE]|hO b=>cases b<;>simp[cE]at h
 |it m t xs a=>cases m<;>simp[cE,mC]at h
 |_=>simp[cE]at h
def alC{cs:M E}{o:M (Q E)}(h:o.all Jq=W):uG (.agg (aU cs)) (aU (fg cs o))=Dy cs o:=by
 cases hk:Dy cs o with
 |true=>unfold Dy at hk;split at hk;simp[fg,aU,cE,uG];simp[fg,aU,cE,uG];cases hk
 |false=>
  cases a:uG (.agg (aU cs)) (aU (fg cs o))with
  |false=>rfl|true=>
   let⟨k,off,h1,h2⟩:=Yp a;simp only[SV.agg.injEq,aU]at h1;cases cs with
   |nil=>cases h1
   |cons c cs=>
    simp only[eU,zJ,List.map_eq_nil_iff]at h1;obtain⟨h3,rfl⟩:=h1;obtain rfl:=aas h3;cases o with
    |nil=>cases hk
    |cons x o=>
     cases x with
     |none=>cases hk
     |some e=>grind [fg,aU,aao,cE,alB]
def DO(e:M aC):∀(ks:M aC)(c:M (M E))(os:M (M (Q E)))(s:bp),Y ks≤Y os→ks.Nodup→Holds e s ks c→ae s (Dz e ks (os.take (Y ks))) (λ_=>()) (rq e ks (((je c os).map aU).take (Y ks)))
 |[],[],os,s,_,_,_=>by simp only[Cs,List.take_zero];exact ae.ret rfl|[],b::c,os,s,_,_,h=>ab1 h|k::ks,[],os,s,_,_,h=>ab1 h|k::ks,b::c,[],s,f,_,_=>by simp at f|k::ks,b::c,o::os,s,f,hn,h=>by
  simp only[kO,List.take_succ_cons,je,eU,Dz,rq,bB,bE];obtain⟨⟨a,g,i,rfl⟩,h2⟩:=h;refine ae.aE ?_;rw[g];refine ae.bD λhp=>?_;rw[ck]at hp;let⟨j,l⟩:=aap (ks:=e) hp.1 hp.2;have d:=wW.1 hn;rw[cC l,j];have ev:(cL (s.aE (.box k))).v=.agg (aU a):=by simp only[cL,g,aL]
  rw[ev,alC hp.2];cases Dy a o with|true=>exact DO e ks c os _ (by simpa using f) d.2 h2|false=>simp only;rw[JH];exact ae.wr g rfl (DO e ks c os _ (by simpa using f) d.2 (Holds.other g d.1 h2))
def JI(t:U):∀(a:M (M E))(i:U)(s:bp),ae s (Js t i a) (λ_=>()) (escape t i (a.map aU))
 |[],i,s=>ae.ret rfl|b::a,i,s=>by
  simp only[eU,Js,escape,bB,bE];refine ae.aE ?_;cases hv:(s.aE (.box (.cm t i))).v with|undef=>simp only[cL,hv,aL];refine ae.bD λh=>?_;rw[cC (alx h),Qv,JH];exact ae.put rfl rfl (JI t a (i+1) _)|_=>simp only[cL,hv,aL];exact ae.ai
def Qw{args:M aP}{l:M (U×U)}(h:Qi args l=W):Ac (args.map aL) l=W:=by
 simp only[Qi,Ac,gy]at h ⊢;intro p hp;have h1:=h p hp;have e:H (H (args.map aL) p.1 .undef).cells p.2 .bK=cE (H (H args p.1 .undef).cells p.2 .bK):=by have a:H (args.map aL) p.1 .undef=aL (H args p.1 .undef):=AN aL args p.1 .undef;rw[a,Jw];exact AN cE _ p.2 .bK
 grind [Qm]
def aat(ks:M aC)(t:U)(c:E)(s:bp):ae s (Jt ks t c) cE (back ks t (cE c)):=by
 cases c with
 |l m t xs=>cases m<;>first|exact ae.ret rfl|exact ae.ai
 |n m t o=>cases m<;>cases o<;>first|exact ae.ret rfl|exact ae.ai
 |aW k off=>cases k<;>first|exact ae.ret rfl|exact ae.ai
 |dj f caps=>simp only[Jt,back,cE,bB,bE];refine ae.bD λh=>?_;rw[cC (by simpa using h)];exact ae.ret rfl|ea=>exact ae.ai|da=>exact ae.ai|bK=>exact ae.ai|hO b=>exact ae.ai|it=>exact ae.ai|_=>exact ae.ret rfl
def Qx(ks:M aC)(t:U):∀(cs:M E)(s:bp),ae s (AF ks t cs) aU (rr ks t (aU cs))|[],s=>ae.ret rfl|c::cs,s=>by show ae s (AF ks t (c::cs)) aU (rr ks t (cE c::aU cs));simp only[AF,rr,bB,bE];exact ae.bind (aat ks t c s) λd a=>ae.bind (Qx ks t cs a) λb e=>ae.ret rfl
def aau(ks:M aC)(t:U):∀(vs:M (az×M E))(s:bp),ae s (DA ks t vs) ft (sK ks t (ft vs))|[],s=>ae.ret rfl|(b,cs)::vs,s=>by show ae s (DA ks t ((b,cs)::vs)) ft (sK ks t ((b,aU cs)::ft vs));simp only[DA,sK,bB,bE];exact ae.bind (Qx ks t cs s) λd a=>ae.bind (aau ks t vs a) λc e=>ae.ret rfl
def Qy(ks:M aC)(t:U)(v:aP)(s:bp):ae s (vq ks t v) aL (lp ks t (aL v)):=by
 cases v with|one c=>show ae s (vq ks t (.one c)) aL (lp ks t (.one (cE c)));simp only[vq,lp,bB,bE];exact ae.bind (aat ks t c s) λa b=>ae.ret rfl|agg cs=>show ae s (vq ks t (.agg cs)) aL (lp ks t (.agg (aU cs)));simp only[vq,lp,bB,bE];exact ae.bind (Qx ks t cs s) λa b=>ae.ret rfl|bw vs=>show ae s (vq ks t (.bw vs)) aL (lp ks t (.bw (ft vs)));simp only[vq,lp,bB,bE];exact ae.bind (aau ks t vs s) λa b=>ae.ret rfl|undef=>exact ae.ai
def JJ{d:M aC}:∀(ks:M aC)(a:M (M E))(os:M (M (Q E)))(s:bp),Holds d s ks a→Y ks≤Y os→(je a os).drop (Y ks)=(os.drop (Y ks)).map AA|[],[],os,s,_,_=>by simp[je]|[],_::_,os,s,h,_=>ab1 h|_::_,[],os,s,h,_=>ab1 h|k::ks,b::a,[],s,_,c=>by simp at c|k::ks,b::a,o::os,s,h,c=>by simp only[je,kO,List.drop_succ_cons];exact JJ ks a os s h.2 (by simpa using c)
def JK{d:M aC}:∀(ks:M aC)(a:M (M E))(os:M (M (Q E)))(s:bp),Holds d s ks a→Y ks≤Y os→Y ks≤Y (je a os)|[],_,os,s,_,_=>fV _|_::_,[],os,s,h,_=>ab1 h|k::ks,b::a,[],s,_,c=>by simp at c|k::ks,b::a,o::os,s,h,c=>by simp only[je,kO];have:=JK ks a os s h.2 (by simpa using c);omega
def alD(af:eW)(f:dT)(args:M aP)(t:U)(s:bp):ae s (Qj af f args t) aL (Ia af.c f (args.map aL) t):=by
 unfold Qj Ia;show ae s _ _ (match(match af.fD t f with|some K=>J K.F|none=>O)with|none=>ax.ai|some F=>_)
 cases af.fD t f with
 |none=>exact ae.ai|some K=>
  simp only[bB,bE];refine ae.bind (aae af.c args s) λvs n=>?_;rw[Qt,Qs];refine ae.bind (aaq _ n) λmore k=>?_;refine ae.bind (aah _ vs k) λa m=>ae.ZF (R:=λd g=>Holds (nh (oy (vs.flatMap aP.cells)++more)) g (nh (oy (vs.flatMap aP.cells)++more)) d) (Qu _ _ m) (Tr.oC (λx q=>by grind) (aar _ _ m)) λd g b=>?_;cases o:K.eV a d with
  |none=>exact ae.ai|some x=>
   refine ae.call λy hy=>?_;have p:=K.ok a d x y o hy;simp only[p];cases l:K.two with|false=>rw[K.one l y];show ae g (yd K _ a t x y W) aL _;unfold yd;simp only[bB];refine ae.bD λh=>?_;simp only[ck,iJ]at h;rw[cC (by simp only[kE];exact⟨JK _ _ _ _ b h.1,Qw h.2⟩)];rw[←zO,JJ _ _ _ _ b h.1];exact ae.bind (DO _ _ d _ g h.1 (An _) b) λ_ i=>ae.bind (JI t _ 0 i) λ_ j=>Qy _ t _ j|true=>refine ae.br (λe=>?_) (λe=>?_);rw[e];unfold yd;simp only[bB];refine ae.bD λh=>?_;simp only[ck,iJ]at h;rw[cC (by simp only[kE];exact⟨JK _ _ _ _ b h.1,Qw h.2⟩)];rw[←zO,JJ _ _ _ _ b h.1];exact ae.bind (DO _ _ d _ g h.1 (An _) b) λ_ i=>ae.bind (JI t _ 0 i) λ_ j=>Qy _ t _ j;rw[e];unfold yd;simp only[bB];refine ae.bD λh=>?_;simp only[ck,iJ]at h;rw[cC (by simp only[kE];exact⟨JK _ _ _ _ b h.1,Qw h.2⟩)];rw[←zO,JJ _ _ _ _ b h.1];exact ae.bind (DO _ _ d _ g h.1 (An _) b) λ_ i=>ae.bind (JI t _ 0 i) λ_ j=>Qy _ t _ j
def alE(o:cF)(s:bp):ae s (Zt o) (λp=>(p.1,p.2.map aL)) (Ib o):=by
 have gen:∀o,ae s ((fX o).bind λc=>match c with|.dj f caps=>PE.ret (f,caps.map λp=>aP.one (.aW p.1 p.2))|_=>.ai) (λp=>(p.1,p.2.map aL)) ((ed o).bind λc=>match c with|.dj f caps=>ax.ret (f,caps.map λp=>SV.one (.aW p.1 p.2))|_=>.ai):=by
  intro o;refine ae.bind (ga o s) λc a=>?_;cases c with
  |dj f caps=>exact ae.ret (by simp[aL,cE])|l m t xs=>cases m<;>exact ae.ai
  |n m t o=>cases m<;>cases o<;>exact ae.ai
  |_=>exact ae.ai
 cases o with|func f=>exact ae.ret rfl|tmp t=>exact gen (.tmp t)|const v=>exact gen (.const v)|global g=>exact gen (.global g)
def aav(af:bM)(c:E)(r:aO):DB af c r=CK af (cE c) r:=by
 unfold DB CK;cases c with
 |l m t xs=>cases m<;>rfl
 |n m t o=>cases m<;>cases o<;>rfl
 |aW k off=>cases k<;>rfl
 |hO b=>cases b<;>rfl
 |it m t xs a=>cases m<;>rfl
 |_=>rfl
def aaw(self:aO×U)(u:cF)(c:E)(s:bp):ae s (DC self u c) cE (uH self u (cE c)):=by
 cases c with
 |l m t xs=>
  cases m with|bj r j hv cv k=>grind [DC,uH,cE,lC,DH,ae.ret]|_=>exact ae.ret rfl
 |n m t o=>
  cases m with
  |bj r j hv cv k=>
   simp only[DC];cases a:sL u r with
   |true=>
    cases o with|none=>exact DH (J self) (sL u) (.n (.bj r j hv cv k) t O) s|some xs=>grind [DH,uH,cE,lC]
   |false=>
    cases o with|none=>exact ae.ret rfl|some xs=>refine ae.JA (ae.ret rfl) ?_;show(if sL u r=W then _ else _)=_;rw[aV (by simp[a])];rfl
  |_=>cases o<;>exact ae.ret rfl
 |hO b=>cases b<;>exact ae.ret rfl
 |it m t xs d=>cases m<;>first|exact ae.ret rfl|exact ae.ai
 |_=>exact ae.ret rfl
def Qz(r:aO)(u:cF):∀(cs:M E)(i:U)(s:bp),ae s (AG r u i cs) aU (uI r u i (aU cs))|[],i,s=>ae.ret rfl|c::cs,i,s=>by show ae s (AG r u i (c::cs)) aU (uI r u i (cE c::aU cs));simp only[AG,uI,bB,bE];exact ae.bind (aaw _ u c s) λd a=>ae.bind (Qz r u cs (i+1) a) λb e=>ae.ret rfl
def aax(r:aO)(u:cF):∀(vs:M (az×M E))(i:U)(s:bp),ae s (DD r u i vs) ft (xu r u i (ft vs))|[],i,s=>ae.ret rfl|(b,cs)::vs,i,s=>by show ae s (DD r u i ((b,cs)::vs)) ft (xu r u i ((b,aU cs)::ft vs));simp only[DD,xu,bB,bE,rO];exact ae.bind (Qz r u cs i s) λd a=>ae.bind (aax r u vs _ a) λc e=>ae.ret rfl
theorem QA(r:aO)(u:cF)(v:aP)(s:bp):ae s (rL r u v) aL (lV r u (aL v)):=by
 cases v with|one c=>show ae s (rL r u (.one c)) aL (lV r u (.one (cE c)));simp only[rL,lV,bB,bE];exact ae.bind (aaw _ u c s) λa b=>ae.ret rfl|agg cs=>show ae s (rL r u (.agg cs)) aL (lV r u (.agg (aU cs)));simp only[rL,lV,bB,bE];exact ae.bind (Qz r u cs 0 s) λa b=>ae.ret rfl|bw vs=>show ae s (rL r u (.bw vs)) aL (lV r u (.bw (ft vs)));simp only[rL,lV,bB,bE];exact ae.bind (aax r u vs 0 s) λa b=>ae.ret rfl|undef=>exact ae.ai
def JL(o:Q cF)(s:bp):ae s (AH o) (λx=>x) (uJ o):=by
 cases o with|none=>exact ae.ret rfl|some o=>simp only[AH,uJ,bB,bE];exact ae.bind (ga o s) λc a=>ae.bind (th c a) λn b=>ae.ret rfl
def aay(b:az)(vs:M aP)(s:bp):ae s (Ju b vs) aL (CL b (vs.map aL)):=by unfold Ju;split;cases b<;>exact ae.ret rfl;exact ae.ai
def aaz:∀{vs:M aP}{l:M (aC×U)},DE vs=J l→(vs.map aL).mapM (λv=>match v with|.one (.aW k o)=>J (k,o)|_=>O)=J l
 |[],l,h=>by cases h;rfl
 |v::r,l,h=>by unfold DE at h;split at h;rename_i p b h1 h2;cases h;have a:=aaz h2;rw[eU,List.mapM_cons,a];unfold Zu at h1;split at h1;cases h1;rfl;cases h1;cases h
def aaA:∀{a c:List D}(b d:List D),Y a=Y c→dG (a++b) (c++d)=(dG a c&&dG b d)|[],[],b,d,_=>by simp[dG]|x::a,y::c,b,d,h=>by simp[dG,aaA b d (by simpa using h),Bool.and_assoc]|[],_::_,_,_,h=>by simp at h|_::_,[],_,_,h=>by simp at h
def JM:∀{s t:List Sc}{a b:List D},cB s a=W→cB t b=W→cB (s++t) (a++b)=W
 |[],_,[],_,_,h=>h|k::s,t,x::a,b,h1,h2=>by cases k<;>cases x<;>simp only[cB,Bool.and_eq_true,Bool.false_eq_true]at h1;simp only[List.cons_append,cB,Bool.and_eq_true];exact⟨h1.1,JM h1.2 h2⟩;simp only[List.cons_append,cB];exact JM h1 h2;simp only[List.cons_append,cB];exact JM h1 h2
 |[],_,_::_,_,h,_=>by cases h
 |k::_,_,[],_,h,_=>by cases k<;>cases h
def tj:∀{k:Ty}{sh:List Sc}(x:k.T),po k=some sh→cB sh (bf k x)=W
 |.int k,sh,x,h=>by cases h;simp[bf,cB]
 |.bool,sh,x,h=>by cases h;rfl
 |.bh,sh,x,h=>by cases h;rfl
 |.bG a b,sh,x,h=>by simp only[po]at h;split at h;rename_i s t h1 h2;cases h;exact JM (tj x.1 h1) (tj x.2 h2);cases h
 |.sl _,_,_,h=>by cases h
 |.cb _ _ _,_,_,h=>by cases h
 |.set _,_,_,h=>by cases h
def DP:∀{k:Ty}{sh:List Sc}(x y:k.T),po k=some sh→dG (bf k x) (bf k y)=jH k x y
 |.int k,sh,x,y,h=>by simp[bf,dG,jS,jH]|.bool,sh,x,y,h=>by simp[bf,dG,jS,jH]|.bh,sh,x,y,h=>by simp[bf,dG,jS,jH]|.bG a b,sh,x,y,h=>by simp only[po]at h;split at h;rename_i s t h1 h2;simp only[bf,jH,aaA _ _ (by rw[jx,jx]:(bf a x.1).length=(bf a y.1).length),DP x.1 y.1 h1,DP x.2 y.2 h2];cases h
 |.sl _,_,_,_,h=>by cases h
 |.cb _ _ _,_,_,_,h=>by cases h
 |.set _,_,_,_,h=>by cases h
def aaB:∀{a c:List D}(b d:List D),Y a=Y c→pe (a++b) (c++d)=(pe a c||(dG a c&&pe b d))
 |[],[],b,d,_=>by simp[pe,dG]|x::a,y::c,b,d,h=>by simp only[List.cons_append,pe,dG,aaB b d (by simpa using h:a.length=c.length)];cases zZ x y<;>cases jS x y<;>cases pe a c<;>cases dG a c<;>rfl
 |[],_::_,_,_,h=>by simp at h|_::_,[],_,_,h=>by simp at h
def QB(a b:D):pe [a] [b]=zZ a b:=by simp[pe]
def QC:∀{k:Ty}{sh:List Sc}(x y:k.T),po k=some sh→pe (bf k x) (bf k y)=pp k x y
 |.int k,sh,x,y,h=>by simp[bf,QB,zZ,pp]|.bool,sh,x,y,h=>by simp[bf,QB,zZ,pp]|.bh,sh,x,y,h=>by simp[bf,QB,zZ,pp]|.bG a b,sh,x,y,h=>by simp only[po]at h;split at h;rename_i s t h1 h2;simp only[bf,pp,aaB _ _ (by rw[jx,jx]:(bf a x.1).length=(bf a y.1).length),QC x.1 y.1 h1,QC x.2 y.2 h2,DP x.1 y.1 h1];cases h
 |.sl _,_,_,_,h=>by cases h
 |.cb _ _ _,_,_,_,h=>by cases h
 |.set _,_,_,_,h=>by cases h
section
variable{u:Bool}{k v:Ty}{sh:List Sc}(hk:po k=some sh)
def DQ(r:(Ty.cb u k v).T):(bf (.cb u k v) r).take k.w=bf k r.1:=by simp_all [bf,jx]
theorem JN(r:(Ty.cb u k v).T):(bf (.cb u k v) r).drop k.w=bf v r.2:=by simp_all [bf,jx]
include hk in
theorem DR(xs:List (Ty.cb u k v).T):lm sh k.w (xs.map (bf (.cb u k v)))=W:=by simp_all [lm,DQ,tj]
include hk in
theorem AX(x:k.T):∀(xs:List (Ty.cb u k v).T),(eA k.w (bf k x) (xs.map (bf (.cb u k v)))=O∧du k x xs=O∧mD k x xs=Y xs∧(∀z,nt k x z xs=xs++[(x,z)])∧∀y,fZ k x y xs=xs++[(x,y)])∨∃i r,eA k.w (bf k x) (xs.map (bf (.cb u k v)))=some i∧xs[i]?=some r∧du k x xs=some r.2∧mD k x xs=i∧(∀z,nt k x z xs=xs)∧∀y,fZ k x y xs=xs.set i (x,y)
 |[]=>.inl ⟨rfl,rfl,rfl,λ_=>rfl,λ_=>rfl⟩|r::xs=>by
  have e:dG (bf k x) ((bf (.cb u k v) r).take k.w)=jH k x r.1:=by rw[DQ,DP x r.1 hk]
  simp only[List.map_cons,eA,e,du,mD,nt,fZ];cases c:jH k x r.1 with
  |true=>exact .inr ⟨0,r,by simp,rfl,rfl,rfl,λ_=>rfl,λ_=>rfl⟩|false=>
   simp only[Bool.false_eq_true,ch];rcases AX x xs with⟨h1,h2,h3,a,b⟩|⟨i,d,h1,h2,h3,a,b,f⟩
   grind;grind
include hk in
theorem aaC(x:k.T)(y:v.T):∀(xs:List (Ty.cb u k v).T),z7 k.w (bf k x) (bf k x++bf v y) (xs.map (bf (.cb u k v)))=(pq k x y xs).map (bf (.cb u k v))
 |[]=>rfl|r::xs=>by
  have e:pe (bf k x) ((bf (.cb u k v) r).take k.w)=pp k x r.1:=by rw[DQ,QC x r.1 hk]
  simp only[List.map_cons,z7,e,pq];cases a:pp k x r.1 with|true=>rfl|false=>simp only[Bool.false_eq_true,ch,List.map_cons];rw[aaC x y xs]
include hk in
theorem aaD(xs:List (Ty.set k).T):lm sh k.w (xs.map (bf (.set k)))=W:=by simp_all [lm,bf,List.take_of_length_le,jx,tj]
include hk in
theorem QD(x:k.T):∀(xs:List (Ty.set k).T),(eA k.w (bf k x) (xs.map (bf (.set k)))=O∧qn k x xs=I∧ov k x xs=xs++[x])∨∃i r,eA k.w (bf k x) (xs.map (bf (.set k)))=some i∧xs[i]?=some r∧qn k x xs=W∧ov k x xs=xs.set i x
 |[]=>.inl ⟨rfl,rfl,rfl⟩|r::xs=>by
  have e:dG (bf k x) ((bf (.set k) r).take k.w)=jH k x r:=by simp_all [bf,List.take_of_length_le,jx,DP]
  simp only[List.map_cons,eA,e,qn,ov];cases a:jH k x r with
  |true=>simp_all|false=>
   simp only[Bool.false_eq_true,ch];rcases QD x xs with⟨h1,h2,h3⟩|⟨i,b,h1,h2,h3,c⟩
   grind;simp_all
end
def DS{sh:List Sc}{ki ei:TI}{k v:Ty}{a:U}{b:Bool}(h:yb sh ki ei k v a b=W):po k=some sh∧k.w=ki.size∧k.agg=ki.kind.agg∧a=ei.size∧b=ei.kind.agg:=by grind [yb]
def vC(v:aP):(aL v).isAgg=v.isAgg:=by cases v<;>rfl
theorem aaE:∀(ds:List D),kg (ds.map .d)=some ds|[]=>rfl|d::ds=>by simp[kg,aaE ds]
def DT{k:Ty}{a:aP}{x:k.T}(h:yc k a=some x):(aL a).key=some (bf k x)∧a.isAgg=k.agg:=by grind [yc,SV.key,vB,Jy,aaE]
theorem aaF(t:Ty){e:U}(a:t.e=e∨t.e=kf e)(r:aO)(j hv cv k:U)(xs:List t.T)(s:bp):ae s (Jk t r j hv) (List.map (bf t)) (ng e (cE (.l (.bj r j hv cv k) t xs))):=by
 unfold Jk;simp only[ng,cE,lC];refine ae.aE ?_;simp only[bE];refine ae.bD λb=>?_;rw[cC (show(cL (s.aE r)).hv=hv∧(t.e=e∨t.e=kf e)from⟨(by simpa using b:(s.aE r).hv=hv),a⟩)];rw[kJ];cases c:(s.aE r).at j with
 |l m t2 ys=>
  cases m with|bj=>exact ae.ai|_=>dsimp only;split;rename_i h;subst h;exact ae.ret rfl;exact ae.ai
 |n m t2 o=>
  cases m with|bj=>exact ae.ai|_=>dsimp only;split;rename_i h;subst h;exact ae.call λys hy=>(by subst hy;exact ae.ret rfl);exact ae.ai
 |_=>exact ae.ai
def JO(t:Ty){e:U}(b:t.e=e∨t.e=kf e)(c:E)(s:bp):ae s (ta t c) (List.map (bf t)) (ng e (cE c)):=by
 cases c with
 |cX f=>cases f<;>first|exact ae.ret rfl|exact ae.ai
 |l m d xs=>
  cases m with|ak=>exact ae.ai|data=>grind [ta,ng,cE,lC,bE,cC,ae.ret,ae.ai]|bj r j hv cv k=>grind [ta,aaF,ae.ai]
 |n m d o=>
  cases m with
  |ak=>exact ae.ai|data=>simp only[ta];split;rename_i h;subst h;refine ae.call λxs a=>?_;subst a;simp only[ng,cE,lC,bE];rw[cC b];exact ae.ret rfl;exact ae.ai
  |bj r j hv cv k=>simp only[ta];split;rename_i h;subst h;refine ae.call λxs a=>?_;subst a;exact aaF d b r j hv cv k xs s;exact ae.ai
 |_=>exact ae.ai
theorem DU{ki ei:TI}{k v:Ty}(h1:k.w=ki.size)(h2:k.agg=ki.kind.agg)(h3:v.w=ei.size)(a:v.agg=ei.kind.agg):dn ki ei=(Ty.cb I k v).e:=by simp only[dn,Ty.e,h1,h2,h3,a]
def JP{ki ei:TI}{k v:Ty}(u:Bool)(h1:k.w=ki.size)(h2:k.agg=ki.kind.agg)(h3:v.w=ei.size)(a:v.agg=ei.kind.agg):(Ty.cb u k v).e=dn ki ei∨(Ty.cb u k v).e=kf (dn ki ei):=by cases u;grind [DU];simp_all [dn,Ty.e]
def DV{ki ei:TI}{k:Ty}(h1:k.w=ki.size)(h2:k.agg=ki.kind.agg)(h3:0=ei.size)(a:W=ei.kind.agg):dn ki ei=(Ty.set k).e:=by simp_all [dn,Ty.e]
def aaG{af:bM}{t kt:bq}{ki ei:TI}(h:jD af t=some (kt,ki,ei)):ki.size<32768∧ei.size<32768:=by grind [jD]
theorem aaH{af:bM}{t kt:bq}{ki ei:TI}(hm:jD af t=some (kt,ki,ei)){u:Bool}{k v:Ty}(h1:k.w=ki.size)(h2:k.agg=ki.kind.agg)(h3:v.w=ei.size)(c:v.agg=ei.kind.agg):ij (Ty.cb u k v).e=u:=by let⟨a,b⟩:=aaG hm;have d:=OP a b;grind [kf,dn,Ty.e,ij,fQ,Nat.ble_eq_true_of_le,wY]
theorem alF{af:bM}{t kt:bq}{ki ei:TI}(hm:jD af t=some (kt,ki,ei)){k:Ty}(h1:k.w=ki.size)(h2:k.agg=ki.kind.agg)(h3:0=ei.size)(a:W=ei.kind.agg):ij (Ty.set k).e=I:=by let⟨b,c⟩:=aaG hm;rw[←DV h1 h2 h3 a];exact uS b c
def alG(v:Ty)(y:v.T)(s:bp)(g:Bool)(e:v.agg=g):ae s (P9 v y) aL (p5 g (bf v y)):=by
 unfold P9 p5;have a:=kV v y;subst e;cases v.agg with
 |true=>exact ae.ret (by simp only[aL,a])|false=>
  dsimp only;split;rename_i c b;rw[b]at a;match hy:bf v y,a with|[d],a=>simp_all [aU,ae.ret,aL]|[],a=>simp[aU]at a|_::_::_,a=>simp[aU]at a
  exact ae.ai
def alH(af:eW)(t:bq)(c:E)(p:aP)(ok:Bool)(s:bp):ae s (Qa af t c p ok) aL (jt af.c t (cE c) (aL p) ok):=by
 unfold Qa;split;rename_i kt ki ei q;split;rename_i sh z u k v b j y;split;rename_i x l;simp only[bB];refine ae.bD λh=>?_;simp only[Bool.and_eq_true]at h;let⟨⟨h1,h2⟩,h3⟩:=h;let⟨hk,e,g,i,f⟩:=DS h1;have m:=DN h2;let⟨n,o⟩:=DT l;simp only[jt,q,b,j,n,bE];rw[cC ⟨tj x hk,by rw[jx,e],by rw[vC,o,g],by rw[m,jx,i],by grind⟩];refine ae.bind (JO (.cb u k v) (JP u e g i f) c s) λxs r=>?_;rw[cC (by grind [DR]),←e,←f];have a:iR k.w (xs.map (bf (.cb u k v))) z (eA k.w (bf k x) (xs.map (bf (.cb u k v))))=bf v (X (du k x xs) v.zero)∧V (eA k.w (bf k x) (xs.map (bf (.cb u k v))))=V (du k x xs):=by grind [AX,iR,JN]
 rw[a.1,a.2];cases ok with|true=>refine ae.ret ?_;show _=SV.bw [(v.agg,aU (fc v (X (du k x xs) v.zero))),(I,[C.d (.bool (V (du k x xs)))])];rw[kV]|false=>exact alG v _ r _ rfl
 exact ae.ai;rename_i sh k b j y;split;rename_i x l;simp only[bB];refine ae.bD λh1=>?_;let⟨hk,e,g,i,f⟩:=DS h1;let⟨n,o⟩:=DT l;simp only[jt,q,b,j,n,bE];rw[cC ⟨tj x hk,by rw[jx,e],by rw[vC,o,g],i,.inl f.symm⟩];refine ae.bind (JO (.set k) (.inl (DV e g i f).symm) c s) λxs r=>?_;rw[cC (by grind [aaD]),←e,←f];have a:iR k.w (xs.map (bf (.set k))) [] (eA k.w (bf k x) (xs.map (bf (.set k))))=[]∧V (eA k.w (bf k x) (xs.map (bf (.set k))))=qn k x xs:=by grind [QD,iR,Ty.w,jx]
 rw[a.1,a.2];cases ok with|true=>exact ae.ret rfl|false=>exact ae.ret rfl
 exact ae.ai;exact ae.ai;exact ae.ai
def aaI{α β:Type}(t:Ty)(r:aO)(j hv:U)(cond:Q (List t.T→Bool))(F:List t.T→List t.T)(out:List t.T→α)(f:α→β)(s:bp)(p:U→Prop)[DecidablePred p]{b:U}(d:p b)(q:RV→U→List (List D)→ax β) (g:∀(x:RV)(ys:List t.T),(∀c,cond=some c→c ys=W)→q x t.e (ys.map (bf t))=(eu r {x with cv:=x.cv+1,v:=x.v.setCell j (.ak t.e ((F ys).map (bf t)))}).bind λ_=>.ret (f (out ys))):
  ae s (Jm t r j hv cond F out) f (.aE r λx=>(bS (x.hv=hv∧r.isArg=I∧p b)).bind λ_=>match x.at j with|.ak i ys=>q x i ys|_=>.ai):=by
 unfold Jm
 refine ae.aE ?_
 refine ae.bD λa=>?_
 simp only[Bool.and_eq_true,dL,Bool.not_eq_true']at a
 rw[cC (show(cL (s.aE r)).hv=hv∧r.isArg=I∧p b from⟨a.1,a.2,d⟩)]
 rw[kJ]
 have fin:∀(ys:List t.T),ae s (Jl t r j (s.aE r) cond F out ys) f (q (cL (s.aE r)) t.e (ys.map (bf t))):=by
  intro ys;have put:(∀c,cond=some c→c ys=W)→ae s ((lz r {(s.aE r)with cv:=(s.aE r).cv+1,v:=(s.aE r).v.setCell j (.l .ak t (F ys))}).bind λ_=>.ret (out ys)) f (q (cL (s.aE r)) t.e (ys.map (bf t))):=by intro k;rw[g _ ys k];refine ae.put a.2 ?_ (ae.ret rfl);simp only[cL,nu,cE,lC]
  unfold Jl;grind [ae.cZ]
 cases u:(s.aE r).at j with
 |l m t2 ys=>
  cases m with
  |ak=>dsimp only;split;rename_i h;subst h;exact fin ys;exact ae.ai
  |_=>exact ae.ai
 |n m t2 o=>
  cases m with
  |ak=>dsimp only;split;rename_i h;subst h;exact ae.call λys hy=>(by subst hy;exact fin ys);exact ae.ai
  |_=>exact ae.ai
 |_=>exact ae.ai
def DW{α β:Type}(t:Ty)(c:E)(cond:Q (List t.T→Bool))(F:List t.T→List t.T)(out:List t.T→α)(f:α→β)(s:bp)(p:U→Prop)[DecidablePred p](b:p t.e)(q:aO→U→RV→U→List (List D)→ax β) (d:∀(r:aO)(j:U)(x:RV)(ys:List t.T),(∀c,cond=some c→c ys=W)→q r j x t.e (ys.map (bf t))=(eu r {x with cv:=x.cv+1,v:=x.v.setCell j (.ak t.e ((F ys).map (bf t)))}).bind λ_=>.ret (f (out ys))):
  ae s (vp t c cond F out) f (match cE c with
   |.bj r j hv _ e _ _=>.aE r λx=>(bS (x.hv=hv∧r.isArg=I∧p e)).bind λ_=>match x.at j with|.ak g ys=>q r j x g ys|_=>.ai
   |_=>.ai):=by
 cases c with
 |l m a xs=>
  cases m with
  |bj r j hv cv k=>simp only[vp];split;rename_i h;subst h;exact aaI a r j hv cond F out f s p b (q r j) (d r j);exact ae.ai
  |_=>exact ae.ai
 |n m a o=>
  cases m with
  |bj r j hv cv k=>simp only[vp];split;rename_i h;subst h;refine ae.call λxs i=>?_;subst i;exact aaI a r j hv cond F out f s p b (q r j) (d r j);exact ae.ai
  |_=>exact ae.ai
 |_=>exact ae.ai
def aaJ(af:eW)(t:bq)(c:E)(C D:aP)(s:bp):ae s (Qb af t c C D) (λ_=>()) (xo af.c t (cE c) (aL C) (aL D)):=by
 unfold Qb;split;rename_i kt ki ei p;split;rename_i sh u k v n K;split;rename_i x N w o;simp only[bB];refine ae.bD λh=>?_;simp only[Bool.and_eq_true,dL]at h;let⟨⟨h1,h2⟩,h3⟩:=h;let⟨hk,b,f,g,l⟩:=DS h1;let⟨z,A⟩:=DT w;simp only[xo,p,n,z,vB,o,m8,bE];rw[cC ⟨tj x hk,by rw[jx,b],by rw[vC,A,f],by rw[rO,h3,g],by rw[vC,h2,l]⟩];refine ae.bind (DJ N s) λds F=>?_;cases G:lA v ds with
 |none=>exact ae.ai|some y=>
  have hy:ds.map qp=bf v y:=by grind [JD]
  rw[hy];cases u with
  |false=>
   refine DW (.cb I k v) c O (λxs=>fZ k x y xs) (λ_=>()) (λ_=>()) F (λe=>e=dn ki ei∨e=kf (dn ki ei)) (JP I b f g l) (λr j a m ys=>(bS (lm sh ki.size ys=W)).bind λ_=>eu r {a with cv:=a.cv+1,v:=a.v.setCell j (.ak m (putRow (ij m) ki.size (bf k x) (bf v y) ys))}) ?_;intro r j a ys _;rw[cC (by grind [DR]),aaH (af:=af.c) p b f g l,←b];show eu _ _=eu _ _;congr 4;simp only[putRow,CH];rcases AX hk x ys with⟨d,_,_,_,B⟩|⟨i,H,d,_,_,_,_,q⟩
   rw[d,B];simp only[List.map_append,List.map_cons,List.map_nil];rfl;rw[d,q];simp only[List.map_set];rfl
  |true=>
   refine DW (.cb W k v) c O (λxs=>P8 k x y xs) (λ_=>()) (λ_=>()) F (λe=>e=dn ki ei∨e=kf (dn ki ei)) (JP W b f g l) (λr j a m ys=>(bS (lm sh ki.size ys=W)).bind λ_=>eu r {a with cv:=a.cv+1,v:=a.v.setCell j (.ak m (putRow (ij m) ki.size (bf k x) (bf v y) ys))}) ?_;intro r j a ys _;rw[cC (by grind [DR]),aaH (af:=af.c) p b f g l,←b];show eu _ _=eu _ _;congr 4;simp only[putRow,H7,P8];rcases AX hk x ys with⟨d,R,_⟩|⟨i,H,d,_,P,_,_,q⟩
   grind [aaC];rw[d,P,HI];simp only[q,List.map_set];rfl
 exact ae.ai;rename_i sh k n K;split;rename_i x w o;simp only[bB];refine ae.bD λh=>?_;simp only[Bool.and_eq_true]at h;let⟨h1,h2⟩:=h;let⟨hk,b,f,g,l⟩:=DS h1;let⟨z,A⟩:=DT w;simp only[xo,p,n,z,vB,o,m8,bE];rw[cC ⟨tj x hk,by rw[jx,b],by rw[vC,A,f],g,by rw[vC,h2,l]⟩];show ae s _ _ ((ax.ret []).bind _);refine DW (.set k) c O (λxs=>ov k x xs) (λ_=>()) (λ_=>()) s (λe=>e=dn ki ei∨e=kf (dn ki ei)) (.inl (DV b f g l).symm) (λr j a m ys=>(bS (lm sh ki.size ys=W)).bind λ_=>eu r {a with cv:=a.cv+1,v:=a.v.setCell j (.ak m (putRow (ij m) ki.size (bf k x) [] ys))}) ?_;intro r j a ys _;rw[cC (by grind [aaD]),alF (af:=af.c) p b f g l,←b];show eu _ _=eu _ _;congr 4;simp only[putRow,CH];rcases QD hk x ys with⟨d,_,B⟩|⟨i,H,d,_,_,q⟩
 rw[d,B];simp only[List.map_append,List.map_cons,List.map_nil,List.append_nil];rfl;rw[d,q];simp only[List.map_set,List.append_nil];rfl;exact ae.ai;exact ae.ai;exact ae.ai
def aaK{u:Bool}{k v:Ty}(y:v.T):∀(n:U)(xs:List (Ty.cb u k v).T),n<Y xs→(pr y n xs).map (bf (.cb u k v))=(xs.map (bf (.cb u k v))).set n ((H (xs.map (bf (.cb u k v))) n []).take k.w++bf v y)|0,r::xs,_=>by simp only[pr,List.map_cons,List.set_cons_zero,List.getD_cons_zero,DQ];rfl|n+1,r::xs,h=>by simp only[pr,List.map_cons,List.set_cons_succ,List.getD_cons_succ];rw[aaK y n xs (by simpa using h)]|_,[],h=>by simp at h
def alI(af:eW)(t:bq)(c st:E)(f:aP)(s:bp):ae s (Qd af t c st f) (λ_=>()) (CI af.c t (cE c) (cE st) (aL f)):=by
 unfold Qd;split;rename_i kt ki ei k v z n o p A d;simp only[bB];refine ae.bD λh=>?_;simp only[Bool.and_eq_true,dL]at h;let⟨⟨⟨⟨⟨g,q⟩,i⟩,l⟩,h2⟩,h3⟩:=h;simp only[CI,p,cE,vB,d,m8,bE];rw[cC ⟨by rw[rO,h3,i],by rw[vC,h2,l]⟩];refine ae.bind (DJ o s) λds u=>?_;cases a:lA v ds with|none=>exact ae.ai|some y=>rw[show ds.map qp=bf v y from JD a];refine DW (.cb I k v) c (some λxs=>decide (0≤n∧n<ag xs)) (λxs=>pr y (G n) xs) (λ_=>()) (λ_=>()) u (λe=>e=dn ki ei) (DU g q i l).symm (λr j b w ys=>(bS (0≤n∧n<Y ys)).bind λ_=>eu r {b with cv:=b.cv+1,v:=b.v.setCell j (.ak w (ys.set (G n) ((H ys (G n) []).take ki.size++bf v y)))}) ?_;intro r j b ys x;have m:=jr (x _ rfl);simp only[ag]at m;rw[cC (by simpa using m),←g,aaK y (G n) ys (by omega)];rfl
 exact ae.ai
def alJ(af:eW)(t:bq)(c:E)(u:aP)(s:bp):ae s (Qc af t c u) aL (xp af.c t (cE c) (aL u)):=by
 unfold Qc;split;rename_i kt ki ei D;split;rename_i sh z k v l F R;split;rename_i x G;simp only[bB];refine ae.bD λh=>?_;simp only[Bool.and_eq_true]at h;let⟨⟨h1,h2⟩,h3⟩:=h;let⟨hk,m,y,A,B⟩:=DS h1;have a:=DN h2;let⟨H,K⟩:=DT G;simp only[xp,D,l,F,H,bE];rw[cC ⟨tj x hk,by rw[jx,m],by rw[vC,K,y],by rw[a,jx,A],by grind⟩];refine DW (.cb I k v) c O (λxs=>nt k x v.zero xs) _ aL s (λe=>e=dn ki ei) (DU m y A B).symm (λr j f N xs=>(bS (lm sh ki.size xs=W)).bind λ_=>(eu r {f with cv:=f.cv+1,v:=f.v.setCell j (.ak N (if(V (eA ki.size (bf k x) xs))=W then xs else xs++[bf k x++z]))}).bind λ_=>.ret (.bw [(ei.kind.agg,(iR ki.size xs z (eA ki.size (bf k x) xs)).map .d),(I,[.d (.int .i64 (X (eA ki.size (bf k x) xs) (Y xs):U))])])) ?_;intro r j f ys _;rw[cC (by grind [DR]),←m,←B];rcases AX hk x ys with⟨n,o,p,q,_⟩|⟨i,g,n,o,p,q,P,_⟩
 rw[n,o,p,q,a];simp only[Option.isSome_none,Bool.false_eq_true,ch,iR,List.map_append,List.map_cons,List.map_nil,ahM,List.length_map];congr 1;funext _;show ax.ret (SV.bw [(v.agg,(bf v v.zero).map C.d),(I,[C.d (.int .i64 (Y ys))])])=ax.ret (SV.bw [(v.agg,aU (fc v v.zero)),(I,[C.d (.int .i64 (Y ys))])]);rw[kV];rw[n,p,q,P];simp only[HI,bI,fL];congr 1;funext _;have b:iR k.w (ys.map (bf (.cb I k v))) z (some i)=bf v g.2:=by simp only[iR,List.getD_eq_getElem?_getD,List.getElem?_map,o,m8,fL];exact JN g
 rw[b];show ax.ret (SV.bw [(v.agg,(bf v g.2).map C.d),(I,[C.d (.int .i64 i)])])=ax.ret (SV.bw [(v.agg,aU (fc v g.2)),(I,[C.d (.int .i64 i)])]);rw[kV];exact ae.ai;exact ae.ai;exact ae.ai
def alK(af:eW)(t:bq)(dst:U)(s:bp):ae s (Qe af t dst) aL (CJ af.c t dst):=by
 unfold Qe;split;rename_i kt ki ei u k v d l;simp only[bB];refine ae.bD λh=>?_;simp only[Bool.and_eq_true,dL]at h;let⟨⟨⟨⟨f,g⟩,i⟩,j⟩,b⟩:=h;simp only[CJ,d];have a:ab4 af.c.un dst=u:=b.symm;grind [ae.ret,aL,cE,lC,Cy,Ty.e,dn];rename_i kt ki ei k d l;simp only[bB];refine ae.bD λh=>?_;simp only[Bool.and_eq_true,dL]at h;let⟨⟨⟨⟨f,g⟩,i⟩,j⟩,b⟩:=h;simp only[CJ,d];have a:ab4 af.c.un dst=I:=by rw[Bool.not_eq_true']at b;exact b
 rw[a];exact ae.ret (by simp only[aL,cE,lC,DV f g i j,List.map_nil,Cy]);exact ae.ai
def alL(af:eW)(t:bq)(c:E)(s:bp):ae s (Qh af t c) aL (z8 af.c t (cE c)):=by unfold Qh;split;rename_i kt ki ei u k v a g;simp only[bB];refine ae.bD λh=>?_;simp only[Bool.and_eq_true,dL]at h;let⟨⟨⟨b,d⟩,e⟩,f⟩:=h;simp only[z8,a,bE];exact ae.bind (JO _ (JP u b d e f) c s) λxs i=>ae.ret (by simp[gR,fY,aL,cE,ag]);rename_i kt ki ei k a g;simp only[bB];refine ae.bD λh=>?_;simp only[Bool.and_eq_true,dL]at h;let⟨⟨⟨b,d⟩,e⟩,f⟩:=h;simp only[z8,a,bE];exact ae.bind (JO _ (.inl (DV b d e f).symm) c s) λxs i=>ae.ret (by simp[gR,fY,aL,cE,ag]);exact ae.ai
def alM:fQ nX=W:=rfl
def alN(af:eW)(t:bq)(c:E)(s:bp):ae s (Qf af t c) aL (H8 af.c t (cE c)):=by
 unfold Qf;split;rename_i kt ki ei k v j n;simp only[bB];refine ae.bD λh=>?_;simp only[Bool.and_eq_true,dL]at h;let⟨⟨⟨a,b⟩,f⟩,g⟩:=h;simp only[H8,j,bE];refine ae.bind (vA c s) λd i=>?_;split;rename_i l xs;split;rename_i h;subst h
 show ae i _ aL (match D.sl (Ty.cb I k v).e (xs.map (bf (Ty.cb I k v)))with|.sl e xs=>(bS (e=dn ki ei)).bind λ_=>.ret (.one (.ak nX [[.sl e xs],[]]))|_=>.ai)
 simp only[];rw[cC (DU a b f g).symm];exact ae.ret rfl;exact ae.ai;rename_i l o;split;rename_i h;subst h;refine ae.call λxs m=>?_;subst m
 show ae i _ aL (match D.sl (Ty.cb I k v).e (xs.map (bf (Ty.cb I k v)))with|.sl e xs=>(bS (e=dn ki ei)).bind λ_=>.ret (.one (.ak nX [[.sl e xs],[]]))|_=>.ai)
 simp only[];rw[cC (DU a b f g).symm];exact ae.ret rfl;exact ae.ai;exact ae.ai;exact ae.ai
theorem aaL{u:Bool}{k v:Ty}(h:Du u k v=W)(r:(Ty.cb u k v).T):ft (Dt k v r)=qa (Ty.cb u k v).e (bf (.cb u k v) r):=by simp_all [Du,qa,DQ,JN,ft,Dt,kV]
def alO{t:Ty}(xs:List t.T)(i:U)(d:t.T)(h:i<Y xs):H (xs.map (bf t)) i []=bf t (H xs i d):=by grind
def alP(c:E)(s:bp):ae s (Qg c) aL (H9 (cE c)):=by
 cases c with
 |it m t0 d f=>
  cases m with
  |bj r j hv cv g=>
   simp only[Qg,H9,cE,mC,bB,bE];refine ae.aE ?_;refine ae.bD λa=>?_;simp only[Bool.and_eq_true,dL,Bool.not_eq_true']at a;rw[cC (show(cL (s.aE r)).hv=hv∧r.isArg=I∧fQ nX=W from⟨a.1,a.2,rfl⟩)];rw[kJ];cases h:(s.aE r).at j with
   |it m t xs b=>
    cases m with
    |ak=>
     cases t with
     |cb u k v=>
      cases b with|nil=>exact ae.ai|cons i b=>dsimp only;refine ae.bD λh1=>?_;refine ae.cZ λh2=>?_;have h2:=(c8 _ _).1 h2;show ae s _ aL ((bS (0≤(i:L)∧G ((i:L))<Y ((xs.map (bf (Ty.cb u k v))):List (List D)))).bind λ_=>.ret (.bw (qa (Ty.cb u k v).e (H (xs.map (bf (Ty.cb u k v))) (G ((i:L))) []))));rw[cC ⟨by omega,by simpa using h2⟩];refine ae.ret ?_;show _=SV.bw (ft (Dt k v _));grind [aaL]
     |_=>exact ae.ai
    |_=>exact ae.ai
   |_=>exact ae.ai
  |_=>exact ae.ai
 |_=>exact ae.ai
def alQ(c a b:cF)(s:bp):ae s ((fX c).bind λc'=>match c' with|.tt=>fh a|.ff=>fh b|.b x=>.br x ((gI c W).bind λ_=>fh a) ((gI c I).bind λ_=>fh b)|_=>.ai) aL ((ed c).bind λc'=>(zX c').bind λd=>if d=W then ev a else ev b):=by
 have i:∀(c':E)(s':bp),(∀t,c≠.tmp t)→ae s' (match c' with
  |.tt=>fh a|.ff=>fh b|.b x=>.br x ((gI c W).bind λ_=>fh a) ((gI c I).bind λ_=>fh b)|_=>.ai) aL ((zX (cE c')).bind λd=>if d=W then ev a else ev b):=by
  intro c' s' g
  have e:∀b,gI c b=.ret ():=by
   intro b;cases c with|tmp t=>exact cO rfl (g t)|_=>rfl
  cases c' with
  |tt=>exact fU a s'|ff=>exact fU b s'|b x=>simp only[e,ZH];refine ae.br (λh=>?_) λh=>?_;subst h;exact fU a s';subst h;exact fU b s'|l m t xs=>cases m<;>exact ae.ai
  |n m t o=>cases m<;>cases o<;>exact ae.ai
  |_=>exact ae.ai
 cases c with
 |tmp t=>
  have j:fX (.tmp t)=.aE (.tmp t) λx=>(match x.v with|.undef=>PE.ai|_=>.ret (x.gD (.tmp t))).bind PB:=rfl
  have k:ed (.tmp t)=.aE (.tmp t) λx=>(match x.v with|.undef=>ax.ai|_=>.ret (x.gD (.tmp t))).bind zV:=rfl
  rw[j,k];refine ae.aE ?_;dsimp only;have g:=copy_eq (s.aE (.tmp t)) (.tmp t);cases hv:(s.aE (.tmp t)).v with
  |undef=>exact ae.ai|agg cs=>have h1:(s.aE (.tmp t)).gD (.tmp t)=.agg (xX (.tmp t) (s.aE (.tmp t)) 0 cs):=(by unfold dU.gD;rw[hv]);rw[h1];exact ae.ai|bw cs=>have h1:(s.aE (.tmp t)).gD (.tmp t)=.bw (Dl (.tmp t) (s.aE (.tmp t)) 0 cs):=(by unfold dU.gD;rw[hv]);rw[h1];exact ae.ai|one c0=>
   have h1:(s.aE (.tmp t)).gD (.tmp t)=.one (vj (.tmp t) (s.aE (.tmp t)) 0 c0):=(by unfold dU.gD;rw[hv]);have h2:(cL (s.aE (.tmp t))).gD (.tmp t)=.one (cE (vj (.tmp t) (s.aE (.tmp t)) 0 c0)):=(by rw[←g,h1];rfl);have h3:(cL (s.aE (.tmp t))).v=.one (cE c0):=(by simp only[cL,hv,aL]);rw[h1,h2,h3];show ae s ((PE.ret (vj (.tmp t) (s.aE (.tmp t)) 0 c0)).bind _) _ ((ax.ret (cE (vj (.tmp t) (s.aE (.tmp t)) 0 c0))).bind _);rw[ZH];show ae s _ _ ((zX (cE (vj (.tmp t) (s.aE (.tmp t)) 0 c0))).bind λd=>if d=W then ev a else ev b);cases c0 with
   |tt=>exact fU a s|ff=>exact fU b s|b x=>refine ae.br (λh=>?_) λh=>?_;have:=ae.gI (s:=s) (p:=fh a) (f:=aL) (q:=ev a) hv h (fU a _);subst h;exact this;have:=ae.gI (s:=s) (p:=fh b) (f:=aL) (q:=ev b) hv h (fU b _);subst h;exact this|l m t xs=>cases m<;>exact ae.ai
   |n m t o=>cases m<;>cases o<;>exact ae.ai
   |it m t xs u=>cases m<;>exact ae.ai
   |_=>exact ae.ai
 |_=>exact ae.bind (ga _ s) λc' r=>i c' r (by intro t h;cases h)
def alR(af:eW)(t:bq)(dst:U)(s:bp):ae s (fi af (.alloc t) dst) aL (cn af.c (.alloc t) dst):=by
 simp only[fi,cn];split;rename_i size bytes kind z h;simp only[h,bB,bE];refine ae.bD λa=>?_;rw[cC (by simpa using a)];refine ae.aE ?_;cases hv:(s.aE (.box (.aw dst))).v with
 |undef=>
  simp only[cL,hv,aL];cases b:ya z with|none=>exact ae.ai|some cs=>simp only[Qv,JH];refine ae.put rfl ?_ (ae.ret rfl);simp only[cL,aL,JF b]
 |_=>simp only[cL,hv,aL];exact ae.ai
 exact ae.ai
def alT(af:eW)(t:bq)(x:cF)(dst:U)(s:bp):ae s (fi af (.box t x) dst) aL (cn af.c (.box t x) dst):=by
 simp only[fi,cn,bB,bE];refine ae.bind (fU x s) λv a=>?_;rw[vB];cases v.fM with
 |none=>exact ae.ai|some cs=>
  simp only[m8];have e:DB af.c (.aW (.aw dst) 0)=CK af.c (.aW (.aw dst) 0):=by funext r;exact aav _ _ _
  rw[e];refine ae.bind (DI _ _ cs 0 a) λb d=>ae.aE ?_;cases hv:(d.aE (.box (.aw dst))).v with|undef=>simp only[cL,hv,aL,Qv,JH];exact ae.put rfl rfl (ae.ret rfl)|_=>simp only[cL,hv,aL];exact ae.ai
def alU(af:eW)(op:kc)(t:bq)(x y:cF)(a:bq)(dst:U)(s:bp):ae s (fi af (.binOp op t x y a) dst) aL (cn af.c (.binOp op t x y a) dst):=by simp only[fi,cn,bB,bE];refine ae.bind (fU x s) λv b=>ae.bind (fU y b) λu d=>?_;cases v<;>cases u<;>first|exact ak7 _ _ _ _ _ _|exact ak8 _ _ _ _ _ _|exact ae.ai
def alV(af:eW)(op:UnOp)(t:bq)(x:cF)(dst:U)(s:bp):ae s (fi af (.unOp op t x) dst) aL (cn af.c (.unOp op t x) dst):=by
 simp only[fi,cn,bB,bE];refine ae.bind (ga x s) λc a=>?_;cases c with
 |l m t xs=>cases m<;>cases op<;>exact ae.ai
 |n m t o=>cases m<;>cases o<;>cases op<;>exact ae.ai
 |i k n=>cases op<;>first|exact ae.ret rfl|exact ZS _ _ _ _ _|exact ae.ai
 |_=>cases op<;>first|exact ae.ret rfl|exact ae.ai
def alW(af:eW)(f:Fn)(first captured:bW cF)(dst:U)(s:bp):ae s (fi af (.makeFunc f first captured) dst) aL (cn af.c (.makeFunc f first captured) dst):=by
 cases f with
 |func f=>
  simp only[fi,cn,bB,bE];refine ae.bD λh=>?_;rw[cC (by grind)];refine ae.bind (DG _ s) λvs a=>?_;cases hp:DE vs with
  |none=>exact ae.ai|some l=>
   have:=bX (λo:Q (M (aC×U))=>match o with|some l=>ax.ret (SV.one (.dj f l))|none=>.ai) (aaz hp)
   exact ae.JA (ae.ret rfl) this
 |_=>exact ae.ai
def alX(af:eW)(t:bq)(x:cF)(lo hi a:Q cF)(dst:U)(s:bp):ae s (fi af (.slice t x lo hi a) dst) aL (cn af.c (.slice t x lo hi a) dst):=by
 cases a with|some m=>exact ae.ai|none=>simp only[fi,cn];split;rename_i h;simp only[h,bB,bE];exact ae.bind (fU x s) λv b=>ae.bind (JL lo b) λl d=>ae.bind (JL hi d) λh e=>alr _ _ _ e;rename_i h;simp only[h];split;rename_i h2;simp only[h2,bB,bE];exact ae.bind (fU x s) λv b=>ae.bind (JL lo b) λl d=>ae.bind (JL hi d) λh e=>als _ _ _ _ e;exact ae.ai;exact ae.ai
def alY(af:eW)(t:bq)(x:cF)(f:U)(dst:U)(s:bp):ae s (fi af (.field t x f) dst) aL (cn af.c (.field t x f) dst):=by simp only[fi,cn,bB,bE];refine ae.bind (fU x s) λv a=>?_;grind [aL,DM,ae.ai]
def alZ(af:eW)(x:cF)(n:U)(dst:U)(s:bp):ae s (fi af (.extract x n) dst) aL (cn af.c (.extract x n) dst):=by
 simp only[fi,cn,bB,bE];refine ae.bind (fU x s) λv a=>?_;cases v with
 |bw vs=>
  simp only[aL];have d:(ft vs)[n]?=(vs[n]?).map λp=>(p.1,aU p.2):=by simp[ft]
  rw[d];cases vs[n]? with
  |none=>exact ae.ai|some p=>
   let⟨b,cs⟩:=p;cases b with
   |true=>exact QA _ _ (.agg cs) a|false=>
    cases cs with|nil=>exact ae.ai|cons c r=>cases r<;>first|exact QA _ _ (.one c) a|exact ae.ai
 |_=>exact ae.ai
def al0(af:eW)(c:Call)(dst:U)(s:bp):ae s (fi af (.call c) dst) aL (cn af.c (.call c) dst):=by
 let⟨callee,args,g⟩:=c;cases callee with
 |value o=>simp only[fi,cn,bB,bE];refine ae.bind (alE o s) λp a=>ae.bind (DG _ a) λvs d=>?_;have:=alD af p.1 (vs++p.2) dst d;grind|invoke r m=>exact ae.ai|builtin b=>
  cases b with
  |len=>simp only[fi,cn];split;rename_i h1 h2;simp only[h1,h2];split;rename_i h3;simp only[h3,bB,bE];exact ae.bind (fU _ s) λv a=>ZZ _ _ a;rename_i h3;simp only[h3,bB,bE];exact ae.bind (fU _ s) λv a=>ZZ _ _ a;rename_i h3;simp only[h3,bB,bE];exact ae.bind (ga _ s) λv a=>alL _ _ _ a;exact ae.ai;exact ae.ai
  |append=>simp only[fi,cn];split;rename_i h1 h2;simp only[h1,h2];split;rename_i h3;simp only[h3];split;rename_i h j;simp only[h];split;rename_i f;simp only[f,bB,bE];refine ae.bind (ga _ s) λc a=>ae.bind (ga _ a) λi d=>?_;exact ae.bind (th _ d) λn e=>alp _ _ _ _ e;rename_i f;split;grind;simp only[bB,bE];exact ae.bind (ga _ s) λc a=>ae.bind (ga _ a) λi d=>ae.bind (alq _ _ _ _ _ d) λys e=>aln _ _ _ _ _ e;exact ae.ai;exact ae.ai;exact ae.ai
  |cap=>simp only[fi,cn];split;rename_i h1 h2;simp only[h1,h2];split;rename_i h3;simp only[h3,bB,bE];exact ae.bind (ga _ s) λc a=>alo _ a;exact ae.ai;exact ae.ai
  |min=>simp only[fi,cn,bB,bE];exact ae.bind (DG _ s) λvs a=>aay _ _ a|max=>simp only[fi,cn,bB,bE];exact ae.bind (DG _ s) λvs a=>aay _ _ a|_=>exact ae.ai
def al1(af:eW)(op:Op)(dst:U)(s:bp):ae s (fi af op dst) aL (cn af.c op dst):=by
 cases op with
 |move x=>simp only[fi,cn,bB,bE];refine ae.bind (fU x s) λv d=>?_;grind [ae.ret,QA]|assign x=>simp only[fi,cn,bB,bE];exact ae.bind (fU x s) λv d=>ZQ _ _ v d|pick c a b=>exact alQ c a b s|alloc t=>exact alR af t dst s|box t x=>exact alT af t x dst s|build t ps=>exact alh _ _ _ s|buildSlice t len ps=>exact ali _ _ _ _ s|load t a=>simp only[fi,cn];split;rename_i h;simp only[h,bB,bE];exact ae.bind (ga a s) λc d=>ZT _ _ d;exact ae.ai
 |nilCheck x=>
  simp only[fi,cn,bB,bE];refine ae.bind (ga x s) λc d=>?_;cases c with
  |l m t xs=>cases m<;>exact ae.ai
  |n m t o=>cases m<;>cases o<;>exact ae.ai
  |_=>first|exact ae.ret rfl|exact ae.ai
 |binOp op t x y q=>simp_all [alU]|unOp op t x=>exact alV af op t x dst s|convert a b x=>simp only[fi,cn,bB,bE];exact ae.bind (fU x s) λv d=>alu _ _ _ _ d|makeFunc f a b=>exact alW af f a b dst s|makeSlice t l c=>simp only[fi,cn,bB,bE];exact ae.bind (ga l s) λv d=>ae.bind (th v d) λn e=>ae.bind (ga c e) λu i=>ae.bind (th u i) λm p=>alj _ _ _ _ p|slice t x lo hi z=>simp_all [alX]|fieldAddr t x f=>simp only[fi,cn,bB,bE];exact ae.bind (ga x s) λv d=>ae.bind (alc _ _ _ _ d) λu e=>ae.ret rfl|field t x f=>exact alY af t x f dst s|indexAddr t x j=>
  cases x with|global g=>simp only[fi,cn,bB,bE];exact ae.bind (ga j s) λu e=>ae.bind (th u e) λn i=>ae.bind (ald _ _ _ _ i) λw p=>ae.ret rfl|tmp y=>simp only[fi,cn,bB,bE];exact ae.bind (ga _ s) λv d=>ae.bind (ga j d) λu e=>ae.bind (th u e) λn i=>ae.bind (Qo _ _ _ _ i) λw p=>ae.ret rfl|const y=>simp only[fi,cn,bB,bE];exact ae.bind (ga _ s) λv d=>ae.bind (ga j d) λu e=>ae.bind (th u e) λn i=>ae.bind (Qo _ _ _ _ i) λw p=>ae.ret rfl|func y=>simp only[fi,cn,bB,bE];exact ae.bind (ga _ s) λv d=>ae.bind (ga j d) λu e=>ae.bind (th u e) λn i=>ae.bind (Qo _ _ _ _ i) λw p=>ae.ret rfl
 |index t x j=>simp only[fi,cn,bB,bE];exact ae.bind (fU x s) λv d=>ae.bind (ga j d) λu e=>ae.bind (th u e) λn i=>alf _ _ _ _ i|extract x n=>exact alZ af x n dst s|makeMap t r=>
  cases r with|none=>exact alK af t dst s|some r=>exact ae.ai
 |range t x=>simp only[fi,cn,bB,bE];exact ae.bind (ga x s) λc d=>alN af t c d|entry x=>simp only[fi,cn,bB,bE];exact ae.bind (ga x s) λc d=>alP c d|lookup t x j ok=>simp only[fi,cn,bB,bE];exact ae.bind (ga x s) λc d=>ae.bind (fU j d) λv e=>alH af t c v ok e|mapEntry t m k=>simp only[fi,cn,bB,bE];exact ae.bind (ga m s) λc d=>ae.bind (fU k d) λv e=>alJ af t c v e|call c=>exact al0 af c dst s|_=>exact ae.ai
def aaM(af:eW)(t:U)(v:aP)(s:bp):ae s (AJ af t v) (λ_=>()) (kh af.c t (aL v)):=by simp only[AJ,kh,bB,bE];refine ae.aE (ae.bD λh=>?_);rw[cC (p:=t<af.c.N) ((c8 _ _).1 h)];exact ae.put rfl rfl (ae.ret rfl)
theorem JQ(af:eW)(o:cS)(s:bp):ae s (oA af o) (λ_=>()) (mx af.c o):=by
 let⟨g,op,h,pos,after,guard⟩:=o;cases g with
 |some d=>
  have i:oA af ⟨J d,op,h,pos,after,guard⟩=(fi af op d).bind λv=>AJ af d v:=by cases op<;>rfl
  have j:mx af.c ⟨J d,op,h,pos,after,guard⟩=(cn af.c op d).bind λv=>kh af.c d v:=by cases op<;>rfl
  rw[i,j];exact ae.bind (al1 af op d s) λv b=>aaM af d v b
 |none=>
  cases op with
  |store t a x=>simp only[oA,mx];split;rename_i h3;simp only[h3,bB,bE];exact ae.bind (ga _ s) λc b=>ae.bind (fU _ b) λv e=>alb _ _ (funext λr=>aav _ _ _) _ _ _ e;exact ae.ai
  |mapUpdate t m k x=>simp only[oA,mx,bB,bE];exact ae.bind (ga _ s) λc b=>ae.bind (fU _ b) λv e=>ae.bind (fU _ e) λu f=>aaJ _ _ _ _ _ f|insert t m k x=>simp only[oA,mx,bB,bE];exact ae.bind (ga _ s) λc b=>ae.bind (fU _ b) λv e=>ae.bind (fU _ e) λu f=>aaJ _ _ _ _ _ f|entryStore t m st x=>simp only[oA,mx,bB,bE];exact ae.bind (ga _ s) λc b=>ae.bind (ga _ b) λv e=>ae.bind (fU _ e) λu f=>alI _ _ _ _ _ f|_=>exact ae.ai
def al2(af:eW)(e:bW cS)(o:cS)(s:bp):ae s (Jv af e o) (λ_=>()) (ni af.c e o):=by
 unfold Jv ni;cases o.guard with
 |none=>exact JQ af o s|some p=>
  let⟨j,a⟩:=p;have f:∀s',ae s' (match o.dst with|some d=>AJ af d (.bw [])|none=>PE.ret ()) (λ_=>()) (match o.dst with|some d=>kh af.c d (.bw [])|none=>ax.ret ()):=by
   intro s';cases o.dst with|none=>exact ae.ret rfl|some d=>exact aaM af d (.bw []) s'
  simp only[bE];unfold Oi;cases(e[j]?).bind (·.dst)with
  |none=>exact ae.ai|some t=>
   refine ae.aE ?_;dsimp only;cases hv:(s.aE (.tmp t)).v with
   |undef=>exact ae.ai|agg cs=>exact ae.ai|bw cs=>
    cases cs with|cons=>exact ae.ai|nil=>have h3:(cL (s.aE (.tmp t))).v=.bw []:=(by simp only[cL,hv,aL];rfl);rw[h3];show ae s _ _ (if O=J a then mx af.c o else _);grind
   |one c=>
    have h3:(cL (s.aE (.tmp t))).v=.one (cE c):=(by simp only[cL,hv,aL]);rw[h3];cases c with
    |tt=>
     show ae s (match a with|true=>oA af o|false=>_) _ (if J W=J a then mx af.c o else _)
     grind [JQ]
    |ff=>
     show ae s (match a with|true=>_|false=>oA af o) _ (if J I=J a then mx af.c o else _)
     grind [JQ]
    |b x=>
     show ae s (match a with|true=>PE.br x _ _|false=>PE.br x _ _) _ (if J x=J a then mx af.c o else _)
     grind [ae.br,ae.gI,JQ]
    |l m t xs=>cases m<;>exact ae.ai
    |n m t o=>cases m<;>cases o<;>exact ae.ai
    |_=>exact ae.ai
def qq:M (M aO×M aO)→M (M aO×M aO)→Prop|[],[]=>dK|a::l,b::m=>(∀r∈a.1,r∈b.1)∧(∀r∈a.2,r∈b.2)∧qq l m|_,_=>jn
theorem qq.length:∀{l m:M (M aO×M aO)},qq l m→Y l=Y m|[],[],_=>rfl|_::_,_::_,h=>by simp only[kO,qq.length h.2.2]|[],_::_,h=>ab1 h|_::_,[],h=>ab1 h
theorem qq.getD:∀{l m:M (M aO×M aO)},qq l m→∀i,(∀r∈(H l i ([],[])).1,r∈(H m i ([],[])).1)∧∀r∈(H l i ([],[])).2,r∈(H m i ([],[])).2|[],[],_,i=>⟨λ_ h=>h,λ_ h=>h⟩|_::_,_::_,h,0=>⟨h.1,h.2.1⟩|_::_,_::_,h,i+1=>by simpa using qq.getD h.2.2 i|[],_::_,h,_=>ab1 h|_::_,[],h,_=>ab1 h
def al3{a b c d:M aO×M aO}(h:indep c d=W)(h1:∀r∈a.1,r∈c.1)(h2:∀r∈a.2,r∈c.2)(h3:∀r∈b.1,r∈d.1)(e:∀r∈b.2,r∈d.2):indep a b=W:=by grind [indep]
def al4{c:bW cS}{i j:U}{a b d e:M aO×M aO}(h:apart c d e i j=W)(h1:∀r∈a.1,r∈d.1)(h2:∀r∈a.2,r∈d.2)(h3:∀r∈b.1,r∈e.1)(f:∀r∈b.2,r∈e.2):apart c a b i j=W:=by
 unfold apart at h ⊢;rw[qY]at h ⊢;rcases h with h|h
 exact .inl (al3 h h1 h2 h3 f);right;unfold IW at h ⊢;grind
def qq.pairs{a:bW cS}{l m:M (M aO×M aO)}(h:qq l m){b:M (M U)}(hp:xO a m b=W):xO a l b=W:=by
 simp only[xO,gy,List.mem_range,qY]at hp ⊢;intro j c i hi;rcases hp j (by rw[←h.length];exact c) i hi with q|q
 exact .inl q;exact .inr (al4 q (h.getD i).1 (h.getD i).2 (h.getD j).1 (h.getD j).2)
def aaN(af:eW)(b:bW cS):∀(l:M cS)(s:bp),(rM af b l s).box λx=>∃d,xP af.c b l (dH s)=J (dH x.1,d)∧qq d x.2|[],s=>⟨[],rfl,trivial⟩|o::r,s=>by simp only[rM];rw[Tr.vr];refine Tr.oC ?_ (al2 af b o s);rintro ⟨a,s',f,g⟩ ⟨fr,j,h,e,i⟩;simp only at h e i ⊢;rw[Tr.vr];refine Tr.oC ?_ (aaN af b r s');rintro ⟨k,l⟩ ⟨d,h2,h3⟩;simp only at h2 h3 ⊢;exact⟨(fr,j)::d,by simp only[xP,h,h2],e,i,h3⟩
end Go.Ve
