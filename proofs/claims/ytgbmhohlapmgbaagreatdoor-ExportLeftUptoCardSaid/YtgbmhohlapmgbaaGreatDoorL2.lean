/- The statement ExportLeftUptoCardSaid of the given program is proved here: for every input whose bulk is at most the bound of its row, the law returns true and changes nothing. Part 2 of 7. -/
import Derived.Maps.RangeRun
import Derived.Scope
import Derived.Defers
import Derived.KernelRfl
import Derived.Deep.Slices
import Derived.ChangeArms
import Derived.Carry
import Derived.RowKit
import Derived.OpenShut
import Derived.ChangeOld
import Derived.ShapedOpen
import Derived.Laws.StructEq
import Derived.ChangeKeysEq
import Derived.Test.YtgbmhohlapmgbaaGreatDoorL1
set_option linter.unusedVariables false
set_option linter.unusedSimpArgs false
set_option linter.unusedSectionVars false
set_option linter.constructorNameAsVariable false
set_option linter.defProp false
open Array renaming getD_eq_getD_getElem?->Hs,getElem?_eq_some_iff->pN,mem_toList_iff->agL,toList->V
open BitVec renaming ofInt->mX
open Bool renaming and_eq_true->cr,false->I,false_eq_true->bM,not_eq_true'->lL,or_eq_true->pP,true->W
open Eq renaming trans->aav
open False renaming elim->aaY
open ForInStep renaming yield->Hz
open Go renaming BinOp->jR,Calls->eA,DataW->jT,FuncId->dS,IntKind->mW,Oper->cR,Operand->cD,Program->er,ResultVar->nQ,TypeId->bv,Value->aL,World->ck,run_part_plain->agQ,run_underlying->kZ
open Go.DataW renaming TrodAll->agM,trod->Vo
open Go.Field renaming offset->acJ
open Go.Instr renaming checkKey->mY,loadAt->Cz
open Go.Op renaming bytesLess->nK,eqFields->Vp,equalIn->Hu
open Go.Oper renaming upon_skip->NG,upon_value->oV,wp->HA
open Go.Program renaming plainKey->HE,underlying->aa9
open Go.Region renaming binds->CG,wanted->HB
open Go.Result renaming andThen_ok->dE
open Go.RowKit renaming Below->cZ
open Go.Sem renaming run_bind->dB,run_pure->fF
open Iff renaming rfl->uf
open Int renaming toNat->G
open List renaming all_cons->nM,all_eq_true->gT,flatMap_cons->kK,getD_eq_getElem?_getD->jH,getElem?_append_left->pO,getElem?_append_right->CF,getElem?_cons_succ->qN,getElem?_cons_zero->ij,getElem?_eq_getElem->eD,getElem?_eq_some_iff->ik,getElem?_map->iH,getElem?_of_mem->nL,length_cons->kL,length_map->jS,length_nil->CI,map->jd,map_append->si,map_cons->fc,map_drop->xh,map_map->uj,mem_append->mm,mem_cons->iG,mem_cons_of_mem->jr,mem_cons_self->kJ,mem_iff_getElem?->Vi,mem_map->mq,mem_of_getElem?->fG,mem_singleton->js,nodup_cons->zX,pairwise_cons->xf,range->jq,replicate->ej,contains->aa1,getD->H,length->Y,toArray->ve
open List.cons renaming injEq->zR
open Nat renaming ble->gG,ble_eq->iJ,le_of_ble_eq_true->zY,le_refl->eJ,zero_le->fZ
open Option renaming bind_eq_some_iff->Vn,getD_none->agN,getD_some->fk,isSome_some->HD,map_some->m6,none->O,some->J,getD->X,isSome->aad
open Option.some renaming injEq->nP
open PUnit renaming unit->zZ
open Prod.mk renaming injEq->gH
open UInt8 renaming ofNat->kr
open _root_ renaming Array->bZ,Bool->ay,False->jc,Int->L,List->M,Nat->U,Option->Q,True->dL,UInt8->ao,Unit->bY,absurd->cJ,beq_iff_eq->dK,congrArg->cb,decide_eq_true_eq->eW,if_false->ca,if_neg->aU,if_pos->aF,if_true->bH,of_decide_eq_true->jJ
namespace Go.Vs
section
variable{K:de}{β:aD->Option Nat}{ω:Nat->Option cT}{Z:Nat->Prop}{s:St}{a:Act}{w:World}{af:bO}
def aiN{ks:M aD}{c:C}{e:Nat}{xs:M (M D)}(h:bc ks c=.ak e xs):c=.ak e xs:=by
 cases c with
 |aX k off=>cases k<;>cases h
 |_=>first|exact h|cases h
theorem Xl{ks:M aD}{c:C}(h:plain c=W):bc ks c=c:=by cases c<;>first|rfl|cases h
def Xm{ks:M aD}{cs:M C}(h:cs.all plain=W):cs.map (bc ks)=cs:=by
 induction cs with|nil=>rfl|cons c cs a=>grind [Xl]
def Xn{n:Nat}{cs:M C}(h:cs.all plain=W):cs.all (ju n)=W:=by rw[gT]at h ⊢;intro c a;have:=h c a;cases c<;>first|rfl|cases this
def Xo{v:SV}{l:M C}(h:uG v l=W):∃k off,v=.agg [.aX k off]/\l=[.aX k off]:=by unfold uG at h;grind [Nat.beq_eq]
def aiO{o:M aD}:∀(ks:M aD)(c:M (M C))(s s':St){y:bY},ks.Nodup->(rh o ks c).aE s=J (y,s')->Y c=Y ks/\(∀(i:Nat)k cs,ks[i]?=J k->c[i]?=J cs->(s' (.box k)).v=.agg (cs.map (bc o))/\((s' (.box k)).hv=(s (.box k)).hv+1\/(s' (.box k)=s (.box k)/\∃q off,cs.map (bc o)=[.aX q off]))/\(s' (.box k)).cv=(s (.box k)).cv/\cs.all (ju (Y o))=W)/\(∀r,(∀k∈ks,r≠.box k)->s' r=s r):=by
 intro ks;induction ks with
 |nil=>
  intro c s s' y _ m;cases c with
  |nil=>let⟨_,N⟩:=bh m;grind
  |cons b c=>simp[rh,aw.aE]at m
 |cons k ks F=>
  intro c s s' y w m;cases c with
  |nil=>simp[rh,aw.aE]at m|cons b c=>
   simp only[rh,aw.aE]at m;let⟨_,P,h1,d⟩:=aT m;let⟨G,x⟩:=cN h1;rw[x]at d;let⟨hk,h⟩:=zX.1 w;cases l:uG (s (.box k)).v (b.map (bc o))with
   |true=>
    rw[l]at d;let⟨K,off,z,p⟩:=Xo l;let⟨A,B,t⟩:=F c s s' h d;refine⟨by simp[A],λi k' cs f g=>?_,λr n=>t r (λk2 a=>n k2 (jr _ a))⟩;cases i with|zero=>simp only[ij,Option.some.injEq]at f g;subst f;subst g;rw[t (.box k) (λk2 a e=>hk (by cases e;exact a))];exact⟨by rw[z,p],.inr ⟨rfl,K,off,p⟩,rfl,G⟩|succ i=>simp only[qN]at f g;exact B i k' cs f g
   |false=>
   rw[l]at d;let⟨_,H,h2,D⟩:=aT d;simp only[eo,aw.aE,Option.some.injEq,gH]at h2;let⟨_,u⟩:=h2;let⟨A,B,t⟩:=F c H s' h D;have j:∀r,r≠.box k->H r=s r:=λr n=>(by rw[<-u,lO _ _ n]);refine⟨by simp[A],λi k' cs f g=>?_,λr n=>?_⟩;cases i with|zero=>simp only[ij,Option.some.injEq]at f g;subst f;subst g;rw[t (.box k) (λk2 a e=>hk (by cases e;exact a)),<-u,lN];exact⟨rfl,.inl rfl,rfl,G⟩|succ i=>simp only[qN]at f g;have:=B i k' cs f g;have E:aO.box k'≠.box k:=λe=>hk (by cases e;exact fG f);rw[j _ E]at this;exact this
   rw[t r (λk2 a=>n k2 (jr _ a)),j r (n k (kJ ..))]
def aiP(t:Nat):∀(d:M (M C))(a:Nat)(s s':St){y:bY},(escape t a d).aE s=J (y,s')->(∀(i:Nat)cs,d[i]?=J cs->(s (.box (.cn t (a+i)))).v=.undef/\(s' (.box (.cn t (a+i)))).v=.agg cs/\(s' (.box (.cn t (a+i)))).hv=(s (.box (.cn t (a+i)))).hv+1/\(s' (.box (.cn t (a+i)))).cv=(s (.box (.cn t (a+i)))).cv/\cs.all plain=W)/\(∀r,(∀i,i<Y d->r≠.box (.cn t (a+i)))->s' r=s r):=by
 intro d;induction d with
 |nil=>intro a s s' y f;let⟨_,w⟩:=bh f;grind
 |cons b d p=>
  intro a s s' y f;simp only[escape,aw.aE]at f;split at f;rename_i x;let⟨_,z,h1,g⟩:=aT f;let⟨A,l⟩:=cN h1;rw[l]at g;let⟨_,n,h2,m⟩:=aT g;simp only[eo,aw.aE,Option.some.injEq,gH]at h2;let⟨_,h⟩:=h2;let⟨q,o⟩:=p (a+1) n s' m;have c:∀r,r≠.box (.cn t a)->n r=s r:=λr j=>by rw[<-h,lO _ _ j]
  refine⟨λi cs k=>?_,λr j=>?_⟩;cases i with|zero=>simp only[ij,Option.some.injEq]at k;subst k;simp only[Nat.add_zero];rw[o (.box (.cn t a)) (λi _ e=>by simp at e;omega),<-h,lN];grind|succ i=>simp only[qN]at k;have:=q i cs k;rw[show a+1+i=a+(i+1) by omega,c _ (by simp)]at this;exact this
  rw[o r (λi u=>by have:=j (i+1) (by simpa using u);grind),c r (by have:=j 0 (by simp);simpa using this)];simp[aw.aE]at f
theorem Xp{args:M SV}:∀{l:M (Nat×Nat)},Am args l=W->ld l args=args
 |[],_=>rfl|(i,j)::r,h=>by
  simp only[Am,nM,cr]at h;let⟨h1,h2⟩:=h;simp only[ld];have a:args.set i (o8 (args.getD i .undef) j)=args:=by have:o8 (args.getD i .undef) j=args.getD i .undef:=(by grind [o8]);rw[this];apply List.ext_getElem?;grind
  rw[a];exact Xp h2
def tr(ks:M aD)(t:Nat):Option cT->Option cT|some (.tmp _,j)=>J (.tmp t,j)|some (.box (.aC i),j)=>J (.box (if i<Y ks then H ks i default else .cn t (i-Y ks)),j)|_=>O
open Classical in
theorem Xq(h:aZ K β ω Z s a w){ks:M aD}(hnd:ks.Nodup){us:M aL}{n:M SV}(hcan:aR (Dr ks β ω Z w) us n){r:qX}{v:aL}{Y:aD->Option Nat}{ω':Nat->Option cT}{Z':Nat->Prop}{w':World} (hR:aZ (cW K.P 1 w (ve us) (gM ks β) (gv ks ω) Z) Y ω' Z' (eV n r) {tmps:=#[v],defers:=[]} w') (aiQ:∀(i:Nat)(k:aD),ks[i]?=J k->∃cs,(s (.box k)).v=.agg cs)(ayZ:Am n r.cI=W)(hlen:ks.length<=r.aI.length) {t:Nat}{s1 s2:St}{y y':bY}(hp:(rh ks ks (r.aI.take ks.length)).aE s=J (y,s1))(aiR:(escape t 0 (r.aI.drop ks.length)).aE s1=J (y',s2)){v':SV}{s3:St}(f:(lf ks t r.v).aE s2=J (v',s3)):∃l N,aZ K l N Z' s3 a w'/\jh K l N Z' s3 a w' (.tmp t) v v':=by
 let⟨hpl,hp1,hp2⟩:=aiO ks _ s s1 hnd hp;let⟨he1,X⟩:=aiP t _ 0 s1 s2 aiR;simp only[Nat.zero_add]at he1 X;have hKs:∀(i:Nat)k,ks[i]?=J k->∃cs,r.aI[i]?=J cs/\(s1 (.box k)).v=.agg (cs.map (bc ks))/\((s1 (.box k)).hv=(s (.box k)).hv+1\/(s1 (.box k)=s (.box k)/\∃q off,cs.map (bc ks)=[.aX q off]))/\(s1 (.box k)).cv=(s (.box k)).cv/\cs.all (ju ks.length)=W:=by
  intro i k E;have hil:i<ks.length:=(ik.1 E).1;have B:(r.aI.take ks.length)[i]?=r.aI[i]? :=by grind
  grind
 have ay1:∀k∈ks,∀i,i<(r.aI.drop ks.length).length->aO.box k≠.box (.cn t i):=by grind [nL]
 have Xr:∀(i:Nat)k,ks[i]?=J k->∃cs,r.aI[i]?=J cs/\(s2 (.box k)).v=.agg (cs.map (bc ks))/\((s2 (.box k)).hv=(s (.box k)).hv+1\/(s2 (.box k)=s (.box k)/\∃q off,cs.map (bc ks)=[.aX q off]))/\(s2 (.box k)).cv=(s (.box k)).cv/\cs.all (ju ks.length)=W:=by grind
 have OV:∀i,i<(r.aI.drop ks.length).length->∃cs,r.aI[ks.length+i]?=J cs/\(s (.box (.cn t i))).v=.undef/\(s2 (.box (.cn t i))).v=.agg cs/\(s2 (.box (.cn t i))).hv=(s (.box (.cn t i))).hv+1/\(s2 (.box (.cn t i))).cv=(s (.box (.cn t i))).cv/\cs.all plain=W:=by intro i E;let⟨G,R,g3,g4,g5⟩:=he1 i _ (eD E);grind
 have aiS:∀q,(∀k∈ks,q≠.box k)->(∀i,i<(r.aI.drop ks.length).length->q≠.box (.cn t i))->s2 q=s q:=λq h1 h2=>by rw[X q h2,hp2 q h1]
 have aiT:s3=s2:=by
  have V:∀(c c':C)(x x':St),(back ks t c).aE x=J (c',x')->x'=x:=by intro c c' x x' F;unfold back at F;split at F;exact(bh F).2;exact(bh F).2;exact(bh F).2;let⟨_,x1,h1,X⟩:=aT F;rw[(bh X).2,(cN h1).2];simp[aw.aE]at F
  have xU:∀(cs cs':M C)(x x':St),(ri ks t cs).aE x=J (cs',x')->x'=x:=by
   intro cs;induction cs with
   |nil=>intro cs' x x' F;exact(bh F).2
   |cons c cs ih=>intro cs' x x' F;simp only[ri]at F;let⟨c1,x1,h1,he1⟩:=aT F;let⟨xQ,x2,h2,X⟩:=aT he1;grind [bh]
  have hb3:∀(vs vs':M (ay×M C))(x x':St),(sy ks t vs).aE x=J (vs',x')->x'=x:=by
   intro vs;induction vs with
   |nil=>intro cs' x x' F;exact(bh F).2
   |cons c cs ih=>intro cs' x x' F;let⟨b,c⟩:=c;simp only[sy]at F;let⟨c1,x1,h1,he1⟩:=aT F;let⟨xQ,x2,h2,X⟩:=aT he1;grind [bh]
  cases rx:r.v with
  |one c=>rw[rx]at f;simp only[lf]at f;let⟨c1,x1,h1,F⟩:=aT f;grind [bh]
  |agg c=>rw[rx]at f;simp only[lf]at f;let⟨c1,x1,h1,F⟩:=aT f;grind [bh]
  |bw c=>rw[rx]at f;simp only[lf]at f;let⟨c1,x1,h1,F⟩:=aT f;grind [bh]
  |undef=>grind [lf,aw.aE]
 rw[aiT]at f ⊢;let H:Nat->Prop:=λb=>w.heap.size<=b\/gv ks ω b≠O;have A:∀b,¬H b->w'.heap[b]?=w.heap[b]? :=λb B=>hR.frame b (by simp only[H,not_or]at B;show b<w.heap.size;omega) (by simp only[H,not_or]at B;exact B.2);have OW:∀b g,ω' b=J g->H b:=by intro b g B;by_cases hlt:b<w.heap.size;exact .inr ((hR.dV b g B).2.2 hlt);grind
 have hfz:∀b,Z' b->Z b\/H b:=by
  intro b B;rcases hR.ng b B with g|g|g|⟨i,j,e,ys,u0,G,R,g3,g3l⟩
  exact .inl g;exact .inr (.inl g);exact .inr (.inr g);left;have IF:(n.getD i .undef).cells[j]?=J (.d (.sl e ys)):=by grind [eV,Xp]
  rw[jH]at IF;cases Xt:n[i]? with|none=>grind [SV.cells]|some cv=>rw[Xt]at IF;let⟨u,q1,q2⟩:=hcan.aG Xt;let⟨x,q3,q4⟩:=(q2.1 K s a).cell IF;have hu:(cW K.P 1 w (ve us) (gM ks β) (gv ks ω) Z).argv.getD i undef=u:=(by show (ve us).getD i undef=u;simp[Hs,q1]);rw[hu,q3]at R;cases R;exact bA.live q4 g3 g3l
 have II:∀b g,ω b=J g->(∀k j,g=(.box k,j)->k ∉ ks)->¬H b:=by intro b g B hg;have hlt:=(h.dV b g B).2.1;grind [gv]
 have aiV:∀b,Z b->¬H b:=by
  intro b B;have hlt:=h.dp b B;simp only[H,not_or];refine⟨by omega,?_⟩;have:ω b=O:=by
   cases hω:ω b with|none=>rfl|some g=>exact cJ B (h.dV b g hω).1
  simp[gv,this]
 have Xu:∀b,b<K.base->¬K.E0 b->¬H b:=by
  intro b B hE;simp only[H,not_or];refine⟨by have:=h.base;omega,?_⟩;have:ω b=O:=by
   cases hω:ω b with|none=>rfl|some g=>exact cJ ((h.dV b g hω).2.2 B) hE
  simp[gv,this]
 let l:aD->Option Nat:=λk=>match k with|.cn t' i=>if t'=t/\i<(r.aI.drop ks.length).length then Y (.aC (ks.length+i))else β k|k=>β k
 have OX:∀i,i<(r.aI.drop ks.length).length->l (.cn t i)=Y (.aC (ks.length+i)):=λi E=>by grind
 have C4:∀k,(∀i,i<(r.aI.drop ks.length).length->k≠.cn t i)->l k=β k:=by grind
 have S:∀k b,β k=J b->l k=J b:=by intro k b B;rw[C4 k];exact B;rintro i E rfl;let⟨cs,_,g,_⟩:=OV i E;have:=h.aI (.cn t i);rw[g]at this;simp only[eh]at this;grind
 have hβks:∀(i:Nat)k,ks[i]?=J k->∃b,β k=J b/\Y (.aC i)=J b/\l k=J b:=by intro i k E;let⟨cs,hcs⟩:=aiQ i k E;let⟨b,ws,el,lo,hi',G,_⟩:=eh.cell h hcs;refine⟨b,G,hR.n5 (.aC i) b ?_,S k b G⟩;show gM ks β (.aC i)=J b;have:=rr (fG E) β;grind [ru]
 let N:Nat->Option cT:=λb=>if H b then tr ks t (ω' b)else ω b;have IJ:∀b,H b->N b=tr ks t (ω' b):=λb B=>by grind
 have OY:∀b,¬H b->N b=ω b:=λb B=>by grind
 have N6:∀q,gL (s q) (s2 q):=by intro q;by_cases h1:∃k∈ks,q=.box k;grind [nL,gL.bump,gL.refl];grind [gL.bump,gL.refl]
 have hsame:∀q,(s2 q).hv=(s q).hv->((∀k∈ks,q≠.box k)\/∃(i:Nat)(k:aD)(p:aD)(off:Nat)(cs:M C),ks[i]?=J k/\q=.box k/\s2 q=s q/\(s q).v=.agg [.aX p off]/\r.aI[i]?=J cs/\cs.map (bc ks)=[.aX p off]/\cs.all (ju ks.length)=W)/\(∀i,i<(r.aI.drop ks.length).length->q≠.box (.cn t i)):=by intro q hq;constructor;by_cases h1:∃k∈ks,q=.box k;obtain⟨k,hk,rfl⟩:=h1;let⟨i,E⟩:=nL hk;grind;grind;grind
 have IK:∀q j,(∀k∈ks,q≠.box k)->(∀i,i<(r.aI.drop ks.length).length->q≠.box (.cn t i))->cK K l a w' q j=cK K β a w q j:=by
  intro q j h1 h2;cases q with
  |tmp t'=>rfl|bP i=>rfl|box k=>
   simp only[cK];rw[C4 k (λi E e=>h2 i E (by rw[e]))];cases B:β k with
   |none=>rfl|some b=>
    simp only[Option.bind_some];refine cell_of_heap (A b ?_) _ _;have T:=h.aI k;cases hv:(s (.box k)).v with
    |agg cs=>let⟨b2,ws,el,lo,E,G,R,_⟩:=eh.cell h hv;grind
    |undef=>rw[hv]at T;simp only[eh]at T;grind|one c=>rw[hv]at T;exact aaY T|bw x=>rw[hv]at T;exact aaY T
 have aiW:∀b,¬H b->Z' b->Z b:=λb B hz=>(hfz b hz).resolve_right B;have aiX:∀(c:C)(u:aL),ju ks.length c=W->aS (cW K.P 1 w (ve us) (gM ks β) (gv ks ω) Z) Y Z' (eV n r) {tmps:=#[v],defers:=[]} w' c u->aS K l Z' s2 a w' (bc ks c) u:=by
  intro c u B z;cases c with
  |d x=>exact z|ak e xs=>exact z|aX k off=>
   cases k with
   |aC m=>have hm:m<ks.length:=(by simpa[ju]using B);let⟨b,G,R⟩:=z;let⟨b2,p1,p2,p3⟩:=hβks m _ (eD hm);rw[p2]at G;cases G;refine⟨b,?_,R⟩;rw[jH,eD hm];exact p3
   |_=>cases B
  |bN=>trivial|_=>cases B
 have hboxR:∀(i:Nat)(cs:M C)(kk:aD),r.aI[i]?=J cs->cs.all (ju ks.length)=W->l kk=Y (.aC i)->(if i<ks.length then ks.getD i default else .cn t (i-ks.length))=kk->(eh K l N Z' s2 a w' kk (.agg (cs.map (bc ks))))/\(∀(j e:Nat)(xs:M (M D))(u1:aL)(b1:Nat),(cs.map (bc ks))[j]?=J (.ak e xs)->cK K l a w' (.box kk) j=J u1->eG u1=J b1->N b1=J (.box kk,J j)/\mD w' e u1):=by
  intro i cs kk E hpl Xv hkk;have hex:(eV n r (.box (.aC i))).v=.agg cs:=by simp only[eV,E]
  let⟨b,ws,el,lo,hi',G,R,g3,g4,g5⟩:=eh.cell hR hex;have hdb:=OW b _ R;refine⟨⟨b,ws,el,lo,hi',by rw[Xv];exact G,by rw[IJ b hdb,R];simp only[tr,hkk],g3,g4,g5.IH λu c z hr=>aiX c u (Xj hpl z) hr⟩,?_⟩;intro j e xs u1 b1 z hh V;have z:cs[j]?=J (.ak e xs):=by
   rw[iH]at z;cases Xw:cs[j]? with
   |none=>rw[Xw]at z;cases z
   |some c0=>rw[Xw]at z;simp only[Option.map_some,Option.some.injEq]at z;rw[aiN z]
  have OZ:cK (cW K.P 1 w (ve us) (gM ks β) (gv ks ω) Z) Y {tmps:=#[v],defers:=[]} w' (.box (.aC i)) j=J u1:=by simp only[cK]at hh ⊢;rw[<-Xv];exact hh
  let⟨q1,q2⟩:=hR.ak (.box (.aC i)) j e xs u1 b1 rfl (by rw[hex];exact z) OZ V;have WV:=OW _ _ q1;exact⟨by rw[IJ _ WV,q1];simp only[tr,hkk],q2⟩
 have aiY:∀q j,(s2 q).hv=(s q).hv->(s2 q).at j≠.bN->cK K l a w' q j=cK K β a w q j:=by
  intro q j hq hd;let⟨G,R⟩:=hsame q hq;rcases G with G|⟨i,k,p,off,cs,E,rfl,e1,e2,e3,e4,e5⟩
  exact IK q j G R;have hil:i<ks.length:=(ik.1 E).1;let⟨b,p1,p2,p3⟩:=hβks i k E;have hB:=(hboxR i cs k e3 e5 (by rw[p2,p3]) (by rw[aF hil,jH,E];rfl)).1;rw[e4]at hB;let⟨b1,ws1,el1,lo1,hi1,a1,_,a3,_,a5⟩:=hB;let⟨b2,Ar,C5,C6,hi2,c1,_,c3,_,c5⟩:=eh.cell h e2;rw[nh a1 a3,nh c1 c3];have hj:j=0:=by
   cases j with|zero=>rfl|succ j=>exact cJ (by rw[e1];simp only[RV.at,e2,SV.cells];rfl) hd
  subst hj;let⟨u1,x1,y1⟩:=a5.aG (j:=0) rfl;let⟨u2,x2,y2⟩:=c5.aG (j:=0) rfl;rw[x1,x2];let⟨b3,z1,z2⟩:=y1;let⟨b4,z3,z4⟩:=y2;rw[S _ _ z3]at z1;cases z1;rw[z2,z4]
 have VV:∀(c:C)(u:aL),(∀(e:Nat)(xs:M (M D))(b1:Nat),c=.ak e xs->eG u=J b1->¬H b1)->aS K β Z s a w c u->aS K l Z' s2 a w' c u:=λc u ro h1=>aS.step S (λb B=>⟨A b (aiV b B),hR.lV b B⟩) N6 aiY (λe xs b1 h2 h3=>A _ (ro e xs b1 h2 h3)) h1;have Ib:∀(q:aO)(j:Nat)(c:C)(u:aL),(∀k∈ks,q≠.box k)->(s q).v.cells[j]?=J c->cK K β a w q j=J u->aS K β Z s a w c u->aS K l Z' s2 a w' c u:=by
  intro q j c u hq z hu;refine VV c u λe xs b1 h1 h2=>?_;subst h1;by_cases qe:q.isArg=W;cases q with
  |bP i=>let⟨G,R⟩:=h.iL i j e xs u b1 z hu h2;exact Xu _ G R
  |tmp t=>simp[aO.isArg]at qe|box k=>simp[aO.isArg]at qe
  exact II _ _ (h.ak q j e xs u b1 (by simpa using qe) z hu h2).1 λk' j' e' hk'=>hq k' hk' (by cases e';rfl)
 have hs2v:∀q,(∀k∈ks,q≠.box k)->(∀i,i<(r.aI.drop ks.length).length->q≠.box (.cn t i))->(s2 q).v=(s q).v:=λq h1 h2=>by rw[aiS q h1 h2]
 have Xx:aZ K l N Z' s2 a w':=by
  refine⟨h.size,h.defers,aav hR.os h.os,aav hR.tape h.tape,aav hR.output h.output,Nat.le_trans h.base hR.base,?_,hR.dp,λb B=>hR.lV b (h.lV b B),?_,?_,?_,?_,?_,?_,?_,λk b B=>S k b (h.n5 k b B)⟩;intro b B hE;rw[A b (Xu b B hE)];exact h.frame b B hE;intro b B;rcases hfz b B with g|g
  rcases h.ng b g with q|q|q|⟨i,j',e',ys',u',q1,q2,q3⟩
  exact .inl q;exact .inr (.inl q);exact .inr (.inr (.inl q));exact .inr (.inr (.inr ⟨i,j',e',ys',u',by rw[hs2v _ (by simp) (by simp)];exact q1,q2,q3⟩));rcases g with g|g
  exact .inr (.inl (Nat.le_trans h.base g));by_cases xU:b<K.base;right;right;left;cases hω:ω b with|none=>simp[gv,hω]at g|some g'=>exact(h.dV b g' hω).2.2 xU
  omega;intro t';rw[hs2v _ (by simp) (by simp)];exact bQ.nZ (λj c u z hu=>Ib (.tmp t') j c u (by simp) z hu) (h.tmps t');intro i;rw[hs2v _ (by simp) (by simp)];exact bQ.nZ (λj c u z hu=>Ib (.bP i) j c u (by simp) z hu) (h.args i);intro k;by_cases h1:k∈ks;let⟨i,E⟩:=nL h1;let⟨cs,G,R,_,_,g3⟩:=Xr i k E;let⟨b,p1,p2,p3⟩:=hβks i k E;rw[R];refine(hboxR i cs k G g3 (by rw[p2,p3]) ?_).1;have hil:i<ks.length:=(ik.1 E).1;rw[aF hil,jH,E];rfl;by_cases h2:∃i,i<(r.aI.drop ks.length).length/\k=.cn t i;obtain⟨i,E,rfl⟩:=h2;let⟨cs,G,_,R,_,_,g3⟩:=OV i E;rw[R];have hh:=(hboxR (ks.length+i) cs (.cn t i) G (Xn g3) (OX i E) (by rw[aU (by omega),Nat.add_sub_cancel_left])).1;rw[Xm g3]at hh;exact hh;have xV:∀k'∈ks,aO.box k≠.box k':=λk' hk' e=>h1 (by cases e;exact hk');have hn2:∀i,i<(r.aI.drop ks.length).length->aO.box k≠.box (.cn t i):=λi E e=>h2 ⟨i,E,by cases e;rfl⟩;rw[hs2v _ xV hn2];have T:=h.aI k;cases hv:(s (.box k)).v with
  |agg cs=>let⟨b,ws,el,lo,E,G,R,g3,g4,g5⟩:=eh.cell h hv;have hdb:¬H b:=II b _ R λk' j' e hk'=>h1 (by cases e;exact hk');refine⟨b,ws,el,lo,E,S k b G,by rw[OY b hdb];exact R,by rw[A b hdb];exact g3,g4,aR.dU g5.length λj u c hu z=>?_⟩;let⟨u',q1,q2⟩:=g5.aG z;rw[hu]at q1;cases q1;exact Ib (.box k) j c u xV (by rw[hv];exact z) (by rw[nh G g3];exact hu) q2
  |undef=>rw[hv]at T;show l k=O;rw[C4 k (λi E e=>h2 ⟨i,E,e⟩)];exact T|one c=>rw[hv]at T;exact aaY T|bw x=>rw[hv]at T;exact aaY T
  intro q j e xs u1 b1 hq z hh V;by_cases h1:∃k∈ks,q=.box k;obtain⟨k,hk,rfl⟩:=h1;let⟨i,E⟩:=nL hk;let⟨cs,G,R,_,_,g3⟩:=Xr i k E;let⟨b,p1,p2,p3⟩:=hβks i k E;rw[R]at z;refine(hboxR i cs k G g3 (by rw[p2,p3]) ?_).2 j e xs u1 b1 z hh V;have hil:i<ks.length:=(ik.1 E).1;rw[aF hil,jH,E];rfl;by_cases h2:∃i,i<(r.aI.drop ks.length).length/\q=.box (.cn t i);obtain⟨i,E,rfl⟩:=h2;let⟨cs,G,_,R,_,_,g3⟩:=OV i E;rw[R]at z;exact(hboxR (ks.length+i) cs (.cn t i) G (Xn g3) (OX i E) (by rw[aU (by omega),Nat.add_sub_cancel_left])).2 j e xs u1 b1 (by rw[Xm g3];exact z) hh V;have xV:∀k'∈ks,q≠.box k':=λk' hk' e=>h1 ⟨k',hk',e⟩;have hn2:∀i,i<(r.aI.drop ks.length).length->q≠.box (.cn t i):=λi E e=>h2 ⟨i,E,e⟩;rw[hs2v _ xV hn2]at z;rw[IK q j xV hn2]at hh;let⟨G,R⟩:=h.ak q j e xs u1 b1 hq z hh V;have hdb:¬H b1:=II _ _ G λk' j' e' hk'=>xV k' hk' (by cases e';rfl);exact⟨by rw[OY _ hdb];exact G,R.mono V (A _ hdb)⟩;intro i j e xs u1 b1 z hh V;rw[hs2v _ (by simp) (by simp)]at z;exact h.iL i j e xs u1 b1 z hh V;intro b g B;by_cases hd:H b;rw[IJ b hd]at B;cases hω:ω' b with
  |none=>rw[hω]at B;simp[tr]at B|some g'=>
   let⟨q1,q2,q3⟩:=hR.dV b g' hω;refine⟨q1,q2,λhbase=>?_⟩;have hlt:b<w.heap.size:=Nat.lt_of_lt_of_le hbase h.base;have hne:gv ks ω b≠O:=q3 hlt;cases Im:ω b with|none=>simp[gv,Im]at hne|some g0=>exact(h.dV b g0 Im).2.2 hbase
  rw[OY b hd]at B;let⟨q1,q2,q3⟩:=h.dV b g B;exact⟨λhz=>q1 (aiW b hd hz),Nat.lt_of_lt_of_le q2 hR.base,q3⟩
 refine⟨l,N,Xx,?_⟩;have lm:bQ (aS (cW K.P 1 w (ve us) (gM ks β) (gv ks ω) Z) Y Z' (eV n r) {tmps:=#[v],defers:=[]} w') v r.v:=hR.tmps 0;have aiZ:∀(j e:Nat)(xs:M (M D))(u1:aL)(b1:Nat),r.v.cells[j]?=J (.ak e xs)->(ey v)[j]?=J u1->eG u1=J b1->N b1=J (.tmp t,J j)/\mD w' e u1/\H b1:=by intro j e xs u1 b1 z hh V;let⟨q1,q2⟩:=hR.ak (.tmp 0) j e xs u1 b1 rfl z hh V;have hd:=OW _ _ q1;exact⟨by rw[IJ _ hd,q1];rfl,q2,hd⟩
 have hfree:∀(j:Nat)(b:Nat),N b=J (.tmp t,J j)->H b->lg K l s2 a w' b:=by intro j b hω hd q j' e' xs' u' b' hq z hh V B;have g:=(Xx.ak q j' e' xs' u' b' hq z hh V).1;rw[B,hω]at g;simp only[Option.some.injEq,gH]at g;obtain⟨rfl,rfl⟩:=g;rw[hs2v _ (by simp) (by simp)]at z;rw[IK _ _ (by simp) (by simp)]at hh;have R:=(h.ak (.tmp t) j e' xs' u' b' rfl z hh V).1;exact II _ _ R (by intro k j e;cases e) (by rw[B];exact hd)
 have Xy:∀(c c':C)(x:aL)(q q':St),(back ks t c).aE q=J (c',q')->aS (cW K.P 1 w (ve us) (gM ks β) (gv ks ω) Z) Y Z' (eV n r) {tmps:=#[v],defers:=[]} w' c x->aS K l Z' s2 a w' c' x/\(∀e xs,c'=.ak e xs->c=.ak e xs):=by
  intro c c' x q q' F z;unfold back at F;split at F;obtain⟨rfl,_⟩:=bh F;exact⟨z,by simp⟩;obtain⟨rfl,_⟩:=bh F;exact⟨z,by simp⟩;rename_i i off;obtain⟨rfl,_⟩:=bh F;let⟨b,G,R⟩:=z;refine⟨⟨b,?_,R⟩,by simp⟩;simp only[NS];split;rename_i E;have hki:=eD E;let⟨b2,p1,p2,p3⟩:=hβks i _ hki;rw[jH,hki];rw[p2]at G;cases G;exact p3;rename_i E;have T:=hR.aI (.aC i);cases Xz:r.aI[i]? with
  |none=>have:(eV n r (.box (.aC i))).v=.undef:=(by simp only[eV,Xz]);rw[this]at T;simp only[eh]at T;rw[T]at G;cases G
  |some cs=>have hil:=(ik.1 Xz).1;rw[OX (i-ks.length) (by simp;omega),show ks.length+(i-ks.length)=i by omega];exact G
  let⟨_,x1,h1,X⟩:=aT F;let⟨hcap,_⟩:=cN h1;obtain⟨rfl,_⟩:=bh X;rw[hcap]at z;let⟨vs,G,R⟩:=z;exact⟨⟨vs,G,by cases hvs:vs.toList with|nil=>trivial|cons _ _=>rw[hvs]at R;exact aaY R⟩,by simp⟩
  simp[aw.aE]at F
 have XA:∀(cs:M C)(xs:M aL)(cs':M C)(q q':St),(ri ks t cs).aE q=J (cs',q')->aR (λu c=>aS (cW K.P 1 w (ve us) (gM ks β) (gv ks ω) Z) Y Z' (eV n r) {tmps:=#[v],defers:=[]} w' c u) xs cs->aR (λu c=>aS K l Z' s2 a w' c u) xs cs'/\(∀(j e:Nat)ys,cs'[j]?=J (.ak e ys)->cs[j]?=J (.ak e ys)):=by
  intro cs;induction cs with
  |nil=>
   intro xs cs' q q' F o;obtain⟨rfl,_⟩:=bh F;cases xs with|nil=>exact⟨trivial,by simp⟩|cons _ _=>exact aaY o
  |cons c cs ih=>
   intro xs cs' q q' F o;cases xs with
   |nil=>exact aaY o|cons x xs=>
    simp only[ri]at F;let⟨c1,x1,h1,he1⟩:=aT F;let⟨xQ,x2,h2,X⟩:=aT he1;obtain⟨rfl,_⟩:=bh X;let⟨p1,p2⟩:=Xy _ _ _ _ _ h1 o.1;let⟨q1,q2⟩:=ih xs xQ _ _ h2 o.2;refine⟨⟨p1,q1⟩,λj e ys hj=>?_⟩;cases j with|zero=>simp only[ij,Option.some.injEq]at hj ⊢;exact p2 e ys hj|succ j=>simpa using q2 j e ys (by simpa using hj)
 have fin:∀v',bQ (aS K l Z' s2 a w') v v'->(∀(j e:Nat)ys,v'.cells[j]?=J (.ak e ys)->r.v.cells[j]?=J (.ak e ys))->jh K l N Z' s2 a w' (.tmp t) v v':=by intro v' h1 h2;refine⟨h1,λj c x z hx=>?_⟩;let⟨x',G,R⟩:=h1.cell z;rw[hx]at G;cases G;refine⟨R,λe xs b q1 q2=>?_⟩;subst q1;let⟨p1,p2,p3⟩:=aiZ j e xs x b (h2 j e xs z) hx q2;exact⟨p1,p2,hfree j b p1 p3⟩
 cases rx:r.v with
 |one c=>
  rw[rx]at f lm;simp only[lf]at f;let⟨c1,x1,h1,F⟩:=aT f;obtain⟨rfl,_⟩:=bh F;let⟨p1,p2⟩:=Xy _ _ _ _ _ h1 lm.2;refine fin _ ⟨lm.1,p1⟩ λj e ys hj=>?_;rw[rx];cases j with|zero=>simp only[SV.cells,ij,Option.some.injEq]at hj ⊢;exact p2 e ys hj|succ j=>simp[SV.cells]at hj
 |agg cs=>rw[rx]at f lm;simp only[lf]at f;let⟨c1,x1,h1,F⟩:=aT f;obtain⟨rfl,_⟩:=bh F;let⟨ws,Aw,o⟩:=lm;let⟨p1,p2⟩:=XA _ _ _ _ _ h1 o;exact fin _ ⟨ws,Aw,p1⟩ λj e ys hj=>by rw[rx];exact p2 j e ys hj
 |bw vs=>
  rw[rx]at f lm;simp only[lf]at f;let⟨c1,x1,h1,F⟩:=aT f;obtain⟨rfl,_⟩:=bh F;let⟨ws,Aw,o⟩:=lm;have key:∀(vs:M (ay×M C))(xs:M aL)(vs':M (ay×M C))(q q':St),(sy ks t vs).aE q=J (vs',q')->aR (eB (aS (cW K.P 1 w (ve us) (gM ks β) (gv ks ω) Z) Y Z' (eV n r) {tmps:=#[v],defers:=[]} w')) xs vs->aR (eB (aS K l Z' s2 a w')) xs vs'/\(vs'.map (·.2.length)=vs.map (·.2.length))/\(∀(j e:Nat)ys,(vs'.flatMap (·.2))[j]?=J (.ak e ys)->(vs.flatMap (·.2))[j]?=J (.ak e ys)):=by
   intro vs;induction vs with
   |nil=>
    intro xs vs' q q' F o;obtain⟨rfl,_⟩:=bh F;cases xs with|nil=>exact⟨trivial,rfl,by simp⟩|cons _ _=>exact aaY o
   |cons x vs ih=>
    let⟨b,cs⟩:=x;intro xs vs' q q' F o;cases xs with
    |nil=>exact aaY o|cons x xs=>
     simp only[sy]at F;let⟨c1,x1,h1,he1⟩:=aT F;let⟨xQ,x2,h2,X⟩:=aT he1;obtain⟨rfl,_⟩:=bh X;let⟨q1,q2,q3⟩:=ih xs xQ _ _ h2 o.2;have hfl:=eB.ey o.1;let⟨p1,p2⟩:=XA cs x.cells.toList c1 _ _ h1 hfl;have hl:c1.length=cs.length:=(by rw[<-p1.length,hfl.length]);refine⟨⟨?_,q1⟩,by simp[q2,hl],λj e ys hj=>?_⟩;have h3:=o.1;unfold eB at h3 ⊢;cases b with
     |true=>simp only[bH]at h3 ⊢;obtain⟨ws,rfl,_⟩:=h3;exact⟨ws,rfl,p1⟩
     |false=>
      simp only[bM,ca]at h3 ⊢;let⟨c,G,R,_⟩:=h3;rw[lT R]at p1;match c1,p1 with|[d],p1=>exact⟨d,rfl,R,p1.1⟩
     simp only[kK]at hj ⊢;by_cases hjl:j<c1.length;rw[pO hjl]at hj;rw[pO (by omega)];exact p2 j e ys hj;rw[CF (by omega)]at hj;rw[CF (by omega),<-hl];exact q3 _ e ys hj
  let⟨p1,_,p2⟩:=key _ _ _ _ _ h1 o;exact fin _ ⟨ws,Aw,p1⟩ λj e ys hj=>by rw[rx];exact p2 j e ys hj
 |undef=>simp_all [lf,aw.aE]
end
section
variable{K:de}{β:aD->Option Nat}{ω:Nat->Option cT}{Z:Nat->Prop}{s:St}{a:Act}{w:World}{af:bO}
def XB{e:Nat}(h:fN e=W):cf e=W:=by have:=Nat.le_of_ble_eq_true h;exact Nat.ble_eq_true_of_le (by omega)
def ai0(hT:ib K.P af)(h:aZ K β ω Z s a w){t:bv}{x:cD}{dst:Nat}{o:cR}(D:o.op=.range t x){v:SV}{s':St}(u:(cq af o.op dst).aE s=J (v,s')):cQ K s' a dst ((execOp a.eval o).run K.P w) v:=by
 rw[D]at u;simp only[cq]at u;let⟨c,s1,h1,f⟩:=aT u;let⟨y,o1,V,E⟩:=gs h h1;rw[y]at f;unfold H1 at f;split at f;rename_i kt ki ei X;let⟨et,Y,hki,OB,sD,xU⟩:=uT hT X;let⟨d,s2,h2,k⟩:=aT f;let⟨Il,q,F,k1,hd⟩:=Dd h V h2;split at k;rename_i e xs;let⟨_,s3,h3,z⟩:=aT k;let⟨A,B⟩:=cN h3;let⟨hv,C⟩:=bh z;subst hv;subst C;subst B;have l:cf e=W:=by rw[A];exact Iq
 have r:fN e=I:=by grind [xS]
 have m:hV e=I:=by grind [uS]
 let⟨b,G,H,N⟩:=(bA.nY l).1 hd;rw[o9 r]at G;let⟨es,cu,g1,g2,g3⟩:=(eg.mp r m).1 N;have i:cu=xs.length:=by rw[g2.cu,qf g3]
 let⟨r2,k2,f2,g4⟩:=F.newObj (.mapIter (J b) cu #[] cu) (.tmp dst,J 0);have g:∀b',q b'->(w.alloc (.mapIter (J b) cu #[] cu)).heap[b']?=w.heap[b']? /\q b':=λb' n=>by have:=F.dp b' n;refine⟨?_,n⟩;show(w.heap.push _)[b']?=_;grind
 have p:∀(s:St),aS K β q s a (w.alloc (.mapIter (J b) cu #[] cu)) (.ak nS [[.sl e xs],[]]) (.pointer (J ⟨w.heap.size,0,O⟩)):=λs=>(aS.ku (e:=nS) rfl).2 ⟨w.heap.size,(NW rfl _).symm,(eg.it (e:=nS) rfl).2 ⟨b,cu, #[],cu,g4,⟨(bA.nY l).2 ⟨b,(o9 r _).symm,H,eg.mono g e xs b (g b H).1 N⟩,trivial⟩,e,xs,rfl,l,r,m,i,i,rfl⟩⟩;refine⟨.pointer (J ⟨w.heap.size,0,O⟩),w.alloc (.mapIter (J b) cu #[] cu),β,_,q,?_,r2,⟨rfl,p _⟩,?_⟩;simp only[execOp,D,Instr.range,G,dB,kZ Y,dE,qg g1,fF];rfl;intro j c x R S;have hj:j=0:=by grind [SV.cells]
 subst hj;simp only[SV.cells,ij,Option.some.injEq]at R;simp only[ey,ij,Option.some.injEq]at S;subst R;subst S;refine⟨p _,λe' xs b q1 T=>?_⟩;cases q1;simp only[eG,Option.some.injEq]at T;subst T;exact⟨by simp,trivial,f2⟩;simp[aw.aE]at k;simp[aw.aE]at f
def XC(h:aZ K β ω Z s a w){r:aO}{j hv cv e k:Nat}{l:M (M D)}{u:aL}(n:aS K β Z s a w (.bm r j hv cv e k l) u)(o:(s r).hv=hv)(p:r.isArg=I)(hi:fN e=W) {v em:Nat}{xs:M (M D)}{seen:M D}(c:(s r).at j=.ak v [[.sl em xs],seen]):
  v=e/\∃b m es cu sn,u=.pointer (J ⟨b,0,O⟩)/\cK K β a w r j=J (gK e b)/\w.heap[b]?=J (.mapIter (J m) (Y xs) sn (Y xs))/\w.heap[m]?=J (.map es cu)/\
   cu=Y xs/\jY em cu es.toList/\fO w Z xs es.toList/\seen=lP sn.toList.reverse/\cf em=W/\fN em=I/\hV em=I/\bA w Z (.sl em xs) (.map (J m))/\¬Z b:=by
 have d:=XB hi
 let⟨b,E,_,_,F⟩:=(aS.rl d).1 n
 let⟨f1,ys,f2,_⟩:=F o (xK c)
 rw[c]at f2
 rcases f2 with f2|f2<;>cases f2
 let⟨S,x,y⟩:=h.H7 d c
 rw[f1,Option.some.injEq]at x
 rw[CZ x.symm]at y
 let⟨m,since,sn,f,G,H,T,ys,N,z,q,g,P,R,V⟩:=(eg.it hi).1 y
 cases N
 let⟨hd,_⟩:=H
 let⟨X,A,_,t⟩:=(bA.nY z).1 hd
 rw[o9 q]at A
 cases A
 let⟨es,cu,t,B,C⟩:=(eg.mp q g).1 t
 have i:cu=Y xs:=by rw[B.cu,qf C]
 subst P;subst R
 refine⟨rfl,b,m,es,cu,sn,by rw[E,NW hi],f1,G,t,i,B,C,by grind,z,q,g,hd,?_⟩
 exact(h.dV _ _ (h.ak r j _ _ _ b p (iY c (by simp)) f1 (lS ..)).1).1
def XD{em:Nat}{bG:M D}{en:MapEntry}(hk:qa em en)(b:jZ w Z bG (pa en)):aR (eB (aS K β Z s a w)) [en.key,en.val] (pZ em bG):=by unfold qa at hk;unfold pZ;generalize xq em=e at hk ⊢;generalize uA em=f at hk ⊢;generalize xt em=g at hk ⊢;generalize HO em=h at hk ⊢;let⟨k1,k2⟩:=hk;let⟨c,d⟩:=Au k1 b;exact⟨Iy k1 c,Iy k2 d,trivial⟩
def XE{em:Nat}{bG:M D}{c:C}(a:c∈(pZ em bG).flatMap (·.2)):cP c:=by simp only[pZ,kK,List.flatMap_nil,List.append_nil,mm,mq]at a;rcases a with⟨d,_,rfl⟩|⟨d,_,rfl⟩<;>simp[cP]
theorem ai1(h:aZ K β ω Z s a w){dst:Nat}{r:Result Next}(b:r=.ok (.value (.tuple #[.bool I])) w):cQ K s a dst r (.bw [(I,[.d (.bool I)])]):=cQ.same h b ⟨#[.bool I],rfl,⟨_,rfl,rfl,rfl⟩,trivial⟩ (by simp[SV.cells,cP])
def ai2{α:Type}{p:Prop}[Decidable p](a:p){f:bY->aw α}{s:St}:(bU p >>= f).aE s=(f ()).aE s:=by unfold bU;rw[aF a];rfl
def ai3{l m:M Nat}(h:lP l=lP m):l=m:=by
 unfold lP at h;induction l generalizing m with
 |nil=>simp_all|cons a l c=>
  cases m with|nil=>simp at h|cons b m=>grind
def IL(h:aZ K β ω Z s a w){x:cD}{dst:Nat}{o:cR}(ho:o.op=.next x I){r:aO}{j hv cv e k:Nat}{R:M (M D)}{s1:St}(h1:(dZ x).aE s=J (.bm r j hv cv e k R,s1)) (S:(s r).hv=hv)(z:r.isArg=I)(hi:fN e=W){T em:Nat}{xs:M (M D)}{sn:M Nat}(A:(s r).at j=.ak T [[.sl em xs],lP sn]):
  ((∀i,i<xs.length->i∈sn)/\cQ K s a dst ((execOp a.eval o).run K.P w) (.bw [(I,[.d (.bool I)])]))\/
    ∃i,i<xs.length/\i ∉ sn/\cQ K (s.set r {(s r)with cv:=(s r).cv+1,v:=(s r).v.setCell j (.ak T [[.sl em xs],lP (i::sn)])}) a dst ((execOp a.eval o).run K.P w) (.bw ((I,[.d (.bool W)])::pZ em (xs.getD i []))):=by
 obtain⟨hs1,o1,r1,Iz⟩:=gs h h1
 have V:∀{u:aL}{w':World},(Instr.next (a.eval x) I o.type).run K.P w=.ok u w'->(execOp a.eval o).run K.P w=.ok (.value u) w':=by simp_all [execOp]
 obtain⟨X,b,m,es,cu,f,e1,f1,p1,p2,p3,H,p5,p6,p7,p8,Y,p9,hnz⟩:=XC h r1 S z hi A
 subst X
 have B:=ai3 p6
 have C:xs.length=es.toList.length:=qf p5
 have hold:∀x∈es.toList,x.born<xs.length:=by intro y hy;obtain⟨i,hi⟩:=Vi.1 hy;rw[H.born i y hi,C];grind
 rcases run_next_at (P:=K.P) w o.type b m _ _ f es cu p1 p2 hold (Nat.le_refl _)with⟨q,hrun⟩|⟨en,q1,E,q2,q3⟩
 left
 refine⟨λi hi=>?_,?_⟩
 have l:i<es.toList.length:=by omega
 have n:leftOf es f=#[]:=Array.eq_empty_of_size_eq_zero q
 unfold leftOf at n
 rw[Array.filter_eq_empty_iff]at n
 have hy:=n es.toList[i] (by simp)
 simp only[Bool.not_eq_true,Bool.not_eq_false',Bool.not_eq_eq_eq_not,Bool.not_true,Bool.not_false]at hy
 rw[H.born i _ (eD l)]at hy
 rw[B]
 simpa using hy
 grind [ai1]
 right
 simp only[leftOf,agL,Array.mem_filter,lL,Array.contains_iff_mem]at q1
 obtain⟨i,p⟩:=Vi.1 (agL.2 q1.1)
 have hb:=H.born i en p
 have l:i<xs.length:=by grind
 obtain⟨bG,g1,g2⟩:=rq p5 p
 refine⟨i,l,?_,?_⟩
 grind
 have hR1:aZ K β ω Z s a E/\E.heap=w.heap:=by
   rcases q2 with rfl|rfl
   exact⟨h,rfl⟩;exact⟨h.drew.1,rfl⟩
 obtain⟨R1,F⟩:=hR1
 obtain⟨g,t⟩:=Ix (w:=E) (o':=.mapIter (J m) xs.length (f.push en.born) cu) (by rw[F];exact p1)
 have hZ:∀b',Z b'->(ChangeMaps.setBlock E b (.mapIter (J m) xs.length (f.push en.born) cu)).heap[b']?=w.heap[b']? /\Z b':=λb' G=>
  ⟨by rw[<-F];exact g.other b' (λe=>hnz (e▸G)),G⟩
 have hf1:cK K β a E r j=J (gK T b):=by simp_all [cK,World.cell?]
 have hR2:=R1.N9 (XB hi) A z hf1 g (ys':=[[.sl em xs],lP (i::sn)]) ((eg.it hi).2 ⟨m,_,_,_,t,⟨bA.mono hZ _ _ p9,trivial⟩,em,xs,rfl,p7,p8,Y,rfl,p3,by simp[hb,B,lP]⟩)
 refine⟨_,_,β,ω,Z,V (by rw[e1];exact q3),hR2,jh.Db ⟨#[.bool W,en.key,en.val],rfl,⟨_,rfl,rfl,rfl⟩,?_⟩ ?_⟩
 rw[kP g1]
 exact XD (H.ok en (fG p)) (jZ.mono hZ _ _ g2)
 intro c N
 simp only[SV.cells,kK,mm,js]at N
 rcases N with rfl|N
 simp[cP]
 exact XE N
def ai4(h:aZ K β ω Z s a w){x:cD}{dst:Nat}{o:cR}(u:o.op=.next x I){v:SV}{s':St}(y:(cq af o.op dst).aE s=J (v,s')):cQ K s' a dst ((execOp a.eval o).run K.P w) v:=by
 rw[u]at y;simp only[cq]at y;let⟨c,R,h1,d⟩:=aT y;let⟨z,S,T,D⟩:=gs h h1;rw[z]at d;unfold VC at d;split at d;rename_i r j hv cv e k H;simp only[aw.aE]at d;let⟨_,V,h3,f⟩:=aT d;let⟨⟨n,p,A⟩,B⟩:=cN h3;rw[B]at f;split at f;rename_i E em g;let⟨_,F,m,b⟩:=aT f;let⟨_,t⟩:=cN m;rw[t]at b;obtain⟨rfl,rfl⟩:=bh b;rcases IL (sn:=[]) h u h1 n p A g with⟨_,q⟩|⟨i,l,_⟩
 exact q;simp at l;rename_i E em bG g;let⟨_,F,m,b⟩:=aT f;simp only[eo,aw.aE,Option.some.injEq,gH]at m;let⟨_,m⟩:=m;let⟨hv,C⟩:=bh b;subst hv;subst C;subst m;rcases IL (sn:=[]) h u h1 n p A g with⟨G,_⟩|⟨i,l,_,q⟩
 simp_all;have:i=0:=by simp at l;omega
 subst this;exact q;rename_i E em bG g;let⟨_,F,m,b⟩:=aT f;let⟨_,t⟩:=cN m;rw[t]at b;obtain⟨rfl,rfl⟩:=bh b;rcases IL (sn:=[0]) h u h1 n p A g with⟨_,q⟩|⟨i,l,N,_⟩
 exact q;grind;simp[aw.aE]at f;simp[aw.aE]at d
def ai5(h:aZ K β ω Z s a w){x:cD}{dst:Nat}{o:cR}(V:o.op=.entry x){v:SV}{s':St}(A:(cq af o.op dst).aE s=J (v,s')):cQ K s' a dst ((execOp a.eval o).run K.P w) v:=by
 rw[V]at A;simp only[cq]at A;let⟨c,s1,h1,d⟩:=aT A;let⟨B,o1,X,N⟩:=gs h h1;rw[B]at d;unfold H3 at d;split at d;rename_i r j hv cv e k Y;simp only[aw.aE]at d;let⟨_,s3,h3,g⟩:=aT d;let⟨⟨C,D,E⟩,F⟩:=cN h3;rw[F]at g;split at g;rename_i e' em xs n rest G;let⟨_,s4,h4,p⟩:=aT g;let⟨⟨hn0,xV⟩,H⟩:=cN h4;rw[H]at p;obtain⟨rfl,rfl⟩:=bh p;let⟨_,b,m,es,cu,R,e1,f1,p1,p2,p3,z,S,p6,_⟩:=XC h X C D E G;have T:xs.length=es.toList.length:=qf S;obtain⟨en,f⟩:∃en,es.toList[n.toNat]?=J en:=⟨_,eD (by omega)⟩;let⟨bG,g1,g2⟩:=rq S f;have hb:=z.born _ _ f;obtain⟨q,t⟩:∃q:bZ Nat,R=q.push en.born:=by
  let⟨l⟩:=R;rcases List.eq_nil_or_concat l with rfl|⟨l0,y,rfl⟩
  simp[lP]at p6;refine⟨⟨l0⟩,?_⟩;simp_all [lP]
 rw[t,<-p3]at p1;refine cQ.same h (u:=.tuple #[en.key,en.val]) ?_ ⟨_,rfl,by rw[kP g1];exact XD (z.ok en (fG f)) g2⟩ λc hc=>XE hc;have hnd:(es.toList.map (·.born)).Nodup:=by rw[List.nodup_iff_pairwise_ne,List.pairwise_map,List.pairwise_iff_getElem];intro i j E hj hij;rw[z.born i _ (eD E),z.born j _ (eD hj)];omega
 grind [run_entry_at,execOp,dB,dE,fF];simp[aw.aE]at g;simp[aw.aE]at d
end
noncomputable section
def XF(R:M aO)(s s':St):Prop:=∀r∈R,s r=s' r
def xW{α:Type}(p:aw α):∀(s s':St)(a:α)(t:St),p.aE s=J (a,t)->XF (p.dk s).1 s s'->∃d,p.aE s'=J (a,d)/\p.dk s'=p.dk s/\(∀r∈(p.dk s).2,d r=t r)/\(∀r,r ∉ (p.dk s).2->d r=s' r/\t r=s r):=by
 induction p with
 |ret a=>simp_all [aw.aE,aw.dk]|ai=>simp_all [aw.aE]|aG r k e=>intro s s' a t h b;simp only[aw.aE]at h;have i:s r=s' r:=b r (by simp[aw.dk]);let⟨d,h1,h2,h3,g⟩:=e (s r) s s' a t h (λq f=>b q (by simp[aw.dk,f]));simp_all [aw.aE,aw.dk]
 |put r x k e=>intro s s' a t h b;simp only[aw.aE]at h;let⟨d,h1,h2,h3,g⟩:=e (s.set r x) (s'.set r x) a t h (λq f=>by by_cases c:q=r;subst c;simp[lN];rw[lO _ _ c,lO _ _ c];exact b q (by simp[aw.dk,f]));grind [aw.aE,aw.dk,lN,lO]
def indep(f g:M aO×M aO):ay:=f.2.all (λr=> !aa1 g.1 r&& !aa1 g.2 r)&&g.2.all (λr=> !aa1 f.1 r)
def ai6{f g:M aO×M aO}(h:indep f g=W):(∀r∈f.2,r ∉ g.1/\r ∉ g.2)/\(∀r∈g.2,r ∉ f.1):=by grind [indep]
def ai7{α β:Type}{p:aw α}{q:aw β}{s c s2:St}{a:α}{b:β}(h:p.aE s=J (a,c))(i:q.aE c=J (b,s2)) (hi:indep (p.dk s) (q.dk c)=W):∃t1,q.aE s=J (b,t1)/\p.aE t1=J (a,s2)/\q.dk s=q.dk c/\p.dk t1=p.dk s:=by
 let⟨h1,h2⟩:=ai6 hi;have j:=xW p s s a c h (λ_ _=>rfl);have f:∀r,r ∉ (p.dk s).2->c r=s r:=λr d=>by grind
 have k:∀r,r ∉ (q.dk c).2->s2 r=c r:=λr d=>by let⟨o,e,_,_,l⟩:=xW q c c b s2 i (λ_ _=>rfl);exact(l r d).2
 let⟨t1,m,f1,t,k1⟩:=xW q c s b s2 i (λr d=>f r (λg=>(h1 r g).1 d));let⟨t2,n,f2,u,k2⟩:=xW p s t1 a c h (λr d=>((k1 r (λg=>h2 r g d)).1).symm);refine⟨t1,m,?_,f1,f2⟩;rw[n];congr 2;funext r;by_cases v:r∈(p.dk s).2;grind;grind
def XG(o o':Oper):Q (U×U×U):=
 match o with
 | {op:=.lookup t (.tmp a) (.tmp b) I,dst:=J _,guard:=O, ..}=>match o' with| {op:=.mapEntry c (.tmp d) (.tmp e),dst:=J f,guard:=O, ..}=>if t=c/\a=d/\b=e then J (a,b,f)else O|_=>O
 |_=>O
def IM(ops:Array Oper)(i j:U)(f g:M aO×M aO):ay:=
 match ops[i]?,ops[j]? with
 |some o,J c=>match XG o c with|some (a,b,d)=>f.2.all (λr=> !aa1 g.1 r&& !aa1 g.2 r)&&(!aa1 g.2 (.tmp a)&&(!aa1 g.2 (.tmp b)&& !aa1 f.1 (.tmp d)))|none=>I
 |_,_=>I
def IP{o:cD}{s s':St}{v:SV}(h:(ev o).aE s=J (v,s')):s'=s:=by
 cases o with
 |tmp t=>simp only[ev,aw.aE]at h;split at h;cases h;exact(bh h).2
 |const v=>simp only[ev]at h;split at h;split at h;exact(bh h).2;cases h;split at h;exact(bh h).2;cases h
 |func f=>exact(bh h).2|global g=>cases h
def IQ{α d:Type}(p:aw α)(f:α->aw d):∀{s b:St}{x:α},p.aE s=J (x,b)->(p.bind f).dk s=((p.dk s).1++((f x).dk b).1,(p.dk s).2++((f x).dk b).2):=by
 induction p with
 |ret a=>intro s b x h;simp only[aw.aE,nP,gH]at h;obtain⟨rfl,rfl⟩:=h;rfl
 |ai=>intro s b x h;cases h
 |aG r k c=>intro s b x h;simp only[aw.bind,aw.dk];rw[c _ h];rfl
 |put r y k c=>intro s b x h;simp only[aw.bind,aw.dk];rw[c h];rfl
def XH{n:U}{kd z:M D}:∀{xs:M (M D)},ew n kd xs=O->Y kd=n->dF kd kd=W->ew n kd (xs++[kd++z])=J (Y xs)
 |[],_,a,b=>by simp[ew,<-a,b]|x::xs,h,a,b=>by
  simp only[ew]at h;split at h;cases h;rename_i c;have:ew n kd xs=O:=by simpa using h
  simp[ew,c,XH this a b]
def IR:∀{sh:M Sc}{ds:M D},cz sh ds=W->dF ds ds=W|[],[],_=>rfl|.int k::sh,.int k' n::ds,h=>by simp[cz]at h;simp[dF,jL,IR h.2]|.bool::sh,.bool b::ds,h=>by simp[cz]at h;simp[dF,jL,IR h]|.bj::sh,.bj s::ds,h=>by simp[cz]at h;simp[dF,jL,IR h]
def ai8(a:U)(s:St):(ev (.tmp a)).aE s=match(s (.tmp a)).v with|.undef=>O|_=>J ((s (.tmp a)).gq (.tmp a),s):=by simp only[ev,aw.aE];cases(s (.tmp a)).v<;>rfl
def XI(a:U)(s:St):(ev (.tmp a)).dk s=([.tmp a],[]):=by simp only[ev,aw.dk];split<;>rfl
def XJ{v:SV}{c:C}{s s':St}(h:(Ae v).aE s=J (c,s')):v=.one c/\s'=s:=by
 cases v with
 |one d=>obtain⟨rfl,rfl⟩:=bh h;exact⟨rfl,rfl⟩
 |_=>cases h
def ai9{af:bO}{t:bv}{c:C}{i y z:SV}{s w s2:St}(h1:(jf af t c i I).aE s=J (y,w))(h2:(xB af t c i).aE s=J (z,s2)):w=s/\∃r D,s2=s.set r D/\r∈((jf af t c i I).dk s).1/\((jf af t c i I).dk s).2=[]/\∀t1,t1 r=D->(jf af t c i I).aE t1=J (y,t1)/\(jf af t c i I).dk t1=(jf af t c i I).dk s:=by
 unfold jf at h1 ⊢;unfold xB at h2;cases E:jt af t with
 |none=>simp only[E]at h1;cases h1
 |some x=>
  let⟨kt,ki,ei⟩:=x;simp only[E]at h1 h2 ⊢;cases hk:rf af kt with
  |none=>simp only[hk]at h1;cases h1
  |some sh=>
   cases o:i.key with
   |none=>simp only[hk,o]at h1;cases h1
   |some kd=>
    cases F:ei.zero with
    |none=>simp only[hk,o,F]at h1;cases h1
    |some l=>
     simp only[hk,o,F]at h1 h2 ⊢;let⟨_,s3,K,h1⟩:=aT h1;let⟨f,N⟩:=cN K;rw[N]at h1;let⟨_,s4,P,h2⟩:=aT h2;let⟨_,R⟩:=cN P;rw[R]at h2;cases c with
     |bm r j hv cv e k xs=>
      let⟨rows,s5,q,h1⟩:=aT h1;simp only[na,aw.aE]at q;let⟨_,s6,S,q⟩:=aT q;let⟨g,T⟩:=cN S;rw[T]at q;simp only[aw.aE]at h2;let⟨_,s7,V,h2⟩:=aT h2;let⟨X,Y⟩:=cN V;rw[Y]at h2;cases b:(s r).at j with
      |ak Z ys=>simp only[b]at q h2;let⟨p,e5⟩:=bh q;subst p;rw[e5]at h1;let⟨_,s8,g8,h1⟩:=aT h1;let⟨d,e8⟩:=cN g8;rw[e8]at h1;let⟨_,s9,g9,h2⟩:=aT h2;let⟨_,e9⟩:=cN g9;rw[e9]at h2;let⟨_,s10,h,h2⟩:=aT h2;simp only[eo,aw.aE,nP,gH]at h;let⟨_,h⟩:=h;let⟨_,A⟩:=bh h2;have key:∀a,(a=rows\/ew ki.size kd rows=O/\a=rows++[kd++l])->lc sh ki.size a=W/\iK ki.size a l (ew ki.size kd a)=iK ki.size rows l (ew ki.size kd rows):=(by rintro a (rfl|⟨G,rfl⟩);exact⟨d,rfl⟩;rw[XH G f.2.1 (IR f.1),G];refine⟨?_,?_⟩;simp only[lc,List.all_append,nM,List.all_nil,Bool.and_true,cr]at d ⊢;refine⟨d,?_⟩;rw[<-f.2.1,List.take_left];exact f.1;simp only[iK,jH];rw[CF (eJ _)];simp[<-f.2.1]);have he:w=s:=(by unfold pY at h1;split at h1;exact(bh h1).2;split at h1;exact(bh h1).2;cases h1);refine⟨he,r,_,by rw[A,<-h],?_,?_,λt1 H=>?_⟩;simp[bind,bU,f,aw.bind,na,aw.dk];simp only[bind,bU,f,aw.bind,na,aw.dk,g,b,d,bH,and_self];unfold pY;split;rfl;split<;>rfl;have m:=key (if(ew ki.size kd rows).isSome=W then rows else rows++[kd++l]) (by split;exact .inl rfl;rename_i B;exact .inr ⟨by simpa using B,rfl⟩);have n:(t1 r).at j=.ak Z (if(ew ki.size kd rows).isSome=W then rows else rows++[kd++l]):=(by rw[H];refine uO ?_;simp only[rm];have:=iY b (by simp);rw[List.getElem?_set_self (ik.1 this).1]);have u:(t1 r).hv=hv:=(by rw[H];exact g.1);have v:(pY ei.kind.agg (iK ki.size rows l (ew ki.size kd rows))).aE t1=J (y,t1)/\(pY ei.kind.agg (iK ki.size rows l (ew ki.size kd rows))).dk t1=(pY ei.kind.agg (iK ki.size rows l (ew ki.size kd rows))).dk s:=(by unfold pY at h1 ⊢;split at h1;obtain⟨rfl,_⟩:=bh h1;exact⟨rfl,rfl⟩;split at h1;obtain⟨rfl,_⟩:=bh h1;exact⟨rfl,rfl⟩;cases h1);constructor;simp only[bind,bU,f,aw.bind,na,aw.aE,u,g,n,m,bH,and_self];exact v.1;simp only[bind,bU,f,aw.bind,na,aw.dk,u,g,b,n,m,d,bH,and_self];rw[v.2]
      |_=>simp only[b]at h2;cases h2
     |_=>cases h2
abbrev FP:=U->M aO×M aO
def gV(af:bO)(ops:Array Oper)(i:U):aw bY:=
 match ops[i]? with|some o=>nc af ops o|none=>.ret ()
def aja{af:bO}{ops:Array Oper}{i j:U}{s h s2:St}(h1:(gV af ops i).aE s=J ((),h))(h2:(gV af ops j).aE h=J ((),s2)) (k:IM ops i j ((gV af ops i).dk s) ((gV af ops j).dk h)=W):∃t1,(gV af ops j).aE s=J ((),t1)/\(gV af ops i).aE t1=J ((),s2)/\(gV af ops j).dk s=(gV af ops j).dk h/\(gV af ops i).dk t1=(gV af ops i).dk s:=by
 unfold IM at k;split at k;rename_i o o' ho G;split at k;rename_i a b d' f;unfold XG at f;split at f;split at f;split at f;rename_i heq;obtain⟨rfl,rfl,rfl⟩:=heq;cases f;rename_i d t _ _ _ _ _ _ _;simp only[cr,gT,lL,List.contains_eq_mem,decide_eq_false_iff_not]at k;let⟨D,ha,hb,hd⟩:=k;have H:XF ((gV af ops j).dk h).1 h s:=λr K=>by have hl:=xW (gV af ops i) s s () h h1 (λ_ _=>rfl);let⟨t',e,_,_,h4⟩:=hl;exact(h4 r (λhm=>(D r hm).1 K)).2
 let⟨t1,N,q2,q3,l⟩:=xW (gV af ops j) h s () s2 h2 H;refine⟨t1,N,?_⟩;let⟨_,_,_,_,k4⟩:=xW (gV af ops i) s s () h h1 (λ_ _=>rfl);have P:t1 (.tmp a)=s (.tmp a):=(l _ ha).1;have R:t1 (.tmp b)=s (.tmp b):=(l _ hb).1;simp only[gV,ho,G,nc,mA,cq]at h1 N D hd ha hb q2 q3 l k4 ⊢;let⟨y,u1,g1,S⟩:=aT h1;let⟨c,u2,g3,g4⟩:=aT g1;let⟨c0,u3,T,g6⟩:=aT g3;let⟨m,e3⟩:=XJ g6;have e4:=IP T;rw[e3,e4]at g4;let⟨v,u4,V,X⟩:=aT g4;have e5:=IP V;rw[e5]at X;let⟨z,w1,l1,l2⟩:=aT N;let⟨c',w2,l3,l4⟩:=aT l1;let⟨Y,w3,E,l6⟩:=aT l3;let⟨g,m3⟩:=XJ l6;have m4:=IP E;rw[m3,m4]at l4;let⟨v',w4,F,Z⟩:=aT l4;have m5:=IP F;rw[m5]at Z;have hcs:Y=c0:=by rw[T]at E;simp only[nP,gH]at E;exact E.1.symm
 have hvs:v'=v:=by rw[V]at F;simp only[nP,gH]at F;exact F.1.symm
 rw[hcs]at g;have hc':c'=c:=by rw[m]at g;simpa using g.symm
 rw[hc',hvs]at Z;let⟨e6,r,xr,e7,K,hr2,n⟩:=ai9 X Z;rw[e6]at S;simp only[jW,aw.aE]at S l2;let⟨_,u5,n1,n2⟩:=aT S;let⟨u,n3⟩:=cN n1;rw[n3]at n2;simp only[eo,aw.aE,nP,gH,true_and]at n2;let⟨_,u6,p1,p2⟩:=aT l2;let⟨_,p3⟩:=cN p1;rw[p3]at p2;simp only[eo,aw.aE,nP,gH,true_and]at p2;have F1:∀s':St,(ev (.tmp a)).aE s'=J (c0,s')->(ev (.tmp b)).aE s'=J (v,s')->(jf af t c v I).aE s'=J (y,s')->(do let v <-(do let c <-dZ (.tmp a);let v <-ev (.tmp b);jf af t c v I);jW af d v:aw bY).dk s'=([.tmp a]++[]++([.tmp b]++((jf af t c v I).dk s').1)++[.tmp d],[]++[]++([]++((jf af t c v I).dk s').2)++[.tmp d])/\(do let v <-(do let c <-dZ (.tmp a);let v <-ev (.tmp b);jf af t c v I);jW af d v:aw bY).aE s'=J ((),s'.set (.tmp d) {hv:=(s' (.tmp d)).hv+1,cv:=(s' (.tmp d)).cv,v:=y}):=by
  intro s' x1 x2 x3;have z1:(dZ (.tmp a)).aE s'=J (c,s'):=by unfold dZ;show(aw.bind _ _).aE s'=_;rw[Da,x1,m];rfl
  have z1f:(dZ (.tmp a)).dk s'=([.tmp a]++[],[]++[]):=by unfold dZ;show(aw.bind _ _).dk s'=_;rw[IQ _ _ x1,XI,m];rfl
  have z2:(do let c <-dZ (.tmp a);let v <-ev (.tmp b);jf af t c v I:aw SV).aE s'=J (y,s'):=by show(aw.bind _ λc=>aw.bind _ λv=>_).aE s'=_;rw[Da,z1];show(aw.bind _ _).aE s'=_;rw[Da,x2];exact x3
  have z2f:(do let c <-dZ (.tmp a);let v <-ev (.tmp b);jf af t c v I:aw SV).dk s'=([.tmp a]++[]++([.tmp b]++((jf af t c v I).dk s').1),[]++[]++([]++((jf af t c v I).dk s').2)):=by show(aw.bind _ λc=>aw.bind _ λv=>_).dk s'=_;rw[IQ _ _ z1,IQ _ _ x2,z1f,XI]
  have z3:(jW af d y).dk s'=([.tmp d],[.tmp d]):=by simp only[jW,aw.dk,bU,u,bH,bind,aw.bind,eo]
  have z4:(jW af d y).aE s'=J ((),s'.set (.tmp d) {hv:=(s' (.tmp d)).hv+1,cv:=(s' (.tmp d)).cv,v:=y}):=by simp only[jW,aw.aE,bU,u,bH,bind,aw.bind,eo]
  constructor;show(aw.bind _ _).dk s'=_;rw[IQ _ _ z2,z2f,z3];show(aw.bind _ _).aE s'=_;rw[Da,z2];exact z4
 have y1:(ev (.tmp a)).aE s=J (c0,s):=by rw[T,e4]
 have y2:(ev (.tmp b)).aE s=J (v,s):=by rw[V,e5]
 have y3:(jf af t c v I).aE s=J (y,s):=by rw[X,e6]
 let⟨f1,f2⟩:=F1 s y1 y2 y3;have w:∀(x:U),t1 (.tmp x)=s (.tmp x)->∀q,(ev (.tmp x)).aE s=J (q,s)->(ev (.tmp x)).aE t1=J (q,t1):=λx A q B=>by rw[ai8]at B ⊢;rw[A];split at B;cases B;simp only[nP,gH]at B;rw[B.1]
 have htr:t1 r=xr:=by rw[<-p2,e7];rw[lO _ _ (λe=>?_),lN];rw[f1]at hd;refine hd ?_;rw[<-e];simp[K]
 let⟨y3',f3⟩:=n t1 htr;let⟨f4,f5⟩:=F1 t1 (w a P c0 y1) (w b R v y2) y3';have C:aO.tmp d∈(aw.dk (do let v <-(do let c <-dZ (.tmp a);let v <-ev (.tmp b);jf af t c v I);jW af d v:aw bY) s).2:=by rw[f1];simp
 refine⟨?_,q2,by rw[f4,f1,f3]⟩;rw[f5];congr 2;funext x;by_cases A:x=.tmp d;subst A;rw[lN,(l _ (D _ C).2).1,(l _ (D _ C).2).2,<-n2,lN];rw[lO _ _ A];by_cases p:x∈(aw.dk (do let v <-(do let c <-dZ (.tmp a);let v <-ev (.tmp b);xB af t c v);jW af d' v:aw bY) h).2;exact q3 x p;rw[(l x p).1,(l x p).2];rw[<-n2,lO _ _ A];cases f;cases f;cases f;cases k;cases k
def apart(ops:Array Oper)(f g:M aO×M aO)(i j:U):ay:=indep f g||IM ops i j f g
def ajb{af:bO}{ops:Array Oper}{i j:U}{s a s2:St}(h1:(gV af ops i).aE s=J ((),a))(h2:(gV af ops j).aE a=J ((),s2)) (b:apart ops ((gV af ops i).dk s) ((gV af ops j).dk a) i j=W):∃t1,(gV af ops j).aE s=J ((),t1)/\(gV af ops i).aE t1=J ((),s2)/\(gV af ops j).dk s=(gV af ops j).dk a/\(gV af ops i).dk t1=(gV af ops i).dk s:=by
 unfold apart at b;rw[pP]at b;rcases b with h|h
 exact ai7 h1 h2 h;exact aja h1 h2 h
def ry(af:bO)(ops:Array Oper)(fp:FP):M U->St->St->Prop|[],s,s'=>s=s'|i::r,s,s'=>∃a,(gV af ops i).aE s=J ((),a)/\(gV af ops i).dk s=fp i/\ry af ops fp r a s'
variable{af:bO}{ops:Array Oper}{fp:FP}
def ry.front{i:U}{B:M U}:∀{A:M U}{s s':St},ry af ops fp (A++i::B) s s'->(∀a∈A,apart ops (fp a) (fp i) a i=W)->ry af ops fp (i::(A++B)) s s':=by
 intro A;induction A with
 |nil=>intro s s' h _;exact h
 |cons a A b=>intro s s' h c;let⟨n,d,f1,h1⟩:=h;let⟨e,f,f2,h2⟩:=b h1 (λx g=>c x (jr _ g));let⟨t1,j,k,l,m⟩:=ajb d f (by grind);exact⟨t1,j,aav l f2,e,k,aav m f1,h2⟩
def IU:M Oper->M (M U)->M (M U)|[],acc=>acc|o::r,acc=>IU r (acc++[(((V o.after).filter (CG .any)).flatMap λe=>e.on::H acc e.on []).eraseDups])
def IV(ops:Array Oper):M (M U):=IU (V ops) []
def O0(ops:Array Oper)(a:U->ay):Prop:=∀(i:U)(o:Oper),ops[i]?=J o->a i=W->∀e∈o.after,CG .any e=W->a e.on=W
def ajc(ops:Array Oper)(a:U->ay)(A:O0 ops a):∀(l:M Oper)(acc:M (M U)),(∀(k:U),k<l.length->ops[acc.length+k]?=l[k]?)->(∀(i:U)(o:Oper),i<acc.length->ops[i]?=J o->(∀e∈o.after,CG .any e=W->a e.on=W)->∀x∈acc.getD i [],a x=W)->∀(i:U)(o:Oper),i<acc.length+l.length->ops[i]?=J o->(∀e∈o.after,CG .any e=W->a e.on=W)->∀x∈(IU l acc).getD i [],a x=W:=by
 intro l;induction l with
 |nil=>intro acc _ h i o m B n x g;exact h i o (by simpa using m) B n x g
 |cons o l C=>
  intro acc b c i D m p n x g;simp only[IU]at g;refine C _ ?_ ?_ i D (by simp at m ⊢;omega) p n x g;intro k hk;have:=b (k+1) (by simp;omega);grind;intro j G E q r y hy;by_cases s:j<acc.length;rw[jH,pO s,<-jH]at hy;grind;have t:j=acc.length:=by simp at E;omega
  subst t;have u:=b 0 (by simp);simp only[Nat.add_zero,ij]at u;rw[q]at u;cases u;simp only[jH,CF (eJ _),Nat.sub_self,ij,fk,List.mem_eraseDups,List.mem_flatMap,List.mem_filter]at hy;let⟨e,⟨v,F⟩,hy⟩:=hy;have d:a e.on=W:=r e (by simpa using v) F;rcases iG.1 hy with rfl|hy
  exact d;by_cases w:e.on<acc.length;have z:e.on<ops.size:=by grind
  have f:ops[e.on]?=J ops[e.on]:=Array.getElem?_eq_getElem z;exact c e.on _ w f (A e.on _ f d) y hy;grind
def ajd{a:U->ay}(b:O0 ops a){i:U}{o:Oper}(c:ops[i]?=J o)(d:∀e∈o.after,CG .any e=W->a e.on=W):∀x∈H (IV ops) i [],a x=W:=ajc ops a b (V ops) [] (by simp) (by simp) i o (by grind) c d
def sH(af:bO)(ops:Array Oper):M Oper->St->Q (M (M aO×M aO))
 |[],_=>J []|o::r,s=>match(nc af ops o).aE s with
  |some (_,s')=>match sH af ops r s' with|some l=>J ((nc af ops o).dk s::l)|none=>O
  |none=>O
def xX(ops:Array Oper)(a:M (M aO×M aO))(b:M (M U)):ay:=(jq (Y a)).all λj=>(jq j).all λi=>aa1 (H b j []) i||apart ops (H a i ([],[])) (H a j ([],[])) i j
def O1(af:bO)(ops:Array Oper)(s:St):ay:=
 match sH af ops (V ops) s with|some a=>xX ops a (IV ops)|none=>I
def aje{a:M (M aO×M aO)}{b:M (M U)}(h:xX ops a b=W){i j:U}(c:i<j)(d:j<Y a)(e:i ∉ H b j []):apart ops (H a i ([],[])) (H a j ([],[])) i j=W:=by grind [xX]
def ajf:∀(l:M Oper)(k:U)(s s':St)(a:M (M aO×M aO))(pre:M (M aO×M aO)),(∀i,i<Y l->ops[k+i]?=l[i]?)->Y pre=k->rj af ops l s=J s'->sH af ops l s=J a->ry af ops (λi=>H (pre++a) i ([],[])) (List.range' k (Y l)) s s'/\Y a=Y l:=by
 intro l;induction l with
 |nil=>intro k s s' a pre _ _ h b;simp[rj]at h;simp[sH]at b;subst b;simp[ry,h]
 |cons o l m=>
  intro k s s' a pre c e h b;simp only[rj]at h;simp only[sH]at b;cases g:(nc af ops o).aE s with
  |none=>simp[g]at h|some x=>
   let⟨⟨⟩,j⟩:=x;simp only[g]at h b;cases d:sH af ops l j with|none=>simp[d]at b|some fl=>simp only[d,nP]at b;subst b;let⟨n,f⟩:=m (k+1) j s' fl (pre++[(nc af ops o).dk s]) (λi p=>by have:=c (i+1) (by simp;omega);grind) (by simp[e]) h d;have q:ops[k]?=J o:=(by have:=c 0 (by simp);simpa using this);refine⟨?_,by simp[f]⟩;simp only[kL,List.range'_succ,ry];simp_all [gV]
def ajg{P:er}{Q:Exit->Act->ck->Prop}{s':St}(gw:St->Act->ck->Prop) (l:∀(i:U)(o:Oper)(s r:St)(a:Act)(w:ck)(K:Act->ck->Prop),ops[i]?=J o->(nc af ops o).aE s=J ((),r)->gw s a w->(∀C w',gw r C w'->K C w')->wpOp P ops Q i K a w) (t:∀a w,gw s' a w->Q .normal a w) (G:∀i j,i<j->j<ops.size->i ∉ (IV ops).getD j []->apart ops (fp i) (fp j) i j=W) (D:∀(i:U)(o:Oper),ops[i]?=J o->∀e∈o.after,CG .any e=W->e.on<i):
  ∀(fuel:U)(R:M U)(listed:Array ay)(s:St)(a:Act)(w:ck),R.length=fuel->listed.size=ops.size->R.Pairwise (·< ·)->
   (∀i,i∈R↔(i<ops.size/\listed.getD i W=I))->O0 ops (λi=>listed.getD i I)->
   ry af ops fp R s s'->gw s a w->wpAny P .any ops Q fuel listed a w:=by
 intro fuel
 induction fuel with
 |zero=>intro R listed s a w E _ _ b _ c H;have:R=[]:=List.length_eq_zero_iff.1 E;subst this;simp only[ry]at c;subst c;refine⟨?_,t a w H⟩;apply List.eq_nil_iff_forall_not_mem.2;grind [mem_ready]
 |succ fuel ih=>
  intro R listed s a w E N d b u c H;constructor;intro hnil;exfalso;cases R with|nil=>simp at E|cons k R=>let⟨S,T⟩:=(b k).1 (kJ ..);have q:ops[k]?=J ops[k]:=Array.getElem?_eq_getElem S;have:k∈Region.ready .any ops listed:=mem_ready.2 ⟨T,_,q,λe he hb=>by grind [xf]⟩;grind
  intro i hi;let⟨V,o,q,X⟩:=mem_ready.1 hi;have v:i<ops.size:=(Array.getElem?_eq_some_iff.1 q).1;have Y:i∈R:=(b i).2 ⟨v,V⟩;obtain⟨A,B,rfl⟩:=List.append_of_mem Y;have F:=List.pairwise_append.1 d;have hanc:=ajd u q X;have f:=ry.front c (λx y=>by grind);let⟨r,e1,_,m⟩:=f;simp only[gV,q]at e1;refine l i o s r a w _ q e1 H (λC w' Z=>?_);have g:(A++B).Sublist (A++i::B):=List.Sublist.append_left (List.sublist_cons_self _ _) _;have n:i ∉ A++B:=by grind [xf]
  refine ih (A++B) (listed.setIfInBounds i W) r C w' (by simp at E ⊢;omega) (by simpa using N) (d.sublist g) ?_ ?_ m Z;intro x;constructor;intro y;have p:x≠i:=λh=>n (h▸y);let⟨h1,h2⟩:=(b x).1 (g.mem y);exact⟨h1,by rw[getD_set_ne _ (Ne.symm p)];exact h2⟩;rintro ⟨h1,h2⟩;have p:x≠i:=by rintro rfl;simp_all
  rw[getD_set_ne _ (Ne.symm p)]at h2;grind;intro x ox hox y e he hb;by_cases hxi:x=i;grind [getD_set_true];have z:(listed.setIfInBounds i W).getD x I=W:=y;rw[getD_set_ne _ (Ne.symm hxi)]at z;exact getD_set_true (u x ox hox z e he hb)
end
def qh:C->ay|.d _|.ak _ _|.aX _ _|.dj _ _=>W|_=>I
def ln(v:SV):ay:=v.cells.all qh
def XK{ks:M aD}{c c':C}{s s':St}(a:(canon ks c).aE s=J (c',s')):qh c'=W:=by unfold canon at a;split at a;obtain⟨rfl,_⟩:=bh a;rfl;simp only[aw.aE]at a;let⟨_,b,h1,a⟩:=aT a;split at a;let⟨_,d,h2,a⟩:=aT a;obtain⟨rfl,_⟩:=bh a;rfl;obtain⟨rfl,_⟩:=bh a;rfl;simp[aw.aE]at a;obtain⟨rfl,_⟩:=bh a;rfl;obtain⟨rfl,_⟩:=bh a;rfl;simp[aw.aE]at a
def XL{ks:M aD}:∀{cs cs':M C}{s s':St},(sx ks cs).aE s=J (cs',s')->cs'.all qh=W
 |[],_,_,_,a=>by obtain⟨rfl,_⟩:=bh a;rfl
 |c::cs,cs',s,s',a=>by simp only[sx]at a;let⟨c1,d,h1,a⟩:=aT a;let⟨b,e,h2,a⟩:=aT a;obtain⟨rfl,_⟩:=bh a;simp only[nM,cr];exact⟨XK h1,XL h2⟩
def XM{ks:M aD}:∀{vs b:M SV}{s s':St},(uF ks vs).aE s=J (b,s')->b.all ln=W
 |[],_,_,_,a=>by obtain⟨rfl,_⟩:=bh a;rfl
 |v::vs,b,s,s',a=>by
  simp only[uF]at a;let⟨v1,g,h1,a⟩:=aT a;let⟨e,h,h2,a⟩:=aT a;obtain⟨rfl,_⟩:=bh a;simp only[nM,cr];refine⟨?_,XM h2⟩;cases v with
  |one c=>simp only[nW]at h1;let⟨c1,f,h3,d⟩:=aT h1;obtain⟨rfl,_⟩:=bh d;simp[ln,SV.cells,XK h3]
  |agg cs=>simp only[nW]at h1;let⟨c1,f,h3,d⟩:=aT h1;obtain⟨rfl,_⟩:=bh d;exact XL h3
  |_=>simp[nW,aw.aE]at h1
def lp(P:er)(f:dS)(F:qY):Prop:=∀(args:M SV)(aI:M (M C))(r:qX),F args aI=J r->∀(w:World)(vals:bZ aL)(β:aD->Option Nat)(ω:Nat->Option cT)(Z:Nat->Prop),vals.size=Y args->args.all ln=W->aI.all (λb=>b.all (ju (Y aI)))=W->aZ (cW P 0 w vals β ω Z) β ω Z (dm args aI) {tmps:=#[],defers:=[]} w->((callFunc f vals).run P w=.ok (.enter f vals) w/\eA P f vals w λe w'=>∃v a ω' Z',e=.returned v/\aZ (cW P 1 w vals β ω Z) a ω' Z' (eV args r) {tmps:=#[v],defers:=[]} w')\/∃v w' a ω' Z',(callFunc f vals).run P w=.ok (.value v) w'/\aZ (cW P 1 w vals β ω Z) a ω' Z' (eV args r) {tmps:=#[v],defers:=[]} w'
structure ni(P:Program)(af:bO):Prop where
 Az:ib P af
 calls:∀t f F,af.Γ t f=some F->lp P f F
section
variable{K:de}{β:aD->Option Nat}{ω:Nat->Option cT}{Z:Nat->Prop}{s:St}{a:Act}{w:World}{af:bO}
def ae(K:de)(s':St)(a:Act)(w:World)(dst:Nat)(r:Result Next)(v:SV):Prop:=cQ K s' a dst r v\/∃f args,r=.ok (.enter f args) w/\eA K.P f args w λe w'=>∃u b ω' Z',e=.returned u/\aZ K b ω' Z' s' a w'/\jh K b ω' Z' s' a w' (.tmp dst) u v
def ajh(h:aZ K β ω Z s a w){o:cD}{f:dS}{caps:M SV}{s':St}(e:(H6 o).aE s=J ((f,caps),s')):s'=s/\∃vs:bZ aL,a.eval o=.func (.func f) #[] vs/\aR (n7 K β Z s a w) (V vs) caps:=by
 unfold H6 at e;split at e;let⟨g,i⟩:=bh e;cases g;exact⟨i, #[],rfl,trivial⟩;let⟨c,x,h1,d⟩:=aT e;let⟨j,y,m,k⟩:=gs h h1;rw[j]at d;split at d;rename_i z cs;let⟨g,i⟩:=bh d;cases g;let⟨vs,n,q⟩:=m;refine⟨i,vs,n,?_⟩;have key:∀(us:M aL)(cs:M (aD×Nat)),aR (λu(p:aD×Nat)=>∃b,β p.1=J b/\u=.pointer (J ⟨b,p.2,O⟩)) us cs->aR (n7 K β Z s a w) us (cs.map λp=>.one (.aX p.1 p.2)):=by
  intro us;induction us with
  |nil=>intro cs h;cases cs with|nil=>trivial|cons _ _=>exact aaY h
  |cons u us r=>
   intro cs h;cases cs with|nil=>exact aaY h|cons p cs=>let⟨⟨b,t,l⟩,v⟩:=h;exact⟨⟨⟨by rw[l];rfl,b,t,l⟩,by simp[SV.cells,cP],by simp⟩,r cs v⟩
 exact key _ _ q;simp[aw.aE]at d
def aji(hC:ni K.P af)(h:aZ K β ω Z s a w){co:cD}{args:bZ cD}{R:bZ bv}{dst:Nat}{o:cR}(ho:o.op=.call {callee:=.value co,args,argTypes:=R}){v:SV}{s':St}(S:(cq af o.op dst).aE s=J (v,s')):ae K s' a w dst ((execOp a.eval o).run K.P w) v:=by
 rw[ho]at S;simp only[cq]at S;let⟨⟨f,caps⟩,s1,h1,p⟩:=aT S;let⟨T,cv,V,q⟩:=ajh h h1;simp only at p;rw[T]at p;let⟨vs,s2,h2,d⟩:=aT p;let⟨X,Y,x⟩:=ON h _ h2;rw[X]at d;have t:aR (n7 K β Z s a w) (args.toList.map a.eval++cv.toList) (vs++caps):=by refine aR.append ?_ q;exact Y.kO λu v hv hr=>⟨hr,x v hv⟩
 unfold H4 at d;split at d;simp[aw.aE]at d;rename_i F hF;let⟨y,s3,h3,z⟩:=aT d;let⟨Il,Z1,r1,k1,p1⟩:=aiH (af:=af) _ _ ω Z s s3 y h t h3;simp only at z;let⟨more,s3',h3',g⟩:=aT z;have A:=aiK _ _ _ h3';rw[A]at g;generalize hkk:nb (keysOf (y.flatMap SV.cells)++more)=kk at g;have m:kk.Nodup:=by rw[<-hkk];exact Ax _
 let⟨c,s4,h4,B⟩:=aT g;let⟨hs4,n⟩:=aiJ _ _ s4 c r1 p1 (λk hk=>by grind [Xa]) h4;rw[hs4]at B;let⟨N,s5,h5,l⟩:=aT B;let⟨hs5,Ay,C⟩:=Xe _ s5 N h5;rw[hs5]at l;split at l;simp[aw.aE]at l;rename_i r hr;let⟨_,s6,h6,D⟩:=aT l;let⟨⟨E,G⟩,OM⟩:=cN h6;rw[OM]at D;let⟨_,s7,h7,IE⟩:=aT D;let⟨_,s8,h8,OS⟩:=aT IE;have H:=aiM r1 m n Ay C;have hsz:(ve (args.toList.map a.eval++cv.toList)).size=c.length:=by grind [aR.length]
 have j:(execOp a.eval o).run K.P w=(callFunc f (ve (args.toList.map a.eval++cv.toList))).run K.P w:=by
  have e1:args.map a.eval++cv=ve (args.toList.map a.eval++cv.toList):=by grind
  simp[execOp,ho,resolve,V,Deferred.ofValue,invoke,e1]
 have hpl:N.all (λb=>b.all (ju N.length))=W:=by rw[gT];intro b hb;let⟨i,hi⟩:=nL hb;let⟨cs,g1,_,g3⟩:=C i _ (eD (by grind));simp_all [Xi]
 rcases hC.calls _ f F hF c N r hr w _ _ _ _ hsz (XM h4) hpl H with⟨q1,q2⟩|⟨u,w',β',ω',Z',q1,q2⟩
 refine .inr ⟨f,_,by rw[j,q1],q2.mono λe w'⟨u,β',ω',Z',g1,g2⟩=>?_⟩;grind [Xq];let⟨β2,XN,g3,g4⟩:=Xq r1 m n q2 (λi k hi=>by grind) G E h7 h8 OS;exact .inl ⟨u,w',β2,XN,Z',by rw[j,q1],g3,g4⟩
def ajk(g:ni K.P af)(h:aZ K β ω Z s a w){dst:Nat}{o:cR}{v:SV}{s':St}(d:(cq af o.op dst).aE s=J (v,s')):ae K s' a w dst ((execOp a.eval o).run K.P w) v:=by
 have hT:=g.Az;cases e:o.op with
 |move x=>exact .inl (ah6 h e d)|assign x=>exact .inl (ah7 h e d)|pick c x y=>exact .inl (ah8 h e d)|alloc t=>exact .inl (aii hT h e d)|box t x=>exact .inl (aij h e d)|build t ps=>exact .inl (ail hT h e d)|buildSlice t n ps=>exact .inl (ain hT h e d)|load t x=>exact .inl (aia hT h e d)|nilCheck x=>exact .inl (ah9 h e d)|binOp op t x y q=>exact .inl (ahv hT h e d)|unOp op t x=>exact .inl (ahy h e d)|convert a b x=>exact .inl (aiE hT h e d)|makeFunc fn first captured=>
  cases fn with|func f=>exact .inl (aig h e d)|_=>rw[e]at d;simp[cq,aw.aE]at d
 |makeSlice t l c=>exact .inl (aio hT h e d)|slice t x u z j=>
  cases j with|none=>exact .inl (ahA hT h e d)|some m=>rw[e]at d;simp[cq,aw.aE]at d
 |fieldAddr t x f=>exact .inl (aib hT h e d)|field t x f=>exact .inl (aid hT h e d)|indexAddr t x i=>exact .inl (aic hT h e d)|index t x i=>exact .inl (aie hT h e d)|extract x n=>exact .inl (aih h e d)|makeMap t r=>
  cases r with|none=>exact .inl (ahM hT h e d)|some r=>rw[e]at d;simp[cq,aw.aE]at d
 |lookup t x A ok=>exact .inl (ahN hT h e d)|range t x=>exact .inl (ai0 hT h e d)|next x b=>
  cases b with|false=>exact .inl (ai4 h e d)|true=>rw[e]at d;simp[cq,aw.aE]at d
 |entry x=>exact .inl (ai5 h e d)|mapEntry t m k=>exact .inl (ahY hT h e d)|call c=>
  let⟨callee,args,p⟩:=c;cases callee with
  |value co=>exact aji g h e d|invoke r m=>rw[e]at d;simp[cq,aw.aE]at d|builtin b=>
   cases b with|len=>exact .inl (aif hT h e d)|append=>exact .inl (aiu hT h e d)|cap=>exact .inl (ais hT h e d)|min=>exact .inl (WG (b:=W) h e (by rw[e]at d;exact d))|max=>exact .inl (WG (b:=I) h e (by rw[e]at d;exact d))|_=>rw[e]at d;simp[cq,aw.aE]at d
 |_=>rw[e]at d;simp[cq,aw.aE]at d
def gw(K:de)(s:St)(a:Act)(w:World):Prop:=∃β ω Z,aZ K β ω Z s a w
theorem IW(f:K.N=af.N)(h:aZ K β ω Z s a w){t:Nat}{u:aL}{v:SV}(e:jh K β ω Z s a w (.tmp t) u v){y:bY}{s':St}(d:(jW af t v).aE s=J (y,s')):gw K s' (a.put (J t) u) w:=by simp only[jW,aw.aE]at d;let⟨_,g,h1,b⟩:=aT d;let⟨i,c⟩:=cN h1;rw[c]at b;simp only[eo,aw.aE,Option.some.injEq,gH]at b;obtain⟨_,rfl⟩:=b;exact⟨β,ω,Z,h.ahb (by omega) e⟩
def XO(hT:ib K.P af)(h:aZ K β ω Z s a w){t:bv}{m k x:cD}{y:bY}{s':St} (q:(do let c <-dZ m;let i <-ev k;let vx <-ev x;xA af t c i vx:aw bY).aE s=J (y,s')):∃w' e ω' Z',(Instr.mapUpdate t (a.eval m) (a.eval k) (a.eval x)).run K.P w=.ok () w'/\aZ K e ω' Z' s' a w':=by let⟨c,A,h1,b⟩:=aT q;let⟨f,B,C,j⟩:=gs h h1;rw[f]at b;let⟨i,D,h2,d⟩:=aT b;let⟨g,r,l,n⟩:=iM h h2;rw[g]at d;let⟨vx,E,h3,u⟩:=aT d;let⟨v,z,o,p⟩:=iM h h3;grind [ahQ]
theorem XP(A:ni K.P af)(hN:K.N=af.N)(h:aZ K β ω Z s a w){o:cR}{y:bY}{s':St}(l:(mA af o).aE s=J (y,s')){Q:Exit->Act->World->Prop}{next:Act->World->Prop}(E:∀V w',gw K s' V w'->next V w'):o.wp K.P a w next Q:=by
 unfold mA at l;split at l;rename_i t ad x q hd;split at l;rename_i i F;let⟨c,X,h1,g⟩:=aT l;let⟨r,o1,G,B⟩:=gs h h1;rw[r]at g;let⟨v,s2,h2,j⟩:=aT g;let⟨z,hv,H,hnu⟩:=iM h h2;rw[z]at j;let⟨w',e,ω',Z',n,p⟩:=ahh h (A.Az.T _ _ F) G hv H j;have b:(execOp a.eval o).run K.P w=.ok .skip w':=by simp[execOp,q,n]
 rw[HA,b,NG,hd];exact E _ _ ⟨e,ω',Z',p⟩;simp[aw.aE]at l;rename_i t m k x q hd;let⟨w',e,ω',Z',n,p⟩:=XO A.Az h l;have b:(execOp a.eval o).run K.P w=.ok .skip w':=by simp[execOp,q,n]
 rw[HA,b,NG,hd];exact E _ _ ⟨e,ω',Z',p⟩;rename_i t m k x q hd;let⟨w',e,ω',Z',n,p⟩:=XO A.Az h l;have b:(execOp a.eval o).run K.P w=.ok .skip w':=by simp[execOp,q,n]
 rw[HA,b,NG,hd];exact E _ _ ⟨e,ω',Z',p⟩;rename_i t m st x q hd;let⟨c,X,h1,g⟩:=aT l;let⟨r,o1,G,B⟩:=gs h h1;rw[r]at g;let⟨cs,s2,h2,j⟩:=aT g;let⟨z,o2,r2,Y⟩:=gs h h2;rw[z]at j;let⟨vx,s3,h3,C⟩:=aT j;let⟨R,S,D,hnux⟩:=iM h h3;rw[R]at C;let⟨w',e,ω',Z',n,p⟩:=ah3 A.Az h G r2 S D C;have b:(execOp a.eval o).run K.P w=.ok .skip w':=by simp[execOp,q,n]
 rw[HA,b,NG,hd];exact E _ _ ⟨e,ω',Z',p⟩;rename_i d hns hd;let⟨v,X,h1,g⟩:=aT l;rcases ajk A h h1 with⟨u,w',e,ω',Z',n,p,q3⟩|⟨f,args,n,p⟩
 grind [Oper.wp.eq_1,oV,IW];rw[HA,n,Oper.upon_enter];refine p.mono ?_;grind [IW];simp[aw.aE]at l
def XQ(F:ni K.P af)(C:K.N=af.N){c:bZ cR}{i:Nat}{o:cR}(hi:c[i]?=J o){s q:St}{a:Act}{w:World}{Q:Exit->Act->World->Prop}{next:Act->World->Prop}(m:(nc af c o).aE s=J ((),q))(D:gw K s a w)(r:∀y w',gw K q y w'->next y w'):wpOp K.P c Q i next a w:=by
 let⟨β,ω,Z,h⟩:=D;simp only[wpOp,hi];unfold nc at m;split at m;grind [HB,XP];rename_i j z n;let⟨b,E,h2,e⟩:=aT m;have hy:E=s/\yielded c a.tmps j=b:=by
  unfold NT at h2;split at h2;rename_i t hd;simp only[aw.aE]at h2;split at h2;rename_i b' hv;let⟨g,k⟩:=bh h2;refine⟨k,?_⟩;have l:=h.tmps t;rw[hv]at l;have f:a.tmps.getD t undef=.bool b':=l.2;rw[g];simp only[yielded,hd,Option.bind_some];cases A:a.tmps[t]? with
  |none=>rw[Hs,A]at f;cases f
  |some x=>simp_all
  rename_i hv;let⟨g,k⟩:=bh h2;refine⟨k,?_⟩;have l:=h.tmps t;rw[hv]at l;let⟨vs,f,B⟩:=l;rw[g];simp only[yielded,hd,Option.bind_some];cases A:a.tmps[t]? with|none=>rfl|some x=>simp_all
  simp[aw.aE]at h2;simp[aw.aE]at h2
 let⟨p,hy⟩:=hy;rw[p]at e;split at e;grind [HB,XP];rename_i g;have:¬(HB o (yielded c a.tmps)=W):=by simp[HB,n,hy,g]
 rw[aU this];split at e;rename_i d hd;rw[hd];exact r _ _ (IW C h (jh.Db (u:=undef) (v:=.bw []) ⟨#[],rfl,trivial⟩ (by simp[SV.cells])) e);rename_i hd;let⟨_,k⟩:=bh e;rw[hd];refine r _ _ ?_;rw[k];exact⟨β,ω,Z,h⟩
def XR(f:K.N=af.N){b:bZ cR}{o:cR}{i:Nat}(hi:b[i]?=J o)(g:o.guard=O){d:Nat}(hd:o.dst=J d)(c:d<af.N){s':St}{v:SV}{a:Act}{w:World}{Q:Exit->Act->World->Prop}{next:Act->World->Prop} (hy:cQ K s' a d ((execOp a.eval o).run K.P w) v)(h:∀e w',gw K (s'.set (.tmp d) {hv:=(s' (.tmp d)).hv+1,cv:=(s' (.tmp d)).cv,v}) e w'->next e w'):wpOp K.P b Q i next a w:=by
 simp only[wpOp,hi];have:HB o (yielded b a.tmps)=W:=by simp[HB,g]
 rw[aF this];let⟨u,w',j,ω',Z',k,l,m⟩:=hy;refine .inl ?_;rw[HA,k,oV,hd];refine h _ _ (IW f l m (y:=()) ?_);simp only[jW,aw.aE];rw[ai2 c];rfl
def XS(m:ni K.P af)(n:K.N=af.N){b:bZ cR}{Q:Exit->Act->World->Prop}:∀(l:M cR)(k:Nat)(s s':St)(a:Act)(w:World),(∀i,i<Y l->b[k+i]?=l[i]?)->rj af b l s=J s'->gw K s a w->(∀d w',gw K s' d w'->Q .normal d w')->wpOps K.P b Q (List.range' k (Y l)) a w:=by
 intro l;induction l with
 |nil=>intro k s s' a w _ h e f;simp only[rj,Option.some.injEq]at h;subst h;exact f _ _ e
 |cons o l p=>
  intro k s s' a w c h e f;simp only[rj]at h;cases g:(nc af b o).aE s with
  |none=>rw[g]at h;cases h
  |some x=>let⟨⟨⟩,q⟩:=x;rw[g]at h;have r:b[k]?=J o:=(by have:=c 0 (by simp);simpa using this);simp only[kL,List.range'_succ];rw[wpOps_cons];refine XQ m n r g e λd w' j=>?_;exact p (k+1) q s' d w' (λi t=>by have:=c (i+1) (by simp;omega);grind) h j f
def O2(a:bZ cR):ay:=(V a).zipIdx.all λx=>x.1.after.all λe=> !CG .any e||decide (e.on<x.2)
def ajl(t:ni K.P af)(u:K.N=af.N)(f:K.P.follows .mixedOrders=W){id:Nat}{b:bZ cR}{c:ay}{Q:Exit->Act->World->Prop}{s s':St}{a:Act}{w:World}(h:rj af b (V b) s=J s')(hd:c=W->O1 af b s=W/\O2 b=W) (g:gw K s a w)(k:∀v w',gw K s' v w'->Q .normal v w'):(Code.region id b c).wp K.P Q a w:=by
 cases c with
 |false=>refine wp_region ?_;have:=XS (Q:=Q) t u (V b) 0 s s' a w (by simp) h g k;simp_all [List.range_eq_range']|true=>
  let⟨h1,h2⟩:=hd rfl;refine wp_region_any f ?_;unfold O1 at h1;cases l:sH af b (V b) s with
  |none=>rw[l]at h1;cases h1
  |some m=>rw[l]at h1;let⟨d,x⟩:=ajf (V b) 0 s s' m [] (by simp) rfl h l;let⟨β,ω,Z,z⟩:=g;have n:gw K s a {w with drawn:=w.drawn+1}:=⟨β,ω,Z,z.drew.1⟩;simp only[List.nil_append]at d;refine ajg (P:=K.P) (Q:=Q) (s':=s') (gw K) (λi o s B a w next p y g k=>XQ t u p y g k) k (λi j q C A=>aje h1 q (by grind) A) (λi o p e y D=>?_) b.size (List.range' 0 (Y (V b))) _ s a _ (by simp) (by simp) (List.pairwise_lt_range' _) (λi=>?_) (λi o p r=>?_) d n;simp only[O2,gT]at h2;have E:(o,i)∈(V b).zipIdx:=(by grind);grind [Array.all_eq_true_iff_forall_mem];simp_all;simp only[Hs,Array.getElem?_replicate]at r;split at r<;>simp at r
end
noncomputable section
def aw.cU{α:Type}:aw α->St->Option (α×St×M aO×M aO)
 |.ret a,s=>J (a,s,[],[])|.ai,_=>O|.aG r k,s=>match(k (s r)).cU s with|some (a,s',f,g)=>J (a,s',r::f,g)|none=>O
 |.put r x k,s=>match k.cU (s.set r x)with|some (a,s',f,g)=>J (a,s',f,r::g)|none=>O
theorem XT{α:Type}(p:aw α):∀(s:St),p.cU s=(p.aE s).map λx=>(x.1,x.2,p.dk s):=by
 induction p with
 |ret a=>intro s;rfl
 |ai=>intro s;rfl
 |aG r k b=>intro s;simp only[aw.cU,aw.aE,aw.dk,b];cases(k (s r)).aE s<;>rfl
 |put r x k b=>intro s;simp only[aw.cU,aw.aE,aw.dk,b];cases k.aE (s.set r x)<;>rfl
def xY(af:bO)(a:bZ cR):M cR->St->Option (St×M (M aO×M aO))
 |[],s=>J (s,[])|o::r,s=>match(nc af a o).cU s with
  |some (_,s',f,g)=>match xY af a r s' with|some (b,l)=>J (b,(f,g)::l)|none=>O
  |none=>O
def XU(af:bO)(a:bZ cR):∀(l:M cR)(s s':St)(Ds:M (M aO×M aO)),xY af a l s=J (s',Ds)->rj af a l s=J s'/\sH af a l s=J Ds:=by
 intro l;induction l with
 |nil=>intro s s' Ds h;simp only[xY,Option.some.injEq,gH]at h;obtain⟨rfl,rfl⟩:=h;exact⟨rfl,rfl⟩
 |cons o l b=>grind [xY,XT,rj,sH]
def IX(a:bZ cR)(b:M (M aO×M aO)):ay:=O2 a&&xX a b (IV a)
inductive Ex where
 |normal|exit(id:Nat)|ret
 deriving DecidableEq
def forget(live:M Nat)(a:M aD)(p:PS):PS:=fin p.st live a (Y p.args)
def aD.isIn:aD->ay|.aC _=>W|_=>I
def XV(bk a:M aD):ay:=bk.all λk=> !k.isIn||aa1 a k
structure VF where
 af:bO
 keys:List Nat
 hX:List aD
def O3(bk:M aD)(B:PS->(Ex->PS->Prop)->Prop)(p:PS)(Q:Ex->PS->Prop):Prop:=
 ∃(live:M Nat)(b:M aD)(a:PS->Prop)(d:PS->Nat),XV bk b=W/\a (forget live b p)/\∀q,a q->B q λe c=>match e with|.normal=>a (forget live b c)/\d (forget live b c)<d q|e=>Q e c
@[congr] theorem O3.same{bk:M aD}{B:PS->(Ex->PS->Prop)->Prop}{p a:PS}{Q:Ex->PS->Prop}(h:p=a):O3 bk B p Q=O3 bk B a Q:=by rw[h]
def O4{α:Type}(t u:Nat)(v:α)(r:M (Nat×α)):lk t ((u,v)::r)=if t=u then J v else lk t r:=rfl
def XW(s:St)(bk:M aD)(t:Nat):∀(ks:M Nat),(X (lk t (An s bk ks)) .undef)=if t∈ks then iX s bk (s (.tmp t)).v else .undef
 |[]=>rfl|u::ks=>by
  simp only[An];have b:=XW s bk t ks;by_cases a:t=u;subst a;simp only[iG,true_or,bH];cases hv:iX s bk (s (.tmp t)).v with|undef=>simp_all [CY]|_=>simp[CY,O4]
  have:lk t (CY u (iX s bk (s (.tmp u)).v) (An s bk ks))=lk t (An s bk ks):=by cases iX s bk (s (.tmp u)).v<;>simp[CY,O4,a]
  grind
def XX(s:St)(bk:M aD)(k:aD):∀(ks:M aD),(match nX k (Ao s bk ks)with|some cs=>SV.agg cs|none=>.undef)=if k∈ks then(match(s (.box k)).v with|.agg cs=>.agg (jv s bk cs)|_=>.undef)else .undef
 |[]=>rfl|u::ks=>by
  simp only[Ao];have b:=XX s bk k ks;by_cases a:k=u;subst a;simp only[iG,true_or,bH];cases hv:(s (.box k)).v with|agg cs=>simp[iX,xF,nX]|one c=>simp_all [iX,xF]|bw c=>simp_all [iX,xF]|undef=>simp_all [iX,xF]
  have:(match nX k (xF u (iX s bk (s (.box u)).v) (Ao s bk ks))with|some cs=>SV.agg cs|none=>.undef)=(match nX k (Ao s bk ks)with|some cs=>SV.agg cs|none=>.undef):=by cases(iX s bk (s (.box u)).v)<;>simp[xF,nX,a]
  grind
def XY(s:St)(bk:M aD):∀(n a i:Nat),H (uL s bk a n) i .undef=if i<n then iX s bk (s (.bP (a+i))).v else .undef|0,a,i=>by simp[uL]|n+1,a,0=>by simp[uL]|n+1,a,i+1=>by have:=XY s bk n (a+1) i;grind [uL]
def XZ(s:St)(bk:M aD):∀(n a:Nat),Y (uL s bk a n)=n|0,_=>rfl|n+1,a=>by simp[uL,XZ s bk n]
def X0(s:St)(keys:M Nat)(bk:M aD)(n t:Nat):((fin s keys bk n).st (.tmp t)).v=if t∈keys then iX s bk (s (.tmp t)).v else .undef:=XW s bk t keys
def X1(s:St)(keys:M Nat)(bk:M aD)(n:Nat)(k:aD):((fin s keys bk n).st (.box k)).v=if k∈bk then(match(s (.box k)).v with|.agg cs=>.agg (jv s bk cs)|_=>.undef)else .undef:=XX s bk k bk
def X2(s:St)(keys:M Nat)(bk:M aD)(n i:Nat):((fin s keys bk n).st (.bP i)).v=if i<n then iX s bk (s (.bP i)).v else .undef:=by have:=XY s bk n 0 i;simp only[Nat.zero_add]at this;exact this
def sJ(p:PS)(r:aO):(p.st r).hv=0/\(p.st r).cv=0:=by cases r<;>exact⟨rfl,rfl⟩
theorem xZ(s:St)(bk:M aD):∀(cs:M C)(j:Nat),(jv s bk cs)[j]?=(cs[j]?).map (jX s bk)|[],_=>by simp[jv]|c::cs,0=>by simp[jv]|c::cs,j+1=>by simp only[jv,qN];exact xZ s bk cs j
def Dt(s:St)(bk:M aD):∀(cs:M C),Y (jv s bk cs)=Y cs|[]=>rfl|c::cs=>by simp[jv,Dt s bk cs]
def X3(s:St)(bk:M aD):∀(l m:M C),jv s bk (l++m)=jv s bk l++jv s bk m|[],m=>rfl|c::l,m=>by simp[jv,X3 s bk l m]
def X4(s:St)(bk:M aD):∀(vs:M (ay×M C)),(uK s bk vs).flatMap (·.2)=jv s bk (vs.flatMap (·.2))|[]=>rfl|(b,cs)::vs=>by simp[uK,X3,X4 s bk vs]
theorem IY(s:St)(bk:M aD)(v:SV):(iX s bk v).cells=jv s bk v.cells:=by
 cases v with|one c=>rfl|agg cs=>rfl|bw vs=>simp only[iX,SV.cells,X4]|undef=>rfl
def X5(s:St)(bk:M aD):∀{us:M aL}{vs:M (ay×M C)},aR (eB lU) us vs->aR (eB lU) us (uK s bk vs)
 |[],[],_=>trivial|u::us,(b,cs)::vs,h=>by
  refine⟨?_,X5 s bk h.2⟩;have h1:=h.1;unfold eB at h1 ⊢;cases b with
  |true=>simp only[bH]at h1 ⊢;obtain⟨ws,rfl,g⟩:=h1;exact⟨ws,rfl,aR.dU (by rw[g.length,Dt]) λ_ _ _ _ _=>trivial⟩
  |false=>simp only[bM,ca]at h1 ⊢;obtain⟨c,rfl,g,_⟩:=h1;exact⟨jX s bk c,by simp[jv],g,trivial⟩
def ajm{s:St}{bk:M aD}{u:aL}{v:SV}(h:bQ lU u v):bQ lU u (iX s bk v):=by
 cases v with
 |one c=>exact⟨h.1,trivial⟩|agg cs=>let⟨ws,h1,h2⟩:=h;exact⟨ws,h1,aR.dU (by rw[h2.length,Dt]) λ_ _ _ _ _=>trivial⟩
 |bw vs=>let⟨ws,h1,h2⟩:=h;exact⟨ws,h1,X5 s bk h2⟩
 |undef=>trivial
theorem ajn{s:St}{bk:M aD}{c:C}{e:Nat}{xs:M (M D)}(h:jX s bk c=.ak e xs):c=.ak e xs:=by cases c<;>simp only[jX]at h<;>first|exact h|grind|cases h
theorem ajo{s:St}{bk:M aD}{c:C}(h:jX s bk c≠.bN):c≠.bN:=by rintro rfl;exact h rfl
section
variable{K:de}{β:aD->Option Nat}{ω:Nat->Option cT}{Z:Nat->Prop}{s:St}{a:Act}{w:World}
def aZ.fin(h:aZ K β ω Z s a w)(keys:M Nat)(bk:M aD){n:Nat}(hn:n=K.argv.size)(hin:∀k b,K.ka k=J b->k∈bk):∃l,aZ K l ω Z (fin s keys bk n).st a w:=by
 generalize E:(Vs.fin s keys bk n).st=s';have ht:∀t,(s' (.tmp t)).v=if t∈keys then iX s bk (s (.tmp t)).v else .undef:=λt=>by rw[<-E];exact X0 ..
 have hb:∀k,(s' (.box k)).v=if k∈bk then(match(s (.box k)).v with|.agg cs=>.agg (jv s bk cs)|_=>.undef)else .undef:=λk=>by rw[<-E];exact X1 ..
 have ha:∀i,(s' (.bP i)).v=if i<n then iX s bk (s (.bP i)).v else .undef:=λi=>by rw[<-E];exact X2 ..
 have hz:∀r,(s' r).hv=0/\(s' r).cv=0:=λr=>by rw[<-E];exact sJ _ r
 have F:∀(r:aO)(j:Nat)(c:C),(s' r).v.cells[j]?=J c->(∃c0,(s r).v.cells[j]?=J c0/\c=jX s bk c0)/\(∀k,r=.box k->k∈bk/\∃cs,(s r).v=.agg cs):=by
  intro r j c q;cases r with|tmp t=>grind [IY,xZ,SV.cells]|box k=>grind [SV.cells,xZ]|bP i=>grind [IY,xZ,SV.cells]
 let l:aD->Option Nat:=λk=>match(s' (.box k)).v with|.agg _=>β k|_=>O
 have VS:∀k cs,(s' (.box k)).v=.agg cs->l k=β k:=λk cs hk=>by simp only[l,hk]
 have N:∀k,(s' (.box k)).v=.undef->l k=O:=λk hk=>by simp only[l,hk]
 have o:∀k b,β k=J b->k∈bk->l k=J b:=by
  intro k b hkb hk;have m:=h.aI k;cases hv:(s (.box k)).v with|agg cs=>grind|undef=>rw[hv]at m;simp only[eh]at m;grind|one c=>rw[hv]at m;exact aaY m|bw x=>rw[hv]at m;exact aaY m
 have hat:∀(r:aO)(j:Nat),(s' r).at j≠.bN->(s r).at j≠.bN/\(∀e ys,(s r).at j=.ak e ys->(s' r).at j=.ak e ys)/\(∀d,(s r).at j=.d d->(s' r).at j=.d d)/\(∀k,r=.box k->k∈bk/\∃cs,(s r).v=.agg cs):=by
  intro r j G;cases q:(s' r).v.cells[j]? with|none=>grind [RV.at]|some c=>let⟨⟨c0,h0,h1⟩,h2⟩:=F r j c q;have e0:=uO h0;have e1:=uO q;rw[e1]at G;refine⟨?_,λe ys T=>?_,λd T=>?_,h2⟩;grind [ajo];rw[e1];rw[e0]at T;subst T;rw[h1];rfl;rw[e1];rw[e0]at T;subst T;rw[h1];rfl
 have IK:∀(r:aO)(j:Nat),(∀k,r=.box k->k∈bk/\∃cs,(s r).v=.agg cs)->cK K l a w r j=cK K β a w r j:=by
  intro r j hr;cases r with|tmp t=>rfl|bP i=>rfl|box k=>grind [cK]
 have ay6:∀(c:C)(u:aL),aS K β Z s a w c u->aS K l Z s' a w (jX s bk c) u:=by
  intro c u y;cases c with
  |d x=>exact y|ak e xs=>exact y|bN=>trivial|da xs=>exact y|ea r j hv e i off=>trivial|aX k off=>simp only[jX];split;rename_i hk;let⟨b,z,A⟩:=y;exact⟨b,o k b z (by simpa using hk),A⟩;trivial
  |dj f caps=>simp only[jX];split;rename_i hk;let⟨vs,z,A⟩:=y;refine⟨vs,z,A.kO λu p hp⟨b,q1,q2⟩=>⟨b,o p.1 b q1 ?_,q2⟩⟩;grind;trivial
  |bm r j hv cv e k xs=>simp only[jX];split;rename_i ay7;by_cases S:cf e=W;let⟨b,z,g4,g5,g6⟩:=(aS.rl S).1 y;refine(aS.rl S).2 ⟨b,z,by omega,by omega,λ_ G=>?_⟩;grind;have S:cf e=I:=(by simpa using S);let⟨WX,V,z,A,X,g4,g5,g6⟩:=(aS.pb S).1 y;refine(aS.pb S).2 ⟨WX,V,z,A,X,by omega,by omega,λ_ G=>?_⟩;let⟨q1,q2,q3,q4⟩:=hat r j G;grind;trivial
 have Y:∀(v:SV)(u:aL),bQ (aS K β Z s a w) u v->bQ (aS K l Z s' a w) u (iX s bk v):=by
  intro v u hv;refine bQ.of_flat (ajm hv.shape) λhu=>?_;have OG:v≠.undef:=by rintro rfl;exact hu rfl
  have hf:=hv.ey OG;rw[IY];refine aR.dU (by rw[hf.length,Dt]) λj x c hx q=>?_;rw[xZ]at q;cases B:v.cells[j]? with|none=>grind|some c0=>rw[B]at q;simp only[Option.map_some,Option.some.injEq]at q;subst q;let⟨x',z,A⟩:=hf.aG B;grind
 have P:∀(r:aO)(j e:Nat)(xs:M (M D)),(s' r).v.cells[j]?=J (.ak e xs)->(s r).v.cells[j]?=J (.ak e xs)/\cK K l a w r j=cK K β a w r j:=by grind [ajn]
 refine⟨l,h.size,h.defers,h.os,h.tape,h.output,h.base,h.frame,h.dp,h.lV,?_,?_,?_,?_,?_,?_,h.dV,?_⟩;intro b H;rcases h.ng b H with g|g|g|⟨i,j,e,ys,u0,z,A,X⟩
 exact .inl g;exact .inr (.inl g);grind;refine .inr (.inr (.inr ⟨i,j,e,ys,u0,?_,A,X⟩));have hi:i<n:=by grind [undef,ey]
 rw[ha,aF hi,IY,xZ,z];rfl;intro t;rw[ht];split;exact Y _ _ (h.tmps t);trivial;intro i;rw[ha];split;exact Y _ _ (h.args i);trivial;intro k;rw[hb];by_cases hk:k∈bk;rw[aF hk];have m:=h.aI k;cases hv:(s (.box k)).v with
 |agg cs=>
  let⟨b,ws,el,lo,hi,z,A,X,g4,g5⟩:=eh.cell h hv;refine⟨b,ws,el,lo,hi,o k b z hk,A,X,g4,aR.dU (by rw[g5.length,Dt]) λj u c hu q=>?_⟩;rw[xZ]at q;cases B:cs[j]? with|none=>grind|some c0=>rw[B]at q;simp only[Option.map_some,Option.some.injEq]at q;subst q;let⟨u',q1,q2⟩:=g5.aG B;grind
 |undef=>exact N k (by rw[hb,aF hk,hv])|one c=>rw[hv]at m;exact aaY m|bw x=>rw[hv]at m;exact aaY m
 rw[aU hk];exact N k (by rw[hb,aU hk]);intro r j e xs u1 b1 hr q hh R;let⟨z,A⟩:=P r j e xs q;rw[A]at hh;exact h.ak r j e xs u1 b1 hr z hh R;intro i j e xs u1 b1 q hh R;exact h.iL i j e xs u1 b1 (P (.bP i) j e xs q).1 hh R;intro k b H;exact o k b (h.n5 k b H) (hin k b H)
end
end
def uV:Ex->Exit|.normal=>.normal|.exit i=>.exit i|.ret=>.ret
def dI(K:de)(p:PS)(a:Act)(w:ck):Prop:=gw K p.st a w/\Y p.args=K.argv.size
def ajp(K:de)(F:VF):Prop:=∀k b,K.ka k=J b->k.isIn=W/\k∈F.hX
section
variable{K:de}{F:VF}
def dI.fin{p:PS}{s:St}{a:Act}{w:ck}(e:Y p.args=K.argv.size)(f:gw K s a w){keys:M U}{bk:M aD}(c:∀k b,K.ka k=J b->k∈bk):dI K (fin s keys bk (Y p.args)) a w:=by let⟨β,ω,Z,h⟩:=f;let⟨d,g⟩:=h.fin keys bk e c;refine⟨⟨d,ω,Z,g⟩,?_⟩;rw[<-e];exact XZ ..
def dI.forget(hk:ajp K F){p:PS}{a:Act}{w:ck}(h:dI K p a w){live:M U}{d:M aD}(e:XV F.hX d=W):dI K (forget live d p) a w:=by refine dI.fin h.2 h.1 λk b c=>?_;let⟨h1,h2⟩:=hk k b c;have:=gT.1 e k h2;simpa[h1]using this
end
noncomputable section
def AA(af:bO):nQ->aw SV
 |.tmp t=>ev (.tmp t)|.cell a t=>match af.ti t with|some i=>do sw i (<-dZ (.tmp a))|none=>.ai
def AB(af:bO):M nQ->aw (M SV)|[]=>.ret []|r::rs=>do let v <-AA af r;let vs <-AB af rs;.ret (v::vs)
def x9:C->aw C|.bm (.bP i) j hv cv e k xs=>do let x <-mv (.bm (.bP i) j hv cv e k xs);.ret (.d x)|c=>.ret c
def uW:M C->aw (M C)|[]=>.ret []|c::cs=>do let a <-x9 c;let r <-uW cs;.ret (a::r)
def qi:SV->aw SV|.one c=>do .ret (.one (<-x9 c))|.agg cs=>do .ret (.agg (<-uW cs))|_=>.ai
def AC:M SV->aw (M SV)|[]=>.ret []|v::vs=>do let a <-qi v;let r <-AC vs;.ret (a::r)
def easy:C->ay|.d _|.ak _ _|.aX _ _|.bN=>W|_=>I
def settle(k:aD):aw bY:=
 .aG (.box k) λx=>match x.v with
  |.agg cs=>if cs.all easy=W then .ret ()else do
   let a <-uW cs
   eo (.box k) {hv:=x.hv+1,cv:=x.cv,v:=.agg a}
  |_=>.ai
def AE:M aD->aw bY|[]=>.ret ()|k::ks=>do settle k;AE ks
def IZ:M SV->SV|[v]=>v|vs=>.bw (vs.map λv=>match v with|.one c=>(I,[c])|.agg cs=>(W,cs)|_=>(I,[]))
def uX:M aL->aL|[u]=>u|us=>.tuple (ve us)
def X6(d:ay):aO->ay|.tmp _=> !d|.box (.aC _)=>I|.box _=> !d|.bP _=>I
def ya(ks:M aD):C->aw C|.d x=>.ret (.d x)|.ak e xs=>.ret (.ak e xs)|.aX k off=>do bU (k∈ks);.ret (.aX (.aC (idx k ks)) off)|.dj f caps=>do bU (caps=[]);.ret (.dj f [])|_=>.ai
def uY(ks:M aD):M C->aw (M C)|[]=>.ret []|c::cs=>do let a <-ya ks c;let r <-uY ks cs;.ret (a::r)
def yb(ks:M aD):M (ay×M C)->aw (M (ay×M C))|[]=>.ret []|(b,cs)::vs=>do let a <-uY ks cs;let r <-yb ks vs;.ret ((b,a)::r)
def oa(ks:M aD):SV->aw SV|.one c=>do .ret (.one (<-ya ks c))|.agg cs=>do .ret (.agg (<-uY ks cs))|.bw vs=>do .ret (.bw (<-yb ks vs))|.undef=>.ai
def jM(n:Nat):M aD:=(jq n).map .aC
def uZ(a:Nat)(cs:M C):M aD:=jM a++(nb (keysOf cs)).filter λk=> !k.isIn
def yc(af:bO)(res:M nQ)(b:Nat):aw (SV×M (M C)):=do
 let vs <-AB af res
 let ks:=uZ b (vs.flatMap SV.cells)
 AE ks
 let a <-AC vs
 let c <-m9 (.tmp 0) (X6 af.nT) (IZ a)
 let d <-xD ks ks
 let e <-oa ks c
 .ret (e,d)
def I0(i:Nat)(v:SV):SV:=RV.gq {v} (.bP i)
def u7:Nat->M SV->M (Nat×SV)|_,[]=>[]|i,v::vs=>(i,I0 i v)::u7 (i+1) vs
def va:Nat->M (M C)->M (aD×M C)|_,[]=>[]|i,b::a=>(.aC i,b)::va (i+1) a
def AF(args:M SV)(aI:M (M C)):PS:={cm:=u7 0 args,aI:=va 0 aI,args}
section
variable{K:de}{β:aD->Option Nat}{ω:Nat->Option cT}{Z:Nat->Prop}{s:St}{a:Act}{w:World}{af:bO}
def yd(a:Act):nQ->Sem aL|.tmp t=>pure (a.tmps.getD t undef)|.cell b t=>do loadVar t (<-asAddr (a.tmps.getD b undef))
def ajq(hT:ib K.P af)(h:aZ K β ω Z s a w){r:nQ}{v:SV}{s':St}(f:(AA af r).aE s=J (v,s')):s'=s/\∃u,(yd a r).run K.P w=.ok u w/\bQ (aS K β Z s a w) u v/\(∀c∈v.cells,cP c):=by
 cases r with
 |tmp t=>simp only[AA]at f;let⟨o,h1,h2,h3⟩:=iM h f;exact⟨o,_,rfl,h1,h2⟩
 |cell b t=>
  simp only[AA]at f;split at f;rename_i i p;let⟨c,q,h1,d⟩:=aT f;let⟨j,G,l,y⟩:=gs h h1;subst j;let⟨k,x,z,A,B⟩:=V7 h (hT.T t i p) l d;refine⟨k,x,?_,A,B⟩;have C:∃m,a.tmps.getD b undef=.pointer (J m):=by have e:aS K β Z q a w c (a.tmps.getD b undef):=l;unfold sw at d;split at d;let⟨n,_,g⟩:=e;exact⟨_,g⟩;let⟨n,D,g,_⟩:=e;exact⟨_,g⟩;let⟨n,D,g,_⟩:=e;exact⟨_,g⟩;simp[aw.aE]at d
  let⟨m,E⟩:=C;have F:(Cz t (a.tmps.getD b undef)).run K.P w=.ok x w:=z;simp_all [yd,Cz,Instr.sureAddr,asAddr];simp[aw.aE]at f
def X7{α:Type}{P:er}{w:World}(f:α->Sem aL):∀(l:M α)(us:M aL),aR (λx u=>(f x).run P w=.ok u w) l us->(l.mapM f).run P w=.ok us w|[],[],_=>rfl|x::l,u::us,h=>by have h1:=h.1;have h2:=X7 f l us h.2;simp_all
def ajr(hT:ib K.P af)(h:aZ K β ω Z s a w):∀(rs:M nQ)(vs:M SV)(s':St),(AB af rs).aE s=J (vs,s')->s'=s/\∃us,aR (λr u=>(yd a r).run K.P w=.ok u w) rs us/\aR (λu v=>bQ (aS K β Z s a w) u v/\(∀c∈v.cells,cP c)) us vs:=by
 intro rs;induction rs with
 |nil=>intro vs s' b;obtain⟨rfl,rfl⟩:=bh b;exact⟨rfl,[],trivial,trivial⟩
 |cons r rs f=>intro vs s' b;simp only[AB]at b;let⟨v1,m,h1,d⟩:=aT b;let⟨g,n,h2,e⟩:=aT d;obtain⟨rfl,rfl⟩:=bh e;obtain⟨rfl,u,i,j⟩:=ajq hT h h1;obtain⟨rfl,us,k,l⟩:=f _ _ h2;exact⟨rfl,u::us,⟨i,k⟩,⟨j,l⟩⟩
def ajs{fn:Func}{us:M aL}(h:aR (λr u=>(yd a r).run K.P w=.ok u w) (V fn.results) us):(results fn a.tmps).run K.P w=.ok (uX us) w:=by
 have h1:=X7 (P:=K.P) (w:=w) (yd a) _ us h;have h2:results fn a.tmps=(do let vs <-fn.results.mapM (yd a);pure (if h:vs.size=1 then vs[0]else .tuple vs)):=by unfold results;congr 1
 rw[h2,Array.mapM_eq_mapM_toList];simp only[map_eq_pure_bind,bind_assoc,pure_bind];have:∀(v:aL),uX us=v->(List.mapM (yd a) (V fn.results) >>= λa=>(pure (if h:(ve a).size=1 then (ve a)[0]else Value.tuple (ve a)):Sem aL)).run K.P w=.ok v w:=by
  intro v hv;simp only[dB,h1];simp;subst hv;match us with|[]=>rfl|[u]=>rfl|u::u'::us=>simp[uX]
 exact this _ rfl
def CB(K:de)(β:aD->Option Nat)(Z:Nat->Prop)(s:St)(a:Act)(w:World)(u:aL)(c:C):Prop:=aS K β Z s a w c u/\∀(e:Nat)(xs:M (M D))(b:Nat),c=.ak e xs->eG u=J b->b<w.heap.size
theorem CB.lift{ω':Nat->Option cT}{Z':Nat->Prop}{s':St}(b:aZ K β ω Z s a w)(k:dC K β a ω Z s w ω' Z' s' w){u:aL}{c:C}(h:CB K β Z s a w u c):CB K β Z' s' a w u c:=⟨k.li b.dp h.2 h.1,h.2⟩
theorem ajt{i j:Nat}{x:RV}{y:bY}{s s':St}(a:(oZ (.bP i) j x).aE s=J (y,s')):∀k,s' (.box k)=s (.box k):=by intro k;unfold oZ at a;split at a;simp only[eo,aw.aE,Option.some.injEq,gH]at a;obtain⟨_,rfl⟩:=a;simp[St.set];grind [bh];simp[aw.aE]at a
def X8(h:aZ K β ω Z s a w){c c':C}{u:aL}{s':St}(b:CB K β Z s a w u c)(d:(x9 c).aE s=J (c',s')):(∃ω' Z',aZ K β ω' Z' s' a w/\dC K β a ω Z s w ω' Z' s' w/\CB K β Z' s' a w u c')/\(∀(e:Nat)(xs:M (M D)),c'=C.ak e xs->c=C.ak e xs)/\(∀k,s' (.box k)=s (.box k)):=by unfold x9 at d;split at d;rename_i i j hv cv e k xs;let⟨x,m,h1,f⟩:=aT d;obtain⟨rfl,rfl⟩:=bh f;let⟨ω',Z',g,k1,d1⟩:=Dd h b.1 h1;refine⟨⟨ω',Z',g,k1,d1,by simp⟩,by simp,?_⟩;simp only[mv,aw.aE]at h1;let⟨_,n,l,h1⟩:=aT h1;obtain⟨_,rfl⟩:=cN l;let⟨_,o,p,h1⟩:=aT h1;grind [bh,ajt];grind [bh,dC.refl]
def X9:∀(cs:M C)(us:M aL)(ω:Nat->Option cT)(Z:Nat->Prop)(s s':St)(cs':M C),aZ K β ω Z s a w->aR (CB K β Z s a w) us cs->(uW cs).aE s=J (cs',s')->(∃ω' Z',aZ K β ω' Z' s' a w/\dC K β a ω Z s w ω' Z' s' w/\aR (CB K β Z' s' a w) us cs')/\(∀(j e:Nat)(xs:M (M D)),cs'[j]?=J (C.ak e xs)->cs[j]?=J (C.ak e xs))/\(∀k,s' (.box k)=s (.box k)):=by
 intro cs;induction cs with
 |nil=>intro us ω Z s s' cs' h b d;obtain⟨rfl,rfl⟩:=bh d;grind [dC.refl]
 |cons c cs o=>
  intro us ω Z s s' cs' h b d;cases us with|nil=>exact aaY b|cons u us=>simp only[uW]at d;let⟨c1,p,h1,f⟩:=aT d;let⟨g,B,h2,i⟩:=aT f;obtain⟨rfl,rfl⟩:=bh i;let⟨⟨l,q,n,k1,r⟩,E,t⟩:=X8 h b.1 h1;let⟨⟨m,v,x,k2,y⟩,F,z⟩:=o us l q p _ g n (aR.mono (λ_ _ A=>A.lift h k1) b.2) h2;refine⟨⟨m,v,x,k1.trans k2,r.lift n k2,y⟩,?_,λk=>aav (z k) (t k)⟩;grind
def VR(K:de)(β:aD->Option Nat)(Z:Nat->Prop)(s:St)(a:Act)(w:World)(u:aL)(v:SV):Prop:=bQ (aS K β Z s a w) u v/\(∀c∈v.cells,cP c)
theorem VR.lift{ω':Nat->Option cT}{Z':Nat->Prop}{s':St}{w':World}(d:aZ K β ω Z s a w)(k:dC K β a ω Z s w ω' Z' s' w'){u:aL}{v:SV}(h:VR K β Z s a w u v):VR K β Z' s' a w' u v:=⟨bQ.mono (λc _ f b=>k.li d.dp (λe xs _ g _=>cJ g (h.2 c f e xs)) b) h.1,h.2⟩
def I1:SV->Prop|.one _|.agg _=>dL|_=>jc
def aju(h:aZ K β ω Z s a w){v v':SV}{u:aL}{s':St}(hv:VR K β Z s a w u v)(g:(qi v).aE s=J (v',s')):∃ω' Z',aZ K β ω' Z' s' a w/\dC K β a ω Z s w ω' Z' s' w/\VR K β Z' s' a w u v'/\I1 v':=by
 cases v with
 |one c=>simp only[qi]at g;let⟨c1,q,h1,d⟩:=aT g;obtain⟨rfl,rfl⟩:=bh d;have i:=hv.2 c (by simp[SV.cells]);let⟨⟨f,l,m,k1,n⟩,o,_⟩:=X8 h ⟨hv.1.2,λe xs _ b _=>cJ b (i e xs)⟩ h1;exact⟨f,l,m,k1,⟨⟨hv.1.1,n.1⟩,by intro x b;simp only[SV.cells,js]at b;subst b;exact λe xs b=>i e xs (o e xs b)⟩,trivial⟩
 |agg cs=>simp only[qi]at g;let⟨c1,q,h1,d⟩:=aT g;obtain⟨rfl,rfl⟩:=bh d;let⟨ws,r,k⟩:=hv.1;let⟨⟨f,l,m,k1,n⟩,o,_⟩:=X9 cs (V ws) ω Z s _ _ h (k.kO λu c p t=>⟨t,λe xs _ b _=>cJ b (hv.2 c p e xs)⟩) h1;refine⟨f,l,m,k1,⟨⟨ws,r,aR.mono (λ_ _ y=>y.1) n⟩,?_⟩,trivial⟩;intro c p e xs b;let⟨j,z⟩:=nL p;subst b;exact hv.2 _ (fG (o j e xs z)) e xs rfl
 |bw x=>simp[qi,aw.aE]at g|undef=>simp[qi,aw.aE]at g
def ajv:∀(vs:M SV)(us:M aL)(ω:Nat->Option cT)(Z:Nat->Prop)(s s':St)(vs':M SV),aZ K β ω Z s a w->aR (VR K β Z s a w) us vs->(AC vs).aE s=J (vs',s')->∃ω' Z',aZ K β ω' Z' s' a w/\dC K β a ω Z s w ω' Z' s' w/\aR (λu v=>VR K β Z' s' a w u v/\I1 v) us vs':=by
 intro vs;induction vs with
 |nil=>
  intro us ω Z s s' vs' h b c;obtain⟨rfl,rfl⟩:=bh c;cases us with|nil=>exact⟨ω,Z,h,dC.refl,trivial⟩|cons u us=>exact aaY b
 |cons v vs k=>
  intro us ω Z s s' vs' h b c;cases us with|nil=>exact aaY b|cons u us=>simp only[AC]at c;let⟨v1,l,h1,d⟩:=aT c;let⟨e,x,h2,f⟩:=aT d;obtain⟨rfl,rfl⟩:=bh f;let⟨g,m,j,k1,n,o⟩:=aju h b.1 h1;let⟨i,p,q,k2,r⟩:=k us g m l _ e j (aR.mono (λ_ _ t=>VR.lift h k1 t) b.2) h2;exact⟨i,p,q,k1.trans k2,⟨VR.lift j k2 n,o⟩,r⟩
def ajw{us:M aL}{vs:M SV}(h:aR (λu v=>VR K β Z s a w u v/\I1 v) us vs):VR K β Z s a w (uX us) (IZ vs):=by
 have gen:∀{us:M aL}{vs:M SV},aR (λu v=>VR K β Z s a w u v/\I1 v) us vs->aR (eB (aS K β Z s a w)) us (vs.map λv=>match v with|.one c=>(I,[c])|.agg cs=>(W,cs)|_=>(I,[]))/\∀c∈(vs.map λv=>match v with|.one c=>(I,[c])|.agg cs=>(W,cs)|_=>(I,([]:M C))).flatMap (·.2),cP c:=by
  intro us vs;induction vs generalizing us with
  |nil=>intro h;cases us with|nil=>exact⟨trivial,by simp⟩|cons=>exact aaY h
  |cons v vs g=>
   intro h;cases us with
   |nil=>exact aaY h|cons u us=>
    let⟨⟨⟨h1,h2⟩,h3⟩,i⟩:=h;let⟨b,d⟩:=g i;cases v with|one c=>refine⟨⟨?_,b⟩,?_⟩;simp only[eB,bM,ca];exact⟨c,rfl,h1.1,h1.2⟩;grind [SV.cells]|agg cs=>refine⟨⟨?_,b⟩,?_⟩;simp only[eB,bH];exact h1;grind [SV.cells]|bw x=>exact aaY h3|undef=>exact aaY h3
 match us,vs,h with
 |[u],[v],h=>exact h.1.1|[],[],h=>exact⟨⟨#[],rfl,trivial⟩,by simp[IZ,SV.cells]⟩|u::e::us,v::f::vs,h=>let⟨b,d⟩:=gen h;exact⟨⟨_,rfl,by simpa[uX]using b⟩,d⟩
 |[u],[],h=>exact aaY h|[],[v],h=>exact aaY h|[u],v::f::vs,h=>exact aaY h.2|u::e::us,[v],h=>exact aaY h.2|u::e::us,[],h=>exact aaY h|[],v::f::vs,h=>exact aaY h
def ajx(h:aZ K β ω Z s a w){k:aD}{y:bY}{s':St}(d:(settle k).aE s=J (y,s')){us:M aL}{vs:M SV}(hv:aR (VR K β Z s a w) us vs):∃ω' Z',aZ K β ω' Z' s' a w/\aR (VR K β Z' s' a w) us vs:=by
 unfold settle at d;simp only[aw.aE]at d;split at d;rename_i cs f;split at d;grind [bh];obtain⟨i,E,h1,d⟩:=aT d;simp only[eo,aw.aE,Option.some.injEq,gH]at d;obtain⟨_,rfl⟩:=d;obtain⟨b,ws,el,lo,hi,o,g2,p,F,C⟩:=eh.cell h f;have l:aR (CB K β Z s a w) ws.toList cs:=aR.dU C.length λj u c q g=>by obtain⟨u',r,G⟩:=C.aG g;rw[q]at r;cases r;refine⟨G,λe xs m H N=>?_⟩;subst H;have:=(h.ak (.box k) j e xs u m rfl (by rw[f];exact g) (by rw[nh o p];exact q) N).1;exact(h.dV _ _ this).2.1
 obtain⟨⟨x,P,z,k1,R⟩,r,m⟩:=X9 cs ws.toList ω Z s E i h l h1;obtain⟨D,S,T,V,X,f1,f2,f3,f4,f5⟩:=eh.cell z (by rw[m];exact f);rw[o]at f1;cases f1;rw[p]at f3;cases f3;obtain⟨t1,t2⟩:=z.N5 (k:=k) (b:=b) (w':=w) (cs:=i) f2 (.inr o) rfl rfl rfl rfl (λ_ _=>rfl) p F (aR.mono (λ_ _ t=>t.1) R) (λj e xs Y D g q A=>z.ak (.box k) j e xs Y D rfl (by rw[m,f];exact r j e xs g) (by rw[nh o p];exact q) A);have B:(λk'=>if k'=k then J b else β k')=β:=by grind
 rw[B,m]at t1 t2;refine⟨x,P,t1,aR.mono (λu v t=>?_) hv⟩;have n:=t.lift h k1;exact⟨bQ.mono (λc u g hr=>t2 c u (λe xs _ hx _=>cJ hx (t.2 c g e xs)) hr) n.1,n.2⟩;simp[aw.aE]at d
def Ya:∀(ks:M aD)(ω:Nat->Option cT)(Z:Nat->Prop)(s s':St)(y:bY),aZ K β ω Z s a w->(AE ks).aE s=J (y,s')->∀{us:M aL}{vs:M SV},aR (VR K β Z s a w) us vs->∃ω' Z',aZ K β ω' Z' s' a w/\aR (VR K β Z' s' a w) us vs
 |[],ω,Z,s,s',y,h,b,us,vs,hv=>by obtain⟨_,rfl⟩:=bh b;grind
 |k::ks,ω,Z,s,s',y,h,b,us,vs,hv=>by simp only[AE]at b;let⟨_,d,h1,b⟩:=aT b;let⟨c,e,f,v1⟩:=ajx h h1 hv;exact Ya ks c e d s' _ f b v1
def OC(ks:M aD)(c c':C):Prop:=(∀(K b:de)(β:aD->Option Nat)(Z:Nat->Prop)(s s':St)(a d:Act)(w:World)(u:aL),aS K β Z s a w c u->aS b (gM ks β) Z s' d w c' u)/\(∀(e:Nat)(xs:M (M D)),c'=C.ak e xs->c=C.ak e xs)
def Yb{ks:M aD}{c c':C}{s':St}(a:(ya ks c).aE s=J (c',s')):s'=s/\OC ks c c':=by
 unfold ya at a;split at a;obtain⟨rfl,rfl⟩:=bh a;exact⟨rfl,λ_ _ _ _ _ _ _ _ _ _ h=>h,λ_ _ h=>h⟩;obtain⟨rfl,rfl⟩:=bh a;exact⟨rfl,λ_ _ _ _ _ _ _ _ _ _ h=>h,λ_ _ h=>h⟩;let⟨_,i,h1,d⟩:=aT a;obtain⟨hk,rfl⟩:=cN h1;obtain⟨rfl,rfl⟩:=bh d;exact⟨rfl,λ_ _ β _ _ _ _ _ _ _⟨b,f,e⟩=>⟨b,by rw[rr hk];exact f,e⟩,by simp⟩;let⟨_,i,h1,d⟩:=aT a;obtain⟨hk,rfl⟩:=cN h1;obtain⟨rfl,rfl⟩:=bh d;refine⟨rfl,λ_ _ β _ _ _ _ _ _ _⟨vs,f,e⟩=>⟨vs,f,?_⟩,by simp⟩;subst hk;cases g:V vs with|nil=>trivial|cons x xs=>rw[g]at e;exact aaY e
 simp[aw.aE]at a
def O5{ks:M aD}:∀{cs cs':M C}{s s':St},(uY ks cs).aE s=J (cs',s')->s'=s/\aR (OC ks) cs cs'
 |[],_,_,_,a=>by obtain⟨rfl,rfl⟩:=bh a;exact⟨rfl,trivial⟩
 |c::cs,cs',s,s',a=>by simp only[uY]at a;let⟨c1,f,h1,a⟩:=aT a;let⟨b,g,h2,a⟩:=aT a;obtain⟨rfl,rfl⟩:=bh a;obtain⟨rfl,d⟩:=Yb h1;obtain⟨rfl,e⟩:=O5 h2;exact⟨rfl,d,e⟩
def Yc{ks:M aD}:∀{vs c:M (ay×M C)}{s s':St},(yb ks vs).aE s=J (c,s')->s'=s/\aR (λx y=>x.1=y.1/\aR (OC ks) x.2 y.2) vs c
 |[],_,_,_,a=>by obtain⟨rfl,rfl⟩:=bh a;exact⟨rfl,trivial⟩
 |(b,cs)::vs,c,s,s',a=>by simp only[yb]at a;let⟨c1,g,h1,a⟩:=aT a;let⟨d,h,h2,a⟩:=aT a;obtain⟨rfl,rfl⟩:=bh a;obtain⟨rfl,e⟩:=O5 h1;obtain⟨rfl,f⟩:=Yc h2;exact⟨rfl,⟨rfl,e⟩,f⟩
theorem aR.comp{α β d:Type}{R:α->β->Prop}{S:β->d->Prop}{T:α->d->Prop}(hT:∀a b c,R a b->S b c->T a c):∀{as:M α}{e:M β}{cs:M d},aR R as e->aR S e cs->aR T as cs|[],[],[],_,_=>trivial|_::_,_::_,_::_,h,k=>⟨hT _ _ _ h.1 k.1,aR.comp hT h.2 k.2⟩
def Yd{R:C->C->Prop}:∀{xs ys:M (ay×M C)},aR (λx y=>x.1=y.1/\aR R x.2 y.2) xs ys->aR R (xs.flatMap (·.2)) (ys.flatMap (·.2))|[],[],_=>trivial|_::_,_::_,h=>by simp only[kK];exact aR.append h.1.2 (Yd h.2)
def ajy{ks:M aD}{v v':SV}{s s':St}(d:(oa ks v).aE s=J (v',s')):s'=s/\aR (OC ks) v.cells v'.cells/\∀(R e:C->aL->Prop),(∀c c' u,OC ks c c'->R c u->e c' u)->∀u,bQ R u v->bQ e u v':=by
 cases v with
 |one c=>simp only[oa]at d;let⟨c1,l,h1,d⟩:=aT d;obtain⟨rfl,rfl⟩:=bh d;obtain⟨rfl,g⟩:=Yb h1;exact⟨rfl,⟨g,trivial⟩,λR e f u m=>⟨m.1,f _ _ _ g m.2⟩⟩
 |agg cs=>simp only[oa]at d;let⟨c1,l,h1,d⟩:=aT d;obtain⟨rfl,rfl⟩:=bh d;obtain⟨rfl,g⟩:=O5 h1;exact⟨rfl,g,λR e f u⟨ws,i,j⟩=>⟨ws,i,aR.comp (T:=λu c=>e c u) (λu b c h k=>f b c u k h) j g⟩⟩
 |bw vs=>
  simp only[oa]at d;let⟨c1,l,h1,d⟩:=aT d;obtain⟨rfl,rfl⟩:=bh d;obtain⟨rfl,g⟩:=Yc h1;refine⟨rfl,Yd g,λR e f u⟨ws,i,j⟩=>⟨ws,i,aR.comp (λa b c h k=>?_) j g⟩⟩;unfold eB at h ⊢;let⟨k1,k2⟩:=k;rw[<-k1];split;grind [aR.comp];rename_i n;simp only[n]at h;let⟨x,o,p,q⟩:=h;rw[o]at k2;match c.2,k2 with|[y],k2=>exact⟨y,rfl,p,f _ _ _ k2.1 q⟩
 |undef=>simp[oa,aw.aE]at d
def Ye{n i:Nat}(h:i<n):(jM n)[i]?=J (.aC i):=by simp[jM,h]
theorem Yf(n:Nat):(jM n).Nodup:=by grind [jM,List.nodup_range]
theorem ajz(a:Nat)(cs:M C):(uZ a cs).Nodup:=by grind [uZ,Yf,Ax,jM,aD.isIn]
theorem ajA{a i:Nat}(h:i<a)(cs:M C):(uZ a cs)[i]?=J (.aC i):=by unfold uZ;rw[pO (by simp[jM,h]),Ye h]
theorem ajB(v:SV)(j l:Nat):(o8 v j).cells[l]?=v.cells[l]? \/∃e ys,v.cells[l]?=J (.ak e ys)/\(o8 v j).cells[l]?=J (.d (.sl e ys)):=by grind [o8,rm]
def Yg:∀(l:M (Nat×Nat))(args:M SV)(i j:Nat),(H (ld l args) i .undef).cells[j]?=(H args i .undef).cells[j]? \/∃e ys,(H args i .undef).cells[j]?=J (.ak e ys)/\(H (ld l args) i .undef).cells[j]?=J (.d (.sl e ys))
 |[],args,i,j=>.inl rfl|(a,b)::l,args,i,j=>by
  simp only[ld];have h1:(H (args.set a (o8 (H args a .undef) b)) i .undef).cells[j]?=(H args i .undef).cells[j]? \/∃e ys,(H args i .undef).cells[j]?=J (.ak e ys)/\(H (args.set a (o8 (H args a .undef) b)) i .undef).cells[j]?=J (.d (.sl e ys)):=by grind [ajB]
  rcases Yg l (args.set a (o8 (H args a .undef) b)) i j with h2|⟨e,ys,h2,h3⟩
  rw[h2];exact h1;grind
theorem Yh:∀(l:M (Nat×Nat))(args:M SV),Y (ld l args)=Y args|[],_=>rfl|(i,j)::l,args=>by simp[ld,Yh l]
def AG(ks:M aD)(ω:Nat->Option cT)(b:Nat):Option cT:=
 match ω b with|some (.tmp 0,j)=>J (.tmp 0,j)|_=>gv ks ω b
def ajC{ks:M aD}{b:Nat}{g:cT}(h:AG ks ω b=J g):∃g',ω b=J g':=by grind [AG,gv]
def ajD{P:er}{N:Nat}{w0:World}{vals:bZ aL}{ka:aD->Option Nat}{f:Nat->Option cT}{Z0:Nat->Prop}{args:M SV}{r:qX}{fn:Func}{nb:Nat}
  (hT:ib P af)(h:aZ (cW P N w0 vals ka f Z0) β ω Z s a w)(hsz:vals.size=args.length)(hok:args.all ln=W){e0:Act}{s0:St}{w1:World}
  (hent:∀i,bQ (aS (cW P 0 w0 vals ka f Z0) ka Z0 s0 e0 w1) (vals.getD i undef) (args.getD i .undef))
  (G:∀k b,ka k=J b->∃i,i<nb/\k=.aC i)
  {s':St}(he:(yc af fn.results.toList nb).aE s=J ((r.v,r.aI),s'))(H:∀i,i<args.length->(s' (.bP i)).v=(ld r.cI args).getD i .undef):
  ∃u β' ω' Z',(results fn a.tmps).run P w=.ok u w/\aZ (cW P 1 w0 vals ka f Z0) β' ω' Z' (eV args r) {tmps:=#[u],defers:=[]} w:=by
 unfold yc at he
 obtain⟨vs,s1,h1,S⟩:=aT he
 obtain⟨hs1,us,Du,hvs⟩:=ajr (K:=cW P N w0 vals ka f Z0) hT h _ _ _ h1
 rw[hs1]at S
 generalize hks:uZ nb (vs.flatMap SV.cells)=ks at S
 obtain⟨_,s2,h2,qd⟩:=aT S
 obtain⟨Il,Z1,r1,v1⟩:=Ya _ _ _ _ _ _ h h2 hvs
 obtain⟨vs1,s3,h3,Dq⟩:=aT qd
 obtain⟨XN,Z2,r2,k2,v2⟩:=ajv _ _ _ _ _ _ _ r1 v1 h3
 have hv:=ajw v2
 obtain⟨v3,s4,h4,Av⟩:=aT Dq
 obtain⟨T,Z3,n,k3,p3⟩:=V1 r2 hv.1 hv.2 h4
 obtain⟨bs,s5,h5,Wg⟩:=aT Av
 obtain⟨hs5,Ay,Yi⟩:=Xe _ s5 bs h5
 rw[hs5]at Wg
 obtain⟨v5,s6,h6,he6⟩:=aT Wg
 obtain⟨hv6,OM⟩:=bh he6
 obtain⟨OR,D,hout⟩:=ajy h6
 have hv7:r.v=v5:=cb Prod.fst hv6
 have hb7:r.aI=bs:=cb Prod.snd hv6
 have hs':s'=s4:=by rw[OM,OR]
 rw[hs']at H
 have hnd:ks.Nodup:=by grind [ajz]
 have hinb:∀i,i<nb->ks[i]?=J (.aC i):=λi y=>by grind [ajA]
 have hidx:∀i,i<nb->gM ks β (.aC i)=β (.aC i):=λi y=>by
  have:=rr (fG (hinb i y)) β
  grind [ru]
 refine⟨uX us,gM ks β,AG ks T,Z3,ajs (K:=cW P N w0 vals ka f Z0) Du,?_⟩
 have R:∀(k:aD)(cs':M C),(eV args r (.box k)).v=.agg cs'->∃i k' cs,k=.aC i/\ks[i]?=J k'/\(s4 (.box k')).v=.agg cs/\cs'=cs.map (tc ks)/\cs.all (tok ks)=W:=by
  intro k cs hk
  cases k with
  |aC i=>
   grind [eV]
  |az t=>simp[eV]at hk
  |cn t i=>simp[eV]at hk
 have hω:∀(i:Nat)(k':aD)(j:Option Nat)(b:Nat),ks[i]?=J k'->T b=J (.box k',j)->AG ks T b=J (.box (.aC i),j):=by
  grind [AG,gv,ru]
 have A:∀i,(eV args r (.bP i)).v=if i<args.length then(s4 (.bP i)).v else .undef:=by
  intro i
  show(ld r.cI args).getD i .undef=_
  grind [Yh]
 refine⟨rfl,⟨rfl,n.defers.2⟩,n.os,n.tape,n.output,n.base,n.frame,n.dp,n.lV,?_,?_,?_,?_,?_,?_,?_,?_⟩
 ·intro b hb
  rcases n.ng b hb with g|g|g|⟨i,j,e,ys,u0,g1,g2,g3⟩
  ·exact .inl g
  ·exact .inr (.inl g)
  ·exact .inr (.inr (.inl g))
  ·refine .inr (.inr (.inr ⟨i,j,e,ys,u0,?_,g2,g3⟩))
   have y:i<args.length:=by
    rw[<-hsz]
    by_cases y:i<vals.size
    ·exact y
    ·exfalso
     have OU:(ey (vals.getD i undef))[j]?=J u0:=g2
     simp_all [undef,ey]
   grind
 ·intro t
  cases t with
  |zero=>
   show bQ _ (uX us) r.v
   rw[hv7]
   exact hout (aS (cW P N w0 vals ka f Z0) β Z3 s4 a w) (aS (cW P 1 w0 vals ka f Z0) (gM ks β) Z3 (eV args r) {tmps:=#[uX us],defers:=[]} w) (λc c' u m B=>m.1 _ _ _ _ _ _ _ _ _ _ B) _ p3.1
  |succ t=>exact trivial
 ·intro i
  rw[A]
  split
  ·rename_i y
   refine bQ.nZ (λj c u m hu B=>?_) (n.args i)
   have z:=Yg r.cI args i j
   rw[<-H i y,m]at z
   have V:∀c0,(args.getD i .undef).cells[j]?=J c0->qh c0=W:=λc0 X=>by
    grind [ln,List.getElem_mem]
   cases c with
   |d x=>exact B
   |ak e xs=>exact B
   |bN=>trivial
   |da xs=>exact B
   |_=>
    rcases z with z|⟨e,ys,_,z⟩
    ·have X:=z.symm
     obtain⟨u',q1,q2⟩:=(hent i).cell X
     have E:=V _ X
     first
      |(cases E;done)
      |(obtain⟨b0,f1,_⟩:=q2
        obtain⟨i0,hi0,rfl⟩:=G _ _ f1
        obtain⟨b,f2,f3⟩:=B
        exact⟨b,by grind,f3⟩)
      |(obtain⟨vs0,f1,f2⟩:=q2
        obtain⟨vs2,f3,f4⟩:=B
        refine⟨vs2,f3,f4.kO λu p hp⟨b,t1,t2⟩=>?_⟩
        obtain⟨l,hl⟩:=nL hp
        obtain⟨u0,_,b0,t3,_⟩:=f2.aG hl
        grind)
    ·cases z
  ·trivial
 ·intro k
  cases o:(eV args r (.box k)).v with
  |agg cs=>
   obtain⟨i,k',Y,rfl,y,g1,rfl,g2⟩:=R k cs o
   obtain⟨b,ws,el,lo,hi',f1,f2,f3,f4,f5⟩:=eh.cell n g1
   refine⟨b,ws,el,lo,hi',?_,hω i k' O b y f2,f3,f4,f5.IH λu c m B=>Xg (Xf g2 m) B⟩
   have:=rr (fG y) β
   grind [ru]
  |undef=>
   show gM ks β k=O
   cases VQ:gM ks β k with
   |none=>rfl
   |some b=>
    grind [Xk,eV]
  |one c=>cases k<;>simp only[eV]at o<;>(try (split at o))<;>cases o
  |bw c=>cases k<;>simp only[eV]at o<;>(try (split at o))<;>cases o
 ·intro q j e xs u1 b1 B m hh F
  cases q with
  |tmp t=>
   cases t with
   |zero=>
    have hc':r.v.cells[j]?=J (.ak e xs):=m
    rw[hv7]at hc'
    obtain⟨c0,q1,q2⟩:=D.aG hc'
    have:=q2.2 e xs rfl
    subst this
    have hp:=(p3.2 j _ _ q1 hh).2 e xs b1 rfl F
    simp_all [AG]
   |succ t=>simp[eV,SV.cells]at m
  |bP i=>simp[aO.isArg]at B
  |box k=>
   cases hv:(eV args r (.box k)).v with
   |agg cs=>
    obtain⟨i,k',Y,rfl,y,g1,rfl,g2⟩:=R k cs hv
    rw[hv]at m
    have m:(Y.map (tc ks))[j]?=J (.ak e xs):=m
    have hc0:Y[j]?=J (.ak e xs):=by
     grind [Xh]
    have VQ:gM ks β (.aC i)=β k':=by
     have:=rr (fG y) β
     grind [ru]
    have OZ:cK (cW P N w0 vals ka f Z0) β a w (.box k') j=J u1:=by
     simp_all [cK]
    obtain⟨p1,p2⟩:=n.ak (.box k') j e xs u1 b1 rfl (by rw[g1];exact hc0) OZ F
    grind
   |undef=>simp_all [SV.cells]
   |one c=>cases k<;>simp only[eV]at hv<;>(try (split at hv))<;>cases hv
   |bw c=>cases k<;>simp only[eV]at hv<;>(try (split at hv))<;>cases hv
 ·intro i j e xs u1 b1 m hh F
  rw[A]at m
  split at m
  ·exact n.iL i j e xs u1 b1 m hh F
  ·simp[SV.cells]at m
 ·intro b g hb
  obtain⟨g',hg'⟩:=ajC hb
  exact n.dV b g' hg'
 ·intro k b hb
  obtain⟨i,y,rfl⟩:=G k b hb
  rw[hidx i y]
  exact n.n5 _ b hb
end
end
theorem Yj(t:Nat):∀(args:List SV)(i:Nat),lk t (u7 i args)=if i<=t/\t<i+Y args then J (I0 t (H args (t-i) .undef))else O|[],i=>by simp[u7,lk]|v::vs,i=>by simp only[u7,O4];by_cases h:t=i;subst h;simp;rw[aU h,Yj t vs (i+1)];grind
theorem Yk:∀(a:List (List C))(i:Nat)(k:aD),nX k (va i a)=match k with|.aC l=>if i<=l then a[l-i]? else O|_=>O
 |[],i,k=>by cases k<;>simp[va,nX]
 |b::a,i,k=>by simp only[va,nX];rw[Yk a (i+1) k];grind
section
variable{P:Program}{w:World}{vals:Array Value}{β:aD->Option Nat}{ω:Nat->Option cT}{Z:Nat->Prop}{args:List SV}{aI:List (List C)}
def Yl(t:Nat):((AF args aI).st (.tmp t)).v=if t<Y args then RV.gq {v:=H args t .undef} (.bP t)else .undef:=by show(X (lk t (u7 0 args))) .undef=_;grind [Yj,I0]
def Ym(k:aD):((AF args aI).st (.box k)).v=(dm args aI (.box k)).v:=by
 show(match nX k (va 0 aI)with|some cs=>SV.agg cs|none=>.undef)=_
 grind [Yk,dm]
def I2(a:args.all ln=W){i j:Nat}{c:C}(b:(H args i .undef).cells[j]?=J c):qh c=W:=by
 rw[List.getD_eq_getElem?_getD]at b;cases d:args[i]? with|none=>simp_all [SV.cells]|some v=>rw[d]at b;have:=List.all_eq_true.1 a v (List.mem_of_getElem? d);exact List.all_eq_true.1 this c (List.mem_of_getElem? b)
def ajH{N:Nat}(a:aZ (cW P 0 w vals β ω Z) β ω Z (dm args aI) {tmps:=#[],defers:=[]} w)(G:vals.size=args.length)(y:args.all ln=W)(H:aI.all (λb=>b.all (ju aI.length))=W)(hN:args.length<=N):aZ (cW P N w vals β ω Z) β ω Z (AF args aI).st {tmps:=vals++Array.replicate (N-vals.size) undef,defers:=[]} w:=by
 have z:∀(i j:Nat)(c:C)(u:Value),qh c=W->aS (cW P 0 w vals β ω Z) β Z (dm args aI) {tmps:=#[],defers:=[]} w c u->aS (cW P N w vals β ω Z) β Z (AF args aI).st {tmps:=vals++Array.replicate (N-vals.size) undef,defers:=[]} w c u:=by intro i j c u g h;cases c<;>first|(cases g;done)|exact h
 refine⟨?_,⟨rfl,a.defers.2⟩,a.os,a.tape,a.output,a.base,a.frame,a.dp,a.lV,?_,?_,?_,?_,?_,?_,a.dV,a.n5⟩;show(vals++Array.replicate (N-vals.size) undef).size=N;simp;omega;exact a.ng;intro t;rw[Yl];split;rename_i ht;have B:=a.gq (r:=.bP t) (a.args t) (λ_=>rfl);have A:(vals++Array.replicate (N-vals.size) undef).getD t undef=vals.getD t undef:=by simp_all [Array.getElem?_append_left]
 show bQ _ ((vals++Array.replicate (N-vals.size) undef).getD t undef) _;rw[A];refine bQ.nZ (λj c u g K o=>?_) B.1;have m:=g;rw[Ic,xJ]at m;simp only at m;cases p:(args.getD t .undef).cells[j]? with
 |none=>grind|some c0=>
  rw[p]at m;simp only[Option.map_some,Nat.zero_add,Option.some.injEq]at m;have l:=I2 y p;subst m;cases c0 with
  |ak e xs=>exact o|bm=>cases l
  |ea=>cases l
  |da=>cases l
  |bN=>cases l
  |d x=>exact o|aX k off=>exact o|dj f caps=>exact o
 trivial;intro i;refine bQ.nZ (λj c u g K o=>?_) (a.args i);exact z i j c u (I2 y g) o;intro k;rw[Ym];have s:=a.aI k;cases hv:(dm args aI (.box k)).v with
 |agg cs=>
  let⟨b,ws,el,R,S,T,V,X,Y,g5⟩:=eh.cell a hv;refine⟨b,ws,el,R,S,T,V,X,Y,g5.kO λu c g o=>aiL (n:=aI.length) (Xj ?_ g) o⟩;cases k with|aC i=>grind [dm]|az t=>simp[dm]at hv|cn t i=>simp[dm]at hv
 |undef=>rw[hv]at s;exact s|one c=>rw[hv]at s;exact aaY s|bw c=>rw[hv]at s;exact aaY s
 intro r j e xs D E o g F q;cases r with
 |tmp t=>
  rw[Yl]at g;split at g;exfalso;rw[Ic,xJ]at g;cases p:(args.getD t .undef).cells[j]? with|none=>grind|some c0=>simp only at g;rw[p]at g;simp only[Option.map_some,Option.some.injEq]at g;exact Oa _ _ _ _ e xs g
  simp[SV.cells]at g
 |bP i=>simp[aO.isArg]at o|box k=>rw[Ym]at g;exact a.ak (.box k) j e xs D E rfl g F q
 intro i j e xs D E g F q;exact a.iL i j e xs D E g F q
def I3(c:aZ (cW P 0 w vals β ω Z) β ω Z (dm args aI) {tmps:=#[],defers:=[]} w):∀k b,β k=J b->∃i,i<Y aI/\k=.aC i:=by
 intro k b a;have h:=c.aI k;cases k with
 |aC i=>
  by_cases d:i<Y aI;exact⟨i,d,rfl⟩;have hv:(dm args aI (.box (.aC i))).v=.undef:=by simp[dm,List.getElem?_eq_none (Nat.le_of_not_lt d)]
  rw[hv]at h;simp only[eh]at h;rw[h]at a;cases a
 |az t=>simp only[dm,eh]at h;rw[h]at a;cases a
 |cn t i=>simp only[dm,eh]at h;rw[h]at a;cases a
def iA(P:Program)(f:dS)(F:qY):Prop:=∀(args:List SV)(aI:List (List C))(r:qX),F args aI=J r->∀(w:World)(vals:Array Value)(β:aD->Option Nat)(ω:Nat->Option cT)(Z:Nat->Prop),vals.size=Y args->args.all ln=W->aI.all (λb=>b.all (ju (Y aI)))=W->aZ (cW P 0 w vals β ω Z) β ω Z (dm args aI) {tmps:=#[],defers:=[]} w->eA P f vals w λe w'=>∃v a ω' Z',e=.returned v/\aZ (cW P 1 w vals β ω Z) a ω' Z' (eV args r) {tmps:=#[v],defers:=[]} w'
def ajI{P:Program}{f:dS}{fn:Func}{c:Code}(b:P.funcs[f]?=J fn)(a:(fn.name== "runtime.NumGoroutine")=I)(d:fn.body=J c)(args:Array Value)(w:World):(callFunc f args).run P w=.ok (.enter f args) w:=by simp_all [callFunc]
theorem qj{f:dS}{fn:Func}{c:Code}{F:qY}(i:P.funcs[f]?=J fn)(a:(fn.name== "runtime.NumGoroutine")=I)(j:fn.body=J c)(h:iA P f F):lp P f F:=λargs aI r k w vals β ω Z d e g b=>.inl ⟨ajI i a j vals w,h args aI r k w vals β ω Z d e g b⟩
end
open Go.ChangeShapes
def I4(c:TypeId->M D->Prop):M (U×TypeId)->M D->Prop|[],ds=>ds=[]|(_,t)::r,ds=>∃a b,ds=a++b/\c t a/\I4 c r b
def oc(af:bO):U->TypeId->M D->Prop
 |0,_,_=>jc|n+1,t,ds=>match af.ti t with
  |some {kind:=.bool, ..}=>∃b,ds=[.bool b]|some {kind:=.int k, ..}=>∃x,ds=[.int k x]/\k.min<=x/\x<=k.max|some {kind:=.bj, ..}=>∃s,ds=[.bj s]/\Y s<=maxLen|some {kind:=.slice e, ..}=>match af.ti e with|some i=>ds=[.nil]\/∃xs,ds=[.sl i.size xs]/\Y xs<=maxLen/\∀x∈xs,oc af n e x|none=>jc
  |some {kind:=.struct fs, ..}=>I4 (oc af n) fs ds|_=>jc
def vf(af:bO)(p:TypeId->Bool):M (U×TypeId)->U->U->Bool
 |[],o,size=>o==size|(off,t)::r,o,size=>match af.ti t with|some i=>off==o&&p t&&vf af p r (o+i.size) size|none=>I
def pd(af:bO):U->TypeId->Bool
 |0,_=>I|n+1,t=>match af.ti t with
  |some {kind:=.bool,size, ..}=>size==1|some {kind:=.int _,size, ..}=>size==1|some {kind:=.bj,size, ..}=>size==1|some {kind:=.slice e,size, ..}=>size==1&&pd af n e&&(match af.ti e with|some i=>decide (0<i.size)&& !cf i.size|none=>I)
  |some {kind:=.struct fs,size, ..}=>vf af (pd af n) fs 0 size|_=>I
mutual
def vg:D->U|.bj s=>Y s+1|.sl _ xs=>pe xs+1|_=>1
def iN:M D->U|[]=>0|d::r=>vg d+iN r
def pe:M (M D)->U|[]=>0|x::r=>iN x+pe r
end
def I5:∀(a b:M D),iN (a++b)=iN a+iN b|[],b=>by simp[iN]|d::a,b=>by simp[iN,I5 a b];omega
structure rz(H:Type)where
 one:DataW H->Nat
 all:List (DataW H)->Nat
 bj:∀b,one (.lit (.string b))=Y b+1
 slice:∀x y,one (.slice x y)=all x+all y+1
 agg:∀x,one (.agg x)=all x+1
 pos:∀d,1<=one d
 nil:all []=0
 cons:∀d r,all (d::r)=one d+all r
def Yn{α β:Type}{f:α->Q β}:∀{l:M α}{r:M β},l.mapM f=J r->Y r=Y l/\∀(i:U)(x:α),l[i]?=J x->∃y,r[i]?=J y/\f x=J y|[],r,h=>by grind|a::l,r,h=>by simp only[List.mapM_cons,Option.bind_eq_bind,Option.pure_def]at h;let⟨b,d,h⟩:=Vn.1 h;let⟨e,c,h⟩:=Vn.1 h;cases h;let⟨h1,h2⟩:=Yn c;grind
def O6{w:World}{base:U}{a:Addr}{n:U}{cs:M Value}(h:w.cells? base a n=J cs):Y cs=n/\∀i,i<n->w.cell? (a.add i)=cs[i]? :=by unfold World.cells? at h;split at h;let⟨h1,h2⟩:=Yn h;simp only[List.length_range]at h1;refine⟨h1,λi b=>?_⟩;let⟨y,c,d⟩:=h2 i i (by simp[b]);rw[c];exact d;cases h
section
variable{H:Type}{enc:TypeId×Value->H}{P:Program}{w:World}{held:Bool}{af:bO}
def Yo(B:rz H):∀(l:M (jT H))(f:M (M D)),aR (λd x=>iN x<=B.one d) l f->pe f<=B.all l|[],[],_=>by simp[pe]|d::l,x::f,h=>by have:=Yo B l f h.2;have:=h.1;simp only[pe,B.cons];omega
def ajJ(hT:ib P af)(B:rz H){c:TypeId->M D->Prop}{p:TypeId->Bool}{fuel:U}{cs:M Value}{size:U}(r:cs.length=size) (u:∀t cs x,p t=W->Vo enc P w 0 (λ_=>W) held fuel t cs=J x->∃ds,aR (λv d=>bA w (λb=>b<w.heap.size) d v) cs ds/\c t ds/\iN ds<=B.one x.1):
  ∀(fs:M Field)(o:U)(xs:M (jT H×M MemPlace)),vf af p (fs.map λf=>(f.offset,f.type)) o size=W->o<=size->
   xs.length=fs.length->(∀(i:U)(f:Field),fs[i]?=J f->Vo enc P w 0 (λ_=>W) held fuel f.type ((cs.drop f.offset).take (P.cellsOf f.type))=xs[i]?)->
   ∃ds,aR (λv d=>bA w (λb=>b<w.heap.size) d v) (cs.drop o) ds/\I4 c (fs.map λf=>(f.offset,f.type)) ds/\iN ds<=B.all (xs.map (·.1)):=by
 intro fs
 induction fs with
 |nil=>intro o xs e z k h;simp only[List.map_nil,vf,dK]at e;refine⟨[],?_,rfl,by simp[iN]⟩;rw[List.drop_eq_nil_of_le (by omega)];trivial
 |cons f fs m=>
  intro o xs e z k h;simp only[fc,vf]at e;split at e;rename_i i A;simp only[Bool.and_eq_true,dK]at e;let⟨⟨h1,h2⟩,h3⟩:=e;have n:P.cellsOf f.type=i.size:=by let⟨info,d,C,S,E,_⟩:=sB (hT.T _ _ A);simp[Program.cellsOf,C,E]
  obtain⟨x,xs',rfl⟩:∃x xs',xs=x::xs':=by
   cases xs with|nil=>simp at k|cons x xs'=>exact⟨x,xs',rfl⟩
  have s:=h 0 f rfl;simp only[ij]at s;let⟨a,F,G,V⟩:=u _ _ _ h2 s;rw[n,h1]at F;have q:∀(l:M (U×TypeId))(o:U),vf af p l o size=W->o<=size:=by
   intro l;induction l with|nil=>simp_all [vf]|cons y l K=>grind [vf]
  have j:=q _ _ h3;let⟨b,X,N,Y⟩:=m (o+i.size) xs' h3 j (by simpa using k) (λl g R=>by have:=h (l+1) g (by simpa using R);simpa using this);refine⟨a++b,?_,⟨a,b,rfl,G,N⟩,?_⟩;grind [List.drop_drop,List.take_append_drop,aR.append];rw[I5,fc,B.cons];omega;cases e
def ajK(hT:ib P af)(B:rz H):∀(n:U)(t:TypeId)(fuel:U)(cs:M Value)(x:jT H×M MemPlace),pd af n t=W->Vo enc P w 0 (λ_=>W) held fuel t cs=J x->∃ds,aR (λv d=>bA w (λb=>b<w.heap.size) d v) cs ds/\oc af n t ds/\iN ds<=B.one x.1:=by
 intro n;induction n with
 |zero=>simp_all [pd]|succ n ih=>
  intro t fuel cs x q h;simp only[pd]at q;simp only[oc];split at q;rename_i size bytes zero c;let⟨d,hd,hk,_⟩:=fe (w:=w) (hT.T _ _ c);have:=Oh hk;subst this;obtain⟨b,rfl,rfl⟩:=DataW.trod_bool hd h;exact⟨[.bool b],⟨rfl,trivial⟩,⟨_,rfl⟩,by simpa[iN,vg]using B.pos _⟩;rename_i size bytes k zero c;let⟨d,hd,hk,_⟩:=fe (w:=w) (hT.T _ _ c);have:=xN hk;subst this;obtain⟨b,rfl,rfl,hwf⟩:=DataW.trod_int hd h;simp only[Lit.wf,Bool.and_eq_true,eW]at hwf;exact⟨[.int k b],⟨rfl,trivial⟩,⟨_,rfl,hwf⟩,by simpa[iN,vg]using B.pos _⟩;rename_i size bytes zero c;let⟨d,hd,hk,_⟩:=fe (w:=w) (hT.T _ _ c);have:=sC hk;subst this;obtain⟨b,rfl,rfl,hwf⟩:=DataW.trod_string hd h;refine⟨[.bj b.data.toList],⟨?_,trivial⟩,⟨_,rfl,?_⟩,?_⟩;simp[bA];simp_all;simp[iN,vg,B.bj];rename_i size bytes e zero c;let⟨d,hd,hk,_⟩:=fe (w:=w) (hT.T _ _ c);have:=n6 hk;subst this;simp only[Bool.and_eq_true]at q;let⟨⟨_,hpe⟩,g⟩:=q;split at g;rename_i i hi;obtain⟨g,S⟩:0<i.size/\cf i.size=I:=by simpa using g
  have s:P.cellsOf e=i.size:=by let⟨info,d,u,E,V,_⟩:=sB (hT.T _ _ hi);simp[Program.cellsOf,u,V]
  rcases DataW.trod_slice hd h with⟨rfl,rfl⟩|⟨a,len,cap,mx,rest,m,_,rfl,rfl,hb,hl,hm,r,X,Y,_⟩
  exact⟨[.nil],⟨rfl,trivial⟩,.inl rfl,by simpa[iN,vg]using B.pos _⟩;let⟨hrl,o⟩:=Y rfl;rw[s]at X o;have eI:∀(j:U)(y:jT H×M MemPlace),mx[j]?=J y->∃ds cs,w.cells? 0 (a.add (j*i.size)) i.size=J cs/\aR (λv d=>bA w (λb=>b<w.heap.size) d v) cs ds/\oc af n e ds/\iN ds<=B.one y.1:=by grind [Vn]
  let⟨f,N⟩:=Go.Deep.choose_lt (α:=M D) (n:=len) (p:=λj ds=>∃y cs,mx[j]?=J y/\w.cells? 0 (a.add (j*i.size)) i.size=J cs/\aR (λv d=>bA w (λb=>b<w.heap.size) d v) cs ds/\oc af n e ds/\iN ds<=B.one y.1) (λj hj=>by grind);have z:∀(j:U)(x:M D),((jq len).map f)[j]?=J x->j<len/\x=f j:=by grind
  have A:cap=0\/a.spot=O/\a.block<w.heap.size:=by
   rcases Nat.eq_zero_or_pos cap with hc|hc
   exact .inl hc;right;have C:∃v,w.cell? a=J v:=(by by_cases h0:0<len;let⟨y,cs,q1,F,Z⟩:=N 0 h0;let⟨u,E⟩:=O6 F;grind [Addr.add];have:=o 0 (by omega);rw[eD (by omega)]at this;let⟨cs,F,_⟩:=Vn.1 this;let⟨u,E⟩:=O6 F;grind [Addr.add]);let⟨v,hv⟩:=C;unfold World.cell? at hv;split at hv;rename_i hw;split at hv;cases hv;rename_i hs;exact⟨by simpa using hs,(pN.1 hw).1⟩;cases hv
  refine⟨[.sl i.size ((jq len).map f)],⟨(bA.hY S).2 ⟨a,cap,by simp,A,by simpa using hl,?_⟩,trivial⟩,.inr ⟨_,rfl,by grind,λx R=>?_⟩,?_⟩;refine dt.dU λj x R=>?_;obtain⟨hj,rfl⟩:=z j x R;let⟨y,cs,q1,F,Z,q4,q5⟩:=N j hj;let⟨u,E⟩:=O6 F;have hlx:(f j).length=i.size:=by rw[<-Z.length,u]
  refine⟨hlx,fC.dU λl d hd=>?_⟩;let⟨v,e1,e2⟩:=Z.aG hd;grind [rp,xI];grind;have G:aR (λ(d:jT H)(x:M D)=>iN x<=B.one d) (mx.map (·.1)) ((jq len).map f):=by grind [aR.dU]
  have:=Yo B _ _ G;simp only[iN,vg,B.slice];omega;cases g;rename_i size bytes fs zero c;let⟨d,hd,hk,_⟩:=fe (w:=w) (hT.T _ _ c);obtain⟨fields,rfl,rfl⟩:=De hk;obtain⟨xs,m,_,rfl,r,hxl,K⟩:=DataW.trod_struct hd h;have s:P.cellsOf t=size:=by let⟨info,d,u,E,V,_⟩:=sB (hT.T _ _ c);simp_all [Program.cellsOf]
  let⟨ds,u,E,V⟩:=ajJ hT B (aav r s) (λt cs x q R=>ih t m cs x q R) fields.toList 0 xs q (fZ _) (by simpa using hxl) (λi f N=>K i f (by simpa using N));grind [rz.agg];cases q
def rA(af:bO)(t:TypeId)(ds:M D):SV:=
 match af.ti t with|some i=>if i.kind.agg then .agg (ds.map .d)else .one (.d (ds.headD .nil))|none=>.undef
def Yp{α β c:Type}{R:α->c->Prop}(f:β->c):∀{as:M α}{d:M β},aR (λa b=>R a (f b)) as d->aR R as (d.map f)|[],[],_=>trivial|_::_,_::_,h=>⟨h.1,Yp f h.2⟩
def ajL{r:Reach}{base:U}{t:TypeId}{v:Value}{d:TypeDesc}(hd:aa9 P t=J d)(hk:(tk d).agg=I)(a:tk d=.bool\/(∃k,tk d=.int k)\/tk d=.bj\/∃e,tk d=.slice e)(h:Value.okWide P w r base t v):gU v=W:=by
 have:∃x,d=.bool\/d=.string\/(∃k,d=.int k)\/d=.slice x:=by
  rcases a with h|⟨k,h⟩|h|⟨e,h⟩
  ·exact⟨0,.inl (Oh h)⟩
  ·exact⟨0,.inr (.inr (.inl ⟨k,xN h⟩))⟩
  ·exact⟨0,.inr (.inl (sC h))⟩
  ·exact⟨e,.inr (.inr (.inr (n6 h)))⟩
 obtain⟨x,h1⟩:=this
 rcases h1 with rfl|rfl|⟨k,rfl⟩|rfl<;>
 ·simp only[Value.okWide,hd,Cell.okWide,Cell.ok]at h
  cases v<;>first|rfl|(exact aaY h)
def ajM(hT:ib P af)(B:rz H){n:U}{t:TypeId}{v:Value}{d:jT H}{ps:M MemPlace}{r:Reach}{base:U}(j:pd af n t=W)(g:Value.okWide P w r base t v)(h:DataW.Trod enc P w 0 (λ_=>W) held t v d ps):∃ds,oc af n t ds/\iN ds<=B.one d/\ln (rA af t ds)=W/\∀(K:de)(β:aD->Q U)(s:St)(a:Act),bQ (aS K β (λb=>b<w.heap.size) s a w) v (rA af t ds):=by
 let⟨fuel,p⟩:=h;let⟨ds,h1,h2,h3⟩:=ajK hT B n t fuel _ _ j p;refine⟨ds,h2,h3,?_⟩;cases n with|zero=>simp[pd]at j|succ n=>
 have c:∀(i:TI),af.ti t=J i->i.kind.agg=I->(i.kind=.bool\/(∃k,i.kind=.int k)\/i.kind=.bj\/∃e,i.kind=.slice e)->ln (rA af t ds)=W/\∀(K:de)(β:aD->Q U)(s:St)(a:Act),bQ (aS K β (λb=>b<w.heap.size) s a w) v (rA af t ds):=by
  intro i f o hk;let⟨d,hd,l,_⟩:=fe (w:=w) (hT.T _ _ f);rw[<-l]at o hk;have m:=ajL hd o hk g;rw[lT m]at h1;match ds,h1 with|[x],h1=>rw[l]at o;simp only[rA,f,o];exact⟨rfl,λK β s a=>⟨m,h1.1⟩⟩
 simp only[pd]at j;split at j;rename_i f;exact c _ f rfl (.inl rfl);rename_i f;exact c _ f rfl (.inr (.inl ⟨_,rfl⟩));rename_i f;exact c _ f rfl (.inr (.inr (.inl rfl)));rename_i f;exact c _ f rfl (.inr (.inr (.inr ⟨_,rfl⟩)));rename_i size bytes fs zero f;let⟨d,hd,hk,_⟩:=fe (w:=w) (hT.T _ _ f);obtain⟨fields,rfl,rfl⟩:=De hk;simp only[Value.okWide,hd]at g;obtain⟨cs,rfl,_⟩:=g;simp only[rA,f,TK.agg,bH];refine⟨by simp[ln,SV.cells,qh],λK β s a=>⟨cs,rfl,Yp _ h1⟩⟩;cases j
end
open Go.RowKit
def kc(af:bO):M TypeId->M (M D)->M SV|t::ts,ds::a=>rA af t ds::kc af ts a|_,_=>[]
section
variable{H:Type}{enc:TypeId×Value->H}{P:Program}{W:World}{af:bO}
theorem Yq:∀(ts:M TypeId)(a:M (M D)),Y a=Y ts->Y (kc af ts a)=Y ts|[],[],_=>rfl|t::ts,ds::a,h=>by simp[kc,Yq ts a (by simpa using h)]|[],_::_,h=>by simp at h|_::_,[],h=>by simp at h
def ajN(hT:ib P af)(B:rz H)(n:U){r:Reach}{base:U}:∀(ts:M TypeId)(vs:M Value)(ds:M (jT H))(ps:M MemPlace),(∀t∈ts,pd af n t=true)->(∀(j:U)t v,ts[j]?=J t->vs[j]?=J v->Value.okWide P W r base t v)->agM enc P W 0 (λ_=>true) true ts vs ds ps->
  (Y ds)=Y ts/\Y vs=Y ts/\∃c,Y c=Y ts/\aR (λt x=>oc af n t x) ts c/\pe c<=B.all ds/\(kc af ts c).all ln=true/\
    ∀(K:de)(β:aD->Q U)(s:St)(a:Act)(i:U),bQ (aS K β (λb=>b<W.heap.size) s a W) (vs.getD i undef) ((kc af ts c).getD i .undef):=by
 intro ts
 induction ts with
 |nil=>intro vs ds ps _ _ h;obtain⟨rfl,rfl,_⟩:=trodAll_nil h;exact⟨rfl,rfl,[],rfl,trivial,by simp[pe],rfl,λ_ _ _ _ i=>by simp[kc,bQ]⟩
 |cons t ts m=>
  intro vs ds ps l e h;obtain⟨v,f,d,g,p,q,rfl,rfl,rfl,hd,o⟩:=trodAll_cons h;let⟨x,u,D,E,y⟩:=ajM (w:=W) hT B (l t (kJ ..)) (e 0 t v rfl rfl) hd;let⟨z,A,c,h1,h2,h3,F,C⟩:=m f g q (λt k=>l t (jr _ k)) (λj t v k hv=>e (j+1) t v (by simpa using k) (by simpa using hv)) o;refine⟨by simp[z],by simp[A],x::c,by simp[h1],⟨u,h2⟩,?_,?_,λK β s a i=>?_⟩;simp only[pe,B.cons];omega;grind [kc];cases i with|zero=>exact y K β s a|succ i=>exact C K β s a i
def ajO{g:World}(j:laidOutB P=true)(k:cZ W.heap.size W g):∀(ts:M TypeId)(vs:M Value)(ds:M (jT H))(ps:M MemPlace),(∀t∈ts,P.readableRec t=true/\t<P.types.size)->(∀x∈ps,x.block<W.heap.size)->agM enc P W 0 (λ_=>true) true ts vs ds ps->agM enc P g 0 (λb=>decide (b<W.heap.size)) true ts vs ds ps:=by
 intro ts;induction ts with
 |nil=>intro vs ds ps _ _ h;obtain⟨rfl,rfl,rfl⟩:=trodAll_nil h;exact trodAll_mk0
 |cons t ts l=>intro vs ds ps i a h;obtain⟨v,c,d,e,p,q,rfl,rfl,rfl,hd,m⟩:=trodAll_cons h;let⟨n,o⟩:=i t (kJ ..);exact trodAll_cons_mk (Below.trod j n o hd k λx f=>a x (List.mem_append_left _ f)) (l c e q (λt r=>i t (jr _ r)) (λx f=>a x (List.mem_append_right _ f)) m)
def ajP{base:U}{args:bZ Value}{ds gs:M (jT H)}{s:M MemPlace}{f:dS}{fn:Func}{sp:ChangeSpec}{F:qY}{n:U}{ts:M TypeId}{tb:TypeId} (hF:iA P f F)(hT:ib P af)(m:sp.vars=[])(o:fn.params.toList=ts)(R:fn.resultTypes=#[tb])(z:aa9 P tb=J .bool) (u:∀t∈ts,pd af n t=true)(S:laidOutB P=true)(T:∀t∈ts,P.readableRec t=true/\t<P.types.size)(B:rz H) (E:∀a,a.length=ts.length->aR (λt x=>oc af n t x) ts a->pe a<=B.all ds->F (kc af ts a) []=J {v:=.one (.d (.bool true)),aI:=[],cI:=[]}) (G:∀ds:M (jT H),ds.length=ts.length->sp.fn H (ds++[])={results:=[.lit (.bool true)],args:=ds}) (c:(∀g l,(g,l)∈uN P->g<W.heap.size/\qb W g l)/\∀g,g∈xG P->g<W.heap.size/\xH W g) (K:∀(j:U)t v,fn.params[j]?=J t->args[j]?=J v->Value.okWide P W .any base t v) (V:DataW.Whole enc P fn.params.toList sp.vars I W args.toList ds gs s):eA P f args W λe W'=>∃v,e=.returned v/\sp.post enc P fn I true I I W args v W':=by
 have hlt:=V.lt;have X:=V;obtain⟨p,q,hA,hV,rfl,hfz,hnd⟩:=V;rw[m]at hV;obtain⟨rfl,rfl⟩:=trodVars_none hV;rw[o]at hA;let⟨l1,l2,a,h1,h2,h3,h4,h5⟩:=ajN hT B n ts args.toList ds p u (λj t v ht hv=>K j t v (by grind) (by simpa using hv)) hA;have N:aZ (cW P 0 W args (λ_=>O) (λ_=>O) (λb=>b<W.heap.size)) (λ_=>O) (λ_=>O) (λb=>b<W.heap.size) (dm (kc af ts a) []) {tmps:=#[],defers:=[]} W:=by
  have A:∀k,(dm (kc af ts a) [] (.box k)).v=.undef:=by intro k;cases k<;>simp[dm]
  refine⟨rfl,⟨rfl,λg l C=>⟨(c.1 g l C).1,(c.1 g l C).1,λh=>h rfl,(c.1 g l C).2⟩,λg C=>⟨(c.2 g C).1,(c.2 g C).1,λh=>h rfl,(c.2 g C).2⟩⟩,rfl,rfl,rfl,eJ _,λ_ _ _=>rfl,λ_ h=>h,λ_ h=>h,λb hb=>.inl hb,?_,?_,?_,?_,?_,?_,λ_ _ h=>h⟩;intro t;exact trivial;intro i;have:=h5 (cW P 0 W args (λ_=>O) (λ_=>O) (λb=>b<W.heap.size)) (λ_=>O) (dm (kc af ts a) []) {tmps:=#[],defers:=[]} i;have e:args.toList.getD i undef=args.getD i undef:=by simp_all
  rw[e]at this;exact this;intro k;rw[A];exact rfl;intro r j e xs u1 b1 y Y hh Z;cases r with|tmp t=>simp[dm,SV.cells]at Y|bP i=>simp[aO.isArg]at y|box k=>simp_all [SV.cells]
  intro i j e xs u1 b1 Y hh Z;exfalso;have hc':((kc af ts a).getD i .undef).cells[j]?=J (.ak e xs):=Y;have key:∀(ts:M TypeId)(a:M (M D))(i j:U),((kc af ts a).getD i .undef).cells[j]?≠J (.ak e xs):=by
   intro ts;induction ts with
   |nil=>intro a i j;simp[kc,SV.cells]
   |cons t ts ih=>
    intro a i j;cases a with
    |nil=>simp[kc,SV.cells]|cons x a=>
     cases i with|zero=>grind [kc,rA,SV.cells]|succ i=>simpa[kc]using ih a i j
  grind;intro b g h;cases h
 have hsz:args.size=(kc af ts a).length:=by grind [Yq]
 refine(hF _ _ _ (E a h1 h2 h3) W args _ _ _ hsz h4 rfl N).mono ?_;rintro e W' ⟨v,β',ω',Z',rfl,y⟩;have hv:v=.bool true:=by have:=y.tmps 0;exact this.2
 subst hv;have w:cZ W.heap.size W W':=⟨y.os,y.tape,y.output,y.base,λk hk=>y.frame k hk (λh=>h rfl)⟩;refine⟨_,rfl,ds,[],p++[],[],p,[],X,?_,?_,?_,w.frame _,λh=>by cases h⟩;rw[G ds l1,R];exact trodAll_cons_mk (shut_bool z _) trodAll_mk0;simp_all [ajO];rw[G ds l1,m];rfl
end
open Go
def amG{P:er}{w:ck}{g:U}{t:bv}{zero:bZ aL}(h:w.ShapedOpen P)(i:g<P.globals.size) (j:((begin P (λ_ _=>0) default).world.heap[g]?).bind Obj.row?=J (zero,t))(o:zero.size=1) (k:P.buildable t=W)(l:P.cellTypes P.depth t=J [t])(m:P.underlying t=J (.int .i64)):g<w.heap.size/\xH w g:=by
 let⟨cs,f,p,n⟩:=h.1 g zero t i j;let⟨ts,c,_,d⟩:=n k;rw[l]at c;cases c;have h1:0<cs.size:=by omega
 let⟨u,e,a⟩:=d 0 cs[0] (by simp[h1]);have:u=t:=by simpa using e.symm
 subst this;have b:w.cell? ⟨g,0,O⟩=J cs[0]:=by simp[World.cell?,f,h1]
 refine⟨(pN.1 f).1,?_⟩;unfold xH;rw[b];unfold Cell.ok at a;rw[m]at a;cases hv:cs[0]<;>rw[hv]at a<;>first|(obtain⟨rfl,_⟩:=a;exact⟨_,rfl⟩)|simp at a
def zl:Q TypeDesc->Sc->ay|some (.int k'),.int k=>decide (k'=k)|some .bool,.bool=>W|some .string,.bj=>W|_,_=>I
def Cb(P:er):M Field->M Sc->U->ay|[],[],_=>W|f::fs,k::sh,j=>f.name != "_" &&acJ f==j&&zl (aa9 P f.type) k&&Cb P fs sh (j+1)|_,_,_=>I
def RM{w:ck}{Z:U->Prop}{us:M aL}{j:U}{d:D}{ds:M D}(h:DL w Z (us.drop j) (d::ds)):∃v,us[j]?=J v/\bA w Z d v/\DL w Z (us.drop (j+1)) ds:=by
 have e:(us.drop j)[0]?=us[j]? :=by grind
 have a:us.drop (j+1)=(us.drop j).drop 1:=by rw[List.drop_drop]
 rw[<-e,a];generalize us.drop j=l at h;match l,h with|v::l,h=>exact⟨v,rfl,h.1,h.2⟩
def abz{P:er}{w:ck}{Z:U->Prop}(d:U)(xs ys:bZ aL):∀(fs:M Field)(sh:M Sc)(j:U)(ds es:M D),Cb P fs sh j=W->cz sh ds=W->cz sh es=W->DL w Z ((V xs).drop j) ds->DL w Z ((V ys).drop j) es->(Vp (d+1) xs ys fs).run P w=.ok (dF ds es) w
 |[],sh,j,ds,es,i,h1,h2,_,_=>by
  cases sh with
  |cons=>cases i
  |nil=>
   cases ds with
   |cons=>cases h1
   |nil=>
    cases es with
    |cons=>cases h2
    |nil=>simp[Vp,dF]
 |f::fs,sh,j,ds,es,i,h1,h2,h3,q=>by
  cases sh with
  |nil=>cases i
  |cons k sh=>
   simp only[Cb,cr,bne_iff_ne,dK]at i;let⟨⟨⟨f1,f2⟩,f3⟩,f4⟩:=i;cases ds with
   |nil=>cases k<;>cases h1
   |cons a ds=>
    cases es with
    |nil=>cases k<;>cases h2
    |cons b es=>
     let⟨u,s,u2,u3⟩:=RM h3;let⟨v,v1,g,t⟩:=RM q;have x:xs[acJ f]?=J u:=(by rw[f2];simpa using s);have hv:ys[acJ f]?=J v:=(by rw[f2];simpa using v1);have key:P.plainKey f.type=W->(∀(r:ay),r=jL a b->(Hu (d+1) f.type u v).run P w=.ok r w)->cz sh ds=W->cz sh es=W->(Vp (d+1) xs ys (f::fs)).run P w=.ok (dF (a::ds) (b::es)) w:=by
      intro o h m n;have y:=abz d xs ys fs sh (j+1) ds es f4 m n u3 t;simp only[Vp,ne_eq,f1,not_false_eq_true,bH,dB,agQ w o x,agQ w o hv,dE,h _ rfl];cases p:jL a b with|true=>simp[dF,p,y]|false=>simp[dF,p]
     cases k with
     |int k=>
      cases a<;>simp only[cz,cr,eW,bM]at h1;cases b<;>simp only[cz,cr,eW,bM]at h2;obtain⟨rfl,m⟩:=h1;let⟨e,n⟩:=h2;subst e;cases c:aa9 P f.type with
      |none=>rw[c]at f3;cases f3
      |some l=>rw[c]at f3;cases l<;>first|(simp only[zl,bM]at f3;done)|skip;refine key (by simp[HE,c]) (λr h=>?_) m n;have u2:u=_:=u2;have g:v=_:=g;subst h;rw[u2,g,run_equalIn_int w d f.type _ _ _ _ c];rfl
     |bool=>
      cases a<;>simp only[cz,bM]at h1;cases b<;>simp only[cz,bM]at h2;cases c:aa9 P f.type with
      |none=>rw[c]at f3;cases f3
      |some l=>rw[c]at f3;cases l<;>first|(simp only[zl,bM]at f3;done)|skip;refine key (by simp[HE,c]) (λr h=>?_) h1 h2;have u2:u=_:=u2;have g:v=_:=g;subst h;rw[u2,g,run_equalIn_bool' w d f.type _ _ c];rfl
     |bj=>
      cases a<;>simp only[cz,bM]at h1;cases b<;>simp only[cz,bM]at h2;cases c:aa9 P f.type with
      |none=>rw[c]at f3;cases f3
      |some l=>rw[c]at f3;cases l<;>first|(simp only[zl,bM]at f3;done)|skip;refine key (by simp[HE,c]) (λr h=>?_) h1 h2;have u2:u=_:=u2;have g:v=_:=g;grind [run_equalIn_string,ByteArray.toList_eq,jL]
def abA{P:er}{w:ck}{Z:U->Prop}(em:ay)(d:U)(xs:bZ aL):∀(fs:M Field)(sh:M Sc)(j:U)(ds:M D),Cb P fs sh j=W->cz sh ds=W->
  DL w Z ((V xs).drop j) ds->(forIn (m:=Sem) fs zZ λf _=>do
   if f.name≠ "_" then do
    mY em (d+1) f.type (<-part f.type xs (acJ f))
    pure (Hz zZ)
   else pure (Hz zZ)).run P w=.ok zZ w
 |[],sh,j,ds,e,h1,_=>by simp|f::fs,sh,j,ds,e,h1,h3=>by
  cases sh with
  |nil=>cases e
  |cons k sh=>
   simp only[Cb,cr,bne_iff_ne,dK]at e;let⟨⟨⟨f1,f2⟩,f3⟩,f4⟩:=e;cases ds with
   |nil=>cases k<;>cases h1
   |cons a ds=>
    let⟨u,g,u2,u3⟩:=RM h3;have i:xs[acJ f]?=J u:=by rw[f2];simpa using g
    have key:P.plainKey f.type=W->(mY em (d+1) f.type u).run P w=.ok () w->cz sh ds=W->(forIn (m:=Sem) (f::fs) zZ λf _=>do
      if f.name≠ "_" then do
       mY em (d+1) f.type (<-part f.type xs (acJ f))
       pure (Hz zZ)
      else pure (Hz zZ)).run P w=.ok zZ w:=by
     intro l n h
     have o:=abA em d xs fs sh (j+1) ds f4 h u3
     simp_all [agQ]
    cases k with
    |int k=>
     cases a<;>simp only[cz,cr,eW,bM]at h1;cases b:aa9 P f.type with
     |none=>rw[b]at f3;cases f3
     |some c=>rw[b]at f3;cases c<;>first|(simp only[zl,bM]at f3;done)|skip;refine key (by simp[HE,b]) ?_ h1.2;have u2:u=_:=u2;rw[u2];simp[mY,kZ b]
    |bool=>
     cases a<;>simp only[cz,bM]at h1;cases b:aa9 P f.type with
     |none=>rw[b]at f3;cases f3
     |some c=>rw[b]at f3;cases c<;>first|(simp only[zl,bM]at f3;done)|skip;refine key (by simp[HE,b]) ?_ h1;have u2:u=_:=u2;rw[u2];simp[mY,kZ b]
    |bj=>
     cases a<;>simp only[cz,bM]at h1;cases b:aa9 P f.type with
     |none=>rw[b]at f3;cases f3
     |some c=>rw[b]at f3;cases c<;>first|(simp only[zl,bM]at f3;done)|skip;refine key (by simp[HE,b]) ?_ h1;have u2:u=_:=u2;rw[u2];simp[mY,kZ b]
def Gn{P:er}{t:bv}{sh:M Sc}(h1:aa9 P t=J (.struct (P.fieldsOf t)))(h2:P.stoodInHeld t=I)(h3:P.eqGuardType P.depth t=I)(a:Cb P (V (P.fieldsOf t)) sh 0=W):Di P t sh:=by
 have b:∀(w:ck)(Z:U->Prop)(xs ys:bZ aL)(ds es:M D),DL w Z (V xs) ds->DL w Z (V ys) es->cz sh ds=W->cz sh es=W->(Hu 10000 t (.agg xs) (.agg ys)).run P w=.ok (dF ds es) w:=by intro w Z xs ys ds es c hy f1 f2;rw[show(10000:U)=9998+1+1 from rfl,run_equalIn_struct w (9998+1) t xs ys h1 h2];exact abz 9998 xs ys _ sh 0 ds es a f1 f2 (by simpa using c) (by simpa using hy)
 refine⟨?_,?_,?_,⟨_,h1⟩⟩;grind [dB,run_eqGuard_agg,dE,run_eql_struct,run_neq_struct];intro w ds es f1 f2;exact b w (λ_=>dL) _ _ ds es (by simpa using uQ f1) (by simpa using uQ f2) f1 f2;intro w ds em f1;rw[show(10000:U)=9998+1+1 from rfl];unfold mY;simp only[dB,kZ h1,dE,sE];have:=abA (P:=P) (w:=w) (Z:=λ_=>dL) em 9998 (ve (ds.map iz)) (V (P.fieldsOf t)) sh 0 ds a f1 (by simpa using uQ f1);simp_all
end Go.Vs
namespace Go.Ve
open Go.Vs
inductive Ty where
 |int(k:IntKind)|bool|bj|sl(r:Ty)|bJ(h t:Ty)
 |cj(u:Bool)(k v:Ty)
 |set(k:Ty)
 deriving DecidableEq,Repr,Inhabited
@[reducible] def Ty.T:Ty->Type|.int _=>L|.bool=>ay|.bj=>M ao|.sl r=>Q (M r.T)|.bJ h t=>h.T×t.T|.cj _ k v=>k.T×v.T|.set k=>k.T
def Ty.w:Ty->U|.bJ h t=>h.w+t.w|.cj _ k v=>k.w+v.w|.set k=>k.w|_=>1
def Ty.agg:Ty->ay|.bJ _ _=>W|_=>I
def Ty.e:Ty->U
 |.cj u k v=>match u with|true=>jU (pW k.w k.agg v.w v.agg)|false=>pW k.w k.agg v.w v.agg
 |.set k=>pW k.w k.agg 0 W|t=>t.w
def Ty.zero:(t:Ty)->t.T|.int _=>(0:L)|.bool=>I|.bj=>([]:M ao)|.sl r=>(O:Q (M r.T))|.bJ h t=>(h.zero,t.zero)|.cj _ k v=>(k.zero,v.zero)|.set k=>k.zero
def be:(t:Ty)->t.T->M D
 |.int k,n=>[.int k n]|.bool,b=>[.bool b]|.bj,s=>[.bj s]|.sl r,o=>match o with|none=>[.nil]|some xs=>[.sl r.e (xs.map (be r))]
 |.bJ h t,x=>be h x.1++be t x.2|.cj _ k v,x=>be k x.1++be v x.2|.set k,x=>be k x
def ah{α:Type}(l:M α):L:=Y l
def a6(b:ao):L:=b.toNat
def fL(s:M ao):M L:=s.map a6
def nj(l:M L):M ao:=l.map λn=>kr (G n)
def fM(k:mW)(a b:L):L:=k.wrap ((mX k.bits a &&& mX k.bits b).toNat)
def orI(k:mW)(a b:L):L:=k.wrap ((mX k.bits a ||| mX k.bits b).toNat)
def ajR(k:mW)(a b:L):L:=k.wrap ((mX k.bits a ^^^ mX k.bits b).toNat)
def ajS(k:mW)(a b:L):L:=k.wrap ((mX k.bits a &&& ~~~(mX k.bits b)).toNat)
inductive Md where
 |data|ak|bm(q:aO)(j hv cv k:Nat)
 deriving DecidableEq
inductive E where
 |i(k:IntKind)(n:Int)|b(x:Bool)|tt|ff|s(x:List UInt8)
 |l(m:Md)(t:Ty)(xs:List t.T)
 |n(m:Md)(t:Ty)(o:Option (List t.T))
 |nil|cV(k:NK)|r(u:TypeId)(ps:List (UInt8×List UInt8))
 |ea(q:aO)(j hv:Nat)(t:Ty)(n off:Nat)
 |da(t:Ty)(x:t.T)(off:Nat)
 |aX(k:aD)(off:Nat)
 |dj(f:FuncId)(caps:List (aD×Nat))
 |bN
 |it(m:Md)(t:Ty)(xs:List t.T)(seen:List Nat)
 |gW(b:Bool)
instance:Inhabited E:=⟨.bN⟩
inductive aP where
 |one(c:E)|agg(cs:List E)|bw(vs:List (Bool×List E))|undef
instance:Inhabited aP:=⟨.undef⟩
structure dP where
 hv:Nat:=0
 cv:Nat:=0
 v:aP:=.undef
instance:Inhabited dP:=⟨{}⟩
def lC(m:Md)(t:Ty)(xs:M t.T):C:=
 match m with|.data=>.d (.sl t.e (xs.map (be t)))|.ak=>.ak t.e (xs.map (be t))|.bm q j hv cv k=>.bm q j hv cv t.e k (xs.map (be t))
def mC(m:Md)(e:U)(xs:M (M D)):C:=
 match m with|.data=>.d (.sl e xs)|.ak=>.ak e xs|.bm q j hv cv k=>.bm q j hv cv e k xs
def ajT(t:Ty)(xs:M t.T)(seen:M U):M (M D):=[[.sl t.e (xs.map (be t))],lP seen]
def cE:E->C
 |.i k n=>.d (.int k n)|.b x=>.d (.bool x)|.tt=>.d (.bool W)|.ff=>.d (.bool I)|.s x=>.d (.bj x)|.l m t xs=>lC m t xs|.n m t o=>match o with|none=>.d .nil|some xs=>lC m t xs
 |.nil=>.d .nil|.cV k=>.d (.cV k)|.r u ps=>.d (.rep u ps)|.ea q j hv t n off=>.ea q j hv t.e n off|.da t x off=>.da ((be t x).drop off)|.aX k off=>.aX k off|.dj f caps=>.dj f caps|.bN=>.bN|.it m t xs seen=>mC m nS (ajT t xs seen)|.gW b=>match b with|true=>.bN|false=>.d .nil
def aV(l:M E):M C:=l.map cE
def fq(l:M (ay×M E)):M (ay×M C):=l.map λp=>(p.1,aV p.2)
def aM:aP->SV|.one c=>.one (cE c)|.agg cs=>.agg (aV cs)|.bw vs=>.bw (fq vs)|.undef=>.undef
def cL(x:dP):RV:={hv:=x.hv,cv:=x.cv,v:=aM x.v}
def aP.cells:aP->M E|.one c=>[c]|.agg cs=>cs|.bw vs=>vs.flatMap (·.2)|.undef=>[]
def lq{α:Type}:M α->U->α->M α|[],_,_=>[]|_::r,0,c=>c::r|x::r,j+1,c=>x::lq r j c
def Dv:M (ay×M E)->U->E->M (ay×M E)|[],_,_=>[]|(b,cs)::r,j,c=>if j<Y cs then(b,lq cs j c)::r else(b,cs)::Dv r (j-Y cs) c
def aP.setCell(v:aP)(j:U)(c:E):aP:=
 match v with|.one _=>if j=0 then .one c else v|.agg cs=>.agg (lq cs j c)|.bw vs=>.bw (Dv vs j c)|.undef=>.undef
def gx:aD->aD->ay|.aC a,.aC b=>a==b|.az a,.az b=>a==b|.cn a i,.cn b j=>a==b&&i==j|_,_=>I
def ic:aO->aO->ay|.tmp a,.tmp b=>a==b|.box a,.box b=>gx a b|.bP a,.bP b=>a==b|_,_=>I
def vh(v:aP)(j:U):aP:=
 match H v.cells j .bN with|.l .ak t ys=>v.setCell j (.l .data t ys)|.n .ak t o=>v.setCell j (.n .data t o)|.it .ak t xs a=>v.setCell j (.it .data t xs a)|_=>v
def iZ:M (U×U)->M aP->M aP|[],args=>args|(i,j)::r,args=>iZ r (lq args i (vh (H args i .undef) j))
structure bp where
 m:List (aO×dP)
 args:List aP
 cI:List (Nat×Nat)
 cH:List (aO×Option (List Bool))
def gb(r:aO):M (aO×dP)->dP
 |[]=>{}|(q,x)::l=>match ic r q with|true=>x|false=>gb r l
def vi(r:aO)(x:dP):M (aO×dP)->M (aO×dP)
 |[]=>[(r,x)]|(q,y)::l=>match ic r q with|true=>(r,x)::l|false=>(q,y)::vi r x l
def bp.aG(s:bp)(r:aO):dP:=
 match r with|.bP i=>{v:=H (iZ s.cI s.args) i .undef}|r=>gb r s.m
def bp.put(s:bp)(r:aO)(x:dP):bp:={s with m:=vi r x s.m,cH:=(r,O)::s.cH}
def fg:M E->M (Q E)->M E|[],_=>[]|cs,[]=>cs|c::cs,o::os=>(match o with|some x=>x|none=>c)::fg cs os
def bp.wr(s:bp)(k:aD)(os:M (Q E)):bp:=let x:=gb (.box k) s.m
 {s with m:=vi (.box k) {hv:=x.hv+1,cv:=x.cv,v:=match x.v with|.agg cs=>.agg (fg cs os)|v=>v} s.m,cH:=(.box k,J (os.map Option.isSome))::s.cH}
def kb(b:ay):E:=match b with|true=>.tt|false=>.ff
def bp.gy(s:bp)(r:aO)(b:ay):bp:=
 match r with
 |.tmp t=>let x:=gb (.tmp t) s.m
  {s with m:=vi (.tmp t) {x with v:=.one (kb b)} s.m,cH:=(r,O)::s.cH}
 |_=>s
def dG(s:bp):St:=λr=>cL (s.aG r)
inductive Tr(α:Type):Type 1 where
 |dw(a:α)
 |ai
 |br(c:Bool)(t e:Tr α)
 |call{ρ:Type}(d:ρ)(o:Option ρ)(k:ρ->Tr α)
 |sum{ρ σ:Type}(o:ρ⊕σ)(k:ρ->Tr α)(k':σ->Tr α)
def aq{ρ α:Type}(o:Q ρ)(k:ρ->Q α):Q α:=
 match o with|some x=>k x|none=>O
def dh{ρ σ α:Type}(o:ρ⊕σ)(k:ρ->Q α)(k':σ->Q α):Q α:=
 match o with|.inl x=>k x|.inr x=>k' x
namespace Tr
def bind{α β:Type}:Tr α->(α->Tr β)->Tr β|.dw a,f=>f a|.ai,_=>.ai|.br c t e,f=>.br c (t.bind f) (e.bind f)|.call d o k,f=>.call d o λx=>(k x).bind f|.sum o k k',f=>.sum o (λx=>(k x).bind f) (λx=>(k' x).bind f)
def map{α β:Type}(f:α->β):Tr α->Tr β|.dw a=>.dw (f a)|.ai=>.ai|.br c t e=>.br c (t.map f) (e.map f)|.call d o k=>.call d o λx=>(k x).map f|.sum o k k'=>.sum o (λx=>(k x).map f) (λx=>(k' x).map f)
def run{α:Type}:Tr α->Q α|.dw a=>J a|.ai=>O|.br c t e=>if c=W then t.run else e.run|.call _ o k=>aq o λx=>(k x).run|.sum o k k'=>dh o (λx=>(k x).run) λx=>(k' x).run
def all{α:Type}:Tr α->(α->Prop)->Prop|.dw a,b=>b a|.ai,_=>jc|.br c t e,b=>(c=W->t.all b)/\(c=I->e.all b)|.call _ o k,b=>∃x,o=J x/\(k x).all b|.sum o k k',b=>(∀x,o=.inl x->(k x).all b)/\(∀x,o=.inr x->(k' x).all b)
def box{α:Type}:Tr α->(α->Prop)->Prop|.dw a,b=>b a|.ai,_=>dL|.br c t e,b=>(c=W->t.box b)/\(c=I->e.box b)|.call _ o k,b=>∀x,o=J x->(k x).box b|.sum o k k',b=>(∀x,o=.inl x->(k x).box b)/\(∀x,o=.inr x->(k' x).box b)
def eI{α:Type}:Tr α->(α->Prop)->Prop|.dw a,b=>b a|.ai,_=>dL|.br _ t e,b=>t.eI b/\e.eI b|.call _ _ k,b=>∀x,(k x).eI b|.sum _ k k',b=>(∀x,(k x).eI b)/\(∀x,(k' x).eI b)
end Tr
inductive PE(α:Type):Type 1 where
 |ret(a:α)
 |ai
 |br(c:Bool)(t e:PE α)
 |call{ρ:Type}(d:ρ)(o:Option ρ)(k:ρ->PE α)
 |aG(r:aO)(k:dP->PE α)
 |put(r:aO)(x:dP)(k:PE α)
 |cI(i j:Nat)(k:PE α)
 |gy(r:aO)(b:Bool)(k:PE α)
 |wr(k:aD)(os:List (Option E))(c:PE α)
def ye(r:aO)(x:dP):ay:=
 match r,x.v with|.bP _,_=>I|.box _,.agg _=>W|.box _,_=>I|.tmp _,_=>W
namespace PE
def bind{α β:Type}:PE α->(α->PE β)->PE β|.ret a,f=>f a|.ai,_=>.ai|.br c t e,f=>.br c (t.bind f) (e.bind f)|.call d o k,f=>.call d o λx=>(k x).bind f|.aG r k,f=>.aG r λx=>(k x).bind f|.put r x k,f=>.put r x (k.bind f)|.cI i j k,f=>.cI i j (k.bind f)|.gy r b k,f=>.gy r b (k.bind f)|.wr k os c,f=>.wr k os (c.bind f)
instance:Monad PE where
 pure:=PE.ret
 bind:=PE.bind
def cU{α:Type}:PE α->bp->Tr (α×bp×M aO×M aO)
 |.ret a,s=>.dw (a,s,[],[])|.ai,_=>.ai|.br c t e,s=>.br c (t.cU s) (e.cU s)|.call d o k,s=>.call d o λx=>(k x).cU s|.aG r k,s=>((k (s.aG r)).cU s).map λy=>(y.1,y.2.1,r::y.2.2.1,y.2.2.2)|.put r x k,s=>match ye r x with|false=>.ai|true=>(k.cU (s.put r x)).map λy=>(y.1,y.2.1,y.2.2.1,r::y.2.2.2)
 |.gy r b k,s=>k.cU (s.gy r b)|.wr k os c,s=>(c.cU (s.wr k os)).map λy=>(y.1,y.2.1,y.2.2.1,.box k::y.2.2.2)|.cI i j k,s=>(k.cU {s with cI:=s.cI++[(i,j)],cH:=(.bP i,O)::s.cH}).map λy=>(y.1,y.2.1,y.2.2.1,.bP i::y.2.2.2)
end PE
def lr(r:aO)(x:dP):PE bY:=.put r x (.ret ())
def cX(c:ay):PE bY:=.br c (.ret ()) .ai
def bE(c:ay):PE bY:=match c with|true=>.ret ()|false=>.ai
def eX:(t:Ty)->t.T->M E|.int k,n=>[.i k n]|.bool,b=>[.b b]|.bj,s=>[.s s]|.sl t,o=>[.n .data t o]|.bJ h t,x=>eX h x.1++eX t x.2|.cj _ k v,x=>eX k x.1++eX v x.2|.set k,x=>eX k x
def og:(t:Ty)->M E->Q (t.T×M E)
 |.int k=>λcs=>match cs with|.i k' n::r=>if k'=k then J (n,r)else O|_=>O
 |.bool=>λcs=>match cs with|.b x::r=>J (x,r)|.tt::r=>J (W,r)|.ff::r=>J (I,r)|_=>O
 |.bj=>λcs=>match cs with|.s x::r=>J (x,r)|_=>O
 |.sl t=>λcs=>match cs with|.n .data a o::r=>if h:a=t then J (h▸o,r)else O|.l .data a xs::r=>if h:a=t then J (J (h▸xs),r)else O|.nil::r=>J (O,r)|_=>O
 |.bJ h t=>λcs=>match og h cs with
  |some (x,r)=>match og t r with|some (y,c)=>J ((x,y),c)|none=>O
  |none=>O
 |.cj _ k v=>λcs=>match og k cs with
  |some (x,r)=>match og v r with|some (y,c)=>J ((x,y),c)|none=>O
  |none=>O
 |.set k=>λcs=>og k cs
def ls(t:Ty)(cs:M E):Q t.T:=
 match og t cs with|some (x,[])=>J x|_=>O
def vj(r:aO)(x:dP)(j:U):E->E|.l .ak t xs=>.l (.bm r j x.hv x.cv 0) t xs|.n .ak t o=>.n (.bm r j x.hv x.cv 0) t o|.it .ak t xs a=>.it (.bm r j x.hv x.cv 0) t xs a|c=>c
def yf(r:aO)(x:dP):U->M E->M E|_,[]=>[]|j,c::cs=>vj r x j c::yf r x (j+1) cs
def Dw(r:aO)(x:dP):U->M (ay×M E)->M (ay×M E)|_,[]=>[]|j,(b,cs)::vs=>(b,yf r x j cs)::Dw r x (j+Y cs) vs
def dP.gq(x:dP)(r:aO):aP:=
 match x.v with|.one c=>.one (vj r x 0 c)|.agg cs=>.agg (yf r x 0 cs)|.bw vs=>.bw (Dw r x 0 vs)|.undef=>.undef
def Dx:aL->Q E|.int k n=>J (.i k n)|.bool b=>J (match b with|true=>.tt|false=>.ff)|.string s=>J (.s (V s.data))|.slice O 0 0=>J .nil|.pointer O=>J (.cV .aX)|.nilFunc=>J (.cV .func)|.nilIface=>J (.cV .iface)|.map O=>J (.cV .map)|.chan O=>J (.cV .chan)|_=>O
def I6:M aL->Q (M E)
 |[]=>J []|v::r=>match Dx v,I6 r with|some d,J ds=>J (d::ds)|_,_=>O
def fh:cD->PE aP
 |.tmp t=>.aG (.tmp t) λx=>match x.v with|.undef=>.ai|_=>.ret (x.gq (.tmp t))
 |.const v=>match v with
  |.agg cs=>match I6 (V cs) with|some ds=>.ret (.agg ds)|none=>.ai
  |v=>match Dx v with|some d=>.ret (.one d)|none=>.ai
 |.func f=>.ret (.one (.dj f []))|.global _=>.ai
def yg:M cD->PE (M aP)|[]=>.ret []|o::os=>do let v <-fh o;let vs <-yg os;.ret (v::vs)
def O7:aP->PE E|.one c=>.ret c|_=>.ai
def fT(o:cD):PE E:=do O7 (<-fh o)
def vk:E->PE L|.i _ n=>.ret n|_=>.ai
def vl:E->Q ay|.b b=>J b|.tt=>J W|.ff=>J I|_=>O
def dP.at(x:dP)(j:U):E:=H x.v.cells j .bN
def yh(r:aO)(j:U)(x:dP):PE bY:=
 match x.at j with
 |.l .ak t ys=>match r with|.bP i=>.cI i j (.ret ())|r=>lr r {x with v:=x.v.setCell j (.l .data t ys)}
 |.n .ak t o=>match r with|.bP _=>.ai|r=>.call [] o λys=>lr r {x with v:=x.v.setCell j (.l .data t ys)}
 |.l .data _ _=>.ret ()|.n .data _ o=>.call [] o λ_=>.ret ()|_=>.ai
def rB(r:aO)(j:U)(x:dP):PE bY:=
 match x.at j with
 |.l .ak _ _=>lr r {x with v:=x.v.setCell j .bN}
 |.n .ak _ o=>.call [] o λ_=>lr r {x with v:=x.v.setCell j .bN}
 |_=>.ai
def resolve:E->PE E|.n m t o=>.br (aad o) (.ret (.l m t (X o []))) (.ret .nil)|c=>.ret c
def azb:E->PE E|.n (.bm q j hv cv k) t o=>.br (aad o) (.ret (.l (.bm q j hv cv k) t (X o []))) (.ret .nil)|c=>.ret c
def Yr:E->PE E|.n (.bm (.bP i) j hv cv k) t o=>.br (aad o) (.ret (.l (.bm (.bP i) j hv cv k) t (X o []))) (.ret .nil)|c=>.ret c
def sK(r:aO)(j:U)(x:dP)(b:ay):PE bY:=
 match x.at j with
 |.n .ak t o=>match r with|.bP _=>.ai|r=>.br (b==aad o) (lr r {x with v:=x.v.setCell j (.n .data t o)}) .ai
 |.n .data _ o=>.br (b==aad o) (.ret ()) .ai|_=>.ai
def qk(r:aO)(j:U)(x:dP)(b:ay):PE bY:=
 match x.at j with
 |.n .ak _ o=>.br (b==aad o) (lr r {x with v:=x.v.setCell j (.gW (aad o))}) .ai
 |_=>.ai
def AH(j:U)(x:dP)(b:ay):PE bY:=
 match x.at j with|.n .ak _ o|.n .data _ o=>.br (b==aad o) (.ret ()) .ai|_=>.ai
def rC(self:Q (aO×U))(r:aO)(j:U):ay:=
 match self with|some (q,i)=>ic q r&&i==j|none=>I
def Dy(self:Q (aO×U))(take:aO->ay):E->PE E
 |.l (.bm r j hv cv k) t xs=>
  match r.isArg with
  |true=>.ret (.l (.bm r j hv cv k) t xs)|false=>.aG r λx=>do
   bE (x.hv==hv&&x.cv==cv)
   match x.at j with
   |.l .ak _ _|.n .ak _ _=>
    match rC self r j||take r with|true=>do rB r j x;.ret (.l .ak t xs)|false=>do yh r j x;.ret (.l .data t xs)
   |.l .data _ _=>.ret (.l .data t xs)|.n .data _ o=>.call [] o λ_=>.ret (.l .data t xs)|_=>.ai
 |.n (.bm r j hv cv k) t o=>
  match r.isArg with
  |true=>.ret (.n (.bm r j hv cv k) t o)|false=>.aG r λx=>do
   bE (x.hv==hv&&x.cv==cv)
   match x.at j with
   |.n .ak _ _=>
    match rC self r j||take r with|true=>do qk r j x (aad o);.ret (.n .ak t o)|false=>do sK r j x (aad o);.ret (.n .data t o)
   |.n .data _ _=>do AH j x (aad o);.ret (.n .data t o)|_=>.ai
 |.bN=>.ai|.gW _=>.ai|.it m t xs a=>match m with|.bm .. =>.ai|m=>.ret (.it m t xs a)
 |c=>.ret c
def Dz(self:Q (aO×U))(take:aO->ay)(c:E):PE E:=Dy self take c
def vm(mk:U->aO×U)(take:aO->ay):U->M E->PE (M E)|_,[]=>.ret []|i,c::cs=>do let b <-Dz (J (mk i)) take c;let a <-vm mk take (i+1) cs;.ret (b::a)
def DA(mk:U->aO×U)(take:aO->ay):U->M (ay×M E)->PE (M (ay×M E))|_,[]=>.ret []|i,(b,cs)::vs=>do let a <-vm mk take i cs;let c <-DA mk take (i+Y cs) vs;.ret ((b,a)::c)
def sL(r:aO)(take:aO->ay):aP->PE aP|.one c=>do .ret (.one (<-Dz (J (r,0)) take c))|.agg cs=>do .ret (.agg (<-vm (λi=>(r,i)) take 0 cs))|.bw vs=>do .ret (.bw (<-DA (λi=>(r,i)) take 0 vs))|.undef=>.ai
def oh:E->ay|.i _ _|.b _|.tt|.ff|.s _|.l .data _ _|.n .data _ _|.nil|.cV _|.r _ _=>W|_=>I
def nk:E->PE E
 |.l (.bm r j hv cv _) t xs=>.aG r λx=>do
   bE (x.hv==hv&&x.cv==cv)
   yh r j x
   .ret (.l .data t xs)
 |.n (.bm r j hv cv _) t o=>.aG r λx=>do
   bE (x.hv==hv&&x.cv==cv)
   sK r j x (aad o)
   .ret (.n .data t o)
 |c=>match oh c with|true=>.ret c|false=>.ai
def pf(c:E):PE E:=do nk (<-Yr c)
def vn:M E->PE (M E)|[]=>.ret []|c::cs=>do let x <-pf c;let xs <-vn cs;.ret (x::xs)
def aP.fK:aP->Q (M E)|.one c=>J [c]|.agg cs=>J cs|_=>O
def yi(t:Ty):E->PE (M t.T)
 |.nil=>.ret []|.l .data a xs=>if h:a=t then do bE (!cf t.e);.ret (h▸xs)else .ai|.n .data a o=>if h:a=t then do bE (!cf t.e);.ret (X (h▸o:Q (M t.T)) [])else .ai|.l (.bm r j hv cv _) a xs=>.aG r λx=>
  match x.hv==hv&&x.cv==cv&& !cf t.e with
  |true=>match x.at j with|.l .ak _ _|.l .data _ _=>if h:a=t then .ret (h▸xs)else .ai|.n .ak _ o|.n .data _ o=>.call [] o λ_=>if h:a=t then .ret (h▸xs)else .ai|_=>.ai
  |false=>.ai
 |.n (.bm r j hv cv _) a o=>.aG r λx=>
  match x.hv==hv&&x.cv==cv&& !cf t.e with
  |true=>do
   AH j x (aad o)
   if h:a=t then .ret (X (h▸o:Q (M t.T)) [])else .ai
  |false=>.ai
 |_=>.ai
def O8(t:Ty)(c:E):PE (M t.T):=yi t c
def fU(k:mW)(n:L):aP:=.one (.i k n)
def kx(b:ay):aP:=.one (.b b)
def DB(op:jR)(k:mW)(a b:L):PE aP:=
 match op with|.add=>.ret (fU k (k.wrap (a+b)))|.sub=>.ret (fU k (k.wrap (a-b)))|.mul=>.ret (fU k (k.wrap (a*b)))|.quo=>do cX (decide (b≠0));.ret (fU k (k.wrap (a.tdiv b)))|.rem=>do cX (decide (b≠0));.ret (fU k (a.tmod b))|.and=>.ret (fU k (fM k a b))|.or=>.ret (fU k (orI k a b))|.xor=>.ret (fU k (ajR k a b))|.andNot=>.ret (fU k (ajS k a b))|.eql=>.ret (kx (a==b))|.neq=>.ret (kx (a !=b))|.lss=>.ret (kx (decide (a<b)))|.leq=>.ret (kx (decide (a<=b)))|.gtr=>.ret (kx (decide (a>b)))|.geq=>.ret (kx (decide (a>=b)))|_=>.ai
def O9(op:jR)(a b:M ao):PE aP:=
 match op with|.add=>do cX (decide (Y a+Y b<=1152921504606846976));.ret (.one (.s (a++b)))|.eql=>.ret (kx (decide (a=b)))|.neq=>.ret (kx (!decide (a=b)))|.lss=>.ret (kx (nK a b))|.leq=>.ret (kx (nK a b||decide (a=b)))|.gtr=>.ret (kx (!(nK a b||decide (a=b))))|.geq=>.ret (kx (!nK a b))|_=>.ai
def Pb(af:bO)(t:bv):ay:=
 match af.ti t with|some {kind:=.bool, ..}=>W|_=>I
def Pc(af:bO)(t:bv)(op:jR)(x y:E):PE aP:=
 match vl x,vl y with
 |some a,J b=>match Pb af t,op with|true,.eql=>.ret (kx (a==b))|true,.neq=>.ret (kx (!(a==b)))|_,_=>.ai
 |_,_=>.ai
def I7:E->Q ay|.l _ t _=>if cf t.e then O else J I|.n _ t o=>if cf t.e then O else J (!aad o)|.nil=>J W|_=>O
def I8(af:bO)(t:bv):ay:=
 match af.ti t with|some {kind:=.slice _, ..}=>W|_=>I
def Pd(af:bO)(t:bv)(op:jR)(x:E):PE aP:=
 match I8 af t,op,I7 x with|true,.eql,J b=>.ret (kx b)|true,.neq,J b=>.ret (kx (!b))|_,_,_=>.ai
def Pe(af:bO)(t:bv)(op:jR)(x y:E):PE aP:=
 match x,y with
 |.i k a,.i k' b=>
  match op with|.shl=>do cX (decide (0<=b));.ret (fU k (k.wrap (a*2 ^ (min (G b) k.bits))))|.shr=>do cX (decide (0<=b));.ret (fU k (a.fdiv (2 ^ (min (G b) k.bits))))|op=>if k=k' then DB op k a b else .ai
 |.s a,.s b=>O9 op a b|x,.nil=>Pd af t op x|x,y=>Pc af t op x y
def AJ:M Sc->M E->M E->Q ay
 |[],[],[]=>J W|.int k::sh,.i k1 a::xs,.i k2 b::ys=>if k1=k/\k2=k then(match AJ sh xs ys with|some r=>J ((a==b)&&r)|none=>O)else O
 |.bj::sh,.s a::xs,.s b::ys=>match AJ sh xs ys with|some r=>J (decide (a=b)&&r)|none=>O
 |.bool::sh,x::xs,y::ys=>match vl x,vl y,AJ sh xs ys with|some a,J b,J r=>J ((a==b)&&r)|_,_,_=>O
 |_,_,_=>O
def Pf(af:bO)(t:bv)(op:jR)(xs ys:M E):PE aP:=
 match lk t af.eqs with
 |some sh=>match op,AJ sh xs ys with|.eql,J r=>.ret (kx r)|.neq,J r=>.ret (kx (!r))|_,_=>.ai
 |none=>.ai
def bX(a b:U):ay:=gG (a+1) b
def sM(i:TI)(cs:M E)(off:U):PE aP:=
 match bX 0 i.size&&gG (off+i.size) (Y cs) with
 |true=>match i.kind.agg with
  |true=>.ret (.agg ((cs.drop off).take i.size))|false=>match cs[off]? with|some .bN=>.ai|some (.gW _)=>.ai|some c=>.ret (.one c)|none=>.ai
 |false=>.ai
def AK(i:TI):E->PE aP
 |.aX k off=>.aG (.box k) λx=>
  match x.v with|.agg cs=>sM i (yf (.box k) x 0 cs) off|_=>.ai
 |.ea r j hv _ n off=>.aG r λx=>
  match x.hv==hv with
  |true=>match x.at j with|.l .ak t ys|.l .data t ys=>do cX (bX n (Y ys));sM i (eX t (H ys n t.zero)) off|.n .ak t o|.n .data t o=>do cX (bX n (Y (X o [])));sM i (eX t (H (X o []) n t.zero)) off|_=>.ai
  |false=>.ai
 |.da t x off=>sM i ((eX t x).drop off) 0|_=>.ai
def Pg(take:aO->ay)(i:TI)(a:E)(v:aP):PE bY:=
 match a,v.fK with
 |.aX k off,J cs=>do
  bE (Y cs==i.size)
  let c <-vm (λn=>(.box k,off+n)) take 0 cs
  .aG (.box k) λx=>
   match x.v with
   |.agg old=>do
    bE (gG (off+i.size) (Y old)&&gG (off+Y c) (Y old))
    .wr k (ej off O++c.map J) (.ret ())
   |_=>.ai
 |.ea r j hv _ n off,J cs=>do
  bE (Y cs==i.size)
  let ds <-vn cs
  .aG r λx=>do
   bE (x.hv==hv&& !r.isArg)
   match x.at j with
   |.l .ak t ys=>do
    cX (bX n (Y ys))
    bE (gG (off+i.size) t.w)
    match ls t (eF (eX t (H ys n t.zero)) off ds)with
    |some b=>lr r {x with cv:=x.cv+1,v:=x.v.setCell j (.l .ak t (ys.set n b))}
    |none=>.ai
   |.n .ak t o=>do
    cX (bX n (Y (X o [])))
    bE (gG (off+i.size) t.w)
    match ls t (eF (eX t (H (X o []) n t.zero)) off ds)with
    |some b=>lr r {x with cv:=x.cv+1,v:=x.v.setCell j (.l .ak t ((X o []).set n b))}
    |none=>.ai
   |_=>.ai
 |_,_=>.ai
def Ph(af:bO)(t:bv)(c:E)(f:U):PE E:=
 match af.ti t with
 |some {kind:=.struct fs, ..}=>match fs[f]? with
  |some (o,a)=>match af.ti a with
   |some i=>do
    bE (!(i.size==0))
    match c with|.aX k off=>.ret (.aX k (off+o))|.ea r j hv e n off=>.ret (.ea r j hv e n (off+o))|.da t x off=>do bE (gG (off+o) t.w);.ret (.da t x (off+o))|_=>.ai
   |none=>.ai
  |none=>.ai
 |_=>.ai
def Pj(af:bO)(t:bv)(g:U)(n:L):PE E:=
 match lk g af.ss,af.ti t with
 |some l,J {kind:=.array len a, ..}=>match af.ti a with|some i=>do cX (decide (0<=n/\n<len));bE (len==Y l&&i.size==1);.ret (.da (.int .u64) (H l (G n) 0) 0)|none=>.ai
 |_,_=>.ai
def Pk(af:bO)(t:bv)(c:E)(n:L):PE E:=
 match af.ti t with
 |some {kind:=.slice a, ..}=>match af.ti a with
  |some i=>match c with|.l (.bm r j hv _ k) t xs=>do cX (decide (0<=n/\n<ah xs));bE (i.size==t.e&& !cf i.size);.ret (.ea r j hv t (k+G n) 0)|.n (.bm r j hv _ k) t o=>do cX (decide (0<=n/\n<ah (X o [])));bE (i.size==t.e&& !cf i.size);.ret (.ea r j hv t (k+G n) 0)|.l .data t xs=>do cX (decide (0<=n/\n<ah xs));bE (i.size==t.e&& !cf i.size);.ret (.da t (H xs (G n) t.zero) 0)|.n .data t o=>do cX (decide (0<=n/\n<ah (X o [])));bE (i.size==t.e&& !cf i.size);.ret (.da t (H (X o []) (G n) t.zero) 0)|_=>.ai
  |none=>.ai
 |some {kind:=.array len a, ..}=>match af.ti a with
  |some i=>match c with|.aX k off=>do bE (decide (0<=n/\n<len));.ret (.aX k (off+G n*i.size))|_=>.ai
  |none=>.ai
 |_=>.ai
def strsOf:M E->Q (M (M ao))
 |[]=>J []|.s x::r=>match strsOf r with|some l=>J (x::l)|none=>O
 |_=>O
def I9(k:mW):M E->Q (M L)
 |[]=>J []|.i k' x::r=>match decide (k'=k),I9 k r with|true,J l=>J (x::l)|_,_=>O
 |_=>O
def Pm(i:TI)(cs:M E):Q (L->aP):=
 match i.kind with
 |.bj=>match strsOf cs with|some l=>J λn=>.one (.s (H l (G n) []))|none=>O
 |.int k=>match I9 k cs with|some l=>J λn=>.one (.i k (H l (G n) 0))|none=>O
 |_=>O
def Pn(af:bO)(t:bv)(v:aP)(n:L):PE aP:=
 match af.ti t,v with
 |some {kind:=.bj, ..},.one (.s s)=>do
  cX (decide (0<=n))
  cX (bX (G n) (Y s))
  .ret (fU .u8 (a6 (H s (G n) 0)))
 |some {kind:=.array len a, ..},.agg cs=>match af.ti a with
  |some i=>match Pm i cs with|some g=>do bE (Nat.beq i.size 1&&gG len (Y cs));cX (decide (0<=n/\n<len));.ret (g n)|none=>do bE (decide (0<=n/\n<len));sM i cs (G n*i.size)
  |none=>.ai
 |_,_=>.ai
def Ja(a:ay)(v:aP):PE aP:=
 match a,v with|true,.one (.s s)=>.ret (fU .i64 (ah s))|false,.one .nil=>.ret (fU .i64 0)|false,.one (.l .data t xs)=>do bE (!cf t.e);.ret (fU .i64 (ah xs))|false,.one (.l (.bm ..) t xs)=>do bE (!cf t.e);.ret (fU .i64 (ah xs))|false,.one (.n .data t o)=>do bE (!cf t.e);.ret (fU .i64 (ah (X o [])))|false,.one (.n (.bm ..) t o)=>do bE (!cf t.e);.ret (fU .i64 (ah (X o [])))|_,_=>.ai
def DC(cells:M E):M (U×M E)->M E|[]=>cells|(off,cs)::r=>DC (eF cells off cs) r
def DD(fs:M (U×bv))(af:bO):M (U×cD)->PE (M (U×M E))
 |[]=>.ret []|(i,o)::r=>do
  let v <-fh o
  match fs[i]?,v.fK with
  |some (off,t),J cs=>match af.ti t with|some ti=>do bE (Y cs==ti.size);let rest <-DD fs af r;.ret ((off,cs)::rest)|none=>.ai
  |_,_=>.ai
def Ys:D->Q E|.int k n=>J (.i k n)|.bool b=>J (match b with|true=>.tt|false=>.ff)|.bj s=>J (.s s)|.nil=>J .nil|.cV k=>J (.cV k)|_=>O
def yj:M D->Q (M E)
 |[]=>J []|d::ds=>match Ys d,yj ds with|some c,J cs=>J (c::cs)|_,_=>O
def fits(size:U)(ps:M (U×M E)):ay:=ps.all λp=>gG (p.1+Y p.2) size
def Po(af:bO)(t:bv)(parts:M (U×cD)):PE aP:=
 match af.ti t with
 |some {kind:=.struct fs,size,zero:=J z, ..}=>do
  bE (Y z==size&&fs.all λp=>aad (af.ti p.2))
  let ps <-DD fs af parts
  bE (fits size ps)
  match yj z with|some cs=>.ret (.agg (DC cs ps))|none=>.ai
 |some {kind:=.array n a,size,zero:=J z, ..}=>match af.ti a with
  |some i=>do
   bE (Y z==size)
   let ps <-DD ((jq n).map λj=>(j*i.size,a)) af parts
   bE (fits size ps)
   match yj z with|some cs=>.ret (.agg (DC cs ps))|none=>.ai
  |none=>.ai
 |_=>.ai
def AL:M (Q E)->M E|[]=>[]|o::os=>(match o with|some x=>x|none=>.bN)::AL os
def i6:M (M E)->M (M (Q E))->M (M E)|[],os=>os.map AL|b::a,o::os=>fg b o::i6 a os|a,[]=>a
structure cY:Type 1 where
 A:Type
 R:Type
 d:R
 eQ:List aP->List (List E)->Option A
 sh:A->Option R
 two:Bool
 flag:R->Bool
 out:A->R->Bool->aP×List (List (Option E))
 cI:List (Nat×Nat)
 F:qY
 one:two=false->∀y,flag y=true
 ok:∀args aI x y,eQ args aI=some x->sh x=some y->F (args.map aM) (aI.map aV)=some {v:=aM (out x y (flag y)).1,aI:=(i6 aI (out x y (flag y)).2).map aV,cI:=cI}
structure eR where
 N:Nat
 T:List (TypeId×TI)
 R:List (TypeId×Ty)
 fI:Nat->FuncId->Option cY
 var:List Nat
 res:List Nat
 eqs:List (TypeId×List Sc):=[]
 dat:List Nat:=[]
 nT:Bool:=false
 qZ:Bool:=false
 un:List Nat:=[]
 ss:List (Nat×List Int):=[]
def eR.c(e:eR):bO:={un:=e.un,ss:=e.ss,N:=e.N,T:=e.T,Γ:=λt f=>match e.fI t f with|some K=>J K.F|none=>O,var:=e.var,res:=e.res,eqs:=e.eqs,dat:=e.dat,nT:=e.nT,qZ:=e.qZ}
def sN:Ty->M D->Q (M D)
 |.int k,.int k' n::r=>if k=k'/\n=0 then J r else O|.bool,.bool b::r=>if b=I then J r else O|.bj,.bj s::r=>match s with|[]=>J r|_=>O
 |.sl _,.nil::r=>J r|.bJ h t,ds=>match sN h ds with|some r=>sN t r|none=>O
 |_,_=>O
def vo(t:Ty)(z:M D):ay:=match sN t z with|some []=>W|_=>I
def Jb(t:Ty)(size:U):M (U×cD)->M t.T->PE (M t.T)
 |[],rows=>.ret rows|(i,o)::r,rows=>do
  let v <-fh o
  match v.fK with
  |some cs=>do
   bE (Y cs==size&&bX i (Y rows))
   let ds <-vn cs
   match ls t ds with|some x=>Jb t size r (lq rows i x)|none=>.ai
  |none=>.ai
def Pp(af:eR)(t:bv)(len:U)(parts:M (U×cD)):PE aP:=
 match af.c.ti t with
 |some {kind:=.slice b, ..}=>match af.c.ti b,lk b af.R with
  |some i,J a=>match i.zero with
   |some z=>do
    bE (Y z==i.size&&bX 0 i.size&&gG (len*i.size) 16777216&&i.size==a.e&& !cf i.size&&vo a z)
    let rows <-Jb a i.size parts (ej len a.zero)
    .ret (.one (.l .ak a rows))
   |none=>.ai
  |_,_=>.ai
 |_=>.ai
def Pq(af:eR)(t:bv)(len cap:L):PE aP:=
 match af.c.ti t with
 |some {kind:=.slice b, ..}=>match af.c.ti b,lk b af.R with
  |some i,J a=>match i.zero with
   |some z=>do
    bE (Y z==i.size&&bX 0 i.size&&gG i.bytes 1024&&i.size==a.e&& !cf i.size&&vo a z)
    cX (decide (0<=len/\len<=cap/\cap<=68719476736))
    .ret (.one (.l .ak a (ej (G len) a.zero)))
   |none=>.ai
  |_,_=>.ai
 |_=>.ai
def dW{α:Type}(ys:M α):Q (M α):=match ys with|[]=>O|y::r=>J (y::r)
def Pr(i:TI)(t:Ty)(c:E)(ys:M t.T)(lit:ay):PE aP:=do
 bE (bX 0 i.size&&bX 0 i.bytes&&gG i.bytes 1024&&(match i.zero with|some z=>Y z==i.size|none=>I)&&i.size==t.e&& !cf i.size)
 match c with
 |.nil=>do
  cX (decide (Y ys<=68719476736))
  .ret (.one (match lit with
   |true=>(match ys with|[]=>.n .ak t (dW ys)|y::r=>.l .ak t (y::r))
   |false=>.n .ak t (dW ys)))
 |.l (.bm r j hv cv k) b xs=>.aG r λx=>do
  bE (x.hv==hv&&x.cv==cv&& !r.isArg)
  match x.at j with
  |.l .ak _ a=>do
   cX (decide (k+Y xs=Y a))
   cX (decide (Y xs+Y ys<=68719476736))
   rB r j x
   if h:b=t then .ret (.one (.l .ak t ((h▸xs)++ys)))else .ai
  |.n .ak _ o=>.call [] o λa=>do
   cX (decide (k+Y xs=Y a))
   cX (decide (Y xs+Y ys<=68719476736))
   rB r j x
   if h:b=t then .ret (.one (.l .ak t ((h▸xs)++ys)))else .ai
  |_=>.ai
 |_=>.ai
def jN{α:Type}(o:Q (M α))(ys:M α):Q (M α):=match o with|none=>dW ys|some xs=>J (xs++ys)
def Ps(i:TI)(t:Ty)(r:aO)(j hv cv k:U)(a:Ty)(o:Q (M a.T))(ys:M t.T)(lit:ay):PE aP:=do
 bE (bX 0 i.size&&bX 0 i.bytes&&gG i.bytes 1024&&(match i.zero with|some z=>Y z==i.size|none=>I)&&i.size==t.e&& !cf i.size)
 .aG r λx=>do
  bE (x.hv==hv&&x.cv==cv&& !r.isArg)
  match x.at j with
  |.n .ak _ b=>do
   cX (decide (k+Y (X o [])=Y (X b [])))
   cX (decide (Y (X o [])+Y ys<=68719476736))
   qk r j x (aad o)
   if h:a=t then .ret (.one (match lit,ys with
    |true,y::q=>.l .ak t ((X (h▸o:Q (M t.T)) [])++y::q)
    |_,_=>.n .ak t (jN (h▸o) ys)))else .ai
  |_=>.ai
def Pt(i:TI)(t:Ty)(c:E)(ys:M t.T)(lit:ay):PE aP:=
 match c with|.n (.bm r j hv cv k) a o=>Ps i t r j hv cv k a o ys lit|c=>do Pr i t (<-resolve c) ys lit
def isLit(var:M U):E->ay|.l .ak _ _=>W|.l (.bm (.tmp t) _ _ _ _) _ _=> !(aa1 var t)|_=>I
def Pu(af:bO)(i:TI)(t:Ty)(tid:bv)(c:E):PE (M t.T):=
 match af.ti tid with
 |some {kind:=.bj, ..}=>match c with|.s s=>if h:Ty.int .u8=t then do bE (i.size==1);.ret (h▸(fL s:M (Ty.int .u8).T))else .ai|_=>.ai
 |some {kind:=.slice _, ..}=>do bE (i.size==t.e);O8 t c|_=>.ai
def Pv(c:E):PE aP:=
 match c with|.nil=>.ret (fU .i64 0)|.n _ _ o=>do cX (!aad o);.ret (fU .i64 0)|_=>.ai
def Pw(i:TI)(t:Ty)(c:E)(n:L):PE aP:=
 match i.zero with
 |some z=>do
  bE (Y z==i.size&&bX 0 i.size&&bX 0 i.bytes&&gG i.bytes 1024&&i.size==t.e&& !cf i.size&&vo t z)
  match c with
  |.nil=>do
   cX (decide (0<=n/\n<=68719476736))
   .ret (.one (.n .ak t (dW (ej (G n) t.zero))))
  |.n _ _ o=>do
   cX (!aad o&&decide (0<=n/\n<=68719476736))
   .ret (.one (.n .ak t (dW (ej (G n) t.zero))))
  |_=>.ai
 |none=>.ai
def bq{α:Type}(l h:L)(xs:M α):M α:=(xs.take (G h)).drop (G l)
def Px(v:aP)(lo hi:Q L):PE aP:=
 match v with
 |.one (.s s)=>
  let h:=X hi (ah s)
  let l:=X lo 0
  do
  cX (decide (0<=l/\l<=h/\h<=ah s))
  .ret (.one (.s (bq l h s)))
 |_=>.ai
def Py(size:U)(v:aP)(lo hi:Q L):PE aP:=
 match v with
 |.one .nil=>do
  cX (decide (X lo 0=0/\X hi 0=0))
  .ret (.one .nil)
 |.one (.l .data t xs)=>do
  cX (decide (0<=X lo 0/\X lo 0<=X hi (ah xs)/\X hi (ah xs)<=ah xs))
  bE (t.e==size&& !cf size)
  .ret (.one (.l .data t (bq (X lo 0) (X hi (ah xs)) xs)))
 |.one (.n .data t o)=>do
  cX (decide (0<=X lo 0/\X lo 0<=X hi (ah (X o []))/\X hi (ah (X o []))<=ah (X o [])))
  bE (t.e==size&& !cf size)
  .ret (.one (.n .data t (o.map (bq (X lo 0) (X hi (ah (X o [])))))))
 |.one (.l (.bm r j hv cv k) t xs)=>do
  cX (decide (0<=X lo 0/\X lo 0<=X hi (ah xs)/\X hi (ah xs)<=ah xs))
  bE (t.e==size&& !cf size)
  .ret (.one (.l (.bm r j hv cv (k+G (X lo 0))) t (bq (X lo 0) (X hi (ah xs)) xs)))
 |.one (.n (.bm r j hv cv k) t o)=>do
  cX (decide (0<=X lo 0/\X lo 0<=X hi (ah (X o []))/\X hi (ah (X o []))<=ah (X o [])))
  bE (t.e==size&& !cf size)
  .ret (.one (.n (.bm r j hv cv (k+G (X lo 0))) t (o.map (bq (X lo 0) (X hi (ah (X o [])))))))
 |_=>.ai
def Jc(af:bO)(a:bv):ay:=
 match af.ti a with|some {kind:=.int .u8,size:=1, ..}=>W|_=>I
def Pz(af:bO)(src dst:bv)(v:aP):PE aP:=
 match af.ti src,af.ti dst with
 |some _,J {kind:=.int k, ..}=>match v with|.one (.i _ n)=>.ret (fU k (k.wrap n))|_=>.ai
 |some i,J {kind:=.bj, ..}=>match v with
  |.one (.s s)=>.ret (.one (.s s))|.one c=>match i.kind with
   |.slice a=>match Jc af a with
    |true=>do
     let xs <-O8 (.int .u8) c
     .ret (.one (.s (nj xs)))
    |false=>.ai
   |_=>.ai
  |_=>.ai
 |some _,J {kind:=.slice a, ..}=>match v with
  |.one (.s s)=>match Jc af a with|true=>.ret (.one (.l .ak (.int .u8) (fL s)))|false=>.ai
  |_=>.ai
 |_,_=>.ai
def pg:Ty->Q (M Sc)
 |.int k=>J [.int k]|.bool=>J [.bool]|.bj=>J [.bj]|.bJ h t=>match pg h,pg t with|some a,J b=>J (a++b)|_,_=>O
 |_=>O
def jx:(k:Ty)->k.T->k.T->ay|.int _,a,b=>(a:L)==b|.bool,a,b=>(a:ay)==b|.bj,a,b=>decide ((a:M ao)=b)|.bJ h t,a,b=>jx h a.1 b.1&&jx t a.2 b.2|_,_,_=>I
def dr{V:Type}(k:Ty)(x:k.T):M (k.T×V)->Q V
 |[]=>O|r::l=>match jx k x r.1 with|true=>J r.2|false=>dr k x l
def fV{V:Type}(k:Ty)(x:k.T)(y:V):M (k.T×V)->M (k.T×V)
 |[]=>[(x,y)]|r::l=>match jx k x r.1 with|true=>(x,y)::l|false=>r::fV k x y l
def ph:(k:Ty)->k.T->k.T->ay|.int _,a,b=>decide ((a:L)<b)|.bool,a,b=> !(a:ay)&&b|.bj,a,b=>NR (a:M ao) b|.bJ h t,a,b=>ph h a.1 b.1||(jx h a.1 b.1&&ph t a.2 b.2)|_,_,_=>I
def pi{V:Type}(k:Ty)(x:k.T)(y:V):M (k.T×V)->M (k.T×V)
 |[]=>[(x,y)]|r::l=>match ph k x r.1 with|true=>(x,y)::r::l|false=>r::pi k x y l
def PA{V:Type}(k:Ty)(x:k.T)(y:V)(l:M (k.T×V)):M (k.T×V):=match(aad (dr k x l)) with|true=>fV k x y l|false=>pi k x y l
def mF{V:Type}(k:Ty)(x:k.T):M (k.T×V)->U
 |[]=>0|r::l=>match jx k x r.1 with|true=>0|false=>mF k x l+1
def nn{V:Type}(k:Ty)(x:k.T)(z:V):M (k.T×V)->M (k.T×V)
 |[]=>[(x,z)]|r::l=>match jx k x r.1 with|true=>r::l|false=>r::nn k x z l
def pj{K V:Type}(y:V):U->M (K×V)->M (K×V)|_,[]=>[]|0,r::l=>(r.1,y)::l|n+1,r::l=>r::pj y n l
def np(k:Ty)(x:k.T):M k.T->ay
 |[]=>I|r::l=>match jx k x r with|true=>W|false=>np k x l
def oi(k:Ty)(x:k.T):M k.T->M k.T
 |[]=>[x]|r::l=>match jx k x r with|true=>x::l|false=>r::oi k x l
def Jd(t:Ty)(r:aO)(j hv:U):PE (M t.T):=
 .aG r λx=>(bE (x.hv==hv)).bind λ_=>match x.at j with|.l .ak t2 ys=>if h:t2=t then .ret (h▸ys)else .ai|.l .data t2 ys=>if h:t2=t then .ret (h▸ys)else .ai|.n .ak t2 o=>if h:t2=t then .call [] o λys=>.ret (h▸ys)else .ai|.n .data t2 o=>if h:t2=t then .call [] o λys=>.ret (h▸ys)else .ai|_=>.ai
def sO(t:Ty):E->PE (M t.T)|.cV .map=>.ret []|.l .data a xs=>if h:a=t then .ret (h▸xs)else .ai|.n .data a o=>if h:a=t then .call [] o λxs=>.ret (h▸xs)else .ai|.l (.bm r j hv _ _) a _=>if a=t then Jd t r j hv else .ai|.n (.bm r j hv _ _) a b=>if a=t then .call [] b λ_=>Jd t r j hv else .ai|_=>.ai
def aP.isAgg:aP->ay|.agg _=>W|_=>I
def PB(v:Ty)(y:v.T):PE aP:=
 match v.agg with
 |true=>.ret (.agg (eX v y))|false=>match eX v y with|[c]=>.ret (.one c)|_=>.ai
def yk(sh:M Sc)(ki ei:TI)(k v:Ty)(b:U)(c:ay):ay:=(match pg k with|some a=>decide (a=sh)|none=>I)&&k.w==ki.size&&k.agg==ki.kind.agg&&b==ei.size&&c==ei.kind.agg
def yl(k:Ty)(a:aP):Q k.T:=
 match a.isAgg==k.agg,a.fK with|true,J cs=>ls k cs|_,_=>O
def PD(af:eR)(t:bv)(c:E)(a:aP)(ok:ay):PE aP:=
 match jt af.c t with
 |some (kt,ki,ei)=>match rf af.c kt,ei.zero,lk t af.R with
  |some sh,J z,J (.cj u k v)=>match yl k a with
   |some x=>do
    bE (yk sh ki ei k v v.w v.agg&&vo v z&&(v.agg||v.w==1))
    let xs <-sO (.cj u k v) c
    match ok with|true=>.ret (.bw [(v.agg,eX v (X (dr k x xs) v.zero)),(I,[.b (aad (dr k x xs))])])|false=>PB v (X (dr k x xs) v.zero)
   |none=>.ai
  |some sh,J [],J (.set k)=>match yl k a with
   |some x=>do
    bE (yk sh ki ei k k 0 W)
    let xs <-sO (.set k) c
    match ok with|true=>.ret (.bw [(W,[]),(I,[.b (np k x xs)])])|false=>.ret (.agg [])
   |none=>.ai
  |_,_,_=>.ai
 |none=>.ai
def Je{α:Type}(t:Ty)(r:aO)(j:U)(x:dP)(cond:Q (M t.T->ay))(F:M t.T->M t.T)(out:M t.T->α)(ys:M t.T):PE α:=
 match cond with
 |none=>(lr r {x with cv:=x.cv+1,v:=x.v.setCell j (.l .ak t (F ys))}).bind λ_=>.ret (out ys)
 |some c=>(cX (c ys)).bind λ_=>(lr r {x with cv:=x.cv+1,v:=x.v.setCell j (.l .ak t (F ys))}).bind λ_=>.ret (out ys)
def Jf{α:Type}(t:Ty)(r:aO)(j hv:U)(cond:Q (M t.T->ay))(F:M t.T->M t.T)(out:M t.T->α):PE α:=
 .aG r λx=>(bE (x.hv==hv&& !r.isArg)).bind λ_=>match x.at j with|.l .ak t2 ys=>if h:t2=t then Je t r j x cond F out (h▸ys)else .ai|.n .ak t2 o=>if h:t2=t then .call [] o λys=>Je t r j x cond F out (h▸ys)else .ai|_=>.ai
def vp{α:Type}(t:Ty)(c:E)(cond:Q (M t.T->ay))(F:M t.T->M t.T)(out:M t.T->α):PE α:=
 match c with|.l (.bm r j hv _ _) a _=>if a=t then Jf t r j hv cond F out else .ai|.n (.bm r j hv _ _) a b=>if a=t then .call [] b λ_=>Jf t r j hv cond F out else .ai|_=>.ai
def PF(af:eR)(t:bv)(c:E)(b a:aP):PE bY:=
 match jt af.c t with
 |some (kt,ki,ei)=>match rf af.c kt,lk t af.R with
  |some sh,J (.cj u k v)=>match yl k b,a.fK with
   |some x,J d=>do
    bE (yk sh ki ei k v v.w v.agg&&a.isAgg==v.agg&&Y d==v.w)
    let ds <-vn d
    match ls v ds with
    |some y=>match u with|true=>vp (.cj W k v) c O (λxs=>PA k x y xs) λ_=>()|false=>vp (.cj I k v) c O (λxs=>fV k x y xs) λ_=>()
    |none=>.ai
   |_,_=>.ai
  |some sh,J (.set k)=>match yl k b,a.fK with
   |some x,J []=>do
    bE (yk sh ki ei k k 0 W&&a.isAgg)
    vp (.set k) c O (λxs=>oi k x xs) λ_=>()
   |_,_=>.ai
  |_,_=>.ai
 |none=>.ai
def PG(af:eR)(t:bv)(c:E)(a:aP):PE aP:=
 match jt af.c t with
 |some (kt,ki,ei)=>match rf af.c kt,ei.zero,lk t af.R with
  |some sh,J z,J (.cj I k v)=>match yl k a with
   |some x=>do
    bE (yk sh ki ei k v v.w v.agg&&vo v z&&(v.agg||v.w==1))
    vp (.cj I k v) c O (λxs=>nn k x v.zero xs) λxs=>.bw [(v.agg,eX v (X (dr k x xs) v.zero)),(I,[.i .i64 (mF k x xs)])]
   |none=>.ai
  |_,_,_=>.ai
 |none=>.ai
def PH(af:eR)(t:bv)(c st:E)(a:aP):PE bY:=
 match jt af.c t,lk t af.R,st,a.fK with
 |some (_,ki,ei),J (.cj I k v),.i _ n,J b=>do
  bE (k.w==ki.size&&k.agg==ki.kind.agg&&v.w==ei.size&&v.agg==ei.kind.agg&&a.isAgg==v.agg&&Y b==v.w)
  let ds <-vn b
  match ls v ds with|some y=>vp (.cj I k v) c (J λxs=>decide (0<=n/\n<ah xs)) (λxs=>pj y (G n) xs) λ_=>()|none=>.ai
 |_,_,_,_=>.ai
def PJ(af:eR)(t:bv)(dst:U):PE aP:=
 match jt af.c t,lk t af.R with
 |some (_,ki,ei),J (.cj u k v)=>do
  bE (k.w==ki.size&&k.agg==ki.kind.agg&&v.w==ei.size&&v.agg==ei.kind.agg&&u==aa1 af.un dst)
  .ret (.one (.l .ak (.cj u k v) []))
 |some (_,ki,ei),J (.set k)=>do
  bE (k.w==ki.size&&k.agg==ki.kind.agg&&0==ei.size&&W==ei.kind.agg&& !aa1 af.un dst)
  .ret (.one (.l .ak (.set k) []))
 |_,_=>.ai
def PK(af:eR)(t:bv)(c:E):PE aP:=
 match jt af.c t,lk t af.R with
 |some (_,ki,ei),J (.cj I k v)=>do
  bE (k.w==ki.size&&k.agg==ki.kind.agg&&v.w==ei.size&&v.agg==ei.kind.agg)
  let d <-pf c
  match d with|.l .data a xs=>if h:a=.cj I k v then .ret (.one (.it .ak (.cj I k v) (h▸xs) []))else .ai|.n .data a o=>if h:a=.cj I k v then .call [] o λxs=>.ret (.one (.it .ak (.cj I k v) (h▸xs) []))else .ai|_=>.ai
 |_,_=>.ai
def DE(k v:Ty)(r:k.T×v.T):M (ay×M E):=[(k.agg,eX k r.1),(v.agg,eX v r.2)]
def DF(u:ay)(k v:Ty):ay:=uA (Ty.cj u k v).e==k.w&&xq (Ty.cj u k v).e==k.agg&&xt (Ty.cj u k v).e==v.agg
def PN(c:E):PE aP:=
 match c with
 |.it (.bm r j hv _ _) _ _ _=>.aG r λx=>do
  bE (x.hv==hv&& !r.isArg)
  match x.at j with
  |.it .ak (.cj u k v) xs (i::_)=>do
   bE (DF u k v)
   cX (bX i (List.length (α:=k.T×v.T) xs))
   .ret (.bw (DE k v (List.getD (α:=k.T×v.T) xs i (k.zero,v.zero))))
  |_=>.ai
 |_=>.ai
def PP(af:eR)(t:bv)(c:E):PE aP:=
 match jt af.c t,lk t af.R with
 |some (_,ki,ei),J (.cj u k v)=>do
  bE (k.w==ki.size&&k.agg==ki.kind.agg&&v.w==ei.size&&v.agg==ei.kind.agg)
  let xs <-sO (.cj u k v) c
  .ret (fU .i64 (ah xs))
 |some (_,ki,ei),J (.set k)=>do
  bE (k.w==ki.size&&k.agg==ki.kind.agg&&0==ei.size&&W==ei.kind.agg)
  let xs <-sO (.set k) c
  .ret (fU .i64 (ah xs))
 |_,_=>.ai
def oj:M E->M aD|[]=>[]|.aX k _::cs=>k::oj cs|.dj _ caps::cs=>caps.map (·.1)++oj cs|_::cs=>oj cs
def DG(af:bO):E->PE E
 |.l (.bm (.tmp u) j hv cv k) t xs=>match af.keep u with|true=>.ret (.l (.bm (.tmp u) j hv cv k) t xs)|false=>pf (.l (.bm (.tmp u) j hv cv k) t xs)
 |.n (.bm (.tmp u) j hv cv k) t o=>match af.keep u with|true=>.ret (.n (.bm (.tmp u) j hv cv k) t o)|false=>pf (.n (.bm (.tmp u) j hv cv k) t o)
 |.l (.bm (.box q) j hv cv k) t xs=>match af.qZ with|false=>.ret (.l (.bm (.box q) j hv cv k) t xs)|true=>pf (.l (.bm (.box q) j hv cv k) t xs)
 |.n (.bm (.box q) j hv cv k) t o=>match af.qZ with|false=>.ret (.n (.bm (.box q) j hv cv k) t o)|true=>pf (.n (.bm (.box q) j hv cv k) t o)
 |.it m t xs a=>match m with|.bm .. =>.ai|m=>.ret (.it m t xs a)
 |c=>.ret c
def Jg(af:bO)(c:E):PE E:=DG af c
def DH(af:bO):M E->PE (M E)|[]=>.ret []|c::cs=>do let a <-Jg af c;let r <-DH af cs;.ret (a::r)
def AN(af:bO):aP->PE aP|.one c=>do .ret (.one (<-Jg af c))|.agg cs=>do .ret (.agg (<-DH af cs))|_=>.ai
def Jh(af:bO):M aP->PE (M aP)|[]=>.ret []|v::vs=>do let a <-AN af v;let r <-Jh af vs;.ret (a::r)
def AO(ks:M aD):E->PE E
 |.l (.bm r j hv cv _) t xs=>.aG r λx=>do
  bE (x.hv==hv&&x.cv==cv)
  match x.at j with
  |.l .ak _ _=>do
   bE (ks.all λk=> !ic r (.box k))
   .ret (.l .ak t xs)
  |.n .ak _ o=>.call [] o λ_=>do
   bE (ks.all λk=> !ic r (.box k))
   .ret (.l .ak t xs)
  |.l .data _ _=>.ret (.l .data t xs)|.n .data _ o=>.call [] o λ_=>.ret (.l .data t xs)|_=>.ai
 |.n (.bm r j hv cv _) t o=>.aG r λx=>do
  bE (x.hv==hv&&x.cv==cv)
  match x.at j with
  |.n .ak _ _=>do
   AH j x (aad o)
   bE (ks.all λk=> !ic r (.box k))
   .ret (.n .ak t o)
  |.n .data _ _=>do
   AH j x (aad o)
   .ret (.n .data t o)
  |_=>.ai
 |.aX k off=>.ret (.aX (.aC (idx k ks)) off)|.dj f caps=>.ret (.dj f (caps.map λp=>(.aC (idx p.1 ks),p.2)))|c=>match oh c with|true=>.ret c|false=>.ai
def DI(ks:M aD):M E->PE (M E)|[]=>.ret []|c::cs=>do let a <-AO ks c;let r <-DI ks cs;.ret (a::r)
def AP(ks:M aD):aP->PE aP|.one c=>do .ret (.one (<-AO ks c))|.agg cs=>do .ret (.agg (<-DI ks cs))|_=>.ai
def Ji(ks:M aD):M aP->PE (M aP)|[]=>.ret []|v::vs=>do let a <-AP ks v;let r <-Ji ks vs;.ret (a::r)
def rD:E->ay|.i _ _|.b _|.tt|.ff|.s _|.l .data _ _|.n .data _ _|.l .ak _ _|.n .ak _ _|.nil|.cV _|.r _ _=>W|_=>I
def lu(ks:M aD):E->ay|.aX k _=>ks.any (gx k)|.bN=>W|c=>rD c
def lW(ks:M aD):E->E|.aX k off=>.aX (.aC (idx k ks)) off|c=>c
def Jj:Q E->ay|some .bN=>W|some c=>rD c|none=>W
def ql(a:M aD):M aD->PE (M (M E))
 |[]=>.ret []|k::ks=>.aG (.box k) λx=>match x.v with|.agg cs=>do bE (cs.all (lu a));let r <-ql a ks;.ret (cs.map (lW a)::r)|_=>.ai
def Jk:M aD->PE (M aD)
 |[]=>.ret []|k::ks=>.aG (.box k) λx=>match x.v with|.agg cs=>do let r <-Jk ks;.ret (oj cs++r)|_=>.ai
def DJ:M E->M (Q E)->ay|[.aX _ _],[]=>W|[.aX _ _],O::_=>W|_,_=>I
def DK(a:M aD):M aD->M (M (Q E))->PE bY
 |[],_=>.ret ()|k::ks,o::os=>.aG (.box k) λx=>match x.v with
  |.agg cs=>do
   bE (cs.all (lu a)&&o.all Jj)
   match DJ cs o with|true=>DK a ks os|false=>.wr k o (DK a ks os)
  |_=>.ai
 |_,_=>.ai
def Jl(t:U):U->M (M E)->PE bY
 |_,[]=>.ret ()|i,b::a=>.aG (.box (.cn t i)) λx=>match x.v with|.undef=>do bE (b.all rD);lr (.box (.cn t i)) {hv:=x.hv+1,cv:=x.cv,v:=.agg b};Jl t (i+1) a|_=>.ai
def PQ(args:M aP)(l:M (U×U)):ay:=l.all λp=>oh (H (H args p.1 .undef).cells p.2 .bN)
def Jm(ks:M aD)(t:U):E->PE E
 |.aX (.aC i) off=>.ret (.aX (NS ks t (.aC i)) off)|.dj f caps=>do bE caps.isEmpty;.ret (.dj f [])|c=>match rD c with|true=>.ret c|false=>.ai
def AQ(ks:M aD)(t:U):M E->PE (M E)|[]=>.ret []|c::cs=>do let a <-Jm ks t c;let r <-AQ ks t cs;.ret (a::r)
def DM(ks:M aD)(t:U):M (ay×M E)->PE (M (ay×M E))|[]=>.ret []|(b,cs)::vs=>do let a <-AQ ks t cs;let r <-DM ks t vs;.ret ((b,a)::r)
def vq(ks:M aD)(t:U):aP->PE aP|.one c=>do .ret (.one (<-Jm ks t c))|.agg cs=>do .ret (.agg (<-AQ ks t cs))|.bw vs=>do .ret (.bw (<-DM ks t vs))|.undef=>.ai
def ym(K:cY)(ks:M aD)(a:M aP)(t:U)(x:K.A)(y:K.R)(b:ay):PE aP:=do
 bE (gG (Y ks) (Y (K.out x y b).2)&&PQ a K.cI)
 DK ks ks ((K.out x y b).2.take (Y ks))
 Jl t 0 (((K.out x y b).2.drop (Y ks)).map AL)
 vq ks t (K.out x y b).1
def PR(af:eR)(f:dS)(b:M aP)(t:U):PE aP:=
 match af.fI t f with
 |none=>.ai|some K=>do
  let args <-Jh af.c b
  let more <-Jk (nb (oj (args.flatMap aP.cells)))
  let ks:=nb (oj (args.flatMap aP.cells)++more)
  let a <-Ji ks args
  let e <-ql ks ks
  match K.eQ a e with
  |none=>.ai|some x=>.call K.d (K.sh x) λy=>match K.two with|false=>ym K ks a t x y W|true=>.br (K.flag y) (ym K ks a t x y W) (ym K ks a t x y I)
def Yt(o:cD):PE (dS×M aP):=
 match o with
 |.func f=>.ret (f,[])|o=>do
  match <-fT o with|.dj f caps=>.ret (f,caps.map λp=>.one (.aX p.1 p.2))|_=>.ai
def DN(af:bO)(c:E)(r:aO):ay:=
 match r with
 |.tmp u=> !aa1 af.var u||(match c with|.aX (.az t) _=>aa1 af.res t|_=>I)
 |.box (.az _)=>(match c with|.aX (.az t) _=>aa1 af.res t|_=>I)
 |_=>I
def DO(self:aO×U)(u:cD):E->PE E
 |.l (.bm r j hv cv k) t xs=>match sz u r with|true=>Dz (J self) (sz u) (.l (.bm r j hv cv k) t xs)|false=>.ret (.l (.bm r j hv cv k) t xs)
 |.n (.bm r j hv cv k) t o=>match sz u r with|true=>Dz (J self) (sz u) (.n (.bm r j hv cv k) t o)|false=>.ret (.n (.bm r j hv cv k) t o)
 |.it m t xs a=>match m with|.bm .. =>.ai|m=>.ret (.it m t xs a)
 |c=>.ret c
def AU(r:aO)(u:cD):U->M E->PE (M E)|_,[]=>.ret []|i,c::cs=>do let b <-DO (r,i) u c;let a <-AU r u (i+1) cs;.ret (b::a)
def DP(r:aO)(u:cD):U->M (ay×M E)->PE (M (ay×M E))|_,[]=>.ret []|i,(b,cs)::vs=>do let a <-AU r u i cs;let c <-DP r u (i+Y cs) vs;.ret ((b,a)::c)
def rE(r:aO)(u:cD):aP->PE aP|.one c=>do .ret (.one (<-DO (r,0) u c))|.agg cs=>do .ret (.agg (<-AU r u 0 cs))|.bw vs=>do .ret (.bw (<-DP r u 0 vs))|.undef=>.ai
def AV:Q cD->PE (Q L)|none=>.ret O|some o=>do .ret (J (<-vk (<-fT o)))
def ji(a b:L):L:=if b<a then b else a
def lX(a b:L):L:=if b>a then b else a
def Jn(c:ay):M aP->PE aP|[.one (.i k a),.one (.i _ b)]=>.ret (fU k (match c with|true=>ji a b|false=>lX a b))|_=>.ai
def Yu:aP->Q (aD×U)|.one (.aX k o)=>J (k,o)|_=>O
def DQ:M aP->Q (M (aD×U))
 |[]=>J []|v::r=>match Yu v,DQ r with|some p,J l=>J (p::l)|_,_=>O
def gy(o:cD)(b:ay):PE bY:=
 match o with|.tmp t=>.gy (.tmp t) b (.ret ())|_=>.ret ()
def fi(af:eR)(op:Op)(dst:U):PE aP:=
 match op with
 |.move x=>do
  let v <-fh x
  match Vs.isVar af.c x with|true=>.ret v|false=>rE (.tmp dst) x v
 |.assign x=>do
  let v <-fh x
  sL (.tmp dst) (VD af.c dst) v
 |.pick c a b=>do
  match <-fT c with|.tt=>fh a|.ff=>fh b|.b x=>.br x (do gy c W;fh a) (do gy c I;fh b)|_=>.ai
 |.alloc t=>match af.c.ti t with
  |some {size,zero:=J z, ..}=>do
   bE (Y z==size)
   .aG (.box (.az dst)) λx=>match x.v with
    |.undef=>match yj z with|some cs=>do lr (.box (.az dst)) {hv:=x.hv+1,cv:=x.cv,v:=.agg cs};.ret (.one (.aX (.az dst) 0))|none=>.ai
    |_=>.ai
  |_=>.ai
 |.box _ x=>do
  let v <-fh x
  match v.fK with
  |some cs=>do
   let cs' <-vm (λn=>(.box (.az dst),n)) (DN af.c (.aX (.az dst) 0)) 0 cs
   .aG (.box (.az dst)) λx=>match x.v with|.undef=>do lr (.box (.az dst)) {hv:=x.hv+1,cv:=x.cv,v:=.agg cs'};.ret (.one (.aX (.az dst) 0))|_=>.ai
  |none=>.ai
 |.build t ps=>Po af.c t (V ps)|.buildSlice t len ps=>Pp af t len (V ps)|.load t a=>match af.c.ti t with|some i=>do AK i (<-fT a)|none=>.ai
 |.nilCheck x=>do
  match <-fT x with|.aX k o=>.ret (.one (.aX k o))|.ea r j hv e i o=>.ret (.one (.ea r j hv e i o))|.da t x o=>.ret (.one (.da t x o))|_=>.ai
 |.binOp op t x y _=>do
  match <-fh x,<-fh y with|.one a,.one b=>Pe af.c t op a b|.agg xs,.agg ys=>Pf af.c t op xs ys|_,_=>.ai
 |.unOp op _ x=>do
  match op,<-fT x with|.neg,.i k n=>.ret (fU k (k.wrap (0-n)))|.xor,.i k n=>DB .xor k (if k.signed then-1 else k.max) n|.not,.b b=>.ret (kx (!b))|.not,.tt=>.ret (.one .ff)|.not,.ff=>.ret (.one .tt)|_,_=>.ai
 |.convert s t x=>do Pz af.c s t (<-fh x)|.makeFunc (.func f) first captured=>do
  bE ((V first).isEmpty)
  let vs <-yg (V captured)
  match DQ vs with|some l=>.ret (.one (.dj f l))|none=>.ai
 |.makeSlice t l c=>do
  let n <-vk (<-fT l)
  let m <-vk (<-fT c)
  Pq af t n m
 |.slice t x lo hi O=>match af.c.ti t with
  |some {kind:=.bj, ..}=>do
   let v <-fh x
   let l <-AV lo
   let h <-AV hi
   Px v l h
  |some {kind:=.slice et, ..}=>match af.c.ti et with
   |some i=>do
    let v <-fh x
    let l <-AV lo
    let h <-AV hi
    Py i.size v l h
   |none=>.ai
  |_=>.ai
 |.fieldAddr t x f=>do .ret (.one (<-Ph af.c t (<-fT x) f))|.field t x f=>do
  match af.c.ti t,<-fh x with
  |some {kind:=.struct fs, ..},.agg cs=>match fs[f]? with
   |some (o,ft')=>match af.c.ti ft' with|some i=>sM i cs o|none=>.ai
   |none=>.ai
  |_,_=>.ai
 |.indexAddr t x ix=>match x with
  |.global g=>do
   let n <-vk (<-fT ix)
   .ret (.one (<-Pj af.c t g n))
  |x=>do
   let c <-fT x
   let n <-vk (<-fT ix)
   .ret (.one (<-Pk af.c t c n))
 |.index t x ix=>do
  let v <-fh x
  let n <-vk (<-fT ix)
  Pn af.c t v n
 |.extract x n=>do
  match <-fh x with
  |.bw vs=>match vs[n]? with|some (W,cs)=>rE (.tmp dst) x (.agg cs)|some (I,[c])=>rE (.tmp dst) x (.one c)|_=>.ai
  |_=>.ai
 |.call {callee:=.builtin .len,args,argTypes}=>match V args,V argTypes with
  |[x],[t]=>match af.c.ti t with|some {kind:=.bj, ..}=>do Ja W (<-fh x)|some {kind:=.slice _, ..}=>do Ja I (<-fh x)|some {kind:=.map _ _, ..}=>do PP af t (<-fT x)|_=>.ai
  |_,_=>.ai
 |.range t x=>do PK af t (<-fT x)|.entry x=>do PN (<-fT x)|.makeMap t O=>PJ af t dst|.lookup t x ix ok=>do
  let c <-fT x
  let v <-fh ix
  PD af t c v ok
 |.mapEntry t m k=>do
  let c <-fT m
  let v <-fh k
  PG af t c v
 |.call {callee:=.builtin .append,args,argTypes}=>match V args,V argTypes with
  |[x,y],[t,t2]=>match af.c.ti t with
   |some {kind:=.slice et, ..}=>match af.c.ti et,lk et af.R with
    |some i,J ty=>match af.c.ti t2 with
     |some {kind:=.int .i64, ..}=>do
      let c <-fT x
      let n <-vk (<-fT y)
      Pw i ty c n
     |_=>do
      let c <-fT x
      let c2 <-fT y
      let ys <-Pu af.c i ty t2 c2
      Pt i ty c ys (isLit af.c.var c2)
    |_,_=>.ai
   |_=>.ai
  |_,_=>.ai
 |.call {callee:=.builtin .cap,args,argTypes}=>match V args,V argTypes with
  |[x],[t]=>match af.c.ti t with|some {kind:=.slice _, ..}=>do Pv (<-fT x)|_=>.ai
  |_,_=>.ai
 |.call {callee:=.builtin .min,args, ..}=>do Jn W (<-yg (V args))|.call {callee:=.builtin .max,args, ..}=>do Jn I (<-yg (V args))|.call {callee:=.value o,args, ..}=>do
  let (f,caps) <-Yt o
  let vs <-yg (V args)
  PR af f (vs++caps) dst
 |_=>.ai
def AW(af:eR)(t:U)(v:aP):PE bY:=
 .aG (.tmp t) λx=>do
  bE (bX t af.N)
  lr (.tmp t) {hv:=x.hv+1,cv:=x.cv,v}
def om(af:eR)(o:cR):PE bY:=
 match o.op,o.dst with
 |.store t a x,O=>match af.c.ti t with
  |some i=>do
   let c <-fT a
   let v <-fh x
   Pg (DN af.c c) i c v
  |none=>.ai
 |.mapUpdate t m k x,O|.insert t m k x,O=>do
  let c <-fT m
  let b <-fh k
  let vx <-fh x
  PF af t c b vx
 |.entryStore t m st x,O=>do
  let c <-fT m
  let s <-fT st
  let vx <-fh x
  PH af t c s vx
 |op,J d=>do AW af d (<-fi af op d)|_,O=>.ai
def Jo(af:eR)(e:bZ cR)(o:cR):PE bY:=
 match o.guard with
 |none=>om af o|some (j,c)=>do
  let a:PE bY:=match o.dst with|some d=>AW af d (.bw [])|none=>.ret ()
  match(e[j]?).bind (·.dst)with
  |some t=>.aG (.tmp t) λx=>match x.v with
   |.one .tt=>match c with|true=>om af o|false=>a
   |.one .ff=>match c with|true=>a|false=>om af o
   |.one (.b b)=>match c with|true=>.br b (.gy (.tmp t) W (om af o)) (.gy (.tmp t) I a)|false=>.br b (.gy (.tmp t) W a) (.gy (.tmp t) I (om af o))
   |.bw []=>a|_=>.ai
  |none=>.ai
def rF(af:eR)(a:bZ cR):M cR->bp->Tr (bp×M (M aO×M aO))|[],s=>.dw (s,[])|o::r,s=>((Jo af a o).cU s).bind λx=>(rF af a r x.2.1).bind λy=>.dw (y.1,(x.2.2.1,x.2.2.2)::y.2)
namespace Tr
def vr{α β:Type}(t:Tr α)(f:α->Tr β)(Q:β->Prop):(t.bind f).box Q↔t.box λa=>(f a).box Q:=by
 induction t with|dw a=>rfl|ai=>exact uf|br c t e b g=>simp only[bind,box,b,g]|call d o k h=>simp only[bind,box,h]|sum o k k' h i=>simp only[bind,box,h,i]
theorem rG{α β:Type}(t:Tr α)(f:α->β)(Q:β->Prop):(t.map f).box Q↔t.box λa=>Q (f a):=by
 induction t with|dw a=>rfl|ai=>exact uf|br c t e b g=>simp only[map,box,b,g]|call d o k h=>simp only[map,box,h]|sum o k k' h i=>simp only[map,box,h,i]
theorem oq{α:Type}{t:Tr α}{Q Q':α->Prop}(h:∀a,Q a->Q' a)(b:t.box Q):t.box Q':=by
 induction t with|dw a=>exact h _ b|ai=>trivial|br c t e g i=>exact⟨λj=>g (b.1 j),λj=>i (b.2 j)⟩|call d o k l=>exact λx f=>l x (b x f)|sum o k k' l m=>exact⟨λx f=>l x (b.1 x f),λx f=>m x (b.2 x f)⟩
def ky{α β:Type}(t:Tr α)(f:α->Tr β)(Q:β->Prop):(t.bind f).eI Q↔t.eI λa=>(f a).eI Q:=by
 induction t with|dw a=>rfl|ai=>exact uf|br c t e b g=>simp only[bind,eI,b,g]|call d o k h=>simp only[bind,eI,h]|sum o k k' h i=>simp only[bind,eI,h,i]
theorem lv{α β:Type}(t:Tr α)(f:α->β)(Q:β->Prop):(t.map f).eI Q↔t.eI λa=>Q (f a):=by
 induction t with|dw a=>rfl|ai=>exact uf|br c t e b g=>simp only[map,eI,b,g]|call d o k h=>simp only[map,eI,h]|sum o k k' h i=>simp only[map,eI,h,i]
theorem gX{α:Type}{t:Tr α}{Q Q':α->Prop}(h:∀a,Q a->Q' a)(b:t.eI Q):t.eI Q':=by
 induction t with|dw a=>exact h _ b|ai=>trivial|br c t e f g=>exact⟨f b.1,g b.2⟩|call d o k i=>exact λx=>i x (b x)|sum o k k' i j=>exact⟨λx=>i x (b.1 x),λx=>j x (b.2 x)⟩
def AX{α:Type}(t:Tr α):t.eI λ_=>dL:=by
 induction t with|dw a=>trivial|ai=>trivial|br c t e b f=>exact⟨b,f⟩|call d o k g=>exact g|sum o k k' g h=>exact⟨g,h⟩
def vt{α:Type}{t:Tr α}{Q:α->Prop}(b:t.eI Q):t.box Q:=by
 induction t with|dw a=>exact b|ai=>trivial|br c t e f g=>exact⟨λ_=>f b.1,λ_=>g b.2⟩|call d o k h=>exact λx _=>h x (b x)|sum o k k' h i=>exact⟨λx _=>h x (b.1 x),λx _=>i x (b.2 x)⟩
def sP{α:Type}{t:Tr α}{Q p:α->Prop}(h:t.all Q)(f:t.box p):t.all λa=>Q a/\p a:=by
 induction t with
 |dw a=>exact⟨h,f⟩|ai=>exact h|br c t e j l=>exact⟨λi=>j (h.1 i) (f.1 i),λi=>l (h.2 i) (f.2 i)⟩|call d o k m=>let⟨x,b,g⟩:=h;exact⟨x,b,m x g (f x b)⟩
 |sum o k k' m n=>exact⟨λx b=>m x (h.1 x b) (f.1 x b),λx b=>n x (h.2 x b) (f.2 x b)⟩
def Yv{α:Type}{t:Tr α}{Q l:α->Prop}(h1:t.box Q)(h2:t.box l):t.box λa=>Q a/\l a:=by
 induction t with|dw a=>exact⟨h1,h2⟩|ai=>trivial|br c t e g h=>exact⟨λf=>g (h1.1 f) (h2.1 f),λf=>h (h1.2 f) (h2.2 f)⟩|call d o k i=>exact λx b=>i x (h1 x b) (h2 x b)|sum o k k' i j=>exact⟨λx b=>i x (h1.1 x b) (h2.1 x b),λx b=>j x (h1.2 x b) (h2.2 x b)⟩
theorem AY{α:Type}(t:Tr α)(Q:α->Prop):t.all Q↔ ∃a,t.run=J a/\Q a:=by
 induction t with
 |dw a=>simp[all,run]|ai=>simp[all,run]|br c t e b f=>cases c<;>simp[all,run,b,f]
 |call d o k g=>cases o<;>simp[all,run,aq,g]
 |sum o k k' g h=>cases o<;>simp[all,run,dh,g,h]
theorem run_bind{α β:Type}(t:Tr α)(f:α->Tr β):(t.bind f).run=t.run.bind λa=>(f a).run:=by
 induction t with
 |dw a=>rfl|ai=>rfl|br c t e b g=>cases c<;>simp[bind,run,b,g]
 |call d o k h=>cases o<;>simp[bind,run,aq,h]
 |sum o k k' h i=>cases o<;>simp[bind,run,dh,h,i]
def run_map{α β:Type}(t:Tr α)(f:α->β):(t.map f).run=t.run.map f:=by
 induction t with
 |dw a=>rfl|ai=>rfl|br c t e b g=>cases c<;>simp[map,run,b,g]
 |call d o k h=>cases o<;>simp[map,run,aq,h]
 |sum o k k' h i=>cases o<;>simp[map,run,dh,h,i]
end Tr
theorem sQ{α:Type}:∀(l:M α)(j:U)(c:α),lq l j c=l.set j c|[],j,c=>by simp[lq]|x::r,0,c=>rfl|x::r,j+1,c=>by simp[lq,sQ r j c]
def Yw(cs:M E)(j:U)(c:E):aV (lq cs j c)=(aV cs).set j (cE c):=by rw[sQ];simp[aV,List.map_set]
@[simp] def rH(cs:M E):Y (aV cs)=Y cs:=by simp[aV]
@[simp] def PT(l m:M E):aV (l++m)=aV l++aV m:=by simp[aV]
def Yx:∀(vs:M (ay×M E)),(fq vs).flatMap (·.2)=aV (vs.flatMap (·.2))|[]=>rfl|(b,cs)::r=>by have:=Yx r;simp_all [fq]
def Jp(v:aP):(aM v).cells=aV v.cells:=by
 cases v with|bw vs=>exact Yx vs|_=>rfl
def AZ{α β:Type}(f:α->β)(l:M α)(j:U)(d:α):H (l.map f) j (f d)=f (H l j d):=by grind
def kz(x:dP)(j:U):(cL x).at j=cE (x.at j):=by show(H (aM x.v).cells) j .bN=_;rw[Jp];exact AZ cE _ j .bN
def Yy:∀(vs:M (ay×M E))(j:U)(c:E),fq (Dv vs j c)=qW (fq vs) j (cE c)|[],j,c=>rfl|(b,cs)::r,j,c=>by have a:=Yy r (j-Y cs) c;simp only[Dv,fq,fc,qW,rH]at a ⊢;split<;>simp[Yw,a]
theorem nr(v:aP)(j:U)(c:E):aM (v.setCell j c)=(aM v).setCell j (cE c):=by
 cases v with|one x=>show aM (if j=0 then .one c else .one x)=if j=0 then .one (cE c)else .one (cE x);split<;>rfl|agg cs=>simp only[aP.setCell,aM,SV.setCell,Yw]|bw vs=>simp only[aP.setCell,aM,SV.setCell,Yy]|undef=>rfl
theorem Yz(v:SV)(j:U)(h:j<v.cells.length):v.setCell j (v.cells.getD j .bN)=v:=by
 cases v with
 |one x=>
  simp only[SV.cells,List.length_singleton]at h;have:j=0:=by omega
  subst this;rfl
 |agg cs=>simp_all [SV.cells,SV.setCell]|bw vs=>
  simp only[SV.cells]at h ⊢;simp only[SV.setCell,SV.bw.injEq];induction vs generalizing j with|nil=>rfl|cons p r a=>let⟨b,cs⟩:=p;simp only[kK,List.length_append]at h;simp only[qW,kK];split;simp_all;grind
 |undef=>simp[SV.cells]at h
def vu(m:Md)(t:Ty)(o:Q (M t.T))(h:aad o=W):cE (.n m t o)=cE (.l m t (X o [])):=by
 cases o with
 |none=>cases h
 |some xs=>rfl
def YA(r:aO)(x:dP)(j:U)(c:E):cE (vj r x j c)=nU r (cL x) j (cE c):=by
 cases c with
 |l m t xs=>cases m<;>rfl
 |n m t o=>cases m<;>cases o<;>rfl
 |it m t xs a=>cases m<;>rfl
 |gW b=>cases b<;>rfl
 |_=>rfl
theorem Jq(r:aO)(x:dP):∀(j:U)(cs:M E),aV (yf r x j cs)=iW r (cL x) j (aV cs)|j,[]=>rfl|j,c::cs=>by have:=Jq r x (j+1) cs;simp_all [aV,yf,iW,YA]
def YB(r:aO)(x:dP):∀(j:U)(vs:M (ay×M E)),fq (Dw r x j vs)=uC r (cL x) j (fq vs)|j,[]=>rfl|j,(b,cs)::vs=>by have:=YB r x (j+Y cs) vs;simp_all [fq,Dw,uC,Jq]
def copy_eq(x:dP)(r:aO):aM (x.gq r)=(cL x).gq r:=by
 let⟨hv,cv,v⟩:=x;cases v with|one c=>exact cb SV.one (YA r _ 0 c)|agg cs=>exact cb SV.agg (Jq r _ 0 cs)|bw vs=>exact cb SV.bw (YB r _ 0 vs)|undef=>rfl
theorem YC{v:aL}{e:E}(h:Dx v=J e):∃d,uB v=J d/\cE e=.d d:=by unfold Dx at h;split at h<;>first|(cases h;exact⟨_,rfl,rfl⟩)|(rename_i b;cases h;cases b<;>exact⟨_,rfl,rfl⟩)|(cases h;done)
theorem YD:∀{vs:M aL}{es:M E},I6 vs=J es->∃ds,lQ vs=J ds/\aV es=ds.map .d
 |[],es,h=>by cases h;exact⟨[],rfl,rfl⟩
 |v::r,es,h=>by unfold I6 at h;split at h;rename_i d ds h1 h2;cases h;let⟨x,a,b⟩:=YC h1;let⟨xs,c,e⟩:=YD h2;simp_all [lQ,aV];cases h
theorem kQ:∀(t:Ty)(x:t.T),aV (eX t x)=(be t x).map .d
 |.int k,n=>rfl|.bool,b=>rfl|.bj,s=>rfl|.sl t,o=>by cases o<;>rfl
 |.bJ h t,x=>by have h1:=kQ h x.1;have h2:=kQ t x.2;simp only[eX,PT,h1,h2,be,si]|.set h,x=>by simpa[eX,be]using kQ h x|.cj _ h t,x=>by have h1:=kQ h x.1;have h2:=kQ t x.2;simp only[eX,PT,h1,h2,be,si]
theorem jk:∀(t:Ty)(x:t.T),Y (be t x)=t.w
 |.int k,n=>rfl|.bool,b=>rfl|.bj,s=>rfl|.sl t,o=>by cases o<;>rfl
 |.bJ h t,x=>by simp[be,Ty.w,jk h x.1,jk t x.2]|.set h,x=>by simpa[be,Ty.w]using jk h x|.cj _ h t,x=>by simp[be,Ty.w,jk h x.1,jk t x.2]
theorem A0:∀(t:Ty)(cs r:M E)(x:t.T),og t cs=J (x,r)->∃a,cs=a++r/\aV a=(be t x).map .d
 |.int k,cs,r,x,h=>by unfold og at h;split at h;split at h;rename_i hk;cases h;subst hk;exact⟨[.i _ _],rfl,rfl⟩;cases h;cases h
 |.bool,cs,r,x,h=>by unfold og at h;split at h<;>cases h;exact⟨[.b _],rfl,rfl⟩;exact⟨[.tt],rfl,rfl⟩;exact⟨[.ff],rfl,rfl⟩
 |.bj,cs,r,x,h=>by unfold og at h;split at h<;>cases h;exact⟨[.s _],rfl,rfl⟩
 |.sl t,cs,r,x,h=>by unfold og at h;split at h;split at h;rename_i o _ e;subst e;cases h;exact⟨[.n .data _ o],rfl,by cases o<;>rfl⟩;cases h;split at h;rename_i e;subst e;cases h;exact⟨[.l .data _ _],rfl,rfl⟩;cases h;cases h;exact⟨[.nil],rfl,rfl⟩;cases h
 |.bJ h t,cs,r,x,c=>by unfold og at c;split at c;rename_i y g h1;split at c;rename_i z j h2;cases c;obtain⟨a,rfl,f⟩:=A0 h _ _ _ h1;obtain⟨b,rfl,f2⟩:=A0 t _ _ _ h2;exact⟨a++b,by simp,by simp[f,f2,be]⟩;cases c;cases c
 |.set k,cs,r,x,h=>A0 k cs r x h|.cj _ h t,cs,r,x,c=>by unfold og at c;split at c;rename_i y g h1;split at c;rename_i z j h2;cases c;obtain⟨a,rfl,f⟩:=A0 h _ _ _ h1;obtain⟨b,rfl,f2⟩:=A0 t _ _ _ h2;exact⟨a++b,by simp,by simp[f,f2,be]⟩;cases c;cases c
theorem Jr{t:Ty}{cs:M E}{x:t.T}(h:ls t cs=J x):aV cs=(be t x).map .d:=by grind [ls,A0]
theorem lw(a b:aD):gx a b=W↔a=b:=by cases a<;>cases b<;>simp[gx]
theorem vw(a b:aO):ic a b=W↔a=b:=by cases a<;>cases b<;>simp[ic,lw]
def vy(r:aO)(x:dP)(q:aO):∀(l:M (aO×dP)),gb q (vi r x l)=if q=r then x else gb q l|[]=>by grind [vi,gb,vw]|(p,y)::l=>by have a:=vy r x q l;grind [vi,vw,gb]
theorem A1(s:bp){r:aO}(x:dP)(a:r.isArg=I)(q:aO):(s.put r x).aG q=if q=r then x else s.aG q:=by
 cases q with
 |bP i=>
  have:aO.bP i≠r:=by rintro rfl;cases a
  rw[aU this];rfl
 |tmp t=>exact vy r x _ s.m|box k=>exact vy r x _ s.m
theorem A2(s:bp){r:aO}(x:dP)(a:r.isArg=I):dG (s.put r x)=(dG s).set r (cL x):=by grind [dG,St.set,A1]
def ajU(s:bp){t:U}{c b:ay}(h:(s.aG (.tmp t)).v=.one (.b c))(a:c=b):dG (s.gy (.tmp t) b)=dG s:=by
 funext q;have d:(s.gy (.tmp t) b).aG q=if q=.tmp t then{(s.aG (.tmp t))with v:=.one (kb b)}else s.aG q:=by
  cases q with|bP i=>rw[aU (by simp)];rfl|tmp u=>exact vy (.tmp t) _ (.tmp u) s.m|box k=>exact vy (.tmp t) _ (.box k) s.m
 simp only[dG,d];split;rename_i e;subst e a;have:s.aG (.tmp t)={(s.aG (.tmp t))with v:=.one (.b c)}:=by rw[<-h]
 rw[this];cases c<;>rfl;rfl
def DR(s:bp)(k:aD)(os:M (Q E))(q:aO){cs:M E}(h:(s.aG (.box k)).v=.agg cs):(s.wr k os).aG q=if q=.box k then{hv:=(s.aG (.box k)).hv+1,cv:=(s.aG (.box k)).cv,v:=.agg (fg cs os)}else s.aG q:=by
 have a:(gb (.box k) s.m).v=.agg cs:=h;cases q with
 |bP i=>rw[aU (by simp)];rfl|tmp u=>
  have:=vy (.box k) {hv:=(gb (.box k) s.m).hv+1,cv:=(gb (.box k) s.m).cv,v:=match(gb (.box k) s.m).v with|.agg cs=>.agg (fg cs os)|v=>v} (.tmp u) s.m
  rw[aU (by simp)]at this ⊢;exact this
 |box u=>
  show gb (.box u) (vi (.box k) {hv:=(gb (.box k) s.m).hv+1,cv:=(gb (.box k) s.m).cv,v:=match(gb (.box k) s.m).v with|.agg cs=>.agg (fg cs os)|v=>v} s.m)=_
  rw[vy];split;rw[a];rfl;rfl
theorem ajV(s:bp)(k:aD)(os:M (Q E)){cs:M E}(h:(s.aG (.box k)).v=.agg cs):dG (s.wr k os)=(dG s).set (.box k) {hv:=(s.aG (.box k)).hv+1,cv:=(s.aG (.box k)).cv,v:=.agg (aV (fg cs os))}:=by funext q;simp only[dG,DR s k os q h,St.set];split<;>rfl
def YE:∀(old:M E)(off:U)(cs:M E),off+Y cs<=Y old->fg old (ej off O++cs.map J)=eF old off cs
 |old,0,cs,h=>by
  have:∀(old cs:M E),Y cs<=Y old->fg old (cs.map J)=cs++old.drop (Y cs):=by
   intro old cs;induction cs generalizing old with
   |nil=>grind [fg]|cons c cs a=>
    intro h;cases old with|nil=>simp at h|cons o old=>simp_all [fg]
  simp_all [eF]
 |[],off+1,cs,h=>by simp at h|o::old,off+1,cs,h=>by have a:=YE old off cs (by grind);grind [fg,eF]
def ae{α β:Type}(s:bp)(p:PE α)(f:α->β)(q:aw β):Prop:=(p.cU s).box λx=>∃fr a,q.cU (dG s)=J (f x.1,dG x.2.1,fr,a)/\(∀r∈fr,r∈x.2.2.1)/\∀r∈a,r∈x.2.2.2
def ke{α β:Type}(p:PE α)(k:α->PE β):∀s,(p.bind k).cU s=(p.cU s).bind λx=>((k x.1).cU x.2.1).map λy=>(y.1,y.2.1,x.2.2.1++y.2.2.1,x.2.2.2++y.2.2.2):=by
 have v:∀{γ δ u:Type}(t:Tr γ)(f:γ->δ)(g:δ->Tr u),(t.map f).bind g=t.bind λa=>g (f a):=by
  intro γ δ u t f g;induction t with|dw a=>rfl|ai=>rfl|br c t e l m=>simp only[Tr.map,Tr.bind,l,m]|call d o k h=>simp only[Tr.map,Tr.bind,h]|sum o k k' h n=>simp only[Tr.map,Tr.bind,h,n]
 have w:∀{γ δ u:Type}(t:Tr γ)(f:γ->Tr δ)(g:δ->u),(t.bind f).map g=t.bind λa=>(f a).map g:=by
  intro γ δ u t f g;induction t with|dw a=>rfl|ai=>rfl|br c t e l m=>simp only[Tr.map,Tr.bind,l,m]|call d o k h=>simp only[Tr.map,Tr.bind,h]|sum o k k' h n=>simp only[Tr.map,Tr.bind,h,n]
 have z:∀{γ δ u:Type}(t:Tr γ)(f:γ->δ)(g:δ->u),(t.map f).map g=t.map λa=>g (f a):=by
  intro γ δ u t f g;induction t with|dw a=>rfl|ai=>rfl|br c t e l m=>simp only[Tr.map,l,m]|call d o k h=>simp only[Tr.map,h]|sum o k k' h n=>simp only[Tr.map,h,n]
 have hid:∀{γ:Type}(t:Tr γ),t.map (λa=>a)=t:=by
  intro γ t;induction t with|dw a=>rfl|ai=>rfl|br c t e l m=>simp only[Tr.map,l,m]|call d o k h=>simp only[Tr.map,h]|sum o k k' h n=>simp only[Tr.map,h,n]
 induction p with
 |ret a=>simp_all [PE.bind,PE.cU,Tr.bind]|ai=>intro s;rfl
 |br c p q A B=>intro s;simp only[PE.bind,PE.cU,Tr.bind,A,B]
 |call d o k h=>intro s;simp only[PE.bind,PE.cU,Tr.bind,h]
 |aG r k h=>simp_all [PE.bind,PE.cU]|put r x k h=>intro s;simp only[PE.bind,PE.cU];cases ye r x<;>simp only[h,v,w,z,List.cons_append,Tr.bind]
 |cI i j k h=>simp_all [PE.bind,PE.cU]|gy r b k h=>intro s;simp only[PE.bind,PE.cU,h]
 |wr q os k h=>simp_all [PE.bind,PE.cU]
theorem PU{α β:Type}(p:aw α)(k:α->aw β):∀s,(p.bind k).cU s=match p.cU s with
  |some (a,s',f,g)=>match(k a).cU s' with|some (b,c,d,e)=>J (b,c,f++d,g++e)|none=>O
  |none=>O:=by
 induction p with
 |ret a=>grind [aw.bind,aw.cU]|ai=>intro s;rfl
 |aG r k' h=>grind [aw.bind,aw.cU]|put r x p h=>grind [aw.bind,aw.cU]
section
variable{α β γ δ:Type}{s:bp}
theorem ae.ret{a:α}{f:α->β}{b:β}(h:b=f a):ae s (.ret a) f (.ret b):=by subst h;exact⟨[],[],rfl,by simp,by simp⟩
theorem ae.ai{f:α->β}{q:aw β}:ae s .ai f q:=trivial
def ae.YF{p:PE α}{f:α->β}{q:aw β}{k:α->PE γ}{g:γ->δ}{k':β->aw δ}{R:α->bp->Prop}(h:ae s p f q)(b:(p.cU s).box λx=>R x.1 x.2.1)(hk:∀a s',R a s'->ae s' (k a) g (k' (f a))):ae s (p.bind k) g (q.bind k'):=by unfold ae at h hk ⊢;rw[ke,Tr.vr];refine Tr.oq ?_ (Tr.Yv h b);grind [Tr.rG,Tr.oq,PU]
theorem ae.bind{p:PE α}{f:α->β}{q:aw β}{k:α->PE γ}{g:γ->δ}{k':β->aw δ}(h:ae s p f q)(hk:∀a s',ae s' (k a) g (k' (f a))):ae s (p.bind k) g (q.bind k'):=ae.YF (R:=λ_ _=>dL) h (Tr.vt (Tr.AX _)) λa s' _=>hk a s'
theorem ae.aG{r:aO}{k:dP->PE α}{f:α->β}{k':RV->aw β}(h:ae s (k (s.aG r)) f (k' (cL (s.aG r)))):ae s (.aG r k) f (.aG r k'):=by unfold ae at h ⊢;simp only[PE.cU,Tr.rG];grind [Tr.oq,aw.cU,dG]
def ae.look{r:aO}{k:dP->PE α}{f:α->β}{q:aw β}(h:ae s (k (s.aG r)) f q):ae s (.aG r k) f q:=by unfold ae at h ⊢;grind [PE.cU,Tr.rG,Tr.oq]
theorem ae.put{r:aO}{x:dP}{y:RV}{p:PE α}{f:α->β}{q:aw β}(a:r.isArg=I)(hy:y=cL x)(h:ae (s.put r x) p f q):ae s (.put r x p) f (.put r y q):=by
 subst hy;unfold ae at h ⊢;simp only[PE.cU];cases ye r x with|false=>trivial|true=>
 grind [Tr.rG,Tr.oq,aw.cU,A2]
def ae.YG{r:aO}{x:dP}{p:PE α}{f:α->β}{q:aw β}(a:r.isArg=I)(hx:cL x=cL (s.aG r))(h:ae (s.put r x) p f q):ae s (.put r x p) f q:=by
 have e:dG (s.put r x)=dG s:=by rw[A2 s x a,hx];grind [St.set,dG]
 unfold ae at h ⊢;simp only[PE.cU];cases ye r x with|false=>trivial|true=>
 grind [Tr.rG,Tr.oq]
def ae.wr{k:aD}{os:M (Q E)}{y:RV}{p:PE α}{f:α->β}{q:aw β}{cs:M E}(h:(s.aG (.box k)).v=.agg cs)(hy:y={hv:=(s.aG (.box k)).hv+1,cv:=(s.aG (.box k)).cv,v:=.agg (aV (fg cs os))})(a:ae (s.wr k os) p f q):ae s (.wr k os p) f (.put (.box k) y q):=by subst hy;unfold ae at a ⊢;simp only[PE.cU,Tr.rG];grind [Tr.oq,aw.cU,ajV]
def ae.Js{i:U}{x:dP}{p:PE α}{f:α->β}{q:aw β}:ae s (.put (.bP i) x p) f q:=trivial
theorem ae.br{c:ay}{p a:PE α}{f:α->β}{q:aw β}(h:c=W->ae s p f q)(b:c=I->ae s a f q):ae s (.br c p a) f q:=⟨h,b⟩
theorem ae.call{ρ:Type}{d:ρ}{o:Q ρ}{k:ρ->PE α}{f:α->β}{q:aw β}(h:∀x,o=J x->ae s (k x) f q):ae s (.call d o k) f q:=h
theorem ae.gy{t:U}{b c:ay}{p:PE α}{f:α->β}{q:aw β}(h:(s.aG (.tmp t)).v=.one (.b c))(d:c=b)(a:ae (s.gy (.tmp t) b) p f q):ae s (.gy (.tmp t) b p) f q:=by unfold ae at a ⊢;rw[ajU s h d]at a;exact a
theorem ae.cX{c:ay}{k:bY->PE α}{f:α->β}{q:aw β}(h:c=W->ae s (k ()) f q):ae s ((Ve.cX c).bind k) f q:=⟨h,λ_=>trivial⟩
theorem ae.bE{c:ay}{k:bY->PE α}{f:α->β}{q:aw β}(h:c=W->ae s (k ()) f q):ae s ((Ve.bE c).bind k) f q:=by
 cases c with|true=>exact h rfl|false=>trivial
theorem ae.comp{p:PE α}{f:α->β}{q:aw β}{g:β->γ}(h:ae s p f q):ae s p (λa=>g (f a)) (q.bind λb=>.ret (g b)):=by unfold ae at h ⊢;grind [Tr.oq,PU,aw.cU]
def ae.Jt{p:PE α}{f:α->β}{q q':aw β}(h:ae s p f q')(e:q=q'):ae s p f q:=by rw[e];exact h
theorem cA{α:Type}{p:Prop}[Decidable p](h:p)(k:bY->aw α):(bU p).bind k=k ():=by simp[bU,h,aw.bind]
end
theorem bF{α β:Type}(p:aw α)(f:α->aw β):(p >>= f)=p.bind f:=rfl
theorem bD{α β:Type}(p:PE α)(k:α->PE β):(p >>= k)=p.bind k:=rfl
def YH{α β:Type}(x:α)(k:α->PE β):(PE.ret x).bind k=k x:=rfl
def fR(o:cD)(s:bp):ae s (fh o) aM (ev o):=by
 cases o with
 |tmp t=>
  simp only[fh,ev];refine ae.aG ?_;have b:=copy_eq (s.aG (.tmp t)) (.tmp t);cases hv:(s.aG (.tmp t)).v with|undef=>exact ae.ai|_=>grind [cL,aM,ae.ret]
 |const v=>
  by_cases a:∃cs,v=.agg cs;grind [fh,ev,ae.ai,YD,ae.ret,aM];have c:fh (.const v)=match Dx v with|some d=>PE.ret (aP.one d)|none=>.ai:=by cases v<;>first|rfl|grind
  have e:ev (.const v)=match uB v with|some d=>aw.ret (SV.one (.d d))|none=>.ai:=by cases v<;>first|rfl|grind
  grind [ae.ai,YC,ae.ret,aM]
 |func f=>exact ae.ret rfl|global g=>exact ae.ai
def DS:∀(os:M cD)(s:bp),ae s (yg os) (jd aM) (ra os)|[],s=>ae.ret rfl|o::os,s=>by simp only[yg,ra,bD,bF];exact ae.bind (fR o s) λv a=>ae.bind (DS os a) λvs b=>ae.ret rfl
def ajW(v:aP)(s:bp):ae s (O7 v) cE (Ae (aM v)):=by cases v<;>first|exact ae.ret rfl|exact ae.ai
def fW(o:cD)(s:bp):ae s (fT o) cE (dZ o):=by simp only[fT,dZ,bD,bF];exact ae.bind (fR o s) λv a=>ajW v a
def sR(c:E)(s:bp):ae s (vk c) (λn=>n) (oY (cE c)):=by cases c<;>first|exact ae.ret rfl|exact ae.ai
def ajX(s:bp)(i j:U){t:Ty}{ys:M t.T}(h:(s.aG (.bP i)).at j=.l .ak t ys):
  dG {s with cI:=s.cI++[(i,j)],cH:=(.bP i,O)::s.cH}=(dG s).set (.bP i) {(cL (s.aG (.bP i)))with v:=(cL (s.aG (.bP i))).v.setCell j (.d (.sl t.e (ys.map (be t))))}:=by
 have b:∀(l:M (U×U))(args:M aP),iZ (l++[(i,j)]) args=lq (iZ l args) i (vh (H (iZ l args) i .undef) j):=by
  intro l;induction l with
  |nil=>intro args;rfl
  |cons p l o=>simp_all [iZ]
 generalize m:iZ s.cI s.args=A at *
 have a:∀q,(s.aG (.bP q)).v=H A q .undef:=λq=>by rw[<-m];rfl
 have c:H (H A i .undef).cells j .bN=.l .ak t ys:=by rw[<-a];exact h
 have f:vh (H A i .undef) j=(H A i .undef).setCell j (.l .data t ys):=by unfold vh;rw[c]
 funext q
 cases q with
 |tmp t=>rw[lO _ _ (by simp)];rfl|box k=>rw[lO _ _ (by simp)];rfl|bP q=>
  show cL {v:=H (iZ (s.cI++[(i,j)]) s.args) q .undef}=_;rw[b,m];have n:i<Y A:=by grind [aP.cells]
  rw[sQ];by_cases g:q=i;subst g;rw[lN];simp only[cL,jH,List.getElem?_set_self n,fk];rw[<-jH,f,nr,a];rfl;rw[lO _ _ (by simpa using g)];simp only[jH,List.getElem?_set_ne (Ne.symm g)];show cL _=cL (s.aG (.bP q));congr 1;show _=({v:=H (iZ s.cI s.args) q .undef}:dP);grind
def YI(r:aO)(j:U)(s:bp):ae s (yh r j (s.aG r)) (λ_=>()) (oZ r j (cL (s.aG r))):=by
 unfold yh oZ;rw[kz];cases b:(s.aG r).at j with
 |l m t xs=>
  cases m with
  |data=>exact ae.ret rfl|bm=>exact ae.ai|ak=>
   cases r with
   |bP i=>unfold ae;refine⟨[],[.bP i],?_,by simp,by simp⟩;show(eo (.bP i) _).cU (dG s)=J ((),dG {s with cI:=s.cI++[(i,j)],cH:=(.bP i,O)::s.cH},[],[.bP i]);rw[ajX s i j b];rfl
   |_=>exact ae.put rfl (by simp only[cL,nr];rfl) (ae.ret rfl)
 |n m t o=>
  cases m with
  |data=>refine ae.call λx a=>?_;subst a;exact ae.ret rfl|bm=>exact ae.ai|ak=>
   cases r with|bP i=>exact ae.ai|_=>refine ae.call λys a=>?_;subst a;exact ae.put rfl (by simp only[cL,nr];rfl) (ae.ret rfl)
 |_=>exact ae.ai
theorem YJ(r:aO)(j:U)(s:bp):ae s (rB r j (s.aG r)) (λ_=>()) (pX r j (cL (s.aG r))):=by
 unfold rB pX;rw[kz];cases b:(s.aG r).at j with
 |l m t xs=>
  cases m with
  |ak=>
   cases r with|bP i=>exact ae.Js|_=>exact ae.put rfl (by simp only[cL,nr];rfl) (ae.ret rfl)
  |_=>exact ae.ai
 |n m t o=>
  cases m with
  |ak=>
   refine ae.call λys a=>?_;subst a;cases r with|bP i=>exact ae.Js|_=>exact ae.put rfl (by simp only[cL,nr];rfl) (ae.ret rfl)
  |_=>exact ae.ai
 |_=>exact ae.ai
def YK{x:dP}{j:U}{c:E}(h:cE (x.at j)=cE c)(hd:cE c≠.bN):cL {x with v:=x.v.setCell j c}=cL x:=by
 have h2:H (aM x.v).cells j .bN=cE c:=by rw[<-h];exact kz x j
 have a:j<Y (aM x.v).cells:=by grind
 show({hv:=x.hv,cv:=x.cv,v:=aM (x.v.setCell j c)}:RV)={hv:=x.hv,cv:=x.cv,v:=aM x.v};rw[nr,<-h2,Yz _ _ a]
def isSome_none{α:Type}{o:Q α}(h:(I==aad o)=W):o=O:=by cases o<;>first|rfl|cases h
def isSome_some{α:Type}{o:Q α}(h:(W==aad o)=W):∃x,o=J x:=by
 cases o with
 |none=>cases h
 |some x=>exact⟨x,rfl⟩
def YL(r:aO)(j:U)(s:bp):ae s (sK r j (s.aG r) W) (λ_=>()) (oZ r j (cL (s.aG r))):=by
 unfold sK oZ;rw[kz];cases a:(s.aG r).at j with
 |n m t o=>
  cases m with
  |data=>refine ae.br (λh=>?_) λ_=>ae.ai;obtain⟨x,rfl⟩:=isSome_some h;exact ae.ret rfl
  |bm=>exact ae.ai|ak=>
   cases r with|bP i=>exact ae.ai|_=>refine ae.br (λh=>?_) λ_=>ae.ai;obtain⟨x,rfl⟩:=isSome_some h;exact ae.put rfl (by simp only[cL,nr];rfl) (ae.ret rfl)
 |_=>exact ae.ai
def YM(r:aO)(j:U)(s:bp):ae s (sK r j (s.aG r) I) (λ_=>()) (aw.ret ()):=by
 unfold sK;cases a:(s.aG r).at j with
 |n m t o=>
  cases m with
  |data=>exact ae.br (λ_=>ae.ret rfl) λ_=>ae.ai|bm=>exact ae.ai|ak=>
   cases r with|bP i=>exact ae.ai|_=>refine ae.br (λh=>?_) λ_=>ae.ai;have:=isSome_none h;subst this;exact ae.YG rfl (YK (by rw[a];rfl) (by simp[cE])) (ae.ret rfl)
 |_=>exact ae.ai
theorem YN(r:aO)(j:U)(s:bp):ae s (qk r j (s.aG r) W) (λ_=>()) (pX r j (cL (s.aG r))):=by
 unfold qk pX;rw[kz];cases a:(s.aG r).at j with
 |n m t o=>
  cases m with
  |ak=>
   refine ae.br (λh=>?_) λ_=>ae.ai;obtain⟨x,rfl⟩:=isSome_some h;cases r with|bP i=>exact ae.Js|_=>exact ae.put rfl (by simp only[cL,nr];rfl) (ae.ret rfl)
  |_=>exact ae.ai
 |_=>exact ae.ai
def YO(r:aO)(j:U)(s:bp):ae s (qk r j (s.aG r) I) (λ_=>()) (aw.ret ()):=by
 unfold qk;cases a:(s.aG r).at j with
 |n m t o=>
  cases m with
  |ak=>
   refine ae.br (λh=>?_) λ_=>ae.ai;have:=isSome_none h;subst this;cases r with|bP i=>exact ae.Js|_=>exact ae.YG rfl (YK (by rw[a];rfl) (by simp[cE])) (ae.ret rfl)
  |_=>exact ae.ai
 |_=>exact ae.ai
def vz{α β:Type}{j:U}{x:dP}{b:ay}{s:bp}{k:bY->PE α}{f:α->β}{q:aw β}(h:(∃t o,(x.at j=.n .ak t o\/x.at j=.n .data t o)/\b=aad o)->ae s (k ()) f q):ae s ((AH j x b).bind k) f q:=by
 have key:∀(t:Ty)(o:Q (M t.T)),(x.at j=.n .ak t o\/x.at j=.n .data t o)->ae s ((PE.br (b==aad o) (.ret ()) .ai).bind k) f q:=by intro t o c;exact ae.br (λd=>h ⟨t,o,c,by simpa using d⟩) λ_=>trivial
 unfold AH;cases a:x.at j with
 |n m t o=>
  cases m with|bm=>exact ae.ai|ak=>exact key t o (.inl a)|data=>exact key t o (.inr a)
 |_=>exact ae.ai
theorem ajY{α β:Type}{c:E}{s:bp}{k:E->PE α}{f:α->β}{q:aw β}(h:∀c',cE c'=cE c->ae s (k c') f q):ae s ((Yr c).bind k) f q:=by
 cases c with
 |n m t o=>
  cases m with
  |bm r j hv cv i=>
   cases r with|bP a=>refine ae.br (λb=>?_) λb=>?_;exact h _ (vu _ t o b).symm;(have:o=O:=by cases o<;>first|rfl|cases b);subst this;exact h .nil rfl|_=>exact h _ rfl
  |_=>exact h _ rfl
 |_=>exact h _ rfl
theorem ajZ{α β:Type}{c:E}{s:bp}{k:E->PE α}{f:α->β}{q:aw β}(h:∀c',cE c'=cE c->(∀m t o,c'≠.n m t o)->ae s (k c') f q):ae s ((resolve c).bind k) f q:=by
 cases c with
 |n m t o=>
  refine ae.br (λa=>?_) λa=>?_;exact h _ (vu m t o a).symm (by intro m t o h;cases h);have:o=O:=by cases o<;>first|rfl|cases a
  subst this;exact h .nil rfl (by intro m t o h;cases h)
 |_=>exact h _ rfl (by intro m t o h;cases h)
def Ju(self:Q (aO×U))(r:aO)(j:U)(b:ay):(rC self r j||b)=W↔(self=J (r,j)\/b=W):=by
 cases self with|none=>simp[rC]|some p=>grind [rC,vw]
theorem aj0{α β:Type}{r:aO}{j:U}{s:bp}{t:Ty}(h:(s.aG r).at j=.n .ak t O){k:bY->PE α}{f:α->β}{q:aw β}:ae s ((rB r j (s.aG r)).bind k) f q:=by unfold rB;rw[h];exact ae.call λx a=>by cases a
theorem aj1{α β:Type}{r:aO}{j:U}{s:bp}{t:Ty}(h:(s.aG r).at j=.n .ak t O){k:bY->PE α}{f:α->β}{q:aw β}:ae s ((yh r j (s.aG r)).bind k) f q:=by
 unfold yh;rw[h];cases r with|bP i=>exact ae.ai|_=>exact ae.call λx a=>by cases a
def aj2(self:Q (aO×U))(take:aO->ay)(c:E)(s:bp):ae s (Dy self take c) cE (nV self take (cE c)):=by
 cases c with
 |l m t xs=>
  cases m with
  |bm r j hv cv k=>
   simp only[Dy,nV,cE,lC];cases A:r.isArg with
   |true=>simp only[bH];exact ae.ret rfl|false=>
    simp only[bM,ca];refine ae.aG ?_;simp only[bD,bF];refine ae.bE λu=>?_;simp only[cr,dK]at u;rw[cA (p:=(cL (s.aG r)).hv=hv/\(cL (s.aG r)).cv=cv) u];rw[kz]
    have body:∀(F:U)(B:M (M D)),ae s (match rC self r j||take r with|true=>(rB r j (s.aG r)).bind λ_=>PE.ret (E.l .ak t xs)|false=>(yh r j (s.aG r)).bind λ_=>PE.ret (E.l .data t xs)) cE
      (if self=J (r,j)\/take r=W then(pX r j (cL (s.aG r))).bind λ_=>aw.ret (C.ak t.e (xs.map (be t)))
        else(oZ r j (cL (s.aG r))).bind λ_=>aw.ret (C.d (D.sl t.e (xs.map (be t))))):=by
     intro _ _
     cases a:rC self r j||take r with|true=>rw[aF ((Ju self r j (take r)).1 a)];exact ae.bind (YJ r j s) λ_ _=>ae.ret rfl|false=>rw[aU (λh=>by rw[(Ju self r j (take r)).2 h]at a;cases a)];exact ae.bind (YI r j s) λ_ _=>ae.ret rfl
    cases y:(s.aG r).at j with
    |l g v ys=>
     cases g with|ak=>exact body 0 []|data=>exact ae.ret rfl|bm=>exact ae.ai
    |n g v o=>
     cases g with
     |ak=>
      cases o with|none=>grind [aj0,aj1]|some ys=>exact body 0 []
     |data=>exact ae.call λx w=>by subst w;exact ae.ret rfl|bm=>exact ae.ai
    |_=>exact ae.ai
  |_=>exact ae.ret rfl
 |n m t o=>
  cases m with
  |bm r j hv cv k=>
   cases o with
   |none=>
    simp only[Dy];cases A:r.isArg with
    |true=>exact ae.ret rfl|false=>
     refine ae.look ?_;simp only[bD];refine ae.bE λu=>?_;cases y:(s.aG r).at j with
     |n g v z=>
      cases g with
      |ak=>
       simp only;cases a:rC self r j||take r with|true=>exact ae.bind (k':=λ_=>aw.ret (C.d .nil)) (q:=aw.ret ()) (f:=λ_=>()) (k:=λ_=>PE.ret (E.n .ak t O)) (YO r j s) λ_ _=>ae.ret rfl|false=>exact ae.bind (k':=λ_=>aw.ret (C.d .nil)) (q:=aw.ret ()) (f:=λ_=>()) (k:=λ_=>PE.ret (E.n .data t O)) (YM r j s) λ_ _=>ae.ret rfl
      |data=>exact vz λ_=>ae.ret rfl|bm=>exact ae.ai
     |_=>exact ae.ai
   |some xs=>
    simp only[Dy,nV,cE,lC];cases A:r.isArg with
    |true=>simp only[bH];exact ae.ret rfl|false=>
     simp only[bM,ca];refine ae.aG ?_;simp only[bD,bF];refine ae.bE λu=>?_;simp only[cr,dK]at u;rw[cA (p:=(cL (s.aG r)).hv=hv/\(cL (s.aG r)).cv=cv) u];rw[kz]
     have body:ae s (match rC self r j||take r with|true=>(qk r j (s.aG r) W).bind λ_=>PE.ret (E.n .ak t (J xs))|false=>(sK r j (s.aG r) W).bind λ_=>PE.ret (E.n .data t (J xs))) cE
       (if self=J (r,j)\/take r=W then(pX r j (cL (s.aG r))).bind λ_=>aw.ret (C.ak t.e (xs.map (be t)))
         else(oZ r j (cL (s.aG r))).bind λ_=>aw.ret (C.d (D.sl t.e (xs.map (be t))))):=by
      cases a:rC self r j||take r with|true=>rw[aF ((Ju self r j (take r)).1 a)];exact ae.bind (YN r j s) λ_ _=>ae.ret rfl|false=>rw[aU (λh=>by rw[(Ju self r j (take r)).2 h]at a;cases a)];exact ae.bind (YL r j s) λ_ _=>ae.ret rfl
     cases y:(s.aG r).at j with
     |n g v z=>
      cases g with
      |ak=>
       cases z with
       |none=>
        simp only;have no:∀(x:dP),x.at j=.n .ak v O->∀{k:bY->PE E}{q:aw C},ae s ((qk r j x W).bind k) cE q/\ae s ((sK r j x W).bind k) cE q:=by
         intro x w k q;constructor;unfold qk;rw[w];exact ae.br (λh=>by cases h) λ_=>trivial;unfold sK;rw[w];cases r with|bP i=>exact ae.ai|_=>exact ae.br (λh=>by cases h) λ_=>trivial
        grind
       |some ys=>exact body
      |data=>
       refine vz λ⟨t2,G,h1,h2⟩=>?_;rw[y]at h1;cases z with|none=>grind|some ys=>exact ae.ret rfl
      |bm=>exact ae.ai
     |_=>exact ae.ai
  |_=>cases o<;>exact ae.ret rfl
 |bN=>exact ae.ai|gW b=>exact ae.ai|it m t xs H=>cases m<;>first|exact ae.ret rfl|exact ae.ai
 |_=>exact ae.ret rfl
theorem DT(self:Q (aO×U))(take:aO->ay)(c:E)(s:bp):ae s (Dz self take c) cE (nV self take (cE c)):=by exact aj2 self take c s
def DU(mk:U->aO×U)(take:aO->ay):∀(cs:M E)(i:U)(s:bp),ae s (vm mk take i cs) aV (o0 mk take i (aV cs))|[],i,s=>ae.ret rfl|c::cs,i,s=>by show ae s (vm mk take i (c::cs)) aV (o0 mk take i (cE c::aV cs));simp only[vm,o0,bD,bF];exact ae.bind (DT _ take c s) λd a=>ae.bind (DU mk take cs (i+1) a) λb e=>ae.ret rfl
def YP(mk:U->aO×U)(take:aO->ay):∀(vs:M (ay×M E))(i:U)(s:bp),ae s (DA mk take i vs) fq (xu mk take i (fq vs))|[],i,s=>ae.ret rfl|(b,cs)::vs,i,s=>by show ae s (DA mk take i ((b,cs)::vs)) fq (xu mk take i ((b,aV cs)::fq vs));simp only[DA,xu,bD,bF,rH];exact ae.bind (DU mk take cs i s) λd a=>ae.bind (YP mk take vs _ a) λc e=>ae.ret rfl
def YQ(r:aO)(take:aO->ay)(v:aP)(s:bp):ae s (sL r take v) aM (m9 r take (aM v)):=by
 cases v with|one c=>show ae s (sL r take (.one c)) aM (m9 r take (.one (cE c)));simp only[sL,m9,bD,bF];exact ae.bind (DT _ take c s) λa b=>ae.ret rfl|agg cs=>show ae s (sL r take (.agg cs)) aM (m9 r take (.agg (aV cs)));simp only[sL,m9,bD,bF];exact ae.bind (DU _ take cs 0 s) λa b=>ae.ret rfl|bw vs=>show ae s (sL r take (.bw vs)) aM (m9 r take (.bw (fq vs)));simp only[sL,m9,bD,bF];exact ae.bind (YP _ take vs 0 s) λa b=>ae.ret rfl|undef=>exact ae.ai
theorem PV{c:E}(h:oh c=W):∃d,cE c=.d d:=by
 cases c with
 |l m t xs=>cases m<;>first|exact⟨_,rfl⟩|cases h
 |n m t o=>cases m<;>cases o<;>first|exact⟨_,rfl⟩|cases h
 |_=>first|exact⟨_,rfl⟩|cases h
def A3:C->D|.d x=>x|_=>.nil
def qm(c:E):D:=A3 (cE c)
theorem aj3(c:E)(s:bp):ae s (nk c) qm (mv (cE c)):=by
 have dat:∀{c:E},oh c=W->nk c=PE.ret c->ae s (nk c) qm (mv (cE c)):=by intro c hd e;rw[e];let⟨d,h⟩:=PV hd;refine ae.Jt (ae.ret rfl) ?_;unfold qm;rw[h];rfl
 cases c with
 |l m t xs=>
  cases m with|bm r j hv cv k=>simp only[nk,mv,cE,lC];refine ae.aG ?_;simp only[bD,bF];refine ae.bE λa=>?_;simp only[cr,dK]at a;rw[cA (p:=(cL (s.aG r)).hv=hv/\(cL (s.aG r)).cv=cv) a];exact ae.bind (YI r j s) λ_ _=>ae.ret rfl|data=>exact dat rfl rfl|ak=>exact ae.ai
 |n m t o=>
  cases m with
  |bm r j hv cv k=>
   cases o with|none=>simp only[nk];refine ae.look ?_;simp only[bD];refine ae.bE λa=>?_;exact ae.bind (k':=λ_=>aw.ret D.nil) (q:=aw.ret ()) (f:=λ_=>()) (k:=λ_=>PE.ret (E.n .data t O)) (YM r j s) λ_ _=>ae.ret rfl|some xs=>simp only[nk,mv,cE,lC];refine ae.aG ?_;simp only[bD,bF];refine ae.bE λa=>?_;simp only[cr,dK]at a;rw[cA (p:=(cL (s.aG r)).hv=hv/\(cL (s.aG r)).cv=cv) a];exact ae.bind (YL r j s) λ_ _=>ae.ret rfl
  |data=>exact dat rfl rfl|ak=>exact ae.ai
 |i=>exact dat rfl rfl|b=>exact dat rfl rfl|tt=>exact dat rfl rfl|ff=>exact dat rfl rfl|s=>exact dat rfl rfl|nil=>exact dat rfl rfl|cV=>exact dat rfl rfl|r=>exact dat rfl rfl|_=>exact ae.ai
theorem vA(c:E)(s:bp):ae s (pf c) qm (mv (cE c)):=by grind [pf,bD,ajY,aj3]
def DV:∀(cs:M E)(s:bp),ae s (vn cs) (jd qm) (o4 (aV cs))|[],s=>ae.ret rfl|c::cs,s=>by show ae s (vn (c::cs)) _ (o4 (cE c::aV cs));simp only[vn,o4,bD,bF];exact ae.bind (vA c s) λd a=>ae.bind (DV cs a) λb e=>ae.ret rfl
theorem Jv{t:Ty}{cs:M E}{x:t.T}(h:ls t cs=J x):(cs.map qm)=be t x:=by
 have:=Jr h;have h2:=cb (jd A3) this;simp only[aV,uj]at h2;have e:(A3 ∘ C.d)=id:=by funext d;rfl
 rw[e,List.map_id]at h2;exact h2
theorem vB(v:aP):(aM v).fK=v.fK.map aV:=by cases v<;>rfl
def aj4(t:Ty)(c:E)(s:bp):ae s (yi t c) (jd (be t)) (mx t.e (cE c)):=by
 cases c with
 |nil=>exact ae.ret rfl|l m b xs=>
  cases m with
  |ak=>exact ae.ai|data=>grind [yi,mx,cE,lC,bF,bD,ae.bE,cA,ae.ret,ae.ai]|bm r j hv cv k=>
   simp only[yi,mx,cE,lC];refine ae.aG ?_;simp only[bF];cases a:(s.aG r).hv==hv&&(s.aG r).cv==cv&& !cf t.e with
   |false=>exact ae.ai|true=>
    simp only[cr,dK,lL]at a;obtain⟨a,f⟩:=a;have fin:alive (cL (s.aG r)) j=W->ae s (if h:b=t then PE.ret (h▸xs)else .ai) (jd (be t)) ((bU ((cL (s.aG r)).hv=hv/\(cL (s.aG r)).cv=cv/\alive (cL (s.aG r)) j=W/\b.e=t.e/\cf b.e=I)).bind λ_=>aw.ret (xs.map (be b))):=(by intro d;split;rename_i h;subst h;rw[cA ⟨a.1,a.2,d,rfl,f⟩];exact ae.ret rfl;exact ae.ai);cases i:(s.aG r).at j with
    |l g t2 ys=>
     cases g with|bm=>exact ae.ai|_=>exact fin (by unfold alive;rw[kz,i];rfl)
    |n g t2 o=>
     cases g with|bm=>exact ae.ai|_=>exact ae.call λx p=>by subst p;exact fin (by unfold alive;rw[kz,i];rfl)
    |_=>exact ae.ai
 |n m b o=>
  cases m with
  |bm r j hv cv k=>
   cases o with
   |none=>
    simp only[yi];refine ae.look ?_;cases a:(s.aG r).hv==hv&&(s.aG r).cv==cv&& !cf t.e with|false=>exact ae.ai|true=>simp only[bD];refine vz λ_=>?_;split;rename_i h;subst h;exact ae.ret rfl;exact ae.ai
   |some xs=>
    simp only[yi,mx,cE,lC];refine ae.aG ?_;simp only[bF];cases a:(s.aG r).hv==hv&&(s.aG r).cv==cv&& !cf t.e with|false=>exact ae.ai|true=>simp only[cr,dK,lL]at a;obtain⟨a,f⟩:=a;simp only[bD];refine vz λ⟨t2,q,h1,h2⟩=>?_;obtain⟨ys,rfl⟩:=isSome_some (o:=q) (by rw[<-h2];rfl);have d:alive (cL (s.aG r)) j=W:=(by unfold alive;rw[kz];rcases h1 with h1|h1<;>rw[h1]<;>rfl);split;rename_i h;subst h;rw[cA ⟨a.1,a.2,d,rfl,f⟩];exact ae.ret rfl;exact ae.ai
  |ak=>exact ae.ai|data=>
   simp only[yi];split;rename_i h;subst h;simp only[bD];refine ae.bE λf=>?_;cases o with|none=>exact ae.ret rfl|some xs=>show ae s _ _ ((bU (b.e=b.e/\cf b.e=I)).bind λ_=>.ret (xs.map (be b)));grind [cA,ae.ret]
   exact ae.ai
 |_=>exact ae.ai
def YR(t:Ty)(c:E)(s:bp):ae s (O8 t c) (jd (be t)) (mx t.e (cE c)):=by exact aj4 t c s
theorem YS(op:jR)(k:mW)(a b:L)(s:bp):ae s (DB op k a b) aM (uD op k a b):=by
 cases op with|quo=>simp only[DB,uD,bD,bF];exact ae.cX λh=>by rw[cA (jJ h)];exact ae.ret rfl|rem=>simp only[DB,uD,bD,bF];exact ae.cX λh=>by rw[cA (jJ h)];exact ae.ret rfl|_=>first|exact ae.ret rfl|exact ae.ai
def aj5(op:jR)(a b:M ao)(s:bp):ae s (O9 op a b) aM (CO op a b):=by
 cases op with|add=>simp only[O9,CO,bD,bF];exact ae.cX λh=>by rw[cA (by grind)];exact ae.ret rfl|_=>first|exact ae.ret rfl|exact ae.ai
def Jw{c:E}{b:ay}(h:vl c=J b):cE c=.d (.bool b):=by cases c<;>first|(cases h;rfl)|(cases h;done)
theorem aj6(af:bO)(t:bv)(op:jR)(x y:E)(s:bp):ae s (Pc af t op x y) aM (su af t op (cE x) (cE y)):=by
 unfold Pc;cases f:vl x with
 |none=>exact ae.ai|some a=>
  cases hy:vl y with
  |none=>exact ae.ai|some b=>
   simp only;rw[Jw f,Jw hy];simp only[su];cases g:Pb af t with|false=>exact ae.ai|true=>obtain⟨e,c,z,d⟩:∃e c z,af.ti t=J ⟨e,c,.bool,z⟩:=(by grind [Pb]);rw[d];cases op<;>first|exact ae.ret rfl|exact ae.ai
def aj7{c:E}{b:ay}(h:I7 c=J b):xv (cE c)=J b:=by
 cases c with
 |l m t xs=>cases m<;>exact h
 |n m t o=>
  cases o with
  |none=>simp only[I7]at h;split at h;cases h;exact h
  |some xs=>cases m<;>exact h
 |nil=>exact h|_=>cases h
def aj8(af:bO)(t:bv)(op:jR)(x:E)(s:bp):ae s (Pd af t op x) aM (su af t op (cE x) (cE .nil)):=by
 unfold Pd;cases g:I7 x with
 |none=>cases I8 af t<;>cases op<;>exact ae.ai
 |some b=>
  have h1:=aj7 g;have e:su af t op (cE x) (cE .nil)=HR af t op (cE x):=by simp_all [su,cE]
  rw[e];unfold HR;cases h:I8 af t with|false=>exact ae.ai|true=>obtain⟨d,a,f,z,c⟩:∃d a f z,af.ti t=J ⟨d,a,.slice f,z⟩:=(by grind [I8]);rw[c,h1];cases op<;>first|exact ae.ret rfl|exact ae.ai
def aj9(af:bO)(t:bv)(op:jR)(x y:E)(s:bp):ae s (Pe af t op x y) aM (su af t op (cE x) (cE y)):=by
 unfold Pe;split;rename_i k a k' b;simp only[su,cE];split;simp only[bD,bF];exact ae.cX λh=>by rw[cA (jJ h)];exact ae.ret rfl
 simp only[bD,bF];exact ae.cX λh=>by rw[cA (jJ h)];exact ae.ret rfl
 grind [YS,ae.ai];exact aj5 _ _ _ s;exact aj8 _ _ _ _ s;grind [aj6]
def DW:∀{sh:M Sc}{xs ys:M E}{r:ay},AJ sh xs ys=J r->∃ds es,jV (aV xs)=J ds/\jV (aV ys)=J es/\r=dF ds es/\cz sh ds=W/\cz sh es=W|sh,xs,ys,r,h=>by unfold AJ at h;split at h;cases h;exact⟨[],[],rfl,rfl,rfl,rfl,rfl⟩;rename_i k c k1 a d k2 b e;split at h;rename_i hk;obtain⟨rfl,rfl⟩:=hk;split at h;rename_i g f;cases h;let⟨ds,es,h1,h2,h3,i,j⟩:=DW f;simp_all [aV,cE,jV,dF,jL,cz];cases h;cases h;rename_i c a d b e;split at h;rename_i g f;cases h;let⟨ds,es,h1,h2,h3,i,j⟩:=DW f;simp_all [aV,cE,jV,dF,jL,cz];cases h;rename_i c x d y e;split at h;rename_i a b g l hy f;cases h;let⟨ds,es,h1,h2,h3,i,j⟩:=DW f;simp_all [aV,Jw,jV,dF,jL,cz];cases h;cases h
def aka(af:bO)(t:bv)(op:jR)(xs ys:M E)(s:bp):ae s (Pf af t op xs ys) aM (HS af t op (aV xs) (aV ys)):=by
 unfold Pf HS;cases lk t af.eqs with|none=>exact ae.ai|some sh=>simp only;split;rename_i r h2;let⟨ds,es,a,b,c,d,e⟩:=DW h2;rw[a,b,c];simp only[d,e,Bool.and_self,bH];exact ae.ret rfl;rename_i r h2;let⟨ds,es,a,b,c,d,e⟩:=DW h2;rw[a,b,c];simp only[d,e,Bool.and_self,bH];exact ae.ret rfl;exact ae.ai
theorem c7(a b:U):bX a b=W↔a<b:=by simp[bX,iJ];omega
def akb(cs:M E)(a b:U):aV ((cs.drop a).take b)=((aV cs).drop a).take b:=by simp[aV,List.map_take,xh]
theorem akc{c:E}(h:c≠.bN)(a:∀b,c≠.gW b):cE c≠.bN:=by
 cases c with
 |gW b=>exact cJ rfl (a b)|l m t xs=>cases m<;>simp[cE,lC]
 |n m t o=>cases m<;>cases o<;>simp[cE,lC]
 |bN=>exact cJ rfl h|it m t xs d=>cases m<;>simp[cE,mC]
 |_=>simp[cE]
theorem DX(i:TI)(cs:M E)(off:U)(s:bp):ae s (sM i cs off) aM (my i (aV cs) off):=by unfold sM my;simp only[bF];split;rename_i h;simp only[cr,c7,iJ]at h;rw[cA (by simpa using h)];split;simp_all [ae.ret,aM,akb];grind [aV,ae.ai,akc,aM,ae.ret];exact ae.ai
def PW{α:Type}(l:M α)(n:U)(d:α)(h:n<Y l):l[n]?=J (H l n d):=by grind
def YT(i:TI)(a:E)(s:bp):ae s (AK i a) aM (sw i (cE a)):=by
 cases a with
 |aX k off=>grind [AK,sw,cE,ae.aG,cL,aM,DX,Jq,ae.ai]|ea r j hv t n off=>
  simp only[AK,sw,cE];refine ae.aG ?_;simp only[bF];cases b:(s.aG r).hv==hv with
  |false=>exact ae.ai|true=>
   simp only[dK]at b;rw[cA (p:=(cL (s.aG r)).hv=hv) b];rw[kz];have fin:∀(t:Ty)(ys:M t.T),ae s ((do cX (bX n (Y ys));sM i (eX t (H ys n t.zero)) off:PE aP)) aM (match(ys.map (be t))[n]? with|some ds=>my i (ds.map .d) off|none=>.ai):=(by grind [bD,ae.cX,c7,kQ,DX]);cases c:(s.aG r).at j with
   |l m t ys=>
    cases m with|bm=>exact ae.ai|_=>exact fin t ys
   |n m t o=>
    cases m with
    |bm=>exact ae.ai|_=>
     cases o with|none=>simp_all [bD,ae.cX,c7]|some ys=>exact fin t ys
   |_=>exact ae.ai
 |da t x off=>simp only[AK,sw,cE];refine ae.Jt (DX i _ 0 s) ?_;grind [kQ,aV,xh]|l m t xs=>cases m<;>exact ae.ai
 |n m t o=>cases m<;>cases o<;>exact ae.ai
 |_=>exact ae.ai
def YU{α β:Type}(f:α->β)(l:M α)(off:U)(m:M α):(eF l off m).map f=eF (l.map f) off (m.map f):=by simp[eF,List.map_take,xh]
def YV(l:M E)(off:U)(m:M E):aV (eF l off m)=eF (aV l) off (aV m):=YU cE l off m
def akd(take b:aO->ay)(u:take=b)(i:TI)(a:E)(v:aP)(s:bp):ae s (Pg take i a v) (λ_=>()) (CP b i (cE a) (aM v)):=by
 subst u;unfold Pg CP;rw[vB];cases hv:v.fK with
 |none=>simp_all [ae.ai]|some cs=>
  simp only[m6];cases a with
  |aX k off=>
   simp only[cE,bD,bF,rH];refine ae.bE λh=>?_;rw[cA (by simpa using h)];refine ae.bind (DU _ take cs 0 s) λy c=>ae.aG ?_;cases x:(c.aG (.box k)).v with|agg old=>simp only[cL,x,aM,rH];refine ae.bE λh2=>?_;simp only[cr,iJ]at h2;rw[cA h2.1];refine ae.wr x ?_ (ae.ret rfl);rw[YE _ _ _ h2.2,YV]|_=>simp only[cL,x,aM];exact ae.ai
  |ea r j hv t0 n off=>
   simp only[cE,bD,bF,rH];refine ae.bE λh=>?_;have g:Y cs=i.size:=(by simpa using h);rw[cA g];refine ae.bind (DV cs s) λds c=>ae.aG ?_;refine ae.bE λh2=>?_;simp only[cr,dK,lL]at h2;rw[cA (p:=(cL (c.aG r)).hv=hv/\r.isArg=I) h2];rw[kz]
   have fin:∀(t:Ty)(ys:M t.T),ae c ((cX (bX n (Y ys))).bind λ_=>(bE (gG (off+i.size) t.w)).bind λ_=>match ls t (eF (eX t (H ys n t.zero)) off ds)with
      |some f=>lr r {(c.aG r)with cv:=(c.aG r).cv+1,v:=(c.aG r).v.setCell j (.l .ak t (ys.set n f))}
      |none=>.ai) (λ_=>()) (match(ys.map (be t))[n]? with
     |some bG=>(bU (off+i.size<=Y bG)).bind λ_=>eo r {(cL (c.aG r))with cv:=(cL (c.aG r)).cv+1,v:=(cL (c.aG r)).v.setCell j (.ak t.e ((ys.map (be t)).set n (eF bG off (ds.map qm))))}
     |none=>.ai):=by
    intro t ys
    refine ae.cX λh=>?_
    rw[c7]at h
    refine ae.bE λh3=>?_
    rw[iH,PW ys n t.zero h]
    simp only[m6]
    rw[cA (by rw[jk];simp_all)]
    cases q:ls t (eF (eX t (H ys n t.zero)) off ds)with|none=>exact ae.ai|some f=>refine ae.put h2.2 ?_ (ae.ret rfl);simp only[cL,nr,cE,lC];congr 3;rw[List.map_set];congr 1;rw[<-Jv q,YU];congr 1;have:=cb (jd A3) (kQ t (H ys n t.zero));simp only[aV,uj]at this;have e:(A3 ∘ C.d)=id:=(by funext d;rfl);rw[e,List.map_id]at this;exact this.symm
   cases z:(c.aG r).at j with
   |l m t ys=>
    cases m with|ak=>exact fin t ys|_=>exact ae.ai
   |n m t o=>
    cases m with
    |ak=>
     cases o with|none=>exact ae.cX λh=>by simp[c7]at h|some ys=>exact fin t ys
    |_=>exact ae.ai
   |_=>exact ae.ai
  |l m t xs=>cases m<;>exact ae.ai
  |n m t o=>cases m<;>cases o<;>exact ae.ai
  |_=>exact ae.ai
def ake(af:bO)(t:bv)(c:E)(f:U)(s:bp):ae s (Ph af t c f) cE (CQ af t (cE c) f):=by unfold Ph CQ;split;rename_i a;simp only[a,bD,bF];split;rename_i h1;simp only[h1];split;grind [ae.bE,cA,ae.ret,cE,jk,iJ,List.drop_drop,ae.ai];exact ae.ai;exact ae.ai;exact ae.ai
def YW{a b:U}(h:(a==b&& !cf a)=W):a=b/\cf b=I:=by grind
def akf(af:bO)(t:bv)(g:U)(n:L)(s:bp):ae s (Pj af t g n) cE (HU af t g n):=by unfold Pj HU;split;rename_i a b;simp only[a,b];split;rename_i c;simp only[c,bD,bF];refine ae.cX λh1=>?_;refine ae.bE λh2=>?_;simp only[cr,dK]at h2;rw[cA (jJ h1),cA h2];exact ae.ret rfl;exact ae.ai;exact ae.ai
def PX(af:bO)(t:bv)(c:E)(n:L)(s:bp):ae s (Pk af t c n) cE (CR af t (cE c) n):=by
 unfold Pk CR;split;rename_i a;simp only[a,bD,bF];split;rename_i i b;simp only[b];have bm:∀(r:aO)(j hv cv k:U)(t:Ty)(xs:M t.T),decide (0<=n/\n<Y xs)=W->ae s ((bE (i.size==t.e&& !cf i.size)).bind λ_=>PE.ret (E.ea r j hv t (k+G n) 0)) cE ((bU (0<=n/\n<Y (xs.map (be t)))).bind λ_=>(bU (i.size=t.e/\cf t.e=I)).bind λ_=>aw.ret (C.ea r j hv t.e (k+G n) 0)):=by intro r j hv cv k t xs h;rw[cA (by grind)];exact ae.bE λh2=>by rw[cA (YW h2)];exact ae.ret rfl
 have dat:∀(t:Ty)(xs:M t.T),decide (0<=n/\n<Y xs)=W->ae s ((bE (i.size==t.e&& !cf i.size)).bind λ_=>PE.ret (E.da t (H xs (G n) t.zero) 0)) cE ((bU (0<=n/\n<Y (xs.map (be t)))).bind λ_=>(bU (i.size=t.e/\cf t.e=I)).bind λ_=>match(xs.map (be t))[G n]? with|some ds=>aw.ret (C.da ds)|none=>.ai):=by intro t xs h;have h1:=jJ h;rw[cA (by simpa using h1)];refine ae.bE λh2=>?_;rw[cA (YW h2),iH,PW xs (G n) t.zero (by omega)];exact ae.ret rfl
 cases c with
 |l m t xs=>
  cases m with|ak=>exact ae.ai|bm r j hv cv k=>exact ae.cX λh=>bm r j hv cv k t xs h|data=>exact ae.cX λh=>dat t xs h
 |n m t o=>
  cases m with
  |ak=>cases o<;>exact ae.ai
  |bm r j hv cv k=>
   refine ae.cX λh=>?_;cases o with|none=>grind [ah]|some xs=>exact bm r j hv cv k t xs h
  |data=>
   refine ae.cX λh=>?_;cases o with|none=>grind [ah]|some xs=>exact dat t xs h
 |_=>exact ae.ai
 exact ae.ai;rename_i a;simp only[a,bD,bF];grind [ae.bE,cE,cA,ae.ret,ae.ai];exact ae.ai
def YX:∀{cs:M E}{l:M (M ao)},strsOf cs=J l->∀k:U,cs[k]?=(l[k]?).map E.s
 |[],l,h,k=>by cases h;rfl
 |c::cs,l,h,k=>by
  cases c<;>simp only[strsOf]at h<;>first|(cases h;done)|skip;split at h;rename_i x b a;cases h;cases k with|zero=>rfl|succ k=>simpa using YX a k
  cases h
def YY{kd:mW}:∀{cs:M E}{l:M L},I9 kd cs=J l->∀k:U,cs[k]?=(l[k]?).map (E.i kd)
 |[],l,h,k=>by cases h;rfl
 |c::cs,l,h,k=>by
  cases c<;>simp only[I9]at h<;>first|(cases h;done)|skip;split at h;rename_i x b hk a;cases h;have hk:=jJ hk;subst hk;cases k with|zero=>rfl|succ k=>simpa using YY a k
  cases h
def akg{i:TI}{cs:M E}{g:L->aP}(h:Pm i cs=J g){n:L}{m:U}(h1:G n<m)(h2:m<=Y cs)(f:i.size=1):my i (aV cs) (G n*i.size)=.ret (aM (g n)):=by
 unfold my;have e:G n*i.size=G n:=by rw[f];omega
 rw[e];have b:Y (aV cs)=Y cs:=by simp[aV]
 simp only[bF];rw[cA (by rw[f,b];omega)];have j:(aV cs)[G n]?=(cs[G n]?).map cE:=by simp[aV]
 unfold Pm at h;split at h;rename_i hk;split at h;rename_i l d;cases h;have a:=YX d (G n);have k:cs[G n]?=J cs[G n]:=eD (by omega);cases c:l[G n]? with|none=>grind|some x=>rw[c]at a;rw[aU (by rw[hk];simp[TK.agg]),j,a];simp only[m6,cE];rw[jH,c];rfl
 cases h;rename_i kd hk;split at h;rename_i l d;cases h;have a:=YY d (G n);have k:cs[G n]?=J cs[G n]:=eD (by omega);cases c:l[G n]? with|none=>grind|some x=>rw[c]at a;rw[aU (by rw[hk];simp[TK.agg]),j,a];simp only[m6,cE];rw[jH,c];rfl
 cases h;cases h
def akh(af:bO)(t:bv)(v:aP)(n:L)(s:bp):ae s (Pn af t v n) aM (CS af t (aM v) n):=by unfold Pn;split;rename_i h;simp only[CS,aM,cE,h,bD,bF];refine ae.cX λh1=>ae.cX λh2=>?_;rw[cA (jJ h1)];rw[c7]at h2;rw[PW _ _ 0 h2];exact ae.ret rfl;rename_i h;simp only[CS,aM,h,bD,bF];split;rename_i a;simp only[a];split;rename_i g b;refine ae.bE λh1=>ae.cX λh2=>?_;have h2:=jJ h2;rw[cA h2];rw[cr]at h1;rw[akg b (by omega) (zY h1.2) (Nat.eq_of_beq_eq_true h1.1)];exact ae.ret rfl;simp_all [ae.bE,cA,DX];exact ae.ai;exact ae.ai
def YZ(b:ay)(v:aP)(s:bp):ae s (Ja b v) aM (rb b (aM v)):=by
 unfold Ja;have key:∀(t:Ty)(n:L)(q:aw SV),(cf t.e=I->ae s (PE.ret (fU .i64 n)) aM q)->ae s (do bE (!cf t.e);.ret (fU .i64 n)) aM q:=by simp_all [bD,ae.bE]
 split;exact ae.ret rfl;exact ae.ret rfl;refine key _ _ _ λa=>?_;simp only[rb,aM,cE,lC,bF];rw[cA a];exact ae.ret (by simp[gJ,fU,aM,cE,ah]);refine key _ _ _ λa=>?_;simp only[rb,aM,cE,lC,bF];rw[cA a];exact ae.ret (by simp[gJ,fU,aM,cE,ah]);rename_i o;refine key _ _ _ λa=>?_;cases o with|none=>exact ae.ret rfl|some xs=>simp only[rb,aM,cE,lC,bF];rw[cA a];exact ae.ret (by simp[gJ,fU,aM,cE,ah])
 rename_i o;refine key _ _ _ λa=>?_;cases o with|none=>exact ae.ret rfl|some xs=>simp only[rb,aM,cE,lC,bF];rw[cA a];exact ae.ret (by simp[gJ,fU,aM,cE,ah])
 exact ae.ai
theorem PY:∀(ps:M (U×M E))(cells:M E),aV (DC cells ps)=fill (aV cells) (ps.map λp=>(p.1,aV p.2))|[],cells=>rfl|(off,cs)::r,cells=>by simp only[DC,fc,fill];rw[PY r,YV]
def PZ(fs:M (U×bv))(af:bO):∀(ps:M (U×cD))(s:bp),ae s (DD fs af ps) (jd λp=>(p.1,aV p.2)) (xw fs af ps)
 |[],s=>ae.ret rfl|(i,o)::r,s=>by
  simp only[DD,xw,bD,bF];refine ae.bind (fR o s) λv a=>?_;rw[vB];cases fs[i]? with
  |none=>exact ae.ai|some p=>
   cases v.fK with
   |none=>exact ae.ai|some cs=>
    let⟨off,t⟩:=p;simp only[m6];cases af.ti t with|none=>exact ae.ai|some ti=>simp only[rH];refine ae.bE λh=>?_;rw[cA (by simpa using h)];exact ae.bind (PZ fs af r a) λrest b=>ae.ret rfl
theorem aki{d:D}{c:E}(h:Ys d=J c):cE c=.d d:=by
 cases d with
 |bool b=>cases h;cases b<;>rfl
 |sl=>cases h
 |rep=>cases h
 |_=>cases h;rfl
theorem Jx:∀{ds:M D}{cs:M E},yj ds=J cs->aV cs=ds.map .d
 |[],cs,h=>by cases h;rfl
 |d::ds,cs,h=>by unfold yj at h;split at h;rename_i c a h1 h2;cases h;have:=Jx h2;grind [aV,aki];cases h
def Y0{size:U}{ps:M (U×M E)}(h:fits size ps=W):∀p∈(ps.map λp=>(p.1,aV p.2)),p.1+Y p.2<=size:=by intro p a;obtain⟨q,b,rfl⟩:=mq.1 a;have:=gT.1 h q b;simp_all
def akj(af:bO)(t:bv)(ps:M (U×cD))(s:bp):ae s (Po af t ps) aM (HW af t ps):=by unfold Po HW;split;rename_i size bytes fs z h;simp only[h,bD,bF];refine ae.bE λh1=>?_;simp only[cr,dK,gT]at h1;rw[cA h1];refine ae.bind (PZ fs af ps s) λa b=>ae.bE λh2=>?_;rw[cA (Y0 h2)];grind [ae.ai,ae.ret,aM,PY,Jx];rename_i n d size bytes z h;simp only[h,bD,bF];split;rename_i c;simp only[c];refine ae.bE λh1=>?_;simp only[dK]at h1;rw[cA h1];refine ae.bind (PZ _ af ps s) λa b=>ae.bE λh2=>?_;rw[cA (Y0 h2)];grind [ae.ai,ae.ret,aM,PY,Jx];exact ae.ai;exact ae.ai
def P0:∀(t:Ty)(z r:M D),sN t z=J r->z=be t t.zero++r
 |.int k,z,r,h=>by
  unfold sN at h;split at h<;>first|(cases h;done)|skip;all_goals (rename_i heq;cases heq)
  split at h;rename_i h1;obtain⟨rfl,rfl⟩:=h1;cases h;rfl;cases h
 |.bool,z,r,h=>by
  unfold sN at h;split at h<;>first|(cases h;done)|skip;all_goals (rename_i heq;cases heq)
  split at h;rename_i h1;subst h1;cases h;rfl;cases h
 |.bj,z,r,h=>by
  unfold sN at h;split at h<;>first|(cases h;done)|skip;all_goals (rename_i heq;cases heq)
  split at h;cases h;rfl;cases h
 |.sl t,z,r,h=>by
  unfold sN at h;split at h<;>first|(cases h;done)|skip;all_goals (rename_i heq;cases heq)
  cases h;rfl
 |.bJ a b,z,r,h=>by unfold sN at h;split at h;rename_i e h1;have c:=P0 a _ _ h1;have d:=P0 b _ _ h;rw[c,d];simp[be,Ty.zero];cases h
 |.set _,z,r,h=>by cases h
 |.cj _ _ _,z,r,h=>by cases h
theorem DY{t:Ty}{z:M D}(h:vo t z=W):z=be t t.zero:=by unfold vo at h;split at h;rename_i h1;have:=P0 t _ _ h1;simpa using this;cases h
def Y1(t:Ty)(size:U):∀(ps:M (U×cD))(rows:M t.T)(s:bp),ae s (Jb t size ps rows) (jd (be t)) (rowsOf size ps (rows.map (be t)))
 |[],rows,s=>ae.ret rfl|(i,o)::r,rows,s=>by
  simp only[Jb,rowsOf,bD,bF];refine ae.bind (fR o s) λv b=>?_;rw[vB];cases v.fK with
  |none=>exact ae.ai|some cs=>
   simp only[m6,rH];refine ae.bE λh=>?_;simp only[cr,dK,c7]at h;rw[cA (by simpa using h)];refine ae.bind (DV cs b) λds c=>?_;cases a:ls t ds with|none=>exact ae.ai|some x=>have:=Y1 t size r (lq rows i x) c;grind [sQ,List.map_set,Jv]
def akk(af:eR)(t:bv)(len:U)(ps:M (U×cD))(s:bp):ae s (Pp af t len ps) aM (HX af.c t len ps):=by
 unfold Pp HX;split;rename_i b _ d;simp only[d];cases af.c.ti b with
 |none=>exact ae.ai|some i=>
  cases lk b af.R with
  |none=>exact ae.ai|some a=>
   simp only[bD,bF];cases i.zero with|none=>exact ae.ai|some z=>simp only;refine ae.bE λh=>?_;simp only[cr,dK,c7,iJ,lL]at h;let⟨⟨⟨⟨⟨h1,h2⟩,h3⟩,f⟩,g⟩,j⟩:=h;rw[cA ⟨h1,h2,h3,g⟩];have e:=DY j;have:ej len z=(ej len a.zero).map (be a):=(by simp_all);rw[this];exact ae.bind (Y1 a i.size ps _ s) λrows k=>ae.ret (by simp only[aM,cE,lC,f])
 exact ae.ai
def akl(af:eR)(t:bv)(len cap:L)(s:bp):ae s (Pq af t len cap) aM (HY af.c t len cap):=by
 unfold Pq HY;split;rename_i a _ b;simp only[b];cases af.c.ti a with
 |none=>exact ae.ai|some i=>
  cases lk a af.R with
  |none=>exact ae.ai|some d=>
   simp only[bD,bF];cases i.zero with|none=>exact ae.ai|some z=>simp only;refine ae.bE λh=>ae.cX λe=>?_;grind [c7,iJ,cA,DY,ae.ret,aM,cE,lC,List.map_replicate]
 exact ae.ai
theorem akm(i:TI)(t:Ty)(c:E)(ys:M t.T)(lit:ay)(s:bp)(P:∀m t o,c≠.n m t o):ae s (Pr i t c ys lit) aM (xx i (cE c) (ys.map (be t))):=by
 unfold Pr xx;simp only[bD,bF];refine ae.bE λh=>?_;simp only[cr,c7,iJ,dK,lL]at h;let⟨⟨⟨⟨⟨h1,h2⟩,h3⟩,R⟩,g⟩,C⟩:=h;rw[cA ⟨h1,h2,h3,by grind,C⟩];cases c with
 |nil=>
  simp only[cE];refine ae.cX λS=>?_;rw[cA (by grind)];cases lit with
  |true=>
   cases ys with|nil=>exact ae.ret rfl|cons y r=>exact ae.ret (by simp only[aM,cE,lC,g])
  |false=>
   cases ys with|nil=>exact ae.ret rfl|cons y r=>exact ae.ret (by simp only[aM,cE,dW,lC,g])
 |n m t o=>grind|l m b xs=>
  cases m with
  |ak=>exact ae.ai|data=>exact ae.ai|bm r j hv cv k=>
   simp only[cE,lC];refine ae.aG ?_;refine ae.bE λz=>?_;simp only[cr,dK,lL]at z;let⟨⟨F,G⟩,H⟩:=z;have key:∀(f:M (M D))(p:U),Y f=p->ae s ((cX (decide (k+Y xs=p))).bind λ_=>(cX (decide (Y xs+Y ys<=68719476736))).bind λ_=>(rB r j (s.aG r)).bind λ_=>if h:b=t then PE.ret (aP.one (.l .ak t ((h▸xs)++ys)))else .ai) aM ((bU ((cL (s.aG r)).hv=hv/\(cL (s.aG r)).cv=cv/\b.e=i.size/\r.isArg=I)).bind λ_=>(bU (k+Y (xs.map (be b))=Y f)).bind λ_=>(bU (Y (xs.map (be b))+Y (ys.map (be t))<=2 ^ 36)).bind λ_=>(pX r j (cL (s.aG r))).bind λ_=>aw.ret (SV.one (.ak b.e (xs.map (be b)++ys.map (be t))))):=by
    intro f p A;by_cases B:b=t;subst B;refine ae.cX λK=>ae.cX λN=>?_;rw[cA ⟨F,G,g.symm,H⟩,cA (by grind),cA (by grind)];grind [ae.bind,YJ,ae.ret,aM,cE,lC];refine ae.cX λK=>ae.cX λN=>?_;simp only[B,dite_false];unfold ae;rw[ke,Tr.vr];generalize (rB r j (s.aG r)).cU s=tr;induction tr with|dw a=>trivial|ai=>trivial|br c t e q u=>exact⟨λ_=>q,λ_=>u⟩|call d o k v=>exact λx _=>v x|sum o k k' v w=>exact⟨λx _=>v x,λx _=>w x⟩
   rw[kz];cases V:(s.aG r).at j with
   |l m t2 f=>
    cases m with|ak=>exact key (f.map (be t2)) _ (by simp)|_=>exact ae.ai
   |n m t2 o=>
    cases m with|ak=>exact ae.call λf A=>by subst A;exact key (f.map (be t2)) _ (by simp)|_=>exact ae.ai
   |_=>exact ae.ai
 |_=>exact ae.ai
def Y2(t:Ty)(w:U)(a:w=t.e)(ys:M t.T):(SV.one (cE (.n .ak t (dW ys))))=if ys.map (be t)=[]then SV.one (.d .nil)else SV.one (.ak w (ys.map (be t))):=by
 subst a;cases ys with|nil=>rfl|cons y r=>rfl
theorem akn(i:TI)(t:Ty)(r:aO)(j hv cv k:U)(b:Ty)(o:Q (M b.T))(ys:M t.T)(lit:ay)(s:bp):ae s (Ps i t r j hv cv k b o ys lit) aM (xx i (cE (.n (.bm r j hv cv k) b o)) (ys.map (be t))):=by
 unfold Ps xx;simp only[bD,bF];refine ae.bE λh=>?_;simp only[cr,c7,iJ,dK,lL]at h;let⟨⟨⟨⟨⟨h1,h2⟩,h3⟩,K⟩,z⟩,D⟩:=h;rw[cA ⟨h1,h2,h3,by grind,D⟩];cases o with
 |none=>
  simp only[cE];refine ae.look ?_;refine ae.bE λm=>?_;cases A:(s.aG r).at j with
  |n p t2 B=>
   cases p with
   |ak=>refine ae.cX λ_=>ae.cX λg=>?_;simp only[agN,CI,Nat.zero_add,eW]at g;rw[cA (by simpa using g)];refine ae.bind (k':=λ_=>if ys.map (be t)=[]then aw.ret (SV.one (.d .nil))else aw.ret (SV.one (.ak i.size (ys.map (be t))))) (q:=aw.ret ()) (f:=λ_=>()) (YO r j s) λ_ E=>?_;split;rename_i l;subst l;have fin:ae E (PE.ret (aP.one (.n .ak b (jN O ys)))) aM (if ys.map (be b)=[]then aw.ret (SV.one (.d .nil))else aw.ret (SV.one (.ak i.size (ys.map (be b))))):=(by have e:=Y2 b i.size z ys;have:(if ys.map (be b)=[]then aw.ret (SV.one (.d .nil))else aw.ret (SV.one (.ak i.size (ys.map (be b)))))=aw.ret (SV.one (cE (.n .ak b (dW ys)))):=(by rw[e];split<;>rfl);rw[this];exact ae.ret rfl);grind [ae.ret,aM,cE,lC];exact ae.ai
   |_=>exact ae.ai
  |_=>exact ae.ai
 |some xs=>
  simp only[cE,lC];refine ae.aG ?_;refine ae.bE λm=>?_;simp only[cr,dK,lL]at m;let⟨⟨F,G⟩,H⟩:=m;rw[kz];cases A:(s.aG r).at j with
  |n p t2 B=>
   cases p with
   |ak=>
    refine ae.cX λC=>ae.cX λg=>?_;simp only[fk,eW]at C g;cases B with
    |none=>unfold qk;rw[A];exact ae.br (λh=>by cases h) λ_=>trivial|some N=>
     simp only[cE,lC];by_cases l:b=t;subst l;rw[cA ⟨F,G,z.symm,H⟩,cA (by simpa using C),cA (by simpa using g)];grind [ae.bind,YN,ae.ret,aM,cE,lC,jN];unfold ae;rw[ke,Tr.vr];simp only[l,dite_false];generalize (qk r j (s.aG r) _).cU s=tr;induction tr with|dw a=>trivial|ai=>trivial|br c t e u v=>exact⟨λ_=>u,λ_=>v⟩|call d o k w=>exact λx _=>w x|sum o k k' w y=>exact⟨λx _=>w x,λx _=>y x⟩
   |_=>exact ae.ai
  |_=>exact ae.ai
def ako(i:TI)(t:Ty)(c:E)(ys:M t.T)(lit:ay)(s:bp):ae s (Pt i t c ys lit) aM (xx i (cE c) (ys.map (be t))):=by unfold Pt;grind [bD,ajZ,akm,akn]
def akp(c:E)(s:bp):ae s (Pv c) aM (NQ (cE c)):=by
 unfold Pv;cases c with
 |nil=>exact ae.ret rfl|n m t o=>
  simp only[bD];refine ae.cX λh=>?_;cases o with|none=>exact ae.ret rfl|some xs=>cases h
 |_=>exact ae.ai
def Y3{i:TI}{t:Ty}{z:M D}{n:L}{s:bp}(b:i.zero=J z)(h:(Y z==i.size&&bX 0 i.size&&bX 0 i.bytes&&gG i.bytes 1024&&i.size==t.e&& !cf i.size&&vo t z)=W)(c:0<=n/\n<=68719476736):ae s (PE.ret (.one (.n .ak t (dW (ej (G n) t.zero))))) aM (Ag i (.d .nil) n):=by simp only[cr,dK,c7,iJ,lL]at h;let⟨⟨⟨⟨⟨⟨h1,h2⟩,h3⟩,f⟩,g⟩,j⟩,k⟩:=h;have e:=DY k;unfold Ag;simp only[b,bF];rw[cA ⟨h1,h2,h3,f,j⟩,cA (by simpa using c)];have l:=Y2 t i.size g (ej (G n) t.zero);by_cases a:G n=0;rw[aF a];refine ae.ret ?_;rw[a];rfl;rw[aU a];refine ae.ret ?_;show _=SV.one (cE (.n .ak t (dW (ej (G n) t.zero))));simp_all
def akq(i:TI)(t:Ty)(c:E)(n:L)(s:bp):ae s (Pw i t c n) aM (Ag i (cE c) n):=by
 unfold Pw;split;rename_i z b;simp only[bD];refine ae.bE λh=>?_;cases c with
 |nil=>simp only;refine ae.cX λa=>?_;exact Y3 b h (jJ a)|n m t o=>
  simp only;refine ae.cX λa=>?_;rw[cr]at a;cases o with|none=>exact Y3 b h (jJ a.2)|some xs=>grind
 |_=>exact ae.ai
 exact ae.ai
def akr(af:bO)(i:TI)(t:Ty)(tid:bv)(c:E)(s:bp):ae s (Pu af i t tid c) (jd (be t)) (xy af i tid (cE c)):=by
 unfold Pu;split;rename_i h;split;split;rename_i a;subst a;simp only[xy,cE,h,bD,bF];simp_all [ae.bE,cA,ae.ret,be,fL,a6];exact ae.ai;exact ae.ai;rename_i h;have e:xy af i tid (cE c)=mx i.size (cE c):=by unfold xy;rw[h]
 simp_all [bD,ae.bE,YR];exact ae.ai
def aks(v:aP)(lo hi:Q L)(s:bp):ae s (Px v lo hi) aM (HZ (aM v) lo hi):=by unfold Px;split;simp only[HZ,aM,cE,bD,bF];refine ae.cX λh=>?_;rw[cA (by grind [ah])];exact ae.ret rfl;exact ae.ai
theorem Jy{α β:Type}(f:α->β)(l h:L)(xs:M α):(bq l h xs).map f=((xs.map f).take (G h)).drop (G l):=by simp[bq,List.map_take,xh]
def akt(size:U)(v:aP)(lo hi:Q L)(s:bp):ae s (Py size v lo hi) aM (rc size (aM v) lo hi):=by
 unfold Py;split;simp only[rc,aM,cE,bD,bF];refine ae.cX λh=>?_;rw[cA (jJ h)];exact ae.ret rfl;rename_i t xs;simp only[rc,aM,cE,lC,bD,bF];grind [ae.cX,ae.bE,cA,ah,ae.ret,aM,cE,lC,Jy];rename_i t o;simp only[bD];refine ae.cX λh=>ae.bE λh2=>?_;have a:=jJ h;cases o with|none=>simp only[rc,aM,cE,bF];simp only[ah,agN,CI,Int.natCast_zero]at a;rw[cA (by grind)];exact ae.ret rfl|some xs=>simp_all [rc,aM,cE,lC,bF,cA,ah,ae.ret,Jy]
 rename_i r j hv cv k t xs;simp only[rc,aM,cE,lC,bD,bF];grind [ae.cX,ae.bE,cA,ah,ae.ret,aM,cE,lC,Jy];rename_i r j hv cv k t o;simp only[bD];refine ae.cX λh=>ae.bE λh2=>?_;have a:=jJ h;cases o with|none=>grind [rc,aM,cE,bF,ah,cA,ae.ret]|some xs=>simp only[rc,aM,cE,lC,bF];grind [cA,ah,ae.ret,aM,cE,lC,Jy]
 exact ae.ai
def Y4{af:bO}{a:bv}(h:Jc af a=W):∃b z,af.ti a=J ⟨1,b,.int .u8,z⟩:=by grind [Jc]
def aku(af:bO)(src dst:bv)(v:aP)(s:bp):ae s (Pz af src dst v) aM (uE af src dst (aM v)):=by
 unfold Pz;split;rename_i h1 h2;split;simp only[uE,h1,h2,aM,cE];exact ae.ret rfl;exact ae.ai;rename_i i _ _ _ h1 h2;split;simp only[uE,h1,h2,aM,cE];exact ae.ret rfl;rename_i c g;split;rename_i p hk;split;rename_i f;let⟨b,z,a⟩:=Y4 f
 have e:uE af src dst (aM (.one c))=(mx 1 (cE c)).bind λxs=>match xs.mapM (λx=>match x with|[.int .u8 n]=>J (kr (G n))|_=>O)with|some l=>aw.ret (SV.one (.d (.bj l)))|none=>.ai:=by
  let⟨h,j,q,r⟩:=i
  simp only at hk
  subst hk
  simp only[uE,h1,h2,aM,bF]
  cases c with
  |l m t xs=>cases m<;>(simp only[cE,lC,a];rfl)
  |n m t o=>cases m<;>cases o<;>(simp only[cE,lC,a];rfl)
  |s x=>exact cJ rfl (g x)|gW b=>cases b<;>(simp only[cE,a];rfl)
  |it m t xs u=>cases m<;>(simp only[cE,mC,a];rfl)
  |_=>simp only[cE,a];rfl
 rw[e];simp only[bD];refine ae.bind (YR (.int .u8) c s) λxs y=>?_;have:∀l:M L,(l.map (be (.int .u8))).mapM (λx=>match x with|[.int .u8 n]=>J (kr (G n))|_=>O)=J (l.map λn=>kr (G n)):=by
  intro l;induction l with|nil=>rfl|cons n l k=>rw[fc,List.mapM_cons,k];rfl
 rw[this xs];exact ae.ret rfl;exact ae.ai;exact ae.ai;exact ae.ai;rename_i h1 h2;split;split;rename_i f;let⟨b,z,a⟩:=Y4 f;simp only[uE,h1,h2,aM,cE,a];exact ae.ret (by simp[aM,cE,lC,be,Ty.w,Ty.e,fL,a6]);exact ae.ai;exact ae.ai;exact ae.ai
def P1:∀(cs:M E),keysOf (aV cs)=oj cs
 |[]=>rfl|c::cs=>by
  have a:=P1 cs;cases c with
  |aX k off=>simp only[aV,fc,cE,keysOf,oj]at a ⊢;rw[a]|dj f caps=>simp only[aV,fc,cE,keysOf,oj]at a ⊢;rw[a]|l m t xs=>cases m<;>exact a
  |n m t o=>cases m<;>cases o<;>exact a
  |gW b=>cases b<;>exact a
  |it m t xs d=>cases m<;>exact a
  |_=>exact a
def P2:∀(vs:M aP),(vs.map aM).flatMap SV.cells=aV (vs.flatMap aP.cells)|[]=>rfl|v::vs=>by simp only[fc,kK,P2 vs,Jp,PT]
theorem A4{p:PE E}{q:aw D}{s:bp}(a:ae s p qm q)(hx:(p.cU s).box (λx=>oh x.1=W)):ae s p cE (q.bind λd=>aw.ret (C.d d)):=by unfold ae at a ⊢;refine Tr.oq ?_ (Tr.Yv a hx);grind [PU,PV,aw.cU,qm,A3]
theorem A5(c:E)(s:bp):((pf c).cU s).box (λx=>oh x.1=W):=by
 have one:∀(c:E),((nk c).cU s).box (λx=>oh x.1=W):=by
  intro c;have f:∀{α:Type}(p:PE α)(d:E),oh d=W->((p.bind λ_=>PE.ret d).cU s).box (λx=>oh x.1=W):=by
   intro α p d hd;rw[ke,Tr.vr];generalize p.cU s=tr;induction tr with|dw a=>exact hd|ai=>trivial|br c t e q u=>exact⟨λ_=>q,λ_=>u⟩|call d o k v=>exact λx _=>v x|sum o k k' v w=>exact⟨λx _=>v x,λx _=>w x⟩
  have dat:∀{c:E},oh c=W->nk c=PE.ret c->((nk c).cU s).box (λx=>oh x.1=W):=by intro c hd z;rw[z];exact hd
  cases c with
  |l m t xs=>
   cases m with
   |bm r j hv cv k=>
    simp only[nk,PE.cU,bD];rw[Tr.rG];cases g:(s.aG r).hv==hv&&(s.aG r).cv==cv with|false=>trivial|true=>exact f _ _ rfl
   |data=>exact dat rfl rfl|ak=>trivial
  |n m t o=>
   cases m with
   |bm r j hv cv k=>
    simp only[nk,PE.cU,bD];rw[Tr.rG];cases g:(s.aG r).hv==hv&&(s.aG r).cv==cv with|false=>trivial|true=>exact f _ _ rfl
   |data=>exact dat rfl rfl|ak=>trivial
  |i=>exact dat rfl rfl|b=>exact dat rfl rfl|tt=>exact dat rfl rfl|ff=>exact dat rfl rfl|s=>exact dat rfl rfl|nil=>exact dat rfl rfl|cV=>exact dat rfl rfl|r=>exact dat rfl rfl|_=>trivial
 unfold pf;rw[bD,ke,Tr.vr];have same:∀h,((PE.ret h).cU s).box λa=>(((nk a.1).cU a.2.1).map λy=>(y.1,y.2.1,a.2.2.1++y.2.2.1,a.2.2.2++y.2.2.2)).box (λx=>oh x.1=W):=by intro h;show(((nk h).cU s).map _).box _;rw[Tr.rG];exact one h
 cases c with
 |n m t o=>
  cases m with
  |bm r j hv cv k=>
   cases r with|bP i=>exact⟨λ_=>same _,λ_=>same _⟩|_=>exact same _
  |_=>exact same _
 |_=>exact same _
def Y5(af:bO)(c:E)(s:bp):ae s (Jg af c) cE (o7 af (cE c)):=by
 unfold Jg;cases c with
 |l m t xs=>
  cases m with
  |bm r j hv cv k=>
   cases r with
   |tmp u=>grind [DG,o7,cE,lC,bF,ae.ret,A4,vA,A5]|box u=>
    simp only[DG];cases a:af.qZ with|false=>simp only[o7,cE,lC,a,bM,ca];exact ae.ret rfl|true=>have h:=A4 (vA (.l (.bm (.box u) j hv cv k) t xs) s) (A5 _ s);simp only[o7,cE,lC,a,bH,bF];exact h
   |_=>exact ae.ret rfl
  |_=>exact ae.ret rfl
 |n m t o=>
  cases m with
  |bm r j hv cv k=>
   cases r with
   |tmp u=>
    simp only[DG];cases a:af.keep u with
    |true=>
     cases o with|none=>exact ae.ret rfl|some xs=>simp only[o7,cE,lC,a,bH];exact ae.ret rfl
    |false=>
     have h:=A4 (vA (.n (.bm (.tmp u) j hv cv k) t o) s) (A5 _ s);cases o with|none=>exact h|some xs=>simp only[o7,cE,lC,a,bM,ca,bF];exact h
   |box u=>
    simp only[DG];cases a:af.qZ with
    |false=>
     cases o with|none=>exact ae.ret rfl|some xs=>simp only[o7,cE,lC,a,bM,ca];exact ae.ret rfl
    |true=>
     have h:=A4 (vA (.n (.bm (.box u) j hv cv k) t o) s) (A5 _ s);cases o with|none=>exact h|some xs=>simp only[o7,cE,lC,a,bH,bF];exact h
   |_=>cases o<;>exact ae.ret rfl
  |_=>cases o<;>exact ae.ret rfl
 |gW b=>cases b<;>exact ae.ret rfl
 |it m t xs d=>cases m<;>first|exact ae.ret rfl|exact ae.ai
 |_=>exact ae.ret rfl
def Y6(af:bO):∀(cs:M E)(s:bp),ae s (DH af cs) aV (xC af (aV cs))|[],s=>ae.ret rfl|c::cs,s=>by show ae s (DH af (c::cs)) aV (xC af (cE c::aV cs));simp only[DH,xC,bD,bF];exact ae.bind (Y5 af c s) λd a=>ae.bind (Y6 af cs a) λb e=>ae.ret rfl
def akv(af:bO)(v:aP)(s:bp):ae s (AN af v) aM (p5 af (aM v)):=by
 cases v with|one c=>show ae s (AN af (.one c)) aM (p5 af (.one (cE c)));simp only[AN,p5,bD,bF];exact ae.bind (Y5 af c s) λa b=>ae.ret rfl|agg cs=>show ae s (AN af (.agg cs)) aM (p5 af (.agg (aV cs)));simp only[AN,p5,bD,bF];exact ae.bind (Y6 af cs s) λa b=>ae.ret rfl|_=>exact ae.ai
def Y7(af:bO):∀(vs:M aP)(s:bp),ae s (Jh af vs) (jd aM) (Ak af (vs.map aM))|[],s=>ae.ret rfl|v::vs,s=>by simp only[fc,Jh,Ak,bD,bF];exact ae.bind (akv af v s) λc a=>ae.bind (Y7 af vs a) λb d=>ae.ret rfl
def Y8(ks:M aD)(c:E)(s:bp):ae s (AO ks c) cE (canon ks (cE c)):=by
 cases c with
 |l m t xs=>
  cases m with
  |ak=>exact ae.ai|data=>exact ae.ret rfl|bm r j hv cv k=>
   simp only[AO,canon,cE,lC];refine ae.aG ?_;simp only[bD,bF];refine ae.bE λd=>?_;simp only[cr,dK]at d;rw[cA (p:=(cL (s.aG r)).hv=hv/\(cL (s.aG r)).cv=cv) d];rw[kz];have ak:∀(b:ay),b=ks.all (λk=> !ic r (.box k))->ae s ((bE b).bind λ_=>PE.ret (E.l .ak t xs)) cE ((bU (∀k∈ks,r≠.box k)).bind λ_=>aw.ret (C.ak t.e (xs.map (be t)))):=(by intro b v;refine ae.bE λh=>?_;rw[cA (by grind [vw])];exact ae.ret rfl);cases f:(s.aG r).at j with
   |l a g ys=>
    cases a with|ak=>exact ak _ rfl|data=>exact ae.ret rfl|bm=>exact ae.ai
   |n a g o=>
    cases a with|ak=>exact ae.call λx i=>by subst i;exact ak _ rfl|data=>exact ae.call λx i=>by subst i;exact ae.ret rfl|bm=>exact ae.ai
   |_=>exact ae.ai
 |n m t o=>
  cases m with
  |bm r j hv cv k=>
   cases o with
   |none=>
    simp only[AO];refine ae.look ?_;simp only[bD];refine ae.bE λd=>?_;cases f:(s.aG r).at j with
    |n a g q=>
     cases a with|ak=>exact vz λ_=>ae.bE λ_=>ae.ret rfl|data=>exact vz λ_=>ae.ret rfl|bm=>exact ae.ai
    |_=>exact ae.ai
   |some xs=>
    simp only[AO,canon,cE,lC];refine ae.aG ?_;simp only[bD,bF];refine ae.bE λd=>?_;simp only[cr,dK]at d;rw[cA (p:=(cL (s.aG r)).hv=hv/\(cL (s.aG r)).cv=cv) d];rw[kz];cases f:(s.aG r).at j with
    |n a g q=>
     cases a with
     |ak=>
      refine vz λ⟨t2,u,h1,h2⟩=>?_;rw[f]at h1;cases q with|none=>grind|some ys=>grind [ae.bE,cE,lC,cA,vw,ae.ret]
     |data=>
      refine vz λ⟨t2,u,h1,h2⟩=>?_;rw[f]at h1;cases q with|none=>grind|some ys=>exact ae.ret rfl
     |bm=>exact ae.ai
    |_=>exact ae.ai
  |ak=>exact ae.ai|data=>cases o<;>exact ae.ret rfl
 |gW b=>exact ae.ai|ea=>exact ae.ai|da=>exact ae.ai|bN=>exact ae.ai|it=>exact ae.ai|_=>exact ae.ret rfl
def Y9(ks:M aD):∀(cs:M E)(s:bp),ae s (DI ks cs) aV (sx ks (aV cs))|[],s=>ae.ret rfl|c::cs,s=>by show ae s (DI ks (c::cs)) aV (sx ks (cE c::aV cs));simp only[DI,sx,bD,bF];exact ae.bind (Y8 ks c s) λd a=>ae.bind (Y9 ks cs a) λb e=>ae.ret rfl
def akw(ks:M aD)(v:aP)(s:bp):ae s (AP ks v) aM (nW ks (aM v)):=by
 cases v with|one c=>show ae s (AP ks (.one c)) aM (nW ks (.one (cE c)));simp only[AP,nW,bD,bF];exact ae.bind (Y8 ks c s) λa b=>ae.ret rfl|agg cs=>show ae s (AP ks (.agg cs)) aM (nW ks (.agg (aV cs)));simp only[AP,nW,bD,bF];exact ae.bind (Y9 ks cs s) λa b=>ae.ret rfl|_=>exact ae.ai
def Za(ks:M aD):∀(vs:M aP)(s:bp),ae s (Ji ks vs) (jd aM) (uF ks (vs.map aM))|[],s=>ae.ret rfl|v::vs,s=>by simp only[fc,Ji,uF,bD,bF];exact ae.bind (akw ks v s) λc a=>ae.bind (Za ks vs a) λb d=>ae.ret rfl
theorem Zb{c:E}(h:rD c=W):plain (cE c)=W:=by
 cases c with
 |l m t xs=>cases m<;>first|rfl|cases h
 |n m t o=>cases m<;>cases o<;>first|rfl|cases h
 |_=>first|rfl|cases h
def akx{cs:M E}(h:cs.all rD=W):(aV cs).all plain=W:=by simp_all [aV,Zb]
def Zc{ks:M aD}{c:E}(h:lu ks c=W):tok ks (cE c)=W:=by
 cases c with
 |aX k off=>simp_all [lu,lw,tok,cE]|l m t xs=>cases m<;>first|rfl|cases h
 |n m t o=>cases m<;>cases o<;>first|rfl|cases h
 |_=>first|rfl|cases h
def aky{ks:M aD}{cs:M E}(h:cs.all (lu ks)=W):(aV cs).all (tok ks)=W:=by simp_all [aV,Zc]
def Zd{ks:M aD}{c:E}(h:lu ks c=W):cE (lW ks c)=tc ks (cE c):=by
 cases c with
 |aX k off=>rfl|l m t xs=>cases m<;>first|rfl|cases h
 |n m t o=>cases m<;>cases o<;>first|rfl|cases h
 |_=>first|rfl|cases h
def Ze{ks:M aD}:∀{cs:M E},cs.all (lu ks)=W->aV (cs.map (lW ks))=(aV cs).map (tc ks)|[],_=>rfl|c::cs,h=>by rw[nM,cr]at h;show cE (lW ks c)::aV (cs.map (lW ks))=tc ks (cE c)::(aV cs).map (tc ks);rw[Zd h.1,Ze h.2]
theorem Zf{ks:M aD}{c:E}(h:lu ks c=W):bc ks (cE (lW ks c))=cE c:=by
 cases c with
 |aX k off=>
  have hk:k∈ks:=by simp_all [lu,lw]
  let⟨h1,h2⟩:=IG hk;show C.aX (H ks (idx k ks) default) off=C.aX k off;grind
 |l m t xs=>cases m<;>first|rfl|cases h
 |n m t o=>cases m<;>cases o<;>first|rfl|cases h
 |_=>first|rfl|cases h
theorem Zg{ks:M aD}{c:E}(h:lu ks c=W):ju (Y ks) (cE (lW ks c))=W:=by rw[Zd h];exact Xi (Zc h)
theorem Zh{y:E}(h:Jj (J y)=W):y=.bN\/rD y=W:=by cases y<;>first|exact .inl rfl|exact .inr h
theorem akz{n:U}{c:C}(h:plain c=W):ju n c=W:=by cases c<;>first|rfl|cases h
def Zi{ks:M aD}:∀{cs:M E}{o:M (Q E)},cs.all (lu ks)=W->o.all Jj=W->(aV (fg (cs.map (lW ks)) o)).map (bc ks)=aV (fg cs o)/\(aV (fg (cs.map (lW ks)) o)).all (ju (Y ks))=W
 |[],_,_,_=>⟨rfl,rfl⟩|c::cs,[],h,_=>by
  have b:∀{l:M E},l.all (lu ks)=W->(aV (l.map (lW ks))).map (bc ks)=aV l/\(aV (l.map (lW ks))).all (ju (Y ks))=W:=by
   intro l;induction l with
   |nil=>intro _;exact⟨rfl,rfl⟩
   |cons a l d=>grind [aV,Zf,Zg]
  exact b h
 |c::cs,x::o,h,g=>by
  rw[nM,cr]at h g;let⟨e,f⟩:=Zi h.2 g.2;cases x with|none=>grind [aV,fg,Zf,Zg]|some y=>grind [Zh,bc,cE,aV,fg,ju,Zb,Xl,akz]
def P3(a:M aD):∀(ks:M aD)(s:bp),ae s (ql a ks) (jd aV) (xD a ks)
 |[],s=>ae.ret rfl|k::ks,s=>by
  simp only[ql,xD,bD,bF];refine ae.aG ?_;cases hv:(s.aG (.box k)).v with|agg cs=>simp only[cL,hv,aM];refine ae.bE λh=>?_;rw[cA (aky h)];exact ae.bind (P3 a ks s) λr b=>ae.ret (by rw[fc,Ze h])|_=>simp only[cL,hv,aM];exact ae.ai
def akA(cs:M E):keysOf (aV cs)=oj cs:=by
 induction cs with
 |nil=>rfl|cons c cs a=>
  cases c with
  |l m t xs=>cases m<;>exact a
  |n m t o=>cases m<;>cases o<;>exact a
  |aX k off=>exact cb (k:: ·) a|dj f caps=>exact cb (caps.map (·.1)++ ·) a|gW b=>cases b<;>exact a
  |it m t xs d=>cases m<;>exact a
  |_=>exact a
def Zj:∀(ks:M aD)(s:bp),ae s (Jk ks) (λl=>l) (Al ks)
 |[],s=>ae.ret rfl|k::ks,s=>by
  simp only[Jk,Al,bD,bF];refine ae.aG ?_;cases hv:(s.aG (.box k)).v with|agg cs=>simp only[cL,hv,aM];exact ae.bind (Zj ks s) λr a=>ae.ret (by rw[akA])|_=>simp only[cL,hv,aM];exact ae.ai
def P4{α:Type}(r:aO)(x:dP)(k:bY->PE α):(lr r x).bind k=.put r x (k ()):=rfl
def Jz{α:Type}(r:aO)(x:RV)(k:bY->aw α):(eo r x).bind k=.put r x (k ()):=rfl
def Holds(a:M aD)(s:bp):M aD->M (M E)->Prop|[],[]=>dL|k::ks,b::c=>(∃o,(s.aG (.box k)).v=.agg o/\o.all (lu a)=W/\b=o.map (lW a))/\Holds a s ks c|_,_=>jc
def Holds.other{d:M aD}{s:bp}{k:aD}{os:M (Q E)}{cs:M E}(h:(s.aG (.box k)).v=.agg cs):∀{ks:M aD}{c:M (M E)},k ∉ ks->Holds d s ks c->Holds d (s.wr k os) ks c|[],[],_,a=>a|[],_::_,_,a=>aaY a|_::_,[],_,a=>aaY a|q::ks,b::c,hk,a=>by simp only[iG,not_or]at hk;refine⟨?_,Holds.other h hk.2 a.2⟩;rw[DR s k os _ h,aU (by grind)];exact a.1
def Zk(b:M aD):∀(ks:M aD)(s:bp),((ql b ks).cU s).box λx=>x.2.1=s/\Holds b s ks x.1
 |[],s=>⟨rfl,trivial⟩|k::ks,s=>by
  simp only[ql,PE.cU,Tr.rG,bD];cases hv:(s.aG (.box k)).v with
  |agg cs=>
   cases c:cs.all (lu b)with|false=>simp only[c];exact trivial|true=>simp only[c];show(((ql b ks).bind λr=>PE.ret (cs.map (lW b)::r)).cU s).box _;rw[ke,Tr.vr];refine Tr.oq ?_ (Zk b ks s);rintro ⟨a,s',f,g⟩ ⟨h1,h2⟩;simp only at h1 h2;subst h1;exact⟨rfl,⟨cs,hv,c,rfl⟩,h2⟩
  |_=>exact trivial
theorem akB{e:E}(h:rD e=W){k:aD}{off:U}:cE e≠.aX k off:=by
 cases e with
 |l m t xs=>cases m<;>simp[cE,lC]
 |n m t o=>cases o<;>cases m<;>simp[cE,lC]
 |aX=>cases h
 |gW b=>cases b<;>simp[cE]
 |it=>cases h
 |_=>simp[cE]
def Zl{c:E}{k:aD}{off:U}(h:cE c=.aX k off):c=.aX k off:=by
 cases c with
 |l m t xs=>cases m<;>simp[cE,lC]at h
 |n m t o=>cases o<;>cases m<;>simp[cE,lC]at h
 |aX=>simp_all [cE]|gW b=>cases b<;>simp[cE]at h
 |it m t xs a=>cases m<;>simp[cE,mC]at h
 |_=>simp[cE]at h
def akC{cs:M E}{o:M (Q E)}(h:o.all Jj=W):uG (.agg (aV cs)) (aV (fg cs o))=DJ cs o:=by
 cases hk:DJ cs o with
 |true=>unfold DJ at hk;split at hk;simp[fg,aV,cE,uG];simp[fg,aV,cE,uG];cases hk
 |false=>
  cases a:uG (.agg (aV cs)) (aV (fg cs o))with
  |false=>rfl|true=>
   let⟨k,off,h1,h2⟩:=Xo a;simp only[SV.agg.injEq,aV]at h1;cases cs with
   |nil=>cases h1
   |cons c cs=>
    simp only[fc,zR,List.map_eq_nil_iff]at h1;obtain⟨h3,rfl⟩:=h1;obtain rfl:=Zl h3;cases o with
    |nil=>cases hk
    |cons x o=>
     cases x with
     |none=>cases hk
     |some e=>grind [fg,aV,Zh,cE,akB]
def DZ(e:M aD):∀(ks:M aD)(c:M (M E))(os:M (M (Q E)))(s:bp),Y ks<=Y os->ks.Nodup->Holds e s ks c->ae s (DK e ks (os.take (Y ks))) (λ_=>()) (rh e ks (((i6 c os).map aV).take (Y ks)))
 |[],[],os,s,_,_,_=>by simp only[CI,List.take_zero];exact ae.ret rfl|[],b::c,os,s,_,_,h=>aaY h|k::ks,[],os,s,_,_,h=>aaY h|k::ks,b::c,[],s,f,_,_=>by simp at f|k::ks,b::c,o::os,s,f,j,h=>by
  simp only[kL,List.take_succ_cons,i6,fc,DK,rh,bD,bF];obtain⟨⟨a,g,l,rfl⟩,h2⟩:=h;refine ae.aG ?_;rw[g];refine ae.bE λi=>?_;rw[cr]at i;let⟨m,n⟩:=Zi (ks:=e) i.1 i.2;have d:=zX.1 j;rw[cA n,m];have ev:(cL (s.aG (.box k))).v=.agg (aV a):=by simp only[cL,g,aM]
  rw[ev,akC i.2];cases DJ a o with|true=>exact DZ e ks c os _ (by simpa using f) d.2 h2|false=>simp only;rw[Jz];exact ae.wr g rfl (DZ e ks c os _ (by simpa using f) d.2 (Holds.other g d.1 h2))
def JA(t:U):∀(a:M (M E))(i:U)(s:bp),ae s (Jl t i a) (λ_=>()) (escape t i (a.map aV))
 |[],i,s=>ae.ret rfl|b::a,i,s=>by
  simp only[fc,Jl,escape,bD,bF];refine ae.aG ?_;cases hv:(s.aG (.box (.cn t i))).v with|undef=>simp only[cL,hv,aM];refine ae.bE λh=>?_;rw[cA (akx h),P4,Jz];exact ae.put rfl rfl (JA t a (i+1) _)|_=>simp only[cL,hv,aM];exact ae.ai
def P5{args:M aP}{l:M (U×U)}(h:PQ args l=W):Am (args.map aM) l=W:=by
 simp only[PQ,Am,gT]at h ⊢;intro p a;have h1:=h p a;have e:H (H (args.map aM) p.1 .undef).cells p.2 .bN=cE (H (H args p.1 .undef).cells p.2 .bN):=by have b:H (args.map aM) p.1 .undef=aM (H args p.1 .undef):=AZ aM args p.1 .undef;rw[b,Jp];exact AZ cE _ p.2 .bN
 grind [PV]
def Zm(ks:M aD)(t:U)(c:E)(s:bp):ae s (Jm ks t c) cE (back ks t (cE c)):=by
 cases c with
 |l m t xs=>cases m<;>first|exact ae.ret rfl|exact ae.ai
 |n m t o=>cases m<;>cases o<;>first|exact ae.ret rfl|exact ae.ai
 |aX k off=>cases k<;>first|exact ae.ret rfl|exact ae.ai
 |dj f caps=>simp only[Jm,back,cE,bD,bF];refine ae.bE λh=>?_;rw[cA (by simpa using h)];exact ae.ret rfl|ea=>exact ae.ai|da=>exact ae.ai|bN=>exact ae.ai|gW b=>exact ae.ai|it=>exact ae.ai|_=>exact ae.ret rfl
def P6(ks:M aD)(t:U):∀(cs:M E)(s:bp),ae s (AQ ks t cs) aV (ri ks t (aV cs))|[],s=>ae.ret rfl|c::cs,s=>by show ae s (AQ ks t (c::cs)) aV (ri ks t (cE c::aV cs));simp only[AQ,ri,bD,bF];exact ae.bind (Zm ks t c s) λd a=>ae.bind (P6 ks t cs a) λb e=>ae.ret rfl
def Zn(ks:M aD)(t:U):∀(vs:M (ay×M E))(s:bp),ae s (DM ks t vs) fq (sy ks t (fq vs))|[],s=>ae.ret rfl|(b,cs)::vs,s=>by show ae s (DM ks t ((b,cs)::vs)) fq (sy ks t ((b,aV cs)::fq vs));simp only[DM,sy,bD,bF];exact ae.bind (P6 ks t cs s) λd a=>ae.bind (Zn ks t vs a) λc e=>ae.ret rfl
def P7(ks:M aD)(t:U)(v:aP)(s:bp):ae s (vq ks t v) aM (lf ks t (aM v)):=by
 cases v with|one c=>show ae s (vq ks t (.one c)) aM (lf ks t (.one (cE c)));simp only[vq,lf,bD,bF];exact ae.bind (Zm ks t c s) λa b=>ae.ret rfl|agg cs=>show ae s (vq ks t (.agg cs)) aM (lf ks t (.agg (aV cs)));simp only[vq,lf,bD,bF];exact ae.bind (P6 ks t cs s) λa b=>ae.ret rfl|bw vs=>show ae s (vq ks t (.bw vs)) aM (lf ks t (.bw (fq vs)));simp only[vq,lf,bD,bF];exact ae.bind (Zn ks t vs s) λa b=>ae.ret rfl|undef=>exact ae.ai
def JC{d:M aD}:∀(ks:M aD)(a:M (M E))(os:M (M (Q E)))(s:bp),Holds d s ks a->Y ks<=Y os->(i6 a os).drop (Y ks)=(os.drop (Y ks)).map AL|[],[],os,s,_,_=>by simp[i6]|[],_::_,os,s,h,_=>aaY h|_::_,[],os,s,h,_=>aaY h|k::ks,b::a,[],s,_,c=>by simp at c|k::ks,b::a,o::os,s,h,c=>by simp only[i6,kL,List.drop_succ_cons];exact JC ks a os s h.2 (by simpa using c)
def JD{d:M aD}:∀(ks:M aD)(a:M (M E))(os:M (M (Q E)))(s:bp),Holds d s ks a->Y ks<=Y os->Y ks<=Y (i6 a os)|[],_,os,s,_,_=>fZ _|_::_,[],os,s,h,_=>aaY h|k::ks,b::a,[],s,_,c=>by simp at c|k::ks,b::a,o::os,s,h,c=>by simp only[i6,kL];have:=JD ks a os s h.2 (by simpa using c);omega
def akD(af:eR)(f:dS)(args:M aP)(t:U)(s:bp):ae s (PR af f args t) aM (H4 af.c f (args.map aM) t):=by
 unfold PR H4;show ae s _ _ (match(match af.fI t f with|some K=>J K.F|none=>O)with|none=>aw.ai|some F=>_)
 cases af.fI t f with
 |none=>exact ae.ai|some K=>
  simp only[bD,bF];refine ae.bind (Y7 af.c args s) λvs n=>?_;rw[P2,P1];refine ae.bind (Zj _ n) λmore k=>?_;refine ae.bind (Za _ vs k) λa m=>ae.YF (R:=λd g=>Holds (nb (oj (vs.flatMap aP.cells)++more)) g (nb (oj (vs.flatMap aP.cells)++more)) d) (P3 _ _ m) (Tr.oq (λx q=>by grind) (Zk _ _ m)) λd g b=>?_;cases o:K.eQ a d with
  |none=>exact ae.ai|some x=>
   refine ae.call λy hy=>?_;have p:=K.ok a d x y o hy;simp only[p];cases l:K.two with|false=>rw[K.one l y];show ae g (ym K _ a t x y W) aM _;unfold ym;simp only[bD];refine ae.bE λh=>?_;simp only[cr,iJ]at h;rw[cA (by simp only[jS];exact⟨JD _ _ _ _ b h.1,P5 h.2⟩)];rw[<-xh,JC _ _ _ _ b h.1];exact ae.bind (DZ _ _ d _ g h.1 (Ax _) b) λ_ i=>ae.bind (JA t _ 0 i) λ_ j=>P7 _ t _ j|true=>refine ae.br (λe=>?_) (λe=>?_);rw[e];unfold ym;simp only[bD];refine ae.bE λh=>?_;simp only[cr,iJ]at h;rw[cA (by simp only[jS];exact⟨JD _ _ _ _ b h.1,P5 h.2⟩)];rw[<-xh,JC _ _ _ _ b h.1];exact ae.bind (DZ _ _ d _ g h.1 (Ax _) b) λ_ i=>ae.bind (JA t _ 0 i) λ_ j=>P7 _ t _ j;rw[e];unfold ym;simp only[bD];refine ae.bE λh=>?_;simp only[cr,iJ]at h;rw[cA (by simp only[jS];exact⟨JD _ _ _ _ b h.1,P5 h.2⟩)];rw[<-xh,JC _ _ _ _ b h.1];exact ae.bind (DZ _ _ d _ g h.1 (Ax _) b) λ_ i=>ae.bind (JA t _ 0 i) λ_ j=>P7 _ t _ j
def akE(o:cD)(s:bp):ae s (Yt o) (λp=>(p.1,p.2.map aM)) (H6 o):=by
 have gen:∀o,ae s ((fT o).bind λc=>match c with|.dj f caps=>PE.ret (f,caps.map λp=>aP.one (.aX p.1 p.2))|_=>.ai) (λp=>(p.1,p.2.map aM)) ((dZ o).bind λc=>match c with|.dj f caps=>aw.ret (f,caps.map λp=>SV.one (.aX p.1 p.2))|_=>.ai):=by
  intro o;refine ae.bind (fW o s) λc a=>?_;cases c with
  |dj f caps=>exact ae.ret (by simp[aM,cE])|l m t xs=>cases m<;>exact ae.ai
  |n m t o=>cases m<;>cases o<;>exact ae.ai
  |_=>exact ae.ai
 cases o with|func f=>exact ae.ret rfl|tmp t=>exact gen (.tmp t)|const v=>exact gen (.const v)|global g=>exact gen (.global g)
def Zo(af:bO)(c:E)(r:aO):DN af c r=CW af (cE c) r:=by
 unfold DN CW;cases c with
 |l m t xs=>cases m<;>rfl
 |n m t o=>cases m<;>cases o<;>rfl
 |aX k off=>cases k<;>rfl
 |gW b=>cases b<;>rfl
 |it m t xs a=>cases m<;>rfl
 |_=>rfl
def Zp(self:aO×U)(u:cD)(c:E)(s:bp):ae s (DO self u c) cE (uH self u (cE c)):=by
 cases c with
 |l m t xs=>
  cases m with|bm r j hv cv k=>grind [DO,uH,cE,lC,DT,ae.ret]|_=>exact ae.ret rfl
 |n m t o=>
  cases m with
  |bm r j hv cv k=>
   simp only[DO];cases a:sz u r with
   |true=>
    cases o with|none=>exact DT (J self) (sz u) (.n (.bm r j hv cv k) t O) s|some xs=>grind [DT,uH,cE,lC]
   |false=>
    cases o with|none=>exact ae.ret rfl|some xs=>refine ae.Jt (ae.ret rfl) ?_;show(if sz u r=W then _ else _)=_;rw[aU (by simp[a])];rfl
  |_=>cases o<;>exact ae.ret rfl
 |gW b=>cases b<;>exact ae.ret rfl
 |it m t xs d=>cases m<;>first|exact ae.ret rfl|exact ae.ai
 |_=>exact ae.ret rfl
def P8(r:aO)(u:cD):∀(cs:M E)(i:U)(s:bp),ae s (AU r u i cs) aV (uI r u i (aV cs))|[],i,s=>ae.ret rfl|c::cs,i,s=>by show ae s (AU r u i (c::cs)) aV (uI r u i (cE c::aV cs));simp only[AU,uI,bD,bF];exact ae.bind (Zp _ u c s) λd a=>ae.bind (P8 r u cs (i+1) a) λb e=>ae.ret rfl
def Zq(r:aO)(u:cD):∀(vs:M (ay×M E))(i:U)(s:bp),ae s (DP r u i vs) fq (xE r u i (fq vs))|[],i,s=>ae.ret rfl|(b,cs)::vs,i,s=>by show ae s (DP r u i ((b,cs)::vs)) fq (xE r u i ((b,aV cs)::fq vs));simp only[DP,xE,bD,bF,rH];exact ae.bind (P8 r u cs i s) λd a=>ae.bind (Zq r u vs _ a) λc e=>ae.ret rfl
theorem P9(r:aO)(u:cD)(v:aP)(s:bp):ae s (rE r u v) aM (lR r u (aM v)):=by
 cases v with|one c=>show ae s (rE r u (.one c)) aM (lR r u (.one (cE c)));simp only[rE,lR,bD,bF];exact ae.bind (Zp _ u c s) λa b=>ae.ret rfl|agg cs=>show ae s (rE r u (.agg cs)) aM (lR r u (.agg (aV cs)));simp only[rE,lR,bD,bF];exact ae.bind (P8 r u cs 0 s) λa b=>ae.ret rfl|bw vs=>show ae s (rE r u (.bw vs)) aM (lR r u (.bw (fq vs)));simp only[rE,lR,bD,bF];exact ae.bind (Zq r u vs 0 s) λa b=>ae.ret rfl|undef=>exact ae.ai
def JE(o:Q cD)(s:bp):ae s (AV o) (λx=>x) (uJ o):=by
 cases o with|none=>exact ae.ret rfl|some o=>simp only[AV,uJ,bD,bF];exact ae.bind (fW o s) λc a=>ae.bind (sR c a) λn b=>ae.ret rfl
def Zr(b:ay)(vs:M aP)(s:bp):ae s (Jn b vs) aM (CX b (vs.map aM)):=by unfold Jn;split;cases b<;>exact ae.ret rfl;exact ae.ai
def Zs:∀{vs:M aP}{l:M (aD×U)},DQ vs=J l->(vs.map aM).mapM (λv=>match v with|.one (.aX k o)=>J (k,o)|_=>O)=J l
 |[],l,h=>by cases h;rfl
 |v::r,l,h=>by unfold DQ at h;split at h;rename_i p b h1 h2;cases h;have a:=Zs h2;rw[fc,List.mapM_cons,a];unfold Yu at h1;split at h1;cases h1;rfl;cases h1;cases h
def Zt:∀{a c:List D}(b d:List D),Y a=Y c->dF (a++b) (c++d)=(dF a c&&dF b d)|[],[],b,d,_=>by simp[dF]|x::a,y::c,b,d,h=>by simp[dF,Zt b d (by simpa using h),Bool.and_assoc]|[],_::_,_,_,h=>by simp at h|_::_,[],_,_,h=>by simp at h
def JF:∀{s t:List Sc}{a b:List D},cz s a=W->cz t b=W->cz (s++t) (a++b)=W
 |[],_,[],_,_,h=>h|k::s,t,x::a,b,h1,h2=>by cases k<;>cases x<;>simp only[cz,Bool.and_eq_true,Bool.false_eq_true]at h1;simp only[List.cons_append,cz,Bool.and_eq_true];exact⟨h1.1,JF h1.2 h2⟩;simp only[List.cons_append,cz];exact JF h1 h2;simp only[List.cons_append,cz];exact JF h1 h2
 |[],_,_::_,_,h,_=>by cases h
 |k::_,_,[],_,h,_=>by cases k<;>cases h
def sT:∀{k:Ty}{sh:List Sc}(x:k.T),pg k=some sh->cz sh (be k x)=W
 |.int k,sh,x,h=>by cases h;simp[be,cz]
 |.bool,sh,x,h=>by cases h;rfl
 |.bj,sh,x,h=>by cases h;rfl
 |.bJ a b,sh,x,h=>by simp only[pg]at h;split at h;rename_i s t h1 h2;cases h;exact JF (sT x.1 h1) (sT x.2 h2);cases h
 |.sl _,_,_,h=>by cases h
 |.cj _ _ _,_,_,h=>by cases h
 |.set _,_,_,h=>by cases h
def D0:∀{k:Ty}{sh:List Sc}(x y:k.T),pg k=some sh->dF (be k x) (be k y)=jx k x y
 |.int k,sh,x,y,h=>by simp[be,dF,jL,jx]|.bool,sh,x,y,h=>by simp[be,dF,jL,jx]|.bj,sh,x,y,h=>by simp[be,dF,jL,jx]|.bJ a b,sh,x,y,h=>by simp only[pg]at h;split at h;rename_i s t h1 h2;simp only[be,jx,Zt _ _ (by rw[jk,jk]:(be a x.1).length=(be a y.1).length),D0 x.1 y.1 h1,D0 x.2 y.2 h2];cases h
 |.sl _,_,_,_,h=>by cases h
 |.cj _ _ _,_,_,_,h=>by cases h
 |.set _,_,_,_,h=>by cases h
def Zu:∀{a c:List D}(b d:List D),Y a=Y c->o6 (a++b) (c++d)=(o6 a c||(dF a c&&o6 b d))
 |[],[],b,d,_=>by simp[o6,dF]|x::a,y::c,b,d,h=>by simp only[List.cons_append,o6,dF,Zu b d (by simpa using h:a.length=c.length)];cases Ah x y<;>cases jL x y<;>cases o6 a c<;>cases dF a c<;>rfl
 |[],_::_,_,_,h=>by simp at h|_::_,[],_,_,h=>by simp at h
def Qa(a b:D):o6 [a] [b]=Ah a b:=by simp[o6]
def Qb:∀{k:Ty}{sh:List Sc}(x y:k.T),pg k=some sh->o6 (be k x) (be k y)=ph k x y
 |.int k,sh,x,y,h=>by simp[be,Qa,Ah,ph]|.bool,sh,x,y,h=>by simp[be,Qa,Ah,ph]|.bj,sh,x,y,h=>by simp[be,Qa,Ah,ph]|.bJ a b,sh,x,y,h=>by simp only[pg]at h;split at h;rename_i s t h1 h2;simp only[be,ph,Zu _ _ (by rw[jk,jk]:(be a x.1).length=(be a y.1).length),Qb x.1 y.1 h1,Qb x.2 y.2 h2,D0 x.1 y.1 h1];cases h
 |.sl _,_,_,_,h=>by cases h
 |.cj _ _ _,_,_,_,h=>by cases h
 |.set _,_,_,_,h=>by cases h
section
variable{u:Bool}{k v:Ty}{sh:List Sc}(hk:pg k=some sh)
def D6(r:(Ty.cj u k v).T):(be (.cj u k v) r).take k.w=be k r.1:=by simp_all [be,jk]
theorem JG(r:(Ty.cj u k v).T):(be (.cj u k v) r).drop k.w=be v r.2:=by simp_all [be,jk]
include hk in
theorem D7(xs:List (Ty.cj u k v).T):lc sh k.w (xs.map (be (.cj u k v)))=W:=by simp_all [lc,D6,sT]
include hk in
theorem A6(x:k.T):∀(xs:List (Ty.cj u k v).T),(ew k.w (be k x) (xs.map (be (.cj u k v)))=O/\dr k x xs=O/\mF k x xs=Y xs/\(∀z,nn k x z xs=xs++[(x,z)])/\∀y,fV k x y xs=xs++[(x,y)])\/∃i r,ew k.w (be k x) (xs.map (be (.cj u k v)))=some i/\xs[i]?=some r/\dr k x xs=some r.2/\mF k x xs=i/\(∀z,nn k x z xs=xs)/\∀y,fV k x y xs=xs.set i (x,y)
 |[]=>.inl ⟨rfl,rfl,rfl,λ_=>rfl,λ_=>rfl⟩|r::xs=>by
  have e:dF (be k x) ((be (.cj u k v) r).take k.w)=jx k x r.1:=by rw[D6,D0 x r.1 hk]
  simp only[List.map_cons,ew,e,dr,mF,nn,fV];cases c:jx k x r.1 with
  |true=>exact .inr ⟨0,r,by simp,rfl,rfl,rfl,λ_=>rfl,λ_=>rfl⟩|false=>
   simp only[Bool.false_eq_true,ca];rcases A6 x xs with⟨h1,h2,h3,a,b⟩|⟨i,d,h1,h2,h3,a,b,f⟩
   grind;grind
include hk in
theorem Zv(x:k.T)(y:v.T):∀(xs:List (Ty.cj u k v).T),Ai k.w (be k x) (be k x++be v y) (xs.map (be (.cj u k v)))=(pi k x y xs).map (be (.cj u k v))
 |[]=>rfl|r::xs=>by
  have e:o6 (be k x) ((be (.cj u k v) r).take k.w)=ph k x r.1:=by rw[D6,Qb x r.1 hk]
  simp only[List.map_cons,Ai,e,pi];cases a:ph k x r.1 with|true=>rfl|false=>simp only[Bool.false_eq_true,ca,List.map_cons];rw[Zv x y xs]
include hk in
theorem Zw(xs:List (Ty.set k).T):lc sh k.w (xs.map (be (.set k)))=W:=by simp_all [lc,be,List.take_of_length_le,jk,sT]
include hk in
theorem Qc(x:k.T):∀(xs:List (Ty.set k).T),(ew k.w (be k x) (xs.map (be (.set k)))=O/\np k x xs=I/\oi k x xs=xs++[x])\/∃i r,ew k.w (be k x) (xs.map (be (.set k)))=some i/\xs[i]?=some r/\np k x xs=W/\oi k x xs=xs.set i x
 |[]=>.inl ⟨rfl,rfl,rfl⟩|r::xs=>by
  have e:dF (be k x) ((be (.set k) r).take k.w)=jx k x r:=by simp_all [be,List.take_of_length_le,jk,D0]
  simp only[List.map_cons,ew,e,np,oi];cases a:jx k x r with
  |true=>simp_all|false=>
   simp only[Bool.false_eq_true,ca];rcases Qc x xs with⟨h1,h2,h3⟩|⟨i,b,h1,h2,h3,c⟩
   grind;simp_all
end
def Ea{sh:List Sc}{ki ei:TI}{k v:Ty}{a:U}{b:Bool}(h:yk sh ki ei k v a b=W):pg k=some sh/\k.w=ki.size/\k.agg=ki.kind.agg/\a=ei.size/\b=ei.kind.agg:=by grind [yk]
def vC(v:aP):(aM v).isAgg=v.isAgg:=by cases v<;>rfl
theorem Zx:∀(ds:List D),jV (ds.map .d)=some ds|[]=>rfl|d::ds=>by simp[jV,Zx ds]
def Eb{k:Ty}{a:aP}{x:k.T}(h:yl k a=some x):(aM a).key=some (be k x)/\a.isAgg=k.agg:=by grind [yl,SV.key,vB,Jr,Zx]
theorem Zy(t:Ty){e:U}(a:t.e=e\/t.e=jU e)(r:aO)(j hv cv k:U)(xs:List t.T)(s:bp):ae s (Jd t r j hv) (List.map (be t)) (na e (cE (.l (.bm r j hv cv k) t xs))):=by
 unfold Jd;simp only[na,cE,lC];refine ae.aG ?_;simp only[bF];refine ae.bE λb=>?_;rw[cA (show(cL (s.aG r)).hv=hv/\(t.e=e\/t.e=jU e)from⟨(by simpa using b:(s.aG r).hv=hv),a⟩)];rw[kz];cases c:(s.aG r).at j with
 |l m t2 ys=>
  cases m with|bm=>exact ae.ai|_=>dsimp only;split;rename_i h;subst h;exact ae.ret rfl;exact ae.ai
 |n m t2 o=>
  cases m with|bm=>exact ae.ai|_=>dsimp only;split;rename_i h;subst h;exact ae.call λys hy=>(by subst hy;exact ae.ret rfl);exact ae.ai
 |_=>exact ae.ai
def JH(t:Ty){e:U}(b:t.e=e\/t.e=jU e)(c:E)(s:bp):ae s (sO t c) (List.map (be t)) (na e (cE c)):=by
 cases c with
 |cV f=>cases f<;>first|exact ae.ret rfl|exact ae.ai
 |l m d xs=>
  cases m with|ak=>exact ae.ai|data=>grind [sO,na,cE,lC,bF,cA,ae.ret,ae.ai]|bm r j hv cv k=>grind [sO,Zy,ae.ai]
 |n m d o=>
  cases m with
  |ak=>exact ae.ai|data=>simp only[sO];split;rename_i h;subst h;refine ae.call λxs a=>?_;subst a;simp only[na,cE,lC,bF];rw[cA b];exact ae.ret rfl;exact ae.ai
  |bm r j hv cv k=>simp only[sO];split;rename_i h;subst h;refine ae.call λxs a=>?_;subst a;exact Zy d b r j hv cv k xs s;exact ae.ai
 |_=>exact ae.ai
theorem Ec{ki ei:TI}{k v:Ty}(h1:k.w=ki.size)(h2:k.agg=ki.kind.agg)(h3:v.w=ei.size)(a:v.agg=ei.kind.agg):dn ki ei=(Ty.cj I k v).e:=by simp only[dn,Ty.e,h1,h2,h3,a]
def JI{ki ei:TI}{k v:Ty}(u:Bool)(h1:k.w=ki.size)(h2:k.agg=ki.kind.agg)(h3:v.w=ei.size)(a:v.agg=ei.kind.agg):(Ty.cj u k v).e=dn ki ei\/(Ty.cj u k v).e=jU (dn ki ei):=by cases u;grind [Ec];simp_all [dn,Ty.e]
def Ed{ki ei:TI}{k:Ty}(h1:k.w=ki.size)(h2:k.agg=ki.kind.agg)(h3:0=ei.size)(a:W=ei.kind.agg):dn ki ei=(Ty.set k).e:=by simp_all [dn,Ty.e]
def Zz{af:bO}{t kt:bv}{ki ei:TI}(h:jt af t=some (kt,ki,ei)):ki.size<32768/\ei.size<32768:=by grind [jt]
theorem ZA{af:bO}{t kt:bv}{ki ei:TI}(hm:jt af t=some (kt,ki,ei)){u:Bool}{k v:Ty}(h1:k.w=ki.size)(h2:k.agg=ki.kind.agg)(h3:v.w=ei.size)(c:v.agg=ei.kind.agg):hV (Ty.cj u k v).e=u:=by let⟨a,b⟩:=Zz hm;have d:=Ol a b;grind [jU,dn,Ty.e,hV,fN,Nat.ble_eq_true_of_le,zY]
theorem akF{af:bO}{t kt:bv}{ki ei:TI}(hm:jt af t=some (kt,ki,ei)){k:Ty}(h1:k.w=ki.size)(h2:k.agg=ki.kind.agg)(h3:0=ei.size)(a:W=ei.kind.agg):hV (Ty.set k).e=I:=by let⟨b,c⟩:=Zz hm;rw[<-Ed h1 h2 h3 a];exact uS b c
def akG(v:Ty)(y:v.T)(s:bp)(g:Bool)(e:v.agg=g):ae s (PB v y) aM (pY g (be v y)):=by
 unfold PB pY;have a:=kQ v y;subst e;cases v.agg with
 |true=>exact ae.ret (by simp only[aM,a])|false=>
  dsimp only;split;rename_i c b;rw[b]at a;match hy:be v y,a with|[d],a=>simp_all [aV,ae.ret,aM]|[],a=>simp[aV]at a|_::_::_,a=>simp[aV]at a
  exact ae.ai
def akH(af:eR)(t:bv)(c:E)(p:aP)(ok:Bool)(s:bp):ae s (PD af t c p ok) aM (jf af.c t (cE c) (aM p) ok):=by
 unfold PD;split;rename_i kt ki ei q;split;rename_i sh z u k v b j y;split;rename_i x l;simp only[bD];refine ae.bE λh=>?_;simp only[Bool.and_eq_true]at h;let⟨⟨h1,h2⟩,h3⟩:=h;let⟨hk,e,g,i,f⟩:=Ea h1;have m:=DY h2;let⟨n,o⟩:=Eb l;simp only[jf,q,b,j,n,bF];rw[cA ⟨sT x hk,by rw[jk,e],by rw[vC,o,g],by rw[m,jk,i],by grind⟩];refine ae.bind (JH (.cj u k v) (JI u e g i f) c s) λxs r=>?_;rw[cA (by grind [D7]),<-e,<-f];have a:iK k.w (xs.map (be (.cj u k v))) z (ew k.w (be k x) (xs.map (be (.cj u k v))))=be v (X (dr k x xs) v.zero)/\aad (ew k.w (be k x) (xs.map (be (.cj u k v))))=aad (dr k x xs):=by grind [A6,iK,JG]
 rw[a.1,a.2];cases ok with|true=>refine ae.ret ?_;show _=SV.bw [(v.agg,aV (eX v (X (dr k x xs) v.zero))),(I,[C.d (.bool (aad (dr k x xs)))])];rw[kQ]|false=>exact akG v _ r _ rfl
 exact ae.ai;rename_i sh k b j y;split;rename_i x l;simp only[bD];refine ae.bE λh1=>?_;let⟨hk,e,g,i,f⟩:=Ea h1;let⟨n,o⟩:=Eb l;simp only[jf,q,b,j,n,bF];rw[cA ⟨sT x hk,by rw[jk,e],by rw[vC,o,g],i,.inl f.symm⟩];refine ae.bind (JH (.set k) (.inl (Ed e g i f).symm) c s) λxs r=>?_;rw[cA (by grind [Zw]),<-e,<-f];have a:iK k.w (xs.map (be (.set k))) [] (ew k.w (be k x) (xs.map (be (.set k))))=[]/\aad (ew k.w (be k x) (xs.map (be (.set k))))=np k x xs:=by grind [Qc,iK,Ty.w,jk]
 rw[a.1,a.2];cases ok with|true=>exact ae.ret rfl|false=>exact ae.ret rfl
 exact ae.ai;exact ae.ai;exact ae.ai
def ZB{α β:Type}(t:Ty)(r:aO)(j hv:U)(cond:Q (List t.T->Bool))(F:List t.T->List t.T)(out:List t.T->α)(f:α->β)(s:bp)(p:U->Prop)[DecidablePred p]{b:U}(d:p b)(q:RV->U->List (List D)->aw β) (g:∀(x:RV)(ys:List t.T),(∀c,cond=some c->c ys=W)->q x t.e (ys.map (be t))=(eo r {x with cv:=x.cv+1,v:=x.v.setCell j (.ak t.e ((F ys).map (be t)))}).bind λ_=>.ret (f (out ys))):
  ae s (Jf t r j hv cond F out) f (.aG r λx=>(bU (x.hv=hv/\r.isArg=I/\p b)).bind λ_=>match x.at j with|.ak i ys=>q x i ys|_=>.ai):=by
 unfold Jf
 refine ae.aG ?_
 refine ae.bE λa=>?_
 simp only[Bool.and_eq_true,dK,Bool.not_eq_true']at a
 rw[cA (show(cL (s.aG r)).hv=hv/\r.isArg=I/\p b from⟨a.1,a.2,d⟩)]
 rw[kz]
 have fin:∀(ys:List t.T),ae s (Je t r j (s.aG r) cond F out ys) f (q (cL (s.aG r)) t.e (ys.map (be t))):=by
  intro ys;have put:(∀c,cond=some c->c ys=W)->ae s ((lr r {(s.aG r)with cv:=(s.aG r).cv+1,v:=(s.aG r).v.setCell j (.l .ak t (F ys))}).bind λ_=>.ret (out ys)) f (q (cL (s.aG r)) t.e (ys.map (be t))):=by intro k;rw[g _ ys k];refine ae.put a.2 ?_ (ae.ret rfl);simp only[cL,nr,cE,lC]
  unfold Je;grind [ae.cX]
 cases u:(s.aG r).at j with
 |l m t2 ys=>
  cases m with
  |ak=>dsimp only;split;rename_i h;subst h;exact fin ys;exact ae.ai
  |_=>exact ae.ai
 |n m t2 o=>
  cases m with
  |ak=>dsimp only;split;rename_i h;subst h;exact ae.call λys hy=>(by subst hy;exact fin ys);exact ae.ai
  |_=>exact ae.ai
 |_=>exact ae.ai
def Ee{α β:Type}(t:Ty)(c:E)(cond:Q (List t.T->Bool))(F:List t.T->List t.T)(out:List t.T->α)(f:α->β)(s:bp)(p:U->Prop)[DecidablePred p](b:p t.e)(q:aO->U->RV->U->List (List D)->aw β) (d:∀(r:aO)(j:U)(x:RV)(ys:List t.T),(∀c,cond=some c->c ys=W)->q r j x t.e (ys.map (be t))=(eo r {x with cv:=x.cv+1,v:=x.v.setCell j (.ak t.e ((F ys).map (be t)))}).bind λ_=>.ret (f (out ys))):
  ae s (vp t c cond F out) f (match cE c with
   |.bm r j hv _ e _ _=>.aG r λx=>(bU (x.hv=hv/\r.isArg=I/\p e)).bind λ_=>match x.at j with|.ak g ys=>q r j x g ys|_=>.ai
   |_=>.ai):=by
 cases c with
 |l m a xs=>
  cases m with
  |bm r j hv cv k=>simp only[vp];split;rename_i h;subst h;exact ZB a r j hv cond F out f s p b (q r j) (d r j);exact ae.ai
  |_=>exact ae.ai
 |n m a o=>
  cases m with
  |bm r j hv cv k=>simp only[vp];split;rename_i h;subst h;refine ae.call λxs i=>?_;subst i;exact ZB a r j hv cond F out f s p b (q r j) (d r j);exact ae.ai
  |_=>exact ae.ai
 |_=>exact ae.ai
def ZC(af:eR)(t:bv)(c:E)(C D:aP)(s:bp):ae s (PF af t c C D) (λ_=>()) (xA af.c t (cE c) (aM C) (aM D)):=by
 unfold PF;split;rename_i kt ki ei p;split;rename_i sh u k v n K;split;rename_i x N w o;simp only[bD];refine ae.bE λh=>?_;simp only[Bool.and_eq_true,dK]at h;let⟨⟨h1,h2⟩,h3⟩:=h;let⟨hk,b,f,g,l⟩:=Ea h1;let⟨z,A⟩:=Eb w;simp only[xA,p,n,z,vB,o,m6,bF];rw[cA ⟨sT x hk,by rw[jk,b],by rw[vC,A,f],by rw[rH,h3,g],by rw[vC,h2,l]⟩];refine ae.bind (DV N s) λds F=>?_;cases G:ls v ds with
 |none=>exact ae.ai|some y=>
  have hy:ds.map qm=be v y:=by grind [Jv]
  rw[hy];cases u with
  |false=>
   refine Ee (.cj I k v) c O (λxs=>fV k x y xs) (λ_=>()) (λ_=>()) F (λe=>e=dn ki ei\/e=jU (dn ki ei)) (JI I b f g l) (λr j a m ys=>(bU (lc sh ki.size ys=W)).bind λ_=>eo r {a with cv:=a.cv+1,v:=a.v.setCell j (.ak m (putRow (hV m) ki.size (be k x) (be v y) ys))}) ?_;intro r j a ys _;rw[cA (by grind [D7]),ZA (af:=af.c) p b f g l,<-b];show eo _ _=eo _ _;congr 4;simp only[putRow,CT];rcases A6 hk x ys with⟨d,_,_,_,B⟩|⟨i,H,d,_,_,_,_,q⟩
   rw[d,B];simp only[List.map_append,List.map_cons,List.map_nil];rfl;rw[d,q];simp only[List.map_set];rfl
  |true=>
   refine Ee (.cj W k v) c O (λxs=>PA k x y xs) (λ_=>()) (λ_=>()) F (λe=>e=dn ki ei\/e=jU (dn ki ei)) (JI W b f g l) (λr j a m ys=>(bU (lc sh ki.size ys=W)).bind λ_=>eo r {a with cv:=a.cv+1,v:=a.v.setCell j (.ak m (putRow (hV m) ki.size (be k x) (be v y) ys))}) ?_;intro r j a ys _;rw[cA (by grind [D7]),ZA (af:=af.c) p b f g l,<-b];show eo _ _=eo _ _;congr 4;simp only[putRow,H0,PA];rcases A6 hk x ys with⟨d,R,_⟩|⟨i,H,d,_,P,_,_,q⟩
   grind [Zv];rw[d,P,HD];simp only[q,List.map_set];rfl
 exact ae.ai;rename_i sh k n K;split;rename_i x w o;simp only[bD];refine ae.bE λh=>?_;simp only[Bool.and_eq_true]at h;let⟨h1,h2⟩:=h;let⟨hk,b,f,g,l⟩:=Ea h1;let⟨z,A⟩:=Eb w;simp only[xA,p,n,z,vB,o,m6,bF];rw[cA ⟨sT x hk,by rw[jk,b],by rw[vC,A,f],g,by rw[vC,h2,l]⟩];show ae s _ _ ((aw.ret []).bind _);refine Ee (.set k) c O (λxs=>oi k x xs) (λ_=>()) (λ_=>()) s (λe=>e=dn ki ei\/e=jU (dn ki ei)) (.inl (Ed b f g l).symm) (λr j a m ys=>(bU (lc sh ki.size ys=W)).bind λ_=>eo r {a with cv:=a.cv+1,v:=a.v.setCell j (.ak m (putRow (hV m) ki.size (be k x) [] ys))}) ?_;intro r j a ys _;rw[cA (by grind [Zw]),akF (af:=af.c) p b f g l,<-b];show eo _ _=eo _ _;congr 4;simp only[putRow,CT];rcases Qc hk x ys with⟨d,_,B⟩|⟨i,H,d,_,_,q⟩
 rw[d,B];simp only[List.map_append,List.map_cons,List.map_nil,List.append_nil];rfl;rw[d,q];simp only[List.map_set,List.append_nil];rfl;exact ae.ai;exact ae.ai;exact ae.ai
def ZD{u:Bool}{k v:Ty}(y:v.T):∀(n:U)(xs:List (Ty.cj u k v).T),n<Y xs->(pj y n xs).map (be (.cj u k v))=(xs.map (be (.cj u k v))).set n ((H (xs.map (be (.cj u k v))) n []).take k.w++be v y)|0,r::xs,_=>by simp only[pj,List.map_cons,List.set_cons_zero,List.getD_cons_zero,D6];rfl|n+1,r::xs,h=>by simp only[pj,List.map_cons,List.set_cons_succ,List.getD_cons_succ];rw[ZD y n xs (by simpa using h)]|_,[],h=>by simp at h
def akI(af:eR)(t:bv)(c st:E)(f:aP)(s:bp):ae s (PH af t c st f) (λ_=>()) (CU af.c t (cE c) (cE st) (aM f)):=by
 unfold PH;split;rename_i kt ki ei k v z n o p A d;simp only[bD];refine ae.bE λh=>?_;simp only[Bool.and_eq_true,dK]at h;let⟨⟨⟨⟨⟨g,q⟩,i⟩,l⟩,h2⟩,h3⟩:=h;simp only[CU,p,cE,vB,d,m6,bF];rw[cA ⟨by rw[rH,h3,i],by rw[vC,h2,l]⟩];refine ae.bind (DV o s) λds u=>?_;cases a:ls v ds with|none=>exact ae.ai|some y=>rw[show ds.map qm=be v y from Jv a];refine Ee (.cj I k v) c (some λxs=>decide (0<=n/\n<ah xs)) (λxs=>pj y (G n) xs) (λ_=>()) (λ_=>()) u (λe=>e=dn ki ei) (Ec g q i l).symm (λr j b w ys=>(bU (0<=n/\n<Y ys)).bind λ_=>eo r {b with cv:=b.cv+1,v:=b.v.setCell j (.ak w (ys.set (G n) ((H ys (G n) []).take ki.size++be v y)))}) ?_;intro r j b ys x;have m:=jJ (x _ rfl);simp only[ah]at m;rw[cA (by simpa using m),<-g,ZD y (G n) ys (by omega)];rfl
 exact ae.ai
def akJ(af:eR)(t:bv)(c:E)(u:aP)(s:bp):ae s (PG af t c u) aM (xB af.c t (cE c) (aM u)):=by
 unfold PG;split;rename_i kt ki ei D;split;rename_i sh z k v l F R;split;rename_i x G;simp only[bD];refine ae.bE λh=>?_;simp only[Bool.and_eq_true]at h;let⟨⟨h1,h2⟩,h3⟩:=h;let⟨hk,m,y,A,B⟩:=Ea h1;have a:=DY h2;let⟨H,K⟩:=Eb G;simp only[xB,D,l,F,H,bF];rw[cA ⟨sT x hk,by rw[jk,m],by rw[vC,K,y],by rw[a,jk,A],by grind⟩];refine Ee (.cj I k v) c O (λxs=>nn k x v.zero xs) _ aM s (λe=>e=dn ki ei) (Ec m y A B).symm (λr j f N xs=>(bU (lc sh ki.size xs=W)).bind λ_=>(eo r {f with cv:=f.cv+1,v:=f.v.setCell j (.ak N (if(aad (ew ki.size (be k x) xs))=W then xs else xs++[be k x++z]))}).bind λ_=>.ret (.bw [(ei.kind.agg,(iK ki.size xs z (ew ki.size (be k x) xs)).map .d),(I,[.d (.int .i64 (X (ew ki.size (be k x) xs) (Y xs):U))])])) ?_;intro r j f ys _;rw[cA (by grind [D7]),<-m,<-B];rcases A6 hk x ys with⟨n,o,p,q,_⟩|⟨i,g,n,o,p,q,P,_⟩
 rw[n,o,p,q,a];simp only[Option.isSome_none,Bool.false_eq_true,ca,iK,List.map_append,List.map_cons,List.map_nil,agN,List.length_map];congr 1;funext _;show aw.ret (SV.bw [(v.agg,(be v v.zero).map C.d),(I,[C.d (.int .i64 (Y ys))])])=aw.ret (SV.bw [(v.agg,aV (eX v v.zero)),(I,[C.d (.int .i64 (Y ys))])]);rw[kQ];rw[n,p,q,P];simp only[HD,bH,fk];congr 1;funext _;have b:iK k.w (ys.map (be (.cj I k v))) z (some i)=be v g.2:=by simp only[iK,List.getD_eq_getElem?_getD,List.getElem?_map,o,m6,fk];exact JG g
 rw[b];show aw.ret (SV.bw [(v.agg,(be v g.2).map C.d),(I,[C.d (.int .i64 i)])])=aw.ret (SV.bw [(v.agg,aV (eX v g.2)),(I,[C.d (.int .i64 i)])]);rw[kQ];exact ae.ai;exact ae.ai;exact ae.ai
def akK(af:eR)(t:bv)(dst:U)(s:bp):ae s (PJ af t dst) aM (CV af.c t dst):=by
 unfold PJ;split;rename_i kt ki ei u k v d l;simp only[bD];refine ae.bE λh=>?_;simp only[Bool.and_eq_true,dK]at h;let⟨⟨⟨⟨f,g⟩,i⟩,j⟩,b⟩:=h;simp only[CV,d];have a:aa1 af.c.un dst=u:=b.symm;grind [ae.ret,aM,cE,lC,CN,Ty.e,dn];rename_i kt ki ei k d l;simp only[bD];refine ae.bE λh=>?_;simp only[Bool.and_eq_true,dK]at h;let⟨⟨⟨⟨f,g⟩,i⟩,j⟩,b⟩:=h;simp only[CV,d];have a:aa1 af.c.un dst=I:=by rw[Bool.not_eq_true']at b;exact b
 rw[a];exact ae.ret (by simp only[aM,cE,lC,Ed f g i j,List.map_nil,CN]);exact ae.ai
def akL(af:eR)(t:bv)(c:E)(s:bp):ae s (PP af t c) aM (Aj af.c t (cE c)):=by unfold PP;split;rename_i kt ki ei u k v a g;simp only[bD];refine ae.bE λh=>?_;simp only[Bool.and_eq_true,dK]at h;let⟨⟨⟨b,d⟩,e⟩,f⟩:=h;simp only[Aj,a,bF];exact ae.bind (JH _ (JI u b d e f) c s) λxs i=>ae.ret (by simp[gJ,fU,aM,cE,ah]);rename_i kt ki ei k a g;simp only[bD];refine ae.bE λh=>?_;simp only[Bool.and_eq_true,dK]at h;let⟨⟨⟨b,d⟩,e⟩,f⟩:=h;simp only[Aj,a,bF];exact ae.bind (JH _ (.inl (Ed b d e f).symm) c s) λxs i=>ae.ret (by simp[gJ,fU,aM,cE,ah]);exact ae.ai
def akM:fN nS=W:=rfl
def akN(af:eR)(t:bv)(c:E)(s:bp):ae s (PK af t c) aM (H1 af.c t (cE c)):=by
 unfold PK;split;rename_i kt ki ei k v j n;simp only[bD];refine ae.bE λh=>?_;simp only[Bool.and_eq_true,dK]at h;let⟨⟨⟨a,b⟩,f⟩,g⟩:=h;simp only[H1,j,bF];refine ae.bind (vA c s) λd i=>?_;split;rename_i l xs;split;rename_i h;subst h
 show ae i _ aM (match D.sl (Ty.cj I k v).e (xs.map (be (Ty.cj I k v)))with|.sl e xs=>(bU (e=dn ki ei)).bind λ_=>.ret (.one (.ak nS [[.sl e xs],[]]))|_=>.ai)
 simp only[];rw[cA (Ec a b f g).symm];exact ae.ret rfl;exact ae.ai;rename_i l o;split;rename_i h;subst h;refine ae.call λxs m=>?_;subst m
 show ae i _ aM (match D.sl (Ty.cj I k v).e (xs.map (be (Ty.cj I k v)))with|.sl e xs=>(bU (e=dn ki ei)).bind λ_=>.ret (.one (.ak nS [[.sl e xs],[]]))|_=>.ai)
 simp only[];rw[cA (Ec a b f g).symm];exact ae.ret rfl;exact ae.ai;exact ae.ai;exact ae.ai
theorem ZE{u:Bool}{k v:Ty}(h:DF u k v=W)(r:(Ty.cj u k v).T):fq (DE k v r)=pZ (Ty.cj u k v).e (be (.cj u k v) r):=by simp_all [DF,pZ,D6,JG,fq,DE,kQ]
def akO{t:Ty}(xs:List t.T)(i:U)(d:t.T)(h:i<Y xs):H (xs.map (be t)) i []=be t (H xs i d):=by grind
def akP(c:E)(s:bp):ae s (PN c) aM (H3 (cE c)):=by
 cases c with
 |it m t0 d f=>
  cases m with
  |bm r j hv cv g=>
   simp only[PN,H3,cE,mC,bD,bF];refine ae.aG ?_;refine ae.bE λa=>?_;simp only[Bool.and_eq_true,dK,Bool.not_eq_true']at a;rw[cA (show(cL (s.aG r)).hv=hv/\r.isArg=I/\fN nS=W from⟨a.1,a.2,rfl⟩)];rw[kz];cases h:(s.aG r).at j with
   |it m t xs b=>
    cases m with
    |ak=>
     cases t with
     |cj u k v=>
      cases b with|nil=>exact ae.ai|cons i b=>dsimp only;refine ae.bE λh1=>?_;refine ae.cX λh2=>?_;have h2:=(c7 _ _).1 h2;show ae s _ aM ((bU (0<=(i:L)/\G ((i:L))<Y ((xs.map (be (Ty.cj u k v))):List (List D)))).bind λ_=>.ret (.bw (pZ (Ty.cj u k v).e (H (xs.map (be (Ty.cj u k v))) (G ((i:L))) []))));rw[cA ⟨by omega,by simpa using h2⟩];refine ae.ret ?_;show _=SV.bw (fq (DE k v _));grind [ZE]
     |_=>exact ae.ai
    |_=>exact ae.ai
   |_=>exact ae.ai
  |_=>exact ae.ai
 |_=>exact ae.ai
def akQ(c a b:cD)(s:bp):ae s ((fT c).bind λc'=>match c' with|.tt=>fh a|.ff=>fh b|.b x=>.br x ((gy c W).bind λ_=>fh a) ((gy c I).bind λ_=>fh b)|_=>.ai) aM ((dZ c).bind λc'=>(Af c').bind λd=>if d=W then ev a else ev b):=by
 have i:∀(c':E)(s':bp),(∀t,c≠.tmp t)->ae s' (match c' with
  |.tt=>fh a|.ff=>fh b|.b x=>.br x ((gy c W).bind λ_=>fh a) ((gy c I).bind λ_=>fh b)|_=>.ai) aM ((Af (cE c')).bind λd=>if d=W then ev a else ev b):=by
  intro c' s' g
  have e:∀b,gy c b=.ret ():=by
   intro b;cases c with|tmp t=>exact cJ rfl (g t)|_=>rfl
  cases c' with
  |tt=>exact fR a s'|ff=>exact fR b s'|b x=>simp only[e,YH];refine ae.br (λh=>?_) λh=>?_;subst h;exact fR a s';subst h;exact fR b s'|l m t xs=>cases m<;>exact ae.ai
  |n m t o=>cases m<;>cases o<;>exact ae.ai
  |_=>exact ae.ai
 cases c with
 |tmp t=>
  have j:fT (.tmp t)=.aG (.tmp t) λx=>(match x.v with|.undef=>PE.ai|_=>.ret (x.gq (.tmp t))).bind O7:=rfl
  have k:dZ (.tmp t)=.aG (.tmp t) λx=>(match x.v with|.undef=>aw.ai|_=>.ret (x.gq (.tmp t))).bind Ae:=rfl
  rw[j,k];refine ae.aG ?_;dsimp only;have g:=copy_eq (s.aG (.tmp t)) (.tmp t);cases hv:(s.aG (.tmp t)).v with
  |undef=>exact ae.ai|agg cs=>have h1:(s.aG (.tmp t)).gq (.tmp t)=.agg (yf (.tmp t) (s.aG (.tmp t)) 0 cs):=(by unfold dP.gq;rw[hv]);rw[h1];exact ae.ai|bw cs=>have h1:(s.aG (.tmp t)).gq (.tmp t)=.bw (Dw (.tmp t) (s.aG (.tmp t)) 0 cs):=(by unfold dP.gq;rw[hv]);rw[h1];exact ae.ai|one c0=>
   have h1:(s.aG (.tmp t)).gq (.tmp t)=.one (vj (.tmp t) (s.aG (.tmp t)) 0 c0):=(by unfold dP.gq;rw[hv]);have h2:(cL (s.aG (.tmp t))).gq (.tmp t)=.one (cE (vj (.tmp t) (s.aG (.tmp t)) 0 c0)):=(by rw[<-g,h1];rfl);have h3:(cL (s.aG (.tmp t))).v=.one (cE c0):=(by simp only[cL,hv,aM]);rw[h1,h2,h3];show ae s ((PE.ret (vj (.tmp t) (s.aG (.tmp t)) 0 c0)).bind _) _ ((aw.ret (cE (vj (.tmp t) (s.aG (.tmp t)) 0 c0))).bind _);rw[YH];show ae s _ _ ((Af (cE (vj (.tmp t) (s.aG (.tmp t)) 0 c0))).bind λd=>if d=W then ev a else ev b);cases c0 with
   |tt=>exact fR a s|ff=>exact fR b s|b x=>refine ae.br (λh=>?_) λh=>?_;have:=ae.gy (s:=s) (p:=fh a) (f:=aM) (q:=ev a) hv h (fR a _);subst h;exact this;have:=ae.gy (s:=s) (p:=fh b) (f:=aM) (q:=ev b) hv h (fR b _);subst h;exact this|l m t xs=>cases m<;>exact ae.ai
   |n m t o=>cases m<;>cases o<;>exact ae.ai
   |it m t xs u=>cases m<;>exact ae.ai
   |_=>exact ae.ai
 |_=>exact ae.bind (fW _ s) λc' r=>i c' r (by intro t h;cases h)
def akR(af:eR)(t:bv)(dst:U)(s:bp):ae s (fi af (.alloc t) dst) aM (cq af.c (.alloc t) dst):=by
 simp only[fi,cq];split;rename_i size bytes kind z h;simp only[h,bD,bF];refine ae.bE λa=>?_;rw[cA (by simpa using a)];refine ae.aG ?_;cases hv:(s.aG (.box (.az dst))).v with
 |undef=>
  simp only[cL,hv,aM];cases b:yj z with|none=>exact ae.ai|some cs=>simp only[P4,Jz];refine ae.put rfl ?_ (ae.ret rfl);simp only[cL,aM,Jx b]
 |_=>simp only[cL,hv,aM];exact ae.ai
 exact ae.ai
def akS(af:eR)(t:bv)(x:cD)(dst:U)(s:bp):ae s (fi af (.box t x) dst) aM (cq af.c (.box t x) dst):=by
 simp only[fi,cq,bD,bF];refine ae.bind (fR x s) λv a=>?_;rw[vB];cases v.fK with
 |none=>exact ae.ai|some cs=>
  simp only[m6];have e:DN af.c (.aX (.az dst) 0)=CW af.c (.aX (.az dst) 0):=by funext r;exact Zo _ _ _
  rw[e];refine ae.bind (DU _ _ cs 0 a) λb d=>ae.aG ?_;cases hv:(d.aG (.box (.az dst))).v with|undef=>simp only[cL,hv,aM,P4,Jz];exact ae.put rfl rfl (ae.ret rfl)|_=>simp only[cL,hv,aM];exact ae.ai
def akT(af:eR)(op:jR)(t:bv)(x y:cD)(a:bv)(dst:U)(s:bp):ae s (fi af (.binOp op t x y a) dst) aM (cq af.c (.binOp op t x y a) dst):=by simp only[fi,cq,bD,bF];refine ae.bind (fR x s) λv b=>ae.bind (fR y b) λu d=>?_;cases v<;>cases u<;>first|exact aj9 _ _ _ _ _ _|exact aka _ _ _ _ _ _|exact ae.ai
def akU(af:eR)(op:UnOp)(t:bv)(x:cD)(dst:U)(s:bp):ae s (fi af (.unOp op t x) dst) aM (cq af.c (.unOp op t x) dst):=by
 simp only[fi,cq,bD,bF];refine ae.bind (fW x s) λc a=>?_;cases c with
 |l m t xs=>cases m<;>cases op<;>exact ae.ai
 |n m t o=>cases m<;>cases o<;>cases op<;>exact ae.ai
 |i k n=>cases op<;>first|exact ae.ret rfl|exact YS _ _ _ _ _|exact ae.ai
 |_=>cases op<;>first|exact ae.ret rfl|exact ae.ai
def akV(af:eR)(f:Fn)(first captured:bZ cD)(dst:U)(s:bp):ae s (fi af (.makeFunc f first captured) dst) aM (cq af.c (.makeFunc f first captured) dst):=by
 cases f with
 |func f=>
  simp only[fi,cq,bD,bF];refine ae.bE λh=>?_;rw[cA (by grind)];refine ae.bind (DS _ s) λvs b=>?_;cases a:DQ vs with
  |none=>exact ae.ai|some l=>
   have:=cb (λo:Q (M (aD×U))=>match o with|some l=>aw.ret (SV.one (.dj f l))|none=>.ai) (Zs a)
   exact ae.Jt (ae.ret rfl) this
 |_=>exact ae.ai
def akW(af:eR)(t:bv)(x:cD)(lo hi a:Q cD)(dst:U)(s:bp):ae s (fi af (.slice t x lo hi a) dst) aM (cq af.c (.slice t x lo hi a) dst):=by
 cases a with|some m=>exact ae.ai|none=>simp only[fi,cq];split;rename_i h;simp only[h,bD,bF];exact ae.bind (fR x s) λv b=>ae.bind (JE lo b) λl d=>ae.bind (JE hi d) λh e=>aks _ _ _ e;rename_i h;simp only[h];split;rename_i h2;simp only[h2,bD,bF];exact ae.bind (fR x s) λv b=>ae.bind (JE lo b) λl d=>ae.bind (JE hi d) λh e=>akt _ _ _ _ e;exact ae.ai;exact ae.ai
def akX(af:eR)(t:bv)(x:cD)(f:U)(dst:U)(s:bp):ae s (fi af (.field t x f) dst) aM (cq af.c (.field t x f) dst):=by simp only[fi,cq,bD,bF];refine ae.bind (fR x s) λv a=>?_;grind [aM,DX,ae.ai]
def akY(af:eR)(x:cD)(n:U)(dst:U)(s:bp):ae s (fi af (.extract x n) dst) aM (cq af.c (.extract x n) dst):=by
 simp only[fi,cq,bD,bF];refine ae.bind (fR x s) λv a=>?_;cases v with
 |bw vs=>
  simp only[aM];have d:(fq vs)[n]?=(vs[n]?).map λp=>(p.1,aV p.2):=by simp[fq]
  rw[d];cases vs[n]? with
  |none=>exact ae.ai|some p=>
   let⟨b,cs⟩:=p;cases b with
   |true=>exact P9 _ _ (.agg cs) a|false=>
    cases cs with|nil=>exact ae.ai|cons c r=>cases r<;>first|exact P9 _ _ (.one c) a|exact ae.ai
 |_=>exact ae.ai
def akZ(af:eR)(c:Call)(dst:U)(s:bp):ae s (fi af (.call c) dst) aM (cq af.c (.call c) dst):=by
 let⟨callee,args,g⟩:=c;cases callee with
 |value o=>simp only[fi,cq,bD,bF];refine ae.bind (akE o s) λp a=>ae.bind (DS _ a) λvs d=>?_;have:=akD af p.1 (vs++p.2) dst d;grind|invoke r m=>exact ae.ai|builtin b=>
  cases b with
  |len=>simp only[fi,cq];split;rename_i h1 h2;simp only[h1,h2];split;rename_i h3;simp only[h3,bD,bF];exact ae.bind (fR _ s) λv a=>YZ _ _ a;rename_i h3;simp only[h3,bD,bF];exact ae.bind (fR _ s) λv a=>YZ _ _ a;rename_i h3;simp only[h3,bD,bF];exact ae.bind (fW _ s) λv a=>akL _ _ _ a;exact ae.ai;exact ae.ai
  |append=>simp only[fi,cq];split;rename_i h1 h2;simp only[h1,h2];split;rename_i h3;simp only[h3];split;rename_i h j;simp only[h];split;rename_i f;simp only[f,bD,bF];refine ae.bind (fW _ s) λc a=>ae.bind (fW _ a) λi d=>?_;exact ae.bind (sR _ d) λn e=>akq _ _ _ _ e;rename_i f;split;grind;simp only[bD,bF];exact ae.bind (fW _ s) λc a=>ae.bind (fW _ a) λi d=>ae.bind (akr _ _ _ _ _ d) λys e=>ako _ _ _ _ _ e;exact ae.ai;exact ae.ai;exact ae.ai
  |cap=>simp only[fi,cq];split;rename_i h1 h2;simp only[h1,h2];split;rename_i h3;simp only[h3,bD,bF];exact ae.bind (fW _ s) λc a=>akp _ a;exact ae.ai;exact ae.ai
  |min=>simp only[fi,cq,bD,bF];exact ae.bind (DS _ s) λvs a=>Zr _ _ a|max=>simp only[fi,cq,bD,bF];exact ae.bind (DS _ s) λvs a=>Zr _ _ a|_=>exact ae.ai
def ak0(af:eR)(op:Op)(dst:U)(s:bp):ae s (fi af op dst) aM (cq af.c op dst):=by
 cases op with
 |move x=>simp only[fi,cq,bD,bF];refine ae.bind (fR x s) λv d=>?_;grind [ae.ret,P9]|assign x=>simp only[fi,cq,bD,bF];exact ae.bind (fR x s) λv d=>YQ _ _ v d|pick c a b=>exact akQ c a b s|alloc t=>exact akR af t dst s|box t x=>exact akS af t x dst s|build t ps=>exact akj _ _ _ s|buildSlice t len ps=>exact akk _ _ _ _ s|load t a=>simp only[fi,cq];split;rename_i h;simp only[h,bD,bF];exact ae.bind (fW a s) λc d=>YT _ _ d;exact ae.ai
 |nilCheck x=>
  simp only[fi,cq,bD,bF];refine ae.bind (fW x s) λc d=>?_;cases c with
  |l m t xs=>cases m<;>exact ae.ai
  |n m t o=>cases m<;>cases o<;>exact ae.ai
  |_=>first|exact ae.ret rfl|exact ae.ai
 |binOp op t x y q=>simp_all [akT]|unOp op t x=>exact akU af op t x dst s|convert a b x=>simp only[fi,cq,bD,bF];exact ae.bind (fR x s) λv d=>aku _ _ _ _ d|makeFunc f a b=>exact akV af f a b dst s|makeSlice t l c=>simp only[fi,cq,bD,bF];exact ae.bind (fW l s) λv d=>ae.bind (sR v d) λn e=>ae.bind (fW c e) λu i=>ae.bind (sR u i) λm p=>akl _ _ _ _ p|slice t x z A B=>simp_all [akW]|fieldAddr t x f=>simp only[fi,cq,bD,bF];exact ae.bind (fW x s) λv d=>ae.bind (ake _ _ _ _ d) λu e=>ae.ret rfl|field t x f=>exact akX af t x f dst s|indexAddr t x j=>
  cases x with|global g=>simp only[fi,cq,bD,bF];exact ae.bind (fW j s) λu e=>ae.bind (sR u e) λn i=>ae.bind (akf _ _ _ _ i) λw p=>ae.ret rfl|tmp y=>simp only[fi,cq,bD,bF];exact ae.bind (fW _ s) λv d=>ae.bind (fW j d) λu e=>ae.bind (sR u e) λn i=>ae.bind (PX _ _ _ _ i) λw p=>ae.ret rfl|const y=>simp only[fi,cq,bD,bF];exact ae.bind (fW _ s) λv d=>ae.bind (fW j d) λu e=>ae.bind (sR u e) λn i=>ae.bind (PX _ _ _ _ i) λw p=>ae.ret rfl|func y=>simp only[fi,cq,bD,bF];exact ae.bind (fW _ s) λv d=>ae.bind (fW j d) λu e=>ae.bind (sR u e) λn i=>ae.bind (PX _ _ _ _ i) λw p=>ae.ret rfl
 |index t x j=>simp only[fi,cq,bD,bF];exact ae.bind (fR x s) λv d=>ae.bind (fW j d) λu e=>ae.bind (sR u e) λn i=>akh _ _ _ _ i|extract x n=>exact akY af x n dst s|makeMap t r=>
  cases r with|none=>exact akK af t dst s|some r=>exact ae.ai
 |range t x=>simp only[fi,cq,bD,bF];exact ae.bind (fW x s) λc d=>akN af t c d|entry x=>simp only[fi,cq,bD,bF];exact ae.bind (fW x s) λc d=>akP c d|lookup t x j ok=>simp only[fi,cq,bD,bF];exact ae.bind (fW x s) λc d=>ae.bind (fR j d) λv e=>akH af t c v ok e|mapEntry t m k=>simp only[fi,cq,bD,bF];exact ae.bind (fW m s) λc d=>ae.bind (fR k d) λv e=>akJ af t c v e|call c=>exact akZ af c dst s|_=>exact ae.ai
def ZF(af:eR)(t:U)(v:aP)(s:bp):ae s (AW af t v) (λ_=>()) (jW af.c t (aM v)):=by simp only[AW,jW,bD,bF];refine ae.aG (ae.bE λh=>?_);rw[cA (p:=t<af.c.N) ((c7 _ _).1 h)];exact ae.put rfl rfl (ae.ret rfl)
theorem JJ(af:eR)(o:cR)(s:bp):ae s (om af o) (λ_=>()) (mA af.c o):=by
 let⟨g,op,h,pos,after,guard⟩:=o;cases g with
 |some d=>
  have i:om af ⟨J d,op,h,pos,after,guard⟩=(fi af op d).bind λv=>AW af d v:=by cases op<;>rfl
  have j:mA af.c ⟨J d,op,h,pos,after,guard⟩=(cq af.c op d).bind λv=>jW af.c d v:=by cases op<;>rfl
  rw[i,j];exact ae.bind (ak0 af op d s) λv b=>ZF af d v b
 |none=>
  cases op with
  |store t a x=>simp only[om,mA];split;rename_i h3;simp only[h3,bD,bF];exact ae.bind (fW _ s) λc b=>ae.bind (fR _ b) λv e=>akd _ _ (funext λr=>Zo _ _ _) _ _ _ e;exact ae.ai
  |mapUpdate t m k x=>simp only[om,mA,bD,bF];exact ae.bind (fW _ s) λc b=>ae.bind (fR _ b) λv e=>ae.bind (fR _ e) λu f=>ZC _ _ _ _ _ f|insert t m k x=>simp only[om,mA,bD,bF];exact ae.bind (fW _ s) λc b=>ae.bind (fR _ b) λv e=>ae.bind (fR _ e) λu f=>ZC _ _ _ _ _ f|entryStore t m st x=>simp only[om,mA,bD,bF];exact ae.bind (fW _ s) λc b=>ae.bind (fW _ b) λv e=>ae.bind (fR _ e) λu f=>akI _ _ _ _ _ f|_=>exact ae.ai
def ak1(af:eR)(e:bZ cR)(o:cR)(s:bp):ae s (Jo af e o) (λ_=>()) (nc af.c e o):=by
 unfold Jo nc;cases o.guard with
 |none=>exact JJ af o s|some p=>
  let⟨j,a⟩:=p;have f:∀s',ae s' (match o.dst with|some d=>AW af d (.bw [])|none=>PE.ret ()) (λ_=>()) (match o.dst with|some d=>jW af.c d (.bw [])|none=>aw.ret ()):=by
   intro s';cases o.dst with|none=>exact ae.ret rfl|some d=>exact ZF af d (.bw []) s'
  simp only[bF];unfold NT;cases(e[j]?).bind (·.dst)with
  |none=>exact ae.ai|some t=>
   refine ae.aG ?_;dsimp only;cases hv:(s.aG (.tmp t)).v with
   |undef=>exact ae.ai|agg cs=>exact ae.ai|bw cs=>
    cases cs with|cons=>exact ae.ai|nil=>have h3:(cL (s.aG (.tmp t))).v=.bw []:=(by simp only[cL,hv,aM];rfl);rw[h3];show ae s _ _ (if O=J a then mA af.c o else _);grind
   |one c=>
    have h3:(cL (s.aG (.tmp t))).v=.one (cE c):=(by simp only[cL,hv,aM]);rw[h3];cases c with
    |tt=>
     show ae s (match a with|true=>om af o|false=>_) _ (if J W=J a then mA af.c o else _)
     grind [JJ]
    |ff=>
     show ae s (match a with|true=>_|false=>om af o) _ (if J I=J a then mA af.c o else _)
     grind [JJ]
    |b x=>
     show ae s (match a with|true=>PE.br x _ _|false=>PE.br x _ _) _ (if J x=J a then mA af.c o else _)
     grind [ae.br,ae.gy,JJ]
    |l m t xs=>cases m<;>exact ae.ai
    |n m t o=>cases m<;>cases o<;>exact ae.ai
    |_=>exact ae.ai
def qn:M (M aO×M aO)->M (M aO×M aO)->Prop|[],[]=>dL|a::l,b::m=>(∀r∈a.1,r∈b.1)/\(∀r∈a.2,r∈b.2)/\qn l m|_,_=>jc
theorem qn.length:∀{l m:M (M aO×M aO)},qn l m->Y l=Y m|[],[],_=>rfl|_::_,_::_,h=>by simp only[kL,qn.length h.2.2]|[],_::_,h=>aaY h|_::_,[],h=>aaY h
theorem qn.getD:∀{l m:M (M aO×M aO)},qn l m->∀i,(∀r∈(H l i ([],[])).1,r∈(H m i ([],[])).1)/\∀r∈(H l i ([],[])).2,r∈(H m i ([],[])).2|[],[],_,i=>⟨λ_ h=>h,λ_ h=>h⟩|_::_,_::_,h,0=>⟨h.1,h.2.1⟩|_::_,_::_,h,i+1=>by simpa using qn.getD h.2.2 i|[],_::_,h,_=>aaY h|_::_,[],h,_=>aaY h
def ak2{a b c d:M aO×M aO}(h:indep c d=W)(h1:∀r∈a.1,r∈c.1)(h2:∀r∈a.2,r∈c.2)(h3:∀r∈b.1,r∈d.1)(e:∀r∈b.2,r∈d.2):indep a b=W:=by grind [indep]
def ak3{c:bZ cR}{i j:U}{a b d e:M aO×M aO}(h:apart c d e i j=W)(h1:∀r∈a.1,r∈d.1)(h2:∀r∈a.2,r∈d.2)(h3:∀r∈b.1,r∈e.1)(f:∀r∈b.2,r∈e.2):apart c a b i j=W:=by
 unfold apart at h ⊢;rw[pP]at h ⊢;rcases h with h|h
 exact .inl (ak2 h h1 h2 h3 f);right;unfold IM at h ⊢;grind
def qn.pairs{a:bZ cR}{l m:M (M aO×M aO)}(h:qn l m){b:M (M U)}(c:xX a m b=W):xX a l b=W:=by
 simp only[xX,gT,List.mem_range,pP]at c ⊢;intro j d i e;rcases c j (by rw[<-h.length];exact d) i e with q|q
 exact .inl q;exact .inr (ak3 q (h.getD i).1 (h.getD i).2 (h.getD j).1 (h.getD j).2)
def ZG(af:eR)(b:bZ cR):∀(l:M cR)(s:bp),(rF af b l s).box λx=>∃d,xY af.c b l (dG s)=J (dG x.1,d)/\qn d x.2|[],s=>⟨[],rfl,trivial⟩|o::r,s=>by simp only[rF];rw[Tr.vr];refine Tr.oq ?_ (ak1 af b o s);rintro ⟨a,s',f,g⟩ ⟨fr,j,h,e,i⟩;simp only at h e i ⊢;rw[Tr.vr];refine Tr.oq ?_ (ZG af b r s');rintro ⟨k,l⟩ ⟨d,h2,h3⟩;simp only at h2 h3 ⊢;exact⟨(fr,j)::d,by simp only[xY,h,h2],e,i,h3⟩
end Go.Ve
