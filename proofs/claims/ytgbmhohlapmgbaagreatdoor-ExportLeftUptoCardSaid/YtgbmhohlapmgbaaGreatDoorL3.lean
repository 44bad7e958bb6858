/- The statement ExportLeftUptoCardSaid of the given program is proved here: for every input whose bulk is at most the bound of its row, the law returns true and changes nothing. Part 3 of 7. -/
import Derived.SevenTiedAt
import Derived.Stop.Joined
import Derived.Below
import Derived.Test.YtgbmhohlapmgbaaGreatDoorL2
set_option linter.unusedVariables false
set_option linter.unusedSimpArgs false
set_option linter.unusedSectionVars false
set_option linter.constructorNameAsVariable false
set_option linter.defProp false
open Array renaming getElem?_toList->qO,toList->V
open Bool renaming and_eq_true->cr,and_true->qR,false->I,not_eq_true'->lL,or_eq_false_iff->qS,or_eq_true->pP,true->W
open Eq renaming symm->acC,trans->aav
open False renaming elim->aaY
open Go renaming DataW->jT,FuncId->dS,Oper->cR,Program->er,ResultVar->nQ,TypeId->bv,Value->aL,World->ck,wp_cond_split->agP
open Go.IntKind renaming i64->a7,signed->Ht
open Go.Program renaming underlying->aa9
open Go.RowKit renaming Below->cZ
open Go.RowKit.Below renaming block->acw
open Go.World renaming var?_cell->ayp
open Iff renaming rfl->uf
open List renaming all_cons->nM,all_eq_true->gT,any_append->agO,append_assoc->CJ,getElem?_cons_succ->qN,getElem?_eq_getElem->eD,getElem?_map->iH,length_map->jS,map->jd,map_append->si,map_cons->fc,map_map->uj,mem_append->mm,mem_cons->iG,mem_cons_of_mem->jr,mem_map->mq,mem_of_getElem?->fG,mem_singleton->js,take_append_drop->mZ,contains->aa1,getD->H,length->Y
open List.cons renaming injEq->zR
open Nat renaming ble->gG,le_of_ble_eq_true->zY,zero_add->sj,zero_le->fZ
open Option renaming isSome->CH,map_eq_some_iff->pQ,map_some->m6,none->O,some->J
open Option.some renaming inj->uq,injEq->nP
open Prod.mk renaming injEq->gH
open Sum renaming inr->lM
open _root_ renaming Array->bZ,Bool->ay,Decidable->oT,False->jc,Int->L,List->M,Nat->U,Option->Q,True->dL,UInt8->ao,Unit->bY,absurd->cJ,beq_iff_eq->dK,congrArg->cb,decide_eq_true_eq->eW,if_neg->aU,if_pos->aF,if_true->bH,of_decide_eq_true->jJ
namespace Go.Ve
open Go.Vs
def eb(c c':C):Prop:=c'=c\/c'=.bN
def nt:SV->SV->Prop|_,.undef=>dL|.one c,.one d=>eb c d|.agg cs,.agg a=>aR eb cs a|.bw vs,.bw b=>aR (λp q=>p.1=q.1/\aR eb p.2 q.2) vs b|_,_=>jc
theorem eb.ot:∀(cs:List C),aR eb cs cs|[]=>trivial|_::cs=>⟨.inl rfl,eb.ot cs⟩
theorem aR.comp{α β d:Type}{R:α->β->Prop}{S:β->d->Prop}{U:α->d->Prop}(h:∀a b c,R a b->S b c->U a c):∀{as:List α}{e:List β}{cs:List d},aR R as e->aR S e cs->aR U as cs|[],[],[],_,_=>trivial|_::_,_::_,_::_,h1,h2=>⟨h _ _ _ h1.1 h2.1,aR.comp h h1.2 h2.2⟩|[],[],_::_,_,h2=>aaY h2|_::_,[],_,h1,_=>aaY h1|[],_::_,_,h1,_=>aaY h1|_::_,_::_,[],_,h2=>aaY h2
def bQ.weak{R j:C->aL->Prop}{u:aL}{v v':SV}(g:∀c c' x,R c x->eb c c'->j c' x)(h:bQ R u v)(d:nt v v'):bQ j u v':=by
 cases v' with
 |undef=>trivial|one c'=>cases v<;>first|exact⟨h.1,g _ _ _ h.2 d⟩|exact d.elim
 |agg f=>
  cases v with
  |agg cs=>let⟨ws,h1,h2⟩:=h;exact⟨ws,h1,aR.comp (λa b c h1 h2=>g b c a h1 h2) h2 d⟩
  |_=>exact d.elim
 |bw k=>
  cases v with
  |bw vs=>
   let⟨ws,h1,h2⟩:=h;refine⟨ws,h1,aR.comp ?_ h2 d⟩;rintro x ⟨b,cs⟩ ⟨o,f⟩ i ⟨e,hy⟩;simp only at e hy;subst e;unfold eB at i ⊢;cases b with
   |true=>grind [aR.comp]|false=>
    simp only[Bool.false_eq_true,if_false]at i ⊢;let⟨c,l,m,n⟩:=i;subst l;cases f with
    |nil=>exact hy.elim|cons c' r=>
     cases r with|nil=>exact⟨c',rfl,m,g _ _ _ n hy.1⟩|cons=>exact hy.2.elim
  |_=>exact d.elim
theorem nt.cell:∀{v f:SV},nt v f->∀(j:Nat)(c':C),f.cells[j]?=J c'->∃c,v.cells[j]?=J c/\eb c c':=by
 have ey:∀{cs cs':List C},aR eb cs cs'->∀(j:Nat)(c':C),cs'[j]?=J c'->∃c,cs[j]?=J c/\eb c c':=λh j c' b=>h.aG b;have app:∀{cs cs' ds e:List C},aR eb cs cs'->aR eb ds e->aR eb (cs++ds) (cs'++e):=λh1 h2=>aR.append h1 h2;intro v f h j c' b;cases f with
 |undef=>simp[SV.cells]at b|one d=>cases v<;>first|exact ey (cs:=[_]) (cs':=[_]) ⟨h,trivial⟩ j c' b|exact aaY h
 |agg cs'=>cases v<;>first|exact ey h j c' b|exact aaY h
 |bw a=>
  cases v with
  |bw vs=>
   replace b:(a.flatMap (λp:ay×List C=>p.2))[j]?=J c':=b;show ∃c,(vs.flatMap (λp:ay×List C=>p.2))[j]?=J c/\_;refine ey ?_ j c' b;clear b;have:∀{vs a:List (ay×List C)},aR (λp q=>p.1=q.1/\aR eb p.2 q.2) vs a->aR eb (vs.flatMap (·.2)) (a.flatMap (·.2)):=by
    intro vs;induction vs with
    |nil=>intro a h;cases a<;>first|trivial|exact h.elim
    |cons p vs g=>
     intro a h;cases a with|nil=>exact aaY h|cons q a=>simp only[List.flatMap_cons];exact app h.1.2 (g h.2)
   exact this h
  |_=>exact aaY h
section
variable{K:de}{β:aD->Option Nat}{ω:Nat->Option cT}{Z:Nat->Prop}{s s':St}{a:Act}{w:World}
def aZ.weak(h:aZ K β ω Z s a w)(H:∀r,(s' r).hv=(s r).hv/\(s' r).cv=(s r).cv)(ht:∀t,nt (s (.tmp t)).v (s' (.tmp t)).v) (N:∀k,nt (s (.box k)).v (s' (.box k)).v/\((s' (.box k)).v=.undef->(s (.box k)).v=.undef))(ha:∀i,(s' (.bP i)).v=(s (.bP i)).v):aZ K β ω Z s' a w:=by
 have f:∀r,nt (s r).v (s' r).v:=by
  intro r;cases r with
  |tmp t=>exact ht t|box k=>exact(N k).1|bP i=>
   rw[ha];cases hv:(s (.bP i)).v with
   |one c=>exact .inl rfl|agg cs=>exact eb.ot cs|bw vs=>
    show aR _ vs vs;clear hv;induction vs with|nil=>trivial|cons p vs ih=>exact⟨⟨rfl,eb.ot _⟩,ih⟩
   |undef=>trivial
 have hat:∀r j,(s' r).at j≠.bN->(s' r).at j=(s r).at j:=by
  intro r j hd;cases q:(s' r).v.cells[j]? with
  |none=>grind [RV.at]|some c=>
   let⟨c0,h0,h1⟩:=(f r).cell j c q;have e0:=uO h0;have P:=uO q;rw[P]at hd ⊢;rw[e0];rcases h1 with h1|h1
   exact h1;exact cJ h1 hd
 have R:∀(c:C)(u:aL),aS K β Z s a w c u->aS K β Z s' a w c u:=by
  intro c u x;cases c with
  |bm r j hv cv e k xs=>by_cases G:cf e=W;grind [aS.rl];have G:cf e=I:=(by simpa using G);let⟨S,E,A,B,F,T,V,g6⟩:=(aS.pb G).1 x;refine(aS.pb G).2 ⟨S,E,A,B,F,by rw[(H r).1];exact T,by rw[(H r).2];exact V,λP e2=>?_⟩;grind
  |ea r j hv e i off=>let⟨b,o,A,B,F⟩:=x;refine⟨b,o,A,by rw[(H r).1];exact B,λP e2=>?_⟩;grind
  |_=>exact x
 have y:∀(c X:C)(u:aL),aS K β Z s a w c u->eb c X->aS K β Z s' a w X u:=by
  intro c X u h1 h2;rcases h2 with rfl|rfl
  exact R _ u h1;trivial
 have l:∀(r:aO)(j e:Nat)(xs:List (List D)),(s' r).v.cells[j]?=J (.ak e xs)->(s r).v.cells[j]?=J (.ak e xs):=by
  intro r j e xs q;let⟨c,h1,h2⟩:=(f r).cell j _ q;rcases h2 with h2|h2
  rw[h1,<-h2];cases h2
 refine⟨h.size,h.defers,h.os,h.tape,h.output,h.base,h.frame,h.dp,h.lV,?_,λt=>bQ.weak y (h.tmps t) (ht t),λi=>bQ.weak y (h.args i) (f (.bP i)),?_,?_,?_,h.dV,h.n5⟩;intro b Y;rcases h.ng b Y with g|g|g|⟨i,j,e,ys,u0,A,B,F⟩
 exact .inl g;exact .inr (.inl g);grind;grind;intro k;have d:=h.aI k;cases hv:(s (.box k)).v with
 |agg cs=>
  have m:=(N k).1;rw[hv]at m;cases n:(s' (.box k)).v with
  |agg cs'=>rw[n]at m;let⟨b,ws,el,lo,hi,A,B,F,T,V⟩:=eh.cell h hv;exact⟨b,ws,el,lo,hi,A,B,F,T,aR.comp (λa b c h1 h2=>y b c a h1 h2) V m⟩
  |undef=>grind|one c=>rw[n]at m;exact aaY m|bw vs=>rw[n]at m;exact aaY m
 |undef=>
  have m:=(N k).1;rw[hv]at m d;cases n:(s' (.box k)).v with|undef=>exact d|_=>rw[n]at m;exact aaY m
 |one c=>rw[hv]at d;exact aaY d|bw vs=>rw[hv]at d;exact aaY d
 intro r j e xs u1 b1 hr q hh z;exact h.ak r j e xs u1 b1 hr (l r j e xs q) hh z;intro i j e xs u1 b1 q hh z;exact h.iL i j e xs u1 b1 (l (.bP i) j e xs q) hh z
end
structure bK where
 cm:List (Nat×aP)
 aI:List (aD×List E)
 cI:List (Nat×Nat)
 cH:List (aO×Option (List Bool))
def cO(t:Nat):List (Nat×aP)->aP
 |[]=>.undef|(u,v)::r=>match t==u with|true=>v|false=>cO t r
def cF(k:aD):List (aD×List E)->Option (List E)
 |[]=>O|(q,v)::r=>match gx k q with|true=>J v|false=>cF k r
def stM(p:bK):List (aO×dP):=p.cm.map (λx=>(.tmp x.1,{v:=x.2}))++p.aI.map λx=>(.box x.1,{v:=.agg x.2})
def cx(A:List aP)(p:bK):bp:={m:=stM p,args:=A,cI:=p.cI,cH:=p.cH}
def dM(A:List aP)(p:bK):PS:={cm:=p.cm.map λx=>(x.1,aM x.2),aI:=p.aI.map λx=>(x.1,aV x.2),args:=(iZ p.cI A).map aM}
def ZH(r:aO):∀(l m:List (aO×dP)),(∀x∈l,ic r x.1=I)->gb r (l++m)=gb r m|[],m,_=>rfl|(q,x)::l,m,h=>by simp only[List.cons_append,gb];rw[h (q,x) (List.mem_cons_self ..)];exact ZH r l m λy hy=>h y (List.mem_cons_of_mem _ hy)
theorem ou(A:List aP)(p:bK)(t:Nat):(cx A p).aG (.tmp t)={v:=cO t p.cm}:=by
 show gb (.tmp t) (p.cm.map (λx=>(.tmp x.1,{v:=x.2}))++p.aI.map λx=>(.box x.1,{v:=.agg x.2}))=_;induction p.cm with
 |nil=>
  induction p.aI with|nil=>rfl|cons b r a=>exact a
 |cons x r a=>grind [gb,ic,cO]
theorem kR(A:List aP)(p:bK)(k:aD):(cx A p).aG (.box k)={v:=match cF k p.aI with|some cs=>.agg cs|none=>.undef}:=by
 show gb (.box k) (p.cm.map (λx=>(.tmp x.1,{v:=x.2}))++p.aI.map λx=>(.box x.1,{v:=.agg x.2}))=_;rw[ZH _ _ _ (by intro x a;obtain⟨y,_,rfl⟩:=List.mem_map.1 a;rfl)];induction p.aI with|nil=>rfl|cons x r b=>grind [gb,ic,cF]
theorem JK(A:List aP)(p:bK)(t:Nat):((dM A p).st (.tmp t)).v=aM (cO t p.cm):=by
 show(lk t (p.cm.map λx=>(x.1,aM x.2))).getD .undef=_;induction p.cm with|nil=>rfl|cons x r a=>grind [lk,cO]
def JL(A:List aP)(p:bK)(k:aD):((dM A p).st (.box k)).v=match cF k p.aI with|some cs=>.agg (aV cs)|none=>.undef:=by
 show(match nX k (p.aI.map λx=>(x.1,aV x.2))with|some cs=>SV.agg cs|none=>.undef)=_
 induction p.aI with|nil=>rfl|cons x r a=>grind [nX,cF,lw]
theorem JM(A:List aP)(p:bK)(i:Nat):((dM A p).st (.bP i)).v=aM (H (iZ p.cI A) i .undef):=AZ aM _ i .undef
def Ef(A:List aP)(p:bK):dG (cx A p)=(dM A p).st:=by
 have ext:∀(x y:RV),x.hv=y.hv->x.cv=y.cv->x.v=y.v->x=y:=by intro x y h1 h2 h3;cases x;simp_all
 funext r;cases r with
 |tmp t=>refine ext _ _ ?_ ?_ ?_<;>simp only[dG,ou,cL];rfl;rfl;exact(JK A p t).symm|box k=>refine ext _ _ ?_ ?_ ?_<;>simp only[dG,kR,cL];rfl;rfl;rw[JL];cases cF k p.aI<;>rfl
 |bP i=>refine ext _ _ rfl rfl ?_;exact(JM A p i).symm
def Qd:∀(l:List (Nat×Nat))(A:List aP),Y (iZ l A)=Y A|[],A=>rfl|(i,j)::r,A=>by simp only[iZ];rw[Qd r];rw[sQ];simp
theorem ZI(A:List aP)(p:bK):Y (dM A p).args=Y A:=by simp[dM,Qd]
def jO(s:bp)(bk:List aD):E->E
 |.l (.bm r j hv cv k) t xs=>match(s.aG r).hv==hv&&(s.aG r).cv==cv with|true=>.l (.bm r j 0 0 k) t xs|false=>.bN
 |.n (.bm r j hv cv k) t o=>match(s.aG r).hv==hv&&(s.aG r).cv==cv with|true=>.n (.bm r j 0 0 k) t o|false=>.bN
 |.ea _ _ _ _ _ _=>.bN|.gW _=>.bN|.aX k off=>match bk.any (gx k)with|true=>.aX k off|false=>.bN
 |.dj f caps=>match caps.all (λp=>bk.any (gx p.1))with|true=>.dj f caps|false=>.bN
 |.it m t xs a=>match m with|.bm .. =>.bN|m=>.it m t xs a
 |c=>c
def vE(s:bp)(bk:List aD):aP->aP|.one c=>.one (jO s bk c)|.agg cs=>.agg (cs.map (jO s bk))|.bw vs=>.bw (vs.map λp=>(p.1,p.2.map (jO s bk)))|.undef=>.undef
def yn(s:bp)(bk:List aD):List Nat->List (Nat×aP)
 |[]=>[]|t::ts=>match(s.aG (.tmp t)).v with|.undef=>yn s bk ts|v=>(t,vE s bk v)::yn s bk ts
def yo(s:bp)(bk:List aD):List aD->List (aD×List E)
 |[]=>[]|k::ks=>match(s.aG (.box k)).v with|.agg cs=>(k,cs.map (jO s bk))::yo s bk ks|_=>yo s bk ks
def gf(s:bp)(keys:List Nat)(bk:List aD):bK:={cm:=yn s bk keys,aI:=yo s bk bk,cI:=s.cI,cH:=s.cH}
theorem A7(k:aD)(bk:List aD):bk.any (gx k)=aa1 bk k:=by grind [lw]
def ZJ(s:bp)(bk:List aD)(c:E):eb (jX (dG s) bk (cE c)) (cE (jO s bk c)):=by
 have bm:∀(r:aO)(j hv cv k:Nat)(t:Ty)(xs:List t.T),eb (jX (dG s) bk (C.bm r j hv cv t.e k (xs.map (be t)))) (cE (match(s.aG r).hv==hv&&(s.aG r).cv==cv with
  |true=>E.l (.bm r j 0 0 k) t xs|false=>.bN)):=by
  intro r j hv cv k t xs
  cases h:(s.aG r).hv==hv&&(s.aG r).cv==cv with|false=>exact .inr rfl|true=>simp only[cr,dK]at h;left;simp only[jX];rw[aF (show(dG s r).hv=hv/\(dG s r).cv=cv from h)];rfl
 cases c with
 |l m t xs=>
  cases m with|bm r j hv cv k=>exact bm r j hv cv k t xs|_=>exact .inl rfl
 |n m t o=>
  cases m with
  |bm r j hv cv k=>
   cases o with
   |none=>
    simp only[jO];cases(s.aG r).hv==hv&&(s.aG r).cv==cv with|true=>exact .inl rfl|false=>exact .inr rfl
   |some xs=>
    have:=bm r j hv cv k t xs;simp only[jO];revert this;cases(s.aG r).hv==hv&&(s.aG r).cv==cv with|true=>exact λh=>h|false=>exact λh=>h
  |_=>cases o<;>exact .inl rfl
 |aX k off=>
  simp only[jO,A7,cE,jX];cases h:aa1 bk k with|true=>left;simp only[bH]|false=>exact .inr rfl
 |dj f caps=>
  have e:(caps.all λp=>bk.any (gx p.1))=caps.all λp=>aa1 bk p.1:=by grind [A7]
  simp only[jO,e,cE,jX];cases h:caps.all λp=>aa1 bk p.1 with|true=>left;simp only[bH]|false=>exact .inr rfl
 |ea=>exact .inr rfl|gW b=>exact .inr rfl|it m t xs a=>cases m<;>first|exact .inl rfl|exact .inr rfl
 |_=>exact .inl rfl
def JN(s:bp)(bk:List aD):∀(cs:List E),aR eb (jv (dG s) bk (aV cs)) (aV (cs.map (jO s bk)))|[]=>trivial|c::cs=>⟨ZJ s bk c,JN s bk cs⟩
def ak4(s:bp)(bk:List aD)(v:aP):nt (iX (dG s) bk (aM v)) (aM (vE s bk v)):=by
 cases v with
 |one c=>exact ZJ s bk c|agg cs=>exact JN s bk cs|bw vs=>
  show aR _ (uK (dG s) bk (fq vs)) (fq (vs.map λp=>(p.1,p.2.map (jO s bk))));induction vs with|nil=>trivial|cons p vs a=>exact⟨⟨rfl,JN s bk p.2⟩,a⟩
 |undef=>trivial
def Eg(s:bp)(bk:List aD)(t:Nat):∀(ks:List Nat),cO t (yn s bk ks)=if t∈ks then vE s bk (s.aG (.tmp t)).v else .undef|[]=>rfl|u::ks=>by have a:=Eg s bk t ks;grind [yn,cO,vE]
theorem vF(s:bp)(bk:List aD)(k:aD):∀(ks:List aD),cF k (yo s bk ks)=if k∈ks then(match(s.aG (.box k)).v with|.agg cs=>J (cs.map (jO s bk))|_=>O)else O|[]=>rfl|u::ks=>by have a:=vF s bk k ks;grind [yo,cF,lw]
def mG(bk:List aD):E->ay|.i _ _|.b _|.tt|.ff|.s _|.nil|.cV _|.r _ _|.l .data _ _|.l .ak _ _|.n .data _ _|.n .ak _ _|.it .data _ _ _|.it .ak _ _ _=>W|.aX k _=>bk.any (gx k)|.dj _ caps=>caps.all λp=>bk.any (gx p.1)|_=>I
def Eh(bk:List aD)(A:List aP):ay:=A.all λv=>v.cells.all (mG bk)
theorem ZK{bk:List aD}{c:E}(h:mG bk c=W)(s:St):jX s bk (cE c)=cE c:=by
 cases c with
 |l m t xs=>cases m<;>first|rfl|cases h
 |n m t o=>cases m<;>cases o<;>first|rfl|cases h
 |aX k off=>simp only[mG,A7]at h;simp only[cE,jX,h,bH]|dj f caps=>grind [A7,mG,cE,jX]|ea=>cases h
 |da=>cases h
 |gW b=>cases h
 |it m t xs a=>cases m<;>first|rfl|cases h
 |bN=>rfl|_=>rfl
theorem ZL{bk:List aD}{cs:List E}(h:cs.all (mG bk)=W)(s:St):jv s bk (aV cs)=aV cs:=by
 induction cs with|nil=>rfl|cons c cs a=>grind [jv,aV,ZK]
def ak5{bk:List aD}{v:aP}(h:v.cells.all (mG bk)=W)(s:St):iX s bk (aM v)=aM v:=by
 cases v with
 |one c=>simp only[aP.cells,List.all_cons,List.all_nil,qR]at h;show SV.one _=_;rw[ZK h s];rfl|agg cs=>show SV.agg _=_;rw[ZL (cs:=cs) h s];rfl|bw vs=>
  show SV.bw (uK s bk (fq vs))=.bw (fq vs);congr 1;simp only[aP.cells]at h;induction vs with|nil=>rfl|cons p vs a=>grind [uK,fq,ZL]
 |undef=>rfl
def ak6{bk:List aD}{v:aP}(h:v.cells.all (mG bk)=W)(j:Nat):(vh v j).cells.all (mG bk)=W:=by
 have a:∀(v:aP)(c:E),v.cells.all (mG bk)=W->mG bk c=W->(v.setCell j c).cells.all (mG bk)=W:=by
  intro v c hv f;have d:∀(cs:List E)(j:Nat),cs.all (mG bk)=W->(lq cs j c).all (mG bk)=W:=by
   intro cs;induction cs with
   |nil=>intro j h;simp[lq]
   |cons x cs e=>
    intro j h;simp only[List.all_cons,cr]at h;cases j with|zero=>simp_all [lq]|succ j=>grind [lq]
  cases v with
  |one x=>grind [aP.setCell,aP.cells]|agg cs=>exact d cs j hv|bw vs=>
   simp only[aP.setCell,aP.cells]at hv ⊢;induction vs generalizing j with|nil=>rfl|cons p vs e=>let⟨b,cs⟩:=p;simp only[List.flatMap_cons,List.all_append,cr]at hv;simp only[Dv];split;grind;simp only[List.flatMap_cons,List.all_append,cr];exact⟨hv.1,e _ hv.2⟩
  |undef=>exact hv
 unfold vh;split;exact a v _ h rfl;exact a v _ h rfl;exact a v _ h rfl;exact h
def ZM{bk:List aD}:∀(l:List (Nat×Nat))(A:List aP),Eh bk A=W->Eh bk (iZ l A)=W
 |[],A,h=>h|(i,j)::r,A,h=>by
  simp only[iZ];refine ZM r _ ?_;have a:∀v∈A,v.cells.all (mG bk)=W:=List.all_eq_true.1 h;rw[sQ];refine List.all_eq_true.2 λv hv=>?_;rcases List.mem_or_eq_of_mem_set hv with hv|rfl
  exact a v hv;refine ak6 ?_ j;rw[List.getD_eq_getElem?_getD];cases b:A[i]? with|none=>rfl|some x=>grind
section
variable{K:de}{A:List aP}{a:Act}{w:World}
def Qe{s:bp}(c:s.args=A)(j:K.argv.size=Y A){keys:List Nat}{bk:List aD}(e:Eh bk A=W)(f:∀k b,K.ka k=J b->k∈bk)(h:Vs.gw K (dG s) a w):dI K (dM A (gf s keys bk)) a w:=by
 let⟨β,ω,Z,h⟩:=h;let⟨g,m⟩:=h.fin keys bk j.symm f;refine⟨⟨g,ω,Z,aZ.weak m (λr=>⟨aav (sJ _ r).1 (sJ _ r).1.symm,aav (sJ _ r).2 (sJ _ r).2.symm⟩) (λt=>?_) (λk=>?_) λi=>?_⟩,aav (ZI A _) j.symm⟩;rw[JK,X0];simp only[gf];rw[Eg];split;exact ak4 s bk _;trivial;rw[JL,X1];simp only[gf];rw[vF];have hv:(dG s (.box k)).v=aM (s.aG (.box k)).v:=rfl;split;cases l:(s.aG (.box k)).v with
 |agg cs=>rw[hv,l];exact⟨JN s bk cs,λh=>by cases h⟩
 |_=>rw[hv,l];exact⟨trivial,λ_=>rfl⟩
 exact⟨trivial,λ_=>rfl⟩;rw[JM,X2];have n:(dG s (.bP i)).v=aM (H (iZ s.cI A) i .undef):=by rw[<-c];rfl
 have d:=ZM s.cI A e;split;rw[n];refine(ak5 ?_ _).symm;show((H (iZ s.cI A) i .undef).cells.all (mG bk))=W;rw[List.getD_eq_getElem?_getD];cases o:(iZ s.cI A)[i]? with|none=>rfl|some x=>exact List.all_eq_true.1 d x (List.mem_of_getElem? o)
 simp_all [aM,Qd]
end
abbrev eL:=M (aO×Q (M ay))
def jy(r:aO)(d:eL):ay:=d.any λe=>ic r e.1
def whole(r:aO)(d:eL):ay:=d.any λe=>ic r e.1&&e.2.isNone
def part(r:aO)(j:U)(d:eL):ay:=d.any λe=>ic r e.1&&(match e.2 with|some m=>H m j I|none=>W)
def df:E->E|.l (.bm q j _ _ k) t xs=>.l (.bm q j 0 0 k) t xs|.n (.bm q j _ _ k) t o=>.n (.bm q j 0 0 k) t o|c=>c
def ak7(c:E):df (df c)=df c:=by
 cases c with
 |l m t xs=>cases m<;>rfl
 |n m t o=>cases m<;>rfl
 |_=>rfl
def ed(c c':E):Prop:=c'=c\/c'=df c\/c'=.bN
theorem ed.same(c:E):ed c c:=.inl rfl
theorem ed.trans{a b c:E}(h:ed a b)(d:ed b c):ed a c:=by
 rcases h with rfl|rfl|rfl
 exact d;rcases d with rfl|rfl|rfl
 exact .inr (.inl rfl);exact .inr (.inl (ak7 a));exact .inr (.inr rfl);rcases d with rfl|rfl|rfl<;>exact .inr (.inr rfl)
def lY:E->ay|.bN=>I|.l (.bm _ _ hv cv _) _ _=>hv==0&&cv==0|.n (.bm _ _ hv cv _) _ _=>hv==0&&cv==0|_=>W
def ak8{c:E}(h:lY c=W):df c=c:=by
 cases c with
 |l m t xs=>
  cases m with
  |bm q j hv cv k=>simp only[lY,cr,dK]at h;obtain⟨rfl,rfl⟩:=h;rfl
  |_=>rfl
 |n m t xs=>
  cases m with
  |bm q j hv cv k=>simp only[lY,cr,dK]at h;obtain⟨rfl,rfl⟩:=h;rfl
  |_=>rfl
 |_=>rfl
def Qf{c a:E}(h:ed c a)(b:lY a=W):a=df c:=by
 rcases h with rfl|rfl|rfl
 exact(ak8 b).symm;rfl;cases b
def ZN{c a b:E}(h:ed c a)(d:ed c b)(e:lY a=W)(f:lY b=W):a=b:=aav (Qf h e) (Qf d f).symm
def gY:aP->aP->Prop|_,.undef=>dL|.one c,.one d=>ed c d|.agg cs,.agg a=>aR ed cs a|.bw vs,.bw b=>aR (λp q=>p.1=q.1/\aR ed p.2 q.2) vs b|_,_=>jc
theorem aR.same{α:Type}{R:α->α->Prop}(h:∀a,R a a):∀(l:M α),aR R l l|[]=>trivial|a::l=>⟨h a,aR.same h l⟩
theorem gY.same(v:aP):gY v v:=by
 cases v with|one c=>exact ed.same c|agg cs=>exact aR.same ed.same cs|bw vs=>exact aR.same (λp=>⟨rfl,aR.same ed.same p.2⟩) vs|undef=>trivial
theorem gY.trans{a b c:aP}(h:gY a b)(d:gY b c):gY a c:=by
 cases c with
 |undef=>trivial|one z=>cases b<;>first|exact aaY d|(cases a<;>first|exact aaY h|exact ed.trans h d)
 |agg z=>cases b<;>first|exact aaY d|(cases a<;>first|exact aaY h|exact aR.comp (R:=ed) (S:=ed) (U:=ed) (λ_ _ _ h1 h2=>ed.trans h1 h2) h d)
 |bw z=>cases b<;>first|exact aaY d|(cases a<;>first|exact aaY h|exact aR.comp (λ_ _ _ h1 h2=>⟨aav h1.1 h2.1,aR.comp (R:=ed) (S:=ed) (U:=ed) (λ_ _ _ h1 h2=>ed.trans h1 h2) h1.2 h2.2⟩) h d)
def pk(k:aD)(d:eL)(v b:aP):Prop:=b=.undef\/∃cs a,v=.agg cs/\b=.agg a/\Y cs=Y a/\∀j,part (.box k) j d=I->∀e,a[j]?=J e->∃c,cs[j]?=J c/\ed c e
def eM(d:eL)(s s':bp):Prop:=(∀t,jy (.tmp t) d=I->gY (s.aG (.tmp t)).v (s'.aG (.tmp t)).v)/\(∀k,whole (.box k) d=I->pk k d (s.aG (.box k)).v (s'.aG (.box k)).v)
def JO(r:aO)(l d:eL):jy r (l++d)=(jy r l||jy r d):=by simp[jy,agO]
def Qg(r:aO)(l d:eL):whole r (l++d)=(whole r l||whole r d):=by simp[whole,agO]
def JP(r:aO)(j:U)(l d:eL):part r j (l++d)=(part r j l||part r j d):=by simp[part,agO]
def qo(s:bp):Prop:=∀k,(s.aG (.box k)).v=.undef\/∃cs,(s.aG (.box k)).v=.agg cs
theorem pk.same{k:aD}{d:eL}{v:aP}(h:v=.undef\/∃cs,v=.agg cs):pk k d v v:=by
 rcases h with h|⟨cs,h⟩
 exact .inl h;exact .inr ⟨cs,cs,h,h,rfl,λj _ c a=>⟨c,a,ed.same c⟩⟩
def eM.more{d l:eL}{s s':bp}(h:eM d s s'):eM (l++d) s s':=by
 refine⟨λt b=>h.1 t ?_,λk hk=>?_⟩;rw[JO,qS]at b;exact b.2;rw[Qg,qS]at hk;rcases h.2 k hk.2 with h|⟨cs,a,e,f,g,i⟩
 exact .inl h;refine .inr ⟨cs,a,e,f,g,λj c=>i j ?_⟩;rw[JP,qS]at c;exact c.2
theorem eM.trans{d:eL}{s b s2:bp}(h:eM d s b)(c:eM d b s2):eM d s s2:=by
 refine⟨λt e=>gY.trans (h.1 t e) (c.1 t e),λk hk=>?_⟩;rcases c.2 k hk with g|⟨ds,a,f1,f2,f3,f4⟩
 exact .inl g;rcases h.2 k hk with g|⟨cs,f,i,l,m,o⟩
 rw[g]at f1;cases f1;rw[l]at f1;cases f1;refine .inr ⟨cs,a,i,f2,aav m f3,λj p q n=>?_⟩;grind [ed.trans]
theorem JQ{r q:aO}(h:ic q r=I):q≠r:=by grind [vw]
theorem eM.dU{d:eL}{s s':bp}(b:qo s)(h:∀r,r.isArg=I->jy r d=I->s'.aG r=s.aG r)(c:∀k,whole (.box k) d=I->jy (.box k) d=W->pk k d (s.aG (.box k)).v (s'.aG (.box k)).v):eM d s s':=by
 refine⟨λt a=>by rw[h (.tmp t) rfl a];exact gY.same _,λk hk=>?_⟩;cases a:jy (.box k) d with|false=>rw[h (.box k) rfl a];exact pk.same (b k)|true=>exact c k hk a
theorem ZO:∀(cs:M E)(os:M (Q E))(j:U),H (os.map CH) j I=I->(fg cs os)[j]?=cs[j]?|[],os,j,_=>by simp[fg]|c::cs,[],j,_=>by simp[fg]|c::cs,o::os,0,h=>by simp_all [fg]|c::cs,o::os,j+1,h=>by simp only[fg,qN];exact ZO cs os j (by simpa using h)
def ZP:∀(cs:M E)(os:M (Q E)),Y (fg cs os)=Y cs|[],os=>by simp[fg]|c::cs,[]=>by simp[fg]|c::cs,o::os=>by simp[fg,ZP cs os]
def gZ(s s':bp):Prop:=qo s'/\s'.args=s.args/\∃l,s'.cH=l++s.cH/\eM s'.cH s s'
theorem gZ.trans{s a s2:bp}(h:gZ s a)(b:gZ a s2):gZ s s2:=by let⟨j,c,d,k,k1⟩:=h;let⟨e,f,g,i,k2⟩:=b;refine⟨e,aav f c,g++d,by grind,eM.trans ?_ k2⟩;rw[i];exact k1.more
theorem gZ.same{s:bp}(h:qo s):gZ s s:=⟨h,rfl,[],rfl,eM.dU h (λ_ _ _=>rfl) λk _ _=>pk.same (h k)⟩
theorem gZ.put{s:bp}(h:qo s){r:aO}{x:dP}(a:r.isArg=I)(hx:(∃t,r=.tmp t)\/∃cs,x.v=.agg cs):gZ s (s.put r x):=by refine⟨λk=>?_,rfl,[(r,O)],rfl,eM.dU h (λq _ hd=>?_) λk h1 h2=>?_⟩;rw[A1 s x a];split;grind;exact h k;rw[A1 s x a,aU];have:jy q ((r,O)::s.cH)=(ic q r||jy q s.cH):=rfl;have hd:jy q ((r,O)::s.cH)=I:=hd;simp_all [JQ];rw[A1 s x a];have h1:whole (.box k) ((r,O)::s.cH)=I:=h1;have b:whole (.box k) ((r,O)::s.cH)=((ic (.box k) r&&W)||whole (.box k) s.cH):=rfl;rw[b,qS,qR]at h1;rw[aU (JQ h1.1)];exact pk.same (h k)
theorem gZ.gy{s:bp}(h:qo s)(r:aO)(b:ay):gZ s (s.gy r b):=by
 cases r with
 |tmp t=>have:=gZ.put (s:=s) h (r:=.tmp t) (x:={gb (.tmp t) s.m with v:=.one (kb b)}) rfl (.inl ⟨t,rfl⟩);exact this
 |_=>exact gZ.same h
def gZ.cI{s:bp}(h:qo s)(i j:U):gZ s {s with cI:=s.cI++[(i,j)],cH:=(.bP i,O)::s.cH}:=⟨λk=>h k,rfl,[(.bP i,O)],rfl,eM.dU h (λq a _=>by cases q<;>first|rfl|cases a) λk _ _=>pk.same (h k)⟩
def gZ.wr{s:bp}(h:qo s)(k:aD)(os:M (Q E)):gZ s (s.wr k os):=by
 rcases h k with g|⟨cs,a⟩
 have i:(gb (.box k) s.m).v=.undef:=g;have c:∀q,q.isArg=I->((s.wr k os).aG q).v=(s.aG q).v/\(ic q (.box k)=I->(s.wr k os).aG q=s.aG q):=by
  intro q b;have key:∀q,gb q (s.wr k os).m=if q=.box k then{hv:=(gb (.box k) s.m).hv+1,cv:=(gb (.box k) s.m).cv,v:=match(gb (.box k) s.m).v with|.agg cs=>.agg (fg cs os)|v=>v}else gb q s.m:=λq=>vy (.box k) _ q s.m
  have:(s.wr k os).aG q=gb q (s.wr k os).m:=by cases q<;>first|rfl|cases b
  have n:s.aG q=gb q s.m:=by cases q<;>first|rfl|cases b
  grind [vw]
 refine⟨λq=>?_,rfl,[(.box k,J (os.map CH))],rfl,eM.dU h (λq b hd=>?_) λq h1 h2=>?_⟩;rw[(c (.box q) rfl).1];exact h q;have d:jy q (s.wr k os).cH=(ic q (.box k)||jy q s.cH):=rfl;grind;rw[(c (.box q) rfl).1];exact pk.same (h q);refine⟨λq=>?_,rfl,[(.box k,J (os.map CH))],rfl,eM.dU h (λq _ hd=>?_) λq h1 h2=>?_⟩;rw[DR s k os _ a];split;exact .inr ⟨_,rfl⟩;exact h q;rw[DR s k os _ a,aU];have d:jy q (s.wr k os).cH=(ic q (.box k)||jy q s.cH):=rfl;grind [JQ];rw[DR s k os _ a];split;rename_i e;cases e;refine .inr ⟨cs,fg cs os,a,rfl,acC (ZP cs os),λj o f l=>⟨f,?_,ed.same f⟩⟩;have d:part (.box k) j (s.wr k os).cH=((ic (.box k) (.box k)&&H (os.map CH) j I)||part (.box k) j s.cH):=rfl;grind [vw,ZO];exact pk.same (h q)
def ZQ{α:Type}(p:PE α):∀(s:bp),qo s->(p.cU s).eI λx=>gZ s x.2.1:=by
 induction p with
 |ret a=>intro s h;exact gZ.same h
 |ai=>intro s h;trivial
 |br c t e g l=>intro s h;exact⟨g s h,l s h⟩
 |call d o k f=>intro s h;exact λx=>f x s h
 |aG r k f=>simp_all [PE.cU,Tr.lv]|put r x k f=>
  intro s h;simp only[PE.cU];cases m:ye r x with
  |false=>trivial|true=>
   simp only[Tr.lv];(have n:r.isArg=I:=by cases r<;>first|rfl|(simp[ye]at m));have u:(∃t,r=.tmp t)\/∃cs,x.v=.agg cs:=by
    cases r with
    |tmp t=>exact .inl ⟨t,rfl⟩|box k=>
     cases hv:x.v with|agg cs=>grind|_=>simp[ye,hv]at m
    |bP i=>cases n
   have h1:=gZ.put h n u;exact Tr.gX (λy hy=>gZ.trans h1 hy) (f _ h1.1)
 |cI i j k f=>intro s h;simp only[PE.cU,Tr.lv];have h1:=gZ.cI h i j;exact Tr.gX (λy hy=>gZ.trans h1 hy) (f _ h1.1)
 |gy r b k f=>intro s h;have h1:=gZ.gy h r b;exact Tr.gX (λy hy=>gZ.trans h1 hy) (f _ h1.1)
 |wr q os k f=>intro s h;simp only[PE.cU,Tr.lv];have h1:=gZ.wr h q os;exact Tr.gX (λy hy=>gZ.trans h1 hy) (f _ h1.1)
def JR(af:eR)(b:bZ cR):∀(l:M cR)(s:bp),qo s->(rF af b l s).eI λx=>gZ s x.1|[],s,h=>gZ.same h|o::r,s,h=>by simp only[rF];rw[Tr.ky];refine Tr.gX ?_ (ZQ (Jo af b o) s h);rintro ⟨a,s',f,g⟩ h1;rw[Tr.ky];refine Tr.gX ?_ (JR af b r s' h1.1);rintro ⟨c,l⟩ h2;exact gZ.trans h1 h2
def qp(A:M aP)(p:bK):qo (cx A p):=by intro k;grind [kR]
theorem Qh(s:bp)(bk:M aD)(c:E):ed c (jO s bk c):=by
 have dd:∀(b:ay)(x y:E),(x=y\/x=df y)->ed y (match b with|true=>x|false=>.bN):=by
  intro b x y h;cases b with
  |true=>rcases h with rfl|rfl<;>first|exact .inl rfl|exact .inr (.inl rfl)
  |false=>exact .inr (.inr rfl)
 cases c with
 |l m t xs=>cases m<;>first|exact .inl rfl|exact dd _ _ _ (.inr rfl)
 |n m t xs=>cases m<;>first|exact .inl rfl|exact dd _ _ _ (.inr rfl)
 |aX k off=>exact dd _ _ _ (.inl rfl)|dj f caps=>exact dd _ _ _ (.inl rfl)|ea=>exact .inr (.inr rfl)|gW b=>exact .inr (.inr rfl)|it m t xs a=>cases m<;>first|exact .inl rfl|exact .inr (.inr rfl)
 |_=>exact .inl rfl
def Qi(s:bp)(bk:M aD):∀(cs:M E),aR ed cs (cs.map (jO s bk))|[]=>trivial|c::cs=>⟨Qh s bk c,Qi s bk cs⟩
def ak9(s:bp)(bk:M aD)(v:aP):gY v (vE s bk v):=by
 cases v with
 |one c=>exact Qh s bk c|agg cs=>exact Qi s bk cs|bw vs=>
  show aR _ vs (vs.map λp=>(p.1,p.2.map (jO s bk)));induction vs with|nil=>trivial|cons p vs a=>exact⟨⟨rfl,Qi s bk p.2⟩,a⟩
 |undef=>trivial
def yp(A:M aP)(s:bp)(a:qo s)(keys:M U)(bk:M aD)(d:eL):eM d s (cx A (gf s keys bk)):=by
 refine⟨λt _=>?_,λk _=>?_⟩;rw[ou];simp only[gf];rw[Eg];split;exact ak9 s bk _;trivial;rw[kR];simp only[gf];rw[vF];rcases a k with h|⟨cs,h⟩
 rw[h];left;grind;rw[h];by_cases hk:k∈bk;rw[aF hk];refine .inr ⟨cs,_,rfl,rfl,by simp,λj _ c b=>?_⟩;grind [Qh];rw[aU hk];exact .inl rfl
def Ei(c:Bool)(a b:E):E:=
 match a,b with|.tt,.tt=>.tt|.ff,.ff=>.ff|.tt,.ff=>.b c|.ff,.tt=>.b (!c)|.tt,.b y=>.b (c||y)|.b x,.ff=>.b (c&&x)|.ff,.b y=>.b (!c&&y)|.b x,.tt=>.b (!c||x)|.b x,.b y=>.b (if c=W then x else y)|_,_=>.bN
def yq(c:Bool)(a b:E):E:=
 match a,b with|.i k a,.i k' b=>if k=k' then .i k (if c=W then a else b)else .bN|.s a,.s b=>.s (if c=W then a else b)|.l m t xs,.l d e ys=>if m=d then(if h:e=t then .l m t (if c=W then xs else h▸ys)else .bN)else .bN|.n m t o,.n d e g=>if m=d then(if h:e=t then .n m t (if c=W then o else h▸g)else .bN)else .bN|.n m t o,.l d e ys=>if m=d then(if h:e=t then .n m t (if c=W then o else J (h▸ys))else .bN)else .bN|.l m t xs,.n d e g=>if m=d then(if h:e=t then .n m t (if c=W then J xs else h▸g)else .bN)else .bN|.n m t o,.nil=>.n m t (if c=W then o else O)|.nil,.n m t o=>.n m t (if c=W then O else o)|.l m t xs,.nil=>.n m t (if c=W then J xs else O)|.nil,.l m t xs=>.n m t (if c=W then O else J xs)|.nil,.nil=>.nil|.cV k,.cV k'=>if k=k' then .cV k else .bN|.r u ps,.r p j=>if u=p then .r u (if c=W then ps else j)else .bN|.aX k o,.aX k' g=>if k=k'/\o=g then .aX k o else .bN|.dj f l,.dj q v=>if f=q/\l=v then .dj f l else .bN|a,b=>Ei c a b
def ala(a b:E):eb (cE a) (cE (Ei W a b)):=by unfold Ei;split<;>first|exact .inl rfl|exact .inr rfl
def alb(a b:E):eb (cE b) (cE (Ei I a b)):=by unfold Ei;split<;>first|exact .inl rfl|exact .inr rfl
theorem ZR(a b:E):eb (cE a) (cE (yq W a b)):=by
 unfold yq;repeat' split
 all_goals first|exact .inl rfl|exact .inr rfl|exact cJ rfl ‹¬ W=W› |exact ala _ _
def ZS(a b:E):eb (cE b) (cE (yq I a b)):=by
 unfold yq;repeat' split
 all_goals first|exact .inl rfl|exact .inr rfl|exact cJ ‹I=W› (by decide)|exact alb _ _|(subst_vars;exact .inl rfl)|(rename_i h;obtain⟨rfl,rfl⟩:=h;exact .inl rfl)
def qq(a b:E):E:=match lY a&&lY b with|true=>a|false=>.bN
def Ej(f:E->E->E):List E->List E->List E|a::as,b::c=>f a b::Ej f as c|_,_=>[]
def ov(f:E->E->E)(v u:aP):aP:=
 match v,u with
 |.one a,.one b=>.one (f a b)|.agg as,.agg c=>match Y as==Y c with|true=>.agg (Ej f as c)|false=>.undef
 |_,_=>.undef
theorem ZT(a b:E):ed a (qq a b):=by unfold qq;split<;>first|exact .inl rfl|exact .inr (.inr rfl)
theorem ZU(a b:E):eb (cE a) (cE (qq a b)):=by unfold qq;split<;>first|exact .inl rfl|exact .inr rfl
def Qj{c a b:E}(h:ed c a)(e:ed c b):eb (cE b) (cE (qq a b)):=by unfold qq;split;rename_i d;simp only[Bool.and_eq_true]at d;rw[ZN h e d.1 d.2];exact .inl rfl;exact .inr rfl
def Qk{f:E->E->E}{R:E->E->Prop}(d:∀a b,R a (f a b)):∀(as c:List E),Y as=Y c->aR R as (Ej f as c)|[],[],_=>trivial|a::as,b::c,h=>⟨d a b,Qk d as c (by simpa using h)⟩|[],_::_,h=>by simp at h|_::_,[],h=>by simp at h
def ZV{f:E->E->E}{R:E->E->Prop}(d:∀a b,R b (f a b)):∀(as c:List E),Y as=Y c->aR R c (Ej f as c)|[],[],_=>trivial|a::as,b::c,h=>⟨d a b,ZV d as c (by simpa using h)⟩|[],_::_,h=>by simp at h|_::_,[],h=>by simp at h
theorem aR.gi{R:C->C->Prop}:∀{as c:List E},aR (λa b=>R (cE a) (cE b)) as c->aR R (aV as) (aV c)|[],[],_=>trivial|_::_,_::_,h=>⟨h.1,aR.gi h.2⟩
theorem alc{f:E->E->E}(c:∀a b,eb (cE a) (cE (f a b)))(v u:aP):nt (aM v) (aM (ov f v u)):=by unfold ov;split;exact c _ _;split;rename_i h;exact aR.gi (Qk c _ _ (by simpa using h));trivial;trivial
def ald{f:E->E->E}(c:∀a b,ed a (f a b))(v u:aP):gY v (ov f v u):=by unfold ov;split;exact c _ _;split;rename_i h;exact Qk c _ _ (by simpa using h);trivial;trivial
def ale{f:E->E->E}(c:∀a b,eb (cE b) (cE (f a b)))(v u:aP):nt (aM u) (aM (ov f v u)):=by unfold ov;split;exact c _ _;split;rename_i h;exact aR.gi (ZV c _ _ (by simpa using h));trivial;trivial
def alf{cs:List E}:∀{as d:List E},aR ed cs as->aR ed cs d->aR (λb x=>eb (cE b) (cE x)) d (Ej qq as d):=by
 induction cs with
 |nil=>intro as d h1 h2;cases as<;>cases d<;>first|trivial|exact h1.elim|exact h2.elim
 |cons c cs e=>
  intro as d h1 h2;cases as with
  |nil=>exact aaY h1|cons a as=>
   cases d with|nil=>exact aaY h2|cons b d=>exact⟨Qj h1.1 h2.1,e h1.2 h2.2⟩
def alg{v0 v u:aP}(h:gY v0 v)(a:gY v0 u):nt (aM u) (aM (ov qq v u)):=by
 unfold ov;split;cases v0 with|one c=>exact Qj h a|_=>exact aaY h
 split;cases v0 with|agg cs=>exact aR.gi (alf h a)|_=>exact aaY h
 trivial;trivial
def Ek(c:Bool)(d:eL)(q:bK):List (U×aP)->List (U×aP)
 |[]=>[]|(t,v)::r=>(t,match jy (.tmp t) d with|true=>ov (yq c) v (cO t q.cm)|false=>ov qq v (cO t q.cm))::Ek c d q r
def qr(c:Bool)(d:eL)(k:aD):U->List E->List E->List E
 |j,a::as,b::e=>(match whole (.box k) d||part (.box k) j d with|true=>yq c a b|false=>qq a b)::qr c d k (j+1) as e
 |_,_,_=>[]
def JS(c:Bool)(d:eL)(q:bK):List (aD×List E)->List (aD×List E)
 |[]=>[]|(k,as)::r=>(k,match cF k q.aI with
  |some a=>(match Y as==Y a with|true=>qr c d k 0 as a|false=>as.map λ_=>.bN)
  |none=>as.map λ_=>.bN)::JS c d q r
def mH(A:List aP)(aC bk:List aD):Bool:=Eh bk A&&aC.all λk=>bk.any (gx k)
def hasB(k:aD)(p:bK):Bool:=match cF k p.aI with|some _=>W|none=>I
def alh(bk:List aD)(p q:bK):Bool:=bk.all λk=>match cF k p.aI,cF k q.aI with|some as,J a=>Y as==Y a|_,_=>I
def merge(A:List aP)(aC:List aD)(c:Bool)(p q:bK):Q bK:=let bk:=(p.aI.map (·.1)).filter λk=>hasB k q
 match decide (p.cI=q.cI)&&mH A aC bk&&alh bk p q with|true=>let d:=p.cH++q.cH;let a:=gf (cx A p) (p.cm.map (·.1)) bk;let b:=gf (cx A q) (q.cm.map (·.1)) bk;J {cm:=Ek c d b a.cm,aI:=JS c d b a.aI,cI:=p.cI,cH:=d}|false=>O
theorem JT(c:Bool)(d:eL)(q:bK)(t:U):∀(l:List (U×aP)),cO t (Ek c d q l)=match jy (.tmp t) d with|true=>ov (yq c) (cO t l) (cO t q.cm)|false=>ov qq (cO t l) (cO t q.cm)
 |[]=>by grind [Ek,cO,ov]|(u,v)::r=>by
  simp only[Ek,cO];cases h:t==u with|true=>grind|false=>exact JT c d q t r
theorem JU(c:Bool)(d:eL)(q:bK)(k:aD):∀(l:List (aD×List E)),cF k (JS c d q l)=match cF k l with
  |some as=>J (match cF k q.aI with
   |some a=>(match Y as==Y a with|true=>qr c d k 0 as a|false=>as.map λ_=>.bN)
   |none=>as.map λ_=>.bN)
  |none=>O
 |[]=>rfl|(u,v)::r=>by
  simp only[JS,cF];cases h:gx k u with|true=>simp_all [lw]|false=>exact JU c d q k r
def ZW(c:Bool)(d:eL)(k:aD):∀(as e:List E)(j:U),Y as=Y e->Y (qr c d k j as e)=Y as|[],[],_,_=>rfl|a::as,b::e,j,h=>by simp[qr,ZW c d k as e (j+1) (by simpa using h)]|[],_::_,_,h=>by simp at h|_::_,[],_,h=>by simp at h
theorem ZX{c:Bool}(f:c=W)(d:eL)(k:aD):∀(as e:List E)(j:U),Y as=Y e->aR (λa x=>eb (cE a) (cE x)) as (qr c d k j as e)|[],[],_,_=>trivial|a::as,b::e,j,h=>by refine⟨?_,ZX f d k as e (j+1) (by simpa using h)⟩;grind [ZR,ZU]|[],_::_,_,h=>by simp at h|_::_,[],_,h=>by simp at h
def ZY{c:Bool}(g:c=I)(d:eL)(k:aD):∀(as e:List E)(j:U),Y as=Y e->(∀i,whole (.box k) d=I->part (.box k) (j+i) d=I->∀a b,as[i]?=J a->e[i]?=J b->∃x,ed x a/\ed x b)->aR (λb x=>eb (cE b) (cE x)) e (qr c d k j as e)
 |[],[],_,_,_=>trivial|a::as,b::e,j,h,hk=>by refine⟨?_,ZY g d k as e (j+1) (by simpa using h) λi h1 h2 x y l hy=>hk (i+1) h1 (by grind) x y (by simpa using l) (by simpa using hy)⟩;split;subst g;exact ZS a b;rename_i f;rw[Bool.or_eq_false_iff]at f;let⟨x,h1,h2⟩:=hk 0 f.1 (by simpa using f.2) a b rfl rfl;exact Qj h1 h2
 |[],_::_,_,h,_=>by simp at h|_::_,[],_,h,_=>by simp at h
def ZZ(c:Bool)(d:eL)(k:aD):∀(as e:List E)(j i:U)(x:E),Y as=Y e->whole (.box k) d=I->part (.box k) (j+i) d=I->(qr c d k j as e)[i]?=J x->∃a,as[i]?=J a/\ed a x|[],[],_,i,x,_,_,_,h=>by simp[qr]at h|a::as,b::e,j,0,x,f,g,l,h=>by grind [qr,ZT]|a::as,b::e,j,i+1,x,f,g,l,h=>by simp only[qr,List.getElem?_cons_succ]at h ⊢;exact ZZ c d k as e (j+1) i x (by simpa using f) g (by grind) h|[],_::_,_,_,_,h,_,_,_=>by simp at h|_::_,[],_,_,_,h,_,_,_=>by simp at h
theorem Z5{cs cs':List E}(h:aR (λa x=>eb (cE a) (cE x)) cs cs'):aR eb (aV cs) (aV cs'):=aR.gi h
section
variable{K:de}{A:List aP}{aC:List aD}{a:Act}{w:World}{p0:bp}{c:Bool}{p q m:bK}
structure jl(K:de)(A:List aP)(aC:List aD):Prop where
 size:K.argv.size=Y A
 keys:∀k b,K.ka k=some b->k∈aC
def jl.bk(a:jl K A aC){bk:List aD}(h:mH A aC bk=W):Eh bk A=W/\∀k b,K.ka k=J b->k∈bk:=by simp only[mH,Bool.and_eq_true]at h;refine⟨h.1,λk b hk=>?_⟩;have:=List.all_eq_true.1 h.2 k (a.keys k b hk);simp_all [A7]
theorem dI.gf(c:jl K A aC){bk:List aD}(b:mH A aC bk=W)(keys:List U)(h:dI K (dM A p) a w):dI K (dM A (gf (cx A p) keys bk)) a w:=by let⟨h1,h2⟩:=c.bk b;refine Qe rfl c.size h1 h2 ?_;rw[Ef];exact h.1
def aZ.A8{p b:bK}(d:K.argv.size=Y A)(h:dI K (dM A p) a w)(c:b.cI=p.cI)(f:∀t,nt (aM (cO t p.cm)) (aM (cO t b.cm))) (e:∀k,match cF k p.aI,cF k b.aI with|some cs,J cs'=>aR eb (aV cs) (aV cs')|none,O=>dL|_,_=>jc):dI K (dM A b) a w:=by
 let⟨⟨β,ω,Z,h⟩,_⟩:=h;refine⟨⟨β,ω,Z,aZ.weak h (λr=>⟨aav (sJ _ r).1 (sJ _ r).1.symm,aav (sJ _ r).2 (sJ _ r).2.symm⟩) (λt=>by grind [JK]) (λk=>?_) λi=>by rw[JM,JM,c]⟩,aav (ZI A _) d.symm⟩;rw[JL,JL];have:=e k;cases h1:cF k p.aI with
 |none=>
  cases h2:cF k b.aI with|none=>exact⟨trivial,λ_=>rfl⟩|some cs'=>grind
 |some cs=>
  cases h2:cF k b.aI with|none=>grind|some cs'=>rw[h1,h2]at this;exact⟨this,λh=>by cases h⟩
def ali(C:jl K A aC)(R:eM p.cH p0 (cx A p))(Z:eM q.cH p0 (cx A q))(hm:merge A aC c p q=J m):(c=W->dI K (dM A p) a w->dI K (dM A m) a w)/\(c=I->dI K (dM A q) a w->dI K (dM A m) a w)/\eM m.cH p0 (cx A m)/\m.cH=p.cH++q.cH:=by
 unfold merge at hm;generalize hbk:((p.aI.map (·.1)).filter λk=>hasB k q)=bk at hm;simp only at hm;split at hm;rename_i S;simp only[Bool.and_eq_true,eW]at S;let⟨⟨r,s⟩,u⟩:=S;cases hm;have hd:eM (p.cH++q.cH) p0 (cx A (gf (cx A p) (p.cm.map (·.1)) bk)):=by
  refine eM.trans ?_ (yp A _ (qp A p) _ _ _);refine⟨λt f=>R.1 t ?_,λk hk=>?_⟩;rw[JO,Bool.or_eq_false_iff]at f;exact f.1;rw[Qg,Bool.or_eq_false_iff]at hk;rcases R.2 k hk.1 with h|⟨cs,l,D,v,E,G⟩
  exact .inl h;refine .inr ⟨cs,l,D,v,E,λj H=>G j ?_⟩;rw[JP,Bool.or_eq_false_iff]at H;exact H.1
 have z:eM (p.cH++q.cH) p0 (cx A (gf (cx A q) (q.cm.map (·.1)) bk)):=eM.trans Z.more (yp A _ (qp A q) _ _ _);generalize n:gf (cx A p) (p.cm.map (·.1)) bk=T at *;generalize o:gf (cx A q) (q.cm.map (·.1)) bk=V at *;have g:∀k,(∃as e,cF k T.aI=J as/\cF k V.aI=J e/\as.length=e.length)\/(cF k T.aI=O/\cF k V.aI=O):=by intro k;rw[<-n,<-o];simp only[gf];rw[vF,vF,kR,kR];by_cases hk:k∈bk;rw[aF hk,aF hk];have:=List.all_eq_true.1 u k hk;grind;grind
 refine⟨λhct N=>?_,λB N=>?_,?_,rfl⟩;have b:=dI.gf C s (p.cm.map (·.1)) N;rw[n]at b;refine aZ.A8 C.size b (by rw[<-n];rfl) (λt=>?_) λk=>?_;grind [JT,alc,ZR,ZU];grind [JU,Z5,ZX];have b:=dI.gf C s (q.cm.map (·.1)) N;rw[o]at b;refine aZ.A8 C.size b (by rw[<-o];exact r) (λt=>?_) λk=>?_;simp only;rw[JT];split;subst B;exact ale ZS _ _;rename_i f;have h1:=hd.1 t f;have h2:=z.1 t f;rw[ou]at h1 h2;exact alg h1 h2;simp only;rw[JU];rcases g k with⟨as,e,h1,h2,h3⟩|⟨h1,h2⟩
 rw[h1,h2];simp only;rw[show(as.length==e.length)=W by simpa using h3];refine Z5 (ZY B _ k as e 0 h3 λi X P x y Y hy=>?_);rw[sj]at P;have d:=hd.2 k X;have F:=z.2 k X;rw[kR,h1]at d;rw[kR,h2]at F;rcases d with d|⟨cs,l,D,v,E,G⟩
 cases d;cases v;rcases F with F|⟨ds,ds',f1,f2,f3,f4⟩
 cases F;grind;rw[h1,h2];trivial;refine⟨λt f=>?_,λk hk=>?_⟩;rw[ou];simp only;rw[JT,f];have:=hd.1 t f;rw[ou]at this;exact gY.trans this (ald ZT _ _);rw[kR];simp only;rw[JU];have d:=hd.2 k hk;rw[kR]at d;rcases g k with⟨as,e,h1,h2,h3⟩|⟨h1,h2⟩
 rw[h1,h2];rw[h1]at d;simp only;rw[show(as.length==e.length)=W by simpa using h3];rcases d with d|⟨cs,l,D,v,E,G⟩
 cases d;cases v;refine .inr ⟨cs,_,D,rfl,aav E (ZW c _ k as e 0 h3).symm,λj H x Y=>?_⟩;let⟨y,y1,y2⟩:=ZZ c _ k as e 0 j x h3 hk (by grind) Y;grind [ed.trans];grind;cases hm
end
def view:Tr (Ex×bK)->Q (Q ay×bK)
 |.dw x=>match x with|(.normal,p)=>J (O,p)|_=>O
 |.br g t e=>match t,e with|.dw (.normal,p),.ai=>J (J g,p)|_,_=>O
 |_=>O
def Z6{α:Type}:Tr α->ay|.ai=>W|_=>I
def sU{α:Type}(g:Q ay)(t:Tr α):Tr α:=
 match g with|none=>t|some g=>.br g t .ai
def Z7:E->E->ay|.aX _ _,.cV _=>W|.cV _,.aX _ _=>W|_,_=>I
def alj(p q:bK):ay:=(p.cm.any λx=>match x.2,cO x.1 q.cm with
 |.one a,.one b=>Z7 a b|_,_=>I)||p.aI.any λx=>match cF x.1 q.aI with|some c=>(x.2.zip c).any λy=>Z7 y.1 y.2|none=>I
def Ql(A:List aP)(aC:List aD)(c:ay)(p q:bK):Q bK:=match alj p q with|true=>O|false=>merge A aC c p q
def alk{A:List aP}{aC:List aD}{c:ay}{p q m:bK}(h:Ql A aC c p q=J m):merge A aC c p q=J m:=by grind [Ql]
def JV(A:List aP)(aC:List aD)(c:ay)(a b:Tr (Ex×bK)):Tr (Ex×bK):=
 match view a,view b with
 |some (g,p),J (h,q)=>match Ql A aC c p q with
  |some m=>sU (match g,h with|none,O=>O|some g,O=>J (!c||g)|none,J h=>J (c||h)|some g,J h=>J (if c=W then g else h)) (.dw (.normal,m))
  |none=>.br c a b
 |some (g,p),O=>match Z6 b with|true=>sU (J (match g with|none=>c|some g=>c&&g)) (.dw (.normal,p))|false=>.br c a b
 |none,J (h,q)=>match Z6 a with|true=>sU (J (match h with|none=> !c|some h=> !c&&h)) (.dw (.normal,q))|false=>.br c a b
 |none,O=>.br c a b
def oy(A:List aP)(aC:List aD):Tr (Ex×bK)->Tr (Ex×bK)|.dw x=>.dw x|.ai=>.ai|.br c a b=>JV A aC c (oy A aC a) (oy A aC b)|.call d o k=>.call d o λx=>oy A aC (k x)|.sum o k k'=>.sum o (λx=>oy A aC (k x)) λx=>oy A aC (k' x)
def JW{t:Tr (Ex×bK)}{g:Q ay}{p:bK}(h:view t=J (g,p)):t=sU g (.dw (.normal,p)):=by unfold view at h;split at h;split at h<;>cases h;rfl;split at h<;>cases h;rfl;cases h
section
variable{K:de}{A:List aP}{aC:List aD}
def Reach(K:de)(A:List aP)(Q:Ex×bK->Prop)(x:Ex×bK):Prop:=∀a w,dI K (dM A x.2) a w->∃y,uV x.1=uV y.1/\Q y/\dI K (dM A y.2) a w
theorem Reach.of{Q:Ex×bK->Prop}{x:Ex×bK}(h:Q x):Reach K A Q x:=λ_ _ a=>⟨x,rfl,h,a⟩
def Reach.idem{Q:Ex×bK->Prop}{x:Ex×bK}(h:Reach K A (Reach K A Q) x):Reach K A Q x:=by intro a w b;let⟨y,h1,h2,h3⟩:=h a w b;let⟨z,c,d,e⟩:=h2 a w h3;grind
def JX{α:Type}{t:Tr α}{Q Q':α->Prop}(h:∀a,Q a->Q' a)(b:t.all Q):t.all Q':=by grind [Tr.AY]
def ft(p0:bp)(A:List aP)(x:Ex×bK):Prop:=(∃l,x.2.cH=l++p0.cH)/\eM x.2.cH p0 (cx A x.2)
theorem El{α:Type}{g:Option ay}{x:α}{Q:α->Prop}:(sU g (.dw x)).all Q↔((∀b,g=J b->b=W)/\Q x):=by
 cases g with|none=>simp[sU,Tr.all]|some b=>cases b<;>simp[sU,Tr.all]
theorem Em{α:Type}{g:Option ay}{x:α}{Q:α->Prop}:(sU g (.dw x)).eI Q↔Q x:=by cases g<;>simp[sU,Tr.eI]
def alm(t:jl K A aC){p0:bp}(c:ay)(a b:Tr (Ex×bK))(n:a.eI (ft p0 A))(kb:b.eI (ft p0 A)):(JV A aC c a b).eI (ft p0 A)/\∀Q,(JV A aC c a b).all Q->(c=W->a.all (Reach K A Q))/\(c=I->b.all (Reach K A Q)):=by have plain:(Tr.br c a b).eI (ft p0 A)/\∀Q,(Tr.br c a b).all Q->(c=W->a.all (Reach K A Q))/\(c=I->b.all (Reach K A Q)):=⟨⟨n,kb⟩,λQ h=>⟨λk=>JX (λ_=>Reach.of) (h.1 k),λk=>JX (λ_=>Reach.of) (h.2 k)⟩⟩;unfold JV;split;rename_i g p h q f i;have ea:=JW f;have o:=JW i;rw[ea,Em]at n;rw[o,Em]at kb;split;rename_i m hm;replace hm:=alk hm;have d:=λa w=>ali (K:=K) (A:=A) (aC:=aC) (a:=a) (w:=w) (p0:=p0) (c:=c) t n.2 kb.2 hm;let⟨_,_,hk,u⟩:=d {tmps:=#[],defers:=[]} default;refine⟨Em.2 ⟨?_,hk⟩,λQ j=>?_⟩;let⟨l,y⟩:=kb.1;grind;rw[El]at j;let⟨z,s⟩:=j;refine⟨λk=>?_,λk=>?_⟩;rw[ea,El];refine⟨λv e=>?_,λa w r=>⟨(.normal,m),rfl,s,(d a w).1 k r⟩⟩;grind;rw[o,El];refine⟨λv e=>?_,λa w r=>⟨(.normal,m),rfl,s,(d a w).2.1 k r⟩⟩;grind;exact plain;rename_i g p f i;split;rename_i x;have ea:=JW f;grind [Em,El,Reach.of];exact plain;rename_i h q f i;split;rename_i x;have o:=JW i;grind [Em,El,Reach.of];exact plain;exact plain
def Ba(n:jl K A aC){p0:bp}:∀(t:Tr (Ex×bK)),t.eI (ft p0 A)->(oy A aC t).eI (ft p0 A)/\∀Q,(oy A aC t).all Q->t.all (Reach K A Q):=by
 intro t;induction t with
 |dw x=>exact λh=>⟨h,λQ e=>Reach.of e⟩|ai=>exact λ_=>⟨trivial,λQ e=>e⟩|br c a b j l=>intro h;let⟨p,q⟩:=j h.1;let⟨kb,r⟩:=l h.2;let⟨h1,h2⟩:=alm n c _ _ p kb;refine⟨h1,λQ e=>?_⟩;let⟨s,u⟩:=h2 Q e;exact⟨λm=>JX (λ_=>Reach.idem) (q _ (s m)),λm=>JX (λ_=>Reach.idem) (r _ (u m))⟩
 |call d o k f=>exact λh=>⟨λx=>(f x (h x)).1,λQ⟨x,g,e⟩=>⟨x,g,(f x (h x)).2 Q e⟩⟩|sum o k k' f i=>exact λh=>⟨⟨λx=>(f x (h.1 x)).1,λx=>(i x (h.2 x)).1⟩,λQ e=>⟨λx g=>(f x (h.1 x)).2 Q (e.1 x g),λx g=>(i x (h.2 x)).2 Q (e.2 x g)⟩⟩
end
inductive Sh where
 |i(k:IntKind)|b|s|l(m:Md)(t:Ty)|n(m:Md)(t:Ty)|p(k:aD)(off:Nat)|dd|u(k:NK)|r(u:TypeId)
@[reducible] def Sh.T:Sh->Type|.i _=>L|.b=>ay|.s=>List ao|.l _ t=>List t.T|.n _ t=>Q (List t.T)|.p _ _=>bY|.dd=>bY|.u _=>bY|.r _=>List (ao×List ao)
def Sh.cB:(h:Sh)->h.T->E|.i k,x=>.i k x|.b,x=>.b x|.s,x=>.s x|.l m t,xs=>.l m t xs|.n m t,o=>.n m t o|.p k off,_=>.aX k off|.dd,_=>.bN|.u k,_=>.cV k|.r z,ps=>.r z ps
def Sh.gN:(h:Sh)->h.T|.i _=>(0:L)|.b=>I|.s=>([]:List ao)|.l _ t=>([]:List t.T)|.n _ t=>(O:Q (List t.T))|.p _ _=>()|.dd=>()|.u _=>()|.r _=>([]:List (ao×List ao))
def Sh.eQ:(h:Sh)->E->Q h.T
 |.i k=>λc=>match c with|.i k' x=>if k'=k then J x else O|_=>O
 |.b=>λc=>vl c|.s=>λc=>match c with|.s x=>J x|_=>O
 |.l m t=>λc=>match c with|.l a d xs=>if a=m then(if h:d=t then J (h▸xs)else O)else O|_=>O
 |.n m t=>λc=>match c with|.l a d xs=>if a=m then(if h:d=t then J (J (h▸xs))else O)else O|.n a d o=>if a=m then(if h:d=t then J (h▸o)else O)else O|.nil=>J O|_=>O
 |.p k off=>λc=>match c with
  |.aX k' e=>match gx k k'&&off==e with|true=>J ()|false=>O
  |_=>O
 |.dd=>λc=>match c with|.bN=>J ()|_=>O
 |.u k=>λc=>match c with|.cV k'=>if k'=k then J ()else O|_=>O
 |.r z=>λc=>match c with|.r f ps=>if f=z then J ps else O|_=>O
theorem Sh.lZ:∀{h:Sh}{c:E}{x:h.T},h.eQ c=J x->cE (h.cB x)=cE c
 |.i k,c,x,e=>by simp only[Sh.eQ]at e;split at e;split at e;rename_i h;subst h;cases e;rfl;cases e;cases e
 |.r z,c,x,e=>by simp only[Sh.eQ]at e;split at e;split at e;rename_i h;subst h;cases e;rfl;cases e;cases e
 |.b,c,x,e=>acC (Jw e)|.dd,c,x,e=>by simp only[Sh.eQ]at e;split at e<;>cases e;rfl
 |.u k,c,x,e=>by simp only[Sh.eQ]at e;split at e;split at e;rename_i h;subst h;rfl;cases e;cases e
 |.p k off,c,x,e=>by simp only[Sh.eQ]at e;split at e;split at e;rename_i h;simp only[cr,dK,lw]at h;obtain⟨rfl,rfl⟩:=h;rfl;cases e;cases e
 |.s,c,x,e=>by simp only[Sh.eQ]at e;split at e<;>cases e;rfl
 |.l m t,c,x,e=>by simp only[Sh.eQ]at e;split at e;split at e;rename_i h;subst h;split at e;rename_i h;subst h;cases e;rfl;cases e;cases e;cases e
 |.n m t,c,x,e=>by simp only[Sh.eQ]at e;split at e;split at e;rename_i h;subst h;split at e;rename_i h;subst h;cases e;rfl;cases e;cases e;split at e;rename_i h;subst h;split at e;rename_i h;subst h;cases e;rfl;cases e;cases e;cases e;rfl;cases e
inductive Pl where
 |bd(t:Nat)(h:Sh)|oz(t:Nat)(r:Ty)|cell(k:aD)(j:Nat)(h:Sh)
@[reducible] def Pl.T:Pl->Type|.bd _ h=>h.T|.oz _ r=>r.T|.cell _ _ h=>h.T
def Pl.gN:(p:Pl)->p.T|.bd _ h=>h.gN|.oz _ r=>r.zero|.cell _ _ h=>h.gN
@[reducible] def VT:List Pl->Type
  |[]=>bY|p::r=>match r with|[]=>p.T|q::r=>p.T×VT (q::r)
def VT.gN:(l:List Pl)->VT l|[]=>()|[p]=>p.gN|p::q::r=>(p.gN,VT.gN (q::r))
def sV(t:U)(v:aP):List (U×aP)->List (U×aP)
 |[]=>[(t,v)]|(u,x)::r=>match t==u with|true=>(t,v)::r|false=>(u,x)::sV t v r
def setB(k:aD)(j:U)(c:E):List (aD×List E)->List (aD×List E)
 |[]=>[]|(q,x)::r=>match gx k q with|true=>(q,lq x j c)::r|false=>(q,x)::setB k j c r
def Pl.aG:(q:Pl)->bK->Q q.T
 |.bd t h=>λp=>match cO t p.cm with|.one c=>h.eQ c|_=>O
 |.oz t r=>λp=>match cO t p.cm with|.agg cs=>ls r cs|_=>O
 |.cell k j h=>λp=>match cF k p.aI with
  |some cs=>match cs[j]? with|some c=>h.eQ c|none=>O
  |none=>O
def Pl.put:(q:Pl)->q.T->bK->bK
 |.bd t h,x,p=>{p with cm:=sV t (.one (h.cB x)) p.cm}
 |.oz t r,x,p=>{p with cm:=sV t (.agg (eX r x)) p.cm}
 |.cell k j h,x,p=>{p with aI:=setB k j (h.cB x) p.aI}
def vG:(l:List Pl)->bK->Q (VT l)
 |[],_=>J ()|[q],p=>q.aG p|q::a::r,p=>match q.aG p,vG (a::r) p with|some x,J y=>J (x,y)|_,_=>O
def dD:(l:List Pl)->VT l->bK->bK|[],_,b=>b|[q],x,b=>q.put x b|q::a::r,x,b=>q.put x.1 (dD (a::r) x.2 b)
def Pl.iu(t:U):Pl->ay|.bd u _=>t==u|.oz u _=>t==u|_=>I
def Pl.kf(k:aD)(j:U):Pl->ay|.cell q i _=>gx k q&&j==i|_=>I
theorem yr(t u:U)(v:aP):∀(l:List (U×aP)),cO u (sV t v l)=match u==t with|true=>v|false=>cO u l
 |[]=>by simp only[sV,cO]<;>cases u==t<;>rfl
 |(q,x)::r=>by
  simp only[sV];cases h:t==q with|true=>grind [cO]|false=>simp only[cO,yr t u v r];grind
def Qm(k q:aD)(j:U)(c:E):∀(l:List (aD×List E)),cF q (setB k j c l)=match gx q k with|true=>(cF q l).map λx=>lq x j c|false=>cF q l
 |[]=>by simp only[setB,cF];cases gx q k<;>rfl
 |(u,x)::r=>by
  simp only[setB];cases h:gx k u with|true=>grind [lw,cF]|false=>simp only[cF,Qm k q j c r];grind [lw]
def Pl.JY(q:Pl)(x:q.T)(b:bK)(t:U)(h:q.iu t=I):cO t (q.put x b).cm=cO t b.cm:=by
 cases q with|bd u sh=>simp only[Pl.iu]at h;simp only[Pl.put,yr,h]|oz u sh=>simp only[Pl.iu]at h;simp only[Pl.put,yr,h]|cell k j sh=>rfl
def Pl.Z8{q:Pl}{x:q.T}{p:bK}(h:q.aG p=J x)(b:bK)(t:U)(a:q.iu t=W):aM (cO t (q.put x b).cm)=aM (cO t p.cm):=by
 cases q with|bd u sh=>grind [Pl.iu,Pl.aG,Pl.put,yr,aM,Sh.lZ]|oz u sh=>grind [Pl.iu,Pl.aG,Pl.put,yr,aM,kQ,Jr]|cell k j sh=>cases a
def Qn{p:bK}:∀(l:List Pl)(y:VT l)(b:bK),vG l p=J y->∀t,(l.any (Pl.iu t)=W/\aM (cO t (dD l y b).cm)=aM (cO t p.cm))\/(l.any (Pl.iu t)=I/\cO t (dD l y b).cm=cO t b.cm)
 |[],_,b,_,t=>.inr ⟨rfl,rfl⟩|[q],y,b,h,t=>by
  simp only[List.any_cons,List.any_nil,Bool.or_false];cases a:q.iu t with|true=>exact .inl ⟨rfl,Pl.Z8 h b t a⟩|false=>exact .inr ⟨rfl,Pl.JY q y b t a⟩
 |q::c::r,y,b,h,t=>by
  simp only[vG]at h;split at h;rename_i x ys h1 h2;cases h;rw[List.any_cons];cases a:q.iu t with|true=>exact .inl ⟨rfl,Pl.Z8 h1 _ t a⟩|false=>simp only[dD];rw[Pl.JY q x _ t a];exact Qn (c::r) ys b h2 t
  cases h
theorem Bb:∀(l:List Pl)(y:VT l)(b:bK)(t:U),l.any (Pl.iu t)=I->cO t (dD l y b).cm=cO t b.cm|[],_,b,t,_=>rfl|[q],y,b,t,h=>Pl.JY q y b t (by simpa using h)|q::a::r,y,b,t,h=>by rw[List.any_cons,qS]at h;simp only[dD];rw[Pl.JY q _ _ t h.1];exact Bb (a::r) y.2 b t h.2
def nu(l:List Pl)(k:aD)(R:U->E->Prop)(o o':Q (List E)):Prop:=
 match o,o' with|none,O=>dL|some a,J cs=>Y a=Y cs/\∀j c,cs[j]?=J c->(l.any (Pl.kf k j)=W/\R j c)\/(l.any (Pl.kf k j)=I/\a[j]?=J c)|_,_=>jc
def nu.step{l:List Pl}{k:aD}{R:U->E->Prop}{q:Pl}{x:q.T}{b a:bK}(h:nu l k R (cF k b.aI) (cF k a.aI))(m:∀j sh(e:q=.cell k j sh),R j (sh.cB (by subst e;exact x))):nu (q::l) k R (cF k b.aI) (cF k (q.put x a).aI):=by
 have other:(∀j,q.kf k j=I)->cF k (q.put x a).aI=cF k a.aI->nu (q::l) k R (cF k b.aI) (cF k (q.put x a).aI):=by
  intro h1 h2;rw[h2];revert h;cases cF k b.aI with
  |none=>cases cF k a.aI<;>exact λh=>h
  |some g=>
   cases cF k a.aI with|none=>exact λh=>h|some cs=>intro h;refine⟨h.1,λj c d=>?_⟩;rw[List.any_cons,h1 j];exact h.2 j c d
 cases q with
 |bd u sh=>exact other (λ_=>rfl) rfl|oz u sh=>exact other (λ_=>rfl) rfl|cell k' i sh=>
  cases hk:gx k k' with
  |false=>simp_all [Pl.kf,Pl.put,Qm]|true=>
   have e:=(lw k k').1 hk;subst e;simp only[Pl.put,Qm,hk];revert h;cases cF k b.aI with
   |none=>cases cF k a.aI<;>exact λh=>h
   |some g=>
    cases cF k a.aI with|none=>exact λh=>h|some cs=>intro h;simp only[m6];refine⟨by rw[sQ];simpa using h.1,λj c d=>?_⟩;rw[sQ]at d;rw[List.any_cons];by_cases f:j=i;grind [Pl.kf];rw[List.getElem?_set_ne (Ne.symm f)]at d;have:Pl.kf k j (.cell k i sh)=I:=(by simp[Pl.kf,f]);rw[this];exact h.2 j c d
def Qo(p:bK)(k:aD)(j:U)(c:E):Prop:=∃cs c0,cF k p.aI=J cs/\cs[j]?=J c0/\cE c=cE c0
def Pl.Z9{k:aD}{j:U}{sh:Sh}{p:bK}{x:sh.T}(h:(Pl.cell k j sh).aG p=J x):Qo p k j (sh.cB x):=by simp only[Pl.aG]at h;split at h;rename_i cs a;split at h;rename_i c b;exact⟨cs,c,a,b,Sh.lZ h⟩;cases h;cases h
def JZ{p:bK}(k:aD):∀(l:List Pl)(y:VT l)(b:bK),vG l p=J y->nu l k (Qo p k) (cF k b.aI) (cF k (dD l y b).aI)
 |[],_,b,_=>by
  simp only[dD,nu];cases cF k b.aI with|none=>trivial|some d=>grind
 |[q],y,b,h=>by have a:nu [] k (Qo p k) (cF k b.aI) (cF k b.aI):=JZ k [] () b rfl;exact nu.step a λj sh e=>by subst e;exact Pl.Z9 h|q::c::r,y,b,h=>by
  simp only[vG]at h;split at h;rename_i x ys h1 h2;cases h;exact nu.step (JZ k (c::r) ys b h2) λj sh e=>by subst e;exact Pl.Z9 h1
  cases h
def Bc(k:aD):∀(l:List Pl)(y:VT l)(b:bK),nu l k (λ_ _=>dL) (cF k b.aI) (cF k (dD l y b).aI)
 |[],_,b=>by
  simp only[dD,nu];cases cF k b.aI with|none=>trivial|some d=>grind
 |[q],y,b=>by have a:nu [] k (λ_ _=>dL) (cF k b.aI) (cF k b.aI):=Bc k [] () b;exact nu.step a λj sh e=>trivial|q::c::r,y,b=>nu.step (Bc k (c::r) y.2 b) λj sh e=>trivial
def Pl.aac(q:Pl)(x:q.T)(b:bK):(q.put x b).cI=b.cI/\(q.put x b).cH=b.cH:=by cases q<;>exact⟨rfl,rfl⟩
theorem yt:∀(l:List Pl)(y:VT l)(b:bK),(dD l y b).cI=b.cI/\(dD l y b).cH=b.cH|[],_,b=>⟨rfl,rfl⟩|[q],y,b=>Pl.aac q y b|q::a::r,y,b=>by simp only[dD];let⟨h1,h2⟩:=Pl.aac q y.1 (dD (a::r) y.2 b);let⟨h3,c⟩:=yt (a::r) y.2 b;grind
structure ie where
 live:List Nat
 fP:List aD
 vs:List Pl
structure gO where
 head:ie
 gj:List (Ex×ie)
 rng:Option Nat:=none
def aln:E->ay|.bN=>W|_=>I
def Be(a c:E):ay:=aln a||(lY a&&lY c)
def J0:List E->List E->ay|[],[]=>W|a::as,c::cs=>Be a c&&J0 as cs|_,_=>I
def Qp(v u:aP):ay:=
 match v,u with|.undef,_=>W|.one a,.one c=>Be a c|.agg as,.agg cs=>J0 as cs|_,_=>I
def yu(l:List Pl)(d:eL)(k:aD):U->List E->List E->ay|_,[],[]=>W|j,a::as,c::cs=>(l.any (Pl.kf k j)||(!part (.box k) j d&&Be a c))&&yu l d k (j+1) as cs|_,_,_=>I
def base(A:List aP)(a:ie)(h:bK):bK:={gf (cx A h) a.live a.fP with cH:=[]}
def alo(l:List Pl)(d:eL)(p:bK)(b:List (U×aP)):ay:=b.all λx=>l.any (Pl.iu x.1)||(!jy (.tmp x.1) d&&Qp x.2 (cO x.1 p.cm))
def alp(l:List Pl)(k:aD)(n:U):ay:=(List.range n).all λj=>l.any (Pl.kf k j)
def alq(l:List Pl)(d:eL)(p:bK)(b:List (aD×List E)):ay:=b.all λx=>match cF x.1 p.aI with|some cs=>(!whole (.box x.1) d||alp l x.1 (Y x.2))&&yu l d x.1 0 x.2 cs|none=>I
def fit(A:List aP)(aC:List aD)(a:ie)(b p:bK):Q (VT a.vs):=
 let bk:=b.aI.map (·.1)
 let c:=gf (cx A p) (p.cm.map (·.1)) bk
 match decide (p.cI=b.cI)&&mH A aC bk&&alo a.vs p.cH c b.cm&&alq a.vs p.cH c b.aI with
 |true=>vG a.vs c
 |false=>O
theorem Qq{z a c:E}(h:Be a c=W)(h1:ed z a)(h2:ed z c):eb (cE c) (cE a):=by
 simp only[Be,pP,cr]at h;rcases h with h|⟨h,b⟩
 ·cases a<;>first|(cases h;done)|exact .inr rfl
 rw[ZN h1 h2 h b];exact .inl rfl
def aae:∀{b as cs:List E},J0 as cs=W->aR ed b as->aR ed b cs->aR eb (aV cs) (aV as)|[],[],[],_,_,_=>trivial|z::b,a::as,c::cs,h,h1,h2=>by simp only[J0,cr]at h;exact⟨Qq h.1 h1.1 h2.1,aae h.2 h1.2 h2.2⟩|[],_::_,_,_,h1,_=>aaY h1|_::_,[],_,_,h1,_=>aaY h1|[],[],_::_,_,_,h2=>aaY h2|_::_,_::_,[],_,_,h2=>aaY h2
theorem alr{z v u:aP}(h:Qp v u=W)(h1:gY z v)(h2:gY z u):nt (aM u) (aM v):=by
 unfold Qp at h;split at h;cases u<;>trivial;cases z with|one z=>exact Qq h h1 h2|_=>exact aaY h1
 cases z with|agg z=>exact aae h h1 h2|_=>exact aaY h1
 cases h
def aaf{l:List Pl}{d:eL}{k:aD}:∀{as cs:List E}{j:U},yu l d k j as cs=W->Y as=Y cs
 |[],[],_,_=>rfl|a::as,c::cs,j,h=>by simp only[yu,cr]at h;simp[aaf h.2]|[],_::_,_,h=>by cases h
 |_::_,[],_,h=>by cases h
def aag{l:List Pl}{d:eL}{k:aD}:∀{as cs:List E}{j i:U}{a c:E},yu l d k j as cs=W->as[i]?=J a->cs[i]?=J c->l.any (Pl.kf k (j+i))=W\/(part (.box k) (j+i) d=I/\Be a c=W)
 |a::as,c::cs,j,0,x,y,h,b,hy=>by simp_all [yu]|a::as,c::cs,j,i+1,x,y,h,b,hy=>by simp only[yu,cr]at h;rw[show j+(i+1)=j+1+i by omega];exact aag h.2 (by simpa using b) (by simpa using hy)|[],[],_,_,_,_,_,b,_=>by simp at b|[],_::_,_,_,_,_,h,_,_=>by cases h
 |_::_,[],_,_,_,_,h,_,_=>by cases h
def Qr{t:U}:∀{l:List (U×aP)},cO t l=.undef\/∃v,(t,v)∈l/\cO t l=v
 |[]=>.inl rfl
 |(u,x)::r=>by
  simp only[cO]
  cases h:t==u with
  |true=>grind
  |false=>rcases Qr (t:=t) (l:=r)with h|⟨v,h1,h2⟩
          ·exact .inl h
          grind
def Qs{k:aD}:∀{l:List (aD×List E)}{cs:List E},cF k l=J cs->(k,cs)∈l|(u,x)::r,cs,h=>by simp only[cF]at h;split at h;simp_all [lw];exact List.mem_cons_of_mem _ (Qs h)
theorem aah{k:aD}:∀{l:List (aD×List E)},cF k l=O->k ∉ l.map (·.1)|[],_=>by simp|(u,x)::r,h=>by simp only[cF]at h;split at h;cases h;rename_i hk;simp only[List.map_cons,List.mem_cons,not_or];refine⟨λe=>?_,aah h⟩;grind [lw]
section
variable{K:de}{A:List aP}{aC:List aD}{a:Act}{w:World}
def Qt(Y:jl K A aC){d:ie}{h b p:bK}{y:VT d.vs}(hk:eM p.cH (cx A h) (cx A p)) (hs:∀t,d.vs.any (Pl.iu t)=I->gY (cO t h.cm) (cO t b.cm)) (hb:∀k u,cF k b.aI=J u->∃cs,cF k h.aI=J cs/\cs.length=u.length/\∀j,d.vs.any (Pl.kf k j)=I->∀c,u[j]?=J c->∃c0,cs[j]?=J c0/\ed c0 c) (e:fit A aC d b p=J y)(hr:dI K (dM A p) a w):dI K (dM A (dD d.vs y b)) a w:=by
 unfold fit at e;generalize hbk:b.aI.map (·.1)=bk at e;simp only at e;split at e;rename_i Z;simp only[cr,eW]at Z;let⟨⟨⟨ayZ,N⟩,h3⟩,h4⟩:=Z;have P:=dI.gf Y N (p.cm.map (·.1)) hr;have E:eM p.cH (cx A h) (cx A (gf (cx A p) (p.cm.map (·.1)) bk)):=eM.trans hk (yp A _ (qp A p) _ _ _);have hfr:(gf (cx A p) (p.cm.map (·.1)) bk).cI=p.cI:=rfl;have n:∀k,cF k b.aI=O->cF k (gf (cx A p) (p.cm.map (·.1)) bk).aI=O:=by grind [gf,vF,aah]
 generalize hp1:gf (cx A p) (p.cm.map (·.1)) bk=p1 at *;have m:=e;refine aZ.A8 Y.size P (by grind [yt]) (λt=>?_) λk=>?_;rcases Qn d.vs y b m t with⟨_,h2⟩|⟨h1,h2⟩
 rw[h2];cases hv:cO t p1.cm with|one c=>exact .inl rfl|agg cs=>exact eb.ot _|bw vs=>exact aR.same (R:=λp q:ay×List C=>p.1=q.1/\aR eb p.2 q.2) (λp=>⟨rfl,eb.ot _⟩) _|undef=>trivial
 rw[h2];rcases Qr (t:=t) (l:=b.cm)with o|⟨v,S,hv⟩
 rw[o];trivial;have:=List.all_eq_true.1 h3 (t,v) S;simp only[h1,Bool.false_or,cr,lL]at this;let⟨i,T⟩:=this;have B:=E.1 t i;grind [ou,alr];have f:=JZ k d.vs y b m;cases g:cF k b.aI with
 |none=>
  rw[g]at f;rw[n k g];cases G:cF k (dD d.vs y b).aI with|none=>trivial|some cs=>rw[G]at f;exact f.elim
 |some u=>
  rw[g]at f;have S:=Qs g;have:=List.all_eq_true.1 h4 (k,u) S;simp only at this;cases r:cF k p1.aI with
  |none=>grind|some cs=>
   rw[r]at this;simp only[cr,pP,lL]at this;let⟨i,T⟩:=this;cases G:cF k (dD d.vs y b).aI with
   |none=>rw[G]at f;exact f.elim|some ds=>
    rw[G]at f;let⟨f1,f2⟩:=f;have hlen:=aaf T;refine aR.dU (by simp_all) λj x z V X=>?_;simp only[aV,List.getElem?_map]at V X;cases F:ds[j]? with
    |none=>grind|some c'=>
     rw[F]at X;cases X;cases s:cs[j]? with
     |none=>grind|some c0=>
      rw[s]at V;cases V;rcases f2 j c' F with⟨_,xQ,c1,B,D,e3⟩|⟨B,D⟩
      rw[r]at B;cases B;rw[s]at D;cases D;exact .inl e3;have o:=aag T D s;rw[sj]at o;rcases o with o|⟨hu1,hu2⟩
      rw[B]at o;cases o;let⟨hs0,q1,q2,q3⟩:=hb k u g;let⟨x0,x1,x2⟩:=q3 j B c' D;have i:whole (.box k) p.cH=I:=by
       rcases i with i|i
       exact i;have:=List.all_eq_true.1 i j (List.mem_range.2 (List.getElem?_eq_some_iff.1 D).1);grind
      have H:=E.2 k i;rw[kR,kR,q1,r]at H;rcases H with H|⟨as,as',r1,r2,r3,r4⟩
      cases H;grind [Qq]
 cases e
theorem J1(a:ie)(h:bK)(t:U):gY (cO t h.cm) (cO t (base A a h).cm):=by have:=(yp A (cx A h) (qp A h) a.live a.fP []).1 t rfl;rw[ou,ou]at this;exact this
theorem J2(a:ie)(h:bK)(k:aD)(bs:List E)(hk:cF k (base A a h).aI=J bs):∃cs,cF k h.aI=J cs/\Y cs=Y bs/\∀(j:U)c,bs[j]?=J c->∃c0,cs[j]?=J c0/\ed c0 c:=by
 have:=(yp A (cx A h) (qp A h) a.live a.fP []).2 k rfl;rw[kR,kR]at this;have d:cF k (gf (cx A h) a.live a.fP).aI=J bs:=hk;rw[d]at this;rcases this with h|⟨cs,f,b,g,i,l⟩
 cases h;cases g;cases e:cF k h.aI with
 |none=>rw[e]at b;cases b
 |some x=>rw[e]at b;cases b;exact⟨_,rfl,i,λj c m=>l j rfl c m⟩
def covers(H a:ie):ay:=H.vs.all λq=>match q with|.bd t _|.oz t _=>a.vs.any (Pl.iu t)|| !aa1 a.live t|.cell k j _=>a.vs.any (Pl.kf k j)|| !aa1 a.fP k
theorem als{H a:ie}(h:covers H a=W){t:U}(e:a.vs.any (Pl.iu t)=I)(f:t∈a.live):H.vs.any (Pl.iu t)=I:=by
 cases b:H.vs.any (Pl.iu t)with|false=>rfl|true=>let⟨q,c,d⟩:=List.any_eq_true.1 b;have:=List.all_eq_true.1 h q c;grind [Pl.iu]
theorem alu{H a:ie}(h:covers H a=W){k:aD}{j:U}(e:a.vs.any (Pl.kf k j)=I)(hk:k∈a.fP):H.vs.any (Pl.kf k j)=I:=by
 cases b:H.vs.any (Pl.kf k j)with|false=>rfl|true=>let⟨q,c,d⟩:=List.any_eq_true.1 b;have:=List.all_eq_true.1 h q c;grind [Pl.kf,lw]
def aai{a:ie}{h:bK}{t:U}(b:t ∉ a.live):cO t (base A a h).cm=.undef:=by show cO t (yn (cx A h) a.fP a.live)=_;rw[Eg,aU b]
def alv{a:ie}{h:bK}{k:aD}{bs:List E}(hk:cF k (base A a h).aI=J bs):k∈a.fP:=by have hk:cF k (yo (cx A h) a.fP a.fP)=J bs:=hk;simp_all [vF]
def alw(o:jl K A aC){H b:ie}(D:covers H b=W){h q hx p:bK}{x:VT H.vs}{y:VT b.vs}(l:∀t,aa1 b.live t=W->cO t q.cm=cO t (dD H.vs x h).cm)(e:q.aI=(dD H.vs x h).aI) (r:∀t,aa1 b.live t=W->gY (cO t h.cm) (cO t hx.cm))(m:hx.aI=h.aI)(hk:eM p.cH (cx A q) (cx A p)) (f:fit A aC b (base A b hx) p=J y)(s:dI K (dM A p) a w):dI K (dM A (dD b.vs y (base A b hx))) a w:=by
 refine Qt o hk (λt u=>?_) (λk v g=>?_) f s;by_cases z:t∈b.live;grind [Bb,als,gY.trans,J1];rw[aai z];trivial;have B:=alv g;let⟨cs,h1,h2,h3⟩:=J2 b hx k v g;rw[m]at h1;have d:=Bc k H.vs x h;rw[h1]at d;rw[e];cases i:cF k (dD H.vs x h).aI with
 |none=>rw[i]at d;exact aaY d|some ds=>
  rw[i]at d;refine⟨ds,rfl,aav d.1.symm h2,λj u c n=>?_⟩;let⟨c0,E,F⟩:=h3 j c n;have C:j<Y ds:=by rw[<-d.1];grind
  rcases d.2 j ds[j] (List.getElem?_eq_getElem C)with⟨f1,_⟩|⟨_,f2⟩
  grind [alu];grind
def alx(n:jl K A aC){H:ie}{h q p:bK}{x:VT H.vs}{y:VT H.vs}{d:U}(hd:cO d h.cm=.undef)(g:∀t,t≠d->cO t q.cm=cO t (dD H.vs x h).cm)(e:q.aI=(dD H.vs x h).aI)(hk:eM p.cH (cx A q) (cx A p)) (f:fit A aC H h p=J y)(o:dI K (dM A p) a w):dI K (dM A (dD H.vs y h)) a w:=by
 refine Qt n hk (λt l=>?_) (λk v i=>?_) f o;by_cases r:t=d;subst r;rw[hd];trivial;grind [Bb,gY.same];have b:=Bc k H.vs x h;rw[i]at b;rw[e];cases m:cF k (dD H.vs x h).aI with
 |none=>rw[m]at b;exact aaY b|some ds=>
  rw[m]at b;refine⟨ds,rfl,acC b.1,λj l c s=>?_⟩;have u:j<Y ds:=by rw[<-b.1];grind
  rcases b.2 j ds[j] (List.getElem?_eq_getElem u)with⟨f1,_⟩|⟨_,f2⟩
  rw[l]at f1;cases f1;simp_all [ed.same]
def aly(i:jl K A aC){H:ie}{h p:bK}{x:VT H.vs}{y:VT H.vs}(hk:eM p.cH (cx A (dD H.vs x h)) (cx A p)) (d:fit A aC H h p=J y)(l:dI K (dM A p) a w):dI K (dM A (dD H.vs y h)) a w:=by
 refine Qt i hk (λt e=>?_) (λk o f=>?_) d l;rw[Bb H.vs x h t e];exact gY.same _;have b:=Bc k H.vs x h;rw[f]at b;cases g:cF k (dD H.vs x h).aI with
 |none=>rw[g]at b;exact aaY b|some ds=>
  rw[g]at b;refine⟨ds,rfl,acC b.1,λj e c m=>?_⟩;have n:j<Y ds:=by rw[<-b.1];grind
  rcases b.2 j ds[j] (List.getElem?_eq_getElem n)with⟨f1,_⟩|⟨_,f2⟩
  rw[e]at f1;cases f1;simp_all [ed.same]
end
def eC{σ ρ:Type}(f:σ->Q (σ⊕ρ)):U->σ->Q ρ
 |0,_=>O|n+1,x=>match f x with|some (.inl y)=>eC f n y|some (.inr z)=>J z|none=>O
def fuel:U:=340282366920938463463374607431768211456
def bR{σ ρ:Type}(f:σ->Q (σ⊕ρ))(x:σ):Q ρ:=eC f fuel x
def kS:List (Ex×ie)->Type
 |[]=>bY|e::r=>match r with|[]=>VT e.2.vs|a::r=>VT e.2.vs⊕kS (a::r)
def kS.gN:(l:List (Ex×ie))->kS l|[]=>()|[e]=>VT.gN e.2.vs|e::_::_=>.inl (VT.gN e.2.vs)
def nw:List Pl->eL|[]=>[]|.bd t _::r=>(.tmp t,O)::nw r|.oz t _::r=>(.tmp t,O)::nw r|.cell k j _::r=>(.box k,J (List.replicate j I++[W]))::nw r
def J3(A:List aP)(h:bK)(d:eL)(a:ie)(y:VT a.vs):bK:={dD a.vs y (base A a h)with cH:=nw a.vs++d}
def En:Ex->Ex->ay|.normal,.normal=>W|.ret,.ret=>W|.exit i,.exit j=>i==j|_,_=>I
def rI(A:List aP)(aC:List aD)(H:ie)(h p:bK)(e:Ex):(l:List (Ex×ie))->Q (kS l)
 |[]=>O|[x]=>match En e x.1&&covers H x.2 with|true=>fit A aC x.2 (base A x.2 h) p|false=>O
 |x::y::r=>match En e x.1 with
  |true=>match covers H x.2 with
   |true=>match fit A aC x.2 (base A x.2 h) p with|some v=>J (.inl v)|none=>O
   |false=>O
  |false=>match rI A aC H h p e (y::r)with|some v=>J (.inr v)|none=>O
def yv(A:List aP)(aC:List aD)(R:gO)(h:bK)(x:Ex×bK):Tr (VT R.head.vs⊕kS R.gj):=
 match x.1 with
 |.normal=>match fit A aC R.head h x.2 with|some y=>.dw (.inl y)|none=>.ai
 |e=>match rI A aC R.head h x.2 e R.gj with|some y=>.dw (.inr y)|none=>.ai
def vH(A:List aP)(h:bK)(d:eL):(l:List (Ex×ie))->kS l->Tr (Ex×bK)|[],_=>.ai|[x],y=>.dw (x.1,J3 A h d x.2 y)|x::a::r,s=>.sum s (λy=>.dw (x.1,J3 A h d x.2 y)) λz=>vH A h d (a::r) z
structure iB where
 af:eR
 keys:List Nat
 hX:List aD
def nl:Code->U|.seq a b=>nl a+nl b|.cond _ a b=>nl a+nl b|.block _ b=>nl b|.loop b=>nl b+1|.scope b=>nl b|_=>0
def Qu(c:Operand)(p:bK):Q E:=
 match c with
 |.tmp t=>match cO t p.cm with|.one c=>J c|_=>O
 |.const (.bool b)=>J (kb b)|_=>O
def l5(d:eL)(x:Ex×bK):Ex×bK:=(x.1,{x.2 with cH:=x.2.cH++d})
def fJ(p:bK):bK:={p with cH:=[]}
def vI(F:iB)(b:bZ cR)(a:ay)(x:bp×List (List aO×List aO)):Tr (Ex×bK):=
 match a with
 |false=>.dw (.normal,gf x.1 F.keys F.hX)|true=>match IX b x.2 with|true=>.dw (.normal,gf x.1 F.keys F.hX)|false=>.ai
def pl(id:U)(x:Ex×bK):Ex×bK:=
 match x.1 with
 |.exit i=>match i==id with|true=>(.normal,x.2)|false=>x
 |_=>x
def bK.bd(p:bK)(t:U)(v:aP):bK:={p with cm:=sV t v p.cm}
def J4(it d:U):Md->ay|.bm r _ hv cv _=>hv==0&&cv==0&& !ic r (.tmp it)&& !ic r (.tmp d)|_=>W
def Qv(it d:U)(bk:List aD):E->ay
 |.l m _ _=>J4 it d m|.n m _ _=>J4 it d m|.it m _ _ _=>match m with|.bm .. =>I|_=>W
 |.ea .. =>I|.gW _=>I|.aX k _=>bk.any (gx k)|.dj _ caps=>caps.all λp=>bk.any (gx p.1)|_=>W
def Qw(A:List aP)(aC:List aD)(it d:U)(p:bK):ay:=mH A aC (p.aI.map (·.1))&&p.cm.all (λx=>x.2.cells.all (Qv it d (p.aI.map (·.1))))&&p.aI.all (λx=>x.2.all (Qv it d (p.aI.map (·.1))))
def Eo:Code->Q (U×U×bZ cR×List cR)
 |.seq (.region _ a I) _=>match V a with
  |o::l=>match o.op,o.dst,o.guard with|.next (.tmp it) I,J d,O=>J (it,d,a,l)|_,_,_=>O
  |[]=>O
 |_=>O
def ny{σ ρ:Type}(step:List U->U->σ->Q (σ⊕ρ))(last:List U->σ->Q (σ⊕ρ)):List U->List U->σ->Q ρ
 |a,[],x=>match last a x with|some (.inr z)=>J z|_=>O
 |a,i::l,x=>match step a i x with|some (.inl y)=>ny step last (i::a) l y|some (.inr z)=>J z|none=>O
open Classical in
noncomputable def rJ{σ ρ:Type}(n:U)(step:List U->U->σ->Q (σ⊕ρ))(last:List U->σ->Q (σ⊕ρ))(x:σ):Q ρ:=if ∀l:List U,l.Perm (List.range n)->ny step last [] l x=ny step last [] (List.range n) x then ny step last [] (List.range n) x else O
def alz{σ ρ:Type}{n:U}{step:List U->U->σ->Q (σ⊕ρ)}{last:List U->σ->Q (σ⊕ρ)}{x:σ}{z:ρ}(h:rJ n step last x=J z)(l:List U)(a:l.Perm (List.range n)):ny step last [] l x=J z:=by simp_all [rJ]
def aaj{σ ρ:Type}{n:U}{step:List U->U->σ->Q (σ⊕ρ)}{last:List U->σ->Q (σ⊕ρ)}{x:σ}{o:Q ρ}(h:∀l:List U,l.Perm (List.range n)->ny step last [] l x=o):rJ n step last x=o:=by simp_all [rJ]
def vJ(k v:Ty)(rows:List (k.T×v.T)):Q U->List (ay×List E)|none=>[(I,[.ff])]|some i=>(I,[.tt])::DE k v (H rows i (k.zero,v.zero))
def jz(k v:Ty)(rows:List (k.T×v.T))(sn:List U):aP:=.one (.it .ak (.cj I k v) rows sn)
def mI:Q U->List U->List U|none,l=>l|some i,l=>i::l
def Ep(A:List aP)(aC:List aD)(R:gO)(h hx:bK)(x:Ex×bK):Tr (VT R.head.vs⊕kS R.gj):=
 match x.1 with
 |.normal=>match fit A aC R.head h x.2 with|some y=>.dw (.inl y)|none=>.ai
 |e=>match rI A aC R.head hx x.2 e R.gj with|some y=>.dw (.inr y)|none=>.ai
def alA(F:iB)(A:List aP)(aC:List aD)(a:bZ cR)(l:List cR)(q:bK):Tr (Ex×bK):=(oy A aC ((rF F.af a l (cx A (fJ q))).bind (vI F a I))).map (l5 q.cH)
def Qx(F:iB)(R:gO)(it a d:U)(k v:Ty):ay:=a==it&& !(it==d)&&bX d F.af.N&&DF I k v&& !R.head.vs.any (Pl.iu it)&& !R.head.vs.any (Pl.iu d)&& !aa1 R.head.live d&&R.gj.all λe=> !aa1 e.2.live it&& !aa1 e.2.live d
def qt(F:iB)(A:List aP)(aC:List aD)(R:gO)(h:bK)(it d:U)(a:bZ cR)(l:List cR)(k v:Ty)(rows:List (k.T×v.T))(rest:bK->Tr (Ex×bK))(c:Q U)(sn:List U)(x:VT R.head.vs):Tr (VT R.head.vs⊕kS R.gj):=let q:=((dD R.head.vs x h).bd it (jz k v rows (mI c sn))).bd d (.bw (vJ k v rows c))
 match Qw A aC it d q with
 |true=>(alA F A aC a l q).bind λy=>match y.1 with|.normal=>(rest y.2).bind (Ep A aC R (h.bd it (jz k v rows (mI c sn))) (h.bd it .undef))|_=>.ai
 |false=>.ai
noncomputable def fu(F:iB)(A:List aP)(aC:List aD)(tbl:U->Q gO):Code->ay->U->bK->Tr (Ex×bK)
 |.skip,I,_,p=>.dw (.normal,p)|.exit id,I,_,p=>.dw (.exit id,p)|.ret,I,_,p=>.dw (.ret,p)|.region _ e f,I,_,p=>(oy A aC ((rF F.af e (V e) (cx A (fJ p))).bind (vI F e f))).map (l5 p.cH)|.seq a b,I,n,p=>(fu F A aC tbl a I n p).bind λx=>match x.1 with|.normal=>fu F A aC tbl b I (n+nl a) x.2|_=>.dw x
 |.seq a b,W,n,p=>fu F A aC tbl b I (n+nl a) p|.cond c a b,I,n,p=>match Qu c p with|some .tt=>fu F A aC tbl a I n p|some .ff=>fu F A aC tbl b I (n+nl a) p|some (.b x)=>(oy A aC (.br x (fu F A aC tbl a I n (fJ p)) (fu F A aC tbl b I (n+nl a) (fJ p)))).map (l5 p.cH)|_=>.ai
 |.block id b,I,n,p=>(oy A aC ((fu F A aC tbl b I n (fJ p)).map (pl id))).map (l5 p.cH)|.scope b,I,n,p=>fu F A aC tbl b I n p|.loop b,I,n,p=>match tbl n with
  |some R=>
   let h:=base A R.head p;match mH A aC R.head.fP,vG R.head.vs h with
   |true,J m=>match R.rng with
    |none=>.call (kS.gN R.gj) (bR (λx=>((fu F A aC tbl b I (n+1) (dD R.head.vs x h)).bind (yv A aC R h)).run) m) (vH A h p.cH R.gj)|some it=>match Eo b,cO it h.cm with
     |some (g,d,e,l),.one (.it .ak (.cj I k v) rows [])=>match Qx F R it g d k v with|true=>.call (kS.gN R.gj) (rJ (List.length (α:=k.T×v.T) rows) (λj i x=>(qt F A aC R h it d e l k v rows (fu F A aC tbl b W (n+1)) (J i) j x).run) (λj x=>(qt F A aC R h it d e l k v rows (fu F A aC tbl b W (n+1)) O j x).run) m) (vH A (h.bd it .undef) p.cH R.gj)|false=>.ai
     |_,_=>.ai
   |_,_=>.ai
  |none=>.ai
 |_,_,_,_=>.ai
noncomputable def Qy(F:iB)(A:List aP)(aC:List aD)(tbl:U->Q gO)(c:Code)(n:U)(p:bK):Tr (Ex×bK):=fu F A aC tbl c I n p
def all_map{α β:Type}(t:Tr α)(f:α->β)(Q:β->Prop):(t.map f).all Q↔t.all λa=>Q (f a):=by
 induction t with|dw a=>rfl|ai=>exact uf|br c t e b g=>simp only[Tr.map,Tr.all,b,g]|call d o k h=>simp only[Tr.map,Tr.all,h]|sum o k k' h i=>simp only[Tr.map,Tr.all,h,i]
def yw{α β:Type}(t:Tr α)(f:α->Tr β)(Q:β->Prop):(t.bind f).all Q↔t.all λa=>(f a).all Q:=by
 induction t with|dw a=>rfl|ai=>exact uf|br c t e b g=>simp only[Tr.bind,Tr.all,b,g]|call d o k h=>simp only[Tr.bind,Tr.all,h]|sum o k k' h i=>simp only[Tr.bind,Tr.all,h,i]
def eM.alB{d l:eL}{s s':bp}(h:eM d s s'):eM (d++l) s s':=by
 refine⟨λt b=>h.1 t ?_,λk hk=>?_⟩;rw[JO,qS]at b;exact b.1;rw[Qg,qS]at hk;rcases h.2 k hk.1 with h|⟨cs,a,e,f,g,i⟩
 exact .inl h;refine .inr ⟨cs,a,e,f,g,λj c=>i j ?_⟩;rw[JP,qS]at c;exact c.1
def eM.self(A:List aP)(p:bK)(d:eL):eM d (cx A p) (cx A p):=eM.dU (qp A p) (λ_ _ _=>rfl) λk _ _=>pk.same (qp A p k)
def ft.self(A:List aP)(p:bK)(e:Ex):ft (cx A p) A (e,p):=⟨⟨[],rfl⟩,eM.self A p _⟩
def ft.l5{A:List aP}{p:bK}{x:Ex×bK}(h:ft (cx A (fJ p)) A x):ft (cx A p) A (Ve.l5 p.cH x):=⟨⟨x.2.cH,rfl⟩,eM.alB (l:=p.cH) h.2⟩
theorem ft.trans{A:List aP}{p a:bK}{e:Ex}{x:Ex×bK}(h:ft (cx A p) A (e,a))(g:ft (cx A a) A x):ft (cx A p) A x:=by let⟨⟨c,d⟩,k1⟩:=h;let⟨⟨f,b⟩,k2⟩:=g;have b:x.2.cH=f++a.cH:=b;have d:a.cH=c++p.cH:=d;refine⟨⟨f++c,by grind⟩,eM.trans ?_ k2⟩;rw[b];exact k1.more
theorem ft.pl{s:bp}{A:List aP}{id:Nat}{x:Ex×bK}(h:ft s A x):ft s A (Ve.pl id x):=by unfold Ve.pl;split;split;exact h;exact h;exact h
def alC{l:List Pl}{d:eL}{t:Nat}(h:jy (.tmp t) (nw l++d)=I):l.any (Pl.iu t)=I:=by
 rw[JO,qS]at h;let⟨h,_⟩:=h;induction l with
 |nil=>rfl|cons q l a=>
  cases q with|bd u _=>have h:(t==u||jy (.tmp t) (nw l))=I:=h;simp_all [Pl.iu]|oz u _=>have h:(t==u||jy (.tmp t) (nw l))=I:=h;simp_all [Pl.iu]|cell k j _=>grind [jy,nw,Pl.iu]
def alD{l:List Pl}{d:eL}{k:aD}{j:Nat}(h:part (.box k) j (nw l++d)=I):l.any (Pl.kf k j)=I:=by
 rw[JP,qS]at h;let⟨h,_⟩:=h;induction l with
 |nil=>rfl|cons q l a=>
  cases q with|bd u _=>grind [part,nw,Pl.kf]|oz u _=>grind [part,nw,Pl.kf]|cell k' i _=>have h:((gx k k'&&H (List.replicate i I++[W]) j I)||part (.box k) j (nw l))=I:=h;rw[qS]at h;grind [Pl.kf]
def aak(A:List aP)(a:ie)(p h:bK)(u:∀t,gY (cO t p.cm) (cO t h.cm))(m:∀k f,cF k h.aI=J f->∃cs,cF k p.aI=J cs/\Y cs=Y f/\∀(j:Nat)c,f[j]?=J c->∃c0,cs[j]?=J c0/\ed c0 c)(y:VT a.vs)(e:Ex):ft (cx A p) A (e,J3 A h p.cH a y):=by
 refine⟨⟨nw a.vs,rfl⟩,λt n=>?_,λk hk=>?_⟩;rw[ou,ou];have g:=alC (l:=a.vs) (d:=p.cH) n;show gY (cO t p.cm) (cO t (dD a.vs y (base A a h)).cm);grind [Bb,gY.trans,J1];rw[kR,kR];show pk k (nw a.vs++p.cH) (match cF k p.aI with|some cs=>.agg cs|none=>.undef) (match cF k (dD a.vs y (base A a h)).aI with|some cs=>.agg cs|none=>.undef)
 have b:=Bc k a.vs y (base A a h);cases h2:cF k (base A a h).aI with
 |none=>
  rw[h2]at b;cases h3:cF k (dD a.vs y (base A a h)).aI with|none=>exact .inl rfl|some ds=>rw[h3]at b;exact aaY b
 |some f=>
  rw[h2]at b;cases h3:cF k (dD a.vs y (base A a h)).aI with
  |none=>rw[h3]at b;exact aaY b|some ds=>
   rw[h3]at b;let⟨cs,f1,f2,f3⟩:=J2 a _ k f h2;let⟨as,o,q,v⟩:=m k cs f1;rw[o];refine .inr ⟨as,ds,rfl,rfl,by rw[q,f2];exact b.1,λj r c s=>?_⟩;have g:=alD (l:=a.vs) (d:=p.cH) r;rcases b.2 j c s with⟨i,_⟩|⟨_,w⟩
   rw[g]at i;cases i;grind [ed.trans]
theorem Qz(A:List aP)(p h:bK)(a:∀t,gY (cO t p.cm) (cO t h.cm))(b:∀k d,cF k h.aI=J d->∃cs,cF k p.aI=J cs/\Y cs=Y d/\∀(j:Nat)c,d[j]?=J c->∃c0,cs[j]?=J c0/\ed c0 c):∀(l:List (Ex×ie))(z:kS l),(vH A h p.cH l z).eI (ft (cx A p) A)|[],_=>trivial|[x],y=>aak A x.2 p h a b y x.1|x::e::r,_=>⟨λy=>aak A x.2 p h a b y x.1,λz=>Qz A p h a b (e::r) z⟩
theorem yx(p:bK)(it t:Nat)(v:aP):cO t (p.bd it v).cm=match t==it with|true=>v|false=>cO t p.cm:=yr it t v p.cm
section
variable{K:de}{F:iB}{A:List aP}{aC:List aD}{tbl:Nat->Option gO}
def aal(c:jl K A aC)(b:bZ cR)(l:List cR)(a:ay)(p:bK):((oy A aC ((rF F.af b l (cx A (fJ p))).bind (vI F b a))).map (l5 p.cH)).eI (ft (cx A p) A):=by
 rw[Tr.lv];refine Tr.gX (λx d=>ft.l5 d) (Ba c _ ?_).1;rw[Tr.ky];refine Tr.gX ?_ (JR F.af b l (cx A (fJ p)) (qp A (fJ p)));rintro ⟨s,e⟩ ⟨f,h,l,g,hk⟩;have dw:ft (cx A (fJ p)) A (.normal,gf s F.keys F.hX):=⟨⟨l,g⟩,eM.trans hk (yp A s f _ _ _)⟩;unfold vI;cases a with|false=>exact dw|true=>simp only;split;exact dw;trivial
def Bf(j:jl K A aC):∀(c:Code)(tail:ay)(n:Nat)(p:bK),(fu F A aC tbl c tail n p).eI (ft (cx A p) A):=by
 intro c;induction c with
 |skip=>intro tail n p;cases tail;exact ft.self A p _;trivial
 |exit id=>intro tail n p;cases tail;exact ft.self A p _;trivial
 |ret=>intro tail n p;cases tail;exact ft.self A p _;trivial
 |region id l g=>intro tail n p;cases tail;exact aal j l _ g p;trivial
 |seq a b d f=>
  intro tail n p;cases tail;simp only[fu];rw[Tr.ky];refine Tr.gX ?_ (d I n p);rintro ⟨e,s⟩ h;cases e with|normal=>grind [Tr.gX,ft.trans]|exit i=>exact h|ret=>exact h
  exact f I _ p
 |cond c a b d f=>intro tail n p;cases tail;simp only[fu];split;exact d I n p;exact f I _ p;rename_i x _;rw[Tr.lv];exact Tr.gX (λx m=>ft.l5 m) (Ba j (.br x (fu F A aC tbl a I n (fJ p)) (fu F A aC tbl b I (n+nl a) (fJ p))) ⟨d I n (fJ p),f I _ (fJ p)⟩).1;trivial;trivial
 |block id b o=>intro tail n p;cases tail;simp only[fu];rw[Tr.lv];refine Tr.gX (λx m=>ft.l5 m) (Ba j _ ?_).1;grind [Tr.lv,Tr.gX,ft.pl];trivial
 |scope b o=>intro tail n p;cases tail;exact o I n p;trivial
 |loop b o=>intro tail n p;cases tail;simp only[fu];split;rename_i R _;split;split;intro z;grind [Qz,J1,J2];rename_i it _;split;split;intro z;refine Qz A p ((base A R.head p).bd it .undef) (λt=>?_) (λk r q=>J2 R.head p k r q) _ z;rw[yx];split;trivial;exact J1 R.head p t;trivial;trivial;trivial;trivial;trivial
 |_=>intro tail n p;cases tail<;>exact trivial
def kg(K:de)(A:List aP)(Q:Ex×bK->Prop)(e:Exit)(a:Act)(w:ck):Prop:=∃x,e=uV x.1/\Q x/\dI K (dM A x.2) a w
def kg.reach{Q:Ex×bK->Prop}{e:Exit}{a:Act}{w:ck}(h:kg K A (Reach K A Q) e a w):kg K A Q e a w:=by obtain⟨x,rfl,h1,h2⟩:=h;let⟨y,b,c,d⟩:=h1 a w h2;exact⟨y,b,c,d⟩
def alE{σ ρ:Type}{f:σ->Option (σ⊕ρ)}{n:Nat}{x:σ}{z:ρ}(h:eC f (n+1) x=J z):(∃y,f x=J (.inl y)/\eC f n y=J z)\/f x=J (.inr z):=by grind [eC]
def aam(D:jl K A aC){H:ie}{h q hx p:bK}{x:VT H.vs}{e:Ex}{d:eL}{a:Act}{w:ck}(g:Nat->Prop)(i:∀t,g t->cO t q.cm=cO t (dD H.vs x h).cm)(k:q.aI=(dD H.vs x h).aI) (n:∀t,g t->gY (cO t h.cm) (cO t hx.cm))(o:hx.aI=h.aI)(hk:eM p.cH (cx A q) (cx A p))(E:dI K (dM A p) a w):∀(l:List (Ex×ie))(z:kS l),(∀y∈l,∀t,aa1 y.2.live t=W->g t)->rI A aC H hx p e l=J z->∀Q,(vH A hx d l z).all Q->∃q',Q (e,q')/\dI K (dM A q') a w:=by
 have c:∀{e e':Ex},En e e'=W->e=e':=by intro e e' h;cases e<;>cases e'<;>first|rfl|(simp[En]at h;done)|(simp[En]at h;rw[h])
 intro l;induction l with
 |nil=>intro z _ b;cases b
 |cons y r F=>
  intro z m b Q s;have C:=m y (List.mem_cons_self ..);have f:∀{v:VT y.2.vs},covers H y.2=W->fit A aC y.2 (base A y.2 hx) p=J v->dI K (dM A (J3 A hx d y.2 v)) a w:=λj hv=>alw D j (λt u=>i t (C t u)) k (λt u=>n t (C t u)) o hk hv E;cases r with
  |nil=>simp only[rI]at b;split at b;rename_i j;simp only[cr]at j;have:=c j.1;subst this;exact⟨_,s,f j.2 b⟩;cases b
  |cons G r=>simp only[rI]at b;split at b;rename_i j;have:=c j;subst this;split at b;rename_i B;split at b;rename_i v hv;cases b;exact⟨_,s.1 v rfl,f B hv⟩;cases b;cases b;split at b;rename_i v hv;cases b;exact F v (λy hy=>m y (List.mem_cons_of_mem _ hy)) hv Q (s.2 v rfl);cases b
def alF(b:jl K A aC){H:ie}{h p:bK}{x:VT H.vs}{e:Ex}{d:eL}{a:Act}{w:ck}(hk:eM p.cH (cx A (dD H.vs x h)) (cx A p))(c:dI K (dM A p) a w)(l:List (Ex×ie))(z:kS l)(f:rI A aC H h p e l=J z):∀Q,(vH A h d l z).all Q->∃q,Q (e,q)/\dI K (dM A q) a w:=aam b (λ_=>dL) (λ_ _=>rfl) rfl (λ_ _=>gY.same _) rfl hk c l z (λ_ _ _ _=>trivial) f
def aan(n:jl K A aC)(o:mH A aC F.hX=W){b:bZ cR}{l:List cR}{d:ay}{p:bK}{Q:Ex×bK->Prop}(h:((oy A aC ((rF F.af b l (cx A (fJ p))).bind (vI F b d))).map (l5 p.cH)).all Q):∃s f e,xY F.af.c b l (dG (cx A (fJ p)))=J (dG s,e)/\qn e f/\s.args=A/\(d=W->IX b f=W)/\∀a w,Vs.gw K (dG s) a w->∃y:Ex×bK,Ex.normal=y.1/\Q y/\dI K (dM A y.2) a w:=by
 let⟨q,r⟩:=n.bk o;rw[all_map]at h;have i:((rF F.af b l (cx A (fJ p))).bind (vI F b d)).eI (ft (cx A (fJ p)) A):=by
  rw[Tr.ky];refine Tr.gX ?_ (JR F.af b l (cx A (fJ p)) (qp A (fJ p)));rintro ⟨s,f⟩ ⟨v,E,l,z,hk⟩;have dw:ft (cx A (fJ p)) A (.normal,gf s F.keys F.hX):=⟨⟨l,z⟩,eM.trans hk (yp A s v _ _ _)⟩;unfold vI;cases d with|false=>exact dw|true=>simp only;split;exact dw;trivial
 have h1:=(Ba n _ i).2 _ h;rw[yw]at h1;have h2:=Tr.sP (Tr.sP h1 (ZG F.af b l (cx A (fJ p)))) (Tr.vt (JR F.af b l (cx A (fJ p)) (qp A (fJ p))));let⟨⟨s,f⟩,_,⟨h3,k⟩,t⟩:=(Tr.AY _ _).1 h2;simp only at h3 k t;let⟨e,k,j⟩:=k;have g:(d=W->IX b f=W)/\Reach K A (λx=>Q (l5 p.cH x)) (.normal,gf s F.keys F.hX):=by
  unfold vI at h3;cases d with|false=>exact⟨λh=>(by cases h),h3⟩|true=>simp only at h3;split at h3;rename_i hd;exact⟨λ_=>hd,h3⟩;exact aaY h3
 refine⟨s,f,e,k,j,t.2.1,g.1,λB w' u=>?_⟩;let⟨y,m,C,D⟩:=g.2 B w' (Qe t.2.1 n.size q r u);refine⟨l5 p.cH y,?_,C,D⟩;have m:uV .normal=uV y.1:=m;show Ex.normal=y.1;cases hy:y.1<;>rw[hy]at m<;>first|rfl|cases m
def QA(P:er):Code->ay->(Exit->Act->ck->Prop)->Act->ck->Prop|c,I,d,a,w=>c.wp P d a w|.seq _ b,W,d,a,w=>b.wp P d a w|_,W,_,_,_=>dL
end
theorem aao(v:SV):nt v v:=by
 cases v with|one c=>exact .inl rfl|agg cs=>exact eb.ot _|bw vs=>exact aR.same (R:=λp q:ay×List C=>p.1=q.1/\aR eb p.2 q.2) (λp=>⟨rfl,eb.ot _⟩) _|undef=>trivial
theorem dI.dU{K:de}{A:List aP}{a:Act}{w:World}{p b:bK}(c:K.argv.size=Y A)(h:dI K (dM A p) a w)(d:b.cI=p.cI)(e:∀t,cO t b.cm=cO t p.cm)(f:b.aI=p.aI):dI K (dM A b) a w:=by
 refine aZ.A8 c h d (λt=>by rw[e];exact aao _) λk=>?_;rw[f];cases cF k p.aI with|none=>trivial|some cs=>exact eb.ot _
def aap(q:Pl)(x:q.T)(b a:bK)(it:Nat)(v:aP)(c:q.iu it=I)(h1:∀t,cO t a.cm=match t==it with|true=>v|false=>cO t b.cm)(h2:a.aI=b.aI):(∀t,cO t (q.put x a).cm=match t==it with|true=>v|false=>cO t (q.put x b).cm)/\(q.put x a).aI=(q.put x b).aI:=by
 have set:∀(u:Nat)(y:aP),(it==u)=I->∀t,cO t (sV u y a.cm)=match t==it with|true=>v|false=>cO t (sV u y b.cm):=by grind [yr]
 cases q with|bd u h=>exact⟨set u _ c,h2⟩|oz u r=>exact⟨set u _ c,h2⟩|cell k j h=>exact⟨h1,by show setB k j _ a.aI=setB k j _ b.aI;rw[h2]⟩
def J5(it:Nat)(v:aP):∀(l:List Pl)(y:VT l)(b:bK),l.any (Pl.iu it)=I->(∀t,cO t (dD l y (b.bd it v)).cm=match t==it with|true=>v|false=>cO t (dD l y b).cm)/\(dD l y (b.bd it v)).aI=(dD l y b).aI|[],_,b,_=>⟨λt=>yx b it t v,rfl⟩|[q],y,b,h=>aap q y b (b.bd it v) it v (by simpa using h) (λt=>yx b it t v) rfl|q::a::r,y,b,h=>by rw[List.any_cons,qS]at h;let⟨h1,h2⟩:=J5 it v (a::r) y.2 b h.2;exact aap q y.1 _ _ it v h.1 h1 h2
theorem aaq{s:bp}{it d:Nat}{bk:List aD}{c:E}(a:Qv it d bk c=W)(b:∀r,ic r (.tmp it)=I->ic r (.tmp d)=I->(s.aG r).hv=0/\(s.aG r).cv=0):jO s bk c=c:=by
 have bm:∀{r:aO}{j hv cv k:Nat},J4 it d (.bm r j hv cv k)=W->hv=0/\cv=0/\((s.aG r).hv==hv&&(s.aG r).cv==cv)=W:=by simp_all [J4]
 cases c with
 |l m t xs=>
  cases m with
  |bm r j hv cv k=>let⟨h1,h2,h3⟩:=bm (j:=j) (k:=k) a;grind [jO]
  |_=>rfl
 |n m t o=>
  cases m with
  |bm r j hv cv k=>let⟨h1,h2,h3⟩:=bm (j:=j) (k:=k) a;grind [jO]
  |_=>rfl
 |it m t xs e=>cases m<;>first|rfl|cases a
 |aX k off=>have:bk.any (gx k)=W:=a;simp only[jO,this]|dj f caps=>have:caps.all (λp=>bk.any (gx p.1))=W:=a;simp only[jO,this]|ea=>cases a
 |gW=>cases a
 |_=>rfl
theorem J6{α:Type}{f:α->α}:∀{l:List α},(∀x∈l,f x=x)->l.map f=l|[],_=>rfl|x::l,h=>by rw[List.map_cons,h x (List.mem_cons_self ..),J6 λy hy=>h y (List.mem_cons_of_mem _ hy)]
theorem alG{s:bp}{bk:List aD}{v:aP}(h:∀c∈v.cells,jO s bk c=c):vE s bk v=v:=by
 cases v with|one c=>simp only[vE,h c (by simp[aP.cells])]|agg cs=>show aP.agg (cs.map _)=_;rw[J6 (l:=cs) h]|bw vs=>grind [vE,J6,aP.cells]|undef=>rfl
def aar(A:List aP)(p:bK)(r:aO):((cx A p).aG r).hv=0/\((cx A p).aG r).cv=0:=by
 cases r with|tmp t=>grind [ou]|box k=>grind [kR]|bP i=>exact⟨rfl,rfl⟩
section
variable{K:de}{F:iB}{A:List aP}{aC:List aD}{tbl:Nat->Option gO}{a:Act}{w:World}
def mJ(A:List aP)(p:bK)(it d n1 n2 a m2:Nat)(b v:aP):bp:=((cx A p).put (.tmp it) {hv:=n1,cv:=n2,v:=b}).put (.tmp d) {hv:=a,cv:=m2,v:=v}
def alH(f:jl K A aC){p q:bK}{it d n1 n2 c m2:Nat}{b v:aP}(y:∀t,cO t q.cm=match t==d with|true=>v|false=>match t==it with|true=>b|false=>cO t p.cm)(n:q.aI=p.aI)(g:q.cI=p.cI)(j:Qw A aC it d q=W) (o:Vs.gw K (dG (mJ A p it d n1 n2 c m2 b v)) a w):dI K (dM A q) a w:=by
 simp only[Qw,cr]at j;let⟨⟨c1,z⟩,B⟩:=j;let⟨f1,f2⟩:=f.bk c1;have m:∀r,(mJ A p it d n1 n2 c m2 b v).aG r=if r=.tmp d then{hv:=c,cv:=m2,v:=v}else if r=.tmp it then{hv:=n1,cv:=n2,v:=b}else(cx A p).aG r:=by intro r;unfold mJ;rw[A1 _ _ rfl,A1 _ _ rfl]
 have C:∀r,ic r (.tmp it)=I->ic r (.tmp d)=I->((mJ A p it d n1 n2 c m2 b v).aG r).hv=0/\((mJ A p it d n1 n2 c m2 b v).aG r).cv=0:=by simp_all [JQ,aar]
 have e:∀t,((mJ A p it d n1 n2 c m2 b v).aG (.tmp t)).v=cO t q.cm:=by grind [ou]
 have h1:=Qe (s:=mJ A p it d n1 n2 c m2 b v) (keys:=q.cm.map (·.1)) (bk:=q.aI.map (·.1)) rfl f.size f1 f2 o;refine aZ.A8 f.size h1 g (λt=>?_) λk=>?_;show nt (aM (cO t (yn (mJ A p it d n1 n2 c m2 b v) (q.aI.map (·.1)) (q.cm.map (·.1))))) _;rw[Eg,e];rcases Qr (t:=t) (l:=q.cm)with u|⟨D,x,hv⟩
 rw[u];trivial;grind [alG,aao,aaq];show match cF k (yo (mJ A p it d n1 n2 c m2 b v) (q.aI.map (·.1)) (q.aI.map (·.1))),cF k q.aI with|some cs,J h=>aR eb (aV cs) (aV h)|none,O=>dL|_,_=>jc
 have i:(mJ A p it d n1 n2 c m2 b v).aG (.box k)=(cx A p).aG (.box k):=by grind
 rw[vF,i,kR,<-n];cases hk:cF k q.aI with|none=>simp|some cs=>have x:=Qs hk;grind [J6,aaq,eb.ot]
def alI{b:Code}{it d:Nat}{a:bZ cR}{l:List cR}(h:Eo b=J (it,d,a,l)):∃id rest o,b=.seq (.region id a I) rest/\V a=o::l/\o.op=.next (.tmp it) I/\o.dst=J d/\o.guard=O:=by unfold Eo at h;grind
def vK(n:Nat)(sn:List Nat):Option Nat->Prop|none=>∀i,i<n->i∈sn|some i=>i<n/\i ∉ sn
def aas{n:Nat}{l:List Nat}(b:l.Nodup)(h:∀a,a∈l↔a<n):l.Perm (List.range n):=(List.perm_ext_iff_of_nodup b List.nodup_range).2 λa=>by grind
def alJ{n i:Nat}{sn:List Nat}(a:sn.Nodup)(b:∀j∈sn,j<n)(hi:i<n)(c:i ∉ sn):∃d,(sn.reverse++i::d).Perm (List.range n):=by refine⟨(List.range n).filter λj=> !aa1 (i::sn) j,aas ?_ ?_⟩;grind [List.nodup_range];grind
end
section
variable{K:de}{F:iB}{A:List aP}{aC:List aD}{tbl:Nat->Option gO}{a:Act}{w:World}
def alK(hC:ni K.P F.af.c)(hN:K.N=F.af.N)(hF:jl K A aC)(hbk:mH A aC F.hX=W) {b:Code}{n:Nat}{R:gO}{hd:bK}{it d:Nat}{f:bZ cR}{l:List cR}{k v:Ty}{rows:List (k.T×v.T)} (ih:∀(tail:ay)(n:Nat)(p:bK)(Q:Ex×bK->Prop)(a:Act)(w:World),(fu F A aC tbl b tail n p).all Q->dI K (dM A p) a w->QA K.P b tail (kg K A Q) a w) (hh:Eo b=J (it,d,f,l))(aat:(it==d)=I)(hlt:d<F.af.N)(hent:DF I k v=W)(hvit:R.head.vs.any (Pl.iu it)=I) {sn:List Nat}{x:VT R.head.vs} (hrun:∀c,vK rows.length sn c->∃o,(qt F A aC R hd it d f l k v rows (fu F A aC tbl b W (n+1)) c sn x).run=J o) (hp:dI K (dM A (dD R.head.vs x (hd.bd it (jz k v rows sn)))) a w):
  b.wp K.P (λe g w'=>∃c,vK rows.length sn c/\∃o,(qt F A aC R hd it d f l k v rows (fu F A aC tbl b W (n+1)) c sn x).run=J o/\
    kg K A (λy=>(Ep A aC R (hd.bd it (jz k v rows (mI c sn))) (hd.bd it .undef) y).all (λu=>u=o)/\ft (cx A (((dD R.head.vs x hd).bd it (jz k v rows (mI c sn))).bd d (.bw (vJ k v rows c)))) A y) e g w') a w:=by
 obtain⟨id,rest,o,rfl,E,hop,G,hgd⟩:=alI hh
 let⟨j,m⟩:=J5 it (jz k v rows sn) R.head.vs x hd hvit
 generalize hpp:dD R.head.vs x (hd.bd it (jz k v rows sn))=p at hp j m
 have hfz:p.cI=hd.cI:=by rw[<-hpp];exact(yt _ _ _).1
 have aau:(d==it)=I:=by grind
 have H:∀i,i<l.length->f[1+i]?=l[i]? :=by intro i _;rw[<-qO,E,Nat.add_comm];rfl
 have z:f[0]?=J o:=by rw[<-qO,E];rfl
 generalize hQF:(λe g w'=>∃c,vK rows.length sn c/\∃o,(qt F A aC R hd it d f l k v rows (fu F A aC tbl (.seq (.region id f I) rest) W (n+1)) c sn x).run=J o/\
  kg K A (λy=>(Ep A aC R (hd.bd it (jz k v rows (mI c sn))) (hd.bd it .undef) y).all (λu=>u=o)/\ft (cx A (((dD R.head.vs x hd).bd it (jz k v rows (mI c sn))).bd d (.bw (vJ k v rows c)))) A y) e g w')=QF
 have go:∀c,vK rows.length sn c->∀(n1 n2 m1 m2:Nat)(g:Act)(w':World),Vs.gw K (dG (mJ A p it d n1 n2 m1 m2 (jz k v rows (mI c sn)) (.bw (vJ k v rows c)))) g w'->
   wpOps K.P f (Exit.then (rest.wp K.P QF) QF) (List.range' 1 l.length) g w':=by
  intro c hc n1 n2 m1 m2 g w' hg
  let⟨u,S⟩:=hrun c hc
  generalize hq:((dD R.head.vs x hd).bd it (jz k v rows (mI c sn))).bd d (.bw (vJ k v rows c))=q
  have hu0:=S
  unfold qt at S
  rw[hq]at S
  simp only at S
  split at S
  rename_i V
  have N8:dI K (dM A q) g w':=by refine alH hF (λt=>?_) ?_ ?_ V hg;grind [yx];rw[<-hq];exact acC m;rw[<-hq,hfz];exact(yt _ _ _).1
  have h1:=(Tr.AY _ (λv=>v=u)).2 ⟨u,S,rfl⟩
  rw[yw]at h1
  have h2:=Tr.sP h1 (Tr.vt (aal hF f l I q))
  let⟨s,Ds,alN,h4,hsub,hargs,cK,hend⟩:=aan hF hbk h2
  let⟨e1,_⟩:=XU F.af.c f _ _ _ _ h4
  have C:Vs.gw K (dG (cx A (fJ q))) g w':=by rw[Ef];exact N8.1
  refine XS hC hN l 1 _ _ g w' H e1 C λa1 w1 J7=>?_
  let⟨⟨ex,y⟩,g1,⟨g2,g3⟩,g4⟩:=hend a1 w1 J7
  have g1:Ex.normal=ex:=g1
  subst g1
  simp only at g2
  rw[yw]at g2
  have:=ih W (n+1) y _ a1 w1 (Tr.sP g2 (Tr.vt (Bf (tbl:=tbl) hF (.seq (.region id f I) rest) W (n+1) y))) g4
  refine wp_mono this ?_
  rw[<-hQF]
  rintro e a2 w2 ⟨y2,rfl,⟨q1,q2⟩,q3⟩
  exact⟨c,hc,u,hu0,y2,rfl,⟨q1,by rw[hq];exact ft.trans g3 q2⟩,q3⟩
  cases S
 refine wp_seq (wp_region ?_)
 have hsz:f.size=l.length+1:=by grind [Array.length_toList]
 rw[hsz,List.range_eq_range']
 show wpOps K.P f _ (0::List.range' 1 l.length) a w
 rw[wpOps_cons]
 have X:=hp.1
 let⟨β,ω,Z,hr⟩:=X
 rw[<-Ef]at hr
 have hv:(cx A p).aG (.tmp it)={v:=jz k v rows sn}:=by rw[ou,j];simp
 have B:dG (cx A p) (.tmp it)={hv:=0,cv:=0,v:=.one (.ak nS [[.sl (Ty.cj I k v).e (rows.map (be (.cj I k v)))],lP sn])}:=by show cL _=_;rw[hv];rfl
 have h1:(dZ (.tmp it)).aE (dG (cx A p))=J (.bm (.tmp it) 0 0 0 nS 0 [[.sl (Ty.cj I k v).e (rows.map (be (.cj I k v)))],lP sn],dG (cx A p)):=by simp only[dZ,ev,bF,aw.bind,aw.aE,B,RV.gq,Ae,nU]
 have hat:(dG (cx A p) (.tmp it)).at 0=.ak nS [[.sl (Ty.cj I k v).e (rows.map (be (.cj I k v)))],lP sn]:=by rw[B];rfl
 have D:(dG (cx A p) (.tmp d)).hv=0/\(dG (cx A p) (.tmp d)).cv=0:=aar A p (.tmp d)
 rcases IL (dst:=d) hr hop h1 (by rw[B]) rfl akM hat with⟨hall,hy⟩|⟨i,hi,hni,hy⟩
 refine XR (af:=F.af.c) hN z hgd G hlt hy λg w' C=>go O (by simpa[vK]using hall) 0 0 1 0 g w' ?_
 have e:dG (mJ A p it d 0 0 1 0 (jz k v rows (mI O sn)) (.bw (vJ k v rows O)))=(dG (cx A p)).set (.tmp d) {hv:=(dG (cx A p) (.tmp d)).hv+1,cv:=(dG (cx A p) (.tmp d)).cv,v:=.bw [(I,[.d (.bool I)])]}:=by unfold mJ;rw[A2 _ _ rfl,A2 _ _ rfl];funext r;simp only[St.set];by_cases h:r=.tmp d;rw[aF h,aF h,D.1,D.2];rfl;rw[aU h,aU h];by_cases Y:r=.tmp it;rw[aF Y,Y,B];rfl;rw[aU Y]
 rw[e]
 exact C
 refine XR (af:=F.af.c) hN z hgd G hlt hy λg w' C=>go (J i) ⟨by simpa using hi,hni⟩ 0 1 1 0 g w' ?_
 have e:dG (mJ A p it d 0 1 1 0 (jz k v rows (mI (J i) sn)) (.bw (vJ k v rows (J i))))=((dG (cx A p)).set (.tmp it) {(dG (cx A p) (.tmp it))with cv:=(dG (cx A p) (.tmp it)).cv+1,v:=(dG (cx A p) (.tmp it)).v.setCell 0 (.ak nS [[.sl (Ty.cj I k v).e (rows.map (be (.cj I k v)))],lP (i::sn)])}).set (.tmp d) {hv:=(dG (cx A p) (.tmp d)).hv+1,cv:=(dG (cx A p) (.tmp d)).cv,v:=.bw ((I,[.d (.bool W)])::pZ (Ty.cj I k v).e ((rows.map (be (.cj I k v))).getD i []))}:=by unfold mJ;rw[A2 _ _ rfl,A2 _ _ rfl];funext r;simp only[St.set];by_cases h:r=.tmp d;rw[aF h,aF h,D.1,D.2,akO (t:=.cj I k v) rows i (k.zero,v.zero) (by simpa using hi),<-ZE hent];rfl;rw[aU h,aU h];by_cases Y:r=.tmp it;rw[aF Y,aF Y,B];rfl;grind
 simp_all [St.set]
end
section
variable{K:de}{F:iB}{A:List aP}{aC:List aD}{tbl:Nat->Option gO}{a:Act}{w:World}
def alO{A:List aP}{aC:List aD}{R:gO}{hx p:bK}{b:Ex}{o:VT R.head.vs⊕kS R.gj}{h:bK}(c:b≠.normal)(d:(Ep A aC R h hx (b,p)).all (λu=>u=o)):∃z,o=.inr z/\rI A aC R.head hx p b R.gj=J z:=by
 have a:(match rI A aC R.head hx p b R.gj with|some y=>Tr.dw (lM y)|none=>Tr.ai:Tr (VT R.head.vs⊕kS R.gj)).all (λv=>v=o):=by
  cases b with|normal=>exact cJ rfl c|_=>exact d
 split at a;rename_i f e;exact⟨f,acC a,e⟩;exact aaY a
def alP(hC:ni K.P F.af.c)(hN:K.N=F.af.N)(hF:jl K A aC)(hbk:mH A aC F.hX=W) {b:Code}{n:Nat}{R:gO}{hd:bK}{it it' d:Nat}{s:bZ cR}{l:List cR}{k v:Ty}{rows:List (k.T×v.T)}{x0:VT R.head.vs}{z:kS R.gj}{dd:eL}{Q:Ex×bK->Prop} (ih:∀(tail:ay)(n:Nat)(p:bK)(Q:Ex×bK->Prop)(a:Act)(w:World),(fu F A aC tbl b tail n p).all Q->dI K (dM A p) a w->QA K.P b tail (kg K A Q) a w) (hh:Eo b=J (it',d,s,l))(hok:Qx F R it it' d k v=W)(hit:cO it hd.cm=.one (.it .ak (.cj I k v) rows []))(hdu:aa1 R.head.live d=I->cO d hd.cm=.undef) (hz:rJ rows.length (λsn i x=>(qt F A aC R hd it d s l k v rows (fu F A aC tbl b W (n+1)) (J i) sn x).run) (λsn x=>(qt F A aC R hd it d s l k v rows (fu F A aC tbl b W (n+1)) O sn x).run) x0=J z) (hQ:(vH A (hd.bd it .undef) dd R.gj z).all Q)(Bg:dI K (dM A (dD R.head.vs x0 hd)) a w):(Code.loop b).wp K.P (kg K A Q) a w:=by
 simp only[Qx,cr,dK,lL]at hok;let⟨⟨⟨⟨⟨⟨⟨hitit,aat⟩,hlt⟩,hent⟩,g⟩,hvd⟩,hld⟩,hex⟩:=hok;subst hitit;have hlt:=(c7 _ _).1 hlt;have aau:(d==it')=I:=by grind
 have hdu:=hdu hld;generalize hst:(λ(sn:List Nat)(i:Nat)(x:VT R.head.vs)=>(qt F A aC R hd it' d s l k v rows (fu F A aC tbl b W (n+1)) (J i) sn x).run)=step at hz;generalize hla:(λ(sn:List Nat)(x:VT R.head.vs)=>(qt F A aC R hd it' d s l k v rows (fu F A aC tbl b W (n+1)) O sn x).run)=last at hz;have hfold:=alz hz;have hp1:dI K (dM A (dD R.head.vs x0 (hd.bd it' (jz k v rows [])))) a w:=by
  let⟨h1,h2⟩:=J5 it' (jz k v rows []) R.head.vs x0 hd g;refine dI.dU hF.size Bg ?_ (λt=>?_) h2;rw[(yt _ _ _).1,(yt _ _ _).1];rfl;rw[h1];cases ht:t==it' with|true=>have:t=it':=(by simpa using ht);subst this;rw[Bb R.head.vs x0 hd t g,hit];rfl|false=>rfl
 intro fb kk cs;have key:∀(m:Nat)(sn:List Nat)(x:VT R.head.vs)(a:Act)(w:World),sn.length+m=rows.length->sn.Nodup->(∀j∈sn,j<rows.length)->(∀H:List Nat,(sn.reverse++H).Perm (List.range rows.length)->ny step last sn H x=J z)->dI K (dM A (dD R.head.vs x (hd.bd it' (jz k v rows sn)))) a w->∃e a' w',kg K A Q e a' w'/\Arrives K.P (lone (fb.at a (.code b:: .inLoop b::kk)) cs w) fb kk cs e a' w':=by
  intro m;induction m using Nat.strongRecOn with
  |_ m QB=>
   intro sn x a w hlen hnd u S hp;have aze:vK rows.length sn O->∃V,last sn x=J (.inr V)/\V=z:=(by intro E;have hperm:=aas (l:=sn.reverse) ((List.reverse_perm sn).nodup_iff.2 hnd) (n:=rows.length) (λa=>by rw[List.mem_reverse];exact⟨u a,E a⟩);have:=S [] (by simpa using hperm);grind [ny]);have hrow:∀i,vK rows.length sn (J i)->0<m/\((∃y,step sn i x=J (.inl y)/\∀H:List Nat,((i::sn).reverse++H).Perm (List.range rows.length)->ny step last (i::sn) H y=J z)\/step sn i x=J (.inr z)):=(by intro i E;let⟨H,G⟩:=alJ hnd u E.1 E.2;have hl:=G.length_eq;simp only[List.length_append,List.length_reverse,List.length_cons,List.length_range]at hl;refine⟨by omega,?_⟩;have:=S _ G;grind [ny]);have hrun:∀c,vK rows.length sn c->∃o,(qt F A aC R hd it' d s l k v rows (fu F A aC tbl b W (n+1)) c sn x).run=J o:=by
    intro c E;cases c with|none=>grind|some i=>grind
   obtain⟨e,X,Y,⟨c,E,o,ho,⟨ex,p'⟩,rfl,⟨B,f⟩,hp'⟩,r⟩:=alK (n:=n) hC hN hF hbk ih hh aat hlt hent g hrun hp fb (.inLoop b::kk) cs;generalize hq:((dD R.head.vs x hd).bd it' (jz k v rows (mI c sn))).bd d (.bw (vJ k v rows c))=q at f;let⟨g1,g2⟩:=J5 it' (jz k v rows (mI c sn)) R.head.vs x hd g;have C:∀t,t≠d->cO t q.cm=cO t (dD R.head.vs x (hd.bd it' (jz k v rows (mI c sn)))).cm:=(by grind [yx]);have Z:q.aI=(dD R.head.vs x (hd.bd it' (jz k v rows (mI c sn)))).aI:=(by rw[g2,<-hq];rfl);have alR:cO d (hd.bd it' (jz k v rows (mI c sn))).cm=.undef:=(by rw[yx,aau];exact hdu);have hval:(c=O/\last sn x=J o)\/∃i,c=J i/\step sn i x=J o:=by
    cases c with|none=>grind|some i=>grind
   have fin:∀V,o=.inr V->V=z:=(by grind);(have exit:ex≠.normal->∃e a' w',kg K A Q e a' w'/\Arrives K.P (lone (fb.at a (.code b:: .inLoop b::kk)) cs w) fb kk cs e a' w':=by intro hne;let⟨V,h1,h2⟩:=alO hne B;have:=fin V h1;subst this;let⟨q',hq1,hq2⟩:=aam hF (λt=>t≠d/\t≠it') (λt ht=>C t ht.1) Z (hx:=hd.bd it' .undef) (λt ht=>by grind [yx,gY.same]) rfl f.2 hp' R.gj V (λy hy t ht=>by grind) h2 Q hQ;refine⟨_,X,Y,⟨(ex,q'),rfl,hq1,hq2⟩,.pass (x:=.inLoop b) rfl (λ_ _=>.inl ?_) r⟩;cases ex<;>first|exact cJ rfl hne|simp[uV]);cases ex with
   |normal=>
    simp only[Ep]at B;split at B;rename_i y hy;have e:o=.inl y:=acC B;subst e;rcases hval with⟨rfl,h⟩|⟨i,rfl,h⟩
    grind;let⟨hm,hr⟩:=hrow i E;rcases hr with⟨y',h1,h2⟩|h1
    rw[h]at h1;have e:y=y':=(by cases h1;rfl);subst e;let⟨e₂,a₂,w₂,QC,D⟩:=QB (m-1) (by omega) (i::sn) y X Y (by grind) (List.nodup_cons.2 ⟨E.2,hnd⟩) (λj hj=>by
     rcases List.mem_cons.1 hj with rfl|hj
     exact E.1
     exact u j hj) h2 (alx (d:=d) hF alR C Z f.2 hy hp')
    exact⟨e₂,a₂,w₂,QC,.of_steps (Steps.trans r (.one step_inLoop)) D⟩;grind;exact aaY B
   |exit i=>exact exit (by simp)|ret=>exact exit (by simp)
 let⟨e,a',w',hq,r⟩:=key rows.length [] x0 a w (by simp) List.nodup_nil (by simp) (λH G=>hfold H (by simpa using G)) hp1;exact⟨e,a',w',hq,.of_steps (.one step_loop) r⟩
end
section
variable{K:de}{F:iB}{A:List aP}{aC:List aD}{tbl:Nat->Option gO}
def alT(m:jl K A aC){H:ie}{hd:bK}{e:VT H.vs}{a:Act}{w:ck}(hm:vG H.vs hd=J e)(h1:dI K (dM A hd) a w):dI K (dM A (dD H.vs e hd)) a w:=by
 refine aZ.A8 m.size h1 (yt _ _ _).1 (λt=>?_) λk=>?_;rcases Qn H.vs e hd hm t with⟨_,h2⟩|⟨_,h2⟩
 rw[h2];cases cO t hd.cm with|one c=>exact .inl rfl|agg cs=>exact eb.ot _|bw vs=>exact aR.same (R:=λp q:ay×List C=>p.1=q.1/\aR eb p.2 q.2) (λp=>⟨rfl,eb.ot _⟩) _|undef=>trivial
 rw[h2];cases cO t hd.cm with|one c=>exact .inl rfl|agg cs=>exact eb.ot _|bw vs=>exact aR.same (R:=λp q:ay×List C=>p.1=q.1/\aR eb p.2 q.2) (λp=>⟨rfl,eb.ot _⟩) _|undef=>trivial
 have b:=JZ k H.vs e hd hm;cases h1:cF k hd.aI with
 |none=>
  rw[h1]at b;cases h2:cF k (dD H.vs e hd).aI with|none=>trivial|some cs=>rw[h2]at b;exact aaY b
 |some n=>
  rw[h1]at b;cases h2:cF k (dD H.vs e hd).aI with
  |none=>rw[h2]at b;exact aaY b|some cs=>
   rw[h2]at b;refine aR.dU (by simpa using b.1) λj u c h i=>?_;simp only[aV,List.getElem?_map]at h i;cases f:cs[j]? with
   |none=>grind|some c1=>
    rw[f]at i;cases i;cases d:n[j]? with
    |none=>grind|some c0=>
     rw[d]at h;cases h;rcases b.2 j c1 f with⟨_,o,s,l,g,r⟩|⟨_,g⟩
     rw[h1]at l;cases l;rw[d]at g;cases g;exact .inl r;rw[d]at g;cases g;exact .inl rfl
def alU(hC:ni K.P F.af.c)(hN:K.N=F.af.N)(QD:K.P.follows .mixedOrders=W)(E:jl K A aC)(hbk:mH A aC F.hX=W):∀(c:Code)(tail:ay)(n:Nat)(p:bK)(Q:Ex×bK->Prop)(a:Act)(w:ck),(fu F A aC tbl c tail n p).all Q->dI K (dM A p) a w->QA K.P c tail (kg K A Q) a w:=by
 let⟨hok,hin⟩:=E.bk hbk;intro c;induction c with
 |skip=>intro tail n p Q a w h r;cases tail;exact wp_skip ⟨(.normal,p),rfl,h,r⟩;trivial
 |exit id=>intro tail n p Q a w h r;cases tail;exact wp_exit ⟨(.exit id,p),rfl,h,r⟩;trivial
 |ret=>intro tail n p Q a w h r;cases tail;exact wp_ret ⟨(.ret,p),rfl,h,r⟩;trivial
 |region id ops draw=>
  intro tail n p Q a w h r;cases tail;let⟨s,Ds,alN,h4,hsub,hargs,cK,hend⟩:=aan E hbk h;let⟨e1,e2⟩:=XU F.af.c ops _ _ _ _ h4;have hg:Vs.gw K (dG (cx A (fJ p))) a w:=by rw[Ef];exact r.1
  refine ajl hC hN QD e1 (λhd=>?_) hg λB w' hg'=>?_;have:=cK hd;simp only[IX,cr]at this;refine⟨?_,this.1⟩;unfold O1;rw[e2];exact hsub.pairs this.2;let⟨y,g1,g2,g3⟩:=hend B w' hg';exact⟨y,by rw[<-g1];rfl,g2,g3⟩;trivial
 |seq x y X H=>
  intro tail n p Q a w h r;cases tail;simp only[fu]at h;rw[yw]at h;refine wp_seq (wp_mono (X I n p _ a w h r) ?_);rintro e B w' ⟨⟨u,D⟩,rfl,S,j⟩;cases u with|normal=>exact H I _ D Q B w' S j|exit i=>exact⟨_,rfl,S,j⟩|ret=>exact⟨_,rfl,S,j⟩
  exact H I _ p Q a w h r
 |cond c x y X H=>
  intro tail n p Q a w h r;cases tail;have sF:∀e,Qu c p=J e->∀b,cE e=.d (.bool b)->a.eval c=.bool b:=by intro e G b V;unfold Qu at G;split at G;rename_i t;split at G;rename_i c' hl;cases G;let⟨β,ω,Z,hr⟩:=r.1;have:=hr.tmps t;rw[JK,hl]at this;have h2:=this.2;rw[V]at h2;exact h2;cases G;rename_i b';cases G;(have:b'=b:=by cases b'<;>cases b<;>first|rfl|(simp[kb,cE]at V));subst this;rfl;cases G
  simp only[fu]at h;split at h;rename_i G;exact agP (sF _ G W rfl) (λ_=>X I n p Q a w h r) (λV=>by cases V);rename_i G;exact agP (sF _ G I rfl) (λV=>by cases V) (λ_=>H I _ p Q a w h r);rename_i b G;rw[all_map]at h;have h1:=(Ba (p0:=cx A (fJ p)) E (.br b (fu F A aC tbl x I n (fJ p)) (fu F A aC tbl y I (n+nl x) (fJ p))) ⟨Bf (F:=F) (tbl:=tbl) E x I n (fJ p),Bf (F:=F) (tbl:=tbl) E y I _ (fJ p)⟩).2 _ h;have fin:∀e a w,kg K A (Reach K A λx=>Q (l5 p.cH x)) e a w->kg K A Q e a w:=by intro e a w hh;let⟨z,g1,g2,g3⟩:=kg.reach hh;exact⟨l5 p.cH z,g1,g2,g3⟩
  exact agP (sF _ G b rfl) (λV=>wp_mono (X I n (fJ p) _ a w (h1.1 V) r) λe B w' hh=>fin e B w' hh) (λV=>wp_mono (H I _ (fJ p) _ a w (h1.2 V) r) λe B w' hh=>fin e B w' hh);exact aaY h;trivial
 |block id b ih=>
  intro tail n p Q a w h r;cases tail;simp only[fu]at h;rw[all_map]at h;have f:((fu F A aC tbl b I n (fJ p)).map (pl id)).eI (ft (cx A (fJ p)) A):=by rw[Tr.lv];exact Tr.gX (λx hx=>ft.pl hx) (Bf E b I n (fJ p))
  have h1:=(Ba E _ f).2 _ h;rw[all_map]at h1;refine wp_block (wp_mono (ih I n (fJ p) _ a w h1 r) ?_);rintro e B w' ⟨⟨u,D⟩,rfl,S,j⟩;have hp2:dI K (dM A (pl id (u,D)).2) B w':=by grind [pl]
  let⟨y,g1,g2,g3⟩:=S B w' hp2;have fin:kg K A Q (uV (pl id (u,D)).1) B w':=⟨l5 p.cH y,g1,g2,g3⟩;cases u with|normal=>exact fin|ret=>exact fin|exit i=>show if i=id then kg K A Q .normal B w' else kg K A Q (.exit i) B w';by_cases hi:i=id;rw[aF hi];unfold pl at fin;simp only[hi,beq_self_eq_true]at fin;exact fin;rw[aU hi];have:(i==id)=I:=(by simpa using hi);unfold pl at fin;simp only[this]at fin;exact fin
  trivial
 |scope b ih=>intro tail n p Q a w h r;cases tail;simp only[fu]at h;refine wp_scope_straight (wp_mono (ih I n p Q a w h r) ?_);rintro e B w' ⟨⟨u,D⟩,rfl,S,j⟩;cases u<;>exact⟨_,rfl,S,j⟩;trivial
 |loop b ih=>
  intro tail n p Q a w h r;cases tail;simp only[fu]at h;split at h;rename_i R hR;split at h;rename_i x0 hx hm;have Bg:dI K (dM A (dD R.head.vs x0 (base A R.head p))) a w:=alT E hm (dI.gf (p:=p) E hx R.head.live r);split at h;let⟨z,hz,hQ⟩:=h;generalize hh:base A R.head p=hd at *;intro fb k cs;have key:∀(m:Nat)(x:VT R.head.vs)(a:Act)(w:ck),eC (λx=>((fu F A aC tbl b I (n+1) (dD R.head.vs x hd)).bind (yv A aC R hd)).run) m x=J z->dI K (dM A (dD R.head.vs x hd)) a w->∃e B w',kg K A Q e B w'/\Arrives K.P (lone (fb.at a (.code b:: .inLoop b::k)) cs w) fb k cs e B w':=by
   intro m;induction m with
   |zero=>intro x a w hi;cases hi
   |succ m QB=>
    intro x a w hi hp1;have hstep:=alE hi;have round:∀o,((fu F A aC tbl b I (n+1) (dD R.head.vs x hd)).bind (yv A aC R hd)).run=J o->b.wp K.P (kg K A λy=>(yv A aC R hd y).all (λv=>v=o)/\ft (cx A (dD R.head.vs x hd)) A y) a w:=(by intro o ho;have h1:=(Tr.AY _ (λv=>v=o)).2 ⟨o,ho,rfl⟩;rw[yw]at h1;exact ih I (n+1) _ _ a w (Tr.sP h1 (Tr.vt (Bf E b I (n+1) _))) hp1);have exit:∀(u:Ex)(D:bK)(o:VT R.head.vs⊕kS R.gj)(g:Act)(w₁:ck),u≠.normal->(yv A aC R hd (u,D)).all (λv=>v=o)->ft (cx A (dD R.head.vs x hd)) A (u,D)->dI K (dM A D) g w₁->∃z',o=.inr z'/\∀Q,(vH A hd p.cH R.gj z').all Q->∃q,Q (u,q)/\dI K (dM A q) g w₁:=by
     intro u D o g w₁ Y l f j;have GD:(match rI A aC R.head hd D u R.gj with|some y=>Tr.dw (lM y)|none=>Tr.ai:Tr (VT R.head.vs⊕kS R.gj)).all (λv=>v=o):=by
      cases u with|normal=>exact cJ rfl Y|_=>exact l
     split at GD;rename_i z' hz';exact⟨z',acC GD,alF E f.2 j R.gj z' hz'⟩;exact aaY GD
    rcases hstep with⟨x',hs,alW⟩|hs
    obtain⟨e,g,w₁,⟨⟨u,D⟩,rfl,⟨l,f⟩,j⟩,C⟩:=round _ hs fb (.inLoop b::k) cs;cases u with
    |normal=>simp only[yv]at l;split at l;rename_i y hy;have e:y=x':=(by cases l;rfl);subst e;let⟨e₂,a₂,w₂,QC,T⟩:=QB y g w₁ alW (aly E f.2 hy j);exact⟨e₂,a₂,w₂,QC,.of_steps (Steps.trans C (.one step_inLoop)) T⟩;exact aaY l
    |exit i=>let⟨z',h1,_⟩:=exit _ D _ g w₁ (by simp) l f j;cases h1
    |ret=>let⟨z',h1,_⟩:=exit _ D _ g w₁ (by simp) l f j;cases h1
    obtain⟨e,g,w₁,⟨⟨u,D⟩,rfl,⟨l,f⟩,j⟩,C⟩:=round _ hs fb (.inLoop b::k) cs;have Y:u≠.normal:=(by rintro rfl;simp only[yv]at l;split at l;cases l;exact l);let⟨z',h1,h2⟩:=exit _ D _ g w₁ Y l f j;cases h1;let⟨q,S,hpq⟩:=h2 Q hQ;refine⟨_,g,w₁,⟨(u,q),rfl,S,hpq⟩,.pass (x:=.inLoop b) rfl (λ_ _=>.inl ?_) C⟩;cases u<;>first|exact cJ rfl Y|simp[uV]
  let⟨e,B,w',S,C⟩:=key fuel x0 a w hz Bg;exact⟨e,B,w',S,.of_steps (.one step_loop) C⟩;split at h;rename_i hh hit;split at h;rename_i hok;let⟨z,hz,hQ⟩:=h;exact alP hC hN E hbk ih hh hok hit (λhl=>aai (by simpa using hl)) hz hQ Bg;exact aaY h;exact aaY h;exact aaY h;exact aaY h;trivial
 |_=>intro tail n p Q a w h r;cases tail<;>first|exact aaY h|trivial
end
def alX{K:de}{F:iB}{A:List aP}{aC:List aD}{tbl:Nat->Option gO}(a:jl K A aC)(c:Code)(n:Nat)(p:bK):(Qy F A aC tbl c n p).eI (ft (cx A p) A):=Bf a c I n p
def alY{K:de}{F:iB}{A:List aP}{aC:List aD}{tbl:Nat->Option gO}(e:ni K.P F.af.c)(f:K.N=F.af.N)(b:K.P.follows .mixedOrders=W)(g:jl K A aC)(d:mH A aC F.hX=W)(c:Code)(n:Nat)(p:bK)(Q:Ex×bK->Prop)(a:Act)(w:ck)(h:(Qy F A aC tbl c n p).all Q)(i:dI K (dM A p) a w):c.wp K.P (kg K A Q) a w:=alU e f b g d c I n p Q a w h i
def vL{α β:Type}(f:α->Q β):M α->Q (M β)
 |[]=>J []|a::r=>match f a,vL f r with|some b,J l=>J (b::l)|_,_=>O
def QE{α β:Type}{f:α->Q β}{g:β->α}(h:∀b,f (g b)=J b):∀(l:M β),vL f (l.map g)=J l|[]=>rfl|b::l=>by simp only[fc,vL,h,QE h l]
def kh:(t:Ty)->M D->Q (t.T×M D)
 |.int k=>λds=>match ds with|.int k' n::r=>if k'=k then J (n,r)else O|_=>O
 |.bool=>λds=>match ds with|.bool b::r=>J (b,r)|_=>O
 |.bj=>λds=>match ds with|.bj s::r=>J (s,r)|_=>O
 |.sl t=>λds=>match ds with
  |.nil::r=>J (O,r)|.sl e xs::r=>if e=t.e then(match vL (λx=>match kh t x with|some (y,[])=>J y|_=>O) xs with|some l=>J (J l,r)|none=>O)else O
  |_=>O
 |.bJ h t=>λds=>match kh h ds with
  |some (x,r)=>match kh t r with|some (y,a)=>J ((x,y),a)|none=>O
  |none=>O
 |.set k=>λds=>kh k ds|.cj _ h t=>λds=>match kh h ds with
  |some (x,r)=>match kh t r with|some (y,a)=>J ((x,y),a)|none=>O
  |none=>O
def yy:∀(t:Ty)(x:t.T)(r:M D),kh t (be t x++r)=J (x,r)
 |.int k,n,r=>by simp[kh,be]|.bool,b,r=>rfl|.bj,s,r=>rfl|.sl t,o,r=>by
  cases o with|none=>rfl|some xs=>simp only[be,List.cons_append,List.nil_append,kh,bH];rw[QE (f:=λx=>match kh t x with|some (y,[])=>J y|_=>O) (g:=be t) (λb=>by have:=yy t b [];grind)]
 |.bJ h t,x,r=>by simp only[be,kh,CJ];rw[yy h x.1];simp only;rw[yy t x.2]|.set k,x,r=>yy k x r|.cj _ h t,x,r=>by simp only[be,kh,CJ];rw[yy h x.1];simp only;rw[yy t x.2]
def yz(t:Ty)(ds:M D):Q t.T:=match kh t ds with|some (y,[])=>J y|_=>O
def aaw(t:Ty)(x:t.T):yz t (be t x)=J x:=by unfold yz;have:=yy t x [];grind
def Bh(t:Ty)(xs:M (M D)):Q (M t.T):=vL (yz t) xs
def J8(t:Ty)(xs:M t.T):Bh t (xs.map (be t))=J xs:=QE (aaw t) xs
def Sh.dJ:(h:Sh)->C->Q h.T
 |.i k=>λc=>match c with|.d (.int k' x)=>if k'=k then J x else O|_=>O
 |.b=>λc=>match c with|.d (.bool x)=>J x|_=>O
 |.s=>λc=>match c with|.d (.bj x)=>J x|_=>O
 |.l m t=>λc=>match m,c with|.data,.d (.sl e xs)=>if e=t.e then Bh t xs else O|.ak,.ak e xs=>if e=t.e then Bh t xs else O|_,_=>O
 |.n m t=>λc=>match m,c with|.data,.d .nil=>J O|.ak,.d .nil=>J O|.data,.d (.sl e xs)=>if e=t.e then(Bh t xs).map J else O|.ak,.ak e xs=>if e=t.e then(Bh t xs).map J else O|_,_=>O
 |.p k off=>λc=>match c with|.aX k' a=>if k=k'/\off=a then J ()else O|_=>O
 |.dd=>λc=>match c with|.bN=>J ()|_=>O
 |.u k=>λc=>match c with|.d (.cV k')=>if k'=k then J ()else O|_=>O
 |.r z=>λc=>match c with|.d (.rep f ps)=>if f=z then J ps else O|_=>O
def Sh.alZ:Sh->ay|.p _ _=>I|_=>W
def Sh.plain:Sh->ay|.l (.bm ..) _=>I|.n (.bm ..) _=>I|_=>W
theorem Sh.mK:∀{h:Sh}(x:h.T),h.plain=W->h.dJ (cE (h.cB x))=J x
 |.i k,x,_=>by simp[Sh.dJ,Sh.cB,cE]|.b,x,_=>rfl|.dd,x,_=>rfl|.u k,x,_=>by simp[Sh.dJ,Sh.cB,cE]|.r z,x,_=>by simp[Sh.dJ,Sh.cB,cE]|.s,x,_=>rfl|.p k off,x,_=>by simp[Sh.dJ,Sh.cB,cE]|.l m t,x,a=>by
  cases m with
  |bm=>cases a
  |data=>simp only[Sh.dJ,Sh.cB,cE,lC,bH];exact J8 t x|ak=>simp only[Sh.dJ,Sh.cB,cE,lC,bH];exact J8 t x
 |.n m t,o,a=>by
  cases m with
  |bm=>cases a
  |data=>
   cases o with|none=>rfl|some x=>simp only[Sh.dJ,Sh.cB,cE,lC,bH];rw[J8 t x];rfl
  |ak=>
   cases o with|none=>rfl|some x=>simp only[Sh.dJ,Sh.cB,cE,lC,bH];rw[J8 t x];rfl
@[reducible] def HT:M Sh->Type
  |[]=>bY|h::r=>match r with|[]=>h.T|a::r=>h.T×HT (a::r)
def HT.cB:(l:M Sh)->HT l->M E|[],_=>[]|[h],x=>[h.cB x]|h::a::r,x=>h.cB x.1::HT.cB (a::r) x.2
def HT.eQ:(l:M Sh)->M E->Q (HT l)
 |[],cs=>match cs with|[]=>J ()|_=>O
 |[h],cs=>match cs with|[c]=>h.eQ c|_=>O
 |h::a::r,cs=>match cs with
  |c::cs=>match h.eQ c,HT.eQ (a::r) cs with|some x,J y=>J (x,y)|_,_=>O
  |[]=>O
def HT.dJ:(l:M Sh)->M C->Q (HT l)
 |[],cs=>match cs with|[]=>J ()|_=>O
 |[h],cs=>match cs with|[c]=>h.dJ c|_=>O
 |h::a::r,cs=>match cs with
  |c::cs=>match h.dJ c,HT.dJ (a::r) cs with|some x,J y=>J (x,y)|_,_=>O
  |[]=>O
theorem HT.lZ:∀(l:M Sh)(cs:M E)(x:HT l),HT.eQ l cs=J x->aV (HT.cB l x)=aV cs
 |[],cs,x,e=>by cases cs<;>first|rfl|cases e
 |[h],cs,x,e=>by
  match cs with
  |[]=>cases e
  |[c]=>exact cb (λz=>[z]) (Sh.lZ (h:=h) e)|_::_::_=>cases e
 |h::a::r,cs,x,e=>by
  cases cs with
  |nil=>cases e
  |cons c cs=>simp only[HT.eQ]at e;split at e;rename_i y z h1 h2;cases e;show cE (h.cB y)::aV (HT.cB (a::r) z)=cE c::aV cs;rw[Sh.lZ h1,HT.lZ (a::r) cs z h2];cases e
theorem HT.mK:∀(l:M Sh)(x:HT l),l.all Sh.plain=W->HT.dJ l (aV (HT.cB l x))=J x
 |[],x,_=>rfl|[h],x,a=>Sh.mK (h:=h) x (by simpa using a)|h::b::r,x,a=>by
  rw[nM,cr]at a
  show(match h.dJ (cE (h.cB x.1)),HT.dJ (b::r) (aV (HT.cB (b::r) x.2))with|some x,J y=>J (x,y)|_,_=>O)=_
  rw[Sh.mK x.1 a.1,HT.mK (b::r) x.2 a.2]
def HT.gN:(l:M Sh)->HT l|[]=>()|[h]=>h.gN|h::a::r=>(h.gN,HT.gN (a::r))
def yA:M (aD×U)->M (aD×U)->ay|[],[]=>W|p::r,a::b=>gx p.1 a.1&&p.2==a.2&&yA r b|_,_=>I
def aax:∀{l a:M (aD×U)},yA l a=W↔l=a|[],[]=>by simp[yA]|[],_::_=>by simp[yA]|_::_,[]=>by simp[yA]|(k,o)::r,(k',b)::c=>by simp only[yA,cr,lw,dK,aax,zR,gH]
inductive It where
 |one(h:Sh)|bG(t:Ty)|cells(l:List Sh)|aX(k:aD)(off:Nat)|dj(f:FuncId)(caps:List (aD×Nat):=[])|cV(k:NK)|nz|kA(k:aD)(off:Nat)
@[reducible] def It.T:It->Type|.one h=>h.T|.bG t=>t.T|.cells l=>HT l|.aX _ _=>bY|.dj _ _=>bY|.cV _=>bY|.nz=>bY|.kA _ _=>bY
def It.has:It->ay|.one _=>W|.bG _=>W|.cells _=>W|.aX _ _=>I|.dj _ _=>I|.cV _=>I|.nz=>I|.kA _ _=>I
def It.cB:(i:It)->i.T->aP|.one h,x=>.one (h.cB x)|.bG t,x=>.agg (eX t x)|.cells l,x=>.agg (HT.cB l x)|.aX k off,_=>.one (.aX k off)|.dj f caps,_=>.one (.dj f caps)|.cV k,_=>.one (.cV k)|.nz,_=>.one .nil|.kA k off,_=>.agg [.aX k off]
def It.eQ:(i:It)->aP->Q i.T
 |.one h=>λv=>match v with|.one c=>h.eQ c|_=>O
 |.bG t=>λv=>match v with|.agg cs=>ls t cs|_=>O
 |.cells l=>λv=>match v with|.agg cs=>HT.eQ l cs|_=>O
 |.aX k off=>λv=>match v with
  |.one (.aX k' a)=>match gx k k'&&off==a with|true=>J ()|false=>O
  |_=>O
 |.dj f caps=>λv=>match v with
  |.one (.dj b l)=>match f==b&&yA caps l with|true=>J ()|false=>O
  |_=>O
 |.cV k=>λv=>match v with|.one (.cV k')=>if k=k' then J ()else O|_=>O
 |.nz=>λv=>match v with|.one .nil=>J ()|_=>O
 |.kA k off=>λv=>match v with
  |.agg [.aX k' a]=>match gx k k'&&off==a with|true=>J ()|false=>O
  |_=>O
def yB:M C->Q (M D)
 |[]=>J []|.d x::r=>match yB r with|some l=>J (x::l)|none=>O
 |_=>O
def aay:∀(l:M D),yB (l.map .d)=J l|[]=>rfl|d::l=>by simp only[fc,yB,aay l]
def It.dJ:(i:It)->SV->Q i.T
 |.one h=>λv=>match v with|.one c=>h.dJ c|_=>O
 |.bG t=>λv=>match v with
  |.agg cs=>match yB cs with|some ds=>yz t ds|none=>O
  |_=>O
 |.cells l=>λv=>match v with|.agg cs=>HT.dJ l cs|_=>O
 |.aX k off=>λv=>match v with|.one (.aX k' a)=>if k=k'/\off=a then J ()else O|_=>O
 |.dj f caps=>λv=>match v with|.one (.dj b l)=>if f=b/\l=caps then J ()else O|_=>O
 |.cV k=>λv=>match v with|.one (.d (.cV k'))=>if k=k' then J ()else O|_=>O
 |.nz=>λv=>match v with|.one (.d .nil)=>J ()|_=>O
 |.kA k off=>λv=>match v with|.agg [.aX k' a]=>if k=k'/\off=a then J ()else O|_=>O
def It.ok:It->ay|.one h=>h.plain&&h.alZ|.cells l=>l.all Sh.plain|.aX (.aC _) _=>W|.aX _ _=>I|_=>W
def It.gN:(i:It)->i.T|.one h=>h.gN|.bG t=>t.zero|.cells l=>HT.gN l|.aX _ _=>()|.dj _ _=>()|.cV _=>()|.nz=>()|.kA _ _=>()
theorem It.lZ:∀{i:It}{v:aP}{x:i.T},i.eQ v=J x->aM (i.cB x)=aM v
 |.one h,v,x,e=>by
  cases v with|one c=>exact cb SV.one (Sh.lZ (h:=h) e)|_=>cases e
 |.bG t,v,x,e=>by
  cases v with|agg cs=>have e:ls t cs=J x:=e;show SV.agg (aV (eX t x))=SV.agg (aV cs);rw[kQ,Jr e]|_=>cases e
 |.cells l,v,x,e=>by
  cases v with|agg cs=>exact cb SV.agg (HT.lZ l cs x e)|_=>cases e
 |.aX k off,v,x,e=>by simp only[It.eQ]at e;split at e;split at e;rename_i h;simp only[cr,dK,lw]at h;obtain⟨rfl,rfl⟩:=h;rfl;cases e;cases e
 |.dj f caps,v,x,e=>by simp only[It.eQ]at e;split at e;split at e;rename_i h;simp only[cr,dK,aax]at h;obtain⟨rfl,rfl⟩:=h;rfl;cases e;cases e
 |.cV k,v,x,e=>by simp only[It.eQ]at e;split at e;split at e;rename_i h;subst h;rfl;cases e;cases e
 |.nz,v,x,e=>by simp only[It.eQ]at e;split at e;rfl;cases e
 |.kA k off,v,x,e=>by simp only[It.eQ]at e;split at e;split at e;rename_i h;simp only[cr,dK,lw]at h;obtain⟨rfl,rfl⟩:=h;rfl;cases e;cases e
theorem It.mK:∀{i:It}(x:i.T),i.ok=W->i.dJ (aM (i.cB x))=J x
 |.one h,x,a=>Sh.mK (h:=h) x (by simp_all [It.ok])|.bG t,x,_=>by
  show(match yB (aV (eX t x))with|some ds=>yz t ds|none=>O)=_
  rw[kQ,aay];exact aaw t x
 |.cells l,x,a=>HT.mK l x a|.aX k off,x,_=>by simp[It.dJ,It.cB,aM,cE]|.dj f caps,x,_=>by simp[It.dJ,It.cB,aM,cE]|.cV k,x,_=>by simp[It.dJ,It.cB,aM,cE]|.nz,x,_=>by simp[It.dJ,It.cB,aM,cE]|.kA k off,x,_=>by simp[It.dJ,It.cB,aM,aV,cE]
def kU(l:M It):ay:=l.any It.has
@[reducible] def T2(b:ay)(α β:Type):Type:=match b with|true=>α×β|false=>α
def T2.fst{α β:Type}:(b:ay)->T2 b α β->α|true,x=>x.1|false,x=>x
def T2.snd{α β:Type}:(b:ay)->β->T2 b α β->β|true,_,x=>x.2|false,d,_=>d
def T2.mk{α β:Type}:(b:ay)->α->β->T2 b α β|true,x,y=>(x,y)|false,x,_=>x
def T2.fst_mk{α β:Type}(b:ay)(x:α)(y:β):T2.fst b (T2.mk b x y)=x:=by cases b<;>rfl
def T2.al0{α β:Type}(b:ay)(d:β)(z:T2 b α β):T2.mk b (T2.fst b z) (T2.snd b d z)=z:=by cases b<;>rfl
@[reducible] def IT:M It->Type
  |[]=>bY|i::r=>match i.has with|true=>T2 (kU r) i.T (IT r)|false=>IT r
def IT.hd:(i:It)->(r:M It)->IT (i::r)->i.T|.one _,r=>λx=>T2.fst (kU r) x|.bG _,r=>λx=>T2.fst (kU r) x|.cells _,r=>λx=>T2.fst (kU r) x|.aX _ _,_=>λ_=>()|.dj _ _,_=>λ_=>()|.cV _,_=>λ_=>()|.nz,_=>λ_=>()|.kA _ _,_=>λ_=>()
def IT.tl(d:(r:M It)->IT r):(i:It)->(r:M It)->IT (i::r)->IT r|.one _,r=>λx=>T2.snd (kU r) (d r) x|.bG _,r=>λx=>T2.snd (kU r) (d r) x|.cells _,r=>λx=>T2.snd (kU r) (d r) x|.aX _ _,_=>λx=>x|.dj _ _,_=>λx=>x|.cV _,_=>λx=>x|.nz,_=>λx=>x|.kA _ _,_=>λx=>x
def IT.cons:(i:It)->(r:M It)->i.T->IT r->IT (i::r)|.one _,r=>λx y=>T2.mk (kU r) x y|.bG _,r=>λx y=>T2.mk (kU r) x y|.cells _,r=>λx y=>T2.mk (kU r) x y|.aX _ _,_=>λ_ y=>y|.dj _ _,_=>λ_ y=>y|.cV _,_=>λ_ y=>y|.nz,_=>λ_ y=>y|.kA _ _,_=>λ_ y=>y
def IT.gN:(l:M It)->IT l|[]=>()|i::r=>IT.cons i r i.gN (IT.gN r)
def IT.cB:(l:M It)->IT l->M aP|[],_=>[]|i::r,x=>i.cB (IT.hd i r x)::IT.cB r (IT.tl IT.gN i r x)
def IT.eQ:(l:M It)->M aP->Q (IT l)
 |[],vs=>match vs with|[]=>J ()|_=>O
 |i::r,vs=>match vs with
  |v::vs=>match i.eQ v,IT.eQ r vs with|some x,J y=>J (IT.cons i r x y)|_,_=>O
  |[]=>O
def IT.dJ:(l:M It)->M SV->Q (IT l)
 |[],vs=>match vs with|[]=>J ()|_=>O
 |i::r,vs=>match vs with
  |v::vs=>match i.dJ v,IT.dJ r vs with|some x,J y=>J (IT.cons i r x y)|_,_=>O
  |[]=>O
def IT.unit:∀(l:M It),kU l=I->∀x y:IT l,x=y
 |[],_,_,_=>rfl|i::r,h,x,y=>by
  have h2:i.has=I/\kU r=I:=by grind [kU]
  cases i with
  |one _=>cases h2.1
  |bG _=>cases h2.1
  |cells _=>cases h2.1
  |aX _ _=>exact IT.unit r h2.2 x y|dj _ _=>exact IT.unit r h2.2 x y|cV _=>exact IT.unit r h2.2 x y|nz=>exact IT.unit r h2.2 x y|kA _ _=>exact IT.unit r h2.2 x y
def T2.snd_mk(r:M It){α:Type}(x:α)(y d:IT r):T2.snd (kU r) d (T2.mk (kU r) x y)=y:=by
 have:∀b,kU r=b->T2.snd b d (T2.mk b x y)=y:=by
  intro b a;cases b with|true=>rfl|false=>exact IT.unit r a d y
 exact this _ rfl
def IT.Er(i:It)(r:M It)(x:i.T)(y:IT r):IT.hd i r (IT.cons i r x y)=x:=by cases i<;>first|exact T2.fst_mk (kU r) x y|rfl
def IT.Es(i:It)(r:M It)(x:i.T)(y:IT r):IT.tl IT.gN i r (IT.cons i r x y)=y:=by cases i<;>first|exact T2.snd_mk r x y _|rfl
def IT.al1(i:It)(r:M It)(z:IT (i::r)):IT.cons i r (IT.hd i r z) (IT.tl IT.gN i r z)=z:=by cases i<;>first|exact T2.al0 (kU r) _ z|rfl
theorem IT.lZ:∀(l:M It)(vs:M aP)(x:IT l),IT.eQ l vs=J x->(IT.cB l x).map aM=vs.map aM
 |[],vs,x,e=>by cases vs<;>first|rfl|cases e
 |i::r,vs,x,e=>by
  cases vs with
  |nil=>cases e
  |cons v vs=>simp only[IT.eQ]at e;split at e;rename_i y z h1 h2;cases e;simp only[IT.cB,fc];rw[IT.Er,IT.Es,It.lZ h1,IT.lZ r vs z h2];cases e
theorem IT.mK:∀(l:M It)(x:IT l),l.all It.ok=W->IT.dJ l ((IT.cB l x).map aM)=J x|[],x,_=>rfl|i::r,x,a=>by rw[nM,cr]at a;simp only[IT.cB,fc,IT.dJ];rw[It.mK _ a.1,IT.mK r _ a.2];simp only;rw[IT.al1]
def J9{α β:Type}{f:α->Q β}{g:β->α}(h:∀a b,f a=J b->a=g b):∀(l:M α)(r:M β),vL f l=J r->l=r.map g
 |[],r,e=>by cases e;rfl
 |a::l,r,e=>by simp only[vL]at e;split at e;rename_i b c h1 h2;cases e;rw[h a b h1,J9 h l c h2];rfl;cases e
def yC:∀(t:Ty)(ds:M D)(x:t.T)(r:M D),kh t ds=J (x,r)->ds=be t x++r
 |.int k,ds,x,r,e=>by simp only[kh]at e;split at e;split at e;rename_i h;subst h;cases e;rfl;cases e;cases e
 |.bool,ds,x,r,e=>by simp only[kh]at e;split at e<;>cases e;rfl
 |.bj,ds,x,r,e=>by simp only[kh]at e;split at e<;>cases e;rfl
 |.sl t,ds,x,r,e=>by simp only[kh]at e;split at e;cases e;rfl;split at e;rename_i h;subst h;split at e;rename_i l f;cases e;have:=J9 (g:=be t) (λa b c=>by split at c;rename_i y hy;cases c;have:=yC t a _ [] hy;simpa using this;cases c) _ _ f;rw[this];rfl;cases e;cases e;cases e
 |.bJ h t,ds,x,r,e=>by simp only[kh]at e;split at e;rename_i y d h1;split at e;rename_i z i h2;cases e;rw[yC h ds y d h1,yC t d z r h2];simp[be];cases e;cases e
 |.set k,ds,x,r,e=>yC k ds x r e|.cj _ h t,ds,x,r,e=>by simp only[kh]at e;split at e;rename_i y d h1;split at e;rename_i z i h2;cases e;rw[yC h ds y d h1,yC t d z r h2];simp[be];cases e;cases e
def aaz{t:Ty}{ds:M D}{x:t.T}(h:yz t ds=J x):ds=be t x:=by unfold yz at h;split at h;rename_i y hy;cases h;have:=yC t ds _ [] hy;simpa using this;cases h
def Ka{t:Ty}{ds:M (M D)}{xs:M t.T}(h:Bh t ds=J xs):ds=xs.map (be t):=J9 (λ_ _=>aaz) ds xs h
def Sh.i7:∀{h:Sh}{c:C}{x:h.T},h.dJ c=J x->c=cE (h.cB x)
 |.dd,c,x,e=>by simp only[Sh.dJ]at e;split at e<;>cases e;rfl
 |.u k,c,x,e=>by simp only[Sh.dJ]at e;split at e;split at e;rename_i h;subst h;rfl;cases e;cases e
 |.r z,c,x,e=>by simp only[Sh.dJ]at e;split at e;split at e;rename_i h;subst h;cases e;rfl;cases e;cases e
 |.p k off,c,x,e=>by simp only[Sh.dJ]at e;split at e;split at e;rename_i h;obtain⟨rfl,rfl⟩:=h;rfl;cases e;cases e
 |.i k,c,x,e=>by simp only[Sh.dJ]at e;split at e;split at e;rename_i h;subst h;cases e;rfl;cases e;cases e
 |.b,c,x,e=>by simp only[Sh.dJ]at e;split at e<;>cases e;rfl
 |.s,c,x,e=>by simp only[Sh.dJ]at e;split at e<;>cases e;rfl
 |.l m t,c,x,e=>by simp only[Sh.dJ]at e;split at e;split at e;rename_i h;subst h;rw[Ka e];rfl;cases e;split at e;rename_i h;subst h;rw[Ka e];rfl;cases e;cases e
 |.n m t,c,x,e=>by simp only[Sh.dJ]at e;split at e;cases e;rfl;cases e;rfl;split at e;rename_i h;subst h;obtain⟨y,h1,rfl⟩:=pQ.1 e;rw[Ka h1];rfl;cases e;split at e;rename_i h;subst h;obtain⟨y,h1,rfl⟩:=pQ.1 e;rw[Ka h1];rfl;cases e;cases e
def HT.i7:∀(l:M Sh)(cs:M C)(x:HT l),HT.dJ l cs=J x->cs=aV (HT.cB l x)
 |[],cs,x,e=>by cases cs<;>first|rfl|cases e
 |[h],cs,x,e=>by
  match cs with
  |[]=>cases e
  |[c]=>exact cb (λz=>[z]) (Sh.i7 (h:=h) e)|_::_::_=>cases e
 |h::a::r,cs,x,e=>by
  cases cs with
  |nil=>cases e
  |cons c cs=>simp only[HT.dJ]at e;split at e;rename_i y z h1 h2;cases e;show c::cs=cE (h.cB y)::aV (HT.cB (a::r) z);rw[<-Sh.i7 h1,<-HT.i7 (a::r) cs z h2];cases e
def aaA:∀{cs:M C}{l:M D},yB cs=J l->cs=l.map .d
 |[],l,e=>by cases e;rfl
 |c::cs,l,e=>by
  cases c with
  |d x=>simp only[yB]at e;split at e;rename_i a h;cases e;rw[aaA h];rfl;cases e
  |_=>cases e
def It.i7:∀{i:It}{v:SV}{x:i.T},i.dJ v=J x->v=aM (i.cB x)
 |.one h,v,x,e=>by
  cases v with|one c=>exact cb SV.one (Sh.i7 (h:=h) e)|_=>cases e
 |.bG t,v,x,e=>by
  cases v with
  |agg cs=>simp only[It.dJ]at e;split at e;rename_i ds hd;show SV.agg cs=SV.agg (aV (eX t x));rw[kQ,<-aaz e,aaA hd];cases e
  |_=>cases e
 |.cells l,v,x,e=>by
  cases v with|agg cs=>exact cb SV.agg (HT.i7 l cs x e)|_=>cases e
 |.aX k off,v,x,e=>by simp only[It.dJ]at e;split at e;split at e;rename_i h;obtain⟨rfl,rfl⟩:=h;rfl;cases e;cases e
 |.dj f caps,v,x,e=>by simp only[It.dJ]at e;split at e;split at e;rename_i h;obtain⟨rfl,rfl⟩:=h;rfl;cases e;cases e
 |.cV k,v,x,e=>by simp only[It.dJ]at e;split at e;split at e;rename_i h;subst h;rfl;cases e;cases e
 |.nz,v,x,e=>by simp only[It.dJ]at e;split at e;rfl;cases e
 |.kA k off,v,x,e=>by simp only[It.dJ]at e;split at e;split at e;rename_i h;obtain⟨rfl,rfl⟩:=h;rfl;cases e;cases e
def IT.i7:∀(l:M It)(vs:M SV)(x:IT l),IT.dJ l vs=J x->vs=(IT.cB l x).map aM
 |[],vs,x,e=>by cases vs<;>first|rfl|cases e
 |i::r,vs,x,e=>by
  cases vs with
  |nil=>cases e
  |cons v vs=>simp only[IT.dJ]at e;split at e;rename_i y z h1 h2;cases e;simp only[IT.cB,fc];rw[IT.Er,IT.Es,<-It.i7 h1,<-IT.i7 r vs z h2];cases e
def Kb:U->M aP->M (U×aP)|_,[]=>[]|i,v::vs=>(i,dP.gq {v} (.bP i))::Kb (i+1) vs
def vM:U->M (M E)->M (aD×M E)|_,[]=>[]|i,b::a=>(.aC i,b)::vM (i+1) a
def yD(A:M aP)(B:M (M E)):bK:={cm:=Kb 0 A,aI:=vM 0 B,cI:=[],cH:=[]}
def aaB:∀(A:M aP)(i:U),(Kb i A).map (λx=>(x.1,aM x.2))=u7 i (A.map aM)|[],i=>rfl|v::A,i=>by simp only[Kb,fc,u7,I0];rw[aaB A (i+1)];congr 2;exact copy_eq {v} (.bP i)
def aaC:∀(B:M (M E))(i:U),(vM i B).map (λx=>(x.1,aV x.2))=va i (B.map aV)|[],i=>rfl|b::B,i=>by simp only[vM,fc,va];rw[aaC B (i+1)]
def al2(A:M aP)(B:M (M E)):dM A (yD A B)=AF (A.map aM) (B.map aV):=by simp only[dM,yD,AF,aaB,aaC,iZ]
def QG(af:bO):nQ->PE aP
 |.tmp t=>fh (.tmp t)|.cell a t=>match af.ti t with|some i=>do AK i (<-fT (.tmp a))|none=>.ai
def Kc(af:bO):M nQ->PE (M aP)|[]=>.ret []|r::rs=>do let v <-QG af r;let vs <-Kc af rs;.ret (v::vs)
def QH:E->PE E
 |.l (.bm (.bP i) j hv cv k) t xs=>pf (.l (.bm (.bP i) j hv cv k) t xs)|.n (.bm (.bP i) j hv cv k) t o=>pf (.n (.bm (.bP i) j hv cv k) t o)|.it m t xs a=>match m with|.bm .. =>.ai|m=>.ret (.it m t xs a)
 |c=>.ret c
def Kd(c:E):PE E:=QH c
def Et:M E->PE (M E)|[]=>.ret []|c::cs=>do let a <-Kd c;let r <-Et cs;.ret (a::r)
def Bi:aP->PE aP|.one c=>do .ret (.one (<-Kd c))|.agg cs=>do .ret (.agg (<-Et cs))|_=>.ai
def Ke:M aP->PE (M aP)|[]=>.ret []|v::vs=>do let a <-Bi v;let r <-Ke vs;.ret (a::r)
def QI:E->ay|.aX _ _=>W|.bN=>W|c=>rD c
def al3{cs:M E}(h:cs.all QI=W):(aV cs).all easy=W:=by
 simp only[aV,List.all_map,gT,Function.comp_apply]at h ⊢;intro c a;have:=h c a;cases c with
 |aX k off=>rfl|l m t xs=>cases m<;>first|rfl|cases this
 |n m t o=>cases m<;>cases o<;>first|rfl|cases this
 |_=>first|rfl|cases this
def QJ(k:aD):PE bY:=
 .aG (.box k) λx=>match x.v with
  |.agg cs=>match cs.all QI with|true=>.ret ()|false=>.ai
  |_=>.ai
def Kf:M aD->PE bY|[]=>.ret ()|k::ks=>do QJ k;Kf ks
def Bj(v:aP):ay×M E:=match v with|.one c=>(I,[c])|.agg cs=>(W,cs)|_=>(I,[])
def pn:M aP->aP|[v]=>v|vs=>.bw (vs.map Bj)
def Bk(ks:M aD):E->PE E
 |.aX k off=>do bE (ks.any (gx k));.ret (.aX (.aC (idx k ks)) off)|.dj f caps=>do bE caps.isEmpty;.ret (.dj f [])|c=>match rD c with|true=>.ret c|false=>.ai
def vN(ks:M aD):M E->PE (M E)|[]=>.ret []|c::cs=>do let a <-Bk ks c;let r <-vN ks cs;.ret (a::r)
def yE(ks:M aD):M (ay×M E)->PE (M (ay×M E))|[]=>.ret []|(b,cs)::vs=>do let a <-vN ks cs;let r <-yE ks vs;.ret ((b,a)::r)
def po(ks:M aD):aP->PE aP|.one c=>do .ret (.one (<-Bk ks c))|.agg cs=>do .ret (.agg (<-vN ks cs))|.bw vs=>do .ret (.bw (<-yE ks vs))|.undef=>.ai
def QK(a:U)(cs:M E):M aD:=jM a++(nb (oj cs)).filter λk=> !k.isIn
def yF(af:bO)(res:M nQ)(b:U):PE (aP×M (M E)):=do
 let vs <-Kc af res
 let ks:=QK b (vs.flatMap aP.cells)
 Kf ks
 let a <-Ke vs
 let c <-sL (.tmp 0) (X6 af.nT) (pn a)
 let d <-ql ks ks
 let e <-po ks c
 .ret (e,d)
def al4(af:bO)(r:nQ)(s:bp):ae s (QG af r) aM (AA af r):=by
 cases r with
 |tmp t=>exact fR (.tmp t) s|cell a t=>
  simp only[QG,AA];cases af.ti t with|none=>exact ae.ai|some i=>simp only[bD,bF];exact ae.bind (fW _ s) λc b=>YT i c b
def aaD(af:bO):∀(rs:M nQ)(s:bp),ae s (Kc af rs) (jd aM) (AB af rs)|[],s=>ae.ret rfl|r::rs,s=>by simp only[Kc,AB,bD,bF];exact ae.bind (al4 af r s) λv a=>ae.bind (aaD af rs a) λvs b=>ae.ret rfl
def aaE(c:E)(s:bp):ae s (Kd c) cE (x9 (cE c)):=by
 unfold Kd;cases c with
 |l m t xs=>
  cases m with
  |bm r j hv cv k=>
   cases r with|bP i=>simp only[QH,x9,cE,lC,bF];exact A4 (vA (.l (.bm (.bP i) j hv cv k) t xs) s) (A5 _ s)|_=>exact ae.ret rfl
  |_=>exact ae.ret rfl
 |n m t o=>
  cases m with
  |bm r j hv cv k=>
   cases r with
   |bP i=>
    have h:=A4 (vA (.n (.bm (.bP i) j hv cv k) t o) s) (A5 _ s);cases o with|none=>exact h|some xs=>simp only[QH,x9,cE,lC,bF];exact h
   |_=>cases o<;>exact ae.ret rfl
  |_=>cases o<;>exact ae.ret rfl
 |gW b=>cases b<;>exact ae.ret rfl
 |it m t xs a=>cases m<;>first|exact ae.ret rfl|exact ae.ai
 |_=>exact ae.ret rfl
def aaF:∀(cs:M E)(s:bp),ae s (Et cs) aV (uW (aV cs))|[],s=>ae.ret rfl|c::cs,s=>by show ae s (Et (c::cs)) aV (uW (cE c::aV cs));simp only[Et,uW,bD,bF];exact ae.bind (aaE c s) λd a=>ae.bind (aaF cs a) λb e=>ae.ret rfl
def al5(v:aP)(s:bp):ae s (Bi v) aM (qi (aM v)):=by
 cases v with|one c=>show ae s (Bi (.one c)) aM (qi (.one (cE c)));simp only[Bi,qi,bD,bF];exact ae.bind (aaE c s) λa b=>ae.ret rfl|agg cs=>show ae s (Bi (.agg cs)) aM (qi (.agg (aV cs)));simp only[Bi,qi,bD,bF];exact ae.bind (aaF cs s) λa b=>ae.ret rfl|_=>exact ae.ai
def aaG:∀(vs:M aP)(s:bp),ae s (Ke vs) (jd aM) (AC (vs.map aM))|[],s=>ae.ret rfl|v::vs,s=>by simp only[fc,Ke,AC,bD,bF];exact ae.bind (al5 v s) λc a=>ae.bind (aaG vs a) λb d=>ae.ret rfl
def al6(k:aD)(s:bp):ae s (QJ k) (λ_=>()) (Vs.settle k):=by
 unfold QJ Vs.settle;refine ae.aG ?_;cases hv:(s.aG (.box k)).v with
 |agg cs=>
  simp only[cL,hv,aM];cases a:cs.all QI with|false=>exact ae.ai|true=>rw[aF (al3 a)];exact ae.ret rfl
 |_=>simp only[cL,hv,aM];exact ae.ai
def aaH:∀(ks:M aD)(s:bp),ae s (Kf ks) (λ_=>()) (AE ks)|[],s=>ae.ret rfl|k::ks,s=>by simp only[Kf,AE,bD,bF];exact ae.bind (al6 k s) λ_ a=>aaH ks a
def yG(vs:M aP):aM (pn vs)=IZ (vs.map aM):=by
 match vs with
 |[]=>rfl|[v]=>rfl|v::u::r=>
  show SV.bw (fq ((v::u::r).map Bj))=SV.bw (((v::u::r).map aM).map λv=>match v with|.one c=>(I,[c])|.agg cs=>(W,cs)|_=>(I,[]))
  congr 1;generalize v::u::r=l;induction l with|nil=>rfl|cons x l a=>show((Bj x).1,aV (Bj x).2)::fq (l.map Bj)=_;rw[a];cases x<;>rfl
def aaI(ks:M aD)(c:E)(s:bp):ae s (Bk ks c) cE (ya ks (cE c)):=by
 cases c with
 |l m t xs=>cases m<;>first|exact ae.ret rfl|exact ae.ai
 |n m t o=>cases m<;>cases o<;>first|exact ae.ret rfl|exact ae.ai
 |aX k off=>simp only[Bk,ya,cE,bD,bF];refine ae.bE λh=>?_;rw[A7]at h;rw[cA (by simpa using h)];exact ae.ret rfl|dj f caps=>simp only[Bk,ya,cE,bD,bF];refine ae.bE λh=>?_;rw[cA (by simpa using h)];exact ae.ret rfl|ea=>exact ae.ai|da=>exact ae.ai|bN=>exact ae.ai|gW b=>exact ae.ai|it=>exact ae.ai|_=>exact ae.ret rfl
def QL(ks:M aD):∀(cs:M E)(s:bp),ae s (vN ks cs) aV (uY ks (aV cs))|[],s=>ae.ret rfl|c::cs,s=>by show ae s (vN ks (c::cs)) aV (uY ks (cE c::aV cs));simp only[vN,uY,bD,bF];exact ae.bind (aaI ks c s) λd a=>ae.bind (QL ks cs a) λb e=>ae.ret rfl
def aaJ(ks:M aD):∀(vs:M (ay×M E))(s:bp),ae s (yE ks vs) fq (yb ks (fq vs))|[],s=>ae.ret rfl|(b,cs)::vs,s=>by show ae s (yE ks ((b,cs)::vs)) fq (yb ks ((b,aV cs)::fq vs));simp only[yE,yb,bD,bF];exact ae.bind (QL ks cs s) λd a=>ae.bind (aaJ ks vs a) λc e=>ae.ret rfl
def al7(ks:M aD)(v:aP)(s:bp):ae s (po ks v) aM (oa ks (aM v)):=by
 cases v with|one c=>show ae s (po ks (.one c)) aM (oa ks (.one (cE c)));simp only[po,oa,bD,bF];exact ae.bind (aaI ks c s) λa b=>ae.ret rfl|agg cs=>show ae s (po ks (.agg cs)) aM (oa ks (.agg (aV cs)));simp only[po,oa,bD,bF];exact ae.bind (QL ks cs s) λa b=>ae.ret rfl|bw vs=>show ae s (po ks (.bw vs)) aM (oa ks (.bw (fq vs)));simp only[po,oa,bD,bF];exact ae.bind (aaJ ks vs s) λa b=>ae.ret rfl|undef=>exact ae.ai
def al8(af:bO)(res:M nQ)(a:U)(s:bp):ae s (yF af res a) (λx=>(aM x.1,x.2.map aV)) (yc af res a):=by
 simp only[yF,yc,bD,bF];refine ae.bind (aaD af res s) λvs b=>?_;have hk:uZ a ((vs.map aM).flatMap SV.cells)=QK a (vs.flatMap aP.cells):=by unfold uZ QK;rw[P2,P1]
 rw[hk];refine ae.bind (aaH _ b) λ_ c=>ae.bind (aaG vs c) λd e=>?_;rw[<-yG];exact ae.bind (YQ _ _ _ e) λf g=>ae.bind (P3 _ _ g) λi h=>ae.bind (al7 _ f h) λj k=>ae.ret rfl
def AX{α:Type}(t:Tr α):t.eI λ_=>dL:=by
 induction t with|dw a=>trivial|ai=>trivial|br c t e b f=>exact⟨b,f⟩|call d o k g=>exact g|sum o k k' g h=>exact⟨g,h⟩
def al9(ks:M aD)(v:aP)(s:bp):((po ks v).cU s).eI λx=>x.2.1=s:=by
 have one:∀(c:E)(s:bp),((Bk ks c).cU s).eI λx=>x.2.1=s:=by
  intro c s;cases c with
  |aX k off=>show(((bE _).bind λ_=>PE.ret _).cU s).eI _;cases ks.any (gx k)<;>first|exact trivial|exact rfl
  |dj f caps=>show(((bE _).bind λ_=>PE.ret _).cU s).eI _;cases caps.isEmpty<;>first|exact trivial|exact rfl
  |l m t xs=>cases m<;>first|exact rfl|exact trivial
  |n m t o=>cases m<;>first|exact rfl|exact trivial
  |_=>first|exact rfl|exact trivial
 have many:∀(cs:M E)(s:bp),((vN ks cs).cU s).eI λx=>x.2.1=s:=by
  intro cs;induction cs with
  |nil=>intro s;exact rfl
  |cons c cs e=>intro s;simp only[vN,bD];rw[ke,Tr.ky];refine Tr.gX ?_ (one c s);rintro ⟨a,s',f,g⟩ h;rw[Tr.lv,ke,Tr.ky];refine Tr.gX ?_ (e s');rintro ⟨b,i,q,r⟩ j;exact aav j h
 have bw:∀(vs:M (ay×M E))(s:bp),((yE ks vs).cU s).eI λx=>x.2.1=s:=by
  intro vs;induction vs with
  |nil=>intro s;exact rfl
  |cons p vs e=>intro s;let⟨b,cs⟩:=p;simp only[yE,bD];rw[ke,Tr.ky];refine Tr.gX ?_ (many cs s);rintro ⟨a,s',f,g⟩ h;rw[Tr.lv,ke,Tr.ky];refine Tr.gX ?_ (e s');rintro ⟨b,i,q,r⟩ j;exact aav j h
 cases v with|one c=>simp only[po,bD];rw[ke,Tr.ky];exact Tr.gX (λx d=>d) (one c s)|agg cs=>simp only[po,bD];rw[ke,Tr.ky];exact Tr.gX (λx d=>d) (many cs s)|bw vs=>simp only[po,bD];rw[ke,Tr.ky];exact Tr.gX (λx d=>d) (bw vs s)|undef=>exact trivial
def aaK(b:M aD):∀(ks:M aD)(s:bp),((ql b ks).cU s).eI λx=>x.2.1=s/\Holds b s ks x.1
 |[],s=>⟨rfl,trivial⟩|k::ks,s=>by
  simp only[ql,PE.cU,Tr.lv,bD];cases hv:(s.aG (.box k)).v with
  |agg cs=>
   cases c:cs.all (lu b)with|false=>simp only[c];exact trivial|true=>simp only[c];show(((ql b ks).bind λr=>PE.ret (cs.map (lW b)::r)).cU s).eI _;rw[ke,Tr.ky];refine Tr.gX ?_ (aaK b ks s);rintro ⟨a,s',f,g⟩ ⟨h1,h2⟩;simp only at h1 h2;subst h1;exact⟨rfl,⟨cs,hv,c,rfl⟩,h2⟩
  |_=>exact trivial
def ama(af:bO)(res:M nQ)(a:U)(s:bp):((yF af res a).cU s).eI λx=>∃ks,Holds (jM a++ks) x.2.1 (jM a++ks) x.1.2:=by simp only[yF,bD];rw[ke,Tr.ky];refine Tr.gX ?_ (AX _);rintro ⟨vs,f,f1,g⟩ _;rw[Tr.lv,ke,Tr.ky];refine Tr.gX ?_ (AX _);rintro ⟨_,h,f2,i⟩ _;rw[Tr.lv,ke,Tr.ky];refine Tr.gX ?_ (AX _);rintro ⟨b,j,f3,k⟩ _;rw[Tr.lv,ke,Tr.ky];refine Tr.gX ?_ (AX _);rintro ⟨c,d,f4,l⟩ _;rw[Tr.lv,ke,Tr.ky];refine Tr.gX ?_ (aaK _ _ d);rintro ⟨m,e,f5,n⟩ ⟨h1,h2⟩;simp only at h1;subst h1;rw[Tr.lv,ke,Tr.ky];refine Tr.gX ?_ (al9 _ c e);rintro ⟨o,p,f6,q⟩ h3;simp only at h3;subst h3;exact⟨_,h2⟩
structure bT where
 args:List It
 aI:List It:=[]
 res:List It
 jm:List (List (Option Sh)):=[]
 cI:List (Nat×Nat):=[]
 opt:Bool:=false
def Kg(v:aP):M E:=match v with|.agg cs=>cs|_=>[]
abbrev bT.X(S:bT):Type:=IT (S.args++S.aI)
def bT.eO(S:bT)(x:S.X):M aP:=(IT.cB (S.args++S.aI) x).take (Y S.args)
def bT.fD(S:bT)(x:S.X):M (M E):=((IT.cB (S.args++S.aI) x).drop (Y S.args)).map Kg
def Kh:M (Q Sh)->M It|[]=>[]|none::r=>Kh r|some h::r=>.one h::Kh r
def amb:ay->M It|true=>[.one .b]|false=>[]
def bT.mL(S:bT):M It:=amb S.opt++S.jm.flatMap Kh
abbrev bT.Y(S:bT):Type:=IT (S.res++S.mL)
def pp(v:aP):E:=match v with|.one c=>c|_=>.bN
def vO:M (Q Sh)->M E->M (Q E)×M E
 |[],cs=>([],cs)|none::r,cs=>let f:=vO r cs;(O::f.1,f.2)|some _::r,cs=>match cs with|c::cs=>let f:=vO r cs;(J c::f.1,f.2)|[]=>([],[])
def oA:M (M (Q Sh))->M E->M (M (Q E))|[],_=>[]|o::os,cs=>let f:=vO o cs;f.1::oA os f.2
def rK(n:U):aP->aP
 |.one (.aX (.aC i) off)=>match gG n i with|true=>.one (.cV .aX)|false=>.one (.aX (.aC i) off)
 |v=>v
def Ki:M E->ay|.b b::_=>b|.ff::_=>I|_=>W
def bT.flag(S:bT)(y:S.Y):ay:=match S.opt with|true=>Ki (((IT.cB (S.res++S.mL) y).drop S.res.length).map pp)|false=>W
def bT.out(S:bT)(y:S.Y)(b:ay):aP×M (M (Q E)):=let l:=IT.cB (S.res++S.mL) y
 match S.opt with
 |false=>(pn (l.take S.res.length),oA S.jm ((l.drop S.res.length).map pp))|true=>match b with|true=>(pn (l.take S.res.length),oA S.jm (((l.drop S.res.length).map pp).drop 1))|false=>(pn ((l.take S.res.length).map (rK S.aI.length)),oA (S.jm.take S.aI.length) (((l.drop S.res.length).map pp).drop 1))
def bT.eQ(S:bT)(args:M aP)(aI:M (M E)):Q S.X:=
 match args.length==S.args.length with|true=>IT.eQ (S.args++S.aI) (args++aI.map .agg)|false=>O
def bT.dJ(S:bT)(args:M SV)(aI:M (M C)):Q S.X:=if args.length=S.args.length then IT.dJ (S.args++S.aI) (args++aI.map .agg)else O
def bT.F(S:bT)(sh:S.X->Q S.Y):qY:=λargs aI=>
 match S.dJ args aI with
 |some x=>match sh x with|some y=>J {v:=aM (S.out y (S.flag y)).1,aI:=(i6 (S.fD x) (S.out y (S.flag y)).2).map aV,cI:=S.cI}|none=>O
 |none=>O
def QM:It->ay|.bG _=>W|.cells _=>W|.kA _ _=>W|_=>I
def amc(n:U):It->ay
 |.kA (.aC i) _=>gG (i+1) n|.kA _ _=>I|.cells l=>l.all λh=>match h with|.p (.aC i) _=>gG (i+1) n|.p _ _=>I|_=>W
 |_=>W
def bT.ok(S:bT):ay:=S.args.all It.ok&&S.aI.all It.ok&&(S.aI.all QM&&S.aI.all (amc S.aI.length))
def IT.aaL:∀(l:M It)(x:IT l)(m:U)(v:aP),(IT.cB l x)[m]?=J v->∃i y,l[m]?=J i/\v=It.cB i y|[],_,m,v,h=>by simp[IT.cB]at h|i::r,x,0,v,h=>by grind [IT.cB]|i::r,x,m+1,v,h=>by simp only[IT.cB,qN]at h;let⟨a,y,h1,h2⟩:=IT.aaL r _ m v h;grind
theorem Sh.aaM{h:Sh}{x:h.T}{k:aD}{off:U}(e:h.cB x=.aX k off):h=.p k off:=by cases h<;>simp[Sh.cB]at e;rw[e.1,e.2]
def HT.aaN:∀(l:M Sh)(x:HT l)(c:E),c∈HT.cB l x->∀k off,c=.aX k off->Sh.p k off∈l
 |[],_,c,h=>by simp[HT.cB]at h|[sh],x,c,h=>by grind [HT.cB,Sh.aaM]|sh::a::r,x,c,h=>by
  intro k off b;simp only[HT.cB,iG]at h;rcases h with rfl|h
  rw[Sh.aaM b];grind;exact jr _ (HT.aaN (a::r) _ c (by simpa[HT.cB]using h) k off b)
def Bl:∀(t:Ty)(x:t.T)(c:E),c∈eX t x->∀k off,c≠.aX k off
 |.bJ a b,x,c,h=>by
  simp only[eX,mm]at h;rcases h with h|h
  exact Bl a _ c h;exact Bl b _ c h
 |.cj _ a b,x,c,h=>by
  simp only[eX,mm]at h;rcases h with h|h
  exact Bl a _ c h;exact Bl b _ c h
 |.set k,x,c,h=>Bl k x c h|.int k,x,c,h=>by simp_all [eX]|.bool,x,c,h=>by simp_all [eX]|.bj,x,c,h=>by simp_all [eX]|.sl r,x,c,h=>by simp_all [eX]
def amd{S:bT}(d:S.ok=W)(x:S.X):∀b∈S.fD x,∀c∈b,∀k off,c=.aX k off->∃i,k=.aC i/\i<S.aI.length:=by
 intro b p c h k off e;obtain⟨v,hv,rfl⟩:=mq.1 p;let⟨m,g⟩:=List.getElem?_of_mem hv;rw[List.getElem?_drop]at g;let⟨i,y,h1,h2⟩:=IT.aaL _ _ _ _ g;rw[List.getElem?_append_right (by omega)]at h1;have n:i∈S.aI:=fG h1;simp only[bT.ok,cr]at d;have j:=gT.1 d.2.1 i n;have a:=gT.1 d.2.2 i n;subst h2;cases i with
 |bG t=>exact cJ e (Bl t y c h k off)|cells l=>
  have g:=HT.aaN l y c h k off e;have a:=gT.1 a _ g;cases k with
  |aC i=>exact⟨i,rfl,by have:=zY a;omega⟩|az t=>cases a
  |cn t i=>cases a
 |kA q o=>
  have f:c∈[E.aX q o]:=h;simp only[js]at f;rw[e]at f;cases f;cases k with
  |aC i=>exact⟨i,rfl,by have:=zY a;omega⟩|az t=>cases a
  |cn t i=>cases a
 |_=>cases j
theorem IT.Eu:∀(l:M It)(x:IT l),Y (IT.cB l x)=Y l|[],_=>rfl|i::r,x=>by simp[IT.cB,IT.Eu r]
def ame{i:It}(h:QM i=W)(x:i.T):∃cs,i.cB x=.agg cs:=by cases i<;>first|exact⟨_,rfl⟩|cases h
theorem aaO:∀(l:M It)(x:IT l),l.all QM=W->((IT.cB l x).map Kg).map aP.agg=IT.cB l x|[],_,_=>rfl|i::r,x,h=>by rw[nM,cr]at h;simp only[IT.cB,fc];let⟨cs,e⟩:=ame h.1 (IT.hd i r x);rw[aaO r _ h.2,e];rfl
def IT.amf(l m:M It)(x:IT (l++m)):∃y:IT m,(IT.cB (l++m) x).drop (Y l)=IT.cB m y:=by
 induction l with|nil=>exact⟨x,rfl⟩|cons i l a=>exact a (IT.tl IT.gN i (l++m) x)
def QN:∀{a b:M (M C)},a.map SV.agg=b.map SV.agg->a=b|[],[],_=>rfl|[],_::_,h=>by simp at h|_::_,[],h=>by simp at h|x::a,y::b,h=>by simp only[fc,zR,SV.agg.injEq]at h;rw[h.1,QN h.2]
section
variable(S:bT)
def bT.Kj(x:S.X):(S.eO x).length=S.args.length:=by simp[bT.eO,IT.Eu]
def bT.QO(x:S.X):(S.fD x).length=S.aI.length:=by simp[bT.fD,IT.Eu]
def bT.QP(a:S.ok=W)(x:S.X):S.eO x++(S.fD x).map aP.agg=IT.cB (S.args++S.aI) x:=by
 simp only[bT.ok,cr]at a;let⟨y,hy⟩:=IT.amf S.args S.aI x;have:(S.fD x).map aP.agg=(IT.cB (S.args++S.aI) x).drop S.args.length:=by grind [bT.fD,aaO]
 rw[this];exact mZ _ _
def bT.i7(a:S.ok=W){args:M SV}{aI:M (M C)}{x:S.X}(h:S.dJ args aI=J x):args=(S.eO x).map aM/\aI=(S.fD x).map aV:=by
 unfold bT.dJ at h;split at h;rename_i b;have e:=IT.i7 _ _ _ h;rw[<-bT.QP S a x,si]at e;have:=List.append_inj e (by rw[jS,bT.Kj,b]);refine⟨this.1,?_⟩;have h2:=this.2;rw[uj]at h2;have h3:aI.map SV.agg=((S.fD x).map aV).map SV.agg:=by rw[h2,uj];rfl
 exact QN h3;cases h
theorem bT.mK(a:S.ok=W)(x:S.X):S.dJ ((S.eO x).map aM) ((S.fD x).map aV)=J x:=by
 have e:(S.eO x).map aM++((S.fD x).map aV).map SV.agg=(IT.cB (S.args++S.aI) x).map aM:=by rw[<-bT.QP S a x,si,uj,uj];rfl
 simp_all [bT.dJ,bT.Kj,bT.ok,IT.mK]
theorem bT.lZ(a:S.ok=W){args:M aP}{aI:M (M E)}{x:S.X}(h:S.eQ args aI=J x):args.map aM=(S.eO x).map aM/\aI.map aV=(S.fD x).map aV:=by
 unfold bT.eQ at h;split at h;rename_i b;have e:=IT.lZ _ _ _ h;rw[<-bT.QP S a x,si,si]at e;have:=List.append_inj e (by simp_all [bT.Kj]);refine⟨this.1.symm,?_⟩;have h2:=this.2;rw[uj,uj]at h2;have h3:(aI.map aV).map SV.agg=((S.fD x).map aV).map SV.agg:=by rw[uj,uj];exact h2.symm
 exact QN h3;cases h
end
def amg{o:M (Q E)}:∀{a b:M E},aV a=aV b->aV (fg a o)=aV (fg b o):=by
 induction o with
 |nil=>intro a b h;cases a<;>cases b<;>simp_all [fg]
 |cons x o c=>
  intro a b h;cases a with
  |nil=>simp_all [aV]|cons z a=>
   cases b with
   |nil=>simp[aV]at h|cons y b=>
    have h1:cE z=cE y/\aV a=aV b:=(by simpa[aV]using h);show cE (match x with|some x=>x|none=>z)::aV (fg a o)=cE (match x with|some x=>x|none=>y)::aV (fg b o)
    rw[c h1.2];cases x with|none=>rw[h1.1]|some x=>rfl
theorem aaP:∀{a b:M (M E)}(os:M (M (Q E))),a.map aV=b.map aV->(i6 a os).map aV=(i6 b os).map aV
 |[],[],os,_=>rfl|[],_::_,_,h=>by simp at h|_::_,[],_,h=>by simp at h|x::a,y::b,[],h=>by simpa[i6]using h|x::a,y::b,o::os,h=>by
  have h1:aV x=aV y/\a.map aV=b.map aV:=by simpa using h
  simp only[i6,fc];rw[amg h1.1,aaP os h1.2]
def bT.dY(S:bT):S.Y:=IT.gN _
def bT.fI(S:bT)(hok:S.ok=W)(sh:S.X->Q S.Y):cY where
 A:=S.X
 R:=S.Y
 d:=S.dY
 eQ:=S.eQ
 sh:=sh
 two:=S.opt
 flag:=S.flag
 out:=λ_ y b=>S.out y b
 cI:=S.cI
 F:=S.F sh
 one:=λh y=>by unfold bT.flag;rw[h]
 ok:=by
  intro args aI x y hm hs
  obtain⟨h1,h2⟩:=bT.lZ S hok hm
  grind [bT.F,bT.mK,aaP]
def Ev:U->aP->Q (M aP)
 |1,v=>J [v]|n,.bw vs=>match Y vs==n with
  |true=>vL (λp=>match p.1,p.2 with|true,cs=>J (.agg cs)|false,[c]=>J (.one c)|false,_=>O) vs
  |false=>O
 |_,_=>O
def coll(d:eL)(k:aD):U->M (Q Sh)->M E->Q (M E)
 |_,[],[]=>J []|j,O::o,c::cs=>match !part (.box k) j d&&lY c with|true=>coll d k (j+1) o cs|false=>O
 |j,J _::o,c::cs=>match coll d k (j+1) o cs with|some l=>J (c::l)|none=>O
 |_,_,_=>O
def Kk:M (Q Sh)->M E->Q (M E)
 |[],[]=>J []|some _::o,c::cs=>match Kk o cs with|some l=>J (c::l)|none=>O
 |_,_=>O
def lx(d:eL):U->M (M E)->M (M (Q Sh))->M (M E)->Q (M E)
 |i,b::B,o::os,c::cs=>match Y b==Y c&&(!whole (.box (.aC i)) d||o.all CH),coll d (.aC i) 0 o c,lx d (i+1) B os cs with|true,J l,J a=>J (l++a)|_,_,_=>O
 |i,[],o::os,c::cs=>match Kk o c,lx d (i+1) [] os cs with|some l,J a=>J (l++a)|_,_=>O
 |_,[],[],[]=>J []|_,_,_,_=>O
def QQ(n:U)(it:It)(v:aP):aP:=match it,v with
 |.aX (.aC i) off,.one (.cV .aX)=>match gG n i with|true=>.one (.aX (.aC i) off)|false=>.one (.cV .aX)
 |_,v=>v
def vP(n:U):M It->M aP->M aP|it::a,v::vs=>QQ n it v::vP n a vs|_,vs=>vs
def Bm(n:U):aP->ay|.one (.aX (.aC i) _)=> !gG n i|_=>W
def amh(l:M (M (Q Sh))):M E:=(IT.cB (l.flatMap Kh) (IT.gN _)).map pp
def bT.Kl(S:bT)(d:eL)(B:M (M E))(v:aP)(a:M (M E)):Q S.Y:=
 match S.opt with
 |false=>match Ev S.res.length v,lx d 0 B S.jm a with
  |some vs,J cs=>match vs.length==S.res.length with|true=>IT.eQ (S.res++S.mL) (vs++cs.map .one)|false=>O
  |_,_=>O
 |true=>match a.length==S.jm.length with
  |true=>match Ev S.res.length v,lx d 0 B S.jm a with
   |some vs,J cs=>match vs.length==S.res.length with|true=>IT.eQ (S.res++S.mL) (vs++(.tt::cs).map .one)|false=>O
   |_,_=>O
  |false=>match Ev S.res.length v,lx d 0 B (S.jm.take S.aI.length) a with
   |some vs,J cs=>match vs.length==S.res.length&&vs.all (Bm S.aI.length)with|true=>IT.eQ (S.res++S.mL) (vP S.aI.length S.res vs++(.ff::cs++amh (S.jm.drop S.aI.length)).map .one)|false=>O
   |_,_=>O
def ami(F:iB)(A:M aP)(B:M (M E))(res:M nQ)(S:bT)(x:Ex×bK):Tr S.Y:=
 match x.1 with
 |.exit _=>.ai|_=>((yF F.af.c res (Y B)).cU (cx A x.2)).bind λy=>
  match decide (y.2.1.cI=S.cI)with
  |true=>match S.Kl y.2.1.cH B y.1.1 y.1.2 with|some z=>.dw z|none=>.ai
  |false=>.ai
noncomputable def QR(F:iB)(tbl:U->Q gO)(c:Code)(res:M nQ)(S:bT)(x:S.X):Tr S.Y:=(Qy F (S.eO x) (jM (Y S.aI)) tbl c 0 (yD (S.eO x) (S.fD x))).bind (ami F (S.eO x) (S.fD x) res S)
def QS{n:U}{v:aP}{vs:M aP}(h:Ev n v=J vs)(i:Y vs=n):pn vs=v:=by
 unfold Ev at h;split at h;cases h;rfl;rename_i n ws j;split at h
 have e:=J9 (g:=Bj) (f:=λp:ay×M E=>match p.1,p.2 with
   |true,cs=>J (aP.agg cs)|false,[c]=>J (.one c)|false,_=>O) (λa b d=>by
    let⟨k,cs⟩:=a
    cases k with
    |true=>cases d;rfl
    |false=>
     match cs,d with
     |[c],d=>cases d;rfl
     |[],d=>cases d
     |_::_::_,d=>cases d) ws vs h
 rw[e];match vs,i with|[],_=>rfl|[u],i=>exact cJ i.symm j|_::_::_,_=>rfl
 cases h;cases h
def aaQ{d:eL}{i:U}{o:M (Q Sh)}(h:(whole (.box (.aC i)) d=I\/o.all CH=W)){j:U}(a:o[j]?=J O):whole (.box (.aC (i+0))) d=I:=by
 rcases h with h|h
 exact h;have:=gT.1 h O (fG a);cases this
def Km{d:eL}{k:aD}:∀(o:M (Q Sh))(j:U)(c b l:M E),coll d k j o c=J l->Y b=Y c->(∀(i:U)x y,o[i]?=J O->part (.box k) (j+i) d=I->b[i]?=J x->c[i]?=J y->lY y=W->y=x)->∀a rest,aV a=aV l->∃os,vO o (a++rest)=(os,rest)/\aV (fg b os)=aV c
 |[],j,[],b,l,h,f,hk,a,rest,g=>by
  cases h;cases b with
  |nil=>
   cases a with|nil=>exact⟨[],rfl,rfl⟩|cons x r=>simp[aV]at g
  |cons x b=>simp at f
 |none::o,j,c::cs,b,l,h,f,hk,a,rest,g=>by
  simp only[coll]at h;split at h;rename_i m;simp only[cr,lL]at m;cases b with|nil=>simp at f|cons x b=>let⟨os,h1,h2⟩:=Km o (j+1) cs b l h (by simpa using f) (λi y z n t hy p q=>hk (i+1) y z (by simpa using n) (by grind) (by simpa using hy) (by simpa using p) q) a rest g;refine⟨O::os,by simp only[vO,h1],?_⟩;have e:=hk 0 x c (by simp) (by simpa using m.1) rfl rfl m.2;simp_all [aV,fg]
  cases h
 |some sh::o,j,c::cs,b,l,h,f,hk,a,rest,g=>by
  simp only[coll]at h;split at h;rename_i l1 h1;cases h;cases b with
  |nil=>simp at f|cons x b=>
   cases a with|nil=>simp[aV]at g|cons z a=>have s:cE z=cE c/\aV a=aV l1:=(by simpa[aV]using g);let⟨os,h2,h3⟩:=Km o (j+1) cs b l1 h1 (by simpa using f) (λi y z n t hy p q=>hk (i+1) y z (by simpa using n) (by grind) (by simpa using hy) (by simpa using p) q) a rest s.2;simp_all [vO,aV,fg]
  cases h
 |[],j,c::cs,b,l,h,_,_,_,_,_=>by cases h
 |none::o,j,[],b,l,h,_,_,_,_,_=>by cases h
 |some _::o,j,[],b,l,h,_,_,_,_,_=>by cases h
def QT:∀(o:M (Q Sh))(c l:M E),Kk o c=J l->∀a rest,aV a=aV l->∃os,vO o (a++rest)=(os,rest)/\aV (AL os)=aV c
 |[],[],l,h,a,rest,b=>by
  cases h;cases a with|nil=>exact⟨[],rfl,rfl⟩|cons x r=>simp[aV]at b
 |some sh::o,c::cs,l,h,a,rest,b=>by
  simp only[Kk]at h;split at h;rename_i l1 h1;cases h;cases a with|nil=>simp[aV]at b|cons z a=>have d:cE z=cE c/\aV a=aV l1:=(by simpa[aV]using b);let⟨os,h2,h3⟩:=QT o cs l1 h1 a rest d.2;simp_all [vO,aV,AL]
  cases h
 |[],_::_,l,h,_,_,_=>by cases h
 |none::o,_,l,h,_,_,_=>by cases h
 |some _::o,[],l,h,_,_,_=>by cases h
def Ew{l a b:M E}(h:aV l=aV (a++b)):∃c d,l=c++d/\aV c=aV a/\aV d=aV b:=by refine⟨l.take (Y a),l.drop (Y a),acC (mZ _ _),?_,?_⟩;simp_all [aV];simp_all [aV]
theorem Kn{d:eL}:∀(os:M (M (Q Sh)))(i:U)(B e:M (M E))(l:M E),lx d i B os e=J l->(∀m b c,B[m]?=J b->e[m]?=J c->whole (.box (.aC (i+m))) d=I->∀j x y,part (.box (.aC (i+m))) j d=I->b[j]?=J x->c[j]?=J y->lY y=W->y=x)->∀g,aV g=aV l->(i6 B (oA os g)).map aV=e.map aV
 |[],i,[],[],l,h,_,g,k=>rfl|o::os,i,b::B,c::e,l,h,hk,g,k=>by simp only[lx]at h;split at h;rename_i n p h1 h2 h3;cases h;simp only[cr,pP,dK,lL]at h1;obtain⟨f,a,rfl,q,r⟩:=Ew k;let⟨ws,v,w⟩:=Km o 0 c b n h2 h1.1 (λj x y C z s hy t=>hk 0 b c rfl rfl (aaQ h1.2 C) j x y (by simpa using z) s hy t) f a q;have A:=Kn os (i+1) B e p h3 (λm b c u D F j x y z s hy t=>hk (m+1) b c (by simpa using u) (by simpa using D) (by grind) j x y (by grind) s hy t) a r;simp only[oA,v,i6,fc];rw[w,A];cases h
 |o::os,i,[],c::e,l,h,hk,g,k=>by simp only[lx]at h;split at h;rename_i n p h2 h3;cases h;obtain⟨f,a,rfl,q,r⟩:=Ew k;let⟨ws,v,w⟩:=QT o c n h2 f a q;have A:=Kn os (i+1) [] e p h3 (λm b c u=>by simp at u) a r;simp_all [oA,i6];cases h
 |[],i,b::B,e,l,h,_,_,_=>by cases e<;>simp[lx]at h
 |[],i,[],c::e,l,h,_,_,_=>by simp[lx]at h|o::os,i,B,[],l,h,_,_,_=>by cases B<;>simp[lx]at h
theorem amj{l:M aP}{cs:M E}(h:l.map aM=(cs.map aP.one).map aM):aV (l.map pp)=aV cs:=by
 induction l generalizing cs with
 |nil=>cases cs<;>first|rfl|simp at h
 |cons u l a=>
  cases cs with
  |nil=>simp at h|cons c cs=>
   simp only[fc,zR]at h;show cE (pp u)::aV (l.map pp)=cE c::aV cs;rw[a h.2];congr 1;cases u with|one x=>have:=h.1;simp only[aM,SV.one.injEq]at this;exact this|_=>simp_all [aM]
def QU{S:bT}{vs:M aP}{cs:M E}{y:S.Y}(h:IT.eQ (S.res++S.mL) (vs++cs.map .one)=J y)(a:vs.length=S.res.length):((IT.cB (S.res++S.mL) y).take S.res.length).map aM=vs.map aM/\aV (((IT.cB (S.res++S.mL) y).drop S.res.length).map pp)=aV cs:=by have e:=IT.lZ _ _ _ h;rw[si]at e;grind [List.map_take,amj,List.map_drop]
def Bn(n:U):SV->SV
 |.one (.aX (.aC i) off)=>match gG n i with|true=>.one (.d (.cV .aX))|false=>.one (.aX (.aC i) off)
 |v=>v
def QV(n:U)(v:aP):aM (rK n v)=Bn n (aM v):=by
 have other:∀c:E,(∀i off,c≠.aX (.aC i) off)->rK n (.one c)=.one c/\Bn n (aM (.one c))=aM (.one c):=by intro c b;constructor;unfold rK;grind;unfold Bn;split;rename_i i off a;have a:SV.one (cE c)=SV.one (.aX (.aC i) off):=a;rw[SV.one.injEq]at a;exact cJ (Zl a) (b i off);rfl
 cases v with|one c=>grind [rK,aM,cE,Bn]|_=>rfl
theorem aaR{n:U}{v:aP}(h:Bm n v=W):Bn n (aM v)=aM v:=by rw[<-QV];congr 1;unfold rK;grind [Bm]
theorem amk{n:U}{it:It}{v u:aP}(h:Bm n v=W)(a:aM u=aM (QQ n it v)):aM (rK n u)=aM v:=by rw[QV,a];unfold QQ;grind [aM,cE,Bn,aaR]
def aaS(n:U):∀(b:M It)(vs us:M aP),vs.all (Bm n)=W->us.map aM=(vP n b vs).map aM->(us.map (rK n)).map aM=vs.map aM
 |_,[],us,_,h=>by simp_all [vP]|[],v::vs,us,a,h=>by
  have base:∀(vs us:M aP),vs.all (Bm n)=W->us.map aM=vs.map aM->(us.map (rK n)).map aM=vs.map aM:=by
   intro vs;induction vs with
   |nil=>simp_all|cons v vs c=>
    intro us a h;cases us with|nil=>simp at h|cons u us=>simp_all [QV,aaR]
  exact base _ us a h
 |it::b,v::vs,us,a,h=>by
  rw[nM,cr]at a;cases us with|nil=>simp[vP]at h|cons u us=>simp only[vP,fc,zR]at h;have:=aaS n b vs us a.2 h.2;grind [amk]
def aaT(n:U):∀(a:M It)(vs:M aP),Y (vP n a vs)=Y vs
 |[],vs=>by cases vs<;>rfl
 |it::a,[]=>rfl|it::a,v::vs=>by simp[vP,aaT n a vs]
def aaU{l:M E}{c:E}{cs:M E}(h:aV l=aV (c::cs))(e:c=.tt\/c=.ff):Ki l=(match c with|.tt=>W|_=>I)/\aV (l.drop 1)=aV cs:=by
 cases l with
 |nil=>simp[aV]at h|cons x l=>
  have h1:cE x=cE c/\aV l=aV cs:=by simpa[aV]using h
  refine⟨?_,h1.2⟩;have a:=h1.1;rcases e with rfl|rfl
  cases x with
  |b v=>simp only[cE,C.d.injEq,D.bool.injEq]at a;simp[Ki,a]|tt=>rfl|ff=>simp[cE]at a|l m t xs=>cases m<;>simp[cE,lC]at a
  |n m t o=>cases m<;>cases o<;>simp[cE,lC]at a
  |gW b=>cases b<;>simp[cE]at a
  |it m t xs f=>cases m<;>simp[cE,mC]at a
  |_=>simp[cE]at a
  cases x with
  |b v=>simp only[cE,C.d.injEq,D.bool.injEq]at a;simp[Ki,a]|ff=>rfl|tt=>simp[cE]at a|l m t xs=>cases m<;>simp[cE,lC]at a
  |n m t o=>cases m<;>cases o<;>simp[cE,lC]at a
  |gW b=>cases b<;>simp[cE]at a
  |it m t xs f=>cases m<;>simp[cE,mC]at a
  |_=>simp[cE]at a
theorem QW{d:eL}:∀(os:M (M (Q Sh)))(i:U)(B e:M (M E))(l:M E),lx d i B os e=J l->(∀m b c,B[m]?=J b->e[m]?=J c->whole (.box (.aC (i+m))) d=I->∀j x y,part (.box (.aC (i+m))) j d=I->b[j]?=J x->c[j]?=J y->lY y=W->y=x)->∀g rest,aV g=aV l->(i6 B (oA os (g++rest))).map aV=e.map aV
 |[],i,[],[],l,h,_,g,rest,k=>rfl|o::os,i,b::B,c::e,l,h,hk,g,rest,k=>by simp only[lx]at h;split at h;rename_i n p h1 h2 h3;cases h;simp only[cr,pP,dK,lL]at h1;obtain⟨f,a,rfl,q,r⟩:=Ew k;let⟨ws,v,w⟩:=Km o 0 c b n h2 h1.1 (λj x y C z s hy t=>hk 0 b c rfl rfl (aaQ h1.2 C) j x y (by simpa using z) s hy t) f (a++rest) q;have A:=QW os (i+1) B e p h3 (λm b c u D F j x y z s hy t=>hk (m+1) b c (by simpa using u) (by simpa using D) (by grind) j x y (by grind) s hy t) a rest r;simp only[oA,CJ,v,i6,fc];rw[w,A];cases h
 |o::os,i,[],c::e,l,h,hk,g,rest,k=>by simp only[lx]at h;split at h;rename_i n p h2 h3;cases h;obtain⟨f,a,rfl,q,r⟩:=Ew k;let⟨ws,v,w⟩:=QT o c n h2 f (a++rest) q;have A:=QW os (i+1) [] e p h3 (λm b c u=>by simp at u) a rest r;simp_all [oA,i6];cases h
 |[],i,b::B,e,l,h,_,_,_,_=>by cases e<;>simp[lx]at h
 |[],i,[],c::e,l,h,_,_,_,_=>by simp[lx]at h|o::os,i,B,[],l,h,_,_,_,_=>by cases B<;>simp[lx]at h
def aml{S:bT}{d:eL}{B l:M (M E)}{v:aP}{y:S.Y}(h:S.Kl d B v l=J y) (hk:∀m b c,B[m]?=J b->l[m]?=J c->whole (.box (.aC m)) d=I->∀j x z,part (.box (.aC m)) j d=I->b[j]?=J x->c[j]?=J z->lY z=W->z=x):aM v=aM (S.out y (S.flag y)).1/\l.map aV=(i6 B (S.out y (S.flag y)).2).map aV:=by
 unfold bT.Kl at h;split at h;rename_i e;have a:S.out y (S.flag y)=(pn ((IT.cB (S.res++S.mL) y).take S.res.length),oA S.jm (((IT.cB (S.res++S.mL) y).drop S.res.length).map pp)):=by unfold bT.out;rw[e]
 rw[a];split at h;rename_i vs cs h1 h2;split at h;rename_i h3;have f:vs.length=S.res.length:=by simpa using h3
 let⟨i,hd⟩:=QU h f;refine⟨?_,?_⟩;show aM v=aM (pn _);rw[yG,i,<-yG,QS h1 f];grind [Kn];cases h;cases h;rename_i e;split at h;split at h;rename_i vs cs h1 h2;split at h;rename_i h3;have f:vs.length=S.res.length:=by simpa using h3
 let⟨i,hd⟩:=QU h f;let⟨f1,f2⟩:=aaU hd (.inl rfl);have g:S.flag y=W:=by simp_all [bT.flag]
 have a:S.out y W=(pn ((IT.cB (S.res++S.mL) y).take S.res.length),oA S.jm ((((IT.cB (S.res++S.mL) y).drop S.res.length).map pp).drop 1)):=by unfold bT.out;rw[e]
 rw[g,a];refine⟨?_,?_⟩;show aM v=aM (pn _);rw[yG,i,<-yG,QS h1 f];grind [Kn];cases h;cases h;split at h;rename_i vs cs h1 h2;split at h;rename_i h3;simp only[cr,dK]at h3;let⟨f,k⟩:=h3;let⟨i,hd⟩:=QU h (by rw[aaT];exact f);let⟨f1,f2⟩:=aaU hd (.inr rfl);have g:S.flag y=I:=by simp_all [bT.flag]
 have a:S.out y I=(pn (((IT.cB (S.res++S.mL) y).take S.res.length).map (rK S.aI.length)),oA (S.jm.take S.aI.length) ((((IT.cB (S.res++S.mL) y).drop S.res.length).map pp).drop 1)):=by unfold bT.out;rw[e]
 rw[g,a];refine⟨?_,?_⟩;show aM v=aM (pn _);rw[yG,aaS S.aI.length S.res vs _ k i,<-yG,QS h1 f];let⟨n,o,p,q,r⟩:=Ew f2;grind [QW];cases h;cases h
theorem amm(v:aP)(j:U):o8 (aM v) j=aM (vh v j):=by
 have a:H (aM v).cells j .bN=cE (H v.cells j .bN):=by rw[Jp];exact AZ cE _ j .bN
 unfold o8 vh;rw[a];cases c:H v.cells j .bN with
 |l m t xs=>
  cases m with|ak=>simp only[cE,lC];rw[nr];rfl|_=>rfl
 |n m t o=>
  cases m with
  |ak=>
   cases o with|none=>grind [cE,nr,Yz]|some xs=>simp only[cE,lC];rw[nr];rfl
  |_=>cases o<;>rfl
 |it m t xs d=>
  cases m with|ak=>simp only[cE,mC];rw[nr];rfl|_=>rfl
 |gW b=>cases b<;>rfl
 |_=>rfl
def aaV:∀(l:M (U×U))(A:M aP),ld l (A.map aM)=(iZ l A).map aM|[],A=>rfl|(i,j)::r,A=>by simp only[ld,iZ];rw[<-aaV r,sQ,List.map_set];grind [aM,amm]
def It.Ko{i:It}(h:i.ok=W)(x:i.T):∀c∈(i.cB x).cells,df c=c:=by
 have o:∀{h:Sh}(x:h.T),h.plain=W->df (h.cB x)=h.cB x:=by
  intro h x d;cases h with
  |l m t=>cases m<;>first|rfl|cases d
  |n m t=>cases m<;>first|rfl|cases d
  |_=>rfl
 have b:∀(t:Ty)(x:t.T),∀c∈eX t x,df c=c:=by
  intro t;induction t with|bJ h t e f=>grind [eX]|cj u h t e f=>grind [eX]|set k j=>exact j|_=>intro x c a;simp only[eX,js]at a;subst a;rfl
 have g:∀(l:M Sh)(x:HT l),l.all Sh.plain=W->∀c∈HT.cB l x,df c=c:=by
  intro l;induction l with
  |nil=>intro x _ c a;cases a
  |cons h r j=>
   intro x d c a;rw[nM,cr]at d;cases r with|nil=>simp_all [HT.cB]|cons p r=>grind [HT.cB]
 cases i with|one h=>simp_all [It.cB,aP.cells,It.ok]|bG t=>exact b t x|cells l=>exact g l x h|_=>intro c a;simp only[It.cB,aP.cells,js]at a;subst a;rfl
def IT.Ko:∀(l:M It)(x:IT l),l.all It.ok=W->∀v∈IT.cB l x,∀c∈v.cells,df c=c
 |[],_,_=>λv hv=>by cases hv
 |i::r,x,h=>by
  rw[nM,cr]at h;intro v hv;simp only[IT.cB,iG]at hv;rcases hv with rfl|hv
  exact It.Ko h.1 _;exact IT.Ko r _ h.2 v hv
def aaW{k:aD}:∀{l r:M aD},k∈l->idx k (l++r)=idx k l|q::l,r,h=>by show(if k=q then 0 else idx k (l++r)+1)=if k=q then 0 else idx k l+1;by_cases e:k=q;rw[aF e,aF e];rw[aU e,aU e,aaW (by grind)]
def amn{i n:U}{r:M aD}(h:i<n):idx (.aC i) (jM n++r)=i:=by have a:aD.aC i∈jM n:=mq.2 ⟨i,List.mem_range.2 h,rfl⟩;rw[aaW a];exact ru (Yf n) (Ye h)
def amo{S:bT}(a:S.ok=W)(x:S.X):∀b∈S.fD x,∀c∈b,df c=c:=by intro b e c d;obtain⟨v,hv,rfl⟩:=mq.1 e;simp only[bT.ok,cr]at a;refine IT.Ko _ x (by grind) v (List.mem_of_mem_drop hv) c ?_;cases v<;>first|exact d|(simp[Kg]at d)
def amq(A:M aP)(B:M (M E))(m:U):(cx A (yD A B)).aG (.box (.aC m))={v:=match B[m]? with|some b=>.agg b|none=>.undef}:=by
 rw[kR];have:∀(B:M (M E))(i m:U),cF (.aC m) (vM i B)=if i<=m then B[m-i]? else O:=by
  intro B;induction B with
  |nil=>intro i m;simp[vM,cF]
  |cons b B a=>grind [vM,cF,gx]
 show({v:=match cF (.aC m) (vM 0 B)with|some cs=>.agg cs|none=>.undef}:dP)=_
 rw[this B 0 m];simp
def QX(fn:Func):Code:=match fn.body with|some c=>c|none=>.skip
def amr{P:er}{f:dS}{fn:Func}{c:Code}{F:iB}{tbl:U->Q gO}{S:bT}{sh:S.X->Q S.Y}(hf:P.funcs[f]?=J fn)(hb:fn.body=J c)(QD:P.follows .mixedOrders=W)(hC:ni P F.af.c) (hN:fn.ntmps=F.af.N)(V:S.ok=W)(hargs:S.args.length<=F.af.N)(hbk:∀x,mH (S.eO x) (jM S.aI.length) F.hX=W)(g:∀x y,sh x=J y->(QR F tbl c fn.results.toList S x).run=J y):iA P f (S.F sh):=by
 intro args aI r hF w vals β ω Z hsz G hpl h;unfold bT.F at hF;split at hF;rename_i x hx;split at hF;rename_i y hy;cases hF;obtain⟨rfl,rfl⟩:=bT.i7 S V hx;have g:=g x y hy;refine calls_of_wp hf hb ?_;have azf:((S.eO x).map aM).length=S.args.length:=by rw[jS,bT.Kj]
 have hlenB:((S.fD x).map aV).length=S.aI.length:=by rw[jS,bT.QO]
 have A:=ajH (N:=fn.ntmps) h hsz G hpl (by grind);have hek:=I3 h;have H:jl (cW P fn.ntmps w vals β ω Z) (S.eO x) (jM S.aI.length):=by refine⟨by show vals.size=_;grind,λk b hk=>?_⟩;obtain⟨i,hi,rfl⟩:=hek k b hk;rw[hlenB]at hi;exact mq.2 ⟨i,List.mem_range.2 hi,rfl⟩
 have n:=(Tr.AY _ (λz=>z=y)).2 ⟨y,g,rfl⟩;unfold QR at n;rw[yw]at n;have hall2:=Tr.sP n (Tr.vt (alX (F:=F) (tbl:=tbl) H c 0 (yD (S.eO x) (S.fD x))));have Bg:dI (cW P fn.ntmps w vals β ω Z) (dM (S.eO x) (yD (S.eO x) (S.fD x))) {tmps:=vals++Array.replicate (fn.ntmps-vals.size) undef,defers:=[]} w:=by rw[al2];exact⟨⟨β,ω,Z,A⟩,by show((S.eO x).map aM).length=vals.size;omega⟩
 refine wp_mono (alY (K:=cW P fn.ntmps w vals β ω Z) (tbl:=tbl) hC hN QD H (hbk x) c 0 _ _ _ w hall2 Bg) ?_;rintro e a w' ⟨⟨ex,R⟩,rfl,⟨T,hkeep⟩,hpr⟩;have hex:ex=.normal\/ex=.ret:=by
  cases ex with|exit i=>exact T.elim|normal=>exact .inl rfl|ret=>exact .inr rfl
 have p:(((yF F.af.c fn.results.toList (S.fD x).length).cU (cx (S.eO x) R)).bind λy=>
   match decide (y.2.1.cI=S.cI)with
   |true=>match S.Kl y.2.1.cH (S.fD x) y.1.1 y.1.2 with|some z=>Tr.dw z|none=>.ai
   |false=>.ai).all (λz=>z=y):=by
  rcases hex with rfl|rfl<;>exact T
 rw[yw]at p;have h1:=Tr.sP (Tr.sP (Tr.sP p (al8 F.af.c fn.results.toList (S.fD x).length (cx (S.eO x) R))) (Tr.vt (ama F.af.c fn.results.toList (S.fD x).length (cx (S.eO x) R)))) (Tr.vt (ZQ (yF F.af.c fn.results.toList (S.fD x).length) (cx (S.eO x) R) (qp _ R)));let⟨⟨⟨v,t⟩,s',fr,fw⟩,_,⟨⟨h2,h3⟩,h4⟩,h5⟩:=(Tr.AY _ _).1 h1;simp only at h2 h3 h4 h5;split at h2;rename_i hfz;have hfz:s'.cI=S.cI:=jJ hfz;split at h2;rename_i z hz;have e:z=y:=h2;subst e;let⟨ks,B⟩:=h4;let⟨_,C,l,hl,hk5⟩:=h5;let⟨⟨l0,hl0⟩,hk0⟩:=hkeep;have hkall:eM s'.cH (cx (S.eO x) (yD (S.eO x) (S.fD x))) s':=by refine eM.trans ?_ hk5;rw[hl];exact hk0.more
 have amv:=aml hz (λm b c hb hc hw j u v hp hu hv huv=>by
  have hm:m<S.aI.length:=by grind
  have d:∃o,(s'.aG (.box (.aC m))).v=.agg o/\o.all (lu (jM (S.fD x).length++ks))=W/\c=o.map (lW (jM (S.fD x).length++ks)):=by
   have gen:∀(kk ks:M aD)(t:M (M E))(i:U)(k:aD)(c:M E),Holds kk s' ks t->ks[i]?=J k->t[i]?=J c->∃o,(s'.aG (.box k)).v=.agg o/\o.all (lu kk)=W/\c=o.map (lW kk):=by
    intro kk ks;induction ks with
    |nil=>grind|cons q ks ih=>
     intro t i k c hh hk hc;cases t with
     |nil=>exact hh.elim|cons b t=>
      cases i with|zero=>simp only[List.getElem?_cons_zero,nP]at hk hc;subst hk hc;exact hh.1|succ i=>exact ih t i k c hh.2 (by simpa using hk) (by simpa using hc)
   refine gen _ _ t m _ c B ?_ hc;simp_all [List.getElem?_append_left,jM]
  obtain⟨orig,d,azg,rfl⟩:=d
  have D:=hkall.2 (.aC m) hw
  rw[amq,hb,d]at D
  rcases D with D|⟨cs,cs',g1,g2,g3,g4⟩
  cases D
  cases g1
  cases g2
  rw[iH]at hv
  cases hvo:orig[j]? with
  |none=>grind|some v0=>
   rw[hvo]at hv;simp only[m6,nP]at hv;let⟨u',q1,q2⟩:=g4 j hp v0 hvo;rw[hu]at q1;cases q1;have hn:=amo V x b (fG hb) u (fG hu);have lm:lY v0=W:=by
    cases v0 with|aX k off=>rfl|_=>rw[<-hv]at huv;exact huv
   have e:=Qf q2 lm;rw[hn]at e;subst e;rw[<-hv];cases v0 with
   |aX k off=>obtain⟨i,rfl,hi⟩:=amd V x b (fG hb) _ (fG hu) k off rfl;show E.aX (.aC (idx (.aC i) (jM (S.fD x).length++ks))) off=_;rw[amn (by grind)]
   |_=>rfl)
 let⟨hv,hbs⟩:=amv;let⟨β1,Il,Z1,hr⟩:=hpr.1;have s:(yc F.af.c fn.results.toList S.aI.length).aE (dM (S.eO x) R).st=J ((aM v,t.map aV),dG s'):=by
  let⟨fr,fw,h3,_,_⟩:=h3;have h3:(yc F.af.c fn.results.toList (S.fD x).length).cU (dG (cx (S.eO x) R))=J ((aM v,t.map aV),dG s',fr,fw):=h3;rw[Ef,XT,bT.QO]at h3;cases hx:(yc F.af.c fn.results.toList S.aI.length).aE (dM (S.eO x) R).st with
  |none=>rw[hx]at h3;cases h3
  |some q=>grind
 rw[hv,hbs]at s;have amx:∀k b,β k=J b->∃i,i<S.aI.length/\k=.aC i:=by grind
 let⟨u,β',ω',Z',g1,g2⟩:=ajD (r:={v:=aM (S.out z (S.flag z)).1,aI:=(i6 (S.fD x) (S.out z (S.flag z)).2).map aV,cI:=S.cI}) hC.Az hr hsz G h.args amx s (λi hi=>by show(cL (s'.aG (.bP i))).v=(ld S.cI ((S.eO x).map aM)).getD i .undef;rw[aaV,<-hfz];have:((iZ s'.cI (S.eO x)).map aM).getD i .undef=aM ((iZ s'.cI (S.eO x)).getD i .undef):=AZ aM _ i .undef;rw[this];show aM ((iZ s'.cI s'.args).getD i .undef)=_;rw[C];rfl);have hbp:bodyPost P fn (λe w'=>∃v β' ω' Z',e=.returned v/\aZ (cW P 1 w vals β ω Z) β' ω' Z' (eV ((S.eO x).map aM) {v:=aM (S.out z (S.flag z)).1,aI:=(i6 (S.fD x) (S.out z (S.flag z)).2).map aV,cI:=S.cI}) {tmps:=#[v],defers:=[]} w') .ret a w':=⟨hr.defers.1,u,g1,u,β',ω',Z',rfl,g2⟩;rcases hex with rfl|rfl
 exact hbp;exact hbp;exact h2.elim;exact h2.elim;cases hF;cases hF
def Bo(fn:Func):ay:=match fn.body with|some _=>W|none=>I
noncomputable def gives(F:iB)(tbl:U->Q gO)(fn:Func)(S:bT)(x:S.X):Q S.Y:=(QR F tbl (QX fn) (V fn.results) S x).run
def vQ{P:er}{f:dS}{fn:Func}{F:iB}{tbl:U->Q gO}{S:bT}{sh:S.X->Q S.Y}(i:P.funcs[f]?=J fn)(m:Bo fn=W)(b:P.follows .mixedOrders=W)(j:ni P F.af.c) (k:fn.ntmps=F.af.N)(e:S.ok=W)(a:Y S.args<=F.af.N)(g:∀x,mH (S.eO x) (jM (Y S.aI)) F.hX=W)(d:∀x,gives F tbl fn S x=sh x):iA P f (S.F sh):=by
 have l:fn.body=J (QX fn):=by grind [Bo,QX]
 exact amr i l b j k e a g λx y h=>aav (d x) h
def amy{P:er}{f:dS}{fn:Func}{S:bT}{sh:S.X->Q S.Y}(b:P.funcs[f]?=J fn)(a:(fn.name== "runtime.NumGoroutine")=I)(c:Bo fn=W)(h:iA P f (S.F sh)):lp P f (S.F sh):=by grind [Bo,qj]
def pq(f:dS):M (dS×cY)->Q cY
 |[]=>O|(g,K)::r=>match f==g with|true=>J K|false=>pq f r
def QY{f:dS}:∀{l:M (dS×cY)}{K:cY},pq f l=J K->(f,K)∈l|(g,a)::r,K,h=>by simp only[pq]at h;split at h;grind;exact jr _ (QY h)
def du(P:er)(x:dS×cY):Prop:=lp P x.1 x.2.F
def yH{P:er}{e:eR}{l:M (dS×cY)}(hT:ib P e.c)(b:e.fI=λ_ f=>pq f l)(h:∀x∈l,du P x):ni P e.c:=by
 refine⟨hT,λt f F a=>?_⟩;have a:(match e.fI t f with|some K=>J K.F|none=>O)=J F:=a
 rw[b]at a;simp only at a;split at a;rename_i K d;cases a;exact h _ (QY d);cases a
def Ey(t:U)(f:dS)(l:M (dS×cY)):M (U×dS×cY)->Q cY
 |[]=>pq f l|(u,g,K)::r=>match t==u&&f==g with|true=>J K|false=>Ey t f l r
def aaZ{t:U}{f:dS}{l:M (dS×cY)}:∀{s:M (U×dS×cY)}{K:cY},Ey t f l s=J K->(f,K)∈l\/(t,f,K)∈s
 |[],K,h=>.inl (QY h)|(u,g,a)::r,K,h=>by
  simp only[Ey]at h;split at h;grind;rcases aaZ h with h|h
  exact .inl h;grind
def amz{P:er}{e:eR}{l:M (dS×cY)}{s:M (U×dS×cY)}(hT:ib P e.c)(b:e.fI=λt f=>Ey t f l s)(h:∀x∈l,du P x)(g:∀x∈s,du P x.2):ni P e.c:=by
 refine⟨hT,λt f F a=>?_⟩;have a:(match e.fI t f with|some K=>J K.F|none=>O)=J F:=a
 rw[b]at a;simp only at a;split at a;rename_i K i;cases a;rcases aaZ i with d|d
 exact h _ d;exact g _ d;cases a
def vR{P:er}{f:dS}{fn:Func}{S:bT}{b:S.ok=W}{sh:S.X->Q S.Y}(c:P.funcs[f]?=J fn)(a:(fn.name== "runtime.NumGoroutine")=I)(d:Bo fn=W)(h:iA P f (S.F sh)):du P (f,S.fI b sh):=amy c a d h
def Kp(f:bv->Q Ty):M (U×bv)->Q Ty
 |[]=>O|(_,t)::r=>match r with
  |[]=>f t|x::r=>match f t,Kp f (x::r)with|some a,J b=>J (.bJ a b)|_,_=>O
def Ez(af:bO):U->bv->Q Ty
 |0,_=>O|n+1,t=>match af.ti t with
  |some {kind:=.bool, ..}=>J .bool|some {kind:=.int k, ..}=>J (.int k)|some {kind:=.bj, ..}=>J .bj|some {kind:=.slice e, ..}=>match af.ti e,Ez af n e with|some i,J r=>if i.size=r.e then J (.sl r)else O|_,_=>O
  |some {kind:=.struct fs, ..}=>Kp (Ez af n) fs|_=>O
def Wf:(t:Ty)->t.T->Prop
 |.int k,x=>k.min<=x/\x<=k.max|.bool,_=>dL|.bj,_=>dL|.sl r,o=>match o with|none=>dL|some xs=>∀x∈xs,Wf r x
 |.bJ h t,x=>Wf h x.1/\Wf t x.2|.cj _ h t,x=>Wf h x.1/\Wf t x.2|.set k,x=>Wf k x
def mM:(t:Ty)->t.T->U
 |.int _,_=>1|.bool,_=>1|.bj,s=>Y s+1|.sl r,o=>match o with|none=>1|some xs=>(xs.map (mM r)).sum+1
 |.bJ h t,x=>mM h x.1+mM t x.2|.cj _ h t,x=>mM h x.1+mM t x.2|.set k,x=>mM k x
def sW:∀(t:Ty)(x:t.T),iN (be t x)=mM t x
 |.int _,_=>rfl|.bool,_=>rfl|.bj,s=>by simp[be,iN,vg,mM]|.sl r,o=>by
  cases o with
  |none=>rfl|some xs=>
   simp only[be,iN,vg,mM,Nat.add_zero];congr 1;induction xs with|nil=>rfl|cons x xs a=>simp only[fc,pe,List.sum_cons,sW r x,a]
 |.bJ h t,x=>by simp only[be,I5,sW h x.1,sW t x.2,mM]|.cj _ h t,x=>by simp only[be,I5,sW h x.1,sW t x.2,mM]|.set k,x=>by simp only[be,sW k x,mM]
theorem aa0{c:bv->M D->Prop}{f:bv->Q Ty}(h:∀t ds ty,c t ds->f t=J ty->∃x:ty.T,ds=be ty x/\Wf ty x):∀(fs:M (U×bv))(ds:M D)(ty:Ty),I4 c fs ds->Kp f fs=J ty->∃x:ty.T,ds=be ty x/\Wf ty x
 |[],ds,ty,_,e=>by cases e
 |(o,t)::r,ds,ty,d,e=>by
  obtain⟨a,b,rfl,h1,h2⟩:=d;cases r with|nil=>have h2:b=[]:=h2;subst h2;rw[List.append_nil];exact h t a ty h1 e|cons y r=>simp only[Kp]at e;split at e;rename_i g i j k;cases e;obtain⟨x,rfl,l⟩:=h t a g h1 j;obtain⟨z,rfl,m⟩:=aa0 h (y::r) b i h2 k;exact⟨(x,z),rfl,l,m⟩;cases e
def EA{af:bO}:∀(n:U)(t:bv)(ds:M D)(ty:Ty),oc af n t ds->Ez af n t=J ty->∃x:ty.T,ds=be ty x/\Wf ty x:=by
 intro n;induction n with
 |zero=>intro t ds ty h;exact h.elim
 |succ n j=>
  intro t ds ty h e;simp only[oc]at h;simp only[Ez]at e;split at e;rename_i a;rw[a]at h;cases e;obtain⟨b,rfl⟩:=h;exact⟨b,rfl,trivial⟩;rename_i a;rw[a]at h;cases e;obtain⟨x,rfl,h2⟩:=h;exact⟨x,rfl,h2⟩;rename_i a;rw[a]at h;cases e;obtain⟨x,rfl,_⟩:=h;exact⟨x,rfl,trivial⟩;rename_i k _ a;rw[a]at h;simp only at h;split at e;rename_i i r l m;rw[l]at h;simp only at h;split at e;rename_i o;cases e;rcases h with rfl|⟨xs,rfl,c,g⟩
  exact⟨O,rfl,trivial⟩;have:∃ys:M r.T,xs=ys.map (be r)/\∀y∈ys,Wf r y:=by
    clear c;induction xs with|nil=>simp_all|cons x xs d=>let⟨y,p,u⟩:=j k x r (g x (List.mem_cons_self ..)) m;let⟨ys,q,v⟩:=d λz s=>g z (jr _ s);exact⟨y::ys,by rw[p,q];rfl,by grind⟩
  obtain⟨ys,rfl,f⟩:=this;exact⟨J ys,by rw[o];rfl,f⟩;cases e;cases e;grind [aa0];cases e
def QZ(af:bO)(n:U)(t:bv):Q It:=
 match af.ti t with
 |some i=>match i.kind.agg,Ez af n t with|true,J a=>J (.bG a)|false,J (.int k)=>J (.one (.i k))|false,J .bool=>J (.one .b)|false,J .bj=>J (.one .s)|false,J (.sl r)=>J (.one (.n .data r))|_,_=>O
 |none=>O
def Kq(af:bO)(n:U):M bv->Q (M It)
 |[]=>J []|t::r=>match QZ af n t,Kq af n r with|some i,J l=>J (i::l)|_,_=>O
def WfS:(h:Sh)->h.T->Prop|.i k,x=>k.min<=x/\x<=k.max|.b,_=>dL|.s,_=>dL|.l _ t,xs=>∀x∈xs,Wf t x|.n _ t,o=>Wf (.sl t) o|.p _ _,_=>dL|.dd,_=>dL|.u _,_=>dL|.r _,_=>dL
def amB:(h:Sh)->h.T->U|.i _,_=>1|.b,_=>1|.s,x=>Y x+1|.l _ t,xs=>(xs.map (mM t)).sum+1|.n _ t,o=>mM (.sl t) o|.p _ _,_=>0|.dd,_=>0|.u _,_=>0|.r _,_=>0
def WfI:(i:It)->i.T->Prop|.one h,x=>WfS h x|.bG t,x=>Wf t x|_,_=>dL
def aa2:(i:It)->i.T->U|.one h,x=>amB h x|.bG t,x=>mM t x|_,_=>0
def Kr:(l:M It)->IT l->Prop|[],_=>dL|i::r,x=>WfI i (IT.hd i r x)/\Kr r (IT.tl IT.gN i r x)
def Ks:(l:M It)->IT l->U|[],_=>0|i::r,x=>aa2 i (IT.hd i r x)+Ks r (IT.tl IT.gN i r x)
def amC{af:bO}{n:U}{t:bv}{ds:M D}{i:It}(h:oc af n t ds)(e:QZ af n t=J i):∃x:i.T,rA af t ds=aM (i.cB x)/\WfI i x/\aa2 i x=iN ds:=by unfold QZ at e;unfold rA;split at e;rename_i ti d;rw[d];simp only;split at e;rename_i f b a;cases e;obtain⟨x,rfl,c⟩:=EA n t ds f h a;rw[aF b];refine⟨x,?_,c,acC (sW f x)⟩;show _=SV.agg (aV (eX f x));rw[kQ];rename_i k b a;cases e;obtain⟨x,rfl,c⟩:=EA n t ds _ h a;rw[aU (by simp[b])];exact⟨x,rfl,c,rfl⟩;rename_i b a;cases e;obtain⟨x,rfl,c⟩:=EA n t ds _ h a;rw[aU (by simp[b])];exact⟨x,rfl,c,rfl⟩;rename_i b a;cases e;obtain⟨x,rfl,c⟩:=EA n t ds _ h a;rw[aU (by simp[b])];exact⟨x,rfl,c,acC (sW .bj x)⟩;rename_i r b a;cases e;obtain⟨x,rfl,c⟩:=EA n t ds _ h a;rw[aU (by simp[b])];refine⟨x,?_,c,acC (sW (.sl r) x)⟩;cases x<;>rfl;cases e;cases e
def aa3{af:bO}{n:U}:∀(ts:M bv)(a:M (M D))(l:M It),Y a=Y ts->Vs.aR (λt x=>oc af n t x) ts a->Kq af n ts=J l->∃x:IT l,kc af ts a=(IT.cB l x).map aM/\Kr l x/\Ks l x=pe a
 |[],[],l,_,_,e=>by cases e;exact⟨(),rfl,trivial,rfl⟩
 |t::ts,ds::a,l,c,b,e=>by simp only[Kq]at e;split at e;rename_i i r h1 h2;cases e;let⟨x,d,f,g⟩:=amC b.1 h1;let⟨y,j,k,m⟩:=aa3 ts a r (by simpa using c) b.2 h2;refine⟨IT.cons i r x y,?_,?_,?_⟩;simp only[kc,IT.cB,fc,IT.Er,IT.Es,d,j];simp only[Kr,IT.Er,IT.Es];exact⟨f,k⟩;simp only[Ks,IT.Er,IT.Es,pe,g,m];cases e
 |[],_::_,_,h,_,_=>by simp at h|_::_,[],_,h,_,_=>by simp at h
open Go.ChangeShapes in
def amD{H:Type}{enc:bv×aL->H}{P:er}{a:ck}{af:bO}{base:U}{args:bZ aL}{ds G:M (jT H)}{d:M MemPlace}{f:dS}{fn:Func}{sp:ChangeSpec}{n m:U}{ts:M bv}{tb:bv}{l:M It} {sh:IT (l++[])->Q ay}(w:bT.ok {args:=l,res:=[.one .b]}=W)(K:iA P f (bT.F {args:=l,res:=[.one .b]} sh))(hT:ib P af)(k:sp.vars=[])(c:fn.params.toList=ts)(z:fn.resultTypes=#[tb])(o:aa9 P tb=J .bool) (h:Kq af n ts=J l) (i:∀t∈ts,pd af n t=W)(p:laidOutB P=W)(q:∀t∈ts,P.readableRec t=W/\t<P.types.size)(B:rz H)(hm:B.all ds<=m) (r:∀x:IT l,Kr l x->Ks l x<=m->∃y:IT (l++[]),IT.cB (l++[]) y=IT.cB l x/\sh y=J W) (A:∀ds:M (jT H),Y ds=Y ts->sp.fn H (ds++[])={results:=[.lit (.bool W)],args:=ds}) (s:(∀g l,(g,l)∈uN P->g<a.heap.size/\qb a g l)/\∀g,g∈xG P->g<a.heap.size/\xH a g) (u:∀(j:U)t v,fn.params[j]?=J t->args[j]?=J v->Value.okWide P a .any base t v) (N:DataW.Whole enc P fn.params.toList sp.vars I a args.toList ds G d):Calls P f args a λe W'=>∃v,e=.returned v/\sp.post enc P fn I W I I a args v W':=by
 refine ajP K hT k c z o i p q B (λD h1 h2 h3=>?_) A s u N;let⟨x,R,S,X⟩:=aa3 ts D l h1 h2 h;let⟨y,hy,T⟩:=r x S (by omega);have hd:=bT.mK {args:=l,res:=[.one .b]} w y;have V:(bT.eO {args:=l,res:=[.one .b]} y)=IT.cB l x:=by show(IT.cB (l++[]) y).take (Y l)=_;grind [IT.Eu]
 have hB:(bT.fD {args:=l,res:=[.one .b]} y)=[]:=by show((IT.cB (l++[]) y).drop (Y l)).map Kg=_;simp_all [IT.Eu]
 rw[V,hB]at hd;rw[R];unfold bT.F;rw[show([]:M (M C))=([]:M (M E)).map aV from rfl,hd];simp only[T,hB];rfl
@[simp] theorem aB{ρ α:Type}(x:ρ)(k:ρ->Q α):aq (J x) k=k x:=rfl
@[simp] def azi{ρ α:Type}(k:ρ->Q α):aq O k=O:=rfl
@[simp] def azj{ρ σ α:Type}(x:ρ)(k:ρ->Q α)(k':σ->Q α):dh (.inl x) k k'=k x:=rfl
@[simp] def pr{ρ σ α:Type}(x:σ)(k:ρ->Q α)(k':σ->Q α):dh (.inr x) k k'=k' x:=rfl
def aa4{ρ:Type}(o:Q ρ):(aq o λx=>J x)=o:=by cases o<;>rfl
theorem bV{n:L}(a: -9223372036854775808<=n)(h1:n<=9223372036854775807):a7.wrap n=n:=by simp only[IntKind.wrap,IntKind.bits,Ht];simp;omega
def di{i:U}(h:i<9223372036854775807):a7.wrap ((i:L)+1)=((i+1:U):L):=by rw[bV (by omega) (by omega)];omega
def eY{n:L}(h: -9223372036854775808<=n/\n<=9223372036854775807):a7.wrap n=n:=bV h.1 h.2
@[simp] theorem ef{α:Type}(l:M α):ah l=(Y l:L):=by rw[ah]
def aa5{σ ρ:Type}{f:σ->Option (σ⊕ρ)}(I:σ->Prop)(m:σ->U)(Q:ρ->Prop) (step:∀x,I x->match f x with|some (.inl y)=>I y/\m y<m x|some (.inr r)=>Q r|none=>jc):∀(n:U)(x:σ),I x->m x<n->∃r,eC f n x=J r/\Q r|0,_,_,h=>cJ h (Nat.not_lt_zero _)|n+1,x,b,h=>by have a:=step x b;unfold eC;split<;>rename_i e;rename_i y;rw[e]at a;exact aa5 I m Q step n y a.1 (by omega);grind;grind
def gl{σ ρ:Type}{f:σ->Option (σ⊕ρ)}(I:σ->Prop)(m:σ->U)(Q:ρ->Prop) (step:∀x,I x->match f x with|some (.inl y)=>I y/\m y<m x|some (.inr r)=>Q r|none=>jc)(x:σ)(a:I x)(hm:m x<fuel):∃r,bR f x=J r/\Q r:=aa5 I m Q step fuel x a hm
def aa6{σ ρ:Type}{f:σ->Q (σ⊕ρ)}(mk:U->σ)(n:U)(P:U->Prop)(bad good:ρ) (yes:∀i,i<n->P i->f (mk i)=J (.inl (mk (i+1))))(no:∀i,i<n->¬P i->f (mk i)=J (.inr bad))(stop:f (mk n)=J (.inr good))(b:n<fuel):((∀i,i<n->P i)->bR f (mk 0)=J good)/\((¬ ∀i,i<n->P i)->bR f (mk 0)=J bad):=by
 have key:∀(k i:U),i+k=n->∀m,k<m->((∀j,i<=j->j<n->P j)->eC f m (mk i)=J good)/\((¬ ∀j,i<=j->j<n->P j)->eC f m (mk i)=J bad):=by
  intro k;induction k with
  |zero=>intro i c m d;obtain⟨m,rfl⟩:∃q,m=q+1:=⟨m-1,by omega⟩;grind [eC]
  |succ k g=>intro i c m d;obtain⟨m,rfl⟩:∃q,m=q+1:=⟨m-1,by omega⟩;by_cases l:P i;grind [eC];grind [eC]
 let⟨h1,h2⟩:=key n 0 (by omega) fuel b;exact⟨λh=>h1 λj _ a=>h j a,λh=>h2 λe=>h λj a=>e j (fZ _) a⟩
def nA{α β:Type}{xs:M α}{k:U}(h:k<Y xs){A B C:Q β}:(if decide ((k:L)<ah xs)=W then(if decide (0<=(k:L)/\(k:L)<ah xs)=W then A else B)else C)=A:=by simp_all
def dX{α β:Type}{xs:M α}{k:U}(h:k<Y xs){A C:Q β}:(if decide ((k:L)<ah xs)=W then A else C)=A:=by simp_all
theorem gm{α β:Type}{xs:M α}{A C:Q β}:(if decide ((Y xs:L)<ah xs)=W then A else C)=C:=by simp_all
theorem cS{α:Type}{xs:M α}{k:U}{d:α}(h:k<Y xs):H xs ((k:L)).toNat d=xs[k]:=by grind
def Ok{α:Type}(o:Option α)(Q:α->Prop):Prop:=∃x,o=J x/\Q x
namespace Ok
variable{α β:Type}{Q:α->Prop}
theorem ret{x:α}(h:Q x):Ok (J x) Q:=⟨x,rfl,h⟩
theorem mono{o:Option α}{R:α->Prop}(h:Ok o R)(hi:∀x,R x->Q x):Ok o Q:=by let⟨x,e,a⟩:=h;exact⟨x,e,hi x a⟩
theorem call{ρ:Type}{o:Option ρ}{k:ρ->Option α}{R:ρ->Prop}(h:Ok o R)(hk:∀x,R x->Ok (k x) Q):Ok (aq o k) Q:=by obtain⟨x,rfl,a⟩:=h;exact hk x a
def ite{c:Prop}[oT c]{a b:Option α}(d:c->Ok a Q)(e:¬c->Ok b Q):Ok (if c then a else b) Q:=by grind
def pos{c:Prop}[oT c]{a b:Option α}(h:c)(d:Ok a Q):Ok (if c then a else b) Q:=by rw[aF h];exact d
def neg{c:Prop}[oT c]{a b:Option α}(h:¬c)(d:Ok b Q):Ok (if c then a else b) Q:=by rw[aU h];exact d
def dJ{c:Prop}[oT c]{a b:Option α}(d:c->Ok a Q)(e:¬c->Ok b Q):Ok (if decide c=W then a else b) Q:=ite (λh=>d (jJ h)) (λh=>e (λf=>h (decide_eq_true f)))
def loop{σ ρ:Type}{f:σ->Option (σ⊕ρ)}{R:ρ->Prop}(I:σ->Prop)(m:σ->Nat){x:σ}(a:I x)(hm:m x<fuel) (step:∀x,I x->Ok (f x) (λy=>match y with|.inl y=>I y/\m y<m x|.inr r=>R r)):Ok (bR f x) R:=by refine gl I m R (λx b=>?_) x a hm;obtain⟨y,e,hy⟩:=step x b;grind
def app{a:Type}{o:Option (M a)}{A B:Option α}{k:Prop}(b:∀xs,o=J xs->Ok A Q)(c:o=O->Ok B Q)[oT k](hk:k↔o.isSome=W):Ok (if k then A else B) Q:=by
 cases o with|none=>grind|some xs=>grind
end Ok
def aa7{H:Type}(B:rz H):∀(a b:M (jT H)),B.all a<=B.all (a++b)|[],b=>by rw[B.nil];exact fZ _|x::a,b=>by rw[List.cons_append,B.cons,B.cons];exact Nat.add_le_add_left (aa7 B a b) _
end Go.Ve
namespace Go.Ve
open Go Go.ChangeShapes Go.WideShapes Go.RowKit Go.Vs
def aa8{P:er}{w:ck}:∀{l:M (String×jT bY)}{ps:M MemPlace}{n:String}{d:jT bY},DataW.LaidVars P w l ps->(n,d)∈l->∃g t cs fuel p,P.globalNamed n=J g/\(P.globals[g]?).map (·.type)=J t/\w.var? P n=J cs/\DataW.trod (λ_=>()) P w 0 (λ_=>W) I fuel t cs.toList=J (d,p)
 |[],_,_,_,_,h=>by cases h
 |(c,d0)::r,ps,n,d,h,a=>by
  obtain⟨g,t,cs,fuel,p,q,f,i,j,k,b,rfl⟩:=h;rcases iG.1 a with e|a
  grind;exact aa8 b a
def amE{P:er}{a:ck}{laid:M (String×jT bY)}{n:String}{k:IntKind}{b:M L}{g:U}{t e N:U}(h:laidMet P laid a)(hm:(n,DataW.agg (b.map λz=>.lit (.int k z)))∈laid) (c:P.globalNamed n=J g)(w:(P.globals[g]?).map (·.type)=J t)(d:aa9 P t=J (.array N e))(f:aa9 P e=J (.int k))(i:P.cellsOf e=1)(G:Y b=N)(x:P.cellsOf t=N):qb a g (b.map λz=>.int k z):=by
 let⟨ps,hv,_⟩:=h;let⟨H,K,cs,fuel,p,y,A,s,hd⟩:=aa8 hv hm;obtain rfl:=uq (aav c.symm y);obtain rfl:=uq (aav w.symm A);let⟨xs,m,_,B,C,R,j⟩:=DataW.trod_array d hd;intro r;rw[iH];cases D:b[r]? with
 |none=>
  have:N<=r:=by grind
  rw[ayp c s r,<-qO,List.getElem?_eq_none (by omega)];rfl
 |some z0=>
 have l:=D;rw[m6];have o:r<N:=by grind
 have u:=j r o;rw[i,Nat.mul_one,eD (by omega)]at u;let⟨z,f1,f2,_⟩:=DataW.trod_int f u;have q:(xs.map (·.1))=b.map λn=>.lit (.int k n):=acC (DataW.agg.inj (Prod.mk.inj B).1);have v:(xs.map (·.1))[r]?=(b.map λn=>(DataW.lit (.int k n):jT bY))[r]? :=by rw[q]
 rw[iH,iH,eD (by omega:r<xs.length),l,f2]at v;have E:z=z0:=by simpa using v
 subst E;rw[ayp c s r];have:(V cs)[r]?=J (.int k z):=by
  have F:(((V cs).drop r).take 1)[0]?=J (.int k z):=by rw[f1];rfl
  simpa using F
 simpa using this
end Go.Ve
namespace Go.Ve
open Go Go.Vs
def amF{a:ck}{g:U}{l:M aL}{v:aL}(h:qb a g l)(b:l[0]?=J v):g<a.heap.size:=by have c:=h.aG b;grind [World.cell?]
end Go.Ve
namespace Go.Vs
def abO:D->ay|.sl _ _|.rep _ _=>I|_=>W
def aoI:C->ay|.d x=>abO x|_=>I
def scalar(v:SV):ay:=v.cells.all aoI
def aoJ{w w':World}{Z Z':Nat->Prop}{d:D}{v:Value}(hd:abO d=W)(h:bA w Z d v):bA w' Z' d v:=by cases d<;>first|(cases hd;done)|exact h
section
variable{P:Program}{w:World}{vals:Array Value}{β:aD->Option Nat}{ω:Nat->Option cT}{Z:Nat->Prop}{args:List SV}
def ExC(w:World)(Z:Nat->Prop)(bks:List Nat)(c:C)(u:Value):Prop:=(∃d,c=.d d/\bA w Z d u)\/∃i b,c=.aX (.aC i) 0/\bks[i]?=J b/\u=.pointer (J ⟨b,0,O⟩)
def Cd{aI:List (List C)}(l:aZ (cW P 0 w vals β ω Z) β ω Z (dm args aI) {tmps:=#[],defers:=[]} w)(Y:args.all ln=W){w':World}{v:Value}{r:qX}{Z':Nat->Prop}{bks:List Nat}(hos:w'.os=w.os)(D:w'.tape=w.tape)(N:w'.output=w.output) (E:w.heap.size<=w'.heap.size)(A:∀b,b<w.heap.size->ω b=O->w'.heap[b]?=w.heap[b]?)(hZ:∀b,Z b->Z' b)(hZn:∀b,Z' b->Z b\/w.heap.size<=b)(hZl:∀b,Z' b->b<w'.heap.size)(hf:r.cI=[]) (hv:bQ (ExC w' Z' bks) v r.v)(hl:r.aI.length=bks.length)(hnd:bks.Nodup) (F:∀(i b:Nat)cs,bks[i]?=J b->r.aI[i]?=J cs->¬Z' b/\(b<w.heap.size->ω b≠O)/\∃(ws:Array Value)(el:bv)(lo hi:Nat),w'.heap[b]?=J (.cells ws el (lo,hi))/\(∀o,o<ws.size->¬(lo<=o/\o<hi))/\∃ds,cs=ds.map C.d/\aR (λu d=>bA w' Z' d u) ws.toList ds) (hin:∀i,i<aI.length->∃b,bks[i]?=J b/\β (.aC i)=J b):aZ (cW P 1 w vals β ω Z) (λk=>match k with|.aC i=>bks[i]? |_=>O) (λb=>if b∈bks then J (.box (.aC (bks.idxOf b)),O)else O) Z' (eV args r) {tmps:=#[v],defers:=[]} w':=by
 have hzf:∀b,Z b->w'.heap[b]?=w.heap[b]? :=λb G=>A b (l.dp b G) (by
  cases hω:ω b with|none=>rfl|some g=>exact cJ G (l.dV b g hω).1)
 have H:=I3 l;have hold:∀k b,β k=J b->(match k with|.aC i=>bks[i]? |_=>O)=J b:=by intro k b hk;obtain⟨i,hi,rfl⟩:=H k b hk;let⟨b',y,n⟩:=hin i hi;rw[hk]at n;cases n;exact y
 have s:∀i,(eV args r (.bP i)).v=args.getD i .undef:=by intro i;simp[eV,hf,ld]
 have Yi:∀(i b:Nat),bks[i]?=J b->∃cs,r.aI[i]?=J cs:=λi b h=>⟨_,List.getElem?_eq_getElem (by rw[hl];exact(List.getElem?_eq_some_iff.1 h).1)⟩;refine⟨rfl,⟨rfl,l.defers.2⟩,hos,D,N,E,?_,hZl,hZ,λb G=>(hZn b G).imp id .inl,?_,?_,?_,?_,?_,?_,hold⟩;simp_all [cW];intro t;cases t with
 |zero=>
  refine bQ.mono (λc u m B=>?_) hv;rcases B with⟨d,rfl,hd⟩|⟨i,b,rfl,z,rfl⟩
  exact hd;exact⟨b,z,rfl⟩
 |succ t=>trivial
 intro i;rw[s];refine bQ.nZ (λj c u m X B=>?_) (l.args i);have R:=I2 Y m;cases c with
 |d x=>exact bA.mono (λb G=>⟨hzf b G,hZ b G⟩) _ _ B|ak e xs=>
  by_cases K:cf e=W;obtain⟨b,rfl,h2⟩:=(aS.ku K).1 B;let⟨y,n⟩:=l.iL i j e xs _ b m X (lS ..);grind [aS.ku,eg.mono,cW];have K:cf e=I:=by simpa using K
  let⟨ad,cap,h1,h2,h3,h4⟩:=(aS.jg K).1 B;subst h1;let⟨y,n⟩:=l.iL i j e xs _ ad.block m X rfl;grind [aS.jg,dt.mono,cW]
 |aX k off=>let⟨b,y,n⟩:=B;exact⟨b,hold k b y,n⟩
 |dj f caps=>let⟨vs,y,n⟩:=B;exact⟨vs,y,n.kO λu p hp⟨b,q1,q2⟩=>⟨b,hold _ b q1,q2⟩⟩
 |_=>cases R
 intro k;cases k with
 |aC i=>
  show eh _ _ _ _ _ _ _ _ (match r.aI[i]? with|some cs=>.agg cs|none=>.undef)
  cases z:r.aI[i]? with|none=>show bks[i]?=O;rw[List.getElem?_eq_none_iff]at z ⊢;omega|some cs=>have hi:i<bks.length:=(by rw[<-hl];exact(List.getElem?_eq_some_iff.1 z).1);have S:=List.getElem?_eq_getElem hi;obtain⟨y,n,ws,el,lo,T,g3,g4,ds,rfl,g5⟩:=F i _ cs S z;refine⟨bks[i],ws,el,lo,T,S,?_,g3,g4,?_⟩;show(if bks[i]∈bks then _ else _)=_;rw[aF (List.getElem_mem hi),hnd.idxOf_getElem];refine aR.dU (by simpa using g5.length) λj a c ha m=>?_;rw[List.getElem?_map,Option.map_eq_some_iff]at m;obtain⟨d,hd,rfl⟩:=m;let⟨u,h1,h2⟩:=g5.aG hd;rw[ha]at h1;cases h1;exact h2
 |az t=>exact rfl|cn t i=>exact rfl
 intro q j e xs u1 b1 B m hh V;exfalso;cases q with
 |tmp t=>
  cases t with
  |zero=>let⟨u,_,X⟩:=hv.cell m;rcases X with⟨d,h,_⟩|⟨i,b,h,_⟩<;>cases h
  |succ t=>simp[eV,SV.cells]at m
 |bP i=>simp[aO.isArg]at B|box k=>
  cases k with
  |aC i=>
   have m:(match r.aI[i]? with|some cs=>SV.agg cs|none=>.undef).cells[j]?=J (.ak e xs):=m
   cases z:r.aI[i]? with|none=>rw[z]at m;simp[SV.cells]at m|some cs=>rw[z]at m;have hi:i<bks.length:=(by rw[<-hl];exact(List.getElem?_eq_some_iff.1 z).1);obtain⟨_,_,_,_,_,_,_,_,ds,rfl,_⟩:=F i _ cs (List.getElem?_eq_getElem hi) z;simp[SV.cells]at m
  |az t=>simp[eV,SV.cells]at m|cn t i=>simp[eV,SV.cells]at m
 intro i j e xs u1 b1 m hh V;rw[s]at m;exact l.iL i j e xs u1 b1 m hh V;intro b g h;split at h;rename_i K;let⟨i,hi⟩:=List.getElem?_of_mem K;let⟨cs,hcs⟩:=Yi i b hi;let⟨y,n,ws,el,lo,T,g3,_⟩:=F i b cs hi hcs;exact⟨y,by grind,n⟩;cases h
def Ce(f:aZ (cW P 0 w vals β ω Z) β ω Z (dm args []) {tmps:=#[],defers:=[]} w)(l:args.all ln=W){w':World}{v:Value}{r:qX}(m:w'.os=w.os)(g:w'.tape=w.tape)(j:w'.output=w.output) (a:w.heap.size<=w'.heap.size)(e:∀b,b<w.heap.size->ω b=O->w'.heap[b]?=w.heap[b]?){K₀:de}{β₀:aD->Option Nat}{Z₀:Nat->Prop}{s₀:St}{a₀:Act}{w₀:World} (hv:bQ (aS K₀ β₀ Z₀ s₀ a₀ w₀) v r.v)(n:scalar r.v=W)(p:r.aI=[])(q:r.cI=[]):aZ (cW P 1 w vals β ω Z) (λk=>match k with|.aC i=>([]:List Nat)[i]? |_=>O) (λb=>if b∈([]:List Nat)then J (.box (.aC (([]:List Nat).idxOf b)),O)else O) Z (eV args r) {tmps:=#[v],defers:=[]} w':=by
 refine Cd f l m g j a e (λ_ h=>h) (λ_ h=>.inl h) (λb s=>Nat.lt_of_lt_of_le (f.dp b s) a) q (bQ.mono (λc u t y=>?_) hv) (by rw[p];rfl) List.nodup_nil (λi b cs h=>by simp at h) (λi h=>cJ h (Nat.not_lt_zero i));have o:=List.all_eq_true.1 n c t;cases c with|d x=>exact .inl ⟨x,rfl,aoJ o y⟩|_=>cases o
end
section
variable{P:Program}{w0 w:World}{vals vals':Array Value}{β:aD->Option Nat}{ω:Nat->Option cT}{Z Z1:Nat->Prop}{args args':List SV}{aI:List (List C)}
def adr{K p:de}{s s':St}{a q:Act}(hk:∀b,b<w0.heap.size->w.heap[b]?=w0.heap[b]?)(m:∀b,Z b->b<w0.heap.size/\Z1 b){c:C}{u:Value} (n:∀e xs b,c=.ak e xs->eG u=J b->b<w0.heap.size)(h:aS K β Z s a w0 c u)(j:qh c=W\/c=.bN):aS p β Z1 s' q w c u:=by
 have g:∀b,Z b->w.heap[b]?=w0.heap[b]? /\Z1 b:=λb o=>⟨hk b (m b o).1,(m b o).2⟩;cases c with
 |d x=>exact bA.mono g _ _ h|ak e xs=>
  by_cases i:cf e=W;obtain⟨b,rfl,h2⟩:=(aS.ku i).1 h;exact(aS.ku i).2 ⟨b,rfl,eg.mono g _ _ _ (hk b (n e xs b rfl (lS ..))) h2⟩;have i:cf e=I:=by simpa using i
  obtain⟨l,cap,rfl,h2,h3,r⟩:=(aS.jg i).1 h;exact(aS.jg i).2 ⟨l,cap,rfl,h2,h3,dt.mono g _ _ _ _ (hk l.block (n e xs l.block rfl rfl)) r⟩
 |aX k off=>exact h|dj f caps=>exact h|bN=>trivial|_=>exact cJ j (by simp[qh])
def azw(a:aZ (cW P 0 w0 vals β ω Z) β ω Z (dm args aI) {tmps:=#[],defers:=[]} w0)(y:cZ w0.heap.size w0 w)(hZ:∀b,Z b->Z1 b)(H:∀b,Z1 b->Z b\/w0.heap.size<=b)(K:∀b,Z1 b->b<w.heap.size) (B:∀(i:Nat)cs,aI[i]?=J cs->∀c∈cs,qh c=W\/c=.bN)(N:∀(i:Nat)c,c∈(args'.getD i .undef).cells->∀e xs,c≠.ak e xs) (z:∀i,bQ (aS (cW P 0 w vals' β ω Z1) β Z1 (dm args' aI) {tmps:=#[],defers:=[]} w) (vals'.getD i undef) (args'.getD i .undef)):aZ (cW P 0 w vals' β ω Z1) β ω Z1 (dm args' aI) {tmps:=#[],defers:=[]} w:=by
 have hz:∀b,Z b->b<w0.heap.size/\Z1 b:=λb h=>⟨a.dp b h,hZ b h⟩;have f:∀b g,ω b=J g->b<w0.heap.size:=λb g h=>(a.dV b g h).2.1;let⟨R,S⟩:=a.defers.2;have d:∀g o,g<w0.heap.size->w.cell? ⟨g,o,O⟩=w0.cell? ⟨g,o,O⟩:=λg o C=>cell_of_heap (acw y g C) o O;refine⟨rfl,⟨rfl,λg l C=>?_,λg C=>?_⟩,rfl,rfl,rfl,Nat.le_refl _,λ_ _ _=>rfl,K,λ_ h=>h,λ_ h=>.inl h,λt=>?_,z,λk=>?_,?_,?_,?_,λ_ _ h=>h⟩;let⟨h1,h2,h3,T⟩:=R g l C;exact⟨Nat.lt_of_lt_of_le h1 y.size,hZ g h2,h3,λj=>aav (d g j h1) (T j)⟩;let⟨h1,h2,h3,m,T⟩:=S g C;exact⟨Nat.lt_of_lt_of_le h1 y.size,hZ g h2,h3,m,aav (d g 0 h1) T⟩;trivial;have hk:=a.aI k;cases k with
 |aC i=>
  show eh _ _ _ _ _ _ _ _ (match aI[i]? with|some cs=>.agg cs|none=>.undef)
  have hk:eh _ _ _ _ _ _ _ _ (match aI[i]? with|some cs=>SV.agg cs|none=>.undef):=hk
  cases q:aI[i]? with|none=>rw[q]at hk;exact hk|some cs=>rw[q]at hk;let⟨b,ws,el,lo,V,D,F,g3,g4,g5⟩:=hk;refine⟨b,ws,el,lo,V,D,F,aav (acw y b (f b _ F)) g3,g4,?_⟩;refine aR.dU g5.length λj u c G p=>?_;let⟨u',h1,h2⟩:=g5.aG p;rw[G]at h1;cases h1;refine adr (λb h=>acw y b h) hz (λe xs A X n=>?_) h2 (B i cs q c (List.mem_of_getElem? p));subst X;have x:cK (cW P 0 w0 vals β ω Z) β {tmps:=#[],defers:=[]} w0 (.box (.aC i)) j=J u:=(by show(β (.aC i)).bind (λb=>w0.cell? ⟨b,j,O⟩)=J u;rw[D];rw[Array.getElem?_toList]at G;simp[World.cell?,g3,G]);exact f A _ (a.ak (.box (.aC i)) j e xs u A rfl (by show(match aI[i]? with|some cs=>SV.agg cs|none=>.undef).cells[j]?=_;rw[q];exact p) x n).1
 |az t=>exact hk|cn t i=>exact hk
 intro r j e xs u A hr p x n;cases r with
 |tmp t=>simp[dm,SV.cells]at p|bP i=>simp[aO.isArg]at hr|box k=>
  have Y:(dm args aI (.box k)).v.cells[j]?=J (.ak e xs):=by cases k<;>exact p
  have OZ:cK (cW P 0 w0 vals β ω Z) β {tmps:=#[],defers:=[]} w0 (.box k) j=J u:=by
   have x:(β k).bind (λb=>w.cell? ⟨b,j,O⟩)=J u:=x;show(β k).bind (λb=>w0.cell? ⟨b,j,O⟩)=J u;cases s:β k with
   |none=>rw[s]at x;cases x
   |some b=>
    obtain⟨i,V,rfl⟩:=I3 a k b s;obtain⟨cs,hcs⟩:∃cs,aI[i]?=J cs:=⟨_,List.getElem?_eq_getElem V⟩;have E:eh _ _ _ _ _ _ _ _ (match aI[i]? with|some cs=>SV.agg cs|none=>.undef):=a.aI (.aC i)
    rw[hcs]at E;let⟨b',_,_,_,_,D,F,_⟩:=E;rw[s]at D;cases D;exact(d b j (f b _ F)).symm.trans (by rw[s]at x;exact x)
  let⟨q1,q2⟩:=a.ak (.box k) j e xs u A rfl Y OZ n;exact⟨q1,q2.mono n (acw y A (f A _ q1))⟩
 intro i j e xs u A p G n;have p:(args'.getD i .undef).cells[j]?=J (.ak e xs):=p;exact cJ rfl (N i _ (List.mem_of_getElem? p) e xs);intro b g h;let⟨h1,h2,h3⟩:=a.dV b g h;exact⟨λhz1=>(H b hz1).elim h1 (λh=>by omega),Nat.lt_of_lt_of_le h2 y.size,λ_=>by show ω b≠O;rw[h];simp⟩
def aso(n:aZ (cW P 0 w0 vals β ω Z) β ω Z (dm args aI) {tmps:=#[],defers:=[]} w0)(q:cZ w0.heap.size w0 w)(hZ:∀b,Z b->Z1 b)(s:∀b,Z1 b->b<w.heap.size) (v:∀(i:Nat)c,c∈(H args' i .undef).cells->∀e xs,c≠.ak e xs) (d:∀i,bQ (aS (cW P 0 w vals' (λ_=>O) (λ_=>O) Z1) (λ_=>O) Z1 (dm args' []) {tmps:=#[],defers:=[]} w) (vals'.getD i undef) (H args' i .undef)):aZ (cW P 0 w vals' (λ_=>O) (λ_=>O) Z1) (λ_=>O) (λ_=>O) Z1 (dm args' []) {tmps:=#[],defers:=[]} w:=by
 let⟨x,y⟩:=n.defers.2;have a:∀g o,g<w0.heap.size->w.cell? ⟨g,o,O⟩=w0.cell? ⟨g,o,O⟩:=λg o p=>cell_of_heap (acw q g p) o O;refine⟨rfl,⟨rfl,λg l p=>?_,λg p=>?_⟩,rfl,rfl,rfl,Nat.le_refl _,λ_ _ _=>rfl,s,λ_ h=>h,λ_ h=>.inl h,λt=>?_,d,λk=>?_,?_,?_,?_,λ_ _ h=>h⟩;let⟨h1,h2,h3,z⟩:=x g l p;exact⟨Nat.lt_of_lt_of_le h1 q.size,hZ g h2,λh=>h rfl,λj=>aav (a g j h1) (z j)⟩;let⟨h1,h2,h3,m,z⟩:=y g p;exact⟨Nat.lt_of_lt_of_le h1 q.size,hZ g h2,λh=>h rfl,m,aav (a g 0 h1) z⟩;trivial;cases k<;>exact rfl;intro r j e xs u B C f D A;cases r with|tmp t=>simp[dm,SV.cells]at f|bP i=>simp[aO.isArg]at C|box k=>cases k<;>simp[dm,SV.cells]at f
 intro i j e xs u B f E A;have f:(H args' i .undef).cells[j]?=J (.ak e xs):=f;exact cJ rfl (v i _ (List.mem_of_getElem? f) e xs);intro b g h;cases h
def asp{f:dS}{F:qY}{r:qX}(p:iA P f F)(q:F args' []=J r)(t:r.cI=[])(n:vals'.size=Y args')(o:args'.all ln=W) (g:aZ (cW P 0 w vals' (λ_=>O) (λ_=>O) Z1) (λ_=>O) (λ_=>O) Z1 (dm args' []) {tmps:=#[],defers:=[]} w):Calls P f vals' w λe w'=>cZ w.heap.size w w'/\∃v l K k s a,e=.returned v/\(∀b,Z1 b->l b)/\(∀b,l b->Z1 b\/w.heap.size<=b)/\(∀b,l b->b<w'.heap.size)/\bQ (aS K k l s a w') v r.v:=by
 refine(p args' [] r q w vals' _ _ Z1 n o rfl g).mono ?_;rintro e w' ⟨v,k,ω',Z',rfl,c⟩;refine⟨⟨c.os,c.tape,c.output,c.base,λb x=>c.frame b x (λh=>h rfl)⟩,v,Z',_,_,_,_,rfl,c.lV,λb y=>?_,c.dp,c.tmps 0⟩;rcases c.ng b y with h|h|h|⟨i,j,e,ys,u,h1,h2,h3,z⟩
 exact .inl h;exact .inr h;exact cJ rfl h;left;have h1:(H args' i .undef).cells[j]?=J (.d (.sl e ys)):=by simpa[eV,t,ld]using h1
 have A:H args' i .undef≠.undef:=λh=>by rw[h]at h1;simp[SV.cells]at h1
 let⟨u',m,B⟩:=((g.args i).ey A).aG h1;have h2:(ey (vals'.getD i undef))[j]?=J u:=h2;have m:(ey (vals'.getD i undef))[j]?=J u':=m;rw[h2]at m;cases m;exact bA.live B h3 z
open Go.Ve in
def MI{f:dS}{S:bT}{sh:S.X->Option S.Y}(t:iA P f (S.F sh))(k:S.ok=W)(l:S.aI=[])(m:S.cI=[]){x:S.X}{y:S.Y}(hy:sh x=J y) (g:aZ (cW P 0 w0 vals β ω Z) β ω Z (dm args aI) {tmps:=#[],defers:=[]} w0)(u:cZ w0.heap.size w0 w)(hZ:∀b,Z b->Z1 b)(n:∀b,Z1 b->b<w.heap.size) (o:vals'.size=Y ((S.eO x).map aM))(h:((S.eO x).map aM).all ln=W) (p:∀(i:Nat)c,c∈(H ((S.eO x).map aM) i .undef).cells->∀e xs,c≠.ak e xs) (d:∀i,bQ (aS (cW P 0 w vals' (λ_=>O) (λ_=>O) Z1) (λ_=>O) Z1 (dm ((S.eO x).map aM) []) {tmps:=#[],defers:=[]} w) (vals'.getD i undef) (H ((S.eO x).map aM) i .undef)):Calls P f vals' w λe w'=>cZ w.heap.size w w'/\∃v j K q s a,e=.returned v/\(∀b,Z1 b->j b)/\(∀b,j b->Z1 b\/w.heap.size<=b)/\(∀b,j b->b<w'.heap.size)/\bQ (aS K q j s a w') v (aM (S.out y (S.flag y)).1):=by
 have hB:(S.fD x).map aV=[]:=by have:=bT.QO (S:=S) x;rw[l]at this;rw[List.length_eq_zero_iff.1 this];rfl
 have hd:=bT.mK S k x;rw[hB]at hd;refine asp (F:=S.F sh) (r:={v:=aM (S.out y (S.flag y)).1,aI:=(i6 (S.fD x) (S.out y (S.flag y)).2).map aV,cI:=S.cI}) t ?_ m o h (aso g u hZ n p d);unfold bT.F;rw[hd];simp only[hy]
def ads{v:Value}{r:qX}{Z':Nat->Prop}(a:aZ (cW P 0 w0 vals β ω Z) β ω Z (dm args aI) {tmps:=#[],defers:=[]} w0)(X:args.all ln=W)(n:cZ w0.heap.size w0 w)(hZ:∀b,Z b->Z' b)(K:∀b,Z' b->Z b\/w0.heap.size<=b)(Y:∀b,Z' b->b<w.heap.size) (hf:r.cI=[])(hv:bQ (λc u=>∃d,c=.d d/\bA w Z' d u) v r.v)(N:r.aI=aI)(R:∀(i:Nat)cs,aI[i]?=J cs->∀c∈cs,qh c=W\/c=.bN):aZ (cW P 1 w0 vals β ω Z) β ω Z' (eV args r) {tmps:=#[v],defers:=[]} w:=by
 have C:∀b,Z b->b<w0.heap.size/\Z' b:=λb h=>⟨a.dp b h,hZ b h⟩;have m:∀b g,ω b=J g->b<w0.heap.size:=λb g h=>(a.dV b g h).2.1;have hzf:∀b,Z b->w.heap[b]?=w0.heap[b]? :=λb C=>acw n b (a.dp b C);have p:∀i,(eV args r (.bP i)).v=args.getD i .undef:=by intro i;simp[eV,hf,ld]
 have E:∀g o,g<w0.heap.size->w.cell? ⟨g,o,O⟩=w0.cell? ⟨g,o,O⟩:=λg o hg=>cell_of_heap (acw n g hg) o O;refine⟨rfl,⟨rfl,a.defers.2⟩,n.os,n.tape,n.output,n.size,λb hb' _=>acw n b hb',Y,hZ,λb C=>(K b C).imp id .inl,λt=>?_,λi=>?_,λk=>?_,?_,?_,?_,λ_ _ h=>h⟩;cases t with|zero=>exact bQ.mono (λc u l⟨d,hd,y⟩=>by subst hd;exact y) hv|succ t=>trivial
 rw[p];refine bQ.nZ (λj c u l G y=>?_) (a.args i);have S:=I2 X l;cases c with
 |d x=>exact bA.mono (λb C=>⟨hzf b C,hZ b C⟩) _ _ y|ak e xs=>
  by_cases V:cf e=W;obtain⟨b,rfl,h2⟩:=(aS.ku V).1 y;let⟨F,H⟩:=a.iL i j e xs _ b l G (lS ..);have hfr:=acw n;grind [aS.ku,eg.mono,cW];have V:cf e=I:=by simpa using V
  let⟨ad,cap,h1,h2,h3,h4⟩:=(aS.jg V).1 y;subst h1;let⟨F,H⟩:=a.iL i j e xs _ ad.block l G rfl;have hfr:=acw n;grind [aS.jg,dt.mono,cW]
 |aX k off=>exact y|dj f caps=>exact y|_=>cases S
 have hk:=a.aI k;cases k with
 |aC i=>
  show eh _ _ _ _ _ _ _ _ (match r.aI[i]? with|some cs=>.agg cs|none=>.undef)
  rw[N];have hk:eh _ _ _ _ _ _ _ _ (match aI[i]? with|some cs=>SV.agg cs|none=>.undef):=hk
  cases z:aI[i]? with|none=>rw[z]at hk;exact hk|some cs=>rw[z]at hk;let⟨b,ws,el,lo,hi,F,H,g3,g4,g5⟩:=hk;refine⟨b,ws,el,lo,hi,F,H,aav (acw n b (m b _ H)) g3,g4,?_⟩;refine aR.dU g5.length λj u c G l=>?_;let⟨u',h1,h2⟩:=g5.aG l;rw[G]at h1;cases h1;refine adr (λb h=>acw n b h) C (λe xs D hce A=>?_) h2 (R i cs z c (List.mem_of_getElem? l));subst hce;have s:cK (cW P 0 w0 vals β ω Z) β {tmps:=#[],defers:=[]} w0 (.box (.aC i)) j=J u:=(by show(β (.aC i)).bind (λb=>w0.cell? ⟨b,j,O⟩)=J u;rw[F];rw[Array.getElem?_toList]at G;simp[World.cell?,g3,G]);exact m D _ (a.ak (.box (.aC i)) j e xs u D rfl (by show(match aI[i]? with|some cs=>SV.agg cs|none=>.undef).cells[j]?=_;rw[z];exact l) s A).1
 |az t=>exact hk|cn t i=>exact hk
 intro q j e xs u D y l s A;cases q with
 |tmp t=>
  cases t with
  |zero=>let⟨u',_,d,h,_⟩:=hv.cell l;cases h
  |succ t=>simp[eV,SV.cells]at l
 |bP i=>simp[aO.isArg]at y|box k=>
  have hc':(dm args aI (.box k)).v.cells[j]?=J (.ak e xs):=by
   cases k with
   |aC i=>
    have l:(match r.aI[i]? with|some cs=>SV.agg cs|none=>.undef).cells[j]?=J (.ak e xs):=l
    rw[N]at l;exact l
   |az t=>simp[eV,SV.cells]at l|cn t i=>simp[eV,SV.cells]at l
  have OZ:cK (cW P 0 w0 vals β ω Z) β {tmps:=#[],defers:=[]} w0 (.box k) j=J u:=by
   have s:(β k).bind (λb=>w.cell? ⟨b,j,O⟩)=J u:=s;show(β k).bind (λb=>w0.cell? ⟨b,j,O⟩)=J u;cases B:β k with
   |none=>rw[B]at s;cases s
   |some b=>
    obtain⟨i,hi,rfl⟩:=I3 a k b B;obtain⟨cs,hcs⟩:∃cs,aI[i]?=J cs:=⟨_,List.getElem?_eq_getElem hi⟩;have T:eh _ _ _ _ _ _ _ _ (match aI[i]? with|some cs=>SV.agg cs|none=>.undef):=a.aI (.aC i)
    rw[hcs]at T;let⟨b',_,_,_,_,F,H,_⟩:=T;rw[B]at F;cases F;exact(E b j (m b _ H)).symm.trans (by rw[B]at s;exact s)
  let⟨q1,q2⟩:=a.ak (.box k) j e xs u D rfl hc' OZ A;exact⟨q1,q2.mono A (acw n D (m D _ q1))⟩
 intro i j e xs u1 D l s sD;rw[p]at l;exact a.iL i j e xs u1 D l s sD;intro b g h;let⟨h1,h2,h3⟩:=a.dV b g h;exact⟨λhz1=>(K b hz1).elim h1 (λh=>by omega),Nat.lt_of_lt_of_le h2 n.size,λ_=>by show ω b≠O;rw[h];simp⟩
end
end Go.Vs
