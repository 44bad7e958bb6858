/- The statement ExportPreviewsUptoCardSaid of the given program is proved here: for every input whose bulk is at most the bound of its row, the law returns true and changes nothing. Part 3 of 7. -/
import Derived.SevenTiedAt
import Derived.Stop.Joined
import Derived.Below
import Derived.Test.YtgbmhohlapmgbaaGreatDoorV2
set_option linter.unusedVariables false
set_option linter.unusedSimpArgs false
set_option linter.unusedSectionVars false
set_option linter.constructorNameAsVariable false
set_option linter.defProp false
open Array renaming getElem?_toList->oc
open Bool renaming and_eq_true->bG,and_true->pv,false->I,not_eq_true'->kj,or_eq_false_iff->py,or_eq_true->pw,true->W
open Go renaming DataW->iN,FuncId->cY,Oper->ch,Program->dr,ResultVar->md,TypeId->aW,Value->az,World->bD,wp_cond_split->aeQ
open Go.IntKind renaming i64->aO,signed->Fc
open Go.RowKit renaming Below->cn
open Go.World renaming var?_cell->awl
open Iff renaming rfl->rW
open List renaming all_cons->l8,all_eq_true->fO,any_append->LU,getElem?_cons_succ->pr,getElem?_eq_getElem->du,getElem?_map->gj,length_map->jf,map->gV,map_append->px,map_cons->dO,map_map->rY,mem_append->l5,mem_cons->iA,mem_cons_of_mem->gU,mem_map->kH,mem_of_getElem?->eA,mem_singleton->ng,take_append_drop->l7
open List.cons renaming injEq->xQ
open Nat renaming ble->fi,le_of_ble_eq_true->xX,zero_add->uP,zero_le->fm
open Option renaming isSome->AA,map_eq_some_iff->oh,map_some->lu,none->O,some->J
open Option.some renaming inj->qG,injEq->kI
open Prod.mk renaming injEq->fj
open Sum renaming inr->kJ
open _root_ renaming Array->bv,Bool->ao,False->gT,Int->M,List->L,Nat->U,Option->Q,True->cZ,UInt8->ai,Unit->bu,absurd->bX,beq_iff_eq->cT,congrArg->bz,decide_eq_true_eq->eh,if_neg->aK,if_pos->ax,if_true->bf,of_decide_eq_true->iB
namespace Go.Ve
open Go.Vs
def de(c c':C):Prop:=c'=c∨c'=.dead
def lH:SV→SV→Prop|_,.undef=>cZ|.one c,.one d=>de c d|.agg cs,.agg a=>aG de cs a|.aX vs,.aX b=>aG (λp q=>p.1=q.1∧aG de p.2 q.2) vs b|_,_=>gT
theorem de.mL:∀(cs:List C),aG de cs cs|[]=>trivial|_::cs=>⟨.inl rfl,de.mL cs⟩
theorem aG.comp{α β d:Type}{R:α→β→Prop}{S:β→d→Prop}{U:α→d→Prop}(h:∀a b c,R a b→S b c→U a c):∀{as:List α}{e:List β}{cs:List d},aG R as e→aG S e cs→aG U as cs|[],[],[],_,_=>trivial|_::_,_::_,_::_,h1,h2=>⟨h _ _ _ h1.1 h2.1,aG.comp h h1.2 h2.2⟩|[],[],_::_,_,h2=>h2.elim|_::_,[],_,h1,_=>h1.elim|[],_::_,_,h1,_=>h1.elim|_::_,_::_,[],_,h2=>h2.elim
def bj.weak{R j:C→az→Prop}{u:az}{v v':SV}(g:∀c c' x,R c x→de c c'→j c' x)(h:bj R u v)(d:lH v v'):bj j u v':=by
 cases v' with
 |undef=>trivial|one c'=>cases v<;>first|exact⟨h.1,g _ _ _ h.2 d⟩|exact d.elim
 |agg f=>
  cases v with
  |agg cs=>let⟨ws,h1,h2⟩:=h;exact⟨ws,h1,aG.comp (λa b c h1 h2=>g b c a h1 h2) h2 d⟩
  |_=>exact d.elim
 |aX k=>
  cases v with
  |aX vs=>
   let⟨ws,h1,h2⟩:=h;refine⟨ws,h1,aG.comp ?_ h2 d⟩;rintro x ⟨b,cs⟩ ⟨o,f⟩ i ⟨e,hy⟩;simp only at e hy;subst e;unfold dx at i ⊢;cases b with
   |true=>grind [aG.comp]|false=>
    simp only[Bool.false_eq_true,if_false]at i ⊢;let⟨c,l,m,n⟩:=i;subst l;cases f with
    |nil=>exact hy.elim|cons c' r=>
     cases r with|nil=>exact⟨c',rfl,m,g _ _ _ n hy.1⟩|cons=>exact hy.2.elim
  |_=>exact d.elim
theorem lH.cell:∀{v f:SV},lH v f→∀(j:Nat)(c':C),f.cells[j]?=J c'→∃c,v.cells[j]?=J c∧de c c':=by
 have flat:∀{cs cs':List C},aG de cs cs'→∀(j:Nat)(c':C),cs'[j]?=J c'→∃c,cs[j]?=J c∧de c c':=λh j c' b=>h.get b;have app:∀{cs cs' ds e:List C},aG de cs cs'→aG de ds e→aG de (cs++ds) (cs'++e):=λh1 h2=>aG.append h1 h2;intro v f h j c' b;cases f with
 |undef=>simp[SV.cells]at b|one d=>cases v<;>first|exact flat (cs:=[_]) (cs':=[_]) ⟨h,trivial⟩ j c' b|exact h.elim
 |agg cs'=>cases v<;>first|exact flat h j c' b|exact h.elim
 |aX a=>
  cases v with
  |aX vs=>
   replace b:(a.flatMap (λp:ao×List C=>p.2))[j]?=J c':=b;show ∃c,(vs.flatMap (λp:ao×List C=>p.2))[j]?=J c∧_;refine flat ?_ j c' b;clear b;have:∀{vs a:List (ao×List C)},aG (λp q=>p.1=q.1∧aG de p.2 q.2) vs a→aG de (vs.flatMap (·.2)) (a.flatMap (·.2)):=by
    intro vs;induction vs with
    |nil=>intro a h;cases a<;>first|trivial|exact h.elim
    |cons p vs g=>
     intro a h;cases a with|nil=>exact h.elim|cons q a=>simp only[List.flatMap_cons];exact app h.1.2 (g h.2)
   exact this h
  |_=>exact h.elim
section
variable{K:Ctx}{β:Key→Option Nat}{ω:Nat→Option cj}{Z:Nat→Prop}{s s':St}{a:Act}{w:World}
def Rel.weak(h:Rel K β ω Z s a w)(H:∀r,(s' r).hv=(s r).hv∧(s' r).cv=(s r).cv)(ht:∀t,lH (s (.tmp t)).v (s' (.tmp t)).v) (N:∀k,lH (s (.box k)).v (s' (.box k)).v∧((s' (.box k)).v=.undef→(s (.box k)).v=.undef))(ha:∀i,(s' (.arg i)).v=(s (.arg i)).v):Rel K β ω Z s' a w:=by
 have f:∀r,lH (s r).v (s' r).v:=by
  intro r;cases r with
  |tmp t=>exact ht t|box k=>exact(N k).1|arg i=>
   rw[ha];cases hv:(s (.arg i)).v with
   |one c=>exact .inl rfl|agg cs=>exact de.mL cs|aX vs=>
    show aG _ vs vs;clear hv;induction vs with|nil=>trivial|cons p vs ih=>exact⟨⟨rfl,de.mL _⟩,ih⟩
   |undef=>trivial
 have Mh:∀r j,(s' r).at j≠.dead→(s' r).at j=(s r).at j:=by
  intro r j hd;cases q:(s' r).v.cells[j]? with
  |none=>grind [RV.at]|some c=>
   let⟨c0,h0,h1⟩:=(f r).cell j c q;have e0:=sw h0;have P:=sw q;rw[P]at hd ⊢;rw[e0];rcases h1 with h1|h1
   exact h1;exact bX h1 hd
 have R:∀(c:C)(u:az),aH K β Z s a w c u→aH K β Z s' a w c u:=by
  intro c u x;cases c with
  |aS r j hv cv e k xs=>by_cases G:isMap e=W;grind [aH.pN];have G:isMap e=I:=(by simpa using G);let⟨S,E,A,B,F,T,V,g6⟩:=(aH.nA G).1 x;refine(aH.nA G).2 ⟨S,E,A,B,F,by rw[(H r).1];exact T,by rw[(H r).2];exact V,λP e2=>?_⟩;grind
  |ea r j hv e i off=>let⟨b,o,A,B,F⟩:=x;refine⟨b,o,A,by rw[(H r).1];exact B,λP e2=>?_⟩;grind
  |_=>exact x
 have y:∀(c X:C)(u:az),aH K β Z s a w c u→de c X→aH K β Z s' a w X u:=by
  intro c X u h1 h2;rcases h2 with rfl|rfl
  exact R _ u h1;trivial
 have l:∀(r:aD)(j e:Nat)(xs:List (List D)),(s' r).v.cells[j]?=J (.own e xs)→(s r).v.cells[j]?=J (.own e xs):=by
  intro r j e xs q;let⟨c,h1,h2⟩:=(f r).cell j _ q;rcases h2 with h2|h2
  rw[h1,←h2];cases h2
 refine⟨h.size,h.defers,h.os,h.tape,h.output,h.base,h.frame,h.cD,h.ky,?_,λt=>bj.weak y (h.tmps t) (ht t),λi=>bj.weak y (h.args i) (f (.arg i)),?_,?_,?_,h.c9,h.mx⟩;intro b Y;rcases h.lA b Y with g|g|g|⟨i,j,e,ys,u0,A,B,F⟩
 exact .inl g;exact .inr (.inl g);grind;grind;intro k;have d:=h.boxes k;cases hv:(s (.box k)).v with
 |agg cs=>
  have m:=(N k).1;rw[hv]at m;cases n:(s' (.box k)).v with
  |agg cs'=>rw[n]at m;let⟨b,ws,el,lo,hi,A,B,F,T,V⟩:=di.cell h hv;exact⟨b,ws,el,lo,hi,A,B,F,T,aG.comp (λa b c h1 h2=>y b c a h1 h2) V m⟩
  |undef=>grind|one c=>rw[n]at m;exact m.elim|aX vs=>rw[n]at m;exact m.elim
 |undef=>
  have m:=(N k).1;rw[hv]at m d;cases n:(s' (.box k)).v with|undef=>exact d|_=>rw[n]at m;exact m.elim
 |one c=>rw[hv]at d;exact d.elim|aX vs=>rw[hv]at d;exact d.elim
 intro r j e xs u1 b1 hr q hh z;exact h.own r j e xs u1 b1 hr (l r j e xs q) hh z;intro i j e xs u1 b1 q hh z;exact h.gw i j e xs u1 b1 (l (.arg i) j e xs q) hh z
end
structure be where
 slots:List (Nat×aE)
 boxes:List (Key×List E)
 bR:List (Nat×Nat)
 bQ:List (aD×Option (List Bool))
def bZ(t:Nat):List (Nat×aE)→aE
 |[]=>.undef|(u,v)::r=>match t==u with|true=>v|false=>bZ t r
def bP(k:Key):List (Key×List E)→Option (List E)
 |[]=>O|(q,v)::r=>match eX k q with|true=>J v|false=>bP k r
def stM(p:be):List (aD×cX):=p.slots.map (λx=>(.tmp x.1,{v:=x.2}))++p.boxes.map λx=>(.box x.1,{v:=.agg x.2})
def bI(A:List aE)(p:be):aU:={m:=stM p,args:=A,bR:=p.bR,bQ:=p.bQ}
def cU(A:List aE)(p:be):PS:={slots:=p.slots.map λx=>(x.1,aA x.2),boxes:=p.boxes.map λx=>(x.1,aJ x.2),args:=(gL p.bR A).map aA}
def XW(r:aD):∀(l m:List (aD×cX)),(∀x∈l,fU r x.1=I)→eR r (l++m)=eR r m|[],m,_=>rfl|(q,x)::l,m,h=>by simp only[List.cons_append,eR];rw[h (q,x) (List.mem_cons_self ..)];exact XW r l m λy hy=>h y (List.mem_cons_of_mem _ hy)
theorem mM(A:List aE)(p:be)(t:Nat):(bI A p).get (.tmp t)={v:=bZ t p.slots}:=by
 show eR (.tmp t) (p.slots.map (λx=>(.tmp x.1,{v:=x.2}))++p.boxes.map λx=>(.box x.1,{v:=.agg x.2}))=_;induction p.slots with
 |nil=>
  induction p.boxes with|nil=>rfl|cons b r a=>exact a
 |cons x r a=>grind [eR,fU,bZ]
theorem jx(A:List aE)(p:be)(k:Key):(bI A p).get (.box k)={v:=match bP k p.boxes with|some cs=>.agg cs|none=>.undef}:=by
 show eR (.box k) (p.slots.map (λx=>(.tmp x.1,{v:=x.2}))++p.boxes.map λx=>(.box x.1,{v:=.agg x.2}))=_;rw[XW _ _ _ (by intro x a;obtain⟨y,_,rfl⟩:=List.mem_map.1 a;rfl)];induction p.boxes with|nil=>rfl|cons x r b=>grind [eR,fU,bP]
theorem HE(A:List aE)(p:be)(t:Nat):((cU A p).st (.tmp t)).v=aA (bZ t p.slots):=by
 show(lk t (p.slots.map λx=>(x.1,aA x.2))).getD .undef=_;induction p.slots with|nil=>rfl|cons x r a=>grind [lk,bZ]
def HI(A:List aE)(p:be)(k:Key):((cU A p).st (.box k)).v=match bP k p.boxes with|some cs=>.agg (aJ cs)|none=>.undef:=by
 show(match mq k (p.boxes.map λx=>(x.1,aJ x.2))with|some cs=>SV.agg cs|none=>.undef)=_
 induction p.boxes with|nil=>rfl|cons x r a=>grind [mq,bP,jV]
theorem HJ(A:List aE)(p:be)(i:Nat):((cU A p).st (.arg i)).v=aA ((gL p.bR A).getD i .undef):=getD_map aA _ i .undef
def Cb(A:List aE)(p:be):cQ (bI A p)=(cU A p).st:=by
 have ext:∀(x y:RV),x.hv=y.hv→x.cv=y.cv→x.v=y.v→x=y:=by intro x y h1 h2 h3;cases x;simp_all
 funext r;cases r with
 |tmp t=>refine ext _ _ ?_ ?_ ?_<;>simp only[cQ,mM,bV];rfl;rfl;exact(HE A p t).symm|box k=>refine ext _ _ ?_ ?_ ?_<;>simp only[cQ,jx,bV];rfl;rfl;rw[HI];cases bP k p.boxes<;>rfl
 |arg i=>refine ext _ _ rfl rfl ?_;exact(HJ A p i).symm
def Oj:∀(l:List (Nat×Nat))(A:List aE),(gL l A).length=A.length|[],A=>rfl|(i,j)::r,A=>by simp only[gL];rw[Oj r];rw[rh];simp
theorem XX(A:List aE)(p:be):(cU A p).args.length=A.length:=by simp[cU,Oj]
def iG(s:aU)(bk:List Key):E→E
 |.l (.aS r j hv cv k) t xs=>match(s.get r).hv==hv&&(s.get r).cv==cv with|true=>.l (.aS r j 0 0 k) t xs|false=>.dead
 |.n (.aS r j hv cv k) t o=>match(s.get r).hv==hv&&(s.get r).cv==cv with|true=>.n (.aS r j 0 0 k) t o|false=>.dead
 |.ea _ _ _ _ _ _=>.dead|.gone _=>.dead|.ptr k off=>match bk.any (eX k)with|true=>.ptr k off|false=>.dead
 |.cy f caps=>match caps.all (λp=>bk.any (eX p.1))with|true=>.cy f caps|false=>.dead
 |.it m t xs a=>match m with|.aS .. =>.dead|m=>.it m t xs a
 |c=>c
def tu(s:aU)(bk:List Key):aE→aE|.one c=>.one (iG s bk c)|.agg cs=>.agg (cs.map (iG s bk))|.aX vs=>.aX (vs.map λp=>(p.1,p.2.map (iG s bk)))|.undef=>.undef
def wd(s:aU)(bk:List Key):List Nat→List (Nat×aE)
 |[]=>[]|t::ts=>match(s.get (.tmp t)).v with|.undef=>wd s bk ts|v=>(t,tu s bk v)::wd s bk ts
def wh(s:aU)(bk:List Key):List Key→List (Key×List E)
 |[]=>[]|k::ks=>match(s.get (.box k)).v with|.agg cs=>(k,cs.map (iG s bk))::wh s bk ks|_=>wh s bk ks
def eS(s:aU)(keys:List Nat)(bk:List Key):be:={slots:=wd s bk keys,boxes:=wh s bk bk,bR:=s.bR,bQ:=s.bQ}
theorem yZ(k:Key)(bk:List Key):bk.any (eX k)=bk.contains k:=by grind [jV]
def XY(s:aU)(bk:List Key)(c:E):de (iR (cQ s) bk (cE c)) (cE (iG s bk c)):=by
 have aS:∀(r:aD)(j hv cv k:Nat)(t:Ty)(xs:List t.T),de (iR (cQ s) bk (C.aS r j hv cv t.e k (xs.map (aP t)))) (cE (match(s.get r).hv==hv&&(s.get r).cv==cv with
  |true=>E.l (.aS r j 0 0 k) t xs|false=>.dead)):=by
  intro r j hv cv k t xs
  cases h:(s.get r).hv==hv&&(s.get r).cv==cv with|false=>exact .inr rfl|true=>simp only[bG,cT]at h;left;simp only[iR];rw[ax (show(cQ s r).hv=hv∧(cQ s r).cv=cv from h)];rfl
 cases c with
 |l m t xs=>
  cases m with|aS r j hv cv k=>exact aS r j hv cv k t xs|_=>exact .inl rfl
 |n m t o=>
  cases m with
  |aS r j hv cv k=>
   cases o with
   |none=>
    simp only[iG];cases(s.get r).hv==hv&&(s.get r).cv==cv with|true=>exact .inl rfl|false=>exact .inr rfl
   |some xs=>
    have:=aS r j hv cv k t xs;simp only[iG];revert this;cases(s.get r).hv==hv&&(s.get r).cv==cv with|true=>exact λh=>h|false=>exact λh=>h
  |_=>cases o<;>exact .inl rfl
 |ptr k off=>
  simp only[iG,yZ,cE,iR];cases h:bk.contains k with|true=>left;simp only[bf]|false=>exact .inr rfl
 |cy f caps=>
  have e:(caps.all λp=>bk.any (eX p.1))=caps.all λp=>bk.contains p.1:=by grind [yZ]
  simp only[iG,e,cE,iR];cases h:caps.all λp=>bk.contains p.1 with|true=>left;simp only[bf]|false=>exact .inr rfl
 |ea=>exact .inr rfl|gone b=>exact .inr rfl|it m t xs a=>cases m<;>first|exact .inl rfl|exact .inr rfl
 |_=>exact .inl rfl
def HK(s:aU)(bk:List Key):∀(cs:List E),aG de (ie (cQ s) bk (aJ cs)) (aJ (cs.map (iG s bk)))|[]=>trivial|c::cs=>⟨XY s bk c,HK s bk cs⟩
def ai7(s:aU)(bk:List Key)(v:aE):lH (gJ (cQ s) bk (aA v)) (aA (tu s bk v)):=by
 cases v with
 |one c=>exact XY s bk c|agg cs=>exact HK s bk cs|aX vs=>
  show aG _ (sq (cQ s) bk (dX vs)) (dX (vs.map λp=>(p.1,p.2.map (iG s bk))));induction vs with|nil=>trivial|cons p vs a=>exact⟨⟨rfl,HK s bk p.2⟩,a⟩
 |undef=>trivial
def Cc(s:aU)(bk:List Key)(t:Nat):∀(ks:List Nat),bZ t (wd s bk ks)=if t∈ks then tu s bk (s.get (.tmp t)).v else .undef|[]=>rfl|u::ks=>by have a:=Cc s bk t ks;grind [wd,bZ,tu]
theorem tw(s:aU)(bk:List Key)(k:Key):∀(ks:List Key),bP k (wh s bk ks)=if k∈ks then(match(s.get (.box k)).v with|.agg cs=>J (cs.map (iG s bk))|_=>O)else O|[]=>rfl|u::ks=>by have a:=tw s bk k ks;grind [wh,bP,jV]
def kQ(bk:List Key):E→ao|.i _ _|.b _|.tt|.ff|.s _|.nil|.ck _|.r _ _|.l .data _ _|.l .own _ _|.n .data _ _|.n .own _ _|.it .data _ _ _|.it .own _ _ _=>W|.ptr k _=>bk.any (eX k)|.cy _ caps=>caps.all λp=>bk.any (eX p.1)|_=>I
def Cd(bk:List Key)(A:List aE):ao:=A.all λv=>v.cells.all (kQ bk)
theorem XZ{bk:List Key}{c:E}(h:kQ bk c=W)(s:St):iR s bk (cE c)=cE c:=by
 cases c with
 |l m t xs=>cases m<;>first|rfl|cases h
 |n m t o=>cases m<;>cases o<;>first|rfl|cases h
 |ptr k off=>simp only[kQ,yZ]at h;simp only[cE,iR,h,bf]|cy f caps=>grind [yZ,kQ,cE,iR]|ea=>cases h
 |da=>cases h
 |gone b=>cases h
 |it m t xs a=>cases m<;>first|rfl|cases h
 |dead=>rfl|_=>rfl
theorem X0{bk:List Key}{cs:List E}(h:cs.all (kQ bk)=W)(s:St):ie s bk (aJ cs)=aJ cs:=by
 induction cs with|nil=>rfl|cons c cs a=>grind [ie,aJ,XZ]
def ai8{bk:List Key}{v:aE}(h:v.cells.all (kQ bk)=W)(s:St):gJ s bk (aA v)=aA v:=by
 cases v with
 |one c=>simp only[aE.cells,List.all_cons,List.all_nil,pv]at h;show SV.one _=_;rw[XZ h s];rfl|agg cs=>show SV.agg _=_;rw[X0 (cs:=cs) h s];rfl|aX vs=>
  show SV.aX (sq s bk (dX vs))=.aX (dX vs);congr 1;simp only[aE.cells]at h;induction vs with|nil=>rfl|cons p vs a=>grind [sq,dX,X0]
 |undef=>rfl
def ai9{bk:List Key}{v:aE}(h:v.cells.all (kQ bk)=W)(j:Nat):(sN v j).cells.all (kQ bk)=W:=by
 have a:∀(v:aE)(c:E),v.cells.all (kQ bk)=W→kQ bk c=W→(v.setCell j c).cells.all (kQ bk)=W:=by
  intro v c hv f;have d:∀(cs:List E)(j:Nat),cs.all (kQ bk)=W→(jQ cs j c).all (kQ bk)=W:=by
   intro cs;induction cs with
   |nil=>intro j h;simp[jQ]
   |cons x cs e=>
    intro j h;simp only[List.all_cons,bG]at h;cases j with|zero=>simp_all [jQ]|succ j=>grind [jQ]
  cases v with
  |one x=>grind [aE.setCell,aE.cells]|agg cs=>exact d cs j hv|aX vs=>
   simp only[aE.setCell,aE.cells]at hv ⊢;induction vs generalizing j with|nil=>rfl|cons p vs e=>let⟨b,cs⟩:=p;simp only[List.flatMap_cons,List.all_append,bG]at hv;simp only[Bt];split;grind;simp only[List.flatMap_cons,List.all_append,bG];exact⟨hv.1,e _ hv.2⟩
  |undef=>exact hv
 unfold sN;split;exact a v _ h rfl;exact a v _ h rfl;exact a v _ h rfl;exact h
def X1{bk:List Key}:∀(l:List (Nat×Nat))(A:List aE),Cd bk A=W→Cd bk (gL l A)=W
 |[],A,h=>h|(i,j)::r,A,h=>by
  simp only[gL];refine X1 r _ ?_;have a:∀v∈A,v.cells.all (kQ bk)=W:=List.all_eq_true.1 h;rw[rh];refine List.all_eq_true.2 λv hv=>?_;rcases List.mem_or_eq_of_mem_set hv with hv|rfl
  exact a v hv;refine ai9 ?_ j;rw[List.getD_eq_getElem?_getD];cases hi:A[i]? with|none=>rfl|some x=>grind
section
variable{K:Ctx}{A:List aE}{a:Act}{w:World}
def Ol{s:aU}(c:s.args=A)(j:K.argv.size=A.length){keys:List Nat}{bk:List Key}(e:Cd bk A=W)(f:∀k b,K.iV k=J b→k∈bk)(h:Vs.Good K (cQ s) a w):cR K (cU A (eS s keys bk)) a w:=by
 let⟨β,ω,Z,h⟩:=h;let⟨g,m⟩:=h.fin keys bk j.symm f;refine⟨⟨g,ω,Z,Rel.weak m (λr=>⟨(qX _ r).1.trans (qX _ r).1.symm,(qX _ r).2.trans (qX _ r).2.symm⟩) (λt=>?_) (λk=>?_) λi=>?_⟩,(XX A _).trans j.symm⟩;rw[HE,V1];simp only[eS];rw[Cc];split;exact ai7 s bk _;trivial;rw[HI,V2];simp only[eS];rw[tw];have hv:(cQ s (.box k)).v=aA (s.get (.box k)).v:=rfl;split;cases l:(s.get (.box k)).v with
 |agg cs=>rw[hv,l];exact⟨HK s bk cs,λh=>by cases h⟩
 |_=>rw[hv,l];exact⟨trivial,λ_=>rfl⟩
 exact⟨trivial,λ_=>rfl⟩;rw[HJ,V3];have n:(cQ s (.arg i)).v=aA ((gL s.bR A).getD i .undef):=by rw[←c];rfl
 have d:=X1 s.bR A e;split;rw[n];refine(ai8 ?_ _).symm;show(((gL s.bR A).getD i .undef).cells.all (kQ bk))=W;rw[List.getD_eq_getElem?_getD];cases hi:(gL s.bR A)[i]? with|none=>rfl|some x=>exact List.all_eq_true.1 d x (List.mem_of_getElem? hi)
 simp_all [aA,Oj]
end
abbrev dE:=L (aD×Q (L ao))
def ik(r:aD)(d:dE):ao:=d.any λe=>fU r e.1
def whole(r:aD)(d:dE):ao:=d.any λe=>fU r e.1&&e.2.isNone
def part(r:aD)(j:U)(d:dE):ao:=d.any λe=>fU r e.1&&(match e.2 with|some m=>m.getD j I|none=>W)
def nrm:E→E|.l (.aS q j _ _ k) t xs=>.l (.aS q j 0 0 k) t xs|.n (.aS q j _ _ k) t o=>.n (.aS q j 0 0 k) t o|c=>c
def aja(c:E):nrm (nrm c)=nrm c:=by
 cases c with
 |l m t xs=>cases m<;>rfl
 |n m t o=>cases m<;>rfl
 |_=>rfl
def df(c c':E):Prop:=c'=c∨c'=nrm c∨c'=.dead
theorem df.same(c:E):df c c:=.inl rfl
theorem df.trans{a b c:E}(h:df a b)(d:df b c):df a c:=by
 rcases h with rfl|rfl|rfl
 exact d;rcases d with rfl|rfl|rfl
 exact .inr (.inl rfl);exact .inr (.inl (aja a));exact .inr (.inr rfl);rcases d with rfl|rfl|rfl<;>exact .inr (.inr rfl)
def usable:E→ao|.dead=>I|.l (.aS _ _ hv cv _) _ _=>hv==0&&cv==0|.n (.aS _ _ hv cv _) _ _=>hv==0&&cv==0|_=>W
def ajb{c:E}(h:usable c=W):nrm c=c:=by
 cases c with
 |l m t xs=>
  cases m with
  |aS q j hv cv k=>simp only[usable,bG,cT]at h;obtain⟨rfl,rfl⟩:=h;rfl
  |_=>rfl
 |n m t xs=>
  cases m with
  |aS q j hv cv k=>simp only[usable,bG,cT]at h;obtain⟨rfl,rfl⟩:=h;rfl
  |_=>rfl
 |_=>rfl
def Om{c a:E}(h:df c a)(b:usable a=W):a=nrm c:=by
 rcases h with rfl|rfl|rfl
 exact(ajb b).symm;rfl;cases b
def X2{c a b:E}(h:df c a)(d:df c b)(e:usable a=W)(f:usable b=W):a=b:=(Om h e).trans (Om d f).symm
def fK:aE→aE→Prop|_,.undef=>cZ|.one c,.one d=>df c d|.agg cs,.agg a=>aG df cs a|.aX vs,.aX b=>aG (λp q=>p.1=q.1∧aG df p.2 q.2) vs b|_,_=>gT
theorem aG.same{α:Type}{R:α→α→Prop}(h:∀a,R a a):∀(l:L α),aG R l l|[]=>trivial|a::l=>⟨h a,aG.same h l⟩
theorem fK.same(v:aE):fK v v:=by
 cases v with|one c=>exact df.same c|agg cs=>exact aG.same df.same cs|aX vs=>exact aG.same (λp=>⟨rfl,aG.same df.same p.2⟩) vs|undef=>trivial
theorem fK.trans{a b c:aE}(h:fK a b)(d:fK b c):fK a c:=by
 cases c with
 |undef=>trivial|one z=>cases b<;>first|exact d.elim|(cases a<;>first|exact h.elim|exact df.trans h d)
 |agg z=>cases b<;>first|exact d.elim|(cases a<;>first|exact h.elim|exact aG.comp (R:=df) (S:=df) (U:=df) (λ_ _ _ h1 h2=>df.trans h1 h2) h d)
 |aX z=>cases b<;>first|exact d.elim|(cases a<;>first|exact h.elim|exact aG.comp (λ_ _ _ h1 h2=>⟨h1.1.trans h2.1,aG.comp (R:=df) (S:=df) (U:=df) (λ_ _ _ h1 h2=>df.trans h1 h2) h1.2 h2.2⟩) h d)
def nJ(k:Key)(d:dE)(v b:aE):Prop:=b=.undef∨∃cs a,v=.agg cs∧b=.agg a∧cs.length=a.length∧∀j,part (.box k) j d=I→∀e,a[j]?=J e→∃c,cs[j]?=J c∧df c e
def dF(d:dE)(s s':aU):Prop:=(∀t,ik (.tmp t) d=I→fK (s.get (.tmp t)).v (s'.get (.tmp t)).v)∧(∀k,whole (.box k) d=I→nJ k d (s.get (.box k)).v (s'.get (.box k)).v)
def HL(r:aD)(l d:dE):ik r (l++d)=(ik r l||ik r d):=by simp[ik,LU]
def On(r:aD)(l d:dE):whole r (l++d)=(whole r l||whole r d):=by simp[whole,LU]
def HM(r:aD)(j:U)(l d:dE):part r j (l++d)=(part r j l||part r j d):=by simp[part,LU]
def oV(s:aU):Prop:=∀k,(s.get (.box k)).v=.undef∨∃cs,(s.get (.box k)).v=.agg cs
theorem nJ.same{k:Key}{d:dE}{v:aE}(h:v=.undef∨∃cs,v=.agg cs):nJ k d v v:=by
 rcases h with h|⟨cs,h⟩
 exact .inl h;exact .inr ⟨cs,cs,h,h,rfl,λj _ c a=>⟨c,a,df.same c⟩⟩
def dF.more{d l:dE}{s s':aU}(h:dF d s s'):dF (l++d) s s':=by
 refine⟨λt b=>h.1 t ?_,λk hk=>?_⟩;rw[HL,py]at b;exact b.2;rw[On,py]at hk;rcases h.2 k hk.2 with h|⟨cs,a,e,f,g,i⟩
 exact .inl h;refine .inr ⟨cs,a,e,f,g,λj c=>i j ?_⟩;rw[HM,py]at c;exact c.2
theorem dF.trans{d:dE}{s b s2:aU}(h:dF d s b)(c:dF d b s2):dF d s s2:=by
 refine⟨λt e=>fK.trans (h.1 t e) (c.1 t e),λk hk=>?_⟩;rcases c.2 k hk with g|⟨ds,a,f1,f2,f3,f4⟩
 exact .inl g;rcases h.2 k hk with g|⟨cs,f,i,l,m,o⟩
 rw[g]at f1;cases f1;rw[l]at f1;cases f1;refine .inr ⟨cs,a,i,f2,m.trans f3,λj p q n=>?_⟩;grind [df.trans]
theorem HN{r q:aD}(h:fU q r=I):q≠r:=by grind [td]
theorem dF.c8{d:dE}{s s':aU}(b:oV s)(h:∀r,r.isArg=I→ik r d=I→s'.get r=s.get r)(hp:∀k,whole (.box k) d=I→ik (.box k) d=W→nJ k d (s.get (.box k)).v (s'.get (.box k)).v):dF d s s':=by
 refine⟨λt a=>by rw[h (.tmp t) rfl a];exact fK.same _,λk hk=>?_⟩;cases a:ik (.box k) d with|false=>rw[h (.box k) rfl a];exact nJ.same (b k)|true=>exact hp k hk a
theorem X3:∀(cs:L E)(os:L (Q E))(j:U),(os.map AA).getD j I=I→(dQ cs os)[j]?=cs[j]?|[],os,j,_=>by simp[dQ]|c::cs,[],j,_=>by simp[dQ]|c::cs,o::os,0,h=>by simp_all [dQ]|c::cs,o::os,j+1,h=>by simp only[dQ,pr];exact X3 cs os j (by simpa using h)
def X4:∀(cs:L E)(os:L (Q E)),(dQ cs os).length=cs.length|[],os=>by simp[dQ]|c::cs,[]=>by simp[dQ]|c::cs,o::os=>by simp[dQ,X4 cs os]
def Step(s s':aU):Prop:=oV s'∧s'.args=s.args∧∃l,s'.bQ=l++s.bQ∧dF s'.bQ s s'
theorem Step.trans{s a s2:aU}(h:Step s a)(b:Step a s2):Step s s2:=by let⟨j,c,d,k,k1⟩:=h;let⟨e,f,g,i,k2⟩:=b;refine⟨e,f.trans c,g++d,by grind,dF.trans ?_ k2⟩;rw[i];exact k1.more
theorem Step.same{s:aU}(h:oV s):Step s s:=⟨h,rfl,[],rfl,dF.c8 h (λ_ _ _=>rfl) λk _ _=>nJ.same (h k)⟩
theorem Step.put{s:aU}(h:oV s){r:aD}{x:cX}(a:r.isArg=I)(hx:(∃t,r=.tmp t)∨∃cs,x.v=.agg cs):Step s (s.put r x):=by refine⟨λk=>?_,rfl,[(r,O)],rfl,dF.c8 h (λq _ hd=>?_) λk h1 h2=>?_⟩;rw[yT s x a];split;grind;exact h k;rw[yT s x a,aK];have:ik q ((r,O)::s.bQ)=(fU q r||ik q s.bQ):=rfl;have hd:ik q ((r,O)::s.bQ)=I:=hd;simp_all [HN];rw[yT s x a];have h1:whole (.box k) ((r,O)::s.bQ)=I:=h1;have b:whole (.box k) ((r,O)::s.bQ)=((fU (.box k) r&&W)||whole (.box k) s.bQ):=rfl;rw[b,py,pv]at h1;rw[aK (HN h1.1)];exact nJ.same (h k)
theorem Step.know{s:aU}(h:oV s)(r:aD)(b:ao):Step s (s.know r b):=by
 cases r with
 |tmp t=>have:=Step.put (s:=s) h (r:=.tmp t) (x:={eR (.tmp t) s.m with v:=.one (kb b)}) rfl (.inl ⟨t,rfl⟩);exact this
 |_=>exact Step.same h
def Step.bR{s:aU}(h:oV s)(i j:U):Step s {s with bR:=s.bR++[(i,j)],bQ:=(.arg i,O)::s.bQ}:=⟨λk=>h k,rfl,[(.arg i,O)],rfl,dF.c8 h (λq a _=>by cases q<;>first|rfl|cases a) λk _ _=>nJ.same (h k)⟩
def Step.wr{s:aU}(h:oV s)(k:Key)(os:L (Q E)):Step s (s.wr k os):=by
 rcases h k with g|⟨cs,a⟩
 have i:(eR (.box k) s.m).v=.undef:=g;have c:∀q,q.isArg=I→((s.wr k os).get q).v=(s.get q).v∧(fU q (.box k)=I→(s.wr k os).get q=s.get q):=by
  intro q b;have key:∀q,eR q (s.wr k os).m=if q=.box k then{hv:=(eR (.box k) s.m).hv+1,cv:=(eR (.box k) s.m).cv,v:=match(eR (.box k) s.m).v with|.agg cs=>.agg (dQ cs os)|v=>v}else eR q s.m:=λq=>tf (.box k) _ q s.m
  have:(s.wr k os).get q=eR q (s.wr k os).m:=by cases q<;>first|rfl|cases b
  have n:s.get q=eR q s.m:=by cases q<;>first|rfl|cases b
  grind [td]
 refine⟨λq=>?_,rfl,[(.box k,J (os.map AA))],rfl,dF.c8 h (λq b hd=>?_) λq h1 h2=>?_⟩;rw[(c (.box q) rfl).1];exact h q;have d:ik q (s.wr k os).bQ=(fU q (.box k)||ik q s.bQ):=rfl;grind;rw[(c (.box q) rfl).1];exact nJ.same (h q);refine⟨λq=>?_,rfl,[(.box k,J (os.map AA))],rfl,dF.c8 h (λq _ hd=>?_) λq h1 h2=>?_⟩;rw[BS s k os _ a];split;exact .inr ⟨_,rfl⟩;exact h q;rw[BS s k os _ a,aK];have d:ik q (s.wr k os).bQ=(fU q (.box k)||ik q s.bQ):=rfl;grind [HN];rw[BS s k os _ a];split;rename_i e;cases e;refine .inr ⟨cs,dQ cs os,a,rfl,(X4 cs os).symm,λj o f l=>⟨f,?_,df.same f⟩⟩;have d:part (.box k) j (s.wr k os).bQ=((fU (.box k) (.box k)&&(os.map AA).getD j I)||part (.box k) j s.bQ):=rfl;grind [td,X3];exact nJ.same (h q)
def X5{α:Type}(p:PE α):∀(s:aU),oV s→(p.both s).each λx=>Step s x.2.1:=by
 induction p with
 |ret a=>intro s h;exact Step.same h
 |fail=>intro s h;trivial
 |br c t e g l=>intro s h;exact⟨g s h,l s h⟩
 |call d o k f=>intro s h;exact λx=>f x s h
 |get r k f=>simp_all [PE.both,Tr.jU]|put r x k f=>
  intro s h;simp only[PE.both];cases hp:vT r x with
  |false=>trivial|true=>
   simp only[Tr.jU];(have m:r.isArg=I:=by cases r<;>first|rfl|(simp[vT]at hp));have n:(∃t,r=.tmp t)∨∃cs,x.v=.agg cs:=by
    cases r with
    |tmp t=>exact .inl ⟨t,rfl⟩|box k=>
     cases hv:x.v with|agg cs=>grind|_=>simp[vT,hv]at hp
    |arg i=>cases m
   have h1:=Step.put h m n;exact Tr.fJ (λy hy=>Step.trans h1 hy) (f _ h1.1)
 |bR i j k f=>intro s h;simp only[PE.both,Tr.jU];have h1:=Step.bR h i j;exact Tr.fJ (λy hy=>Step.trans h1 hy) (f _ h1.1)
 |know r b k f=>intro s h;have h1:=Step.know h r b;exact Tr.fJ (λy hy=>Step.trans h1 hy) (f _ h1.1)
 |wr q os k f=>intro s h;simp only[PE.both,Tr.jU];have h1:=Step.wr h q os;exact Tr.fJ (λy hy=>Step.trans h1 hy) (f _ h1.1)
def HO(cfg:dJ)(b:bv ch):∀(l:L ch)(s:aU),oV s→(qb cfg b l s).each λx=>Step s x.1|[],s,h=>Step.same h|o::r,s,h=>by simp only[qb];rw[Tr.jk];refine Tr.fJ ?_ (X5 (Hg cfg b o) s h);rintro ⟨a,s',f,g⟩ h1;rw[Tr.jk];refine Tr.fJ ?_ (HO cfg b r s' h1.1);rintro ⟨c,l⟩ h2;exact Step.trans h1 h2
def oW(A:L aE)(p:be):oV (bI A p):=by intro k;grind [jx]
theorem Oo(s:aU)(bk:L Key)(c:E):df c (iG s bk c):=by
 have dd:∀(b:ao)(x y:E),(x=y∨x=nrm y)→df y (match b with|true=>x|false=>.dead):=by
  intro b x y h;cases b with
  |true=>rcases h with rfl|rfl<;>first|exact .inl rfl|exact .inr (.inl rfl)
  |false=>exact .inr (.inr rfl)
 cases c with
 |l m t xs=>cases m<;>first|exact .inl rfl|exact dd _ _ _ (.inr rfl)
 |n m t xs=>cases m<;>first|exact .inl rfl|exact dd _ _ _ (.inr rfl)
 |ptr k off=>exact dd _ _ _ (.inl rfl)|cy f caps=>exact dd _ _ _ (.inl rfl)|ea=>exact .inr (.inr rfl)|gone b=>exact .inr (.inr rfl)|it m t xs a=>cases m<;>first|exact .inl rfl|exact .inr (.inr rfl)
 |_=>exact .inl rfl
def Oq(s:aU)(bk:L Key):∀(cs:L E),aG df cs (cs.map (iG s bk))|[]=>trivial|c::cs=>⟨Oo s bk c,Oq s bk cs⟩
def ajc(s:aU)(bk:L Key)(v:aE):fK v (tu s bk v):=by
 cases v with
 |one c=>exact Oo s bk c|agg cs=>exact Oq s bk cs|aX vs=>
  show aG _ vs (vs.map λp=>(p.1,p.2.map (iG s bk)));induction vs with|nil=>trivial|cons p vs a=>exact⟨⟨rfl,Oq s bk p.2⟩,a⟩
 |undef=>trivial
def wj(A:L aE)(s:aU)(a:oV s)(keys:L U)(bk:L Key)(d:dE):dF d s (bI A (eS s keys bk)):=by
 refine⟨λt _=>?_,λk _=>?_⟩;rw[mM];simp only[eS];rw[Cc];split;exact ajc s bk _;trivial;rw[jx];simp only[eS];rw[tw];rcases a k with h|⟨cs,h⟩
 rw[h];left;grind;rw[h];by_cases hk:k∈bk;rw[ax hk];refine .inr ⟨cs,_,rfl,rfl,by simp,λj _ c b=>?_⟩;grind [Oo];rw[aK hk];exact .inl rfl
def Ce(c:Bool)(a b:E):E:=
 match a,b with|.tt,.tt=>.tt|.ff,.ff=>.ff|.tt,.ff=>.b c|.ff,.tt=>.b (!c)|.tt,.b y=>.b (c||y)|.b x,.ff=>.b (c&&x)|.ff,.b y=>.b (!c&&y)|.b x,.tt=>.b (!c||x)|.b x,.b y=>.b (if c=W then x else y)|_,_=>.dead
def wm(c:Bool)(a b:E):E:=
 match a,b with|.i k a,.i k' b=>if k=k' then .i k (if c=W then a else b)else .dead|.s a,.s b=>.s (if c=W then a else b)|.l m t xs,.l d e ys=>if m=d then(if h:e=t then .l m t (if c=W then xs else h▸ys)else .dead)else .dead|.n m t o,.n d e g=>if m=d then(if h:e=t then .n m t (if c=W then o else h▸g)else .dead)else .dead|.n m t o,.l d e ys=>if m=d then(if h:e=t then .n m t (if c=W then o else J (h▸ys))else .dead)else .dead|.l m t xs,.n d e g=>if m=d then(if h:e=t then .n m t (if c=W then J xs else h▸g)else .dead)else .dead|.n m t o,.nil=>.n m t (if c=W then o else O)|.nil,.n m t o=>.n m t (if c=W then O else o)|.l m t xs,.nil=>.n m t (if c=W then J xs else O)|.nil,.l m t xs=>.n m t (if c=W then O else J xs)|.nil,.nil=>.nil|.ck k,.ck k'=>if k=k' then .ck k else .dead|.r u ps,.r p j=>if u=p then .r u (if c=W then ps else j)else .dead|.ptr k o,.ptr k' g=>if k=k'∧o=g then .ptr k o else .dead|.cy f l,.cy q v=>if f=q∧l=v then .cy f l else .dead|a,b=>Ce c a b
def ajd(a b:E):de (cE a) (cE (Ce W a b)):=by unfold Ce;split<;>first|exact .inl rfl|exact .inr rfl
def aje(a b:E):de (cE b) (cE (Ce I a b)):=by unfold Ce;split<;>first|exact .inl rfl|exact .inr rfl
theorem X6(a b:E):de (cE a) (cE (wm W a b)):=by
 unfold wm;repeat' split
 all_goals first|exact .inl rfl|exact .inr rfl|exact bX rfl ‹¬ W=W› |exact ajd _ _
def X7(a b:E):de (cE b) (cE (wm I a b)):=by
 unfold wm;repeat' split
 all_goals first|exact .inl rfl|exact .inr rfl|exact bX ‹I=W› (by decide)|exact aje _ _|(subst_vars;exact .inl rfl)|(rename_i h;obtain⟨rfl,rfl⟩:=h;exact .inl rfl)
def oX(a b:E):E:=match usable a&&usable b with|true=>a|false=>.dead
def Cf(f:E→E→E):List E→List E→List E|a::as,b::c=>f a b::Cf f as c|_,_=>[]
def mN(f:E→E→E)(v u:aE):aE:=
 match v,u with
 |.one a,.one b=>.one (f a b)|.agg as,.agg c=>match as.length==c.length with|true=>.agg (Cf f as c)|false=>.undef
 |_,_=>.undef
theorem X8(a b:E):df a (oX a b):=by unfold oX;split<;>first|exact .inl rfl|exact .inr (.inr rfl)
theorem X9(a b:E):de (cE a) (cE (oX a b)):=by unfold oX;split<;>first|exact .inl rfl|exact .inr rfl
def Ot{c a b:E}(h:df c a)(e:df c b):de (cE b) (cE (oX a b)):=by unfold oX;split;rename_i d;simp only[Bool.and_eq_true]at d;rw[X2 h e d.1 d.2];exact .inl rfl;exact .inr rfl
def Ou{f:E→E→E}{R:E→E→Prop}(d:∀a b,R a (f a b)):∀(as c:List E),as.length=c.length→aG R as (Cf f as c)|[],[],_=>trivial|a::as,b::c,h=>⟨d a b,Ou d as c (by simpa using h)⟩|[],_::_,h=>by simp at h|_::_,[],h=>by simp at h
def Ya{f:E→E→E}{R:E→E→Prop}(d:∀a b,R b (f a b)):∀(as c:List E),as.length=c.length→aG R c (Cf f as c)|[],[],_=>trivial|a::as,b::c,h=>⟨d a b,Ya d as c (by simpa using h)⟩|[],_::_,h=>by simp at h|_::_,[],h=>by simp at h
theorem aG.eT{R:C→C→Prop}:∀{as c:List E},aG (λa b=>R (cE a) (cE b)) as c→aG R (aJ as) (aJ c)|[],[],_=>trivial|_::_,_::_,h=>⟨h.1,aG.eT h.2⟩
theorem ajf{f:E→E→E}(c:∀a b,de (cE a) (cE (f a b)))(v u:aE):lH (aA v) (aA (mN f v u)):=by unfold mN;split;exact c _ _;split;rename_i h;exact aG.eT (Ou c _ _ (by simpa using h));trivial;trivial
def ajg{f:E→E→E}(c:∀a b,df a (f a b))(v u:aE):fK v (mN f v u):=by unfold mN;split;exact c _ _;split;rename_i h;exact Ou c _ _ (by simpa using h);trivial;trivial
def ajh{f:E→E→E}(c:∀a b,de (cE b) (cE (f a b)))(v u:aE):lH (aA u) (aA (mN f v u)):=by unfold mN;split;exact c _ _;split;rename_i h;exact aG.eT (Ya c _ _ (by simpa using h));trivial;trivial
def aji{cs:List E}:∀{as d:List E},aG df cs as→aG df cs d→aG (λb x=>de (cE b) (cE x)) d (Cf oX as d):=by
 induction cs with
 |nil=>intro as d h1 h2;cases as<;>cases d<;>first|trivial|exact h1.elim|exact h2.elim
 |cons c cs e=>
  intro as d h1 h2;cases as with
  |nil=>exact h1.elim|cons a as=>
   cases d with|nil=>exact h2.elim|cons b d=>exact⟨Ot h1.1 h2.1,e h1.2 h2.2⟩
def ajj{v0 v u:aE}(h:fK v0 v)(a:fK v0 u):lH (aA u) (aA (mN oX v u)):=by
 unfold mN;split;cases v0 with|one c=>exact Ot h a|_=>exact h.elim
 split;cases v0 with|agg cs=>exact aG.eT (aji h a)|_=>exact h.elim
 trivial;trivial
def Cg(c:Bool)(d:dE)(q:be):List (U×aE)→List (U×aE)
 |[]=>[]|(t,v)::r=>(t,match ik (.tmp t) d with|true=>mN (wm c) v (bZ t q.slots)|false=>mN oX v (bZ t q.slots))::Cg c d q r
def oY(c:Bool)(d:dE)(k:Key):U→List E→List E→List E
 |j,a::as,b::e=>(match whole (.box k) d||part (.box k) j d with|true=>wm c a b|false=>oX a b)::oY c d k (j+1) as e
 |_,_,_=>[]
def HP(c:Bool)(d:dE)(q:be):List (Key×List E)→List (Key×List E)
 |[]=>[]|(k,as)::r=>(k,match bP k q.boxes with
  |some a=>(match as.length==a.length with|true=>oY c d k 0 as a|false=>as.map λ_=>.dead)
  |none=>as.map λ_=>.dead)::HP c d q r
def kR(A:List aE)(inb bk:List Key):Bool:=Cd bk A&&inb.all λk=>bk.any (eX k)
def hasB(k:Key)(p:be):Bool:=match bP k p.boxes with|some _=>W|none=>I
def ajk(bk:List Key)(p q:be):Bool:=bk.all λk=>match bP k p.boxes,bP k q.boxes with|some as,J a=>as.length==a.length|_,_=>I
def merge(A:List aE)(inb:List Key)(c:Bool)(p q:be):Q be:=let bk:=(p.boxes.map (·.1)).filter λk=>hasB k q
 match decide (p.bR=q.bR)&&kR A inb bk&&ajk bk p q with|true=>let d:=p.bQ++q.bQ;let a:=eS (bI A p) (p.slots.map (·.1)) bk;let b:=eS (bI A q) (q.slots.map (·.1)) bk;J {slots:=Cg c d b a.slots,boxes:=HP c d b a.boxes,bR:=p.bR,bQ:=d}|false=>O
theorem HQ(c:Bool)(d:dE)(q:be)(t:U):∀(l:List (U×aE)),bZ t (Cg c d q l)=match ik (.tmp t) d with|true=>mN (wm c) (bZ t l) (bZ t q.slots)|false=>mN oX (bZ t l) (bZ t q.slots)
 |[]=>by grind [Cg,bZ,mN]|(u,v)::r=>by
  simp only[Cg,bZ];cases h:t==u with|true=>grind|false=>exact HQ c d q t r
theorem HR(c:Bool)(d:dE)(q:be)(k:Key):∀(l:List (Key×List E)),bP k (HP c d q l)=match bP k l with
  |some as=>J (match bP k q.boxes with
   |some a=>(match as.length==a.length with|true=>oY c d k 0 as a|false=>as.map λ_=>.dead)
   |none=>as.map λ_=>.dead)
  |none=>O
 |[]=>rfl|(u,v)::r=>by
  simp only[HP,bP];cases h:eX k u with|true=>simp_all [jV]|false=>exact HR c d q k r
def Yb(c:Bool)(d:dE)(k:Key):∀(as e:List E)(j:U),as.length=e.length→(oY c d k j as e).length=as.length|[],[],_,_=>rfl|a::as,b::e,j,h=>by simp[oY,Yb c d k as e (j+1) (by simpa using h)]|[],_::_,_,h=>by simp at h|_::_,[],_,h=>by simp at h
theorem Yc{c:Bool}(f:c=W)(d:dE)(k:Key):∀(as e:List E)(j:U),as.length=e.length→aG (λa x=>de (cE a) (cE x)) as (oY c d k j as e)|[],[],_,_=>trivial|a::as,b::e,j,h=>by refine⟨?_,Yc f d k as e (j+1) (by simpa using h)⟩;grind [X6,X9]|[],_::_,_,h=>by simp at h|_::_,[],_,h=>by simp at h
def Yd{c:Bool}(g:c=I)(d:dE)(k:Key):∀(as e:List E)(j:U),as.length=e.length→(∀i,whole (.box k) d=I→part (.box k) (j+i) d=I→∀a b,as[i]?=J a→e[i]?=J b→∃x,df x a∧df x b)→aG (λb x=>de (cE b) (cE x)) e (oY c d k j as e)
 |[],[],_,_,_=>trivial|a::as,b::e,j,h,hk=>by refine⟨?_,Yd g d k as e (j+1) (by simpa using h) λi h1 h2 x y l hy=>hk (i+1) h1 (by grind) x y (by simpa using l) (by simpa using hy)⟩;split;subst g;exact X7 a b;rename_i f;rw[Bool.or_eq_false_iff]at f;let⟨x,h1,h2⟩:=hk 0 f.1 (by simpa using f.2) a b rfl rfl;exact Ot h1 h2
 |[],_::_,_,h,_=>by simp at h|_::_,[],_,h,_=>by simp at h
def Ye(c:Bool)(d:dE)(k:Key):∀(as e:List E)(j i:U)(x:E),as.length=e.length→whole (.box k) d=I→part (.box k) (j+i) d=I→(oY c d k j as e)[i]?=J x→∃a,as[i]?=J a∧df a x|[],[],_,i,x,_,_,_,h=>by simp[oY]at h|a::as,b::e,j,0,x,f,g,hp,h=>by grind [oY,X8]|a::as,b::e,j,i+1,x,f,g,hp,h=>by simp only[oY,List.getElem?_cons_succ]at h ⊢;exact Ye c d k as e (j+1) i x (by simpa using f) g (by grind) h|[],_::_,_,_,_,h,_,_,_=>by simp at h|_::_,[],_,_,_,h,_,_,_=>by simp at h
theorem Yf{cs cs':List E}(h:aG (λa x=>de (cE a) (cE x)) cs cs'):aG de (aJ cs) (aJ cs'):=aG.eT h
section
variable{K:Ctx}{A:List aE}{inb:List Key}{a:Act}{w:World}{p0:aU}{c:Bool}{p q m:be}
structure hJ(K:Ctx)(A:List aE)(inb:List Key):Prop where
 size:K.argv.size=A.length
 keys:∀k b,K.iV k=some b→k∈inb
def hJ.bk(a:hJ K A inb){bk:List Key}(h:kR A inb bk=W):Cd bk A=W∧∀k b,K.iV k=J b→k∈bk:=by simp only[kR,Bool.and_eq_true]at h;refine⟨h.1,λk b hk=>?_⟩;have:=List.all_eq_true.1 h.2 k (a.keys k b hk);simp_all [yZ]
theorem cR.eS(c:hJ K A inb){bk:List Key}(b:kR A inb bk=W)(keys:List U)(h:cR K (cU A p) a w):cR K (cU A (eS (bI A p) keys bk)) a w:=by let⟨h1,h2⟩:=c.bk b;refine Ol rfl c.size h1 h2 ?_;rw[Cb];exact h.1
def Rel.y0{p b:be}(d:K.argv.size=A.length)(h:cR K (cU A p) a w)(c:b.bR=p.bR)(f:∀t,lH (aA (bZ t p.slots)) (aA (bZ t b.slots))) (e:∀k,match bP k p.boxes,bP k b.boxes with|some cs,J cs'=>aG de (aJ cs) (aJ cs')|none,O=>cZ|_,_=>gT):cR K (cU A b) a w:=by
 let⟨⟨β,ω,Z,h⟩,_⟩:=h;refine⟨⟨β,ω,Z,Rel.weak h (λr=>⟨(qX _ r).1.trans (qX _ r).1.symm,(qX _ r).2.trans (qX _ r).2.symm⟩) (λt=>by grind [HE]) (λk=>?_) λi=>by rw[HJ,HJ,c]⟩,(XX A _).trans d.symm⟩;rw[HI,HI];have:=e k;cases h1:bP k p.boxes with
 |none=>
  cases h2:bP k b.boxes with|none=>exact⟨trivial,λ_=>rfl⟩|some cs'=>grind
 |some cs=>
  cases h2:bP k b.boxes with|none=>grind|some cs'=>rw[h1,h2]at this;exact⟨this,λh=>by cases h⟩
def ajl(C:hJ K A inb)(hp:dF p.bQ p0 (bI A p))(Y:dF q.bQ p0 (bI A q))(hm:merge A inb c p q=J m):(c=W→cR K (cU A p) a w→cR K (cU A m) a w)∧(c=I→cR K (cU A q) a w→cR K (cU A m) a w)∧dF m.bQ p0 (bI A m)∧m.bQ=p.bQ++q.bQ:=by
 unfold merge at hm;generalize Z:((p.boxes.map (·.1)).filter λk=>hasB k q)=bk at hm;simp only at hm;split at hm;rename_i R;simp only[Bool.and_eq_true,eh]at R;let⟨⟨r,s⟩,u⟩:=R;cases hm;have hd:dF (p.bQ++q.bQ) p0 (bI A (eS (bI A p) (p.slots.map (·.1)) bk)):=by
  refine dF.trans ?_ (wj A _ (oW A p) _ _ _);refine⟨λt f=>hp.1 t ?_,λk hk=>?_⟩;rw[HL,Bool.or_eq_false_iff]at f;exact f.1;rw[On,Bool.or_eq_false_iff]at hk;rcases hp.2 k hk.1 with h|⟨cs,l,D,v,E,G⟩
  exact .inl h;refine .inr ⟨cs,l,D,v,E,λj H=>G j ?_⟩;rw[HM,Bool.or_eq_false_iff]at H;exact H.1
 have z:dF (p.bQ++q.bQ) p0 (bI A (eS (bI A q) (q.slots.map (·.1)) bk)):=dF.trans Y.more (wj A _ (oW A q) _ _ _);generalize n:eS (bI A p) (p.slots.map (·.1)) bk=S at *;generalize o:eS (bI A q) (q.slots.map (·.1)) bk=T at *;have g:∀k,(∃as e,bP k S.boxes=J as∧bP k T.boxes=J e∧as.length=e.length)∨(bP k S.boxes=O∧bP k T.boxes=O):=by intro k;rw[←n,←o];simp only[eS];rw[tw,tw,jx,jx];by_cases hk:k∈bk;rw[ax hk,ax hk];have:=List.all_eq_true.1 u k hk;grind;grind
 refine⟨λhct N=>?_,λB N=>?_,?_,rfl⟩;have b:=cR.eS C s (p.slots.map (·.1)) N;rw[n]at b;refine Rel.y0 C.size b (by rw[←n];rfl) (λt=>?_) λk=>?_;grind [HQ,ajf,X6,X9];grind [HR,Yf,Yc];have b:=cR.eS C s (q.slots.map (·.1)) N;rw[o]at b;refine Rel.y0 C.size b (by rw[←o];exact r) (λt=>?_) λk=>?_;simp only;rw[HQ];split;subst B;exact ajh X7 _ _;rename_i f;have h1:=hd.1 t f;have h2:=z.1 t f;rw[mM]at h1 h2;exact ajj h1 h2;simp only;rw[HR];rcases g k with⟨as,e,h1,h2,h3⟩|⟨h1,h2⟩
 rw[h1,h2];simp only;rw[show(as.length==e.length)=W by simpa using h3];refine Yf (Yd B _ k as e 0 h3 λi V P x y X hy=>?_);rw[uP]at P;have d:=hd.2 k V;have F:=z.2 k V;rw[jx,h1]at d;rw[jx,h2]at F;rcases d with d|⟨cs,l,D,v,E,G⟩
 cases d;cases v;rcases F with F|⟨ds,ds',f1,f2,f3,f4⟩
 cases F;grind;rw[h1,h2];trivial;refine⟨λt f=>?_,λk hk=>?_⟩;rw[mM];simp only;rw[HQ,f];have:=hd.1 t f;rw[mM]at this;exact fK.trans this (ajg X8 _ _);rw[jx];simp only;rw[HR];have d:=hd.2 k hk;rw[jx]at d;rcases g k with⟨as,e,h1,h2,h3⟩|⟨h1,h2⟩
 rw[h1,h2];rw[h1]at d;simp only;rw[show(as.length==e.length)=W by simpa using h3];rcases d with d|⟨cs,l,D,v,E,G⟩
 cases d;cases v;refine .inr ⟨cs,_,D,rfl,E.trans (Yb c _ k as e 0 h3).symm,λj H x X=>?_⟩;let⟨y,y1,y2⟩:=Ye c _ k as e 0 j x h3 hk (by grind) X;grind [df.trans];grind;cases hm
end
def view:Tr (Ex×be)→Q (Q ao×be)
 |.leaf x=>match x with|(.normal,p)=>J (O,p)|_=>O
 |.br g t e=>match t,e with|.leaf (.normal,p),.fail=>J (J g,p)|_,_=>O
 |_=>O
def Yg{α:Type}:Tr α→ao|.fail=>W|_=>I
def rk{α:Type}(g:Q ao)(t:Tr α):Tr α:=
 match g with|none=>t|some g=>.br g t .fail
def Yh:E→E→ao|.ptr _ _,.ck _=>W|.ck _,.ptr _ _=>W|_,_=>I
def ajm(p q:be):ao:=(p.slots.any λx=>match x.2,bZ x.1 q.slots with
 |.one a,.one b=>Yh a b|_,_=>I)||p.boxes.any λx=>match bP x.1 q.boxes with|some c=>(x.2.zip c).any λy=>Yh y.1 y.2|none=>I
def Ov(A:List aE)(inb:List Key)(c:ao)(p q:be):Q be:=match ajm p q with|true=>O|false=>merge A inb c p q
def ajn{A:List aE}{inb:List Key}{c:ao}{p q m:be}(h:Ov A inb c p q=J m):merge A inb c p q=J m:=by grind [Ov]
def HS(A:List aE)(inb:List Key)(c:ao)(a b:Tr (Ex×be)):Tr (Ex×be):=
 match view a,view b with
 |some (g,p),J (h,q)=>match Ov A inb c p q with
  |some m=>rk (match g,h with|none,O=>O|some g,O=>J (!c||g)|none,J h=>J (c||h)|some g,J h=>J (if c=W then g else h)) (.leaf (.normal,m))
  |none=>.br c a b
 |some (g,p),O=>match Yg b with|true=>rk (J (match g with|none=>c|some g=>c&&g)) (.leaf (.normal,p))|false=>.br c a b
 |none,J (h,q)=>match Yg a with|true=>rk (J (match h with|none=> !c|some h=> !c&&h)) (.leaf (.normal,q))|false=>.br c a b
 |none,O=>.br c a b
def mO(A:List aE)(inb:List Key):Tr (Ex×be)→Tr (Ex×be)|.leaf x=>.leaf x|.fail=>.fail|.br c a b=>HS A inb c (mO A inb a) (mO A inb b)|.call d o k=>.call d o λx=>mO A inb (k x)|.sum o k k'=>.sum o (λx=>mO A inb (k x)) λx=>mO A inb (k' x)
def HU{t:Tr (Ex×be)}{g:Q ao}{p:be}(h:view t=J (g,p)):t=rk g (.leaf (.normal,p)):=by unfold view at h;split at h;split at h<;>cases h;rfl;split at h<;>cases h;rfl;cases h
section
variable{K:Ctx}{A:List aE}{inb:List Key}
def Reach(K:Ctx)(A:List aE)(Q:Ex×be→Prop)(x:Ex×be):Prop:=∀a w,cR K (cU A x.2) a w→∃y,sD x.1=sD y.1∧Q y∧cR K (cU A y.2) a w
theorem Reach.of{Q:Ex×be→Prop}{x:Ex×be}(h:Q x):Reach K A Q x:=λ_ _ a=>⟨x,rfl,h,a⟩
def Reach.idem{Q:Ex×be→Prop}{x:Ex×be}(h:Reach K A (Reach K A Q) x):Reach K A Q x:=by intro a w b;let⟨y,h1,h2,h3⟩:=h a w b;let⟨z,c,d,e⟩:=h2 a w h3;grind
def HW{α:Type}{t:Tr α}{Q Q':α→Prop}(h:∀a,Q a→Q' a)(b:t.all Q):t.all Q':=by grind [Tr.yR]
def dZ(p0:aU)(A:List aE)(x:Ex×be):Prop:=(∃l,x.2.bQ=l++p0.bQ)∧dF x.2.bQ p0 (bI A x.2)
theorem Ch{α:Type}{g:Option ao}{x:α}{Q:α→Prop}:(rk g (.leaf x)).all Q↔((∀b,g=J b→b=W)∧Q x):=by
 cases g with|none=>simp[rk,Tr.all]|some b=>cases b<;>simp[rk,Tr.all]
theorem Ci{α:Type}{g:Option ao}{x:α}{Q:α→Prop}:(rk g (.leaf x)).each Q↔Q x:=by cases g<;>simp[rk,Tr.each]
def ajo(t:hJ K A inb){p0:aU}(c:ao)(a b:Tr (Ex×be))(n:a.each (dZ p0 A))(kb:b.each (dZ p0 A)):(HS A inb c a b).each (dZ p0 A)∧∀Q,(HS A inb c a b).all Q→(c=W→a.all (Reach K A Q))∧(c=I→b.all (Reach K A Q)):=by have plain:(Tr.br c a b).each (dZ p0 A)∧∀Q,(Tr.br c a b).all Q→(c=W→a.all (Reach K A Q))∧(c=I→b.all (Reach K A Q)):=⟨⟨n,kb⟩,λQ h=>⟨λk=>HW (λ_=>Reach.of) (h.1 k),λk=>HW (λ_=>Reach.of) (h.2 k)⟩⟩;unfold HS;split;rename_i g p h q f i;have ea:=HU f;have o:=HU i;rw[ea,Ci]at n;rw[o,Ci]at kb;split;rename_i m hm;replace hm:=ajn hm;have d:=λa w=>ajl (K:=K) (A:=A) (inb:=inb) (a:=a) (w:=w) (p0:=p0) (c:=c) t n.2 kb.2 hm;let⟨_,_,hk,u⟩:=d {tmps:=#[],defers:=[]} default;refine⟨Ci.2 ⟨?_,hk⟩,λQ j=>?_⟩;let⟨l,y⟩:=kb.1;grind;rw[Ch]at j;let⟨z,s⟩:=j;refine⟨λk=>?_,λk=>?_⟩;rw[ea,Ch];refine⟨λv e=>?_,λa w r=>⟨(.normal,m),rfl,s,(d a w).1 k r⟩⟩;grind;rw[o,Ch];refine⟨λv e=>?_,λa w r=>⟨(.normal,m),rfl,s,(d a w).2.1 k r⟩⟩;grind;exact plain;rename_i g p f i;split;rename_i x;have ea:=HU f;grind [Ci,Ch,Reach.of];exact plain;rename_i h q f i;split;rename_i x;have o:=HU i;grind [Ci,Ch,Reach.of];exact plain;exact plain
def y5(n:hJ K A inb){p0:aU}:∀(t:Tr (Ex×be)),t.each (dZ p0 A)→(mO A inb t).each (dZ p0 A)∧∀Q,(mO A inb t).all Q→t.all (Reach K A Q):=by
 intro t;induction t with
 |leaf x=>exact λh=>⟨h,λQ e=>Reach.of e⟩|fail=>exact λ_=>⟨trivial,λQ e=>e⟩|br c a b j l=>intro h;let⟨p,q⟩:=j h.1;let⟨kb,r⟩:=l h.2;let⟨h1,h2⟩:=ajo n c _ _ p kb;refine⟨h1,λQ e=>?_⟩;let⟨s,u⟩:=h2 Q e;exact⟨λm=>HW (λ_=>Reach.idem) (q _ (s m)),λm=>HW (λ_=>Reach.idem) (r _ (u m))⟩
 |call d o k f=>exact λh=>⟨λx=>(f x (h x)).1,λQ⟨x,g,e⟩=>⟨x,g,(f x (h x)).2 Q e⟩⟩|sum o k k' f i=>exact λh=>⟨⟨λx=>(f x (h.1 x)).1,λx=>(i x (h.2 x)).1⟩,λQ e=>⟨λx g=>(f x (h.1 x)).2 Q (e.1 x g),λx g=>(i x (h.2 x)).2 Q (e.2 x g)⟩⟩
end
inductive Sh where
 |i(k:IntKind)|b|s|l(m:Md)(t:Ty)|n(m:Md)(t:Ty)|p(k:Key)(off:Nat)|dd|u(k:NK)|r(u:TypeId)
@[reducible] def Sh.T:Sh→Type|.i _=>M|.b=>ao|.s=>List ai|.l _ t=>List t.T|.n _ t=>Q (List t.T)|.p _ _=>bu|.dd=>bu|.u _=>bu|.r _=>List (ai×List ai)
def Sh.inst:(h:Sh)→h.T→E|.i k,x=>.i k x|.b,x=>.b x|.s,x=>.s x|.l m t,xs=>.l m t xs|.n m t,o=>.n m t o|.p k off,_=>.ptr k off|.dd,_=>.dead|.u k,_=>.ck k|.r z,ps=>.r z ps
def Sh.dflt:(h:Sh)→h.T|.i _=>(0:M)|.b=>I|.s=>([]:List ai)|.l _ t=>([]:List t.T)|.n _ t=>(O:Q (List t.T))|.p _ _=>()|.dd=>()|.u _=>()|.r _=>([]:List (ai×List ai))
def Sh.dI:(h:Sh)→E→Q h.T
 |.i k=>λc=>match c with|.i k' x=>if k'=k then J x else O|_=>O
 |.b=>λc=>sR c|.s=>λc=>match c with|.s x=>J x|_=>O
 |.l m t=>λc=>match c with|.l a d xs=>if a=m then(if h:d=t then J (h▸xs)else O)else O|_=>O
 |.n m t=>λc=>match c with|.l a d xs=>if a=m then(if h:d=t then J (J (h▸xs))else O)else O|.n a d o=>if a=m then(if h:d=t then J (h▸o)else O)else O|.nil=>J O|_=>O
 |.p k off=>λc=>match c with
  |.ptr k' e=>match eX k k'&&off==e with|true=>J ()|false=>O
  |_=>O
 |.dd=>λc=>match c with|.dead=>J ()|_=>O
 |.u k=>λc=>match c with|.ck k'=>if k'=k then J ()else O|_=>O
 |.r z=>λc=>match c with|.r f ps=>if f=z then J ps else O|_=>O
theorem Sh.kA:∀{h:Sh}{c:E}{x:h.T},h.dI c=J x→cE (h.inst x)=cE c
 |.i k,c,x,e=>by simp only[Sh.dI]at e;split at e;split at e;rename_i h;subst h;cases e;rfl;cases e;cases e
 |.r z,c,x,e=>by simp only[Sh.dI]at e;split at e;split at e;rename_i h;subst h;cases e;rfl;cases e;cases e
 |.b,c,x,e=>(Hp e).symm|.dd,c,x,e=>by simp only[Sh.dI]at e;split at e<;>cases e;rfl
 |.u k,c,x,e=>by simp only[Sh.dI]at e;split at e;split at e;rename_i h;subst h;rfl;cases e;cases e
 |.p k off,c,x,e=>by simp only[Sh.dI]at e;split at e;split at e;rename_i h;simp only[bG,cT,jV]at h;obtain⟨rfl,rfl⟩:=h;rfl;cases e;cases e
 |.s,c,x,e=>by simp only[Sh.dI]at e;split at e<;>cases e;rfl
 |.l m t,c,x,e=>by simp only[Sh.dI]at e;split at e;split at e;rename_i h;subst h;split at e;rename_i h;subst h;cases e;rfl;cases e;cases e;cases e
 |.n m t,c,x,e=>by simp only[Sh.dI]at e;split at e;split at e;rename_i h;subst h;split at e;rename_i h;subst h;cases e;rfl;cases e;cases e;split at e;rename_i h;subst h;split at e;rename_i h;subst h;cases e;rfl;cases e;cases e;cases e;rfl;cases e
inductive Pl where
 |slot(t:Nat)(h:Sh)|mP(t:Nat)(r:Ty)|cell(k:Key)(j:Nat)(h:Sh)
@[reducible] def Pl.T:Pl→Type|.slot _ h=>h.T|.mP _ r=>r.T|.cell _ _ h=>h.T
def Pl.dflt:(p:Pl)→p.T|.slot _ h=>h.dflt|.mP _ r=>r.zero|.cell _ _ h=>h.dflt
@[reducible] def VT:List Pl→Type
  |[]=>bu|p::r=>match r with|[]=>p.T|q::r=>p.T×VT (q::r)
def VT.dflt:(l:List Pl)→VT l|[]=>()|[p]=>p.dflt|p::q::r=>(p.dflt,VT.dflt (q::r))
def rl(t:U)(v:aE):List (U×aE)→List (U×aE)
 |[]=>[(t,v)]|(u,x)::r=>match t==u with|true=>(t,v)::r|false=>(u,x)::rl t v r
def setB(k:Key)(j:U)(c:E):List (Key×List E)→List (Key×List E)
 |[]=>[]|(q,x)::r=>match eX k q with|true=>(q,jQ x j c)::r|false=>(q,x)::setB k j c r
def Pl.get:(q:Pl)→be→Q q.T
 |.slot t h=>λp=>match bZ t p.slots with|.one c=>h.dI c|_=>O
 |.mP t r=>λp=>match bZ t p.slots with|.agg cs=>jS r cs|_=>O
 |.cell k j h=>λp=>match bP k p.boxes with
  |some cs=>match cs[j]? with|some c=>h.dI c|none=>O
  |none=>O
def Pl.put:(q:Pl)→q.T→be→be
 |.slot t h,x,p=>{p with slots:=rl t (.one (h.inst x)) p.slots}
 |.mP t r,x,p=>{p with slots:=rl t (.agg (dM r x)) p.slots}
 |.cell k j h,x,p=>{p with boxes:=setB k j (h.inst x) p.boxes}
def tx:(l:List Pl)→be→Q (VT l)
 |[],_=>J ()|[q],p=>q.get p|q::a::r,p=>match q.get p,tx (a::r) p with|some x,J y=>J (x,y)|_,_=>O
def cN:(l:List Pl)→VT l→be→be|[],_,b=>b|[q],x,b=>q.put x b|q::a::r,x,b=>q.put x.1 (cN (a::r) x.2 b)
def Pl.gb(t:U):Pl→ao|.slot u _=>t==u|.mP u _=>t==u|_=>I
def Pl.iY(k:Key)(j:U):Pl→ao|.cell q i _=>eX k q&&j==i|_=>I
theorem wn(t u:U)(v:aE):∀(l:List (U×aE)),bZ u (rl t v l)=match u==t with|true=>v|false=>bZ u l
 |[]=>by simp only[rl,bZ]<;>cases u==t<;>rfl
 |(q,x)::r=>by
  simp only[rl];cases h:t==q with|true=>grind [bZ]|false=>simp only[bZ,wn t u v r];grind
def Ow(k q:Key)(j:U)(c:E):∀(l:List (Key×List E)),bP q (setB k j c l)=match eX q k with|true=>(bP q l).map λx=>jQ x j c|false=>bP q l
 |[]=>by simp only[setB,bP];cases eX q k<;>rfl
 |(u,x)::r=>by
  simp only[setB];cases h:eX k u with|true=>grind [jV,bP]|false=>simp only[bP,Ow k q j c r];grind [jV]
def Pl.HX(q:Pl)(x:q.T)(b:be)(t:U)(h:q.gb t=I):bZ t (q.put x b).slots=bZ t b.slots:=by
 cases q with|slot u sh=>simp only[Pl.gb]at h;simp only[Pl.put,wn,h]|mP u sh=>simp only[Pl.gb]at h;simp only[Pl.put,wn,h]|cell k j sh=>rfl
def Pl.Yi{q:Pl}{x:q.T}{p:be}(h:q.get p=J x)(b:be)(t:U)(a:q.gb t=W):aA (bZ t (q.put x b).slots)=aA (bZ t p.slots):=by
 cases q with|slot u sh=>grind [Pl.gb,Pl.get,Pl.put,wn,aA,Sh.kA]|mP u sh=>grind [Pl.gb,Pl.get,Pl.put,wn,aA,jw,Hk]|cell k j sh=>cases a
def Ox{p:be}:∀(l:List Pl)(y:VT l)(b:be),tx l p=J y→∀t,(l.any (Pl.gb t)=W∧aA (bZ t (cN l y b).slots)=aA (bZ t p.slots))∨(l.any (Pl.gb t)=I∧bZ t (cN l y b).slots=bZ t b.slots)
 |[],_,b,_,t=>.inr ⟨rfl,rfl⟩|[q],y,b,h,t=>by
  simp only[List.any_cons,List.any_nil,Bool.or_false];cases a:q.gb t with|true=>exact .inl ⟨rfl,Pl.Yi h b t a⟩|false=>exact .inr ⟨rfl,Pl.HX q y b t a⟩
 |q::c::r,y,b,h,t=>by
  simp only[tx]at h;split at h;rename_i x ys h1 h2;cases h;rw[List.any_cons];cases a:q.gb t with|true=>exact .inl ⟨rfl,Pl.Yi h1 _ t a⟩|false=>simp only[cN];rw[Pl.HX q x _ t a];exact Ox (c::r) ys b h2 t
  cases h
theorem y6:∀(l:List Pl)(y:VT l)(b:be)(t:U),l.any (Pl.gb t)=I→bZ t (cN l y b).slots=bZ t b.slots|[],_,b,t,_=>rfl|[q],y,b,t,h=>Pl.HX q y b t (by simpa using h)|q::a::r,y,b,t,h=>by rw[List.any_cons,py]at h;simp only[cN];rw[Pl.HX q _ _ t h.1];exact y6 (a::r) y.2 b t h.2
def lI(l:List Pl)(k:Key)(R:U→E→Prop)(o o':Q (List E)):Prop:=
 match o,o' with|none,O=>cZ|some a,J cs=>a.length=cs.length∧∀j c,cs[j]?=J c→(l.any (Pl.iY k j)=W∧R j c)∨(l.any (Pl.iY k j)=I∧a[j]?=J c)|_,_=>gT
def lI.step{l:List Pl}{k:Key}{R:U→E→Prop}{q:Pl}{x:q.T}{b a:be}(h:lI l k R (bP k b.boxes) (bP k a.boxes))(m:∀j sh(e:q=.cell k j sh),R j (sh.inst (by subst e;exact x))):lI (q::l) k R (bP k b.boxes) (bP k (q.put x a).boxes):=by
 have other:(∀j,q.iY k j=I)→bP k (q.put x a).boxes=bP k a.boxes→lI (q::l) k R (bP k b.boxes) (bP k (q.put x a).boxes):=by
  intro h1 h2;rw[h2];revert h;cases bP k b.boxes with
  |none=>cases bP k a.boxes<;>exact λh=>h
  |some g=>
   cases bP k a.boxes with|none=>exact λh=>h|some cs=>intro h;refine⟨h.1,λj c d=>?_⟩;rw[List.any_cons,h1 j];exact h.2 j c d
 cases q with
 |slot u sh=>exact other (λ_=>rfl) rfl|mP u sh=>exact other (λ_=>rfl) rfl|cell k' i sh=>
  cases hk:eX k k' with
  |false=>simp_all [Pl.iY,Pl.put,Ow]|true=>
   have e:=(jV k k').1 hk;subst e;simp only[Pl.put,Ow,hk];revert h;cases bP k b.boxes with
   |none=>cases bP k a.boxes<;>exact λh=>h
   |some g=>
    cases bP k a.boxes with|none=>exact λh=>h|some cs=>intro h;simp only[lu];refine⟨by rw[rh];simpa using h.1,λj c d=>?_⟩;rw[rh]at d;rw[List.any_cons];by_cases f:j=i;grind [Pl.iY];rw[List.getElem?_set_ne (Ne.symm f)]at d;have:Pl.iY k j (.cell k i sh)=I:=(by simp[Pl.iY,f]);rw[this];exact h.2 j c d
def Oy(p:be)(k:Key)(j:U)(c:E):Prop:=∃cs c0,bP k p.boxes=J cs∧cs[j]?=J c0∧cE c=cE c0
def Pl.Yj{k:Key}{j:U}{sh:Sh}{p:be}{x:sh.T}(h:(Pl.cell k j sh).get p=J x):Oy p k j (sh.inst x):=by simp only[Pl.get]at h;split at h;rename_i cs a;split at h;rename_i c b;exact⟨cs,c,a,b,Sh.kA h⟩;cases h;cases h
def HY{p:be}(k:Key):∀(l:List Pl)(y:VT l)(b:be),tx l p=J y→lI l k (Oy p k) (bP k b.boxes) (bP k (cN l y b).boxes)
 |[],_,b,_=>by
  simp only[cN,lI];cases bP k b.boxes with|none=>trivial|some d=>grind
 |[q],y,b,h=>by have a:lI [] k (Oy p k) (bP k b.boxes) (bP k b.boxes):=HY k [] () b rfl;exact lI.step a λj sh e=>by subst e;exact Pl.Yj h|q::c::r,y,b,h=>by
  simp only[tx]at h;split at h;rename_i x ys h1 h2;cases h;exact lI.step (HY k (c::r) ys b h2) λj sh e=>by subst e;exact Pl.Yj h1
  cases h
def y7(k:Key):∀(l:List Pl)(y:VT l)(b:be),lI l k (λ_ _=>cZ) (bP k b.boxes) (bP k (cN l y b).boxes)
 |[],_,b=>by
  simp only[cN,lI];cases bP k b.boxes with|none=>trivial|some d=>grind
 |[q],y,b=>by have a:lI [] k (λ_ _=>cZ) (bP k b.boxes) (bP k b.boxes):=y7 k [] () b;exact lI.step a λj sh e=>trivial|q::c::r,y,b=>lI.step (y7 k (c::r) y.2 b) λj sh e=>trivial
def Pl.Yk(q:Pl)(x:q.T)(b:be):(q.put x b).bR=b.bR∧(q.put x b).bQ=b.bQ:=by cases q<;>exact⟨rfl,rfl⟩
theorem wo:∀(l:List Pl)(y:VT l)(b:be),(cN l y b).bR=b.bR∧(cN l y b).bQ=b.bQ|[],_,b=>⟨rfl,rfl⟩|[q],y,b=>Pl.Yk q y b|q::a::r,y,b=>by simp only[cN];let⟨h1,h2⟩:=Pl.Yk q y.1 (cN (a::r) y.2 b);let⟨h3,c⟩:=wo (a::r) y.2 b;grind
structure fV where
 live:List Nat
 fC:List Key
 vs:List Pl
structure fD where
 head:fV
 fE:List (Ex×fV)
 Yl:Option Nat:=none
def ajp:E→ao|.dead=>W|_=>I
def y8(a c:E):ao:=ajp a||(usable a&&usable c)
def HZ:List E→List E→ao|[],[]=>W|a::as,c::cs=>y8 a c&&HZ as cs|_,_=>I
def Oz(v u:aE):ao:=
 match v,u with|.undef,_=>W|.one a,.one c=>y8 a c|.agg as,.agg cs=>HZ as cs|_,_=>I
def wq(l:List Pl)(d:dE)(k:Key):U→List E→List E→ao|_,[],[]=>W|j,a::as,c::cs=>(l.any (Pl.iY k j)||(!part (.box k) j d&&y8 a c))&&wq l d k (j+1) as cs|_,_,_=>I
def base(A:List aE)(a:fV)(h:be):be:={eS (bI A h) a.live a.fC with bQ:=[]}
def ajq(l:List Pl)(d:dE)(p:be)(b:List (U×aE)):ao:=b.all λx=>l.any (Pl.gb x.1)||(!ik (.tmp x.1) d&&Oz x.2 (bZ x.1 p.slots))
def ajr(l:List Pl)(k:Key)(n:U):ao:=(List.range n).all λj=>l.any (Pl.iY k j)
def ajs(l:List Pl)(d:dE)(p:be)(b:List (Key×List E)):ao:=b.all λx=>match bP x.1 p.boxes with|some cs=>(!whole (.box x.1) d||ajr l x.1 x.2.length)&&wq l d x.1 0 x.2 cs|none=>I
def fit(A:List aE)(inb:List Key)(a:fV)(b p:be):Q (VT a.vs):=
 let bk:=b.boxes.map (·.1)
 let c:=eS (bI A p) (p.slots.map (·.1)) bk
 match decide (p.bR=b.bR)&&kR A inb bk&&ajq a.vs p.bQ c b.slots&&ajs a.vs p.bQ c b.boxes with
 |true=>tx a.vs c
 |false=>O
theorem OA{z a c:E}(h:y8 a c=W)(h1:df z a)(h2:df z c):de (cE c) (cE a):=by
 simp only[y8,pw,bG]at h;rcases h with h|⟨h,b⟩
 ·cases a<;>first|(cases h;done)|exact .inr rfl
 rw[X2 h1 h2 h b];exact .inl rfl
def Ym:∀{b as cs:List E},HZ as cs=W→aG df b as→aG df b cs→aG de (aJ cs) (aJ as)|[],[],[],_,_,_=>trivial|z::b,a::as,c::cs,h,h1,h2=>by simp only[HZ,bG]at h;exact⟨OA h.1 h1.1 h2.1,Ym h.2 h1.2 h2.2⟩|[],_::_,_,_,h1,_=>h1.elim|_::_,[],_,_,h1,_=>h1.elim|[],[],_::_,_,_,h2=>h2.elim|_::_,_::_,[],_,_,h2=>h2.elim
theorem ajt{z v u:aE}(h:Oz v u=W)(h1:fK z v)(h2:fK z u):lH (aA u) (aA v):=by
 unfold Oz at h;split at h;cases u<;>trivial;cases z with|one z=>exact OA h h1 h2|_=>exact h1.elim
 cases z with|agg z=>exact Ym h h1 h2|_=>exact h1.elim
 cases h
def Yn{l:List Pl}{d:dE}{k:Key}:∀{as cs:List E}{j:U},wq l d k j as cs=W→as.length=cs.length
 |[],[],_,_=>rfl|a::as,c::cs,j,h=>by simp only[wq,bG]at h;simp[Yn h.2]|[],_::_,_,h=>by cases h
 |_::_,[],_,h=>by cases h
def Yo{l:List Pl}{d:dE}{k:Key}:∀{as cs:List E}{j i:U}{a c:E},wq l d k j as cs=W→as[i]?=J a→cs[i]?=J c→l.any (Pl.iY k (j+i))=W∨(part (.box k) (j+i) d=I∧y8 a c=W)
 |a::as,c::cs,j,0,x,y,h,b,hy=>by simp_all [wq]|a::as,c::cs,j,i+1,x,y,h,b,hy=>by simp only[wq,bG]at h;rw[show j+(i+1)=j+1+i by omega];exact Yo h.2 (by simpa using b) (by simpa using hy)|[],[],_,_,_,_,_,b,_=>by simp at b|[],_::_,_,_,_,_,h,_,_=>by cases h
 |_::_,[],_,_,_,_,h,_,_=>by cases h
def OB{t:U}:∀{l:List (U×aE)},bZ t l=.undef∨∃v,(t,v)∈l∧bZ t l=v
 |[]=>.inl rfl
 |(u,x)::r=>by
  simp only[bZ]
  cases h:t==u with
  |true=>grind
  |false=>rcases OB (t:=t) (l:=r)with h|⟨v,h1,h2⟩
          ·exact .inl h
          grind
def OD{k:Key}:∀{l:List (Key×List E)}{cs:List E},bP k l=J cs→(k,cs)∈l|(u,x)::r,cs,h=>by simp only[bP]at h;split at h;simp_all [jV];exact List.mem_cons_of_mem _ (OD h)
theorem Yp{k:Key}:∀{l:List (Key×List E)},bP k l=O→k ∉ l.map (·.1)|[],_=>by simp|(u,x)::r,h=>by simp only[bP]at h;split at h;cases h;rename_i hk;simp only[List.map_cons,List.mem_cons,not_or];refine⟨λe=>?_,Yp h⟩;grind [jV]
section
variable{K:Ctx}{A:List aE}{inb:List Key}{a:Act}{w:World}
def OE(X:hJ K A inb){d:fV}{h b p:be}{y:VT d.vs}(hk:dF p.bQ (bI A h) (bI A p)) (hs:∀t,d.vs.any (Pl.gb t)=I→fK (bZ t h.slots) (bZ t b.slots)) (hb:∀k u,bP k b.boxes=J u→∃cs,bP k h.boxes=J cs∧cs.length=u.length∧∀j,d.vs.any (Pl.iY k j)=I→∀c,u[j]?=J c→∃c0,cs[j]?=J c0∧df c0 c) (e:fit A inb d b p=J y)(hr:cR K (cU A p) a w):cR K (cU A (cN d.vs y b)) a w:=by
 unfold fit at e;generalize hbk:b.boxes.map (·.1)=bk at e;simp only at e;split at e;rename_i Y;simp only[bG,eh]at Y;let⟨⟨⟨Z,H⟩,h3⟩,h4⟩:=Y;have N:=cR.eS X H (p.slots.map (·.1)) hr;have E:dF p.bQ (bI A h) (bI A (eS (bI A p) (p.slots.map (·.1)) bk)):=dF.trans hk (wj A _ (oW A p) _ _ _);have hfr:(eS (bI A p) (p.slots.map (·.1)) bk).bR=p.bR:=rfl;have n:∀k,bP k b.boxes=O→bP k (eS (bI A p) (p.slots.map (·.1)) bk).boxes=O:=by grind [eS,tw,Yp]
 generalize hp1:eS (bI A p) (p.slots.map (·.1)) bk=p1 at *;have m:=e;refine Rel.y0 X.size N (by grind [wo]) (λt=>?_) λk=>?_;rcases Ox d.vs y b m t with⟨_,h2⟩|⟨h1,h2⟩
 rw[h2];cases hv:bZ t p1.slots with|one c=>exact .inl rfl|agg cs=>exact de.mL _|aX vs=>exact aG.same (R:=λp q:ao×List C=>p.1=q.1∧aG de p.2 q.2) (λp=>⟨rfl,de.mL _⟩) _|undef=>trivial
 rw[h2];rcases OB (t:=t) (l:=b.slots)with o|⟨v,P,hv⟩
 rw[o];trivial;have:=List.all_eq_true.1 h3 (t,v) P;simp only[h1,Bool.false_or,bG,kj]at this;let⟨i,S⟩:=this;have B:=E.1 t i;grind [mM,ajt];have f:=HY k d.vs y b m;cases g:bP k b.boxes with
 |none=>
  rw[g]at f;rw[n k g];cases hi:bP k (cN d.vs y b).boxes with|none=>trivial|some cs=>rw[hi]at f;exact f.elim
 |some u=>
  rw[g]at f;have P:=OD g;have:=List.all_eq_true.1 h4 (k,u) P;simp only at this;cases r:bP k p1.boxes with
  |none=>grind|some cs=>
   rw[r]at this;simp only[bG,pw,kj]at this;let⟨i,S⟩:=this;cases hi:bP k (cN d.vs y b).boxes with
   |none=>rw[hi]at f;exact f.elim|some ds=>
    rw[hi]at f;let⟨f1,f2⟩:=f;have hlen:=Yn S;refine aG.c8 (by simp_all) λj x z T V=>?_;simp only[aJ,List.getElem?_map]at T V;cases F:ds[j]? with
    |none=>grind|some c'=>
     rw[F]at V;cases V;cases s:cs[j]? with
     |none=>grind|some c0=>
      rw[s]at T;cases T;rcases f2 j c' F with⟨_,vE,c1,B,D,e3⟩|⟨B,D⟩
      rw[r]at B;cases B;rw[s]at D;cases D;exact .inl e3;have o:=Yo S D s;rw[uP]at o;rcases o with o|⟨hu1,hu2⟩
      rw[B]at o;cases o;let⟨hs0,q1,q2,q3⟩:=hb k u g;let⟨x0,x1,x2⟩:=q3 j B c' D;have i:whole (.box k) p.bQ=I:=by
       rcases i with i|i
       exact i;have:=List.all_eq_true.1 i j (List.mem_range.2 (List.getElem?_eq_some_iff.1 D).1);grind
      have G:=E.2 k i;rw[jx,jx,q1,r]at G;rcases G with G|⟨as,as',r1,r2,r3,r4⟩
      cases G;grind [OA]
 cases e
theorem H0(a:fV)(h:be)(t:U):fK (bZ t h.slots) (bZ t (base A a h).slots):=by have:=(wj A (bI A h) (oW A h) a.live a.fC []).1 t rfl;rw[mM,mM]at this;exact this
theorem H1(a:fV)(h:be)(k:Key)(bs:List E)(hk:bP k (base A a h).boxes=J bs):∃cs,bP k h.boxes=J cs∧cs.length=bs.length∧∀(j:U)c,bs[j]?=J c→∃c0,cs[j]?=J c0∧df c0 c:=by
 have:=(wj A (bI A h) (oW A h) a.live a.fC []).2 k rfl;rw[jx,jx]at this;have d:bP k (eS (bI A h) a.live a.fC).boxes=J bs:=hk;rw[d]at this;rcases this with h|⟨cs,f,b,g,i,l⟩
 cases h;cases g;cases e:bP k h.boxes with
 |none=>rw[e]at b;cases b
 |some x=>rw[e]at b;cases b;exact⟨_,rfl,i,λj c m=>l j rfl c m⟩
def covers(H a:fV):ao:=H.vs.all λq=>match q with|.slot t _|.mP t _=>a.vs.any (Pl.gb t)|| !a.live.contains t|.cell k j _=>a.vs.any (Pl.iY k j)|| !a.fC.contains k
theorem aju{H a:fV}(h:covers H a=W){t:U}(e:a.vs.any (Pl.gb t)=I)(f:t∈a.live):H.vs.any (Pl.gb t)=I:=by
 cases b:H.vs.any (Pl.gb t)with|false=>rfl|true=>let⟨q,c,d⟩:=List.any_eq_true.1 b;have:=List.all_eq_true.1 h q c;grind [Pl.gb]
theorem ajv{H a:fV}(h:covers H a=W){k:Key}{j:U}(e:a.vs.any (Pl.iY k j)=I)(hk:k∈a.fC):H.vs.any (Pl.iY k j)=I:=by
 cases b:H.vs.any (Pl.iY k j)with|false=>rfl|true=>let⟨q,c,d⟩:=List.any_eq_true.1 b;have:=List.all_eq_true.1 h q c;grind [Pl.iY,jV]
def Yq{a:fV}{h:be}{t:U}(b:t ∉ a.live):bZ t (base A a h).slots=.undef:=by show bZ t (wd (bI A h) a.fC a.live)=_;rw[Cc,aK b]
def ajw{a:fV}{h:be}{k:Key}{bs:List E}(hk:bP k (base A a h).boxes=J bs):k∈a.fC:=by have hk:bP k (wh (bI A h) a.fC a.fC)=J bs:=hk;simp_all [tw]
def ajx(n:hJ K A inb){H b:fV}(C:covers H b=W){h q hx p:be}{x:VT H.vs}{y:VT b.vs}(i:∀t,b.live.contains t=W→bZ t q.slots=bZ t (cN H.vs x h).slots)(d:q.boxes=(cN H.vs x h).boxes) (o:∀t,b.live.contains t=W→fK (bZ t h.slots) (bZ t hx.slots))(l:hx.boxes=h.boxes)(hk:dF p.bQ (bI A q) (bI A p)) (e:fit A inb b (base A b hx) p=J y)(r:cR K (cU A p) a w):cR K (cU A (cN b.vs y (base A b hx))) a w:=by
 refine OE n hk (λt s=>?_) (λk u f=>?_) e r;by_cases v:t∈b.live;grind [y6,aju,fK.trans,H0];rw[Yq v];trivial;have z:=ajw f;let⟨cs,h1,h2,h3⟩:=H1 b hx k u f;rw[l]at h1;have hi:=y7 k H.vs x h;rw[h1]at hi;rw[d];cases g:bP k (cN H.vs x h).boxes with
 |none=>rw[g]at hi;exact hi.elim|some ds=>
  rw[g]at hi;refine⟨ds,rfl,hi.1.symm.trans h2,λj s c m=>?_⟩;let⟨c0,D,E⟩:=h3 j c m;have B:j<ds.length:=by rw[←hi.1];grind
  rcases hi.2 j ds[j] (List.getElem?_eq_getElem B)with⟨f1,_⟩|⟨_,f2⟩
  grind [ajv];grind
def ajy(m:hJ K A inb){H:fV}{h q p:be}{x:VT H.vs}{y:VT H.vs}{d:U}(hd:bZ d h.slots=.undef)(f:∀t,t≠d→bZ t q.slots=bZ t (cN H.vs x h).slots)(b:q.boxes=(cN H.vs x h).boxes)(hk:dF p.bQ (bI A q) (bI A p)) (e:fit A inb H h p=J y)(n:cR K (cU A p) a w):cR K (cU A (cN H.vs y h)) a w:=by
 refine OE m hk (λt i=>?_) (λk u g=>?_) e n;by_cases o:t=d;subst o;rw[hd];trivial;grind [y6,fK.same];have hi:=y7 k H.vs x h;rw[g]at hi;rw[b];cases l:bP k (cN H.vs x h).boxes with
 |none=>rw[l]at hi;exact hi.elim|some ds=>
  rw[l]at hi;refine⟨ds,rfl,hi.1.symm,λj i c r=>?_⟩;have s:j<ds.length:=by rw[←hi.1];grind
  rcases hi.2 j ds[j] (List.getElem?_eq_getElem s)with⟨f1,_⟩|⟨_,f2⟩
  rw[i]at f1;cases f1;simp_all [df.same]
def ajz(g:hJ K A inb){H:fV}{h p:be}{x:VT H.vs}{y:VT H.vs}(hk:dF p.bQ (bI A (cN H.vs x h)) (bI A p)) (b:fit A inb H h p=J y)(i:cR K (cU A p) a w):cR K (cU A (cN H.vs y h)) a w:=by
 refine OE g hk (λt d=>?_) (λk n e=>?_) b i;rw[y6 H.vs x h t d];exact fK.same _;have hi:=y7 k H.vs x h;rw[e]at hi;cases f:bP k (cN H.vs x h).boxes with
 |none=>rw[f]at hi;exact hi.elim|some ds=>
  rw[f]at hi;refine⟨ds,rfl,hi.1.symm,λj d c l=>?_⟩;have m:j<ds.length:=by rw[←hi.1];grind
  rcases hi.2 j ds[j] (List.getElem?_eq_getElem m)with⟨f1,_⟩|⟨_,f2⟩
  rw[d]at f1;cases f1;simp_all [df.same]
end
def dy{σ ρ:Type}(f:σ→Q (σ⊕ρ)):U→σ→Q ρ
 |0,_=>O|n+1,x=>match f x with|some (.inl y)=>dy f n y|some (.inr z)=>J z|none=>O
def fuel:U:=340282366920938463463374607431768211456
def bA{σ ρ:Type}(f:σ→Q (σ⊕ρ))(x:σ):Q ρ:=dy f fuel x
def jy:List (Ex×fV)→Type
 |[]=>bu|e::r=>match r with|[]=>VT e.2.vs|a::r=>VT e.2.vs⊕jy (a::r)
def jy.dflt:(l:List (Ex×fV))→jy l|[]=>()|[e]=>VT.dflt e.2.vs|e::_::_=>.inl (VT.dflt e.2.vs)
def marks:List Pl→dE|[]=>[]|.slot t _::r=>(.tmp t,O)::marks r|.mP t _::r=>(.tmp t,O)::marks r|.cell k j _::r=>(.box k,J (List.replicate j I++[W]))::marks r
def H3(A:List aE)(h:be)(d:dE)(a:fV)(y:VT a.vs):be:={cN a.vs y (base A a h)with bQ:=marks a.vs++d}
def Cj:Ex→Ex→ao|.normal,.normal=>W|.ret,.ret=>W|.exit i,.exit j=>i==j|_,_=>I
def qe(A:List aE)(inb:List Key)(H:fV)(h p:be)(e:Ex):(l:List (Ex×fV))→Q (jy l)
 |[]=>O|[x]=>match Cj e x.1&&covers H x.2 with|true=>fit A inb x.2 (base A x.2 h) p|false=>O
 |x::y::r=>match Cj e x.1 with
  |true=>match covers H x.2 with
   |true=>match fit A inb x.2 (base A x.2 h) p with|some v=>J (.inl v)|none=>O
   |false=>O
  |false=>match qe A inb H h p e (y::r)with|some v=>J (.inr v)|none=>O
def wu(A:List aE)(inb:List Key)(R:fD)(h:be)(x:Ex×be):Tr (VT R.head.vs⊕jy R.fE):=
 match x.1 with
 |.normal=>match fit A inb R.head h x.2 with|some y=>.leaf (.inl y)|none=>.fail
 |e=>match qe A inb R.head h x.2 e R.fE with|some y=>.leaf (.inr y)|none=>.fail
def tz(A:List aE)(h:be)(d:dE):(l:List (Ex×fV))→jy l→Tr (Ex×be)|[],_=>.fail|[x],y=>.leaf (x.1,H3 A h d x.2 y)|x::a::r,s=>.sum s (λy=>.leaf (x.1,H3 A h d x.2 y)) λz=>tz A h d (a::r) z
structure gq where
 cfg:dJ
 keys:List Nat
 fQ:List Key
def nl:Code→U|.seq a b=>nl a+nl b|.cond _ a b=>nl a+nl b|.block _ b=>nl b|.loop b=>nl b+1|.scope b=>nl b|_=>0
def OG(c:Operand)(p:be):Q E:=
 match c with
 |.tmp t=>match bZ t p.slots with|.one c=>J c|_=>O
 |.const (.bool b)=>J (kb b)|_=>O
def kB(d:dE)(x:Ex×be):Ex×be:=(x.1,{x.2 with bQ:=x.2.bQ++d})
def fresh(p:be):be:={p with bQ:=[]}
def tA(F:gq)(b:bv ch)(a:ao)(x:aU×List (List aD×List aD)):Tr (Ex×be):=
 match a with
 |false=>.leaf (.normal,eS x.1 F.keys F.fQ)|true=>match GF b x.2 with|true=>.leaf (.normal,eS x.1 F.keys F.fQ)|false=>.fail
def nK(id:U)(x:Ex×be):Ex×be:=
 match x.1 with
 |.exit i=>match i==id with|true=>(.normal,x.2)|false=>x
 |_=>x
def be.slot(p:be)(t:U)(v:aE):be:={p with slots:=rl t v p.slots}
def H4(it d:U):Md→ao|.aS r _ hv cv _=>hv==0&&cv==0&& !fU r (.tmp it)&& !fU r (.tmp d)|_=>W
def OH(it d:U)(bk:List Key):E→ao
 |.l m _ _=>H4 it d m|.n m _ _=>H4 it d m|.it m _ _ _=>match m with|.aS .. =>I|_=>W
 |.ea .. =>I|.gone _=>I|.ptr k _=>bk.any (eX k)|.cy _ caps=>caps.all λp=>bk.any (eX p.1)|_=>W
def OI(A:List aE)(inb:List Key)(it d:U)(p:be):ao:=kR A inb (p.boxes.map (·.1))&&p.slots.all (λx=>x.2.cells.all (OH it d (p.boxes.map (·.1))))&&p.boxes.all (λx=>x.2.all (OH it d (p.boxes.map (·.1))))
def Ck:Code→Q (U×U×bv ch×List ch)
 |.seq (.region _ a I) _=>match a.toList with
  |o::l=>match o.op,o.dst,o.guard with|.next (.tmp it) I,J d,O=>J (it,d,a,l)|_,_,_=>O
  |[]=>O
 |_=>O
def lJ{σ ρ:Type}(step:List U→U→σ→Q (σ⊕ρ))(last:List U→σ→Q (σ⊕ρ)):List U→List U→σ→Q ρ
 |a,[],x=>match last a x with|some (.inr z)=>J z|_=>O
 |a,i::l,x=>match step a i x with|some (.inl y)=>lJ step last (i::a) l y|some (.inr z)=>J z|none=>O
open Classical in
noncomputable def qf{σ ρ:Type}(n:U)(step:List U→U→σ→Q (σ⊕ρ))(last:List U→σ→Q (σ⊕ρ))(x:σ):Q ρ:=if ∀l:List U,l.Perm (List.range n)→lJ step last [] l x=lJ step last [] (List.range n) x then lJ step last [] (List.range n) x else O
def ajA{σ ρ:Type}{n:U}{step:List U→U→σ→Q (σ⊕ρ)}{last:List U→σ→Q (σ⊕ρ)}{x:σ}{z:ρ}(h:qf n step last x=J z)(l:List U)(a:l.Perm (List.range n)):lJ step last [] l x=J z:=by simp_all [qf]
def Yr{σ ρ:Type}{n:U}{step:List U→U→σ→Q (σ⊕ρ)}{last:List U→σ→Q (σ⊕ρ)}{x:σ}{o:Q ρ}(h:∀l:List U,l.Perm (List.range n)→lJ step last [] l x=o):qf n step last x=o:=by simp_all [qf]
def tB(k v:Ty)(rows:List (k.T×v.T)):Q U→List (ao×List E)|none=>[(I,[.ff])]|some i=>(I,[.tt])::BE k v (rows.getD i (k.zero,v.zero))
def il(k v:Ty)(rows:List (k.T×v.T))(sn:List U):aE:=.one (.it .own (.bB I k v) rows sn)
def kS:Q U→List U→List U|none,l=>l|some i,l=>i::l
def Cl(A:List aE)(inb:List Key)(R:fD)(h hx:be)(x:Ex×be):Tr (VT R.head.vs⊕jy R.fE):=
 match x.1 with
 |.normal=>match fit A inb R.head h x.2 with|some y=>.leaf (.inl y)|none=>.fail
 |e=>match qe A inb R.head hx x.2 e R.fE with|some y=>.leaf (.inr y)|none=>.fail
def ajB(F:gq)(A:List aE)(inb:List Key)(a:bv ch)(l:List ch)(q:be):Tr (Ex×be):=(mO A inb ((qb F.cfg a l (bI A (fresh q))).bind (tA F a I))).map (kB q.bQ)
def OJ(F:gq)(R:fD)(it a d:U)(k v:Ty):ao:=a==it&& !(it==d)&&bw d F.cfg.N&&BF I k v&& !R.head.vs.any (Pl.gb it)&& !R.head.vs.any (Pl.gb d)&& !R.head.live.contains d&&R.fE.all λe=> !e.2.live.contains it&& !e.2.live.contains d
def oZ(F:gq)(A:List aE)(inb:List Key)(R:fD)(h:be)(it d:U)(a:bv ch)(l:List ch)(k v:Ty)(rows:List (k.T×v.T))(rest:be→Tr (Ex×be))(c:Q U)(sn:List U)(x:VT R.head.vs):Tr (VT R.head.vs⊕jy R.fE):=let q:=((cN R.head.vs x h).slot it (il k v rows (kS c sn))).slot d (.aX (tB k v rows c))
 match OI A inb it d q with
 |true=>(ajB F A inb a l q).bind λy=>match y.1 with|.normal=>(rest y.2).bind (Cl A inb R (h.slot it (il k v rows (kS c sn))) (h.slot it .undef))|_=>.fail
 |false=>.fail
noncomputable def eb(F:gq)(A:List aE)(inb:List Key)(tbl:U→Q fD):Code→ao→U→be→Tr (Ex×be)
 |.skip,I,_,p=>.leaf (.normal,p)|.exit id,I,_,p=>.leaf (.exit id,p)|.ret,I,_,p=>.leaf (.ret,p)|.region _ e f,I,_,p=>(mO A inb ((qb F.cfg e e.toList (bI A (fresh p))).bind (tA F e f))).map (kB p.bQ)|.seq a b,I,n,p=>(eb F A inb tbl a I n p).bind λx=>match x.1 with|.normal=>eb F A inb tbl b I (n+nl a) x.2|_=>.leaf x
 |.seq a b,W,n,p=>eb F A inb tbl b I (n+nl a) p|.cond c a b,I,n,p=>match OG c p with|some .tt=>eb F A inb tbl a I n p|some .ff=>eb F A inb tbl b I (n+nl a) p|some (.b x)=>(mO A inb (.br x (eb F A inb tbl a I n (fresh p)) (eb F A inb tbl b I (n+nl a) (fresh p)))).map (kB p.bQ)|_=>.fail
 |.block id b,I,n,p=>(mO A inb ((eb F A inb tbl b I n (fresh p)).map (nK id))).map (kB p.bQ)|.scope b,I,n,p=>eb F A inb tbl b I n p|.loop b,I,n,p=>match tbl n with
  |some R=>
   let h:=base A R.head p;match kR A inb R.head.fC,tx R.head.vs h with
   |true,J m=>match R.Yl with
    |none=>.call (jy.dflt R.fE) (bA (λx=>((eb F A inb tbl b I (n+1) (cN R.head.vs x h)).bind (wu A inb R h)).run) m) (tz A h p.bQ R.fE)|some it=>match Ck b,bZ it h.slots with
     |some (g,d,e,l),.one (.it .own (.bB I k v) rows [])=>match OJ F R it g d k v with|true=>.call (jy.dflt R.fE) (qf (List.length (α:=k.T×v.T) rows) (λj i x=>(oZ F A inb R h it d e l k v rows (eb F A inb tbl b W (n+1)) (J i) j x).run) (λj x=>(oZ F A inb R h it d e l k v rows (eb F A inb tbl b W (n+1)) O j x).run) m) (tz A (h.slot it .undef) p.bQ R.fE)|false=>.fail
     |_,_=>.fail
   |_,_=>.fail
  |none=>.fail
 |_,_,_,_=>.fail
noncomputable def OL(F:gq)(A:List aE)(inb:List Key)(tbl:U→Q fD)(c:Code)(n:U)(p:be):Tr (Ex×be):=eb F A inb tbl c I n p
def all_map{α β:Type}(t:Tr α)(f:α→β)(Q:β→Prop):(t.map f).all Q↔t.all λa=>Q (f a):=by
 induction t with|leaf a=>rfl|fail=>exact rW|br c t e b g=>simp only[Tr.map,Tr.all,b,g]|call d o k h=>simp only[Tr.map,Tr.all,h]|sum o k k' h i=>simp only[Tr.map,Tr.all,h,i]
def all_bind{α β:Type}(t:Tr α)(f:α→Tr β)(Q:β→Prop):(t.bind f).all Q↔t.all λa=>(f a).all Q:=by
 induction t with|leaf a=>rfl|fail=>exact rW|br c t e b g=>simp only[Tr.bind,Tr.all,b,g]|call d o k h=>simp only[Tr.bind,Tr.all,h]|sum o k k' h i=>simp only[Tr.bind,Tr.all,h,i]
def dF.ajC{d l:dE}{s s':aU}(h:dF d s s'):dF (d++l) s s':=by
 refine⟨λt b=>h.1 t ?_,λk hk=>?_⟩;rw[HL,py]at b;exact b.1;rw[On,py]at hk;rcases h.2 k hk.1 with h|⟨cs,a,e,f,g,i⟩
 exact .inl h;refine .inr ⟨cs,a,e,f,g,λj c=>i j ?_⟩;rw[HM,py]at c;exact c.1
def dF.self(A:List aE)(p:be)(d:dE):dF d (bI A p) (bI A p):=dF.c8 (oW A p) (λ_ _ _=>rfl) λk _ _=>nJ.same (oW A p k)
def dZ.self(A:List aE)(p:be)(e:Ex):dZ (bI A p) A (e,p):=⟨⟨[],rfl⟩,dF.self A p _⟩
def dZ.kB{A:List aE}{p:be}{x:Ex×be}(h:dZ (bI A (fresh p)) A x):dZ (bI A p) A (Ve.kB p.bQ x):=⟨⟨x.2.bQ,rfl⟩,dF.ajC (l:=p.bQ) h.2⟩
theorem dZ.trans{A:List aE}{p a:be}{e:Ex}{x:Ex×be}(h:dZ (bI A p) A (e,a))(g:dZ (bI A a) A x):dZ (bI A p) A x:=by let⟨⟨c,d⟩,k1⟩:=h;let⟨⟨f,b⟩,k2⟩:=g;have b:x.2.bQ=f++a.bQ:=b;have d:a.bQ=c++p.bQ:=d;refine⟨⟨f++c,by grind⟩,dF.trans ?_ k2⟩;rw[b];exact k1.more
theorem dZ.nK{s:aU}{A:List aE}{id:Nat}{x:Ex×be}(h:dZ s A x):dZ s A (Ve.nK id x):=by unfold Ve.nK;split;split;exact h;exact h;exact h
def ajD{l:List Pl}{d:dE}{t:Nat}(h:ik (.tmp t) (marks l++d)=I):l.any (Pl.gb t)=I:=by
 rw[HL,py]at h;let⟨h,_⟩:=h;induction l with
 |nil=>rfl|cons q l a=>
  cases q with|slot u _=>have h:(t==u||ik (.tmp t) (marks l))=I:=h;simp_all [Pl.gb]|mP u _=>have h:(t==u||ik (.tmp t) (marks l))=I:=h;simp_all [Pl.gb]|cell k j _=>grind [ik,marks,Pl.gb]
def ajE{l:List Pl}{d:dE}{k:Key}{j:Nat}(h:part (.box k) j (marks l++d)=I):l.any (Pl.iY k j)=I:=by
 rw[HM,py]at h;let⟨h,_⟩:=h;induction l with
 |nil=>rfl|cons q l a=>
  cases q with|slot u _=>grind [part,marks,Pl.iY]|mP u _=>grind [part,marks,Pl.iY]|cell k' i _=>have h:((eX k k'&&(List.replicate i I++[W]).getD j I)||part (.box k) j (marks l))=I:=h;rw[py]at h;grind [Pl.iY]
def Ys(A:List aE)(a:fV)(p h:be)(s:∀t,fK (bZ t p.slots) (bZ t h.slots))(i:∀k b,bP k h.boxes=J b→∃cs,bP k p.boxes=J cs∧cs.length=b.length∧∀(j:Nat)c,b[j]?=J c→∃c0,cs[j]?=J c0∧df c0 c)(y:VT a.vs)(e:Ex):dZ (bI A p) A (e,H3 A h p.bQ a y):=by
 refine⟨⟨marks a.vs,rfl⟩,λt m=>?_,λk hk=>?_⟩;rw[mM,mM];have f:=ajD (l:=a.vs) (d:=p.bQ) m;show fK (bZ t p.slots) (bZ t (cN a.vs y (base A a h)).slots);grind [y6,fK.trans,H0];rw[jx,jx];show nJ k (marks a.vs++p.bQ) (match bP k p.boxes with|some cs=>.agg cs|none=>.undef) (match bP k (cN a.vs y (base A a h)).boxes with|some cs=>.agg cs|none=>.undef)
 have hi:=y7 k a.vs y (base A a h);cases h2:bP k (base A a h).boxes with
 |none=>
  rw[h2]at hi;cases h3:bP k (cN a.vs y (base A a h)).boxes with|none=>exact .inl rfl|some ds=>rw[h3]at hi;exact hi.elim
 |some b=>
  rw[h2]at hi;cases h3:bP k (cN a.vs y (base A a h)).boxes with
  |none=>rw[h3]at hi;exact hi.elim|some ds=>
   rw[h3]at hi;let⟨cs,f1,f2,f3⟩:=H1 a _ k b h2;let⟨as,n,o,u⟩:=i k cs f1;rw[n];refine .inr ⟨as,ds,rfl,rfl,by rw[o,f2];exact hi.1,λj q c r=>?_⟩;have f:=ajE (l:=a.vs) (d:=p.bQ) q;rcases hi.2 j c r with⟨g,_⟩|⟨_,v⟩
   rw[f]at g;cases g;grind [df.trans]
theorem OM(A:List aE)(p h:be)(a:∀t,fK (bZ t p.slots) (bZ t h.slots))(b:∀k d,bP k h.boxes=J d→∃cs,bP k p.boxes=J cs∧cs.length=d.length∧∀(j:Nat)c,d[j]?=J c→∃c0,cs[j]?=J c0∧df c0 c):∀(l:List (Ex×fV))(z:jy l),(tz A h p.bQ l z).each (dZ (bI A p) A)|[],_=>trivial|[x],y=>Ys A x.2 p h a b y x.1|x::e::r,_=>⟨λy=>Ys A x.2 p h a b y x.1,λz=>OM A p h a b (e::r) z⟩
theorem ww(p:be)(it t:Nat)(v:aE):bZ t (p.slot it v).slots=match t==it with|true=>v|false=>bZ t p.slots:=wn it t v p.slots
section
variable{K:Ctx}{F:gq}{A:List aE}{inb:List Key}{tbl:Nat→Option fD}
def Yt(c:hJ K A inb)(b:bv ch)(l:List ch)(a:ao)(p:be):((mO A inb ((qb F.cfg b l (bI A (fresh p))).bind (tA F b a))).map (kB p.bQ)).each (dZ (bI A p) A):=by
 rw[Tr.jU];refine Tr.fJ (λx d=>dZ.kB d) (y5 c _ ?_).1;rw[Tr.jk];refine Tr.fJ ?_ (HO F.cfg b l (bI A (fresh p)) (oW A (fresh p)));rintro ⟨s,e⟩ ⟨f,h,l,g,hk⟩;have leaf:dZ (bI A (fresh p)) A (.normal,eS s F.keys F.fQ):=⟨⟨l,g⟩,dF.trans hk (wj A s f _ _ _)⟩;unfold tA;cases a with|false=>exact leaf|true=>simp only;split;exact leaf;trivial
def y9(j:hJ K A inb):∀(c:Code)(tail:ao)(n:Nat)(p:be),(eb F A inb tbl c tail n p).each (dZ (bI A p) A):=by
 intro c;induction c with
 |skip=>intro tail n p;cases tail;exact dZ.self A p _;trivial
 |exit id=>intro tail n p;cases tail;exact dZ.self A p _;trivial
 |ret=>intro tail n p;cases tail;exact dZ.self A p _;trivial
 |region id l g=>intro tail n p;cases tail;exact Yt j l _ g p;trivial
 |seq a b d f=>
  intro tail n p;cases tail;simp only[eb];rw[Tr.jk];refine Tr.fJ ?_ (d I n p);rintro ⟨e,s⟩ h;cases e with|normal=>grind [Tr.fJ,dZ.trans]|exit i=>exact h|ret=>exact h
  exact f I _ p
 |cond c a b d f=>intro tail n p;cases tail;simp only[eb];split;exact d I n p;exact f I _ p;rename_i x _;rw[Tr.jU];exact Tr.fJ (λx m=>dZ.kB m) (y5 j (.br x (eb F A inb tbl a I n (fresh p)) (eb F A inb tbl b I (n+nl a) (fresh p))) ⟨d I n (fresh p),f I _ (fresh p)⟩).1;trivial;trivial
 |block id b o=>intro tail n p;cases tail;simp only[eb];rw[Tr.jU];refine Tr.fJ (λx m=>dZ.kB m) (y5 j _ ?_).1;grind [Tr.jU,Tr.fJ,dZ.nK];trivial
 |scope b o=>intro tail n p;cases tail;exact o I n p;trivial
 |loop b o=>intro tail n p;cases tail;simp only[eb];split;rename_i R _;split;split;intro z;grind [OM,H0,H1];rename_i it _;split;split;intro z;refine OM A p ((base A R.head p).slot it .undef) (λt=>?_) (λk r q=>H1 R.head p k r q) _ z;rw[ww];split;trivial;exact H0 R.head p t;trivial;trivial;trivial;trivial;trivial
 |_=>intro tail n p;cases tail<;>exact trivial
def iZ(K:Ctx)(A:List aE)(Q:Ex×be→Prop)(e:Exit)(a:Act)(w:bD):Prop:=∃x,e=sD x.1∧Q x∧cR K (cU A x.2) a w
def iZ.reach{Q:Ex×be→Prop}{e:Exit}{a:Act}{w:bD}(h:iZ K A (Reach K A Q) e a w):iZ K A Q e a w:=by obtain⟨x,rfl,h1,h2⟩:=h;let⟨y,b,c,d⟩:=h1 a w h2;exact⟨y,b,c,d⟩
def ajF{σ ρ:Type}{f:σ→Option (σ⊕ρ)}{n:Nat}{x:σ}{z:ρ}(h:dy f (n+1) x=J z):(∃y,f x=J (.inl y)∧dy f n y=J z)∨f x=J (.inr z):=by grind [dy]
def Yu(D:hJ K A inb){H:fV}{h q hx p:be}{x:VT H.vs}{e:Ex}{d:dE}{a:Act}{w:bD}(g:Nat→Prop)(i:∀t,g t→bZ t q.slots=bZ t (cN H.vs x h).slots)(k:q.boxes=(cN H.vs x h).boxes) (n:∀t,g t→fK (bZ t h.slots) (bZ t hx.slots))(o:hx.boxes=h.boxes)(hk:dF p.bQ (bI A q) (bI A p))(E:cR K (cU A p) a w):∀(l:List (Ex×fV))(z:jy l),(∀y∈l,∀t,y.2.live.contains t=W→g t)→qe A inb H hx p e l=J z→∀Q,(tz A hx d l z).all Q→∃q',Q (e,q')∧cR K (cU A q') a w:=by
 have c:∀{e e':Ex},Cj e e'=W→e=e':=by intro e e' h;cases e<;>cases e'<;>first|rfl|(simp[Cj]at h;done)|(simp[Cj]at h;rw[h])
 intro l;induction l with
 |nil=>intro z _ b;cases b
 |cons y r F=>
  intro z m b Q s;have C:=m y (List.mem_cons_self ..);have f:∀{v:VT y.2.vs},covers H y.2=W→fit A inb y.2 (base A y.2 hx) p=J v→cR K (cU A (H3 A hx d y.2 v)) a w:=λj hv=>ajx D j (λt u=>i t (C t u)) k (λt u=>n t (C t u)) o hk hv E;cases r with
  |nil=>simp only[qe]at b;split at b;rename_i j;simp only[bG]at j;have:=c j.1;subst this;exact⟨_,s,f j.2 b⟩;cases b
  |cons G r=>simp only[qe]at b;split at b;rename_i j;have:=c j;subst this;split at b;rename_i B;split at b;rename_i v hv;cases b;exact⟨_,s.1 v rfl,f B hv⟩;cases b;cases b;split at b;rename_i v hv;cases b;exact F v (λy hy=>m y (List.mem_cons_of_mem _ hy)) hv Q (s.2 v rfl);cases b
def ajG(b:hJ K A inb){H:fV}{h p:be}{x:VT H.vs}{e:Ex}{d:dE}{a:Act}{w:bD}(hk:dF p.bQ (bI A (cN H.vs x h)) (bI A p))(c:cR K (cU A p) a w)(l:List (Ex×fV))(z:jy l)(f:qe A inb H h p e l=J z):∀Q,(tz A h d l z).all Q→∃q,Q (e,q)∧cR K (cU A q) a w:=Yu b (λ_=>cZ) (λ_ _=>rfl) rfl (λ_ _=>fK.same _) rfl hk c l z (λ_ _ _ _=>trivial) f
def Yv(n:hJ K A inb)(o:kR A inb F.fQ=W){b:bv ch}{l:List ch}{d:ao}{p:be}{Q:Ex×be→Prop}(h:((mO A inb ((qb F.cfg b l (bI A (fresh p))).bind (tA F b d))).map (kB p.bQ)).all Q):∃s f e,vM F.cfg.c b l (cQ (bI A (fresh p)))=J (cQ s,e)∧oU e f∧s.args=A∧(d=W→GF b f=W)∧∀a w,Vs.Good K (cQ s) a w→∃y:Ex×be,Ex.normal=y.1∧Q y∧cR K (cU A y.2) a w:=by
 let⟨q,r⟩:=n.bk o;rw[all_map]at h;have i:((qb F.cfg b l (bI A (fresh p))).bind (tA F b d)).each (dZ (bI A (fresh p)) A):=by
  rw[Tr.jk];refine Tr.fJ ?_ (HO F.cfg b l (bI A (fresh p)) (oW A (fresh p)));rintro ⟨s,f⟩ ⟨v,E,l,z,hk⟩;have leaf:dZ (bI A (fresh p)) A (.normal,eS s F.keys F.fQ):=⟨⟨l,z⟩,dF.trans hk (wj A s v _ _ _)⟩;unfold tA;cases d with|false=>exact leaf|true=>simp only;split;exact leaf;trivial
 have h1:=(y5 n _ i).2 _ h;rw[all_bind]at h1;have h2:=Tr.rf (Tr.rf h1 (XV F.cfg b l (bI A (fresh p)))) (Tr.sZ (HO F.cfg b l (bI A (fresh p)) (oW A (fresh p))));let⟨⟨s,f⟩,_,⟨h3,k⟩,t⟩:=(Tr.yR _ _).1 h2;simp only at h3 k t;let⟨e,k,j⟩:=k;have g:(d=W→GF b f=W)∧Reach K A (λx=>Q (kB p.bQ x)) (.normal,eS s F.keys F.fQ):=by
  unfold tA at h3;cases d with|false=>exact⟨λh=>(by cases h),h3⟩|true=>simp only at h3;split at h3;rename_i hd;exact⟨λ_=>hd,h3⟩;exact h3.elim
 refine⟨s,f,e,k,j,t.2.1,g.1,λB w' u=>?_⟩;let⟨y,m,C,D⟩:=g.2 B w' (Ol t.2.1 n.size q r u);refine⟨kB p.bQ y,?_,C,D⟩;have m:sD .normal=sD y.1:=m;show Ex.normal=y.1;cases hy:y.1<;>rw[hy]at m<;>first|rfl|cases m
def ON(P:dr):Code→ao→(Exit→Act→bD→Prop)→Act→bD→Prop|c,I,d,a,w=>c.wp P d a w|.seq _ b,W,d,a,w=>b.wp P d a w|_,W,_,_,_=>cZ
end
theorem Yw(v:SV):lH v v:=by
 cases v with|one c=>exact .inl rfl|agg cs=>exact de.mL _|aX vs=>exact aG.same (R:=λp q:ao×List C=>p.1=q.1∧aG de p.2 q.2) (λp=>⟨rfl,de.mL _⟩) _|undef=>trivial
theorem cR.c8{K:Ctx}{A:List aE}{a:Act}{w:World}{p b:be}(c:K.argv.size=A.length)(h:cR K (cU A p) a w)(d:b.bR=p.bR)(e:∀t,bZ t b.slots=bZ t p.slots)(f:b.boxes=p.boxes):cR K (cU A b) a w:=by
 refine Rel.y0 c h d (λt=>by rw[e];exact Yw _) λk=>?_;rw[f];cases bP k p.boxes with|none=>trivial|some cs=>exact de.mL _
def Yx(q:Pl)(x:q.T)(b a:be)(it:Nat)(v:aE)(c:q.gb it=I)(h1:∀t,bZ t a.slots=match t==it with|true=>v|false=>bZ t b.slots)(h2:a.boxes=b.boxes):(∀t,bZ t (q.put x a).slots=match t==it with|true=>v|false=>bZ t (q.put x b).slots)∧(q.put x a).boxes=(q.put x b).boxes:=by
 have set:∀(u:Nat)(y:aE),(it==u)=I→∀t,bZ t (rl u y a.slots)=match t==it with|true=>v|false=>bZ t (rl u y b.slots):=by grind [wn]
 cases q with|slot u h=>exact⟨set u _ c,h2⟩|mP u r=>exact⟨set u _ c,h2⟩|cell k j h=>exact⟨h1,by show setB k j _ a.boxes=setB k j _ b.boxes;rw[h2]⟩
def H6(it:Nat)(v:aE):∀(l:List Pl)(y:VT l)(b:be),l.any (Pl.gb it)=I→(∀t,bZ t (cN l y (b.slot it v)).slots=match t==it with|true=>v|false=>bZ t (cN l y b).slots)∧(cN l y (b.slot it v)).boxes=(cN l y b).boxes|[],_,b,_=>⟨λt=>ww b it t v,rfl⟩|[q],y,b,h=>Yx q y b (b.slot it v) it v (by simpa using h) (λt=>ww b it t v) rfl|q::a::r,y,b,h=>by rw[List.any_cons,py]at h;let⟨h1,h2⟩:=H6 it v (a::r) y.2 b h.2;exact Yx q y.1 _ _ it v h.1 h1 h2
theorem Yy{s:aU}{it d:Nat}{bk:List Key}{c:E}(a:OH it d bk c=W)(b:∀r,fU r (.tmp it)=I→fU r (.tmp d)=I→(s.get r).hv=0∧(s.get r).cv=0):iG s bk c=c:=by
 have aS:∀{r:aD}{j hv cv k:Nat},H4 it d (.aS r j hv cv k)=W→hv=0∧cv=0∧((s.get r).hv==hv&&(s.get r).cv==cv)=W:=by simp_all [H4]
 cases c with
 |l m t xs=>
  cases m with
  |aS r j hv cv k=>let⟨h1,h2,h3⟩:=aS (j:=j) (k:=k) a;grind [iG]
  |_=>rfl
 |n m t o=>
  cases m with
  |aS r j hv cv k=>let⟨h1,h2,h3⟩:=aS (j:=j) (k:=k) a;grind [iG]
  |_=>rfl
 |it m t xs e=>cases m<;>first|rfl|cases a
 |ptr k off=>have:bk.any (eX k)=W:=a;simp only[iG,this]|cy f caps=>have:caps.all (λp=>bk.any (eX p.1))=W:=a;simp only[iG,this]|ea=>cases a
 |gone=>cases a
 |_=>rfl
theorem H7{α:Type}{f:α→α}:∀{l:List α},(∀x∈l,f x=x)→l.map f=l|[],_=>rfl|x::l,h=>by rw[List.map_cons,h x (List.mem_cons_self ..),H7 λy hy=>h y (List.mem_cons_of_mem _ hy)]
theorem ajH{s:aU}{bk:List Key}{v:aE}(h:∀c∈v.cells,iG s bk c=c):tu s bk v=v:=by
 cases v with|one c=>simp only[tu,h c (by simp[aE.cells])]|agg cs=>show aE.agg (cs.map _)=_;rw[H7 (l:=cs) h]|aX vs=>grind [tu,H7,aE.cells]|undef=>rfl
def Yz(A:List aE)(p:be)(r:aD):((bI A p).get r).hv=0∧((bI A p).get r).cv=0:=by
 cases r with|tmp t=>grind [mM]|box k=>grind [jx]|arg i=>exact⟨rfl,rfl⟩
section
variable{K:Ctx}{F:gq}{A:List aE}{inb:List Key}{tbl:Nat→Option fD}{a:Act}{w:World}
def kU(A:List aE)(p:be)(it d n1 n2 a m2:Nat)(b v:aE):aU:=((bI A p).put (.tmp it) {hv:=n1,cv:=n2,v:=b}).put (.tmp d) {hv:=a,cv:=m2,v:=v}
def ajI(f:hJ K A inb){p q:be}{it d n1 n2 c m2:Nat}{b v:aE}(y:∀t,bZ t q.slots=match t==d with|true=>v|false=>match t==it with|true=>b|false=>bZ t p.slots)(n:q.boxes=p.boxes)(g:q.bR=p.bR)(j:OI A inb it d q=W) (o:Vs.Good K (cQ (kU A p it d n1 n2 c m2 b v)) a w):cR K (cU A q) a w:=by
 simp only[OI,bG]at j;let⟨⟨c1,z⟩,B⟩:=j;let⟨f1,f2⟩:=f.bk c1;have m:∀r,(kU A p it d n1 n2 c m2 b v).get r=if r=.tmp d then{hv:=c,cv:=m2,v:=v}else if r=.tmp it then{hv:=n1,cv:=n2,v:=b}else(bI A p).get r:=by intro r;unfold kU;rw[yT _ _ rfl,yT _ _ rfl]
 have C:∀r,fU r (.tmp it)=I→fU r (.tmp d)=I→((kU A p it d n1 n2 c m2 b v).get r).hv=0∧((kU A p it d n1 n2 c m2 b v).get r).cv=0:=by simp_all [HN,Yz]
 have e:∀t,((kU A p it d n1 n2 c m2 b v).get (.tmp t)).v=bZ t q.slots:=by grind [mM]
 have h1:=Ol (s:=kU A p it d n1 n2 c m2 b v) (keys:=q.slots.map (·.1)) (bk:=q.boxes.map (·.1)) rfl f.size f1 f2 o;refine Rel.y0 f.size h1 g (λt=>?_) λk=>?_;show lH (aA (bZ t (wd (kU A p it d n1 n2 c m2 b v) (q.boxes.map (·.1)) (q.slots.map (·.1))))) _;rw[Cc,e];rcases OB (t:=t) (l:=q.slots)with u|⟨D,x,hv⟩
 rw[u];trivial;grind [ajH,Yw,Yy];show match bP k (wh (kU A p it d n1 n2 c m2 b v) (q.boxes.map (·.1)) (q.boxes.map (·.1))),bP k q.boxes with|some cs,J h=>aG de (aJ cs) (aJ h)|none,O=>cZ|_,_=>gT
 have i:(kU A p it d n1 n2 c m2 b v).get (.box k)=(bI A p).get (.box k):=by grind
 rw[tw,i,jx,←n];cases hk:bP k q.boxes with|none=>simp|some cs=>have x:=OD hk;grind [H7,Yy,de.mL]
def ajJ{b:Code}{it d:Nat}{a:bv ch}{l:List ch}(h:Ck b=J (it,d,a,l)):∃id rest o,b=.seq (.region id a I) rest∧a.toList=o::l∧o.op=.next (.tmp it) I∧o.dst=J d∧o.guard=O:=by unfold Ck at h;grind
def tC(n:Nat)(sn:List Nat):Option Nat→Prop|none=>∀i,i<n→i∈sn|some i=>i<n∧i ∉ sn
def YA{n:Nat}{l:List Nat}(b:l.Nodup)(h:∀a,a∈l↔a<n):l.Perm (List.range n):=(List.perm_ext_iff_of_nodup b List.nodup_range).2 λa=>by grind
def ajK{n i:Nat}{sn:List Nat}(a:sn.Nodup)(b:∀j∈sn,j<n)(hi:i<n)(c:i ∉ sn):∃d,(sn.reverse++i::d).Perm (List.range n):=by refine⟨(List.range n).filter λj=> !(i::sn).contains j,YA ?_ ?_⟩;grind [List.nodup_range];grind
end
section
variable{K:Ctx}{F:gq}{A:List aE}{inb:List Key}{tbl:Nat→Option fD}{a:Act}{w:World}
def ajL(hC:lD K.P F.cfg.c)(hN:K.N=F.cfg.N)(hF:hJ K A inb)(hbk:kR A inb F.fQ=W) {b:Code}{n:Nat}{R:fD}{hd:be}{it d:Nat}{f:bv ch}{l:List ch}{k v:Ty}{rows:List (k.T×v.T)} (ih:∀(tail:ao)(n:Nat)(p:be)(Q:Ex×be→Prop)(a:Act)(w:World),(eb F A inb tbl b tail n p).all Q→cR K (cU A p) a w→ON K.P b tail (iZ K A Q) a w) (hh:Ck b=J (it,d,f,l))(YB:(it==d)=I)(hlt:d<F.cfg.N)(hent:BF I k v=W)(hvit:R.head.vs.any (Pl.gb it)=I) {sn:List Nat}{x:VT R.head.vs} (hrun:∀c,tC rows.length sn c→∃o,(oZ F A inb R hd it d f l k v rows (eb F A inb tbl b W (n+1)) c sn x).run=J o) (hp:cR K (cU A (cN R.head.vs x (hd.slot it (il k v rows sn)))) a w):
  b.wp K.P (λe g w'=>∃c,tC rows.length sn c∧∃o,(oZ F A inb R hd it d f l k v rows (eb F A inb tbl b W (n+1)) c sn x).run=J o∧
    iZ K A (λy=>(Cl A inb R (hd.slot it (il k v rows (kS c sn))) (hd.slot it .undef) y).all (λu=>u=o)∧dZ (bI A (((cN R.head.vs x hd).slot it (il k v rows (kS c sn))).slot d (.aX (tB k v rows c)))) A y) e g w') a w:=by
 obtain⟨id,rest,o,rfl,E,hop,G,hgd⟩:=ajJ hh
 let⟨j,m⟩:=H6 it (il k v rows sn) R.head.vs x hd hvit
 generalize hpp:cN R.head.vs x (hd.slot it (il k v rows sn))=p at hp j m
 have hfz:p.bR=hd.bR:=by rw[←hpp];exact(wo _ _ _).1
 have YC:(d==it)=I:=by grind
 have H:∀i,i<l.length→f[1+i]?=l[i]? :=by intro i _;rw[←oc,E,Nat.add_comm];rfl
 have z:f[0]?=J o:=by rw[←oc,E];rfl
 generalize hQF:(λe g w'=>∃c,tC rows.length sn c∧∃o,(oZ F A inb R hd it d f l k v rows (eb F A inb tbl (.seq (.region id f I) rest) W (n+1)) c sn x).run=J o∧
  iZ K A (λy=>(Cl A inb R (hd.slot it (il k v rows (kS c sn))) (hd.slot it .undef) y).all (λu=>u=o)∧dZ (bI A (((cN R.head.vs x hd).slot it (il k v rows (kS c sn))).slot d (.aX (tB k v rows c)))) A y) e g w')=QF
 have go:∀c,tC rows.length sn c→∀(n1 n2 m1 m2:Nat)(g:Act)(w':World),Vs.Good K (cQ (kU A p it d n1 n2 m1 m2 (il k v rows (kS c sn)) (.aX (tB k v rows c)))) g w'→
   wpOps K.P f (Exit.then (rest.wp K.P QF) QF) (List.range' 1 l.length) g w':=by
  intro c hc n1 n2 m1 m2 g w' hg
  let⟨u,S⟩:=hrun c hc
  generalize hq:((cN R.head.vs x hd).slot it (il k v rows (kS c sn))).slot d (.aX (tB k v rows c))=q
  have YD:=S
  unfold oZ at S
  rw[hq]at S
  simp only at S
  split at S
  rename_i V
  have Mn:cR K (cU A q) g w':=by refine ajI hF (λt=>?_) ?_ ?_ V hg;grind [ww];rw[←hq];exact m.symm;rw[←hq,hfz];exact(wo _ _ _).1
  have h1:=(Tr.yR _ (λv=>v=u)).2 ⟨u,S,rfl⟩
  rw[all_bind]at h1
  have h2:=Tr.rf h1 (Tr.sZ (Yt hF f l I q))
  let⟨s,Bq,ajO,h4,hsub,hargs,bU,hend⟩:=Yv hF hbk h2
  let⟨e1,_⟩:=VV F.cfg.c f _ _ _ _ h4
  have C:Vs.Good K (cQ (bI A (fresh q))) g w':=by rw[Cb];exact Mn.1
  refine VS hC hN l 1 _ _ g w' H e1 C λa1 w1 H8=>?_
  let⟨⟨ex,y⟩,g1,⟨g2,g3⟩,g4⟩:=hend a1 w1 H8
  have g1:Ex.normal=ex:=g1
  subst g1
  simp only at g2
  rw[all_bind]at g2
  have:=ih W (n+1) y _ a1 w1 (Tr.rf g2 (Tr.sZ (y9 (tbl:=tbl) hF (.seq (.region id f I) rest) W (n+1) y))) g4
  refine wp_mono this ?_
  rw[←hQF]
  rintro e a2 w2 ⟨y2,rfl,⟨q1,q2⟩,q3⟩
  exact⟨c,hc,u,YD,y2,rfl,⟨q1,by rw[hq];exact dZ.trans g3 q2⟩,q3⟩
  cases S
 refine wp_seq (wp_region ?_)
 have hsz:f.size=l.length+1:=by grind [Array.length_toList]
 rw[hsz,List.range_eq_range']
 show wpOps K.P f _ (0::List.range' 1 l.length) a w
 rw[wpOps_cons]
 have X:=hp.1
 let⟨β,ω,Z,hr⟩:=X
 rw[←Cb]at hr
 have hv:(bI A p).get (.tmp it)={v:=il k v rows sn}:=by rw[mM,j];simp
 have B:cQ (bI A p) (.tmp it)={hv:=0,cv:=0,v:=.one (.own mg [[.sl (Ty.bB I k v).e (rows.map (aP (.bB I k v)))],kn sn])}:=by show bV _=_;rw[hv];rfl
 have h1:(dc (.tmp it)).exec (cQ (bI A p))=J (.aS (.tmp it) 0 0 0 mg 0 [[.sl (Ty.bB I k v).e (rows.map (aP (.bB I k v)))],kn sn],cQ (bI A p)):=by simp only[dc,ev,bind_eq,Prog.bind,Prog.exec,B,RV.copy,yc,mj]
 have Mh:(cQ (bI A p) (.tmp it)).at 0=.own mg [[.sl (Ty.bB I k v).e (rows.map (aP (.bB I k v)))],kn sn]:=by rw[B];rfl
 have D:(cQ (bI A p) (.tmp d)).hv=0∧(cQ (bI A p) (.tmp d)).cv=0:=Yz A p (.tmp d)
 rcases Gu (dst:=d) hr hop h1 (by rw[B]) rfl aiP Mh with⟨hall,hy⟩|⟨i,hi,hni,hy⟩
 refine VQ (cfg:=F.cfg.c) hN z hgd G hlt hy λg w' C=>go O (by simpa[tC]using hall) 0 0 1 0 g w' ?_
 have e:cQ (kU A p it d 0 0 1 0 (il k v rows (kS O sn)) (.aX (tB k v rows O)))=(cQ (bI A p)).set (.tmp d) {hv:=(cQ (bI A p) (.tmp d)).hv+1,cv:=(cQ (bI A p) (.tmp d)).cv,v:=.aX [(I,[.d (.bool I)])]}:=by unfold kU;rw[yU _ _ rfl,yU _ _ rfl];funext r;simp only[St.set];by_cases h:r=.tmp d;rw[ax h,ax h,D.1,D.2];rfl;rw[aK h,aK h];by_cases Y:r=.tmp it;rw[ax Y,Y,B];rfl;rw[aK Y]
 rw[e]
 exact C
 refine VQ (cfg:=F.cfg.c) hN z hgd G hlt hy λg w' C=>go (J i) ⟨by simpa using hi,hni⟩ 0 1 1 0 g w' ?_
 have e:cQ (kU A p it d 0 1 1 0 (il k v rows (kS (J i) sn)) (.aX (tB k v rows (J i))))=((cQ (bI A p)).set (.tmp it) {(cQ (bI A p) (.tmp it))with cv:=(cQ (bI A p) (.tmp it)).cv+1,v:=(cQ (bI A p) (.tmp it)).v.setCell 0 (.own mg [[.sl (Ty.bB I k v).e (rows.map (aP (.bB I k v)))],kn (i::sn)])}).set (.tmp d) {hv:=(cQ (bI A p) (.tmp d)).hv+1,cv:=(cQ (bI A p) (.tmp d)).cv,v:=.aX ((I,[.d (.bool W)])::oz (Ty.bB I k v).e ((rows.map (aP (.bB I k v))).getD i []))}:=by unfold kU;rw[yU _ _ rfl,yU _ _ rfl];funext r;simp only[St.set];by_cases h:r=.tmp d;rw[ax h,ax h,D.1,D.2,aiR (t:=.bB I k v) rows i (k.zero,v.zero) (by simpa using hi),←XT hent];rfl;rw[aK h,aK h];by_cases Y:r=.tmp it;rw[ax Y,ax Y,B];rfl;grind
 simp_all [St.set]
end
section
variable{K:Ctx}{F:gq}{A:List aE}{inb:List Key}{tbl:Nat→Option fD}{a:Act}{w:World}
def ajP{A:List aE}{inb:List Key}{R:fD}{hx p:be}{b:Ex}{o:VT R.head.vs⊕jy R.fE}{h:be}(c:b≠.normal)(d:(Cl A inb R h hx (b,p)).all (λu=>u=o)):∃z,o=.inr z∧qe A inb R.head hx p b R.fE=J z:=by
 have a:(match qe A inb R.head hx p b R.fE with|some y=>Tr.leaf (kJ y)|none=>Tr.fail:Tr (VT R.head.vs⊕jy R.fE)).all (λv=>v=o):=by
  cases b with|normal=>exact bX rfl c|_=>exact d
 split at a;rename_i f e;exact⟨f,a.symm,e⟩;exact a.elim
def ajQ(hC:lD K.P F.cfg.c)(hN:K.N=F.cfg.N)(hF:hJ K A inb)(hbk:kR A inb F.fQ=W) {b:Code}{n:Nat}{R:fD}{hd:be}{it it' d:Nat}{s:bv ch}{l:List ch}{k v:Ty}{rows:List (k.T×v.T)}{x0:VT R.head.vs}{z:jy R.fE}{dd:dE}{Q:Ex×be→Prop} (ih:∀(tail:ao)(n:Nat)(p:be)(Q:Ex×be→Prop)(a:Act)(w:World),(eb F A inb tbl b tail n p).all Q→cR K (cU A p) a w→ON K.P b tail (iZ K A Q) a w) (hh:Ck b=J (it',d,s,l))(hok:OJ F R it it' d k v=W)(hit:bZ it hd.slots=.one (.it .own (.bB I k v) rows []))(hdu:R.head.live.contains d=I→bZ d hd.slots=.undef) (hz:qf rows.length (λsn i x=>(oZ F A inb R hd it d s l k v rows (eb F A inb tbl b W (n+1)) (J i) sn x).run) (λsn x=>(oZ F A inb R hd it d s l k v rows (eb F A inb tbl b W (n+1)) O sn x).run) x0=J z) (hQ:(tz A (hd.slot it .undef) dd R.fE z).all Q)(za:cR K (cU A (cN R.head.vs x0 hd)) a w):(Code.loop b).wp K.P (iZ K A Q) a w:=by
 simp only[OJ,bG,cT,kj]at hok;let⟨⟨⟨⟨⟨⟨⟨hitit,YB⟩,hlt⟩,hent⟩,g⟩,hvd⟩,hld⟩,hex⟩:=hok;subst hitit;have hlt:=(cq _ _).1 hlt;have YC:(d==it')=I:=by grind
 have hdu:=hdu hld;generalize hst:(λ(sn:List Nat)(i:Nat)(x:VT R.head.vs)=>(oZ F A inb R hd it' d s l k v rows (eb F A inb tbl b W (n+1)) (J i) sn x).run)=step at hz;generalize hla:(λ(sn:List Nat)(x:VT R.head.vs)=>(oZ F A inb R hd it' d s l k v rows (eb F A inb tbl b W (n+1)) O sn x).run)=last at hz;have hfold:=ajA hz;have hp1:cR K (cU A (cN R.head.vs x0 (hd.slot it' (il k v rows [])))) a w:=by
  let⟨h1,h2⟩:=H6 it' (il k v rows []) R.head.vs x0 hd g;refine cR.c8 hF.size za ?_ (λt=>?_) h2;rw[(wo _ _ _).1,(wo _ _ _).1];rfl;rw[h1];cases ht:t==it' with|true=>have:t=it':=(by simpa using ht);subst this;rw[y6 R.head.vs x0 hd t g,hit];rfl|false=>rfl
 intro fb kk cs;have key:∀(m:Nat)(sn:List Nat)(x:VT R.head.vs)(a:Act)(w:World),sn.length+m=rows.length→sn.Nodup→(∀j∈sn,j<rows.length)→(∀H:List Nat,(sn.reverse++H).Perm (List.range rows.length)→lJ step last sn H x=J z)→cR K (cU A (cN R.head.vs x (hd.slot it' (il k v rows sn)))) a w→∃e a' w',iZ K A Q e a' w'∧Arrives K.P (lone (fb.at a (.code b:: .inLoop b::kk)) cs w) fb kk cs e a' w':=by
  intro m;induction m using Nat.strongRecOn with
  |_ m OO=>
   intro sn x a w hlen hnd u S hp;have axd:tC rows.length sn O→∃V,last sn x=J (.inr V)∧V=z:=(by intro E;have hperm:=YA (l:=sn.reverse) ((List.reverse_perm sn).nodup_iff.2 hnd) (n:=rows.length) (λa=>by rw[List.mem_reverse];exact⟨u a,E a⟩);have:=S [] (by simpa using hperm);grind [lJ]);have hrow:∀i,tC rows.length sn (J i)→0<m∧((∃y,step sn i x=J (.inl y)∧∀H:List Nat,((i::sn).reverse++H).Perm (List.range rows.length)→lJ step last (i::sn) H y=J z)∨step sn i x=J (.inr z)):=(by intro i E;let⟨H,G⟩:=ajK hnd u E.1 E.2;have hl:=G.length_eq;simp only[List.length_append,List.length_reverse,List.length_cons,List.length_range]at hl;refine⟨by omega,?_⟩;have:=S _ G;grind [lJ]);have hrun:∀c,tC rows.length sn c→∃o,(oZ F A inb R hd it' d s l k v rows (eb F A inb tbl b W (n+1)) c sn x).run=J o:=by
    intro c E;cases c with|none=>grind|some i=>grind
   obtain⟨e,X,Y,⟨c,E,o,ho,⟨ex,p'⟩,rfl,⟨B,f⟩,hp'⟩,r⟩:=ajL (n:=n) hC hN hF hbk ih hh YB hlt hent g hrun hp fb (.inLoop b::kk) cs;generalize hq:((cN R.head.vs x hd).slot it' (il k v rows (kS c sn))).slot d (.aX (tB k v rows c))=q at f;let⟨g1,g2⟩:=H6 it' (il k v rows (kS c sn)) R.head.vs x hd g;have C:∀t,t≠d→bZ t q.slots=bZ t (cN R.head.vs x (hd.slot it' (il k v rows (kS c sn)))).slots:=(by grind [ww]);have Z:q.boxes=(cN R.head.vs x (hd.slot it' (il k v rows (kS c sn)))).boxes:=(by rw[g2,←hq];rfl);have ajS:bZ d (hd.slot it' (il k v rows (kS c sn))).slots=.undef:=(by rw[ww,YC];exact hdu);have hval:(c=O∧last sn x=J o)∨∃i,c=J i∧step sn i x=J o:=by
    cases c with|none=>grind|some i=>grind
   have fin:∀V,o=.inr V→V=z:=(by grind);(have exit:ex≠.normal→∃e a' w',iZ K A Q e a' w'∧Arrives K.P (lone (fb.at a (.code b:: .inLoop b::kk)) cs w) fb kk cs e a' w':=by intro hne;let⟨V,h1,h2⟩:=ajP hne B;have:=fin V h1;subst this;let⟨q',hq1,hq2⟩:=Yu hF (λt=>t≠d∧t≠it') (λt ht=>C t ht.1) Z (hx:=hd.slot it' .undef) (λt ht=>by grind [ww,fK.same]) rfl f.2 hp' R.fE V (λy hy t ht=>by grind) h2 Q hQ;refine⟨_,X,Y,⟨(ex,q'),rfl,hq1,hq2⟩,.pass (x:=.inLoop b) rfl (λ_ _=>.inl ?_) r⟩;cases ex<;>first|exact bX rfl hne|simp[sD]);cases ex with
   |normal=>
    simp only[Cl]at B;split at B;rename_i y hy;have e:o=.inl y:=B.symm;subst e;rcases hval with⟨rfl,h⟩|⟨i,rfl,h⟩
    grind;let⟨hm,hr⟩:=hrow i E;rcases hr with⟨y',h1,h2⟩|h1
    rw[h]at h1;have e:y=y':=(by cases h1;rfl);subst e;let⟨e₂,a₂,w₂,OP,D⟩:=OO (m-1) (by omega) (i::sn) y X Y (by grind) (List.nodup_cons.2 ⟨E.2,hnd⟩) (λj hj=>by
     rcases List.mem_cons.1 hj with rfl|hj
     exact E.1
     exact u j hj) h2 (ajy (d:=d) hF ajS C Z f.2 hy hp')
    exact⟨e₂,a₂,w₂,OP,.of_steps (Steps.trans r (.one step_inLoop)) D⟩;grind;exact B.elim
   |exit i=>exact exit (by simp)|ret=>exact exit (by simp)
 let⟨e,a',w',hq,r⟩:=key rows.length [] x0 a w (by simp) List.nodup_nil (by simp) (λH G=>hfold H (by simpa using G)) hp1;exact⟨e,a',w',hq,.of_steps (.one step_loop) r⟩
end
section
variable{K:Ctx}{F:gq}{A:List aE}{inb:List Key}{tbl:Nat→Option fD}
def ajU(l:hJ K A inb){H:fV}{hd:be}{d:VT H.vs}{a:Act}{w:bD}(hm:tx H.vs hd=J d)(h1:cR K (cU A hd) a w):cR K (cU A (cN H.vs d hd)) a w:=by
 refine Rel.y0 l.size h1 (wo _ _ _).1 (λt=>?_) λk=>?_;rcases Ox H.vs d hd hm t with⟨_,h2⟩|⟨_,h2⟩
 rw[h2];cases bZ t hd.slots with|one c=>exact .inl rfl|agg cs=>exact de.mL _|aX vs=>exact aG.same (R:=λp q:ao×List C=>p.1=q.1∧aG de p.2 q.2) (λp=>⟨rfl,de.mL _⟩) _|undef=>trivial
 rw[h2];cases bZ t hd.slots with|one c=>exact .inl rfl|agg cs=>exact de.mL _|aX vs=>exact aG.same (R:=λp q:ao×List C=>p.1=q.1∧aG de p.2 q.2) (λp=>⟨rfl,de.mL _⟩) _|undef=>trivial
 have hi:=HY k H.vs d hd hm;cases h1:bP k hd.boxes with
 |none=>
  rw[h1]at hi;cases h2:bP k (cN H.vs d hd).boxes with|none=>trivial|some cs=>rw[h2]at hi;exact hi.elim
 |some m=>
  rw[h1]at hi;cases h2:bP k (cN H.vs d hd).boxes with
  |none=>rw[h2]at hi;exact hi.elim|some cs=>
   rw[h2]at hi;refine aG.c8 (by simpa using hi.1) λj u c g h=>?_;simp only[aJ,List.getElem?_map]at g h;cases e:cs[j]? with
   |none=>grind|some c1=>
    rw[e]at h;cases h;cases b:m[j]? with
    |none=>grind|some c0=>
     rw[b]at g;cases g;rcases hi.2 j c1 e with⟨_,n,r,i,f,o⟩|⟨_,f⟩
     rw[h1]at i;cases i;rw[b]at f;cases f;exact .inl o;rw[b]at f;cases f;exact .inl rfl
def ajV(hC:lD K.P F.cfg.c)(hN:K.N=F.cfg.N)(OQ:K.P.follows .mixedOrders=W)(D:hJ K A inb)(hbk:kR A inb F.fQ=W):∀(c:Code)(tail:ao)(n:Nat)(p:be)(Q:Ex×be→Prop)(a:Act)(w:bD),(eb F A inb tbl c tail n p).all Q→cR K (cU A p) a w→ON K.P c tail (iZ K A Q) a w:=by
 let⟨hok,hin⟩:=D.bk hbk;intro c;induction c with
 |skip=>intro tail n p Q a w h hp;cases tail;exact wp_skip ⟨(.normal,p),rfl,h,hp⟩;trivial
 |exit id=>intro tail n p Q a w h hp;cases tail;exact wp_exit ⟨(.exit id,p),rfl,h,hp⟩;trivial
 |ret=>intro tail n p Q a w h hp;cases tail;exact wp_ret ⟨(.ret,p),rfl,h,hp⟩;trivial
 |region id ops draw=>
  intro tail n p Q a w h hp;cases tail;let⟨s,Bq,ajO,h4,hsub,hargs,bU,hend⟩:=Yv D hbk h;let⟨e1,e2⟩:=VV F.cfg.c ops _ _ _ _ h4;have hg:Vs.Good K (cQ (bI A (fresh p))) a w:=by rw[Cb];exact hp.1
  refine aho hC hN OQ e1 (λhd=>?_) hg λu w' hg'=>?_;have:=bU hd;simp only[GF,bG]at this;refine⟨?_,this.1⟩;unfold Na;rw[e2];exact hsub.pairs this.2;let⟨y,g1,g2,g3⟩:=hend u w' hg';exact⟨y,by rw[←g1];rfl,g2,g3⟩;trivial
 |seq x y V G=>
  intro tail n p Q a w h hp;cases tail;simp only[eb]at h;rw[all_bind]at h;refine wp_seq (wp_mono (V I n p _ a w h hp) ?_);rintro e u w' ⟨⟨r,C⟩,rfl,H,j⟩;cases r with|normal=>exact G I _ C Q u w' H j|exit i=>exact⟨_,rfl,H,j⟩|ret=>exact⟨_,rfl,H,j⟩
  exact G I _ p Q a w h hp
 |cond c x y V G=>
  intro tail n p Q a w h hp;cases tail;have qU:∀e,OG c p=J e→∀b,cE e=.d (.bool b)→a.eval c=.bool b:=by intro e E b T;unfold OG at E;split at E;rename_i t;split at E;rename_i c' hl;cases E;let⟨β,ω,Z,hr⟩:=hp.1;have:=hr.tmps t;rw[HE,hl]at this;have h2:=this.2;rw[T]at h2;exact h2;cases E;rename_i b';cases E;(have:b'=b:=by cases b'<;>cases b<;>first|rfl|(simp[kb,cE]at T));subst this;rfl;cases E
  simp only[eb]at h;split at h;rename_i E;exact aeQ (qU _ E W rfl) (λ_=>V I n p Q a w h hp) (λT=>by cases T);rename_i E;exact aeQ (qU _ E I rfl) (λT=>by cases T) (λ_=>G I _ p Q a w h hp);rename_i b E;rw[all_map]at h;have h1:=(y5 (p0:=bI A (fresh p)) D (.br b (eb F A inb tbl x I n (fresh p)) (eb F A inb tbl y I (n+nl x) (fresh p))) ⟨y9 (F:=F) (tbl:=tbl) D x I n (fresh p),y9 (F:=F) (tbl:=tbl) D y I _ (fresh p)⟩).2 _ h;have fin:∀e a w,iZ K A (Reach K A λx=>Q (kB p.bQ x)) e a w→iZ K A Q e a w:=by intro e a w Y;let⟨z,g1,g2,g3⟩:=iZ.reach Y;exact⟨kB p.bQ z,g1,g2,g3⟩
  exact aeQ (qU _ E b rfl) (λT=>wp_mono (V I n (fresh p) _ a w (h1.1 T) hp) λe u w' Y=>fin e u w' Y) (λT=>wp_mono (G I _ (fresh p) _ a w (h1.2 T) hp) λe u w' Y=>fin e u w' Y);exact h.elim;trivial
 |block id b ih=>
  intro tail n p Q a w h hp;cases tail;simp only[eb]at h;rw[all_map]at h;have f:((eb F A inb tbl b I n (fresh p)).map (nK id)).each (dZ (bI A (fresh p)) A):=by rw[Tr.jU];exact Tr.fJ (λx hx=>dZ.nK hx) (y9 D b I n (fresh p))
  have h1:=(y5 D _ f).2 _ h;rw[all_map]at h1;refine wp_block (wp_mono (ih I n (fresh p) _ a w h1 hp) ?_);rintro e u w' ⟨⟨r,C⟩,rfl,H,j⟩;have hp2:cR K (cU A (nK id (r,C)).2) u w':=by grind [nK]
  let⟨y,g1,g2,g3⟩:=H u w' hp2;have fin:iZ K A Q (sD (nK id (r,C)).1) u w':=⟨kB p.bQ y,g1,g2,g3⟩;cases r with|normal=>exact fin|ret=>exact fin|exit i=>show if i=id then iZ K A Q .normal u w' else iZ K A Q (.exit i) u w';by_cases hi:i=id;rw[ax hi];unfold nK at fin;simp only[hi,beq_self_eq_true]at fin;exact fin;rw[aK hi];have:(i==id)=I:=(by simpa using hi);unfold nK at fin;simp only[this]at fin;exact fin
  trivial
 |scope b ih=>intro tail n p Q a w h hp;cases tail;simp only[eb]at h;refine wp_scope_straight (wp_mono (ih I n p Q a w h hp) ?_);rintro e u w' ⟨⟨r,C⟩,rfl,H,j⟩;cases r<;>exact⟨_,rfl,H,j⟩;trivial
 |loop b ih=>
  intro tail n p Q a w h hp;cases tail;simp only[eb]at h;split at h;rename_i R hR;split at h;rename_i x0 hx hm;have za:cR K (cU A (cN R.head.vs x0 (base A R.head p))) a w:=ajU D hm (cR.eS (p:=p) D hx R.head.live hp);split at h;let⟨z,hz,hQ⟩:=h;generalize Y:base A R.head p=hd at *;intro fb k cs;have key:∀(m:Nat)(x:VT R.head.vs)(a:Act)(w:bD),dy (λx=>((eb F A inb tbl b I (n+1) (cN R.head.vs x hd)).bind (wu A inb R hd)).run) m x=J z→cR K (cU A (cN R.head.vs x hd)) a w→∃e u w',iZ K A Q e u w'∧Arrives K.P (lone (fb.at a (.code b:: .inLoop b::k)) cs w) fb k cs e u w':=by
   intro m;induction m with
   |zero=>intro x a w hi;cases hi
   |succ m OO=>
    intro x a w hi hp1;have hstep:=ajF hi;have round:∀o,((eb F A inb tbl b I (n+1) (cN R.head.vs x hd)).bind (wu A inb R hd)).run=J o→b.wp K.P (iZ K A λy=>(wu A inb R hd y).all (λv=>v=o)∧dZ (bI A (cN R.head.vs x hd)) A y) a w:=(by intro o ho;have h1:=(Tr.yR _ (λv=>v=o)).2 ⟨o,ho,rfl⟩;rw[all_bind]at h1;exact ih I (n+1) _ _ a w (Tr.rf h1 (Tr.sZ (y9 D b I (n+1) _))) hp1);have exit:∀(r:Ex)(C:be)(o:VT R.head.vs⊕jy R.fE)(g:Act)(w₁:bD),r≠.normal→(wu A inb R hd (r,C)).all (λv=>v=o)→dZ (bI A (cN R.head.vs x hd)) A (r,C)→cR K (cU A C) g w₁→∃z',o=.inr z'∧∀Q,(tz A hd p.bQ R.fE z').all Q→∃q,Q (r,q)∧cR K (cU A q) g w₁:=by
     intro r C o g w₁ X l f j;have Ez:(match qe A inb R.head hd C r R.fE with|some y=>Tr.leaf (kJ y)|none=>Tr.fail:Tr (VT R.head.vs⊕jy R.fE)).all (λv=>v=o):=by
      cases r with|normal=>exact bX rfl X|_=>exact l
     split at Ez;rename_i z' hz';exact⟨z',Ez.symm,ajG D f.2 j R.fE z' hz'⟩;exact Ez.elim
    rcases hstep with⟨x',hs,ajX⟩|hs
    obtain⟨e,g,w₁,⟨⟨r,C⟩,rfl,⟨l,f⟩,j⟩,B⟩:=round _ hs fb (.inLoop b::k) cs;cases r with
    |normal=>simp only[wu]at l;split at l;rename_i y hy;have e:y=x':=(by cases l;rfl);subst e;let⟨e₂,a₂,w₂,OP,S⟩:=OO y g w₁ ajX (ajz D f.2 hy j);exact⟨e₂,a₂,w₂,OP,.of_steps (Steps.trans B (.one step_inLoop)) S⟩;exact l.elim
    |exit i=>let⟨z',h1,_⟩:=exit _ C _ g w₁ (by simp) l f j;cases h1
    |ret=>let⟨z',h1,_⟩:=exit _ C _ g w₁ (by simp) l f j;cases h1
    obtain⟨e,g,w₁,⟨⟨r,C⟩,rfl,⟨l,f⟩,j⟩,B⟩:=round _ hs fb (.inLoop b::k) cs;have X:r≠.normal:=(by rintro rfl;simp only[wu]at l;split at l;cases l;exact l);let⟨z',h1,h2⟩:=exit _ C _ g w₁ X l f j;cases h1;let⟨q,H,hpq⟩:=h2 Q hQ;refine⟨_,g,w₁,⟨(r,q),rfl,H,hpq⟩,.pass (x:=.inLoop b) rfl (λ_ _=>.inl ?_) B⟩;cases r<;>first|exact bX rfl X|simp[sD]
  let⟨e,u,w',H,B⟩:=key fuel x0 a w hz za;exact⟨e,u,w',H,.of_steps (.one step_loop) B⟩;split at h;rename_i Y hit;split at h;rename_i hok;let⟨z,hz,hQ⟩:=h;exact ajQ hC hN D hbk ih Y hok hit (λhl=>Yq (by simpa using hl)) hz hQ za;exact h.elim;exact h.elim;exact h.elim;exact h.elim;trivial
 |_=>intro tail n p Q a w h hp;cases tail<;>first|exact h.elim|trivial
end
def ajY{K:Ctx}{F:gq}{A:List aE}{inb:List Key}{tbl:Nat→Option fD}(a:hJ K A inb)(c:Code)(n:Nat)(p:be):(OL F A inb tbl c n p).each (dZ (bI A p) A):=y9 a c I n p
def ajZ{K:Ctx}{F:gq}{A:List aE}{inb:List Key}{tbl:Nat→Option fD}(e:lD K.P F.cfg.c)(f:K.N=F.cfg.N)(b:K.P.follows .mixedOrders=W)(g:hJ K A inb)(d:kR A inb F.fQ=W)(c:Code)(n:Nat)(p:be)(Q:Ex×be→Prop)(a:Act)(w:bD)(h:(OL F A inb tbl c n p).all Q)(hp:cR K (cU A p) a w):c.wp K.P (iZ K A Q) a w:=ajV e f b g d c I n p Q a w h hp
def tD{α β:Type}(f:α→Q β):L α→Q (L β)
 |[]=>J []|a::r=>match f a,tD f r with|some b,J l=>J (b::l)|_,_=>O
def OR{α β:Type}{f:α→Q β}{g:β→α}(h:∀b,f (g b)=J b):∀(l:L β),tD f (l.map g)=J l|[]=>rfl|b::l=>by simp only[dO,tD,h,OR h l]
def i6:(t:Ty)→L D→Q (t.T×L D)
 |.int k=>λds=>match ds with|.int k' n::r=>if k'=k then J (n,r)else O|_=>O
 |.bool=>λds=>match ds with|.bool b::r=>J (b,r)|_=>O
 |.str=>λds=>match ds with|.str s::r=>J (s,r)|_=>O
 |.sl t=>λds=>match ds with
  |.nil::r=>J (O,r)|.sl e xs::r=>if e=t.e then(match tD (λx=>match i6 t x with|some (y,[])=>J y|_=>O) xs with|some l=>J (J l,r)|none=>O)else O
  |_=>O
 |.pair h t=>λds=>match i6 h ds with
  |some (x,r)=>match i6 t r with|some (y,a)=>J ((x,y),a)|none=>O
  |none=>O
 |.set k=>λds=>i6 k ds|.bB _ h t=>λds=>match i6 h ds with
  |some (x,r)=>match i6 t r with|some (y,a)=>J ((x,y),a)|none=>O
  |none=>O
def wx:∀(t:Ty)(x:t.T)(r:L D),i6 t (aP t x++r)=J (x,r)
 |.int k,n,r=>by simp[i6,aP]|.bool,b,r=>rfl|.str,s,r=>rfl|.sl t,o,r=>by
  cases o with|none=>rfl|some xs=>simp only[aP,List.cons_append,List.nil_append,i6,bf];rw[OR (f:=λx=>match i6 t x with|some (y,[])=>J y|_=>O) (g:=aP t) (λb=>by have:=wx t b [];grind)]
 |.pair h t,x,r=>by simp only[aP,i6,List.append_assoc];rw[wx h x.1];simp only;rw[wx t x.2]|.set k,x,r=>wx k x r|.bB _ h t,x,r=>by simp only[aP,i6,List.append_assoc];rw[wx h x.1];simp only;rw[wx t x.2]
def wy(t:Ty)(ds:L D):Q t.T:=match i6 t ds with|some (y,[])=>J y|_=>O
def YE(t:Ty)(x:t.T):wy t (aP t x)=J x:=by unfold wy;have:=wx t x [];grind
def zb(t:Ty)(xs:L (L D)):Q (L t.T):=tD (wy t) xs
def H9(t:Ty)(xs:L t.T):zb t (xs.map (aP t))=J xs:=OR (YE t) xs
def Sh.dec:(h:Sh)→C→Q h.T
 |.i k=>λc=>match c with|.d (.int k' x)=>if k'=k then J x else O|_=>O
 |.b=>λc=>match c with|.d (.bool x)=>J x|_=>O
 |.s=>λc=>match c with|.d (.str x)=>J x|_=>O
 |.l m t=>λc=>match m,c with|.data,.d (.sl e xs)=>if e=t.e then zb t xs else O|.own,.own e xs=>if e=t.e then zb t xs else O|_,_=>O
 |.n m t=>λc=>match m,c with|.data,.d .nil=>J O|.own,.d .nil=>J O|.data,.d (.sl e xs)=>if e=t.e then(zb t xs).map J else O|.own,.own e xs=>if e=t.e then(zb t xs).map J else O|_,_=>O
 |.p k off=>λc=>match c with|.ptr k' a=>if k=k'∧off=a then J ()else O|_=>O
 |.dd=>λc=>match c with|.dead=>J ()|_=>O
 |.u k=>λc=>match c with|.d (.ck k')=>if k'=k then J ()else O|_=>O
 |.r z=>λc=>match c with|.d (.rep f ps)=>if f=z then J ps else O|_=>O
def Sh.aj0:Sh→ao|.p _ _=>I|_=>W
def Sh.plain:Sh→ao|.l (.aS ..) _=>I|.n (.aS ..) _=>I|_=>W
theorem Sh.kV:∀{h:Sh}(x:h.T),h.plain=W→h.dec (cE (h.inst x))=J x
 |.i k,x,_=>by simp[Sh.dec,Sh.inst,cE]|.b,x,_=>rfl|.dd,x,_=>rfl|.u k,x,_=>by simp[Sh.dec,Sh.inst,cE]|.r z,x,_=>by simp[Sh.dec,Sh.inst,cE]|.s,x,_=>rfl|.p k off,x,_=>by simp[Sh.dec,Sh.inst,cE]|.l m t,x,hp=>by
  cases m with
  |aS=>cases hp
  |data=>simp only[Sh.dec,Sh.inst,cE,lC,bf];exact H9 t x|own=>simp only[Sh.dec,Sh.inst,cE,lC,bf];exact H9 t x
 |.n m t,o,hp=>by
  cases m with
  |aS=>cases hp
  |data=>
   cases o with|none=>rfl|some x=>simp only[Sh.dec,Sh.inst,cE,lC,bf];rw[H9 t x];rfl
  |own=>
   cases o with|none=>rfl|some x=>simp only[Sh.dec,Sh.inst,cE,lC,bf];rw[H9 t x];rfl
@[reducible] def HT:L Sh→Type
  |[]=>bu|h::r=>match r with|[]=>h.T|a::r=>h.T×HT (a::r)
def HT.inst:(l:L Sh)→HT l→L E|[],_=>[]|[h],x=>[h.inst x]|h::a::r,x=>h.inst x.1::HT.inst (a::r) x.2
def HT.dI:(l:L Sh)→L E→Q (HT l)
 |[],cs=>match cs with|[]=>J ()|_=>O
 |[h],cs=>match cs with|[c]=>h.dI c|_=>O
 |h::a::r,cs=>match cs with
  |c::cs=>match h.dI c,HT.dI (a::r) cs with|some x,J y=>J (x,y)|_,_=>O
  |[]=>O
def HT.dec:(l:L Sh)→L C→Q (HT l)
 |[],cs=>match cs with|[]=>J ()|_=>O
 |[h],cs=>match cs with|[c]=>h.dec c|_=>O
 |h::a::r,cs=>match cs with
  |c::cs=>match h.dec c,HT.dec (a::r) cs with|some x,J y=>J (x,y)|_,_=>O
  |[]=>O
theorem HT.kA:∀(l:L Sh)(cs:L E)(x:HT l),HT.dI l cs=J x→aJ (HT.inst l x)=aJ cs
 |[],cs,x,e=>by cases cs<;>first|rfl|cases e
 |[h],cs,x,e=>by
  match cs with
  |[]=>cases e
  |[c]=>exact bz (λz=>[z]) (Sh.kA (h:=h) e)|_::_::_=>cases e
 |h::a::r,cs,x,e=>by
  cases cs with
  |nil=>cases e
  |cons c cs=>simp only[HT.dI]at e;split at e;rename_i y z h1 h2;cases e;show cE (h.inst y)::aJ (HT.inst (a::r) z)=cE c::aJ cs;rw[Sh.kA h1,HT.kA (a::r) cs z h2];cases e
theorem HT.kV:∀(l:L Sh)(x:HT l),l.all Sh.plain=W→HT.dec l (aJ (HT.inst l x))=J x
 |[],x,_=>rfl|[h],x,hp=>Sh.kV (h:=h) x (by simpa using hp)|h::a::r,x,hp=>by
  rw[l8,bG]at hp
  show(match h.dec (cE (h.inst x.1)),HT.dec (a::r) (aJ (HT.inst (a::r) x.2))with|some x,J y=>J (x,y)|_,_=>O)=_
  rw[Sh.kV x.1 hp.1,HT.kV (a::r) x.2 hp.2]
def HT.dflt:(l:L Sh)→HT l|[]=>()|[h]=>h.dflt|h::a::r=>(h.dflt,HT.dflt (a::r))
def wz:L (Key×U)→L (Key×U)→ao|[],[]=>W|p::r,a::b=>eX p.1 a.1&&p.2==a.2&&wz r b|_,_=>I
def YF:∀{l a:L (Key×U)},wz l a=W↔l=a|[],[]=>by simp[wz]|[],_::_=>by simp[wz]|_::_,[]=>by simp[wz]|(k,o)::r,(k',b)::c=>by simp only[wz,bG,jV,cT,YF,xQ,fj]
inductive It where
 |one(h:Sh)|row(t:Ty)|cells(l:List Sh)|ptr(k:Key)(off:Nat)|cy(f:FuncId)(caps:List (Key×Nat):=[])|ck(k:NK)|lK|jl(k:Key)(off:Nat)
@[reducible] def It.T:It→Type|.one h=>h.T|.row t=>t.T|.cells l=>HT l|.ptr _ _=>bu|.cy _ _=>bu|.ck _=>bu|.lK=>bu|.jl _ _=>bu
def It.has:It→ao|.one _=>W|.row _=>W|.cells _=>W|.ptr _ _=>I|.cy _ _=>I|.ck _=>I|.lK=>I|.jl _ _=>I
def It.inst:(i:It)→i.T→aE|.one h,x=>.one (h.inst x)|.row t,x=>.agg (dM t x)|.cells l,x=>.agg (HT.inst l x)|.ptr k off,_=>.one (.ptr k off)|.cy f caps,_=>.one (.cy f caps)|.ck k,_=>.one (.ck k)|.lK,_=>.one .nil|.jl k off,_=>.agg [.ptr k off]
def It.dI:(i:It)→aE→Q i.T
 |.one h=>λv=>match v with|.one c=>h.dI c|_=>O
 |.row t=>λv=>match v with|.agg cs=>jS t cs|_=>O
 |.cells l=>λv=>match v with|.agg cs=>HT.dI l cs|_=>O
 |.ptr k off=>λv=>match v with
  |.one (.ptr k' a)=>match eX k k'&&off==a with|true=>J ()|false=>O
  |_=>O
 |.cy f caps=>λv=>match v with
  |.one (.cy b l)=>match f==b&&wz caps l with|true=>J ()|false=>O
  |_=>O
 |.ck k=>λv=>match v with|.one (.ck k')=>if k=k' then J ()else O|_=>O
 |.lK=>λv=>match v with|.one .nil=>J ()|_=>O
 |.jl k off=>λv=>match v with
  |.agg [.ptr k' a]=>match eX k k'&&off==a with|true=>J ()|false=>O
  |_=>O
def wA:L C→Q (L D)
 |[]=>J []|.d x::r=>match wA r with|some l=>J (x::l)|none=>O
 |_=>O
def YG:∀(l:L D),wA (l.map .d)=J l|[]=>rfl|d::l=>by simp only[dO,wA,YG l]
def It.dec:(i:It)→SV→Q i.T
 |.one h=>λv=>match v with|.one c=>h.dec c|_=>O
 |.row t=>λv=>match v with
  |.agg cs=>match wA cs with|some ds=>wy t ds|none=>O
  |_=>O
 |.cells l=>λv=>match v with|.agg cs=>HT.dec l cs|_=>O
 |.ptr k off=>λv=>match v with|.one (.ptr k' a)=>if k=k'∧off=a then J ()else O|_=>O
 |.cy f caps=>λv=>match v with|.one (.cy b l)=>if f=b∧l=caps then J ()else O|_=>O
 |.ck k=>λv=>match v with|.one (.d (.ck k'))=>if k=k' then J ()else O|_=>O
 |.lK=>λv=>match v with|.one (.d .nil)=>J ()|_=>O
 |.jl k off=>λv=>match v with|.agg [.ptr k' a]=>if k=k'∧off=a then J ()else O|_=>O
def It.ok:It→ao|.one h=>h.plain&&h.aj0|.cells l=>l.all Sh.plain|.ptr (.inb _) _=>W|.ptr _ _=>I|_=>W
def It.dflt:(i:It)→i.T|.one h=>h.dflt|.row t=>t.zero|.cells l=>HT.dflt l|.ptr _ _=>()|.cy _ _=>()|.ck _=>()|.lK=>()|.jl _ _=>()
theorem It.kA:∀{i:It}{v:aE}{x:i.T},i.dI v=J x→aA (i.inst x)=aA v
 |.one h,v,x,e=>by
  cases v with|one c=>exact bz SV.one (Sh.kA (h:=h) e)|_=>cases e
 |.row t,v,x,e=>by
  cases v with|agg cs=>have e:jS t cs=J x:=e;show SV.agg (aJ (dM t x))=SV.agg (aJ cs);rw[jw,Hk e]|_=>cases e
 |.cells l,v,x,e=>by
  cases v with|agg cs=>exact bz SV.agg (HT.kA l cs x e)|_=>cases e
 |.ptr k off,v,x,e=>by simp only[It.dI]at e;split at e;split at e;rename_i h;simp only[bG,cT,jV]at h;obtain⟨rfl,rfl⟩:=h;rfl;cases e;cases e
 |.cy f caps,v,x,e=>by simp only[It.dI]at e;split at e;split at e;rename_i h;simp only[bG,cT,YF]at h;obtain⟨rfl,rfl⟩:=h;rfl;cases e;cases e
 |.ck k,v,x,e=>by simp only[It.dI]at e;split at e;split at e;rename_i h;subst h;rfl;cases e;cases e
 |.lK,v,x,e=>by simp only[It.dI]at e;split at e;rfl;cases e
 |.jl k off,v,x,e=>by simp only[It.dI]at e;split at e;split at e;rename_i h;simp only[bG,cT,jV]at h;obtain⟨rfl,rfl⟩:=h;rfl;cases e;cases e
theorem It.kV:∀{i:It}(x:i.T),i.ok=W→i.dec (aA (i.inst x))=J x
 |.one h,x,hp=>Sh.kV (h:=h) x (by simp_all [It.ok])|.row t,x,_=>by
  show(match wA (aJ (dM t x))with|some ds=>wy t ds|none=>O)=_
  rw[jw,YG];exact YE t x
 |.cells l,x,hp=>HT.kV l x hp|.ptr k off,x,_=>by simp[It.dec,It.inst,aA,cE]|.cy f caps,x,_=>by simp[It.dec,It.inst,aA,cE]|.ck k,x,_=>by simp[It.dec,It.inst,aA,cE]|.lK,x,_=>by simp[It.dec,It.inst,aA,cE]|.jl k off,x,_=>by simp[It.dec,It.inst,aA,aJ,cE]
def jz(l:L It):ao:=l.any It.has
@[reducible] def T2(b:ao)(α β:Type):Type:=match b with|true=>α×β|false=>α
def T2.fst{α β:Type}:(b:ao)→T2 b α β→α|true,x=>x.1|false,x=>x
def T2.snd{α β:Type}:(b:ao)→β→T2 b α β→β|true,_,x=>x.2|false,d,_=>d
def T2.mk{α β:Type}:(b:ao)→α→β→T2 b α β|true,x,y=>(x,y)|false,x,_=>x
def T2.fst_mk{α β:Type}(b:ao)(x:α)(y:β):T2.fst b (T2.mk b x y)=x:=by cases b<;>rfl
def T2.aj1{α β:Type}(b:ao)(d:β)(z:T2 b α β):T2.mk b (T2.fst b z) (T2.snd b d z)=z:=by cases b<;>rfl
@[reducible] def IT:L It→Type
  |[]=>bu|i::r=>match i.has with|true=>T2 (jz r) i.T (IT r)|false=>IT r
def IT.hd:(i:It)→(r:L It)→IT (i::r)→i.T|.one _,r=>λx=>T2.fst (jz r) x|.row _,r=>λx=>T2.fst (jz r) x|.cells _,r=>λx=>T2.fst (jz r) x|.ptr _ _,_=>λ_=>()|.cy _ _,_=>λ_=>()|.ck _,_=>λ_=>()|.lK,_=>λ_=>()|.jl _ _,_=>λ_=>()
def IT.tl(d:(r:L It)→IT r):(i:It)→(r:L It)→IT (i::r)→IT r|.one _,r=>λx=>T2.snd (jz r) (d r) x|.row _,r=>λx=>T2.snd (jz r) (d r) x|.cells _,r=>λx=>T2.snd (jz r) (d r) x|.ptr _ _,_=>λx=>x|.cy _ _,_=>λx=>x|.ck _,_=>λx=>x|.lK,_=>λx=>x|.jl _ _,_=>λx=>x
def IT.cons:(i:It)→(r:L It)→i.T→IT r→IT (i::r)|.one _,r=>λx y=>T2.mk (jz r) x y|.row _,r=>λx y=>T2.mk (jz r) x y|.cells _,r=>λx y=>T2.mk (jz r) x y|.ptr _ _,_=>λ_ y=>y|.cy _ _,_=>λ_ y=>y|.ck _,_=>λ_ y=>y|.lK,_=>λ_ y=>y|.jl _ _,_=>λ_ y=>y
def IT.dflt:(l:L It)→IT l|[]=>()|i::r=>IT.cons i r i.dflt (IT.dflt r)
def IT.inst:(l:L It)→IT l→L aE|[],_=>[]|i::r,x=>i.inst (IT.hd i r x)::IT.inst r (IT.tl IT.dflt i r x)
def IT.dI:(l:L It)→L aE→Q (IT l)
 |[],vs=>match vs with|[]=>J ()|_=>O
 |i::r,vs=>match vs with
  |v::vs=>match i.dI v,IT.dI r vs with|some x,J y=>J (IT.cons i r x y)|_,_=>O
  |[]=>O
def IT.dec:(l:L It)→L SV→Q (IT l)
 |[],vs=>match vs with|[]=>J ()|_=>O
 |i::r,vs=>match vs with
  |v::vs=>match i.dec v,IT.dec r vs with|some x,J y=>J (IT.cons i r x y)|_,_=>O
  |[]=>O
def IT.unit:∀(l:L It),jz l=I→∀x y:IT l,x=y
 |[],_,_,_=>rfl|i::r,h,x,y=>by
  have h2:i.has=I∧jz r=I:=by grind [jz]
  cases i with
  |one _=>cases h2.1
  |row _=>cases h2.1
  |cells _=>cases h2.1
  |ptr _ _=>exact IT.unit r h2.2 x y|cy _ _=>exact IT.unit r h2.2 x y|ck _=>exact IT.unit r h2.2 x y|lK=>exact IT.unit r h2.2 x y|jl _ _=>exact IT.unit r h2.2 x y
def T2.snd_mk(r:L It){α:Type}(x:α)(y d:IT r):T2.snd (jz r) d (T2.mk (jz r) x y)=y:=by
 have:∀b,jz r=b→T2.snd b d (T2.mk b x y)=y:=by
  intro b a;cases b with|true=>rfl|false=>exact IT.unit r a d y
 exact this _ rfl
def IT.Cm(i:It)(r:L It)(x:i.T)(y:IT r):IT.hd i r (IT.cons i r x y)=x:=by cases i<;>first|exact T2.fst_mk (jz r) x y|rfl
def IT.Cn(i:It)(r:L It)(x:i.T)(y:IT r):IT.tl IT.dflt i r (IT.cons i r x y)=y:=by cases i<;>first|exact T2.snd_mk r x y _|rfl
def IT.aj2(i:It)(r:L It)(z:IT (i::r)):IT.cons i r (IT.hd i r z) (IT.tl IT.dflt i r z)=z:=by cases i<;>first|exact T2.aj1 (jz r) _ z|rfl
theorem IT.kA:∀(l:L It)(vs:L aE)(x:IT l),IT.dI l vs=J x→(IT.inst l x).map aA=vs.map aA
 |[],vs,x,e=>by cases vs<;>first|rfl|cases e
 |i::r,vs,x,e=>by
  cases vs with
  |nil=>cases e
  |cons v vs=>simp only[IT.dI]at e;split at e;rename_i y z h1 h2;cases e;simp only[IT.inst,dO];rw[IT.Cm,IT.Cn,It.kA h1,IT.kA r vs z h2];cases e
theorem IT.kV:∀(l:L It)(x:IT l),l.all It.ok=W→IT.dec l ((IT.inst l x).map aA)=J x|[],x,_=>rfl|i::r,x,hp=>by rw[l8,bG]at hp;simp only[IT.inst,dO,IT.dec];rw[It.kV _ hp.1,IT.kV r _ hp.2];simp only;rw[IT.aj2]
def Ia{α β:Type}{f:α→Q β}{g:β→α}(h:∀a b,f a=J b→a=g b):∀(l:L α)(r:L β),tD f l=J r→l=r.map g
 |[],r,e=>by cases e;rfl
 |a::l,r,e=>by simp only[tD]at e;split at e;rename_i b c h1 h2;cases e;rw[h a b h1,Ia h l c h2];rfl;cases e
def wB:∀(t:Ty)(ds:L D)(x:t.T)(r:L D),i6 t ds=J (x,r)→ds=aP t x++r
 |.int k,ds,x,r,e=>by simp only[i6]at e;split at e;split at e;rename_i h;subst h;cases e;rfl;cases e;cases e
 |.bool,ds,x,r,e=>by simp only[i6]at e;split at e<;>cases e;rfl
 |.str,ds,x,r,e=>by simp only[i6]at e;split at e<;>cases e;rfl
 |.sl t,ds,x,r,e=>by simp only[i6]at e;split at e;cases e;rfl;split at e;rename_i h;subst h;split at e;rename_i l f;cases e;have:=Ia (g:=aP t) (λa b c=>by split at c;rename_i y hy;cases c;have:=wB t a _ [] hy;simpa using this;cases c) _ _ f;rw[this];rfl;cases e;cases e;cases e
 |.pair h t,ds,x,r,e=>by simp only[i6]at e;split at e;rename_i y d h1;split at e;rename_i z i h2;cases e;rw[wB h ds y d h1,wB t d z r h2];simp[aP];cases e;cases e
 |.set k,ds,x,r,e=>wB k ds x r e|.bB _ h t,ds,x,r,e=>by simp only[i6]at e;split at e;rename_i y d h1;split at e;rename_i z i h2;cases e;rw[wB h ds y d h1,wB t d z r h2];simp[aP];cases e;cases e
def YH{t:Ty}{ds:L D}{x:t.T}(h:wy t ds=J x):ds=aP t x:=by unfold wy at h;split at h;rename_i y hy;cases h;have:=wB t ds _ [] hy;simpa using this;cases h
def Ib{t:Ty}{ds:L (L D)}{xs:L t.T}(h:zb t ds=J xs):ds=xs.map (aP t):=Ia (λ_ _=>YH) ds xs h
def Sh.gO:∀{h:Sh}{c:C}{x:h.T},h.dec c=J x→c=cE (h.inst x)
 |.dd,c,x,e=>by simp only[Sh.dec]at e;split at e<;>cases e;rfl
 |.u k,c,x,e=>by simp only[Sh.dec]at e;split at e;split at e;rename_i h;subst h;rfl;cases e;cases e
 |.r z,c,x,e=>by simp only[Sh.dec]at e;split at e;split at e;rename_i h;subst h;cases e;rfl;cases e;cases e
 |.p k off,c,x,e=>by simp only[Sh.dec]at e;split at e;split at e;rename_i h;obtain⟨rfl,rfl⟩:=h;rfl;cases e;cases e
 |.i k,c,x,e=>by simp only[Sh.dec]at e;split at e;split at e;rename_i h;subst h;cases e;rfl;cases e;cases e
 |.b,c,x,e=>by simp only[Sh.dec]at e;split at e<;>cases e;rfl
 |.s,c,x,e=>by simp only[Sh.dec]at e;split at e<;>cases e;rfl
 |.l m t,c,x,e=>by simp only[Sh.dec]at e;split at e;split at e;rename_i h;subst h;rw[Ib e];rfl;cases e;split at e;rename_i h;subst h;rw[Ib e];rfl;cases e;cases e
 |.n m t,c,x,e=>by simp only[Sh.dec]at e;split at e;cases e;rfl;cases e;rfl;split at e;rename_i h;subst h;obtain⟨y,h1,rfl⟩:=oh.1 e;rw[Ib h1];rfl;cases e;split at e;rename_i h;subst h;obtain⟨y,h1,rfl⟩:=oh.1 e;rw[Ib h1];rfl;cases e;cases e
def HT.gO:∀(l:L Sh)(cs:L C)(x:HT l),HT.dec l cs=J x→cs=aJ (HT.inst l x)
 |[],cs,x,e=>by cases cs<;>first|rfl|cases e
 |[h],cs,x,e=>by
  match cs with
  |[]=>cases e
  |[c]=>exact bz (λz=>[z]) (Sh.gO (h:=h) e)|_::_::_=>cases e
 |h::a::r,cs,x,e=>by
  cases cs with
  |nil=>cases e
  |cons c cs=>simp only[HT.dec]at e;split at e;rename_i y z h1 h2;cases e;show c::cs=cE (h.inst y)::aJ (HT.inst (a::r) z);rw[←Sh.gO h1,←HT.gO (a::r) cs z h2];cases e
def YI:∀{cs:L C}{l:L D},wA cs=J l→cs=l.map .d
 |[],l,e=>by cases e;rfl
 |c::cs,l,e=>by
  cases c with
  |d x=>simp only[wA]at e;split at e;rename_i a h;cases e;rw[YI h];rfl;cases e
  |_=>cases e
def It.gO:∀{i:It}{v:SV}{x:i.T},i.dec v=J x→v=aA (i.inst x)
 |.one h,v,x,e=>by
  cases v with|one c=>exact bz SV.one (Sh.gO (h:=h) e)|_=>cases e
 |.row t,v,x,e=>by
  cases v with
  |agg cs=>simp only[It.dec]at e;split at e;rename_i ds hd;show SV.agg cs=SV.agg (aJ (dM t x));rw[jw,←YH e,YI hd];cases e
  |_=>cases e
 |.cells l,v,x,e=>by
  cases v with|agg cs=>exact bz SV.agg (HT.gO l cs x e)|_=>cases e
 |.ptr k off,v,x,e=>by simp only[It.dec]at e;split at e;split at e;rename_i h;obtain⟨rfl,rfl⟩:=h;rfl;cases e;cases e
 |.cy f caps,v,x,e=>by simp only[It.dec]at e;split at e;split at e;rename_i h;obtain⟨rfl,rfl⟩:=h;rfl;cases e;cases e
 |.ck k,v,x,e=>by simp only[It.dec]at e;split at e;split at e;rename_i h;subst h;rfl;cases e;cases e
 |.lK,v,x,e=>by simp only[It.dec]at e;split at e;rfl;cases e
 |.jl k off,v,x,e=>by simp only[It.dec]at e;split at e;split at e;rename_i h;obtain⟨rfl,rfl⟩:=h;rfl;cases e;cases e
def IT.gO:∀(l:L It)(vs:L SV)(x:IT l),IT.dec l vs=J x→vs=(IT.inst l x).map aA
 |[],vs,x,e=>by cases vs<;>first|rfl|cases e
 |i::r,vs,x,e=>by
  cases vs with
  |nil=>cases e
  |cons v vs=>simp only[IT.dec]at e;split at e;rename_i y z h1 h2;cases e;simp only[IT.inst,dO];rw[IT.Cm,IT.Cn,←It.gO h1,←IT.gO r vs z h2];cases e
def Ic:U→L aE→L (U×aE)|_,[]=>[]|i,v::vs=>(i,cX.copy {v} (.arg i))::Ic (i+1) vs
def tE:U→L (L E)→L (Key×L E)|_,[]=>[]|i,b::a=>(.inb i,b)::tE (i+1) a
def wC(A:L aE)(B:L (L E)):be:={slots:=Ic 0 A,boxes:=tE 0 B,bR:=[],bQ:=[]}
def YJ:∀(A:L aE)(i:U),(Ic i A).map (λx=>(x.1,aA x.2))=sJ i (A.map aA)|[],i=>rfl|v::A,i=>by simp only[Ic,dO,sJ,GI];rw[YJ A (i+1)];congr 2;exact copy_eq {v} (.arg i)
def YK:∀(B:L (L E))(i:U),(tE i B).map (λx=>(x.1,aJ x.2))=sK i (B.map aJ)|[],i=>rfl|b::B,i=>by simp only[tE,dO,sK];rw[YK B (i+1)]
def aj3(A:L aE)(B:L (L E)):cU A (wC A B)=yD (A.map aA) (B.map aJ):=by simp only[cU,wC,yD,YJ,YK,gL]
def OS(cfg:bg):md→PE aE
 |.tmp t=>dR (.tmp t)|.cell a t=>match cfg.ti t with|some i=>do yH i (←eG (.tmp a))|none=>.fail
def Ie(cfg:bg):L md→PE (L aE)|[]=>.ret []|r::rs=>do let v ←OS cfg r;let vs ←Ie cfg rs;.ret (v::vs)
def OT:E→PE E
 |.l (.aS (.arg i) j hv cv k) t xs=>nE (.l (.aS (.arg i) j hv cv k) t xs)|.n (.aS (.arg i) j hv cv k) t o=>nE (.n (.aS (.arg i) j hv cv k) t o)|.it m t xs a=>match m with|.aS .. =>.fail|m=>.ret (.it m t xs a)
 |c=>.ret c
def Ig(c:E):PE E:=OT c
def Co:L E→PE (L E)|[]=>.ret []|c::cs=>do let a ←Ig c;let r ←Co cs;.ret (a::r)
def zc:aE→PE aE|.one c=>do .ret (.one (←Ig c))|.agg cs=>do .ret (.agg (←Co cs))|_=>.fail
def Ih:L aE→PE (L aE)|[]=>.ret []|v::vs=>do let a ←zc v;let r ←Ih vs;.ret (a::r)
def OU:E→ao|.ptr _ _=>W|.dead=>W|c=>p5 c
def aj4{cs:L E}(h:cs.all OU=W):(aJ cs).all easy=W:=by
 simp only[aJ,List.all_map,fO,Function.comp_apply]at h ⊢;intro c a;have:=h c a;cases c with
 |ptr k off=>rfl|l m t xs=>cases m<;>first|rfl|cases this
 |n m t o=>cases m<;>cases o<;>first|rfl|cases this
 |_=>first|rfl|cases this
def OV(k:Key):PE bu:=
 .get (.box k) λx=>match x.v with
  |.agg cs=>match cs.all OU with|true=>.ret ()|false=>.fail
  |_=>.fail
def Ii:L Key→PE bu|[]=>.ret ()|k::ks=>do OV k;Ii ks
def ze(v:aE):ao×L E:=match v with|.one c=>(I,[c])|.agg cs=>(W,cs)|_=>(I,[])
def nL:L aE→aE|[v]=>v|vs=>.aX (vs.map ze)
def zf(ks:L Key):E→PE E
 |.ptr k off=>do sure (ks.any (eX k));.ret (.ptr (.inb (idx k ks)) off)|.cy f caps=>do sure caps.isEmpty;.ret (.cy f [])|c=>match p5 c with|true=>.ret c|false=>.fail
def tF(ks:L Key):L E→PE (L E)|[]=>.ret []|c::cs=>do let a ←zf ks c;let r ←tF ks cs;.ret (a::r)
def wD(ks:L Key):L (ao×L E)→PE (L (ao×L E))|[]=>.ret []|(b,cs)::vs=>do let a ←tF ks cs;let r ←wD ks vs;.ret ((b,a)::r)
def nM(ks:L Key):aE→PE aE|.one c=>do .ret (.one (←zf ks c))|.agg cs=>do .ret (.agg (←tF ks cs))|.aX vs=>do .ret (.aX (←wD ks vs))|.undef=>.fail
def OW(a:U)(cs:L E):L Key:=iE a++(dedup (mH cs)).filter λk=> !k.isIn
def wE(cfg:bg)(res:L md)(b:U):PE (aE×L (L E)):=do
 let vs ←Ie cfg res
 let ks:=OW b (vs.flatMap aE.cells)
 Ii ks
 let a ←Ih vs
 let c ←qZ (.tmp 0) (V7 cfg.mh) (nL a)
 let d ←oR ks ks
 let e ←nM ks c
 .ret (e,d)
def aj5(cfg:bg)(r:md)(s:aU):ae s (OS cfg r) aA (yz cfg r):=by
 cases r with
 |tmp t=>exact eF (.tmp t) s|cell a t=>
  simp only[OS,yz];cases cfg.ti t with|none=>exact ae.fail|some i=>simp only[bd,bind_eq];exact ae.bind (eJ _ s) λc b=>WZ i c b
def YL(cfg:bg):∀(rs:L md)(s:aU),ae s (Ie cfg rs) (gV aA) (yA cfg rs)|[],s=>ae.ret rfl|r::rs,s=>by simp only[Ie,yA,bd,bind_eq];exact ae.bind (aj5 cfg r s) λv a=>ae.bind (YL cfg rs a) λvs b=>ae.ret rfl
def YM(c:E)(s:aU):ae s (Ig c) cE (vO (cE c)):=by
 unfold Ig;cases c with
 |l m t xs=>
  cases m with
  |aS r j hv cv k=>
   cases r with|arg i=>simp only[OT,vO,cE,lC,bind_eq];exact yW (tj (.l (.aS (.arg i) j hv cv k) t xs) s) (yX _ s)|_=>exact ae.ret rfl
  |_=>exact ae.ret rfl
 |n m t o=>
  cases m with
  |aS r j hv cv k=>
   cases r with
   |arg i=>
    have h:=yW (tj (.n (.aS (.arg i) j hv cv k) t o) s) (yX _ s);cases o with|none=>exact h|some xs=>simp only[OT,vO,cE,lC,bind_eq];exact h
   |_=>cases o<;>exact ae.ret rfl
  |_=>cases o<;>exact ae.ret rfl
 |gone b=>cases b<;>exact ae.ret rfl
 |it m t xs a=>cases m<;>first|exact ae.ret rfl|exact ae.fail
 |_=>exact ae.ret rfl
def YN:∀(cs:L E)(s:aU),ae s (Co cs) aJ (sE (aJ cs))|[],s=>ae.ret rfl|c::cs,s=>by show ae s (Co (c::cs)) aJ (sE (cE c::aJ cs));simp only[Co,sE,bd,bind_eq];exact ae.bind (YM c s) λd a=>ae.bind (YN cs a) λb e=>ae.ret rfl
def aj6(v:aE)(s:aU):ae s (zc v) aA (oM (aA v)):=by
 cases v with|one c=>show ae s (zc (.one c)) aA (oM (.one (cE c)));simp only[zc,oM,bd,bind_eq];exact ae.bind (YM c s) λa b=>ae.ret rfl|agg cs=>show ae s (zc (.agg cs)) aA (oM (.agg (aJ cs)));simp only[zc,oM,bd,bind_eq];exact ae.bind (YN cs s) λa b=>ae.ret rfl|_=>exact ae.fail
def YO:∀(vs:L aE)(s:aU),ae s (Ih vs) (gV aA) (yB (vs.map aA))|[],s=>ae.ret rfl|v::vs,s=>by simp only[dO,Ih,yB,bd,bind_eq];exact ae.bind (aj6 v s) λc a=>ae.bind (YO vs a) λb d=>ae.ret rfl
def aj7(k:Key)(s:aU):ae s (OV k) (λ_=>()) (Vs.settle k):=by
 unfold OV Vs.settle;refine ae.get ?_;cases hv:(s.get (.box k)).v with
 |agg cs=>
  simp only[bV,hv,aA];cases hp:cs.all OU with|false=>exact ae.fail|true=>rw[ax (aj4 hp)];exact ae.ret rfl
 |_=>simp only[bV,hv,aA];exact ae.fail
def YP:∀(ks:L Key)(s:aU),ae s (Ii ks) (λ_=>()) (yC ks)|[],s=>ae.ret rfl|k::ks,s=>by simp only[Ii,yC,bd,bind_eq];exact ae.bind (aj7 k s) λ_ a=>YP ks a
def wF(vs:L aE):aA (nL vs)=GH (vs.map aA):=by
 match vs with
 |[]=>rfl|[v]=>rfl|v::u::r=>
  show SV.aX (dX ((v::u::r).map ze))=SV.aX (((v::u::r).map aA).map λv=>match v with|.one c=>(I,[c])|.agg cs=>(W,cs)|_=>(I,[]))
  congr 1;generalize v::u::r=l;induction l with|nil=>rfl|cons x l a=>show((ze x).1,aJ (ze x).2)::dX (l.map ze)=_;rw[a];cases x<;>rfl
def YQ(ks:L Key)(c:E)(s:aU):ae s (zf ks c) cE (vP ks (cE c)):=by
 cases c with
 |l m t xs=>cases m<;>first|exact ae.ret rfl|exact ae.fail
 |n m t o=>cases m<;>cases o<;>first|exact ae.ret rfl|exact ae.fail
 |ptr k off=>simp only[zf,vP,cE,bd,bind_eq];refine ae.sure λh=>?_;rw[yZ]at h;rw[bN (by simpa using h)];exact ae.ret rfl|cy f caps=>simp only[zf,vP,cE,bd,bind_eq];refine ae.sure λh=>?_;rw[bN (by simpa using h)];exact ae.ret rfl|ea=>exact ae.fail|da=>exact ae.fail|dead=>exact ae.fail|gone b=>exact ae.fail|it=>exact ae.fail|_=>exact ae.ret rfl
def OX(ks:L Key):∀(cs:L E)(s:aU),ae s (tF ks cs) aJ (sG ks (aJ cs))|[],s=>ae.ret rfl|c::cs,s=>by show ae s (tF ks (c::cs)) aJ (sG ks (cE c::aJ cs));simp only[tF,sG,bd,bind_eq];exact ae.bind (YQ ks c s) λd a=>ae.bind (OX ks cs a) λb e=>ae.ret rfl
def YR(ks:L Key):∀(vs:L (ao×L E))(s:aU),ae s (wD ks vs) dX (vQ ks (dX vs))|[],s=>ae.ret rfl|(b,cs)::vs,s=>by show ae s (wD ks ((b,cs)::vs)) dX (vQ ks ((b,aJ cs)::dX vs));simp only[wD,vQ,bd,bind_eq];exact ae.bind (OX ks cs s) λd a=>ae.bind (YR ks vs a) λc e=>ae.ret rfl
def aj8(ks:L Key)(v:aE)(s:aU):ae s (nM ks v) aA (mB ks (aA v)):=by
 cases v with|one c=>show ae s (nM ks (.one c)) aA (mB ks (.one (cE c)));simp only[nM,mB,bd,bind_eq];exact ae.bind (YQ ks c s) λa b=>ae.ret rfl|agg cs=>show ae s (nM ks (.agg cs)) aA (mB ks (.agg (aJ cs)));simp only[nM,mB,bd,bind_eq];exact ae.bind (OX ks cs s) λa b=>ae.ret rfl|aX vs=>show ae s (nM ks (.aX vs)) aA (mB ks (.aX (dX vs)));simp only[nM,mB,bd,bind_eq];exact ae.bind (YR ks vs s) λa b=>ae.ret rfl|undef=>exact ae.fail
def aj9(cfg:bg)(res:L md)(a:U)(s:aU):ae s (wE cfg res a) (λx=>(aA x.1,x.2.map aJ)) (vR cfg res a):=by
 simp only[wE,vR,bd,bind_eq];refine ae.bind (YL cfg res s) λvs b=>?_;have hk:sH a ((vs.map aA).flatMap SV.cells)=OW a (vs.flatMap aE.cells):=by unfold sH OW;rw[N7,N6]
 rw[hk];refine ae.bind (YP _ b) λ_ c=>ae.bind (YO vs c) λd e=>?_;rw[←wF];exact ae.bind (WW _ _ _ e) λf g=>ae.bind (N8 _ _ g) λi h=>ae.bind (aj8 _ f h) λj k=>ae.ret rfl
def yQ{α:Type}(t:Tr α):t.each λ_=>cZ:=by
 induction t with|leaf a=>trivial|fail=>trivial|br c t e b f=>exact⟨b,f⟩|call d o k g=>exact g|sum o k k' g h=>exact⟨g,h⟩
def aka(ks:L Key)(v:aE)(s:aU):((nM ks v).both s).each λx=>x.2.1=s:=by
 have one:∀(c:E)(s:aU),((zf ks c).both s).each λx=>x.2.1=s:=by
  intro c s;cases c with
  |ptr k off=>show(((sure _).bind λ_=>PE.ret _).both s).each _;cases ks.any (eX k)<;>first|exact trivial|exact rfl
  |cy f caps=>show(((sure _).bind λ_=>PE.ret _).both s).each _;cases caps.isEmpty<;>first|exact trivial|exact rfl
  |l m t xs=>cases m<;>first|exact rfl|exact trivial
  |n m t o=>cases m<;>first|exact rfl|exact trivial
  |_=>first|exact rfl|exact trivial
 have many:∀(cs:L E)(s:aU),((tF ks cs).both s).each λx=>x.2.1=s:=by
  intro cs;induction cs with
  |nil=>intro s;exact rfl
  |cons c cs e=>intro s;simp only[tF,bd];rw[iX,Tr.jk];refine Tr.fJ ?_ (one c s);rintro ⟨a,s',f,g⟩ h;rw[Tr.jU,iX,Tr.jk];refine Tr.fJ ?_ (e s');rintro ⟨b,i,q,r⟩ j;exact j.trans h
 have aX:∀(vs:L (ao×L E))(s:aU),((wD ks vs).both s).each λx=>x.2.1=s:=by
  intro vs;induction vs with
  |nil=>intro s;exact rfl
  |cons p vs e=>intro s;let⟨b,cs⟩:=p;simp only[wD,bd];rw[iX,Tr.jk];refine Tr.fJ ?_ (many cs s);rintro ⟨a,s',f,g⟩ h;rw[Tr.jU,iX,Tr.jk];refine Tr.fJ ?_ (e s');rintro ⟨b,i,q,r⟩ j;exact j.trans h
 cases v with|one c=>simp only[nM,bd];rw[iX,Tr.jk];exact Tr.fJ (λx d=>d) (one c s)|agg cs=>simp only[nM,bd];rw[iX,Tr.jk];exact Tr.fJ (λx d=>d) (many cs s)|aX vs=>simp only[nM,bd];rw[iX,Tr.jk];exact Tr.fJ (λx d=>d) (aX vs s)|undef=>exact trivial
def YS(b:L Key):∀(ks:L Key)(s:aU),((oR b ks).both s).each λx=>x.2.1=s∧Holds b s ks x.1
 |[],s=>⟨rfl,trivial⟩|k::ks,s=>by
  simp only[oR,PE.both,Tr.jU,bd];cases hv:(s.get (.box k)).v with
  |agg cs=>
   cases hp:cs.all (jT b)with|false=>simp only[hp];exact trivial|true=>simp only[hp];show(((oR b ks).bind λr=>PE.ret (cs.map (kz b)::r)).both s).each _;rw[iX,Tr.jk];refine Tr.fJ ?_ (YS b ks s);rintro ⟨a,s',f,g⟩ ⟨h1,h2⟩;simp only at h1 h2;subst h1;exact⟨rfl,⟨cs,hv,hp,rfl⟩,h2⟩
  |_=>exact trivial
def akb(cfg:bg)(res:L md)(a:U)(s:aU):((wE cfg res a).both s).each λx=>∃ks,Holds (iE a++ks) x.2.1 (iE a++ks) x.1.2:=by simp only[wE,bd];rw[iX,Tr.jk];refine Tr.fJ ?_ (yQ _);rintro ⟨vs,f,f1,g⟩ _;rw[Tr.jU,iX,Tr.jk];refine Tr.fJ ?_ (yQ _);rintro ⟨_,h,f2,i⟩ _;rw[Tr.jU,iX,Tr.jk];refine Tr.fJ ?_ (yQ _);rintro ⟨b,j,f3,k⟩ _;rw[Tr.jU,iX,Tr.jk];refine Tr.fJ ?_ (yQ _);rintro ⟨c,d,f4,l⟩ _;rw[Tr.jU,iX,Tr.jk];refine Tr.fJ ?_ (YS _ _ d);rintro ⟨m,e,f5,n⟩ ⟨h1,h2⟩;simp only at h1;subst h1;rw[Tr.jU,iX,Tr.jk];refine Tr.fJ ?_ (aka _ c e);rintro ⟨o,p,f6,q⟩ h3;simp only at h3;subst h3;exact⟨_,h2⟩
structure bm where
 args:List It
 boxes:List It:=[]
 res:List It
 hM:List (List (Option Sh)):=[]
 bR:List (Nat×Nat):=[]
 opt:Bool:=false
def Ij(v:aE):L E:=match v with|.agg cs=>cs|_=>[]
abbrev bm.X(S:bm):Type:=IT (S.args++S.boxes)
def bm.dG(S:bm)(x:S.X):L aE:=(IT.inst (S.args++S.boxes) x).take S.args.length
def bm.ef(S:bm)(x:S.X):L (L E):=((IT.inst (S.args++S.boxes) x).drop S.args.length).map Ij
def Ik:L (Q Sh)→L It|[]=>[]|none::r=>Ik r|some h::r=>.one h::Ik r
def akc:ao→L It|true=>[.one .b]|false=>[]
def bm.kW(S:bm):L It:=akc S.opt++S.hM.flatMap Ik
abbrev bm.Y(S:bm):Type:=IT (S.res++S.kW)
def nN(v:aE):E:=match v with|.one c=>c|_=>.dead
def tG:L (Q Sh)→L E→L (Q E)×L E
 |[],cs=>([],cs)|none::r,cs=>let f:=tG r cs;(O::f.1,f.2)|some _::r,cs=>match cs with|c::cs=>let f:=tG r cs;(J c::f.1,f.2)|[]=>([],[])
def mQ:L (L (Q Sh))→L E→L (L (Q E))|[],_=>[]|o::os,cs=>let f:=tG o cs;f.1::mQ os f.2
def qg(n:U):aE→aE
 |.one (.ptr (.inb i) off)=>match fi n i with|true=>.one (.ck .ptr)|false=>.one (.ptr (.inb i) off)
 |v=>v
def Il:L E→ao|.b b::_=>b|.ff::_=>I|_=>W
def bm.flag(S:bm)(y:S.Y):ao:=match S.opt with|true=>Il (((IT.inst (S.res++S.kW) y).drop S.res.length).map nN)|false=>W
def bm.out(S:bm)(y:S.Y)(b:ao):aE×L (L (Q E)):=let l:=IT.inst (S.res++S.kW) y
 match S.opt with
 |false=>(nL (l.take S.res.length),mQ S.hM ((l.drop S.res.length).map nN))|true=>match b with|true=>(nL (l.take S.res.length),mQ S.hM (((l.drop S.res.length).map nN).drop 1))|false=>(nL ((l.take S.res.length).map (qg S.boxes.length)),mQ (S.hM.take S.boxes.length) (((l.drop S.res.length).map nN).drop 1))
def bm.dI(S:bm)(args:L aE)(boxes:L (L E)):Q S.X:=
 match args.length==S.args.length with|true=>IT.dI (S.args++S.boxes) (args++boxes.map .agg)|false=>O
def bm.dec(S:bm)(args:L SV)(boxes:L (L C)):Q S.X:=if args.length=S.args.length then IT.dec (S.args++S.boxes) (args++boxes.map .agg)else O
def bm.F(S:bm)(sh:S.X→Q S.Y):pD:=λargs boxes=>
 match S.dec args boxes with
 |some x=>match sh x with|some y=>J {v:=aA (S.out y (S.flag y)).1,boxes:=(gM (S.ef x) (S.out y (S.flag y)).2).map aJ,bR:=S.bR}|none=>O
 |none=>O
def OY:It→ao|.row _=>W|.cells _=>W|.jl _ _=>W|_=>I
def akd(n:U):It→ao
 |.jl (.inb i) _=>fi (i+1) n|.jl _ _=>I|.cells l=>l.all λh=>match h with|.p (.inb i) _=>fi (i+1) n|.p _ _=>I|_=>W
 |_=>W
def bm.ok(S:bm):ao:=S.args.all It.ok&&S.boxes.all It.ok&&(S.boxes.all OY&&S.boxes.all (akd S.boxes.length))
def IT.YT:∀(l:L It)(x:IT l)(m:U)(v:aE),(IT.inst l x)[m]?=J v→∃i y,l[m]?=J i∧v=It.inst i y|[],_,m,v,h=>by simp[IT.inst]at h|i::r,x,0,v,h=>by grind [IT.inst]|i::r,x,m+1,v,h=>by simp only[IT.inst,pr]at h;let⟨a,y,h1,h2⟩:=IT.YT r _ m v h;grind
theorem Sh.YU{h:Sh}{x:h.T}{k:Key}{off:U}(e:h.inst x=.ptr k off):h=.p k off:=by cases h<;>simp[Sh.inst]at e;rw[e.1,e.2]
def HT.YV:∀(l:L Sh)(x:HT l)(c:E),c∈HT.inst l x→∀k off,c=.ptr k off→Sh.p k off∈l
 |[],_,c,h=>by simp[HT.inst]at h|[sh],x,c,h=>by grind [HT.inst,Sh.YU]|sh::a::r,x,c,h=>by
  intro k off b;simp only[HT.inst,iA]at h;rcases h with rfl|h
  rw[Sh.YU b];grind;exact gU _ (HT.YV (a::r) _ c (by simpa[HT.inst]using h) k off b)
def zg:∀(t:Ty)(x:t.T)(c:E),c∈dM t x→∀k off,c≠.ptr k off
 |.pair a b,x,c,h=>by
  simp only[dM,l5]at h;rcases h with h|h
  exact zg a _ c h;exact zg b _ c h
 |.bB _ a b,x,c,h=>by
  simp only[dM,l5]at h;rcases h with h|h
  exact zg a _ c h;exact zg b _ c h
 |.set k,x,c,h=>zg k x c h|.int k,x,c,h=>by simp_all [dM]|.bool,x,c,h=>by simp_all [dM]|.str,x,c,h=>by simp_all [dM]|.sl r,x,c,h=>by simp_all [dM]
def ake{S:bm}(a:S.ok=W)(x:S.X):∀b∈S.ef x,∀c∈b,∀k off,c=.ptr k off→∃i,k=.inb i∧i<S.boxes.length:=by
 intro b j c g k off d;obtain⟨v,hv,rfl⟩:=kH.1 j;let⟨m,f⟩:=List.getElem?_of_mem hv;rw[List.getElem?_drop]at f;let⟨i,y,h1,h2⟩:=IT.YT _ _ _ _ f;rw[List.getElem?_append_right (by omega)]at h1;have hi:i∈S.boxes:=eA h1;simp only[bm.ok,bG]at a;have h:=fO.1 a.2.1 i hi;have hp:=fO.1 a.2.2 i hi;subst h2;cases i with
 |row t=>exact bX d (zg t y c g k off)|cells l=>
  have f:=HT.YV l y c g k off d;have hp:=fO.1 hp _ f;cases k with
  |inb i=>exact⟨i,rfl,by have:=xX hp;omega⟩|loc t=>cases hp
  |esc t i=>cases hp
 |jl q o=>
  have e:c∈[E.ptr q o]:=g;simp only[ng]at e;rw[d]at e;cases e;cases k with
  |inb i=>exact⟨i,rfl,by have:=xX hp;omega⟩|loc t=>cases hp
  |esc t i=>cases hp
 |_=>cases h
theorem IT.Cp:∀(l:L It)(x:IT l),(IT.inst l x).length=l.length|[],_=>rfl|i::r,x=>by simp[IT.inst,IT.Cp r]
def akf{i:It}(h:OY i=W)(x:i.T):∃cs,i.inst x=.agg cs:=by cases i<;>first|exact⟨_,rfl⟩|cases h
theorem YW:∀(l:L It)(x:IT l),l.all OY=W→((IT.inst l x).map Ij).map aE.agg=IT.inst l x|[],_,_=>rfl|i::r,x,h=>by rw[l8,bG]at h;simp only[IT.inst,dO];let⟨cs,e⟩:=akf h.1 (IT.hd i r x);rw[YW r _ h.2,e];rfl
def IT.akg(l m:L It)(x:IT (l++m)):∃y:IT m,(IT.inst (l++m) x).drop l.length=IT.inst m y:=by
 induction l with|nil=>exact⟨x,rfl⟩|cons i l a=>exact a (IT.tl IT.dflt i (l++m) x)
def OZ:∀{a b:L (L C)},a.map SV.agg=b.map SV.agg→a=b|[],[],_=>rfl|[],_::_,h=>by simp at h|_::_,[],h=>by simp at h|x::a,y::b,h=>by simp only[dO,xQ,SV.agg.injEq]at h;rw[h.1,OZ h.2]
section
variable(S:bm)
def bm.Im(x:S.X):(S.dG x).length=S.args.length:=by simp[bm.dG,IT.Cp]
def bm.O0(x:S.X):(S.ef x).length=S.boxes.length:=by simp[bm.ef,IT.Cp]
def bm.O1(a:S.ok=W)(x:S.X):S.dG x++(S.ef x).map aE.agg=IT.inst (S.args++S.boxes) x:=by
 simp only[bm.ok,bG]at a;let⟨y,hy⟩:=IT.akg S.args S.boxes x;have:(S.ef x).map aE.agg=(IT.inst (S.args++S.boxes) x).drop S.args.length:=by grind [bm.ef,YW]
 rw[this];exact l7 _ _
def bm.gO(a:S.ok=W){args:L SV}{boxes:L (L C)}{x:S.X}(h:S.dec args boxes=J x):args=(S.dG x).map aA∧boxes=(S.ef x).map aJ:=by
 unfold bm.dec at h;split at h;rename_i b;have e:=IT.gO _ _ _ h;rw[←bm.O1 S a x,px]at e;have:=List.append_inj e (by rw[jf,bm.Im,b]);refine⟨this.1,?_⟩;have h2:=this.2;rw[rY]at h2;have h3:boxes.map SV.agg=((S.ef x).map aJ).map SV.agg:=by rw[h2,rY];rfl
 exact OZ h3;cases h
theorem bm.kV(a:S.ok=W)(x:S.X):S.dec ((S.dG x).map aA) ((S.ef x).map aJ)=J x:=by
 have e:(S.dG x).map aA++((S.ef x).map aJ).map SV.agg=(IT.inst (S.args++S.boxes) x).map aA:=by rw[←bm.O1 S a x,px,rY,rY];rfl
 simp_all [bm.dec,bm.Im,bm.ok,IT.kV]
theorem bm.kA(a:S.ok=W){args:L aE}{boxes:L (L E)}{x:S.X}(h:S.dI args boxes=J x):args.map aA=(S.dG x).map aA∧boxes.map aJ=(S.ef x).map aJ:=by
 unfold bm.dI at h;split at h;rename_i b;have e:=IT.kA _ _ _ h;rw[←bm.O1 S a x,px,px]at e;have:=List.append_inj e (by simp_all [bm.Im]);refine⟨this.1.symm,?_⟩;have h2:=this.2;rw[rY,rY]at h2;have h3:(boxes.map aJ).map SV.agg=((S.ef x).map aJ).map SV.agg:=by rw[rY,rY];exact h2.symm
 exact OZ h3;cases h
end
def akh{o:L (Q E)}:∀{a b:L E},aJ a=aJ b→aJ (dQ a o)=aJ (dQ b o):=by
 induction o with
 |nil=>intro a b h;cases a<;>cases b<;>simp_all [dQ]
 |cons x o c=>
  intro a b h;cases a with
  |nil=>simp_all [aJ]|cons z a=>
   cases b with
   |nil=>simp[aJ]at h|cons y b=>
    have h1:cE z=cE y∧aJ a=aJ b:=(by simpa[aJ]using h);show cE (match x with|some x=>x|none=>z)::aJ (dQ a o)=cE (match x with|some x=>x|none=>y)::aJ (dQ b o)
    rw[c h1.2];cases x with|none=>rw[h1.1]|some x=>rfl
theorem YX:∀{a b:L (L E)}(os:L (L (Q E))),a.map aJ=b.map aJ→(gM a os).map aJ=(gM b os).map aJ
 |[],[],os,_=>rfl|[],_::_,_,h=>by simp at h|_::_,[],_,h=>by simp at h|x::a,y::b,[],h=>by simpa[gM]using h|x::a,y::b,o::os,h=>by
  have h1:aJ x=aJ y∧a.map aJ=b.map aJ:=by simpa using h
  simp only[gM,dO];rw[akh h1.1,YX os h1.2]
def bm.dY(S:bm):S.Y:=IT.dflt _
def bm.eu(S:bm)(hok:S.ok=W)(sh:S.X→Q S.Y):cw where
 A:=S.X
 R:=S.Y
 d:=S.dY
 dI:=S.dI
 sh:=sh
 two:=S.opt
 flag:=S.flag
 out:=λ_ y b=>S.out y b
 bR:=S.bR
 F:=S.F sh
 one:=λh y=>by unfold bm.flag;rw[h]
 ok:=by
  intro args boxes x y hm hs
  obtain⟨h1,h2⟩:=bm.kA S hok hm
  grind [bm.F,bm.kV,YX]
def Cq:U→aE→Q (L aE)
 |1,v=>J [v]|n,.aX vs=>match vs.length==n with
  |true=>tD (λp=>match p.1,p.2 with|true,cs=>J (.agg cs)|false,[c]=>J (.one c)|false,_=>O) vs
  |false=>O
 |_,_=>O
def coll(d:dE)(k:Key):U→L (Q Sh)→L E→Q (L E)
 |_,[],[]=>J []|j,O::o,c::cs=>match !part (.box k) j d&&usable c with|true=>coll d k (j+1) o cs|false=>O
 |j,J _::o,c::cs=>match coll d k (j+1) o cs with|some l=>J (c::l)|none=>O
 |_,_,_=>O
def Io:L (Q Sh)→L E→Q (L E)
 |[],[]=>J []|some _::o,c::cs=>match Io o cs with|some l=>J (c::l)|none=>O
 |_,_=>O
def jW(d:dE):U→L (L E)→L (L (Q Sh))→L (L E)→Q (L E)
 |i,b::B,o::os,c::cs=>match b.length==c.length&&(!whole (.box (.inb i)) d||o.all AA),coll d (.inb i) 0 o c,jW d (i+1) B os cs with|true,J l,J a=>J (l++a)|_,_,_=>O
 |i,[],o::os,c::cs=>match Io o c,jW d (i+1) [] os cs with|some l,J a=>J (l++a)|_,_=>O
 |_,[],[],[]=>J []|_,_,_,_=>O
def O2(n:U)(it:It)(v:aE):aE:=match it,v with
 |.ptr (.inb i) off,.one (.ck .ptr)=>match fi n i with|true=>.one (.ptr (.inb i) off)|false=>.one (.ck .ptr)
 |_,v=>v
def tH(n:U):L It→L aE→L aE|it::a,v::vs=>O2 n it v::tH n a vs|_,vs=>vs
def zh(n:U):aE→ao|.one (.ptr (.inb i) _)=> !fi n i|_=>W
def aki(l:L (L (Q Sh))):L E:=(IT.inst (l.flatMap Ik) (IT.dflt _)).map nN
def bm.Ip(S:bm)(d:dE)(B:L (L E))(v:aE)(a:L (L E)):Q S.Y:=
 match S.opt with
 |false=>match Cq S.res.length v,jW d 0 B S.hM a with
  |some vs,J cs=>match vs.length==S.res.length with|true=>IT.dI (S.res++S.kW) (vs++cs.map .one)|false=>O
  |_,_=>O
 |true=>match a.length==S.hM.length with
  |true=>match Cq S.res.length v,jW d 0 B S.hM a with
   |some vs,J cs=>match vs.length==S.res.length with|true=>IT.dI (S.res++S.kW) (vs++(.tt::cs).map .one)|false=>O
   |_,_=>O
  |false=>match Cq S.res.length v,jW d 0 B (S.hM.take S.boxes.length) a with
   |some vs,J cs=>match vs.length==S.res.length&&vs.all (zh S.boxes.length)with|true=>IT.dI (S.res++S.kW) (tH S.boxes.length S.res vs++(.ff::cs++aki (S.hM.drop S.boxes.length)).map .one)|false=>O
   |_,_=>O
def akj(F:gq)(A:L aE)(B:L (L E))(res:L md)(S:bm)(x:Ex×be):Tr S.Y:=
 match x.1 with
 |.exit _=>.fail|_=>((wE F.cfg.c res B.length).both (bI A x.2)).bind λy=>
  match decide (y.2.1.bR=S.bR)with
  |true=>match S.Ip y.2.1.bQ B y.1.1 y.1.2 with|some z=>.leaf z|none=>.fail
  |false=>.fail
noncomputable def O3(F:gq)(tbl:U→Q fD)(c:Code)(res:L md)(S:bm)(x:S.X):Tr S.Y:=(OL F (S.dG x) (iE S.boxes.length) tbl c 0 (wC (S.dG x) (S.ef x))).bind (akj F (S.dG x) (S.ef x) res S)
def O4{n:U}{v:aE}{vs:L aE}(h:Cq n v=J vs)(i:vs.length=n):nL vs=v:=by
 unfold Cq at h;split at h;cases h;rfl;rename_i n ws hn;split at h
 have e:=Ia (g:=ze) (f:=λp:ao×L E=>match p.1,p.2 with
   |true,cs=>J (aE.agg cs)|false,[c]=>J (.one c)|false,_=>O) (λa b d=>by
    let⟨j,cs⟩:=a
    cases j with
    |true=>cases d;rfl
    |false=>
     match cs,d with
     |[c],d=>cases d;rfl
     |[],d=>cases d
     |_::_::_,d=>cases d) ws vs h
 rw[e];match vs,i with|[],_=>rfl|[u],i=>exact bX i.symm hn|_::_::_,_=>rfl
 cases h;cases h
def YY{d:dE}{i:U}{o:L (Q Sh)}(h:(whole (.box (.inb i)) d=I∨o.all AA=W)){j:U}(a:o[j]?=J O):whole (.box (.inb (i+0))) d=I:=by
 rcases h with h|h
 exact h;have:=fO.1 h O (eA a);cases this
def Iq{d:dE}{k:Key}:∀(o:L (Q Sh))(j:U)(c b l:L E),coll d k j o c=J l→b.length=c.length→(∀(i:U)x y,o[i]?=J O→part (.box k) (j+i) d=I→b[i]?=J x→c[i]?=J y→usable y=W→y=x)→∀a rest,aJ a=aJ l→∃os,tG o (a++rest)=(os,rest)∧aJ (dQ b os)=aJ c
 |[],j,[],b,l,h,f,hk,a,rest,g=>by
  cases h;cases b with
  |nil=>
   cases a with|nil=>exact⟨[],rfl,rfl⟩|cons x r=>simp[aJ]at g
  |cons x b=>simp at f
 |none::o,j,c::cs,b,l,h,f,hk,a,rest,g=>by
  simp only[coll]at h;split at h;rename_i m;simp only[bG,kj]at m;cases b with|nil=>simp at f|cons x b=>let⟨os,h1,h2⟩:=Iq o (j+1) cs b l h (by simpa using f) (λi y z n hp hy p q=>hk (i+1) y z (by simpa using n) (by grind) (by simpa using hy) (by simpa using p) q) a rest g;refine⟨O::os,by simp only[tG,h1],?_⟩;have e:=hk 0 x c (by simp) (by simpa using m.1) rfl rfl m.2;simp_all [aJ,dQ]
  cases h
 |some sh::o,j,c::cs,b,l,h,f,hk,a,rest,g=>by
  simp only[coll]at h;split at h;rename_i l1 h1;cases h;cases b with
  |nil=>simp at f|cons x b=>
   cases a with|nil=>simp[aJ]at g|cons z a=>have s:cE z=cE c∧aJ a=aJ l1:=(by simpa[aJ]using g);let⟨os,h2,h3⟩:=Iq o (j+1) cs b l1 h1 (by simpa using f) (λi y z n hp hy p q=>hk (i+1) y z (by simpa using n) (by grind) (by simpa using hy) (by simpa using p) q) a rest s.2;simp_all [tG,aJ,dQ]
  cases h
 |[],j,c::cs,b,l,h,_,_,_,_,_=>by cases h
 |none::o,j,[],b,l,h,_,_,_,_,_=>by cases h
 |some _::o,j,[],b,l,h,_,_,_,_,_=>by cases h
def O5:∀(o:L (Q Sh))(c l:L E),Io o c=J l→∀a rest,aJ a=aJ l→∃os,tG o (a++rest)=(os,rest)∧aJ (yI os)=aJ c
 |[],[],l,h,a,rest,b=>by
  cases h;cases a with|nil=>exact⟨[],rfl,rfl⟩|cons x r=>simp[aJ]at b
 |some sh::o,c::cs,l,h,a,rest,b=>by
  simp only[Io]at h;split at h;rename_i l1 h1;cases h;cases a with|nil=>simp[aJ]at b|cons z a=>have d:cE z=cE c∧aJ a=aJ l1:=(by simpa[aJ]using b);let⟨os,h2,h3⟩:=O5 o cs l1 h1 a rest d.2;simp_all [tG,aJ,yI]
  cases h
 |[],_::_,l,h,_,_,_=>by cases h
 |none::o,_,l,h,_,_,_=>by cases h
 |some _::o,[],l,h,_,_,_=>by cases h
def Cr{l a b:L E}(h:aJ l=aJ (a++b)):∃c d,l=c++d∧aJ c=aJ a∧aJ d=aJ b:=by refine⟨l.take a.length,l.drop a.length,(l7 _ _).symm,?_,?_⟩;simp_all [aJ];simp_all [aJ]
theorem Ir{d:dE}:∀(os:L (L (Q Sh)))(i:U)(B e:L (L E))(l:L E),jW d i B os e=J l→(∀m b c,B[m]?=J b→e[m]?=J c→whole (.box (.inb (i+m))) d=I→∀j x y,part (.box (.inb (i+m))) j d=I→b[j]?=J x→c[j]?=J y→usable y=W→y=x)→∀g,aJ g=aJ l→(gM B (mQ os g)).map aJ=e.map aJ
 |[],i,[],[],l,h,_,g,k=>rfl|o::os,i,b::B,c::e,l,h,hk,g,k=>by simp only[jW]at h;split at h;rename_i n p h1 h2 h3;cases h;simp only[bG,pw,cT,kj]at h1;obtain⟨f,a,rfl,q,r⟩:=Cr k;let⟨ws,v,w⟩:=Iq o 0 c b n h2 h1.1 (λj x y A hp s hy t=>hk 0 b c rfl rfl (YY h1.2 A) j x y (by simpa using hp) s hy t) f a q;have z:=Ir os (i+1) B e p h3 (λm b c u C D j x y hp s hy t=>hk (m+1) b c (by simpa using u) (by simpa using C) (by grind) j x y (by grind) s hy t) a r;simp only[mQ,v,gM,dO];rw[w,z];cases h
 |o::os,i,[],c::e,l,h,hk,g,k=>by simp only[jW]at h;split at h;rename_i n p h2 h3;cases h;obtain⟨f,a,rfl,q,r⟩:=Cr k;let⟨ws,v,w⟩:=O5 o c n h2 f a q;have z:=Ir os (i+1) [] e p h3 (λm b c u=>by simp at u) a r;simp_all [mQ,gM];cases h
 |[],i,b::B,e,l,h,_,_,_=>by cases e<;>simp[jW]at h
 |[],i,[],c::e,l,h,_,_,_=>by simp[jW]at h|o::os,i,B,[],l,h,_,_,_=>by cases B<;>simp[jW]at h
theorem akk{l:L aE}{cs:L E}(h:l.map aA=(cs.map aE.one).map aA):aJ (l.map nN)=aJ cs:=by
 induction l generalizing cs with
 |nil=>cases cs<;>first|rfl|simp at h
 |cons u l a=>
  cases cs with
  |nil=>simp at h|cons c cs=>
   simp only[dO,xQ]at h;show cE (nN u)::aJ (l.map nN)=cE c::aJ cs;rw[a h.2];congr 1;cases u with|one x=>have:=h.1;simp only[aA,SV.one.injEq]at this;exact this|_=>simp_all [aA]
def O6{S:bm}{vs:L aE}{cs:L E}{y:S.Y}(h:IT.dI (S.res++S.kW) (vs++cs.map .one)=J y)(a:vs.length=S.res.length):((IT.inst (S.res++S.kW) y).take S.res.length).map aA=vs.map aA∧aJ (((IT.inst (S.res++S.kW) y).drop S.res.length).map nN)=aJ cs:=by have e:=IT.kA _ _ _ h;rw[px]at e;grind [List.map_take,akk,List.map_drop]
def zi(n:U):SV→SV
 |.one (.ptr (.inb i) off)=>match fi n i with|true=>.one (.d (.ck .ptr))|false=>.one (.ptr (.inb i) off)
 |v=>v
def O7(n:U)(v:aE):aA (qg n v)=zi n (aA v):=by
 have other:∀c:E,(∀i off,c≠.ptr (.inb i) off)→qg n (.one c)=.one c∧zi n (aA (.one c))=aA (.one c):=by intro c b;constructor;unfold qg;grind;unfold zi;split;rename_i i off a;have a:SV.one (cE c)=SV.one (.ptr (.inb i) off):=a;rw[SV.one.injEq]at a;exact bX (XA a) (b i off);rfl
 cases v with|one c=>grind [qg,aA,cE,zi]|_=>rfl
theorem YZ{n:U}{v:aE}(h:zh n v=W):zi n (aA v)=aA v:=by rw[←O7];congr 1;unfold qg;grind [zh]
theorem akl{n:U}{it:It}{v u:aE}(h:zh n v=W)(a:aA u=aA (O2 n it v)):aA (qg n u)=aA v:=by rw[O7,a];unfold O2;grind [aA,cE,zi,YZ]
def Y0(n:U):∀(b:L It)(vs us:L aE),vs.all (zh n)=W→us.map aA=(tH n b vs).map aA→(us.map (qg n)).map aA=vs.map aA
 |_,[],us,_,h=>by simp_all [tH]|[],v::vs,us,a,h=>by
  have base:∀(vs us:L aE),vs.all (zh n)=W→us.map aA=vs.map aA→(us.map (qg n)).map aA=vs.map aA:=by
   intro vs;induction vs with
   |nil=>simp_all|cons v vs c=>
    intro us a h;cases us with|nil=>simp at h|cons u us=>simp_all [O7,YZ]
  exact base _ us a h
 |it::b,v::vs,us,a,h=>by
  rw[l8,bG]at a;cases us with|nil=>simp[tH]at h|cons u us=>simp only[tH,dO,xQ]at h;have:=Y0 n b vs us a.2 h.2;grind [akl]
def Y1(n:U):∀(a:L It)(vs:L aE),(tH n a vs).length=vs.length
 |[],vs=>by cases vs<;>rfl
 |it::a,[]=>rfl|it::a,v::vs=>by simp[tH,Y1 n a vs]
def Y2{l:L E}{c:E}{cs:L E}(h:aJ l=aJ (c::cs))(e:c=.tt∨c=.ff):Il l=(match c with|.tt=>W|_=>I)∧aJ (l.drop 1)=aJ cs:=by
 cases l with
 |nil=>simp[aJ]at h|cons x l=>
  have h1:cE x=cE c∧aJ l=aJ cs:=by simpa[aJ]using h
  refine⟨?_,h1.2⟩;have a:=h1.1;rcases e with rfl|rfl
  cases x with
  |b v=>simp only[cE,C.d.injEq,D.bool.injEq]at a;simp[Il,a]|tt=>rfl|ff=>simp[cE]at a|l m t xs=>cases m<;>simp[cE,lC]at a
  |n m t o=>cases m<;>cases o<;>simp[cE,lC]at a
  |gone b=>cases b<;>simp[cE]at a
  |it m t xs f=>cases m<;>simp[cE,mC]at a
  |_=>simp[cE]at a
  cases x with
  |b v=>simp only[cE,C.d.injEq,D.bool.injEq]at a;simp[Il,a]|ff=>rfl|tt=>simp[cE]at a|l m t xs=>cases m<;>simp[cE,lC]at a
  |n m t o=>cases m<;>cases o<;>simp[cE,lC]at a
  |gone b=>cases b<;>simp[cE]at a
  |it m t xs f=>cases m<;>simp[cE,mC]at a
  |_=>simp[cE]at a
theorem O8{d:dE}:∀(os:L (L (Q Sh)))(i:U)(B e:L (L E))(l:L E),jW d i B os e=J l→(∀m b c,B[m]?=J b→e[m]?=J c→whole (.box (.inb (i+m))) d=I→∀j x y,part (.box (.inb (i+m))) j d=I→b[j]?=J x→c[j]?=J y→usable y=W→y=x)→∀g rest,aJ g=aJ l→(gM B (mQ os (g++rest))).map aJ=e.map aJ
 |[],i,[],[],l,h,_,g,rest,k=>rfl|o::os,i,b::B,c::e,l,h,hk,g,rest,k=>by simp only[jW]at h;split at h;rename_i n p h1 h2 h3;cases h;simp only[bG,pw,cT,kj]at h1;obtain⟨f,a,rfl,q,r⟩:=Cr k;let⟨ws,v,w⟩:=Iq o 0 c b n h2 h1.1 (λj x y A hp s hy t=>hk 0 b c rfl rfl (YY h1.2 A) j x y (by simpa using hp) s hy t) f (a++rest) q;have z:=O8 os (i+1) B e p h3 (λm b c u C D j x y hp s hy t=>hk (m+1) b c (by simpa using u) (by simpa using C) (by grind) j x y (by grind) s hy t) a rest r;simp only[mQ,List.append_assoc,v,gM,dO];rw[w,z];cases h
 |o::os,i,[],c::e,l,h,hk,g,rest,k=>by simp only[jW]at h;split at h;rename_i n p h2 h3;cases h;obtain⟨f,a,rfl,q,r⟩:=Cr k;let⟨ws,v,w⟩:=O5 o c n h2 f (a++rest) q;have z:=O8 os (i+1) [] e p h3 (λm b c u=>by simp at u) a rest r;simp_all [mQ,gM];cases h
 |[],i,b::B,e,l,h,_,_,_,_=>by cases e<;>simp[jW]at h
 |[],i,[],c::e,l,h,_,_,_,_=>by simp[jW]at h|o::os,i,B,[],l,h,_,_,_,_=>by cases B<;>simp[jW]at h
def akm{S:bm}{d:dE}{B l:L (L E)}{v:aE}{y:S.Y}(h:S.Ip d B v l=J y) (hk:∀m b c,B[m]?=J b→l[m]?=J c→whole (.box (.inb m)) d=I→∀j x z,part (.box (.inb m)) j d=I→b[j]?=J x→c[j]?=J z→usable z=W→z=x):aA v=aA (S.out y (S.flag y)).1∧l.map aJ=(gM B (S.out y (S.flag y)).2).map aJ:=by
 unfold bm.Ip at h;split at h;rename_i e;have a:S.out y (S.flag y)=(nL ((IT.inst (S.res++S.kW) y).take S.res.length),mQ S.hM (((IT.inst (S.res++S.kW) y).drop S.res.length).map nN)):=by unfold bm.out;rw[e]
 rw[a];split at h;rename_i vs cs h1 h2;split at h;rename_i h3;have f:vs.length=S.res.length:=by simpa using h3
 let⟨i,hd⟩:=O6 h f;refine⟨?_,?_⟩;show aA v=aA (nL _);rw[wF,i,←wF,O4 h1 f];grind [Ir];cases h;cases h;rename_i e;split at h;split at h;rename_i vs cs h1 h2;split at h;rename_i h3;have f:vs.length=S.res.length:=by simpa using h3
 let⟨i,hd⟩:=O6 h f;let⟨f1,f2⟩:=Y2 hd (.inl rfl);have g:S.flag y=W:=by simp_all [bm.flag]
 have a:S.out y W=(nL ((IT.inst (S.res++S.kW) y).take S.res.length),mQ S.hM ((((IT.inst (S.res++S.kW) y).drop S.res.length).map nN).drop 1)):=by unfold bm.out;rw[e]
 rw[g,a];refine⟨?_,?_⟩;show aA v=aA (nL _);rw[wF,i,←wF,O4 h1 f];grind [Ir];cases h;cases h;split at h;rename_i vs cs h1 h2;split at h;rename_i h3;simp only[bG,cT]at h3;let⟨f,k⟩:=h3;let⟨i,hd⟩:=O6 h (by rw[Y1];exact f);let⟨f1,f2⟩:=Y2 hd (.inr rfl);have g:S.flag y=I:=by simp_all [bm.flag]
 have a:S.out y I=(nL (((IT.inst (S.res++S.kW) y).take S.res.length).map (qg S.boxes.length)),mQ (S.hM.take S.boxes.length) ((((IT.inst (S.res++S.kW) y).drop S.res.length).map nN).drop 1)):=by unfold bm.out;rw[e]
 rw[g,a];refine⟨?_,?_⟩;show aA v=aA (nL _);rw[wF,Y0 S.boxes.length S.res vs _ k i,←wF,O4 h1 f];let⟨n,o,p,q,r⟩:=Cr f2;grind [O8];cases h;cases h
theorem akn(v:aE)(j:U):nw (aA v) j=aA (sN v j):=by
 have a:(aA v).cells.getD j .dead=cE (v.cells.getD j .dead):=by rw[Hh];exact getD_map cE _ j .dead
 unfold nw sN;rw[a];cases c:v.cells.getD j .dead with
 |l m t xs=>
  cases m with|own=>simp only[cE,lC];rw[setCell_eq];rfl|_=>rfl
 |n m t o=>
  cases m with
  |own=>
   cases o with|none=>grind [cE,setCell_eq,WF]|some xs=>simp only[cE,lC];rw[setCell_eq];rfl
  |_=>cases o<;>rfl
 |it m t xs d=>
  cases m with|own=>simp only[cE,mC];rw[setCell_eq];rfl|_=>rfl
 |gone b=>cases b<;>rfl
 |_=>rfl
def Y3:∀(l:L (U×U))(A:L aE),jI l (A.map aA)=(gL l A).map aA|[],A=>rfl|(i,j)::r,A=>by simp only[jI,gL];rw[←Y3 r,rh,List.map_set];grind [aA,akn]
def It.Is{i:It}(h:i.ok=W)(x:i.T):∀c∈(i.inst x).cells,nrm c=c:=by
 have j:∀{h:Sh}(x:h.T),h.plain=W→nrm (h.inst x)=h.inst x:=by
  intro h x hp;cases h with
  |l m t=>cases m<;>first|rfl|cases hp
  |n m t=>cases m<;>first|rfl|cases hp
  |_=>rfl
 have b:∀(t:Ty)(x:t.T),∀c∈dM t x,nrm c=c:=by
  intro t;induction t with|pair h t d e=>grind [dM]|bB u h t d e=>grind [dM]|set k g=>exact g|_=>intro x c a;simp only[dM,ng]at a;subst a;rfl
 have f:∀(l:L Sh)(x:HT l),l.all Sh.plain=W→∀c∈HT.inst l x,nrm c=c:=by
  intro l;induction l with
  |nil=>intro x _ c a;cases a
  |cons h r g=>
   intro x hp c a;rw[l8,bG]at hp;cases r with|nil=>simp_all [HT.inst]|cons o r=>grind [HT.inst]
 cases i with|one h=>simp_all [It.inst,aE.cells,It.ok]|row t=>exact b t x|cells l=>exact f l x h|_=>intro c a;simp only[It.inst,aE.cells,ng]at a;subst a;rfl
def IT.Is:∀(l:L It)(x:IT l),l.all It.ok=W→∀v∈IT.inst l x,∀c∈v.cells,nrm c=c
 |[],_,_=>λv hv=>by cases hv
 |i::r,x,h=>by
  rw[l8,bG]at h;intro v hv;simp only[IT.inst,iA]at hv;rcases hv with rfl|hv
  exact It.Is h.1 _;exact IT.Is r _ h.2 v hv
def Y4{k:Key}:∀{l r:L Key},k∈l→idx k (l++r)=idx k l|q::l,r,h=>by show(if k=q then 0 else idx k (l++r)+1)=if k=q then 0 else idx k l+1;by_cases e:k=q;rw[ax e,ax e];rw[aK e,aK e,Y4 (by grind)]
def ako{i n:U}{r:L Key}(h:i<n):idx (.inb i) (iE n++r)=i:=by have a:Key.inb i∈iE n:=kH.2 ⟨i,List.mem_range.2 h,rfl⟩;rw[Y4 a];exact pT (Wk n) (Wj h)
def akp{S:bm}(a:S.ok=W)(x:S.X):∀b∈S.ef x,∀c∈b,nrm c=c:=by intro b e c d;obtain⟨v,hv,rfl⟩:=kH.1 e;simp only[bm.ok,bG]at a;refine IT.Is _ x (by grind) v (List.mem_of_mem_drop hv) c ?_;cases v<;>first|exact d|(simp[Ij]at d)
def akq(A:L aE)(B:L (L E))(m:U):(bI A (wC A B)).get (.box (.inb m))={v:=match B[m]? with|some b=>.agg b|none=>.undef}:=by
 rw[jx];have:∀(B:L (L E))(i m:U),bP (.inb m) (tE i B)=if i≤m then B[m-i]? else O:=by
  intro B;induction B with
  |nil=>intro i m;simp[tE,bP]
  |cons b B a=>grind [tE,bP,eX]
 show({v:=match bP (.inb m) (tE 0 B)with|some cs=>.agg cs|none=>.undef}:cX)=_
 rw[this B 0 m];simp
def O9(fn:Func):Code:=match fn.body with|some c=>c|none=>.skip
def akr{P:dr}{f:cY}{fn:Func}{c:Code}{F:gq}{tbl:U→Q fD}{S:bm}{sh:S.X→Q S.Y}(hf:P.funcs[f]?=J fn)(hb:fn.body=J c)(OQ:P.follows .mixedOrders=W)(hC:lD P F.cfg.c) (hN:fn.ntmps=F.cfg.N)(V:S.ok=W)(hargs:S.args.length≤F.cfg.N)(hbk:∀x,kR (S.dG x) (iE S.boxes.length) F.fQ=W)(g:∀x y,sh x=J y→(O3 F tbl c fn.results.toList S x).run=J y):gn P f (S.F sh):=by
 intro args boxes r hF w vals β ω Z hsz G hpl h;unfold bm.F at hF;split at hF;rename_i x hx;split at hF;rename_i y hy;cases hF;obtain⟨rfl,rfl⟩:=bm.gO S V hx;have g:=g x y hy;refine calls_of_wp hf hb ?_;have axe:((S.dG x).map aA).length=S.args.length:=by rw[jf,bm.Im]
 have hlenB:((S.ef x).map aJ).length=S.boxes.length:=by rw[jf,bm.O0]
 have A:=ahK (N:=fn.ntmps) h hsz G hpl (by grind);have hek:=GN h;have H:hJ (cm P fn.ntmps w vals β ω Z) (S.dG x) (iE S.boxes.length):=by refine⟨by show vals.size=_;grind,λk b hk=>?_⟩;obtain⟨i,hi,rfl⟩:=hek k b hk;rw[hlenB]at hi;exact kH.2 ⟨i,List.mem_range.2 hi,rfl⟩
 have n:=(Tr.yR _ (λz=>z=y)).2 ⟨y,g,rfl⟩;unfold O3 at n;rw[all_bind]at n;have hall2:=Tr.rf n (Tr.sZ (ajY (F:=F) (tbl:=tbl) H c 0 (wC (S.dG x) (S.ef x))));have za:cR (cm P fn.ntmps w vals β ω Z) (cU (S.dG x) (wC (S.dG x) (S.ef x))) {tmps:=vals++Array.replicate (fn.ntmps-vals.size) undef,defers:=[]} w:=by rw[aj3];exact⟨⟨β,ω,Z,A⟩,by show((S.dG x).map aA).length=vals.size;omega⟩
 refine wp_mono (ajZ (K:=cm P fn.ntmps w vals β ω Z) (tbl:=tbl) hC hN OQ H (hbk x) c 0 _ _ _ w hall2 za) ?_;rintro e a w' ⟨⟨ex,R⟩,rfl,⟨T,hkeep⟩,hpr⟩;have hex:ex=.normal∨ex=.ret:=by
  cases ex with|exit i=>exact T.elim|normal=>exact .inl rfl|ret=>exact .inr rfl
 have p:(((wE F.cfg.c fn.results.toList (S.ef x).length).both (bI (S.dG x) R)).bind λy=>
   match decide (y.2.1.bR=S.bR)with
   |true=>match S.Ip y.2.1.bQ (S.ef x) y.1.1 y.1.2 with|some z=>Tr.leaf z|none=>.fail
   |false=>.fail).all (λz=>z=y):=by
  rcases hex with rfl|rfl<;>exact T
 rw[all_bind]at p;have h1:=Tr.rf (Tr.rf (Tr.rf p (aj9 F.cfg.c fn.results.toList (S.ef x).length (bI (S.dG x) R))) (Tr.sZ (akb F.cfg.c fn.results.toList (S.ef x).length (bI (S.dG x) R)))) (Tr.sZ (X5 (wE F.cfg.c fn.results.toList (S.ef x).length) (bI (S.dG x) R) (oW _ R)));let⟨⟨⟨v,t⟩,s',fr,fw⟩,_,⟨⟨h2,h3⟩,h4⟩,h5⟩:=(Tr.yR _ _).1 h1;simp only at h2 h3 h4 h5;split at h2;rename_i hfz;have hfz:s'.bR=S.bR:=iB hfz;split at h2;rename_i z hz;have e:z=y:=h2;subst e;let⟨ks,B⟩:=h4;let⟨_,C,l,hl,hk5⟩:=h5;let⟨⟨l0,hl0⟩,hk0⟩:=hkeep;have hkall:dF s'.bQ (bI (S.dG x) (wC (S.dG x) (S.ef x))) s':=by refine dF.trans ?_ hk5;rw[hl];exact hk0.more
 have akv:=akm hz (λm b c hb hc hw j u v hp hu hv huv=>by
  have hm:m<S.boxes.length:=by grind
  have d:∃o,(s'.get (.box (.inb m))).v=.agg o∧o.all (jT (iE (S.ef x).length++ks))=W∧c=o.map (kz (iE (S.ef x).length++ks)):=by
   have gen:∀(kk ks:L Key)(t:L (L E))(i:U)(k:Key)(c:L E),Holds kk s' ks t→ks[i]?=J k→t[i]?=J c→∃o,(s'.get (.box k)).v=.agg o∧o.all (jT kk)=W∧c=o.map (kz kk):=by
    intro kk ks;induction ks with
    |nil=>grind|cons q ks ih=>
     intro t i k c hh hk hc;cases t with
     |nil=>exact hh.elim|cons b t=>
      cases i with|zero=>simp only[List.getElem?_cons_zero,kI]at hk hc;subst hk hc;exact hh.1|succ i=>exact ih t i k c hh.2 (by simpa using hk) (by simpa using hc)
   refine gen _ _ t m _ c B ?_ hc;simp_all [List.getElem?_append_left,iE]
  obtain⟨orig,d,axf,rfl⟩:=d
  have D:=hkall.2 (.inb m) hw
  rw[akq,hb,d]at D
  rcases D with D|⟨cs,cs',g1,g2,g3,g4⟩
  cases D
  cases g1
  cases g2
  rw[gj]at hv
  cases Y5:orig[j]? with
  |none=>grind|some v0=>
   rw[Y5]at hv;simp only[lu,kI]at hv;let⟨u',q1,q2⟩:=g4 j hp v0 Y5;rw[hu]at q1;cases q1;have hn:=akp V x b (eA hb) u (eA hu);have jN:usable v0=W:=by
    cases v0 with|ptr k off=>rfl|_=>rw[←hv]at huv;exact huv
   have e:=Om q2 jN;rw[hn]at e;subst e;rw[←hv];cases v0 with
   |ptr k off=>obtain⟨i,rfl,hi⟩:=ake V x b (eA hb) _ (eA hu) k off rfl;show E.ptr (.inb (idx (.inb i) (iE (S.ef x).length++ks))) off=_;rw[ako (by grind)]
   |_=>rfl)
 let⟨hv,hbs⟩:=akv;let⟨β1,F5,Z1,hr⟩:=hpr.1;have s:(vR F.cfg.c fn.results.toList S.boxes.length).exec (cU (S.dG x) R).st=J ((aA v,t.map aJ),cQ s'):=by
  let⟨fr,fw,h3,_,_⟩:=h3;have h3:(vR F.cfg.c fn.results.toList (S.ef x).length).both (cQ (bI (S.dG x) R))=J ((aA v,t.map aJ),cQ s',fr,fw):=h3;rw[Cb,VU,bm.O0]at h3;cases hx:(vR F.cfg.c fn.results.toList S.boxes.length).exec (cU (S.dG x) R).st with
  |none=>rw[hx]at h3;cases h3
  |some q=>grind
 rw[hv,hbs]at s;have akx:∀k b,β k=J b→∃i,i<S.boxes.length∧k=.inb i:=by grind
 let⟨u,β',ω',Z',g1,g2⟩:=ahG (r:={v:=aA (S.out z (S.flag z)).1,boxes:=(gM (S.ef x) (S.out z (S.flag z)).2).map aJ,bR:=S.bR}) hC.yy hr hsz G h.args akx s (λi hi=>by show(bV (s'.get (.arg i))).v=(jI S.bR ((S.dG x).map aA)).getD i .undef;rw[Y3,←hfz];have:((gL s'.bR (S.dG x)).map aA).getD i .undef=aA ((gL s'.bR (S.dG x)).getD i .undef):=getD_map aA _ i .undef;rw[this];show aA ((gL s'.bR s'.args).getD i .undef)=_;rw[C];rfl);have Y6:bodyPost P fn (λe w'=>∃v β' ω' Z',e=.returned v∧Rel (cm P 1 w vals β ω Z) β' ω' Z' (dL ((S.dG x).map aA) {v:=aA (S.out z (S.flag z)).1,boxes:=(gM (S.ef x) (S.out z (S.flag z)).2).map aJ,bR:=S.bR}) {tmps:=#[v],defers:=[]} w') .ret a w':=⟨hr.defers.1,u,g1,u,β',ω',Z',rfl,g2⟩;rcases hex with rfl|rfl
 exact Y6;exact Y6;exact h2.elim;exact h2.elim;cases hF;cases hF
def zj(fn:Func):ao:=match fn.body with|some _=>W|none=>I
noncomputable def rm(F:gq)(tbl:U→Q fD)(fn:Func)(S:bm)(x:S.X):Q S.Y:=(O3 F tbl (O9 fn) fn.results.toList S x).run
def tJ{P:dr}{f:cY}{fn:Func}{F:gq}{tbl:U→Q fD}{S:bm}{sh:S.X→Q S.Y}(i:P.funcs[f]?=J fn)(m:zj fn=W)(b:P.follows .mixedOrders=W)(j:lD P F.cfg.c) (k:fn.ntmps=F.cfg.N)(e:S.ok=W)(a:S.args.length≤F.cfg.N)(g:∀x,kR (S.dG x) (iE S.boxes.length) F.fQ=W)(d:∀x,rm F tbl fn S x=sh x):gn P f (S.F sh):=by
 have l:fn.body=J (O9 fn):=by grind [zj,O9]
 exact akr i l b j k e a g λx y h=>(d x).trans h
def aky{P:dr}{f:cY}{fn:Func}{S:bm}{sh:S.X→Q S.Y}(b:P.funcs[f]?=J fn)(a:(fn.name== "runtime.NumGoroutine")=I)(c:zj fn=W)(h:gn P f (S.F sh)):jP P f (S.F sh):=by grind [zj,oO]
def nO(f:cY):L (cY×cw)→Q cw
 |[]=>O|(g,K)::r=>match f==g with|true=>J K|false=>nO f r
def Pb{f:cY}:∀{l:L (cY×cw)}{K:cw},nO f l=J K→(f,K)∈l|(g,a)::r,K,h=>by simp only[nO]at h;split at h;grind;exact gU _ (Pb h)
def cM(P:dr)(x:cY×cw):Prop:=jP P x.1 x.2.F
def wG{P:dr}{e:dJ}{l:L (cY×cw)}(hT:fT P e.c)(b:e.eu=λ_ f=>nO f l)(h:∀x∈l,cM P x):lD P e.c:=by
 refine⟨hT,λt f F a=>?_⟩;have a:(match e.eu t f with|some K=>J K.F|none=>O)=J F:=a
 rw[b]at a;simp only at a;split at a;rename_i K d;cases a;exact h _ (Pb d);cases a
def Cs(t:U)(f:cY)(l:L (cY×cw)):L (U×cY×cw)→Q cw
 |[]=>nO f l|(u,g,K)::r=>match t==u&&f==g with|true=>J K|false=>Cs t f l r
def Y7{t:U}{f:cY}{l:L (cY×cw)}:∀{s:L (U×cY×cw)}{K:cw},Cs t f l s=J K→(f,K)∈l∨(t,f,K)∈s
 |[],K,h=>.inl (Pb h)|(u,g,a)::r,K,h=>by
  simp only[Cs]at h;split at h;grind;rcases Y7 h with h|h
  exact .inl h;grind
def akz{P:dr}{e:dJ}{l:L (cY×cw)}{s:L (U×cY×cw)}(hT:fT P e.c)(b:e.eu=λt f=>Cs t f l s)(h:∀x∈l,cM P x)(g:∀x∈s,cM P x.2):lD P e.c:=by
 refine⟨hT,λt f F a=>?_⟩;have a:(match e.eu t f with|some K=>J K.F|none=>O)=J F:=a
 rw[b]at a;simp only at a;split at a;rename_i K i;cases a;rcases Y7 i with d|d
 exact h _ d;exact g _ d;cases a
def wH{P:dr}{f:cY}{fn:Func}{S:bm}{b:S.ok=W}{sh:S.X→Q S.Y}(c:P.funcs[f]?=J fn)(a:(fn.name== "runtime.NumGoroutine")=I)(d:zj fn=W)(h:gn P f (S.F sh)):cM P (f,S.eu b sh):=aky c a d h
def Iu(f:aW→Q Ty):L (U×aW)→Q Ty
 |[]=>O|(_,t)::r=>match r with
  |[]=>f t|x::r=>match f t,Iu f (x::r)with|some a,J b=>J (.pair a b)|_,_=>O
def Ct(cfg:bg):U→aW→Q Ty
 |0,_=>O|n+1,t=>match cfg.ti t with
  |some {kind:=.bool, ..}=>J .bool|some {kind:=.int k, ..}=>J (.int k)|some {kind:=.str, ..}=>J .str|some {kind:=.slice e, ..}=>match cfg.ti e,Ct cfg n e with|some i,J r=>if i.size=r.e then J (.sl r)else O|_,_=>O
  |some {kind:=.struct fs, ..}=>Iu (Ct cfg n) fs|_=>O
def Wf:(t:Ty)→t.T→Prop
 |.int k,x=>k.min≤x∧x≤k.max|.bool,_=>cZ|.str,_=>cZ|.sl r,o=>match o with|none=>cZ|some xs=>∀x∈xs,Wf r x
 |.pair h t,x=>Wf h x.1∧Wf t x.2|.bB _ h t,x=>Wf h x.1∧Wf t x.2|.set k,x=>Wf k x
def kX:(t:Ty)→t.T→U
 |.int _,_=>1|.bool,_=>1|.str,s=>s.length+1|.sl r,o=>match o with|none=>1|some xs=>(xs.map (kX r)).sum+1
 |.pair h t,x=>kX h x.1+kX t x.2|.bB _ h t,x=>kX h x.1+kX t x.2|.set k,x=>kX k x
def ro:∀(t:Ty)(x:t.T),gy (aP t x)=kX t x
 |.int _,_=>rfl|.bool,_=>rfl|.str,s=>by simp[aP,gy,sM,kX]|.sl r,o=>by
  cases o with
  |none=>rfl|some xs=>
   simp only[aP,gy,sM,kX,Nat.add_zero];congr 1;induction xs with|nil=>rfl|cons x xs a=>simp only[dO,nD,List.sum_cons,ro r x,a]
 |.pair h t,x=>by simp only[aP,GR,ro h x.1,ro t x.2,kX]|.bB _ h t,x=>by simp only[aP,GR,ro h x.1,ro t x.2,kX]|.set k,x=>by simp only[aP,ro k x,kX]
theorem Y8{c:aW→L D→Prop}{f:aW→Q Ty}(h:∀t ds ty,c t ds→f t=J ty→∃x:ty.T,ds=aP ty x∧Wf ty x):∀(fs:L (U×aW))(ds:L D)(ty:Ty),GQ c fs ds→Iu f fs=J ty→∃x:ty.T,ds=aP ty x∧Wf ty x
 |[],ds,ty,_,e=>by cases e
 |(o,t)::r,ds,ty,d,e=>by
  obtain⟨a,b,rfl,h1,h2⟩:=d;cases r with|nil=>have h2:b=[]:=h2;subst h2;rw[List.append_nil];exact h t a ty h1 e|cons y r=>simp only[Iu]at e;split at e;rename_i g i j k;cases e;obtain⟨x,rfl,l⟩:=h t a g h1 j;obtain⟨z,rfl,m⟩:=Y8 h (y::r) b i h2 k;exact⟨(x,z),rfl,l,m⟩;cases e
def Cu{cfg:bg}:∀(n:U)(t:aW)(ds:L D)(ty:Ty),mD cfg n t ds→Ct cfg n t=J ty→∃x:ty.T,ds=aP ty x∧Wf ty x:=by
 intro n;induction n with
 |zero=>intro t ds ty h;exact h.elim
 |succ n j=>
  intro t ds ty h e;simp only[mD]at h;simp only[Ct]at e;split at e;rename_i a;rw[a]at h;cases e;obtain⟨b,rfl⟩:=h;exact⟨b,rfl,trivial⟩;rename_i a;rw[a]at h;cases e;obtain⟨x,rfl,h2⟩:=h;exact⟨x,rfl,h2⟩;rename_i a;rw[a]at h;cases e;obtain⟨x,rfl,_⟩:=h;exact⟨x,rfl,trivial⟩;rename_i k _ a;rw[a]at h;simp only at h;split at e;rename_i i r hi l;rw[hi]at h;simp only at h;split at e;rename_i m;cases e;rcases h with rfl|⟨xs,rfl,c,g⟩
  exact⟨O,rfl,trivial⟩;have:∃ys:L r.T,xs=ys.map (aP r)∧∀y∈ys,Wf r y:=by
    clear c;induction xs with|nil=>simp_all|cons x xs d=>let⟨y,o,s⟩:=j k x r (g x (List.mem_cons_self ..)) l;let⟨ys,p,u⟩:=d λz q=>g z (gU _ q);exact⟨y::ys,by rw[o,p];rfl,by grind⟩
  obtain⟨ys,rfl,f⟩:=this;exact⟨J ys,by rw[m];rfl,f⟩;cases e;cases e;grind [Y8];cases e
def Pc(cfg:bg)(n:U)(t:aW):Q It:=
 match cfg.ti t with
 |some i=>match i.kind.agg,Ct cfg n t with|true,J a=>J (.row a)|false,J (.int k)=>J (.one (.i k))|false,J .bool=>J (.one .b)|false,J .str=>J (.one .s)|false,J (.sl r)=>J (.one (.n .data r))|_,_=>O
 |none=>O
def Iv(cfg:bg)(n:U):L aW→Q (L It)
 |[]=>J []|t::r=>match Pc cfg n t,Iv cfg n r with|some i,J l=>J (i::l)|_,_=>O
def WfS:(h:Sh)→h.T→Prop|.i k,x=>k.min≤x∧x≤k.max|.b,_=>cZ|.s,_=>cZ|.l _ t,xs=>∀x∈xs,Wf t x|.n _ t,o=>Wf (.sl t) o|.p _ _,_=>cZ|.dd,_=>cZ|.u _,_=>cZ|.r _,_=>cZ
def akB:(h:Sh)→h.T→U|.i _,_=>1|.b,_=>1|.s,x=>x.length+1|.l _ t,xs=>(xs.map (kX t)).sum+1|.n _ t,o=>kX (.sl t) o|.p _ _,_=>0|.dd,_=>0|.u _,_=>0|.r _,_=>0
def Y9:(i:It)→i.T→Prop|.one h,x=>WfS h x|.row t,x=>Wf t x|_,_=>cZ
def Za:(i:It)→i.T→U|.one h,x=>akB h x|.row t,x=>kX t x|_,_=>0
def Iw:(l:L It)→IT l→Prop|[],_=>cZ|i::r,x=>Y9 i (IT.hd i r x)∧Iw r (IT.tl IT.dflt i r x)
def Ix:(l:L It)→IT l→U|[],_=>0|i::r,x=>Za i (IT.hd i r x)+Ix r (IT.tl IT.dflt i r x)
def akC{cfg:bg}{n:U}{t:aW}{ds:L D}{i:It}(h:mD cfg n t ds)(e:Pc cfg n t=J i):∃x:i.T,pX cfg t ds=aA (i.inst x)∧Y9 i x∧Za i x=gy ds:=by unfold Pc at e;unfold pX;split at e;rename_i ti d;rw[d];simp only;split at e;rename_i f b a;cases e;obtain⟨x,rfl,c⟩:=Cu n t ds f h a;rw[ax b];refine⟨x,?_,c,(ro f x).symm⟩;show _=SV.agg (aJ (dM f x));rw[jw];rename_i k b a;cases e;obtain⟨x,rfl,c⟩:=Cu n t ds _ h a;rw[aK (by simp[b])];exact⟨x,rfl,c,rfl⟩;rename_i b a;cases e;obtain⟨x,rfl,c⟩:=Cu n t ds _ h a;rw[aK (by simp[b])];exact⟨x,rfl,c,rfl⟩;rename_i b a;cases e;obtain⟨x,rfl,c⟩:=Cu n t ds _ h a;rw[aK (by simp[b])];exact⟨x,rfl,c,(ro .str x).symm⟩;rename_i r b a;cases e;obtain⟨x,rfl,c⟩:=Cu n t ds _ h a;rw[aK (by simp[b])];refine⟨x,?_,c,(ro (.sl r) x).symm⟩;cases x<;>rfl;cases e;cases e
def Zb{cfg:bg}{n:U}:∀(ts:L aW)(a:L (L D))(l:L It),a.length=ts.length→Vs.aG (λt x=>mD cfg n t x) ts a→Iv cfg n ts=J l→∃x:IT l,iW cfg ts a=(IT.inst l x).map aA∧Iw l x∧Ix l x=nD a
 |[],[],l,_,_,e=>by cases e;exact⟨(),rfl,trivial,rfl⟩
 |t::ts,ds::a,l,c,b,e=>by simp only[Iv]at e;split at e;rename_i i r h1 h2;cases e;let⟨x,d,f,g⟩:=akC b.1 h1;let⟨y,j,k,m⟩:=Zb ts a r (by simpa using c) b.2 h2;refine⟨IT.cons i r x y,?_,?_,?_⟩;simp only[iW,IT.inst,dO,IT.Cm,IT.Cn,d,j];simp only[Iw,IT.Cm,IT.Cn];exact⟨f,k⟩;simp only[Ix,IT.Cm,IT.Cn,nD,g,m];cases e
 |[],_::_,_,h,_,_=>by simp at h|_::_,[],_,h,_,_=>by simp at h
open Go.ChangeShapes in
def akD{H:Type}{enc:aW×az→H}{P:dr}{a:bD}{cfg:bg}{base:U}{args:bv az}{ds K:L (iN H)}{d:L MemPlace}{f:cY}{fn:Func}{sp:ChangeSpec}{n m:U}{ts:L aW}{tb:aW}{l:L It} {sh:IT (l++[])→Q ao}(w:bm.ok {args:=l,res:=[.one .b]}=W)(N:gn P f (bm.F {args:=l,res:=[.one .b]} sh))(hT:fT P cfg)(k:sp.vars=[])(c:fn.params.toList=ts)(z:fn.resultTypes=#[tb])(o:P.underlying tb=J .bool) (h:Iv cfg n ts=J l) (i:∀t∈ts,nC cfg n t=W)(p:laidOutB P=W)(q:∀t∈ts,P.readableRec t=W∧t<P.types.size)(B:pW H)(hm:B.all ds≤m) (r:∀x:IT l,Iw l x→Ix l x≤m→∃y:IT (l++[]),IT.inst (l++[]) y=IT.inst l x∧sh y=J W) (A:∀ds:L (iN H),ds.length=ts.length→sp.fn H (ds++[])={results:=[.lit (.bool W)],args:=ds}) (s:(∀g l,(g,l)∈su P→g<a.heap.size∧oD a g l)∧∀g,g∈vq P→g<a.heap.size∧vr a g) (u:∀(j:U)t v,fn.params[j]?=J t→args[j]?=J v→Value.okWide P a .any base t v) (R:DataW.Whole enc P fn.params.toList sp.vars I a args.toList ds K d):Calls P f args a λe W'=>∃v,e=.returned v∧sp.post enc P fn I W I I a args v W':=by
 refine ahS N hT k c z o i p q B (λD h1 h2 h3=>?_) A s u R;let⟨x,S,T,Y⟩:=Zb ts D l h1 h2 h;let⟨y,hy,V⟩:=r x T (by omega);have hd:=bm.kV {args:=l,res:=[.one .b]} w y;have X:(bm.dG {args:=l,res:=[.one .b]} y)=IT.inst l x:=by show(IT.inst (l++[]) y).take l.length=_;grind [IT.Cp]
 have G:(bm.ef {args:=l,res:=[.one .b]} y)=[]:=by show((IT.inst (l++[]) y).drop l.length).map Ij=_;simp_all [IT.Cp]
 rw[X,G]at hd;rw[S];unfold bm.F;rw[show([]:L (L C))=([]:L (L E)).map aJ from rfl,hd];simp only[V,G];rfl
@[simp] theorem aw{ρ α:Type}(x:ρ)(k:ρ→Q α):ak (J x) k=k x:=rfl
@[simp] def axh{ρ α:Type}(k:ρ→Q α):ak O k=O:=rfl
@[simp] def axj{ρ σ α:Type}(x:ρ)(k:ρ→Q α)(k':σ→Q α):cC (.inl x) k k'=k x:=rfl
@[simp] def o0{ρ σ α:Type}(x:σ)(k:ρ→Q α)(k':σ→Q α):cC (.inr x) k k'=k' x:=rfl
def Zc{ρ:Type}(o:Q ρ):(ak o λx=>J x)=o:=by cases o<;>rfl
theorem wrap_i64{n:M}(a: -9223372036854775808≤n)(h1:n≤9223372036854775807):aO.wrap n=n:=by simp only[IntKind.wrap,IntKind.bits,Fc];simp;omega
def cI{i:U}(h:i<9223372036854775807):aO.wrap ((i:M)+1)=((i+1:U):M):=by rw[wrap_i64 (by omega) (by omega)];omega
def eo{n:M}(h: -9223372036854775808≤n∧n≤9223372036854775807):aO.wrap n=n:=wrap_i64 h.1 h.2
@[simp] theorem dp{α:Type}(l:L α):af l=(l.length:M):=by rw[af]
def Zd{σ ρ:Type}{f:σ→Option (σ⊕ρ)}(I:σ→Prop)(m:σ→U)(Q:ρ→Prop) (step:∀x,I x→match f x with|some (.inl y)=>I y∧m y<m x|some (.inr r)=>Q r|none=>gT):∀(n:U)(x:σ),I x→m x<n→∃r,dy f n x=J r∧Q r|0,_,_,h=>bX h (Nat.not_lt_zero _)|n+1,x,b,h=>by have a:=step x b;unfold dy;split<;>rename_i e;rename_i y;rw[e]at a;exact Zd I m Q step n y a.1 (by omega);grind;grind
def eY{σ ρ:Type}{f:σ→Option (σ⊕ρ)}(I:σ→Prop)(m:σ→U)(Q:ρ→Prop) (step:∀x,I x→match f x with|some (.inl y)=>I y∧m y<m x|some (.inr r)=>Q r|none=>gT)(x:σ)(a:I x)(hm:m x<fuel):∃r,bA f x=J r∧Q r:=Zd I m Q step fuel x a hm
def Ze{σ ρ:Type}{f:σ→Q (σ⊕ρ)}(mk:U→σ)(n:U)(P:U→Prop)(bad good:ρ) (yes:∀i,i<n→P i→f (mk i)=J (.inl (mk (i+1))))(no:∀i,i<n→¬P i→f (mk i)=J (.inr bad))(stop:f (mk n)=J (.inr good))(hn:n<fuel):((∀i,i<n→P i)→bA f (mk 0)=J good)∧((¬ ∀i,i<n→P i)→bA f (mk 0)=J bad):=by
 have key:∀(k i:U),i+k=n→∀m,k<m→((∀j,i≤j→j<n→P j)→dy f m (mk i)=J good)∧((¬ ∀j,i≤j→j<n→P j)→dy f m (mk i)=J bad):=by
  intro k;induction k with
  |zero=>intro i hi m b;obtain⟨m,rfl⟩:∃q,m=q+1:=⟨m-1,by omega⟩;grind [dy]
  |succ k d=>intro i hi m b;obtain⟨m,rfl⟩:∃q,m=q+1:=⟨m-1,by omega⟩;by_cases hp:P i;grind [dy];grind [dy]
 let⟨h1,h2⟩:=key n 0 (by omega) fuel hn;exact⟨λh=>h1 λj _ a=>h j a,λh=>h2 λc=>h λj a=>c j (fm _) a⟩
def lL{α β:Type}{xs:L α}{k:U}(h:k<xs.length){A B C:Q β}:(if decide ((k:M)<af xs)=W then(if decide (0≤(k:M)∧(k:M)<af xs)=W then A else B)else C)=A:=by simp_all
def dq{α β:Type}{xs:L α}{k:U}(h:k<xs.length){A C:Q β}:(if decide ((k:M)<af xs)=W then A else C)=A:=by simp_all
theorem eZ{α β:Type}{xs:L α}{A C:Q β}:(if decide ((xs.length:M)<af xs)=W then A else C)=C:=by simp_all
theorem getD_at{α:Type}{xs:L α}{k:U}{d:α}(h:k<xs.length):xs.getD ((k:M)).toNat d=xs[k]:=by grind
def Ok{α:Type}(o:Option α)(Q:α→Prop):Prop:=∃x,o=J x∧Q x
namespace Ok
variable{α β:Type}{Q:α→Prop}
theorem ret{x:α}(h:Q x):Ok (J x) Q:=⟨x,rfl,h⟩
theorem mono{o:Option α}{R:α→Prop}(h:Ok o R)(hi:∀x,R x→Q x):Ok o Q:=by let⟨x,e,a⟩:=h;exact⟨x,e,hi x a⟩
theorem call{ρ:Type}{o:Option ρ}{k:ρ→Option α}{R:ρ→Prop}(h:Ok o R)(hk:∀x,R x→Ok (k x) Q):Ok (ak o k) Q:=by obtain⟨x,rfl,a⟩:=h;exact hk x a
def ite{c:Prop}[Decidable c]{a b:Option α}(d:c→Ok a Q)(e:¬c→Ok b Q):Ok (if c then a else b) Q:=by grind
def pos{c:Prop}[Decidable c]{a b:Option α}(h:c)(d:Ok a Q):Ok (if c then a else b) Q:=by rw[ax h];exact d
def neg{c:Prop}[Decidable c]{a b:Option α}(h:¬c)(d:Ok b Q):Ok (if c then a else b) Q:=by rw[aK h];exact d
def dec{c:Prop}[Decidable c]{a b:Option α}(d:c→Ok a Q)(e:¬c→Ok b Q):Ok (if decide c=W then a else b) Q:=ite (λh=>d (iB h)) (λh=>e (λf=>h (decide_eq_true f)))
def loop{σ ρ:Type}{f:σ→Option (σ⊕ρ)}{R:ρ→Prop}(I:σ→Prop)(m:σ→Nat){x:σ}(a:I x)(hm:m x<fuel) (step:∀x,I x→Ok (f x) (λy=>match y with|.inl y=>I y∧m y<m x|.inr r=>R r)):Ok (bA f x) R:=by refine eY I m R (λx b=>?_) x a hm;obtain⟨y,e,hy⟩:=step x b;grind
def app{a:Type}{o:Option (L a)}{A B:Option α}{k:Prop}(b:∀xs,o=J xs→Ok A Q)(hn:o=O→Ok B Q)[Decidable k](hk:k↔o.isSome=W):Ok (if k then A else B) Q:=by
 cases o with|none=>grind|some xs=>grind
end Ok
def Zf{H:Type}(B:pW H):∀(a b:L (iN H)),B.all a≤B.all (a++b)|[],b=>by rw[B.nil];exact fm _|x::a,b=>by rw[List.cons_append,B.cons,B.cons];exact Nat.add_le_add_left (Zf B a b) _
end Go.Ve
namespace Go.Ve
open Go Go.ChangeShapes Go.WideShapes Go.RowKit Go.Vs
def Zg{P:dr}{w:bD}:∀{l:L (String×iN bu)}{ps:L MemPlace}{n:String}{d:iN bu},DataW.LaidVars P w l ps→(n,d)∈l→∃g t cs fuel p,P.globalNamed n=J g∧(P.globals[g]?).map (·.type)=J t∧w.var? P n=J cs∧DataW.trod (λ_=>()) P w 0 (λ_=>W) I fuel t cs.toList=J (d,p)
 |[],_,_,_,_,h=>by cases h
 |(c,d0)::r,ps,n,d,h,a=>by
  obtain⟨g,t,cs,fuel,p,q,f,i,j,k,b,rfl⟩:=h;rcases iA.1 a with e|a
  grind;exact Zg b a
def akE{P:dr}{a:bD}{laid:L (String×iN bu)}{n:String}{k:IntKind}{b:L M}{g:U}{t e N:U}(h:laidMet P laid a)(hm:(n,DataW.agg (b.map λz=>.lit (.int k z)))∈laid) (c:P.globalNamed n=J g)(w:(P.globals[g]?).map (·.type)=J t)(d:P.underlying t=J (.array N e))(f:P.underlying e=J (.int k))(i:P.cellsOf e=1)(G:b.length=N)(x:P.cellsOf t=N):oD a g (b.map λz=>.int k z):=by
 let⟨ps,hv,_⟩:=h;let⟨H,K,cs,fuel,p,y,A,s,hd⟩:=Zg hv hm;obtain rfl:=qG (c.symm.trans y);obtain rfl:=qG (w.symm.trans A);let⟨xs,m,_,B,C,R,j⟩:=DataW.trod_array d hd;intro r;rw[gj];cases D:b[r]? with
 |none=>
  have:N≤r:=by grind
  rw[awl c s r,←oc,List.getElem?_eq_none (by omega)];rfl
 |some z0=>
 have l:=D;rw[lu];have o:r<N:=by grind
 have u:=j r o;rw[i,Nat.mul_one,du (by omega)]at u;let⟨z,f1,f2,_⟩:=DataW.trod_int f u;have q:(xs.map (·.1))=b.map λn=>.lit (.int k n):=(DataW.agg.inj (Prod.mk.inj B).1).symm;have v:(xs.map (·.1))[r]?=(b.map λn=>(DataW.lit (.int k n):iN bu))[r]? :=by rw[q]
 rw[gj,gj,du (by omega:r<xs.length),l,f2]at v;have E:z=z0:=by simpa using v
 subst E;rw[awl c s r];have:cs.toList[r]?=J (.int k z):=by
  have F:((cs.toList.drop r).take 1)[0]?=J (.int k z):=by rw[f1];rfl
  simpa using F
 simpa using this
end Go.Ve
namespace Go.Ve
open Go Go.Vs
def akF{a:bD}{g:U}{l:L az}{v:az}(h:oD a g l)(b:l[0]?=J v):g<a.heap.size:=by have c:=h.get b;grind [World.cell?]
end Go.Ve
namespace Go.Vs
def ZR:D→ao|.sl _ _|.rep _ _=>I|_=>W
def amJ:C→ao|.d x=>ZR x|_=>I
def scalar(v:SV):ao:=v.cells.all amJ
def amK{w w':World}{Z Z':Nat→Prop}{d:D}{v:Value}(hd:ZR d=W)(h:a6 w Z d v):a6 w' Z' d v:=by cases d<;>first|(cases hd;done)|exact h
section
variable{P:Program}{w:World}{vals:Array Value}{β:Key→Option Nat}{ω:Nat→Option cj}{Z:Nat→Prop}{args:List SV}
def ExC(w:World)(Z:Nat→Prop)(bks:List Nat)(c:C)(u:Value):Prop:=(∃d,c=.d d∧a6 w Z d u)∨∃i b,c=.ptr (.inb i) 0∧bks[i]?=J b∧u=.pointer (J ⟨b,0,O⟩)
def Ab{boxes:List (List C)}(l:Rel (cm P 0 w vals β ω Z) β ω Z (cA args boxes) {tmps:=#[],defers:=[]} w)(Y:args.all jO=W){w':World}{v:Value}{r:pC}{Z':Nat→Prop}{bks:List Nat}(hos:w'.os=w.os)(D:w'.tape=w.tape)(N:w'.output=w.output) (E:w.heap.size≤w'.heap.size)(A:∀b,b<w.heap.size→ω b=O→w'.heap[b]?=w.heap[b]?)(hZ:∀b,Z b→Z' b)(hZn:∀b,Z' b→Z b∨w.heap.size≤b)(hZl:∀b,Z' b→b<w'.heap.size)(hf:r.bR=[]) (hv:bj (ExC w' Z' bks) v r.v)(hl:r.boxes.length=bks.length)(hnd:bks.Nodup) (F:∀(i b:Nat)cs,bks[i]?=J b→r.boxes[i]?=J cs→¬Z' b∧(b<w.heap.size→ω b≠O)∧∃(ws:Array Value)(el:aW)(lo hi:Nat),w'.heap[b]?=J (.cells ws el (lo,hi))∧(∀o,o<ws.size→¬(lo≤o∧o<hi))∧∃ds,cs=ds.map C.d∧aG (λu d=>a6 w' Z' d u) ws.toList ds) (hin:∀i,i<boxes.length→∃b,bks[i]?=J b∧β (.inb i)=J b):Rel (cm P 1 w vals β ω Z) (λk=>match k with|.inb i=>bks[i]? |_=>O) (λb=>if b∈bks then J (.box (.inb (bks.idxOf b)),O)else O) Z' (dL args r) {tmps:=#[v],defers:=[]} w':=by
 have hzf:∀b,Z b→w'.heap[b]?=w.heap[b]? :=λb G=>A b (l.cD b G) (by
  cases hω:ω b with|none=>rfl|some g=>exact bX G (l.c9 b g hω).1)
 have H:=GN l;have hold:∀k b,β k=J b→(match k with|.inb i=>bks[i]? |_=>O)=J b:=by intro k b hk;obtain⟨i,hi,rfl⟩:=H k b hk;let⟨b',y,n⟩:=hin i hi;rw[hk]at n;cases n;exact y
 have s:∀i,(dL args r (.arg i)).v=args.getD i .undef:=by intro i;simp[dL,hf,jI]
 have Wn:∀(i b:Nat),bks[i]?=J b→∃cs,r.boxes[i]?=J cs:=λi b h=>⟨_,List.getElem?_eq_getElem (by rw[hl];exact(List.getElem?_eq_some_iff.1 h).1)⟩;refine⟨rfl,⟨rfl,l.defers.2⟩,hos,D,N,E,?_,hZl,hZ,λb G=>(hZn b G).imp id .inl,?_,?_,?_,?_,?_,?_,hold⟩;simp_all [cm];intro t;cases t with
 |zero=>
  refine bj.mono (λc u m B=>?_) hv;rcases B with⟨d,rfl,hd⟩|⟨i,b,rfl,z,rfl⟩
  exact hd;exact⟨b,z,rfl⟩
 |succ t=>trivial
 intro i;rw[s];refine bj.mv (λj c u m X B=>?_) (l.args i);have R:=GL Y m;cases c with
 |d x=>exact a6.mono (λb G=>⟨hzf b G,hZ b G⟩) _ _ B|own e xs=>
  by_cases K:isMap e=W;obtain⟨b,rfl,h2⟩:=(aH.jh K).1 B;let⟨y,n⟩:=l.gw i j e xs _ b m X (kr ..);grind [aH.jh,dh.mono,cm];have K:isMap e=I:=by simpa using K
  let⟨ad,cap,h1,h2,h3,h4⟩:=(aH.gY K).1 B;subst h1;let⟨y,n⟩:=l.gw i j e xs _ ad.block m X rfl;grind [aH.gY,cH.mono,cm]
 |ptr k off=>let⟨b,y,n⟩:=B;exact⟨b,hold k b y,n⟩
 |cy f caps=>let⟨vs,y,n⟩:=B;exact⟨vs,y,n.ju λu p hp⟨b,q1,q2⟩=>⟨b,hold _ b q1,q2⟩⟩
 |_=>cases R
 intro k;cases k with
 |inb i=>
  show di _ _ _ _ _ _ _ _ (match r.boxes[i]? with|some cs=>.agg cs|none=>.undef)
  cases z:r.boxes[i]? with|none=>show bks[i]?=O;rw[List.getElem?_eq_none_iff]at z ⊢;omega|some cs=>have hi:i<bks.length:=(by rw[←hl];exact(List.getElem?_eq_some_iff.1 z).1);have S:=List.getElem?_eq_getElem hi;obtain⟨y,n,ws,el,lo,T,g3,g4,ds,rfl,g5⟩:=F i _ cs S z;refine⟨bks[i],ws,el,lo,T,S,?_,g3,g4,?_⟩;show(if bks[i]∈bks then _ else _)=_;rw[ax (List.getElem_mem hi),hnd.idxOf_getElem];refine aG.c8 (by simpa using g5.length) λj a c ha m=>?_;rw[List.getElem?_map,Option.map_eq_some_iff]at m;obtain⟨d,hd,rfl⟩:=m;let⟨u,h1,h2⟩:=g5.get hd;rw[ha]at h1;cases h1;exact h2
 |loc t=>exact rfl|esc t i=>exact rfl
 intro q j e xs u1 b1 B m hh V;exfalso;cases q with
 |tmp t=>
  cases t with
  |zero=>let⟨u,_,X⟩:=hv.cell m;rcases X with⟨d,h,_⟩|⟨i,b,h,_⟩<;>cases h
  |succ t=>simp[dL,SV.cells]at m
 |arg i=>simp[aD.isArg]at B|box k=>
  cases k with
  |inb i=>
   have m:(match r.boxes[i]? with|some cs=>SV.agg cs|none=>.undef).cells[j]?=J (.own e xs):=m
   cases z:r.boxes[i]? with|none=>rw[z]at m;simp[SV.cells]at m|some cs=>rw[z]at m;have hi:i<bks.length:=(by rw[←hl];exact(List.getElem?_eq_some_iff.1 z).1);obtain⟨_,_,_,_,_,_,_,_,ds,rfl,_⟩:=F i _ cs (List.getElem?_eq_getElem hi) z;simp[SV.cells]at m
  |loc t=>simp[dL,SV.cells]at m|esc t i=>simp[dL,SV.cells]at m
 intro i j e xs u1 b1 m hh V;rw[s]at m;exact l.gw i j e xs u1 b1 m hh V;intro b g h;split at h;rename_i K;let⟨i,hi⟩:=List.getElem?_of_mem K;let⟨cs,hcs⟩:=Wn i b hi;let⟨y,n,ws,el,lo,T,g3,_⟩:=F i b cs hi hcs;exact⟨y,by grind,n⟩;cases h
def Ac(f:Rel (cm P 0 w vals β ω Z) β ω Z (cA args []) {tmps:=#[],defers:=[]} w)(l:args.all jO=W){w':World}{v:Value}{r:pC}(m:w'.os=w.os)(g:w'.tape=w.tape)(j:w'.output=w.output) (a:w.heap.size≤w'.heap.size)(e:∀b,b<w.heap.size→ω b=O→w'.heap[b]?=w.heap[b]?){K₀:Ctx}{β₀:Key→Option Nat}{Z₀:Nat→Prop}{s₀:St}{a₀:Act}{w₀:World} (hv:bj (aH K₀ β₀ Z₀ s₀ a₀ w₀) v r.v)(n:scalar r.v=W)(p:r.boxes=[])(q:r.bR=[]):Rel (cm P 1 w vals β ω Z) (λk=>match k with|.inb i=>([]:List Nat)[i]? |_=>O) (λb=>if b∈([]:List Nat)then J (.box (.inb (([]:List Nat).idxOf b)),O)else O) Z (dL args r) {tmps:=#[v],defers:=[]} w':=by
 refine Ab f l m g j a e (λ_ h=>h) (λ_ h=>.inl h) (λb s=>Nat.lt_of_lt_of_le (f.cD b s) a) q (bj.mono (λc u t y=>?_) hv) (by rw[p];rfl) List.nodup_nil (λi b cs h=>by simp at h) (λi h=>bX h (Nat.not_lt_zero i));have o:=List.all_eq_true.1 n c t;cases c with|d x=>exact .inl ⟨x,rfl,amK o y⟩|_=>cases o
end
section
variable{P:Program}{w0 w:World}{vals vals':Array Value}{β:Key→Option Nat}{ω:Nat→Option cj}{Z Z1:Nat→Prop}{args args':List SV}{boxes:List (List C)}
def abC{K p:Ctx}{s s':St}{a q:Act}(hk:∀b,b<w0.heap.size→w.heap[b]?=w0.heap[b]?)(m:∀b,Z b→b<w0.heap.size∧Z1 b){c:C}{u:Value} (n:∀e xs b,c=.own e xs→dB u=J b→b<w0.heap.size)(h:aH K β Z s a w0 c u)(j:oL c=W∨c=.dead):aH p β Z1 s' q w c u:=by
 have g:∀b,Z b→w.heap[b]?=w0.heap[b]? ∧Z1 b:=λb o=>⟨hk b (m b o).1,(m b o).2⟩;cases c with
 |d x=>exact a6.mono g _ _ h|own e xs=>
  by_cases i:isMap e=W;obtain⟨b,rfl,h2⟩:=(aH.jh i).1 h;exact(aH.jh i).2 ⟨b,rfl,dh.mono g _ _ _ (hk b (n e xs b rfl (kr ..))) h2⟩;have i:isMap e=I:=by simpa using i
  obtain⟨l,cap,rfl,h2,h3,r⟩:=(aH.gY i).1 h;exact(aH.gY i).2 ⟨l,cap,rfl,h2,h3,cH.mono g _ _ _ _ (hk l.block (n e xs l.block rfl rfl)) r⟩
 |ptr k off=>exact h|cy f caps=>exact h|dead=>trivial|_=>exact bX j (by simp[oL])
def axs(a:Rel (cm P 0 w0 vals β ω Z) β ω Z (cA args boxes) {tmps:=#[],defers:=[]} w0)(y:cn w0.heap.size w0 w)(hZ:∀b,Z b→Z1 b)(H:∀b,Z1 b→Z b∨w0.heap.size≤b)(K:∀b,Z1 b→b<w.heap.size) (B:∀(i:Nat)cs,boxes[i]?=J cs→∀c∈cs,oL c=W∨c=.dead)(N:∀(i:Nat)c,c∈(args'.getD i .undef).cells→∀e xs,c≠.own e xs) (z:∀i,bj (aH (cm P 0 w vals' β ω Z1) β Z1 (cA args' boxes) {tmps:=#[],defers:=[]} w) (vals'.getD i undef) (args'.getD i .undef)):Rel (cm P 0 w vals' β ω Z1) β ω Z1 (cA args' boxes) {tmps:=#[],defers:=[]} w:=by
 have hz:∀b,Z b→b<w0.heap.size∧Z1 b:=λb h=>⟨a.cD b h,hZ b h⟩;have f:∀b g,ω b=J g→b<w0.heap.size:=λb g h=>(a.c9 b g h).2.1;let⟨R,S⟩:=a.defers.2;have d:∀g o,g<w0.heap.size→w.cell? ⟨g,o,O⟩=w0.cell? ⟨g,o,O⟩:=λg o C=>cell_of_heap (y.block g C) o O;refine⟨rfl,⟨rfl,λg l C=>?_,λg C=>?_⟩,rfl,rfl,rfl,Nat.le_refl _,λ_ _ _=>rfl,K,λ_ h=>h,λ_ h=>.inl h,λt=>?_,z,λk=>?_,?_,?_,?_,λ_ _ h=>h⟩;let⟨h1,h2,h3,T⟩:=R g l C;exact⟨Nat.lt_of_lt_of_le h1 y.size,hZ g h2,h3,λj=>(d g j h1).trans (T j)⟩;let⟨h1,h2,h3,m,T⟩:=S g C;exact⟨Nat.lt_of_lt_of_le h1 y.size,hZ g h2,h3,m,(d g 0 h1).trans T⟩;trivial;have hk:=a.boxes k;cases k with
 |inb i=>
  show di _ _ _ _ _ _ _ _ (match boxes[i]? with|some cs=>.agg cs|none=>.undef)
  have hk:di _ _ _ _ _ _ _ _ (match boxes[i]? with|some cs=>SV.agg cs|none=>.undef):=hk
  cases q:boxes[i]? with|none=>rw[q]at hk;exact hk|some cs=>rw[q]at hk;let⟨b,ws,el,lo,hi,D,F,g3,g4,g5⟩:=hk;refine⟨b,ws,el,lo,hi,D,F,(y.block b (f b _ F)).trans g3,g4,?_⟩;refine aG.c8 g5.length λj u c G p=>?_;let⟨u',h1,h2⟩:=g5.get p;rw[G]at h1;cases h1;refine abC (λb h=>y.block b h) hz (λe xs A V n=>?_) h2 (B i cs q c (List.mem_of_getElem? p));subst V;have x:bU (cm P 0 w0 vals β ω Z) β {tmps:=#[],defers:=[]} w0 (.box (.inb i)) j=J u:=(by show(β (.inb i)).bind (λb=>w0.cell? ⟨b,j,O⟩)=J u;rw[D];rw[Array.getElem?_toList]at G;simp[World.cell?,g3,G]);exact f A _ (a.own (.box (.inb i)) j e xs u A rfl (by show(match boxes[i]? with|some cs=>SV.agg cs|none=>.undef).cells[j]?=_;rw[q];exact p) x n).1
 |loc t=>exact hk|esc t i=>exact hk
 intro r j e xs u A hr p x n;cases r with
 |tmp t=>simp[cA,SV.cells]at p|arg i=>simp[aD.isArg]at hr|box k=>
  have X:(cA args boxes (.box k)).v.cells[j]?=J (.own e xs):=by cases k<;>exact p
  have Y:bU (cm P 0 w0 vals β ω Z) β {tmps:=#[],defers:=[]} w0 (.box k) j=J u:=by
   have x:(β k).bind (λb=>w.cell? ⟨b,j,O⟩)=J u:=x;show(β k).bind (λb=>w0.cell? ⟨b,j,O⟩)=J u;cases s:β k with
   |none=>rw[s]at x;cases x
   |some b=>
    obtain⟨i,hi,rfl⟩:=GN a k b s;obtain⟨cs,hcs⟩:∃cs,boxes[i]?=J cs:=⟨_,List.getElem?_eq_getElem hi⟩;have E:di _ _ _ _ _ _ _ _ (match boxes[i]? with|some cs=>SV.agg cs|none=>.undef):=a.boxes (.inb i)
    rw[hcs]at E;let⟨b',_,_,_,_,D,F,_⟩:=E;rw[s]at D;cases D;exact(d b j (f b _ F)).symm.trans (by rw[s]at x;exact x)
  let⟨q1,q2⟩:=a.own (.box k) j e xs u A rfl X Y n;exact⟨q1,q2.mono n (y.block A (f A _ q1))⟩
 intro i j e xs u A p G n;have p:(args'.getD i .undef).cells[j]?=J (.own e xs):=p;exact bX rfl (N i _ (List.mem_of_getElem? p) e xs);intro b g h;let⟨h1,h2,h3⟩:=a.c9 b g h;exact⟨λhz1=>(H b hz1).elim h1 (λh=>by omega),Nat.lt_of_lt_of_le h2 y.size,λ_=>by show ω b≠O;rw[h];simp⟩
def aqk(n:Rel (cm P 0 w0 vals β ω Z) β ω Z (cA args boxes) {tmps:=#[],defers:=[]} w0)(q:cn w0.heap.size w0 w)(hZ:∀b,Z b→Z1 b)(s:∀b,Z1 b→b<w.heap.size) (v:∀(i:Nat)c,c∈(args'.getD i .undef).cells→∀e xs,c≠.own e xs) (d:∀i,bj (aH (cm P 0 w vals' (λ_=>O) (λ_=>O) Z1) (λ_=>O) Z1 (cA args' []) {tmps:=#[],defers:=[]} w) (vals'.getD i undef) (args'.getD i .undef)):Rel (cm P 0 w vals' (λ_=>O) (λ_=>O) Z1) (λ_=>O) (λ_=>O) Z1 (cA args' []) {tmps:=#[],defers:=[]} w:=by
 let⟨x,y⟩:=n.defers.2;have a:∀g o,g<w0.heap.size→w.cell? ⟨g,o,O⟩=w0.cell? ⟨g,o,O⟩:=λg o p=>cell_of_heap (q.block g p) o O;refine⟨rfl,⟨rfl,λg l p=>?_,λg p=>?_⟩,rfl,rfl,rfl,Nat.le_refl _,λ_ _ _=>rfl,s,λ_ h=>h,λ_ h=>.inl h,λt=>?_,d,λk=>?_,?_,?_,?_,λ_ _ h=>h⟩;let⟨h1,h2,h3,z⟩:=x g l p;exact⟨Nat.lt_of_lt_of_le h1 q.size,hZ g h2,λh=>h rfl,λj=>(a g j h1).trans (z j)⟩;let⟨h1,h2,h3,m,z⟩:=y g p;exact⟨Nat.lt_of_lt_of_le h1 q.size,hZ g h2,λh=>h rfl,m,(a g 0 h1).trans z⟩;trivial;cases k<;>exact rfl;intro r j e xs u B C f D A;cases r with|tmp t=>simp[cA,SV.cells]at f|arg i=>simp[aD.isArg]at C|box k=>cases k<;>simp[cA,SV.cells]at f
 intro i j e xs u B f E A;have f:(args'.getD i .undef).cells[j]?=J (.own e xs):=f;exact bX rfl (v i _ (List.mem_of_getElem? f) e xs);intro b g h;cases h
def aql{f:cY}{F:pD}{r:pC}(p:gn P f F)(q:F args' []=J r)(t:r.bR=[])(n:vals'.size=args'.length)(o:args'.all jO=W) (g:Rel (cm P 0 w vals' (λ_=>O) (λ_=>O) Z1) (λ_=>O) (λ_=>O) Z1 (cA args' []) {tmps:=#[],defers:=[]} w):Calls P f vals' w λe w'=>cn w.heap.size w w'∧∃v l K k s a,e=.returned v∧(∀b,Z1 b→l b)∧(∀b,l b→Z1 b∨w.heap.size≤b)∧(∀b,l b→b<w'.heap.size)∧bj (aH K k l s a w') v r.v:=by
 refine(p args' [] r q w vals' _ _ Z1 n o rfl g).mono ?_;rintro e w' ⟨v,k,ω',Z',rfl,c⟩;refine⟨⟨c.os,c.tape,c.output,c.base,λb x=>c.frame b x (λh=>h rfl)⟩,v,Z',_,_,_,_,rfl,c.ky,λb y=>?_,c.cD,c.tmps 0⟩;rcases c.lA b y with h|h|h|⟨i,j,e,ys,u,h1,h2,h3,z⟩
 exact .inl h;exact .inr h;exact bX rfl h;left;have h1:(args'.getD i .undef).cells[j]?=J (.d (.sl e ys)):=by simpa[dL,t,jI]using h1
 have A:args'.getD i .undef≠.undef:=λh=>by rw[h]at h1;simp[SV.cells]at h1
 let⟨u',m,B⟩:=((g.args i).flat A).get h1;have h2:(flat (vals'.getD i undef))[j]?=J u:=h2;have m:(flat (vals'.getD i undef))[j]?=J u':=m;rw[h2]at m;cases m;exact a6.live B h3 z
open Go.Ve in
def K3{f:cY}{S:bm}{sh:S.X→Option S.Y}(t:gn P f (S.F sh))(k:S.ok=W)(l:S.boxes=[])(m:S.bR=[]){x:S.X}{y:S.Y}(hy:sh x=J y) (g:Rel (cm P 0 w0 vals β ω Z) β ω Z (cA args boxes) {tmps:=#[],defers:=[]} w0)(u:cn w0.heap.size w0 w)(hZ:∀b,Z b→Z1 b)(n:∀b,Z1 b→b<w.heap.size) (o:vals'.size=((S.dG x).map aA).length)(h:((S.dG x).map aA).all jO=W) (p:∀(i:Nat)c,c∈(((S.dG x).map aA).getD i .undef).cells→∀e xs,c≠.own e xs) (d:∀i,bj (aH (cm P 0 w vals' (λ_=>O) (λ_=>O) Z1) (λ_=>O) Z1 (cA ((S.dG x).map aA) []) {tmps:=#[],defers:=[]} w) (vals'.getD i undef) (((S.dG x).map aA).getD i .undef)):Calls P f vals' w λe w'=>cn w.heap.size w w'∧∃v j K q s a,e=.returned v∧(∀b,Z1 b→j b)∧(∀b,j b→Z1 b∨w.heap.size≤b)∧(∀b,j b→b<w'.heap.size)∧bj (aH K q j s a w') v (aA (S.out y (S.flag y)).1):=by
 have z:(S.ef x).map aJ=[]:=by have:=bm.O0 (S:=S) x;rw[l]at this;rw[List.length_eq_zero_iff.1 this];rfl
 have hd:=bm.kV S k x;rw[z]at hd;refine aql (F:=S.F sh) (r:={v:=aA (S.out y (S.flag y)).1,boxes:=(gM (S.ef x) (S.out y (S.flag y)).2).map aJ,bR:=S.bR}) t ?_ m o h (aqk g u hZ n p d);unfold bm.F;rw[hd];simp only[hy]
def abD{v:Value}{r:pC}{Z':Nat→Prop}(a:Rel (cm P 0 w0 vals β ω Z) β ω Z (cA args boxes) {tmps:=#[],defers:=[]} w0)(X:args.all jO=W)(n:cn w0.heap.size w0 w)(hZ:∀b,Z b→Z' b)(K:∀b,Z' b→Z b∨w0.heap.size≤b)(Y:∀b,Z' b→b<w.heap.size) (hf:r.bR=[])(hv:bj (λc u=>∃d,c=.d d∧a6 w Z' d u) v r.v)(N:r.boxes=boxes)(R:∀(i:Nat)cs,boxes[i]?=J cs→∀c∈cs,oL c=W∨c=.dead):Rel (cm P 1 w0 vals β ω Z) β ω Z' (dL args r) {tmps:=#[v],defers:=[]} w:=by
 have C:∀b,Z b→b<w0.heap.size∧Z' b:=λb h=>⟨a.cD b h,hZ b h⟩;have m:∀b g,ω b=J g→b<w0.heap.size:=λb g h=>(a.c9 b g h).2.1;have hzf:∀b,Z b→w.heap[b]?=w0.heap[b]? :=λb C=>n.block b (a.cD b C);have p:∀i,(dL args r (.arg i)).v=args.getD i .undef:=by intro i;simp[dL,hf,jI]
 have E:∀g o,g<w0.heap.size→w.cell? ⟨g,o,O⟩=w0.cell? ⟨g,o,O⟩:=λg o hg=>cell_of_heap (n.block g hg) o O;refine⟨rfl,⟨rfl,a.defers.2⟩,n.os,n.tape,n.output,n.size,λb hb' _=>n.block b hb',Y,hZ,λb C=>(K b C).imp id .inl,λt=>?_,λi=>?_,λk=>?_,?_,?_,?_,λ_ _ h=>h⟩;cases t with|zero=>exact bj.mono (λc u l⟨d,hd,y⟩=>by subst hd;exact y) hv|succ t=>trivial
 rw[p];refine bj.mv (λj c u l G y=>?_) (a.args i);have S:=GL X l;cases c with
 |d x=>exact a6.mono (λb C=>⟨hzf b C,hZ b C⟩) _ _ y|own e xs=>
  by_cases V:isMap e=W;obtain⟨b,rfl,h2⟩:=(aH.jh V).1 y;let⟨F,H⟩:=a.gw i j e xs _ b l G (kr ..);have hfr:=n.block;grind [aH.jh,dh.mono,cm];have V:isMap e=I:=by simpa using V
  let⟨ad,cap,h1,h2,h3,h4⟩:=(aH.gY V).1 y;subst h1;let⟨F,H⟩:=a.gw i j e xs _ ad.block l G rfl;have hfr:=n.block;grind [aH.gY,cH.mono,cm]
 |ptr k off=>exact y|cy f caps=>exact y|_=>cases S
 have hk:=a.boxes k;cases k with
 |inb i=>
  show di _ _ _ _ _ _ _ _ (match r.boxes[i]? with|some cs=>.agg cs|none=>.undef)
  rw[N];have hk:di _ _ _ _ _ _ _ _ (match boxes[i]? with|some cs=>SV.agg cs|none=>.undef):=hk
  cases z:boxes[i]? with|none=>rw[z]at hk;exact hk|some cs=>rw[z]at hk;let⟨b,ws,el,lo,hi,F,H,g3,g4,g5⟩:=hk;refine⟨b,ws,el,lo,hi,F,H,(n.block b (m b _ H)).trans g3,g4,?_⟩;refine aG.c8 g5.length λj u c G l=>?_;let⟨u',h1,h2⟩:=g5.get l;rw[G]at h1;cases h1;refine abC (λb h=>n.block b h) C (λe xs D hce A=>?_) h2 (R i cs z c (List.mem_of_getElem? l));subst hce;have s:bU (cm P 0 w0 vals β ω Z) β {tmps:=#[],defers:=[]} w0 (.box (.inb i)) j=J u:=(by show(β (.inb i)).bind (λb=>w0.cell? ⟨b,j,O⟩)=J u;rw[F];rw[Array.getElem?_toList]at G;simp[World.cell?,g3,G]);exact m D _ (a.own (.box (.inb i)) j e xs u D rfl (by show(match boxes[i]? with|some cs=>SV.agg cs|none=>.undef).cells[j]?=_;rw[z];exact l) s A).1
 |loc t=>exact hk|esc t i=>exact hk
 intro q j e xs u D y l s A;cases q with
 |tmp t=>
  cases t with
  |zero=>let⟨u',_,d,h,_⟩:=hv.cell l;cases h
  |succ t=>simp[dL,SV.cells]at l
 |arg i=>simp[aD.isArg]at y|box k=>
  have Ng:(cA args boxes (.box k)).v.cells[j]?=J (.own e xs):=by
   cases k with
   |inb i=>
    have l:(match r.boxes[i]? with|some cs=>SV.agg cs|none=>.undef).cells[j]?=J (.own e xs):=l
    rw[N]at l;exact l
   |loc t=>simp[dL,SV.cells]at l|esc t i=>simp[dL,SV.cells]at l
  have M8:bU (cm P 0 w0 vals β ω Z) β {tmps:=#[],defers:=[]} w0 (.box k) j=J u:=by
   have s:(β k).bind (λb=>w.cell? ⟨b,j,O⟩)=J u:=s;show(β k).bind (λb=>w0.cell? ⟨b,j,O⟩)=J u;cases B:β k with
   |none=>rw[B]at s;cases s
   |some b=>
    obtain⟨i,hi,rfl⟩:=GN a k b B;obtain⟨cs,hcs⟩:∃cs,boxes[i]?=J cs:=⟨_,List.getElem?_eq_getElem hi⟩;have T:di _ _ _ _ _ _ _ _ (match boxes[i]? with|some cs=>SV.agg cs|none=>.undef):=a.boxes (.inb i)
    rw[hcs]at T;let⟨b',_,_,_,_,F,H,_⟩:=T;rw[B]at F;cases F;exact(E b j (m b _ H)).symm.trans (by rw[B]at s;exact s)
  let⟨q1,q2⟩:=a.own (.box k) j e xs u D rfl Ng M8 A;exact⟨q1,q2.mono A (n.block D (m D _ q1))⟩
 intro i j e xs u1 D l s qS;rw[p]at l;exact a.gw i j e xs u1 D l s qS;intro b g h;let⟨h1,h2,h3⟩:=a.c9 b g h;exact⟨λhz1=>(K b hz1).elim h1 (λh=>by omega),Nat.lt_of_lt_of_le h2 n.size,λ_=>by show ω b≠O;rw[h];simp⟩
end
end Go.Vs
