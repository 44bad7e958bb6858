/- The statement ExportLeftUptoCardSaid of the given program is proved here: for every input whose bulk is at most the bound of its row, the law returns true and changes nothing. Part 4 of 7. -/
import Derived.Lib.Bytealg
import Derived.Lib.Index
import Derived.Lib.ItoaNum
import Derived.KernelRfl
import Derived.Lib.IndexLaws
import Derived.Lib.IndexMore
import Derived.Test.YtgbmhohlapmgbaaGreatDoorL3
set_option linter.unusedVariables false
set_option linter.unusedSimpArgs false
set_option linter.unusedSectionVars false
set_option linter.constructorNameAsVariable false
set_option linter.defProp false
open Bool renaming and_true->qR,eq_iff_iff->z8,false->I,false_and->Ab,false_eq_true->bM,false_or->xi,not_false->qQ,not_true->jI,or_true->z7,true->W,true_and->uz,true_or->xp
open Go.IntKind renaming i64->a7,u32->oW,wrap->aaX
open Go.Lib renaming decDigits->Aa,index->xj,indexByte->fm,index_room->agU,occAt->Ac
open Int renaming eq_ofNat_of_zero_le->pU,ofNat->fQ,toNat_natCast->fB,toNat->G
open List renaming append_nil->ug,drop_eq_getElem_cons->xn,flatMap_append->uy,getD_cons_zero->pV,getD_eq_getElem?_getD->jH,getElem?_eq_getElem->eD,getElem?_eq_some_iff->ik,getElem_drop->Ad,getElem_mem->eE,getLast?_eq_some_iff->agT,isPrefixOf->qU,isPrefixOf_iff_prefix->NP,length->ui,length_append->mo,length_cons->kL,length_drop->zP,length_filter_le->CM,length_nil->CI,map_cons->fc,mem_cons->iG,range->jq,replicate->ej,takeWhile_cons->HM,take_append_drop->mZ,take_length->zT,take_succ_eq_append_getElem->iU,getD->H,isPrefixOf->abV,length->Y
open List.Pairwise renaming nil->VB
open Nat renaming ble->gG,ble_eq->iJ,le_refl->eJ,le_trans->uw,lt_of_le_of_lt->kM,lt_of_succ_lt->cM,lt_or_ge->je,sub_le->xo,zero_add->sj,zero_le->fZ
open Option renaming getD_some->fk,map->ga,map_some->m6,none->O,some->J,getD->X,isSome->aad
open Option.some renaming inj->uq,injEq->nP
open Sum renaming inl->mr,inr->lM
open UInt8 renaming ofNat->kr
open _root_ renaming Bool->ay,Decidable->oT,Int->L,List->M,Nat->U,Option->Q,UInt8->ao,Unit->bY,absurd->cJ,beq_iff_eq->dK,bne_self_eq_false->sq,congrArg->cb,decide_eq_false->ip,decide_eq_true->iV,if_false->ca,if_neg->aU,if_pos->aF,if_true->bH
namespace Go.Fd
open Go Go.Vs Go.Ve
@[reducible] def cw{α:Type}(P:Prop)[oT P](A:Q α):Q α:=if decide P=W then A else O
@[reducible] def au{α:Type}(b:ay)(A:Q α):Q α:=if b=W then A else O
@[reducible] def aJ{α:Type}(P:Prop)[oT P](A B:α):α:=if decide P=W then A else B
@[reducible] def ag{α:Type}(b:ay)(A B:α):α:=if b=W then A else B
@[reducible] def cG{α β:Type}(i:L)(l:M β)(A:Q α):Q α:=if decide (0<=i/\i<ah l)=W then A else O
@[reducible] def cy{α:Type}(l:M α)(i:L)(d:α):α:=H l (G i) d
@[reducible] def aN{α:Type}(l:Q (M α))(i:L)(d:α):α:=H (X l []) (G i) d
@[reducible] def al{α:Type}(l:Q (M α)):M α:=X l []
@[reducible] def ax(x:L):L:=aaX a7 (x+1)
@[reducible] def bg(x:L):L:=aaX a7 x
@[reducible] def aH{σ ρ:Type}(x:σ):Q (σ⊕ρ):=J (mr x)
@[reducible] def aA{σ ρ:Type}(x:ρ):Q (σ⊕ρ):=J (lM x)
@[reducible] def fA(x:ao):L:=fQ x.toNat
@[reducible] def ig{α:Type}(n:U)(A:Q α):Q α:=if decide (n<=nat_lit 1152921504606846976)=W then A else O
@[reducible] def c8(n:U):ay:=decide (n<=nat_lit 1152921504606846976)
@[reducible] def c9{β:Type}(i:L)(l:M β):ay:=bX (G i) (Y l)
@[reducible] def iC{α β:Type}(i:L)(l:M β)(A:Q α):Q α:=if decide (0<=i)=W then(if bX (G i) (Y l)=W then A else O)else O
@[reducible] def aW{σ ρ α:Type}(f:σ->Q (σ⊕ρ))(x:σ)(k:ρ->Q α):Q α:=aq (bR f x) k
@[reducible] def bS{α β:Type}(i:L)(l:M β)(A B:Q α):Q α:=if decide (i<ah l)=W then(if decide (0<=i/\i<ah l)=W then A else O)else B
@[reducible] def aj{α β:Type}(x:α)(k:α->β):β:=k x
@[reducible] def bu:U:=nat_lit 1
@[reducible] def iO:U:=nat_lit 2
@[reducible] def n3Z:U:=nat_lit 3
abbrev bz:Type:=M ao
abbrev mN:Type:=bz×L
abbrev jP:Type:=L×mN
abbrev bW:Type:=Q (M jP)
abbrev kj:Type:=Q (M (ay×bz×bz))
abbrev gC:Type:=L×kj
abbrev rM:Type:=Q (M gC)
abbrev ez:Type:=L×L
abbrev sX:Type:=L×ay
abbrev kV:Type:=L×L×L×ez×L×bW×bz×sX
abbrev eS:Type:=rM×Q (M kV)×L
abbrev pu:Type:=L×ez
abbrev am3:Type:=L×L×L×L×L×L×L×pu
abbrev am4:Type:=L×am3
abbrev am5:Type:=L×am4
abbrev am6:Type:=L×am5
abbrev am7:Type:=L×am6
abbrev am8:Type:=L×am7
abbrev am9:Type:=L×am8
abbrev ana:Type:=L×am9
abbrev anb:Type:=L×ana
abbrev anc:Type:=L×anb
abbrev ane:Type:=L×anc
abbrev anf:Type:=L×ane
abbrev ang:Type:=L×anf
abbrev anh:Type:=L×ang
abbrev ani:Type:=L×anh
abbrev anj:Type:=L×ani
abbrev ank:Type:=L×anj
abbrev anl:Type:=L×ank
abbrev anm:Type:=L×anl
abbrev ann:Type:=L×anm
abbrev ano:Type:=L×ann
abbrev anp:Type:=L×ano
abbrev anq:Type:=L×anp
abbrev anr:Type:=anq×sX
abbrev ans:Type:=M anr
abbrev sY:Type:=Q ans
abbrev dv:Type:=Q (M L)
abbrev ly:Type:=rM×Q (M kV)×L×M (ez×bW)
abbrev lz:Type:=Q (M bz)
abbrev vS:Type:=L×L×L×M (ao×bz)×lz
abbrev jA:Type:=Q (L⊕ay⊕bY)
abbrev jB:Type:=bW×L
abbrev kW:Type:=bW×dv×dv×jB
abbrev dO:Type:=Q ay
abbrev abb:Type:=M gC×Q (M kV)×L
abbrev l7:Type:=bW×dv×dv×ez
abbrev nB:Type:=Q (M pu)
abbrev fS:Type:=dv×L
abbrev kB:Type:=Q (L⊕L)
abbrev sZ:Type:=Q (M (ay×sY×sY))
abbrev yI:Type:=bz×kj×L
abbrev l8:Type:=bW×dv×dv
abbrev rN:Type:=Q (L⊕L⊕bY)
abbrev lA:Type:=Q (M ez)
abbrev qu:Type:=bz×gC
abbrev Kt:Type:=L×L×qu
abbrev EB:Type:=L×L×L×Kt
abbrev gD:Type:=Q L
abbrev pv:Type:=Q (M bW)
abbrev Bp:Type:=L×yI
abbrev Bq:Type:=L×L×L×Bp
abbrev ta:Type:=Q (ez⊕L)
abbrev vT:Type:=kj×ez
abbrev vU:Type:=Q vT
abbrev yJ:Type:=Q (fS⊕dv)
abbrev yK:Type:=Q (jB⊕bW)
abbrev lB:Type:=Q bW
abbrev td:Type:=Q (M ay)
abbrev abd:Type:=Q (dv×fS⊕dv×dv×ay⊕dv×dv)
abbrev yL:Type:=Q (eS×L)
abbrev Br:Type:=jP×L
abbrev Q0:Type:=Q (bz×vS⊕mN⊕bz)
abbrev pw:Type:=Q mN
abbrev Ku:Type:=M ay×L
abbrev Q5:Type:=Q (Ku⊕M ay)
abbrev Q6:Type:=Q (L⊕L×jP⊕bY)
abbrev Q7:Type:=bz×L×kj×L×pu
abbrev ant:Type:=Q (L×Q7⊕vT⊕Q7)
abbrev Kv:Type:=bz×bY×L×pu
abbrev qv:Type:=bW×ez
abbrev px:Type:=Q bz
abbrev Bs:Type:=L×ay×ly
abbrev abe:Type:=bW×bW×dv×pu
abbrev Q8:Type:=bW×dv×ez
abbrev anu:Type:=Q (abe⊕Q8⊕bW×bW×fS)
abbrev Bt:Type:=bz×ez
abbrev Q9:Type:=Q (Bt⊕mN)
abbrev yM:Type:=L×abb
abbrev Ra:Type:=Q (yM⊕abb)
abbrev rO:Type:=Q dv
abbrev Kw:Type:=Q (mN⊕bz)
abbrev yN:Type:=L×gC
abbrev anv:Type:=Q (L×bz×L×jB⊕yN⊕L×bz×L×bW)
abbrev abf:Type:=Q (M Br×L⊕M Br)
abbrev EC:Type:=M (L×bW)
abbrev abg:Type:=Q (nB×ez⊕nB×ez)
abbrev Kx:Type:=Q (gC×L)
abbrev vV:Type:=L×eS
abbrev abh:Type:=L×M (bz×ay)×qu
abbrev abj:Type:=Q (bY⊕ay⊕bY)
abbrev Bu:Type:=Q Br
abbrev abk:Type:=Q (dv×dv×ay)
abbrev abl:Type:=Q (bz×bz×ay)
abbrev abm:Type:=Q (L×ay×ay)
def yO:Q sZ:=J (J [(W,J [((0,0,0,0,2,64,0,0,0,0,0,0,0,0,0,0,0,0,0,0,0,0,0,0,0,0,0,0,0,0,0,0),1,I)],J [((0,0,0,0,1,0,0,0,0,0,0,0,0,0,0,0,0,0,0,0,0,0,0,0,0,0,0,0,0,0,0,0),1,I)])])
def vW:L->gD:=λb=>aj (aJ (b>=97) (decide (b<=122)||decide (b>=128)) (decide (b>=128))) λu=>ag (b==9||(b==10||(b==13||b==32))) (J 2) (ag (decide (b<32)||b==127) (J 1) (ag (decide (b>=48)&&decide (b<=57)) (J 3) (ag (aJ (b>=65) (decide (b<=90)||u) u) (J 4) (J 5))))
def Bv:bz->L->kB:=λs a=>aJ (a<ah s) (iC a s (aq (vW (fA (cy s a 0))) λb=>ag (b==2) (aH (ax a)) (aA a))) (aA a)
def Rb:bz->L->kB:=λs a=>iC (bg (a-1)) s (aq (vW (fA (cy s (bg (a-1)) 0))) λb=>ag (b==2) (aH (bg (a-1))) (aA a))
def vX:bz->Q ez:=λs=>aW (Bv s) 0 λa=>ag (a==ah s) (J (0,0)) (aW (Rb s) (ah s) λb=>J (a,b))
def ED:bW->ez->ta:=λf a=>aj (ah (al f)) λu=>aj (aN f a.2 (0,[],0)) λb=>aj (decide (0<=a.2/\a.2<u)) λc=>aJ (a.2<u) (au (c&&(!b.1==1||c)) (aH (ag (b.1==1) (bg (a.1+ah b.2.1)) (ax a.1),ax a.2))) (aA a.1)
def nC:bW->gD:=λf=>aW (ED f) (0,0) λa=>J a
def EE:bW->mN->Kw:=λf a=>aj (aN f a.2 (0,[],0)) λu=>aj (decide (0<=a.2/\a.2<ah (al f))) λb=>aj (ag (u.1==1) (a.1++u.2.1) a.1) λc=>aj (ah (al f)) λd=>aJ (a.2<d) (au (b&&((!u.1==1||b&&c8 (a.1.length+u.2.1.length))&&(b&&(!u.1==5||c8 (c.length+bu))))) (aH (ag (u.1==5) (c++[255]) c,ax a.2))) (aA a.1)
def tf:bW->px:=λf=>aW (EE f) ([],0) λa=>J a
def EG:bW->L->L->qv->Q (qv⊕bW):=λf b to a=>aj (aN f a.2.2 (0,[],0)) λu=>aj (al a.1).length λh=>aj (bg (ji to (bg (a.2.1+ah u.2.1))-a.2.1)) λc=>aj (bg (lX b a.2.1-a.2.1)) λd=>aj (decide (0+h=h)&&(decide (h+bu<=nat_lit 68719476736)&&a.1.isSome==a.1.isSome)) λj=>aj (ah (al f)) λk=>aj (decide (a.2.1>=b)&&decide (a.2.1<to)) λl=>aj (u.1 !=1) λi=>aj a.2.2 λe=>aj (al a.1) λm=>aj (ah u.2.1) λg=>aJ (e<k) (au (decide (0<=e/\e<k)&&ag i (!l||j) (!decide (d<c)||decide (0<=d/\d<=c/\c<=g)&&j)) (aH (ag i (ag l (J (m++[u])) a.1) (aJ (d<c) (J (m++[(1,bq d c u.2.1,u.2.2)])) a.1),ag i (ax a.2.1) (bg (a.2.1+g)),ax e))) (aA a.1)
def l9:bW->L->L->Q (bW×ay):=λf a to=>aJ (a<0) (J (O,I)) (aJ (to<a) (J (O,I)) (aq (nC f) λc=>aJ (to>c) (J (O,I)) (aW (EG f a to) (O,0,0) λb=>au (aad b==aad b) (au (aad b==aad b) (J (b,W))))))
abbrev Rc:=L×L×L×L×L×L×L×L×L×L×L×L×L×L×L×L×L×L×L×L×L×L×L×L×L×L×L×L×L×L×L×L
def Bw(x:Rc):M L:=[x.1,x.2.1,x.2.2.1,x.2.2.2.1,x.2.2.2.2.1,x.2.2.2.2.2.1,x.2.2.2.2.2.2.1,x.2.2.2.2.2.2.2.1,x.2.2.2.2.2.2.2.2.1,x.2.2.2.2.2.2.2.2.2.1,x.2.2.2.2.2.2.2.2.2.2.1,x.2.2.2.2.2.2.2.2.2.2.2.1,x.2.2.2.2.2.2.2.2.2.2.2.2.1,x.2.2.2.2.2.2.2.2.2.2.2.2.2.1,x.2.2.2.2.2.2.2.2.2.2.2.2.2.2.1,x.2.2.2.2.2.2.2.2.2.2.2.2.2.2.2.1,x.2.2.2.2.2.2.2.2.2.2.2.2.2.2.2.2.1,x.2.2.2.2.2.2.2.2.2.2.2.2.2.2.2.2.2.1,x.2.2.2.2.2.2.2.2.2.2.2.2.2.2.2.2.2.2.1,x.2.2.2.2.2.2.2.2.2.2.2.2.2.2.2.2.2.2.2.1,x.2.2.2.2.2.2.2.2.2.2.2.2.2.2.2.2.2.2.2.2.1,x.2.2.2.2.2.2.2.2.2.2.2.2.2.2.2.2.2.2.2.2.2.1,x.2.2.2.2.2.2.2.2.2.2.2.2.2.2.2.2.2.2.2.2.2.2.1,x.2.2.2.2.2.2.2.2.2.2.2.2.2.2.2.2.2.2.2.2.2.2.2.1,x.2.2.2.2.2.2.2.2.2.2.2.2.2.2.2.2.2.2.2.2.2.2.2.2.1,x.2.2.2.2.2.2.2.2.2.2.2.2.2.2.2.2.2.2.2.2.2.2.2.2.2.1,x.2.2.2.2.2.2.2.2.2.2.2.2.2.2.2.2.2.2.2.2.2.2.2.2.2.2.1,x.2.2.2.2.2.2.2.2.2.2.2.2.2.2.2.2.2.2.2.2.2.2.2.2.2.2.2.1,x.2.2.2.2.2.2.2.2.2.2.2.2.2.2.2.2.2.2.2.2.2.2.2.2.2.2.2.2.1,x.2.2.2.2.2.2.2.2.2.2.2.2.2.2.2.2.2.2.2.2.2.2.2.2.2.2.2.2.2.1,x.2.2.2.2.2.2.2.2.2.2.2.2.2.2.2.2.2.2.2.2.2.2.2.2.2.2.2.2.2.2.1,x.2.2.2.2.2.2.2.2.2.2.2.2.2.2.2.2.2.2.2.2.2.2.2.2.2.2.2.2.2.2.2]
def yP:Rc×sX->L->dO:=λa b=>if decide (0<=b/\b<256)=W then J (fM .u8 ((Bw a.1).getD (b/8).toNat 0/2 ^ (b%8).toNat) 1==1)else O
def EH:sY->bz->td×L->Ku->Q5:=λp s d a=>aj (cG d.2 (al p) (iC a.2 s (aq (yP (aN p d.2 ((0,0,0,0,0,0,0,0,0,0,0,0,0,0,0,0,0,0,0,0,0,0,0,0,0,0,0,0,0,0,0,0),0,I)) (fA (cy s a.2 0))) λf=>au (!f||decide (0<=ax a.2/\ax a.2<ah a.1)&&bX (0+(ax a.2).toNat) a.1.length) (aH (ag f (a.1.set (0+(ax a.2).toNat) W) a.1,ax a.2))))) λu=>aj (aH (a.1,ax a.2)) λe=>aj (0+a.2.toNat) λb=>aj (al d.1) λc=>aJ (a.2<ah s) (cG a.2 c (au (bX b c.length) (ag (c.getD b I) u (cG d.2 (al p) (ag (aN p d.2 ((0,0,0,0,0,0,0,0,0,0,0,0,0,0,0,0,0,0,0,0,0,0,0,0,0,0,0,0,0,0,0,0),0,I)).2.2 (cG a.2 a.1 (au (bX b a.1.length) (ag (a.1.getD b I) u e))) e))))) (aA a.1)
def EI:sY->td×L->M ay->Ku->Q5:=λp h j b=>aj (aN p h.2 ((0,0,0,0,0,0,0,0,0,0,0,0,0,0,0,0,0,0,0,0,0,0,0,0,0,0,0,0,0,0,0,0),0,I)).2.1 λu=>aj (ah (al p)) λi=>aj (decide (0<=b.2/\b.2<ah b.1)) λe=>aj (0+b.2.toNat) λa=>aj (bX a b.1.length) λf=>aj (al h.1) λc=>aj (b.1.getD a I) λg=>aj (e&&f) λd=>aJ (b.2<ah j) (au (e&&(f&&ag g d (decide (0<=h.2/\h.2<i)&&aJ (u<=0) (decide (0<=b.2/\b.2<ah c)&&(bX a c.length&&d)) d))) (aH (ag g (b.1.set a W) (aJ (u<=0) (b.1.set a (c.getD a I)) (b.1.set a I)),ax b.2))) (aA b.1)
def Ky:sY->bz->td×L->Q (td×L⊕td):=λp s a=>aJ (a.2<ah (al p)) (cw (0<=ax (ah s)/\ax (ah s)<=ax (ah s)/\ax (ah s)<=68719476736) (aW (EH p s a) (ej (ax (ah s)).toNat I,0) λb=>aW (EI p a b) (b,0) λc=>aH (J c,ax a.2))) (aA a.1)
def EJ:sY->bz->td->Q td:=λp s a=>au (decide ((al a).length<=nat_lit 68719476736)&&(dW (al a)).isSome==(dW (al a)).isSome) (aW (Ky p s) (dW (al a),0) λb=>au (b.isSome==b.isSome) (au (b.isSome==b.isSome) (J b)))
def Rd:bz->Q td:=λs=>aj (ax (ah s)) λu=>aj (ej u.toNat I) λa=>cw (0<=u/\u<=u/\u<=68719476736) (au (decide (0<=(0:L)/\0<ah a)&&bX (nat_lit 0) a.length) (J (J (a.set (nat_lit 0) W))))
def Kz:td->ez->ta:=λb a=>bS a.2 (al b) (aH (ag (aN b a.2 I) a.2 a.1,ax a.2)) (aA a.1)
def Re:sY->bz->gD:=λp s=>aq (Rd s) λa=>aq (EJ p s a) λb=>aW (Kz b) ((-1:L),0) λc=>J c
def KA:sY->bz->dO:=λp s=>aq (Re p s) λa=>J (decide (a>=0))
def Rf:bz->Ku->Q5:=λs a=>aJ (a.2<ah (ej (ax (ah s)).toNat I)) (au (decide (0<=a.2/\a.2<ah a.1)&&bX (0+a.2.toNat) a.1.length) (aH (a.1.set (0+a.2.toNat) W,ax a.2))) (aA a.1)
def KB:sY->bz->dO:=λp s=>cw (0<=ax (ah s)/\ax (ah s)<=ax (ah s)/\ax (ah s)<=68719476736) (aW (Rf s) (ej (ax (ah s)).toNat I,0) λb=>aq (EJ p s (J b)) λa=>cG (ah s) (al a) (J (aN a (ah s) I)))
def KC:sZ->bz->L->L->jA:=λa text at' b=>bS b (al a) (cw (0<=(0:L)/\0<=at'/\at'<=ah text) (aq (KB (aN a b (I,O,O)).2.1 (bq 0 at' text)) λc=>ag c (cG b (al a) (cw (0<=at'/\at'<=ah text/\ah text<=ah text) (aq (KA (aN a b (I,O,O)).2.2 (bq at' (ah text) text)) λd=>ag d (cG b (al a) (aA (.inl (aN a b (I,O,O)).1))) (aH (ax b))))) (aH (ax b)))) (aA (.inr ()))
def KD:sZ->bz->L->dO:=λa text at'=>ag (decide (at'<=0)||decide (at'>=ah text)) (J I) (aW (KC a text at') 0 λb=>dh b (λc=>J c) λd=>J I)
def Bx:sZ->bz->fS->yJ:=λb text a=>aJ (a.2<ah text) (aq (KD b text a.2) λc=>au (!c||decide (0+(al a.1).length=(al a.1).length)&&(decide ((al a.1).length+bu<=nat_lit 68719476736)&&a.1.isSome==a.1.isSome)) (aH (ag c (J (al a.1++[a.2])) a.1,ax a.2))) (aA a.1)
def Bz:sZ->bz->rO:=λa text=>aJ (ah text>1024) (J O) (aW (Bx a text) (O,1) λb=>au (b.isSome==b.isSome) (au (b.isSome==b.isSome) (J b)))
def BA:bW->L->L->kB:=λf c a=>aJ (a<c) (aq (l9 f a (ax a)) λb=>au (ah (al b.1) !=1||decide (0<=(0:L)/\0<ah (al b.1))) (ag (ah (al b.1) !=1||((al b.1).getD (nat_lit 0) (0,[],0)).1 !=3) (aA a) (aH (ax a)))) (aA a)
def BB:bW->L->L->L->rN:=λf offset b a=>aJ (a<=b) (aq (l9 f 0 a) λc=>aq (tf c.1) λd=>ag (ah d !=offset) (aH (ax a)) (aW (BA f b) a λe=>aA (.inl e))) (aA (.inr ()))
def vY:bW->L->gD:=λf offset=>aJ (offset<0) (J (-1:L)) (aq (tf f) λa=>aJ (offset>ah a) (J (-1:L)) (aq (nC f) λb=>aW (BB f offset b) 0 λc=>dh c (λd=>J d) λe=>J (-1:L)))
def py:bW->L->dO:=λf p=>aq (l9 f p (ax p)) λb=>aj ((al b.1).getD (nat_lit 0) (0,[],0)) λu=>aj (al b.1) λa=>ag b.2 (ag (ah a==1) (cG 0 a (ag (u.1==1) (cG 0 a (au (bX (nat_lit 0) u.2.1.length) (aq (vW (fA (u.2.1.getD (nat_lit 0) 0))) λc=>J (c==2)))) (J I))) (J I)) (J I)
def vZ:bW->L->kB:=λf a=>aq (py f a) λb=>ag b (aH (ax a)) (aA a)
def v7:bW->L->kB:=λf a=>aq (py f (bg (a-1))) λb=>ag b (aH (bg (a-1))) (aA a)
def abn:bW->L->kB:=λf a=>aq (py f a) λb=>ag b (aH (ax a)) (aA a)
def abo:bW->L->kB:=λf a=>aq (py f (bg (a-1))) λb=>ag b (aH (bg (a-1))) (aA a)
def BD:bW->dv->lA×ez->Q (lA×ez⊕lA):=λf p b=>aj (decide (0+Y (al b.1)=Y (al b.1))&&(decide (Y (al b.1)+bu<=nat_lit 68719476736)&&aad b.1==aad b.1)) λu=>aj (al p++[(-1:L)]) λd=>aj b.2.2 λa=>aj (H d (0+G a) 0) λe=>aj (al b.1) λg=>aj b.2.1 λc=>aj (ah d) λh=>aJ (a<h) (au (decide (0<=a/\a<h)&&bX (0+G a) (Y d)) (aq (nC f) λj=>aJ (e>=0) (aq (vY f e) λk=>aq (l9 f c k) λq=>aq (tf q.1) λr=>aq (vX r) λo=>aJ (o.1<o.2) (aW (vZ f) c λs=>aW (v7 f) k λt=>au u (aH (J (g++[(s,t)]),k,ax a))) (aH (b.1,k,ax a))) (aq (l9 f c j) λv=>aq (tf v.1) λl=>aq (vX l) λi=>aJ (i.1<i.2) (aW (abn f) c λm=>aW (abo f) j λn=>au u (aH (J (g++[(m,n)]),j,ax a))) (aH (b.1,j,ax a))))) (aA b.1)
def BE:sZ->bW->Q lA:=λa f=>aq (tf f) λd=>aq (Bz a d) λb=>au (decide (0+Y (al b)=Y (al b))&&(decide (Y (al b)+bu<=nat_lit 68719476736)&&aad b==aad b)) (aW (BD f b) (O,0,0) λc=>au (aad c==aad c) (au (aad c==aad c) (J c)))
def BF:bW->jB->yK:=λf b=>aj (al b.1) λu=>aj (aN f b.2 (0,[],0)) λd=>aj (decide (0+u.length=u.length)&&(decide (u.length+bu<=nat_lit 68719476736)&&b.1.isSome==b.1.isSome)) λi=>aj (decide (0<=bg (ah u-1)/\bg (ah u-1)<ah u)) λe=>aj (u.getD (0+(bg (ah u-1)).toNat) (0,[],0)) λg=>aj (ah (al f)) λj=>aj (decide (ah u>0)) λk=>aj (bX (0+(bg (ah u-1)).toNat) u.length) λh=>aj d.2.1 λa=>aj (d.1 !=1) λl=>aj (k&&g.1==1) λc=>aJ (b.2<j) (au (decide (0<=b.2/\b.2<j)&&ag l i (decide (a=[])||(!k||e&&h)&&ag c (e&&(h&&(c8 (g.2.1.length+a.length)&&(e&&h)))) i)) (aH (ag l (J (u++[d])) (aJ (a=[]) b.1 (J (ag c (u.set (0+(bg (ah u-1)).toNat) (1,g.2.1++a,0)) (u++[(1,a,0)])))),ax b.2))) (aA b.1)
def EK:bW->lB:=λf=>aW (BF f) (O,0) λa=>au (a.isSome==a.isSome) (au (a.isSome==a.isSome) (J a))
def lD:bW->bW->lB:=λa b=>cw ((al a).length<=nat_lit 68719476736) (cw (0+(al (dW (al a))).length=(al (dW (al a))).length) (cw ((al (dW (al a))).length+(al b).length<=nat_lit 68719476736) (au ((dW (al a)).isSome==(dW (al a)).isSome) (au ((jN (dW (al a)) (al b)).isSome==(jN (dW (al a)) (al b)).isSome) (aq (EK (jN (dW (al a)) (al b))) λc=>J c)))))
def yQ:bz->L->Q (L⊕bz⊕bY):=λs a=>aJ (a<ah s) (au (decide (0<=a)&&c9 a s) (ag (a6 (cy s a 0)==32) (cw (0<=(0:L)/\0<=a/\a<=ah s) (aA (.inl (bq 0 a s)))) (aH (ax a)))) (aA (.inr ()))
def qw:bz->px:=λs=>aW (yQ s) 0 λa=>dh a (λb=>J b) λc=>J s
def BG:bz->dO:=λname=>J (decide (name=[112])||(decide (name=[104])||(decide (name=[108,105])||(decide (name=[116,100])||decide (name=[116,105,116,108,101])))))
def nD:bz->bz->dO:=λs t=>au (!decide (ah s>=ah t)||decide (0<=(0:L)/\0<=ah t/\ah t<=ah s)) (J (decide (ah s>=ah t)&&decide (bq 0 (ah t) s=t)))
def yR:bz->L->jA:=λs a=>aj (a6 (cy s a 0)) λu=>aj (decide (a>0)&&aJ (u>=48) (decide (u<=57)||u==45) (u==45)) λb=>aJ (a<ah s) (au (decide (0<=a)&&c9 a s) (ag (aJ (u>=97) (decide (u<=122)||b) b) (aH (ax a)) (aA (.inl I)))) (aA (.inr ()))
def mc:bz->dO:=λs=>ag (decide (ah s<1)||decide (ah s>24)) (J I) (aW (yR s) 0 λa=>dh a (λb=>J b) λc=>J W)
def wb:bz->L->Q6:=λs a=>ag (decide (a<ah s)&&decide (a<=25)) (au (decide (0<=a)&&c9 a s) (ag (a6 (cy s a 0)==125) (cw (0<=(1:L)/\1<=a/\a<=ah s) (aq (mc (bq 1 a s)) λb=>ag (!b) (aA (.inr ())) (cw (0<=(1:L)/\1<=a/\a<=ah s) (aA (.inl (ax a,5,bq 1 a s,0)))))) (aH (ax a)))) (aA (.inr ()))
def BH:bz->Bu:=λs=>aW (wb s) 1 λb=>dh b (λa=>J (a.2,a.1)) λc=>J ((0,[],0),0)
def EL:bz->L->jA:=λs a=>aj (a6 (cy s a 0)) λu=>aJ (a<ah s) (au (decide (0<=a)&&c9 a s) (ag (decide (u<32)||(decide (u>126)||(u==60||(u==62||(u==123||u==125))))) (aA (.inl I)) (aH (ax a)))) (aA (.inr ()))
def EM:bz->dO:=λs=>aj (decide (0<=bg (ah s-1))&&c9 (bg (ah s-1)) s) λu=>aj (a6 (cy s (bg (ah s-1)) 0) !=47) λb=>aj (ah s) λa=>aJ (a>64) (J I) (aW (EL s) 0 λf=>dh f (λg=>J g) λh=>aq (qw s) λd=>aj (decide (a>ax (ah d))) λc=>aq (mc d) λe=>au (!e||ag (ah d==a) u (!c||u)) (J (e&&ag (ah d==a) b (c&&b))))
def mO:bz->bz->L->rN:=λs t a=>aJ (bg (a+ah t)<=ah s) (cw (0<=a/\a<=bg (a+ah t)/\bg (a+ah t)<=ah s) (aJ (bq a (bg (a+ah t)) s=t) (aA (.inl a)) (aH (ax a)))) (aA (.inr ()))
def th:bz->bz->L->gD:=λs t a=>aW (mO s t) a λb=>dh b (λc=>J c) λd=>J (-1:L)
def EN:bz->Bu:=λs=>aj (J ((0,[],0),0)) λu=>aq (th s [62] 1) λc=>aj (decide (ah (bq 1 c s)>0)&&a6 (cy (bq 1 c s) (bg (ah (bq 1 c s)-1)) 0)==47) λi=>aj (bq 1 c s) λa=>aj (ag i (bq 0 (bg (ah a-1)) a) a) λd=>aj (ah a) λb=>aj (bq 1 b a) λe=>aj (ag i 4 2) λf=>aj (bg (b-1)) λg=>aJ (c<0) u (cw (0<=(1:L)/\1<=c/\c<=ah s) (aq (nD a [47]) λh=>aj (ag (ag h 3 f !=3) (aq (EM (ag h e d)) λk=>ag (!k) u (J ((ag h 3 f,ag h e d,0),ax c))) (J ((ag h 3 f,ag h e d,0),ax c))) λj=>au (ag h (decide (0<=(1:L)/\1<=b/\b<=b)) ((!decide (b>0)||decide (0<=g)&&c9 g a)&&(!i||decide (0<=(0:L)/\0<=g/\g<=b)))) (ag (ag h 3 f==3) (aq (mc (ag h e d)) λl=>ag (!l) u j) j)))
def oC:L->Q jP:=λb=>J (1,nj [b],0)
def wd:bz->L->Q6:=λs b=>aj (cy [[38,108,116,59,60],[38,103,116,59,62],[38,97,109,112,59,38],[38,108,98,59,123],[38,114,98,59,125]] b []) λu=>aj (bg (ah u-1)) λa=>aJ (b<5) (cw (0<=b/\b<5) (cw (0<=(0:L)/\0<=a/\a<=ah u) (aq (nD s (bq 0 a u)) λc=>ag c (iC a u (aq (oC (fA (cy u a 0))) λd=>aA (.inl (a,d)))) (aH (ax b))))) (aA (.inr ()))
def KE:bz->Bu:=λs=>aj (J ((0,[],0),0)) λu=>aj (s.getD (nat_lit 0) 0) λa=>aj (bX (nat_lit 0) s.length) λb=>au (W&&b) (ag (a6 a==60) (aq (EN s) λc=>ag (c.2==0) u (aq (qw c.1.2.1) λe=>aq (BG e) λf=>ag f u (J c))) (ag (a6 a==38) (aW (wd s) 0 λg=>dh g (λd=>J (d.2,d.1)) λj=>u) (ag (a6 a==123) (aq (BH s) λh=>J h) (au b (aq (oC (fA a)) λi=>J (i,1))))))
def EO:bz->L->Q6:=λs a=>aj (cy [[110,10],[116,9],[115,32],[114,13],[92,92],[123,123]] a []) λu=>aJ (a<6) (cw (0<=a/\a<6) (au (W&&(bX bu s.length&&(W&&bX (nat_lit 0) u.length))) (ag (a6 (s.getD bu 0)==a6 (u.getD (nat_lit 0) 0)) (au (bX bu u.length) (aq (oC (fA (u.getD bu 0))) λb=>aA (.inl (2,b)))) (aH (ax a))))) (aA (.inr ()))
def KF:bz->L->kB:=λs a=>au (!decide (a<ah s)||decide (0<=a)&&(c9 a s&&(a6 (cy s a 0)==32||decide (0<=a)&&c9 a s))) (ag (decide (a<ah s)&&(a6 (cy s a 0)==32||a6 (cy s a 0)==9)) (aH (ax a)) (aA a))
def wh:bz->Bu:=λs=>aj (J ((0,[],0),0)) λu=>aj (s.getD (nat_lit 0) 0) λa=>aj (bX (nat_lit 0) s.length) λb=>au (W&&b) (ag (a6 a==10) u (ag (a6 a==123) (aq (BH s) λd=>J d) (ag (a6 a==92) (aJ (ah s<2) u (aW (EO s) 0 λe=>dh e (λc=>J (c.2,c.1)) λh=>au (W&&bX bu s.length) (ag (a6 (s.getD bu 0) !=10) u (aW (KF s) 2 λf=>J ((0,[],0),f))))) (au b (aq (oC (fA a)) λg=>J (g,1))))))
def KG:bz->Bu:=λs=>au (W&&bX (nat_lit 0) s.length) (ag (a6 (s.getD (nat_lit 0) 0)==34) (aq (nD s [34,34]) λa=>ag a (aq (oC 34) λb=>J (b,2)) (J ((0,[],0),0))) (ag (a6 (s.getD (nat_lit 0) 0)==123) (aq (nD s [123,123]) λc=>ag c (aq (oC 123) λd=>J (d,2)) (aq (BH s) λe=>J e)) (au (bX (nat_lit 0) s.length) (aq (oC (fA (s.getD (nat_lit 0) 0))) λf=>J (f,1)))))
def rP:L->bz->Bu:=λa s=>ag (a==1) (aq (KE s) λb=>J b) (ag (a==2) (aq (wh s) λc=>J c) (aq (KG s) λd=>J d))
def pz:L->bz->abe->anu:=λo raw c=>aj (al c.2.1) λu=>aj (ga (bq 0 (bg (ah u-1))) c.2.1) λp=>aj (aA (.inl (O,O,c.2.2.2.1,3))) λt=>aj (aA (.inl (O,O,c.2.2.2.1,7))) λy=>aj (decide (0+(al c.2.2.1).length=(al c.2.2.1).length)&&(decide ((al c.2.2.1).length+bu<=nat_lit 68719476736)&&c.2.2.1.isSome==c.2.2.1.isSome)) λz=>aj (decide (0+u.length=u.length)&&(decide (u.length+bu<=nat_lit 68719476736)&&c.2.1.isSome==c.2.1.isSome)) λA=>aj (al p).length λv=>aj (bg (ah u-1)) λf=>aj c.2.2.2 λd=>aj (decide (ah (al c.2.2.1)>=1024)) λw=>aj (u.getD (0+f.toNat) (0,[],0)).2 λk=>aj (J (al c.2.2.1++[d.2.1])) λl=>aj p.isSome λm=>aj (ah raw) λg=>aj (bX (0+f.toNat) u.length) λq=>aj (ah u) λr=>aj d.2.2 λh=>aj c.2.1 λi=>aJ (d.1<g) (cw (0<=d.1/\d.1<=g/\g<=g) (aq (rP o (bq d.1 g raw)) λx=>aj x.1.1 λa=>aj (bg (d.1+x.2)) λb=>aj x.1.2.1 λj=>aj ((!a==2||A)&&z) λs=>aj (a==2) λe=>ag (x.2==0) (aA (.inl (O,O,d.1,2))) (ag (a==0) (aH (c.1,i,c.2.2.1,b,d.2)) (ag (ag e e (a==4)) (aq (lD c.1 (J [(a,j,ax h)])) λB=>aj (ah (al B)) λn=>ag (decide (n>512)||w) t (au s (aH (B,ag e (J (u++[(a,j,ax h)])) i,l,b,b,ax h)))) (ag (a==3) (aJ (f<0) y (cG f u (au q (aq (qw k.1) λE=>ag (!decide (E=j)) y (au (decide (0<=f/\f<r)&&q&&(decide (0<=(0:L)/\0<=f/\f<=r)&&m==i.isSome)) (aq (lD c.1 (J [(a,j,k.2)])) λC=>aj (ah (al C)) λu=>ag (decide (u>512)||w) t (au ((!e||decide (0+v=v)&&(decide (v+bu<=nat_lit 68719476736)&&m==m))&&z) (aH (C,ag e (J (al p++[(a,j,k.2)])) p,l,b,b,h))))))))) (aq (lD c.1 (J [x.1])) λD=>aj (ah (al D)) λn=>ag (decide (n>512)||w) t (au s (aH (D,ag e (J (u++[x.1])) i,l,b,b,h))))))))) (aA (.inr (c.1,i,c.2.2.1,d.2.1)))
def ja:L->bz->Q Q8:=λa raw=>aW (pz a raw) (O,O,O,0,0,0) λc=>dh c (λd=>J d) λb=>aJ (ah (al b.2.1)>0) (J (O,O,fQ raw.length,7)) (au (decide (0+(al b.2.2.1).length=(al b.2.2.1).length)&&(decide ((al b.2.2.1).length+bu<=nat_lit 68719476736)&&b.2.2.1.isSome==b.2.2.1.isSome)) (J (b.1,J (al b.2.2.1++[b.2.2.2]),0,0)))
def tj:L->dO:=λn=>J (n==1||(n==2||n==3))
def mP:gC->L->Q jB:=λd part=>aq (tj d.1) λb=>ag (!b) (J (O,1)) (au (decide (part<0)||(decide (part>=ah (al d.2))||decide (0<=part/\part<ah (al d.2)))) (ag (decide (part<0)||(decide (part>=ah (al d.2))|| !(aN d.2 part (I,[],[])).1)) (J (O,6)) (cG part (al d.2) (aq (ja d.1 (aN d.2 part (I,[],[])).2.2) λa=>J (a.1,a.2.2.2)))))
def anw:gC->fS->yJ:=λd a=>aJ (a.2<ah (al d.2)) (au (decide (0<=a.2/\a.2<ah (al d.2))&&(!(aN d.2 a.2 (I,[],[])).1||decide (0+(al a.1).length=(al a.1).length)&&(decide ((al a.1).length+bu<=nat_lit 68719476736)&&a.1.isSome==a.1.isSome))) (aH (ag (aN d.2 a.2 (I,[],[])).1 (J (al a.1++[a.2])) a.1,ax a.2))) (aA a.1)
def EP:gC->rO:=λd=>aW (anw d) (O,0) λa=>au (a.isSome==a.isSome) (au (a.isSome==a.isSome) (J a))
def ER:gC->mN->Kw:=λd a=>aJ (a.2<ah (al d.2)) (au (decide (0<=a.2/\a.2<ah (al d.2))&&c8 (a.1.length+(aN d.2 a.2 (I,[],[])).2.2.length)) (aH (a.1++(aN d.2 a.2 (I,[],[])).2.2,ax a.2))) (aA a.1)
def wj:gC->px:=λd=>aW (ER d) ([],0) λa=>J a
def KH:L×bz->Q (L×bz⊕bz):=λb=>aj (nj [aaX IntKind.u8 (bg (48+b.1.tmod 10))]++b.2) λu=>aj (bg (b.1.tdiv 10)) λa=>au (W&&c8 (bu+Y b.2)) (ag (a==0) (aA u) (aH (a,u)))
def ES:L->px:=λn=>aW KH (n,[]) λa=>J a
def yS:L->px:=λn=>ag (decide (n<0)&&decide (n>(-4611686018427387904:L))) (aq (ES (bg (0-n))) λa=>ig (bu+a.length) (J (45::a))) (aq (ES (lX n 0)) λb=>J b)
def tm:yI->Q (kj×bz×bY×L):=λb=>au (decide (0<=b.2.2/\b.2.2<=ah b.1/\ah b.1<=ah b.1)&&(decide (0+Y (al b.2.1)=Y (al b.2.1))&&(decide (Y (al b.2.1)+bu<=nat_lit 68719476736)&&aad b.2.1==aad b.2.1))) (J (J (al b.2.1++[(I,[],bq b.2.2 (ah b.1) b.1)]),b.1,(),b.2.2))
def tq:bz->L->L->yI->Q yI:=λkey a to b=>au (decide (0<=b.2.2/\b.2.2<=a/\a<=ah b.1)&&(decide (0<=a/\a<=to/\to<=ah b.1)&&(decide (0+Y (al b.2.1)=Y (al b.2.1))&&(decide (Y (al b.2.1)+iO<=nat_lit 68719476736)&&aad b.2.1==aad b.2.1)))) (J (b.1,J (al b.2.1++[(I,[],bq b.2.2 a b.1),(W,key,bq a to b.1)]),to))
def yT:bz->L×Bp->Q (L×Bp⊕vT⊕yI):=λdata a=>aj (cw (0<=a.1/\a.1<=ah data/\ah data<=ah data) (aq (EN (bq a.1 (ah data) data)) λb=>aq (qw b.1.2.1) λd=>ag (b.2==0) (aA (.inl (O,a.1,2))) (aq (BG d) λg=>ag (g&&b.1.1 !=2) (aA (.inl (O,a.1,2))) (aq (BG d) λh=>ag (!h) (aH (bg (a.1+b.2),a.2)) (ig (iO+d.length) (ig (([60,47]++d).length+bu) (aq (th data ([60,47]++d++[62]) (bg (a.1+b.2))) λc=>cw (0<=bg (a.1+b.2)/\bg (a.1+b.2)<=ah data/\ah data<=ah data) (au (!decide (c>=0)||decide (0<=bg (a.1+b.2)/\bg (a.1+b.2)<=c/\c<=ah data)) (aq (ja 1 (aJ (c>=0) (bq (bg (a.1+b.2)) c data) (bq (bg (a.1+b.2)) (ah data) data))) λf=>ag (f.2.2.2 !=0) (aA (.inl (O,bg (bg (a.1+b.2)+f.2.2.1),f.2.2.2))) (aJ (c<0) (aA (.inl (O,ah data,2))) (aq (yS (ax a.2.1)) λi=>aq (tq i (bg (a.1+b.2)) c a.2.2) λj=>aH (bg (bg (c+ah d)+3),ax a.2.1,j)))))))))))) λu=>aj (ah data) λe=>aJ (a.1<e) (au (decide (0<=a.1)&&c9 a.1 data) (ag (a6 (cy data a.1 0) !=60) (aH (ax a.1,a.2)) (cw (0<=a.1/\a.1<=e/\e<=e) (aq (nD (bq a.1 e data) [60,33,45,45]) λl=>ag l (aq (th data [45,45,62] (bg (a.1+4))) λk=>aJ (k>=0) (aH (bg (k+3),a.2)) u) u)))) (aA (.inr a.2.2))
def BJ:bz->vU:=λdata=>aW (yT data) (0,0,data,O,0) λa=>dh a (λb=>J b) λc=>aq (tm c) λd=>J (d.1,0,0)
def ET:kj->bz->L->jA:=λl key b=>aj (al l) λu=>aj (u.getD (0+b.toNat) (I,[],[])) λa=>aj (decide (0<=b/\b<ah u)) λc=>aj (bX (0+b.toNat) u.length) λd=>aJ (b<ah u) (au (c&&(d&&(!a.1||c&&d))) (ag (a.1&&decide (a.2.1=key)) (aA (.inl W)) (aH (ax b)))) (aA (.inr ()))
def KI:kj->bz->dO:=λl key=>aW (ET l key) 0 λa=>dh a (λb=>J b) λc=>J I
def KJ:L->dO:=λc=>aj (aJ (c>=48) (decide (c<=57)||(c==46||(c==95||c==45))) (c==46||(c==95||c==45))) λu=>J (aJ (c>=97) (decide (c<=122)||u) u)
def yU:bz->ay->L->kB:=λdata pairs a=>au (!decide (a<ah data)||decide (0<=a)&&c9 a data) (ag (decide (a<ah data)&&a6 (cy data a 0) !=10) (au (!pairs||decide (0<=a)&&c9 a data) (aH (ax (ag (pairs&&a6 (cy data a 0)==92) (ax a) a)))) (aA a))
def tu:bz->L->ay->gD:=λdata at' pairs=>aW (yU data pairs) at' λa=>J (ji a (ah data))
def yV:bz->L->kB:=λb a=>au (!decide (a<ah b)||decide (0<=a)&&(c9 a b&&(a6 (cy b a 0)==32||decide (0<=a)&&c9 a b))) (ag (decide (a<ah b)&&(a6 (cy b a 0)==32||a6 (cy b a 0)==9)) (aH (ax a)) (aA a))
def EU:bz->Bp->L->kB:=λb c a=>aJ (a<ah b) (aJ (a<bg (c.1+64)) (iC a b (aq (KJ (fA (cy b a 0))) λd=>ag d (aH (ax a)) (aA a))) (aA a)) (aA a)
def EV:bz->Bp->Q (Bp⊕vT⊕yI):=λa b=>aJ (b.1<ah a) (aW (yV a) b.1 λd=>au (decide (d>=ah a)||decide (0<=d)&&(c9 d a&&(a6 (cy a d 0)==10||decide (0<=d)&&c9 d a))) (ag (decide (d>=ah a)||(a6 (cy a d 0)==10||a6 (cy a d 0)==35)) (aq (tu a d I) λg=>aH (ax g,b.2)) (aW (EU a b) b.1 λc=>au (c==b.1||(decide (c>=ah a)||decide (0<=c)&&c9 c a)) (ag (c==b.1||(decide (c>=ah a)||a6 (cy a c 0) !=61)) (aA (.inl (O,b.1,2))) (cw (0<=b.1/\b.1<=c/\c<=ah a) (au (b.2.2.1.isSome==b.2.2.1.isSome) (aq (KI b.2.2.1 (bq b.1 c a)) λh=>ag h (aA (.inl (O,b.1,5))) (aq (tu a (ax c) W) λe=>cw (0<=ax c/\ax c<=e/\e<=ah a) (aq (ja 2 (bq (ax c) e a)) λf=>ag (f.2.2.2 !=0) (aA (.inl (O,bg (ax c+f.2.2.1),f.2.2.2))) (aq (tq (bq b.1 c a) (ax c) e b.2) λi=>aH (ax e,i))))))))))) (aA (.inr b.2))
def BK:bz->vU:=λa=>aW (EV a) (0,a,O,0) λb=>dh b (λc=>J c) λd=>aq (tm d) λe=>J (e.1,0,0)
def KK:bz->L->kB:=λdata a=>au (!decide (a<ah data)||decide (0<=a)&&(c9 a data&&(a6 (cy data a 0) !=34||(!decide (ax a<ah data)||decide (0<=ax a)&&c9 (ax a) data)))) (ag (decide (a<ah data)&&(a6 (cy data a 0) !=34||decide (ax a<ah data)&&a6 (cy data (ax a) 0)==34)) (au (decide (0<=a)&&c9 a data) (aH (ax (ag (a6 (cy data a 0)==34) (ax a) a)))) (aA a))
def KL:bz->L->kB:=λdata c=>aj (a6 (cy data c 0)) λu=>aj (decide (0<=c)) λa=>aj (decide (c<ah data)) λd=>aj (u !=44) λe=>aj (u !=34) λf=>aj (c9 c data) λb=>au (!d||a&&(b&&(!f||a&&(b&&(!e||a&&b))))) (ag (d&&(f&&(e&&u !=10))) (aH (ax c)) (aA c))
def KN:bz->L->abm:=λdata at'=>aj (decide (at'<ah data)&&a6 (cy data at' 0)==34) λu=>aj (ah data) λb=>au (!decide (at'<b)||decide (0<=at')&&c9 at' data) (ag u (aW (KK data) (ax at') λg=>aj (a6 (cy data (ax g) 0)) λd=>aj (ax g) λa=>aj (decide (0<=a)) λc=>aj (d==44) λf=>aJ (g>=b) (J (0,W,I)) (au (a==b||c&&(c9 a data&&(f||c&&c9 a data))) (J (ag (a==b) a (ag f a a),ag (a==b) u (ag f u u),a==b||(f||d==10))))) (aW (KL data) at' λe=>aj (a6 (cy data e 0)) λd=>aj (decide (0<=e)) λa=>aj (d==44) λc=>au (e==b||a&&(c9 e data&&(c||a&&c9 e data))) (J (ag (e==b) e (ag c e e),ag (e==b) u (ag c u u),e==b||(c||d==10)))))
def EW:bz->Bq->Bq->Q (Bq⊕vT⊕Bq):=λm t g=>aj [116,101,120,116] λu=>aj t.2.2.2.1 λk=>aj g.2.2 λa=>aj (ax g.1) λf=>aj (ah m) λl=>aj O λn=>aj a.2.1 λo=>aj (decide (k>0)) λp=>aj (k==0) λq=>aj g.2.1 λr=>aj (ax a.1) λc=>aq (KN m g.1) λd=>aj (q&&decide (bq g.1 d.1 m=u)) λu=>aj (decide (d.1>=l)) λh=>aj (bg (d.1-1)) λe=>aj (ag u a.1 r) λb=>aj (h||decide (0<=d.1)&&c9 d.1 m) λi=>aj (ag u (ax o) o) λu=>aj (h||a6 (cy m d.1 0)==10) λj=>ag (!d.2.2||p&&(decide (a.1>=t.2.1)||a.1==r&& !d.2.1)) (aA (.inl (n,g.1,2))) (au (!q||decide (0<=g.1/\g.1<=d.1/\d.1<=l)) (ag (p&&a.1==b) (cw (0<=f/\f<=e/\e<=l) (aq (ja 3 (bq f e m)) λs=>ag (s.2.2.2 !=0) (aA (.inl (n,bg (f+s.2.2.1),s.2.2.2))) (aq (yS k) λw=>aq (tq w f e a.2.2) λv=>au i (ag j (aA (.inr (d.1,b,c,u,v))) (aH (ax d.1,b,c,u,v)))))) (au i (ag j (aA (.inr (d.1,b,c,u,a.2.2))) (aH (ax d.1,b,c,u,a.2.2))))))
def EX:bz->Bq->Q (Bq⊕vT⊕yI):=λg c=>aj (aA (.inl (O,c.1,2))) λu=>aj O λd=>aj c.2.2.2 λb=>ag (b.1==0||decide (c.1<ah g)) (aW (EW g c) (c.1,c.2.2.1,0,0,b.2) λh=>dh h (λi=>aA (.inl i)) λf=>aj f.2.2 λa=>aj (f.2.1,ax b.1,a.2.2) λe=>ag (b.1==0) (ag (a.2.1==0) (aA (.inl (d,0,6))) (aJ (a.2.1>1) (aA (.inl (d,0,5))) (aJ (a.1<a.1) u (aH (ax f.1,a.1,e))))) (aJ (a.1<c.2.1) u (aH (ax f.1,c.2.1,e)))) (aA (.inr b.2))
def BL:bz->vU:=λa=>aW (EX a) (0,0,(-1:L),0,a,O,0) λb=>dh b (λc=>J c) λd=>aq (tm d) λe=>J (e.1,0,0)
def KO:L->bz->vU:=λa data=>aJ (ah data>65536) (J (O,0,3)) (ag (a==1) (aq (BJ data) λb=>J b) (ag (a==2) (aq (BK data) λc=>J c) (aq (BL data) λd=>J d)))
def qx:L->bz->Q (gC×ez):=λa data=>aq (tj a) λc=>ag (!c) (J ((0,O),0,1)) (aq (KO a data) λb=>ag (b.2.2 !=0) (J ((0,O),b.2)) (J ((a,b.1),0,0)))
def Rg:kj->kj->L->jA:=λa b c=>aJ (c<ah (al a)) (au (decide (0<=c/\c<ah (al a))&&decide (0<=c/\c<ah (al b))) (ag (!((aN a c (I,[],[])).1==(aN b c (I,[],[])).1&&(decide ((aN a c (I,[],[])).2.1=(aN b c (I,[],[])).2.1)&&(decide ((aN a c (I,[],[])).2.2=(aN b c (I,[],[])).2.2)&&W)))) (aA (.inl I)) (aH (ax c)))) (aA (.inr ()))
def KP:kj->kj->dO:=λa b=>ag (ah (al a) !=ah (al b)) (J I) (aW (Rg a b) 0 λc=>dh c (λd=>J d) λe=>J W)
def Rh:gC->gC->dO:=λa b=>ag (a.1==b.1) (aq (KP a.2 b.2) λc=>J c) (J I)
def tw:gC->gD:=λd=>aq (tj d.1) λb=>ag (!b) (J 1) (aq (wj d) λc=>aq (qx d.1 c) λa=>ag (a.2.2 !=0) (J 11) (aq (Rh a.1 d) λe=>ag (!e) (J 11) (J 0)))
def BN:rM->L->Q (L⊕vV⊕bY):=λbB a=>bS a (al bB) (aq (tw (aN bB a (0,O))) λb=>ag (b !=0) (aA (.inl (b,O,O,0))) (aH (ax a))) (aA (.inr ()))
def yW:yM->dv->yM->lA->yM->Ra:=λc d e b a=>aJ (a.1<ah (al b)) (au (decide (0<=a.1/\a.1<ah (al b))&&(decide (0+(al a.2.2.1).length=(al a.2.2.1).length)&&(decide ((al a.2.2.1).length+bu<=nat_lit 68719476736)&&a.2.2.1.isSome==a.2.2.1.isSome))) (aH (ax a.1,a.2.1,J (al a.2.2.1++[(a.2.2.2,c.1,aN d e.1 0,aN b a.1 (0,0),0,O,[],0,I)]),ax a.2.2.2))) (aA a.2)
def yX:rM->sZ->yM->dv->yM->Ra:=λbB a d c b=>bS b.1 (al c) (aq (mP (aN bB d.1 (0,O)) (aN c b.1 0)) λe=>aq (BE a e.1) λf=>aW (yW d c b f) (0,b.2) λg=>aH (ax b.1,g)) (aA b.2)
def EY:rM->sZ->yM->Ra:=λbB a b=>bS b.1 (al bB) (aq (EP (aN bB b.1 (0,O))) λc=>aW (yX bB a b c) (0,b.2) λd=>aH (ax b.1,d)) (aA b.2)
def wm:rM->sZ->yL:=λbB a=>aJ (ah (al bB)>16) (J ((O,O,0),3)) (aW (BN bB) 0 λd=>dh d (λc=>au (c.2.1.isSome==c.2.1.isSome) (au (c.2.2.1.isSome==c.2.2.1.isSome) (J (c.2,c.1)))) λe=>au (W&&decide (nat_lit 0+(al bB).length<=nat_lit 68719476736)) (aW (EY bB a) (0,[]++al bB,O,1) λb=>aJ (ah (al b.2.1)>512) (J ((O,O,0),3)) (au (b.2.1.isSome==b.2.1.isSome) (au (b.2.1.isSome==b.2.1.isSome) (J ((J b.1,b.2),0))))))
def Ri:eS->L->L->rN:=λp id a=>bS a (al p.2.1) (ag ((aN p.2.1 a (0,0,0,(0,0),0,O,[],0,I)).1==id) (aA (.inl a)) (aH (ax a))) (aA (.inr ()))
def yY:eS->L->gD:=λp id=>aW (Ri p id) 0 λa=>dh a (λb=>J b) λc=>J (-1:L)
def tx:eS->L->lB:=λp i=>aj (aN p.2.1 i (0,0,0,(0,0),0,O,[],0,I)).2 λu=>cG i (al p.2.1) (cG u.1 (al p.1) (aq (mP (aN p.1 u.1 (0,O)) u.2.1) λa=>aq (l9 a.1 u.2.2.1.1 u.2.2.1.2) λb=>J b.1))
def KQ:eS->L->kV->Q eS:=λp i s=>au (W&&decide (nat_lit 0+Y (al p.2.1)<=nat_lit 68719476736)) (au (decide (0<=i/\i<ah ([]++al p.2.1))&&bX (0+G i) (Y ([]++al p.2.1))) (au (W&&decide (nat_lit 0+Y (al p.1)<=nat_lit 68719476736)) (J (J ([]++al p.1),J (([]++al p.2.1).set (0+G i) s),p.2.2))))
def kC:kV->dO:=λs=>aj s.2.2.2.2.2.2 λu=>aj (decide (u.1=[])) λc=>aj (c&&decide (u.2.1>=1)) λd=>aj s.2.2.2.2 λa=>aj (u.2.1==0) λb=>ag (a.1==0) (J (ah (al a.2.1)==0&&(c&&b))) (ag (a.1==1) (J (c&&b)) (ag (a.1==2) (aq (mc u.1) λe=>J (e&&b)) (ag (a.1==3) (aq (mc u.1) λf=>J (ag f (b||d) d)) (J I))))
def BO:dv->dv->L->jA:=λa b c=>aJ (c<ah (al a)) (au (decide (0<=c/\c<ah (al a))&&decide (0<=c/\c<ah (al b))) (ag (aN a c 0 !=aN b c 0) (aA (.inl I)) (aH (ax c)))) (aA (.inr ()))
def tz:dv->dv->dO:=λa b=>ag (ah (al a) !=ah (al b)) (J I) (aW (BO a b) 0 λc=>dh c (λd=>J d) λe=>J W)
def anx:lz->lz->L->jA:=λa b c=>aJ (c<ah (al a)) (au (decide (0<=c/\c<ah (al a))&&decide (0<=c/\c<ah (al b))) (ag (!decide (aN a c []=aN b c [])) (aA (.inl I)) (aH (ax c)))) (aA (.inr ()))
def KR:lz->lz->dO:=λa b=>ag (ah (al a) !=ah (al b)) (J I) (aW (anx a b) 0 λc=>dh c (λd=>J d) λe=>J W)
def Rj:bW->dv×fS->abd:=λf a=>aj (al a.2.1) λu=>aj (decide (0<=a.2.2/\a.2.2<ah (al f))) λh=>aj (aN f a.2.2 (0,[],0)) λc=>aj (bg (ah u-1)) λb=>aj (al a.1).length λi=>aj u.length λd=>aj (ga (bq 0 b) a.2.1) λl=>aj a.2.1.isSome λj=>aj (ax a.2.2) λe=>aj (ah u) λk=>aj a.1.isSome λg=>bS a.2.2 (al f) (ag (c.1==2) (au (h&&(decide (0+d=d)&&(decide (d+bu<=nat_lit 68719476736)&&j==j))) (aH (a.1,J (u++[c.2.2]),e))) (ag (c.1==3) (ag (k==0) (au (h&&(decide (0+i=i)&&(decide (i+bu<=nat_lit 68719476736)&&g==g))) (aH (J (al a.1++[c.2.2]),a.2.1,e))) (au (decide (0<=b/\b<k)&&(bX (0+b.toNat) d&&h)) (ag (u.getD (0+b.toNat) 0==c.2.2) (au (decide (0<=(0:L)/\0<=b/\b<=k)&&l.isSome==j) (aH (a.1,l,e))) (aA (.inl (O,O,I)))))) (aH (a.1,a.2.1,e)))) (aA (.inr (a.1,a.2.1)))
def EZ:bW->abk:=λf=>aW (Rj f) (O,O,0) λb=>dh b (λc=>J c) λa=>au (a.1.isSome==a.1.isSome&&a.2.isSome==a.2.isSome) (au (a.1.isSome==a.1.isSome) (au (a.2.isSome==a.2.isSome) (J (a.1,a.2,W))))
def E1:lz->bz->L->kB:=λl s a=>au (!decide (a<ah (al l))||decide (0<=a/\a<ah (al l))) (ag (decide (a<ah (al l))&&(Op.bytesLess (aN l a []) s||decide (aN l a []=s))) (aH (ax a)) (aA a))
def KS:lz->bz->Q lz:=λl s=>aj (ah (al l)) λu=>aj [s] λe=>aW (E1 l s) 0 λa=>aj (dW (al (ga (bq 0 a) l))) λf=>aj (al f) λb=>aj (al (ga (bq a u) l)) λg=>aj (Y (al (ga (bq 0 a) l))) λi=>aj (Y (b++e)) λc=>aj (Y b) λd=>aj (aad f) λh=>au (decide (0<=(0:L)/\0<=a/\a<=u)&&(decide (i<=nat_lit 68719476736)&&(decide (0+d=d)&&(decide (d+bu<=nat_lit 68719476736)&&h==h)))) (au (decide (0<=a/\a<=u/\u<=u)&&(decide (0+c=c)&&decide (c+Y g<=nat_lit 68719476736))) (J (J (b++e++g))))
def E2:bW->lz×L->Q (lz×L⊕lz):=λf a=>bS a.2 (al f) (ag ((aN f a.2 (0,[],0)).1==5) (cG a.2 (al f) (aq (KS a.1 (aN f a.2 (0,[],0)).2.1) λb=>aH (b,ax a.2))) (aH (a.1,ax a.2))) (aA a.1)
def E3:bW->Q lz:=λf=>aW (E2 f) (O,0) λa=>J a
def pA:jP->dO:=λx=>J (x.1==2||(x.1==3||x.1==4))
def E4:bW->jB->yK:=λf a=>bS a.2 (al f) (aq (pA (aN f a.2 (0,[],0))) λb=>au (!b||decide (0<=a.2/\a.2<ah (al f))&&(decide (0+(al a.1).length=(al a.1).length)&&(decide ((al a.1).length+bu<=nat_lit 68719476736)&&a.1.isSome==a.1.isSome))) (aH (ag b (J (al a.1++[aN f a.2 (0,[],0)])) a.1,ax a.2))) (aA a.1)
def E5:bW->lB:=λf=>aW (E4 f) (O,0) λa=>au (a.isSome==a.isSome) (au (a.isSome==a.isSome) (J a))
def E6:bW->jP->ez->ta:=λf x a=>bS a.2 (al f) (aH (ag ((aN f a.2 (0,[],0)).1==x.1&&(decide ((aN f a.2 (0,[],0)).2.1=x.2.1)&&((aN f a.2 (0,[],0)).2.2==x.2.2&&W))) (ax a.1) a.1,ax a.2)) (aA a.1)
def E7:bW->jP->gD:=λf x=>aW (E6 f x) (0,0) λa=>J a
def E8:bW->bW->L->jA:=λa c b=>bS b (al a) (aq (E7 a (aN a b (0,[],0))) λd=>cG b (al a) (aq (E7 c (aN a b (0,[],0))) λe=>ag (d !=e) (aA (.inl I)) (aH (ax b)))) (aA (.inr ()))
def yZ:bW->bW->dO:=λsource target=>aq (EZ source) λa=>aq (EZ target) λb=>ag (!a.2.2) (J I) (ag (!b.2.2) (J I) (aq (tz a.1 b.1) λg=>ag (!g) (J I) (aq (tz a.2.1 b.2.1) λh=>ag (!h) (J I) (aq (E3 source) λi=>aq (E3 target) λj=>aq (KR i j) λk=>ag (!k) (J I) (aq (E5 source) λe=>aq (E5 target) λf=>ag (ah (al e) !=ah (al f)) (J I) (aW (E8 e f) 0 λc=>dh c (λd=>J d) λl=>J W))))))
def y0:bW->jP->L->rN:=λa x d=>aj (aN a d (0,[],0)) λu=>aj (aA (.inl 7)) λb=>aj (aH (ax d)) λc=>bS d (al a) (aq (pA u) λe=>ag (!e||u.2.2 !=x.2.2) c (ag (x.1 !=3) b (ag (u.1 !=2) b (aq (qw u.2.1) λf=>ag (!decide (f=x.2.1)) b c)))) (aA (.inr ()))
def abp:bW->jP->L->rN:=λa x d=>aj (aN a d (0,[],0)) λu=>aj (aA (.inl 7)) λb=>aj (aH (ax d)) λc=>bS d (al a) (aq (pA u) λe=>ag (!e||u.2.2 !=x.2.2) c (ag (x.1 !=3) b (ag (u.1 !=2) b (aq (qw u.2.1) λf=>ag (!decide (f=x.2.1)) b c)))) (aA (.inr ()))
def KT:bW->jP->gD:=λa x=>aj (ah (al a)) λu=>aj (decide (x.2.2<1)||decide (x.2.2>999)) λd=>aj (x.2.2 !=0) λb=>aj (decide (x.2.1=[])) λe=>aj (bg (u-1)) λc=>aj (decide (u>0)) λf=>ag (x.1==1) (au (e||(b||(!f||decide (0<=c/\c<u)))) (ag (e||(b||f&&(aN a c (0,[],0)).1==1)) (J 1) (J 0))) (ag (x.1==5) (aq (mc x.2.1) λg=>ag (!g||b) (J 1) (J 0)) (ag (ag (x.1==2) (x.1==2) (x.1==4)) (aq (EM x.2.1) λh=>ag (!h||d) (J 1) (aW (y0 a x) 0 λi=>dh i (λj=>J j) λn=>J 0)) (ag (x.1==3) (aq (mc x.2.1) λk=>ag (!k||d) (J 1) (aW (abp a x) 0 λl=>dh l (λm=>J m) λo=>J 0)) (J 1))))
def KU:bW->L->rN:=λf a=>aJ (a<ah (al f)) (cw (0<=(0:L)/\0<=a/\a<=ah (al f)) (cG a (al f) (aq (KT (ga (bq 0 a) f) (aN f a (0,[],0))) λb=>ag (b !=0) (aA (.inl b)) (aH (ax a))))) (aA (.inr ()))
def BP:bW->gD:=λf=>aJ (ah (al f)>512) (J 3) (aq (nC f) λa=>aJ (a>1024) (J 3) (aW (KU f) 0 λb=>dh b (λc=>J c) λd=>J 0))
def BQ:dv->L->L->jA:=λl n a=>aJ (a<ah (al l)) (au (decide (0<=a/\a<ah (al l))&&bX (0+a.toNat) (al l).length) (ag ((al l).getD (0+a.toNat) 0==n) (aA (.inl W)) (aH (ax a)))) (aA (.inr ()))
def KW:dv->L->dO:=λl n=>aW (BQ l n) 0 λa=>dh a (λb=>J b) λc=>J I
def E9:bW->fS->yJ:=λf a=>aj (al f) λu=>aj (aN f a.2 (0,[],0)) λc=>aj (al a.1).length λd=>aj a.1.isSome λb=>bS a.2 u (aq (pA c) λg=>ag g (cG a.2 u (au (b==b) (aq (KW a.1 c.2.2) λe=>au (!!e||decide (0<=a.2/\a.2<ah u)&&(decide (0+d=d)&&(decide (d+bu<=nat_lit 68719476736)&&b==b))) (aH (ag (!e) (J (al a.1++[c.2.2])) a.1,ax a.2))))) (aH (a.1,ax a.2))) (aA a.1)
def BR:bW->rO:=λf=>aW (E9 f) (O,0) λa=>au (a.isSome==a.isSome) (au (a.isSome==a.isSome) (J a))
def Fa:bW->dv->dv->jB->L->Q (L⊕M jP):=λf a to b c=>au (decide (c<ah (al a))&&decide (c<ah (al to))) (cG c (al a) (ag (aN a c 0==(aN f b.2 (0,[],0)).2.2) (au (decide (0<=c/\c<ah (al to))&&(decide (0+(al b.1).length=(al b.1).length)&&(decide ((al b.1).length+bu<=nat_lit 68719476736)&&b.1.isSome==b.1.isSome))) (aA (al b.1++[((aN f b.2 (0,[],0)).1,(aN f b.2 (0,[],0)).2.1,aN to c 0)]))) (aH (ax c))))
def Fb:bW->dv->dv->jB->yK:=λf b to a=>bS a.2 (al f) (aq (pA (aN f a.2 (0,[],0))) λc=>ag (!c) (au (decide (0+(al a.1).length=(al a.1).length)&&(decide ((al a.1).length+bu<=nat_lit 68719476736)&&a.1.isSome==a.1.isSome)) (aH (J (al a.1++[aN f a.2 (0,[],0)]),ax a.2))) (aW (Fa f b to a) 0 λd=>aH (J d,ax a.2))) (aA a.1)
def KX:bW->dv->dv->lB:=λf a to=>aW (Fb f a to) (O,0) λb=>au (b.isSome==b.isSome) (aq (EK b) λc=>J c)
def Fc:L->fS->yJ:=λn a=>aJ (a.2<=n) (au (decide (0+(al a.1).length=(al a.1).length)&&(decide ((al a.1).length+bu<=nat_lit 68719476736)&&a.1.isSome==a.1.isSome)) (aH (J (al a.1++[a.2]),ax a.2))) (aA a.1)
def Fe:L->rO:=λn=>aW (Fc n) (O,1) λa=>au (a.isSome==a.isSome) (au (a.isSome==a.isSome) (J a))
def KY:bW->lB:=λf=>aq (BR f) λa=>aq (Fe (fQ (al a).length)) λb=>aq (KX f a b) λc=>J c
def Rk:bW->bW->L->jA:=λa b c=>aJ (c<ah (al a)) (au (decide (0<=c/\c<ah (al a))&&decide (0<=c/\c<ah (al b))) (ag (!((aN a c (0,[],0)).1==(aN b c (0,[],0)).1&&(decide ((aN a c (0,[],0)).2.1=(aN b c (0,[],0)).2.1)&&((aN a c (0,[],0)).2.2==(aN b c (0,[],0)).2.2&&W)))) (aA (.inl I)) (aH (ax c)))) (aA (.inr ()))
def Ff:bW->bW->dO:=λa b=>ag (ah (al a) !=ah (al b)) (J I) (aW (Rk a b) 0 λc=>dh c (λd=>J d) λe=>J W)
def BS:L->L->px:=λa c=>ag (a==1) (ag (c==60) (J [38,108,116,59]) (ag (c==38) (J [38,97,109,112,59]) (ag (c==123) (J [38,108,98,59]) (J [kr c.toNat])))) (ag (a==2) (ag (c==10) (J [92,110]) (ag (c==9) (J [92,116]) (ag (c==13) (J [92,114]) (ag (ag (c==92) (c==92) (c==123)) (ig (bu+bu) (J [92,kr c.toNat])) (J [kr c.toNat]))))) (ag (c==34||c==123) (ig (bu+bu) (J [kr c.toNat,kr c.toNat])) (J [kr c.toNat])))
def abq:L->bW->mN->mN->Kw:=λa f d b=>aj (aN f d.2 (0,[],0)).2.1 λu=>aJ (b.2<ah u) (iC b.2 u (aq (BS a (fA (cy u b.2 0))) λc=>ig (b.1.length+c.length) (aH (b.1++c,ax b.2)))) (aA b.1)
def BT:L->bW->mN->mN->Kw:=λa f d b=>aj (aN f d.2 (0,[],0)).2.1 λu=>aJ (b.2<ah u) (iC b.2 u (aq (BS a (fA (cy u b.2 0))) λc=>ig (b.1.length+c.length) (aH (b.1++c,ax b.2)))) (aA b.1)
def KZ:L->bW->mN->Q (mN⊕mN⊕bz):=λa f b=>aj (aN f b.2 (0,[],0)) λu=>aj (au (ag (u.1==2) (c8 (bu+u.2.1.length)&&(c8 (([60]++u.2.1).length+bu)&&c8 (b.1.length+([60]++u.2.1++[62]).length))) (ag (u.1==3) (c8 (iO+u.2.1.length)&&(c8 (([60,47]++u.2.1).length+bu)&&c8 (b.1.length+([60,47]++u.2.1++[62]).length))) (ag (u.1==4) (c8 (bu+u.2.1.length)&&(c8 (([60]++u.2.1).length+iO)&&c8 (b.1.length+([60]++u.2.1++[47,62]).length))) (!u.1==5||c8 (bu+u.2.1.length)&&(c8 (([123]++u.2.1).length+bu)&&c8 (b.1.length+([123]++u.2.1++[125]).length)))))) (aH (ag (u.1==2) (b.1++([60]++u.2.1++[62])) (ag (u.1==3) (b.1++([60,47]++u.2.1++[62])) (ag (u.1==4) (b.1++([60]++u.2.1++[47,62])) (ag (u.1==5) (b.1++([123]++u.2.1++[125])) b.1))),ax b.2))) λc=>aj (aA (.inl ([],7))) λd=>bS b.2 (al f) (aq (pA u) λe=>ag e (ag (a !=1) d (aq (qw u.2.1) λg=>aq (BG g) λh=>ag h d (ag (u.1==1) (aW (abq a f b) (b.1,0) λi=>aH (i,ax b.2)) c))) (ag (u.1==1) (aW (BT a f b) (b.1,0) λj=>aH (j,ax b.2)) c)) (aA (.inr b.1))
def Fg:L->bW->pw:=λa f=>aq (BP f) λb=>ag (b !=0) (J ([],b)) (aW (KZ a f) ([],0) λc=>dh c (λd=>J d) λe=>J (e,0))
def Fh:lA->jB->ez->Q (ez⊕yN⊕bY):=λc d b=>aj (aA (.inl (1,0,O))) λu=>aj (aN c b.2 (0,0)) λa=>bS b.2 (al c) (aJ (a.1<b.1) u (aJ (a.2<a.1) u (aq (nC d.1) λe=>aJ (a.2>e) u (aH (a.2,ax b.2))))) (aA (.inr ()))
def Fi:gC->L->lA->pv->jB->Q8->L×bz×L×jB->anv:=λl o m n p k c=>aj (aN m c.2.2.2.2 (0,0)) λu=>aj (aN l.2 o (I,[],[])).2.2 λf=>aj (aN k.2.1 u.1 0) λd=>aj (aN n c.2.2.2.2 O) λg=>aj c.2.2 λa=>aj (al n) λh=>aj (al k.2.1) λi=>aj (bq a.1 d f) λe=>aj a.2.2 λb=>bS b (al m) (cG b h (aq (Fg l.1 g) λj=>ag (j.2 !=0) (aA (.inl (j.2,0,O))) (au (decide (0<=u.1/\u.1<ah i)&&(decide (0<=a.1/\a.1<=d/\d<=ah f)&&(c8 (e.length+j.1.length)&&c8 (c.2.1.length+(e++j.1).length)))) (cG u.2 i (aq (l9 p.1 c.1 u.1) λq=>aq (lD a.2.1 q.1) λr=>cG b h (aq (lD r g) λs=>aH (u.2,c.2.1++(e++j.1),aN k.2.1 u.2 0,s,ax b))))))) (aA (.inr (c.1,c.2.1,a.1,a.2.1)))
def BU:gC->L->lA->pv->Kx:=λc d n x=>aj (aN c.2 d (I,[],[])).2.2 λu=>aj (al (dW (al c.2))) λe=>aj (0,O) λa=>aj (al c.2) λf=>aj (aad (dW f)) λl=>aj (ah u) λb=>aj (H e (0+G d) (I,[],[])) λm=>aq (tw c) λy=>ag (y !=0) (J (a,y)) (aq (mP c d) λj=>ag (j.2 !=0) (J (a,j.2)) (cG d f (aq (ja c.1 u) λz=>ag (ah (al n) !=ah (al x)) (J (a,1)) (aW (Fh n j) (0,0) λA=>dh A (λo=>aj (aad o.2.2) λu=>au (u==u) (J (o.2,o.1))) λC=>aW (Fi c d n x j z) (0,[],0,O,0) λB=>dh B (λp=>aj (aad p.2.2) λu=>au (u==u) (J (p.2,p.1))) λk=>aj (k.2.1++bq k.2.2.1 b u) λg=>aj k.2.2.1 λh=>au (decide (0<=h/\h<=b/\b<=b)&&c8 (Y k.2.1+Y (bq h b u))) (aq (nC j.1) λq=>aq (l9 j.1 k.1 q) λr=>aq (lD k.2.2.2 r.1) λs=>aq (ja c.1 g) λi=>ag (i.2.2.2 !=0) (J (a,i.2.2.2)) (aq (KY s) λt=>aq (Ff i.1 t) λv=>ag (!v) (J (a,11)) (aq (wj c) λw=>aj (bg (bg (ah w-b)+ah g)) λu=>aJ (u>65536) (J (a,3)) (au (decide (Y f<=nat_lit 68719476736)&&l==l) (au (decide (0<=d/\d<ah e)&&bX (0+G d) (Y e)) (J ((c.1,J (e.set (0+G d) (m.1,m.2.1,g))),0)))))))))))
def lE:gC->bW->kV->gD:=λd source s=>aq (kC s) λb=>ag (!b) (J 8) (aq (BP s.2.2.2.2.2.1) λa=>ag (a !=0) (J a) (ag (s.2.2.2.2.1 !=3) (J 0) (aq (yZ source s.2.2.2.2.2.1) λc=>ag (!c) (J 7) (aq (BU d s.2.2.1 (J [s.2.2.2.1]) (J [s.2.2.2.2.2.1])) λe=>J e.2))))
def rQ:eS->kV->yL:=λp s=>aj (0,0,0,(0,0),0,O,[],0,I) λu=>aj (O,O,0) λa=>aj (al s.2.2.2.2.2.1) λb=>aj (s.2.2.2.2.1,J ([]++b),s.2.2.2.2.2.2) λf=>aj p.2.1 λc=>aj (nat_lit 0+Y b) λg=>aq (yY p s.1) λd=>aj (aN c d u) λu=>aj (u.1,u.2.1,u.2.2.1,u.2.2.2.1,f) λe=>aJ (d<0) (J (a,6)) (cG d (al c) (au (W&&decide (g<=nat_lit 68719476736)) (cG u.2.1 (al p.1) (aq (tx p d) λi=>aq (lE (aN p.1 u.2.1 (0,O)) i e) λh=>ag (h !=0) (J (a,h)) (aq (KQ p d e) λj=>J (j,0))))))
def anz:nB->nB->L->jA:=λa b c=>aj (ah (al a)) λu=>aj (aN b c (0,0,0)) λd=>aj (aN a c (0,0,0)) λe=>aj (ah (al b)) λf=>aJ (c<u) (au (decide (0<=c/\c<u)&&decide (0<=c/\c<f)) (ag (!(e.1==d.1&&(e.2.1==d.2.1&&(e.2.2==d.2.2&&W)))) (aA (.inl I)) (aH (ax c)))) (aA (.inr ()))
def abr:nB->nB->dO:=λa b=>ag (ah (al a) !=ah (al b)) (J I) (aW (anz a b) 0 λc=>dh c (λd=>J d) λe=>J W)
def tA:gC->px:=λd=>if(gG (d.2.getD []).length 4611686018427387903&&gG ((d.2.getD []).flatMap λq=>q.2.2).length 140737488355328)=W then J ((d.2.getD []).flatMap λq=>q.2.2)else O
def y5:L->dO:=λa=>J (a==1||(a==2||a==3))
def y6:bz->Q qu:=λdata=>J (data,0,O)
def y7:qu->Q (kj×bz×L×bY):=λp=>au (decide (0<=p.2.1/\p.2.1<=ah p.1/\ah p.1<=ah p.1)&&(decide (0+(al p.2.2).length=(al p.2.2).length)&&(decide ((al p.2.2).length+bu<=nat_lit 68719476736)&&p.2.2.isSome==p.2.2.isSome))) (J (J (al p.2.2++[(I,[],bq p.2.1 (ah p.1) p.1)]),p.1,p.2.1,()))
def y8:L->L->bz->qu->Q qu:=λa to key p=>au (decide (0<=p.2.1/\p.2.1<=a/\a<=ah p.1)&&(decide (0<=a/\a<=to/\to<=ah p.1)&&(decide (0+(al p.2.2).length=(al p.2.2).length)&&(decide ((al p.2.2).length+iO<=nat_lit 68719476736)&&p.2.2.isSome==p.2.2.isSome)))) (J (p.1,to,J (al p.2.2++[(I,[],bq p.2.1 a p.1),(W,key,bq a to p.1)])))
def Fj:kW->Q kW:=λb=>aj (al b.1).length λu=>aj (ah (al b.2.1)) λa=>aj b.1.isSome λd=>aj b.2.2 λc=>aj b.2.1.isSome λe=>au (!decide (a>0)||e==e&&(decide (0+u=u)&&(decide (u+bu<=nat_lit 68719476736)&&d==d))) (J (aJ (a>0) (J (al b.1++[(1,nj (al b.2.1),0)])) b.1,aJ (a>0) O b.2.1,aJ (a>0) c.1 c.1,aJ (a>0) c.2.1 c.2.1,aJ (a>0) c.2.2 c.2.2))
def K0:kW->Q (bW×kW):=λb=>aq (Fj b) λa=>au (a.1.isSome==a.1.isSome) (J (a.1,a))
def Fk:ay->kW->dO:=λtext b=>J (decide (ag (!text||ah (al b.2.1)==0) (ax (aJ (ah (al b.2.1)>0) (ax (ah (al b.1))) (ah (al b.1)))) (aJ (ah (al b.2.1)>0) (ax (ah (al b.1))) (ah (al b.1)))>512)||decide (ax (ah (al b.2.2.1))>1024))
def wn:L->L->kW->Q (ay×kW):=λc offset b=>aj (al b.2.2.1).length λu=>aj (al b.2.1).length λa=>aj b.2.2.1.isSome λd=>aj b.2.1.isSome λe=>aq (Fk W b) λf=>ag f (J (I,b)) (au (decide (0+a=a)&&(decide (a+bu<=nat_lit 68719476736)&&e==e)) (au (decide (0+u=u)&&(decide (u+bu<=nat_lit 68719476736)&&d==d)) (J (W,b.1,J (al b.2.1++[c]),J (al b.2.2.1++[offset]),b.2.2.2))))
def rR:jP->L->kW->Q (ay×kW):=λx offset b=>aq (Fk I b) λc=>ag c (J (I,b)) (aq (Fj b) λa=>au (decide (0+(al a.1).length=(al a.1).length)&&(decide ((al a.1).length+bu<=nat_lit 68719476736)&&a.1.isSome==a.1.isSome)) (au (decide (0+(al a.2.2.1).length=(al a.2.2.1).length)&&(decide ((al a.2.2.1).length+bu<=nat_lit 68719476736)&&a.2.2.1.isSome==a.2.2.1.isSome)) (J (W,J (al a.1++[x]),a.2.1,J (al a.2.2.1++[offset]),a.2.2.2))))
def K1:bz->L->jA:=λs a=>aj (a6 (cy s a 0)) λu=>aj (aJ (u>=48) (!decide (u<=57)&& !u==45) !u==45) λb=>aJ (a<ah s) (au (decide (0<=a)&&c9 a s) (ag (aJ (u>=97) (!decide (u<=122)&&b) b) (aA (.inl I)) (aH (ax a)))) (aA (.inr ()))
def pB:bz->dO:=λs=>au (decide (ah s<1)||(decide (ah s>24)||true&&(bX (nat_lit 0) s.length&&(decide (a6 (s.getD (nat_lit 0) 0)<97)||true&&bX (nat_lit 0) s.length)))) (ag (decide (ah s<1)||(decide (ah s>24)||(decide (a6 (s.getD (nat_lit 0) 0)<97)||decide (a6 (s.getD (nat_lit 0) 0)>122)))) (J I) (aW (K1 s) 1 λa=>dh a (λb=>J b) λc=>J W))
def BW:bz->dO:=λs=>ag (aJ (s=[112]) (decide (s=[112])) (aJ (s=[104]) (decide (s=[104])) (aJ (s=[108,105]) (decide (s=[108,105])) (aJ (s=[116,100]) (decide (s=[116,100])) (decide (s=[116,105,116,108,101])))))) (J W) (J I)
def mQ:ay->gD:=λok=>ag (!ok) (J 3) (J 0)
def Fl:bz->L->gD:=λs c=>J (fm s (G c).toUInt8)
def Fm:bz->L->gD:=λs c=>aq (Fl s c) λa=>J a
def BX:bz->bz->gD:=λb a=>ag (ah a==0||decide (a=b)) (J 0) (ag (ah a==1) (au (bX (nat_lit 0) (Y a)) (aq (Fm b (fA (H a (nat_lit 0) 0))) λc=>J c)) (cw (ah a>=ah b) (J (-1:L))))
def K2:bz->bz->abl:=λs sep=>aq (BX s sep) λa=>aJ (a>=0) (au (decide (0<=(0:L)/\0<=a/\a<=ah s)&&decide (0<=bg (a+ah sep)/\bg (a+ah sep)<=ah s/\ah s<=ah s)) (J (bq 0 a s,bq (bg (a+ah sep)) (ah s) s,W))) (J (s,[],I))
def tB:bz->bz->abl:=λs sep=>aq (K2 s sep) λa=>J a
def wo:bz->px:=λa=>aq (tB a [32]) λb=>J b.1
def rS:jP->L->kW->Q (L×kW):=λx offset r=>aj (al r.2.2.2.1) λu=>aj (ga (bq 0 (bg (ah u-1))) r.2.2.2.1) λf=>aj (al f).length λl=>aj (bg (ah u-1)) λd=>aj (J (7,r)) λp=>aj (u.getD (0+d.toNat) (0,[],0)).2 λm=>aj r.2.2.2.1.isSome λn=>aj f.isSome λo=>aj (x.1==2) λb=>aj u.length λg=>aj (ag b r.1 r.1) λh=>aj r.2.2.2.2 λa=>aj (ag b r.2.2.1 r.2.2.1) λi=>aj (ag b r.2.1 r.2.1) λj=>aj (ah u) λe=>aj x.2.1 λc=>aj (bX (0+d.toNat) g) λk=>ag (x.1==3) (ag (e==0) p (cG d u (au k (aq (wo m.1) λt=>ag (!decide (t=c)) p (au (decide (0<=d/\d<e)&&k&&(decide (0<=(0:L)/\0<=d/\d<=e)&&o==n)) (au (!b||decide (0+l=l)&&(decide (l+bu<=nat_lit 68719476736)&&o==o)) (aq (rR (x.1,c,m.2) offset (h,j,i,ag b (J (al f++[(x.1,c,m.2)])) f,ag b a a)) λq=>aq (mQ q.1) λv=>J (v,q.2)))))))) (au (!b||decide (0+g=g)&&(decide (g+bu<=nat_lit 68719476736)&&n==n)) (aq (rR (x.1,c,ax a) offset (h,j,i,ag b (J (u++[(x.1,c,ax a)])) r.2.2.2.1,ag b (ax a) (ax a))) λs=>aq (mQ s.1) λw=>J (w,s.2)))
def Rl:bz->bz->dO:=λs a=>au (!decide (ah s>=ah a)||decide (0<=(0:L)/\0<=ah a/\ah a<=ah s)) (J (decide (ah s>=ah a)&&decide (bq 0 (ah a) s=a)))
def pC:bz->bz->dO:=λs a=>aq (Rl s a) λb=>J b
def K3:bz->Q (L×sX):=λs=>aq (pC s [38,108,116,59]) λa=>ag a (J (60,4,W)) (aq (pC s [38,103,116,59]) λb=>ag b (J (62,4,W)) (aq (pC s [38,97,109,112,59]) λc=>ag c (J (38,5,W)) (aq (pC s [38,108,98,59]) λd=>ag d (J (123,4,W)) (aq (pC s [38,114,98,59]) λe=>ag e (J (125,4,W)) (J (0,0,I))))))
def oD:bz->L->gD:=λs c=>aq (Fm s c) λa=>J a
def Fo:bz->L->jA:=λs a=>aJ (a<ah s) (iC a s (aJ (a6 (cy s a 0)<32) (aA (.inl I)) (iC a s (aJ (a6 (cy s a 0)>126) (aA (.inl I)) (iC a s (aq (oD [60,62,123,125] (fA (cy s a 0))) λb=>aJ (b>=0) (aA (.inl I)) (aH (ax a)))))))) (aA (.inr ()))
def Fp:bz->dO:=λs=>au (decide (ah s>64)||(ah s==0||decide (0<=bg (ah s-1))&&c9 (bg (ah s-1)) s)) (ag (decide (ah s>64)||(ah s==0||a6 (cy s (bg (ah s-1)) 0)==47)) (J I) (aW (Fo s) 0 λb=>dh b (λc=>J c) λe=>aq (tB s [32]) λa=>aq (pB a.1) λd=>J (d&&(!a.2.2||decide (ah a.2.1>0)))))
def Rm:bz->bz->dO:=λs suffix=>au (!decide (ah s>=ah suffix)||decide (0<=bg (ah s-ah suffix)/\bg (ah s-ah suffix)<=ah s/\ah s<=ah s)) (J (decide (ah s>=ah suffix)&&decide (bq (bg (ah s-ah suffix)) (ah s) s=suffix)))
def K4:bz->bz->dO:=λs suffix=>aq (Rm s suffix) λa=>J a
def Fq:bz->Q (jP×sX):=λs=>aq (oD s 62) λb=>aj (ah (bq 1 b s)) λu=>aj (bq 1 b s) λa=>aj (bg (u-1)) λc=>aJ (b<1) (J ((0,[],0),0,I)) (cw (0<=(1:L)/\1<=b/\b<=ah s) (aq (pC a [47]) λf=>ag f (cw (0<=(1:L)/\1<=u/\u<=u) (aq (pB (bq 1 u a)) λg=>J ((3,bq 1 u a,0),ax b,g))) (aq (K4 a [47]) λe=>aj (ag e (bq 0 c a) a) λd=>au (!e||decide (0<=(0:L)/\0<=c/\c<=u)) (aq (Fp d) λh=>J ((ag e 4 2,d,0),ax b,h)))))
def nE:bz->L->kW->Q (L×L×kW):=λraw at' r=>aj (J (0,2,r)) λu=>aj (bq at' (ah raw) raw) λa=>aj (a6 (a.getD (nat_lit 0) 0)) λb=>aj (ah raw) λd=>aj (ah a) λe=>aj (bX (nat_lit 0) a.length) λf=>cw (0<=at'/\at'<=d/\d<=d) (au (W&&f) (ag (b==60) (aq (Fq a) λi=>ag (!i.2.2) u (aq (wo i.1.2.1) λn=>aq (BW n) λo=>ag o u (aq (rS i.1 at' r) λp=>J (i.2.1,p)))) (ag (b==38) (aq (K3 a) λj=>ag (!j.2.2) u (aq (wn j.1 at' r) λm=>aq (mQ m.1) λq=>J (j.2.1,q,m.2))) (ag (b==123) (aq (oD a 125) λc=>aJ (c<0) u (cw (0<=(1:L)/\1<=c/\c<=e) (aq (pB (bq 1 c a)) λs=>ag (!s) u (cw (0<=(1:L)/\1<=c/\c<=e) (aq (rR (5,bq 1 c a,0) at' r) λg=>aq (mQ g.1) λk=>J (ax c,k,g.2)))))) (au f (aq (wn b at' r) λh=>aq (mQ h.1) λl=>J (1,l,h.2)))))))
def K5:bz->L×kW->Q (L×kW⊕bY×ez⊕kW):=λraw a=>aJ (a.1<ah raw) (aq (nE raw a.1 a.2) λb=>ag (b.2.1 !=0) (aA (.inl ((),a.1,b.2.1))) (aH (bg (a.1+b.1),b.2.2))) (aA (.inr a.2))
def K6:bz->Q (L×L×ay×kW):=λraw=>aW (K5 raw) (0,O,O,O,O,0) λc=>dh c (λa=>J (a.2.1,a.2.2,I,O,O,O,O,0)) λb=>aJ (ah (al b.2.2.2.1)>0) (J (fQ raw.length,7,I,O,O,O,O,0)) (J (0,0,W,b))
def BZ:bz->Q qv:=λraw=>aq (K6 raw) λa=>ag a.2.2.1 (ag (a.2.1 !=0) (J (O,a.1,a.2.1)) (aq (K0 a.2.2.2) λb=>J (b.1,0,0))) (au (a.2.1 !=0) (J (O,a.1,a.2.1)))
def strings_Index:bz->bz->gD:=λs sub=>if decide (Y s<4294967281)=W then J (xj s sub)else O
def K7:bz->Q (L×bz×ay):=λs=>au (W&&bX (nat_lit 0) (Y s)) (ag (a6 (H s (nat_lit 0) 0) !=60) (J (1,[],W)) (aq (pC s [60,33,45,45]) λc=>ag c (cw (0<=(4:L)/\4<=ah s/\ah s<=ah s) (aq (strings_Index (bq 4 (ah s) s) [45,45,62]) λb=>J (bg (b+7),[],decide (b>=0)))) (aq (Fq s) λa=>ag (!a.2.2) (J (a.2.1,[],a.2.2)) (aq (wo a.1.2.1) λd=>aq (BW d) λe=>ag (!e) (J (a.2.1,[],a.2.2)) (aq (wo a.1.2.1) λf=>J (a.2.1,f,a.1.1==2))))))
def strconv_Itoa:L->px:=λn=>if(decide (-9223372036854775808<=n)&&decide (n<=9223372036854775807))=W then J (Lib.itoa n)else O
def Fs:bz->Kt->Q (Kt⊕vT⊕qu):=λdata b=>aj (ah data) λu=>aj O λe=>aJ (b.1<u) (cw (0<=b.1/\b.1<=u/\u<=u) (aq (K7 (bq b.1 u data)) λg=>aj (bg (b.1+g.1)) λa=>aj ([60,47]++g.2.1) λf=>aj g.2.1 λd=>ag (!g.2.2) (aA (.inl (e,b.1,2))) (aJ (d=[]) (aH (a,b.2)) (cw (0<=a/\a<=u/\u<=u) (ig (iO+d.length) (ig (f.length+bu) (aq (strings_Index (bq a u data) (60::47::(d++[62]))) λh=>aj (aJ (h<0) u (bg (a+h))) λc=>cw (0<=a/\a<=c/\c<=u) (aq (BZ (bq a c data)) λi=>ag (i.2.2 !=0) (aA (.inl (e,bg (a+i.2.1),i.2.2))) (aJ (h<0) (aA (.inl (e,u,2))) (aq (strconv_Itoa (ax b.2.1)) λj=>aq (y8 a c j b.2.2) λk=>au (c8 (iO+d.length)&&c8 (f.length+bu)) (aH (bg (c+ah (f++[62])),ax b.2.1,k)))))))))))) (aA (.inr b.2.2))
def Ft:bz->vU:=λdata=>aJ (ah data>65536) (J (O,0,3)) (aq (y6 data) λa=>aW (Fs data) (0,0,a) λb=>dh b (λc=>J c) λd=>aq (y7 d) λe=>J (e.1,0,0))
def Fu:l7->Q l7:=λb=>aj (al b.1).length λu=>aj (ah (al b.2.1)) λa=>aj b.1.isSome λd=>aj b.2.2 λc=>aj b.2.1.isSome λe=>au (!decide (a>0)||e==e&&(decide (0+u=u)&&(decide (u+bu<=nat_lit 68719476736)&&d==d))) (J (aJ (a>0) (J (al b.1++[(1,nj (al b.2.1),0)])) b.1,aJ (a>0) O b.2.1,aJ (a>0) c.1 c.1,aJ (a>0) c.2.1 c.2.1,aJ (a>0) c.2.2 c.2.2))
def B0:l7->Q (bW×l7):=λb=>aq (Fu b) λa=>au (a.1.isSome==a.1.isSome) (J (a.1,a))
def Fv:ay->l7->dO:=λtext b=>J (decide (ag (!text||ah (al b.2.1)==0) (ax (aJ (ah (al b.2.1)>0) (ax (ah (al b.1))) (ah (al b.1)))) (aJ (ah (al b.2.1)>0) (ax (ah (al b.1))) (ah (al b.1)))>512)||decide (ax (ah (al b.2.2.1))>1024))
def B1:L->L->l7->Q (ay×l7):=λc offset b=>aj (al b.2.2.1).length λu=>aj (al b.2.1).length λa=>aj b.2.2.1.isSome λd=>aj b.2.1.isSome λe=>aq (Fv W b) λf=>ag f (J (I,b)) (au (decide (0+a=a)&&(decide (a+bu<=nat_lit 68719476736)&&e==e)) (au (decide (0+u=u)&&(decide (u+bu<=nat_lit 68719476736)&&d==d)) (J (W,b.1,J (al b.2.1++[c]),J (al b.2.2.1++[offset]),b.2.2.2))))
def Fw:jP->L->l7->Q (ay×l7):=λx offset b=>aq (Fv I b) λc=>ag c (J (I,b)) (aq (Fu b) λa=>au (decide (0+(al a.1).length=(al a.1).length)&&(decide ((al a.1).length+bu<=nat_lit 68719476736)&&a.1.isSome==a.1.isSome)) (au (decide (0+(al a.2.2.1).length=(al a.2.2.1).length)&&(decide ((al a.2.2.1).length+bu<=nat_lit 68719476736)&&a.2.2.1.isSome==a.2.2.1.isSome)) (J (W,J (al a.1++[x]),a.2.1,J (al a.2.2.1++[offset]),a.2.2.2))))
def Rn:L->dO:=λb=>J (b==32||b==9)
def K8:L->Q sX:=λb=>ag (b==110) (J (10,W)) (ag (b==116) (J (9,W)) (ag (b==115) (J (32,W)) (ag (b==114) (J (13,W)) (ag (ag (b==92) (b==92) (b==123)) (J (b,W)) (J (0,I))))))
def K9:bz->L->kB:=λb a=>aJ (a<ah b) (iC a b (aq (Rn (fA (cy b a 0))) λc=>ag c (aH (ax a)) (aA a))) (aA a)
def y9:bz->L->l7->Q (L×L×l7):=λs c n=>aj (J (c,2,n)) λu=>aj (bq c (ah s) s) λa=>aj (a6 (a.getD (nat_lit 0) 0)) λb=>aj (bX (nat_lit 0) a.length) λj=>aj (ah a) λe=>aj (ah s) λk=>aj (decide (e>1)) λo=>aj (W&&j) λl=>aj n.2.2.2.1 λm=>aj (bg (c+2)) λf=>aj (a.getD bu 0) λg=>aj (bX bu a.length) λh=>cw (0<=c/\c<=k/\k<=k) (au l (ag (b==10) u (au (W&&(j&&(!b==92||(!o||true&&h)))) (ag (b==92&&(o&&a6 g==10)) (aW (K9 s) f λv=>J (v,0,n)) (au l (ag (b==92) (aJ (e<2) u (au h (aq (K8 (fA g)) λt=>ag (!t.2) u (aq (B1 t.1 m n) λp=>ag (!p.1) (J (c,3,p.2)) (J (f,0,p.2.1,p.2.2.1,p.2.2.2.1,f,f)))))) (au l (ag (b==123) (aq (oD a 125) λi=>aj (ax (bg (c+i))) λd=>aJ (i<0) u (cw (0<=(1:L)/\1<=i/\i<=e) (aq (pB (bq 1 i a)) λw=>ag (!w) u (cw (0<=(1:L)/\1<=i/\i<=e) (aq (Fw (5,bq 1 i a,0) m n) λq=>ag (!q.1) (J (c,3,q.2)) (J (d,0,q.2.1,q.2.2.1,q.2.2.2.1,d,d))))))) (au j (aq (B1 b m n) λr=>ag (!r.1) (J (c,3,r.2)) (J (ax c,0,r.2.1,r.2.2.1,r.2.2.2.1,ax c,ax c))))))))))))
def La:bz->L×l7->Q (L×l7⊕bY×ez⊕l7):=λraw a=>aJ (a.1<ah raw) (aq (y9 raw a.1 a.2) λb=>ag (b.2.1 !=0) (aA (.inl ((),a.1,b.2.1))) (aH (b.1,b.2.2))) (aA (.inr a.2))
def Fy:bz->Q (L×L×ay×l7):=λraw=>aW (La raw) (0,O,O,O,0,0) λb=>dh b (λa=>J (a.2.1,a.2.2,I,O,O,O,0,0)) λc=>J (0,0,W,c)
def za:bz->Q qv:=λraw=>aq (Fy raw) λa=>ag a.2.2.1 (ag (a.2.1 !=0) (J (O,a.1,a.2.1)) (aq (B0 a.2.2.2) λb=>J (b.1,0,0))) (au (a.2.1 !=0) (J (O,a.1,a.2.1)))
def anA:bz->L->kB:=λdata a=>au (!decide (a<ah data)||decide (0<=a)&&c9 a data) (ag (decide (a<ah data)&&a6 (cy data a 0) !=10) (au (decide (0<=a)&&c9 a data) (aH (ax (ag (a6 (cy data a 0)==92) (ax a) a)))) (aA a))
def Ro:bz->L->gD:=λdata at'=>aW (anA data) at' λa=>J (ji a (ah data))
def Lb:bz->L->kB:=λs a=>aj (a6 (cy s a 0)) λu=>aj (aJ (u>=48) (!decide (u<=57)&&(!u==46&&(!u==95&& !u==45))) (!u==46&&(!u==95&& !u==45))) λb=>ag (decide (a<ah s)&&decide (a<65)) (au (decide (0<=a)&&c9 a s) (ag (aJ (u>=97) (!decide (u<=122)&&b) b) (aA a) (aH (ax a)))) (aA a)
def Lc:bz->gD:=λs=>aW (Lb s) 0 λa=>J a
def pD:bz->bz->px:=λs c=>if(decide (c.length<4294967281)&&c.all λb=>decide (b.toNat<128))=W then J (s.dropWhile (c.contains ·))else O
def Ld:bz->L->Q sX:=λdata at'=>cw (0<=at'/\at'<=ah data/\ah data<=ah data) (aq (tB (bq at' (ah data) data) [10]) λb=>aq (pD b.1 [32,9]) λa=>au (decide (a=[])||true&&bX (nat_lit 0) (Y a)) (J (aJ (a=[]) (ji (ax (bg (at'+ah b.1))) (ah data)) (ji (ax (bg (at'+ah b.1))) (ah data)),decide (a=[])||a6 (H a (nat_lit 0) 0)==35)))
def Rp:bz->abh->Q (abh⊕vT⊕qu):=λdata b=>aj (ah data) λu=>aj O λd=>aJ (b.1<u) (aq (Ld data b.1) λl=>ag l.2 (aH (l.1,b.2)) (cw (0<=b.1/\b.1<=u/\u<=u) (aq (Lc (bq b.1 u data)) λj=>aj (bg (b.1+j)) λa=>aj (ax a) λc=>aj (decide (j>64)) λf=>aj (decide (a>=u)) λg=>aj (bq b.1 a data) λe=>aj (decide (j<1)) λh=>au (h||(f||(g||decide (0<=a)&&c9 a data))) (ag (h||(f||(g||a6 (cy data a 0) !=61))) (aA (.inl (d,b.1,2))) (cw (0<=b.1/\b.1<=a/\a<=u) (ag ((dr Ty.bj e b.2.1).getD I) (aA (.inl (d,b.1,5))) (aq (Ro data c) λi=>cw (0<=c/\c<=i/\i<=u) (aq (za (bq c i data)) λk=>ag (k.2.2 !=0) (aA (.inl (d,bg (c+k.2.1),k.2.2))) (aq (y8 c i e b.2.2) λm=>aH (ji (ax i) u,fV Ty.bj e W b.2.1,m)))))))))) (aA (.inr b.2.2))
def Fz:bz->vU:=λdata=>aJ (ah data>65536) (J (O,0,3)) (aq (y6 data) λa=>aW (Rp data) (0,[],a) λb=>dh b (λc=>J c) λd=>aq (y7 d) λe=>J (e.1,0,0))
def Le:bz->L->kB:=λdata a=>aJ (a<ah data) (au (decide (0<=a)&&c9 a data) (ag (a6 (cy data a 0) !=34) (aH (ax a)) (au (!decide (ax a<ah data)||decide (0<=ax a)&&c9 (ax a) data) (ag (decide (ax a<ah data)&&a6 (cy data (ax a) 0)==34) (aH (bg (a+2))) (aA a))))) (aA a)
def Lf:bz->L->kB:=λdata a=>aJ (a<ah data) (iC a data (aq (oD [34,44,10] (fA (cy data a 0))) λb=>aJ (b<0) (aH (ax a)) (aA a))) (aA a)
def Lg:bz->L->abm:=λdata at'=>aj (ah data) λu=>aj (decide (at'<u)) λd=>au (!d||decide (0<=at')&&c9 at' data) (ag (d&&a6 (cy data at' 0)==34) (aW (Le data) (ax at') λf=>aj (a6 (cy data (ax f) 0)) λb=>aj (ax f) λa=>aj (decide (0<=a)) λe=>aJ (f>=u) (J (0,W,I)) (au (a==u||e&&(c9 a data&&(b==44||e&&c9 a data))) (J (ag (a==u) a (ag (b==44) a a),W,a==u||(b==44||b==10))))) (aW (Lf data) at' λc=>aj (a6 (cy data c 0)) λb=>aj (decide (0<=c)) λa=>au (c==u||a&&(c9 c data&&(b==44||a&&c9 c data))) (J (ag (c==u) c (ag (b==44) c c),I,c==u||(b==44||b==10)))))
def qy:l8->Q l8:=λb=>au (!decide (ah (al b.2.1)>0)||aad b.2.1==aad b.2.1&&(decide (0+Y (al b.1)=Y (al b.1))&&(decide (Y (al b.1)+bu<=nat_lit 68719476736)&&aad b.1==aad b.1))) (J (aJ (ah (al b.2.1)>0) (J (al b.1++[(1,nj (al b.2.1),0)])) b.1,aJ (ah (al b.2.1)>0) O b.2.1,aJ (ah (al b.2.1)>0) b.2.2 b.2.2))
def Lh:l8->Q (bW×l8):=λb=>aq (qy b) λa=>au (aad a.1==aad a.1) (J (a.1,a))
def qz:ay->l8->dO:=λtext b=>J (decide (ag (!text||ah (al b.2.1)==0) (ax (aJ (ah (al b.2.1)>0) (ax (ah (al b.1))) (ah (al b.1)))) (aJ (ah (al b.2.1)>0) (ax (ah (al b.1))) (ah (al b.1)))>512)||decide (ax (ah (al b.2.2))>1024))
def rT:L->L->l8->Q (ay×l8):=λc offset b=>aq (qz W b) λa=>ag a (J (I,b)) (au (decide (0+Y (al b.2.1)=Y (al b.2.1))&&(decide (Y (al b.2.1)+bu<=nat_lit 68719476736)&&aad b.2.1==aad b.2.1)) (au (decide (0+Y (al b.2.2)=Y (al b.2.2))&&(decide (Y (al b.2.2)+bu<=nat_lit 68719476736)&&aad b.2.2==aad b.2.2)) (J (W,b.1,J (al b.2.1++[c]),J (al b.2.2++[offset])))))
def tC:jP->L->l8->Q (ay×l8):=λx offset b=>aq (qz I b) λc=>ag c (J (I,b)) (aq (qy b) λa=>au (decide (0+(al a.1).length=(al a.1).length)&&(decide ((al a.1).length+bu<=nat_lit 68719476736)&&a.1.isSome==a.1.isSome)) (au (decide (0+(al a.2.2).length=(al a.2.2).length)&&(decide ((al a.2.2).length+bu<=nat_lit 68719476736)&&a.2.2.isSome==a.2.2.isSome)) (J (W,J (al a.1++[x]),a.2.1,J (al a.2.2++[offset])))))
def B2:bz->L->l8->Q (L×L×l8):=λraw at' b=>aj (au (bX (nat_lit 0) (Y (bq at' (ah raw) raw))) (aq (rT (a6 (H (bq at' (ah raw) raw) (nat_lit 0) 0)) at' b) λi=>ag (!i.1) (J (at',3,i.2)) (J (bg (at'+2),0,i.2)))) λu=>aj (bq at' (ah raw) raw) λa=>aj (J (at',2,b)) λd=>aj (a6 (H a (nat_lit 0) 0)) λe=>aj (bX (nat_lit 0) (Y a)) λf=>aj (ah raw) λg=>aj (ah a) λh=>cw (0<=at'/\at'<=g/\g<=g) (aq (pC a [34,34]) λl=>ag l u (aq (pC a [123,123]) λm=>ag m u (au (W&&f) (ag (e==34) d (au (W&&f) (ag (e==123) (aq (oD a 125) λc=>aJ (c<0) d (cw (0<=(1:L)/\1<=c/\c<=h) (aq (pB (bq 1 c a)) λn=>ag (!n) d (cw (0<=(1:L)/\1<=c/\c<=h) (aq (tC (5,bq 1 c a,0) at' b) λj=>ag (!j.1) (J (at',3,j.2)) (J (ax (bg (at'+c)),0,j.2))))))) (au f (aq (rT e at' b) λk=>ag (!k.1) (J (at',3,k.2)) (J (ax at',0,k.2))))))))))
def Li:bz->L×l8->Q (L×l8⊕bY×ez⊕l8):=λraw a=>aJ (a.1<ah raw) (aq (B2 raw a.1 a.2) λb=>ag (b.2.1 !=0) (aA (.inl ((),a.1,b.2.1))) (aH (b.1,b.2.2))) (aA (.inr a.2))
def FA:bz->Q (L×L×ay×l8):=λraw=>aW (Li raw) (0,O,O,O) λb=>dh b (λa=>J (a.2.1,a.2.2,I,O,O,O)) λc=>J (0,0,W,c)
def zb:bz->Q qv:=λraw=>aq (FA raw) λa=>ag a.2.2.1 (ag (a.2.1 !=0) (J (O,a.1,a.2.1)) (aq (Lh a.2.2.2) λb=>J (b.1,0,0))) (au (a.2.1 !=0) (J (O,a.1,a.2.1)))
def Rq:L->L->L->ay->Kv->qu->Q Kt:=λa to b quoted t parts=>ag (decide (b>=t.2.2.2.1)||b==t.2.2.2.2.1&& !quoted) (J (a,2,parts)) (ag (b !=t.2.2.2.2.1) (J (0,0,parts)) (cw (0<=ax a/\ax a<=bg (to-1)/\bg (to-1)<=ah t.1) (aq (zb (bq (ax a) (bg (to-1)) t.1)) λc=>ag (c.2.2 !=0) (J (bg (ax a+c.2.1),c.2.2,parts)) (aq (strconv_Itoa t.2.2.1) λd=>aq (y8 (ax a) (bg (to-1)) d parts) λe=>J (0,0,e)))))
def Lj:L->L->L->Kv->qu->Q pu:=λa to b t parts=>cw (0<=a/\a<=to/\to<=ah t.1) (J (ax b,aJ (bq a to t.1=[116,101,120,116]) b t.2.2.2.2.1,aJ (bq a to t.1=[116,101,120,116]) (ax t.2.2.2.2.2) t.2.2.2.2.2))
def Rr:Kv->EB->Q (EB⊕EB⊕EB):=λt c=>aj c.2.2.2 λu=>aj (t.1,(),t.2.2.1,c.2.2.1,u.1,u.2.1) λe=>aj c.2.1 λa=>aj (ah t.1) λf=>aj u.2.2 λd=>aj c.2.2 λg=>aq (Lg t.1 c.1) λb=>aj (b.1==f||decide (0<=b.1)&&c9 b.1 t.1) λh=>aj (b.1==f||a6 (cy t.1 b.1 0)==10) λi=>ag (!b.2.2) (aA (.inl (c.1,2,g))) (ag (t.2.2.1==0) (aq (Lj c.1 b.1 a e d) λk=>aj (k.1,k.2.1,k.2.2,d) λu=>au h (ag i (aA (.inr (b.1,a,u))) (aH (ax b.1,ax a,u)))) (aq (Rq c.1 b.1 a b.2.1 e d) λj=>aj (g.1,u.1,u.2.1,j.2.2) λu=>ag (j.2.1 !=0) (aA (.inl (j.1,j.2.1,u))) (au h (ag i (aA (.inr (b.1,a,u))) (aH (ax b.1,ax a,u))))))
def Rs:L->Kv->qu->Q EB:=λbegin t parts=>aW (Rr t) (begin,0,t.2.2.2.1,t.2.2.2.2.1,t.2.2.2.2.2,parts) λb=>dh b (λc=>J c) λa=>ag (decide (t.2.2.1>0)&&decide (ax a.2.1<a.2.2.1)) (J (begin,2,a.2.2)) (ag (t.2.2.1==0&&a.2.2.2.2.1==0) (J (0,6,a.2.2)) (ag (t.2.2.1==0&&decide (a.2.2.2.2.1>1)) (J (0,5,a.2.2)) (J (ji (ax a.1) (ah t.1),0,a.2.2))))
def Rt:bz->L×Q7->ant:=λdata b=>ag (decide (b.1<ah data)||b.2.2.2.2.1==0) (aq (Rs b.1 (data,(),b.2.2.2.2) (b.2.1,b.2.2.1,b.2.2.2.1)) λa=>ag (a.2.1 !=0) (aA (.inl (O,a.1,a.2.1))) (aH (a.1,a.2.2.2.2.2.1,a.2.2.2.2.2.2.1,a.2.2.2.2.2.2.2,ax b.2.2.2.2.1,a.2.2.1,a.2.2.2.1,a.2.2.2.2.1))) (aA (.inr b.2))
def FB:bz->vU:=λdata=>aJ (ah data>65536) (J (O,0,3)) (aq (y6 data) λa=>aW (Rt data) (0,a.1,a.2.1,a.2.2,0,0,0,0) λc=>dh c (λd=>J d) λb=>aq (y7 (b.1,b.2.1,b.2.2.1)) λe=>J (e.1,0,0))
def Lk:L->bz->vU:=λa data=>ag (a==1) (aq (Ft data) λb=>J b) (ag (a==2) (aq (Fz data) λc=>J c) (aq (FB data) λd=>J d))
def Ll:L->bz->Q (gC×ez):=λa data=>aq (y5 a) λc=>ag (!c) (J ((0,O),0,1)) (aq (Lk a data) λb=>ag (b.2.2 !=0) (J ((0,O),b.2)) (J ((a,b.1),0,0)))
def Ru:kj->kj->L->jA:=λa b c=>aJ (c<ah (al a)) (au (decide (0<=c/\c<ah (al a))&&decide (0<=c/\c<ah (al b))) (ag (!((aN a c (I,[],[])).1==(aN b c (I,[],[])).1&&(decide ((aN a c (I,[],[])).2.1=(aN b c (I,[],[])).2.1)&&(decide ((aN a c (I,[],[])).2.2=(aN b c (I,[],[])).2.2)&&W)))) (aA (.inl I)) (aH (ax c)))) (aA (.inr ()))
def Lm:kj->kj->dO:=λa b=>ag (ah (al a) !=ah (al b)) (J I) (aW (Ru a b) 0 λc=>dh c (λd=>J d) λe=>J W)
def zc:gC->gD:=λd=>aq (y5 d.1) λb=>ag (!b) (J 1) (aq (tA d) λc=>aq (Ll d.1 c) λa=>ag (a.2.2 !=0) (J 11) (aq (Lm a.1.2 d.2) λe=>ag (!e) (J 11) (J 0)))
def FC:L->bz->Q jB:=λa raw=>ag (a==1) (aq (BZ raw) λb=>J (b.1,b.2.2)) (ag (a==2) (aq (za raw) λc=>J (c.1,c.2.2)) (aq (zb raw) λd=>J (d.1,d.2.2)))
def ze:gC->L->Q jB:=λd part=>aq (y5 d.1) λa=>ag (!a) (J (O,1)) (au (decide (part<0)||(decide (part>=ah (al d.2))||decide (0<=part/\part<ah (al d.2)))) (ag (decide (part<0)||(decide (part>=ah (al d.2))|| !(aN d.2 part (I,[],[])).1)) (J (O,6)) (cG part (al d.2) (aq (FC d.1 (aN d.2 part (I,[],[])).2.2) λb=>J b))))
def FD:gC->fS->yJ:=λd a=>aJ (a.2<ah (al d.2)) (au (decide (0<=a.2/\a.2<ah (al d.2))&&(!(aN d.2 a.2 (I,[],[])).1||decide (0+(al a.1).length=(al a.1).length)&&(decide ((al a.1).length+bu<=nat_lit 68719476736)&&a.1.isSome==a.1.isSome))) (aH (ag (aN d.2 a.2 (I,[],[])).1 (J (al a.1++[a.2])) a.1,ax a.2))) (aA a.1)
def nF:gC->rO:=λd=>aW (FD d) (O,0) λa=>au (a.isSome==a.isSome) (au (a.isSome==a.isSome) (J a))
def FE:gC->dv->EC×L->Q (EC×L⊕EC):=λd b a=>bS a.2 (al b) (aq (ze d (aN b a.2 0)) λc=>aH (fV (Ty.int a7) (aN b a.2 0) c.1 a.1,ax a.2)) (aA a.1)
def Ln:gC->Q EC:=λd=>aq (nF d) λa=>aW (FE d a) ([],0) λb=>J b
def Lp:bW->lB:=λs=>ag (!s.isSome) (J O) (au (W&&decide (nat_lit 0+(al s).length<=nat_lit 68719476736)) (J (J ([]++al s))))
def Rv:kV->Q kV:=λs=>aq (Lp s.2.2.2.2.2.1) λa=>J (s.1,s.2.1,s.2.2.1,s.2.2.2.1,s.2.2.2.2.1,a,s.2.2.2.2.2.2)
def Lq:kj->Q kj:=λs=>ag (!aad s) (J O) (au (W&&decide (nat_lit 0+Y (al s)<=nat_lit 68719476736)) (J (J ([]++al s))))
def Rw:gC->Q gC:=λd=>aq (Lq d.2) λa=>J (d.1,a)
def FF:eS->vV->Q (vV⊕eS):=λp a=>bS a.1 (al p.1) (aq (Rw (aN p.1 a.1 (0,O))) λb=>au (decide (0+(al a.2.1).length=(al a.2.1).length)&&(decide ((al a.2.1).length+bu<=nat_lit 68719476736)&&a.2.1.isSome==a.2.1.isSome)) (aH (ax a.1,J (al a.2.1++[b]),a.2.2))) (aA a.2)
def FG:eS->vV->Q (vV⊕eS):=λp a=>bS a.1 (al p.2.1) (aq (Rv (aN p.2.1 a.1 (0,0,0,(0,0),0,O,[],0,I))) λb=>au (decide (0+(al a.2.2.1).length=(al a.2.2.1).length)&&(decide ((al a.2.2.1).length+bu<=nat_lit 68719476736)&&a.2.2.1.isSome==a.2.2.1.isSome)) (aH (ax a.1,a.2.1,J (al a.2.2.1++[b]),a.2.2.2))) (aA a.2)
def Lr:eS->Q eS:=λp=>aW (FF p) (0,O,O,p.2.2) λb=>aW (FG p) (0,b) λa=>au (aad a.1==aad a.1&&aad a.2.1==aad a.2.1) (au (aad a.1==aad a.1) (au (aad a.2.1==aad a.2.1) (J a)))
def FH:jP->gD:=λx=>ag (x.1==1) (J (fQ x.2.1.length)) (J 1)
def FI:bW->ez->ta:=λf a=>bS a.2 (al f) (aq (FH (aN f a.2 (0,[],0))) λb=>aH (bg (a.1+b),ax a.2)) (aA a.1)
def wq:bW->gD:=λf=>aW (FI f) (0,0) λa=>J a
def FJ:bW->L->L->qv->Q (qv⊕bW):=λf b to c=>aj (aN f c.2.2 (0,[],0)) λu=>aj (al c.1).length λd=>aj c.2.1 λa=>aj (bg (lX b a-a)) λe=>aj c.1.isSome λi=>aj (ah u.2.1) λk=>aj (lX b a) λj=>bS c.2.2 (al f) (aq (FH u) λl=>aj (ji to (bg (a+l))) λg=>aj (bg (g-a)) λh=>au (!decide (j<g)||(!u.1==1||decide (0<=e/\e<=h/\h<=k))&&(decide (0+d=d)&&(decide (d+bu<=nat_lit 68719476736)&&i==i))) (aH (aJ (j<g) (J (al c.1++[(u.1,ag (u.1==1) (bq e h u.2.1) u.2.1,u.2.2)])) c.1,bg (a+l),ax c.2.2))) (aA c.1)
def qA:bW->L->L->Q (bW×ay):=λf a to=>aJ (a<0) (J (O,I)) (aJ (to<a) (J (O,I)) (aq (wq f) λc=>aJ (to>c) (J (O,I)) (aW (FJ f a to) (O,0,0) λb=>au (aad b==aad b) (au (aad b==aad b) (J (b,W))))))
def wu:L->ly->lB:=λi v=>aj (ah (al v.2.1)) λu=>aj (aN v.2.1 i (0,0,0,(0,0),0,O,[],0,I)).2 λa=>aj (decide (0<=i/\i<u)) λu=>au (u&&u) (J ((dr ((Ty.int a7).bJ (Ty.int a7)) (a.1,a.2.1) v.2.2.2).getD O))
def ww:L->ly->lB:=λi v=>aj (aN v.2.1 i (0,0,0,(0,0),0,O,[],0,I)).2.2.2.1 λu=>cG i (al v.2.1) (aq (wu i v) λa=>aq (qA a u.1 u.2) λb=>J b.1)
def Ls:lA->L->ez->Q (ez⊕ay⊕bY):=λa length b=>aj (aN a b.2 (0,0)) λu=>bS b.2 (al a) (ag (decide (u.1<b.1)||(decide (u.2<u.1)||decide (u.2>length))) (aA (.inl I)) (aH (u.2,ax b.2))) (aA (.inr ()))
def Lt:lA->L->dO:=λa length=>aW (Ls a length) (0,0) λb=>dh b (λc=>J c) λd=>J W
def Rx:L->kW->Q (dv×bW×dv×bY×jB):=λlast b=>au (decide (0+(al b.2.2.1).length=(al b.2.2.1).length)&&(decide ((al b.2.2.1).length+bu<=nat_lit 68719476736)&&b.2.2.1.isSome==b.2.2.1.isSome)) (J (J (al b.2.2.1++[last]),b.1,b.2.1,(),b.2.2.2))
def FK:bz->Q fS:=λraw=>aq (K6 raw) λa=>ag a.2.2.1 (ag (a.2.1 !=0) (J (O,a.2.1)) (aq (Rx (ah raw) a.2.2.2) λb=>J (b.1,0))) (au (a.2.1 !=0) (J (O,a.2.1)))
def Ry:L->l7->Q (dv×bW×dv×bY×ez):=λlast b=>au (decide (0+(al b.2.2.1).length=(al b.2.2.1).length)&&(decide ((al b.2.2.1).length+bu<=nat_lit 68719476736)&&b.2.2.1.isSome==b.2.2.1.isSome)) (J (J (al b.2.2.1++[last]),b.1,b.2.1,(),b.2.2.2))
def FL:bz->Q fS:=λraw=>aq (Fy raw) λa=>ag a.2.2.1 (ag (a.2.1 !=0) (J (O,a.2.1)) (aq (Ry a.2.2.2.2.2.2.2 a.2.2.2) λb=>J (b.1,0))) (au (a.2.1 !=0) (J (O,a.2.1)))
def Rz:L->l8->Q (dv×bW×dv×bY):=λlast b=>au (decide (0+Y (al b.2.2)=Y (al b.2.2))&&(decide (Y (al b.2.2)+bu<=nat_lit 68719476736)&&aad b.2.2==aad b.2.2)) (J (J (al b.2.2++[last]),b.1,b.2.1,()))
def FM:bz->Q fS:=λraw=>aq (FA raw) λa=>ag a.2.2.1 (ag (a.2.1 !=0) (J (O,a.2.1)) (aq (Rz (ah raw) a.2.2.2) λb=>J (b.1,0))) (au (a.2.1 !=0) (J (O,a.2.1)))
def FN:L->bz->Q fS:=λa raw=>ag (a==1) (aq (FK raw) λb=>J b) (ag (a==2) (aq (FL raw) λc=>J c) (aq (FM raw) λd=>J d))
def qB:jP->dO:=λx=>J (x.1==2||(x.1==3||x.1==4))
def Lu:bz->px:=λa=>aq (tB a [32]) λb=>J b.1
def FO:bW->jP->L->jA:=λa x d=>aj (aN a d (0,[],0)) λu=>aj (aA (.inl I)) λb=>aj (aH (ax d)) λc=>bS d (al a) (aq (qB u) λe=>ag (!e||u.2.2 !=x.2.2) c (ag (x.1 !=3) b (ag (u.1 !=2) b (aq (Lu u.2.1) λf=>ag (!decide (f=x.2.1)) b c)))) (aA (.inr ()))
def Lv:bW->jP->dO:=λa x=>aW (FO a x) 0 λb=>dh b (λc=>J c) λd=>J W
def Lw:bW->L->dO:=λf i=>aj (aN f i (0,[],0)) λu=>aj (al f) λc=>aj (decide (u.2.2>=1)&&decide (u.2.2<=999)) λd=>aj (!decide (u.2.1=[])) λe=>aj (bg (i-1)) λa=>aj (u.2.2==0) λb=>cG i c (ag (u.1==1) (au (!e||(!b||(i==0||decide (0<=a/\a<ah c)))) (J (e&&(b&&(i==0||(aN f a (0,[],0)).1 !=1))))) (ag (u.1==5) (aq (pB u.2.1) λg=>J (g&&b)) (ag (ag (u.1==2) (u.1==2) (u.1==4)) (aq (Fp u.2.1) λh=>J (h&&d)) (ag (u.1==3) (aq (pB u.2.1) λj=>J (j&&d)) (J I)))))
def Lx:bW->L->rN:=λf a=>bS a (al f) (aq (Lw f a) λb=>ag (!b) (aA (.inl 1)) (aq (qB (aN f a (0,[],0))) λc=>ag c (cw (0<=(0:L)/\0<=a/\a<=ah (al f)) (aq (Lv (ga (bq 0 a) f) (aN f a (0,[],0))) λd=>ag (!d) (aA (.inl 7)) (aH (ax a)))) (aH (ax a)))) (aA (.inr ()))
def zf:bW->gD:=λf=>aJ (ah (al f)>512) (J 3) (aq (wq f) λa=>aJ (a>1024) (J 3) (aW (Lx f) 0 λb=>dh b (λc=>J c) λd=>J 0))
def wx:lz->Q vS:=λl=>if(decide ((l.getD []).length%2=0)&&decide (0<(l.getD []).length)&&decide ((l.getD []).length<=2000))=W then J (0,0,0,[],l)else O
def wy:M (M ao)->Q (M (ao×M ao))|[]=>J []|[c]::n::r=>(wy r).map ((c,n):: ·)|_=>O
def FQ(ps:M (ao×M ao))(s:M ao):M ao:=s.flatMap λc=>X (eU ps c) [c]
def B3(ps:M (ao×M ao))(s:M ao):ay:=decide (2<=Y ps)&&decide (Y ps<=1000)&&decide (ps.map (·.1)).Nodup&&ps.all (λp=>decide (2<=Y p.2))&&decide (Y s<=1073741824)&&decide (Y (FQ ps s)<=1099511627776)
abbrev anB:Type:=L×L×L×M (ao×M ao)×Q (M (M ao))
def tD(s:M ao)(b:anB):Q (M ao×L×L×M (ao×M ao)×Q (M (M ao))):=if b.1=1 then(if B3 b.2.2.2.1 s=W then J (FQ b.2.2.2.1 s,b.1,b.2.1,b.2.2.2.1,b.2.2.2.2)else O)else if b.1=0/\b.2.1=0 then match wy (X b.2.2.2.2 [])with|some ps=>if B3 ps s=W then J (FQ ps s,1,0,ps,O)else O|none=>O else O
def FR:bW->vS->bz×vS->Q0:=λf m b=>aj (aN f b.2.1 (0,[],0)) λu=>aj u.2.1 λa=>aj ([60]++a) λc=>aj b.1.length λd=>aj (c8 (bu+a.length)) λg=>aj ([60,47]++a) λh=>aj ([123]++a++[125]) λj=>aj b.2.2 λe=>aj (ax b.2.1) λi=>aj (c++[47,62]) λk=>bS b.2.1 (al f) (ag (u.1==1) (aq (tD a (e.1,e.2.1,m.2.2.1,e.2.2)) λl=>ig (d+l.1.length) (aH (b.1++l.1,i,l.2))) (ag (u.1==5) (au (g&&(c8 (([123]++a).length+bu)&&c8 (d+j.length))) (aH (b.1++j,i,e))) (aq (wo a) λn=>aq (BW n) λo=>ag o (aA (.inl ([],7))) (au (ag (u.1==2) (g&&(c8 (c.length+bu)&&c8 (d+(c++[(62:ao)]).length))) (ag (u.1==3) (c8 (iO+a.length)&&(c8 (h.length+bu)&&c8 (d+(h++[62]).length))) (!u.1==4||g&&(c8 (c.length+iO)&&c8 (d+k.length))))) (aH (ag (u.1==2) (b.1++(c++[62])) (ag (u.1==3) (b.1++(h++[62])) (ag (u.1==4) (b.1++k) b.1)),i,e)))))) (aA (.inr b.1))
def FT:bW->pw:=λf=>aq (zf f) λb=>ag (b !=0) (J ([],b)) (aq (wx (J [[60],[38,108,116,59],[38],[38,97,109,112,59],[123],[38,108,98,59]])) λa=>aW (FR f a) ([],0,a.1,a.2.1,a.2.2.2) λc=>dh c (λd=>J d) λe=>J (e,0))
def FU:bW->vS->bz×vS->Q0:=λf e a=>aj (aN f a.2.1 (0,[],0)) λu=>aj ([123]++u.2.1) λc=>aj a.2.2 λb=>bS a.2.1 (al f) (ag (u.1==1) (aq (tD u.2.1 (b.1,b.2.1,e.2.2.1,b.2.2)) λd=>ig (a.1.length+d.1.length) (aH (a.1++d.1,ax a.2.1,d.2))) (ag (u.1==5) (au (c8 (bu+u.2.1.length)&&(c8 (c.length+bu)&&c8 (a.1.length+(c++[125]).length))) (aH (a.1++(c++[125]),ax a.2.1,b))) (aA (.inl ([],7))))) (aA (.inr a.1))
def FV:bW->pw:=λf=>aq (zf f) λb=>ag (b !=0) (J ([],b)) (aq (wx (J [[10],[92,110],[9],[92,116],[13],[92,114],[92],[92,92],[123],[92,123]])) λa=>aW (FU f a) ([],0,a.1,a.2.1,a.2.2.2) λc=>dh c (λd=>J d) λe=>J (e,0))
def abs:bW->vS->bz×vS->Q0:=λf e a=>aj (aN f a.2.1 (0,[],0)) λu=>aj ([123]++u.2.1) λc=>aj a.2.2 λb=>bS a.2.1 (al f) (ag (u.1==1) (aq (tD u.2.1 (b.1,b.2.1,e.2.2.1,b.2.2)) λd=>ig (a.1.length+d.1.length) (aH (a.1++d.1,ax a.2.1,d.2))) (ag (u.1==5) (au (c8 (bu+u.2.1.length)&&(c8 (c.length+bu)&&c8 (a.1.length+(c++[125]).length))) (aH (a.1++(c++[125]),ax a.2.1,b))) (aA (.inl ([],7))))) (aA (.inr a.1))
def FW:bW->pw:=λf=>aq (zf f) λb=>ag (b !=0) (J ([],b)) (aq (wx (J [[34],[34,34],[123],[123,123]])) λa=>aW (abs f a) ([],0,a.1,a.2.1,a.2.2.2) λc=>dh c (λd=>J d) λe=>J (e,0))
def Ly:L->bW->pw:=λa f=>ag (a==1) (aq (FT f) λb=>J b) (ag (a==2) (aq (FV f) λc=>J c) (aq (FW f) λd=>J d))
def LA:bW->L×dv->Q (L×dv⊕L×dv):=λf a=>aj (ah (al f)) λu=>aj (aN f a.1 (0,[],0)) λb=>aj (Y (al a.2)) λc=>aj (decide (0<=a.1/\a.1<u)) λd=>aj (jN a.2 (fL b.2.1)) λe=>aj (decide (a.1<u)) λu=>aj (c+Y (fL b.2.1)) λi=>aj (aad a.2) λg=>aj (aad e) λh=>au (!u||d) (ag (u&&b.1==1) (au (d&&(decide (0+c=c)&&(decide (i<=nat_lit 68719476736)&&(g==g&&h==h)))) (aH (ax a.1,e))) (aA a))
def LB:bW->jB->yK:=λf a=>aj (al a.1).length λu=>aj (decide (0+u=u)&&(decide (u+bu<=nat_lit 68719476736)&&a.1.isSome==a.1.isSome)) λu=>aj (al f) λb=>aj (aN f a.2 (0,[],0)) λc=>aj (al a.1) λd=>bS a.2 b (ag (c.1 !=1) (au (decide (0<=a.2/\a.2<ah b)&&u) (aH (J (d++[c]),ax a.2))) (aW (LA f) (a.2,O) λh=>aj (ah (al h.2)) λe=>aj h.2.isSome λg=>au (!decide (e>0)||g==g&&u) (aH (aJ (e>0) (J (d++[(1,nj (al h.2),0)])) a.1,h.1)))) (aA a.1)
def FX:bW->lB:=λf=>aW (LB f) (O,0) λa=>au (a.isSome==a.isSome) (au (a.isSome==a.isSome) (J a))
def LC:L->lB:=λn=>if(!decide (n<(0:L)))=W then if(!decide (a7.wrap (n-(0:L))>(0:L))||true&&(decide ((0:L)<=a7.wrap (n-(0:L))/\a7.wrap (n-(0:L))<=(68719476736:L))&&(decide ((0:L)<=(0:L)/\(0:L)<=(0:L)/\(0:L)<=ah ((dW (ej (a7.wrap (n-(0:L))).toNat ((0:L),([]:M ao),(0:L)))).getD []))&&(ga (bq (0:L) (0:L)) (dW (ej (a7.wrap (n-(0:L))).toNat ((0:L),([]:M ao),(0:L))))).isSome==(dW (ej (a7.wrap (n-(0:L))).toNat ((0:L),([]:M ao),(0:L)))).isSome)))=W then if((if decide (a7.wrap (n-(0:L))>(0:L))=W then ga (bq (0:L) (0:L)) (dW (ej (a7.wrap (n-(0:L))).toNat ((0:L),([]:M ao),(0:L))))else O).isSome==(if decide (a7.wrap (n-(0:L))>(0:L))=W then ga (bq (0:L) (0:L)) (dW (ej (a7.wrap (n-(0:L))).toNat ((0:L),([]:M ao),(0:L))))else O).isSome)=W then if((if decide (a7.wrap (n-(0:L))>(0:L))=W then ga (bq (0:L) (0:L)) (dW (ej (a7.wrap (n-(0:L))).toNat ((0:L),([]:M ao),(0:L))))else O).isSome==(if decide (a7.wrap (n-(0:L))>(0:L))=W then ga (bq (0:L) (0:L)) (dW (ej (a7.wrap (n-(0:L))).toNat ((0:L),([]:M ao),(0:L))))else O).isSome)=W then J (if decide (a7.wrap (n-(0:L))>(0:L))=W then ga (bq (0:L) (0:L)) (dW (ej (a7.wrap (n-(0:L))).toNat ((0:L),([]:M ao),(0:L))))else O)else O else O else O else O
def FY:pv->ez->ta:=λslices a=>aJ (a.2<ah (al slices)) (au (decide (0<=a.2/\a.2<ah (al slices))&& !decide (bg (a.1+ah (al (aN slices a.2 O)))<0)) (aH (bg (a.1+ah (al (aN slices a.2 O))),ax a.2))) (aA a.1)
def FZ:pv->jB->yK:=λslices a=>aj (al (aN slices a.2 O)) λu=>aj (al a.1).length λb=>aj (ah (al slices)) λc=>aj (jN a.1 u).isSome λd=>aj a.1.isSome λe=>aJ (a.2<c) (au (decide (0<=a.2/\a.2<c)&&(decide (0+b=b)&&(decide (b+u.length<=nat_lit 68719476736)&&(e==e&&d==d)))) (aH (jN a.1 u,ax a.2))) (aA a.1)
def LD:pv->lB:=λslices=>aW (FY slices) (0,0) λc=>aq (LC c) λb=>au (b.isSome==b.isSome) (aW (FZ slices) (b,0) λa=>au (a.isSome==a.isSome) (au (a.isSome==a.isSome) (J a)))
def B4:bW->bW->lB:=λa b=>aq (LD (J [a,b])) λc=>aq (FX c) λd=>J d
def F0:bW->lA->pv->qv->Q (qv⊕jB):=λf a targets b=>bS b.2.2 (al a) (aq (qA f b.2.1 (aN a b.2.2 (0,0)).1) λc=>aq (B4 b.1 c.1) λd=>cG b.2.2 (al targets) (aq (B4 d (aN targets b.2.2 O)) λe=>aH (e,(aN a b.2.2 (0,0)).2,ax b.2.2))) (aA (b.1,b.2.1))
def LG:bW->lA->pv->lB:=λf a targets=>aW (F0 f a targets) (O,0,0) λb=>aq (wq f) λc=>aq (qA f b.2 c) λd=>aq (B4 b.1 d.1) λe=>J e
def F2:bW->dv×M sX×L->Q (dv×M sX×L⊕dv):=λf a=>aj (aN f a.2.2 (0,[],0)) λu=>aj (!X (dr (Ty.int a7) u.2.2 a.2.1) I) λe=>aj (Y (al a.1)) λb=>aj (aad a.1) λd=>bS a.2.2 (al f) (aq (qB u) λg=>aj (g&&e) λc=>au (!c||decide (0+b=b)&&(decide (b+bu<=nat_lit 68719476736)&&d==d)) (aH (ag c (J (al a.1++[u.2.2])) a.1,ag c (fV (Ty.int a7) u.2.2 W a.2.1) a.2.1,ax a.2.2))) (aA a.1)
def LH:bW->rO:=λf=>aW (F2 f) (O,[],0) λa=>au (a.isSome==a.isSome) (au (a.isSome==a.isSome) (J a))
def LI:dv->dv->M ez×L->Q (M ez×L⊕M ez):=λa to b=>aJ (b.2>=0) (au (decide (0<=b.2/\b.2<ah (al a))&&decide (0<=b.2/\b.2<ah (al to))) (aH (fV (Ty.int a7) (aN a b.2 0) (aN to b.2 0) b.1,bg (b.2-1)))) (aA b.1)
def F3:bW->M ez->jB->yK:=λf h b=>aj (al b.1).length λu=>aj (aN f b.2 (0,[],0)) λa=>aj (decide (0+u=u)&&(decide (u+bu<=nat_lit 68719476736)&&b.1.isSome==b.1.isSome)) λu=>aj (dr (Ty.int a7) a.2.2 h) λc=>aj (al b.1) λd=>aj (!c.isSome) λe=>bS b.2 (al f) (aq (qB a) λg=>au (ag g (e||u) u) (aH (ag g (ag e b.1 (J (d++[(a.1,a.2.1,c.getD 0)]))) (J (d++[a])),ax b.2))) (aA b.1)
def LJ:bW->dv->dv->lB:=λf a to=>aW (LI a to) ([],bg (ji (ah (al a)) (ah (al to))-1)) λc=>aW (F3 f c) (O,0) λb=>au (b.isSome==b.isSome) (aq (FX b) λd=>J d)
def F4:L->M L×L->Q (M L×L⊕M L):=λn a=>aJ (a.2<ah (ej (G n) (0:L))) (au (decide (0<=a.2/\a.2<ah a.1)&&bX (0+G a.2) (Y a.1)) (aH (a.1.set (0+G a.2) (ax a.2),ax a.2))) (aA a.1)
def F5:L->rO:=λn=>cw (0<=n/\n<=n/\n<=68719476736) (aW (F4 n) (ej n.toNat 0,0) λa=>J (J a))
def LK:bW->lB:=λf=>aq (LH f) λa=>aq (F5 (fQ (al a).length)) λb=>aq (LJ f a b) λc=>J c
def anC:bW->bW->L->jA:=λa b c=>aj (ah (al a)) λu=>aj (aN b c (0,[],0)) λd=>aj (aN a c (0,[],0)) λe=>aj (ah (al b)) λf=>aJ (c<u) (au (decide (0<=c/\c<u)&&decide (0<=c/\c<f)) (ag (!(e.1==d.1&&(decide (e.2.1=d.2.1)&&(e.2.2==d.2.2&&W)))) (aA (.inl I)) (aH (ax c)))) (aA (.inr ()))
def RA:bW->bW->dO:=λa b=>ag (ah (al a) !=ah (al b)) (J I) (aW (anC a b) 0 λc=>dh c (λd=>J d) λe=>J W)
def LL:bW->bW->dO:=λa b=>aq (RA a b) λc=>J c
def LM:kj->Q kj:=λs=>ag (!aad s) (J O) (au (W&&decide (nat_lit 0+Y (al s)<=nat_lit 68719476736)) (J (J ([]++al s))))
def F6:gC->L->lA->pv->fS->Bt->Q (Bt⊕yN⊕mN):=λj m k l i e=>aj (aN k e.2.2 (0,0)) λu=>aj (aN j.2 m (I,[],[])).2.2 λf=>aj (aN i.1 u.1 0) λc=>aj (ah (al i.1)) λg=>aj e.2.1 λa=>aj (bq a c f) λd=>aj e.2.2 λb=>bS b (al k) (cG b (al l) (aq (Ly j.1 (aN l b O)) λh=>ag (h.2 !=0) (aA (.inl (h.2,0,O))) (au (decide (0<=u.1/\u.1<g)&&(decide (0<=a/\a<=c/\c<=ah f)&&(c8 (d.length+h.1.length)&&c8 (e.1.length+(d++h.1).length)))&&decide (0<=u.2/\u.2<g)) (aH (e.1++(d++h.1),aN i.1 u.2 0,ax b))))) (aA (.inr (e.1,a)))
def oF:gC->L->lA->pv->Kx:=λc f k m=>aj (aN c.2 f (I,[],[])).2.2 λu=>aj (0,O) λa=>aj (J (a,1)) λh=>aj (ah u) λd=>aj (0+G f) λe=>aq (zc c) λv=>ag (v !=0) (J (a,v)) (aq (ze c f) λl=>ag (l.2 !=0) (J (a,l.2)) (ag (ah (al m) !=ah (al k)) h (aq (wq l.1) λw=>aq (Lt k w) λx=>ag (!x) h (cG f (al c.2) (aq (FN c.1 u) λn=>ag (n.2 !=0) (J (a,n.2)) (aW (F6 c f k m n) ([],0,0) λy=>dh y (λo=>aj (aad o.2.2) λu=>au (u==u) (J (o.2,o.1))) λg=>aj (bq g.2 d u) λu=>au (decide (0<=g.2/\g.2<=d/\d<=d)&&c8 (Y g.1+Y u)) (aq (FC c.1 (g.1++u)) λp=>ag (p.2 !=0) (J (a,p.2)) (aq (LG l.1 k m) λq=>aq (LK q) λr=>aq (LL p.1 r) λs=>ag (!s) (J (a,11)) (aq (LM c.2) λi=>aj (al i) λb=>aj (c.1,J (b.set e ((H b e (I,[],[])).1,(H b e (I,[],[])).2.1,g.1++u))) λu=>aj (aad i) λj=>au (j==j) (au (decide (0<=f/\f<ah b)&&bX e (Y b)) (aq (tA u) λt=>aJ (ah t>65536) (J (a,3)) (J (u,0)))))))))))))
def RC:bW->dv×fS->abd:=λf a=>aj (al a.2.1) λu=>aj (aN f a.2.2 (0,[],0)) λc=>aj (bg (ah u-1)) λb=>aj (al a.1).length λi=>aj u.length λd=>aj (ga (bq 0 b) a.2.1) λl=>aj a.2.1.isSome λj=>aj (ah u) λk=>aj (ax a.2.2) λe=>aj (c.1==3) λg=>aj a.1.isSome λh=>bS a.2.2 (al f) (ag (c.1==2) (au (decide (0+d=d)&&(decide (d+bu<=nat_lit 68719476736)&&j==j)) (aH (a.1,J (u++[c.2.2]),e))) (ag (g&&k==0) (au (decide (0+i=i)&&(decide (i+bu<=nat_lit 68719476736)&&h==h)) (aH (J (al a.1++[c.2.2]),a.2.1,e))) (au (!g||decide (0<=b/\b<k)&&bX (0+b.toNat) d) (ag (g&&u.getD (0+b.toNat) 0==c.2.2) (au (decide (0<=(0:L)/\0<=b/\b<=k)&&l.isSome==j) (aH (a.1,l,e))) (ag g (aA (.inl (O,O,I))) (aH (a.1,a.2.1,e))))))) (aA (.inr (a.1,a.2.1)))
def F7:bW->abk:=λf=>aW (RC f) (O,O,0) λc=>dh c (λb=>au (b.1.isSome==b.1.isSome) (au (b.2.1.isSome==b.2.1.isSome) (J b))) λa=>au (a.1.isSome==a.1.isSome&&a.2.isSome==a.2.isSome) (au (a.1.isSome==a.1.isSome) (au (a.2.isSome==a.2.isSome) (J (a.1,a.2,W))))
def jn(l:M (L×M ao×L)):M (M ao):=(l.filter λx=>x.1==5).map (·.2.1)
def LN:M (M ao)->Q (M (M ao))|[]=>O|a::l=>J ((a::l).mergeSort λx y=>decide (x<=y))
def wz:Q (M (L×M ao×L))->Q (Q (M (M ao))):=λf=>if decide (Y (X f [])<4294967296)=W then J (LN (jn (X f [])))else O
def F9:bW->jB->yK:=λf a=>bS a.2 (al f) (aq (qB (aN f a.2 (0,[],0))) λb=>au (!b||decide (0+(al a.1).length=(al a.1).length)&&(decide ((al a.1).length+bu<=nat_lit 68719476736)&&a.1.isSome==a.1.isSome)) (aH (ag b (J (al a.1++[aN f a.2 (0,[],0)])) a.1,ax a.2))) (aA a.1)
def Ga:bW->lB:=λf=>aW (F9 f) (O,0) λa=>au (a.isSome==a.isSome) (au (a.isSome==a.isSome) (J a))
def abt:dv->dv->L->jA:=λa b c=>aJ (c<ah (al a)) (au (decide (0<=c/\c<ah (al a))&&decide (0<=c/\c<ah (al b))) (ag (aN a c 0 !=aN b c 0) (aA (.inl I)) (aH (ax c)))) (aA (.inr ()))
def slices_Equal_int:dv->dv->dO:=λa b=>ag (ah (al a) !=ah (al b)) (J I) (aW (abt a b) 0 λc=>dh c (λd=>J d) λe=>J W)
def anD:lz->lz->L->jA:=λa b c=>aJ (c<ah (al a)) (au (decide (0<=c/\c<ah (al a))&&decide (0<=c/\c<ah (al b))) (ag (!decide (aN a c []=aN b c [])) (aA (.inl I)) (aH (ax c)))) (aA (.inr ()))
def slices_Equal_string:lz->lz->dO:=λa b=>ag (ah (al a) !=ah (al b)) (J I) (aW (anD a b) 0 λc=>dh c (λd=>J d) λe=>J W)
noncomputable section
def Gb:bW->M Br×L->abf:=λb a=>if decide (a.snd<ah (X b []))=W then if(decide ((0:L)<=a.snd/\a.snd<ah (X b []))&&decide ((0:L)<=(↑(mF ((Ty.int a7).bJ (Ty.bj.bJ (Ty.int a7))) (H (X b []) (G a.snd) ((0:L),[],(0:L))) a.fst):L)/\(↑(mF ((Ty.int a7).bJ (Ty.bj.bJ (Ty.int a7))) (H (X b []) (G a.snd) ((0:L),[],(0:L))) a.fst):L)<ah (nn ((Ty.int a7).bJ (Ty.bj.bJ (Ty.int a7))) (H (X b []) (G a.snd) ((0:L),[],(0:L))) (0:L) a.fst)))=W then J (mr (pj (aaX a7 (X (dr ((Ty.int a7).bJ (Ty.bj.bJ (Ty.int a7))) (H (X b []) (G a.snd) ((0:L),[],(0:L))) a.fst) (0:L)+(1:L))) (G (↑(mF ((Ty.int a7).bJ (Ty.bj.bJ (Ty.int a7))) (H (X b []) (G a.snd) ((0:L),[],(0:L))) a.fst):L)) (nn ((Ty.int a7).bJ (Ty.bj.bJ (Ty.int a7))) (H (X b []) (G a.snd) ((0:L),[],(0:L))) (0:L) a.fst),aaX a7 (a.snd+(1:L))))else O else J (lM a.fst)
def Gc:bW->M Br×L->abf:=λb a=>if decide (a.snd<ah (X b []))=W then if(decide ((0:L)<=a.snd/\a.snd<ah (X b []))&&decide ((0:L)<=(↑(mF ((Ty.int a7).bJ (Ty.bj.bJ (Ty.int a7))) (H (X b []) (G a.snd) ((0:L),[],(0:L))) a.fst):L)/\(↑(mF ((Ty.int a7).bJ (Ty.bj.bJ (Ty.int a7))) (H (X b []) (G a.snd) ((0:L),[],(0:L))) a.fst):L)<ah (nn ((Ty.int a7).bJ (Ty.bj.bJ (Ty.int a7))) (H (X b []) (G a.snd) ((0:L),[],(0:L))) (0:L) a.fst)))=W then J (mr (pj (aaX a7 (X (dr ((Ty.int a7).bJ (Ty.bj.bJ (Ty.int a7))) (H (X b []) (G a.snd) ((0:L),[],(0:L))) a.fst) (0:L)-(1:L))) (G (↑(mF ((Ty.int a7).bJ (Ty.bj.bJ (Ty.int a7))) (H (X b []) (G a.snd) ((0:L),[],(0:L))) a.fst):L)) (nn ((Ty.int a7).bJ (Ty.bj.bJ (Ty.int a7))) (H (X b []) (G a.snd) ((0:L),[],(0:L))) (0:L) a.fst),aaX a7 (a.snd+(1:L))))else O else J (lM a.fst)
def LO:M Br->M U->U->bY->abj:=λb c a d=>au (bX a b.length) (ag ((b.getD a ((0,[],0),0)).2 !=0) (aA (.inl I)) (aH ()))
def RE:M U->bY->abj:=λa b=>aA (.inr ())
def rU:bW->bW->dO:=λsource target=>aq (F7 source) λa=>aq (F7 target) λb=>ag (!a.2.2) (J I) (ag (!b.2.2) (J I) (aq (slices_Equal_int a.1 b.1) λh=>ag (!h) (J I) (aq (slices_Equal_int a.2.1 b.2.1) λi=>ag (!i) (J I) (aq (Ga source) λj=>aW (Gb j) ([],0) λk=>aq (Ga target) λl=>aW (Gc l) (k,0) λg=>aq (rJ g.length (LO g) RE ()) λm=>dh m (λc=>J c) λn=>aq (wz source) λd=>aq (wz target) λe=>aq (slices_Equal_string d e) λf=>J f))))
end
def LP:kV->dO:=λs=>aj s.2.2.2.2.2.2 λu=>aj (decide (u.1=[])) λc=>aj (!u.2.1 !=0) λb=>aj (c&&decide (u.2.1>=1)) λd=>aj s.2.2.2.2 λa=>ag (a.1==0) (J (c&&(b&&ah (al a.2.1)==0))) (ag (a.1==1) (J (c&&b)) (ag (a.1==2) (aq (pB u.1) λe=>J (e&&b)) (ag (a.1==3) (aq (pB u.1) λf=>J (ag f (b||d) d)) (J I))))
noncomputable section
def LQ:kV->bW->ly->gD:=λs source v=>aq (LP s) λb=>ag (!b) (J 8) (aq (zf s.2.2.2.2.2.1) λa=>ag (a !=0||s.2.2.2.2.1 !=3) (J a) (aq (rU source s.2.2.2.2.2.1) λc=>ag (!c) (J 7) (cG s.2.1 (al v.1) (aq (oF (aN v.1 s.2.1 (0,O)) s.2.2.1 (J [s.2.2.2.1]) (J [s.2.2.2.2.2.1])) λd=>J d.2))))
end
def LR:kV->kV->dO:=λa b=>ag (a.2.1 !=b.2.1) (J (decide (a.2.1<b.2.1))) (ag (a.2.2.1 !=b.2.2.1) (J (decide (a.2.2.1<b.2.2.1))) (J (decide (a.2.2.2.1.2<=b.2.2.2.1.1))))
noncomputable section
def Gd:L->M L->ly->gD:=λi seen v=>aj (aN v.2.1 i (0,0,0,(0,0),0,O,[],0,I)) λu=>aj (al v.2.1) λb=>aj (aq (ww i v) λf=>aq (LQ u f v) λg=>J g) λc=>aj (dr ((Ty.int a7).bJ (Ty.int a7)) (u.2.1,u.2.2.1) v.2.2.2) λd=>aj u.2.2.2.1 λa=>aj O λe=>cG i b (ag (!aad d) (J 6) (aJ (u.1<1) (J 1) (aJ (u.1>bg (v.2.2.1-1)) (J 1) (aJ (a.1<0) (J 1) (aJ (a.2<=a.1) (J 1) (aq (wq (X d e)) λh=>aJ (a.2>h) (J 1) (ag (np (Ty.int a7) u.1 seen) (J 5) (aJ (i>0) (cG (bg (i-1)) b (aq (LR (aN v.2.1 (bg (i-1)) (0,0,0,(0,0),0,e,[],0,I)) u) λj=>ag (!j) (J 11) c)) c))))))))
end
noncomputable section
def LS:eS->L->Q (L⊕bY×L⊕bY):=λp a=>bS a (al p.1) (aq (zc (aN p.1 a (0,O))) λb=>ag (b !=0) (aA (.inl ((),b))) (aH (ax a))) (aA (.inr ()))
def Ge:L×ly->EC->M U->U->ly->Q (ly⊕ly):=λc a d i16 b=>if bX i16 (Y a)=W then J (mr (b.fst,b.snd.fst,b.snd.snd.fst,match(aad (dr ((Ty.int a7).bJ (Ty.int a7)) (c.fst,(H a i16 ((0:L),O)).fst) b.snd.snd.snd)) with|true=>fV ((Ty.int a7).bJ (Ty.int a7)) (c.fst,(H a i16 ((0:L),O)).fst) (H a i16 ((0:L),O)).snd b.snd.snd.snd|false=>pi ((Ty.int a7).bJ (Ty.int a7)) (c.fst,(H a i16 ((0:L),O)).fst) (H a i16 ((0:L),O)).snd b.snd.snd.snd))else O
def RF:M U->ly->Q (ly⊕ly):=λa b=>aA b
def Gf:eS->L×ly->Q (L×ly⊕ly):=λp a=>bS a.1 (al p.1) (aq (Ln (aN p.1 a.1 (0,O))) λb=>aq (rJ (Y b) (Ge a b) RF a.2) λc=>aH (ax a.1,c)) (aA a.2)
def LU:ly->M L×L->Q (M L×L⊕bY×L⊕bY):=λb a=>bS a.2 (al b.2.1) (aq (Gd a.2 a.1 b) λc=>ag (c !=0) (aA (.inl ((),c))) (aH (oi (Ty.int a7) (aN b.2.1 a.2 (0,0,0,(0,0),0,O,[],0,I)).1 a.1,ax a.2))) (aA (.inr ()))
def LV:eS->Q Bs:=λp=>ag (decide (ah (al p.1)>16)||decide (ah (al p.2.1)>512)) (J (3,I,O,O,0,[])) (aW (LS p) 0 λc=>dh c (λd=>J (d.2,I,O,O,0,[])) λg=>ag (decide (p.2.2<1)||decide (p.2.2>1073741824)) (J (1,I,O,O,0,[])) (aq (Lr p) λa=>aW (Gf p) (0,a.1,a.2.1,a.2.2,[]) λb=>aW (LU b) ([],0) λe=>dh e (λf=>J (f.2,I,O,O,0,[])) λh=>J (0,W,b)))
end
noncomputable section
def rV:eS->L->Q Bs:=λp number=>aq (LV p) λa=>ag a.2.1 (ag (a.1 !=0) (J (a.1,I,O,O,0,[])) (ag (decide (number<0)||decide (number>=ah (al a.2.2.1))) (J (6,I,O,O,0,[])) (J (0,W,a.2.2)))) (ag (a.1 !=0) (J (a.1,I,O,O,0,[])) (cw (number<0) (J (6,I,O,O,0,[]))))
end
abbrev zg:Type:=L×L×L×(L×L)×L×Q (M (L×M ao×L))×M ao×L×ay
abbrev mB:Type:=Q (M (L×Q (M (ay×M ao×M ao))))×Q (M zg)×L×M ((L×L)×Q (M (L×M ao×L)))
def bI(a:M zg)(i:U):zg:=H a i (0,0,0,(0,0),0,O,[],0,I)
def md(a:M zg)(keep:U->ay)(num p:L):M U:=(jq (Y a)).filter λi=>decide ((bI a i).2.1=num)&&(keep i&&decide ((bI a i).2.2.1=p))
def kl(a:L->M U)(rg:U->L×L)(tg:U->Q (M (L×M ao×L))):M L->L×Q (M (ay×M ao×M ao))->Q ((L×Q (M (ay×M ao×M ao)))×L)|[],d=>J (d,0)|u::us,d=>if a u=[]then kl a rg tg us d else match oF d u (J ((a u).map rg)) (J ((a u).map tg))with|none=>O|some (b,e)=>if e=0 then kl a rg tg us b else J ((0,O),e)
def rW(x:L):ay:=decide (-9223372036854775808<=x/\x<=9223372036854775807)
def zh(keep:U->ay)(num:L)(v:mB):Q ((L×Q (M (ay×M ao×M ao)))×L):=if(decide (0<=num/\num<ah (X v.1 []))&&(decide (Y (X v.2.1 [])<=512)&&(X v.2.1 []).all λs=>rW s.2.2.1))=W then match nF (H (X v.1 []) (G num) (0,O))with|none=>O|some us=>if(decide (Y (X us [])<=4294967296)&&(X us []).all rW)=W then kl (md (X v.2.1 []) keep num) (λi=>(bI (X v.2.1 []) i).2.2.2.1) (λi=>(bI (X v.2.1 []) i).2.2.2.2.2.1) (X us []) (H (X v.1 []) (G num) (0,O))else O else O
def wA(num:L)(v:mB):Q ((L×Q (M (ay×M ao×M ao)))×L):=zh (λi=>decide ((bI (X v.2.1 []) i).2.2.2.2.1=3)) num v
noncomputable section
def abu:L->Bs->fS->yJ:=λnumber f a=>aj (aN f.2.2.2.1 a.2 (0,0,0,(0,0),0,O,[],0,I)) λu=>aj (ah (al f.2.2.2.1)) λc=>aj (al a.1).length λb=>aj (u.2.1==number&&u.2.2.2.2.1 !=3) λd=>aj a.1.isSome λe=>aJ (a.2<c) (au (decide (0<=a.2/\a.2<c)&&(!d||decide (0+b=b)&&(decide (b+bu<=nat_lit 68719476736)&&e==e))) (aH (ag d (J (al a.1++[u.1])) a.1,ax a.2))) (aA a.1)
def wB:eS->L->rO:=λp number=>aq (rV p number) λb=>ag b.2.1 (ag (b.1 !=0) (J O) (aW (abu number b) (O,0) λa=>au (a.isSome==a.isSome) (au (a.isSome==a.isSome) (J a)))) (au (b.1 !=0) (J O))
end
noncomputable section
def LW:L->kV->ly->dO:=λi s v=>ag (s.2.2.2.2.1 !=0) (aq (ww i v) λa=>aq (rU a s.2.2.2.2.2.1) λb=>J b) (J I)
end
noncomputable section
def rX(v:mB)(i:U):Q ay:=LW (i:L) (bI (X v.2.1 []) i) v
def zi(num:L)(v:mB):Q ((L×Q (M (ay×M ao×M ao)))×L):=if((jq (Y (X v.2.1 []))).all λi=> !decide ((bI (X v.2.1 []) i).2.1=num)||(rW (bI (X v.2.1 []) i).2.1&&aad (rX v i)))=W then zh (λi=>X (rX v i) I) num v else O
end
noncomputable section
def LX:eS->L->pw:=λp number=>aq (rV p number) λa=>ag a.2.1 (ag (a.1 !=0) (J ([],a.1)) (aq (zi number a.2.2) λb=>aq (tA b.1) λc=>J (c,b.2))) (au (a.1 !=0) (J ([],a.1)))
end
def abv:L->bz->rO:=λa raw=>ag (a==1) (aq (FK raw) λb=>J b.1) (ag (a==2) (aq (FL raw) λc=>J c.1) (ag (a==3) (aq (FM raw) λd=>J d.1) (J O)))
def abw:L->bW->px:=λa f=>ag (a==1) (aq (FT f) λb=>J b.1) (ag (a==2) (aq (FV f) λc=>J c.1) (ag (a==3) (aq (FW f) λd=>J d.1) (J [])))
def abx:Q (M dv)->ez->ta:=λl a=>bS a.2 (al l) (aH (bg (a.1+ah (al (aN l a.2 O))),ax a.2)) (aA a.1)
def Gg:Q (M dv)->dO:=λl=>aW (abx l) (0,0) λa=>J (decide (a>160))
def LZ:dv->Q fS:=λl=>J (l,0)
def RG:L->L->gD:=λx n=>cw (n≠0) (J (aJ (x.tmod n<0) (bg (x.tmod n+n)) (x.tmod n)))
def iP:L->fS->Q ez:=λn s=>au (!decide (s.2<ah (al s.1))||decide (0<=s.2/\s.2<ah (al s.1))) (aq (RG (aJ (s.2<ah (al s.1)) (aN s.1 s.2 0) 0) n) λa=>J (a,ax s.2))
def L0:fS->pw:=λs=>aq (iP 4 s) λa=>au (decide (0<=a.1/\a.1<4)&&bX (0+a.1.toNat) (nat_lit 4)) (J ([[97,110,110],[98,111,98],[101,118,101],[114,111,98]].getD (0+a.1.toNat) [],a.2))
def L1:fS->pw:=λs=>aq (iP 24 s) λa=>au (decide (0<=a.1/\a.1<24)&&bX (0+a.1.toNat) (nat_lit 24)) (J ([[114,101,100],[99,97,114],[82,101,100],[97],[99,97,114,115],[49,44,53],[50,50],[100,111,110,39,116],[46],[33],[32],[32,32],[60],[38],[123],[34],[92],[120,45,121],[10],[61],[125],[62],[9],[98]].getD (0+a.1.toNat) [],a.2))
def RH:fS->Bt->Q9:=λs a=>aJ (a.2.1>0) (aq (L1 (s.1,a.2.2)) λb=>ag (!decide (a.1=[])) (aq (iP 3 (s.1,b.2)) λc=>au ((!decide (c.1>0)||c8 (a.1.length+bu))&&c8 ((aJ (c.1>0) (a.1++[32]) a.1).length+b.1.length)) (aH (aJ (c.1>0) (a.1++[32]) a.1++b.1,bg (a.2.1-1),c.2))) (ig (a.1.length+b.1.length) (aH (a.1++b.1,bg (a.2.1-1),b.2)))) (aA (a.1,a.2.2))
def L2:L->fS->pw:=λn s=>aq (iP (ax n) s) λa=>aW (RH s) ([],a) λb=>J b
def RJ:bW->fS->qv->Q (qv⊕jB):=λsource s a=>aj [[114,111,116],[100,97,115,32,65,117,116,111],[],[101,105,110,32]++(aN source a.2.1 (0,[],0)).2.1,(aN source a.2.1 (0,[],0)).2.1] λu=>aj (aN source a.2.1 (0,[],0)) λb=>aj (J [b]) λd=>aj (ax a.2.1) λc=>bS a.2.1 (al source) (ag (b.1==1) (ig (nat_lit 4+b.2.1.length) (aq (iP 5 (s.1,a.2.2)) λe=>au (decide (0<=e.1/\e.1<ah u)&&bX (0+e.1.toNat) (nat_lit 5)) (aq (lD a.1 (J [(b.1,u.getD (0+e.1.toNat) [],b.2.2)])) λh=>aH (h,c,e.2)))) (aq (iP 3 (s.1,a.2.2)) λf=>ag (f.1==0) (aq (L2 2 (s.1,f.2)) λg=>aq (lD a.1 (J [(1,g.1,0)])) λi=>aq (lD i d) λj=>aH (j,c,g.2)) (aq (lD a.1 d) λk=>aH (k,c,f.2)))) (aA (a.1,a.2.2))
def L3:bW->fS->Q jB:=λsource s=>aW (RJ source s) (O,0,s.2) λa=>J a
def wD:kV->kV->dO:=λa b=>ag (a.2.1 !=b.2.1) (J (decide (a.2.1>b.2.1))) (ag (a.2.2.1 !=b.2.2.1) (J (decide (a.2.2.1>b.2.2.1))) (J (decide (a.2.2.2.1.1>=b.2.2.2.1.2))))
def L4:dv->L->L->jA:=λl n a=>bS a (al l) (ag (aN l a 0==n) (aA (.inl W)) (aH (ax a))) (aA (.inr ()))
def L5:dv->L->dO:=λl n=>aW (L4 l n) 0 λa=>dh a (λb=>J b) λc=>J I
def L6:gC->L->dO:=λd part=>aq (EP d) λa=>aq (L5 a part) λb=>J b
def Gh:eS->L->L->rN:=λc d b=>aj (ga (bq 0 d) c.2.1) λu=>aj (0,0,0,(0,0),0,O,[],0,I) λa=>bS b (al u) (ag ((aN u b a).1==(aN c.2.1 d a).1) (aA (.inl 5)) (aH (ax b))) (aA (.inr ()))
def tF:eS->L->gD:=λd c=>aj (aN d.2.1 c (0,0,0,(0,0),0,O,[],0,I)) λu=>aj (al d.2.1) λe=>aj (aN d.1 u.2.1 (0,O)) λf=>aj (al d.1) λg=>aj u.2.2.2.1 λa=>aj u.2.1 λb=>cG c e (aJ (b<0) (J 6) (aJ (b>=ah g) (J 6) (cG b g (aq (L6 f u.2.2.1) λl=>ag (!l) (J 6) (cG b g (aq (mP f u.2.2.1) λk=>aj (aq (l9 k.1 a.1 a.2) λi=>aq (lE f i.1 u) λj=>J j) λh=>aJ (u.1<1) (J 1) (aJ (u.1>=d.2.2) (J 1) (aJ (a.1<0) (J 1) (aJ (a.2<=a.1) (J 1) (aq (nC k.1) λm=>aJ (a.2>m) (J 1) (cw (0<=(0:L)/\0<=c/\c<=ah e) (aW (Gh d c) 0 λn=>dh n (λo=>J o) λq=>aJ (c>0) (cG (bg (c-1)) e (aq (wD u (aN d.2.1 (bg (c-1)) (0,0,0,(0,0),0,O,[],0,I))) λp=>ag (!p) (J 11) h)) h))))))))))))
def L7:eS->L->rN:=λp a=>bS a (al p.1) (aq (tw (aN p.1 a (0,O))) λb=>ag (b !=0) (aA (.inl b)) (aH (ax a))) (aA (.inr ()))
def Ma:eS->L->rN:=λp a=>aJ (a<ah (al p.2.1)) (aq (tF p a) λb=>ag (b !=0) (aA (.inl b)) (aH (ax a))) (aA (.inr ()))
def wE:eS->gD:=λp=>ag (decide (ah (al p.1)>16)||decide (ah (al p.2.1)>512)) (J 3) (aW (L7 p) 0 λa=>dh a (λb=>J b) λe=>ag (decide (p.2.2<1)||decide (p.2.2>1073741824)) (J 1) (aW (Ma p) 0 λc=>dh c (λd=>J d) λf=>J 0))
def me:eS->kV->yL:=λp s=>aq (wE p) λa=>ag (a !=0) (J ((O,O,0),a)) (aq (rQ p s) λb=>J b)
def B5:eS->L->dO:=λp i=>aj (ah (al p.2.1)) λu=>aj ((aN p.2.1 (ax i) (0,0,0,(0,0),0,O,[],0,I)).2.1==(aN p.2.1 i (0,0,0,(0,0),0,O,[],0,I)).2.1) λa=>aj (decide (0<=ax i/\ax i<u)) λb=>aj (0,0,0,(0,0),0,O,[],0,I) λc=>aj (decide (0<=i/\i<u)) λd=>aj (decide (ax i<u)) λu=>au (!u||b&&(d&&(!a||b&&d))) (J (u&&(a&&(aN p.2.1 (ax i) c).2.2.1==(aN p.2.1 i c).2.2.1)))
def B6:eS->L->yL:=λm N=>aj (0,0,0,(0,0),0,O,[],0,I) λu=>aj (ah (al m.2.1)) λb=>aj m.2.1 λf=>aj (O,O,0) λn=>aj (al m.1) λC=>aj O λF=>aj (W&&decide (nat_lit 0+Y C<=nat_lit 68719476736)) λD=>aj (J ([]++C)) λE=>aq (wE m) λH=>ag (H !=0) (J (n,H)) (aq (yY m N) λc=>aj (aN f c u) λa=>aj (al (dW (al (ga (bq 0 c) f)))) λo=>aj (aN f (ax c) u).2.2.2 λu=>aj (al (ga (bq 0 c) f)) λp=>aj (aJ (a.2.2.2.2.2.2.1=[]) u.2.2.2.1 a.2.2.2.2.2.2.1) λq=>aj (al (ga (bq (bg (c+2)) b) f)) λg=>aj (q,ag a.2.2.2.2.2.2.2.2 0 0,a.2.2.2.2.2.2.2.2||u.2.2.2.2.2) λh=>aj (aad (dW p)) λd=>aj (o++[(a.1,a.2.1,a.2.2.1,(a.2.2.2.1.1,u.1.2),0,F,h)]) λr=>aj (ag (!decide (q=[])) 2 1) λs=>aj (decide (0<=bg (c+2)/\bg (c+2)<=b/\b<=b)) λt=>aj (decide (0<=(0:L)/\0<=c/\c<=b)) λv=>aj (a.2.2.2.1.1,u.1.2) λw=>aj (Y o) λi=>aj (decide (Y p<=nat_lit 68719476736)) λx=>aj (decide (i+bu<=nat_lit 68719476736)) λy=>aj a.2.2.1 λj=>aj (Y r) λk=>aj a.2.1 λe=>aj (decide (0+i=i)) λz=>aj (Y g) λA=>aj (ax c) λB=>aj a.2.2.2 λl=>aJ (c<0) (J (n,6)) (aq (B5 m c) λP=>ag (!P) (J (n,8)) (au (decide (0<=c/\c<b)&&decide (0<=B/\B<b)) (ag (l.2.1 !=0||u.2.1 !=0) (cG e C (aq (mP (aN m.1 e (0,O)) j) λR=>aq (l9 R.1 l.1.2 u.1.1) λS=>aq (lD l.2.2.1 S.1) λT=>aq (lD T u.2.2.1) λG=>aj (Y (o++[(a.1,e,j,w,s,G,h)])) λu=>aq (BP G) λK=>ag (K !=0) (J (n,K)) (au D (au (v&&(x&&(z&&(y&&(d==d&&(t&&(decide (0+u=u)&&decide (u+A<=nat_lit 68719476736)))))))) (J ((E,J (o++[(a.1,e,j,w,s,G,h)]++g),m.2.2),0)))))) (au D (au (v&&(x&&(z&&(y&&(d==d&&(t&&(decide (0+k=k)&&decide (k+A<=nat_lit 68719476736)))))))) (J ((E,J (r++g),m.2.2),0))))))))
def zj:kV->Q (L×bz):=λs=>ag (s.2.2.2.2.1==0) (J (0,[])) (ag (!decide (s.2.2.2.2.2.2.1=[])) (J (2,s.2.2.2.2.2.2.1)) (J (1,[])))
def B7:eS->L->L->L->yL:=λv H C A=>aj (0,0,0,(0,0),0,O,[],0,I) λu=>aj (al v.2.1) λw=>aj (J ((O,O,0),1)) λh=>aj v.2.1 λi=>aj (O,O,0) λs=>aj (al v.1) λx=>aj (ah w) λc=>aj v.2.2 λj=>aj (nat_lit 0+x.length) λD=>aq (wE v) λE=>ag (E !=0) (J (s,E)) (aq (yY v H) λk=>aj (aN i k u) λu=>aj (al (dW (al (ga (bq 0 k) i)))) λt=>aj (al (ga (bq 0 k) i)) λl=>aj (al (ga (bq (ax k) c) i)) λm=>aj u.2.2.2 λa=>aj (dW l).isSome λn=>aj (0,a.2.2.2.2.2) λd=>aj (bg (a.1.1+C)) λo=>aj u.2.2.1 λe=>aj u.2.1 λf=>aj (o,a.1.2) λp=>aj (a.1.1,o) λy=>aj t.length λg=>aj a.2.2.1 λb=>aj (ax k) λq=>aj (bg (a.1.2-a.1.1)) λz=>aJ (k<0) (J (s,6)) (cG k w (aJ (C<1) h (aJ (C>=z) h (aJ (A<0) h (aq (nC b) λK=>aJ (A>K) h (ag (decide (c>=512)||decide (j>=1073741824)) (J (s,3)) (aq (l9 b 0 A) λN=>aq (nC b) λP=>aq (l9 b A P) λF=>aq (zj u) λG=>aj (u.1,f,e,y,G.1,N.1,G.2,d) λr=>aq (zj u) λB=>aj (t++[r,(j,f,e,p,B.1,F.1,B.2,d)]).length λu=>au (W&&decide (D<=nat_lit 68719476736)) (au (decide (0<=(0:L)/\0<=k/\k<=c)&&(decide (l.length<=nat_lit 68719476736)&&(decide (0+g=g)&&(decide (g+iO<=nat_lit 68719476736)&&(n==n&&(decide (0<=q/\q<=c/\c<=c)&&(decide (0+u=u)&&decide (u+m.length<=nat_lit 68719476736)))))))) (J ((J ([]++x),J (t++[r,(j,f,e,p,B.1,F.1,B.2,d)]++m),ax j),0)))))))))))
def B8:eS->fS->yL:=λc k=>aj (0,0,0,(0,0),0,O,[],0,I) λu=>aj (al c.2.1) λp=>aj c.2.1 λF=>ag (ah p==0) (J (c,k.2)) (aq (iP (ah p) k) λE=>aj (aN F E.1 u) λu=>aj u.2.2.2 λa=>aj a.2.2.2.2.2 λd=>aj u.2.2.1 λe=>aj u.2.1 λf=>aj a.2.2 λm=>cG E.1 p (aq (tx c E.1) λH=>aq (iP 8 (k.1,E.2)) λl=>aj (J (c,l.2)) λq=>ag (l.1==0) (aq (nC H) λR=>aq (iP (lX 1 (bg (R-1))) (k.1,l.2)) λK=>aq (nC m.1) λS=>aq (iP (ax S) (k.1,K.2)) λG=>aq (B7 c u.1 (bg (1+K.1)) G.1) λN=>ag (N.2 !=0) (J (c,G.2)) (J (N.1,G.2))) (ag (l.1==1) (aq (B6 c u.1) λP=>ag (P.2 !=0) q (J (P.1,l.2))) (ag (l.1==2) (aq (me c (u.1,f,e,a.1,0,O,[],0,d)) λv=>ag (v.2 !=0) q (J (v.1,l.2))) (ag (l.1==3) (aq (me c (u.1,f,e,a.1,a.2.1,m.1,m.2.1,m.2.2.1,!d)) λw=>ag (w.2 !=0) q (J (w.1,l.2))) (aq (iP 3 (k.1,l.2)) λx=>aj (bg (1+x.1)) λb=>aq (L3 H (k.1,x.2)) λh=>aq (L0 (k.1,h.2)) λg=>aj (J (c,g.2)) λo=>aj (k.1,g.2) λi=>ag (b==1) (ag (b==3&&W) (aq (iP 5 i) λr=>aq (me c (u.1,f,e,a.1,b,h.1,[],bg (1+r.1),d)) λy=>ag (y.2 !=0) (J (c,r.2)) (J (y.1,r.2))) (aq (me c (u.1,f,e,a.1,b,h.1,[],0,d)) λz=>ag (z.2 !=0) o (J (z.1,g.2)))) (ag (b==3) (aq (iP 3 i) λn=>aj (ag (n.1==0) [] g.1) λj=>ag (b==3&&decide (j=[])) (aq (iP 5 (k.1,n.2)) λs=>aq (me c (u.1,f,e,a.1,b,h.1,j,bg (1+s.1),d)) λA=>ag (A.2 !=0) (J (c,s.2)) (J (A.1,s.2))) (aq (me c (u.1,f,e,a.1,b,h.1,j,0,d)) λB=>ag (B.2 !=0) (J (c,n.2)) (J (B.1,n.2)))) (ag (b==3&&decide (g.1=[])) (aq (iP 5 i) λt=>aq (me c (u.1,f,e,a.1,b,h.1,g.1,bg (1+t.1),d)) λC=>ag (C.2 !=0) (J (c,t.2)) (J (C.1,t.2))) (aq (me c (u.1,f,e,a.1,b,h.1,g.1,0,d)) λD=>ag (D.2 !=0) o (J (D.1,g.2)))))))))))
def rY:bz->Q jP:=λt=>J (1,t,0)
def Mb:ay->fS->Q jB:=λtags s=>aj [(4,[98,114],2)] λu=>aj [(3,[98],1)] λf=>aj (rY [83,97,118,101,46]) λc=>aj (rY [79,112,101,110,32]) λd=>aq c λo=>aj (J [o]) λg=>aq (rY [114,101,100,32,99,97,114,32,50,50,33]) λp=>aj (J [p]) λh=>aq d λq=>aq (rY [32,110,111,119,46]) λr=>aj (J [q,(5,[110],0),r]) λi=>aq (rY [97,32,82,101,100,32,99,97,114,46]) λt=>aj (J [t]) λj=>aq c λv=>aj (J [v]) λk=>aq (rY [120]) λw=>aj (J [w]) λl=>aq c λx=>aj (J ((2,[98],1)::x::f)) λe=>aq d λy=>aq (rY [99,97,114,115]) λm=>aq (rY [46]) λn=>aj [g,h,i,j,k,l,e,J (y::(2,[98],1)::m::(3,[98],1)::n::u)] λu=>aj (ah u) λa=>aq (iP (ag (!tags) (bg (a-2)) a) s) λb=>au (decide (0<=b.1/\b.1<a)&&bX (0+b.1.toNat) (nat_lit 8)) (J (u.getD (0+b.1.toNat) O,b.2))
def Mc:fS->ez->Bt->Q9:=λs b a=>aJ (a.2.1>=0) (aq (Mb (bg (1+b.1)==1) (s.1,a.2.2)) λc=>aq (Fg (bg (1+b.1)) c.1) λd=>au ((!!decide (a.1=[])||c8 (a.1.length+bu))&&c8 ((ag (!decide (a.1=[])) (a.1++[32]) a.1).length+d.1.length)) (aH (ag (!decide (a.1=[])) (a.1++[32]) a.1++d.1,bg (a.2.1-1),c.2))) (aA (a.1,a.2.2))
def Me:fS->ez->Bt->Q9:=λs j a=>aj [60,112,62] λu=>aj [60,47,112,62,10] λh=>aj a.2.1 λc=>aj a.1.length λd=>aJ (c>0) (aq (iP 3 (s.1,a.2.2)) λl=>aW (Mc s j) ([],l) λb=>aj ([10,34]++b.1) λe=>aj b.1.length λf=>aj (bg (c-1),b.2) λg=>ag (bg (1+j.1)==1) (au (c8 (n3Z+f)&&(c8 ((u++b.1).length+nat_lit 5)&&c8 (d+(u++b.1++h).length))) (aH (a.1++(u++b.1++h),g))) (ag (bg (1+j.1)==2) (aq (yS c) λk=>aj ([107]++k++[61]) λu=>aj (u++b.1++[10]) λi=>au (c8 (bu+k.length)&&(c8 (([107]++k).length+bu)&&(c8 (u.length+f)&&(c8 ((u++b.1).length+bu)&&c8 (d+i.length))))) (aH (a.1++i,g))) (au (c8 (iO+f)&&(c8 (e.length+bu)&&c8 (d+(e++[34]).length))) (aH (a.1++(e++[34]),g))))) (aA (a.1,a.2.2))
def Mf:L->fS->Kx:=λn s=>aq (iP (3:L) s) λa=>if(decide ((0:L)<=a7.wrap (a7.wrap ((1:L)+a.fst)-(1:L))/\a7.wrap (a7.wrap ((1:L)+a.fst)-(1:L))<(3:L))&&bX ((0:U)+(a7.wrap (a7.wrap ((1:L)+a.fst)-(1:L))).toNat) (nat_lit 3))=W then aq (iP (a7.wrap (n+(1:L))) (s.fst,a.snd)) λd=>aq (bR (Me s a) ([[(60:ao),(104:ao),(116:ao),(109:ao),(108:ao),(62:ao)],[(35:ao),(32:ao),(99:ao),(10:ao)],[(116:ao),(101:ao),(120:ao),(116:ao)]].getD ((0:U)+(a7.wrap (a7.wrap ((1:L)+a.fst)-(1:L))).toNat) [],d)) λb=>aq (qx (a7.wrap ((1:L)+a.fst)) b.fst) λc=>if(c.snd.snd !=(0:L))=W then aq (qx (1:L) [(60:ao),(112:ao),(62:ao),(83:ao),(97:ao),(118:ao),(101:ao),(46:ao),(32:ao),(83:ao),(97:ao),(118:ao),(101:ao),(46:ao),(60:ao),(47:ao),(112:ao),(62:ao),(60:ao),(112:ao),(62:ao),(114:ao),(101:ao),(100:ao),(32:ao),(99:ao),(97:ao),(114:ao),(32:ao),(50:ao),(50:ao),(33:ao),(60:ao),(47:ao),(112:ao),(62:ao)]) λe=>J (e.fst,b.snd)else J (c.fst,b.snd)else O
def RL:fS->rM×ez->Q (rM×ez⊕rM×L):=λs a=>aJ (a.2.1>=0) (aq (Mf 3 (s.1,a.2.2)) λb=>au (decide (0+(al a.1).length=(al a.1).length)&&(decide ((al a.1).length+bu<=nat_lit 68719476736)&&a.1.isSome==a.1.isSome)) (aH (J (al a.1++[b.1]),bg (a.2.1-1),b.2))) (aA (a.1,a.2.2))
def Mg:fS->Q (rM×L):=λs=>aq (iP 3 s) λb=>aW (RL s) (O,b) λa=>au (a.1.isSome==a.1.isSome) (au (a.1.isSome==a.1.isSome) (J a))
def Gi:fS->L×vV->Q (L×vV⊕vV):=λs a=>aJ (a.1>0) (aq (B8 a.2.2 (s.1,a.2.1)) λb=>aH (bg (a.1-1),b.2,b.1)) (aA a.2)
def Ca:L->fS->yL:=λn s=>aq (Mg s) λa=>aq yO λb=>au (b.isSome==b.isSome) (aq (wm a.1 b) λc=>ag (c.2 !=0) (J ((O,O,1),a.2)) (aq (iP (ax n) (s.1,a.2)) λd=>aW (Gi s) (d.1,d.2,c.1) λe=>J (e.2,e.1)))
def zk:dv->Q eS:=λl=>aq (LZ l) λa=>aq (Ca 10 a) λb=>J b.1
def aby:eS->L->fS->yJ:=λp a b=>aj (aN p.2.1 b.2 (0,0,0,(0,0),0,O,[],0,I)) λu=>aj (ah (al p.2.1)) λd=>aj (al b.1).length λc=>aj (u.2.1==a&&u.2.2.2.2.1 !=3) λe=>aj b.1.isSome λf=>aJ (b.2<d) (au (decide (0<=b.2/\b.2<d)&&(!e||decide (0+c=c)&&(decide (c+bu<=nat_lit 68719476736)&&f==f))) (aH (ag e (J (al b.1++[u.1])) b.1,ax b.2))) (aA b.1)
def Gj:eS->L->rO:=λp a=>aq (wE p) λc=>ag (c !=0) (J O) (aW (aby p a) (O,0) λb=>au (b.isSome==b.isSome) (au (b.isSome==b.isSome) (J b)))
def apG:L->gD:=λn=>J (bg ((bg (n+16)).tdiv 8))
def apI:bz->ez->ta:=λsep a=>aJ (a.2<ah sep) (au (decide (0<=a.2)&&c9 a.2 sep) (aH (oW.wrap (oW.wrap (a.1*16777619)+oW.wrap (a6 (cy sep a.2 0))),ax a.2))) (aA a.1)
def apJ:pu->Q (pu⊕L):=λa=>aJ (a.2.2>0) (aH (ag (fM a7 a.2.2 1 !=0) (aaX oW (a.1*a.2.1)) a.1,aaX oW (a.2.1*a.2.1),a.2.2.fdiv 2)) (aA a.1)
def aca:bz->Q ez:=λsep=>aW (apI sep) (0,0) λa=>aW apJ (1,16777619,ah sep) λb=>J (a,b)
def apK:bz->bz->ez->ta:=λs sep a=>aJ (a.2<ah sep) (au (decide (0<=a.2)&&c9 a.2 s) (aH (oW.wrap (oW.wrap (a.1*16777619)+oW.wrap (a6 (cy s a.2 0))),ax a.2))) (aA a.1)
def apL:bz->bz->ez->ez->Q (ez⊕L⊕bY):=λs sep f a=>aj (aaX oW (aaX oW (aaX oW (a.1*16777619)+aaX oW (a6 (cy s a.2 0)))-aaX oW (f.2*aaX oW (a6 (cy s (bg (a.2-ah sep)) 0))))) λu=>aj (bg (ax a.2-ah sep)) λb=>aj (ax a.2) λc=>aj (bg (a.2-ah sep)) λd=>aj (ah s) λe=>aJ (a.2<e) (au (decide (0<=a.2)&&c9 a.2 s) (au (decide (0<=d)&&c9 d s) (au (!u==f.1||decide (0<=b/\b<=c/\c<=e)) (ag (u==f.1&&decide (bq b c s=sep)) (aA (.inl b)) (aH (u,c)))))) (aA (.inr ()))
def apM:bz->bz->gD:=λs sep=>aq (aca sep) λa=>aW (apK s sep) (0,0) λb=>au (!b==a.1||decide (0<=(0:L)/\0<=ah sep/\ah sep<=ah s)) (ag (b==a.1&&decide (bq 0 (ah sep) s=sep)) (J 0) (aW (apL s sep a) (b,ah sep) λc=>dh c (λd=>J d) λe=>J (-1:L)))
def tY:eS->L->ay->dO:=λp i a=>aj (aN p.2.1 i (0,0,0,(0,0),0,O,[],0,I)).2.2.2.2 λu=>cG i (al p.2.1) (ag (u.1==3) (J W) (ag a (ag (u.1 !=0) (aq (tx p i) λb=>aq (yZ b u.2.1) λc=>J c) (J I)) (J I)))
def Hk:eS->L->ay->dv->yN->lA×pv×L->Q (lA×pv×L⊕lA×pv):=λp b c k l a=>aj (aN p.2.1 a.2.2 (0,0,0,(0,0),0,O,[],0,I)).2 λu=>aj (al a.2.1) λf=>aj (aH (a.1,a.2.1,ax a.2.2)) λg=>aj (al a.1).length λd=>aj a.2.1.isSome λh=>aj f.length λe=>aj a.1.isSome λi=>bS a.2.2 (al p.2.1) (ag (u.1==b) (ag (u.2.1==aN k l.1 0) (aq (tY p a.2.2 c) λj=>au (!j||decide (0+d=d)&&(decide (d+bu<=nat_lit 68719476736)&&i==i)&&(decide (0+e=e)&&(decide (e+bu<=nat_lit 68719476736)&&h==h))) (aH (ag j (J (al a.1++[u.2.2.1])) a.1,ag j (J (f++[u.2.2.2.2.1])) a.2.1,ax a.2.2))) g) g) (aA (a.1,a.2.1))
def Cw:eS->L->ay->dv->yN->Q (yN⊕yN⊕gC):=λp a b e c=>bS c.1 (al e) (aW (Hk p a b e c) (O,O,0) λd=>ag (ah (al d.1)==0) (aH (ax c.1,c.2)) (au (d.1.isSome==d.1.isSome) (au (d.2.isSome==d.2.isSome) (aq (BU c.2 (aN e c.1 0) d.1 d.2) λf=>ag (f.2 !=0) (aA (.inl (f.2,0,O))) (aH (ax c.1,f.1)))))) (aA (.inr c.2))
def w9:eS->L->ay->Kx:=λp a b=>aq (wE p) λd=>ag (d !=0) (J ((0,O),d)) (ag (decide (a<0)||decide (a>=ah (al p.1))) (J ((0,O),6)) (cG a (al p.1) (aq (EP (aN p.1 a (0,O))) λe=>aW (Cw p a b e) (0,aN p.1 a (0,O)) λf=>dh f (λc=>au (aad c.2.2==aad c.2.2) (J (c.2,c.1))) λg=>J (g,0))))
def Hl:eS->L->pw:=λp a=>aq (w9 p a I) λb=>ag (b.2 !=0) (J ([],b.2)) (aq (wj b.1) λc=>J (c,0))
def U5:eS->L->pw:=λp a=>aq (w9 p a W) λb=>ag (b.2 !=0) (J ([],b.2)) (aq (wj b.1) λc=>J (c,0))
end Go.Fd

namespace Go.Fd
open Go Go.Vs Go.Ve
noncomputable section
def tE:eS->L->pw:=λp number=>aq (rV p number) λa=>ag a.2.1 (ag (a.1 !=0) (J ([],a.1)) (aq (wA number a.2.2) λb=>aq (tA b.1) λc=>J (c,b.2))) (au (a.1 !=0) (J ([],a.1)))
end
noncomputable section
def anE:L->Bs->nB×pu->dv->nB×ez->abg:=λm n q g a=>aj (aN n.2.2.2.1 a.2.2 (0,0,0,(0,0),0,O,[],0,I)) λu=>aj (decide (0+(al a.1).length=(al a.1).length)&&(decide ((al a.1).length+bu<=nat_lit 68719476736)&&a.1.isSome==a.1.isSome)) λh=>aj u.2.2.2.1 λb=>aj (bg (a.2.1+aN g b.1 0)) λc=>aj (aA a) λi=>aj (decide (0<=b.1/\b.1<ah (al g))) λj=>aj (bg (aN g b.2 0-aN g b.1 0)) λk=>aj (al a.1) λl=>aj (ah (al g)) λo=>aj u.2.1 λf=>aj (ax a.2.2) λd=>aj u.2.2 λe=>bS a.2.2 (al n.2.2.2.1) (ag (decide (f>m)||f==m&&decide (e.1>q.2.2.2)) i (aJ (f<m) (aH (a.1,a.2.1,d)) (au (j&&(decide (0<=b.2/\b.2<o)&&j)) (ag (e.2.2.1==3) (aq (abw (aN n.2.2.1 m (0,O)).1 e.2.2.2.1) λp=>au h (aH (J (l++[(u.1,c,bg (c+ah p))]),bg (a.2.1+bg (bg (bg (c+ah p)-c)-k)),d))) (au h (aH (J (l++[(u.1,c,bg (c+k))]),a.2.1,d))))))) i
def anF:L->Bs->nB×pu->nB×ez->abg:=λc d e a=>aj (aN d.2.2.2.1 a.2.2 (0,0,0,(0,0),0,O,[],0,I)).2 λu=>aj (aA a) λb=>bS a.2.2 (al d.2.2.2.1) (ag (decide (u.1>c)||u.1==c&&decide (u.2.1>e.2.2.2)) b (cw (u.1<c) (aH (a.1,a.2.1,ax a.2.2)))) b
def anG:L->Bs->nB×pu->Q (nB×pu⊕nB):=λe f b=>aj (aN f.2.2.1 e (0,O)) λu=>aj (aN u.2 b.2.2.2 (I,[],[])) λa=>aj (b.1,b.2.1,b.2.2.1) λd=>aj b.2.2.2 λc=>bS c (al u.2) (ag a.1 (aq (abv u.1 a.2.2) λi=>aW (anE e f b i) d λg=>aH (g.1,bg (g.2.1+ah a.2.2),g.2.2,ax c)) (aW (anF e f b) d λh=>aH (h.1,bg (h.2.1+ah a.2.2),h.2.2,ax c))) (aA b.1)
def LY:eS->L->Q (nB×L):=λe c=>aq (rV e c) λa=>ag a.2.1 (ag (a.1 !=0) (J (O,a.1)) (aq (wA c a.2.2) λd=>ag (d.2 !=0) (J (O,d.2)) (cG c (al a.2.2.1) (aW (anG c a) (O,0,0,0) λb=>au (b.isSome==b.isSome) (au (b.isSome==b.isSome) (J (b,0))))))) (au (a.1 !=0) (J (O,a.1)))
end
noncomputable section
def wC:dO:=aq (qx 3 [116,101,120,116,10,34,79,110,101,46,32,84,119,111,46,34]) λi=>aq yO λb=>au (b.isSome==b.isSome) (aq (wm (J [i.1]) b) λj=>aq (rQ j.1 (1,0,0,(0,0),3,J [(1,[85,34,110,46],0)],[97,110,110],0,I)) λe=>aq (rQ e.1 (2,0,0,(0,0),2,J [(1,[68,101,117,120,46],0)],[97,110,110],0,I)) λa=>aq (tE a.1 0) λf=>aq (LX a.1 0) λg=>aq (LY a.1 0) λh=>ag (e.2==0) (ag (a.2==0) (ag (f.2==0) (ag (g.2==0) (ag (h.2==0) (aJ (f.1=[116,101,120,116,10,34,85,34,34,110,46,32,84,119,111,46,34]) (aJ (g.1=[116,101,120,116,10,34,85,34,34,110,46,32,68,101,117,120,46,34]) (aq (abr h.1 (J [(1,6,11),(2,12,16)])) λk=>ag k (aq (wB a.1 0) λc=>aq (tz c (J [2])) λd=>J d) (J I)) (J I)) (J I)) (J I)) (J I)) (J I)) (J I)) (J I))
end
noncomputable section
def Mh:L->eS->L->jA:=λa d b=>aj [a,0,1,2] λu=>aj (u.getD (0+b.toNat) 0) λc=>aj (ah u) λu=>aJ (b<u) (au (decide (0<=b/\b<u)&&bX (0+b.toNat) (nat_lit 4)) (aq (wB d c) λe=>aq (Gj d c) λf=>aq (tz e f) λg=>ag (!g) (aA (.inl I)) (aH (ax b)))) (aA (.inr ()))
def Gk:eS->L->ez->ta:=λb c a=>bS a.2 (al b.2.1) (aH (ag ((aN b.2.1 a.2 (0,0,0,(0,0),0,O,[],0,I)).2.1==c) (ax a.1) a.1,ax a.2)) (aA a.1)
def Gl:eS->L->jA:=λb a=>aJ (a<ah (al b.1)) (aW (Gk b a) (0,0) λd=>aq (tE b a) λc=>aq (wB b a) λe=>ag (ah (al e)==d) (ag (c.2 !=0) (aA (.inl I)) (cG a (al b.1) (aq (wj (aN b.1 a (0,O))) λf=>ag (!decide (c.1=f)) (aA (.inl I)) (aH (ax a))))) (aH (ax a))) (aA (.inr ()))
def Gm:dv->L->dO:=λl a=>aq (Gg (J [l])) λd=>ag d (aq wC λe=>J e) (aq (zk l) λc=>aW (Mh a c) 0 λf=>dh f (λg=>J g) λj=>aW (Gl c) 0 λh=>dh h (λi=>J i) λk=>aq wC λb=>J b)
end
noncomputable section
def Nw:L->eS->L->jA:=λa d b=>aj [a,(-1:L),0,1,2,3] λu=>aj (u.getD (0+b.toNat) 0) λc=>aj (ah u) λu=>aJ (b<u) (au (decide (0<=b/\b<u)&&bX (0+b.toNat) (nat_lit 6)) (aq (tE d c) λe=>aq (Hl d c) λf=>ag (e.2 !=f.2|| !decide (e.1=f.1)) (aA (.inl I)) (aH (ax b)))) (aA (.inr ()))
def agn:dv->L->dO:=λl a=>aq (Gg (J [l])) λc=>ag c (aq wC λd=>J d) (aq (zk l) λb=>aW (Nw a b) 0 λe=>dh e (λf=>J f) λi=>aq (tE (b.1,O,0) 0) λg=>ag (g.2==1) (aq wC λh=>J h) (J I))
end
end Go.Fd
namespace Go.PL
open Go Go.Vs Go.Ve
def fX{ρ:Type}(e:U->Q ρ):U->U->Q ρ
 |_,0=>O|i,k+1=>match e i with|some r=>J r|none=>fX e (i+1) k
theorem wK{ρ:Type}{e:U->Q ρ}:∀(k i:U),fX e i k=O↔ ∀j,i<=j->j<i+k->e j=O
 |0,i=>by grind [fX]|k+1,i=>by
  unfold fX;constructor;intro h j h1 h2;cases a:e i with
  |some r=>rw[a]at h;cases h
  |none=>
   rw[a]at h;rcases Nat.eq_or_lt_of_le h1 with rfl|h3
   exact a;exact(wK k (i+1)).1 h j h3 (by omega)
  intro h;rw[h i (eJ _) (by omega)];exact(wK k (i+1)).2 λj h1 h2=>h j (by omega) (by omega)
theorem tN{ρ:Type}{e:U->Q ρ}{r:ρ}:∀{k i:U},fX e i k=J r->∃j,i<=j/\j<i+k/\e j=J r
 |0,i,h=>by simp[fX]at h|k+1,i,h=>by
  unfold fX at h;cases a:e i with|some x=>grind|none=>rw[a]at h;let⟨j,h1,h2,h3⟩:=tN h;grind
def MN{ρ:Type}:Q ρ->ρ⊕bY|some r=>.inl r|none=>.inr ()
def wL{ρ:Type}(i:U)(o:Q ρ):Q (L⊕ρ⊕bY):=match o with|none=>J (.inl ((i+1:U):L))|some r=>J (.inr (.inl r))
def ad1{ρ:Type}{f:L->Q (L⊕ρ⊕bY)}(n:U)(e:U->Q ρ) (step:∀i,i<n->f (i:L)=wL i (e i))(stop:f (n:L)=J (.inr (.inr ()))):∀(k i m:U),i+k=n->k<m->eC f m (i:L)=J (MN (fX e i k))
 |0,i,m,a,b=>by
  obtain⟨m,rfl⟩:∃q,m=q+1:=⟨m-1,by omega⟩;have:i=n:=by omega
  subst this;unfold eC;rw[stop];rfl
 |k+1,i,m,a,b=>by
  obtain⟨m,rfl⟩:∃q,m=q+1:=⟨m-1,by omega⟩;unfold eC fX;rw[step i (by omega)];cases e i with|some r=>rfl|none=>exact ad1 n e step stop k (i+1) m (by omega) (by omega)
def at6{ρ:Type}{f:L->Q (L⊕ρ⊕bY)}(n:U)(e:U->Q ρ)(i:U) (step:∀i,i<n->f (i:L)=wL i (e i))(stop:f (n:L)=J (.inr (.inr ())))(hi:i<=n)(a:n<fuel):bR f (i:L)=J (MN (fX e i (n-i))):=ad1 n e step stop (n-i) i fuel (by omega) (by omega)
def ad3{ρ:Type}{f:L->Q (L⊕ρ⊕bY)}(n:U)(e:U->Q ρ) (step:∀i,i<n->f (i:L)=wL i (e i))(stop:f (n:L)=J (.inr (.inr ())))(a:n<fuel):bR f 0=J (MN (fX e 0 n)):=at6 n e 0 step stop (fZ _) a
theorem ad4{ρ α:Type}(o:Q ρ)(k:ρ->Q α)(d:Q α):dh (MN o) k (λ_=>d)=match o with|some r=>k r|none=>d:=by cases o<;>rfl
def ad5{σ ρ:Type}{f:σ->Q (σ⊕ρ)}(n:U)(st:U->σ){r:ρ}(step:∀i,i<n->f (st i)=J (.inl (st (i+1))))(stop:f (st n)=J (.inr r)):∀(k i m:U),i+k=n->k<m->eC f m (st i)=J r
 |0,i,m,a,b=>by obtain⟨m,rfl⟩:∃q,m=q+1:=⟨m-1,by omega⟩;simp_all [eC]
 |k+1,i,m,a,b=>by obtain⟨m,rfl⟩:∃q,m=q+1:=⟨m-1,by omega⟩;unfold eC;rw[step i (by omega)];exact ad5 n st step stop k (i+1) m (by omega) (by omega)
def eZ{σ ρ:Type}{f:σ->Q (σ⊕ρ)}(n:U)(st:U->σ){r:ρ}(step:∀i,i<n->f (st i)=J (.inl (st (i+1))))(stop:f (st n)=J (.inr r))(a:n<fuel):bR f (st 0)=J r:=ad5 n st step stop n 0 fuel (by omega) (by omega)
def aY{α:Type}(l:M α):Q (M α):=match l with|[]=>O|x::r=>J (x::r)
@[simp] theorem ch{α:Type}(l:M α):X (aY l) []=l:=by cases l<;>rfl
theorem MO{α:Type}(l:M α)(x:α):J (X (aY l) []++[x])=aY (l++[x]):=by cases l<;>rfl
def at7(b:ao):0<=a6 b:=Int.natCast_nonneg _
def at8(b:ao):a6 b<256:=by unfold a6;have:=b.toNat_lt;omega
def zw{s:M ao}{k:U}(h:k<Y s):(decide (0<=(k:L))&&bX (G ((k:L))) (Y s))=W:=by grind [c7]
theorem lF{s:M ao}{k:U}(h:k<Y s){d:ao}:H s (G ((k:L))) d=s[k]:=by grind
end Go.PL
namespace Go.Fd
open Go Go.Vs Go.Ve Go.PL
def wM{α ρ:Type}{f:L->Q (L⊕ρ⊕bY)}(s:M α)(ok:α->ay)(r:ρ)(a:U) (step:∀i(h:i<s.length),a<=i->f (i:L)=if ok s[i]then J (.inl ((i+1:U):L))else J (.inr (.inl r)))(stop:f (s.length:L)=J (.inr (.inr ()))):∀(k i m:U),i+k=s.length->k<m->a<=i->eC f m (i:L)=J (if(s.drop i).all ok then .inr ()else .inl r)
 |0,i,m+1,b,_,_=>by simp_all [eC]|k+1,i,m+1,b,d,c=>by
  have h:i<s.length:=by omega
  rw[xn h,List.all_cons];unfold eC;rw[step i h c];cases hk:ok s[i];rfl;exact wM s ok r a step stop k (i+1) m (by omega) (by omega) (by omega)
def at9{σ ρ:Type}(f:σ->Q (σ⊕ρ))(x:σ):bR f x=match f x with|some (.inl y)=>eC f (fuel-1) y|some (.inr z)=>J z|none=>O:=by
 rfl
def pF(b:ao):ay:=decide (97<=a6 b)&&decide (a6 b<=122)
def zx(b:ao):ay:=pF b||(decide (48<=a6 b)&&decide (a6 b<=57))||a6 b==45
def iw(s:M ao):ay:=decide (Y s<=24)&&match s with|[]=>I|b::r=>pF b&&r.all zx
theorem cC{n:U}(h:n<=1152921504606846976):n+1<fuel:=kM (Nat.add_le_add_right h 1) (by decide)
theorem wN(s:M ao):pB s=J (iw s):=by
 unfold pB iw aW au ag;by_cases c:Y s<=24;cases s with
 |nil=>simp|cons b r=>
  have d:bX 0 (Y (b::r))=W:=by simp[c7]
  have g:=cC (n:=Y (b::r)) (by omega);have e:bR (K1 (b::r)) 1=_:=wM (b::r) zx I 1 (λi h _=>by unfold K1 au aJ ag cy ax aH aA c9;dsimp-proj only[aj];rw[dX h,aF (zw h),lF h,eY (by omega)];grind [zx,pF]) (by unfold K1 au aJ ag cy ax aH aA c9;dsimp-proj only[aj];rw[gm]) (Y r) 1 fuel (by simp;omega) (by grind) (by omega);have f:(pF b=W->¬a6 b<97/\¬a6 b>122)/\(pF b=I->a6 b<97\/a6 b>122):=by unfold pF;simp;omega
  simp only[pV,d];cases a:pF b;grind;have:=f.1 a;rw[aF (by simp),aU (by have:=c;simp at this ⊢;omega),e,iV c,show List.drop 1 (b::r)=r from rfl];cases r.all zx<;>rfl
 grind [ah]
theorem Cj(s:List UInt8):mc s=some (iw s):=by
 unfold mc iw aW ag
 by_cases hl:Y s<=24
 ·cases s with
  |nil=>simp
  |cons b r=>
   have hF:=cC (n:=Y (b::r)) (by omega)
   have hL:=wM (f:=yR (b::r)) (b::r) zx false 1 (fun i h hi=>by
    unfold yR au aJ ag cy ax aH aA c9;dsimp-proj only[aj]
    rw[dX h,if_pos (zw h),lF h,eY (by omega)]
    grind [zx,pF]) (by unfold yR au aJ ag cy ax aH aA c9;dsimp-proj only[aj];rw[gm]) (Y r) 1 (fuel-1) (by simp;omega) (by grind) (by omega)
   have hb:yR (b::r) 0=if pF b then some (.inl 1)else some (.inr (.inl false)):=by
    unfold yR pF au aJ ag cy ax aH aA c9;dsimp-proj only[aj]
    have w1:aaX IntKind.i64 (0+1)=1:=rfl
    simp only[Int.toNat_zero,List.getD_cons_zero,w1]
    generalize a6 b=x
    by_cases h1:97<=x<;>by_cases h2:x<=122<;>simp[*,c7]
   rw[if_neg (by have:=hl;simp at this ⊢;omega),at9,hb]
   cases hlo:pF b
   ·simp[hlo]
   ·rw[decide_eq_true hl]
    show aq (eC (yR (b::r)) (fuel-1) ((1:Nat):Int)) _=_
    rw[hL,show List.drop 1 (b::r)=r from rfl]
    simp only[hlo]
    cases r.all zx<;>rfl
 grind [ah]
abbrev aK:=L×M ao×L
def iD(out:M aK)(x:aK):M aK:=if x.1 !=1 then out++[x]else if x.2.1=[]then out else
 match out.getLast? with|some y=>if y.1==1 then out.dropLast++[(1,y.2.1++x.2.1,0)]else out++[(1,x.2.1,0)]|none=>out++[(1,x.2.1,0)]
def df(f:M aK):M aK:=f.foldl iD []
def bf(f:M aK):U:=(f.map λx=>Y x.2.1+1).sum
theorem iE(a b:M aK):bf (a++b)=bf a+bf b:=by simp[bf]
theorem eP(f:M aK):Y f<=bf f:=by
 induction f with|nil=>simp[bf]|cons a r b=>grind [bf]
def ad6{α:Type}{l:M α}{y:α}(h:l.getLast?=J y):l=l.dropLast++[y]:=by grind [agT]
theorem ad7(out:M aK)(x:aK):bf (iD out x)<=bf out+(Y x.2.1+1):=by
 have h1:∀y:aK,bf [y]=Y y.2.1+1:=λy=>by simp[bf]
 unfold iD;split;rw[iE,h1];omega;split;omega;split;rename_i y hy;split;rw[ad6 hy,iE,iE,List.dropLast_concat,h1,h1];simp;omega;grind [iE];simp_all
def aua{f:M aK}{out:M aK}{i:U}(h:i<Y f)(hB:bf out+bf f<=1073741824)(o:Q (M aK))(g:X o []=f):BF o (aY out,(i:L))=J (.inl (aY (iD out f[i]),((i+1:U):L))):=by
 have e:=eP out;have j:=eP f;have l:Y f[i].2.1+1<=bf f:=by
  have:bf f=bf (f.take i)+bf (f[i]::f.drop (i+1)):=by rw[<-iE,<-xn h,mZ]
  grind [bf]
 unfold BF iD aN au aJ ag al ax bg aH aA c8 bu;dsimp-proj only[aj];simp only[g,ch];rw[dX h,cS h,bV (n:=(i:L)+1) (by omega) (by omega)];generalize f[i]=x at *;have c:0<=(i:L)/\(i:L)<ah f:=⟨by omega,by simp;omega⟩;have c:decide (0<=(i:L)/\(i:L)<ah f)=W:=iV c;by_cases hk:x.1=1;by_cases d:x.2.1=[];simp[h,hk,d];cases a:out.getLast? with
 |none=>simp_all [aY]|some y=>
  obtain⟨q,rfl⟩:=agT.1 a;have w:aaX a7 (ah (q++[y])-1)=(Y q:L):=by simp at e ⊢;grind [bV]
  have hy:Y y.2.1+1<=bf (q++[y]):=by rw[iE];simp[bf]
  have hd:H (q++[y]) (Y q) (0,[],0)=y:=by simp
  have k:∀z:aK,(q++[y]).set (Y q) z=q++[z]:=λz=>by simp
  simp only[w,sj,fB,hd,k];by_cases b:y.1=1;simp[c,hk,d,b,c7,aY];grind;simp[c,hk,d,b,c7];refine⟨by simp at e;omega,?_⟩;cases q<;>rfl
 simp[h,hk];refine⟨by omega,?_⟩;cases out<;>rfl
theorem ad8{o:Q (M aK)}(hB:bf (X o [])<=536870912):EK o=J (aY (df (X o []))):=by
 have key:∀(k i m:U)(out:M aK),i+k=Y (X o [])->k<m->bf out+bf ((X o []).drop i)<=536870912->eC (BF o) m (aY out,(i:L))=J (aY (((X o []).drop i).foldl iD out)):=by
  intro k;induction k with
  |zero=>intro i m out b c a;obtain⟨m,rfl⟩:∃q,m=q+1:=⟨m-1,by omega⟩;simp_all [eC,BF,aj,aN,au,aJ,ag,al,ax,bg,aH,aA,c8,bu]
  |succ k d=>intro i m out b c a;obtain⟨m,rfl⟩:∃q,m=q+1:=⟨m-1,by omega⟩;have h:i<Y (X o []):=(by omega);unfold eC;rw[aua h (by omega) o rfl];rw[xn h]at a ⊢;refine d (i+1) m _ (by omega) (by omega) ?_;grind [ad7,bf]
 have e:=eP (X o []);unfold EK aW au;have:=key (Y (X o [])) 0 fuel [] (by omega) (cM (cC (by omega))) (by simpa[bf]using hB);rw[show bR (BF o) (O,0)=_ from this];simp[df]
theorem lG{a b:Q (M aK)}(hB:bf (X a [])+bf (X b [])<=536870912):lD a b=J (aY (df (X a []++X b []))):=by
 have d:=eP (X a []);have c:=eP (X b []);have h1:X (dW (X a [])) []=X a []:=by cases X a []<;>rfl
 have h2:X (jN (dW (X a [])) (X b [])) []=X a []++X b []:=by cases X a []<;>cases X b []<;>simp[jN,dW]
 unfold lD cw au al;rw[ad8 (by rw[h2,iE];exact hB),h2,h1];simp;omega
theorem iQ{α:Type}(l:M α)(k:U):bq (k:L) (ah l) l=l.drop k:=by unfold bq;simp
theorem gP{α:Type}(l:M α)(a b:U):bq (a:L) (b:L) l=(l.take b).drop a:=by unfold bq;simp
def jQ(s:M ao):aK×U:=match fm s 125 with|.ofNat k=>if iw ((s.take k).drop 1)=W then((5,(s.take k).drop 1,0),k+1)else((0,[],0),0)|_=>((0,[],0),0)
theorem kX(s:M ao)(c:ao):(fm s c= -1/\∀k:U,s[k]?≠J c)\/∃k:U,fm s c=(k:L)/\s[k]?=J c/\k<Y s/\∀j:U,j<k->s[j]?≠J c:=by
 have a:=Lib.indexByte_ge s c;rcases Int.lt_or_le (fm s c) 0 with h|h
 grind [Lib.indexByte_none];grind [pU,Lib.indexByte_some]
theorem wO{a b:ao}(h:a6 a=a6 b):a=b:=by grind [a6,UInt8.toNat_inj]
def Ud{s:M ao}(o:s[0]?≠J 125)(v:0<Y s)(w:Y s<=1073741824):BH s=J ((jQ s).1,((jQ s).2:L)):=by
 have run:∀(m:U)(r:L×L×M ao×L⊕bY),1<=m->m<=Y s->m<=26->(∀j,1<=j->j<m->s[j]?≠J 125)->wb s (m:L)=J (.inr r)->bR (wb s) 1=J r:=by
  intro m r h1 h2 h3 p x;refine eZ (f:=wb s) (m-1) (λi=>((i+1:U):L)) (λi y=>?_) (by grind) (cM (cC (by omega)));have c:i+1<Y s:=by omega
  have d:=p (i+1) (by omega) (by omega);rw[eD c]at d;have l:(a6 s[i+1]==125)=I:=by rw[beq_eq_false_iff_ne];intro e;exact d (cb J (wO (b:=125) e))
  unfold wb cw au ag cy ax aH aA c9;rw[aF (by simp;omega),aF (zw c),lF c,l,eY (by omega)];rfl
 unfold BH jQ aW;rcases kX s 125 with⟨e,g⟩|⟨k,e,hk,a,g⟩
 rw[run (min (Y s) 26) (.inr ()) (by omega) (by omega) (by omega) (λj _ _=>g j) (by unfold wb cw au ag cy ax aH aA c9;rw[aU (by simp;omega)]),e];rfl;have q:k≠0:=λh=>by subst h;exact o hk
 rw[e];rcases je k 26 with n|n
 have l:(a6 s[k]==125)=W:=by rw[eD a]at hk;rw[uq hk];rfl
 have t:bq 1 (k:L) s=(s.take k).drop 1:=gP s 1 k;rw[run k (if iw ((s.take k).drop 1)=W then .inl ((k:L)+1,5,(s.take k).drop 1,0)else .inr ()) (by omega) (by omega) (by omega) (λj _ c=>g j c) (by unfold wb cw au ag cy ax aH aA c9;rw[aF (by simp;omega),aF (zw a),lF a,l,aF rfl,aF (by simp;omega),t,Cj,eY (by omega)];cases iw ((s.take k).drop 1);rfl;simp;omega)];simp only[Int.ofNat_eq_natCast,aB];cases iw ((s.take k).drop 1);rfl;simp;have u:iw ((s.take k).drop 1)=I:=by unfold iw;grind
 rw[run 26 (.inr ()) (by omega) (by omega) (by omega) (λj _ c=>g j (by omega)) (by grind [wb])];simp_all
def lH:M ao->aK×U
 |[]=>((0,[],0),0)|c::r=>if c=34 then(if r.head?=J 34 then((1,[34],0),2)else((0,[],0),0))
  else if c=123 then(if r.head?=J 123 then((1,[123],0),2)else jQ (c::r))else((1,[c],0),1)
def tO(s t:M ao):nD s t=J (abV t s):=by grind [ah,bq,List.prefix_iff_eq_take,nD]
def GL(s t:M ao):pC s t=J (abV t s):=by have:=tO s t;unfold nD au at this;unfold pC Rl au;rw[this];rfl
theorem zy{c b:ao}(h:c≠b):(a6 c==a6 b)=I:=by grind [wO]
def Ue(c:ao):nj [a6 c]=[c]:=by simp[nj,a6]
def ad9{s:M ao}(g:s≠[])(h:Y s<=1073741824):KG s=J ((lH s).1,((lH s).2:L)):=by
 cases s with
 |nil=>exact cJ rfl g|cons c r=>
  unfold KG lH au ag fA;rw[aF (by simp[c7])];simp only[pV,tO];by_cases h1:c=34;subst h1;cases r with|nil=>rfl|cons d r=>by_cases hd:d=34;subst hd;simp[a6,oC,nj,qU];have a:¬(34:ao)=d:=λe=>hd e.symm;simp[a6,qU,hd,a]
  rw[show(a6 c==34)=I from zy (b:=34) h1,aU (by simp),aU h1];by_cases h2:c=123;subst h2;have f:=Ud (s:=123::r) (by simp) (by simp) h;cases r with|nil=>simp[a6,qU,f]|cons d r=>by_cases hd:d=123;subst hd;simp[a6,oC,nj,qU];have a:¬(123:ao)=d:=λe=>hd e.symm;simp[a6,qU,hd,a,f]
  rw[show(a6 c==123)=I from zy (b:=123) h2,aU (by simp),aU h2,aF (by simp[c7])];have:=Ue c;unfold a6 at this;simp[oC,this]
def aea{σ c ρ e:Type}{f:σ->Q (σ⊕ρ)}{g:c->Q (c⊕e)}(R:σ->c->Prop)(S:ρ->e->Prop)(m:σ->U) (step:∀x y,R x y->(∃b d,f x=J (.inl b)/\g y=J (.inl d)/\R b d/\m b<m x)\/∃r a,f x=J (.inr r)/\g y=J (.inr a)/\S r a):∀(n:U)(x:σ)(y:c),R x y->m x<n->∃r a,eC f n x=J r/\eC g n y=J a/\S r a
 |n+1,x,y,h,o=>by
  unfold eC;rcases step x y h with⟨b,d,i,j,k,l⟩|⟨r,a,i,j,k⟩
  rw[i,j];exact aea R S m step n b d k (by omega);grind
def qE{σ a ρ c:Type}{f:σ->Q (σ⊕ρ)}{g:a->Q (a⊕c)}(R:σ->a->Prop)(S:ρ->c->Prop)(m:σ->U) (step:∀x y,R x y->(∃b d,f x=J (.inl b)/\g y=J (.inl d)/\R b d/\m b<m x)\/∃r r',f x=J (.inr r)/\g y=J (.inr r')/\S r r') {x:σ}{y:a}(h:R x y)(hm:m x<fuel):∃r r',bR f x=J r/\bR g y=J r'/\S r r':=aea R S m step fuel x y h hm
def dA(items:M aK)(text:M ao):M aK:=if text=[]then items else items++[(1,text,0)]
def qF(items:M aK):Prop:=df items=items/\∀y,items.getLast?=J y->y.1≠1
def qG(f:M aK)(x:aK):df (f++[x])=iD (df f) x:=by unfold df;grind
theorem aeb{items:M aK}(h:qF items){t:M ao}(a:t≠[]):iD items (1,t,0)=items++[(1,t,0)]:=by unfold iD;rw[aU (by simp),aU a];split;rename_i y hy;rw[aU (by simpa using h.2 y hy)];rfl
def tQ{items:M aK}(h:qF items)(text:M ao):df (dA items text)=dA items text:=by unfold dA;split;exact h.1;rename_i a;rw[qG,h.1,aeb h a]
def GN{items:M aK}(h:qF items)(text:M ao){x:aK}(hx:x.1≠1):iD (dA items text) x=dA items text++[x]/\qF (dA items text++[x]):=by
 have e:iD (dA items text) x=dA items text++[x]:=by simp_all [iD]
 refine⟨e,by rw[qG,tQ h,e],λy hy=>?_⟩;grind
def Uf{items:M aK}(h:qF items)(text:M ao)(b:ao):iD (dA items text) (1,[b],0)=dA items (text++[b]):=by unfold dA;rw[aU (show ¬text++[b]=[] by simp)];grind [aeb,iD]
def wP(items:M aK)(text:M ao):bf (dA items text)<=bf items+(Y text+1):=by grind [dA,bf]
def MP(items:M aK)(text:M ao):Y (dA items text)=Y items+if text=[]then 0 else 1:=by unfold dA;split<;>simp
theorem jD{α:Type}(l:M α)(x:α):J (l++[x])=aY (l++[x]):=by cases l<;>rfl
def MQ(text:M ao):Y (fL text)=Y text:=by simp[fL]
def ofBytes(text:M ao):nj (fL text)=text:=by
 induction text with|nil=>rfl|cons b r a=>simp[fL,nj,a6]at a ⊢;exact a
theorem aec{items:M aK}{text:M ao}{tb:Q (M L)}{cs:M L}(a:X tb []=fL text)(hi:Y items<=1073741824)(e:Y cs<=1073741824)(t:ay):qz t (aY items,tb,aY cs)=J (decide ((if t=W then Y items+1 else(Y (dA items text))+1)>512\/Y cs>=1024)):=by
 have b:aaX a7 ((Y items:L)+1)=(Y items:L)+1:=eY (by omega);have f:aaX a7 ((Y items:L)+1+1)=(Y items:L)+1+1:=eY (by omega);have d:aaX a7 ((Y cs:L)+1)=(Y cs:L)+1:=eY (by omega);unfold qz aJ ag al ax;rw[MP];simp only[ch,a,ef,MQ,d,nP];rw[z8];cases text with
 |nil=>cases t<;>simp[b]<;>omega
 |cons c r=>grind
theorem GQ{items:M aK}{text:M ao}{tb:Q (M L)}{cs:Q (M L)}(a:X tb []=fL text)(hi:Y items<=1073741824):qy (aY items,tb,cs)=J (aY (dA items text),if text=[]then tb else O,cs):=by
 unfold qy dA au aJ al bu;simp only[ch,a,ofBytes,ef,MQ];cases text with|nil=>simp|cons c r=>grind [jD]
def Ug{items:M aK}{text:M ao}{tb:Q (M L)}{cs:M L}(a:X tb []=fL text)(hi:Y items<=1073741824)(hx:Y text<=1073741824)(c:Y cs<=1073741824)(b:ao)(off:L):rT (a6 b) off (aY items,tb,aY cs)=J (if Y items+1>512\/Y cs>=1024 then(I,aY items,tb,aY cs)else(W,aY items,J (fL (text++[b])),aY (cs++[off]))):=by grind [fL,rT,aec,ch,aB,jD]
def GR{items:M aK}{text:M ao}{tb:Q (M L)}{cs:M L}(b:X tb []=fL text)(hi:Y items<=1073741824)(c:Y cs<=1073741824)(x:aK)(off:L):∃a,X a []=[]/\tC x off (aY items,tb,aY cs)=J (if(Y (dA items text))+1>512\/Y cs>=1024 then(I,aY items,tb,aY cs)else(W,aY (dA items text++[x]),a,aY (cs++[off]))):=by refine⟨if text=[]then tb else O,by split<;>simp_all [fL],?_⟩;grind [tC,aec,GQ,ch,aB,jD]
def aed{items:M aK}{text:M ao}{tb:Q (M L)}{cs:Q (M L)}(a:X tb []=fL text)(hi:Y items<=1073741824):∃b,Lh (aY items,tb,cs)=J (aY (dA items text),b):=by unfold Lh au;rw[GQ a hi];simp_all
abbrev Uh:=Q (M aK)×Q (M L)×Q (M L)
def Ui(s:M ao):oD s 125=J (fm s 125):=rfl
def aub{raw:M ao}{k:U}(hk:k<Y raw)(N:Y raw<=1073741824)(B:Uh):((lH (raw.drop k)).2=0/\B2 raw (k:L) B=J ((k:L),2,B))\/(∃b n,1<=n/\k+n<=Y raw/\lH (raw.drop k)=((1,[b],0),n)/\B2 raw (k:L) B=aq (rT (a6 b) (k:L) B) λr=>if(!r.fst)=W then J ((k:L),3,r.snd)else J (((k+n:U):L),0,r.snd))\/(∃nm n,Y nm+2=n/\k+n<=Y raw/\lH (raw.drop k)=((5,nm,0),n)/\B2 raw (k:L) B=aq (tC (5,nm,0) (k:L) B) λr=>if(!r.fst)=W then J ((k:L),3,r.snd)else J (((k+n:U):L),0,r.snd)):=by
 have a:Y (raw.drop k)=Y raw-k:=by simp
 have o:aaX a7 ((k:L)+2)=((k+2:U):L):=by grind [bV]
 have p:=di (i:=k) (by omega);unfold B2 cw au aJ ag ax bg;dsimp-proj only[aj];rw[aF (by simp;omega),iQ,GL,GL,Ui,p,o];cases s:raw.drop k with
 |nil=>grind|cons c r=>
  rw[s]at a;simp only[kL]at a;have t:bX 0 (Y (c::r))=W:=by simp[c7]
  simp only[t,pV,uz,aB,bH];by_cases h1:c=34;subst h1;cases r with|nil=>left;simp[lH,qU,a6]|cons d r=>grind [lH,a6]
  have u:¬(34:ao)=c:=λe=>h1 e.symm;have v:(a6 c==34)=I:=zy (b:=34) h1;by_cases h2:c=123;subst h2;by_cases l:r.head?=J 123
  obtain⟨q,rfl⟩:∃q,r=123::q:=by cases r with|nil=>simp at l|cons x q=>grind
  grind [lH];have w:abV ([34,34]:M ao) (123::r)=I:=by simp[qU]
  have y:abV ([123,123]:M ao) (123::r)=I:=by cases r with|nil=>rfl|cons x q=>grind
  have m:(a6 123==123)=W:=rfl;have z:lH (123::r)=jQ (123::r):=by simp[lH,l]
  rw[w,y,v,m,z];simp only[bM,ca,bH];unfold jQ;rcases kX (123::r) 125 with⟨e,A⟩|⟨j,e,C,f,A⟩
  grind;have D:j≠0:=λh=>by subst h;simp at C
  simp only[kL]at f;have E:bq 1 (j:L) (123::r)=((123::r).take j).drop 1:=gP (123::r) 1 j;have F:Y (((123::r).take j).drop 1)=j-1:=by simp;omega
  have g:decide ((0:L)<=1/\1<=(j:L)/\(j:L)<=ah (123::r))=W:=by simp;omega
  have G:aaX a7 (aaX a7 ((k:L)+(j:L))+1)=((k+(j+1):U):L):=by grind [bV]
  rw[e,aU (by simp),g,E,wN,G];simp only[Int.ofNat_eq_natCast,aB,bH];cases H:iw (((123::r).take j).drop 1);grind;grind;right;left;have K:¬(123:ao)=c:=λe=>h2 e.symm;have m:(a6 c==123)=I:=zy (b:=123) h2;exact⟨c,1,by omega,by omega,by simp[lH,h1,h2],by grind⟩
def RD(raw:M ao)(x:L×Uh)(y:Q (M aK)×Q (M aK)×Q (M L)×L×L×L):Prop:=∃(k:U)(items:M aK)(text:M ao)(a:Q (M L))(cs:M L),k<=Y raw/\x=((k:L),aY items,a,aY cs)/\X a []=fL text/\y=(aY (dA items text),O,aY cs,(k:L),(k:L),0)/\qF items/\bf items+(Y text+1)<=2*k+1/\Y cs<=k
def SD(raw:M ao)(r:(bY×L×L)⊕Uh)(q:(Q (M aK)×Q (M L)×L×L)⊕(Q (M aK)×Q (M aK)×Q (M L)×L)):Prop:=(∃(k:U)(e:L),k<=Y raw/\e≠0/\r=.inl ((),(k:L),e)/\q=.inl (O,O,(k:L),e))\/∃(items:M aK)(text:M ao)(a:Q (M L))(cs:M L),r=.inr (aY items,a,aY cs)/\X a []=fL text/\q=.inr (aY (dA items text),O,aY cs,(Y raw:L))/\qF items/\bf items+(Y text+1)<=2*Y raw+1/\Y cs<=Y raw
def aee{raw:M ao}(P:Y raw<=67108864):∃r q,bR (Li raw) (0,O,O,O)=J r/\bR (pz 3 raw) (O,O,O,0,0,0)=J q/\SD raw r q:=by
 refine qE (RD raw) (SD raw) (λx=>Y raw-x.1.toNat) (λx y h=>?_) ⟨0,[],[],O,[],by omega,rfl,rfl,rfl,⟨rfl,by simp⟩,by simp[bf],by simp⟩ (cM (cC (by simp;omega)));obtain⟨k,items,text,A,cs,hk,rfl,o,rfl,d,e,p⟩:=h;rcases je k (Y raw) with s|B
 have C:raw.drop k≠[]:=by simp;omega
 have D:rP 3 (raw.drop k)=J ((lH (raw.drop k)).1,((lH (raw.drop k)).2:L)):=by unfold rP ag;rw[ad9 C (by simp;omega)];rfl
 have E:=eP items;have F:=wP items text;have G:=eP (dA items text);have c:∀x:aK,bf [x]=Y x.2.1+1:=λx=>by simp[bf]
 have c1:decide ((k:L)<ah raw)=W:=by simp;omega
 have H:decide (0<=(k:L)/\(k:L)<=ah raw/\ah raw<=ah raw)=W:=by simp;omega
 unfold Li pz cG cw au aJ ag al ax bg aH aA bu;dsimp-proj only[aj];simp only[c1,H,bH,iQ,D,aB];rcases aub s (by omega) (aY items,A,aY cs)with⟨f,g⟩|⟨b,n,K,t,f,g⟩|⟨m,n,K,t,f,g⟩
 right;rw[g,f];exact⟨_,_,rfl,rfl,.inl ⟨k,2,hk,by omega,rfl,rfl⟩⟩;rw[g,f,Ug o (by omega) (by omega) (by omega)];have u:(((n:L)==0)=I):=by grind
 have w:aaX a7 ((k:L)+(n:L))=((k+n:U):L):=by grind [bV]
 have i:=lG (a:=aY (dA items text)) (b:=J [(1,[b],0)]) (by simp[c];omega);rw[ch,fk,qG,tQ d,Uf d]at i;have j:Y (dA items (text++[b]))=Y items+1:=by rw[MP];simp
 simp only[u,w,i,ch,j,aB,ef];by_cases l:Y items+1>512\/Y cs>=1024;right;simp only[aF l];refine⟨_,_,rfl,?_,.inl ⟨k,3,hk,by omega,rfl,rfl⟩⟩;simp;omega;left;simp only[aU l];refine⟨_,_,rfl,?_,⟨k+n,items,text++[b],J (fL (text++[b])),cs++[(k:L)],by omega,rfl,rfl,rfl,d,by simp;omega,by simp;omega⟩,by simp;omega⟩;grind [jD];rw[g,f];let⟨v,z,N⟩:=GR (items:=items) o (by omega) (show Y cs<=1073741824 by omega) (5,m,0) (k:L);rw[N];have u:(((n:L)==0)=I):=by grind
 have w:aaX a7 ((k:L)+(n:L))=((k+n:U):L):=by grind [bV]
 have i:=lG (a:=aY (dA items text)) (b:=J [(5,m,0)]) (by simp[c];omega);let⟨f1,f2⟩:=GN d text (x:=(5,m,0)) (show(5:L)≠1 by decide);rw[ch,fk,qG,tQ d,f1]at i;simp only[u,w,i,ch,aB,ef,mo,kL,CI];by_cases l:Y (dA items text)+1>512\/Y cs>=1024;right;simp only[aF l];refine⟨_,_,rfl,?_,.inl ⟨k,3,hk,by omega,rfl,rfl⟩⟩;simp;omega;left;simp only[aU l];refine⟨_,_,rfl,?_,⟨k+n,dA items text++[(5,m,0)],[],v,cs++[(k:L)],by omega,rfl,z,rfl,f2,by grind [iE],by simp;omega⟩,by simp;omega⟩;grind [jD,dA];right;have:k=Y raw:=by omega
 subst this;have c1:decide (((Y raw:U):L)<ah raw)=I:=by simp
 unfold Li pz cG cw au aJ ag al ax bg aH aA bu;dsimp-proj only[aj];simp only[c1];exact⟨_,_,rfl,rfl,.inr ⟨items,text,A,cs,rfl,o,rfl,d,e,p⟩⟩
theorem aef{raw:M ao}(d:Y raw<=67108864):∃f a at' e,ja 3 raw=J (f,a,at',e)/\zb raw=J (f,at',e)/\0<=at'/\at'<=Y raw/\bf (X f [])<=2*Y raw+2:=by
 let⟨r,q,g,i,h⟩:=aee d;unfold ja zb FA aW au aJ ag al bu;rw[g,i];rcases h with⟨k,e,hk,j,rfl,rfl⟩|⟨items,text,s,cs,rfl,l,rfl,t,c,m⟩
 refine⟨O,O,k,e,rfl,?_,by omega,by omega,by simp[bf]⟩;simp[j];have n:=eP items;have o:=wP items text;let⟨b,p⟩:=aed (cs:=aY cs) l (by omega:items.length<=1073741824);refine⟨aY (dA items text),J (cs++[(Y raw:L)]),0,0,?_,?_,by omega,by omega,by rw[ch];omega⟩;simp;omega;simp[p]
def MR{s:M ao}{k:U}(h:k<Y s):(decide (0<=(k:L))&&bX (G ((k:L))) (Y s))=W:=by simp[c7,h]
def pG{c:ao}{z:L}{b:ao}(a:a6 b=z):(a6 c==z)=(c==b):=by grind [wO]
theorem nG(c:ao):(a6 c==34)=(c==34):=pG rfl
def b44(c:ao):(a6 c==44)=(c==44):=pG rfl
theorem r7(c:ao):(a6 c==10)=(c==10):=pG rfl
def auc(c:ao):oD [34,44,10] (a6 c)=J (if c=34 then 0 else if c=44 then 1 else if c=10 then 2 else-1):=by
 have h:(G (a6 c)).toUInt8=c:=by simp[a6]
 grind [oD,Fm,Fl,aB,fm]
def Uj(data:M ao)(e:U):Prop:=e=Y data\/data[e]?=J 44\/data[e]?=J 10
def aud{data:M ao}{k:U}(hk:k<=Y data)(F:Y data<=67108864):∃(e:U)(q ok:ay),KN data (k:L)=J ((e:L),q,ok)/\Lg data (k:L)=J ((e:L),q,ok)/\(ok=W->k<=e/\e<=Y data/\Uj data e/\(q=W->k+2<=e)):=by
 have G:Y data+1<fuel:=cC (by omega);have B:∀j:U,j<=Y data->∃r:U,bR (KK data) (j:L)=J (r:L)/\bR (Le data) (j:L)=J (r:L)/\j<=r/\r<=Y data:=by
  intro j u;have:=qE (f:=KK data) (g:=Le data) (λx y=>x=y/\∃s:U,x=(s:L)/\j<=s/\s<=Y data) (λr q=>r=q/\∃s:U,r=(s:L)/\j<=s/\s<=Y data) (λx=>Y data-x.toNat) (λx y h=>by
   obtain⟨rfl,s,rfl,h1,h2⟩:=h
   have o:=di (i:=s) (by omega)
   have t:aaX a7 ((s:L)+2)=((s+2:U):L):=by grind [bV]
   have H:aaX a7 (((s+1:U):L)+1)=((s+2:U):L):=by grind
   unfold KK Le au aJ ag cy ax bg aH aA c9
   rw[o,t]
   rcases je s (Y data) with c|c
   have c1:decide ((s:L)<ah data)=W:=by simp;omega
   rw[c1,MR c,lF c,nG]
   by_cases d:data[s]=34
   rcases je (s+1) (Y data) with l|l
   have m:decide (((s+1:U):L)<ah data)=W:=by simp;omega
   have g:=MR l
   rw[m,lF l,nG]
   simp only[d,g]
   by_cases n:data[s+1]=34
   left
   refine⟨_,_,?_,?_,⟨rfl,s+2,rfl,by omega,by omega⟩,by simp;omega⟩
   simp_all [c7]
   simp[n,bne,nG,d]
   right
   refine⟨_,_,?_,?_,⟨rfl,s,rfl,by omega,by omega⟩⟩
   simp[n,c7,c,l,bne,nG,d]
   simp[n,bne,nG,d]
   right
   have m:decide (((s+1:U):L)<ah data)=I:=by simp;omega
   rw[m]
   refine⟨_,_,?_,?_,⟨rfl,s,rfl,by omega,by omega⟩⟩
   simp[c7,c,bne,nG,d]
   simp[bne,nG,d]
   left
   refine⟨_,_,?_,?_,⟨rfl,s+1,rfl,by omega,by omega⟩,by simp;omega⟩
   simp_all [c7,bne,nG]
   simp[bne,nG,d]
   right
   have c1:decide ((s:L)<ah data)=I:=by simp;omega
   rw[c1]
   exact⟨_,_,by simp,by simp,⟨rfl,s,rfl,by omega,by omega⟩⟩) (x:=(j:L)) (y:=(j:L)) ⟨rfl,j,rfl,by omega,u⟩ (by simp;omega)
  grind
 have C:∀j:U,j<=Y data->∃r:U,bR (KL data) (j:L)=J (r:L)/\bR (Lf data) (j:L)=J (r:L)/\j<=r/\r<=Y data:=by
  intro j u;have:=qE (f:=KL data) (g:=Lf data) (λx y=>x=y/\∃s:U,x=(s:L)/\j<=s/\s<=Y data) (λr q=>r=q/\∃s:U,r=(s:L)/\j<=s/\s<=Y data) (λx=>Y data-x.toNat) (λx y h=>by
   obtain⟨rfl,s,rfl,h1,h2⟩:=h
   have o:=di (i:=s) (by omega)
   unfold KL Lf iC au aJ ag cy ax aH aA fA c9;dsimp-proj only[aj]
   rw[o]
   rcases je s (Y data) with c|c
   have c1:decide ((s:L)<ah data)=W:=by simp;omega
   have f3:=auc data[s]
   unfold a6 at f3
   rw[c1,lF c]
   simp only[Int.ofNat_eq_natCast,f3,aB,bne,nG,b44,r7]
   by_cases a:data[s]=34\/data[s]=44\/data[s]=10
   right
   refine⟨_,_,?_,?_,⟨rfl,s,rfl,by omega,by omega⟩⟩
   rcases a with a|a|a<;>simp[c7,c,a]
   grind [c7]
   left
   have h3:¬data[s]=34/\¬data[s]=44/\¬data[s]=10:=⟨λe=>a (.inl e),λe=>a (.inr (.inl e)),λe=>a (.inr (.inr e))⟩
   refine⟨_,_,?_,?_,⟨rfl,s+1,rfl,by omega,by omega⟩,by simp;omega⟩
   simp[c7,c,h3]
   simp[c7,c,h3]
   right
   have c1:decide ((s:L)<ah data)=I:=by simp;omega
   rw[c1]
   exact⟨_,_,by simp,by simp,⟨rfl,s,rfl,by omega,by omega⟩⟩) (x:=(j:L)) (y:=(j:L)) ⟨rfl,j,rfl,by omega,u⟩ (by simp;omega)
  grind
 have E:∀r:U,r<=Y data->∃ok:ay,(∀b:ay,(if((r:L)==ah data||decide (0<=(r:L))&&(bX ((r:L)).toNat (Y data)&&(a6 (data.getD ((r:L)).toNat 0)==44||decide (0<=(r:L))&&bX ((r:L)).toNat (Y data))))=W then J (if((r:L)==ah data)=W then(r:L)else if(a6 (data.getD ((r:L)).toNat 0)==44)=W then(r:L)else(r:L),if((r:L)==ah data)=W then b else if(a6 (data.getD ((r:L)).toNat 0)==44)=W then b else b,(r:L)==ah data||(a6 (data.getD ((r:L)).toNat 0)==44||a6 (data.getD ((r:L)).toNat 0)==10))else O)=J ((r:L),b,ok))/\((r:L)==ah data||(a6 (data.getD ((r:L)).toNat 0)==44||a6 (data.getD ((r:L)).toNat 0)==10))=ok/\(ok=W->Uj data r):=by
  intro r A;refine⟨_,λb=>?_,rfl,λh=>?_⟩;rw[aF];simp;rcases je r (Y data) with h|h
  simp[c7,h];have:r=Y data:=by omega
  simp[this];unfold Uj;rcases je r (Y data) with p|K
  right;rw[lF p,b44,r7]at h;rw[eD p];simp at h;grind;left;omega
 unfold KN Lg aW au aJ ag cy ax c9;dsimp-proj only[aj];by_cases d:k<Y data/\data[k]?=J 34;let⟨h1,h2⟩:=d;have c1:decide ((k:L)<ah data)=W:=by simp;omega
 have a:a6 (data.getD ((k:L)).toNat 0)=34:=by rw[lF h1];rw[eD h1]at h2;rw[uq h2];rfl
 have o:=di (i:=k) (by omega);let⟨r,v,w,h3,z⟩:=B (k+1) (by omega);simp only[c1,MR h1,a,o,v,w,aB];rcases je r (Y data) with A|A
 have m:decide ((r:L)>=ah data)=I:=by simp;omega
 have t:=di (i:=r) (by omega);let⟨ok,f1,f2,f3⟩:=E (r+1) (by omega);refine⟨r+1,W,ok,?_,?_,λh=>⟨by omega,by omega,f3 h,λ_=>by omega⟩⟩;rw[m,t];exact f1 W;rw[m,t];grind;have m:decide ((r:L)>=ah data)=W:=by simp;omega
 exact⟨0,W,I,by rw[m];rfl,by rw[m];rfl,λh=>by cases h⟩;let⟨r,v,w,h3,z⟩:=C k hk;have a:(decide ((k:L)<ah data)&&a6 (data.getD ((k:L)).toNat 0)==34)=I:=by
  rcases je k (Y data) with h1|h1
  grind [lF,nG];simp;omega
 have D:(!decide ((k:L)<ah data)||decide (0<=(k:L))&&bX ((k:L)).toNat (Y data))=W:=by
  rcases je k (Y data) with h1|h1
  rw[MR h1];simp;simp;omega
 let⟨ok,f1,f2,f3⟩:=E r z;simp only[a,D,v,w,aB];refine⟨r,I,ok,?_,?_,λh=>⟨h3,z,f3 h,λh=>by cases h⟩⟩;exact f1 I;grind
def aue{d:U}(h:d<10):nj [aaX IntKind.u8 (aaX a7 (48+(d:L)))]=[kr (48+d)]:=by
 have:d=0\/d=1\/d=2\/d=3\/d=4\/d=5\/d=6\/d=7\/d=8\/d=9:=by omega
 rcases this with rfl|rfl|rfl|rfl|rfl|rfl|rfl|rfl|rfl|rfl<;>rfl
def auf:∀(u:U)(f:U)(acc:M ao),u<f->u<=1000000000->Y acc+u<=2000000000->eC KH f ((u:L),acc)=J (Aa u++acc):=by
 intro u;induction u using Nat.strongRecOn with
 |_ u b=>
  intro f acc m n a;obtain⟨f,rfl⟩:∃g,f=g+1:=⟨f-1,by omega⟩;have c:(u:L).tdiv 10=((u/10:U):L):=by grind
  have e:(u:L).tmod 10=((u%10:U):L):=by grind
  have i:aaX a7 (((u/10:U):L))=((u/10:U):L):=eY (by omega);have j:(W&&decide (1+Y acc<=1152921504606846976))=W:=by grind
  have k:=aue (d:=u%10) (Nat.mod_lt _ (by decide));rw[Aa];simp only[eC,KH,c,e,i,k,j,bH,aj,au,ag,bg,aH,aA,c8,bu];by_cases h:u<10;grind;have l:(((u/10:U):L)==0)=I:=by grind
  rw[dif_neg h,l];simp only[bM,ca];rw[b (u/10) (by omega) f _ (by omega) (by omega) (by grind)];simp
def aug(u:U)(a:u<=1000000000):ES (u:L)=J (Aa u):=by unfold ES aW;rw[show bR KH ((u:L),[])=J (Aa u++[])from auf u fuel [] (kM a (by decide)) a (by simp;omega)];simp
def Uk(u:U)(a:u<=1000000000):yS (u:L)=J (Aa u):=by
 unfold yS ig ag bg bu;have h:decide ((u:L)<0)=I:=ip (by omega);have b:lX (u:L) 0=(u:L):=by grind [lX]
 rw[h,b,aug u a];rfl
def aeh(u:U)(a:u<=1000000000):strconv_Itoa (u:L)=J (Aa u):=by grind [strconv_Itoa,Lib.itoa]
abbrev dc:=ay×M ao×M ao
def Ul{data:M ao}{P:M dc}{a b c:U}(h1:a<=b)(h2:b<=c)(h3:c<=Y data)(d:Y P<=1073741824)(key:M ao):tq key (b:L) (c:L) (data,aY P,(a:L))=J (data,aY (P++[(I,[],(data.take b).drop a),(W,key,(data.take c).drop b)]),(c:L)):=by unfold tq au al iO;simp only[ch,gP];rw[aF (by simp;omega)];cases P<;>rfl
def Um{data:M ao}{P:M dc}{a b c:U}(h1:a<=b)(h2:b<=c)(h3:c<=Y data)(d:Y P<=1073741824)(key:M ao):y8 (b:L) (c:L) key (data,(a:L),aY P)=J (data,(c:L),aY (P++[(I,[],(data.take b).drop a),(W,key,(data.take c).drop b)])):=by unfold y8 au al iO;simp only[ch,gP];rw[aF (by simp;omega)];cases P<;>rfl
abbrev PI:=L×L×L×L×L×M ao×L×Q (M dc)
abbrev RI:=L×L×L×L×M ao×Q (M dc)×L
def RR(data:M ao)(rec:U)(W0:L)(k0:U)(x:PI)(y:RI):Prop:=∃(k n a:U)(P:M dc)(b C T c d:L),k0<=k/\k<=Y data/\n<=k/\a<=k/\Y P<=2*k/\x=((k:L),(n:L),b,C,T,data,(a:L),aY P)/\y=((k:L),c,(n:L),d,data,aY P,(a:L))/\(rec=0->T=d/\0<=T/\T<=n/\(T≠0->C=c))/\(rec≠0->b=W0/\C=c)
def SR(data:M ao)(rec:U)(W0:L)(k0:U)(r:PI⊕PI)(q:(Q (M dc)×L×L)⊕RI):Prop:=(∃(a e:L)(z:L×L×L×M ao×L×Q (M dc)),e≠0/\r=.inl (a,e,z)/\q=.inl (O,a,e))\/∃(k n a:U)(P:M dc)(b C T c d:L),k0<=k/\k<=Y data/\n<=k/\a<=k/\Y P<=2*k/\r=.inr ((k:L),(n:L),b,C,T,data,(a:L),aY P)/\q=.inr ((k:L),c,((n+1:U):L),d,data,aY P,(a:L))/\(rec=0->b=((n+1:U):L)/\T=d/\0<=T/\(T≠0->C=c))/\(rec≠0->b=W0/\C=c)
def auh{data:M ao}(hl:data.length<=67108864){rec:U}(hr:rec<=67108865){W0 W1 C1 T1:L}{s:RI}(D:s.2.1=W0)(E:s.2.2.2.1=(rec:L)){k0:U}{x:PI}{y:RI}(h:RR data rec W0 k0 x y):∃r q,bR (Rr (data,(),(rec:L),W1,C1,T1)) x=J r/\bR (EW data s) y=J q/\SR data rec W0 k0 r q:=by
 refine qE (RR data rec W0 k0) (SR data rec W0 k0) (λx=>data.length+1-x.1.toNat) (λx y h=>?_) h (kM (xo _ _) (cC (by omega)));obtain⟨k,n,a,P,b,C,T,C',T',hk0,hk,hn,ha,hP,rfl,rfl,hz,F⟩:=h;let⟨e,q,ok,f1,f2,f3⟩:=aud hk hl;unfold Rr EW cw au ag cy ax bg aH aA c9;dsimp-proj only[aj];simp only[f1,f2,aB,D,E];cases ok with
 |false=>right;exact⟨_,_,rfl,by simp,.inl ⟨_,2,_,by decide,rfl,rfl⟩⟩|true=>
  let⟨g1,g2,g3,g4⟩:=f3 rfl;have Y:=di (i:=n) (by omega);have Z:=di (i:=e) (by omega);have wk:=di (i:=k) (by omega)
  have c:∀(g:U)(d:M dc)(l m T2 o p:L),g<=e->d.length<=2*e+2->d.length<=2*k+2->(d.length<=2*k\/k+2<=e)->(rec=0->l=((n+1:U):L)/\T2=p/\0<=T2/\T2<=((n+1:U):L)/\(T2≠0->m=o))->(rec≠0->l=W0/\m=o)->(∃G y',(if((e:L)==ah data||decide (0<=(e:L))&&bX ((e:L)).toNat data.length)=W then if((e:L)==ah data||a6 (data.getD ((e:L)).toNat 0)==10)=W then(J (lM (lM ((e:L),(n:L),l,m,T2,data,(g:L),aY d))):Q (PI⊕PI⊕PI))else J (mr (((e+1:U):L),((n+1:U):L),l,m,T2,data,(g:L),aY d))else O)=J (.inl G)/\(if(decide ((e:L)>=ah data)||decide (0<=(e:L))&&bX ((e:L)).toNat data.length)=W then if(decide ((e:L)>=ah data)||a6 (data.getD ((e:L)).toNat 0)==10)=W then(J (lM (lM ((e:L),o,((n+1:U):L),p,data,aY d,(g:L)))):Q (RI⊕(Q (M dc)×L×L)⊕RI))else J (mr (((e+1:U):L),o,((n+1:U):L),p,data,aY d,(g:L)))else O)=J (.inl y')/\RR data rec W0 k0 G y'/\data.length+1-G.1.toNat<data.length+1-((k:L)).toNat)\/
    ∃r q,(if((e:L)==ah data||decide (0<=(e:L))&&bX ((e:L)).toNat data.length)=W then
       if((e:L)==ah data||a6 (data.getD ((e:L)).toNat 0)==10)=W then(J (lM (lM ((e:L),(n:L),l,m,T2,data,(g:L),aY d))):Q (PI⊕PI⊕PI))else J (mr (((e+1:U):L),((n+1:U):L),l,m,T2,data,(g:L),aY d))else O)=J (.inr r)/\
     (if(decide ((e:L)>=ah data)||decide (0<=(e:L))&&bX ((e:L)).toNat data.length)=W then
       if(decide ((e:L)>=ah data)||a6 (data.getD ((e:L)).toNat 0)==10)=W then(J (lM (lM ((e:L),o,((n+1:U):L),p,data,aY d,(g:L)))):Q (RI⊕(Q (M dc)×L×L)⊕RI))else J (mr (((e+1:U):L),o,((n+1:U):L),p,data,aY d,(g:L)))else O)=J (.inr q)/\SR data rec W0 k0 r q:=by
   intro g d l m T2 o p h1 h2 h3 h4 t h6
   by_cases u:e=data.length\/data[e]?=J 10
   right
   have c1:((e:L)==ah data||a6 (data.getD ((e:L)).toNat 0)==10)=W:=by
    rcases u with h|h
    simp[h];let⟨v,h⟩:=ik.1 h;rw[lF v,h];simp[a6]
   have c2:(decide ((e:L)>=ah data)||a6 (data.getD ((e:L)).toNat 0)==10)=W:=by grind
   refine⟨_,_,?_,?_,.inr ⟨e,n,g,d,l,m,T2,o,p,by omega,g2,by omega,h1,by omega,rfl,rfl,λh=>⟨(t h).1,(t h).2.1,(t h).2.2.1,(t h).2.2.2.2⟩,h6⟩⟩
   rw[aF,aF c1]
   rcases je e data.length with h|h
   simp[c7,h]
   simp_all
   simp_all [c7]
   left
   have v:e<data.length:=by omega
   have H:¬data[e]=10:=λh=>u (.inr (by grind))
   have c0:((e:L)==ah data)=I:=by simp;omega
   have c0':decide ((e:L)>=ah data)=I:=by simp;omega
   have c1:(a6 (data.getD ((e:L)).toNat 0)==10)=I:=by rw[lF v,r7];simpa using H
   refine⟨_,_,?_,?_,⟨e+1,n+1,g,d,l,m,T2,o,p,by omega,by omega,by omega,by omega,by omega,rfl,rfl,λh=>⟨(t h).2.1,(t h).2.2.1,(t h).2.2.2.1,(t h).2.2.2.2⟩,h6⟩,by simp;omega⟩
   grind [c7]
   simp_all [c7]
  rcases Nat.eq_zero_or_pos rec with A|A
  subst A;let⟨K,N,z3,z4⟩:=hz rfl;subst K;have c1:decide (0<=(k:L)/\(k:L)<=(e:L)/\(e:L)<=ah data)=W:=by simp;omega
  have hH:Lj (k:L) (e:L) (n:L) (data,(),((0:U):L),b,C,T) (data,(a:L),aY P)=J (((n+1:U):L),if decide (bq (k:L) (e:L) data=[116,101,120,116])=W then(n:L)else C,if decide (bq (k:L) (e:L) data=[116,101,120,116])=W then T+1 else T):=by grind [Lj,bV]
  have wT:aaX a7 (T+1)=T+1:=eY (by omega);have d0:(((0:U):L)==0)=W:=rfl;have d1:decide (((0:U):L)>0)=I:=rfl;simp only[d0,d1,hH,c1,aB,jI,qQ,Ab,uz,Bool.or_false,xi,z7,xp,bM,bH,ca,Y,Z,wT];by_cases ht:bq (k:L) (e:L) data=[116,101,120,116];simp only[iV ht,bH];exact c a P _ _ _ _ _ (by omega) (by omega) (by omega) (by omega) (λ_=>⟨rfl,rfl,by omega,by omega,λ_=>rfl⟩) (λh=>cJ rfl h);simp only[ip ht,bM,ca];exact c a P _ _ _ _ _ (by omega) (by omega) (by omega) (by omega) (λ_=>⟨rfl,rfl,N,by omega,z4⟩) (λh=>cJ rfl h);let⟨K,N⟩:=F (by omega);subst K;subst N;have d0:(((rec:U):L)==0)=I:=by grind
  have d1:decide (((rec:U):L)>0)=W:=by simp;omega
  unfold Rq cw ag ax bg;simp only[d0,d1,jI,qQ,Ab,uz,Bool.or_false,xi,z7,xp,bM,bH,ca,Y,Z,wk];by_cases j:(decide ((n:L)>=b)||(n:L)==C&& !q)=W;right;simp only[j,bH,aB];exact⟨_,_,rfl,rfl,.inl ⟨_,2,_,by decide,rfl,rfl⟩⟩;simp only[Bool.not_eq_true]at j;simp only[j,bM,ca];by_cases B:(n:L)=C;have hq:q=W:=by grind
  have h2:=g4 hq;have R:aaX a7 ((e:L)-1)=((e-1:U):L):=by grind [bV]
  have c3:decide (0<=((k+1:U):L)/\((k+1:U):L)<=((e-1:U):L)/\((e-1:U):L)<=ah data)=W:=by simp;omega
  have w:((n:L)==C)=W:=by simpa using B
  have z:((n:L) !=C)=I:=by simpa[bne]using B
  let⟨f,cuts,at',S,D1,D2,D3,D4,D5⟩:=aef (raw:=(data.take (e-1)).drop (k+1)) (by simp;omega);simp only[w,z,R,c3,bH,bM,ca,gP,D1,D2,aB];by_cases V:S=0;subst V;simp only[Uk rec (by omega),aeh rec (by omega),Ul (show a<=k+1 by omega) (show k+1<=e-1 by omega) (show e-1<=data.length by omega) (show P.length<=1073741824 by omega),Um (show a<=k+1 by omega) (show k+1<=e-1 by omega) (show e-1<=data.length by omega) (show P.length<=1073741824 by omega),aB,sq,bM,ca];exact c (e-1) _ _ _ _ _ _ (by omega) (by simp;omega) (by simp;omega) (.inr h2) (λh=>by omega) (λ_=>⟨rfl,rfl⟩);have X:(S !=0)=W:=by simpa[bne]using V
  right;simp only[X,bH,aB];exact⟨_,_,rfl,rfl,.inl ⟨_,S,_,V,rfl,rfl⟩⟩;have w:((n:L)==C)=I:=by simpa using B
  have z:((n:L) !=C)=W:=by simpa[bne]using B
  simp only[w,z,bH,bM,ca,aB,sq];exact c a P _ _ _ _ _ (by omega) (by omega) (by omega) (by omega) (λh=>by omega) (λ_=>⟨rfl,rfl⟩)
abbrev PO:=L×M ao×L×Q (M dc)×L×L×L×L
def RO(data:M ao)(x:RI)(y:PO):Prop:=∃(k rec a:U)(P:M dc)(b C c d e:L),k<=Y data+1/\rec<=k/\a<=k/\a<=Y data/\Y P<=2*k/\(rec=0->k=0/\e=0)/\(rec≠0->b=c/\C=d)/\x=((k:L),b,C,(rec:L),data,aY P,(a:L))/\y=(((min k (Y data):U):L),data,(a:L),aY P,(rec:L),c,d,e)
def SO(data:M ao)(r:(Q (M dc)×L×L)⊕M ao×Q (M dc)×L)(q:(Q (M dc)×L×L)⊕M ao×L×Q (M dc)×L×L×L×L):Prop:=(∃a e:L,e≠0/\r=.inl (O,a,e)/\q=.inl (O,a,e))\/∃(a:U)(P:M dc)(z:L×L×L×L),a<=Y data/\Y P<=2*Y data+2/\r=.inr (data,aY P,(a:L))/\q=.inr (data,(a:L),aY P,z)
def aui{data:M ao}(T:data.length<=67108864):∃r q,bR (EX data) (0,0,-1,0,data,O,0)=J r/\bR (Rt data) (0,data,0,O,0,0,0,0)=J q/\SO data r q:=by
 refine qE (RO data) (SO data) (λx=>data.length+2-x.1.toNat) (λx y h=>?_) ⟨0,0,0,[],0,-1,0,0,0,by omega,by omega,by omega,by omega,by simp,λ_=>⟨rfl,rfl⟩,λh=>cJ rfl h,rfl,by simp[aY]⟩ (kM (xo _ _) (kM (show data.length+2<=67108866 by omega) (by decide)));obtain⟨k,rec,a,P,c,C,u,v,w,hk,K,A,V,hP,t,g,rfl,rfl⟩:=h;unfold EX Rt aW aJ ag ax aH aA;dsimp-proj only[aj];by_cases d:rec=0\/k<data.length;have j:k<=data.length:=by grind
 have X:min k data.length=k:=Nat.min_eq_left j;have c1:(((rec:L)==0)||decide ((k:L)<ah data))=W:=by rcases d with h|h<;>simp[h]
 have B:(decide ((k:L)<ah data)||((rec:L)==0))=W:=by rcases d with h|h<;>simp[h]
 unfold Rs aW ag ax;simp only[X,c1,B,bH];let⟨r,q,Y,Z,hS⟩:=auh T (rec:=rec) (by omega) (W0:=c) (W1:=u) (C1:=v) (T1:=w) (s:=((k:L),c,C,(rec:L),data,aY P,(a:L))) rfl rfl (k0:=k) (x:=((k:L),0,u,v,w,data,(a:L),aY P)) (y:=((k:L),C,0,0,data,aY P,(a:L))) ⟨k,0,a,P,u,v,w,C,0,by omega,j,by omega,A,by omega,rfl,rfl,λh=>⟨(t h).2,by rw[(t h).2];decide,by rw[(t h).2];decide,λh'=>cJ (t h).2 h'⟩,λh=>⟨(g h).1.symm,(g h).2.symm⟩⟩;rw[Y,Z];rcases hS with⟨b,e,z,D,rfl,rfl⟩|⟨k',n,N,R,E,F,l,C2,T2,g1,g2,g3,g4,g5,rfl,rfl,g6,g7⟩
 right;have he':(e !=0)=W:=by simpa[bne]using D
 exact⟨_,_,rfl,by simp[D],.inl ⟨b,e,D,rfl,rfl⟩⟩;have wk:aaX a7 ((k':L)+1)=((k'+1:U):L):=by grind [bV]
 have wn:=di (i:=n) (by omega);have wr:=di (i:=rec) (by omega);have m:ji ((k'+1:U):L) (ah data)=((min (k'+1) data.length:U):L):=by unfold ji;rw[ef];split<;>omega
 simp only[aB,pr,wk,wn,wr,m];rcases Nat.eq_zero_or_pos rec with o|o
 subst o;let⟨G,H,z3,z4⟩:=g6 rfl;subst G;subst H;have d0:(((0:U):L)==0)=W:=rfl;have d1:decide (((0:U):L)>0)=I:=rfl;have d2:decide (((n+1:U):L)<((n+1:U):L))=I:=by simp
 simp only[d0,d1,d2,Ab,uz,bM,bH,ca];by_cases f:l=0;right;subst f;exact⟨_,_,rfl,rfl,.inl ⟨0,6,by decide,rfl,rfl⟩⟩;have t0:(l==0)=I:=by simpa using f
 simp only[t0,bM,ca];by_cases p:l>1;right;simp only[iV p,bH];exact⟨_,_,rfl,rfl,.inl ⟨0,5,by decide,rfl,rfl⟩⟩;left;simp only[ip p,bM,ca,aB,sq];exact⟨_,_,rfl,rfl,⟨k'+1,0+1,N,R,_,C2,_,F,l,by omega,by omega,by omega,by omega,by omega,λh=>by omega,λ_=>⟨rfl,(z4 f).symm⟩,rfl,rfl⟩,by simp;omega⟩;let⟨G,H⟩:=g7 (by omega);subst G;subst H;have d0:(((rec:U):L)==0)=I:=by grind
 have d1:decide (((rec:U):L)>0)=W:=by simp;omega
 simp only[d0,d1,Ab,uz,bM,bH,ca];by_cases S:((n+1:U):L)<E;right;simp only[iV S,bH];exact⟨_,_,rfl,rfl,.inl ⟨k,2,by decide,rfl,rfl⟩⟩;left;simp only[ip S,bM,ca,aB,sq];exact⟨_,_,rfl,rfl,⟨k'+1,rec+1,N,R,E,F,E,F,l,by omega,by omega,by omega,by omega,by omega,λh=>by omega,λ_=>⟨rfl,rfl⟩,rfl,rfl⟩,by simp;omega⟩;right;have hr:rec≠0:=λh=>d (.inl h);have c0:(((rec:U):L)==0)=I:=by grind
 have c1:decide ((k:L)<ah data)=I:=by simp;omega
 have B:decide (((min k data.length:U):L)<ah data)=I:=by simp;omega
 simp only[c0,c1,B];exact⟨_,_,rfl,rfl,.inr ⟨a,P,_,V,by omega,rfl,rfl⟩⟩
def auj{data:M ao}(f:Y data<=65536):∃P at' e,BL data=J (P,at',e)/\FB data=J (P,at',e)/\Y (X P [])<=2*Y data+3:=by
 let⟨r,q,b,d,h⟩:=aui (data:=data) (by omega);unfold BL FB y6 aW aJ;have c:decide (ah data>65536)=I:=by simp;omega
 rw[b,c];simp only[bM,ca,aB,d];rcases h with⟨a,e,g,rfl,rfl⟩|⟨a,P,z,i,j,rfl,rfl⟩
 simp_all;unfold tm y7 au al bu;simp only[aB,pr,ch];rw[aF (by simp;omega),aF (by simp;omega)];simp_all
theorem MS{α:Type}[DecidableEq α]{f:L->Q (L⊕ay⊕bY)}{a b:M α}(g:a.length=b.length)(c:a.length<fuel) (step:∀i(h1:i<a.length)(h2:i<b.length),f (i:L)=if a[i]=b[i]then J (.inl ((i+1:U):L))else J (.inr (.inl I)))(stop:f (a.length:L)=J (.inr (.inr ()))):(aq (bR f 0) λr1=>dh r1 (λr2=>J r2) λ_=>J W)=J (decide (a=b)):=by have:=aa6 (f:=f) (λi=>(i:L)) a.length (λi=>a[i]?=b[i]?) (.inl I) (.inr ()) (λi d e=>by grind) (λi d e=>by grind) stop c;by_cases h:a=b;simp_all;rw[show bR f 0=J (.inl I)from this.2 λj=>h (List.ext_getElem? λi=>by grind),ip h];rfl
def aei(x y:dc):(x.1==y.1&&(decide (x.2.1=y.2.1)&&(decide (x.2.2=y.2.2)&&W)))=decide (x=y):=by grind
def auk{a b:Q (M dc)}(f:Y (X a [])<=1073741824):KP a b=J (decide (X a []=X b [])):=by
 unfold KP aW ag al;by_cases d:Y (X a [])=Y (X b []);have c:(ah (X a []) !=ah (X b []))=I:=by simp[bne];omega
 rw[c];refine(MS d (cM (cC (by omega))) (λi h1 h2=>?_) ?_);unfold Rg aN au aJ ag al ax aH aA;rw[dX h1,cS h1,cS h2,aei,aF (by simp;omega),eY (by omega)];by_cases h:(X a [])[i]=(X b [])[i]<;>simp[h];unfold Rg aN au aJ ag al ax aH aA;rw[gm];have c:(ah (X a []) !=ah (X b []))=W:=by simp[bne];omega
 rw[c,ip λe=>d (cb ui e)];rfl
def aul{a b:Q (M dc)}(f:Y (X a [])<=1073741824):Lm a b=J (decide (X a []=X b [])):=by
 unfold Lm aW ag al;by_cases d:Y (X a [])=Y (X b []);have c:(ah (X a []) !=ah (X b []))=I:=by simp[bne];omega
 rw[c];refine(MS d (cM (cC (by omega))) (λi h1 h2=>?_) ?_);unfold Ru aN au aJ ag al ax aH aA;rw[dX h1,cS h1,cS h2,aei,aF (by simp;omega),eY (by omega)];by_cases h:(X a [])[i]=(X b [])[i]<;>simp[h];unfold Ru aN au aJ ag al ax aH aA;rw[gm];have c:(ah (X a []) !=ah (X b []))=W:=by simp[bne];omega
 rw[c,ip λe=>d (cb ui e)];rfl
def ep(l:M dc):M ao:=l.flatMap λq=>q.2.2
def aum(l:M dc)(i:U):Y (ep (l.take i))<=Y (ep l):=by grind [ep,mZ]
theorem Ck{d:L×Q (M dc)}(h1:Y (X d.2 [])<=1073741824)(h2:Y (ep (X d.2 []))<=1073741824):wj d=J (ep (X d.2 [])):=by
 unfold wj aW;have:bR (ER d) ([],0)=J (ep (X d.2 [])):=by
  refine eZ (f:=ER d) (Y (X d.2 [])) (λi=>(ep ((X d.2 []).take i),(i:L))) (λi a=>?_) ?_ (cM (cC (by omega)));have b:ep ((X d.2 []).take (i+1))=ep ((X d.2 []).take i)++(X d.2 [])[i].2.2:=by unfold ep;rw[iU a,uy];simp
  have c:=aum (X d.2 []) (i+1);rw[b]at c;unfold ER aN au aJ al ax aH aA c8;rw[dX a,cS a,aF (by simp at c ⊢;omega),b,eY (by omega)];rfl;unfold ER aN au aJ al ax aH aA c8;simp_all
 rw[this];rfl
theorem Cl{d:L×Q (M dc)}(h1:(d.2.getD []).length<=1073741824)(h2:(ep (d.2.getD [])).length<=1073741824):tA d=J (ep (d.2.getD [])):=by unfold tA;rw[aF (by rw[Bool.and_eq_true,iJ,iJ];exact⟨uw h1 (by decide),uw h2 (by decide)⟩)];rfl
abbrev aej:=Q (M aK)×Q (M L)×Q (M L)×L×L
def aun(a:Q (M aK))(b d:Q (M L))(e:L×L)(c off:L):B1 c off (a,b,d,e)=match rT c off (a,b,d)with|some (r,x,y,z)=>J (r,x,y,z,e)|none=>O:=by
 grind [B1,rT,Fv,qz,aB]
def Un(a:Q (M aK))(b d:Q (M L))(e:L×L):Fu (a,b,d,e)=match qy (a,b,d)with|some (x,y,z)=>J (x,y,z,e)|none=>O:=by
 grind [Fu,qy]
def auo(a:Q (M aK))(b d:Q (M L))(e:L×L)(x:aK)(off:L):Fw x off (a,b,d,e)=match tC x off (a,b,d)with|some (r,x,y,z)=>J (r,x,y,z,e)|none=>O:=by
 unfold Fw tC au ag al bu
 rw[show Fv I (a,b,d,e)=qz I (a,b,d)from rfl,Un]
 cases qz I (a,b,d)with
 |none=>rfl|some r=>
  simp only[aB];cases r;simp only[bM,ca];cases qy (a,b,d)with|none=>rfl|some q=>let⟨c,g,f⟩:=q;by_cases h1:Y (X c [])<=68719476735<;>by_cases h2:Y (X f [])<=68719476735<;>simp[h1,h2]
  rfl
theorem b9(c:ao):(a6 c==9)=(c==9):=pG rfl
theorem Uo(c:ao):(a6 c==32)=(c==32):=pG rfl
def b92(c:ao):(a6 c==92)=(c==92):=pG rfl
def ael(c:ao):(a6 c==123)=(c==123):=pG rfl
def aup(c:ao):(a6 c==110)=(c==110):=pG rfl
def auq(c:ao):(a6 c==116)=(c==116):=pG rfl
def aur(c:ao):(a6 c==115)=(c==115):=pG rfl
def aus(c:ao):(a6 c==114)=(c==114):=pG rfl
def aut{raw:M ao}{k:U}(hk:k+2<=Y raw)(s:Y raw<=67108864):∃n:U,2<=n/\k+n<=Y raw/\bR (KF (raw.drop k)) 2=J (n:L)/\bR (K9 raw) ((k+2:U):L)=J ((k+n:U):L):=by
 have hd:Y (raw.drop k)=Y raw-k:=by simp
 have:=qE (f:=KF (raw.drop k)) (g:=K9 raw) (λx y=>∃n:U,2<=n/\k+n<=Y raw/\x=(n:L)/\y=((k+n:U):L)) (λx y=>∃n:U,2<=n/\k+n<=Y raw/\x=(n:L)/\y=((k+n:U):L)) (λx=>Y raw-k-G x) (λx y h=>by
  obtain⟨n,h1,h2,rfl,rfl⟩:=h
  unfold KF K9 Rn iC au aJ ag cy ax aH aA fA c9
  have l:=di (i:=n) (by omega)
  have m:aaX a7 (((k+n:U):L)+1)=((k+(n+1):U):L):=by grind [bV]
  rcases je (k+n) (Y raw) with d|d
  have a:n<Y (raw.drop k):=by omega
  have c1:decide ((n:L)<ah (raw.drop k))=W:=by simp;omega
  have b:decide (((k+n:U):L)<ah raw)=W:=by simp;omega
  have o:bX (k+n) (Y raw)=W:=(c7 _ _).2 d
  have p:bX n (Y (raw.drop k))=W:=(c7 _ _).2 a
  have e:H (raw.drop k) n 0=raw[k+n]:=by grind
  have q:H raw (k+n) 0=raw[k+n]:=by grind
  have r:fQ raw[k+n].toNat=a6 raw[k+n]:=rfl
  simp only[c1,b,fB,e,q,o,p,r,Uo,b9,aB,l,m]
  generalize raw[k+n]=c
  by_cases h:c=32\/c=9
  left
  refine⟨_,_,?_,?_,⟨n+1,by omega,by omega,rfl,rfl⟩,by simp;omega⟩
  rcases h with h|h<;>simp[h]
  grind
  right
  have j:¬c=32/\¬c=9:=⟨λe=>h (.inl e),λe=>h (.inr e)⟩
  refine⟨_,_,?_,?_,⟨n,h1,h2,rfl,rfl⟩⟩
  simp[j]
  simp[j];omega
  right
  have c1:decide ((n:L)<ah (raw.drop k))=I:=by simp;omega
  have b:decide (((k+n:U):L)<ah raw)=I:=by simp;omega
  rw[c1,b]
  exact⟨_,_,by simp,by simp,⟨n,h1,h2,rfl,rfl⟩⟩) (x:=2) (y:=((k+2:U):L)) ⟨2,by omega,hk,rfl,rfl⟩ (kM (uw (xo _ _) (xo _ _)) (cM (cC (by omega))))
 grind
def Cm(d:ao):Q ao:=if d=110 then J 10 else if d=116 then J 9 else if d=115 then J 32 else if d=114 then J 13 else if d=92 then J 92 else if d=123 then J 123 else O
def auu(d:ao):K8 (a6 d)=J (match Cm d with|some b=>(a6 b,W)|none=>(0,I)):=by unfold K8 Cm ag;rw[aup,auq,aur,aus,b92,ael];by_cases h1:d=110;simp[h1];rfl;by_cases h2:d=116;simp[h2];rfl;by_cases h3:d=115;simp[h3];rfl;by_cases a:d=114;simp[a];rfl;grind
def auv(d:ao)(r:M ao):bR (EO (92::d::r)) 0=J (match Cm d with|some b=>.inl (2,1,[b],0)|none=>.inr ()):=by
 unfold Cm;by_cases h1:d=110;subst h1;kernel_rfl;by_cases h2:d=116;subst h2;kernel_rfl;by_cases h3:d=115;subst h3;kernel_rfl;by_cases a:d=114;subst a;kernel_rfl;by_cases e:d=92;subst e;kernel_rfl;by_cases g:d=123;subst g;kernel_rfl;simp only[h1,h2,h3,a,e,g,ca];refine eZ (f:=EO (92::d::r)) 6 (λi=>(i:L)) (λi l=>?_) (by unfold EO cw au aJ ag cy ax aH aA fA bu;dsimp-proj only[aj];rfl) (by decide);have j:bX 1 (Y (92::d::r))=W:=(c7 _ _).2 (by simp);have h:i=0\/i=1\/i=2\/i=3\/i=4\/i=5:=by omega
 have q:∀c:ao,d≠c->(a6 d==a6 c)=I:=λc k=>zy k;unfold EO cw au aJ ag cy ax aH aA fA bu;dsimp-proj only[aj];simp only[j,List.getD_cons_succ,pV];rcases h with rfl|rfl|rfl|rfl|rfl|rfl
 rw[show a6 (H (H ([[110,10],[116,9],[115,32],[114,13],[92,92],[123,123]]:M (M ao)) (G ((0:U):L)) []) 0 0)=a6 110 from rfl,q 110 h1];rfl;rw[show a6 (H (H ([[110,10],[116,9],[115,32],[114,13],[92,92],[123,123]]:M (M ao)) (G ((1:U):L)) []) 0 0)=a6 116 from rfl,q 116 h2];rfl;rw[show a6 (H (H ([[110,10],[116,9],[115,32],[114,13],[92,92],[123,123]]:M (M ao)) (G ((2:U):L)) []) 0 0)=a6 115 from rfl,q 115 h3];rfl;rw[show a6 (H (H ([[110,10],[116,9],[115,32],[114,13],[92,92],[123,123]]:M (M ao)) (G ((3:U):L)) []) 0 0)=a6 114 from rfl,q 114 a];rfl;rw[show a6 (H (H ([[110,10],[116,9],[115,32],[114,13],[92,92],[123,123]]:M (M ao)) (G ((4:U):L)) []) 0 0)=a6 92 from rfl,q 92 e];rfl;rw[show a6 (H (H ([[110,10],[116,9],[115,32],[114,13],[92,92],[123,123]]:M (M ao)) (G ((5:U):L)) []) 0 0)=a6 123 from rfl,q 123 g];rfl
def pH(s:M ao):Q (ao×U):=if[38,108,116,59].isPrefixOf s then J (60,4)else if[38,103,116,59].isPrefixOf s then J (62,4)else if[38,97,109,112,59].isPrefixOf s then J (38,5) else if[38,108,98,59].isPrefixOf s then J (123,4)else if[38,114,98,59].isPrefixOf s then J (125,4)else O
def auw(s:M ao):K3 s=J (match pH s with|some (c,n)=>(a6 c,(n:L),W)|none=>(0,0,I)):=by unfold K3 pH ag;simp only[GL,aB];split;rfl;split;rfl;split;rfl;split;rfl;split<;>rfl
def GU(s:M ao):wd s 0=aq (nD s [38,108,116,59]) λr1=>if r1=W then J (.inr (.inl (4,1,[60],0)))else J (.inl 1):=by kernel_rfl
def GV(s:M ao):wd s 1=aq (nD s [38,103,116,59]) λr1=>if r1=W then J (.inr (.inl (4,1,[62],0)))else J (.inl 2):=by kernel_rfl
def GX(s:M ao):wd s 2=aq (nD s [38,97,109,112,59]) λr1=>if r1=W then J (.inr (.inl (5,1,[38],0)))else J (.inl 3):=by kernel_rfl
def GY(s:M ao):wd s 3=aq (nD s [38,108,98,59]) λr1=>if r1=W then J (.inr (.inl (4,1,[123],0)))else J (.inl 4):=by kernel_rfl
def GZ(s:M ao):wd s 4=aq (nD s [38,114,98,59]) λr1=>if r1=W then J (.inr (.inl (4,1,[125],0)))else J (.inl 5):=by kernel_rfl
def G0(s:M ao):wd s 5=J (.inr (.inr ())):=by kernel_rfl
def aux(s:M ao):bR (wd s) 0=J (match pH s with|some (c,n)=>.inl ((n:L),1,[c],0)|none=>.inr ()):=by have f:∃n,fuel=n+6:=⟨fuel-6,by simp_all [fuel]⟩;let⟨n,f⟩:=f;unfold bR pH;rw[f];cases a:qU [38,108,116,59] s;cases h1:qU [38,103,116,59] s;cases h2:qU [38,97,109,112,59] s;cases h3:qU [38,108,98,59] s;cases b:qU [38,114,98,59] s<;>simp only[eC,GU,GV,GX,GY,GZ,G0,tO,aB,bM,ca,bH,a,h1,h2,h3,b];rfl;simp only[eC,GU,GV,GX,GY,GZ,G0,tO,aB,bM,ca,bH,a,h1,h2,h3];rfl;simp only[eC,GU,GV,GX,GY,GZ,G0,tO,aB,bM,ca,bH,a,h1,h2];rfl;simp only[eC,GU,GV,GX,GY,GZ,G0,tO,aB,bM,ca,bH,a,h1];rfl;simp only[eC,GU,GV,GX,GY,GZ,G0,tO,aB,bM,ca,bH,a];rfl
def wid(x:aK):U:=if x.1=1 then Y x.2.1 else 1
def bL(f:M aK):U:=(f.map wid).sum
def auy(x:aK):wid x<=Y x.2.1+1:=by grind [wid]
theorem zA(a b:M aK):bL (a++b)=bL a+bL b:=by simp[bL]
theorem jE(f:M aK):bL f<=bf f:=by
 induction f with|nil=>simp[bL,bf]|cons a r b=>have:=auy a;simp[bL,bf]at b ⊢;omega
def MT(f:M aK)(i:U):bL (f.take i)<=bL f:=by grind [zA,mZ]
theorem G1{f:M aK}{i:U}(h:i<Y f):bL (f.take (i+1))=bL (f.take i)+wid f[i]:=by rw[iU h,zA];simp[bL]
def aem(x:aK):FH x=J (wid x:L):=by grind [FH,wid]
theorem G2{o:Q (M aK)}(hB:bf (X o [])<=1073741824):wq o=J (bL (X o []):L):=by
 have c:=eP (X o []);have h3:=jE (X o []);have:bR (FI o) (0,0)=J (bL (X o []):L):=by refine eZ (f:=FI o) (Y (X o [])) (λi=>((bL ((X o []).take i):L),(i:L))) (λi a=>?_) ?_ (cM (cC (by omega)));have d:=MT (X o []) (i+1);have b:=G1 a;unfold FI bS aN al ax bg aH aA;rw[nA a,cS a,aem,aB,bV (by simp only[];omega) (by simp only[];omega),bV (by simp only[];omega) (by simp only[];omega),b];rfl;unfold FI bS aN al ax bg aH aA;simp_all
 unfold wq aW;rw[this];rfl
theorem mg{o:Q (M aK)}(hB:bf (X o [])<=1073741824):nC o=J (bL (X o []):L):=by
 have c:=eP (X o []);have h3:=jE (X o []);have:bR (ED o) (0,0)=J (bL (X o []):L):=by refine eZ (f:=ED o) (Y (X o [])) (λi=>((bL ((X o []).take i):L),(i:L))) (λi a=>?_) ?_ (cM (cC (by omega)));have d:=MT (X o []) (i+1);have b:=G1 a;unfold ED aN au aJ ag al ax bg aH aA;dsimp-proj only[aj];rw[dX a,cS a,aF (by simp;omega)];unfold wid at b;by_cases h:(X o [])[i].1=1;rw[aF h]at b;simp only[h,beq_self_eq_true,bH];rw[bV (by simp;omega) (by simp;omega),eY (by omega),b];simp;grind [bV];unfold ED aN au aJ ag al ax bg aH aA;dsimp-proj only[aj];simp_all
 unfold nC aW;rw[this];rfl
def nH(a b at':U)(x:aK):M aK:=if max a at'<min b (at'+wid x)then[(x.1,if x.1=1 then(x.2.1.take (min b (at'+wid x)-at')).drop (max a at'-at')else x.2.1,x.2.2)]else[]
def fE(a b:U):U->M aK->M aK|_,[]=>[]|at',x::r=>nH a b at' x++fE a b (at'+wid x) r
def aen(a b:U):∀(f g:M aK)(at':U),fE a b at' (f++g)=fE a b at' f++fE a b (at'+bL f) g|[],g,at'=>by simp[fE,bL]|x::f,g,at'=>by rw[List.cons_append,fE,fE,aen a b f g,List.append_assoc];simp[bL,Nat.add_assoc]
theorem MU(a b:U):∀(f:M aK)(at':U),Y (fE a b at' f)<=Y f|[],at'=>by simp[fE]|x::f,at'=>by have:=MU a b f (at'+wid x);grind [fE,nH]
theorem Up(a b:U):∀(f:M aK)(at':U),bf (fE a b at' f)<=bf f|[],at'=>by simp[fE]|x::f,at'=>by have:=Up a b f (at'+wid x);grind [bf,fE,nH]
def aeo{α:Type}(l:M α)(a b:U):bq (a:L) (b:L) l=(l.take b).drop a:=by unfold bq;simp
def aep(a b:U):lX (a:L) (b:L)=((max a b:U):L):=by grind [lX]
def aeq(a b:U):ji (a:L) (b:L)=((min a b:U):L):=by grind [ji]
def aer{f:M aK}{i:U}(h:i<Y f)(a b:U):fE a b 0 (f.take (i+1))=fE a b 0 (f.take i)++nH a b (bL (f.take i)) f[i]:=by rw[iU h,aen];simp[fE]
def Uq{α:Type}(l:M α)(x:α):J (l++[x])=aY (l++[x]):=by cases l<;>rfl
theorem auz{o:Q (M aK)}(hB:bf (X o [])<=1073741824){a b:U}(e:a<=b)(q:b<=bL (X o [])):bR (FJ o (a:L) (b:L)) (O,0,0)=J (aY (fE a b 0 (X o []))):=by
 have r:=eP (X o []);have h3:=jE (X o []);refine eZ (f:=FJ o (a:L) (b:L)) (Y (X o [])) (λi=>(aY (fE a b 0 ((X o []).take i)),(bL ((X o []).take i):L),(i:L))) (λi d=>?_) ?_ (cM (cC (by omega)));have s:=MT (X o []) (i+1);have g:=G1 d;have t:=MU a b ((X o []).take i) 0;have j:Y ((X o []).take i)<=Y (X o []):=by simp;omega
 rw[aer d,g];unfold FJ nH bS aN au aJ ag al ax bg aH aA bu;dsimp-proj only[aj];simp only[];rw[nA d,cS d,aem,aB];generalize u:(X o [])[i]=x at *;generalize bL ((X o []).take i)=at' at *;have k:aaX a7 ((at':L)+(wid x:L))=((at'+wid x:U):L):=by grind [bV]
 have l:=di (i:=i) (by omega);have m:aaX a7 (((max a at':U):L)-(at':L))=((max a at'-at':U):L):=by grind [bV]
 simp only[k,l,aep,aeq,m,ch];by_cases n:max a at'<min b (at'+wid x);have p:aaX a7 (((min b (at'+wid x):U):L)-(at':L))=((min b (at'+wid x)-at':U):L):=by grind [bV]
 have c:x.1=1->wid x=Y x.2.1:=λh=>by unfold wid;rw[aF h]
 simp only[p,aeo];rw[aF,aF n,aF (by simp;omega),Uq];by_cases hk:x.1=1<;>simp[hk];by_cases hk:x.1=1;have:=c hk;simp[hk];omega;simp[hk];omega;grind;unfold FJ bS aN au aJ ag al ax bg aH aA bu;dsimp-proj only[aj];simp_all
theorem auA{o:Q (M aK)}(hB:bf (X o [])<=1073741824){a b:U}(l:a<=b)(r:b<=bL (X o [])):bR (EG o (a:L) (b:L)) (O,0,0)=J (aY (fE a b 0 (X o []))):=by
 have s:=eP (X o []);have h3:=jE (X o []);refine eZ (f:=EG o (a:L) (b:L)) (Y (X o [])) (λi=>(aY (fE a b 0 ((X o []).take i)),(bL ((X o []).take i):L),(i:L))) (λi d=>?_) ?_ (cM (cC (by omega)));have t:=MT (X o []) (i+1);have e:=G1 d;have u:=MU a b ((X o []).take i) 0;have m:Y ((X o []).take i)<=Y (X o []):=by simp;omega
 rw[aer d,e];unfold EG nH aN au aJ ag al ax bg aH aA bu;dsimp-proj only[aj];simp only[];rw[dX d,cS d];generalize v:(X o [])[i]=x at *;generalize bL ((X o []).take i)=at' at *;have k:=di (i:=i) (by omega);have n:aaX a7 (((max a at':U):L)-(at':L))=((max a at'-at':U):L):=by grind [bV]
 by_cases hk:x.1=1;have g:wid x=Y x.2.1:=by unfold wid;rw[aF hk]
 rw[g]at e ⊢;have h:aaX a7 ((at':L)+ah x.2.1)=((at'+Y x.2.1:U):L):=by grind [ef,bV]
 have p:aaX a7 (((min b (at'+Y x.2.1):U):L)-(at':L))=((min b (at'+Y x.2.1):U):L)-(at':L):=eY (by omega);simp only[hk,h,k,aep,aeq,n,p,ch,sq,bM,ca];by_cases c:max a at'<min b (at'+Y x.2.1);have q:((min b (at'+Y x.2.1):U):L)-(at':L)=((min b (at'+Y x.2.1)-at':U):L):=by omega
 simp only[q,aeo];rw[aF (by simp;omega),aF (by simp;omega),aF c,Uq];simp;rw[aF (by simp;omega),aU (by simp;omega),aU c,ug];have g:wid x=1:=by unfold wid;rw[aU hk]
 rw[g]at e ⊢;have j:(x.1 !=1)=W:=by simpa[bne]using hk
 have h:aaX a7 ((at':L)+1)=((at'+1:U):L):=by grind [bV]
 simp only[j,h,k,ch,bH];by_cases c:max a at'<min b (at'+1);rw[aF (by simp;omega),aF (by simp;omega),aF c,Uq,aU hk];rw[aF (by simp;omega),aU (by simp;omega),aU c,ug];unfold EG aN au aJ ag al ax bg aH aA bu;dsimp-proj only[aj];simp_all
def eT(f:M aK)(a b:L):Q (M aK)×ay:=if a<0\/b<a\/b>bL f then(O,I)else(aY (fE (G a) (G b) 0 f),W)
theorem MV{o:Q (M aK)}(hB:bf (X o [])<=1073741824)(a b:L):qA o a b=J (eT (X o []) a b):=by grind [qA,eT,G2,aB,auz]
theorem jF{o:Q (M aK)}(hB:bf (X o [])<=1073741824)(a b:L):l9 o a b=J (eT (X o []) a b):=by grind [l9,eT,mg,aB,auA]
def hJ(s:M ao):M ao:=match fm s 32 with|.ofNat k=>s.take k|_=>s
def auB(s:M ao):BX s [32]=J (fm s 32):=by unfold BX cw au ag fA;by_cases h:([32]:M ao)=s;subst h;rfl;simp[h,c7];rfl
def Ur{s:M ao}(d:Y s<=1073741824):tB s [32]=J (hJ s,s.drop (Y (hJ s)+1),decide (Y (hJ s)<Y s)):=by
 unfold tB K2 hJ au aJ bg;rw[auB,aB];rcases kX s 32 with⟨e,a⟩|⟨k,e,hk,b,a⟩
 rw[e];simp;rw[e];have w:aaX a7 ((k:L)+ah [(32:ao)])=((k+1:U):L):=by rw[bV (by simp;omega) (by simp;omega)];simp
 have c:bq 0 (k:L) s=s.take k:=gP s 0 k;rw[aF (by simp),w,aF (by simp;omega),iQ,c];grind [aB]
def auC{s:M ao}(a:Y s<=1073741824):Lu s=J (hJ s):=by unfold Lu;rw[Ur a];rfl
theorem wQ{s:M ao}(o:Y s<=1073741824):qw s=J (hJ s):=by
 have run:∀(m:U)(r:M ao⊕bY),m<=Y s->(∀j:U,j<m->s[j]?≠J 32)->yQ s (m:L)=J (.inr r)->bR (yQ s) 0=J r:=by
  intro m r h1 h2 h3;refine eZ (f:=yQ s) m (λi=>(i:L)) (λi l=>?_) h3 (cM (cC (by omega)));have d:i<Y s:=by omega
  have c:=h2 i l;rw[eD d]at c;have g:(a6 s[i]==32)=I:=zy (b:=32) λe=>c (by rw[e]);unfold yQ cw au aJ ag cy ax aH aA c9;rw[dX d,aF (zw d),lF d,g,eY (by omega)];rfl
 unfold qw hJ aW;rcases kX s 32 with⟨e,h⟩|⟨k,e,hk,a,h⟩
 rw[run (Y s) (.inr ()) (eJ _) (λj _=>h j) (by unfold yQ cw au aJ ag cy ax aH aA c9;rw[gm]),e];rfl;have g:(a6 s[k]==32)=W:=by rw[eD a]at hk;rw[uq hk];rfl
 have n:bq 0 (k:L) s=s.take k:=gP s 0 k;rw[run k (.inl (s.take k)) (by omega) h (by unfold yQ cw au aJ ag cy ax aH aA c9;rw[dX a,aF (zw a),lF a,g,aF rfl,aF (by simp;omega),n]),e];rfl
def aes(s:M ao):Y (hJ s)<=Y s:=by unfold hJ;split<;>simp;omega
def zB(b:ao):ay:= !(decide (a6 b<32)||(decide (a6 b>126)||(b==60||(b==62||(b==123||b==125)))))
def oL(s:M ao):ay:=decide (Y s<=64)&&(s.all zB&&(iw (hJ s)&&((decide (Y (hJ s)=Y s)||decide (Y s>Y (hJ s)+1))&&(s.getLastD 0 !=47))))
def aet{s:M ao}(h:s≠[]):H s (Y s-1) 0=s.getLastD 0:=by grind
theorem Us(c:ao):(a6 c==47)=(c==47):=by rw[z8,dK,dK];exact⟨λh=>wO (b:=47) h,λe=>by rw[e];rfl⟩
theorem G3(c:ao):(a6 c==60)=(c==60):=by rw[z8,dK,dK];exact⟨λh=>wO (b:=60) h,λe=>by rw[e];rfl⟩
def b62(c:ao):(a6 c==62)=(c==62):=by rw[z8,dK,dK];exact⟨λh=>wO (b:=62) h,λe=>by rw[e];rfl⟩
def Ut(c:ao):(a6 c==123)=(c==123):=by rw[z8,dK,dK];exact⟨λh=>wO (b:=123) h,λe=>by rw[e];rfl⟩
def auE(c:ao):(a6 c==125)=(c==125):=by rw[z8,dK,dK];exact⟨λh=>wO (b:=125) h,λe=>by rw[e];rfl⟩
def auF(c:ao):oD [60,62,123,125] (a6 c)=J (if c=60 then 0 else if c=62 then 1 else if c=123 then 2 else if c=125 then 3 else-1):=by
 have h:(G (a6 c)).toUInt8=c:=by simp[a6]
 grind [oD,Fm,Fl,aB,fm]
def Uu(s:M ao):Fp s=J (oL s):=by
 unfold Fp oL aW au ag cy bg c9;by_cases d:s.length<=64;by_cases a:s=[];subst a;rfl;have b:0<s.length:=List.length_pos_iff.2 a;have w:a7.wrap (ah s-1)=((s.length-1:U):L):=by grind [ef,bV]
 have e:=wM (f:=Fo s) s zB I 0 (λi h _=>by
  have f4:=auF s[i]
  unfold a6 at f4
  have g:decide (0<=(i:L))=W:=by simp
  have m:bX i s.length=W:=(c7 _ _).2 h
  unfold Fo zB iC aJ cy ax aH aA fA
  rw[dX h,g,lF h,eY (by omega)]
  grind [aB]) (by unfold Fo iC aJ cy ax aH aA fA;rw[gm]) s.length 0 fuel (by omega) (cM (cC (by omega))) (by omega)
 have c0:decide (ah s>64)=I:=by simp;omega
 have c1:(ah s==0)=I:=by simp;omega
 have j:=aes s;simp only[w,c0,c1,fB,aet a,Us];rw[aF (by simp[c7];omega)];cases k:s.getLastD 0==47;rw[aU (by simp),show bR (Fo s) 0=_ from e,aB,List.drop_zero];cases c:s.all zB;simp;rw[aF rfl,pr,Ur (by omega),aB,wN,aB];have l:(s.getLastD 0 !=47)=W:=by grind
 rw[l,iV d];congr 1;cases iw (hJ s);rfl;rw[z8];simp;omega;grind;grind [ah]
def Uv(s:M ao):EM s=J (oL s):=by
 unfold EM oL aW au aJ ag cy ax bg c9;dsimp-proj only[aj];by_cases d:s.length<=64;have g:=wM (f:=EL s) s zB I 0 (λi h _=>by unfold EL zB au aJ ag cy ax aH aA c9;dsimp-proj only[aj];rw[dX h,aF (zw h),lF h,eY (by omega),G3,b62,Ut,auE];cases(decide (a6 s[i]<32)||(decide (a6 s[i]>126)||(s[i]==60||(s[i]==62||(s[i]==123||s[i]==125)))))<;>rfl) (by unfold EL au aJ ag cy ax aH aA c9;dsimp-proj only[aj];rw[gm]) s.length 0 fuel (by omega) (cM (cC (by omega))) (by omega);have c0:decide (ah s>64)=I:=by simp;omega
 have j:=aes s;rw[c0,aU (by simp),show bR (EL s) 0=_ from g,aB,List.drop_zero];cases a:s.all zB;simp;rw[aF rfl,pr,wQ (by omega),aB,Cj,aB,iV d];cases k:iw (hJ s);simp;have b:s≠[]:=by intro e;subst e;revert k;decide
 have c:0<s.length:=List.length_pos_iff.2 b;have w:a7.wrap (ah s-1)=((s.length-1:U):L):=by grind [ef,bV]
 have l:a7.wrap (ah (hJ s)+1)=((hJ s).length:L)+1:=by rw[ef,eY (by omega)]
 simp only[w,l,fB,aet b,bne,Us];rw[aF (by grind [c7])];congr 1;grind [ah];grind [ah]
def qH(s:M ao):ay:=decide (s=[112])||(decide (s=[104])||(decide (s=[108,105])||(decide (s=[116,100])||decide (s=[116,105,116,108,101]))))
theorem Uw(s:M ao):BG s=J (qH s):=rfl
theorem Ux(s:M ao):BW s=J (qH s):=by grind [BW,qH]
def aeu{s:M ao}{j:U}(h:j<Y s):bq (j:L) ((j+1:U):L) s=[s[j]]:=by rw[gP,iU h,List.drop_append_of_le_length (by simp;omega)];simp
def auG{s:M ao}{c:ao}(d:s[0]?≠J c)(q:Y s<=1073741824):th s [c] 1=J (fm s c):=by
 have step:∀j,j<Y s->mO s [c] (j:L)=if s[j]?=J c then J (.inr (.inl (j:L)))else J (.inl ((j+1:U):L)):=λj a=>by
  unfold mO cw aJ ax bg aH aA;have w:aaX a7 ((j:L)+ah [c])=((j+1:U):L):=by rw[bV (by simp;omega) (by simp;omega)];simp
  have g:aaX a7 ((j:L)+1)=((j+1:U):L):=by simp_all
  rw[w,aF (by simp;omega),aF (by simp;omega),aeu a,g,eD a];simp
 have stop:∀j,Y s<=j->j<=Y s+1->mO s [c] (j:L)=J (.inr (.inr ())):=λj a l=>by grind [mO,ah,bV]
 have run:∀(m:U)(r:L⊕bY),1<=m->m<=Y s+1->(∀j,1<=j->j<m->j<Y s/\s[j]?≠J c)->mO s [c] (m:L)=J (.inr r)->bR (mO s [c]) 1=J r:=by intro m r h1 h2 n t;refine eZ (f:=mO s [c]) (m-1) (λi=>((i+1:U):L)) (λi u=>?_) (by grind) (kM (show m-1<=1073741824 by omega) (by decide));let⟨v,x⟩:=n (i+1) (by omega) (by omega);grind
 unfold th aW;rcases kX s c with⟨e,b⟩|⟨k,e,hk,o,b⟩
 rcases je (Y s) 1 with h|h
 rw[run 1 (.inr ()) (by omega) (by omega) (λj _ _=>by omega) (stop 1 (by omega) (by omega)),e];rfl;rw[run (Y s) (.inr ()) h (by omega) (λj _ h=>⟨h,b j⟩) (stop _ (by omega) (by omega)),e];rfl;have p:k≠0:=λh=>by subst h;exact d hk
 rw[run k (.inl (k:L)) (by omega) (by omega) (λj _ h=>⟨by omega,b j h⟩) (by grind),e];rfl
def auH{s:M ao}(c:Y s<=1073741824):K4 s [47]=J (decide (ah s>0)&&a6 (H s (G (aaX a7 (ah s-1))) 0)==47):=by
 unfold K4 Rm au bg;cases b:s with
 |nil=>rfl|cons d r=>
  rw[<-b];have e:0<Y s:=by rw[b];simp
  have w:aaX a7 (ah s-ah [(47:ao)])=((Y s-1:U):L):=by grind [ef,bV]
  have f:aaX a7 (ah s-1)=((Y s-1:U):L):=by simp_all
  have a:Y s-1<Y s:=by omega
  have g:bq ((Y s-1:U):L) (ah s) s=[s[Y s-1]]:=by have:=aeu a;simp_all
  have h:H s (Y s-1) 0=s[Y s-1]:=by grind
  grind [fB,Us,Decidable.decide,ah,aB]
def r8(b:M ao):ay:=decide (ah b>0)&&a6 (H b (G (aaX a7 (ah b-1))) 0)==47
def hM(b:M ao):L×M ao:=if[47].isPrefixOf b then(3,b.drop 1)else if r8 b then(4,b.take (b.length-1))else(2,b)
def qI(b:M ao):ay:=if[47].isPrefixOf b then iw (b.drop 1)else oL (hM b).2
def aev{b:M ao}(h:r8 b=W):0<Y b:=by grind [r8,ef]
def auI{b:M ao}(h:abV [47] b=W):0<Y b:=by grind
def aew{s:M ao}(h:s.length<=67108864):Fq s=J (if fm s 62<1 then((0,[],0),0,I)else(((hM (bq 1 (fm s 62) s)).1,(hM (bq 1 (fm s 62) s)).2,0),fm s 62+1,qI (bq 1 (fm s 62) s))):=by
 unfold Fq cw au aJ ag ax bg;dsimp-proj only[aj];rw[show oD s 62=J (fm s 62)from rfl,aB];rcases kX s 62 with⟨e,d⟩|⟨k,e,hk,f,d⟩
 rw[e];rfl;rw[e];by_cases c:(k:L)<1;grind;rw[ip c,aU (by decide),aU c,aF (by simp;omega),GL,aB];have i:(bq 1 (k:L) s).length<=67108864:=by rw[show(1:L)=((1:U):L)from rfl,gP];simp;omega
 generalize bq 1 (k:L) s=b at *;have w:a7.wrap ((k:L)+1)=(k:L)+1:=by grind [bV]
 have t1:bq 1 (ah b) b=b.drop 1:=iQ b 1;unfold qI hM;cases g:[47].isPrefixOf b with
 |true=>have:=auI g;rw[aF rfl,aF (by simp;omega),t1,wN,aB,w];rfl|false=>
  rw[aU (by decide),auH (by omega),aB];show(if(!r8 b||_)=W then _ else O)=_;cases a:r8 b with|true=>have:=aev a;have j:a7.wrap (ah b-1)=((b.length-1:U):L):=(by grind [ef,bV]);simp_all [bq,r8,Uu]|false=>unfold r8 at a;simp only[a,qQ,xp,bH,bM,ca,Uu,aB,w]
def aex{s:M ao}(o:Y s<=67108864)(f:s[0]?≠J 62):EN s=J (if fm s 62<1 then((0,[],0),0)else if qI (bq 1 (fm s 62) s)=W then(((hM (bq 1 (fm s 62) s)).1,(hM (bq 1 (fm s 62) s)).2,0),fm s 62+1)else((0,[],0),0)):=by
 unfold EN cw au aJ ag cy ax bg c9;dsimp-proj only[aj];rw[auG f (by omega),aB];rcases kX s 62 with⟨e,i⟩|⟨k,e,hk,j,i⟩
 rw[e];rfl;rw[e];have l:k≠0:=λh=>by subst h;exact f hk
 rw[aU (by simp),aU (show ¬(k:L)<1 by omega),aF (by simp;omega),tO,aB];have p:Y (bq 1 (k:L) s)<=67108864:=by rw[show(1:L)=((1:U):L)from rfl,gP];simp;omega
 generalize bq 1 (k:L) s=b at *;have w:aaX a7 ((k:L)+1)=(k:L)+1:=by grind [bV]
 have t1:bq 1 (ah b) b=b.drop 1:=iQ b 1;unfold qI hM;cases q:abV [47] b with
 |true=>grind [ah,Cj,aB]|false=>
  cases a:r8 b with
  |true=>have:=aev a;have d:aaX a7 (ah b-1)=((Y b-1:U):L):=(by grind [ef,bV]);have t2:bq 0 ((Y b-1:U):L) b=b.take (Y b-1):=gP b 0 (Y b-1);unfold r8 at a;simp only[d]at a;have n1:bX (Y b-1) (Y b)=W:=(by rw[c7];omega);have m:decide ((0:L)<=((Y b-1:U):L))=W:=(by simp);have n:decide ((0:L)<=0/\(0:L)<=((Y b-1:U):L)/\((Y b-1:U):L)<=ah b)=W:=(by simp);have d3:((4:L)==3)=I:=rfl;have c:((4:L) !=3)=W:=rfl;rw[fB]at a;simp only[d,fB,a,n1,m,n,t2,d3,c,bH,bM,ca,Uv,aB,w,qR,z7,jI,xi];cases oL (b.take (Y b-1))<;>rfl
  |false=>
   unfold r8 at a;have d3:((2:L)==3)=I:=rfl;have c:((2:L) !=3)=W:=rfl;have g:(!decide (ah b>0)||decide ((0:L)<=aaX a7 (ah b-1))&&bX (G (aaX a7 (ah b-1))) (Y b))=W:=by
    rcases Nat.eq_zero_or_pos (Y b) with h|h
    simp_all;have d:aaX a7 (ah b-1)=((Y b-1:U):L):=(by grind [ef,bV]);grind [c7,fB]
   simp only[g,a,d3,c,bH,bM,ca,Uv,aB,w,qR,uz,z7,qQ,xp];cases oL b<;>rfl
def b38(c:ao):(a6 c==38)=(c==38):=pG rfl
def tS(s:M ao):Q (aK×L):=if fm s 62<1 then O else if qI (bq 1 (fm s 62) s)=W/\qH (hJ (hM (bq 1 (fm s 62) s)).2)=I then J (((hM (bq 1 (fm s 62) s)).1,(hM (bq 1 (fm s 62) s)).2,0),fm s 62+1)else O
def qJ:M ao->aK×L
 |[]=>((0,[],0),0)|c::r=>if c=60 then(X (tS (c::r))) ((0,[],0),0)else if c=38 then match pH (c::r)with|some (d,n)=>((1,[d],0),(n:L))|none=>((0,[],0),0)
  else if c=123 then((jQ (c::r)).1,((jQ (c::r)).2:L))else((1,[c],0),1)
def Cn(b:M ao):Y (hM b).2<=Y b:=by grind [hM]
theorem aez(k:L)(s:M ao):Y (bq 1 k s)<=Y s:=by unfold bq;simp;omega
def aeA{s:M ao}(h:s≠[])(i:Y s<=67108864):KE s=J (qJ s):=by
 cases s with
 |nil=>exact cJ rfl h|cons c r=>
  unfold KE qJ aW au ag fA;dsimp-proj only[aj];have j:bX 0 (Y (c::r))=W:=by simp[c7]
  have k:fQ c.toNat=a6 c:=rfl;simp only[j,qR,bH,pV,k,G3,b38,Ut];by_cases a:c=60;subst a;have t:=aex (s:=60::r) i (by simp);rw[aF (by rfl),aF rfl,t];unfold tS;have hk:=Lib.indexByte_ge (60::r) 62;by_cases h1:fm (60::r) 62<1;simp_all;rw[aU h1,aU h1];have l:=Cn (bq 1 (fm (60::r) 62) (60::r));have g:=aez (fm (60::r) 62) (60::r);grind [wQ,aB,Uw];have e:(c==60)=I:=by simpa using a
  rw[e,aU (by decide),aU a];by_cases b:c=38;subst b;rw[aF (by rfl),aF rfl,aux,aB];cases pH (38::r)<;>rfl;have f:(c==38)=I:=by simpa using b
  rw[f,aU (by decide),aU b];by_cases d:c=123;subst d;rw[aF (by rfl),aF rfl,Ud (by simp) (by simp) (by omega)];rfl;simp_all [oC,Ue]
def auJ(a:Q (M aK))(b d:Q (M L))(e:Q (M aK)×L)(c off:L):wn c off (a,b,d,e)=match rT c off (a,b,d)with|some (r,x,y,z)=>J (r,x,y,z,e)|none=>O:=by
 grind [wn,rT,Fk,qz,aB]
def aeB(a:Q (M aK))(b d:Q (M L))(e:Q (M aK)×L):Fj (a,b,d,e)=match qy (a,b,d)with|some (x,y,z)=>J (x,y,z,e)|none=>O:=by
 grind [Fj,qy]
def Uy(a:Q (M aK))(b d:Q (M L))(e:Q (M aK)×L)(x:aK)(off:L):rR x off (a,b,d,e)=match tC x off (a,b,d)with|some (r,x,y,z)=>J (r,x,y,z,e)|none=>O:=by
 unfold rR tC au ag al bu
 rw[show Fk I (a,b,d,e)=qz I (a,b,d)from rfl,aeB]
 cases qz I (a,b,d)with
 |none=>rfl|some r=>
  simp only[aB];cases r;simp only[bM,ca];cases qy (a,b,d)with|none=>rfl|some q=>let⟨c,g,f⟩:=q;by_cases h1:Y (X c [])<=68719476735<;>by_cases h2:Y (X f [])<=68719476735<;>simp[h1,h2]
  rfl
theorem MW{s:M ao}(a:Y s<=1073741824):wo s=J (hJ s):=by unfold wo;rw[Ur a];rfl
def auK{kind:L}(hk:kind=2\/kind=4)(c:M ao)(off:L)(a:Q (M aK))(b d:Q (M L))(o:Q (M aK))(n:U)(f:Y (X o [])<=1073741824)(g:n<=1073741824):rS (kind,c,0) off (a,b,d,o,(n:L))=aq (rR (kind,c,((n+1:U):L)) off (a,b,d,if kind=2 then J (X o []++[(2,c,((n+1:U):L))])else o,((n+1:U):L))) λr=>aq (mQ r.1) λe=>J (e,r.2):=by grind [rS,bV]
def auL(c:M ao)(off:L)(a:Q (M aK))(b d:Q (M L))(o:Q (M aK))(n:L)(e:X o []=[]):rS (3,c,0) off (a,b,d,o,n)=J (7,a,b,d,o,n):=by unfold rS cG au ag al ax bg bu;dsimp-proj only[aj];simp[e]
def auM(c:M ao)(off:L)(a:Q (M aK))(b d:Q (M L))(o:M aK)(t:aK)(n:L)(m:o.length<=1073741824)(f:t.2.1.length<=1073741824):rS (3,c,0) off (a,b,d,J (o++[t]),n)=if hJ t.2.1=c then aq (rR (3,c,t.2.2) off (a,b,d,J o,n)) λr=>aq (mQ r.1) λe=>J (e,r.2)else J (7,a,b,d,J (o++[t]),n):=by
 unfold rS cG au ag al ax bg bu;dsimp-proj only[aj];have w:a7.wrap (ah (o++[t])-1)=((o.length:U):L):=by grind [ef,bV]
 have d3:((3:L)==3)=W:=rfl;have d2:((3:L)==2)=I:=rfl;have g:(ah (o++[t])==0)=I:=by rw[beq_eq_false_iff_ne,ef];simp;omega
 have h:decide ((0:L)<=(o.length:L)/\(o.length:L)<ah (o++[t]))=W:=by simp;omega
 have i:bX (0+o.length) (o++[t]).length=W:=by rw[c7];simp
 have j:decide ((0:L)<=0/\(0:L)<=(o.length:L)/\(o.length:L)<=ah (o++[t]))=W:=by simp;omega
 have k:(o++[t]).getD (0+o.length) (0,[],0)=t:=by simp
 have l:bq 0 (o.length:L) (o++[t])=o:=by grind [gP]
 simp only[fk,w,d3,d2,g,h,i,j,k,l,fB,MW f,aB,bH,bM,ca,m6,Option.isSome_some,qR,qQ,xp,beq_self_eq_true];grind
abbrev BM:=Q (M aK)×Q (M L)×Q (M L)×Q (M aK)×L
def auN{raw r:M ao}{k:U}(hk:k<Y raw)(e:Y raw<=67108864)(b:raw.drop k=60::r)(q:BM):
  nE raw (k:L) q=match tS (60::r)with|none=>J (0,2,q)|some (x,n)=>aq (rS x (k:L) q) λc=>J (n,c):=by
 have a:Y (60::r)<=67108864:=by grind
 unfold nE cw au aJ ag ax;dsimp-proj only[aj]
 rw[iQ,b,aF (by simp;omega),aF (by simp[c7]),pV,aF (by rfl),aew a,aB]
 unfold tS
 by_cases h1:fm (60::r) 62<1
 grind
 rw[aU h1,aU h1]
 have d:=Cn (bq 1 (fm (60::r) 62) (60::r))
 grind [aez,MW,aB,Ux]
def auO{raw r:M ao}{k:U}(hk:k<Y raw)(b:raw.drop k=38::r)(q:BM):
  nE raw (k:L) q=match pH (38::r)with|none=>J (0,2,q)|some (d,n)=>aq (wn (a6 d) (k:L) q) λa=>aq (mQ a.1) λe=>J ((n:L),e,a.2):=by
 unfold nE cw au aJ ag ax;dsimp-proj only[aj]
 rw[iQ,b,aF (by simp;omega),aF (by simp[c7]),pV,aU (by decide),aF (by rfl),auw,aB]
 grind
theorem auP{raw r:M ao}{c:ao}{k:U}(hk:k<Y raw)(b:raw.drop k=c::r)(h1:c≠60)(h2:c≠38)(h3:c≠123)(q:BM):nE raw (k:L) q=aq (wn (a6 c) (k:L) q) λa=>aq (mQ a.1) λe=>J (1,e,a.2):=by unfold nE cw au aJ ag ax;dsimp-proj only[aj];rw[iQ,b,aF (by simp;omega),aF (by simp[c7]),pV,G3,b38,Ut,aU (by simpa using h1),aU (by simpa using h2),aU (by simpa using h3),aF (by simp[c7])]
theorem auQ{raw r:M ao}{k:U}(hk:k<Y raw)(m:Y raw<=67108864)(d:raw.drop k=123::r)(q:BM):nE raw (k:L) q=if(jQ (123::r)).2=0 then J (0,2,q)else aq (rR (jQ (123::r)).1 (k:L) q) λb=>aq (mQ b.1) λe=>J (((jQ (123::r)).2:L),e,b.2):=by
 have c:Y (123::r)<=67108864:=by grind
 unfold nE jQ cw au aJ ag ax;dsimp-proj only[aj];rw[iQ,d,aF (by simp;omega),aF (by simp[c7]),pV,aU (by decide),aU (by decide),aF (by rfl),Ui,aB];rcases kX (123::r) 125 with⟨e,f⟩|⟨j,e,l,a,f⟩
 rw[e];rfl;rw[e];have n:j≠0:=λh=>by subst h;simp at l
 have o:bq 1 (j:L) (123::r)=((123::r).take j).drop 1:=gP _ 1 j;have w:=di (i:=j) (by omega);have g:decide ((0:L)<=1/\(1:L)<=(j:L)/\(j:L)<=ah (123::r))=W:=by simp at a ⊢;omega
 have p:decide ((j:L)<0)=I:=by simp
 grind [wN,aq]
def auR(c:ao)(r:M ao):qJ (c::r)=if c=60 then(X (tS (c::r))) ((0,[],0),0)else if c=38 then match pH (c::r)with|some (d,n)=>((1,[d],0),(n:L))|none=>((0,[],0),0) else if c=123 then((jQ (c::r)).1,((jQ (c::r)).2:L))else((1,[c],0),1):=rfl
def auS{s:M ao}{d:ao}{n:U}(h:pH s=J (d,n)):1<=n/\n<=Y s:=by grind [pH]
theorem auT(s:M ao):jQ s=((0,[],0),0)\/∃nm,jQ s=((5,nm,0),Y nm+2)/\Y nm+2<=Y s:=by
 unfold jQ;rcases kX s 125 with⟨e,a⟩|⟨j,e,c,b,a⟩
 rw[e];exact .inl rfl;rw[e];grind [iw]
def auU{raw:M ao}{k:U}(hk:k<Y raw)(p:Y raw<=67108864)(q:BM):(qJ (raw.drop k)=((0,[],0),0)/\nE raw (k:L) q=J (0,2,q))\/(∃(t:ao)(n:U),1<=n/\k+n<=Y raw/\qJ (raw.drop k)=((1,[t],0),(n:L))/\nE raw (k:L) q=aq (wn (a6 t) (k:L) q) λf=>aq (mQ f.1) λe=>J ((n:L),e,f.2))\/(∃(nm:M ao)(n:U),Y nm+2=n/\k+n<=Y raw/\qJ (raw.drop k)=((5,nm,0),(n:L))/\nE raw (k:L) q=aq (rR (5,nm,0) (k:L) q) λf=>aq (mQ f.1) λe=>J ((n:L),e,f.2))\/(∃(kd:L)(c:M ao)(n:U),(kd=2\/kd=3\/kd=4)/\Y c+2<=n/\k+n<=Y raw/\qJ (raw.drop k)=((kd,c,0),(n:L))/\nE raw (k:L) q=aq (rS (kd,c,0) (k:L) q) λs=>J ((n:L),s)):=by
 have a:Y (raw.drop k)=Y raw-k:=by simp
 cases m:raw.drop k with
 |nil=>grind|cons c r=>
  rw[m]at a;simp only[kL]at a;rw[auR];by_cases g:c=60;subst g;rw[auN hk p m];simp only[aF rfl];cases b:tS (60::r)with
  |none=>grind|some x=>
   right;right;right;unfold tS at b;split at b;cases b;rename_i h1;split at b;cases b;rcases kX (60::r) 62 with⟨e,l⟩|⟨j,e,w,o,l⟩
   grind;simp only[kL]at o;have h2:=Cn (bq 1 (fm (60::r) 62) (60::r));have u:bq 1 (j:L) (60::r)=((60::r).take j).drop 1:=gP _ 1 j;have v:Y (((60::r).take j).drop 1)=j-1:=(by simp;omega);rw[e]at h1 h2 ⊢;rw[u]at h2 ⊢;refine⟨(hM (((60::r).take j).drop 1)).1,(hM (((60::r).take j).drop 1)).2,j+1,?_,by omega,by omega,rfl,rfl⟩;grind [hM];cases b
  rw[aU g];by_cases h:c=38;subst h;rw[auO hk m];simp only[aF rfl];cases b:pH (38::r)with|none=>grind|some x=>let⟨d,n⟩:=x;right;left;have l:1<=n/\n<=Y (38::r):=auS b;exact⟨d,n,l.1,by simp at l;omega,rfl,rfl⟩
  rw[aU h];by_cases i:c=123;subst i;grind [auQ,auT];grind [auP]
abbrev auV:=Q (M aK)×Q (M aK)×Q (M L)×L×L×L
def RMk(raw:M ao)(x:L×BM)(y:auV):Prop:=∃(k a:U)(items:M aK)(text:M ao)(b:Q (M L))(cs:M L)(o:Q (M aK)),k<=Y raw/\x=((k:L),aY items,b,aY cs,o,(a:L))/\X b []=fL text/\y=(aY (dA items text),o,aY cs,(k:L),(k:L),(a:L))/\qF items/\bf items+(Y text+1)<=2*k+1/\Y cs<=k/\a<=k/\Y (X o [])<=k/\∀t∈X o [],Y t.2.1<=Y raw
def SMk(raw:M ao)(r:(bY×L×L)⊕BM)(q:(Q (M aK)×Q (M L)×L×L)⊕(Q (M aK)×Q (M aK)×Q (M L)×L)):Prop:=(∃(k:U)(e:L),k<=Y raw/\e≠0/\r=.inl ((),(k:L),e)/\q=.inl (O,O,(k:L),e))\/∃(b:U)(items:M aK)(text:M ao)(a:Q (M L))(cs:M L)(o:Q (M aK)),r=.inr (aY items,a,aY cs,o,(b:L))/\X a []=fL text/\q=.inr (aY (dA items text),o,aY cs,(Y raw:L))/\qF items/\bf items+(Y text+1)<=2*Y raw+1/\Y cs<=Y raw
def G4(b:ay):mQ b=J (if b=W then 0 else 3):=by grind [mQ]
def auX{raw:M ao}(Z:raw.length<=67108864):∃r q,bR (K5 raw) (0,O,O,O,O,0)=J r/\bR (pz 1 raw) (O,O,O,0,0,0)=J q/\SMk raw r q:=by
 refine qE (RMk raw) (SMk raw) (λx=>raw.length-x.1.toNat) (λx y h=>?_) ⟨0,0,[],[],O,[],O,by omega,rfl,rfl,rfl,⟨rfl,by simp⟩,by simp[bf],by simp,by omega,by simp,by simp⟩ (cM (cC (by simp;omega)))
 obtain⟨k,f,items,text,T,cs,o,hk,rfl,D,rfl,v,E,P,SN,V,j⟩:=h
 rcases je k raw.length with R|hge
 ·have hti:=eP items
  have hfl:=wP items text
  have hll:=eP (dA items text)
  have d:∀x:aK,bf [x]=x.2.1.length+1:=λx=>by simp[bf]
  have c1:decide ((k:L)<ah raw)=W:=by simp;omega
  have c2:decide (0<=(k:L)/\(k:L)<=ah raw/\ah raw<=ah raw)=W:=by simp;omega
  have hE:rP 1 (raw.drop k)=J (qJ (raw.drop k)):=by
   rw[<-aeA (λh=>by have:=cb ui h;simp at this;omega) (by simp;omega)]
   unfold rP ag;exact aa4 _
  unfold K5 pz cG cw au aJ ag al ax bg aH aA bu;dsimp-proj only[aj]
  simp only[c1,c2,bH,iQ,hE,aB]
  rcases auU R Z (aY items,T,aY cs,o,(f:L))with⟨A,B⟩|⟨t,n,X,F,A,B⟩|⟨N,n,X,F,A,B⟩|⟨kd,c,n,OD,X,F,A,B⟩
  ·right
   rw[B,A]
   exact⟨_,_,rfl,rfl,.inl ⟨k,2,hk,by omega,rfl,rfl⟩⟩
  ·rw[B,A,auJ,Ug D (by omega) (by omega) (by omega)]
   have C:(((n:L)==0)=I):=by grind
   have w:aaX a7 ((k:L)+(n:L))=((k+n:U):L):=by grind [bV]
   have m:=lG (a:=aY (dA items text)) (b:=J [(1,[t],0)]) (by simp[d];omega)
   rw[ch,fk,qG,tQ v,Uf v]at m
   have G:(dA items (text++[t])).length=items.length+1:=by rw[MP];simp
   simp only[C,w,m,ch,G,aB,ef,G4]
   by_cases p:items.length+1>512\/cs.length>=1024
   ·right
    simp only[aF p]
    refine⟨_,_,rfl,?_,.inl ⟨k,3,hk,by omega,rfl,rfl⟩⟩
    simp
    omega
   ·left
    simp only[aU p]
    refine⟨_,_,rfl,?_,⟨k+n,f,items,text++[t],J (fL (text++[t])),cs++[(k:L)],o,by omega,rfl,rfl,rfl,v,by simp;omega,by simp;omega,by omega,by omega,j⟩,by simp;omega⟩
    grind [jD]
  ·rw[B,A,Uy]
   obtain⟨s,u,H⟩:=GR (items:=items) D (by omega) (show cs.length<=1073741824 by omega) (5,N,0) (k:L)
   rw[H]
   have C:(((n:L)==0)=I):=by grind
   have w:aaX a7 ((k:L)+(n:L))=((k+n:U):L):=by grind [bV]
   have m:=lG (a:=aY (dA items text)) (b:=J [(5,N,0)]) (by simp[d];omega)
   obtain⟨f1,f2⟩:=GN v text (x:=(5,N,0)) (show(5:L)≠1 by decide)
   rw[ch,fk,qG,tQ v,f1]at m
   simp only[C,w,m,ch,aB,ef,mo,kL,CI,G4]
   by_cases p:(dA items text).length+1>512\/cs.length>=1024
   ·right
    simp only[aF p]
    refine⟨_,_,rfl,?_,.inl ⟨k,3,hk,by omega,rfl,rfl⟩⟩
    simp
    omega
   ·left
    simp only[aU p]
    refine⟨_,_,rfl,?_,⟨k+n,f,dA items text++[(5,N,0)],[],s,cs++[(k:L)],o,by omega,rfl,u,rfl,f2,by grind [iE],by simp;omega,by omega,by omega,j⟩,by simp;omega⟩
    grind [jD,dA]
  ·have C:(((n:L)==0)=I):=by grind
   have w:aaX a7 ((k:L)+(n:L))=((k+n:U):L):=by grind [bV]
   have wc:=di (i:=f) (by omega)
   rw[B,A]
   rcases(show kd=3\/kd=2\/kd=4 by omega)with rfl|g
   ·
    rcases List.eq_nil_or_concat (o.getD [])with Y|⟨l,t,e⟩
    ·rw[auL c (k:L) _ _ _ o (f:L) Y]
     right
     simp only[aB,C,Y]
     exact⟨_,_,rfl,rfl,.inl ⟨k,7,hk,by omega,rfl,rfl⟩⟩
    ·have e:o.getD []=l++[t]:=by simpa using e
     obtain rfl:o=J (l++[t]):=by
      cases o with
      |none=>simp at e
      |some z=>simp at e;rw[e]
     simp only[fk]at V j
     have htl:=j t (by simp)
     rw[mo,List.length_singleton]at V
     have wl:aaX a7 (ah (l++[t])-1)=((l.length:U):L):=by grind [ef,bV]
     have g1:decide ((0:L)<=(l.length:L)/\(l.length:L)<ah (l++[t]))=W:=by simp;omega
     have g2:bX (0+l.length) (l++[t]).length=W:=by rw[c7];simp
     have g3:decide ((0:L)<=0/\(0:L)<=(l.length:L)/\(l.length:L)<=ah (l++[t]))=W:=by simp;omega
     have g4:decide ((l.length:L)<0)=I:=by simp
     have e2:(l++[t]).getD (0+l.length) (0,[],0)=t:=by simp
     have e3:bq 0 (l.length:L) (l++[t])=l:=by grind [gP]
     have S:qw t.2.1=J (hJ t.2.1):=wQ (by omega)
     have m:=lG (a:=aY (dA items text)) (b:=J [(3,c,t.2.2)]) (by simp[d];omega)
     obtain⟨f1,f2⟩:=GN v text (x:=(3,c,t.2.2)) (show(3:L)≠1 by decide)
     rw[ch,fk,qG,tQ v,f1]at m
     rw[auM c (k:L) _ _ _ l t (f:L) (by omega) (by omega)]
     have q0:(((3:L)==0)=I):=rfl
     have q2:(((3:L)==2)=I):=rfl
     have q3:(((3:L)==3)=W):=rfl
     have q4:(((3:L)==4)=I):=rfl
     simp only[C,wl,g1,g2,g3,g4,e2,e3,S,m,w,q0,q2,q3,q4,aB,fk,m6,fB,bH,ca,bM,qR]
     by_cases K:hJ t.2.1=c
     ·obtain⟨s,u,H⟩:=GR (items:=items) D (by omega) (show cs.length<=1073741824 by omega) (3,c,t.2.2) (k:L)
      rw[aF K,Uy,H]
      by_cases p:(dA items text).length+1>512\/cs.length>=1024
      ·right
       simp only[aF p,K,G4,aB,w]
       refine⟨_,_,rfl,?_,.inl ⟨k,3,hk,by omega,rfl,rfl⟩⟩
       simp
       omega
      ·left
       simp only[aU p,K,G4,aB,w]
       refine⟨_,_,rfl,?_,⟨k+n,f,dA items text++[(3,c,t.2.2)],[],s,cs++[(k:L)],J l,by omega,rfl,u,rfl,f2,by grind [iE],by simp;omega,by omega,by simp;omega,λz hz=>j z (by grind)⟩,by simp;omega⟩
       simp[jD]
       rw[aU (by omega),aF (by omega)]
       simp[dA]
       cases l<;>rfl
     ·right
      rw[aU K]
      simp only[aB]
      refine⟨_,_,rfl,?_,.inl ⟨k,7,hk,by omega,rfl,rfl⟩⟩
      simp[K]
   ·
    have k3:(kd==3)=I:=by rcases g with rfl|rfl<;>rfl
    have k0:(kd==0)=I:=by rcases g with rfl|rfl<;>rfl
    have kk:(if(kd==2)=W then kd==2 else kd==4)=W:=by rcases g with rfl|rfl<;>rfl
    have m:=lG (a:=aY (dA items text)) (b:=J [(kd,c,((f+1:U):L))]) (by simp[d];omega)
    obtain⟨f1,f2⟩:=GN v text (x:=(kd,c,((f+1:U):L))) (show kd≠1 by omega)
    rw[ch,fk,qG,tQ v,f1]at m
    obtain⟨s,u,H⟩:=GR (items:=items) D (by omega) (show cs.length<=1073741824 by omega) (kd,c,((f+1:U):L)) (k:L)
    rw[auK g c (k:L) _ _ _ o f (by omega) (by omega),Uy,H]
    simp only[C,k0,kk,wc,m,w,aB,ch,ef,mo,kL,CI,G4,bH,bM,ca]
    by_cases p:(dA items text).length+1>512\/cs.length>=1024
    ·right
     simp only[aF p]
     refine⟨_,_,rfl,?_,.inl ⟨k,3,hk,by omega,rfl,rfl⟩⟩
     simp
     omega
    ·left
     simp only[aU p]
     refine⟨_,_,rfl,?_,⟨k+n,f+1,dA items text++[(kd,c,((f+1:U):L))],[],s,cs++[(k:L)],if kd=2 then J (o.getD []++[(2,c,((f+1:U):L))])else o,by omega,rfl,u,rfl,f2,by grind [iE],by simp;omega,by omega,by split<;>(try simp)<;>omega,λz hz=>?_⟩,by simp;omega⟩
     ·grind [jD,dA]
     grind
 ·right
  have:k=raw.length:=by omega
  subst this
  have c1:decide (((raw.length:U):L)<ah raw)=I:=by simp
  unfold K5 pz cG cw au aJ ag al ax bg aH aA bu;dsimp-proj only[aj]
  simp only[c1]
  exact⟨_,_,rfl,rfl,.inr ⟨f,items,text,T,cs,o,rfl,D,rfl,v,E,P⟩⟩
theorem MX{raw:M ao}(j:Y raw<=67108864):∃f a at' e,ja 1 raw=J (f,a,at',e)/\BZ raw=J (f,at',e)/\FK raw=J (a,e)/\0<=at'/\at'<=Y raw/\bf (X f [])<=2*Y raw+2:=by
 let⟨r,q,l,m,h⟩:=auX j;unfold ja BZ FK K6 aW au aJ ag al bu;rw[l,m];rcases h with⟨k,e,hk,g,rfl,rfl⟩|⟨n,items,text,p,cs,o,rfl,s,rfl,w,i,t⟩
 refine⟨O,O,k,e,rfl,?_,?_,by omega,by omega,by simp[bf]⟩;simp[g];simp[g];have u:=eP items;have v:=wP items text;by_cases c:Y (X o [])>0;refine⟨O,O,(Y raw:U),7,?_,?_,?_,by omega,by omega,by simp[bf]⟩;simp[c];simp[c];simp[c];have d:∃b,K0 (aY items,p,aY cs,o,(n:L))=J (aY (dA items text),b):=by unfold K0 au;rw[aeB,GQ s (by omega)];simp_all
 let⟨b,d⟩:=d;refine⟨aY (dA items text),J (cs++[(Y raw:L)]),0,0,?_,?_,?_,by omega,by omega,by rw[ch];omega⟩;simp[c];omega;simp[c,d];unfold Rx au al bu;simp[c];rw[aF (by omega)];rfl
def auY{s t:M ao}{j:U}(h:j+Y t<=Y s):decide (bq (j:L) ((j+Y t:U):L) s=t)=Ac s t j:=by rw[gP];grind [Ac,List.prefix_iff_eq_take]
def aeD{s t:M ao}{k:U}(hk:k<=Y s)(l:t≠[])(x:Y s<=67108864)(n:Y t<=67108864):th s t (k:L)=J (if xj (s.drop k) t<0 then-1 else(k:L)+xj (s.drop k) t):=by
 have o:0<Y t:=List.length_pos_iff.2 l;have step:∀j,j+Y t<=Y s->mO s t (j:L)=if Ac s t j=W then J (.inr (.inl (j:L)))else J (.inl ((j+1:U):L)):=λj c=>by
  unfold mO cw aJ ax bg aH aA;have w:aaX a7 ((j:L)+ah t)=((j+Y t:U):L):=by grind [ef,bV]
  have p:=di (i:=j) (by omega);rw[w,aF (by simp;omega),aF (by simp;omega),auY c,p]
 have stop:∀j,Y s<j+Y t->j<=Y s+1->mO s t (j:L)=J (.inr (.inr ())):=λj c q=>by unfold mO cw aJ ax bg aH aA;grind [ef,bV]
 have run:∀(m:U)(r:L⊕bY),k<=m->m<=Y s+1->(∀j,k<=j->j<m->j+Y t<=Y s/\Ac s t j=I)->mO s t (m:L)=J (.inr r)->bR (mO s t) (k:L)=J r:=by intro m r h1 h2 u y;refine eZ (f:=mO s t) (m-k) (λi=>((k+i:U):L)) (λi v=>?_) (by grind) (kM (show m-k<=1073741824 by omega) (by decide));let⟨z,A⟩:=u (k+i) (by omega) (by omega);grind
 have d:∀j,Ac (s.drop k) t j=Ac s t (k+j):=λj=>by unfold Ac;rw[List.drop_drop]
 unfold th aW;rcases Lib.index_spec (s.drop k) t with⟨e,g⟩|⟨i,e,v,B,g⟩
 rw[e];have b:∀j,k<=j->j<=Y s->Ac s t j=I:=λj h1 h2=>by grind [Nat.add_sub_cancel']
 rcases je (Y s) (k+Y t)with h|h
 rw[run k (.inr ()) (eJ _) (by omega) (λj _ _=>by omega) (stop k h (by omega))];rfl;rw[run (Y s+1-Y t) (.inr ()) (by omega) (by omega) (λj h1 h2=>⟨by omega,b j h1 (by omega)⟩) (stop _ (by omega) (by omega))];rfl;have a:=agU (s.drop k) t (by rw[e];omega);rw[e]at a ⊢;simp only[zP]at a;rw[aU (by omega),run (k+i) (.inl ((k+i:U):L)) (by omega) (by omega) (λj h1 h2=>⟨by omega,by have:=g (j-k) (by omega);grind⟩) (by grind)];simp
def r9:M ao->Q (U×M ao)
 |[]=>O|c::r=>if c≠60 then J (1,[])else if[60,33,45,45].isPrefixOf (c::r)=W then match xj ((c::r).drop 4) [45,45,62]with|.ofNat i=>J (i+7,[])|_=>O
  else match fm (c::r) 62 with|.ofNat j=>if j<1 then O else if qI (((c::r).take j).drop 1)=W then(if qH (hJ (hM (((c::r).take j).drop 1)).2)=W then(if(hM (((c::r).take j).drop 1)).1=2 then J (j+1,hJ (hM (((c::r).take j).drop 1)).2)else O)else J (j+1,[]))else O|_=>O
def MY(data:M ao)(q:L)(nm:M ao)(s:L×M ao×Q (M dc)×L):Q ((L×L×M ao×Q (M dc)×L)⊕(Q (M dc)×L×L)⊕(M ao×Q (M dc)×L)):=
    if decide (nat_lit 2+Y nm<=nat_lit 1152921504606846976)=W then
     if
       decide
         (Y ([(60:ao),(47:ao)]++nm)+nat_lit 1<=
           nat_lit 1152921504606846976)=
        W then
      aq
       (th data ([(60:ao),(47:ao)]++nm++[(62:ao)])
         (q))
       λa=>
       if
         decide
           ((0:L)<=q/\
             q<=ah data/\ah data<=ah data)=
          W then
        if
          (!decide (a>=(0:L))||
             decide
              ((0:L)<=q/\
                q<=a/\a<=ah data))=
            W then
         aq
          (ja (1:L)
            (if decide (a>=(0:L))=W then
              bq (q) a data
            else bq (q) (ah data) data))
          λb=>
          if(b.snd.snd.snd !=(0:L))=W then
           J
            (lM
              (mr
                (O,
                  a7.wrap
                   (q+b.snd.snd.fst),
                  b.snd.snd.snd)))
          else
           if decide (a<(0:L))=W then
            J (lM (mr (O,ah data,(2:L))))
           else
            aq (yS (aaX a7 (s.1+(1:L))))
             λc=>
             aq
              (tq c (q) a
                s.2)
              λd=>
              J
               (mr
                 (aaX a7 (aaX a7 (a+ah nm)+(3:L)),
                   a7.wrap (s.1+(1:L)),d))
        else O
       else O
     else O
    else O
def MZ(data:M ao)(q:L)(nm:M ao)(s:L×M ao×L×Q (M dc)):Q ((L×L×M ao×L×Q (M dc))⊕(Q (M dc)×L×L)⊕(M ao×L×Q (M dc))):=
    if
      decide
        ((0:L)<=q/\
          q<=ah data/\ah data<=ah data)=
       W then
     if decide (nat_lit 2+Y nm<=nat_lit 1152921504606846976)=W then
      if
        decide
          (Y ([(60:ao),(47:ao)]++nm)+nat_lit 1<=
            nat_lit 1152921504606846976)=
         W then
       aq
        (Fd.strings_Index (bq (q) (ah data) data)
          ((60:ao)::
            (47:ao)::
              (((nm))++[(62:ao)])))
        λa=>
        if
          decide
            ((0:L)<=q/\
              (q<=
                 if decide (a<(0:L))=W then ah data
                 else aaX a7 (q+a))/\
                (if decide (a<(0:L))=W then ah data
                  else aaX a7 (q+a))<=
                  ah data)=
           W then
         aq
          (BZ
            (bq (q)
              (if decide (a<(0:L))=W then ah data
              else aaX a7 (q+a))
              data))
          λb=>
          if(b.snd.snd !=(0:L))=W then
           J
            (lM
              (mr
                (O,aaX a7 (q+b.snd.fst),
                  b.snd.snd)))
          else
           if decide (a<(0:L))=W then J (lM (mr (O,ah data,(2:L))))
           else
            aq (Fd.strconv_Itoa (aaX a7 (s.1+(1:L)))) λc=>
             aq
              (y8 (q)
                (if decide (a<(0:L))=W then ah data
                else aaX a7 (q+a))
                c s.2)
              λd=>
              if
                (decide (nat_lit 2+Y nm<=nat_lit 1152921504606846976)&&
                   decide
                    (Y ([(60:ao),(47:ao)]++nm)+nat_lit 1<=
                      nat_lit 1152921504606846976))=
                  W then
               J
                (mr
                  (aaX a7
                     ((if decide (a<(0:L))=W then ah data
                       else aaX a7 (q+a))+
                       ah ([(60:ao),(47:ao)]++nm++[(62:ao)])),
                    a7.wrap (s.1+(1:L)),d))
              else O
        else O
      else O
     else O
    else O
def auZ{data nm:M ao}{k b a:U}{P:M dc}(E:data.length<=65536)(hk:k<=data.length)(F:nm.length<=5)(G:b<=65536)(j:a<=k)(l:P.length<=1073741824):(∃at' e:L,e≠0/\MY data (k:L) nm ((b:L),data,aY P,(a:L))=J (.inr (.inl (O,at',e)))/\MZ data (k:L) nm ((b:L),data,(a:L),aY P)=J (.inr (.inl (O,at',e))))\/∃(k2 g:U)(h:M dc),k<k2/\k2<=data.length/\g<=k2/\h.length=P.length+2/\MY data (k:L) nm ((b:L),data,aY P,(a:L))=J (.inl ((k2:L),((b+1:U):L),data,aY h,(g:L)))/\MZ data (k:L) nm ((b:L),data,(a:L),aY P)=J (.inl ((k2:L),((b+1:U):L),data,(g:L),aY h)):=by
 have c1:decide (nat_lit 2+nm.length<=nat_lit 1152921504606846976)=W:=by grind
 have q:decide (([(60:ao),(47:ao)]++nm).length+nat_lit 1<=nat_lit 1152921504606846976)=W:=by grind
 have r:decide ((0:L)<=(k:L)/\(k:L)<=ah data/\ah data<=ah data)=W:=by simp;omega
 have m:([(60:ao),(47:ao)]++nm++[(62:ao)]).length=nm.length+3:=by simp
 have u:=aeD (s:=data) (t:=[(60:ao),(47:ao)]++nm++[(62:ao)]) hk (by simp) (by omega) (by rw[m];omega);have v:Fd.strings_Index (data.drop k) ((60:ao)::(47:ao)::(nm++[(62:ao)]))=J (xj (data.drop k) ([(60:ao),(47:ao)]++nm++[(62:ao)])):=by grind [strings_Index]
 have w:=di (i:=b) (by omega);unfold MY MZ;rw[u];simp only[c1,q,r,iQ,v,aB,bH,Bool.and_self];rcases Lib.index_spec (data.drop k) ([(60:ao),(47:ao)]++nm++[(62:ao)])with⟨e,_⟩|⟨i,e,H,K,_⟩
 rw[e];let⟨f,d,at',n,o,p,_,x,h1,_⟩:=MX (raw:=data.drop k) (by simp;omega);grind [iQ,aB];have c:=agU (data.drop k) ([(60:ao),(47:ao)]++nm++[(62:ao)]) (by rw[e];omega);rw[e,m,zP]at c;rw[e];let⟨f,d,at',n,o,p,_,x,h1,_⟩:=MX (raw:=bq (k:L) ((k+i:U):L) data) (by rw[gP];simp;omega);have d0:¬((i:L)<0):=by omega
 have y:(k:L)+(i:L)=((k+i:U):L):=by omega
 have z:a7.wrap ((k+i:U):L)=((k+i:U):L):=by grind [bV]
 have d1:decide (((k+i:U):L)>=0)=W:=by simp;omega
 have d2:decide ((i:L)<0)=I:=by simp
 have d3:decide ((0:L)<=(k:L)/\(k:L)<=((k+i:U):L)/\((k+i:U):L)<=ah data)=W:=by simp;omega
 have d4:decide (((k+i:U):L)<0)=I:=by simp;omega
 simp only[aU d0,y,z,d1,d2,d3,d4,jI,xi,bM,bH,ca,o,p,aB];by_cases A:n=0;right;subst A;have B:a7.wrap (((k+i:U):L)+ah ([(60:ao),(47:ao)]++nm++[(62:ao)]))=((k+i+nm.length+3:U):L):=by grind [ef,bV]
 have C:a7.wrap (((k+i:U):L)+ah nm)=((k+i+nm.length:U):L):=by grind [ef,bV]
 have D:a7.wrap (((k+i+nm.length:U):L)+3)=((k+i+nm.length+3:U):L):=by grind [bV]
 simp only[sq,bM,ca,w,Uk (b+1) (by omega),aeh (b+1) (by omega),aB,Ul j (Nat.le_add_right k i) (show k+i<=data.length by omega) l,Um j (Nat.le_add_right k i) (show k+i<=data.length by omega) l,B,C,D];exact⟨k+i+nm.length+3,k+i,_,by omega,by omega,by omega,by simp,rfl,rfl⟩;grind
def aeE{s:M ao}{n:U}{nm:M ao}(h:r9 s=J (n,nm)):1<=n/\n<=Y s/\(nm=[]\/qH nm=W):=by
 unfold r9 at h;cases s with
 |nil=>cases h
 |cons c r=>simp only at h;split at h;cases h;simp;split at h;rename_i a;have b:=(NP.1 a).length_le;split at h;rename_i i d;cases h;have:=agU ((c::r).drop 4) [45,45,62] (by grind);grind;cases h;split at h;grind [kX];cases h
def aeF{nm:M ao}(h:qH nm=W):nm.length<=5/\nm≠[]:=by unfold qH at h;simp only[Bool.or_eq_true,decide_eq_true_eq]at h;rcases h with rfl|rfl|rfl|rfl|rfl<;>simp
def aeG(l:M ao):iw (33::l)=I:=by
 unfold iw;have:pF 33=I:=by decide
 simp[this]
def aeH(r:M ao):oL (33::r)=I:=by
 have h:iw (hJ (33::r))=I:=by
  unfold hJ;split;rename_i k _;cases k with|zero=>rfl|succ k=>exact aeG _
  exact aeG _
 unfold oL;rw[h];simp
def au0{s:M ao}(o:s≠[])(C:s.length<=65536):∃(a:L)(b:M ao),K7 s=J (match r9 s with|none=>(a,b,I)|some (n,nm)=>((n:L),nm,W)):=by
 cases s with
 |nil=>exact cJ rfl o|cons c r=>
  unfold K7 r9 cw au ag bg;rw[aF (by simp[c7]),pV];by_cases p:c=60;subst p;have f:(a6 60 !=60)=I:=rfl;simp only[f,bM,ca,GL,aB,ne_eq,not_true_eq_false];by_cases h:[60,33,45,45].isPrefixOf (60::r)=W;have k:=(NP.1 h).length_le;have q:bq (4:L) (ah (60::r)) (60::r)=(60::r).drop 4:=iQ _ 4;have g:decide ((0:L)<=4/\(4:L)<=ah (60::r)/\ah (60::r)<=ah (60::r))=W:=by simp at k ⊢;omega
  have t:Fd.strings_Index ((60::r).drop 4) [45,45,62]=J (xj ((60::r).drop 4) [45,45,62]):=by grind [strings_Index]
  simp only[aF h,g,bH,q,t,aB];have u:=Lib.index_ge ((60::r).drop 4) [45,45,62];have d:=Lib.index_le ((60::r).drop 4) [45,45,62];rw[zP]at d;cases v:xj ((60::r).drop 4) [45,45,62]with|ofNat i=>rw[v]at d;have d:(i:L)<=(60::r).length:=(by grind);have w:a7.wrap (fQ i+7)=((i+7:U):L):=(by grind [bV]);simp_all|negSucc i=>simp_all
  have l:[60,33,45,45].isPrefixOf (60::r)=I:=Bool.not_eq_true _|>.mp h;rw[l,aew (by omega)];simp only[bM,ca,aB];rcases kX (60::r) 62 with⟨e,_⟩|⟨j,e,D,x,_⟩
  simp_all;rw[e];have y:bq 1 (j:L) (60::r)=((60::r).take j).drop 1:=gP _ 1 j;by_cases m:j<1;grind;have d:=Cn (((60::r).take j).drop 1);have z:=MW (s:=(hM (((60::r).take j).drop 1)).2) (by grind);have A:((j:U):L)+1=((j+1:U):L):=by omega
  have B:¬((j:L)<1):=by omega
  simp only[Int.ofNat_eq_natCast,aU m,aU B,y];cases hT:qI (((60::r).take j).drop 1);exact⟨_,_,rfl⟩;simp only[jI,bM,ca,bH,z,aB,Ux];cases hB:qH (hJ (hM (((60::r).take j).drop 1)).2);exact⟨0,[],rfl⟩;simp only[jI,bM,ca,bH];by_cases h2:(hM (((60::r).take j).drop 1)).1=2;simp_all;simp_all;have f:(a6 c !=60)=W:=by have:=G3 c;grind
  simp_all
def au1{data:M ao}{k:U}(hk:k<Y data)(i:Y data<=65536)(s:L×M ao×L×Q (M dc)):
  Fs data ((k:L),s)=match r9 (data.drop k)with|none=>J (.inr (.inl (O,(k:L),2)))|some (n,c)=>if c=[]then J (.inl (((k+n:U):L),s))else MZ data ((k+n:U):L) c s:=by
 have c1:decide ((k:L)<ah data)=W:=by simp;omega
 have e:decide ((0:L)<=(k:L)/\(k:L)<=ah data/\ah data<=ah data)=W:=by simp;omega
 let⟨a,b,f⟩:=au0 (s:=data.drop k) (λh=>by have:=cb ui h;simp at this;omega) (by simp;omega)
 unfold Fs ig cw au aJ ag ax bg aH aA c8 bu iO;dsimp-proj only[aj]
 simp only[c1,e,bH,iQ,f,aB]
 cases g:r9 (data.drop k)with
 |none=>rfl|some x=>
  let⟨n,c⟩:=x;let⟨h1,h2,h3⟩:=aeE g;rw[zP]at h2;have w:aaX a7 ((k:L)+(n:L))=((k+n:U):L):=by grind [bV]
  simp only[jI,bM,ca,w];by_cases d:c=[];grind;rw[aU d,aU (by simpa using d)];rfl
def au2{data:M ao}{k:U}(hk:k<data.length)(Y:data.length<=65536)(s:L×M ao×Q (M dc)×L):
  yT data ((k:L),s)=match r9 (data.drop k)with|none=>J (.inr (.inl (O,(k:L),2)))|some (n,A)=>if A=[]then J (.inl (((k+n:U):L),s))else MY data ((k+n:U):L) A s:=by
 have c1:decide ((k:L)<ah data)=W:=by simp;omega
 have E:decide ((0:L)<=(k:L)/\(k:L)<=ah data/\ah data<=ah data)=W:=by simp;omega
 have F:(decide ((0:L)<=(k:L))&&bX (Int.toNat (k:L)) data.length)=W:=by simp[c7];omega
 have a:(data.drop k).length=data.length-k:=by simp
 cases g:data.drop k with
 |nil=>grind|cons c r=>
  have G:data.getD (Int.toNat (k:L)) 0=c:=by have h1:(data.drop k)[0]?=J c:=(by rw[g];rfl);grind
  rw[g]at a;have l:r.length+1=data.length-k:=a;unfold yT ig cw au aJ ag cy ax bg aH aA c9 bu iO;dsimp-proj only[aj];simp only[c1,E,F,bH,G,iQ,g,tO,aB];by_cases H:c=60;subst H;have m:(a6 60 !=60)=I:=rfl;simp only[m,bM,ca];have d:=aex (s:=60::r) (by omega) (by simp);have fin:∀(b:abV [60,33,45,45] (60::r)=W),(if fm (60::r) 62<1 then(((0,[],0),0):aK×L)else if qI (bq 1 (fm (60::r) 62) (60::r))=W then(((hM (bq 1 (fm (60::r) 62) (60::r))).1,(hM (bq 1 (fm (60::r) 62) (60::r))).2,0),fm (60::r) 62+1)else((0,[],0),0))=((0,[],0),0):=by
   intro b;rcases kX (60::r) 62 with⟨e,_⟩|⟨j,e,B,o,_⟩
   rw[e];rfl;rw[e];have p:bq 1 (j:L) (60::r)=((60::r).take j).drop 1:=gP _ 1 j;let⟨t,K⟩:=NP.1 b;obtain rfl:r=33::45::45::t:=(by simpa using K.symm);have N:4<=j:=by
    match j,B with|0,h=>simp at h|1,h=>simp at h|2,h=>simp at h|3,h=>simp at h|j+4,_=>omega
   obtain⟨j',rfl⟩:∃j',j=j'+4:=⟨j-4,by omega⟩;have P:((60::33::45::45::t).take (j'+4)).drop 1=33::45::45::t.take j':=(by simp);have q:qI (33::45::45::t.take j')=I:=(by unfold qI hM;rw[aU (by simp),aU (by simp)];split;simpa using aeH _;exact aeH _);rw[p,P,q];simp
  unfold r9;simp only[ne_eq,not_true_eq_false,ca];by_cases b:abV [60,33,45,45] (60::r)=W;have u:=(NP.1 b).length_le;have R:aaX a7 ((k:L)+4)=((k+4:U):L):=by grind [bV]
  have f:4<=(60::r).length:=u;have C:=aeD (s:=data) (t:=[45,45,62]) (k:=k+4) (by simp at f;omega) (by simp) (by omega) (by simp);have hd:data.drop (k+4)=(60::r).drop 4:=by rw[<-g,List.drop_drop]
  rw[hd]at C;simp only[aF b,R,C,aB];have S:=Lib.index_ge ((60::r).drop 4) [45,45,62];have v:=Lib.index_le ((60::r).drop 4) [45,45,62];cases Z:xj ((60::r).drop 4) [45,45,62]with|ofNat i=>grind [bV]|negSucc i=>grind [aB,wQ]
  have x:abV [60,33,45,45] (60::r)=I:=Bool.not_eq_true _|>.mp b;simp only[x,bM,ca,d,aB];rcases kX (60::r) 62 with⟨e,_⟩|⟨j,e,B,o,_⟩
  simp_all [wQ];rw[e];have p:bq 1 (j:L) (60::r)=((60::r).take j).drop 1:=gP _ 1 j;by_cases y:j<1;grind;have v:=Cn (((60::r).take j).drop 1);have D:(((60::r).take j).drop 1).length<=(60::r).length:=by simp;omega
  have T:¬((j:L)<1):=by omega
  simp only[Int.ofNat_eq_natCast,aU y,aU T,p];cases hT:qI (((60::r).take j).drop 1);rfl;have V:=wQ (s:=(hM (((60::r).take j).drop 1)).2) (by omega);have X:(((j:L)+1==0)=I):=by grind
  have w:aaX a7 ((k:L)+((j:L)+1))=((k+(j+1):U):L):=by grind [bV]
  simp only[bH,V,X,aB,Uw,bM,ca,w];cases hB:qH (hJ (hM (((60::r).take j).drop 1)).2);simp;have z:=(aeF hB).2;by_cases h2:(hM (((60::r).take j).drop 1)).1=2;simp only[h2,sq,Bool.and_false,bM,ca,jI,bH,aU z];rfl;grind;grind [G3,bV,r9]
def au3{data:M ao}(d:Y data<=65536):∃r q,bR (Fs data) (0,0,data,0,O)=J r/\bR (yT data) (0,0,data,O,0)=J q/\((∃a e:L,e≠0/\r=.inl (O,a,e)/\q=.inl (O,a,e))\/∃(a:U)(P:M dc),a<=Y data/\Y P<=2*Y data/\r=.inr (data,(a:L),aY P)/\q=.inr (data,aY P,(a:L))):=by
 refine qE (λx y=>∃(k b a:U)(P:M dc),k<=Y data/\b<=k/\a<=k/\Y P<=2*k/\x=((k:L),(b:L),data,(a:L),aY P)/\y=((k:L),(b:L),data,aY P,(a:L))) _ (λx=>Y data-G x.1) (λx y h=>?_) ⟨0,0,0,[],by omega,by omega,by omega,by simp,rfl,rfl⟩ (cM (cC (by simp;omega)));obtain⟨k,b,a,P,hk,p,s,t,rfl,rfl⟩:=h;rcases je k (Y data) with c|j
 rw[au1 c d,au2 c d];cases l:r9 (data.drop k)with
 |none=>simp_all|some x=>
  let⟨n,nm⟩:=x;let⟨h1,h2,h3⟩:=aeE l;rw[zP]at h2;by_cases f:nm=[];left;simp only[aF f];exact⟨_,_,rfl,rfl,⟨k+n,b,a,P,by omega,by omega,by omega,by omega,rfl,rfl⟩,by simp;omega⟩;have hB:=aeF (h3.resolve_left f);simp only[aU f];rcases auZ (data:=data) (nm:=nm) (k:=k+n) (b:=b) (a:=a) (P:=P) d (by omega) hB.1 (by omega) (by omega) (by omega)with⟨at',e,u,g,i⟩|⟨k2,m,o,v,w,z,A,g,i⟩
  grind;left;rw[g,i];exact⟨_,_,rfl,rfl,⟨k2,b+1,m,o,by omega,by omega,by omega,by omega,rfl,rfl⟩,by simp;omega⟩
 right;have c1:decide ((k:L)<ah data)=I:=by simp;omega
 unfold Fs yT ig cw au aJ ag cy ax bg aH aA c8 c9 bu iO;dsimp-proj only[aj];simp only[c1,bM,ca];exact⟨_,_,rfl,rfl,.inr ⟨a,P,by omega,by omega,rfl,rfl⟩⟩
def au4{data:M ao}(b:Y data<=65536):∃P at' e,BJ data=J (P,at',e)/\Ft data=J (P,at',e)/\Y (X P [])<=2*Y data+1:=by
 let⟨r,q,d,f,h⟩:=au3 b;unfold BJ Ft y6 aW aJ;have c:decide (ah data>65536)=I:=by simp;omega
 rw[f,c];simp only[bM,ca,aB,d];rcases h with⟨a,e,g,rfl,rfl⟩|⟨a,P,i,j,rfl,rfl⟩
 simp_all;unfold tm y7 au al bu;simp only[aB,pr,ch];rw[aF (by simp;omega),aF (by simp;omega)];simp_all
def aeI{raw:M ao}{k:U}(hk:k<raw.length)(F:raw.length<=67108864)(a:Q (M aK))(b d:Q (M L))(m la:L):(wh (raw.drop k)=J ((0,[],0),0)/\y9 raw (k:L) (a,b,d,m,la)=J ((k:L),2,a,b,d,m,la))\/(∃n:U,2<=n/\k+n<=raw.length/\wh (raw.drop k)=J ((0,[],0),(n:L))/\y9 raw (k:L) (a,b,d,m,la)=J (((k+n:U):L),0,a,b,d,m,la))\/(∃(t:ao)(n:U),1<=n/\k+n<=raw.length/\wh (raw.drop k)=J ((1,[t],0),(n:L))/\y9 raw (k:L) (a,b,d,m,la)=aq (B1 (a6 t) m (a,b,d,m,la)) λr=>if(!r.fst)=W then J ((k:L),3,r.snd)else J (((k+n:U):L),0,r.snd.fst,r.snd.snd.fst,r.snd.snd.snd.fst,((k+n:U):L),((k+n:U):L)))\/(∃(nm:M ao)(n:U),nm.length+2=n/\k+n<=raw.length/\wh (raw.drop k)=J ((5,nm,0),(n:L))/\y9 raw (k:L) (a,b,d,m,la)=aq (Fw (5,nm,0) m (a,b,d,m,la)) λr=>if(!r.fst)=W then J ((k:L),3,r.snd)else J (((k+n:U):L),0,r.snd.fst,r.snd.snd.fst,r.snd.snd.snd.fst,((k+n:U):L),((k+n:U):L))):=by
 have f:(raw.drop k).length=raw.length-k:=by simp
 have G:aaX a7 ((k:L)+2)=((k+2:U):L):=by grind [bV]
 have H:=di (i:=k) (by omega);have u:=λh=>aut (raw:=raw) (k:=k) h F;unfold y9 aW cw au aJ ag ax bg fA bu;dsimp-proj only[aj];rw[aF (by simp;omega),iQ,Ui,H,G];cases K:raw.drop k with
 |nil=>grind|cons c r=>
  rw[K]at f u;simp only[kL]at f;have N:bX 0 (c::r).length=W:=by simp[c7]
  unfold wh aW au aJ ag fA bu;dsimp-proj only[aj];simp only[N,pV,uz,bH,r7,b92,ael];by_cases z:c=10;grind;have w:(c==10)=I:=by simpa using z
  by_cases p:c=123;subst p;have A:=Ud (s:=123::r) (by simp) (by simp) (by simp;omega);have o:((123:ao)==92)=I:=rfl;have l:((123:ao)==123)=W:=rfl;simp only[w,o,l,A,aB,bM,ca,bH,qQ,xp,qR,Ab];unfold jQ;rcases kX (123::r) 125 with⟨e,P⟩|⟨j,e,R,B,P⟩
  grind;have S:j≠0:=λh=>by subst h;simp at R
  simp only[kL]at B;have T:bq 1 (j:L) (123::r)=((123::r).take j).drop 1:=gP (123::r) 1 j;have V:(((123::r).take j).drop 1).length=j-1:=by simp;omega
  have g:decide ((0:L)<=1/\1<=(j:L)/\(j:L)<=ah (123::r))=W:=by simp;omega
  have X:aaX a7 (aaX a7 ((k:L)+(j:L))+1)=((k+(j+1):U):L):=by grind [bV]
  rw[e,aU (by simp),g,T,wN,X];simp only[Int.ofNat_eq_natCast,aB,bH];cases Y:iw (((123::r).take j).drop 1);grind;right;right;grind;have l:(c==123)=I:=by simpa using p
  by_cases x:c=92;subst x;have o:((92:ao)==92)=W:=rfl;cases r with
  |nil=>simp|cons t r=>
   have C:bX 1 (92::t::r).length=W:=(by simp[c7]);have D:decide (ah (92::t::r)>1)=W:=(by simp;omega);have E:decide (ah (92::t::r)<2)=I:=(by simp;omega);have Z:fQ t.toNat=a6 t:=rfl;simp only[w,o,l,C,D,E,List.getD_cons_succ,pV,r7,Z,auv,auu,aB,bM,ca,bH,jI,qQ,xp,xi,z7,qR,uz,Ab];by_cases t10:t=10;right;left;subst t10;let⟨n,q1,q2,q3,q4⟩:=u (by simp at f;omega);refine⟨n,q1,q2,?_,?_⟩;simp only[Cm];simp_all;simp_all;have q:(t==10)=I:=(by simpa using t10);have y:(a6 t !=10)=W:=(by unfold bne;rw[r7,q];rfl);rw[q,y];cases hE:Cm t with|none=>simp_all|some v=>right;right;left;exact⟨v,2,by omega,by simp at f;omega,rfl,by simp⟩
  have o:(c==92)=I:=by simpa using x
  right;right;left;refine⟨c,1,by omega,by omega,?_,?_⟩;have:=Ue c;simp_all [a6,oC];grind
def RX(raw:M ao)(x:L×aej)(y:Q (M aK)×Q (M aK)×Q (M L)×L×L×L):Prop:=∃(k a:U)(items:M aK)(text:M ao)(b:Q (M L))(cs:M L),k<=Y raw/\a<=k/\x=((k:L),aY items,b,aY cs,(a:L),(a:L))/\X b []=fL text/\y=(aY (dA items text),O,aY cs,(k:L),(a:L),0)/\qF items/\bf items+(Y text+1)<=2*k+1/\Y cs<=k
def SX(raw:M ao)(r:(bY×L×L)⊕aej)(q:(Q (M aK)×Q (M L)×L×L)⊕(Q (M aK)×Q (M aK)×Q (M L)×L)):Prop:=(∃(k:U)(e:L),k<=Y raw/\e≠0/\r=.inl ((),(k:L),e)/\q=.inl (O,O,(k:L),e))\/∃(a:U)(items:M aK)(text:M ao)(b:Q (M L))(cs:M L),a<=Y raw/\r=.inr (aY items,b,aY cs,(a:L),(a:L))/\X b []=fL text/\q=.inr (aY (dA items text),O,aY cs,(a:L))/\qF items/\bf items+(Y text+1)<=2*Y raw+1/\Y cs<=Y raw
def aeJ{raw:M ao}(G:Y raw<=67108864):∃r q,bR (La raw) (0,O,O,O,0,0)=J r/\bR (pz 2 raw) (O,O,O,0,0,0)=J q/\SX raw r q:=by
 refine qE (RX raw) (SX raw) (λx=>Y raw-x.1.toNat) (λx y h=>?_) ⟨0,0,[],[],O,[],by omega,by omega,rfl,rfl,rfl,⟨rfl,by simp⟩,by simp[bf],by simp⟩ (cM (cC (by simp;omega)));obtain⟨k,d,items,text,z,cs,hk,A,rfl,u,rfl,e,i,B⟩:=h;rcases je k (Y raw) with C|H
 have K:=eP items;have N:=wP items text;have P:=eP (dA items text);have c:∀x:aK,bf [x]=Y x.2.1+1:=λx=>by simp[bf]
 have c1:decide ((k:L)<ah raw)=W:=by simp;omega
 have R:decide (0<=(k:L)/\(k:L)<=ah raw/\ah raw<=ah raw)=W:=by simp;omega
 have S:∀s,rP 2 s=wh s:=λs=>by unfold rP ag;exact aa4 _
 unfold La pz cG cw au aJ ag al ax bg aH aA bu;dsimp-proj only[aj];simp only[c1,R,bH,iQ,S,aB];rcases aeI C G (aY items) z (aY cs) (d:L) (d:L)with⟨f,g⟩|⟨n,F,j,f,g⟩|⟨t,n,F,j,f,g⟩|⟨v,n,F,j,f,g⟩
 right;rw[g,f];exact⟨_,_,rfl,rfl,.inl ⟨k,2,hk,by omega,rfl,rfl⟩⟩;left;rw[g,f];have l:(((n:L)==0)=I):=by grind
 have w:aaX a7 ((k:L)+(n:L))=((k+n:U):L):=by grind [bV]
 simp only[aB,l,w];exact⟨_,_,rfl,rfl,⟨k+n,d,items,text,z,cs,by omega,by omega,rfl,u,rfl,e,by omega,by omega⟩,by simp;omega⟩;rw[g,f,aun,Ug u (by omega) (by omega) (by omega)];have l:(((n:L)==0)=I):=by grind
 have w:aaX a7 ((k:L)+(n:L))=((k+n:U):L):=by grind [bV]
 have m:=lG (a:=aY (dA items text)) (b:=J [(1,[t],0)]) (by simp[c];omega);rw[ch,fk,qG,tQ e,Uf e]at m;have o:Y (dA items (text++[t]))=Y items+1:=by rw[MP];simp
 simp only[l,w,m,ch,o,aB,ef];by_cases p:Y items+1>512\/Y cs>=1024;right;simp only[aF p];refine⟨_,_,rfl,?_,.inl ⟨k,3,hk,by omega,rfl,rfl⟩⟩;simp;omega;left;simp only[aU p];refine⟨_,_,rfl,?_,⟨k+n,k+n,items,text++[t],J (fL (text++[t])),cs++[(d:L)],by omega,by omega,rfl,rfl,rfl,e,by simp;omega,by simp;omega⟩,by simp;omega⟩;grind [jD];rw[g,f,auo];let⟨D,E,T⟩:=GR (items:=items) u (by omega) (show Y cs<=1073741824 by omega) (5,v,0) (d:L);rw[T];have l:(((n:L)==0)=I):=by grind
 have w:aaX a7 ((k:L)+(n:L))=((k+n:U):L):=by grind [bV]
 have m:=lG (a:=aY (dA items text)) (b:=J [(5,v,0)]) (by simp[c];omega);let⟨f1,f2⟩:=GN e text (x:=(5,v,0)) (show(5:L)≠1 by decide);rw[ch,fk,qG,tQ e,f1]at m;simp only[l,w,m,ch,aB,ef,mo,kL,CI];by_cases p:Y (dA items text)+1>512\/Y cs>=1024;right;simp only[aF p];refine⟨_,_,rfl,?_,.inl ⟨k,3,hk,by omega,rfl,rfl⟩⟩;simp;omega;left;simp only[aU p];refine⟨_,_,rfl,?_,⟨k+n,k+n,dA items text++[(5,v,0)],[],D,cs++[(d:L)],by omega,by omega,rfl,E,rfl,f2,by grind [iE],by simp;omega⟩,by simp;omega⟩;grind [jD,dA];right;have:k=Y raw:=by omega
 subst this;have c1:decide (((Y raw:U):L)<ah raw)=I:=by simp
 unfold La pz cG cw au aJ ag al ax bg aH aA bu;dsimp-proj only[aj];simp only[c1];exact⟨_,_,rfl,rfl,.inr ⟨d,items,text,z,cs,A,rfl,u,rfl,e,i,B⟩⟩
theorem aeK{raw:M ao}(i:Y raw<=67108864):∃f a at' e,ja 2 raw=J (f,a,at',e)/\za raw=J (f,at',e)/\0<=at'/\at'<=Y raw/\bf (X f [])<=2*Y raw+2:=by
 let⟨r,q,j,l,h⟩:=aeJ i;unfold ja za Fy aW au aJ ag al bu;rw[j,l];rcases h with⟨k,e,hk,m,rfl,rfl⟩|⟨c,items,text,n,cs,o,rfl,p,rfl,v,g,s⟩
 refine⟨O,O,k,e,rfl,?_,by omega,by omega,by simp[bf]⟩;simp[m];have t:=eP items;have u:=wP items text;have d:∃b,B0 (aY items,n,aY cs,(c:L),(c:L))=J (aY (dA items text),b):=by unfold B0 au;rw[Un,GQ p (by omega)];simp_all
 let⟨b,d⟩:=d;refine⟨aY (dA items text),J (cs++[(c:L)]),0,0,?_,?_,by omega,by omega,by rw[ch];omega⟩;simp;omega;simp[d]
def au5{data:M ao}(b:Y data<=67108864)(p:ay){k:U}(hk:k<=Y data):∃n:U,k<=n/\n<=Y data/\tu data (k:L) p=J (n:L):=by
 obtain⟨r,e,n,h1,h2,rfl⟩:=gl (f:=yU data p) (λx=>∃n:U,k<=n/\n<=Y data+1/\x=(n:L)) (λx=>Y data+2-G x) (λr=>∃n:U,k<=n/\n<=Y data+1/\r=(n:L)) (λx h=>by
  obtain⟨n,h1,h2,rfl⟩:=h
  unfold yU au ag cy ax aH aA c9
  have c:=di (i:=n) (by omega)
  have d:aaX a7 (((n+1:U):L)+1)=((n+2:U):L):=by grind [bV]
  by_cases a:n<Y data
  have c1:decide ((n:L)<ah data)=W:=by simp;omega
  have g:bX n (Y data)=W:=(c7 _ _).2 a
  grind
  grind [ah]) (k:L) ⟨k,by omega,by omega,rfl⟩ (kM (xo _ _) (kM (show Y data+2<=67108866 by omega) (by decide)))
 grind [tu,aB,ji,ef]
def au6(data:M ao)(at':L):Ro data at'=tu data at' W:=by rfl
def kE(c:ao):ay:=(decide (a6 c>=97)&&decide (a6 c<=122))||(decide (a6 c>=48)&&decide (a6 c<=57))||a6 c==46||a6 c==95||a6 c==45
theorem aeL(c:ao):KJ (a6 c)=J (kE c):=by grind [KJ,kE]
theorem aeM(c:ao):(if decide (a6 c>=(97:L))=W then !decide (a6 c<=(122:L))&& if decide (a6 c>=(48:L))=W then !decide (a6 c<=(57:L))&& (!a6 c==(46:L)&& (!a6 c==(95:L)&& !a6 c==(45:L))) else !a6 c==(46:L)&& (!a6 c==(95:L)&& !a6 c==(45:L))
  else
   if decide (a6 c>=(48:L))=W then
    !decide (a6 c<=(57:L))&&
     (!a6 c==(46:L)&&
       (!a6 c==(95:L)&&
         !a6 c==(45:L)))
   else
    !a6 c==(46:L)&&
     (!a6 c==(95:L)&&
       !a6 c==(45:L)))= !kE c:=by
 grind [kE]
def tT{α:Type}(p:α->ay):∀s:M α,Y (s.takeWhile p)<=Y s/\(∀i,i<Y (s.takeWhile p)->∀h:i<Y s,p s[i]=W)/\∀h:Y (s.takeWhile p)<Y s,p s[Y (s.takeWhile p)]=I|[]=>by simp|c::s=>by let⟨h1,h2,h3⟩:=tT p s;grind [HM]
def au7{s:M ao}(d:Y s<=67108864):Lc s=J ((min 65 (Y (s.takeWhile kE)):U):L):=by
 let⟨h1,h2,h3⟩:=tT kE s;have:=eZ (f:=Lb s) (min 65 (Y (s.takeWhile kE))) (λi=>(i:L)) (r:=((min 65 (Y (s.takeWhile kE)):U):L)) (λi e=>by
  have a:i<Y s:=by omega
  have hk:=h2 i (by omega) a
  unfold Lb au aJ ag cy ax aH aA c9;dsimp-proj only[aj]
  have g:H s i 0=s[i]:=by grind
  grind [bV,ah,c7,aeM]) (by
  unfold Lb au aJ ag cy ax aH aA c9;dsimp-proj only[aj]
  by_cases b:Y (s.takeWhile kE)<65
  have c:min 65 (Y (s.takeWhile kE))=Y (s.takeWhile kE):=by omega
  simp only[c]
  by_cases a:Y (s.takeWhile kE)<Y s
  grind [c7,aeM]
  grind [ah]
  grind) (kM (show min 65 (Y (s.takeWhile kE))<=65 by omega) (by decide))
 grind [Lc,aB]
def au8{data:M ao}(g:Y data<=67108864){k:U}(hk:k<=Y data)(z:M ao×Q (M (ay×M ao×M ao))×L):bR (EU data ((k:L),z)) (k:L)=J ((k+min 64 (Y ((data.drop k).takeWhile kE)):U):L):=by
 let⟨h1,h2,h3⟩:=tT kE (data.drop k);generalize h:Y ((data.drop k).takeWhile kE)=n at h1 h2 h3;have hd:Y (data.drop k)=Y data-k:=by simp
 have w0:aaX a7 ((k:L)+64)=((k+64:U):L):=by grind [bV]
 have:=eZ (f:=EU data ((k:L),z)) (min 64 n) (λi=>((k+i:U):L)) (r:=((k+min 64 n:U):L)) (λi j=>by
  have a:k+i<Y data:=by omega
  have hk:=h2 i (by omega) (by omega)
  rw[Ad]at hk
  unfold EU iC aJ ag cy ax bg aH aA fA
  have b:H data (k+i) 0=data[k+i]:=by grind
  have c:fQ data[k+i].toNat=a6 data[k+i]:=rfl
  grind [bV,ah,c7,aeL,aB]) (by
  unfold EU iC aJ ag cy ax bg aH aA fA
  simp only[w0]
  by_cases d:n<64
  have e:min 64 n=n:=by omega
  simp only[e]
  by_cases a:k+n<Y data
  have hk:=h3 (by omega)
  rw[Ad]at hk
  have b:H data (k+n) 0=data[k+n]:=by grind
  have c:fQ data[k+n].toNat=a6 data[k+n]:=rfl
  grind [c7,aeL,aB]
  grind [ah]
  grind) (kM (show min 64 n<=64 by omega) (by decide))
 exact this
theorem M0{V:Type}(x:M ao)(r:M ao×V)(l:M (M ao×V)):dr .bj x (r::l)=if x=r.1 then J r.2 else dr .bj x l:=by grind [jx,dr]
def au9{V:Type}(x:M ao)(y:V)(r:M ao×V)(l:M (M ao×V)):fV .bj x y (r::l)=if x=r.1 then(x,y)::l else r::fV .bj x y l:=by grind [jx,fV]
def ava{V:Type}(x:M ao)(y:V):fV .bj x y []=[(x,y)]:=rfl
theorem aeN{V:Type}(z x:M ao)(y:V):∀l:M (M ao×V),dr .bj z (fV .bj x y l)=if z=x then J y else dr .bj z l|[]=>by rw[ava,M0]|r::l=>by rw[au9];by_cases h:x=r.1;grind [M0];rw[aU h,M0,M0,aeN z x y l];grind
def G5(P:M dc)(key:M ao):ay:=P.any λp=>p.1&&decide (p.2.1=key)
def KM(m:M (M ao×ay))(P:M dc):Prop:=∀key,X (dr .bj key m) I=G5 P key
def avb:KM [] []:=λ_=>rfl
def avc{m:M (M ao×ay)}{P:M dc}(h:KM m P)(key x y:M ao):KM (fV .bj key W m) (P++[(I,[],x),(W,key,y)]):=λz=>by have:=h z;grind [G5,aeN]
def avd{P:M dc}(a:P.length<=67108864)(key:M ao):KI (aY P) key=J (G5 P key):=by
 have:=wM (f:=ET (aY P) key) P (λp=> !(p.1&&decide (p.2.1=key))) W 0 (λi h _=>by
  unfold ET au aJ ag al ax aH aA;dsimp-proj only[aj]
  have b:P.getD i (I,[],[])=P[i]:=by grind
  grind [bV,ah,c7,ch]) (by
  grind [ET,ah,ch]) P.length 0 fuel (by omega) (kM a (by decide)) (by omega)
 unfold KI aW;have e:bR (ET (aY P) key) 0=J (if(P.drop 0).all (λp=> !(p.1&&decide (p.2.1=key)))then .inr ()else .inl W):=this;rw[e,aB,List.drop_zero];unfold G5;have h2:(P.all λp=> !(p.1&&decide (p.2.1=key)))= !(P.any λp=>p.1&&decide (p.2.1=key)):=by grind
 rw[h2];cases(P.any λp=>p.1&&decide (p.2.1=key))<;>rfl
def gQ(c:ao):ay:= !(c==10)
def gF(c:ao):ay:=c==32||c==9
def G6{α:Type}{p:α->ay}:∀{s:M α}{k:U},(∀i,i<k->∀h:i<Y s,p s[i]=W)->(k=Y s\/∃h:k<Y s,p s[k]=I)->(s.takeWhile p)=s.take k|[],k,_,_=>by simp|c::s,0,_,h=>by simp_all|c::s,k+1,h1,h2=>by have a:p c=W:=h1 0 (by omega) (by simp);simp only[HM,a,bH,List.take_succ_cons];congr 1;refine G6 (λi b h=>h1 (i+1) (by omega) (by simpa using h)) ?_;grind
def ave(s:M ao):BX s [10]=J (fm s 10):=by unfold BX cw au ag fA;by_cases h:([10]:M ao)=s;subst h;rfl;simp[h,c7];rfl
def avf{s:M ao}(f:Y s<=1073741824):∃b,tB s [10]=J (s.takeWhile gQ,b):=by
 unfold tB K2 au aJ bg;rw[ave,aB];rcases kX s 10 with⟨e,c⟩|⟨k,e,hk,a,c⟩
 rw[e];have:s.takeWhile gQ=s:=by rw[G6 (k:=Y s) (λi _ h=>by have:=c i;simp_all [gQ]) (.inl rfl),zT]
 simp_all;rw[e];have w:aaX a7 ((k:L)+ah [(10:ao)])=((k+1:U):L):=by rw[bV (by simp;omega) (by simp;omega)];simp
 have d:bq 0 (k:L) s=s.take k:=gP s 0 k;rw[aF (by simp),w,aF (by simp;omega),iQ,d];have:s.takeWhile gQ=s.take k:=G6 (λi g h=>by grind [gQ]) (.inr ⟨a,by grind [gQ]⟩);simp_all
def avg{data:M ao}(h:Y data<=67108864){k:U}(hk:k<=Y data):tu data (k:L) I=J ((k+Y ((data.drop k).takeWhile gQ):U):L):=by
 let⟨h1,h2,h3⟩:=tT gQ (data.drop k);generalize j:Y ((data.drop k).takeWhile gQ)=n at h1 h2 h3;have hd:Y (data.drop k)=Y data-k:=by simp
 have:bR (yU data I) (((k+0:U):L))=J ((k+n:U):L):=eZ (f:=yU data I) n (λi=>((k+i:U):L)) (r:=((k+n:U):L)) (λi b=>by
  have a:k+i<Y data:=by omega
  have hk:=h2 i b (by omega)
  rw[Ad]at hk
  unfold yU au ag cy ax aH aA c9
  have c:H data (k+i) 0=data[k+i]:=by grind
  have l:aaX a7 (((k+i:U):L)+1)=((k+(i+1):U):L):=by grind [bV]
  have c1:decide (((k+i:U):L)<ah data)=W:=by simp;omega
  have d:bX (k+i) (Y data)=W:=(c7 _ _).2 a
  have e:decide ((0:L)<=((k+i:U):L))=W:=by simp;omega
  have g:(a6 data[k+i] !=10)=W:=by unfold bne;rw[r7];exact hk
  grind) (by
  unfold yU au ag cy ax aH aA c9
  by_cases a:k+n<Y data
  have hk:=h3 (by omega)
  rw[Ad]at hk
  have c:H data (k+n) 0=data[k+n]:=by grind
  have c1:decide (((k+n:U):L)<ah data)=W:=by simp;omega
  have d:bX (k+n) (Y data)=W:=(c7 _ _).2 a
  have e:decide ((0:L)<=((k+n:U):L))=W:=by simp;omega
  have g:(a6 data[k+n] !=10)=I:=by unfold bne;rw[r7];exact hk
  grind
  grind [ah]) (kM (show n<=67108864 by omega) (by decide))
 grind [tu,aB,ji,ef]
def avh{data:M ao}(d:Y data<=67108864){k:U}(hk:k<=Y data):bR (yV data) (k:L)=J ((k+Y ((data.drop k).takeWhile gF):U):L):=by
 let⟨h1,h2,h3⟩:=tT gF (data.drop k);generalize e:Y ((data.drop k).takeWhile gF)=n at h1 h2 h3;have hd:Y (data.drop k)=Y data-k:=by simp
 have:bR (yV data) (((k+0:U):L))=J ((k+n:U):L):=eZ (f:=yV data) n (λi=>((k+i:U):L)) (r:=((k+n:U):L)) (λi a=>by
  have b:k+i<Y data:=by omega
  have hk:=h2 i a (by omega)
  rw[Ad]at hk
  unfold gF at hk
  unfold yV au ag cy ax aH aA c9
  have c:H data (k+i) 0=data[k+i]:=by grind
  grind [bV,ah,c7,Uo,b9]) (by
  unfold yV au ag cy ax aH aA c9
  by_cases b:k+n<Y data
  have hk:=h3 (by omega)
  rw[Ad]at hk
  unfold gF at hk
  have c:H data (k+n) 0=data[k+n]:=by grind
  grind [c7,Uo,b9]
  grind [ah]) (kM (show n<=67108864 by omega) (by decide))
 exact this
def avi{α:Type}(p:α->ay){s:M α}{m:U}(h:m<=Y (s.takeWhile p)):Y ((s.drop m).takeWhile p)=Y (s.takeWhile p)-m:=by
 let⟨h1,h2,h3⟩:=tT p s;have hd:Y (s.drop m)=Y s-m:=by simp
 rw[G6 (k:=Y (s.takeWhile p)-m) (λi a b=>by grind) (by grind)];simp;omega
def aeO{α:Type}(p:α->ay):∀s:M α,s.dropWhile p=s.drop (Y (s.takeWhile p))|[]=>rfl|c::s=>by by_cases h:p c=W;simp[List.dropWhile_cons,HM,h,aeO p s];simp_all
theorem avj(c:ao)(h1:gQ c=I)(h2:gF c=W):False:=by simp_all [gQ,gF]
theorem Uz{α:Type}(p:α->ay){s:M α}{i:U}(h:i<Y (s.takeWhile p))(a:i<Y s):(s.takeWhile p)[i]=s[i]:=(List.takeWhile_prefix p).getElem h
def avk(hT:∀s:M ao,Y s<=67108864->pD s [32,9]=J (s.dropWhile gF)){data:M ao}(j:Y data<=67108864){k:U}(hk:k<=Y data):
  ∃(m a:U)(b:ay),k+m<=Y data/\k+a<=Y data/\m<=a/\Ld data (k:L)=J (((min (k+a+1) (Y data):U):L),b)/\bR (yV data) (k:L)=J ((k+m:U):L)/\
   (decide (((k+m:U):L)>=ah data)||(a6 (data.getD (k+m) 0)==10||a6 (data.getD (k+m) 0)==35))=b/\tu data ((k+m:U):L) I=J ((k+a:U):L):=by
 have hd:Y (data.drop k)=Y data-k:=by simp
 have hB:=avh j hk
 let⟨D,o,l⟩:=tT gF (data.drop k)
 let⟨E,F,p⟩:=tT gQ (data.drop k)
 have c:Y ((data.drop k).takeWhile gF)<=Y ((data.drop k).takeWhile gQ):=by grind [avj]
 have n:=avg j (k:=k+Y ((data.drop k).takeWhile gF)) (by omega)
 have f:(data.drop (k+Y ((data.drop k).takeWhile gF)))=(data.drop k).drop (Y ((data.drop k).takeWhile gF)):=by rw[List.drop_drop]
 rw[f,avi gQ c]at n
 let⟨z,q⟩:=avf (s:=data.drop k) (by omega)
 have g:Y (((data.drop k).takeWhile gQ).takeWhile gF)=Y ((data.drop k).takeWhile gF):=by
  rw[G6 (s:=(data.drop k).takeWhile gQ) (k:=Y ((data.drop k).takeWhile gF)) (λi r h=>by
   have:=o i r (by omega)
   have e:((data.drop k).takeWhile gQ)[i]=(data.drop k)[i]:=Uz gQ h _
   rw[e];exact this) (by
   rcases je (Y ((data.drop k).takeWhile gF)) (Y ((data.drop k).takeWhile gQ)) with h|h
   right
   refine⟨h,?_⟩
   have:=l (by omega)
   have e:((data.drop k).takeWhile gQ)[Y ((data.drop k).takeWhile gF)]=(data.drop k)[Y ((data.drop k).takeWhile gF)]:=Uz gQ h _
   rw[e];exact this
   left;omega)]
  simp;omega
 have t:((data.drop k).takeWhile gQ).dropWhile gF=((data.drop k).takeWhile gQ).drop (Y ((data.drop k).takeWhile gF)):=by rw[aeO,g]
 have u:Y ((data.drop k).takeWhile gF)<Y ((data.drop k).takeWhile gQ)->∀v:k+Y ((data.drop k).takeWhile gF)<Y data,(((data.drop k).takeWhile gQ).drop (Y ((data.drop k).takeWhile gF))).getD 0 0=data[k+Y ((data.drop k).takeWhile gF)]:=λh v=>by grind [Uz]
 have w:=p
 have x:=l
 generalize G:Y ((data.drop k).takeWhile gF)=m at *
 generalize H:Y ((data.drop k).takeWhile gQ)=a at *
 refine⟨m,a,_,by omega,by omega,c,?_,hB,rfl,by rw[n];congr 2;omega⟩
 unfold Ld cw au aJ ax bg
 rw[aF (by simp;omega),iQ,q,aB]
 simp only[]
 rw[hT _ (by omega),aB,t]
 have y:aaX a7 ((k:L)+ah ((data.drop k).takeWhile gQ))=((k+a:U):L):=by grind [ef,bV]
 have A:aaX a7 (((k+a:U):L)+1)=((k+a+1:U):L):=by grind [bV]
 have d:ji ((k+a+1:U):L) (ah data)=((min (k+a+1) (Y data):U):L):=by unfold ji;rw[ef];split<;>omega
 simp only[y,A,d,ite_self]
 by_cases h:m<a
 have B:k+m<Y data:=by omega
 have K:=u h B
 have C:((data.drop k).takeWhile gQ).drop m≠[]:=by grind
 grind [gQ,c7,r7,ah]
 grind [gQ,r7,ah]
def RZ(data:M ao)(x:L×M ao×Q (M dc)×L)(y:L×M (M ao×ay)×M ao×L×Q (M dc)):Prop:=∃(k a:U)(P:M dc)(m:M (M ao×ay)),k<=Y data+1/\a<=k/\a<=Y data/\Y P<=2*k/\KM m P/\x=((k:L),data,aY P,(a:L))/\y=(((min k (Y data):U):L),m,data,(a:L),aY P)
def SZ(data:M ao)(r:(Q (M dc)×L×L)⊕M ao×Q (M dc)×L)(q:(Q (M dc)×L×L)⊕M ao×L×Q (M dc)):Prop:=(∃a e:L,e≠0/\r=.inl (O,a,e)/\q=.inl (O,a,e))\/∃(a:U)(P:M dc),a<=Y data/\Y P<=2*Y data+2/\r=.inr (data,aY P,(a:L))/\q=.inr (data,(a:L),aY P)
def avl(hT:∀s:M ao,s.length<=67108864->pD s [32,9]=J (s.dropWhile gF)){data:M ao}(hl:data.length<=16777216):∃r q,bR (EV data) (0,data,O,0)=J r/\bR (Rp data) (0,[],data,0,O)=J q/\SZ data r q:=by
 refine qE (RZ data) (SZ data) (λx=>data.length+2-x.1.toNat) (λx y h=>?_) ⟨0,0,[],[],by omega,by omega,by omega,by simp,avb,rfl,by simp[aY]⟩ (kM (xo _ _) (kM (show data.length+2<=67108866 by omega) (by decide)));obtain⟨k,a,P,m,hk,K,F,hP,t,rfl,rfl⟩:=h;unfold EV Rp aW cw au aJ ag cy ax bg aH aA c9;dsimp-proj only[aj];rcases je k data.length with u|u
 have N:min k data.length=k:=Nat.min_eq_left (by omega);have c1:decide ((k:L)<ah data)=W:=by simp;omega
 let⟨g,c,b,R,hL,S,T,V,X,Y⟩:=avk hT (data:=data) (by omega) (k:=k) (by omega);simp only[N,c1,bH,T,V,aB];have Z:(decide (((k+g:U):L)>=ah data)||decide ((0:L)<=((k+g:U):L))&&(bX (k+g) data.length&&(a6 (data.getD (k+g) 0)==10||decide ((0:L)<=((k+g:U):L))&&bX (k+g) data.length)))=W:=by grind [c7,Decidable.decide,ah]
 simp only[fB,Z,X,bH];have wL:aaX a7 (((k+c:U):L)+1)=((k+c+1:U):L):=by grind [bV]
 cases b with
 |true=>left;simp only[bH,Y,aB,wL];exact⟨_,_,rfl,rfl,⟨k+c+1,a,P,m,by omega,by omega,F,by omega,t,rfl,rfl⟩,by simp;omega⟩|false=>
  have hd:(data.drop k).length=data.length-k:=by simp
  let⟨t1,t2,t3⟩:=tT kE (data.drop k);have v:=au8 (data:=data) (by omega) (k:=k) (by omega) (data,aY P,(a:L));have w:=au7 (s:=data.drop k) (by omega);generalize ((data.drop k).takeWhile kE).length=n at *;have cg:decide ((0:L)<=(k:L)/\(k:L)<=ah data/\ah data<=ah data)=W:=by simp;omega
  simp only[bM,ca,v,aB,cg,bH,iQ,w];by_cases hn:n=0;right;subst hn;refine⟨_,_,?_,?_,.inl ⟨(k:L),2,by decide,rfl,rfl⟩⟩;simp;simp;by_cases h64:n<=64;have z:min 64 n=n:=by omega
  have m2:min 65 n=n:=by omega
  have w1:aaX a7 ((k:L)+(n:L))=((k+n:U):L):=by grind [bV]
  have w2:aaX a7 (((k+n:U):L)+1)=((k+n+1:U):L):=by grind [bV]
  have z1:(((k+n:U):L)==(k:L))=I:=by grind
  have z2:decide ((n:L)<1)=I:=by simp;omega
  have A:decide ((n:L)>64)=I:=by simp;omega
  simp only[z,m2,w1,w2,z1,z2,A,xi,fB];rcases je (k+n) data.length with p|p
  have j:decide (((k+n:U):L)>=ah data)=I:=by simp;omega
  have B:bX (k+n) data.length=W:=(c7 _ _).2 p;have C:decide ((0:L)<=((k+n:U):L))=W:=by simp;omega
  have c5:decide ((0:L)<=(k:L)/\(k:L)<=((k+n:U):L)/\((k+n:U):L)<=ah data)=W:=by simp;omega
  simp only[j,B,C,c5,xi,qR,bH,beq_self_eq_true];cases h61:(a6 (data.getD (k+n) 0) !=61)with
  |true=>right;exact⟨_,_,rfl,rfl,.inl ⟨(k:L),2,by decide,rfl,rfl⟩⟩|false=>
   have l:=t (bq (k:L) ((k+n:U):L) data);rw[avd (by omega),l];simp only[bM,ca,aB];cases hK:G5 P (bq (k:L) ((k+n:U):L) data)with|true=>right;exact⟨_,_,rfl,rfl,.inl ⟨(k:L),5,by decide,rfl,rfl⟩⟩|false=>let⟨e,he1,qd,D⟩:=au5 (data:=data) (by omega) W (k:=k+n+1) (by omega);have c6:decide ((0:L)<=((k+n+1:U):L)/\((k+n+1:U):L)<=(e:L)/\(e:L)<=ah data)=W:=(by simp;omega);let⟨f,G,at',H,d1,d2,d3,d4,_⟩:=aeK (raw:=bq ((k+n+1:U):L) (e:L) data) (by rw[gP];simp;omega);have we:=di (i:=e) (by omega);have o:ji ((e+1:U):L) (ah data)=((min (e+1) data.length:U):L):=(by unfold ji;rw[ef];split<;>omega);simp only[bM,ca,au6,D,aB,c6,bH,d1,d2];by_cases d:(H !=0)=W;right;simp only[d,bH];exact⟨_,_,rfl,rfl,.inl ⟨_,H,by simpa[bne]using d,rfl,rfl⟩⟩;left;rw[aU d,aU d,Ul (by omega) (by omega) (by omega) (by omega),Um (by omega) (by omega) (by omega) (by omega)];simp only[aB,we,o];exact⟨_,_,rfl,rfl,⟨e+1,e,_,_,by omega,by omega,by omega,by simp;omega,avc t _ _ _,rfl,rfl⟩,by simp;omega⟩
  have j:decide (((k+n:U):L)>=ah data)=W:=by simp;omega
  right;simp only[j,xp,bH];exact⟨_,_,rfl,rfl,.inl ⟨(k:L),2,by decide,rfl,rfl⟩⟩;right;have z:min 64 n=64:=by omega
  have m2:min 65 n=65:=by omega
  have p:k+64<data.length:=by omega
  have hb:=t2 64 (by omega) (by omega);rw[Ad]at hb;have e':data.getD (k+64) 0=data[k+64]:=by grind
  have E:(a6 data[k+64] !=61)=W:=by grind [kE]
  have B:bX (k+64) data.length=W:=(c7 _ _).2 p;have C:decide ((0:L)<=((k+64:U):L))=W:=by simp;omega
  have A:decide (((65:U):L)>64)=W:=by decide
  simp only[z,m2,fB,e',E,B,C,A,xp,z7,qR,bH];exact⟨_,_,rfl,rfl,.inl ⟨(k:L),2,by decide,rfl,rfl⟩⟩
 right;have c1:decide ((k:L)<ah data)=I:=by simp;omega
 have j:decide (((min k data.length:U):L)<ah data)=I:=by simp;omega
 simp only[c1,j];exact⟨_,_,rfl,rfl,.inr ⟨a,P,F,by omega,rfl,rfl⟩⟩
def avm(hT:∀s:M ao,Y s<=67108864->pD s [32,9]=J (s.dropWhile gF)){data:M ao}(f:Y data<=65536):∃P at' e,BK data=J (P,at',e)/\Fz data=J (P,at',e)/\Y (X P [])<=2*Y data+3:=by
 let⟨r,q,b,d,h⟩:=avl hT (data:=data) (by omega);unfold BK Fz y6 aW aJ;have c:decide (ah data>65536)=I:=by simp;omega
 rw[b,c];simp only[bM,ca,aB,d];rcases h with⟨a,e,g,rfl,rfl⟩|⟨a,P,i,j,rfl,rfl⟩
 simp_all;unfold tm y7 au al bu;simp only[aB,pr,ch];rw[aF (by simp;omega),aF (by simp;omega)];simp_all
def avn(s:M ao):pD s [32,9]=J (s.dropWhile gF):=by
 unfold pD;rw[aF (by decide)];have:(λc=>List.contains [32,9] c)=gF:=funext λc=>by grind [gF]
 rw[this]
def aQ{α:Type}(Q:α->Prop)(o:Option α):Prop:=∀y,o=J y->Q y
def aQ.nil{α:Type}{Q:α->Prop}:aQ Q O:=λy h=>by cases h
theorem aQ.ret{α:Type}{Q:α->Prop}{x:α}(h:Q x):aQ Q (J x):=λy e=>by cases e;exact h
def aQ.ite{α:Type}{Q:α->Prop}{c:Prop}[oT c]{a b:Option α}(h1:c->aQ Q a)(h2:¬c->aQ Q b):aQ Q (if c then a else b):=by grind
theorem aQ.call{α β:Type}{Q:β->Prop}{o:Option α}{f:α->Option β}(h:∀x,o=J x->aQ Q (f x)):aQ Q (aq o f):=by
 cases o with|none=>exact aQ.nil|some x=>exact h x rfl
def aQ.sum{ρ σ α:Type}{Q:α->Prop}{s:ρ⊕σ}{f:ρ->Option α}{g:σ->Option α}(h1:∀x,s=.inl x->aQ Q (f x))(h2:∀x,s=.inr x->aQ Q (g x)):aQ Q (dh s f g):=by
 cases s with|inl x=>exact h1 x rfl|inr x=>exact h2 x rfl
def tU{σ ρ:Type}(I:σ->Prop)(Q:ρ->Prop):σ⊕ρ->Prop|.inl y=>I y|.inr z=>Q z
def aQ.iter{σ ρ:Type}{f:σ->Option (σ⊕ρ)}{I:σ->Prop}{Q:ρ->Prop}(step:∀x,I x->aQ (tU I Q) (f x)):∀(n:U)(x:σ),I x->aQ Q (eC f n x)|0,x,_=>aQ.nil|n+1,x,a=>by unfold eC;have:=step x a;split;rename_i y e;exact aQ.iter step n y (this _ e);rename_i r e;exact aQ.ret (this _ e);exact aQ.nil
def aQ.loop{σ ρ:Type}{f:σ->Option (σ⊕ρ)}{I:σ->Prop}{Q:ρ->Prop}(step:∀x,I x->aQ (tU I Q) (f x)){x:σ}(hx:I x):aQ Q (bR f x):=aQ.iter step fuel x hx
def JB(data:M ao)(b:M ao×Q (M dc)×L):Prop:=b.1=data/\0<=b.2.2/\ep (X b.2.1 [])=data.take (G b.2.2)
def avo{data:M ao}{a b:L}(c:0<=a)(h1:a<=b):data.take (G a)++bq a b data=data.take (G b):=by
 obtain⟨a,rfl⟩:=pU c;obtain⟨b,rfl⟩:=pU (show 0<=b by omega);have h1:a<=b:=by omega
 show data.take a++bq (a:L) (b:L) data=data.take b;grind [gP,mZ]
def avp(P:M dc)(x y:dc):ep (P++[x,y])=ep P++x.2.2++y.2.2:=by simp[ep]
def JB.unit{data:M ao}{b:M ao×Q (M dc)×L}(h:JB data b)(key:M ao)(a c:L):aQ (JB data) (tq key a c b):=by let⟨h1,h2,h3⟩:=h;unfold tq au al iO;refine aQ.ite (λd=>aQ.ret ⟨h1,?_,?_⟩) λ_=>aQ.nil;grind;simp_all [avp,avo]
def JB.fin{data:M ao}{b:M ao×Q (M dc)×L}(h:JB data b):aQ (λr=>ep (X r.1 [])=data) (tm b):=by let⟨h1,h2,h3⟩:=h;simp_all [tm,aQ.ite,aQ.ret,aQ.nil,ep,bq,au,al,bu]
def M1(z:Q (M dc)×L×L):Prop:=z.2.2≠0
def UA(data:M ao)(z:Q (M dc)×L×L):Prop:=z.2.2=0->ep (X z.1 [])=data
def JB.start(data:M ao):JB data (data,O,0):=⟨rfl,Int.le_refl _,rfl⟩
def avq(data:M ao):aQ (UA data) (BJ data):=by
 unfold BJ aW;refine aQ.call λr c=>aQ.sum (λx a=>aQ.ret λh=>?_) λx a=>aQ.call λy hy=>aQ.ret λ_=>?_
 all_goals
  have:=aQ.loop (f:=yT data) (I:=λs=>JB data s.2.2) (Q:=tU M1 (JB data)) (λs b=>by
   unfold yT ig cw au aJ ag cy ax bg aH aA c9 bu iO;dsimp-proj only[aj]
   repeat' first
    |exact aQ.nil|refine aQ.ite (λ_=>?_) (λ_=>?_)|refine aQ.call (λ_ _=>?_)
   all_goals refine aQ.ret ?_
   all_goals first
    |exact b|exact JB.unit b _ _ _ _ (by assumption)|(show(2:L)≠0;decide)|(rename_i h;exact bne_iff_ne.1 h)) (JB.start data) r c
 subst a;exact cJ h this;subst a;exact JB.fin this y hy
def avr(data:M ao):aQ (UA data) (BK data):=by
 unfold BK aW;refine aQ.call λr c=>aQ.sum (λx a=>aQ.ret λh=>?_) λx a=>aQ.call λy hy=>aQ.ret λ_=>?_
 all_goals
  have:=aQ.loop (f:=EV data) (I:=λs=>JB data s.2) (Q:=tU M1 (JB data)) (λs b=>by
   unfold EV aW cw au aJ ag cy ax bg aH aA c9
   repeat' first
    |exact aQ.nil|refine aQ.ite (λ_=>?_) (λ_=>?_)|refine aQ.call (λ_ _=>?_)
   all_goals refine aQ.ret ?_
   all_goals first
    |exact b|exact JB.unit b _ _ _ _ (by assumption)|(show(2:L)≠0;decide)|(show(5:L)≠0;decide)|(rename_i h;exact bne_iff_ne.1 h)) (JB.start data) r c
 subst a;exact cJ h this;subst a;exact JB.fin this y hy
def avs(data:M ao):aQ (UA data) (BL data):=by
 unfold BL aW;refine aQ.call λr e=>aQ.sum (λx a=>aQ.ret λh=>?_) λx a=>aQ.call λy hy=>aQ.ret λ_=>?_
 all_goals
  have:=aQ.loop (f:=EX data) (I:=λs=>JB data s.2.2.2.2) (Q:=tU M1 (JB data)) (λs d=>by
   unfold EX aW aJ ag ax aH aA;dsimp-proj only[aj]
   refine aQ.ite (λ_=>aQ.call λg h1=>?_) λ_=>aQ.ret d
   have c:=aQ.loop (f:=EW data s) (I:=λs=>JB data s.2.2.2.2) (Q:=tU M1 (λs=>JB data s.2.2.2.2)) (λi b=>by
    unfold EW cw au ag cy ax bg aH aA c9;dsimp-proj only[aj]
    repeat' first
     |exact aQ.nil|refine aQ.ite (λ_=>?_) (λ_=>?_)|refine aQ.call (λ_ _=>?_)
    all_goals refine aQ.ret ?_
    all_goals first
     |exact b|exact JB.unit b _ _ _ _ (by assumption)|(show(2:L)≠0;decide)|(rename_i h;exact bne_iff_ne.1 h)) (x:=(s.1,s.2.2.1,0,0,s.2.2.2.2)) d g h1
   refine aQ.sum (λx a=>aQ.ret ?_) λx a=>?_
   subst a;exact c
   ·subst a;have c:JB data x.2.2.2.2:=c;(repeat' refine aQ.ite (λ_=>?_) (λ_=>?_));all_goals refine aQ.ret ?_
    all_goals first
     |exact c|(show(2:L)≠0;decide)|(show(5:L)≠0;decide)|(show(6:L)≠0;decide)) (JB.start data) r e
 subst a;exact cJ h this;subst a;exact JB.fin this y hy
def wR(out:M aK)(t:M ao):M aK:=if t=[]then out else out++[(1,t,0)]
def UB(out:M aK):Prop:=∀y,out.getLast?=J y->y.1≠1
def avt{out:M aK}(h:UB out)(t:M ao){x:aK}(hx:x.1=1):iD (wR out t) x=wR out (t++x.2.1):=by
 unfold wR;by_cases a:x.2.1=[];unfold iD;simp[hx,a];rw[aU (show ¬t++x.2.1=[] by simp[a])];by_cases b:t=[];subst b;unfold iD;simp only[hx,a,sq,bM,ca,bH,List.nil_append];cases c:out.getLast? with|none=>rfl|some y=>simp[h y c]
 simp_all [iD]
def aeP{f:M aK}{i:U}(h:i<Y f):df (f.take (i+1))=iD (df (f.take i)) f[i]:=by rw[iU h,qG]
theorem pI:∀(f out:M aK),bf (f.foldl iD out)<=bf out+bf f|[],out=>by simp[bf]|x::f,out=>by have h1:=pI f (iD out x);grind [ad7,bf]
theorem zC(f:M aK)(i:U):bf (f.take i)<=bf f:=by grind [iE,mZ]
def avu(f:M aK)(i:U):bf (df (f.take i))<=bf f:=by grind [pI,zC,bf,df]
def avv{o:Q (M aK)}(hB:bf (X o [])<=536870912){i:U}(hi:i<=Y (X o []))(d:UB (df ((X o []).take i))):∃r,bR (LA o) ((i:L),O)=J r/\∃(j:U)(t:M ao),r.1=(j:L)/\X r.2 []=fL t/\i<=j/\j<=Y (X o [])/\df ((X o []).take j)=wR (df ((X o []).take i)) t/\(∀h:j<Y (X o []),(X o [])[j].1≠1):=by
 have l:=eP (X o []);refine gl (f:=LA o) (λs=>∃(j:U)(t:M ao),s.1=(j:L)/\X s.2 []=fL t/\i<=j/\j<=Y (X o [])/\df ((X o []).take j)=wR (df ((X o []).take i)) t/\Y t<=bf ((X o []).take j)) (λs=>Y (X o [])-G s.1) (λr=>∃(j:U)(t:M ao),r.1=(j:L)/\X r.2 []=fL t/\i<=j/\j<=Y (X o [])/\df ((X o []).take j)=wR (df ((X o []).take i)) t/\(∀h:j<Y (X o []),(X o [])[j].1≠1)) (λs h=>?_) _ ⟨i,[],rfl,rfl,eJ _,hi,by simp[wR],by simp⟩ (kM (xo _ _) (cM (cC (by omega))));let⟨m,a⟩:=s;obtain⟨j,t,rfl,c,h1,h2,h3,n⟩:=h;simp only[]at c;unfold LA aN au ag al ax aH aA;dsimp-proj only[aj];simp only[];rcases je j (Y (X o [])) with b|b
 have c1:decide ((j:L)<ah (X o []))=W:=by simp;omega
 have e:decide (0<=(j:L)/\(j:L)<ah (X o []))=W:=by simp;omega
 simp only[c1,e,cS b,c];by_cases hk:(X o [])[j].1=1;have g:=aeP b;rw[h3,avt d t hk]at g;have p:bf ((X o []).take (j+1))=bf ((X o []).take j)+(Y (X o [])[j].2.1+1):=by rw[iU b,iE];simp[bf]
 have q:=zC (X o []) (j+1);have k:X (jN a (fL (X o [])[j].2.1)) []=fL (t++(X o [])[j].2.1):=by
  have:X (jN a (fL (X o [])[j].2.1)) []=X a []++fL (X o [])[j].2.1:=by cases a<;>cases fL (X o [])[j].2.1<;>simp[jN,dW]
  rw[this,c];simp[fL]
 rw[aF (by simp),aF (by simp[hk]),aF (by simp[MQ];omega)];grind [bV];grind;grind
theorem aeQ{o:Q (M aK)}(hB:bf (X o [])<=536870912):FX o=J (aY (df (X o []))):=by
 have v:=eP (X o []);have key:∃r,bR (LB o) (O,0)=J r/\r=aY (df (X o [])):=by
  refine gl (f:=LB o) (λs=>∃i:U,s=(aY (df ((X o []).take i)),(i:L))/\i<=Y (X o [])/\(∀h:i<Y (X o []),(X o [])[i].1=1->UB (df ((X o []).take i)))) (λs=>Y (X o [])-G s.2) (λr=>r=aY (df (X o []))) (λs h=>?_) _ ⟨0,rfl,by omega,λ_ _ y hy=>by simp[df]at hy⟩ (kM (xo _ _) (cM (cC (by omega))));obtain⟨i,rfl,h1,h2⟩:=h;unfold LB bS aW aN au aJ ag al ax aH aA bu;dsimp-proj only[aj];simp only[];rcases je i (Y (X o [])) with b|b
  rw[nA b,cS b];have w:=avu (X o []) i;have l:=eP (df ((X o []).take i));by_cases hk:(X o [])[i].1=1;have a:((X o [])[i].1 !=1)=I:=by simp[hk]
  let⟨r,e,j,t,g,k,x,m,n,p⟩:=avv hB h1 (h2 b hk);let⟨z,A⟩:=r;simp only[]at g k;subst g;have q:i<j:=by grind
  rw[a,aU (by simp),e,aB];simp only[k,ch,ofBytes,MQ,ef];rw[aF (by simp;omega)];have d:(if decide ((Y t:L)>0)=W then J (df ((X o []).take i)++[(1,t,0)])else aY (df ((X o []).take i)))=aY (df ((X o []).take j)):=by
   rw[n];unfold wR;cases t with|nil=>simp|cons c t=>simp[jD]
  refine⟨⟨j,by rw[d],m,λh u=>cJ u (p h)⟩,by simp only[];omega⟩;have a:((X o [])[i].1 !=1)=W:=by simp[bne,hk]
  have B:=aeP b;have C:iD (df ((X o []).take i)) (X o [])[i]=df ((X o []).take i)++[(X o [])[i]]:=by grind [iD]
  rw[a,aF rfl,aF (by simp;omega)];refine⟨⟨i+1,?_,b,λh _ y hy=>?_⟩,?_⟩;grind [ch,jD,bV];grind;grind [bV];rw[show i=Y (X o []) by omega,gm,zT]
 simp_all [FX,aW,au]
def avw(n:U)(c:n<=1073741824):∃o,LC (n:L)=J o/\X o []=[]:=by
 have w:aaX a7 ((n:L)-0)=(n:L):=by grind [bV]
 have a:∀l:M aK,bq 0 0 l=[]:=λl=>rfl;unfold LC;simp only[w];rw[aF (by simp)];have b:∀q:Q (M aK),aad (ga (bq 0 0) q)=aad q:=λq=>by cases q<;>rfl
 rw[aF (by simp only[b];simp;omega),aF (beq_self_eq_true _),aF (beq_self_eq_true _)];refine⟨_,rfl,?_⟩;split;cases dW (ej (G ((n:L))) ((0:L),([]:M ao),(0:L)))<;>simp[a];rfl
theorem avx{a b:Q (M aK)}(d:Y (X a [])<=268435456)(e:Y (X b [])<=268435456):∃o,LD (J [a,b])=J o/\X o []=X a []++X b []:=by
 have g:aaX a7 ((0:L)+1)=1:=rfl;have h:aaX a7 ((1:L)+1)=2:=rfl;have j:ah [a,b]=2:=rfl;have k:H ([a,b]:M (Q (M aK))) (G ((0:L))) O=a:=rfl;have m:H ([a,b]:M (Q (M aK))) (G ((1:L))) O=b:=rfl;have v1:aaX a7 (0+(Y (X a []):L))=(Y (X a []):L):=by grind [bV]
 have n:aaX a7 ((Y (X a []):L)+(Y (X b []):L))=((Y (X a [])+Y (X b []):U):L):=by grind [bV]
 have q:bR (FY (J [a,b])) (0,0)=J ((Y (X a [])+Y (X b []):U):L):=by
  refine eZ (f:=FY (J [a,b])) 2 (λi=>match i with|0=>(0,0)|1=>((Y (X a []):L),1)|_=>(((Y (X a [])+Y (X b []):U):L),2)) (λi c=>?_) ?_ (by decide)
  match i,c with|0,_=>simp_all [FY,aN,au,aJ,al,ax,bg,aH,aA]|1,_=>grind [FY,ef]
  rfl
 let⟨o,r,s⟩:=avw (Y (X a [])+Y (X b [])) (by omega);have t:∀(p:Q (M aK))(l:M aK),X (jN p l) []=X p []++l:=λp l=>by cases p<;>cases l<;>simp[jN,dW]
 have u:bR (FZ (J [a,b])) (o,0)=J (jN (jN o (X a [])) (X b [])):=by
  refine eZ (f:=FZ (J [a,b])) 2 (λi=>match i with|0=>(o,0)|1=>(jN o (X a []),1)|_=>(jN (jN o (X a [])) (X b []),2)) (λi c=>?_) ?_ (by decide)
  match i,c with|0,_=>grind [FZ]|1,_=>grind [FZ]
  rfl
 grind [LD,aB]
theorem aeR{a b:Q (M aK)}(hB:bf (X a [])+bf (X b [])<=268435456):B4 a b=J (aY (df (X a []++X b []))):=by grind [eP,avx,B4,aB,aeQ,iE]
def EF(s:M ao)(x:aK)(n:L):Prop:=n=0\/(0<n/\n<=Y s/\(x.1=0\/(Y x.2.1:L)<=n/\(x.1=1->Y x.2.1=1)))
theorem aeS(s:M ao):EF s (jQ s).1 ((jQ s).2:L):=by
 unfold jQ;rcases kX s 125 with⟨h,_⟩|⟨k,h,_,hk,_⟩
 rw[h];exact .inl rfl;rw[h];show EF s (match fQ k with|.ofNat k=>if iw ((s.take k).drop 1)=W then((5,(s.take k).drop 1,0),k+1)else((0,[],0),0)|_=>((0,[],0),0):aK×U).1 _
 simp only[];split;refine .inr ⟨by simp only[];omega,by simp only[];omega,.inr ⟨?_,λh=>by cases h⟩⟩;simp;omega;exact .inl rfl
def avy{t s:M ao}(h:abV t s=W):Y t<=Y s:=(NP.1 h).length_le
def avz{s:M ao}(e:s≠[]):EF s (qJ s).1 (qJ s).2:=by
 obtain⟨c,r,rfl⟩:∃c r,s=c::r:=by cases s with|nil=>exact cJ rfl e|cons c r=>exact⟨c,r,rfl⟩
 simp only[qJ]
 split
 ·cases a:tS (c::r)with
  |none=>exact .inl rfl
  |some z=>
   unfold tS at a
   split at a
   ·cases a
   ·split at a
    ·cases a
     rename_i h1 h2
     rcases kX (c::r) 62 with⟨h,_⟩|⟨k,h,_,hk,_⟩
     ·rw[h]at h1;omega
     ·rw[h]
      simp only[fk]
      have f:=Cn (bq 1 (k:L) (c::r))
      have g:Y (bq 1 (k:L) (c::r))<=k:=by unfold bq;simp;omega
      have b:(hM (bq 1 (k:L) (c::r))).1≠1:=by
       grind [hM]
      exact .inr ⟨by omega,by simp at hk ⊢;omega,.inr ⟨by grind,λh=>cJ h b⟩⟩
    ·cases a
 ·split
  ·split
   ·rename_i d n hd
    unfold pH at hd
    repeat' split at hd
    all_goals first
     |cases hd
     |skip
    all_goals
     rename_i h
     have:=avy h
     exact .inr ⟨by decide,by simp at this ⊢;omega,.inr ⟨by simp,λ_=>rfl⟩⟩
   ·exact .inl rfl
  ·split
   ·exact aeS _
   ·exact .inr ⟨by simp,by simp;omega,.inr ⟨by simp,λ_=>rfl⟩⟩
def avA{s:M ao}(a:s≠[]):EF s (lH s).1 ((lH s).2:L):=by
 obtain⟨c,r,rfl⟩:∃c r,s=c::r:=by cases s with|nil=>exact cJ rfl a|cons c r=>exact⟨c,r,rfl⟩
 simp only[lH];have h2:∀b:ao,r.head?=J b->EF (c::r) (1,[b],0) 2:=λb h=>by
  cases r with
  |nil=>cases h
  |cons d r=>exact .inr ⟨by decide,by simp;omega,.inr ⟨by simp,λ_=>rfl⟩⟩
 split;split;grind;exact .inl rfl;split;grind [aeS];exact .inr ⟨by simp,by simp;omega,.inr ⟨by simp,λ_=>rfl⟩⟩
def fY(n:L):Prop:=n=1\/n=2\/n=3
theorem avB{fmt:L}(d:fY fmt){raw:M ao}{k:U}(hk:k<Y raw)(e:Y raw<=67108864):∃x n,rP fmt (raw.drop k)=J (x,n)/\EF (raw.drop k) x n:=by
 have a:raw.drop k≠[]:=by simp_all
 have b:Y (raw.drop k)<=67108864:=by simp;omega
 have c:Y (raw.drop k)=Y raw-k:=by simp
 unfold rP ag;rcases d with rfl|rfl|rfl
 rw[aF (by decide),aeA a b];exact⟨_,_,rfl,avz a⟩;rw[aU (by decide),aF (by decide)];rcases aeI hk e O O O 0 0 with⟨h,_⟩|⟨n,h1,h2,h,_⟩|⟨t,n,h1,h2,h,_⟩|⟨f,n,h1,h2,h,_⟩
 rw[h];exact⟨_,_,rfl,.inl rfl⟩;rw[h];exact⟨_,_,rfl,.inr ⟨by omega,by omega,.inl rfl⟩⟩;rw[h];exact⟨_,_,rfl,.inr ⟨by omega,by omega,.inr ⟨by simp;omega,λ_=>rfl⟩⟩⟩;rw[h];exact⟨_,_,rfl,.inr ⟨by omega,by omega,.inr ⟨by simp only[];omega,λh=>by cases h⟩⟩⟩;rw[aU (by decide),aU (by decide),ad9 a (by omega)];exact⟨_,_,rfl,avA a⟩
theorem avC(out:M aK)(x:aK):bL (iD out x)=bL out+wid x:=by
 have a:∀y:aK,bL [y]=wid y:=λy=>by simp[bL]
 unfold iD;split;rw[zA,a];rename_i b;have b:x.1=1:=by simpa using b
 split;grind [wid];split;rename_i y hy;split;rename_i h1;have h1:y.1=1:=by simpa using h1
 have e:bL out=bL out.dropLast+wid y:=by
  conv=>lhs;rw[ad6 hy]
  rw[zA,a]
 grind [zA,wid];rw[zA,a];simp[wid,b];rw[zA,a];simp[wid,b]
theorem avD(f:M aK):bL (df f)=bL f:=by
 have:∀(f out:M aK),bL (f.foldl iD out)=bL out+bL f:=by
  intro f;induction f with
  |nil=>intro out;simp[bL]
  |cons x f a=>grind [avC,bL]
 unfold df;rw[this f []];simp[bL]
def G7(m:U)(f:M aK)(a:M L):Prop:=∃cs:M U,a=cs.map fQ/\Y cs=bL f/\cs.Pairwise (·<= ·)/\∀c∈cs,c<=m
def G7.snoc{m m':U}{f g:M aK}{a:M L}(h:G7 m f a)(hm:m<=m')(b:bL g=bL f+1):G7 m' g (a++[(m:L)]):=by let⟨cs,h1,h2,h3,d⟩:=h;refine⟨cs++[m],by rw[h1];simp,by simp[h2,b],?_,λc e=>?_⟩;grind;grind
abbrev RSt:=Q (M aK)×Q (M aK)×Q (M L)×L×L×L
def ID(raw:M ao)(s:RSt):Prop:=∃at' a:U,s.2.2.2.1=(at':L)/\s.2.2.2.2.1=(a:L)/\a<=at'/\at'<=Y raw/\bf (X s.1 [])<=2*at'/\G7 a (X s.1 []) (X s.2.2.1 [])
def ID.step{raw:M ao}(q:Y raw<=67108864){s:RSt}(h:ID raw s){x:aK}{n:L}(hx:EF (raw.drop (G s.2.2.2.1)) x n)(e:n≠0)(hk:x.1≠0){y:aK}(f:y.1=x.1)(g:y.2.1=x.2.1){r:Q (M aK)}(b:lD s.1 (J [y])=J r)(o:Q (M aK))(l:L):ID raw (r,o,J (X s.2.2.1 []++[s.2.2.2.2.1]),aaX a7 (s.2.2.2.1+n),aaX a7 (s.2.2.2.1+n),l):=by
 let⟨at',i,c,j,h1,h2,h3,k⟩:=h;rw[c]at hx;rcases hx with hx|⟨t,d,a⟩
 exact cJ hx e;rcases a with a|⟨a,u⟩
 exact cJ a hk;obtain⟨n,rfl⟩:=pU (show 0<=n by omega);have d:n<=Y raw-at':=by simpa using d
 have a:Y x.2.1<=n:=by exact Int.ofNat_le.1 a
 have v:bf [y]=Y y.2.1+1:=by simp[bf]
 rw[lG (by grind)]at b;cases b;have p:aaX a7 ((at':L)+(n:L))=((at'+n:U):L):=by grind [bV]
 rw[c,j,p];refine⟨at'+n,at'+n,rfl,rfl,eJ _,by omega,?_,?_⟩;grind [ch,pI,iE,df];refine k.snoc (m:=i) (m':=at'+n) (by omega) ?_;grind [ch,avD,bL,wid]
def UC(raw:M ao)(r:Q (M aK)×Q (M L)×L×L):Prop:=r.2.2.2=0->bf (X r.1 [])<=2*Y raw/\∃cs:M U,X r.2.1 []=cs.map fQ/\Y cs=bL (X r.1 [])+1/\cs.Pairwise (·<= ·)/\∀c∈cs,c<=Y raw
set_option maxHeartbeats 1000000 in
def avE{fmt:L}(D:fY fmt){raw:M ao}(u:Y raw<=67108864):aQ (UC raw) (ja fmt raw):=by
 unfold ja aW au aJ al bu;refine aQ.call λr v=>?_;have:=aQ.loop (f:=pz fmt raw) (I:=ID raw) (Q:=tU (λz:Option (M aK)×Option (M L)×L×L=>z.2.2.2≠0) λz:Option (M aK)×Option (M aK)×Option (M L)×L=>∃a:U,z.2.2.2=(a:L)/\a<=Y raw/\bf (X z.1 [])<=2*Y raw/\G7 a (X z.1 []) (X z.2.2.1 [])) (λs j=>by
  unfold pz cG cw au aJ ag al ax bg aH aA bu;dsimp-proj only[aj]
  refine aQ.ite (λb=>aQ.ite (λ_=>aQ.call λd h1=>?_) λ_=>aQ.nil) λ_=>aQ.ret ?_
  ·let⟨at',a,e,k,h2,h3,l,m⟩:=id j;have g:EF (raw.drop s.2.2.2.1.toNat) d.1 d.2:=(by rw[e]at h1 b;have b:at'<Y raw:=(by simpa using b);grind [avB,iQ]);refine aQ.ite (λ_=>aQ.ret (show(2:L)≠0 by decide)) λi=>?_;have i:d.2≠0:=(by simpa using i);refine aQ.ite (λE=>aQ.ret ?_) λhk=>?_;rcases g with g|⟨F,q,G⟩
   exact cJ g i;rw[e]at q;let⟨n,o⟩:=pU (show 0<=d.2 by omega);have q:n<=Y raw-at':=(by grind);have w:aaX a7 ((at':L)+(n:L))=((at'+n:U):L):=(by grind [bV]);exact⟨at'+n,a,by rw[e,o,w],k,by omega,by omega,uw l (by omega),m⟩
   ·have hk:d.1.1≠0:=by simpa using hk
    repeat' first
     |exact aQ.nil|refine aQ.ite (λ_=>?_) (λ_=>?_)|refine aQ.call (λ_ _=>?_)
    all_goals refine aQ.ret ?_
    all_goals first
     |(show(7:L)≠0;decide)|(show(3:L)≠0;decide)|(refine ID.step u j g i hk ?_ ?_ (by assumption) _ _<;>rfl)
  let⟨at',a,e,k,h2,h3,l,m⟩:=j
  exact⟨a,k,by omega,uw l (by omega),m⟩) ⟨0,0,rfl,rfl,eJ _,fZ _,eJ _,[],rfl,rfl,VB,λc t=>by cases t⟩ r v
 refine aQ.sum (λx p=>aQ.ret λh=>?_) λx p=>aQ.ite (λ_=>aQ.ret λh=>?_) λ_=>aQ.ite (λ_=>aQ.ret λ_=>?_) λ_=>aQ.nil;subst p;exact cJ h this;cases h;subst p;let⟨a,y,H,A,cs,B,C,K,N⟩:=this;refine⟨A,cs++[a],?_,by simp[C],?_,λc t=>?_⟩;rw[y,B];simp;grind;grind
def avF{raw:M ao}(d:Y raw<=67108864):∃f a at' e,ja 3 raw=J (f,a,at',e)/\zb raw=J (f,at',e)/\FM raw=J (a,e):=by
 let⟨r,q,g,i,h⟩:=aee d;unfold ja zb FM FA aW au aJ ag al bu;rw[g,i];rcases h with⟨k,e,hk,j,rfl,rfl⟩|⟨items,text,s,cs,rfl,l,rfl,t,c,m⟩
 refine⟨O,O,k,e,rfl,?_,?_⟩<;>simp[j];have n:=eP items;have o:=wP items text;let⟨b,p⟩:=aed (cs:=aY cs) l (by omega:items.length<=1073741824);refine⟨aY (dA items text),J (cs++[(Y raw:L)]),0,0,?_,?_,?_⟩;simp;omega;simp[p];unfold Rz au al bu;simp;rw[aF (by omega)];rfl
def avG{raw:M ao}(i:Y raw<=67108864):∃f a at' e,ja 2 raw=J (f,a,at',e)/\za raw=J (f,at',e)/\FL raw=J (a,e):=by
 let⟨r,q,j,l,h⟩:=aeJ i;unfold ja za FL Fy aW au aJ ag al bu;rw[j,l];rcases h with⟨k,e,hk,m,rfl,rfl⟩|⟨c,items,text,n,cs,o,rfl,p,rfl,v,g,s⟩
 refine⟨O,O,k,e,rfl,?_,?_⟩<;>simp[m];have t:=eP items;have u:=wP items text;have d:∃b,B0 (aY items,n,aY cs,(c:L),(c:L))=J (aY (dA items text),b):=by unfold B0 au;rw[Un,GQ p (by omega)];simp_all
 let⟨b,d⟩:=d;refine⟨aY (dA items text),J (cs++[(c:L)]),0,0,?_,?_,?_⟩;simp;omega;simp[d];unfold Ry au al bu;simp;rw[aF (by omega)];rfl
theorem aeU{fmt:L}(d:fY fmt){raw:M ao}(b:Y raw<=67108864):∃f a at' e,ja fmt raw=J (f,a,at',e)/\FC fmt raw=J (f,e)/\FN fmt raw=J (a,e)/\UC raw (f,a,at',e):=by
 have c:=avE d b;unfold FC FN ag;rcases d with rfl|rfl|rfl
 let⟨f,a,at',e,h1,h2,h3,_⟩:=MX b;refine⟨f,a,at',e,h1,?_,?_,c _ h1⟩;simp_all;simp_all;let⟨f,a,at',e,h1,h2,h3⟩:=avG b;refine⟨f,a,at',e,h1,?_,?_,c _ h1⟩;simp_all;simp_all;let⟨f,a,at',e,h1,h2,h3⟩:=avF b;refine⟨f,a,at',e,h1,?_,?_,c _ h1⟩;simp_all;simp_all
def avH{fmt:L}(c:fY fmt)(data:M ao):∃P at' e,KO fmt data=J (P,at',e)/\Lk fmt data=J (P,at',e)/\(e=0->ep (X P [])=data/\Y (X P [])<=131075/\Y data<=65536):=by
 unfold KO Lk aJ ag;by_cases a:Y data<=65536;rw[aU (by simp;omega)];rcases c with rfl|rfl|rfl
 let⟨P,at',e,h1,h2,h3⟩:=au4 a;rw[aF (by decide),aF (by decide),h1,h2];exact⟨P,at',e,rfl,rfl,λb=>⟨avq data _ h1 b,by omega,a⟩⟩;let⟨P,at',e,h1,h2,h3⟩:=avm (λs _=>avn s) a;rw[aU (by decide),aF (by decide),aU (by decide),aF (by decide),h1,h2];exact⟨P,at',e,rfl,rfl,λb=>⟨avr data _ h1 b,by omega,a⟩⟩;let⟨P,at',e,h1,h2,h3⟩:=auj a;rw[aU (by decide),aU (by decide),aU (by decide),aU (by decide),h1,h2];exact⟨P,at',e,rfl,rfl,λb=>⟨avs data _ h1 b,by omega,a⟩⟩;rw[aF (by simp;omega)];refine⟨O,0,3,rfl,?_,λh=>by cases h⟩;rcases c with rfl|rfl|rfl
 rw[aF (by decide)];unfold Ft aW aJ;rw[aF (by simp;omega)];rfl;rw[aU (by decide),aF (by decide)];unfold Fz aW aJ;rw[aF (by simp;omega)];rfl;rw[aU (by decide),aU (by decide)];unfold FB aW aJ;rw[aF (by simp;omega)];rfl
abbrev Dc:=L×Q (M dc)
theorem wU(n:L):(n==(1:L)||(n==(2:L)||n==(3:L)))=W↔fY n:=by simp[fY]
def avI(data:M ao)(d:Dc):Prop:=ep (X d.2 [])=data/\Y (X d.2 [])<=131075/\Y data<=65536
def aeV(fmt:L)(data:M ao):∃d at' e,qx fmt data=J (d,at',e)/\Ll fmt data=J (d,at',e)/\(e=0->d.1=fmt/\fY fmt/\avI data d):=by
 unfold qx Ll tj y5 ag;by_cases a:fY fmt;let⟨P,at',e,h1,h2,h3⟩:=avH a data;rw[(wU fmt).2 a];simp only[aB,jI,bM,ca,h1,h2];by_cases b:e=0;subst b;exact⟨(fmt,P),0,0,rfl,rfl,λ_=>⟨rfl,a,h3 rfl⟩⟩;rw[aF (by simpa using b)];grind;have:(fmt==(1:L)||(fmt==(2:L)||fmt==(3:L)))=I:=by grind [wU]
 rw[this];exact⟨(0,O),0,1,rfl,rfl,λh=>by cases h⟩
def aeW{d:Dc}(h1:Y (X d.2 [])<=1073741824)(h2:Y (ep (X d.2 []))<=1073741824):∃e,tw d=J e/\zc d=J e/\(e=0->fY d.1/\Y (X d.2 [])<=131075/\Y (ep (X d.2 []))<=65536):=by
 unfold tw zc tj y5 ag;by_cases a:fY d.1;rw[(wU d.1).2 a];let⟨x,at',e,b,c,f⟩:=aeV d.1 (ep (X d.2 []));simp only[aB,jI,bM,ca,Ck h1 h2,Cl h1 h2,b,c];by_cases g:e=0;subst g;let⟨h,_,i,j,k⟩:=f rfl;rw[aU (by decide),aU (by decide)];unfold Rh ag;rw[aul (by omega),auk (by omega)];by_cases l:X x.2 []=X d.2 [];simp_all;simp_all;simp_all;have:(d.1==(1:L)||(d.1==(2:L)||d.1==(3:L)))=I:=by grind [wU]
 simp_all
def km(P:M dc)(k:U):M U:=(jq k).filter λi=>(H P i (I,[],[])).1
def avJ(P:M dc)(k:U):km P (k+1)=km P k++if(P.getD k (I,[],[])).1=W then[k]else[]:=by unfold km;rw[List.range_succ,List.filter_append];simp[List.filter_cons]
def Co(P:M dc)(k:U):Y (km P k)<=k:=by grind [km]
def Cp{d:Dc}(h:Y (X d.2 [])<=1073741824):nF d=J (aY ((km (X d.2 []) (Y (X d.2 []))).map fQ)):=by
 unfold nF aW au;have:bR (FD d) (O,0)=J (aY ((km (X d.2 []) (Y (X d.2 []))).map fQ)):=by refine eZ (f:=FD d) (Y (X d.2 [])) (λi=>(aY ((km (X d.2 []) i).map fQ),(i:L))) (λi a=>?_) ?_ (cM (cC (by omega)));unfold FD aN au aJ ag al ax aH aA bu;have b:=di (i:=i) (by omega);have c:=Co (X d.2 []) i;rw[dX a,cS a,aF (by simp;omega),b,avJ,jH,eD a];grind [ch,jD];unfold FD aN au aJ ag al ax aH aA bu;rw[gm]
 rw[this];simp
def M2(d:Dc):EP d=nF d:=rfl
def M3{P:M dc}{q:dc}(h:q∈P):Y q.2.2<=Y (ep P):=by obtain⟨a,b,rfl⟩:=List.append_of_mem h;simp[ep];omega
def Ha{d:Dc}(h:∀q∈X d.2 [],Y q.2.2<=67108864)(part:L):∃f e,mP d part=J (f,e)/\ze d part=J (f,e)/\(e=0->fY d.1/\∃k:U,part=(k:L)/\∃q,(X d.2 [])[k]?=J q/\q.1=W/\∃a at',ja d.1 q.2.2=J (f,a,at',0)/\FN d.1 q.2.2=J (a,0)/\UC q.2.2 (f,a,at',0)):=by
 unfold mP ze tj y5 cG aN au ag al;by_cases b:fY d.1;rw[(wU d.1).2 b];simp only[aB,jI,bM,ca];by_cases c:part<0\/part>=Y (X d.2 []);rw[aF (by simp;omega),aF (by simp;omega),aF (by simp;omega),aF (by simp;omega)];grind;obtain⟨k,rfl⟩:=pU (show 0<=part by omega);have hk:k<Y (X d.2 []):=by omega
 have c1:decide ((k:L)<0)=I:=by simp
 have g:decide ((k:L)>=ah (X d.2 []))=I:=by simp;omega
 have i:decide ((0:L)<=(k:L)/\(k:L)<ah (X d.2 []))=W:=by simp;omega
 have j:=h _ (eE hk);grind [aeU,aB];have:(d.1==(1:L)||(d.1==(2:L)||d.1==(3:L)))=I:=by grind [wU]
 rw[this];exact⟨O,1,rfl,rfl,λh=>by cases h⟩
def fa(x:aK):ay:=x.1==2||(x.1==3||x.1==4)
def mh(x y:aK):ay:= !(fa y&&(y.2.2==x.2.2))||(x.1==3&&(y.1==2&&decide (hJ y.2.1=x.2.1)))
def kF(a:M aK)(x:aK):L:=if x.1=1 then(if x.2.1=[]\/x.2.2≠0\/a.getLast?.map (·.1)=J 1 then 1 else 0) else if x.1=5 then(if iw x.2.1=W/\x.2.2=0 then 0 else 1) else if x.1=2\/x.1=4 then(if oL x.2.1=W/\1<=x.2.2/\x.2.2<=999 then(if a.all (mh x)then 0 else 7)else 1) else if x.1=3 then(if iw x.2.1=W/\1<=x.2.2/\x.2.2<=999 then(if a.all (mh x)then 0 else 7)else 1) else 1
theorem dq{α:Type}{xs:M α}{k:U}(h:k<Y xs):decide (0<=(k:L)/\(k:L)<ah xs)=W:=by simp;omega
def wV{f:M aK}{i:U}(h:i<Y f):Y f[i].2.1+1<=bf f:=by
 have e:bf f=bf (f.take i)+bf (f[i]::f.drop (i+1)):=by rw[<-iE,<-xn h,mZ]
 grind [bf]
def avK{o:Q (M aK)}(d:bf (o.getD [])<=1073741824)(x:aK):Lv o x=J ((o.getD []).all (mh x)):=by
 have e:=eP (o.getD []);have a:∀i(h:i<(o.getD []).length),(o.getD [])[i].2.1.length<=1073741824:=λi h=>by have:=wV h;omega
 have b:=wM (f:=FO o x) (o.getD []) (mh x) I 0 (λi h _=>by have c:=auC (a i h);unfold FO mh qB bS aN ag al ax aH aA;dsimp-proj only[aj];rw[nA h,cS h,eY (by omega),c];grind [aq,fa]) (by unfold FO bS aN ag al ax aH aA;dsimp-proj only[aj];rw[gm]) (o.getD []).length 0 fuel (by omega) (cM (cC (by omega))) (by omega);unfold Lv aW;rw[show bR (FO o x) 0=_ from b,aB,List.drop_zero];cases(o.getD []).all (mh x)<;>rfl
def avL{o:Q (M aK)}(d:bf (o.getD [])<=1073741824)(x:aK):bR (y0 o x) 0=J (if(o.getD []).all (mh x)then .inr ()else .inl 7):=by
 have e:=eP (o.getD []);have a:∀i(h:i<(o.getD []).length),(o.getD [])[i].2.1.length<=1073741824:=λi h=>by have:=wV h;omega
 have b:=wM (f:=y0 o x) (o.getD []) (mh x) 7 0 (λi h _=>by have c:=wQ (a i h);unfold y0 mh pA bS aN ag al ax aH aA;dsimp-proj only[aj];rw[nA h,cS h,eY (by omega),c];grind [aq,fa]) (by unfold y0 bS aN ag al ax aH aA;dsimp-proj only[aj];rw[gm]) (o.getD []).length 0 fuel (by omega) (cM (cC (by omega))) (by omega);rw[show bR (y0 o x) 0=_ from b,List.drop_zero]
def avM{o:Q (M aK)}(j:bf (X o [])<=1073741824)(x:aK):KT o x=J (kF (X o []) x):=by
 have k:=avL j x;have l:=eP (X o []);unfold KT kF aW aN au ag al bg;dsimp-proj only[aj];by_cases k1:x.1=1;rw[aF (by simpa using k1),aF k1];cases d:(X o []).getLast? with
 |none=>
  have m:X o []=[]:=by simpa using d
  rw[m];by_cases a:x.2.1=[]<;>by_cases b:x.2.2=0<;>simp[a,b]
 |some y=>
  let⟨q,n⟩:=agT.1 d;have g:=j;rw[n]at l g ⊢;have w:aaX a7 (ah (q++[y])-1)=(Y q:L):=by simp at l ⊢;grind [bV]
  have hd:H (q++[y]) (Y q) (0,[],0)=y:=by simp
  simp only[w,fB,hd];rw[aF (by simp;grind)];by_cases a:x.2.1=[]<;>by_cases b:x.2.2=0<;>by_cases c:y.1=1<;>simp[a,b,c]
 rw[aU (by simpa using k1),aU k1];by_cases k5:x.1=5;rw[aF (by simpa using k5),aF k5,Cj];cases iw x.2.1<;>by_cases b:x.2.2=0<;>simp[b];rw[aU (by simpa using k5),aU k5];by_cases rL:x.1=2\/x.1=4;rw[aF (by rcases rL with h|h<;>simp[h]),aF rL,Uv,k]
 cases oL x.2.1;simp;by_cases e:x.2.2<1;have:¬1<=x.2.2:=by omega
 simp[e,this];by_cases f:x.2.2>999;have:¬x.2.2<=999:=by omega
 simp[e,f,this];have c1:1<=x.2.2:=by omega
 have i:x.2.2<=999:=by omega
 cases(X o []).all (mh x)<;>simp[e,f,c1,i];rw[aU (by simp;omega),aU rL];by_cases k3:x.1=3;rw[aF (by simpa using k3),aF k3,Cj,show abp=y0 from rfl,k];cases iw x.2.1;simp;by_cases e:x.2.2<1;have:¬1<=x.2.2:=by omega
 simp[e,this];by_cases f:x.2.2>999;have:¬x.2.2<=999:=by omega
 simp[e,f,this];have c1:1<=x.2.2:=by omega
 have i:x.2.2<=999:=by omega
 cases(X o []).all (mh x)<;>simp[e,f,c1,i];grind
theorem M4(o:Q (M aK))(i:U):X (ga (bq 0 (i:L)) o) []=(X o []).take i:=by have:∀l:M aK,bq 0 (i:L) l=l.take i:=λl=>gP l 0 i;cases o<;>simp[this]
theorem aeX(f:M aK)(i:U):bf (f.take i)<=bf f:=by grind [iE,mZ]
def gR(f:M aK):L:=if Y f>512\/bL f>1024 then 3 else
 match fX (λi=>match f[i]? with|some x=>(if kF (f.take i) x=0 then O else J (kF (f.take i) x))|none=>O) 0 (Y f) with|some e=>e|none=>0
theorem Cq{o:Q (M aK)}(b:bf (X o [])<=1073741824):BP o=J (gR (X o [])):=by
 have c:=eP (X o []);unfold BP gR aW aJ al;rw[mg b];by_cases c1:Y (X o [])>512;rw[aF (by simp;omega),aF (.inl c1)];rw[aU (by simp;omega),aB];by_cases d:bL (X o [])>1024;grind;rw[aU (by simp;omega),aU (by omega)];rw[ad3 (f:=KU o) (Y (X o [])) (λi=>match(X o [])[i]? with|some x=>(if kF ((X o []).take i) x=0 then O else J (kF ((X o []).take i) x))|none=>O) (λi a=>by have hk:=avM (o:=ga (bq 0 (i:L)) o) (by grind [M4,aeX]) (X o [])[i];rw[M4]at hk;unfold KU cG aN cw aJ ag al ax aH aA;rw[dX a,aF (by simp;omega),aF (dq a),cS a,hk,eD a,eY (by omega)];grind [aB,wL]) (by unfold KU cG aN cw aJ ag al ax aH aA;rw[gm]) (cM (cC (by omega))),aB,ad4]
 grind
def avN{o:Q (M aK)}(d:bf (X o [])<=1073741824){i:U}(hi:i<Y (X o [])):∃b,Lw o (i:L)=J b/\(b=I->kF ((X o []).take i) (X o [])[i]=1)/\(b=W->kF ((X o []).take i) (X o [])[i]=if fa (X o [])[i]=W then(if((X o []).take i).all (mh (X o [])[i])then 0 else 7)else 0):=by
 have e:=eP (X o []);have a:∀j,i=j+1->((X o []).take i).getLast?=(X o [])[j]? :=λj c=>by grind
 unfold Lw kF fa cG aN au ag al bg;dsimp-proj only[aj];rw[aF (dq hi),cS hi];generalize f:(X o [])[i]=x;by_cases k1:x.1=1;rw[aF (by simpa using k1)];simp only[aF k1];have kt:(x.1==2||(x.1==3||x.1==4))=I:=by simp[k1]
 rw[kt];cases i with
 |zero=>grind|succ j=>
  have w:aaX a7 (((j+1:U):L)-1)=(j:L):=by grind [bV]
  have c:j<Y (X o []):=by omega
  have g:(((j+1:U):L)==0)=I:=by grind
  simp_all
 rw[aU (by simpa using k1)];simp only[aU k1];by_cases k5:x.1=5;rw[aF (by simpa using k5),wN];simp_all;rw[aU (by simpa using k5)];simp only[aU k5];by_cases rL:x.1=2\/x.1=4;rw[aF (by rcases rL with h|h<;>simp[h]),Uu]
 simp only[aF rL,aB];have kt:(x.1==2||(x.1==3||x.1==4))=W:=by rcases rL with h|h<;>simp[h]
 grind;rw[aU (by simp;omega)];simp only[aU rL];by_cases k3:x.1=3;rw[aF (by simpa using k3),wN];simp only[aF k3,aB];grind;simp_all
def aeY{o:Q (M aK)}(c:bf (X o [])<=1073741824):zf o=J (gR (X o [])):=by
 have n:=eP (X o []);unfold zf gR aW aJ al;rw[G2 c];by_cases c1:Y (X o [])>512;rw[aF (by simp;omega),aF (.inl c1)];rw[aU (by simp;omega),aB];by_cases p:bL (X o [])>1024;grind;rw[aU (by simp;omega),aU (by omega)];rw[ad3 (f:=Lx o) (Y (X o [])) (λi=>match(X o [])[i]? with|some x=>(if kF ((X o []).take i) x=0 then O else J (kF ((X o []).take i) x))|none=>O) (λi a=>by
  let⟨b,e,k,l⟩:=avN c a
  have d:=avK (o:=ga (bq 0 (i:L)) o) (by grind [M4,aeX]) (X o [])[i]
  rw[M4]at d
  unfold Lx qB bS aN cw ag al ax aH aA
  rw[nA a,cS a,e,d,eD a,eY (by omega)]
  show aq (J b) (λm=>if(!m)=W then _ else aq (J (fa (X o [])[i])) _)=_
  cases b with|false=>simp[k rfl,wL]|true=>have g:=l rfl;cases h:fa (X o [])[i];rw[h]at g;simp at g;simp[g,wL];rw[h]at g;cases j:((X o []).take i).all (mh (X o [])[i]);rw[j]at g;simp at g;simp[g,wL];omega;rw[j]at g;simp at g;simp[g,wL];omega) (by unfold Lx bS aN cw ag al ax aH aA;rw[gm]) (cM (cC (by omega))),aB,ad4]
 grind
def nI(fmt:L)(c:ao):M ao:=if fmt=1 then(if c=60 then[38,108,116,59]else if c=38 then[38,97,109,112,59]else if c=123 then[38,108,98,59]else[c]) else if fmt=2 then(if c=10 then[92,110]else if c=9 then[92,116]else if c=13 then[92,114]else if c=92 then[92,92]else if c=123 then[92,123]else[c]) else if c=34 then[34,34]else if c=123 then[123,123]else[c]
theorem aeZ(fmt:L)(c:ao):Y (nI fmt c)<=5:=by
 unfold nI;repeat' split
 all_goals simp
theorem zD(fmt:L):∀s:M ao,Y (s.flatMap (nI fmt))<=5*Y s|[]=>by simp|c::s=>by have:=zD fmt s;grind [aeZ]
theorem avO(c:ao):kr (G (a6 c))=c:=by grind [a6,UInt8.ofNat_toNat]
def wW(c b:ao):(a6 c==a6 b)=decide (c=b):=by grind [zy]
def avP{fmt:L}(j:fY fmt)(c:ao):BS fmt (a6 c)=J (nI fmt c):=by have b:=wW c 60;have d:=wW c 38;have a:=wW c 123;have e:=wW c 10;have i:=wW c 9;have f:=wW c 13;have g:=wW c 92;have h:=wW c 34;rw[show a6 60=60 from rfl]at b;rw[show a6 38=38 from rfl]at d;rw[show a6 123=123 from rfl]at a;rw[show a6 10=10 from rfl]at e;rw[show a6 9=9 from rfl]at i;rw[show a6 13=13 from rfl]at f;rw[show a6 92=92 from rfl]at g;rw[show a6 34=34 from rfl]at h;unfold BS nI ig ag bu;grind [avO]
def iR(fmt:L)(x:aK):M ao:=if x.1=1 then x.2.1.flatMap (nI fmt)else if x.1=2 then[60]++x.2.1++[62]else if x.1=3 then[60,47]++x.2.1++[62]else if x.1=4 then[60]++x.2.1++[47,62]else if x.1=5 then[123]++x.2.1++[125]else[]
def tV(fmt:L)(x:aK):ay:=fa x&&(fmt !=1||qH (hJ x.2.1))
def mj(fmt:L)(f:M aK):M ao×L:=if gR f=0 then(if f.any (tV fmt)=W then([],7)else(f.flatMap (iR fmt),0))else([],gR f)
theorem avQ(fmt:L)(x:aK):Y (iR fmt x)<=5*(Y x.2.1+1):=by grind [iR,zD]
theorem Hb(fmt:L):∀f:M aK,Y (f.flatMap (iR fmt))<=5*bf f|[]=>by simp|x::f=>by have:=Hb fmt f;grind [avQ,bf]
def wX{σ ρ a:Type}{F:σ->Q (σ⊕ρ⊕a)}(n:U)(st:U->σ)(bad:U->ay)(r:ρ)(z:a)(step:∀i,i<n->F (st i)=if bad i=W then J (.inr (.inl r))else J (.inl (st (i+1))))(stop:F (st n)=J (.inr (.inr z)))(d:n<fuel):bR F (st 0)=J (if(jq n).any bad=W then .inl r else .inr z):=by
 have key:∀(k i m:U),i+k=n->k<m->eC F m (st i)=J (if((jq n).drop i).any bad=W then .inl r else .inr z):=by
  intro k;induction k with
  |zero=>intro i m b c;obtain⟨m,rfl⟩:∃q,m=q+1:=⟨m-1,by omega⟩;simp_all [eC,List.drop_of_length_le]
  |succ k e=>intro i m b c;obtain⟨m,rfl⟩:∃q,m=q+1:=⟨m-1,by omega⟩;grind [eC,xn]
 simp_all [bR]
theorem M5(p:aK->ay)(f:M aK):(jq (Y f)).any (λi=>p (H f i (0,[],0)))=f.any p:=by
 have:(jq (Y f)).map (λi=>H f i (0,[],0))=f:=by apply List.ext_getElem (by simp);grind
 grind
def avR{fmt:L}(a:fY fmt){o:Q (M aK)}{i:U}(hi:i<Y (X o []))(x:aK)(hx:(X o [])[i]=x)(hB:bf (X o [])<=67108864)(acc:M ao)(e:Y acc<=1073741824):bR (BT fmt o (acc,(i:L))) (acc,0)=J (acc++x.2.1.flatMap (nI fmt)):=by
 have b:=wV hi;rw[hx]at b;have c:(acc,(0:L))=(acc++(x.2.1.take 0).flatMap (nI fmt),((0:U):L)):=by simp
 rw[c];refine eZ (f:=BT fmt o (acc,(i:L))) (Y x.2.1) (λk=>(acc++(x.2.1.take k).flatMap (nI fmt),(k:L))) (r:=acc++x.2.1.flatMap (nI fmt)) (λk hk=>?_) ?_ (cM (cC (by omega)));unfold BT iC aN ig aJ cy ax aH aA fA;dsimp-proj only[aj];simp only[cS hi,hx];have d:=di (i:=k) (by omega);have h1:=zD fmt (x.2.1.take k);have h2:=aeZ fmt x.2.1[k];have h3:Y (x.2.1.take k)<=k:=by simp;omega
 rw[dX hk,aF (by simp),aF (by unfold bX;rw[iJ];exact hk)];show aq (BS fmt (a6 (H x.2.1 (G ((k:L))) 0))) _=_;rw[lF hk,avP a,aB,aF (by grind),d,iU hk,uy];simp;unfold BT iC aN ig aJ cy ax aH aA fA;dsimp-proj only[aj];simp_all
def avS{fmt:L}{o:Q (M aK)}(s:M ao×L):abq fmt o s=BT fmt o s:=rfl
def UD{f:M aK}(h:gR f=0){i:U}(hi:i<Y f):f[i].1=1\/f[i].1=2\/f[i].1=3\/f[i].1=4\/f[i].1=5:=by grind [gR,tN,wK,kF]
def UE{fmt:L}{f:M aK}{i:U}(hi:i<Y f):(f.take (i+1)).flatMap (iR fmt)=(f.take i).flatMap (iR fmt)++iR fmt f[i]:=by rw[iU hi,uy];simp
def ae0{fmt:L}(c:fY fmt){o:Q (M aK)}(hB:bf (X o [])<=67108864):Fg fmt o=J (mj fmt (X o [])):=by
 have b:=eP (X o []);unfold Fg mj aW ag;rw[Cq (by omega),aB];by_cases hv:gR (X o [])=0;rw[hv,aU (by decide),aF rfl];have:=wX (F:=KZ fmt o) (Y (X o [])) (λi=>(((X o []).take i).flatMap (iR fmt),(i:L))) (λi=>tV fmt (H (X o []) i (0,[],0))) ([],7) ((X o []).flatMap (iR fmt)) (λi a=>by
  have hk:=UD hv a
  have f:=Hb fmt ((X o []).take i)
  have hT:=zC (X o []) i
  have g:=wV a
  have h:=avR c a _ rfl hB (((X o []).take i).flatMap (iR fmt)) (by omega)
  have d:=di (i:=i) (by omega)
  have e:H (X o []) i (0,[],0)=(X o [])[i]:=by grind
  rw[UE a,e]
  unfold KZ pA bS aW aN au ag al ax aH aA c8 bu iO;dsimp-proj only[aj]
  simp only[avS]
  rw[dX a,aF (dq a)]
  simp only[cS a,d]
  grind [iR,aB,wQ,tV,fa,Uw]) (by
  unfold KZ bS aW aN au ag al ax aH aA c8 bu iO;dsimp-proj only[aj]
  simp_all) (cM (cC (by omega)))
 rw[M5]at this;rw[show(([],0):M ao×L)=(((X o []).take 0).flatMap (iR fmt),((0:U):L)) by simp,this,aB];split<;>rfl;grind
def oM(fmt:L):M (ao×M ao):=if fmt=1 then[(60,[38,108,116,59]),(38,[38,97,109,112,59]),(123,[38,108,98,59])] else if fmt=2 then[(10,[92,110]),(9,[92,116]),(13,[92,114]),(92,[92,92]),(123,[92,123])] else[(34,[34,34]),(123,[123,123])]
def oO(fmt:L):Q (M (M ao)):=J ((oM fmt).flatMap λp=>[[p.1],p.2])
theorem avT(a:ao)(n:M ao)(r:M (ao×M ao))(c:ao):X (eU ((a,n)::r) c) [c]=if c=a then n else(X (eU r c)) [c]:=by grind [eU]
theorem avU(c:ao):X (eU [] c) [c]=[c]:=rfl
theorem avV{fmt:L}(a:fY fmt)(c:ao):X (eU (oM fmt) c) [c]=nI fmt c:=by grind [oM,nI,avT,avU]
theorem ae1{fmt:L}(a:fY fmt)(t:M ao):FQ (oM fmt) t=t.flatMap (nI fmt):=by unfold FQ;congr 1;grind [avV]
theorem avW{fmt:L}(a:fY fmt){t:M ao}(h:Y t<=67108864):B3 (oM fmt) t=W:=by
 unfold B3;rw[ae1 a];have:=zD fmt t;have h1:(decide (2<=Y (oM fmt))&&decide (Y (oM fmt)<=1000)&&decide (((oM fmt).map (·.1)).Nodup)&&(oM fmt).all (λp=>decide (2<=Y p.2)))=W:=by rcases a with rfl|rfl|rfl<;>decide
 grind
theorem avX{fmt:L}(a:fY fmt):wy (X (oO fmt) [])=J (oM fmt):=by rcases a with rfl|rfl|rfl<;>rfl
def pJ(fmt:L)(f:M aK):L×L×M (ao×M ao)×Q (M (M ao)):=if f.any (λx=>x.1==1)=W then(1,0,oM fmt,O)else(0,0,[],oO fmt)
def ae2{fmt:L}(a:fY fmt)(f:M aK){t:M ao}(h:Y t<=67108864)(z:L):tD t ((pJ fmt f).1,(pJ fmt f).2.1,z,(pJ fmt f).2.2)=J (t.flatMap (nI fmt),1,0,oM fmt,O):=by grind [tD,pJ,avW,ae1,avX]
def ae3{fmt:L}{f:M aK}{i:U}(hi:i<Y f):pJ fmt (f.take (i+1))=if f[i].1=1 then(1,0,oM fmt,O)else pJ fmt (f.take i):=by grind [pJ,iU]
def M6{fmt:L}(a:fY fmt):wx (oO fmt)=J (0,0,0,[],oO fmt):=by rcases a with rfl|rfl|rfl<;>rfl
def ae4{o:Q (M aK)}{fmt:L}(b:fmt=2\/fmt=3)(hB:bf (X o [])<=67108864)(hv:gR (X o [])=0):bR (FU o (0,0,0,[],oO fmt)) ([],0,0,0,[],oO fmt)=J (if(X o []).any (tV fmt)=W then .inl ([],7)else .inr ((X o []).flatMap (iR fmt))):=by
 have c:=eP (X o []);have d:fY fmt:=.inr b;have:=wX (F:=FU o (0,0,0,[],oO fmt)) (Y (X o [])) (λi=>(((X o []).take i).flatMap (iR fmt),(i:L),pJ fmt ((X o []).take i))) (λi=>tV fmt (H (X o []) i (0,[],0))) ([],7) ((X o []).flatMap (iR fmt)) (λi a=>by
  have hk:=UD hv a
  have h:=Hb fmt ((X o []).take i)
  have hT:=zC (X o []) i
  have j:=wV a
  have k:=di (i:=i) (by omega)
  have e:H (X o []) i (0,[],0)=(X o [])[i]:=by grind
  have l:=ae2 d ((X o []).take i) (t:=(X o [])[i].2.1) (by omega) 0
  rw[UE a,ae3 a,e]
  have f:(fmt !=1)=W:=by rcases b with rfl|rfl<;>rfl
  have g:=zD fmt (X o [])[i].2.1
  unfold FU bS aN ig au ag al ax aH aA c8 bu;dsimp-proj only[aj]
  simp only[]
  rw[dX a,aF (dq a)]
  grind [cS,iR,tV,fa,aB]) (by
  unfold FU bS aN ig au ag al ax aH aA c8 bu;dsimp-proj only[aj]
  simp_all) (cM (cC (by omega)))
 grind [M5,pJ]
def avY{o:Q (M aK)}(hB:bf (X o [])<=67108864)(hv:gR (X o [])=0):bR (FR o (0,0,0,[],oO 1)) ([],0,0,0,[],oO 1)=J (if(X o []).any (tV 1)=W then .inl ([],7)else .inr ((X o []).flatMap (iR 1))):=by
 have c:=eP (X o []);have e:fY 1:=.inl rfl;have:=wX (F:=FR o (0,0,0,[],oO 1)) (Y (X o [])) (λi=>(((X o []).take i).flatMap (iR 1),(i:L),pJ 1 ((X o []).take i))) (λi=>tV 1 (H (X o []) i (0,[],0))) ([],7) ((X o []).flatMap (iR 1)) (λi a=>by
  have hk:=UD hv a
  have k:=Hb 1 ((X o []).take i)
  have hT:=zC (X o []) i
  have d:=wV a
  have f:=di (i:=i) (by omega)
  have g:H (X o []) i (0,[],0)=(X o [])[i]:=by grind
  have h:=ae2 e ((X o []).take i) (t:=(X o [])[i].2.1) (by omega) 0
  rw[UE a,ae3 a,g]
  have b:=zD 1 (X o [])[i].2.1
  have j:=MW (s:=(X o [])[i].2.1) (by omega)
  unfold FR bS aN ig au ag al ax aH aA c8 bu iO;dsimp-proj only[aj]
  simp only[]
  rw[dX a,aF (dq a)]
  simp only[cS a,f]
  generalize (X o [])[i]=x at *
  generalize ((X o []).take i).flatMap (iR 1)=acc at *
  generalize pJ 1 ((X o []).take i)=rs at *
  let⟨kd,t,id⟩:=x
  have d:Y t+1<=bf (X o []):=d
  simp only[]at b h hk
  unfold tV fa iR
  simp only[j,Ux,aB]
  rcases hk with rfl|rfl|rfl|rfl|rfl
  grind [aB]
  all_goals
   grind) (by
  unfold FR bS aN ig au ag al ax aH aA c8 bu iO;dsimp-proj only[aj]
  simp_all) (cM (cC (by omega)))
 grind [M5,pJ]
def avZ{fmt:L}(a:fY fmt){o:Q (M aK)}(hB:bf (X o [])<=67108864):Ly fmt o=J (mj fmt (X o [])):=by
 have c:=λfmt(a:fY fmt)=>M6 a;unfold Ly mj ag;have b:=aeY (o:=o) (by omega);by_cases hv:gR (X o [])=0;rcases a with rfl|rfl|rfl
 rw[aF (by decide)];unfold FT aW ag;rw[b,aB,hv,aU (by decide)];rw[show J [[60],[38,108,116,59],[38],[38,97,109,112,59],[123],[38,108,98,59]]=oO 1 from rfl,M6 (fmt:=1) (.inl rfl),aB,avY hB hv];simp only[aB,bH];split<;>rfl;rw[aU (by decide),aF (by decide)];unfold FV aW ag;rw[b,aB,hv,aU (by decide)];rw[show J [[10],[92,110],[9],[92,116],[13],[92,114],[92],[92,92],[123],[92,123]]=oO 2 from rfl,M6 (fmt:=2) (.inr (.inl rfl)),aB,ae4 (.inl rfl) hB hv];simp only[aB,bH];split<;>rfl;rw[aU (by decide),aU (by decide)];unfold FW aW ag;rw[b,aB,hv,aU (by decide)];rw[show J [[34],[34,34],[123],[123,123]]=oO 3 from rfl,M6 (fmt:=3) (.inr (.inr rfl)),aB,show bR (abs o _) _=_ from ae4 (.inr rfl) hB hv];simp only[aB,bH];split<;>rfl;simp_all [FT,FV,FW,aW,ag]
def av0(x y:aK):(x.1==y.1&&(decide (x.2.1=y.2.1)&&(x.2.2==y.2.2&&W)))=decide (x=y):=by grind
def ae5{a b:Q (M aK)}(f:Y (X a [])<=1073741824):Ff a b=J (decide (X a []=X b [])):=by
 unfold Ff aW ag al;by_cases d:Y (X a [])=Y (X b []);have c:(ah (X a []) !=ah (X b []))=I:=by simp[bne];omega
 rw[c];refine(MS d (cM (cC (by omega))) (λi h1 h2=>?_) ?_);unfold Rk aN au aJ ag al ax aH aA;rw[dX h1,cS h1,cS h2,av0,aF (by simp;omega),eY (by omega)];by_cases h:(X a [])[i]=(X b [])[i]<;>simp[h];unfold Rk aN au aJ ag al ax aH aA;rw[gm];have c:(ah (X a []) !=ah (X b []))=W:=by simp[bne];omega
 rw[c,ip λe=>d (cb ui e)];rfl
def av1{a b:Q (M aK)}(c:Y (X a [])<=1073741824):LL a b=J (decide (X a []=X b [])):=by have:RA a b=Ff a b:=rfl;unfold LL;rw[this,ae5 c];rfl
def ae6{f:M aK}{i:U}(h:i<Y f):(f.take (i+1)).filter fa=(f.take i).filter fa++(if fa f[i]=W then[f[i]]else[]):=by rw[iU h,List.filter_append];cases a:fa f[i]<;>simp[a]
def ae7{o:Q (M aK)}(d:Y (X o [])<=1073741824):Ga o=J (aY ((X o []).filter fa)):=by
 have:bR (F9 o) (O,0)=J (aY ((X o []).filter fa)):=by
  refine eZ (f:=F9 o) (Y (X o [])) (λi=>(aY (((X o []).take i).filter fa),(i:L))) (λi a=>?_) ?_ (cM (cC (by omega)));have c:=CM fa ((X o []).take i);have b:Y ((X o []).take i)<=Y (X o []):=by simp;omega
  unfold F9 qB bS aN au ag al ax aH aA bu;rw[ae6 a,nA a,cS a,eY (by omega)];grind [fa,aB,ch,jD];unfold F9 bS aN au ag al ax aH aA bu;simp_all
 unfold Ga aW au;rw[this];simp
def ae8{o:Q (M aK)}(d:Y (X o [])<=1073741824):E5 o=J (aY ((X o []).filter fa)):=by
 have:bR (E4 o) (O,0)=J (aY ((X o []).filter fa)):=by
  refine eZ (f:=E4 o) (Y (X o [])) (λi=>(aY (((X o []).take i).filter fa),(i:L))) (λi a=>?_) ?_ (cM (cC (by omega)));have c:=CM fa ((X o []).take i);have b:Y ((X o []).take i)<=Y (X o []):=by simp;omega
  unfold E4 pA bS aN au ag al ax aH aA bu;rw[ae6 a,nA a,cS a,eY (by omega)];show aq (J (fa (X o [])[i])) _=_;rw[aB,ch];cases e:fa (X o [])[i];simp;rw[aF (by simp;omega)];simp[jD];unfold E4 bS aN au ag al ax aH aA bu;simp_all
 unfold E5 aW au;rw[this];simp
abbrev Shp:=Q (M L)×Q (M L)×ay
def ae9{o:Q (M aK)}(t:Y (X o [])<=1073741824):∃r:Shp,F7 o=J r/\EZ o=J r/\Y (X r.1 [])<=Y (X o [])/\Y (X r.2.1 [])<=Y (X o []):=by
 have key:=qE (f:=RC o) (g:=Rj o) (λx y=>x=y/\∃(i:U)(p q:Q (M L)),x=(p,q,(i:L))/\i<=Y (X o [])/\Y (X p [])<=i/\Y (X q [])<=i) (λr q=>r=q/\((r=.inl (O,O,I))\/∃p q:Q (M L),r=.inr (p,q)/\Y (X p [])<=Y (X o [])/\Y (X q [])<=Y (X o [])))
  (λx=>Y (X o [])-G x.2.2) (λx y h=>by
    obtain⟨rfl,i,p,q,rfl,h1,h2,h3⟩:=h
    unfold RC Rj bS aN au ag al ax bg aH aA bu;dsimp-proj only[aj]
    simp only[]
    rcases je i (Y (X o [])) with a|a
    have w:=di (i:=i) (by omega)
    rw[nA a,nA a,cS a,w,dq a]
    generalize (X o [])[i]=x
    by_cases k2:x.1=2
    left
    refine⟨_,_,?_,?_,⟨rfl,i+1,p,J (X q []++[x.2.2]),rfl,by omega,by omega,by simp;omega⟩,by simp only[];omega⟩
    simp[k2];omega
    simp[k2];omega
    by_cases k3:x.1=3
    by_cases u:Y (X q [])=0
    left
    have b:(ah (X q [])==0)=W:=by simp_all
    refine⟨_,_,?_,?_,⟨rfl,i+1,J (X p []++[x.2.2]),q,rfl,by omega,by simp;omega,by omega⟩,by simp only[];omega⟩
    grind
    grind
    have b:(ah (X q [])==0)=I:=by simp_all
    have d:aaX a7 (ah (X q [])-1)=((Y (X q [])-1:U):L):=by grind [ef,bV]
    have e:aad (ga (bq 0 ((Y (X q [])-1:U):L)) q)=aad q:=by cases q<;>rfl
    have j:Y (X (ga (bq 0 ((Y (X q [])-1:U):L)) q) [])<=i:=by
     cases q with|none=>simp|some l=>grind [bq]
    simp only[b,d,e]
    by_cases c:H (X q []) (0+G (((Y (X q [])-1:U):L))) 0=x.2.2
    left
    refine⟨_,_,?_,?_,⟨rfl,i+1,p,ga (bq 0 ((Y (X q [])-1:U):L)) q,rfl,by omega,by omega,by omega⟩,by simp only[];omega⟩
    rw[aU (by simpa using k2),aU (by simp),aF (by simp[c7];omega),aF (by rw[c];simp[k3]),aF (by simp)]
    rw[aU (by simpa using k2),aF (by simpa using k3),aU (by simp),aF (by simp[c7];omega),aF (by rw[c];simp),aF (by simp)]
    right
    refine⟨_,_,?_,?_,⟨rfl,.inl rfl⟩⟩
    rw[aU (by simpa using k2),aU (by simp),aF (by simp[c7];omega),aU (by grind),aF (by simpa using k3)]
    rw[aU (by simpa using k2),aF (by simpa using k3),aU (by simp),aF (by simp[c7];omega),aU (by simpa using c)]
    left
    have k:(x.1==3)=I:=by simpa using k3
    refine⟨_,_,?_,?_,⟨rfl,i+1,p,q,rfl,by omega,by omega,by omega⟩,by simp only[];omega⟩
    grind
    grind
    right
    rw[show i=Y (X o []) by omega,gm,gm]
    grind) (x:=(O,O,0)) (y:=(O,O,0)) ⟨rfl,0,O,O,rfl,by omega,by simp,by simp⟩ (kM (xo _ _) (cM (cC (by omega))))
 obtain⟨r,q,m,n,rfl,s⟩:=key;unfold F7 EZ aW au;rw[m,n];rcases s with rfl|⟨p,q,rfl,h1,h2⟩
 simp_all;simp_all
def av3{V:Type}(x:L):dr (V:=V) (.int .i64) x []=O:=rfl
theorem Hc{V:Type}(x:L)(r:L×V)(l:M (L×V)):dr (.int .i64) x (r::l)=if x=r.1 then J r.2 else dr (.int .i64) x l:=by
 show(match(x==r.1)with|true=>J r.2|false=>dr (.int .i64) x l)=_
 grind
def UF{V:Type}(x:L)(y:V)(r:L×V)(l:M (L×V)):fV (.int .i64) x y (r::l)=if x=r.1 then(x,y)::l else r::fV (.int .i64) x y l:=by
 show(match(x==r.1)with|true=>(x,y)::l|false=>r::fV (.int .i64) x y l)=_
 grind
def av4{V:Type}(x:L)(y:V):fV (.int .i64) x y []=[(x,y)]:=rfl
def afa{V:Type}(z x:L)(y:V):∀l:M (L×V),dr (.int .i64) z (fV (.int .i64) x y l)=if z=x then J y else dr (.int .i64) z l|[]=>by rw[av4,Hc]|r::l=>by rw[UF];by_cases h:x=r.1;grind [Hc];rw[aU h,Hc,Hc,afa z x y l];grind
def oP(out:M L)(x:aK):M L:=if fa x=W/\x.2.2 ∉ out then out++[x.2.2]else out
def kn(f:M aK):M L:=f.foldl oP []
def afb{f:M aK}{i:U}(h:i<Y f):kn (f.take (i+1))=oP (kn (f.take i)) f[i]:=by grind [iU,kn]
theorem M7:∀(f:M aK)(out:M L),Y (f.foldl oP out)<=Y out+Y f|[],out=>by simp|x::f,out=>by have:=M7 f (oP out x);grind [oP]
def afc(f:M aK){i:U}(h:i<=Y f):Y (kn (f.take i))<=i:=by grind [M7,kn]
def afd(n:L):∀out:M L,dr (.int .i64) n (out.map λk=>(k,W))=if n∈out then J W else O|[]=>rfl|k::out=>by rw[fc,Hc,afd n out];grind
theorem afe(n:L):∀out:M L,n ∉ out->fV (.int .i64) n W (out.map λk=>(k,W))=(out++[n]).map λk=>(k,W)|[],_=>rfl|k::out,h=>by simp at h;rw[fc,UF,aU h.1,afe n out h.2];rfl
def av5{o:Q (M aK)}(c:Y (X o [])<=1073741824):LH o=J (aY (kn (X o []))):=by
 have:bR (F2 o) (O,[],0)=J (aY (kn (X o []))):=by refine eZ (f:=F2 o) (Y (X o [])) (λi=>(aY (kn ((X o []).take i)),(kn ((X o []).take i)).map (λk=>(k,W)),(i:L))) (λi a=>?_) ?_ (cM (cC (by omega)));have b:=afc (X o []) (Nat.le_of_lt a);rw[afb a];unfold F2 qB oP bS aN au ag al ax aH aA bu;dsimp-proj only[aj];simp only[];rw[nA a,cS a,eY (by omega),afd];grind [fa,aB,ch,afe,jD];unfold F2 bS aN au ag al ax aH aA bu;dsimp-proj only[aj];simp_all
 unfold LH aW au;rw[this];simp
def av6{o:Q (M L)}(c:(o.getD []).length<=1073741824)(n:L):KW o n=J (decide (n∈o.getD [])):=by
 have st:∀i(a:i<(o.getD []).length),BQ o n (i:L)=if(o.getD [])[i]=n then J (.inr (.inl W))else J (.inl ((i+1:U):L)):=λi a=>by unfold BQ au aJ ag al ax aH aA;rw[dX a,aF (by simp[c7,a]),sj,cS a,eY (by omega)];by_cases h:(o.getD [])[i]=n<;>simp[h]
 have:=aa6 (f:=BQ o n) (λi=>(i:L)) (o.getD []).length (λi=>(o.getD [])[i]?≠J n) (.inl W) (.inr ()) (λi a b=>by grind) (λi a b=>by grind) (by unfold BQ au aJ ag al ax aH aA;rw[gm]) (cM (cC (by omega)));unfold KW aW;by_cases h:n∈o.getD [];simp_all [List.getElem_of_mem];rw[show bR (BQ o n) 0=_ from this.1 λi a e=>h (List.mem_of_getElem? e),ip h];rfl
def av7{o:Q (M aK)}(d:Y (X o [])<=1073741824):BR o=J (aY (kn (X o []))):=by
 have:bR (E9 o) (O,0)=J (aY (kn (X o []))):=by refine eZ (f:=E9 o) (Y (X o [])) (λi=>(aY (kn ((X o []).take i)),(i:L))) (λi a=>?_) ?_ (cM (cC (by omega)));have c:=afc (X o []) (Nat.le_of_lt a);have b:=av6 (o:=aY (kn ((X o []).take i))) (by rw[ch];omega) (X o [])[i].2.2;rw[ch]at b;rw[afb a];unfold E9 pA oP bS cG aN au ag al ax aH aA bu;dsimp-proj only[aj];simp only[];rw[nA a,cS a,eY (by omega),b];grind [fa,aB,ch,dq,jD];unfold E9 bS cG aN au ag al ax aH aA bu;dsimp-proj only[aj];simp_all
 unfold BR aW au;rw[this];simp
def cnt(n:U):M L:=(jq n).map λ(j:U)=>(j:L)+1
theorem aff(n:U):cnt (n+1)=cnt n++[(n:L)+1]:=by simp[cnt,List.range_succ]
theorem M8(n:U):Y (cnt n)=n:=by simp[cnt]
def afg{n k:U}(h:k<n):H (cnt n) k 0=(k:L)+1:=by rw[jH];simp[cnt,h]
def av8{n:U}(d:n<=1073741824):F5 (n:L)=J (J (cnt n)):=by
 have:bR (F4 (n:L)) (ej n 0,0)=J (cnt n):=by
  have a:=eZ (f:=F4 (n:L)) n (λi=>(cnt i++ej (n-i) 0,(i:L))) (r:=cnt n) (λi e=>?_) ?_ (cM (cC (by omega)));simpa[cnt]using a;have b:=M8 i;have c:ej (n-i) (0:L)=0::ej (n-(i+1)) 0:=by rw[show n-i=(n-(i+1))+1 by omega,List.replicate_succ]
  have g:(cnt i++(0:L)::ej (n-(i+1)) 0).set i ((i:L)+1)=cnt (i+1)++ej (n-(i+1)) 0:=by simp_all [aff]
  unfold F4 au aJ ax aH aA;rw[c,aF (by simp;omega),aF (by simp[c7,b];omega)];grind [bV];simp_all [F4,au,aJ,ax,aH,aA]
 unfold F5 aW cw;rw[aF (by simp;omega),fB,this];rfl
def av9{n:U}(a:n<=1073741824):Fe (n:L)=J (aY (cnt n)):=by
 have:bR (Fc (n:L)) (O,1)=J (aY (cnt n)):=by refine eZ (f:=Fc (n:L)) n (λi=>(aY (cnt i),(i:L)+1)) (λi b=>?_) ?_ (cM (cC (by omega)));grind [M8,Fc,ch,jD,aff,bV];grind [Fc]
 unfold Fe aW au;rw[this];simp
def sa(z:L):M L->U->Q L|[],_=>O|a::r,k=>if z=a then J ((k:L)+1)else sa z r (k+1)
def afh(z:L):∀(l:M L)(a:U),z∈l->∃k,sa z l a=J (((a+k:U):L)+1)/\l[k]?=J z/\∀j,j<k->l[j]?≠J z|b::r,a,h=>by by_cases c:z=b;grind [sa];let⟨k,h1,h2,h3⟩:=afh z r (a+1) ((iG.1 h).resolve_left c);refine⟨k+1,by grind [sa],h2,λj d=>?_⟩;grind
def awa{ns:M L}(l:Y ns<=1073741824){o t:Q (M L)}(c:X o []=ns)(d:X t []=cnt (Y ns)):∃m,bR (LI o t) ([],aaX a7 (ji (ah ns) (ah (cnt (Y ns)))-1))=J m/\∀z,dr (.int .i64) z m=sa z ns 0:=by
 have g:=M8 (Y ns);have k:ji (ah ns) (ah (cnt (Y ns)))=(Y ns:L):=by simp_all [ji]
 rw[k,eY (by omega)];refine gl (f:=LI o t) (λs=>∃i:U,i<=Y ns/\s.2=(i:L)-1/\∀z,dr (.int .i64) z s.1=sa z (ns.drop i) i) (λs=>G (s.2+1)) (λm=>∀z,dr (.int .i64) z m=sa z ns 0) (λs h=>?_) _ ⟨Y ns,by omega,rfl,λz=>by rw[List.drop_length];exact av3 z⟩ (cM (cC (by simp only[];omega)));let⟨m,n⟩:=s;obtain⟨i,p,rfl,b⟩:=h;simp only[]at b;unfold LI aN au aJ al bg aH aA;simp only[c,d];cases i with
 |zero=>grind|succ j=>
  have e:((j+1:U):L)-1=(j:L):=by omega
  have a:j<Y ns:=by omega
  rw[e,aF (by simp),aF (by simp[g];omega),cS a,fB,afg a];refine⟨⟨j,by omega,by grind [bV],λz=>?_⟩,by grind [bV]⟩;simp only[];rw[afa,b z,xn a,sa]
def kG(ns:M L)(x:aK):M aK:=if fa x=W then(match sa x.2.2 ns 0 with|some n=>[(x.1,x.2.1,n)]|none=>[])else[x]
theorem He(ns:M L):∀f:M aK,bf (f.flatMap (kG ns))<=bf f/\Y (f.flatMap (kG ns))<=Y f|[]=>by simp[bf]|x::f=>by let⟨h1,h2⟩:=He ns f;grind [bf,kG]
def afi{ns:M L}{f:M aK}{i:U}(h:i<Y f):(f.take (i+1)).flatMap (kG ns)=(f.take i).flatMap (kG ns)++kG ns f[i]:=by rw[iU h,uy];simp
def awb{f:Q (M aK)}(hB:bf (X f [])<=536870912){ns:M L}(b:Y ns<=1073741824){o t:Q (M L)}(c:X o []=ns)(d:X t []=cnt (Y ns)):LJ f o t=J (aY (df ((X f []).flatMap (kG ns)))):=by
 have k:=eP (X f []);let⟨m,e,g⟩:=awa b c d;have:bR (F3 f m) (O,0)=J (aY ((X f []).flatMap (kG ns))):=by
  refine eZ (f:=F3 f m) (Y (X f [])) (λi=>(aY (((X f []).take i).flatMap (kG ns)),(i:L))) (λi a=>?_) ?_ (cM (cC (by omega)));have h2:=(He ns ((X f []).take i)).2;have h3:Y ((X f []).take i)<=Y (X f []):=by simp;omega
  rw[afi a];unfold F3 qB kG bS aN au ag al ax aH aA bu;dsimp-proj only[aj];simp only[];rw[nA a,cS a,eY (by omega),g];show aq (J (fa (X f [])[i])) _=_;rw[aB,ch];generalize (X f [])[i]=x at *;change (Y (((X f []).take i).flatMap (kG ns))<=_)at h2;generalize h:((X f []).take i).flatMap (kG ns)=out at *;have j:((X f []).take i).flatMap (λx=>if fa x=W then(match sa x.2.2 ns 0 with|some n=>[(x.1,x.2.1,n)]|none=>[])else[x])=out:=h
  grind [jD];unfold F3 bS aN au ag al ax aH aA bu;dsimp-proj only[aj];simp_all
 grind [LJ,aB,aeQ,ch,He]
def awc{f:Q (M aK)}(hB:bf (X f [])<=536870912){ns:M L}(v:Y ns<=1073741824){o t:Q (M L)}(n:X o []=ns)(p:X t []=cnt (Y ns)) (c:∀x∈X f [],fa x=W->x.2.2∈ns):KX f o t=J (aY (df ((X f []).flatMap (kG ns)))):=by
 have w:=eP (X f []);have g:=M8 (Y ns);have:bR (Fb f o t) (O,0)=J (aY ((X f []).flatMap (kG ns))):=by
  refine eZ (f:=Fb f o t) (Y (X f [])) (λi=>(aY (((X f []).take i).flatMap (kG ns)),(i:L))) (λi d=>?_) ?_ (cM (cC (by omega)));have h2:=(He ns ((X f []).take i)).2;have h3:Y ((X f []).take i)<=Y (X f []):=by simp;omega
  have h:=c _ (eE d);rw[afi d];generalize y:((X f []).take i).flatMap (kG ns)=out at *;unfold Fb pA bS aW aN au ag al ax aH aA bu;simp only[];rw[nA d,cS d,eY (by omega)];show aq (J (fa (X f [])[i])) _=_;rw[aB,ch];by_cases hk:fa (X f [])[i]=W;let⟨k,r,l,s⟩:=afh (X f [])[i].2.2 ns 0 (h hk);rw[sj]at r;have b:k<Y ns:=(ik.1 l).1;have a:bR (Fa f o t (aY out,(i:L))) 0=J (out++[((X f [])[i].1,(X f [])[i].2.1,(k:L)+1)]):=by refine eZ (f:=Fa f o t (aY out,(i:L))) k (λj=>(j:L)) (λj u=>?_) ?_ (cM (cC (by omega)));have e:j<Y ns:=(by omega);have m:=s j u;rw[eD e]at m;have q:(ns[j]==(X f [])[i].2.2)=I:=(by grind);unfold Fa cG aN au ag al ax aH aA bu;rw[n,p,aF (by simp[g];omega),aF (by simp;omega),cS e];grind [bV];rw[eD b]at l;have q:(ns[k]==(X f [])[i].2.2)=W:=(by simpa using l);unfold Fa cG aN au ag al ax aH aA bu;rw[n,p,aF (by simp[g];omega),aF (by simp;omega),cS b];simp only[];rw[cS d,q,aF rfl,ch,aF (by simp[g];omega),fB,afg b]
  grind [aB,kG,jD];grind [kG,jD];unfold Fb bS aW aN au ag al ax aH aA bu;simp_all
 grind [KX,aB,ad8,ch,He]
def awd{out:M L}{n:L}(h:n∈out)(x:aK):n∈oP out x:=by grind [oP]
theorem afj:∀(f:M aK){out:M L}{n:L},n∈out->n∈f.foldl oP out|[],_,_,h=>h|x::f,_,_,h=>afj f (awd h x)
def afk:∀(f:M aK)(out:M L),∀x∈f,fa x=W->x.2.2∈f.foldl oP out
 |y::f,out,x,h,hk=>by
  rcases iG.1 h with rfl|h
  grind [afj,oP];exact afk f (oP out y) x h hk
def UG(f:M aK):M aK:=df (f.flatMap (kG (kn f)))
def awe{o:Q (M aK)}(hB:bf (X o [])<=536870912):LK o=J (aY (UG (X o []))):=by
 have b:=eP (X o []);have c:=M7 (X o []) [];unfold LK al;rw[av5 (by omega),aB,ch];show aq (F5 ((Y (kn (X o [])):U):L)) _=_;have a:Y (kn (X o []))<=1073741824:=by grind [kn]
 rw[av8 a,aB,awb hB a (ch _) rfl];rfl
def awf{o:Q (M aK)}(hB:bf (X o [])<=536870912):KY o=J (aY (UG (X o []))):=by
 have c:=eP (X o []);have d:=M7 (X o []) [];unfold KY al;rw[av7 (by omega),aB,ch];show aq (Fe ((Y (kn (X o [])):U):L)) _=_;have a:Y (kn (X o []))<=1073741824:=by grind [kn]
 rw[av9 a,aB,awc hB a (ch _) (ch _) λx b hk=>afk _ [] x b hk];rfl
def zE{σ ρ a:Type}{F:σ->Option (σ⊕ρ⊕a)}(n:Nat)(st:Nat->σ)(bad:Nat->Option ρ)(z:a) (step:∀i,i<n->(∀j,j<i->bad j=O)->F (st i)=match bad i with|some r=>J (.inr (.inl r))|none=>J (.inl (st (i+1)))) (stop:(∀j,j<n->bad j=O)->F (st n)=J (.inr (.inr z)))(c:n<fuel):bR F (st 0)=J (match fX bad 0 n with|some r=>.inl r|none=>.inr z):=by
 have key:∀(k i m:Nat),i+k=n->k<m->(∀j,j<i->bad j=O)->eC F m (st i)=J (match fX bad i k with|some r=>.inl r|none=>.inr z):=by
  intro k;induction k with
  |zero=>intro i m d e b;obtain⟨m,rfl⟩:∃q,m=q+1:=⟨m-1,by omega⟩;obtain rfl:i=n:=(by omega);unfold eC;rw[stop b];rfl
  |succ k g=>intro i m d e b;obtain⟨m,rfl⟩:∃q,m=q+1:=⟨m-1,by omega⟩;unfold eC fX;grind
 exact key n 0 fuel (by omega) c (λj f=>cJ f (Nat.not_lt_zero _))
theorem afl{f:List aK}(h:gR f=0):Y f<=512/\bL f<=1024/\∀i(hi:i<Y f),kF (f.take i) f[i]=0:=by grind [gR,tN,wK]
theorem awg{s:List UInt8}(h:iw s=W):Y s<=24:=by simp_all [iw]
theorem awh{s:List UInt8}(h:oL s=W):Y s<=64:=by simp_all [oL]
theorem awi{b:List aK}{x:aK}(h:kF b x=0):Y x.2.1+1<=wid x+65/\∀fmt,Y (iR fmt x)<=5*wid x+67:=by grind [kF,awg,awh,wid,iR,zD]
theorem wY{f:List aK}(h:gR f=0):bf f<=34304/\∀fmt,Y (f.flatMap (iR fmt))<=39424:=by
 let⟨h1,h2,h3⟩:=afl h;have key:∀k,k<=Y f->bf (f.take k)<=bL (f.take k)+65*k/\∀fmt,Y ((f.take k).flatMap (iR fmt))<=5*bL (f.take k)+67*k:=by
  intro k;induction k with|zero=>simp_all [bf]|succ k a=>grind [awi,G1,List.take_succ_eq_append_getElem,bf]
 grind [List.take_length]
section
variable(rs:List (Int×Int))(ts:List (Option (List aK)))(cs:List Nat)(raw:List UInt8)(f:List aK)(fmt:Int)
def gn:Nat->Int|0=>0|i+1=>(H rs i (0,0)).2
def nJ:Nat->Int|0=>0|i+1=>((H cs (G (H rs i (0,0)).2) 0:Nat):Int)
def oQ(i:Nat):List aK:=X (H ts i O) []
def sS:Nat->List UInt8|0=>[]|i+1=>sS i++(bq (nJ rs cs i) ((H cs (G (H rs i (0,0)).1) 0:Nat):Int) raw++(mj fmt (oQ ts i)).1)
def wS:Nat->List aK|0=>[]|i+1=>df (df (wS i++(X (eT f (gn rs i) (H rs i (0,0)).1).1 []))++oQ ts i)
def Cr(i:Nat):ay:=decide (gn rs i<=(H rs i (0,0)).1/\(H rs i (0,0)).1<=(H rs i (0,0)).2/\(H rs i (0,0)).2<=bL f)
def zG:ay:= !(List.range (Y rs)).any λi=> !Cr rs f i
end
def iS{α:Type}{l:List α}{i:Nat}{d:α}(h:i<Y l):H l i d=l[i]:=by grind
theorem M9(rs:List (Int×Int))(i:Nat):gn rs (i+1)=(H rs i (0,0)).2:=rfl
def awj{o:Option (List (Int×Int))}(b:Y (X o [])<=1073741824)(f:List aK):Lt o (bL f:Int)=J (zG (X o []) f):=by
 unfold Lt aW;have:=wX (F:=Ls o (bL f:Int)) (Y (X o [])) (λi=>(gn (X o []) i,(i:Int))) (λi=> !Cr (X o []) f i) I () (λi a=>by
  have c:=di (i:=i) (by omega)
  unfold Ls bS aN ag al ax aH aA;dsimp-proj only[aj]
  simp only[]
  rw[dX a,aF (dq a)]
  grind [Cr,gn]) (by
  unfold Ls bS aN ag al ax aH aA;dsimp-proj only[aj]
  simp_all) (Nat.lt_of_succ_lt (cC (by omega)))
 rw[show((0,0):Int×Int)=(gn (X o []) 0,((0:Nat):Int))from rfl,this,aB];unfold zG;split;rename_i h;rw[h];rfl;simp_all
def awk{o:Option (List (Int×Int))}(b:Y (X o [])<=1073741824){g:Option (List aK)}(c:bf (X g [])<=1073741824)(e:Int):bR (Fh o (g,e)) (0,0)=J (if zG (X o []) (X g [])=W then .inr ()else .inl (1,0,O)):=by
 have:=wX (F:=Fh o (g,e)) (Y (X o [])) (λi=>(gn (X o []) i,(i:Int))) (λi=> !Cr (X o []) (X g []) i) (1,0,O) () (λi a=>by
  have d:=di (i:=i) (by omega)
  unfold Fh bS aN aJ al ax aH aA;dsimp-proj only[aj]
  simp only[]
  rw[dX a,aF (dq a)]
  unfold Cr
  grind [aB,mg,gn]) (by
  unfold Fh bS aN aJ al ax aH aA;dsimp-proj only[aj]
  simp_all) (Nat.lt_of_succ_lt (cC (by omega)))
 grind [gn,zG]
end Go.Fd
